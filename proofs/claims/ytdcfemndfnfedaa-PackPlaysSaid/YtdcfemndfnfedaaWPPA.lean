import Derived.Test.YtdcfemndfnfedaaQL
import Derived.Test.YtdcfemndfnfedaaRG
import Derived.Test.YtdcfemndfnfedaaRB
set_option maxRecDepth 100000
set_option maxHeartbeats 4000000
set_option linter.unusedVariables false
set_option linter.unusedSimpArgs false
namespace Go.Proofs.Ytdcfemndfnfedaa
open Go.RowKit Go.Proofs.YtdcfemndfnfedaaW.PrintLast
structure Glaw04_Op where
  fKind : Int
  fAt : Int
  fN : Int
  fText : ByteArray
  fPoints : Bool
  deriving DecidableEq
def Glaw04_Op.enc (e : Glaw04_Op) : List Value := [.int .i64 e.fKind, .int .i64 e.fAt, .int .u32 e.fN, .string e.fText, .bool e.fPoints]
structure Gpack_Packer where
  fb : List Int
  fplaces : List (ByteArray × Int)
theorem bld67_0  : ∀ W, (Instr.build 67 #[]).run Try.prog W = .ok (.agg #[.slice none 0 0, .map none]) W := fun _ => by kernel_rfl
noncomputable def m_pack_New  : Option Gpack_Packer :=
  some (⟨([] : List Int), ([] : List (ByteArray × Int))⟩ : Gpack_Packer)
theorem c_pack_New {w0 : World} {M : Nat → Prop} {H : List (Nat × Nat × Obj)} {R : List (Nat × Row)} {φ : World → Prop}  (r : Gpack_Packer) (hm : m_pack_New = some r) :
    Cn Try.prog 25 #[] ⟨w0, M, H, R, φ⟩ (fun x : Option Addr × Nat × Option Addr × Nat × Nat => .pointer (some ⟨x.2.2.2.2, 0, none⟩)) (fun x => r.fb.length ≤ x.2.1 ∧ True) (fun x => ⟨w0, M, (3000, x.2.2.2.2, .cells #[.slice x.1 r.fb.length x.2.1, mapV x.2.2.1] 67 (0, 0)) :: H, (2000, ⟨.slice x.1 r.fb.length x.2.1, 5, 1, r.fb.length, r.fb.flatMap (fun x : Int => [Value.int .u8 x])⟩) :: (2001, ⟨mapV x.2.2.1, 65, 2, r.fplaces.length, r.fplaces.flatMap (mcell (fun x : ByteArray => Value.string x) (fun x : Int => Value.int .i64 x))⟩) :: R, φ⟩) := by
 unfold m_pack_New at hm
 refine cn_intro (fn := Try.f25) (N := 3) Try.func25 rfl Try.ntmps25 rfl ?_
 refine c_seq ?_
 refine c_region ?_
 refine g_v rfl r_assign ?_
 refine g_nil ?_
 refine d_then ?_
 refine c_seq ?_
 refine c_region ?_
 refine g_v rfl (r_build _ rfl (bld67_0)) ?_
 refine g_e rfl (e_box 100020 rfl) (fun g1 _ => ?_)
 refine g_v rfl r_assign ?_
 refine g_nil ?_
 refine d_then ?_
 refine c_ret ?_
 replace hm := Option.some.inj hm
 subst hm
 refine d_sta _ (fun W h => nilR h 11 5 1) ?_
 refine d_sta _ (fun W h => nilM h 12 65) ?_
 refine d_sta _ (fun W h => ok_frontR (t := 12) (t' := 2001) h rfl) ?_
 refine d_sta _ (fun W h => ok_frontR (t := 11) (t' := 2000) h rfl) ?_
 refine d_sta _ (fun W h => ok_front (t := 100020) (t' := 3000) h rfl) ?_
 refine d_retC (none, 0, none, 0, g1) Try.results25 ?_ ⟨(Nat.le_refl 0), trivial⟩ (fun W h => h.phi (fun W hφ => hφ)) (.inr rfl)
 refine res_tmp ?_
 refine res_nil ?_
 exact rfl

theorem lit9_1 (z0 : ByteArray) : Try.prog.builtSlice 9 1 [(0, .string z0)] = some #[.string z0] := by kernel_rfl
theorem inf9_2  : (Try.prog.info? 9).map (fun i => (i.zero, i.size, i.bytes)) = some (some (.string (⟨#[]⟩ : ByteArray)), 1, 16) := by kernel_rfl
noncomputable def m_name_Labels (p0 : ByteArray) : Option ((List ByteArray) × Int) :=
  (eachM p0).bind fun _ =>
  if (eachP p0).2 ≠ w64 ((p0.size : Int) - 1) then
    some (([] : List ByteArray), 10)
  else
    if (eachP p0).2 < 0 then
      some (([] : List ByteArray), 10)
    else
      if 255 < (p0.size : Int) then
        some (([] : List ByteArray), 11)
      else
        some (((eachP p0).1.map Prod.snd), 0)
theorem c_name_Labels {w0 : World} {M : Nat → Prop} {H : List (Nat × Nat × Obj)} {R : List (Nat × Row)} {φ : World → Prop} (p0 : ByteArray) (r : (List ByteArray) × Int) (hm : m_name_Labels p0 = some r) :
    Cn Try.prog 42 #[.string p0] ⟨w0, M, H, R, φ⟩ (fun x : Option Addr × Nat => .tuple #[.slice x.1 r.1.length x.2, .int .i64 r.2]) (fun x => r.1.length ≤ x.2) (fun x => ⟨w0, M, H, (2000, ⟨.slice x.1 r.1.length x.2, 9, 1, r.1.length, r.1.flatMap (fun x : ByteArray => [Value.string x])⟩) :: R, φ⟩) := by
 unfold m_name_Labels at hm
 refine cn_introM (fn := Try.f42) (N := 31) Try.func42 rfl Try.ntmps42 rfl ?_
 refine c_seq ?_
 refine c_region ?_
 refine g_v rfl r_assign ?_
 refine g_v rfl r_assign ?_
 refine g_nil ?_
 refine d_then ?_
 refine c_seq ?_
 refine c_region ?_
 refine g_e rfl (e_alloc 100040 Try.zeroValue44) (fun g1 _ => ?_)
 refine g_nil ?_
 refine d_then ?_
 refine c_seq ?_
 refine c_region ?_
 refine g_e rfl (e_alloc 100050 Try.zeroValue3) (fun g2 _ => ?_)
 refine g_storeL (tag := 100050) rfl rfl rfl rfl Try.sizeOf3 rfl rfl ?_
 refine g_nil ?_
 refine d_then ?_
 refine c_seq ?_
 refine c_seq ?_
 refine c_region ?_
 refine g_v rfl r_move ?_
 refine g_cn ⟨w0, M, _, _, φ⟩ (fun _ h => h) Try.call66 rfl rfl (c_each p0 g2) (fun ⟨g3, g4⟩ _ => ?_)
 refine g_sta _ (fun W h => ok_front (t := 3000) (t' := 100095) (ok_front (t := 3001) (t' := 100096) h rfl) rfl) ?_
 refine g_nil ?_
 refine d_then ?_
 refine c_block ?_
 refine c_sta _ (fun W h => nilR (ok_front (t := 100050) (t' := 0) (ok_front (t := 100095) (t' := 1) (ok_front (t := 100096) (t' := 2) (ok_front (t := 100040) (t' := 3) h rfl) rfl) rfl) rfl) 4 9 1) ?_
 replace hm := bnd hm
 obtain ⟨_, hz8, hm⟩ := hm
 replace hz8 := (eachM_some hz8).1
 refine c_collect Prod.snd (fun x : ByteArray => Value.string x) rfl rfl hz8 (.inl rfl) (.inl ⟨rfl, fun _ => rfl⟩) Try.underlying44 inf9_2 rfl (by decide) (by decide) (fun _ => lit9_1 _) (fun _ => rfl) Try.sizeOf44 Try.isAgg44 rfl rfl rfl (fun A6 c7 g5 hc7 => ?_)
 refine d_sta _ (fun W h => (ok_front (t := 0) (t' := 100050) (ok_front (t := 1) (t' := 100095) (ok_front (t := 2) (t' := 100096) (ok_front (t := 3) (t' := 100040) h rfl) rfl) rfl) rfl)) ?_
 refine d_normal_block ?_
 refine d_then ?_
 refine c_seq ?_
 refine c_block ?_
 refine c_seq ?_
 refine c_region ?_
 refine g_v rfl (r_load (tag := 100050) rfl rfl rfl Try.isAgg3) ?_
 refine g_v rfl r_move ?_
 refine g_v rfl (r_len Try.underlying9 rfl) ?_
 refine g_v rfl (r_sub rfl rfl rfl) ?_
 refine g_v rfl (r_neq rfl rfl) ?_
 refine g_v rfl r_move ?_
 refine g_if rfl rfl rfl rfl rfl (fun h9 => ?_) (fun h9 => ?_)
 ·
  replace hm := ite_f hm (of_decide_eq_false h9)
  refine g_v rfl (r_load (tag := 100050) rfl rfl rfl Try.isAgg3) ?_
  refine g_do rfl rfl rfl rfl rfl h9 ?_
  refine g_v rfl (r_lss rfl rfl) ?_
  refine g_v rfl (r_pick0 rfl h9) ?_
  refine g_v rfl r_assign ?_
  refine g_nil ?_
  refine d_then ?_
  refine c_flat [(0, .string p0), (4, .pointer (some ⟨g1, 0, none⟩)), (16, .bool (decide ((eachP p0).2 < 0)))] ⟨rfl, rfl, rfl, trivial⟩ (fun u => ?_)
  refine c_sta ⟨w0, M, (100050, g2, .cells #[.int .i64 ((eachP p0).2)] 3 (0, 0)) :: (100095, g3, .cells #[.pointer (some ⟨g2, 0, none⟩)] 94 (0, 0)) :: (100096, g4, .cells #[.string p0] 9 (0, 0)) :: (100040, g1, .cells #[.slice A6 ((eachP p0).1.map Prod.snd).length c7] 44 (0, 0)) :: (5, g5, .deferred (some [])) :: H, (4, ⟨.slice A6 ((eachP p0).1.map Prod.snd).length c7, 9, 1, ((eachP p0).1.map Prod.snd).length, ((eachP p0).1.map Prod.snd).flatMap (fun x : ByteArray => [Value.string x])⟩) :: R, φ⟩ (fun _ h => h) ?_
  refine c_cond rfl (fun h10 => ?_) (fun h10 => ?_)
  ·
   replace hm := ite_t hm (of_decide_eq_true h10)
   refine c_seq ?_
   refine c_region ?_
   refine g_v rfl r_assign ?_
   refine g_v rfl r_assign ?_
   refine g_nil ?_
   refine d_then ?_
   refine c_ret ?_
   refine d_ret_block ?_
   refine d_ret_then ?_
   replace hm := Option.some.inj hm
   subst hm
   refine d_sta _ (fun W h => nilR h 11 9 1) ?_
   refine d_sta _ (fun W h => ok_frontR (t := 11) (t' := 2000) h rfl) ?_
   refine d_retM (tD := 5) (none, 0) Try.results42 ?_ (Nat.le_refl 0) rfl (by simp) (fun W h => (((((h.dropR (t := 4) rfl).dropH (t := 100050) rfl).dropH (t := 100095) rfl).dropH (t := 100096) rfl).dropH (t := 100040) rfl).phi (fun W hφ => hφ)) (.inr rfl)
   refine res_tmp ?_
   refine res_tmp ?_
   refine res_nil ?_
   exact rfl
  ·
   replace hm := ite_f hm (of_decide_eq_false h10)
   refine c_seq ?_
   refine c_region ?_
   refine g_v rfl r_move ?_
   refine g_v rfl (r_len Try.underlying9 rfl) ?_
   refine g_v rfl (r_gtr rfl rfl) ?_
   refine g_v rfl r_assign ?_
   refine g_nil ?_
   refine d_then ?_
   refine c_cond rfl (fun h11 => ?_) (fun h11 => ?_)
   ·
    replace hm := ite_t hm (of_decide_eq_true h11)
    refine c_seq ?_
    refine c_region ?_
    refine g_v rfl r_assign ?_
    refine g_v rfl r_assign ?_
    refine g_nil ?_
    refine d_then ?_
    refine c_ret ?_
    refine d_ret_block ?_
    refine d_ret_then ?_
    replace hm := Option.some.inj hm
    subst hm
    refine d_sta _ (fun W h => nilR h 12 9 1) ?_
    refine d_sta _ (fun W h => ok_frontR (t := 12) (t' := 2000) h rfl) ?_
    refine d_retM (tD := 5) (none, 0) Try.results42 ?_ (Nat.le_refl 0) rfl (by simp) (fun W h => (((((h.dropR (t := 4) rfl).dropH (t := 100050) rfl).dropH (t := 100095) rfl).dropH (t := 100096) rfl).dropH (t := 100040) rfl).phi (fun W hφ => hφ)) (.inr rfl)
    refine res_tmp ?_
    refine res_tmp ?_
    refine res_nil ?_
    exact rfl
   ·
    replace hm := ite_f hm (of_decide_eq_false h11)
    refine c_skip ?_
    refine d_normal_block ?_
    refine d_then ?_
    refine c_seq ?_
    refine c_region ?_
    refine g_v rfl (r_load (tag := 100040) rfl rfl rfl Try.isAgg44) ?_
    refine g_v rfl r_assign ?_
    refine g_v rfl r_assign ?_
    refine g_nil ?_
    refine d_then ?_
    refine c_ret ?_
    replace hm := Option.some.inj hm
    subst hm
    refine d_sta _ (fun W h => ok_frontR (t := 4) (t' := 2000) h rfl) ?_
    refine d_retM (tD := 5) (A6, c7) Try.results42 ?_ hc7 rfl (by simp) (fun W h => ((((h.dropH (t := 100050) rfl).dropH (t := 100095) rfl).dropH (t := 100096) rfl).dropH (t := 100040) rfl).phi (fun W hφ => hφ)) (.inr rfl)
    refine res_tmp ?_
    refine res_tmp ?_
    refine res_nil ?_
    exact rfl
 ·
  replace hm := ite_t hm (of_decide_eq_true h9)
  refine g_no rfl rfl rfl rfl rfl h9 ?_
  refine g_v rfl (r_pick1 rfl h9) ?_
  refine g_v rfl r_assign ?_
  refine g_nil ?_
  refine d_then ?_
  refine c_flat [(0, .string p0), (4, .pointer (some ⟨g1, 0, none⟩)), (16, .bool true)] ⟨rfl, rfl, rfl, trivial⟩ (fun u => ?_)
  refine c_sta ⟨w0, M, (100050, g2, .cells #[.int .i64 ((eachP p0).2)] 3 (0, 0)) :: (100095, g3, .cells #[.pointer (some ⟨g2, 0, none⟩)] 94 (0, 0)) :: (100096, g4, .cells #[.string p0] 9 (0, 0)) :: (100040, g1, .cells #[.slice A6 ((eachP p0).1.map Prod.snd).length c7] 44 (0, 0)) :: (5, g5, .deferred (some [])) :: H, (4, ⟨.slice A6 ((eachP p0).1.map Prod.snd).length c7, 9, 1, ((eachP p0).1.map Prod.snd).length, ((eachP p0).1.map Prod.snd).flatMap (fun x : ByteArray => [Value.string x])⟩) :: R, φ⟩ (fun _ h => h) ?_
  refine c_cond1 rfl rfl ?_
  refine c_seq ?_
  refine c_region ?_
  refine g_v rfl r_assign ?_
  refine g_v rfl r_assign ?_
  refine g_nil ?_
  refine d_then ?_
  refine c_ret ?_
  refine d_ret_block ?_
  refine d_ret_then ?_
  replace hm := Option.some.inj hm
  subst hm
  refine d_sta _ (fun W h => nilR h 13 9 1) ?_
  refine d_sta _ (fun W h => ok_frontR (t := 13) (t' := 2000) h rfl) ?_
  refine d_retM (tD := 5) (none, 0) Try.results42 ?_ (Nat.le_refl 0) rfl (by simp) (fun W h => (((((h.dropR (t := 4) rfl).dropH (t := 100050) rfl).dropH (t := 100095) rfl).dropH (t := 100096) rfl).dropH (t := 100040) rfl).phi (fun W hφ => hφ)) (.inr rfl)
  refine res_tmp ?_
  refine res_tmp ?_
  refine res_nil ?_
  exact rfl

noncomputable def m_name_Check (p0 : ByteArray) : Option Int :=
  (m_name_Labels p0).bind fun (z7 : (List ByteArray) × Int) =>
  some z7.2
theorem c_name_Check {w0 : World} {M : Nat → Prop} {H : List (Nat × Nat × Obj)} {R : List (Nat × Row)} {φ : World → Prop} (p0 : ByteArray) (r : Int) (hm : m_name_Check p0 = some r) :
    Cn Try.prog 18 #[.string p0] ⟨w0, M, H, R, φ⟩ (fun x : Unit => .int .i64 r) (fun x => True) (fun x => ⟨w0, M, H, R, φ⟩) := by
 unfold m_name_Check at hm
 refine cn_intro (fn := Try.f18) (N := 11) Try.func18 rfl Try.ntmps18 rfl ?_
 refine c_seq ?_
 refine c_region ?_
 refine g_v rfl r_assign ?_
 refine g_nil ?_
 refine d_then ?_
 refine c_seq ?_
 refine c_region ?_
 refine g_v rfl r_move ?_
 replace hm := bnd hm
 obtain ⟨⟨x1, x2⟩, hx3, hm⟩ := hm
 refine g_cn ⟨w0, M, _, _, φ⟩ (fun _ h => h) Try.call42 rfl rfl (c_name_Labels p0 _ hx3) (fun ⟨A4, c5⟩ hc5 => ?_)
 refine g_sta _ (fun W h => (ok_frontR (t := 2000) (t' := 100070) h rfl)) ?_
 refine g_v rfl r_move ?_
 refine g_v rfl (r_extract rfl rfl) ?_
 refine g_v rfl (r_extract rfl rfl) ?_
 refine g_v rfl r_assign ?_
 refine g_v rfl r_assign ?_
 refine g_nil ?_
 refine d_then ?_
 refine c_seq ?_
 refine c_region ?_
 refine g_v rfl r_move ?_
 refine g_v rfl r_assign ?_
 refine g_nil ?_
 refine d_then ?_
 refine c_flat [(2, .int .i64 x2)] ⟨rfl, trivial⟩ (fun u => ?_)
 refine c_sta ⟨w0, M, H, (100070, ⟨.slice A4 x1.length c5, 9, 1, x1.length, x1.flatMap (fun x : ByteArray => [Value.string x])⟩) :: R, φ⟩ (fun _ h => h) ?_
 refine c_ret ?_
 replace hm := Option.some.inj hm
 subst hm
 refine d_retC () Try.results18 ?_ trivial (fun W h => ok_pre (H1 := []) (R1 := [_]) h (fun W hφ => hφ)) (.inr rfl)
 refine res_tmp ?_
 refine res_nil ?_
 exact rfl

theorem mapT65_3  : MapTy Try.prog 65 9 3 (fun x : ByteArray => Value.string x) (fun x : Int => Value.int .i64 x) (fun x : ByteArray => decide (x.size ≤ 9223372036854775807)) 0 := ⟨Try.underlying65, Go.Maps.string_keyed Try.underlying9, fun k hk => ⟨_, Go.WideMaps.keyOf_string_mk Try.underlying9 (of_decide_eq_true hk)⟩, fun a b h => Value.string.inj h, fun _ => Try.zeroValue3 _⟩
theorem lit5_4 (z0 : Int) (z1 : Int) : Try.prog.builtSlice 5 2 [(0, .int .u8 z0), (1, .int .u8 z1)] = some #[.int .u8 z0, .int .u8 z1] := by kernel_rfl
theorem inf5_5  : (Try.prog.info? 5).map (fun i => (i.zero, i.size, i.bytes)) = some (some (.int .u8 0), 1, 1) := by kernel_rfl
noncomputable def m_pack_Packer_put (p1 : List Int) (o0 : Gpack_Packer) : Option Gpack_Packer :=
  (app 1 o0.fb p1).bind fun l1 =>
  some (⟨l1, o0.fplaces⟩ : Gpack_Packer)
theorem c_pack_Packer_put {w0 : World} {M : Nat → Prop} {H : List (Nat × Nat × Obj)} {R : List (Nat × Row)} {φ : World → Prop} (p1 : List Int) (Ap1_0 : Option Addr) (cp1_0 : Nat) (hcp1_0 : p1.length ≤ cp1_0) (fp1_0 : ∀ W, (Sta.mk w0 M H R φ).ok W → Cl W Ap1_0 (p1.flatMap (fun x : Int => [Value.int .u8 x]))) (go0 : Nat) (o0 : Gpack_Packer) (Ao0_0 : Option Addr) (co0_0 : Nat) (hco0_0 : o0.fb.length ≤ co0_0) (Ao0_1 : Option Addr) (co0_1 : Nat) (hco0_1 : True) (r : Gpack_Packer) (hm : m_pack_Packer_put p1 o0 = some r) :
    Cn Try.prog 64 #[.pointer (some ⟨go0, 0, none⟩), .slice Ap1_0 p1.length cp1_0] ⟨w0, M, (1000, go0, .cells #[.slice Ao0_0 o0.fb.length co0_0, mapV Ao0_1] 67 (0, 0)) :: H, (1000, ⟨.slice Ao0_0 o0.fb.length co0_0, 5, 1, o0.fb.length, o0.fb.flatMap (fun x : Int => [Value.int .u8 x])⟩) :: (1001, ⟨mapV Ao0_1, 65, 2, o0.fplaces.length, o0.fplaces.flatMap (mcell (fun x : ByteArray => Value.string x) (fun x : Int => Value.int .i64 x))⟩) :: R, φ⟩ (fun x : Option Addr × Nat × Option Addr × Nat => .tuple #[]) (fun x => r.fb.length ≤ x.2.1 ∧ True) (fun x => ⟨w0, M, (1000, go0, .cells #[.slice x.1 r.fb.length x.2.1, mapV x.2.2.1] 67 (0, 0)) :: H, (2000, ⟨.slice x.1 r.fb.length x.2.1, 5, 1, r.fb.length, r.fb.flatMap (fun x : Int => [Value.int .u8 x])⟩) :: (2001, ⟨mapV x.2.2.1, 65, 2, r.fplaces.length, r.fplaces.flatMap (mcell (fun x : ByteArray => Value.string x) (fun x : Int => Value.int .i64 x))⟩) :: R, φ⟩) := by
 unfold m_pack_Packer_put at hm
 refine cn_intro (fn := Try.f64) (N := 15) Try.func64 rfl Try.ntmps64 rfl ?_
 refine c_seq ?_
 refine c_region ?_
 refine g_v rfl r_move ?_
 refine g_v rfl (r_neqP1 Try.underlying42 rfl rfl) ?_
 refine g_nil ?_
 refine d_then ?_
 refine c_cond1 rfl rfl ?_
 refine c_region ?_
 refine g_v rfl r_move ?_
 refine g_v rfl r_move ?_
 refine g_v rfl (r_nilck rfl) ?_
 refine g_v rfl (r_field (n := 0) Try.underlying67 rfl Try.sizeOf58 rfl rfl) ?_
 refine g_v rfl (r_load (tag := 1000) rfl rfl rfl Try.isAgg58) ?_
 refine g_v rfl r_move ?_
 replace hm := bnd hm
 obtain ⟨l1, hl1, hm⟩ := hm
 refine g_e rfl (e_appR (enc := (fun x : Int => [Value.int .u8 x])) (l := o0.fb) (l1 := p1) (l2 := l1) (tag := 1000) Try.underlying58 inf5_5 rfl (by decide) (by decide) (fun _ => rfl) (fun _ => rfl) rfl hco0_0 rfl rfl (fun W hS => fp1_0 W (ok_pre (H1 := [_]) (R1 := [_, _]) hS (fun W h => h))) hl1) (fun ⟨A2, c3⟩ hc3 => ?_)
 refine g_v rfl (r_nilck rfl) ?_
 refine g_v rfl (r_field (n := 0) Try.underlying67 rfl Try.sizeOf58 rfl rfl) ?_
 refine g_storeL (tag := 1000) rfl rfl rfl rfl Try.sizeOf58 rfl rfl ?_
 refine g_nil ?_
 replace hm := Option.some.inj hm
 subst hm
 refine d_sta _ (fun W h => ok_frontR (t := 1001) (t' := 2001) h rfl) ?_
 refine d_sta _ (fun W h => ok_frontR (t := 1000) (t' := 2000) h rfl) ?_
 refine d_retC (A2, c3, Ao0_1, co0_1) Try.results64 ?_ ⟨hc3, hco0_1⟩ (fun W h => h.phi (fun W hφ => hφ)) (.inl rfl)
 refine res_nil ?_
 exact rfl

noncomputable def m_pack_Packer_Word (p1 : Int) (o0 : Gpack_Packer) : Option Gpack_Packer :=
  (m_pack_Packer_put [IntKind.u8.wrap (p1 / 256), IntKind.u8.wrap p1] o0).bind fun x2 =>
  some x2
theorem c_pack_Packer_Word {w0 : World} {M : Nat → Prop} {H : List (Nat × Nat × Obj)} {R : List (Nat × Row)} {φ : World → Prop} (p1 : Int) (go0 : Nat) (o0 : Gpack_Packer) (Ao0_0 : Option Addr) (co0_0 : Nat) (hco0_0 : o0.fb.length ≤ co0_0) (Ao0_1 : Option Addr) (co0_1 : Nat) (hco0_1 : True) (r : Gpack_Packer) (hm : m_pack_Packer_Word p1 o0 = some r) :
    Cn Try.prog 30 #[.pointer (some ⟨go0, 0, none⟩), .int .u16 p1] ⟨w0, M, (1000, go0, .cells #[.slice Ao0_0 o0.fb.length co0_0, mapV Ao0_1] 67 (0, 0)) :: H, (1000, ⟨.slice Ao0_0 o0.fb.length co0_0, 5, 1, o0.fb.length, o0.fb.flatMap (fun x : Int => [Value.int .u8 x])⟩) :: (1001, ⟨mapV Ao0_1, 65, 2, o0.fplaces.length, o0.fplaces.flatMap (mcell (fun x : ByteArray => Value.string x) (fun x : Int => Value.int .i64 x))⟩) :: R, φ⟩ (fun x : Option Addr × Nat × Option Addr × Nat => .tuple #[]) (fun x => r.fb.length ≤ x.2.1 ∧ True) (fun x => ⟨w0, M, (1000, go0, .cells #[.slice x.1 r.fb.length x.2.1, mapV x.2.2.1] 67 (0, 0)) :: H, (2000, ⟨.slice x.1 r.fb.length x.2.1, 5, 1, r.fb.length, r.fb.flatMap (fun x : Int => [Value.int .u8 x])⟩) :: (2001, ⟨mapV x.2.2.1, 65, 2, r.fplaces.length, r.fplaces.flatMap (mcell (fun x : ByteArray => Value.string x) (fun x : Int => Value.int .i64 x))⟩) :: R, φ⟩) := by
 unfold m_pack_Packer_Word at hm
 refine cn_intro (fn := Try.f30) (N := 12) Try.func30 rfl Try.ntmps30 rfl ?_
 refine c_region ?_
 refine g_v rfl r_move ?_
 refine g_v rfl r_move ?_
 refine g_v rfl (r_shr (n := 256) rfl rfl (by decide) (by decide) (by decide)) ?_
 refine g_v rfl (r_conv Try.underlying33 Try.underlying5 rfl rfl) ?_
 refine g_v rfl r_move ?_
 refine g_v rfl (r_conv Try.underlying33 Try.underlying5 rfl rfl) ?_
 refine g_e rfl (e_lit (tag := 100100) (l := [IntKind.u8.wrap (p1 / 256), IntKind.u8.wrap p1]) (enc := (fun x : Int => [Value.int .u8 x])) (sz := 1) rfl Try.underlying58 (lit5_4 _ _) rfl rfl (fun _ => rfl)) (fun g1 _ => ?_)
 replace hm := bnd hm
 obtain ⟨x2, hx3, hm⟩ := hm
 refine g_cn ⟨w0, M, (1000, go0, .cells #[.slice Ao0_0 o0.fb.length co0_0, mapV Ao0_1] 67 (0, 0)) :: H, (1000, ⟨.slice Ao0_0 o0.fb.length co0_0, 5, 1, o0.fb.length, o0.fb.flatMap (fun x : Int => [Value.int .u8 x])⟩) :: (1001, ⟨mapV Ao0_1, 65, 2, o0.fplaces.length, o0.fplaces.flatMap (mcell (fun x : ByteArray => Value.string x) (fun x : Int => Value.int .i64 x))⟩) :: (100100, ⟨.slice (some ⟨g1, 0, none⟩) [IntKind.u8.wrap (p1 / 256), IntKind.u8.wrap p1].length 2, 5, 1, [IntKind.u8.wrap (p1 / 256), IntKind.u8.wrap p1].length, [IntKind.u8.wrap (p1 / 256), IntKind.u8.wrap p1].flatMap (fun x : Int => [Value.int .u8 x])⟩) :: R, φ⟩ (fun W h => (ok_front (t := 1000) (t' := 1000) (ok_frontR (t := 1000) (t' := 1000) (ok_frontR (t := 1001) (t' := 1001) h rfl) rfl) rfl)) Try.call64 rfl rfl (c_pack_Packer_put [IntKind.u8.wrap (p1 / 256), IntKind.u8.wrap p1] (some ⟨g1, 0, none⟩) 2 (Nat.le_refl _) (fun W hS => rowCl (tag := 100100) rfl W hS) go0 o0 Ao0_0 co0_0 hco0_0 Ao0_1 co0_1 trivial _ hx3) (fun ⟨A4, c5, A7, c8⟩ ⟨hc5, hc8⟩ => ?_)
 refine g_sta _ (fun W h => (ok_frontR (t := 2000) (t' := 1000) (ok_frontR (t := 2001) (t' := 1001) (ok_front (t := 1000) (t' := 1000) h rfl) rfl) rfl)) ?_
 refine g_nil ?_
 replace hm := Option.some.inj hm
 subst hm
 refine d_sta _ (fun W h => ok_frontR (t := 1001) (t' := 2001) h rfl) ?_
 refine d_sta _ (fun W h => ok_frontR (t := 1000) (t' := 2000) h rfl) ?_
 refine d_retC (A4, c5, A7, c8) Try.results30 ?_ ⟨hc5, hc8⟩ (fun W h => (h.dropR (t := 100100) rfl).phi (fun W hφ => hφ)) (.inl rfl)
 refine res_nil ?_
 exact rfl

noncomputable def m_pack_Packer_Raw (p1 : ByteArray) (o0 : Gpack_Packer) : Option Gpack_Packer :=
  (m_pack_Packer_put (bytesI p1) o0).bind fun x5 =>
  some x5
theorem c_pack_Packer_Raw {w0 : World} {M : Nat → Prop} {H : List (Nat × Nat × Obj)} {R : List (Nat × Row)} {φ : World → Prop} (p1 : ByteArray) (go0 : Nat) (o0 : Gpack_Packer) (Ao0_0 : Option Addr) (co0_0 : Nat) (hco0_0 : o0.fb.length ≤ co0_0) (Ao0_1 : Option Addr) (co0_1 : Nat) (hco0_1 : True) (r : Gpack_Packer) (hm : m_pack_Packer_Raw p1 o0 = some r) :
    Cn Try.prog 28 #[.pointer (some ⟨go0, 0, none⟩), .string p1] ⟨w0, M, (1000, go0, .cells #[.slice Ao0_0 o0.fb.length co0_0, mapV Ao0_1] 67 (0, 0)) :: H, (1000, ⟨.slice Ao0_0 o0.fb.length co0_0, 5, 1, o0.fb.length, o0.fb.flatMap (fun x : Int => [Value.int .u8 x])⟩) :: (1001, ⟨mapV Ao0_1, 65, 2, o0.fplaces.length, o0.fplaces.flatMap (mcell (fun x : ByteArray => Value.string x) (fun x : Int => Value.int .i64 x))⟩) :: R, φ⟩ (fun x : Option Addr × Nat × Option Addr × Nat => .tuple #[]) (fun x => r.fb.length ≤ x.2.1 ∧ True) (fun x => ⟨w0, M, (1000, go0, .cells #[.slice x.1 r.fb.length x.2.1, mapV x.2.2.1] 67 (0, 0)) :: H, (2000, ⟨.slice x.1 r.fb.length x.2.1, 5, 1, r.fb.length, r.fb.flatMap (fun x : Int => [Value.int .u8 x])⟩) :: (2001, ⟨mapV x.2.2.1, 65, 2, r.fplaces.length, r.fplaces.flatMap (mcell (fun x : ByteArray => Value.string x) (fun x : Int => Value.int .i64 x))⟩) :: R, φ⟩) := by
 unfold m_pack_Packer_Raw at hm
 refine cn_intro (fn := Try.f28) (N := 8) Try.func28 rfl Try.ntmps28 rfl ?_
 refine c_region ?_
 refine g_v rfl r_move ?_
 refine g_v rfl r_move ?_
 refine g_bytes rfl Try.underlying9 Try.underlying58 Try.underlying5 rfl (fun A1 c2 hc2 φ3 q3' => ?_)
 have q3 : ∀ W, φ3 W → φ W := fun W h => (q3' W h).1
 have f4 := fun (W : World) (h : φ3 W) => (q3' W h).2
 replace hm := bnd hm
 obtain ⟨x5, hx6, hm⟩ := hm
 refine g_cn ⟨w0, M, (1000, go0, .cells #[.slice Ao0_0 o0.fb.length co0_0, mapV Ao0_1] 67 (0, 0)) :: H, (1000, ⟨.slice Ao0_0 o0.fb.length co0_0, 5, 1, o0.fb.length, o0.fb.flatMap (fun x : Int => [Value.int .u8 x])⟩) :: (1001, ⟨mapV Ao0_1, 65, 2, o0.fplaces.length, o0.fplaces.flatMap (mcell (fun x : ByteArray => Value.string x) (fun x : Int => Value.int .i64 x))⟩) :: R, φ3⟩ (fun W h => (ok_front (t := 1000) (t' := 1000) (ok_frontR (t := 1000) (t' := 1000) (ok_frontR (t := 1001) (t' := 1001) h rfl) rfl) rfl)) Try.call64 rfl rfl (c_pack_Packer_put (bytesI p1) A1 c2 hc2 (fun W hS => f4 W hS.now) go0 o0 Ao0_0 co0_0 hco0_0 Ao0_1 co0_1 trivial _ hx6) (fun ⟨A7, c8, A10, c11⟩ ⟨hc8, hc11⟩ => ?_)
 refine g_sta _ (fun W h => (ok_frontR (t := 2000) (t' := 1000) (ok_frontR (t := 2001) (t' := 1001) (ok_front (t := 1000) (t' := 1000) h rfl) rfl) rfl)) ?_
 refine g_nil ?_
 replace hm := Option.some.inj hm
 subst hm
 refine d_sta _ (fun W h => ok_frontR (t := 1001) (t' := 2001) h rfl) ?_
 refine d_sta _ (fun W h => ok_frontR (t := 1000) (t' := 2000) h rfl) ?_
 refine d_retC (A7, c8, A10, c11) Try.results28 ?_ ⟨hc8, hc11⟩ (fun W h => h.phi (fun W hφ => (q3 _ hφ))) (.inl rfl)
 refine res_nil ?_
 exact rfl

theorem lit5_6 (z0 : Int) : Try.prog.builtSlice 5 1 [(0, .int .u8 z0)] = some #[.int .u8 z0] := by kernel_rfl
noncomputable def m_pack_Packer_Byte (p1 : Int) (o0 : Gpack_Packer) : Option Gpack_Packer :=
  (m_pack_Packer_put [p1] o0).bind fun x2 =>
  some x2
theorem c_pack_Packer_Byte {w0 : World} {M : Nat → Prop} {H : List (Nat × Nat × Obj)} {R : List (Nat × Row)} {φ : World → Prop} (p1 : Int) (go0 : Nat) (o0 : Gpack_Packer) (Ao0_0 : Option Addr) (co0_0 : Nat) (hco0_0 : o0.fb.length ≤ co0_0) (Ao0_1 : Option Addr) (co0_1 : Nat) (hco0_1 : True) (r : Gpack_Packer) (hm : m_pack_Packer_Byte p1 o0 = some r) :
    Cn Try.prog 31 #[.pointer (some ⟨go0, 0, none⟩), .int .u8 p1] ⟨w0, M, (1000, go0, .cells #[.slice Ao0_0 o0.fb.length co0_0, mapV Ao0_1] 67 (0, 0)) :: H, (1000, ⟨.slice Ao0_0 o0.fb.length co0_0, 5, 1, o0.fb.length, o0.fb.flatMap (fun x : Int => [Value.int .u8 x])⟩) :: (1001, ⟨mapV Ao0_1, 65, 2, o0.fplaces.length, o0.fplaces.flatMap (mcell (fun x : ByteArray => Value.string x) (fun x : Int => Value.int .i64 x))⟩) :: R, φ⟩ (fun x : Option Addr × Nat × Option Addr × Nat => .tuple #[]) (fun x => r.fb.length ≤ x.2.1 ∧ True) (fun x => ⟨w0, M, (1000, go0, .cells #[.slice x.1 r.fb.length x.2.1, mapV x.2.2.1] 67 (0, 0)) :: H, (2000, ⟨.slice x.1 r.fb.length x.2.1, 5, 1, r.fb.length, r.fb.flatMap (fun x : Int => [Value.int .u8 x])⟩) :: (2001, ⟨mapV x.2.2.1, 65, 2, r.fplaces.length, r.fplaces.flatMap (mcell (fun x : ByteArray => Value.string x) (fun x : Int => Value.int .i64 x))⟩) :: R, φ⟩) := by
 unfold m_pack_Packer_Byte at hm
 refine cn_intro (fn := Try.f31) (N := 8) Try.func31 rfl Try.ntmps31 rfl ?_
 refine c_region ?_
 refine g_v rfl r_move ?_
 refine g_v rfl r_move ?_
 refine g_e rfl (e_lit (tag := 100060) (l := [p1]) (enc := (fun x : Int => [Value.int .u8 x])) (sz := 1) rfl Try.underlying58 (lit5_6 _) rfl rfl (fun _ => rfl)) (fun g1 _ => ?_)
 replace hm := bnd hm
 obtain ⟨x2, hx3, hm⟩ := hm
 refine g_cn ⟨w0, M, (1000, go0, .cells #[.slice Ao0_0 o0.fb.length co0_0, mapV Ao0_1] 67 (0, 0)) :: H, (1000, ⟨.slice Ao0_0 o0.fb.length co0_0, 5, 1, o0.fb.length, o0.fb.flatMap (fun x : Int => [Value.int .u8 x])⟩) :: (1001, ⟨mapV Ao0_1, 65, 2, o0.fplaces.length, o0.fplaces.flatMap (mcell (fun x : ByteArray => Value.string x) (fun x : Int => Value.int .i64 x))⟩) :: (100060, ⟨.slice (some ⟨g1, 0, none⟩) [p1].length 1, 5, 1, [p1].length, [p1].flatMap (fun x : Int => [Value.int .u8 x])⟩) :: R, φ⟩ (fun W h => (ok_front (t := 1000) (t' := 1000) (ok_frontR (t := 1000) (t' := 1000) (ok_frontR (t := 1001) (t' := 1001) h rfl) rfl) rfl)) Try.call64 rfl rfl (c_pack_Packer_put [p1] (some ⟨g1, 0, none⟩) 1 (Nat.le_refl _) (fun W hS => rowCl (tag := 100060) rfl W hS) go0 o0 Ao0_0 co0_0 hco0_0 Ao0_1 co0_1 trivial _ hx3) (fun ⟨A4, c5, A7, c8⟩ ⟨hc5, hc8⟩ => ?_)
 refine g_sta _ (fun W h => (ok_frontR (t := 2000) (t' := 1000) (ok_frontR (t := 2001) (t' := 1001) (ok_front (t := 1000) (t' := 1000) h rfl) rfl) rfl)) ?_
 refine g_nil ?_
 replace hm := Option.some.inj hm
 subst hm
 refine d_sta _ (fun W h => ok_frontR (t := 1001) (t' := 2001) h rfl) ?_
 refine d_sta _ (fun W h => ok_frontR (t := 1000) (t' := 2000) h rfl) ?_
 refine d_retC (A4, c5, A7, c8) Try.results31 ?_ ⟨hc5, hc8⟩ (fun W h => (h.dropR (t := 100060) rfl).phi (fun W hφ => hφ)) (.inl rfl)
 refine res_nil ?_
 exact rfl

noncomputable def m_pack_Packer_Name_j1  (l100 : List Int) (l103 : List (ByteArray × Int)) : Option (Int × Gpack_Packer) :=
  (m_pack_Packer_Byte 0 (⟨l100, l103⟩ : Gpack_Packer)).bind fun x106 =>
  some (0, x106)
noncomputable def m_pack_Packer_Name_j4 (s164 : ByteArray) (l158 : List Int) (l233 : List (ByteArray × Int)) : Option (((List Int) × (List (ByteArray × Int)) × ByteArray) ⊕ (((List Int) × (List (ByteArray × Int))) ⊕ (Int × Gpack_Packer))) :=
  (sat_ s164 0).bind fun b236 =>
  (scutHi s164 (w64 (1 + (w64 b236)))).bind fun s237 =>
  (m_pack_Packer_Raw s237 (⟨l158, l233⟩ : Gpack_Packer)).bind fun x238 =>
  (scutLo s164 (w64 (1 + (w64 b236)))).bind fun s246 =>
  some (.inl (x238.fb, x238.fplaces, s246))
noncomputable def m_pack_Packer_Name_j5 (s164 : ByteArray) (l158 : List Int) (l253 : List (ByteArray × Int)) : Option (((List Int) × (List (ByteArray × Int)) × ByteArray) ⊕ (((List Int) × (List (ByteArray × Int))) ⊕ (Int × Gpack_Packer))) :=
  (mput (fun x : ByteArray => decide (x.size ≤ 9223372036854775807)) l253 s164 (l158.length : Int)).bind fun l258 =>
  m_pack_Packer_Name_j4 s164 l158 l258
noncomputable def m_pack_Packer_Name_j3 (x211 : Int × Bool) (s164 : ByteArray) (l158 : List Int) (l161 : List (ByteArray × Int)) : Option (((List Int) × (List (ByteArray × Int)) × ByteArray) ⊕ (((List Int) × (List (ByteArray × Int))) ⊕ (Int × Gpack_Packer))) :=
  if x211.2 = true then
    m_pack_Packer_Name_j4 s164 l158 l161
  else
    if (l158.length : Int) < 16384 then
      m_pack_Packer_Name_j5 s164 l158 l161
    else
      m_pack_Packer_Name_j4 s164 l158 l161
noncomputable def m_pack_Packer_Name_s2 (p2 : Bool) (l158 : List Int) (l161 : List (ByteArray × Int)) (s164 : ByteArray) : Option (((List Int) × (List (ByteArray × Int)) × ByteArray) ⊕ (((List Int) × (List (ByteArray × Int))) ⊕ (Int × Gpack_Packer))) :=
  if 1 < (s164.size : Int) then
    (mget (fun x : ByteArray => decide (x.size ≤ 9223372036854775807)) 0 l161 s164).bind fun x211 =>
    if x211.2 = true then
      if p2 = true then
        (m_pack_Packer_Word (orI .u16 49152 (IntKind.u16.wrap x211.1)) (⟨l158, l161⟩ : Gpack_Packer)).bind fun x264 =>
        some (.inr (.inr (0, x264)))
      else
        m_pack_Packer_Name_j3 x211 s164 l158 l161
    else
      m_pack_Packer_Name_j3 x211 s164 l158 l161
  else
    some (.inr (.inl (l158, l161)))
noncomputable def m_pack_Packer_Name (p1 : ByteArray) (p2 : Bool) (o0 : Gpack_Packer) : Option (Int × Gpack_Packer) :=
  (m_name_Check p1).bind fun x1 =>
  if x1 ≠ 0 then
    some (x1, o0)
  else
    (loop (fun s => m_pack_Packer_Name_s2 p2 s.1 s.2.1 s.2.2) (o0.fb, o0.fplaces, p1)).bind fun e => Sum.elim (fun e => m_pack_Packer_Name_j1 e.1 e.2) (fun x => some x) e
theorem c_pack_Packer_Name {w0 : World} {M : Nat → Prop} {H : List (Nat × Nat × Obj)} {R : List (Nat × Row)} {φ : World → Prop} (p1 : ByteArray) (p2 : Bool) (go0 : Nat) (o0 : Gpack_Packer) (Ao0_0 : Option Addr) (co0_0 : Nat) (hco0_0 : o0.fb.length ≤ co0_0) (Ao0_1 : Option Addr) (co0_1 : Nat) (hco0_1 : True) (r : Int × Gpack_Packer) (hm : m_pack_Packer_Name p1 p2 o0 = some r) :
    Cn Try.prog 27 #[.pointer (some ⟨go0, 0, none⟩), .string p1, .bool p2] ⟨w0, M, (1000, go0, .cells #[.slice Ao0_0 o0.fb.length co0_0, mapV Ao0_1] 67 (0, 0)) :: H, (1000, ⟨.slice Ao0_0 o0.fb.length co0_0, 5, 1, o0.fb.length, o0.fb.flatMap (fun x : Int => [Value.int .u8 x])⟩) :: (1001, ⟨mapV Ao0_1, 65, 2, o0.fplaces.length, o0.fplaces.flatMap (mcell (fun x : ByteArray => Value.string x) (fun x : Int => Value.int .i64 x))⟩) :: R, φ⟩ (fun x : Option Addr × Nat × Option Addr × Nat => .int .i64 r.1) (fun x => r.2.fb.length ≤ x.2.1 ∧ True) (fun x => ⟨w0, M, (1000, go0, .cells #[.slice x.1 r.2.fb.length x.2.1, mapV x.2.2.1] 67 (0, 0)) :: H, (2000, ⟨.slice x.1 r.2.fb.length x.2.1, 5, 1, r.2.fb.length, r.2.fb.flatMap (fun x : Int => [Value.int .u8 x])⟩) :: (2001, ⟨mapV x.2.2.1, 65, 2, r.2.fplaces.length, r.2.fplaces.flatMap (mcell (fun x : ByteArray => Value.string x) (fun x : Int => Value.int .i64 x))⟩) :: R, φ⟩) := by
 unfold m_pack_Packer_Name at hm
 refine cn_intro (fn := Try.f27) (N := 82) Try.func27 rfl Try.ntmps27 rfl ?_
 refine c_seq ?_
 refine c_region ?_
 refine g_v rfl r_assign ?_
 refine g_nil ?_
 refine d_then ?_
 refine c_seq ?_
 refine c_seq ?_
 refine c_region ?_
 refine g_v rfl r_move ?_
 refine g_v rfl (r_eqlP1 Try.underlying42 rfl rfl) ?_
 refine g_nil ?_
 refine d_then ?_
 refine c_cond0 rfl rfl ?_
 refine c_skip ?_
 refine d_then ?_
 refine c_seq ?_
 refine c_region ?_
 refine g_v rfl r_move ?_
 replace hm := bnd hm
 obtain ⟨x1, hx2, hm⟩ := hm
 refine g_cn ⟨w0, M, _, _, φ⟩ (fun _ h => h) Try.call18 rfl rfl (c_name_Check p1 _ hx2) (fun _ _ => ?_)
 refine g_v rfl r_assign ?_
 refine g_nil ?_
 refine d_then ?_
 refine c_seq ?_
 refine c_seq ?_
 refine c_region ?_
 refine g_v rfl r_move ?_
 refine g_v rfl (r_neq rfl rfl) ?_
 refine g_nil ?_
 refine d_then ?_
 refine c_cond rfl (fun h3 => ?_) (fun h3 => ?_)
 ·
  replace hm := ite_t hm (of_decide_eq_true h3)
  refine c_seq ?_
  refine c_region ?_
  refine g_v rfl r_move ?_
  refine g_v rfl r_assign ?_
  refine g_nil ?_
  refine d_then ?_
  refine c_flat [(6, .int .i64 x1)] ⟨rfl, trivial⟩ (fun u => ?_)
  refine c_sta ⟨w0, M, (1000, go0, .cells #[.slice Ao0_0 o0.fb.length co0_0, mapV Ao0_1] 67 (0, 0)) :: H, (1000, ⟨.slice Ao0_0 o0.fb.length co0_0, 5, 1, o0.fb.length, o0.fb.flatMap (fun x : Int => [Value.int .u8 x])⟩) :: (1001, ⟨mapV Ao0_1, 65, 2, o0.fplaces.length, o0.fplaces.flatMap (mcell (fun x : ByteArray => Value.string x) (fun x : Int => Value.int .i64 x))⟩) :: R, φ⟩ (fun _ h => h) ?_
  refine c_ret ?_
  refine d_ret_then ?_
  replace hm := Option.some.inj hm
  subst hm
  refine d_sta _ (fun W h => ok_frontR (t := 1001) (t' := 2001) h rfl) ?_
  refine d_sta _ (fun W h => ok_frontR (t := 1000) (t' := 2000) h rfl) ?_
  refine d_retC (Ao0_0, co0_0, Ao0_1, co0_1) Try.results27 ?_ ⟨hco0_0, hco0_1⟩ (fun W h => h.phi (fun W hφ => hφ)) (.inr rfl)
  refine res_tmp ?_
  refine res_nil ?_
  exact rfl
 ·
  replace hm := ite_f hm (of_decide_eq_false h3)
  refine c_skip ?_
  refine d_then ?_
  refine c_seq ?_
  refine c_cut (ι := (List Int) × (List (ByteArray × Int)) × Option Addr × Nat × Option Addr × Nat) [0] (fun ⟨l100, l103, A101, c102, A104, c105⟩ => []) (fun ⟨l100, l103, A101, c102, A104, c105⟩ => ⟨w0, M, (1000, go0, .cells #[.slice A101 l100.length c102, mapV A104] 67 (0, 0)) :: H, (1000, ⟨.slice A101 l100.length c102, 5, 1, l100.length, l100.flatMap (fun x : Int => [Value.int .u8 x])⟩) :: (1001, ⟨mapV A104, 65, 2, l103.length, l103.flatMap (mcell (fun x : ByteArray => Value.string x) (fun x : Int => Value.int .i64 x))⟩) :: R, φ⟩) (fun ⟨l100, l103, A101, c102, A104, c105⟩ => m_pack_Packer_Name_j1 l100 l103 = some r ∧ l100.length ≤ c102 ∧ True) ?_ (fun ⟨l100, l103, A101, c102, A104, c105⟩ u ⟨hm, hc102, hc105⟩ => ?_)
  ·
   refine c_block ?_
   replace hm := bnd hm
   obtain ⟨out2, hl2, hr2⟩ := hm
   obtain ⟨n209', hl2⟩ := loop_lp hl2
   refine c_loopU (ι := Nat × (List Int) × (List (ByteArray × Int)) × ByteArray × Option Addr × Nat × Option Addr × Nat) [0, 1, 2] (fun ⟨n209, l158, l161, s164, A159, c160, A162, c163⟩ => [(1, .string s164)]) (fun ⟨n209, l158, l161, s164, A159, c160, A162, c163⟩ => ⟨w0, M, (1000, go0, .cells #[.slice A159 l158.length c160, mapV A162] 67 (0, 0)) :: H, (1000, ⟨.slice A159 l158.length c160, 5, 1, l158.length, l158.flatMap (fun x : Int => [Value.int .u8 x])⟩) :: (1001, ⟨mapV A162, 65, 2, l161.length, l161.flatMap (mcell (fun x : ByteArray => Value.string x) (fun x : Int => Value.int .i64 x))⟩) :: R, φ⟩) (fun ⟨n209, l158, l161, s164, A159, c160, A162, c163⟩ => Lp (fun s => m_pack_Packer_Name_s2 p2 s.1 s.2.1 s.2.2) n209 (l158, l161, s164) out2 ∧ l158.length ≤ c160 ∧ True) (fun ⟨n209, l158, l161, s164, A159, c160, A162, c163⟩ => n209) (n209', o0.fb, o0.fplaces, p1, Ao0_0, co0_0, Ao0_1, co0_1) ⟨hl2, hco0_0, trivial⟩ ⟨rfl, rfl, rfl, trivial⟩ (fun W h => h.phi (fun W hφ => hφ)) (fun ⟨n209, l158, l161, s164, A159, c160, A162, c163⟩ u ⟨hlp, hc160, hc163⟩ => ?_)
   obtain ⟨o2, hm, hnx2⟩ := lp_step hlp
   clear hlp
   replace hm : m_pack_Packer_Name_s2 p2 l158 l161 s164 = some o2 := hm
   unfold m_pack_Packer_Name_s2 at hm
   refine c_flat [(0, .pointer (some ⟨go0, 0, none⟩)), (1, .string s164), (2, .bool p2)] ⟨rfl, rfl, rfl, trivial⟩ (fun u => ?_)
   refine c_sta ⟨w0, M, (1000, go0, .cells #[.slice A159 l158.length c160, mapV A162] 67 (0, 0)) :: H, (1000, ⟨.slice A159 l158.length c160, 5, 1, l158.length, l158.flatMap (fun x : Int => [Value.int .u8 x])⟩) :: (1001, ⟨mapV A162, 65, 2, l161.length, l161.flatMap (mcell (fun x : ByteArray => Value.string x) (fun x : Int => Value.int .i64 x))⟩) :: R, φ⟩ (fun _ h => h) ?_
   refine c_seq ?_
   refine c_seq ?_
   refine c_region ?_
   refine g_v rfl r_move ?_
   refine g_v rfl (r_len Try.underlying9 rfl) ?_
   refine g_v rfl (r_gtr rfl rfl) ?_
   refine g_nil ?_
   refine d_then ?_
   refine c_cond rfl (fun h210 => ?_) (fun h210 => ?_)
   ·
    replace hm := ite_t hm (of_decide_eq_true h210)
    refine c_skip ?_
    refine d_then ?_
    refine c_block ?_
    refine c_seq ?_
    refine c_region ?_
    refine g_v rfl r_move ?_
    refine g_v rfl (r_nilck rfl) ?_
    refine g_v rfl (r_field (n := 1) Try.underlying67 rfl Try.sizeOf65 rfl rfl) ?_
    refine g_v rfl (r_load (tag := 1000) rfl rfl rfl Try.isAgg65) ?_
    refine g_v rfl r_move ?_
    replace hm := bnd hm
    obtain ⟨x211, hx211, hm⟩ := hm
    refine g_v rfl (r_mget (tag := 1001) (n := l161.length) (l := l161) mapT65_3 rfl rfl rfl hx211) ?_
    refine g_v rfl r_move ?_
    refine g_v rfl (r_extract rfl rfl) ?_
    refine g_v rfl (r_extract rfl rfl) ?_
    refine g_v rfl r_assign ?_
    refine g_v rfl r_assign ?_
    refine g_nil ?_
    refine d_then ?_
    refine c_flat [(0, .pointer (some ⟨go0, 0, none⟩)), (1, .string s164), (2, .bool p2), (8, .int .i64 x211.1), (9, .bool x211.2)] ⟨rfl, rfl, rfl, rfl, rfl, trivial⟩ (fun u => ?_)
    refine c_sta ⟨w0, M, (1000, go0, .cells #[.slice A159 l158.length c160, mapV A162] 67 (0, 0)) :: H, (1000, ⟨.slice A159 l158.length c160, 5, 1, l158.length, l158.flatMap (fun x : Int => [Value.int .u8 x])⟩) :: (1001, ⟨mapV A162, 65, 2, l161.length, l161.flatMap (mcell (fun x : ByteArray => Value.string x) (fun x : Int => Value.int .i64 x))⟩) :: R, φ⟩ (fun _ h => h) ?_
    refine c_seq ?_
    refine c_cut (ι := Unit) [0, 1, 2, 9] (fun _ => []) (fun _ => ⟨w0, M, (1000, go0, .cells #[.slice A159 l158.length c160, mapV A162] 67 (0, 0)) :: H, (1000, ⟨.slice A159 l158.length c160, 5, 1, l158.length, l158.flatMap (fun x : Int => [Value.int .u8 x])⟩) :: (1001, ⟨mapV A162, 65, 2, l161.length, l161.flatMap (mcell (fun x : ByteArray => Value.string x) (fun x : Int => Value.int .i64 x))⟩) :: R, φ⟩) (fun _ => m_pack_Packer_Name_j3 x211 s164 l158 l161 = some o2) ?_ (fun _ u hm => ?_)
    ·
     refine c_seq ?_
     refine c_region ?_
     refine g_v rfl r_move ?_
     refine g_v rfl r_move ?_
     refine g_if rfl rfl rfl rfl rfl (fun h262 => ?_) (fun h262 => ?_)
     ·
      replace hm := ite_t hm h262
      refine g_v rfl r_move ?_
      refine g_v rfl (r_pick1 rfl h262) ?_
      refine g_nil ?_
      refine d_then ?_
      refine c_cond rfl (fun h263 => ?_) (fun h263 => ?_)
      ·
       replace hm := ite_t hm h263
       refine c_seq ?_
       refine c_region ?_
       refine g_v rfl r_move ?_
       refine g_v rfl r_move ?_
       refine g_v rfl (r_conv Try.underlying3 Try.underlying33 rfl rfl) ?_
       refine g_v rfl (r_bits_or rfl rfl) ?_
       replace hm := bnd hm
       obtain ⟨x264, hx265, hm⟩ := hm
       refine g_cn ⟨w0, M, (1000, go0, .cells #[.slice A159 l158.length c160, mapV A162] 67 (0, 0)) :: H, (1000, ⟨.slice A159 l158.length c160, 5, 1, l158.length, l158.flatMap (fun x : Int => [Value.int .u8 x])⟩) :: (1001, ⟨mapV A162, 65, 2, l161.length, l161.flatMap (mcell (fun x : ByteArray => Value.string x) (fun x : Int => Value.int .i64 x))⟩) :: R, φ⟩ (fun W h => (ok_front (t := 1000) (t' := 1000) (ok_frontR (t := 1000) (t' := 1000) (ok_frontR (t := 1001) (t' := 1001) h rfl) rfl) rfl)) Try.call30 rfl rfl (c_pack_Packer_Word (orI .u16 49152 (IntKind.u16.wrap x211.1)) go0 (⟨l158, l161⟩ : Gpack_Packer) A159 c160 hc160 A162 c163 trivial _ hx265) (fun ⟨A266, c267, A269, c270⟩ ⟨hc267, hc270⟩ => ?_)
       refine g_sta _ (fun W h => (ok_frontR (t := 2000) (t' := 1000) (ok_frontR (t := 2001) (t' := 1001) (ok_front (t := 1000) (t' := 1000) h rfl) rfl) rfl)) ?_
       refine g_nil ?_
       refine d_then ?_
       refine c_flat [] trivial (fun u => ?_)
       refine c_sta ⟨w0, M, (1000, go0, .cells #[.slice A266 x264.fb.length c267, mapV A269] 67 (0, 0)) :: H, (1000, ⟨.slice A266 x264.fb.length c267, 5, 1, x264.fb.length, x264.fb.flatMap (fun x : Int => [Value.int .u8 x])⟩) :: (1001, ⟨mapV A269, 65, 2, x264.fplaces.length, x264.fplaces.flatMap (mcell (fun x : ByteArray => Value.string x) (fun x : Int => Value.int .i64 x))⟩) :: R, φ⟩ (fun _ h => h) ?_
       refine c_seq ?_
       refine c_region ?_
       refine g_v rfl r_assign ?_
       refine g_nil ?_
       refine d_then ?_
       refine c_ret ?_
       refine d_ret_then ?_
       refine d_ret_then ?_
       refine d_ret_block ?_
       refine d_ret_then ?_
       refine d_ret_block ?_
       refine d_ret_then ?_
       refine d_ret_then ?_
       replace hm := nx_out (C := (fun e => Sum.elim (fun e => m_pack_Packer_Name_j1 e.1 e.2) (fun x => some x) e = some r)) hm hnx2 hr2
       replace hm : some (0, x264) = some r := hm
       replace hm := Option.some.inj hm
       subst hm
       refine d_sta _ (fun W h => ok_frontR (t := 1001) (t' := 2001) h rfl) ?_
       refine d_sta _ (fun W h => ok_frontR (t := 1000) (t' := 2000) h rfl) ?_
       refine d_retC (A266, c267, A269, c270) Try.results27 ?_ ⟨hc267, hc270⟩ (fun W h => h.phi (fun W hφ => hφ)) (.inr rfl)
       refine res_tmp ?_
       refine res_nil ?_
       exact rfl
      ·
       replace hm := ite_f hm (bool_nt h263)
       refine c_skip ?_
       exact d_round () hm Nat.zero_lt_one ⟨rfl, rfl, rfl, rfl, trivial⟩ (fun W h => h.phi (fun W hφ => hφ))
     ·
      replace hm := ite_f hm (bool_nt h262)
      refine g_v rfl (r_pick0 rfl h262) ?_
      refine g_nil ?_
      refine d_then ?_
      refine c_cond0 rfl rfl ?_
      refine c_skip ?_
      exact d_round () hm Nat.zero_lt_one ⟨rfl, rfl, rfl, rfl, trivial⟩ (fun W h => h.phi (fun W hφ => hφ))
    ·
     unfold m_pack_Packer_Name_j3 at hm
     refine d_flat [(0, .pointer (some ⟨go0, 0, none⟩)), (1, .string s164), (2, .bool p2), (9, .bool x211.2)] ⟨rfl, rfl, rfl, rfl, trivial⟩ (fun u => ?_)
     refine d_sta ⟨w0, M, (1000, go0, .cells #[.slice A159 l158.length c160, mapV A162] 67 (0, 0)) :: H, (1000, ⟨.slice A159 l158.length c160, 5, 1, l158.length, l158.flatMap (fun x : Int => [Value.int .u8 x])⟩) :: (1001, ⟨mapV A162, 65, 2, l161.length, l161.flatMap (mcell (fun x : ByteArray => Value.string x) (fun x : Int => Value.int .i64 x))⟩) :: R, φ⟩ (fun _ h => h) ?_
     refine d_then ?_
     refine c_seq ?_
     refine c_cut (ι := (List (ByteArray × Int)) × Option Addr × Nat) [0, 1, 2] (fun ⟨l233, A234, c235⟩ => []) (fun ⟨l233, A234, c235⟩ => ⟨w0, M, (1000, go0, .cells #[.slice A159 l158.length c160, mapV A234] 67 (0, 0)) :: H, (1000, ⟨.slice A159 l158.length c160, 5, 1, l158.length, l158.flatMap (fun x : Int => [Value.int .u8 x])⟩) :: (1001, ⟨mapV A234, 65, 2, l233.length, l233.flatMap (mcell (fun x : ByteArray => Value.string x) (fun x : Int => Value.int .i64 x))⟩) :: R, φ⟩) (fun ⟨l233, A234, c235⟩ => m_pack_Packer_Name_j4 s164 l158 l233 = some o2 ∧ True) ?_ (fun ⟨l233, A234, c235⟩ u ⟨hm, hc235⟩ => ?_)
     ·
      refine c_seq ?_
      refine c_region ?_
      refine g_v rfl r_move ?_
      refine g_v rfl (r_not rfl) ?_
      refine g_v rfl r_move ?_
      refine g_if rfl rfl rfl rfl rfl (fun h248 => ?_) (fun h248 => ?_)
      ·
       have h248' : x211.2 = false := by revert h248; cases x211.2 <;> simp
       replace hm := ite_f hm (bool_nt h248')
       refine g_v rfl r_move ?_
       refine g_do rfl rfl rfl rfl rfl h248 ?_
       refine g_v rfl (r_nilck rfl) ?_
       refine g_do rfl rfl rfl rfl rfl h248 ?_
       refine g_v rfl (r_field (n := 0) Try.underlying67 rfl Try.sizeOf58 rfl rfl) ?_
       refine g_do rfl rfl rfl rfl rfl h248 ?_
       refine g_v rfl (r_load (tag := 1000) rfl rfl rfl Try.isAgg58) ?_
       refine g_do rfl rfl rfl rfl rfl h248 ?_
       refine g_v rfl (r_lenL Try.underlying58 rfl) ?_
       refine g_do rfl rfl rfl rfl rfl h248 ?_
       refine g_v rfl (r_lss rfl rfl) ?_
       refine g_v rfl (r_pick1 rfl h248) ?_
       refine g_nil ?_
       refine d_then ?_
       refine c_flat [(0, .pointer (some ⟨go0, 0, none⟩)), (1, .string s164), (2, .bool p2), (48, .bool (decide ((l158.length : Int) < 16384)))] ⟨rfl, rfl, rfl, rfl, trivial⟩ (fun u => ?_)
       refine c_sta ⟨w0, M, (1000, go0, .cells #[.slice A159 l158.length c160, mapV A162] 67 (0, 0)) :: H, (1000, ⟨.slice A159 l158.length c160, 5, 1, l158.length, l158.flatMap (fun x : Int => [Value.int .u8 x])⟩) :: (1001, ⟨mapV A162, 65, 2, l161.length, l161.flatMap (mcell (fun x : ByteArray => Value.string x) (fun x : Int => Value.int .i64 x))⟩) :: R, φ⟩ (fun _ h => h) ?_
       refine c_cond rfl (fun h249 => ?_) (fun h249 => ?_)
       ·
        replace hm := ite_t hm (of_decide_eq_true h249)
        refine c_seq ?_
        refine c_cut (ι := (List (ByteArray × Int)) × Option Addr × Nat) [0, 1, 2] (fun ⟨l253, A254, c255⟩ => []) (fun ⟨l253, A254, c255⟩ => ⟨w0, M, (1000, go0, .cells #[.slice A159 l158.length c160, mapV A254] 67 (0, 0)) :: H, (1000, ⟨.slice A159 l158.length c160, 5, 1, l158.length, l158.flatMap (fun x : Int => [Value.int .u8 x])⟩) :: (1001, ⟨mapV A254, 65, 2, l253.length, l253.flatMap (mcell (fun x : ByteArray => Value.string x) (fun x : Int => Value.int .i64 x))⟩) :: R, φ⟩) (fun ⟨l253, A254, c255⟩ => m_pack_Packer_Name_j5 s164 l158 l253 = some o2 ∧ A254.isSome = true) ?_ (fun ⟨l253, A254, c255⟩ u ⟨hm, hc255⟩ => ?_)
        ·
         refine c_seq ?_
         refine c_region ?_
         refine g_v rfl r_move ?_
         refine g_v rfl (r_nilck rfl) ?_
         refine g_v rfl (r_field (n := 1) Try.underlying67 rfl Try.sizeOf65 rfl rfl) ?_
         refine g_v rfl (r_load (tag := 1000) rfl rfl rfl Try.isAgg65) ?_
         refine g_v rfl (r_isNilM Try.underlying65 rfl rfl) ?_
         refine g_nil ?_
         refine d_then ?_
         refine c_cond rfl (fun h259 => ?_) (fun h259 => ?_)
         ·
          refine c_know (l161 = []) (fun W hS => nil_map (tag := 1001) hS rfl h259) (fun hl260 => ?_)
          obtain rfl := Option.isNone_iff_eq_none.1 h259
          refine c_sta _ (fun W h => Sta.ok.dropR (t := 1001) h rfl) ?_
          refine c_region ?_
          refine g_v rfl r_move ?_
          refine g_e rfl (e_mmake (kenc := (fun x : ByteArray => Value.string x)) (venc := (fun x : Int => Value.int .i64 x)) 1001 65 hl260) (fun g261 _ => ?_)
          refine g_v rfl (r_nilck rfl) ?_
          refine g_v rfl (r_field (n := 1) Try.underlying67 rfl Try.sizeOf65 rfl rfl) ?_
          refine g_storeL (tag := 1000) rfl rfl rfl rfl Try.sizeOf65 rfl rfl ?_
          refine g_nil ?_
          exact d_round (l161, some ⟨g261, 0, none⟩, 0) ⟨hm, rfl⟩ Nat.zero_lt_one ⟨rfl, rfl, rfl, trivial⟩ (fun W h => (ok_frontR (t := 1000) (t' := 1000) (ok_frontR (t := 1001) (t' := 1001) h rfl) rfl).phi (fun W hφ => hφ))
         ·
          refine c_skip ?_
          exact d_round (l161, A162, c163) ⟨hm, (some_of_no h259)⟩ Nat.zero_lt_one ⟨rfl, rfl, rfl, trivial⟩ (fun W h => h.phi (fun W hφ => hφ))
        ·
         unfold m_pack_Packer_Name_j5 at hm
         refine d_flat [(0, .pointer (some ⟨go0, 0, none⟩)), (1, .string s164), (2, .bool p2)] ⟨rfl, rfl, rfl, trivial⟩ (fun u => ?_)
         refine d_sta ⟨w0, M, (1000, go0, .cells #[.slice A159 l158.length c160, mapV A254] 67 (0, 0)) :: H, (1000, ⟨.slice A159 l158.length c160, 5, 1, l158.length, l158.flatMap (fun x : Int => [Value.int .u8 x])⟩) :: (1001, ⟨mapV A254, 65, 2, l253.length, l253.flatMap (mcell (fun x : ByteArray => Value.string x) (fun x : Int => Value.int .i64 x))⟩) :: R, φ⟩ (fun _ h => h) ?_
         refine d_then ?_
         refine ga_start (n := 11) ⟨w0, M, (1000, go0, .cells #[.slice A159 l158.length c160, mapV A254] 67 (0, 0)) :: H, (1000, ⟨.slice A159 l158.length c160, 5, 1, l158.length, l158.flatMap (fun x : Int => [Value.int .u8 x])⟩) :: R, φ⟩ [10] #[false, false, false, false, false, false, false, false, false, false, false] (fun W h => (h.dropR (t := 1001) rfl).phi (fun W hφ => hφ)) mixed rfl rfl ?_
         refine ga_v (i := 0) #[true, false, false, false, false, false, false, false, false, false, false] rfl (by kernel_rfl) (fun _ _ _ _ h => h) rfl (r_move) ?_
         refine ga_v (i := 1) #[true, true, false, false, false, false, false, false, false, false, false] rfl (by kernel_rfl) (fun _ _ _ _ h => h) rfl (r_nilck rfl) ?_
         refine ga_v (i := 2) #[true, true, true, false, false, false, false, false, false, false, false] rfl (by kernel_rfl) (fun _ _ _ _ h => h) rfl (r_field (n := 1) Try.underlying67 rfl Try.sizeOf65 rfl rfl) ?_
         refine ga_v (i := 3) #[true, true, true, true, false, false, false, false, false, false, false] rfl (by kernel_rfl) (fun _ _ _ _ h => h) rfl (r_load (tag := 1000) rfl rfl rfl Try.isAgg65) ?_
         refine ga_v (i := 4) #[true, true, true, true, true, false, false, false, false, false, false] rfl (by kernel_rfl) (fun _ _ _ _ h => h) rfl (r_move) ?_
         refine ga_r (i := 5) #[true, true, true, true, true, true, false, false, false, false, false] rfl (by kernel_rfl) (by decide) rfl (r_move) ?_
         refine ga_r (i := 6) #[true, true, true, true, true, true, true, false, false, false, false] rfl (by kernel_rfl) (by decide) rfl (r_nilck rfl) ?_
         refine ga_r (i := 7) #[true, true, true, true, true, true, true, true, false, false, false] rfl (by kernel_rfl) (by decide) rfl (r_field (n := 0) Try.underlying67 rfl Try.sizeOf58 rfl rfl) ?_
         refine ga_r (i := 8) #[true, true, true, true, true, true, true, true, true, false, false] rfl (by kernel_rfl) (by decide) rfl (r_load (tag := 1000) rfl rfl rfl Try.isAgg58) ?_
         refine ga_r (i := 9) #[true, true, true, true, true, true, true, true, true, true, false] rfl (by kernel_rfl) (by decide) rfl (r_lenL Try.underlying58 rfl) ?_
         replace hm := bnd hm
         obtain ⟨l258, hl258, hm⟩ := hm
         refine ga_sL (i := 10) #[true, true, true, true, true, true, true, true, true, true, true] rfl (by kernel_rfl) (by decide) (e_mput (tag := 1001) (l := l253) mapT65_3 rfl rfl rfl hc255 rfl hl258) ?_
         refine gz_done (by kernel_rfl) ?_
         exact d_round (l258, A254, c255) ⟨hm, trivial⟩ Nat.zero_lt_one ⟨rfl, rfl, rfl, trivial⟩ (fun W h => h.phi (fun W hφ => hφ))
       ·
        replace hm := ite_f hm (of_decide_eq_false h249)
        refine c_skip ?_
        exact d_round (l161, A162, c163) ⟨hm, trivial⟩ Nat.zero_lt_one ⟨rfl, rfl, rfl, trivial⟩ (fun W h => h.phi (fun W hφ => hφ))
      ·
       have h248' : x211.2 = true := by revert h248; cases x211.2 <;> simp
       replace hm := ite_t hm h248'
       refine g_no rfl rfl rfl rfl rfl h248 ?_
       refine g_no rfl rfl rfl rfl rfl h248 ?_
       refine g_no rfl rfl rfl rfl rfl h248 ?_
       refine g_no rfl rfl rfl rfl rfl h248 ?_
       refine g_no rfl rfl rfl rfl rfl h248 ?_
       refine g_v rfl (r_pick0 rfl h248) ?_
       refine g_nil ?_
       refine d_then ?_
       refine c_cond0 rfl rfl ?_
       refine c_skip ?_
       exact d_round (l161, A162, c163) ⟨hm, trivial⟩ Nat.zero_lt_one ⟨rfl, rfl, rfl, trivial⟩ (fun W h => h.phi (fun W hφ => hφ))
     ·
      unfold m_pack_Packer_Name_j4 at hm
      refine d_flat [(0, .pointer (some ⟨go0, 0, none⟩)), (1, .string s164), (2, .bool p2)] ⟨rfl, rfl, rfl, trivial⟩ (fun u => ?_)
      refine d_sta ⟨w0, M, (1000, go0, .cells #[.slice A159 l158.length c160, mapV A234] 67 (0, 0)) :: H, (1000, ⟨.slice A159 l158.length c160, 5, 1, l158.length, l158.flatMap (fun x : Int => [Value.int .u8 x])⟩) :: (1001, ⟨mapV A234, 65, 2, l233.length, l233.flatMap (mcell (fun x : ByteArray => Value.string x) (fun x : Int => Value.int .i64 x))⟩) :: R, φ⟩ (fun _ h => h) ?_
      refine d_then ?_
      refine c_seq ?_
      refine c_region ?_
      refine g_v rfl r_move ?_
      replace hm := bnd hm
      obtain ⟨b236, hb236, hm⟩ := hm
      refine g_v rfl (r_sat Try.underlying9 rfl rfl hb236) ?_
      refine g_v rfl (r_conv Try.underlying5 Try.underlying3 rfl rfl) ?_
      refine g_v rfl (r_add rfl rfl rfl) ?_
      refine g_v rfl r_assign ?_
      refine g_nil ?_
      refine d_then ?_
      refine c_seq ?_
      refine c_region ?_
      refine g_v rfl r_move ?_
      refine g_v rfl r_move ?_
      refine g_v rfl r_move ?_
      replace hm := bnd hm
      obtain ⟨s237, hs237, hm⟩ := hm
      refine g_v rfl (r_scutHi Try.underlying9 rfl rfl hs237) ?_
      replace hm := bnd hm
      obtain ⟨x238, hx239, hm⟩ := hm
      refine g_cn ⟨w0, M, (1000, go0, .cells #[.slice A159 l158.length c160, mapV A234] 67 (0, 0)) :: H, (1000, ⟨.slice A159 l158.length c160, 5, 1, l158.length, l158.flatMap (fun x : Int => [Value.int .u8 x])⟩) :: (1001, ⟨mapV A234, 65, 2, l233.length, l233.flatMap (mcell (fun x : ByteArray => Value.string x) (fun x : Int => Value.int .i64 x))⟩) :: R, φ⟩ (fun W h => (ok_front (t := 1000) (t' := 1000) (ok_frontR (t := 1000) (t' := 1000) (ok_frontR (t := 1001) (t' := 1001) h rfl) rfl) rfl)) Try.call28 rfl rfl (c_pack_Packer_Raw s237 go0 (⟨l158, l233⟩ : Gpack_Packer) A159 c160 hc160 A234 c235 trivial _ hx239) (fun ⟨A240, c241, A243, c244⟩ ⟨hc241, hc244⟩ => ?_)
      refine g_sta _ (fun W h => (ok_frontR (t := 2000) (t' := 1000) (ok_frontR (t := 2001) (t' := 1001) (ok_front (t := 1000) (t' := 1000) h rfl) rfl) rfl)) ?_
      refine g_nil ?_
      refine d_then ?_
      refine c_flat [(0, .pointer (some ⟨go0, 0, none⟩)), (1, .string s164), (2, .bool p2), (10, .int .i64 (w64 (1 + (w64 b236))))] ⟨rfl, rfl, rfl, rfl, trivial⟩ (fun u => ?_)
      refine c_sta ⟨w0, M, (1000, go0, .cells #[.slice A240 x238.fb.length c241, mapV A243] 67 (0, 0)) :: H, (1000, ⟨.slice A240 x238.fb.length c241, 5, 1, x238.fb.length, x238.fb.flatMap (fun x : Int => [Value.int .u8 x])⟩) :: (1001, ⟨mapV A243, 65, 2, x238.fplaces.length, x238.fplaces.flatMap (mcell (fun x : ByteArray => Value.string x) (fun x : Int => Value.int .i64 x))⟩) :: R, φ⟩ (fun _ h => h) ?_
      refine c_region ?_
      refine g_v rfl r_move ?_
      refine g_v rfl r_move ?_
      replace hm := bnd hm
      obtain ⟨s246, hs246, hm⟩ := hm
      refine g_v rfl (r_scutLo Try.underlying9 rfl rfl hs246) ?_
      refine g_v rfl r_assign ?_
      refine g_nil ?_
      refine d_normal_block ?_
      obtain ⟨n247, hn247, hlp⟩ := nx_inl hm hnx2
      exact d_round (n247, x238.fb, x238.fplaces, s246, A240, c241, A243, c244) ⟨hlp, hc241, trivial⟩ hn247 ⟨rfl, rfl, rfl, trivial⟩ (fun W h => h.phi (fun W hφ => hφ))
   ·
    replace hm := ite_f hm (of_decide_eq_false h210)
    refine c_exit ?_
    refine d_exit_then ?_
    refine d_exit_then ?_
    refine d_exit_block ?_
    replace hm := nx_out (C := (fun e => Sum.elim (fun e => m_pack_Packer_Name_j1 e.1 e.2) (fun x => some x) e = some r)) hm hnx2 hr2
    exact d_round (l158, l161, A159, c160, A162, c163) ⟨hm, hc160, trivial⟩ Nat.zero_lt_one ⟨rfl, trivial⟩ (fun W h => h.phi (fun W hφ => hφ))
  ·
   unfold m_pack_Packer_Name_j1 at hm
   refine d_flat [(0, .pointer (some ⟨go0, 0, none⟩))] ⟨rfl, trivial⟩ (fun u => ?_)
   refine d_sta ⟨w0, M, (1000, go0, .cells #[.slice A101 l100.length c102, mapV A104] 67 (0, 0)) :: H, (1000, ⟨.slice A101 l100.length c102, 5, 1, l100.length, l100.flatMap (fun x : Int => [Value.int .u8 x])⟩) :: (1001, ⟨mapV A104, 65, 2, l103.length, l103.flatMap (mcell (fun x : ByteArray => Value.string x) (fun x : Int => Value.int .i64 x))⟩) :: R, φ⟩ (fun _ h => h) ?_
   refine d_then ?_
   refine c_seq ?_
   refine c_region ?_
   refine g_v rfl r_move ?_
   replace hm := bnd hm
   obtain ⟨x106, hx107, hm⟩ := hm
   refine g_cn ⟨w0, M, (1000, go0, .cells #[.slice A101 l100.length c102, mapV A104] 67 (0, 0)) :: H, (1000, ⟨.slice A101 l100.length c102, 5, 1, l100.length, l100.flatMap (fun x : Int => [Value.int .u8 x])⟩) :: (1001, ⟨mapV A104, 65, 2, l103.length, l103.flatMap (mcell (fun x : ByteArray => Value.string x) (fun x : Int => Value.int .i64 x))⟩) :: R, φ⟩ (fun W h => (ok_front (t := 1000) (t' := 1000) (ok_frontR (t := 1000) (t' := 1000) (ok_frontR (t := 1001) (t' := 1001) h rfl) rfl) rfl)) Try.call31 rfl rfl (c_pack_Packer_Byte 0 go0 (⟨l100, l103⟩ : Gpack_Packer) A101 c102 hc102 A104 c105 trivial _ hx107) (fun ⟨A108, c109, A111, c112⟩ ⟨hc109, hc112⟩ => ?_)
   refine g_sta _ (fun W h => (ok_frontR (t := 2000) (t' := 1000) (ok_frontR (t := 2001) (t' := 1001) (ok_front (t := 1000) (t' := 1000) h rfl) rfl) rfl)) ?_
   refine g_nil ?_
   refine d_then ?_
   refine c_seq ?_
   refine c_region ?_
   refine g_v rfl r_assign ?_
   refine g_nil ?_
   refine d_then ?_
   refine c_ret ?_
   replace hm := Option.some.inj hm
   subst hm
   refine d_sta _ (fun W h => ok_frontR (t := 1001) (t' := 2001) h rfl) ?_
   refine d_sta _ (fun W h => ok_frontR (t := 1000) (t' := 2000) h rfl) ?_
   refine d_retC (A108, c109, A111, c112) Try.results27 ?_ ⟨hc109, hc112⟩ (fun W h => h.phi (fun W hφ => hφ)) (.inr rfl)
   refine res_tmp ?_
   refine res_nil ?_
   exact rfl

noncomputable def m_pack_Packer_Bytes (o0 : Gpack_Packer) : Option ByteArray :=
  some (strOfNums o0.fb)
theorem c_pack_Packer_Bytes {w0 : World} {M : Nat → Prop} {H : List (Nat × Nat × Obj)} {R : List (Nat × Row)} {φ : World → Prop} (go0 : Nat) (o0 : Gpack_Packer) (Ao0_0 : Option Addr) (co0_0 : Nat) (hco0_0 : o0.fb.length ≤ co0_0) (Ao0_1 : Option Addr) (co0_1 : Nat) (hco0_1 : True) (r : ByteArray) (hm : m_pack_Packer_Bytes o0 = some r) :
    Cn Try.prog 29 #[.pointer (some ⟨go0, 0, none⟩)] ⟨w0, M, (1000, go0, .cells #[.slice Ao0_0 o0.fb.length co0_0, mapV Ao0_1] 67 (0, 0)) :: H, (1000, ⟨.slice Ao0_0 o0.fb.length co0_0, 5, 1, o0.fb.length, o0.fb.flatMap (fun x : Int => [Value.int .u8 x])⟩) :: (1001, ⟨mapV Ao0_1, 65, 2, o0.fplaces.length, o0.fplaces.flatMap (mcell (fun x : ByteArray => Value.string x) (fun x : Int => Value.int .i64 x))⟩) :: R, φ⟩ (fun x : Unit => .string r) (fun x => True) (fun x => ⟨w0, M, (1000, go0, .cells #[.slice Ao0_0 o0.fb.length co0_0, mapV Ao0_1] 67 (0, 0)) :: H, (1000, ⟨.slice Ao0_0 o0.fb.length co0_0, 5, 1, o0.fb.length, o0.fb.flatMap (fun x : Int => [Value.int .u8 x])⟩) :: (1001, ⟨mapV Ao0_1, 65, 2, o0.fplaces.length, o0.fplaces.flatMap (mcell (fun x : ByteArray => Value.string x) (fun x : Int => Value.int .i64 x))⟩) :: R, φ⟩) := by
 unfold m_pack_Packer_Bytes at hm
 refine cn_intro (fn := Try.f29) (N := 10) Try.func29 rfl Try.ntmps29 rfl ?_
 refine c_seq ?_
 refine c_region ?_
 refine g_v rfl r_assign ?_
 refine g_nil ?_
 refine d_then ?_
 refine c_seq ?_
 refine c_seq ?_
 refine c_region ?_
 refine g_v rfl r_move ?_
 refine g_v rfl (r_eqlP1 Try.underlying42 rfl rfl) ?_
 refine g_nil ?_
 refine d_then ?_
 refine c_cond0 rfl rfl ?_
 refine c_skip ?_
 refine d_then ?_
 refine c_seq ?_
 refine c_region ?_
 refine g_v rfl r_move ?_
 refine g_v rfl (r_nilck rfl) ?_
 refine g_v rfl (r_field (n := 0) Try.underlying67 rfl Try.sizeOf58 rfl rfl) ?_
 refine g_v rfl (r_load (tag := 1000) rfl rfl rfl Try.isAgg58) ?_
 refine g_v rfl (r_textE Try.underlying58 Try.underlying5 Try.underlying9 rfl (fun W hS => rowCl (tag := 1000) rfl W hS)) ?_
 refine g_v rfl r_assign ?_
 refine g_nil ?_
 refine d_then ?_
 refine c_flat [(2, .string (strOfNums o0.fb))] ⟨rfl, trivial⟩ (fun u => ?_)
 refine c_sta ⟨w0, M, (1000, go0, .cells #[.slice Ao0_0 o0.fb.length co0_0, mapV Ao0_1] 67 (0, 0)) :: H, (1000, ⟨.slice Ao0_0 o0.fb.length co0_0, 5, 1, o0.fb.length, o0.fb.flatMap (fun x : Int => [Value.int .u8 x])⟩) :: (1001, ⟨mapV Ao0_1, 65, 2, o0.fplaces.length, o0.fplaces.flatMap (mcell (fun x : ByteArray => Value.string x) (fun x : Int => Value.int .i64 x))⟩) :: R, φ⟩ (fun _ h => h) ?_
 refine c_ret ?_
 replace hm := Option.some.inj hm
 subst hm
 refine d_retC () Try.results29 ?_ trivial (fun W h => h.phi (fun W hφ => hφ)) (.inr rfl)
 refine res_tmp ?_
 refine res_nil ?_
 exact rfl

noncomputable def m_pack_Raw (p0 : ByteArray) (p1 : Int) (p2 : Int) : Option (ByteArray × Int × Int) :=
  if p1 < 0 then
    some ((⟨#[]⟩ : ByteArray), 0, 10)
  else
    if p2 < 0 then
      some ((⟨#[]⟩ : ByteArray), 0, 10)
    else
      if (p0.size : Int) < p1 then
        some ((⟨#[]⟩ : ByteArray), 0, 10)
      else
        if w64 ((p0.size : Int) - p1) < p2 then
          some ((⟨#[]⟩ : ByteArray), 0, 10)
        else
          (scutMid p0 p1 (w64 (p1 + p2))).bind fun s5 =>
          some (s5, w64 (p1 + p2), 0)
theorem c_pack_Raw {w0 : World} {M : Nat → Prop} {H : List (Nat × Nat × Obj)} {R : List (Nat × Row)} {φ : World → Prop} (p0 : ByteArray) (p1 : Int) (p2 : Int) (r : ByteArray × Int × Int) (hm : m_pack_Raw p0 p1 p2 = some r) :
    Cn Try.prog 23 #[.string p0, .int .i64 p1, .int .i64 p2] ⟨w0, M, H, R, φ⟩ (fun x : Unit => .tuple #[.string r.1, .int .i64 r.2.1, .int .i64 r.2.2]) (fun x => True) (fun x => ⟨w0, M, H, R, φ⟩) := by
 unfold m_pack_Raw at hm
 refine cn_intro (fn := Try.f23) (N := 38) Try.func23 rfl Try.ntmps23 rfl ?_
 refine c_seq ?_
 refine c_region ?_
 refine g_v rfl r_assign ?_
 refine g_v rfl r_assign ?_
 refine g_v rfl r_assign ?_
 refine g_nil ?_
 refine d_then ?_
 refine c_seq ?_
 refine c_seq ?_
 refine c_region ?_
 refine g_v rfl r_move ?_
 refine g_v rfl (r_lss rfl rfl) ?_
 refine g_v rfl r_move ?_
 refine g_if rfl rfl rfl rfl rfl (fun h1 => ?_) (fun h1 => ?_)
 ·
  replace hm := ite_f hm (of_decide_eq_false h1)
  refine g_v rfl r_move ?_
  refine g_do rfl rfl rfl rfl rfl h1 ?_
  refine g_v rfl (r_lss rfl rfl) ?_
  refine g_v rfl (r_pick0 rfl h1) ?_
  refine g_v rfl r_move ?_
  refine g_if rfl rfl rfl rfl rfl (fun h2 => ?_) (fun h2 => ?_)
  ·
   replace hm := ite_f hm (of_decide_eq_false h2)
   refine g_v rfl r_move ?_
   refine g_do rfl rfl rfl rfl rfl h2 ?_
   refine g_v rfl r_move ?_
   refine g_do rfl rfl rfl rfl rfl h2 ?_
   refine g_v rfl (r_len Try.underlying9 rfl) ?_
   refine g_do rfl rfl rfl rfl rfl h2 ?_
   refine g_v rfl (r_gtr rfl rfl) ?_
   refine g_v rfl (r_pick0 rfl h2) ?_
   refine g_v rfl r_move ?_
   refine g_if rfl rfl rfl rfl rfl (fun h3 => ?_) (fun h3 => ?_)
   ·
    replace hm := ite_f hm (of_decide_eq_false h3)
    refine g_v rfl r_move ?_
    refine g_do rfl rfl rfl rfl rfl h3 ?_
    refine g_v rfl r_move ?_
    refine g_do rfl rfl rfl rfl rfl h3 ?_
    refine g_v rfl (r_len Try.underlying9 rfl) ?_
    refine g_do rfl rfl rfl rfl rfl h3 ?_
    refine g_v rfl r_move ?_
    refine g_do rfl rfl rfl rfl rfl h3 ?_
    refine g_v rfl (r_sub rfl rfl rfl) ?_
    refine g_do rfl rfl rfl rfl rfl h3 ?_
    refine g_v rfl (r_gtr rfl rfl) ?_
    refine g_v rfl (r_pick0 rfl h3) ?_
    refine g_nil ?_
    refine d_then ?_
    refine c_flat [(0, .string p0), (1, .int .i64 p1), (2, .int .i64 p2), (28, .bool (decide (w64 ((p0.size : Int) - p1) < p2)))] ⟨rfl, rfl, rfl, rfl, trivial⟩ (fun u => ?_)
    refine c_sta ⟨w0, M, H, R, φ⟩ (fun _ h => h) ?_
    refine c_cond rfl (fun h4 => ?_) (fun h4 => ?_)
    ·
     replace hm := ite_t hm (of_decide_eq_true h4)
     refine c_seq ?_
     refine c_region ?_
     refine g_v rfl r_assign ?_
     refine g_v rfl r_assign ?_
     refine g_v rfl r_assign ?_
     refine g_nil ?_
     refine d_then ?_
     refine c_ret ?_
     refine d_ret_then ?_
     replace hm := Option.some.inj hm
     subst hm
     refine d_retC () Try.results23 ?_ trivial (fun W h => ok_pre (H1 := []) (R1 := []) h (fun W hφ => hφ)) (.inr rfl)
     refine res_tmp ?_
     refine res_tmp ?_
     refine res_tmp ?_
     refine res_nil ?_
     exact rfl
    ·
     replace hm := ite_f hm (of_decide_eq_false h4)
     refine c_skip ?_
     refine d_then ?_
     refine c_seq ?_
     refine c_region ?_
     refine g_v rfl r_move ?_
     refine g_v rfl r_move ?_
     refine g_v rfl r_move ?_
     refine g_v rfl r_move ?_
     refine g_v rfl (r_add rfl rfl rfl) ?_
     replace hm := bnd hm
     obtain ⟨s5, hs5, hm⟩ := hm
     refine g_v rfl (r_scutMid Try.underlying9 rfl rfl rfl hs5) ?_
     refine g_v rfl r_move ?_
     refine g_v rfl r_move ?_
     refine g_v rfl (r_add rfl rfl rfl) ?_
     refine g_v rfl r_assign ?_
     refine g_v rfl r_assign ?_
     refine g_v rfl r_assign ?_
     refine g_nil ?_
     refine d_then ?_
     refine c_flat [(6, .string s5), (7, .int .i64 (w64 (p1 + p2))), (8, .int .i64 0)] ⟨rfl, rfl, rfl, trivial⟩ (fun u => ?_)
     refine c_sta ⟨w0, M, H, R, φ⟩ (fun _ h => h) ?_
     refine c_ret ?_
     replace hm := Option.some.inj hm
     subst hm
     refine d_retC () Try.results23 ?_ trivial (fun W h => ok_pre (H1 := []) (R1 := []) h (fun W hφ => hφ)) (.inr rfl)
     refine res_tmp ?_
     refine res_tmp ?_
     refine res_tmp ?_
     refine res_nil ?_
     exact rfl
   ·
    replace hm := ite_t hm (of_decide_eq_true h3)
    refine g_no rfl rfl rfl rfl rfl h3 ?_
    refine g_no rfl rfl rfl rfl rfl h3 ?_
    refine g_no rfl rfl rfl rfl rfl h3 ?_
    refine g_no rfl rfl rfl rfl rfl h3 ?_
    refine g_no rfl rfl rfl rfl rfl h3 ?_
    refine g_v rfl (r_pick1 rfl h3) ?_
    refine g_nil ?_
    refine d_then ?_
    refine c_flat [(0, .string p0), (1, .int .i64 p1), (2, .int .i64 p2), (28, .bool true)] ⟨rfl, rfl, rfl, rfl, trivial⟩ (fun u => ?_)
    refine c_sta ⟨w0, M, H, R, φ⟩ (fun _ h => h) ?_
    refine c_cond1 rfl rfl ?_
    refine c_seq ?_
    refine c_region ?_
    refine g_v rfl r_assign ?_
    refine g_v rfl r_assign ?_
    refine g_v rfl r_assign ?_
    refine g_nil ?_
    refine d_then ?_
    refine c_ret ?_
    refine d_ret_then ?_
    replace hm := Option.some.inj hm
    subst hm
    refine d_retC () Try.results23 ?_ trivial (fun W h => ok_pre (H1 := []) (R1 := []) h (fun W hφ => hφ)) (.inr rfl)
    refine res_tmp ?_
    refine res_tmp ?_
    refine res_tmp ?_
    refine res_nil ?_
    exact rfl
  ·
   replace hm := ite_t hm (of_decide_eq_true h2)
   refine g_no rfl rfl rfl rfl rfl h2 ?_
   refine g_no rfl rfl rfl rfl rfl h2 ?_
   refine g_no rfl rfl rfl rfl rfl h2 ?_
   refine g_v rfl (r_pick1 rfl h2) ?_
   refine g_v rfl r_move ?_
   refine g_no rfl rfl rfl rfl rfl rfl ?_
   refine g_no rfl rfl rfl rfl rfl rfl ?_
   refine g_no rfl rfl rfl rfl rfl rfl ?_
   refine g_no rfl rfl rfl rfl rfl rfl ?_
   refine g_no rfl rfl rfl rfl rfl rfl ?_
   refine g_no rfl rfl rfl rfl rfl rfl ?_
   refine g_v rfl (r_pick1 rfl rfl) ?_
   refine g_nil ?_
   refine d_then ?_
   refine c_flat [(0, .string p0), (1, .int .i64 p1), (2, .int .i64 p2), (28, .bool true)] ⟨rfl, rfl, rfl, rfl, trivial⟩ (fun u => ?_)
   refine c_sta ⟨w0, M, H, R, φ⟩ (fun _ h => h) ?_
   refine c_cond1 rfl rfl ?_
   refine c_seq ?_
   refine c_region ?_
   refine g_v rfl r_assign ?_
   refine g_v rfl r_assign ?_
   refine g_v rfl r_assign ?_
   refine g_nil ?_
   refine d_then ?_
   refine c_ret ?_
   refine d_ret_then ?_
   replace hm := Option.some.inj hm
   subst hm
   refine d_retC () Try.results23 ?_ trivial (fun W h => ok_pre (H1 := []) (R1 := []) h (fun W hφ => hφ)) (.inr rfl)
   refine res_tmp ?_
   refine res_tmp ?_
   refine res_tmp ?_
   refine res_nil ?_
   exact rfl
 ·
  replace hm := ite_t hm (of_decide_eq_true h1)
  refine g_no rfl rfl rfl rfl rfl h1 ?_
  refine g_v rfl (r_pick1 rfl h1) ?_
  refine g_v rfl r_move ?_
  refine g_no rfl rfl rfl rfl rfl rfl ?_
  refine g_no rfl rfl rfl rfl rfl rfl ?_
  refine g_no rfl rfl rfl rfl rfl rfl ?_
  refine g_no rfl rfl rfl rfl rfl rfl ?_
  refine g_v rfl (r_pick1 rfl rfl) ?_
  refine g_v rfl r_move ?_
  refine g_no rfl rfl rfl rfl rfl rfl ?_
  refine g_no rfl rfl rfl rfl rfl rfl ?_
  refine g_no rfl rfl rfl rfl rfl rfl ?_
  refine g_no rfl rfl rfl rfl rfl rfl ?_
  refine g_no rfl rfl rfl rfl rfl rfl ?_
  refine g_no rfl rfl rfl rfl rfl rfl ?_
  refine g_v rfl (r_pick1 rfl rfl) ?_
  refine g_nil ?_
  refine d_then ?_
  refine c_flat [(0, .string p0), (1, .int .i64 p1), (2, .int .i64 p2), (28, .bool true)] ⟨rfl, rfl, rfl, rfl, trivial⟩ (fun u => ?_)
  refine c_sta ⟨w0, M, H, R, φ⟩ (fun _ h => h) ?_
  refine c_cond1 rfl rfl ?_
  refine c_seq ?_
  refine c_region ?_
  refine g_v rfl r_assign ?_
  refine g_v rfl r_assign ?_
  refine g_v rfl r_assign ?_
  refine g_nil ?_
  refine d_then ?_
  refine c_ret ?_
  refine d_ret_then ?_
  replace hm := Option.some.inj hm
  subst hm
  refine d_retC () Try.results23 ?_ trivial (fun W h => ok_pre (H1 := []) (R1 := []) h (fun W hφ => hφ)) (.inr rfl)
  refine res_tmp ?_
  refine res_tmp ?_
  refine res_tmp ?_
  refine res_nil ?_
  exact rfl

noncomputable def m_pack_number_j1 (x2 : Int) (x3 : Int) (i17 : Int) : Option (Int × Int × Int) :=
  some (i17, x2, x3)
noncomputable def m_pack_number_s2 (x1 : ByteArray) (i22 : Int) (i23 : Int) : Option ((Int × Int) ⊕ Int) :=
  if i23 < (x1.size : Int) then
    (sat_ x1 i23).bind fun b30 =>
    some (.inl (orI .u32 (IntKind.u32.wrap (i22 * 256)) (IntKind.u32.wrap b30), w64 (i23 + 1)))
  else
    some (.inr i22)
noncomputable def m_pack_number (p0 : ByteArray) (p1 : Int) (p2 : Int) : Option (Int × Int × Int) :=
  (m_pack_Raw p0 p1 p2).bind fun (z5 : ByteArray × Int × Int) =>
  (loop (fun s => m_pack_number_s2 z5.1 s.1 s.2) (0, 0)).bind fun e => m_pack_number_j1 z5.2.1 z5.2.2 e
theorem c_pack_number {w0 : World} {M : Nat → Prop} {H : List (Nat × Nat × Obj)} {R : List (Nat × Row)} {φ : World → Prop} (p0 : ByteArray) (p1 : Int) (p2 : Int) (r : Int × Int × Int) (hm : m_pack_number p0 p1 p2 = some r) :
    Cn Try.prog 63 #[.string p0, .int .i64 p1, .int .i64 p2] ⟨w0, M, H, R, φ⟩ (fun x : Unit => .tuple #[.int .u32 r.1, .int .i64 r.2.1, .int .i64 r.2.2]) (fun x => True) (fun x => ⟨w0, M, H, R, φ⟩) := by
 unfold m_pack_number at hm
 refine cn_intro (fn := Try.f63) (N := 38) Try.func63 rfl Try.ntmps63 rfl ?_
 refine c_seq ?_
 refine c_region ?_
 refine g_v rfl r_assign ?_
 refine g_v rfl r_assign ?_
 refine g_v rfl r_assign ?_
 refine g_nil ?_
 refine d_then ?_
 refine c_seq ?_
 refine c_region ?_
 refine g_v rfl r_move ?_
 refine g_v rfl r_move ?_
 refine g_v rfl r_move ?_
 replace hm := bnd hm
 obtain ⟨⟨x1, x2, x3⟩, hx4, hm⟩ := hm
 refine g_cn ⟨w0, M, _, _, φ⟩ (fun _ h => h) Try.call23 rfl rfl (c_pack_Raw p0 p1 p2 _ hx4) (fun _ _ => ?_)
 refine g_v rfl r_move ?_
 refine g_v rfl (r_extract rfl rfl) ?_
 refine g_v rfl (r_extract rfl rfl) ?_
 refine g_v rfl (r_extract rfl rfl) ?_
 refine g_v rfl r_assign ?_
 refine g_v rfl r_assign ?_
 refine g_v rfl r_assign ?_
 refine g_nil ?_
 refine d_then ?_
 refine c_flat [(9, .string x1), (10, .int .i64 x2), (11, .int .i64 x3)] ⟨rfl, rfl, rfl, trivial⟩ (fun u => ?_)
 refine c_sta ⟨w0, M, H, R, φ⟩ (fun _ h => h) ?_
 refine c_seq ?_
 refine c_region ?_
 refine g_v rfl r_assign ?_
 refine g_nil ?_
 refine d_then ?_
 refine c_seq ?_
 refine c_seq ?_
 refine c_region ?_
 refine g_v rfl r_move ?_
 refine g_v rfl (r_len Try.underlying9 rfl) ?_
 refine g_v rfl r_move ?_
 refine g_nil ?_
 refine d_then ?_
 refine c_cut (ι := Int) [10, 11, 12] (fun i17 => [(12, .int .u32 i17)]) (fun i17 => ⟨w0, M, H, R, φ⟩) (fun i17 => m_pack_number_j1 x2 x3 i17 = some r) ?_ (fun i17 u hm => ?_)
 ·
  refine c_block ?_
  replace hm := bnd hm
  obtain ⟨out2, hl2, hr2⟩ := hm
  obtain ⟨n28', hl2⟩ := loop_lp hl2
  refine c_loopU (ι := Nat × Int × Int) [9, 10, 11, 12, 23, 24] (fun ⟨n28, i22, i23⟩ => [(12, .int .u32 i22), (24, .int .i64 i23)]) (fun ⟨n28, i22, i23⟩ => ⟨w0, M, H, R, φ⟩) (fun ⟨n28, i22, i23⟩ => Lp (fun s => m_pack_number_s2 x1 s.1 s.2) n28 (i22, i23) out2) (fun ⟨n28, i22, i23⟩ => n28) (n28', 0, 0) hl2 ⟨rfl, rfl, rfl, rfl, rfl, rfl, trivial⟩ (fun W h => h.phi (fun W hφ => hφ)) (fun ⟨n28, i22, i23⟩ u hlp => ?_)
  obtain ⟨o2, hm, hnx2⟩ := lp_step hlp
  clear hlp
  replace hm : m_pack_number_s2 x1 i22 i23 = some o2 := hm
  unfold m_pack_number_s2 at hm
  refine c_flat [(9, .string x1), (10, .int .i64 x2), (11, .int .i64 x3), (12, .int .u32 i22), (23, .int .i64 (x1.size : Int)), (24, .int .i64 i23)] ⟨rfl, rfl, rfl, rfl, rfl, rfl, trivial⟩ (fun u => ?_)
  refine c_sta ⟨w0, M, H, R, φ⟩ (fun _ h => h) ?_
  refine c_seq ?_
  refine c_region ?_
  refine g_v rfl (r_lss rfl rfl) ?_
  refine g_nil ?_
  refine d_then ?_
  refine c_seq ?_
  refine c_cond rfl (fun h29 => ?_) (fun h29 => ?_)
  ·
   replace hm := ite_t hm (of_decide_eq_true h29)
   refine c_skip ?_
   refine d_then ?_
   refine c_seq ?_
   refine c_block ?_
   refine c_seq ?_
   refine c_region ?_
   refine g_v rfl r_move ?_
   refine g_v rfl r_assign ?_
   refine g_nil ?_
   refine d_then ?_
   refine c_region ?_
   refine g_v rfl r_move ?_
   refine g_v rfl (r_shl (n := 256) rfl rfl (by decide) (by decide) (by decide)) ?_
   refine g_v rfl r_move ?_
   refine g_v rfl r_move ?_
   replace hm := bnd hm
   obtain ⟨b30, hb30, hm⟩ := hm
   refine g_v rfl (r_sat Try.underlying9 rfl rfl hb30) ?_
   refine g_v rfl (r_conv Try.underlying5 Try.underlying36 rfl rfl) ?_
   refine g_v rfl (r_bits_or rfl rfl) ?_
   refine g_v rfl r_assign ?_
   refine g_nil ?_
   refine d_normal_block ?_
   refine d_then ?_
   refine c_flat [(9, .string x1), (10, .int .i64 x2), (11, .int .i64 x3), (12, .int .u32 (orI .u32 (IntKind.u32.wrap (i22 * 256)) (IntKind.u32.wrap b30))), (23, .int .i64 (x1.size : Int)), (24, .int .i64 i23)] ⟨rfl, rfl, rfl, rfl, rfl, rfl, trivial⟩ (fun u => ?_)
   refine c_sta ⟨w0, M, H, R, φ⟩ (fun _ h => h) ?_
   refine c_region ?_
   refine g_v rfl (r_add rfl rfl rfl) ?_
   refine g_v rfl r_move ?_
   refine g_nil ?_
   obtain ⟨n31, hn31, hlp⟩ := nx_inl hm hnx2
   exact d_round (n31, orI .u32 (IntKind.u32.wrap (i22 * 256)) (IntKind.u32.wrap b30), w64 (i23 + 1)) hlp hn31 ⟨rfl, rfl, rfl, rfl, rfl, rfl, trivial⟩ (fun W h => h.phi (fun W hφ => hφ))
  ·
   replace hm := ite_f hm (of_decide_eq_false h29)
   refine c_exit ?_
   refine d_exit_then ?_
   refine d_exit_then ?_
   refine d_exit_block ?_
   replace hm := nx_out (C := (fun e => m_pack_number_j1 x2 x3 e = some r)) hm hnx2 hr2
   exact d_round i22 hm Nat.zero_lt_one ⟨rfl, rfl, rfl, trivial⟩ (fun W h => h.phi (fun W hφ => hφ))
 ·
  unfold m_pack_number_j1 at hm
  refine d_flat [(10, .int .i64 x2), (11, .int .i64 x3), (12, .int .u32 i17)] ⟨rfl, rfl, rfl, trivial⟩ (fun u => ?_)
  refine d_sta ⟨w0, M, H, R, φ⟩ (fun _ h => h) ?_
  refine d_then ?_
  refine c_seq ?_
  refine c_region ?_
  refine g_v rfl r_move ?_
  refine g_v rfl r_move ?_
  refine g_v rfl r_move ?_
  refine g_v rfl r_assign ?_
  refine g_v rfl r_assign ?_
  refine g_v rfl r_assign ?_
  refine g_nil ?_
  refine d_then ?_
  refine c_ret ?_
  replace hm := Option.some.inj hm
  subst hm
  refine d_retC () Try.results63 ?_ trivial (fun W h => ok_pre (H1 := []) (R1 := []) h (fun W hφ => hφ)) (.inr rfl)
  refine res_tmp ?_
  refine res_tmp ?_
  refine res_tmp ?_
  refine res_nil ?_
  exact rfl

noncomputable def m_pack_Byte (p0 : ByteArray) (p1 : Int) : Option (Int × Int × Int) :=
  (m_pack_number p0 p1 1).bind fun (z5 : Int × Int × Int) =>
  some (IntKind.u8.wrap z5.1, z5.2.1, z5.2.2)
theorem c_pack_Byte {w0 : World} {M : Nat → Prop} {H : List (Nat × Nat × Obj)} {R : List (Nat × Row)} {φ : World → Prop} (p0 : ByteArray) (p1 : Int) (r : Int × Int × Int) (hm : m_pack_Byte p0 p1 = some r) :
    Cn Try.prog 19 #[.string p0, .int .i64 p1] ⟨w0, M, H, R, φ⟩ (fun x : Unit => .tuple #[.int .u8 r.1, .int .i64 r.2.1, .int .i64 r.2.2]) (fun x => True) (fun x => ⟨w0, M, H, R, φ⟩) := by
 unfold m_pack_Byte at hm
 refine cn_intro (fn := Try.f19) (N := 21) Try.func19 rfl Try.ntmps19 rfl ?_
 refine c_seq ?_
 refine c_region ?_
 refine g_v rfl r_assign ?_
 refine g_v rfl r_assign ?_
 refine g_v rfl r_assign ?_
 refine g_nil ?_
 refine d_then ?_
 refine c_seq ?_
 refine c_region ?_
 refine g_v rfl r_move ?_
 refine g_v rfl r_move ?_
 replace hm := bnd hm
 obtain ⟨⟨x1, x2, x3⟩, hx4, hm⟩ := hm
 refine g_cn ⟨w0, M, _, _, φ⟩ (fun _ h => h) Try.call63 rfl rfl (c_pack_number p0 p1 1 _ hx4) (fun _ _ => ?_)
 refine g_v rfl r_move ?_
 refine g_v rfl (r_extract rfl rfl) ?_
 refine g_v rfl (r_extract rfl rfl) ?_
 refine g_v rfl (r_extract rfl rfl) ?_
 refine g_v rfl r_assign ?_
 refine g_v rfl r_assign ?_
 refine g_v rfl r_assign ?_
 refine g_nil ?_
 refine d_then ?_
 refine c_flat [(7, .int .u32 x1), (8, .int .i64 x2), (9, .int .i64 x3)] ⟨rfl, rfl, rfl, trivial⟩ (fun u => ?_)
 refine c_sta ⟨w0, M, H, R, φ⟩ (fun _ h => h) ?_
 refine c_seq ?_
 refine c_region ?_
 refine g_v rfl r_move ?_
 refine g_v rfl (r_conv Try.underlying36 Try.underlying5 rfl rfl) ?_
 refine g_v rfl r_move ?_
 refine g_v rfl r_move ?_
 refine g_v rfl r_assign ?_
 refine g_v rfl r_assign ?_
 refine g_v rfl r_assign ?_
 refine g_nil ?_
 refine d_then ?_
 refine c_ret ?_
 replace hm := Option.some.inj hm
 subst hm
 refine d_retC () Try.results19 ?_ trivial (fun W h => ok_pre (H1 := []) (R1 := []) h (fun W hφ => hφ)) (.inr rfl)
 refine res_tmp ?_
 refine res_tmp ?_
 refine res_tmp ?_
 refine res_nil ?_
 exact rfl

noncomputable def m_pack_Name_c1 (p0 : Int) (o0 : Int) : Option Int :=
  if o0 < 0 then
    some p0
  else
    some o0
theorem c_pack_Name_c1 {w0 : World} {M : Nat → Prop} {H : List (Nat × Nat × Obj)} {R : List (Nat × Row)} {φ : World → Prop} (p0 : Int) (go0 : Nat) (o0 : Int) (r : Int) (hm : m_pack_Name_c1 p0 o0 = some r) :
    Cn Try.prog 62 #[.int .i64 p0, .pointer (some ⟨go0, 0, none⟩)] ⟨w0, M, (1000, go0, .cells #[.int .i64 o0] 3 (0, 0)) :: H, R, φ⟩ (fun x : Unit => .tuple #[]) (fun x => True) (fun x => ⟨w0, M, (1000, go0, .cells #[.int .i64 r] 3 (0, 0)) :: H, R, φ⟩) := by
 unfold m_pack_Name_c1 at hm
 refine cn_intro (fn := Try.f62) (N := 6) Try.func62 rfl Try.ntmps62 rfl ?_
 refine c_seq ?_
 refine c_region ?_
 refine g_v rfl (r_load (tag := 1000) rfl rfl rfl Try.isAgg3) ?_
 refine g_v rfl (r_lss rfl rfl) ?_
 refine g_nil ?_
 refine d_then ?_
 refine c_cond rfl (fun h1 => ?_) (fun h1 => ?_)
 ·
  replace hm := ite_t hm (of_decide_eq_true h1)
  refine c_region ?_
  refine g_v rfl r_move ?_
  refine g_storeL (tag := 1000) rfl rfl rfl rfl Try.sizeOf3 rfl rfl ?_
  refine g_nil ?_
  replace hm := Option.some.inj hm
  subst hm
  refine d_retC () Try.results62 ?_ trivial (fun W h => h.phi (fun W hφ => hφ)) (.inl rfl)
  refine res_nil ?_
  exact rfl
 ·
  replace hm := ite_f hm (of_decide_eq_false h1)
  refine c_skip ?_
  replace hm := Option.some.inj hm
  subst hm
  refine d_retC () Try.results62 ?_ trivial (fun W h => h.phi (fun W hφ => hφ)) (.inl rfl)
  refine res_nil ?_
  exact rfl

noncomputable def m_pack_Word (p0 : ByteArray) (p1 : Int) : Option (Int × Int × Int) :=
  (m_pack_number p0 p1 2).bind fun (z5 : Int × Int × Int) =>
  some (IntKind.u16.wrap z5.1, z5.2.1, z5.2.2)
theorem c_pack_Word {w0 : World} {M : Nat → Prop} {H : List (Nat × Nat × Obj)} {R : List (Nat × Row)} {φ : World → Prop} (p0 : ByteArray) (p1 : Int) (r : Int × Int × Int) (hm : m_pack_Word p0 p1 = some r) :
    Cn Try.prog 21 #[.string p0, .int .i64 p1] ⟨w0, M, H, R, φ⟩ (fun x : Unit => .tuple #[.int .u16 r.1, .int .i64 r.2.1, .int .i64 r.2.2]) (fun x => True) (fun x => ⟨w0, M, H, R, φ⟩) := by
 unfold m_pack_Word at hm
 refine cn_intro (fn := Try.f21) (N := 21) Try.func21 rfl Try.ntmps21 rfl ?_
 refine c_seq ?_
 refine c_region ?_
 refine g_v rfl r_assign ?_
 refine g_v rfl r_assign ?_
 refine g_v rfl r_assign ?_
 refine g_nil ?_
 refine d_then ?_
 refine c_seq ?_
 refine c_region ?_
 refine g_v rfl r_move ?_
 refine g_v rfl r_move ?_
 replace hm := bnd hm
 obtain ⟨⟨x1, x2, x3⟩, hx4, hm⟩ := hm
 refine g_cn ⟨w0, M, _, _, φ⟩ (fun _ h => h) Try.call63 rfl rfl (c_pack_number p0 p1 2 _ hx4) (fun _ _ => ?_)
 refine g_v rfl r_move ?_
 refine g_v rfl (r_extract rfl rfl) ?_
 refine g_v rfl (r_extract rfl rfl) ?_
 refine g_v rfl (r_extract rfl rfl) ?_
 refine g_v rfl r_assign ?_
 refine g_v rfl r_assign ?_
 refine g_v rfl r_assign ?_
 refine g_nil ?_
 refine d_then ?_
 refine c_flat [(7, .int .u32 x1), (8, .int .i64 x2), (9, .int .i64 x3)] ⟨rfl, rfl, rfl, trivial⟩ (fun u => ?_)
 refine c_sta ⟨w0, M, H, R, φ⟩ (fun _ h => h) ?_
 refine c_seq ?_
 refine c_region ?_
 refine g_v rfl r_move ?_
 refine g_v rfl (r_conv Try.underlying36 Try.underlying33 rfl rfl) ?_
 refine g_v rfl r_move ?_
 refine g_v rfl r_move ?_
 refine g_v rfl r_assign ?_
 refine g_v rfl r_assign ?_
 refine g_v rfl r_assign ?_
 refine g_nil ?_
 refine d_then ?_
 refine c_ret ?_
 replace hm := Option.some.inj hm
 subst hm
 refine d_retC () Try.results21 ?_ trivial (fun W h => ok_pre (H1 := []) (R1 := []) h (fun W hφ => hφ)) (.inr rfl)
 refine res_tmp ?_
 refine res_tmp ?_
 refine res_tmp ?_
 refine res_nil ?_
 exact rfl

noncomputable def m_pack_Name_s1 (p0 : ByteArray) (l259 : List Int) (i262 : Int) (i263 : Int) (i264 : Int) : Option (((List Int) × Int × Int × Int) ⊕ (Unit ⊕ (ByteArray × Int × Int))) :=
  (m_pack_Byte p0 i262).bind fun (z322 : Int × Int × Int) =>
  if z322.2.2 ≠ 0 then
    some (.inr (.inr ((⟨#[]⟩ : ByteArray), 0, z322.2.2)))
  else
    if z322.1 = 0 then
      (m_pack_Name_c1 z322.2.1 i264).bind fun x325 =>
      (app 1 l259 [0]).bind fun l336 =>
      some (.inr (.inr (strOfNums l336, x325, 0)))
    else
      if 192 ≤ z322.1 then
        (m_pack_Word p0 i262).bind fun (z344 : Int × Int × Int) =>
        if z344.2.2 ≠ 0 then
          some (.inr (.inr ((⟨#[]⟩ : ByteArray), 0, 10)))
        else
          if i263 ≤ andI .i64 (w64 z344.1) 16383 then
            some (.inr (.inr ((⟨#[]⟩ : ByteArray), 0, 10)))
          else
            (m_pack_Name_c1 z344.2.1 i264).bind fun x347 =>
            some (.inl (l259, andI .i64 (w64 z344.1) 16383, andI .i64 (w64 z344.1) 16383, x347))
      else
        if 63 < z322.1 then
          some (.inr (.inr ((⟨#[]⟩ : ByteArray), 0, 10)))
        else
          (m_pack_Raw p0 z322.2.1 (w64 z322.1)).bind fun (z355 : ByteArray × Int × Int) =>
          if z355.2.2 ≠ 0 then
            some (.inr (.inr ((⟨#[]⟩ : ByteArray), 0, z355.2.2)))
          else
            if 255 < w64 ((w64 ((w64 ((l259.length : Int) + 1)) + (z355.1.size : Int))) + 1) then
              some (.inr (.inr ((⟨#[]⟩ : ByteArray), 0, 11)))
            else
              (app 1 l259 [z322.1]).bind fun l359 =>
              (app 1 l359 (bytesI z355.1)).bind fun l362 =>
              some (.inl (l362, z355.2.1, i263, i264))
noncomputable def m_pack_Name (p0 : ByteArray) (p1 : Int) : Option (ByteArray × Int × Int) :=
  (loop (fun s => m_pack_Name_s1 p0 s.1 s.2.1 s.2.2.1 s.2.2.2) (([] : List Int), p1, p1, (-1))).bind fun e => Sum.elim (fun e => (none : Option (ByteArray × Int × Int))) (fun x => some x) e
theorem c_pack_Name {w0 : World} {M : Nat → Prop} {H : List (Nat × Nat × Obj)} {R : List (Nat × Row)} {φ : World → Prop} (p0 : ByteArray) (p1 : Int) (r : ByteArray × Int × Int) (hm : m_pack_Name p0 p1 = some r) :
    Cn Try.prog 16 #[.string p0, .int .i64 p1] ⟨w0, M, H, R, φ⟩ (fun x : Unit => .tuple #[.string r.1, .int .i64 r.2.1, .int .i64 r.2.2]) (fun x => True) (fun x => ⟨w0, M, H, R, φ⟩) := by
 unfold m_pack_Name at hm
 refine cn_intro (fn := Try.f16) (N := 101) Try.func16 rfl Try.ntmps16 rfl ?_
 refine c_seq ?_
 refine c_region ?_
 refine g_v rfl r_assign ?_
 refine g_v rfl r_assign ?_
 refine g_v rfl r_assign ?_
 refine g_nil ?_
 refine d_then ?_
 refine c_seq ?_
 refine c_region ?_
 refine g_v rfl r_assign ?_
 refine g_nil ?_
 refine d_then ?_
 refine c_seq ?_
 refine c_region ?_
 refine g_v rfl r_move ?_
 refine g_e rfl (e_alloc 100080 Try.zeroValue3) (fun g1 _ => ?_)
 refine g_storeL (tag := 100080) rfl rfl rfl rfl Try.sizeOf3 rfl rfl ?_
 refine g_v rfl r_assign ?_
 refine g_nil ?_
 refine d_then ?_
 refine c_seq ?_
 refine c_region ?_
 refine g_v rfl (r_mkf rfl) ?_
 refine g_v rfl r_assign ?_
 refine g_nil ?_
 refine d_then ?_
 refine c_flat [(0, .string p0), (1, .int .i64 p1), (7, .slice none 0 0), (8, .pointer (some ⟨g1, 0, none⟩)), (9, .int .i64 p1), (10, .func (.func 62) #[] #[.pointer (some ⟨g1, 0, none⟩)])] ⟨rfl, rfl, rfl, rfl, rfl, rfl, trivial⟩ (fun u => ?_)
 refine c_sta ⟨w0, M, (100080, g1, .cells #[.int .i64 (-1)] 3 (0, 0)) :: H, R, φ⟩ (fun _ h => h) ?_
 -- no way on
 refine c_block ?_
 refine c_sta _ (fun W h => nilR h 20 5 1) ?_
 replace hm := bnd hm
 obtain ⟨out1, hl1, hr1⟩ := hm
 obtain ⟨n317', hl1⟩ := loop_lp hl1
 refine c_loopU (ι := Nat × (List Int) × Int × Int × Int × Option Addr × Nat) [0, 1, 7, 8, 9, 10] (fun ⟨n317, l259, i262, i263, i264, A260, c261⟩ => [(1, .int .i64 i262), (7, .slice A260 l259.length c261), (9, .int .i64 i263)]) (fun ⟨n317, l259, i262, i263, i264, A260, c261⟩ => ⟨w0, M, (100080, g1, .cells #[.int .i64 i264] 3 (0, 0)) :: H, (20, ⟨.slice A260 l259.length c261, 5, 1, l259.length, l259.flatMap (fun x : Int => [Value.int .u8 x])⟩) :: R, φ⟩) (fun ⟨n317, l259, i262, i263, i264, A260, c261⟩ => Lp (fun s => m_pack_Name_s1 p0 s.1 s.2.1 s.2.2.1 s.2.2.2) n317 (l259, i262, i263, i264) out1 ∧ l259.length ≤ c261) (fun ⟨n317, l259, i262, i263, i264, A260, c261⟩ => n317) (n317', ([] : List Int), p1, p1, (-1), none, 0) ⟨hl1, (Nat.le_refl 0)⟩ ⟨rfl, rfl, rfl, rfl, rfl, rfl, trivial⟩ (fun W h => h.phi (fun W hφ => hφ)) (fun ⟨n317, l259, i262, i263, i264, A260, c261⟩ u ⟨hlp, hc261⟩ => ?_)
 obtain ⟨o1, hm, hnx1⟩ := lp_step hlp
 clear hlp
 replace hm : m_pack_Name_s1 p0 l259 i262 i263 i264 = some o1 := hm
 unfold m_pack_Name_s1 at hm
 refine c_flat [(0, .string p0), (1, .int .i64 i262), (7, .slice A260 l259.length c261), (8, .pointer (some ⟨g1, 0, none⟩)), (9, .int .i64 i263), (10, .func (.func 62) #[] #[.pointer (some ⟨g1, 0, none⟩)])] ⟨rfl, rfl, rfl, rfl, rfl, rfl, trivial⟩ (fun u => ?_)
 refine c_sta ⟨w0, M, (100080, g1, .cells #[.int .i64 i264] 3 (0, 0)) :: H, (20, ⟨.slice A260 l259.length c261, 5, 1, l259.length, l259.flatMap (fun x : Int => [Value.int .u8 x])⟩) :: R, φ⟩ (fun _ h => h) ?_
 refine c_block ?_
 refine c_seq ?_
 refine c_region ?_
 refine g_v rfl r_move ?_
 refine g_v rfl r_move ?_
 replace hm := bnd hm
 obtain ⟨⟨x318, x319, x320⟩, hx321, hm⟩ := hm
 refine g_cn ⟨w0, M, _, _, φ⟩ (fun _ h => h) Try.call19 rfl rfl (c_pack_Byte p0 i262 _ hx321) (fun _ _ => ?_)
 refine g_v rfl r_move ?_
 refine g_v rfl (r_extract rfl rfl) ?_
 refine g_v rfl (r_extract rfl rfl) ?_
 refine g_v rfl (r_extract rfl rfl) ?_
 refine g_v rfl r_assign ?_
 refine g_v rfl r_assign ?_
 refine g_v rfl r_assign ?_
 refine g_nil ?_
 refine d_then ?_
 refine c_flat [(0, .string p0), (1, .int .i64 i262), (7, .slice A260 l259.length c261), (8, .pointer (some ⟨g1, 0, none⟩)), (9, .int .i64 i263), (10, .func (.func 62) #[] #[.pointer (some ⟨g1, 0, none⟩)]), (11, .int .u8 x318), (12, .int .i64 x319), (13, .int .i64 x320)] ⟨rfl, rfl, rfl, rfl, rfl, rfl, rfl, rfl, rfl, trivial⟩ (fun u => ?_)
 refine c_sta ⟨w0, M, (100080, g1, .cells #[.int .i64 i264] 3 (0, 0)) :: H, (20, ⟨.slice A260 l259.length c261, 5, 1, l259.length, l259.flatMap (fun x : Int => [Value.int .u8 x])⟩) :: R, φ⟩ (fun _ h => h) ?_
 refine c_seq ?_
 refine c_block ?_
 refine c_seq ?_
 refine c_region ?_
 refine g_v rfl r_move ?_
 refine g_v rfl (r_neq rfl rfl) ?_
 refine g_v rfl r_assign ?_
 refine g_nil ?_
 refine d_then ?_
 refine c_cond rfl (fun h323 => ?_) (fun h323 => ?_)
 ·
  replace hm := ite_t hm (of_decide_eq_true h323)
  refine c_seq ?_
  refine c_region ?_
  refine g_v rfl r_move ?_
  refine g_v rfl r_assign ?_
  refine g_v rfl r_assign ?_
  refine g_v rfl r_assign ?_
  refine g_nil ?_
  refine d_then ?_
  refine c_ret ?_
  refine d_ret_block ?_
  refine d_ret_then ?_
  refine d_ret_block ?_
  refine d_ret_then ?_
  refine d_ret_block ?_
  replace hm := nx_out (C := (fun e => Sum.elim (fun e => (none : Option (ByteArray × Int × Int))) (fun x => some x) e = some r)) hm hnx1 hr1
  replace hm : some ((⟨#[]⟩ : ByteArray), 0, x320) = some r := hm
  replace hm := Option.some.inj hm
  subst hm
  refine d_retC () Try.results16 ?_ trivial (fun W h => ok_pre (H1 := [_]) (R1 := [_]) h (fun W hφ => hφ)) (.inr rfl)
  refine res_tmp ?_
  refine res_tmp ?_
  refine res_tmp ?_
  refine res_nil ?_
  exact rfl
 ·
  replace hm := ite_f hm (of_decide_eq_false h323)
  refine c_seq ?_
  refine c_region ?_
  refine g_v rfl r_move ?_
  refine g_v rfl (r_eql rfl rfl) ?_
  refine g_v rfl r_assign ?_
  refine g_nil ?_
  refine d_then ?_
  refine c_cond rfl (fun h324 => ?_) (fun h324 => ?_)
  ·
   replace hm := ite_t hm (of_decide_eq_true h324)
   refine c_seq ?_
   refine c_region ?_
   refine g_v rfl r_move ?_
   refine g_v rfl r_move ?_
   replace hm := bnd hm
   obtain ⟨x325, hx326, hm⟩ := hm
   refine g_cnv ⟨w0, M, (1000, g1, .cells #[.int .i64 i264] 3 (0, 0)) :: H, (20, ⟨.slice A260 l259.length c261, 5, 1, l259.length, l259.flatMap (fun x : Int => [Value.int .u8 x])⟩) :: R, φ⟩ (fun W h => (ok_front (t := 100080) (t' := 1000) h rfl)) Try.call62 rfl rfl rfl (c_pack_Name_c1 x319 g1 i264 _ hx326) (fun _ _ => ?_)
   refine g_sta _ (fun W h => (ok_front (t := 1000) (t' := 100080) h rfl)) ?_
   refine g_nil ?_
   refine d_then ?_
   refine c_flat [(7, .slice A260 l259.length c261), (8, .pointer (some ⟨g1, 0, none⟩))] ⟨rfl, rfl, trivial⟩ (fun u => ?_)
   refine c_sta ⟨w0, M, (100080, g1, .cells #[.int .i64 x325] 3 (0, 0)) :: H, (20, ⟨.slice A260 l259.length c261, 5, 1, l259.length, l259.flatMap (fun x : Int => [Value.int .u8 x])⟩) :: R, φ⟩ (fun _ h => h) ?_
   refine c_seq ?_
   refine ga_start (n := 8) ⟨w0, M, (100080, g1, .cells #[.int .i64 x325] 3 (0, 0)) :: H, R, φ⟩ [] #[false, false, false, false, false, false, false, false] (fun W h => (h.dropR (t := 20) rfl).phi (fun W hφ => hφ)) mixed rfl rfl ?_
   refine ga_v (i := 0) #[true, false, false, false, false, false, false, false] rfl (by kernel_rfl) (fun _ _ _ _ h => h) rfl (r_move) ?_
   refine ga_v (i := 4) #[true, false, false, false, true, false, false, false] rfl (by kernel_rfl) (fun _ _ _ _ h => h) rfl (r_load (tag := 100080) rfl rfl rfl Try.isAgg3) ?_
   refine ga_e (i := 1) #[true, true, false, false, true, false, false, false] rfl (by kernel_rfl) (by decide) rfl  (e_lit (tag := 100400) (l := [0]) (enc := (fun x : Int => [Value.int .u8 x])) (sz := 1) rfl Try.underlying58 (lit5_6 _) rfl rfl (fun _ => rfl)) (fun g335 W _ h => ((h.dropR (t := 100400) rfl).dropR (t := 20) rfl).phi (fun W hφ => hφ)) (fun g335 _ => ?_)
   replace hm := bnd hm
   obtain ⟨l336, hl336, hm⟩ := hm
   refine ga_e (i := 2) #[true, true, true, false, true, false, false, false] rfl (by kernel_rfl) (by decide) rfl  (e_appR (enc := (fun x : Int => [Value.int .u8 x])) (l := l259) (l1 := [0]) (l2 := l336) (tag := 20) Try.underlying58 inf5_5 rfl (by decide) (by decide) (fun _ => rfl) (fun _ => rfl) rfl hc261 rfl rfl (fun W hS => rowCl (tag := 100400) rfl W hS) hl336) (fun ⟨A337, c338⟩ W hc338 h => ((h.dropR (t := 100400) rfl).dropR (t := 20) rfl).phi (fun W hφ => hφ)) (fun ⟨A337, c338⟩ hc338 => ?_)
   refine ga_r (i := 3) #[true, true, true, true, true, false, false, false] rfl (by kernel_rfl) (by decide) rfl (r_textE Try.underlying58 Try.underlying5 Try.underlying9 rfl (fun W hS => rowCl (tag := 20) rfl W hS)) ?_
   refine ga_r (i := 5) #[true, true, true, true, true, true, false, false] rfl (by kernel_rfl) (by decide) rfl (r_assign) ?_
   refine ga_r (i := 6) #[true, true, true, true, true, true, true, false] rfl (by kernel_rfl) (by decide) rfl (r_assign) ?_
   refine ga_r (i := 7) #[true, true, true, true, true, true, true, true] rfl (by kernel_rfl) (by decide) rfl (r_assign) ?_
   refine ga_done (by kernel_rfl) ?_
   refine d_then ?_
   refine c_ret ?_
   refine d_ret_block ?_
   refine d_ret_then ?_
   refine d_ret_block ?_
   refine d_ret_then ?_
   refine d_ret_block ?_
   replace hm := nx_out (C := (fun e => Sum.elim (fun e => (none : Option (ByteArray × Int × Int))) (fun x => some x) e = some r)) hm hnx1 hr1
   replace hm : some (strOfNums l336, x325, 0) = some r := hm
   replace hm := Option.some.inj hm
   subst hm
   refine d_retC () Try.results16 ?_ trivial (fun W h => ok_pre (H1 := [_]) (R1 := [_, _]) h (fun W hφ => hφ)) (.inr rfl)
   refine res_tmp ?_
   refine res_tmp ?_
   refine res_tmp ?_
   refine res_nil ?_
   exact rfl
  ·
   replace hm := ite_f hm (of_decide_eq_false h324)
   refine c_seq ?_
   refine c_region ?_
   refine g_v rfl r_move ?_
   refine g_v rfl (r_geq rfl rfl) ?_
   refine g_v rfl r_assign ?_
   refine g_nil ?_
   refine d_then ?_
   refine c_flat [(0, .string p0), (1, .int .i64 i262), (7, .slice A260 l259.length c261), (8, .pointer (some ⟨g1, 0, none⟩)), (9, .int .i64 i263), (10, .func (.func 62) #[] #[.pointer (some ⟨g1, 0, none⟩)]), (11, .int .u8 x318), (12, .int .i64 x319), (44, .bool (decide (192 ≤ x318)))] ⟨rfl, rfl, rfl, rfl, rfl, rfl, rfl, rfl, rfl, trivial⟩ (fun u => ?_)
   refine c_sta ⟨w0, M, (100080, g1, .cells #[.int .i64 i264] 3 (0, 0)) :: H, (20, ⟨.slice A260 l259.length c261, 5, 1, l259.length, l259.flatMap (fun x : Int => [Value.int .u8 x])⟩) :: R, φ⟩ (fun _ h => h) ?_
   refine c_cond rfl (fun h339 => ?_) (fun h339 => ?_)
   ·
    replace hm := ite_t hm (of_decide_eq_true h339)
    refine c_seq ?_
    refine c_region ?_
    refine g_v rfl r_move ?_
    refine g_v rfl r_move ?_
    replace hm := bnd hm
    obtain ⟨⟨x340, x341, x342⟩, hx343, hm⟩ := hm
    refine g_cn ⟨w0, M, _, _, φ⟩ (fun _ h => h) Try.call21 rfl rfl (c_pack_Word p0 i262 _ hx343) (fun _ _ => ?_)
    refine g_v rfl r_move ?_
    refine g_v rfl (r_extract rfl rfl) ?_
    refine g_v rfl (r_extract rfl rfl) ?_
    refine g_v rfl (r_extract rfl rfl) ?_
    refine g_v rfl r_assign ?_
    refine g_v rfl r_assign ?_
    refine g_v rfl r_assign ?_
    refine g_nil ?_
    refine d_then ?_
    refine c_flat [(0, .string p0), (7, .slice A260 l259.length c261), (8, .pointer (some ⟨g1, 0, none⟩)), (9, .int .i64 i263), (10, .func (.func 62) #[] #[.pointer (some ⟨g1, 0, none⟩)]), (14, .int .u16 x340), (15, .int .i64 x341), (16, .int .i64 x342)] ⟨rfl, rfl, rfl, rfl, rfl, rfl, rfl, rfl, trivial⟩ (fun u => ?_)
    refine c_sta ⟨w0, M, (100080, g1, .cells #[.int .i64 i264] 3 (0, 0)) :: H, (20, ⟨.slice A260 l259.length c261, 5, 1, l259.length, l259.flatMap (fun x : Int => [Value.int .u8 x])⟩) :: R, φ⟩ (fun _ h => h) ?_
    refine c_seq ?_
    refine c_region ?_
    refine g_v rfl r_move ?_
    refine g_v rfl (r_conv Try.underlying33 Try.underlying3 rfl rfl) ?_
    refine g_v rfl (r_bits_and rfl rfl) ?_
    refine g_v rfl r_assign ?_
    refine g_nil ?_
    refine d_then ?_
    refine c_seq ?_
    refine c_seq ?_
    refine c_region ?_
    refine g_v rfl r_move ?_
    refine g_v rfl (r_neq rfl rfl) ?_
    refine g_v rfl r_move ?_
    refine g_if rfl rfl rfl rfl rfl (fun h345 => ?_) (fun h345 => ?_)
    ·
     replace hm := ite_f hm (of_decide_eq_false h345)
     refine g_v rfl r_move ?_
     refine g_do rfl rfl rfl rfl rfl h345 ?_
     refine g_v rfl r_move ?_
     refine g_do rfl rfl rfl rfl rfl h345 ?_
     refine g_v rfl (r_geq rfl rfl) ?_
     refine g_v rfl (r_pick0 rfl h345) ?_
     refine g_nil ?_
     refine d_then ?_
     refine c_flat [(0, .string p0), (7, .slice A260 l259.length c261), (8, .pointer (some ⟨g1, 0, none⟩)), (10, .func (.func 62) #[] #[.pointer (some ⟨g1, 0, none⟩)]), (15, .int .i64 x341), (17, .int .i64 (andI .i64 (w64 x340) 16383)), (63, .bool (decide (i263 ≤ andI .i64 (w64 x340) 16383)))] ⟨rfl, rfl, rfl, rfl, rfl, rfl, rfl, trivial⟩ (fun u => ?_)
     refine c_sta ⟨w0, M, (100080, g1, .cells #[.int .i64 i264] 3 (0, 0)) :: H, (20, ⟨.slice A260 l259.length c261, 5, 1, l259.length, l259.flatMap (fun x : Int => [Value.int .u8 x])⟩) :: R, φ⟩ (fun _ h => h) ?_
     refine c_cond rfl (fun h346 => ?_) (fun h346 => ?_)
     ·
      replace hm := ite_t hm (of_decide_eq_true h346)
      refine c_seq ?_
      refine c_region ?_
      refine g_v rfl r_assign ?_
      refine g_v rfl r_assign ?_
      refine g_v rfl r_assign ?_
      refine g_nil ?_
      refine d_then ?_
      refine c_ret ?_
      refine d_ret_then ?_
      refine d_ret_block ?_
      refine d_ret_then ?_
      refine d_ret_block ?_
      refine d_ret_then ?_
      refine d_ret_block ?_
      replace hm := nx_out (C := (fun e => Sum.elim (fun e => (none : Option (ByteArray × Int × Int))) (fun x => some x) e = some r)) hm hnx1 hr1
      replace hm : some ((⟨#[]⟩ : ByteArray), 0, 10) = some r := hm
      replace hm := Option.some.inj hm
      subst hm
      refine d_retC () Try.results16 ?_ trivial (fun W h => ok_pre (H1 := [_]) (R1 := [_]) h (fun W hφ => hφ)) (.inr rfl)
      refine res_tmp ?_
      refine res_tmp ?_
      refine res_tmp ?_
      refine res_nil ?_
      exact rfl
     ·
      replace hm := ite_f hm (of_decide_eq_false h346)
      refine c_skip ?_
      refine d_then ?_
      refine c_seq ?_
      refine c_region ?_
      refine g_v rfl r_move ?_
      refine g_v rfl r_move ?_
      replace hm := bnd hm
      obtain ⟨x347, hx348, hm⟩ := hm
      refine g_cnv ⟨w0, M, (1000, g1, .cells #[.int .i64 i264] 3 (0, 0)) :: H, (20, ⟨.slice A260 l259.length c261, 5, 1, l259.length, l259.flatMap (fun x : Int => [Value.int .u8 x])⟩) :: R, φ⟩ (fun W h => (ok_front (t := 100080) (t' := 1000) h rfl)) Try.call62 rfl rfl rfl (c_pack_Name_c1 x341 g1 i264 _ hx348) (fun _ _ => ?_)
      refine g_sta _ (fun W h => (ok_front (t := 1000) (t' := 100080) h rfl)) ?_
      refine g_nil ?_
      refine d_then ?_
      refine c_seq ?_
      refine c_region ?_
      refine g_v rfl r_move ?_
      refine g_v rfl r_move ?_
      refine g_v rfl r_assign ?_
      refine g_v rfl r_assign ?_
      refine g_nil ?_
      refine d_then ?_
      refine c_exit ?_
      refine d_exit_other rfl ?_
      refine d_exit_then ?_
      refine d_exit_block ?_
      obtain ⟨n349, hn349, hlp⟩ := nx_inl hm hnx1
      exact d_round (n349, l259, andI .i64 (w64 x340) 16383, andI .i64 (w64 x340) 16383, x347, A260, c261) ⟨hlp, hc261⟩ hn349 ⟨rfl, rfl, rfl, rfl, rfl, rfl, trivial⟩ (fun W h => h.phi (fun W hφ => hφ))
    ·
     replace hm := ite_t hm (of_decide_eq_true h345)
     refine g_no rfl rfl rfl rfl rfl h345 ?_
     refine g_no rfl rfl rfl rfl rfl h345 ?_
     refine g_v rfl (r_pick1 rfl h345) ?_
     refine g_nil ?_
     refine d_then ?_
     refine c_cond1 rfl rfl ?_
     refine c_seq ?_
     refine c_region ?_
     refine g_v rfl r_assign ?_
     refine g_v rfl r_assign ?_
     refine g_v rfl r_assign ?_
     refine g_nil ?_
     refine d_then ?_
     refine c_flat [(4, .string (⟨#[]⟩ : ByteArray)), (5, .int .i64 0), (6, .int .i64 10)] ⟨rfl, rfl, rfl, trivial⟩ (fun u => ?_)
     refine c_sta ⟨w0, M, (100080, g1, .cells #[.int .i64 i264] 3 (0, 0)) :: H, (20, ⟨.slice A260 l259.length c261, 5, 1, l259.length, l259.flatMap (fun x : Int => [Value.int .u8 x])⟩) :: R, φ⟩ (fun _ h => h) ?_
     refine c_ret ?_
     refine d_ret_then ?_
     refine d_ret_block ?_
     refine d_ret_then ?_
     refine d_ret_block ?_
     refine d_ret_then ?_
     refine d_ret_block ?_
     replace hm := nx_out (C := (fun e => Sum.elim (fun e => (none : Option (ByteArray × Int × Int))) (fun x => some x) e = some r)) hm hnx1 hr1
     replace hm : some ((⟨#[]⟩ : ByteArray), 0, 10) = some r := hm
     replace hm := Option.some.inj hm
     subst hm
     refine d_retC () Try.results16 ?_ trivial (fun W h => ok_pre (H1 := [_]) (R1 := [_]) h (fun W hφ => hφ)) (.inr rfl)
     refine res_tmp ?_
     refine res_tmp ?_
     refine res_tmp ?_
     refine res_nil ?_
     exact rfl
   ·
    replace hm := ite_f hm (of_decide_eq_false h339)
    refine c_seq ?_
    refine c_region ?_
    refine g_v rfl r_move ?_
    refine g_v rfl (r_gtr rfl rfl) ?_
    refine g_v rfl r_assign ?_
    refine g_nil ?_
    refine d_then ?_
    refine c_cond rfl (fun h350 => ?_) (fun h350 => ?_)
    ·
     replace hm := ite_t hm (of_decide_eq_true h350)
     refine c_seq ?_
     refine c_region ?_
     refine g_v rfl r_assign ?_
     refine g_v rfl r_assign ?_
     refine g_v rfl r_assign ?_
     refine g_nil ?_
     refine d_then ?_
     refine c_ret ?_
     refine d_ret_block ?_
     refine d_ret_then ?_
     refine d_ret_block ?_
     refine d_ret_then ?_
     refine d_ret_block ?_
     replace hm := nx_out (C := (fun e => Sum.elim (fun e => (none : Option (ByteArray × Int × Int))) (fun x => some x) e = some r)) hm hnx1 hr1
     replace hm : some ((⟨#[]⟩ : ByteArray), 0, 10) = some r := hm
     replace hm := Option.some.inj hm
     subst hm
     refine d_retC () Try.results16 ?_ trivial (fun W h => ok_pre (H1 := [_]) (R1 := [_]) h (fun W hφ => hφ)) (.inr rfl)
     refine res_tmp ?_
     refine res_tmp ?_
     refine res_tmp ?_
     refine res_nil ?_
     exact rfl
    ·
     replace hm := ite_f hm (of_decide_eq_false h350)
     refine c_skip ?_
     refine d_normal_block ?_
     refine d_then ?_
     refine c_seq ?_
     refine c_region ?_
     refine g_v rfl r_move ?_
     refine g_v rfl r_move ?_
     refine g_v rfl r_move ?_
     refine g_v rfl (r_conv Try.underlying5 Try.underlying3 rfl rfl) ?_
     replace hm := bnd hm
     obtain ⟨⟨x351, x352, x353⟩, hx354, hm⟩ := hm
     refine g_cn ⟨w0, M, _, _, φ⟩ (fun _ h => h) Try.call23 rfl rfl (c_pack_Raw p0 x319 (w64 x318) _ hx354) (fun _ _ => ?_)
     refine g_v rfl r_move ?_
     refine g_v rfl (r_extract rfl rfl) ?_
     refine g_v rfl (r_extract rfl rfl) ?_
     refine g_v rfl (r_extract rfl rfl) ?_
     refine g_v rfl r_assign ?_
     refine g_v rfl r_assign ?_
     refine g_v rfl r_assign ?_
     refine g_nil ?_
     refine d_then ?_
     refine c_flat [(0, .string p0), (7, .slice A260 l259.length c261), (8, .pointer (some ⟨g1, 0, none⟩)), (9, .int .i64 i263), (10, .func (.func 62) #[] #[.pointer (some ⟨g1, 0, none⟩)]), (11, .int .u8 x318), (13, .int .i64 x353), (18, .string x351), (19, .int .i64 x352)] ⟨rfl, rfl, rfl, rfl, rfl, rfl, rfl, rfl, rfl, trivial⟩ (fun u => ?_)
     refine c_sta ⟨w0, M, (100080, g1, .cells #[.int .i64 i264] 3 (0, 0)) :: H, (20, ⟨.slice A260 l259.length c261, 5, 1, l259.length, l259.flatMap (fun x : Int => [Value.int .u8 x])⟩) :: R, φ⟩ (fun _ h => h) ?_
     refine c_seq ?_
     refine c_block ?_
     refine c_seq ?_
     refine c_region ?_
     refine g_v rfl r_move ?_
     refine g_v rfl (r_neq rfl rfl) ?_
     refine g_v rfl r_assign ?_
     refine g_nil ?_
     refine d_then ?_
     refine c_cond rfl (fun h356 => ?_) (fun h356 => ?_)
     ·
      replace hm := ite_t hm (of_decide_eq_true h356)
      refine c_seq ?_
      refine c_region ?_
      refine g_v rfl r_move ?_
      refine g_v rfl r_assign ?_
      refine g_v rfl r_assign ?_
      refine g_v rfl r_assign ?_
      refine g_nil ?_
      refine d_then ?_
      refine c_ret ?_
      refine d_ret_block ?_
      refine d_ret_then ?_
      refine d_ret_block ?_
      refine d_ret_then ?_
      refine d_ret_block ?_
      replace hm := nx_out (C := (fun e => Sum.elim (fun e => (none : Option (ByteArray × Int × Int))) (fun x => some x) e = some r)) hm hnx1 hr1
      replace hm : some ((⟨#[]⟩ : ByteArray), 0, x353) = some r := hm
      replace hm := Option.some.inj hm
      subst hm
      refine d_retC () Try.results16 ?_ trivial (fun W h => ok_pre (H1 := [_]) (R1 := [_]) h (fun W hφ => hφ)) (.inr rfl)
      refine res_tmp ?_
      refine res_tmp ?_
      refine res_tmp ?_
      refine res_nil ?_
      exact rfl
     ·
      replace hm := ite_f hm (of_decide_eq_false h356)
      refine c_seq ?_
      refine c_region ?_
      refine g_v rfl r_move ?_
      refine g_v rfl (r_lenL Try.underlying58 rfl) ?_
      refine g_v rfl (r_add rfl rfl rfl) ?_
      refine g_v rfl r_move ?_
      refine g_v rfl (r_len Try.underlying9 rfl) ?_
      refine g_v rfl (r_add rfl rfl rfl) ?_
      refine g_v rfl (r_add rfl rfl rfl) ?_
      refine g_v rfl (r_gtr rfl rfl) ?_
      refine g_v rfl r_assign ?_
      refine g_nil ?_
      refine d_then ?_
      refine c_flat [(0, .string p0), (7, .slice A260 l259.length c261), (8, .pointer (some ⟨g1, 0, none⟩)), (9, .int .i64 i263), (10, .func (.func 62) #[] #[.pointer (some ⟨g1, 0, none⟩)]), (11, .int .u8 x318), (18, .string x351), (19, .int .i64 x352), (85, .bool (decide (255 < w64 ((w64 ((w64 ((l259.length : Int) + 1)) + (x351.size : Int))) + 1))))] ⟨rfl, rfl, rfl, rfl, rfl, rfl, rfl, rfl, rfl, trivial⟩ (fun u => ?_)
      refine c_sta ⟨w0, M, (100080, g1, .cells #[.int .i64 i264] 3 (0, 0)) :: H, (20, ⟨.slice A260 l259.length c261, 5, 1, l259.length, l259.flatMap (fun x : Int => [Value.int .u8 x])⟩) :: R, φ⟩ (fun _ h => h) ?_
      refine c_cond rfl (fun h357 => ?_) (fun h357 => ?_)
      ·
       replace hm := ite_t hm (of_decide_eq_true h357)
       refine c_seq ?_
       refine c_region ?_
       refine g_v rfl r_assign ?_
       refine g_v rfl r_assign ?_
       refine g_v rfl r_assign ?_
       refine g_nil ?_
       refine d_then ?_
       refine c_ret ?_
       refine d_ret_block ?_
       refine d_ret_then ?_
       refine d_ret_block ?_
       refine d_ret_then ?_
       refine d_ret_block ?_
       replace hm := nx_out (C := (fun e => Sum.elim (fun e => (none : Option (ByteArray × Int × Int))) (fun x => some x) e = some r)) hm hnx1 hr1
       replace hm : some ((⟨#[]⟩ : ByteArray), 0, 11) = some r := hm
       replace hm := Option.some.inj hm
       subst hm
       refine d_retC () Try.results16 ?_ trivial (fun W h => ok_pre (H1 := [_]) (R1 := [_]) h (fun W hφ => hφ)) (.inr rfl)
       refine res_tmp ?_
       refine res_tmp ?_
       refine res_tmp ?_
       refine res_nil ?_
       exact rfl
      ·
       replace hm := ite_f hm (of_decide_eq_false h357)
       refine c_skip ?_
       refine d_normal_block ?_
       refine d_then ?_
       refine c_seq ?_
       refine c_region ?_
       refine g_v rfl r_move ?_
       refine g_v rfl r_move ?_
       refine g_e rfl (e_lit (tag := 100960) (l := [x318]) (enc := (fun x : Int => [Value.int .u8 x])) (sz := 1) rfl Try.underlying58 (lit5_6 _) rfl rfl (fun _ => rfl)) (fun g358 _ => ?_)
       replace hm := bnd hm
       obtain ⟨l359, hl359, hm⟩ := hm
       refine g_e rfl (e_appR (enc := (fun x : Int => [Value.int .u8 x])) (l := l259) (l1 := [x318]) (l2 := l359) (tag := 20) Try.underlying58 inf5_5 rfl (by decide) (by decide) (fun _ => rfl) (fun _ => rfl) rfl hc261 rfl rfl (fun W hS => rowCl (tag := 100960) rfl W hS) hl359) (fun ⟨A360, c361⟩ hc361 => ?_)
       refine g_v rfl r_move ?_
       replace hm := bnd hm
       obtain ⟨l362, hl362, hm⟩ := hm
       refine g_e rfl (e_appRS (l := l359) (l2 := l362) (tag := 20) Try.underlying58 Try.underlying9 inf5_5 rfl hc361 rfl rfl hl362) (fun ⟨A363, c364⟩ hc364 => ?_)
       refine g_v rfl r_assign ?_
       refine g_nil ?_
       refine d_then ?_
       refine c_region ?_
       refine g_v rfl r_move ?_
       refine g_v rfl r_assign ?_
       refine g_nil ?_
       refine d_normal_block ?_
       obtain ⟨n365, hn365, hlp⟩ := nx_inl hm hnx1
       exact d_round (n365, l362, x352, i263, i264, A363, c364) ⟨hlp, hc364⟩ hn365 ⟨rfl, rfl, rfl, rfl, rfl, rfl, trivial⟩ (fun W h => (h.dropR (t := 100960) rfl).phi (fun W hφ => hφ))

noncomputable def m_law04_awake  : Option Bool :=
  (m_pack_New).bind fun x1 =>
  (m_pack_Packer_Name (⟨#[3, 119, 119, 119, 1, 97, 0]⟩ : ByteArray) true x1).bind fun (z19 : Int × Gpack_Packer) =>
  (m_pack_Packer_Name (⟨#[1, 98, 1, 97, 0]⟩ : ByteArray) true z19.2).bind fun (z29 : Int × Gpack_Packer) =>
  (m_pack_Packer_Bytes z29.2).bind fun x30 =>
  (m_pack_Name x30 7).bind fun (z36 : ByteArray × Int × Int) =>
  (m_pack_Name (⟨#[192, 0]⟩ : ByteArray) 0).bind fun (z41 : ByteArray × Int × Int) =>
  (m_pack_Name (⟨#[1, 97, 192, 0]⟩ : ByteArray) 2).bind fun (z46 : ByteArray × Int × Int) =>
  if z19.1 = 0 then
    if z29.1 = 0 then
      if x30 = (⟨#[3, 119, 119, 119, 1, 97, 0, 1, 98, 192, 4]⟩ : ByteArray) then
        if z36.1 = (⟨#[1, 98, 1, 97, 0]⟩ : ByteArray) then
          if z36.2.1 = 11 then
            if z36.2.2 = 0 then
              if z41.2.2 = 10 then
                some (decide (z46.2.2 = 10))
              else
                some false
            else
              some false
          else
            some false
        else
          some false
      else
        some false
    else
      some false
  else
    some false
theorem c_law04_awake {w0 : World} {M : Nat → Prop} {H : List (Nat × Nat × Obj)} {R : List (Nat × Row)} {φ : World → Prop}  (r : Bool) (hm : m_law04_awake = some r) :
    Cn Try.prog 14 #[] ⟨w0, M, H, R, φ⟩ (fun x : Unit => .bool r) (fun x => True) (fun x => ⟨w0, M, H, R, φ⟩) := by
 unfold m_law04_awake at hm
 refine cn_intro (fn := Try.f14) (N := 69) Try.func14 rfl Try.ntmps14 rfl ?_
 refine c_seq ?_
 refine c_region ?_
 refine g_v rfl r_assign ?_
 refine g_nil ?_
 refine d_then ?_
 refine c_seq ?_
 refine c_region ?_
 replace hm := bnd hm
 obtain ⟨x1, hx2, hm⟩ := hm
 refine g_cn ⟨w0, M, _, _, φ⟩ (fun _ h => h) Try.call25 rfl rfl (c_pack_New  _ hx2) (fun ⟨A3, c4, A6, c7, g9⟩ ⟨hc4, hc7⟩ => ?_)
 refine g_sta _ (fun W h => (ok_frontR (t := 2000) (t' := 100140) (ok_frontR (t := 2001) (t' := 100141) (ok_front (t := 3000) (t' := 100145) h rfl) rfl) rfl)) ?_
 refine g_v rfl r_assign ?_
 refine g_nil ?_
 refine d_then ?_
 refine c_seq ?_
 refine c_seq ?_
 refine c_region ?_
 refine g_v rfl r_move ?_
 refine g_v rfl (r_eqlP1 Try.underlying42 rfl rfl) ?_
 refine g_nil ?_
 refine d_then ?_
 refine c_cond0 rfl rfl ?_
 refine c_skip ?_
 refine d_then ?_
 refine c_seq ?_
 refine c_region ?_
 refine g_v rfl r_move ?_
 replace hm := bnd hm
 obtain ⟨⟨x10, x11⟩, hx12, hm⟩ := hm
 refine g_cn ⟨w0, M, (1000, g9, .cells #[.slice A3 x1.fb.length c4, mapV A6] 67 (0, 0)) :: H, (1000, ⟨.slice A3 x1.fb.length c4, 5, 1, x1.fb.length, x1.fb.flatMap (fun x : Int => [Value.int .u8 x])⟩) :: (1001, ⟨mapV A6, 65, 2, x1.fplaces.length, x1.fplaces.flatMap (mcell (fun x : ByteArray => Value.string x) (fun x : Int => Value.int .i64 x))⟩) :: R, φ⟩ (fun W h => (ok_front (t := 100145) (t' := 1000) (ok_frontR (t := 100140) (t' := 1000) (ok_frontR (t := 100141) (t' := 1001) h rfl) rfl) rfl)) Try.call27 rfl rfl (c_pack_Packer_Name (⟨#[3, 119, 119, 119, 1, 97, 0]⟩ : ByteArray) true g9 x1 A3 c4 hc4 A6 c7 trivial _ hx12) (fun ⟨A13, c14, A16, c17⟩ ⟨hc14, hc17⟩ => ?_)
 refine g_sta _ (fun W h => (ok_frontR (t := 2000) (t' := 100140) (ok_frontR (t := 2001) (t' := 100141) (ok_front (t := 1000) (t' := 100145) h rfl) rfl) rfl)) ?_
 refine g_v rfl r_assign ?_
 refine g_nil ?_
 refine d_then ?_
 refine c_seq ?_
 refine c_region ?_
 refine g_v rfl r_move ?_
 replace hm := bnd hm
 obtain ⟨⟨x20, x21⟩, hx22, hm⟩ := hm
 refine g_cn ⟨w0, M, (1000, g9, .cells #[.slice A13 x11.fb.length c14, mapV A16] 67 (0, 0)) :: H, (1000, ⟨.slice A13 x11.fb.length c14, 5, 1, x11.fb.length, x11.fb.flatMap (fun x : Int => [Value.int .u8 x])⟩) :: (1001, ⟨mapV A16, 65, 2, x11.fplaces.length, x11.fplaces.flatMap (mcell (fun x : ByteArray => Value.string x) (fun x : Int => Value.int .i64 x))⟩) :: R, φ⟩ (fun W h => (ok_front (t := 100145) (t' := 1000) (ok_frontR (t := 100140) (t' := 1000) (ok_frontR (t := 100141) (t' := 1001) h rfl) rfl) rfl)) Try.call27 rfl rfl (c_pack_Packer_Name (⟨#[1, 98, 1, 97, 0]⟩ : ByteArray) true g9 x11 A13 c14 hc14 A16 c17 trivial _ hx22) (fun ⟨A23, c24, A26, c27⟩ ⟨hc24, hc27⟩ => ?_)
 refine g_sta _ (fun W h => (ok_frontR (t := 2000) (t' := 100140) (ok_frontR (t := 2001) (t' := 100141) (ok_front (t := 1000) (t' := 100145) h rfl) rfl) rfl)) ?_
 refine g_v rfl r_assign ?_
 refine g_nil ?_
 refine d_then ?_
 refine c_flat [(1, .pointer (some ⟨g9, 0, none⟩)), (2, .int .i64 x10), (3, .int .i64 x20)] ⟨rfl, rfl, rfl, trivial⟩ (fun u => ?_)
 refine c_sta ⟨w0, M, (100145, g9, .cells #[.slice A23 x21.fb.length c24, mapV A26] 67 (0, 0)) :: H, (100140, ⟨.slice A23 x21.fb.length c24, 5, 1, x21.fb.length, x21.fb.flatMap (fun x : Int => [Value.int .u8 x])⟩) :: (100141, ⟨mapV A26, 65, 2, x21.fplaces.length, x21.fplaces.flatMap (mcell (fun x : ByteArray => Value.string x) (fun x : Int => Value.int .i64 x))⟩) :: R, φ⟩ (fun _ h => h) ?_
 refine c_seq ?_
 refine c_region ?_
 refine g_v rfl r_move ?_
 replace hm := bnd hm
 obtain ⟨x30, hx31, hm⟩ := hm
 refine g_cn ⟨w0, M, (1000, g9, .cells #[.slice A23 x21.fb.length c24, mapV A26] 67 (0, 0)) :: H, (1000, ⟨.slice A23 x21.fb.length c24, 5, 1, x21.fb.length, x21.fb.flatMap (fun x : Int => [Value.int .u8 x])⟩) :: (1001, ⟨mapV A26, 65, 2, x21.fplaces.length, x21.fplaces.flatMap (mcell (fun x : ByteArray => Value.string x) (fun x : Int => Value.int .i64 x))⟩) :: R, φ⟩ (fun W h => (ok_front (t := 100145) (t' := 1000) (ok_frontR (t := 100140) (t' := 1000) (ok_frontR (t := 100141) (t' := 1001) h rfl) rfl) rfl)) Try.call29 rfl rfl (c_pack_Packer_Bytes g9 x21 A23 c24 hc24 A26 c27 trivial _ hx31) (fun _ _ => ?_)
 refine g_sta _ (fun W h => (ok_frontR (t := 1000) (t' := 100140) (ok_frontR (t := 1001) (t' := 100141) (ok_front (t := 1000) (t' := 100145) h rfl) rfl) rfl)) ?_
 refine g_v rfl r_assign ?_
 refine g_nil ?_
 refine d_then ?_
 refine c_seq ?_
 refine c_region ?_
 refine g_v rfl r_move ?_
 replace hm := bnd hm
 obtain ⟨⟨x32, x33, x34⟩, hx35, hm⟩ := hm
 refine g_cn ⟨w0, M, _, _, φ⟩ (fun _ h => h) Try.call16 rfl rfl (c_pack_Name x30 7 _ hx35) (fun _ _ => ?_)
 refine g_v rfl r_move ?_
 refine g_v rfl (r_extract rfl rfl) ?_
 refine g_v rfl (r_extract rfl rfl) ?_
 refine g_v rfl (r_extract rfl rfl) ?_
 refine g_v rfl r_assign ?_
 refine g_v rfl r_assign ?_
 refine g_v rfl r_assign ?_
 refine g_nil ?_
 refine d_then ?_
 refine c_flat [(2, .int .i64 x10), (3, .int .i64 x20), (4, .string x30), (5, .string x32), (6, .int .i64 x33), (7, .int .i64 x34)] ⟨rfl, rfl, rfl, rfl, rfl, rfl, trivial⟩ (fun u => ?_)
 refine c_sta ⟨w0, M, (100145, g9, .cells #[.slice A23 x21.fb.length c24, mapV A26] 67 (0, 0)) :: H, (100140, ⟨.slice A23 x21.fb.length c24, 5, 1, x21.fb.length, x21.fb.flatMap (fun x : Int => [Value.int .u8 x])⟩) :: (100141, ⟨mapV A26, 65, 2, x21.fplaces.length, x21.fplaces.flatMap (mcell (fun x : ByteArray => Value.string x) (fun x : Int => Value.int .i64 x))⟩) :: R, φ⟩ (fun _ h => h) ?_
 refine c_seq ?_
 refine c_region ?_
 replace hm := bnd hm
 obtain ⟨⟨x37, x38, x39⟩, hx40, hm⟩ := hm
 refine g_cn ⟨w0, M, _, _, φ⟩ (fun _ h => h) Try.call16 rfl rfl (c_pack_Name (⟨#[192, 0]⟩ : ByteArray) 0 _ hx40) (fun _ _ => ?_)
 refine g_v rfl r_move ?_
 refine g_v rfl (r_extract rfl rfl) ?_
 refine g_v rfl (r_extract rfl rfl) ?_
 refine g_v rfl (r_extract rfl rfl) ?_
 refine g_v rfl r_assign ?_
 refine g_v rfl r_assign ?_
 refine g_v rfl r_assign ?_
 refine g_nil ?_
 refine d_then ?_
 refine c_seq ?_
 refine c_region ?_
 replace hm := bnd hm
 obtain ⟨⟨x42, x43, x44⟩, hx45, hm⟩ := hm
 refine g_cn ⟨w0, M, _, _, φ⟩ (fun _ h => h) Try.call16 rfl rfl (c_pack_Name (⟨#[1, 97, 192, 0]⟩ : ByteArray) 2 _ hx45) (fun _ _ => ?_)
 refine g_v rfl r_move ?_
 refine g_v rfl (r_extract rfl rfl) ?_
 refine g_v rfl (r_extract rfl rfl) ?_
 refine g_v rfl (r_extract rfl rfl) ?_
 refine g_v rfl r_assign ?_
 refine g_v rfl r_assign ?_
 refine g_v rfl r_assign ?_
 refine g_nil ?_
 refine d_then ?_
 refine c_flat [(2, .int .i64 x10), (3, .int .i64 x20), (4, .string x30), (5, .string x32), (6, .int .i64 x33), (7, .int .i64 x34), (10, .int .i64 x39), (13, .int .i64 x44)] ⟨rfl, rfl, rfl, rfl, rfl, rfl, rfl, rfl, trivial⟩ (fun u => ?_)
 refine c_sta ⟨w0, M, (100145, g9, .cells #[.slice A23 x21.fb.length c24, mapV A26] 67 (0, 0)) :: H, (100140, ⟨.slice A23 x21.fb.length c24, 5, 1, x21.fb.length, x21.fb.flatMap (fun x : Int => [Value.int .u8 x])⟩) :: (100141, ⟨mapV A26, 65, 2, x21.fplaces.length, x21.fplaces.flatMap (mcell (fun x : ByteArray => Value.string x) (fun x : Int => Value.int .i64 x))⟩) :: R, φ⟩ (fun _ h => h) ?_
 refine c_seq ?_
 refine c_region ?_
 refine g_v rfl r_move ?_
 refine g_v rfl (r_eql rfl rfl) ?_
 refine g_v rfl r_move ?_
 refine g_if rfl rfl rfl rfl rfl (fun h47 => ?_) (fun h47 => ?_)
 ·
  replace hm := ite_t hm (of_decide_eq_true h47)
  refine g_v rfl r_move ?_
  refine g_do rfl rfl rfl rfl rfl h47 ?_
  refine g_v rfl (r_eql rfl rfl) ?_
  refine g_v rfl (r_pick1 rfl h47) ?_
  refine g_v rfl r_move ?_
  refine g_if rfl rfl rfl rfl rfl (fun h48 => ?_) (fun h48 => ?_)
  ·
   replace hm := ite_t hm (of_decide_eq_true h48)
   refine g_v rfl r_move ?_
   refine g_do rfl rfl rfl rfl rfl h48 ?_
   refine g_v rfl (r_eqlT rfl rfl) ?_
   refine g_v rfl (r_pick1 rfl h48) ?_
   refine g_v rfl r_move ?_
   refine g_if rfl rfl rfl rfl rfl (fun h49 => ?_) (fun h49 => ?_)
   ·
    replace hm := ite_t hm (of_decide_eq_true h49)
    refine g_v rfl r_move ?_
    refine g_do rfl rfl rfl rfl rfl h49 ?_
    refine g_v rfl (r_eqlT rfl rfl) ?_
    refine g_v rfl (r_pick1 rfl h49) ?_
    refine g_v rfl r_move ?_
    refine g_if rfl rfl rfl rfl rfl (fun h50 => ?_) (fun h50 => ?_)
    ·
     replace hm := ite_t hm (of_decide_eq_true h50)
     refine g_v rfl r_move ?_
     refine g_do rfl rfl rfl rfl rfl h50 ?_
     refine g_v rfl (r_eql rfl rfl) ?_
     refine g_v rfl (r_pick1 rfl h50) ?_
     refine g_v rfl r_move ?_
     refine g_if rfl rfl rfl rfl rfl (fun h51 => ?_) (fun h51 => ?_)
     ·
      replace hm := ite_t hm (of_decide_eq_true h51)
      refine g_v rfl r_move ?_
      refine g_do rfl rfl rfl rfl rfl h51 ?_
      refine g_v rfl (r_eql rfl rfl) ?_
      refine g_v rfl (r_pick1 rfl h51) ?_
      refine g_v rfl r_move ?_
      refine g_if rfl rfl rfl rfl rfl (fun h52 => ?_) (fun h52 => ?_)
      ·
       replace hm := ite_t hm (of_decide_eq_true h52)
       refine g_v rfl r_move ?_
       refine g_do rfl rfl rfl rfl rfl h52 ?_
       refine g_v rfl (r_eql rfl rfl) ?_
       refine g_v rfl (r_pick1 rfl h52) ?_
       refine g_v rfl r_move ?_
       refine g_if rfl rfl rfl rfl rfl (fun h53 => ?_) (fun h53 => ?_)
       ·
        replace hm := ite_t hm (of_decide_eq_true h53)
        refine g_v rfl r_move ?_
        refine g_do rfl rfl rfl rfl rfl h53 ?_
        refine g_v rfl (r_eql rfl rfl) ?_
        refine g_v rfl (r_pick1 rfl h53) ?_
        refine g_v rfl r_assign ?_
        refine g_nil ?_
        refine d_then ?_
        refine c_flat [(0, .bool (decide (x44 = 10)))] ⟨rfl, trivial⟩ (fun u => ?_)
        refine c_sta ⟨w0, M, (100145, g9, .cells #[.slice A23 x21.fb.length c24, mapV A26] 67 (0, 0)) :: H, (100140, ⟨.slice A23 x21.fb.length c24, 5, 1, x21.fb.length, x21.fb.flatMap (fun x : Int => [Value.int .u8 x])⟩) :: (100141, ⟨mapV A26, 65, 2, x21.fplaces.length, x21.fplaces.flatMap (mcell (fun x : ByteArray => Value.string x) (fun x : Int => Value.int .i64 x))⟩) :: R, φ⟩ (fun _ h => h) ?_
        refine c_ret ?_
        replace hm := Option.some.inj hm
        subst hm
        refine d_retC () Try.results14 ?_ trivial (fun W h => ok_pre (H1 := [_]) (R1 := [_, _]) h (fun W hφ => hφ)) (.inr rfl)
        refine res_tmp ?_
        refine res_nil ?_
        exact rfl
       ·
        replace hm := ite_f hm (of_decide_eq_false h53)
        refine g_no rfl rfl rfl rfl rfl h53 ?_
        refine g_v rfl (r_pick0 rfl h53) ?_
        refine g_v rfl r_assign ?_
        refine g_nil ?_
        refine d_then ?_
        refine c_flat [(0, .bool false)] ⟨rfl, trivial⟩ (fun u => ?_)
        refine c_sta ⟨w0, M, (100145, g9, .cells #[.slice A23 x21.fb.length c24, mapV A26] 67 (0, 0)) :: H, (100140, ⟨.slice A23 x21.fb.length c24, 5, 1, x21.fb.length, x21.fb.flatMap (fun x : Int => [Value.int .u8 x])⟩) :: (100141, ⟨mapV A26, 65, 2, x21.fplaces.length, x21.fplaces.flatMap (mcell (fun x : ByteArray => Value.string x) (fun x : Int => Value.int .i64 x))⟩) :: R, φ⟩ (fun _ h => h) ?_
        refine c_ret ?_
        replace hm := Option.some.inj hm
        subst hm
        refine d_retC () Try.results14 ?_ trivial (fun W h => ok_pre (H1 := [_]) (R1 := [_, _]) h (fun W hφ => hφ)) (.inr rfl)
        refine res_tmp ?_
        refine res_nil ?_
        exact rfl
      ·
       replace hm := ite_f hm (of_decide_eq_false h52)
       refine g_no rfl rfl rfl rfl rfl h52 ?_
       refine g_v rfl (r_pick0 rfl h52) ?_
       refine g_v rfl r_move ?_
       refine g_no rfl rfl rfl rfl rfl rfl ?_
       refine g_no rfl rfl rfl rfl rfl rfl ?_
       refine g_v rfl (r_pick0 rfl rfl) ?_
       refine g_v rfl r_assign ?_
       refine g_nil ?_
       refine d_then ?_
       refine c_flat [(0, .bool false)] ⟨rfl, trivial⟩ (fun u => ?_)
       refine c_sta ⟨w0, M, (100145, g9, .cells #[.slice A23 x21.fb.length c24, mapV A26] 67 (0, 0)) :: H, (100140, ⟨.slice A23 x21.fb.length c24, 5, 1, x21.fb.length, x21.fb.flatMap (fun x : Int => [Value.int .u8 x])⟩) :: (100141, ⟨mapV A26, 65, 2, x21.fplaces.length, x21.fplaces.flatMap (mcell (fun x : ByteArray => Value.string x) (fun x : Int => Value.int .i64 x))⟩) :: R, φ⟩ (fun _ h => h) ?_
       refine c_ret ?_
       replace hm := Option.some.inj hm
       subst hm
       refine d_retC () Try.results14 ?_ trivial (fun W h => ok_pre (H1 := [_]) (R1 := [_, _]) h (fun W hφ => hφ)) (.inr rfl)
       refine res_tmp ?_
       refine res_nil ?_
       exact rfl
     ·
      replace hm := ite_f hm (of_decide_eq_false h51)
      refine g_no rfl rfl rfl rfl rfl h51 ?_
      refine g_v rfl (r_pick0 rfl h51) ?_
      refine g_v rfl r_move ?_
      refine g_no rfl rfl rfl rfl rfl rfl ?_
      refine g_no rfl rfl rfl rfl rfl rfl ?_
      refine g_v rfl (r_pick0 rfl rfl) ?_
      refine g_v rfl r_move ?_
      refine g_no rfl rfl rfl rfl rfl rfl ?_
      refine g_no rfl rfl rfl rfl rfl rfl ?_
      refine g_v rfl (r_pick0 rfl rfl) ?_
      refine g_v rfl r_assign ?_
      refine g_nil ?_
      refine d_then ?_
      refine c_flat [(0, .bool false)] ⟨rfl, trivial⟩ (fun u => ?_)
      refine c_sta ⟨w0, M, (100145, g9, .cells #[.slice A23 x21.fb.length c24, mapV A26] 67 (0, 0)) :: H, (100140, ⟨.slice A23 x21.fb.length c24, 5, 1, x21.fb.length, x21.fb.flatMap (fun x : Int => [Value.int .u8 x])⟩) :: (100141, ⟨mapV A26, 65, 2, x21.fplaces.length, x21.fplaces.flatMap (mcell (fun x : ByteArray => Value.string x) (fun x : Int => Value.int .i64 x))⟩) :: R, φ⟩ (fun _ h => h) ?_
      refine c_ret ?_
      replace hm := Option.some.inj hm
      subst hm
      refine d_retC () Try.results14 ?_ trivial (fun W h => ok_pre (H1 := [_]) (R1 := [_, _]) h (fun W hφ => hφ)) (.inr rfl)
      refine res_tmp ?_
      refine res_nil ?_
      exact rfl
    ·
     replace hm := ite_f hm (of_decide_eq_false h50)
     refine g_no rfl rfl rfl rfl rfl h50 ?_
     refine g_v rfl (r_pick0 rfl h50) ?_
     refine g_v rfl r_move ?_
     refine g_no rfl rfl rfl rfl rfl rfl ?_
     refine g_no rfl rfl rfl rfl rfl rfl ?_
     refine g_v rfl (r_pick0 rfl rfl) ?_
     refine g_v rfl r_move ?_
     refine g_no rfl rfl rfl rfl rfl rfl ?_
     refine g_no rfl rfl rfl rfl rfl rfl ?_
     refine g_v rfl (r_pick0 rfl rfl) ?_
     refine g_v rfl r_move ?_
     refine g_no rfl rfl rfl rfl rfl rfl ?_
     refine g_no rfl rfl rfl rfl rfl rfl ?_
     refine g_v rfl (r_pick0 rfl rfl) ?_
     refine g_v rfl r_assign ?_
     refine g_nil ?_
     refine d_then ?_
     refine c_flat [(0, .bool false)] ⟨rfl, trivial⟩ (fun u => ?_)
     refine c_sta ⟨w0, M, (100145, g9, .cells #[.slice A23 x21.fb.length c24, mapV A26] 67 (0, 0)) :: H, (100140, ⟨.slice A23 x21.fb.length c24, 5, 1, x21.fb.length, x21.fb.flatMap (fun x : Int => [Value.int .u8 x])⟩) :: (100141, ⟨mapV A26, 65, 2, x21.fplaces.length, x21.fplaces.flatMap (mcell (fun x : ByteArray => Value.string x) (fun x : Int => Value.int .i64 x))⟩) :: R, φ⟩ (fun _ h => h) ?_
     refine c_ret ?_
     replace hm := Option.some.inj hm
     subst hm
     refine d_retC () Try.results14 ?_ trivial (fun W h => ok_pre (H1 := [_]) (R1 := [_, _]) h (fun W hφ => hφ)) (.inr rfl)
     refine res_tmp ?_
     refine res_nil ?_
     exact rfl
   ·
    replace hm := ite_f hm (of_decide_eq_false h49)
    refine g_no rfl rfl rfl rfl rfl h49 ?_
    refine g_v rfl (r_pick0 rfl h49) ?_
    refine g_v rfl r_move ?_
    refine g_no rfl rfl rfl rfl rfl rfl ?_
    refine g_no rfl rfl rfl rfl rfl rfl ?_
    refine g_v rfl (r_pick0 rfl rfl) ?_
    refine g_v rfl r_move ?_
    refine g_no rfl rfl rfl rfl rfl rfl ?_
    refine g_no rfl rfl rfl rfl rfl rfl ?_
    refine g_v rfl (r_pick0 rfl rfl) ?_
    refine g_v rfl r_move ?_
    refine g_no rfl rfl rfl rfl rfl rfl ?_
    refine g_no rfl rfl rfl rfl rfl rfl ?_
    refine g_v rfl (r_pick0 rfl rfl) ?_
    refine g_v rfl r_move ?_
    refine g_no rfl rfl rfl rfl rfl rfl ?_
    refine g_no rfl rfl rfl rfl rfl rfl ?_
    refine g_v rfl (r_pick0 rfl rfl) ?_
    refine g_v rfl r_assign ?_
    refine g_nil ?_
    refine d_then ?_
    refine c_flat [(0, .bool false)] ⟨rfl, trivial⟩ (fun u => ?_)
    refine c_sta ⟨w0, M, (100145, g9, .cells #[.slice A23 x21.fb.length c24, mapV A26] 67 (0, 0)) :: H, (100140, ⟨.slice A23 x21.fb.length c24, 5, 1, x21.fb.length, x21.fb.flatMap (fun x : Int => [Value.int .u8 x])⟩) :: (100141, ⟨mapV A26, 65, 2, x21.fplaces.length, x21.fplaces.flatMap (mcell (fun x : ByteArray => Value.string x) (fun x : Int => Value.int .i64 x))⟩) :: R, φ⟩ (fun _ h => h) ?_
    refine c_ret ?_
    replace hm := Option.some.inj hm
    subst hm
    refine d_retC () Try.results14 ?_ trivial (fun W h => ok_pre (H1 := [_]) (R1 := [_, _]) h (fun W hφ => hφ)) (.inr rfl)
    refine res_tmp ?_
    refine res_nil ?_
    exact rfl
  ·
   replace hm := ite_f hm (of_decide_eq_false h48)
   refine g_no rfl rfl rfl rfl rfl h48 ?_
   refine g_v rfl (r_pick0 rfl h48) ?_
   refine g_v rfl r_move ?_
   refine g_no rfl rfl rfl rfl rfl rfl ?_
   refine g_no rfl rfl rfl rfl rfl rfl ?_
   refine g_v rfl (r_pick0 rfl rfl) ?_
   refine g_v rfl r_move ?_
   refine g_no rfl rfl rfl rfl rfl rfl ?_
   refine g_no rfl rfl rfl rfl rfl rfl ?_
   refine g_v rfl (r_pick0 rfl rfl) ?_
   refine g_v rfl r_move ?_
   refine g_no rfl rfl rfl rfl rfl rfl ?_
   refine g_no rfl rfl rfl rfl rfl rfl ?_
   refine g_v rfl (r_pick0 rfl rfl) ?_
   refine g_v rfl r_move ?_
   refine g_no rfl rfl rfl rfl rfl rfl ?_
   refine g_no rfl rfl rfl rfl rfl rfl ?_
   refine g_v rfl (r_pick0 rfl rfl) ?_
   refine g_v rfl r_move ?_
   refine g_no rfl rfl rfl rfl rfl rfl ?_
   refine g_no rfl rfl rfl rfl rfl rfl ?_
   refine g_v rfl (r_pick0 rfl rfl) ?_
   refine g_v rfl r_assign ?_
   refine g_nil ?_
   refine d_then ?_
   refine c_flat [(0, .bool false)] ⟨rfl, trivial⟩ (fun u => ?_)
   refine c_sta ⟨w0, M, (100145, g9, .cells #[.slice A23 x21.fb.length c24, mapV A26] 67 (0, 0)) :: H, (100140, ⟨.slice A23 x21.fb.length c24, 5, 1, x21.fb.length, x21.fb.flatMap (fun x : Int => [Value.int .u8 x])⟩) :: (100141, ⟨mapV A26, 65, 2, x21.fplaces.length, x21.fplaces.flatMap (mcell (fun x : ByteArray => Value.string x) (fun x : Int => Value.int .i64 x))⟩) :: R, φ⟩ (fun _ h => h) ?_
   refine c_ret ?_
   replace hm := Option.some.inj hm
   subst hm
   refine d_retC () Try.results14 ?_ trivial (fun W h => ok_pre (H1 := [_]) (R1 := [_, _]) h (fun W hφ => hφ)) (.inr rfl)
   refine res_tmp ?_
   refine res_nil ?_
   exact rfl
 ·
  replace hm := ite_f hm (of_decide_eq_false h47)
  refine g_no rfl rfl rfl rfl rfl h47 ?_
  refine g_v rfl (r_pick0 rfl h47) ?_
  refine g_v rfl r_move ?_
  refine g_no rfl rfl rfl rfl rfl rfl ?_
  refine g_no rfl rfl rfl rfl rfl rfl ?_
  refine g_v rfl (r_pick0 rfl rfl) ?_
  refine g_v rfl r_move ?_
  refine g_no rfl rfl rfl rfl rfl rfl ?_
  refine g_no rfl rfl rfl rfl rfl rfl ?_
  refine g_v rfl (r_pick0 rfl rfl) ?_
  refine g_v rfl r_move ?_
  refine g_no rfl rfl rfl rfl rfl rfl ?_
  refine g_no rfl rfl rfl rfl rfl rfl ?_
  refine g_v rfl (r_pick0 rfl rfl) ?_
  refine g_v rfl r_move ?_
  refine g_no rfl rfl rfl rfl rfl rfl ?_
  refine g_no rfl rfl rfl rfl rfl rfl ?_
  refine g_v rfl (r_pick0 rfl rfl) ?_
  refine g_v rfl r_move ?_
  refine g_no rfl rfl rfl rfl rfl rfl ?_
  refine g_no rfl rfl rfl rfl rfl rfl ?_
  refine g_v rfl (r_pick0 rfl rfl) ?_
  refine g_v rfl r_move ?_
  refine g_no rfl rfl rfl rfl rfl rfl ?_
  refine g_no rfl rfl rfl rfl rfl rfl ?_
  refine g_v rfl (r_pick0 rfl rfl) ?_
  refine g_v rfl r_assign ?_
  refine g_nil ?_
  refine d_then ?_
  refine c_flat [(0, .bool false)] ⟨rfl, trivial⟩ (fun u => ?_)
  refine c_sta ⟨w0, M, (100145, g9, .cells #[.slice A23 x21.fb.length c24, mapV A26] 67 (0, 0)) :: H, (100140, ⟨.slice A23 x21.fb.length c24, 5, 1, x21.fb.length, x21.fb.flatMap (fun x : Int => [Value.int .u8 x])⟩) :: (100141, ⟨mapV A26, 65, 2, x21.fplaces.length, x21.fplaces.flatMap (mcell (fun x : ByteArray => Value.string x) (fun x : Int => Value.int .i64 x))⟩) :: R, φ⟩ (fun _ h => h) ?_
  refine c_ret ?_
  replace hm := Option.some.inj hm
  subst hm
  refine d_retC () Try.results14 ?_ trivial (fun W h => ok_pre (H1 := [_]) (R1 := [_, _]) h (fun W hφ => hφ)) (.inr rfl)
  refine res_tmp ?_
  refine res_nil ?_
  exact rfl

theorem bld57_7  : ∀ W, (Instr.build 57 #[]).run Try.prog W = .ok (.agg #[.string (⟨#[]⟩ : ByteArray), .slice none 0 0]) W := fun _ => by kernel_rfl
noncomputable def m_law04_short (p0 : ByteArray) (p1 : Int) : Option ByteArray :=
  if p1 < (p0.size : Int) then
    (scutHi p0 p1).bind fun s2 =>
    some s2
  else
    some p0
theorem c_law04_short {w0 : World} {M : Nat → Prop} {H : List (Nat × Nat × Obj)} {R : List (Nat × Row)} {φ : World → Prop} (p0 : ByteArray) (p1 : Int) (r : ByteArray) (hm : m_law04_short p0 p1 = some r) :
    Cn Try.prog 15 #[.string p0, .int .i64 p1] ⟨w0, M, H, R, φ⟩ (fun x : Unit => .string r) (fun x => True) (fun x => ⟨w0, M, H, R, φ⟩) := by
 unfold m_law04_short at hm
 refine cn_intro (fn := Try.f15) (N := 13) Try.func15 rfl Try.ntmps15 rfl ?_
 refine c_seq ?_
 refine c_region ?_
 refine g_v rfl r_assign ?_
 refine g_nil ?_
 refine d_then ?_
 refine c_seq ?_
 refine c_seq ?_
 refine c_region ?_
 refine g_v rfl r_move ?_
 refine g_v rfl (r_len Try.underlying9 rfl) ?_
 refine g_v rfl r_move ?_
 refine g_v rfl (r_gtr rfl rfl) ?_
 refine g_nil ?_
 refine d_then ?_
 refine c_cond rfl (fun h1 => ?_) (fun h1 => ?_)
 ·
  replace hm := ite_t hm (of_decide_eq_true h1)
  refine c_seq ?_
  refine c_region ?_
  refine g_v rfl r_move ?_
  refine g_v rfl r_move ?_
  replace hm := bnd hm
  obtain ⟨s2, hs2, hm⟩ := hm
  refine g_v rfl (r_scutHi Try.underlying9 rfl rfl hs2) ?_
  refine g_v rfl r_assign ?_
  refine g_nil ?_
  refine d_then ?_
  refine c_flat [(4, .string s2)] ⟨rfl, trivial⟩ (fun u => ?_)
  refine c_sta ⟨w0, M, H, R, φ⟩ (fun _ h => h) ?_
  refine c_ret ?_
  refine d_ret_then ?_
  replace hm := Option.some.inj hm
  subst hm
  refine d_retC () Try.results15 ?_ trivial (fun W h => ok_pre (H1 := []) (R1 := []) h (fun W hφ => hφ)) (.inr rfl)
  refine res_tmp ?_
  refine res_nil ?_
  exact rfl
 ·
  replace hm := ite_f hm (of_decide_eq_false h1)
  refine c_skip ?_
  refine d_then ?_
  refine c_seq ?_
  refine c_region ?_
  refine g_v rfl r_move ?_
  refine g_v rfl r_assign ?_
  refine g_nil ?_
  refine d_then ?_
  refine c_ret ?_
  replace hm := Option.some.inj hm
  subst hm
  refine d_retC () Try.results15 ?_ trivial (fun W h => ok_pre (H1 := []) (R1 := []) h (fun W hφ => hφ)) (.inr rfl)
  refine res_tmp ?_
  refine res_nil ?_
  exact rfl

structure Gref04_Place where
  fName : ByteArray
  fAt : Int
  deriving DecidableEq
def Gref04_Place.enc (e : Gref04_Place) : List Value := [.string e.fName, .int .i64 e.fAt]
structure Gref04_Packer where
  fB : ByteArray
  fL : List Gref04_Place
noncomputable def m_ref04_Packer_Number_j1 (o0 : Gref04_Packer) (s29 : ByteArray) : Option Gref04_Packer :=
  some (⟨s29, o0.fL⟩ : Gref04_Packer)
noncomputable def m_ref04_Packer_Number_s2 (p1 : Int) (i43 : Int) (s44 : ByteArray) : Option ((Int × ByteArray) ⊕ ByteArray) :=
  if 0 ≤ i43 then
    (shOk (IntKind.u64.wrap (w64 (8 * i43)))).bind fun u65 =>
    (sadd s44 (strOfNums [IntKind.u8.wrap (shrI .i64 p1 (IntKind.u64.wrap (w64 (8 * i43))))])).bind fun s67 =>
    some (.inl (w64 (i43 - 1), s67))
  else
    some (.inr s44)
noncomputable def m_ref04_Packer_Number (p1 : Int) (p2 : Int) (o0 : Gref04_Packer) : Option Gref04_Packer :=
  (loop (fun s => m_ref04_Packer_Number_s2 p1 s.1 s.2) (w64 (p2 - 1), o0.fB)).bind fun e => m_ref04_Packer_Number_j1 o0 e
theorem c_ref04_Packer_Number {w0 : World} {M : Nat → Prop} {H : List (Nat × Nat × Obj)} {R : List (Nat × Row)} {φ : World → Prop} (p1 : Int) (p2 : Int) (go0 : Nat) (o0 : Gref04_Packer) (Ao0_0 : Option Addr) (co0_0 : Nat) (hco0_0 : o0.fL.length ≤ co0_0) (r : Gref04_Packer) (hm : m_ref04_Packer_Number p1 p2 o0 = some r) :
    Cn Try.prog 32 #[.pointer (some ⟨go0, 0, none⟩), .int .i64 p1, .int .i64 p2] ⟨w0, M, (1000, go0, .cells #[.string o0.fB, .slice Ao0_0 o0.fL.length co0_0] 57 (0, 0)) :: H, (1000, ⟨.slice Ao0_0 o0.fL.length co0_0, 91, 2, o0.fL.length, o0.fL.flatMap Gref04_Place.enc⟩) :: R, φ⟩ (fun x : Option Addr × Nat => .tuple #[]) (fun x => r.fL.length ≤ x.2) (fun x => ⟨w0, M, (1000, go0, .cells #[.string r.fB, .slice x.1 r.fL.length x.2] 57 (0, 0)) :: H, (2000, ⟨.slice x.1 r.fL.length x.2, 91, 2, r.fL.length, r.fL.flatMap Gref04_Place.enc⟩) :: R, φ⟩) := by
 unfold m_ref04_Packer_Number at hm
 refine cn_intro (fn := Try.f32) (N := 29) Try.func32 rfl Try.ntmps32 rfl ?_
 refine c_seq ?_
 refine c_region ?_
 refine g_v rfl r_move ?_
 refine g_v rfl (r_sub rfl rfl rfl) ?_
 refine g_v rfl r_assign ?_
 refine g_nil ?_
 refine d_then ?_
 refine c_cut (ι := ByteArray) [] (fun s29 => []) (fun s29 => ⟨w0, M, (1000, go0, .cells #[.string s29, .slice Ao0_0 o0.fL.length co0_0] 57 (0, 0)) :: H, (1000, ⟨.slice Ao0_0 o0.fL.length co0_0, 91, 2, o0.fL.length, o0.fL.flatMap Gref04_Place.enc⟩) :: R, φ⟩) (fun s29 => m_ref04_Packer_Number_j1 o0 s29 = some r) ?_ (fun s29 u hm => ?_)
 ·
  refine c_block ?_
  replace hm := bnd hm
  obtain ⟨out2, hl2, hr2⟩ := hm
  obtain ⟨n57', hl2⟩ := loop_lp hl2
  refine c_loopU (ι := Nat × Int × ByteArray) [0, 1, 6] (fun ⟨n57, i43, s44⟩ => [(6, .int .i64 i43)]) (fun ⟨n57, i43, s44⟩ => ⟨w0, M, (1000, go0, .cells #[.string s44, .slice Ao0_0 o0.fL.length co0_0] 57 (0, 0)) :: H, (1000, ⟨.slice Ao0_0 o0.fL.length co0_0, 91, 2, o0.fL.length, o0.fL.flatMap Gref04_Place.enc⟩) :: R, φ⟩) (fun ⟨n57, i43, s44⟩ => Lp (fun s => m_ref04_Packer_Number_s2 p1 s.1 s.2) n57 (i43, s44) out2) (fun ⟨n57, i43, s44⟩ => n57) (n57', w64 (p2 - 1), o0.fB) hl2 ⟨rfl, rfl, rfl, trivial⟩ (fun W h => h.phi (fun W hφ => hφ)) (fun ⟨n57, i43, s44⟩ u hlp => ?_)
  obtain ⟨o2, hm, hnx2⟩ := lp_step hlp
  clear hlp
  replace hm : m_ref04_Packer_Number_s2 p1 i43 s44 = some o2 := hm
  unfold m_ref04_Packer_Number_s2 at hm
  refine c_flat [(0, .pointer (some ⟨go0, 0, none⟩)), (1, .int .i64 p1), (6, .int .i64 i43)] ⟨rfl, rfl, rfl, trivial⟩ (fun u => ?_)
  refine c_sta ⟨w0, M, (1000, go0, .cells #[.string s44, .slice Ao0_0 o0.fL.length co0_0] 57 (0, 0)) :: H, (1000, ⟨.slice Ao0_0 o0.fL.length co0_0, 91, 2, o0.fL.length, o0.fL.flatMap Gref04_Place.enc⟩) :: R, φ⟩ (fun _ h => h) ?_
  refine c_seq ?_
  refine c_seq ?_
  refine c_region ?_
  refine g_v rfl r_move ?_
  refine g_v rfl (r_geq rfl rfl) ?_
  refine g_nil ?_
  refine d_then ?_
  refine c_cond rfl (fun h58 => ?_) (fun h58 => ?_)
  ·
   replace hm := ite_t hm (of_decide_eq_true h58)
   refine c_skip ?_
   refine d_then ?_
   refine c_seq ?_
   refine c_block ?_
   refine ga_start (n := 17) ⟨w0, M, (1000, go0, .cells #[.string s44, .slice Ao0_0 o0.fL.length co0_0] 57 (0, 0)) :: H, (1000, ⟨.slice Ao0_0 o0.fL.length co0_0, 91, 2, o0.fL.length, o0.fL.flatMap Gref04_Place.enc⟩) :: R, φ⟩ [16] #[false, false, false, false, false, false, false, false, false, false, false, false, false, false, false, false, false] (fun W h => h.phi (fun W hφ => hφ)) mixed rfl rfl ?_
   refine ga_v (i := 0) #[true, false, false, false, false, false, false, false, false, false, false, false, false, false, false, false, false] rfl (by kernel_rfl) (fun _ _ _ _ h => h) rfl (r_move) ?_
   refine ga_v (i := 1) #[true, true, false, false, false, false, false, false, false, false, false, false, false, false, false, false, false] rfl (by kernel_rfl) (fun _ _ _ _ h => h) rfl (r_move) ?_
   refine ga_v (i := 2) #[true, true, true, false, false, false, false, false, false, false, false, false, false, false, false, false, false] rfl (by kernel_rfl) (fun _ _ _ _ h => h) rfl (r_nilck rfl) ?_
   refine ga_v (i := 3) #[true, true, true, true, false, false, false, false, false, false, false, false, false, false, false, false, false] rfl (by kernel_rfl) (fun _ _ _ _ h => h) rfl (r_field (n := 0) Try.underlying57 rfl Try.sizeOf9 rfl rfl) ?_
   refine ga_v (i := 4) #[true, true, true, true, true, false, false, false, false, false, false, false, false, false, false, false, false] rfl (by kernel_rfl) (fun _ _ _ _ h => h) rfl (r_load (tag := 1000) rfl rfl rfl Try.isAgg9) ?_
   refine ga_v (i := 5) #[true, true, true, true, true, true, false, false, false, false, false, false, false, false, false, false, false] rfl (by kernel_rfl) (fun _ _ _ _ h => h) rfl (r_move) ?_
   refine ga_r (i := 6) #[true, true, true, true, true, true, true, false, false, false, false, false, false, false, false, false, false] rfl (by kernel_rfl) (by decide) rfl (r_move) ?_
   refine ga_r (i := 7) #[true, true, true, true, true, true, true, true, false, false, false, false, false, false, false, false, false] rfl (by kernel_rfl) (by decide) rfl (r_mul rfl rfl rfl) ?_
   refine ga_r (i := 8) #[true, true, true, true, true, true, true, true, true, false, false, false, false, false, false, false, false] rfl (by kernel_rfl) (by decide) rfl (r_conv Try.underlying3 Try.underlying89 rfl rfl) ?_
   replace hm := bnd hm
   obtain ⟨u65, hu65, hm⟩ := hm
   refine ga_r (i := 9) #[true, true, true, true, true, true, true, true, true, true, false, false, false, false, false, false, false] rfl (by kernel_rfl) (by decide) rfl (r_shrV rfl rfl hu65) ?_
   refine ga_r (i := 10) #[true, true, true, true, true, true, true, true, true, true, true, false, false, false, false, false, false] rfl (by kernel_rfl) (by decide) rfl (r_conv Try.underlying3 Try.underlying5 rfl rfl) ?_
   refine ga_e (i := 11) #[true, true, true, true, true, true, true, true, true, true, true, true, false, false, false, false, false] rfl (by kernel_rfl) (by decide) rfl  (e_lit (tag := 100240) (l := [IntKind.u8.wrap (shrI .i64 p1 (IntKind.u64.wrap (w64 (8 * i43))))]) (enc := (fun x : Int => [Value.int .u8 x])) (sz := 1) rfl Try.underlying58 (lit5_6 _) rfl rfl (fun _ => rfl)) (fun g66 W _ h => (h.dropR (t := 100240) rfl).phi (fun W hφ => hφ)) (fun g66 _ => ?_)
   refine ga_r (i := 12) #[true, true, true, true, true, true, true, true, true, true, true, true, true, false, false, false, false] rfl (by kernel_rfl) (by decide) rfl (r_textE Try.underlying58 Try.underlying5 Try.underlying9 rfl (fun W hS => rowCl (tag := 100240) rfl W hS)) ?_
   replace hm := bnd hm
   obtain ⟨s67, hs67, hm⟩ := hm
   refine ga_r (i := 13) #[true, true, true, true, true, true, true, true, true, true, true, true, true, true, false, false, false] rfl (by kernel_rfl) (by decide) rfl (r_addT rfl rfl hs67) ?_
   refine ga_r (i := 14) #[true, true, true, true, true, true, true, true, true, true, true, true, true, true, true, false, false] rfl (by kernel_rfl) (by decide) rfl (r_nilck rfl) ?_
   refine ga_r (i := 15) #[true, true, true, true, true, true, true, true, true, true, true, true, true, true, true, true, false] rfl (by kernel_rfl) (by decide) rfl (r_field (n := 0) Try.underlying57 rfl Try.sizeOf9 rfl rfl) ?_
   refine ga_lastL (i := 16) (tag := 1000) #[true, true, true, true, true, true, true, true, true, true, true, true, true, true, true, true, true] rfl (by kernel_rfl) (by decide) rfl rfl rfl rfl Try.sizeOf9 rfl rfl ?_
   refine gz_done (by kernel_rfl) ?_
   refine d_normal_block ?_
   refine d_then ?_
   refine c_flat [(0, .pointer (some ⟨go0, 0, none⟩)), (1, .int .i64 p1), (6, .int .i64 i43)] ⟨rfl, rfl, rfl, trivial⟩ (fun u => ?_)
   refine c_sta ⟨w0, M, (1000, go0, .cells #[.string s67, .slice Ao0_0 o0.fL.length co0_0] 57 (0, 0)) :: H, (100240, ⟨.slice (some ⟨g66, 0, none⟩) [IntKind.u8.wrap (shrI .i64 p1 (IntKind.u64.wrap (w64 (8 * i43))))].length 1, 5, 1, [IntKind.u8.wrap (shrI .i64 p1 (IntKind.u64.wrap (w64 (8 * i43))))].length, [IntKind.u8.wrap (shrI .i64 p1 (IntKind.u64.wrap (w64 (8 * i43))))].flatMap (fun x : Int => [Value.int .u8 x])⟩) :: (1000, ⟨.slice Ao0_0 o0.fL.length co0_0, 91, 2, o0.fL.length, o0.fL.flatMap Gref04_Place.enc⟩) :: R, φ⟩ (fun _ h => h) ?_
   refine c_region ?_
   refine g_v rfl r_move ?_
   refine g_v rfl (r_sub rfl rfl rfl) ?_
   refine g_v rfl r_assign ?_
   refine g_nil ?_
   obtain ⟨n68, hn68, hlp⟩ := nx_inl hm hnx2
   exact d_round (n68, w64 (i43 - 1), s67) hlp hn68 ⟨rfl, rfl, rfl, trivial⟩ (fun W h => (h.dropR (t := 100240) rfl).phi (fun W hφ => hφ))
  ·
   replace hm := ite_f hm (of_decide_eq_false h58)
   refine c_exit ?_
   refine d_exit_then ?_
   refine d_exit_then ?_
   refine d_exit_block ?_
   replace hm := nx_out (C := (fun e => m_ref04_Packer_Number_j1 o0 e = some r)) hm hnx2 hr2
   exact d_round s44 hm Nat.zero_lt_one trivial (fun W h => h.phi (fun W hφ => hφ))
 ·
  unfold m_ref04_Packer_Number_j1 at hm
  refine d_flat [] trivial (fun u => ?_)
  refine d_sta ⟨w0, M, (1000, go0, .cells #[.string s29, .slice Ao0_0 o0.fL.length co0_0] 57 (0, 0)) :: H, (1000, ⟨.slice Ao0_0 o0.fL.length co0_0, 91, 2, o0.fL.length, o0.fL.flatMap Gref04_Place.enc⟩) :: R, φ⟩ (fun _ h => h) ?_
  replace hm := Option.some.inj hm
  subst hm
  refine d_sta _ (fun W h => ok_frontR (t := 1000) (t' := 2000) h rfl) ?_
  refine d_retC (Ao0_0, co0_0) Try.results32 ?_ hco0_0 (fun W h => h.phi (fun W hφ => hφ)) (.inl rfl)
  refine res_nil ?_
  exact rfl

theorem lit5_8 (z0 : Int) (z1 : Int) (z2 : Int) (z3 : Int) : Try.prog.builtSlice 5 4 [(0, .int .u8 z0), (1, .int .u8 z1), (2, .int .u8 z2), (3, .int .u8 z3)] = some #[.int .u8 z0, .int .u8 z1, .int .u8 z2, .int .u8 z3] := by kernel_rfl
noncomputable def m_pack_Packer_Long (p1 : Int) (o0 : Gpack_Packer) : Option Gpack_Packer :=
  (m_pack_Packer_put [IntKind.u8.wrap (p1 / 16777216), IntKind.u8.wrap (p1 / 65536), IntKind.u8.wrap (p1 / 256), IntKind.u8.wrap p1] o0).bind fun x2 =>
  some x2
theorem c_pack_Packer_Long {w0 : World} {M : Nat → Prop} {H : List (Nat × Nat × Obj)} {R : List (Nat × Row)} {φ : World → Prop} (p1 : Int) (go0 : Nat) (o0 : Gpack_Packer) (Ao0_0 : Option Addr) (co0_0 : Nat) (hco0_0 : o0.fb.length ≤ co0_0) (Ao0_1 : Option Addr) (co0_1 : Nat) (hco0_1 : True) (r : Gpack_Packer) (hm : m_pack_Packer_Long p1 o0 = some r) :
    Cn Try.prog 33 #[.pointer (some ⟨go0, 0, none⟩), .int .u32 p1] ⟨w0, M, (1000, go0, .cells #[.slice Ao0_0 o0.fb.length co0_0, mapV Ao0_1] 67 (0, 0)) :: H, (1000, ⟨.slice Ao0_0 o0.fb.length co0_0, 5, 1, o0.fb.length, o0.fb.flatMap (fun x : Int => [Value.int .u8 x])⟩) :: (1001, ⟨mapV Ao0_1, 65, 2, o0.fplaces.length, o0.fplaces.flatMap (mcell (fun x : ByteArray => Value.string x) (fun x : Int => Value.int .i64 x))⟩) :: R, φ⟩ (fun x : Option Addr × Nat × Option Addr × Nat => .tuple #[]) (fun x => r.fb.length ≤ x.2.1 ∧ True) (fun x => ⟨w0, M, (1000, go0, .cells #[.slice x.1 r.fb.length x.2.1, mapV x.2.2.1] 67 (0, 0)) :: H, (2000, ⟨.slice x.1 r.fb.length x.2.1, 5, 1, r.fb.length, r.fb.flatMap (fun x : Int => [Value.int .u8 x])⟩) :: (2001, ⟨mapV x.2.2.1, 65, 2, r.fplaces.length, r.fplaces.flatMap (mcell (fun x : ByteArray => Value.string x) (fun x : Int => Value.int .i64 x))⟩) :: R, φ⟩) := by
 unfold m_pack_Packer_Long at hm
 refine cn_intro (fn := Try.f33) (N := 18) Try.func33 rfl Try.ntmps33 rfl ?_
 refine c_region ?_
 refine g_v rfl r_move ?_
 refine g_v rfl r_move ?_
 refine g_v rfl (r_shr (n := 16777216) rfl rfl (by decide) (by decide) (by decide)) ?_
 refine g_v rfl (r_conv Try.underlying36 Try.underlying5 rfl rfl) ?_
 refine g_v rfl r_move ?_
 refine g_v rfl (r_shr (n := 65536) rfl rfl (by decide) (by decide) (by decide)) ?_
 refine g_v rfl (r_conv Try.underlying36 Try.underlying5 rfl rfl) ?_
 refine g_v rfl r_move ?_
 refine g_v rfl (r_shr (n := 256) rfl rfl (by decide) (by decide) (by decide)) ?_
 refine g_v rfl (r_conv Try.underlying36 Try.underlying5 rfl rfl) ?_
 refine g_v rfl r_move ?_
 refine g_v rfl (r_conv Try.underlying36 Try.underlying5 rfl rfl) ?_
 refine g_e rfl (e_lit (tag := 100160) (l := [IntKind.u8.wrap (p1 / 16777216), IntKind.u8.wrap (p1 / 65536), IntKind.u8.wrap (p1 / 256), IntKind.u8.wrap p1]) (enc := (fun x : Int => [Value.int .u8 x])) (sz := 1) rfl Try.underlying58 (lit5_8 _ _ _ _) rfl rfl (fun _ => rfl)) (fun g1 _ => ?_)
 replace hm := bnd hm
 obtain ⟨x2, hx3, hm⟩ := hm
 refine g_cn ⟨w0, M, (1000, go0, .cells #[.slice Ao0_0 o0.fb.length co0_0, mapV Ao0_1] 67 (0, 0)) :: H, (1000, ⟨.slice Ao0_0 o0.fb.length co0_0, 5, 1, o0.fb.length, o0.fb.flatMap (fun x : Int => [Value.int .u8 x])⟩) :: (1001, ⟨mapV Ao0_1, 65, 2, o0.fplaces.length, o0.fplaces.flatMap (mcell (fun x : ByteArray => Value.string x) (fun x : Int => Value.int .i64 x))⟩) :: (100160, ⟨.slice (some ⟨g1, 0, none⟩) [IntKind.u8.wrap (p1 / 16777216), IntKind.u8.wrap (p1 / 65536), IntKind.u8.wrap (p1 / 256), IntKind.u8.wrap p1].length 4, 5, 1, [IntKind.u8.wrap (p1 / 16777216), IntKind.u8.wrap (p1 / 65536), IntKind.u8.wrap (p1 / 256), IntKind.u8.wrap p1].length, [IntKind.u8.wrap (p1 / 16777216), IntKind.u8.wrap (p1 / 65536), IntKind.u8.wrap (p1 / 256), IntKind.u8.wrap p1].flatMap (fun x : Int => [Value.int .u8 x])⟩) :: R, φ⟩ (fun W h => (ok_front (t := 1000) (t' := 1000) (ok_frontR (t := 1000) (t' := 1000) (ok_frontR (t := 1001) (t' := 1001) h rfl) rfl) rfl)) Try.call64 rfl rfl (c_pack_Packer_put [IntKind.u8.wrap (p1 / 16777216), IntKind.u8.wrap (p1 / 65536), IntKind.u8.wrap (p1 / 256), IntKind.u8.wrap p1] (some ⟨g1, 0, none⟩) 4 (Nat.le_refl _) (fun W hS => rowCl (tag := 100160) rfl W hS) go0 o0 Ao0_0 co0_0 hco0_0 Ao0_1 co0_1 trivial _ hx3) (fun ⟨A4, c5, A7, c8⟩ ⟨hc5, hc8⟩ => ?_)
 refine g_sta _ (fun W h => (ok_frontR (t := 2000) (t' := 1000) (ok_frontR (t := 2001) (t' := 1001) (ok_front (t := 1000) (t' := 1000) h rfl) rfl) rfl)) ?_
 refine g_nil ?_
 replace hm := Option.some.inj hm
 subst hm
 refine d_sta _ (fun W h => ok_frontR (t := 1001) (t' := 2001) h rfl) ?_
 refine d_sta _ (fun W h => ok_frontR (t := 1000) (t' := 2000) h rfl) ?_
 refine d_retC (A4, c5, A7, c8) Try.results33 ?_ ⟨hc5, hc8⟩ (fun W h => (h.dropR (t := 100160) rfl).phi (fun W hφ => hφ)) (.inl rfl)
 refine res_nil ?_
 exact rfl

noncomputable def m_pack_Packer_Patch (p1 : Int) (p2 : Int) (o0 : Gpack_Packer) : Option (Int × Gpack_Packer) :=
  if p1 < 0 then
    some (1, o0)
  else
    if w64 ((o0.fb.length : Int) - 2) < p1 then
      some (1, o0)
    else
      (at_ o0.fb p1).bind fun x23 =>
      (setAt o0.fb p1 (IntKind.u8.wrap (p2 / 256))).bind fun l27 =>
      (at_ l27 (w64 (p1 + 1))).bind fun x28 =>
      (setAt l27 (w64 (p1 + 1)) (IntKind.u8.wrap p2)).bind fun l32 =>
      some (0, (⟨l32, o0.fplaces⟩ : Gpack_Packer))
theorem c_pack_Packer_Patch {w0 : World} {M : Nat → Prop} {H : List (Nat × Nat × Obj)} {R : List (Nat × Row)} {φ : World → Prop} (p1 : Int) (p2 : Int) (go0 : Nat) (o0 : Gpack_Packer) (Ao0_0 : Option Addr) (co0_0 : Nat) (hco0_0 : o0.fb.length ≤ co0_0) (Ao0_1 : Option Addr) (co0_1 : Nat) (hco0_1 : True) (r : Int × Gpack_Packer) (hm : m_pack_Packer_Patch p1 p2 o0 = some r) :
    Cn Try.prog 34 #[.pointer (some ⟨go0, 0, none⟩), .int .i64 p1, .int .u16 p2] ⟨w0, M, (1000, go0, .cells #[.slice Ao0_0 o0.fb.length co0_0, mapV Ao0_1] 67 (0, 0)) :: H, (1000, ⟨.slice Ao0_0 o0.fb.length co0_0, 5, 1, o0.fb.length, o0.fb.flatMap (fun x : Int => [Value.int .u8 x])⟩) :: (1001, ⟨mapV Ao0_1, 65, 2, o0.fplaces.length, o0.fplaces.flatMap (mcell (fun x : ByteArray => Value.string x) (fun x : Int => Value.int .i64 x))⟩) :: R, φ⟩ (fun x : Option Addr × Nat × Option Addr × Nat => .int .i64 r.1) (fun x => r.2.fb.length ≤ x.2.1 ∧ True) (fun x => ⟨w0, M, (1000, go0, .cells #[.slice x.1 r.2.fb.length x.2.1, mapV x.2.2.1] 67 (0, 0)) :: H, (2000, ⟨.slice x.1 r.2.fb.length x.2.1, 5, 1, r.2.fb.length, r.2.fb.flatMap (fun x : Int => [Value.int .u8 x])⟩) :: (2001, ⟨mapV x.2.2.1, 65, 2, r.2.fplaces.length, r.2.fplaces.flatMap (mcell (fun x : ByteArray => Value.string x) (fun x : Int => Value.int .i64 x))⟩) :: R, φ⟩) := by
 unfold m_pack_Packer_Patch at hm
 refine cn_intro (fn := Try.f34) (N := 41) Try.func34 rfl Try.ntmps34 rfl ?_
 refine c_seq ?_
 refine c_region ?_
 refine g_v rfl r_assign ?_
 refine g_nil ?_
 refine d_then ?_
 refine c_seq ?_
 refine c_seq ?_
 refine c_region ?_
 refine g_v rfl r_move ?_
 refine g_v rfl (r_eqlP1 Try.underlying42 rfl rfl) ?_
 refine g_v rfl r_move ?_
 refine g_do rfl rfl rfl rfl rfl rfl ?_
 refine g_v rfl r_move ?_
 refine g_do rfl rfl rfl rfl rfl rfl ?_
 refine g_v rfl (r_lss rfl rfl) ?_
 refine g_v rfl (r_pick0 rfl rfl) ?_
 refine g_v rfl r_move ?_
 refine g_if rfl rfl rfl rfl rfl (fun h1 => ?_) (fun h1 => ?_)
 ·
  replace hm := ite_f hm (of_decide_eq_false h1)
  refine g_v rfl r_move ?_
  refine g_do rfl rfl rfl rfl rfl h1 ?_
  refine g_v rfl r_move ?_
  refine g_do rfl rfl rfl rfl rfl h1 ?_
  refine g_v rfl (r_nilck rfl) ?_
  refine g_do rfl rfl rfl rfl rfl h1 ?_
  refine g_v rfl (r_field (n := 0) Try.underlying67 rfl Try.sizeOf58 rfl rfl) ?_
  refine g_do rfl rfl rfl rfl rfl h1 ?_
  refine g_v rfl (r_load (tag := 1000) rfl rfl rfl Try.isAgg58) ?_
  refine g_do rfl rfl rfl rfl rfl h1 ?_
  refine g_v rfl (r_lenL Try.underlying58 rfl) ?_
  refine g_do rfl rfl rfl rfl rfl h1 ?_
  refine g_v rfl (r_sub rfl rfl rfl) ?_
  refine g_do rfl rfl rfl rfl rfl h1 ?_
  refine g_v rfl (r_gtr rfl rfl) ?_
  refine g_v rfl (r_pick0 rfl h1) ?_
  refine g_nil ?_
  refine d_then ?_
  refine c_flat [(0, .pointer (some ⟨go0, 0, none⟩)), (1, .int .i64 p1), (2, .int .u16 p2), (22, .bool (decide (w64 ((o0.fb.length : Int) - 2) < p1)))] ⟨rfl, rfl, rfl, rfl, trivial⟩ (fun u => ?_)
  refine c_sta ⟨w0, M, (1000, go0, .cells #[.slice Ao0_0 o0.fb.length co0_0, mapV Ao0_1] 67 (0, 0)) :: H, (1000, ⟨.slice Ao0_0 o0.fb.length co0_0, 5, 1, o0.fb.length, o0.fb.flatMap (fun x : Int => [Value.int .u8 x])⟩) :: (1001, ⟨mapV Ao0_1, 65, 2, o0.fplaces.length, o0.fplaces.flatMap (mcell (fun x : ByteArray => Value.string x) (fun x : Int => Value.int .i64 x))⟩) :: R, φ⟩ (fun _ h => h) ?_
  refine c_cond rfl (fun h2 => ?_) (fun h2 => ?_)
  ·
   replace hm := ite_t hm (of_decide_eq_true h2)
   refine c_seq ?_
   refine c_region ?_
   refine g_v rfl r_assign ?_
   refine g_nil ?_
   refine d_then ?_
   refine c_ret ?_
   refine d_ret_then ?_
   replace hm := Option.some.inj hm
   subst hm
   refine d_sta _ (fun W h => ok_frontR (t := 1001) (t' := 2001) h rfl) ?_
   refine d_sta _ (fun W h => ok_frontR (t := 1000) (t' := 2000) h rfl) ?_
   refine d_retC (Ao0_0, co0_0, Ao0_1, co0_1) Try.results34 ?_ ⟨hco0_0, hco0_1⟩ (fun W h => h.phi (fun W hφ => hφ)) (.inr rfl)
   refine res_tmp ?_
   refine res_nil ?_
   exact rfl
  ·
   replace hm := ite_f hm (of_decide_eq_false h2)
   refine c_skip ?_
   refine d_then ?_
   refine c_seq ?_
   refine ga_start (n := 20) ⟨w0, M, (1000, go0, .cells #[.slice Ao0_0 o0.fb.length co0_0, mapV Ao0_1] 67 (0, 0)) :: H, (1001, ⟨mapV Ao0_1, 65, 2, o0.fplaces.length, o0.fplaces.flatMap (mcell (fun x : ByteArray => Value.string x) (fun x : Int => Value.int .i64 x))⟩) :: R, φ⟩ [] #[false, false, false, false, false, false, false, false, false, false, false, false, false, false, false, false, false, false, false, false] (fun W h => (h.dropR (t := 1000) rfl).phi (fun W hφ => hφ)) mixed rfl rfl ?_
   refine ga_v (i := 0) #[true, false, false, false, false, false, false, false, false, false, false, false, false, false, false, false, false, false, false, false] rfl (by kernel_rfl) (fun _ _ _ _ h => h) rfl (r_move) ?_
   refine ga_v (i := 1) #[true, true, false, false, false, false, false, false, false, false, false, false, false, false, false, false, false, false, false, false] rfl (by kernel_rfl) (fun _ _ _ _ h => h) rfl (r_nilck rfl) ?_
   refine ga_v (i := 2) #[true, true, true, false, false, false, false, false, false, false, false, false, false, false, false, false, false, false, false, false] rfl (by kernel_rfl) (fun _ _ _ _ h => h) rfl (r_field (n := 0) Try.underlying67 rfl Try.sizeOf58 rfl rfl) ?_
   refine ga_v (i := 3) #[true, true, true, true, false, false, false, false, false, false, false, false, false, false, false, false, false, false, false, false] rfl (by kernel_rfl) (fun _ _ _ _ h => h) rfl (r_load (tag := 1000) rfl rfl rfl Try.isAgg58) ?_
   refine ga_v (i := 4) #[true, true, true, true, true, false, false, false, false, false, false, false, false, false, false, false, false, false, false, false] rfl (by kernel_rfl) (fun _ _ _ _ h => h) rfl (r_move) ?_
   refine ga_v (i := 5) #[true, true, true, true, true, true, false, false, false, false, false, false, false, false, false, false, false, false, false, false] rfl (by kernel_rfl) (fun _ _ _ _ h => h) rfl (r_move) ?_
   refine ga_v (i := 6) #[true, true, true, true, true, true, true, false, false, false, false, false, false, false, false, false, false, false, false, false] rfl (by kernel_rfl) (fun _ _ _ _ h => h) rfl (r_nilck rfl) ?_
   refine ga_v (i := 7) #[true, true, true, true, true, true, true, true, false, false, false, false, false, false, false, false, false, false, false, false] rfl (by kernel_rfl) (fun _ _ _ _ h => h) rfl (r_field (n := 0) Try.underlying67 rfl Try.sizeOf58 rfl rfl) ?_
   refine ga_v (i := 8) #[true, true, true, true, true, true, true, true, true, false, false, false, false, false, false, false, false, false, false, false] rfl (by kernel_rfl) (fun _ _ _ _ h => h) rfl (r_load (tag := 1000) rfl rfl rfl Try.isAgg58) ?_
   refine ga_v (i := 9) #[true, true, true, true, true, true, true, true, true, true, false, false, false, false, false, false, false, false, false, false] rfl (by kernel_rfl) (fun _ _ _ _ h => h) rfl (r_move) ?_
   refine ga_v (i := 10) #[true, true, true, true, true, true, true, true, true, true, true, false, false, false, false, false, false, false, false, false] rfl (by kernel_rfl) (fun _ _ _ _ h => h) rfl (r_add rfl rfl rfl) ?_
   refine ga_v (i := 11) #[true, true, true, true, true, true, true, true, true, true, true, true, false, false, false, false, false, false, false, false] rfl (by kernel_rfl) (fun _ _ _ _ h => h) rfl (r_move) ?_
   refine ga_v (i := 12) #[true, true, true, true, true, true, true, true, true, true, true, true, true, false, false, false, false, false, false, false] rfl (by kernel_rfl) (fun _ _ _ _ h => h) rfl (r_shr (n := 256) rfl rfl (by decide) (by decide) (by decide)) ?_
   refine ga_v (i := 13) #[true, true, true, true, true, true, true, true, true, true, true, true, true, true, false, false, false, false, false, false] rfl (by kernel_rfl) (fun _ _ _ _ h => h) rfl (r_conv Try.underlying33 Try.underlying5 rfl rfl) ?_
   refine ga_v (i := 14) #[true, true, true, true, true, true, true, true, true, true, true, true, true, true, true, false, false, false, false, false] rfl (by kernel_rfl) (fun _ _ _ _ h => h) rfl (r_move) ?_
   refine ga_v (i := 15) #[true, true, true, true, true, true, true, true, true, true, true, true, true, true, true, true, false, false, false, false] rfl (by kernel_rfl) (fun _ _ _ _ h => h) rfl (r_conv Try.underlying33 Try.underlying5 rfl rfl) ?_
   replace hm := bnd hm
   obtain ⟨x23, hx23, hm⟩ := hm
   refine ga_know _ (fun W hS => cl_at (p := (Sta.ok ⟨w0, M, (1000, go0, .cells #[.slice Ao0_0 o0.fb.length co0_0, mapV Ao0_1] 67 (0, 0)) :: H, (1000, ⟨.slice Ao0_0 o0.fb.length co0_0, 5, 1, o0.fb.length, o0.fb.flatMap (fun x : Int => [Value.int .u8 x])⟩) :: (1001, ⟨mapV Ao0_1, 65, 2, o0.fplaces.length, o0.fplaces.flatMap (mcell (fun x : ByteArray => Value.string x) (fun x : Int => Value.int .i64 x))⟩) :: R, φ⟩)) (sz := 1) (fun _ => rfl) (by decide) hS (fun W hS => rowCl (S := ⟨w0, M, (1000, go0, .cells #[.slice Ao0_0 o0.fb.length co0_0, mapV Ao0_1] 67 (0, 0)) :: H, (1000, ⟨.slice Ao0_0 o0.fb.length co0_0, 5, 1, o0.fb.length, o0.fb.flatMap (fun x : Int => [Value.int .u8 x])⟩) :: (1001, ⟨mapV Ao0_1, 65, 2, o0.fplaces.length, o0.fplaces.flatMap (mcell (fun x : ByteArray => Value.string x) (fun x : Int => Value.int .i64 x))⟩) :: R, φ⟩) (tag := 1000) rfl W hS) hx23) ?_
   rintro ⟨ad24, hA26, f25⟩
   refine ga_r (i := 16) #[true, true, true, true, true, true, true, true, true, true, true, true, true, true, true, true, true, false, false, false] rfl (by kernel_rfl) (by decide) rfl (r_ix Try.underlying58 Try.sizeOf5 rfl hA26 rfl hx23) ?_
   replace hm := bnd hm
   obtain ⟨l27, hl27, hm⟩ := hm
   refine ga_s (i := 17) #[true, true, true, true, true, true, true, true, true, true, true, true, true, true, true, true, true, true, false, false] rfl (by kernel_rfl) (by decide) (e_stR (tag := 1000) (enc := (fun x : Int => [Value.int .u8 x])) (l := o0.fb) (off := 0) (vs := [.int .u8 (IntKind.u8.wrap (p2 / 256))]) (add0 rfl) hA26 rfl rfl hx23 hl27 rfl (Nat.le_of_ble_eq_true rfl) (fun _ => rfl) rfl rfl Try.sizeOf5) (fun W h => (h.dropR (t := 1000) rfl).phi (fun W hφ => hφ)) ?_
   rw [show o0.fb.length = l27.length from (setAt_lenE hl27).symm]
   replace hm := bnd hm
   obtain ⟨x28, hx28, hm⟩ := hm
   refine ga_know _ (fun W hS => cl_at (p := (Sta.ok ⟨w0, M, (1000, go0, .cells #[.slice Ao0_0 l27.length co0_0, mapV Ao0_1] 67 (0, 0)) :: H, (1000, ⟨.slice Ao0_0 l27.length co0_0, 5, 1, l27.length, l27.flatMap (fun x : Int => [Value.int .u8 x])⟩) :: (1001, ⟨mapV Ao0_1, 65, 2, o0.fplaces.length, o0.fplaces.flatMap (mcell (fun x : ByteArray => Value.string x) (fun x : Int => Value.int .i64 x))⟩) :: R, φ⟩)) (sz := 1) (fun _ => rfl) (by decide) hS (fun W hS => rowCl (S := ⟨w0, M, (1000, go0, .cells #[.slice Ao0_0 l27.length co0_0, mapV Ao0_1] 67 (0, 0)) :: H, (1000, ⟨.slice Ao0_0 l27.length co0_0, 5, 1, l27.length, l27.flatMap (fun x : Int => [Value.int .u8 x])⟩) :: (1001, ⟨mapV Ao0_1, 65, 2, o0.fplaces.length, o0.fplaces.flatMap (mcell (fun x : ByteArray => Value.string x) (fun x : Int => Value.int .i64 x))⟩) :: R, φ⟩) (tag := 1000) rfl W hS) hx28) ?_
   rintro ⟨ad29, hA31, f30⟩
   refine ga_r (i := 18) #[true, true, true, true, true, true, true, true, true, true, true, true, true, true, true, true, true, true, true, false] rfl (by kernel_rfl) (by decide) rfl (r_ix Try.underlying58 Try.sizeOf5 rfl hA31 rfl hx28) ?_
   replace hm := bnd hm
   obtain ⟨l32, hl32, hm⟩ := hm
   refine ga_s (i := 19) #[true, true, true, true, true, true, true, true, true, true, true, true, true, true, true, true, true, true, true, true] rfl (by kernel_rfl) (by decide) (e_stR (tag := 1000) (enc := (fun x : Int => [Value.int .u8 x])) (l := l27) (off := 0) (vs := [.int .u8 (IntKind.u8.wrap p2)]) (add0 rfl) hA31 rfl rfl hx28 hl32 rfl (Nat.le_of_ble_eq_true rfl) (fun _ => rfl) rfl rfl Try.sizeOf5) (fun W h => (h.dropR (t := 1000) rfl).phi (fun W hφ => hφ)) ?_
   rw [show l27.length = l32.length from (setAt_lenE hl32).symm]
   refine ga_done (by kernel_rfl) ?_
   refine d_then ?_
   refine c_flat [] trivial (fun u => ?_)
   refine c_sta ⟨w0, M, (1000, go0, .cells #[.slice Ao0_0 l32.length co0_0, mapV Ao0_1] 67 (0, 0)) :: H, (1000, ⟨.slice Ao0_0 l32.length co0_0, 5, 1, l32.length, l32.flatMap (fun x : Int => [Value.int .u8 x])⟩) :: (1001, ⟨mapV Ao0_1, 65, 2, o0.fplaces.length, o0.fplaces.flatMap (mcell (fun x : ByteArray => Value.string x) (fun x : Int => Value.int .i64 x))⟩) :: R, φ⟩ (fun _ h => h) ?_
   refine c_seq ?_
   refine c_region ?_
   refine g_v rfl r_assign ?_
   refine g_nil ?_
   refine d_then ?_
   refine c_ret ?_
   replace hm := Option.some.inj hm
   subst hm
   refine d_sta _ (fun W h => ok_frontR (t := 1001) (t' := 2001) h rfl) ?_
   refine d_sta _ (fun W h => ok_frontR (t := 1000) (t' := 2000) h rfl) ?_
   refine d_retC (Ao0_0, co0_0, Ao0_1, co0_1) Try.results34 ?_ ⟨(setAt_len (setAt_len hco0_0 hl27) hl32), hco0_1⟩ (fun W h => h.phi (fun W hφ => hφ)) (.inr rfl)
   refine res_tmp ?_
   refine res_nil ?_
   exact rfl
 ·
  replace hm := ite_t hm (of_decide_eq_true h1)
  refine g_no rfl rfl rfl rfl rfl h1 ?_
  refine g_no rfl rfl rfl rfl rfl h1 ?_
  refine g_no rfl rfl rfl rfl rfl h1 ?_
  refine g_no rfl rfl rfl rfl rfl h1 ?_
  refine g_no rfl rfl rfl rfl rfl h1 ?_
  refine g_no rfl rfl rfl rfl rfl h1 ?_
  refine g_no rfl rfl rfl rfl rfl h1 ?_
  refine g_v rfl (r_pick1 rfl h1) ?_
  refine g_nil ?_
  refine d_then ?_
  refine c_flat [(0, .pointer (some ⟨go0, 0, none⟩)), (1, .int .i64 p1), (2, .int .u16 p2), (22, .bool true)] ⟨rfl, rfl, rfl, rfl, trivial⟩ (fun u => ?_)
  refine c_sta ⟨w0, M, (1000, go0, .cells #[.slice Ao0_0 o0.fb.length co0_0, mapV Ao0_1] 67 (0, 0)) :: H, (1000, ⟨.slice Ao0_0 o0.fb.length co0_0, 5, 1, o0.fb.length, o0.fb.flatMap (fun x : Int => [Value.int .u8 x])⟩) :: (1001, ⟨mapV Ao0_1, 65, 2, o0.fplaces.length, o0.fplaces.flatMap (mcell (fun x : ByteArray => Value.string x) (fun x : Int => Value.int .i64 x))⟩) :: R, φ⟩ (fun _ h => h) ?_
  refine c_cond1 rfl rfl ?_
  refine c_seq ?_
  refine c_region ?_
  refine g_v rfl r_assign ?_
  refine g_nil ?_
  refine d_then ?_
  refine c_ret ?_
  refine d_ret_then ?_
  replace hm := Option.some.inj hm
  subst hm
  refine d_sta _ (fun W h => ok_frontR (t := 1001) (t' := 2001) h rfl) ?_
  refine d_sta _ (fun W h => ok_frontR (t := 1000) (t' := 2000) h rfl) ?_
  refine d_retC (Ao0_0, co0_0, Ao0_1, co0_1) Try.results34 ?_ ⟨hco0_0, hco0_1⟩ (fun W h => h.phi (fun W hφ => hφ)) (.inr rfl)
  refine res_tmp ?_
  refine res_nil ?_
  exact rfl

noncomputable def m_ref04_Packer_Patch (p1 : Int) (p2 : Int) (o0 : Gref04_Packer) : Option (Int × Gref04_Packer) :=
  if p1 < 0 then
    some (1, o0)
  else
    if w64 ((o0.fB.size : Int) - 2) < p1 then
      some (1, o0)
    else
      (scutHi o0.fB p1).bind fun s13 =>
      (scutLo o0.fB (w64 (p1 + 2))).bind fun s14 =>
      (sadd s13 (strOfNums [IntKind.u8.wrap (IntKind.u16.wrap (p2.tdiv 256)), IntKind.u8.wrap (p2.tmod 256)])).bind fun s16 =>
      (sadd s16 s14).bind fun s17 =>
      some (0, (⟨s17, o0.fL⟩ : Gref04_Packer))
theorem c_ref04_Packer_Patch {w0 : World} {M : Nat → Prop} {H : List (Nat × Nat × Obj)} {R : List (Nat × Row)} {φ : World → Prop} (p1 : Int) (p2 : Int) (go0 : Nat) (o0 : Gref04_Packer) (Ao0_0 : Option Addr) (co0_0 : Nat) (hco0_0 : o0.fL.length ≤ co0_0) (r : Int × Gref04_Packer) (hm : m_ref04_Packer_Patch p1 p2 o0 = some r) :
    Cn Try.prog 35 #[.pointer (some ⟨go0, 0, none⟩), .int .i64 p1, .int .u16 p2] ⟨w0, M, (1000, go0, .cells #[.string o0.fB, .slice Ao0_0 o0.fL.length co0_0] 57 (0, 0)) :: H, (1000, ⟨.slice Ao0_0 o0.fL.length co0_0, 91, 2, o0.fL.length, o0.fL.flatMap Gref04_Place.enc⟩) :: R, φ⟩ (fun x : Option Addr × Nat => .int .i64 r.1) (fun x => r.2.fL.length ≤ x.2) (fun x => ⟨w0, M, (1000, go0, .cells #[.string r.2.fB, .slice x.1 r.2.fL.length x.2] 57 (0, 0)) :: H, (2000, ⟨.slice x.1 r.2.fL.length x.2, 91, 2, r.2.fL.length, r.2.fL.flatMap Gref04_Place.enc⟩) :: R, φ⟩) := by
 unfold m_ref04_Packer_Patch at hm
 refine cn_intro (fn := Try.f35) (N := 45) Try.func35 rfl Try.ntmps35 rfl ?_
 refine c_seq ?_
 refine c_region ?_
 refine g_v rfl r_assign ?_
 refine g_nil ?_
 refine d_then ?_
 refine c_seq ?_
 refine c_seq ?_
 refine c_region ?_
 refine g_v rfl r_move ?_
 refine g_v rfl (r_lss rfl rfl) ?_
 refine g_v rfl r_move ?_
 refine g_if rfl rfl rfl rfl rfl (fun h1 => ?_) (fun h1 => ?_)
 ·
  replace hm := ite_f hm (of_decide_eq_false h1)
  refine g_v rfl r_move ?_
  refine g_do rfl rfl rfl rfl rfl h1 ?_
  refine g_v rfl r_move ?_
  refine g_do rfl rfl rfl rfl rfl h1 ?_
  refine g_v rfl (r_nilck rfl) ?_
  refine g_do rfl rfl rfl rfl rfl h1 ?_
  refine g_v rfl (r_field (n := 0) Try.underlying57 rfl Try.sizeOf9 rfl rfl) ?_
  refine g_do rfl rfl rfl rfl rfl h1 ?_
  refine g_v rfl (r_load (tag := 1000) rfl rfl rfl Try.isAgg9) ?_
  refine g_do rfl rfl rfl rfl rfl h1 ?_
  refine g_v rfl (r_len Try.underlying9 rfl) ?_
  refine g_do rfl rfl rfl rfl rfl h1 ?_
  refine g_v rfl (r_sub rfl rfl rfl) ?_
  refine g_do rfl rfl rfl rfl rfl h1 ?_
  refine g_v rfl (r_gtr rfl rfl) ?_
  refine g_v rfl (r_pick0 rfl h1) ?_
  refine g_nil ?_
  refine d_then ?_
  refine c_flat [(0, .pointer (some ⟨go0, 0, none⟩)), (1, .int .i64 p1), (2, .int .u16 p2), (18, .bool (decide (w64 ((o0.fB.size : Int) - 2) < p1)))] ⟨rfl, rfl, rfl, rfl, trivial⟩ (fun u => ?_)
  refine c_sta ⟨w0, M, (1000, go0, .cells #[.string o0.fB, .slice Ao0_0 o0.fL.length co0_0] 57 (0, 0)) :: H, (1000, ⟨.slice Ao0_0 o0.fL.length co0_0, 91, 2, o0.fL.length, o0.fL.flatMap Gref04_Place.enc⟩) :: R, φ⟩ (fun _ h => h) ?_
  refine c_cond rfl (fun h2 => ?_) (fun h2 => ?_)
  ·
   replace hm := ite_t hm (of_decide_eq_true h2)
   refine c_seq ?_
   refine c_region ?_
   refine g_v rfl r_assign ?_
   refine g_nil ?_
   refine d_then ?_
   refine c_ret ?_
   refine d_ret_then ?_
   replace hm := Option.some.inj hm
   subst hm
   refine d_sta _ (fun W h => ok_frontR (t := 1000) (t' := 2000) h rfl) ?_
   refine d_retC (Ao0_0, co0_0) Try.results35 ?_ hco0_0 (fun W h => h.phi (fun W hφ => hφ)) (.inr rfl)
   refine res_tmp ?_
   refine res_nil ?_
   exact rfl
  ·
   replace hm := ite_f hm (of_decide_eq_false h2)
   refine c_skip ?_
   refine d_then ?_
   refine c_seq ?_
   refine ga_start (n := 27) ⟨w0, M, (1000, go0, .cells #[.string o0.fB, .slice Ao0_0 o0.fL.length co0_0] 57 (0, 0)) :: H, (1000, ⟨.slice Ao0_0 o0.fL.length co0_0, 91, 2, o0.fL.length, o0.fL.flatMap Gref04_Place.enc⟩) :: R, φ⟩ [26] #[false, false, false, false, false, false, false, false, false, false, false, false, false, false, false, false, false, false, false, false, false, false, false, false, false, false, false] (fun W h => h.phi (fun W hφ => hφ)) mixed rfl rfl ?_
   refine ga_v (i := 0) #[true, false, false, false, false, false, false, false, false, false, false, false, false, false, false, false, false, false, false, false, false, false, false, false, false, false, false] rfl (by kernel_rfl) (fun _ _ _ _ h => h) rfl (r_move) ?_
   refine ga_v (i := 1) #[true, true, false, false, false, false, false, false, false, false, false, false, false, false, false, false, false, false, false, false, false, false, false, false, false, false, false] rfl (by kernel_rfl) (fun _ _ _ _ h => h) rfl (r_move) ?_
   refine ga_v (i := 2) #[true, true, true, false, false, false, false, false, false, false, false, false, false, false, false, false, false, false, false, false, false, false, false, false, false, false, false] rfl (by kernel_rfl) (fun _ _ _ _ h => h) rfl (r_nilck rfl) ?_
   refine ga_v (i := 3) #[true, true, true, true, false, false, false, false, false, false, false, false, false, false, false, false, false, false, false, false, false, false, false, false, false, false, false] rfl (by kernel_rfl) (fun _ _ _ _ h => h) rfl (r_field (n := 0) Try.underlying57 rfl Try.sizeOf9 rfl rfl) ?_
   refine ga_v (i := 4) #[true, true, true, true, true, false, false, false, false, false, false, false, false, false, false, false, false, false, false, false, false, false, false, false, false, false, false] rfl (by kernel_rfl) (fun _ _ _ _ h => h) rfl (r_load (tag := 1000) rfl rfl rfl Try.isAgg9) ?_
   refine ga_v (i := 5) #[true, true, true, true, true, true, false, false, false, false, false, false, false, false, false, false, false, false, false, false, false, false, false, false, false, false, false] rfl (by kernel_rfl) (fun _ _ _ _ h => h) rfl (r_move) ?_
   replace hm := bnd hm
   obtain ⟨s13, hs13, hm⟩ := hm
   refine ga_v (i := 6) #[true, true, true, true, true, true, true, false, false, false, false, false, false, false, false, false, false, false, false, false, false, false, false, false, false, false, false] rfl (by kernel_rfl) (fun _ _ _ _ h => h) rfl (r_scutHi Try.underlying9 rfl rfl hs13) ?_
   refine ga_v (i := 7) #[true, true, true, true, true, true, true, true, false, false, false, false, false, false, false, false, false, false, false, false, false, false, false, false, false, false, false] rfl (by kernel_rfl) (fun _ _ _ _ h => h) rfl (r_move) ?_
   refine ga_v (i := 8) #[true, true, true, true, true, true, true, true, true, false, false, false, false, false, false, false, false, false, false, false, false, false, false, false, false, false, false] rfl (by kernel_rfl) (fun _ _ _ _ h => h) rfl (r_quo rfl rfl (by decide) rfl) ?_
   refine ga_v (i := 9) #[true, true, true, true, true, true, true, true, true, true, false, false, false, false, false, false, false, false, false, false, false, false, false, false, false, false, false] rfl (by kernel_rfl) (fun _ _ _ _ h => h) rfl (r_conv Try.underlying33 Try.underlying5 rfl rfl) ?_
   refine ga_v (i := 10) #[true, true, true, true, true, true, true, true, true, true, true, false, false, false, false, false, false, false, false, false, false, false, false, false, false, false, false] rfl (by kernel_rfl) (fun _ _ _ _ h => h) rfl (r_move) ?_
   refine ga_v (i := 11) #[true, true, true, true, true, true, true, true, true, true, true, true, false, false, false, false, false, false, false, false, false, false, false, false, false, false, false] rfl (by kernel_rfl) (fun _ _ _ _ h => h) rfl (r_rem rfl rfl (by decide) rfl) ?_
   refine ga_v (i := 12) #[true, true, true, true, true, true, true, true, true, true, true, true, true, false, false, false, false, false, false, false, false, false, false, false, false, false, false] rfl (by kernel_rfl) (fun _ _ _ _ h => h) rfl (r_conv Try.underlying33 Try.underlying5 rfl rfl) ?_
   refine ga_v (i := 16) #[true, true, true, true, true, true, true, true, true, true, true, true, true, false, false, false, true, false, false, false, false, false, false, false, false, false, false] rfl (by kernel_rfl) (fun _ _ _ _ h => h) rfl (r_move) ?_
   refine ga_v (i := 17) #[true, true, true, true, true, true, true, true, true, true, true, true, true, false, false, false, true, true, false, false, false, false, false, false, false, false, false] rfl (by kernel_rfl) (fun _ _ _ _ h => h) rfl (r_nilck rfl) ?_
   refine ga_v (i := 18) #[true, true, true, true, true, true, true, true, true, true, true, true, true, false, false, false, true, true, true, false, false, false, false, false, false, false, false] rfl (by kernel_rfl) (fun _ _ _ _ h => h) rfl (r_field (n := 0) Try.underlying57 rfl Try.sizeOf9 rfl rfl) ?_
   refine ga_v (i := 19) #[true, true, true, true, true, true, true, true, true, true, true, true, true, false, false, false, true, true, true, true, false, false, false, false, false, false, false] rfl (by kernel_rfl) (fun _ _ _ _ h => h) rfl (r_load (tag := 1000) rfl rfl rfl Try.isAgg9) ?_
   refine ga_v (i := 20) #[true, true, true, true, true, true, true, true, true, true, true, true, true, false, false, false, true, true, true, true, true, false, false, false, false, false, false] rfl (by kernel_rfl) (fun _ _ _ _ h => h) rfl (r_move) ?_
   refine ga_v (i := 21) #[true, true, true, true, true, true, true, true, true, true, true, true, true, false, false, false, true, true, true, true, true, true, false, false, false, false, false] rfl (by kernel_rfl) (fun _ _ _ _ h => h) rfl (r_add rfl rfl rfl) ?_
   replace hm := bnd hm
   obtain ⟨s14, hs14, hm⟩ := hm
   refine ga_v (i := 22) #[true, true, true, true, true, true, true, true, true, true, true, true, true, false, false, false, true, true, true, true, true, true, true, false, false, false, false] rfl (by kernel_rfl) (fun _ _ _ _ h => h) rfl (r_scutLo Try.underlying9 rfl rfl hs14) ?_
   refine ga_e (i := 13) #[true, true, true, true, true, true, true, true, true, true, true, true, true, true, false, false, true, true, true, true, true, true, true, false, false, false, false] rfl (by kernel_rfl) (by decide) rfl  (e_lit (tag := 100320) (l := [IntKind.u8.wrap (IntKind.u16.wrap (p2.tdiv 256)), IntKind.u8.wrap (p2.tmod 256)]) (enc := (fun x : Int => [Value.int .u8 x])) (sz := 1) rfl Try.underlying58 (lit5_4 _ _) rfl rfl (fun _ => rfl)) (fun g15 W _ h => (h.dropR (t := 100320) rfl).phi (fun W hφ => hφ)) (fun g15 _ => ?_)
   refine ga_r (i := 14) #[true, true, true, true, true, true, true, true, true, true, true, true, true, true, true, false, true, true, true, true, true, true, true, false, false, false, false] rfl (by kernel_rfl) (by decide) rfl (r_textE Try.underlying58 Try.underlying5 Try.underlying9 rfl (fun W hS => rowCl (tag := 100320) rfl W hS)) ?_
   replace hm := bnd hm
   obtain ⟨s16, hs16, hm⟩ := hm
   refine ga_r (i := 15) #[true, true, true, true, true, true, true, true, true, true, true, true, true, true, true, true, true, true, true, true, true, true, true, false, false, false, false] rfl (by kernel_rfl) (by decide) rfl (r_addT rfl rfl hs16) ?_
   replace hm := bnd hm
   obtain ⟨s17, hs17, hm⟩ := hm
   refine ga_r (i := 23) #[true, true, true, true, true, true, true, true, true, true, true, true, true, true, true, true, true, true, true, true, true, true, true, true, false, false, false] rfl (by kernel_rfl) (by decide) rfl (r_addT rfl rfl hs17) ?_
   refine ga_r (i := 24) #[true, true, true, true, true, true, true, true, true, true, true, true, true, true, true, true, true, true, true, true, true, true, true, true, true, false, false] rfl (by kernel_rfl) (by decide) rfl (r_nilck rfl) ?_
   refine ga_r (i := 25) #[true, true, true, true, true, true, true, true, true, true, true, true, true, true, true, true, true, true, true, true, true, true, true, true, true, true, false] rfl (by kernel_rfl) (by decide) rfl (r_field (n := 0) Try.underlying57 rfl Try.sizeOf9 rfl rfl) ?_
   refine ga_lastL (i := 26) (tag := 1000) #[true, true, true, true, true, true, true, true, true, true, true, true, true, true, true, true, true, true, true, true, true, true, true, true, true, true, true] rfl (by kernel_rfl) (by decide) rfl rfl rfl rfl Try.sizeOf9 rfl rfl ?_
   refine gz_done (by kernel_rfl) ?_
   refine d_then ?_
   refine c_flat [] trivial (fun u => ?_)
   refine c_sta ⟨w0, M, (1000, go0, .cells #[.string s17, .slice Ao0_0 o0.fL.length co0_0] 57 (0, 0)) :: H, (100320, ⟨.slice (some ⟨g15, 0, none⟩) [IntKind.u8.wrap (IntKind.u16.wrap (p2.tdiv 256)), IntKind.u8.wrap (p2.tmod 256)].length 2, 5, 1, [IntKind.u8.wrap (IntKind.u16.wrap (p2.tdiv 256)), IntKind.u8.wrap (p2.tmod 256)].length, [IntKind.u8.wrap (IntKind.u16.wrap (p2.tdiv 256)), IntKind.u8.wrap (p2.tmod 256)].flatMap (fun x : Int => [Value.int .u8 x])⟩) :: (1000, ⟨.slice Ao0_0 o0.fL.length co0_0, 91, 2, o0.fL.length, o0.fL.flatMap Gref04_Place.enc⟩) :: R, φ⟩ (fun _ h => h) ?_
   refine c_seq ?_
   refine c_region ?_
   refine g_v rfl r_assign ?_
   refine g_nil ?_
   refine d_then ?_
   refine c_ret ?_
   replace hm := Option.some.inj hm
   subst hm
   refine d_sta _ (fun W h => ok_frontR (t := 1000) (t' := 2000) h rfl) ?_
   refine d_retC (Ao0_0, co0_0) Try.results35 ?_ hco0_0 (fun W h => (h.dropR (t := 100320) rfl).phi (fun W hφ => hφ)) (.inr rfl)
   refine res_tmp ?_
   refine res_nil ?_
   exact rfl
 ·
  replace hm := ite_t hm (of_decide_eq_true h1)
  refine g_no rfl rfl rfl rfl rfl h1 ?_
  refine g_no rfl rfl rfl rfl rfl h1 ?_
  refine g_no rfl rfl rfl rfl rfl h1 ?_
  refine g_no rfl rfl rfl rfl rfl h1 ?_
  refine g_no rfl rfl rfl rfl rfl h1 ?_
  refine g_no rfl rfl rfl rfl rfl h1 ?_
  refine g_no rfl rfl rfl rfl rfl h1 ?_
  refine g_v rfl (r_pick1 rfl h1) ?_
  refine g_nil ?_
  refine d_then ?_
  refine c_cond1 rfl rfl ?_
  refine c_seq ?_
  refine c_region ?_
  refine g_v rfl r_assign ?_
  refine g_nil ?_
  refine d_then ?_
  refine c_ret ?_
  refine d_ret_then ?_
  replace hm := Option.some.inj hm
  subst hm
  refine d_sta _ (fun W h => ok_frontR (t := 1000) (t' := 2000) h rfl) ?_
  refine d_retC (Ao0_0, co0_0) Try.results35 ?_ hco0_0 (fun W h => h.phi (fun W hφ => hφ)) (.inr rfl)
  refine res_tmp ?_
  refine res_nil ?_
  exact rfl

noncomputable def m_ref03_row_j1 (p0 : ByteArray) (l82 : List ByteArray) (i85 : Int) : Option ((List ByteArray) × Bool) :=
  some (l82, decide (i85 = w64 ((p0.size : Int) - 1)))
noncomputable def m_ref03_row_s2 (p0 : ByteArray) (l101 : List ByteArray) (i104 : Int) : Option (((List ByteArray) × Int) ⊕ (((List ByteArray) × Int) ⊕ ((List ByteArray) × Bool))) :=
  if i104 < (p0.size : Int) then
    (sat_ p0 i104).bind fun b122 =>
    if b122 ≠ 0 then
      (sat_ p0 i104).bind fun b124 =>
      if 63 < w64 b124 then
        some (.inr (.inr (([] : List ByteArray), false)))
      else
        if (p0.size : Int) < w64 ((w64 (i104 + 1)) + (w64 b124)) then
          some (.inr (.inr (([] : List ByteArray), false)))
        else
          (scutMid p0 (w64 (i104 + 1)) (w64 ((w64 (i104 + 1)) + (w64 b124)))).bind fun s127 =>
          (app 16 l101 [s127]).bind fun l129 =>
          some (.inl (l129, w64 ((w64 (i104 + 1)) + (w64 b124))))
    else
      some (.inr (.inl (l101, i104)))
  else
    some (.inr (.inl (l101, i104)))
noncomputable def m_ref03_row (p0 : ByteArray) : Option ((List ByteArray) × Bool) :=
  (loop (fun s => m_ref03_row_s2 p0 s.1 s.2) (([] : List ByteArray), 0)).bind fun e => Sum.elim (fun e => m_ref03_row_j1 p0 e.1 e.2) (fun x => some x) e
theorem c_ref03_row {w0 : World} {M : Nat → Prop} {H : List (Nat × Nat × Obj)} {R : List (Nat × Row)} {φ : World → Prop} (p0 : ByteArray) (r : (List ByteArray) × Bool) (hm : m_ref03_row p0 = some r) :
    Cn Try.prog 67 #[.string p0] ⟨w0, M, H, R, φ⟩ (fun x : Option Addr × Nat => .tuple #[.slice x.1 r.1.length x.2, .bool r.2]) (fun x => r.1.length ≤ x.2) (fun x => ⟨w0, M, H, (2000, ⟨.slice x.1 r.1.length x.2, 9, 1, r.1.length, r.1.flatMap (fun x : ByteArray => [Value.string x])⟩) :: R, φ⟩) := by
 unfold m_ref03_row at hm
 refine cn_intro (fn := Try.f67) (N := 53) Try.func67 rfl Try.ntmps67 rfl ?_
 refine c_seq ?_
 refine c_region ?_
 refine g_v rfl r_assign ?_
 refine g_v rfl r_assign ?_
 refine g_nil ?_
 refine d_then ?_
 refine c_seq ?_
 refine c_region ?_
 refine g_v rfl r_assign ?_
 refine g_nil ?_
 refine d_then ?_
 refine c_seq ?_
 refine c_region ?_
 refine g_v rfl r_assign ?_
 refine g_nil ?_
 refine d_then ?_
 refine c_seq ?_
 refine c_sta _ (fun W h => nilR h 19 9 1) ?_
 refine c_cut (ι := (List ByteArray) × Int × Option Addr × Nat) [0, 4, 5] (fun ⟨l82, i85, A83, c84⟩ => [(4, .slice A83 l82.length c84), (5, .int .i64 i85)]) (fun ⟨l82, i85, A83, c84⟩ => ⟨w0, M, H, (19, ⟨.slice A83 l82.length c84, 9, 1, l82.length, l82.flatMap (fun x : ByteArray => [Value.string x])⟩) :: R, φ⟩) (fun ⟨l82, i85, A83, c84⟩ => m_ref03_row_j1 p0 l82 i85 = some r ∧ l82.length ≤ c84) ?_ (fun ⟨l82, i85, A83, c84⟩ u ⟨hm, hc84⟩ => ?_)
 ·
  refine c_block ?_
  replace hm := bnd hm
  obtain ⟨out2, hl2, hr2⟩ := hm
  obtain ⟨n120', hl2⟩ := loop_lp hl2
  refine c_loopU (ι := Nat × (List ByteArray) × Int × Option Addr × Nat) [0, 4, 5] (fun ⟨n120, l101, i104, A102, c103⟩ => [(4, .slice A102 l101.length c103), (5, .int .i64 i104)]) (fun ⟨n120, l101, i104, A102, c103⟩ => ⟨w0, M, H, (19, ⟨.slice A102 l101.length c103, 9, 1, l101.length, l101.flatMap (fun x : ByteArray => [Value.string x])⟩) :: R, φ⟩) (fun ⟨n120, l101, i104, A102, c103⟩ => Lp (fun s => m_ref03_row_s2 p0 s.1 s.2) n120 (l101, i104) out2 ∧ l101.length ≤ c103) (fun ⟨n120, l101, i104, A102, c103⟩ => n120) (n120', ([] : List ByteArray), 0, none, 0) ⟨hl2, (Nat.le_refl 0)⟩ ⟨rfl, rfl, rfl, trivial⟩ (fun W h => h.phi (fun W hφ => hφ)) (fun ⟨n120, l101, i104, A102, c103⟩ u ⟨hlp, hc103⟩ => ?_)
  obtain ⟨o2, hm, hnx2⟩ := lp_step hlp
  clear hlp
  replace hm : m_ref03_row_s2 p0 l101 i104 = some o2 := hm
  unfold m_ref03_row_s2 at hm
  refine c_flat [(0, .string p0), (4, .slice A102 l101.length c103), (5, .int .i64 i104)] ⟨rfl, rfl, rfl, trivial⟩ (fun u => ?_)
  refine c_sta ⟨w0, M, H, (19, ⟨.slice A102 l101.length c103, 9, 1, l101.length, l101.flatMap (fun x : ByteArray => [Value.string x])⟩) :: R, φ⟩ (fun _ h => h) ?_
  refine c_seq ?_
  refine c_seq ?_
  refine c_region ?_
  refine g_v rfl r_move ?_
  refine g_v rfl r_move ?_
  refine g_v rfl (r_len Try.underlying9 rfl) ?_
  refine g_v rfl (r_lss rfl rfl) ?_
  refine g_v rfl r_move ?_
  refine g_if rfl rfl rfl rfl rfl (fun h121 => ?_) (fun h121 => ?_)
  ·
   replace hm := ite_t hm (of_decide_eq_true h121)
   refine g_v rfl r_move ?_
   refine g_do rfl rfl rfl rfl rfl h121 ?_
   refine g_v rfl r_move ?_
   refine g_do rfl rfl rfl rfl rfl h121 ?_
   replace hm := bnd hm
   obtain ⟨b122, hb122, hm⟩ := hm
   refine g_v rfl (r_sat Try.underlying9 rfl rfl hb122) ?_
   refine g_do rfl rfl rfl rfl rfl h121 ?_
   refine g_v rfl (r_neq rfl rfl) ?_
   refine g_v rfl (r_pick1 rfl h121) ?_
   refine g_nil ?_
   refine d_then ?_
   refine c_flat [(0, .string p0), (4, .slice A102 l101.length c103), (5, .int .i64 i104), (16, .bool (decide (b122 ≠ 0)))] ⟨rfl, rfl, rfl, rfl, trivial⟩ (fun u => ?_)
   refine c_sta ⟨w0, M, H, (19, ⟨.slice A102 l101.length c103, 9, 1, l101.length, l101.flatMap (fun x : ByteArray => [Value.string x])⟩) :: R, φ⟩ (fun _ h => h) ?_
   refine c_cond rfl (fun h123 => ?_) (fun h123 => ?_)
   ·
    replace hm := ite_t hm (of_decide_eq_true h123)
    refine c_skip ?_
    refine d_then ?_
    refine c_block ?_
    refine c_seq ?_
    refine c_region ?_
    refine g_v rfl r_move ?_
    refine g_v rfl r_move ?_
    replace hm := bnd hm
    obtain ⟨b124, hb124, hm⟩ := hm
    refine g_v rfl (r_sat Try.underlying9 rfl rfl hb124) ?_
    refine g_v rfl (r_conv Try.underlying5 Try.underlying3 rfl rfl) ?_
    refine g_v rfl r_assign ?_
    refine g_nil ?_
    refine d_then ?_
    refine c_seq ?_
    refine c_seq ?_
    refine c_region ?_
    refine g_v rfl r_move ?_
    refine g_v rfl (r_gtr rfl rfl) ?_
    refine g_v rfl r_move ?_
    refine g_if rfl rfl rfl rfl rfl (fun h125 => ?_) (fun h125 => ?_)
    ·
     replace hm := ite_f hm (of_decide_eq_false h125)
     refine g_v rfl r_move ?_
     refine g_do rfl rfl rfl rfl rfl h125 ?_
     refine g_v rfl (r_add rfl rfl rfl) ?_
     refine g_do rfl rfl rfl rfl rfl h125 ?_
     refine g_v rfl r_move ?_
     refine g_do rfl rfl rfl rfl rfl h125 ?_
     refine g_v rfl (r_add rfl rfl rfl) ?_
     refine g_do rfl rfl rfl rfl rfl h125 ?_
     refine g_v rfl r_move ?_
     refine g_do rfl rfl rfl rfl rfl h125 ?_
     refine g_v rfl (r_len Try.underlying9 rfl) ?_
     refine g_do rfl rfl rfl rfl rfl h125 ?_
     refine g_v rfl (r_gtr rfl rfl) ?_
     refine g_v rfl (r_pick0 rfl h125) ?_
     refine g_nil ?_
     refine d_then ?_
     refine c_flat [(0, .string p0), (4, .slice A102 l101.length c103), (5, .int .i64 i104), (6, .int .i64 (w64 b124)), (31, .bool (decide ((p0.size : Int) < w64 ((w64 (i104 + 1)) + (w64 b124)))))] ⟨rfl, rfl, rfl, rfl, rfl, trivial⟩ (fun u => ?_)
     refine c_sta ⟨w0, M, H, (19, ⟨.slice A102 l101.length c103, 9, 1, l101.length, l101.flatMap (fun x : ByteArray => [Value.string x])⟩) :: R, φ⟩ (fun _ h => h) ?_
     refine c_cond rfl (fun h126 => ?_) (fun h126 => ?_)
     ·
      replace hm := ite_t hm (of_decide_eq_true h126)
      refine c_seq ?_
      refine c_region ?_
      refine g_v rfl r_assign ?_
      refine g_v rfl r_assign ?_
      refine g_nil ?_
      refine d_then ?_
      refine c_ret ?_
      refine d_ret_then ?_
      refine d_ret_block ?_
      refine d_ret_then ?_
      refine d_ret_block ?_
      refine d_ret_then ?_
      refine d_ret_then ?_
      replace hm := nx_out (C := (fun e => Sum.elim (fun e => m_ref03_row_j1 p0 e.1 e.2) (fun x => some x) e = some r)) hm hnx2 hr2
      replace hm : some (([] : List ByteArray), false) = some r := hm
      replace hm := Option.some.inj hm
      subst hm
      refine d_sta _ (fun W h => nilR h 28 9 1) ?_
      refine d_sta _ (fun W h => ok_frontR (t := 28) (t' := 2000) h rfl) ?_
      refine d_retC (none, 0) Try.results67 ?_ (Nat.le_refl 0) (fun W h => (h.dropR (t := 19) rfl).phi (fun W hφ => hφ)) (.inr rfl)
      refine res_tmp ?_
      refine res_tmp ?_
      refine res_nil ?_
      exact rfl
     ·
      replace hm := ite_f hm (of_decide_eq_false h126)
      refine c_skip ?_
      refine d_then ?_
      refine c_seq ?_
      refine c_region ?_
      refine g_v rfl r_move ?_
      refine g_v rfl r_move ?_
      refine g_v rfl r_move ?_
      refine g_v rfl (r_add rfl rfl rfl) ?_
      refine g_v rfl r_move ?_
      refine g_v rfl (r_add rfl rfl rfl) ?_
      refine g_v rfl r_move ?_
      refine g_v rfl (r_add rfl rfl rfl) ?_
      replace hm := bnd hm
      obtain ⟨s127, hs127, hm⟩ := hm
      refine g_v rfl (r_scutMid Try.underlying9 rfl rfl rfl hs127) ?_
      refine g_e rfl (e_lit (tag := 100410) (l := [s127]) (enc := (fun x : ByteArray => [Value.string x])) (sz := 1) rfl Try.underlying44 (lit9_1 _) rfl rfl (fun _ => rfl)) (fun g128 _ => ?_)
      replace hm := bnd hm
      obtain ⟨l129, hl129, hm⟩ := hm
      refine g_e rfl (e_appR (enc := (fun x : ByteArray => [Value.string x])) (l := l101) (l1 := [s127]) (l2 := l129) (tag := 19) Try.underlying44 inf9_2 rfl (by decide) (by decide) (fun _ => rfl) (fun _ => rfl) rfl hc103 rfl rfl (fun W hS => rowCl (tag := 100410) rfl W hS) hl129) (fun ⟨A130, c131⟩ hc131 => ?_)
      refine g_v rfl r_assign ?_
      refine g_nil ?_
      refine d_then ?_
      refine c_flat [(0, .string p0), (4, .slice A130 l129.length c131), (5, .int .i64 i104), (6, .int .i64 (w64 b124))] ⟨rfl, rfl, rfl, rfl, trivial⟩ (fun u => ?_)
      refine c_sta ⟨w0, M, H, (100410, ⟨.slice (some ⟨g128, 0, none⟩) [s127].length 1, 9, 1, [s127].length, [s127].flatMap (fun x : ByteArray => [Value.string x])⟩) :: (19, ⟨.slice A130 l129.length c131, 9, 1, l129.length, l129.flatMap (fun x : ByteArray => [Value.string x])⟩) :: R, φ⟩ (fun _ h => h) ?_
      refine c_region ?_
      refine g_v rfl r_move ?_
      refine g_v rfl (r_add rfl rfl rfl) ?_
      refine g_v rfl r_move ?_
      refine g_v rfl (r_add rfl rfl rfl) ?_
      refine g_v rfl r_assign ?_
      refine g_nil ?_
      refine d_normal_block ?_
      obtain ⟨n132, hn132, hlp⟩ := nx_inl hm hnx2
      exact d_round (n132, l129, w64 ((w64 (i104 + 1)) + (w64 b124)), A130, c131) ⟨hlp, hc131⟩ hn132 ⟨rfl, rfl, rfl, trivial⟩ (fun W h => (h.dropR (t := 100410) rfl).phi (fun W hφ => hφ))
    ·
     replace hm := ite_t hm (of_decide_eq_true h125)
     refine g_no rfl rfl rfl rfl rfl h125 ?_
     refine g_no rfl rfl rfl rfl rfl h125 ?_
     refine g_no rfl rfl rfl rfl rfl h125 ?_
     refine g_no rfl rfl rfl rfl rfl h125 ?_
     refine g_no rfl rfl rfl rfl rfl h125 ?_
     refine g_no rfl rfl rfl rfl rfl h125 ?_
     refine g_v rfl (r_pick1 rfl h125) ?_
     refine g_nil ?_
     refine d_then ?_
     refine c_flat [(0, .string p0), (4, .slice A102 l101.length c103), (5, .int .i64 i104), (6, .int .i64 (w64 b124)), (31, .bool true)] ⟨rfl, rfl, rfl, rfl, rfl, trivial⟩ (fun u => ?_)
     refine c_sta ⟨w0, M, H, (19, ⟨.slice A102 l101.length c103, 9, 1, l101.length, l101.flatMap (fun x : ByteArray => [Value.string x])⟩) :: R, φ⟩ (fun _ h => h) ?_
     refine c_cond1 rfl rfl ?_
     refine c_seq ?_
     refine c_region ?_
     refine g_v rfl r_assign ?_
     refine g_v rfl r_assign ?_
     refine g_nil ?_
     refine d_then ?_
     refine c_ret ?_
     refine d_ret_then ?_
     refine d_ret_block ?_
     refine d_ret_then ?_
     refine d_ret_block ?_
     refine d_ret_then ?_
     refine d_ret_then ?_
     replace hm := nx_out (C := (fun e => Sum.elim (fun e => m_ref03_row_j1 p0 e.1 e.2) (fun x => some x) e = some r)) hm hnx2 hr2
     replace hm : some (([] : List ByteArray), false) = some r := hm
     replace hm := Option.some.inj hm
     subst hm
     refine d_sta _ (fun W h => nilR h 29 9 1) ?_
     refine d_sta _ (fun W h => ok_frontR (t := 29) (t' := 2000) h rfl) ?_
     refine d_retC (none, 0) Try.results67 ?_ (Nat.le_refl 0) (fun W h => (h.dropR (t := 19) rfl).phi (fun W hφ => hφ)) (.inr rfl)
     refine res_tmp ?_
     refine res_tmp ?_
     refine res_nil ?_
     exact rfl
   ·
    replace hm := ite_f hm (of_decide_eq_false h123)
    refine c_exit ?_
    refine d_exit_then ?_
    refine d_exit_then ?_
    refine d_exit_block ?_
    replace hm := nx_out (C := (fun e => Sum.elim (fun e => m_ref03_row_j1 p0 e.1 e.2) (fun x => some x) e = some r)) hm hnx2 hr2
    exact d_round (l101, i104, A102, c103) ⟨hm, hc103⟩ Nat.zero_lt_one ⟨rfl, rfl, rfl, trivial⟩ (fun W h => h.phi (fun W hφ => hφ))
  ·
   replace hm := ite_f hm (of_decide_eq_false h121)
   refine g_no rfl rfl rfl rfl rfl h121 ?_
   refine g_no rfl rfl rfl rfl rfl h121 ?_
   refine g_no rfl rfl rfl rfl rfl h121 ?_
   refine g_v rfl (r_pick0 rfl h121) ?_
   refine g_nil ?_
   refine d_then ?_
   refine c_cond0 rfl rfl ?_
   refine c_exit ?_
   refine d_exit_then ?_
   refine d_exit_then ?_
   refine d_exit_block ?_
   replace hm := nx_out (C := (fun e => Sum.elim (fun e => m_ref03_row_j1 p0 e.1 e.2) (fun x => some x) e = some r)) hm hnx2 hr2
   exact d_round (l101, i104, A102, c103) ⟨hm, hc103⟩ Nat.zero_lt_one ⟨rfl, rfl, rfl, trivial⟩ (fun W h => h.phi (fun W hφ => hφ))
 ·
  unfold m_ref03_row_j1 at hm
  refine d_flat [(0, .string p0), (4, .slice A83 l82.length c84), (5, .int .i64 i85)] ⟨rfl, rfl, rfl, trivial⟩ (fun u => ?_)
  refine d_sta ⟨w0, M, H, (19, ⟨.slice A83 l82.length c84, 9, 1, l82.length, l82.flatMap (fun x : ByteArray => [Value.string x])⟩) :: R, φ⟩ (fun _ h => h) ?_
  refine d_then ?_
  refine c_seq ?_
  refine c_region ?_
  refine g_v rfl r_move ?_
  refine g_v rfl r_move ?_
  refine g_v rfl r_move ?_
  refine g_v rfl (r_len Try.underlying9 rfl) ?_
  refine g_v rfl (r_sub rfl rfl rfl) ?_
  refine g_v rfl (r_eql rfl rfl) ?_
  refine g_v rfl r_assign ?_
  refine g_v rfl r_assign ?_
  refine g_nil ?_
  refine d_then ?_
  refine c_ret ?_
  replace hm := Option.some.inj hm
  subst hm
  refine d_sta _ (fun W h => ok_frontR (t := 19) (t' := 2000) h rfl) ?_
  refine d_retC (A83, c84) Try.results67 ?_ hc84 (fun W h => h.phi (fun W hφ => hφ)) (.inr rfl)
  refine res_tmp ?_
  refine res_tmp ?_
  refine res_nil ?_
  exact rfl

noncomputable def m_ref03_Check (p0 : ByteArray) : Option Int :=
  (m_ref03_row p0).bind fun (z7 : (List ByteArray) × Bool) =>
  if z7.2 = true then
    if 255 < (p0.size : Int) then
      some 11
    else
      some 0
  else
    some 10
theorem c_ref03_Check {w0 : World} {M : Nat → Prop} {H : List (Nat × Nat × Obj)} {R : List (Nat × Row)} {φ : World → Prop} (p0 : ByteArray) (r : Int) (hm : m_ref03_Check p0 = some r) :
    Cn Try.prog 45 #[.string p0] ⟨w0, M, H, R, φ⟩ (fun x : Unit => .int .i64 r) (fun x => True) (fun x => ⟨w0, M, H, R, φ⟩) := by
 unfold m_ref03_Check at hm
 refine cn_intro (fn := Try.f45) (N := 15) Try.func45 rfl Try.ntmps45 rfl ?_
 refine c_seq ?_
 refine c_region ?_
 refine g_v rfl r_assign ?_
 refine g_nil ?_
 refine d_then ?_
 refine c_seq ?_
 refine c_region ?_
 refine g_v rfl r_move ?_
 replace hm := bnd hm
 obtain ⟨⟨x1, x2⟩, hx3, hm⟩ := hm
 refine g_cn ⟨w0, M, _, _, φ⟩ (fun _ h => h) Try.call67 rfl rfl (c_ref03_row p0 _ hx3) (fun ⟨A4, c5⟩ hc5 => ?_)
 refine g_sta _ (fun W h => (ok_frontR (t := 2000) (t' := 100070) h rfl)) ?_
 refine g_v rfl r_move ?_
 refine g_v rfl (r_extract rfl rfl) ?_
 refine g_v rfl (r_extract rfl rfl) ?_
 refine g_v rfl r_assign ?_
 refine g_v rfl r_assign ?_
 refine g_nil ?_
 refine d_then ?_
 refine c_seq ?_
 refine c_seq ?_
 refine c_region ?_
 refine g_v rfl r_move ?_
 refine g_v rfl (r_not rfl) ?_
 refine g_nil ?_
 refine d_then ?_
 refine c_flat [(0, .string p0), (11, .bool (!x2))] ⟨rfl, rfl, trivial⟩ (fun u => ?_)
 refine c_sta ⟨w0, M, H, (100070, ⟨.slice A4 x1.length c5, 9, 1, x1.length, x1.flatMap (fun x : ByteArray => [Value.string x])⟩) :: R, φ⟩ (fun _ h => h) ?_
 refine c_cond rfl (fun h8 => ?_) (fun h8 => ?_)
 ·
  have h8' : x2 = false := by revert h8; cases x2 <;> simp
  replace hm := ite_f hm (bool_nt h8')
  refine c_seq ?_
  refine c_region ?_
  refine g_v rfl r_assign ?_
  refine g_nil ?_
  refine d_then ?_
  refine c_ret ?_
  refine d_ret_then ?_
  replace hm := Option.some.inj hm
  subst hm
  refine d_retC () Try.results45 ?_ trivial (fun W h => ok_pre (H1 := []) (R1 := [_]) h (fun W hφ => hφ)) (.inr rfl)
  refine res_tmp ?_
  refine res_nil ?_
  exact rfl
 ·
  have h8' : x2 = true := by revert h8; cases x2 <;> simp
  replace hm := ite_t hm h8'
  refine c_skip ?_
  refine d_then ?_
  refine c_seq ?_
  refine c_seq ?_
  refine c_region ?_
  refine g_v rfl r_move ?_
  refine g_v rfl (r_len Try.underlying9 rfl) ?_
  refine g_v rfl (r_gtr rfl rfl) ?_
  refine g_nil ?_
  refine d_then ?_
  refine c_cond rfl (fun h9 => ?_) (fun h9 => ?_)
  ·
   replace hm := ite_t hm (of_decide_eq_true h9)
   refine c_seq ?_
   refine c_region ?_
   refine g_v rfl r_assign ?_
   refine g_nil ?_
   refine d_then ?_
   refine c_ret ?_
   refine d_ret_then ?_
   replace hm := Option.some.inj hm
   subst hm
   refine d_retC () Try.results45 ?_ trivial (fun W h => ok_pre (H1 := []) (R1 := [_]) h (fun W hφ => hφ)) (.inr rfl)
   refine res_tmp ?_
   refine res_nil ?_
   exact rfl
  ·
   replace hm := ite_f hm (of_decide_eq_false h9)
   refine c_skip ?_
   refine d_then ?_
   refine c_seq ?_
   refine c_region ?_
   refine g_v rfl r_assign ?_
   refine g_nil ?_
   refine d_then ?_
   refine c_ret ?_
   replace hm := Option.some.inj hm
   subst hm
   refine d_retC () Try.results45 ?_ trivial (fun W h => ok_pre (H1 := []) (R1 := [_]) h (fun W hφ => hφ)) (.inr rfl)
   refine res_tmp ?_
   refine res_nil ?_
   exact rfl

noncomputable def m_ref03_Labels (p0 : ByteArray) : Option ((List ByteArray) × Int) :=
  (m_ref03_Check p0).bind fun x1 =>
  if x1 ≠ 0 then
    some (([] : List ByteArray), x1)
  else
    (m_ref03_row p0).bind fun (z10 : (List ByteArray) × Bool) =>
    some (z10.1, 0)
theorem c_ref03_Labels {w0 : World} {M : Nat → Prop} {H : List (Nat × Nat × Obj)} {R : List (Nat × Row)} {φ : World → Prop} (p0 : ByteArray) (r : (List ByteArray) × Int) (hm : m_ref03_Labels p0 = some r) :
    Cn Try.prog 43 #[.string p0] ⟨w0, M, H, R, φ⟩ (fun x : Option Addr × Nat => .tuple #[.slice x.1 r.1.length x.2, .int .i64 r.2]) (fun x => r.1.length ≤ x.2) (fun x => ⟨w0, M, H, (2000, ⟨.slice x.1 r.1.length x.2, 9, 1, r.1.length, r.1.flatMap (fun x : ByteArray => [Value.string x])⟩) :: R, φ⟩) := by
 unfold m_ref03_Labels at hm
 refine cn_intro (fn := Try.f43) (N := 18) Try.func43 rfl Try.ntmps43 rfl ?_
 refine c_seq ?_
 refine c_region ?_
 refine g_v rfl r_assign ?_
 refine g_v rfl r_assign ?_
 refine g_nil ?_
 refine d_then ?_
 refine c_seq ?_
 refine c_region ?_
 refine g_v rfl r_move ?_
 replace hm := bnd hm
 obtain ⟨x1, hx2, hm⟩ := hm
 refine g_cn ⟨w0, M, _, _, φ⟩ (fun _ h => h) Try.call45 rfl rfl (c_ref03_Check p0 _ hx2) (fun _ _ => ?_)
 refine g_v rfl r_assign ?_
 refine g_nil ?_
 refine d_then ?_
 refine c_seq ?_
 refine c_seq ?_
 refine c_region ?_
 refine g_v rfl r_move ?_
 refine g_v rfl (r_neq rfl rfl) ?_
 refine g_nil ?_
 refine d_then ?_
 refine c_cond rfl (fun h3 => ?_) (fun h3 => ?_)
 ·
  replace hm := ite_t hm (of_decide_eq_true h3)
  refine c_seq ?_
  refine c_region ?_
  refine g_v rfl r_move ?_
  refine g_v rfl r_assign ?_
  refine g_v rfl r_assign ?_
  refine g_nil ?_
  refine d_then ?_
  refine c_flat [(2, .slice none 0 0), (3, .int .i64 x1)] ⟨rfl, rfl, trivial⟩ (fun u => ?_)
  refine c_sta ⟨w0, M, H, R, φ⟩ (fun _ h => h) ?_
  refine c_ret ?_
  refine d_ret_then ?_
  replace hm := Option.some.inj hm
  subst hm
  refine d_sta _ (fun W h => nilR h 11 9 1) ?_
  refine d_sta _ (fun W h => ok_frontR (t := 11) (t' := 2000) h rfl) ?_
  refine d_retC (none, 0) Try.results43 ?_ (Nat.le_refl 0) (fun W h => h.phi (fun W hφ => hφ)) (.inr rfl)
  refine res_tmp ?_
  refine res_tmp ?_
  refine res_nil ?_
  exact rfl
 ·
  replace hm := ite_f hm (of_decide_eq_false h3)
  refine c_skip ?_
  refine d_then ?_
  refine c_seq ?_
  refine c_region ?_
  refine g_v rfl r_move ?_
  replace hm := bnd hm
  obtain ⟨⟨x4, x5⟩, hx6, hm⟩ := hm
  refine g_cn ⟨w0, M, _, _, φ⟩ (fun _ h => h) Try.call67 rfl rfl (c_ref03_row p0 _ hx6) (fun ⟨A7, c8⟩ hc8 => ?_)
  refine g_sta _ (fun W h => (ok_frontR (t := 2000) (t' := 100140) h rfl)) ?_
  refine g_v rfl r_move ?_
  refine g_v rfl (r_extract rfl rfl) ?_
  refine g_v rfl (r_extract rfl rfl) ?_
  refine g_v rfl r_assign ?_
  refine g_v rfl r_assign ?_
  refine g_nil ?_
  refine d_then ?_
  refine c_flat [(5, .slice A7 x4.length c8)] ⟨rfl, trivial⟩ (fun u => ?_)
  refine c_sta ⟨w0, M, H, (100140, ⟨.slice A7 x4.length c8, 9, 1, x4.length, x4.flatMap (fun x : ByteArray => [Value.string x])⟩) :: R, φ⟩ (fun _ h => h) ?_
  refine c_seq ?_
  refine c_region ?_
  refine g_v rfl r_move ?_
  refine g_v rfl r_assign ?_
  refine g_v rfl r_assign ?_
  refine g_nil ?_
  refine d_then ?_
  refine c_ret ?_
  replace hm := Option.some.inj hm
  subst hm
  refine d_sta _ (fun W h => ok_frontR (t := 100140) (t' := 2000) h rfl) ?_
  refine d_retC (A7, c8) Try.results43 ?_ hc8 (fun W h => h.phi (fun W hφ => hφ)) (.inr rfl)
  refine res_tmp ?_
  refine res_tmp ?_
  refine res_nil ?_
  exact rfl

noncomputable def m_ref03_Make_j1  (s98 : ByteArray) : Option (ByteArray × Int) :=
  if 254 < (s98.size : Int) then
    some ((⟨#[]⟩ : ByteArray), 11)
  else
    (sadd s98 (strOfNums [0])).bind fun s101 =>
    some (s101, 0)
noncomputable def m_ref03_Make_s2 (p0 : List ByteArray) (s149 : ByteArray) (i150 : Int) : Option ((ByteArray × Int) ⊕ (ByteArray ⊕ (ByteArray × Int))) :=
  if i150 < (p0.length : Int) then
    (at_ p0 i150).bind fun x200 =>
    if (x200.size : Int) < 1 then
      some (.inr (.inr ((⟨#[]⟩ : ByteArray), 10)))
    else
      (at_ p0 i150).bind fun x205 =>
      if 63 < (x205.size : Int) then
        some (.inr (.inr ((⟨#[]⟩ : ByteArray), 10)))
      else
        if (s149.size : Int) ≤ 255 then
          (at_ p0 i150).bind fun x233 =>
          (at_ p0 i150).bind fun x237 =>
          (sadd s149 (strOfNums [IntKind.u8.wrap (x233.size : Int)])).bind fun s242 =>
          (sadd s242 x237).bind fun s243 =>
          some (.inl (s243, w64 (i150 + 1)))
        else
          some (.inl (s149, w64 (i150 + 1)))
  else
    some (.inr (.inl s149))
noncomputable def m_ref03_Make (p0 : List ByteArray) : Option (ByteArray × Int) :=
  (loop (fun s => m_ref03_Make_s2 p0 s.1 s.2) ((⟨#[]⟩ : ByteArray), 0)).bind fun e => Sum.elim (fun e => m_ref03_Make_j1 e) (fun x => some x) e
theorem c_ref03_Make {w0 : World} {M : Nat → Prop} {H : List (Nat × Nat × Obj)} {R : List (Nat × Row)} {φ : World → Prop} (p0 : List ByteArray) (Ap0_0 : Option Addr) (cp0_0 : Nat) (hcp0_0 : p0.length ≤ cp0_0) (fp0_0 : ∀ W, (Sta.mk w0 M H R φ).ok W → Cl W Ap0_0 (p0.flatMap (fun x : ByteArray => [Value.string x]))) (r : ByteArray × Int) (hm : m_ref03_Make p0 = some r) :
    Cn Try.prog 41 #[.slice Ap0_0 p0.length cp0_0] ⟨w0, M, H, R, φ⟩ (fun x : Unit => .tuple #[.string r.1, .int .i64 r.2]) (fun x => True) (fun x => ⟨w0, M, H, R, φ⟩) := by
 unfold m_ref03_Make at hm
 refine cn_intro (fn := Try.f41) (N := 51) Try.func41 rfl Try.ntmps41 rfl ?_
 refine c_seq ?_
 refine c_region ?_
 refine g_v rfl r_assign ?_
 refine g_v rfl r_assign ?_
 refine g_nil ?_
 refine d_then ?_
 refine c_seq ?_
 refine c_region ?_
 refine g_v rfl r_assign ?_
 refine g_nil ?_
 refine d_then ?_
 refine c_seq ?_
 refine c_seq ?_
 refine c_region ?_
 refine g_v rfl r_assign ?_
 refine g_nil ?_
 refine d_then ?_
 refine c_cut (ι := ByteArray) [4] (fun s98 => [(4, .string s98)]) (fun s98 => ⟨w0, M, H, R, φ⟩) (fun s98 => m_ref03_Make_j1 s98 = some r) ?_ (fun s98 u hm => ?_)
 ·
  refine c_block ?_
  replace hm := bnd hm
  obtain ⟨out2, hl2, hr2⟩ := hm
  obtain ⟨n198', hl2⟩ := loop_lp hl2
  refine c_loopU (ι := Nat × ByteArray × Int) [0, 4, 5] (fun ⟨n198, s149, i150⟩ => [(4, .string s149), (5, .int .i64 i150)]) (fun ⟨n198, s149, i150⟩ => ⟨w0, M, H, R, φ⟩) (fun ⟨n198, s149, i150⟩ => Lp (fun s => m_ref03_Make_s2 p0 s.1 s.2) n198 (s149, i150) out2) (fun ⟨n198, s149, i150⟩ => n198) (n198', (⟨#[]⟩ : ByteArray), 0) hl2 ⟨rfl, rfl, rfl, trivial⟩ (fun W h => h.phi (fun W hφ => hφ)) (fun ⟨n198, s149, i150⟩ u hlp => ?_)
  obtain ⟨o2, hm, hnx2⟩ := lp_step hlp
  clear hlp
  replace hm : m_ref03_Make_s2 p0 s149 i150 = some o2 := hm
  unfold m_ref03_Make_s2 at hm
  refine c_flat [(0, .slice Ap0_0 p0.length cp0_0), (4, .string s149), (5, .int .i64 i150)] ⟨rfl, rfl, rfl, trivial⟩ (fun u => ?_)
  refine c_sta ⟨w0, M, H, R, φ⟩ (fun _ h => h) ?_
  refine c_seq ?_
  refine c_seq ?_
  refine c_region ?_
  refine g_v rfl r_move ?_
  refine g_v rfl r_move ?_
  refine g_v rfl (r_lenL Try.underlying44 rfl) ?_
  refine g_v rfl (r_lss rfl rfl) ?_
  refine g_nil ?_
  refine d_then ?_
  refine c_cond rfl (fun h199 => ?_) (fun h199 => ?_)
  ·
   replace hm := ite_t hm (of_decide_eq_true h199)
   refine c_skip ?_
   refine d_then ?_
   refine c_seq ?_
   refine c_block ?_
   refine c_seq ?_
   refine c_seq ?_
   refine c_region ?_
   refine g_v rfl r_move ?_
   refine g_v rfl r_move ?_
   replace hm := bnd hm
   obtain ⟨x200, hx200, hm⟩ := hm
   refine g_know _ (fun W hS => cl_at (p := (Sta.mk w0 M H R φ).ok) (sz := 1) (fun _ => rfl) (by decide) (ok_pre (H1 := []) (R1 := []) hS (fun W h => h)) fp0_0 hx200) ?_
   rintro ⟨ad201, hA203, f202⟩
   refine g_v rfl (r_ix Try.underlying44 Try.sizeOf9 rfl hA203 rfl hx200) ?_
   refine g_v rfl (r_ld rfl Try.isAgg9 (fun W hS => Cl.head (f202 W (ok_pre (H1 := []) (R1 := []) hS (fun W h => h))))) ?_
   refine g_v rfl (r_len Try.underlying9 rfl) ?_
   refine g_v rfl (r_lss rfl rfl) ?_
   refine g_v rfl r_move ?_
   refine g_if rfl rfl rfl rfl rfl (fun h204 => ?_) (fun h204 => ?_)
   ·
    replace hm := ite_f hm (of_decide_eq_false h204)
    refine g_v rfl r_move ?_
    refine g_do rfl rfl rfl rfl rfl h204 ?_
    refine g_v rfl r_move ?_
    refine g_do rfl rfl rfl rfl rfl h204 ?_
    replace hm := bnd hm
    obtain ⟨x205, hx205, hm⟩ := hm
    refine g_know _ (fun W hS => cl_at (p := (Sta.mk w0 M H R φ).ok) (sz := 1) (fun _ => rfl) (by decide) (ok_pre (H1 := []) (R1 := []) hS (fun W h => h)) fp0_0 hx205) ?_
    rintro ⟨ad206, hA208, f207⟩
    refine g_v rfl (r_ix Try.underlying44 Try.sizeOf9 rfl hA208 rfl hx205) ?_
    refine g_do rfl rfl rfl rfl rfl h204 ?_
    refine g_v rfl (r_ld rfl Try.isAgg9 (fun W hS => Cl.head (f207 W (ok_pre (H1 := []) (R1 := []) hS (fun W h => h))))) ?_
    refine g_do rfl rfl rfl rfl rfl h204 ?_
    refine g_v rfl (r_len Try.underlying9 rfl) ?_
    refine g_do rfl rfl rfl rfl rfl h204 ?_
    refine g_v rfl (r_gtr rfl rfl) ?_
    refine g_v rfl (r_pick0 rfl h204) ?_
    refine g_nil ?_
    refine d_then ?_
    refine c_flat [(0, .slice Ap0_0 p0.length cp0_0), (4, .string s149), (5, .int .i64 i150), (25, .bool (decide (63 < (x205.size : Int))))] ⟨rfl, rfl, rfl, rfl, trivial⟩ (fun u => ?_)
    refine c_sta ⟨w0, M, H, R, φ⟩ (fun _ h => h) ?_
    refine c_cond rfl (fun h209 => ?_) (fun h209 => ?_)
    ·
     replace hm := ite_t hm (of_decide_eq_true h209)
     refine c_seq ?_
     refine c_region ?_
     refine g_v rfl r_assign ?_
     refine g_v rfl r_assign ?_
     refine g_nil ?_
     refine d_then ?_
     refine c_ret ?_
     refine d_ret_then ?_
     refine d_ret_block ?_
     refine d_ret_then ?_
     refine d_ret_then ?_
     refine d_ret_block ?_
     refine d_ret_then ?_
     refine d_ret_then ?_
     replace hm := nx_out (C := (fun e => Sum.elim (fun e => m_ref03_Make_j1 e) (fun x => some x) e = some r)) hm hnx2 hr2
     replace hm : some ((⟨#[]⟩ : ByteArray), 10) = some r := hm
     replace hm := Option.some.inj hm
     subst hm
     refine d_retC () Try.results41 ?_ trivial (fun W h => ok_pre (H1 := []) (R1 := []) h (fun W hφ => hφ)) (.inr rfl)
     refine res_tmp ?_
     refine res_tmp ?_
     refine res_nil ?_
     exact rfl
    ·
     replace hm := ite_f hm (of_decide_eq_false h209)
     refine c_skip ?_
     refine d_then ?_
     refine c_seq ?_
     refine c_region ?_
     refine g_v rfl r_move ?_
     refine g_v rfl (r_len Try.underlying9 rfl) ?_
     refine g_v rfl (r_leq rfl rfl) ?_
     refine g_nil ?_
     refine d_then ?_
     refine c_cond rfl (fun h210 => ?_) (fun h210 => ?_)
     ·
      replace hm := ite_t hm (of_decide_eq_true h210)
      refine ga_start (n := 16) ⟨w0, M, H, R, φ⟩ [] #[false, false, false, false, false, false, false, false, false, false, false, false, false, false, false, false] (fun W h => h.phi (fun W hφ => hφ)) mixed rfl rfl ?_
      refine ga_v (i := 0) #[true, false, false, false, false, false, false, false, false, false, false, false, false, false, false, false] rfl (by kernel_rfl) (fun _ _ _ _ h => h) rfl (r_move) ?_
      refine ga_v (i := 1) #[true, true, false, false, false, false, false, false, false, false, false, false, false, false, false, false] rfl (by kernel_rfl) (fun _ _ _ _ h => h) rfl (r_move) ?_
      refine ga_v (i := 2) #[true, true, true, false, false, false, false, false, false, false, false, false, false, false, false, false] rfl (by kernel_rfl) (fun _ _ _ _ h => h) rfl (r_move) ?_
      replace hm := bnd hm
      obtain ⟨x233, hx233, hm⟩ := hm
      refine ga_know _ (fun W hS => cl_at (p := (Sta.mk w0 M H R φ).ok) (sz := 1) (fun _ => rfl) (by decide) (ok_pre (H1 := []) (R1 := []) hS (fun W h => h)) fp0_0 hx233) ?_
      rintro ⟨ad234, hA236, f235⟩
      refine ga_v (i := 3) #[true, true, true, true, false, false, false, false, false, false, false, false, false, false, false, false] rfl (by kernel_rfl) (fun _ _ _ _ h => h) rfl (r_ix Try.underlying44 Try.sizeOf9 rfl hA236 rfl hx233) ?_
      refine ga_v (i := 4) #[true, true, true, true, true, false, false, false, false, false, false, false, false, false, false, false] rfl (by kernel_rfl) (fun _ _ _ _ h => h) rfl (r_ld rfl Try.isAgg9 (fun W hS => Cl.head (f235 W (ok_pre (H1 := []) (R1 := []) hS (fun W h => h))))) ?_
      refine ga_v (i := 5) #[true, true, true, true, true, true, false, false, false, false, false, false, false, false, false, false] rfl (by kernel_rfl) (fun _ _ _ _ h => h) rfl (r_len Try.underlying9 rfl) ?_
      refine ga_v (i := 6) #[true, true, true, true, true, true, true, false, false, false, false, false, false, false, false, false] rfl (by kernel_rfl) (fun _ _ _ _ h => h) rfl (r_conv Try.underlying3 Try.underlying5 rfl rfl) ?_
      refine ga_v (i := 10) #[true, true, true, true, true, true, true, false, false, false, true, false, false, false, false, false] rfl (by kernel_rfl) (fun _ _ _ _ h => h) rfl (r_move) ?_
      refine ga_v (i := 11) #[true, true, true, true, true, true, true, false, false, false, true, true, false, false, false, false] rfl (by kernel_rfl) (fun _ _ _ _ h => h) rfl (r_move) ?_
      replace hm := bnd hm
      obtain ⟨x237, hx237, hm⟩ := hm
      refine ga_know _ (fun W hS => cl_at (p := (Sta.mk w0 M H R φ).ok) (sz := 1) (fun _ => rfl) (by decide) (ok_pre (H1 := []) (R1 := []) hS (fun W h => h)) fp0_0 hx237) ?_
      rintro ⟨ad238, hA240, f239⟩
      refine ga_v (i := 12) #[true, true, true, true, true, true, true, false, false, false, true, true, true, false, false, false] rfl (by kernel_rfl) (fun _ _ _ _ h => h) rfl (r_ix Try.underlying44 Try.sizeOf9 rfl hA240 rfl hx237) ?_
      refine ga_v (i := 13) #[true, true, true, true, true, true, true, false, false, false, true, true, true, true, false, false] rfl (by kernel_rfl) (fun _ _ _ _ h => h) rfl (r_ld rfl Try.isAgg9 (fun W hS => Cl.head (f239 W (ok_pre (H1 := []) (R1 := []) hS (fun W h => h))))) ?_
      refine ga_e (i := 7) #[true, true, true, true, true, true, true, true, false, false, true, true, true, true, false, false] rfl (by kernel_rfl) (by decide) rfl  (e_lit (tag := 100360) (l := [IntKind.u8.wrap (x233.size : Int)]) (enc := (fun x : Int => [Value.int .u8 x])) (sz := 1) rfl Try.underlying58 (lit5_6 _) rfl rfl (fun _ => rfl)) (fun g241 W _ h => (h.dropR (t := 100360) rfl).phi (fun W hφ => hφ)) (fun g241 _ => ?_)
      refine ga_r (i := 8) #[true, true, true, true, true, true, true, true, true, false, true, true, true, true, false, false] rfl (by kernel_rfl) (by decide) rfl (r_textE Try.underlying58 Try.underlying5 Try.underlying9 rfl (fun W hS => rowCl (tag := 100360) rfl W hS)) ?_
      replace hm := bnd hm
      obtain ⟨s242, hs242, hm⟩ := hm
      refine ga_r (i := 9) #[true, true, true, true, true, true, true, true, true, true, true, true, true, true, false, false] rfl (by kernel_rfl) (by decide) rfl (r_addT rfl rfl hs242) ?_
      replace hm := bnd hm
      obtain ⟨s243, hs243, hm⟩ := hm
      refine ga_r (i := 14) #[true, true, true, true, true, true, true, true, true, true, true, true, true, true, true, false] rfl (by kernel_rfl) (by decide) rfl (r_addT rfl rfl hs243) ?_
      refine ga_r (i := 15) #[true, true, true, true, true, true, true, true, true, true, true, true, true, true, true, true] rfl (by kernel_rfl) (by decide) rfl (r_assign) ?_
      refine ga_done (by kernel_rfl) ?_
      refine d_normal_block ?_
      refine d_then ?_
      refine c_flat [(0, .slice Ap0_0 p0.length cp0_0), (4, .string s243), (5, .int .i64 i150)] ⟨rfl, rfl, rfl, trivial⟩ (fun u => ?_)
      refine c_sta ⟨w0, M, H, (100360, ⟨.slice (some ⟨g241, 0, none⟩) [IntKind.u8.wrap (x233.size : Int)].length 1, 5, 1, [IntKind.u8.wrap (x233.size : Int)].length, [IntKind.u8.wrap (x233.size : Int)].flatMap (fun x : Int => [Value.int .u8 x])⟩) :: R, φ⟩ (fun _ h => h) ?_
      refine c_region ?_
      refine g_v rfl r_move ?_
      refine g_v rfl (r_add rfl rfl rfl) ?_
      refine g_v rfl r_assign ?_
      refine g_nil ?_
      obtain ⟨n244, hn244, hlp⟩ := nx_inl hm hnx2
      exact d_round (n244, s243, w64 (i150 + 1)) hlp hn244 ⟨rfl, rfl, rfl, trivial⟩ (fun W h => (h.dropR (t := 100360) rfl).phi (fun W hφ => hφ))
     ·
      replace hm := ite_f hm (of_decide_eq_false h210)
      refine c_skip ?_
      refine d_normal_block ?_
      refine d_then ?_
      refine c_region ?_
      refine g_v rfl r_move ?_
      refine g_v rfl (r_add rfl rfl rfl) ?_
      refine g_v rfl r_assign ?_
      refine g_nil ?_
      obtain ⟨n245, hn245, hlp⟩ := nx_inl hm hnx2
      exact d_round (n245, s149, w64 (i150 + 1)) hlp hn245 ⟨rfl, rfl, rfl, trivial⟩ (fun W h => h.phi (fun W hφ => hφ))
   ·
    replace hm := ite_t hm (of_decide_eq_true h204)
    refine g_no rfl rfl rfl rfl rfl h204 ?_
    refine g_no rfl rfl rfl rfl rfl h204 ?_
    refine g_no rfl rfl rfl rfl rfl h204 ?_
    refine g_no rfl rfl rfl rfl rfl h204 ?_
    refine g_no rfl rfl rfl rfl rfl h204 ?_
    refine g_v rfl (r_pick1 rfl h204) ?_
    refine g_nil ?_
    refine d_then ?_
    refine c_flat [(0, .slice Ap0_0 p0.length cp0_0), (4, .string s149), (5, .int .i64 i150), (25, .bool true)] ⟨rfl, rfl, rfl, rfl, trivial⟩ (fun u => ?_)
    refine c_sta ⟨w0, M, H, R, φ⟩ (fun _ h => h) ?_
    refine c_cond1 rfl rfl ?_
    refine c_seq ?_
    refine c_region ?_
    refine g_v rfl r_assign ?_
    refine g_v rfl r_assign ?_
    refine g_nil ?_
    refine d_then ?_
    refine c_ret ?_
    refine d_ret_then ?_
    refine d_ret_block ?_
    refine d_ret_then ?_
    refine d_ret_then ?_
    refine d_ret_block ?_
    refine d_ret_then ?_
    refine d_ret_then ?_
    replace hm := nx_out (C := (fun e => Sum.elim (fun e => m_ref03_Make_j1 e) (fun x => some x) e = some r)) hm hnx2 hr2
    replace hm : some ((⟨#[]⟩ : ByteArray), 10) = some r := hm
    replace hm := Option.some.inj hm
    subst hm
    refine d_retC () Try.results41 ?_ trivial (fun W h => ok_pre (H1 := []) (R1 := []) h (fun W hφ => hφ)) (.inr rfl)
    refine res_tmp ?_
    refine res_tmp ?_
    refine res_nil ?_
    exact rfl
  ·
   replace hm := ite_f hm (of_decide_eq_false h199)
   refine c_exit ?_
   refine d_exit_then ?_
   refine d_exit_then ?_
   refine d_exit_block ?_
   replace hm := nx_out (C := (fun e => Sum.elim (fun e => m_ref03_Make_j1 e) (fun x => some x) e = some r)) hm hnx2 hr2
   exact d_round s149 hm Nat.zero_lt_one ⟨rfl, trivial⟩ (fun W h => h.phi (fun W hφ => hφ))
 ·
  unfold m_ref03_Make_j1 at hm
  refine d_flat [(4, .string s98)] ⟨rfl, trivial⟩ (fun u => ?_)
  refine d_sta ⟨w0, M, H, R, φ⟩ (fun _ h => h) ?_
  refine d_then ?_
  refine c_seq ?_
  refine c_seq ?_
  refine c_region ?_
  refine g_v rfl r_move ?_
  refine g_v rfl (r_len Try.underlying9 rfl) ?_
  refine g_v rfl (r_gtr rfl rfl) ?_
  refine g_nil ?_
  refine d_then ?_
  refine c_cond rfl (fun h99 => ?_) (fun h99 => ?_)
  ·
   replace hm := ite_t hm (of_decide_eq_true h99)
   refine c_seq ?_
   refine c_region ?_
   refine g_v rfl r_assign ?_
   refine g_v rfl r_assign ?_
   refine g_nil ?_
   refine d_then ?_
   refine c_ret ?_
   refine d_ret_then ?_
   replace hm := Option.some.inj hm
   subst hm
   refine d_retC () Try.results41 ?_ trivial (fun W h => ok_pre (H1 := []) (R1 := []) h (fun W hφ => hφ)) (.inr rfl)
   refine res_tmp ?_
   refine res_tmp ?_
   refine res_nil ?_
   exact rfl
  ·
   replace hm := ite_f hm (of_decide_eq_false h99)
   refine c_skip ?_
   refine d_then ?_
   refine c_seq ?_
   refine c_region ?_
   refine g_v rfl r_move ?_
   refine g_e rfl (e_lit (tag := 100480) (l := [0]) (enc := (fun x : Int => [Value.int .u8 x])) (sz := 1) rfl Try.underlying58 (lit5_6 _) rfl rfl (fun _ => rfl)) (fun g100 _ => ?_)
   refine g_v rfl (r_textE Try.underlying58 Try.underlying5 Try.underlying9 rfl (fun W hS => rowCl (tag := 100480) rfl W hS)) ?_
   replace hm := bnd hm
   obtain ⟨s101, hs101, hm⟩ := hm
   refine g_v rfl (r_addT rfl rfl hs101) ?_
   refine g_v rfl r_assign ?_
   refine g_v rfl r_assign ?_
   refine g_nil ?_
   refine d_then ?_
   refine c_flat [(2, .string s101), (3, .int .i64 0)] ⟨rfl, rfl, trivial⟩ (fun u => ?_)
   refine c_sta ⟨w0, M, H, (100480, ⟨.slice (some ⟨g100, 0, none⟩) [0].length 1, 5, 1, [0].length, [0].flatMap (fun x : Int => [Value.int .u8 x])⟩) :: R, φ⟩ (fun _ h => h) ?_
   refine c_ret ?_
   replace hm := Option.some.inj hm
   subst hm
   refine d_retC () Try.results41 ?_ trivial (fun W h => ok_pre (H1 := []) (R1 := [_]) h (fun W hφ => hφ)) (.inr rfl)
   refine res_tmp ?_
   refine res_tmp ?_
   refine res_nil ?_
   exact rfl

noncomputable def m_ref04_Packer_find_j1  : Option Int :=
  some (-1)
noncomputable def m_ref04_Packer_find_s2 (o0 : Gref04_Packer) (p1 : ByteArray) (i42 : Int) : Option (Int ⊕ (Unit ⊕ Int)) :=
  if i42 < (o0.fL.length : Int) then
    (at_ o0.fL i42).bind fun x58 =>
    if x58.fName = p1 then
      (at_ o0.fL i42).bind fun x64 =>
      some (.inr (.inr x64.fAt))
    else
      some (.inl (w64 (i42 + 1)))
  else
    some (.inr (.inl ()))
noncomputable def m_ref04_Packer_find (p1 : ByteArray) (o0 : Gref04_Packer) : Option Int :=
  (loop (fun s => m_ref04_Packer_find_s2 o0 p1 s) 0).bind fun e => Sum.elim (fun e => m_ref04_Packer_find_j1) (fun x => some x) e
theorem c_ref04_Packer_find {w0 : World} {M : Nat → Prop} {H : List (Nat × Nat × Obj)} {R : List (Nat × Row)} {φ : World → Prop} (p1 : ByteArray) (go0 : Nat) (o0 : Gref04_Packer) (Ao0_0 : Option Addr) (co0_0 : Nat) (hco0_0 : o0.fL.length ≤ co0_0) (r : Int) (hm : m_ref04_Packer_find p1 o0 = some r) :
    Cn Try.prog 65 #[.pointer (some ⟨go0, 0, none⟩), .string p1] ⟨w0, M, (1000, go0, .cells #[.string o0.fB, .slice Ao0_0 o0.fL.length co0_0] 57 (0, 0)) :: H, (1000, ⟨.slice Ao0_0 o0.fL.length co0_0, 91, 2, o0.fL.length, o0.fL.flatMap Gref04_Place.enc⟩) :: R, φ⟩ (fun x : Unit => .int .i64 r) (fun x => True) (fun x => ⟨w0, M, (1000, go0, .cells #[.string o0.fB, .slice Ao0_0 o0.fL.length co0_0] 57 (0, 0)) :: H, (1000, ⟨.slice Ao0_0 o0.fL.length co0_0, 91, 2, o0.fL.length, o0.fL.flatMap Gref04_Place.enc⟩) :: R, φ⟩) := by
 unfold m_ref04_Packer_find at hm
 refine cn_intro (fn := Try.f65) (N := 33) Try.func65 rfl Try.ntmps65 rfl ?_
 refine c_seq ?_
 refine c_region ?_
 refine g_v rfl r_assign ?_
 refine g_nil ?_
 refine d_then ?_
 refine c_seq ?_
 refine c_seq ?_
 refine c_region ?_
 refine g_v rfl r_assign ?_
 refine g_nil ?_
 refine d_then ?_
 refine c_cut (ι := Unit) [] (fun _ => []) (fun _ => ⟨w0, M, (1000, go0, .cells #[.string o0.fB, .slice Ao0_0 o0.fL.length co0_0] 57 (0, 0)) :: H, (1000, ⟨.slice Ao0_0 o0.fL.length co0_0, 91, 2, o0.fL.length, o0.fL.flatMap Gref04_Place.enc⟩) :: R, φ⟩) (fun _ => m_ref04_Packer_find_j1 = some r) ?_ (fun _ u hm => ?_)
 ·
  refine c_block ?_
  replace hm := bnd hm
  obtain ⟨out2, hl2, hr2⟩ := hm
  obtain ⟨n56', hl2⟩ := loop_lp hl2
  refine c_loopU (ι := Nat × Int) [0, 1, 5] (fun ⟨n56, i42⟩ => [(5, .int .i64 i42)]) (fun ⟨n56, i42⟩ => ⟨w0, M, (1000, go0, .cells #[.string o0.fB, .slice Ao0_0 o0.fL.length co0_0] 57 (0, 0)) :: H, (1000, ⟨.slice Ao0_0 o0.fL.length co0_0, 91, 2, o0.fL.length, o0.fL.flatMap Gref04_Place.enc⟩) :: R, φ⟩) (fun ⟨n56, i42⟩ => Lp (fun s => m_ref04_Packer_find_s2 o0 p1 s) n56 i42 out2) (fun ⟨n56, i42⟩ => n56) (n56', 0) hl2 ⟨rfl, rfl, rfl, trivial⟩ (fun W h => h.phi (fun W hφ => hφ)) (fun ⟨n56, i42⟩ u hlp => ?_)
  obtain ⟨o2, hm, hnx2⟩ := lp_step hlp
  clear hlp
  replace hm : m_ref04_Packer_find_s2 o0 p1 i42 = some o2 := hm
  unfold m_ref04_Packer_find_s2 at hm
  refine c_flat [(0, .pointer (some ⟨go0, 0, none⟩)), (1, .string p1), (5, .int .i64 i42)] ⟨rfl, rfl, rfl, trivial⟩ (fun u => ?_)
  refine c_sta ⟨w0, M, (1000, go0, .cells #[.string o0.fB, .slice Ao0_0 o0.fL.length co0_0] 57 (0, 0)) :: H, (1000, ⟨.slice Ao0_0 o0.fL.length co0_0, 91, 2, o0.fL.length, o0.fL.flatMap Gref04_Place.enc⟩) :: R, φ⟩ (fun _ h => h) ?_
  refine c_seq ?_
  refine c_seq ?_
  refine c_region ?_
  refine g_v rfl r_move ?_
  refine g_v rfl r_move ?_
  refine g_v rfl (r_nilck rfl) ?_
  refine g_v rfl (r_field (n := 1) Try.underlying57 rfl Try.sizeOf55 rfl rfl) ?_
  refine g_v rfl (r_load (tag := 1000) rfl rfl rfl Try.isAgg55) ?_
  refine g_v rfl (r_lenL Try.underlying55 rfl) ?_
  refine g_v rfl (r_lss rfl rfl) ?_
  refine g_nil ?_
  refine d_then ?_
  refine c_cond rfl (fun h57 => ?_) (fun h57 => ?_)
  ·
   replace hm := ite_t hm (of_decide_eq_true h57)
   refine c_skip ?_
   refine d_then ?_
   refine c_seq ?_
   refine c_block ?_
   refine c_seq ?_
   refine c_region ?_
   refine g_v rfl r_move ?_
   refine g_v rfl (r_nilck rfl) ?_
   refine g_v rfl (r_field (n := 1) Try.underlying57 rfl Try.sizeOf55 rfl rfl) ?_
   refine g_v rfl (r_load (tag := 1000) rfl rfl rfl Try.isAgg55) ?_
   refine g_v rfl r_move ?_
   replace hm := bnd hm
   obtain ⟨x58, hx58, hm⟩ := hm
   refine g_know _ (fun W hS => cl_at (p := (Sta.ok ⟨w0, M, (1000, go0, .cells #[.string o0.fB, .slice Ao0_0 o0.fL.length co0_0] 57 (0, 0)) :: H, (1000, ⟨.slice Ao0_0 o0.fL.length co0_0, 91, 2, o0.fL.length, o0.fL.flatMap Gref04_Place.enc⟩) :: R, φ⟩)) (sz := 2) (fun _ => rfl) (by decide) hS (fun W hS => rowCl (S := ⟨w0, M, (1000, go0, .cells #[.string o0.fB, .slice Ao0_0 o0.fL.length co0_0] 57 (0, 0)) :: H, (1000, ⟨.slice Ao0_0 o0.fL.length co0_0, 91, 2, o0.fL.length, o0.fL.flatMap Gref04_Place.enc⟩) :: R, φ⟩) (tag := 1000) rfl W hS) hx58) ?_
   rintro ⟨ad59, hA61, f60⟩
   refine g_v rfl (r_ix Try.underlying55 Try.sizeOf91 rfl hA61 rfl hx58) ?_
   have f62 := fun (W : World) (h : (Sta.ok ⟨w0, M, (1000, go0, .cells #[.string o0.fB, .slice Ao0_0 o0.fL.length co0_0] 57 (0, 0)) :: H, (1000, ⟨.slice Ao0_0 o0.fL.length co0_0, 91, 2, o0.fL.length, o0.fL.flatMap Gref04_Place.enc⟩) :: R, φ⟩) W) => Cl.drop (f60 W h) 0
   refine g_v rfl (r_fieldF Try.underlying91 rfl Try.sizeOf9 rfl) ?_
   refine g_v rfl (r_ld rfl Try.isAgg9 (fun W hS => Cl.head (f62 W hS))) ?_
   refine g_v rfl r_move ?_
   refine g_v rfl (r_eqlT rfl rfl) ?_
   refine g_nil ?_
   refine d_then ?_
   refine c_flat [(0, .pointer (some ⟨go0, 0, none⟩)), (1, .string p1), (5, .int .i64 i42), (24, .bool (decide (x58.fName = p1)))] ⟨rfl, rfl, rfl, rfl, trivial⟩ (fun u => ?_)
   refine c_sta ⟨w0, M, (1000, go0, .cells #[.string o0.fB, .slice Ao0_0 o0.fL.length co0_0] 57 (0, 0)) :: H, (1000, ⟨.slice Ao0_0 o0.fL.length co0_0, 91, 2, o0.fL.length, o0.fL.flatMap Gref04_Place.enc⟩) :: R, φ⟩ (fun _ h => h) ?_
   refine c_cond rfl (fun h63 => ?_) (fun h63 => ?_)
   ·
    replace hm := ite_t hm (of_decide_eq_true h63)
    refine c_seq ?_
    refine c_region ?_
    refine g_v rfl r_move ?_
    refine g_v rfl (r_nilck rfl) ?_
    refine g_v rfl (r_field (n := 1) Try.underlying57 rfl Try.sizeOf55 rfl rfl) ?_
    refine g_v rfl (r_load (tag := 1000) rfl rfl rfl Try.isAgg55) ?_
    refine g_v rfl r_move ?_
    replace hm := bnd hm
    obtain ⟨x64, hx64, hm⟩ := hm
    refine g_know _ (fun W hS => cl_at (p := (Sta.ok ⟨w0, M, (1000, go0, .cells #[.string o0.fB, .slice Ao0_0 o0.fL.length co0_0] 57 (0, 0)) :: H, (1000, ⟨.slice Ao0_0 o0.fL.length co0_0, 91, 2, o0.fL.length, o0.fL.flatMap Gref04_Place.enc⟩) :: R, φ⟩)) (sz := 2) (fun _ => rfl) (by decide) hS (fun W hS => rowCl (S := ⟨w0, M, (1000, go0, .cells #[.string o0.fB, .slice Ao0_0 o0.fL.length co0_0] 57 (0, 0)) :: H, (1000, ⟨.slice Ao0_0 o0.fL.length co0_0, 91, 2, o0.fL.length, o0.fL.flatMap Gref04_Place.enc⟩) :: R, φ⟩) (tag := 1000) rfl W hS) hx64) ?_
    rintro ⟨ad65, hA67, f66⟩
    refine g_v rfl (r_ix Try.underlying55 Try.sizeOf91 rfl hA67 rfl hx64) ?_
    have f68 := fun (W : World) (h : (Sta.ok ⟨w0, M, (1000, go0, .cells #[.string o0.fB, .slice Ao0_0 o0.fL.length co0_0] 57 (0, 0)) :: H, (1000, ⟨.slice Ao0_0 o0.fL.length co0_0, 91, 2, o0.fL.length, o0.fL.flatMap Gref04_Place.enc⟩) :: R, φ⟩) W) => Cl.drop (f66 W h) 1
    refine g_v rfl (r_fieldF Try.underlying91 rfl Try.sizeOf3 rfl) ?_
    refine g_v rfl (r_ld rfl Try.isAgg3 (fun W hS => Cl.head (f68 W hS))) ?_
    refine g_v rfl r_assign ?_
    refine g_nil ?_
    refine d_then ?_
    refine c_flat [(4, .int .i64 x64.fAt)] ⟨rfl, trivial⟩ (fun u => ?_)
    refine c_sta ⟨w0, M, (1000, go0, .cells #[.string o0.fB, .slice Ao0_0 o0.fL.length co0_0] 57 (0, 0)) :: H, (1000, ⟨.slice Ao0_0 o0.fL.length co0_0, 91, 2, o0.fL.length, o0.fL.flatMap Gref04_Place.enc⟩) :: R, φ⟩ (fun _ h => h) ?_
    refine c_ret ?_
    refine d_ret_block ?_
    refine d_ret_then ?_
    refine d_ret_then ?_
    refine d_ret_block ?_
    refine d_ret_then ?_
    refine d_ret_then ?_
    replace hm := nx_out (C := (fun e => Sum.elim (fun e => m_ref04_Packer_find_j1) (fun x => some x) e = some r)) hm hnx2 hr2
    replace hm : some x64.fAt = some r := hm
    replace hm := Option.some.inj hm
    subst hm
    refine d_retC () Try.results65 ?_ trivial (fun W h => h.phi (fun W hφ => hφ)) (.inr rfl)
    refine res_tmp ?_
    refine res_nil ?_
    exact rfl
   ·
    replace hm := ite_f hm (of_decide_eq_false h63)
    refine c_skip ?_
    refine d_normal_block ?_
    refine d_then ?_
    refine c_region ?_
    refine g_v rfl r_move ?_
    refine g_v rfl (r_add rfl rfl rfl) ?_
    refine g_v rfl r_assign ?_
    refine g_nil ?_
    obtain ⟨n69, hn69, hlp⟩ := nx_inl hm hnx2
    exact d_round (n69, w64 (i42 + 1)) hlp hn69 ⟨rfl, rfl, rfl, trivial⟩ (fun W h => h.phi (fun W hφ => hφ))
  ·
   replace hm := ite_f hm (of_decide_eq_false h57)
   refine c_exit ?_
   refine d_exit_then ?_
   refine d_exit_then ?_
   refine d_exit_block ?_
   replace hm := nx_out (C := (fun e => Sum.elim (fun e => m_ref04_Packer_find_j1) (fun x => some x) e = some r)) hm hnx2 hr2
   exact d_round () hm Nat.zero_lt_one trivial (fun W h => h.phi (fun W hφ => hφ))
 ·
  unfold m_ref04_Packer_find_j1 at hm
  refine d_flat [] trivial (fun u => ?_)
  refine d_sta ⟨w0, M, (1000, go0, .cells #[.string o0.fB, .slice Ao0_0 o0.fL.length co0_0] 57 (0, 0)) :: H, (1000, ⟨.slice Ao0_0 o0.fL.length co0_0, 91, 2, o0.fL.length, o0.fL.flatMap Gref04_Place.enc⟩) :: R, φ⟩ (fun _ h => h) ?_
  refine d_then ?_
  refine c_seq ?_
  refine c_region ?_
  refine g_v rfl r_assign ?_
  refine g_nil ?_
  refine d_then ?_
  refine c_ret ?_
  replace hm := Option.some.inj hm
  subst hm
  refine d_retC () Try.results65 ?_ trivial (fun W h => h.phi (fun W hφ => hφ)) (.inr rfl)
  refine res_tmp ?_
  refine res_nil ?_
  exact rfl

theorem bld91_9 (z0 : ByteArray) (z1 : Int) : ∀ W, (Instr.build 91 #[(0, .string z0), (1, .int .i64 z1)]).run Try.prog W = .ok (.agg #[.string z0, .int .i64 z1]) W := fun _ => by kernel_rfl
theorem lit91_10 (z0 : ByteArray) (z1 : Int) : Try.prog.builtSlice 91 1 [(0, .agg #[.string z0, .int .i64 z1])] = some #[.string z0, .int .i64 z1] := by kernel_rfl
theorem inf91_11  : (Try.prog.info? 91).map (fun i => (i.zero, i.size, i.bytes)) = some (some (.agg #[.string (⟨#[]⟩ : ByteArray), .int .i64 0]), 2, 24) := by kernel_rfl
noncomputable def m_ref04_Packer_Name_j1  (l153 : List Gref04_Place) (s156 : ByteArray) : Option (Int × Gref04_Packer) :=
  (m_ref04_Packer_Number 0 1 (⟨s156, l153⟩ : Gref04_Packer)).bind fun x157 =>
  some (0, x157)
noncomputable def m_ref04_Packer_Name_j4 (l233 : List ByteArray) (i237 : Int) (s238 : ByteArray) (l337 : List Gref04_Place) : Option (((List Gref04_Place) × (List ByteArray) × Int × ByteArray) ⊕ (((List Gref04_Place) × ByteArray) ⊕ (Int × Gref04_Packer))) :=
  (at_ l233 i237).bind fun x340 =>
  (m_ref04_Packer_Number (x340.size : Int) 1 (⟨s238, l337⟩ : Gref04_Packer)).bind fun x344 =>
  (at_ l233 i237).bind fun x359 =>
  (sadd x344.fB x359).bind fun s363 =>
  some (.inl (x344.fL, l233, w64 (i237 + 1), s363))
noncomputable def m_ref04_Packer_Name_j3 (x314 : Int) (s238 : ByteArray) (l230 : List Gref04_Place) (x310 : ByteArray) (l233 : List ByteArray) (i237 : Int) : Option (((List Gref04_Place) × (List ByteArray) × Int × ByteArray) ⊕ (((List Gref04_Place) × ByteArray) ⊕ (Int × Gref04_Packer))) :=
  if x314 < 0 then
    if (s238.size : Int) < 16384 then
      (app 24 l230 [(⟨x310, (s238.size : Int)⟩ : Gref04_Place)]).bind fun l376 =>
      m_ref04_Packer_Name_j4 l233 i237 s238 l376
    else
      m_ref04_Packer_Name_j4 l233 i237 s238 l230
  else
    m_ref04_Packer_Name_j4 l233 i237 s238 l230
noncomputable def m_ref04_Packer_Name_s2 (p2 : Bool) (l230 : List Gref04_Place) (l233 : List ByteArray) (i237 : Int) (s238 : ByteArray) : Option (((List Gref04_Place) × (List ByteArray) × Int × ByteArray) ⊕ (((List Gref04_Place) × ByteArray) ⊕ (Int × Gref04_Packer))) :=
  if i237 < (l233.length : Int) then
    (cutLo l233 i237).bind fun l309 =>
    (m_ref03_Make l309).bind fun (z313 : ByteArray × Int) =>
    (m_ref04_Packer_find z313.1 (⟨s238, l230⟩ : Gref04_Packer)).bind fun x314 =>
    if p2 = true then
      if 0 ≤ x314 then
        (m_ref04_Packer_Number (w64 (49152 + x314)) 2 (⟨s238, l230⟩ : Gref04_Packer)).bind fun x381 =>
        some (.inr (.inr (0, x381)))
      else
        m_ref04_Packer_Name_j3 x314 s238 l230 z313.1 l233 i237
    else
      m_ref04_Packer_Name_j3 x314 s238 l230 z313.1 l233 i237
  else
    some (.inr (.inl (l230, s238)))
noncomputable def m_ref04_Packer_Name (p1 : ByteArray) (p2 : Bool) (o0 : Gref04_Packer) : Option (Int × Gref04_Packer) :=
  (m_ref03_Labels p1).bind fun (z7 : (List ByteArray) × Int) =>
  if z7.2 ≠ 0 then
    some (z7.2, o0)
  else
    (loop (fun s => m_ref04_Packer_Name_s2 p2 s.1 s.2.1 s.2.2.1 s.2.2.2) (o0.fL, z7.1, 0, o0.fB)).bind fun e => Sum.elim (fun e => m_ref04_Packer_Name_j1 e.1 e.2) (fun x => some x) e
theorem c_ref04_Packer_Name {w0 : World} {M : Nat → Prop} {H : List (Nat × Nat × Obj)} {R : List (Nat × Row)} {φ : World → Prop} (p1 : ByteArray) (p2 : Bool) (go0 : Nat) (o0 : Gref04_Packer) (Ao0_0 : Option Addr) (co0_0 : Nat) (hco0_0 : o0.fL.length ≤ co0_0) (r : Int × Gref04_Packer) (hm : m_ref04_Packer_Name p1 p2 o0 = some r) :
    Cn Try.prog 36 #[.pointer (some ⟨go0, 0, none⟩), .string p1, .bool p2] ⟨w0, M, (1000, go0, .cells #[.string o0.fB, .slice Ao0_0 o0.fL.length co0_0] 57 (0, 0)) :: H, (1000, ⟨.slice Ao0_0 o0.fL.length co0_0, 91, 2, o0.fL.length, o0.fL.flatMap Gref04_Place.enc⟩) :: R, φ⟩ (fun x : Option Addr × Nat => .int .i64 r.1) (fun x => r.2.fL.length ≤ x.2) (fun x => ⟨w0, M, (1000, go0, .cells #[.string r.2.fB, .slice x.1 r.2.fL.length x.2] 57 (0, 0)) :: H, (2000, ⟨.slice x.1 r.2.fL.length x.2, 91, 2, r.2.fL.length, r.2.fL.flatMap Gref04_Place.enc⟩) :: R, φ⟩) := by
 unfold m_ref04_Packer_Name at hm
 refine cn_intro (fn := Try.f36) (N := 93) Try.func36 rfl Try.ntmps36 rfl ?_
 refine c_seq ?_
 refine c_region ?_
 refine g_v rfl r_assign ?_
 refine g_nil ?_
 refine d_then ?_
 refine c_seq ?_
 refine c_region ?_
 refine g_v rfl r_move ?_
 replace hm := bnd hm
 obtain ⟨⟨x1, x2⟩, hx3, hm⟩ := hm
 refine g_cn ⟨w0, M, _, _, φ⟩ (fun _ h => h) Try.call43 rfl rfl (c_ref03_Labels p1 _ hx3) (fun ⟨A4, c5⟩ hc5 => ?_)
 refine g_sta _ (fun W h => (ok_frontR (t := 2000) (t' := 100150) h rfl)) ?_
 refine g_v rfl r_move ?_
 refine g_v rfl (r_extract rfl rfl) ?_
 refine g_v rfl (r_extract rfl rfl) ?_
 refine g_v rfl r_assign ?_
 refine g_v rfl r_assign ?_
 refine g_nil ?_
 refine d_then ?_
 refine c_seq ?_
 refine c_seq ?_
 refine c_region ?_
 refine g_v rfl r_move ?_
 refine g_v rfl (r_neq rfl rfl) ?_
 refine g_nil ?_
 refine d_then ?_
 refine c_flat [(0, .pointer (some ⟨go0, 0, none⟩)), (2, .bool p2), (7, .slice A4 x1.length c5), (8, .int .i64 x2), (19, .bool (decide (x2 ≠ 0)))] ⟨rfl, rfl, rfl, rfl, rfl, trivial⟩ (fun u => ?_)
 refine c_sta ⟨w0, M, (1000, go0, .cells #[.string o0.fB, .slice Ao0_0 o0.fL.length co0_0] 57 (0, 0)) :: H, (100150, ⟨.slice A4 x1.length c5, 9, 1, x1.length, x1.flatMap (fun x : ByteArray => [Value.string x])⟩) :: (1000, ⟨.slice Ao0_0 o0.fL.length co0_0, 91, 2, o0.fL.length, o0.fL.flatMap Gref04_Place.enc⟩) :: R, φ⟩ (fun _ h => h) ?_
 refine c_cond rfl (fun h8 => ?_) (fun h8 => ?_)
 ·
  replace hm := ite_t hm (of_decide_eq_true h8)
  refine c_seq ?_
  refine c_region ?_
  refine g_v rfl r_move ?_
  refine g_v rfl r_assign ?_
  refine g_nil ?_
  refine d_then ?_
  refine c_ret ?_
  refine d_ret_then ?_
  replace hm := Option.some.inj hm
  subst hm
  refine d_sta _ (fun W h => ok_frontR (t := 1000) (t' := 2000) h rfl) ?_
  refine d_retC (Ao0_0, co0_0) Try.results36 ?_ hco0_0 (fun W h => (h.dropR (t := 100150) rfl).phi (fun W hφ => hφ)) (.inr rfl)
  refine res_tmp ?_
  refine res_nil ?_
  exact rfl
 ·
  replace hm := ite_f hm (of_decide_eq_false h8)
  refine c_skip ?_
  refine d_then ?_
  refine c_seq ?_
  refine c_seq ?_
  refine c_region ?_
  refine g_v rfl r_assign ?_
  refine g_nil ?_
  refine d_then ?_
  refine c_cut (ι := (List Gref04_Place) × ByteArray × Option Addr × Nat) [0] (fun ⟨l153, s156, A154, c155⟩ => []) (fun ⟨l153, s156, A154, c155⟩ => ⟨w0, M, (1000, go0, .cells #[.string s156, .slice A154 l153.length c155] 57 (0, 0)) :: H, (1000, ⟨.slice A154 l153.length c155, 91, 2, l153.length, l153.flatMap Gref04_Place.enc⟩) :: R, φ⟩) (fun ⟨l153, s156, A154, c155⟩ => m_ref04_Packer_Name_j1 l153 s156 = some r ∧ l153.length ≤ c155) ?_ (fun ⟨l153, s156, A154, c155⟩ u ⟨hm, hc155⟩ => ?_)
  ·
   refine c_block ?_
   refine c_shut (tag := 100150) rfl (fun φ386 q386' => ?_)
   have q386 : ∀ W, φ386 W → φ W := fun W h => (q386' W h).1
   have f387 := fun (W : World) (h : φ386 W) => (q386' W h).2
   replace hm := bnd hm
   obtain ⟨out2, hl2, hr2⟩ := hm
   obtain ⟨n305', hl2⟩ := loop_lp hl2
   refine c_loopU (ι := Nat × (List Gref04_Place) × (List ByteArray) × Int × ByteArray × Option Addr × Nat × Option Addr × Nat) [0, 2, 7, 9] (fun ⟨n305, l230, l233, i237, s238, A231, c232, A234, c235⟩ => [(7, .slice A234 l233.length c235), (9, .int .i64 i237)]) (fun ⟨n305, l230, l233, i237, s238, A231, c232, A234, c235⟩ => ⟨w0, M, (1000, go0, .cells #[.string s238, .slice A231 l230.length c232] 57 (0, 0)) :: H, (1000, ⟨.slice A231 l230.length c232, 91, 2, l230.length, l230.flatMap Gref04_Place.enc⟩) :: R, fun W => φ W ∧ Cl W A234 (l233.flatMap (fun x : ByteArray => [Value.string x]))⟩) (fun ⟨n305, l230, l233, i237, s238, A231, c232, A234, c235⟩ => Lp (fun s => m_ref04_Packer_Name_s2 p2 s.1 s.2.1 s.2.2.1 s.2.2.2) n305 (l230, l233, i237, s238) out2 ∧ l230.length ≤ c232 ∧ l233.length ≤ c235) (fun ⟨n305, l230, l233, i237, s238, A231, c232, A234, c235⟩ => n305) (n305', o0.fL, x1, 0, o0.fB, Ao0_0, co0_0, A4, c5) ⟨hl2, hco0_0, hc5⟩ ⟨rfl, rfl, rfl, rfl, trivial⟩ (fun W h => h.phi (fun W hφ => ⟨(q386 _ hφ), (fun W h => f387 W h) W hφ⟩)) (fun ⟨n305, l230, l233, i237, s238, A231, c232, A234, c235⟩ u ⟨hlp, hc232, hc235⟩ => ?_)
   obtain ⟨o2, hm, hnx2⟩ := lp_step hlp
   clear hlp
   replace hm : m_ref04_Packer_Name_s2 p2 l230 l233 i237 s238 = some o2 := hm
   unfold m_ref04_Packer_Name_s2 at hm
   refine c_abs (fun φ306 q306' => ?_)
   have q306 : ∀ W, φ306 W → φ W := fun W h => (q306' W h).1
   have f236 := fun (W : World) (h : φ306 W) => (q306' W h).2
   refine c_flat [(0, .pointer (some ⟨go0, 0, none⟩)), (2, .bool p2), (7, .slice A234 l233.length c235), (9, .int .i64 i237)] ⟨rfl, rfl, rfl, rfl, trivial⟩ (fun u => ?_)
   refine c_sta ⟨w0, M, (1000, go0, .cells #[.string s238, .slice A231 l230.length c232] 57 (0, 0)) :: H, (1000, ⟨.slice A231 l230.length c232, 91, 2, l230.length, l230.flatMap Gref04_Place.enc⟩) :: R, φ306⟩ (fun _ h => h) ?_
   refine c_seq ?_
   refine c_seq ?_
   refine c_region ?_
   refine g_v rfl r_move ?_
   refine g_v rfl r_move ?_
   refine g_v rfl (r_lenL Try.underlying44 rfl) ?_
   refine g_v rfl (r_lss rfl rfl) ?_
   refine g_nil ?_
   refine d_then ?_
   refine c_cond rfl (fun h307 => ?_) (fun h307 => ?_)
   ·
    replace hm := ite_t hm (of_decide_eq_true h307)
    refine c_skip ?_
    refine d_then ?_
    refine c_seq ?_
    refine c_block ?_
    refine c_seq ?_
    refine c_region ?_
    refine g_v rfl r_move ?_
    refine g_v rfl r_move ?_
    replace hm := bnd hm
    obtain ⟨l309, hl309, hm⟩ := hm
    have f308 := fun (W : World) (h : φ306 W) => cl_cutLo (enc := (fun x : ByteArray => [Value.string x])) (sz := 1) (c := c235) (fun _ => rfl) hc235 hl309 (f236 W h)
    refine g_v rfl (r_lcutLo Try.underlying44 Try.sizeOf9 rfl hc235 rfl hl309) ?_
    replace hm := bnd hm
    obtain ⟨⟨x310, x311⟩, hx312, hm⟩ := hm
    refine g_cn ⟨w0, M, _, _, φ306⟩ (fun _ h => h) Try.call41 rfl rfl (c_ref03_Make l309 (if c235 = (i237).toNat then A234 else A234.map (·.add ((i237).toNat * 1))) (c235 - (i237).toNat) (cutLo_len hc235 hl309) (fun W hS => f308 W hS.now) _ hx312) (fun _ _ => ?_)
    refine g_v rfl r_move ?_
    refine g_v rfl (r_extract rfl rfl) ?_
    refine g_v rfl (r_extract rfl rfl) ?_
    refine g_v rfl r_assign ?_
    refine g_v rfl r_assign ?_
    refine g_nil ?_
    refine d_then ?_
    refine c_flat [(0, .pointer (some ⟨go0, 0, none⟩)), (2, .bool p2), (7, .slice A234 l233.length c235), (9, .int .i64 i237), (10, .string x310)] ⟨rfl, rfl, rfl, rfl, rfl, trivial⟩ (fun u => ?_)
    refine c_sta ⟨w0, M, (1000, go0, .cells #[.string s238, .slice A231 l230.length c232] 57 (0, 0)) :: H, (1000, ⟨.slice A231 l230.length c232, 91, 2, l230.length, l230.flatMap Gref04_Place.enc⟩) :: R, φ306⟩ (fun _ h => h) ?_
    refine c_seq ?_
    refine c_region ?_
    refine g_v rfl r_move ?_
    refine g_v rfl r_move ?_
    replace hm := bnd hm
    obtain ⟨x314, hx315, hm⟩ := hm
    refine g_cn ⟨w0, M, (1000, go0, .cells #[.string s238, .slice A231 l230.length c232] 57 (0, 0)) :: H, (1000, ⟨.slice A231 l230.length c232, 91, 2, l230.length, l230.flatMap Gref04_Place.enc⟩) :: R, φ306⟩ (fun W h => (ok_front (t := 1000) (t' := 1000) (ok_frontR (t := 1000) (t' := 1000) h rfl) rfl)) Try.call65 rfl rfl (c_ref04_Packer_find x310 go0 (⟨s238, l230⟩ : Gref04_Packer) A231 c232 hc232 _ hx315) (fun _ _ => ?_)
    refine g_sta _ (fun W h => (ok_frontR (t := 1000) (t' := 1000) (ok_front (t := 1000) (t' := 1000) h rfl) rfl)) ?_
    refine g_v rfl r_assign ?_
    refine g_nil ?_
    refine d_then ?_
    refine c_seq ?_
    refine c_cut (ι := Unit) [0, 2, 7, 9, 10, 12] (fun _ => []) (fun _ => ⟨w0, M, (1000, go0, .cells #[.string s238, .slice A231 l230.length c232] 57 (0, 0)) :: H, (1000, ⟨.slice A231 l230.length c232, 91, 2, l230.length, l230.flatMap Gref04_Place.enc⟩) :: R, φ306⟩) (fun _ => m_ref04_Packer_Name_j3 x314 s238 l230 x310 l233 i237 = some o2) ?_ (fun _ u hm => ?_)
    ·
     refine c_seq ?_
     refine c_region ?_
     refine g_v rfl r_move ?_
     refine g_v rfl r_move ?_
     refine g_if rfl rfl rfl rfl rfl (fun h379 => ?_) (fun h379 => ?_)
     ·
      replace hm := ite_t hm h379
      refine g_v rfl r_move ?_
      refine g_do rfl rfl rfl rfl rfl h379 ?_
      refine g_v rfl (r_geq rfl rfl) ?_
      refine g_v rfl (r_pick1 rfl h379) ?_
      refine g_nil ?_
      refine d_then ?_
      refine c_flat [(0, .pointer (some ⟨go0, 0, none⟩)), (2, .bool p2), (7, .slice A234 l233.length c235), (9, .int .i64 i237), (10, .string x310), (12, .int .i64 x314), (41, .bool (decide (0 ≤ x314)))] ⟨rfl, rfl, rfl, rfl, rfl, rfl, rfl, trivial⟩ (fun u => ?_)
      refine c_sta ⟨w0, M, (1000, go0, .cells #[.string s238, .slice A231 l230.length c232] 57 (0, 0)) :: H, (1000, ⟨.slice A231 l230.length c232, 91, 2, l230.length, l230.flatMap Gref04_Place.enc⟩) :: R, φ306⟩ (fun _ h => h) ?_
      refine c_cond rfl (fun h380 => ?_) (fun h380 => ?_)
      ·
       replace hm := ite_t hm (of_decide_eq_true h380)
       refine c_seq ?_
       refine c_region ?_
       refine g_v rfl r_move ?_
       refine g_v rfl r_move ?_
       refine g_v rfl (r_add rfl rfl rfl) ?_
       replace hm := bnd hm
       obtain ⟨x381, hx382, hm⟩ := hm
       refine g_cn ⟨w0, M, (1000, go0, .cells #[.string s238, .slice A231 l230.length c232] 57 (0, 0)) :: H, (1000, ⟨.slice A231 l230.length c232, 91, 2, l230.length, l230.flatMap Gref04_Place.enc⟩) :: R, φ306⟩ (fun W h => (ok_front (t := 1000) (t' := 1000) (ok_frontR (t := 1000) (t' := 1000) h rfl) rfl)) Try.call32 rfl rfl (c_ref04_Packer_Number (w64 (49152 + x314)) 2 go0 (⟨s238, l230⟩ : Gref04_Packer) A231 c232 hc232 _ hx382) (fun ⟨A383, c384⟩ hc384 => ?_)
       refine g_sta _ (fun W h => (ok_frontR (t := 2000) (t' := 1000) (ok_front (t := 1000) (t' := 1000) h rfl) rfl)) ?_
       refine g_nil ?_
       refine d_then ?_
       refine c_seq ?_
       refine c_region ?_
       refine g_v rfl r_assign ?_
       refine g_nil ?_
       refine d_then ?_
       refine c_ret ?_
       refine d_ret_then ?_
       refine d_ret_then ?_
       refine d_ret_block ?_
       refine d_ret_then ?_
       refine d_ret_then ?_
       refine d_ret_block ?_
       refine d_ret_then ?_
       refine d_ret_then ?_
       replace hm := nx_out (C := (fun e => Sum.elim (fun e => m_ref04_Packer_Name_j1 e.1 e.2) (fun x => some x) e = some r)) hm hnx2 hr2
       replace hm : some (0, x381) = some r := hm
       replace hm := Option.some.inj hm
       subst hm
       refine d_sta _ (fun W h => ok_frontR (t := 1000) (t' := 2000) h rfl) ?_
       refine d_retC (A383, c384) Try.results36 ?_ hc384 (fun W h => h.phi (fun W hφ => (q306 _ hφ))) (.inr rfl)
       refine res_tmp ?_
       refine res_nil ?_
       exact rfl
      ·
       replace hm := ite_f hm (of_decide_eq_false h380)
       refine c_skip ?_
       exact d_round () hm Nat.zero_lt_one ⟨rfl, rfl, rfl, rfl, rfl, rfl, trivial⟩ (fun W h => h.phi (fun W hφ => hφ))
     ·
      replace hm := ite_f hm (bool_nt h379)
      refine g_no rfl rfl rfl rfl rfl h379 ?_
      refine g_v rfl (r_pick0 rfl h379) ?_
      refine g_nil ?_
      refine d_then ?_
      refine c_cond0 rfl rfl ?_
      refine c_skip ?_
      exact d_round () hm Nat.zero_lt_one ⟨rfl, rfl, rfl, rfl, rfl, rfl, trivial⟩ (fun W h => h.phi (fun W hφ => hφ))
    ·
     unfold m_ref04_Packer_Name_j3 at hm
     refine d_flat [(0, .pointer (some ⟨go0, 0, none⟩)), (2, .bool p2), (7, .slice A234 l233.length c235), (9, .int .i64 i237), (10, .string x310), (12, .int .i64 x314)] ⟨rfl, rfl, rfl, rfl, rfl, rfl, trivial⟩ (fun u => ?_)
     refine d_sta ⟨w0, M, (1000, go0, .cells #[.string s238, .slice A231 l230.length c232] 57 (0, 0)) :: H, (1000, ⟨.slice A231 l230.length c232, 91, 2, l230.length, l230.flatMap Gref04_Place.enc⟩) :: R, φ306⟩ (fun _ h => h) ?_
     refine d_then ?_
     refine c_seq ?_
     refine c_cut (ι := (List Gref04_Place) × Option Addr × Nat) [0, 2, 7, 9] (fun ⟨l337, A338, c339⟩ => []) (fun ⟨l337, A338, c339⟩ => ⟨w0, M, (1000, go0, .cells #[.string s238, .slice A338 l337.length c339] 57 (0, 0)) :: H, (1000, ⟨.slice A338 l337.length c339, 91, 2, l337.length, l337.flatMap Gref04_Place.enc⟩) :: R, φ306⟩) (fun ⟨l337, A338, c339⟩ => m_ref04_Packer_Name_j4 l233 i237 s238 l337 = some o2 ∧ l337.length ≤ c339) ?_ (fun ⟨l337, A338, c339⟩ u ⟨hm, hc339⟩ => ?_)
     ·
      refine c_seq ?_
      refine c_region ?_
      refine g_v rfl r_move ?_
      refine g_v rfl (r_lss rfl rfl) ?_
      refine g_v rfl r_move ?_
      refine g_if rfl rfl rfl rfl rfl (fun h365 => ?_) (fun h365 => ?_)
      ·
       replace hm := ite_t hm (of_decide_eq_true h365)
       refine g_v rfl r_move ?_
       refine g_do rfl rfl rfl rfl rfl h365 ?_
       refine g_v rfl (r_nilck rfl) ?_
       refine g_do rfl rfl rfl rfl rfl h365 ?_
       refine g_v rfl (r_field (n := 0) Try.underlying57 rfl Try.sizeOf9 rfl rfl) ?_
       refine g_do rfl rfl rfl rfl rfl h365 ?_
       refine g_v rfl (r_load (tag := 1000) rfl rfl rfl Try.isAgg9) ?_
       refine g_do rfl rfl rfl rfl rfl h365 ?_
       refine g_v rfl (r_len Try.underlying9 rfl) ?_
       refine g_do rfl rfl rfl rfl rfl h365 ?_
       refine g_v rfl (r_lss rfl rfl) ?_
       refine g_v rfl (r_pick1 rfl h365) ?_
       refine g_nil ?_
       refine d_then ?_
       refine c_flat [(0, .pointer (some ⟨go0, 0, none⟩)), (2, .bool p2), (7, .slice A234 l233.length c235), (9, .int .i64 i237), (10, .string x310), (55, .bool (decide ((s238.size : Int) < 16384)))] ⟨rfl, rfl, rfl, rfl, rfl, rfl, trivial⟩ (fun u => ?_)
       refine c_sta ⟨w0, M, (1000, go0, .cells #[.string s238, .slice A231 l230.length c232] 57 (0, 0)) :: H, (1000, ⟨.slice A231 l230.length c232, 91, 2, l230.length, l230.flatMap Gref04_Place.enc⟩) :: R, φ306⟩ (fun _ h => h) ?_
       refine c_cond rfl (fun h366 => ?_) (fun h366 => ?_)
       ·
        replace hm := ite_t hm (of_decide_eq_true h366)
        refine ga_start (n := 17) ⟨w0, M, (1000, go0, .cells #[.string s238, .slice A231 l230.length c232] 57 (0, 0)) :: H, R, φ306⟩ [16] #[false, false, false, false, false, false, false, false, false, false, false, false, false, false, false, false, false] (fun W h => (h.dropR (t := 1000) rfl).phi (fun W hφ => hφ)) mixed rfl rfl ?_
        refine ga_v (i := 0) #[true, false, false, false, false, false, false, false, false, false, false, false, false, false, false, false, false] rfl (by kernel_rfl) (fun _ _ _ _ h => h) rfl (r_move) ?_
        refine ga_v (i := 1) #[true, true, false, false, false, false, false, false, false, false, false, false, false, false, false, false, false] rfl (by kernel_rfl) (fun _ _ _ _ h => h) rfl (r_move) ?_
        refine ga_v (i := 2) #[true, true, true, false, false, false, false, false, false, false, false, false, false, false, false, false, false] rfl (by kernel_rfl) (fun _ _ _ _ h => h) rfl (r_nilck rfl) ?_
        refine ga_v (i := 3) #[true, true, true, true, false, false, false, false, false, false, false, false, false, false, false, false, false] rfl (by kernel_rfl) (fun _ _ _ _ h => h) rfl (r_field (n := 1) Try.underlying57 rfl Try.sizeOf55 rfl rfl) ?_
        refine ga_v (i := 4) #[true, true, true, true, true, false, false, false, false, false, false, false, false, false, false, false, false] rfl (by kernel_rfl) (fun _ _ _ _ h => h) rfl (r_load (tag := 1000) rfl rfl rfl Try.isAgg55) ?_
        refine ga_v (i := 5) #[true, true, true, true, true, true, false, false, false, false, false, false, false, false, false, false, false] rfl (by kernel_rfl) (fun _ _ _ _ h => h) rfl (r_move) ?_
        refine ga_r (i := 6) #[true, true, true, true, true, true, true, false, false, false, false, false, false, false, false, false, false] rfl (by kernel_rfl) (by decide) rfl (r_move) ?_
        refine ga_r (i := 7) #[true, true, true, true, true, true, true, true, false, false, false, false, false, false, false, false, false] rfl (by kernel_rfl) (by decide) rfl (r_nilck rfl) ?_
        refine ga_r (i := 8) #[true, true, true, true, true, true, true, true, true, false, false, false, false, false, false, false, false] rfl (by kernel_rfl) (by decide) rfl (r_field (n := 0) Try.underlying57 rfl Try.sizeOf9 rfl rfl) ?_
        refine ga_r (i := 9) #[true, true, true, true, true, true, true, true, true, true, false, false, false, false, false, false, false] rfl (by kernel_rfl) (by decide) rfl (r_load (tag := 1000) rfl rfl rfl Try.isAgg9) ?_
        refine ga_r (i := 10) #[true, true, true, true, true, true, true, true, true, true, true, false, false, false, false, false, false] rfl (by kernel_rfl) (by decide) rfl (r_len Try.underlying9 rfl) ?_
        refine ga_r (i := 11) #[true, true, true, true, true, true, true, true, true, true, true, true, false, false, false, false, false] rfl (by kernel_rfl) (by decide) rfl (r_build _ rfl (bld91_9 _ _)) ?_
        refine ga_e (i := 12) #[true, true, true, true, true, true, true, true, true, true, true, true, true, false, false, false, false] rfl (by kernel_rfl) (by decide) rfl  (e_lit (tag := 100680) (l := [(⟨x310, (s238.size : Int)⟩ : Gref04_Place)]) (enc := Gref04_Place.enc) (sz := 2) rfl Try.underlying55 (lit91_10 _ _) rfl rfl (fun _ => rfl)) (fun g375 W _ h => ((h.dropR (t := 100680) rfl).dropR (t := 1000) rfl).phi (fun W hφ => hφ)) (fun g375 _ => ?_)
        replace hm := bnd hm
        obtain ⟨l376, hl376, hm⟩ := hm
        refine ga_e (i := 13) #[true, true, true, true, true, true, true, true, true, true, true, true, true, true, false, false, false] rfl (by kernel_rfl) (by decide) rfl  (e_appR (enc := Gref04_Place.enc) (l := l230) (l1 := [(⟨x310, (s238.size : Int)⟩ : Gref04_Place)]) (l2 := l376) (tag := 1000) Try.underlying55 inf91_11 rfl (by decide) (by decide) (fun _ => rfl) (fun _ => rfl) rfl hc232 rfl rfl (fun W hS => rowCl (tag := 100680) rfl W hS) hl376) (fun ⟨A377, c378⟩ W hc378 h => ((h.dropR (t := 100680) rfl).dropR (t := 1000) rfl).phi (fun W hφ => hφ)) (fun ⟨A377, c378⟩ hc378 => ?_)
        refine ga_r (i := 14) #[true, true, true, true, true, true, true, true, true, true, true, true, true, true, true, false, false] rfl (by kernel_rfl) (by decide) rfl (r_nilck rfl) ?_
        refine ga_r (i := 15) #[true, true, true, true, true, true, true, true, true, true, true, true, true, true, true, true, false] rfl (by kernel_rfl) (by decide) rfl (r_field (n := 1) Try.underlying57 rfl Try.sizeOf55 rfl rfl) ?_
        refine ga_lastL (i := 16) (tag := 1000) #[true, true, true, true, true, true, true, true, true, true, true, true, true, true, true, true, true] rfl (by kernel_rfl) (by decide) rfl rfl rfl rfl Try.sizeOf55 rfl rfl ?_
        refine gz_done (by kernel_rfl) ?_
        exact d_round (l376, A377, c378) ⟨hm, hc378⟩ Nat.zero_lt_one ⟨rfl, rfl, rfl, rfl, trivial⟩ (fun W h => (h.dropR (t := 100680) rfl).phi (fun W hφ => hφ))
       ·
        replace hm := ite_f hm (of_decide_eq_false h366)
        refine c_skip ?_
        exact d_round (l230, A231, c232) ⟨hm, hc232⟩ Nat.zero_lt_one ⟨rfl, rfl, rfl, rfl, trivial⟩ (fun W h => h.phi (fun W hφ => hφ))
      ·
       replace hm := ite_f hm (of_decide_eq_false h365)
       refine g_no rfl rfl rfl rfl rfl h365 ?_
       refine g_no rfl rfl rfl rfl rfl h365 ?_
       refine g_no rfl rfl rfl rfl rfl h365 ?_
       refine g_no rfl rfl rfl rfl rfl h365 ?_
       refine g_no rfl rfl rfl rfl rfl h365 ?_
       refine g_v rfl (r_pick0 rfl h365) ?_
       refine g_nil ?_
       refine d_then ?_
       refine c_cond0 rfl rfl ?_
       refine c_skip ?_
       exact d_round (l230, A231, c232) ⟨hm, hc232⟩ Nat.zero_lt_one ⟨rfl, rfl, rfl, rfl, trivial⟩ (fun W h => h.phi (fun W hφ => hφ))
     ·
      unfold m_ref04_Packer_Name_j4 at hm
      refine d_flat [(0, .pointer (some ⟨go0, 0, none⟩)), (2, .bool p2), (7, .slice A234 l233.length c235), (9, .int .i64 i237)] ⟨rfl, rfl, rfl, rfl, trivial⟩ (fun u => ?_)
      refine d_sta ⟨w0, M, (1000, go0, .cells #[.string s238, .slice A338 l337.length c339] 57 (0, 0)) :: H, (1000, ⟨.slice A338 l337.length c339, 91, 2, l337.length, l337.flatMap Gref04_Place.enc⟩) :: R, φ306⟩ (fun _ h => h) ?_
      refine d_then ?_
      refine c_seq ?_
      refine c_region ?_
      refine g_v rfl r_move ?_
      refine g_v rfl r_move ?_
      refine g_v rfl r_move ?_
      replace hm := bnd hm
      obtain ⟨x340, hx340, hm⟩ := hm
      refine g_know _ (fun W hS => cl_at (p := φ306) (sz := 1) (fun _ => rfl) (by decide) hS.now f236 hx340) ?_
      rintro ⟨ad341, hA343, f342⟩
      refine g_v rfl (r_ix Try.underlying44 Try.sizeOf9 rfl hA343 rfl hx340) ?_
      refine g_v rfl (r_ld rfl Try.isAgg9 (fun W hS => Cl.head (f342 W hS.now))) ?_
      refine g_v rfl (r_len Try.underlying9 rfl) ?_
      replace hm := bnd hm
      obtain ⟨x344, hx345, hm⟩ := hm
      refine g_cn ⟨w0, M, (1000, go0, .cells #[.string s238, .slice A338 l337.length c339] 57 (0, 0)) :: H, (1000, ⟨.slice A338 l337.length c339, 91, 2, l337.length, l337.flatMap Gref04_Place.enc⟩) :: R, φ306⟩ (fun W h => (ok_front (t := 1000) (t' := 1000) (ok_frontR (t := 1000) (t' := 1000) h rfl) rfl)) Try.call32 rfl rfl (c_ref04_Packer_Number (x340.size : Int) 1 go0 (⟨s238, l337⟩ : Gref04_Packer) A338 c339 hc339 _ hx345) (fun ⟨A346, c347⟩ hc347 => ?_)
      refine g_sta _ (fun W h => (ok_frontR (t := 2000) (t' := 1000) (ok_front (t := 1000) (t' := 1000) h rfl) rfl)) ?_
      refine g_nil ?_
      refine d_then ?_
      refine ga_start (n := 13) ⟨w0, M, (1000, go0, .cells #[.string x344.fB, .slice A346 x344.fL.length c347] 57 (0, 0)) :: H, (1000, ⟨.slice A346 x344.fL.length c347, 91, 2, x344.fL.length, x344.fL.flatMap Gref04_Place.enc⟩) :: R, φ306⟩ [12] #[false, false, false, false, false, false, false, false, false, false, false, false, false] (fun W h => h.phi (fun W hφ => hφ)) mixed rfl rfl ?_
      refine ga_v (i := 0) #[true, false, false, false, false, false, false, false, false, false, false, false, false] rfl (by kernel_rfl) (fun _ _ _ _ h => h) rfl (r_move) ?_
      refine ga_v (i := 1) #[true, true, false, false, false, false, false, false, false, false, false, false, false] rfl (by kernel_rfl) (fun _ _ _ _ h => h) rfl (r_move) ?_
      refine ga_v (i := 2) #[true, true, true, false, false, false, false, false, false, false, false, false, false] rfl (by kernel_rfl) (fun _ _ _ _ h => h) rfl (r_nilck rfl) ?_
      refine ga_v (i := 3) #[true, true, true, true, false, false, false, false, false, false, false, false, false] rfl (by kernel_rfl) (fun _ _ _ _ h => h) rfl (r_field (n := 0) Try.underlying57 rfl Try.sizeOf9 rfl rfl) ?_
      refine ga_v (i := 4) #[true, true, true, true, true, false, false, false, false, false, false, false, false] rfl (by kernel_rfl) (fun _ _ _ _ h => h) rfl (r_load (tag := 1000) rfl rfl rfl Try.isAgg9) ?_
      refine ga_v (i := 5) #[true, true, true, true, true, true, false, false, false, false, false, false, false] rfl (by kernel_rfl) (fun _ _ _ _ h => h) rfl (r_move) ?_
      refine ga_r (i := 6) #[true, true, true, true, true, true, true, false, false, false, false, false, false] rfl (by kernel_rfl) (by decide) rfl (r_move) ?_
      replace hm := bnd hm
      obtain ⟨x359, hx359, hm⟩ := hm
      refine ga_know _ (fun W hS => cl_at (p := φ306) (sz := 1) (fun _ => rfl) (by decide) hS.now f236 hx359) ?_
      rintro ⟨ad360, hA362, f361⟩
      refine ga_r (i := 7) #[true, true, true, true, true, true, true, true, false, false, false, false, false] rfl (by kernel_rfl) (by decide) rfl (r_ix Try.underlying44 Try.sizeOf9 rfl hA362 rfl hx359) ?_
      refine ga_r (i := 8) #[true, true, true, true, true, true, true, true, true, false, false, false, false] rfl (by kernel_rfl) (by decide) rfl (r_ld rfl Try.isAgg9 (fun W hS => Cl.head (f361 W hS.now))) ?_
      replace hm := bnd hm
      obtain ⟨s363, hs363, hm⟩ := hm
      refine ga_r (i := 9) #[true, true, true, true, true, true, true, true, true, true, false, false, false] rfl (by kernel_rfl) (by decide) rfl (r_addT rfl rfl hs363) ?_
      refine ga_r (i := 10) #[true, true, true, true, true, true, true, true, true, true, true, false, false] rfl (by kernel_rfl) (by decide) rfl (r_nilck rfl) ?_
      refine ga_r (i := 11) #[true, true, true, true, true, true, true, true, true, true, true, true, false] rfl (by kernel_rfl) (by decide) rfl (r_field (n := 0) Try.underlying57 rfl Try.sizeOf9 rfl rfl) ?_
      refine ga_lastL (i := 12) (tag := 1000) #[true, true, true, true, true, true, true, true, true, true, true, true, true] rfl (by kernel_rfl) (by decide) rfl rfl rfl rfl Try.sizeOf9 rfl rfl ?_
      refine gz_done (by kernel_rfl) ?_
      refine d_normal_block ?_
      refine d_then ?_
      refine c_flat [(0, .pointer (some ⟨go0, 0, none⟩)), (2, .bool p2), (7, .slice A234 l233.length c235), (9, .int .i64 i237)] ⟨rfl, rfl, rfl, rfl, trivial⟩ (fun u => ?_)
      refine c_sta ⟨w0, M, (1000, go0, .cells #[.string s363, .slice A346 x344.fL.length c347] 57 (0, 0)) :: H, (1000, ⟨.slice A346 x344.fL.length c347, 91, 2, x344.fL.length, x344.fL.flatMap Gref04_Place.enc⟩) :: R, φ306⟩ (fun _ h => h) ?_
      refine c_region ?_
      refine g_v rfl r_move ?_
      refine g_v rfl (r_add rfl rfl rfl) ?_
      refine g_v rfl r_assign ?_
      refine g_nil ?_
      obtain ⟨n364, hn364, hlp⟩ := nx_inl hm hnx2
      exact d_round (n364, x344.fL, l233, w64 (i237 + 1), s363, A346, c347, A234, c235) ⟨hlp, hc347, hc235⟩ hn364 ⟨rfl, rfl, rfl, rfl, trivial⟩ (fun W h => h.phi (fun W hφ => ⟨(q306 _ hφ), (fun W h => f236 W h) W hφ⟩))
   ·
    replace hm := ite_f hm (of_decide_eq_false h307)
    refine c_exit ?_
    refine d_exit_then ?_
    refine d_exit_then ?_
    refine d_exit_block ?_
    replace hm := nx_out (C := (fun e => Sum.elim (fun e => m_ref04_Packer_Name_j1 e.1 e.2) (fun x => some x) e = some r)) hm hnx2 hr2
    exact d_round (l230, s238, A231, c232) ⟨hm, hc232⟩ Nat.zero_lt_one ⟨rfl, trivial⟩ (fun W h => h.phi (fun W hφ => (q306 _ hφ)))
  ·
   unfold m_ref04_Packer_Name_j1 at hm
   refine d_flat [(0, .pointer (some ⟨go0, 0, none⟩))] ⟨rfl, trivial⟩ (fun u => ?_)
   refine d_sta ⟨w0, M, (1000, go0, .cells #[.string s156, .slice A154 l153.length c155] 57 (0, 0)) :: H, (1000, ⟨.slice A154 l153.length c155, 91, 2, l153.length, l153.flatMap Gref04_Place.enc⟩) :: R, φ⟩ (fun _ h => h) ?_
   refine d_then ?_
   refine c_seq ?_
   refine c_region ?_
   refine g_v rfl r_move ?_
   replace hm := bnd hm
   obtain ⟨x157, hx158, hm⟩ := hm
   refine g_cn ⟨w0, M, (1000, go0, .cells #[.string s156, .slice A154 l153.length c155] 57 (0, 0)) :: H, (1000, ⟨.slice A154 l153.length c155, 91, 2, l153.length, l153.flatMap Gref04_Place.enc⟩) :: R, φ⟩ (fun W h => (ok_front (t := 1000) (t' := 1000) (ok_frontR (t := 1000) (t' := 1000) h rfl) rfl)) Try.call32 rfl rfl (c_ref04_Packer_Number 0 1 go0 (⟨s156, l153⟩ : Gref04_Packer) A154 c155 hc155 _ hx158) (fun ⟨A159, c160⟩ hc160 => ?_)
   refine g_sta _ (fun W h => (ok_frontR (t := 2000) (t' := 1000) (ok_front (t := 1000) (t' := 1000) h rfl) rfl)) ?_
   refine g_nil ?_
   refine d_then ?_
   refine c_seq ?_
   refine c_region ?_
   refine g_v rfl r_assign ?_
   refine g_nil ?_
   refine d_then ?_
   refine c_ret ?_
   replace hm := Option.some.inj hm
   subst hm
   refine d_sta _ (fun W h => ok_frontR (t := 1000) (t' := 2000) h rfl) ?_
   refine d_retC (A159, c160) Try.results36 ?_ hc160 (fun W h => h.phi (fun W hφ => hφ)) (.inr rfl)
   refine res_tmp ?_
   refine res_nil ?_
   exact rfl

noncomputable def m_pack_Packer_Len (o0 : Gpack_Packer) : Option Int :=
  some (o0.fb.length : Int)
theorem c_pack_Packer_Len {w0 : World} {M : Nat → Prop} {H : List (Nat × Nat × Obj)} {R : List (Nat × Row)} {φ : World → Prop} (go0 : Nat) (o0 : Gpack_Packer) (Ao0_0 : Option Addr) (co0_0 : Nat) (hco0_0 : o0.fb.length ≤ co0_0) (Ao0_1 : Option Addr) (co0_1 : Nat) (hco0_1 : True) (r : Int) (hm : m_pack_Packer_Len o0 = some r) :
    Cn Try.prog 26 #[.pointer (some ⟨go0, 0, none⟩)] ⟨w0, M, (1000, go0, .cells #[.slice Ao0_0 o0.fb.length co0_0, mapV Ao0_1] 67 (0, 0)) :: H, (1000, ⟨.slice Ao0_0 o0.fb.length co0_0, 5, 1, o0.fb.length, o0.fb.flatMap (fun x : Int => [Value.int .u8 x])⟩) :: (1001, ⟨mapV Ao0_1, 65, 2, o0.fplaces.length, o0.fplaces.flatMap (mcell (fun x : ByteArray => Value.string x) (fun x : Int => Value.int .i64 x))⟩) :: R, φ⟩ (fun x : Unit => .int .i64 r) (fun x => True) (fun x => ⟨w0, M, (1000, go0, .cells #[.slice Ao0_0 o0.fb.length co0_0, mapV Ao0_1] 67 (0, 0)) :: H, (1000, ⟨.slice Ao0_0 o0.fb.length co0_0, 5, 1, o0.fb.length, o0.fb.flatMap (fun x : Int => [Value.int .u8 x])⟩) :: (1001, ⟨mapV Ao0_1, 65, 2, o0.fplaces.length, o0.fplaces.flatMap (mcell (fun x : ByteArray => Value.string x) (fun x : Int => Value.int .i64 x))⟩) :: R, φ⟩) := by
 unfold m_pack_Packer_Len at hm
 refine cn_intro (fn := Try.f26) (N := 10) Try.func26 rfl Try.ntmps26 rfl ?_
 refine c_seq ?_
 refine c_region ?_
 refine g_v rfl r_assign ?_
 refine g_nil ?_
 refine d_then ?_
 refine c_seq ?_
 refine c_seq ?_
 refine c_region ?_
 refine g_v rfl r_move ?_
 refine g_v rfl (r_eqlP1 Try.underlying42 rfl rfl) ?_
 refine g_nil ?_
 refine d_then ?_
 refine c_cond0 rfl rfl ?_
 refine c_skip ?_
 refine d_then ?_
 refine c_seq ?_
 refine c_region ?_
 refine g_v rfl r_move ?_
 refine g_v rfl (r_nilck rfl) ?_
 refine g_v rfl (r_field (n := 0) Try.underlying67 rfl Try.sizeOf58 rfl rfl) ?_
 refine g_v rfl (r_load (tag := 1000) rfl rfl rfl Try.isAgg58) ?_
 refine g_v rfl (r_lenL Try.underlying58 rfl) ?_
 refine g_v rfl r_assign ?_
 refine g_nil ?_
 refine d_then ?_
 refine c_flat [(2, .int .i64 (o0.fb.length : Int))] ⟨rfl, trivial⟩ (fun u => ?_)
 refine c_sta ⟨w0, M, (1000, go0, .cells #[.slice Ao0_0 o0.fb.length co0_0, mapV Ao0_1] 67 (0, 0)) :: H, (1000, ⟨.slice Ao0_0 o0.fb.length co0_0, 5, 1, o0.fb.length, o0.fb.flatMap (fun x : Int => [Value.int .u8 x])⟩) :: (1001, ⟨mapV Ao0_1, 65, 2, o0.fplaces.length, o0.fplaces.flatMap (mcell (fun x : ByteArray => Value.string x) (fun x : Int => Value.int .i64 x))⟩) :: R, φ⟩ (fun _ h => h) ?_
 refine c_ret ?_
 replace hm := Option.some.inj hm
 subst hm
 refine d_retC () Try.results26 ?_ trivial (fun W h => h.phi (fun W hφ => hφ)) (.inr rfl)
 refine res_tmp ?_
 refine res_nil ?_
 exact rfl

end Go.Proofs.Ytdcfemndfnfedaa
