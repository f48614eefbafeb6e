import Derived.Test.YtdcfemndfnfedaaQL
import Derived.Test.YtdcfemndfnfedaaRG
import Derived.Test.YtdcfemndfnfedaaRB
set_option maxRecDepth 100000
set_option maxHeartbeats 4000000
set_option linter.unusedVariables false
set_option linter.unusedSimpArgs false
namespace Go.Proofs.Ytdcfemndfnfedaa
open Go.RowKit Go.Proofs.YtdcfemndfnfedaaW.PrintLast
structure Gpack_Packer where
  fb : List Int
  fplaces : List (ByteArray × Int)
theorem bld67_0  : ∀ W, (Instr.build 67 #[]).run Try.prog W = .ok (.agg #[.slice none 0 0, .map none]) W := fun _ => by kernel_rfl
noncomputable def m_pack_New  : Option Gpack_Packer :=
  some (⟨([] : List Int), ([] : List (ByteArray × Int))⟩ : Gpack_Packer)
theorem c_pack_New {w0 : World} {M : Nat → Prop} {H : List (Nat × Nat × Obj)} {R : List (Nat × Row)} {φ : World → Prop}  (r : Gpack_Packer) (hm : m_pack_New = some r) :
    Cn Try.prog 25 #[] ⟨w0, M, H, R, φ⟩ (fun x : Option Addr × Nat × Option Addr × Nat × Nat => .pointer (some ⟨x.2.2.2.2, 0, none⟩)) (fun x => r.fb.length ≤ x.2.1 ∧ True) (fun x => ⟨w0, M, (3000, x.2.2.2.2, .cells #[.slice x.1 r.fb.length x.2.1, mapV x.2.2.1] 67 (0, 0)) :: H, (2000, ⟨.slice x.1 r.fb.length x.2.1, 5, 1, r.fb.length, r.fb.flatMap (fun x : Int => [Value.int .u8 x])⟩) :: (2001, ⟨mapV x.2.2.1, 65, 2, r.fplaces.length, r.fplaces.flatMap (mcell (fun x : ByteArray => Value.string x) (fun x : Int => Value.int .i64 x))⟩) :: R, φ⟩) := by
 unfold m_pack_New at hm
 refine cn_intro (fn := Try.f25) (N := 3) Try.func25 rfl Try.ntmps25 rfl ?_
 refine c_seq ?_
 refine c_region ?_
 refine g_v rfl r_assign ?_
 refine g_nil ?_
 refine d_then ?_
 refine c_seq ?_
 refine c_region ?_
 refine g_v rfl (r_build _ rfl (bld67_0)) ?_
 refine g_e rfl (e_box 100020 rfl) (fun g1 _ => ?_)
 refine g_v rfl r_assign ?_
 refine g_nil ?_
 refine d_then ?_
 refine c_ret ?_
 replace hm := Option.some.inj hm
 subst hm
 refine d_sta _ (fun W h => nilR h 11 5 1) ?_
 refine d_sta _ (fun W h => nilM h 12 65) ?_
 refine d_sta _ (fun W h => ok_frontR (t := 12) (t' := 2001) h rfl) ?_
 refine d_sta _ (fun W h => ok_frontR (t := 11) (t' := 2000) h rfl) ?_
 refine d_sta _ (fun W h => ok_front (t := 100020) (t' := 3000) h rfl) ?_
 refine d_retC (none, 0, none, 0, g1) Try.results25 ?_ ⟨(Nat.le_refl 0), trivial⟩ (fun W h => h.phi (fun W hφ => hφ)) (.inr rfl)
 refine res_tmp ?_
 refine res_nil ?_
 exact rfl

theorem lit9_1 (z0 : ByteArray) : Try.prog.builtSlice 9 1 [(0, .string z0)] = some #[.string z0] := by kernel_rfl
theorem inf9_2  : (Try.prog.info? 9).map (fun i => (i.zero, i.size, i.bytes)) = some (some (.string (⟨#[]⟩ : ByteArray)), 1, 16) := by kernel_rfl
noncomputable def m_name_Labels (p0 : ByteArray) : Option ((List ByteArray) × Int) :=
  (eachM p0).bind fun _ =>
  if (eachP p0).2 ≠ w64 ((p0.size : Int) - 1) then
    some (([] : List ByteArray), 10)
  else
    if (eachP p0).2 < 0 then
      some (([] : List ByteArray), 10)
    else
      if 255 < (p0.size : Int) then
        some (([] : List ByteArray), 11)
      else
        some (((eachP p0).1.map Prod.snd), 0)
theorem c_name_Labels {w0 : World} {M : Nat → Prop} {H : List (Nat × Nat × Obj)} {R : List (Nat × Row)} {φ : World → Prop} (p0 : ByteArray) (r : (List ByteArray) × Int) (hm : m_name_Labels p0 = some r) :
    Cn Try.prog 42 #[.string p0] ⟨w0, M, H, R, φ⟩ (fun x : Option Addr × Nat => .tuple #[.slice x.1 r.1.length x.2, .int .i64 r.2]) (fun x => r.1.length ≤ x.2) (fun x => ⟨w0, M, H, (2000, ⟨.slice x.1 r.1.length x.2, 9, 1, r.1.length, r.1.flatMap (fun x : ByteArray => [Value.string x])⟩) :: R, φ⟩) := by
 unfold m_name_Labels at hm
 refine cn_introM (fn := Try.f42) (N := 31) Try.func42 rfl Try.ntmps42 rfl ?_
 refine c_seq ?_
 refine c_region ?_
 refine g_v rfl r_assign ?_
 refine g_v rfl r_assign ?_
 refine g_nil ?_
 refine d_then ?_
 refine c_seq ?_
 refine c_region ?_
 refine g_e rfl (e_alloc 100040 Try.zeroValue44) (fun g1 _ => ?_)
 refine g_nil ?_
 refine d_then ?_
 refine c_seq ?_
 refine c_region ?_
 refine g_e rfl (e_alloc 100050 Try.zeroValue3) (fun g2 _ => ?_)
 refine g_storeL (tag := 100050) rfl rfl rfl rfl Try.sizeOf3 rfl rfl ?_
 refine g_nil ?_
 refine d_then ?_
 refine c_seq ?_
 refine c_seq ?_
 refine c_region ?_
 refine g_v rfl r_move ?_
 refine g_cn ⟨w0, M, _, _, φ⟩ (fun _ h => h) Try.call66 rfl rfl (c_each p0 g2) (fun ⟨g3, g4⟩ _ => ?_)
 refine g_sta _ (fun W h => ok_front (t := 3000) (t' := 100095) (ok_front (t := 3001) (t' := 100096) h rfl) rfl) ?_
 refine g_nil ?_
 refine d_then ?_
 refine c_block ?_
 refine c_sta _ (fun W h => nilR (ok_front (t := 100050) (t' := 0) (ok_front (t := 100095) (t' := 1) (ok_front (t := 100096) (t' := 2) (ok_front (t := 100040) (t' := 3) h rfl) rfl) rfl) rfl) 4 9 1) ?_
 replace hm := bnd hm
 obtain ⟨_, hz8, hm⟩ := hm
 replace hz8 := (eachM_some hz8).1
 refine c_collect Prod.snd (fun x : ByteArray => Value.string x) rfl rfl hz8 (.inl rfl) (.inl ⟨rfl, fun _ => rfl⟩) Try.underlying44 inf9_2 rfl (by decide) (by decide) (fun _ => lit9_1 _) (fun _ => rfl) Try.sizeOf44 Try.isAgg44 rfl rfl rfl (fun A6 c7 g5 hc7 => ?_)
 refine d_sta _ (fun W h => (ok_front (t := 0) (t' := 100050) (ok_front (t := 1) (t' := 100095) (ok_front (t := 2) (t' := 100096) (ok_front (t := 3) (t' := 100040) h rfl) rfl) rfl) rfl)) ?_
 refine d_normal_block ?_
 refine d_then ?_
 refine c_seq ?_
 refine c_block ?_
 refine c_seq ?_
 refine c_region ?_
 refine g_v rfl (r_load (tag := 100050) rfl rfl rfl Try.isAgg3) ?_
 refine g_v rfl r_move ?_
 refine g_v rfl (r_len Try.underlying9 rfl) ?_
 refine g_v rfl (r_sub rfl rfl rfl) ?_
 refine g_v rfl (r_neq rfl rfl) ?_
 refine g_v rfl r_move ?_
 refine g_if rfl rfl rfl rfl rfl (fun h9 => ?_) (fun h9 => ?_)
 ·
  replace hm := ite_f hm (of_decide_eq_false h9)
  refine g_v rfl (r_load (tag := 100050) rfl rfl rfl Try.isAgg3) ?_
  refine g_do rfl rfl rfl rfl rfl h9 ?_
  refine g_v rfl (r_lss rfl rfl) ?_
  refine g_v rfl (r_pick0 rfl h9) ?_
  refine g_v rfl r_assign ?_
  refine g_nil ?_
  refine d_then ?_
  refine c_flat [(0, .string p0), (4, .pointer (some ⟨g1, 0, none⟩)), (16, .bool (decide ((eachP p0).2 < 0)))] ⟨rfl, rfl, rfl, trivial⟩ (fun u => ?_)
  refine c_sta ⟨w0, M, (100050, g2, .cells #[.int .i64 ((eachP p0).2)] 3 (0, 0)) :: (100095, g3, .cells #[.pointer (some ⟨g2, 0, none⟩)] 94 (0, 0)) :: (100096, g4, .cells #[.string p0] 9 (0, 0)) :: (100040, g1, .cells #[.slice A6 ((eachP p0).1.map Prod.snd).length c7] 44 (0, 0)) :: (5, g5, .deferred (some [])) :: H, (4, ⟨.slice A6 ((eachP p0).1.map Prod.snd).length c7, 9, 1, ((eachP p0).1.map Prod.snd).length, ((eachP p0).1.map Prod.snd).flatMap (fun x : ByteArray => [Value.string x])⟩) :: R, φ⟩ (fun _ h => h) ?_
  refine c_cond rfl (fun h10 => ?_) (fun h10 => ?_)
  ·
   replace hm := ite_t hm (of_decide_eq_true h10)
   refine c_seq ?_
   refine c_region ?_
   refine g_v rfl r_assign ?_
   refine g_v rfl r_assign ?_
   refine g_nil ?_
   refine d_then ?_
   refine c_ret ?_
   refine d_ret_block ?_
   refine d_ret_then ?_
   replace hm := Option.some.inj hm
   subst hm
   refine d_sta _ (fun W h => nilR h 11 9 1) ?_
   refine d_sta _ (fun W h => ok_frontR (t := 11) (t' := 2000) h rfl) ?_
   refine d_retM (tD := 5) (none, 0) Try.results42 ?_ (Nat.le_refl 0) rfl (by simp) (fun W h => (((((h.dropR (t := 4) rfl).dropH (t := 100050) rfl).dropH (t := 100095) rfl).dropH (t := 100096) rfl).dropH (t := 100040) rfl).phi (fun W hφ => hφ)) (.inr rfl)
   refine res_tmp ?_
   refine res_tmp ?_
   refine res_nil ?_
   exact rfl
  ·
   replace hm := ite_f hm (of_decide_eq_false h10)
   refine c_seq ?_
   refine c_region ?_
   refine g_v rfl r_move ?_
   refine g_v rfl (r_len Try.underlying9 rfl) ?_
   refine g_v rfl (r_gtr rfl rfl) ?_
   refine g_v rfl r_assign ?_
   refine g_nil ?_
   refine d_then ?_
   refine c_cond rfl (fun h11 => ?_) (fun h11 => ?_)
   ·
    replace hm := ite_t hm (of_decide_eq_true h11)
    refine c_seq ?_
    refine c_region ?_
    refine g_v rfl r_assign ?_
    refine g_v rfl r_assign ?_
    refine g_nil ?_
    refine d_then ?_
    refine c_ret ?_
    refine d_ret_block ?_
    refine d_ret_then ?_
    replace hm := Option.some.inj hm
    subst hm
    refine d_sta _ (fun W h => nilR h 12 9 1) ?_
    refine d_sta _ (fun W h => ok_frontR (t := 12) (t' := 2000) h rfl) ?_
    refine d_retM (tD := 5) (none, 0) Try.results42 ?_ (Nat.le_refl 0) rfl (by simp) (fun W h => (((((h.dropR (t := 4) rfl).dropH (t := 100050) rfl).dropH (t := 100095) rfl).dropH (t := 100096) rfl).dropH (t := 100040) rfl).phi (fun W hφ => hφ)) (.inr rfl)
    refine res_tmp ?_
    refine res_tmp ?_
    refine res_nil ?_
    exact rfl
   ·
    replace hm := ite_f hm (of_decide_eq_false h11)
    refine c_skip ?_
    refine d_normal_block ?_
    refine d_then ?_
    refine c_seq ?_
    refine c_region ?_
    refine g_v rfl (r_load (tag := 100040) rfl rfl rfl Try.isAgg44) ?_
    refine g_v rfl r_assign ?_
    refine g_v rfl r_assign ?_
    refine g_nil ?_
    refine d_then ?_
    refine c_ret ?_
    replace hm := Option.some.inj hm
    subst hm
    refine d_sta _ (fun W h => ok_frontR (t := 4) (t' := 2000) h rfl) ?_
    refine d_retM (tD := 5) (A6, c7) Try.results42 ?_ hc7 rfl (by simp) (fun W h => ((((h.dropH (t := 100050) rfl).dropH (t := 100095) rfl).dropH (t := 100096) rfl).dropH (t := 100040) rfl).phi (fun W hφ => hφ)) (.inr rfl)
    refine res_tmp ?_
    refine res_tmp ?_
    refine res_nil ?_
    exact rfl
 ·
  replace hm := ite_t hm (of_decide_eq_true h9)
  refine g_no rfl rfl rfl rfl rfl h9 ?_
  refine g_v rfl (r_pick1 rfl h9) ?_
  refine g_v rfl r_assign ?_
  refine g_nil ?_
  refine d_then ?_
  refine c_flat [(0, .string p0), (4, .pointer (some ⟨g1, 0, none⟩)), (16, .bool true)] ⟨rfl, rfl, rfl, trivial⟩ (fun u => ?_)
  refine c_sta ⟨w0, M, (100050, g2, .cells #[.int .i64 ((eachP p0).2)] 3 (0, 0)) :: (100095, g3, .cells #[.pointer (some ⟨g2, 0, none⟩)] 94 (0, 0)) :: (100096, g4, .cells #[.string p0] 9 (0, 0)) :: (100040, g1, .cells #[.slice A6 ((eachP p0).1.map Prod.snd).length c7] 44 (0, 0)) :: (5, g5, .deferred (some [])) :: H, (4, ⟨.slice A6 ((eachP p0).1.map Prod.snd).length c7, 9, 1, ((eachP p0).1.map Prod.snd).length, ((eachP p0).1.map Prod.snd).flatMap (fun x : ByteArray => [Value.string x])⟩) :: R, φ⟩ (fun _ h => h) ?_
  refine c_cond1 rfl rfl ?_
  refine c_seq ?_
  refine c_region ?_
  refine g_v rfl r_assign ?_
  refine g_v rfl r_assign ?_
  refine g_nil ?_
  refine d_then ?_
  refine c_ret ?_
  refine d_ret_block ?_
  refine d_ret_then ?_
  replace hm := Option.some.inj hm
  subst hm
  refine d_sta _ (fun W h => nilR h 13 9 1) ?_
  refine d_sta _ (fun W h => ok_frontR (t := 13) (t' := 2000) h rfl) ?_
  refine d_retM (tD := 5) (none, 0) Try.results42 ?_ (Nat.le_refl 0) rfl (by simp) (fun W h => (((((h.dropR (t := 4) rfl).dropH (t := 100050) rfl).dropH (t := 100095) rfl).dropH (t := 100096) rfl).dropH (t := 100040) rfl).phi (fun W hφ => hφ)) (.inr rfl)
  refine res_tmp ?_
  refine res_tmp ?_
  refine res_nil ?_
  exact rfl

noncomputable def m_name_Check (p0 : ByteArray) : Option Int :=
  (m_name_Labels p0).bind fun (z7 : (List ByteArray) × Int) =>
  some z7.2
theorem c_name_Check {w0 : World} {M : Nat → Prop} {H : List (Nat × Nat × Obj)} {R : List (Nat × Row)} {φ : World → Prop} (p0 : ByteArray) (r : Int) (hm : m_name_Check p0 = some r) :
    Cn Try.prog 18 #[.string p0] ⟨w0, M, H, R, φ⟩ (fun x : Unit => .int .i64 r) (fun x => True) (fun x => ⟨w0, M, H, R, φ⟩) := by
 unfold m_name_Check at hm
 refine cn_intro (fn := Try.f18) (N := 11) Try.func18 rfl Try.ntmps18 rfl ?_
 refine c_seq ?_
 refine c_region ?_
 refine g_v rfl r_assign ?_
 refine g_nil ?_
 refine d_then ?_
 refine c_seq ?_
 refine c_region ?_
 refine g_v rfl r_move ?_
 replace hm := bnd hm
 obtain ⟨⟨x1, x2⟩, hx3, hm⟩ := hm
 refine g_cn ⟨w0, M, _, _, φ⟩ (fun _ h => h) Try.call42 rfl rfl (c_name_Labels p0 _ hx3) (fun ⟨A4, c5⟩ hc5 => ?_)
 refine g_sta _ (fun W h => (ok_frontR (t := 2000) (t' := 100070) h rfl)) ?_
 refine g_v rfl r_move ?_
 refine g_v rfl (r_extract rfl rfl) ?_
 refine g_v rfl (r_extract rfl rfl) ?_
 refine g_v rfl r_assign ?_
 refine g_v rfl r_assign ?_
 refine g_nil ?_
 refine d_then ?_
 refine c_seq ?_
 refine c_region ?_
 refine g_v rfl r_move ?_
 refine g_v rfl r_assign ?_
 refine g_nil ?_
 refine d_then ?_
 refine c_flat [(2, .int .i64 x2)] ⟨rfl, trivial⟩ (fun u => ?_)
 refine c_sta ⟨w0, M, H, (100070, ⟨.slice A4 x1.length c5, 9, 1, x1.length, x1.flatMap (fun x : ByteArray => [Value.string x])⟩) :: R, φ⟩ (fun _ h => h) ?_
 refine c_ret ?_
 replace hm := Option.some.inj hm
 subst hm
 refine d_retC () Try.results18 ?_ trivial (fun W h => ok_pre (H1 := []) (R1 := [_]) h (fun W hφ => hφ)) (.inr rfl)
 refine res_tmp ?_
 refine res_nil ?_
 exact rfl

theorem mapT65_3  : MapTy Try.prog 65 9 3 (fun x : ByteArray => Value.string x) (fun x : Int => Value.int .i64 x) (fun x : ByteArray => decide (x.size ≤ 9223372036854775807)) 0 := ⟨Try.underlying65, Go.Maps.string_keyed Try.underlying9, fun k hk => ⟨_, Go.WideMaps.keyOf_string_mk Try.underlying9 (of_decide_eq_true hk)⟩, fun a b h => Value.string.inj h, fun _ => Try.zeroValue3 _⟩
theorem lit5_4 (z0 : Int) (z1 : Int) : Try.prog.builtSlice 5 2 [(0, .int .u8 z0), (1, .int .u8 z1)] = some #[.int .u8 z0, .int .u8 z1] := by kernel_rfl
theorem inf5_5  : (Try.prog.info? 5).map (fun i => (i.zero, i.size, i.bytes)) = some (some (.int .u8 0), 1, 1) := by kernel_rfl
noncomputable def m_pack_Packer_put (p1 : List Int) (o0 : Gpack_Packer) : Option Gpack_Packer :=
  (app 1 o0.fb p1).bind fun l1 =>
  some (⟨l1, o0.fplaces⟩ : Gpack_Packer)
theorem c_pack_Packer_put {w0 : World} {M : Nat → Prop} {H : List (Nat × Nat × Obj)} {R : List (Nat × Row)} {φ : World → Prop} (p1 : List Int) (Ap1_0 : Option Addr) (cp1_0 : Nat) (hcp1_0 : p1.length ≤ cp1_0) (fp1_0 : ∀ W, (Sta.mk w0 M H R φ).ok W → Cl W Ap1_0 (p1.flatMap (fun x : Int => [Value.int .u8 x]))) (go0 : Nat) (o0 : Gpack_Packer) (Ao0_0 : Option Addr) (co0_0 : Nat) (hco0_0 : o0.fb.length ≤ co0_0) (Ao0_1 : Option Addr) (co0_1 : Nat) (hco0_1 : True) (r : Gpack_Packer) (hm : m_pack_Packer_put p1 o0 = some r) :
    Cn Try.prog 64 #[.pointer (some ⟨go0, 0, none⟩), .slice Ap1_0 p1.length cp1_0] ⟨w0, M, (1000, go0, .cells #[.slice Ao0_0 o0.fb.length co0_0, mapV Ao0_1] 67 (0, 0)) :: H, (1000, ⟨.slice Ao0_0 o0.fb.length co0_0, 5, 1, o0.fb.length, o0.fb.flatMap (fun x : Int => [Value.int .u8 x])⟩) :: (1001, ⟨mapV Ao0_1, 65, 2, o0.fplaces.length, o0.fplaces.flatMap (mcell (fun x : ByteArray => Value.string x) (fun x : Int => Value.int .i64 x))⟩) :: R, φ⟩ (fun x : Option Addr × Nat × Option Addr × Nat => .tuple #[]) (fun x => r.fb.length ≤ x.2.1 ∧ True) (fun x => ⟨w0, M, (1000, go0, .cells #[.slice x.1 r.fb.length x.2.1, mapV x.2.2.1] 67 (0, 0)) :: H, (2000, ⟨.slice x.1 r.fb.length x.2.1, 5, 1, r.fb.length, r.fb.flatMap (fun x : Int => [Value.int .u8 x])⟩) :: (2001, ⟨mapV x.2.2.1, 65, 2, r.fplaces.length, r.fplaces.flatMap (mcell (fun x : ByteArray => Value.string x) (fun x : Int => Value.int .i64 x))⟩) :: R, φ⟩) := by
 unfold m_pack_Packer_put at hm
 refine cn_intro (fn := Try.f64) (N := 15) Try.func64 rfl Try.ntmps64 rfl ?_
 refine c_seq ?_
 refine c_region ?_
 refine g_v rfl r_move ?_
 refine g_v rfl (r_neqP1 Try.underlying42 rfl rfl) ?_
 refine g_nil ?_
 refine d_then ?_
 refine c_cond1 rfl rfl ?_
 refine c_region ?_
 refine g_v rfl r_move ?_
 refine g_v rfl r_move ?_
 refine g_v rfl (r_nilck rfl) ?_
 refine g_v rfl (r_field (n := 0) Try.underlying67 rfl Try.sizeOf58 rfl rfl) ?_
 refine g_v rfl (r_load (tag := 1000) rfl rfl rfl Try.isAgg58) ?_
 refine g_v rfl r_move ?_
 replace hm := bnd hm
 obtain ⟨l1, hl1, hm⟩ := hm
 refine g_e rfl (e_appR (enc := (fun x : Int => [Value.int .u8 x])) (l := o0.fb) (l1 := p1) (l2 := l1) (tag := 1000) Try.underlying58 inf5_5 rfl (by decide) (by decide) (fun _ => rfl) (fun _ => rfl) rfl hco0_0 rfl rfl (fun W hS => fp1_0 W (ok_pre (H1 := [_]) (R1 := [_, _]) hS (fun W h => h))) hl1) (fun ⟨A2, c3⟩ hc3 => ?_)
 refine g_v rfl (r_nilck rfl) ?_
 refine g_v rfl (r_field (n := 0) Try.underlying67 rfl Try.sizeOf58 rfl rfl) ?_
 refine g_storeL (tag := 1000) rfl rfl rfl rfl Try.sizeOf58 rfl rfl ?_
 refine g_nil ?_
 replace hm := Option.some.inj hm
 subst hm
 refine d_sta _ (fun W h => ok_frontR (t := 1001) (t' := 2001) h rfl) ?_
 refine d_sta _ (fun W h => ok_frontR (t := 1000) (t' := 2000) h rfl) ?_
 refine d_retC (A2, c3, Ao0_1, co0_1) Try.results64 ?_ ⟨hc3, hco0_1⟩ (fun W h => h.phi (fun W hφ => hφ)) (.inl rfl)
 refine res_nil ?_
 exact rfl

noncomputable def m_pack_Packer_Word (p1 : Int) (o0 : Gpack_Packer) : Option Gpack_Packer :=
  (m_pack_Packer_put [IntKind.u8.wrap (p1 / 256), IntKind.u8.wrap p1] o0).bind fun x2 =>
  some x2
theorem c_pack_Packer_Word {w0 : World} {M : Nat → Prop} {H : List (Nat × Nat × Obj)} {R : List (Nat × Row)} {φ : World → Prop} (p1 : Int) (go0 : Nat) (o0 : Gpack_Packer) (Ao0_0 : Option Addr) (co0_0 : Nat) (hco0_0 : o0.fb.length ≤ co0_0) (Ao0_1 : Option Addr) (co0_1 : Nat) (hco0_1 : True) (r : Gpack_Packer) (hm : m_pack_Packer_Word p1 o0 = some r) :
    Cn Try.prog 30 #[.pointer (some ⟨go0, 0, none⟩), .int .u16 p1] ⟨w0, M, (1000, go0, .cells #[.slice Ao0_0 o0.fb.length co0_0, mapV Ao0_1] 67 (0, 0)) :: H, (1000, ⟨.slice Ao0_0 o0.fb.length co0_0, 5, 1, o0.fb.length, o0.fb.flatMap (fun x : Int => [Value.int .u8 x])⟩) :: (1001, ⟨mapV Ao0_1, 65, 2, o0.fplaces.length, o0.fplaces.flatMap (mcell (fun x : ByteArray => Value.string x) (fun x : Int => Value.int .i64 x))⟩) :: R, φ⟩ (fun x : Option Addr × Nat × Option Addr × Nat => .tuple #[]) (fun x => r.fb.length ≤ x.2.1 ∧ True) (fun x => ⟨w0, M, (1000, go0, .cells #[.slice x.1 r.fb.length x.2.1, mapV x.2.2.1] 67 (0, 0)) :: H, (2000, ⟨.slice x.1 r.fb.length x.2.1, 5, 1, r.fb.length, r.fb.flatMap (fun x : Int => [Value.int .u8 x])⟩) :: (2001, ⟨mapV x.2.2.1, 65, 2, r.fplaces.length, r.fplaces.flatMap (mcell (fun x : ByteArray => Value.string x) (fun x : Int => Value.int .i64 x))⟩) :: R, φ⟩) := by
 unfold m_pack_Packer_Word at hm
 refine cn_intro (fn := Try.f30) (N := 12) Try.func30 rfl Try.ntmps30 rfl ?_
 refine c_region ?_
 refine g_v rfl r_move ?_
 refine g_v rfl r_move ?_
 refine g_v rfl (r_shr (n := 256) rfl rfl (by decide) (by decide) (by decide)) ?_
 refine g_v rfl (r_conv Try.underlying33 Try.underlying5 rfl rfl) ?_
 refine g_v rfl r_move ?_
 refine g_v rfl (r_conv Try.underlying33 Try.underlying5 rfl rfl) ?_
 refine g_e rfl (e_lit (tag := 100100) (l := [IntKind.u8.wrap (p1 / 256), IntKind.u8.wrap p1]) (enc := (fun x : Int => [Value.int .u8 x])) (sz := 1) rfl Try.underlying58 (lit5_4 _ _) rfl rfl (fun _ => rfl)) (fun g1 _ => ?_)
 replace hm := bnd hm
 obtain ⟨x2, hx3, hm⟩ := hm
 refine g_cn ⟨w0, M, (1000, go0, .cells #[.slice Ao0_0 o0.fb.length co0_0, mapV Ao0_1] 67 (0, 0)) :: H, (1000, ⟨.slice Ao0_0 o0.fb.length co0_0, 5, 1, o0.fb.length, o0.fb.flatMap (fun x : Int => [Value.int .u8 x])⟩) :: (1001, ⟨mapV Ao0_1, 65, 2, o0.fplaces.length, o0.fplaces.flatMap (mcell (fun x : ByteArray => Value.string x) (fun x : Int => Value.int .i64 x))⟩) :: (100100, ⟨.slice (some ⟨g1, 0, none⟩) [IntKind.u8.wrap (p1 / 256), IntKind.u8.wrap p1].length 2, 5, 1, [IntKind.u8.wrap (p1 / 256), IntKind.u8.wrap p1].length, [IntKind.u8.wrap (p1 / 256), IntKind.u8.wrap p1].flatMap (fun x : Int => [Value.int .u8 x])⟩) :: R, φ⟩ (fun W h => (ok_front (t := 1000) (t' := 1000) (ok_frontR (t := 1000) (t' := 1000) (ok_frontR (t := 1001) (t' := 1001) h rfl) rfl) rfl)) Try.call64 rfl rfl (c_pack_Packer_put [IntKind.u8.wrap (p1 / 256), IntKind.u8.wrap p1] (some ⟨g1, 0, none⟩) 2 (Nat.le_refl _) (fun W hS => rowCl (tag := 100100) rfl W hS) go0 o0 Ao0_0 co0_0 hco0_0 Ao0_1 co0_1 trivial _ hx3) (fun ⟨A4, c5, A7, c8⟩ ⟨hc5, hc8⟩ => ?_)
 refine g_sta _ (fun W h => (ok_frontR (t := 2000) (t' := 1000) (ok_frontR (t := 2001) (t' := 1001) (ok_front (t := 1000) (t' := 1000) h rfl) rfl) rfl)) ?_
 refine g_nil ?_
 replace hm := Option.some.inj hm
 subst hm
 refine d_sta _ (fun W h => ok_frontR (t := 1001) (t' := 2001) h rfl) ?_
 refine d_sta _ (fun W h => ok_frontR (t := 1000) (t' := 2000) h rfl) ?_
 refine d_retC (A4, c5, A7, c8) Try.results30 ?_ ⟨hc5, hc8⟩ (fun W h => (h.dropR (t := 100100) rfl).phi (fun W hφ => hφ)) (.inl rfl)
 refine res_nil ?_
 exact rfl

noncomputable def m_pack_Packer_Raw (p1 : ByteArray) (o0 : Gpack_Packer) : Option Gpack_Packer :=
  (m_pack_Packer_put (bytesI p1) o0).bind fun x5 =>
  some x5
theorem c_pack_Packer_Raw {w0 : World} {M : Nat → Prop} {H : List (Nat × Nat × Obj)} {R : List (Nat × Row)} {φ : World → Prop} (p1 : ByteArray) (go0 : Nat) (o0 : Gpack_Packer) (Ao0_0 : Option Addr) (co0_0 : Nat) (hco0_0 : o0.fb.length ≤ co0_0) (Ao0_1 : Option Addr) (co0_1 : Nat) (hco0_1 : True) (r : Gpack_Packer) (hm : m_pack_Packer_Raw p1 o0 = some r) :
    Cn Try.prog 28 #[.pointer (some ⟨go0, 0, none⟩), .string p1] ⟨w0, M, (1000, go0, .cells #[.slice Ao0_0 o0.fb.length co0_0, mapV Ao0_1] 67 (0, 0)) :: H, (1000, ⟨.slice Ao0_0 o0.fb.length co0_0, 5, 1, o0.fb.length, o0.fb.flatMap (fun x : Int => [Value.int .u8 x])⟩) :: (1001, ⟨mapV Ao0_1, 65, 2, o0.fplaces.length, o0.fplaces.flatMap (mcell (fun x : ByteArray => Value.string x) (fun x : Int => Value.int .i64 x))⟩) :: R, φ⟩ (fun x : Option Addr × Nat × Option Addr × Nat => .tuple #[]) (fun x => r.fb.length ≤ x.2.1 ∧ True) (fun x => ⟨w0, M, (1000, go0, .cells #[.slice x.1 r.fb.length x.2.1, mapV x.2.2.1] 67 (0, 0)) :: H, (2000, ⟨.slice x.1 r.fb.length x.2.1, 5, 1, r.fb.length, r.fb.flatMap (fun x : Int => [Value.int .u8 x])⟩) :: (2001, ⟨mapV x.2.2.1, 65, 2, r.fplaces.length, r.fplaces.flatMap (mcell (fun x : ByteArray => Value.string x) (fun x : Int => Value.int .i64 x))⟩) :: R, φ⟩) := by
 unfold m_pack_Packer_Raw at hm
 refine cn_intro (fn := Try.f28) (N := 8) Try.func28 rfl Try.ntmps28 rfl ?_
 refine c_region ?_
 refine g_v rfl r_move ?_
 refine g_v rfl r_move ?_
 refine g_bytes rfl Try.underlying9 Try.underlying58 Try.underlying5 rfl (fun A1 c2 hc2 φ3 q3' => ?_)
 have q3 : ∀ W, φ3 W → φ W := fun W h => (q3' W h).1
 have f4 := fun (W : World) (h : φ3 W) => (q3' W h).2
 replace hm := bnd hm
 obtain ⟨x5, hx6, hm⟩ := hm
 refine g_cn ⟨w0, M, (1000, go0, .cells #[.slice Ao0_0 o0.fb.length co0_0, mapV Ao0_1] 67 (0, 0)) :: H, (1000, ⟨.slice Ao0_0 o0.fb.length co0_0, 5, 1, o0.fb.length, o0.fb.flatMap (fun x : Int => [Value.int .u8 x])⟩) :: (1001, ⟨mapV Ao0_1, 65, 2, o0.fplaces.length, o0.fplaces.flatMap (mcell (fun x : ByteArray => Value.string x) (fun x : Int => Value.int .i64 x))⟩) :: R, φ3⟩ (fun W h => (ok_front (t := 1000) (t' := 1000) (ok_frontR (t := 1000) (t' := 1000) (ok_frontR (t := 1001) (t' := 1001) h rfl) rfl) rfl)) Try.call64 rfl rfl (c_pack_Packer_put (bytesI p1) A1 c2 hc2 (fun W hS => f4 W hS.now) go0 o0 Ao0_0 co0_0 hco0_0 Ao0_1 co0_1 trivial _ hx6) (fun ⟨A7, c8, A10, c11⟩ ⟨hc8, hc11⟩ => ?_)
 refine g_sta _ (fun W h => (ok_frontR (t := 2000) (t' := 1000) (ok_frontR (t := 2001) (t' := 1001) (ok_front (t := 1000) (t' := 1000) h rfl) rfl) rfl)) ?_
 refine g_nil ?_
 replace hm := Option.some.inj hm
 subst hm
 refine d_sta _ (fun W h => ok_frontR (t := 1001) (t' := 2001) h rfl) ?_
 refine d_sta _ (fun W h => ok_frontR (t := 1000) (t' := 2000) h rfl) ?_
 refine d_retC (A7, c8, A10, c11) Try.results28 ?_ ⟨hc8, hc11⟩ (fun W h => h.phi (fun W hφ => (q3 _ hφ))) (.inl rfl)
 refine res_nil ?_
 exact rfl

theorem lit5_6 (z0 : Int) : Try.prog.builtSlice 5 1 [(0, .int .u8 z0)] = some #[.int .u8 z0] := by kernel_rfl
noncomputable def m_pack_Packer_Byte (p1 : Int) (o0 : Gpack_Packer) : Option Gpack_Packer :=
  (m_pack_Packer_put [p1] o0).bind fun x2 =>
  some x2
theorem c_pack_Packer_Byte {w0 : World} {M : Nat → Prop} {H : List (Nat × Nat × Obj)} {R : List (Nat × Row)} {φ : World → Prop} (p1 : Int) (go0 : Nat) (o0 : Gpack_Packer) (Ao0_0 : Option Addr) (co0_0 : Nat) (hco0_0 : o0.fb.length ≤ co0_0) (Ao0_1 : Option Addr) (co0_1 : Nat) (hco0_1 : True) (r : Gpack_Packer) (hm : m_pack_Packer_Byte p1 o0 = some r) :
    Cn Try.prog 31 #[.pointer (some ⟨go0, 0, none⟩), .int .u8 p1] ⟨w0, M, (1000, go0, .cells #[.slice Ao0_0 o0.fb.length co0_0, mapV Ao0_1] 67 (0, 0)) :: H, (1000, ⟨.slice Ao0_0 o0.fb.length co0_0, 5, 1, o0.fb.length, o0.fb.flatMap (fun x : Int => [Value.int .u8 x])⟩) :: (1001, ⟨mapV Ao0_1, 65, 2, o0.fplaces.length, o0.fplaces.flatMap (mcell (fun x : ByteArray => Value.string x) (fun x : Int => Value.int .i64 x))⟩) :: R, φ⟩ (fun x : Option Addr × Nat × Option Addr × Nat => .tuple #[]) (fun x => r.fb.length ≤ x.2.1 ∧ True) (fun x => ⟨w0, M, (1000, go0, .cells #[.slice x.1 r.fb.length x.2.1, mapV x.2.2.1] 67 (0, 0)) :: H, (2000, ⟨.slice x.1 r.fb.length x.2.1, 5, 1, r.fb.length, r.fb.flatMap (fun x : Int => [Value.int .u8 x])⟩) :: (2001, ⟨mapV x.2.2.1, 65, 2, r.fplaces.length, r.fplaces.flatMap (mcell (fun x : ByteArray => Value.string x) (fun x : Int => Value.int .i64 x))⟩) :: R, φ⟩) := by
 unfold m_pack_Packer_Byte at hm
 refine cn_intro (fn := Try.f31) (N := 8) Try.func31 rfl Try.ntmps31 rfl ?_
 refine c_region ?_
 refine g_v rfl r_move ?_
 refine g_v rfl r_move ?_
 refine g_e rfl (e_lit (tag := 100060) (l := [p1]) (enc := (fun x : Int => [Value.int .u8 x])) (sz := 1) rfl Try.underlying58 (lit5_6 _) rfl rfl (fun _ => rfl)) (fun g1 _ => ?_)
 replace hm := bnd hm
 obtain ⟨x2, hx3, hm⟩ := hm
 refine g_cn ⟨w0, M, (1000, go0, .cells #[.slice Ao0_0 o0.fb.length co0_0, mapV Ao0_1] 67 (0, 0)) :: H, (1000, ⟨.slice Ao0_0 o0.fb.length co0_0, 5, 1, o0.fb.length, o0.fb.flatMap (fun x : Int => [Value.int .u8 x])⟩) :: (1001, ⟨mapV Ao0_1, 65, 2, o0.fplaces.length, o0.fplaces.flatMap (mcell (fun x : ByteArray => Value.string x) (fun x : Int => Value.int .i64 x))⟩) :: (100060, ⟨.slice (some ⟨g1, 0, none⟩) [p1].length 1, 5, 1, [p1].length, [p1].flatMap (fun x : Int => [Value.int .u8 x])⟩) :: R, φ⟩ (fun W h => (ok_front (t := 1000) (t' := 1000) (ok_frontR (t := 1000) (t' := 1000) (ok_frontR (t := 1001) (t' := 1001) h rfl) rfl) rfl)) Try.call64 rfl rfl (c_pack_Packer_put [p1] (some ⟨g1, 0, none⟩) 1 (Nat.le_refl _) (fun W hS => rowCl (tag := 100060) rfl W hS) go0 o0 Ao0_0 co0_0 hco0_0 Ao0_1 co0_1 trivial _ hx3) (fun ⟨A4, c5, A7, c8⟩ ⟨hc5, hc8⟩ => ?_)
 refine g_sta _ (fun W h => (ok_frontR (t := 2000) (t' := 1000) (ok_frontR (t := 2001) (t' := 1001) (ok_front (t := 1000) (t' := 1000) h rfl) rfl) rfl)) ?_
 refine g_nil ?_
 replace hm := Option.some.inj hm
 subst hm
 refine d_sta _ (fun W h => ok_frontR (t := 1001) (t' := 2001) h rfl) ?_
 refine d_sta _ (fun W h => ok_frontR (t := 1000) (t' := 2000) h rfl) ?_
 refine d_retC (A4, c5, A7, c8) Try.results31 ?_ ⟨hc5, hc8⟩ (fun W h => (h.dropR (t := 100060) rfl).phi (fun W hφ => hφ)) (.inl rfl)
 refine res_nil ?_
 exact rfl

noncomputable def m_pack_Packer_Name_j1  (l100 : List Int) (l103 : List (ByteArray × Int)) : Option (Int × Gpack_Packer) :=
  (m_pack_Packer_Byte 0 (⟨l100, l103⟩ : Gpack_Packer)).bind fun x106 =>
  some (0, x106)
noncomputable def m_pack_Packer_Name_j4 (s164 : ByteArray) (l158 : List Int) (l233 : List (ByteArray × Int)) : Option (((List Int) × (List (ByteArray × Int)) × ByteArray) ⊕ (((List Int) × (List (ByteArray × Int))) ⊕ (Int × Gpack_Packer))) :=
  (sat_ s164 0).bind fun b236 =>
  (scutHi s164 (w64 (1 + (w64 b236)))).bind fun s237 =>
  (m_pack_Packer_Raw s237 (⟨l158, l233⟩ : Gpack_Packer)).bind fun x238 =>
  (scutLo s164 (w64 (1 + (w64 b236)))).bind fun s246 =>
  some (.inl (x238.fb, x238.fplaces, s246))
noncomputable def m_pack_Packer_Name_j5 (s164 : ByteArray) (l158 : List Int) (l253 : List (ByteArray × Int)) : Option (((List Int) × (List (ByteArray × Int)) × ByteArray) ⊕ (((List Int) × (List (ByteArray × Int))) ⊕ (Int × Gpack_Packer))) :=
  (mput (fun x : ByteArray => decide (x.size ≤ 9223372036854775807)) l253 s164 (l158.length : Int)).bind fun l258 =>
  m_pack_Packer_Name_j4 s164 l158 l258
noncomputable def m_pack_Packer_Name_j3 (x211 : Int × Bool) (s164 : ByteArray) (l158 : List Int) (l161 : List (ByteArray × Int)) : Option (((List Int) × (List (ByteArray × Int)) × ByteArray) ⊕ (((List Int) × (List (ByteArray × Int))) ⊕ (Int × Gpack_Packer))) :=
  if x211.2 = true then
    m_pack_Packer_Name_j4 s164 l158 l161
  else
    if (l158.length : Int) < 16384 then
      m_pack_Packer_Name_j5 s164 l158 l161
    else
      m_pack_Packer_Name_j4 s164 l158 l161
noncomputable def m_pack_Packer_Name_s2 (p2 : Bool) (l158 : List Int) (l161 : List (ByteArray × Int)) (s164 : ByteArray) : Option (((List Int) × (List (ByteArray × Int)) × ByteArray) ⊕ (((List Int) × (List (ByteArray × Int))) ⊕ (Int × Gpack_Packer))) :=
  if 1 < (s164.size : Int) then
    (mget (fun x : ByteArray => decide (x.size ≤ 9223372036854775807)) 0 l161 s164).bind fun x211 =>
    if x211.2 = true then
      if p2 = true then
        (m_pack_Packer_Word (orI .u16 49152 (IntKind.u16.wrap x211.1)) (⟨l158, l161⟩ : Gpack_Packer)).bind fun x264 =>
        some (.inr (.inr (0, x264)))
      else
        m_pack_Packer_Name_j3 x211 s164 l158 l161
    else
      m_pack_Packer_Name_j3 x211 s164 l158 l161
  else
    some (.inr (.inl (l158, l161)))
noncomputable def m_pack_Packer_Name (p1 : ByteArray) (p2 : Bool) (o0 : Gpack_Packer) : Option (Int × Gpack_Packer) :=
  (m_name_Check p1).bind fun x1 =>
  if x1 ≠ 0 then
    some (x1, o0)
  else
    (loop (fun s => m_pack_Packer_Name_s2 p2 s.1 s.2.1 s.2.2) (o0.fb, o0.fplaces, p1)).bind fun e => Sum.elim (fun e => m_pack_Packer_Name_j1 e.1 e.2) (fun x => some x) e
theorem c_pack_Packer_Name {w0 : World} {M : Nat → Prop} {H : List (Nat × Nat × Obj)} {R : List (Nat × Row)} {φ : World → Prop} (p1 : ByteArray) (p2 : Bool) (go0 : Nat) (o0 : Gpack_Packer) (Ao0_0 : Option Addr) (co0_0 : Nat) (hco0_0 : o0.fb.length ≤ co0_0) (Ao0_1 : Option Addr) (co0_1 : Nat) (hco0_1 : True) (r : Int × Gpack_Packer) (hm : m_pack_Packer_Name p1 p2 o0 = some r) :
    Cn Try.prog 27 #[.pointer (some ⟨go0, 0, none⟩), .string p1, .bool p2] ⟨w0, M, (1000, go0, .cells #[.slice Ao0_0 o0.fb.length co0_0, mapV Ao0_1] 67 (0, 0)) :: H, (1000, ⟨.slice Ao0_0 o0.fb.length co0_0, 5, 1, o0.fb.length, o0.fb.flatMap (fun x : Int => [Value.int .u8 x])⟩) :: (1001, ⟨mapV Ao0_1, 65, 2, o0.fplaces.length, o0.fplaces.flatMap (mcell (fun x : ByteArray => Value.string x) (fun x : Int => Value.int .i64 x))⟩) :: R, φ⟩ (fun x : Option Addr × Nat × Option Addr × Nat => .int .i64 r.1) (fun x => r.2.fb.length ≤ x.2.1 ∧ True) (fun x => ⟨w0, M, (1000, go0, .cells #[.slice x.1 r.2.fb.length x.2.1, mapV x.2.2.1] 67 (0, 0)) :: H, (2000, ⟨.slice x.1 r.2.fb.length x.2.1, 5, 1, r.2.fb.length, r.2.fb.flatMap (fun x : Int => [Value.int .u8 x])⟩) :: (2001, ⟨mapV x.2.2.1, 65, 2, r.2.fplaces.length, r.2.fplaces.flatMap (mcell (fun x : ByteArray => Value.string x) (fun x : Int => Value.int .i64 x))⟩) :: R, φ⟩) := by
 unfold m_pack_Packer_Name at hm
 refine cn_intro (fn := Try.f27) (N := 82) Try.func27 rfl Try.ntmps27 rfl ?_
 refine c_seq ?_
 refine c_region ?_
 refine g_v rfl r_assign ?_
 refine g_nil ?_
 refine d_then ?_
 refine c_seq ?_
 refine c_seq ?_
 refine c_region ?_
 refine g_v rfl r_move ?_
 refine g_v rfl (r_eqlP1 Try.underlying42 rfl rfl) ?_
 refine g_nil ?_
 refine d_then ?_
 refine c_cond0 rfl rfl ?_
 refine c_skip ?_
 refine d_then ?_
 refine c_seq ?_
 refine c_region ?_
 refine g_v rfl r_move ?_
 replace hm := bnd hm
 obtain ⟨x1, hx2, hm⟩ := hm
 refine g_cn ⟨w0, M, _, _, φ⟩ (fun _ h => h) Try.call18 rfl rfl (c_name_Check p1 _ hx2) (fun _ _ => ?_)
 refine g_v rfl r_assign ?_
 refine g_nil ?_
 refine d_then ?_
 refine c_seq ?_
 refine c_seq ?_
 refine c_region ?_
 refine g_v rfl r_move ?_
 refine g_v rfl (r_neq rfl rfl) ?_
 refine g_nil ?_
 refine d_then ?_
 refine c_cond rfl (fun h3 => ?_) (fun h3 => ?_)
 ·
  replace hm := ite_t hm (of_decide_eq_true h3)
  refine c_seq ?_
  refine c_region ?_
  refine g_v rfl r_move ?_
  refine g_v rfl r_assign ?_
  refine g_nil ?_
  refine d_then ?_
  refine c_flat [(6, .int .i64 x1)] ⟨rfl, trivial⟩ (fun u => ?_)
  refine c_sta ⟨w0, M, (1000, go0, .cells #[.slice Ao0_0 o0.fb.length co0_0, mapV Ao0_1] 67 (0, 0)) :: H, (1000, ⟨.slice Ao0_0 o0.fb.length co0_0, 5, 1, o0.fb.length, o0.fb.flatMap (fun x : Int => [Value.int .u8 x])⟩) :: (1001, ⟨mapV Ao0_1, 65, 2, o0.fplaces.length, o0.fplaces.flatMap (mcell (fun x : ByteArray => Value.string x) (fun x : Int => Value.int .i64 x))⟩) :: R, φ⟩ (fun _ h => h) ?_
  refine c_ret ?_
  refine d_ret_then ?_
  replace hm := Option.some.inj hm
  subst hm
  refine d_sta _ (fun W h => ok_frontR (t := 1001) (t' := 2001) h rfl) ?_
  refine d_sta _ (fun W h => ok_frontR (t := 1000) (t' := 2000) h rfl) ?_
  refine d_retC (Ao0_0, co0_0, Ao0_1, co0_1) Try.results27 ?_ ⟨hco0_0, hco0_1⟩ (fun W h => h.phi (fun W hφ => hφ)) (.inr rfl)
  refine res_tmp ?_
  refine res_nil ?_
  exact rfl
 ·
  replace hm := ite_f hm (of_decide_eq_false h3)
  refine c_skip ?_
  refine d_then ?_
  refine c_seq ?_
  refine c_cut (ι := (List Int) × (List (ByteArray × Int)) × Option Addr × Nat × Option Addr × Nat) [0] (fun ⟨l100, l103, A101, c102, A104, c105⟩ => []) (fun ⟨l100, l103, A101, c102, A104, c105⟩ => ⟨w0, M, (1000, go0, .cells #[.slice A101 l100.length c102, mapV A104] 67 (0, 0)) :: H, (1000, ⟨.slice A101 l100.length c102, 5, 1, l100.length, l100.flatMap (fun x : Int => [Value.int .u8 x])⟩) :: (1001, ⟨mapV A104, 65, 2, l103.length, l103.flatMap (mcell (fun x : ByteArray => Value.string x) (fun x : Int => Value.int .i64 x))⟩) :: R, φ⟩) (fun ⟨l100, l103, A101, c102, A104, c105⟩ => m_pack_Packer_Name_j1 l100 l103 = some r ∧ l100.length ≤ c102 ∧ True) ?_ (fun ⟨l100, l103, A101, c102, A104, c105⟩ u ⟨hm, hc102, hc105⟩ => ?_)
  ·
   refine c_block ?_
   replace hm := bnd hm
   obtain ⟨out2, hl2, hr2⟩ := hm
   obtain ⟨n209', hl2⟩ := loop_lp hl2
   refine c_loopU (ι := Nat × (List Int) × (List (ByteArray × Int)) × ByteArray × Option Addr × Nat × Option Addr × Nat) [0, 1, 2] (fun ⟨n209, l158, l161, s164, A159, c160, A162, c163⟩ => [(1, .string s164)]) (fun ⟨n209, l158, l161, s164, A159, c160, A162, c163⟩ => ⟨w0, M, (1000, go0, .cells #[.slice A159 l158.length c160, mapV A162] 67 (0, 0)) :: H, (1000, ⟨.slice A159 l158.length c160, 5, 1, l158.length, l158.flatMap (fun x : Int => [Value.int .u8 x])⟩) :: (1001, ⟨mapV A162, 65, 2, l161.length, l161.flatMap (mcell (fun x : ByteArray => Value.string x) (fun x : Int => Value.int .i64 x))⟩) :: R, φ⟩) (fun ⟨n209, l158, l161, s164, A159, c160, A162, c163⟩ => Lp (fun s => m_pack_Packer_Name_s2 p2 s.1 s.2.1 s.2.2) n209 (l158, l161, s164) out2 ∧ l158.length ≤ c160 ∧ True) (fun ⟨n209, l158, l161, s164, A159, c160, A162, c163⟩ => n209) (n209', o0.fb, o0.fplaces, p1, Ao0_0, co0_0, Ao0_1, co0_1) ⟨hl2, hco0_0, trivial⟩ ⟨rfl, rfl, rfl, trivial⟩ (fun W h => h.phi (fun W hφ => hφ)) (fun ⟨n209, l158, l161, s164, A159, c160, A162, c163⟩ u ⟨hlp, hc160, hc163⟩ => ?_)
   obtain ⟨o2, hm, hnx2⟩ := lp_step hlp
   clear hlp
   replace hm : m_pack_Packer_Name_s2 p2 l158 l161 s164 = some o2 := hm
   unfold m_pack_Packer_Name_s2 at hm
   refine c_flat [(0, .pointer (some ⟨go0, 0, none⟩)), (1, .string s164), (2, .bool p2)] ⟨rfl, rfl, rfl, trivial⟩ (fun u => ?_)
   refine c_sta ⟨w0, M, (1000, go0, .cells #[.slice A159 l158.length c160, mapV A162] 67 (0, 0)) :: H, (1000, ⟨.slice A159 l158.length c160, 5, 1, l158.length, l158.flatMap (fun x : Int => [Value.int .u8 x])⟩) :: (1001, ⟨mapV A162, 65, 2, l161.length, l161.flatMap (mcell (fun x : ByteArray => Value.string x) (fun x : Int => Value.int .i64 x))⟩) :: R, φ⟩ (fun _ h => h) ?_
   refine c_seq ?_
   refine c_seq ?_
   refine c_region ?_
   refine g_v rfl r_move ?_
   refine g_v rfl (r_len Try.underlying9 rfl) ?_
   refine g_v rfl (r_gtr rfl rfl) ?_
   refine g_nil ?_
   refine d_then ?_
   refine c_cond rfl (fun h210 => ?_) (fun h210 => ?_)
   ·
    replace hm := ite_t hm (of_decide_eq_true h210)
    refine c_skip ?_
    refine d_then ?_
    refine c_block ?_
    refine c_seq ?_
    refine c_region ?_
    refine g_v rfl r_move ?_
    refine g_v rfl (r_nilck rfl) ?_
    refine g_v rfl (r_field (n := 1) Try.underlying67 rfl Try.sizeOf65 rfl rfl) ?_
    refine g_v rfl (r_load (tag := 1000) rfl rfl rfl Try.isAgg65) ?_
    refine g_v rfl r_move ?_
    replace hm := bnd hm
    obtain ⟨x211, hx211, hm⟩ := hm
    refine g_v rfl (r_mget (tag := 1001) (n := l161.length) (l := l161) mapT65_3 rfl rfl rfl hx211) ?_
    refine g_v rfl r_move ?_
    refine g_v rfl (r_extract rfl rfl) ?_
    refine g_v rfl (r_extract rfl rfl) ?_
    refine g_v rfl r_assign ?_
    refine g_v rfl r_assign ?_
    refine g_nil ?_
    refine d_then ?_
    refine c_flat [(0, .pointer (some ⟨go0, 0, none⟩)), (1, .string s164), (2, .bool p2), (8, .int .i64 x211.1), (9, .bool x211.2)] ⟨rfl, rfl, rfl, rfl, rfl, trivial⟩ (fun u => ?_)
    refine c_sta ⟨w0, M, (1000, go0, .cells #[.slice A159 l158.length c160, mapV A162] 67 (0, 0)) :: H, (1000, ⟨.slice A159 l158.length c160, 5, 1, l158.length, l158.flatMap (fun x : Int => [Value.int .u8 x])⟩) :: (1001, ⟨mapV A162, 65, 2, l161.length, l161.flatMap (mcell (fun x : ByteArray => Value.string x) (fun x : Int => Value.int .i64 x))⟩) :: R, φ⟩ (fun _ h => h) ?_
    refine c_seq ?_
    refine c_cut (ι := Unit) [0, 1, 2, 9] (fun _ => []) (fun _ => ⟨w0, M, (1000, go0, .cells #[.slice A159 l158.length c160, mapV A162] 67 (0, 0)) :: H, (1000, ⟨.slice A159 l158.length c160, 5, 1, l158.length, l158.flatMap (fun x : Int => [Value.int .u8 x])⟩) :: (1001, ⟨mapV A162, 65, 2, l161.length, l161.flatMap (mcell (fun x : ByteArray => Value.string x) (fun x : Int => Value.int .i64 x))⟩) :: R, φ⟩) (fun _ => m_pack_Packer_Name_j3 x211 s164 l158 l161 = some o2) ?_ (fun _ u hm => ?_)
    ·
     refine c_seq ?_
     refine c_region ?_
     refine g_v rfl r_move ?_
     refine g_v rfl r_move ?_
     refine g_if rfl rfl rfl rfl rfl (fun h262 => ?_) (fun h262 => ?_)
     ·
      replace hm := ite_t hm h262
      refine g_v rfl r_move ?_
      refine g_v rfl (r_pick1 rfl h262) ?_
      refine g_nil ?_
      refine d_then ?_
      refine c_cond rfl (fun h263 => ?_) (fun h263 => ?_)
      ·
       replace hm := ite_t hm h263
       refine c_seq ?_
       refine c_region ?_
       refine g_v rfl r_move ?_
       refine g_v rfl r_move ?_
       refine g_v rfl (r_conv Try.underlying3 Try.underlying33 rfl rfl) ?_
       refine g_v rfl (r_bits_or rfl rfl) ?_
       replace hm := bnd hm
       obtain ⟨x264, hx265, hm⟩ := hm
       refine g_cn ⟨w0, M, (1000, go0, .cells #[.slice A159 l158.length c160, mapV A162] 67 (0, 0)) :: H, (1000, ⟨.slice A159 l158.length c160, 5, 1, l158.length, l158.flatMap (fun x : Int => [Value.int .u8 x])⟩) :: (1001, ⟨mapV A162, 65, 2, l161.length, l161.flatMap (mcell (fun x : ByteArray => Value.string x) (fun x : Int => Value.int .i64 x))⟩) :: R, φ⟩ (fun W h => (ok_front (t := 1000) (t' := 1000) (ok_frontR (t := 1000) (t' := 1000) (ok_frontR (t := 1001) (t' := 1001) h rfl) rfl) rfl)) Try.call30 rfl rfl (c_pack_Packer_Word (orI .u16 49152 (IntKind.u16.wrap x211.1)) go0 (⟨l158, l161⟩ : Gpack_Packer) A159 c160 hc160 A162 c163 trivial _ hx265) (fun ⟨A266, c267, A269, c270⟩ ⟨hc267, hc270⟩ => ?_)
       refine g_sta _ (fun W h => (ok_frontR (t := 2000) (t' := 1000) (ok_frontR (t := 2001) (t' := 1001) (ok_front (t := 1000) (t' := 1000) h rfl) rfl) rfl)) ?_
       refine g_nil ?_
       refine d_then ?_
       refine c_flat [] trivial (fun u => ?_)
       refine c_sta ⟨w0, M, (1000, go0, .cells #[.slice A266 x264.fb.length c267, mapV A269] 67 (0, 0)) :: H, (1000, ⟨.slice A266 x264.fb.length c267, 5, 1, x264.fb.length, x264.fb.flatMap (fun x : Int => [Value.int .u8 x])⟩) :: (1001, ⟨mapV A269, 65, 2, x264.fplaces.length, x264.fplaces.flatMap (mcell (fun x : ByteArray => Value.string x) (fun x : Int => Value.int .i64 x))⟩) :: R, φ⟩ (fun _ h => h) ?_
       refine c_seq ?_
       refine c_region ?_
       refine g_v rfl r_assign ?_
       refine g_nil ?_
       refine d_then ?_
       refine c_ret ?_
       refine d_ret_then ?_
       refine d_ret_then ?_
       refine d_ret_block ?_
       refine d_ret_then ?_
       refine d_ret_block ?_
       refine d_ret_then ?_
       refine d_ret_then ?_
       replace hm := nx_out (C := (fun e => Sum.elim (fun e => m_pack_Packer_Name_j1 e.1 e.2) (fun x => some x) e = some r)) hm hnx2 hr2
       replace hm : some (0, x264) = some r := hm
       replace hm := Option.some.inj hm
       subst hm
       refine d_sta _ (fun W h => ok_frontR (t := 1001) (t' := 2001) h rfl) ?_
       refine d_sta _ (fun W h => ok_frontR (t := 1000) (t' := 2000) h rfl) ?_
       refine d_retC (A266, c267, A269, c270) Try.results27 ?_ ⟨hc267, hc270⟩ (fun W h => h.phi (fun W hφ => hφ)) (.inr rfl)
       refine res_tmp ?_
       refine res_nil ?_
       exact rfl
      ·
       replace hm := ite_f hm (bool_nt h263)
       refine c_skip ?_
       exact d_round () hm Nat.zero_lt_one ⟨rfl, rfl, rfl, rfl, trivial⟩ (fun W h => h.phi (fun W hφ => hφ))
     ·
      replace hm := ite_f hm (bool_nt h262)
      refine g_v rfl (r_pick0 rfl h262) ?_
      refine g_nil ?_
      refine d_then ?_
      refine c_cond0 rfl rfl ?_
      refine c_skip ?_
      exact d_round () hm Nat.zero_lt_one ⟨rfl, rfl, rfl, rfl, trivial⟩ (fun W h => h.phi (fun W hφ => hφ))
    ·
     unfold m_pack_Packer_Name_j3 at hm
     refine d_flat [(0, .pointer (some ⟨go0, 0, none⟩)), (1, .string s164), (2, .bool p2), (9, .bool x211.2)] ⟨rfl, rfl, rfl, rfl, trivial⟩ (fun u => ?_)
     refine d_sta ⟨w0, M, (1000, go0, .cells #[.slice A159 l158.length c160, mapV A162] 67 (0, 0)) :: H, (1000, ⟨.slice A159 l158.length c160, 5, 1, l158.length, l158.flatMap (fun x : Int => [Value.int .u8 x])⟩) :: (1001, ⟨mapV A162, 65, 2, l161.length, l161.flatMap (mcell (fun x : ByteArray => Value.string x) (fun x : Int => Value.int .i64 x))⟩) :: R, φ⟩ (fun _ h => h) ?_
     refine d_then ?_
     refine c_seq ?_
     refine c_cut (ι := (List (ByteArray × Int)) × Option Addr × Nat) [0, 1, 2] (fun ⟨l233, A234, c235⟩ => []) (fun ⟨l233, A234, c235⟩ => ⟨w0, M, (1000, go0, .cells #[.slice A159 l158.length c160, mapV A234] 67 (0, 0)) :: H, (1000, ⟨.slice A159 l158.length c160, 5, 1, l158.length, l158.flatMap (fun x : Int => [Value.int .u8 x])⟩) :: (1001, ⟨mapV A234, 65, 2, l233.length, l233.flatMap (mcell (fun x : ByteArray => Value.string x) (fun x : Int => Value.int .i64 x))⟩) :: R, φ⟩) (fun ⟨l233, A234, c235⟩ => m_pack_Packer_Name_j4 s164 l158 l233 = some o2 ∧ True) ?_ (fun ⟨l233, A234, c235⟩ u ⟨hm, hc235⟩ => ?_)
     ·
      refine c_seq ?_
      refine c_region ?_
      refine g_v rfl r_move ?_
      refine g_v rfl (r_not rfl) ?_
      refine g_v rfl r_move ?_
      refine g_if rfl rfl rfl rfl rfl (fun h248 => ?_) (fun h248 => ?_)
      ·
       have h248' : x211.2 = false := by revert h248; cases x211.2 <;> simp
       replace hm := ite_f hm (bool_nt h248')
       refine g_v rfl r_move ?_
       refine g_do rfl rfl rfl rfl rfl h248 ?_
       refine g_v rfl (r_nilck rfl) ?_
       refine g_do rfl rfl rfl rfl rfl h248 ?_
       refine g_v rfl (r_field (n := 0) Try.underlying67 rfl Try.sizeOf58 rfl rfl) ?_
       refine g_do rfl rfl rfl rfl rfl h248 ?_
       refine g_v rfl (r_load (tag := 1000) rfl rfl rfl Try.isAgg58) ?_
       refine g_do rfl rfl rfl rfl rfl h248 ?_
       refine g_v rfl (r_lenL Try.underlying58 rfl) ?_
       refine g_do rfl rfl rfl rfl rfl h248 ?_
       refine g_v rfl (r_lss rfl rfl) ?_
       refine g_v rfl (r_pick1 rfl h248) ?_
       refine g_nil ?_
       refine d_then ?_
       refine c_flat [(0, .pointer (some ⟨go0, 0, none⟩)), (1, .string s164), (2, .bool p2), (48, .bool (decide ((l158.length : Int) < 16384)))] ⟨rfl, rfl, rfl, rfl, trivial⟩ (fun u => ?_)
       refine c_sta ⟨w0, M, (1000, go0, .cells #[.slice A159 l158.length c160, mapV A162] 67 (0, 0)) :: H, (1000, ⟨.slice A159 l158.length c160, 5, 1, l158.length, l158.flatMap (fun x : Int => [Value.int .u8 x])⟩) :: (1001, ⟨mapV A162, 65, 2, l161.length, l161.flatMap (mcell (fun x : ByteArray => Value.string x) (fun x : Int => Value.int .i64 x))⟩) :: R, φ⟩ (fun _ h => h) ?_
       refine c_cond rfl (fun h249 => ?_) (fun h249 => ?_)
       ·
        replace hm := ite_t hm (of_decide_eq_true h249)
        refine c_seq ?_
        refine c_cut (ι := (List (ByteArray × Int)) × Option Addr × Nat) [0, 1, 2] (fun ⟨l253, A254, c255⟩ => []) (fun ⟨l253, A254, c255⟩ => ⟨w0, M, (1000, go0, .cells #[.slice A159 l158.length c160, mapV A254] 67 (0, 0)) :: H, (1000, ⟨.slice A159 l158.length c160, 5, 1, l158.length, l158.flatMap (fun x : Int => [Value.int .u8 x])⟩) :: (1001, ⟨mapV A254, 65, 2, l253.length, l253.flatMap (mcell (fun x : ByteArray => Value.string x) (fun x : Int => Value.int .i64 x))⟩) :: R, φ⟩) (fun ⟨l253, A254, c255⟩ => m_pack_Packer_Name_j5 s164 l158 l253 = some o2 ∧ A254.isSome = true) ?_ (fun ⟨l253, A254, c255⟩ u ⟨hm, hc255⟩ => ?_)
        ·
         refine c_seq ?_
         refine c_region ?_
         refine g_v rfl r_move ?_
         refine g_v rfl (r_nilck rfl) ?_
         refine g_v rfl (r_field (n := 1) Try.underlying67 rfl Try.sizeOf65 rfl rfl) ?_
         refine g_v rfl (r_load (tag := 1000) rfl rfl rfl Try.isAgg65) ?_
         refine g_v rfl (r_isNilM Try.underlying65 rfl rfl) ?_
         refine g_nil ?_
         refine d_then ?_
         refine c_cond rfl (fun h259 => ?_) (fun h259 => ?_)
         ·
          refine c_know (l161 = []) (fun W hS => nil_map (tag := 1001) hS rfl h259) (fun hl260 => ?_)
          obtain rfl := Option.isNone_iff_eq_none.1 h259
          refine c_sta _ (fun W h => Sta.ok.dropR (t := 1001) h rfl) ?_
          refine c_region ?_
          refine g_v rfl r_move ?_
          refine g_e rfl (e_mmake (kenc := (fun x : ByteArray => Value.string x)) (venc := (fun x : Int => Value.int .i64 x)) 1001 65 hl260) (fun g261 _ => ?_)
          refine g_v rfl (r_nilck rfl) ?_
          refine g_v rfl (r_field (n := 1) Try.underlying67 rfl Try.sizeOf65 rfl rfl) ?_
          refine g_storeL (tag := 1000) rfl rfl rfl rfl Try.sizeOf65 rfl rfl ?_
          refine g_nil ?_
          exact d_round (l161, some ⟨g261, 0, none⟩, 0) ⟨hm, rfl⟩ Nat.zero_lt_one ⟨rfl, rfl, rfl, trivial⟩ (fun W h => (ok_frontR (t := 1000) (t' := 1000) (ok_frontR (t := 1001) (t' := 1001) h rfl) rfl).phi (fun W hφ => hφ))
         ·
          refine c_skip ?_
          exact d_round (l161, A162, c163) ⟨hm, (some_of_no h259)⟩ Nat.zero_lt_one ⟨rfl, rfl, rfl, trivial⟩ (fun W h => h.phi (fun W hφ => hφ))
        ·
         unfold m_pack_Packer_Name_j5 at hm
         refine d_flat [(0, .pointer (some ⟨go0, 0, none⟩)), (1, .string s164), (2, .bool p2)] ⟨rfl, rfl, rfl, trivial⟩ (fun u => ?_)
         refine d_sta ⟨w0, M, (1000, go0, .cells #[.slice A159 l158.length c160, mapV A254] 67 (0, 0)) :: H, (1000, ⟨.slice A159 l158.length c160, 5, 1, l158.length, l158.flatMap (fun x : Int => [Value.int .u8 x])⟩) :: (1001, ⟨mapV A254, 65, 2, l253.length, l253.flatMap (mcell (fun x : ByteArray => Value.string x) (fun x : Int => Value.int .i64 x))⟩) :: R, φ⟩ (fun _ h => h) ?_
         refine d_then ?_
         refine ga_start (n := 11) ⟨w0, M, (1000, go0, .cells #[.slice A159 l158.length c160, mapV A254] 67 (0, 0)) :: H, (1000, ⟨.slice A159 l158.length c160, 5, 1, l158.length, l158.flatMap (fun x : Int => [Value.int .u8 x])⟩) :: R, φ⟩ [10] #[false, false, false, false, false, false, false, false, false, false, false] (fun W h => (h.dropR (t := 1001) rfl).phi (fun W hφ => hφ)) mixed rfl rfl ?_
         refine ga_v (i := 0) #[true, false, false, false, false, false, false, false, false, false, false] rfl (by kernel_rfl) (fun _ _ _ _ h => h) rfl (r_move) ?_
         refine ga_v (i := 1) #[true, true, false, false, false, false, false, false, false, false, false] rfl (by kernel_rfl) (fun _ _ _ _ h => h) rfl (r_nilck rfl) ?_
         refine ga_v (i := 2) #[true, true, true, false, false, false, false, false, false, false, false] rfl (by kernel_rfl) (fun _ _ _ _ h => h) rfl (r_field (n := 1) Try.underlying67 rfl Try.sizeOf65 rfl rfl) ?_
         refine ga_v (i := 3) #[true, true, true, true, false, false, false, false, false, false, false] rfl (by kernel_rfl) (fun _ _ _ _ h => h) rfl (r_load (tag := 1000) rfl rfl rfl Try.isAgg65) ?_
         refine ga_v (i := 4) #[true, true, true, true, true, false, false, false, false, false, false] rfl (by kernel_rfl) (fun _ _ _ _ h => h) rfl (r_move) ?_
         refine ga_r (i := 5) #[true, true, true, true, true, true, false, false, false, false, false] rfl (by kernel_rfl) (by decide) rfl (r_move) ?_
         refine ga_r (i := 6) #[true, true, true, true, true, true, true, false, false, false, false] rfl (by kernel_rfl) (by decide) rfl (r_nilck rfl) ?_
         refine ga_r (i := 7) #[true, true, true, true, true, true, true, true, false, false, false] rfl (by kernel_rfl) (by decide) rfl (r_field (n := 0) Try.underlying67 rfl Try.sizeOf58 rfl rfl) ?_
         refine ga_r (i := 8) #[true, true, true, true, true, true, true, true, true, false, false] rfl (by kernel_rfl) (by decide) rfl (r_load (tag := 1000) rfl rfl rfl Try.isAgg58) ?_
         refine ga_r (i := 9) #[true, true, true, true, true, true, true, true, true, true, false] rfl (by kernel_rfl) (by decide) rfl (r_lenL Try.underlying58 rfl) ?_
         replace hm := bnd hm
         obtain ⟨l258, hl258, hm⟩ := hm
         refine ga_sL (i := 10) #[true, true, true, true, true, true, true, true, true, true, true] rfl (by kernel_rfl) (by decide) (e_mput (tag := 1001) (l := l253) mapT65_3 rfl rfl rfl hc255 rfl hl258) ?_
         refine gz_done (by kernel_rfl) ?_
         exact d_round (l258, A254, c255) ⟨hm, trivial⟩ Nat.zero_lt_one ⟨rfl, rfl, rfl, trivial⟩ (fun W h => h.phi (fun W hφ => hφ))
       ·
        replace hm := ite_f hm (of_decide_eq_false h249)
        refine c_skip ?_
        exact d_round (l161, A162, c163) ⟨hm, trivial⟩ Nat.zero_lt_one ⟨rfl, rfl, rfl, trivial⟩ (fun W h => h.phi (fun W hφ => hφ))
      ·
       have h248' : x211.2 = true := by revert h248; cases x211.2 <;> simp
       replace hm := ite_t hm h248'
       refine g_no rfl rfl rfl rfl rfl h248 ?_
       refine g_no rfl rfl rfl rfl rfl h248 ?_
       refine g_no rfl rfl rfl rfl rfl h248 ?_
       refine g_no rfl rfl rfl rfl rfl h248 ?_
       refine g_no rfl rfl rfl rfl rfl h248 ?_
       refine g_v rfl (r_pick0 rfl h248) ?_
       refine g_nil ?_
       refine d_then ?_
       refine c_cond0 rfl rfl ?_
       refine c_skip ?_
       exact d_round (l161, A162, c163) ⟨hm, trivial⟩ Nat.zero_lt_one ⟨rfl, rfl, rfl, trivial⟩ (fun W h => h.phi (fun W hφ => hφ))
     ·
      unfold m_pack_Packer_Name_j4 at hm
      refine d_flat [(0, .pointer (some ⟨go0, 0, none⟩)), (1, .string s164), (2, .bool p2)] ⟨rfl, rfl, rfl, trivial⟩ (fun u => ?_)
      refine d_sta ⟨w0, M, (1000, go0, .cells #[.slice A159 l158.length c160, mapV A234] 67 (0, 0)) :: H, (1000, ⟨.slice A159 l158.length c160, 5, 1, l158.length, l158.flatMap (fun x : Int => [Value.int .u8 x])⟩) :: (1001, ⟨mapV A234, 65, 2, l233.length, l233.flatMap (mcell (fun x : ByteArray => Value.string x) (fun x : Int => Value.int .i64 x))⟩) :: R, φ⟩ (fun _ h => h) ?_
      refine d_then ?_
      refine c_seq ?_
      refine c_region ?_
      refine g_v rfl r_move ?_
      replace hm := bnd hm
      obtain ⟨b236, hb236, hm⟩ := hm
      refine g_v rfl (r_sat Try.underlying9 rfl rfl hb236) ?_
      refine g_v rfl (r_conv Try.underlying5 Try.underlying3 rfl rfl) ?_
      refine g_v rfl (r_add rfl rfl rfl) ?_
      refine g_v rfl r_assign ?_
      refine g_nil ?_
      refine d_then ?_
      refine c_seq ?_
      refine c_region ?_
      refine g_v rfl r_move ?_
      refine g_v rfl r_move ?_
      refine g_v rfl r_move ?_
      replace hm := bnd hm
      obtain ⟨s237, hs237, hm⟩ := hm
      refine g_v rfl (r_scutHi Try.underlying9 rfl rfl hs237) ?_
      replace hm := bnd hm
      obtain ⟨x238, hx239, hm⟩ := hm
      refine g_cn ⟨w0, M, (1000, go0, .cells #[.slice A159 l158.length c160, mapV A234] 67 (0, 0)) :: H, (1000, ⟨.slice A159 l158.length c160, 5, 1, l158.length, l158.flatMap (fun x : Int => [Value.int .u8 x])⟩) :: (1001, ⟨mapV A234, 65, 2, l233.length, l233.flatMap (mcell (fun x : ByteArray => Value.string x) (fun x : Int => Value.int .i64 x))⟩) :: R, φ⟩ (fun W h => (ok_front (t := 1000) (t' := 1000) (ok_frontR (t := 1000) (t' := 1000) (ok_frontR (t := 1001) (t' := 1001) h rfl) rfl) rfl)) Try.call28 rfl rfl (c_pack_Packer_Raw s237 go0 (⟨l158, l233⟩ : Gpack_Packer) A159 c160 hc160 A234 c235 trivial _ hx239) (fun ⟨A240, c241, A243, c244⟩ ⟨hc241, hc244⟩ => ?_)
      refine g_sta _ (fun W h => (ok_frontR (t := 2000) (t' := 1000) (ok_frontR (t := 2001) (t' := 1001) (ok_front (t := 1000) (t' := 1000) h rfl) rfl) rfl)) ?_
      refine g_nil ?_
      refine d_then ?_
      refine c_flat [(0, .pointer (some ⟨go0, 0, none⟩)), (1, .string s164), (2, .bool p2), (10, .int .i64 (w64 (1 + (w64 b236))))] ⟨rfl, rfl, rfl, rfl, trivial⟩ (fun u => ?_)
      refine c_sta ⟨w0, M, (1000, go0, .cells #[.slice A240 x238.fb.length c241, mapV A243] 67 (0, 0)) :: H, (1000, ⟨.slice A240 x238.fb.length c241, 5, 1, x238.fb.length, x238.fb.flatMap (fun x : Int => [Value.int .u8 x])⟩) :: (1001, ⟨mapV A243, 65, 2, x238.fplaces.length, x238.fplaces.flatMap (mcell (fun x : ByteArray => Value.string x) (fun x : Int => Value.int .i64 x))⟩) :: R, φ⟩ (fun _ h => h) ?_
      refine c_region ?_
      refine g_v rfl r_move ?_
      refine g_v rfl r_move ?_
      replace hm := bnd hm
      obtain ⟨s246, hs246, hm⟩ := hm
      refine g_v rfl (r_scutLo Try.underlying9 rfl rfl hs246) ?_
      refine g_v rfl r_assign ?_
      refine g_nil ?_
      refine d_normal_block ?_
      obtain ⟨n247, hn247, hlp⟩ := nx_inl hm hnx2
      exact d_round (n247, x238.fb, x238.fplaces, s246, A240, c241, A243, c244) ⟨hlp, hc241, trivial⟩ hn247 ⟨rfl, rfl, rfl, trivial⟩ (fun W h => h.phi (fun W hφ => hφ))
   ·
    replace hm := ite_f hm (of_decide_eq_false h210)
    refine c_exit ?_
    refine d_exit_then ?_
    refine d_exit_then ?_
    refine d_exit_block ?_
    replace hm := nx_out (C := (fun e => Sum.elim (fun e => m_pack_Packer_Name_j1 e.1 e.2) (fun x => some x) e = some r)) hm hnx2 hr2
    exact d_round (l158, l161, A159, c160, A162, c163) ⟨hm, hc160, trivial⟩ Nat.zero_lt_one ⟨rfl, trivial⟩ (fun W h => h.phi (fun W hφ => hφ))
  ·
   unfold m_pack_Packer_Name_j1 at hm
   refine d_flat [(0, .pointer (some ⟨go0, 0, none⟩))] ⟨rfl, trivial⟩ (fun u => ?_)
   refine d_sta ⟨w0, M, (1000, go0, .cells #[.slice A101 l100.length c102, mapV A104] 67 (0, 0)) :: H, (1000, ⟨.slice A101 l100.length c102, 5, 1, l100.length, l100.flatMap (fun x : Int => [Value.int .u8 x])⟩) :: (1001, ⟨mapV A104, 65, 2, l103.length, l103.flatMap (mcell (fun x : ByteArray => Value.string x) (fun x : Int => Value.int .i64 x))⟩) :: R, φ⟩ (fun _ h => h) ?_
   refine d_then ?_
   refine c_seq ?_
   refine c_region ?_
   refine g_v rfl r_move ?_
   replace hm := bnd hm
   obtain ⟨x106, hx107, hm⟩ := hm
   refine g_cn ⟨w0, M, (1000, go0, .cells #[.slice A101 l100.length c102, mapV A104] 67 (0, 0)) :: H, (1000, ⟨.slice A101 l100.length c102, 5, 1, l100.length, l100.flatMap (fun x : Int => [Value.int .u8 x])⟩) :: (1001, ⟨mapV A104, 65, 2, l103.length, l103.flatMap (mcell (fun x : ByteArray => Value.string x) (fun x : Int => Value.int .i64 x))⟩) :: R, φ⟩ (fun W h => (ok_front (t := 1000) (t' := 1000) (ok_frontR (t := 1000) (t' := 1000) (ok_frontR (t := 1001) (t' := 1001) h rfl) rfl) rfl)) Try.call31 rfl rfl (c_pack_Packer_Byte 0 go0 (⟨l100, l103⟩ : Gpack_Packer) A101 c102 hc102 A104 c105 trivial _ hx107) (fun ⟨A108, c109, A111, c112⟩ ⟨hc109, hc112⟩ => ?_)
   refine g_sta _ (fun W h => (ok_frontR (t := 2000) (t' := 1000) (ok_frontR (t := 2001) (t' := 1001) (ok_front (t := 1000) (t' := 1000) h rfl) rfl) rfl)) ?_
   refine g_nil ?_
   refine d_then ?_
   refine c_seq ?_
   refine c_region ?_
   refine g_v rfl r_assign ?_
   refine g_nil ?_
   refine d_then ?_
   refine c_ret ?_
   replace hm := Option.some.inj hm
   subst hm
   refine d_sta _ (fun W h => ok_frontR (t := 1001) (t' := 2001) h rfl) ?_
   refine d_sta _ (fun W h => ok_frontR (t := 1000) (t' := 2000) h rfl) ?_
   refine d_retC (A108, c109, A111, c112) Try.results27 ?_ ⟨hc109, hc112⟩ (fun W h => h.phi (fun W hφ => hφ)) (.inr rfl)
   refine res_tmp ?_
   refine res_nil ?_
   exact rfl

noncomputable def m_pack_Packer_Bytes (o0 : Gpack_Packer) : Option ByteArray :=
  some (strOfNums o0.fb)
theorem c_pack_Packer_Bytes {w0 : World} {M : Nat → Prop} {H : List (Nat × Nat × Obj)} {R : List (Nat × Row)} {φ : World → Prop} (go0 : Nat) (o0 : Gpack_Packer) (Ao0_0 : Option Addr) (co0_0 : Nat) (hco0_0 : o0.fb.length ≤ co0_0) (Ao0_1 : Option Addr) (co0_1 : Nat) (hco0_1 : True) (r : ByteArray) (hm : m_pack_Packer_Bytes o0 = some r) :
    Cn Try.prog 29 #[.pointer (some ⟨go0, 0, none⟩)] ⟨w0, M, (1000, go0, .cells #[.slice Ao0_0 o0.fb.length co0_0, mapV Ao0_1] 67 (0, 0)) :: H, (1000, ⟨.slice Ao0_0 o0.fb.length co0_0, 5, 1, o0.fb.length, o0.fb.flatMap (fun x : Int => [Value.int .u8 x])⟩) :: (1001, ⟨mapV Ao0_1, 65, 2, o0.fplaces.length, o0.fplaces.flatMap (mcell (fun x : ByteArray => Value.string x) (fun x : Int => Value.int .i64 x))⟩) :: R, φ⟩ (fun x : Unit => .string r) (fun x => True) (fun x => ⟨w0, M, (1000, go0, .cells #[.slice Ao0_0 o0.fb.length co0_0, mapV Ao0_1] 67 (0, 0)) :: H, (1000, ⟨.slice Ao0_0 o0.fb.length co0_0, 5, 1, o0.fb.length, o0.fb.flatMap (fun x : Int => [Value.int .u8 x])⟩) :: (1001, ⟨mapV Ao0_1, 65, 2, o0.fplaces.length, o0.fplaces.flatMap (mcell (fun x : ByteArray => Value.string x) (fun x : Int => Value.int .i64 x))⟩) :: R, φ⟩) := by
 unfold m_pack_Packer_Bytes at hm
 refine cn_intro (fn := Try.f29) (N := 10) Try.func29 rfl Try.ntmps29 rfl ?_
 refine c_seq ?_
 refine c_region ?_
 refine g_v rfl r_assign ?_
 refine g_nil ?_
 refine d_then ?_
 refine c_seq ?_
 refine c_seq ?_
 refine c_region ?_
 refine g_v rfl r_move ?_
 refine g_v rfl (r_eqlP1 Try.underlying42 rfl rfl) ?_
 refine g_nil ?_
 refine d_then ?_
 refine c_cond0 rfl rfl ?_
 refine c_skip ?_
 refine d_then ?_
 refine c_seq ?_
 refine c_region ?_
 refine g_v rfl r_move ?_
 refine g_v rfl (r_nilck rfl) ?_
 refine g_v rfl (r_field (n := 0) Try.underlying67 rfl Try.sizeOf58 rfl rfl) ?_
 refine g_v rfl (r_load (tag := 1000) rfl rfl rfl Try.isAgg58) ?_
 refine g_v rfl (r_textE Try.underlying58 Try.underlying5 Try.underlying9 rfl (fun W hS => rowCl (tag := 1000) rfl W hS)) ?_
 refine g_v rfl r_assign ?_
 refine g_nil ?_
 refine d_then ?_
 refine c_flat [(2, .string (strOfNums o0.fb))] ⟨rfl, trivial⟩ (fun u => ?_)
 refine c_sta ⟨w0, M, (1000, go0, .cells #[.slice Ao0_0 o0.fb.length co0_0, mapV Ao0_1] 67 (0, 0)) :: H, (1000, ⟨.slice Ao0_0 o0.fb.length co0_0, 5, 1, o0.fb.length, o0.fb.flatMap (fun x : Int => [Value.int .u8 x])⟩) :: (1001, ⟨mapV Ao0_1, 65, 2, o0.fplaces.length, o0.fplaces.flatMap (mcell (fun x : ByteArray => Value.string x) (fun x : Int => Value.int .i64 x))⟩) :: R, φ⟩ (fun _ h => h) ?_
 refine c_ret ?_
 replace hm := Option.some.inj hm
 subst hm
 refine d_retC () Try.results29 ?_ trivial (fun W h => h.phi (fun W hφ => hφ)) (.inr rfl)
 refine res_tmp ?_
 refine res_nil ?_
 exact rfl

noncomputable def m_pack_Raw (p0 : ByteArray) (p1 : Int) (p2 : Int) : Option (ByteArray × Int × Int) :=
  if p1 < 0 then
    some ((⟨#[]⟩ : ByteArray), 0, 10)
  else
    if p2 < 0 then
      some ((⟨#[]⟩ : ByteArray), 0, 10)
    else
      if (p0.size : Int) < p1 then
        some ((⟨#[]⟩ : ByteArray), 0, 10)
      else
        if w64 ((p0.size : Int) - p1) < p2 then
          some ((⟨#[]⟩ : ByteArray), 0, 10)
        else
          (scutMid p0 p1 (w64 (p1 + p2))).bind fun s5 =>
          some (s5, w64 (p1 + p2), 0)
theorem c_pack_Raw {w0 : World} {M : Nat → Prop} {H : List (Nat × Nat × Obj)} {R : List (Nat × Row)} {φ : World → Prop} (p0 : ByteArray) (p1 : Int) (p2 : Int) (r : ByteArray × Int × Int) (hm : m_pack_Raw p0 p1 p2 = some r) :
    Cn Try.prog 23 #[.string p0, .int .i64 p1, .int .i64 p2] ⟨w0, M, H, R, φ⟩ (fun x : Unit => .tuple #[.string r.1, .int .i64 r.2.1, .int .i64 r.2.2]) (fun x => True) (fun x => ⟨w0, M, H, R, φ⟩) := by
 unfold m_pack_Raw at hm
 refine cn_intro (fn := Try.f23) (N := 38) Try.func23 rfl Try.ntmps23 rfl ?_
 refine c_seq ?_
 refine c_region ?_
 refine g_v rfl r_assign ?_
 refine g_v rfl r_assign ?_
 refine g_v rfl r_assign ?_
 refine g_nil ?_
 refine d_then ?_
 refine c_seq ?_
 refine c_seq ?_
 refine c_region ?_
 refine g_v rfl r_move ?_
 refine g_v rfl (r_lss rfl rfl) ?_
 refine g_v rfl r_move ?_
 refine g_if rfl rfl rfl rfl rfl (fun h1 => ?_) (fun h1 => ?_)
 ·
  replace hm := ite_f hm (of_decide_eq_false h1)
  refine g_v rfl r_move ?_
  refine g_do rfl rfl rfl rfl rfl h1 ?_
  refine g_v rfl (r_lss rfl rfl) ?_
  refine g_v rfl (r_pick0 rfl h1) ?_
  refine g_v rfl r_move ?_
  refine g_if rfl rfl rfl rfl rfl (fun h2 => ?_) (fun h2 => ?_)
  ·
   replace hm := ite_f hm (of_decide_eq_false h2)
   refine g_v rfl r_move ?_
   refine g_do rfl rfl rfl rfl rfl h2 ?_
   refine g_v rfl r_move ?_
   refine g_do rfl rfl rfl rfl rfl h2 ?_
   refine g_v rfl (r_len Try.underlying9 rfl) ?_
   refine g_do rfl rfl rfl rfl rfl h2 ?_
   refine g_v rfl (r_gtr rfl rfl) ?_
   refine g_v rfl (r_pick0 rfl h2) ?_
   refine g_v rfl r_move ?_
   refine g_if rfl rfl rfl rfl rfl (fun h3 => ?_) (fun h3 => ?_)
   ·
    replace hm := ite_f hm (of_decide_eq_false h3)
    refine g_v rfl r_move ?_
    refine g_do rfl rfl rfl rfl rfl h3 ?_
    refine g_v rfl r_move ?_
    refine g_do rfl rfl rfl rfl rfl h3 ?_
    refine g_v rfl (r_len Try.underlying9 rfl) ?_
    refine g_do rfl rfl rfl rfl rfl h3 ?_
    refine g_v rfl r_move ?_
    refine g_do rfl rfl rfl rfl rfl h3 ?_
    refine g_v rfl (r_sub rfl rfl rfl) ?_
    refine g_do rfl rfl rfl rfl rfl h3 ?_
    refine g_v rfl (r_gtr rfl rfl) ?_
    refine g_v rfl (r_pick0 rfl h3) ?_
    refine g_nil ?_
    refine d_then ?_
    refine c_flat [(0, .string p0), (1, .int .i64 p1), (2, .int .i64 p2), (28, .bool (decide (w64 ((p0.size : Int) - p1) < p2)))] ⟨rfl, rfl, rfl, rfl, trivial⟩ (fun u => ?_)
    refine c_sta ⟨w0, M, H, R, φ⟩ (fun _ h => h) ?_
    refine c_cond rfl (fun h4 => ?_) (fun h4 => ?_)
    ·
     replace hm := ite_t hm (of_decide_eq_true h4)
     refine c_seq ?_
     refine c_region ?_
     refine g_v rfl r_assign ?_
     refine g_v rfl r_assign ?_
     refine g_v rfl r_assign ?_
     refine g_nil ?_
     refine d_then ?_
     refine c_ret ?_
     refine d_ret_then ?_
     replace hm := Option.some.inj hm
     subst hm
     refine d_retC () Try.results23 ?_ trivial (fun W h => ok_pre (H1 := []) (R1 := []) h (fun W hφ => hφ)) (.inr rfl)
     refine res_tmp ?_
     refine res_tmp ?_
     refine res_tmp ?_
     refine res_nil ?_
     exact rfl
    ·
     replace hm := ite_f hm (of_decide_eq_false h4)
     refine c_skip ?_
     refine d_then ?_
     refine c_seq ?_
     refine c_region ?_
     refine g_v rfl r_move ?_
     refine g_v rfl r_move ?_
     refine g_v rfl r_move ?_
     refine g_v rfl r_move ?_
     refine g_v rfl (r_add rfl rfl rfl) ?_
     replace hm := bnd hm
     obtain ⟨s5, hs5, hm⟩ := hm
     refine g_v rfl (r_scutMid Try.underlying9 rfl rfl rfl hs5) ?_
     refine g_v rfl r_move ?_
     refine g_v rfl r_move ?_
     refine g_v rfl (r_add rfl rfl rfl) ?_
     refine g_v rfl r_assign ?_
     refine g_v rfl r_assign ?_
     refine g_v rfl r_assign ?_
     refine g_nil ?_
     refine d_then ?_
     refine c_flat [(6, .string s5), (7, .int .i64 (w64 (p1 + p2))), (8, .int .i64 0)] ⟨rfl, rfl, rfl, trivial⟩ (fun u => ?_)
     refine c_sta ⟨w0, M, H, R, φ⟩ (fun _ h => h) ?_
     refine c_ret ?_
     replace hm := Option.some.inj hm
     subst hm
     refine d_retC () Try.results23 ?_ trivial (fun W h => ok_pre (H1 := []) (R1 := []) h (fun W hφ => hφ)) (.inr rfl)
     refine res_tmp ?_
     refine res_tmp ?_
     refine res_tmp ?_
     refine res_nil ?_
     exact rfl
   ·
    replace hm := ite_t hm (of_decide_eq_true h3)
    refine g_no rfl rfl rfl rfl rfl h3 ?_
    refine g_no rfl rfl rfl rfl rfl h3 ?_
    refine g_no rfl rfl rfl rfl rfl h3 ?_
    refine g_no rfl rfl rfl rfl rfl h3 ?_
    refine g_no rfl rfl rfl rfl rfl h3 ?_
    refine g_v rfl (r_pick1 rfl h3) ?_
    refine g_nil ?_
    refine d_then ?_
    refine c_flat [(0, .string p0), (1, .int .i64 p1), (2, .int .i64 p2), (28, .bool true)] ⟨rfl, rfl, rfl, rfl, trivial⟩ (fun u => ?_)
    refine c_sta ⟨w0, M, H, R, φ⟩ (fun _ h => h) ?_
    refine c_cond1 rfl rfl ?_
    refine c_seq ?_
    refine c_region ?_
    refine g_v rfl r_assign ?_
    refine g_v rfl r_assign ?_
    refine g_v rfl r_assign ?_
    refine g_nil ?_
    refine d_then ?_
    refine c_ret ?_
    refine d_ret_then ?_
    replace hm := Option.some.inj hm
    subst hm
    refine d_retC () Try.results23 ?_ trivial (fun W h => ok_pre (H1 := []) (R1 := []) h (fun W hφ => hφ)) (.inr rfl)
    refine res_tmp ?_
    refine res_tmp ?_
    refine res_tmp ?_
    refine res_nil ?_
    exact rfl
  ·
   replace hm := ite_t hm (of_decide_eq_true h2)
   refine g_no rfl rfl rfl rfl rfl h2 ?_
   refine g_no rfl rfl rfl rfl rfl h2 ?_
   refine g_no rfl rfl rfl rfl rfl h2 ?_
   refine g_v rfl (r_pick1 rfl h2) ?_
   refine g_v rfl r_move ?_
   refine g_no rfl rfl rfl rfl rfl rfl ?_
   refine g_no rfl rfl rfl rfl rfl rfl ?_
   refine g_no rfl rfl rfl rfl rfl rfl ?_
   refine g_no rfl rfl rfl rfl rfl rfl ?_
   refine g_no rfl rfl rfl rfl rfl rfl ?_
   refine g_no rfl rfl rfl rfl rfl rfl ?_
   refine g_v rfl (r_pick1 rfl rfl) ?_
   refine g_nil ?_
   refine d_then ?_
   refine c_flat [(0, .string p0), (1, .int .i64 p1), (2, .int .i64 p2), (28, .bool true)] ⟨rfl, rfl, rfl, rfl, trivial⟩ (fun u => ?_)
   refine c_sta ⟨w0, M, H, R, φ⟩ (fun _ h => h) ?_
   refine c_cond1 rfl rfl ?_
   refine c_seq ?_
   refine c_region ?_
   refine g_v rfl r_assign ?_
   refine g_v rfl r_assign ?_
   refine g_v rfl r_assign ?_
   refine g_nil ?_
   refine d_then ?_
   refine c_ret ?_
   refine d_ret_then ?_
   replace hm := Option.some.inj hm
   subst hm
   refine d_retC () Try.results23 ?_ trivial (fun W h => ok_pre (H1 := []) (R1 := []) h (fun W hφ => hφ)) (.inr rfl)
   refine res_tmp ?_
   refine res_tmp ?_
   refine res_tmp ?_
   refine res_nil ?_
   exact rfl
 ·
  replace hm := ite_t hm (of_decide_eq_true h1)
  refine g_no rfl rfl rfl rfl rfl h1 ?_
  refine g_v rfl (r_pick1 rfl h1) ?_
  refine g_v rfl r_move ?_
  refine g_no rfl rfl rfl rfl rfl rfl ?_
  refine g_no rfl rfl rfl rfl rfl rfl ?_
  refine g_no rfl rfl rfl rfl rfl rfl ?_
  refine g_no rfl rfl rfl rfl rfl rfl ?_
  refine g_v rfl (r_pick1 rfl rfl) ?_
  refine g_v rfl r_move ?_
  refine g_no rfl rfl rfl rfl rfl rfl ?_
  refine g_no rfl rfl rfl rfl rfl rfl ?_
  refine g_no rfl rfl rfl rfl rfl rfl ?_
  refine g_no rfl rfl rfl rfl rfl rfl ?_
  refine g_no rfl rfl rfl rfl rfl rfl ?_
  refine g_no rfl rfl rfl rfl rfl rfl ?_
  refine g_v rfl (r_pick1 rfl rfl) ?_
  refine g_nil ?_
  refine d_then ?_
  refine c_flat [(0, .string p0), (1, .int .i64 p1), (2, .int .i64 p2), (28, .bool true)] ⟨rfl, rfl, rfl, rfl, trivial⟩ (fun u => ?_)
  refine c_sta ⟨w0, M, H, R, φ⟩ (fun _ h => h) ?_
  refine c_cond1 rfl rfl ?_
  refine c_seq ?_
  refine c_region ?_
  refine g_v rfl r_assign ?_
  refine g_v rfl r_assign ?_
  refine g_v rfl r_assign ?_
  refine g_nil ?_
  refine d_then ?_
  refine c_ret ?_
  refine d_ret_then ?_
  replace hm := Option.some.inj hm
  subst hm
  refine d_retC () Try.results23 ?_ trivial (fun W h => ok_pre (H1 := []) (R1 := []) h (fun W hφ => hφ)) (.inr rfl)
  refine res_tmp ?_
  refine res_tmp ?_
  refine res_tmp ?_
  refine res_nil ?_
  exact rfl

noncomputable def m_pack_number_j1 (x2 : Int) (x3 : Int) (i17 : Int) : Option (Int × Int × Int) :=
  some (i17, x2, x3)
noncomputable def m_pack_number_s2 (x1 : ByteArray) (i22 : Int) (i23 : Int) : Option ((Int × Int) ⊕ Int) :=
  if i23 < (x1.size : Int) then
    (sat_ x1 i23).bind fun b30 =>
    some (.inl (orI .u32 (IntKind.u32.wrap (i22 * 256)) (IntKind.u32.wrap b30), w64 (i23 + 1)))
  else
    some (.inr i22)
noncomputable def m_pack_number (p0 : ByteArray) (p1 : Int) (p2 : Int) : Option (Int × Int × Int) :=
  (m_pack_Raw p0 p1 p2).bind fun (z5 : ByteArray × Int × Int) =>
  (loop (fun s => m_pack_number_s2 z5.1 s.1 s.2) (0, 0)).bind fun e => m_pack_number_j1 z5.2.1 z5.2.2 e
theorem c_pack_number {w0 : World} {M : Nat → Prop} {H : List (Nat × Nat × Obj)} {R : List (Nat × Row)} {φ : World → Prop} (p0 : ByteArray) (p1 : Int) (p2 : Int) (r : Int × Int × Int) (hm : m_pack_number p0 p1 p2 = some r) :
    Cn Try.prog 63 #[.string p0, .int .i64 p1, .int .i64 p2] ⟨w0, M, H, R, φ⟩ (fun x : Unit => .tuple #[.int .u32 r.1, .int .i64 r.2.1, .int .i64 r.2.2]) (fun x => True) (fun x => ⟨w0, M, H, R, φ⟩) := by
 unfold m_pack_number at hm
 refine cn_intro (fn := Try.f63) (N := 38) Try.func63 rfl Try.ntmps63 rfl ?_
 refine c_seq ?_
 refine c_region ?_
 refine g_v rfl r_assign ?_
 refine g_v rfl r_assign ?_
 refine g_v rfl r_assign ?_
 refine g_nil ?_
 refine d_then ?_
 refine c_seq ?_
 refine c_region ?_
 refine g_v rfl r_move ?_
 refine g_v rfl r_move ?_
 refine g_v rfl r_move ?_
 replace hm := bnd hm
 obtain ⟨⟨x1, x2, x3⟩, hx4, hm⟩ := hm
 refine g_cn ⟨w0, M, _, _, φ⟩ (fun _ h => h) Try.call23 rfl rfl (c_pack_Raw p0 p1 p2 _ hx4) (fun _ _ => ?_)
 refine g_v rfl r_move ?_
 refine g_v rfl (r_extract rfl rfl) ?_
 refine g_v rfl (r_extract rfl rfl) ?_
 refine g_v rfl (r_extract rfl rfl) ?_
 refine g_v rfl r_assign ?_
 refine g_v rfl r_assign ?_
 refine g_v rfl r_assign ?_
 refine g_nil ?_
 refine d_then ?_
 refine c_flat [(9, .string x1), (10, .int .i64 x2), (11, .int .i64 x3)] ⟨rfl, rfl, rfl, trivial⟩ (fun u => ?_)
 refine c_sta ⟨w0, M, H, R, φ⟩ (fun _ h => h) ?_
 refine c_seq ?_
 refine c_region ?_
 refine g_v rfl r_assign ?_
 refine g_nil ?_
 refine d_then ?_
 refine c_seq ?_
 refine c_seq ?_
 refine c_region ?_
 refine g_v rfl r_move ?_
 refine g_v rfl (r_len Try.underlying9 rfl) ?_
 refine g_v rfl r_move ?_
 refine g_nil ?_
 refine d_then ?_
 refine c_cut (ι := Int) [10, 11, 12] (fun i17 => [(12, .int .u32 i17)]) (fun i17 => ⟨w0, M, H, R, φ⟩) (fun i17 => m_pack_number_j1 x2 x3 i17 = some r) ?_ (fun i17 u hm => ?_)
 ·
  refine c_block ?_
  replace hm := bnd hm
  obtain ⟨out2, hl2, hr2⟩ := hm
  obtain ⟨n28', hl2⟩ := loop_lp hl2
  refine c_loopU (ι := Nat × Int × Int) [9, 10, 11, 12, 23, 24] (fun ⟨n28, i22, i23⟩ => [(12, .int .u32 i22), (24, .int .i64 i23)]) (fun ⟨n28, i22, i23⟩ => ⟨w0, M, H, R, φ⟩) (fun ⟨n28, i22, i23⟩ => Lp (fun s => m_pack_number_s2 x1 s.1 s.2) n28 (i22, i23) out2) (fun ⟨n28, i22, i23⟩ => n28) (n28', 0, 0) hl2 ⟨rfl, rfl, rfl, rfl, rfl, rfl, trivial⟩ (fun W h => h.phi (fun W hφ => hφ)) (fun ⟨n28, i22, i23⟩ u hlp => ?_)
  obtain ⟨o2, hm, hnx2⟩ := lp_step hlp
  clear hlp
  replace hm : m_pack_number_s2 x1 i22 i23 = some o2 := hm
  unfold m_pack_number_s2 at hm
  refine c_flat [(9, .string x1), (10, .int .i64 x2), (11, .int .i64 x3), (12, .int .u32 i22), (23, .int .i64 (x1.size : Int)), (24, .int .i64 i23)] ⟨rfl, rfl, rfl, rfl, rfl, rfl, trivial⟩ (fun u => ?_)
  refine c_sta ⟨w0, M, H, R, φ⟩ (fun _ h => h) ?_
  refine c_seq ?_
  refine c_region ?_
  refine g_v rfl (r_lss rfl rfl) ?_
  refine g_nil ?_
  refine d_then ?_
  refine c_seq ?_
  refine c_cond rfl (fun h29 => ?_) (fun h29 => ?_)
  ·
   replace hm := ite_t hm (of_decide_eq_true h29)
   refine c_skip ?_
   refine d_then ?_
   refine c_seq ?_
   refine c_block ?_
   refine c_seq ?_
   refine c_region ?_
   refine g_v rfl r_move ?_
   refine g_v rfl r_assign ?_
   refine g_nil ?_
   refine d_then ?_
   refine c_region ?_
   refine g_v rfl r_move ?_
   refine g_v rfl (r_shl (n := 256) rfl rfl (by decide) (by decide) (by decide)) ?_
   refine g_v rfl r_move ?_
   refine g_v rfl r_move ?_
   replace hm := bnd hm
   obtain ⟨b30, hb30, hm⟩ := hm
   refine g_v rfl (r_sat Try.underlying9 rfl rfl hb30) ?_
   refine g_v rfl (r_conv Try.underlying5 Try.underlying36 rfl rfl) ?_
   refine g_v rfl (r_bits_or rfl rfl) ?_
   refine g_v rfl r_assign ?_
   refine g_nil ?_
   refine d_normal_block ?_
   refine d_then ?_
   refine c_flat [(9, .string x1), (10, .int .i64 x2), (11, .int .i64 x3), (12, .int .u32 (orI .u32 (IntKind.u32.wrap (i22 * 256)) (IntKind.u32.wrap b30))), (23, .int .i64 (x1.size : Int)), (24, .int .i64 i23)] ⟨rfl, rfl, rfl, rfl, rfl, rfl, trivial⟩ (fun u => ?_)
   refine c_sta ⟨w0, M, H, R, φ⟩ (fun _ h => h) ?_
   refine c_region ?_
   refine g_v rfl (r_add rfl rfl rfl) ?_
   refine g_v rfl r_move ?_
   refine g_nil ?_
   obtain ⟨n31, hn31, hlp⟩ := nx_inl hm hnx2
   exact d_round (n31, orI .u32 (IntKind.u32.wrap (i22 * 256)) (IntKind.u32.wrap b30), w64 (i23 + 1)) hlp hn31 ⟨rfl, rfl, rfl, rfl, rfl, rfl, trivial⟩ (fun W h => h.phi (fun W hφ => hφ))
  ·
   replace hm := ite_f hm (of_decide_eq_false h29)
   refine c_exit ?_
   refine d_exit_then ?_
   refine d_exit_then ?_
   refine d_exit_block ?_
   replace hm := nx_out (C := (fun e => m_pack_number_j1 x2 x3 e = some r)) hm hnx2 hr2
   exact d_round i22 hm Nat.zero_lt_one ⟨rfl, rfl, rfl, trivial⟩ (fun W h => h.phi (fun W hφ => hφ))
 ·
  unfold m_pack_number_j1 at hm
  refine d_flat [(10, .int .i64 x2), (11, .int .i64 x3), (12, .int .u32 i17)] ⟨rfl, rfl, rfl, trivial⟩ (fun u => ?_)
  refine d_sta ⟨w0, M, H, R, φ⟩ (fun _ h => h) ?_
  refine d_then ?_
  refine c_seq ?_
  refine c_region ?_
  refine g_v rfl r_move ?_
  refine g_v rfl r_move ?_
  refine g_v rfl r_move ?_
  refine g_v rfl r_assign ?_
  refine g_v rfl r_assign ?_
  refine g_v rfl r_assign ?_
  refine g_nil ?_
  refine d_then ?_
  refine c_ret ?_
  replace hm := Option.some.inj hm
  subst hm
  refine d_retC () Try.results63 ?_ trivial (fun W h => ok_pre (H1 := []) (R1 := []) h (fun W hφ => hφ)) (.inr rfl)
  refine res_tmp ?_
  refine res_tmp ?_
  refine res_tmp ?_
  refine res_nil ?_
  exact rfl

noncomputable def m_pack_Byte (p0 : ByteArray) (p1 : Int) : Option (Int × Int × Int) :=
  (m_pack_number p0 p1 1).bind fun (z5 : Int × Int × Int) =>
  some (IntKind.u8.wrap z5.1, z5.2.1, z5.2.2)
theorem c_pack_Byte {w0 : World} {M : Nat → Prop} {H : List (Nat × Nat × Obj)} {R : List (Nat × Row)} {φ : World → Prop} (p0 : ByteArray) (p1 : Int) (r : Int × Int × Int) (hm : m_pack_Byte p0 p1 = some r) :
    Cn Try.prog 19 #[.string p0, .int .i64 p1] ⟨w0, M, H, R, φ⟩ (fun x : Unit => .tuple #[.int .u8 r.1, .int .i64 r.2.1, .int .i64 r.2.2]) (fun x => True) (fun x => ⟨w0, M, H, R, φ⟩) := by
 unfold m_pack_Byte at hm
 refine cn_intro (fn := Try.f19) (N := 21) Try.func19 rfl Try.ntmps19 rfl ?_
 refine c_seq ?_
 refine c_region ?_
 refine g_v rfl r_assign ?_
 refine g_v rfl r_assign ?_
 refine g_v rfl r_assign ?_
 refine g_nil ?_
 refine d_then ?_
 refine c_seq ?_
 refine c_region ?_
 refine g_v rfl r_move ?_
 refine g_v rfl r_move ?_
 replace hm := bnd hm
 obtain ⟨⟨x1, x2, x3⟩, hx4, hm⟩ := hm
 refine g_cn ⟨w0, M, _, _, φ⟩ (fun _ h => h) Try.call63 rfl rfl (c_pack_number p0 p1 1 _ hx4) (fun _ _ => ?_)
 refine g_v rfl r_move ?_
 refine g_v rfl (r_extract rfl rfl) ?_
 refine g_v rfl (r_extract rfl rfl) ?_
 refine g_v rfl (r_extract rfl rfl) ?_
 refine g_v rfl r_assign ?_
 refine g_v rfl r_assign ?_
 refine g_v rfl r_assign ?_
 refine g_nil ?_
 refine d_then ?_
 refine c_flat [(7, .int .u32 x1), (8, .int .i64 x2), (9, .int .i64 x3)] ⟨rfl, rfl, rfl, trivial⟩ (fun u => ?_)
 refine c_sta ⟨w0, M, H, R, φ⟩ (fun _ h => h) ?_
 refine c_seq ?_
 refine c_region ?_
 refine g_v rfl r_move ?_
 refine g_v rfl (r_conv Try.underlying36 Try.underlying5 rfl rfl) ?_
 refine g_v rfl r_move ?_
 refine g_v rfl r_move ?_
 refine g_v rfl r_assign ?_
 refine g_v rfl r_assign ?_
 refine g_v rfl r_assign ?_
 refine g_nil ?_
 refine d_then ?_
 refine c_ret ?_
 replace hm := Option.some.inj hm
 subst hm
 refine d_retC () Try.results19 ?_ trivial (fun W h => ok_pre (H1 := []) (R1 := []) h (fun W hφ => hφ)) (.inr rfl)
 refine res_tmp ?_
 refine res_tmp ?_
 refine res_tmp ?_
 refine res_nil ?_
 exact rfl

noncomputable def m_pack_Name_c1 (p0 : Int) (o0 : Int) : Option Int :=
  if o0 < 0 then
    some p0
  else
    some o0
theorem c_pack_Name_c1 {w0 : World} {M : Nat → Prop} {H : List (Nat × Nat × Obj)} {R : List (Nat × Row)} {φ : World → Prop} (p0 : Int) (go0 : Nat) (o0 : Int) (r : Int) (hm : m_pack_Name_c1 p0 o0 = some r) :
    Cn Try.prog 62 #[.int .i64 p0, .pointer (some ⟨go0, 0, none⟩)] ⟨w0, M, (1000, go0, .cells #[.int .i64 o0] 3 (0, 0)) :: H, R, φ⟩ (fun x : Unit => .tuple #[]) (fun x => True) (fun x => ⟨w0, M, (1000, go0, .cells #[.int .i64 r] 3 (0, 0)) :: H, R, φ⟩) := by
 unfold m_pack_Name_c1 at hm
 refine cn_intro (fn := Try.f62) (N := 6) Try.func62 rfl Try.ntmps62 rfl ?_
 refine c_seq ?_
 refine c_region ?_
 refine g_v rfl (r_load (tag := 1000) rfl rfl rfl Try.isAgg3) ?_
 refine g_v rfl (r_lss rfl rfl) ?_
 refine g_nil ?_
 refine d_then ?_
 refine c_cond rfl (fun h1 => ?_) (fun h1 => ?_)
 ·
  replace hm := ite_t hm (of_decide_eq_true h1)
  refine c_region ?_
  refine g_v rfl r_move ?_
  refine g_storeL (tag := 1000) rfl rfl rfl rfl Try.sizeOf3 rfl rfl ?_
  refine g_nil ?_
  replace hm := Option.some.inj hm
  subst hm
  refine d_retC () Try.results62 ?_ trivial (fun W h => h.phi (fun W hφ => hφ)) (.inl rfl)
  refine res_nil ?_
  exact rfl
 ·
  replace hm := ite_f hm (of_decide_eq_false h1)
  refine c_skip ?_
  replace hm := Option.some.inj hm
  subst hm
  refine d_retC () Try.results62 ?_ trivial (fun W h => h.phi (fun W hφ => hφ)) (.inl rfl)
  refine res_nil ?_
  exact rfl

noncomputable def m_pack_Word (p0 : ByteArray) (p1 : Int) : Option (Int × Int × Int) :=
  (m_pack_number p0 p1 2).bind fun (z5 : Int × Int × Int) =>
  some (IntKind.u16.wrap z5.1, z5.2.1, z5.2.2)
theorem c_pack_Word {w0 : World} {M : Nat → Prop} {H : List (Nat × Nat × Obj)} {R : List (Nat × Row)} {φ : World → Prop} (p0 : ByteArray) (p1 : Int) (r : Int × Int × Int) (hm : m_pack_Word p0 p1 = some r) :
    Cn Try.prog 21 #[.string p0, .int .i64 p1] ⟨w0, M, H, R, φ⟩ (fun x : Unit => .tuple #[.int .u16 r.1, .int .i64 r.2.1, .int .i64 r.2.2]) (fun x => True) (fun x => ⟨w0, M, H, R, φ⟩) := by
 unfold m_pack_Word at hm
 refine cn_intro (fn := Try.f21) (N := 21) Try.func21 rfl Try.ntmps21 rfl ?_
 refine c_seq ?_
 refine c_region ?_
 refine g_v rfl r_assign ?_
 refine g_v rfl r_assign ?_
 refine g_v rfl r_assign ?_
 refine g_nil ?_
 refine d_then ?_
 refine c_seq ?_
 refine c_region ?_
 refine g_v rfl r_move ?_
 refine g_v rfl r_move ?_
 replace hm := bnd hm
 obtain ⟨⟨x1, x2, x3⟩, hx4, hm⟩ := hm
 refine g_cn ⟨w0, M, _, _, φ⟩ (fun _ h => h) Try.call63 rfl rfl (c_pack_number p0 p1 2 _ hx4) (fun _ _ => ?_)
 refine g_v rfl r_move ?_
 refine g_v rfl (r_extract rfl rfl) ?_
 refine g_v rfl (r_extract rfl rfl) ?_
 refine g_v rfl (r_extract rfl rfl) ?_
 refine g_v rfl r_assign ?_
 refine g_v rfl r_assign ?_
 refine g_v rfl r_assign ?_
 refine g_nil ?_
 refine d_then ?_
 refine c_flat [(7, .int .u32 x1), (8, .int .i64 x2), (9, .int .i64 x3)] ⟨rfl, rfl, rfl, trivial⟩ (fun u => ?_)
 refine c_sta ⟨w0, M, H, R, φ⟩ (fun _ h => h) ?_
 refine c_seq ?_
 refine c_region ?_
 refine g_v rfl r_move ?_
 refine g_v rfl (r_conv Try.underlying36 Try.underlying33 rfl rfl) ?_
 refine g_v rfl r_move ?_
 refine g_v rfl r_move ?_
 refine g_v rfl r_assign ?_
 refine g_v rfl r_assign ?_
 refine g_v rfl r_assign ?_
 refine g_nil ?_
 refine d_then ?_
 refine c_ret ?_
 replace hm := Option.some.inj hm
 subst hm
 refine d_retC () Try.results21 ?_ trivial (fun W h => ok_pre (H1 := []) (R1 := []) h (fun W hφ => hφ)) (.inr rfl)
 refine res_tmp ?_
 refine res_tmp ?_
 refine res_tmp ?_
 refine res_nil ?_
 exact rfl

noncomputable def m_pack_Name_s1 (p0 : ByteArray) (l259 : List Int) (i262 : Int) (i263 : Int) (i264 : Int) : Option (((List Int) × Int × Int × Int) ⊕ (Unit ⊕ (ByteArray × Int × Int))) :=
  (m_pack_Byte p0 i262).bind fun (z322 : Int × Int × Int) =>
  if z322.2.2 ≠ 0 then
    some (.inr (.inr ((⟨#[]⟩ : ByteArray), 0, z322.2.2)))
  else
    if z322.1 = 0 then
      (m_pack_Name_c1 z322.2.1 i264).bind fun x325 =>
      (app 1 l259 [0]).bind fun l336 =>
      some (.inr (.inr (strOfNums l336, x325, 0)))
    else
      if 192 ≤ z322.1 then
        (m_pack_Word p0 i262).bind fun (z344 : Int × Int × Int) =>
        if z344.2.2 ≠ 0 then
          some (.inr (.inr ((⟨#[]⟩ : ByteArray), 0, 10)))
        else
          if i263 ≤ andI .i64 (w64 z344.1) 16383 then
            some (.inr (.inr ((⟨#[]⟩ : ByteArray), 0, 10)))
          else
            (m_pack_Name_c1 z344.2.1 i264).bind fun x347 =>
            some (.inl (l259, andI .i64 (w64 z344.1) 16383, andI .i64 (w64 z344.1) 16383, x347))
      else
        if 63 < z322.1 then
          some (.inr (.inr ((⟨#[]⟩ : ByteArray), 0, 10)))
        else
          (m_pack_Raw p0 z322.2.1 (w64 z322.1)).bind fun (z355 : ByteArray × Int × Int) =>
          if z355.2.2 ≠ 0 then
            some (.inr (.inr ((⟨#[]⟩ : ByteArray), 0, z355.2.2)))
          else
            if 255 < w64 ((w64 ((w64 ((l259.length : Int) + 1)) + (z355.1.size : Int))) + 1) then
              some (.inr (.inr ((⟨#[]⟩ : ByteArray), 0, 11)))
            else
              (app 1 l259 [z322.1]).bind fun l359 =>
              (app 1 l359 (bytesI z355.1)).bind fun l362 =>
              some (.inl (l362, z355.2.1, i263, i264))
noncomputable def m_pack_Name (p0 : ByteArray) (p1 : Int) : Option (ByteArray × Int × Int) :=
  (loop (fun s => m_pack_Name_s1 p0 s.1 s.2.1 s.2.2.1 s.2.2.2) (([] : List Int), p1, p1, (-1))).bind fun e => Sum.elim (fun e => (none : Option (ByteArray × Int × Int))) (fun x => some x) e
theorem c_pack_Name {w0 : World} {M : Nat → Prop} {H : List (Nat × Nat × Obj)} {R : List (Nat × Row)} {φ : World → Prop} (p0 : ByteArray) (p1 : Int) (r : ByteArray × Int × Int) (hm : m_pack_Name p0 p1 = some r) :
    Cn Try.prog 16 #[.string p0, .int .i64 p1] ⟨w0, M, H, R, φ⟩ (fun x : Unit => .tuple #[.string r.1, .int .i64 r.2.1, .int .i64 r.2.2]) (fun x => True) (fun x => ⟨w0, M, H, R, φ⟩) := by
 unfold m_pack_Name at hm
 refine cn_intro (fn := Try.f16) (N := 101) Try.func16 rfl Try.ntmps16 rfl ?_
 refine c_seq ?_
 refine c_region ?_
 refine g_v rfl r_assign ?_
 refine g_v rfl r_assign ?_
 refine g_v rfl r_assign ?_
 refine g_nil ?_
 refine d_then ?_
 refine c_seq ?_
 refine c_region ?_
 refine g_v rfl r_assign ?_
 refine g_nil ?_
 refine d_then ?_
 refine c_seq ?_
 refine c_region ?_
 refine g_v rfl r_move ?_
 refine g_e rfl (e_alloc 100080 Try.zeroValue3) (fun g1 _ => ?_)
 refine g_storeL (tag := 100080) rfl rfl rfl rfl Try.sizeOf3 rfl rfl ?_
 refine g_v rfl r_assign ?_
 refine g_nil ?_
 refine d_then ?_
 refine c_seq ?_
 refine c_region ?_
 refine g_v rfl (r_mkf rfl) ?_
 refine g_v rfl r_assign ?_
 refine g_nil ?_
 refine d_then ?_
 refine c_flat [(0, .string p0), (1, .int .i64 p1), (7, .slice none 0 0), (8, .pointer (some ⟨g1, 0, none⟩)), (9, .int .i64 p1), (10, .func (.func 62) #[] #[.pointer (some ⟨g1, 0, none⟩)])] ⟨rfl, rfl, rfl, rfl, rfl, rfl, trivial⟩ (fun u => ?_)
 refine c_sta ⟨w0, M, (100080, g1, .cells #[.int .i64 (-1)] 3 (0, 0)) :: H, R, φ⟩ (fun _ h => h) ?_
 -- no way on
 refine c_block ?_
 refine c_sta _ (fun W h => nilR h 20 5 1) ?_
 replace hm := bnd hm
 obtain ⟨out1, hl1, hr1⟩ := hm
 obtain ⟨n317', hl1⟩ := loop_lp hl1
 refine c_loopU (ι := Nat × (List Int) × Int × Int × Int × Option Addr × Nat) [0, 1, 7, 8, 9, 10] (fun ⟨n317, l259, i262, i263, i264, A260, c261⟩ => [(1, .int .i64 i262), (7, .slice A260 l259.length c261), (9, .int .i64 i263)]) (fun ⟨n317, l259, i262, i263, i264, A260, c261⟩ => ⟨w0, M, (100080, g1, .cells #[.int .i64 i264] 3 (0, 0)) :: H, (20, ⟨.slice A260 l259.length c261, 5, 1, l259.length, l259.flatMap (fun x : Int => [Value.int .u8 x])⟩) :: R, φ⟩) (fun ⟨n317, l259, i262, i263, i264, A260, c261⟩ => Lp (fun s => m_pack_Name_s1 p0 s.1 s.2.1 s.2.2.1 s.2.2.2) n317 (l259, i262, i263, i264) out1 ∧ l259.length ≤ c261) (fun ⟨n317, l259, i262, i263, i264, A260, c261⟩ => n317) (n317', ([] : List Int), p1, p1, (-1), none, 0) ⟨hl1, (Nat.le_refl 0)⟩ ⟨rfl, rfl, rfl, rfl, rfl, rfl, trivial⟩ (fun W h => h.phi (fun W hφ => hφ)) (fun ⟨n317, l259, i262, i263, i264, A260, c261⟩ u ⟨hlp, hc261⟩ => ?_)
 obtain ⟨o1, hm, hnx1⟩ := lp_step hlp
 clear hlp
 replace hm : m_pack_Name_s1 p0 l259 i262 i263 i264 = some o1 := hm
 unfold m_pack_Name_s1 at hm
 refine c_flat [(0, .string p0), (1, .int .i64 i262), (7, .slice A260 l259.length c261), (8, .pointer (some ⟨g1, 0, none⟩)), (9, .int .i64 i263), (10, .func (.func 62) #[] #[.pointer (some ⟨g1, 0, none⟩)])] ⟨rfl, rfl, rfl, rfl, rfl, rfl, trivial⟩ (fun u => ?_)
 refine c_sta ⟨w0, M, (100080, g1, .cells #[.int .i64 i264] 3 (0, 0)) :: H, (20, ⟨.slice A260 l259.length c261, 5, 1, l259.length, l259.flatMap (fun x : Int => [Value.int .u8 x])⟩) :: R, φ⟩ (fun _ h => h) ?_
 refine c_block ?_
 refine c_seq ?_
 refine c_region ?_
 refine g_v rfl r_move ?_
 refine g_v rfl r_move ?_
 replace hm := bnd hm
 obtain ⟨⟨x318, x319, x320⟩, hx321, hm⟩ := hm
 refine g_cn ⟨w0, M, _, _, φ⟩ (fun _ h => h) Try.call19 rfl rfl (c_pack_Byte p0 i262 _ hx321) (fun _ _ => ?_)
 refine g_v rfl r_move ?_
 refine g_v rfl (r_extract rfl rfl) ?_
 refine g_v rfl (r_extract rfl rfl) ?_
 refine g_v rfl (r_extract rfl rfl) ?_
 refine g_v rfl r_assign ?_
 refine g_v rfl r_assign ?_
 refine g_v rfl r_assign ?_
 refine g_nil ?_
 refine d_then ?_
 refine c_flat [(0, .string p0), (1, .int .i64 i262), (7, .slice A260 l259.length c261), (8, .pointer (some ⟨g1, 0, none⟩)), (9, .int .i64 i263), (10, .func (.func 62) #[] #[.pointer (some ⟨g1, 0, none⟩)]), (11, .int .u8 x318), (12, .int .i64 x319), (13, .int .i64 x320)] ⟨rfl, rfl, rfl, rfl, rfl, rfl, rfl, rfl, rfl, trivial⟩ (fun u => ?_)
 refine c_sta ⟨w0, M, (100080, g1, .cells #[.int .i64 i264] 3 (0, 0)) :: H, (20, ⟨.slice A260 l259.length c261, 5, 1, l259.length, l259.flatMap (fun x : Int => [Value.int .u8 x])⟩) :: R, φ⟩ (fun _ h => h) ?_
 refine c_seq ?_
 refine c_block ?_
 refine c_seq ?_
 refine c_region ?_
 refine g_v rfl r_move ?_
 refine g_v rfl (r_neq rfl rfl) ?_
 refine g_v rfl r_assign ?_
 refine g_nil ?_
 refine d_then ?_
 refine c_cond rfl (fun h323 => ?_) (fun h323 => ?_)
 ·
  replace hm := ite_t hm (of_decide_eq_true h323)
  refine c_seq ?_
  refine c_region ?_
  refine g_v rfl r_move ?_
  refine g_v rfl r_assign ?_
  refine g_v rfl r_assign ?_
  refine g_v rfl r_assign ?_
  refine g_nil ?_
  refine d_then ?_
  refine c_ret ?_
  refine d_ret_block ?_
  refine d_ret_then ?_
  refine d_ret_block ?_
  refine d_ret_then ?_
  refine d_ret_block ?_
  replace hm := nx_out (C := (fun e => Sum.elim (fun e => (none : Option (ByteArray × Int × Int))) (fun x => some x) e = some r)) hm hnx1 hr1
  replace hm : some ((⟨#[]⟩ : ByteArray), 0, x320) = some r := hm
  replace hm := Option.some.inj hm
  subst hm
  refine d_retC () Try.results16 ?_ trivial (fun W h => ok_pre (H1 := [_]) (R1 := [_]) h (fun W hφ => hφ)) (.inr rfl)
  refine res_tmp ?_
  refine res_tmp ?_
  refine res_tmp ?_
  refine res_nil ?_
  exact rfl
 ·
  replace hm := ite_f hm (of_decide_eq_false h323)
  refine c_seq ?_
  refine c_region ?_
  refine g_v rfl r_move ?_
  refine g_v rfl (r_eql rfl rfl) ?_
  refine g_v rfl r_assign ?_
  refine g_nil ?_
  refine d_then ?_
  refine c_cond rfl (fun h324 => ?_) (fun h324 => ?_)
  ·
   replace hm := ite_t hm (of_decide_eq_true h324)
   refine c_seq ?_
   refine c_region ?_
   refine g_v rfl r_move ?_
   refine g_v rfl r_move ?_
   replace hm := bnd hm
   obtain ⟨x325, hx326, hm⟩ := hm
   refine g_cnv ⟨w0, M, (1000, g1, .cells #[.int .i64 i264] 3 (0, 0)) :: H, (20, ⟨.slice A260 l259.length c261, 5, 1, l259.length, l259.flatMap (fun x : Int => [Value.int .u8 x])⟩) :: R, φ⟩ (fun W h => (ok_front (t := 100080) (t' := 1000) h rfl)) Try.call62 rfl rfl rfl (c_pack_Name_c1 x319 g1 i264 _ hx326) (fun _ _ => ?_)
   refine g_sta _ (fun W h => (ok_front (t := 1000) (t' := 100080) h rfl)) ?_
   refine g_nil ?_
   refine d_then ?_
   refine c_flat [(7, .slice A260 l259.length c261), (8, .pointer (some ⟨g1, 0, none⟩))] ⟨rfl, rfl, trivial⟩ (fun u => ?_)
   refine c_sta ⟨w0, M, (100080, g1, .cells #[.int .i64 x325] 3 (0, 0)) :: H, (20, ⟨.slice A260 l259.length c261, 5, 1, l259.length, l259.flatMap (fun x : Int => [Value.int .u8 x])⟩) :: R, φ⟩ (fun _ h => h) ?_
   refine c_seq ?_
   refine ga_start (n := 8) ⟨w0, M, (100080, g1, .cells #[.int .i64 x325] 3 (0, 0)) :: H, R, φ⟩ [] #[false, false, false, false, false, false, false, false] (fun W h => (h.dropR (t := 20) rfl).phi (fun W hφ => hφ)) mixed rfl rfl ?_
   refine ga_v (i := 0) #[true, false, false, false, false, false, false, false] rfl (by kernel_rfl) (fun _ _ _ _ h => h) rfl (r_move) ?_
   refine ga_v (i := 4) #[true, false, false, false, true, false, false, false] rfl (by kernel_rfl) (fun _ _ _ _ h => h) rfl (r_load (tag := 100080) rfl rfl rfl Try.isAgg3) ?_
   refine ga_e (i := 1) #[true, true, false, false, true, false, false, false] rfl (by kernel_rfl) (by decide) rfl  (e_lit (tag := 100400) (l := [0]) (enc := (fun x : Int => [Value.int .u8 x])) (sz := 1) rfl Try.underlying58 (lit5_6 _) rfl rfl (fun _ => rfl)) (fun g335 W _ h => ((h.dropR (t := 100400) rfl).dropR (t := 20) rfl).phi (fun W hφ => hφ)) (fun g335 _ => ?_)
   replace hm := bnd hm
   obtain ⟨l336, hl336, hm⟩ := hm
   refine ga_e (i := 2) #[true, true, true, false, true, false, false, false] rfl (by kernel_rfl) (by decide) rfl  (e_appR (enc := (fun x : Int => [Value.int .u8 x])) (l := l259) (l1 := [0]) (l2 := l336) (tag := 20) Try.underlying58 inf5_5 rfl (by decide) (by decide) (fun _ => rfl) (fun _ => rfl) rfl hc261 rfl rfl (fun W hS => rowCl (tag := 100400) rfl W hS) hl336) (fun ⟨A337, c338⟩ W hc338 h => ((h.dropR (t := 100400) rfl).dropR (t := 20) rfl).phi (fun W hφ => hφ)) (fun ⟨A337, c338⟩ hc338 => ?_)
   refine ga_r (i := 3) #[true, true, true, true, true, false, false, false] rfl (by kernel_rfl) (by decide) rfl (r_textE Try.underlying58 Try.underlying5 Try.underlying9 rfl (fun W hS => rowCl (tag := 20) rfl W hS)) ?_
   refine ga_r (i := 5) #[true, true, true, true, true, true, false, false] rfl (by kernel_rfl) (by decide) rfl (r_assign) ?_
   refine ga_r (i := 6) #[true, true, true, true, true, true, true, false] rfl (by kernel_rfl) (by decide) rfl (r_assign) ?_
   refine ga_r (i := 7) #[true, true, true, true, true, true, true, true] rfl (by kernel_rfl) (by decide) rfl (r_assign) ?_
   refine ga_done (by kernel_rfl) ?_
   refine d_then ?_
   refine c_ret ?_
   refine d_ret_block ?_
   refine d_ret_then ?_
   refine d_ret_block ?_
   refine d_ret_then ?_
   refine d_ret_block ?_
   replace hm := nx_out (C := (fun e => Sum.elim (fun e => (none : Option (ByteArray × Int × Int))) (fun x => some x) e = some r)) hm hnx1 hr1
   replace hm : some (strOfNums l336, x325, 0) = some r := hm
   replace hm := Option.some.inj hm
   subst hm
   refine d_retC () Try.results16 ?_ trivial (fun W h => ok_pre (H1 := [_]) (R1 := [_, _]) h (fun W hφ => hφ)) (.inr rfl)
   refine res_tmp ?_
   refine res_tmp ?_
   refine res_tmp ?_
   refine res_nil ?_
   exact rfl
  ·
   replace hm := ite_f hm (of_decide_eq_false h324)
   refine c_seq ?_
   refine c_region ?_
   refine g_v rfl r_move ?_
   refine g_v rfl (r_geq rfl rfl) ?_
   refine g_v rfl r_assign ?_
   refine g_nil ?_
   refine d_then ?_
   refine c_flat [(0, .string p0), (1, .int .i64 i262), (7, .slice A260 l259.length c261), (8, .pointer (some ⟨g1, 0, none⟩)), (9, .int .i64 i263), (10, .func (.func 62) #[] #[.pointer (some ⟨g1, 0, none⟩)]), (11, .int .u8 x318), (12, .int .i64 x319), (44, .bool (decide (192 ≤ x318)))] ⟨rfl, rfl, rfl, rfl, rfl, rfl, rfl, rfl, rfl, trivial⟩ (fun u => ?_)
   refine c_sta ⟨w0, M, (100080, g1, .cells #[.int .i64 i264] 3 (0, 0)) :: H, (20, ⟨.slice A260 l259.length c261, 5, 1, l259.length, l259.flatMap (fun x : Int => [Value.int .u8 x])⟩) :: R, φ⟩ (fun _ h => h) ?_
   refine c_cond rfl (fun h339 => ?_) (fun h339 => ?_)
   ·
    replace hm := ite_t hm (of_decide_eq_true h339)
    refine c_seq ?_
    refine c_region ?_
    refine g_v rfl r_move ?_
    refine g_v rfl r_move ?_
    replace hm := bnd hm
    obtain ⟨⟨x340, x341, x342⟩, hx343, hm⟩ := hm
    refine g_cn ⟨w0, M, _, _, φ⟩ (fun _ h => h) Try.call21 rfl rfl (c_pack_Word p0 i262 _ hx343) (fun _ _ => ?_)
    refine g_v rfl r_move ?_
    refine g_v rfl (r_extract rfl rfl) ?_
    refine g_v rfl (r_extract rfl rfl) ?_
    refine g_v rfl (r_extract rfl rfl) ?_
    refine g_v rfl r_assign ?_
    refine g_v rfl r_assign ?_
    refine g_v rfl r_assign ?_
    refine g_nil ?_
    refine d_then ?_
    refine c_flat [(0, .string p0), (7, .slice A260 l259.length c261), (8, .pointer (some ⟨g1, 0, none⟩)), (9, .int .i64 i263), (10, .func (.func 62) #[] #[.pointer (some ⟨g1, 0, none⟩)]), (14, .int .u16 x340), (15, .int .i64 x341), (16, .int .i64 x342)] ⟨rfl, rfl, rfl, rfl, rfl, rfl, rfl, rfl, trivial⟩ (fun u => ?_)
    refine c_sta ⟨w0, M, (100080, g1, .cells #[.int .i64 i264] 3 (0, 0)) :: H, (20, ⟨.slice A260 l259.length c261, 5, 1, l259.length, l259.flatMap (fun x : Int => [Value.int .u8 x])⟩) :: R, φ⟩ (fun _ h => h) ?_
    refine c_seq ?_
    refine c_region ?_
    refine g_v rfl r_move ?_
    refine g_v rfl (r_conv Try.underlying33 Try.underlying3 rfl rfl) ?_
    refine g_v rfl (r_bits_and rfl rfl) ?_
    refine g_v rfl r_assign ?_
    refine g_nil ?_
    refine d_then ?_
    refine c_seq ?_
    refine c_seq ?_
    refine c_region ?_
    refine g_v rfl r_move ?_
    refine g_v rfl (r_neq rfl rfl) ?_
    refine g_v rfl r_move ?_
    refine g_if rfl rfl rfl rfl rfl (fun h345 => ?_) (fun h345 => ?_)
    ·
     replace hm := ite_f hm (of_decide_eq_false h345)
     refine g_v rfl r_move ?_
     refine g_do rfl rfl rfl rfl rfl h345 ?_
     refine g_v rfl r_move ?_
     refine g_do rfl rfl rfl rfl rfl h345 ?_
     refine g_v rfl (r_geq rfl rfl) ?_
     refine g_v rfl (r_pick0 rfl h345) ?_
     refine g_nil ?_
     refine d_then ?_
     refine c_flat [(0, .string p0), (7, .slice A260 l259.length c261), (8, .pointer (some ⟨g1, 0, none⟩)), (10, .func (.func 62) #[] #[.pointer (some ⟨g1, 0, none⟩)]), (15, .int .i64 x341), (17, .int .i64 (andI .i64 (w64 x340) 16383)), (63, .bool (decide (i263 ≤ andI .i64 (w64 x340) 16383)))] ⟨rfl, rfl, rfl, rfl, rfl, rfl, rfl, trivial⟩ (fun u => ?_)
     refine c_sta ⟨w0, M, (100080, g1, .cells #[.int .i64 i264] 3 (0, 0)) :: H, (20, ⟨.slice A260 l259.length c261, 5, 1, l259.length, l259.flatMap (fun x : Int => [Value.int .u8 x])⟩) :: R, φ⟩ (fun _ h => h) ?_
     refine c_cond rfl (fun h346 => ?_) (fun h346 => ?_)
     ·
      replace hm := ite_t hm (of_decide_eq_true h346)
      refine c_seq ?_
      refine c_region ?_
      refine g_v rfl r_assign ?_
      refine g_v rfl r_assign ?_
      refine g_v rfl r_assign ?_
      refine g_nil ?_
      refine d_then ?_
      refine c_ret ?_
      refine d_ret_then ?_
      refine d_ret_block ?_
      refine d_ret_then ?_
      refine d_ret_block ?_
      refine d_ret_then ?_
      refine d_ret_block ?_
      replace hm := nx_out (C := (fun e => Sum.elim (fun e => (none : Option (ByteArray × Int × Int))) (fun x => some x) e = some r)) hm hnx1 hr1
      replace hm : some ((⟨#[]⟩ : ByteArray), 0, 10) = some r := hm
      replace hm := Option.some.inj hm
      subst hm
      refine d_retC () Try.results16 ?_ trivial (fun W h => ok_pre (H1 := [_]) (R1 := [_]) h (fun W hφ => hφ)) (.inr rfl)
      refine res_tmp ?_
      refine res_tmp ?_
      refine res_tmp ?_
      refine res_nil ?_
      exact rfl
     ·
      replace hm := ite_f hm (of_decide_eq_false h346)
      refine c_skip ?_
      refine d_then ?_
      refine c_seq ?_
      refine c_region ?_
      refine g_v rfl r_move ?_
      refine g_v rfl r_move ?_
      replace hm := bnd hm
      obtain ⟨x347, hx348, hm⟩ := hm
      refine g_cnv ⟨w0, M, (1000, g1, .cells #[.int .i64 i264] 3 (0, 0)) :: H, (20, ⟨.slice A260 l259.length c261, 5, 1, l259.length, l259.flatMap (fun x : Int => [Value.int .u8 x])⟩) :: R, φ⟩ (fun W h => (ok_front (t := 100080) (t' := 1000) h rfl)) Try.call62 rfl rfl rfl (c_pack_Name_c1 x341 g1 i264 _ hx348) (fun _ _ => ?_)
      refine g_sta _ (fun W h => (ok_front (t := 1000) (t' := 100080) h rfl)) ?_
      refine g_nil ?_
      refine d_then ?_
      refine c_seq ?_
      refine c_region ?_
      refine g_v rfl r_move ?_
      refine g_v rfl r_move ?_
      refine g_v rfl r_assign ?_
      refine g_v rfl r_assign ?_
      refine g_nil ?_
      refine d_then ?_
      refine c_exit ?_
      refine d_exit_other rfl ?_
      refine d_exit_then ?_
      refine d_exit_block ?_
      obtain ⟨n349, hn349, hlp⟩ := nx_inl hm hnx1
      exact d_round (n349, l259, andI .i64 (w64 x340) 16383, andI .i64 (w64 x340) 16383, x347, A260, c261) ⟨hlp, hc261⟩ hn349 ⟨rfl, rfl, rfl, rfl, rfl, rfl, trivial⟩ (fun W h => h.phi (fun W hφ => hφ))
    ·
     replace hm := ite_t hm (of_decide_eq_true h345)
     refine g_no rfl rfl rfl rfl rfl h345 ?_
     refine g_no rfl rfl rfl rfl rfl h345 ?_
     refine g_v rfl (r_pick1 rfl h345) ?_
     refine g_nil ?_
     refine d_then ?_
     refine c_cond1 rfl rfl ?_
     refine c_seq ?_
     refine c_region ?_
     refine g_v rfl r_assign ?_
     refine g_v rfl r_assign ?_
     refine g_v rfl r_assign ?_
     refine g_nil ?_
     refine d_then ?_
     refine c_flat [(4, .string (⟨#[]⟩ : ByteArray)), (5, .int .i64 0), (6, .int .i64 10)] ⟨rfl, rfl, rfl, trivial⟩ (fun u => ?_)
     refine c_sta ⟨w0, M, (100080, g1, .cells #[.int .i64 i264] 3 (0, 0)) :: H, (20, ⟨.slice A260 l259.length c261, 5, 1, l259.length, l259.flatMap (fun x : Int => [Value.int .u8 x])⟩) :: R, φ⟩ (fun _ h => h) ?_
     refine c_ret ?_
     refine d_ret_then ?_
     refine d_ret_block ?_
     refine d_ret_then ?_
     refine d_ret_block ?_
     refine d_ret_then ?_
     refine d_ret_block ?_
     replace hm := nx_out (C := (fun e => Sum.elim (fun e => (none : Option (ByteArray × Int × Int))) (fun x => some x) e = some r)) hm hnx1 hr1
     replace hm : some ((⟨#[]⟩ : ByteArray), 0, 10) = some r := hm
     replace hm := Option.some.inj hm
     subst hm
     refine d_retC () Try.results16 ?_ trivial (fun W h => ok_pre (H1 := [_]) (R1 := [_]) h (fun W hφ => hφ)) (.inr rfl)
     refine res_tmp ?_
     refine res_tmp ?_
     refine res_tmp ?_
     refine res_nil ?_
     exact rfl
   ·
    replace hm := ite_f hm (of_decide_eq_false h339)
    refine c_seq ?_
    refine c_region ?_
    refine g_v rfl r_move ?_
    refine g_v rfl (r_gtr rfl rfl) ?_
    refine g_v rfl r_assign ?_
    refine g_nil ?_
    refine d_then ?_
    refine c_cond rfl (fun h350 => ?_) (fun h350 => ?_)
    ·
     replace hm := ite_t hm (of_decide_eq_true h350)
     refine c_seq ?_
     refine c_region ?_
     refine g_v rfl r_assign ?_
     refine g_v rfl r_assign ?_
     refine g_v rfl r_assign ?_
     refine g_nil ?_
     refine d_then ?_
     refine c_ret ?_
     refine d_ret_block ?_
     refine d_ret_then ?_
     refine d_ret_block ?_
     refine d_ret_then ?_
     refine d_ret_block ?_
     replace hm := nx_out (C := (fun e => Sum.elim (fun e => (none : Option (ByteArray × Int × Int))) (fun x => some x) e = some r)) hm hnx1 hr1
     replace hm : some ((⟨#[]⟩ : ByteArray), 0, 10) = some r := hm
     replace hm := Option.some.inj hm
     subst hm
     refine d_retC () Try.results16 ?_ trivial (fun W h => ok_pre (H1 := [_]) (R1 := [_]) h (fun W hφ => hφ)) (.inr rfl)
     refine res_tmp ?_
     refine res_tmp ?_
     refine res_tmp ?_
     refine res_nil ?_
     exact rfl
    ·
     replace hm := ite_f hm (of_decide_eq_false h350)
     refine c_skip ?_
     refine d_normal_block ?_
     refine d_then ?_
     refine c_seq ?_
     refine c_region ?_
     refine g_v rfl r_move ?_
     refine g_v rfl r_move ?_
     refine g_v rfl r_move ?_
     refine g_v rfl (r_conv Try.underlying5 Try.underlying3 rfl rfl) ?_
     replace hm := bnd hm
     obtain ⟨⟨x351, x352, x353⟩, hx354, hm⟩ := hm
     refine g_cn ⟨w0, M, _, _, φ⟩ (fun _ h => h) Try.call23 rfl rfl (c_pack_Raw p0 x319 (w64 x318) _ hx354) (fun _ _ => ?_)
     refine g_v rfl r_move ?_
     refine g_v rfl (r_extract rfl rfl) ?_
     refine g_v rfl (r_extract rfl rfl) ?_
     refine g_v rfl (r_extract rfl rfl) ?_
     refine g_v rfl r_assign ?_
     refine g_v rfl r_assign ?_
     refine g_v rfl r_assign ?_
     refine g_nil ?_
     refine d_then ?_
     refine c_flat [(0, .string p0), (7, .slice A260 l259.length c261), (8, .pointer (some ⟨g1, 0, none⟩)), (9, .int .i64 i263), (10, .func (.func 62) #[] #[.pointer (some ⟨g1, 0, none⟩)]), (11, .int .u8 x318), (13, .int .i64 x353), (18, .string x351), (19, .int .i64 x352)] ⟨rfl, rfl, rfl, rfl, rfl, rfl, rfl, rfl, rfl, trivial⟩ (fun u => ?_)
     refine c_sta ⟨w0, M, (100080, g1, .cells #[.int .i64 i264] 3 (0, 0)) :: H, (20, ⟨.slice A260 l259.length c261, 5, 1, l259.length, l259.flatMap (fun x : Int => [Value.int .u8 x])⟩) :: R, φ⟩ (fun _ h => h) ?_
     refine c_seq ?_
     refine c_block ?_
     refine c_seq ?_
     refine c_region ?_
     refine g_v rfl r_move ?_
     refine g_v rfl (r_neq rfl rfl) ?_
     refine g_v rfl r_assign ?_
     refine g_nil ?_
     refine d_then ?_
     refine c_cond rfl (fun h356 => ?_) (fun h356 => ?_)
     ·
      replace hm := ite_t hm (of_decide_eq_true h356)
      refine c_seq ?_
      refine c_region ?_
      refine g_v rfl r_move ?_
      refine g_v rfl r_assign ?_
      refine g_v rfl r_assign ?_
      refine g_v rfl r_assign ?_
      refine g_nil ?_
      refine d_then ?_
      refine c_ret ?_
      refine d_ret_block ?_
      refine d_ret_then ?_
      refine d_ret_block ?_
      refine d_ret_then ?_
      refine d_ret_block ?_
      replace hm := nx_out (C := (fun e => Sum.elim (fun e => (none : Option (ByteArray × Int × Int))) (fun x => some x) e = some r)) hm hnx1 hr1
      replace hm : some ((⟨#[]⟩ : ByteArray), 0, x353) = some r := hm
      replace hm := Option.some.inj hm
      subst hm
      refine d_retC () Try.results16 ?_ trivial (fun W h => ok_pre (H1 := [_]) (R1 := [_]) h (fun W hφ => hφ)) (.inr rfl)
      refine res_tmp ?_
      refine res_tmp ?_
      refine res_tmp ?_
      refine res_nil ?_
      exact rfl
     ·
      replace hm := ite_f hm (of_decide_eq_false h356)
      refine c_seq ?_
      refine c_region ?_
      refine g_v rfl r_move ?_
      refine g_v rfl (r_lenL Try.underlying58 rfl) ?_
      refine g_v rfl (r_add rfl rfl rfl) ?_
      refine g_v rfl r_move ?_
      refine g_v rfl (r_len Try.underlying9 rfl) ?_
      refine g_v rfl (r_add rfl rfl rfl) ?_
      refine g_v rfl (r_add rfl rfl rfl) ?_
      refine g_v rfl (r_gtr rfl rfl) ?_
      refine g_v rfl r_assign ?_
      refine g_nil ?_
      refine d_then ?_
      refine c_flat [(0, .string p0), (7, .slice A260 l259.length c261), (8, .pointer (some ⟨g1, 0, none⟩)), (9, .int .i64 i263), (10, .func (.func 62) #[] #[.pointer (some ⟨g1, 0, none⟩)]), (11, .int .u8 x318), (18, .string x351), (19, .int .i64 x352), (85, .bool (decide (255 < w64 ((w64 ((w64 ((l259.length : Int) + 1)) + (x351.size : Int))) + 1))))] ⟨rfl, rfl, rfl, rfl, rfl, rfl, rfl, rfl, rfl, trivial⟩ (fun u => ?_)
      refine c_sta ⟨w0, M, (100080, g1, .cells #[.int .i64 i264] 3 (0, 0)) :: H, (20, ⟨.slice A260 l259.length c261, 5, 1, l259.length, l259.flatMap (fun x : Int => [Value.int .u8 x])⟩) :: R, φ⟩ (fun _ h => h) ?_
      refine c_cond rfl (fun h357 => ?_) (fun h357 => ?_)
      ·
       replace hm := ite_t hm (of_decide_eq_true h357)
       refine c_seq ?_
       refine c_region ?_
       refine g_v rfl r_assign ?_
       refine g_v rfl r_assign ?_
       refine g_v rfl r_assign ?_
       refine g_nil ?_
       refine d_then ?_
       refine c_ret ?_
       refine d_ret_block ?_
       refine d_ret_then ?_
       refine d_ret_block ?_
       refine d_ret_then ?_
       refine d_ret_block ?_
       replace hm := nx_out (C := (fun e => Sum.elim (fun e => (none : Option (ByteArray × Int × Int))) (fun x => some x) e = some r)) hm hnx1 hr1
       replace hm : some ((⟨#[]⟩ : ByteArray), 0, 11) = some r := hm
       replace hm := Option.some.inj hm
       subst hm
       refine d_retC () Try.results16 ?_ trivial (fun W h => ok_pre (H1 := [_]) (R1 := [_]) h (fun W hφ => hφ)) (.inr rfl)
       refine res_tmp ?_
       refine res_tmp ?_
       refine res_tmp ?_
       refine res_nil ?_
       exact rfl
      ·
       replace hm := ite_f hm (of_decide_eq_false h357)
       refine c_skip ?_
       refine d_normal_block ?_
       refine d_then ?_
       refine c_seq ?_
       refine c_region ?_
       refine g_v rfl r_move ?_
       refine g_v rfl r_move ?_
       refine g_e rfl (e_lit (tag := 100960) (l := [x318]) (enc := (fun x : Int => [Value.int .u8 x])) (sz := 1) rfl Try.underlying58 (lit5_6 _) rfl rfl (fun _ => rfl)) (fun g358 _ => ?_)
       replace hm := bnd hm
       obtain ⟨l359, hl359, hm⟩ := hm
       refine g_e rfl (e_appR (enc := (fun x : Int => [Value.int .u8 x])) (l := l259) (l1 := [x318]) (l2 := l359) (tag := 20) Try.underlying58 inf5_5 rfl (by decide) (by decide) (fun _ => rfl) (fun _ => rfl) rfl hc261 rfl rfl (fun W hS => rowCl (tag := 100960) rfl W hS) hl359) (fun ⟨A360, c361⟩ hc361 => ?_)
       refine g_v rfl r_move ?_
       replace hm := bnd hm
       obtain ⟨l362, hl362, hm⟩ := hm
       refine g_e rfl (e_appRS (l := l359) (l2 := l362) (tag := 20) Try.underlying58 Try.underlying9 inf5_5 rfl hc361 rfl rfl hl362) (fun ⟨A363, c364⟩ hc364 => ?_)
       refine g_v rfl r_assign ?_
       refine g_nil ?_
       refine d_then ?_
       refine c_region ?_
       refine g_v rfl r_move ?_
       refine g_v rfl r_assign ?_
       refine g_nil ?_
       refine d_normal_block ?_
       obtain ⟨n365, hn365, hlp⟩ := nx_inl hm hnx1
       exact d_round (n365, l362, x352, i263, i264, A363, c364) ⟨hlp, hc364⟩ hn365 ⟨rfl, rfl, rfl, rfl, rfl, rfl, trivial⟩ (fun W h => (h.dropR (t := 100960) rfl).phi (fun W hφ => hφ))

noncomputable def m_law04_awake  : Option Bool :=
  (m_pack_New).bind fun x1 =>
  (m_pack_Packer_Name (⟨#[3, 119, 119, 119, 1, 97, 0]⟩ : ByteArray) true x1).bind fun (z19 : Int × Gpack_Packer) =>
  (m_pack_Packer_Name (⟨#[1, 98, 1, 97, 0]⟩ : ByteArray) true z19.2).bind fun (z29 : Int × Gpack_Packer) =>
  (m_pack_Packer_Bytes z29.2).bind fun x30 =>
  (m_pack_Name x30 7).bind fun (z36 : ByteArray × Int × Int) =>
  (m_pack_Name (⟨#[192, 0]⟩ : ByteArray) 0).bind fun (z41 : ByteArray × Int × Int) =>
  (m_pack_Name (⟨#[1, 97, 192, 0]⟩ : ByteArray) 2).bind fun (z46 : ByteArray × Int × Int) =>
  if z19.1 = 0 then
    if z29.1 = 0 then
      if x30 = (⟨#[3, 119, 119, 119, 1, 97, 0, 1, 98, 192, 4]⟩ : ByteArray) then
        if z36.1 = (⟨#[1, 98, 1, 97, 0]⟩ : ByteArray) then
          if z36.2.1 = 11 then
            if z36.2.2 = 0 then
              if z41.2.2 = 10 then
                some (decide (z46.2.2 = 10))
              else
                some false
            else
              some false
          else
            some false
        else
          some false
      else
        some false
    else
      some false
  else
    some false
theorem c_law04_awake {w0 : World} {M : Nat → Prop} {H : List (Nat × Nat × Obj)} {R : List (Nat × Row)} {φ : World → Prop}  (r : Bool) (hm : m_law04_awake = some r) :
    Cn Try.prog 14 #[] ⟨w0, M, H, R, φ⟩ (fun x : Unit => .bool r) (fun x => True) (fun x => ⟨w0, M, H, R, φ⟩) := by
 unfold m_law04_awake at hm
 refine cn_intro (fn := Try.f14) (N := 69) Try.func14 rfl Try.ntmps14 rfl ?_
 refine c_seq ?_
 refine c_region ?_
 refine g_v rfl r_assign ?_
 refine g_nil ?_
 refine d_then ?_
 refine c_seq ?_
 refine c_region ?_
 replace hm := bnd hm
 obtain ⟨x1, hx2, hm⟩ := hm
 refine g_cn ⟨w0, M, _, _, φ⟩ (fun _ h => h) Try.call25 rfl rfl (c_pack_New  _ hx2) (fun ⟨A3, c4, A6, c7, g9⟩ ⟨hc4, hc7⟩ => ?_)
 refine g_sta _ (fun W h => (ok_frontR (t := 2000) (t' := 100140) (ok_frontR (t := 2001) (t' := 100141) (ok_front (t := 3000) (t' := 100145) h rfl) rfl) rfl)) ?_
 refine g_v rfl r_assign ?_
 refine g_nil ?_
 refine d_then ?_
 refine c_seq ?_
 refine c_seq ?_
 refine c_region ?_
 refine g_v rfl r_move ?_
 refine g_v rfl (r_eqlP1 Try.underlying42 rfl rfl) ?_
 refine g_nil ?_
 refine d_then ?_
 refine c_cond0 rfl rfl ?_
 refine c_skip ?_
 refine d_then ?_
 refine c_seq ?_
 refine c_region ?_
 refine g_v rfl r_move ?_
 replace hm := bnd hm
 obtain ⟨⟨x10, x11⟩, hx12, hm⟩ := hm
 refine g_cn ⟨w0, M, (1000, g9, .cells #[.slice A3 x1.fb.length c4, mapV A6] 67 (0, 0)) :: H, (1000, ⟨.slice A3 x1.fb.length c4, 5, 1, x1.fb.length, x1.fb.flatMap (fun x : Int => [Value.int .u8 x])⟩) :: (1001, ⟨mapV A6, 65, 2, x1.fplaces.length, x1.fplaces.flatMap (mcell (fun x : ByteArray => Value.string x) (fun x : Int => Value.int .i64 x))⟩) :: R, φ⟩ (fun W h => (ok_front (t := 100145) (t' := 1000) (ok_frontR (t := 100140) (t' := 1000) (ok_frontR (t := 100141) (t' := 1001) h rfl) rfl) rfl)) Try.call27 rfl rfl (c_pack_Packer_Name (⟨#[3, 119, 119, 119, 1, 97, 0]⟩ : ByteArray) true g9 x1 A3 c4 hc4 A6 c7 trivial _ hx12) (fun ⟨A13, c14, A16, c17⟩ ⟨hc14, hc17⟩ => ?_)
 refine g_sta _ (fun W h => (ok_frontR (t := 2000) (t' := 100140) (ok_frontR (t := 2001) (t' := 100141) (ok_front (t := 1000) (t' := 100145) h rfl) rfl) rfl)) ?_
 refine g_v rfl r_assign ?_
 refine g_nil ?_
 refine d_then ?_
 refine c_seq ?_
 refine c_region ?_
 refine g_v rfl r_move ?_
 replace hm := bnd hm
 obtain ⟨⟨x20, x21⟩, hx22, hm⟩ := hm
 refine g_cn ⟨w0, M, (1000, g9, .cells #[.slice A13 x11.fb.length c14, mapV A16] 67 (0, 0)) :: H, (1000, ⟨.slice A13 x11.fb.length c14, 5, 1, x11.fb.length, x11.fb.flatMap (fun x : Int => [Value.int .u8 x])⟩) :: (1001, ⟨mapV A16, 65, 2, x11.fplaces.length, x11.fplaces.flatMap (mcell (fun x : ByteArray => Value.string x) (fun x : Int => Value.int .i64 x))⟩) :: R, φ⟩ (fun W h => (ok_front (t := 100145) (t' := 1000) (ok_frontR (t := 100140) (t' := 1000) (ok_frontR (t := 100141) (t' := 1001) h rfl) rfl) rfl)) Try.call27 rfl rfl (c_pack_Packer_Name (⟨#[1, 98, 1, 97, 0]⟩ : ByteArray) true g9 x11 A13 c14 hc14 A16 c17 trivial _ hx22) (fun ⟨A23, c24, A26, c27⟩ ⟨hc24, hc27⟩ => ?_)
 refine g_sta _ (fun W h => (ok_frontR (t := 2000) (t' := 100140) (ok_frontR (t := 2001) (t' := 100141) (ok_front (t := 1000) (t' := 100145) h rfl) rfl) rfl)) ?_
 refine g_v rfl r_assign ?_
 refine g_nil ?_
 refine d_then ?_
 refine c_flat [(1, .pointer (some ⟨g9, 0, none⟩)), (2, .int .i64 x10), (3, .int .i64 x20)] ⟨rfl, rfl, rfl, trivial⟩ (fun u => ?_)
 refine c_sta ⟨w0, M, (100145, g9, .cells #[.slice A23 x21.fb.length c24, mapV A26] 67 (0, 0)) :: H, (100140, ⟨.slice A23 x21.fb.length c24, 5, 1, x21.fb.length, x21.fb.flatMap (fun x : Int => [Value.int .u8 x])⟩) :: (100141, ⟨mapV A26, 65, 2, x21.fplaces.length, x21.fplaces.flatMap (mcell (fun x : ByteArray => Value.string x) (fun x : Int => Value.int .i64 x))⟩) :: R, φ⟩ (fun _ h => h) ?_
 refine c_seq ?_
 refine c_region ?_
 refine g_v rfl r_move ?_
 replace hm := bnd hm
 obtain ⟨x30, hx31, hm⟩ := hm
 refine g_cn ⟨w0, M, (1000, g9, .cells #[.slice A23 x21.fb.length c24, mapV A26] 67 (0, 0)) :: H, (1000, ⟨.slice A23 x21.fb.length c24, 5, 1, x21.fb.length, x21.fb.flatMap (fun x : Int => [Value.int .u8 x])⟩) :: (1001, ⟨mapV A26, 65, 2, x21.fplaces.length, x21.fplaces.flatMap (mcell (fun x : ByteArray => Value.string x) (fun x : Int => Value.int .i64 x))⟩) :: R, φ⟩ (fun W h => (ok_front (t := 100145) (t' := 1000) (ok_frontR (t := 100140) (t' := 1000) (ok_frontR (t := 100141) (t' := 1001) h rfl) rfl) rfl)) Try.call29 rfl rfl (c_pack_Packer_Bytes g9 x21 A23 c24 hc24 A26 c27 trivial _ hx31) (fun _ _ => ?_)
 refine g_sta _ (fun W h => (ok_frontR (t := 1000) (t' := 100140) (ok_frontR (t := 1001) (t' := 100141) (ok_front (t := 1000) (t' := 100145) h rfl) rfl) rfl)) ?_
 refine g_v rfl r_assign ?_
 refine g_nil ?_
 refine d_then ?_
 refine c_seq ?_
 refine c_region ?_
 refine g_v rfl r_move ?_
 replace hm := bnd hm
 obtain ⟨⟨x32, x33, x34⟩, hx35, hm⟩ := hm
 refine g_cn ⟨w0, M, _, _, φ⟩ (fun _ h => h) Try.call16 rfl rfl (c_pack_Name x30 7 _ hx35) (fun _ _ => ?_)
 refine g_v rfl r_move ?_
 refine g_v rfl (r_extract rfl rfl) ?_
 refine g_v rfl (r_extract rfl rfl) ?_
 refine g_v rfl (r_extract rfl rfl) ?_
 refine g_v rfl r_assign ?_
 refine g_v rfl r_assign ?_
 refine g_v rfl r_assign ?_
 refine g_nil ?_
 refine d_then ?_
 refine c_flat [(2, .int .i64 x10), (3, .int .i64 x20), (4, .string x30), (5, .string x32), (6, .int .i64 x33), (7, .int .i64 x34)] ⟨rfl, rfl, rfl, rfl, rfl, rfl, trivial⟩ (fun u => ?_)
 refine c_sta ⟨w0, M, (100145, g9, .cells #[.slice A23 x21.fb.length c24, mapV A26] 67 (0, 0)) :: H, (100140, ⟨.slice A23 x21.fb.length c24, 5, 1, x21.fb.length, x21.fb.flatMap (fun x : Int => [Value.int .u8 x])⟩) :: (100141, ⟨mapV A26, 65, 2, x21.fplaces.length, x21.fplaces.flatMap (mcell (fun x : ByteArray => Value.string x) (fun x : Int => Value.int .i64 x))⟩) :: R, φ⟩ (fun _ h => h) ?_
 refine c_seq ?_
 refine c_region ?_
 replace hm := bnd hm
 obtain ⟨⟨x37, x38, x39⟩, hx40, hm⟩ := hm
 refine g_cn ⟨w0, M, _, _, φ⟩ (fun _ h => h) Try.call16 rfl rfl (c_pack_Name (⟨#[192, 0]⟩ : ByteArray) 0 _ hx40) (fun _ _ => ?_)
 refine g_v rfl r_move ?_
 refine g_v rfl (r_extract rfl rfl) ?_
 refine g_v rfl (r_extract rfl rfl) ?_
 refine g_v rfl (r_extract rfl rfl) ?_
 refine g_v rfl r_assign ?_
 refine g_v rfl r_assign ?_
 refine g_v rfl r_assign ?_
 refine g_nil ?_
 refine d_then ?_
 refine c_seq ?_
 refine c_region ?_
 replace hm := bnd hm
 obtain ⟨⟨x42, x43, x44⟩, hx45, hm⟩ := hm
 refine g_cn ⟨w0, M, _, _, φ⟩ (fun _ h => h) Try.call16 rfl rfl (c_pack_Name (⟨#[1, 97, 192, 0]⟩ : ByteArray) 2 _ hx45) (fun _ _ => ?_)
 refine g_v rfl r_move ?_
 refine g_v rfl (r_extract rfl rfl) ?_
 refine g_v rfl (r_extract rfl rfl) ?_
 refine g_v rfl (r_extract rfl rfl) ?_
 refine g_v rfl r_assign ?_
 refine g_v rfl r_assign ?_
 refine g_v rfl r_assign ?_
 refine g_nil ?_
 refine d_then ?_
 refine c_flat [(2, .int .i64 x10), (3, .int .i64 x20), (4, .string x30), (5, .string x32), (6, .int .i64 x33), (7, .int .i64 x34), (10, .int .i64 x39), (13, .int .i64 x44)] ⟨rfl, rfl, rfl, rfl, rfl, rfl, rfl, rfl, trivial⟩ (fun u => ?_)
 refine c_sta ⟨w0, M, (100145, g9, .cells #[.slice A23 x21.fb.length c24, mapV A26] 67 (0, 0)) :: H, (100140, ⟨.slice A23 x21.fb.length c24, 5, 1, x21.fb.length, x21.fb.flatMap (fun x : Int => [Value.int .u8 x])⟩) :: (100141, ⟨mapV A26, 65, 2, x21.fplaces.length, x21.fplaces.flatMap (mcell (fun x : ByteArray => Value.string x) (fun x : Int => Value.int .i64 x))⟩) :: R, φ⟩ (fun _ h => h) ?_
 refine c_seq ?_
 refine c_region ?_
 refine g_v rfl r_move ?_
 refine g_v rfl (r_eql rfl rfl) ?_
 refine g_v rfl r_move ?_
 refine g_if rfl rfl rfl rfl rfl (fun h47 => ?_) (fun h47 => ?_)
 ·
  replace hm := ite_t hm (of_decide_eq_true h47)
  refine g_v rfl r_move ?_
  refine g_do rfl rfl rfl rfl rfl h47 ?_
  refine g_v rfl (r_eql rfl rfl) ?_
  refine g_v rfl (r_pick1 rfl h47) ?_
  refine g_v rfl r_move ?_
  refine g_if rfl rfl rfl rfl rfl (fun h48 => ?_) (fun h48 => ?_)
  ·
   replace hm := ite_t hm (of_decide_eq_true h48)
   refine g_v rfl r_move ?_
   refine g_do rfl rfl rfl rfl rfl h48 ?_
   refine g_v rfl (r_eqlT rfl rfl) ?_
   refine g_v rfl (r_pick1 rfl h48) ?_
   refine g_v rfl r_move ?_
   refine g_if rfl rfl rfl rfl rfl (fun h49 => ?_) (fun h49 => ?_)
   ·
    replace hm := ite_t hm (of_decide_eq_true h49)
    refine g_v rfl r_move ?_
    refine g_do rfl rfl rfl rfl rfl h49 ?_
    refine g_v rfl (r_eqlT rfl rfl) ?_
    refine g_v rfl (r_pick1 rfl h49) ?_
    refine g_v rfl r_move ?_
    refine g_if rfl rfl rfl rfl rfl (fun h50 => ?_) (fun h50 => ?_)
    ·
     replace hm := ite_t hm (of_decide_eq_true h50)
     refine g_v rfl r_move ?_
     refine g_do rfl rfl rfl rfl rfl h50 ?_
     refine g_v rfl (r_eql rfl rfl) ?_
     refine g_v rfl (r_pick1 rfl h50) ?_
     refine g_v rfl r_move ?_
     refine g_if rfl rfl rfl rfl rfl (fun h51 => ?_) (fun h51 => ?_)
     ·
      replace hm := ite_t hm (of_decide_eq_true h51)
      refine g_v rfl r_move ?_
      refine g_do rfl rfl rfl rfl rfl h51 ?_
      refine g_v rfl (r_eql rfl rfl) ?_
      refine g_v rfl (r_pick1 rfl h51) ?_
      refine g_v rfl r_move ?_
      refine g_if rfl rfl rfl rfl rfl (fun h52 => ?_) (fun h52 => ?_)
      ·
       replace hm := ite_t hm (of_decide_eq_true h52)
       refine g_v rfl r_move ?_
       refine g_do rfl rfl rfl rfl rfl h52 ?_
       refine g_v rfl (r_eql rfl rfl) ?_
       refine g_v rfl (r_pick1 rfl h52) ?_
       refine g_v rfl r_move ?_
       refine g_if rfl rfl rfl rfl rfl (fun h53 => ?_) (fun h53 => ?_)
       ·
        replace hm := ite_t hm (of_decide_eq_true h53)
        refine g_v rfl r_move ?_
        refine g_do rfl rfl rfl rfl rfl h53 ?_
        refine g_v rfl (r_eql rfl rfl) ?_
        refine g_v rfl (r_pick1 rfl h53) ?_
        refine g_v rfl r_assign ?_
        refine g_nil ?_
        refine d_then ?_
        refine c_flat [(0, .bool (decide (x44 = 10)))] ⟨rfl, trivial⟩ (fun u => ?_)
        refine c_sta ⟨w0, M, (100145, g9, .cells #[.slice A23 x21.fb.length c24, mapV A26] 67 (0, 0)) :: H, (100140, ⟨.slice A23 x21.fb.length c24, 5, 1, x21.fb.length, x21.fb.flatMap (fun x : Int => [Value.int .u8 x])⟩) :: (100141, ⟨mapV A26, 65, 2, x21.fplaces.length, x21.fplaces.flatMap (mcell (fun x : ByteArray => Value.string x) (fun x : Int => Value.int .i64 x))⟩) :: R, φ⟩ (fun _ h => h) ?_
        refine c_ret ?_
        replace hm := Option.some.inj hm
        subst hm
        refine d_retC () Try.results14 ?_ trivial (fun W h => ok_pre (H1 := [_]) (R1 := [_, _]) h (fun W hφ => hφ)) (.inr rfl)
        refine res_tmp ?_
        refine res_nil ?_
        exact rfl
       ·
        replace hm := ite_f hm (of_decide_eq_false h53)
        refine g_no rfl rfl rfl rfl rfl h53 ?_
        refine g_v rfl (r_pick0 rfl h53) ?_
        refine g_v rfl r_assign ?_
        refine g_nil ?_
        refine d_then ?_
        refine c_flat [(0, .bool false)] ⟨rfl, trivial⟩ (fun u => ?_)
        refine c_sta ⟨w0, M, (100145, g9, .cells #[.slice A23 x21.fb.length c24, mapV A26] 67 (0, 0)) :: H, (100140, ⟨.slice A23 x21.fb.length c24, 5, 1, x21.fb.length, x21.fb.flatMap (fun x : Int => [Value.int .u8 x])⟩) :: (100141, ⟨mapV A26, 65, 2, x21.fplaces.length, x21.fplaces.flatMap (mcell (fun x : ByteArray => Value.string x) (fun x : Int => Value.int .i64 x))⟩) :: R, φ⟩ (fun _ h => h) ?_
        refine c_ret ?_
        replace hm := Option.some.inj hm
        subst hm
        refine d_retC () Try.results14 ?_ trivial (fun W h => ok_pre (H1 := [_]) (R1 := [_, _]) h (fun W hφ => hφ)) (.inr rfl)
        refine res_tmp ?_
        refine res_nil ?_
        exact rfl
      ·
       replace hm := ite_f hm (of_decide_eq_false h52)
       refine g_no rfl rfl rfl rfl rfl h52 ?_
       refine g_v rfl (r_pick0 rfl h52) ?_
       refine g_v rfl r_move ?_
       refine g_no rfl rfl rfl rfl rfl rfl ?_
       refine g_no rfl rfl rfl rfl rfl rfl ?_
       refine g_v rfl (r_pick0 rfl rfl) ?_
       refine g_v rfl r_assign ?_
       refine g_nil ?_
       refine d_then ?_
       refine c_flat [(0, .bool false)] ⟨rfl, trivial⟩ (fun u => ?_)
       refine c_sta ⟨w0, M, (100145, g9, .cells #[.slice A23 x21.fb.length c24, mapV A26] 67 (0, 0)) :: H, (100140, ⟨.slice A23 x21.fb.length c24, 5, 1, x21.fb.length, x21.fb.flatMap (fun x : Int => [Value.int .u8 x])⟩) :: (100141, ⟨mapV A26, 65, 2, x21.fplaces.length, x21.fplaces.flatMap (mcell (fun x : ByteArray => Value.string x) (fun x : Int => Value.int .i64 x))⟩) :: R, φ⟩ (fun _ h => h) ?_
       refine c_ret ?_
       replace hm := Option.some.inj hm
       subst hm
       refine d_retC () Try.results14 ?_ trivial (fun W h => ok_pre (H1 := [_]) (R1 := [_, _]) h (fun W hφ => hφ)) (.inr rfl)
       refine res_tmp ?_
       refine res_nil ?_
       exact rfl
     ·
      replace hm := ite_f hm (of_decide_eq_false h51)
      refine g_no rfl rfl rfl rfl rfl h51 ?_
      refine g_v rfl (r_pick0 rfl h51) ?_
      refine g_v rfl r_move ?_
      refine g_no rfl rfl rfl rfl rfl rfl ?_
      refine g_no rfl rfl rfl rfl rfl rfl ?_
      refine g_v rfl (r_pick0 rfl rfl) ?_
      refine g_v rfl r_move ?_
      refine g_no rfl rfl rfl rfl rfl rfl ?_
      refine g_no rfl rfl rfl rfl rfl rfl ?_
      refine g_v rfl (r_pick0 rfl rfl) ?_
      refine g_v rfl r_assign ?_
      refine g_nil ?_
      refine d_then ?_
      refine c_flat [(0, .bool false)] ⟨rfl, trivial⟩ (fun u => ?_)
      refine c_sta ⟨w0, M, (100145, g9, .cells #[.slice A23 x21.fb.length c24, mapV A26] 67 (0, 0)) :: H, (100140, ⟨.slice A23 x21.fb.length c24, 5, 1, x21.fb.length, x21.fb.flatMap (fun x : Int => [Value.int .u8 x])⟩) :: (100141, ⟨mapV A26, 65, 2, x21.fplaces.length, x21.fplaces.flatMap (mcell (fun x : ByteArray => Value.string x) (fun x : Int => Value.int .i64 x))⟩) :: R, φ⟩ (fun _ h => h) ?_
      refine c_ret ?_
      replace hm := Option.some.inj hm
      subst hm
      refine d_retC () Try.results14 ?_ trivial (fun W h => ok_pre (H1 := [_]) (R1 := [_, _]) h (fun W hφ => hφ)) (.inr rfl)
      refine res_tmp ?_
      refine res_nil ?_
      exact rfl
    ·
     replace hm := ite_f hm (of_decide_eq_false h50)
     refine g_no rfl rfl rfl rfl rfl h50 ?_
     refine g_v rfl (r_pick0 rfl h50) ?_
     refine g_v rfl r_move ?_
     refine g_no rfl rfl rfl rfl rfl rfl ?_
     refine g_no rfl rfl rfl rfl rfl rfl ?_
     refine g_v rfl (r_pick0 rfl rfl) ?_
     refine g_v rfl r_move ?_
     refine g_no rfl rfl rfl rfl rfl rfl ?_
     refine g_no rfl rfl rfl rfl rfl rfl ?_
     refine g_v rfl (r_pick0 rfl rfl) ?_
     refine g_v rfl r_move ?_
     refine g_no rfl rfl rfl rfl rfl rfl ?_
     refine g_no rfl rfl rfl rfl rfl rfl ?_
     refine g_v rfl (r_pick0 rfl rfl) ?_
     refine g_v rfl r_assign ?_
     refine g_nil ?_
     refine d_then ?_
     refine c_flat [(0, .bool false)] ⟨rfl, trivial⟩ (fun u => ?_)
     refine c_sta ⟨w0, M, (100145, g9, .cells #[.slice A23 x21.fb.length c24, mapV A26] 67 (0, 0)) :: H, (100140, ⟨.slice A23 x21.fb.length c24, 5, 1, x21.fb.length, x21.fb.flatMap (fun x : Int => [Value.int .u8 x])⟩) :: (100141, ⟨mapV A26, 65, 2, x21.fplaces.length, x21.fplaces.flatMap (mcell (fun x : ByteArray => Value.string x) (fun x : Int => Value.int .i64 x))⟩) :: R, φ⟩ (fun _ h => h) ?_
     refine c_ret ?_
     replace hm := Option.some.inj hm
     subst hm
     refine d_retC () Try.results14 ?_ trivial (fun W h => ok_pre (H1 := [_]) (R1 := [_, _]) h (fun W hφ => hφ)) (.inr rfl)
     refine res_tmp ?_
     refine res_nil ?_
     exact rfl
   ·
    replace hm := ite_f hm (of_decide_eq_false h49)
    refine g_no rfl rfl rfl rfl rfl h49 ?_
    refine g_v rfl (r_pick0 rfl h49) ?_
    refine g_v rfl r_move ?_
    refine g_no rfl rfl rfl rfl rfl rfl ?_
    refine g_no rfl rfl rfl rfl rfl rfl ?_
    refine g_v rfl (r_pick0 rfl rfl) ?_
    refine g_v rfl r_move ?_
    refine g_no rfl rfl rfl rfl rfl rfl ?_
    refine g_no rfl rfl rfl rfl rfl rfl ?_
    refine g_v rfl (r_pick0 rfl rfl) ?_
    refine g_v rfl r_move ?_
    refine g_no rfl rfl rfl rfl rfl rfl ?_
    refine g_no rfl rfl rfl rfl rfl rfl ?_
    refine g_v rfl (r_pick0 rfl rfl) ?_
    refine g_v rfl r_move ?_
    refine g_no rfl rfl rfl rfl rfl rfl ?_
    refine g_no rfl rfl rfl rfl rfl rfl ?_
    refine g_v rfl (r_pick0 rfl rfl) ?_
    refine g_v rfl r_assign ?_
    refine g_nil ?_
    refine d_then ?_
    refine c_flat [(0, .bool false)] ⟨rfl, trivial⟩ (fun u => ?_)
    refine c_sta ⟨w0, M, (100145, g9, .cells #[.slice A23 x21.fb.length c24, mapV A26] 67 (0, 0)) :: H, (100140, ⟨.slice A23 x21.fb.length c24, 5, 1, x21.fb.length, x21.fb.flatMap (fun x : Int => [Value.int .u8 x])⟩) :: (100141, ⟨mapV A26, 65, 2, x21.fplaces.length, x21.fplaces.flatMap (mcell (fun x : ByteArray => Value.string x) (fun x : Int => Value.int .i64 x))⟩) :: R, φ⟩ (fun _ h => h) ?_
    refine c_ret ?_
    replace hm := Option.some.inj hm
    subst hm
    refine d_retC () Try.results14 ?_ trivial (fun W h => ok_pre (H1 := [_]) (R1 := [_, _]) h (fun W hφ => hφ)) (.inr rfl)
    refine res_tmp ?_
    refine res_nil ?_
    exact rfl
  ·
   replace hm := ite_f hm (of_decide_eq_false h48)
   refine g_no rfl rfl rfl rfl rfl h48 ?_
   refine g_v rfl (r_pick0 rfl h48) ?_
   refine g_v rfl r_move ?_
   refine g_no rfl rfl rfl rfl rfl rfl ?_
   refine g_no rfl rfl rfl rfl rfl rfl ?_
   refine g_v rfl (r_pick0 rfl rfl) ?_
   refine g_v rfl r_move ?_
   refine g_no rfl rfl rfl rfl rfl rfl ?_
   refine g_no rfl rfl rfl rfl rfl rfl ?_
   refine g_v rfl (r_pick0 rfl rfl) ?_
   refine g_v rfl r_move ?_
   refine g_no rfl rfl rfl rfl rfl rfl ?_
   refine g_no rfl rfl rfl rfl rfl rfl ?_
   refine g_v rfl (r_pick0 rfl rfl) ?_
   refine g_v rfl r_move ?_
   refine g_no rfl rfl rfl rfl rfl rfl ?_
   refine g_no rfl rfl rfl rfl rfl rfl ?_
   refine g_v rfl (r_pick0 rfl rfl) ?_
   refine g_v rfl r_move ?_
   refine g_no rfl rfl rfl rfl rfl rfl ?_
   refine g_no rfl rfl rfl rfl rfl rfl ?_
   refine g_v rfl (r_pick0 rfl rfl) ?_
   refine g_v rfl r_assign ?_
   refine g_nil ?_
   refine d_then ?_
   refine c_flat [(0, .bool false)] ⟨rfl, trivial⟩ (fun u => ?_)
   refine c_sta ⟨w0, M, (100145, g9, .cells #[.slice A23 x21.fb.length c24, mapV A26] 67 (0, 0)) :: H, (100140, ⟨.slice A23 x21.fb.length c24, 5, 1, x21.fb.length, x21.fb.flatMap (fun x : Int => [Value.int .u8 x])⟩) :: (100141, ⟨mapV A26, 65, 2, x21.fplaces.length, x21.fplaces.flatMap (mcell (fun x : ByteArray => Value.string x) (fun x : Int => Value.int .i64 x))⟩) :: R, φ⟩ (fun _ h => h) ?_
   refine c_ret ?_
   replace hm := Option.some.inj hm
   subst hm
   refine d_retC () Try.results14 ?_ trivial (fun W h => ok_pre (H1 := [_]) (R1 := [_, _]) h (fun W hφ => hφ)) (.inr rfl)
   refine res_tmp ?_
   refine res_nil ?_
   exact rfl
 ·
  replace hm := ite_f hm (of_decide_eq_false h47)
  refine g_no rfl rfl rfl rfl rfl h47 ?_
  refine g_v rfl (r_pick0 rfl h47) ?_
  refine g_v rfl r_move ?_
  refine g_no rfl rfl rfl rfl rfl rfl ?_
  refine g_no rfl rfl rfl rfl rfl rfl ?_
  refine g_v rfl (r_pick0 rfl rfl) ?_
  refine g_v rfl r_move ?_
  refine g_no rfl rfl rfl rfl rfl rfl ?_
  refine g_no rfl rfl rfl rfl rfl rfl ?_
  refine g_v rfl (r_pick0 rfl rfl) ?_
  refine g_v rfl r_move ?_
  refine g_no rfl rfl rfl rfl rfl rfl ?_
  refine g_no rfl rfl rfl rfl rfl rfl ?_
  refine g_v rfl (r_pick0 rfl rfl) ?_
  refine g_v rfl r_move ?_
  refine g_no rfl rfl rfl rfl rfl rfl ?_
  refine g_no rfl rfl rfl rfl rfl rfl ?_
  refine g_v rfl (r_pick0 rfl rfl) ?_
  refine g_v rfl r_move ?_
  refine g_no rfl rfl rfl rfl rfl rfl ?_
  refine g_no rfl rfl rfl rfl rfl rfl ?_
  refine g_v rfl (r_pick0 rfl rfl) ?_
  refine g_v rfl r_move ?_
  refine g_no rfl rfl rfl rfl rfl rfl ?_
  refine g_no rfl rfl rfl rfl rfl rfl ?_
  refine g_v rfl (r_pick0 rfl rfl) ?_
  refine g_v rfl r_assign ?_
  refine g_nil ?_
  refine d_then ?_
  refine c_flat [(0, .bool false)] ⟨rfl, trivial⟩ (fun u => ?_)
  refine c_sta ⟨w0, M, (100145, g9, .cells #[.slice A23 x21.fb.length c24, mapV A26] 67 (0, 0)) :: H, (100140, ⟨.slice A23 x21.fb.length c24, 5, 1, x21.fb.length, x21.fb.flatMap (fun x : Int => [Value.int .u8 x])⟩) :: (100141, ⟨mapV A26, 65, 2, x21.fplaces.length, x21.fplaces.flatMap (mcell (fun x : ByteArray => Value.string x) (fun x : Int => Value.int .i64 x))⟩) :: R, φ⟩ (fun _ h => h) ?_
  refine c_ret ?_
  replace hm := Option.some.inj hm
  subst hm
  refine d_retC () Try.results14 ?_ trivial (fun W h => ok_pre (H1 := [_]) (R1 := [_, _]) h (fun W hφ => hφ)) (.inr rfl)
  refine res_tmp ?_
  refine res_nil ?_
  exact rfl

noncomputable def m_law04_short (p0 : ByteArray) (p1 : Int) : Option ByteArray :=
  if p1 < (p0.size : Int) then
    (scutHi p0 p1).bind fun s2 =>
    some s2
  else
    some p0
theorem c_law04_short {w0 : World} {M : Nat → Prop} {H : List (Nat × Nat × Obj)} {R : List (Nat × Row)} {φ : World → Prop} (p0 : ByteArray) (p1 : Int) (r : ByteArray) (hm : m_law04_short p0 p1 = some r) :
    Cn Try.prog 15 #[.string p0, .int .i64 p1] ⟨w0, M, H, R, φ⟩ (fun x : Unit => .string r) (fun x => True) (fun x => ⟨w0, M, H, R, φ⟩) := by
 unfold m_law04_short at hm
 refine cn_intro (fn := Try.f15) (N := 13) Try.func15 rfl Try.ntmps15 rfl ?_
 refine c_seq ?_
 refine c_region ?_
 refine g_v rfl r_assign ?_
 refine g_nil ?_
 refine d_then ?_
 refine c_seq ?_
 refine c_seq ?_
 refine c_region ?_
 refine g_v rfl r_move ?_
 refine g_v rfl (r_len Try.underlying9 rfl) ?_
 refine g_v rfl r_move ?_
 refine g_v rfl (r_gtr rfl rfl) ?_
 refine g_nil ?_
 refine d_then ?_
 refine c_cond rfl (fun h1 => ?_) (fun h1 => ?_)
 ·
  replace hm := ite_t hm (of_decide_eq_true h1)
  refine c_seq ?_
  refine c_region ?_
  refine g_v rfl r_move ?_
  refine g_v rfl r_move ?_
  replace hm := bnd hm
  obtain ⟨s2, hs2, hm⟩ := hm
  refine g_v rfl (r_scutHi Try.underlying9 rfl rfl hs2) ?_
  refine g_v rfl r_assign ?_
  refine g_nil ?_
  refine d_then ?_
  refine c_flat [(4, .string s2)] ⟨rfl, trivial⟩ (fun u => ?_)
  refine c_sta ⟨w0, M, H, R, φ⟩ (fun _ h => h) ?_
  refine c_ret ?_
  refine d_ret_then ?_
  replace hm := Option.some.inj hm
  subst hm
  refine d_retC () Try.results15 ?_ trivial (fun W h => ok_pre (H1 := []) (R1 := []) h (fun W hφ => hφ)) (.inr rfl)
  refine res_tmp ?_
  refine res_nil ?_
  exact rfl
 ·
  replace hm := ite_f hm (of_decide_eq_false h1)
  refine c_skip ?_
  refine d_then ?_
  refine c_seq ?_
  refine c_region ?_
  refine g_v rfl r_move ?_
  refine g_v rfl r_assign ?_
  refine g_nil ?_
  refine d_then ?_
  refine c_ret ?_
  replace hm := Option.some.inj hm
  subst hm
  refine d_retC () Try.results15 ?_ trivial (fun W h => ok_pre (H1 := []) (R1 := []) h (fun W hφ => hφ)) (.inr rfl)
  refine res_tmp ?_
  refine res_nil ?_
  exact rfl

noncomputable def m_pack_Packer_Len (o0 : Gpack_Packer) : Option Int :=
  some (o0.fb.length : Int)
theorem c_pack_Packer_Len {w0 : World} {M : Nat → Prop} {H : List (Nat × Nat × Obj)} {R : List (Nat × Row)} {φ : World → Prop} (go0 : Nat) (o0 : Gpack_Packer) (Ao0_0 : Option Addr) (co0_0 : Nat) (hco0_0 : o0.fb.length ≤ co0_0) (Ao0_1 : Option Addr) (co0_1 : Nat) (hco0_1 : True) (r : Int) (hm : m_pack_Packer_Len o0 = some r) :
    Cn Try.prog 26 #[.pointer (some ⟨go0, 0, none⟩)] ⟨w0, M, (1000, go0, .cells #[.slice Ao0_0 o0.fb.length co0_0, mapV Ao0_1] 67 (0, 0)) :: H, (1000, ⟨.slice Ao0_0 o0.fb.length co0_0, 5, 1, o0.fb.length, o0.fb.flatMap (fun x : Int => [Value.int .u8 x])⟩) :: (1001, ⟨mapV Ao0_1, 65, 2, o0.fplaces.length, o0.fplaces.flatMap (mcell (fun x : ByteArray => Value.string x) (fun x : Int => Value.int .i64 x))⟩) :: R, φ⟩ (fun x : Unit => .int .i64 r) (fun x => True) (fun x => ⟨w0, M, (1000, go0, .cells #[.slice Ao0_0 o0.fb.length co0_0, mapV Ao0_1] 67 (0, 0)) :: H, (1000, ⟨.slice Ao0_0 o0.fb.length co0_0, 5, 1, o0.fb.length, o0.fb.flatMap (fun x : Int => [Value.int .u8 x])⟩) :: (1001, ⟨mapV Ao0_1, 65, 2, o0.fplaces.length, o0.fplaces.flatMap (mcell (fun x : ByteArray => Value.string x) (fun x : Int => Value.int .i64 x))⟩) :: R, φ⟩) := by
 unfold m_pack_Packer_Len at hm
 refine cn_intro (fn := Try.f26) (N := 10) Try.func26 rfl Try.ntmps26 rfl ?_
 refine c_seq ?_
 refine c_region ?_
 refine g_v rfl r_assign ?_
 refine g_nil ?_
 refine d_then ?_
 refine c_seq ?_
 refine c_seq ?_
 refine c_region ?_
 refine g_v rfl r_move ?_
 refine g_v rfl (r_eqlP1 Try.underlying42 rfl rfl) ?_
 refine g_nil ?_
 refine d_then ?_
 refine c_cond0 rfl rfl ?_
 refine c_skip ?_
 refine d_then ?_
 refine c_seq ?_
 refine c_region ?_
 refine g_v rfl r_move ?_
 refine g_v rfl (r_nilck rfl) ?_
 refine g_v rfl (r_field (n := 0) Try.underlying67 rfl Try.sizeOf58 rfl rfl) ?_
 refine g_v rfl (r_load (tag := 1000) rfl rfl rfl Try.isAgg58) ?_
 refine g_v rfl (r_lenL Try.underlying58 rfl) ?_
 refine g_v rfl r_assign ?_
 refine g_nil ?_
 refine d_then ?_
 refine c_flat [(2, .int .i64 (o0.fb.length : Int))] ⟨rfl, trivial⟩ (fun u => ?_)
 refine c_sta ⟨w0, M, (1000, go0, .cells #[.slice Ao0_0 o0.fb.length co0_0, mapV Ao0_1] 67 (0, 0)) :: H, (1000, ⟨.slice Ao0_0 o0.fb.length co0_0, 5, 1, o0.fb.length, o0.fb.flatMap (fun x : Int => [Value.int .u8 x])⟩) :: (1001, ⟨mapV Ao0_1, 65, 2, o0.fplaces.length, o0.fplaces.flatMap (mcell (fun x : ByteArray => Value.string x) (fun x : Int => Value.int .i64 x))⟩) :: R, φ⟩ (fun _ h => h) ?_
 refine c_ret ?_
 replace hm := Option.some.inj hm
 subst hm
 refine d_retC () Try.results26 ?_ trivial (fun W h => h.phi (fun W hφ => hφ)) (.inr rfl)
 refine res_tmp ?_
 refine res_nil ?_
 exact rfl

noncomputable def m_law04_PackShort_j1 (x1 : Bool) (l268 : List Int) (l271 : List (ByteArray × Int)) (l274 : List Int) (l277 : List (ByteArray × Int)) : Option Bool :=
  if x1 = true then
    (m_pack_Packer_Len (⟨l274, l277⟩ : Gpack_Packer)).bind fun x281 =>
    (m_pack_Packer_Len (⟨l268, l271⟩ : Gpack_Packer)).bind fun x283 =>
    some (decide (x281 ≤ x283))
  else
    some false
noncomputable def m_law04_PackShort_j3 (x542 : Int) (x553 : Gpack_Packer) (x543 : Gpack_Packer) (i413 : Int) (x538 : ByteArray) (x540 : Int) : Option (((List Int) × (List (ByteArray × Int)) × (List Int) × (List (ByteArray × Int)) × Int) ⊕ (((List Int) × (List (ByteArray × Int)) × (List Int) × (List (ByteArray × Int))) ⊕ Bool)) :=
  if x542 ≠ 0 then
    some (.inl (x553.fb, x553.fplaces, x543.fb, x543.fplaces, w64 (i413 + 1)))
  else
    (m_pack_Packer_Len x543).bind fun x569 =>
    (m_pack_Packer_Name x538 true x543).bind fun (z580 : Int × Gpack_Packer) =>
    (m_pack_Packer_Len z580.2).bind fun x581 =>
    if z580.1 ≠ 0 then
      some (.inr (.inr false))
    else
      (m_pack_Packer_Len z580.2).bind fun x584 =>
      if 16000 < x584 then
        some (.inr (.inr false))
      else
        if w64 (x581 - x569) ≠ 2 then
          if 1 < (x538.size : Int) then
            some (.inr (.inr false))
          else
            if (x538.size : Int) = 1 then
              if w64 (x581 - x569) ≠ 1 then
                some (.inr (.inr false))
              else
                if (x538.size : Int) < w64 (x569 - x540) then
                  some (.inr (.inr false))
                else
                  (m_pack_Packer_Name x538 false x553).bind fun (z601 : Int × Gpack_Packer) =>
                  some (.inl (z601.2.fb, z601.2.fplaces, z580.2.fb, z580.2.fplaces, w64 (i413 + 1)))
            else
              if (x538.size : Int) < w64 (x569 - x540) then
                some (.inr (.inr false))
              else
                (m_pack_Packer_Name x538 false x553).bind fun (z613 : Int × Gpack_Packer) =>
                some (.inl (z613.2.fb, z613.2.fplaces, z580.2.fb, z580.2.fplaces, w64 (i413 + 1)))
        else
          if (x538.size : Int) = 1 then
            if w64 (x581 - x569) ≠ 1 then
              some (.inr (.inr false))
            else
              if (x538.size : Int) < w64 (x569 - x540) then
                some (.inr (.inr false))
              else
                (m_pack_Packer_Name x538 false x553).bind fun (z627 : Int × Gpack_Packer) =>
                some (.inl (z627.2.fb, z627.2.fplaces, z580.2.fb, z580.2.fplaces, w64 (i413 + 1)))
          else
            if (x538.size : Int) < w64 (x569 - x540) then
              some (.inr (.inr false))
            else
              (m_pack_Packer_Name x538 false x553).bind fun (z639 : Int × Gpack_Packer) =>
              some (.inl (z639.2.fb, z639.2.fplaces, z580.2.fb, z580.2.fplaces, w64 (i413 + 1)))
noncomputable def m_law04_PackShort_s2 (p0 : List ByteArray) (l401 : List Int) (l404 : List (ByteArray × Int)) (l407 : List Int) (l410 : List (ByteArray × Int)) (i413 : Int) : Option (((List Int) × (List (ByteArray × Int)) × (List Int) × (List (ByteArray × Int)) × Int) ⊕ (((List Int) × (List (ByteArray × Int)) × (List Int) × (List (ByteArray × Int))) ⊕ Bool)) :=
  if i413 < (p0.length : Int) then
    if i413 < 40 then
      (at_ p0 i413).bind fun x534 =>
      (m_law04_short x534 300).bind fun x538 =>
      (m_pack_Packer_Len (⟨l407, l410⟩ : Gpack_Packer)).bind fun x540 =>
      (m_pack_Packer_Name x538 true (⟨l407, l410⟩ : Gpack_Packer)).bind fun (z551 : Int × Gpack_Packer) =>
      (m_pack_Packer_Name x538 false (⟨l401, l404⟩ : Gpack_Packer)).bind fun (z561 : Int × Gpack_Packer) =>
      if z551.1 ≠ z561.1 then
        some (.inr (.inr false))
      else
        if z551.1 ≠ 0 then
          (m_pack_Packer_Len z551.2).bind fun x643 =>
          if x643 ≠ x540 then
            some (.inr (.inr false))
          else
            m_law04_PackShort_j3 z551.1 z561.2 z551.2 i413 x538 x540
        else
          m_law04_PackShort_j3 z551.1 z561.2 z551.2 i413 x538 x540
    else
      some (.inr (.inl (l401, l404, l407, l410)))
  else
    some (.inr (.inl (l401, l404, l407, l410)))
noncomputable def m_law04_PackShort (p0 : List ByteArray) : Option Bool :=
  (m_law04_awake).bind fun x1 =>
  (m_pack_New).bind fun x3 =>
  (m_pack_New).bind fun x12 =>
  (loop (fun s => m_law04_PackShort_s2 p0 s.1 s.2.1 s.2.2.1 s.2.2.2.1 s.2.2.2.2) (x12.fb, x12.fplaces, x3.fb, x3.fplaces, 0)).bind fun e => Sum.elim (fun e => m_law04_PackShort_j1 x1 e.1 e.2.1 e.2.2.1 e.2.2.2) (fun x => some x) e
theorem c_law04_PackShort {w0 : World} {M : Nat → Prop} {H : List (Nat × Nat × Obj)} {R : List (Nat × Row)} {φ : World → Prop} (p0 : List ByteArray) (Ap0_0 : Option Addr) (cp0_0 : Nat) (hcp0_0 : p0.length ≤ cp0_0) (fp0_0 : ∀ W, (Sta.mk w0 M H R φ).ok W → Cl W Ap0_0 (p0.flatMap (fun x : ByteArray => [Value.string x]))) (r : Bool) (hm : m_law04_PackShort p0 = some r) :
    Cn Try.prog 6 #[.slice Ap0_0 p0.length cp0_0] ⟨w0, M, H, R, φ⟩ (fun x : Unit => .bool r) (fun x => True) (fun x => ⟨w0, M, H, R, φ⟩) := by
 unfold m_law04_PackShort at hm
 refine cn_intro (fn := Try.f6) (N := 116) Try.func6 rfl Try.ntmps6 rfl ?_
 refine c_seq ?_
 refine c_region ?_
 refine g_v rfl r_assign ?_
 refine g_nil ?_
 refine d_then ?_
 refine c_seq ?_
 refine c_region ?_
 replace hm := bnd hm
 obtain ⟨x1, hx2, hm⟩ := hm
 refine g_cn ⟨w0, M, _, _, φ⟩ (fun _ h => h) Try.call14 rfl rfl (c_law04_awake  _ hx2) (fun _ _ => ?_)
 refine g_v rfl r_assign ?_
 refine g_nil ?_
 refine d_then ?_
 refine c_seq ?_
 refine c_region ?_
 replace hm := bnd hm
 obtain ⟨x3, hx4, hm⟩ := hm
 refine g_cn ⟨w0, M, _, _, φ⟩ (fun _ h => h) Try.call25 rfl rfl (c_pack_New  _ hx4) (fun ⟨A5, c6, A8, c9, g11⟩ ⟨hc6, hc9⟩ => ?_)
 refine g_sta _ (fun W h => (ok_frontR (t := 2000) (t' := 100150) (ok_frontR (t := 2001) (t' := 100151) (ok_front (t := 3000) (t' := 100155) h rfl) rfl) rfl)) ?_
 refine g_v rfl r_assign ?_
 refine g_nil ?_
 refine d_then ?_
 refine c_seq ?_
 refine c_region ?_
 replace hm := bnd hm
 obtain ⟨x12, hx13, hm⟩ := hm
 refine g_cn ⟨w0, M, _, _, φ⟩ (fun _ h => h) Try.call25 rfl rfl (c_pack_New  _ hx13) (fun ⟨A14, c15, A17, c18, g20⟩ ⟨hc15, hc18⟩ => ?_)
 refine g_sta _ (fun W h => (ok_frontR (t := 2000) (t' := 100160) (ok_frontR (t := 2001) (t' := 100161) (ok_front (t := 3000) (t' := 100165) h rfl) rfl) rfl)) ?_
 refine g_v rfl r_assign ?_
 refine g_nil ?_
 refine d_then ?_
 refine c_seq ?_
 refine c_seq ?_
 refine c_region ?_
 refine g_v rfl r_move ?_
 refine g_v rfl (r_eqlP1 Try.underlying42 rfl rfl) ?_
 refine g_v rfl r_move ?_
 refine g_do rfl rfl rfl rfl rfl rfl ?_
 refine g_v rfl r_move ?_
 refine g_do rfl rfl rfl rfl rfl rfl ?_
 refine g_v rfl (r_eqlP1 Try.underlying42 rfl rfl) ?_
 refine g_v rfl (r_pick0 rfl rfl) ?_
 refine g_nil ?_
 refine d_then ?_
 refine c_flat [(0, .slice Ap0_0 p0.length cp0_0), (3, .bool x1), (4, .pointer (some ⟨g11, 0, none⟩)), (5, .pointer (some ⟨g20, 0, none⟩)), (22, .bool false)] ⟨rfl, rfl, rfl, rfl, rfl, trivial⟩ (fun u => ?_)
 refine c_sta ⟨w0, M, (100165, g20, .cells #[.slice A14 x12.fb.length c15, mapV A17] 67 (0, 0)) :: (100155, g11, .cells #[.slice A5 x3.fb.length c6, mapV A8] 67 (0, 0)) :: H, (100160, ⟨.slice A14 x12.fb.length c15, 5, 1, x12.fb.length, x12.fb.flatMap (fun x : Int => [Value.int .u8 x])⟩) :: (100161, ⟨mapV A17, 65, 2, x12.fplaces.length, x12.fplaces.flatMap (mcell (fun x : ByteArray => Value.string x) (fun x : Int => Value.int .i64 x))⟩) :: (100150, ⟨.slice A5 x3.fb.length c6, 5, 1, x3.fb.length, x3.fb.flatMap (fun x : Int => [Value.int .u8 x])⟩) :: (100151, ⟨mapV A8, 65, 2, x3.fplaces.length, x3.fplaces.flatMap (mcell (fun x : ByteArray => Value.string x) (fun x : Int => Value.int .i64 x))⟩) :: R, φ⟩ (fun _ h => h) ?_
 refine c_cond0 rfl rfl ?_
 refine c_skip ?_
 refine d_then ?_
 refine c_seq ?_
 refine c_cut (ι := (List Int) × (List (ByteArray × Int)) × (List Int) × (List (ByteArray × Int)) × Option Addr × Nat × Option Addr × Nat × Option Addr × Nat × Option Addr × Nat) [3, 4, 5] (fun ⟨l268, l271, l274, l277, A269, c270, A272, c273, A275, c276, A278, c279⟩ => []) (fun ⟨l268, l271, l274, l277, A269, c270, A272, c273, A275, c276, A278, c279⟩ => ⟨w0, M, (100165, g20, .cells #[.slice A269 l268.length c270, mapV A272] 67 (0, 0)) :: (100155, g11, .cells #[.slice A275 l274.length c276, mapV A278] 67 (0, 0)) :: H, (100160, ⟨.slice A269 l268.length c270, 5, 1, l268.length, l268.flatMap (fun x : Int => [Value.int .u8 x])⟩) :: (100161, ⟨mapV A272, 65, 2, l271.length, l271.flatMap (mcell (fun x : ByteArray => Value.string x) (fun x : Int => Value.int .i64 x))⟩) :: (100150, ⟨.slice A275 l274.length c276, 5, 1, l274.length, l274.flatMap (fun x : Int => [Value.int .u8 x])⟩) :: (100151, ⟨mapV A278, 65, 2, l277.length, l277.flatMap (mcell (fun x : ByteArray => Value.string x) (fun x : Int => Value.int .i64 x))⟩) :: R, φ⟩) (fun ⟨l268, l271, l274, l277, A269, c270, A272, c273, A275, c276, A278, c279⟩ => m_law04_PackShort_j1 x1 l268 l271 l274 l277 = some r ∧ l268.length ≤ c270 ∧ True ∧ l274.length ≤ c276 ∧ True) ?_ (fun ⟨l268, l271, l274, l277, A269, c270, A272, c273, A275, c276, A278, c279⟩ u ⟨hm, hc270, hc273, hc276, hc279⟩ => ?_)
 ·
  refine c_seq ?_
  refine c_region ?_
  refine g_v rfl r_assign ?_
  refine g_nil ?_
  refine d_then ?_
  refine c_block ?_
  replace hm := bnd hm
  obtain ⟨out2, hl2, hr2⟩ := hm
  obtain ⟨n531', hl2⟩ := loop_lp hl2
  refine c_loopU (ι := Nat × (List Int) × (List (ByteArray × Int)) × (List Int) × (List (ByteArray × Int)) × Int × Option Addr × Nat × Option Addr × Nat × Option Addr × Nat × Option Addr × Nat) [0, 3, 4, 5, 6] (fun ⟨n531, l401, l404, l407, l410, i413, A402, c403, A405, c406, A408, c409, A411, c412⟩ => [(6, .int .i64 i413)]) (fun ⟨n531, l401, l404, l407, l410, i413, A402, c403, A405, c406, A408, c409, A411, c412⟩ => ⟨w0, M, (100165, g20, .cells #[.slice A402 l401.length c403, mapV A405] 67 (0, 0)) :: (100155, g11, .cells #[.slice A408 l407.length c409, mapV A411] 67 (0, 0)) :: H, (100160, ⟨.slice A402 l401.length c403, 5, 1, l401.length, l401.flatMap (fun x : Int => [Value.int .u8 x])⟩) :: (100161, ⟨mapV A405, 65, 2, l404.length, l404.flatMap (mcell (fun x : ByteArray => Value.string x) (fun x : Int => Value.int .i64 x))⟩) :: (100150, ⟨.slice A408 l407.length c409, 5, 1, l407.length, l407.flatMap (fun x : Int => [Value.int .u8 x])⟩) :: (100151, ⟨mapV A411, 65, 2, l410.length, l410.flatMap (mcell (fun x : ByteArray => Value.string x) (fun x : Int => Value.int .i64 x))⟩) :: R, φ⟩) (fun ⟨n531, l401, l404, l407, l410, i413, A402, c403, A405, c406, A408, c409, A411, c412⟩ => Lp (fun s => m_law04_PackShort_s2 p0 s.1 s.2.1 s.2.2.1 s.2.2.2.1 s.2.2.2.2) n531 (l401, l404, l407, l410, i413) out2 ∧ l401.length ≤ c403 ∧ True ∧ l407.length ≤ c409 ∧ True) (fun ⟨n531, l401, l404, l407, l410, i413, A402, c403, A405, c406, A408, c409, A411, c412⟩ => n531) (n531', x12.fb, x12.fplaces, x3.fb, x3.fplaces, 0, A14, c15, A17, c18, A5, c6, A8, c9) ⟨hl2, hc15, trivial, hc6, trivial⟩ ⟨rfl, rfl, rfl, rfl, rfl, trivial⟩ (fun W h => h.phi (fun W hφ => hφ)) (fun ⟨n531, l401, l404, l407, l410, i413, A402, c403, A405, c406, A408, c409, A411, c412⟩ u ⟨hlp, hc403, hc406, hc409, hc412⟩ => ?_)
  obtain ⟨o2, hm, hnx2⟩ := lp_step hlp
  clear hlp
  replace hm : m_law04_PackShort_s2 p0 l401 l404 l407 l410 i413 = some o2 := hm
  unfold m_law04_PackShort_s2 at hm
  refine c_flat [(0, .slice Ap0_0 p0.length cp0_0), (3, .bool x1), (4, .pointer (some ⟨g11, 0, none⟩)), (5, .pointer (some ⟨g20, 0, none⟩)), (6, .int .i64 i413)] ⟨rfl, rfl, rfl, rfl, rfl, trivial⟩ (fun u => ?_)
  refine c_sta ⟨w0, M, (100165, g20, .cells #[.slice A402 l401.length c403, mapV A405] 67 (0, 0)) :: (100155, g11, .cells #[.slice A408 l407.length c409, mapV A411] 67 (0, 0)) :: H, (100160, ⟨.slice A402 l401.length c403, 5, 1, l401.length, l401.flatMap (fun x : Int => [Value.int .u8 x])⟩) :: (100161, ⟨mapV A405, 65, 2, l404.length, l404.flatMap (mcell (fun x : ByteArray => Value.string x) (fun x : Int => Value.int .i64 x))⟩) :: (100150, ⟨.slice A408 l407.length c409, 5, 1, l407.length, l407.flatMap (fun x : Int => [Value.int .u8 x])⟩) :: (100151, ⟨mapV A411, 65, 2, l410.length, l410.flatMap (mcell (fun x : ByteArray => Value.string x) (fun x : Int => Value.int .i64 x))⟩) :: R, φ⟩ (fun _ h => h) ?_
  refine c_seq ?_
  refine c_seq ?_
  refine c_region ?_
  refine g_v rfl r_move ?_
  refine g_v rfl r_move ?_
  refine g_v rfl (r_lenL Try.underlying44 rfl) ?_
  refine g_v rfl (r_lss rfl rfl) ?_
  refine g_v rfl r_move ?_
  refine g_if rfl rfl rfl rfl rfl (fun h532 => ?_) (fun h532 => ?_)
  ·
   replace hm := ite_t hm (of_decide_eq_true h532)
   refine g_v rfl r_move ?_
   refine g_do rfl rfl rfl rfl rfl h532 ?_
   refine g_v rfl (r_lss rfl rfl) ?_
   refine g_v rfl (r_pick1 rfl h532) ?_
   refine g_nil ?_
   refine d_then ?_
   refine c_cond rfl (fun h533 => ?_) (fun h533 => ?_)
   ·
    replace hm := ite_t hm (of_decide_eq_true h533)
    refine c_skip ?_
    refine d_then ?_
    refine c_seq ?_
    refine c_block ?_
    refine c_seq ?_
    refine c_region ?_
    refine g_v rfl r_move ?_
    refine g_v rfl r_move ?_
    replace hm := bnd hm
    obtain ⟨x534, hx534, hm⟩ := hm
    refine g_know _ (fun W hS => cl_at (p := (Sta.mk w0 M H R φ).ok) (sz := 1) (fun _ => rfl) (by decide) (ok_pre (H1 := [_, _]) (R1 := [_, _, _, _]) hS (fun W h => h)) fp0_0 hx534) ?_
    rintro ⟨ad535, hA537, f536⟩
    refine g_v rfl (r_ix Try.underlying44 Try.sizeOf9 rfl hA537 rfl hx534) ?_
    refine g_v rfl (r_ld rfl Try.isAgg9 (fun W hS => Cl.head (f536 W (ok_pre (H1 := [_, _]) (R1 := [_, _, _, _]) hS (fun W h => h))))) ?_
    replace hm := bnd hm
    obtain ⟨x538, hx539, hm⟩ := hm
    refine g_cn ⟨w0, M, _, _, φ⟩ (fun _ h => h) Try.call15 rfl rfl (c_law04_short x534 300 _ hx539) (fun _ _ => ?_)
    refine g_v rfl r_assign ?_
    refine g_nil ?_
    refine d_then ?_
    refine c_flat [(0, .slice Ap0_0 p0.length cp0_0), (3, .bool x1), (4, .pointer (some ⟨g11, 0, none⟩)), (5, .pointer (some ⟨g20, 0, none⟩)), (6, .int .i64 i413), (7, .string x538)] ⟨rfl, rfl, rfl, rfl, rfl, rfl, trivial⟩ (fun u => ?_)
    refine c_sta ⟨w0, M, (100165, g20, .cells #[.slice A402 l401.length c403, mapV A405] 67 (0, 0)) :: (100155, g11, .cells #[.slice A408 l407.length c409, mapV A411] 67 (0, 0)) :: H, (100160, ⟨.slice A402 l401.length c403, 5, 1, l401.length, l401.flatMap (fun x : Int => [Value.int .u8 x])⟩) :: (100161, ⟨mapV A405, 65, 2, l404.length, l404.flatMap (mcell (fun x : ByteArray => Value.string x) (fun x : Int => Value.int .i64 x))⟩) :: (100150, ⟨.slice A408 l407.length c409, 5, 1, l407.length, l407.flatMap (fun x : Int => [Value.int .u8 x])⟩) :: (100151, ⟨mapV A411, 65, 2, l410.length, l410.flatMap (mcell (fun x : ByteArray => Value.string x) (fun x : Int => Value.int .i64 x))⟩) :: R, φ⟩ (fun _ h => h) ?_
    refine c_seq ?_
    refine c_region ?_
    refine g_v rfl r_move ?_
    replace hm := bnd hm
    obtain ⟨x540, hx541, hm⟩ := hm
    refine g_cn ⟨w0, M, (1000, g11, .cells #[.slice A408 l407.length c409, mapV A411] 67 (0, 0)) :: (100165, g20, .cells #[.slice A402 l401.length c403, mapV A405] 67 (0, 0)) :: H, (1000, ⟨.slice A408 l407.length c409, 5, 1, l407.length, l407.flatMap (fun x : Int => [Value.int .u8 x])⟩) :: (1001, ⟨mapV A411, 65, 2, l410.length, l410.flatMap (mcell (fun x : ByteArray => Value.string x) (fun x : Int => Value.int .i64 x))⟩) :: (100160, ⟨.slice A402 l401.length c403, 5, 1, l401.length, l401.flatMap (fun x : Int => [Value.int .u8 x])⟩) :: (100161, ⟨mapV A405, 65, 2, l404.length, l404.flatMap (mcell (fun x : ByteArray => Value.string x) (fun x : Int => Value.int .i64 x))⟩) :: R, φ⟩ (fun W h => (ok_front (t := 100155) (t' := 1000) (ok_frontR (t := 100150) (t' := 1000) (ok_frontR (t := 100151) (t' := 1001) h rfl) rfl) rfl)) Try.call26 rfl rfl (c_pack_Packer_Len g11 (⟨l407, l410⟩ : Gpack_Packer) A408 c409 hc409 A411 c412 trivial _ hx541) (fun _ _ => ?_)
    refine g_sta _ (fun W h => (ok_frontR (t := 1000) (t' := 100150) (ok_frontR (t := 1001) (t' := 100151) (ok_front (t := 1000) (t' := 100155) h rfl) rfl) rfl)) ?_
    refine g_v rfl r_assign ?_
    refine g_nil ?_
    refine d_then ?_
    refine c_seq ?_
    refine c_region ?_
    refine g_v rfl r_move ?_
    refine g_v rfl r_move ?_
    replace hm := bnd hm
    obtain ⟨⟨x542, x543⟩, hx544, hm⟩ := hm
    refine g_cn ⟨w0, M, (1000, g11, .cells #[.slice A408 l407.length c409, mapV A411] 67 (0, 0)) :: (100165, g20, .cells #[.slice A402 l401.length c403, mapV A405] 67 (0, 0)) :: H, (1000, ⟨.slice A408 l407.length c409, 5, 1, l407.length, l407.flatMap (fun x : Int => [Value.int .u8 x])⟩) :: (1001, ⟨mapV A411, 65, 2, l410.length, l410.flatMap (mcell (fun x : ByteArray => Value.string x) (fun x : Int => Value.int .i64 x))⟩) :: (100160, ⟨.slice A402 l401.length c403, 5, 1, l401.length, l401.flatMap (fun x : Int => [Value.int .u8 x])⟩) :: (100161, ⟨mapV A405, 65, 2, l404.length, l404.flatMap (mcell (fun x : ByteArray => Value.string x) (fun x : Int => Value.int .i64 x))⟩) :: R, φ⟩ (fun W h => (ok_front (t := 100155) (t' := 1000) (ok_frontR (t := 100150) (t' := 1000) (ok_frontR (t := 100151) (t' := 1001) h rfl) rfl) rfl)) Try.call27 rfl rfl (c_pack_Packer_Name x538 true g11 (⟨l407, l410⟩ : Gpack_Packer) A408 c409 hc409 A411 c412 trivial _ hx544) (fun ⟨A545, c546, A548, c549⟩ ⟨hc546, hc549⟩ => ?_)
    refine g_sta _ (fun W h => (ok_frontR (t := 2000) (t' := 100150) (ok_frontR (t := 2001) (t' := 100151) (ok_front (t := 1000) (t' := 100155) h rfl) rfl) rfl)) ?_
    refine g_v rfl r_assign ?_
    refine g_nil ?_
    refine d_then ?_
    refine c_seq ?_
    refine c_region ?_
    refine g_v rfl r_move ?_
    refine g_v rfl r_move ?_
    replace hm := bnd hm
    obtain ⟨⟨x552, x553⟩, hx554, hm⟩ := hm
    refine g_cn ⟨w0, M, (1000, g20, .cells #[.slice A402 l401.length c403, mapV A405] 67 (0, 0)) :: (100155, g11, .cells #[.slice A545 x543.fb.length c546, mapV A548] 67 (0, 0)) :: H, (1000, ⟨.slice A402 l401.length c403, 5, 1, l401.length, l401.flatMap (fun x : Int => [Value.int .u8 x])⟩) :: (1001, ⟨mapV A405, 65, 2, l404.length, l404.flatMap (mcell (fun x : ByteArray => Value.string x) (fun x : Int => Value.int .i64 x))⟩) :: (100150, ⟨.slice A545 x543.fb.length c546, 5, 1, x543.fb.length, x543.fb.flatMap (fun x : Int => [Value.int .u8 x])⟩) :: (100151, ⟨mapV A548, 65, 2, x543.fplaces.length, x543.fplaces.flatMap (mcell (fun x : ByteArray => Value.string x) (fun x : Int => Value.int .i64 x))⟩) :: R, φ⟩ (fun W h => (ok_front (t := 100165) (t' := 1000) (ok_frontR (t := 100160) (t' := 1000) (ok_frontR (t := 100161) (t' := 1001) h rfl) rfl) rfl)) Try.call27 rfl rfl (c_pack_Packer_Name x538 false g20 (⟨l401, l404⟩ : Gpack_Packer) A402 c403 hc403 A405 c406 trivial _ hx554) (fun ⟨A555, c556, A558, c559⟩ ⟨hc556, hc559⟩ => ?_)
    refine g_sta _ (fun W h => (ok_frontR (t := 2000) (t' := 100160) (ok_frontR (t := 2001) (t' := 100161) (ok_front (t := 1000) (t' := 100165) h rfl) rfl) rfl)) ?_
    refine g_v rfl r_assign ?_
    refine g_nil ?_
    refine d_then ?_
    refine c_flat [(0, .slice Ap0_0 p0.length cp0_0), (3, .bool x1), (4, .pointer (some ⟨g11, 0, none⟩)), (5, .pointer (some ⟨g20, 0, none⟩)), (6, .int .i64 i413), (7, .string x538), (8, .int .i64 x540), (9, .int .i64 x542), (10, .int .i64 x552)] ⟨rfl, rfl, rfl, rfl, rfl, rfl, rfl, rfl, rfl, trivial⟩ (fun u => ?_)
    refine c_sta ⟨w0, M, (100165, g20, .cells #[.slice A555 x553.fb.length c556, mapV A558] 67 (0, 0)) :: (100155, g11, .cells #[.slice A545 x543.fb.length c546, mapV A548] 67 (0, 0)) :: H, (100160, ⟨.slice A555 x553.fb.length c556, 5, 1, x553.fb.length, x553.fb.flatMap (fun x : Int => [Value.int .u8 x])⟩) :: (100161, ⟨mapV A558, 65, 2, x553.fplaces.length, x553.fplaces.flatMap (mcell (fun x : ByteArray => Value.string x) (fun x : Int => Value.int .i64 x))⟩) :: (100150, ⟨.slice A545 x543.fb.length c546, 5, 1, x543.fb.length, x543.fb.flatMap (fun x : Int => [Value.int .u8 x])⟩) :: (100151, ⟨mapV A548, 65, 2, x543.fplaces.length, x543.fplaces.flatMap (mcell (fun x : ByteArray => Value.string x) (fun x : Int => Value.int .i64 x))⟩) :: R, φ⟩ (fun _ h => h) ?_
    refine c_seq ?_
    refine c_cut (ι := Unit) [0, 3, 4, 5, 6, 7, 8, 9] (fun _ => []) (fun _ => ⟨w0, M, (100165, g20, .cells #[.slice A555 x553.fb.length c556, mapV A558] 67 (0, 0)) :: (100155, g11, .cells #[.slice A545 x543.fb.length c546, mapV A548] 67 (0, 0)) :: H, (100160, ⟨.slice A555 x553.fb.length c556, 5, 1, x553.fb.length, x553.fb.flatMap (fun x : Int => [Value.int .u8 x])⟩) :: (100161, ⟨mapV A558, 65, 2, x553.fplaces.length, x553.fplaces.flatMap (mcell (fun x : ByteArray => Value.string x) (fun x : Int => Value.int .i64 x))⟩) :: (100150, ⟨.slice A545 x543.fb.length c546, 5, 1, x543.fb.length, x543.fb.flatMap (fun x : Int => [Value.int .u8 x])⟩) :: (100151, ⟨mapV A548, 65, 2, x543.fplaces.length, x543.fplaces.flatMap (mcell (fun x : ByteArray => Value.string x) (fun x : Int => Value.int .i64 x))⟩) :: R, φ⟩) (fun _ => m_law04_PackShort_j3 x542 x553 x543 i413 x538 x540 = some o2) ?_ (fun _ u hm => ?_)
    ·
     refine c_seq ?_
     refine c_region ?_
     refine g_v rfl r_move ?_
     refine g_v rfl r_move ?_
     refine g_v rfl (r_neq rfl rfl) ?_
     refine g_v rfl r_move ?_
     refine g_if rfl rfl rfl rfl rfl (fun h641 => ?_) (fun h641 => ?_)
     ·
      replace hm := ite_f hm (of_decide_eq_false h641)
      refine g_v rfl r_move ?_
      refine g_do rfl rfl rfl rfl rfl h641 ?_
      refine g_v rfl (r_neq rfl rfl) ?_
      refine g_do rfl rfl rfl rfl rfl h641 ?_
      refine g_v rfl r_move ?_
      refine g_if rfl rfl rfl rfl rfl (fun h642 => ?_) (fun h642 => ?_)
      ·
       replace hm := ite_t hm (of_decide_eq_true h642)
       refine g_v rfl r_move ?_
       refine g_do rfl rfl rfl rfl rfl h642 ?_
       replace hm := bnd hm
       obtain ⟨x643, hx644, hm⟩ := hm
       refine g_cn ⟨w0, M, (1000, g11, .cells #[.slice A545 x543.fb.length c546, mapV A548] 67 (0, 0)) :: (100165, g20, .cells #[.slice A555 x553.fb.length c556, mapV A558] 67 (0, 0)) :: H, (1000, ⟨.slice A545 x543.fb.length c546, 5, 1, x543.fb.length, x543.fb.flatMap (fun x : Int => [Value.int .u8 x])⟩) :: (1001, ⟨mapV A548, 65, 2, x543.fplaces.length, x543.fplaces.flatMap (mcell (fun x : ByteArray => Value.string x) (fun x : Int => Value.int .i64 x))⟩) :: (100160, ⟨.slice A555 x553.fb.length c556, 5, 1, x553.fb.length, x553.fb.flatMap (fun x : Int => [Value.int .u8 x])⟩) :: (100161, ⟨mapV A558, 65, 2, x553.fplaces.length, x553.fplaces.flatMap (mcell (fun x : ByteArray => Value.string x) (fun x : Int => Value.int .i64 x))⟩) :: R, φ⟩ (fun W h => (ok_front (t := 100155) (t' := 1000) (ok_frontR (t := 100150) (t' := 1000) (ok_frontR (t := 100151) (t' := 1001) h rfl) rfl) rfl)) Try.call26 rfl rfl (c_pack_Packer_Len g11 x543 A545 c546 hc546 A548 c549 trivial _ hx644) (fun _ _ => ?_)
       refine g_sta _ (fun W h => (ok_frontR (t := 1000) (t' := 100150) (ok_frontR (t := 1001) (t' := 100151) (ok_front (t := 1000) (t' := 100155) h rfl) rfl) rfl)) ?_
       refine g_do rfl rfl rfl rfl rfl h642 ?_
       refine g_v rfl r_move ?_
       refine g_do rfl rfl rfl rfl rfl h642 ?_
       refine g_v rfl (r_neq rfl rfl) ?_
       refine g_do rfl rfl rfl rfl rfl h641 ?_
       refine g_v rfl (r_pick1 rfl h642) ?_
       refine g_v rfl (r_pick0 rfl h641) ?_
       refine g_nil ?_
       refine d_then ?_
       refine c_flat [(0, .slice Ap0_0 p0.length cp0_0), (3, .bool x1), (4, .pointer (some ⟨g11, 0, none⟩)), (5, .pointer (some ⟨g20, 0, none⟩)), (6, .int .i64 i413), (7, .string x538), (8, .int .i64 x540), (9, .int .i64 x542), (58, .bool (decide (x643 ≠ x540)))] ⟨rfl, rfl, rfl, rfl, rfl, rfl, rfl, rfl, rfl, trivial⟩ (fun u => ?_)
       refine c_sta ⟨w0, M, (100155, g11, .cells #[.slice A545 x543.fb.length c546, mapV A548] 67 (0, 0)) :: (100165, g20, .cells #[.slice A555 x553.fb.length c556, mapV A558] 67 (0, 0)) :: H, (100150, ⟨.slice A545 x543.fb.length c546, 5, 1, x543.fb.length, x543.fb.flatMap (fun x : Int => [Value.int .u8 x])⟩) :: (100151, ⟨mapV A548, 65, 2, x543.fplaces.length, x543.fplaces.flatMap (mcell (fun x : ByteArray => Value.string x) (fun x : Int => Value.int .i64 x))⟩) :: (100160, ⟨.slice A555 x553.fb.length c556, 5, 1, x553.fb.length, x553.fb.flatMap (fun x : Int => [Value.int .u8 x])⟩) :: (100161, ⟨mapV A558, 65, 2, x553.fplaces.length, x553.fplaces.flatMap (mcell (fun x : ByteArray => Value.string x) (fun x : Int => Value.int .i64 x))⟩) :: R, φ⟩ (fun _ h => h) ?_
       refine c_cond rfl (fun h645 => ?_) (fun h645 => ?_)
       ·
        replace hm := ite_t hm (of_decide_eq_true h645)
        refine c_seq ?_
        refine c_region ?_
        refine g_v rfl r_assign ?_
        refine g_nil ?_
        refine d_then ?_
        refine c_ret ?_
        refine d_ret_then ?_
        refine d_ret_then ?_
        refine d_ret_block ?_
        refine d_ret_then ?_
        refine d_ret_then ?_
        refine d_ret_block ?_
        refine d_ret_then ?_
        refine d_ret_then ?_
        replace hm := nx_out (C := (fun e => Sum.elim (fun e => m_law04_PackShort_j1 x1 e.1 e.2.1 e.2.2.1 e.2.2.2) (fun x => some x) e = some r)) hm hnx2 hr2
        replace hm : some false = some r := hm
        replace hm := Option.some.inj hm
        subst hm
        refine d_retC () Try.results6 ?_ trivial (fun W h => ok_pre (H1 := [_, _]) (R1 := [_, _, _, _]) h (fun W hφ => hφ)) (.inr rfl)
        refine res_tmp ?_
        refine res_nil ?_
        exact rfl
       ·
        replace hm := ite_f hm (of_decide_eq_false h645)
        refine c_skip ?_
        exact d_round () hm Nat.zero_lt_one ⟨rfl, rfl, rfl, rfl, rfl, rfl, rfl, rfl, trivial⟩ (fun W h => (ok_front (t := 100165) (t' := 100165) (ok_front (t := 100155) (t' := 100155) (ok_frontR (t := 100160) (t' := 100160) (ok_frontR (t := 100161) (t' := 100161) (ok_frontR (t := 100150) (t' := 100150) (ok_frontR (t := 100151) (t' := 100151) h rfl) rfl) rfl) rfl) rfl) rfl).phi (fun W hφ => hφ))
      ·
       replace hm := ite_f hm (of_decide_eq_false h642)
       refine g_no rfl rfl rfl rfl rfl h642 ?_
       refine g_no rfl rfl rfl rfl rfl h642 ?_
       refine g_no rfl rfl rfl rfl rfl h642 ?_
       refine g_do rfl rfl rfl rfl rfl h641 ?_
       refine g_v rfl (r_pick0 rfl h642) ?_
       refine g_v rfl (r_pick0 rfl h641) ?_
       refine g_nil ?_
       refine d_then ?_
       refine c_flat [(0, .slice Ap0_0 p0.length cp0_0), (3, .bool x1), (4, .pointer (some ⟨g11, 0, none⟩)), (5, .pointer (some ⟨g20, 0, none⟩)), (6, .int .i64 i413), (7, .string x538), (8, .int .i64 x540), (9, .int .i64 x542), (58, .bool false)] ⟨rfl, rfl, rfl, rfl, rfl, rfl, rfl, rfl, rfl, trivial⟩ (fun u => ?_)
       refine c_sta ⟨w0, M, (100165, g20, .cells #[.slice A555 x553.fb.length c556, mapV A558] 67 (0, 0)) :: (100155, g11, .cells #[.slice A545 x543.fb.length c546, mapV A548] 67 (0, 0)) :: H, (100160, ⟨.slice A555 x553.fb.length c556, 5, 1, x553.fb.length, x553.fb.flatMap (fun x : Int => [Value.int .u8 x])⟩) :: (100161, ⟨mapV A558, 65, 2, x553.fplaces.length, x553.fplaces.flatMap (mcell (fun x : ByteArray => Value.string x) (fun x : Int => Value.int .i64 x))⟩) :: (100150, ⟨.slice A545 x543.fb.length c546, 5, 1, x543.fb.length, x543.fb.flatMap (fun x : Int => [Value.int .u8 x])⟩) :: (100151, ⟨mapV A548, 65, 2, x543.fplaces.length, x543.fplaces.flatMap (mcell (fun x : ByteArray => Value.string x) (fun x : Int => Value.int .i64 x))⟩) :: R, φ⟩ (fun _ h => h) ?_
       refine c_cond0 rfl rfl ?_
       refine c_skip ?_
       exact d_round () hm Nat.zero_lt_one ⟨rfl, rfl, rfl, rfl, rfl, rfl, rfl, rfl, trivial⟩ (fun W h => h.phi (fun W hφ => hφ))
     ·
      replace hm := ite_t hm (of_decide_eq_true h641)
      refine g_no rfl rfl rfl rfl rfl h641 ?_
      refine g_no rfl rfl rfl rfl rfl h641 ?_
      refine g_nu rfl rfl rfl rfl rfl ?_
      refine g_nu rfl rfl rfl rfl rfl ?_
      refine g_nu rfl rfl rfl rfl rfl ?_
      refine g_nu rfl rfl rfl rfl rfl ?_
      refine g_no rfl rfl rfl rfl rfl h641 ?_
      refine g_v rfl (r_pick1 rfl h641) ?_
      refine g_nil ?_
      refine d_then ?_
      refine c_cond1 rfl rfl ?_
      refine c_seq ?_
      refine c_region ?_
      refine g_v rfl r_assign ?_
      refine g_nil ?_
      refine d_then ?_
      refine c_ret ?_
      refine d_ret_then ?_
      refine d_ret_then ?_
      refine d_ret_block ?_
      refine d_ret_then ?_
      refine d_ret_then ?_
      refine d_ret_block ?_
      refine d_ret_then ?_
      refine d_ret_then ?_
      replace hm := nx_out (C := (fun e => Sum.elim (fun e => m_law04_PackShort_j1 x1 e.1 e.2.1 e.2.2.1 e.2.2.2) (fun x => some x) e = some r)) hm hnx2 hr2
      replace hm : some false = some r := hm
      replace hm := Option.some.inj hm
      subst hm
      refine d_retC () Try.results6 ?_ trivial (fun W h => ok_pre (H1 := [_, _]) (R1 := [_, _, _, _]) h (fun W hφ => hφ)) (.inr rfl)
      refine res_tmp ?_
      refine res_nil ?_
      exact rfl
    ·
     unfold m_law04_PackShort_j3 at hm
     refine d_flat [(0, .slice Ap0_0 p0.length cp0_0), (3, .bool x1), (4, .pointer (some ⟨g11, 0, none⟩)), (5, .pointer (some ⟨g20, 0, none⟩)), (6, .int .i64 i413), (7, .string x538), (8, .int .i64 x540), (9, .int .i64 x542)] ⟨rfl, rfl, rfl, rfl, rfl, rfl, rfl, rfl, trivial⟩ (fun u => ?_)
     refine d_sta ⟨w0, M, (100165, g20, .cells #[.slice A555 x553.fb.length c556, mapV A558] 67 (0, 0)) :: (100155, g11, .cells #[.slice A545 x543.fb.length c546, mapV A548] 67 (0, 0)) :: H, (100160, ⟨.slice A555 x553.fb.length c556, 5, 1, x553.fb.length, x553.fb.flatMap (fun x : Int => [Value.int .u8 x])⟩) :: (100161, ⟨mapV A558, 65, 2, x553.fplaces.length, x553.fplaces.flatMap (mcell (fun x : ByteArray => Value.string x) (fun x : Int => Value.int .i64 x))⟩) :: (100150, ⟨.slice A545 x543.fb.length c546, 5, 1, x543.fb.length, x543.fb.flatMap (fun x : Int => [Value.int .u8 x])⟩) :: (100151, ⟨mapV A548, 65, 2, x543.fplaces.length, x543.fplaces.flatMap (mcell (fun x : ByteArray => Value.string x) (fun x : Int => Value.int .i64 x))⟩) :: R, φ⟩ (fun _ h => h) ?_
     refine d_then ?_
     refine c_seq ?_
     refine c_seq ?_
     refine c_region ?_
     refine g_v rfl r_move ?_
     refine g_v rfl (r_neq rfl rfl) ?_
     refine g_nil ?_
     refine d_then ?_
     refine c_cond rfl (fun h567 => ?_) (fun h567 => ?_)
     ·
      replace hm := ite_t hm (of_decide_eq_true h567)
      refine c_exit ?_
      refine d_exit_then ?_
      refine d_exit_block ?_
      refine d_then ?_
      refine c_region ?_
      refine g_v rfl r_move ?_
      refine g_v rfl (r_add rfl rfl rfl) ?_
      refine g_v rfl r_assign ?_
      refine g_nil ?_
      obtain ⟨n568, hn568, hlp⟩ := nx_inl hm hnx2
      exact d_round (n568, x553.fb, x553.fplaces, x543.fb, x543.fplaces, w64 (i413 + 1), A555, c556, A558, c559, A545, c546, A548, c549) ⟨hlp, hc556, trivial, hc546, trivial⟩ hn568 ⟨rfl, rfl, rfl, rfl, rfl, trivial⟩ (fun W h => h.phi (fun W hφ => hφ))
     ·
      replace hm := ite_f hm (of_decide_eq_false h567)
      refine c_skip ?_
      refine d_then ?_
      refine c_seq ?_
      refine c_region ?_
      refine g_v rfl r_move ?_
      replace hm := bnd hm
      obtain ⟨x569, hx570, hm⟩ := hm
      refine g_cn ⟨w0, M, (1000, g11, .cells #[.slice A545 x543.fb.length c546, mapV A548] 67 (0, 0)) :: (100165, g20, .cells #[.slice A555 x553.fb.length c556, mapV A558] 67 (0, 0)) :: H, (1000, ⟨.slice A545 x543.fb.length c546, 5, 1, x543.fb.length, x543.fb.flatMap (fun x : Int => [Value.int .u8 x])⟩) :: (1001, ⟨mapV A548, 65, 2, x543.fplaces.length, x543.fplaces.flatMap (mcell (fun x : ByteArray => Value.string x) (fun x : Int => Value.int .i64 x))⟩) :: (100160, ⟨.slice A555 x553.fb.length c556, 5, 1, x553.fb.length, x553.fb.flatMap (fun x : Int => [Value.int .u8 x])⟩) :: (100161, ⟨mapV A558, 65, 2, x553.fplaces.length, x553.fplaces.flatMap (mcell (fun x : ByteArray => Value.string x) (fun x : Int => Value.int .i64 x))⟩) :: R, φ⟩ (fun W h => (ok_front (t := 100155) (t' := 1000) (ok_frontR (t := 100150) (t' := 1000) (ok_frontR (t := 100151) (t' := 1001) h rfl) rfl) rfl)) Try.call26 rfl rfl (c_pack_Packer_Len g11 x543 A545 c546 hc546 A548 c549 trivial _ hx570) (fun _ _ => ?_)
      refine g_sta _ (fun W h => (ok_frontR (t := 1000) (t' := 100150) (ok_frontR (t := 1001) (t' := 100151) (ok_front (t := 1000) (t' := 100155) h rfl) rfl) rfl)) ?_
      refine g_v rfl r_assign ?_
      refine g_nil ?_
      refine d_then ?_
      refine c_seq ?_
      refine c_region ?_
      refine g_v rfl r_move ?_
      refine g_v rfl r_move ?_
      replace hm := bnd hm
      obtain ⟨⟨x571, x572⟩, hx573, hm⟩ := hm
      refine g_cn ⟨w0, M, (1000, g11, .cells #[.slice A545 x543.fb.length c546, mapV A548] 67 (0, 0)) :: (100165, g20, .cells #[.slice A555 x553.fb.length c556, mapV A558] 67 (0, 0)) :: H, (1000, ⟨.slice A545 x543.fb.length c546, 5, 1, x543.fb.length, x543.fb.flatMap (fun x : Int => [Value.int .u8 x])⟩) :: (1001, ⟨mapV A548, 65, 2, x543.fplaces.length, x543.fplaces.flatMap (mcell (fun x : ByteArray => Value.string x) (fun x : Int => Value.int .i64 x))⟩) :: (100160, ⟨.slice A555 x553.fb.length c556, 5, 1, x553.fb.length, x553.fb.flatMap (fun x : Int => [Value.int .u8 x])⟩) :: (100161, ⟨mapV A558, 65, 2, x553.fplaces.length, x553.fplaces.flatMap (mcell (fun x : ByteArray => Value.string x) (fun x : Int => Value.int .i64 x))⟩) :: R, φ⟩ (fun W h => (ok_front (t := 100155) (t' := 1000) (ok_frontR (t := 100150) (t' := 1000) (ok_frontR (t := 100151) (t' := 1001) h rfl) rfl) rfl)) Try.call27 rfl rfl (c_pack_Packer_Name x538 true g11 x543 A545 c546 hc546 A548 c549 trivial _ hx573) (fun ⟨A574, c575, A577, c578⟩ ⟨hc575, hc578⟩ => ?_)
      refine g_sta _ (fun W h => (ok_frontR (t := 2000) (t' := 100150) (ok_frontR (t := 2001) (t' := 100151) (ok_front (t := 1000) (t' := 100155) h rfl) rfl) rfl)) ?_
      refine g_v rfl r_assign ?_
      refine g_nil ?_
      refine d_then ?_
      refine c_flat [(0, .slice Ap0_0 p0.length cp0_0), (3, .bool x1), (4, .pointer (some ⟨g11, 0, none⟩)), (5, .pointer (some ⟨g20, 0, none⟩)), (6, .int .i64 i413), (7, .string x538), (8, .int .i64 x540), (11, .int .i64 x569), (12, .int .i64 x571)] ⟨rfl, rfl, rfl, rfl, rfl, rfl, rfl, rfl, rfl, trivial⟩ (fun u => ?_)
      refine c_sta ⟨w0, M, (100155, g11, .cells #[.slice A574 x572.fb.length c575, mapV A577] 67 (0, 0)) :: (100165, g20, .cells #[.slice A555 x553.fb.length c556, mapV A558] 67 (0, 0)) :: H, (100150, ⟨.slice A574 x572.fb.length c575, 5, 1, x572.fb.length, x572.fb.flatMap (fun x : Int => [Value.int .u8 x])⟩) :: (100151, ⟨mapV A577, 65, 2, x572.fplaces.length, x572.fplaces.flatMap (mcell (fun x : ByteArray => Value.string x) (fun x : Int => Value.int .i64 x))⟩) :: (100160, ⟨.slice A555 x553.fb.length c556, 5, 1, x553.fb.length, x553.fb.flatMap (fun x : Int => [Value.int .u8 x])⟩) :: (100161, ⟨mapV A558, 65, 2, x553.fplaces.length, x553.fplaces.flatMap (mcell (fun x : ByteArray => Value.string x) (fun x : Int => Value.int .i64 x))⟩) :: R, φ⟩ (fun _ h => h) ?_
      refine c_seq ?_
      refine c_region ?_
      refine g_v rfl r_move ?_
      replace hm := bnd hm
      obtain ⟨x581, hx582, hm⟩ := hm
      refine g_cn ⟨w0, M, (1000, g11, .cells #[.slice A574 x572.fb.length c575, mapV A577] 67 (0, 0)) :: (100165, g20, .cells #[.slice A555 x553.fb.length c556, mapV A558] 67 (0, 0)) :: H, (1000, ⟨.slice A574 x572.fb.length c575, 5, 1, x572.fb.length, x572.fb.flatMap (fun x : Int => [Value.int .u8 x])⟩) :: (1001, ⟨mapV A577, 65, 2, x572.fplaces.length, x572.fplaces.flatMap (mcell (fun x : ByteArray => Value.string x) (fun x : Int => Value.int .i64 x))⟩) :: (100160, ⟨.slice A555 x553.fb.length c556, 5, 1, x553.fb.length, x553.fb.flatMap (fun x : Int => [Value.int .u8 x])⟩) :: (100161, ⟨mapV A558, 65, 2, x553.fplaces.length, x553.fplaces.flatMap (mcell (fun x : ByteArray => Value.string x) (fun x : Int => Value.int .i64 x))⟩) :: R, φ⟩ (fun W h => (ok_front (t := 100155) (t' := 1000) (ok_frontR (t := 100150) (t' := 1000) (ok_frontR (t := 100151) (t' := 1001) h rfl) rfl) rfl)) Try.call26 rfl rfl (c_pack_Packer_Len g11 x572 A574 c575 hc575 A577 c578 trivial _ hx582) (fun _ _ => ?_)
      refine g_sta _ (fun W h => (ok_frontR (t := 1000) (t' := 100150) (ok_frontR (t := 1001) (t' := 100151) (ok_front (t := 1000) (t' := 100155) h rfl) rfl) rfl)) ?_
      refine g_v rfl r_assign ?_
      refine g_nil ?_
      refine d_then ?_
      refine c_seq ?_
      refine c_seq ?_
      refine c_region ?_
      refine g_v rfl r_move ?_
      refine g_v rfl (r_neq rfl rfl) ?_
      refine g_v rfl r_move ?_
      refine g_if rfl rfl rfl rfl rfl (fun h583 => ?_) (fun h583 => ?_)
      ·
       replace hm := ite_f hm (of_decide_eq_false h583)
       refine g_v rfl r_move ?_
       refine g_do rfl rfl rfl rfl rfl h583 ?_
       replace hm := bnd hm
       obtain ⟨x584, hx585, hm⟩ := hm
       refine g_cn ⟨w0, M, (1000, g11, .cells #[.slice A574 x572.fb.length c575, mapV A577] 67 (0, 0)) :: (100165, g20, .cells #[.slice A555 x553.fb.length c556, mapV A558] 67 (0, 0)) :: H, (1000, ⟨.slice A574 x572.fb.length c575, 5, 1, x572.fb.length, x572.fb.flatMap (fun x : Int => [Value.int .u8 x])⟩) :: (1001, ⟨mapV A577, 65, 2, x572.fplaces.length, x572.fplaces.flatMap (mcell (fun x : ByteArray => Value.string x) (fun x : Int => Value.int .i64 x))⟩) :: (100160, ⟨.slice A555 x553.fb.length c556, 5, 1, x553.fb.length, x553.fb.flatMap (fun x : Int => [Value.int .u8 x])⟩) :: (100161, ⟨mapV A558, 65, 2, x553.fplaces.length, x553.fplaces.flatMap (mcell (fun x : ByteArray => Value.string x) (fun x : Int => Value.int .i64 x))⟩) :: R, φ⟩ (fun W h => (ok_front (t := 100155) (t' := 1000) (ok_frontR (t := 100150) (t' := 1000) (ok_frontR (t := 100151) (t' := 1001) h rfl) rfl) rfl)) Try.call26 rfl rfl (c_pack_Packer_Len g11 x572 A574 c575 hc575 A577 c578 trivial _ hx585) (fun _ _ => ?_)
       refine g_sta _ (fun W h => (ok_frontR (t := 1000) (t' := 100150) (ok_frontR (t := 1001) (t' := 100151) (ok_front (t := 1000) (t' := 100155) h rfl) rfl) rfl)) ?_
       refine g_do rfl rfl rfl rfl rfl h583 ?_
       refine g_v rfl (r_gtr rfl rfl) ?_
       refine g_v rfl (r_pick0 rfl h583) ?_
       refine g_v rfl r_move ?_
       refine g_if rfl rfl rfl rfl rfl (fun h586 => ?_) (fun h586 => ?_)
       ·
        replace hm := ite_f hm (of_decide_eq_false h586)
        refine g_v rfl r_move ?_
        refine g_do rfl rfl rfl rfl rfl h586 ?_
        refine g_v rfl r_move ?_
        refine g_do rfl rfl rfl rfl rfl h586 ?_
        refine g_v rfl (r_sub rfl rfl rfl) ?_
        refine g_do rfl rfl rfl rfl rfl h586 ?_
        refine g_v rfl (r_neq rfl rfl) ?_
        refine g_do rfl rfl rfl rfl rfl h586 ?_
        refine g_v rfl r_move ?_
        refine g_if rfl rfl rfl rfl rfl (fun h587 => ?_) (fun h587 => ?_)
        ·
         replace hm := ite_t hm (of_decide_eq_true h587)
         refine g_v rfl r_move ?_
         refine g_do rfl rfl rfl rfl rfl h587 ?_
         refine g_v rfl (r_len Try.underlying9 rfl) ?_
         refine g_do rfl rfl rfl rfl rfl h587 ?_
         refine g_v rfl (r_gtr rfl rfl) ?_
         refine g_do rfl rfl rfl rfl rfl h586 ?_
         refine g_v rfl (r_pick1 rfl h587) ?_
         refine g_v rfl (r_pick0 rfl h586) ?_
         refine g_v rfl r_move ?_
         refine g_if rfl rfl rfl rfl rfl (fun h588 => ?_) (fun h588 => ?_)
         ·
          replace hm := ite_f hm (of_decide_eq_false h588)
          refine g_v rfl r_move ?_
          refine g_do rfl rfl rfl rfl rfl h588 ?_
          refine g_v rfl (r_len Try.underlying9 rfl) ?_
          refine g_do rfl rfl rfl rfl rfl h588 ?_
          refine g_v rfl (r_eql rfl rfl) ?_
          refine g_do rfl rfl rfl rfl rfl h588 ?_
          refine g_v rfl r_move ?_
          refine g_if rfl rfl rfl rfl rfl (fun h589 => ?_) (fun h589 => ?_)
          ·
           replace hm := ite_t hm (of_decide_eq_true h589)
           refine g_v rfl r_move ?_
           refine g_do rfl rfl rfl rfl rfl h589 ?_
           refine g_v rfl r_move ?_
           refine g_do rfl rfl rfl rfl rfl h589 ?_
           refine g_v rfl (r_sub rfl rfl rfl) ?_
           refine g_do rfl rfl rfl rfl rfl h589 ?_
           refine g_v rfl (r_neq rfl rfl) ?_
           refine g_do rfl rfl rfl rfl rfl h588 ?_
           refine g_v rfl (r_pick1 rfl h589) ?_
           refine g_v rfl (r_pick0 rfl h588) ?_
           refine g_v rfl r_move ?_
           refine g_if rfl rfl rfl rfl rfl (fun h590 => ?_) (fun h590 => ?_)
           ·
            replace hm := ite_f hm (of_decide_eq_false h590)
            refine g_v rfl r_move ?_
            refine g_do rfl rfl rfl rfl rfl h590 ?_
            refine g_v rfl r_move ?_
            refine g_do rfl rfl rfl rfl rfl h590 ?_
            refine g_v rfl (r_sub rfl rfl rfl) ?_
            refine g_do rfl rfl rfl rfl rfl h590 ?_
            refine g_v rfl r_move ?_
            refine g_do rfl rfl rfl rfl rfl h590 ?_
            refine g_v rfl (r_len Try.underlying9 rfl) ?_
            refine g_do rfl rfl rfl rfl rfl h590 ?_
            refine g_v rfl (r_gtr rfl rfl) ?_
            refine g_v rfl (r_pick0 rfl h590) ?_
            refine g_nil ?_
            refine d_then ?_
            refine c_flat [(0, .slice Ap0_0 p0.length cp0_0), (3, .bool x1), (4, .pointer (some ⟨g11, 0, none⟩)), (5, .pointer (some ⟨g20, 0, none⟩)), (6, .int .i64 i413), (7, .string x538), (104, .bool (decide ((x538.size : Int) < w64 (x569 - x540))))] ⟨rfl, rfl, rfl, rfl, rfl, rfl, rfl, trivial⟩ (fun u => ?_)
            refine c_sta ⟨w0, M, (100155, g11, .cells #[.slice A574 x572.fb.length c575, mapV A577] 67 (0, 0)) :: (100165, g20, .cells #[.slice A555 x553.fb.length c556, mapV A558] 67 (0, 0)) :: H, (100150, ⟨.slice A574 x572.fb.length c575, 5, 1, x572.fb.length, x572.fb.flatMap (fun x : Int => [Value.int .u8 x])⟩) :: (100151, ⟨mapV A577, 65, 2, x572.fplaces.length, x572.fplaces.flatMap (mcell (fun x : ByteArray => Value.string x) (fun x : Int => Value.int .i64 x))⟩) :: (100160, ⟨.slice A555 x553.fb.length c556, 5, 1, x553.fb.length, x553.fb.flatMap (fun x : Int => [Value.int .u8 x])⟩) :: (100161, ⟨mapV A558, 65, 2, x553.fplaces.length, x553.fplaces.flatMap (mcell (fun x : ByteArray => Value.string x) (fun x : Int => Value.int .i64 x))⟩) :: R, φ⟩ (fun _ h => h) ?_
            refine c_cond rfl (fun h591 => ?_) (fun h591 => ?_)
            ·
             replace hm := ite_t hm (of_decide_eq_true h591)
             refine c_seq ?_
             refine c_region ?_
             refine g_v rfl r_assign ?_
             refine g_nil ?_
             refine d_then ?_
             refine c_ret ?_
             refine d_ret_then ?_
             refine d_ret_block ?_
             refine d_ret_then ?_
             refine d_ret_then ?_
             refine d_ret_block ?_
             refine d_ret_then ?_
             refine d_ret_then ?_
             replace hm := nx_out (C := (fun e => Sum.elim (fun e => m_law04_PackShort_j1 x1 e.1 e.2.1 e.2.2.1 e.2.2.2) (fun x => some x) e = some r)) hm hnx2 hr2
             replace hm : some false = some r := hm
             replace hm := Option.some.inj hm
             subst hm
             refine d_retC () Try.results6 ?_ trivial (fun W h => ok_pre (H1 := [_, _]) (R1 := [_, _, _, _]) h (fun W hφ => hφ)) (.inr rfl)
             refine res_tmp ?_
             refine res_nil ?_
             exact rfl
            ·
             replace hm := ite_f hm (of_decide_eq_false h591)
             refine c_skip ?_
             refine d_then ?_
             refine c_region ?_
             refine g_v rfl r_move ?_
             refine g_v rfl r_move ?_
             replace hm := bnd hm
             obtain ⟨⟨x592, x593⟩, hx594, hm⟩ := hm
             refine g_cn ⟨w0, M, (1000, g20, .cells #[.slice A555 x553.fb.length c556, mapV A558] 67 (0, 0)) :: (100155, g11, .cells #[.slice A574 x572.fb.length c575, mapV A577] 67 (0, 0)) :: H, (1000, ⟨.slice A555 x553.fb.length c556, 5, 1, x553.fb.length, x553.fb.flatMap (fun x : Int => [Value.int .u8 x])⟩) :: (1001, ⟨mapV A558, 65, 2, x553.fplaces.length, x553.fplaces.flatMap (mcell (fun x : ByteArray => Value.string x) (fun x : Int => Value.int .i64 x))⟩) :: (100150, ⟨.slice A574 x572.fb.length c575, 5, 1, x572.fb.length, x572.fb.flatMap (fun x : Int => [Value.int .u8 x])⟩) :: (100151, ⟨mapV A577, 65, 2, x572.fplaces.length, x572.fplaces.flatMap (mcell (fun x : ByteArray => Value.string x) (fun x : Int => Value.int .i64 x))⟩) :: R, φ⟩ (fun W h => (ok_front (t := 100165) (t' := 1000) (ok_frontR (t := 100160) (t' := 1000) (ok_frontR (t := 100161) (t' := 1001) h rfl) rfl) rfl)) Try.call27 rfl rfl (c_pack_Packer_Name x538 false g20 x553 A555 c556 hc556 A558 c559 trivial _ hx594) (fun ⟨A595, c596, A598, c599⟩ ⟨hc596, hc599⟩ => ?_)
             refine g_sta _ (fun W h => (ok_frontR (t := 2000) (t' := 100160) (ok_frontR (t := 2001) (t' := 100161) (ok_front (t := 1000) (t' := 100165) h rfl) rfl) rfl)) ?_
             refine g_nil ?_
             refine d_normal_block ?_
             refine d_then ?_
             refine c_region ?_
             refine g_v rfl r_move ?_
             refine g_v rfl (r_add rfl rfl rfl) ?_
             refine g_v rfl r_assign ?_
             refine g_nil ?_
             obtain ⟨n602, hn602, hlp⟩ := nx_inl hm hnx2
             exact d_round (n602, x593.fb, x593.fplaces, x572.fb, x572.fplaces, w64 (i413 + 1), A595, c596, A598, c599, A574, c575, A577, c578) ⟨hlp, hc596, trivial, hc575, trivial⟩ hn602 ⟨rfl, rfl, rfl, rfl, rfl, trivial⟩ (fun W h => h.phi (fun W hφ => hφ))
           ·
            replace hm := ite_t hm (of_decide_eq_true h590)
            refine g_no rfl rfl rfl rfl rfl h590 ?_
            refine g_no rfl rfl rfl rfl rfl h590 ?_
            refine g_no rfl rfl rfl rfl rfl h590 ?_
            refine g_no rfl rfl rfl rfl rfl h590 ?_
            refine g_no rfl rfl rfl rfl rfl h590 ?_
            refine g_v rfl (r_pick1 rfl h590) ?_
            refine g_nil ?_
            refine d_then ?_
            refine c_flat [(0, .slice Ap0_0 p0.length cp0_0), (3, .bool x1), (4, .pointer (some ⟨g11, 0, none⟩)), (5, .pointer (some ⟨g20, 0, none⟩)), (6, .int .i64 i413), (7, .string x538), (104, .bool true)] ⟨rfl, rfl, rfl, rfl, rfl, rfl, rfl, trivial⟩ (fun u => ?_)
            refine c_sta ⟨w0, M, (100155, g11, .cells #[.slice A574 x572.fb.length c575, mapV A577] 67 (0, 0)) :: (100165, g20, .cells #[.slice A555 x553.fb.length c556, mapV A558] 67 (0, 0)) :: H, (100150, ⟨.slice A574 x572.fb.length c575, 5, 1, x572.fb.length, x572.fb.flatMap (fun x : Int => [Value.int .u8 x])⟩) :: (100151, ⟨mapV A577, 65, 2, x572.fplaces.length, x572.fplaces.flatMap (mcell (fun x : ByteArray => Value.string x) (fun x : Int => Value.int .i64 x))⟩) :: (100160, ⟨.slice A555 x553.fb.length c556, 5, 1, x553.fb.length, x553.fb.flatMap (fun x : Int => [Value.int .u8 x])⟩) :: (100161, ⟨mapV A558, 65, 2, x553.fplaces.length, x553.fplaces.flatMap (mcell (fun x : ByteArray => Value.string x) (fun x : Int => Value.int .i64 x))⟩) :: R, φ⟩ (fun _ h => h) ?_
            refine c_cond1 rfl rfl ?_
            refine c_seq ?_
            refine c_region ?_
            refine g_v rfl r_assign ?_
            refine g_nil ?_
            refine d_then ?_
            refine c_ret ?_
            refine d_ret_then ?_
            refine d_ret_block ?_
            refine d_ret_then ?_
            refine d_ret_then ?_
            refine d_ret_block ?_
            refine d_ret_then ?_
            refine d_ret_then ?_
            replace hm := nx_out (C := (fun e => Sum.elim (fun e => m_law04_PackShort_j1 x1 e.1 e.2.1 e.2.2.1 e.2.2.2) (fun x => some x) e = some r)) hm hnx2 hr2
            replace hm : some false = some r := hm
            replace hm := Option.some.inj hm
            subst hm
            refine d_retC () Try.results6 ?_ trivial (fun W h => ok_pre (H1 := [_, _]) (R1 := [_, _, _, _]) h (fun W hφ => hφ)) (.inr rfl)
            refine res_tmp ?_
            refine res_nil ?_
            exact rfl
          ·
           replace hm := ite_f hm (of_decide_eq_false h589)
           refine g_no rfl rfl rfl rfl rfl h589 ?_
           refine g_no rfl rfl rfl rfl rfl h589 ?_
           refine g_no rfl rfl rfl rfl rfl h589 ?_
           refine g_do rfl rfl rfl rfl rfl h588 ?_
           refine g_v rfl (r_pick0 rfl h589) ?_
           refine g_v rfl (r_pick0 rfl h588) ?_
           refine g_v rfl r_move ?_
           refine g_do rfl rfl rfl rfl rfl rfl ?_
           refine g_v rfl r_move ?_
           refine g_do rfl rfl rfl rfl rfl rfl ?_
           refine g_v rfl r_move ?_
           refine g_do rfl rfl rfl rfl rfl rfl ?_
           refine g_v rfl (r_sub rfl rfl rfl) ?_
           refine g_do rfl rfl rfl rfl rfl rfl ?_
           refine g_v rfl r_move ?_
           refine g_do rfl rfl rfl rfl rfl rfl ?_
           refine g_v rfl (r_len Try.underlying9 rfl) ?_
           refine g_do rfl rfl rfl rfl rfl rfl ?_
           refine g_v rfl (r_gtr rfl rfl) ?_
           refine g_v rfl (r_pick0 rfl rfl) ?_
           refine g_nil ?_
           refine d_then ?_
           refine c_flat [(0, .slice Ap0_0 p0.length cp0_0), (3, .bool x1), (4, .pointer (some ⟨g11, 0, none⟩)), (5, .pointer (some ⟨g20, 0, none⟩)), (6, .int .i64 i413), (7, .string x538), (104, .bool (decide ((x538.size : Int) < w64 (x569 - x540))))] ⟨rfl, rfl, rfl, rfl, rfl, rfl, rfl, trivial⟩ (fun u => ?_)
           refine c_sta ⟨w0, M, (100155, g11, .cells #[.slice A574 x572.fb.length c575, mapV A577] 67 (0, 0)) :: (100165, g20, .cells #[.slice A555 x553.fb.length c556, mapV A558] 67 (0, 0)) :: H, (100150, ⟨.slice A574 x572.fb.length c575, 5, 1, x572.fb.length, x572.fb.flatMap (fun x : Int => [Value.int .u8 x])⟩) :: (100151, ⟨mapV A577, 65, 2, x572.fplaces.length, x572.fplaces.flatMap (mcell (fun x : ByteArray => Value.string x) (fun x : Int => Value.int .i64 x))⟩) :: (100160, ⟨.slice A555 x553.fb.length c556, 5, 1, x553.fb.length, x553.fb.flatMap (fun x : Int => [Value.int .u8 x])⟩) :: (100161, ⟨mapV A558, 65, 2, x553.fplaces.length, x553.fplaces.flatMap (mcell (fun x : ByteArray => Value.string x) (fun x : Int => Value.int .i64 x))⟩) :: R, φ⟩ (fun _ h => h) ?_
           refine c_cond rfl (fun h603 => ?_) (fun h603 => ?_)
           ·
            replace hm := ite_t hm (of_decide_eq_true h603)
            refine c_seq ?_
            refine c_region ?_
            refine g_v rfl r_assign ?_
            refine g_nil ?_
            refine d_then ?_
            refine c_ret ?_
            refine d_ret_then ?_
            refine d_ret_block ?_
            refine d_ret_then ?_
            refine d_ret_then ?_
            refine d_ret_block ?_
            refine d_ret_then ?_
            refine d_ret_then ?_
            replace hm := nx_out (C := (fun e => Sum.elim (fun e => m_law04_PackShort_j1 x1 e.1 e.2.1 e.2.2.1 e.2.2.2) (fun x => some x) e = some r)) hm hnx2 hr2
            replace hm : some false = some r := hm
            replace hm := Option.some.inj hm
            subst hm
            refine d_retC () Try.results6 ?_ trivial (fun W h => ok_pre (H1 := [_, _]) (R1 := [_, _, _, _]) h (fun W hφ => hφ)) (.inr rfl)
            refine res_tmp ?_
            refine res_nil ?_
            exact rfl
           ·
            replace hm := ite_f hm (of_decide_eq_false h603)
            refine c_skip ?_
            refine d_then ?_
            refine c_region ?_
            refine g_v rfl r_move ?_
            refine g_v rfl r_move ?_
            replace hm := bnd hm
            obtain ⟨⟨x604, x605⟩, hx606, hm⟩ := hm
            refine g_cn ⟨w0, M, (1000, g20, .cells #[.slice A555 x553.fb.length c556, mapV A558] 67 (0, 0)) :: (100155, g11, .cells #[.slice A574 x572.fb.length c575, mapV A577] 67 (0, 0)) :: H, (1000, ⟨.slice A555 x553.fb.length c556, 5, 1, x553.fb.length, x553.fb.flatMap (fun x : Int => [Value.int .u8 x])⟩) :: (1001, ⟨mapV A558, 65, 2, x553.fplaces.length, x553.fplaces.flatMap (mcell (fun x : ByteArray => Value.string x) (fun x : Int => Value.int .i64 x))⟩) :: (100150, ⟨.slice A574 x572.fb.length c575, 5, 1, x572.fb.length, x572.fb.flatMap (fun x : Int => [Value.int .u8 x])⟩) :: (100151, ⟨mapV A577, 65, 2, x572.fplaces.length, x572.fplaces.flatMap (mcell (fun x : ByteArray => Value.string x) (fun x : Int => Value.int .i64 x))⟩) :: R, φ⟩ (fun W h => (ok_front (t := 100165) (t' := 1000) (ok_frontR (t := 100160) (t' := 1000) (ok_frontR (t := 100161) (t' := 1001) h rfl) rfl) rfl)) Try.call27 rfl rfl (c_pack_Packer_Name x538 false g20 x553 A555 c556 hc556 A558 c559 trivial _ hx606) (fun ⟨A607, c608, A610, c611⟩ ⟨hc608, hc611⟩ => ?_)
            refine g_sta _ (fun W h => (ok_frontR (t := 2000) (t' := 100160) (ok_frontR (t := 2001) (t' := 100161) (ok_front (t := 1000) (t' := 100165) h rfl) rfl) rfl)) ?_
            refine g_nil ?_
            refine d_normal_block ?_
            refine d_then ?_
            refine c_region ?_
            refine g_v rfl r_move ?_
            refine g_v rfl (r_add rfl rfl rfl) ?_
            refine g_v rfl r_assign ?_
            refine g_nil ?_
            obtain ⟨n614, hn614, hlp⟩ := nx_inl hm hnx2
            exact d_round (n614, x605.fb, x605.fplaces, x572.fb, x572.fplaces, w64 (i413 + 1), A607, c608, A610, c611, A574, c575, A577, c578) ⟨hlp, hc608, trivial, hc575, trivial⟩ hn614 ⟨rfl, rfl, rfl, rfl, rfl, trivial⟩ (fun W h => h.phi (fun W hφ => hφ))
         ·
          replace hm := ite_t hm (of_decide_eq_true h588)
          refine g_no rfl rfl rfl rfl rfl h588 ?_
          refine g_no rfl rfl rfl rfl rfl h588 ?_
          refine g_no rfl rfl rfl rfl rfl h588 ?_
          refine g_nu rfl rfl rfl rfl rfl ?_
          refine g_nu rfl rfl rfl rfl rfl ?_
          refine g_nu rfl rfl rfl rfl rfl ?_
          refine g_nu rfl rfl rfl rfl rfl ?_
          refine g_no rfl rfl rfl rfl rfl h588 ?_
          refine g_v rfl (r_pick1 rfl h588) ?_
          refine g_v rfl r_move ?_
          refine g_no rfl rfl rfl rfl rfl rfl ?_
          refine g_no rfl rfl rfl rfl rfl rfl ?_
          refine g_no rfl rfl rfl rfl rfl rfl ?_
          refine g_no rfl rfl rfl rfl rfl rfl ?_
          refine g_no rfl rfl rfl rfl rfl rfl ?_
          refine g_no rfl rfl rfl rfl rfl rfl ?_
          refine g_v rfl (r_pick1 rfl rfl) ?_
          refine g_nil ?_
          refine d_then ?_
          refine c_flat [(0, .slice Ap0_0 p0.length cp0_0), (3, .bool x1), (4, .pointer (some ⟨g11, 0, none⟩)), (5, .pointer (some ⟨g20, 0, none⟩)), (6, .int .i64 i413), (7, .string x538), (104, .bool true)] ⟨rfl, rfl, rfl, rfl, rfl, rfl, rfl, trivial⟩ (fun u => ?_)
          refine c_sta ⟨w0, M, (100155, g11, .cells #[.slice A574 x572.fb.length c575, mapV A577] 67 (0, 0)) :: (100165, g20, .cells #[.slice A555 x553.fb.length c556, mapV A558] 67 (0, 0)) :: H, (100150, ⟨.slice A574 x572.fb.length c575, 5, 1, x572.fb.length, x572.fb.flatMap (fun x : Int => [Value.int .u8 x])⟩) :: (100151, ⟨mapV A577, 65, 2, x572.fplaces.length, x572.fplaces.flatMap (mcell (fun x : ByteArray => Value.string x) (fun x : Int => Value.int .i64 x))⟩) :: (100160, ⟨.slice A555 x553.fb.length c556, 5, 1, x553.fb.length, x553.fb.flatMap (fun x : Int => [Value.int .u8 x])⟩) :: (100161, ⟨mapV A558, 65, 2, x553.fplaces.length, x553.fplaces.flatMap (mcell (fun x : ByteArray => Value.string x) (fun x : Int => Value.int .i64 x))⟩) :: R, φ⟩ (fun _ h => h) ?_
          refine c_cond1 rfl rfl ?_
          refine c_seq ?_
          refine c_region ?_
          refine g_v rfl r_assign ?_
          refine g_nil ?_
          refine d_then ?_
          refine c_ret ?_
          refine d_ret_then ?_
          refine d_ret_block ?_
          refine d_ret_then ?_
          refine d_ret_then ?_
          refine d_ret_block ?_
          refine d_ret_then ?_
          refine d_ret_then ?_
          replace hm := nx_out (C := (fun e => Sum.elim (fun e => m_law04_PackShort_j1 x1 e.1 e.2.1 e.2.2.1 e.2.2.2) (fun x => some x) e = some r)) hm hnx2 hr2
          replace hm : some false = some r := hm
          replace hm := Option.some.inj hm
          subst hm
          refine d_retC () Try.results6 ?_ trivial (fun W h => ok_pre (H1 := [_, _]) (R1 := [_, _, _, _]) h (fun W hφ => hφ)) (.inr rfl)
          refine res_tmp ?_
          refine res_nil ?_
          exact rfl
        ·
         replace hm := ite_f hm (of_decide_eq_false h587)
         refine g_no rfl rfl rfl rfl rfl h587 ?_
         refine g_no rfl rfl rfl rfl rfl h587 ?_
         refine g_do rfl rfl rfl rfl rfl h586 ?_
         refine g_v rfl (r_pick0 rfl h587) ?_
         refine g_v rfl (r_pick0 rfl h586) ?_
         refine g_v rfl r_move ?_
         refine g_do rfl rfl rfl rfl rfl rfl ?_
         refine g_v rfl r_move ?_
         refine g_do rfl rfl rfl rfl rfl rfl ?_
         refine g_v rfl (r_len Try.underlying9 rfl) ?_
         refine g_do rfl rfl rfl rfl rfl rfl ?_
         refine g_v rfl (r_eql rfl rfl) ?_
         refine g_do rfl rfl rfl rfl rfl rfl ?_
         refine g_v rfl r_move ?_
         refine g_if rfl rfl rfl rfl rfl (fun h615 => ?_) (fun h615 => ?_)
         ·
          replace hm := ite_t hm (of_decide_eq_true h615)
          refine g_v rfl r_move ?_
          refine g_do rfl rfl rfl rfl rfl h615 ?_
          refine g_v rfl r_move ?_
          refine g_do rfl rfl rfl rfl rfl h615 ?_
          refine g_v rfl (r_sub rfl rfl rfl) ?_
          refine g_do rfl rfl rfl rfl rfl h615 ?_
          refine g_v rfl (r_neq rfl rfl) ?_
          refine g_do rfl rfl rfl rfl rfl rfl ?_
          refine g_v rfl (r_pick1 rfl h615) ?_
          refine g_v rfl (r_pick0 rfl rfl) ?_
          refine g_v rfl r_move ?_
          refine g_if rfl rfl rfl rfl rfl (fun h616 => ?_) (fun h616 => ?_)
          ·
           replace hm := ite_f hm (of_decide_eq_false h616)
           refine g_v rfl r_move ?_
           refine g_do rfl rfl rfl rfl rfl h616 ?_
           refine g_v rfl r_move ?_
           refine g_do rfl rfl rfl rfl rfl h616 ?_
           refine g_v rfl (r_sub rfl rfl rfl) ?_
           refine g_do rfl rfl rfl rfl rfl h616 ?_
           refine g_v rfl r_move ?_
           refine g_do rfl rfl rfl rfl rfl h616 ?_
           refine g_v rfl (r_len Try.underlying9 rfl) ?_
           refine g_do rfl rfl rfl rfl rfl h616 ?_
           refine g_v rfl (r_gtr rfl rfl) ?_
           refine g_v rfl (r_pick0 rfl h616) ?_
           refine g_nil ?_
           refine d_then ?_
           refine c_flat [(0, .slice Ap0_0 p0.length cp0_0), (3, .bool x1), (4, .pointer (some ⟨g11, 0, none⟩)), (5, .pointer (some ⟨g20, 0, none⟩)), (6, .int .i64 i413), (7, .string x538), (104, .bool (decide ((x538.size : Int) < w64 (x569 - x540))))] ⟨rfl, rfl, rfl, rfl, rfl, rfl, rfl, trivial⟩ (fun u => ?_)
           refine c_sta ⟨w0, M, (100155, g11, .cells #[.slice A574 x572.fb.length c575, mapV A577] 67 (0, 0)) :: (100165, g20, .cells #[.slice A555 x553.fb.length c556, mapV A558] 67 (0, 0)) :: H, (100150, ⟨.slice A574 x572.fb.length c575, 5, 1, x572.fb.length, x572.fb.flatMap (fun x : Int => [Value.int .u8 x])⟩) :: (100151, ⟨mapV A577, 65, 2, x572.fplaces.length, x572.fplaces.flatMap (mcell (fun x : ByteArray => Value.string x) (fun x : Int => Value.int .i64 x))⟩) :: (100160, ⟨.slice A555 x553.fb.length c556, 5, 1, x553.fb.length, x553.fb.flatMap (fun x : Int => [Value.int .u8 x])⟩) :: (100161, ⟨mapV A558, 65, 2, x553.fplaces.length, x553.fplaces.flatMap (mcell (fun x : ByteArray => Value.string x) (fun x : Int => Value.int .i64 x))⟩) :: R, φ⟩ (fun _ h => h) ?_
           refine c_cond rfl (fun h617 => ?_) (fun h617 => ?_)
           ·
            replace hm := ite_t hm (of_decide_eq_true h617)
            refine c_seq ?_
            refine c_region ?_
            refine g_v rfl r_assign ?_
            refine g_nil ?_
            refine d_then ?_
            refine c_ret ?_
            refine d_ret_then ?_
            refine d_ret_block ?_
            refine d_ret_then ?_
            refine d_ret_then ?_
            refine d_ret_block ?_
            refine d_ret_then ?_
            refine d_ret_then ?_
            replace hm := nx_out (C := (fun e => Sum.elim (fun e => m_law04_PackShort_j1 x1 e.1 e.2.1 e.2.2.1 e.2.2.2) (fun x => some x) e = some r)) hm hnx2 hr2
            replace hm : some false = some r := hm
            replace hm := Option.some.inj hm
            subst hm
            refine d_retC () Try.results6 ?_ trivial (fun W h => ok_pre (H1 := [_, _]) (R1 := [_, _, _, _]) h (fun W hφ => hφ)) (.inr rfl)
            refine res_tmp ?_
            refine res_nil ?_
            exact rfl
           ·
            replace hm := ite_f hm (of_decide_eq_false h617)
            refine c_skip ?_
            refine d_then ?_
            refine c_region ?_
            refine g_v rfl r_move ?_
            refine g_v rfl r_move ?_
            replace hm := bnd hm
            obtain ⟨⟨x618, x619⟩, hx620, hm⟩ := hm
            refine g_cn ⟨w0, M, (1000, g20, .cells #[.slice A555 x553.fb.length c556, mapV A558] 67 (0, 0)) :: (100155, g11, .cells #[.slice A574 x572.fb.length c575, mapV A577] 67 (0, 0)) :: H, (1000, ⟨.slice A555 x553.fb.length c556, 5, 1, x553.fb.length, x553.fb.flatMap (fun x : Int => [Value.int .u8 x])⟩) :: (1001, ⟨mapV A558, 65, 2, x553.fplaces.length, x553.fplaces.flatMap (mcell (fun x : ByteArray => Value.string x) (fun x : Int => Value.int .i64 x))⟩) :: (100150, ⟨.slice A574 x572.fb.length c575, 5, 1, x572.fb.length, x572.fb.flatMap (fun x : Int => [Value.int .u8 x])⟩) :: (100151, ⟨mapV A577, 65, 2, x572.fplaces.length, x572.fplaces.flatMap (mcell (fun x : ByteArray => Value.string x) (fun x : Int => Value.int .i64 x))⟩) :: R, φ⟩ (fun W h => (ok_front (t := 100165) (t' := 1000) (ok_frontR (t := 100160) (t' := 1000) (ok_frontR (t := 100161) (t' := 1001) h rfl) rfl) rfl)) Try.call27 rfl rfl (c_pack_Packer_Name x538 false g20 x553 A555 c556 hc556 A558 c559 trivial _ hx620) (fun ⟨A621, c622, A624, c625⟩ ⟨hc622, hc625⟩ => ?_)
            refine g_sta _ (fun W h => (ok_frontR (t := 2000) (t' := 100160) (ok_frontR (t := 2001) (t' := 100161) (ok_front (t := 1000) (t' := 100165) h rfl) rfl) rfl)) ?_
            refine g_nil ?_
            refine d_normal_block ?_
            refine d_then ?_
            refine c_region ?_
            refine g_v rfl r_move ?_
            refine g_v rfl (r_add rfl rfl rfl) ?_
            refine g_v rfl r_assign ?_
            refine g_nil ?_
            obtain ⟨n628, hn628, hlp⟩ := nx_inl hm hnx2
            exact d_round (n628, x619.fb, x619.fplaces, x572.fb, x572.fplaces, w64 (i413 + 1), A621, c622, A624, c625, A574, c575, A577, c578) ⟨hlp, hc622, trivial, hc575, trivial⟩ hn628 ⟨rfl, rfl, rfl, rfl, rfl, trivial⟩ (fun W h => h.phi (fun W hφ => hφ))
          ·
           replace hm := ite_t hm (of_decide_eq_true h616)
           refine g_no rfl rfl rfl rfl rfl h616 ?_
           refine g_no rfl rfl rfl rfl rfl h616 ?_
           refine g_no rfl rfl rfl rfl rfl h616 ?_
           refine g_no rfl rfl rfl rfl rfl h616 ?_
           refine g_no rfl rfl rfl rfl rfl h616 ?_
           refine g_v rfl (r_pick1 rfl h616) ?_
           refine g_nil ?_
           refine d_then ?_
           refine c_flat [(0, .slice Ap0_0 p0.length cp0_0), (3, .bool x1), (4, .pointer (some ⟨g11, 0, none⟩)), (5, .pointer (some ⟨g20, 0, none⟩)), (6, .int .i64 i413), (7, .string x538), (104, .bool true)] ⟨rfl, rfl, rfl, rfl, rfl, rfl, rfl, trivial⟩ (fun u => ?_)
           refine c_sta ⟨w0, M, (100155, g11, .cells #[.slice A574 x572.fb.length c575, mapV A577] 67 (0, 0)) :: (100165, g20, .cells #[.slice A555 x553.fb.length c556, mapV A558] 67 (0, 0)) :: H, (100150, ⟨.slice A574 x572.fb.length c575, 5, 1, x572.fb.length, x572.fb.flatMap (fun x : Int => [Value.int .u8 x])⟩) :: (100151, ⟨mapV A577, 65, 2, x572.fplaces.length, x572.fplaces.flatMap (mcell (fun x : ByteArray => Value.string x) (fun x : Int => Value.int .i64 x))⟩) :: (100160, ⟨.slice A555 x553.fb.length c556, 5, 1, x553.fb.length, x553.fb.flatMap (fun x : Int => [Value.int .u8 x])⟩) :: (100161, ⟨mapV A558, 65, 2, x553.fplaces.length, x553.fplaces.flatMap (mcell (fun x : ByteArray => Value.string x) (fun x : Int => Value.int .i64 x))⟩) :: R, φ⟩ (fun _ h => h) ?_
           refine c_cond1 rfl rfl ?_
           refine c_seq ?_
           refine c_region ?_
           refine g_v rfl r_assign ?_
           refine g_nil ?_
           refine d_then ?_
           refine c_ret ?_
           refine d_ret_then ?_
           refine d_ret_block ?_
           refine d_ret_then ?_
           refine d_ret_then ?_
           refine d_ret_block ?_
           refine d_ret_then ?_
           refine d_ret_then ?_
           replace hm := nx_out (C := (fun e => Sum.elim (fun e => m_law04_PackShort_j1 x1 e.1 e.2.1 e.2.2.1 e.2.2.2) (fun x => some x) e = some r)) hm hnx2 hr2
           replace hm : some false = some r := hm
           replace hm := Option.some.inj hm
           subst hm
           refine d_retC () Try.results6 ?_ trivial (fun W h => ok_pre (H1 := [_, _]) (R1 := [_, _, _, _]) h (fun W hφ => hφ)) (.inr rfl)
           refine res_tmp ?_
           refine res_nil ?_
           exact rfl
         ·
          replace hm := ite_f hm (of_decide_eq_false h615)
          refine g_no rfl rfl rfl rfl rfl h615 ?_
          refine g_no rfl rfl rfl rfl rfl h615 ?_
          refine g_no rfl rfl rfl rfl rfl h615 ?_
          refine g_do rfl rfl rfl rfl rfl rfl ?_
          refine g_v rfl (r_pick0 rfl h615) ?_
          refine g_v rfl (r_pick0 rfl rfl) ?_
          refine g_v rfl r_move ?_
          refine g_do rfl rfl rfl rfl rfl rfl ?_
          refine g_v rfl r_move ?_
          refine g_do rfl rfl rfl rfl rfl rfl ?_
          refine g_v rfl r_move ?_
          refine g_do rfl rfl rfl rfl rfl rfl ?_
          refine g_v rfl (r_sub rfl rfl rfl) ?_
          refine g_do rfl rfl rfl rfl rfl rfl ?_
          refine g_v rfl r_move ?_
          refine g_do rfl rfl rfl rfl rfl rfl ?_
          refine g_v rfl (r_len Try.underlying9 rfl) ?_
          refine g_do rfl rfl rfl rfl rfl rfl ?_
          refine g_v rfl (r_gtr rfl rfl) ?_
          refine g_v rfl (r_pick0 rfl rfl) ?_
          refine g_nil ?_
          refine d_then ?_
          refine c_flat [(0, .slice Ap0_0 p0.length cp0_0), (3, .bool x1), (4, .pointer (some ⟨g11, 0, none⟩)), (5, .pointer (some ⟨g20, 0, none⟩)), (6, .int .i64 i413), (7, .string x538), (104, .bool (decide ((x538.size : Int) < w64 (x569 - x540))))] ⟨rfl, rfl, rfl, rfl, rfl, rfl, rfl, trivial⟩ (fun u => ?_)
          refine c_sta ⟨w0, M, (100155, g11, .cells #[.slice A574 x572.fb.length c575, mapV A577] 67 (0, 0)) :: (100165, g20, .cells #[.slice A555 x553.fb.length c556, mapV A558] 67 (0, 0)) :: H, (100150, ⟨.slice A574 x572.fb.length c575, 5, 1, x572.fb.length, x572.fb.flatMap (fun x : Int => [Value.int .u8 x])⟩) :: (100151, ⟨mapV A577, 65, 2, x572.fplaces.length, x572.fplaces.flatMap (mcell (fun x : ByteArray => Value.string x) (fun x : Int => Value.int .i64 x))⟩) :: (100160, ⟨.slice A555 x553.fb.length c556, 5, 1, x553.fb.length, x553.fb.flatMap (fun x : Int => [Value.int .u8 x])⟩) :: (100161, ⟨mapV A558, 65, 2, x553.fplaces.length, x553.fplaces.flatMap (mcell (fun x : ByteArray => Value.string x) (fun x : Int => Value.int .i64 x))⟩) :: R, φ⟩ (fun _ h => h) ?_
          refine c_cond rfl (fun h629 => ?_) (fun h629 => ?_)
          ·
           replace hm := ite_t hm (of_decide_eq_true h629)
           refine c_seq ?_
           refine c_region ?_
           refine g_v rfl r_assign ?_
           refine g_nil ?_
           refine d_then ?_
           refine c_ret ?_
           refine d_ret_then ?_
           refine d_ret_block ?_
           refine d_ret_then ?_
           refine d_ret_then ?_
           refine d_ret_block ?_
           refine d_ret_then ?_
           refine d_ret_then ?_
           replace hm := nx_out (C := (fun e => Sum.elim (fun e => m_law04_PackShort_j1 x1 e.1 e.2.1 e.2.2.1 e.2.2.2) (fun x => some x) e = some r)) hm hnx2 hr2
           replace hm : some false = some r := hm
           replace hm := Option.some.inj hm
           subst hm
           refine d_retC () Try.results6 ?_ trivial (fun W h => ok_pre (H1 := [_, _]) (R1 := [_, _, _, _]) h (fun W hφ => hφ)) (.inr rfl)
           refine res_tmp ?_
           refine res_nil ?_
           exact rfl
          ·
           replace hm := ite_f hm (of_decide_eq_false h629)
           refine c_skip ?_
           refine d_then ?_
           refine c_region ?_
           refine g_v rfl r_move ?_
           refine g_v rfl r_move ?_
           replace hm := bnd hm
           obtain ⟨⟨x630, x631⟩, hx632, hm⟩ := hm
           refine g_cn ⟨w0, M, (1000, g20, .cells #[.slice A555 x553.fb.length c556, mapV A558] 67 (0, 0)) :: (100155, g11, .cells #[.slice A574 x572.fb.length c575, mapV A577] 67 (0, 0)) :: H, (1000, ⟨.slice A555 x553.fb.length c556, 5, 1, x553.fb.length, x553.fb.flatMap (fun x : Int => [Value.int .u8 x])⟩) :: (1001, ⟨mapV A558, 65, 2, x553.fplaces.length, x553.fplaces.flatMap (mcell (fun x : ByteArray => Value.string x) (fun x : Int => Value.int .i64 x))⟩) :: (100150, ⟨.slice A574 x572.fb.length c575, 5, 1, x572.fb.length, x572.fb.flatMap (fun x : Int => [Value.int .u8 x])⟩) :: (100151, ⟨mapV A577, 65, 2, x572.fplaces.length, x572.fplaces.flatMap (mcell (fun x : ByteArray => Value.string x) (fun x : Int => Value.int .i64 x))⟩) :: R, φ⟩ (fun W h => (ok_front (t := 100165) (t' := 1000) (ok_frontR (t := 100160) (t' := 1000) (ok_frontR (t := 100161) (t' := 1001) h rfl) rfl) rfl)) Try.call27 rfl rfl (c_pack_Packer_Name x538 false g20 x553 A555 c556 hc556 A558 c559 trivial _ hx632) (fun ⟨A633, c634, A636, c637⟩ ⟨hc634, hc637⟩ => ?_)
           refine g_sta _ (fun W h => (ok_frontR (t := 2000) (t' := 100160) (ok_frontR (t := 2001) (t' := 100161) (ok_front (t := 1000) (t' := 100165) h rfl) rfl) rfl)) ?_
           refine g_nil ?_
           refine d_normal_block ?_
           refine d_then ?_
           refine c_region ?_
           refine g_v rfl r_move ?_
           refine g_v rfl (r_add rfl rfl rfl) ?_
           refine g_v rfl r_assign ?_
           refine g_nil ?_
           obtain ⟨n640, hn640, hlp⟩ := nx_inl hm hnx2
           exact d_round (n640, x631.fb, x631.fplaces, x572.fb, x572.fplaces, w64 (i413 + 1), A633, c634, A636, c637, A574, c575, A577, c578) ⟨hlp, hc634, trivial, hc575, trivial⟩ hn640 ⟨rfl, rfl, rfl, rfl, rfl, trivial⟩ (fun W h => h.phi (fun W hφ => hφ))
       ·
        replace hm := ite_t hm (of_decide_eq_true h586)
        refine g_no rfl rfl rfl rfl rfl h586 ?_
        refine g_no rfl rfl rfl rfl rfl h586 ?_
        refine g_no rfl rfl rfl rfl rfl h586 ?_
        refine g_no rfl rfl rfl rfl rfl h586 ?_
        refine g_nu rfl rfl rfl rfl rfl ?_
        refine g_nu rfl rfl rfl rfl rfl ?_
        refine g_nu rfl rfl rfl rfl rfl ?_
        refine g_no rfl rfl rfl rfl rfl h586 ?_
        refine g_v rfl (r_pick1 rfl h586) ?_
        refine g_v rfl r_move ?_
        refine g_no rfl rfl rfl rfl rfl rfl ?_
        refine g_no rfl rfl rfl rfl rfl rfl ?_
        refine g_no rfl rfl rfl rfl rfl rfl ?_
        refine g_no rfl rfl rfl rfl rfl rfl ?_
        refine g_nu rfl rfl rfl rfl rfl ?_
        refine g_nu rfl rfl rfl rfl rfl ?_
        refine g_nu rfl rfl rfl rfl rfl ?_
        refine g_nu rfl rfl rfl rfl rfl ?_
        refine g_no rfl rfl rfl rfl rfl rfl ?_
        refine g_v rfl (r_pick1 rfl rfl) ?_
        refine g_v rfl r_move ?_
        refine g_no rfl rfl rfl rfl rfl rfl ?_
        refine g_no rfl rfl rfl rfl rfl rfl ?_
        refine g_no rfl rfl rfl rfl rfl rfl ?_
        refine g_no rfl rfl rfl rfl rfl rfl ?_
        refine g_no rfl rfl rfl rfl rfl rfl ?_
        refine g_no rfl rfl rfl rfl rfl rfl ?_
        refine g_v rfl (r_pick1 rfl rfl) ?_
        refine g_nil ?_
        refine d_then ?_
        refine c_flat [(0, .slice Ap0_0 p0.length cp0_0), (3, .bool x1), (4, .pointer (some ⟨g11, 0, none⟩)), (5, .pointer (some ⟨g20, 0, none⟩)), (6, .int .i64 i413), (7, .string x538), (104, .bool true)] ⟨rfl, rfl, rfl, rfl, rfl, rfl, rfl, trivial⟩ (fun u => ?_)
        refine c_sta ⟨w0, M, (100155, g11, .cells #[.slice A574 x572.fb.length c575, mapV A577] 67 (0, 0)) :: (100165, g20, .cells #[.slice A555 x553.fb.length c556, mapV A558] 67 (0, 0)) :: H, (100150, ⟨.slice A574 x572.fb.length c575, 5, 1, x572.fb.length, x572.fb.flatMap (fun x : Int => [Value.int .u8 x])⟩) :: (100151, ⟨mapV A577, 65, 2, x572.fplaces.length, x572.fplaces.flatMap (mcell (fun x : ByteArray => Value.string x) (fun x : Int => Value.int .i64 x))⟩) :: (100160, ⟨.slice A555 x553.fb.length c556, 5, 1, x553.fb.length, x553.fb.flatMap (fun x : Int => [Value.int .u8 x])⟩) :: (100161, ⟨mapV A558, 65, 2, x553.fplaces.length, x553.fplaces.flatMap (mcell (fun x : ByteArray => Value.string x) (fun x : Int => Value.int .i64 x))⟩) :: R, φ⟩ (fun _ h => h) ?_
        refine c_cond1 rfl rfl ?_
        refine c_seq ?_
        refine c_region ?_
        refine g_v rfl r_assign ?_
        refine g_nil ?_
        refine d_then ?_
        refine c_ret ?_
        refine d_ret_then ?_
        refine d_ret_block ?_
        refine d_ret_then ?_
        refine d_ret_then ?_
        refine d_ret_block ?_
        refine d_ret_then ?_
        refine d_ret_then ?_
        replace hm := nx_out (C := (fun e => Sum.elim (fun e => m_law04_PackShort_j1 x1 e.1 e.2.1 e.2.2.1 e.2.2.2) (fun x => some x) e = some r)) hm hnx2 hr2
        replace hm : some false = some r := hm
        replace hm := Option.some.inj hm
        subst hm
        refine d_retC () Try.results6 ?_ trivial (fun W h => ok_pre (H1 := [_, _]) (R1 := [_, _, _, _]) h (fun W hφ => hφ)) (.inr rfl)
        refine res_tmp ?_
        refine res_nil ?_
        exact rfl
      ·
       replace hm := ite_t hm (of_decide_eq_true h583)
       refine g_no rfl rfl rfl rfl rfl h583 ?_
       refine g_no rfl rfl rfl rfl rfl h583 ?_
       refine g_v rfl (r_pick1 rfl h583) ?_
       refine g_v rfl r_move ?_
       refine g_no rfl rfl rfl rfl rfl rfl ?_
       refine g_no rfl rfl rfl rfl rfl rfl ?_
       refine g_no rfl rfl rfl rfl rfl rfl ?_
       refine g_no rfl rfl rfl rfl rfl rfl ?_
       refine g_no rfl rfl rfl rfl rfl rfl ?_
       refine g_nu rfl rfl rfl rfl rfl ?_
       refine g_nu rfl rfl rfl rfl rfl ?_
       refine g_nu rfl rfl rfl rfl rfl ?_
       refine g_no rfl rfl rfl rfl rfl rfl ?_
       refine g_v rfl (r_pick1 rfl rfl) ?_
       refine g_v rfl r_move ?_
       refine g_no rfl rfl rfl rfl rfl rfl ?_
       refine g_no rfl rfl rfl rfl rfl rfl ?_
       refine g_no rfl rfl rfl rfl rfl rfl ?_
       refine g_no rfl rfl rfl rfl rfl rfl ?_
       refine g_nu rfl rfl rfl rfl rfl ?_
       refine g_nu rfl rfl rfl rfl rfl ?_
       refine g_nu rfl rfl rfl rfl rfl ?_
       refine g_nu rfl rfl rfl rfl rfl ?_
       refine g_no rfl rfl rfl rfl rfl rfl ?_
       refine g_v rfl (r_pick1 rfl rfl) ?_
       refine g_v rfl r_move ?_
       refine g_no rfl rfl rfl rfl rfl rfl ?_
       refine g_no rfl rfl rfl rfl rfl rfl ?_
       refine g_no rfl rfl rfl rfl rfl rfl ?_
       refine g_no rfl rfl rfl rfl rfl rfl ?_
       refine g_no rfl rfl rfl rfl rfl rfl ?_
       refine g_no rfl rfl rfl rfl rfl rfl ?_
       refine g_v rfl (r_pick1 rfl rfl) ?_
       refine g_nil ?_
       refine d_then ?_
       refine c_flat [(0, .slice Ap0_0 p0.length cp0_0), (3, .bool x1), (4, .pointer (some ⟨g11, 0, none⟩)), (5, .pointer (some ⟨g20, 0, none⟩)), (6, .int .i64 i413), (7, .string x538), (104, .bool true)] ⟨rfl, rfl, rfl, rfl, rfl, rfl, rfl, trivial⟩ (fun u => ?_)
       refine c_sta ⟨w0, M, (100155, g11, .cells #[.slice A574 x572.fb.length c575, mapV A577] 67 (0, 0)) :: (100165, g20, .cells #[.slice A555 x553.fb.length c556, mapV A558] 67 (0, 0)) :: H, (100150, ⟨.slice A574 x572.fb.length c575, 5, 1, x572.fb.length, x572.fb.flatMap (fun x : Int => [Value.int .u8 x])⟩) :: (100151, ⟨mapV A577, 65, 2, x572.fplaces.length, x572.fplaces.flatMap (mcell (fun x : ByteArray => Value.string x) (fun x : Int => Value.int .i64 x))⟩) :: (100160, ⟨.slice A555 x553.fb.length c556, 5, 1, x553.fb.length, x553.fb.flatMap (fun x : Int => [Value.int .u8 x])⟩) :: (100161, ⟨mapV A558, 65, 2, x553.fplaces.length, x553.fplaces.flatMap (mcell (fun x : ByteArray => Value.string x) (fun x : Int => Value.int .i64 x))⟩) :: R, φ⟩ (fun _ h => h) ?_
       refine c_cond1 rfl rfl ?_
       refine c_seq ?_
       refine c_region ?_
       refine g_v rfl r_assign ?_
       refine g_nil ?_
       refine d_then ?_
       refine c_ret ?_
       refine d_ret_then ?_
       refine d_ret_block ?_
       refine d_ret_then ?_
       refine d_ret_then ?_
       refine d_ret_block ?_
       refine d_ret_then ?_
       refine d_ret_then ?_
       replace hm := nx_out (C := (fun e => Sum.elim (fun e => m_law04_PackShort_j1 x1 e.1 e.2.1 e.2.2.1 e.2.2.2) (fun x => some x) e = some r)) hm hnx2 hr2
       replace hm : some false = some r := hm
       replace hm := Option.some.inj hm
       subst hm
       refine d_retC () Try.results6 ?_ trivial (fun W h => ok_pre (H1 := [_, _]) (R1 := [_, _, _, _]) h (fun W hφ => hφ)) (.inr rfl)
       refine res_tmp ?_
       refine res_nil ?_
       exact rfl
   ·
    replace hm := ite_f hm (of_decide_eq_false h533)
    refine c_exit ?_
    refine d_exit_then ?_
    refine d_exit_then ?_
    refine d_exit_block ?_
    replace hm := nx_out (C := (fun e => Sum.elim (fun e => m_law04_PackShort_j1 x1 e.1 e.2.1 e.2.2.1 e.2.2.2) (fun x => some x) e = some r)) hm hnx2 hr2
    exact d_round (l401, l404, l407, l410, A402, c403, A405, c406, A408, c409, A411, c412) ⟨hm, hc403, trivial, hc409, trivial⟩ Nat.zero_lt_one ⟨rfl, rfl, rfl, trivial⟩ (fun W h => h.phi (fun W hφ => hφ))
  ·
   replace hm := ite_f hm (of_decide_eq_false h532)
   refine g_no rfl rfl rfl rfl rfl h532 ?_
   refine g_v rfl (r_pick0 rfl h532) ?_
   refine g_nil ?_
   refine d_then ?_
   refine c_cond0 rfl rfl ?_
   refine c_exit ?_
   refine d_exit_then ?_
   refine d_exit_then ?_
   refine d_exit_block ?_
   replace hm := nx_out (C := (fun e => Sum.elim (fun e => m_law04_PackShort_j1 x1 e.1 e.2.1 e.2.2.1 e.2.2.2) (fun x => some x) e = some r)) hm hnx2 hr2
   exact d_round (l401, l404, l407, l410, A402, c403, A405, c406, A408, c409, A411, c412) ⟨hm, hc403, trivial, hc409, trivial⟩ Nat.zero_lt_one ⟨rfl, rfl, rfl, trivial⟩ (fun W h => h.phi (fun W hφ => hφ))
 ·
  unfold m_law04_PackShort_j1 at hm
  refine d_flat [(3, .bool x1), (4, .pointer (some ⟨g11, 0, none⟩)), (5, .pointer (some ⟨g20, 0, none⟩))] ⟨rfl, rfl, rfl, trivial⟩ (fun u => ?_)
  refine d_sta ⟨w0, M, (100165, g20, .cells #[.slice A269 l268.length c270, mapV A272] 67 (0, 0)) :: (100155, g11, .cells #[.slice A275 l274.length c276, mapV A278] 67 (0, 0)) :: H, (100160, ⟨.slice A269 l268.length c270, 5, 1, l268.length, l268.flatMap (fun x : Int => [Value.int .u8 x])⟩) :: (100161, ⟨mapV A272, 65, 2, l271.length, l271.flatMap (mcell (fun x : ByteArray => Value.string x) (fun x : Int => Value.int .i64 x))⟩) :: (100150, ⟨.slice A275 l274.length c276, 5, 1, l274.length, l274.flatMap (fun x : Int => [Value.int .u8 x])⟩) :: (100151, ⟨mapV A278, 65, 2, l277.length, l277.flatMap (mcell (fun x : ByteArray => Value.string x) (fun x : Int => Value.int .i64 x))⟩) :: R, φ⟩ (fun _ h => h) ?_
  refine d_then ?_
  refine c_seq ?_
  refine c_region ?_
  refine g_v rfl r_move ?_
  refine g_v rfl r_move ?_
  refine g_if rfl rfl rfl rfl rfl (fun h280 => ?_) (fun h280 => ?_)
  ·
   replace hm := ite_t hm h280
   refine g_v rfl r_move ?_
   refine g_do rfl rfl rfl rfl rfl h280 ?_
   replace hm := bnd hm
   obtain ⟨x281, hx282, hm⟩ := hm
   refine g_cn ⟨w0, M, (1000, g11, .cells #[.slice A275 l274.length c276, mapV A278] 67 (0, 0)) :: (100165, g20, .cells #[.slice A269 l268.length c270, mapV A272] 67 (0, 0)) :: H, (1000, ⟨.slice A275 l274.length c276, 5, 1, l274.length, l274.flatMap (fun x : Int => [Value.int .u8 x])⟩) :: (1001, ⟨mapV A278, 65, 2, l277.length, l277.flatMap (mcell (fun x : ByteArray => Value.string x) (fun x : Int => Value.int .i64 x))⟩) :: (100160, ⟨.slice A269 l268.length c270, 5, 1, l268.length, l268.flatMap (fun x : Int => [Value.int .u8 x])⟩) :: (100161, ⟨mapV A272, 65, 2, l271.length, l271.flatMap (mcell (fun x : ByteArray => Value.string x) (fun x : Int => Value.int .i64 x))⟩) :: R, φ⟩ (fun W h => (ok_front (t := 100155) (t' := 1000) (ok_frontR (t := 100150) (t' := 1000) (ok_frontR (t := 100151) (t' := 1001) h rfl) rfl) rfl)) Try.call26 rfl rfl (c_pack_Packer_Len g11 (⟨l274, l277⟩ : Gpack_Packer) A275 c276 hc276 A278 c279 trivial _ hx282) (fun _ _ => ?_)
   refine g_sta _ (fun W h => (ok_frontR (t := 1000) (t' := 100150) (ok_frontR (t := 1001) (t' := 100151) (ok_front (t := 1000) (t' := 100155) h rfl) rfl) rfl)) ?_
   refine g_do rfl rfl rfl rfl rfl h280 ?_
   refine g_v rfl r_move ?_
   refine g_do rfl rfl rfl rfl rfl h280 ?_
   replace hm := bnd hm
   obtain ⟨x283, hx284, hm⟩ := hm
   refine g_cn ⟨w0, M, (1000, g20, .cells #[.slice A269 l268.length c270, mapV A272] 67 (0, 0)) :: (100155, g11, .cells #[.slice A275 l274.length c276, mapV A278] 67 (0, 0)) :: H, (1000, ⟨.slice A269 l268.length c270, 5, 1, l268.length, l268.flatMap (fun x : Int => [Value.int .u8 x])⟩) :: (1001, ⟨mapV A272, 65, 2, l271.length, l271.flatMap (mcell (fun x : ByteArray => Value.string x) (fun x : Int => Value.int .i64 x))⟩) :: (100150, ⟨.slice A275 l274.length c276, 5, 1, l274.length, l274.flatMap (fun x : Int => [Value.int .u8 x])⟩) :: (100151, ⟨mapV A278, 65, 2, l277.length, l277.flatMap (mcell (fun x : ByteArray => Value.string x) (fun x : Int => Value.int .i64 x))⟩) :: R, φ⟩ (fun W h => (ok_front (t := 100165) (t' := 1000) (ok_frontR (t := 100160) (t' := 1000) (ok_frontR (t := 100161) (t' := 1001) h rfl) rfl) rfl)) Try.call26 rfl rfl (c_pack_Packer_Len g20 (⟨l268, l271⟩ : Gpack_Packer) A269 c270 hc270 A272 c273 trivial _ hx284) (fun _ _ => ?_)
   refine g_sta _ (fun W h => (ok_frontR (t := 1000) (t' := 100160) (ok_frontR (t := 1001) (t' := 100161) (ok_front (t := 1000) (t' := 100165) h rfl) rfl) rfl)) ?_
   refine g_do rfl rfl rfl rfl rfl h280 ?_
   refine g_v rfl (r_leq rfl rfl) ?_
   refine g_v rfl (r_pick1 rfl h280) ?_
   refine g_v rfl r_assign ?_
   refine g_nil ?_
   refine d_then ?_
   refine c_flat [(2, .bool (decide (x281 ≤ x283)))] ⟨rfl, trivial⟩ (fun u => ?_)
   refine c_sta ⟨w0, M, (100165, g20, .cells #[.slice A269 l268.length c270, mapV A272] 67 (0, 0)) :: (100155, g11, .cells #[.slice A275 l274.length c276, mapV A278] 67 (0, 0)) :: H, (100160, ⟨.slice A269 l268.length c270, 5, 1, l268.length, l268.flatMap (fun x : Int => [Value.int .u8 x])⟩) :: (100161, ⟨mapV A272, 65, 2, l271.length, l271.flatMap (mcell (fun x : ByteArray => Value.string x) (fun x : Int => Value.int .i64 x))⟩) :: (100150, ⟨.slice A275 l274.length c276, 5, 1, l274.length, l274.flatMap (fun x : Int => [Value.int .u8 x])⟩) :: (100151, ⟨mapV A278, 65, 2, l277.length, l277.flatMap (mcell (fun x : ByteArray => Value.string x) (fun x : Int => Value.int .i64 x))⟩) :: R, φ⟩ (fun _ h => h) ?_
   refine c_ret ?_
   replace hm := Option.some.inj hm
   subst hm
   refine d_retC () Try.results6 ?_ trivial (fun W h => ok_pre (H1 := [_, _]) (R1 := [_, _, _, _]) h (fun W hφ => hφ)) (.inr rfl)
   refine res_tmp ?_
   refine res_nil ?_
   exact rfl
  ·
   replace hm := ite_f hm (bool_nt h280)
   refine g_no rfl rfl rfl rfl rfl h280 ?_
   refine g_no rfl rfl rfl rfl rfl h280 ?_
   refine g_no rfl rfl rfl rfl rfl h280 ?_
   refine g_no rfl rfl rfl rfl rfl h280 ?_
   refine g_v rfl (r_pick0 rfl h280) ?_
   refine g_v rfl r_assign ?_
   refine g_nil ?_
   refine d_then ?_
   refine c_ret ?_
   replace hm := Option.some.inj hm
   subst hm
   refine d_retC () Try.results6 ?_ trivial (fun W h => ok_pre (H1 := [_, _]) (R1 := [_, _, _, _]) h (fun W hφ => hφ)) (.inr rfl)
   refine res_tmp ?_
   refine res_nil ?_
   exact rfl

end Go.Proofs.Ytdcfemndfnfedaa
