import Derived.Test.YthpjodfjdnnckaaGreatQL
import Derived.Test.YthpjodfjdnnckaaGreatSV
import Derived.Test.YthpjodfjdnnckaaGreatSL
import Derived.Test.YthpjodfjdnnckaaGreatSH
import Derived.Test.YthpjodfjdnnckaaGreatSE
import Derived.Test.YthpjodfjdnnckaaGreatRG
import Derived.Test.YthpjodfjdnnckaaGreatSJ
import Derived.Test.YthpjodfjdnnckaaGreatSK
set_option maxRecDepth 100000
set_option maxHeartbeats 4000000
set_option linter.unusedVariables false
set_option linter.unusedSimpArgs false
namespace Go.Proofs.YthpjodfjdnnckaaGreat
open Go.RowKit Go.Proofs.YthpjodfjdnnckaaGreatW.PrintLast
abbrev Vi (x : Int) : Value := .int .i64 x
abbrev Vs (x : ByteArray) : Value := .string x
abbrev Vp (g : Nat) : Value := .pointer (some ⟨g, 0, none⟩)
abbrev V0 : Value := .slice none 0 0
abbrev Ve : Value := .string ⟨#[]⟩
abbrev eB : ByteArray := ⟨#[]⟩
structure GOrder where
  fKind : Int
  fNode : Int
  fName : ByteArray
  fText : ByteArray
  fZone : ByteArray
  fHints : List ByteArray
  deriving DecidableEq
structure GOrderP where
  pA0 : Option Addr
  pC0 : Nat
def GOrder.encP (z : GOrder×GOrderP) : List Value:=[.int .i64 z.1.fKind,.int .i64 z.1.fNode,.string z.1.fName,.string z.1.fText,.string z.1.fZone,.slice z.2.pA0 z.1.fHints.length z.2.pC0]
abbrev GOrder.capP (z : GOrder×GOrderP) : Prop:=z.1.fHints.length ≤ z.2.pC0
abbrev GOrder.ownP (W : World) (z : GOrder×GOrderP) : Prop:=Cl W z.2.pA0 (z.1.fHints.flatMap (fun x : ByteArray=>[Value.string x]))
theorem bld32_0 (z0 : Int) (z1 : Int) : ∀ W,(Instr.build 32 #[(0,Vi z0),(1,Vi z1)]).run Tryz.prog W = .ok (.agg #[Vi z0,Vi z1,Ve,Ve,Ve,V0]) W:=fun _=>by kernel_rfl
noncomputable def m_conf_node (p0 : Int) : Option Bool:=
  if 0 ≤ p0 then
    some (decide (p0 < 64))
  else
    some false
theorem c_conf_node {w0 : World} {M : Nat→Prop} {H : List (Nat×Nat×Obj)} {R : List (Nat×Row)} {φ : World→Prop} (p0 : Int) (r : Bool) (hm : m_conf_node p0 = some r) :
    Cn Tryz.prog 46 #[Vi p0] ⟨w0,M,H,R,φ⟩ (fun x : Unit=>.bool r) (fun x=>True) (fun x=>⟨w0,M,H,R,φ⟩):=by
 unfold m_conf_node at hm
 refine cn_intro (fn:=Tryz.f46) (N:=9) Tryz.func46 rfl Tryz.ntmps46 rfl<|c_seq<|c_region<|g_v rfl r_assign<|g_nil<|d_then<|c_seq<|c_region<|g_v rfl r_move<|g_v rfl (r_geq rfl rfl) ?_
 refine g_v rfl r_move ?_
 refine g_if rfl rfl rfl rfl rfl (fun h1=>?_) (fun h1=>?_)
 ·
  replace hm:=ite_t hm (of_decide_eq_true h1)
  refine g_v rfl r_move<|g_do rfl rfl rfl rfl rfl h1<|g_v rfl (r_lss rfl rfl)<|g_v rfl (r_pick1 rfl h1)<|g_v rfl r_assign<|g_nil<|d_then<|c_ret ?_
  cases hm
  exact d_retC () Tryz.results46 (res_tmp (res_nil rfl)) trivial (fun W h=>ok_pre (H1:=[]) (R1:=[]) h (fun W hφ=>hφ)) (.inr rfl)
 replace hm:=ite_f hm (of_decide_eq_false h1)
 refine g_no rfl rfl rfl rfl rfl h1<|g_v rfl (r_pick0 rfl h1)<|g_v rfl r_assign<|g_nil<|d_then<|c_ret ?_
 cases hm
 exact d_retC () Tryz.results46 (res_tmp (res_nil rfl)) trivial (fun W h=>ok_pre (H1:=[]) (R1:=[]) h (fun W hφ=>hφ)) (.inr rfl)
theorem lit9_1 (z0 : ByteArray) (z1 : ByteArray) (z2 : ByteArray) : Tryz.prog.builtSlice 9 3 [(0,Vs z0),(1,Vs z1),(2,Vs z2)] = some #[Vs z0,Vs z1,Vs z2]:=by kernel_rfl
noncomputable def m_conf_none_c1 (p0 : ByteArray) : Option Bool:=
  some (!(decide (p0 = (⟨#[]⟩ : ByteArray))))
theorem c_conf_none_c1 {w0 : World} {M : Nat→Prop} {H : List (Nat×Nat×Obj)} {R : List (Nat×Row)} {φ : World→Prop} (p0 : ByteArray) (r : Bool) (hm : m_conf_none_c1 p0 = some r) :
    Cn Tryz.prog 106 #[Vs p0] ⟨w0,M,H,R,φ⟩ (fun x : Unit=>.bool r) (fun x=>True) (fun x=>⟨w0,M,H,R,φ⟩):=by
 unfold m_conf_none_c1 at hm
 refine cn_intro (fn:=Tryz.f106) (N:=5) Tryz.func106 rfl Tryz.ntmps106 rfl<|c_seq<|c_region<|g_v rfl r_assign<|g_nil<|d_then<|c_seq<|c_region<|g_v rfl r_move<|g_v rfl (r_neqT rfl rfl) ?_
 refine g_v rfl r_assign<|g_nil<|d_then<|c_ret ?_
 cases hm
 exact d_retC () Tryz.results106 (res_tmp (res_nil rfl)) trivial (fun W h=>ok_pre (H1:=[]) (R1:=[]) h (fun W hφ=>hφ)) (.inr rfl)
noncomputable def m_slices_IndexFunc_97_j1  : Option Int:=
  some (-1)
noncomputable def m_slices_IndexFunc_97_s2 (p0 : List ByteArray) (i30 : Int) : Option (Int ⊕ (Unit ⊕ Int)):=
  if i30 < (p0.length : Int) then
    (at_ p0 i30).bind fun x42=>
    (m_conf_none_c1 x42).bind fun x46=>
    if x46 = true then
      some (.inr (.inr i30))
    else
      some (.inl (w64 (i30 + 1)))
  else
    some (.inr (.inl ()))
noncomputable def m_slices_IndexFunc_97 (p0 : List ByteArray) : Option Int:=
  (loop (fun s=>m_slices_IndexFunc_97_s2 p0 s) 0).bind fun e=>Sum.elim (fun e=>m_slices_IndexFunc_97_j1) (fun x=>some x) e
theorem c_slices_IndexFunc_97 {w0 : World} {M : Nat→Prop} {H : List (Nat×Nat×Obj)} {R : List (Nat×Row)} {φ : World→Prop} (p0 : List ByteArray) (Ap0_0 : Option Addr) (cp0_0 : Nat) (hcp0_0 : p0.length ≤ cp0_0) (fp0_0 : ∀ W,(Sta.mk w0 M H R φ).ok W→Cl W Ap0_0 (p0.flatMap (fun x : ByteArray=>[Value.string x]))) (r : Int) (hm : m_slices_IndexFunc_97 p0 = some r) :
    Cn Tryz.prog 97 #[.slice Ap0_0 p0.length cp0_0,.func (.func 106) #[] #[]] ⟨w0,M,H,R,φ⟩ (fun x : Unit=>Vi r) (fun x=>True) (fun x=>⟨w0,M,H,R,φ⟩):=by
 unfold m_slices_IndexFunc_97 at hm
 refine cn_intro (fn:=Tryz.f97) (N:=19) Tryz.func97 rfl Tryz.ntmps97 rfl<|c_seq<|c_region<|g_v rfl r_assign<|g_nil<|d_then<|c_seq<|c_seq<|c_region<|g_v rfl r_move ?_
 refine g_v rfl (r_lenL Tryz.underlying26 rfl)<|g_v rfl r_move<|g_nil<|d_then ?_
 refine c_cut (ι:=Unit) [] (fun _=>[]) (fun _=>⟨w0,M,H,R,φ⟩) (fun _=>m_slices_IndexFunc_97_j1 = some r) ?_ (fun _ u hm=>?_)
 ·
  refine c_block ?_
  replace hm:=bnd hm
  obtain ⟨out2,hl2,hr2⟩:=hm
  obtain ⟨n40',hl2⟩:=loop_lp hl2
  refine c_loopU (ι:=Nat×Int) [0,1,7,8] (fun ⟨n40,i30⟩=>[(8,Vi i30)]) (fun ⟨n40,i30⟩=>⟨w0,M,H,R,φ⟩) (fun ⟨n40,i30⟩=>Lp (fun s=>m_slices_IndexFunc_97_s2 p0 s) n40 i30 out2) (fun ⟨n40,i30⟩=>n40) (n40',0) hl2 ⟨rfl,rfl,rfl,rfl,trivial⟩ (fun W h=>h.phi (fun W hφ=>hφ)) (fun ⟨n40,i30⟩ u hlp=>?_)
  obtain ⟨o2,hm,hnx2⟩:=lp_step hlp
  clear hlp
  replace hm : m_slices_IndexFunc_97_s2 p0 i30 = some o2:=hm
  unfold m_slices_IndexFunc_97_s2 at hm
  refine c_flat [(0,.slice Ap0_0 p0.length cp0_0),(1,.func (.func 106) #[] #[]),(7,Vi (p0.length : Int)),(8,Vi i30)] ⟨rfl,rfl,rfl,rfl,trivial⟩ (fun u=>?_)
  refine c_sta ⟨w0,M,H,R,φ⟩ (fun _ h=>h)<|c_seq<|c_region<|g_v rfl (r_lss rfl rfl)<|g_nil<|d_then<|c_seq ?_
  refine c_cond rfl (fun h41=>?_) (fun h41=>?_)
  ·
   replace hm:=ite_t hm (of_decide_eq_true h41)
   refine c_skip<|d_then<|c_seq<|c_block<|c_seq<|c_region<|g_v rfl r_move<|g_v rfl r_assign<|g_nil<|d_then ?_
   refine c_seq<|c_region ?_
   iterate 3 refine g_v rfl r_move ?_
   replace hm:=bnd hm
   obtain ⟨x42,hx42,hm⟩:=hm
   refine g_know _ (fun W hS=>cl_at (p:=(Sta.mk w0 M H R φ).ok) (sz:=1) (fun _=>rfl) (by decide) (ok_pre (H1:=[]) (R1:=[]) hS (fun W h=>h)) fp0_0 hx42) ?_
   rintro ⟨ad43,hA45,f44⟩
   refine g_v rfl (r_ix Tryz.underlying26 Tryz.sizeOf9 rfl hA45 rfl hx42)<|g_v rfl (r_ld rfl Tryz.isAgg9 (fun W hS=>Cl.head (f44 W (ok_pre (H1:=[]) (R1:=[]) hS (fun W h=>h))))) ?_
   replace hm:=bnd hm
   obtain ⟨x46,hx47,hm⟩:=hm
   refine g_cnv ⟨w0,M,_,_,φ⟩ (fun _ h=>h) Tryz.call106 rfl rfl rfl (c_conf_none_c1 x42 _ hx47) (fun _ _=>?_)
   refine g_nil<|d_then ?_
   refine c_flat [(0,.slice Ap0_0 p0.length cp0_0),(1,.func (.func 106) #[] #[]),(5,Vi i30),(7,Vi (p0.length : Int)),(8,Vi i30),(16,.bool x46)] ⟨rfl,rfl,rfl,rfl,rfl,rfl,trivial⟩ (fun u=>?_)
   refine c_cond rfl (fun h48=>?_) (fun h48=>?_)
   ·
    replace hm:=ite_t hm h48
    refine c_seq<|c_region<|g_v rfl r_move<|g_v rfl r_assign<|g_nil<|d_then<|c_ret<|d_ret_block<|d_ret_then<|d_ret_then ?_
    refine d_ret_block<|d_ret_then<|d_ret_then ?_
    replace hm:=nx_out (C:=(fun e : Unit ⊕ Int=>Sum.elim (fun e=>m_slices_IndexFunc_97_j1) (fun x=>some x) e = some r)) hm hnx2 hr2
    replace hm : some i30 = some r:=hm
    cases hm
    exact d_retC () Tryz.results97 (res_tmp (res_nil rfl)) trivial (fun W h=>ok_pre (H1:=[]) (R1:=[]) h (fun W hφ=>hφ)) (.inr rfl)
   replace hm:=ite_f hm (bool_nt h48)
   refine c_skip<|d_normal_block<|d_then<|c_region<|g_v rfl (r_add rfl rfl rfl)<|g_v rfl r_move<|g_nil ?_
   obtain ⟨n49,hn49,hlp⟩:=nx_inl hm hnx2
   exact d_round (n49,w64 (i30 + 1)) hlp hn49 ⟨rfl,rfl,rfl,rfl,trivial⟩ (fun W h=>h.phi (fun W hφ=>hφ))
  replace hm:=ite_f hm (of_decide_eq_false h41)
  refine c_exit<|d_exit_then<|d_exit_then<|d_exit_block ?_
  replace hm:=nx_out (C:=(fun e : Unit ⊕ Int=>Sum.elim (fun e=>m_slices_IndexFunc_97_j1) (fun x=>some x) e = some r)) hm hnx2 hr2
  exact d_round () hm Nat.zero_lt_one trivial (fun W h=>h.phi (fun W hφ=>hφ))
 unfold m_slices_IndexFunc_97_j1 at hm
 refine d_flat [] trivial (fun u=>?_)
 refine d_sta ⟨w0,M,H,R,φ⟩ (fun _ h=>h)<|d_then<|c_seq<|c_region<|g_v rfl r_assign<|g_nil<|d_then<|c_ret ?_
 cases hm
 exact d_retC () Tryz.results97 (res_tmp (res_nil rfl)) trivial (fun W h=>ok_pre (H1:=[]) (R1:=[]) h (fun W hφ=>hφ)) (.inr rfl)
noncomputable def m_slices_ContainsFunc_47 (p0 : List ByteArray) : Option Bool:=
  (m_slices_IndexFunc_97 p0).bind fun x1=>
  some (decide (0 ≤ x1))
theorem c_slices_ContainsFunc_47 {w0 : World} {M : Nat→Prop} {H : List (Nat×Nat×Obj)} {R : List (Nat×Row)} {φ : World→Prop} (p0 : List ByteArray) (Ap0_0 : Option Addr) (cp0_0 : Nat) (hcp0_0 : p0.length ≤ cp0_0) (fp0_0 : ∀ W,(Sta.mk w0 M H R φ).ok W→Cl W Ap0_0 (p0.flatMap (fun x : ByteArray=>[Value.string x]))) (r : Bool) (hm : m_slices_ContainsFunc_47 p0 = some r) :
    Cn Tryz.prog 47 #[.slice Ap0_0 p0.length cp0_0,.func (.func 106) #[] #[]] ⟨w0,M,H,R,φ⟩ (fun x : Unit=>.bool r) (fun x=>True) (fun x=>⟨w0,M,H,R,φ⟩):=by
 unfold m_slices_ContainsFunc_47 at hm
 refine cn_intro (fn:=Tryz.f47) (N:=9) Tryz.func47 rfl Tryz.ntmps47 rfl<|c_seq<|c_region<|g_v rfl r_assign<|g_nil<|d_then<|c_seq<|c_region<|g_v rfl r_move<|g_v rfl r_move ?_
 replace hm:=bnd hm
 obtain ⟨x1,hx2,hm⟩:=hm
 refine g_cn ⟨w0,M,_,_,φ⟩ (fun _ h=>h) Tryz.call97 rfl rfl (c_slices_IndexFunc_97 p0 Ap0_0 cp0_0 hcp0_0 (fun W hS=>fp0_0 W (ok_pre (H1:=[]) (R1:=[]) hS (fun W h=>h))) _ hx2) (fun _ _=>?_)
 refine g_v rfl (r_geq rfl rfl)<|g_v rfl r_assign<|g_nil<|d_then<|c_ret ?_
 cases hm
 exact d_retC () Tryz.results47 (res_tmp (res_nil rfl)) trivial (fun W h=>ok_pre (H1:=[]) (R1:=[]) h (fun W hφ=>hφ)) (.inr rfl)
noncomputable def m_conf_none (p0 : List ByteArray) : Option Bool:=
  (m_slices_ContainsFunc_47 p0).bind fun x1=>
  some (!x1)
theorem c_conf_none {w0 : World} {M : Nat→Prop} {H : List (Nat×Nat×Obj)} {R : List (Nat×Row)} {φ : World→Prop} (p0 : List ByteArray) (Ap0_0 : Option Addr) (cp0_0 : Nat) (hcp0_0 : p0.length ≤ cp0_0) (fp0_0 : ∀ W,(Sta.mk w0 M H R φ).ok W→Cl W Ap0_0 (p0.flatMap (fun x : ByteArray=>[Value.string x]))) (r : Bool) (hm : m_conf_none p0 = some r) :
    Cn Tryz.prog 83 #[.slice Ap0_0 p0.length cp0_0] ⟨w0,M,H,R,φ⟩ (fun x : Unit=>.bool r) (fun x=>True) (fun x=>⟨w0,M,H,R,φ⟩):=by
 unfold m_conf_none at hm
 refine cn_intro (fn:=Tryz.f83) (N:=6) Tryz.func83 rfl Tryz.ntmps83 rfl<|c_seq<|c_region<|g_v rfl r_assign<|g_nil<|d_then<|c_seq<|c_region<|g_v rfl r_move ?_
 replace hm:=bnd hm
 obtain ⟨x1,hx2,hm⟩:=hm
 refine g_cn ⟨w0,M,_,_,φ⟩ (fun _ h=>h) Tryz.call47 rfl rfl (c_slices_ContainsFunc_47 p0 Ap0_0 cp0_0 hcp0_0 (fun W hS=>fp0_0 W (ok_pre (H1:=[]) (R1:=[]) hS (fun W h=>h))) _ hx2) (fun _ _=>?_)
 refine g_v rfl (r_not rfl)<|g_v rfl r_assign<|g_nil<|d_then<|c_ret ?_
 cases hm
 exact d_retC () Tryz.results83 (res_tmp (res_nil rfl)) trivial (fun W h=>ok_pre (H1:=[]) (R1:=[]) h (fun W hφ=>hφ)) (.inr rfl)
noncomputable def m_conf_hint (p0 : ByteArray) : Option Bool:=
  some (decide ((p0.size : Int) = 4))
theorem c_conf_hint {w0 : World} {M : Nat→Prop} {H : List (Nat×Nat×Obj)} {R : List (Nat×Row)} {φ : World→Prop} (p0 : ByteArray) (r : Bool) (hm : m_conf_hint p0 = some r) :
    Cn Tryz.prog 49 #[Vs p0] ⟨w0,M,H,R,φ⟩ (fun x : Unit=>.bool r) (fun x=>True) (fun x=>⟨w0,M,H,R,φ⟩):=by
 unfold m_conf_hint at hm
 refine cn_intro (fn:=Tryz.f49) (N:=6) Tryz.func49 rfl Tryz.ntmps49 rfl<|c_seq<|c_region<|g_v rfl r_assign<|g_nil<|d_then<|c_seq<|c_region<|g_v rfl r_move<|g_v rfl (r_len Tryz.underlying9 rfl) ?_
 refine g_v rfl (r_eql rfl rfl)<|g_v rfl r_assign<|g_nil<|d_then<|c_ret ?_
 cases hm
 exact d_retC () Tryz.results49 (res_tmp (res_nil rfl)) trivial (fun W h=>ok_pre (H1:=[]) (R1:=[]) h (fun W hφ=>hφ)) (.inr rfl)
noncomputable def m_conf_Check_c1 (p0 : ByteArray) : Option Bool:=
  (m_conf_hint p0).bind fun x1=>
  some (!x1)
theorem c_conf_Check_c1 {w0 : World} {M : Nat→Prop} {H : List (Nat×Nat×Obj)} {R : List (Nat×Row)} {φ : World→Prop} (p0 : ByteArray) (r : Bool) (hm : m_conf_Check_c1 p0 = some r) :
    Cn Tryz.prog 84 #[Vs p0] ⟨w0,M,H,R,φ⟩ (fun x : Unit=>.bool r) (fun x=>True) (fun x=>⟨w0,M,H,R,φ⟩):=by
 unfold m_conf_Check_c1 at hm
 refine cn_intro (fn:=Tryz.f84) (N:=6) Tryz.func84 rfl Tryz.ntmps84 rfl<|c_seq<|c_region<|g_v rfl r_assign<|g_nil<|d_then<|c_seq<|c_region<|g_v rfl r_move ?_
 replace hm:=bnd hm
 obtain ⟨x1,hx2,hm⟩:=hm
 refine g_cn ⟨w0,M,_,_,φ⟩ (fun _ h=>h) Tryz.call49 rfl rfl (c_conf_hint p0 _ hx2) (fun _ _=>?_)
 refine g_v rfl (r_not rfl)<|g_v rfl r_assign<|g_nil<|d_then<|c_ret ?_
 cases hm
 exact d_retC () Tryz.results84 (res_tmp (res_nil rfl)) trivial (fun W h=>ok_pre (H1:=[]) (R1:=[]) h (fun W hφ=>hφ)) (.inr rfl)
noncomputable def m_slices_IndexFunc_97_2_j1  : Option Int:=
  some (-1)
noncomputable def m_slices_IndexFunc_97_2_s2 (p0 : List ByteArray) (i30 : Int) : Option (Int ⊕ (Unit ⊕ Int)):=
  if i30 < (p0.length : Int) then
    (at_ p0 i30).bind fun x42=>
    (m_conf_Check_c1 x42).bind fun x46=>
    if x46 = true then
      some (.inr (.inr i30))
    else
      some (.inl (w64 (i30 + 1)))
  else
    some (.inr (.inl ()))
noncomputable def m_slices_IndexFunc_97_2 (p0 : List ByteArray) : Option Int:=
  (loop (fun s=>m_slices_IndexFunc_97_2_s2 p0 s) 0).bind fun e=>Sum.elim (fun e=>m_slices_IndexFunc_97_2_j1) (fun x=>some x) e
theorem c_slices_IndexFunc_97_2 {w0 : World} {M : Nat→Prop} {H : List (Nat×Nat×Obj)} {R : List (Nat×Row)} {φ : World→Prop} (p0 : List ByteArray) (Ap0_0 : Option Addr) (cp0_0 : Nat) (hcp0_0 : p0.length ≤ cp0_0) (fp0_0 : ∀ W,(Sta.mk w0 M H R φ).ok W→Cl W Ap0_0 (p0.flatMap (fun x : ByteArray=>[Value.string x]))) (r : Int) (hm : m_slices_IndexFunc_97_2 p0 = some r) :
    Cn Tryz.prog 97 #[.slice Ap0_0 p0.length cp0_0,.func (.func 84) #[] #[]] ⟨w0,M,H,R,φ⟩ (fun x : Unit=>Vi r) (fun x=>True) (fun x=>⟨w0,M,H,R,φ⟩):=by
 unfold m_slices_IndexFunc_97_2 at hm
 refine cn_intro (fn:=Tryz.f97) (N:=19) Tryz.func97 rfl Tryz.ntmps97 rfl<|c_seq<|c_region<|g_v rfl r_assign<|g_nil<|d_then<|c_seq<|c_seq<|c_region<|g_v rfl r_move ?_
 refine g_v rfl (r_lenL Tryz.underlying26 rfl)<|g_v rfl r_move<|g_nil<|d_then ?_
 refine c_cut (ι:=Unit) [] (fun _=>[]) (fun _=>⟨w0,M,H,R,φ⟩) (fun _=>m_slices_IndexFunc_97_2_j1 = some r) ?_ (fun _ u hm=>?_)
 ·
  refine c_block ?_
  replace hm:=bnd hm
  obtain ⟨out2,hl2,hr2⟩:=hm
  obtain ⟨n40',hl2⟩:=loop_lp hl2
  refine c_loopU (ι:=Nat×Int) [0,1,7,8] (fun ⟨n40,i30⟩=>[(8,Vi i30)]) (fun ⟨n40,i30⟩=>⟨w0,M,H,R,φ⟩) (fun ⟨n40,i30⟩=>Lp (fun s=>m_slices_IndexFunc_97_2_s2 p0 s) n40 i30 out2) (fun ⟨n40,i30⟩=>n40) (n40',0) hl2 ⟨rfl,rfl,rfl,rfl,trivial⟩ (fun W h=>h.phi (fun W hφ=>hφ)) (fun ⟨n40,i30⟩ u hlp=>?_)
  obtain ⟨o2,hm,hnx2⟩:=lp_step hlp
  clear hlp
  replace hm : m_slices_IndexFunc_97_2_s2 p0 i30 = some o2:=hm
  unfold m_slices_IndexFunc_97_2_s2 at hm
  refine c_flat [(0,.slice Ap0_0 p0.length cp0_0),(1,.func (.func 84) #[] #[]),(7,Vi (p0.length : Int)),(8,Vi i30)] ⟨rfl,rfl,rfl,rfl,trivial⟩ (fun u=>?_)
  refine c_sta ⟨w0,M,H,R,φ⟩ (fun _ h=>h)<|c_seq<|c_region<|g_v rfl (r_lss rfl rfl)<|g_nil<|d_then<|c_seq ?_
  refine c_cond rfl (fun h41=>?_) (fun h41=>?_)
  ·
   replace hm:=ite_t hm (of_decide_eq_true h41)
   refine c_skip<|d_then<|c_seq<|c_block<|c_seq<|c_region<|g_v rfl r_move<|g_v rfl r_assign<|g_nil<|d_then ?_
   refine c_seq<|c_region ?_
   iterate 3 refine g_v rfl r_move ?_
   replace hm:=bnd hm
   obtain ⟨x42,hx42,hm⟩:=hm
   refine g_know _ (fun W hS=>cl_at (p:=(Sta.mk w0 M H R φ).ok) (sz:=1) (fun _=>rfl) (by decide) (ok_pre (H1:=[]) (R1:=[]) hS (fun W h=>h)) fp0_0 hx42) ?_
   rintro ⟨ad43,hA45,f44⟩
   refine g_v rfl (r_ix Tryz.underlying26 Tryz.sizeOf9 rfl hA45 rfl hx42)<|g_v rfl (r_ld rfl Tryz.isAgg9 (fun W hS=>Cl.head (f44 W (ok_pre (H1:=[]) (R1:=[]) hS (fun W h=>h))))) ?_
   replace hm:=bnd hm
   obtain ⟨x46,hx47,hm⟩:=hm
   refine g_cnv ⟨w0,M,_,_,φ⟩ (fun _ h=>h) Tryz.call84 rfl rfl rfl (c_conf_Check_c1 x42 _ hx47) (fun _ _=>?_)
   refine g_nil<|d_then ?_
   refine c_flat [(0,.slice Ap0_0 p0.length cp0_0),(1,.func (.func 84) #[] #[]),(5,Vi i30),(7,Vi (p0.length : Int)),(8,Vi i30),(16,.bool x46)] ⟨rfl,rfl,rfl,rfl,rfl,rfl,trivial⟩ (fun u=>?_)
   refine c_cond rfl (fun h48=>?_) (fun h48=>?_)
   ·
    replace hm:=ite_t hm h48
    refine c_seq<|c_region<|g_v rfl r_move<|g_v rfl r_assign<|g_nil<|d_then<|c_ret<|d_ret_block<|d_ret_then<|d_ret_then ?_
    refine d_ret_block<|d_ret_then<|d_ret_then ?_
    replace hm:=nx_out (C:=(fun e : Unit ⊕ Int=>Sum.elim (fun e=>m_slices_IndexFunc_97_2_j1) (fun x=>some x) e = some r)) hm hnx2 hr2
    replace hm : some i30 = some r:=hm
    cases hm
    exact d_retC () Tryz.results97 (res_tmp (res_nil rfl)) trivial (fun W h=>ok_pre (H1:=[]) (R1:=[]) h (fun W hφ=>hφ)) (.inr rfl)
   replace hm:=ite_f hm (bool_nt h48)
   refine c_skip<|d_normal_block<|d_then<|c_region<|g_v rfl (r_add rfl rfl rfl)<|g_v rfl r_move<|g_nil ?_
   obtain ⟨n49,hn49,hlp⟩:=nx_inl hm hnx2
   exact d_round (n49,w64 (i30 + 1)) hlp hn49 ⟨rfl,rfl,rfl,rfl,trivial⟩ (fun W h=>h.phi (fun W hφ=>hφ))
  replace hm:=ite_f hm (of_decide_eq_false h41)
  refine c_exit<|d_exit_then<|d_exit_then<|d_exit_block ?_
  replace hm:=nx_out (C:=(fun e : Unit ⊕ Int=>Sum.elim (fun e=>m_slices_IndexFunc_97_2_j1) (fun x=>some x) e = some r)) hm hnx2 hr2
  exact d_round () hm Nat.zero_lt_one trivial (fun W h=>h.phi (fun W hφ=>hφ))
 unfold m_slices_IndexFunc_97_2_j1 at hm
 refine d_flat [] trivial (fun u=>?_)
 refine d_sta ⟨w0,M,H,R,φ⟩ (fun _ h=>h)<|d_then<|c_seq<|c_region<|g_v rfl r_assign<|g_nil<|d_then<|c_ret ?_
 cases hm
 exact d_retC () Tryz.results97 (res_tmp (res_nil rfl)) trivial (fun W h=>ok_pre (H1:=[]) (R1:=[]) h (fun W hφ=>hφ)) (.inr rfl)
noncomputable def m_slices_ContainsFunc_47_2 (p0 : List ByteArray) : Option Bool:=
  (m_slices_IndexFunc_97_2 p0).bind fun x1=>
  some (decide (0 ≤ x1))
theorem c_slices_ContainsFunc_47_2 {w0 : World} {M : Nat→Prop} {H : List (Nat×Nat×Obj)} {R : List (Nat×Row)} {φ : World→Prop} (p0 : List ByteArray) (Ap0_0 : Option Addr) (cp0_0 : Nat) (hcp0_0 : p0.length ≤ cp0_0) (fp0_0 : ∀ W,(Sta.mk w0 M H R φ).ok W→Cl W Ap0_0 (p0.flatMap (fun x : ByteArray=>[Value.string x]))) (r : Bool) (hm : m_slices_ContainsFunc_47_2 p0 = some r) :
    Cn Tryz.prog 47 #[.slice Ap0_0 p0.length cp0_0,.func (.func 84) #[] #[]] ⟨w0,M,H,R,φ⟩ (fun x : Unit=>.bool r) (fun x=>True) (fun x=>⟨w0,M,H,R,φ⟩):=by
 unfold m_slices_ContainsFunc_47_2 at hm
 refine cn_intro (fn:=Tryz.f47) (N:=9) Tryz.func47 rfl Tryz.ntmps47 rfl<|c_seq<|c_region<|g_v rfl r_assign<|g_nil<|d_then<|c_seq<|c_region<|g_v rfl r_move<|g_v rfl r_move ?_
 replace hm:=bnd hm
 obtain ⟨x1,hx2,hm⟩:=hm
 refine g_cn ⟨w0,M,_,_,φ⟩ (fun _ h=>h) Tryz.call97 rfl rfl (c_slices_IndexFunc_97_2 p0 Ap0_0 cp0_0 hcp0_0 (fun W hS=>fp0_0 W (ok_pre (H1:=[]) (R1:=[]) hS (fun W h=>h))) _ hx2) (fun _ _=>?_)
 refine g_v rfl (r_geq rfl rfl)<|g_v rfl r_assign<|g_nil<|d_then<|c_ret ?_
 cases hm
 exact d_retC () Tryz.results47 (res_tmp (res_nil rfl)) trivial (fun W h=>ok_pre (H1:=[]) (R1:=[]) h (fun W hφ=>hφ)) (.inr rfl)
theorem lit9_2 (z0 : ByteArray) : Tryz.prog.builtSlice 9 1 [(0,Vs z0)] = some #[Vs z0]:=by kernel_rfl
theorem inf9_3  : (Tryz.prog.info? 9).map (fun i=>(i.zero,i.size,i.bytes)) = some (some (Ve),1,16):=by kernel_rfl
noncomputable def m_name_Labels (p0 : ByteArray) : Option ((List ByteArray)×Int):=
  (eachM p0).bind fun _=>
  if (eachP p0).2 ≠ w64 ((p0.size : Int) - 1) then
    some (([] : List ByteArray),10)
  else
    if (eachP p0).2 < 0 then
      some (([] : List ByteArray),10)
    else
      if 255 < (p0.size : Int) then
        some (([] : List ByteArray),11)
      else
        some (((eachP p0).1.map Prod.snd),0)
theorem c_name_Labels {w0 : World} {M : Nat→Prop} {H : List (Nat×Nat×Obj)} {R : List (Nat×Row)} {φ : World→Prop} (p0 : ByteArray) (r : (List ByteArray)×Int) (hm : m_name_Labels p0 = some r) :
    Cn Tryz.prog 103 #[Vs p0] ⟨w0,M,H,R,φ⟩ (fun x : Option Addr×Nat=>.tuple #[.slice x.1 r.1.length x.2,Vi r.2]) (fun x=>r.1.length ≤ x.2) (fun x=>⟨w0,M,H,(2000,⟨.slice x.1 r.1.length x.2,9,1,r.1.length,r.1.flatMap (fun x : ByteArray=>[Value.string x])⟩)::R,φ⟩):=by
 unfold m_name_Labels at hm
 refine cn_introM (fn:=Tryz.f103) (N:=31) Tryz.func103 rfl Tryz.ntmps103 rfl<|c_seq<|c_region<|g_v rfl r_assign<|g_v rfl r_assign<|g_nil<|d_then<|c_seq<|c_region ?_
 refine g_e rfl (e_alloc 100040 Tryz.zeroValue26) (fun g1 _=>?_)
 refine g_nil<|d_then<|c_seq<|c_region ?_
 refine g_e rfl (e_alloc 100050 Tryz.zeroValue3) (fun g2 _=>?_)
 refine g_storeL (tag:=100050) rfl rfl rfl rfl Tryz.sizeOf3 rfl rfl<|g_nil<|d_then<|c_seq<|c_seq<|c_region<|g_v rfl r_move ?_
 refine g_cn ⟨w0,M,_,_,φ⟩ (fun _ h=>h) Tryz.call121 rfl rfl (c_each p0 g2) (fun ⟨g3,g4⟩ _=>?_)
 refine g_sta _ (fun W h=>ok_front (t:=3000) (t':=100095) (ok_front (t:=3001) (t':=100096) h rfl) rfl)<|g_nil<|d_then<|c_block<|c_sta _ (fun W h=>nilR (ok_front (t:=100050) (t':=0) (ok_front (t:=100095) (t':=1) (ok_front (t:=100096) (t':=2) (ok_front (t:=100040) (t':=3) h rfl) rfl) rfl) rfl) 4 9 1) ?_
 replace hm:=bnd hm
 obtain ⟨_,hz8,hm⟩:=hm
 replace hz8:=(eachM_some hz8).1
 refine c_collect Prod.snd (fun x : ByteArray=>Value.string x) rfl rfl hz8 (.inl rfl) (.inl ⟨rfl,fun _=>rfl⟩) Tryz.underlying26 inf9_3 rfl (by decide) (by decide) (fun _=>lit9_2 _) (fun _=>rfl) Tryz.sizeOf26 Tryz.isAgg26 rfl rfl rfl (fun A6 c7 g5 hc7=>?_)
 refine d_sta _ (fun W h=>(ok_front (t:=0) (t':=100050) (ok_front (t:=1) (t':=100095) (ok_front (t:=2) (t':=100096) (ok_front (t:=3) (t':=100040) h rfl) rfl) rfl) rfl))<|d_normal_block<|d_then<|c_seq<|c_block<|c_seq<|c_region<|g_v rfl (r_load (tag:=100050) rfl rfl rfl Tryz.isAgg3)<|g_v rfl r_move<|g_v rfl (r_len Tryz.underlying9 rfl) ?_
 refine g_v rfl (r_sub rfl rfl rfl)<|g_v rfl (r_neq rfl rfl)<|g_v rfl r_move<|g_sta ⟨w0,M,(100050,g2,.cells #[Vi ((eachP p0).2)] 3 (0,0))::(100095,g3,.cells #[Vp g2] 144 (0,0))::(100096,g4,.cells #[Vs p0] 9 (0,0))::(100040,g1,.cells #[.slice A6 ((eachP p0).1.map Prod.snd).length c7] 26 (0,0))::(5,g5,.deferred (some []))::H,(4,⟨.slice A6 ((eachP p0).1.map Prod.snd).length c7,9,1,((eachP p0).1.map Prod.snd).length,((eachP p0).1.map Prod.snd).flatMap (fun x : ByteArray=>[Value.string x])⟩)::R,φ⟩ (fun _ h=>h) ?_
 refine g_if rfl rfl rfl rfl rfl (fun h9=>?_) (fun h9=>?_)
 ·
  replace hm:=ite_f hm (of_decide_eq_false h9)
  refine g_v rfl (r_load (tag:=100050) rfl rfl rfl Tryz.isAgg3)<|g_do rfl rfl rfl rfl rfl h9<|g_v rfl (r_lss rfl rfl)<|g_v rfl (r_pick0 rfl h9)<|g_v rfl r_assign<|g_nil<|d_then ?_
  refine c_flat [(0,Vs p0),(4,Vp g1),(16,.bool (decide ((eachP p0).2 < 0)))] ⟨rfl,rfl,rfl,trivial⟩ (fun u=>?_)
  refine c_cond rfl (fun h10=>?_) (fun h10=>?_)
  ·
   replace hm:=ite_t hm (of_decide_eq_true h10)
   refine c_seq<|c_region<|g_v rfl r_assign<|g_v rfl r_assign<|g_nil<|d_then<|c_ret<|d_ret_block<|d_ret_then ?_
   cases hm
   refine d_sta _ (fun W h=>nilR h 11 9 1)<|d_sta _ (fun W h=>ok_frontR (t:=11) (t':=2000) h rfl) ?_
   exact d_retM (tD:=5) (none,0) Tryz.results103 (res_tmp (res_tmp (res_nil rfl))) (Nat.le_refl 0) rfl (by simp) (fun W h=>(((((h.dropR (t:=4) rfl).dropH (t:=100050) rfl).dropH (t:=100095) rfl).dropH (t:=100096) rfl).dropH (t:=100040) rfl).phi (fun W hφ=>hφ)) (.inr rfl)
  replace hm:=ite_f hm (of_decide_eq_false h10)
  refine c_seq<|c_region<|g_v rfl r_move<|g_v rfl (r_len Tryz.underlying9 rfl)<|g_v rfl (r_gtr rfl rfl)<|g_v rfl r_assign<|g_nil<|d_then ?_
  refine c_cond rfl (fun h11=>?_) (fun h11=>?_)
  ·
   replace hm:=ite_t hm (of_decide_eq_true h11)
   refine c_seq<|c_region<|g_v rfl r_assign<|g_v rfl r_assign<|g_nil<|d_then<|c_ret<|d_ret_block<|d_ret_then ?_
   cases hm
   refine d_sta _ (fun W h=>nilR h 12 9 1)<|d_sta _ (fun W h=>ok_frontR (t:=12) (t':=2000) h rfl) ?_
   exact d_retM (tD:=5) (none,0) Tryz.results103 (res_tmp (res_tmp (res_nil rfl))) (Nat.le_refl 0) rfl (by simp) (fun W h=>(((((h.dropR (t:=4) rfl).dropH (t:=100050) rfl).dropH (t:=100095) rfl).dropH (t:=100096) rfl).dropH (t:=100040) rfl).phi (fun W hφ=>hφ)) (.inr rfl)
  replace hm:=ite_f hm (of_decide_eq_false h11)
  refine c_skip<|d_normal_block<|d_then<|c_seq<|c_region<|g_v rfl (r_load (tag:=100040) rfl rfl rfl Tryz.isAgg26)<|g_v rfl r_assign<|g_v rfl r_assign<|g_nil<|d_then ?_
  refine c_ret ?_
  cases hm
  refine d_sta _ (fun W h=>ok_frontR (t:=4) (t':=2000) h rfl) ?_
  exact d_retM (tD:=5) (A6,c7) Tryz.results103 (res_tmp (res_tmp (res_nil rfl))) hc7 rfl (by simp) (fun W h=>((((h.dropH (t:=100050) rfl).dropH (t:=100095) rfl).dropH (t:=100096) rfl).dropH (t:=100040) rfl).phi (fun W hφ=>hφ)) (.inr rfl)
 replace hm:=ite_t hm (of_decide_eq_true h9)
 refine g_no rfl rfl rfl rfl rfl h9<|g_v rfl (r_pick1 rfl h9)<|g_v rfl r_assign<|g_nil<|d_then ?_
 refine c_flat [(0,Vs p0),(4,Vp g1),(16,.bool true)] ⟨rfl,rfl,rfl,trivial⟩ (fun u=>?_)
 refine c_cond1 rfl rfl<|c_seq<|c_region<|g_v rfl r_assign<|g_v rfl r_assign<|g_nil<|d_then<|c_ret<|d_ret_block<|d_ret_then ?_
 cases hm
 refine d_sta _ (fun W h=>nilR h 13 9 1)<|d_sta _ (fun W h=>ok_frontR (t:=13) (t':=2000) h rfl) ?_
 exact d_retM (tD:=5) (none,0) Tryz.results103 (res_tmp (res_tmp (res_nil rfl))) (Nat.le_refl 0) rfl (by simp) (fun W h=>(((((h.dropR (t:=4) rfl).dropH (t:=100050) rfl).dropH (t:=100095) rfl).dropH (t:=100096) rfl).dropH (t:=100040) rfl).phi (fun W hφ=>hφ)) (.inr rfl)
noncomputable def m_name_Check (p0 : ByteArray) : Option Int:=
  (m_name_Labels p0).bind fun (z7 : (List ByteArray)×Int)=>
  some z7.2
theorem c_name_Check {w0 : World} {M : Nat→Prop} {H : List (Nat×Nat×Obj)} {R : List (Nat×Row)} {φ : World→Prop} (p0 : ByteArray) (r : Int) (hm : m_name_Check p0 = some r) :
    Cn Tryz.prog 90 #[Vs p0] ⟨w0,M,H,R,φ⟩ (fun x : Unit=>Vi r) (fun x=>True) (fun x=>⟨w0,M,H,R,φ⟩):=by
 unfold m_name_Check at hm
 refine cn_intro (fn:=Tryz.f90) (N:=11) Tryz.func90 rfl Tryz.ntmps90 rfl<|c_seq<|c_region<|g_v rfl r_assign<|g_nil<|d_then<|c_seq<|c_region<|g_v rfl r_move ?_
 replace hm:=bnd hm
 obtain ⟨⟨x1,x2⟩,hx3,hm⟩:=hm
 refine g_cn ⟨w0,M,_,_,φ⟩ (fun _ h=>h) Tryz.call103 rfl rfl (c_name_Labels p0 _ hx3) (fun ⟨A4,c5⟩ hc5=>?_)
 refine g_sta _ (fun W h=>(ok_frontR (t:=2000) (t':=100070) h rfl))<|g_v rfl r_move<|g_v rfl (r_extract rfl rfl)<|g_v rfl (r_extract rfl rfl)<|g_v rfl r_assign<|g_v rfl r_assign<|g_nil<|d_then<|c_seq<|c_region ?_
 refine g_v rfl r_move<|g_v rfl r_assign<|g_nil<|d_then ?_
 refine c_flat [(2,Vi x2)] ⟨rfl,trivial⟩ (fun u=>?_)
 refine c_sta ⟨w0,M,H,(100070,⟨.slice A4 x1.length c5,9,1,x1.length,x1.flatMap (fun x : ByteArray=>[Value.string x])⟩)::R,φ⟩ (fun _ h=>h)<|c_ret ?_
 cases hm
 exact d_retC () Tryz.results90 (res_tmp (res_nil rfl)) trivial (fun W h=>ok_pre (H1:=[]) (R1:=[_]) h (fun W hφ=>hφ)) (.inr rfl)
noncomputable def m_conf_named (p0 : ByteArray) : Option Bool:=
  (m_name_Check p0).bind fun x1=>
  some (decide (x1 = 0))
theorem c_conf_named {w0 : World} {M : Nat→Prop} {H : List (Nat×Nat×Obj)} {R : List (Nat×Row)} {φ : World→Prop} (p0 : ByteArray) (r : Bool) (hm : m_conf_named p0 = some r) :
    Cn Tryz.prog 53 #[Vs p0] ⟨w0,M,H,R,φ⟩ (fun x : Unit=>.bool r) (fun x=>True) (fun x=>⟨w0,M,H,R,φ⟩):=by
 unfold m_conf_named at hm
 refine cn_intro (fn:=Tryz.f53) (N:=6) Tryz.func53 rfl Tryz.ntmps53 rfl<|c_seq<|c_region<|g_v rfl r_assign<|g_nil<|d_then<|c_seq<|c_region<|g_v rfl r_move ?_
 replace hm:=bnd hm
 obtain ⟨x1,hx2,hm⟩:=hm
 refine g_cn ⟨w0,M,_,_,φ⟩ (fun _ h=>h) Tryz.call90 rfl rfl (c_name_Check p0 _ hx2) (fun _ _=>?_)
 refine g_v rfl (r_eql rfl rfl)<|g_v rfl r_assign<|g_nil<|d_then<|c_ret ?_
 cases hm
 exact d_retC () Tryz.results53 (res_tmp (res_nil rfl)) trivial (fun W h=>ok_pre (H1:=[]) (R1:=[]) h (fun W hφ=>hφ)) (.inr rfl)
theorem lit9_4 (z0 : ByteArray) (z1 : ByteArray) : Tryz.prog.builtSlice 9 2 [(0,Vs z0),(1,Vs z1)] = some #[Vs z0,Vs z1]:=by kernel_rfl
noncomputable def m_conf_Check_j2  (b41 : Bool) : Option Int:=
  if b41 = true then
    some 0
  else
    some 1
noncomputable def m_conf_Check_j3 (p0 : GOrder) (b3 : Bool) (b44 : Bool) : Option Int:=
  if b44 = true then
    (m_conf_node p0.fNode).bind fun x46=>
    if x46 = true then
      (m_conf_none [p0.fName,p0.fText,p0.fZone]).bind fun x50=>
      if x50 = true then
        m_conf_Check_j2 (decide ((p0.fHints.length : Int) = 0))
      else
        m_conf_Check_j2 false
    else
      m_conf_Check_j2 false
  else
    if p0.fKind = 3 then
      if p0.fNode = 0 then
        (m_conf_none [p0.fName,p0.fText,p0.fZone]).bind fun x56=>
        if x56 = true then
          if 0 < (p0.fHints.length : Int) then
            if (p0.fHints.length : Int) ≤ 13 then
              (m_slices_ContainsFunc_47_2 p0.fHints).bind fun x61=>
              m_conf_Check_j2 (!x61)
            else
              m_conf_Check_j2 false
          else
            m_conf_Check_j2 false
        else
          m_conf_Check_j2 false
      else
        m_conf_Check_j2 false
    else
      if p0.fKind = 4 then
        if b3 = true then
          (m_conf_named p0.fName).bind fun x65=>
          if x65 = true then
            if (p0.fText.size : Int) ≤ 200 then
              (m_conf_none [p0.fZone]).bind fun x70=>
              m_conf_Check_j2 x70
            else
              m_conf_Check_j2 false
          else
            m_conf_Check_j2 false
        else
          m_conf_Check_j2 false
      else
        if p0.fKind = 5 then
          if b3 = true then
            (m_conf_named p0.fZone).bind fun x74=>
            if x74 = true then
              (m_conf_none [p0.fName,p0.fText]).bind fun x78=>
              m_conf_Check_j2 x78
            else
              m_conf_Check_j2 false
          else
            m_conf_Check_j2 false
        else
          m_conf_Check_j2 false
noncomputable def m_conf_Check_j1 (p0 : GOrder) (b3 : Bool) : Option Int:=
  if p0.fKind = 1 then
    m_conf_Check_j3 p0 b3 (decide (p0.fKind = 1))
  else
    m_conf_Check_j3 p0 b3 (decide (p0.fKind = 2))
noncomputable def m_conf_Check (p0 : GOrder) : Option Int:=
  if p0.fNode = 0 then
    m_conf_Check_j1 p0 (decide ((p0.fHints.length : Int) = 0))
  else
    m_conf_Check_j1 p0 false
theorem c_conf_Check {w0 : World} {M : Nat→Prop} {H : List (Nat×Nat×Obj)} {R : List (Nat×Row)} {φ : World→Prop} (p0 : GOrder) (Ap0_0 : Option Addr) (cp0_0 : Nat) (hcp0_0 : p0.fHints.length ≤ cp0_0) (fp0_0 : ∀ W,(Sta.mk w0 M H R φ).ok W→Cl W Ap0_0 (p0.fHints.flatMap (fun x : ByteArray=>[Value.string x]))) (r : Int) (hm : m_conf_Check p0 = some r) :
    Cn Tryz.prog 23 #[.agg #[Vi p0.fKind,Vi p0.fNode,Vs p0.fName,Vs p0.fText,Vs p0.fZone,.slice Ap0_0 p0.fHints.length cp0_0]] ⟨w0,M,H,R,φ⟩ (fun x : Unit=>Vi r) (fun x=>True) (fun x=>⟨w0,M,H,R,φ⟩):=by
 unfold m_conf_Check at hm
 refine cn_intro (fn:=Tryz.f23) (N:=109) Tryz.func23 rfl Tryz.ntmps23 rfl<|c_seq<|c_region ?_
 refine g_e rfl (e_box 100010 rfl) (fun g1 _=>?_)
 refine g_v rfl r_assign<|g_nil<|d_then<|c_seq<|c_region<|g_v rfl r_assign<|g_nil<|d_then<|c_seq ?_
 refine c_cut (ι:=Bool) [1,3,4] (fun b3=>[(4,.bool b3)]) (fun b3=>⟨w0,M,(100010,g1,.cells #[Vi p0.fKind,Vi p0.fNode,Vs p0.fName,Vs p0.fText,Vs p0.fZone,.slice Ap0_0 p0.fHints.length cp0_0] 32 (0,0))::H,R,φ⟩) (fun b3=>m_conf_Check_j1 p0 b3 = some r) ?_ (fun b3 u hm=>?_)
 ·
  refine c_region<|g_v rfl (r_field (n:=1) Tryz.underlying32 rfl Tryz.sizeOf3 rfl rfl)<|g_v rfl (r_load (tag:=100010) rfl rfl rfl Tryz.isAgg3)<|g_v rfl (r_eql rfl rfl)<|g_v rfl r_move<|g_sta ⟨w0,M,(100010,g1,.cells #[Vi p0.fKind,Vi p0.fNode,Vs p0.fName,Vs p0.fText,Vs p0.fZone,.slice Ap0_0 p0.fHints.length cp0_0] 32 (0,0))::H,R,φ⟩ (fun _ h=>h) ?_
  refine g_if rfl rfl rfl rfl rfl (fun h81=>?_) (fun h81=>?_)
  ·
   replace hm:=ite_t hm (of_decide_eq_true h81)
   refine g_v rfl (r_field (n:=5) Tryz.underlying32 rfl Tryz.sizeOf26 rfl rfl)<|g_do rfl rfl rfl rfl rfl h81<|g_v rfl (r_load (tag:=100010) rfl rfl rfl Tryz.isAgg26)<|g_do rfl rfl rfl rfl rfl h81<|g_v rfl (r_lenL Tryz.underlying26 rfl)<|g_do rfl rfl rfl rfl rfl h81<|g_v rfl (r_eql rfl rfl)<|g_v rfl (r_pick1 rfl h81)<|g_v rfl r_assign<|g_nil ?_
   exact d_round (decide ((p0.fHints.length : Int) = 0)) hm Nat.zero_lt_one ⟨rfl,rfl,rfl,trivial⟩ (fun W h=>h.phi (fun W hφ=>hφ))
  replace hm:=ite_f hm (of_decide_eq_false h81)
  iterate 3 refine g_no rfl rfl rfl rfl rfl h81 ?_
  refine g_v rfl (r_pick0 rfl h81)<|g_v rfl r_assign<|g_nil ?_
  exact d_round false hm Nat.zero_lt_one ⟨rfl,rfl,rfl,trivial⟩ (fun W h=>h.phi (fun W hφ=>hφ))
 unfold m_conf_Check_j1 at hm
 refine d_flat [(1,Vp g1),(3,.bool false),(4,.bool b3)] ⟨rfl,rfl,rfl,trivial⟩ (fun u=>?_)
 refine d_sta ⟨w0,M,(100010,g1,.cells #[Vi p0.fKind,Vi p0.fNode,Vs p0.fName,Vs p0.fText,Vs p0.fZone,.slice Ap0_0 p0.fHints.length cp0_0] 32 (0,0))::H,R,φ⟩ (fun _ h=>h)<|d_then<|c_seq ?_
 refine c_cut (ι:=Bool) [3] (fun b41=>[(3,.bool b41)]) (fun b41=>⟨w0,M,H,R,φ⟩) (fun b41=>m_conf_Check_j2 b41 = some r) ?_ (fun b41 u hm=>?_)
 ·
  refine c_seq<|c_region<|g_v rfl (r_field (n:=0) Tryz.underlying32 rfl Tryz.sizeOf3 rfl rfl)<|g_v rfl (r_load (tag:=100010) rfl rfl rfl Tryz.isAgg3)<|g_nil<|d_then<|c_block<|c_seq ?_
  refine c_cut (ι:=Bool) [1,3,4,15,16] (fun b44=>[(16,.bool b44)]) (fun b44=>⟨w0,M,(100010,g1,.cells #[Vi p0.fKind,Vi p0.fNode,Vs p0.fName,Vs p0.fText,Vs p0.fZone,.slice Ap0_0 p0.fHints.length cp0_0] 32 (0,0))::H,R,φ⟩) (fun b44=>m_conf_Check_j3 p0 b3 b44 = some r) ?_ (fun b44 u hm=>?_)
  ·
   refine c_seq<|c_region<|g_v rfl (r_eql rfl rfl)<|g_v rfl r_assign<|g_nil<|d_then ?_
   refine c_cond rfl (fun h80=>?_) (fun h80=>?_)
   ·
    replace hm:=ite_t hm (of_decide_eq_true h80)
    refine c_skip ?_
    exact d_round (decide (p0.fKind = 1)) hm Nat.zero_lt_one ⟨rfl,rfl,rfl,rfl,rfl,trivial⟩ (fun W h=>h.phi (fun W hφ=>hφ))
   replace hm:=ite_f hm (of_decide_eq_false h80)
   refine c_region<|g_v rfl (r_eql rfl rfl)<|g_v rfl r_assign<|g_nil ?_
   exact d_round (decide (p0.fKind = 2)) hm Nat.zero_lt_one ⟨rfl,rfl,rfl,rfl,rfl,trivial⟩ (fun W h=>h.phi (fun W hφ=>hφ))
  unfold m_conf_Check_j3 at hm
  refine d_flat [(1,Vp g1),(3,.bool false),(4,.bool b3),(15,Vi p0.fKind),(16,.bool b44)] ⟨rfl,rfl,rfl,rfl,rfl,trivial⟩ (fun u=>?_)
  refine d_then ?_
  refine c_cond rfl (fun h45=>?_) (fun h45=>?_)
  ·
   replace hm:=ite_t hm h45
   refine c_region<|g_v rfl (r_field (n:=1) Tryz.underlying32 rfl Tryz.sizeOf3 rfl rfl)<|g_v rfl (r_load (tag:=100010) rfl rfl rfl Tryz.isAgg3) ?_
   replace hm:=bnd hm
   obtain ⟨x46,hx47,hm⟩:=hm
   refine g_cn ⟨w0,M,_,_,φ⟩ (fun _ h=>h) Tryz.call46 rfl rfl (c_conf_node p0.fNode _ hx47) (fun _ _=>?_)
   refine g_v rfl r_move ?_
   refine g_if rfl rfl rfl rfl rfl (fun h48=>?_) (fun h48=>?_)
   ·
    replace hm:=ite_t hm h48
    refine g_v rfl (r_field (n:=2) Tryz.underlying32 rfl Tryz.sizeOf9 rfl rfl)<|g_do rfl rfl rfl rfl rfl h48<|g_v rfl (r_load (tag:=100010) rfl rfl rfl Tryz.isAgg9)<|g_do rfl rfl rfl rfl rfl h48<|g_v rfl (r_field (n:=3) Tryz.underlying32 rfl Tryz.sizeOf9 rfl rfl)<|g_do rfl rfl rfl rfl rfl h48<|g_v rfl (r_load (tag:=100010) rfl rfl rfl Tryz.isAgg9)<|g_do rfl rfl rfl rfl rfl h48<|g_v rfl (r_field (n:=4) Tryz.underlying32 rfl Tryz.sizeOf9 rfl rfl)<|g_do rfl rfl rfl rfl rfl h48 ?_
    refine g_v rfl (r_load (tag:=100010) rfl rfl rfl Tryz.isAgg9)<|g_do rfl rfl rfl rfl rfl h48 ?_
    refine g_e rfl (e_lit (tag:=100290) (l:=[p0.fName,p0.fText,p0.fZone]) (enc:=(fun x : ByteArray=>[Value.string x])) (sz:=1) rfl Tryz.underlying26 (lit9_1 _ _ _) rfl rfl (fun _=>rfl)) (fun g49 _=>?_)
    refine g_do rfl rfl rfl rfl rfl h48 ?_
    replace hm:=bnd hm
    obtain ⟨x50,hx51,hm⟩:=hm
    refine g_cn ⟨w0,M,_,_,φ⟩ (fun _ h=>h) Tryz.call83 rfl rfl (c_conf_none [p0.fName,p0.fText,p0.fZone] (some ⟨g49,0,none⟩) 3 (Nat.le_refl _) (fun W hS=>rowCl (tag:=100290) rfl W hS) _ hx51) (fun _ _=>?_)
    refine g_v rfl (r_pick1 rfl h48)<|g_v rfl r_move<|g_sta ⟨w0,M,(100010,g1,.cells #[Vi p0.fKind,Vi p0.fNode,Vs p0.fName,Vs p0.fText,Vs p0.fZone,.slice Ap0_0 p0.fHints.length cp0_0] 32 (0,0))::H,(100290,⟨.slice (some ⟨g49,0,none⟩) [p0.fName,p0.fText,p0.fZone].length 3,9,1,[p0.fName,p0.fText,p0.fZone].length,[p0.fName,p0.fText,p0.fZone].flatMap (fun x : ByteArray=>[Value.string x])⟩)::R,φ⟩ (fun _ h=>h) ?_
    refine g_if rfl rfl rfl rfl rfl (fun h52=>?_) (fun h52=>?_)
    ·
     replace hm:=ite_t hm h52
     refine g_v rfl (r_field (n:=5) Tryz.underlying32 rfl Tryz.sizeOf26 rfl rfl)<|g_do rfl rfl rfl rfl rfl h52<|g_v rfl (r_load (tag:=100010) rfl rfl rfl Tryz.isAgg26)<|g_do rfl rfl rfl rfl rfl h52<|g_v rfl (r_lenL Tryz.underlying26 rfl)<|g_do rfl rfl rfl rfl rfl h52<|g_v rfl (r_eql rfl rfl)<|g_v rfl (r_pick1 rfl h52)<|g_v rfl r_assign<|g_nil ?_
     refine d_normal_block ?_
     exact d_round (decide ((p0.fHints.length : Int) = 0)) hm Nat.zero_lt_one ⟨rfl,trivial⟩ (fun W h=>((h.dropR (t:=100290) rfl).dropH (t:=100010) rfl).phi (fun W hφ=>hφ))
    replace hm:=ite_f hm (bool_nt h52)
    iterate 3 refine g_no rfl rfl rfl rfl rfl h52 ?_
    refine g_v rfl (r_pick0 rfl h52)<|g_v rfl r_assign<|g_nil<|d_normal_block ?_
    exact d_round false hm Nat.zero_lt_one ⟨rfl,trivial⟩ (fun W h=>((h.dropR (t:=100290) rfl).dropH (t:=100010) rfl).phi (fun W hφ=>hφ))
   replace hm:=ite_f hm (bool_nt h48)
   iterate 7 refine g_no rfl rfl rfl rfl rfl h48 ?_
   refine g_v rfl (r_pick0 rfl h48)<|g_v rfl r_move ?_
   iterate 4 refine g_no rfl rfl rfl rfl rfl rfl ?_
   refine g_v rfl (r_pick0 rfl rfl)<|g_v rfl r_assign<|g_nil<|d_normal_block ?_
   exact d_round false hm Nat.zero_lt_one ⟨rfl,trivial⟩ (fun W h=>(h.dropH (t:=100010) rfl).phi (fun W hφ=>hφ))
  replace hm:=ite_f hm (bool_nt h45)
  refine c_seq<|c_region<|g_v rfl (r_eql rfl rfl)<|g_v rfl r_assign<|g_nil<|d_then ?_
  refine c_cond rfl (fun h53=>?_) (fun h53=>?_)
  ·
   replace hm:=ite_t hm (of_decide_eq_true h53)
   refine c_region<|g_v rfl (r_field (n:=1) Tryz.underlying32 rfl Tryz.sizeOf3 rfl rfl)<|g_v rfl (r_load (tag:=100010) rfl rfl rfl Tryz.isAgg3)<|g_v rfl (r_eql rfl rfl)<|g_v rfl r_move ?_
   refine g_if rfl rfl rfl rfl rfl (fun h54=>?_) (fun h54=>?_)
   ·
    replace hm:=ite_t hm (of_decide_eq_true h54)
    refine g_v rfl (r_field (n:=2) Tryz.underlying32 rfl Tryz.sizeOf9 rfl rfl)<|g_do rfl rfl rfl rfl rfl h54<|g_v rfl (r_load (tag:=100010) rfl rfl rfl Tryz.isAgg9)<|g_do rfl rfl rfl rfl rfl h54<|g_v rfl (r_field (n:=3) Tryz.underlying32 rfl Tryz.sizeOf9 rfl rfl)<|g_do rfl rfl rfl rfl rfl h54<|g_v rfl (r_load (tag:=100010) rfl rfl rfl Tryz.isAgg9)<|g_do rfl rfl rfl rfl rfl h54<|g_v rfl (r_field (n:=4) Tryz.underlying32 rfl Tryz.sizeOf9 rfl rfl)<|g_do rfl rfl rfl rfl rfl h54 ?_
    refine g_v rfl (r_load (tag:=100010) rfl rfl rfl Tryz.isAgg9)<|g_do rfl rfl rfl rfl rfl h54 ?_
    refine g_e rfl (e_lit (tag:=100500) (l:=[p0.fName,p0.fText,p0.fZone]) (enc:=(fun x : ByteArray=>[Value.string x])) (sz:=1) rfl Tryz.underlying26 (lit9_1 _ _ _) rfl rfl (fun _=>rfl)) (fun g55 _=>?_)
    refine g_do rfl rfl rfl rfl rfl h54 ?_
    replace hm:=bnd hm
    obtain ⟨x56,hx57,hm⟩:=hm
    refine g_cn ⟨w0,M,_,_,φ⟩ (fun _ h=>h) Tryz.call83 rfl rfl (c_conf_none [p0.fName,p0.fText,p0.fZone] (some ⟨g55,0,none⟩) 3 (Nat.le_refl _) (fun W hS=>rowCl (tag:=100500) rfl W hS) _ hx57) (fun _ _=>?_)
    refine g_v rfl (r_pick1 rfl h54)<|g_v rfl r_move<|g_sta ⟨w0,M,(100010,g1,.cells #[Vi p0.fKind,Vi p0.fNode,Vs p0.fName,Vs p0.fText,Vs p0.fZone,.slice Ap0_0 p0.fHints.length cp0_0] 32 (0,0))::H,(100500,⟨.slice (some ⟨g55,0,none⟩) [p0.fName,p0.fText,p0.fZone].length 3,9,1,[p0.fName,p0.fText,p0.fZone].length,[p0.fName,p0.fText,p0.fZone].flatMap (fun x : ByteArray=>[Value.string x])⟩)::R,φ⟩ (fun _ h=>h) ?_
    refine g_if rfl rfl rfl rfl rfl (fun h58=>?_) (fun h58=>?_)
    ·
     replace hm:=ite_t hm h58
     refine g_v rfl (r_field (n:=5) Tryz.underlying32 rfl Tryz.sizeOf26 rfl rfl)<|g_do rfl rfl rfl rfl rfl h58<|g_v rfl (r_load (tag:=100010) rfl rfl rfl Tryz.isAgg26)<|g_do rfl rfl rfl rfl rfl h58<|g_v rfl (r_lenL Tryz.underlying26 rfl)<|g_do rfl rfl rfl rfl rfl h58<|g_v rfl (r_gtr rfl rfl)<|g_v rfl (r_pick1 rfl h58)<|g_v rfl r_move ?_
     refine g_if rfl rfl rfl rfl rfl (fun h59=>?_) (fun h59=>?_)
     ·
      replace hm:=ite_t hm (of_decide_eq_true h59)
      refine g_v rfl (r_field (n:=5) Tryz.underlying32 rfl Tryz.sizeOf26 rfl rfl)<|g_do rfl rfl rfl rfl rfl h59<|g_v rfl (r_load (tag:=100010) rfl rfl rfl Tryz.isAgg26)<|g_do rfl rfl rfl rfl rfl h59<|g_v rfl (r_lenL Tryz.underlying26 rfl)<|g_do rfl rfl rfl rfl rfl h59<|g_v rfl (r_leq rfl rfl)<|g_v rfl (r_pick1 rfl h59)<|g_v rfl r_move ?_
      refine g_if rfl rfl rfl rfl rfl (fun h60=>?_) (fun h60=>?_)
      ·
       replace hm:=ite_t hm (of_decide_eq_true h60)
       refine g_v rfl (r_field (n:=5) Tryz.underlying32 rfl Tryz.sizeOf26 rfl rfl)<|g_do rfl rfl rfl rfl rfl h60<|g_v rfl (r_load (tag:=100010) rfl rfl rfl Tryz.isAgg26)<|g_do rfl rfl rfl rfl rfl h60 ?_
       replace hm:=bnd hm
       obtain ⟨x61,hx62,hm⟩:=hm
       refine g_cn ⟨w0,M,_,_,φ⟩ (fun _ h=>h) Tryz.call47 rfl rfl (c_slices_ContainsFunc_47_2 p0.fHints Ap0_0 cp0_0 hcp0_0 (fun W hS=>fp0_0 W (ok_pre (H1:=[_]) (R1:=[_]) hS (fun W h=>h))) _ hx62) (fun _ _=>?_)
       refine g_do rfl rfl rfl rfl rfl h60<|g_v rfl (r_not rfl)<|g_v rfl (r_pick1 rfl h60)<|g_v rfl r_assign<|g_nil<|d_normal_block ?_
       exact d_round (!x61) hm Nat.zero_lt_one ⟨rfl,trivial⟩ (fun W h=>((h.dropR (t:=100500) rfl).dropH (t:=100010) rfl).phi (fun W hφ=>hφ))
      replace hm:=ite_f hm (of_decide_eq_false h60)
      iterate 3 refine g_no rfl rfl rfl rfl rfl h60 ?_
      refine g_v rfl (r_pick0 rfl h60)<|g_v rfl r_assign<|g_nil<|d_normal_block ?_
      exact d_round false hm Nat.zero_lt_one ⟨rfl,trivial⟩ (fun W h=>((h.dropR (t:=100500) rfl).dropH (t:=100010) rfl).phi (fun W hφ=>hφ))
     replace hm:=ite_f hm (of_decide_eq_false h59)
     iterate 3 refine g_no rfl rfl rfl rfl rfl h59 ?_
     refine g_v rfl (r_pick0 rfl h59)<|g_v rfl r_move ?_
     iterate 4 refine g_no rfl rfl rfl rfl rfl rfl ?_
     refine g_v rfl (r_pick0 rfl rfl)<|g_v rfl r_assign<|g_nil<|d_normal_block ?_
     exact d_round false hm Nat.zero_lt_one ⟨rfl,trivial⟩ (fun W h=>((h.dropR (t:=100500) rfl).dropH (t:=100010) rfl).phi (fun W hφ=>hφ))
    replace hm:=ite_f hm (bool_nt h58)
    iterate 3 refine g_no rfl rfl rfl rfl rfl h58 ?_
    refine g_v rfl (r_pick0 rfl h58)<|g_v rfl r_move ?_
    iterate 4 refine g_no rfl rfl rfl rfl rfl rfl ?_
    refine g_v rfl (r_pick0 rfl rfl)<|g_v rfl r_move ?_
    iterate 4 refine g_no rfl rfl rfl rfl rfl rfl ?_
    refine g_v rfl (r_pick0 rfl rfl)<|g_v rfl r_assign<|g_nil<|d_normal_block ?_
    exact d_round false hm Nat.zero_lt_one ⟨rfl,trivial⟩ (fun W h=>((h.dropR (t:=100500) rfl).dropH (t:=100010) rfl).phi (fun W hφ=>hφ))
   replace hm:=ite_f hm (of_decide_eq_false h54)
   iterate 7 refine g_no rfl rfl rfl rfl rfl h54 ?_
   refine g_v rfl (r_pick0 rfl h54)<|g_v rfl r_move ?_
   iterate 4 refine g_no rfl rfl rfl rfl rfl rfl ?_
   refine g_v rfl (r_pick0 rfl rfl)<|g_v rfl r_move ?_
   iterate 4 refine g_no rfl rfl rfl rfl rfl rfl ?_
   refine g_v rfl (r_pick0 rfl rfl)<|g_v rfl r_move ?_
   iterate 4 refine g_no rfl rfl rfl rfl rfl rfl ?_
   refine g_v rfl (r_pick0 rfl rfl)<|g_v rfl r_assign<|g_nil<|d_normal_block ?_
   exact d_round false hm Nat.zero_lt_one ⟨rfl,trivial⟩ (fun W h=>(h.dropH (t:=100010) rfl).phi (fun W hφ=>hφ))
  replace hm:=ite_f hm (of_decide_eq_false h53)
  refine c_seq<|c_region<|g_v rfl (r_eql rfl rfl)<|g_v rfl r_assign<|g_nil<|d_then ?_
  refine c_cond rfl (fun h63=>?_) (fun h63=>?_)
  ·
   replace hm:=ite_t hm (of_decide_eq_true h63)
   refine c_region<|g_v rfl r_move<|g_v rfl r_move ?_
   refine g_if rfl rfl rfl rfl rfl (fun h64=>?_) (fun h64=>?_)
   ·
    replace hm:=ite_t hm h64
    refine g_v rfl (r_field (n:=2) Tryz.underlying32 rfl Tryz.sizeOf9 rfl rfl)<|g_do rfl rfl rfl rfl rfl h64<|g_v rfl (r_load (tag:=100010) rfl rfl rfl Tryz.isAgg9)<|g_do rfl rfl rfl rfl rfl h64 ?_
    replace hm:=bnd hm
    obtain ⟨x65,hx66,hm⟩:=hm
    refine g_cn ⟨w0,M,_,_,φ⟩ (fun _ h=>h) Tryz.call53 rfl rfl (c_conf_named p0.fName _ hx66) (fun _ _=>?_)
    refine g_v rfl (r_pick1 rfl h64)<|g_v rfl r_move ?_
    refine g_if rfl rfl rfl rfl rfl (fun h67=>?_) (fun h67=>?_)
    ·
     replace hm:=ite_t hm h67
     refine g_v rfl (r_field (n:=3) Tryz.underlying32 rfl Tryz.sizeOf9 rfl rfl)<|g_do rfl rfl rfl rfl rfl h67<|g_v rfl (r_load (tag:=100010) rfl rfl rfl Tryz.isAgg9)<|g_do rfl rfl rfl rfl rfl h67<|g_v rfl (r_len Tryz.underlying9 rfl)<|g_do rfl rfl rfl rfl rfl h67<|g_v rfl (r_leq rfl rfl)<|g_v rfl (r_pick1 rfl h67)<|g_v rfl r_move ?_
     refine g_if rfl rfl rfl rfl rfl (fun h68=>?_) (fun h68=>?_)
     ·
      replace hm:=ite_t hm (of_decide_eq_true h68)
      refine g_v rfl (r_field (n:=4) Tryz.underlying32 rfl Tryz.sizeOf9 rfl rfl)<|g_do rfl rfl rfl rfl rfl h68<|g_v rfl (r_load (tag:=100010) rfl rfl rfl Tryz.isAgg9)<|g_do rfl rfl rfl rfl rfl h68 ?_
      refine g_e rfl (e_lit (tag:=100880) (l:=[p0.fZone]) (enc:=(fun x : ByteArray=>[Value.string x])) (sz:=1) rfl Tryz.underlying26 (lit9_2 _) rfl rfl (fun _=>rfl)) (fun g69 _=>?_)
      refine g_do rfl rfl rfl rfl rfl h68 ?_
      replace hm:=bnd hm
      obtain ⟨x70,hx71,hm⟩:=hm
      refine g_cn ⟨w0,M,_,_,φ⟩ (fun _ h=>h) Tryz.call83 rfl rfl (c_conf_none [p0.fZone] (some ⟨g69,0,none⟩) 1 (Nat.le_refl _) (fun W hS=>rowCl (tag:=100880) rfl W hS) _ hx71) (fun _ _=>?_)
      refine g_v rfl (r_pick1 rfl h68)<|g_v rfl r_assign<|g_nil<|d_normal_block ?_
      exact d_round x70 hm Nat.zero_lt_one ⟨rfl,trivial⟩ (fun W h=>((h.dropR (t:=100880) rfl).dropH (t:=100010) rfl).phi (fun W hφ=>hφ))
     replace hm:=ite_f hm (of_decide_eq_false h68)
     iterate 3 refine g_no rfl rfl rfl rfl rfl h68 ?_
     refine g_v rfl (r_pick0 rfl h68)<|g_v rfl r_assign<|g_nil<|d_normal_block ?_
     exact d_round false hm Nat.zero_lt_one ⟨rfl,trivial⟩ (fun W h=>(h.dropH (t:=100010) rfl).phi (fun W hφ=>hφ))
    replace hm:=ite_f hm (bool_nt h67)
    iterate 3 refine g_no rfl rfl rfl rfl rfl h67 ?_
    refine g_v rfl (r_pick0 rfl h67)<|g_v rfl r_move ?_
    iterate 4 refine g_no rfl rfl rfl rfl rfl rfl ?_
    refine g_v rfl (r_pick0 rfl rfl)<|g_v rfl r_assign<|g_nil<|d_normal_block ?_
    exact d_round false hm Nat.zero_lt_one ⟨rfl,trivial⟩ (fun W h=>(h.dropH (t:=100010) rfl).phi (fun W hφ=>hφ))
   replace hm:=ite_f hm (bool_nt h64)
   refine g_no rfl rfl rfl rfl rfl h64<|g_no rfl rfl rfl rfl rfl h64<|g_v rfl (r_pick0 rfl h64)<|g_v rfl r_move ?_
   iterate 4 refine g_no rfl rfl rfl rfl rfl rfl ?_
   refine g_v rfl (r_pick0 rfl rfl)<|g_v rfl r_move ?_
   iterate 4 refine g_no rfl rfl rfl rfl rfl rfl ?_
   refine g_v rfl (r_pick0 rfl rfl)<|g_v rfl r_assign<|g_nil<|d_normal_block ?_
   exact d_round false hm Nat.zero_lt_one ⟨rfl,trivial⟩ (fun W h=>(h.dropH (t:=100010) rfl).phi (fun W hφ=>hφ))
  replace hm:=ite_f hm (of_decide_eq_false h63)
  refine c_seq<|c_region<|g_v rfl (r_eql rfl rfl)<|g_v rfl r_assign<|g_nil<|d_then ?_
  refine c_cond rfl (fun h72=>?_) (fun h72=>?_)
  ·
   replace hm:=ite_t hm (of_decide_eq_true h72)
   refine c_region<|g_v rfl r_move<|g_v rfl r_move ?_
   refine g_if rfl rfl rfl rfl rfl (fun h73=>?_) (fun h73=>?_)
   ·
    replace hm:=ite_t hm h73
    refine g_v rfl (r_field (n:=4) Tryz.underlying32 rfl Tryz.sizeOf9 rfl rfl)<|g_do rfl rfl rfl rfl rfl h73<|g_v rfl (r_load (tag:=100010) rfl rfl rfl Tryz.isAgg9)<|g_do rfl rfl rfl rfl rfl h73 ?_
    replace hm:=bnd hm
    obtain ⟨x74,hx75,hm⟩:=hm
    refine g_cn ⟨w0,M,_,_,φ⟩ (fun _ h=>h) Tryz.call53 rfl rfl (c_conf_named p0.fZone _ hx75) (fun _ _=>?_)
    refine g_v rfl (r_pick1 rfl h73)<|g_v rfl r_move ?_
    refine g_if rfl rfl rfl rfl rfl (fun h76=>?_) (fun h76=>?_)
    ·
     replace hm:=ite_t hm h76
     refine g_v rfl (r_field (n:=2) Tryz.underlying32 rfl Tryz.sizeOf9 rfl rfl)<|g_do rfl rfl rfl rfl rfl h76<|g_v rfl (r_load (tag:=100010) rfl rfl rfl Tryz.isAgg9)<|g_do rfl rfl rfl rfl rfl h76<|g_v rfl (r_field (n:=3) Tryz.underlying32 rfl Tryz.sizeOf9 rfl rfl)<|g_do rfl rfl rfl rfl rfl h76<|g_v rfl (r_load (tag:=100010) rfl rfl rfl Tryz.isAgg9)<|g_do rfl rfl rfl rfl rfl h76 ?_
     refine g_e rfl (e_lit (tag:=101040) (l:=[p0.fName,p0.fText]) (enc:=(fun x : ByteArray=>[Value.string x])) (sz:=1) rfl Tryz.underlying26 (lit9_4 _ _) rfl rfl (fun _=>rfl)) (fun g77 _=>?_)
     refine g_do rfl rfl rfl rfl rfl h76 ?_
     replace hm:=bnd hm
     obtain ⟨x78,hx79,hm⟩:=hm
     refine g_cn ⟨w0,M,_,_,φ⟩ (fun _ h=>h) Tryz.call83 rfl rfl (c_conf_none [p0.fName,p0.fText] (some ⟨g77,0,none⟩) 2 (Nat.le_refl _) (fun W hS=>rowCl (tag:=101040) rfl W hS) _ hx79) (fun _ _=>?_)
     refine g_v rfl (r_pick1 rfl h76)<|g_v rfl r_assign<|g_nil<|d_normal_block ?_
     exact d_round x78 hm Nat.zero_lt_one ⟨rfl,trivial⟩ (fun W h=>((h.dropR (t:=101040) rfl).dropH (t:=100010) rfl).phi (fun W hφ=>hφ))
    replace hm:=ite_f hm (bool_nt h76)
    iterate 5 refine g_no rfl rfl rfl rfl rfl h76 ?_
    refine g_v rfl (r_pick0 rfl h76)<|g_v rfl r_assign<|g_nil<|d_normal_block ?_
    exact d_round false hm Nat.zero_lt_one ⟨rfl,trivial⟩ (fun W h=>(h.dropH (t:=100010) rfl).phi (fun W hφ=>hφ))
   replace hm:=ite_f hm (bool_nt h73)
   refine g_no rfl rfl rfl rfl rfl h73<|g_no rfl rfl rfl rfl rfl h73<|g_v rfl (r_pick0 rfl h73)<|g_v rfl r_move ?_
   iterate 6 refine g_no rfl rfl rfl rfl rfl rfl ?_
   refine g_v rfl (r_pick0 rfl rfl)<|g_v rfl r_assign<|g_nil<|d_normal_block ?_
   exact d_round false hm Nat.zero_lt_one ⟨rfl,trivial⟩ (fun W h=>(h.dropH (t:=100010) rfl).phi (fun W hφ=>hφ))
  replace hm:=ite_f hm (of_decide_eq_false h72)
  refine c_skip<|d_normal_block ?_
  exact d_round false hm Nat.zero_lt_one ⟨rfl,trivial⟩ (fun W h=>(h.dropH (t:=100010) rfl).phi (fun W hφ=>hφ))
 unfold m_conf_Check_j2 at hm
 refine d_flat [(3,.bool b41)] ⟨rfl,trivial⟩ (fun u=>?_)
 refine d_sta ⟨w0,M,H,R,φ⟩ (fun _ h=>h)<|d_then<|c_seq<|c_seq<|c_region<|g_v rfl r_move<|g_v rfl (r_not rfl)<|g_nil<|d_then ?_
 refine c_cond rfl (fun h42=>?_) (fun h42=>?_)
 ·
  have h42' : b41 = false:=by revert h42; cases b41 <;> simp
  replace hm:=ite_f hm (bool_nt h42')
  refine c_seq<|c_region<|g_v rfl r_assign<|g_nil<|d_then<|c_ret<|d_ret_then ?_
  cases hm
  exact d_retC () Tryz.results23 (res_tmp (res_nil rfl)) trivial (fun W h=>ok_pre (H1:=[]) (R1:=[]) h (fun W hφ=>hφ)) (.inr rfl)
 have h42' : b41 = true:=by revert h42; cases b41 <;> simp
 replace hm:=ite_t hm h42'
 refine c_skip<|d_then<|c_seq<|c_region<|g_v rfl r_assign<|g_nil<|d_then<|c_ret ?_
 cases hm
 exact d_retC () Tryz.results23 (res_tmp (res_nil rfl)) trivial (fun W h=>ok_pre (H1:=[]) (R1:=[]) h (fun W hφ=>hφ)) (.inr rfl)
structure Gpack_Packer where
  fb : List Int
  fplaces : List (ByteArray×Int)
  deriving DecidableEq
theorem bld120_5  : ∀ W,(Instr.build 120 #[]).run Tryz.prog W = .ok (.agg #[V0,.map none]) W:=fun _=>by kernel_rfl
noncomputable def m_pack_New  : Option Gpack_Packer:=
  some (⟨([] : List Int),([] : List (ByteArray×Int))⟩ : Gpack_Packer)
theorem c_pack_New {w0 : World} {M : Nat→Prop} {H : List (Nat×Nat×Obj)} {R : List (Nat×Row)} {φ : World→Prop}  (r : Gpack_Packer) (hm : m_pack_New = some r) :
    Cn Tryz.prog 59 #[] ⟨w0,M,H,R,φ⟩ (fun x : Option Addr×Nat×Option Addr×Nat×Nat=>.pointer (some ⟨x.2.2.2.2,0,none⟩)) (fun x=>r.fb.length ≤ x.2.1∧True) (fun x=>⟨w0,M,(3000,x.2.2.2.2,.cells #[.slice x.1 r.fb.length x.2.1,mapV x.2.2.1] 120 (0,0))::H,(2000,⟨.slice x.1 r.fb.length x.2.1,5,1,r.fb.length,r.fb.flatMap (fun x : Int=>[Value.int .u8 x])⟩)::(2001,⟨mapV x.2.2.1,118,2,r.fplaces.length,r.fplaces.flatMap (mcell (fun x : ByteArray=>Value.string x) (fun x : Int=>Value.int .i64 x))⟩)::R,φ⟩):=by
 unfold m_pack_New at hm
 refine cn_intro (fn:=Tryz.f59) (N:=3) Tryz.func59 rfl Tryz.ntmps59 rfl<|c_seq<|c_region<|g_v rfl r_assign<|g_nil<|d_then<|c_seq<|c_region<|g_v rfl (r_build _ rfl (bld120_5)) ?_
 refine g_e rfl (e_box 100020 rfl) (fun g1 _=>?_)
 refine g_v rfl r_assign<|g_nil<|d_then<|c_ret ?_
 cases hm
 refine d_sta _ (fun W h=>nilR h 11 5 1)<|d_sta _ (fun W h=>nilM h 12 118)<|d_sta _ (fun W h=>ok_frontR (t:=12) (t':=2001) h rfl)<|d_sta _ (fun W h=>ok_frontR (t:=11) (t':=2000) h rfl)<|d_sta _ (fun W h=>ok_front (t:=100020) (t':=3000) h rfl) ?_
 exact d_retC (none,0,none,0,g1) Tryz.results59 (res_tmp (res_nil rfl)) ⟨(Nat.le_refl 0),trivial⟩ (fun W h=>h.phi (fun W hφ=>hφ)) (.inr rfl)
theorem lit5_6 (z0 : Int) : Tryz.prog.builtSlice 5 1 [(0,.int .u8 z0)] = some #[.int .u8 z0]:=by kernel_rfl
theorem inf5_7  : (Tryz.prog.info? 5).map (fun i=>(i.zero,i.size,i.bytes)) = some (some (.int .u8 0),1,1):=by kernel_rfl
noncomputable def m_pack_Packer_put (p1 : List Int) (o0 : Gpack_Packer) : Option Gpack_Packer:=
  (app 1 o0.fb p1).bind fun l1=>
  some (⟨l1,o0.fplaces⟩ : Gpack_Packer)
theorem c_pack_Packer_put {w0 : World} {M : Nat→Prop} {H : List (Nat×Nat×Obj)} {R : List (Nat×Row)} {φ : World→Prop} (p1 : List Int) (Ap1_0 : Option Addr) (cp1_0 : Nat) (hcp1_0 : p1.length ≤ cp1_0) (fp1_0 : ∀ W,(Sta.mk w0 M H R φ).ok W→Cl W Ap1_0 (p1.flatMap (fun x : Int=>[Value.int .u8 x]))) (go0 : Nat) (o0 : Gpack_Packer) (Ao0_0 : Option Addr) (co0_0 : Nat) (hco0_0 : o0.fb.length ≤ co0_0) (Ao0_1 : Option Addr) (co0_1 : Nat) (hco0_1 : True) (r : Gpack_Packer) (hm : m_pack_Packer_put p1 o0 = some r) :
    Cn Tryz.prog 98 #[Vp go0,.slice Ap1_0 p1.length cp1_0] ⟨w0,M,(1000,go0,.cells #[.slice Ao0_0 o0.fb.length co0_0,mapV Ao0_1] 120 (0,0))::H,(1000,⟨.slice Ao0_0 o0.fb.length co0_0,5,1,o0.fb.length,o0.fb.flatMap (fun x : Int=>[Value.int .u8 x])⟩)::(1001,⟨mapV Ao0_1,118,2,o0.fplaces.length,o0.fplaces.flatMap (mcell (fun x : ByteArray=>Value.string x) (fun x : Int=>Value.int .i64 x))⟩)::R,φ⟩ (fun x : Option Addr×Nat=>.tuple #[]) (fun x=>r.fb.length ≤ x.2) (fun x=>⟨w0,M,(1000,go0,.cells #[.slice x.1 r.fb.length x.2,mapV Ao0_1] 120 (0,0))::H,(2000,⟨.slice x.1 r.fb.length x.2,5,1,r.fb.length,r.fb.flatMap (fun x : Int=>[Value.int .u8 x])⟩)::(1001,⟨mapV Ao0_1,118,2,o0.fplaces.length,o0.fplaces.flatMap (mcell (fun x : ByteArray=>Value.string x) (fun x : Int=>Value.int .i64 x))⟩)::R,φ⟩):=by
 unfold m_pack_Packer_put at hm
 refine cn_intro (fn:=Tryz.f98) (N:=15) Tryz.func98 rfl Tryz.ntmps98 rfl<|c_seq<|c_region<|g_v rfl r_move<|g_v rfl (r_neqP1 Tryz.underlying81 rfl rfl)<|g_nil<|d_then<|c_cond1 rfl rfl<|c_region<|g_v rfl r_move ?_
 refine g_v rfl r_move<|g_v rfl (r_nilck rfl)<|g_v rfl (r_field (n:=0) Tryz.underlying120 rfl Tryz.sizeOf70 rfl rfl)<|g_v rfl (r_load (tag:=1000) rfl rfl rfl Tryz.isAgg70)<|g_v rfl r_move ?_
 replace hm:=bnd hm
 obtain ⟨l1,hl1,hm⟩:=hm
 refine g_e rfl (e_appR (enc:=(fun x : Int=>[Value.int .u8 x])) (l:=o0.fb) (l1:=p1) (l2:=l1) (tag:=1000) Tryz.underlying70 inf5_7 rfl (by decide) (by decide) (fun _=>rfl) (fun _=>rfl) rfl hco0_0 rfl rfl (fun W hS=>fp1_0 W (ok_pre (H1:=[_]) (R1:=[_,_]) hS (fun W h=>h))) hl1) (fun ⟨A2,c3⟩ hc3=>?_)
 refine g_v rfl (r_nilck rfl)<|g_v rfl (r_field (n:=0) Tryz.underlying120 rfl Tryz.sizeOf70 rfl rfl)<|g_storeL (tag:=1000) rfl rfl rfl rfl Tryz.sizeOf70 rfl rfl<|g_nil ?_
 cases hm
 refine d_sta _ (fun W h=>ok_frontR (t:=1000) (t':=2000) h rfl) ?_
 exact d_retC (A2,c3) Tryz.results98 (res_nil rfl) hc3 (fun W h=>h.phi (fun W hφ=>hφ)) (.inl rfl)
noncomputable def m_pack_Packer_Byte (p1 : Int) (o0 : Gpack_Packer) : Option Gpack_Packer:=
  (m_pack_Packer_put [p1] o0).bind fun x2=>
  some (⟨x2.fb,o0.fplaces⟩ : Gpack_Packer)
theorem c_pack_Packer_Byte {w0 : World} {M : Nat→Prop} {H : List (Nat×Nat×Obj)} {R : List (Nat×Row)} {φ : World→Prop} (p1 : Int) (go0 : Nat) (o0 : Gpack_Packer) (Ao0_0 : Option Addr) (co0_0 : Nat) (hco0_0 : o0.fb.length ≤ co0_0) (Ao0_1 : Option Addr) (co0_1 : Nat) (hco0_1 : True) (r : Gpack_Packer) (hm : m_pack_Packer_Byte p1 o0 = some r) :
    Cn Tryz.prog 60 #[Vp go0,.int .u8 p1] ⟨w0,M,(1000,go0,.cells #[.slice Ao0_0 o0.fb.length co0_0,mapV Ao0_1] 120 (0,0))::H,(1000,⟨.slice Ao0_0 o0.fb.length co0_0,5,1,o0.fb.length,o0.fb.flatMap (fun x : Int=>[Value.int .u8 x])⟩)::(1001,⟨mapV Ao0_1,118,2,o0.fplaces.length,o0.fplaces.flatMap (mcell (fun x : ByteArray=>Value.string x) (fun x : Int=>Value.int .i64 x))⟩)::R,φ⟩ (fun x : Option Addr×Nat=>.tuple #[]) (fun x=>r.fb.length ≤ x.2) (fun x=>⟨w0,M,(1000,go0,.cells #[.slice x.1 r.fb.length x.2,mapV Ao0_1] 120 (0,0))::H,(2000,⟨.slice x.1 r.fb.length x.2,5,1,r.fb.length,r.fb.flatMap (fun x : Int=>[Value.int .u8 x])⟩)::(1001,⟨mapV Ao0_1,118,2,o0.fplaces.length,o0.fplaces.flatMap (mcell (fun x : ByteArray=>Value.string x) (fun x : Int=>Value.int .i64 x))⟩)::R,φ⟩):=by
 unfold m_pack_Packer_Byte at hm
 refine cn_intro (fn:=Tryz.f60) (N:=8) Tryz.func60 rfl Tryz.ntmps60 rfl<|c_region<|g_v rfl r_move<|g_v rfl r_move ?_
 refine g_e rfl (e_lit (tag:=100060) (l:=[p1]) (enc:=(fun x : Int=>[Value.int .u8 x])) (sz:=1) rfl Tryz.underlying70 (lit5_6 _) rfl rfl (fun _=>rfl)) (fun g1 _=>?_)
 replace hm:=bnd hm
 obtain ⟨x2,hx3,hm⟩:=hm
 refine g_cn ⟨w0,M,(1000,go0,.cells #[.slice Ao0_0 o0.fb.length co0_0,mapV Ao0_1] 120 (0,0))::H,(1000,⟨.slice Ao0_0 o0.fb.length co0_0,5,1,o0.fb.length,o0.fb.flatMap (fun x : Int=>[Value.int .u8 x])⟩)::(1001,⟨mapV Ao0_1,118,2,o0.fplaces.length,o0.fplaces.flatMap (mcell (fun x : ByteArray=>Value.string x) (fun x : Int=>Value.int .i64 x))⟩)::(100060,⟨.slice (some ⟨g1,0,none⟩) [p1].length 1,5,1,[p1].length,[p1].flatMap (fun x : Int=>[Value.int .u8 x])⟩)::R,φ⟩ (fun W h=>(ok_front (t:=1000) (t':=1000) (ok_frontR (t:=1000) (t':=1000) (ok_frontR (t:=1001) (t':=1001) h rfl) rfl) rfl)) Tryz.call98 rfl rfl (c_pack_Packer_put [p1] (some ⟨g1,0,none⟩) 1 (Nat.le_refl _) (fun W hS=>rowCl (tag:=100060) rfl W hS) go0 o0 Ao0_0 co0_0 hco0_0 Ao0_1 co0_1 trivial _ hx3) (fun ⟨A4,c5⟩ hc5=>?_)
 refine g_sta _ (fun W h=>(ok_frontR (t:=2000) (t':=1000) (ok_frontR (t:=1001) (t':=1001) (ok_front (t:=1000) (t':=1000) h rfl) rfl) rfl))<|g_nil ?_
 cases hm
 refine d_sta _ (fun W h=>ok_frontR (t:=1000) (t':=2000) h rfl) ?_
 exact d_retC (A4,c5) Tryz.results60 (res_nil rfl) hc5 (fun W h=>(h.dropR (t:=100060) rfl).phi (fun W hφ=>hφ)) (.inl rfl)
noncomputable def m_pack_Packer_Raw (p1 : ByteArray) (o0 : Gpack_Packer) : Option Gpack_Packer:=
  (m_pack_Packer_put (bytesI p1) o0).bind fun x5=>
  some (⟨x5.fb,o0.fplaces⟩ : Gpack_Packer)
theorem c_pack_Packer_Raw {w0 : World} {M : Nat→Prop} {H : List (Nat×Nat×Obj)} {R : List (Nat×Row)} {φ : World→Prop} (p1 : ByteArray) (go0 : Nat) (o0 : Gpack_Packer) (Ao0_0 : Option Addr) (co0_0 : Nat) (hco0_0 : o0.fb.length ≤ co0_0) (Ao0_1 : Option Addr) (co0_1 : Nat) (hco0_1 : True) (r : Gpack_Packer) (hm : m_pack_Packer_Raw p1 o0 = some r) :
    Cn Tryz.prog 61 #[Vp go0,Vs p1] ⟨w0,M,(1000,go0,.cells #[.slice Ao0_0 o0.fb.length co0_0,mapV Ao0_1] 120 (0,0))::H,(1000,⟨.slice Ao0_0 o0.fb.length co0_0,5,1,o0.fb.length,o0.fb.flatMap (fun x : Int=>[Value.int .u8 x])⟩)::(1001,⟨mapV Ao0_1,118,2,o0.fplaces.length,o0.fplaces.flatMap (mcell (fun x : ByteArray=>Value.string x) (fun x : Int=>Value.int .i64 x))⟩)::R,φ⟩ (fun x : Option Addr×Nat=>.tuple #[]) (fun x=>r.fb.length ≤ x.2) (fun x=>⟨w0,M,(1000,go0,.cells #[.slice x.1 r.fb.length x.2,mapV Ao0_1] 120 (0,0))::H,(2000,⟨.slice x.1 r.fb.length x.2,5,1,r.fb.length,r.fb.flatMap (fun x : Int=>[Value.int .u8 x])⟩)::(1001,⟨mapV Ao0_1,118,2,o0.fplaces.length,o0.fplaces.flatMap (mcell (fun x : ByteArray=>Value.string x) (fun x : Int=>Value.int .i64 x))⟩)::R,φ⟩):=by
 unfold m_pack_Packer_Raw at hm
 refine cn_intro (fn:=Tryz.f61) (N:=8) Tryz.func61 rfl Tryz.ntmps61 rfl<|c_region<|g_v rfl r_move<|g_v rfl r_move ?_
 refine g_bytes rfl Tryz.underlying9 Tryz.underlying70 Tryz.underlying5 rfl (fun A1 c2 hc2 φ3 q3'=>?_)
 have q3 : ∀ W,φ3 W→φ W:=fun W h=>(q3' W h).1
 have f4:=fun (W : World) (h : φ3 W)=>(q3' W h).2
 replace hm:=bnd hm
 obtain ⟨x5,hx6,hm⟩:=hm
 refine g_cn ⟨w0,M,(1000,go0,.cells #[.slice Ao0_0 o0.fb.length co0_0,mapV Ao0_1] 120 (0,0))::H,(1000,⟨.slice Ao0_0 o0.fb.length co0_0,5,1,o0.fb.length,o0.fb.flatMap (fun x : Int=>[Value.int .u8 x])⟩)::(1001,⟨mapV Ao0_1,118,2,o0.fplaces.length,o0.fplaces.flatMap (mcell (fun x : ByteArray=>Value.string x) (fun x : Int=>Value.int .i64 x))⟩)::R,φ3⟩ (fun W h=>(ok_front (t:=1000) (t':=1000) (ok_frontR (t:=1000) (t':=1000) (ok_frontR (t:=1001) (t':=1001) h rfl) rfl) rfl)) Tryz.call98 rfl rfl (c_pack_Packer_put (bytesI p1) A1 c2 hc2 (fun W hS=>f4 W hS.now) go0 o0 Ao0_0 co0_0 hco0_0 Ao0_1 co0_1 trivial _ hx6) (fun ⟨A7,c8⟩ hc8=>?_)
 refine g_sta _ (fun W h=>(ok_frontR (t:=2000) (t':=1000) (ok_frontR (t:=1001) (t':=1001) (ok_front (t:=1000) (t':=1000) h rfl) rfl) rfl))<|g_nil ?_
 cases hm
 refine d_sta _ (fun W h=>ok_frontR (t:=1000) (t':=2000) h rfl) ?_
 exact d_retC (A7,c8) Tryz.results61 (res_nil rfl) hc8 (fun W h=>h.phi (fun W hφ=>(q3 _ hφ))) (.inl rfl)
noncomputable def m_pack_Packer_Bytes (o0 : Gpack_Packer) : Option ByteArray:=
  some (strOfNums o0.fb)
theorem c_pack_Packer_Bytes {w0 : World} {M : Nat→Prop} {H : List (Nat×Nat×Obj)} {R : List (Nat×Row)} {φ : World→Prop} (go0 : Nat) (o0 : Gpack_Packer) (Ao0_0 : Option Addr) (co0_0 : Nat) (hco0_0 : o0.fb.length ≤ co0_0) (Ao0_1 : Option Addr) (co0_1 : Nat) (hco0_1 : True) (r : ByteArray) (hm : m_pack_Packer_Bytes o0 = some r) :
    Cn Tryz.prog 63 #[Vp go0] ⟨w0,M,(1000,go0,.cells #[.slice Ao0_0 o0.fb.length co0_0,mapV Ao0_1] 120 (0,0))::H,(1000,⟨.slice Ao0_0 o0.fb.length co0_0,5,1,o0.fb.length,o0.fb.flatMap (fun x : Int=>[Value.int .u8 x])⟩)::(1001,⟨mapV Ao0_1,118,2,o0.fplaces.length,o0.fplaces.flatMap (mcell (fun x : ByteArray=>Value.string x) (fun x : Int=>Value.int .i64 x))⟩)::R,φ⟩ (fun x : Unit=>Vs r) (fun x=>True) (fun x=>⟨w0,M,(1000,go0,.cells #[.slice Ao0_0 o0.fb.length co0_0,mapV Ao0_1] 120 (0,0))::H,(1000,⟨.slice Ao0_0 o0.fb.length co0_0,5,1,o0.fb.length,o0.fb.flatMap (fun x : Int=>[Value.int .u8 x])⟩)::(1001,⟨mapV Ao0_1,118,2,o0.fplaces.length,o0.fplaces.flatMap (mcell (fun x : ByteArray=>Value.string x) (fun x : Int=>Value.int .i64 x))⟩)::R,φ⟩):=by
 unfold m_pack_Packer_Bytes at hm
 refine cn_intro (fn:=Tryz.f63) (N:=10) Tryz.func63 rfl Tryz.ntmps63 rfl<|c_seq<|c_region<|g_v rfl r_assign<|g_nil<|d_then<|c_seq<|c_seq<|c_region<|g_v rfl r_move ?_
 refine g_v rfl (r_eqlP1 Tryz.underlying81 rfl rfl)<|g_nil<|d_then<|c_cond0 rfl rfl<|c_skip<|d_then<|c_seq<|c_region<|g_v rfl r_move<|g_v rfl (r_nilck rfl) ?_
 refine g_v rfl (r_field (n:=0) Tryz.underlying120 rfl Tryz.sizeOf70 rfl rfl)<|g_v rfl (r_load (tag:=1000) rfl rfl rfl Tryz.isAgg70)<|g_v rfl (r_textE Tryz.underlying70 Tryz.underlying5 Tryz.underlying9 rfl (fun W hS=>rowCl (tag:=1000) rfl W hS))<|g_v rfl r_assign<|g_nil<|d_then ?_
 refine c_flat [(2,Vs (strOfNums o0.fb))] ⟨rfl,trivial⟩ (fun u=>?_)
 refine c_sta ⟨w0,M,(1000,go0,.cells #[.slice Ao0_0 o0.fb.length co0_0,mapV Ao0_1] 120 (0,0))::H,(1000,⟨.slice Ao0_0 o0.fb.length co0_0,5,1,o0.fb.length,o0.fb.flatMap (fun x : Int=>[Value.int .u8 x])⟩)::(1001,⟨mapV Ao0_1,118,2,o0.fplaces.length,o0.fplaces.flatMap (mcell (fun x : ByteArray=>Value.string x) (fun x : Int=>Value.int .i64 x))⟩)::R,φ⟩ (fun _ h=>h)<|c_ret ?_
 cases hm
 exact d_retC () Tryz.results63 (res_tmp (res_nil rfl)) trivial (fun W h=>h.phi (fun W hφ=>hφ)) (.inr rfl)
noncomputable def m_conf_Bytes_j2 (p0 : GOrder) (x5 : Gpack_Packer) (l67 : List Int) : Option (ByteArray×Int):=
  (sadd p0.fName p0.fText).bind fun s70=>
  (sadd s70 p0.fZone).bind fun s71=>
  (m_pack_Packer_Raw s71 (⟨l67,x5.fplaces⟩ : Gpack_Packer)).bind fun x72=>
  (m_pack_Packer_Bytes (⟨x72.fb,x5.fplaces⟩ : Gpack_Packer)).bind fun x77=>
  some (x77,0)
noncomputable def m_conf_Bytes_s3 (p0 : GOrder) (x5 : Gpack_Packer) (l93 : List Int) (i96 : Int) : Option (((List Int)×Int) ⊕ (List Int)):=
  if i96 < (p0.fHints.length : Int) then
    (at_ p0.fHints i96).bind fun x113=>
    (m_pack_Packer_Raw x113 (⟨l93,x5.fplaces⟩ : Gpack_Packer)).bind fun x117=>
    some (.inl (x117.fb,w64 (i96 + 1)))
  else
    some (.inr l93)
noncomputable def m_conf_Bytes_j1 (p0 : GOrder) (x5 : Gpack_Packer) (l31 : List Int) : Option (ByteArray×Int):=
  (loop (fun s=>m_conf_Bytes_s3 p0 x5 s.1 s.2) (l31,0)).bind fun e=>m_conf_Bytes_j2 p0 x5 e
noncomputable def m_conf_Bytes (p0 : GOrder) : Option (ByteArray×Int):=
  (m_conf_Check p0).bind fun x2=>
  if x2 ≠ 0 then
    some ((⟨#[]⟩ : ByteArray),x2)
  else
    (m_pack_New).bind fun x5=>
    (m_pack_Packer_Byte (IntKind.u8.wrap p0.fKind) x5).bind fun x14=>
    if p0.fKind = 1 then
      (m_pack_Packer_Byte (IntKind.u8.wrap p0.fNode) (⟨x14.fb,x5.fplaces⟩ : Gpack_Packer)).bind fun x130=>
      m_conf_Bytes_j1 p0 x5 x130.fb
    else
      if p0.fKind = 2 then
        (m_pack_Packer_Byte (IntKind.u8.wrap p0.fNode) (⟨x14.fb,x5.fplaces⟩ : Gpack_Packer)).bind fun x125=>
        m_conf_Bytes_j1 p0 x5 x125.fb
      else
        m_conf_Bytes_j1 p0 x5 x14.fb
theorem c_conf_Bytes {w0 : World} {M : Nat→Prop} {H : List (Nat×Nat×Obj)} {R : List (Nat×Row)} {φ : World→Prop} (p0 : GOrder) (Ap0_0 : Option Addr) (cp0_0 : Nat) (hcp0_0 : p0.fHints.length ≤ cp0_0) (fp0_0 : ∀ W,(Sta.mk w0 M H R φ).ok W→Cl W Ap0_0 (p0.fHints.flatMap (fun x : ByteArray=>[Value.string x]))) (r : ByteArray×Int) (hm : m_conf_Bytes p0 = some r) :
    Cn Tryz.prog 21 #[.agg #[Vi p0.fKind,Vi p0.fNode,Vs p0.fName,Vs p0.fText,Vs p0.fZone,.slice Ap0_0 p0.fHints.length cp0_0]] ⟨w0,M,H,R,φ⟩ (fun x : Unit=>.tuple #[Vs r.1,Vi r.2]) (fun x=>True) (fun x=>⟨w0,M,H,R,φ⟩):=by
 unfold m_conf_Bytes at hm
 refine cn_intro (fn:=Tryz.f21) (N:=55) Tryz.func21 rfl Tryz.ntmps21 rfl<|c_seq<|c_region ?_
 refine g_e rfl (e_box 100010 rfl) (fun g1 _=>?_)
 refine g_v rfl r_assign<|g_v rfl r_assign<|g_nil<|d_then<|c_seq<|c_region<|g_v rfl (r_loadA (tag:=100010) rfl rfl Tryz.isAgg32 Tryz.sizeOf32 rfl rfl) ?_
 replace hm:=bnd hm
 obtain ⟨x2,hx3,hm⟩:=hm
 refine g_cn ⟨w0,M,_,_,φ⟩ (fun _ h=>h) Tryz.call23 rfl rfl (c_conf_Check p0 Ap0_0 cp0_0 hcp0_0 (fun W hS=>fp0_0 W (ok_pre (H1:=[_]) (R1:=[]) hS (fun W h=>h))) _ hx3) (fun _ _=>?_)
 refine g_v rfl r_assign<|g_nil<|d_then<|c_seq<|c_seq<|c_region<|g_v rfl r_move<|g_v rfl (r_neq rfl rfl)<|g_nil<|d_then ?_
 refine c_sta ⟨w0,M,(100010,g1,.cells #[Vi p0.fKind,Vi p0.fNode,Vs p0.fName,Vs p0.fText,Vs p0.fZone,.slice Ap0_0 p0.fHints.length cp0_0] 32 (0,0))::H,R,φ⟩ (fun _ h=>h) ?_
 refine c_cond rfl (fun h4=>?_) (fun h4=>?_)
 ·
  replace hm:=ite_t hm (of_decide_eq_true h4)
  refine c_seq<|c_region<|g_v rfl r_move<|g_v rfl r_assign<|g_v rfl r_assign<|g_nil<|d_then ?_
  refine c_flat [(2,Ve),(3,Vi x2)] ⟨rfl,rfl,trivial⟩ (fun u=>?_)
  refine c_ret<|d_ret_then ?_
  cases hm
  exact d_retC () Tryz.results21 (res_tmp (res_tmp (res_nil rfl))) trivial (fun W h=>ok_pre (H1:=[_]) (R1:=[]) h (fun W hφ=>hφ)) (.inr rfl)
 replace hm:=ite_f hm (of_decide_eq_false h4)
 refine c_skip<|d_then<|c_seq<|c_region ?_
 replace hm:=bnd hm
 obtain ⟨x5,hx6,hm⟩:=hm
 refine g_cn ⟨w0,M,_,_,φ⟩ (fun _ h=>h) Tryz.call59 rfl rfl (c_pack_New  _ hx6) (fun ⟨A7,c8,A10,c11,g13⟩ ⟨hc8,hc11⟩=>?_)
 refine g_sta _ (fun W h=>(ok_frontR (t:=2000) (t':=100130) (ok_frontR (t:=2001) (t':=100131) (ok_front (t:=3000) (t':=100135) h rfl) rfl) rfl))<|g_v rfl r_assign<|g_nil<|d_then ?_
 refine c_flat [(1,Vp g1),(5,Vp g13)] ⟨rfl,rfl,trivial⟩ (fun u=>?_)
 refine c_sta ⟨w0,M,(100135,g13,.cells #[.slice A7 x5.fb.length c8,mapV A10] 120 (0,0))::(100010,g1,.cells #[Vi p0.fKind,Vi p0.fNode,Vs p0.fName,Vs p0.fText,Vs p0.fZone,.slice Ap0_0 p0.fHints.length cp0_0] 32 (0,0))::H,(100130,⟨.slice A7 x5.fb.length c8,5,1,x5.fb.length,x5.fb.flatMap (fun x : Int=>[Value.int .u8 x])⟩)::(100131,⟨mapV A10,118,2,x5.fplaces.length,x5.fplaces.flatMap (mcell (fun x : ByteArray=>Value.string x) (fun x : Int=>Value.int .i64 x))⟩)::R,φ⟩ (fun _ h=>h)<|c_seq<|c_region<|g_v rfl r_move<|g_v rfl (r_field (n:=0) Tryz.underlying32 rfl Tryz.sizeOf3 rfl rfl)<|g_v rfl (r_load (tag:=100010) rfl rfl rfl Tryz.isAgg3)<|g_v rfl (r_conv Tryz.underlying3 Tryz.underlying5 rfl rfl) ?_
 replace hm:=bnd hm
 obtain ⟨x14,hx15,hm⟩:=hm
 refine g_cn ⟨w0,M,(1000,g13,.cells #[.slice A7 x5.fb.length c8,mapV A10] 120 (0,0))::(100010,g1,.cells #[Vi p0.fKind,Vi p0.fNode,Vs p0.fName,Vs p0.fText,Vs p0.fZone,.slice Ap0_0 p0.fHints.length cp0_0] 32 (0,0))::H,(1000,⟨.slice A7 x5.fb.length c8,5,1,x5.fb.length,x5.fb.flatMap (fun x : Int=>[Value.int .u8 x])⟩)::(1001,⟨mapV A10,118,2,x5.fplaces.length,x5.fplaces.flatMap (mcell (fun x : ByteArray=>Value.string x) (fun x : Int=>Value.int .i64 x))⟩)::R,φ⟩ (fun W h=>(ok_front (t:=100135) (t':=1000) (ok_frontR (t:=100130) (t':=1000) (ok_frontR (t:=100131) (t':=1001) h rfl) rfl) rfl)) Tryz.call60 rfl rfl (c_pack_Packer_Byte (IntKind.u8.wrap p0.fKind) g13 x5 A7 c8 hc8 A10 c11 trivial _ hx15) (fun ⟨A16,c17⟩ hc17=>?_)
 refine g_sta _ (fun W h=>(ok_frontR (t:=2000) (t':=100130) (ok_frontR (t:=1001) (t':=100131) (ok_front (t:=1000) (t':=100135) h rfl) rfl) rfl))<|g_nil<|d_then<|c_seq ?_
 refine c_cut (ι:=(List Int)×Option Addr×Nat) [1,5] (fun ⟨l31,A32,c33⟩=>[]) (fun ⟨l31,A32,c33⟩=>⟨w0,M,(100135,g13,.cells #[.slice A32 l31.length c33,mapV A10] 120 (0,0))::(100010,g1,.cells #[Vi p0.fKind,Vi p0.fNode,Vs p0.fName,Vs p0.fText,Vs p0.fZone,.slice Ap0_0 p0.fHints.length cp0_0] 32 (0,0))::H,(100130,⟨.slice A32 l31.length c33,5,1,l31.length,l31.flatMap (fun x : Int=>[Value.int .u8 x])⟩)::(100131,⟨mapV A10,118,2,x5.fplaces.length,x5.fplaces.flatMap (mcell (fun x : ByteArray=>Value.string x) (fun x : Int=>Value.int .i64 x))⟩)::R,φ⟩) (fun ⟨l31,A32,c33⟩=>m_conf_Bytes_j1 p0 x5 l31 = some r∧l31.length ≤ c33) ?_ (fun ⟨l31,A32,c33⟩ u ⟨hm,hc33⟩=>?_)
 ·
  refine c_seq<|c_region<|g_v rfl (r_field (n:=0) Tryz.underlying32 rfl Tryz.sizeOf3 rfl rfl)<|g_v rfl (r_load (tag:=100010) rfl rfl rfl Tryz.isAgg3)<|g_v rfl (r_eql rfl rfl)<|g_v rfl r_move<|g_sta ⟨w0,M,(100135,g13,.cells #[.slice A16 x14.fb.length c17,mapV A10] 120 (0,0))::(100010,g1,.cells #[Vi p0.fKind,Vi p0.fNode,Vs p0.fName,Vs p0.fText,Vs p0.fZone,.slice Ap0_0 p0.fHints.length cp0_0] 32 (0,0))::H,(100130,⟨.slice A16 x14.fb.length c17,5,1,x14.fb.length,x14.fb.flatMap (fun x : Int=>[Value.int .u8 x])⟩)::(100131,⟨mapV A10,118,2,x5.fplaces.length,x5.fplaces.flatMap (mcell (fun x : ByteArray=>Value.string x) (fun x : Int=>Value.int .i64 x))⟩)::R,φ⟩ (fun _ h=>h) ?_
  refine g_if rfl rfl rfl rfl rfl (fun h123=>?_) (fun h123=>?_)
  ·
   replace hm:=ite_f hm (of_decide_eq_false h123)
   refine g_v rfl (r_field (n:=0) Tryz.underlying32 rfl Tryz.sizeOf3 rfl rfl)<|g_do rfl rfl rfl rfl rfl h123<|g_v rfl (r_load (tag:=100010) rfl rfl rfl Tryz.isAgg3)<|g_do rfl rfl rfl rfl rfl h123<|g_v rfl (r_eql rfl rfl)<|g_v rfl (r_pick0 rfl h123)<|g_nil<|d_then ?_
   refine c_flat [(1,Vp g1),(5,Vp g13),(26,.bool (decide (p0.fKind = 2)))] ⟨rfl,rfl,rfl,trivial⟩ (fun u=>?_)
   refine c_cond rfl (fun h124=>?_) (fun h124=>?_)
   ·
    replace hm:=ite_t hm (of_decide_eq_true h124)
    refine c_region<|g_v rfl r_move<|g_v rfl (r_field (n:=1) Tryz.underlying32 rfl Tryz.sizeOf3 rfl rfl)<|g_v rfl (r_load (tag:=100010) rfl rfl rfl Tryz.isAgg3)<|g_v rfl (r_conv Tryz.underlying3 Tryz.underlying5 rfl rfl) ?_
    replace hm:=bnd hm
    obtain ⟨x125,hx126,hm⟩:=hm
    refine g_cn ⟨w0,M,(1000,g13,.cells #[.slice A16 x14.fb.length c17,mapV A10] 120 (0,0))::(100010,g1,.cells #[Vi p0.fKind,Vi p0.fNode,Vs p0.fName,Vs p0.fText,Vs p0.fZone,.slice Ap0_0 p0.fHints.length cp0_0] 32 (0,0))::H,(1000,⟨.slice A16 x14.fb.length c17,5,1,x14.fb.length,x14.fb.flatMap (fun x : Int=>[Value.int .u8 x])⟩)::(1001,⟨mapV A10,118,2,x5.fplaces.length,x5.fplaces.flatMap (mcell (fun x : ByteArray=>Value.string x) (fun x : Int=>Value.int .i64 x))⟩)::R,φ⟩ (fun W h=>(ok_front (t:=100135) (t':=1000) (ok_frontR (t:=100130) (t':=1000) (ok_frontR (t:=100131) (t':=1001) h rfl) rfl) rfl)) Tryz.call60 rfl rfl (c_pack_Packer_Byte (IntKind.u8.wrap p0.fNode) g13 (⟨x14.fb,x5.fplaces⟩ : Gpack_Packer) A16 c17 hc17 A10 c11 trivial _ hx126) (fun ⟨A127,c128⟩ hc128=>?_)
    refine g_sta _ (fun W h=>(ok_frontR (t:=2000) (t':=100130) (ok_frontR (t:=1001) (t':=100131) (ok_front (t:=1000) (t':=100135) h rfl) rfl) rfl))<|g_nil ?_
    exact d_round (x125.fb,A127,c128) ⟨hm,hc128⟩ Nat.zero_lt_one ⟨rfl,rfl,trivial⟩ (fun W h=>h.phi (fun W hφ=>hφ))
   replace hm:=ite_f hm (of_decide_eq_false h124)
   refine c_skip ?_
   exact d_round (x14.fb,A16,c17) ⟨hm,hc17⟩ Nat.zero_lt_one ⟨rfl,rfl,trivial⟩ (fun W h=>h.phi (fun W hφ=>hφ))
  replace hm:=ite_t hm (of_decide_eq_true h123)
  refine g_no rfl rfl rfl rfl rfl h123<|g_no rfl rfl rfl rfl rfl h123<|g_v rfl (r_pick1 rfl h123)<|g_nil<|d_then ?_
  refine c_flat [(1,Vp g1),(5,Vp g13),(26,.bool true)] ⟨rfl,rfl,rfl,trivial⟩ (fun u=>?_)
  refine c_cond1 rfl rfl<|c_region<|g_v rfl r_move<|g_v rfl (r_field (n:=1) Tryz.underlying32 rfl Tryz.sizeOf3 rfl rfl)<|g_v rfl (r_load (tag:=100010) rfl rfl rfl Tryz.isAgg3)<|g_v rfl (r_conv Tryz.underlying3 Tryz.underlying5 rfl rfl) ?_
  replace hm:=bnd hm
  obtain ⟨x130,hx131,hm⟩:=hm
  refine g_cn ⟨w0,M,(1000,g13,.cells #[.slice A16 x14.fb.length c17,mapV A10] 120 (0,0))::(100010,g1,.cells #[Vi p0.fKind,Vi p0.fNode,Vs p0.fName,Vs p0.fText,Vs p0.fZone,.slice Ap0_0 p0.fHints.length cp0_0] 32 (0,0))::H,(1000,⟨.slice A16 x14.fb.length c17,5,1,x14.fb.length,x14.fb.flatMap (fun x : Int=>[Value.int .u8 x])⟩)::(1001,⟨mapV A10,118,2,x5.fplaces.length,x5.fplaces.flatMap (mcell (fun x : ByteArray=>Value.string x) (fun x : Int=>Value.int .i64 x))⟩)::R,φ⟩ (fun W h=>(ok_front (t:=100135) (t':=1000) (ok_frontR (t:=100130) (t':=1000) (ok_frontR (t:=100131) (t':=1001) h rfl) rfl) rfl)) Tryz.call60 rfl rfl (c_pack_Packer_Byte (IntKind.u8.wrap p0.fNode) g13 (⟨x14.fb,x5.fplaces⟩ : Gpack_Packer) A16 c17 hc17 A10 c11 trivial _ hx131) (fun ⟨A132,c133⟩ hc133=>?_)
  refine g_sta _ (fun W h=>(ok_frontR (t:=2000) (t':=100130) (ok_frontR (t:=1001) (t':=100131) (ok_front (t:=1000) (t':=100135) h rfl) rfl) rfl))<|g_nil ?_
  exact d_round (x130.fb,A132,c133) ⟨hm,hc133⟩ Nat.zero_lt_one ⟨rfl,rfl,trivial⟩ (fun W h=>h.phi (fun W hφ=>hφ))
 unfold m_conf_Bytes_j1 at hm
 refine d_flat [(1,Vp g1),(5,Vp g13)] ⟨rfl,rfl,trivial⟩ (fun u=>?_)
 refine d_sta ⟨w0,M,(100135,g13,.cells #[.slice A32 l31.length c33,mapV A10] 120 (0,0))::(100010,g1,.cells #[Vi p0.fKind,Vi p0.fNode,Vs p0.fName,Vs p0.fText,Vs p0.fZone,.slice Ap0_0 p0.fHints.length cp0_0] 32 (0,0))::H,(100130,⟨.slice A32 l31.length c33,5,1,l31.length,l31.flatMap (fun x : Int=>[Value.int .u8 x])⟩)::(100131,⟨mapV A10,118,2,x5.fplaces.length,x5.fplaces.flatMap (mcell (fun x : ByteArray=>Value.string x) (fun x : Int=>Value.int .i64 x))⟩)::R,φ⟩ (fun _ h=>h)<|d_then<|c_seq<|c_seq<|c_region<|g_v rfl (r_field (n:=5) Tryz.underlying32 rfl Tryz.sizeOf26 rfl rfl)<|g_v rfl (r_load (tag:=100010) rfl rfl rfl Tryz.isAgg26)<|g_v rfl (r_lenL Tryz.underlying26 rfl)<|g_v rfl r_move<|g_nil ?_
 refine d_then ?_
 refine c_cut (ι:=(List Int)×Option Addr×Nat) [1,5] (fun ⟨l67,A68,c69⟩=>[]) (fun ⟨l67,A68,c69⟩=>⟨w0,M,(100135,g13,.cells #[.slice A68 l67.length c69,mapV A10] 120 (0,0))::(100010,g1,.cells #[Vi p0.fKind,Vi p0.fNode,Vs p0.fName,Vs p0.fText,Vs p0.fZone,.slice Ap0_0 p0.fHints.length cp0_0] 32 (0,0))::H,(100130,⟨.slice A68 l67.length c69,5,1,l67.length,l67.flatMap (fun x : Int=>[Value.int .u8 x])⟩)::(100131,⟨mapV A10,118,2,x5.fplaces.length,x5.fplaces.flatMap (mcell (fun x : ByteArray=>Value.string x) (fun x : Int=>Value.int .i64 x))⟩)::R,φ⟩) (fun ⟨l67,A68,c69⟩=>m_conf_Bytes_j2 p0 x5 l67 = some r∧l67.length ≤ c69) ?_ (fun ⟨l67,A68,c69⟩ u ⟨hm,hc69⟩=>?_)
 ·
  refine c_block ?_
  replace hm:=bnd hm
  obtain ⟨out3,hl3,hr3⟩:=hm
  obtain ⟨n111',hl3⟩:=loop_lp hl3
  refine c_loopU (ι:=Nat×(List Int)×Int×Option Addr×Nat) [1,5,33,34,35] (fun ⟨n111,l93,i96,A94,c95⟩=>[(35,Vi i96)]) (fun ⟨n111,l93,i96,A94,c95⟩=>⟨w0,M,(100135,g13,.cells #[.slice A94 l93.length c95,mapV A10] 120 (0,0))::(100010,g1,.cells #[Vi p0.fKind,Vi p0.fNode,Vs p0.fName,Vs p0.fText,Vs p0.fZone,.slice Ap0_0 p0.fHints.length cp0_0] 32 (0,0))::H,(100130,⟨.slice A94 l93.length c95,5,1,l93.length,l93.flatMap (fun x : Int=>[Value.int .u8 x])⟩)::(100131,⟨mapV A10,118,2,x5.fplaces.length,x5.fplaces.flatMap (mcell (fun x : ByteArray=>Value.string x) (fun x : Int=>Value.int .i64 x))⟩)::R,φ⟩) (fun ⟨n111,l93,i96,A94,c95⟩=>Lp (fun s=>m_conf_Bytes_s3 p0 x5 s.1 s.2) n111 (l93,i96) out3∧l93.length ≤ c95) (fun ⟨n111,l93,i96,A94,c95⟩=>n111) (n111',l31,0,A32,c33) ⟨hl3,hc33⟩ ⟨rfl,rfl,rfl,rfl,rfl,trivial⟩ (fun W h=>h.phi (fun W hφ=>hφ)) (fun ⟨n111,l93,i96,A94,c95⟩ u ⟨hlp,hc95⟩=>?_)
  obtain ⟨o3,hm,hnx3⟩:=lp_step hlp
  clear hlp
  replace hm : m_conf_Bytes_s3 p0 x5 l93 i96 = some o3:=hm
  unfold m_conf_Bytes_s3 at hm
  refine c_flat [(1,Vp g1),(5,Vp g13),(33,.slice Ap0_0 p0.fHints.length cp0_0),(34,Vi (p0.fHints.length : Int)),(35,Vi i96)] ⟨rfl,rfl,rfl,rfl,rfl,trivial⟩ (fun u=>?_)
  refine c_sta ⟨w0,M,(100135,g13,.cells #[.slice A94 l93.length c95,mapV A10] 120 (0,0))::(100010,g1,.cells #[Vi p0.fKind,Vi p0.fNode,Vs p0.fName,Vs p0.fText,Vs p0.fZone,.slice Ap0_0 p0.fHints.length cp0_0] 32 (0,0))::H,(100130,⟨.slice A94 l93.length c95,5,1,l93.length,l93.flatMap (fun x : Int=>[Value.int .u8 x])⟩)::(100131,⟨mapV A10,118,2,x5.fplaces.length,x5.fplaces.flatMap (mcell (fun x : ByteArray=>Value.string x) (fun x : Int=>Value.int .i64 x))⟩)::R,φ⟩ (fun _ h=>h)<|c_seq<|c_region<|g_v rfl (r_lss rfl rfl)<|g_nil<|d_then<|c_seq ?_
  refine c_cond rfl (fun h112=>?_) (fun h112=>?_)
  ·
   replace hm:=ite_t hm (of_decide_eq_true h112)
   refine c_skip<|d_then<|c_seq<|c_block<|c_seq<|c_region ?_
   replace hm:=bnd hm
   obtain ⟨x113,hx113,hm⟩:=hm
   refine g_know _ (fun W hS=>cl_at (p:=(Sta.mk w0 M H R φ).ok) (sz:=1) (fun _=>rfl) (by decide) (ok_pre (H1:=[_,_]) (R1:=[_,_]) hS (fun W h=>h)) fp0_0 hx113) ?_
   rintro ⟨ad114,hA116,f115⟩
   refine g_v rfl (r_ix Tryz.underlying26 Tryz.sizeOf9 rfl hA116 rfl hx113)<|g_v rfl (r_ld rfl Tryz.isAgg9 (fun W hS=>Cl.head (f115 W (ok_pre (H1:=[_,_]) (R1:=[_,_]) hS (fun W h=>h)))))<|g_v rfl r_assign<|g_nil<|d_then<|c_region<|g_v rfl r_move<|g_v rfl r_move ?_
   replace hm:=bnd hm
   obtain ⟨x117,hx118,hm⟩:=hm
   refine g_cn ⟨w0,M,(1000,g13,.cells #[.slice A94 l93.length c95,mapV A10] 120 (0,0))::(100010,g1,.cells #[Vi p0.fKind,Vi p0.fNode,Vs p0.fName,Vs p0.fText,Vs p0.fZone,.slice Ap0_0 p0.fHints.length cp0_0] 32 (0,0))::H,(1000,⟨.slice A94 l93.length c95,5,1,l93.length,l93.flatMap (fun x : Int=>[Value.int .u8 x])⟩)::(1001,⟨mapV A10,118,2,x5.fplaces.length,x5.fplaces.flatMap (mcell (fun x : ByteArray=>Value.string x) (fun x : Int=>Value.int .i64 x))⟩)::R,φ⟩ (fun W h=>(ok_front (t:=100135) (t':=1000) (ok_frontR (t:=100130) (t':=1000) (ok_frontR (t:=100131) (t':=1001) h rfl) rfl) rfl)) Tryz.call61 rfl rfl (c_pack_Packer_Raw x113 g13 (⟨l93,x5.fplaces⟩ : Gpack_Packer) A94 c95 hc95 A10 c11 trivial _ hx118) (fun ⟨A119,c120⟩ hc120=>?_)
   refine g_sta _ (fun W h=>(ok_frontR (t:=2000) (t':=100130) (ok_frontR (t:=1001) (t':=100131) (ok_front (t:=1000) (t':=100135) h rfl) rfl) rfl))<|g_nil<|d_normal_block<|d_then<|c_region<|g_v rfl (r_add rfl rfl rfl)<|g_v rfl r_move<|g_nil ?_
   obtain ⟨n122,hn122,hlp⟩:=nx_inl hm hnx3
   exact d_round (n122,x117.fb,w64 (i96 + 1),A119,c120) ⟨hlp,hc120⟩ hn122 ⟨rfl,rfl,rfl,rfl,rfl,trivial⟩ (fun W h=>h.phi (fun W hφ=>hφ))
  replace hm:=ite_f hm (of_decide_eq_false h112)
  refine c_exit<|d_exit_then<|d_exit_then<|d_exit_block ?_
  replace hm:=nx_out (C:=(fun e : (List Int)=>m_conf_Bytes_j2 p0 x5 e = some r)) hm hnx3 hr3
  exact d_round (l93,A94,c95) ⟨hm,hc95⟩ Nat.zero_lt_one ⟨rfl,rfl,trivial⟩ (fun W h=>h.phi (fun W hφ=>hφ))
 unfold m_conf_Bytes_j2 at hm
 refine d_flat [(1,Vp g1),(5,Vp g13)] ⟨rfl,rfl,trivial⟩ (fun u=>?_)
 refine d_sta ⟨w0,M,(100135,g13,.cells #[.slice A68 l67.length c69,mapV A10] 120 (0,0))::(100010,g1,.cells #[Vi p0.fKind,Vi p0.fNode,Vs p0.fName,Vs p0.fText,Vs p0.fZone,.slice Ap0_0 p0.fHints.length cp0_0] 32 (0,0))::H,(100130,⟨.slice A68 l67.length c69,5,1,l67.length,l67.flatMap (fun x : Int=>[Value.int .u8 x])⟩)::(100131,⟨mapV A10,118,2,x5.fplaces.length,x5.fplaces.flatMap (mcell (fun x : ByteArray=>Value.string x) (fun x : Int=>Value.int .i64 x))⟩)::R,φ⟩ (fun _ h=>h)<|d_then<|c_seq<|c_region<|g_v rfl r_move<|g_v rfl (r_field (n:=2) Tryz.underlying32 rfl Tryz.sizeOf9 rfl rfl)<|g_v rfl (r_load (tag:=100010) rfl rfl rfl Tryz.isAgg9)<|g_v rfl (r_field (n:=3) Tryz.underlying32 rfl Tryz.sizeOf9 rfl rfl)<|g_v rfl (r_load (tag:=100010) rfl rfl rfl Tryz.isAgg9) ?_
 replace hm:=bnd hm
 obtain ⟨s70,hs70,hm⟩:=hm
 refine g_v rfl (r_addT rfl rfl hs70)<|g_v rfl (r_field (n:=4) Tryz.underlying32 rfl Tryz.sizeOf9 rfl rfl)<|g_v rfl (r_load (tag:=100010) rfl rfl rfl Tryz.isAgg9) ?_
 replace hm:=bnd hm
 obtain ⟨s71,hs71,hm⟩:=hm
 refine g_v rfl (r_addT rfl rfl hs71) ?_
 replace hm:=bnd hm
 obtain ⟨x72,hx73,hm⟩:=hm
 refine g_cn ⟨w0,M,(1000,g13,.cells #[.slice A68 l67.length c69,mapV A10] 120 (0,0))::(100010,g1,.cells #[Vi p0.fKind,Vi p0.fNode,Vs p0.fName,Vs p0.fText,Vs p0.fZone,.slice Ap0_0 p0.fHints.length cp0_0] 32 (0,0))::H,(1000,⟨.slice A68 l67.length c69,5,1,l67.length,l67.flatMap (fun x : Int=>[Value.int .u8 x])⟩)::(1001,⟨mapV A10,118,2,x5.fplaces.length,x5.fplaces.flatMap (mcell (fun x : ByteArray=>Value.string x) (fun x : Int=>Value.int .i64 x))⟩)::R,φ⟩ (fun W h=>(ok_front (t:=100135) (t':=1000) (ok_frontR (t:=100130) (t':=1000) (ok_frontR (t:=100131) (t':=1001) h rfl) rfl) rfl)) Tryz.call61 rfl rfl (c_pack_Packer_Raw s71 g13 (⟨l67,x5.fplaces⟩ : Gpack_Packer) A68 c69 hc69 A10 c11 trivial _ hx73) (fun ⟨A74,c75⟩ hc75=>?_)
 refine g_sta _ (fun W h=>(ok_frontR (t:=2000) (t':=100130) (ok_frontR (t:=1001) (t':=100131) (ok_front (t:=1000) (t':=100135) h rfl) rfl) rfl))<|g_nil<|d_then ?_
 refine c_flat [(5,Vp g13)] ⟨rfl,trivial⟩ (fun u=>?_)
 refine c_sta ⟨w0,M,(100135,g13,.cells #[.slice A74 x72.fb.length c75,mapV A10] 120 (0,0))::(100010,g1,.cells #[Vi p0.fKind,Vi p0.fNode,Vs p0.fName,Vs p0.fText,Vs p0.fZone,.slice Ap0_0 p0.fHints.length cp0_0] 32 (0,0))::H,(100130,⟨.slice A74 x72.fb.length c75,5,1,x72.fb.length,x72.fb.flatMap (fun x : Int=>[Value.int .u8 x])⟩)::(100131,⟨mapV A10,118,2,x5.fplaces.length,x5.fplaces.flatMap (mcell (fun x : ByteArray=>Value.string x) (fun x : Int=>Value.int .i64 x))⟩)::R,φ⟩ (fun _ h=>h)<|c_seq<|c_region<|g_v rfl r_move ?_
 replace hm:=bnd hm
 obtain ⟨x77,hx78,hm⟩:=hm
 refine g_cn ⟨w0,M,(1000,g13,.cells #[.slice A74 x72.fb.length c75,mapV A10] 120 (0,0))::(100010,g1,.cells #[Vi p0.fKind,Vi p0.fNode,Vs p0.fName,Vs p0.fText,Vs p0.fZone,.slice Ap0_0 p0.fHints.length cp0_0] 32 (0,0))::H,(1000,⟨.slice A74 x72.fb.length c75,5,1,x72.fb.length,x72.fb.flatMap (fun x : Int=>[Value.int .u8 x])⟩)::(1001,⟨mapV A10,118,2,x5.fplaces.length,x5.fplaces.flatMap (mcell (fun x : ByteArray=>Value.string x) (fun x : Int=>Value.int .i64 x))⟩)::R,φ⟩ (fun W h=>(ok_front (t:=100135) (t':=1000) (ok_frontR (t:=100130) (t':=1000) (ok_frontR (t:=100131) (t':=1001) h rfl) rfl) rfl)) Tryz.call63 rfl rfl (c_pack_Packer_Bytes g13 (⟨x72.fb,x5.fplaces⟩ : Gpack_Packer) A74 c75 hc75 A10 c11 trivial _ hx78) (fun _ _=>?_)
 refine g_sta _ (fun W h=>(ok_frontR (t:=1000) (t':=100130) (ok_frontR (t:=1001) (t':=100131) (ok_front (t:=1000) (t':=100135) h rfl) rfl) rfl))<|g_v rfl r_assign<|g_v rfl r_assign<|g_nil<|d_then<|c_ret ?_
 cases hm
 exact d_retC () Tryz.results21 (res_tmp (res_tmp (res_nil rfl))) trivial (fun W h=>ok_pre (H1:=[_,_]) (R1:=[_,_]) h (fun W hφ=>hφ)) (.inr rfl)
structure GAnchor where
  fName : ByteArray
  fText : ByteArray
  deriving DecidableEq
def GAnchor.enc (e : GAnchor) : List Value:=[.string e.fName,.string e.fText]
structure GFlush where
  fEpoch : Int
  fZone : ByteArray
  deriving DecidableEq
def GFlush.enc (e : GFlush) : List Value:=[.int .i64 e.fEpoch,.string e.fZone]
structure GConf where
  fRing : List Int
  fHints : List ByteArray
  fAnchors : List GAnchor
  fEpoch : Int
  fFlushes : List GFlush
  deriving DecidableEq
theorem bld32_8 (z0 : Int) (z1 : ByteArray) : ∀ W,(Instr.build 32 #[(0,Vi z0),(4,Vs z1)]).run Tryz.prog W = .ok (.agg #[Vi z0,Vi 0,Ve,Ve,Vs z1,V0]) W:=fun _=>by kernel_rfl
theorem bld30_9  : ∀ W,(Instr.build 30 #[]).run Tryz.prog W = .ok (.agg #[V0,V0,V0,Vi 0,V0]) W:=fun _=>by kernel_rfl
theorem isi3_10  : (Tryz.prog.info? 3).isSome = true:=by kernel_rfl
theorem inf3_11  : (Tryz.prog.info? 3).map (fun i=>(i.zero,i.size,i.bytes)) = some (some (Vi 0),1,8):=by kernel_rfl
noncomputable def m_slices_Clone_24 (p0 : List Int) : Option (List Int):=
  (app 8 ([] : List Int) p0).bind fun l3=>
  some l3
theorem c_slices_Clone_24 {w0 : World} {M : Nat→Prop} {H : List (Nat×Nat×Obj)} {R : List (Nat×Row)} {φ : World→Prop} (p0 : List Int) (Ap0_0 : Option Addr) (cp0_0 : Nat) (hcp0_0 : p0.length ≤ cp0_0) (fp0_0 : ∀ W,(Sta.mk w0 M H R φ).ok W→Cl W Ap0_0 (p0.flatMap (fun x : Int=>[Value.int .i64 x]))) (r : (List Int)) (hm : m_slices_Clone_24 p0 = some r) :
    Cn Tryz.prog 24 #[.slice Ap0_0 p0.length cp0_0] ⟨w0,M,H,R,φ⟩ (fun x : Option Addr×Nat=>.slice x.1 r.length x.2) (fun x=>r.length ≤ x.2) (fun x=>⟨w0,M,H,(2000,⟨.slice x.1 r.length x.2,3,1,r.length,r.flatMap (fun x : Int=>[Value.int .i64 x])⟩)::R,φ⟩):=by
 unfold m_slices_Clone_24 at hm
 refine cn_intro (fn:=Tryz.f24) (N:=8) Tryz.func24 rfl Tryz.ntmps24 rfl<|c_seq<|c_region<|g_v rfl r_assign<|g_nil<|d_then<|c_seq<|c_seq<|c_region<|g_v rfl r_move ?_
 refine g_v rfl (r_isNilS Tryz.underlying25 rfl rfl)<|g_nil<|d_then ?_
 refine c_cond rfl (fun h1=>?_) (fun h1=>?_)
 ·
  refine c_know (p0 = []) (fun W hS=>cl_nil_of (enc:=(fun x : Int=>[Value.int .i64 x])) (fun _=>Nat.le_of_ble_eq_true rfl) (nil_of h1 ▸ fp0_0 W (ok_pre (H1:=[]) (R1:=[]) hS (fun W h=>h)))) (fun hnil=>?_)
  replace hm : some ([] : List Int) = some r:=by rw [hnil] at hm; exact hm
  refine c_seq<|c_region<|g_v rfl r_assign<|g_nil<|d_then<|c_ret<|d_ret_then ?_
  cases hm
  refine d_sta _ (fun W h=>nilR h 11 3 1)<|d_sta _ (fun W h=>ok_frontR (t:=11) (t':=2000) h rfl) ?_
  exact d_retC (none,0) Tryz.results24 (res_tmp (res_nil rfl)) (Nat.le_refl 0) (fun W h=>h.phi (fun W hφ=>hφ)) (.inr rfl)
 refine c_skip<|d_then<|c_seq<|c_region ?_
 refine g_e rfl (e_lit0 (tag:=100050) (sz:=1) Tryz.underlying25 isi3_10) (fun g2 _=>?_)
 refine g_v rfl r_move ?_
 replace hm:=bnd hm
 obtain ⟨l3,hl3,hm⟩:=hm
 refine g_e rfl (e_appR (enc:=(fun x : Int=>[Value.int .i64 x])) (l:=[]) (l1:=p0) (l2:=l3) (tag:=100050) Tryz.underlying25 inf3_11 rfl (by decide) (by decide) (fun _=>rfl) (fun _=>rfl) rfl (Nat.le_refl 0) rfl rfl (fun W hS=>fp0_0 W (ok_pre (H1:=[]) (R1:=[_]) hS (fun W h=>h))) hl3) (fun ⟨A4,c5⟩ hc5=>?_)
 refine g_v rfl r_assign<|g_nil<|d_then<|c_ret ?_
 cases hm
 refine d_sta _ (fun W h=>ok_frontR (t:=100050) (t':=2000) h rfl) ?_
 exact d_retC (A4,c5) Tryz.results24 (res_tmp (res_nil rfl)) hc5 (fun W h=>h.phi (fun W hφ=>hφ)) (.inr rfl)
theorem isi9_12  : (Tryz.prog.info? 9).isSome = true:=by kernel_rfl
noncomputable def m_slices_Clone_25 (p0 : List ByteArray) : Option (List ByteArray):=
  (app 16 ([] : List ByteArray) p0).bind fun l3=>
  some l3
theorem c_slices_Clone_25 {w0 : World} {M : Nat→Prop} {H : List (Nat×Nat×Obj)} {R : List (Nat×Row)} {φ : World→Prop} (p0 : List ByteArray) (Ap0_0 : Option Addr) (cp0_0 : Nat) (hcp0_0 : p0.length ≤ cp0_0) (fp0_0 : ∀ W,(Sta.mk w0 M H R φ).ok W→Cl W Ap0_0 (p0.flatMap (fun x : ByteArray=>[Value.string x]))) (r : (List ByteArray)) (hm : m_slices_Clone_25 p0 = some r) :
    Cn Tryz.prog 25 #[.slice Ap0_0 p0.length cp0_0] ⟨w0,M,H,R,φ⟩ (fun x : Option Addr×Nat=>.slice x.1 r.length x.2) (fun x=>r.length ≤ x.2) (fun x=>⟨w0,M,H,(2000,⟨.slice x.1 r.length x.2,9,1,r.length,r.flatMap (fun x : ByteArray=>[Value.string x])⟩)::R,φ⟩):=by
 unfold m_slices_Clone_25 at hm
 refine cn_intro (fn:=Tryz.f25) (N:=8) Tryz.func25 rfl Tryz.ntmps25 rfl<|c_seq<|c_region<|g_v rfl r_assign<|g_nil<|d_then<|c_seq<|c_seq<|c_region<|g_v rfl r_move ?_
 refine g_v rfl (r_isNilS Tryz.underlying26 rfl rfl)<|g_nil<|d_then ?_
 refine c_cond rfl (fun h1=>?_) (fun h1=>?_)
 ·
  refine c_know (p0 = []) (fun W hS=>cl_nil_of (enc:=(fun x : ByteArray=>[Value.string x])) (fun _=>Nat.le_of_ble_eq_true rfl) (nil_of h1 ▸ fp0_0 W (ok_pre (H1:=[]) (R1:=[]) hS (fun W h=>h)))) (fun hnil=>?_)
  replace hm : some ([] : List ByteArray) = some r:=by rw [hnil] at hm; exact hm
  refine c_seq<|c_region<|g_v rfl r_assign<|g_nil<|d_then<|c_ret<|d_ret_then ?_
  cases hm
  refine d_sta _ (fun W h=>nilR h 11 9 1)<|d_sta _ (fun W h=>ok_frontR (t:=11) (t':=2000) h rfl) ?_
  exact d_retC (none,0) Tryz.results25 (res_tmp (res_nil rfl)) (Nat.le_refl 0) (fun W h=>h.phi (fun W hφ=>hφ)) (.inr rfl)
 refine c_skip<|d_then<|c_seq<|c_region ?_
 refine g_e rfl (e_lit0 (tag:=100050) (sz:=1) Tryz.underlying26 isi9_12) (fun g2 _=>?_)
 refine g_v rfl r_move ?_
 replace hm:=bnd hm
 obtain ⟨l3,hl3,hm⟩:=hm
 refine g_e rfl (e_appR (enc:=(fun x : ByteArray=>[Value.string x])) (l:=[]) (l1:=p0) (l2:=l3) (tag:=100050) Tryz.underlying26 inf9_3 rfl (by decide) (by decide) (fun _=>rfl) (fun _=>rfl) rfl (Nat.le_refl 0) rfl rfl (fun W hS=>fp0_0 W (ok_pre (H1:=[]) (R1:=[_]) hS (fun W h=>h))) hl3) (fun ⟨A4,c5⟩ hc5=>?_)
 refine g_v rfl r_assign<|g_nil<|d_then<|c_ret ?_
 cases hm
 refine d_sta _ (fun W h=>ok_frontR (t:=100050) (t':=2000) h rfl) ?_
 exact d_retC (A4,c5) Tryz.results25 (res_tmp (res_nil rfl)) hc5 (fun W h=>h.phi (fun W hφ=>hφ)) (.inr rfl)
theorem isi55_13  : (Tryz.prog.info? 55).isSome = true:=by kernel_rfl
theorem inf55_14  : (Tryz.prog.info? 55).map (fun i=>(i.zero,i.size,i.bytes)) = some (some (.agg #[Ve,Ve]),2,32):=by kernel_rfl
noncomputable def m_slices_Clone_26 (p0 : List GAnchor) : Option (List GAnchor):=
  (app 32 ([] : List GAnchor) p0).bind fun l3=>
  some l3
theorem c_slices_Clone_26 {w0 : World} {M : Nat→Prop} {H : List (Nat×Nat×Obj)} {R : List (Nat×Row)} {φ : World→Prop} (p0 : List GAnchor) (Ap0_0 : Option Addr) (cp0_0 : Nat) (hcp0_0 : p0.length ≤ cp0_0) (fp0_0 : ∀ W,(Sta.mk w0 M H R φ).ok W→Cl W Ap0_0 (p0.flatMap GAnchor.enc)) (r : (List GAnchor)) (hm : m_slices_Clone_26 p0 = some r) :
    Cn Tryz.prog 26 #[.slice Ap0_0 p0.length cp0_0] ⟨w0,M,H,R,φ⟩ (fun x : Option Addr×Nat=>.slice x.1 r.length x.2) (fun x=>r.length ≤ x.2) (fun x=>⟨w0,M,H,(2000,⟨.slice x.1 r.length x.2,55,2,r.length,r.flatMap GAnchor.enc⟩)::R,φ⟩):=by
 unfold m_slices_Clone_26 at hm
 refine cn_intro (fn:=Tryz.f26) (N:=8) Tryz.func26 rfl Tryz.ntmps26 rfl<|c_seq<|c_region<|g_v rfl r_assign<|g_nil<|d_then<|c_seq<|c_seq<|c_region<|g_v rfl r_move ?_
 refine g_v rfl (r_isNilS Tryz.underlying27 rfl rfl)<|g_nil<|d_then ?_
 refine c_cond rfl (fun h1=>?_) (fun h1=>?_)
 ·
  refine c_know (p0 = []) (fun W hS=>cl_nil_of (enc:=GAnchor.enc) (fun _=>Nat.le_of_ble_eq_true rfl) (nil_of h1 ▸ fp0_0 W (ok_pre (H1:=[]) (R1:=[]) hS (fun W h=>h)))) (fun hnil=>?_)
  replace hm : some ([] : List GAnchor) = some r:=by rw [hnil] at hm; exact hm
  refine c_seq<|c_region<|g_v rfl r_assign<|g_nil<|d_then<|c_ret<|d_ret_then ?_
  cases hm
  refine d_sta _ (fun W h=>nilR h 11 55 2)<|d_sta _ (fun W h=>ok_frontR (t:=11) (t':=2000) h rfl) ?_
  exact d_retC (none,0) Tryz.results26 (res_tmp (res_nil rfl)) (Nat.le_refl 0) (fun W h=>h.phi (fun W hφ=>hφ)) (.inr rfl)
 refine c_skip<|d_then<|c_seq<|c_region ?_
 refine g_e rfl (e_lit0 (tag:=100050) (sz:=2) Tryz.underlying27 isi55_13) (fun g2 _=>?_)
 refine g_v rfl r_move ?_
 replace hm:=bnd hm
 obtain ⟨l3,hl3,hm⟩:=hm
 refine g_e rfl (e_appR (enc:=GAnchor.enc) (l:=[]) (l1:=p0) (l2:=l3) (tag:=100050) Tryz.underlying27 inf55_14 rfl (by decide) (by decide) (fun _=>rfl) (fun _=>rfl) rfl (Nat.le_refl 0) rfl rfl (fun W hS=>fp0_0 W (ok_pre (H1:=[]) (R1:=[_]) hS (fun W h=>h))) hl3) (fun ⟨A4,c5⟩ hc5=>?_)
 refine g_v rfl r_assign<|g_nil<|d_then<|c_ret ?_
 cases hm
 refine d_sta _ (fun W h=>ok_frontR (t:=100050) (t':=2000) h rfl) ?_
 exact d_retC (A4,c5) Tryz.results26 (res_tmp (res_nil rfl)) hc5 (fun W h=>h.phi (fun W hφ=>hφ)) (.inr rfl)
theorem isi48_15  : (Tryz.prog.info? 48).isSome = true:=by kernel_rfl
theorem inf48_16  : (Tryz.prog.info? 48).map (fun i=>(i.zero,i.size,i.bytes)) = some (some (.agg #[Vi 0,Ve]),2,24):=by kernel_rfl
noncomputable def m_slices_Clone_27 (p0 : List GFlush) : Option (List GFlush):=
  (app 24 ([] : List GFlush) p0).bind fun l3=>
  some l3
theorem c_slices_Clone_27 {w0 : World} {M : Nat→Prop} {H : List (Nat×Nat×Obj)} {R : List (Nat×Row)} {φ : World→Prop} (p0 : List GFlush) (Ap0_0 : Option Addr) (cp0_0 : Nat) (hcp0_0 : p0.length ≤ cp0_0) (fp0_0 : ∀ W,(Sta.mk w0 M H R φ).ok W→Cl W Ap0_0 (p0.flatMap GFlush.enc)) (r : (List GFlush)) (hm : m_slices_Clone_27 p0 = some r) :
    Cn Tryz.prog 27 #[.slice Ap0_0 p0.length cp0_0] ⟨w0,M,H,R,φ⟩ (fun x : Option Addr×Nat=>.slice x.1 r.length x.2) (fun x=>r.length ≤ x.2) (fun x=>⟨w0,M,H,(2000,⟨.slice x.1 r.length x.2,48,2,r.length,r.flatMap GFlush.enc⟩)::R,φ⟩):=by
 unfold m_slices_Clone_27 at hm
 refine cn_intro (fn:=Tryz.f27) (N:=8) Tryz.func27 rfl Tryz.ntmps27 rfl<|c_seq<|c_region<|g_v rfl r_assign<|g_nil<|d_then<|c_seq<|c_seq<|c_region<|g_v rfl r_move ?_
 refine g_v rfl (r_isNilS Tryz.underlying28 rfl rfl)<|g_nil<|d_then ?_
 refine c_cond rfl (fun h1=>?_) (fun h1=>?_)
 ·
  refine c_know (p0 = []) (fun W hS=>cl_nil_of (enc:=GFlush.enc) (fun _=>Nat.le_of_ble_eq_true rfl) (nil_of h1 ▸ fp0_0 W (ok_pre (H1:=[]) (R1:=[]) hS (fun W h=>h)))) (fun hnil=>?_)
  replace hm : some ([] : List GFlush) = some r:=by rw [hnil] at hm; exact hm
  refine c_seq<|c_region<|g_v rfl r_assign<|g_nil<|d_then<|c_ret<|d_ret_then ?_
  cases hm
  refine d_sta _ (fun W h=>nilR h 11 48 2)<|d_sta _ (fun W h=>ok_frontR (t:=11) (t':=2000) h rfl) ?_
  exact d_retC (none,0) Tryz.results27 (res_tmp (res_nil rfl)) (Nat.le_refl 0) (fun W h=>h.phi (fun W hφ=>hφ)) (.inr rfl)
 refine c_skip<|d_then<|c_seq<|c_region ?_
 refine g_e rfl (e_lit0 (tag:=100050) (sz:=2) Tryz.underlying28 isi48_15) (fun g2 _=>?_)
 refine g_v rfl r_move ?_
 replace hm:=bnd hm
 obtain ⟨l3,hl3,hm⟩:=hm
 refine g_e rfl (e_appR (enc:=GFlush.enc) (l:=[]) (l1:=p0) (l2:=l3) (tag:=100050) Tryz.underlying28 inf48_16 rfl (by decide) (by decide) (fun _=>rfl) (fun _=>rfl) rfl (Nat.le_refl 0) rfl rfl (fun W hS=>fp0_0 W (ok_pre (H1:=[]) (R1:=[_]) hS (fun W h=>h))) hl3) (fun ⟨A4,c5⟩ hc5=>?_)
 refine g_v rfl r_assign<|g_nil<|d_then<|c_ret ?_
 cases hm
 refine d_sta _ (fun W h=>ok_frontR (t:=100050) (t':=2000) h rfl) ?_
 exact d_retC (A4,c5) Tryz.results27 (res_tmp (res_nil rfl)) hc5 (fun W h=>h.phi (fun W hφ=>hφ)) (.inr rfl)
theorem bld30_17 (zA0 : Option Addr) (zn0 : Nat) (zc0 : Nat) (zA1 : Option Addr) (zn1 : Nat) (zc1 : Nat) (zA2 : Option Addr) (zn2 : Nat) (zc2 : Nat) (z3 : Int) (zA4 : Option Addr) (zn4 : Nat) (zc4 : Nat) : ∀ W,(Instr.build 30 #[(0,.slice zA0 zn0 zc0),(1,.slice zA1 zn1 zc1),(2,.slice zA2 zn2 zc2),(3,Vi z3),(4,.slice zA4 zn4 zc4)]).run Tryz.prog W = .ok (.agg #[.slice zA0 zn0 zc0,.slice zA1 zn1 zc1,.slice zA2 zn2 zc2,Vi z3,.slice zA4 zn4 zc4]) W:=fun _=>by kernel_rfl
noncomputable def m_cmp_isNaN_107 (p0 : Int) : Option Bool:=
  some (decide (p0 ≠ p0))
theorem c_cmp_isNaN_107 {w0 : World} {M : Nat→Prop} {H : List (Nat×Nat×Obj)} {R : List (Nat×Row)} {φ : World→Prop} (p0 : Int) (r : Bool) (hm : m_cmp_isNaN_107 p0 = some r) :
    Cn Tryz.prog 107 #[Vi p0] ⟨w0,M,H,R,φ⟩ (fun x : Unit=>.bool r) (fun x=>True) (fun x=>⟨w0,M,H,R,φ⟩):=by
 unfold m_cmp_isNaN_107 at hm
 refine cn_intro (fn:=Tryz.f107) (N:=6) Tryz.func107 rfl Tryz.ntmps107 rfl<|c_seq<|c_region<|g_v rfl r_assign<|g_nil<|d_then<|c_seq<|c_region<|g_v rfl r_move<|g_v rfl r_move ?_
 refine g_v rfl (r_neq rfl rfl)<|g_v rfl r_assign<|g_nil<|d_then<|c_ret ?_
 cases hm
 exact d_retC () Tryz.results107 (res_tmp (res_nil rfl)) trivial (fun W h=>ok_pre (H1:=[]) (R1:=[]) h (fun W hφ=>hφ)) (.inr rfl)
noncomputable def m_cmp_Less_85 (p0 : Int) (p1 : Int) : Option Bool:=
  (m_cmp_isNaN_107 p0).bind fun x1=>
  if x1 = true then
    (m_cmp_isNaN_107 p1).bind fun x4=>
    if x4 = true then
      some (decide (p0 < p1))
    else
      some true
  else
    some (decide (p0 < p1))
theorem c_cmp_Less_85 {w0 : World} {M : Nat→Prop} {H : List (Nat×Nat×Obj)} {R : List (Nat×Row)} {φ : World→Prop} (p0 : Int) (p1 : Int) (r : Bool) (hm : m_cmp_Less_85 p0 p1 = some r) :
    Cn Tryz.prog 85 #[Vi p0,Vi p1] ⟨w0,M,H,R,φ⟩ (fun x : Unit=>.bool r) (fun x=>True) (fun x=>⟨w0,M,H,R,φ⟩):=by
 unfold m_cmp_Less_85 at hm
 refine cn_intro (fn:=Tryz.f85) (N:=17) Tryz.func85 rfl Tryz.ntmps85 rfl<|c_seq<|c_region<|g_v rfl r_assign<|g_nil<|d_then<|c_seq<|c_region<|g_v rfl r_move ?_
 replace hm:=bnd hm
 obtain ⟨x1,hx2,hm⟩:=hm
 refine g_cn ⟨w0,M,_,_,φ⟩ (fun _ h=>h) Tryz.call107 rfl rfl (c_cmp_isNaN_107 p0 _ hx2) (fun _ _=>?_)
 refine g_v rfl r_move ?_
 refine g_if rfl rfl rfl rfl rfl (fun h3=>?_) (fun h3=>?_)
 ·
  replace hm:=ite_t hm h3
  refine g_v rfl r_move<|g_do rfl rfl rfl rfl rfl h3 ?_
  replace hm:=bnd hm
  obtain ⟨x4,hx5,hm⟩:=hm
  refine g_cn ⟨w0,M,_,_,φ⟩ (fun _ h=>h) Tryz.call107 rfl rfl (c_cmp_isNaN_107 p1 _ hx5) (fun _ _=>?_)
  refine g_do rfl rfl rfl rfl rfl h3<|g_v rfl (r_not rfl)<|g_v rfl (r_pick1 rfl h3)<|g_v rfl r_move ?_
  refine g_if rfl rfl rfl rfl rfl (fun h6=>?_) (fun h6=>?_)
  ·
   have h6' : x4 = true:=by revert h6; cases x4 <;> simp
   replace hm:=ite_t hm h6'
   refine g_v rfl r_move<|g_do rfl rfl rfl rfl rfl h6<|g_v rfl r_move<|g_do rfl rfl rfl rfl rfl h6<|g_v rfl (r_lss rfl rfl)<|g_v rfl (r_pick0 rfl h6)<|g_v rfl r_assign<|g_nil<|d_then ?_
   refine c_flat [(4,.bool (decide (p0 < p1)))] ⟨rfl,trivial⟩ (fun u=>?_)
   refine c_sta ⟨w0,M,H,R,φ⟩ (fun _ h=>h)<|c_ret ?_
   cases hm
   exact d_retC () Tryz.results85 (res_tmp (res_nil rfl)) trivial (fun W h=>ok_pre (H1:=[]) (R1:=[]) h (fun W hφ=>hφ)) (.inr rfl)
  have h6' : x4 = false:=by revert h6; cases x4 <;> simp
  replace hm:=ite_f hm (bool_nt h6')
  refine g_no rfl rfl rfl rfl rfl h6<|g_no rfl rfl rfl rfl rfl h6<|g_v rfl (r_pick1 rfl h6)<|g_v rfl r_assign<|g_nil<|d_then ?_
  refine c_flat [(4,.bool true)] ⟨rfl,trivial⟩ (fun u=>?_)
  refine c_sta ⟨w0,M,H,R,φ⟩ (fun _ h=>h)<|c_ret ?_
  cases hm
  exact d_retC () Tryz.results85 (res_tmp (res_nil rfl)) trivial (fun W h=>ok_pre (H1:=[]) (R1:=[]) h (fun W hφ=>hφ)) (.inr rfl)
 replace hm:=ite_f hm (bool_nt h3)
 refine g_no rfl rfl rfl rfl rfl h3<|g_no rfl rfl rfl rfl rfl h3<|g_v rfl (r_pick0 rfl h3)<|g_v rfl r_move<|g_do rfl rfl rfl rfl rfl rfl<|g_v rfl r_move<|g_do rfl rfl rfl rfl rfl rfl<|g_v rfl r_move<|g_do rfl rfl rfl rfl rfl rfl<|g_v rfl (r_lss rfl rfl) ?_
 refine g_v rfl (r_pick0 rfl rfl)<|g_v rfl r_assign<|g_nil<|d_then ?_
 refine c_flat [(4,.bool (decide (p0 < p1)))] ⟨rfl,trivial⟩ (fun u=>?_)
 refine c_sta ⟨w0,M,H,R,φ⟩ (fun _ h=>h)<|c_ret ?_
 cases hm
 exact d_retC () Tryz.results85 (res_tmp (res_nil rfl)) trivial (fun W h=>ok_pre (H1:=[]) (R1:=[]) h (fun W hφ=>hφ)) (.inr rfl)
noncomputable def m_slices_isNaN_86 (p0 : Int) : Option Bool:=
  some (decide (p0 ≠ p0))
theorem c_slices_isNaN_86 {w0 : World} {M : Nat→Prop} {H : List (Nat×Nat×Obj)} {R : List (Nat×Row)} {φ : World→Prop} (p0 : Int) (r : Bool) (hm : m_slices_isNaN_86 p0 = some r) :
    Cn Tryz.prog 86 #[Vi p0] ⟨w0,M,H,R,φ⟩ (fun x : Unit=>.bool r) (fun x=>True) (fun x=>⟨w0,M,H,R,φ⟩):=by
 unfold m_slices_isNaN_86 at hm
 refine cn_intro (fn:=Tryz.f86) (N:=6) Tryz.func86 rfl Tryz.ntmps86 rfl<|c_seq<|c_region<|g_v rfl r_assign<|g_nil<|d_then<|c_seq<|c_region<|g_v rfl r_move<|g_v rfl r_move ?_
 refine g_v rfl (r_neq rfl rfl)<|g_v rfl r_assign<|g_nil<|d_then<|c_ret ?_
 cases hm
 exact d_retC () Tryz.results86 (res_tmp (res_nil rfl)) trivial (fun W h=>ok_pre (H1:=[]) (R1:=[]) h (fun W hφ=>hφ)) (.inr rfl)
noncomputable def m_slices_BinarySearch_28_j1 (p0 : List Int) (p1 : Int) (i24 : Int) : Option (Int×Bool):=
  if i24 < (p0.length : Int) then
    (at_ p0 i24).bind fun x26=>
    if x26 = p1 then
      some (i24,true)
    else
      (at_ p0 i24).bind fun x31=>
      (m_slices_isNaN_86 x31).bind fun x35=>
      if x35 = true then
        (m_slices_isNaN_86 p1).bind fun x38=>
        some (i24,x38)
      else
        some (i24,false)
  else
    some (i24,false)
noncomputable def m_slices_BinarySearch_28_s2 (p0 : List Int) (p1 : Int) (i50 : Int) (i51 : Int) : Option ((Int×Int) ⊕ Int):=
  if i50 < i51 then
    (at_ p0 (w64 ((IntKind.u64.wrap (w64 (i50 + i51))) / 2))).bind fun x64=>
    (m_cmp_Less_85 x64 p1).bind fun x68=>
    if x68 = true then
      some (.inl (w64 ((w64 ((IntKind.u64.wrap (w64 (i50 + i51))) / 2)) + 1),i51))
    else
      some (.inl (i50,w64 ((IntKind.u64.wrap (w64 (i50 + i51))) / 2)))
  else
    some (.inr i50)
noncomputable def m_slices_BinarySearch_28 (p0 : List Int) (p1 : Int) : Option (Int×Bool):=
  (loop (fun s=>m_slices_BinarySearch_28_s2 p0 p1 s.1 s.2) (0,(p0.length : Int))).bind fun e=>m_slices_BinarySearch_28_j1 p0 p1 e
theorem c_slices_BinarySearch_28 {w0 : World} {M : Nat→Prop} {H : List (Nat×Nat×Obj)} {R : List (Nat×Row)} {φ : World→Prop} (p0 : List Int) (Ap0_0 : Option Addr) (cp0_0 : Nat) (hcp0_0 : p0.length ≤ cp0_0) (fp0_0 : ∀ W,(Sta.mk w0 M H R φ).ok W→Cl W Ap0_0 (p0.flatMap (fun x : Int=>[Value.int .i64 x]))) (p1 : Int) (r : Int×Bool) (hm : m_slices_BinarySearch_28 p0 p1 = some r) :
    Cn Tryz.prog 28 #[.slice Ap0_0 p0.length cp0_0,Vi p1] ⟨w0,M,H,R,φ⟩ (fun x : Unit=>.tuple #[Vi r.1,.bool r.2]) (fun x=>True) (fun x=>⟨w0,M,H,R,φ⟩):=by
 unfold m_slices_BinarySearch_28 at hm
 refine cn_intro (fn:=Tryz.f28) (N:=54) Tryz.func28 rfl Tryz.ntmps28 rfl<|c_seq<|c_region<|g_v rfl r_assign<|g_v rfl r_assign<|g_nil<|d_then<|c_seq<|c_region<|g_v rfl r_move ?_
 refine g_v rfl (r_lenL Tryz.underlying25 rfl)<|g_v rfl r_assign<|g_nil<|d_then<|c_seq<|c_region<|g_v rfl r_move<|g_v rfl r_assign<|g_v rfl r_assign<|g_nil ?_
 refine d_then<|c_seq ?_
 refine c_cut (ι:=Int) [0,1,6,7] (fun i24=>[(7,Vi i24)]) (fun i24=>⟨w0,M,H,R,φ⟩) (fun i24=>m_slices_BinarySearch_28_j1 p0 p1 i24 = some r) ?_ (fun i24 u hm=>?_)
 ·
  refine c_block ?_
  replace hm:=bnd hm
  obtain ⟨out2,hl2,hr2⟩:=hm
  obtain ⟨n62',hl2⟩:=loop_lp hl2
  refine c_loopU (ι:=Nat×Int×Int) [0,1,6,7,8] (fun ⟨n62,i50,i51⟩=>[(7,Vi i50),(8,Vi i51)]) (fun ⟨n62,i50,i51⟩=>⟨w0,M,H,R,φ⟩) (fun ⟨n62,i50,i51⟩=>Lp (fun s=>m_slices_BinarySearch_28_s2 p0 p1 s.1 s.2) n62 (i50,i51) out2) (fun ⟨n62,i50,i51⟩=>n62) (n62',0,(p0.length : Int)) hl2 ⟨rfl,rfl,rfl,rfl,rfl,trivial⟩ (fun W h=>h.phi (fun W hφ=>hφ)) (fun ⟨n62,i50,i51⟩ u hlp=>?_)
  obtain ⟨o2,hm,hnx2⟩:=lp_step hlp
  clear hlp
  replace hm : m_slices_BinarySearch_28_s2 p0 p1 i50 i51 = some o2:=hm
  unfold m_slices_BinarySearch_28_s2 at hm
  refine c_flat [(0,.slice Ap0_0 p0.length cp0_0),(1,Vi p1),(6,Vi (p0.length : Int)),(7,Vi i50),(8,Vi i51)] ⟨rfl,rfl,rfl,rfl,rfl,trivial⟩ (fun u=>?_)
  refine c_sta ⟨w0,M,H,R,φ⟩ (fun _ h=>h)<|c_seq<|c_seq<|c_region<|g_v rfl r_move<|g_v rfl r_move<|g_v rfl (r_lss rfl rfl)<|g_nil<|d_then ?_
  refine c_cond rfl (fun h63=>?_) (fun h63=>?_)
  ·
   replace hm:=ite_t hm (of_decide_eq_true h63)
   refine c_skip<|d_then<|c_block<|c_seq<|c_region<|g_v rfl r_move<|g_v rfl r_move<|g_v rfl (r_add rfl rfl rfl)<|g_v rfl (r_conv Tryz.underlying3 Tryz.underlying108 rfl rfl)<|g_v rfl (r_shr (n:=2) rfl rfl (by decide) (by decide) (by decide)) ?_
   refine g_v rfl (r_conv Tryz.underlying108 Tryz.underlying3 rfl rfl)<|g_v rfl r_assign<|g_nil<|d_then ?_
   refine c_flat [(0,.slice Ap0_0 p0.length cp0_0),(1,Vi p1),(6,Vi (p0.length : Int)),(7,Vi i50),(8,Vi i51),(9,Vi (w64 ((IntKind.u64.wrap (w64 (i50 + i51))) / 2)))] ⟨rfl,rfl,rfl,rfl,rfl,rfl,trivial⟩ (fun u=>?_)
   refine c_seq<|c_region<|g_v rfl r_move<|g_v rfl r_move ?_
   replace hm:=bnd hm
   obtain ⟨x64,hx64,hm⟩:=hm
   refine g_know _ (fun W hS=>cl_at (p:=(Sta.mk w0 M H R φ).ok) (sz:=1) (fun _=>rfl) (by decide) (ok_pre (H1:=[]) (R1:=[]) hS (fun W h=>h)) fp0_0 hx64) ?_
   rintro ⟨ad65,hA67,f66⟩
   refine g_v rfl (r_ix Tryz.underlying25 Tryz.sizeOf3 rfl hA67 rfl hx64)<|g_v rfl (r_ld rfl Tryz.isAgg3 (fun W hS=>Cl.head (f66 W (ok_pre (H1:=[]) (R1:=[]) hS (fun W h=>h)))))<|g_v rfl r_move ?_
   replace hm:=bnd hm
   obtain ⟨x68,hx69,hm⟩:=hm
   refine g_cn ⟨w0,M,_,_,φ⟩ (fun _ h=>h) Tryz.call85 rfl rfl (c_cmp_Less_85 x64 p1 _ hx69) (fun _ _=>?_)
   refine g_nil<|d_then ?_
   refine c_cond rfl (fun h70=>?_) (fun h70=>?_)
   ·
    replace hm:=ite_t hm h70
    refine c_region<|g_v rfl r_move<|g_v rfl (r_add rfl rfl rfl)<|g_v rfl r_assign<|g_nil<|d_normal_block ?_
    obtain ⟨n71,hn71,hlp⟩:=nx_inl hm hnx2
    exact d_round (n71,w64 ((w64 ((IntKind.u64.wrap (w64 (i50 + i51))) / 2)) + 1),i51) hlp hn71 ⟨rfl,rfl,rfl,rfl,rfl,trivial⟩ (fun W h=>h.phi (fun W hφ=>hφ))
   replace hm:=ite_f hm (bool_nt h70)
   refine c_region<|g_v rfl r_move<|g_v rfl r_assign<|g_nil<|d_normal_block ?_
   obtain ⟨n72,hn72,hlp⟩:=nx_inl hm hnx2
   exact d_round (n72,i50,w64 ((IntKind.u64.wrap (w64 (i50 + i51))) / 2)) hlp hn72 ⟨rfl,rfl,rfl,rfl,rfl,trivial⟩ (fun W h=>h.phi (fun W hφ=>hφ))
  replace hm:=ite_f hm (of_decide_eq_false h63)
  refine c_exit<|d_exit_then<|d_exit_then<|d_exit_block ?_
  replace hm:=nx_out (C:=(fun e : Int=>m_slices_BinarySearch_28_j1 p0 p1 e = some r)) hm hnx2 hr2
  exact d_round i50 hm Nat.zero_lt_one ⟨rfl,rfl,rfl,rfl,trivial⟩ (fun W h=>h.phi (fun W hφ=>hφ))
 unfold m_slices_BinarySearch_28_j1 at hm
 refine d_flat [(0,.slice Ap0_0 p0.length cp0_0),(1,Vi p1),(6,Vi (p0.length : Int)),(7,Vi i24)] ⟨rfl,rfl,rfl,rfl,trivial⟩ (fun u=>?_)
 refine d_sta ⟨w0,M,H,R,φ⟩ (fun _ h=>h)<|d_then<|c_seq<|c_region ?_
 iterate 3 refine g_v rfl r_move ?_
 refine g_v rfl (r_lss rfl rfl)<|g_v rfl r_move ?_
 refine g_if rfl rfl rfl rfl rfl (fun h25=>?_) (fun h25=>?_)
 ·
  replace hm:=ite_t hm (of_decide_eq_true h25)
  refine g_v rfl r_move<|g_do rfl rfl rfl rfl rfl h25<|g_v rfl r_move<|g_do rfl rfl rfl rfl rfl h25 ?_
  replace hm:=bnd hm
  obtain ⟨x26,hx26,hm⟩:=hm
  refine g_know _ (fun W hS=>cl_at (p:=(Sta.mk w0 M H R φ).ok) (sz:=1) (fun _=>rfl) (by decide) (ok_pre (H1:=[]) (R1:=[]) hS (fun W h=>h)) fp0_0 hx26) ?_
  rintro ⟨ad27,hA29,f28⟩
  refine g_v rfl (r_ix Tryz.underlying25 Tryz.sizeOf3 rfl hA29 rfl hx26)<|g_do rfl rfl rfl rfl rfl h25<|g_v rfl (r_ld rfl Tryz.isAgg3 (fun W hS=>Cl.head (f28 W (ok_pre (H1:=[]) (R1:=[]) hS (fun W h=>h)))))<|g_do rfl rfl rfl rfl rfl h25<|g_v rfl r_move<|g_do rfl rfl rfl rfl rfl h25<|g_v rfl (r_eql rfl rfl)<|g_do rfl rfl rfl rfl rfl h25<|g_v rfl r_move ?_
  refine g_if rfl rfl rfl rfl rfl (fun h30=>?_) (fun h30=>?_)
  ·
   replace hm:=ite_f hm (of_decide_eq_false h30)
   refine g_v rfl r_move<|g_do rfl rfl rfl rfl rfl h30<|g_v rfl r_move<|g_do rfl rfl rfl rfl rfl h30 ?_
   replace hm:=bnd hm
   obtain ⟨x31,hx31,hm⟩:=hm
   refine g_know _ (fun W hS=>cl_at (p:=(Sta.mk w0 M H R φ).ok) (sz:=1) (fun _=>rfl) (by decide) (ok_pre (H1:=[]) (R1:=[]) hS (fun W h=>h)) fp0_0 hx31) ?_
   rintro ⟨ad32,hA34,f33⟩
   refine g_v rfl (r_ix Tryz.underlying25 Tryz.sizeOf3 rfl hA34 rfl hx31)<|g_do rfl rfl rfl rfl rfl h30<|g_v rfl (r_ld rfl Tryz.isAgg3 (fun W hS=>Cl.head (f33 W (ok_pre (H1:=[]) (R1:=[]) hS (fun W h=>h)))))<|g_do rfl rfl rfl rfl rfl h30 ?_
   replace hm:=bnd hm
   obtain ⟨x35,hx36,hm⟩:=hm
   refine g_cn ⟨w0,M,_,_,φ⟩ (fun _ h=>h) Tryz.call86 rfl rfl (c_slices_isNaN_86 x31 _ hx36) (fun _ _=>?_)
   refine g_do rfl rfl rfl rfl rfl h30<|g_v rfl r_move ?_
   refine g_if rfl rfl rfl rfl rfl (fun h37=>?_) (fun h37=>?_)
   ·
    replace hm:=ite_t hm h37
    refine g_v rfl r_move<|g_do rfl rfl rfl rfl rfl h37 ?_
    replace hm:=bnd hm
    obtain ⟨x38,hx39,hm⟩:=hm
    refine g_cn ⟨w0,M,_,_,φ⟩ (fun _ h=>h) Tryz.call86 rfl rfl (c_slices_isNaN_86 p1 _ hx39) (fun _ _=>?_)
    refine g_do rfl rfl rfl rfl rfl h30<|g_v rfl (r_pick1 rfl h37)<|g_do rfl rfl rfl rfl rfl h25<|g_v rfl (r_pick0 rfl h30)<|g_v rfl (r_pick1 rfl h25)<|g_v rfl r_assign<|g_v rfl r_assign<|g_nil<|d_then ?_
    refine c_flat [(4,Vi i24),(5,.bool x38)] ⟨rfl,rfl,trivial⟩ (fun u=>?_)
    refine c_ret ?_
    cases hm
    exact d_retC () Tryz.results28 (res_tmp (res_tmp (res_nil rfl))) trivial (fun W h=>ok_pre (H1:=[]) (R1:=[]) h (fun W hφ=>hφ)) (.inr rfl)
   replace hm:=ite_f hm (bool_nt h37)
   refine g_no rfl rfl rfl rfl rfl h37<|g_do rfl rfl rfl rfl rfl h30<|g_v rfl (r_pick0 rfl h37)<|g_do rfl rfl rfl rfl rfl h25<|g_v rfl (r_pick0 rfl h30)<|g_v rfl (r_pick1 rfl h25)<|g_v rfl r_assign<|g_v rfl r_assign<|g_nil<|d_then ?_
   refine c_flat [(4,Vi i24),(5,.bool false)] ⟨rfl,rfl,trivial⟩ (fun u=>?_)
   refine c_ret ?_
   cases hm
   exact d_retC () Tryz.results28 (res_tmp (res_tmp (res_nil rfl))) trivial (fun W h=>ok_pre (H1:=[]) (R1:=[]) h (fun W hφ=>hφ)) (.inr rfl)
  replace hm:=ite_t hm (of_decide_eq_true h30)
  iterate 5 refine g_no rfl rfl rfl rfl rfl h30 ?_
  refine g_nu rfl rfl rfl rfl rfl<|g_nu rfl rfl rfl rfl rfl<|g_no rfl rfl rfl rfl rfl h30<|g_do rfl rfl rfl rfl rfl h25<|g_v rfl (r_pick1 rfl h30)<|g_v rfl (r_pick1 rfl h25)<|g_v rfl r_assign<|g_v rfl r_assign<|g_nil<|d_then ?_
  refine c_flat [(4,Vi i24),(5,.bool true)] ⟨rfl,rfl,trivial⟩ (fun u=>?_)
  refine c_ret ?_
  cases hm
  exact d_retC () Tryz.results28 (res_tmp (res_tmp (res_nil rfl))) trivial (fun W h=>ok_pre (H1:=[]) (R1:=[]) h (fun W hφ=>hφ)) (.inr rfl)
 replace hm:=ite_f hm (of_decide_eq_false h25)
 iterate 6 refine g_no rfl rfl rfl rfl rfl h25 ?_
 iterate 9 refine g_nu rfl rfl rfl rfl rfl ?_
 refine g_no rfl rfl rfl rfl rfl h25<|g_v rfl (r_pick0 rfl h25)<|g_v rfl r_assign<|g_v rfl r_assign<|g_nil<|d_then<|c_ret ?_
 cases hm
 exact d_retC () Tryz.results28 (res_tmp (res_tmp (res_nil rfl))) trivial (fun W h=>ok_pre (H1:=[]) (R1:=[]) h (fun W hφ=>hφ)) (.inr rfl)
theorem lit3_18 (z0 : Int) : Tryz.prog.builtSlice 3 1 [(0,Vi z0)] = some #[Vi z0]:=by kernel_rfl
noncomputable def m_slices_Delete_30 (p0 : List Int) (p1 : Int) (p2 : Int) : Option (List Int):=
  (cutMid p0 p1 p2).bind fun l1=>
  if p1 = p2 then
    some p0
  else
    (cutHi p0 p1).bind fun l7=>
    (cutLo p0 p2).bind fun l8=>
    some (l7++l8)
theorem c_slices_Delete_30 {w0 : World} {M : Nat→Prop} {H : List (Nat×Nat×Obj)} {R : List (Nat×Row)} {φ : World→Prop} (p0 : List Int) (Ap0_0 : Option Addr) (cp0_0 : Nat) (hcp0_0 : p0.length ≤ cp0_0) (p1 : Int) (p2 : Int) (r : (List Int)) (hm : m_slices_Delete_30 p0 p1 p2 = some r) :
    Cn Tryz.prog 30 #[.slice Ap0_0 p0.length cp0_0,Vi p1,Vi p2] ⟨w0,M,H,(1000,⟨.slice Ap0_0 p0.length cp0_0,3,1,p0.length,p0.flatMap (fun x : Int=>[Value.int .i64 x])⟩)::R,φ⟩ (fun x : Option Addr×Nat=>.slice x.1 r.length x.2) (fun x=>r.length ≤ x.2) (fun x=>⟨w0,M,H,(2000,⟨.slice x.1 r.length x.2,3,1,r.length,r.flatMap (fun x : Int=>[Value.int .i64 x])⟩)::R,φ⟩):=by
 unfold m_slices_Delete_30 at hm
 refine cn_intro (fn:=Tryz.f30) (N:=33) Tryz.func30 rfl Tryz.ntmps30 rfl<|c_seq<|c_region<|g_v rfl r_assign<|g_nil<|d_then<|c_seq<|c_region ?_
 iterate 4 refine g_v rfl r_move ?_
 refine g_v rfl (r_lenL Tryz.underlying25 rfl) ?_
 replace hm:=bnd hm
 obtain ⟨l1,hl1,hm⟩:=hm
 refine g_v rfl (r_lcutMidF Tryz.underlying25 Tryz.sizeOf3 rfl hcp0_0 rfl rfl rfl rfl hl1)<|g_nil<|d_then<|c_seq<|c_seq<|c_region<|g_v rfl r_move<|g_v rfl r_move<|g_v rfl (r_eql rfl rfl)<|g_nil ?_
 refine d_then ?_
 refine c_flat [(0,.slice Ap0_0 p0.length cp0_0),(1,Vi p1),(2,Vi p2),(16,.bool (decide (p1 = p2)))] ⟨rfl,rfl,rfl,rfl,trivial⟩ (fun u=>?_)
 refine c_sta ⟨w0,M,H,(1000,⟨.slice Ap0_0 p0.length cp0_0,3,1,p0.length,p0.flatMap (fun x : Int=>[Value.int .i64 x])⟩)::R,φ⟩ (fun _ h=>h) ?_
 refine c_cond rfl (fun h2=>?_) (fun h2=>?_)
 ·
  replace hm:=ite_t hm (of_decide_eq_true h2)
  refine c_seq<|c_region<|g_v rfl r_move<|g_v rfl r_assign<|g_nil<|d_then<|c_ret<|d_ret_then ?_
  cases hm
  refine d_sta _ (fun W h=>ok_frontR (t:=1000) (t':=2000) h rfl) ?_
  exact d_retC (Ap0_0,cp0_0) Tryz.results30 (res_tmp (res_nil rfl)) hcp0_0 (fun W h=>h.phi (fun W hφ=>hφ)) (.inr rfl)
 replace hm:=ite_f hm (of_decide_eq_false h2)
 refine c_skip<|d_then<|c_seq<|c_region<|g_v rfl r_move<|g_v rfl (r_lenL Tryz.underlying25 rfl)<|g_v rfl r_assign<|g_nil<|d_then<|c_seq ?_
 refine ga_start (n:=8) ⟨w0,M,H,R,φ⟩ [] #[false,false,false,false,false,false,false,false] (fun W h=>(h.dropR (t:=1000) rfl).phi (fun W hφ=>hφ)) mixed rfl rfl<|ga_v (i:=0) (bz 8 1) rfl (by kernel_rfl) (fun _ _ _ _ h=>h) rfl (r_move)<|ga_v (i:=1) (bz 8 3) rfl (by kernel_rfl) (fun _ _ _ _ h=>h) rfl (r_move) ?_
 replace hm:=bnd hm
 obtain ⟨l7,hl7,hm⟩:=hm
 refine ga_v (i:=2) (bz 8 7) rfl (by kernel_rfl) (fun _ _ _ _ h=>h) rfl (r_lcutHi Tryz.underlying25 Tryz.sizeOf3 rfl hcp0_0 rfl hl7)<|ga_v (i:=3) (bz 8 15) rfl (by kernel_rfl) (fun _ _ _ _ h=>h) rfl (r_move)<|ga_r (i:=4) (bz 8 31) rfl (by kernel_rfl) (by decide) rfl (r_move) ?_
 replace hm:=bnd hm
 obtain ⟨l8,hl8,hm⟩:=hm
 refine ga_r (i:=5) (bz 8 63) rfl (by kernel_rfl) (by decide) rfl (r_lcutLo Tryz.underlying25 Tryz.sizeOf3 rfl hcp0_0 rfl hl8) ?_
 refine ga_e (i:=6) (bz 8 127) rfl (by kernel_rfl) (by decide) rfl  (e_appSelf (tag:=1000) (enc:=(fun x : Int=>[Value.int .i64 x])) Tryz.underlying25 inf3_11 (by decide) (fun _=>rfl) (fun _=>rfl) rfl hl7 rfl hl8 (cutMid_le hl1) hcp0_0 rfl) (fun _ W _ h=>(h.dropR (t:=1000) rfl).phi (fun W hφ=>hφ)) (fun _ _=>?_)
 refine ga_r (i:=7) (bz 8 255) rfl (by kernel_rfl) (by decide) rfl (r_assign)<|ga_done (by kernel_rfl)<|d_then ?_
 refine c_flat [(0,.slice Ap0_0 (l7++l8).length cp0_0),(7,Vi (p0.length : Int))] ⟨rfl,rfl,trivial⟩ (fun u=>?_)
 refine c_sta ⟨w0,M,H,(1000,⟨.slice Ap0_0 (l7++l8).length cp0_0,3,1,(l7++l8).length,(l7++l8).flatMap (fun x : Int=>[Value.int .i64 x])⟩)::R,φ⟩ (fun _ h=>h)<|c_seq<|c_region<|g_v rfl r_move<|g_v rfl r_move<|g_v rfl (r_lenL Tryz.underlying25 rfl)<|g_v rfl r_move<|g_v rfl (r_lcutUp (n:=p0.length) Tryz.underlying25 Tryz.sizeOf3 rfl rfl rfl (self_len hl7 hl8 (cutMid_le hl1)) hcp0_0)<|g_e0 (e_clearT (tag:=1000) (enc:=(fun x : Int=>[Value.int .i64 x])) (l:=(l7++l8)) Tryz.underlying25 Tryz.zeroValue3 rfl rfl rfl (Nat.le_trans (Nat.le_of_eq (Nat.add_sub_cancel' (self_len hl7 hl8 (cutMid_le hl1)))) hcp0_0) rfl)<|g_nil ?_
 refine d_then<|c_seq<|c_region<|g_v rfl r_move<|g_v rfl r_assign<|g_nil<|d_then<|c_ret ?_
 cases hm
 refine d_sta _ (fun W h=>ok_frontR (t:=1000) (t':=2000) h rfl) ?_
 exact d_retC (Ap0_0,cp0_0) Tryz.results30 (res_tmp (res_nil rfl)) (Nat.le_trans (self_len hl7 hl8 (cutMid_le hl1)) hcp0_0) (fun W h=>h.phi (fun W hφ=>hφ)) (.inr rfl)
noncomputable def m_name_Lower_j1  (l55 : List Int) : Option ByteArray:=
  some (strOfNums l55)
noncomputable def m_name_Lower_s2 (p0 : ByteArray) (l78 : List Int) (i79 : Int) : Option (((List Int)×Int) ⊕ (List Int)):=
  if i79 < (((bytesI p0).length) : Int) then
    (at_ l78 i79).bind fun x104=>
    if 65 ≤ x104 then
      (at_ l78 i79).bind fun x109=>
      if x109 ≤ 90 then
        (at_ l78 i79).bind fun x114=>
        (at_ l78 i79).bind fun x118=>
        (setAt l78 i79 (orI .u8 x114 32)).bind fun l122=>
        some (.inl (l122,w64 (i79 + 1)))
      else
        some (.inl (l78,w64 (i79 + 1)))
    else
      some (.inl (l78,w64 (i79 + 1)))
  else
    some (.inr l78)
noncomputable def m_name_Lower (p0 : ByteArray) : Option ByteArray:=
  (loop (fun s=>m_name_Lower_s2 p0 s.1 s.2) ((bytesI p0),0)).bind fun e=>m_name_Lower_j1 e
theorem c_name_Lower {w0 : World} {M : Nat→Prop} {H : List (Nat×Nat×Obj)} {R : List (Nat×Row)} {φ : World→Prop} (p0 : ByteArray) (r : ByteArray) (hm : m_name_Lower p0 = some r) :
    Cn Tryz.prog 37 #[Vs p0] ⟨w0,M,H,R,φ⟩ (fun x : Unit=>Vs r) (fun x=>True) (fun x=>⟨w0,M,H,R,φ⟩):=by
 unfold m_name_Lower at hm
 refine cn_intro (fn:=Tryz.f37) (N:=33) Tryz.func37 rfl Tryz.ntmps37 rfl<|c_seq<|c_region<|g_v rfl r_assign<|g_nil<|d_then<|c_seq<|c_region<|g_v rfl r_move ?_
 refine g_e rfl (e_bytesH 100060 Tryz.underlying9 Tryz.underlying70 Tryz.underlying5 rfl) (fun ⟨g5,c6,T7⟩ hc6=>?_)
 refine g_v rfl r_assign<|g_nil<|d_then<|c_seq<|c_seq<|c_region<|g_v rfl r_move<|g_v rfl (r_lenL Tryz.underlying70 rfl)<|g_v rfl r_move<|g_nil ?_
 refine d_then ?_
 refine c_cut (ι:=(List Int)) [3] (fun l55=>[(3,.slice (some ⟨g5,0,none⟩) ((bytesI p0).length) c6)]) (fun l55=>⟨w0,M,(100060,g5,rowO l55 T7 5)::H,R,φ⟩) (fun l55=>m_name_Lower_j1 l55 = some r∧l55.length = (bytesI p0).length) ?_ (fun l55 u ⟨hm,hl55⟩=>?_)
 ·
  refine c_block ?_
  replace hm:=bnd hm
  obtain ⟨out2,hl2,hr2⟩:=hm
  obtain ⟨n102',hl2⟩:=loop_lp hl2
  refine c_loopU (ι:=Nat×(List Int)×Int) [3,8,9] (fun ⟨n102,l78,i79⟩=>[(3,.slice (some ⟨g5,0,none⟩) ((bytesI p0).length) c6),(9,Vi i79)]) (fun ⟨n102,l78,i79⟩=>⟨w0,M,(100060,g5,rowO l78 T7 5)::H,R,φ⟩) (fun ⟨n102,l78,i79⟩=>Lp (fun s=>m_name_Lower_s2 p0 s.1 s.2) n102 (l78,i79) out2∧l78.length = (bytesI p0).length) (fun ⟨n102,l78,i79⟩=>n102) (n102',(bytesI p0),0) ⟨hl2,rfl⟩ ⟨rfl,rfl,rfl,trivial⟩ (fun W h=>h.phi (fun W hφ=>hφ)) (fun ⟨n102,l78,i79⟩ u ⟨hlp,hl78⟩=>?_)
  obtain ⟨o2,hm,hnx2⟩:=lp_step hlp
  clear hlp
  replace hm : m_name_Lower_s2 p0 l78 i79 = some o2:=hm
  unfold m_name_Lower_s2 at hm
  refine c_flat [(3,.slice (some ⟨g5,0,none⟩) ((bytesI p0).length) c6),(8,Vi (((bytesI p0).length) : Int)),(9,Vi i79)] ⟨rfl,rfl,rfl,trivial⟩ (fun u=>?_)
  refine c_sta ⟨w0,M,(100060,g5,rowO l78 T7 5)::H,R,φ⟩ (fun _ h=>h)<|c_seq<|c_region<|g_v rfl (r_lss rfl rfl)<|g_nil<|d_then<|c_seq ?_
  refine c_cond rfl (fun h103=>?_) (fun h103=>?_)
  ·
   replace hm:=ite_t hm (of_decide_eq_true h103)
   refine c_skip<|d_then<|c_seq<|c_block<|c_seq<|c_region<|g_v rfl r_move<|g_v rfl r_assign<|g_nil<|d_then ?_
   refine c_seq<|c_region<|g_v rfl r_move<|g_v rfl r_move ?_
   replace hm:=bnd hm
   obtain ⟨x104,hx104,hm⟩:=hm
   refine g_know _ (fun W hS=>cl_at (p:=(Sta.ok ⟨w0,M,(100060,g5,rowO l78 T7 5)::H,R,φ⟩)) (sz:=1) (fun _=>rfl) (by decide) hS (hrowCl (S:=⟨w0,M,(100060,g5,rowO l78 T7 5)::H,R,φ⟩) (tag:=100060) rfl) hx104) ?_
   rintro ⟨ad105,hA107,f106⟩
   refine g_v rfl (r_ixN hl78 Tryz.underlying70 Tryz.sizeOf5 rfl hA107 rfl hx104)<|g_v rfl (r_ld rfl Tryz.isAgg5 (fun W hS=>Cl.head (f106 W hS)))<|g_v rfl (r_geq rfl rfl)<|g_v rfl r_move ?_
   refine g_if rfl rfl rfl rfl rfl (fun h108=>?_) (fun h108=>?_)
   ·
    replace hm:=ite_t hm (of_decide_eq_true h108)
    refine g_v rfl r_move<|g_do rfl rfl rfl rfl rfl h108<|g_v rfl r_move<|g_do rfl rfl rfl rfl rfl h108 ?_
    replace hm:=bnd hm
    obtain ⟨x109,hx109,hm⟩:=hm
    refine g_know _ (fun W hS=>cl_at (p:=(Sta.ok ⟨w0,M,(100060,g5,rowO l78 T7 5)::H,R,φ⟩)) (sz:=1) (fun _=>rfl) (by decide) hS (hrowCl (S:=⟨w0,M,(100060,g5,rowO l78 T7 5)::H,R,φ⟩) (tag:=100060) rfl) hx109) ?_
    rintro ⟨ad110,hA112,f111⟩
    refine g_v rfl (r_ixN hl78 Tryz.underlying70 Tryz.sizeOf5 rfl hA112 rfl hx109)<|g_do rfl rfl rfl rfl rfl h108<|g_v rfl (r_ld rfl Tryz.isAgg5 (fun W hS=>Cl.head (f111 W hS)))<|g_do rfl rfl rfl rfl rfl h108<|g_v rfl (r_leq rfl rfl)<|g_v rfl (r_pick1 rfl h108)<|g_nil<|d_then ?_
    refine c_flat [(3,.slice (some ⟨g5,0,none⟩) ((bytesI p0).length) c6),(4,Vi i79),(8,Vi (((bytesI p0).length) : Int)),(9,Vi i79),(23,.bool (decide (x109 ≤ 90)))] ⟨rfl,rfl,rfl,rfl,rfl,trivial⟩ (fun u=>?_)
    refine c_cond rfl (fun h113=>?_) (fun h113=>?_)
    ·
     replace hm:=ite_t hm (of_decide_eq_true h113)
     refine c_region<|g_v rfl r_move<|g_v rfl r_move ?_
     replace hm:=bnd hm
     obtain ⟨x114,hx114,hm⟩:=hm
     refine g_know _ (fun W hS=>cl_at (p:=(Sta.ok ⟨w0,M,(100060,g5,rowO l78 T7 5)::H,R,φ⟩)) (sz:=1) (fun _=>rfl) (by decide) hS (hrowCl (S:=⟨w0,M,(100060,g5,rowO l78 T7 5)::H,R,φ⟩) (tag:=100060) rfl) hx114) ?_
     rintro ⟨ad115,hA117,f116⟩
     refine g_v rfl (r_ixN hl78 Tryz.underlying70 Tryz.sizeOf5 rfl hA117 rfl hx114)<|g_v rfl (r_ld rfl Tryz.isAgg5 (fun W hS=>Cl.head (f116 W hS)))<|g_v rfl (r_bits_or rfl rfl) ?_
     replace hm:=bnd hm
     obtain ⟨x118,hx118,hm⟩:=hm
     refine g_know _ (fun W hS=>cl_at (p:=(Sta.ok ⟨w0,M,(100060,g5,rowO l78 T7 5)::H,R,φ⟩)) (sz:=1) (fun _=>rfl) (by decide) hS (hrowCl (S:=⟨w0,M,(100060,g5,rowO l78 T7 5)::H,R,φ⟩) (tag:=100060) rfl) hx118) ?_
     rintro ⟨ad119,hA121,f120⟩
     refine g_v rfl (r_ixN hl78 Tryz.underlying70 Tryz.sizeOf5 rfl hA121 rfl hx118) ?_
     replace hm:=bnd hm
     obtain ⟨l122,hl122,hm⟩:=hm
     refine g_stH (tag:=100060) (l:=l78) rfl rfl hA121 rfl hl122 rfl Tryz.sizeOf5<|g_nil<|d_normal_block<|d_then<|c_region<|g_v rfl (r_add rfl rfl rfl)<|g_v rfl r_move<|g_nil ?_
     obtain ⟨n123,hn123,hlp⟩:=nx_inl hm hnx2
     exact d_round (n123,l122,w64 (i79 + 1)) ⟨hlp,((setAt_lenE hl122).trans hl78)⟩ hn123 ⟨rfl,rfl,rfl,trivial⟩ (fun W h=>h.phi (fun W hφ=>hφ))
    replace hm:=ite_f hm (of_decide_eq_false h113)
    refine c_skip<|d_normal_block<|d_then<|c_region<|g_v rfl (r_add rfl rfl rfl)<|g_v rfl r_move<|g_nil ?_
    obtain ⟨n124,hn124,hlp⟩:=nx_inl hm hnx2
    exact d_round (n124,l78,w64 (i79 + 1)) ⟨hlp,hl78⟩ hn124 ⟨rfl,rfl,rfl,trivial⟩ (fun W h=>h.phi (fun W hφ=>hφ))
   replace hm:=ite_f hm (of_decide_eq_false h108)
   iterate 4 refine g_no rfl rfl rfl rfl rfl h108 ?_
   refine g_v rfl (r_pick0 rfl h108)<|g_nil<|d_then ?_
   refine c_flat [(3,.slice (some ⟨g5,0,none⟩) ((bytesI p0).length) c6),(4,Vi i79),(8,Vi (((bytesI p0).length) : Int)),(9,Vi i79),(23,.bool false)] ⟨rfl,rfl,rfl,rfl,rfl,trivial⟩ (fun u=>?_)
   refine c_cond0 rfl rfl<|c_skip<|d_normal_block<|d_then<|c_region<|g_v rfl (r_add rfl rfl rfl)<|g_v rfl r_move<|g_nil ?_
   obtain ⟨n125,hn125,hlp⟩:=nx_inl hm hnx2
   exact d_round (n125,l78,w64 (i79 + 1)) ⟨hlp,hl78⟩ hn125 ⟨rfl,rfl,rfl,trivial⟩ (fun W h=>h.phi (fun W hφ=>hφ))
  replace hm:=ite_f hm (of_decide_eq_false h103)
  refine c_exit<|d_exit_then<|d_exit_then<|d_exit_block ?_
  replace hm:=nx_out (C:=(fun e : (List Int)=>m_name_Lower_j1 e = some r)) hm hnx2 hr2
  exact d_round l78 ⟨hm,hl78⟩ Nat.zero_lt_one ⟨rfl,trivial⟩ (fun W h=>h.phi (fun W hφ=>hφ))
 unfold m_name_Lower_j1 at hm
 refine d_flat [(3,.slice (some ⟨g5,0,none⟩) ((bytesI p0).length) c6)] ⟨rfl,trivial⟩ (fun u=>?_)
 refine d_sta ⟨w0,M,(100060,g5,rowO l55 T7 5)::H,R,φ⟩ (fun _ h=>h)<|d_then<|c_seq<|c_region<|g_v rfl r_move<|g_v rfl (r_textN hl55 Tryz.underlying70 Tryz.underlying5 Tryz.underlying9 rfl (hrowCl (tag:=100060) rfl))<|g_v rfl r_assign<|g_nil<|d_then<|c_ret ?_
 cases hm
 exact d_retC () Tryz.results37 (res_tmp (res_nil rfl)) trivial (fun W h=>ok_pre (H1:=[_]) (R1:=[]) h (fun W hφ=>hφ)) (.inr rfl)
noncomputable def m_name_Same (p0 : ByteArray) (p1 : ByteArray) : Option Bool:=
  (m_name_Check p0).bind fun x1=>
  if x1 = 0 then
    (m_name_Lower p0).bind fun x4=>
    (m_name_Lower p1).bind fun x6=>
    some (decide (x4 = x6))
  else
    some false
theorem c_name_Same {w0 : World} {M : Nat→Prop} {H : List (Nat×Nat×Obj)} {R : List (Nat×Row)} {φ : World→Prop} (p0 : ByteArray) (p1 : ByteArray) (r : Bool) (hm : m_name_Same p0 p1 = some r) :
    Cn Tryz.prog 33 #[Vs p0,Vs p1] ⟨w0,M,H,R,φ⟩ (fun x : Unit=>.bool r) (fun x=>True) (fun x=>⟨w0,M,H,R,φ⟩):=by
 unfold m_name_Same at hm
 refine cn_intro (fn:=Tryz.f33) (N:=15) Tryz.func33 rfl Tryz.ntmps33 rfl<|c_seq<|c_region<|g_v rfl r_assign<|g_nil<|d_then<|c_seq<|c_region<|g_v rfl r_move ?_
 replace hm:=bnd hm
 obtain ⟨x1,hx2,hm⟩:=hm
 refine g_cn ⟨w0,M,_,_,φ⟩ (fun _ h=>h) Tryz.call90 rfl rfl (c_name_Check p0 _ hx2) (fun _ _=>?_)
 refine g_v rfl (r_eql rfl rfl)<|g_v rfl r_move ?_
 refine g_if rfl rfl rfl rfl rfl (fun h3=>?_) (fun h3=>?_)
 ·
  replace hm:=ite_t hm (of_decide_eq_true h3)
  refine g_v rfl r_move<|g_do rfl rfl rfl rfl rfl h3 ?_
  replace hm:=bnd hm
  obtain ⟨x4,hx5,hm⟩:=hm
  refine g_cn ⟨w0,M,_,_,φ⟩ (fun _ h=>h) Tryz.call37 rfl rfl (c_name_Lower p0 _ hx5) (fun _ _=>?_)
  refine g_do rfl rfl rfl rfl rfl h3<|g_v rfl r_move<|g_do rfl rfl rfl rfl rfl h3 ?_
  replace hm:=bnd hm
  obtain ⟨x6,hx7,hm⟩:=hm
  refine g_cn ⟨w0,M,_,_,φ⟩ (fun _ h=>h) Tryz.call37 rfl rfl (c_name_Lower p1 _ hx7) (fun _ _=>?_)
  refine g_do rfl rfl rfl rfl rfl h3<|g_v rfl (r_eqlT rfl rfl)<|g_v rfl (r_pick1 rfl h3)<|g_v rfl r_assign<|g_nil<|d_then ?_
  refine c_flat [(4,.bool (decide (x4 = x6)))] ⟨rfl,trivial⟩ (fun u=>?_)
  refine c_sta ⟨w0,M,H,R,φ⟩ (fun _ h=>h)<|c_ret ?_
  cases hm
  exact d_retC () Tryz.results33 (res_tmp (res_nil rfl)) trivial (fun W h=>ok_pre (H1:=[]) (R1:=[]) h (fun W hφ=>hφ)) (.inr rfl)
 replace hm:=ite_f hm (of_decide_eq_false h3)
 iterate 4 refine g_no rfl rfl rfl rfl rfl h3 ?_
 refine g_v rfl (r_pick0 rfl h3)<|g_v rfl r_assign<|g_nil<|d_then<|c_ret ?_
 cases hm
 exact d_retC () Tryz.results33 (res_tmp (res_nil rfl)) trivial (fun W h=>ok_pre (H1:=[]) (R1:=[]) h (fun W hφ=>hφ)) (.inr rfl)
noncomputable def m_conf_Apply_c1 (p0 : GAnchor) (o0 : GOrder) : Option Bool:=
  (m_name_Same p0.fName o0.fName).bind fun x2=>
  some x2
theorem c_conf_Apply_c1 {w0 : World} {M : Nat→Prop} {H : List (Nat×Nat×Obj)} {R : List (Nat×Row)} {φ : World→Prop} (p0 : GAnchor) (go0 : Nat) (o0 : GOrder) (Ao0_0 : Option Addr) (co0_0 : Nat) (hco0_0 : o0.fHints.length ≤ co0_0) (fo0_0 : ∀ W,φ W→Cl W Ao0_0 (o0.fHints.flatMap (fun x : ByteArray=>[Value.string x]))) (r : Bool) (hm : m_conf_Apply_c1 p0 o0 = some r) :
    Cn Tryz.prog 32 #[.agg #[Vs p0.fName,Vs p0.fText],Vp go0] ⟨w0,M,(1000,go0,.cells #[Vi o0.fKind,Vi o0.fNode,Vs o0.fName,Vs o0.fText,Vs o0.fZone,.slice Ao0_0 o0.fHints.length co0_0] 32 (0,0))::H,R,φ⟩ (fun x : Unit=>.bool r) (fun x=>True) (fun x=>⟨w0,M,(1000,go0,.cells #[Vi o0.fKind,Vi o0.fNode,Vs o0.fName,Vs o0.fText,Vs o0.fZone,.slice Ao0_0 o0.fHints.length co0_0] 32 (0,0))::H,R,φ⟩):=by
 unfold m_conf_Apply_c1 at hm
 refine cn_intro (fn:=Tryz.f32) (N:=9) Tryz.func32 rfl Tryz.ntmps32 rfl<|c_seq<|c_region ?_
 refine g_e rfl (e_box 100020 rfl) (fun g1 _=>?_)
 refine g_v rfl r_assign<|g_nil<|d_then<|c_seq<|c_region<|g_v rfl (r_field (n:=0) Tryz.underlying55 rfl Tryz.sizeOf9 rfl rfl)<|g_v rfl (r_load (tag:=100020) rfl rfl rfl Tryz.isAgg9)<|g_v rfl (r_field (n:=2) Tryz.underlying32 rfl Tryz.sizeOf9 rfl rfl)<|g_v rfl (r_load (tag:=1000) rfl rfl rfl Tryz.isAgg9) ?_
 replace hm:=bnd hm
 obtain ⟨x2,hx3,hm⟩:=hm
 refine g_cn ⟨w0,M,_,_,φ⟩ (fun _ h=>h) Tryz.call33 rfl rfl (c_name_Same p0.fName o0.fName _ hx3) (fun _ _=>?_)
 refine g_v rfl r_assign<|g_nil<|d_then<|c_ret ?_
 cases hm
 exact d_retC () Tryz.results32 (res_tmp (res_nil rfl)) trivial (fun W h=>(h.dropH (t:=100020) rfl).phi (fun W hφ=>hφ)) (.inr rfl)
noncomputable def m_slices_IndexFunc_89_j1  : Option Int:=
  some (-1)
noncomputable def m_slices_IndexFunc_89_s2 (p0 : List GAnchor) (o0 : GOrder) (i30 : Int) : Option (Int ⊕ (Unit ⊕ Int)):=
  if i30 < (p0.length : Int) then
    (at_ p0 i30).bind fun x42=>
    (m_conf_Apply_c1 x42 o0).bind fun x46=>
    if x46 = true then
      some (.inr (.inr i30))
    else
      some (.inl (w64 (i30 + 1)))
  else
    some (.inr (.inl ()))
noncomputable def m_slices_IndexFunc_89 (p0 : List GAnchor) (o0 : GOrder) : Option Int:=
  (loop (fun s=>m_slices_IndexFunc_89_s2 p0 o0 s) 0).bind fun e=>Sum.elim (fun e=>m_slices_IndexFunc_89_j1) (fun x=>some x) e
theorem c_slices_IndexFunc_89 {w0 : World} {M : Nat→Prop} {H : List (Nat×Nat×Obj)} {R : List (Nat×Row)} {φ : World→Prop} (p0 : List GAnchor) (Ap0_0 : Option Addr) (cp0_0 : Nat) (hcp0_0 : p0.length ≤ cp0_0) (fp0_0 : ∀ W,(Sta.mk w0 M H R φ).ok W→Cl W Ap0_0 (p0.flatMap GAnchor.enc)) (go0 : Nat) (o0 : GOrder) (Ao0_0 : Option Addr) (co0_0 : Nat) (hco0_0 : o0.fHints.length ≤ co0_0) (fo0_0 : ∀ W,φ W→Cl W Ao0_0 (o0.fHints.flatMap (fun x : ByteArray=>[Value.string x]))) (r : Int) (hm : m_slices_IndexFunc_89 p0 o0 = some r) :
    Cn Tryz.prog 89 #[.slice Ap0_0 p0.length cp0_0,.func (.func 32) #[] #[Vp go0]] ⟨w0,M,(1000,go0,.cells #[Vi o0.fKind,Vi o0.fNode,Vs o0.fName,Vs o0.fText,Vs o0.fZone,.slice Ao0_0 o0.fHints.length co0_0] 32 (0,0))::H,R,φ⟩ (fun x : Unit=>Vi r) (fun x=>True) (fun x=>⟨w0,M,(1000,go0,.cells #[Vi o0.fKind,Vi o0.fNode,Vs o0.fName,Vs o0.fText,Vs o0.fZone,.slice Ao0_0 o0.fHints.length co0_0] 32 (0,0))::H,R,φ⟩):=by
 unfold m_slices_IndexFunc_89 at hm
 refine cn_intro (fn:=Tryz.f89) (N:=19) Tryz.func89 rfl Tryz.ntmps89 rfl<|c_seq<|c_region<|g_v rfl r_assign<|g_nil<|d_then<|c_seq<|c_seq<|c_region<|g_v rfl r_move ?_
 refine g_v rfl (r_lenL Tryz.underlying27 rfl)<|g_v rfl r_move<|g_nil<|d_then ?_
 refine c_cut (ι:=Unit) [] (fun _=>[]) (fun _=>⟨w0,M,(1000,go0,.cells #[Vi o0.fKind,Vi o0.fNode,Vs o0.fName,Vs o0.fText,Vs o0.fZone,.slice Ao0_0 o0.fHints.length co0_0] 32 (0,0))::H,R,φ⟩) (fun _=>m_slices_IndexFunc_89_j1 = some r) ?_ (fun _ u hm=>?_)
 ·
  refine c_block ?_
  replace hm:=bnd hm
  obtain ⟨out2,hl2,hr2⟩:=hm
  obtain ⟨n40',hl2⟩:=loop_lp hl2
  refine c_loopU (ι:=Nat×Int) [0,1,7,8] (fun ⟨n40,i30⟩=>[(8,Vi i30)]) (fun ⟨n40,i30⟩=>⟨w0,M,(1000,go0,.cells #[Vi o0.fKind,Vi o0.fNode,Vs o0.fName,Vs o0.fText,Vs o0.fZone,.slice Ao0_0 o0.fHints.length co0_0] 32 (0,0))::H,R,φ⟩) (fun ⟨n40,i30⟩=>Lp (fun s=>m_slices_IndexFunc_89_s2 p0 o0 s) n40 i30 out2) (fun ⟨n40,i30⟩=>n40) (n40',0) hl2 ⟨rfl,rfl,rfl,rfl,trivial⟩ (fun W h=>h.phi (fun W hφ=>hφ)) (fun ⟨n40,i30⟩ u hlp=>?_)
  obtain ⟨o2,hm,hnx2⟩:=lp_step hlp
  clear hlp
  replace hm : m_slices_IndexFunc_89_s2 p0 o0 i30 = some o2:=hm
  unfold m_slices_IndexFunc_89_s2 at hm
  refine c_flat [(0,.slice Ap0_0 p0.length cp0_0),(1,.func (.func 32) #[] #[Vp go0]),(7,Vi (p0.length : Int)),(8,Vi i30)] ⟨rfl,rfl,rfl,rfl,trivial⟩ (fun u=>?_)
  refine c_sta ⟨w0,M,(1000,go0,.cells #[Vi o0.fKind,Vi o0.fNode,Vs o0.fName,Vs o0.fText,Vs o0.fZone,.slice Ao0_0 o0.fHints.length co0_0] 32 (0,0))::H,R,φ⟩ (fun _ h=>h)<|c_seq<|c_region<|g_v rfl (r_lss rfl rfl)<|g_nil<|d_then<|c_seq ?_
  refine c_cond rfl (fun h41=>?_) (fun h41=>?_)
  ·
   replace hm:=ite_t hm (of_decide_eq_true h41)
   refine c_skip<|d_then<|c_seq<|c_block<|c_seq<|c_region<|g_v rfl r_move<|g_v rfl r_assign<|g_nil<|d_then ?_
   refine c_seq<|c_region ?_
   iterate 3 refine g_v rfl r_move ?_
   replace hm:=bnd hm
   obtain ⟨x42,hx42,hm⟩:=hm
   refine g_know _ (fun W hS=>cl_at (p:=(Sta.mk w0 M H R φ).ok) (sz:=2) (fun _=>rfl) (by decide) (ok_pre (H1:=[_]) (R1:=[]) hS (fun W h=>h)) fp0_0 hx42) ?_
   rintro ⟨ad43,hA45,f44⟩
   refine g_v rfl (r_ix Tryz.underlying27 Tryz.sizeOf55 rfl hA45 rfl hx42)<|g_v rfl (r_ldA rfl Tryz.isAgg55 Tryz.sizeOf55 (fun W hS=>(f44 W (ok_pre (H1:=[_]) (R1:=[]) hS (fun W h=>h))).take 2) rfl) ?_
   replace hm:=bnd hm
   obtain ⟨x46,hx47,hm⟩:=hm
   refine g_cnv ⟨w0,M,(1000,go0,.cells #[Vi o0.fKind,Vi o0.fNode,Vs o0.fName,Vs o0.fText,Vs o0.fZone,.slice Ao0_0 o0.fHints.length co0_0] 32 (0,0))::H,R,φ⟩ (fun W h=>(ok_front (t:=1000) (t':=1000) h rfl)) Tryz.call32 rfl rfl rfl (c_conf_Apply_c1 x42 go0 o0 Ao0_0 co0_0 hco0_0 (fun W h=>fo0_0 W h) _ hx47) (fun _ _=>?_)
   refine g_sta _ (fun W h=>(ok_front (t:=1000) (t':=1000) h rfl))<|g_nil<|d_then ?_
   refine c_flat [(0,.slice Ap0_0 p0.length cp0_0),(1,.func (.func 32) #[] #[Vp go0]),(5,Vi i30),(7,Vi (p0.length : Int)),(8,Vi i30),(16,.bool x46)] ⟨rfl,rfl,rfl,rfl,rfl,rfl,trivial⟩ (fun u=>?_)
   refine c_cond rfl (fun h48=>?_) (fun h48=>?_)
   ·
    replace hm:=ite_t hm h48
    refine c_seq<|c_region<|g_v rfl r_move<|g_v rfl r_assign<|g_nil<|d_then<|c_ret<|d_ret_block<|d_ret_then<|d_ret_then ?_
    refine d_ret_block<|d_ret_then<|d_ret_then ?_
    replace hm:=nx_out (C:=(fun e : Unit ⊕ Int=>Sum.elim (fun e=>m_slices_IndexFunc_89_j1) (fun x=>some x) e = some r)) hm hnx2 hr2
    replace hm : some i30 = some r:=hm
    cases hm
    exact d_retC () Tryz.results89 (res_tmp (res_nil rfl)) trivial (fun W h=>h.phi (fun W hφ=>hφ)) (.inr rfl)
   replace hm:=ite_f hm (bool_nt h48)
   refine c_skip<|d_normal_block<|d_then<|c_region<|g_v rfl (r_add rfl rfl rfl)<|g_v rfl r_move<|g_nil ?_
   obtain ⟨n49,hn49,hlp⟩:=nx_inl hm hnx2
   exact d_round (n49,w64 (i30 + 1)) hlp hn49 ⟨rfl,rfl,rfl,rfl,trivial⟩ (fun W h=>h.phi (fun W hφ=>hφ))
  replace hm:=ite_f hm (of_decide_eq_false h41)
  refine c_exit<|d_exit_then<|d_exit_then<|d_exit_block ?_
  replace hm:=nx_out (C:=(fun e : Unit ⊕ Int=>Sum.elim (fun e=>m_slices_IndexFunc_89_j1) (fun x=>some x) e = some r)) hm hnx2 hr2
  exact d_round () hm Nat.zero_lt_one trivial (fun W h=>h.phi (fun W hφ=>hφ))
 unfold m_slices_IndexFunc_89_j1 at hm
 refine d_flat [] trivial (fun u=>?_)
 refine d_sta ⟨w0,M,(1000,go0,.cells #[Vi o0.fKind,Vi o0.fNode,Vs o0.fName,Vs o0.fText,Vs o0.fZone,.slice Ao0_0 o0.fHints.length co0_0] 32 (0,0))::H,R,φ⟩ (fun _ h=>h)<|d_then<|c_seq<|c_region<|g_v rfl r_assign<|g_nil<|d_then<|c_ret ?_
 cases hm
 exact d_retC () Tryz.results89 (res_tmp (res_nil rfl)) trivial (fun W h=>h.phi (fun W hφ=>hφ)) (.inr rfl)
noncomputable def m_slices_DeleteFunc_31_j1  (l53 : List GAnchor) (i56 : Int) : Option (List GAnchor):=
  (cutLo l53 i56).bind fun l57=>
  (cutHi l53 i56).bind fun l58=>
  some l58
noncomputable def m_slices_DeleteFunc_31_s2 (o0 : GOrder) (l81 : List GAnchor) (i84 : Int) (i85 : Int) : Option (((List GAnchor)×Int×Int) ⊕ ((List GAnchor)×Int)):=
  if i85 < (l81.length : Int) then
    (at_ l81 i85).bind fun x109=>
    (m_conf_Apply_c1 x109 o0).bind fun x114=>
    if x114 = true then
      some (.inl (l81,i84,w64 (i85 + 1)))
    else
      (at_ l81 i84).bind fun x117=>
      (setAt l81 i84 x109).bind fun l121=>
      some (.inl (l121,w64 (i84 + 1),w64 (i85 + 1)))
  else
    some (.inr (l81,i84))
noncomputable def m_slices_DeleteFunc_31 (p0 : List GAnchor) (o0 : GOrder) : Option (List GAnchor):=
  (m_slices_IndexFunc_89 p0 o0).bind fun x1=>
  if x1 = (-1) then
    some p0
  else
    (loop (fun s=>m_slices_DeleteFunc_31_s2 o0 s.1 s.2.1 s.2.2) (p0,x1,w64 (x1 + 1))).bind fun e=>m_slices_DeleteFunc_31_j1 e.1 e.2
theorem c_slices_DeleteFunc_31 {w0 : World} {M : Nat→Prop} {H : List (Nat×Nat×Obj)} {R : List (Nat×Row)} {φ : World→Prop} (p0 : List GAnchor) (Ap0_0 : Option Addr) (cp0_0 : Nat) (hcp0_0 : p0.length ≤ cp0_0) (go0 : Nat) (o0 : GOrder) (Ao0_0 : Option Addr) (co0_0 : Nat) (hco0_0 : o0.fHints.length ≤ co0_0) (fo0_0 : ∀ W,φ W→Cl W Ao0_0 (o0.fHints.flatMap (fun x : ByteArray=>[Value.string x]))) (r : (List GAnchor)) (hm : m_slices_DeleteFunc_31 p0 o0 = some r) :
    Cn Tryz.prog 31 #[.slice Ap0_0 p0.length cp0_0,.func (.func 32) #[] #[Vp go0]] ⟨w0,M,(1000,go0,.cells #[Vi o0.fKind,Vi o0.fNode,Vs o0.fName,Vs o0.fText,Vs o0.fZone,.slice Ao0_0 o0.fHints.length co0_0] 32 (0,0))::H,(1000,⟨.slice Ap0_0 p0.length cp0_0,55,2,p0.length,p0.flatMap GAnchor.enc⟩)::R,φ⟩ (fun x : Option Addr×Nat=>.slice x.1 r.length x.2) (fun x=>r.length ≤ x.2) (fun x=>⟨w0,M,(1000,go0,.cells #[Vi o0.fKind,Vi o0.fNode,Vs o0.fName,Vs o0.fText,Vs o0.fZone,.slice Ao0_0 o0.fHints.length co0_0] 32 (0,0))::H,(2000,⟨.slice x.1 r.length x.2,55,2,r.length,r.flatMap GAnchor.enc⟩)::R,φ⟩):=by
 unfold m_slices_DeleteFunc_31 at hm
 refine cn_intro (fn:=Tryz.f31) (N:=42) Tryz.func31 rfl Tryz.ntmps31 rfl<|c_seq<|c_region<|g_v rfl r_assign<|g_nil<|d_then<|c_seq<|c_region<|g_v rfl r_move<|g_v rfl r_move ?_
 replace hm:=bnd hm
 obtain ⟨x1,hx2,hm⟩:=hm
 refine g_cn ⟨w0,M,(1000,go0,.cells #[Vi o0.fKind,Vi o0.fNode,Vs o0.fName,Vs o0.fText,Vs o0.fZone,.slice Ao0_0 o0.fHints.length co0_0] 32 (0,0))::H,(1000,⟨.slice Ap0_0 p0.length cp0_0,55,2,p0.length,p0.flatMap GAnchor.enc⟩)::R,φ⟩ (fun W h=>(ok_front (t:=1000) (t':=1000) h rfl)) Tryz.call89 rfl rfl (c_slices_IndexFunc_89 p0 Ap0_0 cp0_0 hcp0_0 (fun W hS=>rowCl (tag:=1000) rfl W hS) go0 o0 Ao0_0 co0_0 hco0_0 (fun W h=>fo0_0 W h) _ hx2) (fun _ _=>?_)
 refine g_sta _ (fun W h=>(ok_front (t:=1000) (t':=1000) h rfl))<|g_v rfl r_assign<|g_nil<|d_then<|c_seq<|c_seq<|c_region<|g_v rfl r_move<|g_v rfl (r_eql rfl rfl)<|g_nil ?_
 refine d_then<|c_sta ⟨w0,M,(1000,go0,.cells #[Vi o0.fKind,Vi o0.fNode,Vs o0.fName,Vs o0.fText,Vs o0.fZone,.slice Ao0_0 o0.fHints.length co0_0] 32 (0,0))::H,(1000,⟨.slice Ap0_0 p0.length cp0_0,55,2,p0.length,p0.flatMap GAnchor.enc⟩)::R,φ⟩ (fun _ h=>h) ?_
 refine c_cond rfl (fun h3=>?_) (fun h3=>?_)
 ·
  replace hm:=ite_t hm (of_decide_eq_true h3)
  refine c_seq<|c_region<|g_v rfl r_move<|g_v rfl r_assign<|g_nil<|d_then ?_
  refine c_flat [(4,.slice Ap0_0 p0.length cp0_0)] ⟨rfl,trivial⟩ (fun u=>?_)
  refine c_ret<|d_ret_then ?_
  cases hm
  refine d_sta _ (fun W h=>ok_frontR (t:=1000) (t':=2000) h rfl) ?_
  exact d_retC (Ap0_0,cp0_0) Tryz.results31 (res_tmp (res_nil rfl)) hcp0_0 (fun W h=>h.phi (fun W hφ=>hφ)) (.inr rfl)
 replace hm:=ite_f hm (of_decide_eq_false h3)
 refine c_skip<|d_then<|c_seq<|c_seq<|c_region<|g_v rfl r_move<|g_v rfl (r_add rfl rfl rfl)<|g_v rfl r_assign<|g_nil<|d_then ?_
 refine c_flat [(0,.slice Ap0_0 p0.length cp0_0),(1,.func (.func 32) #[] #[Vp go0]),(5,Vi x1),(6,Vi (w64 (x1 + 1)))] ⟨rfl,rfl,rfl,rfl,trivial⟩ (fun u=>?_)
 refine c_cut (ι:=(List GAnchor)×Int) [0,5] (fun ⟨l53,i56⟩=>[(0,.slice Ap0_0 l53.length cp0_0),(5,Vi i56)]) (fun ⟨l53,i56⟩=>⟨w0,M,(1000,go0,.cells #[Vi o0.fKind,Vi o0.fNode,Vs o0.fName,Vs o0.fText,Vs o0.fZone,.slice Ao0_0 o0.fHints.length co0_0] 32 (0,0))::H,(1000,⟨.slice Ap0_0 l53.length cp0_0,55,2,l53.length,l53.flatMap GAnchor.enc⟩)::R,φ⟩) (fun ⟨l53,i56⟩=>m_slices_DeleteFunc_31_j1 l53 i56 = some r∧(l53.length ≤ cp0_0∧l53.length = p0.length)) ?_ (fun ⟨l53,i56⟩ u ⟨hm,hl53⟩=>?_)
 ·
  refine c_block ?_
  replace hm:=bnd hm
  obtain ⟨out2,hl2,hr2⟩:=hm
  obtain ⟨n107',hl2⟩:=loop_lp hl2
  refine c_loopU (ι:=Nat×(List GAnchor)×Int×Int) [0,1,5,6] (fun ⟨n107,l81,i84,i85⟩=>[(0,.slice Ap0_0 l81.length cp0_0),(5,Vi i84),(6,Vi i85)]) (fun ⟨n107,l81,i84,i85⟩=>⟨w0,M,(1000,go0,.cells #[Vi o0.fKind,Vi o0.fNode,Vs o0.fName,Vs o0.fText,Vs o0.fZone,.slice Ao0_0 o0.fHints.length co0_0] 32 (0,0))::H,(1000,⟨.slice Ap0_0 l81.length cp0_0,55,2,l81.length,l81.flatMap GAnchor.enc⟩)::R,φ⟩) (fun ⟨n107,l81,i84,i85⟩=>Lp (fun s=>m_slices_DeleteFunc_31_s2 o0 s.1 s.2.1 s.2.2) n107 (l81,i84,i85) out2∧(l81.length ≤ cp0_0∧l81.length = p0.length)) (fun ⟨n107,l81,i84,i85⟩=>n107) (n107',p0,x1,w64 (x1 + 1)) ⟨hl2,⟨hcp0_0,rfl⟩⟩ ⟨rfl,rfl,rfl,rfl,trivial⟩ (fun W h=>h.phi (fun W hφ=>hφ)) (fun ⟨n107,l81,i84,i85⟩ u ⟨hlp,hl81⟩=>?_)
  obtain ⟨o2,hm,hnx2⟩:=lp_step hlp
  clear hlp
  replace hm : m_slices_DeleteFunc_31_s2 o0 l81 i84 i85 = some o2:=hm
  unfold m_slices_DeleteFunc_31_s2 at hm
  refine c_flat [(0,.slice Ap0_0 l81.length cp0_0),(1,.func (.func 32) #[] #[Vp go0]),(5,Vi i84),(6,Vi i85)] ⟨rfl,rfl,rfl,rfl,trivial⟩ (fun u=>?_)
  refine c_sta ⟨w0,M,(1000,go0,.cells #[Vi o0.fKind,Vi o0.fNode,Vs o0.fName,Vs o0.fText,Vs o0.fZone,.slice Ao0_0 o0.fHints.length co0_0] 32 (0,0))::H,(1000,⟨.slice Ap0_0 l81.length cp0_0,55,2,l81.length,l81.flatMap GAnchor.enc⟩)::R,φ⟩ (fun _ h=>h)<|c_seq<|c_seq<|c_region<|g_v rfl r_move<|g_v rfl r_move<|g_v rfl (r_lenL Tryz.underlying27 rfl)<|g_v rfl (r_lss rfl rfl)<|g_nil<|d_then ?_
  refine c_cond rfl (fun h108=>?_) (fun h108=>?_)
  ·
   replace hm:=ite_t hm (of_decide_eq_true h108)
   refine c_skip<|d_then<|c_seq<|c_block<|c_seq<|c_region<|g_v rfl r_move<|g_v rfl r_move ?_
   replace hm:=bnd hm
   obtain ⟨x109,hx109,hm⟩:=hm
   refine g_know _ (fun W hS=>cl_at (p:=(Sta.ok ⟨w0,M,(1000,go0,.cells #[Vi o0.fKind,Vi o0.fNode,Vs o0.fName,Vs o0.fText,Vs o0.fZone,.slice Ao0_0 o0.fHints.length co0_0] 32 (0,0))::H,(1000,⟨.slice Ap0_0 l81.length cp0_0,55,2,l81.length,l81.flatMap GAnchor.enc⟩)::R,φ⟩)) (sz:=2) (fun _=>rfl) (by decide) hS (fun W hS=>rowCl (S:=⟨w0,M,(1000,go0,.cells #[Vi o0.fKind,Vi o0.fNode,Vs o0.fName,Vs o0.fText,Vs o0.fZone,.slice Ao0_0 o0.fHints.length co0_0] 32 (0,0))::H,(1000,⟨.slice Ap0_0 l81.length cp0_0,55,2,l81.length,l81.flatMap GAnchor.enc⟩)::R,φ⟩) (tag:=1000) rfl W hS) hx109) ?_
   rintro ⟨ad110,hA112,f111⟩
   refine g_v rfl (r_ix Tryz.underlying27 Tryz.sizeOf55 rfl hA112 rfl hx109)<|g_v rfl (r_ldA rfl Tryz.isAgg55 Tryz.sizeOf55 (fun W hS=>(f111 W hS).take 2) rfl) ?_
   refine g_e rfl (e_alloc 100070 Tryz.zeroValue55) (fun g113 _=>?_)
   refine g_storeL (tag:=100070) rfl rfl rfl rfl Tryz.sizeOf55 rfl rfl<|g_nil<|d_then ?_
   refine c_flat [(0,.slice Ap0_0 l81.length cp0_0),(1,.func (.func 32) #[] #[Vp go0]),(5,Vi i84),(6,Vi i85),(7,Vp g113)] ⟨rfl,rfl,rfl,rfl,rfl,trivial⟩ (fun u=>?_)
   refine c_sta ⟨w0,M,(100070,g113,.cells #[Vs x109.fName,Vs x109.fText] 55 (0,0))::(1000,go0,.cells #[Vi o0.fKind,Vi o0.fNode,Vs o0.fName,Vs o0.fText,Vs o0.fZone,.slice Ao0_0 o0.fHints.length co0_0] 32 (0,0))::H,(1000,⟨.slice Ap0_0 l81.length cp0_0,55,2,l81.length,l81.flatMap GAnchor.enc⟩)::R,φ⟩ (fun _ h=>h)<|c_seq<|c_region<|g_v rfl r_move<|g_v rfl (r_loadA (tag:=100070) rfl rfl Tryz.isAgg55 Tryz.sizeOf55 rfl rfl) ?_
   replace hm:=bnd hm
   obtain ⟨x114,hx115,hm⟩:=hm
   refine g_cnv ⟨w0,M,(1000,go0,.cells #[Vi o0.fKind,Vi o0.fNode,Vs o0.fName,Vs o0.fText,Vs o0.fZone,.slice Ao0_0 o0.fHints.length co0_0] 32 (0,0))::(100070,g113,.cells #[Vs x109.fName,Vs x109.fText] 55 (0,0))::H,(1000,⟨.slice Ap0_0 l81.length cp0_0,55,2,l81.length,l81.flatMap GAnchor.enc⟩)::R,φ⟩ (fun W h=>(ok_front (t:=1000) (t':=1000) h rfl)) Tryz.call32 rfl rfl rfl (c_conf_Apply_c1 x109 go0 o0 Ao0_0 co0_0 hco0_0 (fun W h=>fo0_0 W h) _ hx115) (fun _ _=>?_)
   refine g_sta _ (fun W h=>(ok_front (t:=1000) (t':=1000) h rfl))<|g_v rfl (r_not rfl)<|g_nil<|d_then<|c_sta ⟨w0,M,(1000,go0,.cells #[Vi o0.fKind,Vi o0.fNode,Vs o0.fName,Vs o0.fText,Vs o0.fZone,.slice Ao0_0 o0.fHints.length co0_0] 32 (0,0))::(100070,g113,.cells #[Vs x109.fName,Vs x109.fText] 55 (0,0))::H,(1000,⟨.slice Ap0_0 l81.length cp0_0,55,2,l81.length,l81.flatMap GAnchor.enc⟩)::R,φ⟩ (fun _ h=>h) ?_
   refine c_cond rfl (fun h116=>?_) (fun h116=>?_)
   ·
    have h116' : x114 = false:=by revert h116; cases x114 <;> simp
    replace hm:=ite_f hm (bool_nt h116')
    refine c_seq<|c_region<|g_v rfl r_move<|g_v rfl r_move<|g_v rfl (r_loadA (tag:=100070) rfl rfl Tryz.isAgg55 Tryz.sizeOf55 rfl rfl) ?_
    replace hm:=bnd hm
    obtain ⟨x117,hx117,hm⟩:=hm
    refine g_know _ (fun W hS=>cl_at (p:=(Sta.ok ⟨w0,M,(1000,go0,.cells #[Vi o0.fKind,Vi o0.fNode,Vs o0.fName,Vs o0.fText,Vs o0.fZone,.slice Ao0_0 o0.fHints.length co0_0] 32 (0,0))::(100070,g113,.cells #[Vs x109.fName,Vs x109.fText] 55 (0,0))::H,(1000,⟨.slice Ap0_0 l81.length cp0_0,55,2,l81.length,l81.flatMap GAnchor.enc⟩)::R,φ⟩)) (sz:=2) (fun _=>rfl) (by decide) hS (fun W hS=>rowCl (S:=⟨w0,M,(1000,go0,.cells #[Vi o0.fKind,Vi o0.fNode,Vs o0.fName,Vs o0.fText,Vs o0.fZone,.slice Ao0_0 o0.fHints.length co0_0] 32 (0,0))::(100070,g113,.cells #[Vs x109.fName,Vs x109.fText] 55 (0,0))::H,(1000,⟨.slice Ap0_0 l81.length cp0_0,55,2,l81.length,l81.flatMap GAnchor.enc⟩)::R,φ⟩) (tag:=1000) rfl W hS) hx117) ?_
    rintro ⟨ad118,hA120,f119⟩
    refine g_v rfl (r_ix Tryz.underlying27 Tryz.sizeOf55 rfl hA120 rfl hx117) ?_
    replace hm:=bnd hm
    obtain ⟨l121,hl121,hm⟩:=hm
    refine g_stR (tag:=1000) (enc:=GAnchor.enc) (l:=l81) (off:=0) (vs:=[Vs x109.fName,Vs x109.fText]) (add0 rfl) hA120 rfl rfl hx117 hl121 rfl (Nat.le_of_ble_eq_true rfl) (fun _=>rfl) rfl rfl Tryz.sizeOf55 ?_
    rw [show l81.length = l121.length from (setAt_lenE hl121).symm]
    have hv123:=setAt_at hl121
    have f122:=cl_at2 (p:=(Sta.ok ⟨w0,M,(1000,go0,.cells #[Vi o0.fKind,Vi o0.fNode,Vs o0.fName,Vs o0.fText,Vs o0.fZone,.slice Ao0_0 o0.fHints.length co0_0] 32 (0,0))::(100070,g113,.cells #[Vs x109.fName,Vs x109.fText] 55 (0,0))::H,(1000,⟨.slice Ap0_0 l121.length cp0_0,55,2,l121.length,l121.flatMap GAnchor.enc⟩)::R,φ⟩)) (enc:=GAnchor.enc) (sz:=2) (fun _=>rfl) hA120 (fun W hS=>rowCl (S:=⟨w0,M,(1000,go0,.cells #[Vi o0.fKind,Vi o0.fNode,Vs o0.fName,Vs o0.fText,Vs o0.fZone,.slice Ao0_0 o0.fHints.length co0_0] 32 (0,0))::(100070,g113,.cells #[Vs x109.fName,Vs x109.fText] 55 (0,0))::H,(1000,⟨.slice Ap0_0 l121.length cp0_0,55,2,l121.length,l121.flatMap GAnchor.enc⟩)::R,φ⟩) (tag:=1000) rfl W hS) hv123
    refine g_nil<|d_then ?_
    refine c_flat [(0,.slice Ap0_0 l121.length cp0_0),(1,.func (.func 32) #[] #[Vp go0]),(5,Vi i84),(6,Vi i85)] ⟨rfl,rfl,rfl,rfl,trivial⟩ (fun u=>?_)
    refine c_sta ⟨w0,M,(1000,go0,.cells #[Vi o0.fKind,Vi o0.fNode,Vs o0.fName,Vs o0.fText,Vs o0.fZone,.slice Ao0_0 o0.fHints.length co0_0] 32 (0,0))::(100070,g113,.cells #[Vs x109.fName,Vs x109.fText] 55 (0,0))::H,(1000,⟨.slice Ap0_0 l121.length cp0_0,55,2,l121.length,l121.flatMap GAnchor.enc⟩)::R,φ⟩ (fun _ h=>h)<|c_region<|g_v rfl r_move<|g_v rfl (r_add rfl rfl rfl)<|g_v rfl r_assign<|g_nil<|d_normal_block<|d_then<|c_region<|g_v rfl r_move ?_
    refine g_v rfl (r_add rfl rfl rfl)<|g_v rfl r_assign<|g_nil ?_
    obtain ⟨n124,hn124,hlp⟩:=nx_inl hm hnx2
    exact d_round (n124,l121,w64 (i84 + 1),w64 (i85 + 1)) ⟨hlp,⟨(setAt_len hl81.1 hl121),((setAt_lenE hl121).trans hl81.2)⟩⟩ hn124 ⟨rfl,rfl,rfl,rfl,trivial⟩ (fun W h=>(h.dropH (t:=100070) rfl).phi (fun W hφ=>hφ))
   have h116' : x114 = true:=by revert h116; cases x114 <;> simp
   replace hm:=ite_t hm h116'
   refine c_skip<|d_normal_block<|d_then<|c_region<|g_v rfl r_move<|g_v rfl (r_add rfl rfl rfl)<|g_v rfl r_assign<|g_nil ?_
   obtain ⟨n125,hn125,hlp⟩:=nx_inl hm hnx2
   exact d_round (n125,l81,i84,w64 (i85 + 1)) ⟨hlp,⟨hl81.1,hl81.2⟩⟩ hn125 ⟨rfl,rfl,rfl,rfl,trivial⟩ (fun W h=>(h.dropH (t:=100070) rfl).phi (fun W hφ=>hφ))
  replace hm:=ite_f hm (of_decide_eq_false h108)
  refine c_exit<|d_exit_then<|d_exit_then<|d_exit_block ?_
  replace hm:=nx_out (C:=(fun e : (List GAnchor)×Int=>m_slices_DeleteFunc_31_j1 e.1 e.2 = some r)) hm hnx2 hr2
  exact d_round (l81,i84) ⟨hm,⟨hl81.1,hl81.2⟩⟩ Nat.zero_lt_one ⟨rfl,rfl,trivial⟩ (fun W h=>h.phi (fun W hφ=>hφ))
 unfold m_slices_DeleteFunc_31_j1 at hm
 refine d_flat [(0,.slice Ap0_0 l53.length cp0_0),(5,Vi i56)] ⟨rfl,rfl,trivial⟩ (fun u=>?_)
 refine d_sta ⟨w0,M,(1000,go0,.cells #[Vi o0.fKind,Vi o0.fNode,Vs o0.fName,Vs o0.fText,Vs o0.fZone,.slice Ao0_0 o0.fHints.length co0_0] 32 (0,0))::H,(1000,⟨.slice Ap0_0 l53.length cp0_0,55,2,l53.length,l53.flatMap GAnchor.enc⟩)::R,φ⟩ (fun _ h=>h)<|d_then<|c_seq<|c_region<|g_v rfl r_move<|g_v rfl r_move ?_
 replace hm:=bnd hm
 obtain ⟨l57,hl57,hm⟩:=hm
 refine g_v rfl (r_lcutLo Tryz.underlying27 Tryz.sizeOf55 rfl hl53.1 rfl hl57) ?_
 replace hm:=bnd hm
 obtain ⟨l58,hl58,hm⟩:=hm
 refine g_sta _ (fun W h=>row_cut (tag:=1000) (enc:=GAnchor.enc) (fun _=>rfl) rfl hl58 h)<|g_e0 (e_clearLo (tag:=1000) (enc:=GAnchor.enc) Tryz.underlying27 Tryz.zeroValue55 rfl rfl hl58 hl57 rfl hl53.1 rfl)<|g_nil<|d_then<|c_seq<|c_region<|g_v rfl r_move<|g_v rfl r_move<|g_v rfl (r_lcutHi Tryz.underlying27 Tryz.sizeOf55 rfl hl53.1 rfl hl58)<|g_v rfl r_assign ?_
 refine g_nil<|d_then<|c_ret ?_
 cases hm
 refine d_sta _ (fun W h=>ok_frontR (t:=1000) (t':=2000) h rfl) ?_
 exact d_retC (Ap0_0,cp0_0) Tryz.results31 (res_tmp (res_nil rfl)) (cutHi_len hl53.1 hl58) (fun W h=>h.phi (fun W hφ=>hφ)) (.inr rfl)
theorem bld55_19 (z0 : ByteArray) (z1 : ByteArray) : ∀ W,(Instr.build 55 #[(0,Vs z0),(1,Vs z1)]).run Tryz.prog W = .ok (.agg #[Vs z0,Vs z1]) W:=fun _=>by kernel_rfl
theorem lit55_20 (z0 : ByteArray) (z1 : ByteArray) : Tryz.prog.builtSlice 55 1 [(0,.agg #[Vs z0,Vs z1])] = some #[Vs z0,Vs z1]:=by kernel_rfl
noncomputable def m_cmp_isNaN_93 (p0 : ByteArray) : Option Bool:=
  some (!(decide (p0 = p0)))
theorem c_cmp_isNaN_93 {w0 : World} {M : Nat→Prop} {H : List (Nat×Nat×Obj)} {R : List (Nat×Row)} {φ : World→Prop} (p0 : ByteArray) (r : Bool) (hm : m_cmp_isNaN_93 p0 = some r) :
    Cn Tryz.prog 93 #[Vs p0] ⟨w0,M,H,R,φ⟩ (fun x : Unit=>.bool r) (fun x=>True) (fun x=>⟨w0,M,H,R,φ⟩):=by
 unfold m_cmp_isNaN_93 at hm
 refine cn_intro (fn:=Tryz.f93) (N:=6) Tryz.func93 rfl Tryz.ntmps93 rfl<|c_seq<|c_region<|g_v rfl r_assign<|g_nil<|d_then<|c_seq<|c_region<|g_v rfl r_move<|g_v rfl r_move ?_
 refine g_v rfl (r_neqT rfl rfl)<|g_v rfl r_assign<|g_nil<|d_then<|c_ret ?_
 cases hm
 exact d_retC () Tryz.results93 (res_tmp (res_nil rfl)) trivial (fun W h=>ok_pre (H1:=[]) (R1:=[]) h (fun W hφ=>hφ)) (.inr rfl)
noncomputable def m_cmp_Compare_36 (p0 : ByteArray) (p1 : ByteArray) : Option Int:=
  (m_cmp_isNaN_93 p0).bind fun x1=>
  (m_cmp_isNaN_93 p1).bind fun x3=>
  if x1 = true then
    if x3 = true then
      some 0
    else
      some (-1)
  else
    if x3 = true then
      some 1
    else
      if (sless p0 p1) = true then
        some (-1)
      else
        if (!(sless p0 p1 || decide (p0 = p1))) = true then
          some 1
        else
          some 0
theorem c_cmp_Compare_36 {w0 : World} {M : Nat→Prop} {H : List (Nat×Nat×Obj)} {R : List (Nat×Row)} {φ : World→Prop} (p0 : ByteArray) (p1 : ByteArray) (r : Int) (hm : m_cmp_Compare_36 p0 p1 = some r) :
    Cn Tryz.prog 36 #[Vs p0,Vs p1] ⟨w0,M,H,R,φ⟩ (fun x : Unit=>Vi r) (fun x=>True) (fun x=>⟨w0,M,H,R,φ⟩):=by
 unfold m_cmp_Compare_36 at hm
 refine cn_intro (fn:=Tryz.f36) (N:=20) Tryz.func36 rfl Tryz.ntmps36 rfl<|c_seq<|c_region<|g_v rfl r_assign<|g_nil<|d_then<|c_seq<|c_region<|g_v rfl r_move ?_
 replace hm:=bnd hm
 obtain ⟨x1,hx2,hm⟩:=hm
 refine g_cn ⟨w0,M,_,_,φ⟩ (fun _ h=>h) Tryz.call93 rfl rfl (c_cmp_isNaN_93 p0 _ hx2) (fun _ _=>?_)
 refine g_v rfl r_assign<|g_nil<|d_then<|c_seq<|c_region<|g_v rfl r_move ?_
 replace hm:=bnd hm
 obtain ⟨x3,hx4,hm⟩:=hm
 refine g_cn ⟨w0,M,_,_,φ⟩ (fun _ h=>h) Tryz.call93 rfl rfl (c_cmp_isNaN_93 p1 _ hx4) (fun _ _=>?_)
 refine g_v rfl r_assign<|g_nil<|d_then<|c_seq<|c_seq<|c_region<|g_v rfl r_move<|g_nil<|d_then ?_
 refine c_cond rfl (fun h5=>?_) (fun h5=>?_)
 ·
  replace hm:=ite_t hm h5
  refine c_seq<|c_seq<|c_region<|g_v rfl r_move<|g_nil<|d_then ?_
  refine c_flat [(12,.bool x3)] ⟨rfl,trivial⟩ (fun u=>?_)
  refine c_sta ⟨w0,M,H,R,φ⟩ (fun _ h=>h) ?_
  refine c_cond rfl (fun h6=>?_) (fun h6=>?_)
  ·
   replace hm:=ite_t hm h6
   refine c_seq<|c_region<|g_v rfl r_assign<|g_nil<|d_then<|c_ret<|d_ret_then<|d_ret_then ?_
   cases hm
   exact d_retC () Tryz.results36 (res_tmp (res_nil rfl)) trivial (fun W h=>ok_pre (H1:=[]) (R1:=[]) h (fun W hφ=>hφ)) (.inr rfl)
  replace hm:=ite_f hm (bool_nt h6)
  refine c_skip<|d_then<|c_seq<|c_region<|g_v rfl r_assign<|g_nil<|d_then<|c_ret<|d_ret_then ?_
  cases hm
  exact d_retC () Tryz.results36 (res_tmp (res_nil rfl)) trivial (fun W h=>ok_pre (H1:=[]) (R1:=[]) h (fun W hφ=>hφ)) (.inr rfl)
 replace hm:=ite_f hm (bool_nt h5)
 refine c_skip<|d_then<|c_seq<|c_seq<|c_region<|g_v rfl r_move<|g_nil<|d_then ?_
 refine c_flat [(0,Vs p0),(1,Vs p1),(13,.bool x3)] ⟨rfl,rfl,rfl,trivial⟩ (fun u=>?_)
 refine c_sta ⟨w0,M,H,R,φ⟩ (fun _ h=>h) ?_
 refine c_cond rfl (fun h7=>?_) (fun h7=>?_)
 ·
  replace hm:=ite_t hm h7
  refine c_seq<|c_region<|g_v rfl r_assign<|g_nil<|d_then<|c_ret<|d_ret_then ?_
  cases hm
  exact d_retC () Tryz.results36 (res_tmp (res_nil rfl)) trivial (fun W h=>ok_pre (H1:=[]) (R1:=[]) h (fun W hφ=>hφ)) (.inr rfl)
 replace hm:=ite_f hm (bool_nt h7)
 refine c_skip<|d_then<|c_seq<|c_seq<|c_region<|g_v rfl r_move<|g_v rfl r_move<|g_v rfl (r_lssT rfl rfl)<|g_nil<|d_then ?_
 refine c_cond rfl (fun h8=>?_) (fun h8=>?_)
 ·
  replace hm:=ite_t hm h8
  refine c_seq<|c_region<|g_v rfl r_assign<|g_nil<|d_then<|c_ret<|d_ret_then ?_
  cases hm
  exact d_retC () Tryz.results36 (res_tmp (res_nil rfl)) trivial (fun W h=>ok_pre (H1:=[]) (R1:=[]) h (fun W hφ=>hφ)) (.inr rfl)
 replace hm:=ite_f hm (bool_nt h8)
 refine c_skip<|d_then<|c_seq<|c_seq<|c_region<|g_v rfl r_move<|g_v rfl r_move<|g_v rfl (r_gtrT rfl rfl)<|g_nil<|d_then ?_
 refine c_cond rfl (fun h9=>?_) (fun h9=>?_)
 ·
  replace hm:=ite_t hm h9
  refine c_seq<|c_region<|g_v rfl r_assign<|g_nil<|d_then<|c_ret<|d_ret_then ?_
  cases hm
  exact d_retC () Tryz.results36 (res_tmp (res_nil rfl)) trivial (fun W h=>ok_pre (H1:=[]) (R1:=[]) h (fun W hφ=>hφ)) (.inr rfl)
 replace hm:=ite_f hm (bool_nt h9)
 refine c_skip<|d_then<|c_seq<|c_region<|g_v rfl r_assign<|g_nil<|d_then<|c_ret ?_
 cases hm
 exact d_retC () Tryz.results36 (res_tmp (res_nil rfl)) trivial (fun W h=>ok_pre (H1:=[]) (R1:=[]) h (fun W hφ=>hφ)) (.inr rfl)
noncomputable def m_conf_Apply_c2 (p0 : GAnchor) (p1 : GAnchor) : Option Int:=
  (m_name_Lower p0.fName).bind fun x15=>
  (m_name_Lower p1.fName).bind fun x17=>
  (m_cmp_Compare_36 x15 x17).bind fun x19=>
  some x19
theorem c_conf_Apply_c2 {w0 : World} {M : Nat→Prop} {H : List (Nat×Nat×Obj)} {R : List (Nat×Row)} {φ : World→Prop} (p0 : GAnchor) (p1 : GAnchor) (r : Int) (hm : m_conf_Apply_c2 p0 p1 = some r) :
    Cn Tryz.prog 35 #[.agg #[Vs p0.fName,Vs p0.fText],.agg #[Vs p1.fName,Vs p1.fText]] ⟨w0,M,H,R,φ⟩ (fun x : Unit=>Vi r) (fun x=>True) (fun x=>⟨w0,M,H,R,φ⟩):=by
 unfold m_conf_Apply_c2 at hm
 refine cn_intro (fn:=Tryz.f35) (N:=12) Tryz.func35 rfl Tryz.ntmps35 rfl<|c_seq<|c_region ?_
 refine g_e rfl (e_box 100020 rfl) (fun g1 _=>?_)
 refine g_e rfl (e_box 100030 rfl) (fun g2 _=>?_)
 refine g_v rfl r_assign<|g_nil<|d_then<|c_seq<|ga_start (n:=8) ⟨w0,M,(100030,g2,.cells #[Vs p1.fName,Vs p1.fText] 55 (0,0))::(100020,g1,.cells #[Vs p0.fName,Vs p0.fText] 55 (0,0))::H,R,φ⟩ [] #[false,false,false,false,false,false,false,false] (fun W h=>h.phi (fun W hφ=>hφ)) mixed rfl rfl<|ga_v (i:=0) (bz 8 1) rfl (by kernel_rfl) (fun _ _ _ _ h=>h) rfl (r_field (n:=0) Tryz.underlying55 rfl Tryz.sizeOf9 rfl rfl)<|ga_v (i:=1) (bz 8 3) rfl (by kernel_rfl) (fun _ _ _ _ h=>h) rfl (r_load (tag:=100020) rfl rfl rfl Tryz.isAgg9)<|ga_v (i:=3) (bz 8 11) rfl (by kernel_rfl) (fun _ _ _ _ h=>h) rfl (r_field (n:=0) Tryz.underlying55 rfl Tryz.sizeOf9 rfl rfl)<|ga_v (i:=4) (bz 8 27) rfl (by kernel_rfl) (fun _ _ _ _ h=>h) rfl (r_load (tag:=100030) rfl rfl rfl Tryz.isAgg9) ?_
 replace hm:=bnd hm
 obtain ⟨x15,hx16,hm⟩:=hm
 refine ga_cn (first:=#[]) (i:=2) (bz 8 31) rfl (by kernel_rfl) (by decide)  ⟨w0,M,_,_,φ⟩ (fun _ h=>h) Tryz.call37 rfl rfl rfl (c_name_Lower p0.fName _ hx16) (fun _ W _ h=>h.phi (fun W hφ=>hφ)) (fun _ _=>?_)
 replace hm:=bnd hm
 obtain ⟨x17,hx18,hm⟩:=hm
 refine ga_cn (first:=#[]) (i:=5) (bz 8 63) rfl (by kernel_rfl) (by decide)  ⟨w0,M,_,_,φ⟩ (fun _ h=>h) Tryz.call37 rfl rfl rfl (c_name_Lower p1.fName _ hx18) (fun _ W _ h=>h.phi (fun W hφ=>hφ)) (fun _ _=>?_)
 replace hm:=bnd hm
 obtain ⟨x19,hx20,hm⟩:=hm
 refine ga_cn (first:=#[]) (i:=6) (bz 8 127) rfl (by kernel_rfl) (by decide)  ⟨w0,M,_,_,φ⟩ (fun _ h=>h) Tryz.call36 rfl rfl rfl (c_cmp_Compare_36 x15 x17 _ hx20) (fun _ W _ h=>h.phi (fun W hφ=>hφ)) (fun _ _=>?_)
 refine ga_r (i:=7) (bz 8 255) rfl (by kernel_rfl) (by decide) rfl (r_assign)<|ga_done (by kernel_rfl)<|d_then ?_
 refine c_flat [(4,Vi x19)] ⟨rfl,trivial⟩ (fun u=>?_)
 refine c_sta ⟨w0,M,(100030,g2,.cells #[Vs p1.fName,Vs p1.fText] 55 (0,0))::(100020,g1,.cells #[Vs p0.fName,Vs p0.fText] 55 (0,0))::H,R,φ⟩ (fun _ h=>h)<|c_ret ?_
 cases hm
 exact d_retC () Tryz.results35 (res_tmp (res_nil rfl)) trivial (fun W h=>ok_pre (H1:=[_,_]) (R1:=[]) h (fun W hφ=>hφ)) (.inr rfl)
noncomputable def m_slices_SortFunc_34 (p0 : List GAnchor) : Option (List GAnchor):=sortM (fun x y=>m_conf_Apply_c2 x y) p0
theorem c_slices_SortFunc_34 {w0 : World} {M : Nat→Prop} {H : List (Nat×Nat×Obj)} {R : List (Nat×Row)} {φ : World→Prop} (p0 : List GAnchor) (Ap0_0 : Option Addr) (cp0_0 : Nat) (hcp0_0 : p0.length ≤ cp0_0) (r : List GAnchor) (hm : m_slices_SortFunc_34 p0 = some r) :
    Cn Tryz.prog 34 #[.slice Ap0_0 p0.length cp0_0,.func (.func 35) #[] #[]] ⟨w0,M,H,(1000,⟨.slice Ap0_0 p0.length cp0_0,55,2,p0.length,p0.flatMap GAnchor.enc⟩)::R,φ⟩ (fun x : Unit=>.tuple #[]) (fun x=>r.length = p0.length) (fun x=>⟨w0,M,H,(1000,⟨.slice Ap0_0 r.length cp0_0,55,2,r.length,r.flatMap GAnchor.enc⟩)::R,φ⟩):=
  cn_sortF laySortF rfl rfl (by decide) Tryz.isAgg55 Tryz.sizeOf55 (fun _=>rfl) (fun _=>one1_mem rfl) Tryz.call35 (fun W x y r h=>c_conf_Apply_c2 x y r h) hm
noncomputable def m_name_Depth (p0 : ByteArray) : Option Int:=
  (m_name_Labels p0).bind fun (z7 : (List ByteArray)×Int)=>
  if z7.2 ≠ 0 then
    some (-1)
  else
    some (z7.1.length : Int)
theorem c_name_Depth {w0 : World} {M : Nat→Prop} {H : List (Nat×Nat×Obj)} {R : List (Nat×Row)} {φ : World→Prop} (p0 : ByteArray) (r : Int) (hm : m_name_Depth p0 = some r) :
    Cn Tryz.prog 81 #[Vs p0] ⟨w0,M,H,R,φ⟩ (fun x : Unit=>Vi r) (fun x=>True) (fun x=>⟨w0,M,H,R,φ⟩):=by
 unfold m_name_Depth at hm
 refine cn_intro (fn:=Tryz.f81) (N:=14) Tryz.func81 rfl Tryz.ntmps81 rfl<|c_seq<|c_region<|g_v rfl r_assign<|g_nil<|d_then<|c_seq<|c_region<|g_v rfl r_move ?_
 replace hm:=bnd hm
 obtain ⟨⟨x1,x2⟩,hx3,hm⟩:=hm
 refine g_cn ⟨w0,M,_,_,φ⟩ (fun _ h=>h) Tryz.call103 rfl rfl (c_name_Labels p0 _ hx3) (fun ⟨A4,c5⟩ hc5=>?_)
 refine g_sta _ (fun W h=>(ok_frontR (t:=2000) (t':=100070) h rfl))<|g_v rfl r_move<|g_v rfl (r_extract rfl rfl)<|g_v rfl (r_extract rfl rfl)<|g_v rfl r_assign<|g_v rfl r_assign<|g_nil<|d_then<|c_seq<|c_seq ?_
 refine c_region<|g_v rfl r_move<|g_v rfl (r_neq rfl rfl)<|g_nil<|d_then ?_
 refine c_flat [(3,.slice A4 x1.length c5),(11,.bool (decide (x2 ≠ 0)))] ⟨rfl,rfl,trivial⟩ (fun u=>?_)
 refine c_sta ⟨w0,M,H,(100070,⟨.slice A4 x1.length c5,9,1,x1.length,x1.flatMap (fun x : ByteArray=>[Value.string x])⟩)::R,φ⟩ (fun _ h=>h) ?_
 refine c_cond rfl (fun h8=>?_) (fun h8=>?_)
 ·
  replace hm:=ite_t hm (of_decide_eq_true h8)
  refine c_seq<|c_region<|g_v rfl r_assign<|g_nil<|d_then<|c_ret<|d_ret_then ?_
  cases hm
  exact d_retC () Tryz.results81 (res_tmp (res_nil rfl)) trivial (fun W h=>ok_pre (H1:=[]) (R1:=[_]) h (fun W hφ=>hφ)) (.inr rfl)
 replace hm:=ite_f hm (of_decide_eq_false h8)
 refine c_skip<|d_then<|c_seq<|c_region<|g_v rfl r_move<|g_v rfl (r_lenL Tryz.underlying26 rfl)<|g_v rfl r_assign<|g_nil<|d_then<|c_ret ?_
 cases hm
 exact d_retC () Tryz.results81 (res_tmp (res_nil rfl)) trivial (fun W h=>ok_pre (H1:=[]) (R1:=[_]) h (fun W hφ=>hφ)) (.inr rfl)
noncomputable def m_slices_Reverse_122_j1  (l152 : List ByteArray) : Option (List ByteArray):=
  some l152
noncomputable def m_slices_Reverse_122_s2  (l228 : List ByteArray) (i231 : Int) (i232 : Int) : Option (((List ByteArray)×Int×Int) ⊕ (List ByteArray)):=
  if i231 < i232 then
    (at_ l228 i232).bind fun x351=>
    (at_ l228 i231).bind fun x355=>
    (at_ l228 i231).bind fun x359=>
    (setAt l228 i231 x351).bind fun l363=>
    (at_ l363 i232).bind fun x366=>
    (setAt l363 i232 x355).bind fun l370=>
    some (.inl (l370,w64 (i231 + 1),w64 (i232 - 1)))
  else
    some (.inr l228)
noncomputable def m_slices_Reverse_122 (p0 : List ByteArray) : Option (List ByteArray):=
  (loop (fun s=>m_slices_Reverse_122_s2 s.1 s.2.1 s.2.2) (p0,0,w64 ((p0.length : Int) - 1))).bind fun e=>m_slices_Reverse_122_j1 e
theorem c_slices_Reverse_122 {w0 : World} {M : Nat→Prop} {H : List (Nat×Nat×Obj)} {R : List (Nat×Row)} {φ : World→Prop} (p0 : List ByteArray) (Ap0_0 : Option Addr) (cp0_0 : Nat) (hcp0_0 : p0.length ≤ cp0_0) (r : (List ByteArray)) (hm : m_slices_Reverse_122 p0 = some r) :
    Cn Tryz.prog 122 #[.slice Ap0_0 p0.length cp0_0] ⟨w0,M,H,(1000,⟨.slice Ap0_0 p0.length cp0_0,9,1,p0.length,p0.flatMap (fun x : ByteArray=>[Value.string x])⟩)::R,φ⟩ (fun x : Unit=>.tuple #[]) (fun x=>r.length = p0.length) (fun x=>⟨w0,M,H,(1000,⟨.slice Ap0_0 r.length cp0_0,9,1,r.length,r.flatMap (fun x : ByteArray=>[Value.string x])⟩)::R,φ⟩):=by
 unfold m_slices_Reverse_122 at hm
 refine cn_intro (fn:=Tryz.f122) (N:=28) Tryz.func122 rfl Tryz.ntmps122 rfl<|c_seq<|c_region<|g_v rfl r_move<|g_v rfl (r_lenL Tryz.underlying26 rfl)<|g_v rfl (r_sub rfl rfl rfl)<|g_v rfl r_assign<|g_v rfl r_assign<|g_nil<|d_then ?_
 refine c_cut (ι:=(List ByteArray)) [] (fun l152=>[]) (fun l152=>⟨w0,M,H,(1000,⟨.slice Ap0_0 l152.length cp0_0,9,1,l152.length,l152.flatMap (fun x : ByteArray=>[Value.string x])⟩)::R,φ⟩) (fun l152=>m_slices_Reverse_122_j1 l152 = some r∧(l152.length ≤ cp0_0∧l152.length = p0.length)) ?_ (fun l152 u ⟨hm,hl152⟩=>?_)
 ·
  refine c_block ?_
  replace hm:=bnd hm
  obtain ⟨out2,hl2,hr2⟩:=hm
  obtain ⟨n305',hl2⟩:=loop_lp hl2
  refine c_loopU (ι:=Nat×(List ByteArray)×Int×Int) [0,2,3] (fun ⟨n305,l228,i231,i232⟩=>[(0,.slice Ap0_0 l228.length cp0_0),(2,Vi i231),(3,Vi i232)]) (fun ⟨n305,l228,i231,i232⟩=>⟨w0,M,H,(1000,⟨.slice Ap0_0 l228.length cp0_0,9,1,l228.length,l228.flatMap (fun x : ByteArray=>[Value.string x])⟩)::R,φ⟩) (fun ⟨n305,l228,i231,i232⟩=>Lp (fun s=>m_slices_Reverse_122_s2 s.1 s.2.1 s.2.2) n305 (l228,i231,i232) out2∧(l228.length ≤ cp0_0∧l228.length = p0.length)) (fun ⟨n305,l228,i231,i232⟩=>n305) (n305',p0,0,w64 ((p0.length : Int) - 1)) ⟨hl2,⟨hcp0_0,rfl⟩⟩ ⟨rfl,rfl,rfl,trivial⟩ (fun W h=>h.phi (fun W hφ=>hφ)) (fun ⟨n305,l228,i231,i232⟩ u ⟨hlp,hl228⟩=>?_)
  obtain ⟨o2,hm,hnx2⟩:=lp_step hlp
  clear hlp
  replace hm : m_slices_Reverse_122_s2 l228 i231 i232 = some o2:=hm
  unfold m_slices_Reverse_122_s2 at hm
  refine c_flat [(0,.slice Ap0_0 l228.length cp0_0),(2,Vi i231),(3,Vi i232)] ⟨rfl,rfl,rfl,trivial⟩ (fun u=>?_)
  refine c_sta ⟨w0,M,H,(1000,⟨.slice Ap0_0 l228.length cp0_0,9,1,l228.length,l228.flatMap (fun x : ByteArray=>[Value.string x])⟩)::R,φ⟩ (fun _ h=>h)<|c_seq<|c_seq<|c_region<|g_v rfl r_move<|g_v rfl r_move<|g_v rfl (r_lss rfl rfl)<|g_nil<|d_then ?_
  refine c_cond rfl (fun h306=>?_) (fun h306=>?_)
  ·
   replace hm:=ite_t hm (of_decide_eq_true h306)
   refine c_skip<|d_then<|c_seq<|c_block<|ga_start (n:=16) ⟨w0,M,H,(1000,⟨.slice Ap0_0 l228.length cp0_0,9,1,l228.length,l228.flatMap (fun x : ByteArray=>[Value.string x])⟩)::R,φ⟩ [13,15,14] #[false,false,false,false,false,false,false,false,false,false,false,false,false,false,false,false] (fun W h=>h.phi (fun W hφ=>hφ)) mixed rfl rfl<|ga_v (i:=0) (bz 16 1) rfl (by kernel_rfl) (fun _ _ _ _ h=>h) rfl (r_move)<|ga_v (i:=1) (bz 16 3) rfl (by kernel_rfl) (fun _ _ _ _ h=>h) rfl (r_move)<|ga_p (i:=2) (bz 16 7) rfl (.inl rfl) (by kernel_rfl) (fun _ _ _ _ h=>h) rfl<|ga_p (i:=3) (bz 16 15) rfl (.inl rfl) (by kernel_rfl) (fun _ _ _ _ h=>h) rfl<|ga_v (i:=4) (bz 16 31) rfl (by kernel_rfl) (fun _ _ _ _ h=>h) rfl (r_move) ?_
   refine ga_v (i:=5) (bz 16 63) rfl (by kernel_rfl) (fun _ _ _ _ h=>h) rfl (r_move) ?_
   replace hm:=bnd hm
   obtain ⟨x351,hx351,hm⟩:=hm
   refine ga_know _ (fun W hS=>cl_at (p:=(Sta.ok ⟨w0,M,H,(1000,⟨.slice Ap0_0 l228.length cp0_0,9,1,l228.length,l228.flatMap (fun x : ByteArray=>[Value.string x])⟩)::R,φ⟩)) (sz:=1) (fun _=>rfl) (by decide) (hS.phi (fun W hφ=>hφ)) (fun W hS=>rowCl (S:=⟨w0,M,H,(1000,⟨.slice Ap0_0 l228.length cp0_0,9,1,l228.length,l228.flatMap (fun x : ByteArray=>[Value.string x])⟩)::R,φ⟩) (tag:=1000) rfl W hS) hx351) ?_
   rintro ⟨ad352,hA354,f353⟩
   refine ga_v (i:=6) (bz 16 127) rfl (by kernel_rfl) (fun _ _ _ _ h=>h) rfl (r_ix Tryz.underlying26 Tryz.sizeOf9 rfl hA354 rfl hx351)<|ga_v (i:=7) (bz 16 255) rfl (by kernel_rfl) (fun _ _ _ _ h=>h) rfl (r_ld rfl Tryz.isAgg9 (fun W hS=>Cl.head (f353 W hS)))<|ga_v (i:=8) (bz 16 511) rfl (by kernel_rfl) (fun _ _ _ _ h=>h) rfl (r_move)<|ga_r (i:=9) (bz 16 1023) rfl (by kernel_rfl) (by decide) rfl (r_move) ?_
   replace hm:=bnd hm
   obtain ⟨x355,hx355,hm⟩:=hm
   refine ga_know _ (fun W hS=>cl_at (p:=(Sta.ok ⟨w0,M,H,(1000,⟨.slice Ap0_0 l228.length cp0_0,9,1,l228.length,l228.flatMap (fun x : ByteArray=>[Value.string x])⟩)::R,φ⟩)) (sz:=1) (fun _=>rfl) (by decide) hS (fun W hS=>rowCl (S:=⟨w0,M,H,(1000,⟨.slice Ap0_0 l228.length cp0_0,9,1,l228.length,l228.flatMap (fun x : ByteArray=>[Value.string x])⟩)::R,φ⟩) (tag:=1000) rfl W hS) hx355) ?_
   rintro ⟨ad356,hA358,f357⟩
   refine ga_r (i:=10) (bz 16 2047) rfl (by kernel_rfl) (by decide) rfl (r_ix Tryz.underlying26 Tryz.sizeOf9 rfl hA358 rfl hx355)<|ga_r (i:=11) (bz 16 4095) rfl (by kernel_rfl) (by decide) rfl (r_ld rfl Tryz.isAgg9 (fun W hS=>Cl.head (f357 W hS))) ?_
   replace hm:=bnd hm
   obtain ⟨x359,hx359,hm⟩:=hm
   refine ga_know _ (fun W hS=>cl_at (p:=(Sta.ok ⟨w0,M,H,(1000,⟨.slice Ap0_0 l228.length cp0_0,9,1,l228.length,l228.flatMap (fun x : ByteArray=>[Value.string x])⟩)::R,φ⟩)) (sz:=1) (fun _=>rfl) (by decide) hS (fun W hS=>rowCl (S:=⟨w0,M,H,(1000,⟨.slice Ap0_0 l228.length cp0_0,9,1,l228.length,l228.flatMap (fun x : ByteArray=>[Value.string x])⟩)::R,φ⟩) (tag:=1000) rfl W hS) hx359) ?_
   rintro ⟨ad360,hA362,f361⟩
   refine ga_r (i:=12) (bz 16 8191) rfl (by kernel_rfl) (by decide) rfl (r_ix Tryz.underlying26 Tryz.sizeOf9 rfl hA362 rfl hx359) ?_
   replace hm:=bnd hm
   obtain ⟨l363,hl363,hm⟩:=hm
   refine ga_sL (i:=13) (bz 16 16383) rfl (by kernel_rfl) (by decide) (e_stR (tag:=1000) (enc:=(fun x : ByteArray=>[Value.string x])) (l:=l228) (off:=0) (vs:=[Vs x351]) (add0 rfl) hA362 rfl rfl hx359 hl363 rfl (Nat.le_of_ble_eq_true rfl) (fun _=>rfl) rfl rfl Tryz.sizeOf9) ?_
   rw [show l228.length = l363.length from (setAt_lenE hl363).symm]
   have hv365:=setAt_at hl363
   have f364:=cl_at2 (p:=(Sta.ok ⟨w0,M,H,(1000,⟨.slice Ap0_0 l363.length cp0_0,9,1,l363.length,l363.flatMap (fun x : ByteArray=>[Value.string x])⟩)::R,φ⟩)) (enc:=(fun x : ByteArray=>[Value.string x])) (sz:=1) (fun _=>rfl) hA362 (fun W hS=>rowCl (S:=⟨w0,M,H,(1000,⟨.slice Ap0_0 l363.length cp0_0,9,1,l363.length,l363.flatMap (fun x : ByteArray=>[Value.string x])⟩)::R,φ⟩) (tag:=1000) rfl W hS) hv365
   replace hm:=bnd hm
   obtain ⟨x366,hx366,hm⟩:=hm
   refine gz_know _ (fun W hS=>cl_at (p:=(Sta.ok ⟨w0,M,H,(1000,⟨.slice Ap0_0 l363.length cp0_0,9,1,l363.length,l363.flatMap (fun x : ByteArray=>[Value.string x])⟩)::R,φ⟩)) (sz:=1) (fun _=>rfl) (by decide) hS (fun W hS=>rowCl (S:=⟨w0,M,H,(1000,⟨.slice Ap0_0 l363.length cp0_0,9,1,l363.length,l363.flatMap (fun x : ByteArray=>[Value.string x])⟩)::R,φ⟩) (tag:=1000) rfl W hS) hx366) ?_
   rintro ⟨ad367,hA369,f368⟩
   refine gz_v (i:=14) (bz 16 32767) rfl (by kernel_rfl) (by decide) rfl (r_ix Tryz.underlying26 Tryz.sizeOf9 rfl hA369 rfl hx366) ?_
   replace hm:=bnd hm
   obtain ⟨l370,hl370,hm⟩:=hm
   refine gz_sL (i:=15) (bz 16 65535) rfl (by kernel_rfl) (by decide) (e_stR (tag:=1000) (enc:=(fun x : ByteArray=>[Value.string x])) (l:=l363) (off:=0) (vs:=[Vs x355]) (add0 rfl) hA369 rfl rfl hx366 hl370 rfl (Nat.le_of_ble_eq_true rfl) (fun _=>rfl) rfl rfl Tryz.sizeOf9) ?_
   rw [show l363.length = l370.length from (setAt_lenE hl370).symm]
   have hv372:=setAt_at hl370
   have f371:=cl_at2 (p:=(Sta.ok ⟨w0,M,H,(1000,⟨.slice Ap0_0 l370.length cp0_0,9,1,l370.length,l370.flatMap (fun x : ByteArray=>[Value.string x])⟩)::R,φ⟩)) (enc:=(fun x : ByteArray=>[Value.string x])) (sz:=1) (fun _=>rfl) hA369 (fun W hS=>rowCl (S:=⟨w0,M,H,(1000,⟨.slice Ap0_0 l370.length cp0_0,9,1,l370.length,l370.flatMap (fun x : ByteArray=>[Value.string x])⟩)::R,φ⟩) (tag:=1000) rfl W hS) hv372
   refine gz_done (by kernel_rfl)<|d_normal_block<|d_then ?_
   refine c_flat [(0,.slice Ap0_0 l370.length cp0_0),(2,Vi i231),(3,Vi i232)] ⟨rfl,rfl,rfl,trivial⟩ (fun u=>?_)
   refine c_sta ⟨w0,M,H,(1000,⟨.slice Ap0_0 l370.length cp0_0,9,1,l370.length,l370.flatMap (fun x : ByteArray=>[Value.string x])⟩)::R,φ⟩ (fun _ h=>h)<|c_region<|g_v rfl r_move<|g_v rfl (r_add rfl rfl rfl)<|g_v rfl r_move<|g_v rfl (r_sub rfl rfl rfl)<|g_v rfl r_assign<|g_v rfl r_assign<|g_nil ?_
   obtain ⟨n373,hn373,hlp⟩:=nx_inl hm hnx2
   exact d_round (n373,l370,w64 (i231 + 1),w64 (i232 - 1)) ⟨hlp,⟨(setAt_len (setAt_len hl228.1 hl363) hl370),((setAt_lenE hl370).trans ((setAt_lenE hl363).trans hl228.2))⟩⟩ hn373 ⟨rfl,rfl,rfl,trivial⟩ (fun W h=>h.phi (fun W hφ=>hφ))
  replace hm:=ite_f hm (of_decide_eq_false h306)
  refine c_exit<|d_exit_then<|d_exit_then<|d_exit_block ?_
  replace hm:=nx_out (C:=(fun e : (List ByteArray)=>m_slices_Reverse_122_j1 e = some r)) hm hnx2 hr2
  exact d_round l228 ⟨hm,⟨hl228.1,hl228.2⟩⟩ Nat.zero_lt_one trivial (fun W h=>h.phi (fun W hφ=>hφ))
 unfold m_slices_Reverse_122_j1 at hm
 refine d_flat [] trivial (fun u=>?_)
 refine d_sta ⟨w0,M,H,(1000,⟨.slice Ap0_0 l152.length cp0_0,9,1,l152.length,l152.flatMap (fun x : ByteArray=>[Value.string x])⟩)::R,φ⟩ (fun _ h=>h) ?_
 cases hm
 exact d_retC () Tryz.results122 (res_nil rfl) hl152.2 (fun W h=>h.phi (fun W hφ=>hφ)) (.inl rfl)
noncomputable def m_name_two (p0 : ByteArray) (p1 : ByteArray) : Option ((List ByteArray)×(List ByteArray)×Bool):=
  (m_name_Lower p0).bind fun x1=>
  (m_name_Labels x1).bind fun (z9 : (List ByteArray)×Int)=>
  (m_name_Lower p1).bind fun x10=>
  (m_name_Labels x10).bind fun (z18 : (List ByteArray)×Int)=>
  (m_slices_Reverse_122 z9.1).bind fun x19=>
  (m_slices_Reverse_122 z18.1).bind fun x22=>
  if z9.2 = 0 then
    some (x19,x22,decide (z18.2 = 0))
  else
    some (x19,x22,false)
theorem c_name_two {w0 : World} {M : Nat→Prop} {H : List (Nat×Nat×Obj)} {R : List (Nat×Row)} {φ : World→Prop} (p0 : ByteArray) (p1 : ByteArray) (r : (List ByteArray)×(List ByteArray)×Bool) (hm : m_name_two p0 p1 = some r) :
    Cn Tryz.prog 104 #[Vs p0,Vs p1] ⟨w0,M,H,R,φ⟩ (fun x : Option Addr×Nat×Option Addr×Nat=>.tuple #[.slice x.1 r.1.length x.2.1,.slice x.2.2.1 r.2.1.length x.2.2.2,.bool r.2.2]) (fun x=>r.1.length ≤ x.2.1∧r.2.1.length ≤ x.2.2.2) (fun x=>⟨w0,M,H,(2000,⟨.slice x.1 r.1.length x.2.1,9,1,r.1.length,r.1.flatMap (fun x : ByteArray=>[Value.string x])⟩)::(2001,⟨.slice x.2.2.1 r.2.1.length x.2.2.2,9,1,r.2.1.length,r.2.1.flatMap (fun x : ByteArray=>[Value.string x])⟩)::R,φ⟩):=by
 unfold m_name_two at hm
 refine cn_intro (fn:=Tryz.f104) (N:=35) Tryz.func104 rfl Tryz.ntmps104 rfl<|c_seq<|c_region ?_
 iterate 3 refine g_v rfl r_assign ?_
 refine g_nil<|d_then<|c_seq<|c_region<|g_v rfl r_move ?_
 replace hm:=bnd hm
 obtain ⟨x1,hx2,hm⟩:=hm
 refine g_cn ⟨w0,M,_,_,φ⟩ (fun _ h=>h) Tryz.call37 rfl rfl (c_name_Lower p0 _ hx2) (fun _ _=>?_)
 replace hm:=bnd hm
 obtain ⟨⟨x3,x4⟩,hx5,hm⟩:=hm
 refine g_cn ⟨w0,M,_,_,φ⟩ (fun _ h=>h) Tryz.call103 rfl rfl (c_name_Labels x1 _ hx5) (fun ⟨A6,c7⟩ hc7=>?_)
 refine g_sta _ (fun W h=>(ok_frontR (t:=2000) (t':=100140) h rfl))<|g_v rfl r_move<|g_v rfl (r_extract rfl rfl)<|g_v rfl (r_extract rfl rfl)<|g_v rfl r_assign<|g_v rfl r_assign<|g_nil<|d_then ?_
 refine c_flat [(1,Vs p1),(7,.slice A6 x3.length c7),(8,Vi x4)] ⟨rfl,rfl,rfl,trivial⟩ (fun u=>?_)
 refine c_sta ⟨w0,M,H,(100140,⟨.slice A6 x3.length c7,9,1,x3.length,x3.flatMap (fun x : ByteArray=>[Value.string x])⟩)::R,φ⟩ (fun _ h=>h)<|c_seq<|c_region<|g_v rfl r_move ?_
 replace hm:=bnd hm
 obtain ⟨x10,hx11,hm⟩:=hm
 refine g_cn ⟨w0,M,_,_,φ⟩ (fun _ h=>h) Tryz.call37 rfl rfl (c_name_Lower p1 _ hx11) (fun _ _=>?_)
 replace hm:=bnd hm
 obtain ⟨⟨x12,x13⟩,hx14,hm⟩:=hm
 refine g_cn ⟨w0,M,_,_,φ⟩ (fun _ h=>h) Tryz.call103 rfl rfl (c_name_Labels x10 _ hx14) (fun ⟨A15,c16⟩ hc16=>?_)
 refine g_sta _ (fun W h=>(ok_frontR (t:=2000) (t':=100200) h rfl))<|g_v rfl r_move<|g_v rfl (r_extract rfl rfl)<|g_v rfl (r_extract rfl rfl)<|g_v rfl r_assign<|g_v rfl r_assign<|g_nil<|d_then<|c_seq<|c_region ?_
 refine g_v rfl r_move ?_
 replace hm:=bnd hm
 obtain ⟨x19,hx20,hm⟩:=hm
 refine g_cn ⟨w0,M,H,(1000,⟨.slice A6 x3.length c7,9,1,x3.length,x3.flatMap (fun x : ByteArray=>[Value.string x])⟩)::(100200,⟨.slice A15 x12.length c16,9,1,x12.length,x12.flatMap (fun x : ByteArray=>[Value.string x])⟩)::R,φ⟩ (fun W h=>(ok_frontR (t:=100140) (t':=1000) h rfl)) Tryz.call122 rfl rfl (c_slices_Reverse_122 x3 A6 c7 hc7 _ hx20) (fun _ hp21=>?_)
 refine g_sta _ (fun W h=>(ok_frontR (t:=1000) (t':=100140) h rfl)) ?_
 rw [show x3.length = x19.length from hp21.symm]
 refine g_nil<|d_then ?_
 refine c_flat [(7,.slice A6 x19.length c7),(8,Vi x4),(9,.slice A15 x12.length c16),(10,Vi x13)] ⟨rfl,rfl,rfl,rfl,trivial⟩ (fun u=>?_)
 refine c_sta ⟨w0,M,H,(100140,⟨.slice A6 x19.length c7,9,1,x19.length,x19.flatMap (fun x : ByteArray=>[Value.string x])⟩)::(100200,⟨.slice A15 x12.length c16,9,1,x12.length,x12.flatMap (fun x : ByteArray=>[Value.string x])⟩)::R,φ⟩ (fun _ h=>h)<|c_seq<|c_region<|g_v rfl r_move ?_
 replace hm:=bnd hm
 obtain ⟨x22,hx23,hm⟩:=hm
 refine g_cn ⟨w0,M,H,(1000,⟨.slice A15 x12.length c16,9,1,x12.length,x12.flatMap (fun x : ByteArray=>[Value.string x])⟩)::(100140,⟨.slice A6 x19.length c7,9,1,x19.length,x19.flatMap (fun x : ByteArray=>[Value.string x])⟩)::R,φ⟩ (fun W h=>(ok_frontR (t:=100200) (t':=1000) h rfl)) Tryz.call122 rfl rfl (c_slices_Reverse_122 x12 A15 c16 hc16 _ hx23) (fun _ hp24=>?_)
 refine g_sta _ (fun W h=>(ok_frontR (t:=1000) (t':=100200) h rfl)) ?_
 rw [show x12.length = x22.length from hp24.symm]
 refine g_nil<|d_then<|c_seq<|c_region ?_
 iterate 3 refine g_v rfl r_move ?_
 refine g_v rfl (r_eql rfl rfl)<|g_v rfl r_move<|g_sta ⟨w0,M,H,(100200,⟨.slice A15 x22.length c16,9,1,x22.length,x22.flatMap (fun x : ByteArray=>[Value.string x])⟩)::(100140,⟨.slice A6 x19.length c7,9,1,x19.length,x19.flatMap (fun x : ByteArray=>[Value.string x])⟩)::R,φ⟩ (fun _ h=>h) ?_
 refine g_if rfl rfl rfl rfl rfl (fun h25=>?_) (fun h25=>?_)
 ·
  replace hm:=ite_t hm (of_decide_eq_true h25)
  refine g_v rfl r_move<|g_do rfl rfl rfl rfl rfl h25<|g_v rfl (r_eql rfl rfl)<|g_v rfl (r_pick1 rfl h25) ?_
  iterate 3 refine g_v rfl r_assign ?_
  refine g_nil<|d_then ?_
  refine c_flat [(4,.slice A6 x19.length c7),(5,.slice A15 x22.length c16),(6,.bool (decide (x13 = 0)))] ⟨rfl,rfl,rfl,trivial⟩ (fun u=>?_)
  refine c_ret ?_
  cases hm
  refine d_sta _ (fun W h=>ok_frontR (t:=100200) (t':=2001) h rfl)<|d_sta _ (fun W h=>ok_frontR (t:=100140) (t':=2000) h rfl) ?_
  exact d_retC (A6,c7,A15,c16) Tryz.results104 (res_tmp (res_tmp (res_tmp (res_nil rfl)))) ⟨(Nat.le_trans (Nat.le_of_eq hp21) hc7),(Nat.le_trans (Nat.le_of_eq hp24) hc16)⟩ (fun W h=>h.phi (fun W hφ=>hφ)) (.inr rfl)
 replace hm:=ite_f hm (of_decide_eq_false h25)
 refine g_no rfl rfl rfl rfl rfl h25<|g_v rfl (r_pick0 rfl h25) ?_
 iterate 3 refine g_v rfl r_assign ?_
 refine g_nil<|d_then ?_
 refine c_flat [(4,.slice A6 x19.length c7),(5,.slice A15 x22.length c16),(6,.bool false)] ⟨rfl,rfl,rfl,trivial⟩ (fun u=>?_)
 refine c_ret ?_
 cases hm
 refine d_sta _ (fun W h=>ok_frontR (t:=100200) (t':=2001) h rfl)<|d_sta _ (fun W h=>ok_frontR (t:=100140) (t':=2000) h rfl) ?_
 exact d_retC (A6,c7,A15,c16) Tryz.results104 (res_tmp (res_tmp (res_tmp (res_nil rfl)))) ⟨(Nat.le_trans (Nat.le_of_eq hp21) hc7),(Nat.le_trans (Nat.le_of_eq hp24) hc16)⟩ (fun W h=>h.phi (fun W hφ=>hφ)) (.inr rfl)
noncomputable def m_name_Shared_c1 (p0 : Int) (o0 : List ByteArray) (o1 : List ByteArray) : Option Bool:=
  if p0 < (o0.length : Int) then
    if p0 < (o1.length : Int) then
      (at_ o0 p0).bind fun x23=>
      (at_ o1 p0).bind fun x27=>
      some (decide (x23 = x27))
    else
      some false
  else
    some false
theorem c_name_Shared_c1 {w0 : World} {M : Nat→Prop} {H : List (Nat×Nat×Obj)} {R : List (Nat×Row)} {φ : World→Prop} (p0 : Int) (go0 : Nat) (o0 : List ByteArray) (Ao0_0 : Option Addr) (co0_0 : Nat) (hco0_0 : o0.length ≤ co0_0) (go1 : Nat) (o1 : List ByteArray) (Ao1_0 : Option Addr) (co1_0 : Nat) (hco1_0 : o1.length ≤ co1_0) (r : Bool) (hm : m_name_Shared_c1 p0 o0 o1 = some r) :
    Cn Tryz.prog 105 #[Vi p0,Vp go0,Vp go1] ⟨w0,M,(1000,go0,.cells #[.slice Ao0_0 o0.length co0_0] 26 (0,0))::(1001,go1,.cells #[.slice Ao1_0 o1.length co1_0] 26 (0,0))::H,(1000,⟨.slice Ao0_0 o0.length co0_0,9,1,o0.length,o0.flatMap (fun x : ByteArray=>[Value.string x])⟩)::(1001,⟨.slice Ao1_0 o1.length co1_0,9,1,o1.length,o1.flatMap (fun x : ByteArray=>[Value.string x])⟩)::R,φ⟩ (fun x : Unit=>.bool r) (fun x=>True) (fun x=>⟨w0,M,(1000,go0,.cells #[.slice Ao0_0 o0.length co0_0] 26 (0,0))::(1001,go1,.cells #[.slice Ao1_0 o1.length co1_0] 26 (0,0))::H,(1000,⟨.slice Ao0_0 o0.length co0_0,9,1,o0.length,o0.flatMap (fun x : ByteArray=>[Value.string x])⟩)::(1001,⟨.slice Ao1_0 o1.length co1_0,9,1,o1.length,o1.flatMap (fun x : ByteArray=>[Value.string x])⟩)::R,φ⟩):=by
 unfold m_name_Shared_c1 at hm
 refine cn_intro (fn:=Tryz.f105) (N:=26) Tryz.func105 rfl Tryz.ntmps105 rfl<|c_seq<|c_region<|g_v rfl r_assign<|g_nil<|d_then<|c_seq<|ga_start (n:=22) ⟨w0,M,(1000,go0,.cells #[.slice Ao0_0 o0.length co0_0] 26 (0,0))::(1001,go1,.cells #[.slice Ao1_0 o1.length co1_0] 26 (0,0))::H,(1000,⟨.slice Ao0_0 o0.length co0_0,9,1,o0.length,o0.flatMap (fun x : ByteArray=>[Value.string x])⟩)::(1001,⟨.slice Ao1_0 o1.length co1_0,9,1,o1.length,o1.flatMap (fun x : ByteArray=>[Value.string x])⟩)::R,φ⟩ [] #[false,false,false,false,false,false,false,false,false,false,false,false,false,false,false,false,false,false,false,false,false,false] (fun W h=>h.phi (fun W hφ=>hφ)) mixed rfl rfl<|ga_v (i:=0) (bz 22 1) rfl (by kernel_rfl) (fun _ _ _ _ h=>h) rfl (r_move)<|ga_r (i:=1) (bz 22 3) rfl (by kernel_rfl) (by decide) rfl (r_load (tag:=1000) rfl rfl rfl Tryz.isAgg26) ?_
 refine ga_r (i:=2) (bz 22 7) rfl (by kernel_rfl) (by decide) rfl (r_lenL Tryz.underlying26 rfl)<|ga_r (i:=3) (bz 22 15) rfl (by kernel_rfl) (by decide) rfl (r_lss rfl rfl)<|ga_r (i:=4) (bz 22 31) rfl (by kernel_rfl) (by decide) rfl (r_move) ?_
 refine ga_if (t:=9) rfl (fun h21=>?_) (fun h21=>?_)
 ·
  replace hm:=ite_t hm (of_decide_eq_true h21)
  refine ga_do (i:=5) (bz 22 63) rfl (by kernel_rfl) (fun _ _ _ _ h=>h) rfl rfl rfl rfl rfl h21 (r_move)<|ga_rG (i:=6) (bz 22 127) rfl (by kernel_rfl) (by decide) rfl rfl rfl rfl rfl h21 (r_load (tag:=1001) rfl rfl rfl Tryz.isAgg26)<|ga_rG (i:=7) (bz 22 255) rfl (by kernel_rfl) (by decide) rfl rfl rfl rfl rfl h21 (r_lenL Tryz.underlying26 rfl)<|ga_rG (i:=8) (bz 22 511) rfl (by kernel_rfl) (by decide) rfl rfl rfl rfl rfl h21 (r_lss rfl rfl)<|ga_r (i:=9) (bz 22 1023) rfl (by kernel_rfl) (by decide) rfl (r_pick1 rfl h21)<|ga_r (i:=10) (bz 22 2047) rfl (by kernel_rfl) (by decide) rfl (r_move) ?_
  refine ga_if (t:=15) rfl (fun h22=>?_) (fun h22=>?_)
  ·
   replace hm:=ite_t hm (of_decide_eq_true h22)
   refine ga_do (i:=11) (bz 22 4095) rfl (by kernel_rfl) (fun _ _ _ _ h=>h) rfl rfl rfl rfl rfl h22 (r_load (tag:=1000) rfl rfl rfl Tryz.isAgg26)<|ga_do (i:=12) (bz 22 8191) rfl (by kernel_rfl) (fun _ _ _ _ h=>h) rfl rfl rfl rfl rfl h22 (r_move) ?_
   replace hm:=bnd hm
   obtain ⟨x23,hx23,hm⟩:=hm
   refine ga_know _ (fun W hS=>cl_at (p:=(Sta.ok ⟨w0,M,(1000,go0,.cells #[.slice Ao0_0 o0.length co0_0] 26 (0,0))::(1001,go1,.cells #[.slice Ao1_0 o1.length co1_0] 26 (0,0))::H,(1000,⟨.slice Ao0_0 o0.length co0_0,9,1,o0.length,o0.flatMap (fun x : ByteArray=>[Value.string x])⟩)::(1001,⟨.slice Ao1_0 o1.length co1_0,9,1,o1.length,o1.flatMap (fun x : ByteArray=>[Value.string x])⟩)::R,φ⟩)) (sz:=1) (fun _=>rfl) (by decide) (hS.phi (fun W hφ=>hφ)) (fun W hS=>rowCl (S:=⟨w0,M,(1000,go0,.cells #[.slice Ao0_0 o0.length co0_0] 26 (0,0))::(1001,go1,.cells #[.slice Ao1_0 o1.length co1_0] 26 (0,0))::H,(1000,⟨.slice Ao0_0 o0.length co0_0,9,1,o0.length,o0.flatMap (fun x : ByteArray=>[Value.string x])⟩)::(1001,⟨.slice Ao1_0 o1.length co1_0,9,1,o1.length,o1.flatMap (fun x : ByteArray=>[Value.string x])⟩)::R,φ⟩) (tag:=1000) rfl W hS) hx23) ?_
   rintro ⟨ad24,hA26,f25⟩
   refine ga_do (i:=13) (bz 22 16383) rfl (by kernel_rfl) (fun _ _ _ _ h=>h) rfl rfl rfl rfl rfl h22 (r_ix Tryz.underlying26 Tryz.sizeOf9 rfl hA26 rfl hx23)<|ga_do (i:=14) (bz 22 32767) rfl (by kernel_rfl) (fun _ _ _ _ h=>h) rfl rfl rfl rfl rfl h22 (r_ld rfl Tryz.isAgg9 (fun W hS=>Cl.head (f25 W hS)))<|ga_do (i:=15) (bz 22 65535) rfl (by kernel_rfl) (fun _ _ _ _ h=>h) rfl rfl rfl rfl rfl h22 (r_load (tag:=1001) rfl rfl rfl Tryz.isAgg26)<|ga_rG (i:=16) (bz 22 131071) rfl (by kernel_rfl) (by decide) rfl rfl rfl rfl rfl h22 (r_move) ?_
   replace hm:=bnd hm
   obtain ⟨x27,hx27,hm⟩:=hm
   refine ga_know _ (fun W hS=>cl_at (p:=(Sta.ok ⟨w0,M,(1000,go0,.cells #[.slice Ao0_0 o0.length co0_0] 26 (0,0))::(1001,go1,.cells #[.slice Ao1_0 o1.length co1_0] 26 (0,0))::H,(1000,⟨.slice Ao0_0 o0.length co0_0,9,1,o0.length,o0.flatMap (fun x : ByteArray=>[Value.string x])⟩)::(1001,⟨.slice Ao1_0 o1.length co1_0,9,1,o1.length,o1.flatMap (fun x : ByteArray=>[Value.string x])⟩)::R,φ⟩)) (sz:=1) (fun _=>rfl) (by decide) hS (fun W hS=>rowCl (S:=⟨w0,M,(1000,go0,.cells #[.slice Ao0_0 o0.length co0_0] 26 (0,0))::(1001,go1,.cells #[.slice Ao1_0 o1.length co1_0] 26 (0,0))::H,(1000,⟨.slice Ao0_0 o0.length co0_0,9,1,o0.length,o0.flatMap (fun x : ByteArray=>[Value.string x])⟩)::(1001,⟨.slice Ao1_0 o1.length co1_0,9,1,o1.length,o1.flatMap (fun x : ByteArray=>[Value.string x])⟩)::R,φ⟩) (tag:=1001) rfl W hS) hx27) ?_
   rintro ⟨ad28,hA30,f29⟩
   refine ga_rG (i:=17) (bz 22 262143) rfl (by kernel_rfl) (by decide) rfl rfl rfl rfl rfl h22 (r_ix Tryz.underlying26 Tryz.sizeOf9 rfl hA30 rfl hx27)<|ga_rG (i:=18) (bz 22 524287) rfl (by kernel_rfl) (by decide) rfl rfl rfl rfl rfl h22 (r_ld rfl Tryz.isAgg9 (fun W hS=>Cl.head (f29 W hS)))<|ga_rG (i:=19) (bz 22 1048575) rfl (by kernel_rfl) (by decide) rfl rfl rfl rfl rfl h22 (r_eqlT rfl rfl)<|ga_r (i:=20) (bz 22 2097151) rfl (by kernel_rfl) (by decide) rfl (r_pick1 rfl h22)<|ga_r (i:=21) (bz 22 4194303) rfl (by kernel_rfl) (by decide) rfl (r_assign)<|ga_done (by kernel_rfl)<|d_then ?_
   refine c_flat [(4,.bool (decide (x23 = x27)))] ⟨rfl,trivial⟩ (fun u=>?_)
   refine c_sta ⟨w0,M,(1000,go0,.cells #[.slice Ao0_0 o0.length co0_0] 26 (0,0))::(1001,go1,.cells #[.slice Ao1_0 o1.length co1_0] 26 (0,0))::H,(1000,⟨.slice Ao0_0 o0.length co0_0,9,1,o0.length,o0.flatMap (fun x : ByteArray=>[Value.string x])⟩)::(1001,⟨.slice Ao1_0 o1.length co1_0,9,1,o1.length,o1.flatMap (fun x : ByteArray=>[Value.string x])⟩)::R,φ⟩ (fun _ h=>h)<|c_ret ?_
   cases hm
   exact d_retC () Tryz.results105 (res_tmp (res_nil rfl)) trivial (fun W h=>h.phi (fun W hφ=>hφ)) (.inr rfl)
  replace hm:=ite_f hm (of_decide_eq_false h22)
  refine ga_no (i:=11) (bz 22 4095) rfl (by kernel_rfl) (fun _ _ _ _ h=>h) rfl rfl rfl rfl rfl h22<|ga_no (i:=12) (bz 22 8191) rfl (by kernel_rfl) (fun _ _ _ _ h=>h) rfl rfl rfl rfl rfl h22<|ga_no (i:=13) (bz 22 16383) rfl (by kernel_rfl) (fun _ _ _ _ h=>h) rfl rfl rfl rfl rfl h22<|ga_no (i:=14) (bz 22 32767) rfl (by kernel_rfl) (fun _ _ _ _ h=>h) rfl rfl rfl rfl rfl h22<|ga_no (i:=15) (bz 22 65535) rfl (by kernel_rfl) (fun _ _ _ _ h=>h) rfl rfl rfl rfl rfl h22<|ga_no (i:=16) (bz 22 131071) rfl (by kernel_rfl) (fun _ _ _ _ h=>h) rfl rfl rfl rfl rfl h22<|ga_no (i:=17) (bz 22 262143) rfl (by kernel_rfl) (fun _ _ _ _ h=>h) rfl rfl rfl rfl rfl h22<|ga_no (i:=18) (bz 22 524287) rfl (by kernel_rfl) (fun _ _ _ _ h=>h) rfl rfl rfl rfl rfl h22<|ga_no (i:=19) (bz 22 1048575) rfl (by kernel_rfl) (fun _ _ _ _ h=>h) rfl rfl rfl rfl rfl h22<|ga_r (i:=20) (bz 22 2097151) rfl (by kernel_rfl) (by decide) rfl (r_pick0 rfl h22) ?_
  refine ga_r (i:=21) (bz 22 4194303) rfl (by kernel_rfl) (by decide) rfl (r_assign)<|ga_done (by kernel_rfl)<|d_then ?_
  refine c_flat [(4,.bool false)] ⟨rfl,trivial⟩ (fun u=>?_)
  refine c_sta ⟨w0,M,(1000,go0,.cells #[.slice Ao0_0 o0.length co0_0] 26 (0,0))::(1001,go1,.cells #[.slice Ao1_0 o1.length co1_0] 26 (0,0))::H,(1000,⟨.slice Ao0_0 o0.length co0_0,9,1,o0.length,o0.flatMap (fun x : ByteArray=>[Value.string x])⟩)::(1001,⟨.slice Ao1_0 o1.length co1_0,9,1,o1.length,o1.flatMap (fun x : ByteArray=>[Value.string x])⟩)::R,φ⟩ (fun _ h=>h)<|c_ret ?_
  cases hm
  exact d_retC () Tryz.results105 (res_tmp (res_nil rfl)) trivial (fun W h=>h.phi (fun W hφ=>hφ)) (.inr rfl)
 replace hm:=ite_f hm (of_decide_eq_false h21)
 refine ga_no (i:=5) (bz 22 63) rfl (by kernel_rfl) (fun _ _ _ _ h=>h) rfl rfl rfl rfl rfl h21<|ga_no (i:=6) (bz 22 127) rfl (by kernel_rfl) (fun _ _ _ _ h=>h) rfl rfl rfl rfl rfl h21<|ga_no (i:=7) (bz 22 255) rfl (by kernel_rfl) (fun _ _ _ _ h=>h) rfl rfl rfl rfl rfl h21<|ga_no (i:=8) (bz 22 511) rfl (by kernel_rfl) (fun _ _ _ _ h=>h) rfl rfl rfl rfl rfl h21<|ga_r (i:=9) (bz 22 1023) rfl (by kernel_rfl) (by decide) rfl (r_pick0 rfl h21)<|ga_r (i:=10) (bz 22 2047) rfl (by kernel_rfl) (by decide) rfl (r_move)<|ga_no (i:=11) (bz 22 4095) rfl (by kernel_rfl) (fun _ _ _ _ h=>h) rfl rfl rfl rfl rfl rfl<|ga_no (i:=12) (bz 22 8191) rfl (by kernel_rfl) (fun _ _ _ _ h=>h) rfl rfl rfl rfl rfl rfl<|ga_no (i:=13) (bz 22 16383) rfl (by kernel_rfl) (fun _ _ _ _ h=>h) rfl rfl rfl rfl rfl rfl<|ga_no (i:=14) (bz 22 32767) rfl (by kernel_rfl) (fun _ _ _ _ h=>h) rfl rfl rfl rfl rfl rfl ?_
 refine ga_no (i:=15) (bz 22 65535) rfl (by kernel_rfl) (fun _ _ _ _ h=>h) rfl rfl rfl rfl rfl rfl<|ga_no (i:=16) (bz 22 131071) rfl (by kernel_rfl) (fun _ _ _ _ h=>h) rfl rfl rfl rfl rfl rfl<|ga_no (i:=17) (bz 22 262143) rfl (by kernel_rfl) (fun _ _ _ _ h=>h) rfl rfl rfl rfl rfl rfl<|ga_no (i:=18) (bz 22 524287) rfl (by kernel_rfl) (fun _ _ _ _ h=>h) rfl rfl rfl rfl rfl rfl<|ga_no (i:=19) (bz 22 1048575) rfl (by kernel_rfl) (fun _ _ _ _ h=>h) rfl rfl rfl rfl rfl rfl<|ga_r (i:=20) (bz 22 2097151) rfl (by kernel_rfl) (by decide) rfl (r_pick0 rfl rfl)<|ga_r (i:=21) (bz 22 4194303) rfl (by kernel_rfl) (by decide) rfl (r_assign)<|ga_done (by kernel_rfl)<|d_then ?_
 refine c_flat [(4,.bool false)] ⟨rfl,trivial⟩ (fun u=>?_)
 refine c_sta ⟨w0,M,(1000,go0,.cells #[.slice Ao0_0 o0.length co0_0] 26 (0,0))::(1001,go1,.cells #[.slice Ao1_0 o1.length co1_0] 26 (0,0))::H,(1000,⟨.slice Ao0_0 o0.length co0_0,9,1,o0.length,o0.flatMap (fun x : ByteArray=>[Value.string x])⟩)::(1001,⟨.slice Ao1_0 o1.length co1_0,9,1,o1.length,o1.flatMap (fun x : ByteArray=>[Value.string x])⟩)::R,φ⟩ (fun _ h=>h)<|c_ret ?_
 cases hm
 exact d_retC () Tryz.results105 (res_tmp (res_nil rfl)) trivial (fun W h=>h.phi (fun W hφ=>hφ)) (.inr rfl)
noncomputable def m_name_Shared_j1  (i25 : Int) : Option Int:=
  some i25
noncomputable def m_name_Shared_s2 (x1 : List ByteArray) (x2 : List ByteArray) (i30 : Int) : Option (Int ⊕ Int):=
  (m_name_Shared_c1 i30 x1 x2).bind fun x36=>
  if x36 = true then
    some (.inl (w64 (i30 + 1)))
  else
    some (.inr i30)
noncomputable def m_name_Shared (p0 : ByteArray) (p1 : ByteArray) : Option Int:=
  (m_name_two p0 p1).bind fun (z11 : (List ByteArray)×(List ByteArray)×Bool)=>
  if z11.2.2 = true then
    (loop (fun s=>m_name_Shared_s2 z11.1 z11.2.1 s) 0).bind fun e=>m_name_Shared_j1 e
  else
    some (-1)
theorem c_name_Shared {w0 : World} {M : Nat→Prop} {H : List (Nat×Nat×Obj)} {R : List (Nat×Row)} {φ : World→Prop} (p0 : ByteArray) (p1 : ByteArray) (r : Int) (hm : m_name_Shared p0 p1 = some r) :
    Cn Tryz.prog 82 #[Vs p0,Vs p1] ⟨w0,M,H,R,φ⟩ (fun x : Unit=>Vi r) (fun x=>True) (fun x=>⟨w0,M,H,R,φ⟩):=by
 unfold m_name_Shared at hm
 refine cn_intro (fn:=Tryz.f82) (N:=26) Tryz.func82 rfl Tryz.ntmps82 rfl<|c_seq<|c_region<|g_v rfl r_assign<|g_nil<|d_then<|c_seq<|c_region<|g_v rfl r_move<|g_v rfl r_move ?_
 replace hm:=bnd hm
 obtain ⟨⟨x1,x2,x3⟩,hx4,hm⟩:=hm
 refine g_cn ⟨w0,M,_,_,φ⟩ (fun _ h=>h) Tryz.call104 rfl rfl (c_name_two p0 p1 _ hx4) (fun ⟨A5,c6,A8,c9⟩ ⟨hc6,hc9⟩=>?_)
 refine g_sta _ (fun W h=>(ok_frontR (t:=2000) (t':=100130) (ok_frontR (t:=2001) (t':=100131) h rfl) rfl))<|g_v rfl r_move ?_
 iterate 3 refine g_v rfl (r_extract rfl rfl) ?_
 refine g_e rfl (e_alloc 100050 Tryz.zeroValue26) (fun g12 _=>?_)
 refine g_e rfl (e_alloc 100060 Tryz.zeroValue26) (fun g13 _=>?_)
 refine g_storeL (tag:=100050) rfl rfl rfl rfl Tryz.sizeOf26 rfl rfl<|g_storeL (tag:=100060) rfl rfl rfl rfl Tryz.sizeOf26 rfl rfl<|g_v rfl r_assign<|g_nil<|d_then ?_
 refine c_flat [(5,Vp g12),(6,Vp g13),(7,.bool x3)] ⟨rfl,rfl,rfl,trivial⟩ (fun u=>?_)
 refine c_sta ⟨w0,M,(100060,g13,.cells #[.slice A8 x2.length c9] 26 (0,0))::(100050,g12,.cells #[.slice A5 x1.length c6] 26 (0,0))::H,(100130,⟨.slice A5 x1.length c6,9,1,x1.length,x1.flatMap (fun x : ByteArray=>[Value.string x])⟩)::(100131,⟨.slice A8 x2.length c9,9,1,x2.length,x2.flatMap (fun x : ByteArray=>[Value.string x])⟩)::R,φ⟩ (fun _ h=>h)<|c_seq<|c_seq<|c_region<|g_v rfl r_move<|g_v rfl (r_not rfl)<|g_nil<|d_then ?_
 refine c_cond rfl (fun h14=>?_) (fun h14=>?_)
 ·
  have h14' : x3 = false:=by revert h14; cases x3 <;> simp
  replace hm:=ite_f hm (bool_nt h14')
  refine c_seq<|c_region<|g_v rfl r_assign<|g_nil<|d_then<|c_ret<|d_ret_then ?_
  cases hm
  exact d_retC () Tryz.results82 (res_tmp (res_nil rfl)) trivial (fun W h=>ok_pre (H1:=[_,_]) (R1:=[_,_]) h (fun W hφ=>hφ)) (.inr rfl)
 have h14' : x3 = true:=by revert h14; cases x3 <;> simp
 replace hm:=ite_t hm h14'
 refine c_skip<|d_then<|c_seq<|c_region<|g_v rfl (r_mkf rfl)<|g_v rfl r_assign<|g_nil<|d_then<|c_seq<|c_region ?_
 refine g_v rfl r_assign<|g_nil<|d_then<|c_seq ?_
 refine c_cut (ι:=Int) [9] (fun i25=>[(9,Vi i25)]) (fun i25=>⟨w0,M,H,R,φ⟩) (fun i25=>m_name_Shared_j1 i25 = some r) ?_ (fun i25 u hm=>?_)
 ·
  refine c_block ?_
  replace hm:=bnd hm
  obtain ⟨out2,hl2,hr2⟩:=hm
  obtain ⟨n35',hl2⟩:=loop_lp hl2
  refine c_loopU (ι:=Nat×Int) [8,9] (fun ⟨n35,i30⟩=>[(9,Vi i30)]) (fun ⟨n35,i30⟩=>⟨w0,M,(100060,g13,.cells #[.slice A8 x2.length c9] 26 (0,0))::(100050,g12,.cells #[.slice A5 x1.length c6] 26 (0,0))::H,(100130,⟨.slice A5 x1.length c6,9,1,x1.length,x1.flatMap (fun x : ByteArray=>[Value.string x])⟩)::(100131,⟨.slice A8 x2.length c9,9,1,x2.length,x2.flatMap (fun x : ByteArray=>[Value.string x])⟩)::R,φ⟩) (fun ⟨n35,i30⟩=>Lp (fun s=>m_name_Shared_s2 x1 x2 s) n35 i30 out2) (fun ⟨n35,i30⟩=>n35) (n35',0) hl2 ⟨rfl,rfl,trivial⟩ (fun W h=>h.phi (fun W hφ=>hφ)) (fun ⟨n35,i30⟩ u hlp=>?_)
  obtain ⟨o2,hm,hnx2⟩:=lp_step hlp
  clear hlp
  replace hm : m_name_Shared_s2 x1 x2 i30 = some o2:=hm
  unfold m_name_Shared_s2 at hm
  refine c_flat [(8,.func (.func 105) #[] #[Vp g12,Vp g13]),(9,Vi i30)] ⟨rfl,rfl,trivial⟩ (fun u=>?_)
  refine c_seq<|c_seq<|c_region<|g_v rfl r_move<|g_v rfl r_move ?_
  replace hm:=bnd hm
  obtain ⟨x36,hx37,hm⟩:=hm
  refine g_cnv ⟨w0,M,(1000,g12,.cells #[.slice A5 x1.length c6] 26 (0,0))::(1001,g13,.cells #[.slice A8 x2.length c9] 26 (0,0))::H,(1000,⟨.slice A5 x1.length c6,9,1,x1.length,x1.flatMap (fun x : ByteArray=>[Value.string x])⟩)::(1001,⟨.slice A8 x2.length c9,9,1,x2.length,x2.flatMap (fun x : ByteArray=>[Value.string x])⟩)::R,φ⟩ (fun W h=>(ok_front (t:=100050) (t':=1000) (ok_front (t:=100060) (t':=1001) (ok_frontR (t:=100130) (t':=1000) (ok_frontR (t:=100131) (t':=1001) h rfl) rfl) rfl) rfl)) Tryz.call105 rfl rfl rfl (c_name_Shared_c1 i30 g12 x1 A5 c6 hc6 g13 x2 A8 c9 hc9 _ hx37) (fun _ _=>?_)
  refine g_sta _ (fun W h=>(ok_frontR (t:=1000) (t':=100130) (ok_frontR (t:=1001) (t':=100131) (ok_front (t:=1000) (t':=100050) (ok_front (t:=1001) (t':=100060) h rfl) rfl) rfl) rfl))<|g_nil<|d_then<|c_sta ⟨w0,M,(100050,g12,.cells #[.slice A5 x1.length c6] 26 (0,0))::(100060,g13,.cells #[.slice A8 x2.length c9] 26 (0,0))::H,(100130,⟨.slice A5 x1.length c6,9,1,x1.length,x1.flatMap (fun x : ByteArray=>[Value.string x])⟩)::(100131,⟨.slice A8 x2.length c9,9,1,x2.length,x2.flatMap (fun x : ByteArray=>[Value.string x])⟩)::R,φ⟩ (fun _ h=>h) ?_
  refine c_cond rfl (fun h38=>?_) (fun h38=>?_)
  ·
   replace hm:=ite_t hm h38
   refine c_skip<|d_then<|c_block<|c_region<|g_v rfl r_move<|g_v rfl (r_add rfl rfl rfl)<|g_v rfl r_assign<|g_nil<|d_normal_block ?_
   obtain ⟨n39,hn39,hlp⟩:=nx_inl hm hnx2
   exact d_round (n39,w64 (i30 + 1)) hlp hn39 ⟨rfl,rfl,trivial⟩ (fun W h=>(ok_front (t:=100060) (t':=100060) (ok_front (t:=100050) (t':=100050) h rfl) rfl).phi (fun W hφ=>hφ))
  replace hm:=ite_f hm (bool_nt h38)
  refine c_exit<|d_exit_then<|d_exit_then<|d_exit_block ?_
  replace hm:=nx_out (C:=(fun e : Int=>m_name_Shared_j1 e = some r)) hm hnx2 hr2
  exact d_round i30 hm Nat.zero_lt_one ⟨rfl,trivial⟩ (fun W h=>((((h.dropR (t:=100130) rfl).dropR (t:=100131) rfl).dropH (t:=100050) rfl).dropH (t:=100060) rfl).phi (fun W hφ=>hφ))
 unfold m_name_Shared_j1 at hm
 refine d_flat [(9,Vi i25)] ⟨rfl,trivial⟩ (fun u=>?_)
 refine d_sta ⟨w0,M,H,R,φ⟩ (fun _ h=>h)<|d_then<|c_seq<|c_region<|g_v rfl r_move<|g_v rfl r_assign<|g_nil<|d_then<|c_ret ?_
 cases hm
 exact d_retC () Tryz.results82 (res_tmp (res_nil rfl)) trivial (fun W h=>ok_pre (H1:=[]) (R1:=[]) h (fun W hφ=>hφ)) (.inr rfl)
noncomputable def m_name_Under (p0 : ByteArray) (p1 : ByteArray) : Option Bool:=
  (m_name_Depth p1).bind fun x1=>
  if 0 ≤ x1 then
    (m_name_Shared p0 p1).bind fun x4=>
    some (decide (x4 = x1))
  else
    some false
theorem c_name_Under {w0 : World} {M : Nat→Prop} {H : List (Nat×Nat×Obj)} {R : List (Nat×Row)} {φ : World→Prop} (p0 : ByteArray) (p1 : ByteArray) (r : Bool) (hm : m_name_Under p0 p1 = some r) :
    Cn Tryz.prog 22 #[Vs p0,Vs p1] ⟨w0,M,H,R,φ⟩ (fun x : Unit=>.bool r) (fun x=>True) (fun x=>⟨w0,M,H,R,φ⟩):=by
 unfold m_name_Under at hm
 refine cn_intro (fn:=Tryz.f22) (N:=17) Tryz.func22 rfl Tryz.ntmps22 rfl<|c_seq<|c_region<|g_v rfl r_assign<|g_nil<|d_then<|c_seq<|c_region<|g_v rfl r_move ?_
 replace hm:=bnd hm
 obtain ⟨x1,hx2,hm⟩:=hm
 refine g_cn ⟨w0,M,_,_,φ⟩ (fun _ h=>h) Tryz.call81 rfl rfl (c_name_Depth p1 _ hx2) (fun _ _=>?_)
 refine g_v rfl r_assign<|g_nil<|d_then<|c_seq<|c_region<|g_v rfl r_move<|g_v rfl (r_geq rfl rfl)<|g_v rfl r_move ?_
 refine g_if rfl rfl rfl rfl rfl (fun h3=>?_) (fun h3=>?_)
 ·
  replace hm:=ite_t hm (of_decide_eq_true h3)
  refine g_v rfl r_move<|g_do rfl rfl rfl rfl rfl h3<|g_v rfl r_move<|g_do rfl rfl rfl rfl rfl h3 ?_
  replace hm:=bnd hm
  obtain ⟨x4,hx5,hm⟩:=hm
  refine g_cn ⟨w0,M,_,_,φ⟩ (fun _ h=>h) Tryz.call82 rfl rfl (c_name_Shared p0 p1 _ hx5) (fun _ _=>?_)
  refine g_do rfl rfl rfl rfl rfl h3<|g_v rfl r_move<|g_do rfl rfl rfl rfl rfl h3<|g_v rfl (r_eql rfl rfl)<|g_v rfl (r_pick1 rfl h3)<|g_v rfl r_assign<|g_nil<|d_then ?_
  refine c_flat [(4,.bool (decide (x4 = x1)))] ⟨rfl,trivial⟩ (fun u=>?_)
  refine c_sta ⟨w0,M,H,R,φ⟩ (fun _ h=>h)<|c_ret ?_
  cases hm
  exact d_retC () Tryz.results22 (res_tmp (res_nil rfl)) trivial (fun W h=>ok_pre (H1:=[]) (R1:=[]) h (fun W hφ=>hφ)) (.inr rfl)
 replace hm:=ite_f hm (of_decide_eq_false h3)
 iterate 4 refine g_no rfl rfl rfl rfl rfl h3 ?_
 refine g_v rfl (r_pick0 rfl h3)<|g_v rfl r_assign<|g_nil<|d_then ?_
 refine c_flat [(4,.bool false)] ⟨rfl,trivial⟩ (fun u=>?_)
 refine c_sta ⟨w0,M,H,R,φ⟩ (fun _ h=>h)<|c_ret ?_
 cases hm
 exact d_retC () Tryz.results22 (res_tmp (res_nil rfl)) trivial (fun W h=>ok_pre (H1:=[]) (R1:=[]) h (fun W hφ=>hφ)) (.inr rfl)
noncomputable def m_conf_Apply_c3 (p0 : GFlush) (o0 : ByteArray) : Option Bool:=
  (m_name_Under p0.fZone o0).bind fun x2=>
  some x2
theorem c_conf_Apply_c3 {w0 : World} {M : Nat→Prop} {H : List (Nat×Nat×Obj)} {R : List (Nat×Row)} {φ : World→Prop} (p0 : GFlush) (go0 : Nat) (o0 : ByteArray) (r : Bool) (hm : m_conf_Apply_c3 p0 o0 = some r) :
    Cn Tryz.prog 39 #[.agg #[Vi p0.fEpoch,Vs p0.fZone],Vp go0] ⟨w0,M,(1000,go0,.cells #[Vs o0] 9 (0,0))::H,R,φ⟩ (fun x : Unit=>.bool r) (fun x=>True) (fun x=>⟨w0,M,(1000,go0,.cells #[Vs o0] 9 (0,0))::H,R,φ⟩):=by
 unfold m_conf_Apply_c3 at hm
 refine cn_intro (fn:=Tryz.f39) (N:=8) Tryz.func39 rfl Tryz.ntmps39 rfl<|c_seq<|c_region ?_
 refine g_e rfl (e_box 100020 rfl) (fun g1 _=>?_)
 refine g_v rfl r_assign<|g_nil<|d_then<|c_seq<|c_region<|g_v rfl (r_field (n:=1) Tryz.underlying48 rfl Tryz.sizeOf9 rfl rfl)<|g_v rfl (r_load (tag:=100020) rfl rfl rfl Tryz.isAgg9)<|g_v rfl (r_load (tag:=1000) rfl rfl rfl Tryz.isAgg9) ?_
 replace hm:=bnd hm
 obtain ⟨x2,hx3,hm⟩:=hm
 refine g_cn ⟨w0,M,_,_,φ⟩ (fun _ h=>h) Tryz.call22 rfl rfl (c_name_Under p0.fZone o0 _ hx3) (fun _ _=>?_)
 refine g_v rfl r_assign<|g_nil<|d_then<|c_ret ?_
 cases hm
 exact d_retC () Tryz.results39 (res_tmp (res_nil rfl)) trivial (fun W h=>(h.dropH (t:=100020) rfl).phi (fun W hφ=>hφ)) (.inr rfl)
noncomputable def m_slices_IndexFunc_94_j1  : Option Int:=
  some (-1)
noncomputable def m_slices_IndexFunc_94_s2 (p0 : List GFlush) (o0 : ByteArray) (i30 : Int) : Option (Int ⊕ (Unit ⊕ Int)):=
  if i30 < (p0.length : Int) then
    (at_ p0 i30).bind fun x42=>
    (m_conf_Apply_c3 x42 o0).bind fun x46=>
    if x46 = true then
      some (.inr (.inr i30))
    else
      some (.inl (w64 (i30 + 1)))
  else
    some (.inr (.inl ()))
noncomputable def m_slices_IndexFunc_94 (p0 : List GFlush) (o0 : ByteArray) : Option Int:=
  (loop (fun s=>m_slices_IndexFunc_94_s2 p0 o0 s) 0).bind fun e=>Sum.elim (fun e=>m_slices_IndexFunc_94_j1) (fun x=>some x) e
theorem c_slices_IndexFunc_94 {w0 : World} {M : Nat→Prop} {H : List (Nat×Nat×Obj)} {R : List (Nat×Row)} {φ : World→Prop} (p0 : List GFlush) (Ap0_0 : Option Addr) (cp0_0 : Nat) (hcp0_0 : p0.length ≤ cp0_0) (fp0_0 : ∀ W,(Sta.mk w0 M H R φ).ok W→Cl W Ap0_0 (p0.flatMap GFlush.enc)) (go0 : Nat) (o0 : ByteArray) (r : Int) (hm : m_slices_IndexFunc_94 p0 o0 = some r) :
    Cn Tryz.prog 94 #[.slice Ap0_0 p0.length cp0_0,.func (.func 39) #[] #[Vp go0]] ⟨w0,M,(1000,go0,.cells #[Vs o0] 9 (0,0))::H,R,φ⟩ (fun x : Unit=>Vi r) (fun x=>True) (fun x=>⟨w0,M,(1000,go0,.cells #[Vs o0] 9 (0,0))::H,R,φ⟩):=by
 unfold m_slices_IndexFunc_94 at hm
 refine cn_intro (fn:=Tryz.f94) (N:=19) Tryz.func94 rfl Tryz.ntmps94 rfl<|c_seq<|c_region<|g_v rfl r_assign<|g_nil<|d_then<|c_seq<|c_seq<|c_region<|g_v rfl r_move ?_
 refine g_v rfl (r_lenL Tryz.underlying28 rfl)<|g_v rfl r_move<|g_nil<|d_then ?_
 refine c_cut (ι:=Unit) [] (fun _=>[]) (fun _=>⟨w0,M,(1000,go0,.cells #[Vs o0] 9 (0,0))::H,R,φ⟩) (fun _=>m_slices_IndexFunc_94_j1 = some r) ?_ (fun _ u hm=>?_)
 ·
  refine c_block ?_
  replace hm:=bnd hm
  obtain ⟨out2,hl2,hr2⟩:=hm
  obtain ⟨n40',hl2⟩:=loop_lp hl2
  refine c_loopU (ι:=Nat×Int) [0,1,7,8] (fun ⟨n40,i30⟩=>[(8,Vi i30)]) (fun ⟨n40,i30⟩=>⟨w0,M,(1000,go0,.cells #[Vs o0] 9 (0,0))::H,R,φ⟩) (fun ⟨n40,i30⟩=>Lp (fun s=>m_slices_IndexFunc_94_s2 p0 o0 s) n40 i30 out2) (fun ⟨n40,i30⟩=>n40) (n40',0) hl2 ⟨rfl,rfl,rfl,rfl,trivial⟩ (fun W h=>h.phi (fun W hφ=>hφ)) (fun ⟨n40,i30⟩ u hlp=>?_)
  obtain ⟨o2,hm,hnx2⟩:=lp_step hlp
  clear hlp
  replace hm : m_slices_IndexFunc_94_s2 p0 o0 i30 = some o2:=hm
  unfold m_slices_IndexFunc_94_s2 at hm
  refine c_flat [(0,.slice Ap0_0 p0.length cp0_0),(1,.func (.func 39) #[] #[Vp go0]),(7,Vi (p0.length : Int)),(8,Vi i30)] ⟨rfl,rfl,rfl,rfl,trivial⟩ (fun u=>?_)
  refine c_sta ⟨w0,M,(1000,go0,.cells #[Vs o0] 9 (0,0))::H,R,φ⟩ (fun _ h=>h)<|c_seq<|c_region<|g_v rfl (r_lss rfl rfl)<|g_nil<|d_then<|c_seq ?_
  refine c_cond rfl (fun h41=>?_) (fun h41=>?_)
  ·
   replace hm:=ite_t hm (of_decide_eq_true h41)
   refine c_skip<|d_then<|c_seq<|c_block<|c_seq<|c_region<|g_v rfl r_move<|g_v rfl r_assign<|g_nil<|d_then ?_
   refine c_seq<|c_region ?_
   iterate 3 refine g_v rfl r_move ?_
   replace hm:=bnd hm
   obtain ⟨x42,hx42,hm⟩:=hm
   refine g_know _ (fun W hS=>cl_at (p:=(Sta.mk w0 M H R φ).ok) (sz:=2) (fun _=>rfl) (by decide) (ok_pre (H1:=[_]) (R1:=[]) hS (fun W h=>h)) fp0_0 hx42) ?_
   rintro ⟨ad43,hA45,f44⟩
   refine g_v rfl (r_ix Tryz.underlying28 Tryz.sizeOf48 rfl hA45 rfl hx42)<|g_v rfl (r_ldA rfl Tryz.isAgg48 Tryz.sizeOf48 (fun W hS=>(f44 W (ok_pre (H1:=[_]) (R1:=[]) hS (fun W h=>h))).take 2) rfl) ?_
   replace hm:=bnd hm
   obtain ⟨x46,hx47,hm⟩:=hm
   refine g_cnv ⟨w0,M,(1000,go0,.cells #[Vs o0] 9 (0,0))::H,R,φ⟩ (fun W h=>(ok_front (t:=1000) (t':=1000) h rfl)) Tryz.call39 rfl rfl rfl (c_conf_Apply_c3 x42 go0 o0 _ hx47) (fun _ _=>?_)
   refine g_sta _ (fun W h=>(ok_front (t:=1000) (t':=1000) h rfl))<|g_nil<|d_then ?_
   refine c_flat [(0,.slice Ap0_0 p0.length cp0_0),(1,.func (.func 39) #[] #[Vp go0]),(5,Vi i30),(7,Vi (p0.length : Int)),(8,Vi i30),(16,.bool x46)] ⟨rfl,rfl,rfl,rfl,rfl,rfl,trivial⟩ (fun u=>?_)
   refine c_cond rfl (fun h48=>?_) (fun h48=>?_)
   ·
    replace hm:=ite_t hm h48
    refine c_seq<|c_region<|g_v rfl r_move<|g_v rfl r_assign<|g_nil<|d_then<|c_ret<|d_ret_block<|d_ret_then<|d_ret_then ?_
    refine d_ret_block<|d_ret_then<|d_ret_then ?_
    replace hm:=nx_out (C:=(fun e : Unit ⊕ Int=>Sum.elim (fun e=>m_slices_IndexFunc_94_j1) (fun x=>some x) e = some r)) hm hnx2 hr2
    replace hm : some i30 = some r:=hm
    cases hm
    exact d_retC () Tryz.results94 (res_tmp (res_nil rfl)) trivial (fun W h=>h.phi (fun W hφ=>hφ)) (.inr rfl)
   replace hm:=ite_f hm (bool_nt h48)
   refine c_skip<|d_normal_block<|d_then<|c_region<|g_v rfl (r_add rfl rfl rfl)<|g_v rfl r_move<|g_nil ?_
   obtain ⟨n49,hn49,hlp⟩:=nx_inl hm hnx2
   exact d_round (n49,w64 (i30 + 1)) hlp hn49 ⟨rfl,rfl,rfl,rfl,trivial⟩ (fun W h=>h.phi (fun W hφ=>hφ))
  replace hm:=ite_f hm (of_decide_eq_false h41)
  refine c_exit<|d_exit_then<|d_exit_then<|d_exit_block ?_
  replace hm:=nx_out (C:=(fun e : Unit ⊕ Int=>Sum.elim (fun e=>m_slices_IndexFunc_94_j1) (fun x=>some x) e = some r)) hm hnx2 hr2
  exact d_round () hm Nat.zero_lt_one trivial (fun W h=>h.phi (fun W hφ=>hφ))
 unfold m_slices_IndexFunc_94_j1 at hm
 refine d_flat [] trivial (fun u=>?_)
 refine d_sta ⟨w0,M,(1000,go0,.cells #[Vs o0] 9 (0,0))::H,R,φ⟩ (fun _ h=>h)<|d_then<|c_seq<|c_region<|g_v rfl r_assign<|g_nil<|d_then<|c_ret ?_
 cases hm
 exact d_retC () Tryz.results94 (res_tmp (res_nil rfl)) trivial (fun W h=>h.phi (fun W hφ=>hφ)) (.inr rfl)
noncomputable def m_slices_DeleteFunc_38_j1  (l53 : List GFlush) (i56 : Int) : Option (List GFlush):=
  (cutLo l53 i56).bind fun l57=>
  (cutHi l53 i56).bind fun l58=>
  some l58
noncomputable def m_slices_DeleteFunc_38_s2 (o0 : ByteArray) (l81 : List GFlush) (i84 : Int) (i85 : Int) : Option (((List GFlush)×Int×Int) ⊕ ((List GFlush)×Int)):=
  if i85 < (l81.length : Int) then
    (at_ l81 i85).bind fun x109=>
    (m_conf_Apply_c3 x109 o0).bind fun x114=>
    if x114 = true then
      some (.inl (l81,i84,w64 (i85 + 1)))
    else
      (at_ l81 i84).bind fun x117=>
      (setAt l81 i84 x109).bind fun l121=>
      some (.inl (l121,w64 (i84 + 1),w64 (i85 + 1)))
  else
    some (.inr (l81,i84))
noncomputable def m_slices_DeleteFunc_38 (p0 : List GFlush) (o0 : ByteArray) : Option (List GFlush):=
  (m_slices_IndexFunc_94 p0 o0).bind fun x1=>
  if x1 = (-1) then
    some p0
  else
    (loop (fun s=>m_slices_DeleteFunc_38_s2 o0 s.1 s.2.1 s.2.2) (p0,x1,w64 (x1 + 1))).bind fun e=>m_slices_DeleteFunc_38_j1 e.1 e.2
theorem c_slices_DeleteFunc_38 {w0 : World} {M : Nat→Prop} {H : List (Nat×Nat×Obj)} {R : List (Nat×Row)} {φ : World→Prop} (p0 : List GFlush) (Ap0_0 : Option Addr) (cp0_0 : Nat) (hcp0_0 : p0.length ≤ cp0_0) (go0 : Nat) (o0 : ByteArray) (r : (List GFlush)) (hm : m_slices_DeleteFunc_38 p0 o0 = some r) :
    Cn Tryz.prog 38 #[.slice Ap0_0 p0.length cp0_0,.func (.func 39) #[] #[Vp go0]] ⟨w0,M,(1000,go0,.cells #[Vs o0] 9 (0,0))::H,(1000,⟨.slice Ap0_0 p0.length cp0_0,48,2,p0.length,p0.flatMap GFlush.enc⟩)::R,φ⟩ (fun x : Option Addr×Nat=>.slice x.1 r.length x.2) (fun x=>r.length ≤ x.2) (fun x=>⟨w0,M,(1000,go0,.cells #[Vs o0] 9 (0,0))::H,(2000,⟨.slice x.1 r.length x.2,48,2,r.length,r.flatMap GFlush.enc⟩)::R,φ⟩):=by
 unfold m_slices_DeleteFunc_38 at hm
 refine cn_intro (fn:=Tryz.f38) (N:=42) Tryz.func38 rfl Tryz.ntmps38 rfl<|c_seq<|c_region<|g_v rfl r_assign<|g_nil<|d_then<|c_seq<|c_region<|g_v rfl r_move<|g_v rfl r_move ?_
 replace hm:=bnd hm
 obtain ⟨x1,hx2,hm⟩:=hm
 refine g_cn ⟨w0,M,(1000,go0,.cells #[Vs o0] 9 (0,0))::H,(1000,⟨.slice Ap0_0 p0.length cp0_0,48,2,p0.length,p0.flatMap GFlush.enc⟩)::R,φ⟩ (fun W h=>(ok_front (t:=1000) (t':=1000) h rfl)) Tryz.call94 rfl rfl (c_slices_IndexFunc_94 p0 Ap0_0 cp0_0 hcp0_0 (fun W hS=>rowCl (tag:=1000) rfl W hS) go0 o0 _ hx2) (fun _ _=>?_)
 refine g_sta _ (fun W h=>(ok_front (t:=1000) (t':=1000) h rfl))<|g_v rfl r_assign<|g_nil<|d_then<|c_seq<|c_seq<|c_region<|g_v rfl r_move<|g_v rfl (r_eql rfl rfl)<|g_nil ?_
 refine d_then<|c_sta ⟨w0,M,(1000,go0,.cells #[Vs o0] 9 (0,0))::H,(1000,⟨.slice Ap0_0 p0.length cp0_0,48,2,p0.length,p0.flatMap GFlush.enc⟩)::R,φ⟩ (fun _ h=>h) ?_
 refine c_cond rfl (fun h3=>?_) (fun h3=>?_)
 ·
  replace hm:=ite_t hm (of_decide_eq_true h3)
  refine c_seq<|c_region<|g_v rfl r_move<|g_v rfl r_assign<|g_nil<|d_then ?_
  refine c_flat [(4,.slice Ap0_0 p0.length cp0_0)] ⟨rfl,trivial⟩ (fun u=>?_)
  refine c_ret<|d_ret_then ?_
  cases hm
  refine d_sta _ (fun W h=>ok_frontR (t:=1000) (t':=2000) h rfl) ?_
  exact d_retC (Ap0_0,cp0_0) Tryz.results38 (res_tmp (res_nil rfl)) hcp0_0 (fun W h=>h.phi (fun W hφ=>hφ)) (.inr rfl)
 replace hm:=ite_f hm (of_decide_eq_false h3)
 refine c_skip<|d_then<|c_seq<|c_seq<|c_region<|g_v rfl r_move<|g_v rfl (r_add rfl rfl rfl)<|g_v rfl r_assign<|g_nil<|d_then ?_
 refine c_flat [(0,.slice Ap0_0 p0.length cp0_0),(1,.func (.func 39) #[] #[Vp go0]),(5,Vi x1),(6,Vi (w64 (x1 + 1)))] ⟨rfl,rfl,rfl,rfl,trivial⟩ (fun u=>?_)
 refine c_cut (ι:=(List GFlush)×Int) [0,5] (fun ⟨l53,i56⟩=>[(0,.slice Ap0_0 l53.length cp0_0),(5,Vi i56)]) (fun ⟨l53,i56⟩=>⟨w0,M,(1000,go0,.cells #[Vs o0] 9 (0,0))::H,(1000,⟨.slice Ap0_0 l53.length cp0_0,48,2,l53.length,l53.flatMap GFlush.enc⟩)::R,φ⟩) (fun ⟨l53,i56⟩=>m_slices_DeleteFunc_38_j1 l53 i56 = some r∧(l53.length ≤ cp0_0∧l53.length = p0.length)) ?_ (fun ⟨l53,i56⟩ u ⟨hm,hl53⟩=>?_)
 ·
  refine c_block ?_
  replace hm:=bnd hm
  obtain ⟨out2,hl2,hr2⟩:=hm
  obtain ⟨n107',hl2⟩:=loop_lp hl2
  refine c_loopU (ι:=Nat×(List GFlush)×Int×Int) [0,1,5,6] (fun ⟨n107,l81,i84,i85⟩=>[(0,.slice Ap0_0 l81.length cp0_0),(5,Vi i84),(6,Vi i85)]) (fun ⟨n107,l81,i84,i85⟩=>⟨w0,M,(1000,go0,.cells #[Vs o0] 9 (0,0))::H,(1000,⟨.slice Ap0_0 l81.length cp0_0,48,2,l81.length,l81.flatMap GFlush.enc⟩)::R,φ⟩) (fun ⟨n107,l81,i84,i85⟩=>Lp (fun s=>m_slices_DeleteFunc_38_s2 o0 s.1 s.2.1 s.2.2) n107 (l81,i84,i85) out2∧(l81.length ≤ cp0_0∧l81.length = p0.length)) (fun ⟨n107,l81,i84,i85⟩=>n107) (n107',p0,x1,w64 (x1 + 1)) ⟨hl2,⟨hcp0_0,rfl⟩⟩ ⟨rfl,rfl,rfl,rfl,trivial⟩ (fun W h=>h.phi (fun W hφ=>hφ)) (fun ⟨n107,l81,i84,i85⟩ u ⟨hlp,hl81⟩=>?_)
  obtain ⟨o2,hm,hnx2⟩:=lp_step hlp
  clear hlp
  replace hm : m_slices_DeleteFunc_38_s2 o0 l81 i84 i85 = some o2:=hm
  unfold m_slices_DeleteFunc_38_s2 at hm
  refine c_flat [(0,.slice Ap0_0 l81.length cp0_0),(1,.func (.func 39) #[] #[Vp go0]),(5,Vi i84),(6,Vi i85)] ⟨rfl,rfl,rfl,rfl,trivial⟩ (fun u=>?_)
  refine c_sta ⟨w0,M,(1000,go0,.cells #[Vs o0] 9 (0,0))::H,(1000,⟨.slice Ap0_0 l81.length cp0_0,48,2,l81.length,l81.flatMap GFlush.enc⟩)::R,φ⟩ (fun _ h=>h)<|c_seq<|c_seq<|c_region<|g_v rfl r_move<|g_v rfl r_move<|g_v rfl (r_lenL Tryz.underlying28 rfl)<|g_v rfl (r_lss rfl rfl)<|g_nil<|d_then ?_
  refine c_cond rfl (fun h108=>?_) (fun h108=>?_)
  ·
   replace hm:=ite_t hm (of_decide_eq_true h108)
   refine c_skip<|d_then<|c_seq<|c_block<|c_seq<|c_region<|g_v rfl r_move<|g_v rfl r_move ?_
   replace hm:=bnd hm
   obtain ⟨x109,hx109,hm⟩:=hm
   refine g_know _ (fun W hS=>cl_at (p:=(Sta.ok ⟨w0,M,(1000,go0,.cells #[Vs o0] 9 (0,0))::H,(1000,⟨.slice Ap0_0 l81.length cp0_0,48,2,l81.length,l81.flatMap GFlush.enc⟩)::R,φ⟩)) (sz:=2) (fun _=>rfl) (by decide) hS (fun W hS=>rowCl (S:=⟨w0,M,(1000,go0,.cells #[Vs o0] 9 (0,0))::H,(1000,⟨.slice Ap0_0 l81.length cp0_0,48,2,l81.length,l81.flatMap GFlush.enc⟩)::R,φ⟩) (tag:=1000) rfl W hS) hx109) ?_
   rintro ⟨ad110,hA112,f111⟩
   refine g_v rfl (r_ix Tryz.underlying28 Tryz.sizeOf48 rfl hA112 rfl hx109)<|g_v rfl (r_ldA rfl Tryz.isAgg48 Tryz.sizeOf48 (fun W hS=>(f111 W hS).take 2) rfl) ?_
   refine g_e rfl (e_alloc 100070 Tryz.zeroValue48) (fun g113 _=>?_)
   refine g_storeL (tag:=100070) rfl rfl rfl rfl Tryz.sizeOf48 rfl rfl<|g_nil<|d_then ?_
   refine c_flat [(0,.slice Ap0_0 l81.length cp0_0),(1,.func (.func 39) #[] #[Vp go0]),(5,Vi i84),(6,Vi i85),(7,Vp g113)] ⟨rfl,rfl,rfl,rfl,rfl,trivial⟩ (fun u=>?_)
   refine c_sta ⟨w0,M,(100070,g113,.cells #[Vi x109.fEpoch,Vs x109.fZone] 48 (0,0))::(1000,go0,.cells #[Vs o0] 9 (0,0))::H,(1000,⟨.slice Ap0_0 l81.length cp0_0,48,2,l81.length,l81.flatMap GFlush.enc⟩)::R,φ⟩ (fun _ h=>h)<|c_seq<|c_region<|g_v rfl r_move<|g_v rfl (r_loadA (tag:=100070) rfl rfl Tryz.isAgg48 Tryz.sizeOf48 rfl rfl) ?_
   replace hm:=bnd hm
   obtain ⟨x114,hx115,hm⟩:=hm
   refine g_cnv ⟨w0,M,(1000,go0,.cells #[Vs o0] 9 (0,0))::(100070,g113,.cells #[Vi x109.fEpoch,Vs x109.fZone] 48 (0,0))::H,(1000,⟨.slice Ap0_0 l81.length cp0_0,48,2,l81.length,l81.flatMap GFlush.enc⟩)::R,φ⟩ (fun W h=>(ok_front (t:=1000) (t':=1000) h rfl)) Tryz.call39 rfl rfl rfl (c_conf_Apply_c3 x109 go0 o0 _ hx115) (fun _ _=>?_)
   refine g_sta _ (fun W h=>(ok_front (t:=1000) (t':=1000) h rfl))<|g_v rfl (r_not rfl)<|g_nil<|d_then<|c_sta ⟨w0,M,(1000,go0,.cells #[Vs o0] 9 (0,0))::(100070,g113,.cells #[Vi x109.fEpoch,Vs x109.fZone] 48 (0,0))::H,(1000,⟨.slice Ap0_0 l81.length cp0_0,48,2,l81.length,l81.flatMap GFlush.enc⟩)::R,φ⟩ (fun _ h=>h) ?_
   refine c_cond rfl (fun h116=>?_) (fun h116=>?_)
   ·
    have h116' : x114 = false:=by revert h116; cases x114 <;> simp
    replace hm:=ite_f hm (bool_nt h116')
    refine c_seq<|c_region<|g_v rfl r_move<|g_v rfl r_move<|g_v rfl (r_loadA (tag:=100070) rfl rfl Tryz.isAgg48 Tryz.sizeOf48 rfl rfl) ?_
    replace hm:=bnd hm
    obtain ⟨x117,hx117,hm⟩:=hm
    refine g_know _ (fun W hS=>cl_at (p:=(Sta.ok ⟨w0,M,(1000,go0,.cells #[Vs o0] 9 (0,0))::(100070,g113,.cells #[Vi x109.fEpoch,Vs x109.fZone] 48 (0,0))::H,(1000,⟨.slice Ap0_0 l81.length cp0_0,48,2,l81.length,l81.flatMap GFlush.enc⟩)::R,φ⟩)) (sz:=2) (fun _=>rfl) (by decide) hS (fun W hS=>rowCl (S:=⟨w0,M,(1000,go0,.cells #[Vs o0] 9 (0,0))::(100070,g113,.cells #[Vi x109.fEpoch,Vs x109.fZone] 48 (0,0))::H,(1000,⟨.slice Ap0_0 l81.length cp0_0,48,2,l81.length,l81.flatMap GFlush.enc⟩)::R,φ⟩) (tag:=1000) rfl W hS) hx117) ?_
    rintro ⟨ad118,hA120,f119⟩
    refine g_v rfl (r_ix Tryz.underlying28 Tryz.sizeOf48 rfl hA120 rfl hx117) ?_
    replace hm:=bnd hm
    obtain ⟨l121,hl121,hm⟩:=hm
    refine g_stR (tag:=1000) (enc:=GFlush.enc) (l:=l81) (off:=0) (vs:=[Vi x109.fEpoch,Vs x109.fZone]) (add0 rfl) hA120 rfl rfl hx117 hl121 rfl (Nat.le_of_ble_eq_true rfl) (fun _=>rfl) rfl rfl Tryz.sizeOf48 ?_
    rw [show l81.length = l121.length from (setAt_lenE hl121).symm]
    have hv123:=setAt_at hl121
    have f122:=cl_at2 (p:=(Sta.ok ⟨w0,M,(1000,go0,.cells #[Vs o0] 9 (0,0))::(100070,g113,.cells #[Vi x109.fEpoch,Vs x109.fZone] 48 (0,0))::H,(1000,⟨.slice Ap0_0 l121.length cp0_0,48,2,l121.length,l121.flatMap GFlush.enc⟩)::R,φ⟩)) (enc:=GFlush.enc) (sz:=2) (fun _=>rfl) hA120 (fun W hS=>rowCl (S:=⟨w0,M,(1000,go0,.cells #[Vs o0] 9 (0,0))::(100070,g113,.cells #[Vi x109.fEpoch,Vs x109.fZone] 48 (0,0))::H,(1000,⟨.slice Ap0_0 l121.length cp0_0,48,2,l121.length,l121.flatMap GFlush.enc⟩)::R,φ⟩) (tag:=1000) rfl W hS) hv123
    refine g_nil<|d_then ?_
    refine c_flat [(0,.slice Ap0_0 l121.length cp0_0),(1,.func (.func 39) #[] #[Vp go0]),(5,Vi i84),(6,Vi i85)] ⟨rfl,rfl,rfl,rfl,trivial⟩ (fun u=>?_)
    refine c_sta ⟨w0,M,(1000,go0,.cells #[Vs o0] 9 (0,0))::(100070,g113,.cells #[Vi x109.fEpoch,Vs x109.fZone] 48 (0,0))::H,(1000,⟨.slice Ap0_0 l121.length cp0_0,48,2,l121.length,l121.flatMap GFlush.enc⟩)::R,φ⟩ (fun _ h=>h)<|c_region<|g_v rfl r_move<|g_v rfl (r_add rfl rfl rfl)<|g_v rfl r_assign<|g_nil<|d_normal_block<|d_then<|c_region<|g_v rfl r_move ?_
    refine g_v rfl (r_add rfl rfl rfl)<|g_v rfl r_assign<|g_nil ?_
    obtain ⟨n124,hn124,hlp⟩:=nx_inl hm hnx2
    exact d_round (n124,l121,w64 (i84 + 1),w64 (i85 + 1)) ⟨hlp,⟨(setAt_len hl81.1 hl121),((setAt_lenE hl121).trans hl81.2)⟩⟩ hn124 ⟨rfl,rfl,rfl,rfl,trivial⟩ (fun W h=>(h.dropH (t:=100070) rfl).phi (fun W hφ=>hφ))
   have h116' : x114 = true:=by revert h116; cases x114 <;> simp
   replace hm:=ite_t hm h116'
   refine c_skip<|d_normal_block<|d_then<|c_region<|g_v rfl r_move<|g_v rfl (r_add rfl rfl rfl)<|g_v rfl r_assign<|g_nil ?_
   obtain ⟨n125,hn125,hlp⟩:=nx_inl hm hnx2
   exact d_round (n125,l81,i84,w64 (i85 + 1)) ⟨hlp,⟨hl81.1,hl81.2⟩⟩ hn125 ⟨rfl,rfl,rfl,rfl,trivial⟩ (fun W h=>(h.dropH (t:=100070) rfl).phi (fun W hφ=>hφ))
  replace hm:=ite_f hm (of_decide_eq_false h108)
  refine c_exit<|d_exit_then<|d_exit_then<|d_exit_block ?_
  replace hm:=nx_out (C:=(fun e : (List GFlush)×Int=>m_slices_DeleteFunc_38_j1 e.1 e.2 = some r)) hm hnx2 hr2
  exact d_round (l81,i84) ⟨hm,⟨hl81.1,hl81.2⟩⟩ Nat.zero_lt_one ⟨rfl,rfl,trivial⟩ (fun W h=>h.phi (fun W hφ=>hφ))
 unfold m_slices_DeleteFunc_38_j1 at hm
 refine d_flat [(0,.slice Ap0_0 l53.length cp0_0),(5,Vi i56)] ⟨rfl,rfl,trivial⟩ (fun u=>?_)
 refine d_sta ⟨w0,M,(1000,go0,.cells #[Vs o0] 9 (0,0))::H,(1000,⟨.slice Ap0_0 l53.length cp0_0,48,2,l53.length,l53.flatMap GFlush.enc⟩)::R,φ⟩ (fun _ h=>h)<|d_then<|c_seq<|c_region<|g_v rfl r_move<|g_v rfl r_move ?_
 replace hm:=bnd hm
 obtain ⟨l57,hl57,hm⟩:=hm
 refine g_v rfl (r_lcutLo Tryz.underlying28 Tryz.sizeOf48 rfl hl53.1 rfl hl57) ?_
 replace hm:=bnd hm
 obtain ⟨l58,hl58,hm⟩:=hm
 refine g_sta _ (fun W h=>row_cut (tag:=1000) (enc:=GFlush.enc) (fun _=>rfl) rfl hl58 h)<|g_e0 (e_clearLo (tag:=1000) (enc:=GFlush.enc) Tryz.underlying28 Tryz.zeroValue48 rfl rfl hl58 hl57 rfl hl53.1 rfl)<|g_nil<|d_then<|c_seq<|c_region<|g_v rfl r_move<|g_v rfl r_move<|g_v rfl (r_lcutHi Tryz.underlying28 Tryz.sizeOf48 rfl hl53.1 rfl hl58)<|g_v rfl r_assign ?_
 refine g_nil<|d_then<|c_ret ?_
 cases hm
 refine d_sta _ (fun W h=>ok_frontR (t:=1000) (t':=2000) h rfl) ?_
 exact d_retC (Ap0_0,cp0_0) Tryz.results38 (res_tmp (res_nil rfl)) (cutHi_len hl53.1 hl58) (fun W h=>h.phi (fun W hφ=>hφ)) (.inr rfl)
theorem bld48_21 (z0 : Int) (z1 : ByteArray) : ∀ W,(Instr.build 48 #[(0,Vi z0),(1,Vs z1)]).run Tryz.prog W = .ok (.agg #[Vi z0,Vs z1]) W:=fun _=>by kernel_rfl
theorem lit48_22 (z0 : Int) (z1 : ByteArray) : Tryz.prog.builtSlice 48 1 [(0,.agg #[Vi z0,Vs z1])] = some #[Vi z0,Vs z1]:=by kernel_rfl
end Go.Proofs.YthpjodfjdnnckaaGreat
