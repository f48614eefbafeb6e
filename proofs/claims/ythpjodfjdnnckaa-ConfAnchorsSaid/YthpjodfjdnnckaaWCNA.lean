import Derived.Test.YthpjodfjdnnckaaQL
import Derived.Test.YthpjodfjdnnckaaSV
import Derived.Test.YthpjodfjdnnckaaSL
import Derived.Test.YthpjodfjdnnckaaSH
import Derived.Test.YthpjodfjdnnckaaSE
import Derived.Test.YthpjodfjdnnckaaRG
import Derived.Test.YthpjodfjdnnckaaSJ
import Derived.Test.YthpjodfjdnnckaaSK
set_option maxRecDepth 100000
set_option maxHeartbeats 4000000
set_option linter.unusedVariables false
set_option linter.unusedSimpArgs false
namespace Go.Proofs.Ythpjodfjdnnckaa
open Go.RowKit Go.Proofs.YthpjodfjdnnckaaW.PrintLast
structure GAnchor where
  fName : ByteArray
  fText : ByteArray
  deriving DecidableEq
def GAnchor.enc (e : GAnchor) : List Value:=[.string e.fName,.string e.fText]
theorem bld35_0 (z0 : Int) (z1 : Int) : ∀ W,(Instr.build 35 #[(0,.int .i64 z0),(1,.int .i64 z1)]).run Try.prog W = .ok (.agg #[.int .i64 z0,.int .i64 z1,.string (⟨#[]⟩ : ByteArray),.string (⟨#[]⟩ : ByteArray),.string (⟨#[]⟩ : ByteArray),.slice none 0 0]) W:=fun _=>by kernel_rfl
noncomputable def m_conf_node (p0 : Int) : Option Bool:=
  if 0 ≤ p0 then
    some (decide (p0 < 64))
  else
    some false
theorem c_conf_node {w0 : World} {M : Nat→Prop} {H : List (Nat×Nat×Obj)} {R : List (Nat×Row)} {φ : World→Prop} (p0 : Int) (r : Bool) (hm : m_conf_node p0 = some r) :
    Cn Try.prog 51 #[.int .i64 p0] ⟨w0,M,H,R,φ⟩ (fun x : Unit=>.bool r) (fun x=>True) (fun x=>⟨w0,M,H,R,φ⟩):=by
 unfold m_conf_node at hm
 refine cn_intro (fn:=Try.f51) (N:=9) Try.func51 rfl Try.ntmps51 rfl<|c_seq<|c_region<|g_v rfl r_assign<|g_nil<|d_then<|c_seq<|c_region<|g_v rfl r_move<|g_v rfl (r_geq rfl rfl) ?_
 refine g_v rfl r_move ?_
 refine g_if rfl rfl rfl rfl rfl (fun h1=>?_) (fun h1=>?_)
 ·
  replace hm:=ite_t hm (of_decide_eq_true h1)
  refine g_v rfl r_move<|g_do rfl rfl rfl rfl rfl h1<|g_v rfl (r_lss rfl rfl)<|g_v rfl (r_pick1 rfl h1)<|g_v rfl r_assign<|g_nil<|d_then<|c_ret ?_
  cases hm
  exact d_retC () Try.results51 (res_tmp (res_nil rfl)) trivial (fun W h=>ok_pre (H1:=[]) (R1:=[]) h (fun W hφ=>hφ)) (.inr rfl)
 replace hm:=ite_f hm (of_decide_eq_false h1)
 refine g_no rfl rfl rfl rfl rfl h1<|g_v rfl (r_pick0 rfl h1)<|g_v rfl r_assign<|g_nil<|d_then<|c_ret ?_
 cases hm
 exact d_retC () Try.results51 (res_tmp (res_nil rfl)) trivial (fun W h=>ok_pre (H1:=[]) (R1:=[]) h (fun W hφ=>hφ)) (.inr rfl)
theorem lit9_1 (z0 : ByteArray) (z1 : ByteArray) (z2 : ByteArray) : Try.prog.builtSlice 9 3 [(0,.string z0),(1,.string z1),(2,.string z2)] = some #[.string z0,.string z1,.string z2]:=by kernel_rfl
noncomputable def m_conf_none_c1 (p0 : ByteArray) : Option Bool:=
  some (!(decide (p0 = (⟨#[]⟩ : ByteArray))))
theorem c_conf_none_c1 {w0 : World} {M : Nat→Prop} {H : List (Nat×Nat×Obj)} {R : List (Nat×Row)} {φ : World→Prop} (p0 : ByteArray) (r : Bool) (hm : m_conf_none_c1 p0 = some r) :
    Cn Try.prog 75 #[.string p0] ⟨w0,M,H,R,φ⟩ (fun x : Unit=>.bool r) (fun x=>True) (fun x=>⟨w0,M,H,R,φ⟩):=by
 unfold m_conf_none_c1 at hm
 refine cn_intro (fn:=Try.f75) (N:=5) Try.func75 rfl Try.ntmps75 rfl<|c_seq<|c_region<|g_v rfl r_assign<|g_nil<|d_then<|c_seq<|c_region<|g_v rfl r_move<|g_v rfl (r_neqT rfl rfl) ?_
 refine g_v rfl r_assign<|g_nil<|d_then<|c_ret ?_
 cases hm
 exact d_retC () Try.results75 (res_tmp (res_nil rfl)) trivial (fun W h=>ok_pre (H1:=[]) (R1:=[]) h (fun W hφ=>hφ)) (.inr rfl)
noncomputable def m_slices_IndexFunc_76_j1  : Option Int:=
  some (-1)
noncomputable def m_slices_IndexFunc_76_s2 (p0 : List ByteArray) (i30 : Int) : Option (Int ⊕ (Unit ⊕ Int)):=
  if i30 < (p0.length : Int) then
    (at_ p0 i30).bind fun x42=>
    (m_conf_none_c1 x42).bind fun x46=>
    if x46 = true then
      some (.inr (.inr i30))
    else
      some (.inl (w64 (i30 + 1)))
  else
    some (.inr (.inl ()))
noncomputable def m_slices_IndexFunc_76 (p0 : List ByteArray) : Option Int:=
  (loop (fun s=>m_slices_IndexFunc_76_s2 p0 s) 0).bind fun e=>Sum.elim (fun e=>m_slices_IndexFunc_76_j1) (fun x=>some x) e
theorem c_slices_IndexFunc_76 {w0 : World} {M : Nat→Prop} {H : List (Nat×Nat×Obj)} {R : List (Nat×Row)} {φ : World→Prop} (p0 : List ByteArray) (Ap0_0 : Option Addr) (cp0_0 : Nat) (hcp0_0 : p0.length ≤ cp0_0) (fp0_0 : ∀ W,(Sta.mk w0 M H R φ).ok W→Cl W Ap0_0 (p0.flatMap (fun x : ByteArray=>[Value.string x]))) (r : Int) (hm : m_slices_IndexFunc_76 p0 = some r) :
    Cn Try.prog 76 #[.slice Ap0_0 p0.length cp0_0,.func (.func 75) #[] #[]] ⟨w0,M,H,R,φ⟩ (fun x : Unit=>.int .i64 r) (fun x=>True) (fun x=>⟨w0,M,H,R,φ⟩):=by
 unfold m_slices_IndexFunc_76 at hm
 refine cn_intro (fn:=Try.f76) (N:=19) Try.func76 rfl Try.ntmps76 rfl<|c_seq<|c_region<|g_v rfl r_assign<|g_nil<|d_then<|c_seq<|c_seq<|c_region<|g_v rfl r_move ?_
 refine g_v rfl (r_lenL Try.underlying22 rfl)<|g_v rfl r_move<|g_nil<|d_then ?_
 refine c_cut (ι:=Unit) [] (fun _=>[]) (fun _=>⟨w0,M,H,R,φ⟩) (fun _=>m_slices_IndexFunc_76_j1 = some r) ?_ (fun _ u hm=>?_)
 ·
  refine c_block ?_
  replace hm:=bnd hm
  obtain ⟨out2,hl2,hr2⟩:=hm
  obtain ⟨n40',hl2⟩:=loop_lp hl2
  refine c_loopU (ι:=Nat×Int) [0,1,7,8] (fun ⟨n40,i30⟩=>[(8,.int .i64 i30)]) (fun ⟨n40,i30⟩=>⟨w0,M,H,R,φ⟩) (fun ⟨n40,i30⟩=>Lp (fun s=>m_slices_IndexFunc_76_s2 p0 s) n40 i30 out2) (fun ⟨n40,i30⟩=>n40) (n40',0) hl2 ⟨rfl,rfl,rfl,rfl,trivial⟩ (fun W h=>h.phi (fun W hφ=>hφ)) (fun ⟨n40,i30⟩ u hlp=>?_)
  obtain ⟨o2,hm,hnx2⟩:=lp_step hlp
  clear hlp
  replace hm : m_slices_IndexFunc_76_s2 p0 i30 = some o2:=hm
  unfold m_slices_IndexFunc_76_s2 at hm
  refine c_flat [(0,.slice Ap0_0 p0.length cp0_0),(1,.func (.func 75) #[] #[]),(7,.int .i64 (p0.length : Int)),(8,.int .i64 i30)] ⟨rfl,rfl,rfl,rfl,trivial⟩ (fun u=>?_)
  refine c_sta ⟨w0,M,H,R,φ⟩ (fun _ h=>h)<|c_seq<|c_region<|g_v rfl (r_lss rfl rfl)<|g_nil<|d_then<|c_seq ?_
  refine c_cond rfl (fun h41=>?_) (fun h41=>?_)
  ·
   replace hm:=ite_t hm (of_decide_eq_true h41)
   refine c_skip<|d_then<|c_seq<|c_block<|c_seq<|c_region<|g_v rfl r_move<|g_v rfl r_assign<|g_nil<|d_then ?_
   refine c_seq<|c_region ?_
   iterate 3 refine g_v rfl r_move ?_
   replace hm:=bnd hm
   obtain ⟨x42,hx42,hm⟩:=hm
   refine g_know _ (fun W hS=>cl_at (p:=(Sta.mk w0 M H R φ).ok) (sz:=1) (fun _=>rfl) (by decide) (ok_pre (H1:=[]) (R1:=[]) hS (fun W h=>h)) fp0_0 hx42) ?_
   rintro ⟨ad43,hA45,f44⟩
   refine g_v rfl (r_ix Try.underlying22 Try.sizeOf9 rfl hA45 rfl hx42)<|g_v rfl (r_ld rfl Try.isAgg9 (fun W hS=>Cl.head (f44 W (ok_pre (H1:=[]) (R1:=[]) hS (fun W h=>h))))) ?_
   replace hm:=bnd hm
   obtain ⟨x46,hx47,hm⟩:=hm
   refine g_cnv ⟨w0,M,_,_,φ⟩ (fun _ h=>h) Try.call75 rfl rfl rfl (c_conf_none_c1 x42 _ hx47) (fun _ _=>?_)
   refine g_nil<|d_then ?_
   refine c_flat [(0,.slice Ap0_0 p0.length cp0_0),(1,.func (.func 75) #[] #[]),(5,.int .i64 i30),(7,.int .i64 (p0.length : Int)),(8,.int .i64 i30),(16,.bool x46)] ⟨rfl,rfl,rfl,rfl,rfl,rfl,trivial⟩ (fun u=>?_)
   refine c_cond rfl (fun h48=>?_) (fun h48=>?_)
   ·
    replace hm:=ite_t hm h48
    refine c_seq<|c_region<|g_v rfl r_move<|g_v rfl r_assign<|g_nil<|d_then<|c_ret<|d_ret_block<|d_ret_then<|d_ret_then ?_
    refine d_ret_block<|d_ret_then<|d_ret_then ?_
    replace hm:=nx_out (C:=(fun e : Unit ⊕ Int=>Sum.elim (fun e=>m_slices_IndexFunc_76_j1) (fun x=>some x) e = some r)) hm hnx2 hr2
    replace hm : some i30 = some r:=hm
    cases hm
    exact d_retC () Try.results76 (res_tmp (res_nil rfl)) trivial (fun W h=>ok_pre (H1:=[]) (R1:=[]) h (fun W hφ=>hφ)) (.inr rfl)
   replace hm:=ite_f hm (bool_nt h48)
   refine c_skip<|d_normal_block<|d_then<|c_region<|g_v rfl (r_add rfl rfl rfl)<|g_v rfl r_move<|g_nil ?_
   obtain ⟨n49,hn49,hlp⟩:=nx_inl hm hnx2
   exact d_round (n49,w64 (i30 + 1)) hlp hn49 ⟨rfl,rfl,rfl,rfl,trivial⟩ (fun W h=>h.phi (fun W hφ=>hφ))
  replace hm:=ite_f hm (of_decide_eq_false h41)
  refine c_exit<|d_exit_then<|d_exit_then<|d_exit_block ?_
  replace hm:=nx_out (C:=(fun e : Unit ⊕ Int=>Sum.elim (fun e=>m_slices_IndexFunc_76_j1) (fun x=>some x) e = some r)) hm hnx2 hr2
  exact d_round () hm Nat.zero_lt_one trivial (fun W h=>h.phi (fun W hφ=>hφ))
 unfold m_slices_IndexFunc_76_j1 at hm
 refine d_flat [] trivial (fun u=>?_)
 refine d_sta ⟨w0,M,H,R,φ⟩ (fun _ h=>h)<|d_then<|c_seq<|c_region<|g_v rfl r_assign<|g_nil<|d_then<|c_ret ?_
 cases hm
 exact d_retC () Try.results76 (res_tmp (res_nil rfl)) trivial (fun W h=>ok_pre (H1:=[]) (R1:=[]) h (fun W hφ=>hφ)) (.inr rfl)
noncomputable def m_slices_ContainsFunc_53 (p0 : List ByteArray) : Option Bool:=
  (m_slices_IndexFunc_76 p0).bind fun x1=>
  some (decide (0 ≤ x1))
theorem c_slices_ContainsFunc_53 {w0 : World} {M : Nat→Prop} {H : List (Nat×Nat×Obj)} {R : List (Nat×Row)} {φ : World→Prop} (p0 : List ByteArray) (Ap0_0 : Option Addr) (cp0_0 : Nat) (hcp0_0 : p0.length ≤ cp0_0) (fp0_0 : ∀ W,(Sta.mk w0 M H R φ).ok W→Cl W Ap0_0 (p0.flatMap (fun x : ByteArray=>[Value.string x]))) (r : Bool) (hm : m_slices_ContainsFunc_53 p0 = some r) :
    Cn Try.prog 53 #[.slice Ap0_0 p0.length cp0_0,.func (.func 75) #[] #[]] ⟨w0,M,H,R,φ⟩ (fun x : Unit=>.bool r) (fun x=>True) (fun x=>⟨w0,M,H,R,φ⟩):=by
 unfold m_slices_ContainsFunc_53 at hm
 refine cn_intro (fn:=Try.f53) (N:=9) Try.func53 rfl Try.ntmps53 rfl<|c_seq<|c_region<|g_v rfl r_assign<|g_nil<|d_then<|c_seq<|c_region<|g_v rfl r_move<|g_v rfl r_move ?_
 replace hm:=bnd hm
 obtain ⟨x1,hx2,hm⟩:=hm
 refine g_cn ⟨w0,M,_,_,φ⟩ (fun _ h=>h) Try.call76 rfl rfl (c_slices_IndexFunc_76 p0 Ap0_0 cp0_0 hcp0_0 (fun W hS=>fp0_0 W (ok_pre (H1:=[]) (R1:=[]) hS (fun W h=>h))) _ hx2) (fun _ _=>?_)
 refine g_v rfl (r_geq rfl rfl)<|g_v rfl r_assign<|g_nil<|d_then<|c_ret ?_
 cases hm
 exact d_retC () Try.results53 (res_tmp (res_nil rfl)) trivial (fun W h=>ok_pre (H1:=[]) (R1:=[]) h (fun W hφ=>hφ)) (.inr rfl)
noncomputable def m_conf_none (p0 : List ByteArray) : Option Bool:=
  (m_slices_ContainsFunc_53 p0).bind fun x1=>
  some (!x1)
theorem c_conf_none {w0 : World} {M : Nat→Prop} {H : List (Nat×Nat×Obj)} {R : List (Nat×Row)} {φ : World→Prop} (p0 : List ByteArray) (Ap0_0 : Option Addr) (cp0_0 : Nat) (hcp0_0 : p0.length ≤ cp0_0) (fp0_0 : ∀ W,(Sta.mk w0 M H R φ).ok W→Cl W Ap0_0 (p0.flatMap (fun x : ByteArray=>[Value.string x]))) (r : Bool) (hm : m_conf_none p0 = some r) :
    Cn Try.prog 52 #[.slice Ap0_0 p0.length cp0_0] ⟨w0,M,H,R,φ⟩ (fun x : Unit=>.bool r) (fun x=>True) (fun x=>⟨w0,M,H,R,φ⟩):=by
 unfold m_conf_none at hm
 refine cn_intro (fn:=Try.f52) (N:=6) Try.func52 rfl Try.ntmps52 rfl<|c_seq<|c_region<|g_v rfl r_assign<|g_nil<|d_then<|c_seq<|c_region<|g_v rfl r_move ?_
 replace hm:=bnd hm
 obtain ⟨x1,hx2,hm⟩:=hm
 refine g_cn ⟨w0,M,_,_,φ⟩ (fun _ h=>h) Try.call53 rfl rfl (c_slices_ContainsFunc_53 p0 Ap0_0 cp0_0 hcp0_0 (fun W hS=>fp0_0 W (ok_pre (H1:=[]) (R1:=[]) hS (fun W h=>h))) _ hx2) (fun _ _=>?_)
 refine g_v rfl (r_not rfl)<|g_v rfl r_assign<|g_nil<|d_then<|c_ret ?_
 cases hm
 exact d_retC () Try.results52 (res_tmp (res_nil rfl)) trivial (fun W h=>ok_pre (H1:=[]) (R1:=[]) h (fun W hφ=>hφ)) (.inr rfl)
noncomputable def m_conf_Check_k1_j2  (b12 : Bool) : Option Int:=
  if b12 = true then
    some 0
  else
    some 1
noncomputable def m_conf_Check_k1_j3 (p0_fNode : Int) (p0_fName : ByteArray) (p0_fText : ByteArray) (p0_fZone : ByteArray) (p0_fHints : List ByteArray) : Option Int:=
  if 1 = 1 then
    (m_conf_node p0_fNode).bind fun x15=>
    if x15 = true then
      (m_conf_none [p0_fName,p0_fText,p0_fZone]).bind fun x19=>
      if x19 = true then
        m_conf_Check_k1_j2 (decide ((p0_fHints.length : Int) = 0))
      else
        m_conf_Check_k1_j2 false
    else
      m_conf_Check_k1_j2 false
  else
    m_conf_Check_k1_j2 false
noncomputable def m_conf_Check_k1_j1 (p0_fNode : Int) (p0_fName : ByteArray) (p0_fText : ByteArray) (p0_fZone : ByteArray) (p0_fHints : List ByteArray) (b3 : Bool) : Option Int:=
  m_conf_Check_k1_j3 p0_fNode p0_fName p0_fText p0_fZone p0_fHints
noncomputable def m_conf_Check_k1 (p0_fNode : Int) (p0_fName : ByteArray) (p0_fText : ByteArray) (p0_fZone : ByteArray) (p0_fHints : List ByteArray) : Option Int:=
  if p0_fNode = 0 then
    m_conf_Check_k1_j1 p0_fNode p0_fName p0_fText p0_fZone p0_fHints (decide ((p0_fHints.length : Int) = 0))
  else
    m_conf_Check_k1_j1 p0_fNode p0_fName p0_fText p0_fZone p0_fHints false
theorem c_conf_Check_k1 {w0 : World} {M : Nat→Prop} {H : List (Nat×Nat×Obj)} {R : List (Nat×Row)} {φ : World→Prop} (p0_fNode : Int) (p0_fName : ByteArray) (p0_fText : ByteArray) (p0_fZone : ByteArray) (p0_fHints : List ByteArray) (Ap0_fHints_0 : Option Addr) (cp0_fHints_0 : Nat) (hcp0_fHints_0 : p0_fHints.length ≤ cp0_fHints_0) (fp0_fHints_0 : ∀ W,(Sta.mk w0 M H R φ).ok W→Cl W Ap0_fHints_0 (p0_fHints.flatMap (fun x : ByteArray=>[Value.string x]))) (r : Int) (hm : m_conf_Check_k1 p0_fNode p0_fName p0_fText p0_fZone p0_fHints = some r) :
    Cn Try.prog 20 #[.agg #[.int .i64 1,.int .i64 p0_fNode,.string p0_fName,.string p0_fText,.string p0_fZone,.slice Ap0_fHints_0 p0_fHints.length cp0_fHints_0]] ⟨w0,M,H,R,φ⟩ (fun x : Unit=>.int .i64 r) (fun x=>True) (fun x=>⟨w0,M,H,R,φ⟩):=by
 unfold m_conf_Check_k1 at hm
 refine cn_intro (fn:=Try.f20) (N:=109) Try.func20 rfl Try.ntmps20 rfl<|c_seq<|c_region ?_
 refine g_e rfl (e_box 100010 rfl) (fun g1 _=>?_)
 refine g_v rfl r_assign<|g_nil<|d_then<|c_seq<|c_region<|g_v rfl r_assign<|g_nil<|d_then<|c_seq ?_
 refine c_cut (ι:=Bool) [1,3,4] (fun b3=>[(4,.bool b3)]) (fun b3=>⟨w0,M,(100010,g1,.cells #[.int .i64 1,.int .i64 p0_fNode,.string p0_fName,.string p0_fText,.string p0_fZone,.slice Ap0_fHints_0 p0_fHints.length cp0_fHints_0] 35 (0,0))::H,R,φ⟩) (fun b3=>m_conf_Check_k1_j1 p0_fNode p0_fName p0_fText p0_fZone p0_fHints b3 = some r) ?_ (fun b3 u hm=>?_)
 ·
  refine c_region<|g_v rfl (r_field (n:=1) Try.underlying35 rfl Try.sizeOf3 rfl rfl)<|g_v rfl (r_load (tag:=100010) rfl rfl rfl Try.isAgg3)<|g_v rfl (r_eql rfl rfl)<|g_v rfl r_move<|g_sta ⟨w0,M,(100010,g1,.cells #[.int .i64 1,.int .i64 p0_fNode,.string p0_fName,.string p0_fText,.string p0_fZone,.slice Ap0_fHints_0 p0_fHints.length cp0_fHints_0] 35 (0,0))::H,R,φ⟩ (fun _ h=>h) ?_
  refine g_if rfl rfl rfl rfl rfl (fun h22=>?_) (fun h22=>?_)
  ·
   replace hm:=ite_t hm (of_decide_eq_true h22)
   refine g_v rfl (r_field (n:=5) Try.underlying35 rfl Try.sizeOf22 rfl rfl)<|g_do rfl rfl rfl rfl rfl h22<|g_v rfl (r_load (tag:=100010) rfl rfl rfl Try.isAgg22)<|g_do rfl rfl rfl rfl rfl h22<|g_v rfl (r_lenL Try.underlying22 rfl)<|g_do rfl rfl rfl rfl rfl h22<|g_v rfl (r_eql rfl rfl)<|g_v rfl (r_pick1 rfl h22)<|g_v rfl r_assign<|g_nil ?_
   exact d_round (decide ((p0_fHints.length : Int) = 0)) hm Nat.zero_lt_one ⟨rfl,rfl,rfl,trivial⟩ (fun W h=>h.phi (fun W hφ=>hφ))
  replace hm:=ite_f hm (of_decide_eq_false h22)
  iterate 3 refine g_no rfl rfl rfl rfl rfl h22 ?_
  refine g_v rfl (r_pick0 rfl h22)<|g_v rfl r_assign<|g_nil ?_
  exact d_round false hm Nat.zero_lt_one ⟨rfl,rfl,rfl,trivial⟩ (fun W h=>h.phi (fun W hφ=>hφ))
 unfold m_conf_Check_k1_j1 at hm
 refine d_flat [(1,.pointer (some ⟨g1,0,none⟩)),(3,.bool false),(4,.bool b3)] ⟨rfl,rfl,rfl,trivial⟩ (fun u=>?_)
 refine d_sta ⟨w0,M,(100010,g1,.cells #[.int .i64 1,.int .i64 p0_fNode,.string p0_fName,.string p0_fText,.string p0_fZone,.slice Ap0_fHints_0 p0_fHints.length cp0_fHints_0] 35 (0,0))::H,R,φ⟩ (fun _ h=>h)<|d_then<|c_seq ?_
 refine c_cut (ι:=Bool) [3] (fun b12=>[(3,.bool b12)]) (fun b12=>⟨w0,M,H,R,φ⟩) (fun b12=>m_conf_Check_k1_j2 b12 = some r) ?_ (fun b12 u hm=>?_)
 ·
  refine c_seq<|c_region<|g_v rfl (r_field (n:=0) Try.underlying35 rfl Try.sizeOf3 rfl rfl)<|g_v rfl (r_load (tag:=100010) rfl rfl rfl Try.isAgg3)<|g_nil<|d_then<|c_block<|c_seq ?_
  refine c_cut (ι:=Unit) [1,3,4,15,16] (fun _=>[(16,.bool (decide (1 = 1)))]) (fun _=>⟨w0,M,(100010,g1,.cells #[.int .i64 1,.int .i64 p0_fNode,.string p0_fName,.string p0_fText,.string p0_fZone,.slice Ap0_fHints_0 p0_fHints.length cp0_fHints_0] 35 (0,0))::H,R,φ⟩) (fun _=>m_conf_Check_k1_j3 p0_fNode p0_fName p0_fText p0_fZone p0_fHints = some r) ?_ (fun _ u hm=>?_)
  ·
   refine c_seq<|c_region<|g_v rfl (r_eql rfl rfl)<|g_v rfl r_assign<|g_nil<|d_then<|c_cond1 rfl (by decide)<|c_skip ?_
   exact d_round () hm Nat.zero_lt_one ⟨rfl,rfl,rfl,rfl,rfl,trivial⟩ (fun W h=>h.phi (fun W hφ=>hφ))
  unfold m_conf_Check_k1_j3 at hm
  refine d_flat [(1,.pointer (some ⟨g1,0,none⟩)),(3,.bool false),(4,.bool b3),(15,.int .i64 1),(16,.bool (decide (1 = 1)))] ⟨rfl,rfl,rfl,rfl,rfl,trivial⟩ (fun u=>?_)
  refine d_then ?_
  refine c_cond rfl (fun h14=>?_) (fun h14=>?_)
  ·
   replace hm:=ite_t hm (of_decide_eq_true h14)
   refine c_region<|g_v rfl (r_field (n:=1) Try.underlying35 rfl Try.sizeOf3 rfl rfl)<|g_v rfl (r_load (tag:=100010) rfl rfl rfl Try.isAgg3) ?_
   replace hm:=bnd hm
   obtain ⟨x15,hx16,hm⟩:=hm
   refine g_cn ⟨w0,M,_,_,φ⟩ (fun _ h=>h) Try.call51 rfl rfl (c_conf_node p0_fNode _ hx16) (fun _ _=>?_)
   refine g_v rfl r_move ?_
   refine g_if rfl rfl rfl rfl rfl (fun h17=>?_) (fun h17=>?_)
   ·
    replace hm:=ite_t hm h17
    refine g_v rfl (r_field (n:=2) Try.underlying35 rfl Try.sizeOf9 rfl rfl)<|g_do rfl rfl rfl rfl rfl h17<|g_v rfl (r_load (tag:=100010) rfl rfl rfl Try.isAgg9)<|g_do rfl rfl rfl rfl rfl h17<|g_v rfl (r_field (n:=3) Try.underlying35 rfl Try.sizeOf9 rfl rfl)<|g_do rfl rfl rfl rfl rfl h17<|g_v rfl (r_load (tag:=100010) rfl rfl rfl Try.isAgg9)<|g_do rfl rfl rfl rfl rfl h17<|g_v rfl (r_field (n:=4) Try.underlying35 rfl Try.sizeOf9 rfl rfl)<|g_do rfl rfl rfl rfl rfl h17 ?_
    refine g_v rfl (r_load (tag:=100010) rfl rfl rfl Try.isAgg9)<|g_do rfl rfl rfl rfl rfl h17 ?_
    refine g_e rfl (e_lit (tag:=100290) (l:=[p0_fName,p0_fText,p0_fZone]) (enc:=(fun x : ByteArray=>[Value.string x])) (sz:=1) rfl Try.underlying22 (lit9_1 _ _ _) rfl rfl (fun _=>rfl)) (fun g18 _=>?_)
    refine g_do rfl rfl rfl rfl rfl h17 ?_
    replace hm:=bnd hm
    obtain ⟨x19,hx20,hm⟩:=hm
    refine g_cn ⟨w0,M,_,_,φ⟩ (fun _ h=>h) Try.call52 rfl rfl (c_conf_none [p0_fName,p0_fText,p0_fZone] (some ⟨g18,0,none⟩) 3 (Nat.le_refl _) (fun W hS=>rowCl (tag:=100290) rfl W hS) _ hx20) (fun _ _=>?_)
    refine g_v rfl (r_pick1 rfl h17)<|g_v rfl r_move<|g_sta ⟨w0,M,(100010,g1,.cells #[.int .i64 1,.int .i64 p0_fNode,.string p0_fName,.string p0_fText,.string p0_fZone,.slice Ap0_fHints_0 p0_fHints.length cp0_fHints_0] 35 (0,0))::H,(100290,⟨.slice (some ⟨g18,0,none⟩) [p0_fName,p0_fText,p0_fZone].length 3,9,1,[p0_fName,p0_fText,p0_fZone].length,[p0_fName,p0_fText,p0_fZone].flatMap (fun x : ByteArray=>[Value.string x])⟩)::R,φ⟩ (fun _ h=>h) ?_
    refine g_if rfl rfl rfl rfl rfl (fun h21=>?_) (fun h21=>?_)
    ·
     replace hm:=ite_t hm h21
     refine g_v rfl (r_field (n:=5) Try.underlying35 rfl Try.sizeOf22 rfl rfl)<|g_do rfl rfl rfl rfl rfl h21<|g_v rfl (r_load (tag:=100010) rfl rfl rfl Try.isAgg22)<|g_do rfl rfl rfl rfl rfl h21<|g_v rfl (r_lenL Try.underlying22 rfl)<|g_do rfl rfl rfl rfl rfl h21<|g_v rfl (r_eql rfl rfl)<|g_v rfl (r_pick1 rfl h21)<|g_v rfl r_assign<|g_nil ?_
     refine d_normal_block ?_
     exact d_round (decide ((p0_fHints.length : Int) = 0)) hm Nat.zero_lt_one ⟨rfl,trivial⟩ (fun W h=>((h.dropR (t:=100290) rfl).dropH (t:=100010) rfl).phi (fun W hφ=>hφ))
    replace hm:=ite_f hm (bool_nt h21)
    iterate 3 refine g_no rfl rfl rfl rfl rfl h21 ?_
    refine g_v rfl (r_pick0 rfl h21)<|g_v rfl r_assign<|g_nil<|d_normal_block ?_
    exact d_round false hm Nat.zero_lt_one ⟨rfl,trivial⟩ (fun W h=>((h.dropR (t:=100290) rfl).dropH (t:=100010) rfl).phi (fun W hφ=>hφ))
   replace hm:=ite_f hm (bool_nt h17)
   iterate 7 refine g_no rfl rfl rfl rfl rfl h17 ?_
   refine g_v rfl (r_pick0 rfl h17)<|g_v rfl r_move ?_
   iterate 4 refine g_no rfl rfl rfl rfl rfl rfl ?_
   refine g_v rfl (r_pick0 rfl rfl)<|g_v rfl r_assign<|g_nil<|d_normal_block ?_
   exact d_round false hm Nat.zero_lt_one ⟨rfl,trivial⟩ (fun W h=>(h.dropH (t:=100010) rfl).phi (fun W hφ=>hφ))
  replace hm:=ite_f hm (of_decide_eq_false h14)
  refine c_seq<|c_region<|g_v rfl (r_eql rfl rfl)<|g_v rfl r_assign<|g_nil<|d_then<|c_cond0 rfl (by decide)<|c_seq<|c_region<|g_v rfl (r_eql rfl rfl) ?_
  refine g_v rfl r_assign<|g_nil<|d_then<|c_cond0 rfl (by decide)<|c_seq<|c_region<|g_v rfl (r_eql rfl rfl)<|g_v rfl r_assign<|g_nil<|d_then ?_
  refine c_cond0 rfl (by decide)<|c_skip<|d_normal_block ?_
  exact d_round false hm Nat.zero_lt_one ⟨rfl,trivial⟩ (fun W h=>(h.dropH (t:=100010) rfl).phi (fun W hφ=>hφ))
 unfold m_conf_Check_k1_j2 at hm
 refine d_flat [(3,.bool b12)] ⟨rfl,trivial⟩ (fun u=>?_)
 refine d_sta ⟨w0,M,H,R,φ⟩ (fun _ h=>h)<|d_then<|c_seq<|c_seq<|c_region<|g_v rfl r_move<|g_v rfl (r_not rfl)<|g_nil<|d_then ?_
 refine c_cond rfl (fun h13=>?_) (fun h13=>?_)
 ·
  have h13' : b12 = false:=by revert h13; cases b12 <;> simp
  replace hm:=ite_f hm (bool_nt h13')
  refine c_seq<|c_region<|g_v rfl r_assign<|g_nil<|d_then<|c_ret<|d_ret_then ?_
  cases hm
  exact d_retC () Try.results20 (res_tmp (res_nil rfl)) trivial (fun W h=>ok_pre (H1:=[]) (R1:=[]) h (fun W hφ=>hφ)) (.inr rfl)
 have h13' : b12 = true:=by revert h13; cases b12 <;> simp
 replace hm:=ite_t hm h13'
 refine c_skip<|d_then<|c_seq<|c_region<|g_v rfl r_assign<|g_nil<|d_then<|c_ret ?_
 cases hm
 exact d_retC () Try.results20 (res_tmp (res_nil rfl)) trivial (fun W h=>ok_pre (H1:=[]) (R1:=[]) h (fun W hφ=>hφ)) (.inr rfl)
structure Gpack_Packer where
  fb : List Int
  fplaces : List (ByteArray×Int)
  deriving DecidableEq
theorem bld102_2  : ∀ W,(Instr.build 102 #[]).run Try.prog W = .ok (.agg #[.slice none 0 0,.map none]) W:=fun _=>by kernel_rfl
noncomputable def m_pack_New  : Option Gpack_Packer:=
  some (⟨([] : List Int),([] : List (ByteArray×Int))⟩ : Gpack_Packer)
theorem c_pack_New {w0 : World} {M : Nat→Prop} {H : List (Nat×Nat×Obj)} {R : List (Nat×Row)} {φ : World→Prop}  (r : Gpack_Packer) (hm : m_pack_New = some r) :
    Cn Try.prog 42 #[] ⟨w0,M,H,R,φ⟩ (fun x : Option Addr×Nat×Option Addr×Nat×Nat=>.pointer (some ⟨x.2.2.2.2,0,none⟩)) (fun x=>r.fb.length ≤ x.2.1∧True) (fun x=>⟨w0,M,(3000,x.2.2.2.2,.cells #[.slice x.1 r.fb.length x.2.1,mapV x.2.2.1] 102 (0,0))::H,(2000,⟨.slice x.1 r.fb.length x.2.1,5,1,r.fb.length,r.fb.flatMap (fun x : Int=>[Value.int .u8 x])⟩)::(2001,⟨mapV x.2.2.1,100,2,r.fplaces.length,r.fplaces.flatMap (mcell (fun x : ByteArray=>Value.string x) (fun x : Int=>Value.int .i64 x))⟩)::R,φ⟩):=by
 unfold m_pack_New at hm
 refine cn_intro (fn:=Try.f42) (N:=3) Try.func42 rfl Try.ntmps42 rfl<|c_seq<|c_region<|g_v rfl r_assign<|g_nil<|d_then<|c_seq<|c_region<|g_v rfl (r_build _ rfl (bld102_2)) ?_
 refine g_e rfl (e_box 100020 rfl) (fun g1 _=>?_)
 refine g_v rfl r_assign<|g_nil<|d_then<|c_ret ?_
 cases hm
 refine d_sta _ (fun W h=>nilR h 11 5 1)<|d_sta _ (fun W h=>nilM h 12 100)<|d_sta _ (fun W h=>ok_frontR (t:=12) (t':=2001) h rfl)<|d_sta _ (fun W h=>ok_frontR (t:=11) (t':=2000) h rfl)<|d_sta _ (fun W h=>ok_front (t:=100020) (t':=3000) h rfl) ?_
 exact d_retC (none,0,none,0,g1) Try.results42 (res_tmp (res_nil rfl)) ⟨(Nat.le_refl 0),trivial⟩ (fun W h=>h.phi (fun W hφ=>hφ)) (.inr rfl)
theorem lit5_3 (z0 : Int) : Try.prog.builtSlice 5 1 [(0,.int .u8 z0)] = some #[.int .u8 z0]:=by kernel_rfl
theorem inf5_4  : (Try.prog.info? 5).map (fun i=>(i.zero,i.size,i.bytes)) = some (some (.int .u8 0),1,1):=by kernel_rfl
noncomputable def m_pack_Packer_put (p1 : List Int) (o0 : Gpack_Packer) : Option Gpack_Packer:=
  (app 1 o0.fb p1).bind fun l1=>
  some (⟨l1,o0.fplaces⟩ : Gpack_Packer)
theorem c_pack_Packer_put {w0 : World} {M : Nat→Prop} {H : List (Nat×Nat×Obj)} {R : List (Nat×Row)} {φ : World→Prop} (p1 : List Int) (Ap1_0 : Option Addr) (cp1_0 : Nat) (hcp1_0 : p1.length ≤ cp1_0) (fp1_0 : ∀ W,(Sta.mk w0 M H R φ).ok W→Cl W Ap1_0 (p1.flatMap (fun x : Int=>[Value.int .u8 x]))) (go0 : Nat) (o0 : Gpack_Packer) (Ao0_0 : Option Addr) (co0_0 : Nat) (hco0_0 : o0.fb.length ≤ co0_0) (Ao0_1 : Option Addr) (co0_1 : Nat) (hco0_1 : True) (r : Gpack_Packer) (hm : m_pack_Packer_put p1 o0 = some r) :
    Cn Try.prog 73 #[.pointer (some ⟨go0,0,none⟩),.slice Ap1_0 p1.length cp1_0] ⟨w0,M,(1000,go0,.cells #[.slice Ao0_0 o0.fb.length co0_0,mapV Ao0_1] 102 (0,0))::H,(1000,⟨.slice Ao0_0 o0.fb.length co0_0,5,1,o0.fb.length,o0.fb.flatMap (fun x : Int=>[Value.int .u8 x])⟩)::(1001,⟨mapV Ao0_1,100,2,o0.fplaces.length,o0.fplaces.flatMap (mcell (fun x : ByteArray=>Value.string x) (fun x : Int=>Value.int .i64 x))⟩)::R,φ⟩ (fun x : Option Addr×Nat=>.tuple #[]) (fun x=>r.fb.length ≤ x.2) (fun x=>⟨w0,M,(1000,go0,.cells #[.slice x.1 r.fb.length x.2,mapV Ao0_1] 102 (0,0))::H,(2000,⟨.slice x.1 r.fb.length x.2,5,1,r.fb.length,r.fb.flatMap (fun x : Int=>[Value.int .u8 x])⟩)::(1001,⟨mapV Ao0_1,100,2,o0.fplaces.length,o0.fplaces.flatMap (mcell (fun x : ByteArray=>Value.string x) (fun x : Int=>Value.int .i64 x))⟩)::R,φ⟩):=by
 unfold m_pack_Packer_put at hm
 refine cn_intro (fn:=Try.f73) (N:=15) Try.func73 rfl Try.ntmps73 rfl<|c_seq<|c_region<|g_v rfl r_move<|g_v rfl (r_neqP1 Try.underlying74 rfl rfl)<|g_nil<|d_then<|c_cond1 rfl rfl<|c_region<|g_v rfl r_move ?_
 refine g_v rfl r_move<|g_v rfl (r_nilck rfl)<|g_v rfl (r_field (n:=0) Try.underlying102 rfl Try.sizeOf79 rfl rfl)<|g_v rfl (r_load (tag:=1000) rfl rfl rfl Try.isAgg79)<|g_v rfl r_move ?_
 replace hm:=bnd hm
 obtain ⟨l1,hl1,hm⟩:=hm
 refine g_e rfl (e_appR (enc:=(fun x : Int=>[Value.int .u8 x])) (l:=o0.fb) (l1:=p1) (l2:=l1) (tag:=1000) Try.underlying79 inf5_4 rfl (by decide) (by decide) (fun _=>rfl) (fun _=>rfl) rfl hco0_0 rfl rfl (fun W hS=>fp1_0 W (ok_pre (H1:=[_]) (R1:=[_,_]) hS (fun W h=>h))) hl1) (fun ⟨A2,c3⟩ hc3=>?_)
 refine g_v rfl (r_nilck rfl)<|g_v rfl (r_field (n:=0) Try.underlying102 rfl Try.sizeOf79 rfl rfl)<|g_storeL (tag:=1000) rfl rfl rfl rfl Try.sizeOf79 rfl rfl<|g_nil ?_
 cases hm
 refine d_sta _ (fun W h=>ok_frontR (t:=1000) (t':=2000) h rfl) ?_
 exact d_retC (A2,c3) Try.results73 (res_nil rfl) hc3 (fun W h=>h.phi (fun W hφ=>hφ)) (.inl rfl)
noncomputable def m_pack_Packer_Byte (p1 : Int) (o0 : Gpack_Packer) : Option Gpack_Packer:=
  (m_pack_Packer_put [p1] o0).bind fun x2=>
  some (⟨x2.fb,o0.fplaces⟩ : Gpack_Packer)
theorem c_pack_Packer_Byte {w0 : World} {M : Nat→Prop} {H : List (Nat×Nat×Obj)} {R : List (Nat×Row)} {φ : World→Prop} (p1 : Int) (go0 : Nat) (o0 : Gpack_Packer) (Ao0_0 : Option Addr) (co0_0 : Nat) (hco0_0 : o0.fb.length ≤ co0_0) (Ao0_1 : Option Addr) (co0_1 : Nat) (hco0_1 : True) (r : Gpack_Packer) (hm : m_pack_Packer_Byte p1 o0 = some r) :
    Cn Try.prog 43 #[.pointer (some ⟨go0,0,none⟩),.int .u8 p1] ⟨w0,M,(1000,go0,.cells #[.slice Ao0_0 o0.fb.length co0_0,mapV Ao0_1] 102 (0,0))::H,(1000,⟨.slice Ao0_0 o0.fb.length co0_0,5,1,o0.fb.length,o0.fb.flatMap (fun x : Int=>[Value.int .u8 x])⟩)::(1001,⟨mapV Ao0_1,100,2,o0.fplaces.length,o0.fplaces.flatMap (mcell (fun x : ByteArray=>Value.string x) (fun x : Int=>Value.int .i64 x))⟩)::R,φ⟩ (fun x : Option Addr×Nat=>.tuple #[]) (fun x=>r.fb.length ≤ x.2) (fun x=>⟨w0,M,(1000,go0,.cells #[.slice x.1 r.fb.length x.2,mapV Ao0_1] 102 (0,0))::H,(2000,⟨.slice x.1 r.fb.length x.2,5,1,r.fb.length,r.fb.flatMap (fun x : Int=>[Value.int .u8 x])⟩)::(1001,⟨mapV Ao0_1,100,2,o0.fplaces.length,o0.fplaces.flatMap (mcell (fun x : ByteArray=>Value.string x) (fun x : Int=>Value.int .i64 x))⟩)::R,φ⟩):=by
 unfold m_pack_Packer_Byte at hm
 refine cn_intro (fn:=Try.f43) (N:=8) Try.func43 rfl Try.ntmps43 rfl<|c_region<|g_v rfl r_move<|g_v rfl r_move ?_
 refine g_e rfl (e_lit (tag:=100060) (l:=[p1]) (enc:=(fun x : Int=>[Value.int .u8 x])) (sz:=1) rfl Try.underlying79 (lit5_3 _) rfl rfl (fun _=>rfl)) (fun g1 _=>?_)
 replace hm:=bnd hm
 obtain ⟨x2,hx3,hm⟩:=hm
 refine g_cn ⟨w0,M,(1000,go0,.cells #[.slice Ao0_0 o0.fb.length co0_0,mapV Ao0_1] 102 (0,0))::H,(1000,⟨.slice Ao0_0 o0.fb.length co0_0,5,1,o0.fb.length,o0.fb.flatMap (fun x : Int=>[Value.int .u8 x])⟩)::(1001,⟨mapV Ao0_1,100,2,o0.fplaces.length,o0.fplaces.flatMap (mcell (fun x : ByteArray=>Value.string x) (fun x : Int=>Value.int .i64 x))⟩)::(100060,⟨.slice (some ⟨g1,0,none⟩) [p1].length 1,5,1,[p1].length,[p1].flatMap (fun x : Int=>[Value.int .u8 x])⟩)::R,φ⟩ (fun W h=>(ok_front (t:=1000) (t':=1000) (ok_frontR (t:=1000) (t':=1000) (ok_frontR (t:=1001) (t':=1001) h rfl) rfl) rfl)) Try.call73 rfl rfl (c_pack_Packer_put [p1] (some ⟨g1,0,none⟩) 1 (Nat.le_refl _) (fun W hS=>rowCl (tag:=100060) rfl W hS) go0 o0 Ao0_0 co0_0 hco0_0 Ao0_1 co0_1 trivial _ hx3) (fun ⟨A4,c5⟩ hc5=>?_)
 refine g_sta _ (fun W h=>(ok_frontR (t:=2000) (t':=1000) (ok_frontR (t:=1001) (t':=1001) (ok_front (t:=1000) (t':=1000) h rfl) rfl) rfl))<|g_nil ?_
 cases hm
 refine d_sta _ (fun W h=>ok_frontR (t:=1000) (t':=2000) h rfl) ?_
 exact d_retC (A4,c5) Try.results43 (res_nil rfl) hc5 (fun W h=>(h.dropR (t:=100060) rfl).phi (fun W hφ=>hφ)) (.inl rfl)
noncomputable def m_pack_Packer_Raw (p1 : ByteArray) (o0 : Gpack_Packer) : Option Gpack_Packer:=
  (m_pack_Packer_put (bytesI p1) o0).bind fun x5=>
  some (⟨x5.fb,o0.fplaces⟩ : Gpack_Packer)
theorem c_pack_Packer_Raw {w0 : World} {M : Nat→Prop} {H : List (Nat×Nat×Obj)} {R : List (Nat×Row)} {φ : World→Prop} (p1 : ByteArray) (go0 : Nat) (o0 : Gpack_Packer) (Ao0_0 : Option Addr) (co0_0 : Nat) (hco0_0 : o0.fb.length ≤ co0_0) (Ao0_1 : Option Addr) (co0_1 : Nat) (hco0_1 : True) (r : Gpack_Packer) (hm : m_pack_Packer_Raw p1 o0 = some r) :
    Cn Try.prog 44 #[.pointer (some ⟨go0,0,none⟩),.string p1] ⟨w0,M,(1000,go0,.cells #[.slice Ao0_0 o0.fb.length co0_0,mapV Ao0_1] 102 (0,0))::H,(1000,⟨.slice Ao0_0 o0.fb.length co0_0,5,1,o0.fb.length,o0.fb.flatMap (fun x : Int=>[Value.int .u8 x])⟩)::(1001,⟨mapV Ao0_1,100,2,o0.fplaces.length,o0.fplaces.flatMap (mcell (fun x : ByteArray=>Value.string x) (fun x : Int=>Value.int .i64 x))⟩)::R,φ⟩ (fun x : Option Addr×Nat=>.tuple #[]) (fun x=>r.fb.length ≤ x.2) (fun x=>⟨w0,M,(1000,go0,.cells #[.slice x.1 r.fb.length x.2,mapV Ao0_1] 102 (0,0))::H,(2000,⟨.slice x.1 r.fb.length x.2,5,1,r.fb.length,r.fb.flatMap (fun x : Int=>[Value.int .u8 x])⟩)::(1001,⟨mapV Ao0_1,100,2,o0.fplaces.length,o0.fplaces.flatMap (mcell (fun x : ByteArray=>Value.string x) (fun x : Int=>Value.int .i64 x))⟩)::R,φ⟩):=by
 unfold m_pack_Packer_Raw at hm
 refine cn_intro (fn:=Try.f44) (N:=8) Try.func44 rfl Try.ntmps44 rfl<|c_region<|g_v rfl r_move<|g_v rfl r_move ?_
 refine g_bytes rfl Try.underlying9 Try.underlying79 Try.underlying5 rfl (fun A1 c2 hc2 φ3 q3'=>?_)
 have q3 : ∀ W,φ3 W→φ W:=fun W h=>(q3' W h).1
 have f4:=fun (W : World) (h : φ3 W)=>(q3' W h).2
 replace hm:=bnd hm
 obtain ⟨x5,hx6,hm⟩:=hm
 refine g_cn ⟨w0,M,(1000,go0,.cells #[.slice Ao0_0 o0.fb.length co0_0,mapV Ao0_1] 102 (0,0))::H,(1000,⟨.slice Ao0_0 o0.fb.length co0_0,5,1,o0.fb.length,o0.fb.flatMap (fun x : Int=>[Value.int .u8 x])⟩)::(1001,⟨mapV Ao0_1,100,2,o0.fplaces.length,o0.fplaces.flatMap (mcell (fun x : ByteArray=>Value.string x) (fun x : Int=>Value.int .i64 x))⟩)::R,φ3⟩ (fun W h=>(ok_front (t:=1000) (t':=1000) (ok_frontR (t:=1000) (t':=1000) (ok_frontR (t:=1001) (t':=1001) h rfl) rfl) rfl)) Try.call73 rfl rfl (c_pack_Packer_put (bytesI p1) A1 c2 hc2 (fun W hS=>f4 W hS.now) go0 o0 Ao0_0 co0_0 hco0_0 Ao0_1 co0_1 trivial _ hx6) (fun ⟨A7,c8⟩ hc8=>?_)
 refine g_sta _ (fun W h=>(ok_frontR (t:=2000) (t':=1000) (ok_frontR (t:=1001) (t':=1001) (ok_front (t:=1000) (t':=1000) h rfl) rfl) rfl))<|g_nil ?_
 cases hm
 refine d_sta _ (fun W h=>ok_frontR (t:=1000) (t':=2000) h rfl) ?_
 exact d_retC (A7,c8) Try.results44 (res_nil rfl) hc8 (fun W h=>h.phi (fun W hφ=>(q3 _ hφ))) (.inl rfl)
noncomputable def m_pack_Packer_Bytes (o0 : Gpack_Packer) : Option ByteArray:=
  some (strOfNums o0.fb)
theorem c_pack_Packer_Bytes {w0 : World} {M : Nat→Prop} {H : List (Nat×Nat×Obj)} {R : List (Nat×Row)} {φ : World→Prop} (go0 : Nat) (o0 : Gpack_Packer) (Ao0_0 : Option Addr) (co0_0 : Nat) (hco0_0 : o0.fb.length ≤ co0_0) (Ao0_1 : Option Addr) (co0_1 : Nat) (hco0_1 : True) (r : ByteArray) (hm : m_pack_Packer_Bytes o0 = some r) :
    Cn Try.prog 45 #[.pointer (some ⟨go0,0,none⟩)] ⟨w0,M,(1000,go0,.cells #[.slice Ao0_0 o0.fb.length co0_0,mapV Ao0_1] 102 (0,0))::H,(1000,⟨.slice Ao0_0 o0.fb.length co0_0,5,1,o0.fb.length,o0.fb.flatMap (fun x : Int=>[Value.int .u8 x])⟩)::(1001,⟨mapV Ao0_1,100,2,o0.fplaces.length,o0.fplaces.flatMap (mcell (fun x : ByteArray=>Value.string x) (fun x : Int=>Value.int .i64 x))⟩)::R,φ⟩ (fun x : Unit=>.string r) (fun x=>True) (fun x=>⟨w0,M,(1000,go0,.cells #[.slice Ao0_0 o0.fb.length co0_0,mapV Ao0_1] 102 (0,0))::H,(1000,⟨.slice Ao0_0 o0.fb.length co0_0,5,1,o0.fb.length,o0.fb.flatMap (fun x : Int=>[Value.int .u8 x])⟩)::(1001,⟨mapV Ao0_1,100,2,o0.fplaces.length,o0.fplaces.flatMap (mcell (fun x : ByteArray=>Value.string x) (fun x : Int=>Value.int .i64 x))⟩)::R,φ⟩):=by
 unfold m_pack_Packer_Bytes at hm
 refine cn_intro (fn:=Try.f45) (N:=10) Try.func45 rfl Try.ntmps45 rfl<|c_seq<|c_region<|g_v rfl r_assign<|g_nil<|d_then<|c_seq<|c_seq<|c_region<|g_v rfl r_move ?_
 refine g_v rfl (r_eqlP1 Try.underlying74 rfl rfl)<|g_nil<|d_then<|c_cond0 rfl rfl<|c_skip<|d_then<|c_seq<|c_region<|g_v rfl r_move<|g_v rfl (r_nilck rfl) ?_
 refine g_v rfl (r_field (n:=0) Try.underlying102 rfl Try.sizeOf79 rfl rfl)<|g_v rfl (r_load (tag:=1000) rfl rfl rfl Try.isAgg79)<|g_v rfl (r_textE Try.underlying79 Try.underlying5 Try.underlying9 rfl (fun W hS=>rowCl (tag:=1000) rfl W hS))<|g_v rfl r_assign<|g_nil<|d_then ?_
 refine c_flat [(2,.string (strOfNums o0.fb))] ⟨rfl,trivial⟩ (fun u=>?_)
 refine c_sta ⟨w0,M,(1000,go0,.cells #[.slice Ao0_0 o0.fb.length co0_0,mapV Ao0_1] 102 (0,0))::H,(1000,⟨.slice Ao0_0 o0.fb.length co0_0,5,1,o0.fb.length,o0.fb.flatMap (fun x : Int=>[Value.int .u8 x])⟩)::(1001,⟨mapV Ao0_1,100,2,o0.fplaces.length,o0.fplaces.flatMap (mcell (fun x : ByteArray=>Value.string x) (fun x : Int=>Value.int .i64 x))⟩)::R,φ⟩ (fun _ h=>h)<|c_ret ?_
 cases hm
 exact d_retC () Try.results45 (res_tmp (res_nil rfl)) trivial (fun W h=>h.phi (fun W hφ=>hφ)) (.inr rfl)
noncomputable def m_conf_Bytes_k1_j2 (p0_fName : ByteArray) (p0_fText : ByteArray) (p0_fZone : ByteArray) (x5 : Gpack_Packer) (l60 : List Int) : Option (ByteArray×Int):=
  (sadd p0_fName p0_fText).bind fun s63=>
  (sadd s63 p0_fZone).bind fun s64=>
  (m_pack_Packer_Raw s64 (⟨l60,x5.fplaces⟩ : Gpack_Packer)).bind fun x65=>
  (m_pack_Packer_Bytes (⟨x65.fb,x5.fplaces⟩ : Gpack_Packer)).bind fun x70=>
  some (x70,0)
noncomputable def m_conf_Bytes_k1_s3 (p0_fHints : List ByteArray) (x5 : Gpack_Packer) (l86 : List Int) (i89 : Int) : Option (((List Int)×Int) ⊕ (List Int)):=
  if i89 < (p0_fHints.length : Int) then
    (at_ p0_fHints i89).bind fun x106=>
    (m_pack_Packer_Raw x106 (⟨l86,x5.fplaces⟩ : Gpack_Packer)).bind fun x110=>
    some (.inl (x110.fb,w64 (i89 + 1)))
  else
    some (.inr l86)
noncomputable def m_conf_Bytes_k1_j1 (p0_fHints : List ByteArray) (x5 : Gpack_Packer) (p0_fName : ByteArray) (p0_fText : ByteArray) (p0_fZone : ByteArray) (l24 : List Int) : Option (ByteArray×Int):=
  (loop (fun s=>m_conf_Bytes_k1_s3 p0_fHints x5 s.1 s.2) (l24,0)).bind fun e=>m_conf_Bytes_k1_j2 p0_fName p0_fText p0_fZone x5 e
noncomputable def m_conf_Bytes_k1 (p0_fNode : Int) (p0_fName : ByteArray) (p0_fText : ByteArray) (p0_fZone : ByteArray) (p0_fHints : List ByteArray) : Option (ByteArray×Int):=
  (m_conf_Check_k1 p0_fNode p0_fName p0_fText p0_fZone p0_fHints).bind fun x2=>
  if x2 ≠ 0 then
    some ((⟨#[]⟩ : ByteArray),x2)
  else
    (m_pack_New).bind fun x5=>
    (m_pack_Packer_Byte 1 x5).bind fun x14=>
    (m_pack_Packer_Byte (IntKind.u8.wrap p0_fNode) (⟨x14.fb,x5.fplaces⟩ : Gpack_Packer)).bind fun x116=>
    m_conf_Bytes_k1_j1 p0_fHints x5 p0_fName p0_fText p0_fZone x116.fb
theorem c_conf_Bytes_k1 {w0 : World} {M : Nat→Prop} {H : List (Nat×Nat×Obj)} {R : List (Nat×Row)} {φ : World→Prop} (p0_fNode : Int) (p0_fName : ByteArray) (p0_fText : ByteArray) (p0_fZone : ByteArray) (p0_fHints : List ByteArray) (Ap0_fHints_0 : Option Addr) (cp0_fHints_0 : Nat) (hcp0_fHints_0 : p0_fHints.length ≤ cp0_fHints_0) (fp0_fHints_0 : ∀ W,(Sta.mk w0 M H R φ).ok W→Cl W Ap0_fHints_0 (p0_fHints.flatMap (fun x : ByteArray=>[Value.string x]))) (r : ByteArray×Int) (hm : m_conf_Bytes_k1 p0_fNode p0_fName p0_fText p0_fZone p0_fHints = some r) :
    Cn Try.prog 15 #[.agg #[.int .i64 1,.int .i64 p0_fNode,.string p0_fName,.string p0_fText,.string p0_fZone,.slice Ap0_fHints_0 p0_fHints.length cp0_fHints_0]] ⟨w0,M,H,R,φ⟩ (fun x : Unit=>.tuple #[.string r.1,.int .i64 r.2]) (fun x=>True) (fun x=>⟨w0,M,H,R,φ⟩):=by
 unfold m_conf_Bytes_k1 at hm
 refine cn_intro (fn:=Try.f15) (N:=55) Try.func15 rfl Try.ntmps15 rfl<|c_seq<|c_region ?_
 refine g_e rfl (e_box 100010 rfl) (fun g1 _=>?_)
 refine g_v rfl r_assign<|g_v rfl r_assign<|g_nil<|d_then<|c_seq<|c_region<|g_v rfl (r_loadA (tag:=100010) rfl rfl Try.isAgg35 Try.sizeOf35 rfl rfl) ?_
 replace hm:=bnd hm
 obtain ⟨x2,hx3,hm⟩:=hm
 refine g_cn ⟨w0,M,_,_,φ⟩ (fun _ h=>h) Try.call20 rfl rfl (c_conf_Check_k1 p0_fNode p0_fName p0_fText p0_fZone p0_fHints Ap0_fHints_0 cp0_fHints_0 hcp0_fHints_0 (fun W hS=>fp0_fHints_0 W (ok_pre (H1:=[_]) (R1:=[]) hS (fun W h=>h))) _ hx3) (fun _ _=>?_)
 refine g_v rfl r_assign<|g_nil<|d_then<|c_seq<|c_seq<|c_region<|g_v rfl r_move<|g_v rfl (r_neq rfl rfl)<|g_nil<|d_then ?_
 refine c_sta ⟨w0,M,(100010,g1,.cells #[.int .i64 1,.int .i64 p0_fNode,.string p0_fName,.string p0_fText,.string p0_fZone,.slice Ap0_fHints_0 p0_fHints.length cp0_fHints_0] 35 (0,0))::H,R,φ⟩ (fun _ h=>h) ?_
 refine c_cond rfl (fun h4=>?_) (fun h4=>?_)
 ·
  replace hm:=ite_t hm (of_decide_eq_true h4)
  refine c_seq<|c_region<|g_v rfl r_move<|g_v rfl r_assign<|g_v rfl r_assign<|g_nil<|d_then ?_
  refine c_flat [(2,.string (⟨#[]⟩ : ByteArray)),(3,.int .i64 x2)] ⟨rfl,rfl,trivial⟩ (fun u=>?_)
  refine c_ret<|d_ret_then ?_
  cases hm
  exact d_retC () Try.results15 (res_tmp (res_tmp (res_nil rfl))) trivial (fun W h=>ok_pre (H1:=[_]) (R1:=[]) h (fun W hφ=>hφ)) (.inr rfl)
 replace hm:=ite_f hm (of_decide_eq_false h4)
 refine c_skip<|d_then<|c_seq<|c_region ?_
 replace hm:=bnd hm
 obtain ⟨x5,hx6,hm⟩:=hm
 refine g_cn ⟨w0,M,_,_,φ⟩ (fun _ h=>h) Try.call42 rfl rfl (c_pack_New  _ hx6) (fun ⟨A7,c8,A10,c11,g13⟩ ⟨hc8,hc11⟩=>?_)
 refine g_sta _ (fun W h=>(ok_frontR (t:=2000) (t':=100130) (ok_frontR (t:=2001) (t':=100131) (ok_front (t:=3000) (t':=100135) h rfl) rfl) rfl))<|g_v rfl r_assign<|g_nil<|d_then ?_
 refine c_flat [(1,.pointer (some ⟨g1,0,none⟩)),(5,.pointer (some ⟨g13,0,none⟩))] ⟨rfl,rfl,trivial⟩ (fun u=>?_)
 refine c_sta ⟨w0,M,(100135,g13,.cells #[.slice A7 x5.fb.length c8,mapV A10] 102 (0,0))::(100010,g1,.cells #[.int .i64 1,.int .i64 p0_fNode,.string p0_fName,.string p0_fText,.string p0_fZone,.slice Ap0_fHints_0 p0_fHints.length cp0_fHints_0] 35 (0,0))::H,(100130,⟨.slice A7 x5.fb.length c8,5,1,x5.fb.length,x5.fb.flatMap (fun x : Int=>[Value.int .u8 x])⟩)::(100131,⟨mapV A10,100,2,x5.fplaces.length,x5.fplaces.flatMap (mcell (fun x : ByteArray=>Value.string x) (fun x : Int=>Value.int .i64 x))⟩)::R,φ⟩ (fun _ h=>h)<|c_seq<|c_region<|g_v rfl r_move<|g_v rfl (r_field (n:=0) Try.underlying35 rfl Try.sizeOf3 rfl rfl)<|g_v rfl (r_load (tag:=100010) rfl rfl rfl Try.isAgg3)<|g_v rfl (r_conv Try.underlying3 Try.underlying5 rfl (show IntKind.u8.wrap 1 = 1 by decide)) ?_
 replace hm:=bnd hm
 obtain ⟨x14,hx15,hm⟩:=hm
 refine g_cn ⟨w0,M,(1000,g13,.cells #[.slice A7 x5.fb.length c8,mapV A10] 102 (0,0))::(100010,g1,.cells #[.int .i64 1,.int .i64 p0_fNode,.string p0_fName,.string p0_fText,.string p0_fZone,.slice Ap0_fHints_0 p0_fHints.length cp0_fHints_0] 35 (0,0))::H,(1000,⟨.slice A7 x5.fb.length c8,5,1,x5.fb.length,x5.fb.flatMap (fun x : Int=>[Value.int .u8 x])⟩)::(1001,⟨mapV A10,100,2,x5.fplaces.length,x5.fplaces.flatMap (mcell (fun x : ByteArray=>Value.string x) (fun x : Int=>Value.int .i64 x))⟩)::R,φ⟩ (fun W h=>(ok_front (t:=100135) (t':=1000) (ok_frontR (t:=100130) (t':=1000) (ok_frontR (t:=100131) (t':=1001) h rfl) rfl) rfl)) Try.call43 rfl rfl (c_pack_Packer_Byte 1 g13 x5 A7 c8 hc8 A10 c11 trivial _ hx15) (fun ⟨A16,c17⟩ hc17=>?_)
 refine g_sta _ (fun W h=>(ok_frontR (t:=2000) (t':=100130) (ok_frontR (t:=1001) (t':=100131) (ok_front (t:=1000) (t':=100135) h rfl) rfl) rfl))<|g_nil<|d_then<|c_seq ?_
 refine c_cut (ι:=(List Int)×Option Addr×Nat) [1,5] (fun ⟨l24,A25,c26⟩=>[]) (fun ⟨l24,A25,c26⟩=>⟨w0,M,(100135,g13,.cells #[.slice A25 l24.length c26,mapV A10] 102 (0,0))::(100010,g1,.cells #[.int .i64 1,.int .i64 p0_fNode,.string p0_fName,.string p0_fText,.string p0_fZone,.slice Ap0_fHints_0 p0_fHints.length cp0_fHints_0] 35 (0,0))::H,(100130,⟨.slice A25 l24.length c26,5,1,l24.length,l24.flatMap (fun x : Int=>[Value.int .u8 x])⟩)::(100131,⟨mapV A10,100,2,x5.fplaces.length,x5.fplaces.flatMap (mcell (fun x : ByteArray=>Value.string x) (fun x : Int=>Value.int .i64 x))⟩)::R,φ⟩) (fun ⟨l24,A25,c26⟩=>m_conf_Bytes_k1_j1 p0_fHints x5 p0_fName p0_fText p0_fZone l24 = some r∧l24.length ≤ c26) ?_ (fun ⟨l24,A25,c26⟩ u ⟨hm,hc26⟩=>?_)
 ·
  refine c_seq<|c_region<|g_v rfl (r_field (n:=0) Try.underlying35 rfl Try.sizeOf3 rfl rfl)<|g_v rfl (r_load (tag:=100010) rfl rfl rfl Try.isAgg3)<|g_v rfl (r_eql rfl rfl)<|g_v rfl r_move ?_
  iterate 3 refine g_no rfl rfl rfl rfl rfl (by decide) ?_
  refine g_v rfl (r_pick1 rfl (by decide))<|g_nil<|d_then ?_
  refine c_flat [(1,.pointer (some ⟨g1,0,none⟩)),(5,.pointer (some ⟨g13,0,none⟩)),(26,.bool true)] ⟨rfl,rfl,rfl,trivial⟩ (fun u=>?_)
  refine c_sta ⟨w0,M,(100135,g13,.cells #[.slice A16 x14.fb.length c17,mapV A10] 102 (0,0))::(100010,g1,.cells #[.int .i64 1,.int .i64 p0_fNode,.string p0_fName,.string p0_fText,.string p0_fZone,.slice Ap0_fHints_0 p0_fHints.length cp0_fHints_0] 35 (0,0))::H,(100130,⟨.slice A16 x14.fb.length c17,5,1,x14.fb.length,x14.fb.flatMap (fun x : Int=>[Value.int .u8 x])⟩)::(100131,⟨mapV A10,100,2,x5.fplaces.length,x5.fplaces.flatMap (mcell (fun x : ByteArray=>Value.string x) (fun x : Int=>Value.int .i64 x))⟩)::R,φ⟩ (fun _ h=>h)<|c_cond1 rfl rfl<|c_region<|g_v rfl r_move<|g_v rfl (r_field (n:=1) Try.underlying35 rfl Try.sizeOf3 rfl rfl)<|g_v rfl (r_load (tag:=100010) rfl rfl rfl Try.isAgg3)<|g_v rfl (r_conv Try.underlying3 Try.underlying5 rfl rfl) ?_
  replace hm:=bnd hm
  obtain ⟨x116,hx117,hm⟩:=hm
  refine g_cn ⟨w0,M,(1000,g13,.cells #[.slice A16 x14.fb.length c17,mapV A10] 102 (0,0))::(100010,g1,.cells #[.int .i64 1,.int .i64 p0_fNode,.string p0_fName,.string p0_fText,.string p0_fZone,.slice Ap0_fHints_0 p0_fHints.length cp0_fHints_0] 35 (0,0))::H,(1000,⟨.slice A16 x14.fb.length c17,5,1,x14.fb.length,x14.fb.flatMap (fun x : Int=>[Value.int .u8 x])⟩)::(1001,⟨mapV A10,100,2,x5.fplaces.length,x5.fplaces.flatMap (mcell (fun x : ByteArray=>Value.string x) (fun x : Int=>Value.int .i64 x))⟩)::R,φ⟩ (fun W h=>(ok_front (t:=100135) (t':=1000) (ok_frontR (t:=100130) (t':=1000) (ok_frontR (t:=100131) (t':=1001) h rfl) rfl) rfl)) Try.call43 rfl rfl (c_pack_Packer_Byte (IntKind.u8.wrap p0_fNode) g13 (⟨x14.fb,x5.fplaces⟩ : Gpack_Packer) A16 c17 hc17 A10 c11 trivial _ hx117) (fun ⟨A118,c119⟩ hc119=>?_)
  refine g_sta _ (fun W h=>(ok_frontR (t:=2000) (t':=100130) (ok_frontR (t:=1001) (t':=100131) (ok_front (t:=1000) (t':=100135) h rfl) rfl) rfl))<|g_nil ?_
  exact d_round (x116.fb,A118,c119) ⟨hm,hc119⟩ Nat.zero_lt_one ⟨rfl,rfl,trivial⟩ (fun W h=>h.phi (fun W hφ=>hφ))
 unfold m_conf_Bytes_k1_j1 at hm
 refine d_flat [(1,.pointer (some ⟨g1,0,none⟩)),(5,.pointer (some ⟨g13,0,none⟩))] ⟨rfl,rfl,trivial⟩ (fun u=>?_)
 refine d_sta ⟨w0,M,(100135,g13,.cells #[.slice A25 l24.length c26,mapV A10] 102 (0,0))::(100010,g1,.cells #[.int .i64 1,.int .i64 p0_fNode,.string p0_fName,.string p0_fText,.string p0_fZone,.slice Ap0_fHints_0 p0_fHints.length cp0_fHints_0] 35 (0,0))::H,(100130,⟨.slice A25 l24.length c26,5,1,l24.length,l24.flatMap (fun x : Int=>[Value.int .u8 x])⟩)::(100131,⟨mapV A10,100,2,x5.fplaces.length,x5.fplaces.flatMap (mcell (fun x : ByteArray=>Value.string x) (fun x : Int=>Value.int .i64 x))⟩)::R,φ⟩ (fun _ h=>h)<|d_then<|c_seq<|c_seq<|c_region<|g_v rfl (r_field (n:=5) Try.underlying35 rfl Try.sizeOf22 rfl rfl)<|g_v rfl (r_load (tag:=100010) rfl rfl rfl Try.isAgg22)<|g_v rfl (r_lenL Try.underlying22 rfl)<|g_v rfl r_move<|g_nil ?_
 refine d_then ?_
 refine c_cut (ι:=(List Int)×Option Addr×Nat) [1,5] (fun ⟨l60,A61,c62⟩=>[]) (fun ⟨l60,A61,c62⟩=>⟨w0,M,(100135,g13,.cells #[.slice A61 l60.length c62,mapV A10] 102 (0,0))::(100010,g1,.cells #[.int .i64 1,.int .i64 p0_fNode,.string p0_fName,.string p0_fText,.string p0_fZone,.slice Ap0_fHints_0 p0_fHints.length cp0_fHints_0] 35 (0,0))::H,(100130,⟨.slice A61 l60.length c62,5,1,l60.length,l60.flatMap (fun x : Int=>[Value.int .u8 x])⟩)::(100131,⟨mapV A10,100,2,x5.fplaces.length,x5.fplaces.flatMap (mcell (fun x : ByteArray=>Value.string x) (fun x : Int=>Value.int .i64 x))⟩)::R,φ⟩) (fun ⟨l60,A61,c62⟩=>m_conf_Bytes_k1_j2 p0_fName p0_fText p0_fZone x5 l60 = some r∧l60.length ≤ c62) ?_ (fun ⟨l60,A61,c62⟩ u ⟨hm,hc62⟩=>?_)
 ·
  refine c_block ?_
  replace hm:=bnd hm
  obtain ⟨out3,hl3,hr3⟩:=hm
  obtain ⟨n104',hl3⟩:=loop_lp hl3
  refine c_loopU (ι:=Nat×(List Int)×Int×Option Addr×Nat) [1,5,33,34,35] (fun ⟨n104,l86,i89,A87,c88⟩=>[(35,.int .i64 i89)]) (fun ⟨n104,l86,i89,A87,c88⟩=>⟨w0,M,(100135,g13,.cells #[.slice A87 l86.length c88,mapV A10] 102 (0,0))::(100010,g1,.cells #[.int .i64 1,.int .i64 p0_fNode,.string p0_fName,.string p0_fText,.string p0_fZone,.slice Ap0_fHints_0 p0_fHints.length cp0_fHints_0] 35 (0,0))::H,(100130,⟨.slice A87 l86.length c88,5,1,l86.length,l86.flatMap (fun x : Int=>[Value.int .u8 x])⟩)::(100131,⟨mapV A10,100,2,x5.fplaces.length,x5.fplaces.flatMap (mcell (fun x : ByteArray=>Value.string x) (fun x : Int=>Value.int .i64 x))⟩)::R,φ⟩) (fun ⟨n104,l86,i89,A87,c88⟩=>Lp (fun s=>m_conf_Bytes_k1_s3 p0_fHints x5 s.1 s.2) n104 (l86,i89) out3∧l86.length ≤ c88) (fun ⟨n104,l86,i89,A87,c88⟩=>n104) (n104',l24,0,A25,c26) ⟨hl3,hc26⟩ ⟨rfl,rfl,rfl,rfl,rfl,trivial⟩ (fun W h=>h.phi (fun W hφ=>hφ)) (fun ⟨n104,l86,i89,A87,c88⟩ u ⟨hlp,hc88⟩=>?_)
  obtain ⟨o3,hm,hnx3⟩:=lp_step hlp
  clear hlp
  replace hm : m_conf_Bytes_k1_s3 p0_fHints x5 l86 i89 = some o3:=hm
  unfold m_conf_Bytes_k1_s3 at hm
  refine c_flat [(1,.pointer (some ⟨g1,0,none⟩)),(5,.pointer (some ⟨g13,0,none⟩)),(33,.slice Ap0_fHints_0 p0_fHints.length cp0_fHints_0),(34,.int .i64 (p0_fHints.length : Int)),(35,.int .i64 i89)] ⟨rfl,rfl,rfl,rfl,rfl,trivial⟩ (fun u=>?_)
  refine c_sta ⟨w0,M,(100135,g13,.cells #[.slice A87 l86.length c88,mapV A10] 102 (0,0))::(100010,g1,.cells #[.int .i64 1,.int .i64 p0_fNode,.string p0_fName,.string p0_fText,.string p0_fZone,.slice Ap0_fHints_0 p0_fHints.length cp0_fHints_0] 35 (0,0))::H,(100130,⟨.slice A87 l86.length c88,5,1,l86.length,l86.flatMap (fun x : Int=>[Value.int .u8 x])⟩)::(100131,⟨mapV A10,100,2,x5.fplaces.length,x5.fplaces.flatMap (mcell (fun x : ByteArray=>Value.string x) (fun x : Int=>Value.int .i64 x))⟩)::R,φ⟩ (fun _ h=>h)<|c_seq<|c_region<|g_v rfl (r_lss rfl rfl)<|g_nil<|d_then<|c_seq ?_
  refine c_cond rfl (fun h105=>?_) (fun h105=>?_)
  ·
   replace hm:=ite_t hm (of_decide_eq_true h105)
   refine c_skip<|d_then<|c_seq<|c_block<|c_seq<|c_region ?_
   replace hm:=bnd hm
   obtain ⟨x106,hx106,hm⟩:=hm
   refine g_know _ (fun W hS=>cl_at (p:=(Sta.mk w0 M H R φ).ok) (sz:=1) (fun _=>rfl) (by decide) (ok_pre (H1:=[_,_]) (R1:=[_,_]) hS (fun W h=>h)) fp0_fHints_0 hx106) ?_
   rintro ⟨ad107,hA109,f108⟩
   refine g_v rfl (r_ix Try.underlying22 Try.sizeOf9 rfl hA109 rfl hx106)<|g_v rfl (r_ld rfl Try.isAgg9 (fun W hS=>Cl.head (f108 W (ok_pre (H1:=[_,_]) (R1:=[_,_]) hS (fun W h=>h)))))<|g_v rfl r_assign<|g_nil<|d_then<|c_region<|g_v rfl r_move<|g_v rfl r_move ?_
   replace hm:=bnd hm
   obtain ⟨x110,hx111,hm⟩:=hm
   refine g_cn ⟨w0,M,(1000,g13,.cells #[.slice A87 l86.length c88,mapV A10] 102 (0,0))::(100010,g1,.cells #[.int .i64 1,.int .i64 p0_fNode,.string p0_fName,.string p0_fText,.string p0_fZone,.slice Ap0_fHints_0 p0_fHints.length cp0_fHints_0] 35 (0,0))::H,(1000,⟨.slice A87 l86.length c88,5,1,l86.length,l86.flatMap (fun x : Int=>[Value.int .u8 x])⟩)::(1001,⟨mapV A10,100,2,x5.fplaces.length,x5.fplaces.flatMap (mcell (fun x : ByteArray=>Value.string x) (fun x : Int=>Value.int .i64 x))⟩)::R,φ⟩ (fun W h=>(ok_front (t:=100135) (t':=1000) (ok_frontR (t:=100130) (t':=1000) (ok_frontR (t:=100131) (t':=1001) h rfl) rfl) rfl)) Try.call44 rfl rfl (c_pack_Packer_Raw x106 g13 (⟨l86,x5.fplaces⟩ : Gpack_Packer) A87 c88 hc88 A10 c11 trivial _ hx111) (fun ⟨A112,c113⟩ hc113=>?_)
   refine g_sta _ (fun W h=>(ok_frontR (t:=2000) (t':=100130) (ok_frontR (t:=1001) (t':=100131) (ok_front (t:=1000) (t':=100135) h rfl) rfl) rfl))<|g_nil<|d_normal_block<|d_then<|c_region<|g_v rfl (r_add rfl rfl rfl)<|g_v rfl r_move<|g_nil ?_
   obtain ⟨n115,hn115,hlp⟩:=nx_inl hm hnx3
   exact d_round (n115,x110.fb,w64 (i89 + 1),A112,c113) ⟨hlp,hc113⟩ hn115 ⟨rfl,rfl,rfl,rfl,rfl,trivial⟩ (fun W h=>h.phi (fun W hφ=>hφ))
  replace hm:=ite_f hm (of_decide_eq_false h105)
  refine c_exit<|d_exit_then<|d_exit_then<|d_exit_block ?_
  replace hm:=nx_out (C:=(fun e : (List Int)=>m_conf_Bytes_k1_j2 p0_fName p0_fText p0_fZone x5 e = some r)) hm hnx3 hr3
  exact d_round (l86,A87,c88) ⟨hm,hc88⟩ Nat.zero_lt_one ⟨rfl,rfl,trivial⟩ (fun W h=>h.phi (fun W hφ=>hφ))
 unfold m_conf_Bytes_k1_j2 at hm
 refine d_flat [(1,.pointer (some ⟨g1,0,none⟩)),(5,.pointer (some ⟨g13,0,none⟩))] ⟨rfl,rfl,trivial⟩ (fun u=>?_)
 refine d_sta ⟨w0,M,(100135,g13,.cells #[.slice A61 l60.length c62,mapV A10] 102 (0,0))::(100010,g1,.cells #[.int .i64 1,.int .i64 p0_fNode,.string p0_fName,.string p0_fText,.string p0_fZone,.slice Ap0_fHints_0 p0_fHints.length cp0_fHints_0] 35 (0,0))::H,(100130,⟨.slice A61 l60.length c62,5,1,l60.length,l60.flatMap (fun x : Int=>[Value.int .u8 x])⟩)::(100131,⟨mapV A10,100,2,x5.fplaces.length,x5.fplaces.flatMap (mcell (fun x : ByteArray=>Value.string x) (fun x : Int=>Value.int .i64 x))⟩)::R,φ⟩ (fun _ h=>h)<|d_then<|c_seq<|c_region<|g_v rfl r_move<|g_v rfl (r_field (n:=2) Try.underlying35 rfl Try.sizeOf9 rfl rfl)<|g_v rfl (r_load (tag:=100010) rfl rfl rfl Try.isAgg9)<|g_v rfl (r_field (n:=3) Try.underlying35 rfl Try.sizeOf9 rfl rfl)<|g_v rfl (r_load (tag:=100010) rfl rfl rfl Try.isAgg9) ?_
 replace hm:=bnd hm
 obtain ⟨s63,hs63,hm⟩:=hm
 refine g_v rfl (r_addT rfl rfl hs63)<|g_v rfl (r_field (n:=4) Try.underlying35 rfl Try.sizeOf9 rfl rfl)<|g_v rfl (r_load (tag:=100010) rfl rfl rfl Try.isAgg9) ?_
 replace hm:=bnd hm
 obtain ⟨s64,hs64,hm⟩:=hm
 refine g_v rfl (r_addT rfl rfl hs64) ?_
 replace hm:=bnd hm
 obtain ⟨x65,hx66,hm⟩:=hm
 refine g_cn ⟨w0,M,(1000,g13,.cells #[.slice A61 l60.length c62,mapV A10] 102 (0,0))::(100010,g1,.cells #[.int .i64 1,.int .i64 p0_fNode,.string p0_fName,.string p0_fText,.string p0_fZone,.slice Ap0_fHints_0 p0_fHints.length cp0_fHints_0] 35 (0,0))::H,(1000,⟨.slice A61 l60.length c62,5,1,l60.length,l60.flatMap (fun x : Int=>[Value.int .u8 x])⟩)::(1001,⟨mapV A10,100,2,x5.fplaces.length,x5.fplaces.flatMap (mcell (fun x : ByteArray=>Value.string x) (fun x : Int=>Value.int .i64 x))⟩)::R,φ⟩ (fun W h=>(ok_front (t:=100135) (t':=1000) (ok_frontR (t:=100130) (t':=1000) (ok_frontR (t:=100131) (t':=1001) h rfl) rfl) rfl)) Try.call44 rfl rfl (c_pack_Packer_Raw s64 g13 (⟨l60,x5.fplaces⟩ : Gpack_Packer) A61 c62 hc62 A10 c11 trivial _ hx66) (fun ⟨A67,c68⟩ hc68=>?_)
 refine g_sta _ (fun W h=>(ok_frontR (t:=2000) (t':=100130) (ok_frontR (t:=1001) (t':=100131) (ok_front (t:=1000) (t':=100135) h rfl) rfl) rfl))<|g_nil<|d_then ?_
 refine c_flat [(5,.pointer (some ⟨g13,0,none⟩))] ⟨rfl,trivial⟩ (fun u=>?_)
 refine c_sta ⟨w0,M,(100135,g13,.cells #[.slice A67 x65.fb.length c68,mapV A10] 102 (0,0))::(100010,g1,.cells #[.int .i64 1,.int .i64 p0_fNode,.string p0_fName,.string p0_fText,.string p0_fZone,.slice Ap0_fHints_0 p0_fHints.length cp0_fHints_0] 35 (0,0))::H,(100130,⟨.slice A67 x65.fb.length c68,5,1,x65.fb.length,x65.fb.flatMap (fun x : Int=>[Value.int .u8 x])⟩)::(100131,⟨mapV A10,100,2,x5.fplaces.length,x5.fplaces.flatMap (mcell (fun x : ByteArray=>Value.string x) (fun x : Int=>Value.int .i64 x))⟩)::R,φ⟩ (fun _ h=>h)<|c_seq<|c_region<|g_v rfl r_move ?_
 replace hm:=bnd hm
 obtain ⟨x70,hx71,hm⟩:=hm
 refine g_cn ⟨w0,M,(1000,g13,.cells #[.slice A67 x65.fb.length c68,mapV A10] 102 (0,0))::(100010,g1,.cells #[.int .i64 1,.int .i64 p0_fNode,.string p0_fName,.string p0_fText,.string p0_fZone,.slice Ap0_fHints_0 p0_fHints.length cp0_fHints_0] 35 (0,0))::H,(1000,⟨.slice A67 x65.fb.length c68,5,1,x65.fb.length,x65.fb.flatMap (fun x : Int=>[Value.int .u8 x])⟩)::(1001,⟨mapV A10,100,2,x5.fplaces.length,x5.fplaces.flatMap (mcell (fun x : ByteArray=>Value.string x) (fun x : Int=>Value.int .i64 x))⟩)::R,φ⟩ (fun W h=>(ok_front (t:=100135) (t':=1000) (ok_frontR (t:=100130) (t':=1000) (ok_frontR (t:=100131) (t':=1001) h rfl) rfl) rfl)) Try.call45 rfl rfl (c_pack_Packer_Bytes g13 (⟨x65.fb,x5.fplaces⟩ : Gpack_Packer) A67 c68 hc68 A10 c11 trivial _ hx71) (fun _ _=>?_)
 refine g_sta _ (fun W h=>(ok_frontR (t:=1000) (t':=100130) (ok_frontR (t:=1001) (t':=100131) (ok_front (t:=1000) (t':=100135) h rfl) rfl) rfl))<|g_v rfl r_assign<|g_v rfl r_assign<|g_nil<|d_then<|c_ret ?_
 cases hm
 exact d_retC () Try.results15 (res_tmp (res_tmp (res_nil rfl))) trivial (fun W h=>ok_pre (H1:=[_,_]) (R1:=[_,_]) h (fun W hφ=>hφ)) (.inr rfl)
theorem bld35_5 (z0 : Int) (z1 : ByteArray) : ∀ W,(Instr.build 35 #[(0,.int .i64 z0),(4,.string z1)]).run Try.prog W = .ok (.agg #[.int .i64 z0,.int .i64 0,.string (⟨#[]⟩ : ByteArray),.string (⟨#[]⟩ : ByteArray),.string z1,.slice none 0 0]) W:=fun _=>by kernel_rfl
theorem lit9_6 (z0 : ByteArray) : Try.prog.builtSlice 9 1 [(0,.string z0)] = some #[.string z0]:=by kernel_rfl
theorem inf9_7  : (Try.prog.info? 9).map (fun i=>(i.zero,i.size,i.bytes)) = some (some (.string (⟨#[]⟩ : ByteArray)),1,16):=by kernel_rfl
noncomputable def m_name_Labels (p0 : ByteArray) : Option ((List ByteArray)×Int):=
  (eachM p0).bind fun _=>
  if (eachP p0).2 ≠ w64 ((p0.size : Int) - 1) then
    some (([] : List ByteArray),10)
  else
    if (eachP p0).2 < 0 then
      some (([] : List ByteArray),10)
    else
      if 255 < (p0.size : Int) then
        some (([] : List ByteArray),11)
      else
        some (((eachP p0).1.map Prod.snd),0)
theorem c_name_Labels {w0 : World} {M : Nat→Prop} {H : List (Nat×Nat×Obj)} {R : List (Nat×Row)} {φ : World→Prop} (p0 : ByteArray) (r : (List ByteArray)×Int) (hm : m_name_Labels p0 = some r) :
    Cn Try.prog 77 #[.string p0] ⟨w0,M,H,R,φ⟩ (fun x : Option Addr×Nat=>.tuple #[.slice x.1 r.1.length x.2,.int .i64 r.2]) (fun x=>r.1.length ≤ x.2) (fun x=>⟨w0,M,H,(2000,⟨.slice x.1 r.1.length x.2,9,1,r.1.length,r.1.flatMap (fun x : ByteArray=>[Value.string x])⟩)::R,φ⟩):=by
 unfold m_name_Labels at hm
 refine cn_introM (fn:=Try.f77) (N:=31) Try.func77 rfl Try.ntmps77 rfl<|c_seq<|c_region<|g_v rfl r_assign<|g_v rfl r_assign<|g_nil<|d_then<|c_seq<|c_region ?_
 refine g_e rfl (e_alloc 100040 Try.zeroValue22) (fun g1 _=>?_)
 refine g_nil<|d_then<|c_seq<|c_region ?_
 refine g_e rfl (e_alloc 100050 Try.zeroValue3) (fun g2 _=>?_)
 refine g_storeL (tag:=100050) rfl rfl rfl rfl Try.sizeOf3 rfl rfl<|g_nil<|d_then<|c_seq<|c_seq<|c_region<|g_v rfl r_move ?_
 refine g_cn ⟨w0,M,_,_,φ⟩ (fun _ h=>h) Try.call92 rfl rfl (c_each p0 g2) (fun ⟨g3,g4⟩ _=>?_)
 refine g_sta _ (fun W h=>ok_front (t:=3000) (t':=100095) (ok_front (t:=3001) (t':=100096) h rfl) rfl)<|g_nil<|d_then<|c_block<|c_sta _ (fun W h=>nilR (ok_front (t:=100050) (t':=0) (ok_front (t:=100095) (t':=1) (ok_front (t:=100096) (t':=2) (ok_front (t:=100040) (t':=3) h rfl) rfl) rfl) rfl) 4 9 1) ?_
 replace hm:=bnd hm
 obtain ⟨_,hz8,hm⟩:=hm
 replace hz8:=(eachM_some hz8).1
 refine c_collect Prod.snd (fun x : ByteArray=>Value.string x) rfl rfl hz8 (.inl rfl) (.inl ⟨rfl,fun _=>rfl⟩) Try.underlying22 inf9_7 rfl (by decide) (by decide) (fun _=>lit9_6 _) (fun _=>rfl) Try.sizeOf22 Try.isAgg22 rfl rfl rfl (fun A6 c7 g5 hc7=>?_)
 refine d_sta _ (fun W h=>(ok_front (t:=0) (t':=100050) (ok_front (t:=1) (t':=100095) (ok_front (t:=2) (t':=100096) (ok_front (t:=3) (t':=100040) h rfl) rfl) rfl) rfl))<|d_normal_block<|d_then<|c_seq<|c_block<|c_seq<|c_region<|g_v rfl (r_load (tag:=100050) rfl rfl rfl Try.isAgg3)<|g_v rfl r_move<|g_v rfl (r_len Try.underlying9 rfl) ?_
 refine g_v rfl (r_sub rfl rfl rfl)<|g_v rfl (r_neq rfl rfl)<|g_v rfl r_move<|g_sta ⟨w0,M,(100050,g2,.cells #[.int .i64 ((eachP p0).2)] 3 (0,0))::(100095,g3,.cells #[.pointer (some ⟨g2,0,none⟩)] 122 (0,0))::(100096,g4,.cells #[.string p0] 9 (0,0))::(100040,g1,.cells #[.slice A6 ((eachP p0).1.map Prod.snd).length c7] 22 (0,0))::(5,g5,.deferred (some []))::H,(4,⟨.slice A6 ((eachP p0).1.map Prod.snd).length c7,9,1,((eachP p0).1.map Prod.snd).length,((eachP p0).1.map Prod.snd).flatMap (fun x : ByteArray=>[Value.string x])⟩)::R,φ⟩ (fun _ h=>h) ?_
 refine g_if rfl rfl rfl rfl rfl (fun h9=>?_) (fun h9=>?_)
 ·
  replace hm:=ite_f hm (of_decide_eq_false h9)
  refine g_v rfl (r_load (tag:=100050) rfl rfl rfl Try.isAgg3)<|g_do rfl rfl rfl rfl rfl h9<|g_v rfl (r_lss rfl rfl)<|g_v rfl (r_pick0 rfl h9)<|g_v rfl r_assign<|g_nil<|d_then ?_
  refine c_flat [(0,.string p0),(4,.pointer (some ⟨g1,0,none⟩)),(16,.bool (decide ((eachP p0).2 < 0)))] ⟨rfl,rfl,rfl,trivial⟩ (fun u=>?_)
  refine c_cond rfl (fun h10=>?_) (fun h10=>?_)
  ·
   replace hm:=ite_t hm (of_decide_eq_true h10)
   refine c_seq<|c_region<|g_v rfl r_assign<|g_v rfl r_assign<|g_nil<|d_then<|c_ret<|d_ret_block<|d_ret_then ?_
   cases hm
   refine d_sta _ (fun W h=>nilR h 11 9 1)<|d_sta _ (fun W h=>ok_frontR (t:=11) (t':=2000) h rfl) ?_
   exact d_retM (tD:=5) (none,0) Try.results77 (res_tmp (res_tmp (res_nil rfl))) (Nat.le_refl 0) rfl (by simp) (fun W h=>(((((h.dropR (t:=4) rfl).dropH (t:=100050) rfl).dropH (t:=100095) rfl).dropH (t:=100096) rfl).dropH (t:=100040) rfl).phi (fun W hφ=>hφ)) (.inr rfl)
  replace hm:=ite_f hm (of_decide_eq_false h10)
  refine c_seq<|c_region<|g_v rfl r_move<|g_v rfl (r_len Try.underlying9 rfl)<|g_v rfl (r_gtr rfl rfl)<|g_v rfl r_assign<|g_nil<|d_then ?_
  refine c_cond rfl (fun h11=>?_) (fun h11=>?_)
  ·
   replace hm:=ite_t hm (of_decide_eq_true h11)
   refine c_seq<|c_region<|g_v rfl r_assign<|g_v rfl r_assign<|g_nil<|d_then<|c_ret<|d_ret_block<|d_ret_then ?_
   cases hm
   refine d_sta _ (fun W h=>nilR h 12 9 1)<|d_sta _ (fun W h=>ok_frontR (t:=12) (t':=2000) h rfl) ?_
   exact d_retM (tD:=5) (none,0) Try.results77 (res_tmp (res_tmp (res_nil rfl))) (Nat.le_refl 0) rfl (by simp) (fun W h=>(((((h.dropR (t:=4) rfl).dropH (t:=100050) rfl).dropH (t:=100095) rfl).dropH (t:=100096) rfl).dropH (t:=100040) rfl).phi (fun W hφ=>hφ)) (.inr rfl)
  replace hm:=ite_f hm (of_decide_eq_false h11)
  refine c_skip<|d_normal_block<|d_then<|c_seq<|c_region<|g_v rfl (r_load (tag:=100040) rfl rfl rfl Try.isAgg22)<|g_v rfl r_assign<|g_v rfl r_assign<|g_nil<|d_then ?_
  refine c_ret ?_
  cases hm
  refine d_sta _ (fun W h=>ok_frontR (t:=4) (t':=2000) h rfl) ?_
  exact d_retM (tD:=5) (A6,c7) Try.results77 (res_tmp (res_tmp (res_nil rfl))) hc7 rfl (by simp) (fun W h=>((((h.dropH (t:=100050) rfl).dropH (t:=100095) rfl).dropH (t:=100096) rfl).dropH (t:=100040) rfl).phi (fun W hφ=>hφ)) (.inr rfl)
 replace hm:=ite_t hm (of_decide_eq_true h9)
 refine g_no rfl rfl rfl rfl rfl h9<|g_v rfl (r_pick1 rfl h9)<|g_v rfl r_assign<|g_nil<|d_then ?_
 refine c_flat [(0,.string p0),(4,.pointer (some ⟨g1,0,none⟩)),(16,.bool true)] ⟨rfl,rfl,rfl,trivial⟩ (fun u=>?_)
 refine c_cond1 rfl rfl<|c_seq<|c_region<|g_v rfl r_assign<|g_v rfl r_assign<|g_nil<|d_then<|c_ret<|d_ret_block<|d_ret_then ?_
 cases hm
 refine d_sta _ (fun W h=>nilR h 13 9 1)<|d_sta _ (fun W h=>ok_frontR (t:=13) (t':=2000) h rfl) ?_
 exact d_retM (tD:=5) (none,0) Try.results77 (res_tmp (res_tmp (res_nil rfl))) (Nat.le_refl 0) rfl (by simp) (fun W h=>(((((h.dropR (t:=4) rfl).dropH (t:=100050) rfl).dropH (t:=100095) rfl).dropH (t:=100096) rfl).dropH (t:=100040) rfl).phi (fun W hφ=>hφ)) (.inr rfl)
noncomputable def m_name_Check (p0 : ByteArray) : Option Int:=
  (m_name_Labels p0).bind fun (z7 : (List ByteArray)×Int)=>
  some z7.2
theorem c_name_Check {w0 : World} {M : Nat→Prop} {H : List (Nat×Nat×Obj)} {R : List (Nat×Row)} {φ : World→Prop} (p0 : ByteArray) (r : Int) (hm : m_name_Check p0 = some r) :
    Cn Try.prog 66 #[.string p0] ⟨w0,M,H,R,φ⟩ (fun x : Unit=>.int .i64 r) (fun x=>True) (fun x=>⟨w0,M,H,R,φ⟩):=by
 unfold m_name_Check at hm
 refine cn_intro (fn:=Try.f66) (N:=11) Try.func66 rfl Try.ntmps66 rfl<|c_seq<|c_region<|g_v rfl r_assign<|g_nil<|d_then<|c_seq<|c_region<|g_v rfl r_move ?_
 replace hm:=bnd hm
 obtain ⟨⟨x1,x2⟩,hx3,hm⟩:=hm
 refine g_cn ⟨w0,M,_,_,φ⟩ (fun _ h=>h) Try.call77 rfl rfl (c_name_Labels p0 _ hx3) (fun ⟨A4,c5⟩ hc5=>?_)
 refine g_sta _ (fun W h=>(ok_frontR (t:=2000) (t':=100070) h rfl))<|g_v rfl r_move<|g_v rfl (r_extract rfl rfl)<|g_v rfl (r_extract rfl rfl)<|g_v rfl r_assign<|g_v rfl r_assign<|g_nil<|d_then<|c_seq<|c_region ?_
 refine g_v rfl r_move<|g_v rfl r_assign<|g_nil<|d_then ?_
 refine c_flat [(2,.int .i64 x2)] ⟨rfl,trivial⟩ (fun u=>?_)
 refine c_sta ⟨w0,M,H,(100070,⟨.slice A4 x1.length c5,9,1,x1.length,x1.flatMap (fun x : ByteArray=>[Value.string x])⟩)::R,φ⟩ (fun _ h=>h)<|c_ret ?_
 cases hm
 exact d_retC () Try.results66 (res_tmp (res_nil rfl)) trivial (fun W h=>ok_pre (H1:=[]) (R1:=[_]) h (fun W hφ=>hφ)) (.inr rfl)
noncomputable def m_conf_named (p0 : ByteArray) : Option Bool:=
  (m_name_Check p0).bind fun x1=>
  some (decide (x1 = 0))
theorem c_conf_named {w0 : World} {M : Nat→Prop} {H : List (Nat×Nat×Obj)} {R : List (Nat×Row)} {φ : World→Prop} (p0 : ByteArray) (r : Bool) (hm : m_conf_named p0 = some r) :
    Cn Try.prog 56 #[.string p0] ⟨w0,M,H,R,φ⟩ (fun x : Unit=>.bool r) (fun x=>True) (fun x=>⟨w0,M,H,R,φ⟩):=by
 unfold m_conf_named at hm
 refine cn_intro (fn:=Try.f56) (N:=6) Try.func56 rfl Try.ntmps56 rfl<|c_seq<|c_region<|g_v rfl r_assign<|g_nil<|d_then<|c_seq<|c_region<|g_v rfl r_move ?_
 replace hm:=bnd hm
 obtain ⟨x1,hx2,hm⟩:=hm
 refine g_cn ⟨w0,M,_,_,φ⟩ (fun _ h=>h) Try.call66 rfl rfl (c_name_Check p0 _ hx2) (fun _ _=>?_)
 refine g_v rfl (r_eql rfl rfl)<|g_v rfl r_assign<|g_nil<|d_then<|c_ret ?_
 cases hm
 exact d_retC () Try.results56 (res_tmp (res_nil rfl)) trivial (fun W h=>ok_pre (H1:=[]) (R1:=[]) h (fun W hφ=>hφ)) (.inr rfl)
theorem lit9_8 (z0 : ByteArray) (z1 : ByteArray) : Try.prog.builtSlice 9 2 [(0,.string z0),(1,.string z1)] = some #[.string z0,.string z1]:=by kernel_rfl
noncomputable def m_conf_Check_k5_j2  (b19 : Bool) : Option Int:=
  if b19 = true then
    some 0
  else
    some 1
noncomputable def m_conf_Check_k5_j3 (p0_fNode : Int) (p0_fName : ByteArray) (p0_fText : ByteArray) (p0_fZone : ByteArray) (p0_fHints : List ByteArray) (b3 : Bool) : Option Int:=
  if 5 = 2 then
    (m_conf_node p0_fNode).bind fun x22=>
    if x22 = true then
      (m_conf_none [p0_fName,p0_fText,p0_fZone]).bind fun x26=>
      if x26 = true then
        m_conf_Check_k5_j2 (decide ((p0_fHints.length : Int) = 0))
      else
        m_conf_Check_k5_j2 false
    else
      m_conf_Check_k5_j2 false
  else
    if b3 = true then
      (m_conf_named p0_fZone).bind fun x30=>
      if x30 = true then
        (m_conf_none [p0_fName,p0_fText]).bind fun x34=>
        m_conf_Check_k5_j2 x34
      else
        m_conf_Check_k5_j2 false
    else
      m_conf_Check_k5_j2 false
noncomputable def m_conf_Check_k5_j1 (p0_fNode : Int) (p0_fName : ByteArray) (p0_fText : ByteArray) (p0_fZone : ByteArray) (p0_fHints : List ByteArray) (b3 : Bool) : Option Int:=
  m_conf_Check_k5_j3 p0_fNode p0_fName p0_fText p0_fZone p0_fHints b3
noncomputable def m_conf_Check_k5 (p0_fNode : Int) (p0_fName : ByteArray) (p0_fText : ByteArray) (p0_fZone : ByteArray) (p0_fHints : List ByteArray) : Option Int:=
  if p0_fNode = 0 then
    m_conf_Check_k5_j1 p0_fNode p0_fName p0_fText p0_fZone p0_fHints (decide ((p0_fHints.length : Int) = 0))
  else
    m_conf_Check_k5_j1 p0_fNode p0_fName p0_fText p0_fZone p0_fHints false
theorem c_conf_Check_k5 {w0 : World} {M : Nat→Prop} {H : List (Nat×Nat×Obj)} {R : List (Nat×Row)} {φ : World→Prop} (p0_fNode : Int) (p0_fName : ByteArray) (p0_fText : ByteArray) (p0_fZone : ByteArray) (p0_fHints : List ByteArray) (Ap0_fHints_0 : Option Addr) (cp0_fHints_0 : Nat) (hcp0_fHints_0 : p0_fHints.length ≤ cp0_fHints_0) (fp0_fHints_0 : ∀ W,(Sta.mk w0 M H R φ).ok W→Cl W Ap0_fHints_0 (p0_fHints.flatMap (fun x : ByteArray=>[Value.string x]))) (r : Int) (hm : m_conf_Check_k5 p0_fNode p0_fName p0_fText p0_fZone p0_fHints = some r) :
    Cn Try.prog 20 #[.agg #[.int .i64 5,.int .i64 p0_fNode,.string p0_fName,.string p0_fText,.string p0_fZone,.slice Ap0_fHints_0 p0_fHints.length cp0_fHints_0]] ⟨w0,M,H,R,φ⟩ (fun x : Unit=>.int .i64 r) (fun x=>True) (fun x=>⟨w0,M,H,R,φ⟩):=by
 unfold m_conf_Check_k5 at hm
 refine cn_intro (fn:=Try.f20) (N:=109) Try.func20 rfl Try.ntmps20 rfl<|c_seq<|c_region ?_
 refine g_e rfl (e_box 100010 rfl) (fun g1 _=>?_)
 refine g_v rfl r_assign<|g_nil<|d_then<|c_seq<|c_region<|g_v rfl r_assign<|g_nil<|d_then<|c_seq ?_
 refine c_cut (ι:=Bool) [1,3,4] (fun b3=>[(4,.bool b3)]) (fun b3=>⟨w0,M,(100010,g1,.cells #[.int .i64 5,.int .i64 p0_fNode,.string p0_fName,.string p0_fText,.string p0_fZone,.slice Ap0_fHints_0 p0_fHints.length cp0_fHints_0] 35 (0,0))::H,R,φ⟩) (fun b3=>m_conf_Check_k5_j1 p0_fNode p0_fName p0_fText p0_fZone p0_fHints b3 = some r) ?_ (fun b3 u hm=>?_)
 ·
  refine c_region<|g_v rfl (r_field (n:=1) Try.underlying35 rfl Try.sizeOf3 rfl rfl)<|g_v rfl (r_load (tag:=100010) rfl rfl rfl Try.isAgg3)<|g_v rfl (r_eql rfl rfl)<|g_v rfl r_move<|g_sta ⟨w0,M,(100010,g1,.cells #[.int .i64 5,.int .i64 p0_fNode,.string p0_fName,.string p0_fText,.string p0_fZone,.slice Ap0_fHints_0 p0_fHints.length cp0_fHints_0] 35 (0,0))::H,R,φ⟩ (fun _ h=>h) ?_
  refine g_if rfl rfl rfl rfl rfl (fun h36=>?_) (fun h36=>?_)
  ·
   replace hm:=ite_t hm (of_decide_eq_true h36)
   refine g_v rfl (r_field (n:=5) Try.underlying35 rfl Try.sizeOf22 rfl rfl)<|g_do rfl rfl rfl rfl rfl h36<|g_v rfl (r_load (tag:=100010) rfl rfl rfl Try.isAgg22)<|g_do rfl rfl rfl rfl rfl h36<|g_v rfl (r_lenL Try.underlying22 rfl)<|g_do rfl rfl rfl rfl rfl h36<|g_v rfl (r_eql rfl rfl)<|g_v rfl (r_pick1 rfl h36)<|g_v rfl r_assign<|g_nil ?_
   exact d_round (decide ((p0_fHints.length : Int) = 0)) hm Nat.zero_lt_one ⟨rfl,rfl,rfl,trivial⟩ (fun W h=>h.phi (fun W hφ=>hφ))
  replace hm:=ite_f hm (of_decide_eq_false h36)
  iterate 3 refine g_no rfl rfl rfl rfl rfl h36 ?_
  refine g_v rfl (r_pick0 rfl h36)<|g_v rfl r_assign<|g_nil ?_
  exact d_round false hm Nat.zero_lt_one ⟨rfl,rfl,rfl,trivial⟩ (fun W h=>h.phi (fun W hφ=>hφ))
 unfold m_conf_Check_k5_j1 at hm
 refine d_flat [(1,.pointer (some ⟨g1,0,none⟩)),(3,.bool false),(4,.bool b3)] ⟨rfl,rfl,rfl,trivial⟩ (fun u=>?_)
 refine d_sta ⟨w0,M,(100010,g1,.cells #[.int .i64 5,.int .i64 p0_fNode,.string p0_fName,.string p0_fText,.string p0_fZone,.slice Ap0_fHints_0 p0_fHints.length cp0_fHints_0] 35 (0,0))::H,R,φ⟩ (fun _ h=>h)<|d_then<|c_seq ?_
 refine c_cut (ι:=Bool) [3] (fun b19=>[(3,.bool b19)]) (fun b19=>⟨w0,M,H,R,φ⟩) (fun b19=>m_conf_Check_k5_j2 b19 = some r) ?_ (fun b19 u hm=>?_)
 ·
  refine c_seq<|c_region<|g_v rfl (r_field (n:=0) Try.underlying35 rfl Try.sizeOf3 rfl rfl)<|g_v rfl (r_load (tag:=100010) rfl rfl rfl Try.isAgg3)<|g_nil<|d_then<|c_block<|c_seq ?_
  refine c_cut (ι:=Unit) [1,3,4,15,16] (fun _=>[(16,.bool (decide (5 = 2)))]) (fun _=>⟨w0,M,(100010,g1,.cells #[.int .i64 5,.int .i64 p0_fNode,.string p0_fName,.string p0_fText,.string p0_fZone,.slice Ap0_fHints_0 p0_fHints.length cp0_fHints_0] 35 (0,0))::H,R,φ⟩) (fun _=>m_conf_Check_k5_j3 p0_fNode p0_fName p0_fText p0_fZone p0_fHints b3 = some r) ?_ (fun _ u hm=>?_)
  ·
   refine c_seq<|c_region<|g_v rfl (r_eql rfl rfl)<|g_v rfl r_assign<|g_nil<|d_then<|c_cond0 rfl (by decide)<|c_region<|g_v rfl (r_eql rfl rfl)<|g_v rfl r_assign ?_
   refine g_nil ?_
   exact d_round () hm Nat.zero_lt_one ⟨rfl,rfl,rfl,rfl,rfl,trivial⟩ (fun W h=>h.phi (fun W hφ=>hφ))
  unfold m_conf_Check_k5_j3 at hm
  refine d_flat [(1,.pointer (some ⟨g1,0,none⟩)),(3,.bool false),(4,.bool b3),(15,.int .i64 5),(16,.bool (decide (5 = 2)))] ⟨rfl,rfl,rfl,rfl,rfl,trivial⟩ (fun u=>?_)
  refine d_then ?_
  refine c_cond rfl (fun h21=>?_) (fun h21=>?_)
  ·
   replace hm:=ite_t hm (of_decide_eq_true h21)
   refine c_region<|g_v rfl (r_field (n:=1) Try.underlying35 rfl Try.sizeOf3 rfl rfl)<|g_v rfl (r_load (tag:=100010) rfl rfl rfl Try.isAgg3) ?_
   replace hm:=bnd hm
   obtain ⟨x22,hx23,hm⟩:=hm
   refine g_cn ⟨w0,M,_,_,φ⟩ (fun _ h=>h) Try.call51 rfl rfl (c_conf_node p0_fNode _ hx23) (fun _ _=>?_)
   refine g_v rfl r_move ?_
   refine g_if rfl rfl rfl rfl rfl (fun h24=>?_) (fun h24=>?_)
   ·
    replace hm:=ite_t hm h24
    refine g_v rfl (r_field (n:=2) Try.underlying35 rfl Try.sizeOf9 rfl rfl)<|g_do rfl rfl rfl rfl rfl h24<|g_v rfl (r_load (tag:=100010) rfl rfl rfl Try.isAgg9)<|g_do rfl rfl rfl rfl rfl h24<|g_v rfl (r_field (n:=3) Try.underlying35 rfl Try.sizeOf9 rfl rfl)<|g_do rfl rfl rfl rfl rfl h24<|g_v rfl (r_load (tag:=100010) rfl rfl rfl Try.isAgg9)<|g_do rfl rfl rfl rfl rfl h24<|g_v rfl (r_field (n:=4) Try.underlying35 rfl Try.sizeOf9 rfl rfl)<|g_do rfl rfl rfl rfl rfl h24 ?_
    refine g_v rfl (r_load (tag:=100010) rfl rfl rfl Try.isAgg9)<|g_do rfl rfl rfl rfl rfl h24 ?_
    refine g_e rfl (e_lit (tag:=100290) (l:=[p0_fName,p0_fText,p0_fZone]) (enc:=(fun x : ByteArray=>[Value.string x])) (sz:=1) rfl Try.underlying22 (lit9_1 _ _ _) rfl rfl (fun _=>rfl)) (fun g25 _=>?_)
    refine g_do rfl rfl rfl rfl rfl h24 ?_
    replace hm:=bnd hm
    obtain ⟨x26,hx27,hm⟩:=hm
    refine g_cn ⟨w0,M,_,_,φ⟩ (fun _ h=>h) Try.call52 rfl rfl (c_conf_none [p0_fName,p0_fText,p0_fZone] (some ⟨g25,0,none⟩) 3 (Nat.le_refl _) (fun W hS=>rowCl (tag:=100290) rfl W hS) _ hx27) (fun _ _=>?_)
    refine g_v rfl (r_pick1 rfl h24)<|g_v rfl r_move<|g_sta ⟨w0,M,(100010,g1,.cells #[.int .i64 5,.int .i64 p0_fNode,.string p0_fName,.string p0_fText,.string p0_fZone,.slice Ap0_fHints_0 p0_fHints.length cp0_fHints_0] 35 (0,0))::H,(100290,⟨.slice (some ⟨g25,0,none⟩) [p0_fName,p0_fText,p0_fZone].length 3,9,1,[p0_fName,p0_fText,p0_fZone].length,[p0_fName,p0_fText,p0_fZone].flatMap (fun x : ByteArray=>[Value.string x])⟩)::R,φ⟩ (fun _ h=>h) ?_
    refine g_if rfl rfl rfl rfl rfl (fun h28=>?_) (fun h28=>?_)
    ·
     replace hm:=ite_t hm h28
     refine g_v rfl (r_field (n:=5) Try.underlying35 rfl Try.sizeOf22 rfl rfl)<|g_do rfl rfl rfl rfl rfl h28<|g_v rfl (r_load (tag:=100010) rfl rfl rfl Try.isAgg22)<|g_do rfl rfl rfl rfl rfl h28<|g_v rfl (r_lenL Try.underlying22 rfl)<|g_do rfl rfl rfl rfl rfl h28<|g_v rfl (r_eql rfl rfl)<|g_v rfl (r_pick1 rfl h28)<|g_v rfl r_assign<|g_nil ?_
     refine d_normal_block ?_
     exact d_round (decide ((p0_fHints.length : Int) = 0)) hm Nat.zero_lt_one ⟨rfl,trivial⟩ (fun W h=>((h.dropR (t:=100290) rfl).dropH (t:=100010) rfl).phi (fun W hφ=>hφ))
    replace hm:=ite_f hm (bool_nt h28)
    iterate 3 refine g_no rfl rfl rfl rfl rfl h28 ?_
    refine g_v rfl (r_pick0 rfl h28)<|g_v rfl r_assign<|g_nil<|d_normal_block ?_
    exact d_round false hm Nat.zero_lt_one ⟨rfl,trivial⟩ (fun W h=>((h.dropR (t:=100290) rfl).dropH (t:=100010) rfl).phi (fun W hφ=>hφ))
   replace hm:=ite_f hm (bool_nt h24)
   iterate 7 refine g_no rfl rfl rfl rfl rfl h24 ?_
   refine g_v rfl (r_pick0 rfl h24)<|g_v rfl r_move ?_
   iterate 4 refine g_no rfl rfl rfl rfl rfl rfl ?_
   refine g_v rfl (r_pick0 rfl rfl)<|g_v rfl r_assign<|g_nil<|d_normal_block ?_
   exact d_round false hm Nat.zero_lt_one ⟨rfl,trivial⟩ (fun W h=>(h.dropH (t:=100010) rfl).phi (fun W hφ=>hφ))
  replace hm:=ite_f hm (of_decide_eq_false h21)
  refine c_seq<|c_region<|g_v rfl (r_eql rfl rfl)<|g_v rfl r_assign<|g_nil<|d_then<|c_cond0 rfl (by decide)<|c_seq<|c_region<|g_v rfl (r_eql rfl rfl) ?_
  refine g_v rfl r_assign<|g_nil<|d_then<|c_cond0 rfl (by decide)<|c_seq<|c_region<|g_v rfl (r_eql rfl rfl)<|g_v rfl r_assign<|g_nil<|d_then ?_
  refine c_cond1 rfl (by decide)<|c_region<|g_v rfl r_move<|g_v rfl r_move ?_
  refine g_if rfl rfl rfl rfl rfl (fun h29=>?_) (fun h29=>?_)
  ·
   replace hm:=ite_t hm h29
   refine g_v rfl (r_field (n:=4) Try.underlying35 rfl Try.sizeOf9 rfl rfl)<|g_do rfl rfl rfl rfl rfl h29<|g_v rfl (r_load (tag:=100010) rfl rfl rfl Try.isAgg9)<|g_do rfl rfl rfl rfl rfl h29 ?_
   replace hm:=bnd hm
   obtain ⟨x30,hx31,hm⟩:=hm
   refine g_cn ⟨w0,M,_,_,φ⟩ (fun _ h=>h) Try.call56 rfl rfl (c_conf_named p0_fZone _ hx31) (fun _ _=>?_)
   refine g_v rfl (r_pick1 rfl h29)<|g_v rfl r_move ?_
   refine g_if rfl rfl rfl rfl rfl (fun h32=>?_) (fun h32=>?_)
   ·
    replace hm:=ite_t hm h32
    refine g_v rfl (r_field (n:=2) Try.underlying35 rfl Try.sizeOf9 rfl rfl)<|g_do rfl rfl rfl rfl rfl h32<|g_v rfl (r_load (tag:=100010) rfl rfl rfl Try.isAgg9)<|g_do rfl rfl rfl rfl rfl h32<|g_v rfl (r_field (n:=3) Try.underlying35 rfl Try.sizeOf9 rfl rfl)<|g_do rfl rfl rfl rfl rfl h32<|g_v rfl (r_load (tag:=100010) rfl rfl rfl Try.isAgg9)<|g_do rfl rfl rfl rfl rfl h32 ?_
    refine g_e rfl (e_lit (tag:=101040) (l:=[p0_fName,p0_fText]) (enc:=(fun x : ByteArray=>[Value.string x])) (sz:=1) rfl Try.underlying22 (lit9_8 _ _) rfl rfl (fun _=>rfl)) (fun g33 _=>?_)
    refine g_do rfl rfl rfl rfl rfl h32 ?_
    replace hm:=bnd hm
    obtain ⟨x34,hx35,hm⟩:=hm
    refine g_cn ⟨w0,M,_,_,φ⟩ (fun _ h=>h) Try.call52 rfl rfl (c_conf_none [p0_fName,p0_fText] (some ⟨g33,0,none⟩) 2 (Nat.le_refl _) (fun W hS=>rowCl (tag:=101040) rfl W hS) _ hx35) (fun _ _=>?_)
    refine g_v rfl (r_pick1 rfl h32)<|g_v rfl r_assign<|g_nil<|d_normal_block ?_
    exact d_round x34 hm Nat.zero_lt_one ⟨rfl,trivial⟩ (fun W h=>((h.dropR (t:=101040) rfl).dropH (t:=100010) rfl).phi (fun W hφ=>hφ))
   replace hm:=ite_f hm (bool_nt h32)
   iterate 5 refine g_no rfl rfl rfl rfl rfl h32 ?_
   refine g_v rfl (r_pick0 rfl h32)<|g_v rfl r_assign<|g_nil<|d_normal_block ?_
   exact d_round false hm Nat.zero_lt_one ⟨rfl,trivial⟩ (fun W h=>(h.dropH (t:=100010) rfl).phi (fun W hφ=>hφ))
  replace hm:=ite_f hm (bool_nt h29)
  refine g_no rfl rfl rfl rfl rfl h29<|g_no rfl rfl rfl rfl rfl h29<|g_v rfl (r_pick0 rfl h29)<|g_v rfl r_move ?_
  iterate 6 refine g_no rfl rfl rfl rfl rfl rfl ?_
  refine g_v rfl (r_pick0 rfl rfl)<|g_v rfl r_assign<|g_nil<|d_normal_block ?_
  exact d_round false hm Nat.zero_lt_one ⟨rfl,trivial⟩ (fun W h=>(h.dropH (t:=100010) rfl).phi (fun W hφ=>hφ))
 unfold m_conf_Check_k5_j2 at hm
 refine d_flat [(3,.bool b19)] ⟨rfl,trivial⟩ (fun u=>?_)
 refine d_sta ⟨w0,M,H,R,φ⟩ (fun _ h=>h)<|d_then<|c_seq<|c_seq<|c_region<|g_v rfl r_move<|g_v rfl (r_not rfl)<|g_nil<|d_then ?_
 refine c_cond rfl (fun h20=>?_) (fun h20=>?_)
 ·
  have h20' : b19 = false:=by revert h20; cases b19 <;> simp
  replace hm:=ite_f hm (bool_nt h20')
  refine c_seq<|c_region<|g_v rfl r_assign<|g_nil<|d_then<|c_ret<|d_ret_then ?_
  cases hm
  exact d_retC () Try.results20 (res_tmp (res_nil rfl)) trivial (fun W h=>ok_pre (H1:=[]) (R1:=[]) h (fun W hφ=>hφ)) (.inr rfl)
 have h20' : b19 = true:=by revert h20; cases b19 <;> simp
 replace hm:=ite_t hm h20'
 refine c_skip<|d_then<|c_seq<|c_region<|g_v rfl r_assign<|g_nil<|d_then<|c_ret ?_
 cases hm
 exact d_retC () Try.results20 (res_tmp (res_nil rfl)) trivial (fun W h=>ok_pre (H1:=[]) (R1:=[]) h (fun W hφ=>hφ)) (.inr rfl)
noncomputable def m_conf_Bytes_k5_j2 (p0_fName : ByteArray) (p0_fText : ByteArray) (p0_fZone : ByteArray) (x5 : Gpack_Packer) (l52 : List Int) : Option (ByteArray×Int):=
  (sadd p0_fName p0_fText).bind fun s55=>
  (sadd s55 p0_fZone).bind fun s56=>
  (m_pack_Packer_Raw s56 (⟨l52,x5.fplaces⟩ : Gpack_Packer)).bind fun x57=>
  (m_pack_Packer_Bytes (⟨x57.fb,x5.fplaces⟩ : Gpack_Packer)).bind fun x62=>
  some (x62,0)
noncomputable def m_conf_Bytes_k5_s3 (p0_fHints : List ByteArray) (x5 : Gpack_Packer) (l78 : List Int) (i81 : Int) : Option (((List Int)×Int) ⊕ (List Int)):=
  if i81 < (p0_fHints.length : Int) then
    (at_ p0_fHints i81).bind fun x98=>
    (m_pack_Packer_Raw x98 (⟨l78,x5.fplaces⟩ : Gpack_Packer)).bind fun x102=>
    some (.inl (x102.fb,w64 (i81 + 1)))
  else
    some (.inr l78)
noncomputable def m_conf_Bytes_k5_j1 (p0_fHints : List ByteArray) (x5 : Gpack_Packer) (x14 : Gpack_Packer) (p0_fName : ByteArray) (p0_fText : ByteArray) (p0_fZone : ByteArray) : Option (ByteArray×Int):=
  (loop (fun s=>m_conf_Bytes_k5_s3 p0_fHints x5 s.1 s.2) (x14.fb,0)).bind fun e=>m_conf_Bytes_k5_j2 p0_fName p0_fText p0_fZone x5 e
noncomputable def m_conf_Bytes_k5 (p0_fNode : Int) (p0_fName : ByteArray) (p0_fText : ByteArray) (p0_fZone : ByteArray) (p0_fHints : List ByteArray) : Option (ByteArray×Int):=
  (m_conf_Check_k5 p0_fNode p0_fName p0_fText p0_fZone p0_fHints).bind fun x2=>
  if x2 ≠ 0 then
    some ((⟨#[]⟩ : ByteArray),x2)
  else
    (m_pack_New).bind fun x5=>
    (m_pack_Packer_Byte 5 x5).bind fun x14=>
    m_conf_Bytes_k5_j1 p0_fHints x5 x14 p0_fName p0_fText p0_fZone
theorem c_conf_Bytes_k5 {w0 : World} {M : Nat→Prop} {H : List (Nat×Nat×Obj)} {R : List (Nat×Row)} {φ : World→Prop} (p0_fNode : Int) (p0_fName : ByteArray) (p0_fText : ByteArray) (p0_fZone : ByteArray) (p0_fHints : List ByteArray) (Ap0_fHints_0 : Option Addr) (cp0_fHints_0 : Nat) (hcp0_fHints_0 : p0_fHints.length ≤ cp0_fHints_0) (fp0_fHints_0 : ∀ W,(Sta.mk w0 M H R φ).ok W→Cl W Ap0_fHints_0 (p0_fHints.flatMap (fun x : ByteArray=>[Value.string x]))) (r : ByteArray×Int) (hm : m_conf_Bytes_k5 p0_fNode p0_fName p0_fText p0_fZone p0_fHints = some r) :
    Cn Try.prog 15 #[.agg #[.int .i64 5,.int .i64 p0_fNode,.string p0_fName,.string p0_fText,.string p0_fZone,.slice Ap0_fHints_0 p0_fHints.length cp0_fHints_0]] ⟨w0,M,H,R,φ⟩ (fun x : Unit=>.tuple #[.string r.1,.int .i64 r.2]) (fun x=>True) (fun x=>⟨w0,M,H,R,φ⟩):=by
 unfold m_conf_Bytes_k5 at hm
 refine cn_intro (fn:=Try.f15) (N:=55) Try.func15 rfl Try.ntmps15 rfl<|c_seq<|c_region ?_
 refine g_e rfl (e_box 100010 rfl) (fun g1 _=>?_)
 refine g_v rfl r_assign<|g_v rfl r_assign<|g_nil<|d_then<|c_seq<|c_region<|g_v rfl (r_loadA (tag:=100010) rfl rfl Try.isAgg35 Try.sizeOf35 rfl rfl) ?_
 replace hm:=bnd hm
 obtain ⟨x2,hx3,hm⟩:=hm
 refine g_cn ⟨w0,M,_,_,φ⟩ (fun _ h=>h) Try.call20 rfl rfl (c_conf_Check_k5 p0_fNode p0_fName p0_fText p0_fZone p0_fHints Ap0_fHints_0 cp0_fHints_0 hcp0_fHints_0 (fun W hS=>fp0_fHints_0 W (ok_pre (H1:=[_]) (R1:=[]) hS (fun W h=>h))) _ hx3) (fun _ _=>?_)
 refine g_v rfl r_assign<|g_nil<|d_then<|c_seq<|c_seq<|c_region<|g_v rfl r_move<|g_v rfl (r_neq rfl rfl)<|g_nil<|d_then ?_
 refine c_sta ⟨w0,M,(100010,g1,.cells #[.int .i64 5,.int .i64 p0_fNode,.string p0_fName,.string p0_fText,.string p0_fZone,.slice Ap0_fHints_0 p0_fHints.length cp0_fHints_0] 35 (0,0))::H,R,φ⟩ (fun _ h=>h) ?_
 refine c_cond rfl (fun h4=>?_) (fun h4=>?_)
 ·
  replace hm:=ite_t hm (of_decide_eq_true h4)
  refine c_seq<|c_region<|g_v rfl r_move<|g_v rfl r_assign<|g_v rfl r_assign<|g_nil<|d_then ?_
  refine c_flat [(2,.string (⟨#[]⟩ : ByteArray)),(3,.int .i64 x2)] ⟨rfl,rfl,trivial⟩ (fun u=>?_)
  refine c_ret<|d_ret_then ?_
  cases hm
  exact d_retC () Try.results15 (res_tmp (res_tmp (res_nil rfl))) trivial (fun W h=>ok_pre (H1:=[_]) (R1:=[]) h (fun W hφ=>hφ)) (.inr rfl)
 replace hm:=ite_f hm (of_decide_eq_false h4)
 refine c_skip<|d_then<|c_seq<|c_region ?_
 replace hm:=bnd hm
 obtain ⟨x5,hx6,hm⟩:=hm
 refine g_cn ⟨w0,M,_,_,φ⟩ (fun _ h=>h) Try.call42 rfl rfl (c_pack_New  _ hx6) (fun ⟨A7,c8,A10,c11,g13⟩ ⟨hc8,hc11⟩=>?_)
 refine g_sta _ (fun W h=>(ok_frontR (t:=2000) (t':=100130) (ok_frontR (t:=2001) (t':=100131) (ok_front (t:=3000) (t':=100135) h rfl) rfl) rfl))<|g_v rfl r_assign<|g_nil<|d_then ?_
 refine c_flat [(1,.pointer (some ⟨g1,0,none⟩)),(5,.pointer (some ⟨g13,0,none⟩))] ⟨rfl,rfl,trivial⟩ (fun u=>?_)
 refine c_sta ⟨w0,M,(100135,g13,.cells #[.slice A7 x5.fb.length c8,mapV A10] 102 (0,0))::(100010,g1,.cells #[.int .i64 5,.int .i64 p0_fNode,.string p0_fName,.string p0_fText,.string p0_fZone,.slice Ap0_fHints_0 p0_fHints.length cp0_fHints_0] 35 (0,0))::H,(100130,⟨.slice A7 x5.fb.length c8,5,1,x5.fb.length,x5.fb.flatMap (fun x : Int=>[Value.int .u8 x])⟩)::(100131,⟨mapV A10,100,2,x5.fplaces.length,x5.fplaces.flatMap (mcell (fun x : ByteArray=>Value.string x) (fun x : Int=>Value.int .i64 x))⟩)::R,φ⟩ (fun _ h=>h)<|c_seq<|c_region<|g_v rfl r_move<|g_v rfl (r_field (n:=0) Try.underlying35 rfl Try.sizeOf3 rfl rfl)<|g_v rfl (r_load (tag:=100010) rfl rfl rfl Try.isAgg3)<|g_v rfl (r_conv Try.underlying3 Try.underlying5 rfl (show IntKind.u8.wrap 5 = 5 by decide)) ?_
 replace hm:=bnd hm
 obtain ⟨x14,hx15,hm⟩:=hm
 refine g_cn ⟨w0,M,(1000,g13,.cells #[.slice A7 x5.fb.length c8,mapV A10] 102 (0,0))::(100010,g1,.cells #[.int .i64 5,.int .i64 p0_fNode,.string p0_fName,.string p0_fText,.string p0_fZone,.slice Ap0_fHints_0 p0_fHints.length cp0_fHints_0] 35 (0,0))::H,(1000,⟨.slice A7 x5.fb.length c8,5,1,x5.fb.length,x5.fb.flatMap (fun x : Int=>[Value.int .u8 x])⟩)::(1001,⟨mapV A10,100,2,x5.fplaces.length,x5.fplaces.flatMap (mcell (fun x : ByteArray=>Value.string x) (fun x : Int=>Value.int .i64 x))⟩)::R,φ⟩ (fun W h=>(ok_front (t:=100135) (t':=1000) (ok_frontR (t:=100130) (t':=1000) (ok_frontR (t:=100131) (t':=1001) h rfl) rfl) rfl)) Try.call43 rfl rfl (c_pack_Packer_Byte 5 g13 x5 A7 c8 hc8 A10 c11 trivial _ hx15) (fun ⟨A16,c17⟩ hc17=>?_)
 refine g_sta _ (fun W h=>(ok_frontR (t:=2000) (t':=100130) (ok_frontR (t:=1001) (t':=100131) (ok_front (t:=1000) (t':=100135) h rfl) rfl) rfl))<|g_nil<|d_then<|c_seq ?_
 refine c_cut (ι:=Unit) [1,5] (fun _=>[]) (fun _=>⟨w0,M,(100135,g13,.cells #[.slice A16 x14.fb.length c17,mapV A10] 102 (0,0))::(100010,g1,.cells #[.int .i64 5,.int .i64 p0_fNode,.string p0_fName,.string p0_fText,.string p0_fZone,.slice Ap0_fHints_0 p0_fHints.length cp0_fHints_0] 35 (0,0))::H,(100130,⟨.slice A16 x14.fb.length c17,5,1,x14.fb.length,x14.fb.flatMap (fun x : Int=>[Value.int .u8 x])⟩)::(100131,⟨mapV A10,100,2,x5.fplaces.length,x5.fplaces.flatMap (mcell (fun x : ByteArray=>Value.string x) (fun x : Int=>Value.int .i64 x))⟩)::R,φ⟩) (fun _=>m_conf_Bytes_k5_j1 p0_fHints x5 x14 p0_fName p0_fText p0_fZone = some r) ?_ (fun _ u hm=>?_)
 ·
  refine c_seq<|c_region<|g_v rfl (r_field (n:=0) Try.underlying35 rfl Try.sizeOf3 rfl rfl)<|g_v rfl (r_load (tag:=100010) rfl rfl rfl Try.isAgg3)<|g_v rfl (r_eql rfl rfl)<|g_v rfl r_move<|g_do rfl rfl rfl rfl rfl (by decide)<|g_v rfl (r_field (n:=0) Try.underlying35 rfl Try.sizeOf3 rfl rfl)<|g_do rfl rfl rfl rfl rfl (by decide)<|g_v rfl (r_load (tag:=100010) rfl rfl rfl Try.isAgg3) ?_
  refine g_do rfl rfl rfl rfl rfl (by decide)<|g_v rfl (r_eql rfl rfl)<|g_v rfl (r_pick0 rfl (by decide))<|g_nil<|d_then ?_
  refine c_flat [(1,.pointer (some ⟨g1,0,none⟩)),(5,.pointer (some ⟨g13,0,none⟩)),(26,.bool (decide (5 = 2)))] ⟨rfl,rfl,rfl,trivial⟩ (fun u=>?_)
  refine c_sta ⟨w0,M,(100135,g13,.cells #[.slice A16 x14.fb.length c17,mapV A10] 102 (0,0))::(100010,g1,.cells #[.int .i64 5,.int .i64 p0_fNode,.string p0_fName,.string p0_fText,.string p0_fZone,.slice Ap0_fHints_0 p0_fHints.length cp0_fHints_0] 35 (0,0))::H,(100130,⟨.slice A16 x14.fb.length c17,5,1,x14.fb.length,x14.fb.flatMap (fun x : Int=>[Value.int .u8 x])⟩)::(100131,⟨mapV A10,100,2,x5.fplaces.length,x5.fplaces.flatMap (mcell (fun x : ByteArray=>Value.string x) (fun x : Int=>Value.int .i64 x))⟩)::R,φ⟩ (fun _ h=>h)<|c_cond0 rfl (by decide)<|c_skip ?_
  exact d_round () hm Nat.zero_lt_one ⟨rfl,rfl,trivial⟩ (fun W h=>h.phi (fun W hφ=>hφ))
 unfold m_conf_Bytes_k5_j1 at hm
 refine d_flat [(1,.pointer (some ⟨g1,0,none⟩)),(5,.pointer (some ⟨g13,0,none⟩))] ⟨rfl,rfl,trivial⟩ (fun u=>?_)
 refine d_sta ⟨w0,M,(100135,g13,.cells #[.slice A16 x14.fb.length c17,mapV A10] 102 (0,0))::(100010,g1,.cells #[.int .i64 5,.int .i64 p0_fNode,.string p0_fName,.string p0_fText,.string p0_fZone,.slice Ap0_fHints_0 p0_fHints.length cp0_fHints_0] 35 (0,0))::H,(100130,⟨.slice A16 x14.fb.length c17,5,1,x14.fb.length,x14.fb.flatMap (fun x : Int=>[Value.int .u8 x])⟩)::(100131,⟨mapV A10,100,2,x5.fplaces.length,x5.fplaces.flatMap (mcell (fun x : ByteArray=>Value.string x) (fun x : Int=>Value.int .i64 x))⟩)::R,φ⟩ (fun _ h=>h)<|d_then<|c_seq<|c_seq<|c_region<|g_v rfl (r_field (n:=5) Try.underlying35 rfl Try.sizeOf22 rfl rfl)<|g_v rfl (r_load (tag:=100010) rfl rfl rfl Try.isAgg22)<|g_v rfl (r_lenL Try.underlying22 rfl)<|g_v rfl r_move<|g_nil ?_
 refine d_then ?_
 refine c_cut (ι:=(List Int)×Option Addr×Nat) [1,5] (fun ⟨l52,A53,c54⟩=>[]) (fun ⟨l52,A53,c54⟩=>⟨w0,M,(100135,g13,.cells #[.slice A53 l52.length c54,mapV A10] 102 (0,0))::(100010,g1,.cells #[.int .i64 5,.int .i64 p0_fNode,.string p0_fName,.string p0_fText,.string p0_fZone,.slice Ap0_fHints_0 p0_fHints.length cp0_fHints_0] 35 (0,0))::H,(100130,⟨.slice A53 l52.length c54,5,1,l52.length,l52.flatMap (fun x : Int=>[Value.int .u8 x])⟩)::(100131,⟨mapV A10,100,2,x5.fplaces.length,x5.fplaces.flatMap (mcell (fun x : ByteArray=>Value.string x) (fun x : Int=>Value.int .i64 x))⟩)::R,φ⟩) (fun ⟨l52,A53,c54⟩=>m_conf_Bytes_k5_j2 p0_fName p0_fText p0_fZone x5 l52 = some r∧l52.length ≤ c54) ?_ (fun ⟨l52,A53,c54⟩ u ⟨hm,hc54⟩=>?_)
 ·
  refine c_block ?_
  replace hm:=bnd hm
  obtain ⟨out3,hl3,hr3⟩:=hm
  obtain ⟨n96',hl3⟩:=loop_lp hl3
  refine c_loopU (ι:=Nat×(List Int)×Int×Option Addr×Nat) [1,5,33,34,35] (fun ⟨n96,l78,i81,A79,c80⟩=>[(35,.int .i64 i81)]) (fun ⟨n96,l78,i81,A79,c80⟩=>⟨w0,M,(100135,g13,.cells #[.slice A79 l78.length c80,mapV A10] 102 (0,0))::(100010,g1,.cells #[.int .i64 5,.int .i64 p0_fNode,.string p0_fName,.string p0_fText,.string p0_fZone,.slice Ap0_fHints_0 p0_fHints.length cp0_fHints_0] 35 (0,0))::H,(100130,⟨.slice A79 l78.length c80,5,1,l78.length,l78.flatMap (fun x : Int=>[Value.int .u8 x])⟩)::(100131,⟨mapV A10,100,2,x5.fplaces.length,x5.fplaces.flatMap (mcell (fun x : ByteArray=>Value.string x) (fun x : Int=>Value.int .i64 x))⟩)::R,φ⟩) (fun ⟨n96,l78,i81,A79,c80⟩=>Lp (fun s=>m_conf_Bytes_k5_s3 p0_fHints x5 s.1 s.2) n96 (l78,i81) out3∧l78.length ≤ c80) (fun ⟨n96,l78,i81,A79,c80⟩=>n96) (n96',x14.fb,0,A16,c17) ⟨hl3,hc17⟩ ⟨rfl,rfl,rfl,rfl,rfl,trivial⟩ (fun W h=>h.phi (fun W hφ=>hφ)) (fun ⟨n96,l78,i81,A79,c80⟩ u ⟨hlp,hc80⟩=>?_)
  obtain ⟨o3,hm,hnx3⟩:=lp_step hlp
  clear hlp
  replace hm : m_conf_Bytes_k5_s3 p0_fHints x5 l78 i81 = some o3:=hm
  unfold m_conf_Bytes_k5_s3 at hm
  refine c_flat [(1,.pointer (some ⟨g1,0,none⟩)),(5,.pointer (some ⟨g13,0,none⟩)),(33,.slice Ap0_fHints_0 p0_fHints.length cp0_fHints_0),(34,.int .i64 (p0_fHints.length : Int)),(35,.int .i64 i81)] ⟨rfl,rfl,rfl,rfl,rfl,trivial⟩ (fun u=>?_)
  refine c_sta ⟨w0,M,(100135,g13,.cells #[.slice A79 l78.length c80,mapV A10] 102 (0,0))::(100010,g1,.cells #[.int .i64 5,.int .i64 p0_fNode,.string p0_fName,.string p0_fText,.string p0_fZone,.slice Ap0_fHints_0 p0_fHints.length cp0_fHints_0] 35 (0,0))::H,(100130,⟨.slice A79 l78.length c80,5,1,l78.length,l78.flatMap (fun x : Int=>[Value.int .u8 x])⟩)::(100131,⟨mapV A10,100,2,x5.fplaces.length,x5.fplaces.flatMap (mcell (fun x : ByteArray=>Value.string x) (fun x : Int=>Value.int .i64 x))⟩)::R,φ⟩ (fun _ h=>h)<|c_seq<|c_region<|g_v rfl (r_lss rfl rfl)<|g_nil<|d_then<|c_seq ?_
  refine c_cond rfl (fun h97=>?_) (fun h97=>?_)
  ·
   replace hm:=ite_t hm (of_decide_eq_true h97)
   refine c_skip<|d_then<|c_seq<|c_block<|c_seq<|c_region ?_
   replace hm:=bnd hm
   obtain ⟨x98,hx98,hm⟩:=hm
   refine g_know _ (fun W hS=>cl_at (p:=(Sta.mk w0 M H R φ).ok) (sz:=1) (fun _=>rfl) (by decide) (ok_pre (H1:=[_,_]) (R1:=[_,_]) hS (fun W h=>h)) fp0_fHints_0 hx98) ?_
   rintro ⟨ad99,hA101,f100⟩
   refine g_v rfl (r_ix Try.underlying22 Try.sizeOf9 rfl hA101 rfl hx98)<|g_v rfl (r_ld rfl Try.isAgg9 (fun W hS=>Cl.head (f100 W (ok_pre (H1:=[_,_]) (R1:=[_,_]) hS (fun W h=>h)))))<|g_v rfl r_assign<|g_nil<|d_then<|c_region<|g_v rfl r_move<|g_v rfl r_move ?_
   replace hm:=bnd hm
   obtain ⟨x102,hx103,hm⟩:=hm
   refine g_cn ⟨w0,M,(1000,g13,.cells #[.slice A79 l78.length c80,mapV A10] 102 (0,0))::(100010,g1,.cells #[.int .i64 5,.int .i64 p0_fNode,.string p0_fName,.string p0_fText,.string p0_fZone,.slice Ap0_fHints_0 p0_fHints.length cp0_fHints_0] 35 (0,0))::H,(1000,⟨.slice A79 l78.length c80,5,1,l78.length,l78.flatMap (fun x : Int=>[Value.int .u8 x])⟩)::(1001,⟨mapV A10,100,2,x5.fplaces.length,x5.fplaces.flatMap (mcell (fun x : ByteArray=>Value.string x) (fun x : Int=>Value.int .i64 x))⟩)::R,φ⟩ (fun W h=>(ok_front (t:=100135) (t':=1000) (ok_frontR (t:=100130) (t':=1000) (ok_frontR (t:=100131) (t':=1001) h rfl) rfl) rfl)) Try.call44 rfl rfl (c_pack_Packer_Raw x98 g13 (⟨l78,x5.fplaces⟩ : Gpack_Packer) A79 c80 hc80 A10 c11 trivial _ hx103) (fun ⟨A104,c105⟩ hc105=>?_)
   refine g_sta _ (fun W h=>(ok_frontR (t:=2000) (t':=100130) (ok_frontR (t:=1001) (t':=100131) (ok_front (t:=1000) (t':=100135) h rfl) rfl) rfl))<|g_nil<|d_normal_block<|d_then<|c_region<|g_v rfl (r_add rfl rfl rfl)<|g_v rfl r_move<|g_nil ?_
   obtain ⟨n107,hn107,hlp⟩:=nx_inl hm hnx3
   exact d_round (n107,x102.fb,w64 (i81 + 1),A104,c105) ⟨hlp,hc105⟩ hn107 ⟨rfl,rfl,rfl,rfl,rfl,trivial⟩ (fun W h=>h.phi (fun W hφ=>hφ))
  replace hm:=ite_f hm (of_decide_eq_false h97)
  refine c_exit<|d_exit_then<|d_exit_then<|d_exit_block ?_
  replace hm:=nx_out (C:=(fun e : (List Int)=>m_conf_Bytes_k5_j2 p0_fName p0_fText p0_fZone x5 e = some r)) hm hnx3 hr3
  exact d_round (l78,A79,c80) ⟨hm,hc80⟩ Nat.zero_lt_one ⟨rfl,rfl,trivial⟩ (fun W h=>h.phi (fun W hφ=>hφ))
 unfold m_conf_Bytes_k5_j2 at hm
 refine d_flat [(1,.pointer (some ⟨g1,0,none⟩)),(5,.pointer (some ⟨g13,0,none⟩))] ⟨rfl,rfl,trivial⟩ (fun u=>?_)
 refine d_sta ⟨w0,M,(100135,g13,.cells #[.slice A53 l52.length c54,mapV A10] 102 (0,0))::(100010,g1,.cells #[.int .i64 5,.int .i64 p0_fNode,.string p0_fName,.string p0_fText,.string p0_fZone,.slice Ap0_fHints_0 p0_fHints.length cp0_fHints_0] 35 (0,0))::H,(100130,⟨.slice A53 l52.length c54,5,1,l52.length,l52.flatMap (fun x : Int=>[Value.int .u8 x])⟩)::(100131,⟨mapV A10,100,2,x5.fplaces.length,x5.fplaces.flatMap (mcell (fun x : ByteArray=>Value.string x) (fun x : Int=>Value.int .i64 x))⟩)::R,φ⟩ (fun _ h=>h)<|d_then<|c_seq<|c_region<|g_v rfl r_move<|g_v rfl (r_field (n:=2) Try.underlying35 rfl Try.sizeOf9 rfl rfl)<|g_v rfl (r_load (tag:=100010) rfl rfl rfl Try.isAgg9)<|g_v rfl (r_field (n:=3) Try.underlying35 rfl Try.sizeOf9 rfl rfl)<|g_v rfl (r_load (tag:=100010) rfl rfl rfl Try.isAgg9) ?_
 replace hm:=bnd hm
 obtain ⟨s55,hs55,hm⟩:=hm
 refine g_v rfl (r_addT rfl rfl hs55)<|g_v rfl (r_field (n:=4) Try.underlying35 rfl Try.sizeOf9 rfl rfl)<|g_v rfl (r_load (tag:=100010) rfl rfl rfl Try.isAgg9) ?_
 replace hm:=bnd hm
 obtain ⟨s56,hs56,hm⟩:=hm
 refine g_v rfl (r_addT rfl rfl hs56) ?_
 replace hm:=bnd hm
 obtain ⟨x57,hx58,hm⟩:=hm
 refine g_cn ⟨w0,M,(1000,g13,.cells #[.slice A53 l52.length c54,mapV A10] 102 (0,0))::(100010,g1,.cells #[.int .i64 5,.int .i64 p0_fNode,.string p0_fName,.string p0_fText,.string p0_fZone,.slice Ap0_fHints_0 p0_fHints.length cp0_fHints_0] 35 (0,0))::H,(1000,⟨.slice A53 l52.length c54,5,1,l52.length,l52.flatMap (fun x : Int=>[Value.int .u8 x])⟩)::(1001,⟨mapV A10,100,2,x5.fplaces.length,x5.fplaces.flatMap (mcell (fun x : ByteArray=>Value.string x) (fun x : Int=>Value.int .i64 x))⟩)::R,φ⟩ (fun W h=>(ok_front (t:=100135) (t':=1000) (ok_frontR (t:=100130) (t':=1000) (ok_frontR (t:=100131) (t':=1001) h rfl) rfl) rfl)) Try.call44 rfl rfl (c_pack_Packer_Raw s56 g13 (⟨l52,x5.fplaces⟩ : Gpack_Packer) A53 c54 hc54 A10 c11 trivial _ hx58) (fun ⟨A59,c60⟩ hc60=>?_)
 refine g_sta _ (fun W h=>(ok_frontR (t:=2000) (t':=100130) (ok_frontR (t:=1001) (t':=100131) (ok_front (t:=1000) (t':=100135) h rfl) rfl) rfl))<|g_nil<|d_then ?_
 refine c_flat [(5,.pointer (some ⟨g13,0,none⟩))] ⟨rfl,trivial⟩ (fun u=>?_)
 refine c_sta ⟨w0,M,(100135,g13,.cells #[.slice A59 x57.fb.length c60,mapV A10] 102 (0,0))::(100010,g1,.cells #[.int .i64 5,.int .i64 p0_fNode,.string p0_fName,.string p0_fText,.string p0_fZone,.slice Ap0_fHints_0 p0_fHints.length cp0_fHints_0] 35 (0,0))::H,(100130,⟨.slice A59 x57.fb.length c60,5,1,x57.fb.length,x57.fb.flatMap (fun x : Int=>[Value.int .u8 x])⟩)::(100131,⟨mapV A10,100,2,x5.fplaces.length,x5.fplaces.flatMap (mcell (fun x : ByteArray=>Value.string x) (fun x : Int=>Value.int .i64 x))⟩)::R,φ⟩ (fun _ h=>h)<|c_seq<|c_region<|g_v rfl r_move ?_
 replace hm:=bnd hm
 obtain ⟨x62,hx63,hm⟩:=hm
 refine g_cn ⟨w0,M,(1000,g13,.cells #[.slice A59 x57.fb.length c60,mapV A10] 102 (0,0))::(100010,g1,.cells #[.int .i64 5,.int .i64 p0_fNode,.string p0_fName,.string p0_fText,.string p0_fZone,.slice Ap0_fHints_0 p0_fHints.length cp0_fHints_0] 35 (0,0))::H,(1000,⟨.slice A59 x57.fb.length c60,5,1,x57.fb.length,x57.fb.flatMap (fun x : Int=>[Value.int .u8 x])⟩)::(1001,⟨mapV A10,100,2,x5.fplaces.length,x5.fplaces.flatMap (mcell (fun x : ByteArray=>Value.string x) (fun x : Int=>Value.int .i64 x))⟩)::R,φ⟩ (fun W h=>(ok_front (t:=100135) (t':=1000) (ok_frontR (t:=100130) (t':=1000) (ok_frontR (t:=100131) (t':=1001) h rfl) rfl) rfl)) Try.call45 rfl rfl (c_pack_Packer_Bytes g13 (⟨x57.fb,x5.fplaces⟩ : Gpack_Packer) A59 c60 hc60 A10 c11 trivial _ hx63) (fun _ _=>?_)
 refine g_sta _ (fun W h=>(ok_frontR (t:=1000) (t':=100130) (ok_frontR (t:=1001) (t':=100131) (ok_front (t:=1000) (t':=100135) h rfl) rfl) rfl))<|g_v rfl r_assign<|g_v rfl r_assign<|g_nil<|d_then<|c_ret ?_
 cases hm
 exact d_retC () Try.results15 (res_tmp (res_tmp (res_nil rfl))) trivial (fun W h=>ok_pre (H1:=[_,_]) (R1:=[_,_]) h (fun W hφ=>hφ)) (.inr rfl)
structure GFlush where
  fEpoch : Int
  fZone : ByteArray
  deriving DecidableEq
def GFlush.enc (e : GFlush) : List Value:=[.int .i64 e.fEpoch,.string e.fZone]
structure GConf where
  fRing : List Int
  fHints : List ByteArray
  fAnchors : List GAnchor
  fEpoch : Int
  fFlushes : List GFlush
  deriving DecidableEq
theorem bld29_9  : ∀ W,(Instr.build 29 #[]).run Try.prog W = .ok (.agg #[.slice none 0 0,.slice none 0 0,.slice none 0 0,.int .i64 0,.slice none 0 0]) W:=fun _=>by kernel_rfl
theorem isi3_10  : (Try.prog.info? 3).isSome = true:=by kernel_rfl
theorem inf3_11  : (Try.prog.info? 3).map (fun i=>(i.zero,i.size,i.bytes)) = some (some (.int .i64 0),1,8):=by kernel_rfl
noncomputable def m_slices_Clone_23 (p0 : List Int) : Option (List Int):=
  (app 8 ([] : List Int) p0).bind fun l3=>
  some l3
theorem c_slices_Clone_23 {w0 : World} {M : Nat→Prop} {H : List (Nat×Nat×Obj)} {R : List (Nat×Row)} {φ : World→Prop} (p0 : List Int) (Ap0_0 : Option Addr) (cp0_0 : Nat) (hcp0_0 : p0.length ≤ cp0_0) (fp0_0 : ∀ W,(Sta.mk w0 M H R φ).ok W→Cl W Ap0_0 (p0.flatMap (fun x : Int=>[Value.int .i64 x]))) (r : (List Int)) (hm : m_slices_Clone_23 p0 = some r) :
    Cn Try.prog 23 #[.slice Ap0_0 p0.length cp0_0] ⟨w0,M,H,R,φ⟩ (fun x : Option Addr×Nat=>.slice x.1 r.length x.2) (fun x=>r.length ≤ x.2) (fun x=>⟨w0,M,H,(2000,⟨.slice x.1 r.length x.2,3,1,r.length,r.flatMap (fun x : Int=>[Value.int .i64 x])⟩)::R,φ⟩):=by
 unfold m_slices_Clone_23 at hm
 refine cn_intro (fn:=Try.f23) (N:=8) Try.func23 rfl Try.ntmps23 rfl<|c_seq<|c_region<|g_v rfl r_assign<|g_nil<|d_then<|c_seq<|c_seq<|c_region<|g_v rfl r_move ?_
 refine g_v rfl (r_isNilS Try.underlying25 rfl rfl)<|g_nil<|d_then ?_
 refine c_cond rfl (fun h1=>?_) (fun h1=>?_)
 ·
  refine c_know (p0 = []) (fun W hS=>cl_nil_of (enc:=(fun x : Int=>[Value.int .i64 x])) (fun _=>Nat.le_of_ble_eq_true rfl) (nil_of h1 ▸ fp0_0 W (ok_pre (H1:=[]) (R1:=[]) hS (fun W h=>h)))) (fun hnil=>?_)
  replace hm : some ([] : List Int) = some r:=by rw [hnil] at hm; exact hm
  refine c_seq<|c_region<|g_v rfl r_assign<|g_nil<|d_then<|c_ret<|d_ret_then ?_
  cases hm
  refine d_sta _ (fun W h=>nilR h 11 3 1)<|d_sta _ (fun W h=>ok_frontR (t:=11) (t':=2000) h rfl) ?_
  exact d_retC (none,0) Try.results23 (res_tmp (res_nil rfl)) (Nat.le_refl 0) (fun W h=>h.phi (fun W hφ=>hφ)) (.inr rfl)
 refine c_skip<|d_then<|c_seq<|c_region ?_
 refine g_e rfl (e_lit0 (tag:=100050) (sz:=1) Try.underlying25 isi3_10) (fun g2 _=>?_)
 refine g_v rfl r_move ?_
 replace hm:=bnd hm
 obtain ⟨l3,hl3,hm⟩:=hm
 refine g_e rfl (e_appR (enc:=(fun x : Int=>[Value.int .i64 x])) (l:=[]) (l1:=p0) (l2:=l3) (tag:=100050) Try.underlying25 inf3_11 rfl (by decide) (by decide) (fun _=>rfl) (fun _=>rfl) rfl (Nat.le_refl 0) rfl rfl (fun W hS=>fp0_0 W (ok_pre (H1:=[]) (R1:=[_]) hS (fun W h=>h))) hl3) (fun ⟨A4,c5⟩ hc5=>?_)
 refine g_v rfl r_assign<|g_nil<|d_then<|c_ret ?_
 cases hm
 refine d_sta _ (fun W h=>ok_frontR (t:=100050) (t':=2000) h rfl) ?_
 exact d_retC (A4,c5) Try.results23 (res_tmp (res_nil rfl)) hc5 (fun W h=>h.phi (fun W hφ=>hφ)) (.inr rfl)
theorem isi9_12  : (Try.prog.info? 9).isSome = true:=by kernel_rfl
noncomputable def m_slices_Clone_24 (p0 : List ByteArray) : Option (List ByteArray):=
  (app 16 ([] : List ByteArray) p0).bind fun l3=>
  some l3
theorem c_slices_Clone_24 {w0 : World} {M : Nat→Prop} {H : List (Nat×Nat×Obj)} {R : List (Nat×Row)} {φ : World→Prop} (p0 : List ByteArray) (Ap0_0 : Option Addr) (cp0_0 : Nat) (hcp0_0 : p0.length ≤ cp0_0) (fp0_0 : ∀ W,(Sta.mk w0 M H R φ).ok W→Cl W Ap0_0 (p0.flatMap (fun x : ByteArray=>[Value.string x]))) (r : (List ByteArray)) (hm : m_slices_Clone_24 p0 = some r) :
    Cn Try.prog 24 #[.slice Ap0_0 p0.length cp0_0] ⟨w0,M,H,R,φ⟩ (fun x : Option Addr×Nat=>.slice x.1 r.length x.2) (fun x=>r.length ≤ x.2) (fun x=>⟨w0,M,H,(2000,⟨.slice x.1 r.length x.2,9,1,r.length,r.flatMap (fun x : ByteArray=>[Value.string x])⟩)::R,φ⟩):=by
 unfold m_slices_Clone_24 at hm
 refine cn_intro (fn:=Try.f24) (N:=8) Try.func24 rfl Try.ntmps24 rfl<|c_seq<|c_region<|g_v rfl r_assign<|g_nil<|d_then<|c_seq<|c_seq<|c_region<|g_v rfl r_move ?_
 refine g_v rfl (r_isNilS Try.underlying22 rfl rfl)<|g_nil<|d_then ?_
 refine c_cond rfl (fun h1=>?_) (fun h1=>?_)
 ·
  refine c_know (p0 = []) (fun W hS=>cl_nil_of (enc:=(fun x : ByteArray=>[Value.string x])) (fun _=>Nat.le_of_ble_eq_true rfl) (nil_of h1 ▸ fp0_0 W (ok_pre (H1:=[]) (R1:=[]) hS (fun W h=>h)))) (fun hnil=>?_)
  replace hm : some ([] : List ByteArray) = some r:=by rw [hnil] at hm; exact hm
  refine c_seq<|c_region<|g_v rfl r_assign<|g_nil<|d_then<|c_ret<|d_ret_then ?_
  cases hm
  refine d_sta _ (fun W h=>nilR h 11 9 1)<|d_sta _ (fun W h=>ok_frontR (t:=11) (t':=2000) h rfl) ?_
  exact d_retC (none,0) Try.results24 (res_tmp (res_nil rfl)) (Nat.le_refl 0) (fun W h=>h.phi (fun W hφ=>hφ)) (.inr rfl)
 refine c_skip<|d_then<|c_seq<|c_region ?_
 refine g_e rfl (e_lit0 (tag:=100050) (sz:=1) Try.underlying22 isi9_12) (fun g2 _=>?_)
 refine g_v rfl r_move ?_
 replace hm:=bnd hm
 obtain ⟨l3,hl3,hm⟩:=hm
 refine g_e rfl (e_appR (enc:=(fun x : ByteArray=>[Value.string x])) (l:=[]) (l1:=p0) (l2:=l3) (tag:=100050) Try.underlying22 inf9_7 rfl (by decide) (by decide) (fun _=>rfl) (fun _=>rfl) rfl (Nat.le_refl 0) rfl rfl (fun W hS=>fp0_0 W (ok_pre (H1:=[]) (R1:=[_]) hS (fun W h=>h))) hl3) (fun ⟨A4,c5⟩ hc5=>?_)
 refine g_v rfl r_assign<|g_nil<|d_then<|c_ret ?_
 cases hm
 refine d_sta _ (fun W h=>ok_frontR (t:=100050) (t':=2000) h rfl) ?_
 exact d_retC (A4,c5) Try.results24 (res_tmp (res_nil rfl)) hc5 (fun W h=>h.phi (fun W hφ=>hφ)) (.inr rfl)
theorem isi43_13  : (Try.prog.info? 43).isSome = true:=by kernel_rfl
theorem inf43_14  : (Try.prog.info? 43).map (fun i=>(i.zero,i.size,i.bytes)) = some (some (.agg #[.string (⟨#[]⟩ : ByteArray),.string (⟨#[]⟩ : ByteArray)]),2,32):=by kernel_rfl
noncomputable def m_slices_Clone_25 (p0 : List GAnchor) : Option (List GAnchor):=
  (app 32 ([] : List GAnchor) p0).bind fun l3=>
  some l3
theorem c_slices_Clone_25 {w0 : World} {M : Nat→Prop} {H : List (Nat×Nat×Obj)} {R : List (Nat×Row)} {φ : World→Prop} (p0 : List GAnchor) (Ap0_0 : Option Addr) (cp0_0 : Nat) (hcp0_0 : p0.length ≤ cp0_0) (fp0_0 : ∀ W,(Sta.mk w0 M H R φ).ok W→Cl W Ap0_0 (p0.flatMap GAnchor.enc)) (r : (List GAnchor)) (hm : m_slices_Clone_25 p0 = some r) :
    Cn Try.prog 25 #[.slice Ap0_0 p0.length cp0_0] ⟨w0,M,H,R,φ⟩ (fun x : Option Addr×Nat=>.slice x.1 r.length x.2) (fun x=>r.length ≤ x.2) (fun x=>⟨w0,M,H,(2000,⟨.slice x.1 r.length x.2,43,2,r.length,r.flatMap GAnchor.enc⟩)::R,φ⟩):=by
 unfold m_slices_Clone_25 at hm
 refine cn_intro (fn:=Try.f25) (N:=8) Try.func25 rfl Try.ntmps25 rfl<|c_seq<|c_region<|g_v rfl r_assign<|g_nil<|d_then<|c_seq<|c_seq<|c_region<|g_v rfl r_move ?_
 refine g_v rfl (r_isNilS Try.underlying26 rfl rfl)<|g_nil<|d_then ?_
 refine c_cond rfl (fun h1=>?_) (fun h1=>?_)
 ·
  refine c_know (p0 = []) (fun W hS=>cl_nil_of (enc:=GAnchor.enc) (fun _=>Nat.le_of_ble_eq_true rfl) (nil_of h1 ▸ fp0_0 W (ok_pre (H1:=[]) (R1:=[]) hS (fun W h=>h)))) (fun hnil=>?_)
  replace hm : some ([] : List GAnchor) = some r:=by rw [hnil] at hm; exact hm
  refine c_seq<|c_region<|g_v rfl r_assign<|g_nil<|d_then<|c_ret<|d_ret_then ?_
  cases hm
  refine d_sta _ (fun W h=>nilR h 11 43 2)<|d_sta _ (fun W h=>ok_frontR (t:=11) (t':=2000) h rfl) ?_
  exact d_retC (none,0) Try.results25 (res_tmp (res_nil rfl)) (Nat.le_refl 0) (fun W h=>h.phi (fun W hφ=>hφ)) (.inr rfl)
 refine c_skip<|d_then<|c_seq<|c_region ?_
 refine g_e rfl (e_lit0 (tag:=100050) (sz:=2) Try.underlying26 isi43_13) (fun g2 _=>?_)
 refine g_v rfl r_move ?_
 replace hm:=bnd hm
 obtain ⟨l3,hl3,hm⟩:=hm
 refine g_e rfl (e_appR (enc:=GAnchor.enc) (l:=[]) (l1:=p0) (l2:=l3) (tag:=100050) Try.underlying26 inf43_14 rfl (by decide) (by decide) (fun _=>rfl) (fun _=>rfl) rfl (Nat.le_refl 0) rfl rfl (fun W hS=>fp0_0 W (ok_pre (H1:=[]) (R1:=[_]) hS (fun W h=>h))) hl3) (fun ⟨A4,c5⟩ hc5=>?_)
 refine g_v rfl r_assign<|g_nil<|d_then<|c_ret ?_
 cases hm
 refine d_sta _ (fun W h=>ok_frontR (t:=100050) (t':=2000) h rfl) ?_
 exact d_retC (A4,c5) Try.results25 (res_tmp (res_nil rfl)) hc5 (fun W h=>h.phi (fun W hφ=>hφ)) (.inr rfl)
theorem isi54_15  : (Try.prog.info? 54).isSome = true:=by kernel_rfl
theorem inf54_16  : (Try.prog.info? 54).map (fun i=>(i.zero,i.size,i.bytes)) = some (some (.agg #[.int .i64 0,.string (⟨#[]⟩ : ByteArray)]),2,24):=by kernel_rfl
noncomputable def m_slices_Clone_26 (p0 : List GFlush) : Option (List GFlush):=
  (app 24 ([] : List GFlush) p0).bind fun l3=>
  some l3
theorem c_slices_Clone_26 {w0 : World} {M : Nat→Prop} {H : List (Nat×Nat×Obj)} {R : List (Nat×Row)} {φ : World→Prop} (p0 : List GFlush) (Ap0_0 : Option Addr) (cp0_0 : Nat) (hcp0_0 : p0.length ≤ cp0_0) (fp0_0 : ∀ W,(Sta.mk w0 M H R φ).ok W→Cl W Ap0_0 (p0.flatMap GFlush.enc)) (r : (List GFlush)) (hm : m_slices_Clone_26 p0 = some r) :
    Cn Try.prog 26 #[.slice Ap0_0 p0.length cp0_0] ⟨w0,M,H,R,φ⟩ (fun x : Option Addr×Nat=>.slice x.1 r.length x.2) (fun x=>r.length ≤ x.2) (fun x=>⟨w0,M,H,(2000,⟨.slice x.1 r.length x.2,54,2,r.length,r.flatMap GFlush.enc⟩)::R,φ⟩):=by
 unfold m_slices_Clone_26 at hm
 refine cn_intro (fn:=Try.f26) (N:=8) Try.func26 rfl Try.ntmps26 rfl<|c_seq<|c_region<|g_v rfl r_assign<|g_nil<|d_then<|c_seq<|c_seq<|c_region<|g_v rfl r_move ?_
 refine g_v rfl (r_isNilS Try.underlying27 rfl rfl)<|g_nil<|d_then ?_
 refine c_cond rfl (fun h1=>?_) (fun h1=>?_)
 ·
  refine c_know (p0 = []) (fun W hS=>cl_nil_of (enc:=GFlush.enc) (fun _=>Nat.le_of_ble_eq_true rfl) (nil_of h1 ▸ fp0_0 W (ok_pre (H1:=[]) (R1:=[]) hS (fun W h=>h)))) (fun hnil=>?_)
  replace hm : some ([] : List GFlush) = some r:=by rw [hnil] at hm; exact hm
  refine c_seq<|c_region<|g_v rfl r_assign<|g_nil<|d_then<|c_ret<|d_ret_then ?_
  cases hm
  refine d_sta _ (fun W h=>nilR h 11 54 2)<|d_sta _ (fun W h=>ok_frontR (t:=11) (t':=2000) h rfl) ?_
  exact d_retC (none,0) Try.results26 (res_tmp (res_nil rfl)) (Nat.le_refl 0) (fun W h=>h.phi (fun W hφ=>hφ)) (.inr rfl)
 refine c_skip<|d_then<|c_seq<|c_region ?_
 refine g_e rfl (e_lit0 (tag:=100050) (sz:=2) Try.underlying27 isi54_15) (fun g2 _=>?_)
 refine g_v rfl r_move ?_
 replace hm:=bnd hm
 obtain ⟨l3,hl3,hm⟩:=hm
 refine g_e rfl (e_appR (enc:=GFlush.enc) (l:=[]) (l1:=p0) (l2:=l3) (tag:=100050) Try.underlying27 inf54_16 rfl (by decide) (by decide) (fun _=>rfl) (fun _=>rfl) rfl (Nat.le_refl 0) rfl rfl (fun W hS=>fp0_0 W (ok_pre (H1:=[]) (R1:=[_]) hS (fun W h=>h))) hl3) (fun ⟨A4,c5⟩ hc5=>?_)
 refine g_v rfl r_assign<|g_nil<|d_then<|c_ret ?_
 cases hm
 refine d_sta _ (fun W h=>ok_frontR (t:=100050) (t':=2000) h rfl) ?_
 exact d_retC (A4,c5) Try.results26 (res_tmp (res_nil rfl)) hc5 (fun W h=>h.phi (fun W hφ=>hφ)) (.inr rfl)
theorem bld29_17 (zA0 : Option Addr) (zn0 : Nat) (zc0 : Nat) (zA1 : Option Addr) (zn1 : Nat) (zc1 : Nat) (zA2 : Option Addr) (zn2 : Nat) (zc2 : Nat) (z3 : Int) (zA4 : Option Addr) (zn4 : Nat) (zc4 : Nat) : ∀ W,(Instr.build 29 #[(0,.slice zA0 zn0 zc0),(1,.slice zA1 zn1 zc1),(2,.slice zA2 zn2 zc2),(3,.int .i64 z3),(4,.slice zA4 zn4 zc4)]).run Try.prog W = .ok (.agg #[.slice zA0 zn0 zc0,.slice zA1 zn1 zc1,.slice zA2 zn2 zc2,.int .i64 z3,.slice zA4 zn4 zc4]) W:=fun _=>by kernel_rfl
noncomputable def m_cmp_isNaN_80 (p0 : Int) : Option Bool:=
  some (decide (p0 ≠ p0))
theorem c_cmp_isNaN_80 {w0 : World} {M : Nat→Prop} {H : List (Nat×Nat×Obj)} {R : List (Nat×Row)} {φ : World→Prop} (p0 : Int) (r : Bool) (hm : m_cmp_isNaN_80 p0 = some r) :
    Cn Try.prog 80 #[.int .i64 p0] ⟨w0,M,H,R,φ⟩ (fun x : Unit=>.bool r) (fun x=>True) (fun x=>⟨w0,M,H,R,φ⟩):=by
 unfold m_cmp_isNaN_80 at hm
 refine cn_intro (fn:=Try.f80) (N:=6) Try.func80 rfl Try.ntmps80 rfl<|c_seq<|c_region<|g_v rfl r_assign<|g_nil<|d_then<|c_seq<|c_region<|g_v rfl r_move<|g_v rfl r_move ?_
 refine g_v rfl (r_neq rfl rfl)<|g_v rfl r_assign<|g_nil<|d_then<|c_ret ?_
 cases hm
 exact d_retC () Try.results80 (res_tmp (res_nil rfl)) trivial (fun W h=>ok_pre (H1:=[]) (R1:=[]) h (fun W hφ=>hφ)) (.inr rfl)
noncomputable def m_cmp_Less_61 (p0 : Int) (p1 : Int) : Option Bool:=
  (m_cmp_isNaN_80 p0).bind fun x1=>
  if x1 = true then
    (m_cmp_isNaN_80 p1).bind fun x4=>
    if x4 = true then
      some (decide (p0 < p1))
    else
      some true
  else
    some (decide (p0 < p1))
theorem c_cmp_Less_61 {w0 : World} {M : Nat→Prop} {H : List (Nat×Nat×Obj)} {R : List (Nat×Row)} {φ : World→Prop} (p0 : Int) (p1 : Int) (r : Bool) (hm : m_cmp_Less_61 p0 p1 = some r) :
    Cn Try.prog 61 #[.int .i64 p0,.int .i64 p1] ⟨w0,M,H,R,φ⟩ (fun x : Unit=>.bool r) (fun x=>True) (fun x=>⟨w0,M,H,R,φ⟩):=by
 unfold m_cmp_Less_61 at hm
 refine cn_intro (fn:=Try.f61) (N:=17) Try.func61 rfl Try.ntmps61 rfl<|c_seq<|c_region<|g_v rfl r_assign<|g_nil<|d_then<|c_seq<|c_region<|g_v rfl r_move ?_
 replace hm:=bnd hm
 obtain ⟨x1,hx2,hm⟩:=hm
 refine g_cn ⟨w0,M,_,_,φ⟩ (fun _ h=>h) Try.call80 rfl rfl (c_cmp_isNaN_80 p0 _ hx2) (fun _ _=>?_)
 refine g_v rfl r_move ?_
 refine g_if rfl rfl rfl rfl rfl (fun h3=>?_) (fun h3=>?_)
 ·
  replace hm:=ite_t hm h3
  refine g_v rfl r_move<|g_do rfl rfl rfl rfl rfl h3 ?_
  replace hm:=bnd hm
  obtain ⟨x4,hx5,hm⟩:=hm
  refine g_cn ⟨w0,M,_,_,φ⟩ (fun _ h=>h) Try.call80 rfl rfl (c_cmp_isNaN_80 p1 _ hx5) (fun _ _=>?_)
  refine g_do rfl rfl rfl rfl rfl h3<|g_v rfl (r_not rfl)<|g_v rfl (r_pick1 rfl h3)<|g_v rfl r_move ?_
  refine g_if rfl rfl rfl rfl rfl (fun h6=>?_) (fun h6=>?_)
  ·
   have h6' : x4 = true:=by revert h6; cases x4 <;> simp
   replace hm:=ite_t hm h6'
   refine g_v rfl r_move<|g_do rfl rfl rfl rfl rfl h6<|g_v rfl r_move<|g_do rfl rfl rfl rfl rfl h6<|g_v rfl (r_lss rfl rfl)<|g_v rfl (r_pick0 rfl h6)<|g_v rfl r_assign<|g_nil<|d_then ?_
   refine c_flat [(4,.bool (decide (p0 < p1)))] ⟨rfl,trivial⟩ (fun u=>?_)
   refine c_sta ⟨w0,M,H,R,φ⟩ (fun _ h=>h)<|c_ret ?_
   cases hm
   exact d_retC () Try.results61 (res_tmp (res_nil rfl)) trivial (fun W h=>ok_pre (H1:=[]) (R1:=[]) h (fun W hφ=>hφ)) (.inr rfl)
  have h6' : x4 = false:=by revert h6; cases x4 <;> simp
  replace hm:=ite_f hm (bool_nt h6')
  refine g_no rfl rfl rfl rfl rfl h6<|g_no rfl rfl rfl rfl rfl h6<|g_v rfl (r_pick1 rfl h6)<|g_v rfl r_assign<|g_nil<|d_then ?_
  refine c_flat [(4,.bool true)] ⟨rfl,trivial⟩ (fun u=>?_)
  refine c_sta ⟨w0,M,H,R,φ⟩ (fun _ h=>h)<|c_ret ?_
  cases hm
  exact d_retC () Try.results61 (res_tmp (res_nil rfl)) trivial (fun W h=>ok_pre (H1:=[]) (R1:=[]) h (fun W hφ=>hφ)) (.inr rfl)
 replace hm:=ite_f hm (bool_nt h3)
 refine g_no rfl rfl rfl rfl rfl h3<|g_no rfl rfl rfl rfl rfl h3<|g_v rfl (r_pick0 rfl h3)<|g_v rfl r_move<|g_do rfl rfl rfl rfl rfl rfl<|g_v rfl r_move<|g_do rfl rfl rfl rfl rfl rfl<|g_v rfl r_move<|g_do rfl rfl rfl rfl rfl rfl<|g_v rfl (r_lss rfl rfl) ?_
 refine g_v rfl (r_pick0 rfl rfl)<|g_v rfl r_assign<|g_nil<|d_then ?_
 refine c_flat [(4,.bool (decide (p0 < p1)))] ⟨rfl,trivial⟩ (fun u=>?_)
 refine c_sta ⟨w0,M,H,R,φ⟩ (fun _ h=>h)<|c_ret ?_
 cases hm
 exact d_retC () Try.results61 (res_tmp (res_nil rfl)) trivial (fun W h=>ok_pre (H1:=[]) (R1:=[]) h (fun W hφ=>hφ)) (.inr rfl)
noncomputable def m_slices_isNaN_62 (p0 : Int) : Option Bool:=
  some (decide (p0 ≠ p0))
theorem c_slices_isNaN_62 {w0 : World} {M : Nat→Prop} {H : List (Nat×Nat×Obj)} {R : List (Nat×Row)} {φ : World→Prop} (p0 : Int) (r : Bool) (hm : m_slices_isNaN_62 p0 = some r) :
    Cn Try.prog 62 #[.int .i64 p0] ⟨w0,M,H,R,φ⟩ (fun x : Unit=>.bool r) (fun x=>True) (fun x=>⟨w0,M,H,R,φ⟩):=by
 unfold m_slices_isNaN_62 at hm
 refine cn_intro (fn:=Try.f62) (N:=6) Try.func62 rfl Try.ntmps62 rfl<|c_seq<|c_region<|g_v rfl r_assign<|g_nil<|d_then<|c_seq<|c_region<|g_v rfl r_move<|g_v rfl r_move ?_
 refine g_v rfl (r_neq rfl rfl)<|g_v rfl r_assign<|g_nil<|d_then<|c_ret ?_
 cases hm
 exact d_retC () Try.results62 (res_tmp (res_nil rfl)) trivial (fun W h=>ok_pre (H1:=[]) (R1:=[]) h (fun W hφ=>hφ)) (.inr rfl)
noncomputable def m_slices_BinarySearch_27_j1 (p0 : List Int) (p1 : Int) (i24 : Int) : Option (Int×Bool):=
  if i24 < (p0.length : Int) then
    (at_ p0 i24).bind fun x26=>
    if x26 = p1 then
      some (i24,true)
    else
      (at_ p0 i24).bind fun x31=>
      (m_slices_isNaN_62 x31).bind fun x35=>
      if x35 = true then
        (m_slices_isNaN_62 p1).bind fun x38=>
        some (i24,x38)
      else
        some (i24,false)
  else
    some (i24,false)
noncomputable def m_slices_BinarySearch_27_s2 (p0 : List Int) (p1 : Int) (i50 : Int) (i51 : Int) : Option ((Int×Int) ⊕ Int):=
  if i50 < i51 then
    (at_ p0 (w64 ((IntKind.u64.wrap (w64 (i50 + i51))) / 2))).bind fun x64=>
    (m_cmp_Less_61 x64 p1).bind fun x68=>
    if x68 = true then
      some (.inl (w64 ((w64 ((IntKind.u64.wrap (w64 (i50 + i51))) / 2)) + 1),i51))
    else
      some (.inl (i50,w64 ((IntKind.u64.wrap (w64 (i50 + i51))) / 2)))
  else
    some (.inr i50)
noncomputable def m_slices_BinarySearch_27 (p0 : List Int) (p1 : Int) : Option (Int×Bool):=
  (loop (fun s=>m_slices_BinarySearch_27_s2 p0 p1 s.1 s.2) (0,(p0.length : Int))).bind fun e=>m_slices_BinarySearch_27_j1 p0 p1 e
theorem c_slices_BinarySearch_27 {w0 : World} {M : Nat→Prop} {H : List (Nat×Nat×Obj)} {R : List (Nat×Row)} {φ : World→Prop} (p0 : List Int) (Ap0_0 : Option Addr) (cp0_0 : Nat) (hcp0_0 : p0.length ≤ cp0_0) (fp0_0 : ∀ W,(Sta.mk w0 M H R φ).ok W→Cl W Ap0_0 (p0.flatMap (fun x : Int=>[Value.int .i64 x]))) (p1 : Int) (r : Int×Bool) (hm : m_slices_BinarySearch_27 p0 p1 = some r) :
    Cn Try.prog 27 #[.slice Ap0_0 p0.length cp0_0,.int .i64 p1] ⟨w0,M,H,R,φ⟩ (fun x : Unit=>.tuple #[.int .i64 r.1,.bool r.2]) (fun x=>True) (fun x=>⟨w0,M,H,R,φ⟩):=by
 unfold m_slices_BinarySearch_27 at hm
 refine cn_intro (fn:=Try.f27) (N:=54) Try.func27 rfl Try.ntmps27 rfl<|c_seq<|c_region<|g_v rfl r_assign<|g_v rfl r_assign<|g_nil<|d_then<|c_seq<|c_region<|g_v rfl r_move ?_
 refine g_v rfl (r_lenL Try.underlying25 rfl)<|g_v rfl r_assign<|g_nil<|d_then<|c_seq<|c_region<|g_v rfl r_move<|g_v rfl r_assign<|g_v rfl r_assign<|g_nil ?_
 refine d_then<|c_seq ?_
 refine c_cut (ι:=Int) [0,1,6,7] (fun i24=>[(7,.int .i64 i24)]) (fun i24=>⟨w0,M,H,R,φ⟩) (fun i24=>m_slices_BinarySearch_27_j1 p0 p1 i24 = some r) ?_ (fun i24 u hm=>?_)
 ·
  refine c_block ?_
  replace hm:=bnd hm
  obtain ⟨out2,hl2,hr2⟩:=hm
  obtain ⟨n62',hl2⟩:=loop_lp hl2
  refine c_loopU (ι:=Nat×Int×Int) [0,1,6,7,8] (fun ⟨n62,i50,i51⟩=>[(7,.int .i64 i50),(8,.int .i64 i51)]) (fun ⟨n62,i50,i51⟩=>⟨w0,M,H,R,φ⟩) (fun ⟨n62,i50,i51⟩=>Lp (fun s=>m_slices_BinarySearch_27_s2 p0 p1 s.1 s.2) n62 (i50,i51) out2) (fun ⟨n62,i50,i51⟩=>n62) (n62',0,(p0.length : Int)) hl2 ⟨rfl,rfl,rfl,rfl,rfl,trivial⟩ (fun W h=>h.phi (fun W hφ=>hφ)) (fun ⟨n62,i50,i51⟩ u hlp=>?_)
  obtain ⟨o2,hm,hnx2⟩:=lp_step hlp
  clear hlp
  replace hm : m_slices_BinarySearch_27_s2 p0 p1 i50 i51 = some o2:=hm
  unfold m_slices_BinarySearch_27_s2 at hm
  refine c_flat [(0,.slice Ap0_0 p0.length cp0_0),(1,.int .i64 p1),(6,.int .i64 (p0.length : Int)),(7,.int .i64 i50),(8,.int .i64 i51)] ⟨rfl,rfl,rfl,rfl,rfl,trivial⟩ (fun u=>?_)
  refine c_sta ⟨w0,M,H,R,φ⟩ (fun _ h=>h)<|c_seq<|c_seq<|c_region<|g_v rfl r_move<|g_v rfl r_move<|g_v rfl (r_lss rfl rfl)<|g_nil<|d_then ?_
  refine c_cond rfl (fun h63=>?_) (fun h63=>?_)
  ·
   replace hm:=ite_t hm (of_decide_eq_true h63)
   refine c_skip<|d_then<|c_block<|c_seq<|c_region<|g_v rfl r_move<|g_v rfl r_move<|g_v rfl (r_add rfl rfl rfl)<|g_v rfl (r_conv Try.underlying3 Try.underlying90 rfl rfl)<|g_v rfl (r_shr (n:=2) rfl rfl (by decide) (by decide) (by decide)) ?_
   refine g_v rfl (r_conv Try.underlying90 Try.underlying3 rfl rfl)<|g_v rfl r_assign<|g_nil<|d_then ?_
   refine c_flat [(0,.slice Ap0_0 p0.length cp0_0),(1,.int .i64 p1),(6,.int .i64 (p0.length : Int)),(7,.int .i64 i50),(8,.int .i64 i51),(9,.int .i64 (w64 ((IntKind.u64.wrap (w64 (i50 + i51))) / 2)))] ⟨rfl,rfl,rfl,rfl,rfl,rfl,trivial⟩ (fun u=>?_)
   refine c_seq<|c_region<|g_v rfl r_move<|g_v rfl r_move ?_
   replace hm:=bnd hm
   obtain ⟨x64,hx64,hm⟩:=hm
   refine g_know _ (fun W hS=>cl_at (p:=(Sta.mk w0 M H R φ).ok) (sz:=1) (fun _=>rfl) (by decide) (ok_pre (H1:=[]) (R1:=[]) hS (fun W h=>h)) fp0_0 hx64) ?_
   rintro ⟨ad65,hA67,f66⟩
   refine g_v rfl (r_ix Try.underlying25 Try.sizeOf3 rfl hA67 rfl hx64)<|g_v rfl (r_ld rfl Try.isAgg3 (fun W hS=>Cl.head (f66 W (ok_pre (H1:=[]) (R1:=[]) hS (fun W h=>h)))))<|g_v rfl r_move ?_
   replace hm:=bnd hm
   obtain ⟨x68,hx69,hm⟩:=hm
   refine g_cn ⟨w0,M,_,_,φ⟩ (fun _ h=>h) Try.call61 rfl rfl (c_cmp_Less_61 x64 p1 _ hx69) (fun _ _=>?_)
   refine g_nil<|d_then ?_
   refine c_cond rfl (fun h70=>?_) (fun h70=>?_)
   ·
    replace hm:=ite_t hm h70
    refine c_region<|g_v rfl r_move<|g_v rfl (r_add rfl rfl rfl)<|g_v rfl r_assign<|g_nil<|d_normal_block ?_
    obtain ⟨n71,hn71,hlp⟩:=nx_inl hm hnx2
    exact d_round (n71,w64 ((w64 ((IntKind.u64.wrap (w64 (i50 + i51))) / 2)) + 1),i51) hlp hn71 ⟨rfl,rfl,rfl,rfl,rfl,trivial⟩ (fun W h=>h.phi (fun W hφ=>hφ))
   replace hm:=ite_f hm (bool_nt h70)
   refine c_region<|g_v rfl r_move<|g_v rfl r_assign<|g_nil<|d_normal_block ?_
   obtain ⟨n72,hn72,hlp⟩:=nx_inl hm hnx2
   exact d_round (n72,i50,w64 ((IntKind.u64.wrap (w64 (i50 + i51))) / 2)) hlp hn72 ⟨rfl,rfl,rfl,rfl,rfl,trivial⟩ (fun W h=>h.phi (fun W hφ=>hφ))
  replace hm:=ite_f hm (of_decide_eq_false h63)
  refine c_exit<|d_exit_then<|d_exit_then<|d_exit_block ?_
  replace hm:=nx_out (C:=(fun e : Int=>m_slices_BinarySearch_27_j1 p0 p1 e = some r)) hm hnx2 hr2
  exact d_round i50 hm Nat.zero_lt_one ⟨rfl,rfl,rfl,rfl,trivial⟩ (fun W h=>h.phi (fun W hφ=>hφ))
 unfold m_slices_BinarySearch_27_j1 at hm
 refine d_flat [(0,.slice Ap0_0 p0.length cp0_0),(1,.int .i64 p1),(6,.int .i64 (p0.length : Int)),(7,.int .i64 i24)] ⟨rfl,rfl,rfl,rfl,trivial⟩ (fun u=>?_)
 refine d_sta ⟨w0,M,H,R,φ⟩ (fun _ h=>h)<|d_then<|c_seq<|c_region ?_
 iterate 3 refine g_v rfl r_move ?_
 refine g_v rfl (r_lss rfl rfl)<|g_v rfl r_move ?_
 refine g_if rfl rfl rfl rfl rfl (fun h25=>?_) (fun h25=>?_)
 ·
  replace hm:=ite_t hm (of_decide_eq_true h25)
  refine g_v rfl r_move<|g_do rfl rfl rfl rfl rfl h25<|g_v rfl r_move<|g_do rfl rfl rfl rfl rfl h25 ?_
  replace hm:=bnd hm
  obtain ⟨x26,hx26,hm⟩:=hm
  refine g_know _ (fun W hS=>cl_at (p:=(Sta.mk w0 M H R φ).ok) (sz:=1) (fun _=>rfl) (by decide) (ok_pre (H1:=[]) (R1:=[]) hS (fun W h=>h)) fp0_0 hx26) ?_
  rintro ⟨ad27,hA29,f28⟩
  refine g_v rfl (r_ix Try.underlying25 Try.sizeOf3 rfl hA29 rfl hx26)<|g_do rfl rfl rfl rfl rfl h25<|g_v rfl (r_ld rfl Try.isAgg3 (fun W hS=>Cl.head (f28 W (ok_pre (H1:=[]) (R1:=[]) hS (fun W h=>h)))))<|g_do rfl rfl rfl rfl rfl h25<|g_v rfl r_move<|g_do rfl rfl rfl rfl rfl h25<|g_v rfl (r_eql rfl rfl)<|g_do rfl rfl rfl rfl rfl h25<|g_v rfl r_move ?_
  refine g_if rfl rfl rfl rfl rfl (fun h30=>?_) (fun h30=>?_)
  ·
   replace hm:=ite_f hm (of_decide_eq_false h30)
   refine g_v rfl r_move<|g_do rfl rfl rfl rfl rfl h30<|g_v rfl r_move<|g_do rfl rfl rfl rfl rfl h30 ?_
   replace hm:=bnd hm
   obtain ⟨x31,hx31,hm⟩:=hm
   refine g_know _ (fun W hS=>cl_at (p:=(Sta.mk w0 M H R φ).ok) (sz:=1) (fun _=>rfl) (by decide) (ok_pre (H1:=[]) (R1:=[]) hS (fun W h=>h)) fp0_0 hx31) ?_
   rintro ⟨ad32,hA34,f33⟩
   refine g_v rfl (r_ix Try.underlying25 Try.sizeOf3 rfl hA34 rfl hx31)<|g_do rfl rfl rfl rfl rfl h30<|g_v rfl (r_ld rfl Try.isAgg3 (fun W hS=>Cl.head (f33 W (ok_pre (H1:=[]) (R1:=[]) hS (fun W h=>h)))))<|g_do rfl rfl rfl rfl rfl h30 ?_
   replace hm:=bnd hm
   obtain ⟨x35,hx36,hm⟩:=hm
   refine g_cn ⟨w0,M,_,_,φ⟩ (fun _ h=>h) Try.call62 rfl rfl (c_slices_isNaN_62 x31 _ hx36) (fun _ _=>?_)
   refine g_do rfl rfl rfl rfl rfl h30<|g_v rfl r_move ?_
   refine g_if rfl rfl rfl rfl rfl (fun h37=>?_) (fun h37=>?_)
   ·
    replace hm:=ite_t hm h37
    refine g_v rfl r_move<|g_do rfl rfl rfl rfl rfl h37 ?_
    replace hm:=bnd hm
    obtain ⟨x38,hx39,hm⟩:=hm
    refine g_cn ⟨w0,M,_,_,φ⟩ (fun _ h=>h) Try.call62 rfl rfl (c_slices_isNaN_62 p1 _ hx39) (fun _ _=>?_)
    refine g_do rfl rfl rfl rfl rfl h30<|g_v rfl (r_pick1 rfl h37)<|g_do rfl rfl rfl rfl rfl h25<|g_v rfl (r_pick0 rfl h30)<|g_v rfl (r_pick1 rfl h25)<|g_v rfl r_assign<|g_v rfl r_assign<|g_nil<|d_then ?_
    refine c_flat [(4,.int .i64 i24),(5,.bool x38)] ⟨rfl,rfl,trivial⟩ (fun u=>?_)
    refine c_ret ?_
    cases hm
    exact d_retC () Try.results27 (res_tmp (res_tmp (res_nil rfl))) trivial (fun W h=>ok_pre (H1:=[]) (R1:=[]) h (fun W hφ=>hφ)) (.inr rfl)
   replace hm:=ite_f hm (bool_nt h37)
   refine g_no rfl rfl rfl rfl rfl h37<|g_do rfl rfl rfl rfl rfl h30<|g_v rfl (r_pick0 rfl h37)<|g_do rfl rfl rfl rfl rfl h25<|g_v rfl (r_pick0 rfl h30)<|g_v rfl (r_pick1 rfl h25)<|g_v rfl r_assign<|g_v rfl r_assign<|g_nil<|d_then ?_
   refine c_flat [(4,.int .i64 i24),(5,.bool false)] ⟨rfl,rfl,trivial⟩ (fun u=>?_)
   refine c_ret ?_
   cases hm
   exact d_retC () Try.results27 (res_tmp (res_tmp (res_nil rfl))) trivial (fun W h=>ok_pre (H1:=[]) (R1:=[]) h (fun W hφ=>hφ)) (.inr rfl)
  replace hm:=ite_t hm (of_decide_eq_true h30)
  iterate 5 refine g_no rfl rfl rfl rfl rfl h30 ?_
  refine g_nu rfl rfl rfl rfl rfl<|g_nu rfl rfl rfl rfl rfl<|g_no rfl rfl rfl rfl rfl h30<|g_do rfl rfl rfl rfl rfl h25<|g_v rfl (r_pick1 rfl h30)<|g_v rfl (r_pick1 rfl h25)<|g_v rfl r_assign<|g_v rfl r_assign<|g_nil<|d_then ?_
  refine c_flat [(4,.int .i64 i24),(5,.bool true)] ⟨rfl,rfl,trivial⟩ (fun u=>?_)
  refine c_ret ?_
  cases hm
  exact d_retC () Try.results27 (res_tmp (res_tmp (res_nil rfl))) trivial (fun W h=>ok_pre (H1:=[]) (R1:=[]) h (fun W hφ=>hφ)) (.inr rfl)
 replace hm:=ite_f hm (of_decide_eq_false h25)
 iterate 6 refine g_no rfl rfl rfl rfl rfl h25 ?_
 iterate 9 refine g_nu rfl rfl rfl rfl rfl ?_
 refine g_no rfl rfl rfl rfl rfl h25<|g_v rfl (r_pick0 rfl h25)<|g_v rfl r_assign<|g_v rfl r_assign<|g_nil<|d_then<|c_ret ?_
 cases hm
 exact d_retC () Try.results27 (res_tmp (res_tmp (res_nil rfl))) trivial (fun W h=>ok_pre (H1:=[]) (R1:=[]) h (fun W hφ=>hφ)) (.inr rfl)
noncomputable def m_name_Lower_j1  (l55 : List Int) : Option ByteArray:=
  some (strOfNums l55)
noncomputable def m_name_Lower_s2 (p0 : ByteArray) (l78 : List Int) (i79 : Int) : Option (((List Int)×Int) ⊕ (List Int)):=
  if i79 < (((bytesI p0).length) : Int) then
    (at_ l78 i79).bind fun x104=>
    if 65 ≤ x104 then
      (at_ l78 i79).bind fun x109=>
      if x109 ≤ 90 then
        (at_ l78 i79).bind fun x114=>
        (at_ l78 i79).bind fun x118=>
        (setAt l78 i79 (orI .u8 x114 32)).bind fun l122=>
        some (.inl (l122,w64 (i79 + 1)))
      else
        some (.inl (l78,w64 (i79 + 1)))
    else
      some (.inl (l78,w64 (i79 + 1)))
  else
    some (.inr l78)
noncomputable def m_name_Lower (p0 : ByteArray) : Option ByteArray:=
  (loop (fun s=>m_name_Lower_s2 p0 s.1 s.2) ((bytesI p0),0)).bind fun e=>m_name_Lower_j1 e
theorem c_name_Lower {w0 : World} {M : Nat→Prop} {H : List (Nat×Nat×Obj)} {R : List (Nat×Row)} {φ : World→Prop} (p0 : ByteArray) (r : ByteArray) (hm : m_name_Lower p0 = some r) :
    Cn Try.prog 36 #[.string p0] ⟨w0,M,H,R,φ⟩ (fun x : Unit=>.string r) (fun x=>True) (fun x=>⟨w0,M,H,R,φ⟩):=by
 unfold m_name_Lower at hm
 refine cn_intro (fn:=Try.f36) (N:=33) Try.func36 rfl Try.ntmps36 rfl<|c_seq<|c_region<|g_v rfl r_assign<|g_nil<|d_then<|c_seq<|c_region<|g_v rfl r_move ?_
 refine g_e rfl (e_bytesH 100060 Try.underlying9 Try.underlying79 Try.underlying5 rfl) (fun ⟨g5,c6,T7⟩ hc6=>?_)
 refine g_v rfl r_assign<|g_nil<|d_then<|c_seq<|c_seq<|c_region<|g_v rfl r_move<|g_v rfl (r_lenL Try.underlying79 rfl)<|g_v rfl r_move<|g_nil ?_
 refine d_then ?_
 refine c_cut (ι:=(List Int)) [3] (fun l55=>[(3,.slice (some ⟨g5,0,none⟩) ((bytesI p0).length) c6)]) (fun l55=>⟨w0,M,(100060,g5,rowO l55 T7 5)::H,R,φ⟩) (fun l55=>m_name_Lower_j1 l55 = some r∧l55.length = (bytesI p0).length) ?_ (fun l55 u ⟨hm,hl55⟩=>?_)
 ·
  refine c_block ?_
  replace hm:=bnd hm
  obtain ⟨out2,hl2,hr2⟩:=hm
  obtain ⟨n102',hl2⟩:=loop_lp hl2
  refine c_loopU (ι:=Nat×(List Int)×Int) [3,8,9] (fun ⟨n102,l78,i79⟩=>[(3,.slice (some ⟨g5,0,none⟩) ((bytesI p0).length) c6),(9,.int .i64 i79)]) (fun ⟨n102,l78,i79⟩=>⟨w0,M,(100060,g5,rowO l78 T7 5)::H,R,φ⟩) (fun ⟨n102,l78,i79⟩=>Lp (fun s=>m_name_Lower_s2 p0 s.1 s.2) n102 (l78,i79) out2∧l78.length = (bytesI p0).length) (fun ⟨n102,l78,i79⟩=>n102) (n102',(bytesI p0),0) ⟨hl2,rfl⟩ ⟨rfl,rfl,rfl,trivial⟩ (fun W h=>h.phi (fun W hφ=>hφ)) (fun ⟨n102,l78,i79⟩ u ⟨hlp,hl78⟩=>?_)
  obtain ⟨o2,hm,hnx2⟩:=lp_step hlp
  clear hlp
  replace hm : m_name_Lower_s2 p0 l78 i79 = some o2:=hm
  unfold m_name_Lower_s2 at hm
  refine c_flat [(3,.slice (some ⟨g5,0,none⟩) ((bytesI p0).length) c6),(8,.int .i64 (((bytesI p0).length) : Int)),(9,.int .i64 i79)] ⟨rfl,rfl,rfl,trivial⟩ (fun u=>?_)
  refine c_sta ⟨w0,M,(100060,g5,rowO l78 T7 5)::H,R,φ⟩ (fun _ h=>h)<|c_seq<|c_region<|g_v rfl (r_lss rfl rfl)<|g_nil<|d_then<|c_seq ?_
  refine c_cond rfl (fun h103=>?_) (fun h103=>?_)
  ·
   replace hm:=ite_t hm (of_decide_eq_true h103)
   refine c_skip<|d_then<|c_seq<|c_block<|c_seq<|c_region<|g_v rfl r_move<|g_v rfl r_assign<|g_nil<|d_then ?_
   refine c_seq<|c_region<|g_v rfl r_move<|g_v rfl r_move ?_
   replace hm:=bnd hm
   obtain ⟨x104,hx104,hm⟩:=hm
   refine g_know _ (fun W hS=>cl_at (p:=(Sta.ok ⟨w0,M,(100060,g5,rowO l78 T7 5)::H,R,φ⟩)) (sz:=1) (fun _=>rfl) (by decide) hS (hrowCl (S:=⟨w0,M,(100060,g5,rowO l78 T7 5)::H,R,φ⟩) (tag:=100060) rfl) hx104) ?_
   rintro ⟨ad105,hA107,f106⟩
   refine g_v rfl (r_ixN hl78 Try.underlying79 Try.sizeOf5 rfl hA107 rfl hx104)<|g_v rfl (r_ld rfl Try.isAgg5 (fun W hS=>Cl.head (f106 W hS)))<|g_v rfl (r_geq rfl rfl)<|g_v rfl r_move ?_
   refine g_if rfl rfl rfl rfl rfl (fun h108=>?_) (fun h108=>?_)
   ·
    replace hm:=ite_t hm (of_decide_eq_true h108)
    refine g_v rfl r_move<|g_do rfl rfl rfl rfl rfl h108<|g_v rfl r_move<|g_do rfl rfl rfl rfl rfl h108 ?_
    replace hm:=bnd hm
    obtain ⟨x109,hx109,hm⟩:=hm
    refine g_know _ (fun W hS=>cl_at (p:=(Sta.ok ⟨w0,M,(100060,g5,rowO l78 T7 5)::H,R,φ⟩)) (sz:=1) (fun _=>rfl) (by decide) hS (hrowCl (S:=⟨w0,M,(100060,g5,rowO l78 T7 5)::H,R,φ⟩) (tag:=100060) rfl) hx109) ?_
    rintro ⟨ad110,hA112,f111⟩
    refine g_v rfl (r_ixN hl78 Try.underlying79 Try.sizeOf5 rfl hA112 rfl hx109)<|g_do rfl rfl rfl rfl rfl h108<|g_v rfl (r_ld rfl Try.isAgg5 (fun W hS=>Cl.head (f111 W hS)))<|g_do rfl rfl rfl rfl rfl h108<|g_v rfl (r_leq rfl rfl)<|g_v rfl (r_pick1 rfl h108)<|g_nil<|d_then ?_
    refine c_flat [(3,.slice (some ⟨g5,0,none⟩) ((bytesI p0).length) c6),(4,.int .i64 i79),(8,.int .i64 (((bytesI p0).length) : Int)),(9,.int .i64 i79),(23,.bool (decide (x109 ≤ 90)))] ⟨rfl,rfl,rfl,rfl,rfl,trivial⟩ (fun u=>?_)
    refine c_cond rfl (fun h113=>?_) (fun h113=>?_)
    ·
     replace hm:=ite_t hm (of_decide_eq_true h113)
     refine c_region<|g_v rfl r_move<|g_v rfl r_move ?_
     replace hm:=bnd hm
     obtain ⟨x114,hx114,hm⟩:=hm
     refine g_know _ (fun W hS=>cl_at (p:=(Sta.ok ⟨w0,M,(100060,g5,rowO l78 T7 5)::H,R,φ⟩)) (sz:=1) (fun _=>rfl) (by decide) hS (hrowCl (S:=⟨w0,M,(100060,g5,rowO l78 T7 5)::H,R,φ⟩) (tag:=100060) rfl) hx114) ?_
     rintro ⟨ad115,hA117,f116⟩
     refine g_v rfl (r_ixN hl78 Try.underlying79 Try.sizeOf5 rfl hA117 rfl hx114)<|g_v rfl (r_ld rfl Try.isAgg5 (fun W hS=>Cl.head (f116 W hS)))<|g_v rfl (r_bits_or rfl rfl) ?_
     replace hm:=bnd hm
     obtain ⟨x118,hx118,hm⟩:=hm
     refine g_know _ (fun W hS=>cl_at (p:=(Sta.ok ⟨w0,M,(100060,g5,rowO l78 T7 5)::H,R,φ⟩)) (sz:=1) (fun _=>rfl) (by decide) hS (hrowCl (S:=⟨w0,M,(100060,g5,rowO l78 T7 5)::H,R,φ⟩) (tag:=100060) rfl) hx118) ?_
     rintro ⟨ad119,hA121,f120⟩
     refine g_v rfl (r_ixN hl78 Try.underlying79 Try.sizeOf5 rfl hA121 rfl hx118) ?_
     replace hm:=bnd hm
     obtain ⟨l122,hl122,hm⟩:=hm
     refine g_stH (tag:=100060) (l:=l78) rfl rfl hA121 rfl hl122 rfl Try.sizeOf5<|g_nil<|d_normal_block<|d_then<|c_region<|g_v rfl (r_add rfl rfl rfl)<|g_v rfl r_move<|g_nil ?_
     obtain ⟨n123,hn123,hlp⟩:=nx_inl hm hnx2
     exact d_round (n123,l122,w64 (i79 + 1)) ⟨hlp,((setAt_lenE hl122).trans hl78)⟩ hn123 ⟨rfl,rfl,rfl,trivial⟩ (fun W h=>h.phi (fun W hφ=>hφ))
    replace hm:=ite_f hm (of_decide_eq_false h113)
    refine c_skip<|d_normal_block<|d_then<|c_region<|g_v rfl (r_add rfl rfl rfl)<|g_v rfl r_move<|g_nil ?_
    obtain ⟨n124,hn124,hlp⟩:=nx_inl hm hnx2
    exact d_round (n124,l78,w64 (i79 + 1)) ⟨hlp,hl78⟩ hn124 ⟨rfl,rfl,rfl,trivial⟩ (fun W h=>h.phi (fun W hφ=>hφ))
   replace hm:=ite_f hm (of_decide_eq_false h108)
   iterate 4 refine g_no rfl rfl rfl rfl rfl h108 ?_
   refine g_v rfl (r_pick0 rfl h108)<|g_nil<|d_then ?_
   refine c_flat [(3,.slice (some ⟨g5,0,none⟩) ((bytesI p0).length) c6),(4,.int .i64 i79),(8,.int .i64 (((bytesI p0).length) : Int)),(9,.int .i64 i79),(23,.bool false)] ⟨rfl,rfl,rfl,rfl,rfl,trivial⟩ (fun u=>?_)
   refine c_cond0 rfl rfl<|c_skip<|d_normal_block<|d_then<|c_region<|g_v rfl (r_add rfl rfl rfl)<|g_v rfl r_move<|g_nil ?_
   obtain ⟨n125,hn125,hlp⟩:=nx_inl hm hnx2
   exact d_round (n125,l78,w64 (i79 + 1)) ⟨hlp,hl78⟩ hn125 ⟨rfl,rfl,rfl,trivial⟩ (fun W h=>h.phi (fun W hφ=>hφ))
  replace hm:=ite_f hm (of_decide_eq_false h103)
  refine c_exit<|d_exit_then<|d_exit_then<|d_exit_block ?_
  replace hm:=nx_out (C:=(fun e : (List Int)=>m_name_Lower_j1 e = some r)) hm hnx2 hr2
  exact d_round l78 ⟨hm,hl78⟩ Nat.zero_lt_one ⟨rfl,trivial⟩ (fun W h=>h.phi (fun W hφ=>hφ))
 unfold m_name_Lower_j1 at hm
 refine d_flat [(3,.slice (some ⟨g5,0,none⟩) ((bytesI p0).length) c6)] ⟨rfl,trivial⟩ (fun u=>?_)
 refine d_sta ⟨w0,M,(100060,g5,rowO l55 T7 5)::H,R,φ⟩ (fun _ h=>h)<|d_then<|c_seq<|c_region<|g_v rfl r_move<|g_v rfl (r_textN hl55 Try.underlying79 Try.underlying5 Try.underlying9 rfl (hrowCl (tag:=100060) rfl))<|g_v rfl r_assign<|g_nil<|d_then<|c_ret ?_
 cases hm
 exact d_retC () Try.results36 (res_tmp (res_nil rfl)) trivial (fun W h=>ok_pre (H1:=[_]) (R1:=[]) h (fun W hφ=>hφ)) (.inr rfl)
noncomputable def m_name_Depth (p0 : ByteArray) : Option Int:=
  (m_name_Labels p0).bind fun (z7 : (List ByteArray)×Int)=>
  if z7.2 ≠ 0 then
    some (-1)
  else
    some (z7.1.length : Int)
theorem c_name_Depth {w0 : World} {M : Nat→Prop} {H : List (Nat×Nat×Obj)} {R : List (Nat×Row)} {φ : World→Prop} (p0 : ByteArray) (r : Int) (hm : m_name_Depth p0 = some r) :
    Cn Try.prog 59 #[.string p0] ⟨w0,M,H,R,φ⟩ (fun x : Unit=>.int .i64 r) (fun x=>True) (fun x=>⟨w0,M,H,R,φ⟩):=by
 unfold m_name_Depth at hm
 refine cn_intro (fn:=Try.f59) (N:=14) Try.func59 rfl Try.ntmps59 rfl<|c_seq<|c_region<|g_v rfl r_assign<|g_nil<|d_then<|c_seq<|c_region<|g_v rfl r_move ?_
 replace hm:=bnd hm
 obtain ⟨⟨x1,x2⟩,hx3,hm⟩:=hm
 refine g_cn ⟨w0,M,_,_,φ⟩ (fun _ h=>h) Try.call77 rfl rfl (c_name_Labels p0 _ hx3) (fun ⟨A4,c5⟩ hc5=>?_)
 refine g_sta _ (fun W h=>(ok_frontR (t:=2000) (t':=100070) h rfl))<|g_v rfl r_move<|g_v rfl (r_extract rfl rfl)<|g_v rfl (r_extract rfl rfl)<|g_v rfl r_assign<|g_v rfl r_assign<|g_nil<|d_then<|c_seq<|c_seq ?_
 refine c_region<|g_v rfl r_move<|g_v rfl (r_neq rfl rfl)<|g_nil<|d_then ?_
 refine c_flat [(3,.slice A4 x1.length c5),(11,.bool (decide (x2 ≠ 0)))] ⟨rfl,rfl,trivial⟩ (fun u=>?_)
 refine c_sta ⟨w0,M,H,(100070,⟨.slice A4 x1.length c5,9,1,x1.length,x1.flatMap (fun x : ByteArray=>[Value.string x])⟩)::R,φ⟩ (fun _ h=>h) ?_
 refine c_cond rfl (fun h8=>?_) (fun h8=>?_)
 ·
  replace hm:=ite_t hm (of_decide_eq_true h8)
  refine c_seq<|c_region<|g_v rfl r_assign<|g_nil<|d_then<|c_ret<|d_ret_then ?_
  cases hm
  exact d_retC () Try.results59 (res_tmp (res_nil rfl)) trivial (fun W h=>ok_pre (H1:=[]) (R1:=[_]) h (fun W hφ=>hφ)) (.inr rfl)
 replace hm:=ite_f hm (of_decide_eq_false h8)
 refine c_skip<|d_then<|c_seq<|c_region<|g_v rfl r_move<|g_v rfl (r_lenL Try.underlying22 rfl)<|g_v rfl r_assign<|g_nil<|d_then<|c_ret ?_
 cases hm
 exact d_retC () Try.results59 (res_tmp (res_nil rfl)) trivial (fun W h=>ok_pre (H1:=[]) (R1:=[_]) h (fun W hφ=>hφ)) (.inr rfl)
noncomputable def m_slices_Reverse_93_j1  (l152 : List ByteArray) : Option (List ByteArray):=
  some l152
noncomputable def m_slices_Reverse_93_s2  (l228 : List ByteArray) (i231 : Int) (i232 : Int) : Option (((List ByteArray)×Int×Int) ⊕ (List ByteArray)):=
  if i231 < i232 then
    (at_ l228 i232).bind fun x351=>
    (at_ l228 i231).bind fun x355=>
    (at_ l228 i231).bind fun x359=>
    (setAt l228 i231 x351).bind fun l363=>
    (at_ l363 i232).bind fun x366=>
    (setAt l363 i232 x355).bind fun l370=>
    some (.inl (l370,w64 (i231 + 1),w64 (i232 - 1)))
  else
    some (.inr l228)
noncomputable def m_slices_Reverse_93 (p0 : List ByteArray) : Option (List ByteArray):=
  (loop (fun s=>m_slices_Reverse_93_s2 s.1 s.2.1 s.2.2) (p0,0,w64 ((p0.length : Int) - 1))).bind fun e=>m_slices_Reverse_93_j1 e
theorem c_slices_Reverse_93 {w0 : World} {M : Nat→Prop} {H : List (Nat×Nat×Obj)} {R : List (Nat×Row)} {φ : World→Prop} (p0 : List ByteArray) (Ap0_0 : Option Addr) (cp0_0 : Nat) (hcp0_0 : p0.length ≤ cp0_0) (r : (List ByteArray)) (hm : m_slices_Reverse_93 p0 = some r) :
    Cn Try.prog 93 #[.slice Ap0_0 p0.length cp0_0] ⟨w0,M,H,(1000,⟨.slice Ap0_0 p0.length cp0_0,9,1,p0.length,p0.flatMap (fun x : ByteArray=>[Value.string x])⟩)::R,φ⟩ (fun x : Unit=>.tuple #[]) (fun x=>r.length = p0.length) (fun x=>⟨w0,M,H,(1000,⟨.slice Ap0_0 r.length cp0_0,9,1,r.length,r.flatMap (fun x : ByteArray=>[Value.string x])⟩)::R,φ⟩):=by
 unfold m_slices_Reverse_93 at hm
 refine cn_intro (fn:=Try.f93) (N:=28) Try.func93 rfl Try.ntmps93 rfl<|c_seq<|c_region<|g_v rfl r_move<|g_v rfl (r_lenL Try.underlying22 rfl)<|g_v rfl (r_sub rfl rfl rfl)<|g_v rfl r_assign<|g_v rfl r_assign<|g_nil<|d_then ?_
 refine c_cut (ι:=(List ByteArray)) [] (fun l152=>[]) (fun l152=>⟨w0,M,H,(1000,⟨.slice Ap0_0 l152.length cp0_0,9,1,l152.length,l152.flatMap (fun x : ByteArray=>[Value.string x])⟩)::R,φ⟩) (fun l152=>m_slices_Reverse_93_j1 l152 = some r∧(l152.length ≤ cp0_0∧l152.length = p0.length)) ?_ (fun l152 u ⟨hm,hl152⟩=>?_)
 ·
  refine c_block ?_
  replace hm:=bnd hm
  obtain ⟨out2,hl2,hr2⟩:=hm
  obtain ⟨n305',hl2⟩:=loop_lp hl2
  refine c_loopU (ι:=Nat×(List ByteArray)×Int×Int) [0,2,3] (fun ⟨n305,l228,i231,i232⟩=>[(0,.slice Ap0_0 l228.length cp0_0),(2,.int .i64 i231),(3,.int .i64 i232)]) (fun ⟨n305,l228,i231,i232⟩=>⟨w0,M,H,(1000,⟨.slice Ap0_0 l228.length cp0_0,9,1,l228.length,l228.flatMap (fun x : ByteArray=>[Value.string x])⟩)::R,φ⟩) (fun ⟨n305,l228,i231,i232⟩=>Lp (fun s=>m_slices_Reverse_93_s2 s.1 s.2.1 s.2.2) n305 (l228,i231,i232) out2∧(l228.length ≤ cp0_0∧l228.length = p0.length)) (fun ⟨n305,l228,i231,i232⟩=>n305) (n305',p0,0,w64 ((p0.length : Int) - 1)) ⟨hl2,⟨hcp0_0,rfl⟩⟩ ⟨rfl,rfl,rfl,trivial⟩ (fun W h=>h.phi (fun W hφ=>hφ)) (fun ⟨n305,l228,i231,i232⟩ u ⟨hlp,hl228⟩=>?_)
  obtain ⟨o2,hm,hnx2⟩:=lp_step hlp
  clear hlp
  replace hm : m_slices_Reverse_93_s2 l228 i231 i232 = some o2:=hm
  unfold m_slices_Reverse_93_s2 at hm
  refine c_flat [(0,.slice Ap0_0 l228.length cp0_0),(2,.int .i64 i231),(3,.int .i64 i232)] ⟨rfl,rfl,rfl,trivial⟩ (fun u=>?_)
  refine c_sta ⟨w0,M,H,(1000,⟨.slice Ap0_0 l228.length cp0_0,9,1,l228.length,l228.flatMap (fun x : ByteArray=>[Value.string x])⟩)::R,φ⟩ (fun _ h=>h)<|c_seq<|c_seq<|c_region<|g_v rfl r_move<|g_v rfl r_move<|g_v rfl (r_lss rfl rfl)<|g_nil<|d_then ?_
  refine c_cond rfl (fun h306=>?_) (fun h306=>?_)
  ·
   replace hm:=ite_t hm (of_decide_eq_true h306)
   refine c_skip<|d_then<|c_seq<|c_block<|ga_start (n:=16) ⟨w0,M,H,(1000,⟨.slice Ap0_0 l228.length cp0_0,9,1,l228.length,l228.flatMap (fun x : ByteArray=>[Value.string x])⟩)::R,φ⟩ [13,15,14] #[false,false,false,false,false,false,false,false,false,false,false,false,false,false,false,false] (fun W h=>h.phi (fun W hφ=>hφ)) mixed rfl rfl<|ga_v (i:=0) (bz 16 1) rfl (by kernel_rfl) (fun _ _ _ _ h=>h) rfl (r_move)<|ga_v (i:=1) (bz 16 3) rfl (by kernel_rfl) (fun _ _ _ _ h=>h) rfl (r_move)<|ga_p (i:=2) (bz 16 7) rfl (.inl rfl) (by kernel_rfl) (fun _ _ _ _ h=>h) rfl<|ga_p (i:=3) (bz 16 15) rfl (.inl rfl) (by kernel_rfl) (fun _ _ _ _ h=>h) rfl<|ga_v (i:=4) (bz 16 31) rfl (by kernel_rfl) (fun _ _ _ _ h=>h) rfl (r_move) ?_
   refine ga_v (i:=5) (bz 16 63) rfl (by kernel_rfl) (fun _ _ _ _ h=>h) rfl (r_move) ?_
   replace hm:=bnd hm
   obtain ⟨x351,hx351,hm⟩:=hm
   refine ga_know _ (fun W hS=>cl_at (p:=(Sta.ok ⟨w0,M,H,(1000,⟨.slice Ap0_0 l228.length cp0_0,9,1,l228.length,l228.flatMap (fun x : ByteArray=>[Value.string x])⟩)::R,φ⟩)) (sz:=1) (fun _=>rfl) (by decide) (hS.phi (fun W hφ=>hφ)) (fun W hS=>rowCl (S:=⟨w0,M,H,(1000,⟨.slice Ap0_0 l228.length cp0_0,9,1,l228.length,l228.flatMap (fun x : ByteArray=>[Value.string x])⟩)::R,φ⟩) (tag:=1000) rfl W hS) hx351) ?_
   rintro ⟨ad352,hA354,f353⟩
   refine ga_v (i:=6) (bz 16 127) rfl (by kernel_rfl) (fun _ _ _ _ h=>h) rfl (r_ix Try.underlying22 Try.sizeOf9 rfl hA354 rfl hx351)<|ga_v (i:=7) (bz 16 255) rfl (by kernel_rfl) (fun _ _ _ _ h=>h) rfl (r_ld rfl Try.isAgg9 (fun W hS=>Cl.head (f353 W hS)))<|ga_v (i:=8) (bz 16 511) rfl (by kernel_rfl) (fun _ _ _ _ h=>h) rfl (r_move)<|ga_r (i:=9) (bz 16 1023) rfl (by kernel_rfl) (by decide) rfl (r_move) ?_
   replace hm:=bnd hm
   obtain ⟨x355,hx355,hm⟩:=hm
   refine ga_know _ (fun W hS=>cl_at (p:=(Sta.ok ⟨w0,M,H,(1000,⟨.slice Ap0_0 l228.length cp0_0,9,1,l228.length,l228.flatMap (fun x : ByteArray=>[Value.string x])⟩)::R,φ⟩)) (sz:=1) (fun _=>rfl) (by decide) hS (fun W hS=>rowCl (S:=⟨w0,M,H,(1000,⟨.slice Ap0_0 l228.length cp0_0,9,1,l228.length,l228.flatMap (fun x : ByteArray=>[Value.string x])⟩)::R,φ⟩) (tag:=1000) rfl W hS) hx355) ?_
   rintro ⟨ad356,hA358,f357⟩
   refine ga_r (i:=10) (bz 16 2047) rfl (by kernel_rfl) (by decide) rfl (r_ix Try.underlying22 Try.sizeOf9 rfl hA358 rfl hx355)<|ga_r (i:=11) (bz 16 4095) rfl (by kernel_rfl) (by decide) rfl (r_ld rfl Try.isAgg9 (fun W hS=>Cl.head (f357 W hS))) ?_
   replace hm:=bnd hm
   obtain ⟨x359,hx359,hm⟩:=hm
   refine ga_know _ (fun W hS=>cl_at (p:=(Sta.ok ⟨w0,M,H,(1000,⟨.slice Ap0_0 l228.length cp0_0,9,1,l228.length,l228.flatMap (fun x : ByteArray=>[Value.string x])⟩)::R,φ⟩)) (sz:=1) (fun _=>rfl) (by decide) hS (fun W hS=>rowCl (S:=⟨w0,M,H,(1000,⟨.slice Ap0_0 l228.length cp0_0,9,1,l228.length,l228.flatMap (fun x : ByteArray=>[Value.string x])⟩)::R,φ⟩) (tag:=1000) rfl W hS) hx359) ?_
   rintro ⟨ad360,hA362,f361⟩
   refine ga_r (i:=12) (bz 16 8191) rfl (by kernel_rfl) (by decide) rfl (r_ix Try.underlying22 Try.sizeOf9 rfl hA362 rfl hx359) ?_
   replace hm:=bnd hm
   obtain ⟨l363,hl363,hm⟩:=hm
   refine ga_sL (i:=13) (bz 16 16383) rfl (by kernel_rfl) (by decide) (e_stR (tag:=1000) (enc:=(fun x : ByteArray=>[Value.string x])) (l:=l228) (off:=0) (vs:=[.string x351]) (add0 rfl) hA362 rfl rfl hx359 hl363 rfl (Nat.le_of_ble_eq_true rfl) (fun _=>rfl) rfl rfl Try.sizeOf9) ?_
   rw [show l228.length = l363.length from (setAt_lenE hl363).symm]
   have hv365:=setAt_at hl363
   have f364:=cl_at2 (p:=(Sta.ok ⟨w0,M,H,(1000,⟨.slice Ap0_0 l363.length cp0_0,9,1,l363.length,l363.flatMap (fun x : ByteArray=>[Value.string x])⟩)::R,φ⟩)) (enc:=(fun x : ByteArray=>[Value.string x])) (sz:=1) (fun _=>rfl) hA362 (fun W hS=>rowCl (S:=⟨w0,M,H,(1000,⟨.slice Ap0_0 l363.length cp0_0,9,1,l363.length,l363.flatMap (fun x : ByteArray=>[Value.string x])⟩)::R,φ⟩) (tag:=1000) rfl W hS) hv365
   replace hm:=bnd hm
   obtain ⟨x366,hx366,hm⟩:=hm
   refine gz_know _ (fun W hS=>cl_at (p:=(Sta.ok ⟨w0,M,H,(1000,⟨.slice Ap0_0 l363.length cp0_0,9,1,l363.length,l363.flatMap (fun x : ByteArray=>[Value.string x])⟩)::R,φ⟩)) (sz:=1) (fun _=>rfl) (by decide) hS (fun W hS=>rowCl (S:=⟨w0,M,H,(1000,⟨.slice Ap0_0 l363.length cp0_0,9,1,l363.length,l363.flatMap (fun x : ByteArray=>[Value.string x])⟩)::R,φ⟩) (tag:=1000) rfl W hS) hx366) ?_
   rintro ⟨ad367,hA369,f368⟩
   refine gz_v (i:=14) (bz 16 32767) rfl (by kernel_rfl) (by decide) rfl (r_ix Try.underlying22 Try.sizeOf9 rfl hA369 rfl hx366) ?_
   replace hm:=bnd hm
   obtain ⟨l370,hl370,hm⟩:=hm
   refine gz_sL (i:=15) (bz 16 65535) rfl (by kernel_rfl) (by decide) (e_stR (tag:=1000) (enc:=(fun x : ByteArray=>[Value.string x])) (l:=l363) (off:=0) (vs:=[.string x355]) (add0 rfl) hA369 rfl rfl hx366 hl370 rfl (Nat.le_of_ble_eq_true rfl) (fun _=>rfl) rfl rfl Try.sizeOf9) ?_
   rw [show l363.length = l370.length from (setAt_lenE hl370).symm]
   have hv372:=setAt_at hl370
   have f371:=cl_at2 (p:=(Sta.ok ⟨w0,M,H,(1000,⟨.slice Ap0_0 l370.length cp0_0,9,1,l370.length,l370.flatMap (fun x : ByteArray=>[Value.string x])⟩)::R,φ⟩)) (enc:=(fun x : ByteArray=>[Value.string x])) (sz:=1) (fun _=>rfl) hA369 (fun W hS=>rowCl (S:=⟨w0,M,H,(1000,⟨.slice Ap0_0 l370.length cp0_0,9,1,l370.length,l370.flatMap (fun x : ByteArray=>[Value.string x])⟩)::R,φ⟩) (tag:=1000) rfl W hS) hv372
   refine gz_done (by kernel_rfl)<|d_normal_block<|d_then ?_
   refine c_flat [(0,.slice Ap0_0 l370.length cp0_0),(2,.int .i64 i231),(3,.int .i64 i232)] ⟨rfl,rfl,rfl,trivial⟩ (fun u=>?_)
   refine c_sta ⟨w0,M,H,(1000,⟨.slice Ap0_0 l370.length cp0_0,9,1,l370.length,l370.flatMap (fun x : ByteArray=>[Value.string x])⟩)::R,φ⟩ (fun _ h=>h)<|c_region<|g_v rfl r_move<|g_v rfl (r_add rfl rfl rfl)<|g_v rfl r_move<|g_v rfl (r_sub rfl rfl rfl)<|g_v rfl r_assign<|g_v rfl r_assign<|g_nil ?_
   obtain ⟨n373,hn373,hlp⟩:=nx_inl hm hnx2
   exact d_round (n373,l370,w64 (i231 + 1),w64 (i232 - 1)) ⟨hlp,⟨(setAt_len (setAt_len hl228.1 hl363) hl370),((setAt_lenE hl370).trans ((setAt_lenE hl363).trans hl228.2))⟩⟩ hn373 ⟨rfl,rfl,rfl,trivial⟩ (fun W h=>h.phi (fun W hφ=>hφ))
  replace hm:=ite_f hm (of_decide_eq_false h306)
  refine c_exit<|d_exit_then<|d_exit_then<|d_exit_block ?_
  replace hm:=nx_out (C:=(fun e : (List ByteArray)=>m_slices_Reverse_93_j1 e = some r)) hm hnx2 hr2
  exact d_round l228 ⟨hm,⟨hl228.1,hl228.2⟩⟩ Nat.zero_lt_one trivial (fun W h=>h.phi (fun W hφ=>hφ))
 unfold m_slices_Reverse_93_j1 at hm
 refine d_flat [] trivial (fun u=>?_)
 refine d_sta ⟨w0,M,H,(1000,⟨.slice Ap0_0 l152.length cp0_0,9,1,l152.length,l152.flatMap (fun x : ByteArray=>[Value.string x])⟩)::R,φ⟩ (fun _ h=>h) ?_
 cases hm
 exact d_retC () Try.results93 (res_nil rfl) hl152.2 (fun W h=>h.phi (fun W hφ=>hφ)) (.inl rfl)
noncomputable def m_name_two (p0 : ByteArray) (p1 : ByteArray) : Option ((List ByteArray)×(List ByteArray)×Bool):=
  (m_name_Lower p0).bind fun x1=>
  (m_name_Labels x1).bind fun (z9 : (List ByteArray)×Int)=>
  (m_name_Lower p1).bind fun x10=>
  (m_name_Labels x10).bind fun (z18 : (List ByteArray)×Int)=>
  (m_slices_Reverse_93 z9.1).bind fun x19=>
  (m_slices_Reverse_93 z18.1).bind fun x22=>
  if z9.2 = 0 then
    some (x19,x22,decide (z18.2 = 0))
  else
    some (x19,x22,false)
theorem c_name_two {w0 : World} {M : Nat→Prop} {H : List (Nat×Nat×Obj)} {R : List (Nat×Row)} {φ : World→Prop} (p0 : ByteArray) (p1 : ByteArray) (r : (List ByteArray)×(List ByteArray)×Bool) (hm : m_name_two p0 p1 = some r) :
    Cn Try.prog 78 #[.string p0,.string p1] ⟨w0,M,H,R,φ⟩ (fun x : Option Addr×Nat×Option Addr×Nat=>.tuple #[.slice x.1 r.1.length x.2.1,.slice x.2.2.1 r.2.1.length x.2.2.2,.bool r.2.2]) (fun x=>r.1.length ≤ x.2.1∧r.2.1.length ≤ x.2.2.2) (fun x=>⟨w0,M,H,(2000,⟨.slice x.1 r.1.length x.2.1,9,1,r.1.length,r.1.flatMap (fun x : ByteArray=>[Value.string x])⟩)::(2001,⟨.slice x.2.2.1 r.2.1.length x.2.2.2,9,1,r.2.1.length,r.2.1.flatMap (fun x : ByteArray=>[Value.string x])⟩)::R,φ⟩):=by
 unfold m_name_two at hm
 refine cn_intro (fn:=Try.f78) (N:=35) Try.func78 rfl Try.ntmps78 rfl<|c_seq<|c_region ?_
 iterate 3 refine g_v rfl r_assign ?_
 refine g_nil<|d_then<|c_seq<|c_region<|g_v rfl r_move ?_
 replace hm:=bnd hm
 obtain ⟨x1,hx2,hm⟩:=hm
 refine g_cn ⟨w0,M,_,_,φ⟩ (fun _ h=>h) Try.call36 rfl rfl (c_name_Lower p0 _ hx2) (fun _ _=>?_)
 replace hm:=bnd hm
 obtain ⟨⟨x3,x4⟩,hx5,hm⟩:=hm
 refine g_cn ⟨w0,M,_,_,φ⟩ (fun _ h=>h) Try.call77 rfl rfl (c_name_Labels x1 _ hx5) (fun ⟨A6,c7⟩ hc7=>?_)
 refine g_sta _ (fun W h=>(ok_frontR (t:=2000) (t':=100140) h rfl))<|g_v rfl r_move<|g_v rfl (r_extract rfl rfl)<|g_v rfl (r_extract rfl rfl)<|g_v rfl r_assign<|g_v rfl r_assign<|g_nil<|d_then ?_
 refine c_flat [(1,.string p1),(7,.slice A6 x3.length c7),(8,.int .i64 x4)] ⟨rfl,rfl,rfl,trivial⟩ (fun u=>?_)
 refine c_sta ⟨w0,M,H,(100140,⟨.slice A6 x3.length c7,9,1,x3.length,x3.flatMap (fun x : ByteArray=>[Value.string x])⟩)::R,φ⟩ (fun _ h=>h)<|c_seq<|c_region<|g_v rfl r_move ?_
 replace hm:=bnd hm
 obtain ⟨x10,hx11,hm⟩:=hm
 refine g_cn ⟨w0,M,_,_,φ⟩ (fun _ h=>h) Try.call36 rfl rfl (c_name_Lower p1 _ hx11) (fun _ _=>?_)
 replace hm:=bnd hm
 obtain ⟨⟨x12,x13⟩,hx14,hm⟩:=hm
 refine g_cn ⟨w0,M,_,_,φ⟩ (fun _ h=>h) Try.call77 rfl rfl (c_name_Labels x10 _ hx14) (fun ⟨A15,c16⟩ hc16=>?_)
 refine g_sta _ (fun W h=>(ok_frontR (t:=2000) (t':=100200) h rfl))<|g_v rfl r_move<|g_v rfl (r_extract rfl rfl)<|g_v rfl (r_extract rfl rfl)<|g_v rfl r_assign<|g_v rfl r_assign<|g_nil<|d_then<|c_seq<|c_region ?_
 refine g_v rfl r_move ?_
 replace hm:=bnd hm
 obtain ⟨x19,hx20,hm⟩:=hm
 refine g_cn ⟨w0,M,H,(1000,⟨.slice A6 x3.length c7,9,1,x3.length,x3.flatMap (fun x : ByteArray=>[Value.string x])⟩)::(100200,⟨.slice A15 x12.length c16,9,1,x12.length,x12.flatMap (fun x : ByteArray=>[Value.string x])⟩)::R,φ⟩ (fun W h=>(ok_frontR (t:=100140) (t':=1000) h rfl)) Try.call93 rfl rfl (c_slices_Reverse_93 x3 A6 c7 hc7 _ hx20) (fun _ hp21=>?_)
 refine g_sta _ (fun W h=>(ok_frontR (t:=1000) (t':=100140) h rfl)) ?_
 rw [show x3.length = x19.length from hp21.symm]
 refine g_nil<|d_then ?_
 refine c_flat [(7,.slice A6 x19.length c7),(8,.int .i64 x4),(9,.slice A15 x12.length c16),(10,.int .i64 x13)] ⟨rfl,rfl,rfl,rfl,trivial⟩ (fun u=>?_)
 refine c_sta ⟨w0,M,H,(100140,⟨.slice A6 x19.length c7,9,1,x19.length,x19.flatMap (fun x : ByteArray=>[Value.string x])⟩)::(100200,⟨.slice A15 x12.length c16,9,1,x12.length,x12.flatMap (fun x : ByteArray=>[Value.string x])⟩)::R,φ⟩ (fun _ h=>h)<|c_seq<|c_region<|g_v rfl r_move ?_
 replace hm:=bnd hm
 obtain ⟨x22,hx23,hm⟩:=hm
 refine g_cn ⟨w0,M,H,(1000,⟨.slice A15 x12.length c16,9,1,x12.length,x12.flatMap (fun x : ByteArray=>[Value.string x])⟩)::(100140,⟨.slice A6 x19.length c7,9,1,x19.length,x19.flatMap (fun x : ByteArray=>[Value.string x])⟩)::R,φ⟩ (fun W h=>(ok_frontR (t:=100200) (t':=1000) h rfl)) Try.call93 rfl rfl (c_slices_Reverse_93 x12 A15 c16 hc16 _ hx23) (fun _ hp24=>?_)
 refine g_sta _ (fun W h=>(ok_frontR (t:=1000) (t':=100200) h rfl)) ?_
 rw [show x12.length = x22.length from hp24.symm]
 refine g_nil<|d_then<|c_seq<|c_region ?_
 iterate 3 refine g_v rfl r_move ?_
 refine g_v rfl (r_eql rfl rfl)<|g_v rfl r_move<|g_sta ⟨w0,M,H,(100200,⟨.slice A15 x22.length c16,9,1,x22.length,x22.flatMap (fun x : ByteArray=>[Value.string x])⟩)::(100140,⟨.slice A6 x19.length c7,9,1,x19.length,x19.flatMap (fun x : ByteArray=>[Value.string x])⟩)::R,φ⟩ (fun _ h=>h) ?_
 refine g_if rfl rfl rfl rfl rfl (fun h25=>?_) (fun h25=>?_)
 ·
  replace hm:=ite_t hm (of_decide_eq_true h25)
  refine g_v rfl r_move<|g_do rfl rfl rfl rfl rfl h25<|g_v rfl (r_eql rfl rfl)<|g_v rfl (r_pick1 rfl h25) ?_
  iterate 3 refine g_v rfl r_assign ?_
  refine g_nil<|d_then ?_
  refine c_flat [(4,.slice A6 x19.length c7),(5,.slice A15 x22.length c16),(6,.bool (decide (x13 = 0)))] ⟨rfl,rfl,rfl,trivial⟩ (fun u=>?_)
  refine c_ret ?_
  cases hm
  refine d_sta _ (fun W h=>ok_frontR (t:=100200) (t':=2001) h rfl)<|d_sta _ (fun W h=>ok_frontR (t:=100140) (t':=2000) h rfl) ?_
  exact d_retC (A6,c7,A15,c16) Try.results78 (res_tmp (res_tmp (res_tmp (res_nil rfl)))) ⟨(Nat.le_trans (Nat.le_of_eq hp21) hc7),(Nat.le_trans (Nat.le_of_eq hp24) hc16)⟩ (fun W h=>h.phi (fun W hφ=>hφ)) (.inr rfl)
 replace hm:=ite_f hm (of_decide_eq_false h25)
 refine g_no rfl rfl rfl rfl rfl h25<|g_v rfl (r_pick0 rfl h25) ?_
 iterate 3 refine g_v rfl r_assign ?_
 refine g_nil<|d_then ?_
 refine c_flat [(4,.slice A6 x19.length c7),(5,.slice A15 x22.length c16),(6,.bool false)] ⟨rfl,rfl,rfl,trivial⟩ (fun u=>?_)
 refine c_ret ?_
 cases hm
 refine d_sta _ (fun W h=>ok_frontR (t:=100200) (t':=2001) h rfl)<|d_sta _ (fun W h=>ok_frontR (t:=100140) (t':=2000) h rfl) ?_
 exact d_retC (A6,c7,A15,c16) Try.results78 (res_tmp (res_tmp (res_tmp (res_nil rfl)))) ⟨(Nat.le_trans (Nat.le_of_eq hp21) hc7),(Nat.le_trans (Nat.le_of_eq hp24) hc16)⟩ (fun W h=>h.phi (fun W hφ=>hφ)) (.inr rfl)
noncomputable def m_name_Shared_c1 (p0 : Int) (o0 : List ByteArray) (o1 : List ByteArray) : Option Bool:=
  if p0 < (o0.length : Int) then
    if p0 < (o1.length : Int) then
      (at_ o0 p0).bind fun x23=>
      (at_ o1 p0).bind fun x27=>
      some (decide (x23 = x27))
    else
      some false
  else
    some false
theorem c_name_Shared_c1 {w0 : World} {M : Nat→Prop} {H : List (Nat×Nat×Obj)} {R : List (Nat×Row)} {φ : World→Prop} (p0 : Int) (go0 : Nat) (o0 : List ByteArray) (Ao0_0 : Option Addr) (co0_0 : Nat) (hco0_0 : o0.length ≤ co0_0) (go1 : Nat) (o1 : List ByteArray) (Ao1_0 : Option Addr) (co1_0 : Nat) (hco1_0 : o1.length ≤ co1_0) (r : Bool) (hm : m_name_Shared_c1 p0 o0 o1 = some r) :
    Cn Try.prog 79 #[.int .i64 p0,.pointer (some ⟨go0,0,none⟩),.pointer (some ⟨go1,0,none⟩)] ⟨w0,M,(1000,go0,.cells #[.slice Ao0_0 o0.length co0_0] 22 (0,0))::(1001,go1,.cells #[.slice Ao1_0 o1.length co1_0] 22 (0,0))::H,(1000,⟨.slice Ao0_0 o0.length co0_0,9,1,o0.length,o0.flatMap (fun x : ByteArray=>[Value.string x])⟩)::(1001,⟨.slice Ao1_0 o1.length co1_0,9,1,o1.length,o1.flatMap (fun x : ByteArray=>[Value.string x])⟩)::R,φ⟩ (fun x : Unit=>.bool r) (fun x=>True) (fun x=>⟨w0,M,(1000,go0,.cells #[.slice Ao0_0 o0.length co0_0] 22 (0,0))::(1001,go1,.cells #[.slice Ao1_0 o1.length co1_0] 22 (0,0))::H,(1000,⟨.slice Ao0_0 o0.length co0_0,9,1,o0.length,o0.flatMap (fun x : ByteArray=>[Value.string x])⟩)::(1001,⟨.slice Ao1_0 o1.length co1_0,9,1,o1.length,o1.flatMap (fun x : ByteArray=>[Value.string x])⟩)::R,φ⟩):=by
 unfold m_name_Shared_c1 at hm
 refine cn_intro (fn:=Try.f79) (N:=26) Try.func79 rfl Try.ntmps79 rfl<|c_seq<|c_region<|g_v rfl r_assign<|g_nil<|d_then<|c_seq<|ga_start (n:=22) ⟨w0,M,(1000,go0,.cells #[.slice Ao0_0 o0.length co0_0] 22 (0,0))::(1001,go1,.cells #[.slice Ao1_0 o1.length co1_0] 22 (0,0))::H,(1000,⟨.slice Ao0_0 o0.length co0_0,9,1,o0.length,o0.flatMap (fun x : ByteArray=>[Value.string x])⟩)::(1001,⟨.slice Ao1_0 o1.length co1_0,9,1,o1.length,o1.flatMap (fun x : ByteArray=>[Value.string x])⟩)::R,φ⟩ [] #[false,false,false,false,false,false,false,false,false,false,false,false,false,false,false,false,false,false,false,false,false,false] (fun W h=>h.phi (fun W hφ=>hφ)) mixed rfl rfl<|ga_v (i:=0) (bz 22 1) rfl (by kernel_rfl) (fun _ _ _ _ h=>h) rfl (r_move)<|ga_r (i:=1) (bz 22 3) rfl (by kernel_rfl) (by decide) rfl (r_load (tag:=1000) rfl rfl rfl Try.isAgg22) ?_
 refine ga_r (i:=2) (bz 22 7) rfl (by kernel_rfl) (by decide) rfl (r_lenL Try.underlying22 rfl)<|ga_r (i:=3) (bz 22 15) rfl (by kernel_rfl) (by decide) rfl (r_lss rfl rfl)<|ga_r (i:=4) (bz 22 31) rfl (by kernel_rfl) (by decide) rfl (r_move) ?_
 refine ga_if (t:=9) rfl (fun h21=>?_) (fun h21=>?_)
 ·
  replace hm:=ite_t hm (of_decide_eq_true h21)
  refine ga_do (i:=5) (bz 22 63) rfl (by kernel_rfl) (fun _ _ _ _ h=>h) rfl rfl rfl rfl rfl h21 (r_move)<|ga_rG (i:=6) (bz 22 127) rfl (by kernel_rfl) (by decide) rfl rfl rfl rfl rfl h21 (r_load (tag:=1001) rfl rfl rfl Try.isAgg22)<|ga_rG (i:=7) (bz 22 255) rfl (by kernel_rfl) (by decide) rfl rfl rfl rfl rfl h21 (r_lenL Try.underlying22 rfl)<|ga_rG (i:=8) (bz 22 511) rfl (by kernel_rfl) (by decide) rfl rfl rfl rfl rfl h21 (r_lss rfl rfl)<|ga_r (i:=9) (bz 22 1023) rfl (by kernel_rfl) (by decide) rfl (r_pick1 rfl h21)<|ga_r (i:=10) (bz 22 2047) rfl (by kernel_rfl) (by decide) rfl (r_move) ?_
  refine ga_if (t:=15) rfl (fun h22=>?_) (fun h22=>?_)
  ·
   replace hm:=ite_t hm (of_decide_eq_true h22)
   refine ga_do (i:=11) (bz 22 4095) rfl (by kernel_rfl) (fun _ _ _ _ h=>h) rfl rfl rfl rfl rfl h22 (r_load (tag:=1000) rfl rfl rfl Try.isAgg22)<|ga_do (i:=12) (bz 22 8191) rfl (by kernel_rfl) (fun _ _ _ _ h=>h) rfl rfl rfl rfl rfl h22 (r_move) ?_
   replace hm:=bnd hm
   obtain ⟨x23,hx23,hm⟩:=hm
   refine ga_know _ (fun W hS=>cl_at (p:=(Sta.ok ⟨w0,M,(1000,go0,.cells #[.slice Ao0_0 o0.length co0_0] 22 (0,0))::(1001,go1,.cells #[.slice Ao1_0 o1.length co1_0] 22 (0,0))::H,(1000,⟨.slice Ao0_0 o0.length co0_0,9,1,o0.length,o0.flatMap (fun x : ByteArray=>[Value.string x])⟩)::(1001,⟨.slice Ao1_0 o1.length co1_0,9,1,o1.length,o1.flatMap (fun x : ByteArray=>[Value.string x])⟩)::R,φ⟩)) (sz:=1) (fun _=>rfl) (by decide) (hS.phi (fun W hφ=>hφ)) (fun W hS=>rowCl (S:=⟨w0,M,(1000,go0,.cells #[.slice Ao0_0 o0.length co0_0] 22 (0,0))::(1001,go1,.cells #[.slice Ao1_0 o1.length co1_0] 22 (0,0))::H,(1000,⟨.slice Ao0_0 o0.length co0_0,9,1,o0.length,o0.flatMap (fun x : ByteArray=>[Value.string x])⟩)::(1001,⟨.slice Ao1_0 o1.length co1_0,9,1,o1.length,o1.flatMap (fun x : ByteArray=>[Value.string x])⟩)::R,φ⟩) (tag:=1000) rfl W hS) hx23) ?_
   rintro ⟨ad24,hA26,f25⟩
   refine ga_do (i:=13) (bz 22 16383) rfl (by kernel_rfl) (fun _ _ _ _ h=>h) rfl rfl rfl rfl rfl h22 (r_ix Try.underlying22 Try.sizeOf9 rfl hA26 rfl hx23)<|ga_do (i:=14) (bz 22 32767) rfl (by kernel_rfl) (fun _ _ _ _ h=>h) rfl rfl rfl rfl rfl h22 (r_ld rfl Try.isAgg9 (fun W hS=>Cl.head (f25 W hS)))<|ga_do (i:=15) (bz 22 65535) rfl (by kernel_rfl) (fun _ _ _ _ h=>h) rfl rfl rfl rfl rfl h22 (r_load (tag:=1001) rfl rfl rfl Try.isAgg22)<|ga_rG (i:=16) (bz 22 131071) rfl (by kernel_rfl) (by decide) rfl rfl rfl rfl rfl h22 (r_move) ?_
   replace hm:=bnd hm
   obtain ⟨x27,hx27,hm⟩:=hm
   refine ga_know _ (fun W hS=>cl_at (p:=(Sta.ok ⟨w0,M,(1000,go0,.cells #[.slice Ao0_0 o0.length co0_0] 22 (0,0))::(1001,go1,.cells #[.slice Ao1_0 o1.length co1_0] 22 (0,0))::H,(1000,⟨.slice Ao0_0 o0.length co0_0,9,1,o0.length,o0.flatMap (fun x : ByteArray=>[Value.string x])⟩)::(1001,⟨.slice Ao1_0 o1.length co1_0,9,1,o1.length,o1.flatMap (fun x : ByteArray=>[Value.string x])⟩)::R,φ⟩)) (sz:=1) (fun _=>rfl) (by decide) hS (fun W hS=>rowCl (S:=⟨w0,M,(1000,go0,.cells #[.slice Ao0_0 o0.length co0_0] 22 (0,0))::(1001,go1,.cells #[.slice Ao1_0 o1.length co1_0] 22 (0,0))::H,(1000,⟨.slice Ao0_0 o0.length co0_0,9,1,o0.length,o0.flatMap (fun x : ByteArray=>[Value.string x])⟩)::(1001,⟨.slice Ao1_0 o1.length co1_0,9,1,o1.length,o1.flatMap (fun x : ByteArray=>[Value.string x])⟩)::R,φ⟩) (tag:=1001) rfl W hS) hx27) ?_
   rintro ⟨ad28,hA30,f29⟩
   refine ga_rG (i:=17) (bz 22 262143) rfl (by kernel_rfl) (by decide) rfl rfl rfl rfl rfl h22 (r_ix Try.underlying22 Try.sizeOf9 rfl hA30 rfl hx27)<|ga_rG (i:=18) (bz 22 524287) rfl (by kernel_rfl) (by decide) rfl rfl rfl rfl rfl h22 (r_ld rfl Try.isAgg9 (fun W hS=>Cl.head (f29 W hS)))<|ga_rG (i:=19) (bz 22 1048575) rfl (by kernel_rfl) (by decide) rfl rfl rfl rfl rfl h22 (r_eqlT rfl rfl)<|ga_r (i:=20) (bz 22 2097151) rfl (by kernel_rfl) (by decide) rfl (r_pick1 rfl h22)<|ga_r (i:=21) (bz 22 4194303) rfl (by kernel_rfl) (by decide) rfl (r_assign)<|ga_done (by kernel_rfl)<|d_then ?_
   refine c_flat [(4,.bool (decide (x23 = x27)))] ⟨rfl,trivial⟩ (fun u=>?_)
   refine c_sta ⟨w0,M,(1000,go0,.cells #[.slice Ao0_0 o0.length co0_0] 22 (0,0))::(1001,go1,.cells #[.slice Ao1_0 o1.length co1_0] 22 (0,0))::H,(1000,⟨.slice Ao0_0 o0.length co0_0,9,1,o0.length,o0.flatMap (fun x : ByteArray=>[Value.string x])⟩)::(1001,⟨.slice Ao1_0 o1.length co1_0,9,1,o1.length,o1.flatMap (fun x : ByteArray=>[Value.string x])⟩)::R,φ⟩ (fun _ h=>h)<|c_ret ?_
   cases hm
   exact d_retC () Try.results79 (res_tmp (res_nil rfl)) trivial (fun W h=>h.phi (fun W hφ=>hφ)) (.inr rfl)
  replace hm:=ite_f hm (of_decide_eq_false h22)
  refine ga_no (i:=11) (bz 22 4095) rfl (by kernel_rfl) (fun _ _ _ _ h=>h) rfl rfl rfl rfl rfl h22<|ga_no (i:=12) (bz 22 8191) rfl (by kernel_rfl) (fun _ _ _ _ h=>h) rfl rfl rfl rfl rfl h22<|ga_no (i:=13) (bz 22 16383) rfl (by kernel_rfl) (fun _ _ _ _ h=>h) rfl rfl rfl rfl rfl h22<|ga_no (i:=14) (bz 22 32767) rfl (by kernel_rfl) (fun _ _ _ _ h=>h) rfl rfl rfl rfl rfl h22<|ga_no (i:=15) (bz 22 65535) rfl (by kernel_rfl) (fun _ _ _ _ h=>h) rfl rfl rfl rfl rfl h22<|ga_no (i:=16) (bz 22 131071) rfl (by kernel_rfl) (fun _ _ _ _ h=>h) rfl rfl rfl rfl rfl h22<|ga_no (i:=17) (bz 22 262143) rfl (by kernel_rfl) (fun _ _ _ _ h=>h) rfl rfl rfl rfl rfl h22<|ga_no (i:=18) (bz 22 524287) rfl (by kernel_rfl) (fun _ _ _ _ h=>h) rfl rfl rfl rfl rfl h22<|ga_no (i:=19) (bz 22 1048575) rfl (by kernel_rfl) (fun _ _ _ _ h=>h) rfl rfl rfl rfl rfl h22<|ga_r (i:=20) (bz 22 2097151) rfl (by kernel_rfl) (by decide) rfl (r_pick0 rfl h22) ?_
  refine ga_r (i:=21) (bz 22 4194303) rfl (by kernel_rfl) (by decide) rfl (r_assign)<|ga_done (by kernel_rfl)<|d_then ?_
  refine c_flat [(4,.bool false)] ⟨rfl,trivial⟩ (fun u=>?_)
  refine c_sta ⟨w0,M,(1000,go0,.cells #[.slice Ao0_0 o0.length co0_0] 22 (0,0))::(1001,go1,.cells #[.slice Ao1_0 o1.length co1_0] 22 (0,0))::H,(1000,⟨.slice Ao0_0 o0.length co0_0,9,1,o0.length,o0.flatMap (fun x : ByteArray=>[Value.string x])⟩)::(1001,⟨.slice Ao1_0 o1.length co1_0,9,1,o1.length,o1.flatMap (fun x : ByteArray=>[Value.string x])⟩)::R,φ⟩ (fun _ h=>h)<|c_ret ?_
  cases hm
  exact d_retC () Try.results79 (res_tmp (res_nil rfl)) trivial (fun W h=>h.phi (fun W hφ=>hφ)) (.inr rfl)
 replace hm:=ite_f hm (of_decide_eq_false h21)
 refine ga_no (i:=5) (bz 22 63) rfl (by kernel_rfl) (fun _ _ _ _ h=>h) rfl rfl rfl rfl rfl h21<|ga_no (i:=6) (bz 22 127) rfl (by kernel_rfl) (fun _ _ _ _ h=>h) rfl rfl rfl rfl rfl h21<|ga_no (i:=7) (bz 22 255) rfl (by kernel_rfl) (fun _ _ _ _ h=>h) rfl rfl rfl rfl rfl h21<|ga_no (i:=8) (bz 22 511) rfl (by kernel_rfl) (fun _ _ _ _ h=>h) rfl rfl rfl rfl rfl h21<|ga_r (i:=9) (bz 22 1023) rfl (by kernel_rfl) (by decide) rfl (r_pick0 rfl h21)<|ga_r (i:=10) (bz 22 2047) rfl (by kernel_rfl) (by decide) rfl (r_move)<|ga_no (i:=11) (bz 22 4095) rfl (by kernel_rfl) (fun _ _ _ _ h=>h) rfl rfl rfl rfl rfl rfl<|ga_no (i:=12) (bz 22 8191) rfl (by kernel_rfl) (fun _ _ _ _ h=>h) rfl rfl rfl rfl rfl rfl<|ga_no (i:=13) (bz 22 16383) rfl (by kernel_rfl) (fun _ _ _ _ h=>h) rfl rfl rfl rfl rfl rfl<|ga_no (i:=14) (bz 22 32767) rfl (by kernel_rfl) (fun _ _ _ _ h=>h) rfl rfl rfl rfl rfl rfl ?_
 refine ga_no (i:=15) (bz 22 65535) rfl (by kernel_rfl) (fun _ _ _ _ h=>h) rfl rfl rfl rfl rfl rfl<|ga_no (i:=16) (bz 22 131071) rfl (by kernel_rfl) (fun _ _ _ _ h=>h) rfl rfl rfl rfl rfl rfl<|ga_no (i:=17) (bz 22 262143) rfl (by kernel_rfl) (fun _ _ _ _ h=>h) rfl rfl rfl rfl rfl rfl<|ga_no (i:=18) (bz 22 524287) rfl (by kernel_rfl) (fun _ _ _ _ h=>h) rfl rfl rfl rfl rfl rfl<|ga_no (i:=19) (bz 22 1048575) rfl (by kernel_rfl) (fun _ _ _ _ h=>h) rfl rfl rfl rfl rfl rfl<|ga_r (i:=20) (bz 22 2097151) rfl (by kernel_rfl) (by decide) rfl (r_pick0 rfl rfl)<|ga_r (i:=21) (bz 22 4194303) rfl (by kernel_rfl) (by decide) rfl (r_assign)<|ga_done (by kernel_rfl)<|d_then ?_
 refine c_flat [(4,.bool false)] ⟨rfl,trivial⟩ (fun u=>?_)
 refine c_sta ⟨w0,M,(1000,go0,.cells #[.slice Ao0_0 o0.length co0_0] 22 (0,0))::(1001,go1,.cells #[.slice Ao1_0 o1.length co1_0] 22 (0,0))::H,(1000,⟨.slice Ao0_0 o0.length co0_0,9,1,o0.length,o0.flatMap (fun x : ByteArray=>[Value.string x])⟩)::(1001,⟨.slice Ao1_0 o1.length co1_0,9,1,o1.length,o1.flatMap (fun x : ByteArray=>[Value.string x])⟩)::R,φ⟩ (fun _ h=>h)<|c_ret ?_
 cases hm
 exact d_retC () Try.results79 (res_tmp (res_nil rfl)) trivial (fun W h=>h.phi (fun W hφ=>hφ)) (.inr rfl)
noncomputable def m_name_Shared_j1  (i25 : Int) : Option Int:=
  some i25
noncomputable def m_name_Shared_s2 (x1 : List ByteArray) (x2 : List ByteArray) (i30 : Int) : Option (Int ⊕ Int):=
  (m_name_Shared_c1 i30 x1 x2).bind fun x36=>
  if x36 = true then
    some (.inl (w64 (i30 + 1)))
  else
    some (.inr i30)
noncomputable def m_name_Shared (p0 : ByteArray) (p1 : ByteArray) : Option Int:=
  (m_name_two p0 p1).bind fun (z11 : (List ByteArray)×(List ByteArray)×Bool)=>
  if z11.2.2 = true then
    (loop (fun s=>m_name_Shared_s2 z11.1 z11.2.1 s) 0).bind fun e=>m_name_Shared_j1 e
  else
    some (-1)
theorem c_name_Shared {w0 : World} {M : Nat→Prop} {H : List (Nat×Nat×Obj)} {R : List (Nat×Row)} {φ : World→Prop} (p0 : ByteArray) (p1 : ByteArray) (r : Int) (hm : m_name_Shared p0 p1 = some r) :
    Cn Try.prog 60 #[.string p0,.string p1] ⟨w0,M,H,R,φ⟩ (fun x : Unit=>.int .i64 r) (fun x=>True) (fun x=>⟨w0,M,H,R,φ⟩):=by
 unfold m_name_Shared at hm
 refine cn_intro (fn:=Try.f60) (N:=26) Try.func60 rfl Try.ntmps60 rfl<|c_seq<|c_region<|g_v rfl r_assign<|g_nil<|d_then<|c_seq<|c_region<|g_v rfl r_move<|g_v rfl r_move ?_
 replace hm:=bnd hm
 obtain ⟨⟨x1,x2,x3⟩,hx4,hm⟩:=hm
 refine g_cn ⟨w0,M,_,_,φ⟩ (fun _ h=>h) Try.call78 rfl rfl (c_name_two p0 p1 _ hx4) (fun ⟨A5,c6,A8,c9⟩ ⟨hc6,hc9⟩=>?_)
 refine g_sta _ (fun W h=>(ok_frontR (t:=2000) (t':=100130) (ok_frontR (t:=2001) (t':=100131) h rfl) rfl))<|g_v rfl r_move ?_
 iterate 3 refine g_v rfl (r_extract rfl rfl) ?_
 refine g_e rfl (e_alloc 100050 Try.zeroValue22) (fun g12 _=>?_)
 refine g_e rfl (e_alloc 100060 Try.zeroValue22) (fun g13 _=>?_)
 refine g_storeL (tag:=100050) rfl rfl rfl rfl Try.sizeOf22 rfl rfl<|g_storeL (tag:=100060) rfl rfl rfl rfl Try.sizeOf22 rfl rfl<|g_v rfl r_assign<|g_nil<|d_then ?_
 refine c_flat [(5,.pointer (some ⟨g12,0,none⟩)),(6,.pointer (some ⟨g13,0,none⟩)),(7,.bool x3)] ⟨rfl,rfl,rfl,trivial⟩ (fun u=>?_)
 refine c_sta ⟨w0,M,(100060,g13,.cells #[.slice A8 x2.length c9] 22 (0,0))::(100050,g12,.cells #[.slice A5 x1.length c6] 22 (0,0))::H,(100130,⟨.slice A5 x1.length c6,9,1,x1.length,x1.flatMap (fun x : ByteArray=>[Value.string x])⟩)::(100131,⟨.slice A8 x2.length c9,9,1,x2.length,x2.flatMap (fun x : ByteArray=>[Value.string x])⟩)::R,φ⟩ (fun _ h=>h)<|c_seq<|c_seq<|c_region<|g_v rfl r_move<|g_v rfl (r_not rfl)<|g_nil<|d_then ?_
 refine c_cond rfl (fun h14=>?_) (fun h14=>?_)
 ·
  have h14' : x3 = false:=by revert h14; cases x3 <;> simp
  replace hm:=ite_f hm (bool_nt h14')
  refine c_seq<|c_region<|g_v rfl r_assign<|g_nil<|d_then<|c_ret<|d_ret_then ?_
  cases hm
  exact d_retC () Try.results60 (res_tmp (res_nil rfl)) trivial (fun W h=>ok_pre (H1:=[_,_]) (R1:=[_,_]) h (fun W hφ=>hφ)) (.inr rfl)
 have h14' : x3 = true:=by revert h14; cases x3 <;> simp
 replace hm:=ite_t hm h14'
 refine c_skip<|d_then<|c_seq<|c_region<|g_v rfl (r_mkf rfl)<|g_v rfl r_assign<|g_nil<|d_then<|c_seq<|c_region ?_
 refine g_v rfl r_assign<|g_nil<|d_then<|c_seq ?_
 refine c_cut (ι:=Int) [9] (fun i25=>[(9,.int .i64 i25)]) (fun i25=>⟨w0,M,H,R,φ⟩) (fun i25=>m_name_Shared_j1 i25 = some r) ?_ (fun i25 u hm=>?_)
 ·
  refine c_block ?_
  replace hm:=bnd hm
  obtain ⟨out2,hl2,hr2⟩:=hm
  obtain ⟨n35',hl2⟩:=loop_lp hl2
  refine c_loopU (ι:=Nat×Int) [8,9] (fun ⟨n35,i30⟩=>[(9,.int .i64 i30)]) (fun ⟨n35,i30⟩=>⟨w0,M,(100060,g13,.cells #[.slice A8 x2.length c9] 22 (0,0))::(100050,g12,.cells #[.slice A5 x1.length c6] 22 (0,0))::H,(100130,⟨.slice A5 x1.length c6,9,1,x1.length,x1.flatMap (fun x : ByteArray=>[Value.string x])⟩)::(100131,⟨.slice A8 x2.length c9,9,1,x2.length,x2.flatMap (fun x : ByteArray=>[Value.string x])⟩)::R,φ⟩) (fun ⟨n35,i30⟩=>Lp (fun s=>m_name_Shared_s2 x1 x2 s) n35 i30 out2) (fun ⟨n35,i30⟩=>n35) (n35',0) hl2 ⟨rfl,rfl,trivial⟩ (fun W h=>h.phi (fun W hφ=>hφ)) (fun ⟨n35,i30⟩ u hlp=>?_)
  obtain ⟨o2,hm,hnx2⟩:=lp_step hlp
  clear hlp
  replace hm : m_name_Shared_s2 x1 x2 i30 = some o2:=hm
  unfold m_name_Shared_s2 at hm
  refine c_flat [(8,.func (.func 79) #[] #[.pointer (some ⟨g12,0,none⟩),.pointer (some ⟨g13,0,none⟩)]),(9,.int .i64 i30)] ⟨rfl,rfl,trivial⟩ (fun u=>?_)
  refine c_seq<|c_seq<|c_region<|g_v rfl r_move<|g_v rfl r_move ?_
  replace hm:=bnd hm
  obtain ⟨x36,hx37,hm⟩:=hm
  refine g_cnv ⟨w0,M,(1000,g12,.cells #[.slice A5 x1.length c6] 22 (0,0))::(1001,g13,.cells #[.slice A8 x2.length c9] 22 (0,0))::H,(1000,⟨.slice A5 x1.length c6,9,1,x1.length,x1.flatMap (fun x : ByteArray=>[Value.string x])⟩)::(1001,⟨.slice A8 x2.length c9,9,1,x2.length,x2.flatMap (fun x : ByteArray=>[Value.string x])⟩)::R,φ⟩ (fun W h=>(ok_front (t:=100050) (t':=1000) (ok_front (t:=100060) (t':=1001) (ok_frontR (t:=100130) (t':=1000) (ok_frontR (t:=100131) (t':=1001) h rfl) rfl) rfl) rfl)) Try.call79 rfl rfl rfl (c_name_Shared_c1 i30 g12 x1 A5 c6 hc6 g13 x2 A8 c9 hc9 _ hx37) (fun _ _=>?_)
  refine g_sta _ (fun W h=>(ok_frontR (t:=1000) (t':=100130) (ok_frontR (t:=1001) (t':=100131) (ok_front (t:=1000) (t':=100050) (ok_front (t:=1001) (t':=100060) h rfl) rfl) rfl) rfl))<|g_nil<|d_then<|c_sta ⟨w0,M,(100050,g12,.cells #[.slice A5 x1.length c6] 22 (0,0))::(100060,g13,.cells #[.slice A8 x2.length c9] 22 (0,0))::H,(100130,⟨.slice A5 x1.length c6,9,1,x1.length,x1.flatMap (fun x : ByteArray=>[Value.string x])⟩)::(100131,⟨.slice A8 x2.length c9,9,1,x2.length,x2.flatMap (fun x : ByteArray=>[Value.string x])⟩)::R,φ⟩ (fun _ h=>h) ?_
  refine c_cond rfl (fun h38=>?_) (fun h38=>?_)
  ·
   replace hm:=ite_t hm h38
   refine c_skip<|d_then<|c_block<|c_region<|g_v rfl r_move<|g_v rfl (r_add rfl rfl rfl)<|g_v rfl r_assign<|g_nil<|d_normal_block ?_
   obtain ⟨n39,hn39,hlp⟩:=nx_inl hm hnx2
   exact d_round (n39,w64 (i30 + 1)) hlp hn39 ⟨rfl,rfl,trivial⟩ (fun W h=>(ok_front (t:=100060) (t':=100060) (ok_front (t:=100050) (t':=100050) h rfl) rfl).phi (fun W hφ=>hφ))
  replace hm:=ite_f hm (bool_nt h38)
  refine c_exit<|d_exit_then<|d_exit_then<|d_exit_block ?_
  replace hm:=nx_out (C:=(fun e : Int=>m_name_Shared_j1 e = some r)) hm hnx2 hr2
  exact d_round i30 hm Nat.zero_lt_one ⟨rfl,trivial⟩ (fun W h=>((((h.dropR (t:=100130) rfl).dropR (t:=100131) rfl).dropH (t:=100050) rfl).dropH (t:=100060) rfl).phi (fun W hφ=>hφ))
 unfold m_name_Shared_j1 at hm
 refine d_flat [(9,.int .i64 i25)] ⟨rfl,trivial⟩ (fun u=>?_)
 refine d_sta ⟨w0,M,H,R,φ⟩ (fun _ h=>h)<|d_then<|c_seq<|c_region<|g_v rfl r_move<|g_v rfl r_assign<|g_nil<|d_then<|c_ret ?_
 cases hm
 exact d_retC () Try.results60 (res_tmp (res_nil rfl)) trivial (fun W h=>ok_pre (H1:=[]) (R1:=[]) h (fun W hφ=>hφ)) (.inr rfl)
noncomputable def m_name_Under (p0 : ByteArray) (p1 : ByteArray) : Option Bool:=
  (m_name_Depth p1).bind fun x1=>
  if 0 ≤ x1 then
    (m_name_Shared p0 p1).bind fun x4=>
    some (decide (x4 = x1))
  else
    some false
theorem c_name_Under {w0 : World} {M : Nat→Prop} {H : List (Nat×Nat×Obj)} {R : List (Nat×Row)} {φ : World→Prop} (p0 : ByteArray) (p1 : ByteArray) (r : Bool) (hm : m_name_Under p0 p1 = some r) :
    Cn Try.prog 22 #[.string p0,.string p1] ⟨w0,M,H,R,φ⟩ (fun x : Unit=>.bool r) (fun x=>True) (fun x=>⟨w0,M,H,R,φ⟩):=by
 unfold m_name_Under at hm
 refine cn_intro (fn:=Try.f22) (N:=17) Try.func22 rfl Try.ntmps22 rfl<|c_seq<|c_region<|g_v rfl r_assign<|g_nil<|d_then<|c_seq<|c_region<|g_v rfl r_move ?_
 replace hm:=bnd hm
 obtain ⟨x1,hx2,hm⟩:=hm
 refine g_cn ⟨w0,M,_,_,φ⟩ (fun _ h=>h) Try.call59 rfl rfl (c_name_Depth p1 _ hx2) (fun _ _=>?_)
 refine g_v rfl r_assign<|g_nil<|d_then<|c_seq<|c_region<|g_v rfl r_move<|g_v rfl (r_geq rfl rfl)<|g_v rfl r_move ?_
 refine g_if rfl rfl rfl rfl rfl (fun h3=>?_) (fun h3=>?_)
 ·
  replace hm:=ite_t hm (of_decide_eq_true h3)
  refine g_v rfl r_move<|g_do rfl rfl rfl rfl rfl h3<|g_v rfl r_move<|g_do rfl rfl rfl rfl rfl h3 ?_
  replace hm:=bnd hm
  obtain ⟨x4,hx5,hm⟩:=hm
  refine g_cn ⟨w0,M,_,_,φ⟩ (fun _ h=>h) Try.call60 rfl rfl (c_name_Shared p0 p1 _ hx5) (fun _ _=>?_)
  refine g_do rfl rfl rfl rfl rfl h3<|g_v rfl r_move<|g_do rfl rfl rfl rfl rfl h3<|g_v rfl (r_eql rfl rfl)<|g_v rfl (r_pick1 rfl h3)<|g_v rfl r_assign<|g_nil<|d_then ?_
  refine c_flat [(4,.bool (decide (x4 = x1)))] ⟨rfl,trivial⟩ (fun u=>?_)
  refine c_sta ⟨w0,M,H,R,φ⟩ (fun _ h=>h)<|c_ret ?_
  cases hm
  exact d_retC () Try.results22 (res_tmp (res_nil rfl)) trivial (fun W h=>ok_pre (H1:=[]) (R1:=[]) h (fun W hφ=>hφ)) (.inr rfl)
 replace hm:=ite_f hm (of_decide_eq_false h3)
 iterate 4 refine g_no rfl rfl rfl rfl rfl h3 ?_
 refine g_v rfl (r_pick0 rfl h3)<|g_v rfl r_assign<|g_nil<|d_then ?_
 refine c_flat [(4,.bool false)] ⟨rfl,trivial⟩ (fun u=>?_)
 refine c_sta ⟨w0,M,H,R,φ⟩ (fun _ h=>h)<|c_ret ?_
 cases hm
 exact d_retC () Try.results22 (res_tmp (res_nil rfl)) trivial (fun W h=>ok_pre (H1:=[]) (R1:=[]) h (fun W hφ=>hφ)) (.inr rfl)
noncomputable def m_conf_Apply_c3 (p0 : GFlush) (o0 : ByteArray) : Option Bool:=
  (m_name_Under p0.fZone o0).bind fun x2=>
  some x2
theorem c_conf_Apply_c3 {w0 : World} {M : Nat→Prop} {H : List (Nat×Nat×Obj)} {R : List (Nat×Row)} {φ : World→Prop} (p0 : GFlush) (go0 : Nat) (o0 : ByteArray) (r : Bool) (hm : m_conf_Apply_c3 p0 o0 = some r) :
    Cn Try.prog 38 #[.agg #[.int .i64 p0.fEpoch,.string p0.fZone],.pointer (some ⟨go0,0,none⟩)] ⟨w0,M,(1000,go0,.cells #[.string o0] 9 (0,0))::H,R,φ⟩ (fun x : Unit=>.bool r) (fun x=>True) (fun x=>⟨w0,M,(1000,go0,.cells #[.string o0] 9 (0,0))::H,R,φ⟩):=by
 unfold m_conf_Apply_c3 at hm
 refine cn_intro (fn:=Try.f38) (N:=8) Try.func38 rfl Try.ntmps38 rfl<|c_seq<|c_region ?_
 refine g_e rfl (e_box 100020 rfl) (fun g1 _=>?_)
 refine g_v rfl r_assign<|g_nil<|d_then<|c_seq<|c_region<|g_v rfl (r_field (n:=1) Try.underlying54 rfl Try.sizeOf9 rfl rfl)<|g_v rfl (r_load (tag:=100020) rfl rfl rfl Try.isAgg9)<|g_v rfl (r_load (tag:=1000) rfl rfl rfl Try.isAgg9) ?_
 replace hm:=bnd hm
 obtain ⟨x2,hx3,hm⟩:=hm
 refine g_cn ⟨w0,M,_,_,φ⟩ (fun _ h=>h) Try.call22 rfl rfl (c_name_Under p0.fZone o0 _ hx3) (fun _ _=>?_)
 refine g_v rfl r_assign<|g_nil<|d_then<|c_ret ?_
 cases hm
 exact d_retC () Try.results38 (res_tmp (res_nil rfl)) trivial (fun W h=>(h.dropH (t:=100020) rfl).phi (fun W hφ=>hφ)) (.inr rfl)
noncomputable def m_slices_IndexFunc_70_j1  : Option Int:=
  some (-1)
noncomputable def m_slices_IndexFunc_70_s2 (p0 : List GFlush) (o0 : ByteArray) (i30 : Int) : Option (Int ⊕ (Unit ⊕ Int)):=
  if i30 < (p0.length : Int) then
    (at_ p0 i30).bind fun x42=>
    (m_conf_Apply_c3 x42 o0).bind fun x46=>
    if x46 = true then
      some (.inr (.inr i30))
    else
      some (.inl (w64 (i30 + 1)))
  else
    some (.inr (.inl ()))
noncomputable def m_slices_IndexFunc_70 (p0 : List GFlush) (o0 : ByteArray) : Option Int:=
  (loop (fun s=>m_slices_IndexFunc_70_s2 p0 o0 s) 0).bind fun e=>Sum.elim (fun e=>m_slices_IndexFunc_70_j1) (fun x=>some x) e
theorem c_slices_IndexFunc_70 {w0 : World} {M : Nat→Prop} {H : List (Nat×Nat×Obj)} {R : List (Nat×Row)} {φ : World→Prop} (p0 : List GFlush) (Ap0_0 : Option Addr) (cp0_0 : Nat) (hcp0_0 : p0.length ≤ cp0_0) (fp0_0 : ∀ W,(Sta.mk w0 M H R φ).ok W→Cl W Ap0_0 (p0.flatMap GFlush.enc)) (go0 : Nat) (o0 : ByteArray) (r : Int) (hm : m_slices_IndexFunc_70 p0 o0 = some r) :
    Cn Try.prog 70 #[.slice Ap0_0 p0.length cp0_0,.func (.func 38) #[] #[.pointer (some ⟨go0,0,none⟩)]] ⟨w0,M,(1000,go0,.cells #[.string o0] 9 (0,0))::H,R,φ⟩ (fun x : Unit=>.int .i64 r) (fun x=>True) (fun x=>⟨w0,M,(1000,go0,.cells #[.string o0] 9 (0,0))::H,R,φ⟩):=by
 unfold m_slices_IndexFunc_70 at hm
 refine cn_intro (fn:=Try.f70) (N:=19) Try.func70 rfl Try.ntmps70 rfl<|c_seq<|c_region<|g_v rfl r_assign<|g_nil<|d_then<|c_seq<|c_seq<|c_region<|g_v rfl r_move ?_
 refine g_v rfl (r_lenL Try.underlying27 rfl)<|g_v rfl r_move<|g_nil<|d_then ?_
 refine c_cut (ι:=Unit) [] (fun _=>[]) (fun _=>⟨w0,M,(1000,go0,.cells #[.string o0] 9 (0,0))::H,R,φ⟩) (fun _=>m_slices_IndexFunc_70_j1 = some r) ?_ (fun _ u hm=>?_)
 ·
  refine c_block ?_
  replace hm:=bnd hm
  obtain ⟨out2,hl2,hr2⟩:=hm
  obtain ⟨n40',hl2⟩:=loop_lp hl2
  refine c_loopU (ι:=Nat×Int) [0,1,7,8] (fun ⟨n40,i30⟩=>[(8,.int .i64 i30)]) (fun ⟨n40,i30⟩=>⟨w0,M,(1000,go0,.cells #[.string o0] 9 (0,0))::H,R,φ⟩) (fun ⟨n40,i30⟩=>Lp (fun s=>m_slices_IndexFunc_70_s2 p0 o0 s) n40 i30 out2) (fun ⟨n40,i30⟩=>n40) (n40',0) hl2 ⟨rfl,rfl,rfl,rfl,trivial⟩ (fun W h=>h.phi (fun W hφ=>hφ)) (fun ⟨n40,i30⟩ u hlp=>?_)
  obtain ⟨o2,hm,hnx2⟩:=lp_step hlp
  clear hlp
  replace hm : m_slices_IndexFunc_70_s2 p0 o0 i30 = some o2:=hm
  unfold m_slices_IndexFunc_70_s2 at hm
  refine c_flat [(0,.slice Ap0_0 p0.length cp0_0),(1,.func (.func 38) #[] #[.pointer (some ⟨go0,0,none⟩)]),(7,.int .i64 (p0.length : Int)),(8,.int .i64 i30)] ⟨rfl,rfl,rfl,rfl,trivial⟩ (fun u=>?_)
  refine c_sta ⟨w0,M,(1000,go0,.cells #[.string o0] 9 (0,0))::H,R,φ⟩ (fun _ h=>h)<|c_seq<|c_region<|g_v rfl (r_lss rfl rfl)<|g_nil<|d_then<|c_seq ?_
  refine c_cond rfl (fun h41=>?_) (fun h41=>?_)
  ·
   replace hm:=ite_t hm (of_decide_eq_true h41)
   refine c_skip<|d_then<|c_seq<|c_block<|c_seq<|c_region<|g_v rfl r_move<|g_v rfl r_assign<|g_nil<|d_then ?_
   refine c_seq<|c_region ?_
   iterate 3 refine g_v rfl r_move ?_
   replace hm:=bnd hm
   obtain ⟨x42,hx42,hm⟩:=hm
   refine g_know _ (fun W hS=>cl_at (p:=(Sta.mk w0 M H R φ).ok) (sz:=2) (fun _=>rfl) (by decide) (ok_pre (H1:=[_]) (R1:=[]) hS (fun W h=>h)) fp0_0 hx42) ?_
   rintro ⟨ad43,hA45,f44⟩
   refine g_v rfl (r_ix Try.underlying27 Try.sizeOf54 rfl hA45 rfl hx42)<|g_v rfl (r_ldA rfl Try.isAgg54 Try.sizeOf54 (fun W hS=>(f44 W (ok_pre (H1:=[_]) (R1:=[]) hS (fun W h=>h))).take 2) rfl) ?_
   replace hm:=bnd hm
   obtain ⟨x46,hx47,hm⟩:=hm
   refine g_cnv ⟨w0,M,(1000,go0,.cells #[.string o0] 9 (0,0))::H,R,φ⟩ (fun W h=>(ok_front (t:=1000) (t':=1000) h rfl)) Try.call38 rfl rfl rfl (c_conf_Apply_c3 x42 go0 o0 _ hx47) (fun _ _=>?_)
   refine g_sta _ (fun W h=>(ok_front (t:=1000) (t':=1000) h rfl))<|g_nil<|d_then ?_
   refine c_flat [(0,.slice Ap0_0 p0.length cp0_0),(1,.func (.func 38) #[] #[.pointer (some ⟨go0,0,none⟩)]),(5,.int .i64 i30),(7,.int .i64 (p0.length : Int)),(8,.int .i64 i30),(16,.bool x46)] ⟨rfl,rfl,rfl,rfl,rfl,rfl,trivial⟩ (fun u=>?_)
   refine c_cond rfl (fun h48=>?_) (fun h48=>?_)
   ·
    replace hm:=ite_t hm h48
    refine c_seq<|c_region<|g_v rfl r_move<|g_v rfl r_assign<|g_nil<|d_then<|c_ret<|d_ret_block<|d_ret_then<|d_ret_then ?_
    refine d_ret_block<|d_ret_then<|d_ret_then ?_
    replace hm:=nx_out (C:=(fun e : Unit ⊕ Int=>Sum.elim (fun e=>m_slices_IndexFunc_70_j1) (fun x=>some x) e = some r)) hm hnx2 hr2
    replace hm : some i30 = some r:=hm
    cases hm
    exact d_retC () Try.results70 (res_tmp (res_nil rfl)) trivial (fun W h=>h.phi (fun W hφ=>hφ)) (.inr rfl)
   replace hm:=ite_f hm (bool_nt h48)
   refine c_skip<|d_normal_block<|d_then<|c_region<|g_v rfl (r_add rfl rfl rfl)<|g_v rfl r_move<|g_nil ?_
   obtain ⟨n49,hn49,hlp⟩:=nx_inl hm hnx2
   exact d_round (n49,w64 (i30 + 1)) hlp hn49 ⟨rfl,rfl,rfl,rfl,trivial⟩ (fun W h=>h.phi (fun W hφ=>hφ))
  replace hm:=ite_f hm (of_decide_eq_false h41)
  refine c_exit<|d_exit_then<|d_exit_then<|d_exit_block ?_
  replace hm:=nx_out (C:=(fun e : Unit ⊕ Int=>Sum.elim (fun e=>m_slices_IndexFunc_70_j1) (fun x=>some x) e = some r)) hm hnx2 hr2
  exact d_round () hm Nat.zero_lt_one trivial (fun W h=>h.phi (fun W hφ=>hφ))
 unfold m_slices_IndexFunc_70_j1 at hm
 refine d_flat [] trivial (fun u=>?_)
 refine d_sta ⟨w0,M,(1000,go0,.cells #[.string o0] 9 (0,0))::H,R,φ⟩ (fun _ h=>h)<|d_then<|c_seq<|c_region<|g_v rfl r_assign<|g_nil<|d_then<|c_ret ?_
 cases hm
 exact d_retC () Try.results70 (res_tmp (res_nil rfl)) trivial (fun W h=>h.phi (fun W hφ=>hφ)) (.inr rfl)
noncomputable def m_slices_DeleteFunc_37_j1  (l53 : List GFlush) (i56 : Int) : Option (List GFlush):=
  (cutLo l53 i56).bind fun l57=>
  (cutHi l53 i56).bind fun l58=>
  some l58
noncomputable def m_slices_DeleteFunc_37_s2 (o0 : ByteArray) (l81 : List GFlush) (i84 : Int) (i85 : Int) : Option (((List GFlush)×Int×Int) ⊕ ((List GFlush)×Int)):=
  if i85 < (l81.length : Int) then
    (at_ l81 i85).bind fun x109=>
    (m_conf_Apply_c3 x109 o0).bind fun x114=>
    if x114 = true then
      some (.inl (l81,i84,w64 (i85 + 1)))
    else
      (at_ l81 i84).bind fun x117=>
      (setAt l81 i84 x109).bind fun l121=>
      some (.inl (l121,w64 (i84 + 1),w64 (i85 + 1)))
  else
    some (.inr (l81,i84))
noncomputable def m_slices_DeleteFunc_37 (p0 : List GFlush) (o0 : ByteArray) : Option (List GFlush):=
  (m_slices_IndexFunc_70 p0 o0).bind fun x1=>
  if x1 = (-1) then
    some p0
  else
    (loop (fun s=>m_slices_DeleteFunc_37_s2 o0 s.1 s.2.1 s.2.2) (p0,x1,w64 (x1 + 1))).bind fun e=>m_slices_DeleteFunc_37_j1 e.1 e.2
theorem c_slices_DeleteFunc_37 {w0 : World} {M : Nat→Prop} {H : List (Nat×Nat×Obj)} {R : List (Nat×Row)} {φ : World→Prop} (p0 : List GFlush) (Ap0_0 : Option Addr) (cp0_0 : Nat) (hcp0_0 : p0.length ≤ cp0_0) (go0 : Nat) (o0 : ByteArray) (r : (List GFlush)) (hm : m_slices_DeleteFunc_37 p0 o0 = some r) :
    Cn Try.prog 37 #[.slice Ap0_0 p0.length cp0_0,.func (.func 38) #[] #[.pointer (some ⟨go0,0,none⟩)]] ⟨w0,M,(1000,go0,.cells #[.string o0] 9 (0,0))::H,(1000,⟨.slice Ap0_0 p0.length cp0_0,54,2,p0.length,p0.flatMap GFlush.enc⟩)::R,φ⟩ (fun x : Option Addr×Nat=>.slice x.1 r.length x.2) (fun x=>r.length ≤ x.2) (fun x=>⟨w0,M,(1000,go0,.cells #[.string o0] 9 (0,0))::H,(2000,⟨.slice x.1 r.length x.2,54,2,r.length,r.flatMap GFlush.enc⟩)::R,φ⟩):=by
 unfold m_slices_DeleteFunc_37 at hm
 refine cn_intro (fn:=Try.f37) (N:=42) Try.func37 rfl Try.ntmps37 rfl<|c_seq<|c_region<|g_v rfl r_assign<|g_nil<|d_then<|c_seq<|c_region<|g_v rfl r_move<|g_v rfl r_move ?_
 replace hm:=bnd hm
 obtain ⟨x1,hx2,hm⟩:=hm
 refine g_cn ⟨w0,M,(1000,go0,.cells #[.string o0] 9 (0,0))::H,(1000,⟨.slice Ap0_0 p0.length cp0_0,54,2,p0.length,p0.flatMap GFlush.enc⟩)::R,φ⟩ (fun W h=>(ok_front (t:=1000) (t':=1000) h rfl)) Try.call70 rfl rfl (c_slices_IndexFunc_70 p0 Ap0_0 cp0_0 hcp0_0 (fun W hS=>rowCl (tag:=1000) rfl W hS) go0 o0 _ hx2) (fun _ _=>?_)
 refine g_sta _ (fun W h=>(ok_front (t:=1000) (t':=1000) h rfl))<|g_v rfl r_assign<|g_nil<|d_then<|c_seq<|c_seq<|c_region<|g_v rfl r_move<|g_v rfl (r_eql rfl rfl)<|g_nil ?_
 refine d_then<|c_sta ⟨w0,M,(1000,go0,.cells #[.string o0] 9 (0,0))::H,(1000,⟨.slice Ap0_0 p0.length cp0_0,54,2,p0.length,p0.flatMap GFlush.enc⟩)::R,φ⟩ (fun _ h=>h) ?_
 refine c_cond rfl (fun h3=>?_) (fun h3=>?_)
 ·
  replace hm:=ite_t hm (of_decide_eq_true h3)
  refine c_seq<|c_region<|g_v rfl r_move<|g_v rfl r_assign<|g_nil<|d_then ?_
  refine c_flat [(4,.slice Ap0_0 p0.length cp0_0)] ⟨rfl,trivial⟩ (fun u=>?_)
  refine c_ret<|d_ret_then ?_
  cases hm
  refine d_sta _ (fun W h=>ok_frontR (t:=1000) (t':=2000) h rfl) ?_
  exact d_retC (Ap0_0,cp0_0) Try.results37 (res_tmp (res_nil rfl)) hcp0_0 (fun W h=>h.phi (fun W hφ=>hφ)) (.inr rfl)
 replace hm:=ite_f hm (of_decide_eq_false h3)
 refine c_skip<|d_then<|c_seq<|c_seq<|c_region<|g_v rfl r_move<|g_v rfl (r_add rfl rfl rfl)<|g_v rfl r_assign<|g_nil<|d_then ?_
 refine c_flat [(0,.slice Ap0_0 p0.length cp0_0),(1,.func (.func 38) #[] #[.pointer (some ⟨go0,0,none⟩)]),(5,.int .i64 x1),(6,.int .i64 (w64 (x1 + 1)))] ⟨rfl,rfl,rfl,rfl,trivial⟩ (fun u=>?_)
 refine c_cut (ι:=(List GFlush)×Int) [0,5] (fun ⟨l53,i56⟩=>[(0,.slice Ap0_0 l53.length cp0_0),(5,.int .i64 i56)]) (fun ⟨l53,i56⟩=>⟨w0,M,(1000,go0,.cells #[.string o0] 9 (0,0))::H,(1000,⟨.slice Ap0_0 l53.length cp0_0,54,2,l53.length,l53.flatMap GFlush.enc⟩)::R,φ⟩) (fun ⟨l53,i56⟩=>m_slices_DeleteFunc_37_j1 l53 i56 = some r∧(l53.length ≤ cp0_0∧l53.length = p0.length)) ?_ (fun ⟨l53,i56⟩ u ⟨hm,hl53⟩=>?_)
 ·
  refine c_block ?_
  replace hm:=bnd hm
  obtain ⟨out2,hl2,hr2⟩:=hm
  obtain ⟨n107',hl2⟩:=loop_lp hl2
  refine c_loopU (ι:=Nat×(List GFlush)×Int×Int) [0,1,5,6] (fun ⟨n107,l81,i84,i85⟩=>[(0,.slice Ap0_0 l81.length cp0_0),(5,.int .i64 i84),(6,.int .i64 i85)]) (fun ⟨n107,l81,i84,i85⟩=>⟨w0,M,(1000,go0,.cells #[.string o0] 9 (0,0))::H,(1000,⟨.slice Ap0_0 l81.length cp0_0,54,2,l81.length,l81.flatMap GFlush.enc⟩)::R,φ⟩) (fun ⟨n107,l81,i84,i85⟩=>Lp (fun s=>m_slices_DeleteFunc_37_s2 o0 s.1 s.2.1 s.2.2) n107 (l81,i84,i85) out2∧(l81.length ≤ cp0_0∧l81.length = p0.length)) (fun ⟨n107,l81,i84,i85⟩=>n107) (n107',p0,x1,w64 (x1 + 1)) ⟨hl2,⟨hcp0_0,rfl⟩⟩ ⟨rfl,rfl,rfl,rfl,trivial⟩ (fun W h=>h.phi (fun W hφ=>hφ)) (fun ⟨n107,l81,i84,i85⟩ u ⟨hlp,hl81⟩=>?_)
  obtain ⟨o2,hm,hnx2⟩:=lp_step hlp
  clear hlp
  replace hm : m_slices_DeleteFunc_37_s2 o0 l81 i84 i85 = some o2:=hm
  unfold m_slices_DeleteFunc_37_s2 at hm
  refine c_flat [(0,.slice Ap0_0 l81.length cp0_0),(1,.func (.func 38) #[] #[.pointer (some ⟨go0,0,none⟩)]),(5,.int .i64 i84),(6,.int .i64 i85)] ⟨rfl,rfl,rfl,rfl,trivial⟩ (fun u=>?_)
  refine c_sta ⟨w0,M,(1000,go0,.cells #[.string o0] 9 (0,0))::H,(1000,⟨.slice Ap0_0 l81.length cp0_0,54,2,l81.length,l81.flatMap GFlush.enc⟩)::R,φ⟩ (fun _ h=>h)<|c_seq<|c_seq<|c_region<|g_v rfl r_move<|g_v rfl r_move<|g_v rfl (r_lenL Try.underlying27 rfl)<|g_v rfl (r_lss rfl rfl)<|g_nil<|d_then ?_
  refine c_cond rfl (fun h108=>?_) (fun h108=>?_)
  ·
   replace hm:=ite_t hm (of_decide_eq_true h108)
   refine c_skip<|d_then<|c_seq<|c_block<|c_seq<|c_region<|g_v rfl r_move<|g_v rfl r_move ?_
   replace hm:=bnd hm
   obtain ⟨x109,hx109,hm⟩:=hm
   refine g_know _ (fun W hS=>cl_at (p:=(Sta.ok ⟨w0,M,(1000,go0,.cells #[.string o0] 9 (0,0))::H,(1000,⟨.slice Ap0_0 l81.length cp0_0,54,2,l81.length,l81.flatMap GFlush.enc⟩)::R,φ⟩)) (sz:=2) (fun _=>rfl) (by decide) hS (fun W hS=>rowCl (S:=⟨w0,M,(1000,go0,.cells #[.string o0] 9 (0,0))::H,(1000,⟨.slice Ap0_0 l81.length cp0_0,54,2,l81.length,l81.flatMap GFlush.enc⟩)::R,φ⟩) (tag:=1000) rfl W hS) hx109) ?_
   rintro ⟨ad110,hA112,f111⟩
   refine g_v rfl (r_ix Try.underlying27 Try.sizeOf54 rfl hA112 rfl hx109)<|g_v rfl (r_ldA rfl Try.isAgg54 Try.sizeOf54 (fun W hS=>(f111 W hS).take 2) rfl) ?_
   refine g_e rfl (e_alloc 100070 Try.zeroValue54) (fun g113 _=>?_)
   refine g_storeL (tag:=100070) rfl rfl rfl rfl Try.sizeOf54 rfl rfl<|g_nil<|d_then ?_
   refine c_flat [(0,.slice Ap0_0 l81.length cp0_0),(1,.func (.func 38) #[] #[.pointer (some ⟨go0,0,none⟩)]),(5,.int .i64 i84),(6,.int .i64 i85),(7,.pointer (some ⟨g113,0,none⟩))] ⟨rfl,rfl,rfl,rfl,rfl,trivial⟩ (fun u=>?_)
   refine c_sta ⟨w0,M,(100070,g113,.cells #[.int .i64 x109.fEpoch,.string x109.fZone] 54 (0,0))::(1000,go0,.cells #[.string o0] 9 (0,0))::H,(1000,⟨.slice Ap0_0 l81.length cp0_0,54,2,l81.length,l81.flatMap GFlush.enc⟩)::R,φ⟩ (fun _ h=>h)<|c_seq<|c_region<|g_v rfl r_move<|g_v rfl (r_loadA (tag:=100070) rfl rfl Try.isAgg54 Try.sizeOf54 rfl rfl) ?_
   replace hm:=bnd hm
   obtain ⟨x114,hx115,hm⟩:=hm
   refine g_cnv ⟨w0,M,(1000,go0,.cells #[.string o0] 9 (0,0))::(100070,g113,.cells #[.int .i64 x109.fEpoch,.string x109.fZone] 54 (0,0))::H,(1000,⟨.slice Ap0_0 l81.length cp0_0,54,2,l81.length,l81.flatMap GFlush.enc⟩)::R,φ⟩ (fun W h=>(ok_front (t:=1000) (t':=1000) h rfl)) Try.call38 rfl rfl rfl (c_conf_Apply_c3 x109 go0 o0 _ hx115) (fun _ _=>?_)
   refine g_sta _ (fun W h=>(ok_front (t:=1000) (t':=1000) h rfl))<|g_v rfl (r_not rfl)<|g_nil<|d_then<|c_sta ⟨w0,M,(1000,go0,.cells #[.string o0] 9 (0,0))::(100070,g113,.cells #[.int .i64 x109.fEpoch,.string x109.fZone] 54 (0,0))::H,(1000,⟨.slice Ap0_0 l81.length cp0_0,54,2,l81.length,l81.flatMap GFlush.enc⟩)::R,φ⟩ (fun _ h=>h) ?_
   refine c_cond rfl (fun h116=>?_) (fun h116=>?_)
   ·
    have h116' : x114 = false:=by revert h116; cases x114 <;> simp
    replace hm:=ite_f hm (bool_nt h116')
    refine c_seq<|c_region<|g_v rfl r_move<|g_v rfl r_move<|g_v rfl (r_loadA (tag:=100070) rfl rfl Try.isAgg54 Try.sizeOf54 rfl rfl) ?_
    replace hm:=bnd hm
    obtain ⟨x117,hx117,hm⟩:=hm
    refine g_know _ (fun W hS=>cl_at (p:=(Sta.ok ⟨w0,M,(1000,go0,.cells #[.string o0] 9 (0,0))::(100070,g113,.cells #[.int .i64 x109.fEpoch,.string x109.fZone] 54 (0,0))::H,(1000,⟨.slice Ap0_0 l81.length cp0_0,54,2,l81.length,l81.flatMap GFlush.enc⟩)::R,φ⟩)) (sz:=2) (fun _=>rfl) (by decide) hS (fun W hS=>rowCl (S:=⟨w0,M,(1000,go0,.cells #[.string o0] 9 (0,0))::(100070,g113,.cells #[.int .i64 x109.fEpoch,.string x109.fZone] 54 (0,0))::H,(1000,⟨.slice Ap0_0 l81.length cp0_0,54,2,l81.length,l81.flatMap GFlush.enc⟩)::R,φ⟩) (tag:=1000) rfl W hS) hx117) ?_
    rintro ⟨ad118,hA120,f119⟩
    refine g_v rfl (r_ix Try.underlying27 Try.sizeOf54 rfl hA120 rfl hx117) ?_
    replace hm:=bnd hm
    obtain ⟨l121,hl121,hm⟩:=hm
    refine g_stR (tag:=1000) (enc:=GFlush.enc) (l:=l81) (off:=0) (vs:=[.int .i64 x109.fEpoch,.string x109.fZone]) (add0 rfl) hA120 rfl rfl hx117 hl121 rfl (Nat.le_of_ble_eq_true rfl) (fun _=>rfl) rfl rfl Try.sizeOf54 ?_
    rw [show l81.length = l121.length from (setAt_lenE hl121).symm]
    have hv123:=setAt_at hl121
    have f122:=cl_at2 (p:=(Sta.ok ⟨w0,M,(1000,go0,.cells #[.string o0] 9 (0,0))::(100070,g113,.cells #[.int .i64 x109.fEpoch,.string x109.fZone] 54 (0,0))::H,(1000,⟨.slice Ap0_0 l121.length cp0_0,54,2,l121.length,l121.flatMap GFlush.enc⟩)::R,φ⟩)) (enc:=GFlush.enc) (sz:=2) (fun _=>rfl) hA120 (fun W hS=>rowCl (S:=⟨w0,M,(1000,go0,.cells #[.string o0] 9 (0,0))::(100070,g113,.cells #[.int .i64 x109.fEpoch,.string x109.fZone] 54 (0,0))::H,(1000,⟨.slice Ap0_0 l121.length cp0_0,54,2,l121.length,l121.flatMap GFlush.enc⟩)::R,φ⟩) (tag:=1000) rfl W hS) hv123
    refine g_nil<|d_then ?_
    refine c_flat [(0,.slice Ap0_0 l121.length cp0_0),(1,.func (.func 38) #[] #[.pointer (some ⟨go0,0,none⟩)]),(5,.int .i64 i84),(6,.int .i64 i85)] ⟨rfl,rfl,rfl,rfl,trivial⟩ (fun u=>?_)
    refine c_sta ⟨w0,M,(1000,go0,.cells #[.string o0] 9 (0,0))::(100070,g113,.cells #[.int .i64 x109.fEpoch,.string x109.fZone] 54 (0,0))::H,(1000,⟨.slice Ap0_0 l121.length cp0_0,54,2,l121.length,l121.flatMap GFlush.enc⟩)::R,φ⟩ (fun _ h=>h)<|c_region<|g_v rfl r_move<|g_v rfl (r_add rfl rfl rfl)<|g_v rfl r_assign<|g_nil<|d_normal_block<|d_then<|c_region<|g_v rfl r_move ?_
    refine g_v rfl (r_add rfl rfl rfl)<|g_v rfl r_assign<|g_nil ?_
    obtain ⟨n124,hn124,hlp⟩:=nx_inl hm hnx2
    exact d_round (n124,l121,w64 (i84 + 1),w64 (i85 + 1)) ⟨hlp,⟨(setAt_len hl81.1 hl121),((setAt_lenE hl121).trans hl81.2)⟩⟩ hn124 ⟨rfl,rfl,rfl,rfl,trivial⟩ (fun W h=>(h.dropH (t:=100070) rfl).phi (fun W hφ=>hφ))
   have h116' : x114 = true:=by revert h116; cases x114 <;> simp
   replace hm:=ite_t hm h116'
   refine c_skip<|d_normal_block<|d_then<|c_region<|g_v rfl r_move<|g_v rfl (r_add rfl rfl rfl)<|g_v rfl r_assign<|g_nil ?_
   obtain ⟨n125,hn125,hlp⟩:=nx_inl hm hnx2
   exact d_round (n125,l81,i84,w64 (i85 + 1)) ⟨hlp,⟨hl81.1,hl81.2⟩⟩ hn125 ⟨rfl,rfl,rfl,rfl,trivial⟩ (fun W h=>(h.dropH (t:=100070) rfl).phi (fun W hφ=>hφ))
  replace hm:=ite_f hm (of_decide_eq_false h108)
  refine c_exit<|d_exit_then<|d_exit_then<|d_exit_block ?_
  replace hm:=nx_out (C:=(fun e : (List GFlush)×Int=>m_slices_DeleteFunc_37_j1 e.1 e.2 = some r)) hm hnx2 hr2
  exact d_round (l81,i84) ⟨hm,⟨hl81.1,hl81.2⟩⟩ Nat.zero_lt_one ⟨rfl,rfl,trivial⟩ (fun W h=>h.phi (fun W hφ=>hφ))
 unfold m_slices_DeleteFunc_37_j1 at hm
 refine d_flat [(0,.slice Ap0_0 l53.length cp0_0),(5,.int .i64 i56)] ⟨rfl,rfl,trivial⟩ (fun u=>?_)
 refine d_sta ⟨w0,M,(1000,go0,.cells #[.string o0] 9 (0,0))::H,(1000,⟨.slice Ap0_0 l53.length cp0_0,54,2,l53.length,l53.flatMap GFlush.enc⟩)::R,φ⟩ (fun _ h=>h)<|d_then<|c_seq<|c_region<|g_v rfl r_move<|g_v rfl r_move ?_
 replace hm:=bnd hm
 obtain ⟨l57,hl57,hm⟩:=hm
 refine g_v rfl (r_lcutLo Try.underlying27 Try.sizeOf54 rfl hl53.1 rfl hl57) ?_
 replace hm:=bnd hm
 obtain ⟨l58,hl58,hm⟩:=hm
 refine g_sta _ (fun W h=>row_cut (tag:=1000) (enc:=GFlush.enc) (fun _=>rfl) rfl hl58 h)<|g_e0 (e_clearLo (tag:=1000) (enc:=GFlush.enc) Try.underlying27 Try.zeroValue54 rfl rfl hl58 hl57 rfl hl53.1 rfl)<|g_nil<|d_then<|c_seq<|c_region<|g_v rfl r_move<|g_v rfl r_move<|g_v rfl (r_lcutHi Try.underlying27 Try.sizeOf54 rfl hl53.1 rfl hl58)<|g_v rfl r_assign ?_
 refine g_nil<|d_then<|c_ret ?_
 cases hm
 refine d_sta _ (fun W h=>ok_frontR (t:=1000) (t':=2000) h rfl) ?_
 exact d_retC (Ap0_0,cp0_0) Try.results37 (res_tmp (res_nil rfl)) (cutHi_len hl53.1 hl58) (fun W h=>h.phi (fun W hφ=>hφ)) (.inr rfl)
theorem bld54_18 (z0 : Int) (z1 : ByteArray) : ∀ W,(Instr.build 54 #[(0,.int .i64 z0),(1,.string z1)]).run Try.prog W = .ok (.agg #[.int .i64 z0,.string z1]) W:=fun _=>by kernel_rfl
theorem lit54_19 (z0 : Int) (z1 : ByteArray) : Try.prog.builtSlice 54 1 [(0,.agg #[.int .i64 z0,.string z1])] = some #[.int .i64 z0,.string z1]:=by kernel_rfl
noncomputable def m_conf_Apply_k5_j2 (l348 : List Int) (l351 : List ByteArray) (l354 : List GAnchor) (l383 : List GFlush) (i386 : Int) : Option (GConf×Int):=
  some ((⟨l348,l351,l354,i386,l383⟩ : GConf),0)
noncomputable def m_conf_Apply_k5_j3 (l348 : List Int) (l351 : List ByteArray) (l354 : List GAnchor) (l405 : List GFlush) (s408 : ByteArray) (i409 : Int) : Option (GConf×Int):=
  (app 24 l405 [(⟨i409,s408⟩ : GFlush)]).bind fun l411=>
  m_conf_Apply_k5_j2 l348 l351 l354 l411 i409
noncomputable def m_conf_Apply_k5_j1 (p1_fNode : Int) (p0 : GConf) (p1_fZone : ByteArray) (l348 : List Int) (l351 : List ByteArray) (l354 : List GAnchor) (l357 : List GFlush) : Option (GConf×Int):=
  (m_slices_BinarySearch_27 l348 p1_fNode).bind fun (z363 : Int×Bool)=>
  if 1099511627776 ≤ p0.fEpoch then
    some (p0,15)
  else
    (m_name_Lower p1_fZone).bind fun x396=>
    (m_slices_DeleteFunc_37 l357 x396).bind fun x399=>
    if 32 ≤ (x399.length : Int) then
      m_conf_Apply_k5_j3 l348 l351 l354 ([] : List GFlush) (⟨#[0]⟩ : ByteArray) (w64 (p0.fEpoch + 1))
    else
      m_conf_Apply_k5_j3 l348 l351 l354 x399 x396 (w64 (p0.fEpoch + 1))
noncomputable def m_conf_Apply_k5 (p0 : GConf) (p1_fNode : Int) (p1_fName : ByteArray) (p1_fText : ByteArray) (p1_fZone : ByteArray) (p1_fHints : List ByteArray) : Option (GConf×Int):=
  (m_conf_Check_k5 p1_fNode p1_fName p1_fText p1_fZone p1_fHints).bind fun x4=>
  if x4 ≠ 0 then
    some (p0,x4)
  else
    (m_slices_Clone_23 p0.fRing).bind fun x551=>
    (m_slices_Clone_24 p0.fHints).bind fun x557=>
    (m_slices_Clone_25 p0.fAnchors).bind fun x562=>
    (m_slices_Clone_26 p0.fFlushes).bind fun x567=>
    m_conf_Apply_k5_j1 p1_fNode p0 p1_fZone x551 x557 x562 x567
theorem c_conf_Apply_k5 {w0 : World} {M : Nat→Prop} {H : List (Nat×Nat×Obj)} {R : List (Nat×Row)} {φ : World→Prop} (p0 : GConf) (Ap0_0 : Option Addr) (cp0_0 : Nat) (hcp0_0 : p0.fRing.length ≤ cp0_0) (fp0_0 : ∀ W,φ W→Cl W Ap0_0 (p0.fRing.flatMap (fun x : Int=>[Value.int .i64 x]))) (Ap0_1 : Option Addr) (cp0_1 : Nat) (hcp0_1 : p0.fHints.length ≤ cp0_1) (fp0_1 : ∀ W,φ W→Cl W Ap0_1 (p0.fHints.flatMap (fun x : ByteArray=>[Value.string x]))) (Ap0_2 : Option Addr) (cp0_2 : Nat) (hcp0_2 : p0.fAnchors.length ≤ cp0_2) (fp0_2 : ∀ W,φ W→Cl W Ap0_2 (p0.fAnchors.flatMap GAnchor.enc)) (Ap0_3 : Option Addr) (cp0_3 : Nat) (hcp0_3 : p0.fFlushes.length ≤ cp0_3) (fp0_3 : ∀ W,φ W→Cl W Ap0_3 (p0.fFlushes.flatMap GFlush.enc)) (p1_fNode : Int) (p1_fName : ByteArray) (p1_fText : ByteArray) (p1_fZone : ByteArray) (p1_fHints : List ByteArray) (Ap1_fHints_0 : Option Addr) (cp1_fHints_0 : Nat) (hcp1_fHints_0 : p1_fHints.length ≤ cp1_fHints_0) (fp1_fHints_0 : ∀ W,(Sta.mk w0 M H R φ).ok W→Cl W Ap1_fHints_0 (p1_fHints.flatMap (fun x : ByteArray=>[Value.string x]))) (r : GConf×Int) (hm : m_conf_Apply_k5 p0 p1_fNode p1_fName p1_fText p1_fZone p1_fHints = some r) :
    Cn Try.prog 10 #[.agg #[.slice Ap0_0 p0.fRing.length cp0_0,.slice Ap0_1 p0.fHints.length cp0_1,.slice Ap0_2 p0.fAnchors.length cp0_2,.int .i64 p0.fEpoch,.slice Ap0_3 p0.fFlushes.length cp0_3],.agg #[.int .i64 5,.int .i64 p1_fNode,.string p1_fName,.string p1_fText,.string p1_fZone,.slice Ap1_fHints_0 p1_fHints.length cp1_fHints_0]] ⟨w0,M,H,R,φ⟩ (fun x : Option Addr×Nat×Option Addr×Nat×Option Addr×Nat×Option Addr×Nat=>.tuple #[.agg #[.slice x.1 r.1.fRing.length x.2.1,.slice x.2.2.1 r.1.fHints.length x.2.2.2.1,.slice x.2.2.2.2.1 r.1.fAnchors.length x.2.2.2.2.2.1,.int .i64 r.1.fEpoch,.slice x.2.2.2.2.2.2.1 r.1.fFlushes.length x.2.2.2.2.2.2.2],.int .i64 r.2]) (fun x=>r.1.fRing.length ≤ x.2.1∧r.1.fHints.length ≤ x.2.2.2.1∧r.1.fAnchors.length ≤ x.2.2.2.2.2.1∧r.1.fFlushes.length ≤ x.2.2.2.2.2.2.2) (fun x=>⟨w0,M,H,R,fun W=>φ W∧Cl W x.1 (r.1.fRing.flatMap (fun x : Int=>[Value.int .i64 x]))∧Cl W x.2.2.1 (r.1.fHints.flatMap (fun x : ByteArray=>[Value.string x]))∧Cl W x.2.2.2.2.1 (r.1.fAnchors.flatMap GAnchor.enc)∧Cl W x.2.2.2.2.2.2.1 (r.1.fFlushes.flatMap GFlush.enc)⟩):=by
 unfold m_conf_Apply_k5 at hm
 refine cn_intro (fn:=Try.f10) (N:=133) Try.func10 rfl Try.ntmps10 rfl<|c_seq<|c_region ?_
 refine g_e rfl (e_box 100020 rfl) (fun g1 _=>?_)
 refine g_e rfl (e_box 100030 rfl) (fun g2 _=>?_)
 refine g_e rfl (e_alloc 100040 Try.zeroValue29) (fun g3 _=>?_)
 refine g_v rfl r_assign<|g_nil<|d_then<|c_seq<|c_region<|g_v rfl (r_loadA (tag:=100030) rfl rfl Try.isAgg35 Try.sizeOf35 rfl rfl) ?_
 replace hm:=bnd hm
 obtain ⟨x4,hx5,hm⟩:=hm
 refine g_cn ⟨w0,M,_,_,φ⟩ (fun _ h=>h) Try.call20 rfl rfl (c_conf_Check_k5 p1_fNode p1_fName p1_fText p1_fZone p1_fHints Ap1_fHints_0 cp1_fHints_0 hcp1_fHints_0 (fun W hS=>fp1_fHints_0 W (ok_pre (H1:=[_,_,_]) (R1:=[]) hS (fun W h=>h))) _ hx5) (fun _ _=>?_)
 refine g_v rfl r_assign<|g_nil<|d_then<|c_seq<|c_seq<|c_region<|g_v rfl r_move<|g_v rfl (r_neq rfl rfl)<|g_nil<|d_then ?_
 refine c_flat [(2,.pointer (some ⟨g1,0,none⟩)),(3,.pointer (some ⟨g2,0,none⟩)),(4,.pointer (some ⟨g3,0,none⟩)),(6,.int .i64 x4),(14,.bool (decide (x4 ≠ 0)))] ⟨rfl,rfl,rfl,rfl,rfl,trivial⟩ (fun u=>?_)
 refine c_sta ⟨w0,M,(100040,g3,.cells #[.slice none 0 0,.slice none 0 0,.slice none 0 0,.int .i64 0,.slice none 0 0] 29 (0,0))::(100030,g2,.cells #[.int .i64 5,.int .i64 p1_fNode,.string p1_fName,.string p1_fText,.string p1_fZone,.slice Ap1_fHints_0 p1_fHints.length cp1_fHints_0] 35 (0,0))::(100020,g1,.cells #[.slice Ap0_0 p0.fRing.length cp0_0,.slice Ap0_1 p0.fHints.length cp0_1,.slice Ap0_2 p0.fAnchors.length cp0_2,.int .i64 p0.fEpoch,.slice Ap0_3 p0.fFlushes.length cp0_3] 29 (0,0))::H,R,φ⟩ (fun _ h=>h) ?_
 refine c_cond rfl (fun h6=>?_) (fun h6=>?_)
 ·
  replace hm:=ite_t hm (of_decide_eq_true h6)
  refine c_seq<|c_region<|g_v rfl (r_loadA (tag:=100020) rfl rfl Try.isAgg29 Try.sizeOf29 rfl rfl)<|g_v rfl r_move<|g_storeL (tag:=100040) rfl rfl rfl rfl Try.sizeOf29 rfl rfl<|g_v rfl r_assign<|g_nil<|d_then<|c_ret<|d_ret_then ?_
  cases hm
  exact d_retC (Ap0_0,cp0_0,Ap0_1,cp0_1,Ap0_2,cp0_2,Ap0_3,cp0_3) Try.results10 (res_agg (tag:=100040) rfl rfl Try.isAgg29 Try.sizeOf29 (res_tmp (res_nil rfl))) ⟨hcp0_0,hcp0_1,hcp0_2,hcp0_3⟩ (fun W h=>ok_pre (H1:=[_,_,_]) (R1:=[]) h (fun W hφ=>⟨hφ,(fun W h=>fp0_0 W h) W hφ,(fun W h=>fp0_1 W h) W hφ,(fun W h=>fp0_2 W h) W hφ,(fun W h=>fp0_3 W h) W hφ⟩)) (.inr rfl)
 replace hm:=ite_f hm (of_decide_eq_false h6)
 refine c_skip<|d_then<|c_seq ?_
 refine c_cut (ι:=(List Int)×(List ByteArray)×(List GAnchor)×(List GFlush)×Nat×Option Addr×Nat×Option Addr×Nat×Option Addr×Nat×Option Addr×Nat) [2,3,4,7] (fun ⟨l348,l351,l354,l357,g347,A349,c350,A352,c353,A355,c356,A358,c359⟩=>[(7,.pointer (some ⟨g347,0,none⟩))]) (fun ⟨l348,l351,l354,l357,g347,A349,c350,A352,c353,A355,c356,A358,c359⟩=>⟨w0,M,(100070,g347,.cells #[.slice A349 l348.length c350,.slice A352 l351.length c353,.slice A355 l354.length c356,.int .i64 p0.fEpoch,.slice A358 l357.length c359] 29 (0,0))::(100040,g3,.cells #[.slice none 0 0,.slice none 0 0,.slice none 0 0,.int .i64 0,.slice none 0 0] 29 (0,0))::(100030,g2,.cells #[.int .i64 5,.int .i64 p1_fNode,.string p1_fName,.string p1_fText,.string p1_fZone,.slice Ap1_fHints_0 p1_fHints.length cp1_fHints_0] 35 (0,0))::(100020,g1,.cells #[.slice Ap0_0 p0.fRing.length cp0_0,.slice Ap0_1 p0.fHints.length cp0_1,.slice Ap0_2 p0.fAnchors.length cp0_2,.int .i64 p0.fEpoch,.slice Ap0_3 p0.fFlushes.length cp0_3] 29 (0,0))::H,(100190,⟨.slice A349 l348.length c350,3,1,l348.length,l348.flatMap (fun x : Int=>[Value.int .i64 x])⟩)::(100220,⟨.slice A352 l351.length c353,9,1,l351.length,l351.flatMap (fun x : ByteArray=>[Value.string x])⟩)::(100250,⟨.slice A355 l354.length c356,43,2,l354.length,l354.flatMap GAnchor.enc⟩)::(100300,⟨.slice A358 l357.length c359,54,2,l357.length,l357.flatMap GFlush.enc⟩)::R,φ⟩) (fun ⟨l348,l351,l354,l357,g347,A349,c350,A352,c353,A355,c356,A358,c359⟩=>m_conf_Apply_k5_j1 p1_fNode p0 p1_fZone l348 l351 l354 l357 = some r∧l348.length ≤ c350∧l351.length ≤ c353∧l354.length ≤ c356∧l357.length ≤ c359) ?_ (fun ⟨l348,l351,l354,l357,g347,A349,c350,A352,c353,A355,c356,A358,c359⟩ u ⟨hm,hc350,hc353,hc356,hc359⟩=>?_)
 ·
  refine ga_start (n:=17) ⟨w0,M,(100040,g3,.cells #[.slice none 0 0,.slice none 0 0,.slice none 0 0,.int .i64 0,.slice none 0 0] 29 (0,0))::(100030,g2,.cells #[.int .i64 5,.int .i64 p1_fNode,.string p1_fName,.string p1_fText,.string p1_fZone,.slice Ap1_fHints_0 p1_fHints.length cp1_fHints_0] 35 (0,0))::(100020,g1,.cells #[.slice Ap0_0 p0.fRing.length cp0_0,.slice Ap0_1 p0.fHints.length cp0_1,.slice Ap0_2 p0.fAnchors.length cp0_2,.int .i64 p0.fEpoch,.slice Ap0_3 p0.fFlushes.length cp0_3] 29 (0,0))::H,R,φ⟩ [16] #[false,false,false,false,false,false,false,false,false,false,false,false,false,false,false,false,false] (fun W h=>h.phi (fun W hφ=>hφ)) mixed rfl rfl<|ga_v (i:=0) (bz 17 1) rfl (by kernel_rfl) (fun _ _ _ _ h=>h) rfl (r_field (n:=0) Try.underlying29 rfl Try.sizeOf25 rfl rfl)<|ga_v (i:=1) (bz 17 3) rfl (by kernel_rfl) (fun _ _ _ _ h=>h) rfl (r_load (tag:=100020) rfl rfl rfl Try.isAgg25)<|ga_v (i:=3) (bz 17 11) rfl (by kernel_rfl) (fun _ _ _ _ h=>h) rfl (r_field (n:=1) Try.underlying29 rfl Try.sizeOf22 rfl rfl)<|ga_v (i:=4) (bz 17 27) rfl (by kernel_rfl) (fun _ _ _ _ h=>h) rfl (r_load (tag:=100020) rfl rfl rfl Try.isAgg22)<|ga_v (i:=6) (bz 17 91) rfl (by kernel_rfl) (fun _ _ _ _ h=>h) rfl (r_field (n:=2) Try.underlying29 rfl Try.sizeOf26 rfl rfl)<|ga_v (i:=7) (bz 17 219) rfl (by kernel_rfl) (fun _ _ _ _ h=>h) rfl (r_load (tag:=100020) rfl rfl rfl Try.isAgg26)<|ga_v (i:=9) (bz 17 731) rfl (by kernel_rfl) (fun _ _ _ _ h=>h) rfl (r_field (n:=3) Try.underlying29 rfl Try.sizeOf3 rfl rfl)<|ga_v (i:=10) (bz 17 1755) rfl (by kernel_rfl) (fun _ _ _ _ h=>h) rfl (r_load (tag:=100020) rfl rfl rfl Try.isAgg3)<|ga_v (i:=11) (bz 17 3803) rfl (by kernel_rfl) (fun _ _ _ _ h=>h) rfl (r_field (n:=4) Try.underlying29 rfl Try.sizeOf27 rfl rfl) ?_
  refine ga_v (i:=12) (bz 17 7899) rfl (by kernel_rfl) (fun _ _ _ _ h=>h) rfl (r_load (tag:=100020) rfl rfl rfl Try.isAgg27) ?_
  replace hm:=bnd hm
  obtain ⟨x551,hx552,hm⟩:=hm
  refine ga_two (i:=2) (j:=15) (bz 17 7903) (bz 17 40667) rfl rfl (by kernel_rfl) (by decide) (by decide) ?_ ?_
  ·
   refine ex_cn (first:=#[]) ⟨w0,M,_,_,φ⟩ (fun _ h=>h) Try.call23 rfl rfl rfl (c_slices_Clone_23 p0.fRing Ap0_0 cp0_0 hcp0_0 (fun W hS=>fp0_0 W hS.now) _ hx552) (fun ⟨A554,c555⟩ W hc555 h=>((ok_frontR (t:=2000) (t':=100190) h rfl).dropR (t:=100190) rfl).phi (fun W hφ=>hφ)) (fun ⟨A554,c555⟩ hc555=>?_)
   refine ga_sta _ (fun W h=>(ok_frontR (t:=2000) (t':=100190) h rfl)) ?_
   replace hm:=bnd hm
   obtain ⟨x557,hx558,hm⟩:=hm
   refine ga_two (i:=5) (j:=15) (bz 17 7935) (bz 17 40671) rfl rfl (by kernel_rfl) (by decide) (by decide) ?_ ?_
   ·
    refine ex_cn (first:=#[]) ⟨w0,M,_,_,φ⟩ (fun _ h=>h) Try.call24 rfl rfl rfl (c_slices_Clone_24 p0.fHints Ap0_1 cp0_1 hcp0_1 (fun W hS=>fp0_1 W hS.now) _ hx558) (fun ⟨A559,c560⟩ W hc560 h=>(((ok_frontR (t:=2000) (t':=100220) h rfl).dropR (t:=100220) rfl).dropR (t:=100190) rfl).phi (fun W hφ=>hφ)) (fun ⟨A559,c560⟩ hc560=>?_)
    refine ga_sta _ (fun W h=>(ok_frontR (t:=2000) (t':=100220) h rfl)) ?_
    replace hm:=bnd hm
    obtain ⟨x562,hx563,hm⟩:=hm
    refine ga_two (i:=8) (j:=15) (bz 17 8191) (bz 17 40703) rfl rfl (by kernel_rfl) (by decide) (by decide) ?_ ?_
    ·
     refine ex_cn (first:=#[]) ⟨w0,M,_,_,φ⟩ (fun _ h=>h) Try.call25 rfl rfl rfl (c_slices_Clone_25 p0.fAnchors Ap0_2 cp0_2 hcp0_2 (fun W hS=>fp0_2 W hS.now) _ hx563) (fun ⟨A564,c565⟩ W hc565 h=>((((ok_frontR (t:=2000) (t':=100250) h rfl).dropR (t:=100250) rfl).dropR (t:=100220) rfl).dropR (t:=100190) rfl).phi (fun W hφ=>hφ)) (fun ⟨A564,c565⟩ hc565=>?_)
     refine ga_sta _ (fun W h=>(ok_frontR (t:=2000) (t':=100250) h rfl)) ?_
     replace hm:=bnd hm
     obtain ⟨x567,hx568,hm⟩:=hm
     refine ga_two (i:=13) (j:=15) (bz 17 16383) (bz 17 40959) rfl rfl (by kernel_rfl) (by decide) (by decide) ?_ ?_
     ·
      refine ex_cn (first:=#[]) ⟨w0,M,_,_,φ⟩ (fun _ h=>h) Try.call26 rfl rfl rfl (c_slices_Clone_26 p0.fFlushes Ap0_3 cp0_3 hcp0_3 (fun W hS=>fp0_3 W hS.now) _ hx568) (fun ⟨A569,c570⟩ W hc570 h=>(((((ok_frontR (t:=2000) (t':=100300) h rfl).dropR (t:=100300) rfl).dropR (t:=100250) rfl).dropR (t:=100220) rfl).dropR (t:=100190) rfl).phi (fun W hφ=>hφ)) (fun ⟨A569,c570⟩ hc570=>?_)
      refine ga_sta _ (fun W h=>(ok_frontR (t:=2000) (t':=100300) h rfl))<|ga_v (i:=14) (bz 17 32767) rfl (by kernel_rfl) (fun _ _ _ _ h=>h) rfl (r_build _ rfl (bld29_17 _ _ _ _ _ _ _ _ _ _ _ _ _)) ?_
      refine ga_e (i:=15) (bz 17 65535) rfl (by kernel_rfl) (by decide) rfl  (e_alloc 100070 Try.zeroValue29) (fun g572 W _ h=>(((((h.dropR (t:=100300) rfl).dropR (t:=100250) rfl).dropR (t:=100220) rfl).dropR (t:=100190) rfl).dropH (t:=100070) rfl).phi (fun W hφ=>hφ)) (fun g572 _=>?_)
      refine ga_lastL (i:=16) (tag:=100070) (bz 17 131071) rfl (by kernel_rfl) (by decide) rfl rfl rfl rfl Try.sizeOf29 rfl rfl<|gz_done (by kernel_rfl) ?_
      exact d_round (x551,x557,x562,x567,g572,A554,c555,A559,c560,A564,c565,A569,c570) ⟨hm,hc555,hc560,hc565,hc570⟩ Nat.zero_lt_one ⟨rfl,rfl,rfl,rfl,trivial⟩ (fun W h=>(ok_frontR (t:=100190) (t':=100190) (ok_frontR (t:=100220) (t':=100220) (ok_frontR (t:=100250) (t':=100250) (ok_frontR (t:=100300) (t':=100300) h rfl) rfl) rfl) rfl).phi (fun W hφ=>hφ))
     refine ex_e rfl (e_alloc 100070 Try.zeroValue29) (fun g573 W _ h=>((((h.dropR (t:=100250) rfl).dropR (t:=100220) rfl).dropR (t:=100190) rfl).dropH (t:=100070) rfl).phi (fun W hφ=>hφ)) (fun g573 _=>?_)
     refine ga_cn (first:=#[]) (i:=13) (bz 17 49151) rfl (by kernel_rfl) (by decide)  ⟨w0,M,_,_,φ⟩ (fun _ h=>h) Try.call26 rfl rfl rfl (c_slices_Clone_26 p0.fFlushes Ap0_3 cp0_3 hcp0_3 (fun W hS=>fp0_3 W hS.now) _ hx568) (fun ⟨A574,c575⟩ W hc575 h=>((((((ok_frontR (t:=2000) (t':=100300) h rfl).dropR (t:=100300) rfl).dropR (t:=100250) rfl).dropR (t:=100220) rfl).dropR (t:=100190) rfl).dropH (t:=100070) rfl).phi (fun W hφ=>hφ)) (fun ⟨A574,c575⟩ hc575=>?_)
     refine ga_sta _ (fun W h=>(ok_frontR (t:=2000) (t':=100300) h rfl))<|ga_r (i:=14) (bz 17 65535) rfl (by kernel_rfl) (by decide) rfl (r_build _ rfl (bld29_17 _ _ _ _ _ _ _ _ _ _ _ _ _))<|ga_lastL (i:=16) (tag:=100070) (bz 17 131071) rfl (by kernel_rfl) (by decide) rfl rfl rfl rfl Try.sizeOf29 rfl rfl<|gz_done (by kernel_rfl) ?_
     exact d_round (x551,x557,x562,x567,g573,A554,c555,A559,c560,A564,c565,A574,c575) ⟨hm,hc555,hc560,hc565,hc575⟩ Nat.zero_lt_one ⟨rfl,rfl,rfl,rfl,trivial⟩ (fun W h=>(ok_frontR (t:=100190) (t':=100190) (ok_frontR (t:=100220) (t':=100220) (ok_frontR (t:=100250) (t':=100250) (ok_frontR (t:=100300) (t':=100300) h rfl) rfl) rfl) rfl).phi (fun W hφ=>hφ))
    refine ex_e rfl (e_alloc 100070 Try.zeroValue29) (fun g577 W _ h=>(((h.dropR (t:=100220) rfl).dropR (t:=100190) rfl).dropH (t:=100070) rfl).phi (fun W hφ=>hφ)) (fun g577 _=>?_)
    refine ga_cn (first:=#[]) (i:=8) (bz 17 40959) rfl (by kernel_rfl) (by decide)  ⟨w0,M,_,_,φ⟩ (fun _ h=>h) Try.call25 rfl rfl rfl (c_slices_Clone_25 p0.fAnchors Ap0_2 cp0_2 hcp0_2 (fun W hS=>fp0_2 W hS.now) _ hx563) (fun ⟨A578,c579⟩ W hc579 h=>(((((ok_frontR (t:=2000) (t':=100250) h rfl).dropR (t:=100250) rfl).dropR (t:=100220) rfl).dropR (t:=100190) rfl).dropH (t:=100070) rfl).phi (fun W hφ=>hφ)) (fun ⟨A578,c579⟩ hc579=>?_)
    refine ga_sta _ (fun W h=>(ok_frontR (t:=2000) (t':=100250) h rfl)) ?_
    replace hm:=bnd hm
    obtain ⟨x581,hx582,hm⟩:=hm
    refine ga_cn (first:=#[]) (i:=13) (bz 17 49151) rfl (by kernel_rfl) (by decide)  ⟨w0,M,_,_,φ⟩ (fun _ h=>h) Try.call26 rfl rfl rfl (c_slices_Clone_26 p0.fFlushes Ap0_3 cp0_3 hcp0_3 (fun W hS=>fp0_3 W hS.now) _ hx582) (fun ⟨A583,c584⟩ W hc584 h=>((((((ok_frontR (t:=2000) (t':=100300) h rfl).dropR (t:=100300) rfl).dropR (t:=100250) rfl).dropR (t:=100220) rfl).dropR (t:=100190) rfl).dropH (t:=100070) rfl).phi (fun W hφ=>hφ)) (fun ⟨A583,c584⟩ hc584=>?_)
    refine ga_sta _ (fun W h=>(ok_frontR (t:=2000) (t':=100300) h rfl))<|ga_r (i:=14) (bz 17 65535) rfl (by kernel_rfl) (by decide) rfl (r_build _ rfl (bld29_17 _ _ _ _ _ _ _ _ _ _ _ _ _))<|ga_lastL (i:=16) (tag:=100070) (bz 17 131071) rfl (by kernel_rfl) (by decide) rfl rfl rfl rfl Try.sizeOf29 rfl rfl<|gz_done (by kernel_rfl) ?_
    exact d_round (x551,x557,x562,x581,g577,A554,c555,A559,c560,A578,c579,A583,c584) ⟨hm,hc555,hc560,hc579,hc584⟩ Nat.zero_lt_one ⟨rfl,rfl,rfl,rfl,trivial⟩ (fun W h=>(ok_frontR (t:=100190) (t':=100190) (ok_frontR (t:=100220) (t':=100220) (ok_frontR (t:=100250) (t':=100250) (ok_frontR (t:=100300) (t':=100300) h rfl) rfl) rfl) rfl).phi (fun W hφ=>hφ))
   refine ex_e rfl (e_alloc 100070 Try.zeroValue29) (fun g586 W _ h=>((h.dropR (t:=100190) rfl).dropH (t:=100070) rfl).phi (fun W hφ=>hφ)) (fun g586 _=>?_)
   refine ga_cn (first:=#[]) (i:=5) (bz 17 40703) rfl (by kernel_rfl) (by decide)  ⟨w0,M,_,_,φ⟩ (fun _ h=>h) Try.call24 rfl rfl rfl (c_slices_Clone_24 p0.fHints Ap0_1 cp0_1 hcp0_1 (fun W hS=>fp0_1 W hS.now) _ hx558) (fun ⟨A587,c588⟩ W hc588 h=>((((ok_frontR (t:=2000) (t':=100220) h rfl).dropR (t:=100220) rfl).dropR (t:=100190) rfl).dropH (t:=100070) rfl).phi (fun W hφ=>hφ)) (fun ⟨A587,c588⟩ hc588=>?_)
   refine ga_sta _ (fun W h=>(ok_frontR (t:=2000) (t':=100220) h rfl)) ?_
   replace hm:=bnd hm
   obtain ⟨x590,hx591,hm⟩:=hm
   refine ga_cn (first:=#[]) (i:=8) (bz 17 40959) rfl (by kernel_rfl) (by decide)  ⟨w0,M,_,_,φ⟩ (fun _ h=>h) Try.call25 rfl rfl rfl (c_slices_Clone_25 p0.fAnchors Ap0_2 cp0_2 hcp0_2 (fun W hS=>fp0_2 W hS.now) _ hx591) (fun ⟨A592,c593⟩ W hc593 h=>(((((ok_frontR (t:=2000) (t':=100250) h rfl).dropR (t:=100250) rfl).dropR (t:=100220) rfl).dropR (t:=100190) rfl).dropH (t:=100070) rfl).phi (fun W hφ=>hφ)) (fun ⟨A592,c593⟩ hc593=>?_)
   refine ga_sta _ (fun W h=>(ok_frontR (t:=2000) (t':=100250) h rfl)) ?_
   replace hm:=bnd hm
   obtain ⟨x595,hx596,hm⟩:=hm
   refine ga_cn (first:=#[]) (i:=13) (bz 17 49151) rfl (by kernel_rfl) (by decide)  ⟨w0,M,_,_,φ⟩ (fun _ h=>h) Try.call26 rfl rfl rfl (c_slices_Clone_26 p0.fFlushes Ap0_3 cp0_3 hcp0_3 (fun W hS=>fp0_3 W hS.now) _ hx596) (fun ⟨A597,c598⟩ W hc598 h=>((((((ok_frontR (t:=2000) (t':=100300) h rfl).dropR (t:=100300) rfl).dropR (t:=100250) rfl).dropR (t:=100220) rfl).dropR (t:=100190) rfl).dropH (t:=100070) rfl).phi (fun W hφ=>hφ)) (fun ⟨A597,c598⟩ hc598=>?_)
   refine ga_sta _ (fun W h=>(ok_frontR (t:=2000) (t':=100300) h rfl))<|ga_r (i:=14) (bz 17 65535) rfl (by kernel_rfl) (by decide) rfl (r_build _ rfl (bld29_17 _ _ _ _ _ _ _ _ _ _ _ _ _))<|ga_lastL (i:=16) (tag:=100070) (bz 17 131071) rfl (by kernel_rfl) (by decide) rfl rfl rfl rfl Try.sizeOf29 rfl rfl<|gz_done (by kernel_rfl) ?_
   exact d_round (x551,x557,x590,x595,g586,A554,c555,A587,c588,A592,c593,A597,c598) ⟨hm,hc555,hc588,hc593,hc598⟩ Nat.zero_lt_one ⟨rfl,rfl,rfl,rfl,trivial⟩ (fun W h=>(ok_frontR (t:=100190) (t':=100190) (ok_frontR (t:=100220) (t':=100220) (ok_frontR (t:=100250) (t':=100250) (ok_frontR (t:=100300) (t':=100300) h rfl) rfl) rfl) rfl).phi (fun W hφ=>hφ))
  refine ex_e rfl (e_alloc 100070 Try.zeroValue29) (fun g600 W _ h=>(h.dropH (t:=100070) rfl).phi (fun W hφ=>hφ)) (fun g600 _=>?_)
  refine ga_cn (first:=#[]) (i:=2) (bz 17 40671) rfl (by kernel_rfl) (by decide)  ⟨w0,M,_,_,φ⟩ (fun _ h=>h) Try.call23 rfl rfl rfl (c_slices_Clone_23 p0.fRing Ap0_0 cp0_0 hcp0_0 (fun W hS=>fp0_0 W hS.now) _ hx552) (fun ⟨A601,c602⟩ W hc602 h=>(((ok_frontR (t:=2000) (t':=100190) h rfl).dropR (t:=100190) rfl).dropH (t:=100070) rfl).phi (fun W hφ=>hφ)) (fun ⟨A601,c602⟩ hc602=>?_)
  refine ga_sta _ (fun W h=>(ok_frontR (t:=2000) (t':=100190) h rfl)) ?_
  replace hm:=bnd hm
  obtain ⟨x604,hx605,hm⟩:=hm
  refine ga_cn (first:=#[]) (i:=5) (bz 17 40703) rfl (by kernel_rfl) (by decide)  ⟨w0,M,_,_,φ⟩ (fun _ h=>h) Try.call24 rfl rfl rfl (c_slices_Clone_24 p0.fHints Ap0_1 cp0_1 hcp0_1 (fun W hS=>fp0_1 W hS.now) _ hx605) (fun ⟨A606,c607⟩ W hc607 h=>((((ok_frontR (t:=2000) (t':=100220) h rfl).dropR (t:=100220) rfl).dropR (t:=100190) rfl).dropH (t:=100070) rfl).phi (fun W hφ=>hφ)) (fun ⟨A606,c607⟩ hc607=>?_)
  refine ga_sta _ (fun W h=>(ok_frontR (t:=2000) (t':=100220) h rfl)) ?_
  replace hm:=bnd hm
  obtain ⟨x609,hx610,hm⟩:=hm
  refine ga_cn (first:=#[]) (i:=8) (bz 17 40959) rfl (by kernel_rfl) (by decide)  ⟨w0,M,_,_,φ⟩ (fun _ h=>h) Try.call25 rfl rfl rfl (c_slices_Clone_25 p0.fAnchors Ap0_2 cp0_2 hcp0_2 (fun W hS=>fp0_2 W hS.now) _ hx610) (fun ⟨A611,c612⟩ W hc612 h=>(((((ok_frontR (t:=2000) (t':=100250) h rfl).dropR (t:=100250) rfl).dropR (t:=100220) rfl).dropR (t:=100190) rfl).dropH (t:=100070) rfl).phi (fun W hφ=>hφ)) (fun ⟨A611,c612⟩ hc612=>?_)
  refine ga_sta _ (fun W h=>(ok_frontR (t:=2000) (t':=100250) h rfl)) ?_
  replace hm:=bnd hm
  obtain ⟨x614,hx615,hm⟩:=hm
  refine ga_cn (first:=#[]) (i:=13) (bz 17 49151) rfl (by kernel_rfl) (by decide)  ⟨w0,M,_,_,φ⟩ (fun _ h=>h) Try.call26 rfl rfl rfl (c_slices_Clone_26 p0.fFlushes Ap0_3 cp0_3 hcp0_3 (fun W hS=>fp0_3 W hS.now) _ hx615) (fun ⟨A616,c617⟩ W hc617 h=>((((((ok_frontR (t:=2000) (t':=100300) h rfl).dropR (t:=100300) rfl).dropR (t:=100250) rfl).dropR (t:=100220) rfl).dropR (t:=100190) rfl).dropH (t:=100070) rfl).phi (fun W hφ=>hφ)) (fun ⟨A616,c617⟩ hc617=>?_)
  refine ga_sta _ (fun W h=>(ok_frontR (t:=2000) (t':=100300) h rfl))<|ga_r (i:=14) (bz 17 65535) rfl (by kernel_rfl) (by decide) rfl (r_build _ rfl (bld29_17 _ _ _ _ _ _ _ _ _ _ _ _ _))<|ga_lastL (i:=16) (tag:=100070) (bz 17 131071) rfl (by kernel_rfl) (by decide) rfl rfl rfl rfl Try.sizeOf29 rfl rfl<|gz_done (by kernel_rfl) ?_
  exact d_round (x551,x604,x609,x614,g600,A601,c602,A606,c607,A611,c612,A616,c617) ⟨hm,hc602,hc607,hc612,hc617⟩ Nat.zero_lt_one ⟨rfl,rfl,rfl,rfl,trivial⟩ (fun W h=>(ok_frontR (t:=100190) (t':=100190) (ok_frontR (t:=100220) (t':=100220) (ok_frontR (t:=100250) (t':=100250) (ok_frontR (t:=100300) (t':=100300) h rfl) rfl) rfl) rfl).phi (fun W hφ=>hφ))
 unfold m_conf_Apply_k5_j1 at hm
 refine d_flat [(2,.pointer (some ⟨g1,0,none⟩)),(3,.pointer (some ⟨g2,0,none⟩)),(4,.pointer (some ⟨g3,0,none⟩)),(7,.pointer (some ⟨g347,0,none⟩))] ⟨rfl,rfl,rfl,rfl,trivial⟩ (fun u=>?_)
 refine d_sta ⟨w0,M,(100070,g347,.cells #[.slice A349 l348.length c350,.slice A352 l351.length c353,.slice A355 l354.length c356,.int .i64 p0.fEpoch,.slice A358 l357.length c359] 29 (0,0))::(100040,g3,.cells #[.slice none 0 0,.slice none 0 0,.slice none 0 0,.int .i64 0,.slice none 0 0] 29 (0,0))::(100030,g2,.cells #[.int .i64 5,.int .i64 p1_fNode,.string p1_fName,.string p1_fText,.string p1_fZone,.slice Ap1_fHints_0 p1_fHints.length cp1_fHints_0] 35 (0,0))::(100020,g1,.cells #[.slice Ap0_0 p0.fRing.length cp0_0,.slice Ap0_1 p0.fHints.length cp0_1,.slice Ap0_2 p0.fAnchors.length cp0_2,.int .i64 p0.fEpoch,.slice Ap0_3 p0.fFlushes.length cp0_3] 29 (0,0))::H,(100190,⟨.slice A349 l348.length c350,3,1,l348.length,l348.flatMap (fun x : Int=>[Value.int .i64 x])⟩)::(100220,⟨.slice A352 l351.length c353,9,1,l351.length,l351.flatMap (fun x : ByteArray=>[Value.string x])⟩)::(100250,⟨.slice A355 l354.length c356,43,2,l354.length,l354.flatMap GAnchor.enc⟩)::(100300,⟨.slice A358 l357.length c359,54,2,l357.length,l357.flatMap GFlush.enc⟩)::R,φ⟩ (fun _ h=>h)<|d_then<|c_seq<|c_region<|g_v rfl (r_field (n:=0) Try.underlying29 rfl Try.sizeOf25 rfl rfl)<|g_v rfl (r_load (tag:=100070) rfl rfl rfl Try.isAgg25)<|g_v rfl (r_field (n:=1) Try.underlying35 rfl Try.sizeOf3 rfl rfl)<|g_v rfl (r_load (tag:=100030) rfl rfl rfl Try.isAgg3) ?_
 replace hm:=bnd hm
 obtain ⟨⟨x360,x361⟩,hx362,hm⟩:=hm
 refine g_cn ⟨w0,M,_,_,φ⟩ (fun _ h=>h) Try.call27 rfl rfl (c_slices_BinarySearch_27 l348 A349 c350 hc350 (fun W hS=>rowCl (tag:=100190) rfl W hS) p1_fNode _ hx362) (fun _ _=>?_)
 refine g_v rfl r_move<|g_v rfl (r_extract rfl rfl)<|g_v rfl (r_extract rfl rfl)<|g_v rfl r_assign<|g_v rfl r_assign<|g_nil<|d_then ?_
 refine c_flat [(2,.pointer (some ⟨g1,0,none⟩)),(3,.pointer (some ⟨g2,0,none⟩)),(4,.pointer (some ⟨g3,0,none⟩)),(7,.pointer (some ⟨g347,0,none⟩)),(8,.int .i64 x360),(9,.bool x361)] ⟨rfl,rfl,rfl,rfl,rfl,rfl,trivial⟩ (fun u=>?_)
 refine c_seq ?_
 refine c_cut (ι:=(List GFlush)×Int×Option Addr×Nat) [4,7] (fun ⟨l383,i386,A384,c385⟩=>[]) (fun ⟨l383,i386,A384,c385⟩=>⟨w0,M,(100070,g347,.cells #[.slice A349 l348.length c350,.slice A352 l351.length c353,.slice A355 l354.length c356,.int .i64 i386,.slice A384 l383.length c385] 29 (0,0))::(100040,g3,.cells #[.slice none 0 0,.slice none 0 0,.slice none 0 0,.int .i64 0,.slice none 0 0] 29 (0,0))::H,(100190,⟨.slice A349 l348.length c350,3,1,l348.length,l348.flatMap (fun x : Int=>[Value.int .i64 x])⟩)::(100220,⟨.slice A352 l351.length c353,9,1,l351.length,l351.flatMap (fun x : ByteArray=>[Value.string x])⟩)::(100250,⟨.slice A355 l354.length c356,43,2,l354.length,l354.flatMap GAnchor.enc⟩)::(100300,⟨.slice A384 l383.length c385,54,2,l383.length,l383.flatMap GFlush.enc⟩)::R,φ⟩) (fun ⟨l383,i386,A384,c385⟩=>m_conf_Apply_k5_j2 l348 l351 l354 l383 i386 = some r∧l383.length ≤ c385) ?_ (fun ⟨l383,i386,A384,c385⟩ u ⟨hm,hc385⟩=>?_)
 ·
  refine c_seq<|c_region<|g_v rfl (r_field (n:=0) Try.underlying35 rfl Try.sizeOf3 rfl rfl)<|g_v rfl (r_load (tag:=100030) rfl rfl rfl Try.isAgg3)<|g_nil<|d_then<|c_block<|c_seq<|c_region<|g_v rfl (r_eql rfl rfl) ?_
  refine g_v rfl r_assign<|g_nil<|d_then<|c_cond0 rfl (by decide)<|c_seq<|c_region<|g_v rfl (r_eql rfl rfl)<|g_v rfl r_assign<|g_nil<|d_then ?_
  refine c_cond0 rfl (by decide)<|c_seq<|c_region<|g_v rfl (r_eql rfl rfl)<|g_v rfl r_assign<|g_nil<|d_then<|c_cond0 rfl (by decide)<|c_seq<|c_region ?_
  refine g_v rfl (r_eql rfl rfl)<|g_v rfl r_assign<|g_nil<|d_then ?_
  refine c_flat [(2,.pointer (some ⟨g1,0,none⟩)),(3,.pointer (some ⟨g2,0,none⟩)),(4,.pointer (some ⟨g3,0,none⟩)),(7,.pointer (some ⟨g347,0,none⟩)),(41,.int .i64 5),(72,.bool (decide (5 = 4)))] ⟨rfl,rfl,rfl,rfl,rfl,rfl,trivial⟩ (fun u=>?_)
  refine c_cond0 rfl (by decide)<|c_seq<|c_region<|g_v rfl (r_eql rfl rfl)<|g_v rfl r_assign<|g_nil<|d_then<|c_cond1 rfl (by decide)<|c_seq<|c_seq ?_
  refine c_region<|g_v rfl (r_field (n:=3) Try.underlying29 rfl Try.sizeOf3 rfl rfl)<|g_v rfl (r_load (tag:=100070) rfl rfl rfl Try.isAgg3)<|g_v rfl (r_geq rfl rfl)<|g_nil<|d_then ?_
  refine c_cond rfl (fun h395=>?_) (fun h395=>?_)
  ·
   replace hm:=ite_t hm (of_decide_eq_true h395)
   refine c_seq<|c_region<|g_v rfl (r_loadA (tag:=100020) rfl rfl Try.isAgg29 Try.sizeOf29 rfl rfl)<|g_storeL (tag:=100040) rfl rfl rfl rfl Try.sizeOf29 rfl rfl<|g_v rfl r_assign<|g_nil<|d_then<|c_ret<|d_ret_then<|d_ret_block ?_
   refine d_ret_then<|d_ret_then ?_
   cases hm
   exact d_retC (Ap0_0,cp0_0,Ap0_1,cp0_1,Ap0_2,cp0_2,Ap0_3,cp0_3) Try.results10 (res_agg (tag:=100040) rfl rfl Try.isAgg29 Try.sizeOf29 (res_tmp (res_nil rfl))) ⟨hcp0_0,hcp0_1,hcp0_2,hcp0_3⟩ (fun W h=>ok_pre (H1:=[_,_,_,_]) (R1:=[_,_,_,_]) h (fun W hφ=>⟨hφ,(fun W h=>fp0_0 W h) W hφ,(fun W h=>fp0_1 W h) W hφ,(fun W h=>fp0_2 W h) W hφ,(fun W h=>fp0_3 W h) W hφ⟩)) (.inr rfl)
  replace hm:=ite_f hm (of_decide_eq_false h395)
  refine c_skip<|d_then<|c_seq<|c_region<|g_v rfl (r_field (n:=3) Try.underlying29 rfl Try.sizeOf3 rfl rfl)<|g_v rfl (r_load (tag:=100070) rfl rfl rfl Try.isAgg3)<|g_v rfl (r_add rfl rfl rfl)<|g_v rfl (r_field (n:=3) Try.underlying29 rfl Try.sizeOf3 rfl rfl)<|g_storeL (tag:=100070) rfl rfl rfl rfl Try.sizeOf3 rfl rfl<|g_nil ?_
  refine d_then ?_
  refine c_flat [(3,.pointer (some ⟨g2,0,none⟩)),(4,.pointer (some ⟨g3,0,none⟩)),(7,.pointer (some ⟨g347,0,none⟩))] ⟨rfl,rfl,rfl,trivial⟩ (fun u=>?_)
  refine c_sta ⟨w0,M,(100070,g347,.cells #[.slice A349 l348.length c350,.slice A352 l351.length c353,.slice A355 l354.length c356,.int .i64 (w64 (p0.fEpoch + 1)),.slice A358 l357.length c359] 29 (0,0))::(100040,g3,.cells #[.slice none 0 0,.slice none 0 0,.slice none 0 0,.int .i64 0,.slice none 0 0] 29 (0,0))::(100030,g2,.cells #[.int .i64 5,.int .i64 p1_fNode,.string p1_fName,.string p1_fText,.string p1_fZone,.slice Ap1_fHints_0 p1_fHints.length cp1_fHints_0] 35 (0,0))::(100020,g1,.cells #[.slice Ap0_0 p0.fRing.length cp0_0,.slice Ap0_1 p0.fHints.length cp0_1,.slice Ap0_2 p0.fAnchors.length cp0_2,.int .i64 p0.fEpoch,.slice Ap0_3 p0.fFlushes.length cp0_3] 29 (0,0))::H,(100190,⟨.slice A349 l348.length c350,3,1,l348.length,l348.flatMap (fun x : Int=>[Value.int .i64 x])⟩)::(100220,⟨.slice A352 l351.length c353,9,1,l351.length,l351.flatMap (fun x : ByteArray=>[Value.string x])⟩)::(100250,⟨.slice A355 l354.length c356,43,2,l354.length,l354.flatMap GAnchor.enc⟩)::(100300,⟨.slice A358 l357.length c359,54,2,l357.length,l357.flatMap GFlush.enc⟩)::R,φ⟩ (fun _ h=>h)<|c_seq<|c_region<|g_v rfl (r_field (n:=4) Try.underlying35 rfl Try.sizeOf9 rfl rfl)<|g_v rfl (r_load (tag:=100030) rfl rfl rfl Try.isAgg9) ?_
  replace hm:=bnd hm
  obtain ⟨x396,hx397,hm⟩:=hm
  refine g_cn ⟨w0,M,_,_,φ⟩ (fun _ h=>h) Try.call36 rfl rfl (c_name_Lower p1_fZone _ hx397) (fun _ _=>?_)
  refine g_e rfl (e_alloc 100100 Try.zeroValue9) (fun g398 _=>?_)
  refine g_storeL (tag:=100100) rfl rfl rfl rfl Try.sizeOf9 rfl rfl<|g_nil<|d_then<|c_seq<|c_region<|g_v rfl (r_field (n:=4) Try.underlying29 rfl Try.sizeOf27 rfl rfl)<|g_v rfl (r_load (tag:=100070) rfl rfl rfl Try.isAgg27)<|g_v rfl (r_mkf rfl) ?_
  replace hm:=bnd hm
  obtain ⟨x399,hx400,hm⟩:=hm
  refine g_cn ⟨w0,M,(1000,g398,.cells #[.string x396] 9 (0,0))::(100070,g347,.cells #[.slice A349 l348.length c350,.slice A352 l351.length c353,.slice A355 l354.length c356,.int .i64 (w64 (p0.fEpoch + 1)),.slice A358 l357.length c359] 29 (0,0))::(100040,g3,.cells #[.slice none 0 0,.slice none 0 0,.slice none 0 0,.int .i64 0,.slice none 0 0] 29 (0,0))::(100030,g2,.cells #[.int .i64 5,.int .i64 p1_fNode,.string p1_fName,.string p1_fText,.string p1_fZone,.slice Ap1_fHints_0 p1_fHints.length cp1_fHints_0] 35 (0,0))::(100020,g1,.cells #[.slice Ap0_0 p0.fRing.length cp0_0,.slice Ap0_1 p0.fHints.length cp0_1,.slice Ap0_2 p0.fAnchors.length cp0_2,.int .i64 p0.fEpoch,.slice Ap0_3 p0.fFlushes.length cp0_3] 29 (0,0))::H,(1000,⟨.slice A358 l357.length c359,54,2,l357.length,l357.flatMap GFlush.enc⟩)::(100190,⟨.slice A349 l348.length c350,3,1,l348.length,l348.flatMap (fun x : Int=>[Value.int .i64 x])⟩)::(100220,⟨.slice A352 l351.length c353,9,1,l351.length,l351.flatMap (fun x : ByteArray=>[Value.string x])⟩)::(100250,⟨.slice A355 l354.length c356,43,2,l354.length,l354.flatMap GAnchor.enc⟩)::R,φ⟩ (fun W h=>(ok_front (t:=100100) (t':=1000) (ok_frontR (t:=100300) (t':=1000) h rfl) rfl)) Try.call37 rfl rfl (c_slices_DeleteFunc_37 l357 A358 c359 hc359 g398 x396 _ hx400) (fun ⟨A401,c402⟩ hc402=>?_)
  refine g_sta _ (fun W h=>(ok_frontR (t:=2000) (t':=100300) (ok_front (t:=1000) (t':=100100) h rfl) rfl))<|g_v rfl (r_field (n:=4) Try.underlying29 rfl Try.sizeOf27 rfl rfl)<|g_storeL (tag:=100070) rfl rfl rfl rfl Try.sizeOf27 rfl rfl<|g_nil<|d_then ?_
  refine c_flat [(4,.pointer (some ⟨g3,0,none⟩)),(7,.pointer (some ⟨g347,0,none⟩)),(10,.pointer (some ⟨g398,0,none⟩))] ⟨rfl,rfl,rfl,trivial⟩ (fun u=>?_)
  refine c_sta ⟨w0,M,(100100,g398,.cells #[.string x396] 9 (0,0))::(100070,g347,.cells #[.slice A349 l348.length c350,.slice A352 l351.length c353,.slice A355 l354.length c356,.int .i64 (w64 (p0.fEpoch + 1)),.slice A401 x399.length c402] 29 (0,0))::(100040,g3,.cells #[.slice none 0 0,.slice none 0 0,.slice none 0 0,.int .i64 0,.slice none 0 0] 29 (0,0))::(100030,g2,.cells #[.int .i64 5,.int .i64 p1_fNode,.string p1_fName,.string p1_fText,.string p1_fZone,.slice Ap1_fHints_0 p1_fHints.length cp1_fHints_0] 35 (0,0))::(100020,g1,.cells #[.slice Ap0_0 p0.fRing.length cp0_0,.slice Ap0_1 p0.fHints.length cp0_1,.slice Ap0_2 p0.fAnchors.length cp0_2,.int .i64 p0.fEpoch,.slice Ap0_3 p0.fFlushes.length cp0_3] 29 (0,0))::H,(100300,⟨.slice A401 x399.length c402,54,2,x399.length,x399.flatMap GFlush.enc⟩)::(100190,⟨.slice A349 l348.length c350,3,1,l348.length,l348.flatMap (fun x : Int=>[Value.int .i64 x])⟩)::(100220,⟨.slice A352 l351.length c353,9,1,l351.length,l351.flatMap (fun x : ByteArray=>[Value.string x])⟩)::(100250,⟨.slice A355 l354.length c356,43,2,l354.length,l354.flatMap GAnchor.enc⟩)::R,φ⟩ (fun _ h=>h)<|c_seq ?_
  refine c_cut (ι:=(List GFlush)×ByteArray×Int×Option Addr×Nat) [4,7,10] (fun ⟨l405,s408,i409,A406,c407⟩=>[]) (fun ⟨l405,s408,i409,A406,c407⟩=>⟨w0,M,(100100,g398,.cells #[.string s408] 9 (0,0))::(100070,g347,.cells #[.slice A349 l348.length c350,.slice A352 l351.length c353,.slice A355 l354.length c356,.int .i64 i409,.slice A406 l405.length c407] 29 (0,0))::(100040,g3,.cells #[.slice none 0 0,.slice none 0 0,.slice none 0 0,.int .i64 0,.slice none 0 0] 29 (0,0))::H,(100300,⟨.slice A406 l405.length c407,54,2,l405.length,l405.flatMap GFlush.enc⟩)::(100190,⟨.slice A349 l348.length c350,3,1,l348.length,l348.flatMap (fun x : Int=>[Value.int .i64 x])⟩)::(100220,⟨.slice A352 l351.length c353,9,1,l351.length,l351.flatMap (fun x : ByteArray=>[Value.string x])⟩)::(100250,⟨.slice A355 l354.length c356,43,2,l354.length,l354.flatMap GAnchor.enc⟩)::R,φ⟩) (fun ⟨l405,s408,i409,A406,c407⟩=>m_conf_Apply_k5_j3 l348 l351 l354 l405 s408 i409 = some r∧l405.length ≤ c407) ?_ (fun ⟨l405,s408,i409,A406,c407⟩ u ⟨hm,hc407⟩=>?_)
  ·
   refine c_seq<|c_region<|g_v rfl (r_field (n:=4) Try.underlying29 rfl Try.sizeOf27 rfl rfl)<|g_v rfl (r_load (tag:=100070) rfl rfl rfl Try.isAgg27)<|g_v rfl (r_lenL Try.underlying27 rfl)<|g_v rfl (r_geq rfl rfl)<|g_nil<|d_then ?_
   refine c_cond rfl (fun h414=>?_) (fun h414=>?_)
   ·
    replace hm:=ite_t hm (of_decide_eq_true h414)
    refine c_region<|g_v rfl (r_field (n:=4) Try.underlying29 rfl Try.sizeOf27 rfl rfl)<|g_storeL (tag:=100070) rfl rfl rfl rfl Try.sizeOf27 rfl rfl<|g_storeL (tag:=100100) rfl rfl rfl rfl Try.sizeOf9 rfl rfl<|g_nil<|d_sta _ (fun W h=>nilR (Sta.ok.dropR (t:=100300) h rfl) 100300 54 2) ?_
    exact d_round (([] : List GFlush),(⟨#[0]⟩ : ByteArray),w64 (p0.fEpoch + 1),none,0) ⟨hm,(Nat.le_refl 0)⟩ Nat.zero_lt_one ⟨rfl,rfl,rfl,trivial⟩ (fun W h=>((h.dropH (t:=100030) rfl).dropH (t:=100020) rfl).phi (fun W hφ=>hφ))
   replace hm:=ite_f hm (of_decide_eq_false h414)
   refine c_skip ?_
   exact d_round (x399,x396,w64 (p0.fEpoch + 1),A401,c402) ⟨hm,hc402⟩ Nat.zero_lt_one ⟨rfl,rfl,rfl,trivial⟩ (fun W h=>((h.dropH (t:=100030) rfl).dropH (t:=100020) rfl).phi (fun W hφ=>hφ))
  unfold m_conf_Apply_k5_j3 at hm
  refine d_flat [(4,.pointer (some ⟨g3,0,none⟩)),(7,.pointer (some ⟨g347,0,none⟩)),(10,.pointer (some ⟨g398,0,none⟩))] ⟨rfl,rfl,rfl,trivial⟩ (fun u=>?_)
  refine d_sta ⟨w0,M,(100100,g398,.cells #[.string s408] 9 (0,0))::(100070,g347,.cells #[.slice A349 l348.length c350,.slice A352 l351.length c353,.slice A355 l354.length c356,.int .i64 i409,.slice A406 l405.length c407] 29 (0,0))::(100040,g3,.cells #[.slice none 0 0,.slice none 0 0,.slice none 0 0,.int .i64 0,.slice none 0 0] 29 (0,0))::H,(100300,⟨.slice A406 l405.length c407,54,2,l405.length,l405.flatMap GFlush.enc⟩)::(100190,⟨.slice A349 l348.length c350,3,1,l348.length,l348.flatMap (fun x : Int=>[Value.int .i64 x])⟩)::(100220,⟨.slice A352 l351.length c353,9,1,l351.length,l351.flatMap (fun x : ByteArray=>[Value.string x])⟩)::(100250,⟨.slice A355 l354.length c356,43,2,l354.length,l354.flatMap GAnchor.enc⟩)::R,φ⟩ (fun _ h=>h)<|d_then<|c_region<|g_v rfl (r_field (n:=4) Try.underlying29 rfl Try.sizeOf27 rfl rfl)<|g_v rfl (r_load (tag:=100070) rfl rfl rfl Try.isAgg27)<|g_v rfl (r_field (n:=3) Try.underlying29 rfl Try.sizeOf3 rfl rfl)<|g_v rfl (r_load (tag:=100070) rfl rfl rfl Try.isAgg3)<|g_v rfl (r_load (tag:=100100) rfl rfl rfl Try.isAgg9)<|g_v rfl (r_build _ rfl (bld54_18 _ _)) ?_
  refine g_e rfl (e_lit (tag:=101290) (l:=[(⟨i409,s408⟩ : GFlush)]) (enc:=GFlush.enc) (sz:=2) rfl Try.underlying27 (lit54_19 _ _) rfl rfl (fun _=>rfl)) (fun g410 _=>?_)
  replace hm:=bnd hm
  obtain ⟨l411,hl411,hm⟩:=hm
  refine g_e rfl (e_appR (enc:=GFlush.enc) (l:=l405) (l1:=[(⟨i409,s408⟩ : GFlush)]) (l2:=l411) (tag:=100300) Try.underlying27 inf54_16 rfl (by decide) (by decide) (fun _=>rfl) (fun _=>rfl) rfl hc407 rfl rfl (fun W hS=>rowCl (tag:=101290) rfl W hS) hl411) (fun ⟨A412,c413⟩ hc413=>?_)
  refine g_v rfl (r_field (n:=4) Try.underlying29 rfl Try.sizeOf27 rfl rfl)<|g_storeL (tag:=100070) rfl rfl rfl rfl Try.sizeOf27 rfl rfl<|g_nil<|d_normal_block ?_
  exact d_round (l411,i409,A412,c413) ⟨hm,hc413⟩ Nat.zero_lt_one ⟨rfl,rfl,trivial⟩ (fun W h=>(ok_frontR (t:=100190) (t':=100190) (ok_frontR (t:=100220) (t':=100220) (ok_frontR (t:=100250) (t':=100250) (ok_frontR (t:=100300) (t':=100300) ((h.dropR (t:=101290) rfl).dropH (t:=100100) rfl) rfl) rfl) rfl) rfl).phi (fun W hφ=>hφ))
 unfold m_conf_Apply_k5_j2 at hm
 refine d_flat [(4,.pointer (some ⟨g3,0,none⟩)),(7,.pointer (some ⟨g347,0,none⟩))] ⟨rfl,rfl,trivial⟩ (fun u=>?_)
 refine d_sta ⟨w0,M,(100070,g347,.cells #[.slice A349 l348.length c350,.slice A352 l351.length c353,.slice A355 l354.length c356,.int .i64 i386,.slice A384 l383.length c385] 29 (0,0))::(100040,g3,.cells #[.slice none 0 0,.slice none 0 0,.slice none 0 0,.int .i64 0,.slice none 0 0] 29 (0,0))::H,(100190,⟨.slice A349 l348.length c350,3,1,l348.length,l348.flatMap (fun x : Int=>[Value.int .i64 x])⟩)::(100220,⟨.slice A352 l351.length c353,9,1,l351.length,l351.flatMap (fun x : ByteArray=>[Value.string x])⟩)::(100250,⟨.slice A355 l354.length c356,43,2,l354.length,l354.flatMap GAnchor.enc⟩)::(100300,⟨.slice A384 l383.length c385,54,2,l383.length,l383.flatMap GFlush.enc⟩)::R,φ⟩ (fun _ h=>h)<|d_then<|c_seq<|c_region<|g_v rfl (r_loadA (tag:=100070) rfl rfl Try.isAgg29 Try.sizeOf29 rfl rfl)<|g_storeL (tag:=100040) rfl rfl rfl rfl Try.sizeOf29 rfl rfl<|g_v rfl r_assign<|g_nil<|d_then<|c_ret ?_
 cases hm
 refine d_shut (tag:=100190) rfl (fun φ387 q387'=>?_)
 have q387 : ∀ W,φ387 W→φ W:=fun W h=>(q387' W h).1
 have f388:=fun (W : World) (h : φ387 W)=>(q387' W h).2
 refine d_shut (tag:=100220) rfl (fun φ389 q389'=>?_)
 have q389 : ∀ W,φ389 W→φ387 W:=fun W h=>(q389' W h).1
 have f390:=fun (W : World) (h : φ389 W)=>(q389' W h).2
 refine d_shut (tag:=100250) rfl (fun φ391 q391'=>?_)
 have q391 : ∀ W,φ391 W→φ389 W:=fun W h=>(q391' W h).1
 have f392:=fun (W : World) (h : φ391 W)=>(q391' W h).2
 refine d_shut (tag:=100300) rfl (fun φ393 q393'=>?_)
 have q393 : ∀ W,φ393 W→φ391 W:=fun W h=>(q393' W h).1
 have f394:=fun (W : World) (h : φ393 W)=>(q393' W h).2
 exact d_retC (A349,c350,A352,c353,A355,c356,A384,c385) Try.results10 (res_agg (tag:=100040) rfl rfl Try.isAgg29 Try.sizeOf29 (res_tmp (res_nil rfl))) ⟨hc350,hc353,hc356,hc385⟩ (fun W h=>ok_pre (H1:=[_,_]) (R1:=[]) h (fun W hφ=>⟨(q387 _ (q389 _ (q391 _ (q393 _ hφ)))),(fun W h=>f388 W (q389 _ (q391 _ (q393 _ h)))) W hφ,(fun W h=>f390 W (q391 _ (q393 _ h))) W hφ,(fun W h=>f392 W (q393 _ h)) W hφ,(fun W h=>f394 W h) W hφ⟩)) (.inr rfl)
noncomputable def m_conf_Floor_j1  (i27 : Int) : Option Int:=
  some i27
noncomputable def m_conf_Floor_s2 (p0 : GConf) (p1 : ByteArray) (i39 : Int) (i40 : Int) : Option ((Int×Int) ⊕ Int):=
  if i40 < (p0.fFlushes.length : Int) then
    (at_ p0.fFlushes i40).bind fun x54=>
    (m_name_Under p1 x54.fZone).bind fun x59=>
    if x59 = true then
      some (.inl ((max i39 x54.fEpoch),w64 (i40 + 1)))
    else
      some (.inl (i39,w64 (i40 + 1)))
  else
    some (.inr i39)
noncomputable def m_conf_Floor (p0 : GConf) (p1 : ByteArray) : Option Int:=
  (loop (fun s=>m_conf_Floor_s2 p0 p1 s.1 s.2) (0,0)).bind fun e=>m_conf_Floor_j1 e
theorem c_conf_Floor {w0 : World} {M : Nat→Prop} {H : List (Nat×Nat×Obj)} {R : List (Nat×Row)} {φ : World→Prop} (p0 : GConf) (Ap0_0 : Option Addr) (cp0_0 : Nat) (hcp0_0 : p0.fRing.length ≤ cp0_0) (fp0_0 : ∀ W,(Sta.mk w0 M H R φ).ok W→Cl W Ap0_0 (p0.fRing.flatMap (fun x : Int=>[Value.int .i64 x]))) (Ap0_1 : Option Addr) (cp0_1 : Nat) (hcp0_1 : p0.fHints.length ≤ cp0_1) (fp0_1 : ∀ W,(Sta.mk w0 M H R φ).ok W→Cl W Ap0_1 (p0.fHints.flatMap (fun x : ByteArray=>[Value.string x]))) (Ap0_2 : Option Addr) (cp0_2 : Nat) (hcp0_2 : p0.fAnchors.length ≤ cp0_2) (fp0_2 : ∀ W,(Sta.mk w0 M H R φ).ok W→Cl W Ap0_2 (p0.fAnchors.flatMap GAnchor.enc)) (Ap0_3 : Option Addr) (cp0_3 : Nat) (hcp0_3 : p0.fFlushes.length ≤ cp0_3) (fp0_3 : ∀ W,(Sta.mk w0 M H R φ).ok W→Cl W Ap0_3 (p0.fFlushes.flatMap GFlush.enc)) (p1 : ByteArray) (r : Int) (hm : m_conf_Floor p0 p1 = some r) :
    Cn Try.prog 9 #[.agg #[.slice Ap0_0 p0.fRing.length cp0_0,.slice Ap0_1 p0.fHints.length cp0_1,.slice Ap0_2 p0.fAnchors.length cp0_2,.int .i64 p0.fEpoch,.slice Ap0_3 p0.fFlushes.length cp0_3],.string p1] ⟨w0,M,H,R,φ⟩ (fun x : Unit=>.int .i64 r) (fun x=>True) (fun x=>⟨w0,M,H,R,φ⟩):=by
 unfold m_conf_Floor at hm
 refine cn_intro (fn:=Try.f9) (N:=25) Try.func9 rfl Try.ntmps9 rfl<|c_seq<|c_region ?_
 refine g_e rfl (e_box 100020 rfl) (fun g1 _=>?_)
 refine g_v rfl r_assign<|g_nil<|d_then<|c_seq<|c_region<|g_v rfl r_assign<|g_nil<|d_then<|c_seq<|c_seq ?_
 refine c_region<|g_v rfl (r_field (n:=4) Try.underlying29 rfl Try.sizeOf27 rfl rfl)<|g_v rfl (r_load (tag:=100020) rfl rfl rfl Try.isAgg27)<|g_v rfl (r_lenL Try.underlying27 rfl)<|g_v rfl r_move<|g_nil<|d_then ?_
 refine c_cut (ι:=Int) [5] (fun i27=>[(5,.int .i64 i27)]) (fun i27=>⟨w0,M,H,R,φ⟩) (fun i27=>m_conf_Floor_j1 i27 = some r) ?_ (fun i27 u hm=>?_)
 ·
  refine c_block ?_
  replace hm:=bnd hm
  obtain ⟨out2,hl2,hr2⟩:=hm
  obtain ⟨n52',hl2⟩:=loop_lp hl2
  refine c_loopU (ι:=Nat×Int×Int) [1,5,9,10,11] (fun ⟨n52,i39,i40⟩=>[(5,.int .i64 i39),(11,.int .i64 i40)]) (fun ⟨n52,i39,i40⟩=>⟨w0,M,H,R,φ⟩) (fun ⟨n52,i39,i40⟩=>Lp (fun s=>m_conf_Floor_s2 p0 p1 s.1 s.2) n52 (i39,i40) out2) (fun ⟨n52,i39,i40⟩=>n52) (n52',0,0) hl2 ⟨rfl,rfl,rfl,rfl,rfl,trivial⟩ (fun W h=>(h.dropH (t:=100020) rfl).phi (fun W hφ=>hφ)) (fun ⟨n52,i39,i40⟩ u hlp=>?_)
  obtain ⟨o2,hm,hnx2⟩:=lp_step hlp
  clear hlp
  replace hm : m_conf_Floor_s2 p0 p1 i39 i40 = some o2:=hm
  unfold m_conf_Floor_s2 at hm
  refine c_flat [(1,.string p1),(5,.int .i64 i39),(9,.slice Ap0_3 p0.fFlushes.length cp0_3),(10,.int .i64 (p0.fFlushes.length : Int)),(11,.int .i64 i40)] ⟨rfl,rfl,rfl,rfl,rfl,trivial⟩ (fun u=>?_)
  refine c_sta ⟨w0,M,H,R,φ⟩ (fun _ h=>h)<|c_seq<|c_region<|g_v rfl (r_lss rfl rfl)<|g_nil<|d_then<|c_seq ?_
  refine c_cond rfl (fun h53=>?_) (fun h53=>?_)
  ·
   replace hm:=ite_t hm (of_decide_eq_true h53)
   refine c_skip<|d_then<|c_seq<|c_block<|c_seq<|c_region ?_
   replace hm:=bnd hm
   obtain ⟨x54,hx54,hm⟩:=hm
   refine g_know _ (fun W hS=>cl_at (p:=(Sta.mk w0 M H R φ).ok) (sz:=2) (fun _=>rfl) (by decide) (ok_pre (H1:=[]) (R1:=[]) hS (fun W h=>h)) fp0_3 hx54) ?_
   rintro ⟨ad55,hA57,f56⟩
   refine g_v rfl (r_ix Try.underlying27 Try.sizeOf54 rfl hA57 rfl hx54)<|g_v rfl (r_ldA rfl Try.isAgg54 Try.sizeOf54 (fun W hS=>(f56 W (ok_pre (H1:=[]) (R1:=[]) hS (fun W h=>h))).take 2) rfl) ?_
   refine g_e rfl (e_alloc 100070 Try.zeroValue54) (fun g58 _=>?_)
   refine g_storeL (tag:=100070) rfl rfl rfl rfl Try.sizeOf54 rfl rfl<|g_nil<|d_then<|c_seq<|c_region<|g_v rfl r_move<|g_v rfl (r_field (n:=1) Try.underlying54 rfl Try.sizeOf9 rfl rfl)<|g_v rfl (r_load (tag:=100070) rfl rfl rfl Try.isAgg9) ?_
   replace hm:=bnd hm
   obtain ⟨x59,hx60,hm⟩:=hm
   refine g_cn ⟨w0,M,_,_,φ⟩ (fun _ h=>h) Try.call22 rfl rfl (c_name_Under p1 x54.fZone _ hx60) (fun _ _=>?_)
   refine g_nil<|d_then ?_
   refine c_flat [(1,.string p1),(5,.int .i64 i39),(7,.pointer (some ⟨g58,0,none⟩)),(9,.slice Ap0_3 p0.fFlushes.length cp0_3),(10,.int .i64 (p0.fFlushes.length : Int)),(11,.int .i64 i40),(18,.bool x59)] ⟨rfl,rfl,rfl,rfl,rfl,rfl,rfl,trivial⟩ (fun u=>?_)
   refine c_sta ⟨w0,M,(100070,g58,.cells #[.int .i64 x54.fEpoch,.string x54.fZone] 54 (0,0))::H,R,φ⟩ (fun _ h=>h) ?_
   refine c_cond rfl (fun h61=>?_) (fun h61=>?_)
   ·
    replace hm:=ite_t hm h61
    refine c_region<|g_v rfl r_move<|g_v rfl (r_field (n:=0) Try.underlying54 rfl Try.sizeOf3 rfl rfl)<|g_v rfl (r_load (tag:=100070) rfl rfl rfl Try.isAgg3)<|g_v rfl (r_max rfl rfl)<|g_v rfl r_assign<|g_nil<|d_normal_block<|d_then<|c_region ?_
    refine g_v rfl (r_add rfl rfl rfl)<|g_v rfl r_move<|g_nil ?_
    obtain ⟨n62,hn62,hlp⟩:=nx_inl hm hnx2
    exact d_round (n62,(max i39 x54.fEpoch),w64 (i40 + 1)) hlp hn62 ⟨rfl,rfl,rfl,rfl,rfl,trivial⟩ (fun W h=>(h.dropH (t:=100070) rfl).phi (fun W hφ=>hφ))
   replace hm:=ite_f hm (bool_nt h61)
   refine c_skip<|d_normal_block<|d_then<|c_region<|g_v rfl (r_add rfl rfl rfl)<|g_v rfl r_move<|g_nil ?_
   obtain ⟨n63,hn63,hlp⟩:=nx_inl hm hnx2
   exact d_round (n63,i39,w64 (i40 + 1)) hlp hn63 ⟨rfl,rfl,rfl,rfl,rfl,trivial⟩ (fun W h=>(h.dropH (t:=100070) rfl).phi (fun W hφ=>hφ))
  replace hm:=ite_f hm (of_decide_eq_false h53)
  refine c_exit<|d_exit_then<|d_exit_then<|d_exit_block ?_
  replace hm:=nx_out (C:=(fun e : Int=>m_conf_Floor_j1 e = some r)) hm hnx2 hr2
  exact d_round i39 hm Nat.zero_lt_one ⟨rfl,trivial⟩ (fun W h=>h.phi (fun W hφ=>hφ))
 unfold m_conf_Floor_j1 at hm
 refine d_flat [(5,.int .i64 i27)] ⟨rfl,trivial⟩ (fun u=>?_)
 refine d_sta ⟨w0,M,H,R,φ⟩ (fun _ h=>h)<|d_then<|c_seq<|c_region<|g_v rfl r_move<|g_v rfl r_assign<|g_nil<|d_then<|c_ret ?_
 cases hm
 exact d_retC () Try.results9 (res_tmp (res_nil rfl)) trivial (fun W h=>ok_pre (H1:=[]) (R1:=[]) h (fun W hφ=>hφ)) (.inr rfl)
end Go.Proofs.Ythpjodfjdnnckaa
