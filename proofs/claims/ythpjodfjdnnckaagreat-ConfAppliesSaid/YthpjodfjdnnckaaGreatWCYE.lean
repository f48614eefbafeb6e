import Derived.Test.YthpjodfjdnnckaaGreatWCYD
set_option maxRecDepth 100000
set_option maxHeartbeats 4000000
set_option linter.unusedVariables false
set_option linter.unusedSimpArgs false
namespace Go.Proofs.YthpjodfjdnnckaaGreat
open Go.RowKit Go.Proofs.YthpjodfjdnnckaaGreatW.PrintLast
noncomputable def m_ref13_Snap_j4  (s233 : ByteArray) : Option ByteArray:=
  some s233
noncomputable def m_ref13_Snap_s5 (p0 : GConf) (i262 : Int) (s263 : ByteArray) : Option ((Int×ByteArray) ⊕ ByteArray):=
  if i262 < (p0.fFlushes.length : Int) then
    (at_ p0.fFlushes i262).bind fun x294=>
    (m_ref04_Packer_Number x294.fEpoch 8 (⟨s263,([] : List Gref04_Place)⟩ : Gref04_Packer)).bind fun x299=>
    (at_ p0.fFlushes i262).bind fun x313=>
    (sadd x299.fB x313.fZone).bind fun s318=>
    some (.inl (w64 (i262 + 1),s318))
  else
    some (.inr s263)
noncomputable def m_ref13_Snap_j3 (p0 : GConf) (s169 : ByteArray) : Option ByteArray:=
  (m_ref04_Packer_Number p0.fEpoch 8 (⟨s169,([] : List Gref04_Place)⟩ : Gref04_Packer)).bind fun x170=>
  (m_ref04_Packer_Number (p0.fFlushes.length : Int) 1 (⟨x170.fB,([] : List Gref04_Place)⟩ : Gref04_Packer)).bind fun x172=>
  (loop (fun s=>m_ref13_Snap_s5 p0 s.1 s.2) (0,x172.fB)).bind fun e=>m_ref13_Snap_j4 e
noncomputable def m_ref13_Snap_s6 (p0 : GConf) (i366 : Int) (s367 : ByteArray) : Option ((Int×ByteArray) ⊕ ByteArray):=
  if i366 < (p0.fAnchors.length : Int) then
    (at_ p0.fAnchors i366).bind fun x428=>
    (sadd s367 x428.fName).bind fun s433=>
    (at_ p0.fAnchors i366).bind fun x434=>
    (m_ref04_Packer_Number (x434.fText.size : Int) 1 (⟨s433,([] : List Gref04_Place)⟩ : Gref04_Packer)).bind fun x439=>
    (at_ p0.fAnchors i366).bind fun x453=>
    (sadd x439.fB x453.fText).bind fun s458=>
    some (.inl (w64 (i366 + 1),s458))
  else
    some (.inr s367)
noncomputable def m_ref13_Snap_j2 (p0 : GConf) (s71 : ByteArray) : Option ByteArray:=
  (m_ref04_Packer_Number (p0.fAnchors.length : Int) 1 (⟨s71,([] : List Gref04_Place)⟩ : Gref04_Packer)).bind fun x72=>
  (loop (fun s=>m_ref13_Snap_s6 p0 s.1 s.2) (0,x72.fB)).bind fun e=>m_ref13_Snap_j3 p0 e
noncomputable def m_ref13_Snap_s7 (p0 : GConf) (i478 : Int) (s479 : ByteArray) : Option ((Int×ByteArray) ⊕ ByteArray):=
  if i478 < (p0.fHints.length : Int) then
    (at_ p0.fHints i478).bind fun x510=>
    (sadd s479 x510).bind fun s514=>
    some (.inl (w64 (i478 + 1),s514))
  else
    some (.inr s479)
noncomputable def m_ref13_Snap_j1 (p0 : GConf) (s29 : ByteArray) : Option ByteArray:=
  (m_ref04_Packer_Number (p0.fHints.length : Int) 1 (⟨s29,([] : List Gref04_Place)⟩ : Gref04_Packer)).bind fun x30=>
  (loop (fun s=>m_ref13_Snap_s7 p0 s.1 s.2) (0,x30.fB)).bind fun e=>m_ref13_Snap_j2 p0 e
noncomputable def m_ref13_Snap_s8 (p0 : GConf) (i525 : Int) (s526 : ByteArray) : Option ((Int×ByteArray) ⊕ ByteArray):=
  if i525 < (p0.fRing.length : Int) then
    (at_ p0.fRing i525).bind fun x538=>
    (m_ref04_Packer_Number x538 1 (⟨s526,([] : List Gref04_Place)⟩ : Gref04_Packer)).bind fun x542=>
    some (.inl (w64 (i525 + 1),x542.fB))
  else
    some (.inr s526)
noncomputable def m_ref13_Snap (p0 : GConf) : Option ByteArray:=
  (m_ref13_Right p0).bind fun x2=>
  if x2 = true then
    (m_ref04_Packer_Number (p0.fRing.length : Int) 1 (⟨(⟨#[]⟩ : ByteArray),([] : List Gref04_Place)⟩ : Gref04_Packer)).bind fun x6=>
    (loop (fun s=>m_ref13_Snap_s8 p0 s.1 s.2) (0,x6.fB)).bind fun e=>m_ref13_Snap_j1 p0 e
  else
    some (⟨#[]⟩ : ByteArray)
theorem c_ref13_Snap {w0 : World} {M : Nat→Prop} {H : List (Nat×Nat×Obj)} {R : List (Nat×Row)} {φ : World→Prop} (p0 : GConf) (Ap0_0 : Option Addr) (cp0_0 : Nat) (hcp0_0 : p0.fRing.length ≤ cp0_0) (fp0_0 : ∀ W,(Sta.mk w0 M H R φ).ok W→Cl W Ap0_0 (p0.fRing.flatMap (fun x : Int=>[Value.int .i64 x]))) (Ap0_1 : Option Addr) (cp0_1 : Nat) (hcp0_1 : p0.fHints.length ≤ cp0_1) (fp0_1 : ∀ W,(Sta.mk w0 M H R φ).ok W→Cl W Ap0_1 (p0.fHints.flatMap (fun x : ByteArray=>[Value.string x]))) (Ap0_2 : Option Addr) (cp0_2 : Nat) (hcp0_2 : p0.fAnchors.length ≤ cp0_2) (fp0_2 : ∀ W,(Sta.mk w0 M H R φ).ok W→Cl W Ap0_2 (p0.fAnchors.flatMap GAnchor.enc)) (Ap0_3 : Option Addr) (cp0_3 : Nat) (hcp0_3 : p0.fFlushes.length ≤ cp0_3) (fp0_3 : ∀ W,(Sta.mk w0 M H R φ).ok W→Cl W Ap0_3 (p0.fFlushes.flatMap GFlush.enc)) (r : ByteArray) (hm : m_ref13_Snap p0 = some r) :
    Cn Tryz.prog 17 #[.agg #[.slice Ap0_0 p0.fRing.length cp0_0,.slice Ap0_1 p0.fHints.length cp0_1,.slice Ap0_2 p0.fAnchors.length cp0_2,Vi p0.fEpoch,.slice Ap0_3 p0.fFlushes.length cp0_3]] ⟨w0,M,H,R,φ⟩ (fun x : Unit=>Vs r) (fun x=>True) (fun x=>⟨w0,M,H,R,φ⟩):=by
 unfold m_ref13_Snap at hm
 refine cn_intro (fn:=Tryz.f17) (N:=150) Tryz.func17 rfl Tryz.ntmps17 rfl<|c_seq<|c_region ?_
 refine g_e rfl (e_box 100010 rfl) (fun g1 _=>?_)
 refine g_v rfl r_assign<|g_nil<|d_then<|c_seq<|c_region<|g_v rfl (r_loadA (tag:=100010) rfl rfl Tryz.isAgg30 Tryz.sizeOf30 rfl rfl) ?_
 replace hm:=bnd hm
 obtain ⟨x2,hx3,hm⟩:=hm
 refine g_cn ⟨w0,M,_,_,φ⟩ (fun _ h=>h) Tryz.call20 rfl rfl (c_ref13_Right p0 Ap0_0 cp0_0 hcp0_0 (fun W hS=>fp0_0 W (ok_pre (H1:=[_]) (R1:=[]) hS (fun W h=>h))) Ap0_1 cp0_1 hcp0_1 (fun W hS=>fp0_1 W (ok_pre (H1:=[_]) (R1:=[]) hS (fun W h=>h))) Ap0_2 cp0_2 hcp0_2 (fun W hS=>fp0_2 W (ok_pre (H1:=[_]) (R1:=[]) hS (fun W h=>h))) Ap0_3 cp0_3 hcp0_3 (fun W hS=>fp0_3 W (ok_pre (H1:=[_]) (R1:=[]) hS (fun W h=>h))) _ hx3) (fun _ _=>?_)
 refine g_v rfl r_assign<|g_nil<|d_then<|c_seq<|c_seq<|c_region<|g_v rfl r_move<|g_v rfl (r_not rfl)<|g_nil<|d_then ?_
 refine c_sta ⟨w0,M,(100010,g1,.cells #[.slice Ap0_0 p0.fRing.length cp0_0,.slice Ap0_1 p0.fHints.length cp0_1,.slice Ap0_2 p0.fAnchors.length cp0_2,Vi p0.fEpoch,.slice Ap0_3 p0.fFlushes.length cp0_3] 30 (0,0))::H,R,φ⟩ (fun _ h=>h) ?_
 refine c_cond rfl (fun h4=>?_) (fun h4=>?_)
 ·
  have h4' : x2 = false:=by revert h4; cases x2 <;> simp
  replace hm:=ite_f hm (bool_nt h4')
  refine c_seq<|c_region<|g_v rfl r_assign<|g_nil<|d_then<|c_ret<|d_ret_then ?_
  cases hm
  exact d_retC () Tryz.results17 (res_tmp (res_nil rfl)) trivial (fun W h=>ok_pre (H1:=[_]) (R1:=[]) h (fun W hφ=>hφ)) (.inr rfl)
 have h4' : x2 = true:=by revert h4; cases x2 <;> simp
 replace hm:=ite_t hm h4'
 refine c_skip<|d_then<|c_seq<|c_region<|g_v rfl (r_build _ rfl (bld101_26)) ?_
 refine g_e rfl (e_box 100140 rfl) (fun g5 _=>?_)
 refine g_v rfl r_assign<|g_nil<|d_then ?_
 refine c_flat [(1,Vp g1),(4,Vp g5)] ⟨rfl,rfl,trivial⟩ (fun u=>?_)
 refine c_sta ⟨w0,M,(100140,g5,.cells #[Ve,V0] 101 (0,0))::(100010,g1,.cells #[.slice Ap0_0 p0.fRing.length cp0_0,.slice Ap0_1 p0.fHints.length cp0_1,.slice Ap0_2 p0.fAnchors.length cp0_2,Vi p0.fEpoch,.slice Ap0_3 p0.fFlushes.length cp0_3] 30 (0,0))::H,R,φ⟩ (fun _ h=>h)<|c_seq<|c_region<|g_v rfl r_move<|g_v rfl (r_field (n:=0) Tryz.underlying30 rfl Tryz.sizeOf25 rfl rfl)<|g_v rfl (r_load (tag:=100010) rfl rfl rfl Tryz.isAgg25)<|g_v rfl (r_lenL Tryz.underlying25 rfl)<|g_sta _ (fun W h=>nilR h 11 170 2) ?_
 replace hm:=bnd hm
 obtain ⟨x6,hx7,hm⟩:=hm
 refine g_cn ⟨w0,M,(1000,g5,.cells #[Ve,V0] 101 (0,0))::(100010,g1,.cells #[.slice Ap0_0 p0.fRing.length cp0_0,.slice Ap0_1 p0.fHints.length cp0_1,.slice Ap0_2 p0.fAnchors.length cp0_2,Vi p0.fEpoch,.slice Ap0_3 p0.fFlushes.length cp0_3] 30 (0,0))::H,(1000,⟨V0,170,2,0,[]⟩)::R,φ⟩ (fun W h=>(ok_front (t:=100140) (t':=1000) (ok_frontR (t:=11) (t':=1000) h rfl) rfl)) Tryz.call75 rfl rfl (c_ref04_Packer_Number (p0.fRing.length : Int) 1 g5 (⟨eB,([] : List Gref04_Place)⟩ : Gref04_Packer) none 0 (Nat.le_refl 0) _ hx7) (fun _ _=>?_)
 refine g_sta _ (fun W h=>(ok_frontR (t:=1000) (t':=11) (ok_front (t:=1000) (t':=100140) h rfl) rfl))<|g_nil<|d_then<|c_seq<|c_seq<|c_region<|g_v rfl r_assign<|g_nil<|d_then ?_
 refine c_cut (ι:=ByteArray) [1,4] (fun s29=>[]) (fun s29=>⟨w0,M,(100140,g5,.cells #[Vs s29,V0] 101 (0,0))::(100010,g1,.cells #[.slice Ap0_0 p0.fRing.length cp0_0,.slice Ap0_1 p0.fHints.length cp0_1,.slice Ap0_2 p0.fAnchors.length cp0_2,Vi p0.fEpoch,.slice Ap0_3 p0.fFlushes.length cp0_3] 30 (0,0))::H,(11,⟨V0,170,2,0,[]⟩)::R,φ⟩) (fun s29=>m_ref13_Snap_j1 p0 s29 = some r) ?_ (fun s29 u hm=>?_)
 ·
  refine c_block ?_
  replace hm:=bnd hm
  obtain ⟨out8,hl8,hr8⟩:=hm
  obtain ⟨n536',hl8⟩:=loop_lp hl8
  refine c_loopU (ι:=Nat×Int×ByteArray) [1,4,5] (fun ⟨n536,i525,s526⟩=>[(5,Vi i525)]) (fun ⟨n536,i525,s526⟩=>⟨w0,M,(100140,g5,.cells #[Vs s526,V0] 101 (0,0))::(100010,g1,.cells #[.slice Ap0_0 p0.fRing.length cp0_0,.slice Ap0_1 p0.fHints.length cp0_1,.slice Ap0_2 p0.fAnchors.length cp0_2,Vi p0.fEpoch,.slice Ap0_3 p0.fFlushes.length cp0_3] 30 (0,0))::H,(11,⟨V0,170,2,0,[]⟩)::R,φ⟩) (fun ⟨n536,i525,s526⟩=>Lp (fun s=>m_ref13_Snap_s8 p0 s.1 s.2) n536 (i525,s526) out8) (fun ⟨n536,i525,s526⟩=>n536) (n536',0,x6.fB) hl8 ⟨rfl,rfl,rfl,trivial⟩ (fun W h=>h.phi (fun W hφ=>hφ)) (fun ⟨n536,i525,s526⟩ u hlp=>?_)
  obtain ⟨o8,hm,hnx8⟩:=lp_step hlp
  clear hlp
  replace hm : m_ref13_Snap_s8 p0 i525 s526 = some o8:=hm
  unfold m_ref13_Snap_s8 at hm
  refine c_flat [(1,Vp g1),(4,Vp g5),(5,Vi i525)] ⟨rfl,rfl,rfl,trivial⟩ (fun u=>?_)
  refine c_sta ⟨w0,M,(100140,g5,.cells #[Vs s526,V0] 101 (0,0))::(100010,g1,.cells #[.slice Ap0_0 p0.fRing.length cp0_0,.slice Ap0_1 p0.fHints.length cp0_1,.slice Ap0_2 p0.fAnchors.length cp0_2,Vi p0.fEpoch,.slice Ap0_3 p0.fFlushes.length cp0_3] 30 (0,0))::H,(11,⟨V0,170,2,0,[]⟩)::R,φ⟩ (fun _ h=>h)<|c_seq<|c_seq<|c_region<|g_v rfl r_move<|g_v rfl (r_field (n:=0) Tryz.underlying30 rfl Tryz.sizeOf25 rfl rfl)<|g_v rfl (r_load (tag:=100010) rfl rfl rfl Tryz.isAgg25)<|g_v rfl (r_lenL Tryz.underlying25 rfl)<|g_v rfl (r_lss rfl rfl)<|g_nil ?_
  refine d_then ?_
  refine c_cond rfl (fun h537=>?_) (fun h537=>?_)
  ·
   replace hm:=ite_t hm (of_decide_eq_true h537)
   refine c_skip<|d_then<|c_seq<|c_block<|c_region<|g_v rfl r_move<|g_v rfl (r_field (n:=0) Tryz.underlying30 rfl Tryz.sizeOf25 rfl rfl)<|g_v rfl (r_load (tag:=100010) rfl rfl rfl Tryz.isAgg25)<|g_v rfl r_move ?_
   replace hm:=bnd hm
   obtain ⟨x538,hx538,hm⟩:=hm
   refine g_know _ (fun W hS=>cl_at (p:=(Sta.mk w0 M H R φ).ok) (sz:=1) (fun _=>rfl) (by decide) (ok_pre (H1:=[_,_]) (R1:=[_]) hS (fun W h=>h)) fp0_0 hx538) ?_
   rintro ⟨ad539,hA541,f540⟩
   refine g_v rfl (r_ix Tryz.underlying25 Tryz.sizeOf3 rfl hA541 rfl hx538)<|g_v rfl (r_ld rfl Tryz.isAgg3 (fun W hS=>Cl.head (f540 W (ok_pre (H1:=[_,_]) (R1:=[_]) hS (fun W h=>h))))) ?_
   replace hm:=bnd hm
   obtain ⟨x542,hx543,hm⟩:=hm
   refine g_cn ⟨w0,M,(1000,g5,.cells #[Vs s526,V0] 101 (0,0))::(100010,g1,.cells #[.slice Ap0_0 p0.fRing.length cp0_0,.slice Ap0_1 p0.fHints.length cp0_1,.slice Ap0_2 p0.fAnchors.length cp0_2,Vi p0.fEpoch,.slice Ap0_3 p0.fFlushes.length cp0_3] 30 (0,0))::H,(1000,⟨V0,170,2,0,[]⟩)::R,φ⟩ (fun W h=>(ok_front (t:=100140) (t':=1000) (ok_frontR (t:=11) (t':=1000) h rfl) rfl)) Tryz.call75 rfl rfl (c_ref04_Packer_Number x538 1 g5 (⟨s526,([] : List Gref04_Place)⟩ : Gref04_Packer) none 0 (Nat.le_refl 0) _ hx543) (fun _ _=>?_)
   refine g_sta _ (fun W h=>(ok_frontR (t:=1000) (t':=11) (ok_front (t:=1000) (t':=100140) h rfl) rfl))<|g_nil<|d_normal_block<|d_then ?_
   refine c_flat [(1,Vp g1),(4,Vp g5),(5,Vi i525)] ⟨rfl,rfl,rfl,trivial⟩ (fun u=>?_)
   refine c_sta ⟨w0,M,(100140,g5,.cells #[Vs x542.fB,V0] 101 (0,0))::(100010,g1,.cells #[.slice Ap0_0 p0.fRing.length cp0_0,.slice Ap0_1 p0.fHints.length cp0_1,.slice Ap0_2 p0.fAnchors.length cp0_2,Vi p0.fEpoch,.slice Ap0_3 p0.fFlushes.length cp0_3] 30 (0,0))::H,(11,⟨V0,170,2,0,[]⟩)::R,φ⟩ (fun _ h=>h)<|c_region<|g_v rfl r_move<|g_v rfl (r_add rfl rfl rfl)<|g_v rfl r_assign<|g_nil ?_
   obtain ⟨n544,hn544,hlp⟩:=nx_inl hm hnx8
   exact d_round (n544,w64 (i525 + 1),x542.fB) hlp hn544 ⟨rfl,rfl,rfl,trivial⟩ (fun W h=>h.phi (fun W hφ=>hφ))
  replace hm:=ite_f hm (of_decide_eq_false h537)
  refine c_exit<|d_exit_then<|d_exit_then<|d_exit_block ?_
  replace hm:=nx_out (C:=(fun e : ByteArray=>m_ref13_Snap_j1 p0 e = some r)) hm hnx8 hr8
  exact d_round s526 hm Nat.zero_lt_one ⟨rfl,rfl,trivial⟩ (fun W h=>h.phi (fun W hφ=>hφ))
 unfold m_ref13_Snap_j1 at hm
 refine d_flat [(1,Vp g1),(4,Vp g5)] ⟨rfl,rfl,trivial⟩ (fun u=>?_)
 refine d_sta ⟨w0,M,(100140,g5,.cells #[Vs s29,V0] 101 (0,0))::(100010,g1,.cells #[.slice Ap0_0 p0.fRing.length cp0_0,.slice Ap0_1 p0.fHints.length cp0_1,.slice Ap0_2 p0.fAnchors.length cp0_2,Vi p0.fEpoch,.slice Ap0_3 p0.fFlushes.length cp0_3] 30 (0,0))::H,(11,⟨V0,170,2,0,[]⟩)::R,φ⟩ (fun _ h=>h)<|d_then<|c_seq<|c_region<|g_v rfl r_move<|g_v rfl (r_field (n:=1) Tryz.underlying30 rfl Tryz.sizeOf26 rfl rfl)<|g_v rfl (r_load (tag:=100010) rfl rfl rfl Tryz.isAgg26)<|g_v rfl (r_lenL Tryz.underlying26 rfl) ?_
 replace hm:=bnd hm
 obtain ⟨x30,hx31,hm⟩:=hm
 refine g_cn ⟨w0,M,(1000,g5,.cells #[Vs s29,V0] 101 (0,0))::(100010,g1,.cells #[.slice Ap0_0 p0.fRing.length cp0_0,.slice Ap0_1 p0.fHints.length cp0_1,.slice Ap0_2 p0.fAnchors.length cp0_2,Vi p0.fEpoch,.slice Ap0_3 p0.fFlushes.length cp0_3] 30 (0,0))::H,(1000,⟨V0,170,2,0,[]⟩)::R,φ⟩ (fun W h=>(ok_front (t:=100140) (t':=1000) (ok_frontR (t:=11) (t':=1000) h rfl) rfl)) Tryz.call75 rfl rfl (c_ref04_Packer_Number (p0.fHints.length : Int) 1 g5 (⟨s29,([] : List Gref04_Place)⟩ : Gref04_Packer) none 0 (Nat.le_refl 0) _ hx31) (fun _ _=>?_)
 refine g_sta _ (fun W h=>(ok_frontR (t:=1000) (t':=11) (ok_front (t:=1000) (t':=100140) h rfl) rfl))<|g_nil<|d_then<|c_seq<|c_seq<|c_region<|g_v rfl r_assign<|g_nil<|d_then ?_
 refine c_cut (ι:=ByteArray) [1,4] (fun s71=>[]) (fun s71=>⟨w0,M,(100140,g5,.cells #[Vs s71,V0] 101 (0,0))::(100010,g1,.cells #[.slice Ap0_0 p0.fRing.length cp0_0,.slice Ap0_1 p0.fHints.length cp0_1,.slice Ap0_2 p0.fAnchors.length cp0_2,Vi p0.fEpoch,.slice Ap0_3 p0.fFlushes.length cp0_3] 30 (0,0))::H,(11,⟨V0,170,2,0,[]⟩)::R,φ⟩) (fun s71=>m_ref13_Snap_j2 p0 s71 = some r) ?_ (fun s71 u hm=>?_)
 ·
  refine c_block ?_
  replace hm:=bnd hm
  obtain ⟨out7,hl7,hr7⟩:=hm
  obtain ⟨n498',hl7⟩:=loop_lp hl7
  refine c_loopU (ι:=Nat×Int×ByteArray) [1,4,6] (fun ⟨n498,i478,s479⟩=>[(6,Vi i478)]) (fun ⟨n498,i478,s479⟩=>⟨w0,M,(100140,g5,.cells #[Vs s479,V0] 101 (0,0))::(100010,g1,.cells #[.slice Ap0_0 p0.fRing.length cp0_0,.slice Ap0_1 p0.fHints.length cp0_1,.slice Ap0_2 p0.fAnchors.length cp0_2,Vi p0.fEpoch,.slice Ap0_3 p0.fFlushes.length cp0_3] 30 (0,0))::H,(11,⟨V0,170,2,0,[]⟩)::R,φ⟩) (fun ⟨n498,i478,s479⟩=>Lp (fun s=>m_ref13_Snap_s7 p0 s.1 s.2) n498 (i478,s479) out7) (fun ⟨n498,i478,s479⟩=>n498) (n498',0,x30.fB) hl7 ⟨rfl,rfl,rfl,trivial⟩ (fun W h=>h.phi (fun W hφ=>hφ)) (fun ⟨n498,i478,s479⟩ u hlp=>?_)
  obtain ⟨o7,hm,hnx7⟩:=lp_step hlp
  clear hlp
  replace hm : m_ref13_Snap_s7 p0 i478 s479 = some o7:=hm
  unfold m_ref13_Snap_s7 at hm
  refine c_flat [(1,Vp g1),(4,Vp g5),(6,Vi i478)] ⟨rfl,rfl,rfl,trivial⟩ (fun u=>?_)
  refine c_sta ⟨w0,M,(100140,g5,.cells #[Vs s479,V0] 101 (0,0))::(100010,g1,.cells #[.slice Ap0_0 p0.fRing.length cp0_0,.slice Ap0_1 p0.fHints.length cp0_1,.slice Ap0_2 p0.fAnchors.length cp0_2,Vi p0.fEpoch,.slice Ap0_3 p0.fFlushes.length cp0_3] 30 (0,0))::H,(11,⟨V0,170,2,0,[]⟩)::R,φ⟩ (fun _ h=>h)<|c_seq<|c_seq<|c_region<|g_v rfl r_move<|g_v rfl (r_field (n:=1) Tryz.underlying30 rfl Tryz.sizeOf26 rfl rfl)<|g_v rfl (r_load (tag:=100010) rfl rfl rfl Tryz.isAgg26)<|g_v rfl (r_lenL Tryz.underlying26 rfl)<|g_v rfl (r_lss rfl rfl)<|g_nil ?_
  refine d_then ?_
  refine c_cond rfl (fun h499=>?_) (fun h499=>?_)
  ·
   replace hm:=ite_t hm (of_decide_eq_true h499)
   refine c_skip<|d_then<|c_seq<|c_block<|ga_start (n:=14) ⟨w0,M,(100140,g5,.cells #[Vs s479,V0] 101 (0,0))::(100010,g1,.cells #[.slice Ap0_0 p0.fRing.length cp0_0,.slice Ap0_1 p0.fHints.length cp0_1,.slice Ap0_2 p0.fAnchors.length cp0_2,Vi p0.fEpoch,.slice Ap0_3 p0.fFlushes.length cp0_3] 30 (0,0))::H,(11,⟨V0,170,2,0,[]⟩)::R,φ⟩ [13] #[false,false,false,false,false,false,false,false,false,false,false,false,false,false] (fun W h=>h.phi (fun W hφ=>hφ)) mixed rfl rfl<|ga_v (i:=0) (bz 14 1) rfl (by kernel_rfl) (fun _ _ _ _ h=>h) rfl (r_move)<|ga_v (i:=1) (bz 14 3) rfl (by kernel_rfl) (fun _ _ _ _ h=>h) rfl (r_move)<|ga_v (i:=2) (bz 14 7) rfl (by kernel_rfl) (fun _ _ _ _ h=>h) rfl (r_nilck rfl)<|ga_v (i:=3) (bz 14 15) rfl (by kernel_rfl) (fun _ _ _ _ h=>h) rfl (r_field (n:=0) Tryz.underlying101 rfl Tryz.sizeOf9 rfl rfl)<|ga_v (i:=4) (bz 14 31) rfl (by kernel_rfl) (fun _ _ _ _ h=>h) rfl (r_load (tag:=100140) rfl rfl rfl Tryz.isAgg9) ?_
   refine ga_v (i:=5) (bz 14 63) rfl (by kernel_rfl) (fun _ _ _ _ h=>h) rfl (r_field (n:=1) Tryz.underlying30 rfl Tryz.sizeOf26 rfl rfl)<|ga_v (i:=6) (bz 14 127) rfl (by kernel_rfl) (fun _ _ _ _ h=>h) rfl (r_load (tag:=100010) rfl rfl rfl Tryz.isAgg26)<|ga_r (i:=7) (bz 14 255) rfl (by kernel_rfl) (by decide) rfl (r_move) ?_
   replace hm:=bnd hm
   obtain ⟨x510,hx510,hm⟩:=hm
   refine ga_know _ (fun W hS=>cl_at (p:=(Sta.mk w0 M H R φ).ok) (sz:=1) (fun _=>rfl) (by decide) (ok_pre (H1:=[_,_]) (R1:=[_]) hS (fun W h=>h)) fp0_1 hx510) ?_
   rintro ⟨ad511,hA513,f512⟩
   refine ga_r (i:=8) (bz 14 511) rfl (by kernel_rfl) (by decide) rfl (r_ix Tryz.underlying26 Tryz.sizeOf9 rfl hA513 rfl hx510)<|ga_r (i:=9) (bz 14 1023) rfl (by kernel_rfl) (by decide) rfl (r_ld rfl Tryz.isAgg9 (fun W hS=>Cl.head (f512 W (ok_pre (H1:=[_,_]) (R1:=[_]) hS (fun W h=>h))))) ?_
   replace hm:=bnd hm
   obtain ⟨s514,hs514,hm⟩:=hm
   refine ga_r (i:=10) (bz 14 2047) rfl (by kernel_rfl) (by decide) rfl (r_addT rfl rfl hs514)<|ga_r (i:=11) (bz 14 4095) rfl (by kernel_rfl) (by decide) rfl (r_nilck rfl)<|ga_r (i:=12) (bz 14 8191) rfl (by kernel_rfl) (by decide) rfl (r_field (n:=0) Tryz.underlying101 rfl Tryz.sizeOf9 rfl rfl)<|ga_lastL (i:=13) (tag:=100140) (bz 14 16383) rfl (by kernel_rfl) (by decide) rfl rfl rfl rfl Tryz.sizeOf9 rfl rfl<|gz_done (by kernel_rfl)<|d_normal_block<|d_then ?_
   refine c_flat [(1,Vp g1),(4,Vp g5),(6,Vi i478)] ⟨rfl,rfl,rfl,trivial⟩ (fun u=>?_)
   refine c_sta ⟨w0,M,(100140,g5,.cells #[Vs s514,V0] 101 (0,0))::(100010,g1,.cells #[.slice Ap0_0 p0.fRing.length cp0_0,.slice Ap0_1 p0.fHints.length cp0_1,.slice Ap0_2 p0.fAnchors.length cp0_2,Vi p0.fEpoch,.slice Ap0_3 p0.fFlushes.length cp0_3] 30 (0,0))::H,(11,⟨V0,170,2,0,[]⟩)::R,φ⟩ (fun _ h=>h)<|c_region<|g_v rfl r_move<|g_v rfl (r_add rfl rfl rfl)<|g_v rfl r_assign<|g_nil ?_
   obtain ⟨n515,hn515,hlp⟩:=nx_inl hm hnx7
   exact d_round (n515,w64 (i478 + 1),s514) hlp hn515 ⟨rfl,rfl,rfl,trivial⟩ (fun W h=>h.phi (fun W hφ=>hφ))
  replace hm:=ite_f hm (of_decide_eq_false h499)
  refine c_exit<|d_exit_then<|d_exit_then<|d_exit_block ?_
  replace hm:=nx_out (C:=(fun e : ByteArray=>m_ref13_Snap_j2 p0 e = some r)) hm hnx7 hr7
  exact d_round s479 hm Nat.zero_lt_one ⟨rfl,rfl,trivial⟩ (fun W h=>h.phi (fun W hφ=>hφ))
 unfold m_ref13_Snap_j2 at hm
 refine d_flat [(1,Vp g1),(4,Vp g5)] ⟨rfl,rfl,trivial⟩ (fun u=>?_)
 refine d_sta ⟨w0,M,(100140,g5,.cells #[Vs s71,V0] 101 (0,0))::(100010,g1,.cells #[.slice Ap0_0 p0.fRing.length cp0_0,.slice Ap0_1 p0.fHints.length cp0_1,.slice Ap0_2 p0.fAnchors.length cp0_2,Vi p0.fEpoch,.slice Ap0_3 p0.fFlushes.length cp0_3] 30 (0,0))::H,(11,⟨V0,170,2,0,[]⟩)::R,φ⟩ (fun _ h=>h)<|d_then<|c_seq<|c_region<|g_v rfl r_move<|g_v rfl (r_field (n:=2) Tryz.underlying30 rfl Tryz.sizeOf27 rfl rfl)<|g_v rfl (r_load (tag:=100010) rfl rfl rfl Tryz.isAgg27)<|g_v rfl (r_lenL Tryz.underlying27 rfl) ?_
 replace hm:=bnd hm
 obtain ⟨x72,hx73,hm⟩:=hm
 refine g_cn ⟨w0,M,(1000,g5,.cells #[Vs s71,V0] 101 (0,0))::(100010,g1,.cells #[.slice Ap0_0 p0.fRing.length cp0_0,.slice Ap0_1 p0.fHints.length cp0_1,.slice Ap0_2 p0.fAnchors.length cp0_2,Vi p0.fEpoch,.slice Ap0_3 p0.fFlushes.length cp0_3] 30 (0,0))::H,(1000,⟨V0,170,2,0,[]⟩)::R,φ⟩ (fun W h=>(ok_front (t:=100140) (t':=1000) (ok_frontR (t:=11) (t':=1000) h rfl) rfl)) Tryz.call75 rfl rfl (c_ref04_Packer_Number (p0.fAnchors.length : Int) 1 g5 (⟨s71,([] : List Gref04_Place)⟩ : Gref04_Packer) none 0 (Nat.le_refl 0) _ hx73) (fun _ _=>?_)
 refine g_sta _ (fun W h=>(ok_frontR (t:=1000) (t':=11) (ok_front (t:=1000) (t':=100140) h rfl) rfl))<|g_nil<|d_then<|c_seq<|c_seq<|c_region<|g_v rfl r_assign<|g_nil<|d_then ?_
 refine c_cut (ι:=ByteArray) [1,4] (fun s169=>[]) (fun s169=>⟨w0,M,(100140,g5,.cells #[Vs s169,V0] 101 (0,0))::(100010,g1,.cells #[.slice Ap0_0 p0.fRing.length cp0_0,.slice Ap0_1 p0.fHints.length cp0_1,.slice Ap0_2 p0.fAnchors.length cp0_2,Vi p0.fEpoch,.slice Ap0_3 p0.fFlushes.length cp0_3] 30 (0,0))::H,(11,⟨V0,170,2,0,[]⟩)::R,φ⟩) (fun s169=>m_ref13_Snap_j3 p0 s169 = some r) ?_ (fun s169 u hm=>?_)
 ·
  refine c_block ?_
  replace hm:=bnd hm
  obtain ⟨out6,hl6,hr6⟩:=hm
  obtain ⟨n414',hl6⟩:=loop_lp hl6
  refine c_loopU (ι:=Nat×Int×ByteArray) [1,4,7] (fun ⟨n414,i366,s367⟩=>[(7,Vi i366)]) (fun ⟨n414,i366,s367⟩=>⟨w0,M,(100140,g5,.cells #[Vs s367,V0] 101 (0,0))::(100010,g1,.cells #[.slice Ap0_0 p0.fRing.length cp0_0,.slice Ap0_1 p0.fHints.length cp0_1,.slice Ap0_2 p0.fAnchors.length cp0_2,Vi p0.fEpoch,.slice Ap0_3 p0.fFlushes.length cp0_3] 30 (0,0))::H,(11,⟨V0,170,2,0,[]⟩)::R,φ⟩) (fun ⟨n414,i366,s367⟩=>Lp (fun s=>m_ref13_Snap_s6 p0 s.1 s.2) n414 (i366,s367) out6) (fun ⟨n414,i366,s367⟩=>n414) (n414',0,x72.fB) hl6 ⟨rfl,rfl,rfl,trivial⟩ (fun W h=>h.phi (fun W hφ=>hφ)) (fun ⟨n414,i366,s367⟩ u hlp=>?_)
  obtain ⟨o6,hm,hnx6⟩:=lp_step hlp
  clear hlp
  replace hm : m_ref13_Snap_s6 p0 i366 s367 = some o6:=hm
  unfold m_ref13_Snap_s6 at hm
  refine c_flat [(1,Vp g1),(4,Vp g5),(7,Vi i366)] ⟨rfl,rfl,rfl,trivial⟩ (fun u=>?_)
  refine c_sta ⟨w0,M,(100140,g5,.cells #[Vs s367,V0] 101 (0,0))::(100010,g1,.cells #[.slice Ap0_0 p0.fRing.length cp0_0,.slice Ap0_1 p0.fHints.length cp0_1,.slice Ap0_2 p0.fAnchors.length cp0_2,Vi p0.fEpoch,.slice Ap0_3 p0.fFlushes.length cp0_3] 30 (0,0))::H,(11,⟨V0,170,2,0,[]⟩)::R,φ⟩ (fun _ h=>h)<|c_seq<|c_seq<|c_region<|g_v rfl r_move<|g_v rfl (r_field (n:=2) Tryz.underlying30 rfl Tryz.sizeOf27 rfl rfl)<|g_v rfl (r_load (tag:=100010) rfl rfl rfl Tryz.isAgg27)<|g_v rfl (r_lenL Tryz.underlying27 rfl)<|g_v rfl (r_lss rfl rfl)<|g_nil ?_
  refine d_then ?_
  refine c_cond rfl (fun h415=>?_) (fun h415=>?_)
  ·
   replace hm:=ite_t hm (of_decide_eq_true h415)
   refine c_skip<|d_then<|c_seq<|c_block<|c_seq<|ga_start (n:=15) ⟨w0,M,(100140,g5,.cells #[Vs s367,V0] 101 (0,0))::(100010,g1,.cells #[.slice Ap0_0 p0.fRing.length cp0_0,.slice Ap0_1 p0.fHints.length cp0_1,.slice Ap0_2 p0.fAnchors.length cp0_2,Vi p0.fEpoch,.slice Ap0_3 p0.fFlushes.length cp0_3] 30 (0,0))::H,(11,⟨V0,170,2,0,[]⟩)::R,φ⟩ [14] #[false,false,false,false,false,false,false,false,false,false,false,false,false,false,false] (fun W h=>h.phi (fun W hφ=>hφ)) mixed rfl rfl<|ga_v (i:=0) (bz 15 1) rfl (by kernel_rfl) (fun _ _ _ _ h=>h) rfl (r_move)<|ga_v (i:=1) (bz 15 3) rfl (by kernel_rfl) (fun _ _ _ _ h=>h) rfl (r_move)<|ga_v (i:=2) (bz 15 7) rfl (by kernel_rfl) (fun _ _ _ _ h=>h) rfl (r_nilck rfl)<|ga_v (i:=3) (bz 15 15) rfl (by kernel_rfl) (fun _ _ _ _ h=>h) rfl (r_field (n:=0) Tryz.underlying101 rfl Tryz.sizeOf9 rfl rfl) ?_
   refine ga_v (i:=4) (bz 15 31) rfl (by kernel_rfl) (fun _ _ _ _ h=>h) rfl (r_load (tag:=100140) rfl rfl rfl Tryz.isAgg9)<|ga_v (i:=5) (bz 15 63) rfl (by kernel_rfl) (fun _ _ _ _ h=>h) rfl (r_field (n:=2) Tryz.underlying30 rfl Tryz.sizeOf27 rfl rfl)<|ga_v (i:=6) (bz 15 127) rfl (by kernel_rfl) (fun _ _ _ _ h=>h) rfl (r_load (tag:=100010) rfl rfl rfl Tryz.isAgg27)<|ga_r (i:=7) (bz 15 255) rfl (by kernel_rfl) (by decide) rfl (r_move) ?_
   replace hm:=bnd hm
   obtain ⟨x428,hx428,hm⟩:=hm
   refine ga_know _ (fun W hS=>cl_at (p:=(Sta.mk w0 M H R φ).ok) (sz:=2) (fun _=>rfl) (by decide) (ok_pre (H1:=[_,_]) (R1:=[_]) hS (fun W h=>h)) fp0_2 hx428) ?_
   rintro ⟨ad429,hA431,f430⟩
   refine ga_r (i:=8) (bz 15 511) rfl (by kernel_rfl) (by decide) rfl (r_ix Tryz.underlying27 Tryz.sizeOf55 rfl hA431 rfl hx428) ?_
   have f432:=fun (W : World) (h : (Sta.mk w0 M H R φ).ok W)=>Cl.drop (f430 W h) 0
   refine ga_r (i:=9) (bz 15 1023) rfl (by kernel_rfl) (by decide) rfl (r_fieldF Tryz.underlying55 rfl Tryz.sizeOf9 rfl)<|ga_r (i:=10) (bz 15 2047) rfl (by kernel_rfl) (by decide) rfl (r_ld rfl Tryz.isAgg9 (fun W hS=>Cl.head (f432 W (ok_pre (H1:=[_,_]) (R1:=[_]) hS (fun W h=>h))))) ?_
   replace hm:=bnd hm
   obtain ⟨s433,hs433,hm⟩:=hm
   refine ga_r (i:=11) (bz 15 4095) rfl (by kernel_rfl) (by decide) rfl (r_addT rfl rfl hs433)<|ga_r (i:=12) (bz 15 8191) rfl (by kernel_rfl) (by decide) rfl (r_nilck rfl)<|ga_r (i:=13) (bz 15 16383) rfl (by kernel_rfl) (by decide) rfl (r_field (n:=0) Tryz.underlying101 rfl Tryz.sizeOf9 rfl rfl)<|ga_lastL (i:=14) (tag:=100140) (bz 15 32767) rfl (by kernel_rfl) (by decide) rfl rfl rfl rfl Tryz.sizeOf9 rfl rfl<|gz_done (by kernel_rfl)<|d_then ?_
   refine c_flat [(1,Vp g1),(4,Vp g5),(7,Vi i366)] ⟨rfl,rfl,rfl,trivial⟩ (fun u=>?_)
   refine c_sta ⟨w0,M,(100140,g5,.cells #[Vs s433,V0] 101 (0,0))::(100010,g1,.cells #[.slice Ap0_0 p0.fRing.length cp0_0,.slice Ap0_1 p0.fHints.length cp0_1,.slice Ap0_2 p0.fAnchors.length cp0_2,Vi p0.fEpoch,.slice Ap0_3 p0.fFlushes.length cp0_3] 30 (0,0))::H,(11,⟨V0,170,2,0,[]⟩)::R,φ⟩ (fun _ h=>h)<|c_seq<|c_region<|g_v rfl r_move<|g_v rfl (r_field (n:=2) Tryz.underlying30 rfl Tryz.sizeOf27 rfl rfl)<|g_v rfl (r_load (tag:=100010) rfl rfl rfl Tryz.isAgg27)<|g_v rfl r_move ?_
   replace hm:=bnd hm
   obtain ⟨x434,hx434,hm⟩:=hm
   refine g_know _ (fun W hS=>cl_at (p:=(Sta.mk w0 M H R φ).ok) (sz:=2) (fun _=>rfl) (by decide) (ok_pre (H1:=[_,_]) (R1:=[_]) hS (fun W h=>h)) fp0_2 hx434) ?_
   rintro ⟨ad435,hA437,f436⟩
   refine g_v rfl (r_ix Tryz.underlying27 Tryz.sizeOf55 rfl hA437 rfl hx434) ?_
   have f438:=fun (W : World) (h : (Sta.mk w0 M H R φ).ok W)=>Cl.drop (f436 W h) 1
   refine g_v rfl (r_fieldF Tryz.underlying55 rfl Tryz.sizeOf9 rfl)<|g_v rfl (r_ld rfl Tryz.isAgg9 (fun W hS=>Cl.head (f438 W (ok_pre (H1:=[_,_]) (R1:=[_]) hS (fun W h=>h)))))<|g_v rfl (r_len Tryz.underlying9 rfl) ?_
   replace hm:=bnd hm
   obtain ⟨x439,hx440,hm⟩:=hm
   refine g_cn ⟨w0,M,(1000,g5,.cells #[Vs s433,V0] 101 (0,0))::(100010,g1,.cells #[.slice Ap0_0 p0.fRing.length cp0_0,.slice Ap0_1 p0.fHints.length cp0_1,.slice Ap0_2 p0.fAnchors.length cp0_2,Vi p0.fEpoch,.slice Ap0_3 p0.fFlushes.length cp0_3] 30 (0,0))::H,(1000,⟨V0,170,2,0,[]⟩)::R,φ⟩ (fun W h=>(ok_front (t:=100140) (t':=1000) (ok_frontR (t:=11) (t':=1000) h rfl) rfl)) Tryz.call75 rfl rfl (c_ref04_Packer_Number (x434.fText.size : Int) 1 g5 (⟨s433,([] : List Gref04_Place)⟩ : Gref04_Packer) none 0 (Nat.le_refl 0) _ hx440) (fun _ _=>?_)
   refine g_sta _ (fun W h=>(ok_frontR (t:=1000) (t':=11) (ok_front (t:=1000) (t':=100140) h rfl) rfl))<|g_nil<|d_then ?_
   refine c_flat [(1,Vp g1),(4,Vp g5),(7,Vi i366)] ⟨rfl,rfl,rfl,trivial⟩ (fun u=>?_)
   refine c_sta ⟨w0,M,(100140,g5,.cells #[Vs x439.fB,V0] 101 (0,0))::(100010,g1,.cells #[.slice Ap0_0 p0.fRing.length cp0_0,.slice Ap0_1 p0.fHints.length cp0_1,.slice Ap0_2 p0.fAnchors.length cp0_2,Vi p0.fEpoch,.slice Ap0_3 p0.fFlushes.length cp0_3] 30 (0,0))::H,(11,⟨V0,170,2,0,[]⟩)::R,φ⟩ (fun _ h=>h)<|ga_start (n:=15) ⟨w0,M,(100140,g5,.cells #[Vs x439.fB,V0] 101 (0,0))::(100010,g1,.cells #[.slice Ap0_0 p0.fRing.length cp0_0,.slice Ap0_1 p0.fHints.length cp0_1,.slice Ap0_2 p0.fAnchors.length cp0_2,Vi p0.fEpoch,.slice Ap0_3 p0.fFlushes.length cp0_3] 30 (0,0))::H,(11,⟨V0,170,2,0,[]⟩)::R,φ⟩ [14] #[false,false,false,false,false,false,false,false,false,false,false,false,false,false,false] (fun W h=>h.phi (fun W hφ=>hφ)) mixed rfl rfl<|ga_v (i:=0) (bz 15 1) rfl (by kernel_rfl) (fun _ _ _ _ h=>h) rfl (r_move)<|ga_v (i:=1) (bz 15 3) rfl (by kernel_rfl) (fun _ _ _ _ h=>h) rfl (r_move)<|ga_v (i:=2) (bz 15 7) rfl (by kernel_rfl) (fun _ _ _ _ h=>h) rfl (r_nilck rfl)<|ga_v (i:=3) (bz 15 15) rfl (by kernel_rfl) (fun _ _ _ _ h=>h) rfl (r_field (n:=0) Tryz.underlying101 rfl Tryz.sizeOf9 rfl rfl)<|ga_v (i:=4) (bz 15 31) rfl (by kernel_rfl) (fun _ _ _ _ h=>h) rfl (r_load (tag:=100140) rfl rfl rfl Tryz.isAgg9)<|ga_v (i:=5) (bz 15 63) rfl (by kernel_rfl) (fun _ _ _ _ h=>h) rfl (r_field (n:=2) Tryz.underlying30 rfl Tryz.sizeOf27 rfl rfl)<|ga_v (i:=6) (bz 15 127) rfl (by kernel_rfl) (fun _ _ _ _ h=>h) rfl (r_load (tag:=100010) rfl rfl rfl Tryz.isAgg27)<|ga_r (i:=7) (bz 15 255) rfl (by kernel_rfl) (by decide) rfl (r_move) ?_
   replace hm:=bnd hm
   obtain ⟨x453,hx453,hm⟩:=hm
   refine ga_know _ (fun W hS=>cl_at (p:=(Sta.mk w0 M H R φ).ok) (sz:=2) (fun _=>rfl) (by decide) (ok_pre (H1:=[_,_]) (R1:=[_]) hS (fun W h=>h)) fp0_2 hx453) ?_
   rintro ⟨ad454,hA456,f455⟩
   refine ga_r (i:=8) (bz 15 511) rfl (by kernel_rfl) (by decide) rfl (r_ix Tryz.underlying27 Tryz.sizeOf55 rfl hA456 rfl hx453) ?_
   have f457:=fun (W : World) (h : (Sta.mk w0 M H R φ).ok W)=>Cl.drop (f455 W h) 1
   refine ga_r (i:=9) (bz 15 1023) rfl (by kernel_rfl) (by decide) rfl (r_fieldF Tryz.underlying55 rfl Tryz.sizeOf9 rfl)<|ga_r (i:=10) (bz 15 2047) rfl (by kernel_rfl) (by decide) rfl (r_ld rfl Tryz.isAgg9 (fun W hS=>Cl.head (f457 W (ok_pre (H1:=[_,_]) (R1:=[_]) hS (fun W h=>h))))) ?_
   replace hm:=bnd hm
   obtain ⟨s458,hs458,hm⟩:=hm
   refine ga_r (i:=11) (bz 15 4095) rfl (by kernel_rfl) (by decide) rfl (r_addT rfl rfl hs458)<|ga_r (i:=12) (bz 15 8191) rfl (by kernel_rfl) (by decide) rfl (r_nilck rfl)<|ga_r (i:=13) (bz 15 16383) rfl (by kernel_rfl) (by decide) rfl (r_field (n:=0) Tryz.underlying101 rfl Tryz.sizeOf9 rfl rfl)<|ga_lastL (i:=14) (tag:=100140) (bz 15 32767) rfl (by kernel_rfl) (by decide) rfl rfl rfl rfl Tryz.sizeOf9 rfl rfl<|gz_done (by kernel_rfl)<|d_normal_block<|d_then ?_
   refine c_flat [(1,Vp g1),(4,Vp g5),(7,Vi i366)] ⟨rfl,rfl,rfl,trivial⟩ (fun u=>?_)
   refine c_sta ⟨w0,M,(100140,g5,.cells #[Vs s458,V0] 101 (0,0))::(100010,g1,.cells #[.slice Ap0_0 p0.fRing.length cp0_0,.slice Ap0_1 p0.fHints.length cp0_1,.slice Ap0_2 p0.fAnchors.length cp0_2,Vi p0.fEpoch,.slice Ap0_3 p0.fFlushes.length cp0_3] 30 (0,0))::H,(11,⟨V0,170,2,0,[]⟩)::R,φ⟩ (fun _ h=>h)<|c_region<|g_v rfl r_move<|g_v rfl (r_add rfl rfl rfl)<|g_v rfl r_assign<|g_nil ?_
   obtain ⟨n459,hn459,hlp⟩:=nx_inl hm hnx6
   exact d_round (n459,w64 (i366 + 1),s458) hlp hn459 ⟨rfl,rfl,rfl,trivial⟩ (fun W h=>h.phi (fun W hφ=>hφ))
  replace hm:=ite_f hm (of_decide_eq_false h415)
  refine c_exit<|d_exit_then<|d_exit_then<|d_exit_block ?_
  replace hm:=nx_out (C:=(fun e : ByteArray=>m_ref13_Snap_j3 p0 e = some r)) hm hnx6 hr6
  exact d_round s367 hm Nat.zero_lt_one ⟨rfl,rfl,trivial⟩ (fun W h=>h.phi (fun W hφ=>hφ))
 unfold m_ref13_Snap_j3 at hm
 refine d_flat [(1,Vp g1),(4,Vp g5)] ⟨rfl,rfl,trivial⟩ (fun u=>?_)
 refine d_sta ⟨w0,M,(100140,g5,.cells #[Vs s169,V0] 101 (0,0))::(100010,g1,.cells #[.slice Ap0_0 p0.fRing.length cp0_0,.slice Ap0_1 p0.fHints.length cp0_1,.slice Ap0_2 p0.fAnchors.length cp0_2,Vi p0.fEpoch,.slice Ap0_3 p0.fFlushes.length cp0_3] 30 (0,0))::H,(11,⟨V0,170,2,0,[]⟩)::R,φ⟩ (fun _ h=>h)<|d_then<|c_seq<|c_region<|g_v rfl r_move<|g_v rfl (r_field (n:=3) Tryz.underlying30 rfl Tryz.sizeOf3 rfl rfl)<|g_v rfl (r_load (tag:=100010) rfl rfl rfl Tryz.isAgg3) ?_
 replace hm:=bnd hm
 obtain ⟨x170,hx171,hm⟩:=hm
 refine g_cn ⟨w0,M,(1000,g5,.cells #[Vs s169,V0] 101 (0,0))::(100010,g1,.cells #[.slice Ap0_0 p0.fRing.length cp0_0,.slice Ap0_1 p0.fHints.length cp0_1,.slice Ap0_2 p0.fAnchors.length cp0_2,Vi p0.fEpoch,.slice Ap0_3 p0.fFlushes.length cp0_3] 30 (0,0))::H,(1000,⟨V0,170,2,0,[]⟩)::R,φ⟩ (fun W h=>(ok_front (t:=100140) (t':=1000) (ok_frontR (t:=11) (t':=1000) h rfl) rfl)) Tryz.call75 rfl rfl (c_ref04_Packer_Number p0.fEpoch 8 g5 (⟨s169,([] : List Gref04_Place)⟩ : Gref04_Packer) none 0 (Nat.le_refl 0) _ hx171) (fun _ _=>?_)
 refine g_sta _ (fun W h=>(ok_frontR (t:=1000) (t':=11) (ok_front (t:=1000) (t':=100140) h rfl) rfl))<|g_nil<|d_then<|c_seq<|c_region<|g_v rfl r_move<|g_v rfl (r_field (n:=4) Tryz.underlying30 rfl Tryz.sizeOf28 rfl rfl)<|g_v rfl (r_load (tag:=100010) rfl rfl rfl Tryz.isAgg28)<|g_v rfl (r_lenL Tryz.underlying28 rfl) ?_
 replace hm:=bnd hm
 obtain ⟨x172,hx173,hm⟩:=hm
 refine g_cn ⟨w0,M,(1000,g5,.cells #[Vs x170.fB,V0] 101 (0,0))::(100010,g1,.cells #[.slice Ap0_0 p0.fRing.length cp0_0,.slice Ap0_1 p0.fHints.length cp0_1,.slice Ap0_2 p0.fAnchors.length cp0_2,Vi p0.fEpoch,.slice Ap0_3 p0.fFlushes.length cp0_3] 30 (0,0))::H,(1000,⟨V0,170,2,0,[]⟩)::R,φ⟩ (fun W h=>(ok_front (t:=100140) (t':=1000) (ok_frontR (t:=11) (t':=1000) h rfl) rfl)) Tryz.call75 rfl rfl (c_ref04_Packer_Number (p0.fFlushes.length : Int) 1 g5 (⟨x170.fB,([] : List Gref04_Place)⟩ : Gref04_Packer) none 0 (Nat.le_refl 0) _ hx173) (fun _ _=>?_)
 refine g_sta _ (fun W h=>(ok_frontR (t:=1000) (t':=11) (ok_front (t:=1000) (t':=100140) h rfl) rfl))<|g_nil<|d_then ?_
 refine c_flat [(1,Vp g1),(4,Vp g5)] ⟨rfl,rfl,trivial⟩ (fun u=>?_)
 refine c_sta ⟨w0,M,(100140,g5,.cells #[Vs x172.fB,V0] 101 (0,0))::(100010,g1,.cells #[.slice Ap0_0 p0.fRing.length cp0_0,.slice Ap0_1 p0.fHints.length cp0_1,.slice Ap0_2 p0.fAnchors.length cp0_2,Vi p0.fEpoch,.slice Ap0_3 p0.fFlushes.length cp0_3] 30 (0,0))::H,(11,⟨V0,170,2,0,[]⟩)::R,φ⟩ (fun _ h=>h)<|c_seq<|c_seq<|c_region<|g_v rfl r_assign<|g_nil<|d_then ?_
 refine c_cut (ι:=ByteArray) [4] (fun s233=>[]) (fun s233=>⟨w0,M,(100140,g5,.cells #[Vs s233,V0] 101 (0,0))::H,(11,⟨V0,170,2,0,[]⟩)::R,φ⟩) (fun s233=>m_ref13_Snap_j4 s233 = some r) ?_ (fun s233 u hm=>?_)
 ·
  refine c_block ?_
  replace hm:=bnd hm
  obtain ⟨out5,hl5,hr5⟩:=hm
  obtain ⟨n292',hl5⟩:=loop_lp hl5
  refine c_loopU (ι:=Nat×Int×ByteArray) [1,4,8] (fun ⟨n292,i262,s263⟩=>[(8,Vi i262)]) (fun ⟨n292,i262,s263⟩=>⟨w0,M,(100140,g5,.cells #[Vs s263,V0] 101 (0,0))::(100010,g1,.cells #[.slice Ap0_0 p0.fRing.length cp0_0,.slice Ap0_1 p0.fHints.length cp0_1,.slice Ap0_2 p0.fAnchors.length cp0_2,Vi p0.fEpoch,.slice Ap0_3 p0.fFlushes.length cp0_3] 30 (0,0))::H,(11,⟨V0,170,2,0,[]⟩)::R,φ⟩) (fun ⟨n292,i262,s263⟩=>Lp (fun s=>m_ref13_Snap_s5 p0 s.1 s.2) n292 (i262,s263) out5) (fun ⟨n292,i262,s263⟩=>n292) (n292',0,x172.fB) hl5 ⟨rfl,rfl,rfl,trivial⟩ (fun W h=>h.phi (fun W hφ=>hφ)) (fun ⟨n292,i262,s263⟩ u hlp=>?_)
  obtain ⟨o5,hm,hnx5⟩:=lp_step hlp
  clear hlp
  replace hm : m_ref13_Snap_s5 p0 i262 s263 = some o5:=hm
  unfold m_ref13_Snap_s5 at hm
  refine c_flat [(1,Vp g1),(4,Vp g5),(8,Vi i262)] ⟨rfl,rfl,rfl,trivial⟩ (fun u=>?_)
  refine c_sta ⟨w0,M,(100140,g5,.cells #[Vs s263,V0] 101 (0,0))::(100010,g1,.cells #[.slice Ap0_0 p0.fRing.length cp0_0,.slice Ap0_1 p0.fHints.length cp0_1,.slice Ap0_2 p0.fAnchors.length cp0_2,Vi p0.fEpoch,.slice Ap0_3 p0.fFlushes.length cp0_3] 30 (0,0))::H,(11,⟨V0,170,2,0,[]⟩)::R,φ⟩ (fun _ h=>h)<|c_seq<|c_seq<|c_region<|g_v rfl r_move<|g_v rfl (r_field (n:=4) Tryz.underlying30 rfl Tryz.sizeOf28 rfl rfl)<|g_v rfl (r_load (tag:=100010) rfl rfl rfl Tryz.isAgg28)<|g_v rfl (r_lenL Tryz.underlying28 rfl)<|g_v rfl (r_lss rfl rfl)<|g_nil ?_
  refine d_then ?_
  refine c_cond rfl (fun h293=>?_) (fun h293=>?_)
  ·
   replace hm:=ite_t hm (of_decide_eq_true h293)
   refine c_skip<|d_then<|c_seq<|c_block<|c_seq<|c_region<|g_v rfl r_move<|g_v rfl (r_field (n:=4) Tryz.underlying30 rfl Tryz.sizeOf28 rfl rfl)<|g_v rfl (r_load (tag:=100010) rfl rfl rfl Tryz.isAgg28)<|g_v rfl r_move ?_
   replace hm:=bnd hm
   obtain ⟨x294,hx294,hm⟩:=hm
   refine g_know _ (fun W hS=>cl_at (p:=(Sta.mk w0 M H R φ).ok) (sz:=2) (fun _=>rfl) (by decide) (ok_pre (H1:=[_,_]) (R1:=[_]) hS (fun W h=>h)) fp0_3 hx294) ?_
   rintro ⟨ad295,hA297,f296⟩
   refine g_v rfl (r_ix Tryz.underlying28 Tryz.sizeOf48 rfl hA297 rfl hx294) ?_
   have f298:=fun (W : World) (h : (Sta.mk w0 M H R φ).ok W)=>Cl.drop (f296 W h) 0
   refine g_v rfl (r_fieldF Tryz.underlying48 rfl Tryz.sizeOf3 rfl)<|g_v rfl (r_ld rfl Tryz.isAgg3 (fun W hS=>Cl.head (f298 W (ok_pre (H1:=[_,_]) (R1:=[_]) hS (fun W h=>h))))) ?_
   replace hm:=bnd hm
   obtain ⟨x299,hx300,hm⟩:=hm
   refine g_cn ⟨w0,M,(1000,g5,.cells #[Vs s263,V0] 101 (0,0))::(100010,g1,.cells #[.slice Ap0_0 p0.fRing.length cp0_0,.slice Ap0_1 p0.fHints.length cp0_1,.slice Ap0_2 p0.fAnchors.length cp0_2,Vi p0.fEpoch,.slice Ap0_3 p0.fFlushes.length cp0_3] 30 (0,0))::H,(1000,⟨V0,170,2,0,[]⟩)::R,φ⟩ (fun W h=>(ok_front (t:=100140) (t':=1000) (ok_frontR (t:=11) (t':=1000) h rfl) rfl)) Tryz.call75 rfl rfl (c_ref04_Packer_Number x294.fEpoch 8 g5 (⟨s263,([] : List Gref04_Place)⟩ : Gref04_Packer) none 0 (Nat.le_refl 0) _ hx300) (fun _ _=>?_)
   refine g_sta _ (fun W h=>(ok_frontR (t:=1000) (t':=11) (ok_front (t:=1000) (t':=100140) h rfl) rfl))<|g_nil<|d_then ?_
   refine c_flat [(1,Vp g1),(4,Vp g5),(8,Vi i262)] ⟨rfl,rfl,rfl,trivial⟩ (fun u=>?_)
   refine c_sta ⟨w0,M,(100140,g5,.cells #[Vs x299.fB,V0] 101 (0,0))::(100010,g1,.cells #[.slice Ap0_0 p0.fRing.length cp0_0,.slice Ap0_1 p0.fHints.length cp0_1,.slice Ap0_2 p0.fAnchors.length cp0_2,Vi p0.fEpoch,.slice Ap0_3 p0.fFlushes.length cp0_3] 30 (0,0))::H,(11,⟨V0,170,2,0,[]⟩)::R,φ⟩ (fun _ h=>h)<|ga_start (n:=15) ⟨w0,M,(100140,g5,.cells #[Vs x299.fB,V0] 101 (0,0))::(100010,g1,.cells #[.slice Ap0_0 p0.fRing.length cp0_0,.slice Ap0_1 p0.fHints.length cp0_1,.slice Ap0_2 p0.fAnchors.length cp0_2,Vi p0.fEpoch,.slice Ap0_3 p0.fFlushes.length cp0_3] 30 (0,0))::H,(11,⟨V0,170,2,0,[]⟩)::R,φ⟩ [14] #[false,false,false,false,false,false,false,false,false,false,false,false,false,false,false] (fun W h=>h.phi (fun W hφ=>hφ)) mixed rfl rfl<|ga_v (i:=0) (bz 15 1) rfl (by kernel_rfl) (fun _ _ _ _ h=>h) rfl (r_move)<|ga_v (i:=1) (bz 15 3) rfl (by kernel_rfl) (fun _ _ _ _ h=>h) rfl (r_move)<|ga_v (i:=2) (bz 15 7) rfl (by kernel_rfl) (fun _ _ _ _ h=>h) rfl (r_nilck rfl)<|ga_v (i:=3) (bz 15 15) rfl (by kernel_rfl) (fun _ _ _ _ h=>h) rfl (r_field (n:=0) Tryz.underlying101 rfl Tryz.sizeOf9 rfl rfl)<|ga_v (i:=4) (bz 15 31) rfl (by kernel_rfl) (fun _ _ _ _ h=>h) rfl (r_load (tag:=100140) rfl rfl rfl Tryz.isAgg9)<|ga_v (i:=5) (bz 15 63) rfl (by kernel_rfl) (fun _ _ _ _ h=>h) rfl (r_field (n:=4) Tryz.underlying30 rfl Tryz.sizeOf28 rfl rfl)<|ga_v (i:=6) (bz 15 127) rfl (by kernel_rfl) (fun _ _ _ _ h=>h) rfl (r_load (tag:=100010) rfl rfl rfl Tryz.isAgg28)<|ga_r (i:=7) (bz 15 255) rfl (by kernel_rfl) (by decide) rfl (r_move) ?_
   replace hm:=bnd hm
   obtain ⟨x313,hx313,hm⟩:=hm
   refine ga_know _ (fun W hS=>cl_at (p:=(Sta.mk w0 M H R φ).ok) (sz:=2) (fun _=>rfl) (by decide) (ok_pre (H1:=[_,_]) (R1:=[_]) hS (fun W h=>h)) fp0_3 hx313) ?_
   rintro ⟨ad314,hA316,f315⟩
   refine ga_r (i:=8) (bz 15 511) rfl (by kernel_rfl) (by decide) rfl (r_ix Tryz.underlying28 Tryz.sizeOf48 rfl hA316 rfl hx313) ?_
   have f317:=fun (W : World) (h : (Sta.mk w0 M H R φ).ok W)=>Cl.drop (f315 W h) 1
   refine ga_r (i:=9) (bz 15 1023) rfl (by kernel_rfl) (by decide) rfl (r_fieldF Tryz.underlying48 rfl Tryz.sizeOf9 rfl)<|ga_r (i:=10) (bz 15 2047) rfl (by kernel_rfl) (by decide) rfl (r_ld rfl Tryz.isAgg9 (fun W hS=>Cl.head (f317 W (ok_pre (H1:=[_,_]) (R1:=[_]) hS (fun W h=>h))))) ?_
   replace hm:=bnd hm
   obtain ⟨s318,hs318,hm⟩:=hm
   refine ga_r (i:=11) (bz 15 4095) rfl (by kernel_rfl) (by decide) rfl (r_addT rfl rfl hs318)<|ga_r (i:=12) (bz 15 8191) rfl (by kernel_rfl) (by decide) rfl (r_nilck rfl)<|ga_r (i:=13) (bz 15 16383) rfl (by kernel_rfl) (by decide) rfl (r_field (n:=0) Tryz.underlying101 rfl Tryz.sizeOf9 rfl rfl)<|ga_lastL (i:=14) (tag:=100140) (bz 15 32767) rfl (by kernel_rfl) (by decide) rfl rfl rfl rfl Tryz.sizeOf9 rfl rfl<|gz_done (by kernel_rfl)<|d_normal_block<|d_then ?_
   refine c_flat [(1,Vp g1),(4,Vp g5),(8,Vi i262)] ⟨rfl,rfl,rfl,trivial⟩ (fun u=>?_)
   refine c_sta ⟨w0,M,(100140,g5,.cells #[Vs s318,V0] 101 (0,0))::(100010,g1,.cells #[.slice Ap0_0 p0.fRing.length cp0_0,.slice Ap0_1 p0.fHints.length cp0_1,.slice Ap0_2 p0.fAnchors.length cp0_2,Vi p0.fEpoch,.slice Ap0_3 p0.fFlushes.length cp0_3] 30 (0,0))::H,(11,⟨V0,170,2,0,[]⟩)::R,φ⟩ (fun _ h=>h)<|c_region<|g_v rfl r_move<|g_v rfl (r_add rfl rfl rfl)<|g_v rfl r_assign<|g_nil ?_
   obtain ⟨n319,hn319,hlp⟩:=nx_inl hm hnx5
   exact d_round (n319,w64 (i262 + 1),s318) hlp hn319 ⟨rfl,rfl,rfl,trivial⟩ (fun W h=>h.phi (fun W hφ=>hφ))
  replace hm:=ite_f hm (of_decide_eq_false h293)
  refine c_exit<|d_exit_then<|d_exit_then<|d_exit_block ?_
  replace hm:=nx_out (C:=(fun e : ByteArray=>m_ref13_Snap_j4 e = some r)) hm hnx5 hr5
  exact d_round s263 hm Nat.zero_lt_one ⟨rfl,trivial⟩ (fun W h=>(h.dropH (t:=100010) rfl).phi (fun W hφ=>hφ))
 unfold m_ref13_Snap_j4 at hm
 refine d_flat [(4,Vp g5)] ⟨rfl,trivial⟩ (fun u=>?_)
 refine d_sta ⟨w0,M,(100140,g5,.cells #[Vs s233,V0] 101 (0,0))::H,(11,⟨V0,170,2,0,[]⟩)::R,φ⟩ (fun _ h=>h)<|d_then<|c_seq<|c_region<|g_v rfl r_move<|g_v rfl (r_nilck rfl)<|g_v rfl (r_field (n:=0) Tryz.underlying101 rfl Tryz.sizeOf9 rfl rfl)<|g_v rfl (r_load (tag:=100140) rfl rfl rfl Tryz.isAgg9)<|g_v rfl r_assign<|g_nil ?_
 refine d_then<|c_ret ?_
 cases hm
 exact d_retC () Tryz.results17 (res_tmp (res_nil rfl)) trivial (fun W h=>ok_pre (H1:=[_]) (R1:=[_]) h (fun W hφ=>hφ)) (.inr rfl)
noncomputable def m_law13_ConfApplies_j1 (x1 : Bool) (l344 : List Int) (l348 : List ByteArray) (l352 : List GAnchor) (i356 : Int) (l357 : List GFlush) (l361 : List Int) (l365 : List ByteArray) (l369 : List GAnchor) (i373 : Int) (l374 : List GFlush) : Option Bool:=
  (m_conf_Snap (⟨l361,l365,l369,i373,l374⟩ : GConf)).bind fun x379=>
  (m_conf_Load x379).bind fun (z397 : GConf×Int)=>
  (m_ref13_Same (⟨l361,l365,l369,i373,l374⟩ : GConf) z397.1).bind fun x399=>
  if x1 = true then
    (m_ref13_Snap (⟨l344,l348,l352,i356,l357⟩ : GConf)).bind fun x402=>
    if x379 = x402 then
      if z397.2 = 0 then
        some x399
      else
        some false
    else
      some false
  else
    some false
noncomputable def m_law13_ConfApplies_s2 (p0 : List GOrder) (x3 : ByteArray) (i556 : Int) (l557 : List Int) (l561 : List ByteArray) (l565 : List GAnchor) (i569 : Int) (l570 : List GFlush) (l574 : List Int) (l578 : List ByteArray) (l582 : List GAnchor) (i586 : Int) (l587 : List GFlush) : Option ((Int×(List Int)×(List ByteArray)×(List GAnchor)×Int×(List GFlush)×(List Int)×(List ByteArray)×(List GAnchor)×Int×(List GFlush)) ⊕ (((List Int)×(List ByteArray)×(List GAnchor)×Int×(List GFlush)×(List Int)×(List ByteArray)×(List GAnchor)×Int×(List GFlush)) ⊕ Bool)):=
  if i556 < (p0.length : Int) then
    if i556 < 60 then
      (at_ p0 i556).bind fun x746=>
      (m_law13_small x746).bind fun x755=>
      (m_ref13_Copy (⟨l574,l578,l582,i586,l587⟩ : GConf)).bind fun x762=>
      (m_conf_Floor (⟨l574,l578,l582,i586,l587⟩ : GConf) x3).bind fun x778=>
      (m_conf_Apply (⟨l574,l578,l582,i586,l587⟩ : GConf) x755).bind fun (z796 : GConf×Int)=>
      (m_ref13_Apply (⟨l557,l561,l565,i569,l570⟩ : GConf) x755).bind fun (z814 : GConf×Int)=>
      (m_ref13_Same z796.1 z814.1).bind fun x816=>
      (m_ref13_Same (⟨l574,l578,l582,i586,l587⟩ : GConf) x762).bind fun x818=>
      if x816 = true then
        if x818 = true then
          if z796.2 ≠ z814.2 then
            some (.inr (.inr false))
          else
            (m_conf_Right z796.1).bind fun x849=>
            if x849 = true then
              (m_conf_Floor z796.1 x3).bind fun x852=>
              (m_ref13_Floor z814.1 x3).bind fun x854=>
              if x852 ≠ x854 then
                some (.inr (.inr false))
              else
                (m_conf_Floor z796.1 x3).bind fun x857=>
                if x857 < x778 then
                  some (.inr (.inr false))
                else
                  some (.inl (w64 (i556 + 1),z814.1.fRing,z814.1.fHints,z814.1.fAnchors,z814.1.fEpoch,z814.1.fFlushes,z796.1.fRing,z796.1.fHints,z796.1.fAnchors,z796.1.fEpoch,z796.1.fFlushes))
            else
              some (.inr (.inr false))
        else
          some (.inr (.inr false))
      else
        some (.inr (.inr false))
    else
      some (.inr (.inl (l557,l561,l565,i569,l570,l574,l578,l582,i586,l587)))
  else
    some (.inr (.inl (l557,l561,l565,i569,l570,l574,l578,l582,i586,l587)))
noncomputable def m_law13_ConfApplies (p0 : List GOrder) (p1 : ByteArray) : Option Bool:=
  (m_law13_awake).bind fun x1=>
  (m_law13_short p1 300).bind fun x3=>
  (loop (fun s=>m_law13_ConfApplies_s2 p0 x3 s.1 s.2.1 s.2.2.1 s.2.2.2.1 s.2.2.2.2.1 s.2.2.2.2.2.1 s.2.2.2.2.2.2.1 s.2.2.2.2.2.2.2.1 s.2.2.2.2.2.2.2.2.1 s.2.2.2.2.2.2.2.2.2.1 s.2.2.2.2.2.2.2.2.2.2) (0,([] : List Int),([] : List ByteArray),([] : List GAnchor),0,([] : List GFlush),([] : List Int),([] : List ByteArray),([] : List GAnchor),0,([] : List GFlush))).bind fun e=>Sum.elim (fun e=>m_law13_ConfApplies_j1 x1 e.1 e.2.1 e.2.2.1 e.2.2.2.1 e.2.2.2.2.1 e.2.2.2.2.2.1 e.2.2.2.2.2.2.1 e.2.2.2.2.2.2.2.1 e.2.2.2.2.2.2.2.2.1 e.2.2.2.2.2.2.2.2.2) (fun x=>some x) e
theorem c_law13_ConfApplies {w0 : World} {M : Nat→Prop} {H : List (Nat×Nat×Obj)} {R : List (Nat×Row)} {φ : World→Prop} (p0 : List GOrder) (Ap0_0 : Option Addr) (cp0_0 : Nat) (psp0_0 : List GOrderP) (hcp0_0 : (DOk GOrder.capP p0 psp0_0∧p0.length ≤ cp0_0)) (fp0_0 : ∀ W,(Sta.mk w0 M H R φ).ok W→Cl W Ap0_0 ((p0.zip psp0_0).flatMap GOrder.encP)) (fop0_0 : ∀ W,(Sta.mk w0 M H R φ).ok W→DOwn GOrder.ownP p0 psp0_0 W) (p1 : ByteArray) (r : Bool) (hm : m_law13_ConfApplies p0 p1 = some r) :
    Cn Tryz.prog 3 #[.slice Ap0_0 p0.length cp0_0,Vs p1] ⟨w0,M,H,R,φ⟩ (fun x : Unit=>.bool r) (fun x=>True) (fun x=>⟨w0,M,H,R,φ⟩):=by
 unfold m_law13_ConfApplies at hm
 refine cn_intro (fn:=Tryz.f3) (N:=121) Tryz.func3 rfl Tryz.ntmps3 rfl<|c_seq<|c_region<|g_v rfl r_assign<|g_nil<|d_then<|c_seq<|c_region ?_
 replace hm:=bnd hm
 obtain ⟨x1,hx2,hm⟩:=hm
 refine g_cn ⟨w0,M,_,_,φ⟩ (fun _ h=>h) Tryz.call5 rfl rfl (c_law13_awake  _ hx2) (fun _ _=>?_)
 refine g_v rfl r_assign<|g_nil<|d_then<|c_seq<|c_region<|g_v rfl r_move ?_
 replace hm:=bnd hm
 obtain ⟨x3,hx4,hm⟩:=hm
 refine g_cn ⟨w0,M,_,_,φ⟩ (fun _ h=>h) Tryz.call6 rfl rfl (c_law13_short p1 300 _ hx4) (fun _ _=>?_)
 refine g_v rfl r_assign<|g_nil<|d_then<|c_seq<|c_region ?_
 refine g_e rfl (e_alloc 100060 Tryz.zeroValue30) (fun g5 _=>?_)
 refine g_nil<|d_then<|c_seq<|c_region ?_
 refine g_e rfl (e_alloc 100070 Tryz.zeroValue30) (fun g6 _=>?_)
 refine g_nil<|d_then<|c_seq ?_
 refine c_cut (ι:=(List Int)×(List ByteArray)×(List GAnchor)×Int×(List GFlush)×(List Int)×(List ByteArray)×(List GAnchor)×Int×(List GFlush)×Option Addr×Nat×Option Addr×Nat×Option Addr×Nat×Option Addr×Nat×Option Addr×Nat×Option Addr×Nat×Option Addr×Nat×Option Addr×Nat) [5,6,7] (fun ⟨l344,l348,l352,i356,l357,l361,l365,l369,i373,l374,A345,c346,A349,c350,A353,c354,A358,c359,A362,c363,A366,c367,A370,c371,A375,c376⟩=>[]) (fun ⟨l344,l348,l352,i356,l357,l361,l365,l369,i373,l374,A345,c346,A349,c350,A353,c354,A358,c359,A362,c363,A366,c367,A370,c371,A375,c376⟩=>⟨w0,M,(100070,g6,.cells #[.slice A345 l344.length c346,.slice A349 l348.length c350,.slice A353 l352.length c354,Vi i356,.slice A358 l357.length c359] 30 (0,0))::(100060,g5,.cells #[.slice A362 l361.length c363,.slice A366 l365.length c367,.slice A370 l369.length c371,Vi i373,.slice A375 l374.length c376] 30 (0,0))::H,R,fun W=>φ W∧Cl W A345 (l344.flatMap (fun x : Int=>[Value.int .i64 x]))∧Cl W A349 (l348.flatMap (fun x : ByteArray=>[Value.string x]))∧Cl W A353 (l352.flatMap GAnchor.enc)∧Cl W A358 (l357.flatMap GFlush.enc)∧Cl W A362 (l361.flatMap (fun x : Int=>[Value.int .i64 x]))∧Cl W A366 (l365.flatMap (fun x : ByteArray=>[Value.string x]))∧Cl W A370 (l369.flatMap GAnchor.enc)∧Cl W A375 (l374.flatMap GFlush.enc)⟩) (fun ⟨l344,l348,l352,i356,l357,l361,l365,l369,i373,l374,A345,c346,A349,c350,A353,c354,A358,c359,A362,c363,A366,c367,A370,c371,A375,c376⟩=>m_law13_ConfApplies_j1 x1 l344 l348 l352 i356 l357 l361 l365 l369 i373 l374 = some r∧l344.length ≤ c346∧l348.length ≤ c350∧l352.length ≤ c354∧l357.length ≤ c359∧l361.length ≤ c363∧l365.length ≤ c367∧l369.length ≤ c371∧l374.length ≤ c376) ?_ (fun ⟨l344,l348,l352,i356,l357,l361,l365,l369,i373,l374,A345,c346,A349,c350,A353,c354,A358,c359,A362,c363,A366,c367,A370,c371,A375,c376⟩ u ⟨hm,hc346,hc350,hc354,hc359,hc363,hc367,hc371,hc376⟩=>?_)
 ·
  refine c_seq<|c_region<|g_v rfl r_assign<|g_nil<|d_then ?_
  refine c_flat [(0,.slice Ap0_0 p0.length cp0_0),(1,Vs x3),(5,.bool x1),(6,Vp g5),(7,Vp g6),(8,Vi 0)] ⟨rfl,rfl,rfl,rfl,rfl,rfl,trivial⟩ (fun u=>?_)
  refine c_sta ⟨w0,M,(100070,g6,.cells #[V0,V0,V0,Vi 0,V0] 30 (0,0))::(100060,g5,.cells #[V0,V0,V0,Vi 0,V0] 30 (0,0))::H,R,φ⟩ (fun _ h=>h)<|c_block ?_
  replace hm:=bnd hm
  obtain ⟨out2,hl2,hr2⟩:=hm
  obtain ⟨n742',hl2⟩:=loop_lp hl2
  refine c_loopU (ι:=Nat×Int×(List Int)×(List ByteArray)×(List GAnchor)×Int×(List GFlush)×(List Int)×(List ByteArray)×(List GAnchor)×Int×(List GFlush)×Option Addr×Nat×Option Addr×Nat×Option Addr×Nat×Option Addr×Nat×Option Addr×Nat×Option Addr×Nat×Option Addr×Nat×Option Addr×Nat) [0,1,5,6,7,8] (fun ⟨n742,i556,l557,l561,l565,i569,l570,l574,l578,l582,i586,l587,A558,c559,A562,c563,A566,c567,A571,c572,A575,c576,A579,c580,A583,c584,A588,c589⟩=>[(8,Vi i556)]) (fun ⟨n742,i556,l557,l561,l565,i569,l570,l574,l578,l582,i586,l587,A558,c559,A562,c563,A566,c567,A571,c572,A575,c576,A579,c580,A583,c584,A588,c589⟩=>⟨w0,M,(100070,g6,.cells #[.slice A558 l557.length c559,.slice A562 l561.length c563,.slice A566 l565.length c567,Vi i569,.slice A571 l570.length c572] 30 (0,0))::(100060,g5,.cells #[.slice A575 l574.length c576,.slice A579 l578.length c580,.slice A583 l582.length c584,Vi i586,.slice A588 l587.length c589] 30 (0,0))::H,R,fun W=>φ W∧Cl W A558 (l557.flatMap (fun x : Int=>[Value.int .i64 x]))∧Cl W A562 (l561.flatMap (fun x : ByteArray=>[Value.string x]))∧Cl W A566 (l565.flatMap GAnchor.enc)∧Cl W A571 (l570.flatMap GFlush.enc)∧Cl W A575 (l574.flatMap (fun x : Int=>[Value.int .i64 x]))∧Cl W A579 (l578.flatMap (fun x : ByteArray=>[Value.string x]))∧Cl W A583 (l582.flatMap GAnchor.enc)∧Cl W A588 (l587.flatMap GFlush.enc)⟩) (fun ⟨n742,i556,l557,l561,l565,i569,l570,l574,l578,l582,i586,l587,A558,c559,A562,c563,A566,c567,A571,c572,A575,c576,A579,c580,A583,c584,A588,c589⟩=>Lp (fun s=>m_law13_ConfApplies_s2 p0 x3 s.1 s.2.1 s.2.2.1 s.2.2.2.1 s.2.2.2.2.1 s.2.2.2.2.2.1 s.2.2.2.2.2.2.1 s.2.2.2.2.2.2.2.1 s.2.2.2.2.2.2.2.2.1 s.2.2.2.2.2.2.2.2.2.1 s.2.2.2.2.2.2.2.2.2.2) n742 (i556,l557,l561,l565,i569,l570,l574,l578,l582,i586,l587) out2∧l557.length ≤ c559∧l561.length ≤ c563∧l565.length ≤ c567∧l570.length ≤ c572∧l574.length ≤ c576∧l578.length ≤ c580∧l582.length ≤ c584∧l587.length ≤ c589) (fun ⟨n742,i556,l557,l561,l565,i569,l570,l574,l578,l582,i586,l587,A558,c559,A562,c563,A566,c567,A571,c572,A575,c576,A579,c580,A583,c584,A588,c589⟩=>n742) (n742',0,([] : List Int),([] : List ByteArray),([] : List GAnchor),0,([] : List GFlush),([] : List Int),([] : List ByteArray),([] : List GAnchor),0,([] : List GFlush),none,0,none,0,none,0,none,0,none,0,none,0,none,0,none,0) ⟨hl2,(Nat.le_refl 0),(Nat.le_refl 0),(Nat.le_refl 0),(Nat.le_refl 0),(Nat.le_refl 0),(Nat.le_refl 0),(Nat.le_refl 0),(Nat.le_refl 0)⟩ ⟨rfl,rfl,rfl,rfl,rfl,rfl,trivial⟩ (fun W h=>h.phi (fun W hφ=>⟨hφ,(fun W _=>Cl.nil _ _) W hφ,(fun W _=>Cl.nil _ _) W hφ,(fun W _=>Cl.nil _ _) W hφ,(fun W _=>Cl.nil _ _) W hφ,(fun W _=>Cl.nil _ _) W hφ,(fun W _=>Cl.nil _ _) W hφ,(fun W _=>Cl.nil _ _) W hφ,(fun W _=>Cl.nil _ _) W hφ⟩)) (fun ⟨n742,i556,l557,l561,l565,i569,l570,l574,l578,l582,i586,l587,A558,c559,A562,c563,A566,c567,A571,c572,A575,c576,A579,c580,A583,c584,A588,c589⟩ u ⟨hlp,hc559,hc563,hc567,hc572,hc576,hc580,hc584,hc589⟩=>?_)
  obtain ⟨o2,hm,hnx2⟩:=lp_step hlp
  clear hlp
  replace hm : m_law13_ConfApplies_s2 p0 x3 i556 l557 l561 l565 i569 l570 l574 l578 l582 i586 l587 = some o2:=hm
  unfold m_law13_ConfApplies_s2 at hm
  refine c_abs (fun φ743 q743'=>?_)
  have q743 : ∀ W,φ743 W→φ W:=fun W h=>(q743' W h).1
  have f560:=fun (W : World) (h : φ743 W)=>(q743' W h).2.1
  have f564:=fun (W : World) (h : φ743 W)=>(q743' W h).2.2.1
  have f568:=fun (W : World) (h : φ743 W)=>(q743' W h).2.2.2.1
  have f573:=fun (W : World) (h : φ743 W)=>(q743' W h).2.2.2.2.1
  have f577:=fun (W : World) (h : φ743 W)=>(q743' W h).2.2.2.2.2.1
  have f581:=fun (W : World) (h : φ743 W)=>(q743' W h).2.2.2.2.2.2.1
  have f585:=fun (W : World) (h : φ743 W)=>(q743' W h).2.2.2.2.2.2.2.1
  have f590:=fun (W : World) (h : φ743 W)=>(q743' W h).2.2.2.2.2.2.2.2
  refine c_flat [(0,.slice Ap0_0 p0.length cp0_0),(1,Vs x3),(5,.bool x1),(6,Vp g5),(7,Vp g6),(8,Vi i556)] ⟨rfl,rfl,rfl,rfl,rfl,rfl,trivial⟩ (fun u=>?_)
  refine c_sta ⟨w0,M,(100070,g6,.cells #[.slice A558 l557.length c559,.slice A562 l561.length c563,.slice A566 l565.length c567,Vi i569,.slice A571 l570.length c572] 30 (0,0))::(100060,g5,.cells #[.slice A575 l574.length c576,.slice A579 l578.length c580,.slice A583 l582.length c584,Vi i586,.slice A588 l587.length c589] 30 (0,0))::H,R,φ743⟩ (fun _ h=>h)<|c_seq<|c_seq<|c_region<|g_v rfl r_move<|g_v rfl r_move<|g_v rfl (r_lenL Tryz.underlying22 rfl)<|g_v rfl (r_lss rfl rfl)<|g_v rfl r_move ?_
  refine g_if rfl rfl rfl rfl rfl (fun h744=>?_) (fun h744=>?_)
  ·
   replace hm:=ite_t hm (of_decide_eq_true h744)
   refine g_v rfl r_move<|g_do rfl rfl rfl rfl rfl h744<|g_v rfl (r_lss rfl rfl)<|g_v rfl (r_pick1 rfl h744)<|g_nil<|d_then ?_
   refine c_cond rfl (fun h745=>?_) (fun h745=>?_)
   ·
    replace hm:=ite_t hm (of_decide_eq_true h745)
    refine c_skip<|d_then<|c_seq<|c_block<|c_seq<|c_region<|g_v rfl r_move<|g_v rfl r_move ?_
    replace hm:=bnd hm
    obtain ⟨x746,hx746,hm⟩:=hm
    obtain ⟨pp750,hv751,hz752,hcp753⟩:=DOk.at_ hcp0_0.1 hx746
    refine g_know _ (fun W hS=>cl_at (p:=(Sta.mk w0 M H R φ).ok) (sz:=6) (fun _=>rfl) (by decide) (ok_pre (H1:=[_,_]) (R1:=[]) hS (fun W h=>(q743 _ h))) fp0_0 hv751) ?_
    rintro ⟨ad747,hA749,f748⟩
    have f754:=fun (W : World) (h : (Sta.mk w0 M H R φ).ok W)=>(fop0_0 W h _ hz752)
    refine g_v rfl (r_ix Tryz.underlying22 Tryz.sizeOf32 rfl hA749 rfl hx746)<|g_v rfl (r_ldA rfl Tryz.isAgg32 Tryz.sizeOf32 (fun W hS=>(f748 W (ok_pre (H1:=[_,_]) (R1:=[]) hS (fun W h=>(q743 _ h)))).take 6) rfl) ?_
    replace hm:=bnd hm
    obtain ⟨x755,hx756,hm⟩:=hm
    refine g_cn ⟨w0,M,_,_,φ743⟩ (fun _ h=>h) Tryz.call7 rfl rfl (c_law13_small x746 pp750.pA0 pp750.pC0 hcp753 (fun W hS=>f754 W (ok_pre (H1:=[_,_]) (R1:=[]) hS (fun W h=>(q743 _ h)))) _ hx756) (fun ⟨A757,c758⟩ hc758=>?_)
    refine g_abs (fun φ760 q760'=>?_)
    have q760 : ∀ W,φ760 W→φ743 W:=fun W h=>(q760' W h).1
    have f759:=fun (W : World) (h : φ760 W)=>(q760' W h).2
    refine g_e rfl (e_alloc 100090 Tryz.zeroValue32) (fun g761 _=>?_)
    refine g_storeL (tag:=100090) rfl rfl rfl rfl Tryz.sizeOf32 rfl rfl<|g_nil<|d_then ?_
    refine c_flat [(0,.slice Ap0_0 p0.length cp0_0),(1,Vs x3),(5,.bool x1),(6,Vp g5),(7,Vp g6),(8,Vi i556),(9,Vp g761)] ⟨rfl,rfl,rfl,rfl,rfl,rfl,rfl,trivial⟩ (fun u=>?_)
    refine c_sta ⟨w0,M,(100090,g761,.cells #[Vi x755.fKind,Vi x755.fNode,Vs x755.fName,Vs x755.fText,Vs x755.fZone,.slice A757 x755.fHints.length c758] 32 (0,0))::(100070,g6,.cells #[.slice A558 l557.length c559,.slice A562 l561.length c563,.slice A566 l565.length c567,Vi i569,.slice A571 l570.length c572] 30 (0,0))::(100060,g5,.cells #[.slice A575 l574.length c576,.slice A579 l578.length c580,.slice A583 l582.length c584,Vi i586,.slice A588 l587.length c589] 30 (0,0))::H,R,φ760⟩ (fun _ h=>h)<|c_seq<|c_region<|g_v rfl (r_loadA (tag:=100060) rfl rfl Tryz.isAgg30 Tryz.sizeOf30 rfl rfl) ?_
    replace hm:=bnd hm
    obtain ⟨x762,hx763,hm⟩:=hm
    refine g_cn ⟨w0,M,_,_,φ760⟩ (fun _ h=>h) Tryz.call8 rfl rfl (c_ref13_Copy (⟨l574,l578,l582,i586,l587⟩ : GConf) A575 c576 hc576 (fun W hS=>f577 W (q760 _ hS.now)) A579 c580 hc580 (fun W hS=>f581 W (q760 _ hS.now)) A583 c584 hc584 (fun W hS=>f585 W (q760 _ hS.now)) A588 c589 hc589 (fun W hS=>f590 W (q760 _ hS.now)) _ hx763) (fun ⟨A764,c765,A767,c768,A770,c771,A773,c774⟩ ⟨hc765,hc768,hc771,hc774⟩=>?_)
    refine g_abs (fun φ776 q776'=>?_)
    have q776 : ∀ W,φ776 W→φ760 W:=fun W h=>(q776' W h).1
    have f766:=fun (W : World) (h : φ776 W)=>(q776' W h).2.1
    have f769:=fun (W : World) (h : φ776 W)=>(q776' W h).2.2.1
    have f772:=fun (W : World) (h : φ776 W)=>(q776' W h).2.2.2.1
    have f775:=fun (W : World) (h : φ776 W)=>(q776' W h).2.2.2.2
    refine g_e rfl (e_alloc 100100 Tryz.zeroValue30) (fun g777 _=>?_)
    refine g_storeL (tag:=100100) rfl rfl rfl rfl Tryz.sizeOf30 rfl rfl<|g_nil<|d_then<|c_seq<|c_region<|g_v rfl (r_loadA (tag:=100060) rfl rfl Tryz.isAgg30 Tryz.sizeOf30 rfl rfl)<|g_v rfl r_move ?_
    replace hm:=bnd hm
    obtain ⟨x778,hx779,hm⟩:=hm
    refine g_cn ⟨w0,M,_,_,φ776⟩ (fun _ h=>h) Tryz.call9 rfl rfl (c_conf_Floor (⟨l574,l578,l582,i586,l587⟩ : GConf) A575 c576 hc576 (fun W hS=>f577 W (q760 _ (q776 _ hS.now))) A579 c580 hc580 (fun W hS=>f581 W (q760 _ (q776 _ hS.now))) A583 c584 hc584 (fun W hS=>f585 W (q760 _ (q776 _ hS.now))) A588 c589 hc589 (fun W hS=>f590 W (q760 _ (q776 _ hS.now))) x3 _ hx779) (fun _ _=>?_)
    refine g_v rfl r_assign<|g_nil<|d_then<|c_seq<|c_region<|g_v rfl (r_loadA (tag:=100060) rfl rfl Tryz.isAgg30 Tryz.sizeOf30 rfl rfl)<|g_v rfl (r_loadA (tag:=100090) rfl rfl Tryz.isAgg32 Tryz.sizeOf32 rfl rfl) ?_
    replace hm:=bnd hm
    obtain ⟨⟨x780,x781⟩,hx782,hm⟩:=hm
    refine g_cn ⟨w0,M,_,_,φ776⟩ (fun _ h=>h) Tryz.call10 rfl rfl (c_conf_Apply (⟨l574,l578,l582,i586,l587⟩ : GConf) A575 c576 hc576 (fun W h=>f577 W (q760 _ (q776 _ h))) A579 c580 hc580 (fun W h=>f581 W (q760 _ (q776 _ h))) A583 c584 hc584 (fun W h=>f585 W (q760 _ (q776 _ h))) A588 c589 hc589 (fun W h=>f590 W (q760 _ (q776 _ h))) x755 A757 c758 hc758 (fun W h=>f759 W (q776 _ h)) _ hx782) (fun ⟨A783,c784,A786,c787,A789,c790,A792,c793⟩ ⟨hc784,hc787,hc790,hc793⟩=>?_)
    refine g_abs (fun φ795 q795'=>?_)
    have q795 : ∀ W,φ795 W→φ776 W:=fun W h=>(q795' W h).1
    have f785:=fun (W : World) (h : φ795 W)=>(q795' W h).2.1
    have f788:=fun (W : World) (h : φ795 W)=>(q795' W h).2.2.1
    have f791:=fun (W : World) (h : φ795 W)=>(q795' W h).2.2.2.1
    have f794:=fun (W : World) (h : φ795 W)=>(q795' W h).2.2.2.2
    refine g_v rfl r_move<|g_v rfl (r_extract rfl rfl)<|g_v rfl (r_extract rfl rfl) ?_
    refine g_e rfl (e_alloc 100120 Tryz.zeroValue30) (fun g797 _=>?_)
    refine g_storeL (tag:=100120) rfl rfl rfl rfl Tryz.sizeOf30 rfl rfl<|g_v rfl r_assign<|g_nil<|d_then ?_
    refine c_flat [(0,.slice Ap0_0 p0.length cp0_0),(1,Vs x3),(5,.bool x1),(6,Vp g5),(7,Vp g6),(8,Vi i556),(9,Vp g761),(10,Vp g777),(11,Vi x778),(12,Vp g797),(13,Vi x781)] ⟨rfl,rfl,rfl,rfl,rfl,rfl,rfl,rfl,rfl,rfl,rfl,trivial⟩ (fun u=>?_)
    refine c_sta ⟨w0,M,(100120,g797,.cells #[.slice A783 x780.fRing.length c784,.slice A786 x780.fHints.length c787,.slice A789 x780.fAnchors.length c790,Vi x780.fEpoch,.slice A792 x780.fFlushes.length c793] 30 (0,0))::(100100,g777,.cells #[.slice A764 x762.fRing.length c765,.slice A767 x762.fHints.length c768,.slice A770 x762.fAnchors.length c771,Vi x762.fEpoch,.slice A773 x762.fFlushes.length c774] 30 (0,0))::(100090,g761,.cells #[Vi x755.fKind,Vi x755.fNode,Vs x755.fName,Vs x755.fText,Vs x755.fZone,.slice A757 x755.fHints.length c758] 32 (0,0))::(100070,g6,.cells #[.slice A558 l557.length c559,.slice A562 l561.length c563,.slice A566 l565.length c567,Vi i569,.slice A571 l570.length c572] 30 (0,0))::(100060,g5,.cells #[.slice A575 l574.length c576,.slice A579 l578.length c580,.slice A583 l582.length c584,Vi i586,.slice A588 l587.length c589] 30 (0,0))::H,R,φ795⟩ (fun _ h=>h)<|c_seq<|c_region<|g_v rfl (r_loadA (tag:=100070) rfl rfl Tryz.isAgg30 Tryz.sizeOf30 rfl rfl)<|g_v rfl (r_loadA (tag:=100090) rfl rfl Tryz.isAgg32 Tryz.sizeOf32 rfl rfl) ?_
    replace hm:=bnd hm
    obtain ⟨⟨x798,x799⟩,hx800,hm⟩:=hm
    refine g_cn ⟨w0,M,_,_,φ795⟩ (fun _ h=>h) Tryz.call11 rfl rfl (c_ref13_Apply (⟨l557,l561,l565,i569,l570⟩ : GConf) A558 c559 hc559 (fun W h=>f560 W (q760 _ (q776 _ (q795 _ h)))) A562 c563 hc563 (fun W h=>f564 W (q760 _ (q776 _ (q795 _ h)))) A566 c567 hc567 (fun W h=>f568 W (q760 _ (q776 _ (q795 _ h)))) A571 c572 hc572 (fun W h=>f573 W (q760 _ (q776 _ (q795 _ h)))) x755 A757 c758 hc758 (fun W hS=>f759 W (q776 _ (q795 _ hS.now))) _ hx800) (fun ⟨A801,c802,A804,c805,A807,c808,A810,c811⟩ ⟨hc802,hc805,hc808,hc811⟩=>?_)
    refine g_abs (fun φ813 q813'=>?_)
    have q813 : ∀ W,φ813 W→φ795 W:=fun W h=>(q813' W h).1
    have f803:=fun (W : World) (h : φ813 W)=>(q813' W h).2.1
    have f806:=fun (W : World) (h : φ813 W)=>(q813' W h).2.2.1
    have f809:=fun (W : World) (h : φ813 W)=>(q813' W h).2.2.2.1
    have f812:=fun (W : World) (h : φ813 W)=>(q813' W h).2.2.2.2
    refine g_v rfl r_move<|g_v rfl (r_extract rfl rfl)<|g_v rfl (r_extract rfl rfl) ?_
    refine g_e rfl (e_alloc 100140 Tryz.zeroValue30) (fun g815 _=>?_)
    refine g_storeL (tag:=100140) rfl rfl rfl rfl Tryz.sizeOf30 rfl rfl<|g_v rfl r_assign<|g_nil<|d_then ?_
    refine c_flat [(0,.slice Ap0_0 p0.length cp0_0),(1,Vs x3),(5,.bool x1),(6,Vp g5),(7,Vp g6),(8,Vi i556),(10,Vp g777),(11,Vi x778),(12,Vp g797),(13,Vi x781),(14,Vp g815),(15,Vi x799)] ⟨rfl,rfl,rfl,rfl,rfl,rfl,rfl,rfl,rfl,rfl,rfl,rfl,trivial⟩ (fun u=>?_)
    refine c_sta ⟨w0,M,(100140,g815,.cells #[.slice A801 x798.fRing.length c802,.slice A804 x798.fHints.length c805,.slice A807 x798.fAnchors.length c808,Vi x798.fEpoch,.slice A810 x798.fFlushes.length c811] 30 (0,0))::(100120,g797,.cells #[.slice A783 x780.fRing.length c784,.slice A786 x780.fHints.length c787,.slice A789 x780.fAnchors.length c790,Vi x780.fEpoch,.slice A792 x780.fFlushes.length c793] 30 (0,0))::(100100,g777,.cells #[.slice A764 x762.fRing.length c765,.slice A767 x762.fHints.length c768,.slice A770 x762.fAnchors.length c771,Vi x762.fEpoch,.slice A773 x762.fFlushes.length c774] 30 (0,0))::(100090,g761,.cells #[Vi x755.fKind,Vi x755.fNode,Vs x755.fName,Vs x755.fText,Vs x755.fZone,.slice A757 x755.fHints.length c758] 32 (0,0))::(100070,g6,.cells #[.slice A558 l557.length c559,.slice A562 l561.length c563,.slice A566 l565.length c567,Vi i569,.slice A571 l570.length c572] 30 (0,0))::(100060,g5,.cells #[.slice A575 l574.length c576,.slice A579 l578.length c580,.slice A583 l582.length c584,Vi i586,.slice A588 l587.length c589] 30 (0,0))::H,R,φ813⟩ (fun _ h=>h)<|c_seq<|c_region<|g_v rfl (r_loadA (tag:=100120) rfl rfl Tryz.isAgg30 Tryz.sizeOf30 rfl rfl)<|g_v rfl (r_loadA (tag:=100140) rfl rfl Tryz.isAgg30 Tryz.sizeOf30 rfl rfl) ?_
    replace hm:=bnd hm
    obtain ⟨x816,hx817,hm⟩:=hm
    refine g_cn ⟨w0,M,_,_,φ813⟩ (fun _ h=>h) Tryz.call12 rfl rfl (c_ref13_Same x780 A783 c784 hc784 (fun W hS=>f785 W (q813 _ hS.now)) A786 c787 hc787 (fun W hS=>f788 W (q813 _ hS.now)) A789 c790 hc790 (fun W hS=>f791 W (q813 _ hS.now)) A792 c793 hc793 (fun W hS=>f794 W (q813 _ hS.now)) x798 A801 c802 hc802 (fun W hS=>f803 W hS.now) A804 c805 hc805 (fun W hS=>f806 W hS.now) A807 c808 hc808 (fun W hS=>f809 W hS.now) A810 c811 hc811 (fun W hS=>f812 W hS.now) _ hx817) (fun _ _=>?_)
    refine g_v rfl r_assign<|g_nil<|d_then<|c_seq<|c_region<|g_v rfl (r_loadA (tag:=100060) rfl rfl Tryz.isAgg30 Tryz.sizeOf30 rfl rfl)<|g_v rfl (r_loadA (tag:=100100) rfl rfl Tryz.isAgg30 Tryz.sizeOf30 rfl rfl) ?_
    replace hm:=bnd hm
    obtain ⟨x818,hx819,hm⟩:=hm
    refine g_cn ⟨w0,M,_,_,φ813⟩ (fun _ h=>h) Tryz.call12 rfl rfl (c_ref13_Same (⟨l574,l578,l582,i586,l587⟩ : GConf) A575 c576 hc576 (fun W hS=>f577 W (q760 _ (q776 _ (q795 _ (q813 _ hS.now))))) A579 c580 hc580 (fun W hS=>f581 W (q760 _ (q776 _ (q795 _ (q813 _ hS.now))))) A583 c584 hc584 (fun W hS=>f585 W (q760 _ (q776 _ (q795 _ (q813 _ hS.now))))) A588 c589 hc589 (fun W hS=>f590 W (q760 _ (q776 _ (q795 _ (q813 _ hS.now))))) x762 A764 c765 hc765 (fun W hS=>f766 W (q795 _ (q813 _ hS.now))) A767 c768 hc768 (fun W hS=>f769 W (q795 _ (q813 _ hS.now))) A770 c771 hc771 (fun W hS=>f772 W (q795 _ (q813 _ hS.now))) A773 c774 hc774 (fun W hS=>f775 W (q795 _ (q813 _ hS.now))) _ hx819) (fun _ _=>?_)
    refine g_v rfl r_assign<|g_nil<|d_then<|c_seq<|c_seq<|ga_start (n:=32) ⟨w0,M,(100140,g815,.cells #[.slice A801 x798.fRing.length c802,.slice A804 x798.fHints.length c805,.slice A807 x798.fAnchors.length c808,Vi x798.fEpoch,.slice A810 x798.fFlushes.length c811] 30 (0,0))::(100120,g797,.cells #[.slice A783 x780.fRing.length c784,.slice A786 x780.fHints.length c787,.slice A789 x780.fAnchors.length c790,Vi x780.fEpoch,.slice A792 x780.fFlushes.length c793] 30 (0,0))::(100100,g777,.cells #[.slice A764 x762.fRing.length c765,.slice A767 x762.fHints.length c768,.slice A770 x762.fAnchors.length c771,Vi x762.fEpoch,.slice A773 x762.fFlushes.length c774] 30 (0,0))::(100090,g761,.cells #[Vi x755.fKind,Vi x755.fNode,Vs x755.fName,Vs x755.fText,Vs x755.fZone,.slice A757 x755.fHints.length c758] 32 (0,0))::(100070,g6,.cells #[.slice A558 l557.length c559,.slice A562 l561.length c563,.slice A566 l565.length c567,Vi i569,.slice A571 l570.length c572] 30 (0,0))::(100060,g5,.cells #[.slice A575 l574.length c576,.slice A579 l578.length c580,.slice A583 l582.length c584,Vi i586,.slice A588 l587.length c589] 30 (0,0))::H,R,φ813⟩ [] #[false,false,false,false,false,false,false,false,false,false,false,false,false,false,false,false,false,false,false,false,false,false,false,false,false,false,false,false,false,false,false,false] (fun W h=>h.phi (fun W hφ=>hφ)) mixed rfl rfl<|ga_r (i:=0) (bz 32 1) rfl (by kernel_rfl) (by decide) rfl (r_move)<|ga_r (i:=1) (bz 32 3) rfl (by kernel_rfl) (by decide) rfl (r_not rfl)<|ga_r (i:=2) (bz 32 7) rfl (by kernel_rfl) (by decide) rfl (r_move) ?_
    refine ga_if (t:=65) rfl (fun h846=>?_) (fun h846=>?_)
    ·
     have h846' : x816 = false:=by revert h846; cases x816 <;> simp
     replace hm:=ite_f hm (bool_nt h846')
     refine ga_no (i:=3) (bz 32 15) rfl (by kernel_rfl) (fun _ _ _ _ h=>h) rfl rfl rfl rfl rfl h846<|ga_no (i:=4) (bz 32 31) rfl (by kernel_rfl) (fun _ _ _ _ h=>h) rfl rfl rfl rfl rfl h846<|ga_r (i:=5) (bz 32 63) rfl (by kernel_rfl) (by decide) rfl (r_pick1 rfl h846)<|ga_r (i:=6) (bz 32 127) rfl (by kernel_rfl) (by decide) rfl (r_move)<|ga_no (i:=7) (bz 32 255) rfl (by kernel_rfl) (fun _ _ _ _ h=>h) rfl rfl rfl rfl rfl rfl<|ga_no (i:=8) (bz 32 511) rfl (by kernel_rfl) (fun _ _ _ _ h=>h) rfl rfl rfl rfl rfl rfl<|ga_no (i:=9) (bz 32 1023) rfl (by kernel_rfl) (fun _ _ _ _ h=>h) rfl rfl rfl rfl rfl rfl<|ga_r (i:=10) (bz 32 2047) rfl (by kernel_rfl) (by decide) rfl (r_pick1 rfl rfl)<|ga_r (i:=11) (bz 32 4095) rfl (by kernel_rfl) (by decide) rfl (r_move)<|ga_no (i:=12) (bz 32 8191) rfl (by kernel_rfl) (fun _ _ _ _ h=>h) rfl rfl rfl rfl rfl rfl ?_
     refine ga_no (i:=13) (bz 32 16383) rfl (by kernel_rfl) (fun _ _ _ _ h=>h) rfl rfl rfl rfl rfl rfl<|ga_no (i:=14) (bz 32 32767) rfl (by kernel_rfl) (fun _ _ _ _ h=>h) rfl rfl rfl rfl rfl rfl<|ga_r (i:=15) (bz 32 65535) rfl (by kernel_rfl) (by decide) rfl (r_pick1 rfl rfl)<|ga_r (i:=16) (bz 32 131071) rfl (by kernel_rfl) (by decide) rfl (r_move)<|ga_no (i:=17) (bz 32 262143) rfl (by kernel_rfl) (fun _ _ _ _ h=>h) rfl rfl rfl rfl rfl rfl<|ga_no (i:=18) (bz 32 524287) rfl (by kernel_rfl) (fun _ _ _ _ h=>h) rfl rfl rfl rfl rfl rfl<|ga_no (i:=19) (bz 32 1048575) rfl (by kernel_rfl) (fun _ _ _ _ h=>h) rfl rfl rfl rfl rfl rfl<|ga_no (i:=20) (bz 32 2097151) rfl (by kernel_rfl) (fun _ _ _ _ h=>h) rfl rfl rfl rfl rfl rfl<|ga_no (i:=21) (bz 32 4194303) rfl (by kernel_rfl) (fun _ _ _ _ h=>h) rfl rfl rfl rfl rfl rfl<|ga_no (i:=22) (bz 32 8388607) rfl (by kernel_rfl) (fun _ _ _ _ h=>h) rfl rfl rfl rfl rfl rfl ?_
     refine ga_no (i:=23) (bz 32 16777215) rfl (by kernel_rfl) (fun _ _ _ _ h=>h) rfl rfl rfl rfl rfl rfl<|ga_r (i:=24) (bz 32 33554431) rfl (by kernel_rfl) (by decide) rfl (r_pick1 rfl rfl)<|ga_r (i:=25) (bz 32 67108863) rfl (by kernel_rfl) (by decide) rfl (r_move)<|ga_no (i:=26) (bz 32 134217727) rfl (by kernel_rfl) (fun _ _ _ _ h=>h) rfl rfl rfl rfl rfl rfl<|ga_no (i:=27) (bz 32 268435455) rfl (by kernel_rfl) (fun _ _ _ _ h=>h) rfl rfl rfl rfl rfl rfl<|ga_no (i:=28) (bz 32 536870911) rfl (by kernel_rfl) (fun _ _ _ _ h=>h) rfl rfl rfl rfl rfl rfl<|ga_no (i:=29) (bz 32 1073741823) rfl (by kernel_rfl) (fun _ _ _ _ h=>h) rfl rfl rfl rfl rfl rfl<|ga_no (i:=30) (bz 32 2147483647) rfl (by kernel_rfl) (fun _ _ _ _ h=>h) rfl rfl rfl rfl rfl rfl<|ga_r (i:=31) (bz 32 4294967295) rfl (by kernel_rfl) (by decide) rfl (r_pick1 rfl rfl)<|ga_done (by kernel_rfl) ?_
     refine d_then ?_
     refine c_flat [(0,.slice Ap0_0 p0.length cp0_0),(1,Vs x3),(5,.bool x1),(6,Vp g5),(7,Vp g6),(8,Vi i556),(12,Vp g797),(14,Vp g815),(94,.bool true)] ⟨rfl,rfl,rfl,rfl,rfl,rfl,rfl,rfl,rfl,trivial⟩ (fun u=>?_)
     refine c_cond1 rfl rfl<|c_seq<|c_region<|g_v rfl r_assign<|g_nil<|d_then<|c_ret<|d_ret_then<|d_ret_block<|d_ret_then ?_
     refine d_ret_then<|d_ret_block<|d_ret_then<|d_ret_then ?_
     replace hm:=nx_out (C:=(fun e : ((List Int)×(List ByteArray)×(List GAnchor)×Int×(List GFlush)×(List Int)×(List ByteArray)×(List GAnchor)×Int×(List GFlush)) ⊕ Bool=>Sum.elim (fun e=>m_law13_ConfApplies_j1 x1 e.1 e.2.1 e.2.2.1 e.2.2.2.1 e.2.2.2.2.1 e.2.2.2.2.2.1 e.2.2.2.2.2.2.1 e.2.2.2.2.2.2.2.1 e.2.2.2.2.2.2.2.2.1 e.2.2.2.2.2.2.2.2.2) (fun x=>some x) e = some r)) hm hnx2 hr2
     replace hm : some false = some r:=hm
     cases hm
     exact d_retC () Tryz.results3 (res_tmp (res_nil rfl)) trivial (fun W h=>ok_pre (H1:=[_,_,_,_,_,_]) (R1:=[]) h (fun W hφ=>(q743 _ (q760 _ (q776 _ (q795 _ (q813 _ hφ))))))) (.inr rfl)
    have h846' : x816 = true:=by revert h846; cases x816 <;> simp
    replace hm:=ite_t hm h846'
    refine ga_rG (i:=3) (bz 32 15) rfl (by kernel_rfl) (by decide) rfl rfl rfl rfl rfl h846 (r_move)<|ga_rG (i:=4) (bz 32 31) rfl (by kernel_rfl) (by decide) rfl rfl rfl rfl rfl h846 (r_not rfl)<|ga_r (i:=5) (bz 32 63) rfl (by kernel_rfl) (by decide) rfl (r_pick0 rfl h846)<|ga_r (i:=6) (bz 32 127) rfl (by kernel_rfl) (by decide) rfl (r_move) ?_
    refine ga_if (t:=69) rfl (fun h847=>?_) (fun h847=>?_)
    ·
     have h847' : x818 = false:=by revert h847; cases x818 <;> simp
     replace hm:=ite_f hm (bool_nt h847')
     refine ga_no (i:=7) (bz 32 255) rfl (by kernel_rfl) (fun _ _ _ _ h=>h) rfl rfl rfl rfl rfl h847<|ga_no (i:=8) (bz 32 511) rfl (by kernel_rfl) (fun _ _ _ _ h=>h) rfl rfl rfl rfl rfl h847<|ga_no (i:=9) (bz 32 1023) rfl (by kernel_rfl) (fun _ _ _ _ h=>h) rfl rfl rfl rfl rfl h847<|ga_r (i:=10) (bz 32 2047) rfl (by kernel_rfl) (by decide) rfl (r_pick1 rfl h847)<|ga_r (i:=11) (bz 32 4095) rfl (by kernel_rfl) (by decide) rfl (r_move)<|ga_no (i:=12) (bz 32 8191) rfl (by kernel_rfl) (fun _ _ _ _ h=>h) rfl rfl rfl rfl rfl rfl<|ga_no (i:=13) (bz 32 16383) rfl (by kernel_rfl) (fun _ _ _ _ h=>h) rfl rfl rfl rfl rfl rfl<|ga_no (i:=14) (bz 32 32767) rfl (by kernel_rfl) (fun _ _ _ _ h=>h) rfl rfl rfl rfl rfl rfl<|ga_r (i:=15) (bz 32 65535) rfl (by kernel_rfl) (by decide) rfl (r_pick1 rfl rfl)<|ga_r (i:=16) (bz 32 131071) rfl (by kernel_rfl) (by decide) rfl (r_move) ?_
     refine ga_no (i:=17) (bz 32 262143) rfl (by kernel_rfl) (fun _ _ _ _ h=>h) rfl rfl rfl rfl rfl rfl<|ga_no (i:=18) (bz 32 524287) rfl (by kernel_rfl) (fun _ _ _ _ h=>h) rfl rfl rfl rfl rfl rfl<|ga_no (i:=19) (bz 32 1048575) rfl (by kernel_rfl) (fun _ _ _ _ h=>h) rfl rfl rfl rfl rfl rfl<|ga_no (i:=20) (bz 32 2097151) rfl (by kernel_rfl) (fun _ _ _ _ h=>h) rfl rfl rfl rfl rfl rfl<|ga_no (i:=21) (bz 32 4194303) rfl (by kernel_rfl) (fun _ _ _ _ h=>h) rfl rfl rfl rfl rfl rfl<|ga_no (i:=22) (bz 32 8388607) rfl (by kernel_rfl) (fun _ _ _ _ h=>h) rfl rfl rfl rfl rfl rfl<|ga_no (i:=23) (bz 32 16777215) rfl (by kernel_rfl) (fun _ _ _ _ h=>h) rfl rfl rfl rfl rfl rfl<|ga_r (i:=24) (bz 32 33554431) rfl (by kernel_rfl) (by decide) rfl (r_pick1 rfl rfl)<|ga_r (i:=25) (bz 32 67108863) rfl (by kernel_rfl) (by decide) rfl (r_move)<|ga_no (i:=26) (bz 32 134217727) rfl (by kernel_rfl) (fun _ _ _ _ h=>h) rfl rfl rfl rfl rfl rfl ?_
     refine ga_no (i:=27) (bz 32 268435455) rfl (by kernel_rfl) (fun _ _ _ _ h=>h) rfl rfl rfl rfl rfl rfl<|ga_no (i:=28) (bz 32 536870911) rfl (by kernel_rfl) (fun _ _ _ _ h=>h) rfl rfl rfl rfl rfl rfl<|ga_no (i:=29) (bz 32 1073741823) rfl (by kernel_rfl) (fun _ _ _ _ h=>h) rfl rfl rfl rfl rfl rfl<|ga_no (i:=30) (bz 32 2147483647) rfl (by kernel_rfl) (fun _ _ _ _ h=>h) rfl rfl rfl rfl rfl rfl<|ga_r (i:=31) (bz 32 4294967295) rfl (by kernel_rfl) (by decide) rfl (r_pick1 rfl rfl)<|ga_done (by kernel_rfl)<|d_then ?_
     refine c_flat [(0,.slice Ap0_0 p0.length cp0_0),(1,Vs x3),(5,.bool x1),(6,Vp g5),(7,Vp g6),(8,Vi i556),(12,Vp g797),(14,Vp g815),(94,.bool true)] ⟨rfl,rfl,rfl,rfl,rfl,rfl,rfl,rfl,rfl,trivial⟩ (fun u=>?_)
     refine c_cond1 rfl rfl<|c_seq<|c_region<|g_v rfl r_assign<|g_nil<|d_then<|c_ret<|d_ret_then<|d_ret_block<|d_ret_then ?_
     refine d_ret_then<|d_ret_block<|d_ret_then<|d_ret_then ?_
     replace hm:=nx_out (C:=(fun e : ((List Int)×(List ByteArray)×(List GAnchor)×Int×(List GFlush)×(List Int)×(List ByteArray)×(List GAnchor)×Int×(List GFlush)) ⊕ Bool=>Sum.elim (fun e=>m_law13_ConfApplies_j1 x1 e.1 e.2.1 e.2.2.1 e.2.2.2.1 e.2.2.2.2.1 e.2.2.2.2.2.1 e.2.2.2.2.2.2.1 e.2.2.2.2.2.2.2.1 e.2.2.2.2.2.2.2.2.1 e.2.2.2.2.2.2.2.2.2) (fun x=>some x) e = some r)) hm hnx2 hr2
     replace hm : some false = some r:=hm
     cases hm
     exact d_retC () Tryz.results3 (res_tmp (res_nil rfl)) trivial (fun W h=>ok_pre (H1:=[_,_,_,_,_,_]) (R1:=[]) h (fun W hφ=>(q743 _ (q760 _ (q776 _ (q795 _ (q813 _ hφ))))))) (.inr rfl)
    have h847' : x818 = true:=by revert h847; cases x818 <;> simp
    replace hm:=ite_t hm h847'
    refine ga_do (i:=7) (bz 32 255) rfl (by kernel_rfl) (fun _ _ _ _ h=>h) rfl rfl rfl rfl rfl h847 (r_move)<|ga_rG (i:=8) (bz 32 511) rfl (by kernel_rfl) (by decide) rfl rfl rfl rfl rfl h847 (r_move)<|ga_rG (i:=9) (bz 32 1023) rfl (by kernel_rfl) (by decide) rfl rfl rfl rfl rfl h847 (r_neq rfl rfl)<|ga_r (i:=10) (bz 32 2047) rfl (by kernel_rfl) (by decide) rfl (r_pick0 rfl h847)<|ga_r (i:=11) (bz 32 4095) rfl (by kernel_rfl) (by decide) rfl (r_move) ?_
    refine ga_if (t:=74) rfl (fun h848=>?_) (fun h848=>?_)
    ·
     replace hm:=ite_t hm (of_decide_eq_true h848)
     refine ga_no (i:=12) (bz 32 8191) rfl (by kernel_rfl) (fun _ _ _ _ h=>h) rfl rfl rfl rfl rfl h848<|ga_no (i:=13) (bz 32 16383) rfl (by kernel_rfl) (fun _ _ _ _ h=>h) rfl rfl rfl rfl rfl h848<|ga_no (i:=14) (bz 32 32767) rfl (by kernel_rfl) (fun _ _ _ _ h=>h) rfl rfl rfl rfl rfl h848<|ga_r (i:=15) (bz 32 65535) rfl (by kernel_rfl) (by decide) rfl (r_pick1 rfl h848)<|ga_r (i:=16) (bz 32 131071) rfl (by kernel_rfl) (by decide) rfl (r_move)<|ga_no (i:=17) (bz 32 262143) rfl (by kernel_rfl) (fun _ _ _ _ h=>h) rfl rfl rfl rfl rfl rfl<|ga_no (i:=18) (bz 32 524287) rfl (by kernel_rfl) (fun _ _ _ _ h=>h) rfl rfl rfl rfl rfl rfl<|ga_no (i:=19) (bz 32 1048575) rfl (by kernel_rfl) (fun _ _ _ _ h=>h) rfl rfl rfl rfl rfl rfl<|ga_no (i:=20) (bz 32 2097151) rfl (by kernel_rfl) (fun _ _ _ _ h=>h) rfl rfl rfl rfl rfl rfl<|ga_no (i:=21) (bz 32 4194303) rfl (by kernel_rfl) (fun _ _ _ _ h=>h) rfl rfl rfl rfl rfl rfl ?_
     refine ga_no (i:=22) (bz 32 8388607) rfl (by kernel_rfl) (fun _ _ _ _ h=>h) rfl rfl rfl rfl rfl rfl<|ga_no (i:=23) (bz 32 16777215) rfl (by kernel_rfl) (fun _ _ _ _ h=>h) rfl rfl rfl rfl rfl rfl<|ga_r (i:=24) (bz 32 33554431) rfl (by kernel_rfl) (by decide) rfl (r_pick1 rfl rfl)<|ga_r (i:=25) (bz 32 67108863) rfl (by kernel_rfl) (by decide) rfl (r_move)<|ga_no (i:=26) (bz 32 134217727) rfl (by kernel_rfl) (fun _ _ _ _ h=>h) rfl rfl rfl rfl rfl rfl<|ga_no (i:=27) (bz 32 268435455) rfl (by kernel_rfl) (fun _ _ _ _ h=>h) rfl rfl rfl rfl rfl rfl<|ga_no (i:=28) (bz 32 536870911) rfl (by kernel_rfl) (fun _ _ _ _ h=>h) rfl rfl rfl rfl rfl rfl<|ga_no (i:=29) (bz 32 1073741823) rfl (by kernel_rfl) (fun _ _ _ _ h=>h) rfl rfl rfl rfl rfl rfl<|ga_no (i:=30) (bz 32 2147483647) rfl (by kernel_rfl) (fun _ _ _ _ h=>h) rfl rfl rfl rfl rfl rfl<|ga_r (i:=31) (bz 32 4294967295) rfl (by kernel_rfl) (by decide) rfl (r_pick1 rfl rfl) ?_
     refine ga_done (by kernel_rfl)<|d_then ?_
     refine c_flat [(0,.slice Ap0_0 p0.length cp0_0),(1,Vs x3),(5,.bool x1),(6,Vp g5),(7,Vp g6),(8,Vi i556),(12,Vp g797),(14,Vp g815),(94,.bool true)] ⟨rfl,rfl,rfl,rfl,rfl,rfl,rfl,rfl,rfl,trivial⟩ (fun u=>?_)
     refine c_cond1 rfl rfl<|c_seq<|c_region<|g_v rfl r_assign<|g_nil<|d_then<|c_ret<|d_ret_then<|d_ret_block<|d_ret_then ?_
     refine d_ret_then<|d_ret_block<|d_ret_then<|d_ret_then ?_
     replace hm:=nx_out (C:=(fun e : ((List Int)×(List ByteArray)×(List GAnchor)×Int×(List GFlush)×(List Int)×(List ByteArray)×(List GAnchor)×Int×(List GFlush)) ⊕ Bool=>Sum.elim (fun e=>m_law13_ConfApplies_j1 x1 e.1 e.2.1 e.2.2.1 e.2.2.2.1 e.2.2.2.2.1 e.2.2.2.2.2.1 e.2.2.2.2.2.2.1 e.2.2.2.2.2.2.2.1 e.2.2.2.2.2.2.2.2.1 e.2.2.2.2.2.2.2.2.2) (fun x=>some x) e = some r)) hm hnx2 hr2
     replace hm : some false = some r:=hm
     cases hm
     exact d_retC () Tryz.results3 (res_tmp (res_nil rfl)) trivial (fun W h=>ok_pre (H1:=[_,_,_,_,_,_]) (R1:=[]) h (fun W hφ=>(q743 _ (q760 _ (q776 _ (q795 _ (q813 _ hφ))))))) (.inr rfl)
    replace hm:=ite_f hm (of_decide_eq_false h848)
    refine ga_rG (i:=12) (bz 32 8191) rfl (by kernel_rfl) (by decide) rfl rfl rfl rfl rfl h848 (r_loadA (tag:=100120) rfl rfl Tryz.isAgg30 Tryz.sizeOf30 rfl rfl) ?_
    replace hm:=bnd hm
    obtain ⟨x849,hx850,hm⟩:=hm
    refine ga_cnG (first:=#[]) (i:=13) (bz 32 16383) rfl (by kernel_rfl) (by decide) rfl rfl rfl rfl h848  ⟨w0,M,_,_,φ813⟩ (fun _ h=>h) Tryz.call13 rfl rfl rfl (c_conf_Right x780 A783 c784 hc784 (fun W h=>f785 W (q813 _ h)) A786 c787 hc787 (fun W h=>f788 W (q813 _ h)) A789 c790 hc790 (fun W h=>f791 W (q813 _ h)) A792 c793 hc793 (fun W h=>f794 W (q813 _ h)) _ hx850) (fun _ W _ h=>h.phi (fun W hφ=>hφ)) (fun _ _=>?_)
    refine ga_rG (i:=14) (bz 32 32767) rfl (by kernel_rfl) (by decide) rfl rfl rfl rfl rfl h848 (r_not rfl)<|ga_r (i:=15) (bz 32 65535) rfl (by kernel_rfl) (by decide) rfl (r_pick0 rfl h848)<|ga_r (i:=16) (bz 32 131071) rfl (by kernel_rfl) (by decide) rfl (r_move) ?_
    refine ga_if (t:=79) rfl (fun h851=>?_) (fun h851=>?_)
    ·
     have h851' : x849 = false:=by revert h851; cases x849 <;> simp
     replace hm:=ite_f hm (bool_nt h851')
     refine ga_no (i:=17) (bz 32 262143) rfl (by kernel_rfl) (fun _ _ _ _ h=>h) rfl rfl rfl rfl rfl h851<|ga_no (i:=18) (bz 32 524287) rfl (by kernel_rfl) (fun _ _ _ _ h=>h) rfl rfl rfl rfl rfl h851<|ga_no (i:=19) (bz 32 1048575) rfl (by kernel_rfl) (fun _ _ _ _ h=>h) rfl rfl rfl rfl rfl h851<|ga_no (i:=20) (bz 32 2097151) rfl (by kernel_rfl) (fun _ _ _ _ h=>h) rfl rfl rfl rfl rfl h851<|ga_no (i:=21) (bz 32 4194303) rfl (by kernel_rfl) (fun _ _ _ _ h=>h) rfl rfl rfl rfl rfl h851<|ga_no (i:=22) (bz 32 8388607) rfl (by kernel_rfl) (fun _ _ _ _ h=>h) rfl rfl rfl rfl rfl h851<|ga_no (i:=23) (bz 32 16777215) rfl (by kernel_rfl) (fun _ _ _ _ h=>h) rfl rfl rfl rfl rfl h851<|ga_r (i:=24) (bz 32 33554431) rfl (by kernel_rfl) (by decide) rfl (r_pick1 rfl h851)<|ga_r (i:=25) (bz 32 67108863) rfl (by kernel_rfl) (by decide) rfl (r_move)<|ga_no (i:=26) (bz 32 134217727) rfl (by kernel_rfl) (fun _ _ _ _ h=>h) rfl rfl rfl rfl rfl rfl ?_
     refine ga_no (i:=27) (bz 32 268435455) rfl (by kernel_rfl) (fun _ _ _ _ h=>h) rfl rfl rfl rfl rfl rfl<|ga_no (i:=28) (bz 32 536870911) rfl (by kernel_rfl) (fun _ _ _ _ h=>h) rfl rfl rfl rfl rfl rfl<|ga_no (i:=29) (bz 32 1073741823) rfl (by kernel_rfl) (fun _ _ _ _ h=>h) rfl rfl rfl rfl rfl rfl<|ga_no (i:=30) (bz 32 2147483647) rfl (by kernel_rfl) (fun _ _ _ _ h=>h) rfl rfl rfl rfl rfl rfl<|ga_r (i:=31) (bz 32 4294967295) rfl (by kernel_rfl) (by decide) rfl (r_pick1 rfl rfl)<|ga_done (by kernel_rfl)<|d_then ?_
     refine c_flat [(0,.slice Ap0_0 p0.length cp0_0),(1,Vs x3),(5,.bool x1),(6,Vp g5),(7,Vp g6),(8,Vi i556),(12,Vp g797),(14,Vp g815),(94,.bool true)] ⟨rfl,rfl,rfl,rfl,rfl,rfl,rfl,rfl,rfl,trivial⟩ (fun u=>?_)
     refine c_cond1 rfl rfl<|c_seq<|c_region<|g_v rfl r_assign<|g_nil<|d_then<|c_ret<|d_ret_then<|d_ret_block<|d_ret_then ?_
     refine d_ret_then<|d_ret_block<|d_ret_then<|d_ret_then ?_
     replace hm:=nx_out (C:=(fun e : ((List Int)×(List ByteArray)×(List GAnchor)×Int×(List GFlush)×(List Int)×(List ByteArray)×(List GAnchor)×Int×(List GFlush)) ⊕ Bool=>Sum.elim (fun e=>m_law13_ConfApplies_j1 x1 e.1 e.2.1 e.2.2.1 e.2.2.2.1 e.2.2.2.2.1 e.2.2.2.2.2.1 e.2.2.2.2.2.2.1 e.2.2.2.2.2.2.2.1 e.2.2.2.2.2.2.2.2.1 e.2.2.2.2.2.2.2.2.2) (fun x=>some x) e = some r)) hm hnx2 hr2
     replace hm : some false = some r:=hm
     cases hm
     exact d_retC () Tryz.results3 (res_tmp (res_nil rfl)) trivial (fun W h=>ok_pre (H1:=[_,_,_,_,_,_]) (R1:=[]) h (fun W hφ=>(q743 _ (q760 _ (q776 _ (q795 _ (q813 _ hφ))))))) (.inr rfl)
    have h851' : x849 = true:=by revert h851; cases x849 <;> simp
    replace hm:=ite_t hm h851'
    refine ga_do (i:=17) (bz 32 262143) rfl (by kernel_rfl) (fun _ _ _ _ h=>h) rfl rfl rfl rfl rfl h851 (r_loadA (tag:=100120) rfl rfl Tryz.isAgg30 Tryz.sizeOf30 rfl rfl)<|ga_do (i:=18) (bz 32 524287) rfl (by kernel_rfl) (fun _ _ _ _ h=>h) rfl rfl rfl rfl rfl h851 (r_move)<|ga_do (i:=20) (bz 32 1572863) rfl (by kernel_rfl) (fun _ _ _ _ h=>h) rfl rfl rfl rfl rfl h851 (r_loadA (tag:=100140) rfl rfl Tryz.isAgg30 Tryz.sizeOf30 rfl rfl)<|ga_do (i:=21) (bz 32 3670015) rfl (by kernel_rfl) (fun _ _ _ _ h=>h) rfl rfl rfl rfl rfl h851 (r_move) ?_
    replace hm:=bnd hm
    obtain ⟨x852,hx853,hm⟩:=hm
    refine ga_cnG (first:=#[]) (i:=19) (bz 32 4194303) rfl (by kernel_rfl) (by decide) rfl rfl rfl rfl h851  ⟨w0,M,_,_,φ813⟩ (fun _ h=>h) Tryz.call9 rfl rfl rfl (c_conf_Floor x780 A783 c784 hc784 (fun W hS=>f785 W (q813 _ hS.now)) A786 c787 hc787 (fun W hS=>f788 W (q813 _ hS.now)) A789 c790 hc790 (fun W hS=>f791 W (q813 _ hS.now)) A792 c793 hc793 (fun W hS=>f794 W (q813 _ hS.now)) x3 _ hx853) (fun _ W _ h=>h.phi (fun W hφ=>hφ)) (fun _ _=>?_)
    replace hm:=bnd hm
    obtain ⟨x854,hx855,hm⟩:=hm
    refine ga_cnG (first:=#[]) (i:=22) (bz 32 8388607) rfl (by kernel_rfl) (by decide) rfl rfl rfl rfl h851  ⟨w0,M,_,_,φ813⟩ (fun _ h=>h) Tryz.call14 rfl rfl rfl (c_ref13_Floor x798 A801 c802 hc802 (fun W hS=>f803 W hS.now) A804 c805 hc805 (fun W hS=>f806 W hS.now) A807 c808 hc808 (fun W hS=>f809 W hS.now) A810 c811 hc811 (fun W hS=>f812 W hS.now) x3 _ hx855) (fun _ W _ h=>h.phi (fun W hφ=>hφ)) (fun _ _=>?_)
    refine ga_rG (i:=23) (bz 32 16777215) rfl (by kernel_rfl) (by decide) rfl rfl rfl rfl rfl h851 (r_neq rfl rfl)<|ga_r (i:=24) (bz 32 33554431) rfl (by kernel_rfl) (by decide) rfl (r_pick0 rfl h851)<|ga_r (i:=25) (bz 32 67108863) rfl (by kernel_rfl) (by decide) rfl (r_move) ?_
    refine ga_if (t:=88) rfl (fun h856=>?_) (fun h856=>?_)
    ·
     replace hm:=ite_t hm (of_decide_eq_true h856)
     refine ga_no (i:=26) (bz 32 134217727) rfl (by kernel_rfl) (fun _ _ _ _ h=>h) rfl rfl rfl rfl rfl h856<|ga_no (i:=27) (bz 32 268435455) rfl (by kernel_rfl) (fun _ _ _ _ h=>h) rfl rfl rfl rfl rfl h856<|ga_no (i:=28) (bz 32 536870911) rfl (by kernel_rfl) (fun _ _ _ _ h=>h) rfl rfl rfl rfl rfl h856<|ga_no (i:=29) (bz 32 1073741823) rfl (by kernel_rfl) (fun _ _ _ _ h=>h) rfl rfl rfl rfl rfl h856<|ga_no (i:=30) (bz 32 2147483647) rfl (by kernel_rfl) (fun _ _ _ _ h=>h) rfl rfl rfl rfl rfl h856<|ga_r (i:=31) (bz 32 4294967295) rfl (by kernel_rfl) (by decide) rfl (r_pick1 rfl h856)<|ga_done (by kernel_rfl)<|d_then ?_
     refine c_flat [(0,.slice Ap0_0 p0.length cp0_0),(1,Vs x3),(5,.bool x1),(6,Vp g5),(7,Vp g6),(8,Vi i556),(12,Vp g797),(14,Vp g815),(94,.bool true)] ⟨rfl,rfl,rfl,rfl,rfl,rfl,rfl,rfl,rfl,trivial⟩ (fun u=>?_)
     refine c_cond1 rfl rfl<|c_seq<|c_region<|g_v rfl r_assign<|g_nil<|d_then<|c_ret<|d_ret_then<|d_ret_block<|d_ret_then ?_
     refine d_ret_then<|d_ret_block<|d_ret_then<|d_ret_then ?_
     replace hm:=nx_out (C:=(fun e : ((List Int)×(List ByteArray)×(List GAnchor)×Int×(List GFlush)×(List Int)×(List ByteArray)×(List GAnchor)×Int×(List GFlush)) ⊕ Bool=>Sum.elim (fun e=>m_law13_ConfApplies_j1 x1 e.1 e.2.1 e.2.2.1 e.2.2.2.1 e.2.2.2.2.1 e.2.2.2.2.2.1 e.2.2.2.2.2.2.1 e.2.2.2.2.2.2.2.1 e.2.2.2.2.2.2.2.2.1 e.2.2.2.2.2.2.2.2.2) (fun x=>some x) e = some r)) hm hnx2 hr2
     replace hm : some false = some r:=hm
     cases hm
     exact d_retC () Tryz.results3 (res_tmp (res_nil rfl)) trivial (fun W h=>ok_pre (H1:=[_,_,_,_,_,_]) (R1:=[]) h (fun W hφ=>(q743 _ (q760 _ (q776 _ (q795 _ (q813 _ hφ))))))) (.inr rfl)
    replace hm:=ite_f hm (of_decide_eq_false h856)
    refine ga_do (i:=26) (bz 32 134217727) rfl (by kernel_rfl) (fun _ _ _ _ h=>h) rfl rfl rfl rfl rfl h856 (r_loadA (tag:=100120) rfl rfl Tryz.isAgg30 Tryz.sizeOf30 rfl rfl)<|ga_do (i:=27) (bz 32 268435455) rfl (by kernel_rfl) (fun _ _ _ _ h=>h) rfl rfl rfl rfl rfl h856 (r_move)<|ga_do (i:=29) (bz 32 805306367) rfl (by kernel_rfl) (fun _ _ _ _ h=>h) rfl rfl rfl rfl rfl h856 (r_move) ?_
    replace hm:=bnd hm
    obtain ⟨x857,hx858,hm⟩:=hm
    refine ga_cnG (first:=#[]) (i:=28) (bz 32 1073741823) rfl (by kernel_rfl) (by decide) rfl rfl rfl rfl h856  ⟨w0,M,_,_,φ813⟩ (fun _ h=>h) Tryz.call9 rfl rfl rfl (c_conf_Floor x780 A783 c784 hc784 (fun W hS=>f785 W (q813 _ hS.now)) A786 c787 hc787 (fun W hS=>f788 W (q813 _ hS.now)) A789 c790 hc790 (fun W hS=>f791 W (q813 _ hS.now)) A792 c793 hc793 (fun W hS=>f794 W (q813 _ hS.now)) x3 _ hx858) (fun _ W _ h=>h.phi (fun W hφ=>hφ)) (fun _ _=>?_)
    refine ga_rG (i:=30) (bz 32 2147483647) rfl (by kernel_rfl) (by decide) rfl rfl rfl rfl rfl h856 (r_lss rfl rfl)<|ga_r (i:=31) (bz 32 4294967295) rfl (by kernel_rfl) (by decide) rfl (r_pick0 rfl h856)<|ga_done (by kernel_rfl)<|d_then ?_
    refine c_flat [(0,.slice Ap0_0 p0.length cp0_0),(1,Vs x3),(5,.bool x1),(6,Vp g5),(7,Vp g6),(8,Vi i556),(12,Vp g797),(14,Vp g815),(94,.bool (decide (x857 < x778)))] ⟨rfl,rfl,rfl,rfl,rfl,rfl,rfl,rfl,rfl,trivial⟩ (fun u=>?_)
    refine c_cond rfl (fun h859=>?_) (fun h859=>?_)
    ·
     replace hm:=ite_t hm (of_decide_eq_true h859)
     refine c_seq<|c_region<|g_v rfl r_assign<|g_nil<|d_then<|c_ret<|d_ret_then<|d_ret_block<|d_ret_then<|d_ret_then ?_
     refine d_ret_block<|d_ret_then<|d_ret_then ?_
     replace hm:=nx_out (C:=(fun e : ((List Int)×(List ByteArray)×(List GAnchor)×Int×(List GFlush)×(List Int)×(List ByteArray)×(List GAnchor)×Int×(List GFlush)) ⊕ Bool=>Sum.elim (fun e=>m_law13_ConfApplies_j1 x1 e.1 e.2.1 e.2.2.1 e.2.2.2.1 e.2.2.2.2.1 e.2.2.2.2.2.1 e.2.2.2.2.2.2.1 e.2.2.2.2.2.2.2.1 e.2.2.2.2.2.2.2.2.1 e.2.2.2.2.2.2.2.2.2) (fun x=>some x) e = some r)) hm hnx2 hr2
     replace hm : some false = some r:=hm
     cases hm
     exact d_retC () Tryz.results3 (res_tmp (res_nil rfl)) trivial (fun W h=>ok_pre (H1:=[_,_,_,_,_,_]) (R1:=[]) h (fun W hφ=>(q743 _ (q760 _ (q776 _ (q795 _ (q813 _ hφ))))))) (.inr rfl)
    replace hm:=ite_f hm (of_decide_eq_false h859)
    refine c_skip<|d_then<|c_seq<|c_region<|g_v rfl (r_loadA (tag:=100120) rfl rfl Tryz.isAgg30 Tryz.sizeOf30 rfl rfl)<|g_storeL (tag:=100060) rfl rfl rfl rfl Tryz.sizeOf30 rfl rfl<|g_nil<|d_then<|c_region<|g_v rfl (r_loadA (tag:=100140) rfl rfl Tryz.isAgg30 Tryz.sizeOf30 rfl rfl) ?_
    refine g_storeL (tag:=100070) rfl rfl rfl rfl Tryz.sizeOf30 rfl rfl<|g_nil<|d_normal_block<|d_then<|c_region<|g_v rfl r_move<|g_v rfl (r_add rfl rfl rfl)<|g_v rfl r_assign<|g_nil ?_
    obtain ⟨n860,hn860,hlp⟩:=nx_inl hm hnx2
    exact d_round (n860,w64 (i556 + 1),x798.fRing,x798.fHints,x798.fAnchors,x798.fEpoch,x798.fFlushes,x780.fRing,x780.fHints,x780.fAnchors,x780.fEpoch,x780.fFlushes,A801,c802,A804,c805,A807,c808,A810,c811,A783,c784,A786,c787,A789,c790,A792,c793) ⟨hlp,hc802,hc805,hc808,hc811,hc784,hc787,hc790,hc793⟩ hn860 ⟨rfl,rfl,rfl,rfl,rfl,rfl,trivial⟩ (fun W h=>((((h.dropH (t:=100140) rfl).dropH (t:=100120) rfl).dropH (t:=100100) rfl).dropH (t:=100090) rfl).phi (fun W hφ=>⟨(q743 _ (q760 _ (q776 _ (q795 _ (q813 _ hφ))))),(fun W h=>f803 W h) W hφ,(fun W h=>f806 W h) W hφ,(fun W h=>f809 W h) W hφ,(fun W h=>f812 W h) W hφ,(fun W h=>f785 W (q813 _ h)) W hφ,(fun W h=>f788 W (q813 _ h)) W hφ,(fun W h=>f791 W (q813 _ h)) W hφ,(fun W h=>f794 W (q813 _ h)) W hφ⟩))
   replace hm:=ite_f hm (of_decide_eq_false h745)
   refine c_exit<|d_exit_then<|d_exit_then<|d_exit_block ?_
   replace hm:=nx_out (C:=(fun e : ((List Int)×(List ByteArray)×(List GAnchor)×Int×(List GFlush)×(List Int)×(List ByteArray)×(List GAnchor)×Int×(List GFlush)) ⊕ Bool=>Sum.elim (fun e=>m_law13_ConfApplies_j1 x1 e.1 e.2.1 e.2.2.1 e.2.2.2.1 e.2.2.2.2.1 e.2.2.2.2.2.1 e.2.2.2.2.2.2.1 e.2.2.2.2.2.2.2.1 e.2.2.2.2.2.2.2.2.1 e.2.2.2.2.2.2.2.2.2) (fun x=>some x) e = some r)) hm hnx2 hr2
   exact d_round (l557,l561,l565,i569,l570,l574,l578,l582,i586,l587,A558,c559,A562,c563,A566,c567,A571,c572,A575,c576,A579,c580,A583,c584,A588,c589) ⟨hm,hc559,hc563,hc567,hc572,hc576,hc580,hc584,hc589⟩ Nat.zero_lt_one ⟨rfl,rfl,rfl,trivial⟩ (fun W h=>h.phi (fun W hφ=>⟨(q743 _ hφ),(fun W h=>f560 W h) W hφ,(fun W h=>f564 W h) W hφ,(fun W h=>f568 W h) W hφ,(fun W h=>f573 W h) W hφ,(fun W h=>f577 W h) W hφ,(fun W h=>f581 W h) W hφ,(fun W h=>f585 W h) W hφ,(fun W h=>f590 W h) W hφ⟩))
  replace hm:=ite_f hm (of_decide_eq_false h744)
  refine g_no rfl rfl rfl rfl rfl h744<|g_v rfl (r_pick0 rfl h744)<|g_nil<|d_then<|c_cond0 rfl rfl<|c_exit<|d_exit_then<|d_exit_then<|d_exit_block ?_
  replace hm:=nx_out (C:=(fun e : ((List Int)×(List ByteArray)×(List GAnchor)×Int×(List GFlush)×(List Int)×(List ByteArray)×(List GAnchor)×Int×(List GFlush)) ⊕ Bool=>Sum.elim (fun e=>m_law13_ConfApplies_j1 x1 e.1 e.2.1 e.2.2.1 e.2.2.2.1 e.2.2.2.2.1 e.2.2.2.2.2.1 e.2.2.2.2.2.2.1 e.2.2.2.2.2.2.2.1 e.2.2.2.2.2.2.2.2.1 e.2.2.2.2.2.2.2.2.2) (fun x=>some x) e = some r)) hm hnx2 hr2
  exact d_round (l557,l561,l565,i569,l570,l574,l578,l582,i586,l587,A558,c559,A562,c563,A566,c567,A571,c572,A575,c576,A579,c580,A583,c584,A588,c589) ⟨hm,hc559,hc563,hc567,hc572,hc576,hc580,hc584,hc589⟩ Nat.zero_lt_one ⟨rfl,rfl,rfl,trivial⟩ (fun W h=>h.phi (fun W hφ=>⟨(q743 _ hφ),(fun W h=>f560 W h) W hφ,(fun W h=>f564 W h) W hφ,(fun W h=>f568 W h) W hφ,(fun W h=>f573 W h) W hφ,(fun W h=>f577 W h) W hφ,(fun W h=>f581 W h) W hφ,(fun W h=>f585 W h) W hφ,(fun W h=>f590 W h) W hφ⟩))
 unfold m_law13_ConfApplies_j1 at hm
 refine d_abs (fun φ378 q378'=>?_)
 have q378 : ∀ W,φ378 W→φ W:=fun W h=>(q378' W h).1
 have f347:=fun (W : World) (h : φ378 W)=>(q378' W h).2.1
 have f351:=fun (W : World) (h : φ378 W)=>(q378' W h).2.2.1
 have f355:=fun (W : World) (h : φ378 W)=>(q378' W h).2.2.2.1
 have f360:=fun (W : World) (h : φ378 W)=>(q378' W h).2.2.2.2.1
 have f364:=fun (W : World) (h : φ378 W)=>(q378' W h).2.2.2.2.2.1
 have f368:=fun (W : World) (h : φ378 W)=>(q378' W h).2.2.2.2.2.2.1
 have f372:=fun (W : World) (h : φ378 W)=>(q378' W h).2.2.2.2.2.2.2.1
 have f377:=fun (W : World) (h : φ378 W)=>(q378' W h).2.2.2.2.2.2.2.2
 refine d_flat [(5,.bool x1),(6,Vp g5),(7,Vp g6)] ⟨rfl,rfl,rfl,trivial⟩ (fun u=>?_)
 refine d_sta ⟨w0,M,(100070,g6,.cells #[.slice A345 l344.length c346,.slice A349 l348.length c350,.slice A353 l352.length c354,Vi i356,.slice A358 l357.length c359] 30 (0,0))::(100060,g5,.cells #[.slice A362 l361.length c363,.slice A366 l365.length c367,.slice A370 l369.length c371,Vi i373,.slice A375 l374.length c376] 30 (0,0))::H,R,φ378⟩ (fun _ h=>h)<|d_then<|c_seq<|c_region<|g_v rfl (r_loadA (tag:=100060) rfl rfl Tryz.isAgg30 Tryz.sizeOf30 rfl rfl) ?_
 replace hm:=bnd hm
 obtain ⟨x379,hx380,hm⟩:=hm
 refine g_cn ⟨w0,M,_,_,φ378⟩ (fun _ h=>h) Tryz.call15 rfl rfl (c_conf_Snap (⟨l361,l365,l369,i373,l374⟩ : GConf) A362 c363 hc363 (fun W h=>f364 W h) A366 c367 hc367 (fun W h=>f368 W h) A370 c371 hc371 (fun W h=>f372 W h) A375 c376 hc376 (fun W h=>f377 W h) _ hx380) (fun _ _=>?_)
 refine g_v rfl r_assign<|g_nil<|d_then<|c_seq<|c_region<|g_v rfl r_move ?_
 replace hm:=bnd hm
 obtain ⟨⟨x381,x382⟩,hx383,hm⟩:=hm
 refine g_cn ⟨w0,M,_,_,φ378⟩ (fun _ h=>h) Tryz.call16 rfl rfl (c_conf_Load x379 _ hx383) (fun ⟨A384,c385,A387,c388,A390,c391,A393,c394⟩ ⟨hc385,hc388,hc391,hc394⟩=>?_)
 refine g_abs (fun φ396 q396'=>?_)
 have q396 : ∀ W,φ396 W→φ378 W:=fun W h=>(q396' W h).1
 have f386:=fun (W : World) (h : φ396 W)=>(q396' W h).2.1
 have f389:=fun (W : World) (h : φ396 W)=>(q396' W h).2.2.1
 have f392:=fun (W : World) (h : φ396 W)=>(q396' W h).2.2.2.1
 have f395:=fun (W : World) (h : φ396 W)=>(q396' W h).2.2.2.2
 refine g_v rfl r_move<|g_v rfl (r_extract rfl rfl)<|g_v rfl (r_extract rfl rfl) ?_
 refine g_e rfl (e_alloc 100190 Tryz.zeroValue30) (fun g398 _=>?_)
 refine g_storeL (tag:=100190) rfl rfl rfl rfl Tryz.sizeOf30 rfl rfl<|g_v rfl r_assign<|g_nil<|d_then ?_
 refine c_flat [(5,.bool x1),(6,Vp g5),(7,Vp g6),(18,Vs x379),(19,Vp g398),(20,Vi x382)] ⟨rfl,rfl,rfl,rfl,rfl,rfl,trivial⟩ (fun u=>?_)
 refine c_sta ⟨w0,M,(100190,g398,.cells #[.slice A384 x381.fRing.length c385,.slice A387 x381.fHints.length c388,.slice A390 x381.fAnchors.length c391,Vi x381.fEpoch,.slice A393 x381.fFlushes.length c394] 30 (0,0))::(100070,g6,.cells #[.slice A345 l344.length c346,.slice A349 l348.length c350,.slice A353 l352.length c354,Vi i356,.slice A358 l357.length c359] 30 (0,0))::(100060,g5,.cells #[.slice A362 l361.length c363,.slice A366 l365.length c367,.slice A370 l369.length c371,Vi i373,.slice A375 l374.length c376] 30 (0,0))::H,R,φ396⟩ (fun _ h=>h)<|c_seq<|c_region<|g_v rfl (r_loadA (tag:=100060) rfl rfl Tryz.isAgg30 Tryz.sizeOf30 rfl rfl)<|g_v rfl (r_loadA (tag:=100190) rfl rfl Tryz.isAgg30 Tryz.sizeOf30 rfl rfl) ?_
 replace hm:=bnd hm
 obtain ⟨x399,hx400,hm⟩:=hm
 refine g_cn ⟨w0,M,_,_,φ396⟩ (fun _ h=>h) Tryz.call12 rfl rfl (c_ref13_Same (⟨l361,l365,l369,i373,l374⟩ : GConf) A362 c363 hc363 (fun W hS=>f364 W (q396 _ hS.now)) A366 c367 hc367 (fun W hS=>f368 W (q396 _ hS.now)) A370 c371 hc371 (fun W hS=>f372 W (q396 _ hS.now)) A375 c376 hc376 (fun W hS=>f377 W (q396 _ hS.now)) x381 A384 c385 hc385 (fun W hS=>f386 W hS.now) A387 c388 hc388 (fun W hS=>f389 W hS.now) A390 c391 hc391 (fun W hS=>f392 W hS.now) A393 c394 hc394 (fun W hS=>f395 W hS.now) _ hx400) (fun _ _=>?_)
 refine g_v rfl r_assign<|g_nil<|d_then<|c_seq<|c_region<|g_v rfl r_move<|g_v rfl r_move ?_
 refine g_if rfl rfl rfl rfl rfl (fun h401=>?_) (fun h401=>?_)
 ·
  replace hm:=ite_t hm h401
  refine g_v rfl r_move<|g_do rfl rfl rfl rfl rfl h401<|g_v rfl (r_loadA (tag:=100070) rfl rfl Tryz.isAgg30 Tryz.sizeOf30 rfl rfl)<|g_do rfl rfl rfl rfl rfl h401 ?_
  replace hm:=bnd hm
  obtain ⟨x402,hx403,hm⟩:=hm
  refine g_cn ⟨w0,M,_,_,φ396⟩ (fun _ h=>h) Tryz.call17 rfl rfl (c_ref13_Snap (⟨l344,l348,l352,i356,l357⟩ : GConf) A345 c346 hc346 (fun W hS=>f347 W (q396 _ hS.now)) A349 c350 hc350 (fun W hS=>f351 W (q396 _ hS.now)) A353 c354 hc354 (fun W hS=>f355 W (q396 _ hS.now)) A358 c359 hc359 (fun W hS=>f360 W (q396 _ hS.now)) _ hx403) (fun _ _=>?_)
  refine g_do rfl rfl rfl rfl rfl h401<|g_v rfl (r_eqlT rfl rfl)<|g_v rfl (r_pick1 rfl h401)<|g_v rfl r_move ?_
  refine g_if rfl rfl rfl rfl rfl (fun h404=>?_) (fun h404=>?_)
  ·
   replace hm:=ite_t hm (of_decide_eq_true h404)
   refine g_v rfl r_move<|g_do rfl rfl rfl rfl rfl h404<|g_v rfl (r_eql rfl rfl)<|g_v rfl (r_pick1 rfl h404)<|g_v rfl r_move ?_
   refine g_if rfl rfl rfl rfl rfl (fun h405=>?_) (fun h405=>?_)
   ·
    replace hm:=ite_t hm (of_decide_eq_true h405)
    refine g_v rfl r_move<|g_v rfl (r_pick1 rfl h405)<|g_v rfl r_assign<|g_nil<|d_then ?_
    refine c_flat [(4,.bool x399)] ⟨rfl,trivial⟩ (fun u=>?_)
    refine c_ret ?_
    cases hm
    exact d_retC () Tryz.results3 (res_tmp (res_nil rfl)) trivial (fun W h=>ok_pre (H1:=[_,_,_]) (R1:=[]) h (fun W hφ=>(q378 _ (q396 _ hφ)))) (.inr rfl)
   replace hm:=ite_f hm (of_decide_eq_false h405)
   refine g_v rfl (r_pick0 rfl h405)<|g_v rfl r_assign<|g_nil<|d_then ?_
   refine c_flat [(4,.bool false)] ⟨rfl,trivial⟩ (fun u=>?_)
   refine c_ret ?_
   cases hm
   exact d_retC () Tryz.results3 (res_tmp (res_nil rfl)) trivial (fun W h=>ok_pre (H1:=[_,_,_]) (R1:=[]) h (fun W hφ=>(q378 _ (q396 _ hφ)))) (.inr rfl)
  replace hm:=ite_f hm (of_decide_eq_false h404)
  refine g_no rfl rfl rfl rfl rfl h404<|g_v rfl (r_pick0 rfl h404)<|g_v rfl r_move<|g_no rfl rfl rfl rfl rfl rfl<|g_v rfl (r_pick0 rfl rfl)<|g_v rfl r_assign<|g_nil<|d_then ?_
  refine c_flat [(4,.bool false)] ⟨rfl,trivial⟩ (fun u=>?_)
  refine c_ret ?_
  cases hm
  exact d_retC () Tryz.results3 (res_tmp (res_nil rfl)) trivial (fun W h=>ok_pre (H1:=[_,_,_]) (R1:=[]) h (fun W hφ=>(q378 _ (q396 _ hφ)))) (.inr rfl)
 replace hm:=ite_f hm (bool_nt h401)
 iterate 3 refine g_no rfl rfl rfl rfl rfl h401 ?_
 refine g_v rfl (r_pick0 rfl h401)<|g_v rfl r_move<|g_no rfl rfl rfl rfl rfl rfl<|g_no rfl rfl rfl rfl rfl rfl<|g_v rfl (r_pick0 rfl rfl)<|g_v rfl r_move<|g_no rfl rfl rfl rfl rfl rfl<|g_v rfl (r_pick0 rfl rfl)<|g_v rfl r_assign<|g_nil ?_
 refine d_then ?_
 refine c_flat [(4,.bool false)] ⟨rfl,trivial⟩ (fun u=>?_)
 refine c_ret ?_
 cases hm
 exact d_retC () Tryz.results3 (res_tmp (res_nil rfl)) trivial (fun W h=>ok_pre (H1:=[_,_,_]) (R1:=[]) h (fun W hφ=>(q378 _ (q396 _ hφ)))) (.inr rfl)
end Go.Proofs.YthpjodfjdnnckaaGreat
