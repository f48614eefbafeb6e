import Derived.Test.YthpjodfjdnnckaaGreatWCYB
set_option maxRecDepth 100000
set_option maxHeartbeats 4000000
set_option linter.unusedVariables false
set_option linter.unusedSimpArgs false
namespace Go.Proofs.YthpjodfjdnnckaaGreat
open Go.RowKit Go.Proofs.YthpjodfjdnnckaaGreatW.PrintLast
noncomputable def m_ref13_Apply_j1  (l664 : List Int) (l668 : List ByteArray) (l672 : List GAnchor) (i676 : Int) (l677 : List GFlush) : Option (GConf×Int):=
  some ((⟨l664,l668,l672,i676,l677⟩ : GConf),0)
noncomputable def m_ref13_Apply_s3 (p0 : GConf) (p1 : GOrder) (x7 : GConf) (l705 : List Int) (i708 : Int) : Option (((List Int)×Int) ⊕ ((List Int)×(List ByteArray)×(List GAnchor)×Int×(List GFlush))):=
  if i708 < 64 then
    (m_ref13_in p0.fRing i708).bind fun x725=>
    if (!(x725 == (decide (i708 = p1.fNode)))) = true then
      (app 8 l705 [i708]).bind fun l729=>
      some (.inl (l729,w64 (i708 + 1)))
    else
      some (.inl (l705,w64 (i708 + 1)))
  else
    some (.inr (l705,x7.fHints,x7.fAnchors,x7.fEpoch,x7.fFlushes))
noncomputable def m_ref13_Apply_j5 (p0 : GConf) (x7 : GConf) (l1043 : List GAnchor) : Option (GConf×Int):=
  if 16 < (l1043.length : Int) then
    some (p0,15)
  else
    m_ref13_Apply_j1 x7.fRing x7.fHints l1043 x7.fEpoch x7.fFlushes
noncomputable def m_ref13_Apply_j4 (p0 : GConf) (x7 : GConf) (p1 : GOrder) (l1034 : List GAnchor) (b1037 : Bool) : Option (GConf×Int):=
  if b1037 = true then
    m_ref13_Apply_j5 p0 x7 l1034
  else
    (app 32 l1034 [(⟨p1.fName,p1.fText⟩ : GAnchor)]).bind fun l1051=>
    m_ref13_Apply_j5 p0 x7 l1051
noncomputable def m_ref13_Apply_j7 (x1165 : GAnchor) (i1110 : Int) (l1204 : List GAnchor) (b1207 : Bool) : Option (((List GAnchor)×Bool×Int) ⊕ ((List GAnchor)×Bool)):=
  (app 32 l1204 [x1165]).bind fun l1209=>
  some (.inl (l1209,b1207,w64 (i1110 + 1)))
noncomputable def m_ref13_Apply_s6 (p0 : GConf) (p1 : GOrder) (l1106 : List GAnchor) (b1109 : Bool) (i1110 : Int) : Option (((List GAnchor)×Bool×Int) ⊕ ((List GAnchor)×Bool)):=
  if i1110 < (p0.fAnchors.length : Int) then
    (at_ p0.fAnchors i1110).bind fun x1165=>
    (m_ref03_Lower x1165.fName).bind fun x1178=>
    (m_ref03_Lower p1.fName).bind fun x1180=>
    if x1178 = x1180 then
      some (.inl (l1106,b1109,w64 (i1110 + 1)))
    else
      if b1109 = true then
        m_ref13_Apply_j7 x1165 i1110 l1106 b1109
      else
        (m_ref03_Lower x1165.fName).bind fun x1224=>
        (m_ref03_Lower p1.fName).bind fun x1226=>
        if (!(sless x1224 x1226 || decide (x1224 = x1226))) = true then
          (app 32 l1106 [(⟨p1.fName,p1.fText⟩ : GAnchor)]).bind fun l1230=>
          m_ref13_Apply_j7 x1165 i1110 l1230 true
        else
          m_ref13_Apply_j7 x1165 i1110 l1106 b1109
  else
    some (.inr (l1106,b1109))
noncomputable def m_ref13_Apply_j9 (i1510 : Int) (x7 : GConf) (l1515 : List GFlush) (s1518 : ByteArray) : Option (GConf×Int):=
  (app 24 l1515 [(⟨i1510,s1518⟩ : GFlush)]).bind fun l1520=>
  m_ref13_Apply_j1 x7.fRing x7.fHints x7.fAnchors i1510 l1520
noncomputable def m_ref13_Apply_j8 (p1 : GOrder) (x7 : GConf) (l1507 : List GFlush) (i1510 : Int) : Option (GConf×Int):=
  (m_ref03_Lower p1.fZone).bind fun x1511=>
  if 32 ≤ (l1507.length : Int) then
    m_ref13_Apply_j9 i1510 x7 ([] : List GFlush) (strOfNums [0])
  else
    m_ref13_Apply_j9 i1510 x7 l1507 x1511
noncomputable def m_ref13_Apply_s10 (p0 : GConf) (p1 : GOrder) (l1580 : List GFlush) (i1583 : Int) (i1584 : Int) : Option (((List GFlush)×Int×Int) ⊕ ((List GFlush)×Int)):=
  if i1583 < (p0.fFlushes.length : Int) then
    (at_ p0.fFlushes i1583).bind fun x1653=>
    (m_ref03_Under x1653.fZone p1.fZone).bind fun x1658=>
    if x1658 = true then
      some (.inl (l1580,w64 (i1583 + 1),i1584))
    else
      (at_ p0.fFlushes i1583).bind fun x1677=>
      (app 24 l1580 [x1677]).bind fun l1682=>
      some (.inl (l1682,w64 (i1583 + 1),i1584))
  else
    some (.inr (l1580,i1584))
noncomputable def m_ref13_Apply_j2 (x23 : Bool) (p1 : GOrder) (p0 : GConf) (x7 : GConf) (b683 : Bool) : Option (GConf×Int):=
  if b683 = true then
    if (x23 == (decide (p1.fKind = 1))) = true then
      some (p0,13)
    else
      (loop (fun s=>m_ref13_Apply_s3 p0 p1 x7 s.1 s.2) (([] : List Int),0)).bind fun e=>m_ref13_Apply_j1 e.1 e.2.1 e.2.2.1 e.2.2.2.1 e.2.2.2.2
  else
    if p1.fKind = 3 then
      (app 16 ([] : List ByteArray) p1.fHints).bind fun l737=>
      m_ref13_Apply_j1 x7.fRing l737 x7.fAnchors x7.fEpoch x7.fFlushes
    else
      if p1.fKind = 4 then
        (loop (fun s=>m_ref13_Apply_s6 p0 p1 s.1 s.2.1 s.2.2) (([] : List GAnchor),decide (p1.fText = (⟨#[]⟩ : ByteArray)),0)).bind fun e=>m_ref13_Apply_j4 p0 x7 p1 e.1 e.2
      else
        if 1099511627776 ≤ p0.fEpoch then
          some (p0,15)
        else
          (loop (fun s=>m_ref13_Apply_s10 p0 p1 s.1 s.2.1 s.2.2) (([] : List GFlush),0,w64 (p0.fEpoch + 1))).bind fun e=>m_ref13_Apply_j8 p1 x7 e.1 e.2
noncomputable def m_ref13_Apply (p0 : GConf) (p1 : GOrder) : Option (GConf×Int):=
  (m_ref13_Check p1).bind fun x4=>
  if x4 ≠ 0 then
    some (p0,x4)
  else
    (m_ref13_Copy p0).bind fun x7=>
    (m_ref13_in p0.fRing p1.fNode).bind fun x23=>
    if p1.fKind = 1 then
      m_ref13_Apply_j2 x23 p1 p0 x7 (decide (p1.fKind = 1))
    else
      m_ref13_Apply_j2 x23 p1 p0 x7 (decide (p1.fKind = 2))
theorem c_ref13_Apply {w0 : World} {M : Nat→Prop} {H : List (Nat×Nat×Obj)} {R : List (Nat×Row)} {φ : World→Prop} (p0 : GConf) (Ap0_0 : Option Addr) (cp0_0 : Nat) (hcp0_0 : p0.fRing.length ≤ cp0_0) (fp0_0 : ∀ W,φ W→Cl W Ap0_0 (p0.fRing.flatMap (fun x : Int=>[Value.int .i64 x]))) (Ap0_1 : Option Addr) (cp0_1 : Nat) (hcp0_1 : p0.fHints.length ≤ cp0_1) (fp0_1 : ∀ W,φ W→Cl W Ap0_1 (p0.fHints.flatMap (fun x : ByteArray=>[Value.string x]))) (Ap0_2 : Option Addr) (cp0_2 : Nat) (hcp0_2 : p0.fAnchors.length ≤ cp0_2) (fp0_2 : ∀ W,φ W→Cl W Ap0_2 (p0.fAnchors.flatMap GAnchor.enc)) (Ap0_3 : Option Addr) (cp0_3 : Nat) (hcp0_3 : p0.fFlushes.length ≤ cp0_3) (fp0_3 : ∀ W,φ W→Cl W Ap0_3 (p0.fFlushes.flatMap GFlush.enc)) (p1 : GOrder) (Ap1_0 : Option Addr) (cp1_0 : Nat) (hcp1_0 : p1.fHints.length ≤ cp1_0) (fp1_0 : ∀ W,(Sta.mk w0 M H R φ).ok W→Cl W Ap1_0 (p1.fHints.flatMap (fun x : ByteArray=>[Value.string x]))) (r : GConf×Int) (hm : m_ref13_Apply p0 p1 = some r) :
    Cn Tryz.prog 11 #[.agg #[.slice Ap0_0 p0.fRing.length cp0_0,.slice Ap0_1 p0.fHints.length cp0_1,.slice Ap0_2 p0.fAnchors.length cp0_2,Vi p0.fEpoch,.slice Ap0_3 p0.fFlushes.length cp0_3],.agg #[Vi p1.fKind,Vi p1.fNode,Vs p1.fName,Vs p1.fText,Vs p1.fZone,.slice Ap1_0 p1.fHints.length cp1_0]] ⟨w0,M,H,R,φ⟩ (fun x : Option Addr×Nat×Option Addr×Nat×Option Addr×Nat×Option Addr×Nat=>.tuple #[.agg #[.slice x.1 r.1.fRing.length x.2.1,.slice x.2.2.1 r.1.fHints.length x.2.2.2.1,.slice x.2.2.2.2.1 r.1.fAnchors.length x.2.2.2.2.2.1,Vi r.1.fEpoch,.slice x.2.2.2.2.2.2.1 r.1.fFlushes.length x.2.2.2.2.2.2.2],Vi r.2]) (fun x=>r.1.fRing.length ≤ x.2.1∧r.1.fHints.length ≤ x.2.2.2.1∧r.1.fAnchors.length ≤ x.2.2.2.2.2.1∧r.1.fFlushes.length ≤ x.2.2.2.2.2.2.2) (fun x=>⟨w0,M,H,R,fun W=>φ W∧Cl W x.1 (r.1.fRing.flatMap (fun x : Int=>[Value.int .i64 x]))∧Cl W x.2.2.1 (r.1.fHints.flatMap (fun x : ByteArray=>[Value.string x]))∧Cl W x.2.2.2.2.1 (r.1.fAnchors.flatMap GAnchor.enc)∧Cl W x.2.2.2.2.2.2.1 (r.1.fFlushes.flatMap GFlush.enc)⟩):=by
 unfold m_ref13_Apply at hm
 refine cn_intro (fn:=Tryz.f11) (N:=197) Tryz.func11 rfl Tryz.ntmps11 rfl<|c_seq<|c_region ?_
 refine g_e rfl (e_box 100020 rfl) (fun g1 _=>?_)
 refine g_e rfl (e_box 100030 rfl) (fun g2 _=>?_)
 refine g_e rfl (e_alloc 100040 Tryz.zeroValue30) (fun g3 _=>?_)
 refine g_v rfl r_assign<|g_nil<|d_then<|c_seq<|c_region<|g_v rfl (r_loadA (tag:=100030) rfl rfl Tryz.isAgg32 Tryz.sizeOf32 rfl rfl) ?_
 replace hm:=bnd hm
 obtain ⟨x4,hx5,hm⟩:=hm
 refine g_cn ⟨w0,M,_,_,φ⟩ (fun _ h=>h) Tryz.call40 rfl rfl (c_ref13_Check p1 Ap1_0 cp1_0 hcp1_0 (fun W hS=>fp1_0 W (ok_pre (H1:=[_,_,_]) (R1:=[]) hS (fun W h=>h))) _ hx5) (fun _ _=>?_)
 refine g_v rfl r_assign<|g_nil<|d_then<|c_seq<|c_seq<|c_region<|g_v rfl r_move<|g_v rfl (r_neq rfl rfl)<|g_nil<|d_then ?_
 refine c_flat [(2,Vp g1),(3,Vp g2),(4,Vp g3),(6,Vi x4),(20,.bool (decide (x4 ≠ 0)))] ⟨rfl,rfl,rfl,rfl,rfl,trivial⟩ (fun u=>?_)
 refine c_sta ⟨w0,M,(100040,g3,.cells #[V0,V0,V0,Vi 0,V0] 30 (0,0))::(100030,g2,.cells #[Vi p1.fKind,Vi p1.fNode,Vs p1.fName,Vs p1.fText,Vs p1.fZone,.slice Ap1_0 p1.fHints.length cp1_0] 32 (0,0))::(100020,g1,.cells #[.slice Ap0_0 p0.fRing.length cp0_0,.slice Ap0_1 p0.fHints.length cp0_1,.slice Ap0_2 p0.fAnchors.length cp0_2,Vi p0.fEpoch,.slice Ap0_3 p0.fFlushes.length cp0_3] 30 (0,0))::H,R,φ⟩ (fun _ h=>h) ?_
 refine c_cond rfl (fun h6=>?_) (fun h6=>?_)
 ·
  replace hm:=ite_t hm (of_decide_eq_true h6)
  refine c_seq<|c_region<|g_v rfl (r_loadA (tag:=100020) rfl rfl Tryz.isAgg30 Tryz.sizeOf30 rfl rfl)<|g_v rfl r_move<|g_storeL (tag:=100040) rfl rfl rfl rfl Tryz.sizeOf30 rfl rfl<|g_v rfl r_assign<|g_nil<|d_then<|c_ret<|d_ret_then ?_
  cases hm
  exact d_retC (Ap0_0,cp0_0,Ap0_1,cp0_1,Ap0_2,cp0_2,Ap0_3,cp0_3) Tryz.results11 (res_agg (tag:=100040) rfl rfl Tryz.isAgg30 Tryz.sizeOf30 (res_tmp (res_nil rfl))) ⟨hcp0_0,hcp0_1,hcp0_2,hcp0_3⟩ (fun W h=>ok_pre (H1:=[_,_,_]) (R1:=[]) h (fun W hφ=>⟨hφ,(fun W h=>fp0_0 W h) W hφ,(fun W h=>fp0_1 W h) W hφ,(fun W h=>fp0_2 W h) W hφ,(fun W h=>fp0_3 W h) W hφ⟩)) (.inr rfl)
 replace hm:=ite_f hm (of_decide_eq_false h6)
 refine c_skip<|d_then<|c_seq<|c_region<|g_v rfl (r_loadA (tag:=100020) rfl rfl Tryz.isAgg30 Tryz.sizeOf30 rfl rfl) ?_
 replace hm:=bnd hm
 obtain ⟨x7,hx8,hm⟩:=hm
 refine g_cn ⟨w0,M,_,_,φ⟩ (fun _ h=>h) Tryz.call8 rfl rfl (c_ref13_Copy p0 Ap0_0 cp0_0 hcp0_0 (fun W hS=>fp0_0 W hS.now) Ap0_1 cp0_1 hcp0_1 (fun W hS=>fp0_1 W hS.now) Ap0_2 cp0_2 hcp0_2 (fun W hS=>fp0_2 W hS.now) Ap0_3 cp0_3 hcp0_3 (fun W hS=>fp0_3 W hS.now) _ hx8) (fun ⟨A9,c10,A12,c13,A15,c16,A18,c19⟩ ⟨hc10,hc13,hc16,hc19⟩=>?_)
 refine g_abs (fun φ21 q21'=>?_)
 have q21 : ∀ W,φ21 W→φ W:=fun W h=>(q21' W h).1
 have f11:=fun (W : World) (h : φ21 W)=>(q21' W h).2.1
 have f14:=fun (W : World) (h : φ21 W)=>(q21' W h).2.2.1
 have f17:=fun (W : World) (h : φ21 W)=>(q21' W h).2.2.2.1
 have f20:=fun (W : World) (h : φ21 W)=>(q21' W h).2.2.2.2
 refine g_e rfl (e_alloc 100070 Tryz.zeroValue30) (fun g22 _=>?_)
 refine g_storeL (tag:=100070) rfl rfl rfl rfl Tryz.sizeOf30 rfl rfl<|g_nil<|d_then<|c_seq<|c_region<|g_v rfl (r_field (n:=0) Tryz.underlying30 rfl Tryz.sizeOf25 rfl rfl)<|g_v rfl (r_load (tag:=100020) rfl rfl rfl Tryz.isAgg25)<|g_v rfl (r_field (n:=1) Tryz.underlying32 rfl Tryz.sizeOf3 rfl rfl)<|g_v rfl (r_load (tag:=100030) rfl rfl rfl Tryz.isAgg3) ?_
 replace hm:=bnd hm
 obtain ⟨x23,hx24,hm⟩:=hm
 refine g_cn ⟨w0,M,_,_,φ21⟩ (fun _ h=>h) Tryz.call41 rfl rfl (c_ref13_in p0.fRing Ap0_0 cp0_0 hcp0_0 (fun W hS=>fp0_0 W (q21 _ hS.now)) p1.fNode _ hx24) (fun _ _=>?_)
 refine g_v rfl r_assign<|g_nil<|d_then ?_
 refine c_flat [(2,Vp g1),(3,Vp g2),(4,Vp g3),(7,Vp g22),(8,.bool x23)] ⟨rfl,rfl,rfl,rfl,rfl,trivial⟩ (fun u=>?_)
 refine c_sta ⟨w0,M,(100070,g22,.cells #[.slice A9 x7.fRing.length c10,.slice A12 x7.fHints.length c13,.slice A15 x7.fAnchors.length c16,Vi x7.fEpoch,.slice A18 x7.fFlushes.length c19] 30 (0,0))::(100040,g3,.cells #[V0,V0,V0,Vi 0,V0] 30 (0,0))::(100030,g2,.cells #[Vi p1.fKind,Vi p1.fNode,Vs p1.fName,Vs p1.fText,Vs p1.fZone,.slice Ap1_0 p1.fHints.length cp1_0] 32 (0,0))::(100020,g1,.cells #[.slice Ap0_0 p0.fRing.length cp0_0,.slice Ap0_1 p0.fHints.length cp0_1,.slice Ap0_2 p0.fAnchors.length cp0_2,Vi p0.fEpoch,.slice Ap0_3 p0.fFlushes.length cp0_3] 30 (0,0))::H,R,φ21⟩ (fun _ h=>h)<|c_seq ?_
 refine c_cut (ι:=(List Int)×(List ByteArray)×(List GAnchor)×Int×(List GFlush)×Option Addr×Nat×Option Addr×Nat×Option Addr×Nat×Option Addr×Nat) [4,7] (fun ⟨l664,l668,l672,i676,l677,A665,c666,A669,c670,A673,c674,A678,c679⟩=>[]) (fun ⟨l664,l668,l672,i676,l677,A665,c666,A669,c670,A673,c674,A678,c679⟩=>⟨w0,M,(100070,g22,.cells #[.slice A665 l664.length c666,.slice A669 l668.length c670,.slice A673 l672.length c674,Vi i676,.slice A678 l677.length c679] 30 (0,0))::(100040,g3,.cells #[V0,V0,V0,Vi 0,V0] 30 (0,0))::H,R,fun W=>φ21 W∧Cl W A665 (l664.flatMap (fun x : Int=>[Value.int .i64 x]))∧Cl W A669 (l668.flatMap (fun x : ByteArray=>[Value.string x]))∧Cl W A673 (l672.flatMap GAnchor.enc)∧Cl W A678 (l677.flatMap GFlush.enc)⟩) (fun ⟨l664,l668,l672,i676,l677,A665,c666,A669,c670,A673,c674,A678,c679⟩=>m_ref13_Apply_j1 l664 l668 l672 i676 l677 = some r∧l664.length ≤ c666∧l668.length ≤ c670∧l672.length ≤ c674∧l677.length ≤ c679) ?_ (fun ⟨l664,l668,l672,i676,l677,A665,c666,A669,c670,A673,c674,A678,c679⟩ u ⟨hm,hc666,hc670,hc674,hc679⟩=>?_)
 ·
  refine c_seq<|c_region<|g_v rfl (r_field (n:=0) Tryz.underlying32 rfl Tryz.sizeOf3 rfl rfl)<|g_v rfl (r_load (tag:=100030) rfl rfl rfl Tryz.isAgg3)<|g_nil<|d_then<|c_block<|c_seq ?_
  refine c_cut (ι:=Bool) [2,3,4,7,8,31,88] (fun b683=>[(88,.bool b683)]) (fun b683=>⟨w0,M,(100070,g22,.cells #[.slice A9 x7.fRing.length c10,.slice A12 x7.fHints.length c13,.slice A15 x7.fAnchors.length c16,Vi x7.fEpoch,.slice A18 x7.fFlushes.length c19] 30 (0,0))::(100040,g3,.cells #[V0,V0,V0,Vi 0,V0] 30 (0,0))::(100030,g2,.cells #[Vi p1.fKind,Vi p1.fNode,Vs p1.fName,Vs p1.fText,Vs p1.fZone,.slice Ap1_0 p1.fHints.length cp1_0] 32 (0,0))::(100020,g1,.cells #[.slice Ap0_0 p0.fRing.length cp0_0,.slice Ap0_1 p0.fHints.length cp0_1,.slice Ap0_2 p0.fAnchors.length cp0_2,Vi p0.fEpoch,.slice Ap0_3 p0.fFlushes.length cp0_3] 30 (0,0))::H,R,φ21⟩) (fun b683=>m_ref13_Apply_j2 x23 p1 p0 x7 b683 = some r) ?_ (fun b683 u hm=>?_)
  ·
   refine c_seq<|c_region<|g_v rfl (r_eql rfl rfl)<|g_v rfl r_assign<|g_nil<|d_then ?_
   refine c_cond rfl (fun h1687=>?_) (fun h1687=>?_)
   ·
    replace hm:=ite_t hm (of_decide_eq_true h1687)
    refine c_skip ?_
    exact d_round (decide (p1.fKind = 1)) hm Nat.zero_lt_one ⟨rfl,rfl,rfl,rfl,rfl,rfl,rfl,trivial⟩ (fun W h=>h.phi (fun W hφ=>hφ))
   replace hm:=ite_f hm (of_decide_eq_false h1687)
   refine c_region<|g_v rfl (r_eql rfl rfl)<|g_v rfl r_assign<|g_nil ?_
   exact d_round (decide (p1.fKind = 2)) hm Nat.zero_lt_one ⟨rfl,rfl,rfl,rfl,rfl,rfl,rfl,trivial⟩ (fun W h=>h.phi (fun W hφ=>hφ))
  unfold m_ref13_Apply_j2 at hm
  refine d_flat [(2,Vp g1),(3,Vp g2),(4,Vp g3),(7,Vp g22),(8,.bool x23),(31,Vi p1.fKind),(88,.bool b683)] ⟨rfl,rfl,rfl,rfl,rfl,rfl,rfl,trivial⟩ (fun u=>?_)
  refine d_then ?_
  refine c_cond rfl (fun h684=>?_) (fun h684=>?_)
  ·
   replace hm:=ite_t hm h684
   refine c_seq<|c_seq<|c_region<|g_v rfl r_move<|g_v rfl (r_field (n:=0) Tryz.underlying32 rfl Tryz.sizeOf3 rfl rfl)<|g_v rfl (r_load (tag:=100030) rfl rfl rfl Tryz.isAgg3)<|g_v rfl (r_eql rfl rfl)<|g_v rfl (r_eqlBo Tryz.underlying4 rfl rfl)<|g_nil<|d_then ?_
   refine c_cond rfl (fun h685=>?_) (fun h685=>?_)
   ·
    replace hm:=ite_t hm h685
    refine c_seq<|c_region<|g_v rfl (r_loadA (tag:=100020) rfl rfl Tryz.isAgg30 Tryz.sizeOf30 rfl rfl)<|g_storeL (tag:=100040) rfl rfl rfl rfl Tryz.sizeOf30 rfl rfl<|g_v rfl r_assign<|g_nil<|d_then<|c_ret<|d_ret_then<|d_ret_block ?_
    refine d_ret_then<|d_ret_then ?_
    cases hm
    exact d_retC (Ap0_0,cp0_0,Ap0_1,cp0_1,Ap0_2,cp0_2,Ap0_3,cp0_3) Tryz.results11 (res_agg (tag:=100040) rfl rfl Tryz.isAgg30 Tryz.sizeOf30 (res_tmp (res_nil rfl))) ⟨hcp0_0,hcp0_1,hcp0_2,hcp0_3⟩ (fun W h=>ok_pre (H1:=[_,_,_,_]) (R1:=[]) h (fun W hφ=>⟨(q21 _ hφ),(fun W h=>fp0_0 W (q21 _ h)) W hφ,(fun W h=>fp0_1 W (q21 _ h)) W hφ,(fun W h=>fp0_2 W (q21 _ h)) W hφ,(fun W h=>fp0_3 W (q21 _ h)) W hφ⟩)) (.inr rfl)
   replace hm:=ite_f hm (bool_nt h685)
   refine c_skip<|d_then<|c_seq<|c_region<|g_v rfl (r_field (n:=0) Tryz.underlying30 rfl Tryz.sizeOf25 rfl rfl)<|g_storeL (tag:=100070) rfl rfl rfl rfl Tryz.sizeOf25 rfl rfl<|g_nil<|d_then<|c_seq<|c_region ?_
   refine g_v rfl r_assign<|g_nil<|d_then<|c_block<|c_sta _ (fun W h=>nilR h 24 3 1) ?_
   replace hm:=bnd hm
   obtain ⟨out3,hl3,hr3⟩:=hm
   obtain ⟨n723',hl3⟩:=loop_lp hl3
   refine c_loopU (ι:=Nat×(List Int)×Int×Option Addr×Nat) [2,3,4,7,9] (fun ⟨n723,l705,i708,A706,c707⟩=>[(9,Vi i708)]) (fun ⟨n723,l705,i708,A706,c707⟩=>⟨w0,M,(100070,g22,.cells #[.slice A706 l705.length c707,.slice A12 x7.fHints.length c13,.slice A15 x7.fAnchors.length c16,Vi x7.fEpoch,.slice A18 x7.fFlushes.length c19] 30 (0,0))::(100040,g3,.cells #[V0,V0,V0,Vi 0,V0] 30 (0,0))::(100030,g2,.cells #[Vi p1.fKind,Vi p1.fNode,Vs p1.fName,Vs p1.fText,Vs p1.fZone,.slice Ap1_0 p1.fHints.length cp1_0] 32 (0,0))::(100020,g1,.cells #[.slice Ap0_0 p0.fRing.length cp0_0,.slice Ap0_1 p0.fHints.length cp0_1,.slice Ap0_2 p0.fAnchors.length cp0_2,Vi p0.fEpoch,.slice Ap0_3 p0.fFlushes.length cp0_3] 30 (0,0))::H,(24,⟨.slice A706 l705.length c707,3,1,l705.length,l705.flatMap (fun x : Int=>[Value.int .i64 x])⟩)::R,φ21⟩) (fun ⟨n723,l705,i708,A706,c707⟩=>Lp (fun s=>m_ref13_Apply_s3 p0 p1 x7 s.1 s.2) n723 (l705,i708) out3∧l705.length ≤ c707) (fun ⟨n723,l705,i708,A706,c707⟩=>n723) (n723',([] : List Int),0,none,0) ⟨hl3,(Nat.le_refl 0)⟩ ⟨rfl,rfl,rfl,rfl,rfl,trivial⟩ (fun W h=>h.phi (fun W hφ=>hφ)) (fun ⟨n723,l705,i708,A706,c707⟩ u ⟨hlp,hc707⟩=>?_)
   obtain ⟨o3,hm,hnx3⟩:=lp_step hlp
   clear hlp
   replace hm : m_ref13_Apply_s3 p0 p1 x7 l705 i708 = some o3:=hm
   unfold m_ref13_Apply_s3 at hm
   refine c_flat [(2,Vp g1),(3,Vp g2),(4,Vp g3),(7,Vp g22),(9,Vi i708)] ⟨rfl,rfl,rfl,rfl,rfl,trivial⟩ (fun u=>?_)
   refine c_sta ⟨w0,M,(100070,g22,.cells #[.slice A706 l705.length c707,.slice A12 x7.fHints.length c13,.slice A15 x7.fAnchors.length c16,Vi x7.fEpoch,.slice A18 x7.fFlushes.length c19] 30 (0,0))::(100040,g3,.cells #[V0,V0,V0,Vi 0,V0] 30 (0,0))::(100030,g2,.cells #[Vi p1.fKind,Vi p1.fNode,Vs p1.fName,Vs p1.fText,Vs p1.fZone,.slice Ap1_0 p1.fHints.length cp1_0] 32 (0,0))::(100020,g1,.cells #[.slice Ap0_0 p0.fRing.length cp0_0,.slice Ap0_1 p0.fHints.length cp0_1,.slice Ap0_2 p0.fAnchors.length cp0_2,Vi p0.fEpoch,.slice Ap0_3 p0.fFlushes.length cp0_3] 30 (0,0))::H,(24,⟨.slice A706 l705.length c707,3,1,l705.length,l705.flatMap (fun x : Int=>[Value.int .i64 x])⟩)::R,φ21⟩ (fun _ h=>h)<|c_seq<|c_seq<|c_region<|g_v rfl r_move<|g_v rfl (r_lss rfl rfl)<|g_nil<|d_then ?_
   refine c_cond rfl (fun h724=>?_) (fun h724=>?_)
   ·
    replace hm:=ite_t hm (of_decide_eq_true h724)
    refine c_skip<|d_then<|c_seq<|c_block<|c_seq<|c_region<|g_v rfl (r_field (n:=0) Tryz.underlying30 rfl Tryz.sizeOf25 rfl rfl)<|g_v rfl (r_load (tag:=100020) rfl rfl rfl Tryz.isAgg25)<|g_v rfl r_move ?_
    replace hm:=bnd hm
    obtain ⟨x725,hx726,hm⟩:=hm
    refine g_cn ⟨w0,M,_,_,φ21⟩ (fun _ h=>h) Tryz.call41 rfl rfl (c_ref13_in p0.fRing Ap0_0 cp0_0 hcp0_0 (fun W hS=>fp0_0 W (q21 _ hS.now)) i708 _ hx726) (fun _ _=>?_)
    refine g_v rfl r_assign<|g_nil<|d_then<|c_seq<|c_region<|g_v rfl r_move<|g_v rfl r_move<|g_v rfl (r_field (n:=1) Tryz.underlying32 rfl Tryz.sizeOf3 rfl rfl)<|g_v rfl (r_load (tag:=100030) rfl rfl rfl Tryz.isAgg3)<|g_v rfl (r_eql rfl rfl) ?_
    refine g_v rfl (r_neqBo Tryz.underlying4 rfl rfl)<|g_nil<|d_then ?_
    refine c_flat [(2,Vp g1),(3,Vp g2),(4,Vp g3),(7,Vp g22),(9,Vi i708),(111,.bool (!(x725 == (decide (i708 = p1.fNode)))))] ⟨rfl,rfl,rfl,rfl,rfl,rfl,trivial⟩ (fun u=>?_)
    refine c_cond rfl (fun h727=>?_) (fun h727=>?_)
    ·
     replace hm:=ite_t hm h727
     refine c_region<|g_v rfl (r_field (n:=0) Tryz.underlying30 rfl Tryz.sizeOf25 rfl rfl)<|g_v rfl (r_load (tag:=100070) rfl rfl rfl Tryz.isAgg25)<|g_v rfl r_move ?_
     refine g_e rfl (e_lit (tag:=101150) (l:=[i708]) (enc:=(fun x : Int=>[Value.int .i64 x])) (sz:=1) rfl Tryz.underlying25 (lit3_18 _) rfl rfl (fun _=>rfl)) (fun g728 _=>?_)
     replace hm:=bnd hm
     obtain ⟨l729,hl729,hm⟩:=hm
     refine g_e rfl (e_appR (enc:=(fun x : Int=>[Value.int .i64 x])) (l:=l705) (l1:=[i708]) (l2:=l729) (tag:=24) Tryz.underlying25 inf3_11 rfl (by decide) (by decide) (fun _=>rfl) (fun _=>rfl) rfl hc707 rfl rfl (fun W hS=>rowCl (tag:=101150) rfl W hS) hl729) (fun ⟨A730,c731⟩ hc731=>?_)
     refine g_v rfl (r_field (n:=0) Tryz.underlying30 rfl Tryz.sizeOf25 rfl rfl)<|g_storeL (tag:=100070) rfl rfl rfl rfl Tryz.sizeOf25 rfl rfl<|g_nil<|d_normal_block<|d_then<|c_region<|g_v rfl r_move<|g_v rfl (r_add rfl rfl rfl)<|g_v rfl r_assign<|g_nil ?_
     obtain ⟨n732,hn732,hlp⟩:=nx_inl hm hnx3
     exact d_round (n732,l729,w64 (i708 + 1),A730,c731) ⟨hlp,hc731⟩ hn732 ⟨rfl,rfl,rfl,rfl,rfl,trivial⟩ (fun W h=>(h.dropR (t:=101150) rfl).phi (fun W hφ=>hφ))
    replace hm:=ite_f hm (bool_nt h727)
    refine c_skip<|d_normal_block<|d_then<|c_region<|g_v rfl r_move<|g_v rfl (r_add rfl rfl rfl)<|g_v rfl r_assign<|g_nil ?_
    obtain ⟨n733,hn733,hlp⟩:=nx_inl hm hnx3
    exact d_round (n733,l705,w64 (i708 + 1),A706,c707) ⟨hlp,hc707⟩ hn733 ⟨rfl,rfl,rfl,rfl,rfl,trivial⟩ (fun W h=>h.phi (fun W hφ=>hφ))
   replace hm:=ite_f hm (of_decide_eq_false h724)
   refine c_exit<|d_exit_then<|d_exit_then<|d_exit_block<|d_normal_block ?_
   refine d_shut (tag:=24) rfl (fun φ734 q734'=>?_)
   have q734 : ∀ W,φ734 W→φ21 W:=fun W h=>(q734' W h).1
   have f735:=fun (W : World) (h : φ734 W)=>(q734' W h).2
   replace hm:=nx_out (C:=(fun e : (List Int)×(List ByteArray)×(List GAnchor)×Int×(List GFlush)=>m_ref13_Apply_j1 e.1 e.2.1 e.2.2.1 e.2.2.2.1 e.2.2.2.2 = some r)) hm hnx3 hr3
   exact d_round (l705,x7.fHints,x7.fAnchors,x7.fEpoch,x7.fFlushes,A706,c707,A12,c13,A15,c16,A18,c19) ⟨hm,hc707,hc13,hc16,hc19⟩ Nat.zero_lt_one ⟨rfl,rfl,trivial⟩ (fun W h=>((h.dropH (t:=100030) rfl).dropH (t:=100020) rfl).phi (fun W hφ=>⟨(q734 _ hφ),(fun W h=>f735 W h) W hφ,(fun W h=>f14 W (q734 _ h)) W hφ,(fun W h=>f17 W (q734 _ h)) W hφ,(fun W h=>f20 W (q734 _ h)) W hφ⟩))
  replace hm:=ite_f hm (bool_nt h684)
  refine c_seq<|c_region<|g_v rfl (r_eql rfl rfl)<|g_v rfl r_assign<|g_nil<|d_then ?_
  refine c_cond rfl (fun h736=>?_) (fun h736=>?_)
  ·
   replace hm:=ite_t hm (of_decide_eq_true h736)
   refine c_seq<|c_region<|g_v rfl (r_field (n:=1) Tryz.underlying30 rfl Tryz.sizeOf26 rfl rfl)<|g_storeL (tag:=100070) rfl rfl rfl rfl Tryz.sizeOf26 rfl rfl<|g_nil<|d_then<|c_region<|g_v rfl (r_field (n:=1) Tryz.underlying30 rfl Tryz.sizeOf26 rfl rfl)<|g_v rfl (r_load (tag:=100070) rfl rfl rfl Tryz.isAgg26)<|g_v rfl (r_field (n:=5) Tryz.underlying32 rfl Tryz.sizeOf26 rfl rfl) ?_
   refine g_v rfl (r_load (tag:=100030) rfl rfl rfl Tryz.isAgg26)<|g_sta _ (fun W h=>nilR h 25 9 1) ?_
   replace hm:=bnd hm
   obtain ⟨l737,hl737,hm⟩:=hm
   refine g_e rfl (e_appR (enc:=(fun x : ByteArray=>[Value.string x])) (l:=[]) (l1:=p1.fHints) (l2:=l737) (tag:=25) Tryz.underlying26 inf9_3 rfl (by decide) (by decide) (fun _=>rfl) (fun _=>rfl) rfl (Nat.le_refl 0) rfl rfl (fun W hS=>fp1_0 W (ok_pre (H1:=[_,_,_,_]) (R1:=[_]) hS (fun W h=>(q21 _ h)))) hl737) (fun ⟨A738,c739⟩ hc739=>?_)
   refine g_v rfl (r_field (n:=1) Tryz.underlying30 rfl Tryz.sizeOf26 rfl rfl)<|g_storeL (tag:=100070) rfl rfl rfl rfl Tryz.sizeOf26 rfl rfl<|g_nil<|d_normal_block ?_
   refine d_shut (tag:=25) rfl (fun φ740 q740'=>?_)
   have q740 : ∀ W,φ740 W→φ21 W:=fun W h=>(q740' W h).1
   have f741:=fun (W : World) (h : φ740 W)=>(q740' W h).2
   exact d_round (x7.fRing,l737,x7.fAnchors,x7.fEpoch,x7.fFlushes,A9,c10,A738,c739,A15,c16,A18,c19) ⟨hm,hc10,hc739,hc16,hc19⟩ Nat.zero_lt_one ⟨rfl,rfl,trivial⟩ (fun W h=>((h.dropH (t:=100030) rfl).dropH (t:=100020) rfl).phi (fun W hφ=>⟨(q740 _ hφ),(fun W h=>f11 W (q740 _ h)) W hφ,(fun W h=>f741 W h) W hφ,(fun W h=>f17 W (q740 _ h)) W hφ,(fun W h=>f20 W (q740 _ h)) W hφ⟩))
  replace hm:=ite_f hm (of_decide_eq_false h736)
  refine c_seq<|c_region<|g_v rfl (r_eql rfl rfl)<|g_v rfl r_assign<|g_nil<|d_then ?_
  refine c_cond rfl (fun h742=>?_) (fun h742=>?_)
  ·
   replace hm:=ite_t hm (of_decide_eq_true h742)
   refine c_seq<|c_region<|g_v rfl (r_field (n:=2) Tryz.underlying30 rfl Tryz.sizeOf27 rfl rfl)<|g_storeL (tag:=100070) rfl rfl rfl rfl Tryz.sizeOf27 rfl rfl<|g_nil<|d_then<|c_seq<|c_region<|g_v rfl (r_field (n:=3) Tryz.underlying32 rfl Tryz.sizeOf9 rfl rfl)<|g_v rfl (r_load (tag:=100030) rfl rfl rfl Tryz.isAgg9) ?_
   refine g_v rfl (r_eqlT rfl rfl)<|g_v rfl r_assign<|g_nil<|d_then ?_
   refine c_flat [(2,Vp g1),(3,Vp g2),(4,Vp g3),(7,Vp g22),(11,.bool (decide (p1.fText = eB)))] ⟨rfl,rfl,rfl,rfl,rfl,trivial⟩ (fun u=>?_)
   refine c_sta ⟨w0,M,(100070,g22,.cells #[.slice A9 x7.fRing.length c10,.slice A12 x7.fHints.length c13,V0,Vi x7.fEpoch,.slice A18 x7.fFlushes.length c19] 30 (0,0))::(100040,g3,.cells #[V0,V0,V0,Vi 0,V0] 30 (0,0))::(100030,g2,.cells #[Vi p1.fKind,Vi p1.fNode,Vs p1.fName,Vs p1.fText,Vs p1.fZone,.slice Ap1_0 p1.fHints.length cp1_0] 32 (0,0))::(100020,g1,.cells #[.slice Ap0_0 p0.fRing.length cp0_0,.slice Ap0_1 p0.fHints.length cp0_1,.slice Ap0_2 p0.fAnchors.length cp0_2,Vi p0.fEpoch,.slice Ap0_3 p0.fFlushes.length cp0_3] 30 (0,0))::H,R,φ21⟩ (fun _ h=>h)<|c_seq<|c_seq<|c_region<|g_v rfl r_assign<|g_nil<|d_then<|c_sta _ (fun W h=>nilR h 29 55 2) ?_
   refine c_cut (ι:=(List GAnchor)×Bool×Option Addr×Nat) [2,3,4,7,11] (fun ⟨l1034,b1037,A1035,c1036⟩=>[(11,.bool b1037)]) (fun ⟨l1034,b1037,A1035,c1036⟩=>⟨w0,M,(100070,g22,.cells #[.slice A9 x7.fRing.length c10,.slice A12 x7.fHints.length c13,.slice A1035 l1034.length c1036,Vi x7.fEpoch,.slice A18 x7.fFlushes.length c19] 30 (0,0))::(100040,g3,.cells #[V0,V0,V0,Vi 0,V0] 30 (0,0))::(100030,g2,.cells #[Vi p1.fKind,Vi p1.fNode,Vs p1.fName,Vs p1.fText,Vs p1.fZone,.slice Ap1_0 p1.fHints.length cp1_0] 32 (0,0))::(100020,g1,.cells #[.slice Ap0_0 p0.fRing.length cp0_0,.slice Ap0_1 p0.fHints.length cp0_1,.slice Ap0_2 p0.fAnchors.length cp0_2,Vi p0.fEpoch,.slice Ap0_3 p0.fFlushes.length cp0_3] 30 (0,0))::H,(29,⟨.slice A1035 l1034.length c1036,55,2,l1034.length,l1034.flatMap GAnchor.enc⟩)::R,φ21⟩) (fun ⟨l1034,b1037,A1035,c1036⟩=>m_ref13_Apply_j4 p0 x7 p1 l1034 b1037 = some r∧l1034.length ≤ c1036) ?_ (fun ⟨l1034,b1037,A1035,c1036⟩ u ⟨hm,hc1036⟩=>?_)
   ·
    refine c_block ?_
    replace hm:=bnd hm
    obtain ⟨out6,hl6,hr6⟩:=hm
    obtain ⟨n1163',hl6⟩:=loop_lp hl6
    refine c_loopU (ι:=Nat×(List GAnchor)×Bool×Int×Option Addr×Nat) [2,3,4,7,11,12] (fun ⟨n1163,l1106,b1109,i1110,A1107,c1108⟩=>[(11,.bool b1109),(12,Vi i1110)]) (fun ⟨n1163,l1106,b1109,i1110,A1107,c1108⟩=>⟨w0,M,(100070,g22,.cells #[.slice A9 x7.fRing.length c10,.slice A12 x7.fHints.length c13,.slice A1107 l1106.length c1108,Vi x7.fEpoch,.slice A18 x7.fFlushes.length c19] 30 (0,0))::(100040,g3,.cells #[V0,V0,V0,Vi 0,V0] 30 (0,0))::(100030,g2,.cells #[Vi p1.fKind,Vi p1.fNode,Vs p1.fName,Vs p1.fText,Vs p1.fZone,.slice Ap1_0 p1.fHints.length cp1_0] 32 (0,0))::(100020,g1,.cells #[.slice Ap0_0 p0.fRing.length cp0_0,.slice Ap0_1 p0.fHints.length cp0_1,.slice Ap0_2 p0.fAnchors.length cp0_2,Vi p0.fEpoch,.slice Ap0_3 p0.fFlushes.length cp0_3] 30 (0,0))::H,(29,⟨.slice A1107 l1106.length c1108,55,2,l1106.length,l1106.flatMap GAnchor.enc⟩)::R,φ21⟩) (fun ⟨n1163,l1106,b1109,i1110,A1107,c1108⟩=>Lp (fun s=>m_ref13_Apply_s6 p0 p1 s.1 s.2.1 s.2.2) n1163 (l1106,b1109,i1110) out6∧l1106.length ≤ c1108) (fun ⟨n1163,l1106,b1109,i1110,A1107,c1108⟩=>n1163) (n1163',([] : List GAnchor),decide (p1.fText = eB),0,none,0) ⟨hl6,(Nat.le_refl 0)⟩ ⟨rfl,rfl,rfl,rfl,rfl,rfl,trivial⟩ (fun W h=>h.phi (fun W hφ=>hφ)) (fun ⟨n1163,l1106,b1109,i1110,A1107,c1108⟩ u ⟨hlp,hc1108⟩=>?_)
    obtain ⟨o6,hm,hnx6⟩:=lp_step hlp
    clear hlp
    replace hm : m_ref13_Apply_s6 p0 p1 l1106 b1109 i1110 = some o6:=hm
    unfold m_ref13_Apply_s6 at hm
    refine c_flat [(2,Vp g1),(3,Vp g2),(4,Vp g3),(7,Vp g22),(11,.bool b1109),(12,Vi i1110)] ⟨rfl,rfl,rfl,rfl,rfl,rfl,trivial⟩ (fun u=>?_)
    refine c_sta ⟨w0,M,(100070,g22,.cells #[.slice A9 x7.fRing.length c10,.slice A12 x7.fHints.length c13,.slice A1107 l1106.length c1108,Vi x7.fEpoch,.slice A18 x7.fFlushes.length c19] 30 (0,0))::(100040,g3,.cells #[V0,V0,V0,Vi 0,V0] 30 (0,0))::(100030,g2,.cells #[Vi p1.fKind,Vi p1.fNode,Vs p1.fName,Vs p1.fText,Vs p1.fZone,.slice Ap1_0 p1.fHints.length cp1_0] 32 (0,0))::(100020,g1,.cells #[.slice Ap0_0 p0.fRing.length cp0_0,.slice Ap0_1 p0.fHints.length cp0_1,.slice Ap0_2 p0.fAnchors.length cp0_2,Vi p0.fEpoch,.slice Ap0_3 p0.fFlushes.length cp0_3] 30 (0,0))::H,(29,⟨.slice A1107 l1106.length c1108,55,2,l1106.length,l1106.flatMap GAnchor.enc⟩)::R,φ21⟩ (fun _ h=>h)<|c_seq<|c_seq<|c_region<|g_v rfl r_move<|g_v rfl (r_field (n:=2) Tryz.underlying30 rfl Tryz.sizeOf27 rfl rfl)<|g_v rfl (r_load (tag:=100020) rfl rfl rfl Tryz.isAgg27)<|g_v rfl (r_lenL Tryz.underlying27 rfl)<|g_v rfl (r_lss rfl rfl)<|g_nil ?_
    refine d_then ?_
    refine c_cond rfl (fun h1164=>?_) (fun h1164=>?_)
    ·
     replace hm:=ite_t hm (of_decide_eq_true h1164)
     refine c_skip<|d_then<|c_seq<|c_block<|c_seq<|c_region<|g_v rfl (r_field (n:=2) Tryz.underlying30 rfl Tryz.sizeOf27 rfl rfl)<|g_v rfl (r_load (tag:=100020) rfl rfl rfl Tryz.isAgg27)<|g_v rfl r_move ?_
     replace hm:=bnd hm
     obtain ⟨x1165,hx1165,hm⟩:=hm
     refine g_know _ (fun W hS=>cl_at (p:=φ) (sz:=2) (fun _=>rfl) (by decide) (q21 _ hS.now) fp0_2 hx1165) ?_
     rintro ⟨ad1166,hA1168,f1167⟩
     refine g_v rfl (r_ix Tryz.underlying27 Tryz.sizeOf55 rfl hA1168 rfl hx1165)<|g_v rfl (r_ldA rfl Tryz.isAgg55 Tryz.sizeOf55 (fun W hS=>(f1167 W (q21 _ hS.now)).take 2) rfl) ?_
     refine g_e rfl (e_alloc 100130 Tryz.zeroValue55) (fun g1169 _=>?_)
     refine g_storeL (tag:=100130) rfl rfl rfl rfl Tryz.sizeOf55 rfl rfl<|g_nil<|d_then ?_
     refine c_flat [(2,Vp g1),(3,Vp g2),(4,Vp g3),(7,Vp g22),(11,.bool b1109),(12,Vi i1110),(13,Vp g1169)] ⟨rfl,rfl,rfl,rfl,rfl,rfl,rfl,trivial⟩ (fun u=>?_)
     refine c_sta ⟨w0,M,(100130,g1169,.cells #[Vs x1165.fName,Vs x1165.fText] 55 (0,0))::(100070,g22,.cells #[.slice A9 x7.fRing.length c10,.slice A12 x7.fHints.length c13,.slice A1107 l1106.length c1108,Vi x7.fEpoch,.slice A18 x7.fFlushes.length c19] 30 (0,0))::(100040,g3,.cells #[V0,V0,V0,Vi 0,V0] 30 (0,0))::(100030,g2,.cells #[Vi p1.fKind,Vi p1.fNode,Vs p1.fName,Vs p1.fText,Vs p1.fZone,.slice Ap1_0 p1.fHints.length cp1_0] 32 (0,0))::(100020,g1,.cells #[.slice Ap0_0 p0.fRing.length cp0_0,.slice Ap0_1 p0.fHints.length cp0_1,.slice Ap0_2 p0.fAnchors.length cp0_2,Vi p0.fEpoch,.slice Ap0_3 p0.fFlushes.length cp0_3] 30 (0,0))::H,(29,⟨.slice A1107 l1106.length c1108,55,2,l1106.length,l1106.flatMap GAnchor.enc⟩)::R,φ21⟩ (fun _ h=>h)<|c_seq<|c_seq<|ga_start (n:=7) ⟨w0,M,(100130,g1169,.cells #[Vs x1165.fName,Vs x1165.fText] 55 (0,0))::(100070,g22,.cells #[.slice A9 x7.fRing.length c10,.slice A12 x7.fHints.length c13,.slice A1107 l1106.length c1108,Vi x7.fEpoch,.slice A18 x7.fFlushes.length c19] 30 (0,0))::(100040,g3,.cells #[V0,V0,V0,Vi 0,V0] 30 (0,0))::(100030,g2,.cells #[Vi p1.fKind,Vi p1.fNode,Vs p1.fName,Vs p1.fText,Vs p1.fZone,.slice Ap1_0 p1.fHints.length cp1_0] 32 (0,0))::(100020,g1,.cells #[.slice Ap0_0 p0.fRing.length cp0_0,.slice Ap0_1 p0.fHints.length cp0_1,.slice Ap0_2 p0.fAnchors.length cp0_2,Vi p0.fEpoch,.slice Ap0_3 p0.fFlushes.length cp0_3] 30 (0,0))::H,(29,⟨.slice A1107 l1106.length c1108,55,2,l1106.length,l1106.flatMap GAnchor.enc⟩)::R,φ21⟩ [] #[false,false,false,false,false,false,false] (fun W h=>h.phi (fun W hφ=>hφ)) mixed rfl rfl<|ga_v (i:=0) (bz 7 1) rfl (by kernel_rfl) (fun _ _ _ _ h=>h) rfl (r_field (n:=0) Tryz.underlying55 rfl Tryz.sizeOf9 rfl rfl)<|ga_v (i:=1) (bz 7 3) rfl (by kernel_rfl) (fun _ _ _ _ h=>h) rfl (r_load (tag:=100130) rfl rfl rfl Tryz.isAgg9)<|ga_v (i:=3) (bz 7 11) rfl (by kernel_rfl) (fun _ _ _ _ h=>h) rfl (r_field (n:=2) Tryz.underlying32 rfl Tryz.sizeOf9 rfl rfl)<|ga_v (i:=4) (bz 7 27) rfl (by kernel_rfl) (fun _ _ _ _ h=>h) rfl (r_load (tag:=100030) rfl rfl rfl Tryz.isAgg9) ?_
     replace hm:=bnd hm
     obtain ⟨x1178,hx1179,hm⟩:=hm
     refine ga_cn (first:=#[]) (i:=2) (bz 7 31) rfl (by kernel_rfl) (by decide)  ⟨w0,M,_,_,φ21⟩ (fun _ h=>h) Tryz.call42 rfl rfl rfl (c_ref03_Lower x1165.fName _ hx1179) (fun _ W _ h=>h.phi (fun W hφ=>hφ)) (fun _ _=>?_)
     replace hm:=bnd hm
     obtain ⟨x1180,hx1181,hm⟩:=hm
     refine ga_cn (first:=#[]) (i:=5) (bz 7 63) rfl (by kernel_rfl) (by decide)  ⟨w0,M,_,_,φ21⟩ (fun _ h=>h) Tryz.call42 rfl rfl rfl (c_ref03_Lower p1.fName _ hx1181) (fun _ W _ h=>h.phi (fun W hφ=>hφ)) (fun _ _=>?_)
     refine ga_r (i:=6) (bz 7 127) rfl (by kernel_rfl) (by decide) rfl (r_eqlT rfl rfl)<|ga_done (by kernel_rfl)<|d_then ?_
     refine c_cond rfl (fun h1182=>?_) (fun h1182=>?_)
     ·
      replace hm:=ite_t hm (of_decide_eq_true h1182)
      refine c_exit<|d_exit_then<|d_exit_block<|d_then<|c_region<|g_v rfl r_move<|g_v rfl (r_add rfl rfl rfl)<|g_v rfl r_assign<|g_nil ?_
      obtain ⟨n1183,hn1183,hlp⟩:=nx_inl hm hnx6
      exact d_round (n1183,l1106,b1109,w64 (i1110 + 1),A1107,c1108) ⟨hlp,hc1108⟩ hn1183 ⟨rfl,rfl,rfl,rfl,rfl,rfl,trivial⟩ (fun W h=>(h.dropH (t:=100130) rfl).phi (fun W hφ=>hφ))
     replace hm:=ite_f hm (of_decide_eq_false h1182)
     refine c_skip<|d_then<|c_seq ?_
     refine c_cut (ι:=(List GAnchor)×Bool×Option Addr×Nat) [2,3,4,7,11,12,13] (fun ⟨l1204,b1207,A1205,c1206⟩=>[(11,.bool b1207)]) (fun ⟨l1204,b1207,A1205,c1206⟩=>⟨w0,M,(100130,g1169,.cells #[Vs x1165.fName,Vs x1165.fText] 55 (0,0))::(100070,g22,.cells #[.slice A9 x7.fRing.length c10,.slice A12 x7.fHints.length c13,.slice A1205 l1204.length c1206,Vi x7.fEpoch,.slice A18 x7.fFlushes.length c19] 30 (0,0))::(100040,g3,.cells #[V0,V0,V0,Vi 0,V0] 30 (0,0))::(100030,g2,.cells #[Vi p1.fKind,Vi p1.fNode,Vs p1.fName,Vs p1.fText,Vs p1.fZone,.slice Ap1_0 p1.fHints.length cp1_0] 32 (0,0))::(100020,g1,.cells #[.slice Ap0_0 p0.fRing.length cp0_0,.slice Ap0_1 p0.fHints.length cp0_1,.slice Ap0_2 p0.fAnchors.length cp0_2,Vi p0.fEpoch,.slice Ap0_3 p0.fFlushes.length cp0_3] 30 (0,0))::H,(29,⟨.slice A1205 l1204.length c1206,55,2,l1204.length,l1204.flatMap GAnchor.enc⟩)::R,φ21⟩) (fun ⟨l1204,b1207,A1205,c1206⟩=>m_ref13_Apply_j7 x1165 i1110 l1204 b1207 = some o6∧l1204.length ≤ c1206) ?_ (fun ⟨l1204,b1207,A1205,c1206⟩ u ⟨hm,hc1206⟩=>?_)
     ·
      refine c_seq<|ga_start (n:=11) ⟨w0,M,(100130,g1169,.cells #[Vs x1165.fName,Vs x1165.fText] 55 (0,0))::(100070,g22,.cells #[.slice A9 x7.fRing.length c10,.slice A12 x7.fHints.length c13,.slice A1107 l1106.length c1108,Vi x7.fEpoch,.slice A18 x7.fFlushes.length c19] 30 (0,0))::(100040,g3,.cells #[V0,V0,V0,Vi 0,V0] 30 (0,0))::(100030,g2,.cells #[Vi p1.fKind,Vi p1.fNode,Vs p1.fName,Vs p1.fText,Vs p1.fZone,.slice Ap1_0 p1.fHints.length cp1_0] 32 (0,0))::(100020,g1,.cells #[.slice Ap0_0 p0.fRing.length cp0_0,.slice Ap0_1 p0.fHints.length cp0_1,.slice Ap0_2 p0.fAnchors.length cp0_2,Vi p0.fEpoch,.slice Ap0_3 p0.fFlushes.length cp0_3] 30 (0,0))::H,(29,⟨.slice A1107 l1106.length c1108,55,2,l1106.length,l1106.flatMap GAnchor.enc⟩)::R,φ21⟩ [] #[false,false,false,false,false,false,false,false,false,false,false] (fun W h=>h.phi (fun W hφ=>hφ)) mixed rfl rfl<|ga_r (i:=0) (bz 11 1) rfl (by kernel_rfl) (by decide) rfl (r_move)<|ga_r (i:=1) (bz 11 3) rfl (by kernel_rfl) (by decide) rfl (r_not rfl)<|ga_r (i:=2) (bz 11 7) rfl (by kernel_rfl) (by decide) rfl (r_move) ?_
      refine ga_if (t:=154) rfl (fun h1223=>?_) (fun h1223=>?_)
      ·
       have h1223' : b1109 = false:=by revert h1223; cases b1109 <;> simp
       replace hm:=ite_f hm (bool_nt h1223')
       refine ga_do (i:=3) (bz 11 15) rfl (by kernel_rfl) (fun _ _ _ _ h=>h) rfl rfl rfl rfl rfl h1223 (r_field (n:=0) Tryz.underlying55 rfl Tryz.sizeOf9 rfl rfl)<|ga_do (i:=4) (bz 11 31) rfl (by kernel_rfl) (fun _ _ _ _ h=>h) rfl rfl rfl rfl rfl h1223 (r_load (tag:=100130) rfl rfl rfl Tryz.isAgg9)<|ga_do (i:=6) (bz 11 95) rfl (by kernel_rfl) (fun _ _ _ _ h=>h) rfl rfl rfl rfl rfl h1223 (r_field (n:=2) Tryz.underlying32 rfl Tryz.sizeOf9 rfl rfl)<|ga_do (i:=7) (bz 11 223) rfl (by kernel_rfl) (fun _ _ _ _ h=>h) rfl rfl rfl rfl rfl h1223 (r_load (tag:=100030) rfl rfl rfl Tryz.isAgg9) ?_
       replace hm:=bnd hm
       obtain ⟨x1224,hx1225,hm⟩:=hm
       refine ga_cnG (first:=#[]) (i:=5) (bz 11 255) rfl (by kernel_rfl) (by decide) rfl rfl rfl rfl h1223  ⟨w0,M,_,_,φ21⟩ (fun _ h=>h) Tryz.call42 rfl rfl rfl (c_ref03_Lower x1165.fName _ hx1225) (fun _ W _ h=>h.phi (fun W hφ=>hφ)) (fun _ _=>?_)
       replace hm:=bnd hm
       obtain ⟨x1226,hx1227,hm⟩:=hm
       refine ga_cnG (first:=#[]) (i:=8) (bz 11 511) rfl (by kernel_rfl) (by decide) rfl rfl rfl rfl h1223  ⟨w0,M,_,_,φ21⟩ (fun _ h=>h) Tryz.call42 rfl rfl rfl (c_ref03_Lower p1.fName _ hx1227) (fun _ W _ h=>h.phi (fun W hφ=>hφ)) (fun _ _=>?_)
       refine ga_rG (i:=9) (bz 11 1023) rfl (by kernel_rfl) (by decide) rfl rfl rfl rfl rfl h1223 (r_gtrT rfl rfl)<|ga_r (i:=10) (bz 11 2047) rfl (by kernel_rfl) (by decide) rfl (r_pick1 rfl h1223)<|ga_done (by kernel_rfl)<|d_then ?_
       refine c_flat [(2,Vp g1),(3,Vp g2),(4,Vp g3),(7,Vp g22),(11,.bool b1109),(12,Vi i1110),(13,Vp g1169),(162,.bool (!(sless x1224 x1226 || decide (x1224 = x1226))))] ⟨rfl,rfl,rfl,rfl,rfl,rfl,rfl,rfl,trivial⟩ (fun u=>?_)
       refine c_cond rfl (fun h1228=>?_) (fun h1228=>?_)
       ·
        replace hm:=ite_t hm h1228
        refine c_seq<|c_region<|g_v rfl (r_field (n:=2) Tryz.underlying30 rfl Tryz.sizeOf27 rfl rfl)<|g_v rfl (r_load (tag:=100070) rfl rfl rfl Tryz.isAgg27)<|g_v rfl (r_field (n:=2) Tryz.underlying32 rfl Tryz.sizeOf9 rfl rfl)<|g_v rfl (r_load (tag:=100030) rfl rfl rfl Tryz.isAgg9)<|g_v rfl (r_field (n:=3) Tryz.underlying32 rfl Tryz.sizeOf9 rfl rfl)<|g_v rfl (r_load (tag:=100030) rfl rfl rfl Tryz.isAgg9)<|g_v rfl (r_build _ rfl (bld55_19 _ _)) ?_
        refine g_e rfl (e_lit (tag:=101700) (l:=[(⟨p1.fName,p1.fText⟩ : GAnchor)]) (enc:=GAnchor.enc) (sz:=2) rfl Tryz.underlying27 (lit55_20 _ _) rfl rfl (fun _=>rfl)) (fun g1229 _=>?_)
        replace hm:=bnd hm
        obtain ⟨l1230,hl1230,hm⟩:=hm
        refine g_e rfl (e_appR (enc:=GAnchor.enc) (l:=l1106) (l1:=[(⟨p1.fName,p1.fText⟩ : GAnchor)]) (l2:=l1230) (tag:=29) Tryz.underlying27 inf55_14 rfl (by decide) (by decide) (fun _=>rfl) (fun _=>rfl) rfl hc1108 rfl rfl (fun W hS=>rowCl (tag:=101700) rfl W hS) hl1230) (fun ⟨A1231,c1232⟩ hc1232=>?_)
        refine g_v rfl (r_field (n:=2) Tryz.underlying30 rfl Tryz.sizeOf27 rfl rfl)<|g_storeL (tag:=100070) rfl rfl rfl rfl Tryz.sizeOf27 rfl rfl<|g_nil<|d_then ?_
        refine c_flat [(2,Vp g1),(3,Vp g2),(4,Vp g3),(7,Vp g22),(12,Vi i1110),(13,Vp g1169)] ⟨rfl,rfl,rfl,rfl,rfl,rfl,trivial⟩ (fun u=>?_)
        refine c_sta ⟨w0,M,(100130,g1169,.cells #[Vs x1165.fName,Vs x1165.fText] 55 (0,0))::(100070,g22,.cells #[.slice A9 x7.fRing.length c10,.slice A12 x7.fHints.length c13,.slice A1231 l1230.length c1232,Vi x7.fEpoch,.slice A18 x7.fFlushes.length c19] 30 (0,0))::(100040,g3,.cells #[V0,V0,V0,Vi 0,V0] 30 (0,0))::(100030,g2,.cells #[Vi p1.fKind,Vi p1.fNode,Vs p1.fName,Vs p1.fText,Vs p1.fZone,.slice Ap1_0 p1.fHints.length cp1_0] 32 (0,0))::(100020,g1,.cells #[.slice Ap0_0 p0.fRing.length cp0_0,.slice Ap0_1 p0.fHints.length cp0_1,.slice Ap0_2 p0.fAnchors.length cp0_2,Vi p0.fEpoch,.slice Ap0_3 p0.fFlushes.length cp0_3] 30 (0,0))::H,(101700,⟨.slice (some ⟨g1229,0,none⟩) [(⟨p1.fName,p1.fText⟩ : GAnchor)].length 1,55,2,[(⟨p1.fName,p1.fText⟩ : GAnchor)].length,[(⟨p1.fName,p1.fText⟩ : GAnchor)].flatMap GAnchor.enc⟩)::(29,⟨.slice A1231 l1230.length c1232,55,2,l1230.length,l1230.flatMap GAnchor.enc⟩)::R,φ21⟩ (fun _ h=>h)<|c_region<|g_v rfl r_assign<|g_nil ?_
        exact d_round (l1230,true,A1231,c1232) ⟨hm,hc1232⟩ Nat.zero_lt_one ⟨rfl,rfl,rfl,rfl,rfl,rfl,rfl,trivial⟩ (fun W h=>(h.dropR (t:=101700) rfl).phi (fun W hφ=>hφ))
       replace hm:=ite_f hm (bool_nt h1228)
       refine c_skip ?_
       exact d_round (l1106,b1109,A1107,c1108) ⟨hm,hc1108⟩ Nat.zero_lt_one ⟨rfl,rfl,rfl,rfl,rfl,rfl,rfl,trivial⟩ (fun W h=>h.phi (fun W hφ=>hφ))
      have h1223' : b1109 = true:=by revert h1223; cases b1109 <;> simp
      replace hm:=ite_t hm h1223'
      refine ga_no (i:=3) (bz 11 15) rfl (by kernel_rfl) (fun _ _ _ _ h=>h) rfl rfl rfl rfl rfl h1223<|ga_no (i:=4) (bz 11 31) rfl (by kernel_rfl) (fun _ _ _ _ h=>h) rfl rfl rfl rfl rfl h1223<|ga_no (i:=5) (bz 11 63) rfl (by kernel_rfl) (fun _ _ _ _ h=>h) rfl rfl rfl rfl rfl h1223<|ga_no (i:=6) (bz 11 127) rfl (by kernel_rfl) (fun _ _ _ _ h=>h) rfl rfl rfl rfl rfl h1223<|ga_no (i:=7) (bz 11 255) rfl (by kernel_rfl) (fun _ _ _ _ h=>h) rfl rfl rfl rfl rfl h1223<|ga_no (i:=8) (bz 11 511) rfl (by kernel_rfl) (fun _ _ _ _ h=>h) rfl rfl rfl rfl rfl h1223<|ga_no (i:=9) (bz 11 1023) rfl (by kernel_rfl) (fun _ _ _ _ h=>h) rfl rfl rfl rfl rfl h1223<|ga_r (i:=10) (bz 11 2047) rfl (by kernel_rfl) (by decide) rfl (r_pick0 rfl h1223)<|ga_done (by kernel_rfl)<|d_then ?_
      refine c_flat [(2,Vp g1),(3,Vp g2),(4,Vp g3),(7,Vp g22),(11,.bool b1109),(12,Vi i1110),(13,Vp g1169),(162,.bool false)] ⟨rfl,rfl,rfl,rfl,rfl,rfl,rfl,rfl,trivial⟩ (fun u=>?_)
      refine c_cond0 rfl rfl<|c_skip ?_
      exact d_round (l1106,b1109,A1107,c1108) ⟨hm,hc1108⟩ Nat.zero_lt_one ⟨rfl,rfl,rfl,rfl,rfl,rfl,rfl,trivial⟩ (fun W h=>h.phi (fun W hφ=>hφ))
     unfold m_ref13_Apply_j7 at hm
     refine d_flat [(2,Vp g1),(3,Vp g2),(4,Vp g3),(7,Vp g22),(11,.bool b1207),(12,Vi i1110),(13,Vp g1169)] ⟨rfl,rfl,rfl,rfl,rfl,rfl,rfl,trivial⟩ (fun u=>?_)
     refine d_sta ⟨w0,M,(100130,g1169,.cells #[Vs x1165.fName,Vs x1165.fText] 55 (0,0))::(100070,g22,.cells #[.slice A9 x7.fRing.length c10,.slice A12 x7.fHints.length c13,.slice A1205 l1204.length c1206,Vi x7.fEpoch,.slice A18 x7.fFlushes.length c19] 30 (0,0))::(100040,g3,.cells #[V0,V0,V0,Vi 0,V0] 30 (0,0))::(100030,g2,.cells #[Vi p1.fKind,Vi p1.fNode,Vs p1.fName,Vs p1.fText,Vs p1.fZone,.slice Ap1_0 p1.fHints.length cp1_0] 32 (0,0))::(100020,g1,.cells #[.slice Ap0_0 p0.fRing.length cp0_0,.slice Ap0_1 p0.fHints.length cp0_1,.slice Ap0_2 p0.fAnchors.length cp0_2,Vi p0.fEpoch,.slice Ap0_3 p0.fFlushes.length cp0_3] 30 (0,0))::H,(29,⟨.slice A1205 l1204.length c1206,55,2,l1204.length,l1204.flatMap GAnchor.enc⟩)::R,φ21⟩ (fun _ h=>h)<|d_then<|c_region<|g_v rfl (r_field (n:=2) Tryz.underlying30 rfl Tryz.sizeOf27 rfl rfl)<|g_v rfl (r_load (tag:=100070) rfl rfl rfl Tryz.isAgg27)<|g_v rfl (r_loadA (tag:=100130) rfl rfl Tryz.isAgg55 Tryz.sizeOf55 rfl rfl) ?_
     refine g_e rfl (e_lit (tag:=101760) (l:=[x1165]) (enc:=GAnchor.enc) (sz:=2) rfl Tryz.underlying27 (lit55_20 _ _) rfl rfl (fun _=>rfl)) (fun g1208 _=>?_)
     replace hm:=bnd hm
     obtain ⟨l1209,hl1209,hm⟩:=hm
     refine g_e rfl (e_appR (enc:=GAnchor.enc) (l:=l1204) (l1:=[x1165]) (l2:=l1209) (tag:=29) Tryz.underlying27 inf55_14 rfl (by decide) (by decide) (fun _=>rfl) (fun _=>rfl) rfl hc1206 rfl rfl (fun W hS=>rowCl (tag:=101760) rfl W hS) hl1209) (fun ⟨A1210,c1211⟩ hc1211=>?_)
     refine g_v rfl (r_field (n:=2) Tryz.underlying30 rfl Tryz.sizeOf27 rfl rfl)<|g_storeL (tag:=100070) rfl rfl rfl rfl Tryz.sizeOf27 rfl rfl<|g_nil<|d_normal_block<|d_then<|c_region<|g_v rfl r_move<|g_v rfl (r_add rfl rfl rfl)<|g_v rfl r_assign<|g_nil ?_
     obtain ⟨n1212,hn1212,hlp⟩:=nx_inl hm hnx6
     exact d_round (n1212,l1209,b1207,w64 (i1110 + 1),A1210,c1211) ⟨hlp,hc1211⟩ hn1212 ⟨rfl,rfl,rfl,rfl,rfl,rfl,trivial⟩ (fun W h=>((h.dropR (t:=101760) rfl).dropH (t:=100130) rfl).phi (fun W hφ=>hφ))
    replace hm:=ite_f hm (of_decide_eq_false h1164)
    refine c_exit<|d_exit_then<|d_exit_then<|d_exit_block ?_
    replace hm:=nx_out (C:=(fun e : (List GAnchor)×Bool=>m_ref13_Apply_j4 p0 x7 p1 e.1 e.2 = some r)) hm hnx6 hr6
    exact d_round (l1106,b1109,A1107,c1108) ⟨hm,hc1108⟩ Nat.zero_lt_one ⟨rfl,rfl,rfl,rfl,rfl,trivial⟩ (fun W h=>h.phi (fun W hφ=>hφ))
   unfold m_ref13_Apply_j4 at hm
   refine d_flat [(2,Vp g1),(3,Vp g2),(4,Vp g3),(7,Vp g22),(11,.bool b1037)] ⟨rfl,rfl,rfl,rfl,rfl,trivial⟩ (fun u=>?_)
   refine d_sta ⟨w0,M,(100070,g22,.cells #[.slice A9 x7.fRing.length c10,.slice A12 x7.fHints.length c13,.slice A1035 l1034.length c1036,Vi x7.fEpoch,.slice A18 x7.fFlushes.length c19] 30 (0,0))::(100040,g3,.cells #[V0,V0,V0,Vi 0,V0] 30 (0,0))::(100030,g2,.cells #[Vi p1.fKind,Vi p1.fNode,Vs p1.fName,Vs p1.fText,Vs p1.fZone,.slice Ap1_0 p1.fHints.length cp1_0] 32 (0,0))::(100020,g1,.cells #[.slice Ap0_0 p0.fRing.length cp0_0,.slice Ap0_1 p0.fHints.length cp0_1,.slice Ap0_2 p0.fAnchors.length cp0_2,Vi p0.fEpoch,.slice Ap0_3 p0.fFlushes.length cp0_3] 30 (0,0))::H,(29,⟨.slice A1035 l1034.length c1036,55,2,l1034.length,l1034.flatMap GAnchor.enc⟩)::R,φ21⟩ (fun _ h=>h)<|d_then<|c_seq ?_
   refine c_cut (ι:=(List GAnchor)×Option Addr×Nat) [2,4,7] (fun ⟨l1043,A1044,c1045⟩=>[]) (fun ⟨l1043,A1044,c1045⟩=>⟨w0,M,(100070,g22,.cells #[.slice A9 x7.fRing.length c10,.slice A12 x7.fHints.length c13,.slice A1044 l1043.length c1045,Vi x7.fEpoch,.slice A18 x7.fFlushes.length c19] 30 (0,0))::(100040,g3,.cells #[V0,V0,V0,Vi 0,V0] 30 (0,0))::(100020,g1,.cells #[.slice Ap0_0 p0.fRing.length cp0_0,.slice Ap0_1 p0.fHints.length cp0_1,.slice Ap0_2 p0.fAnchors.length cp0_2,Vi p0.fEpoch,.slice Ap0_3 p0.fFlushes.length cp0_3] 30 (0,0))::H,(29,⟨.slice A1044 l1043.length c1045,55,2,l1043.length,l1043.flatMap GAnchor.enc⟩)::R,φ21⟩) (fun ⟨l1043,A1044,c1045⟩=>m_ref13_Apply_j5 p0 x7 l1043 = some r∧l1043.length ≤ c1045) ?_ (fun ⟨l1043,A1044,c1045⟩ u ⟨hm,hc1045⟩=>?_)
   ·
    refine c_seq<|c_region<|g_v rfl r_move<|g_v rfl (r_not rfl)<|g_nil<|d_then ?_
    refine c_cond rfl (fun h1049=>?_) (fun h1049=>?_)
    ·
     have h1049' : b1037 = false:=by revert h1049; cases b1037 <;> simp
     replace hm:=ite_f hm (bool_nt h1049')
     refine c_region<|g_v rfl (r_field (n:=2) Tryz.underlying30 rfl Tryz.sizeOf27 rfl rfl)<|g_v rfl (r_load (tag:=100070) rfl rfl rfl Tryz.isAgg27)<|g_v rfl (r_field (n:=2) Tryz.underlying32 rfl Tryz.sizeOf9 rfl rfl)<|g_v rfl (r_load (tag:=100030) rfl rfl rfl Tryz.isAgg9)<|g_v rfl (r_field (n:=3) Tryz.underlying32 rfl Tryz.sizeOf9 rfl rfl)<|g_v rfl (r_load (tag:=100030) rfl rfl rfl Tryz.isAgg9)<|g_v rfl (r_build _ rfl (bld55_19 _ _)) ?_
     refine g_e rfl (e_lit (tag:=101880) (l:=[(⟨p1.fName,p1.fText⟩ : GAnchor)]) (enc:=GAnchor.enc) (sz:=2) rfl Tryz.underlying27 (lit55_20 _ _) rfl rfl (fun _=>rfl)) (fun g1050 _=>?_)
     replace hm:=bnd hm
     obtain ⟨l1051,hl1051,hm⟩:=hm
     refine g_e rfl (e_appR (enc:=GAnchor.enc) (l:=l1034) (l1:=[(⟨p1.fName,p1.fText⟩ : GAnchor)]) (l2:=l1051) (tag:=29) Tryz.underlying27 inf55_14 rfl (by decide) (by decide) (fun _=>rfl) (fun _=>rfl) rfl hc1036 rfl rfl (fun W hS=>rowCl (tag:=101880) rfl W hS) hl1051) (fun ⟨A1052,c1053⟩ hc1053=>?_)
     refine g_v rfl (r_field (n:=2) Tryz.underlying30 rfl Tryz.sizeOf27 rfl rfl)<|g_storeL (tag:=100070) rfl rfl rfl rfl Tryz.sizeOf27 rfl rfl<|g_nil ?_
     exact d_round (l1051,A1052,c1053) ⟨hm,hc1053⟩ Nat.zero_lt_one ⟨rfl,rfl,rfl,trivial⟩ (fun W h=>((h.dropR (t:=101880) rfl).dropH (t:=100030) rfl).phi (fun W hφ=>hφ))
    have h1049' : b1037 = true:=by revert h1049; cases b1037 <;> simp
    replace hm:=ite_t hm h1049'
    refine c_skip ?_
    exact d_round (l1034,A1035,c1036) ⟨hm,hc1036⟩ Nat.zero_lt_one ⟨rfl,rfl,rfl,trivial⟩ (fun W h=>(h.dropH (t:=100030) rfl).phi (fun W hφ=>hφ))
   unfold m_ref13_Apply_j5 at hm
   refine d_flat [(2,Vp g1),(4,Vp g3),(7,Vp g22)] ⟨rfl,rfl,rfl,trivial⟩ (fun u=>?_)
   refine d_sta ⟨w0,M,(100070,g22,.cells #[.slice A9 x7.fRing.length c10,.slice A12 x7.fHints.length c13,.slice A1044 l1043.length c1045,Vi x7.fEpoch,.slice A18 x7.fFlushes.length c19] 30 (0,0))::(100040,g3,.cells #[V0,V0,V0,Vi 0,V0] 30 (0,0))::(100020,g1,.cells #[.slice Ap0_0 p0.fRing.length cp0_0,.slice Ap0_1 p0.fHints.length cp0_1,.slice Ap0_2 p0.fAnchors.length cp0_2,Vi p0.fEpoch,.slice Ap0_3 p0.fFlushes.length cp0_3] 30 (0,0))::H,(29,⟨.slice A1044 l1043.length c1045,55,2,l1043.length,l1043.flatMap GAnchor.enc⟩)::R,φ21⟩ (fun _ h=>h)<|d_then<|c_seq<|c_region<|g_v rfl (r_field (n:=2) Tryz.underlying30 rfl Tryz.sizeOf27 rfl rfl)<|g_v rfl (r_load (tag:=100070) rfl rfl rfl Tryz.isAgg27)<|g_v rfl (r_lenL Tryz.underlying27 rfl)<|g_v rfl (r_gtr rfl rfl)<|g_nil<|d_then ?_
   refine c_cond rfl (fun h1046=>?_) (fun h1046=>?_)
   ·
    replace hm:=ite_t hm (of_decide_eq_true h1046)
    refine c_seq<|c_region<|g_v rfl (r_loadA (tag:=100020) rfl rfl Tryz.isAgg30 Tryz.sizeOf30 rfl rfl)<|g_storeL (tag:=100040) rfl rfl rfl rfl Tryz.sizeOf30 rfl rfl<|g_v rfl r_assign<|g_nil<|d_then<|c_ret<|d_ret_block<|d_ret_then ?_
    refine d_ret_then ?_
    cases hm
    exact d_retC (Ap0_0,cp0_0,Ap0_1,cp0_1,Ap0_2,cp0_2,Ap0_3,cp0_3) Tryz.results11 (res_agg (tag:=100040) rfl rfl Tryz.isAgg30 Tryz.sizeOf30 (res_tmp (res_nil rfl))) ⟨hcp0_0,hcp0_1,hcp0_2,hcp0_3⟩ (fun W h=>ok_pre (H1:=[_,_,_]) (R1:=[_]) h (fun W hφ=>⟨(q21 _ hφ),(fun W h=>fp0_0 W (q21 _ h)) W hφ,(fun W h=>fp0_1 W (q21 _ h)) W hφ,(fun W h=>fp0_2 W (q21 _ h)) W hφ,(fun W h=>fp0_3 W (q21 _ h)) W hφ⟩)) (.inr rfl)
   replace hm:=ite_f hm (of_decide_eq_false h1046)
   refine c_skip<|d_normal_block ?_
   refine d_shut (tag:=29) rfl (fun φ1047 q1047'=>?_)
   have q1047 : ∀ W,φ1047 W→φ21 W:=fun W h=>(q1047' W h).1
   have f1048:=fun (W : World) (h : φ1047 W)=>(q1047' W h).2
   exact d_round (x7.fRing,x7.fHints,l1043,x7.fEpoch,x7.fFlushes,A9,c10,A12,c13,A1044,c1045,A18,c19) ⟨hm,hc10,hc13,hc1045,hc19⟩ Nat.zero_lt_one ⟨rfl,rfl,trivial⟩ (fun W h=>(h.dropH (t:=100020) rfl).phi (fun W hφ=>⟨(q1047 _ hφ),(fun W h=>f11 W (q1047 _ h)) W hφ,(fun W h=>f14 W (q1047 _ h)) W hφ,(fun W h=>f1048 W h) W hφ,(fun W h=>f20 W (q1047 _ h)) W hφ⟩))
  replace hm:=ite_f hm (of_decide_eq_false h742)
  refine c_seq<|c_seq<|c_region<|g_v rfl (r_field (n:=3) Tryz.underlying30 rfl Tryz.sizeOf3 rfl rfl)<|g_v rfl (r_load (tag:=100020) rfl rfl rfl Tryz.isAgg3)<|g_v rfl (r_geq rfl rfl)<|g_nil<|d_then ?_
  refine c_cond rfl (fun h1233=>?_) (fun h1233=>?_)
  ·
   replace hm:=ite_t hm (of_decide_eq_true h1233)
   refine c_seq<|c_region<|g_v rfl (r_loadA (tag:=100020) rfl rfl Tryz.isAgg30 Tryz.sizeOf30 rfl rfl)<|g_storeL (tag:=100040) rfl rfl rfl rfl Tryz.sizeOf30 rfl rfl<|g_v rfl r_assign<|g_nil<|d_then ?_
   refine c_flat [(4,Vp g3),(5,Vi 15)] ⟨rfl,rfl,trivial⟩ (fun u=>?_)
   refine c_sta ⟨w0,M,(100070,g22,.cells #[.slice A9 x7.fRing.length c10,.slice A12 x7.fHints.length c13,.slice A15 x7.fAnchors.length c16,Vi x7.fEpoch,.slice A18 x7.fFlushes.length c19] 30 (0,0))::(100040,g3,.cells #[.slice Ap0_0 p0.fRing.length cp0_0,.slice Ap0_1 p0.fHints.length cp0_1,.slice Ap0_2 p0.fAnchors.length cp0_2,Vi p0.fEpoch,.slice Ap0_3 p0.fFlushes.length cp0_3] 30 (0,0))::(100030,g2,.cells #[Vi p1.fKind,Vi p1.fNode,Vs p1.fName,Vs p1.fText,Vs p1.fZone,.slice Ap1_0 p1.fHints.length cp1_0] 32 (0,0))::(100020,g1,.cells #[.slice Ap0_0 p0.fRing.length cp0_0,.slice Ap0_1 p0.fHints.length cp0_1,.slice Ap0_2 p0.fAnchors.length cp0_2,Vi p0.fEpoch,.slice Ap0_3 p0.fFlushes.length cp0_3] 30 (0,0))::H,R,φ21⟩ (fun _ h=>h)<|c_ret<|d_ret_then<|d_ret_block<|d_ret_then<|d_ret_then ?_
   cases hm
   exact d_retC (Ap0_0,cp0_0,Ap0_1,cp0_1,Ap0_2,cp0_2,Ap0_3,cp0_3) Tryz.results11 (res_agg (tag:=100040) rfl rfl Tryz.isAgg30 Tryz.sizeOf30 (res_tmp (res_nil rfl))) ⟨hcp0_0,hcp0_1,hcp0_2,hcp0_3⟩ (fun W h=>ok_pre (H1:=[_,_,_,_]) (R1:=[]) h (fun W hφ=>⟨(q21 _ hφ),(fun W h=>fp0_0 W (q21 _ h)) W hφ,(fun W h=>fp0_1 W (q21 _ h)) W hφ,(fun W h=>fp0_2 W (q21 _ h)) W hφ,(fun W h=>fp0_3 W (q21 _ h)) W hφ⟩)) (.inr rfl)
  replace hm:=ite_f hm (of_decide_eq_false h1233)
  refine c_skip<|d_then<|c_seq<|c_region<|g_v rfl (r_field (n:=3) Tryz.underlying30 rfl Tryz.sizeOf3 rfl rfl)<|g_v rfl (r_load (tag:=100020) rfl rfl rfl Tryz.isAgg3)<|g_v rfl (r_add rfl rfl rfl)<|g_v rfl (r_field (n:=3) Tryz.underlying30 rfl Tryz.sizeOf3 rfl rfl)<|g_storeL (tag:=100070) rfl rfl rfl rfl Tryz.sizeOf3 rfl rfl<|g_nil ?_
  refine d_then ?_
  refine c_flat [(2,Vp g1),(3,Vp g2),(4,Vp g3),(7,Vp g22)] ⟨rfl,rfl,rfl,rfl,trivial⟩ (fun u=>?_)
  refine c_sta ⟨w0,M,(100070,g22,.cells #[.slice A9 x7.fRing.length c10,.slice A12 x7.fHints.length c13,.slice A15 x7.fAnchors.length c16,Vi (w64 (p0.fEpoch + 1)),.slice A18 x7.fFlushes.length c19] 30 (0,0))::(100040,g3,.cells #[V0,V0,V0,Vi 0,V0] 30 (0,0))::(100030,g2,.cells #[Vi p1.fKind,Vi p1.fNode,Vs p1.fName,Vs p1.fText,Vs p1.fZone,.slice Ap1_0 p1.fHints.length cp1_0] 32 (0,0))::(100020,g1,.cells #[.slice Ap0_0 p0.fRing.length cp0_0,.slice Ap0_1 p0.fHints.length cp0_1,.slice Ap0_2 p0.fAnchors.length cp0_2,Vi p0.fEpoch,.slice Ap0_3 p0.fFlushes.length cp0_3] 30 (0,0))::H,R,φ21⟩ (fun _ h=>h)<|c_seq<|c_region<|g_v rfl (r_field (n:=4) Tryz.underlying30 rfl Tryz.sizeOf28 rfl rfl)<|g_storeL (tag:=100070) rfl rfl rfl rfl Tryz.sizeOf28 rfl rfl<|g_nil<|d_then<|c_seq<|c_seq<|c_region ?_
  refine g_v rfl r_assign<|g_nil<|d_then<|c_sta _ (fun W h=>nilR h 34 48 2) ?_
  refine c_cut (ι:=(List GFlush)×Int×Option Addr×Nat) [3,4,7] (fun ⟨l1507,i1510,A1508,c1509⟩=>[]) (fun ⟨l1507,i1510,A1508,c1509⟩=>⟨w0,M,(100070,g22,.cells #[.slice A9 x7.fRing.length c10,.slice A12 x7.fHints.length c13,.slice A15 x7.fAnchors.length c16,Vi i1510,.slice A1508 l1507.length c1509] 30 (0,0))::(100040,g3,.cells #[V0,V0,V0,Vi 0,V0] 30 (0,0))::(100030,g2,.cells #[Vi p1.fKind,Vi p1.fNode,Vs p1.fName,Vs p1.fText,Vs p1.fZone,.slice Ap1_0 p1.fHints.length cp1_0] 32 (0,0))::H,(34,⟨.slice A1508 l1507.length c1509,48,2,l1507.length,l1507.flatMap GFlush.enc⟩)::R,φ21⟩) (fun ⟨l1507,i1510,A1508,c1509⟩=>m_ref13_Apply_j8 p1 x7 l1507 i1510 = some r∧l1507.length ≤ c1509) ?_ (fun ⟨l1507,i1510,A1508,c1509⟩ u ⟨hm,hc1509⟩=>?_)
  ·
   refine c_block ?_
   replace hm:=bnd hm
   obtain ⟨out10,hl10,hr10⟩:=hm
   obtain ⟨n1637',hl10⟩:=loop_lp hl10
   refine c_loopU (ι:=Nat×(List GFlush)×Int×Int×Option Addr×Nat) [2,3,4,7,14] (fun ⟨n1637,l1580,i1583,i1584,A1581,c1582⟩=>[(14,Vi i1583)]) (fun ⟨n1637,l1580,i1583,i1584,A1581,c1582⟩=>⟨w0,M,(100070,g22,.cells #[.slice A9 x7.fRing.length c10,.slice A12 x7.fHints.length c13,.slice A15 x7.fAnchors.length c16,Vi i1584,.slice A1581 l1580.length c1582] 30 (0,0))::(100040,g3,.cells #[V0,V0,V0,Vi 0,V0] 30 (0,0))::(100030,g2,.cells #[Vi p1.fKind,Vi p1.fNode,Vs p1.fName,Vs p1.fText,Vs p1.fZone,.slice Ap1_0 p1.fHints.length cp1_0] 32 (0,0))::(100020,g1,.cells #[.slice Ap0_0 p0.fRing.length cp0_0,.slice Ap0_1 p0.fHints.length cp0_1,.slice Ap0_2 p0.fAnchors.length cp0_2,Vi p0.fEpoch,.slice Ap0_3 p0.fFlushes.length cp0_3] 30 (0,0))::H,(34,⟨.slice A1581 l1580.length c1582,48,2,l1580.length,l1580.flatMap GFlush.enc⟩)::R,φ21⟩) (fun ⟨n1637,l1580,i1583,i1584,A1581,c1582⟩=>Lp (fun s=>m_ref13_Apply_s10 p0 p1 s.1 s.2.1 s.2.2) n1637 (l1580,i1583,i1584) out10∧l1580.length ≤ c1582) (fun ⟨n1637,l1580,i1583,i1584,A1581,c1582⟩=>n1637) (n1637',([] : List GFlush),0,w64 (p0.fEpoch + 1),none,0) ⟨hl10,(Nat.le_refl 0)⟩ ⟨rfl,rfl,rfl,rfl,rfl,trivial⟩ (fun W h=>h.phi (fun W hφ=>hφ)) (fun ⟨n1637,l1580,i1583,i1584,A1581,c1582⟩ u ⟨hlp,hc1582⟩=>?_)
   obtain ⟨o10,hm,hnx10⟩:=lp_step hlp
   clear hlp
   replace hm : m_ref13_Apply_s10 p0 p1 l1580 i1583 i1584 = some o10:=hm
   unfold m_ref13_Apply_s10 at hm
   refine c_flat [(2,Vp g1),(3,Vp g2),(4,Vp g3),(7,Vp g22),(14,Vi i1583)] ⟨rfl,rfl,rfl,rfl,rfl,trivial⟩ (fun u=>?_)
   refine c_sta ⟨w0,M,(100070,g22,.cells #[.slice A9 x7.fRing.length c10,.slice A12 x7.fHints.length c13,.slice A15 x7.fAnchors.length c16,Vi i1584,.slice A1581 l1580.length c1582] 30 (0,0))::(100040,g3,.cells #[V0,V0,V0,Vi 0,V0] 30 (0,0))::(100030,g2,.cells #[Vi p1.fKind,Vi p1.fNode,Vs p1.fName,Vs p1.fText,Vs p1.fZone,.slice Ap1_0 p1.fHints.length cp1_0] 32 (0,0))::(100020,g1,.cells #[.slice Ap0_0 p0.fRing.length cp0_0,.slice Ap0_1 p0.fHints.length cp0_1,.slice Ap0_2 p0.fAnchors.length cp0_2,Vi p0.fEpoch,.slice Ap0_3 p0.fFlushes.length cp0_3] 30 (0,0))::H,(34,⟨.slice A1581 l1580.length c1582,48,2,l1580.length,l1580.flatMap GFlush.enc⟩)::R,φ21⟩ (fun _ h=>h)<|c_seq<|c_seq<|c_region<|g_v rfl r_move<|g_v rfl (r_field (n:=4) Tryz.underlying30 rfl Tryz.sizeOf28 rfl rfl)<|g_v rfl (r_load (tag:=100020) rfl rfl rfl Tryz.isAgg28)<|g_v rfl (r_lenL Tryz.underlying28 rfl)<|g_v rfl (r_lss rfl rfl)<|g_nil ?_
   refine d_then ?_
   refine c_cond rfl (fun h1638=>?_) (fun h1638=>?_)
   ·
    replace hm:=ite_t hm (of_decide_eq_true h1638)
    refine c_skip<|d_then<|c_seq<|c_block<|c_seq<|ga_start (n:=10) ⟨w0,M,(100070,g22,.cells #[.slice A9 x7.fRing.length c10,.slice A12 x7.fHints.length c13,.slice A15 x7.fAnchors.length c16,Vi i1584,.slice A1581 l1580.length c1582] 30 (0,0))::(100040,g3,.cells #[V0,V0,V0,Vi 0,V0] 30 (0,0))::(100030,g2,.cells #[Vi p1.fKind,Vi p1.fNode,Vs p1.fName,Vs p1.fText,Vs p1.fZone,.slice Ap1_0 p1.fHints.length cp1_0] 32 (0,0))::(100020,g1,.cells #[.slice Ap0_0 p0.fRing.length cp0_0,.slice Ap0_1 p0.fHints.length cp0_1,.slice Ap0_2 p0.fAnchors.length cp0_2,Vi p0.fEpoch,.slice Ap0_3 p0.fFlushes.length cp0_3] 30 (0,0))::H,(34,⟨.slice A1581 l1580.length c1582,48,2,l1580.length,l1580.flatMap GFlush.enc⟩)::R,φ21⟩ [] #[false,false,false,false,false,false,false,false,false,false] (fun W h=>h.phi (fun W hφ=>hφ)) mixed rfl rfl<|ga_v (i:=0) (bz 10 1) rfl (by kernel_rfl) (fun _ _ _ _ h=>h) rfl (r_field (n:=4) Tryz.underlying30 rfl Tryz.sizeOf28 rfl rfl)<|ga_v (i:=1) (bz 10 3) rfl (by kernel_rfl) (fun _ _ _ _ h=>h) rfl (r_load (tag:=100020) rfl rfl rfl Tryz.isAgg28)<|ga_v (i:=2) (bz 10 7) rfl (by kernel_rfl) (fun _ _ _ _ h=>h) rfl (r_move) ?_
    replace hm:=bnd hm
    obtain ⟨x1653,hx1653,hm⟩:=hm
    refine ga_know _ (fun W hS=>cl_at (p:=φ) (sz:=2) (fun _=>rfl) (by decide) (q21 _ hS.now) fp0_3 hx1653) ?_
    rintro ⟨ad1654,hA1656,f1655⟩
    refine ga_v (i:=3) (bz 10 15) rfl (by kernel_rfl) (fun _ _ _ _ h=>h) rfl (r_ix Tryz.underlying28 Tryz.sizeOf48 rfl hA1656 rfl hx1653) ?_
    have f1657:=fun (W : World) (h : φ W)=>Cl.drop (f1655 W h) 1
    refine ga_v (i:=4) (bz 10 31) rfl (by kernel_rfl) (fun _ _ _ _ h=>h) rfl (r_fieldF Tryz.underlying48 rfl Tryz.sizeOf9 rfl)<|ga_v (i:=5) (bz 10 63) rfl (by kernel_rfl) (fun _ _ _ _ h=>h) rfl (r_ld rfl Tryz.isAgg9 (fun W hS=>Cl.head (f1657 W (q21 _ hS.now))))<|ga_r (i:=6) (bz 10 127) rfl (by kernel_rfl) (by decide) rfl (r_field (n:=4) Tryz.underlying32 rfl Tryz.sizeOf9 rfl rfl)<|ga_r (i:=7) (bz 10 255) rfl (by kernel_rfl) (by decide) rfl (r_load (tag:=100030) rfl rfl rfl Tryz.isAgg9) ?_
    replace hm:=bnd hm
    obtain ⟨x1658,hx1659,hm⟩:=hm
    refine ga_cn (first:=#[]) (i:=8) (bz 10 511) rfl (by kernel_rfl) (by decide)  ⟨w0,M,_,_,φ21⟩ (fun _ h=>h) Tryz.call43 rfl rfl rfl (c_ref03_Under x1653.fZone p1.fZone _ hx1659) (fun _ W _ h=>h.phi (fun W hφ=>hφ)) (fun _ _=>?_)
    refine ga_r (i:=9) (bz 10 1023) rfl (by kernel_rfl) (by decide) rfl (r_assign)<|ga_done (by kernel_rfl)<|d_then ?_
    refine c_flat [(2,Vp g1),(3,Vp g2),(4,Vp g3),(7,Vp g22),(14,Vi i1583),(15,.bool x1658)] ⟨rfl,rfl,rfl,rfl,rfl,rfl,trivial⟩ (fun u=>?_)
    refine c_seq<|c_region<|g_v rfl r_move<|g_v rfl (r_not rfl)<|g_nil<|d_then ?_
    refine c_cond rfl (fun h1660=>?_) (fun h1660=>?_)
    ·
     have h1660' : x1658 = false:=by revert h1660; cases x1658 <;> simp
     replace hm:=ite_f hm (bool_nt h1660')
     refine ga_start (n:=11) ⟨w0,M,(100070,g22,.cells #[.slice A9 x7.fRing.length c10,.slice A12 x7.fHints.length c13,.slice A15 x7.fAnchors.length c16,Vi i1584,.slice A1581 l1580.length c1582] 30 (0,0))::(100040,g3,.cells #[V0,V0,V0,Vi 0,V0] 30 (0,0))::(100030,g2,.cells #[Vi p1.fKind,Vi p1.fNode,Vs p1.fName,Vs p1.fText,Vs p1.fZone,.slice Ap1_0 p1.fHints.length cp1_0] 32 (0,0))::(100020,g1,.cells #[.slice Ap0_0 p0.fRing.length cp0_0,.slice Ap0_1 p0.fHints.length cp0_1,.slice Ap0_2 p0.fAnchors.length cp0_2,Vi p0.fEpoch,.slice Ap0_3 p0.fFlushes.length cp0_3] 30 (0,0))::H,R,φ21⟩ [10] #[false,false,false,false,false,false,false,false,false,false,false] (fun W h=>(h.dropR (t:=34) rfl).phi (fun W hφ=>hφ)) mixed rfl rfl<|ga_v (i:=0) (bz 11 1) rfl (by kernel_rfl) (fun _ _ _ _ h=>h) rfl (r_field (n:=4) Tryz.underlying30 rfl Tryz.sizeOf28 rfl rfl)<|ga_v (i:=1) (bz 11 3) rfl (by kernel_rfl) (fun _ _ _ _ h=>h) rfl (r_load (tag:=100070) rfl rfl rfl Tryz.isAgg28)<|ga_v (i:=2) (bz 11 7) rfl (by kernel_rfl) (fun _ _ _ _ h=>h) rfl (r_field (n:=4) Tryz.underlying30 rfl Tryz.sizeOf28 rfl rfl)<|ga_v (i:=3) (bz 11 15) rfl (by kernel_rfl) (fun _ _ _ _ h=>h) rfl (r_load (tag:=100020) rfl rfl rfl Tryz.isAgg28)<|ga_r (i:=4) (bz 11 31) rfl (by kernel_rfl) (by decide) rfl (r_move) ?_
     replace hm:=bnd hm
     obtain ⟨x1677,hx1677,hm⟩:=hm
     refine ga_know _ (fun W hS=>cl_at (p:=φ) (sz:=2) (fun _=>rfl) (by decide) (q21 _ hS.now) fp0_3 hx1677) ?_
     rintro ⟨ad1678,hA1680,f1679⟩
     refine ga_r (i:=5) (bz 11 63) rfl (by kernel_rfl) (by decide) rfl (r_ix Tryz.underlying28 Tryz.sizeOf48 rfl hA1680 rfl hx1677)<|ga_r (i:=6) (bz 11 127) rfl (by kernel_rfl) (by decide) rfl (r_ldA rfl Tryz.isAgg48 Tryz.sizeOf48 (fun W hS=>(f1679 W (q21 _ hS.now)).take 2) rfl) ?_
     refine ga_e (i:=7) (bz 11 255) rfl (by kernel_rfl) (by decide) rfl  (e_lit (tag:=100660) (l:=[x1677]) (enc:=GFlush.enc) (sz:=2) rfl Tryz.underlying28 (lit48_22 _ _) rfl rfl (fun _=>rfl)) (fun g1681 W _ h=>((h.dropR (t:=100660) rfl).dropR (t:=34) rfl).phi (fun W hφ=>hφ)) (fun g1681 _=>?_)
     replace hm:=bnd hm
     obtain ⟨l1682,hl1682,hm⟩:=hm
     refine ga_e (i:=8) (bz 11 511) rfl (by kernel_rfl) (by decide) rfl  (e_appR (enc:=GFlush.enc) (l:=l1580) (l1:=[x1677]) (l2:=l1682) (tag:=34) Tryz.underlying28 inf48_16 rfl (by decide) (by decide) (fun _=>rfl) (fun _=>rfl) rfl hc1582 rfl rfl (fun W hS=>rowCl (tag:=100660) rfl W hS) hl1682) (fun ⟨A1683,c1684⟩ W hc1684 h=>((h.dropR (t:=100660) rfl).dropR (t:=34) rfl).phi (fun W hφ=>hφ)) (fun ⟨A1683,c1684⟩ hc1684=>?_)
     refine ga_r (i:=9) (bz 11 1023) rfl (by kernel_rfl) (by decide) rfl (r_field (n:=4) Tryz.underlying30 rfl Tryz.sizeOf28 rfl rfl)<|ga_lastL (i:=10) (tag:=100070) (bz 11 2047) rfl (by kernel_rfl) (by decide) rfl rfl rfl rfl Tryz.sizeOf28 rfl rfl<|gz_done (by kernel_rfl)<|d_normal_block<|d_then ?_
     refine c_flat [(2,Vp g1),(3,Vp g2),(4,Vp g3),(7,Vp g22),(14,Vi i1583)] ⟨rfl,rfl,rfl,rfl,rfl,trivial⟩ (fun u=>?_)
     refine c_sta ⟨w0,M,(100070,g22,.cells #[.slice A9 x7.fRing.length c10,.slice A12 x7.fHints.length c13,.slice A15 x7.fAnchors.length c16,Vi i1584,.slice A1683 l1682.length c1684] 30 (0,0))::(100040,g3,.cells #[V0,V0,V0,Vi 0,V0] 30 (0,0))::(100030,g2,.cells #[Vi p1.fKind,Vi p1.fNode,Vs p1.fName,Vs p1.fText,Vs p1.fZone,.slice Ap1_0 p1.fHints.length cp1_0] 32 (0,0))::(100020,g1,.cells #[.slice Ap0_0 p0.fRing.length cp0_0,.slice Ap0_1 p0.fHints.length cp0_1,.slice Ap0_2 p0.fAnchors.length cp0_2,Vi p0.fEpoch,.slice Ap0_3 p0.fFlushes.length cp0_3] 30 (0,0))::H,(100660,⟨.slice (some ⟨g1681,0,none⟩) [x1677].length 1,48,2,[x1677].length,[x1677].flatMap GFlush.enc⟩)::(34,⟨.slice A1683 l1682.length c1684,48,2,l1682.length,l1682.flatMap GFlush.enc⟩)::R,φ21⟩ (fun _ h=>h)<|c_region<|g_v rfl r_move<|g_v rfl (r_add rfl rfl rfl)<|g_v rfl r_assign<|g_nil ?_
     obtain ⟨n1685,hn1685,hlp⟩:=nx_inl hm hnx10
     exact d_round (n1685,l1682,w64 (i1583 + 1),i1584,A1683,c1684) ⟨hlp,hc1684⟩ hn1685 ⟨rfl,rfl,rfl,rfl,rfl,trivial⟩ (fun W h=>(h.dropR (t:=100660) rfl).phi (fun W hφ=>hφ))
    have h1660' : x1658 = true:=by revert h1660; cases x1658 <;> simp
    replace hm:=ite_t hm h1660'
    refine c_skip<|d_normal_block<|d_then<|c_region<|g_v rfl r_move<|g_v rfl (r_add rfl rfl rfl)<|g_v rfl r_assign<|g_nil ?_
    obtain ⟨n1686,hn1686,hlp⟩:=nx_inl hm hnx10
    exact d_round (n1686,l1580,w64 (i1583 + 1),i1584,A1581,c1582) ⟨hlp,hc1582⟩ hn1686 ⟨rfl,rfl,rfl,rfl,rfl,trivial⟩ (fun W h=>h.phi (fun W hφ=>hφ))
   replace hm:=ite_f hm (of_decide_eq_false h1638)
   refine c_exit<|d_exit_then<|d_exit_then<|d_exit_block ?_
   replace hm:=nx_out (C:=(fun e : (List GFlush)×Int=>m_ref13_Apply_j8 p1 x7 e.1 e.2 = some r)) hm hnx10 hr10
   exact d_round (l1580,i1584,A1581,c1582) ⟨hm,hc1582⟩ Nat.zero_lt_one ⟨rfl,rfl,rfl,trivial⟩ (fun W h=>(h.dropH (t:=100020) rfl).phi (fun W hφ=>hφ))
  unfold m_ref13_Apply_j8 at hm
  refine d_flat [(3,Vp g2),(4,Vp g3),(7,Vp g22)] ⟨rfl,rfl,rfl,trivial⟩ (fun u=>?_)
  refine d_sta ⟨w0,M,(100070,g22,.cells #[.slice A9 x7.fRing.length c10,.slice A12 x7.fHints.length c13,.slice A15 x7.fAnchors.length c16,Vi i1510,.slice A1508 l1507.length c1509] 30 (0,0))::(100040,g3,.cells #[V0,V0,V0,Vi 0,V0] 30 (0,0))::(100030,g2,.cells #[Vi p1.fKind,Vi p1.fNode,Vs p1.fName,Vs p1.fText,Vs p1.fZone,.slice Ap1_0 p1.fHints.length cp1_0] 32 (0,0))::H,(34,⟨.slice A1508 l1507.length c1509,48,2,l1507.length,l1507.flatMap GFlush.enc⟩)::R,φ21⟩ (fun _ h=>h)<|d_then<|c_seq<|c_region<|g_v rfl (r_field (n:=4) Tryz.underlying32 rfl Tryz.sizeOf9 rfl rfl)<|g_v rfl (r_load (tag:=100030) rfl rfl rfl Tryz.isAgg9) ?_
  replace hm:=bnd hm
  obtain ⟨x1511,hx1512,hm⟩:=hm
  refine g_cn ⟨w0,M,_,_,φ21⟩ (fun _ h=>h) Tryz.call42 rfl rfl (c_ref03_Lower p1.fZone _ hx1512) (fun _ _=>?_)
  refine g_v rfl r_assign<|g_nil<|d_then<|c_seq ?_
  refine c_cut (ι:=(List GFlush)×ByteArray×Option Addr×Nat) [4,7,16] (fun ⟨l1515,s1518,A1516,c1517⟩=>[(16,Vs s1518)]) (fun ⟨l1515,s1518,A1516,c1517⟩=>⟨w0,M,(100070,g22,.cells #[.slice A9 x7.fRing.length c10,.slice A12 x7.fHints.length c13,.slice A15 x7.fAnchors.length c16,Vi i1510,.slice A1516 l1515.length c1517] 30 (0,0))::(100040,g3,.cells #[V0,V0,V0,Vi 0,V0] 30 (0,0))::H,(34,⟨.slice A1516 l1515.length c1517,48,2,l1515.length,l1515.flatMap GFlush.enc⟩)::R,φ21⟩) (fun ⟨l1515,s1518,A1516,c1517⟩=>m_ref13_Apply_j9 i1510 x7 l1515 s1518 = some r∧l1515.length ≤ c1517) ?_ (fun ⟨l1515,s1518,A1516,c1517⟩ u ⟨hm,hc1517⟩=>?_)
  ·
   refine c_seq<|c_region<|g_v rfl (r_field (n:=4) Tryz.underlying30 rfl Tryz.sizeOf28 rfl rfl)<|g_v rfl (r_load (tag:=100070) rfl rfl rfl Tryz.isAgg28)<|g_v rfl (r_lenL Tryz.underlying28 rfl)<|g_v rfl (r_geq rfl rfl)<|g_nil<|d_then ?_
   refine c_cond rfl (fun h1525=>?_) (fun h1525=>?_)
   ·
    replace hm:=ite_t hm (of_decide_eq_true h1525)
    refine c_seq<|c_region<|g_v rfl (r_field (n:=4) Tryz.underlying30 rfl Tryz.sizeOf28 rfl rfl)<|g_storeL (tag:=100070) rfl rfl rfl rfl Tryz.sizeOf28 rfl rfl<|g_nil<|d_then ?_
    refine c_flat [(4,Vp g3),(7,Vp g22)] ⟨rfl,rfl,trivial⟩ (fun u=>?_)
    refine c_sta ⟨w0,M,(100070,g22,.cells #[.slice A9 x7.fRing.length c10,.slice A12 x7.fHints.length c13,.slice A15 x7.fAnchors.length c16,Vi i1510,V0] 30 (0,0))::(100040,g3,.cells #[V0,V0,V0,Vi 0,V0] 30 (0,0))::(100030,g2,.cells #[Vi p1.fKind,Vi p1.fNode,Vs p1.fName,Vs p1.fText,Vs p1.fZone,.slice Ap1_0 p1.fHints.length cp1_0] 32 (0,0))::H,(34,⟨.slice A1508 l1507.length c1509,48,2,l1507.length,l1507.flatMap GFlush.enc⟩)::R,φ21⟩ (fun _ h=>h)<|c_region ?_
    refine g_e rfl (e_lit (tag:=100770) (l:=[0]) (enc:=(fun x : Int=>[Value.int .u8 x])) (sz:=1) rfl Tryz.underlying70 (lit5_6 _) rfl rfl (fun _=>rfl)) (fun g1526 _=>?_)
    refine g_v rfl (r_textE Tryz.underlying70 Tryz.underlying5 Tryz.underlying9 rfl (fun W hS=>rowCl (tag:=100770) rfl W hS))<|g_v rfl r_assign<|g_nil<|d_sta _ (fun W h=>nilR (Sta.ok.dropR (t:=34) h rfl) 34 48 2) ?_
    exact d_round (([] : List GFlush),strOfNums [0],none,0) ⟨hm,(Nat.le_refl 0)⟩ Nat.zero_lt_one ⟨rfl,rfl,rfl,trivial⟩ (fun W h=>((h.dropR (t:=100770) rfl).dropH (t:=100030) rfl).phi (fun W hφ=>hφ))
   replace hm:=ite_f hm (of_decide_eq_false h1525)
   refine c_skip ?_
   exact d_round (l1507,x1511,A1508,c1509) ⟨hm,hc1509⟩ Nat.zero_lt_one ⟨rfl,rfl,rfl,trivial⟩ (fun W h=>(h.dropH (t:=100030) rfl).phi (fun W hφ=>hφ))
  unfold m_ref13_Apply_j9 at hm
  refine d_flat [(4,Vp g3),(7,Vp g22),(16,Vs s1518)] ⟨rfl,rfl,rfl,trivial⟩ (fun u=>?_)
  refine d_sta ⟨w0,M,(100070,g22,.cells #[.slice A9 x7.fRing.length c10,.slice A12 x7.fHints.length c13,.slice A15 x7.fAnchors.length c16,Vi i1510,.slice A1516 l1515.length c1517] 30 (0,0))::(100040,g3,.cells #[V0,V0,V0,Vi 0,V0] 30 (0,0))::H,(34,⟨.slice A1516 l1515.length c1517,48,2,l1515.length,l1515.flatMap GFlush.enc⟩)::R,φ21⟩ (fun _ h=>h)<|d_then<|c_region<|g_v rfl (r_field (n:=4) Tryz.underlying30 rfl Tryz.sizeOf28 rfl rfl)<|g_v rfl (r_load (tag:=100070) rfl rfl rfl Tryz.isAgg28)<|g_v rfl (r_field (n:=3) Tryz.underlying30 rfl Tryz.sizeOf3 rfl rfl)<|g_v rfl (r_load (tag:=100070) rfl rfl rfl Tryz.isAgg3)<|g_v rfl r_move<|g_v rfl (r_build _ rfl (bld48_21 _ _)) ?_
  refine g_e rfl (e_lit (tag:=100850) (l:=[(⟨i1510,s1518⟩ : GFlush)]) (enc:=GFlush.enc) (sz:=2) rfl Tryz.underlying28 (lit48_22 _ _) rfl rfl (fun _=>rfl)) (fun g1519 _=>?_)
  replace hm:=bnd hm
  obtain ⟨l1520,hl1520,hm⟩:=hm
  refine g_e rfl (e_appR (enc:=GFlush.enc) (l:=l1515) (l1:=[(⟨i1510,s1518⟩ : GFlush)]) (l2:=l1520) (tag:=34) Tryz.underlying28 inf48_16 rfl (by decide) (by decide) (fun _=>rfl) (fun _=>rfl) rfl hc1517 rfl rfl (fun W hS=>rowCl (tag:=100850) rfl W hS) hl1520) (fun ⟨A1521,c1522⟩ hc1522=>?_)
  refine g_v rfl (r_field (n:=4) Tryz.underlying30 rfl Tryz.sizeOf28 rfl rfl)<|g_storeL (tag:=100070) rfl rfl rfl rfl Tryz.sizeOf28 rfl rfl<|g_nil<|d_normal_block ?_
  refine d_shut (tag:=34) rfl (fun φ1523 q1523'=>?_)
  have q1523 : ∀ W,φ1523 W→φ21 W:=fun W h=>(q1523' W h).1
  have f1524:=fun (W : World) (h : φ1523 W)=>(q1523' W h).2
  exact d_round (x7.fRing,x7.fHints,x7.fAnchors,i1510,l1520,A9,c10,A12,c13,A15,c16,A1521,c1522) ⟨hm,hc10,hc13,hc16,hc1522⟩ Nat.zero_lt_one ⟨rfl,rfl,trivial⟩ (fun W h=>(h.dropR (t:=100850) rfl).phi (fun W hφ=>⟨(q1523 _ hφ),(fun W h=>f11 W (q1523 _ h)) W hφ,(fun W h=>f14 W (q1523 _ h)) W hφ,(fun W h=>f17 W (q1523 _ h)) W hφ,(fun W h=>f1524 W h) W hφ⟩))
 unfold m_ref13_Apply_j1 at hm
 refine d_abs (fun φ681 q681'=>?_)
 have q681 : ∀ W,φ681 W→φ21 W:=fun W h=>(q681' W h).1
 have f667:=fun (W : World) (h : φ681 W)=>(q681' W h).2.1
 have f671:=fun (W : World) (h : φ681 W)=>(q681' W h).2.2.1
 have f675:=fun (W : World) (h : φ681 W)=>(q681' W h).2.2.2.1
 have f680:=fun (W : World) (h : φ681 W)=>(q681' W h).2.2.2.2
 refine d_flat [(4,Vp g3),(7,Vp g22)] ⟨rfl,rfl,trivial⟩ (fun u=>?_)
 refine d_sta ⟨w0,M,(100070,g22,.cells #[.slice A665 l664.length c666,.slice A669 l668.length c670,.slice A673 l672.length c674,Vi i676,.slice A678 l677.length c679] 30 (0,0))::(100040,g3,.cells #[V0,V0,V0,Vi 0,V0] 30 (0,0))::H,R,φ681⟩ (fun _ h=>h)<|d_then<|c_seq<|c_region<|g_v rfl (r_loadA (tag:=100070) rfl rfl Tryz.isAgg30 Tryz.sizeOf30 rfl rfl)<|g_storeL (tag:=100040) rfl rfl rfl rfl Tryz.sizeOf30 rfl rfl<|g_v rfl r_assign<|g_nil<|d_then<|c_ret ?_
 cases hm
 exact d_retC (A665,c666,A669,c670,A673,c674,A678,c679) Tryz.results11 (res_agg (tag:=100040) rfl rfl Tryz.isAgg30 Tryz.sizeOf30 (res_tmp (res_nil rfl))) ⟨hc666,hc670,hc674,hc679⟩ (fun W h=>ok_pre (H1:=[_,_]) (R1:=[]) h (fun W hφ=>⟨(q21 _ (q681 _ hφ)),(fun W h=>f667 W h) W hφ,(fun W h=>f671 W h) W hφ,(fun W h=>f675 W h) W hφ,(fun W h=>f680 W h) W hφ⟩)) (.inr rfl)
theorem eqq55 (a b : GAnchor) : ∀ d W,(Op.equalIn (d + 5) 55 (.agg #[Vs a.fName,Vs a.fText]) (.agg #[Vs b.fName,Vs b.fText])).run Tryz.prog W = .ok (decide (a = b)) W:=by
  intro d W
  have h:=eqs_of (d:=d + 4) (xs:=#[Vs a.fName,Vs a.fText]) (ys:=#[Vs b.fName,Vs b.fText]) (w:=W) Tryz.underlying55 (by kernel_rfl) (eqs_cons (a:=Vs a.fName) (b:=Vs b.fName) rfl (by kernel_rfl) (by kernel_rfl) (eqs_str Tryz.underlying9) (eqs_cons (a:=Vs a.fText) (b:=Vs b.fText) rfl (by kernel_rfl) (by kernel_rfl) (eqs_str Tryz.underlying9) eqs_nil))
  refine h.trans ?_
  congr 1
  cases a; cases b
  simp only [GAnchor.mk.injEq,Bool.and_true]
  simp only [Bool.decide_and]
theorem eqg55 : Tryz.prog.eqGuardType Tryz.prog.depth 55 = false:=by kernel_rfl
theorem eqq48 (a b : GFlush) : ∀ d W,(Op.equalIn (d + 5) 48 (.agg #[Vi a.fEpoch,Vs a.fZone]) (.agg #[Vi b.fEpoch,Vs b.fZone])).run Tryz.prog W = .ok (decide (a = b)) W:=by
  intro d W
  have h:=eqs_of (d:=d + 4) (xs:=#[Vi a.fEpoch,Vs a.fZone]) (ys:=#[Vi b.fEpoch,Vs b.fZone]) (w:=W) Tryz.underlying48 (by kernel_rfl) (eqs_cons (a:=Vi a.fEpoch) (b:=Vi b.fEpoch) rfl (by kernel_rfl) (by kernel_rfl) (eqs_int Tryz.underlying3) (eqs_cons (a:=Vs a.fZone) (b:=Vs b.fZone) rfl (by kernel_rfl) (by kernel_rfl) (eqs_str Tryz.underlying9) eqs_nil))
  refine h.trans ?_
  congr 1
  cases a; cases b
  simp only [GFlush.mk.injEq,Bool.and_true]
  simp only [Bool.decide_and]
theorem eqg48 : Tryz.prog.eqGuardType Tryz.prog.depth 48 = false:=by kernel_rfl
noncomputable def m_ref13_Same_j4  : Option Bool:=
  some true
noncomputable def m_ref13_Same_s5 (p0 : GConf) (p1 : GConf) (i259 : Int) : Option (Int ⊕ (Unit ⊕ Bool)):=
  if i259 < (p0.fFlushes.length : Int) then
    (at_ p0.fFlushes i259).bind fun x305=>
    (at_ p1.fFlushes i259).bind fun x309=>
    if x305 = x309 then
      some (.inl (w64 (i259 + 1)))
    else
      some (.inr (.inr false))
  else
    some (.inr (.inl ()))
noncomputable def m_ref13_Same_j3 (p0 : GConf) (p1 : GConf) : Option Bool:=
  (loop (fun s=>m_ref13_Same_s5 p0 p1 s) 0).bind fun e=>Sum.elim (fun e=>m_ref13_Same_j4) (fun x=>some x) e
noncomputable def m_ref13_Same_s6 (p0 : GConf) (p1 : GConf) (i342 : Int) : Option (Int ⊕ (Unit ⊕ Bool)):=
  if i342 < (p0.fAnchors.length : Int) then
    (at_ p0.fAnchors i342).bind fun x388=>
    (at_ p1.fAnchors i342).bind fun x392=>
    if x388 = x392 then
      some (.inl (w64 (i342 + 1)))
    else
      some (.inr (.inr false))
  else
    some (.inr (.inl ()))
noncomputable def m_ref13_Same_j2 (p0 : GConf) (p1 : GConf) : Option Bool:=
  (loop (fun s=>m_ref13_Same_s6 p0 p1 s) 0).bind fun e=>Sum.elim (fun e=>m_ref13_Same_j3 p0 p1) (fun x=>some x) e
noncomputable def m_ref13_Same_s7 (p0 : GConf) (p1 : GConf) (i425 : Int) : Option (Int ⊕ (Unit ⊕ Bool)):=
  if i425 < (p0.fHints.length : Int) then
    (at_ p0.fHints i425).bind fun x471=>
    (at_ p1.fHints i425).bind fun x475=>
    if x471 = x475 then
      some (.inl (w64 (i425 + 1)))
    else
      some (.inr (.inr false))
  else
    some (.inr (.inl ()))
noncomputable def m_ref13_Same_j1 (p0 : GConf) (p1 : GConf) : Option Bool:=
  (loop (fun s=>m_ref13_Same_s7 p0 p1 s) 0).bind fun e=>Sum.elim (fun e=>m_ref13_Same_j2 p0 p1) (fun x=>some x) e
noncomputable def m_ref13_Same_s8 (p0 : GConf) (p1 : GConf) (i508 : Int) : Option (Int ⊕ (Unit ⊕ Bool)):=
  if i508 < (p0.fRing.length : Int) then
    (at_ p0.fRing i508).bind fun x554=>
    (at_ p1.fRing i508).bind fun x558=>
    if x554 ≠ x558 then
      some (.inr (.inr false))
    else
      some (.inl (w64 (i508 + 1)))
  else
    some (.inr (.inl ()))
noncomputable def m_ref13_Same (p0 : GConf) (p1 : GConf) : Option Bool:=
  if p0.fEpoch ≠ p1.fEpoch then
    some false
  else
    if (p0.fRing.length : Int) ≠ (p1.fRing.length : Int) then
      some false
    else
      if (p0.fHints.length : Int) ≠ (p1.fHints.length : Int) then
        some false
      else
        if (p0.fAnchors.length : Int) ≠ (p1.fAnchors.length : Int) then
          some false
        else
          if (p0.fFlushes.length : Int) ≠ (p1.fFlushes.length : Int) then
            some false
          else
            (loop (fun s=>m_ref13_Same_s8 p0 p1 s) 0).bind fun e=>Sum.elim (fun e=>m_ref13_Same_j1 p0 p1) (fun x=>some x) e
theorem c_ref13_Same {w0 : World} {M : Nat→Prop} {H : List (Nat×Nat×Obj)} {R : List (Nat×Row)} {φ : World→Prop} (p0 : GConf) (Ap0_0 : Option Addr) (cp0_0 : Nat) (hcp0_0 : p0.fRing.length ≤ cp0_0) (fp0_0 : ∀ W,(Sta.mk w0 M H R φ).ok W→Cl W Ap0_0 (p0.fRing.flatMap (fun x : Int=>[Value.int .i64 x]))) (Ap0_1 : Option Addr) (cp0_1 : Nat) (hcp0_1 : p0.fHints.length ≤ cp0_1) (fp0_1 : ∀ W,(Sta.mk w0 M H R φ).ok W→Cl W Ap0_1 (p0.fHints.flatMap (fun x : ByteArray=>[Value.string x]))) (Ap0_2 : Option Addr) (cp0_2 : Nat) (hcp0_2 : p0.fAnchors.length ≤ cp0_2) (fp0_2 : ∀ W,(Sta.mk w0 M H R φ).ok W→Cl W Ap0_2 (p0.fAnchors.flatMap GAnchor.enc)) (Ap0_3 : Option Addr) (cp0_3 : Nat) (hcp0_3 : p0.fFlushes.length ≤ cp0_3) (fp0_3 : ∀ W,(Sta.mk w0 M H R φ).ok W→Cl W Ap0_3 (p0.fFlushes.flatMap GFlush.enc)) (p1 : GConf) (Ap1_0 : Option Addr) (cp1_0 : Nat) (hcp1_0 : p1.fRing.length ≤ cp1_0) (fp1_0 : ∀ W,(Sta.mk w0 M H R φ).ok W→Cl W Ap1_0 (p1.fRing.flatMap (fun x : Int=>[Value.int .i64 x]))) (Ap1_1 : Option Addr) (cp1_1 : Nat) (hcp1_1 : p1.fHints.length ≤ cp1_1) (fp1_1 : ∀ W,(Sta.mk w0 M H R φ).ok W→Cl W Ap1_1 (p1.fHints.flatMap (fun x : ByteArray=>[Value.string x]))) (Ap1_2 : Option Addr) (cp1_2 : Nat) (hcp1_2 : p1.fAnchors.length ≤ cp1_2) (fp1_2 : ∀ W,(Sta.mk w0 M H R φ).ok W→Cl W Ap1_2 (p1.fAnchors.flatMap GAnchor.enc)) (Ap1_3 : Option Addr) (cp1_3 : Nat) (hcp1_3 : p1.fFlushes.length ≤ cp1_3) (fp1_3 : ∀ W,(Sta.mk w0 M H R φ).ok W→Cl W Ap1_3 (p1.fFlushes.flatMap GFlush.enc)) (r : Bool) (hm : m_ref13_Same p0 p1 = some r) :
    Cn Tryz.prog 12 #[.agg #[.slice Ap0_0 p0.fRing.length cp0_0,.slice Ap0_1 p0.fHints.length cp0_1,.slice Ap0_2 p0.fAnchors.length cp0_2,Vi p0.fEpoch,.slice Ap0_3 p0.fFlushes.length cp0_3],.agg #[.slice Ap1_0 p1.fRing.length cp1_0,.slice Ap1_1 p1.fHints.length cp1_1,.slice Ap1_2 p1.fAnchors.length cp1_2,Vi p1.fEpoch,.slice Ap1_3 p1.fFlushes.length cp1_3]] ⟨w0,M,H,R,φ⟩ (fun x : Unit=>.bool r) (fun x=>True) (fun x=>⟨w0,M,H,R,φ⟩):=by
 unfold m_ref13_Same at hm
 refine cn_intro (fn:=Tryz.f12) (N:=122) Tryz.func12 rfl Tryz.ntmps12 rfl<|c_seq<|c_region ?_
 refine g_e rfl (e_box 100020 rfl) (fun g1 _=>?_)
 refine g_e rfl (e_box 100030 rfl) (fun g2 _=>?_)
 refine g_v rfl r_assign<|g_nil<|d_then<|c_seq<|c_seq<|c_region<|g_v rfl (r_field (n:=3) Tryz.underlying30 rfl Tryz.sizeOf3 rfl rfl)<|g_v rfl (r_load (tag:=100020) rfl rfl rfl Tryz.isAgg3)<|g_v rfl (r_field (n:=3) Tryz.underlying30 rfl Tryz.sizeOf3 rfl rfl)<|g_v rfl (r_load (tag:=100030) rfl rfl rfl Tryz.isAgg3) ?_
 refine g_v rfl (r_neq rfl rfl)<|g_v rfl r_move<|g_sta ⟨w0,M,(100030,g2,.cells #[.slice Ap1_0 p1.fRing.length cp1_0,.slice Ap1_1 p1.fHints.length cp1_1,.slice Ap1_2 p1.fAnchors.length cp1_2,Vi p1.fEpoch,.slice Ap1_3 p1.fFlushes.length cp1_3] 30 (0,0))::(100020,g1,.cells #[.slice Ap0_0 p0.fRing.length cp0_0,.slice Ap0_1 p0.fHints.length cp0_1,.slice Ap0_2 p0.fAnchors.length cp0_2,Vi p0.fEpoch,.slice Ap0_3 p0.fFlushes.length cp0_3] 30 (0,0))::H,R,φ⟩ (fun _ h=>h) ?_
 refine g_if rfl rfl rfl rfl rfl (fun h3=>?_) (fun h3=>?_)
 ·
  replace hm:=ite_f hm (of_decide_eq_false h3)
  refine g_v rfl (r_field (n:=0) Tryz.underlying30 rfl Tryz.sizeOf25 rfl rfl)<|g_do rfl rfl rfl rfl rfl h3<|g_v rfl (r_load (tag:=100020) rfl rfl rfl Tryz.isAgg25)<|g_do rfl rfl rfl rfl rfl h3<|g_v rfl (r_lenL Tryz.underlying25 rfl)<|g_do rfl rfl rfl rfl rfl h3<|g_v rfl (r_field (n:=0) Tryz.underlying30 rfl Tryz.sizeOf25 rfl rfl)<|g_do rfl rfl rfl rfl rfl h3<|g_v rfl (r_load (tag:=100030) rfl rfl rfl Tryz.isAgg25)<|g_do rfl rfl rfl rfl rfl h3 ?_
  refine g_v rfl (r_lenL Tryz.underlying25 rfl)<|g_do rfl rfl rfl rfl rfl h3<|g_v rfl (r_neq rfl rfl)<|g_v rfl (r_pick0 rfl h3)<|g_v rfl r_move ?_
  refine g_if rfl rfl rfl rfl rfl (fun h4=>?_) (fun h4=>?_)
  ·
   replace hm:=ite_f hm (of_decide_eq_false h4)
   refine g_v rfl (r_field (n:=1) Tryz.underlying30 rfl Tryz.sizeOf26 rfl rfl)<|g_do rfl rfl rfl rfl rfl h4<|g_v rfl (r_load (tag:=100020) rfl rfl rfl Tryz.isAgg26)<|g_do rfl rfl rfl rfl rfl h4<|g_v rfl (r_lenL Tryz.underlying26 rfl)<|g_do rfl rfl rfl rfl rfl h4<|g_v rfl (r_field (n:=1) Tryz.underlying30 rfl Tryz.sizeOf26 rfl rfl)<|g_do rfl rfl rfl rfl rfl h4<|g_v rfl (r_load (tag:=100030) rfl rfl rfl Tryz.isAgg26)<|g_do rfl rfl rfl rfl rfl h4 ?_
   refine g_v rfl (r_lenL Tryz.underlying26 rfl)<|g_do rfl rfl rfl rfl rfl h4<|g_v rfl (r_neq rfl rfl)<|g_v rfl (r_pick0 rfl h4)<|g_v rfl r_move ?_
   refine g_if rfl rfl rfl rfl rfl (fun h5=>?_) (fun h5=>?_)
   ·
    replace hm:=ite_f hm (of_decide_eq_false h5)
    refine g_v rfl (r_field (n:=2) Tryz.underlying30 rfl Tryz.sizeOf27 rfl rfl)<|g_do rfl rfl rfl rfl rfl h5<|g_v rfl (r_load (tag:=100020) rfl rfl rfl Tryz.isAgg27)<|g_do rfl rfl rfl rfl rfl h5<|g_v rfl (r_lenL Tryz.underlying27 rfl)<|g_do rfl rfl rfl rfl rfl h5<|g_v rfl (r_field (n:=2) Tryz.underlying30 rfl Tryz.sizeOf27 rfl rfl)<|g_do rfl rfl rfl rfl rfl h5<|g_v rfl (r_load (tag:=100030) rfl rfl rfl Tryz.isAgg27)<|g_do rfl rfl rfl rfl rfl h5 ?_
    refine g_v rfl (r_lenL Tryz.underlying27 rfl)<|g_do rfl rfl rfl rfl rfl h5<|g_v rfl (r_neq rfl rfl)<|g_v rfl (r_pick0 rfl h5)<|g_v rfl r_move ?_
    refine g_if rfl rfl rfl rfl rfl (fun h6=>?_) (fun h6=>?_)
    ·
     replace hm:=ite_f hm (of_decide_eq_false h6)
     refine g_v rfl (r_field (n:=4) Tryz.underlying30 rfl Tryz.sizeOf28 rfl rfl)<|g_do rfl rfl rfl rfl rfl h6<|g_v rfl (r_load (tag:=100020) rfl rfl rfl Tryz.isAgg28)<|g_do rfl rfl rfl rfl rfl h6<|g_v rfl (r_lenL Tryz.underlying28 rfl)<|g_do rfl rfl rfl rfl rfl h6<|g_v rfl (r_field (n:=4) Tryz.underlying30 rfl Tryz.sizeOf28 rfl rfl)<|g_do rfl rfl rfl rfl rfl h6<|g_v rfl (r_load (tag:=100030) rfl rfl rfl Tryz.isAgg28)<|g_do rfl rfl rfl rfl rfl h6 ?_
     refine g_v rfl (r_lenL Tryz.underlying28 rfl)<|g_do rfl rfl rfl rfl rfl h6<|g_v rfl (r_neq rfl rfl)<|g_v rfl (r_pick0 rfl h6)<|g_nil<|d_then ?_
     refine c_flat [(2,Vp g1),(3,Vp g2),(49,.bool (decide ((p0.fFlushes.length : Int) ≠ (p1.fFlushes.length : Int))))] ⟨rfl,rfl,rfl,trivial⟩ (fun u=>?_)
     refine c_cond rfl (fun h7=>?_) (fun h7=>?_)
     ·
      replace hm:=ite_t hm (of_decide_eq_true h7)
      refine c_seq<|c_region<|g_v rfl r_assign<|g_nil<|d_then<|c_ret<|d_ret_then ?_
      cases hm
      exact d_retC () Tryz.results12 (res_tmp (res_nil rfl)) trivial (fun W h=>ok_pre (H1:=[_,_]) (R1:=[]) h (fun W hφ=>hφ)) (.inr rfl)
     replace hm:=ite_f hm (of_decide_eq_false h7)
     refine c_skip<|d_then<|c_seq<|c_seq<|c_region<|g_v rfl r_assign<|g_nil<|d_then ?_
     refine c_cut (ι:=Unit) [2,3] (fun _=>[]) (fun _=>⟨w0,M,(100030,g2,.cells #[.slice Ap1_0 p1.fRing.length cp1_0,.slice Ap1_1 p1.fHints.length cp1_1,.slice Ap1_2 p1.fAnchors.length cp1_2,Vi p1.fEpoch,.slice Ap1_3 p1.fFlushes.length cp1_3] 30 (0,0))::(100020,g1,.cells #[.slice Ap0_0 p0.fRing.length cp0_0,.slice Ap0_1 p0.fHints.length cp0_1,.slice Ap0_2 p0.fAnchors.length cp0_2,Vi p0.fEpoch,.slice Ap0_3 p0.fFlushes.length cp0_3] 30 (0,0))::H,R,φ⟩) (fun _=>m_ref13_Same_j1 p0 p1 = some r) ?_ (fun _ u hm=>?_)
     ·
      refine c_block ?_
      replace hm:=bnd hm
      obtain ⟨out8,hl8,hr8⟩:=hm
      obtain ⟨n536',hl8⟩:=loop_lp hl8
      refine c_loopU (ι:=Nat×Int) [2,3,5] (fun ⟨n536,i508⟩=>[(5,Vi i508)]) (fun ⟨n536,i508⟩=>⟨w0,M,(100030,g2,.cells #[.slice Ap1_0 p1.fRing.length cp1_0,.slice Ap1_1 p1.fHints.length cp1_1,.slice Ap1_2 p1.fAnchors.length cp1_2,Vi p1.fEpoch,.slice Ap1_3 p1.fFlushes.length cp1_3] 30 (0,0))::(100020,g1,.cells #[.slice Ap0_0 p0.fRing.length cp0_0,.slice Ap0_1 p0.fHints.length cp0_1,.slice Ap0_2 p0.fAnchors.length cp0_2,Vi p0.fEpoch,.slice Ap0_3 p0.fFlushes.length cp0_3] 30 (0,0))::H,R,φ⟩) (fun ⟨n536,i508⟩=>Lp (fun s=>m_ref13_Same_s8 p0 p1 s) n536 i508 out8) (fun ⟨n536,i508⟩=>n536) (n536',0) hl8 ⟨rfl,rfl,rfl,trivial⟩ (fun W h=>h.phi (fun W hφ=>hφ)) (fun ⟨n536,i508⟩ u hlp=>?_)
      obtain ⟨o8,hm,hnx8⟩:=lp_step hlp
      clear hlp
      replace hm : m_ref13_Same_s8 p0 p1 i508 = some o8:=hm
      unfold m_ref13_Same_s8 at hm
      refine c_flat [(2,Vp g1),(3,Vp g2),(5,Vi i508)] ⟨rfl,rfl,rfl,trivial⟩ (fun u=>?_)
      refine c_seq<|c_seq<|c_region<|g_v rfl r_move<|g_v rfl (r_field (n:=0) Tryz.underlying30 rfl Tryz.sizeOf25 rfl rfl)<|g_v rfl (r_load (tag:=100020) rfl rfl rfl Tryz.isAgg25)<|g_v rfl (r_lenL Tryz.underlying25 rfl)<|g_v rfl (r_lss rfl rfl)<|g_nil<|d_then ?_
      refine c_cond rfl (fun h537=>?_) (fun h537=>?_)
      ·
       replace hm:=ite_t hm (of_decide_eq_true h537)
       refine c_skip<|d_then<|c_seq<|c_block<|c_seq<|ga_start (n:=11) ⟨w0,M,(100030,g2,.cells #[.slice Ap1_0 p1.fRing.length cp1_0,.slice Ap1_1 p1.fHints.length cp1_1,.slice Ap1_2 p1.fAnchors.length cp1_2,Vi p1.fEpoch,.slice Ap1_3 p1.fFlushes.length cp1_3] 30 (0,0))::(100020,g1,.cells #[.slice Ap0_0 p0.fRing.length cp0_0,.slice Ap0_1 p0.fHints.length cp0_1,.slice Ap0_2 p0.fAnchors.length cp0_2,Vi p0.fEpoch,.slice Ap0_3 p0.fFlushes.length cp0_3] 30 (0,0))::H,R,φ⟩ [] #[false,false,false,false,false,false,false,false,false,false,false] (fun W h=>h.phi (fun W hφ=>hφ)) mixed rfl rfl<|ga_v (i:=0) (bz 11 1) rfl (by kernel_rfl) (fun _ _ _ _ h=>h) rfl (r_field (n:=0) Tryz.underlying30 rfl Tryz.sizeOf25 rfl rfl)<|ga_v (i:=1) (bz 11 3) rfl (by kernel_rfl) (fun _ _ _ _ h=>h) rfl (r_load (tag:=100020) rfl rfl rfl Tryz.isAgg25)<|ga_v (i:=2) (bz 11 7) rfl (by kernel_rfl) (fun _ _ _ _ h=>h) rfl (r_move) ?_
       replace hm:=bnd hm
       obtain ⟨x554,hx554,hm⟩:=hm
       refine ga_know _ (fun W hS=>cl_at (p:=(Sta.mk w0 M H R φ).ok) (sz:=1) (fun _=>rfl) (by decide) (ok_pre (H1:=[_,_]) (R1:=[]) hS (fun W h=>h)) fp0_0 hx554) ?_
       rintro ⟨ad555,hA557,f556⟩
       refine ga_v (i:=3) (bz 11 15) rfl (by kernel_rfl) (fun _ _ _ _ h=>h) rfl (r_ix Tryz.underlying25 Tryz.sizeOf3 rfl hA557 rfl hx554)<|ga_v (i:=4) (bz 11 31) rfl (by kernel_rfl) (fun _ _ _ _ h=>h) rfl (r_ld rfl Tryz.isAgg3 (fun W hS=>Cl.head (f556 W (ok_pre (H1:=[_,_]) (R1:=[]) hS (fun W h=>h)))))<|ga_v (i:=5) (bz 11 63) rfl (by kernel_rfl) (fun _ _ _ _ h=>h) rfl (r_field (n:=0) Tryz.underlying30 rfl Tryz.sizeOf25 rfl rfl)<|ga_v (i:=6) (bz 11 127) rfl (by kernel_rfl) (fun _ _ _ _ h=>h) rfl (r_load (tag:=100030) rfl rfl rfl Tryz.isAgg25)<|ga_r (i:=7) (bz 11 255) rfl (by kernel_rfl) (by decide) rfl (r_move) ?_
       replace hm:=bnd hm
       obtain ⟨x558,hx558,hm⟩:=hm
       refine ga_know _ (fun W hS=>cl_at (p:=(Sta.mk w0 M H R φ).ok) (sz:=1) (fun _=>rfl) (by decide) (ok_pre (H1:=[_,_]) (R1:=[]) hS (fun W h=>h)) fp1_0 hx558) ?_
       rintro ⟨ad559,hA561,f560⟩
       refine ga_r (i:=8) (bz 11 511) rfl (by kernel_rfl) (by decide) rfl (r_ix Tryz.underlying25 Tryz.sizeOf3 rfl hA561 rfl hx558)<|ga_r (i:=9) (bz 11 1023) rfl (by kernel_rfl) (by decide) rfl (r_ld rfl Tryz.isAgg3 (fun W hS=>Cl.head (f560 W (ok_pre (H1:=[_,_]) (R1:=[]) hS (fun W h=>h)))))<|ga_r (i:=10) (bz 11 2047) rfl (by kernel_rfl) (by decide) rfl (r_neq rfl rfl)<|ga_done (by kernel_rfl)<|d_then ?_
       refine c_flat [(2,Vp g1),(3,Vp g2),(5,Vi i508),(67,.bool (decide (x554 ≠ x558)))] ⟨rfl,rfl,rfl,rfl,trivial⟩ (fun u=>?_)
       refine c_cond rfl (fun h562=>?_) (fun h562=>?_)
       ·
        replace hm:=ite_t hm (of_decide_eq_true h562)
        refine c_seq<|c_region<|g_v rfl r_assign<|g_nil<|d_then<|c_ret<|d_ret_block<|d_ret_then<|d_ret_then<|d_ret_block ?_
        refine d_ret_then<|d_ret_then ?_
        replace hm:=nx_out (C:=(fun e : Unit ⊕ Bool=>Sum.elim (fun e=>m_ref13_Same_j1 p0 p1) (fun x=>some x) e = some r)) hm hnx8 hr8
        replace hm : some false = some r:=hm
        cases hm
        exact d_retC () Tryz.results12 (res_tmp (res_nil rfl)) trivial (fun W h=>ok_pre (H1:=[_,_]) (R1:=[]) h (fun W hφ=>hφ)) (.inr rfl)
       replace hm:=ite_f hm (of_decide_eq_false h562)
       refine c_skip<|d_normal_block<|d_then<|c_region<|g_v rfl r_move<|g_v rfl (r_add rfl rfl rfl)<|g_v rfl r_assign<|g_nil ?_
       obtain ⟨n563,hn563,hlp⟩:=nx_inl hm hnx8
       exact d_round (n563,w64 (i508 + 1)) hlp hn563 ⟨rfl,rfl,rfl,trivial⟩ (fun W h=>h.phi (fun W hφ=>hφ))
      replace hm:=ite_f hm (of_decide_eq_false h537)
      refine c_exit<|d_exit_then<|d_exit_then<|d_exit_block ?_
      replace hm:=nx_out (C:=(fun e : Unit ⊕ Bool=>Sum.elim (fun e=>m_ref13_Same_j1 p0 p1) (fun x=>some x) e = some r)) hm hnx8 hr8
      exact d_round () hm Nat.zero_lt_one ⟨rfl,rfl,trivial⟩ (fun W h=>h.phi (fun W hφ=>hφ))
     unfold m_ref13_Same_j1 at hm
     refine d_flat [(2,Vp g1),(3,Vp g2)] ⟨rfl,rfl,trivial⟩ (fun u=>?_)
     refine d_then<|c_seq<|c_seq<|c_region<|g_v rfl r_assign<|g_nil<|d_then ?_
     refine c_cut (ι:=Unit) [2,3] (fun _=>[]) (fun _=>⟨w0,M,(100030,g2,.cells #[.slice Ap1_0 p1.fRing.length cp1_0,.slice Ap1_1 p1.fHints.length cp1_1,.slice Ap1_2 p1.fAnchors.length cp1_2,Vi p1.fEpoch,.slice Ap1_3 p1.fFlushes.length cp1_3] 30 (0,0))::(100020,g1,.cells #[.slice Ap0_0 p0.fRing.length cp0_0,.slice Ap0_1 p0.fHints.length cp0_1,.slice Ap0_2 p0.fAnchors.length cp0_2,Vi p0.fEpoch,.slice Ap0_3 p0.fFlushes.length cp0_3] 30 (0,0))::H,R,φ⟩) (fun _=>m_ref13_Same_j2 p0 p1 = some r) ?_ (fun _ u hm=>?_)
     ·
      refine c_block ?_
      replace hm:=bnd hm
      obtain ⟨out7,hl7,hr7⟩:=hm
      obtain ⟨n453',hl7⟩:=loop_lp hl7
      refine c_loopU (ι:=Nat×Int) [2,3,6] (fun ⟨n453,i425⟩=>[(6,Vi i425)]) (fun ⟨n453,i425⟩=>⟨w0,M,(100030,g2,.cells #[.slice Ap1_0 p1.fRing.length cp1_0,.slice Ap1_1 p1.fHints.length cp1_1,.slice Ap1_2 p1.fAnchors.length cp1_2,Vi p1.fEpoch,.slice Ap1_3 p1.fFlushes.length cp1_3] 30 (0,0))::(100020,g1,.cells #[.slice Ap0_0 p0.fRing.length cp0_0,.slice Ap0_1 p0.fHints.length cp0_1,.slice Ap0_2 p0.fAnchors.length cp0_2,Vi p0.fEpoch,.slice Ap0_3 p0.fFlushes.length cp0_3] 30 (0,0))::H,R,φ⟩) (fun ⟨n453,i425⟩=>Lp (fun s=>m_ref13_Same_s7 p0 p1 s) n453 i425 out7) (fun ⟨n453,i425⟩=>n453) (n453',0) hl7 ⟨rfl,rfl,rfl,trivial⟩ (fun W h=>h.phi (fun W hφ=>hφ)) (fun ⟨n453,i425⟩ u hlp=>?_)
      obtain ⟨o7,hm,hnx7⟩:=lp_step hlp
      clear hlp
      replace hm : m_ref13_Same_s7 p0 p1 i425 = some o7:=hm
      unfold m_ref13_Same_s7 at hm
      refine c_flat [(2,Vp g1),(3,Vp g2),(6,Vi i425)] ⟨rfl,rfl,rfl,trivial⟩ (fun u=>?_)
      refine c_seq<|c_seq<|c_region<|g_v rfl r_move<|g_v rfl (r_field (n:=1) Tryz.underlying30 rfl Tryz.sizeOf26 rfl rfl)<|g_v rfl (r_load (tag:=100020) rfl rfl rfl Tryz.isAgg26)<|g_v rfl (r_lenL Tryz.underlying26 rfl)<|g_v rfl (r_lss rfl rfl)<|g_nil<|d_then ?_
      refine c_cond rfl (fun h454=>?_) (fun h454=>?_)
      ·
       replace hm:=ite_t hm (of_decide_eq_true h454)
       refine c_skip<|d_then<|c_seq<|c_block<|c_seq<|ga_start (n:=11) ⟨w0,M,(100030,g2,.cells #[.slice Ap1_0 p1.fRing.length cp1_0,.slice Ap1_1 p1.fHints.length cp1_1,.slice Ap1_2 p1.fAnchors.length cp1_2,Vi p1.fEpoch,.slice Ap1_3 p1.fFlushes.length cp1_3] 30 (0,0))::(100020,g1,.cells #[.slice Ap0_0 p0.fRing.length cp0_0,.slice Ap0_1 p0.fHints.length cp0_1,.slice Ap0_2 p0.fAnchors.length cp0_2,Vi p0.fEpoch,.slice Ap0_3 p0.fFlushes.length cp0_3] 30 (0,0))::H,R,φ⟩ [] #[false,false,false,false,false,false,false,false,false,false,false] (fun W h=>h.phi (fun W hφ=>hφ)) mixed rfl rfl<|ga_v (i:=0) (bz 11 1) rfl (by kernel_rfl) (fun _ _ _ _ h=>h) rfl (r_field (n:=1) Tryz.underlying30 rfl Tryz.sizeOf26 rfl rfl)<|ga_v (i:=1) (bz 11 3) rfl (by kernel_rfl) (fun _ _ _ _ h=>h) rfl (r_load (tag:=100020) rfl rfl rfl Tryz.isAgg26)<|ga_v (i:=2) (bz 11 7) rfl (by kernel_rfl) (fun _ _ _ _ h=>h) rfl (r_move) ?_
       replace hm:=bnd hm
       obtain ⟨x471,hx471,hm⟩:=hm
       refine ga_know _ (fun W hS=>cl_at (p:=(Sta.mk w0 M H R φ).ok) (sz:=1) (fun _=>rfl) (by decide) (ok_pre (H1:=[_,_]) (R1:=[]) hS (fun W h=>h)) fp0_1 hx471) ?_
       rintro ⟨ad472,hA474,f473⟩
       refine ga_v (i:=3) (bz 11 15) rfl (by kernel_rfl) (fun _ _ _ _ h=>h) rfl (r_ix Tryz.underlying26 Tryz.sizeOf9 rfl hA474 rfl hx471)<|ga_v (i:=4) (bz 11 31) rfl (by kernel_rfl) (fun _ _ _ _ h=>h) rfl (r_ld rfl Tryz.isAgg9 (fun W hS=>Cl.head (f473 W (ok_pre (H1:=[_,_]) (R1:=[]) hS (fun W h=>h)))))<|ga_v (i:=5) (bz 11 63) rfl (by kernel_rfl) (fun _ _ _ _ h=>h) rfl (r_field (n:=1) Tryz.underlying30 rfl Tryz.sizeOf26 rfl rfl)<|ga_v (i:=6) (bz 11 127) rfl (by kernel_rfl) (fun _ _ _ _ h=>h) rfl (r_load (tag:=100030) rfl rfl rfl Tryz.isAgg26)<|ga_r (i:=7) (bz 11 255) rfl (by kernel_rfl) (by decide) rfl (r_move) ?_
       replace hm:=bnd hm
       obtain ⟨x475,hx475,hm⟩:=hm
       refine ga_know _ (fun W hS=>cl_at (p:=(Sta.mk w0 M H R φ).ok) (sz:=1) (fun _=>rfl) (by decide) (ok_pre (H1:=[_,_]) (R1:=[]) hS (fun W h=>h)) fp1_1 hx475) ?_
       rintro ⟨ad476,hA478,f477⟩
       refine ga_r (i:=8) (bz 11 511) rfl (by kernel_rfl) (by decide) rfl (r_ix Tryz.underlying26 Tryz.sizeOf9 rfl hA478 rfl hx475)<|ga_r (i:=9) (bz 11 1023) rfl (by kernel_rfl) (by decide) rfl (r_ld rfl Tryz.isAgg9 (fun W hS=>Cl.head (f477 W (ok_pre (H1:=[_,_]) (R1:=[]) hS (fun W h=>h)))))<|ga_r (i:=10) (bz 11 2047) rfl (by kernel_rfl) (by decide) rfl (r_neqT rfl rfl)<|ga_done (by kernel_rfl)<|d_then ?_
       refine c_flat [(2,Vp g1),(3,Vp g2),(6,Vi i425),(85,.bool (!(decide (x471 = x475))))] ⟨rfl,rfl,rfl,rfl,trivial⟩ (fun u=>?_)
       refine c_cond rfl (fun h479=>?_) (fun h479=>?_)
       ·
        have h479' : (decide (x471 = x475)) = false:=by revert h479; cases (decide (x471 = x475)) <;> simp
        replace hm:=ite_f hm (of_decide_eq_false h479')
        refine c_seq<|c_region<|g_v rfl r_assign<|g_nil<|d_then<|c_ret<|d_ret_block<|d_ret_then<|d_ret_then<|d_ret_block ?_
        refine d_ret_then<|d_ret_then ?_
        replace hm:=nx_out (C:=(fun e : Unit ⊕ Bool=>Sum.elim (fun e=>m_ref13_Same_j2 p0 p1) (fun x=>some x) e = some r)) hm hnx7 hr7
        replace hm : some false = some r:=hm
        cases hm
        exact d_retC () Tryz.results12 (res_tmp (res_nil rfl)) trivial (fun W h=>ok_pre (H1:=[_,_]) (R1:=[]) h (fun W hφ=>hφ)) (.inr rfl)
       have h479' : (decide (x471 = x475)) = true:=by revert h479; cases (decide (x471 = x475)) <;> simp
       replace hm:=ite_t hm (of_decide_eq_true h479')
       refine c_skip<|d_normal_block<|d_then<|c_region<|g_v rfl r_move<|g_v rfl (r_add rfl rfl rfl)<|g_v rfl r_assign<|g_nil ?_
       obtain ⟨n480,hn480,hlp⟩:=nx_inl hm hnx7
       exact d_round (n480,w64 (i425 + 1)) hlp hn480 ⟨rfl,rfl,rfl,trivial⟩ (fun W h=>h.phi (fun W hφ=>hφ))
      replace hm:=ite_f hm (of_decide_eq_false h454)
      refine c_exit<|d_exit_then<|d_exit_then<|d_exit_block ?_
      replace hm:=nx_out (C:=(fun e : Unit ⊕ Bool=>Sum.elim (fun e=>m_ref13_Same_j2 p0 p1) (fun x=>some x) e = some r)) hm hnx7 hr7
      exact d_round () hm Nat.zero_lt_one ⟨rfl,rfl,trivial⟩ (fun W h=>h.phi (fun W hφ=>hφ))
     unfold m_ref13_Same_j2 at hm
     refine d_flat [(2,Vp g1),(3,Vp g2)] ⟨rfl,rfl,trivial⟩ (fun u=>?_)
     refine d_then<|c_seq<|c_seq<|c_region<|g_v rfl r_assign<|g_nil<|d_then ?_
     refine c_cut (ι:=Unit) [2,3] (fun _=>[]) (fun _=>⟨w0,M,(100030,g2,.cells #[.slice Ap1_0 p1.fRing.length cp1_0,.slice Ap1_1 p1.fHints.length cp1_1,.slice Ap1_2 p1.fAnchors.length cp1_2,Vi p1.fEpoch,.slice Ap1_3 p1.fFlushes.length cp1_3] 30 (0,0))::(100020,g1,.cells #[.slice Ap0_0 p0.fRing.length cp0_0,.slice Ap0_1 p0.fHints.length cp0_1,.slice Ap0_2 p0.fAnchors.length cp0_2,Vi p0.fEpoch,.slice Ap0_3 p0.fFlushes.length cp0_3] 30 (0,0))::H,R,φ⟩) (fun _=>m_ref13_Same_j3 p0 p1 = some r) ?_ (fun _ u hm=>?_)
     ·
      refine c_block ?_
      replace hm:=bnd hm
      obtain ⟨out6,hl6,hr6⟩:=hm
      obtain ⟨n370',hl6⟩:=loop_lp hl6
      refine c_loopU (ι:=Nat×Int) [2,3,7] (fun ⟨n370,i342⟩=>[(7,Vi i342)]) (fun ⟨n370,i342⟩=>⟨w0,M,(100030,g2,.cells #[.slice Ap1_0 p1.fRing.length cp1_0,.slice Ap1_1 p1.fHints.length cp1_1,.slice Ap1_2 p1.fAnchors.length cp1_2,Vi p1.fEpoch,.slice Ap1_3 p1.fFlushes.length cp1_3] 30 (0,0))::(100020,g1,.cells #[.slice Ap0_0 p0.fRing.length cp0_0,.slice Ap0_1 p0.fHints.length cp0_1,.slice Ap0_2 p0.fAnchors.length cp0_2,Vi p0.fEpoch,.slice Ap0_3 p0.fFlushes.length cp0_3] 30 (0,0))::H,R,φ⟩) (fun ⟨n370,i342⟩=>Lp (fun s=>m_ref13_Same_s6 p0 p1 s) n370 i342 out6) (fun ⟨n370,i342⟩=>n370) (n370',0) hl6 ⟨rfl,rfl,rfl,trivial⟩ (fun W h=>h.phi (fun W hφ=>hφ)) (fun ⟨n370,i342⟩ u hlp=>?_)
      obtain ⟨o6,hm,hnx6⟩:=lp_step hlp
      clear hlp
      replace hm : m_ref13_Same_s6 p0 p1 i342 = some o6:=hm
      unfold m_ref13_Same_s6 at hm
      refine c_flat [(2,Vp g1),(3,Vp g2),(7,Vi i342)] ⟨rfl,rfl,rfl,trivial⟩ (fun u=>?_)
      refine c_seq<|c_seq<|c_region<|g_v rfl r_move<|g_v rfl (r_field (n:=2) Tryz.underlying30 rfl Tryz.sizeOf27 rfl rfl)<|g_v rfl (r_load (tag:=100020) rfl rfl rfl Tryz.isAgg27)<|g_v rfl (r_lenL Tryz.underlying27 rfl)<|g_v rfl (r_lss rfl rfl)<|g_nil<|d_then ?_
      refine c_cond rfl (fun h371=>?_) (fun h371=>?_)
      ·
       replace hm:=ite_t hm (of_decide_eq_true h371)
       refine c_skip<|d_then<|c_seq<|c_block<|c_seq<|ga_start (n:=11) ⟨w0,M,(100030,g2,.cells #[.slice Ap1_0 p1.fRing.length cp1_0,.slice Ap1_1 p1.fHints.length cp1_1,.slice Ap1_2 p1.fAnchors.length cp1_2,Vi p1.fEpoch,.slice Ap1_3 p1.fFlushes.length cp1_3] 30 (0,0))::(100020,g1,.cells #[.slice Ap0_0 p0.fRing.length cp0_0,.slice Ap0_1 p0.fHints.length cp0_1,.slice Ap0_2 p0.fAnchors.length cp0_2,Vi p0.fEpoch,.slice Ap0_3 p0.fFlushes.length cp0_3] 30 (0,0))::H,R,φ⟩ [] #[false,false,false,false,false,false,false,false,false,false,false] (fun W h=>h.phi (fun W hφ=>hφ)) mixed rfl rfl<|ga_v (i:=0) (bz 11 1) rfl (by kernel_rfl) (fun _ _ _ _ h=>h) rfl (r_field (n:=2) Tryz.underlying30 rfl Tryz.sizeOf27 rfl rfl)<|ga_v (i:=1) (bz 11 3) rfl (by kernel_rfl) (fun _ _ _ _ h=>h) rfl (r_load (tag:=100020) rfl rfl rfl Tryz.isAgg27)<|ga_v (i:=2) (bz 11 7) rfl (by kernel_rfl) (fun _ _ _ _ h=>h) rfl (r_move) ?_
       replace hm:=bnd hm
       obtain ⟨x388,hx388,hm⟩:=hm
       refine ga_know _ (fun W hS=>cl_at (p:=(Sta.mk w0 M H R φ).ok) (sz:=2) (fun _=>rfl) (by decide) (ok_pre (H1:=[_,_]) (R1:=[]) hS (fun W h=>h)) fp0_2 hx388) ?_
       rintro ⟨ad389,hA391,f390⟩
       refine ga_v (i:=3) (bz 11 15) rfl (by kernel_rfl) (fun _ _ _ _ h=>h) rfl (r_ix Tryz.underlying27 Tryz.sizeOf55 rfl hA391 rfl hx388)<|ga_v (i:=4) (bz 11 31) rfl (by kernel_rfl) (fun _ _ _ _ h=>h) rfl (r_ldA rfl Tryz.isAgg55 Tryz.sizeOf55 (fun W hS=>(f390 W (ok_pre (H1:=[_,_]) (R1:=[]) hS (fun W h=>h))).take 2) rfl)<|ga_v (i:=5) (bz 11 63) rfl (by kernel_rfl) (fun _ _ _ _ h=>h) rfl (r_field (n:=2) Tryz.underlying30 rfl Tryz.sizeOf27 rfl rfl)<|ga_v (i:=6) (bz 11 127) rfl (by kernel_rfl) (fun _ _ _ _ h=>h) rfl (r_load (tag:=100030) rfl rfl rfl Tryz.isAgg27)<|ga_r (i:=7) (bz 11 255) rfl (by kernel_rfl) (by decide) rfl (r_move) ?_
       replace hm:=bnd hm
       obtain ⟨x392,hx392,hm⟩:=hm
       refine ga_know _ (fun W hS=>cl_at (p:=(Sta.mk w0 M H R φ).ok) (sz:=2) (fun _=>rfl) (by decide) (ok_pre (H1:=[_,_]) (R1:=[]) hS (fun W h=>h)) fp1_2 hx392) ?_
       rintro ⟨ad393,hA395,f394⟩
       refine ga_r (i:=8) (bz 11 511) rfl (by kernel_rfl) (by decide) rfl (r_ix Tryz.underlying27 Tryz.sizeOf55 rfl hA395 rfl hx392)<|ga_r (i:=9) (bz 11 1023) rfl (by kernel_rfl) (by decide) rfl (r_ldA rfl Tryz.isAgg55 Tryz.sizeOf55 (fun W hS=>(f394 W (ok_pre (H1:=[_,_]) (R1:=[]) hS (fun W h=>h))).take 2) rfl)<|ga_r (i:=10) (bz 11 2047) rfl (by kernel_rfl) (by decide) rfl (r_neqA rfl rfl eqg55 (eqq55 x388 x392))<|ga_done (by kernel_rfl)<|d_then ?_
       refine c_flat [(2,Vp g1),(3,Vp g2),(7,Vi i342),(103,.bool (!(decide (x388 = x392))))] ⟨rfl,rfl,rfl,rfl,trivial⟩ (fun u=>?_)
       refine c_cond rfl (fun h396=>?_) (fun h396=>?_)
       ·
        have h396' : (decide (x388 = x392)) = false:=by revert h396; cases (decide (x388 = x392)) <;> simp
        replace hm:=ite_f hm (of_decide_eq_false h396')
        refine c_seq<|c_region<|g_v rfl r_assign<|g_nil<|d_then<|c_ret<|d_ret_block<|d_ret_then<|d_ret_then<|d_ret_block ?_
        refine d_ret_then<|d_ret_then ?_
        replace hm:=nx_out (C:=(fun e : Unit ⊕ Bool=>Sum.elim (fun e=>m_ref13_Same_j3 p0 p1) (fun x=>some x) e = some r)) hm hnx6 hr6
        replace hm : some false = some r:=hm
        cases hm
        exact d_retC () Tryz.results12 (res_tmp (res_nil rfl)) trivial (fun W h=>ok_pre (H1:=[_,_]) (R1:=[]) h (fun W hφ=>hφ)) (.inr rfl)
       have h396' : (decide (x388 = x392)) = true:=by revert h396; cases (decide (x388 = x392)) <;> simp
       replace hm:=ite_t hm (of_decide_eq_true h396')
       refine c_skip<|d_normal_block<|d_then<|c_region<|g_v rfl r_move<|g_v rfl (r_add rfl rfl rfl)<|g_v rfl r_assign<|g_nil ?_
       obtain ⟨n397,hn397,hlp⟩:=nx_inl hm hnx6
       exact d_round (n397,w64 (i342 + 1)) hlp hn397 ⟨rfl,rfl,rfl,trivial⟩ (fun W h=>h.phi (fun W hφ=>hφ))
      replace hm:=ite_f hm (of_decide_eq_false h371)
      refine c_exit<|d_exit_then<|d_exit_then<|d_exit_block ?_
      replace hm:=nx_out (C:=(fun e : Unit ⊕ Bool=>Sum.elim (fun e=>m_ref13_Same_j3 p0 p1) (fun x=>some x) e = some r)) hm hnx6 hr6
      exact d_round () hm Nat.zero_lt_one ⟨rfl,rfl,trivial⟩ (fun W h=>h.phi (fun W hφ=>hφ))
     unfold m_ref13_Same_j3 at hm
     refine d_flat [(2,Vp g1),(3,Vp g2)] ⟨rfl,rfl,trivial⟩ (fun u=>?_)
     refine d_then<|c_seq<|c_seq<|c_region<|g_v rfl r_assign<|g_nil<|d_then ?_
     refine c_cut (ι:=Unit) [] (fun _=>[]) (fun _=>⟨w0,M,H,R,φ⟩) (fun _=>m_ref13_Same_j4 = some r) ?_ (fun _ u hm=>?_)
     ·
      refine c_block ?_
      replace hm:=bnd hm
      obtain ⟨out5,hl5,hr5⟩:=hm
      obtain ⟨n287',hl5⟩:=loop_lp hl5
      refine c_loopU (ι:=Nat×Int) [2,3,8] (fun ⟨n287,i259⟩=>[(8,Vi i259)]) (fun ⟨n287,i259⟩=>⟨w0,M,(100030,g2,.cells #[.slice Ap1_0 p1.fRing.length cp1_0,.slice Ap1_1 p1.fHints.length cp1_1,.slice Ap1_2 p1.fAnchors.length cp1_2,Vi p1.fEpoch,.slice Ap1_3 p1.fFlushes.length cp1_3] 30 (0,0))::(100020,g1,.cells #[.slice Ap0_0 p0.fRing.length cp0_0,.slice Ap0_1 p0.fHints.length cp0_1,.slice Ap0_2 p0.fAnchors.length cp0_2,Vi p0.fEpoch,.slice Ap0_3 p0.fFlushes.length cp0_3] 30 (0,0))::H,R,φ⟩) (fun ⟨n287,i259⟩=>Lp (fun s=>m_ref13_Same_s5 p0 p1 s) n287 i259 out5) (fun ⟨n287,i259⟩=>n287) (n287',0) hl5 ⟨rfl,rfl,rfl,trivial⟩ (fun W h=>h.phi (fun W hφ=>hφ)) (fun ⟨n287,i259⟩ u hlp=>?_)
      obtain ⟨o5,hm,hnx5⟩:=lp_step hlp
      clear hlp
      replace hm : m_ref13_Same_s5 p0 p1 i259 = some o5:=hm
      unfold m_ref13_Same_s5 at hm
      refine c_flat [(2,Vp g1),(3,Vp g2),(8,Vi i259)] ⟨rfl,rfl,rfl,trivial⟩ (fun u=>?_)
      refine c_seq<|c_seq<|c_region<|g_v rfl r_move<|g_v rfl (r_field (n:=4) Tryz.underlying30 rfl Tryz.sizeOf28 rfl rfl)<|g_v rfl (r_load (tag:=100020) rfl rfl rfl Tryz.isAgg28)<|g_v rfl (r_lenL Tryz.underlying28 rfl)<|g_v rfl (r_lss rfl rfl)<|g_nil<|d_then ?_
      refine c_cond rfl (fun h288=>?_) (fun h288=>?_)
      ·
       replace hm:=ite_t hm (of_decide_eq_true h288)
       refine c_skip<|d_then<|c_seq<|c_block<|c_seq<|ga_start (n:=11) ⟨w0,M,(100030,g2,.cells #[.slice Ap1_0 p1.fRing.length cp1_0,.slice Ap1_1 p1.fHints.length cp1_1,.slice Ap1_2 p1.fAnchors.length cp1_2,Vi p1.fEpoch,.slice Ap1_3 p1.fFlushes.length cp1_3] 30 (0,0))::(100020,g1,.cells #[.slice Ap0_0 p0.fRing.length cp0_0,.slice Ap0_1 p0.fHints.length cp0_1,.slice Ap0_2 p0.fAnchors.length cp0_2,Vi p0.fEpoch,.slice Ap0_3 p0.fFlushes.length cp0_3] 30 (0,0))::H,R,φ⟩ [] #[false,false,false,false,false,false,false,false,false,false,false] (fun W h=>h.phi (fun W hφ=>hφ)) mixed rfl rfl<|ga_v (i:=0) (bz 11 1) rfl (by kernel_rfl) (fun _ _ _ _ h=>h) rfl (r_field (n:=4) Tryz.underlying30 rfl Tryz.sizeOf28 rfl rfl)<|ga_v (i:=1) (bz 11 3) rfl (by kernel_rfl) (fun _ _ _ _ h=>h) rfl (r_load (tag:=100020) rfl rfl rfl Tryz.isAgg28)<|ga_v (i:=2) (bz 11 7) rfl (by kernel_rfl) (fun _ _ _ _ h=>h) rfl (r_move) ?_
       replace hm:=bnd hm
       obtain ⟨x305,hx305,hm⟩:=hm
       refine ga_know _ (fun W hS=>cl_at (p:=(Sta.mk w0 M H R φ).ok) (sz:=2) (fun _=>rfl) (by decide) (ok_pre (H1:=[_,_]) (R1:=[]) hS (fun W h=>h)) fp0_3 hx305) ?_
       rintro ⟨ad306,hA308,f307⟩
       refine ga_v (i:=3) (bz 11 15) rfl (by kernel_rfl) (fun _ _ _ _ h=>h) rfl (r_ix Tryz.underlying28 Tryz.sizeOf48 rfl hA308 rfl hx305)<|ga_v (i:=4) (bz 11 31) rfl (by kernel_rfl) (fun _ _ _ _ h=>h) rfl (r_ldA rfl Tryz.isAgg48 Tryz.sizeOf48 (fun W hS=>(f307 W (ok_pre (H1:=[_,_]) (R1:=[]) hS (fun W h=>h))).take 2) rfl)<|ga_v (i:=5) (bz 11 63) rfl (by kernel_rfl) (fun _ _ _ _ h=>h) rfl (r_field (n:=4) Tryz.underlying30 rfl Tryz.sizeOf28 rfl rfl)<|ga_v (i:=6) (bz 11 127) rfl (by kernel_rfl) (fun _ _ _ _ h=>h) rfl (r_load (tag:=100030) rfl rfl rfl Tryz.isAgg28)<|ga_r (i:=7) (bz 11 255) rfl (by kernel_rfl) (by decide) rfl (r_move) ?_
       replace hm:=bnd hm
       obtain ⟨x309,hx309,hm⟩:=hm
       refine ga_know _ (fun W hS=>cl_at (p:=(Sta.mk w0 M H R φ).ok) (sz:=2) (fun _=>rfl) (by decide) (ok_pre (H1:=[_,_]) (R1:=[]) hS (fun W h=>h)) fp1_3 hx309) ?_
       rintro ⟨ad310,hA312,f311⟩
       refine ga_r (i:=8) (bz 11 511) rfl (by kernel_rfl) (by decide) rfl (r_ix Tryz.underlying28 Tryz.sizeOf48 rfl hA312 rfl hx309)<|ga_r (i:=9) (bz 11 1023) rfl (by kernel_rfl) (by decide) rfl (r_ldA rfl Tryz.isAgg48 Tryz.sizeOf48 (fun W hS=>(f311 W (ok_pre (H1:=[_,_]) (R1:=[]) hS (fun W h=>h))).take 2) rfl)<|ga_r (i:=10) (bz 11 2047) rfl (by kernel_rfl) (by decide) rfl (r_neqA rfl rfl eqg48 (eqq48 x305 x309))<|ga_done (by kernel_rfl)<|d_then ?_
       refine c_flat [(2,Vp g1),(3,Vp g2),(8,Vi i259),(121,.bool (!(decide (x305 = x309))))] ⟨rfl,rfl,rfl,rfl,trivial⟩ (fun u=>?_)
       refine c_cond rfl (fun h313=>?_) (fun h313=>?_)
       ·
        have h313' : (decide (x305 = x309)) = false:=by revert h313; cases (decide (x305 = x309)) <;> simp
        replace hm:=ite_f hm (of_decide_eq_false h313')
        refine c_seq<|c_region<|g_v rfl r_assign<|g_nil<|d_then<|c_ret<|d_ret_block<|d_ret_then<|d_ret_then<|d_ret_block ?_
        refine d_ret_then<|d_ret_then ?_
        replace hm:=nx_out (C:=(fun e : Unit ⊕ Bool=>Sum.elim (fun e=>m_ref13_Same_j4) (fun x=>some x) e = some r)) hm hnx5 hr5
        replace hm : some false = some r:=hm
        cases hm
        exact d_retC () Tryz.results12 (res_tmp (res_nil rfl)) trivial (fun W h=>ok_pre (H1:=[_,_]) (R1:=[]) h (fun W hφ=>hφ)) (.inr rfl)
       have h313' : (decide (x305 = x309)) = true:=by revert h313; cases (decide (x305 = x309)) <;> simp
       replace hm:=ite_t hm (of_decide_eq_true h313')
       refine c_skip<|d_normal_block<|d_then<|c_region<|g_v rfl r_move<|g_v rfl (r_add rfl rfl rfl)<|g_v rfl r_assign<|g_nil ?_
       obtain ⟨n314,hn314,hlp⟩:=nx_inl hm hnx5
       exact d_round (n314,w64 (i259 + 1)) hlp hn314 ⟨rfl,rfl,rfl,trivial⟩ (fun W h=>h.phi (fun W hφ=>hφ))
      replace hm:=ite_f hm (of_decide_eq_false h288)
      refine c_exit<|d_exit_then<|d_exit_then<|d_exit_block ?_
      replace hm:=nx_out (C:=(fun e : Unit ⊕ Bool=>Sum.elim (fun e=>m_ref13_Same_j4) (fun x=>some x) e = some r)) hm hnx5 hr5
      exact d_round () hm Nat.zero_lt_one trivial (fun W h=>((h.dropH (t:=100030) rfl).dropH (t:=100020) rfl).phi (fun W hφ=>hφ))
     unfold m_ref13_Same_j4 at hm
     refine d_flat [] trivial (fun u=>?_)
     refine d_sta ⟨w0,M,H,R,φ⟩ (fun _ h=>h)<|d_then<|c_seq<|c_region<|g_v rfl r_assign<|g_nil<|d_then<|c_ret ?_
     cases hm
     exact d_retC () Tryz.results12 (res_tmp (res_nil rfl)) trivial (fun W h=>ok_pre (H1:=[]) (R1:=[]) h (fun W hφ=>hφ)) (.inr rfl)
    replace hm:=ite_t hm (of_decide_eq_true h6)
    iterate 6 refine g_no rfl rfl rfl rfl rfl h6 ?_
    refine g_v rfl (r_pick1 rfl h6)<|g_nil<|d_then ?_
    refine c_flat [(2,Vp g1),(3,Vp g2),(49,.bool true)] ⟨rfl,rfl,rfl,trivial⟩ (fun u=>?_)
    refine c_cond1 rfl rfl<|c_seq<|c_region<|g_v rfl r_assign<|g_nil<|d_then<|c_ret<|d_ret_then ?_
    cases hm
    exact d_retC () Tryz.results12 (res_tmp (res_nil rfl)) trivial (fun W h=>ok_pre (H1:=[_,_]) (R1:=[]) h (fun W hφ=>hφ)) (.inr rfl)
   replace hm:=ite_t hm (of_decide_eq_true h5)
   iterate 6 refine g_no rfl rfl rfl rfl rfl h5 ?_
   refine g_v rfl (r_pick1 rfl h5)<|g_v rfl r_move ?_
   iterate 7 refine g_no rfl rfl rfl rfl rfl rfl ?_
   refine g_v rfl (r_pick1 rfl rfl)<|g_nil<|d_then ?_
   refine c_flat [(2,Vp g1),(3,Vp g2),(49,.bool true)] ⟨rfl,rfl,rfl,trivial⟩ (fun u=>?_)
   refine c_cond1 rfl rfl<|c_seq<|c_region<|g_v rfl r_assign<|g_nil<|d_then<|c_ret<|d_ret_then ?_
   cases hm
   exact d_retC () Tryz.results12 (res_tmp (res_nil rfl)) trivial (fun W h=>ok_pre (H1:=[_,_]) (R1:=[]) h (fun W hφ=>hφ)) (.inr rfl)
  replace hm:=ite_t hm (of_decide_eq_true h4)
  iterate 6 refine g_no rfl rfl rfl rfl rfl h4 ?_
  refine g_v rfl (r_pick1 rfl h4)<|g_v rfl r_move ?_
  iterate 7 refine g_no rfl rfl rfl rfl rfl rfl ?_
  refine g_v rfl (r_pick1 rfl rfl)<|g_v rfl r_move ?_
  iterate 7 refine g_no rfl rfl rfl rfl rfl rfl ?_
  refine g_v rfl (r_pick1 rfl rfl)<|g_nil<|d_then ?_
  refine c_flat [(2,Vp g1),(3,Vp g2),(49,.bool true)] ⟨rfl,rfl,rfl,trivial⟩ (fun u=>?_)
  refine c_cond1 rfl rfl<|c_seq<|c_region<|g_v rfl r_assign<|g_nil<|d_then<|c_ret<|d_ret_then ?_
  cases hm
  exact d_retC () Tryz.results12 (res_tmp (res_nil rfl)) trivial (fun W h=>ok_pre (H1:=[_,_]) (R1:=[]) h (fun W hφ=>hφ)) (.inr rfl)
 replace hm:=ite_t hm (of_decide_eq_true h3)
 iterate 6 refine g_no rfl rfl rfl rfl rfl h3 ?_
 refine g_v rfl (r_pick1 rfl h3)<|g_v rfl r_move ?_
 iterate 7 refine g_no rfl rfl rfl rfl rfl rfl ?_
 refine g_v rfl (r_pick1 rfl rfl)<|g_v rfl r_move ?_
 iterate 7 refine g_no rfl rfl rfl rfl rfl rfl ?_
 refine g_v rfl (r_pick1 rfl rfl)<|g_v rfl r_move ?_
 iterate 7 refine g_no rfl rfl rfl rfl rfl rfl ?_
 refine g_v rfl (r_pick1 rfl rfl)<|g_nil<|d_then ?_
 refine c_flat [(2,Vp g1),(3,Vp g2),(49,.bool true)] ⟨rfl,rfl,rfl,trivial⟩ (fun u=>?_)
 refine c_cond1 rfl rfl<|c_seq<|c_region<|g_v rfl r_assign<|g_nil<|d_then<|c_ret<|d_ret_then ?_
 cases hm
 exact d_retC () Tryz.results12 (res_tmp (res_nil rfl)) trivial (fun W h=>ok_pre (H1:=[_,_]) (R1:=[]) h (fun W hφ=>hφ)) (.inr rfl)
noncomputable def m_conf_Right_c1 (p0 : Int) : Option Int:=
  some p0
theorem c_conf_Right_c1 {w0 : World} {M : Nat→Prop} {H : List (Nat×Nat×Obj)} {R : List (Nat×Row)} {φ : World→Prop} (p0 : Int) (r : Int) (hm : m_conf_Right_c1 p0 = some r) :
    Cn Tryz.prog 44 #[Vi p0] ⟨w0,M,H,R,φ⟩ (fun x : Unit=>Vi r) (fun x=>True) (fun x=>⟨w0,M,H,R,φ⟩):=by
 unfold m_conf_Right_c1 at hm
 refine cn_intro (fn:=Tryz.f44) (N:=4) Tryz.func44 rfl Tryz.ntmps44 rfl<|c_seq<|c_region<|g_v rfl r_assign<|g_nil<|d_then<|c_seq<|c_region<|g_v rfl r_move<|g_v rfl r_assign ?_
 refine g_nil<|d_then<|c_ret ?_
 cases hm
 exact d_retC () Tryz.results44 (res_tmp (res_nil rfl)) trivial (fun W h=>ok_pre (H1:=[]) (R1:=[]) h (fun W hφ=>hφ)) (.inr rfl)
noncomputable def m_conf_all_45_j1 (p0 : List Int) (p1 : Int) : Option Bool:=
  some (decide ((p0.length : Int) ≤ p1))
noncomputable def m_conf_all_45_s2 (p0 : List Int) (i76 : Int) : Option (Int ⊕ (Unit ⊕ Bool)):=
  if i76 < (p0.length : Int) then
    (at_ p0 i76).bind fun x122=>
    (m_conf_node x122).bind fun x150=>
    if x150 = true then
      if 0 < i76 then
        (at_ p0 (w64 (i76 - 1))).bind fun x154=>
        (m_conf_Right_c1 x122).bind fun x158=>
        (m_conf_Right_c1 x154).bind fun x160=>
        if x158 ≤ x160 then
          some (.inr (.inr false))
        else
          some (.inl (w64 (i76 + 1)))
      else
        some (.inl (w64 (i76 + 1)))
    else
      some (.inr (.inr false))
  else
    some (.inr (.inl ()))
noncomputable def m_conf_all_45 (p0 : List Int) (p1 : Int) : Option Bool:=
  (loop (fun s=>m_conf_all_45_s2 p0 s) 0).bind fun e=>Sum.elim (fun e=>m_conf_all_45_j1 p0 p1) (fun x=>some x) e
theorem c_conf_all_45 {w0 : World} {M : Nat→Prop} {H : List (Nat×Nat×Obj)} {R : List (Nat×Row)} {φ : World→Prop} (p0 : List Int) (Ap0_0 : Option Addr) (cp0_0 : Nat) (hcp0_0 : p0.length ≤ cp0_0) (fp0_0 : ∀ W,(Sta.mk w0 M H R φ).ok W→Cl W Ap0_0 (p0.flatMap (fun x : Int=>[Value.int .i64 x]))) (p1 : Int) (r : Bool) (hm : m_conf_all_45 p0 p1 = some r) :
    Cn Tryz.prog 45 #[.slice Ap0_0 p0.length cp0_0,Vi p1,.func (.func 44) #[] #[],.func (.func 46) #[] #[]] ⟨w0,M,H,R,φ⟩ (fun x : Unit=>.bool r) (fun x=>True) (fun x=>⟨w0,M,H,R,φ⟩):=by
 unfold m_conf_all_45 at hm
 refine cn_intro (fn:=Tryz.f45) (N:=44) Tryz.func45 rfl Tryz.ntmps45 rfl<|c_seq<|c_region<|g_v rfl r_assign<|g_nil<|d_then<|c_seq<|c_seq<|c_region<|g_v rfl r_move ?_
 refine g_v rfl (r_lenL Tryz.underlying25 rfl)<|g_v rfl r_move<|g_nil<|d_then ?_
 refine c_cut (ι:=Unit) [0,1] (fun _=>[]) (fun _=>⟨w0,M,H,R,φ⟩) (fun _=>m_conf_all_45_j1 p0 p1 = some r) ?_ (fun _ u hm=>?_)
 ·
  refine c_block ?_
  replace hm:=bnd hm
  obtain ⟨out2,hl2,hr2⟩:=hm
  obtain ⟨n120',hl2⟩:=loop_lp hl2
  refine c_loopU (ι:=Nat×Int) [0,1,2,3,11,12,13] (fun ⟨n120,i76⟩=>[(13,Vi i76)]) (fun ⟨n120,i76⟩=>⟨w0,M,H,R,φ⟩) (fun ⟨n120,i76⟩=>Lp (fun s=>m_conf_all_45_s2 p0 s) n120 i76 out2) (fun ⟨n120,i76⟩=>n120) (n120',0) hl2 ⟨rfl,rfl,rfl,rfl,rfl,rfl,rfl,trivial⟩ (fun W h=>h.phi (fun W hφ=>hφ)) (fun ⟨n120,i76⟩ u hlp=>?_)
  obtain ⟨o2,hm,hnx2⟩:=lp_step hlp
  clear hlp
  replace hm : m_conf_all_45_s2 p0 i76 = some o2:=hm
  unfold m_conf_all_45_s2 at hm
  refine c_flat [(0,.slice Ap0_0 p0.length cp0_0),(1,Vi p1),(2,.func (.func 44) #[] #[]),(3,.func (.func 46) #[] #[]),(11,.slice Ap0_0 p0.length cp0_0),(12,Vi (p0.length : Int)),(13,Vi i76)] ⟨rfl,rfl,rfl,rfl,rfl,rfl,rfl,trivial⟩ (fun u=>?_)
  refine c_sta ⟨w0,M,H,R,φ⟩ (fun _ h=>h)<|c_seq<|c_region<|g_v rfl (r_lss rfl rfl)<|g_nil<|d_then<|c_seq ?_
  refine c_cond rfl (fun h121=>?_) (fun h121=>?_)
  ·
   replace hm:=ite_t hm (of_decide_eq_true h121)
   refine c_skip<|d_then<|c_seq<|c_block<|c_seq<|c_region<|g_v rfl r_move ?_
   replace hm:=bnd hm
   obtain ⟨x122,hx122,hm⟩:=hm
   refine g_know _ (fun W hS=>cl_at (p:=(Sta.mk w0 M H R φ).ok) (sz:=1) (fun _=>rfl) (by decide) (ok_pre (H1:=[]) (R1:=[]) hS (fun W h=>h)) fp0_0 hx122) ?_
   rintro ⟨ad123,hA125,f124⟩
   refine g_v rfl (r_ix Tryz.underlying25 Tryz.sizeOf3 rfl hA125 rfl hx122)<|g_v rfl (r_ld rfl Tryz.isAgg3 (fun W hS=>Cl.head (f124 W (ok_pre (H1:=[]) (R1:=[]) hS (fun W h=>h)))))<|g_v rfl r_assign<|g_v rfl r_assign<|g_nil<|d_then<|c_seq<|ga_start (n:=21) ⟨w0,M,H,R,φ⟩ [] #[false,false,false,false,false,false,false,false,false,false,false,false,false,false,false,false,false,false,false,false,false] (fun W h=>h.phi (fun W hφ=>hφ)) mixed rfl rfl<|ga_v (i:=0) (bz 21 1) rfl (by kernel_rfl) (fun _ _ _ _ h=>h) rfl (r_move)<|ga_r (i:=1) (bz 21 3) rfl (by kernel_rfl) (by decide) rfl (r_move) ?_
   replace hm:=bnd hm
   obtain ⟨x150,hx151,hm⟩:=hm
   refine ga_cn (first:=#[]) (i:=2) (bz 21 7) rfl (by kernel_rfl) (by decide)  ⟨w0,M,_,_,φ⟩ (fun _ h=>h) Tryz.call46 rfl rfl rfl (c_conf_node x122 _ hx151) (fun _ W _ h=>h.phi (fun W hφ=>hφ)) (fun _ _=>?_)
   refine ga_r (i:=3) (bz 21 15) rfl (by kernel_rfl) (by decide) rfl (r_not rfl)<|ga_r (i:=4) (bz 21 31) rfl (by kernel_rfl) (by decide) rfl (r_move) ?_
   refine ga_if (t:=22) rfl (fun h152=>?_) (fun h152=>?_)
   ·
    have h152' : x150 = false:=by revert h152; cases x150 <;> simp
    replace hm:=ite_f hm (bool_nt h152')
    refine ga_no (i:=5) (bz 21 63) rfl (by kernel_rfl) (fun _ _ _ _ h=>h) rfl rfl rfl rfl rfl h152<|ga_no (i:=6) (bz 21 127) rfl (by kernel_rfl) (fun _ _ _ _ h=>h) rfl rfl rfl rfl rfl h152<|ga_no (i:=7) (bz 21 255) rfl (by kernel_rfl) (fun _ _ _ _ h=>h) rfl rfl rfl rfl rfl h152<|ga_nu (i:=8) (bz 21 511) rfl (by kernel_rfl) (fun _ _ _ _ h=>h) rfl rfl rfl rfl rfl<|ga_nu (i:=9) (bz 21 1023) rfl (by kernel_rfl) (fun _ _ _ _ h=>h) rfl rfl rfl rfl rfl<|ga_nu (i:=10) (bz 21 2047) rfl (by kernel_rfl) (fun _ _ _ _ h=>h) rfl rfl rfl rfl rfl<|ga_nu (i:=11) (bz 21 4095) rfl (by kernel_rfl) (fun _ _ _ _ h=>h) rfl rfl rfl rfl rfl<|ga_nu (i:=12) (bz 21 8191) rfl (by kernel_rfl) (fun _ _ _ _ h=>h) rfl rfl rfl rfl rfl<|ga_nu (i:=13) (bz 21 16383) rfl (by kernel_rfl) (fun _ _ _ _ h=>h) rfl rfl rfl rfl rfl<|ga_nu (i:=14) (bz 21 32767) rfl (by kernel_rfl) (fun _ _ _ _ h=>h) rfl rfl rfl rfl rfl ?_
    refine ga_nu (i:=15) (bz 21 65535) rfl (by kernel_rfl) (fun _ _ _ _ h=>h) rfl rfl rfl rfl rfl<|ga_nu (i:=16) (bz 21 131071) rfl (by kernel_rfl) (fun _ _ _ _ h=>h) rfl rfl rfl rfl rfl<|ga_nu (i:=17) (bz 21 262143) rfl (by kernel_rfl) (fun _ _ _ _ h=>h) rfl rfl rfl rfl rfl<|ga_nu (i:=18) (bz 21 524287) rfl (by kernel_rfl) (fun _ _ _ _ h=>h) rfl rfl rfl rfl rfl<|ga_no (i:=19) (bz 21 1048575) rfl (by kernel_rfl) (fun _ _ _ _ h=>h) rfl rfl rfl rfl rfl h152<|ga_r (i:=20) (bz 21 2097151) rfl (by kernel_rfl) (by decide) rfl (r_pick1 rfl h152)<|ga_done (by kernel_rfl)<|d_then ?_
    refine c_flat [(0,.slice Ap0_0 p0.length cp0_0),(1,Vi p1),(2,.func (.func 44) #[] #[]),(3,.func (.func 46) #[] #[]),(11,.slice Ap0_0 p0.length cp0_0),(12,Vi (p0.length : Int)),(13,Vi i76),(38,.bool true)] ⟨rfl,rfl,rfl,rfl,rfl,rfl,rfl,rfl,trivial⟩ (fun u=>?_)
    refine c_cond1 rfl rfl<|c_seq<|c_region<|g_v rfl r_assign<|g_nil<|d_then<|c_ret<|d_ret_block<|d_ret_then<|d_ret_then ?_
    refine d_ret_block<|d_ret_then<|d_ret_then ?_
    replace hm:=nx_out (C:=(fun e : Unit ⊕ Bool=>Sum.elim (fun e=>m_conf_all_45_j1 p0 p1) (fun x=>some x) e = some r)) hm hnx2 hr2
    replace hm : some false = some r:=hm
    cases hm
    exact d_retC () Tryz.results45 (res_tmp (res_nil rfl)) trivial (fun W h=>ok_pre (H1:=[]) (R1:=[]) h (fun W hφ=>hφ)) (.inr rfl)
   have h152' : x150 = true:=by revert h152; cases x150 <;> simp
   replace hm:=ite_t hm h152'
   refine ga_rG (i:=5) (bz 21 63) rfl (by kernel_rfl) (by decide) rfl rfl rfl rfl rfl h152 (r_move)<|ga_rG (i:=6) (bz 21 127) rfl (by kernel_rfl) (by decide) rfl rfl rfl rfl rfl h152 (r_gtr rfl rfl)<|ga_rG (i:=7) (bz 21 255) rfl (by kernel_rfl) (by decide) rfl rfl rfl rfl rfl h152 (r_move) ?_
   refine ga_if (t:=25) rfl (fun h153=>?_) (fun h153=>?_)
   ·
    replace hm:=ite_t hm (of_decide_eq_true h153)
    refine ga_do (i:=8) (bz 21 511) rfl (by kernel_rfl) (fun _ _ _ _ h=>h) rfl rfl rfl rfl rfl h153 (r_move)<|ga_do (i:=9) (bz 21 1023) rfl (by kernel_rfl) (fun _ _ _ _ h=>h) rfl rfl rfl rfl rfl h153 (r_move)<|ga_do (i:=11) (bz 21 3071) rfl (by kernel_rfl) (fun _ _ _ _ h=>h) rfl rfl rfl rfl rfl h153 (r_move)<|ga_do (i:=12) (bz 21 7167) rfl (by kernel_rfl) (fun _ _ _ _ h=>h) rfl rfl rfl rfl rfl h153 (r_move)<|ga_do (i:=13) (bz 21 15359) rfl (by kernel_rfl) (fun _ _ _ _ h=>h) rfl rfl rfl rfl rfl h153 (r_move)<|ga_do (i:=14) (bz 21 31743) rfl (by kernel_rfl) (fun _ _ _ _ h=>h) rfl rfl rfl rfl rfl h153 (r_sub rfl rfl rfl) ?_
    replace hm:=bnd hm
    obtain ⟨x154,hx154,hm⟩:=hm
    refine ga_know _ (fun W hS=>cl_at (p:=(Sta.mk w0 M H R φ).ok) (sz:=1) (fun _=>rfl) (by decide) (ok_pre (H1:=[]) (R1:=[]) hS (fun W h=>h)) fp0_0 hx154) ?_
    rintro ⟨ad155,hA157,f156⟩
    refine ga_do (i:=15) (bz 21 64511) rfl (by kernel_rfl) (fun _ _ _ _ h=>h) rfl rfl rfl rfl rfl h153 (r_ix Tryz.underlying25 Tryz.sizeOf3 rfl hA157 rfl hx154)<|ga_do (i:=16) (bz 21 130047) rfl (by kernel_rfl) (fun _ _ _ _ h=>h) rfl rfl rfl rfl rfl h153 (r_ld rfl Tryz.isAgg3 (fun W hS=>Cl.head (f156 W (ok_pre (H1:=[]) (R1:=[]) hS (fun W h=>h))))) ?_
    replace hm:=bnd hm
    obtain ⟨x158,hx159,hm⟩:=hm
    refine ga_cnG (first:=#[]) (i:=10) (bz 21 131071) rfl (by kernel_rfl) (by decide) rfl rfl rfl rfl h153  ⟨w0,M,_,_,φ⟩ (fun _ h=>h) Tryz.call44 rfl rfl rfl (c_conf_Right_c1 x122 _ hx159) (fun _ W _ h=>h.phi (fun W hφ=>hφ)) (fun _ _=>?_)
    replace hm:=bnd hm
    obtain ⟨x160,hx161,hm⟩:=hm
    refine ga_cnG (first:=#[]) (i:=17) (bz 21 262143) rfl (by kernel_rfl) (by decide) rfl rfl rfl rfl h153  ⟨w0,M,_,_,φ⟩ (fun _ h=>h) Tryz.call44 rfl rfl rfl (c_conf_Right_c1 x154 _ hx161) (fun _ W _ h=>h.phi (fun W hφ=>hφ)) (fun _ _=>?_)
    refine ga_rG (i:=18) (bz 21 524287) rfl (by kernel_rfl) (by decide) rfl rfl rfl rfl rfl h153 (r_leq rfl rfl)<|ga_rG (i:=19) (bz 21 1048575) rfl (by kernel_rfl) (by decide) rfl rfl rfl rfl rfl h152 (r_pick1 rfl h153)<|ga_r (i:=20) (bz 21 2097151) rfl (by kernel_rfl) (by decide) rfl (r_pick0 rfl h152)<|ga_done (by kernel_rfl)<|d_then ?_
    refine c_flat [(0,.slice Ap0_0 p0.length cp0_0),(1,Vi p1),(2,.func (.func 44) #[] #[]),(3,.func (.func 46) #[] #[]),(11,.slice Ap0_0 p0.length cp0_0),(12,Vi (p0.length : Int)),(13,Vi i76),(38,.bool (decide (x158 ≤ x160)))] ⟨rfl,rfl,rfl,rfl,rfl,rfl,rfl,rfl,trivial⟩ (fun u=>?_)
    refine c_cond rfl (fun h162=>?_) (fun h162=>?_)
    ·
     replace hm:=ite_t hm (of_decide_eq_true h162)
     refine c_seq<|c_region<|g_v rfl r_assign<|g_nil<|d_then<|c_ret<|d_ret_block<|d_ret_then<|d_ret_then<|d_ret_block ?_
     refine d_ret_then<|d_ret_then ?_
     replace hm:=nx_out (C:=(fun e : Unit ⊕ Bool=>Sum.elim (fun e=>m_conf_all_45_j1 p0 p1) (fun x=>some x) e = some r)) hm hnx2 hr2
     replace hm : some false = some r:=hm
     cases hm
     exact d_retC () Tryz.results45 (res_tmp (res_nil rfl)) trivial (fun W h=>ok_pre (H1:=[]) (R1:=[]) h (fun W hφ=>hφ)) (.inr rfl)
    replace hm:=ite_f hm (of_decide_eq_false h162)
    refine c_skip<|d_normal_block<|d_then<|c_region<|g_v rfl (r_add rfl rfl rfl)<|g_v rfl r_move<|g_nil ?_
    obtain ⟨n163,hn163,hlp⟩:=nx_inl hm hnx2
    exact d_round (n163,w64 (i76 + 1)) hlp hn163 ⟨rfl,rfl,rfl,rfl,rfl,rfl,rfl,trivial⟩ (fun W h=>h.phi (fun W hφ=>hφ))
   replace hm:=ite_f hm (of_decide_eq_false h153)
   refine ga_no (i:=8) (bz 21 511) rfl (by kernel_rfl) (fun _ _ _ _ h=>h) rfl rfl rfl rfl rfl h153<|ga_no (i:=9) (bz 21 1023) rfl (by kernel_rfl) (fun _ _ _ _ h=>h) rfl rfl rfl rfl rfl h153<|ga_no (i:=10) (bz 21 2047) rfl (by kernel_rfl) (fun _ _ _ _ h=>h) rfl rfl rfl rfl rfl h153<|ga_no (i:=11) (bz 21 4095) rfl (by kernel_rfl) (fun _ _ _ _ h=>h) rfl rfl rfl rfl rfl h153<|ga_no (i:=12) (bz 21 8191) rfl (by kernel_rfl) (fun _ _ _ _ h=>h) rfl rfl rfl rfl rfl h153<|ga_no (i:=13) (bz 21 16383) rfl (by kernel_rfl) (fun _ _ _ _ h=>h) rfl rfl rfl rfl rfl h153<|ga_no (i:=14) (bz 21 32767) rfl (by kernel_rfl) (fun _ _ _ _ h=>h) rfl rfl rfl rfl rfl h153<|ga_no (i:=15) (bz 21 65535) rfl (by kernel_rfl) (fun _ _ _ _ h=>h) rfl rfl rfl rfl rfl h153<|ga_no (i:=16) (bz 21 131071) rfl (by kernel_rfl) (fun _ _ _ _ h=>h) rfl rfl rfl rfl rfl h153<|ga_no (i:=17) (bz 21 262143) rfl (by kernel_rfl) (fun _ _ _ _ h=>h) rfl rfl rfl rfl rfl h153 ?_
   refine ga_no (i:=18) (bz 21 524287) rfl (by kernel_rfl) (fun _ _ _ _ h=>h) rfl rfl rfl rfl rfl h153<|ga_rG (i:=19) (bz 21 1048575) rfl (by kernel_rfl) (by decide) rfl rfl rfl rfl rfl h152 (r_pick0 rfl h153)<|ga_r (i:=20) (bz 21 2097151) rfl (by kernel_rfl) (by decide) rfl (r_pick0 rfl h152)<|ga_done (by kernel_rfl)<|d_then ?_
   refine c_flat [(0,.slice Ap0_0 p0.length cp0_0),(1,Vi p1),(2,.func (.func 44) #[] #[]),(3,.func (.func 46) #[] #[]),(11,.slice Ap0_0 p0.length cp0_0),(12,Vi (p0.length : Int)),(13,Vi i76),(38,.bool false)] ⟨rfl,rfl,rfl,rfl,rfl,rfl,rfl,rfl,trivial⟩ (fun u=>?_)
   refine c_cond0 rfl rfl<|c_skip<|d_normal_block<|d_then<|c_region<|g_v rfl (r_add rfl rfl rfl)<|g_v rfl r_move<|g_nil ?_
   obtain ⟨n164,hn164,hlp⟩:=nx_inl hm hnx2
   exact d_round (n164,w64 (i76 + 1)) hlp hn164 ⟨rfl,rfl,rfl,rfl,rfl,rfl,rfl,trivial⟩ (fun W h=>h.phi (fun W hφ=>hφ))
  replace hm:=ite_f hm (of_decide_eq_false h121)
  refine c_exit<|d_exit_then<|d_exit_then<|d_exit_block ?_
  replace hm:=nx_out (C:=(fun e : Unit ⊕ Bool=>Sum.elim (fun e=>m_conf_all_45_j1 p0 p1) (fun x=>some x) e = some r)) hm hnx2 hr2
  exact d_round () hm Nat.zero_lt_one ⟨rfl,rfl,trivial⟩ (fun W h=>h.phi (fun W hφ=>hφ))
 unfold m_conf_all_45_j1 at hm
 refine d_flat [(0,.slice Ap0_0 p0.length cp0_0),(1,Vi p1)] ⟨rfl,rfl,trivial⟩ (fun u=>?_)
 refine d_sta ⟨w0,M,H,R,φ⟩ (fun _ h=>h)<|d_then<|c_seq<|c_region<|g_v rfl r_move<|g_v rfl (r_lenL Tryz.underlying25 rfl)<|g_v rfl r_move<|g_v rfl (r_leq rfl rfl)<|g_v rfl r_assign<|g_nil ?_
 refine d_then<|c_ret ?_
 cases hm
 exact d_retC () Tryz.results45 (res_tmp (res_nil rfl)) trivial (fun W h=>ok_pre (H1:=[]) (R1:=[]) h (fun W hφ=>hφ)) (.inr rfl)
noncomputable def m_conf_Right_c2 (p0 : ByteArray) : Option Bool:=
  (m_conf_hint p0).bind fun x1=>
  some (!x1)
theorem c_conf_Right_c2 {w0 : World} {M : Nat→Prop} {H : List (Nat×Nat×Obj)} {R : List (Nat×Row)} {φ : World→Prop} (p0 : ByteArray) (r : Bool) (hm : m_conf_Right_c2 p0 = some r) :
    Cn Tryz.prog 48 #[Vs p0] ⟨w0,M,H,R,φ⟩ (fun x : Unit=>.bool r) (fun x=>True) (fun x=>⟨w0,M,H,R,φ⟩):=by
 unfold m_conf_Right_c2 at hm
 refine cn_intro (fn:=Tryz.f48) (N:=6) Tryz.func48 rfl Tryz.ntmps48 rfl<|c_seq<|c_region<|g_v rfl r_assign<|g_nil<|d_then<|c_seq<|c_region<|g_v rfl r_move ?_
 replace hm:=bnd hm
 obtain ⟨x1,hx2,hm⟩:=hm
 refine g_cn ⟨w0,M,_,_,φ⟩ (fun _ h=>h) Tryz.call49 rfl rfl (c_conf_hint p0 _ hx2) (fun _ _=>?_)
 refine g_v rfl (r_not rfl)<|g_v rfl r_assign<|g_nil<|d_then<|c_ret ?_
 cases hm
 exact d_retC () Tryz.results48 (res_tmp (res_nil rfl)) trivial (fun W h=>ok_pre (H1:=[]) (R1:=[]) h (fun W hφ=>hφ)) (.inr rfl)
noncomputable def m_slices_IndexFunc_97_3_j1  : Option Int:=
  some (-1)
noncomputable def m_slices_IndexFunc_97_3_s2 (p0 : List ByteArray) (i30 : Int) : Option (Int ⊕ (Unit ⊕ Int)):=
  if i30 < (p0.length : Int) then
    (at_ p0 i30).bind fun x42=>
    (m_conf_Right_c2 x42).bind fun x46=>
    if x46 = true then
      some (.inr (.inr i30))
    else
      some (.inl (w64 (i30 + 1)))
  else
    some (.inr (.inl ()))
noncomputable def m_slices_IndexFunc_97_3 (p0 : List ByteArray) : Option Int:=
  (loop (fun s=>m_slices_IndexFunc_97_3_s2 p0 s) 0).bind fun e=>Sum.elim (fun e=>m_slices_IndexFunc_97_3_j1) (fun x=>some x) e
theorem c_slices_IndexFunc_97_3 {w0 : World} {M : Nat→Prop} {H : List (Nat×Nat×Obj)} {R : List (Nat×Row)} {φ : World→Prop} (p0 : List ByteArray) (Ap0_0 : Option Addr) (cp0_0 : Nat) (hcp0_0 : p0.length ≤ cp0_0) (fp0_0 : ∀ W,(Sta.mk w0 M H R φ).ok W→Cl W Ap0_0 (p0.flatMap (fun x : ByteArray=>[Value.string x]))) (r : Int) (hm : m_slices_IndexFunc_97_3 p0 = some r) :
    Cn Tryz.prog 97 #[.slice Ap0_0 p0.length cp0_0,.func (.func 48) #[] #[]] ⟨w0,M,H,R,φ⟩ (fun x : Unit=>Vi r) (fun x=>True) (fun x=>⟨w0,M,H,R,φ⟩):=by
 unfold m_slices_IndexFunc_97_3 at hm
 refine cn_intro (fn:=Tryz.f97) (N:=19) Tryz.func97 rfl Tryz.ntmps97 rfl<|c_seq<|c_region<|g_v rfl r_assign<|g_nil<|d_then<|c_seq<|c_seq<|c_region<|g_v rfl r_move ?_
 refine g_v rfl (r_lenL Tryz.underlying26 rfl)<|g_v rfl r_move<|g_nil<|d_then ?_
 refine c_cut (ι:=Unit) [] (fun _=>[]) (fun _=>⟨w0,M,H,R,φ⟩) (fun _=>m_slices_IndexFunc_97_3_j1 = some r) ?_ (fun _ u hm=>?_)
 ·
  refine c_block ?_
  replace hm:=bnd hm
  obtain ⟨out2,hl2,hr2⟩:=hm
  obtain ⟨n40',hl2⟩:=loop_lp hl2
  refine c_loopU (ι:=Nat×Int) [0,1,7,8] (fun ⟨n40,i30⟩=>[(8,Vi i30)]) (fun ⟨n40,i30⟩=>⟨w0,M,H,R,φ⟩) (fun ⟨n40,i30⟩=>Lp (fun s=>m_slices_IndexFunc_97_3_s2 p0 s) n40 i30 out2) (fun ⟨n40,i30⟩=>n40) (n40',0) hl2 ⟨rfl,rfl,rfl,rfl,trivial⟩ (fun W h=>h.phi (fun W hφ=>hφ)) (fun ⟨n40,i30⟩ u hlp=>?_)
  obtain ⟨o2,hm,hnx2⟩:=lp_step hlp
  clear hlp
  replace hm : m_slices_IndexFunc_97_3_s2 p0 i30 = some o2:=hm
  unfold m_slices_IndexFunc_97_3_s2 at hm
  refine c_flat [(0,.slice Ap0_0 p0.length cp0_0),(1,.func (.func 48) #[] #[]),(7,Vi (p0.length : Int)),(8,Vi i30)] ⟨rfl,rfl,rfl,rfl,trivial⟩ (fun u=>?_)
  refine c_sta ⟨w0,M,H,R,φ⟩ (fun _ h=>h)<|c_seq<|c_region<|g_v rfl (r_lss rfl rfl)<|g_nil<|d_then<|c_seq ?_
  refine c_cond rfl (fun h41=>?_) (fun h41=>?_)
  ·
   replace hm:=ite_t hm (of_decide_eq_true h41)
   refine c_skip<|d_then<|c_seq<|c_block<|c_seq<|c_region<|g_v rfl r_move<|g_v rfl r_assign<|g_nil<|d_then ?_
   refine c_seq<|c_region ?_
   iterate 3 refine g_v rfl r_move ?_
   replace hm:=bnd hm
   obtain ⟨x42,hx42,hm⟩:=hm
   refine g_know _ (fun W hS=>cl_at (p:=(Sta.mk w0 M H R φ).ok) (sz:=1) (fun _=>rfl) (by decide) (ok_pre (H1:=[]) (R1:=[]) hS (fun W h=>h)) fp0_0 hx42) ?_
   rintro ⟨ad43,hA45,f44⟩
   refine g_v rfl (r_ix Tryz.underlying26 Tryz.sizeOf9 rfl hA45 rfl hx42)<|g_v rfl (r_ld rfl Tryz.isAgg9 (fun W hS=>Cl.head (f44 W (ok_pre (H1:=[]) (R1:=[]) hS (fun W h=>h))))) ?_
   replace hm:=bnd hm
   obtain ⟨x46,hx47,hm⟩:=hm
   refine g_cnv ⟨w0,M,_,_,φ⟩ (fun _ h=>h) Tryz.call48 rfl rfl rfl (c_conf_Right_c2 x42 _ hx47) (fun _ _=>?_)
   refine g_nil<|d_then ?_
   refine c_flat [(0,.slice Ap0_0 p0.length cp0_0),(1,.func (.func 48) #[] #[]),(5,Vi i30),(7,Vi (p0.length : Int)),(8,Vi i30),(16,.bool x46)] ⟨rfl,rfl,rfl,rfl,rfl,rfl,trivial⟩ (fun u=>?_)
   refine c_cond rfl (fun h48=>?_) (fun h48=>?_)
   ·
    replace hm:=ite_t hm h48
    refine c_seq<|c_region<|g_v rfl r_move<|g_v rfl r_assign<|g_nil<|d_then<|c_ret<|d_ret_block<|d_ret_then<|d_ret_then ?_
    refine d_ret_block<|d_ret_then<|d_ret_then ?_
    replace hm:=nx_out (C:=(fun e : Unit ⊕ Int=>Sum.elim (fun e=>m_slices_IndexFunc_97_3_j1) (fun x=>some x) e = some r)) hm hnx2 hr2
    replace hm : some i30 = some r:=hm
    cases hm
    exact d_retC () Tryz.results97 (res_tmp (res_nil rfl)) trivial (fun W h=>ok_pre (H1:=[]) (R1:=[]) h (fun W hφ=>hφ)) (.inr rfl)
   replace hm:=ite_f hm (bool_nt h48)
   refine c_skip<|d_normal_block<|d_then<|c_region<|g_v rfl (r_add rfl rfl rfl)<|g_v rfl r_move<|g_nil ?_
   obtain ⟨n49,hn49,hlp⟩:=nx_inl hm hnx2
   exact d_round (n49,w64 (i30 + 1)) hlp hn49 ⟨rfl,rfl,rfl,rfl,trivial⟩ (fun W h=>h.phi (fun W hφ=>hφ))
  replace hm:=ite_f hm (of_decide_eq_false h41)
  refine c_exit<|d_exit_then<|d_exit_then<|d_exit_block ?_
  replace hm:=nx_out (C:=(fun e : Unit ⊕ Int=>Sum.elim (fun e=>m_slices_IndexFunc_97_3_j1) (fun x=>some x) e = some r)) hm hnx2 hr2
  exact d_round () hm Nat.zero_lt_one trivial (fun W h=>h.phi (fun W hφ=>hφ))
 unfold m_slices_IndexFunc_97_3_j1 at hm
 refine d_flat [] trivial (fun u=>?_)
 refine d_sta ⟨w0,M,H,R,φ⟩ (fun _ h=>h)<|d_then<|c_seq<|c_region<|g_v rfl r_assign<|g_nil<|d_then<|c_ret ?_
 cases hm
 exact d_retC () Tryz.results97 (res_tmp (res_nil rfl)) trivial (fun W h=>ok_pre (H1:=[]) (R1:=[]) h (fun W hφ=>hφ)) (.inr rfl)
noncomputable def m_slices_ContainsFunc_47_3 (p0 : List ByteArray) : Option Bool:=
  (m_slices_IndexFunc_97_3 p0).bind fun x1=>
  some (decide (0 ≤ x1))
theorem c_slices_ContainsFunc_47_3 {w0 : World} {M : Nat→Prop} {H : List (Nat×Nat×Obj)} {R : List (Nat×Row)} {φ : World→Prop} (p0 : List ByteArray) (Ap0_0 : Option Addr) (cp0_0 : Nat) (hcp0_0 : p0.length ≤ cp0_0) (fp0_0 : ∀ W,(Sta.mk w0 M H R φ).ok W→Cl W Ap0_0 (p0.flatMap (fun x : ByteArray=>[Value.string x]))) (r : Bool) (hm : m_slices_ContainsFunc_47_3 p0 = some r) :
    Cn Tryz.prog 47 #[.slice Ap0_0 p0.length cp0_0,.func (.func 48) #[] #[]] ⟨w0,M,H,R,φ⟩ (fun x : Unit=>.bool r) (fun x=>True) (fun x=>⟨w0,M,H,R,φ⟩):=by
 unfold m_slices_ContainsFunc_47_3 at hm
 refine cn_intro (fn:=Tryz.f47) (N:=9) Tryz.func47 rfl Tryz.ntmps47 rfl<|c_seq<|c_region<|g_v rfl r_assign<|g_nil<|d_then<|c_seq<|c_region<|g_v rfl r_move<|g_v rfl r_move ?_
 replace hm:=bnd hm
 obtain ⟨x1,hx2,hm⟩:=hm
 refine g_cn ⟨w0,M,_,_,φ⟩ (fun _ h=>h) Tryz.call97 rfl rfl (c_slices_IndexFunc_97_3 p0 Ap0_0 cp0_0 hcp0_0 (fun W hS=>fp0_0 W (ok_pre (H1:=[]) (R1:=[]) hS (fun W h=>h))) _ hx2) (fun _ _=>?_)
 refine g_v rfl (r_geq rfl rfl)<|g_v rfl r_assign<|g_nil<|d_then<|c_ret ?_
 cases hm
 exact d_retC () Tryz.results47 (res_tmp (res_nil rfl)) trivial (fun W h=>ok_pre (H1:=[]) (R1:=[]) h (fun W hφ=>hφ)) (.inr rfl)
noncomputable def m_conf_Right_c4 (p0 : GAnchor) : Option Bool:=
  (m_conf_named p0.fName).bind fun x2=>
  if x2 = true then
    if p0.fText = (⟨#[]⟩ : ByteArray) then
      some false
    else
      some (decide ((p0.fText.size : Int) ≤ 200))
  else
    some false
theorem c_conf_Right_c4 {w0 : World} {M : Nat→Prop} {H : List (Nat×Nat×Obj)} {R : List (Nat×Row)} {φ : World→Prop} (p0 : GAnchor) (r : Bool) (hm : m_conf_Right_c4 p0 = some r) :
    Cn Tryz.prog 52 #[.agg #[Vs p0.fName,Vs p0.fText]] ⟨w0,M,H,R,φ⟩ (fun x : Unit=>.bool r) (fun x=>True) (fun x=>⟨w0,M,H,R,φ⟩):=by
 unfold m_conf_Right_c4 at hm
 refine cn_intro (fn:=Tryz.f52) (N:=17) Tryz.func52 rfl Tryz.ntmps52 rfl<|c_seq<|c_region ?_
 refine g_e rfl (e_box 100010 rfl) (fun g1 _=>?_)
 refine g_v rfl r_assign<|g_nil<|d_then<|c_seq<|c_region<|g_v rfl (r_field (n:=0) Tryz.underlying55 rfl Tryz.sizeOf9 rfl rfl)<|g_v rfl (r_load (tag:=100010) rfl rfl rfl Tryz.isAgg9) ?_
 replace hm:=bnd hm
 obtain ⟨x2,hx3,hm⟩:=hm
 refine g_cn ⟨w0,M,_,_,φ⟩ (fun _ h=>h) Tryz.call53 rfl rfl (c_conf_named p0.fName _ hx3) (fun _ _=>?_)
 refine g_v rfl r_move ?_
 refine g_if rfl rfl rfl rfl rfl (fun h4=>?_) (fun h4=>?_)
 ·
  replace hm:=ite_t hm h4
  refine g_v rfl (r_field (n:=1) Tryz.underlying55 rfl Tryz.sizeOf9 rfl rfl)<|g_do rfl rfl rfl rfl rfl h4<|g_v rfl (r_load (tag:=100010) rfl rfl rfl Tryz.isAgg9)<|g_do rfl rfl rfl rfl rfl h4<|g_v rfl (r_neqT rfl rfl)<|g_v rfl (r_pick1 rfl h4)<|g_v rfl r_move ?_
  refine g_if rfl rfl rfl rfl rfl (fun h5=>?_) (fun h5=>?_)
  ·
   have h5' : (decide (p0.fText = eB)) = false:=by revert h5; cases (decide (p0.fText = eB)) <;> simp
   replace hm:=ite_f hm (of_decide_eq_false h5')
   refine g_v rfl (r_field (n:=1) Tryz.underlying55 rfl Tryz.sizeOf9 rfl rfl)<|g_do rfl rfl rfl rfl rfl h5<|g_v rfl (r_load (tag:=100010) rfl rfl rfl Tryz.isAgg9)<|g_do rfl rfl rfl rfl rfl h5<|g_v rfl (r_len Tryz.underlying9 rfl)<|g_do rfl rfl rfl rfl rfl h5<|g_v rfl (r_leq rfl rfl)<|g_v rfl (r_pick1 rfl h5)<|g_v rfl r_assign<|g_nil ?_
   refine d_then ?_
   refine c_flat [(2,.bool (decide ((p0.fText.size : Int) ≤ 200)))] ⟨rfl,trivial⟩ (fun u=>?_)
   refine c_sta ⟨w0,M,(100010,g1,.cells #[Vs p0.fName,Vs p0.fText] 55 (0,0))::H,R,φ⟩ (fun _ h=>h)<|c_ret ?_
   cases hm
   exact d_retC () Tryz.results52 (res_tmp (res_nil rfl)) trivial (fun W h=>ok_pre (H1:=[_]) (R1:=[]) h (fun W hφ=>hφ)) (.inr rfl)
  have h5' : (decide (p0.fText = eB)) = true:=by revert h5; cases (decide (p0.fText = eB)) <;> simp
  replace hm:=ite_t hm (of_decide_eq_true h5')
  iterate 3 refine g_no rfl rfl rfl rfl rfl h5 ?_
  refine g_v rfl (r_pick0 rfl h5)<|g_v rfl r_assign<|g_nil<|d_then ?_
  refine c_flat [(2,.bool false)] ⟨rfl,trivial⟩ (fun u=>?_)
  refine c_sta ⟨w0,M,(100010,g1,.cells #[Vs p0.fName,Vs p0.fText] 55 (0,0))::H,R,φ⟩ (fun _ h=>h)<|c_ret ?_
  cases hm
  exact d_retC () Tryz.results52 (res_tmp (res_nil rfl)) trivial (fun W h=>ok_pre (H1:=[_]) (R1:=[]) h (fun W hφ=>hφ)) (.inr rfl)
 replace hm:=ite_f hm (bool_nt h4)
 refine g_no rfl rfl rfl rfl rfl h4<|g_no rfl rfl rfl rfl rfl h4<|g_v rfl (r_pick0 rfl h4)<|g_v rfl r_move ?_
 iterate 4 refine g_no rfl rfl rfl rfl rfl rfl ?_
 refine g_v rfl (r_pick0 rfl rfl)<|g_v rfl r_assign<|g_nil<|d_then ?_
 refine c_flat [(2,.bool false)] ⟨rfl,trivial⟩ (fun u=>?_)
 refine c_sta ⟨w0,M,(100010,g1,.cells #[Vs p0.fName,Vs p0.fText] 55 (0,0))::H,R,φ⟩ (fun _ h=>h)<|c_ret ?_
 cases hm
 exact d_retC () Tryz.results52 (res_tmp (res_nil rfl)) trivial (fun W h=>ok_pre (H1:=[_]) (R1:=[]) h (fun W hφ=>hφ)) (.inr rfl)
noncomputable def m_conf_Right_c3 (p0 : GAnchor) : Option ByteArray:=
  (m_name_Lower p0.fName).bind fun x2=>
  some x2
theorem c_conf_Right_c3 {w0 : World} {M : Nat→Prop} {H : List (Nat×Nat×Obj)} {R : List (Nat×Row)} {φ : World→Prop} (p0 : GAnchor) (r : ByteArray) (hm : m_conf_Right_c3 p0 = some r) :
    Cn Tryz.prog 51 #[.agg #[Vs p0.fName,Vs p0.fText]] ⟨w0,M,H,R,φ⟩ (fun x : Unit=>Vs r) (fun x=>True) (fun x=>⟨w0,M,H,R,φ⟩):=by
 unfold m_conf_Right_c3 at hm
 refine cn_intro (fn:=Tryz.f51) (N:=6) Tryz.func51 rfl Tryz.ntmps51 rfl<|c_seq<|c_region ?_
 refine g_e rfl (e_box 100010 rfl) (fun g1 _=>?_)
 refine g_v rfl r_assign<|g_nil<|d_then<|c_seq<|c_region<|g_v rfl (r_field (n:=0) Tryz.underlying55 rfl Tryz.sizeOf9 rfl rfl)<|g_v rfl (r_load (tag:=100010) rfl rfl rfl Tryz.isAgg9) ?_
 replace hm:=bnd hm
 obtain ⟨x2,hx3,hm⟩:=hm
 refine g_cn ⟨w0,M,_,_,φ⟩ (fun _ h=>h) Tryz.call37 rfl rfl (c_name_Lower p0.fName _ hx3) (fun _ _=>?_)
 refine g_v rfl r_assign<|g_nil<|d_then<|c_ret ?_
 cases hm
 exact d_retC () Tryz.results51 (res_tmp (res_nil rfl)) trivial (fun W h=>ok_pre (H1:=[_]) (R1:=[]) h (fun W hφ=>hφ)) (.inr rfl)
noncomputable def m_conf_all_50_j1 (p0 : List GAnchor) (p1 : Int) : Option Bool:=
  some (decide ((p0.length : Int) ≤ p1))
noncomputable def m_conf_all_50_s2 (p0 : List GAnchor) (i79 : Int) : Option (Int ⊕ (Unit ⊕ Bool)):=
  if i79 < (p0.length : Int) then
    (at_ p0 i79).bind fun x126=>
    (m_conf_Right_c4 x126).bind fun x155=>
    if x155 = true then
      if 0 < i79 then
        (at_ p0 (w64 (i79 - 1))).bind fun x159=>
        (m_conf_Right_c3 x126).bind fun x163=>
        (m_conf_Right_c3 x159).bind fun x165=>
        if (sless x163 x165 || decide (x163 = x165)) = true then
          some (.inr (.inr false))
        else
          some (.inl (w64 (i79 + 1)))
      else
        some (.inl (w64 (i79 + 1)))
    else
      some (.inr (.inr false))
  else
    some (.inr (.inl ()))
noncomputable def m_conf_all_50 (p0 : List GAnchor) (p1 : Int) : Option Bool:=
  (loop (fun s=>m_conf_all_50_s2 p0 s) 0).bind fun e=>Sum.elim (fun e=>m_conf_all_50_j1 p0 p1) (fun x=>some x) e
theorem c_conf_all_50 {w0 : World} {M : Nat→Prop} {H : List (Nat×Nat×Obj)} {R : List (Nat×Row)} {φ : World→Prop} (p0 : List GAnchor) (Ap0_0 : Option Addr) (cp0_0 : Nat) (hcp0_0 : p0.length ≤ cp0_0) (fp0_0 : ∀ W,(Sta.mk w0 M H R φ).ok W→Cl W Ap0_0 (p0.flatMap GAnchor.enc)) (p1 : Int) (r : Bool) (hm : m_conf_all_50 p0 p1 = some r) :
    Cn Tryz.prog 50 #[.slice Ap0_0 p0.length cp0_0,Vi p1,.func (.func 51) #[] #[],.func (.func 52) #[] #[]] ⟨w0,M,H,R,φ⟩ (fun x : Unit=>.bool r) (fun x=>True) (fun x=>⟨w0,M,H,R,φ⟩):=by
 unfold m_conf_all_50 at hm
 refine cn_intro (fn:=Tryz.f50) (N:=44) Tryz.func50 rfl Tryz.ntmps50 rfl<|c_seq<|c_region<|g_v rfl r_assign<|g_nil<|d_then<|c_seq<|c_seq<|c_region<|g_v rfl r_move ?_
 refine g_v rfl (r_lenL Tryz.underlying27 rfl)<|g_v rfl r_move<|g_nil<|d_then ?_
 refine c_cut (ι:=Unit) [0,1] (fun _=>[]) (fun _=>⟨w0,M,H,R,φ⟩) (fun _=>m_conf_all_50_j1 p0 p1 = some r) ?_ (fun _ u hm=>?_)
 ·
  refine c_block ?_
  replace hm:=bnd hm
  obtain ⟨out2,hl2,hr2⟩:=hm
  obtain ⟨n124',hl2⟩:=loop_lp hl2
  refine c_loopU (ι:=Nat×Int) [0,1,2,3,11,12,13] (fun ⟨n124,i79⟩=>[(13,Vi i79)]) (fun ⟨n124,i79⟩=>⟨w0,M,H,R,φ⟩) (fun ⟨n124,i79⟩=>Lp (fun s=>m_conf_all_50_s2 p0 s) n124 i79 out2) (fun ⟨n124,i79⟩=>n124) (n124',0) hl2 ⟨rfl,rfl,rfl,rfl,rfl,rfl,rfl,trivial⟩ (fun W h=>h.phi (fun W hφ=>hφ)) (fun ⟨n124,i79⟩ u hlp=>?_)
  obtain ⟨o2,hm,hnx2⟩:=lp_step hlp
  clear hlp
  replace hm : m_conf_all_50_s2 p0 i79 = some o2:=hm
  unfold m_conf_all_50_s2 at hm
  refine c_flat [(0,.slice Ap0_0 p0.length cp0_0),(1,Vi p1),(2,.func (.func 51) #[] #[]),(3,.func (.func 52) #[] #[]),(11,.slice Ap0_0 p0.length cp0_0),(12,Vi (p0.length : Int)),(13,Vi i79)] ⟨rfl,rfl,rfl,rfl,rfl,rfl,rfl,trivial⟩ (fun u=>?_)
  refine c_sta ⟨w0,M,H,R,φ⟩ (fun _ h=>h)<|c_seq<|c_region<|g_v rfl (r_lss rfl rfl)<|g_nil<|d_then<|c_seq ?_
  refine c_cond rfl (fun h125=>?_) (fun h125=>?_)
  ·
   replace hm:=ite_t hm (of_decide_eq_true h125)
   refine c_skip<|d_then<|c_seq<|c_block<|c_seq<|c_region<|g_v rfl r_move ?_
   replace hm:=bnd hm
   obtain ⟨x126,hx126,hm⟩:=hm
   refine g_know _ (fun W hS=>cl_at (p:=(Sta.mk w0 M H R φ).ok) (sz:=2) (fun _=>rfl) (by decide) (ok_pre (H1:=[]) (R1:=[]) hS (fun W h=>h)) fp0_0 hx126) ?_
   rintro ⟨ad127,hA129,f128⟩
   refine g_v rfl (r_ix Tryz.underlying27 Tryz.sizeOf55 rfl hA129 rfl hx126)<|g_v rfl (r_ldA rfl Tryz.isAgg55 Tryz.sizeOf55 (fun W hS=>(f128 W (ok_pre (H1:=[]) (R1:=[]) hS (fun W h=>h))).take 2) rfl) ?_
   refine g_e rfl (e_alloc 100100 Tryz.zeroValue55) (fun g130 _=>?_)
   refine g_v rfl r_assign<|g_storeL (tag:=100100) rfl rfl rfl rfl Tryz.sizeOf55 rfl rfl<|g_nil<|d_then<|c_seq<|ga_start (n:=21) ⟨w0,M,(100100,g130,.cells #[Vs x126.fName,Vs x126.fText] 55 (0,0))::H,R,φ⟩ [] #[false,false,false,false,false,false,false,false,false,false,false,false,false,false,false,false,false,false,false,false,false] (fun W h=>h.phi (fun W hφ=>hφ)) mixed rfl rfl<|ga_v (i:=0) (bz 21 1) rfl (by kernel_rfl) (fun _ _ _ _ h=>h) rfl (r_move)<|ga_r (i:=1) (bz 21 3) rfl (by kernel_rfl) (by decide) rfl (r_loadA (tag:=100100) rfl rfl Tryz.isAgg55 Tryz.sizeOf55 rfl rfl) ?_
   replace hm:=bnd hm
   obtain ⟨x155,hx156,hm⟩:=hm
   refine ga_cn (first:=#[]) (i:=2) (bz 21 7) rfl (by kernel_rfl) (by decide)  ⟨w0,M,_,_,φ⟩ (fun _ h=>h) Tryz.call52 rfl rfl rfl (c_conf_Right_c4 x126 _ hx156) (fun _ W _ h=>h.phi (fun W hφ=>hφ)) (fun _ _=>?_)
   refine ga_r (i:=3) (bz 21 15) rfl (by kernel_rfl) (by decide) rfl (r_not rfl)<|ga_r (i:=4) (bz 21 31) rfl (by kernel_rfl) (by decide) rfl (r_move) ?_
   refine ga_if (t:=22) rfl (fun h157=>?_) (fun h157=>?_)
   ·
    have h157' : x155 = false:=by revert h157; cases x155 <;> simp
    replace hm:=ite_f hm (bool_nt h157')
    refine ga_no (i:=5) (bz 21 63) rfl (by kernel_rfl) (fun _ _ _ _ h=>h) rfl rfl rfl rfl rfl h157<|ga_no (i:=6) (bz 21 127) rfl (by kernel_rfl) (fun _ _ _ _ h=>h) rfl rfl rfl rfl rfl h157<|ga_no (i:=7) (bz 21 255) rfl (by kernel_rfl) (fun _ _ _ _ h=>h) rfl rfl rfl rfl rfl h157<|ga_nu (i:=8) (bz 21 511) rfl (by kernel_rfl) (fun _ _ _ _ h=>h) rfl rfl rfl rfl rfl<|ga_nu (i:=9) (bz 21 1023) rfl (by kernel_rfl) (fun _ _ _ _ h=>h) rfl rfl rfl rfl rfl<|ga_nu (i:=10) (bz 21 2047) rfl (by kernel_rfl) (fun _ _ _ _ h=>h) rfl rfl rfl rfl rfl<|ga_nu (i:=11) (bz 21 4095) rfl (by kernel_rfl) (fun _ _ _ _ h=>h) rfl rfl rfl rfl rfl<|ga_nu (i:=12) (bz 21 8191) rfl (by kernel_rfl) (fun _ _ _ _ h=>h) rfl rfl rfl rfl rfl<|ga_nu (i:=13) (bz 21 16383) rfl (by kernel_rfl) (fun _ _ _ _ h=>h) rfl rfl rfl rfl rfl<|ga_nu (i:=14) (bz 21 32767) rfl (by kernel_rfl) (fun _ _ _ _ h=>h) rfl rfl rfl rfl rfl ?_
    refine ga_nu (i:=15) (bz 21 65535) rfl (by kernel_rfl) (fun _ _ _ _ h=>h) rfl rfl rfl rfl rfl<|ga_nu (i:=16) (bz 21 131071) rfl (by kernel_rfl) (fun _ _ _ _ h=>h) rfl rfl rfl rfl rfl<|ga_nu (i:=17) (bz 21 262143) rfl (by kernel_rfl) (fun _ _ _ _ h=>h) rfl rfl rfl rfl rfl<|ga_nu (i:=18) (bz 21 524287) rfl (by kernel_rfl) (fun _ _ _ _ h=>h) rfl rfl rfl rfl rfl<|ga_no (i:=19) (bz 21 1048575) rfl (by kernel_rfl) (fun _ _ _ _ h=>h) rfl rfl rfl rfl rfl h157<|ga_r (i:=20) (bz 21 2097151) rfl (by kernel_rfl) (by decide) rfl (r_pick1 rfl h157)<|ga_done (by kernel_rfl)<|d_then ?_
    refine c_flat [(0,.slice Ap0_0 p0.length cp0_0),(1,Vi p1),(2,.func (.func 51) #[] #[]),(3,.func (.func 52) #[] #[]),(11,.slice Ap0_0 p0.length cp0_0),(12,Vi (p0.length : Int)),(13,Vi i79),(38,.bool true)] ⟨rfl,rfl,rfl,rfl,rfl,rfl,rfl,rfl,trivial⟩ (fun u=>?_)
    refine c_sta ⟨w0,M,(100100,g130,.cells #[Vs x126.fName,Vs x126.fText] 55 (0,0))::H,R,φ⟩ (fun _ h=>h)<|c_cond1 rfl rfl<|c_seq<|c_region<|g_v rfl r_assign<|g_nil<|d_then<|c_ret<|d_ret_block<|d_ret_then ?_
    refine d_ret_then<|d_ret_block<|d_ret_then<|d_ret_then ?_
    replace hm:=nx_out (C:=(fun e : Unit ⊕ Bool=>Sum.elim (fun e=>m_conf_all_50_j1 p0 p1) (fun x=>some x) e = some r)) hm hnx2 hr2
    replace hm : some false = some r:=hm
    cases hm
    exact d_retC () Tryz.results50 (res_tmp (res_nil rfl)) trivial (fun W h=>ok_pre (H1:=[_]) (R1:=[]) h (fun W hφ=>hφ)) (.inr rfl)
   have h157' : x155 = true:=by revert h157; cases x155 <;> simp
   replace hm:=ite_t hm h157'
   refine ga_rG (i:=5) (bz 21 63) rfl (by kernel_rfl) (by decide) rfl rfl rfl rfl rfl h157 (r_move)<|ga_rG (i:=6) (bz 21 127) rfl (by kernel_rfl) (by decide) rfl rfl rfl rfl rfl h157 (r_gtr rfl rfl)<|ga_rG (i:=7) (bz 21 255) rfl (by kernel_rfl) (by decide) rfl rfl rfl rfl rfl h157 (r_move) ?_
   refine ga_if (t:=25) rfl (fun h158=>?_) (fun h158=>?_)
   ·
    replace hm:=ite_t hm (of_decide_eq_true h158)
    refine ga_do (i:=8) (bz 21 511) rfl (by kernel_rfl) (fun _ _ _ _ h=>h) rfl rfl rfl rfl rfl h158 (r_move)<|ga_do (i:=9) (bz 21 1023) rfl (by kernel_rfl) (fun _ _ _ _ h=>h) rfl rfl rfl rfl rfl h158 (r_loadA (tag:=100100) rfl rfl Tryz.isAgg55 Tryz.sizeOf55 rfl rfl)<|ga_do (i:=11) (bz 21 3071) rfl (by kernel_rfl) (fun _ _ _ _ h=>h) rfl rfl rfl rfl rfl h158 (r_move)<|ga_do (i:=12) (bz 21 7167) rfl (by kernel_rfl) (fun _ _ _ _ h=>h) rfl rfl rfl rfl rfl h158 (r_move)<|ga_do (i:=13) (bz 21 15359) rfl (by kernel_rfl) (fun _ _ _ _ h=>h) rfl rfl rfl rfl rfl h158 (r_move)<|ga_do (i:=14) (bz 21 31743) rfl (by kernel_rfl) (fun _ _ _ _ h=>h) rfl rfl rfl rfl rfl h158 (r_sub rfl rfl rfl) ?_
    replace hm:=bnd hm
    obtain ⟨x159,hx159,hm⟩:=hm
    refine ga_know _ (fun W hS=>cl_at (p:=(Sta.mk w0 M H R φ).ok) (sz:=2) (fun _=>rfl) (by decide) (ok_pre (H1:=[_]) (R1:=[]) hS (fun W h=>h)) fp0_0 hx159) ?_
    rintro ⟨ad160,hA162,f161⟩
    refine ga_do (i:=15) (bz 21 64511) rfl (by kernel_rfl) (fun _ _ _ _ h=>h) rfl rfl rfl rfl rfl h158 (r_ix Tryz.underlying27 Tryz.sizeOf55 rfl hA162 rfl hx159)<|ga_do (i:=16) (bz 21 130047) rfl (by kernel_rfl) (fun _ _ _ _ h=>h) rfl rfl rfl rfl rfl h158 (r_ldA rfl Tryz.isAgg55 Tryz.sizeOf55 (fun W hS=>(f161 W (ok_pre (H1:=[_]) (R1:=[]) hS (fun W h=>h))).take 2) rfl) ?_
    replace hm:=bnd hm
    obtain ⟨x163,hx164,hm⟩:=hm
    refine ga_cnG (first:=#[]) (i:=10) (bz 21 131071) rfl (by kernel_rfl) (by decide) rfl rfl rfl rfl h158  ⟨w0,M,_,_,φ⟩ (fun _ h=>h) Tryz.call51 rfl rfl rfl (c_conf_Right_c3 x126 _ hx164) (fun _ W _ h=>h.phi (fun W hφ=>hφ)) (fun _ _=>?_)
    replace hm:=bnd hm
    obtain ⟨x165,hx166,hm⟩:=hm
    refine ga_cnG (first:=#[]) (i:=17) (bz 21 262143) rfl (by kernel_rfl) (by decide) rfl rfl rfl rfl h158  ⟨w0,M,_,_,φ⟩ (fun _ h=>h) Tryz.call51 rfl rfl rfl (c_conf_Right_c3 x159 _ hx166) (fun _ W _ h=>h.phi (fun W hφ=>hφ)) (fun _ _=>?_)
    refine ga_rG (i:=18) (bz 21 524287) rfl (by kernel_rfl) (by decide) rfl rfl rfl rfl rfl h158 (r_leqT rfl rfl)<|ga_rG (i:=19) (bz 21 1048575) rfl (by kernel_rfl) (by decide) rfl rfl rfl rfl rfl h157 (r_pick1 rfl h158)<|ga_r (i:=20) (bz 21 2097151) rfl (by kernel_rfl) (by decide) rfl (r_pick0 rfl h157)<|ga_done (by kernel_rfl)<|d_then ?_
    refine c_flat [(0,.slice Ap0_0 p0.length cp0_0),(1,Vi p1),(2,.func (.func 51) #[] #[]),(3,.func (.func 52) #[] #[]),(11,.slice Ap0_0 p0.length cp0_0),(12,Vi (p0.length : Int)),(13,Vi i79),(38,.bool (sless x163 x165 || decide (x163 = x165)))] ⟨rfl,rfl,rfl,rfl,rfl,rfl,rfl,rfl,trivial⟩ (fun u=>?_)
    refine c_sta ⟨w0,M,(100100,g130,.cells #[Vs x126.fName,Vs x126.fText] 55 (0,0))::H,R,φ⟩ (fun _ h=>h) ?_
    refine c_cond rfl (fun h167=>?_) (fun h167=>?_)
    ·
     replace hm:=ite_t hm h167
     refine c_seq<|c_region<|g_v rfl r_assign<|g_nil<|d_then<|c_ret<|d_ret_block<|d_ret_then<|d_ret_then<|d_ret_block ?_
     refine d_ret_then<|d_ret_then ?_
     replace hm:=nx_out (C:=(fun e : Unit ⊕ Bool=>Sum.elim (fun e=>m_conf_all_50_j1 p0 p1) (fun x=>some x) e = some r)) hm hnx2 hr2
     replace hm : some false = some r:=hm
     cases hm
     exact d_retC () Tryz.results50 (res_tmp (res_nil rfl)) trivial (fun W h=>ok_pre (H1:=[_]) (R1:=[]) h (fun W hφ=>hφ)) (.inr rfl)
    replace hm:=ite_f hm (bool_nt h167)
    refine c_skip<|d_normal_block<|d_then<|c_region<|g_v rfl (r_add rfl rfl rfl)<|g_v rfl r_move<|g_nil ?_
    obtain ⟨n168,hn168,hlp⟩:=nx_inl hm hnx2
    exact d_round (n168,w64 (i79 + 1)) hlp hn168 ⟨rfl,rfl,rfl,rfl,rfl,rfl,rfl,trivial⟩ (fun W h=>(h.dropH (t:=100100) rfl).phi (fun W hφ=>hφ))
   replace hm:=ite_f hm (of_decide_eq_false h158)
   refine ga_no (i:=8) (bz 21 511) rfl (by kernel_rfl) (fun _ _ _ _ h=>h) rfl rfl rfl rfl rfl h158<|ga_no (i:=9) (bz 21 1023) rfl (by kernel_rfl) (fun _ _ _ _ h=>h) rfl rfl rfl rfl rfl h158<|ga_no (i:=10) (bz 21 2047) rfl (by kernel_rfl) (fun _ _ _ _ h=>h) rfl rfl rfl rfl rfl h158<|ga_no (i:=11) (bz 21 4095) rfl (by kernel_rfl) (fun _ _ _ _ h=>h) rfl rfl rfl rfl rfl h158<|ga_no (i:=12) (bz 21 8191) rfl (by kernel_rfl) (fun _ _ _ _ h=>h) rfl rfl rfl rfl rfl h158<|ga_no (i:=13) (bz 21 16383) rfl (by kernel_rfl) (fun _ _ _ _ h=>h) rfl rfl rfl rfl rfl h158<|ga_no (i:=14) (bz 21 32767) rfl (by kernel_rfl) (fun _ _ _ _ h=>h) rfl rfl rfl rfl rfl h158<|ga_no (i:=15) (bz 21 65535) rfl (by kernel_rfl) (fun _ _ _ _ h=>h) rfl rfl rfl rfl rfl h158<|ga_no (i:=16) (bz 21 131071) rfl (by kernel_rfl) (fun _ _ _ _ h=>h) rfl rfl rfl rfl rfl h158<|ga_no (i:=17) (bz 21 262143) rfl (by kernel_rfl) (fun _ _ _ _ h=>h) rfl rfl rfl rfl rfl h158 ?_
   refine ga_no (i:=18) (bz 21 524287) rfl (by kernel_rfl) (fun _ _ _ _ h=>h) rfl rfl rfl rfl rfl h158<|ga_rG (i:=19) (bz 21 1048575) rfl (by kernel_rfl) (by decide) rfl rfl rfl rfl rfl h157 (r_pick0 rfl h158)<|ga_r (i:=20) (bz 21 2097151) rfl (by kernel_rfl) (by decide) rfl (r_pick0 rfl h157)<|ga_done (by kernel_rfl)<|d_then ?_
   refine c_flat [(0,.slice Ap0_0 p0.length cp0_0),(1,Vi p1),(2,.func (.func 51) #[] #[]),(3,.func (.func 52) #[] #[]),(11,.slice Ap0_0 p0.length cp0_0),(12,Vi (p0.length : Int)),(13,Vi i79),(38,.bool false)] ⟨rfl,rfl,rfl,rfl,rfl,rfl,rfl,rfl,trivial⟩ (fun u=>?_)
   refine c_sta ⟨w0,M,(100100,g130,.cells #[Vs x126.fName,Vs x126.fText] 55 (0,0))::H,R,φ⟩ (fun _ h=>h)<|c_cond0 rfl rfl<|c_skip<|d_normal_block<|d_then<|c_region<|g_v rfl (r_add rfl rfl rfl)<|g_v rfl r_move<|g_nil ?_
   obtain ⟨n169,hn169,hlp⟩:=nx_inl hm hnx2
   exact d_round (n169,w64 (i79 + 1)) hlp hn169 ⟨rfl,rfl,rfl,rfl,rfl,rfl,rfl,trivial⟩ (fun W h=>(h.dropH (t:=100100) rfl).phi (fun W hφ=>hφ))
  replace hm:=ite_f hm (of_decide_eq_false h125)
  refine c_exit<|d_exit_then<|d_exit_then<|d_exit_block ?_
  replace hm:=nx_out (C:=(fun e : Unit ⊕ Bool=>Sum.elim (fun e=>m_conf_all_50_j1 p0 p1) (fun x=>some x) e = some r)) hm hnx2 hr2
  exact d_round () hm Nat.zero_lt_one ⟨rfl,rfl,trivial⟩ (fun W h=>h.phi (fun W hφ=>hφ))
 unfold m_conf_all_50_j1 at hm
 refine d_flat [(0,.slice Ap0_0 p0.length cp0_0),(1,Vi p1)] ⟨rfl,rfl,trivial⟩ (fun u=>?_)
 refine d_sta ⟨w0,M,H,R,φ⟩ (fun _ h=>h)<|d_then<|c_seq<|c_region<|g_v rfl r_move<|g_v rfl (r_lenL Tryz.underlying27 rfl)<|g_v rfl r_move<|g_v rfl (r_leq rfl rfl)<|g_v rfl r_assign<|g_nil ?_
 refine d_then<|c_ret ?_
 cases hm
 exact d_retC () Tryz.results50 (res_tmp (res_nil rfl)) trivial (fun W h=>ok_pre (H1:=[]) (R1:=[]) h (fun W hφ=>hφ)) (.inr rfl)
noncomputable def m_conf_Right_c6 (p0 : GFlush) (o0 : GConf) : Option Bool:=
  (m_conf_named p0.fZone).bind fun x16=>
  if x16 = true then
    (m_name_Lower p0.fZone).bind fun x19=>
    if x19 = p0.fZone then
      if 1 ≤ p0.fEpoch then
        some (decide (p0.fEpoch ≤ o0.fEpoch))
      else
        some false
    else
      some false
  else
    some false
theorem c_conf_Right_c6 {w0 : World} {M : Nat→Prop} {H : List (Nat×Nat×Obj)} {R : List (Nat×Row)} {φ : World→Prop} (p0 : GFlush) (go0 : Nat) (o0 : GConf) (Ao0_0 : Option Addr) (co0_0 : Nat) (hco0_0 : o0.fRing.length ≤ co0_0) (fo0_0 : ∀ W,φ W→Cl W Ao0_0 (o0.fRing.flatMap (fun x : Int=>[Value.int .i64 x]))) (Ao0_1 : Option Addr) (co0_1 : Nat) (hco0_1 : o0.fHints.length ≤ co0_1) (fo0_1 : ∀ W,φ W→Cl W Ao0_1 (o0.fHints.flatMap (fun x : ByteArray=>[Value.string x]))) (Ao0_2 : Option Addr) (co0_2 : Nat) (hco0_2 : o0.fAnchors.length ≤ co0_2) (fo0_2 : ∀ W,φ W→Cl W Ao0_2 (o0.fAnchors.flatMap GAnchor.enc)) (Ao0_3 : Option Addr) (co0_3 : Nat) (hco0_3 : o0.fFlushes.length ≤ co0_3) (fo0_3 : ∀ W,φ W→Cl W Ao0_3 (o0.fFlushes.flatMap GFlush.enc)) (r : Bool) (hm : m_conf_Right_c6 p0 o0 = some r) :
    Cn Tryz.prog 56 #[.agg #[Vi p0.fEpoch,Vs p0.fZone],Vp go0] ⟨w0,M,(1000,go0,.cells #[.slice Ao0_0 o0.fRing.length co0_0,.slice Ao0_1 o0.fHints.length co0_1,.slice Ao0_2 o0.fAnchors.length co0_2,Vi o0.fEpoch,.slice Ao0_3 o0.fFlushes.length co0_3] 30 (0,0))::H,R,φ⟩ (fun x : Unit=>.bool r) (fun x=>True) (fun x=>⟨w0,M,(1000,go0,.cells #[.slice Ao0_0 o0.fRing.length co0_0,.slice Ao0_1 o0.fHints.length co0_1,.slice Ao0_2 o0.fAnchors.length co0_2,Vi o0.fEpoch,.slice Ao0_3 o0.fFlushes.length co0_3] 30 (0,0))::H,R,φ⟩):=by
 unfold m_conf_Right_c6 at hm
 refine cn_intro (fn:=Tryz.f56) (N:=27) Tryz.func56 rfl Tryz.ntmps56 rfl<|c_seq<|c_region ?_
 refine g_e rfl (e_box 100020 rfl) (fun g1 _=>?_)
 refine g_v rfl r_assign<|g_nil<|d_then<|c_seq<|ga_start (n:=24) ⟨w0,M,(100020,g1,.cells #[Vi p0.fEpoch,Vs p0.fZone] 48 (0,0))::(1000,go0,.cells #[.slice Ao0_0 o0.fRing.length co0_0,.slice Ao0_1 o0.fHints.length co0_1,.slice Ao0_2 o0.fAnchors.length co0_2,Vi o0.fEpoch,.slice Ao0_3 o0.fFlushes.length co0_3] 30 (0,0))::H,R,φ⟩ [] #[false,false,false,false,false,false,false,false,false,false,false,false,false,false,false,false,false,false,false,false,false,false,false,false] (fun W h=>h.phi (fun W hφ=>hφ)) mixed rfl rfl<|ga_r (i:=0) (bz 24 1) rfl (by kernel_rfl) (by decide) rfl (r_field (n:=1) Tryz.underlying48 rfl Tryz.sizeOf9 rfl rfl)<|ga_r (i:=1) (bz 24 3) rfl (by kernel_rfl) (by decide) rfl (r_load (tag:=100020) rfl rfl rfl Tryz.isAgg9) ?_
 replace hm:=bnd hm
 obtain ⟨x16,hx17,hm⟩:=hm
 refine ga_cn (first:=#[]) (i:=2) (bz 24 7) rfl (by kernel_rfl) (by decide)  ⟨w0,M,_,_,φ⟩ (fun _ h=>h) Tryz.call53 rfl rfl rfl (c_conf_named p0.fZone _ hx17) (fun _ W _ h=>h.phi (fun W hφ=>hφ)) (fun _ _=>?_)
 refine ga_r (i:=3) (bz 24 15) rfl (by kernel_rfl) (by decide) rfl (r_move) ?_
 refine ga_if (t:=7) rfl (fun h18=>?_) (fun h18=>?_)
 ·
  replace hm:=ite_t hm h18
  refine ga_do (i:=4) (bz 24 31) rfl (by kernel_rfl) (fun _ _ _ _ h=>h) rfl rfl rfl rfl rfl h18 (r_field (n:=1) Tryz.underlying48 rfl Tryz.sizeOf9 rfl rfl)<|ga_do (i:=5) (bz 24 63) rfl (by kernel_rfl) (fun _ _ _ _ h=>h) rfl rfl rfl rfl rfl h18 (r_load (tag:=100020) rfl rfl rfl Tryz.isAgg9)<|ga_do (i:=7) (bz 24 191) rfl (by kernel_rfl) (fun _ _ _ _ h=>h) rfl rfl rfl rfl rfl h18 (r_field (n:=1) Tryz.underlying48 rfl Tryz.sizeOf9 rfl rfl)<|ga_do (i:=8) (bz 24 447) rfl (by kernel_rfl) (fun _ _ _ _ h=>h) rfl rfl rfl rfl rfl h18 (r_load (tag:=100020) rfl rfl rfl Tryz.isAgg9) ?_
  replace hm:=bnd hm
  obtain ⟨x19,hx20,hm⟩:=hm
  refine ga_cnG (first:=#[]) (i:=6) (bz 24 511) rfl (by kernel_rfl) (by decide) rfl rfl rfl rfl h18  ⟨w0,M,_,_,φ⟩ (fun _ h=>h) Tryz.call37 rfl rfl rfl (c_name_Lower p0.fZone _ hx20) (fun _ W _ h=>h.phi (fun W hφ=>hφ)) (fun _ _=>?_)
  refine ga_rG (i:=9) (bz 24 1023) rfl (by kernel_rfl) (by decide) rfl rfl rfl rfl rfl h18 (r_eqlT rfl rfl)<|ga_r (i:=10) (bz 24 2047) rfl (by kernel_rfl) (by decide) rfl (r_pick1 rfl h18)<|ga_r (i:=11) (bz 24 4095) rfl (by kernel_rfl) (by decide) rfl (r_move) ?_
  refine ga_if (t:=15) rfl (fun h21=>?_) (fun h21=>?_)
  ·
   replace hm:=ite_t hm (of_decide_eq_true h21)
   refine ga_rG (i:=12) (bz 24 8191) rfl (by kernel_rfl) (by decide) rfl rfl rfl rfl rfl h21 (r_field (n:=0) Tryz.underlying48 rfl Tryz.sizeOf3 rfl rfl)<|ga_rG (i:=13) (bz 24 16383) rfl (by kernel_rfl) (by decide) rfl rfl rfl rfl rfl h21 (r_load (tag:=100020) rfl rfl rfl Tryz.isAgg3)<|ga_rG (i:=14) (bz 24 32767) rfl (by kernel_rfl) (by decide) rfl rfl rfl rfl rfl h21 (r_geq rfl rfl)<|ga_r (i:=15) (bz 24 65535) rfl (by kernel_rfl) (by decide) rfl (r_pick1 rfl h21)<|ga_r (i:=16) (bz 24 131071) rfl (by kernel_rfl) (by decide) rfl (r_move) ?_
   refine ga_if (t:=20) rfl (fun h22=>?_) (fun h22=>?_)
   ·
    replace hm:=ite_t hm (of_decide_eq_true h22)
    refine ga_do (i:=17) (bz 24 262143) rfl (by kernel_rfl) (fun _ _ _ _ h=>h) rfl rfl rfl rfl rfl h22 (r_field (n:=0) Tryz.underlying48 rfl Tryz.sizeOf3 rfl rfl)<|ga_do (i:=18) (bz 24 524287) rfl (by kernel_rfl) (fun _ _ _ _ h=>h) rfl rfl rfl rfl rfl h22 (r_load (tag:=100020) rfl rfl rfl Tryz.isAgg3)<|ga_rG (i:=19) (bz 24 1048575) rfl (by kernel_rfl) (by decide) rfl rfl rfl rfl rfl h22 (r_field (n:=3) Tryz.underlying30 rfl Tryz.sizeOf3 rfl rfl)<|ga_rG (i:=20) (bz 24 2097151) rfl (by kernel_rfl) (by decide) rfl rfl rfl rfl rfl h22 (r_load (tag:=1000) rfl rfl rfl Tryz.isAgg3)<|ga_rG (i:=21) (bz 24 4194303) rfl (by kernel_rfl) (by decide) rfl rfl rfl rfl rfl h22 (r_leq rfl rfl)<|ga_r (i:=22) (bz 24 8388607) rfl (by kernel_rfl) (by decide) rfl (r_pick1 rfl h22)<|ga_r (i:=23) (bz 24 16777215) rfl (by kernel_rfl) (by decide) rfl (r_assign)<|ga_done (by kernel_rfl)<|d_then ?_
    refine c_flat [(3,.bool (decide (p0.fEpoch ≤ o0.fEpoch)))] ⟨rfl,trivial⟩ (fun u=>?_)
    refine c_sta ⟨w0,M,(100020,g1,.cells #[Vi p0.fEpoch,Vs p0.fZone] 48 (0,0))::(1000,go0,.cells #[.slice Ao0_0 o0.fRing.length co0_0,.slice Ao0_1 o0.fHints.length co0_1,.slice Ao0_2 o0.fAnchors.length co0_2,Vi o0.fEpoch,.slice Ao0_3 o0.fFlushes.length co0_3] 30 (0,0))::H,R,φ⟩ (fun _ h=>h)<|c_ret ?_
    cases hm
    exact d_retC () Tryz.results56 (res_tmp (res_nil rfl)) trivial (fun W h=>(h.dropH (t:=100020) rfl).phi (fun W hφ=>hφ)) (.inr rfl)
   replace hm:=ite_f hm (of_decide_eq_false h22)
   refine ga_no (i:=17) (bz 24 262143) rfl (by kernel_rfl) (fun _ _ _ _ h=>h) rfl rfl rfl rfl rfl h22<|ga_no (i:=18) (bz 24 524287) rfl (by kernel_rfl) (fun _ _ _ _ h=>h) rfl rfl rfl rfl rfl h22<|ga_no (i:=19) (bz 24 1048575) rfl (by kernel_rfl) (fun _ _ _ _ h=>h) rfl rfl rfl rfl rfl h22<|ga_no (i:=20) (bz 24 2097151) rfl (by kernel_rfl) (fun _ _ _ _ h=>h) rfl rfl rfl rfl rfl h22<|ga_no (i:=21) (bz 24 4194303) rfl (by kernel_rfl) (fun _ _ _ _ h=>h) rfl rfl rfl rfl rfl h22<|ga_r (i:=22) (bz 24 8388607) rfl (by kernel_rfl) (by decide) rfl (r_pick0 rfl h22)<|ga_r (i:=23) (bz 24 16777215) rfl (by kernel_rfl) (by decide) rfl (r_assign)<|ga_done (by kernel_rfl)<|d_then ?_
   refine c_flat [(3,.bool false)] ⟨rfl,trivial⟩ (fun u=>?_)
   refine c_sta ⟨w0,M,(100020,g1,.cells #[Vi p0.fEpoch,Vs p0.fZone] 48 (0,0))::(1000,go0,.cells #[.slice Ao0_0 o0.fRing.length co0_0,.slice Ao0_1 o0.fHints.length co0_1,.slice Ao0_2 o0.fAnchors.length co0_2,Vi o0.fEpoch,.slice Ao0_3 o0.fFlushes.length co0_3] 30 (0,0))::H,R,φ⟩ (fun _ h=>h)<|c_ret ?_
   cases hm
   exact d_retC () Tryz.results56 (res_tmp (res_nil rfl)) trivial (fun W h=>(h.dropH (t:=100020) rfl).phi (fun W hφ=>hφ)) (.inr rfl)
  replace hm:=ite_f hm (of_decide_eq_false h21)
  refine ga_no (i:=12) (bz 24 8191) rfl (by kernel_rfl) (fun _ _ _ _ h=>h) rfl rfl rfl rfl rfl h21<|ga_no (i:=13) (bz 24 16383) rfl (by kernel_rfl) (fun _ _ _ _ h=>h) rfl rfl rfl rfl rfl h21<|ga_no (i:=14) (bz 24 32767) rfl (by kernel_rfl) (fun _ _ _ _ h=>h) rfl rfl rfl rfl rfl h21<|ga_r (i:=15) (bz 24 65535) rfl (by kernel_rfl) (by decide) rfl (r_pick0 rfl h21)<|ga_r (i:=16) (bz 24 131071) rfl (by kernel_rfl) (by decide) rfl (r_move)<|ga_no (i:=17) (bz 24 262143) rfl (by kernel_rfl) (fun _ _ _ _ h=>h) rfl rfl rfl rfl rfl rfl<|ga_no (i:=18) (bz 24 524287) rfl (by kernel_rfl) (fun _ _ _ _ h=>h) rfl rfl rfl rfl rfl rfl<|ga_no (i:=19) (bz 24 1048575) rfl (by kernel_rfl) (fun _ _ _ _ h=>h) rfl rfl rfl rfl rfl rfl<|ga_no (i:=20) (bz 24 2097151) rfl (by kernel_rfl) (fun _ _ _ _ h=>h) rfl rfl rfl rfl rfl rfl<|ga_no (i:=21) (bz 24 4194303) rfl (by kernel_rfl) (fun _ _ _ _ h=>h) rfl rfl rfl rfl rfl rfl ?_
  refine ga_r (i:=22) (bz 24 8388607) rfl (by kernel_rfl) (by decide) rfl (r_pick0 rfl rfl)<|ga_r (i:=23) (bz 24 16777215) rfl (by kernel_rfl) (by decide) rfl (r_assign)<|ga_done (by kernel_rfl)<|d_then ?_
  refine c_flat [(3,.bool false)] ⟨rfl,trivial⟩ (fun u=>?_)
  refine c_sta ⟨w0,M,(100020,g1,.cells #[Vi p0.fEpoch,Vs p0.fZone] 48 (0,0))::(1000,go0,.cells #[.slice Ao0_0 o0.fRing.length co0_0,.slice Ao0_1 o0.fHints.length co0_1,.slice Ao0_2 o0.fAnchors.length co0_2,Vi o0.fEpoch,.slice Ao0_3 o0.fFlushes.length co0_3] 30 (0,0))::H,R,φ⟩ (fun _ h=>h)<|c_ret ?_
  cases hm
  exact d_retC () Tryz.results56 (res_tmp (res_nil rfl)) trivial (fun W h=>(h.dropH (t:=100020) rfl).phi (fun W hφ=>hφ)) (.inr rfl)
 replace hm:=ite_f hm (bool_nt h18)
 refine ga_no (i:=4) (bz 24 31) rfl (by kernel_rfl) (fun _ _ _ _ h=>h) rfl rfl rfl rfl rfl h18<|ga_no (i:=5) (bz 24 63) rfl (by kernel_rfl) (fun _ _ _ _ h=>h) rfl rfl rfl rfl rfl h18<|ga_no (i:=6) (bz 24 127) rfl (by kernel_rfl) (fun _ _ _ _ h=>h) rfl rfl rfl rfl rfl h18<|ga_no (i:=7) (bz 24 255) rfl (by kernel_rfl) (fun _ _ _ _ h=>h) rfl rfl rfl rfl rfl h18<|ga_no (i:=8) (bz 24 511) rfl (by kernel_rfl) (fun _ _ _ _ h=>h) rfl rfl rfl rfl rfl h18<|ga_no (i:=9) (bz 24 1023) rfl (by kernel_rfl) (fun _ _ _ _ h=>h) rfl rfl rfl rfl rfl h18<|ga_r (i:=10) (bz 24 2047) rfl (by kernel_rfl) (by decide) rfl (r_pick0 rfl h18)<|ga_r (i:=11) (bz 24 4095) rfl (by kernel_rfl) (by decide) rfl (r_move)<|ga_no (i:=12) (bz 24 8191) rfl (by kernel_rfl) (fun _ _ _ _ h=>h) rfl rfl rfl rfl rfl rfl<|ga_no (i:=13) (bz 24 16383) rfl (by kernel_rfl) (fun _ _ _ _ h=>h) rfl rfl rfl rfl rfl rfl ?_
 refine ga_no (i:=14) (bz 24 32767) rfl (by kernel_rfl) (fun _ _ _ _ h=>h) rfl rfl rfl rfl rfl rfl<|ga_r (i:=15) (bz 24 65535) rfl (by kernel_rfl) (by decide) rfl (r_pick0 rfl rfl)<|ga_r (i:=16) (bz 24 131071) rfl (by kernel_rfl) (by decide) rfl (r_move)<|ga_no (i:=17) (bz 24 262143) rfl (by kernel_rfl) (fun _ _ _ _ h=>h) rfl rfl rfl rfl rfl rfl<|ga_no (i:=18) (bz 24 524287) rfl (by kernel_rfl) (fun _ _ _ _ h=>h) rfl rfl rfl rfl rfl rfl<|ga_no (i:=19) (bz 24 1048575) rfl (by kernel_rfl) (fun _ _ _ _ h=>h) rfl rfl rfl rfl rfl rfl<|ga_no (i:=20) (bz 24 2097151) rfl (by kernel_rfl) (fun _ _ _ _ h=>h) rfl rfl rfl rfl rfl rfl<|ga_no (i:=21) (bz 24 4194303) rfl (by kernel_rfl) (fun _ _ _ _ h=>h) rfl rfl rfl rfl rfl rfl<|ga_r (i:=22) (bz 24 8388607) rfl (by kernel_rfl) (by decide) rfl (r_pick0 rfl rfl)<|ga_r (i:=23) (bz 24 16777215) rfl (by kernel_rfl) (by decide) rfl (r_assign) ?_
 refine ga_done (by kernel_rfl)<|d_then ?_
 refine c_flat [(3,.bool false)] ⟨rfl,trivial⟩ (fun u=>?_)
 refine c_sta ⟨w0,M,(100020,g1,.cells #[Vi p0.fEpoch,Vs p0.fZone] 48 (0,0))::(1000,go0,.cells #[.slice Ao0_0 o0.fRing.length co0_0,.slice Ao0_1 o0.fHints.length co0_1,.slice Ao0_2 o0.fAnchors.length co0_2,Vi o0.fEpoch,.slice Ao0_3 o0.fFlushes.length co0_3] 30 (0,0))::H,R,φ⟩ (fun _ h=>h)<|c_ret ?_
 cases hm
 exact d_retC () Tryz.results56 (res_tmp (res_nil rfl)) trivial (fun W h=>(h.dropH (t:=100020) rfl).phi (fun W hφ=>hφ)) (.inr rfl)
noncomputable def m_conf_Right_c5 (p0 : GFlush) : Option Int:=
  some p0.fEpoch
theorem c_conf_Right_c5 {w0 : World} {M : Nat→Prop} {H : List (Nat×Nat×Obj)} {R : List (Nat×Row)} {φ : World→Prop} (p0 : GFlush) (r : Int) (hm : m_conf_Right_c5 p0 = some r) :
    Cn Tryz.prog 55 #[.agg #[Vi p0.fEpoch,Vs p0.fZone]] ⟨w0,M,H,R,φ⟩ (fun x : Unit=>Vi r) (fun x=>True) (fun x=>⟨w0,M,H,R,φ⟩):=by
 unfold m_conf_Right_c5 at hm
 refine cn_intro (fn:=Tryz.f55) (N:=5) Tryz.func55 rfl Tryz.ntmps55 rfl<|c_seq<|c_region ?_
 refine g_e rfl (e_box 100010 rfl) (fun g1 _=>?_)
 refine g_v rfl r_assign<|g_nil<|d_then<|c_seq<|c_region<|g_v rfl (r_field (n:=0) Tryz.underlying48 rfl Tryz.sizeOf3 rfl rfl)<|g_v rfl (r_load (tag:=100010) rfl rfl rfl Tryz.isAgg3)<|g_v rfl r_assign<|g_nil<|d_then ?_
 refine c_ret ?_
 cases hm
 exact d_retC () Tryz.results55 (res_tmp (res_nil rfl)) trivial (fun W h=>ok_pre (H1:=[_]) (R1:=[]) h (fun W hφ=>hφ)) (.inr rfl)
noncomputable def m_conf_all_54_j1 (p0 : List GFlush) (p1 : Int) : Option Bool:=
  some (decide ((p0.length : Int) ≤ p1))
noncomputable def m_conf_all_54_s2 (p0 : List GFlush) (o0 : GConf) (i79 : Int) : Option (Int ⊕ (Unit ⊕ Bool)):=
  if i79 < (p0.length : Int) then
    (at_ p0 i79).bind fun x126=>
    (m_conf_Right_c6 x126 o0).bind fun x155=>
    if x155 = true then
      if 0 < i79 then
        (at_ p0 (w64 (i79 - 1))).bind fun x159=>
        (m_conf_Right_c5 x126).bind fun x163=>
        (m_conf_Right_c5 x159).bind fun x165=>
        if x163 ≤ x165 then
          some (.inr (.inr false))
        else
          some (.inl (w64 (i79 + 1)))
      else
        some (.inl (w64 (i79 + 1)))
    else
      some (.inr (.inr false))
  else
    some (.inr (.inl ()))
noncomputable def m_conf_all_54 (p0 : List GFlush) (p1 : Int) (o0 : GConf) : Option Bool:=
  (loop (fun s=>m_conf_all_54_s2 p0 o0 s) 0).bind fun e=>Sum.elim (fun e=>m_conf_all_54_j1 p0 p1) (fun x=>some x) e
theorem c_conf_all_54 {w0 : World} {M : Nat→Prop} {H : List (Nat×Nat×Obj)} {R : List (Nat×Row)} {φ : World→Prop} (p0 : List GFlush) (Ap0_0 : Option Addr) (cp0_0 : Nat) (hcp0_0 : p0.length ≤ cp0_0) (fp0_0 : ∀ W,(Sta.mk w0 M H R φ).ok W→Cl W Ap0_0 (p0.flatMap GFlush.enc)) (p1 : Int) (go0 : Nat) (o0 : GConf) (Ao0_0 : Option Addr) (co0_0 : Nat) (hco0_0 : o0.fRing.length ≤ co0_0) (fo0_0 : ∀ W,φ W→Cl W Ao0_0 (o0.fRing.flatMap (fun x : Int=>[Value.int .i64 x]))) (Ao0_1 : Option Addr) (co0_1 : Nat) (hco0_1 : o0.fHints.length ≤ co0_1) (fo0_1 : ∀ W,φ W→Cl W Ao0_1 (o0.fHints.flatMap (fun x : ByteArray=>[Value.string x]))) (Ao0_2 : Option Addr) (co0_2 : Nat) (hco0_2 : o0.fAnchors.length ≤ co0_2) (fo0_2 : ∀ W,φ W→Cl W Ao0_2 (o0.fAnchors.flatMap GAnchor.enc)) (Ao0_3 : Option Addr) (co0_3 : Nat) (hco0_3 : o0.fFlushes.length ≤ co0_3) (fo0_3 : ∀ W,φ W→Cl W Ao0_3 (o0.fFlushes.flatMap GFlush.enc)) (r : Bool) (hm : m_conf_all_54 p0 p1 o0 = some r) :
    Cn Tryz.prog 54 #[.slice Ap0_0 p0.length cp0_0,Vi p1,.func (.func 55) #[] #[],.func (.func 56) #[] #[Vp go0]] ⟨w0,M,(1000,go0,.cells #[.slice Ao0_0 o0.fRing.length co0_0,.slice Ao0_1 o0.fHints.length co0_1,.slice Ao0_2 o0.fAnchors.length co0_2,Vi o0.fEpoch,.slice Ao0_3 o0.fFlushes.length co0_3] 30 (0,0))::H,R,φ⟩ (fun x : Unit=>.bool r) (fun x=>True) (fun x=>⟨w0,M,(1000,go0,.cells #[.slice Ao0_0 o0.fRing.length co0_0,.slice Ao0_1 o0.fHints.length co0_1,.slice Ao0_2 o0.fAnchors.length co0_2,Vi o0.fEpoch,.slice Ao0_3 o0.fFlushes.length co0_3] 30 (0,0))::H,R,φ⟩):=by
 unfold m_conf_all_54 at hm
 refine cn_intro (fn:=Tryz.f54) (N:=44) Tryz.func54 rfl Tryz.ntmps54 rfl<|c_seq<|c_region<|g_v rfl r_assign<|g_nil<|d_then<|c_seq<|c_seq<|c_region<|g_v rfl r_move ?_
 refine g_v rfl (r_lenL Tryz.underlying28 rfl)<|g_v rfl r_move<|g_nil<|d_then ?_
 refine c_cut (ι:=Unit) [0,1] (fun _=>[]) (fun _=>⟨w0,M,(1000,go0,.cells #[.slice Ao0_0 o0.fRing.length co0_0,.slice Ao0_1 o0.fHints.length co0_1,.slice Ao0_2 o0.fAnchors.length co0_2,Vi o0.fEpoch,.slice Ao0_3 o0.fFlushes.length co0_3] 30 (0,0))::H,R,φ⟩) (fun _=>m_conf_all_54_j1 p0 p1 = some r) ?_ (fun _ u hm=>?_)
 ·
  refine c_block ?_
  replace hm:=bnd hm
  obtain ⟨out2,hl2,hr2⟩:=hm
  obtain ⟨n124',hl2⟩:=loop_lp hl2
  refine c_loopU (ι:=Nat×Int) [0,1,2,3,11,12,13] (fun ⟨n124,i79⟩=>[(13,Vi i79)]) (fun ⟨n124,i79⟩=>⟨w0,M,(1000,go0,.cells #[.slice Ao0_0 o0.fRing.length co0_0,.slice Ao0_1 o0.fHints.length co0_1,.slice Ao0_2 o0.fAnchors.length co0_2,Vi o0.fEpoch,.slice Ao0_3 o0.fFlushes.length co0_3] 30 (0,0))::H,R,φ⟩) (fun ⟨n124,i79⟩=>Lp (fun s=>m_conf_all_54_s2 p0 o0 s) n124 i79 out2) (fun ⟨n124,i79⟩=>n124) (n124',0) hl2 ⟨rfl,rfl,rfl,rfl,rfl,rfl,rfl,trivial⟩ (fun W h=>h.phi (fun W hφ=>hφ)) (fun ⟨n124,i79⟩ u hlp=>?_)
  obtain ⟨o2,hm,hnx2⟩:=lp_step hlp
  clear hlp
  replace hm : m_conf_all_54_s2 p0 o0 i79 = some o2:=hm
  unfold m_conf_all_54_s2 at hm
  refine c_flat [(0,.slice Ap0_0 p0.length cp0_0),(1,Vi p1),(2,.func (.func 55) #[] #[]),(3,.func (.func 56) #[] #[Vp go0]),(11,.slice Ap0_0 p0.length cp0_0),(12,Vi (p0.length : Int)),(13,Vi i79)] ⟨rfl,rfl,rfl,rfl,rfl,rfl,rfl,trivial⟩ (fun u=>?_)
  refine c_sta ⟨w0,M,(1000,go0,.cells #[.slice Ao0_0 o0.fRing.length co0_0,.slice Ao0_1 o0.fHints.length co0_1,.slice Ao0_2 o0.fAnchors.length co0_2,Vi o0.fEpoch,.slice Ao0_3 o0.fFlushes.length co0_3] 30 (0,0))::H,R,φ⟩ (fun _ h=>h)<|c_seq<|c_region<|g_v rfl (r_lss rfl rfl)<|g_nil<|d_then<|c_seq ?_
  refine c_cond rfl (fun h125=>?_) (fun h125=>?_)
  ·
   replace hm:=ite_t hm (of_decide_eq_true h125)
   refine c_skip<|d_then<|c_seq<|c_block<|c_seq<|c_region<|g_v rfl r_move ?_
   replace hm:=bnd hm
   obtain ⟨x126,hx126,hm⟩:=hm
   refine g_know _ (fun W hS=>cl_at (p:=(Sta.mk w0 M H R φ).ok) (sz:=2) (fun _=>rfl) (by decide) (ok_pre (H1:=[_]) (R1:=[]) hS (fun W h=>h)) fp0_0 hx126) ?_
   rintro ⟨ad127,hA129,f128⟩
   refine g_v rfl (r_ix Tryz.underlying28 Tryz.sizeOf48 rfl hA129 rfl hx126)<|g_v rfl (r_ldA rfl Tryz.isAgg48 Tryz.sizeOf48 (fun W hS=>(f128 W (ok_pre (H1:=[_]) (R1:=[]) hS (fun W h=>h))).take 2) rfl) ?_
   refine g_e rfl (e_alloc 100100 Tryz.zeroValue48) (fun g130 _=>?_)
   refine g_v rfl r_assign<|g_storeL (tag:=100100) rfl rfl rfl rfl Tryz.sizeOf48 rfl rfl<|g_nil<|d_then<|c_seq<|ga_start (n:=21) ⟨w0,M,(100100,g130,.cells #[Vi x126.fEpoch,Vs x126.fZone] 48 (0,0))::(1000,go0,.cells #[.slice Ao0_0 o0.fRing.length co0_0,.slice Ao0_1 o0.fHints.length co0_1,.slice Ao0_2 o0.fAnchors.length co0_2,Vi o0.fEpoch,.slice Ao0_3 o0.fFlushes.length co0_3] 30 (0,0))::H,R,φ⟩ [] #[false,false,false,false,false,false,false,false,false,false,false,false,false,false,false,false,false,false,false,false,false] (fun W h=>h.phi (fun W hφ=>hφ)) mixed rfl rfl<|ga_v (i:=0) (bz 21 1) rfl (by kernel_rfl) (fun _ _ _ _ h=>h) rfl (r_move)<|ga_r (i:=1) (bz 21 3) rfl (by kernel_rfl) (by decide) rfl (r_loadA (tag:=100100) rfl rfl Tryz.isAgg48 Tryz.sizeOf48 rfl rfl) ?_
   replace hm:=bnd hm
   obtain ⟨x155,hx156,hm⟩:=hm
   refine ga_cn (first:=#[]) (i:=2) (bz 21 7) rfl (by kernel_rfl) (by decide)  ⟨w0,M,(1000,go0,.cells #[.slice Ao0_0 o0.fRing.length co0_0,.slice Ao0_1 o0.fHints.length co0_1,.slice Ao0_2 o0.fAnchors.length co0_2,Vi o0.fEpoch,.slice Ao0_3 o0.fFlushes.length co0_3] 30 (0,0))::(100100,g130,.cells #[Vi x126.fEpoch,Vs x126.fZone] 48 (0,0))::H,R,φ⟩ (fun W h=>(ok_front (t:=1000) (t':=1000) h rfl)) Tryz.call56 rfl rfl rfl (c_conf_Right_c6 x126 go0 o0 Ao0_0 co0_0 hco0_0 (fun W h=>fo0_0 W h) Ao0_1 co0_1 hco0_1 (fun W h=>fo0_1 W h) Ao0_2 co0_2 hco0_2 (fun W h=>fo0_2 W h) Ao0_3 co0_3 hco0_3 (fun W h=>fo0_3 W h) _ hx156) (fun _ W _ h=>(ok_front (t:=100100) (t':=100100) (ok_front (t:=1000) (t':=1000) (ok_front (t:=1000) (t':=1000) h rfl) rfl) rfl).phi (fun W hφ=>hφ)) (fun _ _=>?_)
   refine ga_sta _ (fun W h=>(ok_front (t:=1000) (t':=1000) h rfl))<|ga_r (i:=3) (bz 21 15) rfl (by kernel_rfl) (by decide) rfl (r_not rfl)<|ga_r (i:=4) (bz 21 31) rfl (by kernel_rfl) (by decide) rfl (r_move) ?_
   refine ga_if (t:=22) rfl (fun h157=>?_) (fun h157=>?_)
   ·
    have h157' : x155 = false:=by revert h157; cases x155 <;> simp
    replace hm:=ite_f hm (bool_nt h157')
    refine ga_no (i:=5) (bz 21 63) rfl (by kernel_rfl) (fun _ _ _ _ h=>h) rfl rfl rfl rfl rfl h157<|ga_no (i:=6) (bz 21 127) rfl (by kernel_rfl) (fun _ _ _ _ h=>h) rfl rfl rfl rfl rfl h157<|ga_no (i:=7) (bz 21 255) rfl (by kernel_rfl) (fun _ _ _ _ h=>h) rfl rfl rfl rfl rfl h157<|ga_nu (i:=8) (bz 21 511) rfl (by kernel_rfl) (fun _ _ _ _ h=>h) rfl rfl rfl rfl rfl<|ga_nu (i:=9) (bz 21 1023) rfl (by kernel_rfl) (fun _ _ _ _ h=>h) rfl rfl rfl rfl rfl<|ga_nu (i:=10) (bz 21 2047) rfl (by kernel_rfl) (fun _ _ _ _ h=>h) rfl rfl rfl rfl rfl<|ga_nu (i:=11) (bz 21 4095) rfl (by kernel_rfl) (fun _ _ _ _ h=>h) rfl rfl rfl rfl rfl<|ga_nu (i:=12) (bz 21 8191) rfl (by kernel_rfl) (fun _ _ _ _ h=>h) rfl rfl rfl rfl rfl<|ga_nu (i:=13) (bz 21 16383) rfl (by kernel_rfl) (fun _ _ _ _ h=>h) rfl rfl rfl rfl rfl<|ga_nu (i:=14) (bz 21 32767) rfl (by kernel_rfl) (fun _ _ _ _ h=>h) rfl rfl rfl rfl rfl ?_
    refine ga_nu (i:=15) (bz 21 65535) rfl (by kernel_rfl) (fun _ _ _ _ h=>h) rfl rfl rfl rfl rfl<|ga_nu (i:=16) (bz 21 131071) rfl (by kernel_rfl) (fun _ _ _ _ h=>h) rfl rfl rfl rfl rfl<|ga_nu (i:=17) (bz 21 262143) rfl (by kernel_rfl) (fun _ _ _ _ h=>h) rfl rfl rfl rfl rfl<|ga_nu (i:=18) (bz 21 524287) rfl (by kernel_rfl) (fun _ _ _ _ h=>h) rfl rfl rfl rfl rfl<|ga_no (i:=19) (bz 21 1048575) rfl (by kernel_rfl) (fun _ _ _ _ h=>h) rfl rfl rfl rfl rfl h157<|ga_r (i:=20) (bz 21 2097151) rfl (by kernel_rfl) (by decide) rfl (r_pick1 rfl h157)<|ga_done (by kernel_rfl)<|d_then ?_
    refine c_flat [(0,.slice Ap0_0 p0.length cp0_0),(1,Vi p1),(2,.func (.func 55) #[] #[]),(3,.func (.func 56) #[] #[Vp go0]),(11,.slice Ap0_0 p0.length cp0_0),(12,Vi (p0.length : Int)),(13,Vi i79),(38,.bool true)] ⟨rfl,rfl,rfl,rfl,rfl,rfl,rfl,rfl,trivial⟩ (fun u=>?_)
    refine c_sta ⟨w0,M,(1000,go0,.cells #[.slice Ao0_0 o0.fRing.length co0_0,.slice Ao0_1 o0.fHints.length co0_1,.slice Ao0_2 o0.fAnchors.length co0_2,Vi o0.fEpoch,.slice Ao0_3 o0.fFlushes.length co0_3] 30 (0,0))::(100100,g130,.cells #[Vi x126.fEpoch,Vs x126.fZone] 48 (0,0))::H,R,φ⟩ (fun _ h=>h)<|c_cond1 rfl rfl<|c_seq<|c_region<|g_v rfl r_assign<|g_nil<|d_then<|c_ret<|d_ret_block<|d_ret_then ?_
    refine d_ret_then<|d_ret_block<|d_ret_then<|d_ret_then ?_
    replace hm:=nx_out (C:=(fun e : Unit ⊕ Bool=>Sum.elim (fun e=>m_conf_all_54_j1 p0 p1) (fun x=>some x) e = some r)) hm hnx2 hr2
    replace hm : some false = some r:=hm
    cases hm
    exact d_retC () Tryz.results54 (res_tmp (res_nil rfl)) trivial (fun W h=>(h.dropH (t:=100100) rfl).phi (fun W hφ=>hφ)) (.inr rfl)
   have h157' : x155 = true:=by revert h157; cases x155 <;> simp
   replace hm:=ite_t hm h157'
   refine ga_rG (i:=5) (bz 21 63) rfl (by kernel_rfl) (by decide) rfl rfl rfl rfl rfl h157 (r_move)<|ga_rG (i:=6) (bz 21 127) rfl (by kernel_rfl) (by decide) rfl rfl rfl rfl rfl h157 (r_gtr rfl rfl)<|ga_rG (i:=7) (bz 21 255) rfl (by kernel_rfl) (by decide) rfl rfl rfl rfl rfl h157 (r_move) ?_
   refine ga_if (t:=25) rfl (fun h158=>?_) (fun h158=>?_)
   ·
    replace hm:=ite_t hm (of_decide_eq_true h158)
    refine ga_do (i:=8) (bz 21 511) rfl (by kernel_rfl) (fun _ _ _ _ h=>h) rfl rfl rfl rfl rfl h158 (r_move)<|ga_do (i:=9) (bz 21 1023) rfl (by kernel_rfl) (fun _ _ _ _ h=>h) rfl rfl rfl rfl rfl h158 (r_loadA (tag:=100100) rfl rfl Tryz.isAgg48 Tryz.sizeOf48 rfl rfl)<|ga_do (i:=11) (bz 21 3071) rfl (by kernel_rfl) (fun _ _ _ _ h=>h) rfl rfl rfl rfl rfl h158 (r_move)<|ga_do (i:=12) (bz 21 7167) rfl (by kernel_rfl) (fun _ _ _ _ h=>h) rfl rfl rfl rfl rfl h158 (r_move)<|ga_do (i:=13) (bz 21 15359) rfl (by kernel_rfl) (fun _ _ _ _ h=>h) rfl rfl rfl rfl rfl h158 (r_move)<|ga_do (i:=14) (bz 21 31743) rfl (by kernel_rfl) (fun _ _ _ _ h=>h) rfl rfl rfl rfl rfl h158 (r_sub rfl rfl rfl) ?_
    replace hm:=bnd hm
    obtain ⟨x159,hx159,hm⟩:=hm
    refine ga_know _ (fun W hS=>cl_at (p:=(Sta.mk w0 M H R φ).ok) (sz:=2) (fun _=>rfl) (by decide) (ok_pre (H1:=[_,_]) (R1:=[]) hS (fun W h=>h)) fp0_0 hx159) ?_
    rintro ⟨ad160,hA162,f161⟩
    refine ga_do (i:=15) (bz 21 64511) rfl (by kernel_rfl) (fun _ _ _ _ h=>h) rfl rfl rfl rfl rfl h158 (r_ix Tryz.underlying28 Tryz.sizeOf48 rfl hA162 rfl hx159)<|ga_do (i:=16) (bz 21 130047) rfl (by kernel_rfl) (fun _ _ _ _ h=>h) rfl rfl rfl rfl rfl h158 (r_ldA rfl Tryz.isAgg48 Tryz.sizeOf48 (fun W hS=>(f161 W (ok_pre (H1:=[_,_]) (R1:=[]) hS (fun W h=>h))).take 2) rfl) ?_
    replace hm:=bnd hm
    obtain ⟨x163,hx164,hm⟩:=hm
    refine ga_cnG (first:=#[]) (i:=10) (bz 21 131071) rfl (by kernel_rfl) (by decide) rfl rfl rfl rfl h158  ⟨w0,M,_,_,φ⟩ (fun _ h=>h) Tryz.call55 rfl rfl rfl (c_conf_Right_c5 x126 _ hx164) (fun _ W _ h=>(ok_front (t:=100100) (t':=100100) (ok_front (t:=1000) (t':=1000) h rfl) rfl).phi (fun W hφ=>hφ)) (fun _ _=>?_)
    replace hm:=bnd hm
    obtain ⟨x165,hx166,hm⟩:=hm
    refine ga_cnG (first:=#[]) (i:=17) (bz 21 262143) rfl (by kernel_rfl) (by decide) rfl rfl rfl rfl h158  ⟨w0,M,_,_,φ⟩ (fun _ h=>h) Tryz.call55 rfl rfl rfl (c_conf_Right_c5 x159 _ hx166) (fun _ W _ h=>(ok_front (t:=100100) (t':=100100) (ok_front (t:=1000) (t':=1000) h rfl) rfl).phi (fun W hφ=>hφ)) (fun _ _=>?_)
    refine ga_rG (i:=18) (bz 21 524287) rfl (by kernel_rfl) (by decide) rfl rfl rfl rfl rfl h158 (r_leq rfl rfl)<|ga_rG (i:=19) (bz 21 1048575) rfl (by kernel_rfl) (by decide) rfl rfl rfl rfl rfl h157 (r_pick1 rfl h158)<|ga_r (i:=20) (bz 21 2097151) rfl (by kernel_rfl) (by decide) rfl (r_pick0 rfl h157)<|ga_done (by kernel_rfl)<|d_then ?_
    refine c_flat [(0,.slice Ap0_0 p0.length cp0_0),(1,Vi p1),(2,.func (.func 55) #[] #[]),(3,.func (.func 56) #[] #[Vp go0]),(11,.slice Ap0_0 p0.length cp0_0),(12,Vi (p0.length : Int)),(13,Vi i79),(38,.bool (decide (x163 ≤ x165)))] ⟨rfl,rfl,rfl,rfl,rfl,rfl,rfl,rfl,trivial⟩ (fun u=>?_)
    refine c_sta ⟨w0,M,(1000,go0,.cells #[.slice Ao0_0 o0.fRing.length co0_0,.slice Ao0_1 o0.fHints.length co0_1,.slice Ao0_2 o0.fAnchors.length co0_2,Vi o0.fEpoch,.slice Ao0_3 o0.fFlushes.length co0_3] 30 (0,0))::(100100,g130,.cells #[Vi x126.fEpoch,Vs x126.fZone] 48 (0,0))::H,R,φ⟩ (fun _ h=>h) ?_
    refine c_cond rfl (fun h167=>?_) (fun h167=>?_)
    ·
     replace hm:=ite_t hm (of_decide_eq_true h167)
     refine c_seq<|c_region<|g_v rfl r_assign<|g_nil<|d_then<|c_ret<|d_ret_block<|d_ret_then<|d_ret_then<|d_ret_block ?_
     refine d_ret_then<|d_ret_then ?_
     replace hm:=nx_out (C:=(fun e : Unit ⊕ Bool=>Sum.elim (fun e=>m_conf_all_54_j1 p0 p1) (fun x=>some x) e = some r)) hm hnx2 hr2
     replace hm : some false = some r:=hm
     cases hm
     exact d_retC () Tryz.results54 (res_tmp (res_nil rfl)) trivial (fun W h=>(h.dropH (t:=100100) rfl).phi (fun W hφ=>hφ)) (.inr rfl)
    replace hm:=ite_f hm (of_decide_eq_false h167)
    refine c_skip<|d_normal_block<|d_then<|c_region<|g_v rfl (r_add rfl rfl rfl)<|g_v rfl r_move<|g_nil ?_
    obtain ⟨n168,hn168,hlp⟩:=nx_inl hm hnx2
    exact d_round (n168,w64 (i79 + 1)) hlp hn168 ⟨rfl,rfl,rfl,rfl,rfl,rfl,rfl,trivial⟩ (fun W h=>(h.dropH (t:=100100) rfl).phi (fun W hφ=>hφ))
   replace hm:=ite_f hm (of_decide_eq_false h158)
   refine ga_no (i:=8) (bz 21 511) rfl (by kernel_rfl) (fun _ _ _ _ h=>h) rfl rfl rfl rfl rfl h158<|ga_no (i:=9) (bz 21 1023) rfl (by kernel_rfl) (fun _ _ _ _ h=>h) rfl rfl rfl rfl rfl h158<|ga_no (i:=10) (bz 21 2047) rfl (by kernel_rfl) (fun _ _ _ _ h=>h) rfl rfl rfl rfl rfl h158<|ga_no (i:=11) (bz 21 4095) rfl (by kernel_rfl) (fun _ _ _ _ h=>h) rfl rfl rfl rfl rfl h158<|ga_no (i:=12) (bz 21 8191) rfl (by kernel_rfl) (fun _ _ _ _ h=>h) rfl rfl rfl rfl rfl h158<|ga_no (i:=13) (bz 21 16383) rfl (by kernel_rfl) (fun _ _ _ _ h=>h) rfl rfl rfl rfl rfl h158<|ga_no (i:=14) (bz 21 32767) rfl (by kernel_rfl) (fun _ _ _ _ h=>h) rfl rfl rfl rfl rfl h158<|ga_no (i:=15) (bz 21 65535) rfl (by kernel_rfl) (fun _ _ _ _ h=>h) rfl rfl rfl rfl rfl h158<|ga_no (i:=16) (bz 21 131071) rfl (by kernel_rfl) (fun _ _ _ _ h=>h) rfl rfl rfl rfl rfl h158<|ga_no (i:=17) (bz 21 262143) rfl (by kernel_rfl) (fun _ _ _ _ h=>h) rfl rfl rfl rfl rfl h158 ?_
   refine ga_no (i:=18) (bz 21 524287) rfl (by kernel_rfl) (fun _ _ _ _ h=>h) rfl rfl rfl rfl rfl h158<|ga_rG (i:=19) (bz 21 1048575) rfl (by kernel_rfl) (by decide) rfl rfl rfl rfl rfl h157 (r_pick0 rfl h158)<|ga_r (i:=20) (bz 21 2097151) rfl (by kernel_rfl) (by decide) rfl (r_pick0 rfl h157)<|ga_done (by kernel_rfl)<|d_then ?_
   refine c_flat [(0,.slice Ap0_0 p0.length cp0_0),(1,Vi p1),(2,.func (.func 55) #[] #[]),(3,.func (.func 56) #[] #[Vp go0]),(11,.slice Ap0_0 p0.length cp0_0),(12,Vi (p0.length : Int)),(13,Vi i79),(38,.bool false)] ⟨rfl,rfl,rfl,rfl,rfl,rfl,rfl,rfl,trivial⟩ (fun u=>?_)
   refine c_sta ⟨w0,M,(1000,go0,.cells #[.slice Ao0_0 o0.fRing.length co0_0,.slice Ao0_1 o0.fHints.length co0_1,.slice Ao0_2 o0.fAnchors.length co0_2,Vi o0.fEpoch,.slice Ao0_3 o0.fFlushes.length co0_3] 30 (0,0))::(100100,g130,.cells #[Vi x126.fEpoch,Vs x126.fZone] 48 (0,0))::H,R,φ⟩ (fun _ h=>h)<|c_cond0 rfl rfl<|c_skip<|d_normal_block<|d_then<|c_region<|g_v rfl (r_add rfl rfl rfl)<|g_v rfl r_move<|g_nil ?_
   obtain ⟨n169,hn169,hlp⟩:=nx_inl hm hnx2
   exact d_round (n169,w64 (i79 + 1)) hlp hn169 ⟨rfl,rfl,rfl,rfl,rfl,rfl,rfl,trivial⟩ (fun W h=>(h.dropH (t:=100100) rfl).phi (fun W hφ=>hφ))
  replace hm:=ite_f hm (of_decide_eq_false h125)
  refine c_exit<|d_exit_then<|d_exit_then<|d_exit_block ?_
  replace hm:=nx_out (C:=(fun e : Unit ⊕ Bool=>Sum.elim (fun e=>m_conf_all_54_j1 p0 p1) (fun x=>some x) e = some r)) hm hnx2 hr2
  exact d_round () hm Nat.zero_lt_one ⟨rfl,rfl,trivial⟩ (fun W h=>h.phi (fun W hφ=>hφ))
 unfold m_conf_all_54_j1 at hm
 refine d_flat [(0,.slice Ap0_0 p0.length cp0_0),(1,Vi p1)] ⟨rfl,rfl,trivial⟩ (fun u=>?_)
 refine d_sta ⟨w0,M,(1000,go0,.cells #[.slice Ao0_0 o0.fRing.length co0_0,.slice Ao0_1 o0.fHints.length co0_1,.slice Ao0_2 o0.fAnchors.length co0_2,Vi o0.fEpoch,.slice Ao0_3 o0.fFlushes.length co0_3] 30 (0,0))::H,R,φ⟩ (fun _ h=>h)<|d_then<|c_seq<|c_region<|g_v rfl r_move<|g_v rfl (r_lenL Tryz.underlying28 rfl)<|g_v rfl r_move<|g_v rfl (r_leq rfl rfl)<|g_v rfl r_assign<|g_nil ?_
 refine d_then<|c_ret ?_
 cases hm
 exact d_retC () Tryz.results54 (res_tmp (res_nil rfl)) trivial (fun W h=>h.phi (fun W hφ=>hφ)) (.inr rfl)
noncomputable def m_conf_Right_c7 (p0 : GFlush) (o0 : GFlush) : Option Bool:=
  (m_name_Under p0.fZone o0.fZone).bind fun x2=>
  some x2
theorem c_conf_Right_c7 {w0 : World} {M : Nat→Prop} {H : List (Nat×Nat×Obj)} {R : List (Nat×Row)} {φ : World→Prop} (p0 : GFlush) (go0 : Nat) (o0 : GFlush) (r : Bool) (hm : m_conf_Right_c7 p0 o0 = some r) :
    Cn Tryz.prog 58 #[.agg #[Vi p0.fEpoch,Vs p0.fZone],Vp go0] ⟨w0,M,(1000,go0,.cells #[Vi o0.fEpoch,Vs o0.fZone] 48 (0,0))::H,R,φ⟩ (fun x : Unit=>.bool r) (fun x=>True) (fun x=>⟨w0,M,(1000,go0,.cells #[Vi o0.fEpoch,Vs o0.fZone] 48 (0,0))::H,R,φ⟩):=by
 unfold m_conf_Right_c7 at hm
 refine cn_intro (fn:=Tryz.f58) (N:=9) Tryz.func58 rfl Tryz.ntmps58 rfl<|c_seq<|c_region ?_
 refine g_e rfl (e_box 100020 rfl) (fun g1 _=>?_)
 refine g_v rfl r_assign<|g_nil<|d_then<|c_seq<|c_region<|g_v rfl (r_field (n:=1) Tryz.underlying48 rfl Tryz.sizeOf9 rfl rfl)<|g_v rfl (r_load (tag:=100020) rfl rfl rfl Tryz.isAgg9)<|g_v rfl (r_field (n:=1) Tryz.underlying48 rfl Tryz.sizeOf9 rfl rfl)<|g_v rfl (r_load (tag:=1000) rfl rfl rfl Tryz.isAgg9) ?_
 replace hm:=bnd hm
 obtain ⟨x2,hx3,hm⟩:=hm
 refine g_cn ⟨w0,M,_,_,φ⟩ (fun _ h=>h) Tryz.call22 rfl rfl (c_name_Under p0.fZone o0.fZone _ hx3) (fun _ _=>?_)
 refine g_v rfl r_assign<|g_nil<|d_then<|c_ret ?_
 cases hm
 exact d_retC () Tryz.results58 (res_tmp (res_nil rfl)) trivial (fun W h=>(h.dropH (t:=100020) rfl).phi (fun W hφ=>hφ)) (.inr rfl)
noncomputable def m_slices_IndexFunc_94_2_j1  : Option Int:=
  some (-1)
noncomputable def m_slices_IndexFunc_94_2_s2 (p0 : List GFlush) (o0 : GFlush) (i30 : Int) : Option (Int ⊕ (Unit ⊕ Int)):=
  if i30 < (p0.length : Int) then
    (at_ p0 i30).bind fun x42=>
    (m_conf_Right_c7 x42 o0).bind fun x46=>
    if x46 = true then
      some (.inr (.inr i30))
    else
      some (.inl (w64 (i30 + 1)))
  else
    some (.inr (.inl ()))
noncomputable def m_slices_IndexFunc_94_2 (p0 : List GFlush) (o0 : GFlush) : Option Int:=
  (loop (fun s=>m_slices_IndexFunc_94_2_s2 p0 o0 s) 0).bind fun e=>Sum.elim (fun e=>m_slices_IndexFunc_94_2_j1) (fun x=>some x) e
theorem c_slices_IndexFunc_94_2 {w0 : World} {M : Nat→Prop} {H : List (Nat×Nat×Obj)} {R : List (Nat×Row)} {φ : World→Prop} (p0 : List GFlush) (Ap0_0 : Option Addr) (cp0_0 : Nat) (hcp0_0 : p0.length ≤ cp0_0) (fp0_0 : ∀ W,(Sta.mk w0 M H R φ).ok W→Cl W Ap0_0 (p0.flatMap GFlush.enc)) (go0 : Nat) (o0 : GFlush) (r : Int) (hm : m_slices_IndexFunc_94_2 p0 o0 = some r) :
    Cn Tryz.prog 94 #[.slice Ap0_0 p0.length cp0_0,.func (.func 58) #[] #[Vp go0]] ⟨w0,M,(1000,go0,.cells #[Vi o0.fEpoch,Vs o0.fZone] 48 (0,0))::H,R,φ⟩ (fun x : Unit=>Vi r) (fun x=>True) (fun x=>⟨w0,M,(1000,go0,.cells #[Vi o0.fEpoch,Vs o0.fZone] 48 (0,0))::H,R,φ⟩):=by
 unfold m_slices_IndexFunc_94_2 at hm
 refine cn_intro (fn:=Tryz.f94) (N:=19) Tryz.func94 rfl Tryz.ntmps94 rfl<|c_seq<|c_region<|g_v rfl r_assign<|g_nil<|d_then<|c_seq<|c_seq<|c_region<|g_v rfl r_move ?_
 refine g_v rfl (r_lenL Tryz.underlying28 rfl)<|g_v rfl r_move<|g_nil<|d_then ?_
 refine c_cut (ι:=Unit) [] (fun _=>[]) (fun _=>⟨w0,M,(1000,go0,.cells #[Vi o0.fEpoch,Vs o0.fZone] 48 (0,0))::H,R,φ⟩) (fun _=>m_slices_IndexFunc_94_2_j1 = some r) ?_ (fun _ u hm=>?_)
 ·
  refine c_block ?_
  replace hm:=bnd hm
  obtain ⟨out2,hl2,hr2⟩:=hm
  obtain ⟨n40',hl2⟩:=loop_lp hl2
  refine c_loopU (ι:=Nat×Int) [0,1,7,8] (fun ⟨n40,i30⟩=>[(8,Vi i30)]) (fun ⟨n40,i30⟩=>⟨w0,M,(1000,go0,.cells #[Vi o0.fEpoch,Vs o0.fZone] 48 (0,0))::H,R,φ⟩) (fun ⟨n40,i30⟩=>Lp (fun s=>m_slices_IndexFunc_94_2_s2 p0 o0 s) n40 i30 out2) (fun ⟨n40,i30⟩=>n40) (n40',0) hl2 ⟨rfl,rfl,rfl,rfl,trivial⟩ (fun W h=>h.phi (fun W hφ=>hφ)) (fun ⟨n40,i30⟩ u hlp=>?_)
  obtain ⟨o2,hm,hnx2⟩:=lp_step hlp
  clear hlp
  replace hm : m_slices_IndexFunc_94_2_s2 p0 o0 i30 = some o2:=hm
  unfold m_slices_IndexFunc_94_2_s2 at hm
  refine c_flat [(0,.slice Ap0_0 p0.length cp0_0),(1,.func (.func 58) #[] #[Vp go0]),(7,Vi (p0.length : Int)),(8,Vi i30)] ⟨rfl,rfl,rfl,rfl,trivial⟩ (fun u=>?_)
  refine c_sta ⟨w0,M,(1000,go0,.cells #[Vi o0.fEpoch,Vs o0.fZone] 48 (0,0))::H,R,φ⟩ (fun _ h=>h)<|c_seq<|c_region<|g_v rfl (r_lss rfl rfl)<|g_nil<|d_then<|c_seq ?_
  refine c_cond rfl (fun h41=>?_) (fun h41=>?_)
  ·
   replace hm:=ite_t hm (of_decide_eq_true h41)
   refine c_skip<|d_then<|c_seq<|c_block<|c_seq<|c_region<|g_v rfl r_move<|g_v rfl r_assign<|g_nil<|d_then ?_
   refine c_seq<|c_region ?_
   iterate 3 refine g_v rfl r_move ?_
   replace hm:=bnd hm
   obtain ⟨x42,hx42,hm⟩:=hm
   refine g_know _ (fun W hS=>cl_at (p:=(Sta.mk w0 M H R φ).ok) (sz:=2) (fun _=>rfl) (by decide) (ok_pre (H1:=[_]) (R1:=[]) hS (fun W h=>h)) fp0_0 hx42) ?_
   rintro ⟨ad43,hA45,f44⟩
   refine g_v rfl (r_ix Tryz.underlying28 Tryz.sizeOf48 rfl hA45 rfl hx42)<|g_v rfl (r_ldA rfl Tryz.isAgg48 Tryz.sizeOf48 (fun W hS=>(f44 W (ok_pre (H1:=[_]) (R1:=[]) hS (fun W h=>h))).take 2) rfl) ?_
   replace hm:=bnd hm
   obtain ⟨x46,hx47,hm⟩:=hm
   refine g_cnv ⟨w0,M,(1000,go0,.cells #[Vi o0.fEpoch,Vs o0.fZone] 48 (0,0))::H,R,φ⟩ (fun W h=>(ok_front (t:=1000) (t':=1000) h rfl)) Tryz.call58 rfl rfl rfl (c_conf_Right_c7 x42 go0 o0 _ hx47) (fun _ _=>?_)
   refine g_sta _ (fun W h=>(ok_front (t:=1000) (t':=1000) h rfl))<|g_nil<|d_then ?_
   refine c_flat [(0,.slice Ap0_0 p0.length cp0_0),(1,.func (.func 58) #[] #[Vp go0]),(5,Vi i30),(7,Vi (p0.length : Int)),(8,Vi i30),(16,.bool x46)] ⟨rfl,rfl,rfl,rfl,rfl,rfl,trivial⟩ (fun u=>?_)
   refine c_cond rfl (fun h48=>?_) (fun h48=>?_)
   ·
    replace hm:=ite_t hm h48
    refine c_seq<|c_region<|g_v rfl r_move<|g_v rfl r_assign<|g_nil<|d_then<|c_ret<|d_ret_block<|d_ret_then<|d_ret_then ?_
    refine d_ret_block<|d_ret_then<|d_ret_then ?_
    replace hm:=nx_out (C:=(fun e : Unit ⊕ Int=>Sum.elim (fun e=>m_slices_IndexFunc_94_2_j1) (fun x=>some x) e = some r)) hm hnx2 hr2
    replace hm : some i30 = some r:=hm
    cases hm
    exact d_retC () Tryz.results94 (res_tmp (res_nil rfl)) trivial (fun W h=>h.phi (fun W hφ=>hφ)) (.inr rfl)
   replace hm:=ite_f hm (bool_nt h48)
   refine c_skip<|d_normal_block<|d_then<|c_region<|g_v rfl (r_add rfl rfl rfl)<|g_v rfl r_move<|g_nil ?_
   obtain ⟨n49,hn49,hlp⟩:=nx_inl hm hnx2
   exact d_round (n49,w64 (i30 + 1)) hlp hn49 ⟨rfl,rfl,rfl,rfl,trivial⟩ (fun W h=>h.phi (fun W hφ=>hφ))
  replace hm:=ite_f hm (of_decide_eq_false h41)
  refine c_exit<|d_exit_then<|d_exit_then<|d_exit_block ?_
  replace hm:=nx_out (C:=(fun e : Unit ⊕ Int=>Sum.elim (fun e=>m_slices_IndexFunc_94_2_j1) (fun x=>some x) e = some r)) hm hnx2 hr2
  exact d_round () hm Nat.zero_lt_one trivial (fun W h=>h.phi (fun W hφ=>hφ))
 unfold m_slices_IndexFunc_94_2_j1 at hm
 refine d_flat [] trivial (fun u=>?_)
 refine d_sta ⟨w0,M,(1000,go0,.cells #[Vi o0.fEpoch,Vs o0.fZone] 48 (0,0))::H,R,φ⟩ (fun _ h=>h)<|d_then<|c_seq<|c_region<|g_v rfl r_assign<|g_nil<|d_then<|c_ret ?_
 cases hm
 exact d_retC () Tryz.results94 (res_tmp (res_nil rfl)) trivial (fun W h=>h.phi (fun W hφ=>hφ)) (.inr rfl)
noncomputable def m_slices_ContainsFunc_57 (p0 : List GFlush) (o0 : GFlush) : Option Bool:=
  (m_slices_IndexFunc_94_2 p0 o0).bind fun x1=>
  some (decide (0 ≤ x1))
theorem c_slices_ContainsFunc_57 {w0 : World} {M : Nat→Prop} {H : List (Nat×Nat×Obj)} {R : List (Nat×Row)} {φ : World→Prop} (p0 : List GFlush) (Ap0_0 : Option Addr) (cp0_0 : Nat) (hcp0_0 : p0.length ≤ cp0_0) (fp0_0 : ∀ W,(Sta.mk w0 M H R φ).ok W→Cl W Ap0_0 (p0.flatMap GFlush.enc)) (go0 : Nat) (o0 : GFlush) (r : Bool) (hm : m_slices_ContainsFunc_57 p0 o0 = some r) :
    Cn Tryz.prog 57 #[.slice Ap0_0 p0.length cp0_0,.func (.func 58) #[] #[Vp go0]] ⟨w0,M,(1000,go0,.cells #[Vi o0.fEpoch,Vs o0.fZone] 48 (0,0))::H,R,φ⟩ (fun x : Unit=>.bool r) (fun x=>True) (fun x=>⟨w0,M,(1000,go0,.cells #[Vi o0.fEpoch,Vs o0.fZone] 48 (0,0))::H,R,φ⟩):=by
 unfold m_slices_ContainsFunc_57 at hm
 refine cn_intro (fn:=Tryz.f57) (N:=9) Tryz.func57 rfl Tryz.ntmps57 rfl<|c_seq<|c_region<|g_v rfl r_assign<|g_nil<|d_then<|c_seq<|c_region<|g_v rfl r_move<|g_v rfl r_move ?_
 replace hm:=bnd hm
 obtain ⟨x1,hx2,hm⟩:=hm
 refine g_cn ⟨w0,M,(1000,go0,.cells #[Vi o0.fEpoch,Vs o0.fZone] 48 (0,0))::H,R,φ⟩ (fun W h=>(ok_front (t:=1000) (t':=1000) h rfl)) Tryz.call94 rfl rfl (c_slices_IndexFunc_94_2 p0 Ap0_0 cp0_0 hcp0_0 (fun W hS=>fp0_0 W (ok_pre (H1:=[]) (R1:=[]) hS (fun W h=>h))) go0 o0 _ hx2) (fun _ _=>?_)
 refine g_sta _ (fun W h=>(ok_front (t:=1000) (t':=1000) h rfl))<|g_v rfl (r_geq rfl rfl)<|g_v rfl r_assign<|g_nil<|d_then<|c_ret ?_
 cases hm
 exact d_retC () Tryz.results57 (res_tmp (res_nil rfl)) trivial (fun W h=>h.phi (fun W hφ=>hφ)) (.inr rfl)
noncomputable def m_conf_Right_j2  : Option Bool:=
  some true
noncomputable def m_conf_Right_s3 (p0 : GConf) (i56 : Int) : Option (Int ⊕ (Unit ⊕ Bool)):=
  if i56 < (p0.fFlushes.length : Int) then
    (at_ p0.fFlushes i56).bind fun x71=>
    (cutHi p0.fFlushes i56).bind fun l77=>
    (m_slices_ContainsFunc_57 l77 x71).bind fun x78=>
    if x78 = true then
      some (.inr (.inr false))
    else
      some (.inl (w64 (i56 + 1)))
  else
    some (.inr (.inl ()))
noncomputable def m_conf_Right_j1 (p0 : GConf) (b14 : Bool) : Option Bool:=
  if b14 = true then
    if p0.fEpoch < 0 then
      some false
    else
      if 1099511627776 < p0.fEpoch then
        some false
      else
        (loop (fun s=>m_conf_Right_s3 p0 s) 0).bind fun e=>Sum.elim (fun e=>m_conf_Right_j2) (fun x=>some x) e
  else
    some false
noncomputable def m_conf_Right (p0 : GConf) : Option Bool:=
  (m_conf_all_45 p0.fRing 64).bind fun x82=>
  if x82 = true then
    if (p0.fHints.length : Int) ≤ 13 then
      (m_slices_ContainsFunc_47_3 p0.fHints).bind fun x86=>
      if x86 = true then
        m_conf_Right_j1 p0 false
      else
        (m_conf_all_50 p0.fAnchors 16).bind fun x89=>
        if x89 = true then
          (m_conf_all_54 p0.fFlushes 32 p0).bind fun x92=>
          m_conf_Right_j1 p0 x92
        else
          m_conf_Right_j1 p0 false
    else
      m_conf_Right_j1 p0 false
  else
    m_conf_Right_j1 p0 false
theorem c_conf_Right {w0 : World} {M : Nat→Prop} {H : List (Nat×Nat×Obj)} {R : List (Nat×Row)} {φ : World→Prop} (p0 : GConf) (Ap0_0 : Option Addr) (cp0_0 : Nat) (hcp0_0 : p0.fRing.length ≤ cp0_0) (fp0_0 : ∀ W,φ W→Cl W Ap0_0 (p0.fRing.flatMap (fun x : Int=>[Value.int .i64 x]))) (Ap0_1 : Option Addr) (cp0_1 : Nat) (hcp0_1 : p0.fHints.length ≤ cp0_1) (fp0_1 : ∀ W,φ W→Cl W Ap0_1 (p0.fHints.flatMap (fun x : ByteArray=>[Value.string x]))) (Ap0_2 : Option Addr) (cp0_2 : Nat) (hcp0_2 : p0.fAnchors.length ≤ cp0_2) (fp0_2 : ∀ W,φ W→Cl W Ap0_2 (p0.fAnchors.flatMap GAnchor.enc)) (Ap0_3 : Option Addr) (cp0_3 : Nat) (hcp0_3 : p0.fFlushes.length ≤ cp0_3) (fp0_3 : ∀ W,φ W→Cl W Ap0_3 (p0.fFlushes.flatMap GFlush.enc)) (r : Bool) (hm : m_conf_Right p0 = some r) :
    Cn Tryz.prog 13 #[.agg #[.slice Ap0_0 p0.fRing.length cp0_0,.slice Ap0_1 p0.fHints.length cp0_1,.slice Ap0_2 p0.fAnchors.length cp0_2,Vi p0.fEpoch,.slice Ap0_3 p0.fFlushes.length cp0_3]] ⟨w0,M,H,R,φ⟩ (fun x : Unit=>.bool r) (fun x=>True) (fun x=>⟨w0,M,H,R,φ⟩):=by
 unfold m_conf_Right at hm
 refine cn_intro (fn:=Tryz.f13) (N:=61) Tryz.func13 rfl Tryz.ntmps13 rfl<|c_seq<|c_region ?_
 refine g_e rfl (e_box 100010 rfl) (fun g1 _=>?_)
 refine g_v rfl r_assign<|g_nil<|d_then<|c_seq<|c_region<|g_v rfl r_assign<|g_nil<|d_then<|c_seq ?_
 refine c_cut (ι:=Bool) [1,4] (fun b14=>[(4,.bool b14)]) (fun b14=>⟨w0,M,(100010,g1,.cells #[.slice Ap0_0 p0.fRing.length cp0_0,.slice Ap0_1 p0.fHints.length cp0_1,.slice Ap0_2 p0.fAnchors.length cp0_2,Vi p0.fEpoch,.slice Ap0_3 p0.fFlushes.length cp0_3] 30 (0,0))::H,R,φ⟩) (fun b14=>m_conf_Right_j1 p0 b14 = some r) ?_ (fun b14 u hm=>?_)
 ·
  refine c_region<|g_v rfl (r_field (n:=0) Tryz.underlying30 rfl Tryz.sizeOf25 rfl rfl)<|g_v rfl (r_load (tag:=100010) rfl rfl rfl Tryz.isAgg25)<|g_v rfl r_move ?_
  replace hm:=bnd hm
  obtain ⟨x82,hx83,hm⟩:=hm
  refine g_cn ⟨w0,M,_,_,φ⟩ (fun _ h=>h) Tryz.call45 rfl rfl (c_conf_all_45 p0.fRing Ap0_0 cp0_0 hcp0_0 (fun W hS=>fp0_0 W hS.now) 64 _ hx83) (fun _ _=>?_)
  refine g_v rfl r_move<|g_sta ⟨w0,M,(100010,g1,.cells #[.slice Ap0_0 p0.fRing.length cp0_0,.slice Ap0_1 p0.fHints.length cp0_1,.slice Ap0_2 p0.fAnchors.length cp0_2,Vi p0.fEpoch,.slice Ap0_3 p0.fFlushes.length cp0_3] 30 (0,0))::H,R,φ⟩ (fun _ h=>h) ?_
  refine g_if rfl rfl rfl rfl rfl (fun h84=>?_) (fun h84=>?_)
  ·
   replace hm:=ite_t hm h84
   refine g_v rfl (r_field (n:=1) Tryz.underlying30 rfl Tryz.sizeOf26 rfl rfl)<|g_do rfl rfl rfl rfl rfl h84<|g_v rfl (r_load (tag:=100010) rfl rfl rfl Tryz.isAgg26)<|g_do rfl rfl rfl rfl rfl h84<|g_v rfl (r_lenL Tryz.underlying26 rfl)<|g_do rfl rfl rfl rfl rfl h84<|g_v rfl (r_leq rfl rfl)<|g_v rfl (r_pick1 rfl h84)<|g_v rfl r_move ?_
   refine g_if rfl rfl rfl rfl rfl (fun h85=>?_) (fun h85=>?_)
   ·
    replace hm:=ite_t hm (of_decide_eq_true h85)
    refine g_v rfl (r_field (n:=1) Tryz.underlying30 rfl Tryz.sizeOf26 rfl rfl)<|g_do rfl rfl rfl rfl rfl h85<|g_v rfl (r_load (tag:=100010) rfl rfl rfl Tryz.isAgg26)<|g_do rfl rfl rfl rfl rfl h85 ?_
    replace hm:=bnd hm
    obtain ⟨x86,hx87,hm⟩:=hm
    refine g_cn ⟨w0,M,_,_,φ⟩ (fun _ h=>h) Tryz.call47 rfl rfl (c_slices_ContainsFunc_47_3 p0.fHints Ap0_1 cp0_1 hcp0_1 (fun W hS=>fp0_1 W hS.now) _ hx87) (fun _ _=>?_)
    refine g_do rfl rfl rfl rfl rfl h85<|g_v rfl (r_not rfl)<|g_v rfl (r_pick1 rfl h85)<|g_v rfl r_move ?_
    refine g_if rfl rfl rfl rfl rfl (fun h88=>?_) (fun h88=>?_)
    ·
     have h88' : x86 = false:=by revert h88; cases x86 <;> simp
     replace hm:=ite_f hm (bool_nt h88')
     refine g_v rfl (r_field (n:=2) Tryz.underlying30 rfl Tryz.sizeOf27 rfl rfl)<|g_do rfl rfl rfl rfl rfl h88<|g_v rfl (r_load (tag:=100010) rfl rfl rfl Tryz.isAgg27)<|g_do rfl rfl rfl rfl rfl h88 ?_
     replace hm:=bnd hm
     obtain ⟨x89,hx90,hm⟩:=hm
     refine g_cn ⟨w0,M,_,_,φ⟩ (fun _ h=>h) Tryz.call50 rfl rfl (c_conf_all_50 p0.fAnchors Ap0_2 cp0_2 hcp0_2 (fun W hS=>fp0_2 W hS.now) 16 _ hx90) (fun _ _=>?_)
     refine g_v rfl (r_pick1 rfl h88)<|g_v rfl r_move ?_
     refine g_if rfl rfl rfl rfl rfl (fun h91=>?_) (fun h91=>?_)
     ·
      replace hm:=ite_t hm h91
      refine g_v rfl (r_field (n:=4) Tryz.underlying30 rfl Tryz.sizeOf28 rfl rfl)<|g_do rfl rfl rfl rfl rfl h91<|g_v rfl (r_load (tag:=100010) rfl rfl rfl Tryz.isAgg28)<|g_do rfl rfl rfl rfl rfl h91<|g_v rfl (r_mkf rfl)<|g_do rfl rfl rfl rfl rfl h91 ?_
      replace hm:=bnd hm
      obtain ⟨x92,hx93,hm⟩:=hm
      refine g_cn ⟨w0,M,(1000,g1,.cells #[.slice Ap0_0 p0.fRing.length cp0_0,.slice Ap0_1 p0.fHints.length cp0_1,.slice Ap0_2 p0.fAnchors.length cp0_2,Vi p0.fEpoch,.slice Ap0_3 p0.fFlushes.length cp0_3] 30 (0,0))::H,R,φ⟩ (fun W h=>(ok_front (t:=100010) (t':=1000) h rfl)) Tryz.call54 rfl rfl (c_conf_all_54 p0.fFlushes Ap0_3 cp0_3 hcp0_3 (fun W hS=>fp0_3 W hS.now) 32 g1 p0 Ap0_0 cp0_0 hcp0_0 (fun W h=>fp0_0 W h) Ap0_1 cp0_1 hcp0_1 (fun W h=>fp0_1 W h) Ap0_2 cp0_2 hcp0_2 (fun W h=>fp0_2 W h) Ap0_3 cp0_3 hcp0_3 (fun W h=>fp0_3 W h) _ hx93) (fun _ _=>?_)
      refine g_sta _ (fun W h=>(ok_front (t:=1000) (t':=100010) h rfl))<|g_v rfl (r_pick1 rfl h91)<|g_v rfl r_assign<|g_nil ?_
      exact d_round x92 hm Nat.zero_lt_one ⟨rfl,rfl,trivial⟩ (fun W h=>h.phi (fun W hφ=>hφ))
     replace hm:=ite_f hm (bool_nt h91)
     iterate 3 refine g_no rfl rfl rfl rfl rfl h91 ?_
     refine g_v rfl (r_pick0 rfl h91)<|g_v rfl r_assign<|g_nil ?_
     exact d_round false hm Nat.zero_lt_one ⟨rfl,rfl,trivial⟩ (fun W h=>h.phi (fun W hφ=>hφ))
    have h88' : x86 = true:=by revert h88; cases x86 <;> simp
    replace hm:=ite_t hm h88'
    refine g_no rfl rfl rfl rfl rfl h88<|g_no rfl rfl rfl rfl rfl h88<|g_v rfl (r_pick0 rfl h88)<|g_v rfl r_move ?_
    iterate 4 refine g_no rfl rfl rfl rfl rfl rfl ?_
    refine g_v rfl (r_pick0 rfl rfl)<|g_v rfl r_assign<|g_nil ?_
    exact d_round false hm Nat.zero_lt_one ⟨rfl,rfl,trivial⟩ (fun W h=>h.phi (fun W hφ=>hφ))
   replace hm:=ite_f hm (of_decide_eq_false h85)
   iterate 3 refine g_no rfl rfl rfl rfl rfl h85 ?_
   refine g_v rfl (r_pick0 rfl h85)<|g_v rfl r_move ?_
   iterate 3 refine g_no rfl rfl rfl rfl rfl rfl ?_
   refine g_v rfl (r_pick0 rfl rfl)<|g_v rfl r_move ?_
   iterate 4 refine g_no rfl rfl rfl rfl rfl rfl ?_
   refine g_v rfl (r_pick0 rfl rfl)<|g_v rfl r_assign<|g_nil ?_
   exact d_round false hm Nat.zero_lt_one ⟨rfl,rfl,trivial⟩ (fun W h=>h.phi (fun W hφ=>hφ))
  replace hm:=ite_f hm (bool_nt h84)
  iterate 3 refine g_no rfl rfl rfl rfl rfl h84 ?_
  refine g_v rfl (r_pick0 rfl h84)<|g_v rfl r_move ?_
  iterate 4 refine g_no rfl rfl rfl rfl rfl rfl ?_
  refine g_v rfl (r_pick0 rfl rfl)<|g_v rfl r_move ?_
  iterate 3 refine g_no rfl rfl rfl rfl rfl rfl ?_
  refine g_v rfl (r_pick0 rfl rfl)<|g_v rfl r_move ?_
  iterate 4 refine g_no rfl rfl rfl rfl rfl rfl ?_
  refine g_v rfl (r_pick0 rfl rfl)<|g_v rfl r_assign<|g_nil ?_
  exact d_round false hm Nat.zero_lt_one ⟨rfl,rfl,trivial⟩ (fun W h=>h.phi (fun W hφ=>hφ))
 unfold m_conf_Right_j1 at hm
 refine d_flat [(1,Vp g1),(4,.bool b14)] ⟨rfl,rfl,trivial⟩ (fun u=>?_)
 refine d_sta ⟨w0,M,(100010,g1,.cells #[.slice Ap0_0 p0.fRing.length cp0_0,.slice Ap0_1 p0.fHints.length cp0_1,.slice Ap0_2 p0.fAnchors.length cp0_2,Vi p0.fEpoch,.slice Ap0_3 p0.fFlushes.length cp0_3] 30 (0,0))::H,R,φ⟩ (fun _ h=>h)<|d_then<|c_seq<|c_seq<|c_region<|g_v rfl r_move<|g_v rfl (r_not rfl)<|g_v rfl r_move ?_
 refine g_if rfl rfl rfl rfl rfl (fun h15=>?_) (fun h15=>?_)
 ·
  have h15' : b14 = true:=by revert h15; cases b14 <;> simp
  replace hm:=ite_t hm h15'
  refine g_v rfl (r_field (n:=3) Tryz.underlying30 rfl Tryz.sizeOf3 rfl rfl)<|g_do rfl rfl rfl rfl rfl h15<|g_v rfl (r_load (tag:=100010) rfl rfl rfl Tryz.isAgg3)<|g_do rfl rfl rfl rfl rfl h15<|g_v rfl (r_lss rfl rfl)<|g_v rfl (r_pick0 rfl h15)<|g_v rfl r_move ?_
  refine g_if rfl rfl rfl rfl rfl (fun h16=>?_) (fun h16=>?_)
  ·
   replace hm:=ite_f hm (of_decide_eq_false h16)
   refine g_v rfl (r_field (n:=3) Tryz.underlying30 rfl Tryz.sizeOf3 rfl rfl)<|g_do rfl rfl rfl rfl rfl h16<|g_v rfl (r_load (tag:=100010) rfl rfl rfl Tryz.isAgg3)<|g_do rfl rfl rfl rfl rfl h16<|g_v rfl (r_gtr rfl rfl)<|g_v rfl (r_pick0 rfl h16)<|g_nil<|d_then ?_
   refine c_flat [(1,Vp g1),(45,.bool (decide (1099511627776 < p0.fEpoch)))] ⟨rfl,rfl,trivial⟩ (fun u=>?_)
   refine c_cond rfl (fun h17=>?_) (fun h17=>?_)
   ·
    replace hm:=ite_t hm (of_decide_eq_true h17)
    refine c_seq<|c_region<|g_v rfl r_assign<|g_nil<|d_then<|c_ret<|d_ret_then ?_
    cases hm
    exact d_retC () Tryz.results13 (res_tmp (res_nil rfl)) trivial (fun W h=>ok_pre (H1:=[_]) (R1:=[]) h (fun W hφ=>hφ)) (.inr rfl)
   replace hm:=ite_f hm (of_decide_eq_false h17)
   refine c_skip<|d_then<|c_seq<|c_seq<|c_region<|g_v rfl (r_field (n:=4) Tryz.underlying30 rfl Tryz.sizeOf28 rfl rfl)<|g_v rfl (r_load (tag:=100010) rfl rfl rfl Tryz.isAgg28)<|g_v rfl (r_lenL Tryz.underlying28 rfl)<|g_v rfl r_move<|g_nil ?_
   refine d_then ?_
   refine c_cut (ι:=Unit) [] (fun _=>[]) (fun _=>⟨w0,M,H,R,φ⟩) (fun _=>m_conf_Right_j2 = some r) ?_ (fun _ u hm=>?_)
   ·
    refine c_block ?_
    replace hm:=bnd hm
    obtain ⟨out3,hl3,hr3⟩:=hm
    obtain ⟨n69',hl3⟩:=loop_lp hl3
    refine c_loopU (ι:=Nat×Int) [1,47,48,49] (fun ⟨n69,i56⟩=>[(49,Vi i56)]) (fun ⟨n69,i56⟩=>⟨w0,M,(100010,g1,.cells #[.slice Ap0_0 p0.fRing.length cp0_0,.slice Ap0_1 p0.fHints.length cp0_1,.slice Ap0_2 p0.fAnchors.length cp0_2,Vi p0.fEpoch,.slice Ap0_3 p0.fFlushes.length cp0_3] 30 (0,0))::H,R,φ⟩) (fun ⟨n69,i56⟩=>Lp (fun s=>m_conf_Right_s3 p0 s) n69 i56 out3) (fun ⟨n69,i56⟩=>n69) (n69',0) hl3 ⟨rfl,rfl,rfl,rfl,trivial⟩ (fun W h=>h.phi (fun W hφ=>hφ)) (fun ⟨n69,i56⟩ u hlp=>?_)
    obtain ⟨o3,hm,hnx3⟩:=lp_step hlp
    clear hlp
    replace hm : m_conf_Right_s3 p0 i56 = some o3:=hm
    unfold m_conf_Right_s3 at hm
    refine c_flat [(1,Vp g1),(47,.slice Ap0_3 p0.fFlushes.length cp0_3),(48,Vi (p0.fFlushes.length : Int)),(49,Vi i56)] ⟨rfl,rfl,rfl,rfl,trivial⟩ (fun u=>?_)
    refine c_seq<|c_region<|g_v rfl (r_lss rfl rfl)<|g_nil<|d_then<|c_seq ?_
    refine c_cond rfl (fun h70=>?_) (fun h70=>?_)
    ·
     replace hm:=ite_t hm (of_decide_eq_true h70)
     refine c_skip<|d_then<|c_seq<|c_block<|c_seq<|c_region<|g_v rfl r_move ?_
     replace hm:=bnd hm
     obtain ⟨x71,hx71,hm⟩:=hm
     refine g_know _ (fun W hS=>cl_at (p:=φ) (sz:=2) (fun _=>rfl) (by decide) hS.now fp0_3 hx71) ?_
     rintro ⟨ad72,hA74,f73⟩
     refine g_v rfl (r_ix Tryz.underlying28 Tryz.sizeOf48 rfl hA74 rfl hx71)<|g_v rfl (r_ldA rfl Tryz.isAgg48 Tryz.sizeOf48 (fun W hS=>(f73 W hS.now).take 2) rfl) ?_
     refine g_e rfl (e_alloc 100060 Tryz.zeroValue48) (fun g75 _=>?_)
     refine g_v rfl r_assign<|g_storeL (tag:=100060) rfl rfl rfl rfl Tryz.sizeOf48 rfl rfl<|g_nil<|d_then<|c_seq<|c_region<|g_v rfl (r_field (n:=4) Tryz.underlying30 rfl Tryz.sizeOf28 rfl rfl)<|g_v rfl (r_load (tag:=100010) rfl rfl rfl Tryz.isAgg28)<|g_v rfl r_move ?_
     replace hm:=bnd hm
     obtain ⟨l77,hl77,hm⟩:=hm
     have f76:=fun (W : World) (h : φ W)=>cl_cutHi (enc:=GFlush.enc) (sz:=2) (fun _=>rfl) hl77 (fp0_3 W h)
     refine g_v rfl (r_lcutHi Tryz.underlying28 Tryz.sizeOf48 rfl hcp0_3 rfl hl77)<|g_v rfl (r_mkf rfl) ?_
     replace hm:=bnd hm
     obtain ⟨x78,hx79,hm⟩:=hm
     refine g_cn ⟨w0,M,(1000,g75,.cells #[Vi x71.fEpoch,Vs x71.fZone] 48 (0,0))::(100010,g1,.cells #[.slice Ap0_0 p0.fRing.length cp0_0,.slice Ap0_1 p0.fHints.length cp0_1,.slice Ap0_2 p0.fAnchors.length cp0_2,Vi p0.fEpoch,.slice Ap0_3 p0.fFlushes.length cp0_3] 30 (0,0))::H,R,φ⟩ (fun W h=>(ok_front (t:=100060) (t':=1000) h rfl)) Tryz.call57 rfl rfl (c_slices_ContainsFunc_57 l77 Ap0_3 cp0_3 (cutHi_len hcp0_3 hl77) (fun W hS=>f76 W hS.now) g75 x71 _ hx79) (fun _ _=>?_)
     refine g_sta _ (fun W h=>(ok_front (t:=1000) (t':=100060) h rfl))<|g_nil<|d_then ?_
     refine c_flat [(1,Vp g1),(47,.slice Ap0_3 p0.fFlushes.length cp0_3),(48,Vi (p0.fFlushes.length : Int)),(49,Vi i56),(59,.bool x78)] ⟨rfl,rfl,rfl,rfl,rfl,trivial⟩ (fun u=>?_)
     refine c_sta ⟨w0,M,(100060,g75,.cells #[Vi x71.fEpoch,Vs x71.fZone] 48 (0,0))::(100010,g1,.cells #[.slice Ap0_0 p0.fRing.length cp0_0,.slice Ap0_1 p0.fHints.length cp0_1,.slice Ap0_2 p0.fAnchors.length cp0_2,Vi p0.fEpoch,.slice Ap0_3 p0.fFlushes.length cp0_3] 30 (0,0))::H,R,φ⟩ (fun _ h=>h) ?_
     refine c_cond rfl (fun h80=>?_) (fun h80=>?_)
     ·
      replace hm:=ite_t hm h80
      refine c_seq<|c_region<|g_v rfl r_assign<|g_nil<|d_then<|c_ret<|d_ret_block<|d_ret_then<|d_ret_then<|d_ret_block ?_
      refine d_ret_then<|d_ret_then ?_
      replace hm:=nx_out (C:=(fun e : Unit ⊕ Bool=>Sum.elim (fun e=>m_conf_Right_j2) (fun x=>some x) e = some r)) hm hnx3 hr3
      replace hm : some false = some r:=hm
      cases hm
      exact d_retC () Tryz.results13 (res_tmp (res_nil rfl)) trivial (fun W h=>ok_pre (H1:=[_,_]) (R1:=[]) h (fun W hφ=>hφ)) (.inr rfl)
     replace hm:=ite_f hm (bool_nt h80)
     refine c_skip<|d_normal_block<|d_then<|c_region<|g_v rfl (r_add rfl rfl rfl)<|g_v rfl r_move<|g_nil ?_
     obtain ⟨n81,hn81,hlp⟩:=nx_inl hm hnx3
     exact d_round (n81,w64 (i56 + 1)) hlp hn81 ⟨rfl,rfl,rfl,rfl,trivial⟩ (fun W h=>(h.dropH (t:=100060) rfl).phi (fun W hφ=>hφ))
    replace hm:=ite_f hm (of_decide_eq_false h70)
    refine c_exit<|d_exit_then<|d_exit_then<|d_exit_block ?_
    replace hm:=nx_out (C:=(fun e : Unit ⊕ Bool=>Sum.elim (fun e=>m_conf_Right_j2) (fun x=>some x) e = some r)) hm hnx3 hr3
    exact d_round () hm Nat.zero_lt_one trivial (fun W h=>(h.dropH (t:=100010) rfl).phi (fun W hφ=>hφ))
   unfold m_conf_Right_j2 at hm
   refine d_flat [] trivial (fun u=>?_)
   refine d_sta ⟨w0,M,H,R,φ⟩ (fun _ h=>h)<|d_then<|c_seq<|c_region<|g_v rfl r_assign<|g_nil<|d_then<|c_ret ?_
   cases hm
   exact d_retC () Tryz.results13 (res_tmp (res_nil rfl)) trivial (fun W h=>ok_pre (H1:=[]) (R1:=[]) h (fun W hφ=>hφ)) (.inr rfl)
  replace hm:=ite_t hm (of_decide_eq_true h16)
  refine g_no rfl rfl rfl rfl rfl h16<|g_no rfl rfl rfl rfl rfl h16<|g_v rfl (r_pick1 rfl h16)<|g_nil<|d_then ?_
  refine c_flat [(1,Vp g1),(45,.bool true)] ⟨rfl,rfl,trivial⟩ (fun u=>?_)
  refine c_cond1 rfl rfl<|c_seq<|c_region<|g_v rfl r_assign<|g_nil<|d_then<|c_ret<|d_ret_then ?_
  cases hm
  exact d_retC () Tryz.results13 (res_tmp (res_nil rfl)) trivial (fun W h=>ok_pre (H1:=[_]) (R1:=[]) h (fun W hφ=>hφ)) (.inr rfl)
 have h15' : b14 = false:=by revert h15; cases b14 <;> simp
 replace hm:=ite_f hm (bool_nt h15')
 refine g_no rfl rfl rfl rfl rfl h15<|g_no rfl rfl rfl rfl rfl h15<|g_v rfl (r_pick1 rfl h15)<|g_v rfl r_move ?_
 iterate 3 refine g_no rfl rfl rfl rfl rfl rfl ?_
 refine g_v rfl (r_pick1 rfl rfl)<|g_nil<|d_then<|c_cond1 rfl rfl<|c_seq<|c_region<|g_v rfl r_assign<|g_nil<|d_then<|c_ret ?_
 refine d_ret_then ?_
 cases hm
 exact d_retC () Tryz.results13 (res_tmp (res_nil rfl)) trivial (fun W h=>ok_pre (H1:=[_]) (R1:=[]) h (fun W hφ=>hφ)) (.inr rfl)
noncomputable def m_ref13_Floor_j1  (i49 : Int) : Option Int:=
  some i49
noncomputable def m_ref13_Floor_s2 (p0 : GConf) (p1 : ByteArray) (i72 : Int) (i73 : Int) : Option ((Int×Int) ⊕ Int):=
  if i73 < (p0.fFlushes.length : Int) then
    (at_ p0.fFlushes i73).bind fun x98=>
    (m_ref03_Under p1 x98.fZone).bind fun x103=>
    if x103 = true then
      (at_ p0.fFlushes i73).bind fun x106=>
      if i72 < x106.fEpoch then
        (at_ p0.fFlushes i73).bind fun x112=>
        some (.inl (x112.fEpoch,w64 (i73 + 1)))
      else
        some (.inl (i72,w64 (i73 + 1)))
    else
      some (.inl (i72,w64 (i73 + 1)))
  else
    some (.inr i72)
noncomputable def m_ref13_Floor (p0 : GConf) (p1 : ByteArray) : Option Int:=
  (loop (fun s=>m_ref13_Floor_s2 p0 p1 s.1 s.2) (0,0)).bind fun e=>m_ref13_Floor_j1 e
theorem c_ref13_Floor {w0 : World} {M : Nat→Prop} {H : List (Nat×Nat×Obj)} {R : List (Nat×Row)} {φ : World→Prop} (p0 : GConf) (Ap0_0 : Option Addr) (cp0_0 : Nat) (hcp0_0 : p0.fRing.length ≤ cp0_0) (fp0_0 : ∀ W,(Sta.mk w0 M H R φ).ok W→Cl W Ap0_0 (p0.fRing.flatMap (fun x : Int=>[Value.int .i64 x]))) (Ap0_1 : Option Addr) (cp0_1 : Nat) (hcp0_1 : p0.fHints.length ≤ cp0_1) (fp0_1 : ∀ W,(Sta.mk w0 M H R φ).ok W→Cl W Ap0_1 (p0.fHints.flatMap (fun x : ByteArray=>[Value.string x]))) (Ap0_2 : Option Addr) (cp0_2 : Nat) (hcp0_2 : p0.fAnchors.length ≤ cp0_2) (fp0_2 : ∀ W,(Sta.mk w0 M H R φ).ok W→Cl W Ap0_2 (p0.fAnchors.flatMap GAnchor.enc)) (Ap0_3 : Option Addr) (cp0_3 : Nat) (hcp0_3 : p0.fFlushes.length ≤ cp0_3) (fp0_3 : ∀ W,(Sta.mk w0 M H R φ).ok W→Cl W Ap0_3 (p0.fFlushes.flatMap GFlush.enc)) (p1 : ByteArray) (r : Int) (hm : m_ref13_Floor p0 p1 = some r) :
    Cn Tryz.prog 14 #[.agg #[.slice Ap0_0 p0.fRing.length cp0_0,.slice Ap0_1 p0.fHints.length cp0_1,.slice Ap0_2 p0.fAnchors.length cp0_2,Vi p0.fEpoch,.slice Ap0_3 p0.fFlushes.length cp0_3],Vs p1] ⟨w0,M,H,R,φ⟩ (fun x : Unit=>Vi r) (fun x=>True) (fun x=>⟨w0,M,H,R,φ⟩):=by
 unfold m_ref13_Floor at hm
 refine cn_intro (fn:=Tryz.f14) (N:=41) Tryz.func14 rfl Tryz.ntmps14 rfl<|c_seq<|c_region ?_
 refine g_e rfl (e_box 100020 rfl) (fun g1 _=>?_)
 refine g_v rfl r_assign<|g_nil<|d_then<|c_seq<|c_region<|g_v rfl r_assign<|g_nil<|d_then<|c_seq<|c_seq ?_
 refine c_region<|g_v rfl r_assign<|g_nil<|d_then ?_
 refine c_cut (ι:=Int) [5] (fun i49=>[(5,Vi i49)]) (fun i49=>⟨w0,M,H,R,φ⟩) (fun i49=>m_ref13_Floor_j1 i49 = some r) ?_ (fun i49 u hm=>?_)
 ·
  refine c_block ?_
  replace hm:=bnd hm
  obtain ⟨out2,hl2,hr2⟩:=hm
  obtain ⟨n96',hl2⟩:=loop_lp hl2
  refine c_loopU (ι:=Nat×Int×Int) [1,2,5,6] (fun ⟨n96,i72,i73⟩=>[(5,Vi i72),(6,Vi i73)]) (fun ⟨n96,i72,i73⟩=>⟨w0,M,(100020,g1,.cells #[.slice Ap0_0 p0.fRing.length cp0_0,.slice Ap0_1 p0.fHints.length cp0_1,.slice Ap0_2 p0.fAnchors.length cp0_2,Vi p0.fEpoch,.slice Ap0_3 p0.fFlushes.length cp0_3] 30 (0,0))::H,R,φ⟩) (fun ⟨n96,i72,i73⟩=>Lp (fun s=>m_ref13_Floor_s2 p0 p1 s.1 s.2) n96 (i72,i73) out2) (fun ⟨n96,i72,i73⟩=>n96) (n96',0,0) hl2 ⟨rfl,rfl,rfl,rfl,trivial⟩ (fun W h=>h.phi (fun W hφ=>hφ)) (fun ⟨n96,i72,i73⟩ u hlp=>?_)
  obtain ⟨o2,hm,hnx2⟩:=lp_step hlp
  clear hlp
  replace hm : m_ref13_Floor_s2 p0 p1 i72 i73 = some o2:=hm
  unfold m_ref13_Floor_s2 at hm
  refine c_flat [(1,Vs p1),(2,Vp g1),(5,Vi i72),(6,Vi i73)] ⟨rfl,rfl,rfl,rfl,trivial⟩ (fun u=>?_)
  refine c_sta ⟨w0,M,(100020,g1,.cells #[.slice Ap0_0 p0.fRing.length cp0_0,.slice Ap0_1 p0.fHints.length cp0_1,.slice Ap0_2 p0.fAnchors.length cp0_2,Vi p0.fEpoch,.slice Ap0_3 p0.fFlushes.length cp0_3] 30 (0,0))::H,R,φ⟩ (fun _ h=>h)<|c_seq<|c_seq<|c_region<|g_v rfl r_move<|g_v rfl (r_field (n:=4) Tryz.underlying30 rfl Tryz.sizeOf28 rfl rfl)<|g_v rfl (r_load (tag:=100020) rfl rfl rfl Tryz.isAgg28)<|g_v rfl (r_lenL Tryz.underlying28 rfl)<|g_v rfl (r_lss rfl rfl)<|g_nil ?_
  refine d_then ?_
  refine c_cond rfl (fun h97=>?_) (fun h97=>?_)
  ·
   replace hm:=ite_t hm (of_decide_eq_true h97)
   refine c_skip<|d_then<|c_seq<|c_block<|c_seq<|c_region<|g_v rfl r_move<|g_v rfl (r_field (n:=4) Tryz.underlying30 rfl Tryz.sizeOf28 rfl rfl)<|g_v rfl (r_load (tag:=100020) rfl rfl rfl Tryz.isAgg28)<|g_v rfl r_move ?_
   replace hm:=bnd hm
   obtain ⟨x98,hx98,hm⟩:=hm
   refine g_know _ (fun W hS=>cl_at (p:=(Sta.mk w0 M H R φ).ok) (sz:=2) (fun _=>rfl) (by decide) (ok_pre (H1:=[_]) (R1:=[]) hS (fun W h=>h)) fp0_3 hx98) ?_
   rintro ⟨ad99,hA101,f100⟩
   refine g_v rfl (r_ix Tryz.underlying28 Tryz.sizeOf48 rfl hA101 rfl hx98) ?_
   have f102:=fun (W : World) (h : (Sta.mk w0 M H R φ).ok W)=>Cl.drop (f100 W h) 1
   refine g_v rfl (r_fieldF Tryz.underlying48 rfl Tryz.sizeOf9 rfl)<|g_v rfl (r_ld rfl Tryz.isAgg9 (fun W hS=>Cl.head (f102 W (ok_pre (H1:=[_]) (R1:=[]) hS (fun W h=>h))))) ?_
   replace hm:=bnd hm
   obtain ⟨x103,hx104,hm⟩:=hm
   refine g_cn ⟨w0,M,_,_,φ⟩ (fun _ h=>h) Tryz.call43 rfl rfl (c_ref03_Under p1 x98.fZone _ hx104) (fun _ _=>?_)
   refine g_v rfl r_assign<|g_nil<|d_then ?_
   refine c_flat [(1,Vs p1),(2,Vp g1),(5,Vi i72),(6,Vi i73),(7,.bool x103)] ⟨rfl,rfl,rfl,rfl,rfl,trivial⟩ (fun u=>?_)
   refine c_seq<|c_region<|g_v rfl r_move<|g_v rfl r_move ?_
   refine g_if rfl rfl rfl rfl rfl (fun h105=>?_) (fun h105=>?_)
   ·
    replace hm:=ite_t hm h105
    refine g_v rfl (r_field (n:=4) Tryz.underlying30 rfl Tryz.sizeOf28 rfl rfl)<|g_do rfl rfl rfl rfl rfl h105<|g_v rfl (r_load (tag:=100020) rfl rfl rfl Tryz.isAgg28)<|g_do rfl rfl rfl rfl rfl h105<|g_v rfl r_move<|g_do rfl rfl rfl rfl rfl h105 ?_
    replace hm:=bnd hm
    obtain ⟨x106,hx106,hm⟩:=hm
    refine g_know _ (fun W hS=>cl_at (p:=(Sta.mk w0 M H R φ).ok) (sz:=2) (fun _=>rfl) (by decide) (ok_pre (H1:=[_]) (R1:=[]) hS (fun W h=>h)) fp0_3 hx106) ?_
    rintro ⟨ad107,hA109,f108⟩
    refine g_v rfl (r_ix Tryz.underlying28 Tryz.sizeOf48 rfl hA109 rfl hx106)<|g_do rfl rfl rfl rfl rfl h105 ?_
    have f110:=fun (W : World) (h : (Sta.mk w0 M H R φ).ok W)=>Cl.drop (f108 W h) 0
    refine g_v rfl (r_fieldF Tryz.underlying48 rfl Tryz.sizeOf3 rfl)<|g_do rfl rfl rfl rfl rfl h105<|g_v rfl (r_ld rfl Tryz.isAgg3 (fun W hS=>Cl.head (f110 W (ok_pre (H1:=[_]) (R1:=[]) hS (fun W h=>h)))))<|g_do rfl rfl rfl rfl rfl h105<|g_v rfl r_move<|g_do rfl rfl rfl rfl rfl h105<|g_v rfl (r_gtr rfl rfl)<|g_v rfl (r_pick1 rfl h105)<|g_nil<|d_then ?_
    refine c_flat [(1,Vs p1),(2,Vp g1),(5,Vi i72),(6,Vi i73),(33,.bool (decide (i72 < x106.fEpoch)))] ⟨rfl,rfl,rfl,rfl,rfl,trivial⟩ (fun u=>?_)
    refine c_cond rfl (fun h111=>?_) (fun h111=>?_)
    ·
     replace hm:=ite_t hm (of_decide_eq_true h111)
     refine c_region<|g_v rfl (r_field (n:=4) Tryz.underlying30 rfl Tryz.sizeOf28 rfl rfl)<|g_v rfl (r_load (tag:=100020) rfl rfl rfl Tryz.isAgg28)<|g_v rfl r_move ?_
     replace hm:=bnd hm
     obtain ⟨x112,hx112,hm⟩:=hm
     refine g_know _ (fun W hS=>cl_at (p:=(Sta.mk w0 M H R φ).ok) (sz:=2) (fun _=>rfl) (by decide) (ok_pre (H1:=[_]) (R1:=[]) hS (fun W h=>h)) fp0_3 hx112) ?_
     rintro ⟨ad113,hA115,f114⟩
     refine g_v rfl (r_ix Tryz.underlying28 Tryz.sizeOf48 rfl hA115 rfl hx112) ?_
     have f116:=fun (W : World) (h : (Sta.mk w0 M H R φ).ok W)=>Cl.drop (f114 W h) 0
     refine g_v rfl (r_fieldF Tryz.underlying48 rfl Tryz.sizeOf3 rfl)<|g_v rfl (r_ld rfl Tryz.isAgg3 (fun W hS=>Cl.head (f116 W (ok_pre (H1:=[_]) (R1:=[]) hS (fun W h=>h)))))<|g_v rfl r_assign<|g_nil<|d_normal_block<|d_then<|c_region<|g_v rfl r_move<|g_v rfl (r_add rfl rfl rfl)<|g_v rfl r_assign ?_
     refine g_nil ?_
     obtain ⟨n117,hn117,hlp⟩:=nx_inl hm hnx2
     exact d_round (n117,x112.fEpoch,w64 (i73 + 1)) hlp hn117 ⟨rfl,rfl,rfl,rfl,trivial⟩ (fun W h=>h.phi (fun W hφ=>hφ))
    replace hm:=ite_f hm (of_decide_eq_false h111)
    refine c_skip<|d_normal_block<|d_then<|c_region<|g_v rfl r_move<|g_v rfl (r_add rfl rfl rfl)<|g_v rfl r_assign<|g_nil ?_
    obtain ⟨n118,hn118,hlp⟩:=nx_inl hm hnx2
    exact d_round (n118,i72,w64 (i73 + 1)) hlp hn118 ⟨rfl,rfl,rfl,rfl,trivial⟩ (fun W h=>h.phi (fun W hφ=>hφ))
   replace hm:=ite_f hm (bool_nt h105)
   iterate 7 refine g_no rfl rfl rfl rfl rfl h105 ?_
   refine g_v rfl (r_pick0 rfl h105)<|g_nil<|d_then<|c_cond0 rfl rfl<|c_skip<|d_normal_block<|d_then<|c_region<|g_v rfl r_move<|g_v rfl (r_add rfl rfl rfl) ?_
   refine g_v rfl r_assign<|g_nil ?_
   obtain ⟨n119,hn119,hlp⟩:=nx_inl hm hnx2
   exact d_round (n119,i72,w64 (i73 + 1)) hlp hn119 ⟨rfl,rfl,rfl,rfl,trivial⟩ (fun W h=>h.phi (fun W hφ=>hφ))
  replace hm:=ite_f hm (of_decide_eq_false h97)
  refine c_exit<|d_exit_then<|d_exit_then<|d_exit_block ?_
  replace hm:=nx_out (C:=(fun e : Int=>m_ref13_Floor_j1 e = some r)) hm hnx2 hr2
  exact d_round i72 hm Nat.zero_lt_one ⟨rfl,trivial⟩ (fun W h=>(h.dropH (t:=100020) rfl).phi (fun W hφ=>hφ))
 unfold m_ref13_Floor_j1 at hm
 refine d_flat [(5,Vi i49)] ⟨rfl,trivial⟩ (fun u=>?_)
 refine d_sta ⟨w0,M,H,R,φ⟩ (fun _ h=>h)<|d_then<|c_seq<|c_region<|g_v rfl r_move<|g_v rfl r_assign<|g_nil<|d_then<|c_ret ?_
 cases hm
 exact d_retC () Tryz.results14 (res_tmp (res_nil rfl)) trivial (fun W h=>ok_pre (H1:=[]) (R1:=[]) h (fun W hφ=>hφ)) (.inr rfl)
theorem lit5_24 (z0 : Int) (z1 : Int) (z2 : Int) (z3 : Int) : Tryz.prog.builtSlice 5 4 [(0,.int .u8 z0),(1,.int .u8 z1),(2,.int .u8 z2),(3,.int .u8 z3)] = some #[.int .u8 z0,.int .u8 z1,.int .u8 z2,.int .u8 z3]:=by kernel_rfl
noncomputable def m_pack_Packer_Long (p1 : Int) (o0 : Gpack_Packer) : Option Gpack_Packer:=
  (m_pack_Packer_put [IntKind.u8.wrap (p1 / 16777216),IntKind.u8.wrap (p1 / 65536),IntKind.u8.wrap (p1 / 256),IntKind.u8.wrap p1] o0).bind fun x2=>
  some (⟨x2.fb,o0.fplaces⟩ : Gpack_Packer)
theorem c_pack_Packer_Long {w0 : World} {M : Nat→Prop} {H : List (Nat×Nat×Obj)} {R : List (Nat×Row)} {φ : World→Prop} (p1 : Int) (go0 : Nat) (o0 : Gpack_Packer) (Ao0_0 : Option Addr) (co0_0 : Nat) (hco0_0 : o0.fb.length ≤ co0_0) (Ao0_1 : Option Addr) (co0_1 : Nat) (hco0_1 : True) (r : Gpack_Packer) (hm : m_pack_Packer_Long p1 o0 = some r) :
    Cn Tryz.prog 99 #[Vp go0,.int .u32 p1] ⟨w0,M,(1000,go0,.cells #[.slice Ao0_0 o0.fb.length co0_0,mapV Ao0_1] 120 (0,0))::H,(1000,⟨.slice Ao0_0 o0.fb.length co0_0,5,1,o0.fb.length,o0.fb.flatMap (fun x : Int=>[Value.int .u8 x])⟩)::(1001,⟨mapV Ao0_1,118,2,o0.fplaces.length,o0.fplaces.flatMap (mcell (fun x : ByteArray=>Value.string x) (fun x : Int=>Value.int .i64 x))⟩)::R,φ⟩ (fun x : Option Addr×Nat=>.tuple #[]) (fun x=>r.fb.length ≤ x.2) (fun x=>⟨w0,M,(1000,go0,.cells #[.slice x.1 r.fb.length x.2,mapV Ao0_1] 120 (0,0))::H,(2000,⟨.slice x.1 r.fb.length x.2,5,1,r.fb.length,r.fb.flatMap (fun x : Int=>[Value.int .u8 x])⟩)::(1001,⟨mapV Ao0_1,118,2,o0.fplaces.length,o0.fplaces.flatMap (mcell (fun x : ByteArray=>Value.string x) (fun x : Int=>Value.int .i64 x))⟩)::R,φ⟩):=by
 unfold m_pack_Packer_Long at hm
 refine cn_intro (fn:=Tryz.f99) (N:=18) Tryz.func99 rfl Tryz.ntmps99 rfl<|c_region<|g_v rfl r_move<|g_v rfl r_move<|g_v rfl (r_shr (n:=16777216) rfl rfl (by decide) (by decide) (by decide))<|g_v rfl (r_conv Tryz.underlying123 Tryz.underlying5 rfl rfl)<|g_v rfl r_move<|g_v rfl (r_shr (n:=65536) rfl rfl (by decide) (by decide) (by decide))<|g_v rfl (r_conv Tryz.underlying123 Tryz.underlying5 rfl rfl)<|g_v rfl r_move ?_
 refine g_v rfl (r_shr (n:=256) rfl rfl (by decide) (by decide) (by decide))<|g_v rfl (r_conv Tryz.underlying123 Tryz.underlying5 rfl rfl)<|g_v rfl r_move<|g_v rfl (r_conv Tryz.underlying123 Tryz.underlying5 rfl rfl) ?_
 refine g_e rfl (e_lit (tag:=100160) (l:=[IntKind.u8.wrap (p1 / 16777216),IntKind.u8.wrap (p1 / 65536),IntKind.u8.wrap (p1 / 256),IntKind.u8.wrap p1]) (enc:=(fun x : Int=>[Value.int .u8 x])) (sz:=1) rfl Tryz.underlying70 (lit5_24 _ _ _ _) rfl rfl (fun _=>rfl)) (fun g1 _=>?_)
 replace hm:=bnd hm
 obtain ⟨x2,hx3,hm⟩:=hm
 refine g_cn ⟨w0,M,(1000,go0,.cells #[.slice Ao0_0 o0.fb.length co0_0,mapV Ao0_1] 120 (0,0))::H,(1000,⟨.slice Ao0_0 o0.fb.length co0_0,5,1,o0.fb.length,o0.fb.flatMap (fun x : Int=>[Value.int .u8 x])⟩)::(1001,⟨mapV Ao0_1,118,2,o0.fplaces.length,o0.fplaces.flatMap (mcell (fun x : ByteArray=>Value.string x) (fun x : Int=>Value.int .i64 x))⟩)::(100160,⟨.slice (some ⟨g1,0,none⟩) [IntKind.u8.wrap (p1 / 16777216),IntKind.u8.wrap (p1 / 65536),IntKind.u8.wrap (p1 / 256),IntKind.u8.wrap p1].length 4,5,1,[IntKind.u8.wrap (p1 / 16777216),IntKind.u8.wrap (p1 / 65536),IntKind.u8.wrap (p1 / 256),IntKind.u8.wrap p1].length,[IntKind.u8.wrap (p1 / 16777216),IntKind.u8.wrap (p1 / 65536),IntKind.u8.wrap (p1 / 256),IntKind.u8.wrap p1].flatMap (fun x : Int=>[Value.int .u8 x])⟩)::R,φ⟩ (fun W h=>(ok_front (t:=1000) (t':=1000) (ok_frontR (t:=1000) (t':=1000) (ok_frontR (t:=1001) (t':=1001) h rfl) rfl) rfl)) Tryz.call98 rfl rfl (c_pack_Packer_put [IntKind.u8.wrap (p1 / 16777216),IntKind.u8.wrap (p1 / 65536),IntKind.u8.wrap (p1 / 256),IntKind.u8.wrap p1] (some ⟨g1,0,none⟩) 4 (Nat.le_refl _) (fun W hS=>rowCl (tag:=100160) rfl W hS) go0 o0 Ao0_0 co0_0 hco0_0 Ao0_1 co0_1 trivial _ hx3) (fun ⟨A4,c5⟩ hc5=>?_)
 refine g_sta _ (fun W h=>(ok_frontR (t:=2000) (t':=1000) (ok_frontR (t:=1001) (t':=1001) (ok_front (t:=1000) (t':=1000) h rfl) rfl) rfl))<|g_nil ?_
 cases hm
 refine d_sta _ (fun W h=>ok_frontR (t:=1000) (t':=2000) h rfl) ?_
 exact d_retC (A4,c5) Tryz.results99 (res_nil rfl) hc5 (fun W h=>(h.dropR (t:=100160) rfl).phi (fun W hφ=>hφ)) (.inl rfl)
noncomputable def m_conf_eight (p1 : Int) (o0 : Gpack_Packer) : Option Gpack_Packer:=
  (m_pack_Packer_Long (IntKind.u32.wrap (p1 / 4294967296)) o0).bind fun x1=>
  (m_pack_Packer_Long (IntKind.u32.wrap p1) (⟨x1.fb,o0.fplaces⟩ : Gpack_Packer)).bind fun x6=>
  some (⟨x6.fb,o0.fplaces⟩ : Gpack_Packer)
theorem c_conf_eight {w0 : World} {M : Nat→Prop} {H : List (Nat×Nat×Obj)} {R : List (Nat×Row)} {φ : World→Prop} (p1 : Int) (go0 : Nat) (o0 : Gpack_Packer) (Ao0_0 : Option Addr) (co0_0 : Nat) (hco0_0 : o0.fb.length ≤ co0_0) (Ao0_1 : Option Addr) (co0_1 : Nat) (hco0_1 : True) (r : Gpack_Packer) (hm : m_conf_eight p1 o0 = some r) :
    Cn Tryz.prog 62 #[Vp go0,Vi p1] ⟨w0,M,(1000,go0,.cells #[.slice Ao0_0 o0.fb.length co0_0,mapV Ao0_1] 120 (0,0))::H,(1000,⟨.slice Ao0_0 o0.fb.length co0_0,5,1,o0.fb.length,o0.fb.flatMap (fun x : Int=>[Value.int .u8 x])⟩)::(1001,⟨mapV Ao0_1,118,2,o0.fplaces.length,o0.fplaces.flatMap (mcell (fun x : ByteArray=>Value.string x) (fun x : Int=>Value.int .i64 x))⟩)::R,φ⟩ (fun x : Option Addr×Nat=>.tuple #[]) (fun x=>r.fb.length ≤ x.2) (fun x=>⟨w0,M,(1000,go0,.cells #[.slice x.1 r.fb.length x.2,mapV Ao0_1] 120 (0,0))::H,(2000,⟨.slice x.1 r.fb.length x.2,5,1,r.fb.length,r.fb.flatMap (fun x : Int=>[Value.int .u8 x])⟩)::(1001,⟨mapV Ao0_1,118,2,o0.fplaces.length,o0.fplaces.flatMap (mcell (fun x : ByteArray=>Value.string x) (fun x : Int=>Value.int .i64 x))⟩)::R,φ⟩):=by
 unfold m_conf_eight at hm
 refine cn_intro (fn:=Tryz.f62) (N:=13) Tryz.func62 rfl Tryz.ntmps62 rfl<|c_seq<|c_region<|g_v rfl r_move<|g_v rfl r_move<|g_v rfl (r_shr (n:=4294967296) rfl rfl (by decide) (by decide) (by decide))<|g_v rfl (r_conv Tryz.underlying3 Tryz.underlying123 rfl rfl) ?_
 replace hm:=bnd hm
 obtain ⟨x1,hx2,hm⟩:=hm
 refine g_cn ⟨w0,M,(1000,go0,.cells #[.slice Ao0_0 o0.fb.length co0_0,mapV Ao0_1] 120 (0,0))::H,(1000,⟨.slice Ao0_0 o0.fb.length co0_0,5,1,o0.fb.length,o0.fb.flatMap (fun x : Int=>[Value.int .u8 x])⟩)::(1001,⟨mapV Ao0_1,118,2,o0.fplaces.length,o0.fplaces.flatMap (mcell (fun x : ByteArray=>Value.string x) (fun x : Int=>Value.int .i64 x))⟩)::R,φ⟩ (fun W h=>(ok_front (t:=1000) (t':=1000) (ok_frontR (t:=1000) (t':=1000) (ok_frontR (t:=1001) (t':=1001) h rfl) rfl) rfl)) Tryz.call99 rfl rfl (c_pack_Packer_Long (IntKind.u32.wrap (p1 / 4294967296)) go0 o0 Ao0_0 co0_0 hco0_0 Ao0_1 co0_1 trivial _ hx2) (fun ⟨A3,c4⟩ hc4=>?_)
 refine g_sta _ (fun W h=>(ok_frontR (t:=2000) (t':=1000) (ok_frontR (t:=1001) (t':=1001) (ok_front (t:=1000) (t':=1000) h rfl) rfl) rfl))<|g_nil<|d_then<|c_region<|g_v rfl r_move<|g_v rfl r_move<|g_v rfl (r_conv Tryz.underlying3 Tryz.underlying123 rfl rfl) ?_
 replace hm:=bnd hm
 obtain ⟨x6,hx7,hm⟩:=hm
 refine g_cn ⟨w0,M,(1000,go0,.cells #[.slice A3 x1.fb.length c4,mapV Ao0_1] 120 (0,0))::H,(1000,⟨.slice A3 x1.fb.length c4,5,1,x1.fb.length,x1.fb.flatMap (fun x : Int=>[Value.int .u8 x])⟩)::(1001,⟨mapV Ao0_1,118,2,o0.fplaces.length,o0.fplaces.flatMap (mcell (fun x : ByteArray=>Value.string x) (fun x : Int=>Value.int .i64 x))⟩)::R,φ⟩ (fun W h=>(ok_front (t:=1000) (t':=1000) (ok_frontR (t:=1000) (t':=1000) (ok_frontR (t:=1001) (t':=1001) h rfl) rfl) rfl)) Tryz.call99 rfl rfl (c_pack_Packer_Long (IntKind.u32.wrap p1) go0 (⟨x1.fb,o0.fplaces⟩ : Gpack_Packer) A3 c4 hc4 Ao0_1 co0_1 trivial _ hx7) (fun ⟨A8,c9⟩ hc9=>?_)
 refine g_sta _ (fun W h=>(ok_frontR (t:=2000) (t':=1000) (ok_frontR (t:=1001) (t':=1001) (ok_front (t:=1000) (t':=1000) h rfl) rfl) rfl))<|g_nil ?_
 cases hm
 refine d_sta _ (fun W h=>ok_frontR (t:=1000) (t':=2000) h rfl) ?_
 exact d_retC (A8,c9) Tryz.results62 (res_nil rfl) hc9 (fun W h=>h.phi (fun W hφ=>hφ)) (.inl rfl)
end Go.Proofs.YthpjodfjdnnckaaGreat
