import Derived.Test.YthpjodfjdnnckaaGreatWCYA
set_option maxRecDepth 100000
set_option maxHeartbeats 4000000
set_option linter.unusedVariables false
set_option linter.unusedSimpArgs false
namespace Go.Proofs.YthpjodfjdnnckaaGreat
open Go.RowKit Go.Proofs.YthpjodfjdnnckaaGreatW.PrintLast
noncomputable def m_conf_Apply_j2  (l437 : List Int) (l440 : List GAnchor) (l443 : List GFlush) (l446 : List ByteArray) (i450 : Int) : Option (GConf×Int):=
  some ((⟨l437,l446,l440,i450,l443⟩ : GConf),0)
noncomputable def m_conf_Apply_j3 (p0 : GConf) (l348 : List Int) (l357 : List GFlush) (l351 : List ByteArray) (l496 : List GAnchor) : Option (GConf×Int):=
  if 16 < (l496.length : Int) then
    some (p0,15)
  else
    (m_slices_SortFunc_34 l496).bind fun x500=>
    m_conf_Apply_j2 l348 x500 l357 l351 p0.fEpoch
noncomputable def m_conf_Apply_j4 (l348 : List Int) (l354 : List GAnchor) (l351 : List ByteArray) (l521 : List GFlush) (s524 : ByteArray) (i525 : Int) : Option (GConf×Int):=
  (app 24 l521 [(⟨i525,s524⟩ : GFlush)]).bind fun l527=>
  m_conf_Apply_j2 l348 l354 l527 l351 i525
noncomputable def m_conf_Apply_j1 (p1 : GOrder) (p0 : GConf) (l348 : List Int) (l351 : List ByteArray) (l354 : List GAnchor) (l357 : List GFlush) : Option (GConf×Int):=
  (m_slices_BinarySearch_28 l348 p1.fNode).bind fun (z363 : Int×Bool)=>
  if p1.fKind = 1 then
    if z363.2 = true then
      some (p0,13)
    else
      (m_slices_Insert_29 l348 z363.1 [p1.fNode]).bind fun x461=>
      m_conf_Apply_j2 x461 l354 l357 l351 p0.fEpoch
  else
    if p1.fKind = 2 then
      if z363.2 = true then
        (m_slices_Delete_30 l348 z363.1 (w64 (z363.1 + 1))).bind fun x470=>
        m_conf_Apply_j2 x470 l354 l357 l351 p0.fEpoch
      else
        some (p0,13)
    else
      if p1.fKind = 3 then
        (m_slices_Clone_25 p1.fHints).bind fun x478=>
        m_conf_Apply_j2 l348 l354 l357 x478 p0.fEpoch
      else
        if p1.fKind = 4 then
          (m_slices_DeleteFunc_31 l354 p1).bind fun x486=>
          if p1.fText = (⟨#[]⟩ : ByteArray) then
            m_conf_Apply_j3 p0 l348 l357 l351 x486
          else
            (app 32 x486 [(⟨p1.fName,p1.fText⟩ : GAnchor)]).bind fun l507=>
            m_conf_Apply_j3 p0 l348 l357 l351 l507
        else
          if p1.fKind = 5 then
            if 1099511627776 ≤ p0.fEpoch then
              some (p0,15)
            else
              (m_name_Lower p1.fZone).bind fun x512=>
              (m_slices_DeleteFunc_38 l357 x512).bind fun x515=>
              if 32 ≤ (x515.length : Int) then
                m_conf_Apply_j4 l348 l354 l351 ([] : List GFlush) (⟨#[0]⟩ : ByteArray) (w64 (p0.fEpoch + 1))
              else
                m_conf_Apply_j4 l348 l354 l351 x515 x512 (w64 (p0.fEpoch + 1))
          else
            m_conf_Apply_j2 l348 l354 l357 l351 p0.fEpoch
noncomputable def m_conf_Apply (p0 : GConf) (p1 : GOrder) : Option (GConf×Int):=
  (m_conf_Check p1).bind fun x4=>
  if x4 ≠ 0 then
    some (p0,x4)
  else
    (m_slices_Clone_24 p0.fRing).bind fun x671=>
    (m_slices_Clone_25 p0.fHints).bind fun x677=>
    (m_slices_Clone_26 p0.fAnchors).bind fun x682=>
    (m_slices_Clone_27 p0.fFlushes).bind fun x687=>
    m_conf_Apply_j1 p1 p0 x671 x677 x682 x687
theorem c_conf_Apply {w0 : World} {M : Nat→Prop} {H : List (Nat×Nat×Obj)} {R : List (Nat×Row)} {φ : World→Prop} (p0 : GConf) (Ap0_0 : Option Addr) (cp0_0 : Nat) (hcp0_0 : p0.fRing.length ≤ cp0_0) (fp0_0 : ∀ W,φ W→Cl W Ap0_0 (p0.fRing.flatMap (fun x : Int=>[Value.int .i64 x]))) (Ap0_1 : Option Addr) (cp0_1 : Nat) (hcp0_1 : p0.fHints.length ≤ cp0_1) (fp0_1 : ∀ W,φ W→Cl W Ap0_1 (p0.fHints.flatMap (fun x : ByteArray=>[Value.string x]))) (Ap0_2 : Option Addr) (cp0_2 : Nat) (hcp0_2 : p0.fAnchors.length ≤ cp0_2) (fp0_2 : ∀ W,φ W→Cl W Ap0_2 (p0.fAnchors.flatMap GAnchor.enc)) (Ap0_3 : Option Addr) (cp0_3 : Nat) (hcp0_3 : p0.fFlushes.length ≤ cp0_3) (fp0_3 : ∀ W,φ W→Cl W Ap0_3 (p0.fFlushes.flatMap GFlush.enc)) (p1 : GOrder) (Ap1_0 : Option Addr) (cp1_0 : Nat) (hcp1_0 : p1.fHints.length ≤ cp1_0) (fp1_0 : ∀ W,φ W→Cl W Ap1_0 (p1.fHints.flatMap (fun x : ByteArray=>[Value.string x]))) (r : GConf×Int) (hm : m_conf_Apply p0 p1 = some r) :
    Cn Tryz.prog 10 #[.agg #[.slice Ap0_0 p0.fRing.length cp0_0,.slice Ap0_1 p0.fHints.length cp0_1,.slice Ap0_2 p0.fAnchors.length cp0_2,Vi p0.fEpoch,.slice Ap0_3 p0.fFlushes.length cp0_3],.agg #[Vi p1.fKind,Vi p1.fNode,Vs p1.fName,Vs p1.fText,Vs p1.fZone,.slice Ap1_0 p1.fHints.length cp1_0]] ⟨w0,M,H,R,φ⟩ (fun x : Option Addr×Nat×Option Addr×Nat×Option Addr×Nat×Option Addr×Nat=>.tuple #[.agg #[.slice x.1 r.1.fRing.length x.2.1,.slice x.2.2.1 r.1.fHints.length x.2.2.2.1,.slice x.2.2.2.2.1 r.1.fAnchors.length x.2.2.2.2.2.1,Vi r.1.fEpoch,.slice x.2.2.2.2.2.2.1 r.1.fFlushes.length x.2.2.2.2.2.2.2],Vi r.2]) (fun x=>r.1.fRing.length ≤ x.2.1∧r.1.fHints.length ≤ x.2.2.2.1∧r.1.fAnchors.length ≤ x.2.2.2.2.2.1∧r.1.fFlushes.length ≤ x.2.2.2.2.2.2.2) (fun x=>⟨w0,M,H,R,fun W=>φ W∧Cl W x.1 (r.1.fRing.flatMap (fun x : Int=>[Value.int .i64 x]))∧Cl W x.2.2.1 (r.1.fHints.flatMap (fun x : ByteArray=>[Value.string x]))∧Cl W x.2.2.2.2.1 (r.1.fAnchors.flatMap GAnchor.enc)∧Cl W x.2.2.2.2.2.2.1 (r.1.fFlushes.flatMap GFlush.enc)⟩):=by
 unfold m_conf_Apply at hm
 refine cn_intro (fn:=Tryz.f10) (N:=133) Tryz.func10 rfl Tryz.ntmps10 rfl<|c_seq<|c_region ?_
 refine g_e rfl (e_box 100020 rfl) (fun g1 _=>?_)
 refine g_e rfl (e_box 100030 rfl) (fun g2 _=>?_)
 refine g_e rfl (e_alloc 100040 Tryz.zeroValue30) (fun g3 _=>?_)
 refine g_v rfl r_assign<|g_nil<|d_then<|c_seq<|c_region<|g_v rfl (r_loadA (tag:=100030) rfl rfl Tryz.isAgg32 Tryz.sizeOf32 rfl rfl) ?_
 replace hm:=bnd hm
 obtain ⟨x4,hx5,hm⟩:=hm
 refine g_cn ⟨w0,M,_,_,φ⟩ (fun _ h=>h) Tryz.call23 rfl rfl (c_conf_Check p1 Ap1_0 cp1_0 hcp1_0 (fun W hS=>fp1_0 W hS.now) _ hx5) (fun _ _=>?_)
 refine g_v rfl r_assign<|g_nil<|d_then<|c_seq<|c_seq<|c_region<|g_v rfl r_move<|g_v rfl (r_neq rfl rfl)<|g_nil<|d_then ?_
 refine c_flat [(2,Vp g1),(3,Vp g2),(4,Vp g3),(6,Vi x4),(14,.bool (decide (x4 ≠ 0)))] ⟨rfl,rfl,rfl,rfl,rfl,trivial⟩ (fun u=>?_)
 refine c_sta ⟨w0,M,(100040,g3,.cells #[V0,V0,V0,Vi 0,V0] 30 (0,0))::(100030,g2,.cells #[Vi p1.fKind,Vi p1.fNode,Vs p1.fName,Vs p1.fText,Vs p1.fZone,.slice Ap1_0 p1.fHints.length cp1_0] 32 (0,0))::(100020,g1,.cells #[.slice Ap0_0 p0.fRing.length cp0_0,.slice Ap0_1 p0.fHints.length cp0_1,.slice Ap0_2 p0.fAnchors.length cp0_2,Vi p0.fEpoch,.slice Ap0_3 p0.fFlushes.length cp0_3] 30 (0,0))::H,R,φ⟩ (fun _ h=>h) ?_
 refine c_cond rfl (fun h6=>?_) (fun h6=>?_)
 ·
  replace hm:=ite_t hm (of_decide_eq_true h6)
  refine c_seq<|c_region<|g_v rfl (r_loadA (tag:=100020) rfl rfl Tryz.isAgg30 Tryz.sizeOf30 rfl rfl)<|g_v rfl r_move<|g_storeL (tag:=100040) rfl rfl rfl rfl Tryz.sizeOf30 rfl rfl<|g_v rfl r_assign<|g_nil<|d_then<|c_ret<|d_ret_then ?_
  cases hm
  exact d_retC (Ap0_0,cp0_0,Ap0_1,cp0_1,Ap0_2,cp0_2,Ap0_3,cp0_3) Tryz.results10 (res_agg (tag:=100040) rfl rfl Tryz.isAgg30 Tryz.sizeOf30 (res_tmp (res_nil rfl))) ⟨hcp0_0,hcp0_1,hcp0_2,hcp0_3⟩ (fun W h=>ok_pre (H1:=[_,_,_]) (R1:=[]) h (fun W hφ=>⟨hφ,(fun W h=>fp0_0 W h) W hφ,(fun W h=>fp0_1 W h) W hφ,(fun W h=>fp0_2 W h) W hφ,(fun W h=>fp0_3 W h) W hφ⟩)) (.inr rfl)
 replace hm:=ite_f hm (of_decide_eq_false h6)
 refine c_skip<|d_then<|c_seq ?_
 refine c_cut (ι:=(List Int)×(List ByteArray)×(List GAnchor)×(List GFlush)×Nat×Option Addr×Nat×Option Addr×Nat×Option Addr×Nat×Option Addr×Nat) [2,3,4,7] (fun ⟨l348,l351,l354,l357,g347,A349,c350,A352,c353,A355,c356,A358,c359⟩=>[(7,Vp g347)]) (fun ⟨l348,l351,l354,l357,g347,A349,c350,A352,c353,A355,c356,A358,c359⟩=>⟨w0,M,(100070,g347,.cells #[.slice A349 l348.length c350,.slice A352 l351.length c353,.slice A355 l354.length c356,Vi p0.fEpoch,.slice A358 l357.length c359] 30 (0,0))::(100040,g3,.cells #[V0,V0,V0,Vi 0,V0] 30 (0,0))::(100030,g2,.cells #[Vi p1.fKind,Vi p1.fNode,Vs p1.fName,Vs p1.fText,Vs p1.fZone,.slice Ap1_0 p1.fHints.length cp1_0] 32 (0,0))::(100020,g1,.cells #[.slice Ap0_0 p0.fRing.length cp0_0,.slice Ap0_1 p0.fHints.length cp0_1,.slice Ap0_2 p0.fAnchors.length cp0_2,Vi p0.fEpoch,.slice Ap0_3 p0.fFlushes.length cp0_3] 30 (0,0))::H,(100190,⟨.slice A349 l348.length c350,3,1,l348.length,l348.flatMap (fun x : Int=>[Value.int .i64 x])⟩)::(100220,⟨.slice A352 l351.length c353,9,1,l351.length,l351.flatMap (fun x : ByteArray=>[Value.string x])⟩)::(100250,⟨.slice A355 l354.length c356,55,2,l354.length,l354.flatMap GAnchor.enc⟩)::(100300,⟨.slice A358 l357.length c359,48,2,l357.length,l357.flatMap GFlush.enc⟩)::R,φ⟩) (fun ⟨l348,l351,l354,l357,g347,A349,c350,A352,c353,A355,c356,A358,c359⟩=>m_conf_Apply_j1 p1 p0 l348 l351 l354 l357 = some r∧l348.length ≤ c350∧l351.length ≤ c353∧l354.length ≤ c356∧l357.length ≤ c359) ?_ (fun ⟨l348,l351,l354,l357,g347,A349,c350,A352,c353,A355,c356,A358,c359⟩ u ⟨hm,hc350,hc353,hc356,hc359⟩=>?_)
 ·
  refine ga_start (n:=17) ⟨w0,M,(100040,g3,.cells #[V0,V0,V0,Vi 0,V0] 30 (0,0))::(100030,g2,.cells #[Vi p1.fKind,Vi p1.fNode,Vs p1.fName,Vs p1.fText,Vs p1.fZone,.slice Ap1_0 p1.fHints.length cp1_0] 32 (0,0))::(100020,g1,.cells #[.slice Ap0_0 p0.fRing.length cp0_0,.slice Ap0_1 p0.fHints.length cp0_1,.slice Ap0_2 p0.fAnchors.length cp0_2,Vi p0.fEpoch,.slice Ap0_3 p0.fFlushes.length cp0_3] 30 (0,0))::H,R,φ⟩ [16] #[false,false,false,false,false,false,false,false,false,false,false,false,false,false,false,false,false] (fun W h=>h.phi (fun W hφ=>hφ)) mixed rfl rfl<|ga_v (i:=0) (bz 17 1) rfl (by kernel_rfl) (fun _ _ _ _ h=>h) rfl (r_field (n:=0) Tryz.underlying30 rfl Tryz.sizeOf25 rfl rfl)<|ga_v (i:=1) (bz 17 3) rfl (by kernel_rfl) (fun _ _ _ _ h=>h) rfl (r_load (tag:=100020) rfl rfl rfl Tryz.isAgg25)<|ga_v (i:=3) (bz 17 11) rfl (by kernel_rfl) (fun _ _ _ _ h=>h) rfl (r_field (n:=1) Tryz.underlying30 rfl Tryz.sizeOf26 rfl rfl)<|ga_v (i:=4) (bz 17 27) rfl (by kernel_rfl) (fun _ _ _ _ h=>h) rfl (r_load (tag:=100020) rfl rfl rfl Tryz.isAgg26)<|ga_v (i:=6) (bz 17 91) rfl (by kernel_rfl) (fun _ _ _ _ h=>h) rfl (r_field (n:=2) Tryz.underlying30 rfl Tryz.sizeOf27 rfl rfl)<|ga_v (i:=7) (bz 17 219) rfl (by kernel_rfl) (fun _ _ _ _ h=>h) rfl (r_load (tag:=100020) rfl rfl rfl Tryz.isAgg27)<|ga_v (i:=9) (bz 17 731) rfl (by kernel_rfl) (fun _ _ _ _ h=>h) rfl (r_field (n:=3) Tryz.underlying30 rfl Tryz.sizeOf3 rfl rfl)<|ga_v (i:=10) (bz 17 1755) rfl (by kernel_rfl) (fun _ _ _ _ h=>h) rfl (r_load (tag:=100020) rfl rfl rfl Tryz.isAgg3)<|ga_v (i:=11) (bz 17 3803) rfl (by kernel_rfl) (fun _ _ _ _ h=>h) rfl (r_field (n:=4) Tryz.underlying30 rfl Tryz.sizeOf28 rfl rfl) ?_
  refine ga_v (i:=12) (bz 17 7899) rfl (by kernel_rfl) (fun _ _ _ _ h=>h) rfl (r_load (tag:=100020) rfl rfl rfl Tryz.isAgg28) ?_
  replace hm:=bnd hm
  obtain ⟨x671,hx672,hm⟩:=hm
  refine ga_two (i:=2) (j:=15) (bz 17 7903) (bz 17 40667) rfl rfl (by kernel_rfl) (by decide) (by decide) ?_ ?_
  ·
   refine ex_cn (first:=#[]) ⟨w0,M,_,_,φ⟩ (fun _ h=>h) Tryz.call24 rfl rfl rfl (c_slices_Clone_24 p0.fRing Ap0_0 cp0_0 hcp0_0 (fun W hS=>fp0_0 W hS.now) _ hx672) (fun ⟨A674,c675⟩ W hc675 h=>((ok_frontR (t:=2000) (t':=100190) h rfl).dropR (t:=100190) rfl).phi (fun W hφ=>hφ)) (fun ⟨A674,c675⟩ hc675=>?_)
   refine ga_sta _ (fun W h=>(ok_frontR (t:=2000) (t':=100190) h rfl)) ?_
   replace hm:=bnd hm
   obtain ⟨x677,hx678,hm⟩:=hm
   refine ga_two (i:=5) (j:=15) (bz 17 7935) (bz 17 40671) rfl rfl (by kernel_rfl) (by decide) (by decide) ?_ ?_
   ·
    refine ex_cn (first:=#[]) ⟨w0,M,_,_,φ⟩ (fun _ h=>h) Tryz.call25 rfl rfl rfl (c_slices_Clone_25 p0.fHints Ap0_1 cp0_1 hcp0_1 (fun W hS=>fp0_1 W hS.now) _ hx678) (fun ⟨A679,c680⟩ W hc680 h=>(((ok_frontR (t:=2000) (t':=100220) h rfl).dropR (t:=100220) rfl).dropR (t:=100190) rfl).phi (fun W hφ=>hφ)) (fun ⟨A679,c680⟩ hc680=>?_)
    refine ga_sta _ (fun W h=>(ok_frontR (t:=2000) (t':=100220) h rfl)) ?_
    replace hm:=bnd hm
    obtain ⟨x682,hx683,hm⟩:=hm
    refine ga_two (i:=8) (j:=15) (bz 17 8191) (bz 17 40703) rfl rfl (by kernel_rfl) (by decide) (by decide) ?_ ?_
    ·
     refine ex_cn (first:=#[]) ⟨w0,M,_,_,φ⟩ (fun _ h=>h) Tryz.call26 rfl rfl rfl (c_slices_Clone_26 p0.fAnchors Ap0_2 cp0_2 hcp0_2 (fun W hS=>fp0_2 W hS.now) _ hx683) (fun ⟨A684,c685⟩ W hc685 h=>((((ok_frontR (t:=2000) (t':=100250) h rfl).dropR (t:=100250) rfl).dropR (t:=100220) rfl).dropR (t:=100190) rfl).phi (fun W hφ=>hφ)) (fun ⟨A684,c685⟩ hc685=>?_)
     refine ga_sta _ (fun W h=>(ok_frontR (t:=2000) (t':=100250) h rfl)) ?_
     replace hm:=bnd hm
     obtain ⟨x687,hx688,hm⟩:=hm
     refine ga_two (i:=13) (j:=15) (bz 17 16383) (bz 17 40959) rfl rfl (by kernel_rfl) (by decide) (by decide) ?_ ?_
     ·
      refine ex_cn (first:=#[]) ⟨w0,M,_,_,φ⟩ (fun _ h=>h) Tryz.call27 rfl rfl rfl (c_slices_Clone_27 p0.fFlushes Ap0_3 cp0_3 hcp0_3 (fun W hS=>fp0_3 W hS.now) _ hx688) (fun ⟨A689,c690⟩ W hc690 h=>(((((ok_frontR (t:=2000) (t':=100300) h rfl).dropR (t:=100300) rfl).dropR (t:=100250) rfl).dropR (t:=100220) rfl).dropR (t:=100190) rfl).phi (fun W hφ=>hφ)) (fun ⟨A689,c690⟩ hc690=>?_)
      refine ga_sta _ (fun W h=>(ok_frontR (t:=2000) (t':=100300) h rfl))<|ga_v (i:=14) (bz 17 32767) rfl (by kernel_rfl) (fun _ _ _ _ h=>h) rfl (r_build _ rfl (bld30_17 _ _ _ _ _ _ _ _ _ _ _ _ _)) ?_
      refine ga_e (i:=15) (bz 17 65535) rfl (by kernel_rfl) (by decide) rfl  (e_alloc 100070 Tryz.zeroValue30) (fun g692 W _ h=>(((((h.dropR (t:=100300) rfl).dropR (t:=100250) rfl).dropR (t:=100220) rfl).dropR (t:=100190) rfl).dropH (t:=100070) rfl).phi (fun W hφ=>hφ)) (fun g692 _=>?_)
      refine ga_lastL (i:=16) (tag:=100070) (bz 17 131071) rfl (by kernel_rfl) (by decide) rfl rfl rfl rfl Tryz.sizeOf30 rfl rfl<|gz_done (by kernel_rfl) ?_
      exact d_round (x671,x677,x682,x687,g692,A674,c675,A679,c680,A684,c685,A689,c690) ⟨hm,hc675,hc680,hc685,hc690⟩ Nat.zero_lt_one ⟨rfl,rfl,rfl,rfl,trivial⟩ (fun W h=>(ok_frontR (t:=100190) (t':=100190) (ok_frontR (t:=100220) (t':=100220) (ok_frontR (t:=100250) (t':=100250) (ok_frontR (t:=100300) (t':=100300) h rfl) rfl) rfl) rfl).phi (fun W hφ=>hφ))
     refine ex_e rfl (e_alloc 100070 Tryz.zeroValue30) (fun g693 W _ h=>((((h.dropR (t:=100250) rfl).dropR (t:=100220) rfl).dropR (t:=100190) rfl).dropH (t:=100070) rfl).phi (fun W hφ=>hφ)) (fun g693 _=>?_)
     refine ga_cn (first:=#[]) (i:=13) (bz 17 49151) rfl (by kernel_rfl) (by decide)  ⟨w0,M,_,_,φ⟩ (fun _ h=>h) Tryz.call27 rfl rfl rfl (c_slices_Clone_27 p0.fFlushes Ap0_3 cp0_3 hcp0_3 (fun W hS=>fp0_3 W hS.now) _ hx688) (fun ⟨A694,c695⟩ W hc695 h=>((((((ok_frontR (t:=2000) (t':=100300) h rfl).dropR (t:=100300) rfl).dropR (t:=100250) rfl).dropR (t:=100220) rfl).dropR (t:=100190) rfl).dropH (t:=100070) rfl).phi (fun W hφ=>hφ)) (fun ⟨A694,c695⟩ hc695=>?_)
     refine ga_sta _ (fun W h=>(ok_frontR (t:=2000) (t':=100300) h rfl))<|ga_r (i:=14) (bz 17 65535) rfl (by kernel_rfl) (by decide) rfl (r_build _ rfl (bld30_17 _ _ _ _ _ _ _ _ _ _ _ _ _))<|ga_lastL (i:=16) (tag:=100070) (bz 17 131071) rfl (by kernel_rfl) (by decide) rfl rfl rfl rfl Tryz.sizeOf30 rfl rfl<|gz_done (by kernel_rfl) ?_
     exact d_round (x671,x677,x682,x687,g693,A674,c675,A679,c680,A684,c685,A694,c695) ⟨hm,hc675,hc680,hc685,hc695⟩ Nat.zero_lt_one ⟨rfl,rfl,rfl,rfl,trivial⟩ (fun W h=>(ok_frontR (t:=100190) (t':=100190) (ok_frontR (t:=100220) (t':=100220) (ok_frontR (t:=100250) (t':=100250) (ok_frontR (t:=100300) (t':=100300) h rfl) rfl) rfl) rfl).phi (fun W hφ=>hφ))
    refine ex_e rfl (e_alloc 100070 Tryz.zeroValue30) (fun g697 W _ h=>(((h.dropR (t:=100220) rfl).dropR (t:=100190) rfl).dropH (t:=100070) rfl).phi (fun W hφ=>hφ)) (fun g697 _=>?_)
    refine ga_cn (first:=#[]) (i:=8) (bz 17 40959) rfl (by kernel_rfl) (by decide)  ⟨w0,M,_,_,φ⟩ (fun _ h=>h) Tryz.call26 rfl rfl rfl (c_slices_Clone_26 p0.fAnchors Ap0_2 cp0_2 hcp0_2 (fun W hS=>fp0_2 W hS.now) _ hx683) (fun ⟨A698,c699⟩ W hc699 h=>(((((ok_frontR (t:=2000) (t':=100250) h rfl).dropR (t:=100250) rfl).dropR (t:=100220) rfl).dropR (t:=100190) rfl).dropH (t:=100070) rfl).phi (fun W hφ=>hφ)) (fun ⟨A698,c699⟩ hc699=>?_)
    refine ga_sta _ (fun W h=>(ok_frontR (t:=2000) (t':=100250) h rfl)) ?_
    replace hm:=bnd hm
    obtain ⟨x701,hx702,hm⟩:=hm
    refine ga_cn (first:=#[]) (i:=13) (bz 17 49151) rfl (by kernel_rfl) (by decide)  ⟨w0,M,_,_,φ⟩ (fun _ h=>h) Tryz.call27 rfl rfl rfl (c_slices_Clone_27 p0.fFlushes Ap0_3 cp0_3 hcp0_3 (fun W hS=>fp0_3 W hS.now) _ hx702) (fun ⟨A703,c704⟩ W hc704 h=>((((((ok_frontR (t:=2000) (t':=100300) h rfl).dropR (t:=100300) rfl).dropR (t:=100250) rfl).dropR (t:=100220) rfl).dropR (t:=100190) rfl).dropH (t:=100070) rfl).phi (fun W hφ=>hφ)) (fun ⟨A703,c704⟩ hc704=>?_)
    refine ga_sta _ (fun W h=>(ok_frontR (t:=2000) (t':=100300) h rfl))<|ga_r (i:=14) (bz 17 65535) rfl (by kernel_rfl) (by decide) rfl (r_build _ rfl (bld30_17 _ _ _ _ _ _ _ _ _ _ _ _ _))<|ga_lastL (i:=16) (tag:=100070) (bz 17 131071) rfl (by kernel_rfl) (by decide) rfl rfl rfl rfl Tryz.sizeOf30 rfl rfl<|gz_done (by kernel_rfl) ?_
    exact d_round (x671,x677,x682,x701,g697,A674,c675,A679,c680,A698,c699,A703,c704) ⟨hm,hc675,hc680,hc699,hc704⟩ Nat.zero_lt_one ⟨rfl,rfl,rfl,rfl,trivial⟩ (fun W h=>(ok_frontR (t:=100190) (t':=100190) (ok_frontR (t:=100220) (t':=100220) (ok_frontR (t:=100250) (t':=100250) (ok_frontR (t:=100300) (t':=100300) h rfl) rfl) rfl) rfl).phi (fun W hφ=>hφ))
   refine ex_e rfl (e_alloc 100070 Tryz.zeroValue30) (fun g706 W _ h=>((h.dropR (t:=100190) rfl).dropH (t:=100070) rfl).phi (fun W hφ=>hφ)) (fun g706 _=>?_)
   refine ga_cn (first:=#[]) (i:=5) (bz 17 40703) rfl (by kernel_rfl) (by decide)  ⟨w0,M,_,_,φ⟩ (fun _ h=>h) Tryz.call25 rfl rfl rfl (c_slices_Clone_25 p0.fHints Ap0_1 cp0_1 hcp0_1 (fun W hS=>fp0_1 W hS.now) _ hx678) (fun ⟨A707,c708⟩ W hc708 h=>((((ok_frontR (t:=2000) (t':=100220) h rfl).dropR (t:=100220) rfl).dropR (t:=100190) rfl).dropH (t:=100070) rfl).phi (fun W hφ=>hφ)) (fun ⟨A707,c708⟩ hc708=>?_)
   refine ga_sta _ (fun W h=>(ok_frontR (t:=2000) (t':=100220) h rfl)) ?_
   replace hm:=bnd hm
   obtain ⟨x710,hx711,hm⟩:=hm
   refine ga_cn (first:=#[]) (i:=8) (bz 17 40959) rfl (by kernel_rfl) (by decide)  ⟨w0,M,_,_,φ⟩ (fun _ h=>h) Tryz.call26 rfl rfl rfl (c_slices_Clone_26 p0.fAnchors Ap0_2 cp0_2 hcp0_2 (fun W hS=>fp0_2 W hS.now) _ hx711) (fun ⟨A712,c713⟩ W hc713 h=>(((((ok_frontR (t:=2000) (t':=100250) h rfl).dropR (t:=100250) rfl).dropR (t:=100220) rfl).dropR (t:=100190) rfl).dropH (t:=100070) rfl).phi (fun W hφ=>hφ)) (fun ⟨A712,c713⟩ hc713=>?_)
   refine ga_sta _ (fun W h=>(ok_frontR (t:=2000) (t':=100250) h rfl)) ?_
   replace hm:=bnd hm
   obtain ⟨x715,hx716,hm⟩:=hm
   refine ga_cn (first:=#[]) (i:=13) (bz 17 49151) rfl (by kernel_rfl) (by decide)  ⟨w0,M,_,_,φ⟩ (fun _ h=>h) Tryz.call27 rfl rfl rfl (c_slices_Clone_27 p0.fFlushes Ap0_3 cp0_3 hcp0_3 (fun W hS=>fp0_3 W hS.now) _ hx716) (fun ⟨A717,c718⟩ W hc718 h=>((((((ok_frontR (t:=2000) (t':=100300) h rfl).dropR (t:=100300) rfl).dropR (t:=100250) rfl).dropR (t:=100220) rfl).dropR (t:=100190) rfl).dropH (t:=100070) rfl).phi (fun W hφ=>hφ)) (fun ⟨A717,c718⟩ hc718=>?_)
   refine ga_sta _ (fun W h=>(ok_frontR (t:=2000) (t':=100300) h rfl))<|ga_r (i:=14) (bz 17 65535) rfl (by kernel_rfl) (by decide) rfl (r_build _ rfl (bld30_17 _ _ _ _ _ _ _ _ _ _ _ _ _))<|ga_lastL (i:=16) (tag:=100070) (bz 17 131071) rfl (by kernel_rfl) (by decide) rfl rfl rfl rfl Tryz.sizeOf30 rfl rfl<|gz_done (by kernel_rfl) ?_
   exact d_round (x671,x677,x710,x715,g706,A674,c675,A707,c708,A712,c713,A717,c718) ⟨hm,hc675,hc708,hc713,hc718⟩ Nat.zero_lt_one ⟨rfl,rfl,rfl,rfl,trivial⟩ (fun W h=>(ok_frontR (t:=100190) (t':=100190) (ok_frontR (t:=100220) (t':=100220) (ok_frontR (t:=100250) (t':=100250) (ok_frontR (t:=100300) (t':=100300) h rfl) rfl) rfl) rfl).phi (fun W hφ=>hφ))
  refine ex_e rfl (e_alloc 100070 Tryz.zeroValue30) (fun g720 W _ h=>(h.dropH (t:=100070) rfl).phi (fun W hφ=>hφ)) (fun g720 _=>?_)
  refine ga_cn (first:=#[]) (i:=2) (bz 17 40671) rfl (by kernel_rfl) (by decide)  ⟨w0,M,_,_,φ⟩ (fun _ h=>h) Tryz.call24 rfl rfl rfl (c_slices_Clone_24 p0.fRing Ap0_0 cp0_0 hcp0_0 (fun W hS=>fp0_0 W hS.now) _ hx672) (fun ⟨A721,c722⟩ W hc722 h=>(((ok_frontR (t:=2000) (t':=100190) h rfl).dropR (t:=100190) rfl).dropH (t:=100070) rfl).phi (fun W hφ=>hφ)) (fun ⟨A721,c722⟩ hc722=>?_)
  refine ga_sta _ (fun W h=>(ok_frontR (t:=2000) (t':=100190) h rfl)) ?_
  replace hm:=bnd hm
  obtain ⟨x724,hx725,hm⟩:=hm
  refine ga_cn (first:=#[]) (i:=5) (bz 17 40703) rfl (by kernel_rfl) (by decide)  ⟨w0,M,_,_,φ⟩ (fun _ h=>h) Tryz.call25 rfl rfl rfl (c_slices_Clone_25 p0.fHints Ap0_1 cp0_1 hcp0_1 (fun W hS=>fp0_1 W hS.now) _ hx725) (fun ⟨A726,c727⟩ W hc727 h=>((((ok_frontR (t:=2000) (t':=100220) h rfl).dropR (t:=100220) rfl).dropR (t:=100190) rfl).dropH (t:=100070) rfl).phi (fun W hφ=>hφ)) (fun ⟨A726,c727⟩ hc727=>?_)
  refine ga_sta _ (fun W h=>(ok_frontR (t:=2000) (t':=100220) h rfl)) ?_
  replace hm:=bnd hm
  obtain ⟨x729,hx730,hm⟩:=hm
  refine ga_cn (first:=#[]) (i:=8) (bz 17 40959) rfl (by kernel_rfl) (by decide)  ⟨w0,M,_,_,φ⟩ (fun _ h=>h) Tryz.call26 rfl rfl rfl (c_slices_Clone_26 p0.fAnchors Ap0_2 cp0_2 hcp0_2 (fun W hS=>fp0_2 W hS.now) _ hx730) (fun ⟨A731,c732⟩ W hc732 h=>(((((ok_frontR (t:=2000) (t':=100250) h rfl).dropR (t:=100250) rfl).dropR (t:=100220) rfl).dropR (t:=100190) rfl).dropH (t:=100070) rfl).phi (fun W hφ=>hφ)) (fun ⟨A731,c732⟩ hc732=>?_)
  refine ga_sta _ (fun W h=>(ok_frontR (t:=2000) (t':=100250) h rfl)) ?_
  replace hm:=bnd hm
  obtain ⟨x734,hx735,hm⟩:=hm
  refine ga_cn (first:=#[]) (i:=13) (bz 17 49151) rfl (by kernel_rfl) (by decide)  ⟨w0,M,_,_,φ⟩ (fun _ h=>h) Tryz.call27 rfl rfl rfl (c_slices_Clone_27 p0.fFlushes Ap0_3 cp0_3 hcp0_3 (fun W hS=>fp0_3 W hS.now) _ hx735) (fun ⟨A736,c737⟩ W hc737 h=>((((((ok_frontR (t:=2000) (t':=100300) h rfl).dropR (t:=100300) rfl).dropR (t:=100250) rfl).dropR (t:=100220) rfl).dropR (t:=100190) rfl).dropH (t:=100070) rfl).phi (fun W hφ=>hφ)) (fun ⟨A736,c737⟩ hc737=>?_)
  refine ga_sta _ (fun W h=>(ok_frontR (t:=2000) (t':=100300) h rfl))<|ga_r (i:=14) (bz 17 65535) rfl (by kernel_rfl) (by decide) rfl (r_build _ rfl (bld30_17 _ _ _ _ _ _ _ _ _ _ _ _ _))<|ga_lastL (i:=16) (tag:=100070) (bz 17 131071) rfl (by kernel_rfl) (by decide) rfl rfl rfl rfl Tryz.sizeOf30 rfl rfl<|gz_done (by kernel_rfl) ?_
  exact d_round (x671,x724,x729,x734,g720,A721,c722,A726,c727,A731,c732,A736,c737) ⟨hm,hc722,hc727,hc732,hc737⟩ Nat.zero_lt_one ⟨rfl,rfl,rfl,rfl,trivial⟩ (fun W h=>(ok_frontR (t:=100190) (t':=100190) (ok_frontR (t:=100220) (t':=100220) (ok_frontR (t:=100250) (t':=100250) (ok_frontR (t:=100300) (t':=100300) h rfl) rfl) rfl) rfl).phi (fun W hφ=>hφ))
 unfold m_conf_Apply_j1 at hm
 refine d_flat [(2,Vp g1),(3,Vp g2),(4,Vp g3),(7,Vp g347)] ⟨rfl,rfl,rfl,rfl,trivial⟩ (fun u=>?_)
 refine d_sta ⟨w0,M,(100070,g347,.cells #[.slice A349 l348.length c350,.slice A352 l351.length c353,.slice A355 l354.length c356,Vi p0.fEpoch,.slice A358 l357.length c359] 30 (0,0))::(100040,g3,.cells #[V0,V0,V0,Vi 0,V0] 30 (0,0))::(100030,g2,.cells #[Vi p1.fKind,Vi p1.fNode,Vs p1.fName,Vs p1.fText,Vs p1.fZone,.slice Ap1_0 p1.fHints.length cp1_0] 32 (0,0))::(100020,g1,.cells #[.slice Ap0_0 p0.fRing.length cp0_0,.slice Ap0_1 p0.fHints.length cp0_1,.slice Ap0_2 p0.fAnchors.length cp0_2,Vi p0.fEpoch,.slice Ap0_3 p0.fFlushes.length cp0_3] 30 (0,0))::H,(100190,⟨.slice A349 l348.length c350,3,1,l348.length,l348.flatMap (fun x : Int=>[Value.int .i64 x])⟩)::(100220,⟨.slice A352 l351.length c353,9,1,l351.length,l351.flatMap (fun x : ByteArray=>[Value.string x])⟩)::(100250,⟨.slice A355 l354.length c356,55,2,l354.length,l354.flatMap GAnchor.enc⟩)::(100300,⟨.slice A358 l357.length c359,48,2,l357.length,l357.flatMap GFlush.enc⟩)::R,φ⟩ (fun _ h=>h)<|d_then<|c_seq<|c_region<|g_v rfl (r_field (n:=0) Tryz.underlying30 rfl Tryz.sizeOf25 rfl rfl)<|g_v rfl (r_load (tag:=100070) rfl rfl rfl Tryz.isAgg25)<|g_v rfl (r_field (n:=1) Tryz.underlying32 rfl Tryz.sizeOf3 rfl rfl)<|g_v rfl (r_load (tag:=100030) rfl rfl rfl Tryz.isAgg3) ?_
 replace hm:=bnd hm
 obtain ⟨⟨x360,x361⟩,hx362,hm⟩:=hm
 refine g_cn ⟨w0,M,_,_,φ⟩ (fun _ h=>h) Tryz.call28 rfl rfl (c_slices_BinarySearch_28 l348 A349 c350 hc350 (fun W hS=>rowCl (tag:=100190) rfl W hS) p1.fNode _ hx362) (fun _ _=>?_)
 refine g_v rfl r_move<|g_v rfl (r_extract rfl rfl)<|g_v rfl (r_extract rfl rfl)<|g_v rfl r_assign<|g_v rfl r_assign<|g_nil<|d_then ?_
 refine c_flat [(2,Vp g1),(3,Vp g2),(4,Vp g3),(7,Vp g347),(8,Vi x360),(9,.bool x361)] ⟨rfl,rfl,rfl,rfl,rfl,rfl,trivial⟩ (fun u=>?_)
 refine c_seq ?_
 refine c_cut (ι:=(List Int)×(List GAnchor)×(List GFlush)×(List ByteArray)×Int×Option Addr×Nat×Option Addr×Nat×Option Addr×Nat×Option Addr×Nat) [4,7] (fun ⟨l437,l440,l443,l446,i450,A438,c439,A441,c442,A444,c445,A447,c448⟩=>[]) (fun ⟨l437,l440,l443,l446,i450,A438,c439,A441,c442,A444,c445,A447,c448⟩=>⟨w0,M,(100070,g347,.cells #[.slice A438 l437.length c439,.slice A447 l446.length c448,.slice A441 l440.length c442,Vi i450,.slice A444 l443.length c445] 30 (0,0))::(100040,g3,.cells #[V0,V0,V0,Vi 0,V0] 30 (0,0))::H,(100190,⟨.slice A438 l437.length c439,3,1,l437.length,l437.flatMap (fun x : Int=>[Value.int .i64 x])⟩)::(100250,⟨.slice A441 l440.length c442,55,2,l440.length,l440.flatMap GAnchor.enc⟩)::(100300,⟨.slice A444 l443.length c445,48,2,l443.length,l443.flatMap GFlush.enc⟩)::R,fun W=>φ W∧Cl W A447 (l446.flatMap (fun x : ByteArray=>[Value.string x]))⟩) (fun ⟨l437,l440,l443,l446,i450,A438,c439,A441,c442,A444,c445,A447,c448⟩=>m_conf_Apply_j2 l437 l440 l443 l446 i450 = some r∧l437.length ≤ c439∧l440.length ≤ c442∧l443.length ≤ c445∧l446.length ≤ c448) ?_ (fun ⟨l437,l440,l443,l446,i450,A438,c439,A441,c442,A444,c445,A447,c448⟩ u ⟨hm,hc439,hc442,hc445,hc448⟩=>?_)
 ·
  refine c_seq<|c_region<|g_v rfl (r_field (n:=0) Tryz.underlying32 rfl Tryz.sizeOf3 rfl rfl)<|g_v rfl (r_load (tag:=100030) rfl rfl rfl Tryz.isAgg3)<|g_nil<|d_then<|c_block<|c_seq<|c_region<|g_v rfl (r_eql rfl rfl) ?_
  refine g_v rfl r_assign<|g_nil<|d_then ?_
  refine c_cond rfl (fun h458=>?_) (fun h458=>?_)
  ·
   replace hm:=ite_t hm (of_decide_eq_true h458)
   refine c_seq<|c_seq<|c_region<|g_v rfl r_move<|g_nil<|d_then ?_
   refine c_cond rfl (fun h459=>?_) (fun h459=>?_)
   ·
    replace hm:=ite_t hm h459
    refine c_seq<|c_region<|g_v rfl (r_loadA (tag:=100020) rfl rfl Tryz.isAgg30 Tryz.sizeOf30 rfl rfl)<|g_storeL (tag:=100040) rfl rfl rfl rfl Tryz.sizeOf30 rfl rfl<|g_v rfl r_assign<|g_nil<|d_then<|c_ret<|d_ret_then<|d_ret_block ?_
    refine d_ret_then<|d_ret_then ?_
    cases hm
    exact d_retC (Ap0_0,cp0_0,Ap0_1,cp0_1,Ap0_2,cp0_2,Ap0_3,cp0_3) Tryz.results10 (res_agg (tag:=100040) rfl rfl Tryz.isAgg30 Tryz.sizeOf30 (res_tmp (res_nil rfl))) ⟨hcp0_0,hcp0_1,hcp0_2,hcp0_3⟩ (fun W h=>ok_pre (H1:=[_,_,_,_]) (R1:=[_,_,_,_]) h (fun W hφ=>⟨hφ,(fun W h=>fp0_0 W h) W hφ,(fun W h=>fp0_1 W h) W hφ,(fun W h=>fp0_2 W h) W hφ,(fun W h=>fp0_3 W h) W hφ⟩)) (.inr rfl)
   replace hm:=ite_f hm (bool_nt h459)
   refine c_skip<|d_then<|c_region<|g_v rfl (r_field (n:=0) Tryz.underlying30 rfl Tryz.sizeOf25 rfl rfl)<|g_v rfl (r_load (tag:=100070) rfl rfl rfl Tryz.isAgg25)<|g_v rfl r_move<|g_v rfl (r_field (n:=1) Tryz.underlying32 rfl Tryz.sizeOf3 rfl rfl)<|g_v rfl (r_load (tag:=100030) rfl rfl rfl Tryz.isAgg3) ?_
   refine g_e rfl (e_lit (tag:=100510) (l:=[p1.fNode]) (enc:=(fun x : Int=>[Value.int .i64 x])) (sz:=1) rfl Tryz.underlying25 (lit3_18 _) rfl rfl (fun _=>rfl)) (fun g460 _=>?_)
   replace hm:=bnd hm
   obtain ⟨x461,hx462,hm⟩:=hm
   refine g_cn ⟨w0,M,(100070,g347,.cells #[.slice A349 l348.length c350,.slice A352 l351.length c353,.slice A355 l354.length c356,Vi p0.fEpoch,.slice A358 l357.length c359] 30 (0,0))::(100040,g3,.cells #[V0,V0,V0,Vi 0,V0] 30 (0,0))::(100030,g2,.cells #[Vi p1.fKind,Vi p1.fNode,Vs p1.fName,Vs p1.fText,Vs p1.fZone,.slice Ap1_0 p1.fHints.length cp1_0] 32 (0,0))::(100020,g1,.cells #[.slice Ap0_0 p0.fRing.length cp0_0,.slice Ap0_1 p0.fHints.length cp0_1,.slice Ap0_2 p0.fAnchors.length cp0_2,Vi p0.fEpoch,.slice Ap0_3 p0.fFlushes.length cp0_3] 30 (0,0))::H,(1000,⟨.slice A349 l348.length c350,3,1,l348.length,l348.flatMap (fun x : Int=>[Value.int .i64 x])⟩)::(1001,⟨.slice (some ⟨g460,0,none⟩) [p1.fNode].length 1,3,1,[p1.fNode].length,[p1.fNode].flatMap (fun x : Int=>[Value.int .i64 x])⟩)::(100220,⟨.slice A352 l351.length c353,9,1,l351.length,l351.flatMap (fun x : ByteArray=>[Value.string x])⟩)::(100250,⟨.slice A355 l354.length c356,55,2,l354.length,l354.flatMap GAnchor.enc⟩)::(100300,⟨.slice A358 l357.length c359,48,2,l357.length,l357.flatMap GFlush.enc⟩)::R,φ⟩ (fun W h=>(ok_frontR (t:=100190) (t':=1000) (ok_frontR (t:=100510) (t':=1001) h rfl) rfl)) Tryz.call29 rfl rfl (c_slices_Insert_29 l348 A349 c350 hc350 x360 [p1.fNode] (some ⟨g460,0,none⟩) 1 (Nat.le_refl _) _ hx462) (fun ⟨A463,c464⟩ hc464=>?_)
   refine g_sta _ (fun W h=>(ok_frontR (t:=2000) (t':=100190) h rfl))<|g_v rfl (r_field (n:=0) Tryz.underlying30 rfl Tryz.sizeOf25 rfl rfl)<|g_storeL (tag:=100070) rfl rfl rfl rfl Tryz.sizeOf25 rfl rfl<|g_nil<|d_normal_block ?_
   refine d_shut (tag:=100220) rfl (fun φ466 q466'=>?_)
   have q466 : ∀ W,φ466 W→φ W:=fun W h=>(q466' W h).1
   have f467:=fun (W : World) (h : φ466 W)=>(q466' W h).2
   exact d_round (x461,l354,l357,l351,p0.fEpoch,A463,c464,A355,c356,A358,c359,A352,c353) ⟨hm,hc464,hc356,hc359,hc353⟩ Nat.zero_lt_one ⟨rfl,rfl,trivial⟩ (fun W h=>((h.dropH (t:=100030) rfl).dropH (t:=100020) rfl).phi (fun W hφ=>⟨(q466 _ hφ),(fun W h=>f467 W h) W hφ⟩))
  replace hm:=ite_f hm (of_decide_eq_false h458)
  refine c_seq<|c_region<|g_v rfl (r_eql rfl rfl)<|g_v rfl r_assign<|g_nil<|d_then ?_
  refine c_cond rfl (fun h468=>?_) (fun h468=>?_)
  ·
   replace hm:=ite_t hm (of_decide_eq_true h468)
   refine c_seq<|c_seq<|c_region<|g_v rfl r_move<|g_v rfl (r_not rfl)<|g_nil<|d_then ?_
   refine c_cond rfl (fun h469=>?_) (fun h469=>?_)
   ·
    have h469' : x361 = false:=by revert h469; cases x361 <;> simp
    replace hm:=ite_f hm (bool_nt h469')
    refine c_seq<|c_region<|g_v rfl (r_loadA (tag:=100020) rfl rfl Tryz.isAgg30 Tryz.sizeOf30 rfl rfl)<|g_storeL (tag:=100040) rfl rfl rfl rfl Tryz.sizeOf30 rfl rfl<|g_v rfl r_assign<|g_nil<|d_then ?_
    refine c_flat [(4,Vp g3),(5,Vi 13)] ⟨rfl,rfl,trivial⟩ (fun u=>?_)
    refine c_sta ⟨w0,M,(100070,g347,.cells #[.slice A349 l348.length c350,.slice A352 l351.length c353,.slice A355 l354.length c356,Vi p0.fEpoch,.slice A358 l357.length c359] 30 (0,0))::(100040,g3,.cells #[.slice Ap0_0 p0.fRing.length cp0_0,.slice Ap0_1 p0.fHints.length cp0_1,.slice Ap0_2 p0.fAnchors.length cp0_2,Vi p0.fEpoch,.slice Ap0_3 p0.fFlushes.length cp0_3] 30 (0,0))::(100030,g2,.cells #[Vi p1.fKind,Vi p1.fNode,Vs p1.fName,Vs p1.fText,Vs p1.fZone,.slice Ap1_0 p1.fHints.length cp1_0] 32 (0,0))::(100020,g1,.cells #[.slice Ap0_0 p0.fRing.length cp0_0,.slice Ap0_1 p0.fHints.length cp0_1,.slice Ap0_2 p0.fAnchors.length cp0_2,Vi p0.fEpoch,.slice Ap0_3 p0.fFlushes.length cp0_3] 30 (0,0))::H,(100190,⟨.slice A349 l348.length c350,3,1,l348.length,l348.flatMap (fun x : Int=>[Value.int .i64 x])⟩)::(100220,⟨.slice A352 l351.length c353,9,1,l351.length,l351.flatMap (fun x : ByteArray=>[Value.string x])⟩)::(100250,⟨.slice A355 l354.length c356,55,2,l354.length,l354.flatMap GAnchor.enc⟩)::(100300,⟨.slice A358 l357.length c359,48,2,l357.length,l357.flatMap GFlush.enc⟩)::R,φ⟩ (fun _ h=>h)<|c_ret<|d_ret_then<|d_ret_block<|d_ret_then<|d_ret_then ?_
    cases hm
    exact d_retC (Ap0_0,cp0_0,Ap0_1,cp0_1,Ap0_2,cp0_2,Ap0_3,cp0_3) Tryz.results10 (res_agg (tag:=100040) rfl rfl Tryz.isAgg30 Tryz.sizeOf30 (res_tmp (res_nil rfl))) ⟨hcp0_0,hcp0_1,hcp0_2,hcp0_3⟩ (fun W h=>ok_pre (H1:=[_,_,_,_]) (R1:=[_,_,_,_]) h (fun W hφ=>⟨hφ,(fun W h=>fp0_0 W h) W hφ,(fun W h=>fp0_1 W h) W hφ,(fun W h=>fp0_2 W h) W hφ,(fun W h=>fp0_3 W h) W hφ⟩)) (.inr rfl)
   have h469' : x361 = true:=by revert h469; cases x361 <;> simp
   replace hm:=ite_t hm h469'
   refine c_skip<|d_then<|c_region<|g_v rfl (r_field (n:=0) Tryz.underlying30 rfl Tryz.sizeOf25 rfl rfl)<|g_v rfl (r_load (tag:=100070) rfl rfl rfl Tryz.isAgg25)<|g_v rfl r_move<|g_v rfl r_move<|g_v rfl (r_add rfl rfl rfl) ?_
   replace hm:=bnd hm
   obtain ⟨x470,hx471,hm⟩:=hm
   refine g_cn ⟨w0,M,(100070,g347,.cells #[.slice A349 l348.length c350,.slice A352 l351.length c353,.slice A355 l354.length c356,Vi p0.fEpoch,.slice A358 l357.length c359] 30 (0,0))::(100040,g3,.cells #[V0,V0,V0,Vi 0,V0] 30 (0,0))::(100030,g2,.cells #[Vi p1.fKind,Vi p1.fNode,Vs p1.fName,Vs p1.fText,Vs p1.fZone,.slice Ap1_0 p1.fHints.length cp1_0] 32 (0,0))::(100020,g1,.cells #[.slice Ap0_0 p0.fRing.length cp0_0,.slice Ap0_1 p0.fHints.length cp0_1,.slice Ap0_2 p0.fAnchors.length cp0_2,Vi p0.fEpoch,.slice Ap0_3 p0.fFlushes.length cp0_3] 30 (0,0))::H,(1000,⟨.slice A349 l348.length c350,3,1,l348.length,l348.flatMap (fun x : Int=>[Value.int .i64 x])⟩)::(100220,⟨.slice A352 l351.length c353,9,1,l351.length,l351.flatMap (fun x : ByteArray=>[Value.string x])⟩)::(100250,⟨.slice A355 l354.length c356,55,2,l354.length,l354.flatMap GAnchor.enc⟩)::(100300,⟨.slice A358 l357.length c359,48,2,l357.length,l357.flatMap GFlush.enc⟩)::R,φ⟩ (fun W h=>(ok_frontR (t:=100190) (t':=1000) h rfl)) Tryz.call30 rfl rfl (c_slices_Delete_30 l348 A349 c350 hc350 x360 (w64 (x360 + 1)) _ hx471) (fun ⟨A472,c473⟩ hc473=>?_)
   refine g_sta _ (fun W h=>(ok_frontR (t:=2000) (t':=100190) h rfl))<|g_v rfl (r_field (n:=0) Tryz.underlying30 rfl Tryz.sizeOf25 rfl rfl)<|g_storeL (tag:=100070) rfl rfl rfl rfl Tryz.sizeOf25 rfl rfl<|g_nil<|d_normal_block ?_
   refine d_shut (tag:=100220) rfl (fun φ475 q475'=>?_)
   have q475 : ∀ W,φ475 W→φ W:=fun W h=>(q475' W h).1
   have f476:=fun (W : World) (h : φ475 W)=>(q475' W h).2
   exact d_round (x470,l354,l357,l351,p0.fEpoch,A472,c473,A355,c356,A358,c359,A352,c353) ⟨hm,hc473,hc356,hc359,hc353⟩ Nat.zero_lt_one ⟨rfl,rfl,trivial⟩ (fun W h=>((h.dropH (t:=100030) rfl).dropH (t:=100020) rfl).phi (fun W hφ=>⟨(q475 _ hφ),(fun W h=>f476 W h) W hφ⟩))
  replace hm:=ite_f hm (of_decide_eq_false h468)
  refine c_seq<|c_region<|g_v rfl (r_eql rfl rfl)<|g_v rfl r_assign<|g_nil<|d_then ?_
  refine c_cond rfl (fun h477=>?_) (fun h477=>?_)
  ·
   replace hm:=ite_t hm (of_decide_eq_true h477)
   refine c_region<|g_v rfl (r_field (n:=5) Tryz.underlying32 rfl Tryz.sizeOf26 rfl rfl)<|g_v rfl (r_load (tag:=100030) rfl rfl rfl Tryz.isAgg26) ?_
   replace hm:=bnd hm
   obtain ⟨x478,hx479,hm⟩:=hm
   refine g_cn ⟨w0,M,_,_,φ⟩ (fun _ h=>h) Tryz.call25 rfl rfl (c_slices_Clone_25 p1.fHints Ap1_0 cp1_0 hcp1_0 (fun W hS=>fp1_0 W hS.now) _ hx479) (fun ⟨A480,c481⟩ hc481=>?_)
   refine g_sta _ (fun W h=>(ok_frontR (t:=2000) (t':=100700) h rfl))<|g_v rfl (r_field (n:=1) Tryz.underlying30 rfl Tryz.sizeOf26 rfl rfl)<|g_storeL (tag:=100070) rfl rfl rfl rfl Tryz.sizeOf26 rfl rfl<|g_nil<|d_normal_block ?_
   refine d_shut (tag:=100700) rfl (fun φ483 q483'=>?_)
   have q483 : ∀ W,φ483 W→φ W:=fun W h=>(q483' W h).1
   have f484:=fun (W : World) (h : φ483 W)=>(q483' W h).2
   exact d_round (l348,l354,l357,x478,p0.fEpoch,A349,c350,A355,c356,A358,c359,A480,c481) ⟨hm,hc350,hc356,hc359,hc481⟩ Nat.zero_lt_one ⟨rfl,rfl,trivial⟩ (fun W h=>(((h.dropR (t:=100220) rfl).dropH (t:=100030) rfl).dropH (t:=100020) rfl).phi (fun W hφ=>⟨(q483 _ hφ),(fun W h=>f484 W h) W hφ⟩))
  replace hm:=ite_f hm (of_decide_eq_false h477)
  refine c_seq<|c_region<|g_v rfl (r_eql rfl rfl)<|g_v rfl r_assign<|g_nil<|d_then ?_
  refine c_flat [(2,Vp g1),(3,Vp g2),(4,Vp g3),(7,Vp g347),(41,Vi p1.fKind),(72,.bool (decide (p1.fKind = 4)))] ⟨rfl,rfl,rfl,rfl,rfl,rfl,trivial⟩ (fun u=>?_)
  refine c_cond rfl (fun h485=>?_) (fun h485=>?_)
  ·
   replace hm:=ite_t hm (of_decide_eq_true h485)
   refine c_seq<|c_region<|g_v rfl (r_field (n:=2) Tryz.underlying30 rfl Tryz.sizeOf27 rfl rfl)<|g_v rfl (r_load (tag:=100070) rfl rfl rfl Tryz.isAgg27)<|g_v rfl (r_mkf rfl) ?_
   replace hm:=bnd hm
   obtain ⟨x486,hx487,hm⟩:=hm
   refine g_cn ⟨w0,M,(1000,g2,.cells #[Vi p1.fKind,Vi p1.fNode,Vs p1.fName,Vs p1.fText,Vs p1.fZone,.slice Ap1_0 p1.fHints.length cp1_0] 32 (0,0))::(100070,g347,.cells #[.slice A349 l348.length c350,.slice A352 l351.length c353,.slice A355 l354.length c356,Vi p0.fEpoch,.slice A358 l357.length c359] 30 (0,0))::(100040,g3,.cells #[V0,V0,V0,Vi 0,V0] 30 (0,0))::(100020,g1,.cells #[.slice Ap0_0 p0.fRing.length cp0_0,.slice Ap0_1 p0.fHints.length cp0_1,.slice Ap0_2 p0.fAnchors.length cp0_2,Vi p0.fEpoch,.slice Ap0_3 p0.fFlushes.length cp0_3] 30 (0,0))::H,(1000,⟨.slice A355 l354.length c356,55,2,l354.length,l354.flatMap GAnchor.enc⟩)::(100190,⟨.slice A349 l348.length c350,3,1,l348.length,l348.flatMap (fun x : Int=>[Value.int .i64 x])⟩)::(100220,⟨.slice A352 l351.length c353,9,1,l351.length,l351.flatMap (fun x : ByteArray=>[Value.string x])⟩)::(100300,⟨.slice A358 l357.length c359,48,2,l357.length,l357.flatMap GFlush.enc⟩)::R,φ⟩ (fun W h=>(ok_front (t:=100030) (t':=1000) (ok_frontR (t:=100250) (t':=1000) h rfl) rfl)) Tryz.call31 rfl rfl (c_slices_DeleteFunc_31 l354 A355 c356 hc356 g2 p1 Ap1_0 cp1_0 hcp1_0 (fun W h=>fp1_0 W h) _ hx487) (fun ⟨A488,c489⟩ hc489=>?_)
   refine g_sta _ (fun W h=>(ok_frontR (t:=2000) (t':=100250) (ok_front (t:=1000) (t':=100030) h rfl) rfl))<|g_v rfl (r_field (n:=2) Tryz.underlying30 rfl Tryz.sizeOf27 rfl rfl)<|g_storeL (tag:=100070) rfl rfl rfl rfl Tryz.sizeOf27 rfl rfl<|g_nil<|d_then<|c_seq ?_
   refine c_cut (ι:=(List GAnchor)×Option Addr×Nat) [2,4,7] (fun ⟨l496,A497,c498⟩=>[]) (fun ⟨l496,A497,c498⟩=>⟨w0,M,(100070,g347,.cells #[.slice A349 l348.length c350,.slice A352 l351.length c353,.slice A497 l496.length c498,Vi p0.fEpoch,.slice A358 l357.length c359] 30 (0,0))::(100040,g3,.cells #[V0,V0,V0,Vi 0,V0] 30 (0,0))::(100020,g1,.cells #[.slice Ap0_0 p0.fRing.length cp0_0,.slice Ap0_1 p0.fHints.length cp0_1,.slice Ap0_2 p0.fAnchors.length cp0_2,Vi p0.fEpoch,.slice Ap0_3 p0.fFlushes.length cp0_3] 30 (0,0))::H,(100250,⟨.slice A497 l496.length c498,55,2,l496.length,l496.flatMap GAnchor.enc⟩)::(100190,⟨.slice A349 l348.length c350,3,1,l348.length,l348.flatMap (fun x : Int=>[Value.int .i64 x])⟩)::(100220,⟨.slice A352 l351.length c353,9,1,l351.length,l351.flatMap (fun x : ByteArray=>[Value.string x])⟩)::(100300,⟨.slice A358 l357.length c359,48,2,l357.length,l357.flatMap GFlush.enc⟩)::R,φ⟩) (fun ⟨l496,A497,c498⟩=>m_conf_Apply_j3 p0 l348 l357 l351 l496 = some r∧l496.length ≤ c498) ?_ (fun ⟨l496,A497,c498⟩ u ⟨hm,hc498⟩=>?_)
   ·
    refine c_seq<|c_region<|g_v rfl (r_field (n:=3) Tryz.underlying32 rfl Tryz.sizeOf9 rfl rfl)<|g_v rfl (r_load (tag:=100030) rfl rfl rfl Tryz.isAgg9)<|g_v rfl (r_neqT rfl rfl)<|g_nil<|d_then ?_
    refine c_flat [(2,Vp g1),(3,Vp g2),(4,Vp g3),(7,Vp g347),(81,.bool (!(decide (p1.fText = eB))))] ⟨rfl,rfl,rfl,rfl,rfl,trivial⟩ (fun u=>?_)
    refine c_sta ⟨w0,M,(100030,g2,.cells #[Vi p1.fKind,Vi p1.fNode,Vs p1.fName,Vs p1.fText,Vs p1.fZone,.slice Ap1_0 p1.fHints.length cp1_0] 32 (0,0))::(100070,g347,.cells #[.slice A349 l348.length c350,.slice A352 l351.length c353,.slice A488 x486.length c489,Vi p0.fEpoch,.slice A358 l357.length c359] 30 (0,0))::(100040,g3,.cells #[V0,V0,V0,Vi 0,V0] 30 (0,0))::(100020,g1,.cells #[.slice Ap0_0 p0.fRing.length cp0_0,.slice Ap0_1 p0.fHints.length cp0_1,.slice Ap0_2 p0.fAnchors.length cp0_2,Vi p0.fEpoch,.slice Ap0_3 p0.fFlushes.length cp0_3] 30 (0,0))::H,(100250,⟨.slice A488 x486.length c489,55,2,x486.length,x486.flatMap GAnchor.enc⟩)::(100190,⟨.slice A349 l348.length c350,3,1,l348.length,l348.flatMap (fun x : Int=>[Value.int .i64 x])⟩)::(100220,⟨.slice A352 l351.length c353,9,1,l351.length,l351.flatMap (fun x : ByteArray=>[Value.string x])⟩)::(100300,⟨.slice A358 l357.length c359,48,2,l357.length,l357.flatMap GFlush.enc⟩)::R,φ⟩ (fun _ h=>h) ?_
    refine c_cond rfl (fun h505=>?_) (fun h505=>?_)
    ·
     have h505' : (decide (p1.fText = eB)) = false:=by revert h505; cases (decide (p1.fText = eB)) <;> simp
     replace hm:=ite_f hm (of_decide_eq_false h505')
     refine c_region<|g_v rfl (r_field (n:=2) Tryz.underlying30 rfl Tryz.sizeOf27 rfl rfl)<|g_v rfl (r_load (tag:=100070) rfl rfl rfl Tryz.isAgg27)<|g_v rfl (r_field (n:=2) Tryz.underlying32 rfl Tryz.sizeOf9 rfl rfl)<|g_v rfl (r_load (tag:=100030) rfl rfl rfl Tryz.isAgg9)<|g_v rfl (r_field (n:=3) Tryz.underlying32 rfl Tryz.sizeOf9 rfl rfl)<|g_v rfl (r_load (tag:=100030) rfl rfl rfl Tryz.isAgg9)<|g_v rfl (r_build _ rfl (bld55_19 _ _)) ?_
     refine g_e rfl (e_lit (tag:=100890) (l:=[(⟨p1.fName,p1.fText⟩ : GAnchor)]) (enc:=GAnchor.enc) (sz:=2) rfl Tryz.underlying27 (lit55_20 _ _) rfl rfl (fun _=>rfl)) (fun g506 _=>?_)
     replace hm:=bnd hm
     obtain ⟨l507,hl507,hm⟩:=hm
     refine g_e rfl (e_appR (enc:=GAnchor.enc) (l:=x486) (l1:=[(⟨p1.fName,p1.fText⟩ : GAnchor)]) (l2:=l507) (tag:=100250) Tryz.underlying27 inf55_14 rfl (by decide) (by decide) (fun _=>rfl) (fun _=>rfl) rfl hc489 rfl rfl (fun W hS=>rowCl (tag:=100890) rfl W hS) hl507) (fun ⟨A508,c509⟩ hc509=>?_)
     refine g_v rfl (r_field (n:=2) Tryz.underlying30 rfl Tryz.sizeOf27 rfl rfl)<|g_storeL (tag:=100070) rfl rfl rfl rfl Tryz.sizeOf27 rfl rfl<|g_nil ?_
     exact d_round (l507,A508,c509) ⟨hm,hc509⟩ Nat.zero_lt_one ⟨rfl,rfl,rfl,trivial⟩ (fun W h=>((h.dropR (t:=100890) rfl).dropH (t:=100030) rfl).phi (fun W hφ=>hφ))
    have h505' : (decide (p1.fText = eB)) = true:=by revert h505; cases (decide (p1.fText = eB)) <;> simp
    replace hm:=ite_t hm (of_decide_eq_true h505')
    refine c_skip ?_
    exact d_round (x486,A488,c489) ⟨hm,hc489⟩ Nat.zero_lt_one ⟨rfl,rfl,rfl,trivial⟩ (fun W h=>(h.dropH (t:=100030) rfl).phi (fun W hφ=>hφ))
   unfold m_conf_Apply_j3 at hm
   refine d_flat [(2,Vp g1),(4,Vp g3),(7,Vp g347)] ⟨rfl,rfl,rfl,trivial⟩ (fun u=>?_)
   refine d_sta ⟨w0,M,(100070,g347,.cells #[.slice A349 l348.length c350,.slice A352 l351.length c353,.slice A497 l496.length c498,Vi p0.fEpoch,.slice A358 l357.length c359] 30 (0,0))::(100040,g3,.cells #[V0,V0,V0,Vi 0,V0] 30 (0,0))::(100020,g1,.cells #[.slice Ap0_0 p0.fRing.length cp0_0,.slice Ap0_1 p0.fHints.length cp0_1,.slice Ap0_2 p0.fAnchors.length cp0_2,Vi p0.fEpoch,.slice Ap0_3 p0.fFlushes.length cp0_3] 30 (0,0))::H,(100250,⟨.slice A497 l496.length c498,55,2,l496.length,l496.flatMap GAnchor.enc⟩)::(100190,⟨.slice A349 l348.length c350,3,1,l348.length,l348.flatMap (fun x : Int=>[Value.int .i64 x])⟩)::(100220,⟨.slice A352 l351.length c353,9,1,l351.length,l351.flatMap (fun x : ByteArray=>[Value.string x])⟩)::(100300,⟨.slice A358 l357.length c359,48,2,l357.length,l357.flatMap GFlush.enc⟩)::R,φ⟩ (fun _ h=>h)<|d_then<|c_seq<|c_seq<|c_region<|g_v rfl (r_field (n:=2) Tryz.underlying30 rfl Tryz.sizeOf27 rfl rfl)<|g_v rfl (r_load (tag:=100070) rfl rfl rfl Tryz.isAgg27)<|g_v rfl (r_lenL Tryz.underlying27 rfl)<|g_v rfl (r_gtr rfl rfl)<|g_nil ?_
   refine d_then ?_
   refine c_cond rfl (fun h499=>?_) (fun h499=>?_)
   ·
    replace hm:=ite_t hm (of_decide_eq_true h499)
    refine c_seq<|c_region<|g_v rfl (r_loadA (tag:=100020) rfl rfl Tryz.isAgg30 Tryz.sizeOf30 rfl rfl)<|g_storeL (tag:=100040) rfl rfl rfl rfl Tryz.sizeOf30 rfl rfl<|g_v rfl r_assign<|g_nil<|d_then<|c_ret<|d_ret_then<|d_ret_block ?_
    refine d_ret_then<|d_ret_then ?_
    cases hm
    exact d_retC (Ap0_0,cp0_0,Ap0_1,cp0_1,Ap0_2,cp0_2,Ap0_3,cp0_3) Tryz.results10 (res_agg (tag:=100040) rfl rfl Tryz.isAgg30 Tryz.sizeOf30 (res_tmp (res_nil rfl))) ⟨hcp0_0,hcp0_1,hcp0_2,hcp0_3⟩ (fun W h=>ok_pre (H1:=[_,_,_]) (R1:=[_,_,_,_]) h (fun W hφ=>⟨hφ,(fun W h=>fp0_0 W h) W hφ,(fun W h=>fp0_1 W h) W hφ,(fun W h=>fp0_2 W h) W hφ,(fun W h=>fp0_3 W h) W hφ⟩)) (.inr rfl)
   replace hm:=ite_f hm (of_decide_eq_false h499)
   refine c_skip<|d_then<|c_region<|g_v rfl (r_field (n:=2) Tryz.underlying30 rfl Tryz.sizeOf27 rfl rfl)<|g_v rfl (r_load (tag:=100070) rfl rfl rfl Tryz.isAgg27) ?_
   replace hm:=bnd hm
   obtain ⟨x500,hx501,hm⟩:=hm
   refine g_cn ⟨w0,M,(100070,g347,.cells #[.slice A349 l348.length c350,.slice A352 l351.length c353,.slice A497 l496.length c498,Vi p0.fEpoch,.slice A358 l357.length c359] 30 (0,0))::(100040,g3,.cells #[V0,V0,V0,Vi 0,V0] 30 (0,0))::(100020,g1,.cells #[.slice Ap0_0 p0.fRing.length cp0_0,.slice Ap0_1 p0.fHints.length cp0_1,.slice Ap0_2 p0.fAnchors.length cp0_2,Vi p0.fEpoch,.slice Ap0_3 p0.fFlushes.length cp0_3] 30 (0,0))::H,(1000,⟨.slice A497 l496.length c498,55,2,l496.length,l496.flatMap GAnchor.enc⟩)::(100190,⟨.slice A349 l348.length c350,3,1,l348.length,l348.flatMap (fun x : Int=>[Value.int .i64 x])⟩)::(100220,⟨.slice A352 l351.length c353,9,1,l351.length,l351.flatMap (fun x : ByteArray=>[Value.string x])⟩)::(100300,⟨.slice A358 l357.length c359,48,2,l357.length,l357.flatMap GFlush.enc⟩)::R,φ⟩ (fun W h=>(ok_frontR (t:=100250) (t':=1000) h rfl)) Tryz.call34 rfl rfl (c_slices_SortFunc_34 l496 A497 c498 hc498 _ hx501) (fun _ hp502=>?_)
   refine g_sta _ (fun W h=>(ok_frontR (t:=1000) (t':=100250) h rfl)) ?_
   rw [show l496.length = x500.length from hp502.symm]
   refine g_nil<|d_normal_block ?_
   refine d_shut (tag:=100220) rfl (fun φ503 q503'=>?_)
   have q503 : ∀ W,φ503 W→φ W:=fun W h=>(q503' W h).1
   have f504:=fun (W : World) (h : φ503 W)=>(q503' W h).2
   exact d_round (l348,x500,l357,l351,p0.fEpoch,A349,c350,A497,c498,A358,c359,A352,c353) ⟨hm,hc350,(Nat.le_trans (Nat.le_of_eq hp502) hc498),hc359,hc353⟩ Nat.zero_lt_one ⟨rfl,rfl,trivial⟩ (fun W h=>(ok_frontR (t:=100190) (t':=100190) (ok_frontR (t:=100250) (t':=100250) (ok_frontR (t:=100300) (t':=100300) (h.dropH (t:=100020) rfl) rfl) rfl) rfl).phi (fun W hφ=>⟨(q503 _ hφ),(fun W h=>f504 W h) W hφ⟩))
  replace hm:=ite_f hm (of_decide_eq_false h485)
  refine c_seq<|c_region<|g_v rfl (r_eql rfl rfl)<|g_v rfl r_assign<|g_nil<|d_then ?_
  refine c_cond rfl (fun h510=>?_) (fun h510=>?_)
  ·
   replace hm:=ite_t hm (of_decide_eq_true h510)
   refine c_seq<|c_seq<|c_region<|g_v rfl (r_field (n:=3) Tryz.underlying30 rfl Tryz.sizeOf3 rfl rfl)<|g_v rfl (r_load (tag:=100070) rfl rfl rfl Tryz.isAgg3)<|g_v rfl (r_geq rfl rfl)<|g_nil<|d_then ?_
   refine c_cond rfl (fun h511=>?_) (fun h511=>?_)
   ·
    replace hm:=ite_t hm (of_decide_eq_true h511)
    refine c_seq<|c_region<|g_v rfl (r_loadA (tag:=100020) rfl rfl Tryz.isAgg30 Tryz.sizeOf30 rfl rfl)<|g_storeL (tag:=100040) rfl rfl rfl rfl Tryz.sizeOf30 rfl rfl<|g_v rfl r_assign<|g_nil<|d_then<|c_ret<|d_ret_then<|d_ret_block ?_
    refine d_ret_then<|d_ret_then ?_
    cases hm
    exact d_retC (Ap0_0,cp0_0,Ap0_1,cp0_1,Ap0_2,cp0_2,Ap0_3,cp0_3) Tryz.results10 (res_agg (tag:=100040) rfl rfl Tryz.isAgg30 Tryz.sizeOf30 (res_tmp (res_nil rfl))) ⟨hcp0_0,hcp0_1,hcp0_2,hcp0_3⟩ (fun W h=>ok_pre (H1:=[_,_,_,_]) (R1:=[_,_,_,_]) h (fun W hφ=>⟨hφ,(fun W h=>fp0_0 W h) W hφ,(fun W h=>fp0_1 W h) W hφ,(fun W h=>fp0_2 W h) W hφ,(fun W h=>fp0_3 W h) W hφ⟩)) (.inr rfl)
   replace hm:=ite_f hm (of_decide_eq_false h511)
   refine c_skip<|d_then<|c_seq<|c_region<|g_v rfl (r_field (n:=3) Tryz.underlying30 rfl Tryz.sizeOf3 rfl rfl)<|g_v rfl (r_load (tag:=100070) rfl rfl rfl Tryz.isAgg3)<|g_v rfl (r_add rfl rfl rfl)<|g_v rfl (r_field (n:=3) Tryz.underlying30 rfl Tryz.sizeOf3 rfl rfl)<|g_storeL (tag:=100070) rfl rfl rfl rfl Tryz.sizeOf3 rfl rfl<|g_nil ?_
   refine d_then ?_
   refine c_flat [(3,Vp g2),(4,Vp g3),(7,Vp g347)] ⟨rfl,rfl,rfl,trivial⟩ (fun u=>?_)
   refine c_sta ⟨w0,M,(100070,g347,.cells #[.slice A349 l348.length c350,.slice A352 l351.length c353,.slice A355 l354.length c356,Vi (w64 (p0.fEpoch + 1)),.slice A358 l357.length c359] 30 (0,0))::(100040,g3,.cells #[V0,V0,V0,Vi 0,V0] 30 (0,0))::(100030,g2,.cells #[Vi p1.fKind,Vi p1.fNode,Vs p1.fName,Vs p1.fText,Vs p1.fZone,.slice Ap1_0 p1.fHints.length cp1_0] 32 (0,0))::(100020,g1,.cells #[.slice Ap0_0 p0.fRing.length cp0_0,.slice Ap0_1 p0.fHints.length cp0_1,.slice Ap0_2 p0.fAnchors.length cp0_2,Vi p0.fEpoch,.slice Ap0_3 p0.fFlushes.length cp0_3] 30 (0,0))::H,(100190,⟨.slice A349 l348.length c350,3,1,l348.length,l348.flatMap (fun x : Int=>[Value.int .i64 x])⟩)::(100220,⟨.slice A352 l351.length c353,9,1,l351.length,l351.flatMap (fun x : ByteArray=>[Value.string x])⟩)::(100250,⟨.slice A355 l354.length c356,55,2,l354.length,l354.flatMap GAnchor.enc⟩)::(100300,⟨.slice A358 l357.length c359,48,2,l357.length,l357.flatMap GFlush.enc⟩)::R,φ⟩ (fun _ h=>h)<|c_seq<|c_region<|g_v rfl (r_field (n:=4) Tryz.underlying32 rfl Tryz.sizeOf9 rfl rfl)<|g_v rfl (r_load (tag:=100030) rfl rfl rfl Tryz.isAgg9) ?_
   replace hm:=bnd hm
   obtain ⟨x512,hx513,hm⟩:=hm
   refine g_cn ⟨w0,M,_,_,φ⟩ (fun _ h=>h) Tryz.call37 rfl rfl (c_name_Lower p1.fZone _ hx513) (fun _ _=>?_)
   refine g_e rfl (e_alloc 100100 Tryz.zeroValue9) (fun g514 _=>?_)
   refine g_storeL (tag:=100100) rfl rfl rfl rfl Tryz.sizeOf9 rfl rfl<|g_nil<|d_then<|c_seq<|c_region<|g_v rfl (r_field (n:=4) Tryz.underlying30 rfl Tryz.sizeOf28 rfl rfl)<|g_v rfl (r_load (tag:=100070) rfl rfl rfl Tryz.isAgg28)<|g_v rfl (r_mkf rfl) ?_
   replace hm:=bnd hm
   obtain ⟨x515,hx516,hm⟩:=hm
   refine g_cn ⟨w0,M,(1000,g514,.cells #[Vs x512] 9 (0,0))::(100070,g347,.cells #[.slice A349 l348.length c350,.slice A352 l351.length c353,.slice A355 l354.length c356,Vi (w64 (p0.fEpoch + 1)),.slice A358 l357.length c359] 30 (0,0))::(100040,g3,.cells #[V0,V0,V0,Vi 0,V0] 30 (0,0))::(100030,g2,.cells #[Vi p1.fKind,Vi p1.fNode,Vs p1.fName,Vs p1.fText,Vs p1.fZone,.slice Ap1_0 p1.fHints.length cp1_0] 32 (0,0))::(100020,g1,.cells #[.slice Ap0_0 p0.fRing.length cp0_0,.slice Ap0_1 p0.fHints.length cp0_1,.slice Ap0_2 p0.fAnchors.length cp0_2,Vi p0.fEpoch,.slice Ap0_3 p0.fFlushes.length cp0_3] 30 (0,0))::H,(1000,⟨.slice A358 l357.length c359,48,2,l357.length,l357.flatMap GFlush.enc⟩)::(100190,⟨.slice A349 l348.length c350,3,1,l348.length,l348.flatMap (fun x : Int=>[Value.int .i64 x])⟩)::(100220,⟨.slice A352 l351.length c353,9,1,l351.length,l351.flatMap (fun x : ByteArray=>[Value.string x])⟩)::(100250,⟨.slice A355 l354.length c356,55,2,l354.length,l354.flatMap GAnchor.enc⟩)::R,φ⟩ (fun W h=>(ok_front (t:=100100) (t':=1000) (ok_frontR (t:=100300) (t':=1000) h rfl) rfl)) Tryz.call38 rfl rfl (c_slices_DeleteFunc_38 l357 A358 c359 hc359 g514 x512 _ hx516) (fun ⟨A517,c518⟩ hc518=>?_)
   refine g_sta _ (fun W h=>(ok_frontR (t:=2000) (t':=100300) (ok_front (t:=1000) (t':=100100) h rfl) rfl))<|g_v rfl (r_field (n:=4) Tryz.underlying30 rfl Tryz.sizeOf28 rfl rfl)<|g_storeL (tag:=100070) rfl rfl rfl rfl Tryz.sizeOf28 rfl rfl<|g_nil<|d_then ?_
   refine c_flat [(4,Vp g3),(7,Vp g347),(10,Vp g514)] ⟨rfl,rfl,rfl,trivial⟩ (fun u=>?_)
   refine c_sta ⟨w0,M,(100100,g514,.cells #[Vs x512] 9 (0,0))::(100070,g347,.cells #[.slice A349 l348.length c350,.slice A352 l351.length c353,.slice A355 l354.length c356,Vi (w64 (p0.fEpoch + 1)),.slice A517 x515.length c518] 30 (0,0))::(100040,g3,.cells #[V0,V0,V0,Vi 0,V0] 30 (0,0))::(100030,g2,.cells #[Vi p1.fKind,Vi p1.fNode,Vs p1.fName,Vs p1.fText,Vs p1.fZone,.slice Ap1_0 p1.fHints.length cp1_0] 32 (0,0))::(100020,g1,.cells #[.slice Ap0_0 p0.fRing.length cp0_0,.slice Ap0_1 p0.fHints.length cp0_1,.slice Ap0_2 p0.fAnchors.length cp0_2,Vi p0.fEpoch,.slice Ap0_3 p0.fFlushes.length cp0_3] 30 (0,0))::H,(100300,⟨.slice A517 x515.length c518,48,2,x515.length,x515.flatMap GFlush.enc⟩)::(100190,⟨.slice A349 l348.length c350,3,1,l348.length,l348.flatMap (fun x : Int=>[Value.int .i64 x])⟩)::(100220,⟨.slice A352 l351.length c353,9,1,l351.length,l351.flatMap (fun x : ByteArray=>[Value.string x])⟩)::(100250,⟨.slice A355 l354.length c356,55,2,l354.length,l354.flatMap GAnchor.enc⟩)::R,φ⟩ (fun _ h=>h)<|c_seq ?_
   refine c_cut (ι:=(List GFlush)×ByteArray×Int×Option Addr×Nat) [4,7,10] (fun ⟨l521,s524,i525,A522,c523⟩=>[]) (fun ⟨l521,s524,i525,A522,c523⟩=>⟨w0,M,(100100,g514,.cells #[Vs s524] 9 (0,0))::(100070,g347,.cells #[.slice A349 l348.length c350,.slice A352 l351.length c353,.slice A355 l354.length c356,Vi i525,.slice A522 l521.length c523] 30 (0,0))::(100040,g3,.cells #[V0,V0,V0,Vi 0,V0] 30 (0,0))::H,(100300,⟨.slice A522 l521.length c523,48,2,l521.length,l521.flatMap GFlush.enc⟩)::(100190,⟨.slice A349 l348.length c350,3,1,l348.length,l348.flatMap (fun x : Int=>[Value.int .i64 x])⟩)::(100220,⟨.slice A352 l351.length c353,9,1,l351.length,l351.flatMap (fun x : ByteArray=>[Value.string x])⟩)::(100250,⟨.slice A355 l354.length c356,55,2,l354.length,l354.flatMap GAnchor.enc⟩)::R,φ⟩) (fun ⟨l521,s524,i525,A522,c523⟩=>m_conf_Apply_j4 l348 l354 l351 l521 s524 i525 = some r∧l521.length ≤ c523) ?_ (fun ⟨l521,s524,i525,A522,c523⟩ u ⟨hm,hc523⟩=>?_)
   ·
    refine c_seq<|c_region<|g_v rfl (r_field (n:=4) Tryz.underlying30 rfl Tryz.sizeOf28 rfl rfl)<|g_v rfl (r_load (tag:=100070) rfl rfl rfl Tryz.isAgg28)<|g_v rfl (r_lenL Tryz.underlying28 rfl)<|g_v rfl (r_geq rfl rfl)<|g_nil<|d_then ?_
    refine c_cond rfl (fun h532=>?_) (fun h532=>?_)
    ·
     replace hm:=ite_t hm (of_decide_eq_true h532)
     refine c_region<|g_v rfl (r_field (n:=4) Tryz.underlying30 rfl Tryz.sizeOf28 rfl rfl)<|g_storeL (tag:=100070) rfl rfl rfl rfl Tryz.sizeOf28 rfl rfl<|g_storeL (tag:=100100) rfl rfl rfl rfl Tryz.sizeOf9 rfl rfl<|g_nil<|d_sta _ (fun W h=>nilR (Sta.ok.dropR (t:=100300) h rfl) 100300 48 2) ?_
     exact d_round (([] : List GFlush),(⟨#[0]⟩ : ByteArray),w64 (p0.fEpoch + 1),none,0) ⟨hm,(Nat.le_refl 0)⟩ Nat.zero_lt_one ⟨rfl,rfl,rfl,trivial⟩ (fun W h=>((h.dropH (t:=100030) rfl).dropH (t:=100020) rfl).phi (fun W hφ=>hφ))
    replace hm:=ite_f hm (of_decide_eq_false h532)
    refine c_skip ?_
    exact d_round (x515,x512,w64 (p0.fEpoch + 1),A517,c518) ⟨hm,hc518⟩ Nat.zero_lt_one ⟨rfl,rfl,rfl,trivial⟩ (fun W h=>((h.dropH (t:=100030) rfl).dropH (t:=100020) rfl).phi (fun W hφ=>hφ))
   unfold m_conf_Apply_j4 at hm
   refine d_flat [(4,Vp g3),(7,Vp g347),(10,Vp g514)] ⟨rfl,rfl,rfl,trivial⟩ (fun u=>?_)
   refine d_sta ⟨w0,M,(100100,g514,.cells #[Vs s524] 9 (0,0))::(100070,g347,.cells #[.slice A349 l348.length c350,.slice A352 l351.length c353,.slice A355 l354.length c356,Vi i525,.slice A522 l521.length c523] 30 (0,0))::(100040,g3,.cells #[V0,V0,V0,Vi 0,V0] 30 (0,0))::H,(100300,⟨.slice A522 l521.length c523,48,2,l521.length,l521.flatMap GFlush.enc⟩)::(100190,⟨.slice A349 l348.length c350,3,1,l348.length,l348.flatMap (fun x : Int=>[Value.int .i64 x])⟩)::(100220,⟨.slice A352 l351.length c353,9,1,l351.length,l351.flatMap (fun x : ByteArray=>[Value.string x])⟩)::(100250,⟨.slice A355 l354.length c356,55,2,l354.length,l354.flatMap GAnchor.enc⟩)::R,φ⟩ (fun _ h=>h)<|d_then<|c_region<|g_v rfl (r_field (n:=4) Tryz.underlying30 rfl Tryz.sizeOf28 rfl rfl)<|g_v rfl (r_load (tag:=100070) rfl rfl rfl Tryz.isAgg28)<|g_v rfl (r_field (n:=3) Tryz.underlying30 rfl Tryz.sizeOf3 rfl rfl)<|g_v rfl (r_load (tag:=100070) rfl rfl rfl Tryz.isAgg3)<|g_v rfl (r_load (tag:=100100) rfl rfl rfl Tryz.isAgg9)<|g_v rfl (r_build _ rfl (bld48_21 _ _)) ?_
   refine g_e rfl (e_lit (tag:=101290) (l:=[(⟨i525,s524⟩ : GFlush)]) (enc:=GFlush.enc) (sz:=2) rfl Tryz.underlying28 (lit48_22 _ _) rfl rfl (fun _=>rfl)) (fun g526 _=>?_)
   replace hm:=bnd hm
   obtain ⟨l527,hl527,hm⟩:=hm
   refine g_e rfl (e_appR (enc:=GFlush.enc) (l:=l521) (l1:=[(⟨i525,s524⟩ : GFlush)]) (l2:=l527) (tag:=100300) Tryz.underlying28 inf48_16 rfl (by decide) (by decide) (fun _=>rfl) (fun _=>rfl) rfl hc523 rfl rfl (fun W hS=>rowCl (tag:=101290) rfl W hS) hl527) (fun ⟨A528,c529⟩ hc529=>?_)
   refine g_v rfl (r_field (n:=4) Tryz.underlying30 rfl Tryz.sizeOf28 rfl rfl)<|g_storeL (tag:=100070) rfl rfl rfl rfl Tryz.sizeOf28 rfl rfl<|g_nil<|d_normal_block ?_
   refine d_shut (tag:=100220) rfl (fun φ530 q530'=>?_)
   have q530 : ∀ W,φ530 W→φ W:=fun W h=>(q530' W h).1
   have f531:=fun (W : World) (h : φ530 W)=>(q530' W h).2
   exact d_round (l348,l354,l527,l351,i525,A349,c350,A355,c356,A528,c529,A352,c353) ⟨hm,hc350,hc356,hc529,hc353⟩ Nat.zero_lt_one ⟨rfl,rfl,trivial⟩ (fun W h=>(ok_frontR (t:=100190) (t':=100190) (ok_frontR (t:=100250) (t':=100250) (ok_frontR (t:=100300) (t':=100300) ((h.dropR (t:=101290) rfl).dropH (t:=100100) rfl) rfl) rfl) rfl).phi (fun W hφ=>⟨(q530 _ hφ),(fun W h=>f531 W h) W hφ⟩))
  replace hm:=ite_f hm (of_decide_eq_false h510)
  refine c_skip<|d_normal_block ?_
  refine d_shut (tag:=100220) rfl (fun φ533 q533'=>?_)
  have q533 : ∀ W,φ533 W→φ W:=fun W h=>(q533' W h).1
  have f534:=fun (W : World) (h : φ533 W)=>(q533' W h).2
  exact d_round (l348,l354,l357,l351,p0.fEpoch,A349,c350,A355,c356,A358,c359,A352,c353) ⟨hm,hc350,hc356,hc359,hc353⟩ Nat.zero_lt_one ⟨rfl,rfl,trivial⟩ (fun W h=>((h.dropH (t:=100030) rfl).dropH (t:=100020) rfl).phi (fun W hφ=>⟨(q533 _ hφ),(fun W h=>f534 W h) W hφ⟩))
 unfold m_conf_Apply_j2 at hm
 refine d_abs (fun φ451 q451'=>?_)
 have q451 : ∀ W,φ451 W→φ W:=fun W h=>(q451' W h).1
 have f449:=fun (W : World) (h : φ451 W)=>(q451' W h).2
 refine d_flat [(4,Vp g3),(7,Vp g347)] ⟨rfl,rfl,trivial⟩ (fun u=>?_)
 refine d_sta ⟨w0,M,(100070,g347,.cells #[.slice A438 l437.length c439,.slice A447 l446.length c448,.slice A441 l440.length c442,Vi i450,.slice A444 l443.length c445] 30 (0,0))::(100040,g3,.cells #[V0,V0,V0,Vi 0,V0] 30 (0,0))::H,(100190,⟨.slice A438 l437.length c439,3,1,l437.length,l437.flatMap (fun x : Int=>[Value.int .i64 x])⟩)::(100250,⟨.slice A441 l440.length c442,55,2,l440.length,l440.flatMap GAnchor.enc⟩)::(100300,⟨.slice A444 l443.length c445,48,2,l443.length,l443.flatMap GFlush.enc⟩)::R,φ451⟩ (fun _ h=>h)<|d_then<|c_seq<|c_region<|g_v rfl (r_loadA (tag:=100070) rfl rfl Tryz.isAgg30 Tryz.sizeOf30 rfl rfl)<|g_storeL (tag:=100040) rfl rfl rfl rfl Tryz.sizeOf30 rfl rfl<|g_v rfl r_assign<|g_nil<|d_then<|c_ret ?_
 cases hm
 refine d_shut (tag:=100190) rfl (fun φ452 q452'=>?_)
 have q452 : ∀ W,φ452 W→φ451 W:=fun W h=>(q452' W h).1
 have f453:=fun (W : World) (h : φ452 W)=>(q452' W h).2
 refine d_shut (tag:=100250) rfl (fun φ454 q454'=>?_)
 have q454 : ∀ W,φ454 W→φ452 W:=fun W h=>(q454' W h).1
 have f455:=fun (W : World) (h : φ454 W)=>(q454' W h).2
 refine d_shut (tag:=100300) rfl (fun φ456 q456'=>?_)
 have q456 : ∀ W,φ456 W→φ454 W:=fun W h=>(q456' W h).1
 have f457:=fun (W : World) (h : φ456 W)=>(q456' W h).2
 exact d_retC (A438,c439,A447,c448,A441,c442,A444,c445) Tryz.results10 (res_agg (tag:=100040) rfl rfl Tryz.isAgg30 Tryz.sizeOf30 (res_tmp (res_nil rfl))) ⟨hc439,hc448,hc442,hc445⟩ (fun W h=>ok_pre (H1:=[_,_]) (R1:=[]) h (fun W hφ=>⟨(q451 _ (q452 _ (q454 _ (q456 _ hφ)))),(fun W h=>f453 W (q454 _ (q456 _ h))) W hφ,(fun W h=>f449 W (q452 _ (q454 _ (q456 _ h)))) W hφ,(fun W h=>f455 W (q456 _ h)) W hφ,(fun W h=>f457 W h) W hφ⟩)) (.inr rfl)
noncomputable def m_conf_Floor_j1  (i27 : Int) : Option Int:=
  some i27
noncomputable def m_conf_Floor_s2 (p0 : GConf) (p1 : ByteArray) (i39 : Int) (i40 : Int) : Option ((Int×Int) ⊕ Int):=
  if i40 < (p0.fFlushes.length : Int) then
    (at_ p0.fFlushes i40).bind fun x54=>
    (m_name_Under p1 x54.fZone).bind fun x59=>
    if x59 = true then
      some (.inl ((max i39 x54.fEpoch),w64 (i40 + 1)))
    else
      some (.inl (i39,w64 (i40 + 1)))
  else
    some (.inr i39)
noncomputable def m_conf_Floor (p0 : GConf) (p1 : ByteArray) : Option Int:=
  (loop (fun s=>m_conf_Floor_s2 p0 p1 s.1 s.2) (0,0)).bind fun e=>m_conf_Floor_j1 e
theorem c_conf_Floor {w0 : World} {M : Nat→Prop} {H : List (Nat×Nat×Obj)} {R : List (Nat×Row)} {φ : World→Prop} (p0 : GConf) (Ap0_0 : Option Addr) (cp0_0 : Nat) (hcp0_0 : p0.fRing.length ≤ cp0_0) (fp0_0 : ∀ W,(Sta.mk w0 M H R φ).ok W→Cl W Ap0_0 (p0.fRing.flatMap (fun x : Int=>[Value.int .i64 x]))) (Ap0_1 : Option Addr) (cp0_1 : Nat) (hcp0_1 : p0.fHints.length ≤ cp0_1) (fp0_1 : ∀ W,(Sta.mk w0 M H R φ).ok W→Cl W Ap0_1 (p0.fHints.flatMap (fun x : ByteArray=>[Value.string x]))) (Ap0_2 : Option Addr) (cp0_2 : Nat) (hcp0_2 : p0.fAnchors.length ≤ cp0_2) (fp0_2 : ∀ W,(Sta.mk w0 M H R φ).ok W→Cl W Ap0_2 (p0.fAnchors.flatMap GAnchor.enc)) (Ap0_3 : Option Addr) (cp0_3 : Nat) (hcp0_3 : p0.fFlushes.length ≤ cp0_3) (fp0_3 : ∀ W,(Sta.mk w0 M H R φ).ok W→Cl W Ap0_3 (p0.fFlushes.flatMap GFlush.enc)) (p1 : ByteArray) (r : Int) (hm : m_conf_Floor p0 p1 = some r) :
    Cn Tryz.prog 9 #[.agg #[.slice Ap0_0 p0.fRing.length cp0_0,.slice Ap0_1 p0.fHints.length cp0_1,.slice Ap0_2 p0.fAnchors.length cp0_2,Vi p0.fEpoch,.slice Ap0_3 p0.fFlushes.length cp0_3],Vs p1] ⟨w0,M,H,R,φ⟩ (fun x : Unit=>Vi r) (fun x=>True) (fun x=>⟨w0,M,H,R,φ⟩):=by
 unfold m_conf_Floor at hm
 refine cn_intro (fn:=Tryz.f9) (N:=25) Tryz.func9 rfl Tryz.ntmps9 rfl<|c_seq<|c_region ?_
 refine g_e rfl (e_box 100020 rfl) (fun g1 _=>?_)
 refine g_v rfl r_assign<|g_nil<|d_then<|c_seq<|c_region<|g_v rfl r_assign<|g_nil<|d_then<|c_seq<|c_seq ?_
 refine c_region<|g_v rfl (r_field (n:=4) Tryz.underlying30 rfl Tryz.sizeOf28 rfl rfl)<|g_v rfl (r_load (tag:=100020) rfl rfl rfl Tryz.isAgg28)<|g_v rfl (r_lenL Tryz.underlying28 rfl)<|g_v rfl r_move<|g_nil<|d_then ?_
 refine c_cut (ι:=Int) [5] (fun i27=>[(5,Vi i27)]) (fun i27=>⟨w0,M,H,R,φ⟩) (fun i27=>m_conf_Floor_j1 i27 = some r) ?_ (fun i27 u hm=>?_)
 ·
  refine c_block ?_
  replace hm:=bnd hm
  obtain ⟨out2,hl2,hr2⟩:=hm
  obtain ⟨n52',hl2⟩:=loop_lp hl2
  refine c_loopU (ι:=Nat×Int×Int) [1,5,9,10,11] (fun ⟨n52,i39,i40⟩=>[(5,Vi i39),(11,Vi i40)]) (fun ⟨n52,i39,i40⟩=>⟨w0,M,H,R,φ⟩) (fun ⟨n52,i39,i40⟩=>Lp (fun s=>m_conf_Floor_s2 p0 p1 s.1 s.2) n52 (i39,i40) out2) (fun ⟨n52,i39,i40⟩=>n52) (n52',0,0) hl2 ⟨rfl,rfl,rfl,rfl,rfl,trivial⟩ (fun W h=>(h.dropH (t:=100020) rfl).phi (fun W hφ=>hφ)) (fun ⟨n52,i39,i40⟩ u hlp=>?_)
  obtain ⟨o2,hm,hnx2⟩:=lp_step hlp
  clear hlp
  replace hm : m_conf_Floor_s2 p0 p1 i39 i40 = some o2:=hm
  unfold m_conf_Floor_s2 at hm
  refine c_flat [(1,Vs p1),(5,Vi i39),(9,.slice Ap0_3 p0.fFlushes.length cp0_3),(10,Vi (p0.fFlushes.length : Int)),(11,Vi i40)] ⟨rfl,rfl,rfl,rfl,rfl,trivial⟩ (fun u=>?_)
  refine c_sta ⟨w0,M,H,R,φ⟩ (fun _ h=>h)<|c_seq<|c_region<|g_v rfl (r_lss rfl rfl)<|g_nil<|d_then<|c_seq ?_
  refine c_cond rfl (fun h53=>?_) (fun h53=>?_)
  ·
   replace hm:=ite_t hm (of_decide_eq_true h53)
   refine c_skip<|d_then<|c_seq<|c_block<|c_seq<|c_region ?_
   replace hm:=bnd hm
   obtain ⟨x54,hx54,hm⟩:=hm
   refine g_know _ (fun W hS=>cl_at (p:=(Sta.mk w0 M H R φ).ok) (sz:=2) (fun _=>rfl) (by decide) (ok_pre (H1:=[]) (R1:=[]) hS (fun W h=>h)) fp0_3 hx54) ?_
   rintro ⟨ad55,hA57,f56⟩
   refine g_v rfl (r_ix Tryz.underlying28 Tryz.sizeOf48 rfl hA57 rfl hx54)<|g_v rfl (r_ldA rfl Tryz.isAgg48 Tryz.sizeOf48 (fun W hS=>(f56 W (ok_pre (H1:=[]) (R1:=[]) hS (fun W h=>h))).take 2) rfl) ?_
   refine g_e rfl (e_alloc 100070 Tryz.zeroValue48) (fun g58 _=>?_)
   refine g_storeL (tag:=100070) rfl rfl rfl rfl Tryz.sizeOf48 rfl rfl<|g_nil<|d_then<|c_seq<|c_region<|g_v rfl r_move<|g_v rfl (r_field (n:=1) Tryz.underlying48 rfl Tryz.sizeOf9 rfl rfl)<|g_v rfl (r_load (tag:=100070) rfl rfl rfl Tryz.isAgg9) ?_
   replace hm:=bnd hm
   obtain ⟨x59,hx60,hm⟩:=hm
   refine g_cn ⟨w0,M,_,_,φ⟩ (fun _ h=>h) Tryz.call22 rfl rfl (c_name_Under p1 x54.fZone _ hx60) (fun _ _=>?_)
   refine g_nil<|d_then ?_
   refine c_flat [(1,Vs p1),(5,Vi i39),(7,Vp g58),(9,.slice Ap0_3 p0.fFlushes.length cp0_3),(10,Vi (p0.fFlushes.length : Int)),(11,Vi i40),(18,.bool x59)] ⟨rfl,rfl,rfl,rfl,rfl,rfl,rfl,trivial⟩ (fun u=>?_)
   refine c_sta ⟨w0,M,(100070,g58,.cells #[Vi x54.fEpoch,Vs x54.fZone] 48 (0,0))::H,R,φ⟩ (fun _ h=>h) ?_
   refine c_cond rfl (fun h61=>?_) (fun h61=>?_)
   ·
    replace hm:=ite_t hm h61
    refine c_region<|g_v rfl r_move<|g_v rfl (r_field (n:=0) Tryz.underlying48 rfl Tryz.sizeOf3 rfl rfl)<|g_v rfl (r_load (tag:=100070) rfl rfl rfl Tryz.isAgg3)<|g_v rfl (r_max rfl rfl)<|g_v rfl r_assign<|g_nil<|d_normal_block<|d_then<|c_region ?_
    refine g_v rfl (r_add rfl rfl rfl)<|g_v rfl r_move<|g_nil ?_
    obtain ⟨n62,hn62,hlp⟩:=nx_inl hm hnx2
    exact d_round (n62,(max i39 x54.fEpoch),w64 (i40 + 1)) hlp hn62 ⟨rfl,rfl,rfl,rfl,rfl,trivial⟩ (fun W h=>(h.dropH (t:=100070) rfl).phi (fun W hφ=>hφ))
   replace hm:=ite_f hm (bool_nt h61)
   refine c_skip<|d_normal_block<|d_then<|c_region<|g_v rfl (r_add rfl rfl rfl)<|g_v rfl r_move<|g_nil ?_
   obtain ⟨n63,hn63,hlp⟩:=nx_inl hm hnx2
   exact d_round (n63,i39,w64 (i40 + 1)) hlp hn63 ⟨rfl,rfl,rfl,rfl,rfl,trivial⟩ (fun W h=>(h.dropH (t:=100070) rfl).phi (fun W hφ=>hφ))
  replace hm:=ite_f hm (of_decide_eq_false h53)
  refine c_exit<|d_exit_then<|d_exit_then<|d_exit_block ?_
  replace hm:=nx_out (C:=(fun e : Int=>m_conf_Floor_j1 e = some r)) hm hnx2 hr2
  exact d_round i39 hm Nat.zero_lt_one ⟨rfl,trivial⟩ (fun W h=>h.phi (fun W hφ=>hφ))
 unfold m_conf_Floor_j1 at hm
 refine d_flat [(5,Vi i27)] ⟨rfl,trivial⟩ (fun u=>?_)
 refine d_sta ⟨w0,M,H,R,φ⟩ (fun _ h=>h)<|d_then<|c_seq<|c_region<|g_v rfl r_move<|g_v rfl r_assign<|g_nil<|d_then<|c_ret ?_
 cases hm
 exact d_retC () Tryz.results9 (res_tmp (res_nil rfl)) trivial (fun W h=>ok_pre (H1:=[]) (R1:=[]) h (fun W hφ=>hφ)) (.inr rfl)
noncomputable def m_law13_awake  : Option Bool:=
  (m_conf_Bytes (⟨1,3,(⟨#[]⟩ : ByteArray),(⟨#[]⟩ : ByteArray),(⟨#[]⟩ : ByteArray),([] : List ByteArray)⟩ : GOrder)).bind fun (z4 : ByteArray×Int)=>
  (m_conf_Bytes (⟨5,0,(⟨#[]⟩ : ByteArray),(⟨#[]⟩ : ByteArray),(⟨#[1,97,0]⟩ : ByteArray),([] : List ByteArray)⟩ : GOrder)).bind fun (z8 : ByteArray×Int)=>
  (m_conf_Apply (⟨([] : List Int),([] : List ByteArray),([] : List GAnchor),0,([] : List GFlush)⟩ : GConf) (⟨5,0,(⟨#[]⟩ : ByteArray),(⟨#[]⟩ : ByteArray),(⟨#[1,97,0]⟩ : ByteArray),([] : List ByteArray)⟩ : GOrder)).bind fun (z25 : GConf×Int)=>
  (m_conf_Apply z25.1 (⟨5,0,(⟨#[]⟩ : ByteArray),(⟨#[]⟩ : ByteArray),(⟨#[0]⟩ : ByteArray),([] : List ByteArray)⟩ : GOrder)).bind fun (z43 : GConf×Int)=>
  if z4.1 = (⟨#[1,3]⟩ : ByteArray) then
    if z4.2 = 0 then
      if z8.1 = (⟨#[5,1,97,0]⟩ : ByteArray) then
        if z8.2 = 0 then
          if z25.2 = 0 then
            if z43.2 = 0 then
              if z43.1.fEpoch = 2 then
                if (z43.1.fFlushes.length : Int) = 1 then
                  (m_conf_Floor z25.1 (⟨#[1,120,1,97,0]⟩ : ByteArray)).bind fun x53=>
                  if x53 = 1 then
                    (m_conf_Floor z25.1 (⟨#[1,98,0]⟩ : ByteArray)).bind fun x56=>
                    some (decide (x56 = 0))
                  else
                    some false
                else
                  some false
              else
                some false
            else
              some false
          else
            some false
        else
          some false
      else
        some false
    else
      some false
  else
    some false
theorem c_law13_awake {w0 : World} {M : Nat→Prop} {H : List (Nat×Nat×Obj)} {R : List (Nat×Row)} {φ : World→Prop}  (r : Bool) (hm : m_law13_awake = some r) :
    Cn Tryz.prog 5 #[] ⟨w0,M,H,R,φ⟩ (fun x : Unit=>.bool r) (fun x=>True) (fun x=>⟨w0,M,H,R,φ⟩):=by
 unfold m_law13_awake at hm
 refine cn_intro (fn:=Tryz.f5) (N:=74) Tryz.func5 rfl Tryz.ntmps5 rfl<|c_seq<|c_region<|g_v rfl r_assign<|g_nil<|d_then<|c_seq<|c_region<|g_v rfl (r_build _ rfl (bld32_0 _ _)) ?_
 replace hm:=bnd hm
 obtain ⟨⟨x1,x2⟩,hx3,hm⟩:=hm
 refine g_cn ⟨w0,M,_,_,φ⟩ (fun _ h=>h) Tryz.call21 rfl rfl (c_conf_Bytes (⟨1,3,eB,eB,eB,([] : List ByteArray)⟩ : GOrder) none 0 (Nat.le_refl 0) (fun W _=>Cl.nil _ _) _ hx3) (fun _ _=>?_)
 refine g_v rfl r_move<|g_v rfl (r_extract rfl rfl)<|g_v rfl (r_extract rfl rfl)<|g_v rfl r_assign<|g_v rfl r_assign<|g_nil<|d_then<|c_seq<|c_region<|g_v rfl (r_build _ rfl (bld32_8 _ _)) ?_
 replace hm:=bnd hm
 obtain ⟨⟨x5,x6⟩,hx7,hm⟩:=hm
 refine g_cn ⟨w0,M,_,_,φ⟩ (fun _ h=>h) Tryz.call21 rfl rfl (c_conf_Bytes (⟨5,0,eB,eB,(⟨#[1,97,0]⟩ : ByteArray),([] : List ByteArray)⟩ : GOrder) none 0 (Nat.le_refl 0) (fun W _=>Cl.nil _ _) _ hx7) (fun _ _=>?_)
 refine g_v rfl r_move<|g_v rfl (r_extract rfl rfl)<|g_v rfl (r_extract rfl rfl)<|g_v rfl r_assign<|g_v rfl r_assign<|g_nil<|d_then ?_
 refine c_flat [(1,Vs x1),(2,Vi x2),(3,Vs x5),(4,Vi x6)] ⟨rfl,rfl,rfl,rfl,trivial⟩ (fun u=>?_)
 refine c_sta ⟨w0,M,H,R,φ⟩ (fun _ h=>h)<|c_seq<|c_region<|g_v rfl (r_build _ rfl (bld30_9))<|g_v rfl (r_build _ rfl (bld32_8 _ _)) ?_
 replace hm:=bnd hm
 obtain ⟨⟨x9,x10⟩,hx11,hm⟩:=hm
 refine g_cn ⟨w0,M,_,_,φ⟩ (fun _ h=>h) Tryz.call10 rfl rfl (c_conf_Apply (⟨([] : List Int),([] : List ByteArray),([] : List GAnchor),0,([] : List GFlush)⟩ : GConf) none 0 (Nat.le_refl 0) (fun W _=>Cl.nil _ _) none 0 (Nat.le_refl 0) (fun W _=>Cl.nil _ _) none 0 (Nat.le_refl 0) (fun W _=>Cl.nil _ _) none 0 (Nat.le_refl 0) (fun W _=>Cl.nil _ _) (⟨5,0,eB,eB,(⟨#[1,97,0]⟩ : ByteArray),([] : List ByteArray)⟩ : GOrder) none 0 (Nat.le_refl 0) (fun W _=>Cl.nil _ _) _ hx11) (fun ⟨A12,c13,A15,c16,A18,c19,A21,c22⟩ ⟨hc13,hc16,hc19,hc22⟩=>?_)
 refine g_abs (fun φ24 q24'=>?_)
 have q24 : ∀ W,φ24 W→φ W:=fun W h=>(q24' W h).1
 have f14:=fun (W : World) (h : φ24 W)=>(q24' W h).2.1
 have f17:=fun (W : World) (h : φ24 W)=>(q24' W h).2.2.1
 have f20:=fun (W : World) (h : φ24 W)=>(q24' W h).2.2.2.1
 have f23:=fun (W : World) (h : φ24 W)=>(q24' W h).2.2.2.2
 refine g_v rfl r_move<|g_v rfl (r_extract rfl rfl)<|g_v rfl (r_extract rfl rfl) ?_
 refine g_e rfl (e_alloc 100050 Tryz.zeroValue30) (fun g26 _=>?_)
 refine g_storeL (tag:=100050) rfl rfl rfl rfl Tryz.sizeOf30 rfl rfl<|g_v rfl r_assign<|g_nil<|d_then ?_
 refine c_flat [(1,Vs x1),(2,Vi x2),(3,Vs x5),(4,Vi x6),(5,Vp g26),(6,Vi x10)] ⟨rfl,rfl,rfl,rfl,rfl,rfl,trivial⟩ (fun u=>?_)
 refine c_sta ⟨w0,M,(100050,g26,.cells #[.slice A12 x9.fRing.length c13,.slice A15 x9.fHints.length c16,.slice A18 x9.fAnchors.length c19,Vi x9.fEpoch,.slice A21 x9.fFlushes.length c22] 30 (0,0))::H,R,φ24⟩ (fun _ h=>h)<|c_seq<|c_region<|g_v rfl (r_loadA (tag:=100050) rfl rfl Tryz.isAgg30 Tryz.sizeOf30 rfl rfl)<|g_v rfl (r_build _ rfl (bld32_8 _ _)) ?_
 replace hm:=bnd hm
 obtain ⟨⟨x27,x28⟩,hx29,hm⟩:=hm
 refine g_cn ⟨w0,M,_,_,φ24⟩ (fun _ h=>h) Tryz.call10 rfl rfl (c_conf_Apply x9 A12 c13 hc13 (fun W h=>f14 W h) A15 c16 hc16 (fun W h=>f17 W h) A18 c19 hc19 (fun W h=>f20 W h) A21 c22 hc22 (fun W h=>f23 W h) (⟨5,0,eB,eB,(⟨#[0]⟩ : ByteArray),([] : List ByteArray)⟩ : GOrder) none 0 (Nat.le_refl 0) (fun W _=>Cl.nil _ _) _ hx29) (fun ⟨A30,c31,A33,c34,A36,c37,A39,c40⟩ ⟨hc31,hc34,hc37,hc40⟩=>?_)
 refine g_abs (fun φ42 q42'=>?_)
 have q42 : ∀ W,φ42 W→φ24 W:=fun W h=>(q42' W h).1
 have f32:=fun (W : World) (h : φ42 W)=>(q42' W h).2.1
 have f35:=fun (W : World) (h : φ42 W)=>(q42' W h).2.2.1
 have f38:=fun (W : World) (h : φ42 W)=>(q42' W h).2.2.2.1
 have f41:=fun (W : World) (h : φ42 W)=>(q42' W h).2.2.2.2
 refine g_v rfl r_move<|g_v rfl (r_extract rfl rfl)<|g_v rfl (r_extract rfl rfl) ?_
 refine g_e rfl (e_alloc 100070 Tryz.zeroValue30) (fun g44 _=>?_)
 refine g_storeL (tag:=100070) rfl rfl rfl rfl Tryz.sizeOf30 rfl rfl<|g_v rfl r_assign<|g_nil<|d_then ?_
 refine c_flat [(1,Vs x1),(2,Vi x2),(3,Vs x5),(4,Vi x6),(5,Vp g26),(6,Vi x10),(7,Vp g44),(8,Vi x28)] ⟨rfl,rfl,rfl,rfl,rfl,rfl,rfl,rfl,trivial⟩ (fun u=>?_)
 refine c_sta ⟨w0,M,(100070,g44,.cells #[.slice A30 x27.fRing.length c31,.slice A33 x27.fHints.length c34,.slice A36 x27.fAnchors.length c37,Vi x27.fEpoch,.slice A39 x27.fFlushes.length c40] 30 (0,0))::(100050,g26,.cells #[.slice A12 x9.fRing.length c13,.slice A15 x9.fHints.length c16,.slice A18 x9.fAnchors.length c19,Vi x9.fEpoch,.slice A21 x9.fFlushes.length c22] 30 (0,0))::H,R,φ42⟩ (fun _ h=>h)<|c_seq<|c_region<|g_v rfl r_move<|g_v rfl (r_eqlT rfl rfl)<|g_v rfl r_move ?_
 refine g_if rfl rfl rfl rfl rfl (fun h45=>?_) (fun h45=>?_)
 ·
  replace hm:=ite_t hm (of_decide_eq_true h45)
  refine g_v rfl r_move<|g_do rfl rfl rfl rfl rfl h45<|g_v rfl (r_eql rfl rfl)<|g_v rfl (r_pick1 rfl h45)<|g_v rfl r_move ?_
  refine g_if rfl rfl rfl rfl rfl (fun h46=>?_) (fun h46=>?_)
  ·
   replace hm:=ite_t hm (of_decide_eq_true h46)
   refine g_v rfl r_move<|g_do rfl rfl rfl rfl rfl h46<|g_v rfl (r_eqlT rfl rfl)<|g_v rfl (r_pick1 rfl h46)<|g_v rfl r_move ?_
   refine g_if rfl rfl rfl rfl rfl (fun h47=>?_) (fun h47=>?_)
   ·
    replace hm:=ite_t hm (of_decide_eq_true h47)
    refine g_v rfl r_move<|g_do rfl rfl rfl rfl rfl h47<|g_v rfl (r_eql rfl rfl)<|g_v rfl (r_pick1 rfl h47)<|g_v rfl r_move ?_
    refine g_if rfl rfl rfl rfl rfl (fun h48=>?_) (fun h48=>?_)
    ·
     replace hm:=ite_t hm (of_decide_eq_true h48)
     refine g_v rfl r_move<|g_do rfl rfl rfl rfl rfl h48<|g_v rfl (r_eql rfl rfl)<|g_v rfl (r_pick1 rfl h48)<|g_v rfl r_move ?_
     refine g_if rfl rfl rfl rfl rfl (fun h49=>?_) (fun h49=>?_)
     ·
      replace hm:=ite_t hm (of_decide_eq_true h49)
      refine g_v rfl r_move<|g_do rfl rfl rfl rfl rfl h49<|g_v rfl (r_eql rfl rfl)<|g_v rfl (r_pick1 rfl h49)<|g_v rfl r_move ?_
      refine g_if rfl rfl rfl rfl rfl (fun h50=>?_) (fun h50=>?_)
      ·
       replace hm:=ite_t hm (of_decide_eq_true h50)
       refine g_v rfl (r_field (n:=3) Tryz.underlying30 rfl Tryz.sizeOf3 rfl rfl)<|g_do rfl rfl rfl rfl rfl h50<|g_v rfl (r_load (tag:=100070) rfl rfl rfl Tryz.isAgg3)<|g_do rfl rfl rfl rfl rfl h50<|g_v rfl (r_eql rfl rfl)<|g_v rfl (r_pick1 rfl h50)<|g_v rfl r_move ?_
       refine g_if rfl rfl rfl rfl rfl (fun h51=>?_) (fun h51=>?_)
       ·
        replace hm:=ite_t hm (of_decide_eq_true h51)
        refine g_v rfl (r_field (n:=4) Tryz.underlying30 rfl Tryz.sizeOf28 rfl rfl)<|g_do rfl rfl rfl rfl rfl h51<|g_v rfl (r_load (tag:=100070) rfl rfl rfl Tryz.isAgg28)<|g_do rfl rfl rfl rfl rfl h51<|g_v rfl (r_lenL Tryz.underlying28 rfl)<|g_do rfl rfl rfl rfl rfl h51<|g_v rfl (r_eql rfl rfl)<|g_v rfl (r_pick1 rfl h51)<|g_v rfl r_move ?_
        refine g_if rfl rfl rfl rfl rfl (fun h52=>?_) (fun h52=>?_)
        ·
         replace hm:=ite_t hm (of_decide_eq_true h52)
         refine g_v rfl (r_loadA (tag:=100050) rfl rfl Tryz.isAgg30 Tryz.sizeOf30 rfl rfl)<|g_do rfl rfl rfl rfl rfl h52 ?_
         replace hm:=bnd hm
         obtain ⟨x53,hx54,hm⟩:=hm
         refine g_cn ⟨w0,M,_,_,φ42⟩ (fun _ h=>h) Tryz.call9 rfl rfl (c_conf_Floor x9 A12 c13 hc13 (fun W hS=>f14 W (q42 _ hS.now)) A15 c16 hc16 (fun W hS=>f17 W (q42 _ hS.now)) A18 c19 hc19 (fun W hS=>f20 W (q42 _ hS.now)) A21 c22 hc22 (fun W hS=>f23 W (q42 _ hS.now)) (⟨#[1,120,1,97,0]⟩ : ByteArray) _ hx54) (fun _ _=>?_)
         refine g_do rfl rfl rfl rfl rfl h52<|g_v rfl (r_eql rfl rfl)<|g_v rfl (r_pick1 rfl h52)<|g_v rfl r_move ?_
         refine g_if rfl rfl rfl rfl rfl (fun h55=>?_) (fun h55=>?_)
         ·
          replace hm:=ite_t hm (of_decide_eq_true h55)
          refine g_v rfl (r_loadA (tag:=100050) rfl rfl Tryz.isAgg30 Tryz.sizeOf30 rfl rfl)<|g_do rfl rfl rfl rfl rfl h55 ?_
          replace hm:=bnd hm
          obtain ⟨x56,hx57,hm⟩:=hm
          refine g_cn ⟨w0,M,_,_,φ42⟩ (fun _ h=>h) Tryz.call9 rfl rfl (c_conf_Floor x9 A12 c13 hc13 (fun W hS=>f14 W (q42 _ hS.now)) A15 c16 hc16 (fun W hS=>f17 W (q42 _ hS.now)) A18 c19 hc19 (fun W hS=>f20 W (q42 _ hS.now)) A21 c22 hc22 (fun W hS=>f23 W (q42 _ hS.now)) (⟨#[1,98,0]⟩ : ByteArray) _ hx57) (fun _ _=>?_)
          refine g_do rfl rfl rfl rfl rfl h55<|g_v rfl (r_eql rfl rfl)<|g_v rfl (r_pick1 rfl h55)<|g_v rfl r_assign<|g_nil<|d_then ?_
          refine c_flat [(0,.bool (decide (x56 = 0)))] ⟨rfl,trivial⟩ (fun u=>?_)
          refine c_ret ?_
          cases hm
          exact d_retC () Tryz.results5 (res_tmp (res_nil rfl)) trivial (fun W h=>ok_pre (H1:=[_,_]) (R1:=[]) h (fun W hφ=>(q24 _ (q42 _ hφ)))) (.inr rfl)
         replace hm:=ite_f hm (of_decide_eq_false h55)
         refine g_no rfl rfl rfl rfl rfl h55<|g_no rfl rfl rfl rfl rfl h55<|g_v rfl (r_pick0 rfl h55)<|g_v rfl r_assign<|g_nil<|d_then ?_
         refine c_flat [(0,.bool false)] ⟨rfl,trivial⟩ (fun u=>?_)
         refine c_ret ?_
         cases hm
         exact d_retC () Tryz.results5 (res_tmp (res_nil rfl)) trivial (fun W h=>ok_pre (H1:=[_,_]) (R1:=[]) h (fun W hφ=>(q24 _ (q42 _ hφ)))) (.inr rfl)
        replace hm:=ite_f hm (of_decide_eq_false h52)
        refine g_no rfl rfl rfl rfl rfl h52<|g_no rfl rfl rfl rfl rfl h52<|g_v rfl (r_pick0 rfl h52)<|g_v rfl r_move ?_
        iterate 3 refine g_no rfl rfl rfl rfl rfl rfl ?_
        refine g_v rfl (r_pick0 rfl rfl)<|g_v rfl r_assign<|g_nil<|d_then ?_
        refine c_flat [(0,.bool false)] ⟨rfl,trivial⟩ (fun u=>?_)
        refine c_ret ?_
        cases hm
        exact d_retC () Tryz.results5 (res_tmp (res_nil rfl)) trivial (fun W h=>ok_pre (H1:=[_,_]) (R1:=[]) h (fun W hφ=>(q24 _ (q42 _ hφ)))) (.inr rfl)
       replace hm:=ite_f hm (of_decide_eq_false h51)
       iterate 3 refine g_no rfl rfl rfl rfl rfl h51 ?_
       refine g_v rfl (r_pick0 rfl h51)<|g_v rfl r_move ?_
       iterate 3 refine g_no rfl rfl rfl rfl rfl rfl ?_
       refine g_v rfl (r_pick0 rfl rfl)<|g_v rfl r_move ?_
       iterate 3 refine g_no rfl rfl rfl rfl rfl rfl ?_
       refine g_v rfl (r_pick0 rfl rfl)<|g_v rfl r_assign<|g_nil<|d_then ?_
       refine c_flat [(0,.bool false)] ⟨rfl,trivial⟩ (fun u=>?_)
       refine c_ret ?_
       cases hm
       exact d_retC () Tryz.results5 (res_tmp (res_nil rfl)) trivial (fun W h=>ok_pre (H1:=[_,_]) (R1:=[]) h (fun W hφ=>(q24 _ (q42 _ hφ)))) (.inr rfl)
      replace hm:=ite_f hm (of_decide_eq_false h50)
      refine g_no rfl rfl rfl rfl rfl h50<|g_no rfl rfl rfl rfl rfl h50<|g_v rfl (r_pick0 rfl h50)<|g_v rfl r_move ?_
      iterate 4 refine g_no rfl rfl rfl rfl rfl rfl ?_
      refine g_v rfl (r_pick0 rfl rfl)<|g_v rfl r_move ?_
      iterate 3 refine g_no rfl rfl rfl rfl rfl rfl ?_
      refine g_v rfl (r_pick0 rfl rfl)<|g_v rfl r_move ?_
      iterate 3 refine g_no rfl rfl rfl rfl rfl rfl ?_
      refine g_v rfl (r_pick0 rfl rfl)<|g_v rfl r_assign<|g_nil<|d_then ?_
      refine c_flat [(0,.bool false)] ⟨rfl,trivial⟩ (fun u=>?_)
      refine c_ret ?_
      cases hm
      exact d_retC () Tryz.results5 (res_tmp (res_nil rfl)) trivial (fun W h=>ok_pre (H1:=[_,_]) (R1:=[]) h (fun W hφ=>(q24 _ (q42 _ hφ)))) (.inr rfl)
     replace hm:=ite_f hm (of_decide_eq_false h49)
     refine g_no rfl rfl rfl rfl rfl h49<|g_v rfl (r_pick0 rfl h49)<|g_v rfl r_move ?_
     iterate 3 refine g_no rfl rfl rfl rfl rfl rfl ?_
     refine g_v rfl (r_pick0 rfl rfl)<|g_v rfl r_move ?_
     iterate 4 refine g_no rfl rfl rfl rfl rfl rfl ?_
     refine g_v rfl (r_pick0 rfl rfl)<|g_v rfl r_move ?_
     iterate 3 refine g_no rfl rfl rfl rfl rfl rfl ?_
     refine g_v rfl (r_pick0 rfl rfl)<|g_v rfl r_move ?_
     iterate 3 refine g_no rfl rfl rfl rfl rfl rfl ?_
     refine g_v rfl (r_pick0 rfl rfl)<|g_v rfl r_assign<|g_nil<|d_then ?_
     refine c_flat [(0,.bool false)] ⟨rfl,trivial⟩ (fun u=>?_)
     refine c_ret ?_
     cases hm
     exact d_retC () Tryz.results5 (res_tmp (res_nil rfl)) trivial (fun W h=>ok_pre (H1:=[_,_]) (R1:=[]) h (fun W hφ=>(q24 _ (q42 _ hφ)))) (.inr rfl)
    replace hm:=ite_f hm (of_decide_eq_false h48)
    refine g_no rfl rfl rfl rfl rfl h48<|g_v rfl (r_pick0 rfl h48)<|g_v rfl r_move<|g_no rfl rfl rfl rfl rfl rfl<|g_no rfl rfl rfl rfl rfl rfl<|g_v rfl (r_pick0 rfl rfl)<|g_v rfl r_move ?_
    iterate 3 refine g_no rfl rfl rfl rfl rfl rfl ?_
    refine g_v rfl (r_pick0 rfl rfl)<|g_v rfl r_move ?_
    iterate 4 refine g_no rfl rfl rfl rfl rfl rfl ?_
    refine g_v rfl (r_pick0 rfl rfl)<|g_v rfl r_move ?_
    iterate 3 refine g_no rfl rfl rfl rfl rfl rfl ?_
    refine g_v rfl (r_pick0 rfl rfl)<|g_v rfl r_move ?_
    iterate 3 refine g_no rfl rfl rfl rfl rfl rfl ?_
    refine g_v rfl (r_pick0 rfl rfl)<|g_v rfl r_assign<|g_nil<|d_then ?_
    refine c_flat [(0,.bool false)] ⟨rfl,trivial⟩ (fun u=>?_)
    refine c_ret ?_
    cases hm
    exact d_retC () Tryz.results5 (res_tmp (res_nil rfl)) trivial (fun W h=>ok_pre (H1:=[_,_]) (R1:=[]) h (fun W hφ=>(q24 _ (q42 _ hφ)))) (.inr rfl)
   replace hm:=ite_f hm (of_decide_eq_false h47)
   refine g_no rfl rfl rfl rfl rfl h47<|g_v rfl (r_pick0 rfl h47)<|g_v rfl r_move<|g_no rfl rfl rfl rfl rfl rfl<|g_no rfl rfl rfl rfl rfl rfl<|g_v rfl (r_pick0 rfl rfl)<|g_v rfl r_move<|g_no rfl rfl rfl rfl rfl rfl<|g_no rfl rfl rfl rfl rfl rfl<|g_v rfl (r_pick0 rfl rfl) ?_
   refine g_v rfl r_move ?_
   iterate 3 refine g_no rfl rfl rfl rfl rfl rfl ?_
   refine g_v rfl (r_pick0 rfl rfl)<|g_v rfl r_move ?_
   iterate 4 refine g_no rfl rfl rfl rfl rfl rfl ?_
   refine g_v rfl (r_pick0 rfl rfl)<|g_v rfl r_move ?_
   iterate 3 refine g_no rfl rfl rfl rfl rfl rfl ?_
   refine g_v rfl (r_pick0 rfl rfl)<|g_v rfl r_move ?_
   iterate 3 refine g_no rfl rfl rfl rfl rfl rfl ?_
   refine g_v rfl (r_pick0 rfl rfl)<|g_v rfl r_assign<|g_nil<|d_then ?_
   refine c_flat [(0,.bool false)] ⟨rfl,trivial⟩ (fun u=>?_)
   refine c_ret ?_
   cases hm
   exact d_retC () Tryz.results5 (res_tmp (res_nil rfl)) trivial (fun W h=>ok_pre (H1:=[_,_]) (R1:=[]) h (fun W hφ=>(q24 _ (q42 _ hφ)))) (.inr rfl)
  replace hm:=ite_f hm (of_decide_eq_false h46)
  refine g_no rfl rfl rfl rfl rfl h46<|g_v rfl (r_pick0 rfl h46)<|g_v rfl r_move<|g_no rfl rfl rfl rfl rfl rfl<|g_no rfl rfl rfl rfl rfl rfl<|g_v rfl (r_pick0 rfl rfl)<|g_v rfl r_move<|g_no rfl rfl rfl rfl rfl rfl<|g_no rfl rfl rfl rfl rfl rfl<|g_v rfl (r_pick0 rfl rfl) ?_
  refine g_v rfl r_move<|g_no rfl rfl rfl rfl rfl rfl<|g_no rfl rfl rfl rfl rfl rfl<|g_v rfl (r_pick0 rfl rfl)<|g_v rfl r_move ?_
  iterate 3 refine g_no rfl rfl rfl rfl rfl rfl ?_
  refine g_v rfl (r_pick0 rfl rfl)<|g_v rfl r_move ?_
  iterate 4 refine g_no rfl rfl rfl rfl rfl rfl ?_
  refine g_v rfl (r_pick0 rfl rfl)<|g_v rfl r_move ?_
  iterate 3 refine g_no rfl rfl rfl rfl rfl rfl ?_
  refine g_v rfl (r_pick0 rfl rfl)<|g_v rfl r_move ?_
  iterate 3 refine g_no rfl rfl rfl rfl rfl rfl ?_
  refine g_v rfl (r_pick0 rfl rfl)<|g_v rfl r_assign<|g_nil<|d_then ?_
  refine c_flat [(0,.bool false)] ⟨rfl,trivial⟩ (fun u=>?_)
  refine c_ret ?_
  cases hm
  exact d_retC () Tryz.results5 (res_tmp (res_nil rfl)) trivial (fun W h=>ok_pre (H1:=[_,_]) (R1:=[]) h (fun W hφ=>(q24 _ (q42 _ hφ)))) (.inr rfl)
 replace hm:=ite_f hm (of_decide_eq_false h45)
 refine g_no rfl rfl rfl rfl rfl h45<|g_v rfl (r_pick0 rfl h45)<|g_v rfl r_move<|g_no rfl rfl rfl rfl rfl rfl<|g_no rfl rfl rfl rfl rfl rfl<|g_v rfl (r_pick0 rfl rfl)<|g_v rfl r_move<|g_no rfl rfl rfl rfl rfl rfl<|g_no rfl rfl rfl rfl rfl rfl<|g_v rfl (r_pick0 rfl rfl) ?_
 refine g_v rfl r_move<|g_no rfl rfl rfl rfl rfl rfl<|g_no rfl rfl rfl rfl rfl rfl<|g_v rfl (r_pick0 rfl rfl)<|g_v rfl r_move<|g_no rfl rfl rfl rfl rfl rfl<|g_no rfl rfl rfl rfl rfl rfl<|g_v rfl (r_pick0 rfl rfl)<|g_v rfl r_move ?_
 iterate 3 refine g_no rfl rfl rfl rfl rfl rfl ?_
 refine g_v rfl (r_pick0 rfl rfl)<|g_v rfl r_move ?_
 iterate 4 refine g_no rfl rfl rfl rfl rfl rfl ?_
 refine g_v rfl (r_pick0 rfl rfl)<|g_v rfl r_move ?_
 iterate 3 refine g_no rfl rfl rfl rfl rfl rfl ?_
 refine g_v rfl (r_pick0 rfl rfl)<|g_v rfl r_move ?_
 iterate 3 refine g_no rfl rfl rfl rfl rfl rfl ?_
 refine g_v rfl (r_pick0 rfl rfl)<|g_v rfl r_assign<|g_nil<|d_then ?_
 refine c_flat [(0,.bool false)] ⟨rfl,trivial⟩ (fun u=>?_)
 refine c_ret ?_
 cases hm
 exact d_retC () Tryz.results5 (res_tmp (res_nil rfl)) trivial (fun W h=>ok_pre (H1:=[_,_]) (R1:=[]) h (fun W hφ=>(q24 _ (q42 _ hφ)))) (.inr rfl)
noncomputable def m_law13_short (p0 : ByteArray) (p1 : Int) : Option ByteArray:=
  if p1 < (p0.size : Int) then
    (scutHi p0 p1).bind fun s2=>
    some s2
  else
    some p0
theorem c_law13_short {w0 : World} {M : Nat→Prop} {H : List (Nat×Nat×Obj)} {R : List (Nat×Row)} {φ : World→Prop} (p0 : ByteArray) (p1 : Int) (r : ByteArray) (hm : m_law13_short p0 p1 = some r) :
    Cn Tryz.prog 6 #[Vs p0,Vi p1] ⟨w0,M,H,R,φ⟩ (fun x : Unit=>Vs r) (fun x=>True) (fun x=>⟨w0,M,H,R,φ⟩):=by
 unfold m_law13_short at hm
 refine cn_intro (fn:=Tryz.f6) (N:=13) Tryz.func6 rfl Tryz.ntmps6 rfl<|c_seq<|c_region<|g_v rfl r_assign<|g_nil<|d_then<|c_seq<|c_seq<|c_region<|g_v rfl r_move ?_
 refine g_v rfl (r_len Tryz.underlying9 rfl)<|g_v rfl r_move<|g_v rfl (r_gtr rfl rfl)<|g_nil<|d_then ?_
 refine c_cond rfl (fun h1=>?_) (fun h1=>?_)
 ·
  replace hm:=ite_t hm (of_decide_eq_true h1)
  refine c_seq<|c_region<|g_v rfl r_move<|g_v rfl r_move ?_
  replace hm:=bnd hm
  obtain ⟨s2,hs2,hm⟩:=hm
  refine g_v rfl (r_scutHi Tryz.underlying9 rfl rfl hs2)<|g_v rfl r_assign<|g_nil<|d_then ?_
  refine c_flat [(4,Vs s2)] ⟨rfl,trivial⟩ (fun u=>?_)
  refine c_sta ⟨w0,M,H,R,φ⟩ (fun _ h=>h)<|c_ret<|d_ret_then ?_
  cases hm
  exact d_retC () Tryz.results6 (res_tmp (res_nil rfl)) trivial (fun W h=>ok_pre (H1:=[]) (R1:=[]) h (fun W hφ=>hφ)) (.inr rfl)
 replace hm:=ite_f hm (of_decide_eq_false h1)
 refine c_skip<|d_then<|c_seq<|c_region<|g_v rfl r_move<|g_v rfl r_assign<|g_nil<|d_then<|c_ret ?_
 cases hm
 exact d_retC () Tryz.results6 (res_tmp (res_nil rfl)) trivial (fun W h=>ok_pre (H1:=[]) (R1:=[]) h (fun W hφ=>hφ)) (.inr rfl)
noncomputable def m_law13_small_j1 (p0 : GOrder) (x3 : ByteArray) (x5 : ByteArray) (x7 : ByteArray) (l92 : List ByteArray) : Option GOrder:=
  some (⟨p0.fKind,p0.fNode,x3,x5,x7,l92⟩ : GOrder)
noncomputable def m_law13_small_s2 (p0 : GOrder) (l112 : List ByteArray) (i115 : Int) : Option (((List ByteArray)×Int) ⊕ (List ByteArray)):=
  if i115 < (p0.fHints.length : Int) then
    if i115 < 20 then
      (at_ p0.fHints i115).bind fun x135=>
      (m_law13_short x135 10).bind fun x139=>
      (app 16 l112 [x139]).bind fun l142=>
      some (.inl (l142,w64 (i115 + 1)))
    else
      some (.inr l112)
  else
    some (.inr l112)
noncomputable def m_law13_small (p0 : GOrder) : Option GOrder:=
  (m_law13_short p0.fName 300).bind fun x3=>
  (m_law13_short p0.fText 300).bind fun x5=>
  (m_law13_short p0.fZone 300).bind fun x7=>
  (loop (fun s=>m_law13_small_s2 p0 s.1 s.2) (([] : List ByteArray),0)).bind fun e=>m_law13_small_j1 p0 x3 x5 x7 e
theorem c_law13_small {w0 : World} {M : Nat→Prop} {H : List (Nat×Nat×Obj)} {R : List (Nat×Row)} {φ : World→Prop} (p0 : GOrder) (Ap0_0 : Option Addr) (cp0_0 : Nat) (hcp0_0 : p0.fHints.length ≤ cp0_0) (fp0_0 : ∀ W,(Sta.mk w0 M H R φ).ok W→Cl W Ap0_0 (p0.fHints.flatMap (fun x : ByteArray=>[Value.string x]))) (r : GOrder) (hm : m_law13_small p0 = some r) :
    Cn Tryz.prog 7 #[.agg #[Vi p0.fKind,Vi p0.fNode,Vs p0.fName,Vs p0.fText,Vs p0.fZone,.slice Ap0_0 p0.fHints.length cp0_0]] ⟨w0,M,H,R,φ⟩ (fun x : Option Addr×Nat=>.agg #[Vi r.fKind,Vi r.fNode,Vs r.fName,Vs r.fText,Vs r.fZone,.slice x.1 r.fHints.length x.2]) (fun x=>r.fHints.length ≤ x.2) (fun x=>⟨w0,M,H,R,fun W=>φ W∧Cl W x.1 (r.fHints.flatMap (fun x : ByteArray=>[Value.string x]))⟩):=by
 unfold m_law13_small at hm
 refine cn_intro (fn:=Tryz.f7) (N:=40) Tryz.func7 rfl Tryz.ntmps7 rfl<|c_seq<|c_region ?_
 refine g_e rfl (e_box 100010 rfl) (fun g1 _=>?_)
 refine g_e rfl (e_alloc 100020 Tryz.zeroValue32) (fun g2 _=>?_)
 refine g_nil<|d_then<|c_seq<|c_region<|g_v rfl (r_field (n:=2) Tryz.underlying32 rfl Tryz.sizeOf9 rfl rfl)<|g_v rfl (r_load (tag:=100010) rfl rfl rfl Tryz.isAgg9) ?_
 replace hm:=bnd hm
 obtain ⟨x3,hx4,hm⟩:=hm
 refine g_cn ⟨w0,M,_,_,φ⟩ (fun _ h=>h) Tryz.call6 rfl rfl (c_law13_short p0.fName 300 _ hx4) (fun _ _=>?_)
 refine g_v rfl (r_field (n:=2) Tryz.underlying32 rfl Tryz.sizeOf9 rfl rfl)<|g_storeL (tag:=100010) rfl rfl rfl rfl Tryz.sizeOf9 rfl rfl<|g_nil<|d_then<|c_seq<|c_region<|g_v rfl (r_field (n:=3) Tryz.underlying32 rfl Tryz.sizeOf9 rfl rfl)<|g_v rfl (r_load (tag:=100010) rfl rfl rfl Tryz.isAgg9) ?_
 replace hm:=bnd hm
 obtain ⟨x5,hx6,hm⟩:=hm
 refine g_cn ⟨w0,M,_,_,φ⟩ (fun _ h=>h) Tryz.call6 rfl rfl (c_law13_short p0.fText 300 _ hx6) (fun _ _=>?_)
 refine g_v rfl (r_field (n:=3) Tryz.underlying32 rfl Tryz.sizeOf9 rfl rfl)<|g_storeL (tag:=100010) rfl rfl rfl rfl Tryz.sizeOf9 rfl rfl<|g_nil<|d_then ?_
 refine c_flat [(1,Vp g1),(2,Vp g2)] ⟨rfl,rfl,trivial⟩ (fun u=>?_)
 refine c_sta ⟨w0,M,(100020,g2,.cells #[Vi 0,Vi 0,Ve,Ve,Ve,V0] 32 (0,0))::(100010,g1,.cells #[Vi p0.fKind,Vi p0.fNode,Vs x3,Vs x5,Vs p0.fZone,.slice Ap0_0 p0.fHints.length cp0_0] 32 (0,0))::H,R,φ⟩ (fun _ h=>h)<|c_seq<|c_region<|g_v rfl (r_field (n:=4) Tryz.underlying32 rfl Tryz.sizeOf9 rfl rfl)<|g_v rfl (r_load (tag:=100010) rfl rfl rfl Tryz.isAgg9) ?_
 replace hm:=bnd hm
 obtain ⟨x7,hx8,hm⟩:=hm
 refine g_cn ⟨w0,M,_,_,φ⟩ (fun _ h=>h) Tryz.call6 rfl rfl (c_law13_short p0.fZone 300 _ hx8) (fun _ _=>?_)
 refine g_v rfl (r_field (n:=4) Tryz.underlying32 rfl Tryz.sizeOf9 rfl rfl)<|g_storeL (tag:=100010) rfl rfl rfl rfl Tryz.sizeOf9 rfl rfl<|g_nil<|d_then<|c_seq<|c_region<|g_v rfl r_assign<|g_nil<|d_then<|c_seq ?_
 refine c_sta _ (fun W h=>nilR h 13 9 1) ?_
 refine c_cut (ι:=(List ByteArray)×Option Addr×Nat) [1,2,3] (fun ⟨l92,A93,c94⟩=>[(3,.slice A93 l92.length c94)]) (fun ⟨l92,A93,c94⟩=>⟨w0,M,(100020,g2,.cells #[Vi 0,Vi 0,Ve,Ve,Ve,V0] 32 (0,0))::(100010,g1,.cells #[Vi p0.fKind,Vi p0.fNode,Vs x3,Vs x5,Vs x7,.slice Ap0_0 p0.fHints.length cp0_0] 32 (0,0))::H,(13,⟨.slice A93 l92.length c94,9,1,l92.length,l92.flatMap (fun x : ByteArray=>[Value.string x])⟩)::R,φ⟩) (fun ⟨l92,A93,c94⟩=>m_law13_small_j1 p0 x3 x5 x7 l92 = some r∧l92.length ≤ c94) ?_ (fun ⟨l92,A93,c94⟩ u ⟨hm,hc94⟩=>?_)
 ·
  refine c_seq<|c_region<|g_v rfl r_assign<|g_nil<|d_then<|c_block ?_
  replace hm:=bnd hm
  obtain ⟨out2,hl2,hr2⟩:=hm
  obtain ⟨n132',hl2⟩:=loop_lp hl2
  refine c_loopU (ι:=Nat×(List ByteArray)×Int×Option Addr×Nat) [1,2,3,4] (fun ⟨n132,l112,i115,A113,c114⟩=>[(3,.slice A113 l112.length c114),(4,Vi i115)]) (fun ⟨n132,l112,i115,A113,c114⟩=>⟨w0,M,(100020,g2,.cells #[Vi 0,Vi 0,Ve,Ve,Ve,V0] 32 (0,0))::(100010,g1,.cells #[Vi p0.fKind,Vi p0.fNode,Vs x3,Vs x5,Vs x7,.slice Ap0_0 p0.fHints.length cp0_0] 32 (0,0))::H,(13,⟨.slice A113 l112.length c114,9,1,l112.length,l112.flatMap (fun x : ByteArray=>[Value.string x])⟩)::R,φ⟩) (fun ⟨n132,l112,i115,A113,c114⟩=>Lp (fun s=>m_law13_small_s2 p0 s.1 s.2) n132 (l112,i115) out2∧l112.length ≤ c114) (fun ⟨n132,l112,i115,A113,c114⟩=>n132) (n132',([] : List ByteArray),0,none,0) ⟨hl2,(Nat.le_refl 0)⟩ ⟨rfl,rfl,rfl,rfl,trivial⟩ (fun W h=>h.phi (fun W hφ=>hφ)) (fun ⟨n132,l112,i115,A113,c114⟩ u ⟨hlp,hc114⟩=>?_)
  obtain ⟨o2,hm,hnx2⟩:=lp_step hlp
  clear hlp
  replace hm : m_law13_small_s2 p0 l112 i115 = some o2:=hm
  unfold m_law13_small_s2 at hm
  refine c_flat [(1,Vp g1),(2,Vp g2),(3,.slice A113 l112.length c114),(4,Vi i115)] ⟨rfl,rfl,rfl,rfl,trivial⟩ (fun u=>?_)
  refine c_sta ⟨w0,M,(100020,g2,.cells #[Vi 0,Vi 0,Ve,Ve,Ve,V0] 32 (0,0))::(100010,g1,.cells #[Vi p0.fKind,Vi p0.fNode,Vs x3,Vs x5,Vs x7,.slice Ap0_0 p0.fHints.length cp0_0] 32 (0,0))::H,(13,⟨.slice A113 l112.length c114,9,1,l112.length,l112.flatMap (fun x : ByteArray=>[Value.string x])⟩)::R,φ⟩ (fun _ h=>h)<|c_seq<|c_seq<|c_region<|g_v rfl r_move<|g_v rfl (r_field (n:=5) Tryz.underlying32 rfl Tryz.sizeOf26 rfl rfl)<|g_v rfl (r_load (tag:=100010) rfl rfl rfl Tryz.isAgg26)<|g_v rfl (r_lenL Tryz.underlying26 rfl)<|g_v rfl (r_lss rfl rfl)<|g_v rfl r_move ?_
  refine g_if rfl rfl rfl rfl rfl (fun h133=>?_) (fun h133=>?_)
  ·
   replace hm:=ite_t hm (of_decide_eq_true h133)
   refine g_v rfl r_move<|g_do rfl rfl rfl rfl rfl h133<|g_v rfl (r_lss rfl rfl)<|g_v rfl (r_pick1 rfl h133)<|g_nil<|d_then ?_
   refine c_flat [(1,Vp g1),(2,Vp g2),(3,.slice A113 l112.length c114),(4,Vi i115),(25,.bool (decide (i115 < 20)))] ⟨rfl,rfl,rfl,rfl,rfl,trivial⟩ (fun u=>?_)
   refine c_cond rfl (fun h134=>?_) (fun h134=>?_)
   ·
    replace hm:=ite_t hm (of_decide_eq_true h134)
    refine c_skip<|d_then<|c_seq<|c_block<|c_region<|g_v rfl r_move<|g_v rfl (r_field (n:=5) Tryz.underlying32 rfl Tryz.sizeOf26 rfl rfl)<|g_v rfl (r_load (tag:=100010) rfl rfl rfl Tryz.isAgg26)<|g_v rfl r_move ?_
    replace hm:=bnd hm
    obtain ⟨x135,hx135,hm⟩:=hm
    refine g_know _ (fun W hS=>cl_at (p:=(Sta.mk w0 M H R φ).ok) (sz:=1) (fun _=>rfl) (by decide) (ok_pre (H1:=[_,_]) (R1:=[_]) hS (fun W h=>h)) fp0_0 hx135) ?_
    rintro ⟨ad136,hA138,f137⟩
    refine g_v rfl (r_ix Tryz.underlying26 Tryz.sizeOf9 rfl hA138 rfl hx135)<|g_v rfl (r_ld rfl Tryz.isAgg9 (fun W hS=>Cl.head (f137 W (ok_pre (H1:=[_,_]) (R1:=[_]) hS (fun W h=>h))))) ?_
    replace hm:=bnd hm
    obtain ⟨x139,hx140,hm⟩:=hm
    refine g_cn ⟨w0,M,_,_,φ⟩ (fun _ h=>h) Tryz.call6 rfl rfl (c_law13_short x135 10 _ hx140) (fun _ _=>?_)
    refine g_e rfl (e_lit (tag:=100350) (l:=[x139]) (enc:=(fun x : ByteArray=>[Value.string x])) (sz:=1) rfl Tryz.underlying26 (lit9_2 _) rfl rfl (fun _=>rfl)) (fun g141 _=>?_)
    replace hm:=bnd hm
    obtain ⟨l142,hl142,hm⟩:=hm
    refine g_e rfl (e_appR (enc:=(fun x : ByteArray=>[Value.string x])) (l:=l112) (l1:=[x139]) (l2:=l142) (tag:=13) Tryz.underlying26 inf9_3 rfl (by decide) (by decide) (fun _=>rfl) (fun _=>rfl) rfl hc114 rfl rfl (fun W hS=>rowCl (tag:=100350) rfl W hS) hl142) (fun ⟨A143,c144⟩ hc144=>?_)
    refine g_v rfl r_assign<|g_nil<|d_normal_block<|d_then ?_
    refine c_flat [(1,Vp g1),(2,Vp g2),(3,.slice A143 l142.length c144),(4,Vi i115)] ⟨rfl,rfl,rfl,rfl,trivial⟩ (fun u=>?_)
    refine c_sta ⟨w0,M,(100020,g2,.cells #[Vi 0,Vi 0,Ve,Ve,Ve,V0] 32 (0,0))::(100010,g1,.cells #[Vi p0.fKind,Vi p0.fNode,Vs x3,Vs x5,Vs x7,.slice Ap0_0 p0.fHints.length cp0_0] 32 (0,0))::H,(100350,⟨.slice (some ⟨g141,0,none⟩) [x139].length 1,9,1,[x139].length,[x139].flatMap (fun x : ByteArray=>[Value.string x])⟩)::(13,⟨.slice A143 l142.length c144,9,1,l142.length,l142.flatMap (fun x : ByteArray=>[Value.string x])⟩)::R,φ⟩ (fun _ h=>h)<|c_region<|g_v rfl r_move<|g_v rfl (r_add rfl rfl rfl)<|g_v rfl r_assign<|g_nil ?_
    obtain ⟨n145,hn145,hlp⟩:=nx_inl hm hnx2
    exact d_round (n145,l142,w64 (i115 + 1),A143,c144) ⟨hlp,hc144⟩ hn145 ⟨rfl,rfl,rfl,rfl,trivial⟩ (fun W h=>(h.dropR (t:=100350) rfl).phi (fun W hφ=>hφ))
   replace hm:=ite_f hm (of_decide_eq_false h134)
   refine c_exit<|d_exit_then<|d_exit_then<|d_exit_block ?_
   replace hm:=nx_out (C:=(fun e : (List ByteArray)=>m_law13_small_j1 p0 x3 x5 x7 e = some r)) hm hnx2 hr2
   exact d_round (l112,A113,c114) ⟨hm,hc114⟩ Nat.zero_lt_one ⟨rfl,rfl,rfl,trivial⟩ (fun W h=>h.phi (fun W hφ=>hφ))
  replace hm:=ite_f hm (of_decide_eq_false h133)
  refine g_no rfl rfl rfl rfl rfl h133<|g_v rfl (r_pick0 rfl h133)<|g_nil<|d_then<|c_cond0 rfl rfl<|c_exit<|d_exit_then<|d_exit_then<|d_exit_block ?_
  replace hm:=nx_out (C:=(fun e : (List ByteArray)=>m_law13_small_j1 p0 x3 x5 x7 e = some r)) hm hnx2 hr2
  exact d_round (l112,A113,c114) ⟨hm,hc114⟩ Nat.zero_lt_one ⟨rfl,rfl,rfl,trivial⟩ (fun W h=>h.phi (fun W hφ=>hφ))
 unfold m_law13_small_j1 at hm
 refine d_flat [(1,Vp g1),(2,Vp g2),(3,.slice A93 l92.length c94)] ⟨rfl,rfl,rfl,trivial⟩ (fun u=>?_)
 refine d_sta ⟨w0,M,(100020,g2,.cells #[Vi 0,Vi 0,Ve,Ve,Ve,V0] 32 (0,0))::(100010,g1,.cells #[Vi p0.fKind,Vi p0.fNode,Vs x3,Vs x5,Vs x7,.slice Ap0_0 p0.fHints.length cp0_0] 32 (0,0))::H,(13,⟨.slice A93 l92.length c94,9,1,l92.length,l92.flatMap (fun x : ByteArray=>[Value.string x])⟩)::R,φ⟩ (fun _ h=>h)<|d_then<|c_seq<|c_region<|g_v rfl r_move<|g_v rfl (r_field (n:=5) Tryz.underlying32 rfl Tryz.sizeOf26 rfl rfl)<|g_storeL (tag:=100010) rfl rfl rfl rfl Tryz.sizeOf26 rfl rfl<|g_nil<|d_then<|c_seq ?_
 refine c_region<|g_v rfl (r_loadA (tag:=100010) rfl rfl Tryz.isAgg32 Tryz.sizeOf32 rfl rfl)<|g_storeL (tag:=100020) rfl rfl rfl rfl Tryz.sizeOf32 rfl rfl<|g_nil<|d_then<|c_ret ?_
 cases hm
 refine d_shut (tag:=13) rfl (fun φ95 q95'=>?_)
 have q95 : ∀ W,φ95 W→φ W:=fun W h=>(q95' W h).1
 have f96:=fun (W : World) (h : φ95 W)=>(q95' W h).2
 exact d_retC (A93,c94) Tryz.results7 (res_agg (tag:=100020) rfl rfl Tryz.isAgg32 Tryz.sizeOf32 (res_nil rfl)) hc94 (fun W h=>ok_pre (H1:=[_,_]) (R1:=[]) h (fun W hφ=>⟨(q95 _ hφ),(fun W h=>f96 W h) W hφ⟩)) (.inr rfl)
theorem bld30_23 (z0 : Int) : ∀ W,(Instr.build 30 #[(3,Vi z0)]).run Tryz.prog W = .ok (.agg #[V0,V0,V0,Vi z0,V0]) W:=fun _=>by kernel_rfl
noncomputable def m_ref13_Copy (p0 : GConf) : Option GConf:=
  (app 8 ([] : List Int) p0.fRing).bind fun l4=>
  (app 16 ([] : List ByteArray) p0.fHints).bind fun l7=>
  (app 32 ([] : List GAnchor) p0.fAnchors).bind fun l10=>
  (app 24 ([] : List GFlush) p0.fFlushes).bind fun l13=>
  some (⟨l4,l7,l10,p0.fEpoch,l13⟩ : GConf)
theorem c_ref13_Copy {w0 : World} {M : Nat→Prop} {H : List (Nat×Nat×Obj)} {R : List (Nat×Row)} {φ : World→Prop} (p0 : GConf) (Ap0_0 : Option Addr) (cp0_0 : Nat) (hcp0_0 : p0.fRing.length ≤ cp0_0) (fp0_0 : ∀ W,(Sta.mk w0 M H R φ).ok W→Cl W Ap0_0 (p0.fRing.flatMap (fun x : Int=>[Value.int .i64 x]))) (Ap0_1 : Option Addr) (cp0_1 : Nat) (hcp0_1 : p0.fHints.length ≤ cp0_1) (fp0_1 : ∀ W,(Sta.mk w0 M H R φ).ok W→Cl W Ap0_1 (p0.fHints.flatMap (fun x : ByteArray=>[Value.string x]))) (Ap0_2 : Option Addr) (cp0_2 : Nat) (hcp0_2 : p0.fAnchors.length ≤ cp0_2) (fp0_2 : ∀ W,(Sta.mk w0 M H R φ).ok W→Cl W Ap0_2 (p0.fAnchors.flatMap GAnchor.enc)) (Ap0_3 : Option Addr) (cp0_3 : Nat) (hcp0_3 : p0.fFlushes.length ≤ cp0_3) (fp0_3 : ∀ W,(Sta.mk w0 M H R φ).ok W→Cl W Ap0_3 (p0.fFlushes.flatMap GFlush.enc)) (r : GConf) (hm : m_ref13_Copy p0 = some r) :
    Cn Tryz.prog 8 #[.agg #[.slice Ap0_0 p0.fRing.length cp0_0,.slice Ap0_1 p0.fHints.length cp0_1,.slice Ap0_2 p0.fAnchors.length cp0_2,Vi p0.fEpoch,.slice Ap0_3 p0.fFlushes.length cp0_3]] ⟨w0,M,H,R,φ⟩ (fun x : Option Addr×Nat×Option Addr×Nat×Option Addr×Nat×Option Addr×Nat=>.agg #[.slice x.1 r.fRing.length x.2.1,.slice x.2.2.1 r.fHints.length x.2.2.2.1,.slice x.2.2.2.2.1 r.fAnchors.length x.2.2.2.2.2.1,Vi r.fEpoch,.slice x.2.2.2.2.2.2.1 r.fFlushes.length x.2.2.2.2.2.2.2]) (fun x=>r.fRing.length ≤ x.2.1∧r.fHints.length ≤ x.2.2.2.1∧r.fAnchors.length ≤ x.2.2.2.2.2.1∧r.fFlushes.length ≤ x.2.2.2.2.2.2.2) (fun x=>⟨w0,M,H,R,fun W=>φ W∧Cl W x.1 (r.fRing.flatMap (fun x : Int=>[Value.int .i64 x]))∧Cl W x.2.2.1 (r.fHints.flatMap (fun x : ByteArray=>[Value.string x]))∧Cl W x.2.2.2.2.1 (r.fAnchors.flatMap GAnchor.enc)∧Cl W x.2.2.2.2.2.2.1 (r.fFlushes.flatMap GFlush.enc)⟩):=by
 unfold m_ref13_Copy at hm
 refine cn_intro (fn:=Tryz.f8) (N:=32) Tryz.func8 rfl Tryz.ntmps8 rfl<|c_seq<|c_region ?_
 refine g_e rfl (e_box 100010 rfl) (fun g1 _=>?_)
 refine g_e rfl (e_alloc 100020 Tryz.zeroValue30) (fun g2 _=>?_)
 refine g_nil<|d_then<|c_seq<|c_region<|g_v rfl (r_field (n:=3) Tryz.underlying30 rfl Tryz.sizeOf3 rfl rfl)<|g_v rfl (r_load (tag:=100010) rfl rfl rfl Tryz.isAgg3)<|g_v rfl (r_build _ rfl (bld30_23 _)) ?_
 refine g_e rfl (e_alloc 100030 Tryz.zeroValue30) (fun g3 _=>?_)
 refine g_storeL (tag:=100030) rfl rfl rfl rfl Tryz.sizeOf30 rfl rfl<|g_nil<|d_then<|c_seq<|c_region<|g_v rfl (r_field (n:=0) Tryz.underlying30 rfl Tryz.sizeOf25 rfl rfl)<|g_v rfl (r_load (tag:=100030) rfl rfl rfl Tryz.isAgg25)<|g_v rfl (r_field (n:=0) Tryz.underlying30 rfl Tryz.sizeOf25 rfl rfl)<|g_v rfl (r_load (tag:=100010) rfl rfl rfl Tryz.isAgg25)<|g_sta _ (fun W h=>nilR h 11 3 1) ?_
 replace hm:=bnd hm
 obtain ⟨l4,hl4,hm⟩:=hm
 refine g_e rfl (e_appR (enc:=(fun x : Int=>[Value.int .i64 x])) (l:=[]) (l1:=p0.fRing) (l2:=l4) (tag:=11) Tryz.underlying25 inf3_11 rfl (by decide) (by decide) (fun _=>rfl) (fun _=>rfl) rfl (Nat.le_refl 0) rfl rfl (fun W hS=>fp0_0 W (ok_pre (H1:=[_,_,_]) (R1:=[_]) hS (fun W h=>h))) hl4) (fun ⟨A5,c6⟩ hc6=>?_)
 refine g_v rfl (r_field (n:=0) Tryz.underlying30 rfl Tryz.sizeOf25 rfl rfl)<|g_storeL (tag:=100030) rfl rfl rfl rfl Tryz.sizeOf25 rfl rfl<|g_nil<|d_then ?_
 refine c_flat [(1,Vp g1),(2,Vp g2),(3,Vp g3)] ⟨rfl,rfl,rfl,trivial⟩ (fun u=>?_)
 refine c_sta ⟨w0,M,(100030,g3,.cells #[.slice A5 l4.length c6,V0,V0,Vi p0.fEpoch,V0] 30 (0,0))::(100020,g2,.cells #[V0,V0,V0,Vi 0,V0] 30 (0,0))::(100010,g1,.cells #[.slice Ap0_0 p0.fRing.length cp0_0,.slice Ap0_1 p0.fHints.length cp0_1,.slice Ap0_2 p0.fAnchors.length cp0_2,Vi p0.fEpoch,.slice Ap0_3 p0.fFlushes.length cp0_3] 30 (0,0))::H,(11,⟨.slice A5 l4.length c6,3,1,l4.length,l4.flatMap (fun x : Int=>[Value.int .i64 x])⟩)::R,φ⟩ (fun _ h=>h)<|c_seq<|c_region<|g_v rfl (r_field (n:=1) Tryz.underlying30 rfl Tryz.sizeOf26 rfl rfl)<|g_v rfl (r_load (tag:=100030) rfl rfl rfl Tryz.isAgg26)<|g_v rfl (r_field (n:=1) Tryz.underlying30 rfl Tryz.sizeOf26 rfl rfl)<|g_v rfl (r_load (tag:=100010) rfl rfl rfl Tryz.isAgg26)<|g_sta _ (fun W h=>nilR h 12 9 1) ?_
 replace hm:=bnd hm
 obtain ⟨l7,hl7,hm⟩:=hm
 refine g_e rfl (e_appR (enc:=(fun x : ByteArray=>[Value.string x])) (l:=[]) (l1:=p0.fHints) (l2:=l7) (tag:=12) Tryz.underlying26 inf9_3 rfl (by decide) (by decide) (fun _=>rfl) (fun _=>rfl) rfl (Nat.le_refl 0) rfl rfl (fun W hS=>fp0_1 W (ok_pre (H1:=[_,_,_]) (R1:=[_,_]) hS (fun W h=>h))) hl7) (fun ⟨A8,c9⟩ hc9=>?_)
 refine g_v rfl (r_field (n:=1) Tryz.underlying30 rfl Tryz.sizeOf26 rfl rfl)<|g_storeL (tag:=100030) rfl rfl rfl rfl Tryz.sizeOf26 rfl rfl<|g_nil<|d_then<|c_seq<|c_region<|g_v rfl (r_field (n:=2) Tryz.underlying30 rfl Tryz.sizeOf27 rfl rfl)<|g_v rfl (r_load (tag:=100030) rfl rfl rfl Tryz.isAgg27)<|g_v rfl (r_field (n:=2) Tryz.underlying30 rfl Tryz.sizeOf27 rfl rfl)<|g_v rfl (r_load (tag:=100010) rfl rfl rfl Tryz.isAgg27) ?_
 refine g_sta _ (fun W h=>nilR h 13 55 2) ?_
 replace hm:=bnd hm
 obtain ⟨l10,hl10,hm⟩:=hm
 refine g_e rfl (e_appR (enc:=GAnchor.enc) (l:=[]) (l1:=p0.fAnchors) (l2:=l10) (tag:=13) Tryz.underlying27 inf55_14 rfl (by decide) (by decide) (fun _=>rfl) (fun _=>rfl) rfl (Nat.le_refl 0) rfl rfl (fun W hS=>fp0_2 W (ok_pre (H1:=[_,_,_]) (R1:=[_,_,_]) hS (fun W h=>h))) hl10) (fun ⟨A11,c12⟩ hc12=>?_)
 refine g_v rfl (r_field (n:=2) Tryz.underlying30 rfl Tryz.sizeOf27 rfl rfl)<|g_storeL (tag:=100030) rfl rfl rfl rfl Tryz.sizeOf27 rfl rfl<|g_nil<|d_then ?_
 refine c_flat [(1,Vp g1),(2,Vp g2),(3,Vp g3)] ⟨rfl,rfl,rfl,trivial⟩ (fun u=>?_)
 refine c_sta ⟨w0,M,(100030,g3,.cells #[.slice A5 l4.length c6,.slice A8 l7.length c9,.slice A11 l10.length c12,Vi p0.fEpoch,V0] 30 (0,0))::(100020,g2,.cells #[V0,V0,V0,Vi 0,V0] 30 (0,0))::(100010,g1,.cells #[.slice Ap0_0 p0.fRing.length cp0_0,.slice Ap0_1 p0.fHints.length cp0_1,.slice Ap0_2 p0.fAnchors.length cp0_2,Vi p0.fEpoch,.slice Ap0_3 p0.fFlushes.length cp0_3] 30 (0,0))::H,(13,⟨.slice A11 l10.length c12,55,2,l10.length,l10.flatMap GAnchor.enc⟩)::(12,⟨.slice A8 l7.length c9,9,1,l7.length,l7.flatMap (fun x : ByteArray=>[Value.string x])⟩)::(11,⟨.slice A5 l4.length c6,3,1,l4.length,l4.flatMap (fun x : Int=>[Value.int .i64 x])⟩)::R,φ⟩ (fun _ h=>h)<|c_seq<|c_region<|g_v rfl (r_field (n:=4) Tryz.underlying30 rfl Tryz.sizeOf28 rfl rfl)<|g_v rfl (r_load (tag:=100030) rfl rfl rfl Tryz.isAgg28)<|g_v rfl (r_field (n:=4) Tryz.underlying30 rfl Tryz.sizeOf28 rfl rfl)<|g_v rfl (r_load (tag:=100010) rfl rfl rfl Tryz.isAgg28)<|g_sta _ (fun W h=>nilR h 14 48 2) ?_
 replace hm:=bnd hm
 obtain ⟨l13,hl13,hm⟩:=hm
 refine g_e rfl (e_appR (enc:=GFlush.enc) (l:=[]) (l1:=p0.fFlushes) (l2:=l13) (tag:=14) Tryz.underlying28 inf48_16 rfl (by decide) (by decide) (fun _=>rfl) (fun _=>rfl) rfl (Nat.le_refl 0) rfl rfl (fun W hS=>fp0_3 W (ok_pre (H1:=[_,_,_]) (R1:=[_,_,_,_]) hS (fun W h=>h))) hl13) (fun ⟨A14,c15⟩ hc15=>?_)
 refine g_v rfl (r_field (n:=4) Tryz.underlying30 rfl Tryz.sizeOf28 rfl rfl)<|g_storeL (tag:=100030) rfl rfl rfl rfl Tryz.sizeOf28 rfl rfl<|g_nil<|d_then<|c_seq<|c_region<|g_v rfl (r_loadA (tag:=100030) rfl rfl Tryz.isAgg30 Tryz.sizeOf30 rfl rfl)<|g_storeL (tag:=100020) rfl rfl rfl rfl Tryz.sizeOf30 rfl rfl<|g_nil<|d_then ?_
 refine c_flat [(2,Vp g2)] ⟨rfl,trivial⟩ (fun u=>?_)
 refine c_sta ⟨w0,M,(100030,g3,.cells #[.slice A5 l4.length c6,.slice A8 l7.length c9,.slice A11 l10.length c12,Vi p0.fEpoch,.slice A14 l13.length c15] 30 (0,0))::(100020,g2,.cells #[.slice A5 l4.length c6,.slice A8 l7.length c9,.slice A11 l10.length c12,Vi p0.fEpoch,.slice A14 l13.length c15] 30 (0,0))::(100010,g1,.cells #[.slice Ap0_0 p0.fRing.length cp0_0,.slice Ap0_1 p0.fHints.length cp0_1,.slice Ap0_2 p0.fAnchors.length cp0_2,Vi p0.fEpoch,.slice Ap0_3 p0.fFlushes.length cp0_3] 30 (0,0))::H,(14,⟨.slice A14 l13.length c15,48,2,l13.length,l13.flatMap GFlush.enc⟩)::(13,⟨.slice A11 l10.length c12,55,2,l10.length,l10.flatMap GAnchor.enc⟩)::(12,⟨.slice A8 l7.length c9,9,1,l7.length,l7.flatMap (fun x : ByteArray=>[Value.string x])⟩)::(11,⟨.slice A5 l4.length c6,3,1,l4.length,l4.flatMap (fun x : Int=>[Value.int .i64 x])⟩)::R,φ⟩ (fun _ h=>h)<|c_ret ?_
 cases hm
 refine d_shut (tag:=11) rfl (fun φ16 q16'=>?_)
 have q16 : ∀ W,φ16 W→φ W:=fun W h=>(q16' W h).1
 have f17:=fun (W : World) (h : φ16 W)=>(q16' W h).2
 refine d_shut (tag:=12) rfl (fun φ18 q18'=>?_)
 have q18 : ∀ W,φ18 W→φ16 W:=fun W h=>(q18' W h).1
 have f19:=fun (W : World) (h : φ18 W)=>(q18' W h).2
 refine d_shut (tag:=13) rfl (fun φ20 q20'=>?_)
 have q20 : ∀ W,φ20 W→φ18 W:=fun W h=>(q20' W h).1
 have f21:=fun (W : World) (h : φ20 W)=>(q20' W h).2
 refine d_shut (tag:=14) rfl (fun φ22 q22'=>?_)
 have q22 : ∀ W,φ22 W→φ20 W:=fun W h=>(q22' W h).1
 have f23:=fun (W : World) (h : φ22 W)=>(q22' W h).2
 exact d_retC (A5,c6,A8,c9,A11,c12,A14,c15) Tryz.results8 (res_agg (tag:=100020) rfl rfl Tryz.isAgg30 Tryz.sizeOf30 (res_nil rfl)) ⟨hc6,hc9,hc12,hc15⟩ (fun W h=>ok_pre (H1:=[_,_,_]) (R1:=[]) h (fun W hφ=>⟨(q16 _ (q18 _ (q20 _ (q22 _ hφ)))),(fun W h=>f17 W (q18 _ (q20 _ (q22 _ h)))) W hφ,(fun W h=>f19 W (q20 _ (q22 _ h))) W hφ,(fun W h=>f21 W (q22 _ h)) W hφ,(fun W h=>f23 W h) W hφ⟩)) (.inr rfl)
noncomputable def m_ref13_node (p0 : Int) : Option Bool:=
  if 0 ≤ p0 then
    some (decide (p0 ≤ 63))
  else
    some false
theorem c_ref13_node {w0 : World} {M : Nat→Prop} {H : List (Nat×Nat×Obj)} {R : List (Nat×Row)} {φ : World→Prop} (p0 : Int) (r : Bool) (hm : m_ref13_node p0 = some r) :
    Cn Tryz.prog 79 #[Vi p0] ⟨w0,M,H,R,φ⟩ (fun x : Unit=>.bool r) (fun x=>True) (fun x=>⟨w0,M,H,R,φ⟩):=by
 unfold m_ref13_node at hm
 refine cn_intro (fn:=Tryz.f79) (N:=9) Tryz.func79 rfl Tryz.ntmps79 rfl<|c_seq<|c_region<|g_v rfl r_assign<|g_nil<|d_then<|c_seq<|c_region<|g_v rfl r_move<|g_v rfl (r_geq rfl rfl) ?_
 refine g_v rfl r_move ?_
 refine g_if rfl rfl rfl rfl rfl (fun h1=>?_) (fun h1=>?_)
 ·
  replace hm:=ite_t hm (of_decide_eq_true h1)
  refine g_v rfl r_move<|g_do rfl rfl rfl rfl rfl h1<|g_v rfl (r_leq rfl rfl)<|g_v rfl (r_pick1 rfl h1)<|g_v rfl r_assign<|g_nil<|d_then<|c_ret ?_
  cases hm
  exact d_retC () Tryz.results79 (res_tmp (res_nil rfl)) trivial (fun W h=>ok_pre (H1:=[]) (R1:=[]) h (fun W hφ=>hφ)) (.inr rfl)
 replace hm:=ite_f hm (of_decide_eq_false h1)
 refine g_no rfl rfl rfl rfl rfl h1<|g_v rfl (r_pick0 rfl h1)<|g_v rfl r_assign<|g_nil<|d_then<|c_ret ?_
 cases hm
 exact d_retC () Tryz.results79 (res_tmp (res_nil rfl)) trivial (fun W h=>ok_pre (H1:=[]) (R1:=[]) h (fun W hφ=>hφ)) (.inr rfl)
noncomputable def m_ref03_row_j1 (p0 : ByteArray) (l82 : List ByteArray) (i85 : Int) : Option ((List ByteArray)×Bool):=
  some (l82,decide (i85 = w64 ((p0.size : Int) - 1)))
noncomputable def m_ref03_row_s2 (p0 : ByteArray) (l101 : List ByteArray) (i104 : Int) : Option (((List ByteArray)×Int) ⊕ (((List ByteArray)×Int) ⊕ ((List ByteArray)×Bool))):=
  if i104 < (p0.size : Int) then
    (sat_ p0 i104).bind fun b122=>
    if b122 ≠ 0 then
      (sat_ p0 i104).bind fun b124=>
      if 63 < w64 b124 then
        some (.inr (.inr (([] : List ByteArray),false)))
      else
        if (p0.size : Int) < w64 ((w64 (i104 + 1)) + (w64 b124)) then
          some (.inr (.inr (([] : List ByteArray),false)))
        else
          (scutMid p0 (w64 (i104 + 1)) (w64 ((w64 (i104 + 1)) + (w64 b124)))).bind fun s127=>
          (app 16 l101 [s127]).bind fun l129=>
          some (.inl (l129,w64 ((w64 (i104 + 1)) + (w64 b124))))
    else
      some (.inr (.inl (l101,i104)))
  else
    some (.inr (.inl (l101,i104)))
noncomputable def m_ref03_row (p0 : ByteArray) : Option ((List ByteArray)×Bool):=
  (loop (fun s=>m_ref03_row_s2 p0 s.1 s.2) (([] : List ByteArray),0)).bind fun e=>Sum.elim (fun e=>m_ref03_row_j1 p0 e.1 e.2) (fun x=>some x) e
theorem c_ref03_row {w0 : World} {M : Nat→Prop} {H : List (Nat×Nat×Obj)} {R : List (Nat×Row)} {φ : World→Prop} (p0 : ByteArray) (r : (List ByteArray)×Bool) (hm : m_ref03_row p0 = some r) :
    Cn Tryz.prog 120 #[Vs p0] ⟨w0,M,H,R,φ⟩ (fun x : Option Addr×Nat=>.tuple #[.slice x.1 r.1.length x.2,.bool r.2]) (fun x=>r.1.length ≤ x.2) (fun x=>⟨w0,M,H,(2000,⟨.slice x.1 r.1.length x.2,9,1,r.1.length,r.1.flatMap (fun x : ByteArray=>[Value.string x])⟩)::R,φ⟩):=by
 unfold m_ref03_row at hm
 refine cn_intro (fn:=Tryz.f120) (N:=53) Tryz.func120 rfl Tryz.ntmps120 rfl<|c_seq<|c_region<|g_v rfl r_assign<|g_v rfl r_assign<|g_nil<|d_then<|c_seq<|c_region<|g_v rfl r_assign ?_
 refine g_nil<|d_then<|c_seq<|c_region<|g_v rfl r_assign<|g_nil<|d_then<|c_seq<|c_sta _ (fun W h=>nilR h 19 9 1) ?_
 refine c_cut (ι:=(List ByteArray)×Int×Option Addr×Nat) [0,4,5] (fun ⟨l82,i85,A83,c84⟩=>[(4,.slice A83 l82.length c84),(5,Vi i85)]) (fun ⟨l82,i85,A83,c84⟩=>⟨w0,M,H,(19,⟨.slice A83 l82.length c84,9,1,l82.length,l82.flatMap (fun x : ByteArray=>[Value.string x])⟩)::R,φ⟩) (fun ⟨l82,i85,A83,c84⟩=>m_ref03_row_j1 p0 l82 i85 = some r∧l82.length ≤ c84) ?_ (fun ⟨l82,i85,A83,c84⟩ u ⟨hm,hc84⟩=>?_)
 ·
  refine c_block ?_
  replace hm:=bnd hm
  obtain ⟨out2,hl2,hr2⟩:=hm
  obtain ⟨n120',hl2⟩:=loop_lp hl2
  refine c_loopU (ι:=Nat×(List ByteArray)×Int×Option Addr×Nat) [0,4,5] (fun ⟨n120,l101,i104,A102,c103⟩=>[(4,.slice A102 l101.length c103),(5,Vi i104)]) (fun ⟨n120,l101,i104,A102,c103⟩=>⟨w0,M,H,(19,⟨.slice A102 l101.length c103,9,1,l101.length,l101.flatMap (fun x : ByteArray=>[Value.string x])⟩)::R,φ⟩) (fun ⟨n120,l101,i104,A102,c103⟩=>Lp (fun s=>m_ref03_row_s2 p0 s.1 s.2) n120 (l101,i104) out2∧l101.length ≤ c103) (fun ⟨n120,l101,i104,A102,c103⟩=>n120) (n120',([] : List ByteArray),0,none,0) ⟨hl2,(Nat.le_refl 0)⟩ ⟨rfl,rfl,rfl,trivial⟩ (fun W h=>h.phi (fun W hφ=>hφ)) (fun ⟨n120,l101,i104,A102,c103⟩ u ⟨hlp,hc103⟩=>?_)
  obtain ⟨o2,hm,hnx2⟩:=lp_step hlp
  clear hlp
  replace hm : m_ref03_row_s2 p0 l101 i104 = some o2:=hm
  unfold m_ref03_row_s2 at hm
  refine c_flat [(0,Vs p0),(4,.slice A102 l101.length c103),(5,Vi i104)] ⟨rfl,rfl,rfl,trivial⟩ (fun u=>?_)
  refine c_sta ⟨w0,M,H,(19,⟨.slice A102 l101.length c103,9,1,l101.length,l101.flatMap (fun x : ByteArray=>[Value.string x])⟩)::R,φ⟩ (fun _ h=>h)<|c_seq<|c_seq<|c_region<|g_v rfl r_move<|g_v rfl r_move<|g_v rfl (r_len Tryz.underlying9 rfl)<|g_v rfl (r_lss rfl rfl)<|g_v rfl r_move ?_
  refine g_if rfl rfl rfl rfl rfl (fun h121=>?_) (fun h121=>?_)
  ·
   replace hm:=ite_t hm (of_decide_eq_true h121)
   refine g_v rfl r_move<|g_do rfl rfl rfl rfl rfl h121<|g_v rfl r_move<|g_do rfl rfl rfl rfl rfl h121 ?_
   replace hm:=bnd hm
   obtain ⟨b122,hb122,hm⟩:=hm
   refine g_v rfl (r_sat Tryz.underlying9 rfl rfl hb122)<|g_do rfl rfl rfl rfl rfl h121<|g_v rfl (r_neq rfl rfl)<|g_v rfl (r_pick1 rfl h121)<|g_nil<|d_then ?_
   refine c_flat [(0,Vs p0),(4,.slice A102 l101.length c103),(5,Vi i104),(16,.bool (decide (b122 ≠ 0)))] ⟨rfl,rfl,rfl,rfl,trivial⟩ (fun u=>?_)
   refine c_cond rfl (fun h123=>?_) (fun h123=>?_)
   ·
    replace hm:=ite_t hm (of_decide_eq_true h123)
    refine c_skip<|d_then<|c_block<|c_seq<|c_region<|g_v rfl r_move<|g_v rfl r_move ?_
    replace hm:=bnd hm
    obtain ⟨b124,hb124,hm⟩:=hm
    refine g_v rfl (r_sat Tryz.underlying9 rfl rfl hb124)<|g_v rfl (r_conv Tryz.underlying5 Tryz.underlying3 rfl rfl)<|g_v rfl r_assign<|g_nil<|d_then<|c_seq<|c_seq<|c_region<|g_v rfl r_move<|g_v rfl (r_gtr rfl rfl) ?_
    refine g_v rfl r_move ?_
    refine g_if rfl rfl rfl rfl rfl (fun h125=>?_) (fun h125=>?_)
    ·
     replace hm:=ite_f hm (of_decide_eq_false h125)
     refine g_v rfl r_move<|g_do rfl rfl rfl rfl rfl h125<|g_v rfl (r_add rfl rfl rfl)<|g_do rfl rfl rfl rfl rfl h125<|g_v rfl r_move<|g_do rfl rfl rfl rfl rfl h125<|g_v rfl (r_add rfl rfl rfl)<|g_do rfl rfl rfl rfl rfl h125<|g_v rfl r_move<|g_do rfl rfl rfl rfl rfl h125 ?_
     refine g_v rfl (r_len Tryz.underlying9 rfl)<|g_do rfl rfl rfl rfl rfl h125<|g_v rfl (r_gtr rfl rfl)<|g_v rfl (r_pick0 rfl h125)<|g_nil<|d_then ?_
     refine c_flat [(0,Vs p0),(4,.slice A102 l101.length c103),(5,Vi i104),(6,Vi (w64 b124)),(31,.bool (decide ((p0.size : Int) < w64 ((w64 (i104 + 1)) + (w64 b124)))))] ⟨rfl,rfl,rfl,rfl,rfl,trivial⟩ (fun u=>?_)
     refine c_cond rfl (fun h126=>?_) (fun h126=>?_)
     ·
      replace hm:=ite_t hm (of_decide_eq_true h126)
      refine c_seq<|c_region<|g_v rfl r_assign<|g_v rfl r_assign<|g_nil<|d_then<|c_ret<|d_ret_then<|d_ret_block<|d_ret_then ?_
      refine d_ret_block<|d_ret_then<|d_ret_then ?_
      replace hm:=nx_out (C:=(fun e : ((List ByteArray)×Int) ⊕ ((List ByteArray)×Bool)=>Sum.elim (fun e=>m_ref03_row_j1 p0 e.1 e.2) (fun x=>some x) e = some r)) hm hnx2 hr2
      replace hm : some (([] : List ByteArray),false) = some r:=hm
      cases hm
      refine d_sta _ (fun W h=>nilR h 28 9 1)<|d_sta _ (fun W h=>ok_frontR (t:=28) (t':=2000) h rfl) ?_
      exact d_retC (none,0) Tryz.results120 (res_tmp (res_tmp (res_nil rfl))) (Nat.le_refl 0) (fun W h=>(h.dropR (t:=19) rfl).phi (fun W hφ=>hφ)) (.inr rfl)
     replace hm:=ite_f hm (of_decide_eq_false h126)
     refine c_skip<|d_then<|c_seq<|c_region ?_
     iterate 3 refine g_v rfl r_move ?_
     refine g_v rfl (r_add rfl rfl rfl)<|g_v rfl r_move<|g_v rfl (r_add rfl rfl rfl)<|g_v rfl r_move<|g_v rfl (r_add rfl rfl rfl) ?_
     replace hm:=bnd hm
     obtain ⟨s127,hs127,hm⟩:=hm
     refine g_v rfl (r_scutMid Tryz.underlying9 rfl rfl rfl hs127) ?_
     refine g_e rfl (e_lit (tag:=100410) (l:=[s127]) (enc:=(fun x : ByteArray=>[Value.string x])) (sz:=1) rfl Tryz.underlying26 (lit9_2 _) rfl rfl (fun _=>rfl)) (fun g128 _=>?_)
     replace hm:=bnd hm
     obtain ⟨l129,hl129,hm⟩:=hm
     refine g_e rfl (e_appR (enc:=(fun x : ByteArray=>[Value.string x])) (l:=l101) (l1:=[s127]) (l2:=l129) (tag:=19) Tryz.underlying26 inf9_3 rfl (by decide) (by decide) (fun _=>rfl) (fun _=>rfl) rfl hc103 rfl rfl (fun W hS=>rowCl (tag:=100410) rfl W hS) hl129) (fun ⟨A130,c131⟩ hc131=>?_)
     refine g_v rfl r_assign<|g_nil<|d_then ?_
     refine c_flat [(0,Vs p0),(4,.slice A130 l129.length c131),(5,Vi i104),(6,Vi (w64 b124))] ⟨rfl,rfl,rfl,rfl,trivial⟩ (fun u=>?_)
     refine c_sta ⟨w0,M,H,(100410,⟨.slice (some ⟨g128,0,none⟩) [s127].length 1,9,1,[s127].length,[s127].flatMap (fun x : ByteArray=>[Value.string x])⟩)::(19,⟨.slice A130 l129.length c131,9,1,l129.length,l129.flatMap (fun x : ByteArray=>[Value.string x])⟩)::R,φ⟩ (fun _ h=>h)<|c_region<|g_v rfl r_move<|g_v rfl (r_add rfl rfl rfl)<|g_v rfl r_move<|g_v rfl (r_add rfl rfl rfl)<|g_v rfl r_assign<|g_nil<|d_normal_block ?_
     obtain ⟨n132,hn132,hlp⟩:=nx_inl hm hnx2
     exact d_round (n132,l129,w64 ((w64 (i104 + 1)) + (w64 b124)),A130,c131) ⟨hlp,hc131⟩ hn132 ⟨rfl,rfl,rfl,trivial⟩ (fun W h=>(h.dropR (t:=100410) rfl).phi (fun W hφ=>hφ))
    replace hm:=ite_t hm (of_decide_eq_true h125)
    iterate 6 refine g_no rfl rfl rfl rfl rfl h125 ?_
    refine g_v rfl (r_pick1 rfl h125)<|g_nil<|d_then ?_
    refine c_flat [(0,Vs p0),(4,.slice A102 l101.length c103),(5,Vi i104),(6,Vi (w64 b124)),(31,.bool true)] ⟨rfl,rfl,rfl,rfl,rfl,trivial⟩ (fun u=>?_)
    refine c_cond1 rfl rfl<|c_seq<|c_region<|g_v rfl r_assign<|g_v rfl r_assign<|g_nil<|d_then<|c_ret<|d_ret_then<|d_ret_block ?_
    refine d_ret_then<|d_ret_block<|d_ret_then<|d_ret_then ?_
    replace hm:=nx_out (C:=(fun e : ((List ByteArray)×Int) ⊕ ((List ByteArray)×Bool)=>Sum.elim (fun e=>m_ref03_row_j1 p0 e.1 e.2) (fun x=>some x) e = some r)) hm hnx2 hr2
    replace hm : some (([] : List ByteArray),false) = some r:=hm
    cases hm
    refine d_sta _ (fun W h=>nilR h 29 9 1)<|d_sta _ (fun W h=>ok_frontR (t:=29) (t':=2000) h rfl) ?_
    exact d_retC (none,0) Tryz.results120 (res_tmp (res_tmp (res_nil rfl))) (Nat.le_refl 0) (fun W h=>(h.dropR (t:=19) rfl).phi (fun W hφ=>hφ)) (.inr rfl)
   replace hm:=ite_f hm (of_decide_eq_false h123)
   refine c_exit<|d_exit_then<|d_exit_then<|d_exit_block ?_
   replace hm:=nx_out (C:=(fun e : ((List ByteArray)×Int) ⊕ ((List ByteArray)×Bool)=>Sum.elim (fun e=>m_ref03_row_j1 p0 e.1 e.2) (fun x=>some x) e = some r)) hm hnx2 hr2
   exact d_round (l101,i104,A102,c103) ⟨hm,hc103⟩ Nat.zero_lt_one ⟨rfl,rfl,rfl,trivial⟩ (fun W h=>h.phi (fun W hφ=>hφ))
  replace hm:=ite_f hm (of_decide_eq_false h121)
  iterate 3 refine g_no rfl rfl rfl rfl rfl h121 ?_
  refine g_v rfl (r_pick0 rfl h121)<|g_nil<|d_then<|c_cond0 rfl rfl<|c_exit<|d_exit_then<|d_exit_then<|d_exit_block ?_
  replace hm:=nx_out (C:=(fun e : ((List ByteArray)×Int) ⊕ ((List ByteArray)×Bool)=>Sum.elim (fun e=>m_ref03_row_j1 p0 e.1 e.2) (fun x=>some x) e = some r)) hm hnx2 hr2
  exact d_round (l101,i104,A102,c103) ⟨hm,hc103⟩ Nat.zero_lt_one ⟨rfl,rfl,rfl,trivial⟩ (fun W h=>h.phi (fun W hφ=>hφ))
 unfold m_ref03_row_j1 at hm
 refine d_flat [(0,Vs p0),(4,.slice A83 l82.length c84),(5,Vi i85)] ⟨rfl,rfl,rfl,trivial⟩ (fun u=>?_)
 refine d_sta ⟨w0,M,H,(19,⟨.slice A83 l82.length c84,9,1,l82.length,l82.flatMap (fun x : ByteArray=>[Value.string x])⟩)::R,φ⟩ (fun _ h=>h)<|d_then<|c_seq<|c_region ?_
 iterate 3 refine g_v rfl r_move ?_
 refine g_v rfl (r_len Tryz.underlying9 rfl)<|g_v rfl (r_sub rfl rfl rfl)<|g_v rfl (r_eql rfl rfl)<|g_v rfl r_assign<|g_v rfl r_assign<|g_nil<|d_then<|c_ret ?_
 cases hm
 refine d_sta _ (fun W h=>ok_frontR (t:=19) (t':=2000) h rfl) ?_
 exact d_retC (A83,c84) Tryz.results120 (res_tmp (res_tmp (res_nil rfl))) hc84 (fun W h=>h.phi (fun W hφ=>hφ)) (.inr rfl)
noncomputable def m_ref03_Check (p0 : ByteArray) : Option Int:=
  (m_ref03_row p0).bind fun (z7 : (List ByteArray)×Bool)=>
  if z7.2 = true then
    if 255 < (p0.size : Int) then
      some 11
    else
      some 0
  else
    some 10
theorem c_ref03_Check {w0 : World} {M : Nat→Prop} {H : List (Nat×Nat×Obj)} {R : List (Nat×Row)} {φ : World→Prop} (p0 : ByteArray) (r : Int) (hm : m_ref03_Check p0 = some r) :
    Cn Tryz.prog 102 #[Vs p0] ⟨w0,M,H,R,φ⟩ (fun x : Unit=>Vi r) (fun x=>True) (fun x=>⟨w0,M,H,R,φ⟩):=by
 unfold m_ref03_Check at hm
 refine cn_intro (fn:=Tryz.f102) (N:=15) Tryz.func102 rfl Tryz.ntmps102 rfl<|c_seq<|c_region<|g_v rfl r_assign<|g_nil<|d_then<|c_seq<|c_region<|g_v rfl r_move ?_
 replace hm:=bnd hm
 obtain ⟨⟨x1,x2⟩,hx3,hm⟩:=hm
 refine g_cn ⟨w0,M,_,_,φ⟩ (fun _ h=>h) Tryz.call120 rfl rfl (c_ref03_row p0 _ hx3) (fun ⟨A4,c5⟩ hc5=>?_)
 refine g_sta _ (fun W h=>(ok_frontR (t:=2000) (t':=100070) h rfl))<|g_v rfl r_move<|g_v rfl (r_extract rfl rfl)<|g_v rfl (r_extract rfl rfl)<|g_v rfl r_assign<|g_v rfl r_assign<|g_nil<|d_then<|c_seq<|c_seq ?_
 refine c_region<|g_v rfl r_move<|g_v rfl (r_not rfl)<|g_nil<|d_then ?_
 refine c_flat [(0,Vs p0),(11,.bool (!x2))] ⟨rfl,rfl,trivial⟩ (fun u=>?_)
 refine c_sta ⟨w0,M,H,(100070,⟨.slice A4 x1.length c5,9,1,x1.length,x1.flatMap (fun x : ByteArray=>[Value.string x])⟩)::R,φ⟩ (fun _ h=>h) ?_
 refine c_cond rfl (fun h8=>?_) (fun h8=>?_)
 ·
  have h8' : x2 = false:=by revert h8; cases x2 <;> simp
  replace hm:=ite_f hm (bool_nt h8')
  refine c_seq<|c_region<|g_v rfl r_assign<|g_nil<|d_then<|c_ret<|d_ret_then ?_
  cases hm
  exact d_retC () Tryz.results102 (res_tmp (res_nil rfl)) trivial (fun W h=>ok_pre (H1:=[]) (R1:=[_]) h (fun W hφ=>hφ)) (.inr rfl)
 have h8' : x2 = true:=by revert h8; cases x2 <;> simp
 replace hm:=ite_t hm h8'
 refine c_skip<|d_then<|c_seq<|c_seq<|c_region<|g_v rfl r_move<|g_v rfl (r_len Tryz.underlying9 rfl)<|g_v rfl (r_gtr rfl rfl)<|g_nil<|d_then ?_
 refine c_cond rfl (fun h9=>?_) (fun h9=>?_)
 ·
  replace hm:=ite_t hm (of_decide_eq_true h9)
  refine c_seq<|c_region<|g_v rfl r_assign<|g_nil<|d_then<|c_ret<|d_ret_then ?_
  cases hm
  exact d_retC () Tryz.results102 (res_tmp (res_nil rfl)) trivial (fun W h=>ok_pre (H1:=[]) (R1:=[_]) h (fun W hφ=>hφ)) (.inr rfl)
 replace hm:=ite_f hm (of_decide_eq_false h9)
 refine c_skip<|d_then<|c_seq<|c_region<|g_v rfl r_assign<|g_nil<|d_then<|c_ret ?_
 cases hm
 exact d_retC () Tryz.results102 (res_tmp (res_nil rfl)) trivial (fun W h=>ok_pre (H1:=[]) (R1:=[_]) h (fun W hφ=>hφ)) (.inr rfl)
noncomputable def m_ref13_name (p0 : ByteArray) : Option Bool:=
  (m_ref03_Check p0).bind fun x1=>
  some (decide (x1 = 0))
theorem c_ref13_name {w0 : World} {M : Nat→Prop} {H : List (Nat×Nat×Obj)} {R : List (Nat×Row)} {φ : World→Prop} (p0 : ByteArray) (r : Bool) (hm : m_ref13_name p0 = some r) :
    Cn Tryz.prog 80 #[Vs p0] ⟨w0,M,H,R,φ⟩ (fun x : Unit=>.bool r) (fun x=>True) (fun x=>⟨w0,M,H,R,φ⟩):=by
 unfold m_ref13_name at hm
 refine cn_intro (fn:=Tryz.f80) (N:=6) Tryz.func80 rfl Tryz.ntmps80 rfl<|c_seq<|c_region<|g_v rfl r_assign<|g_nil<|d_then<|c_seq<|c_region<|g_v rfl r_move ?_
 replace hm:=bnd hm
 obtain ⟨x1,hx2,hm⟩:=hm
 refine g_cn ⟨w0,M,_,_,φ⟩ (fun _ h=>h) Tryz.call102 rfl rfl (c_ref03_Check p0 _ hx2) (fun _ _=>?_)
 refine g_v rfl (r_eql rfl rfl)<|g_v rfl r_assign<|g_nil<|d_then<|c_ret ?_
 cases hm
 exact d_retC () Tryz.results80 (res_tmp (res_nil rfl)) trivial (fun W h=>ok_pre (H1:=[]) (R1:=[]) h (fun W hφ=>hφ)) (.inr rfl)
noncomputable def m_ref13_Check_j2  (b51 : Bool) : Option Int:=
  if b51 = true then
    some 0
  else
    some 1
noncomputable def m_ref13_Check_s5 (p0 : GOrder) (b73 : Bool) (i74 : Int) : Option ((Bool×Int) ⊕ Bool):=
  if i74 < (p0.fHints.length : Int) then
    if i74 < 13 then
      if b73 = true then
        (at_ p0.fHints i74).bind fun x88=>
        some (.inl (decide ((x88.size : Int) = 4),w64 (i74 + 1)))
      else
        some (.inl (false,w64 (i74 + 1)))
    else
      some (.inr b73)
  else
    some (.inr b73)
noncomputable def m_ref13_Check_j4 (p0 : GOrder) (b64 : Bool) : Option Int:=
  (loop (fun s=>m_ref13_Check_s5 p0 s.1 s.2) (b64,0)).bind fun e=>m_ref13_Check_j2 e
noncomputable def m_ref13_Check_j3 (x2 : Bool) (b5 : Bool) (p0 : GOrder) (x6 : Bool) (x8 : Bool) (b54 : Bool) : Option Int:=
  if b54 = true then
    if x2 = true then
      if b5 = true then
        if p0.fZone = (⟨#[]⟩ : ByteArray) then
          m_ref13_Check_j2 (decide ((p0.fHints.length : Int) = 0))
        else
          m_ref13_Check_j2 false
      else
        m_ref13_Check_j2 false
    else
      m_ref13_Check_j2 false
  else
    if p0.fKind = 3 then
      if p0.fNode = 0 then
        if b5 = true then
          if p0.fZone = (⟨#[]⟩ : ByteArray) then
            if 0 < (p0.fHints.length : Int) then
              m_ref13_Check_j4 p0 (decide ((p0.fHints.length : Int) ≤ 13))
            else
              m_ref13_Check_j4 p0 false
          else
            m_ref13_Check_j4 p0 false
        else
          m_ref13_Check_j4 p0 false
      else
        m_ref13_Check_j4 p0 false
    else
      if p0.fKind = 4 then
        if p0.fNode = 0 then
          if x6 = true then
            if (p0.fText.size : Int) ≤ 200 then
              if p0.fZone = (⟨#[]⟩ : ByteArray) then
                m_ref13_Check_j2 (decide ((p0.fHints.length : Int) = 0))
              else
                m_ref13_Check_j2 false
            else
              m_ref13_Check_j2 false
          else
            m_ref13_Check_j2 false
        else
          m_ref13_Check_j2 false
      else
        if p0.fKind = 5 then
          if p0.fNode = 0 then
            if x8 = true then
              if b5 = true then
                m_ref13_Check_j2 (decide ((p0.fHints.length : Int) = 0))
              else
                m_ref13_Check_j2 false
            else
              m_ref13_Check_j2 false
          else
            m_ref13_Check_j2 false
        else
          m_ref13_Check_j2 false
noncomputable def m_ref13_Check_j1 (p0 : GOrder) (x2 : Bool) (b5 : Bool) : Option Int:=
  (m_ref13_name p0.fName).bind fun x6=>
  (m_ref13_name p0.fZone).bind fun x8=>
  if p0.fKind = 1 then
    m_ref13_Check_j3 x2 b5 p0 x6 x8 (decide (p0.fKind = 1))
  else
    m_ref13_Check_j3 x2 b5 p0 x6 x8 (decide (p0.fKind = 2))
noncomputable def m_ref13_Check (p0 : GOrder) : Option Int:=
  (m_ref13_node p0.fNode).bind fun x2=>
  if p0.fName = (⟨#[]⟩ : ByteArray) then
    m_ref13_Check_j1 p0 x2 (decide (p0.fText = (⟨#[]⟩ : ByteArray)))
  else
    m_ref13_Check_j1 p0 x2 false
theorem c_ref13_Check {w0 : World} {M : Nat→Prop} {H : List (Nat×Nat×Obj)} {R : List (Nat×Row)} {φ : World→Prop} (p0 : GOrder) (Ap0_0 : Option Addr) (cp0_0 : Nat) (hcp0_0 : p0.fHints.length ≤ cp0_0) (fp0_0 : ∀ W,(Sta.mk w0 M H R φ).ok W→Cl W Ap0_0 (p0.fHints.flatMap (fun x : ByteArray=>[Value.string x]))) (r : Int) (hm : m_ref13_Check p0 = some r) :
    Cn Tryz.prog 40 #[.agg #[Vi p0.fKind,Vi p0.fNode,Vs p0.fName,Vs p0.fText,Vs p0.fZone,.slice Ap0_0 p0.fHints.length cp0_0]] ⟨w0,M,H,R,φ⟩ (fun x : Unit=>Vi r) (fun x=>True) (fun x=>⟨w0,M,H,R,φ⟩):=by
 unfold m_ref13_Check at hm
 refine cn_intro (fn:=Tryz.f40) (N:=135) Tryz.func40 rfl Tryz.ntmps40 rfl<|c_seq<|c_region ?_
 refine g_e rfl (e_box 100010 rfl) (fun g1 _=>?_)
 refine g_v rfl r_assign<|g_nil<|d_then<|c_seq<|c_region<|g_v rfl (r_field (n:=1) Tryz.underlying32 rfl Tryz.sizeOf3 rfl rfl)<|g_v rfl (r_load (tag:=100010) rfl rfl rfl Tryz.isAgg3) ?_
 replace hm:=bnd hm
 obtain ⟨x2,hx3,hm⟩:=hm
 refine g_cn ⟨w0,M,_,_,φ⟩ (fun _ h=>h) Tryz.call79 rfl rfl (c_ref13_node p0.fNode _ hx3) (fun _ _=>?_)
 refine g_v rfl r_assign<|g_nil<|d_then<|c_seq ?_
 refine c_cut (ι:=Bool) [1,3,4] (fun b5=>[(4,.bool b5)]) (fun b5=>⟨w0,M,(100010,g1,.cells #[Vi p0.fKind,Vi p0.fNode,Vs p0.fName,Vs p0.fText,Vs p0.fZone,.slice Ap0_0 p0.fHints.length cp0_0] 32 (0,0))::H,R,φ⟩) (fun b5=>m_ref13_Check_j1 p0 x2 b5 = some r) ?_ (fun b5 u hm=>?_)
 ·
  refine c_region<|g_v rfl (r_field (n:=2) Tryz.underlying32 rfl Tryz.sizeOf9 rfl rfl)<|g_v rfl (r_load (tag:=100010) rfl rfl rfl Tryz.isAgg9)<|g_v rfl (r_eqlT rfl rfl)<|g_v rfl r_move<|g_sta ⟨w0,M,(100010,g1,.cells #[Vi p0.fKind,Vi p0.fNode,Vs p0.fName,Vs p0.fText,Vs p0.fZone,.slice Ap0_0 p0.fHints.length cp0_0] 32 (0,0))::H,R,φ⟩ (fun _ h=>h) ?_
  refine g_if rfl rfl rfl rfl rfl (fun h108=>?_) (fun h108=>?_)
  ·
   replace hm:=ite_t hm (of_decide_eq_true h108)
   refine g_v rfl (r_field (n:=3) Tryz.underlying32 rfl Tryz.sizeOf9 rfl rfl)<|g_do rfl rfl rfl rfl rfl h108<|g_v rfl (r_load (tag:=100010) rfl rfl rfl Tryz.isAgg9)<|g_do rfl rfl rfl rfl rfl h108<|g_v rfl (r_eqlT rfl rfl)<|g_v rfl (r_pick1 rfl h108)<|g_v rfl r_assign<|g_nil ?_
   exact d_round (decide (p0.fText = eB)) hm Nat.zero_lt_one ⟨rfl,rfl,rfl,trivial⟩ (fun W h=>h.phi (fun W hφ=>hφ))
  replace hm:=ite_f hm (of_decide_eq_false h108)
  refine g_no rfl rfl rfl rfl rfl h108<|g_no rfl rfl rfl rfl rfl h108<|g_v rfl (r_pick0 rfl h108)<|g_v rfl r_assign<|g_nil ?_
  exact d_round false hm Nat.zero_lt_one ⟨rfl,rfl,rfl,trivial⟩ (fun W h=>h.phi (fun W hφ=>hφ))
 unfold m_ref13_Check_j1 at hm
 refine d_flat [(1,Vp g1),(3,.bool x2),(4,.bool b5)] ⟨rfl,rfl,rfl,trivial⟩ (fun u=>?_)
 refine d_sta ⟨w0,M,(100010,g1,.cells #[Vi p0.fKind,Vi p0.fNode,Vs p0.fName,Vs p0.fText,Vs p0.fZone,.slice Ap0_0 p0.fHints.length cp0_0] 32 (0,0))::H,R,φ⟩ (fun _ h=>h)<|d_then<|c_seq<|c_region<|g_v rfl (r_field (n:=2) Tryz.underlying32 rfl Tryz.sizeOf9 rfl rfl)<|g_v rfl (r_load (tag:=100010) rfl rfl rfl Tryz.isAgg9) ?_
 replace hm:=bnd hm
 obtain ⟨x6,hx7,hm⟩:=hm
 refine g_cn ⟨w0,M,_,_,φ⟩ (fun _ h=>h) Tryz.call80 rfl rfl (c_ref13_name p0.fName _ hx7) (fun _ _=>?_)
 refine g_v rfl r_assign<|g_nil<|d_then<|c_seq<|c_region<|g_v rfl (r_field (n:=4) Tryz.underlying32 rfl Tryz.sizeOf9 rfl rfl)<|g_v rfl (r_load (tag:=100010) rfl rfl rfl Tryz.isAgg9) ?_
 replace hm:=bnd hm
 obtain ⟨x8,hx9,hm⟩:=hm
 refine g_cn ⟨w0,M,_,_,φ⟩ (fun _ h=>h) Tryz.call80 rfl rfl (c_ref13_name p0.fZone _ hx9) (fun _ _=>?_)
 refine g_v rfl r_assign<|g_nil<|d_then<|c_seq ?_
 refine c_cut (ι:=Bool) [3] (fun b51=>[(3,.bool b51)]) (fun b51=>⟨w0,M,H,R,φ⟩) (fun b51=>m_ref13_Check_j2 b51 = some r) ?_ (fun b51 u hm=>?_)
 ·
  refine c_seq<|c_region<|g_v rfl (r_field (n:=0) Tryz.underlying32 rfl Tryz.sizeOf3 rfl rfl)<|g_v rfl (r_load (tag:=100010) rfl rfl rfl Tryz.isAgg3)<|g_nil<|d_then ?_
  refine c_flat [(1,Vp g1),(3,.bool x2),(4,.bool b5),(5,.bool x6),(6,.bool x8),(26,Vi p0.fKind)] ⟨rfl,rfl,rfl,rfl,rfl,rfl,trivial⟩ (fun u=>?_)
  refine c_block<|c_seq ?_
  refine c_cut (ι:=Bool) [1,3,4,5,6,26,27] (fun b54=>[(27,.bool b54)]) (fun b54=>⟨w0,M,(100010,g1,.cells #[Vi p0.fKind,Vi p0.fNode,Vs p0.fName,Vs p0.fText,Vs p0.fZone,.slice Ap0_0 p0.fHints.length cp0_0] 32 (0,0))::H,R,φ⟩) (fun b54=>m_ref13_Check_j3 x2 b5 p0 x6 x8 b54 = some r) ?_ (fun b54 u hm=>?_)
  ·
   refine c_seq<|c_region<|g_v rfl (r_eql rfl rfl)<|g_v rfl r_assign<|g_nil<|d_then ?_
   refine c_cond rfl (fun h107=>?_) (fun h107=>?_)
   ·
    replace hm:=ite_t hm (of_decide_eq_true h107)
    refine c_skip ?_
    exact d_round (decide (p0.fKind = 1)) hm Nat.zero_lt_one ⟨rfl,rfl,rfl,rfl,rfl,rfl,rfl,trivial⟩ (fun W h=>h.phi (fun W hφ=>hφ))
   replace hm:=ite_f hm (of_decide_eq_false h107)
   refine c_region<|g_v rfl (r_eql rfl rfl)<|g_v rfl r_assign<|g_nil ?_
   exact d_round (decide (p0.fKind = 2)) hm Nat.zero_lt_one ⟨rfl,rfl,rfl,rfl,rfl,rfl,rfl,trivial⟩ (fun W h=>h.phi (fun W hφ=>hφ))
  unfold m_ref13_Check_j3 at hm
  refine d_flat [(1,Vp g1),(3,.bool x2),(4,.bool b5),(5,.bool x6),(6,.bool x8),(26,Vi p0.fKind),(27,.bool b54)] ⟨rfl,rfl,rfl,rfl,rfl,rfl,rfl,trivial⟩ (fun u=>?_)
  refine d_then ?_
  refine c_cond rfl (fun h55=>?_) (fun h55=>?_)
  ·
   replace hm:=ite_t hm h55
   refine c_region<|g_v rfl r_move<|g_v rfl r_move ?_
   refine g_if rfl rfl rfl rfl rfl (fun h56=>?_) (fun h56=>?_)
   ·
    replace hm:=ite_t hm h56
    refine g_v rfl r_move<|g_v rfl (r_pick1 rfl h56)<|g_v rfl r_move ?_
    refine g_if rfl rfl rfl rfl rfl (fun h57=>?_) (fun h57=>?_)
    ·
     replace hm:=ite_t hm h57
     refine g_v rfl (r_field (n:=4) Tryz.underlying32 rfl Tryz.sizeOf9 rfl rfl)<|g_do rfl rfl rfl rfl rfl h57<|g_v rfl (r_load (tag:=100010) rfl rfl rfl Tryz.isAgg9)<|g_do rfl rfl rfl rfl rfl h57<|g_v rfl (r_eqlT rfl rfl)<|g_v rfl (r_pick1 rfl h57)<|g_v rfl r_move ?_
     refine g_if rfl rfl rfl rfl rfl (fun h58=>?_) (fun h58=>?_)
     ·
      replace hm:=ite_t hm (of_decide_eq_true h58)
      refine g_v rfl (r_field (n:=5) Tryz.underlying32 rfl Tryz.sizeOf26 rfl rfl)<|g_do rfl rfl rfl rfl rfl h58<|g_v rfl (r_load (tag:=100010) rfl rfl rfl Tryz.isAgg26)<|g_do rfl rfl rfl rfl rfl h58<|g_v rfl (r_lenL Tryz.underlying26 rfl)<|g_do rfl rfl rfl rfl rfl h58<|g_v rfl (r_eql rfl rfl)<|g_v rfl (r_pick1 rfl h58)<|g_v rfl r_assign<|g_nil ?_
      refine d_normal_block ?_
      exact d_round (decide ((p0.fHints.length : Int) = 0)) hm Nat.zero_lt_one ⟨rfl,trivial⟩ (fun W h=>(h.dropH (t:=100010) rfl).phi (fun W hφ=>hφ))
     replace hm:=ite_f hm (of_decide_eq_false h58)
     iterate 3 refine g_no rfl rfl rfl rfl rfl h58 ?_
     refine g_v rfl (r_pick0 rfl h58)<|g_v rfl r_assign<|g_nil<|d_normal_block ?_
     exact d_round false hm Nat.zero_lt_one ⟨rfl,trivial⟩ (fun W h=>(h.dropH (t:=100010) rfl).phi (fun W hφ=>hφ))
    replace hm:=ite_f hm (bool_nt h57)
    refine g_no rfl rfl rfl rfl rfl h57<|g_no rfl rfl rfl rfl rfl h57<|g_v rfl (r_pick0 rfl h57)<|g_v rfl r_move ?_
    iterate 4 refine g_no rfl rfl rfl rfl rfl rfl ?_
    refine g_v rfl (r_pick0 rfl rfl)<|g_v rfl r_assign<|g_nil<|d_normal_block ?_
    exact d_round false hm Nat.zero_lt_one ⟨rfl,trivial⟩ (fun W h=>(h.dropH (t:=100010) rfl).phi (fun W hφ=>hφ))
   replace hm:=ite_f hm (bool_nt h56)
   refine g_v rfl (r_pick0 rfl h56)<|g_v rfl r_move ?_
   iterate 3 refine g_no rfl rfl rfl rfl rfl rfl ?_
   refine g_v rfl (r_pick0 rfl rfl)<|g_v rfl r_move ?_
   iterate 4 refine g_no rfl rfl rfl rfl rfl rfl ?_
   refine g_v rfl (r_pick0 rfl rfl)<|g_v rfl r_assign<|g_nil<|d_normal_block ?_
   exact d_round false hm Nat.zero_lt_one ⟨rfl,trivial⟩ (fun W h=>(h.dropH (t:=100010) rfl).phi (fun W hφ=>hφ))
  replace hm:=ite_f hm (bool_nt h55)
  refine c_seq<|c_region<|g_v rfl (r_eql rfl rfl)<|g_v rfl r_assign<|g_nil<|d_then ?_
  refine c_cond rfl (fun h59=>?_) (fun h59=>?_)
  ·
   replace hm:=ite_t hm (of_decide_eq_true h59)
   refine c_seq ?_
   refine c_cut (ι:=Bool) [1,3] (fun b64=>[(3,.bool b64)]) (fun b64=>⟨w0,M,(100010,g1,.cells #[Vi p0.fKind,Vi p0.fNode,Vs p0.fName,Vs p0.fText,Vs p0.fZone,.slice Ap0_0 p0.fHints.length cp0_0] 32 (0,0))::H,R,φ⟩) (fun b64=>m_ref13_Check_j4 p0 b64 = some r) ?_ (fun b64 u hm=>?_)
   ·
    refine c_region<|g_v rfl (r_field (n:=1) Tryz.underlying32 rfl Tryz.sizeOf3 rfl rfl)<|g_v rfl (r_load (tag:=100010) rfl rfl rfl Tryz.isAgg3)<|g_v rfl (r_eql rfl rfl)<|g_v rfl r_move ?_
    refine g_if rfl rfl rfl rfl rfl (fun h94=>?_) (fun h94=>?_)
    ·
     replace hm:=ite_t hm (of_decide_eq_true h94)
     refine g_v rfl r_move<|g_v rfl (r_pick1 rfl h94)<|g_v rfl r_move ?_
     refine g_if rfl rfl rfl rfl rfl (fun h95=>?_) (fun h95=>?_)
     ·
      replace hm:=ite_t hm h95
      refine g_v rfl (r_field (n:=4) Tryz.underlying32 rfl Tryz.sizeOf9 rfl rfl)<|g_do rfl rfl rfl rfl rfl h95<|g_v rfl (r_load (tag:=100010) rfl rfl rfl Tryz.isAgg9)<|g_do rfl rfl rfl rfl rfl h95<|g_v rfl (r_eqlT rfl rfl)<|g_v rfl (r_pick1 rfl h95)<|g_v rfl r_move ?_
      refine g_if rfl rfl rfl rfl rfl (fun h96=>?_) (fun h96=>?_)
      ·
       replace hm:=ite_t hm (of_decide_eq_true h96)
       refine g_v rfl (r_field (n:=5) Tryz.underlying32 rfl Tryz.sizeOf26 rfl rfl)<|g_do rfl rfl rfl rfl rfl h96<|g_v rfl (r_load (tag:=100010) rfl rfl rfl Tryz.isAgg26)<|g_do rfl rfl rfl rfl rfl h96<|g_v rfl (r_lenL Tryz.underlying26 rfl)<|g_do rfl rfl rfl rfl rfl h96<|g_v rfl (r_gtr rfl rfl)<|g_v rfl (r_pick1 rfl h96)<|g_v rfl r_move ?_
       refine g_if rfl rfl rfl rfl rfl (fun h97=>?_) (fun h97=>?_)
       ·
        replace hm:=ite_t hm (of_decide_eq_true h97)
        refine g_v rfl (r_field (n:=5) Tryz.underlying32 rfl Tryz.sizeOf26 rfl rfl)<|g_do rfl rfl rfl rfl rfl h97<|g_v rfl (r_load (tag:=100010) rfl rfl rfl Tryz.isAgg26)<|g_do rfl rfl rfl rfl rfl h97<|g_v rfl (r_lenL Tryz.underlying26 rfl)<|g_do rfl rfl rfl rfl rfl h97<|g_v rfl (r_leq rfl rfl)<|g_v rfl (r_pick1 rfl h97)<|g_v rfl r_assign<|g_nil ?_
        exact d_round (decide ((p0.fHints.length : Int) ≤ 13)) hm Nat.zero_lt_one ⟨rfl,rfl,trivial⟩ (fun W h=>h.phi (fun W hφ=>hφ))
       replace hm:=ite_f hm (of_decide_eq_false h97)
       iterate 3 refine g_no rfl rfl rfl rfl rfl h97 ?_
       refine g_v rfl (r_pick0 rfl h97)<|g_v rfl r_assign<|g_nil ?_
       exact d_round false hm Nat.zero_lt_one ⟨rfl,rfl,trivial⟩ (fun W h=>h.phi (fun W hφ=>hφ))
      replace hm:=ite_f hm (of_decide_eq_false h96)
      iterate 3 refine g_no rfl rfl rfl rfl rfl h96 ?_
      refine g_v rfl (r_pick0 rfl h96)<|g_v rfl r_move ?_
      iterate 4 refine g_no rfl rfl rfl rfl rfl rfl ?_
      refine g_v rfl (r_pick0 rfl rfl)<|g_v rfl r_assign<|g_nil ?_
      exact d_round false hm Nat.zero_lt_one ⟨rfl,rfl,trivial⟩ (fun W h=>h.phi (fun W hφ=>hφ))
     replace hm:=ite_f hm (bool_nt h95)
     refine g_no rfl rfl rfl rfl rfl h95<|g_no rfl rfl rfl rfl rfl h95<|g_v rfl (r_pick0 rfl h95)<|g_v rfl r_move ?_
     iterate 4 refine g_no rfl rfl rfl rfl rfl rfl ?_
     refine g_v rfl (r_pick0 rfl rfl)<|g_v rfl r_move ?_
     iterate 4 refine g_no rfl rfl rfl rfl rfl rfl ?_
     refine g_v rfl (r_pick0 rfl rfl)<|g_v rfl r_assign<|g_nil ?_
     exact d_round false hm Nat.zero_lt_one ⟨rfl,rfl,trivial⟩ (fun W h=>h.phi (fun W hφ=>hφ))
    replace hm:=ite_f hm (of_decide_eq_false h94)
    refine g_v rfl (r_pick0 rfl h94)<|g_v rfl r_move ?_
    iterate 3 refine g_no rfl rfl rfl rfl rfl rfl ?_
    refine g_v rfl (r_pick0 rfl rfl)<|g_v rfl r_move ?_
    iterate 4 refine g_no rfl rfl rfl rfl rfl rfl ?_
    refine g_v rfl (r_pick0 rfl rfl)<|g_v rfl r_move ?_
    iterate 4 refine g_no rfl rfl rfl rfl rfl rfl ?_
    refine g_v rfl (r_pick0 rfl rfl)<|g_v rfl r_assign<|g_nil ?_
    exact d_round false hm Nat.zero_lt_one ⟨rfl,rfl,trivial⟩ (fun W h=>h.phi (fun W hφ=>hφ))
   unfold m_ref13_Check_j4 at hm
   refine d_flat [(1,Vp g1),(3,.bool b64)] ⟨rfl,rfl,trivial⟩ (fun u=>?_)
   refine d_then<|c_seq<|c_region<|g_v rfl r_assign<|g_nil<|d_then<|c_block ?_
   replace hm:=bnd hm
   obtain ⟨out5,hl5,hr5⟩:=hm
   obtain ⟨n84',hl5⟩:=loop_lp hl5
   refine c_loopU (ι:=Nat×Bool×Int) [1,3,7] (fun ⟨n84,b73,i74⟩=>[(3,.bool b73),(7,Vi i74)]) (fun ⟨n84,b73,i74⟩=>⟨w0,M,(100010,g1,.cells #[Vi p0.fKind,Vi p0.fNode,Vs p0.fName,Vs p0.fText,Vs p0.fZone,.slice Ap0_0 p0.fHints.length cp0_0] 32 (0,0))::H,R,φ⟩) (fun ⟨n84,b73,i74⟩=>Lp (fun s=>m_ref13_Check_s5 p0 s.1 s.2) n84 (b73,i74) out5) (fun ⟨n84,b73,i74⟩=>n84) (n84',b64,0) hl5 ⟨rfl,rfl,rfl,trivial⟩ (fun W h=>h.phi (fun W hφ=>hφ)) (fun ⟨n84,b73,i74⟩ u hlp=>?_)
   obtain ⟨o5,hm,hnx5⟩:=lp_step hlp
   clear hlp
   replace hm : m_ref13_Check_s5 p0 b73 i74 = some o5:=hm
   unfold m_ref13_Check_s5 at hm
   refine c_flat [(1,Vp g1),(3,.bool b73),(7,Vi i74)] ⟨rfl,rfl,rfl,trivial⟩ (fun u=>?_)
   refine c_seq<|c_seq<|c_region<|g_v rfl r_move<|g_v rfl (r_field (n:=5) Tryz.underlying32 rfl Tryz.sizeOf26 rfl rfl)<|g_v rfl (r_load (tag:=100010) rfl rfl rfl Tryz.isAgg26)<|g_v rfl (r_lenL Tryz.underlying26 rfl)<|g_v rfl (r_lss rfl rfl)<|g_v rfl r_move ?_
   refine g_if rfl rfl rfl rfl rfl (fun h85=>?_) (fun h85=>?_)
   ·
    replace hm:=ite_t hm (of_decide_eq_true h85)
    refine g_v rfl r_move<|g_do rfl rfl rfl rfl rfl h85<|g_v rfl (r_lss rfl rfl)<|g_v rfl (r_pick1 rfl h85)<|g_nil<|d_then ?_
    refine c_flat [(1,Vp g1),(3,.bool b73),(7,Vi i74),(78,.bool (decide (i74 < 13)))] ⟨rfl,rfl,rfl,rfl,trivial⟩ (fun u=>?_)
    refine c_cond rfl (fun h86=>?_) (fun h86=>?_)
    ·
     replace hm:=ite_t hm (of_decide_eq_true h86)
     refine c_skip<|d_then<|c_seq<|c_block<|c_region<|g_v rfl r_move<|g_v rfl r_move ?_
     refine g_if rfl rfl rfl rfl rfl (fun h87=>?_) (fun h87=>?_)
     ·
      replace hm:=ite_t hm h87
      refine g_v rfl (r_field (n:=5) Tryz.underlying32 rfl Tryz.sizeOf26 rfl rfl)<|g_do rfl rfl rfl rfl rfl h87<|g_v rfl (r_load (tag:=100010) rfl rfl rfl Tryz.isAgg26)<|g_do rfl rfl rfl rfl rfl h87<|g_v rfl r_move<|g_do rfl rfl rfl rfl rfl h87 ?_
      replace hm:=bnd hm
      obtain ⟨x88,hx88,hm⟩:=hm
      refine g_know _ (fun W hS=>cl_at (p:=(Sta.mk w0 M H R φ).ok) (sz:=1) (fun _=>rfl) (by decide) (ok_pre (H1:=[_]) (R1:=[]) hS (fun W h=>h)) fp0_0 hx88) ?_
      rintro ⟨ad89,hA91,f90⟩
      refine g_v rfl (r_ix Tryz.underlying26 Tryz.sizeOf9 rfl hA91 rfl hx88)<|g_do rfl rfl rfl rfl rfl h87<|g_v rfl (r_ld rfl Tryz.isAgg9 (fun W hS=>Cl.head (f90 W (ok_pre (H1:=[_]) (R1:=[]) hS (fun W h=>h)))))<|g_do rfl rfl rfl rfl rfl h87<|g_v rfl (r_len Tryz.underlying9 rfl)<|g_do rfl rfl rfl rfl rfl h87<|g_v rfl (r_eql rfl rfl)<|g_v rfl (r_pick1 rfl h87)<|g_v rfl r_assign<|g_nil ?_
      refine d_normal_block<|d_then ?_
      refine c_flat [(1,Vp g1),(3,.bool (decide ((x88.size : Int) = 4))),(7,Vi i74)] ⟨rfl,rfl,rfl,trivial⟩ (fun u=>?_)
      refine c_region<|g_v rfl r_move<|g_v rfl (r_add rfl rfl rfl)<|g_v rfl r_assign<|g_nil ?_
      obtain ⟨n92,hn92,hlp⟩:=nx_inl hm hnx5
      exact d_round (n92,decide ((x88.size : Int) = 4),w64 (i74 + 1)) hlp hn92 ⟨rfl,rfl,rfl,trivial⟩ (fun W h=>h.phi (fun W hφ=>hφ))
     replace hm:=ite_f hm (bool_nt h87)
     iterate 6 refine g_no rfl rfl rfl rfl rfl h87 ?_
     refine g_v rfl (r_pick0 rfl h87)<|g_v rfl r_assign<|g_nil<|d_normal_block<|d_then<|c_region<|g_v rfl r_move<|g_v rfl (r_add rfl rfl rfl)<|g_v rfl r_assign<|g_nil ?_
     obtain ⟨n93,hn93,hlp⟩:=nx_inl hm hnx5
     exact d_round (n93,false,w64 (i74 + 1)) hlp hn93 ⟨rfl,rfl,rfl,trivial⟩ (fun W h=>h.phi (fun W hφ=>hφ))
    replace hm:=ite_f hm (of_decide_eq_false h86)
    refine c_exit<|d_exit_then<|d_exit_then<|d_exit_block<|d_normal_block ?_
    replace hm:=nx_out (C:=(fun e : Bool=>m_ref13_Check_j2 e = some r)) hm hnx5 hr5
    exact d_round b73 hm Nat.zero_lt_one ⟨rfl,trivial⟩ (fun W h=>(h.dropH (t:=100010) rfl).phi (fun W hφ=>hφ))
   replace hm:=ite_f hm (of_decide_eq_false h85)
   refine g_no rfl rfl rfl rfl rfl h85<|g_v rfl (r_pick0 rfl h85)<|g_nil<|d_then<|c_cond0 rfl rfl<|c_exit<|d_exit_then<|d_exit_then<|d_exit_block<|d_normal_block ?_
   replace hm:=nx_out (C:=(fun e : Bool=>m_ref13_Check_j2 e = some r)) hm hnx5 hr5
   exact d_round b73 hm Nat.zero_lt_one ⟨rfl,trivial⟩ (fun W h=>(h.dropH (t:=100010) rfl).phi (fun W hφ=>hφ))
  replace hm:=ite_f hm (of_decide_eq_false h59)
  refine c_seq<|c_region<|g_v rfl (r_eql rfl rfl)<|g_v rfl r_assign<|g_nil<|d_then ?_
  refine c_cond rfl (fun h98=>?_) (fun h98=>?_)
  ·
   replace hm:=ite_t hm (of_decide_eq_true h98)
   refine c_region<|g_v rfl (r_field (n:=1) Tryz.underlying32 rfl Tryz.sizeOf3 rfl rfl)<|g_v rfl (r_load (tag:=100010) rfl rfl rfl Tryz.isAgg3)<|g_v rfl (r_eql rfl rfl)<|g_v rfl r_move ?_
   refine g_if rfl rfl rfl rfl rfl (fun h99=>?_) (fun h99=>?_)
   ·
    replace hm:=ite_t hm (of_decide_eq_true h99)
    refine g_v rfl r_move<|g_v rfl (r_pick1 rfl h99)<|g_v rfl r_move ?_
    refine g_if rfl rfl rfl rfl rfl (fun h100=>?_) (fun h100=>?_)
    ·
     replace hm:=ite_t hm h100
     refine g_v rfl (r_field (n:=3) Tryz.underlying32 rfl Tryz.sizeOf9 rfl rfl)<|g_do rfl rfl rfl rfl rfl h100<|g_v rfl (r_load (tag:=100010) rfl rfl rfl Tryz.isAgg9)<|g_do rfl rfl rfl rfl rfl h100<|g_v rfl (r_len Tryz.underlying9 rfl)<|g_do rfl rfl rfl rfl rfl h100<|g_v rfl (r_leq rfl rfl)<|g_v rfl (r_pick1 rfl h100)<|g_v rfl r_move ?_
     refine g_if rfl rfl rfl rfl rfl (fun h101=>?_) (fun h101=>?_)
     ·
      replace hm:=ite_t hm (of_decide_eq_true h101)
      refine g_v rfl (r_field (n:=4) Tryz.underlying32 rfl Tryz.sizeOf9 rfl rfl)<|g_do rfl rfl rfl rfl rfl h101<|g_v rfl (r_load (tag:=100010) rfl rfl rfl Tryz.isAgg9)<|g_do rfl rfl rfl rfl rfl h101<|g_v rfl (r_eqlT rfl rfl)<|g_v rfl (r_pick1 rfl h101)<|g_v rfl r_move ?_
      refine g_if rfl rfl rfl rfl rfl (fun h102=>?_) (fun h102=>?_)
      ·
       replace hm:=ite_t hm (of_decide_eq_true h102)
       refine g_v rfl (r_field (n:=5) Tryz.underlying32 rfl Tryz.sizeOf26 rfl rfl)<|g_do rfl rfl rfl rfl rfl h102<|g_v rfl (r_load (tag:=100010) rfl rfl rfl Tryz.isAgg26)<|g_do rfl rfl rfl rfl rfl h102<|g_v rfl (r_lenL Tryz.underlying26 rfl)<|g_do rfl rfl rfl rfl rfl h102<|g_v rfl (r_eql rfl rfl)<|g_v rfl (r_pick1 rfl h102)<|g_v rfl r_assign<|g_nil ?_
       refine d_normal_block ?_
       exact d_round (decide ((p0.fHints.length : Int) = 0)) hm Nat.zero_lt_one ⟨rfl,trivial⟩ (fun W h=>(h.dropH (t:=100010) rfl).phi (fun W hφ=>hφ))
      replace hm:=ite_f hm (of_decide_eq_false h102)
      iterate 3 refine g_no rfl rfl rfl rfl rfl h102 ?_
      refine g_v rfl (r_pick0 rfl h102)<|g_v rfl r_assign<|g_nil<|d_normal_block ?_
      exact d_round false hm Nat.zero_lt_one ⟨rfl,trivial⟩ (fun W h=>(h.dropH (t:=100010) rfl).phi (fun W hφ=>hφ))
     replace hm:=ite_f hm (of_decide_eq_false h101)
     refine g_no rfl rfl rfl rfl rfl h101<|g_no rfl rfl rfl rfl rfl h101<|g_v rfl (r_pick0 rfl h101)<|g_v rfl r_move ?_
     iterate 4 refine g_no rfl rfl rfl rfl rfl rfl ?_
     refine g_v rfl (r_pick0 rfl rfl)<|g_v rfl r_assign<|g_nil<|d_normal_block ?_
     exact d_round false hm Nat.zero_lt_one ⟨rfl,trivial⟩ (fun W h=>(h.dropH (t:=100010) rfl).phi (fun W hφ=>hφ))
    replace hm:=ite_f hm (bool_nt h100)
    iterate 3 refine g_no rfl rfl rfl rfl rfl h100 ?_
    refine g_v rfl (r_pick0 rfl h100)<|g_v rfl r_move ?_
    iterate 3 refine g_no rfl rfl rfl rfl rfl rfl ?_
    refine g_v rfl (r_pick0 rfl rfl)<|g_v rfl r_move ?_
    iterate 4 refine g_no rfl rfl rfl rfl rfl rfl ?_
    refine g_v rfl (r_pick0 rfl rfl)<|g_v rfl r_assign<|g_nil<|d_normal_block ?_
    exact d_round false hm Nat.zero_lt_one ⟨rfl,trivial⟩ (fun W h=>(h.dropH (t:=100010) rfl).phi (fun W hφ=>hφ))
   replace hm:=ite_f hm (of_decide_eq_false h99)
   refine g_v rfl (r_pick0 rfl h99)<|g_v rfl r_move ?_
   iterate 4 refine g_no rfl rfl rfl rfl rfl rfl ?_
   refine g_v rfl (r_pick0 rfl rfl)<|g_v rfl r_move ?_
   iterate 3 refine g_no rfl rfl rfl rfl rfl rfl ?_
   refine g_v rfl (r_pick0 rfl rfl)<|g_v rfl r_move ?_
   iterate 4 refine g_no rfl rfl rfl rfl rfl rfl ?_
   refine g_v rfl (r_pick0 rfl rfl)<|g_v rfl r_assign<|g_nil<|d_normal_block ?_
   exact d_round false hm Nat.zero_lt_one ⟨rfl,trivial⟩ (fun W h=>(h.dropH (t:=100010) rfl).phi (fun W hφ=>hφ))
  replace hm:=ite_f hm (of_decide_eq_false h98)
  refine c_seq<|c_region<|g_v rfl (r_eql rfl rfl)<|g_v rfl r_assign<|g_nil<|d_then ?_
  refine c_cond rfl (fun h103=>?_) (fun h103=>?_)
  ·
   replace hm:=ite_t hm (of_decide_eq_true h103)
   refine c_region<|g_v rfl (r_field (n:=1) Tryz.underlying32 rfl Tryz.sizeOf3 rfl rfl)<|g_v rfl (r_load (tag:=100010) rfl rfl rfl Tryz.isAgg3)<|g_v rfl (r_eql rfl rfl)<|g_v rfl r_move ?_
   refine g_if rfl rfl rfl rfl rfl (fun h104=>?_) (fun h104=>?_)
   ·
    replace hm:=ite_t hm (of_decide_eq_true h104)
    refine g_v rfl r_move<|g_v rfl (r_pick1 rfl h104)<|g_v rfl r_move ?_
    refine g_if rfl rfl rfl rfl rfl (fun h105=>?_) (fun h105=>?_)
    ·
     replace hm:=ite_t hm h105
     refine g_v rfl r_move<|g_v rfl (r_pick1 rfl h105)<|g_v rfl r_move ?_
     refine g_if rfl rfl rfl rfl rfl (fun h106=>?_) (fun h106=>?_)
     ·
      replace hm:=ite_t hm h106
      refine g_v rfl (r_field (n:=5) Tryz.underlying32 rfl Tryz.sizeOf26 rfl rfl)<|g_do rfl rfl rfl rfl rfl h106<|g_v rfl (r_load (tag:=100010) rfl rfl rfl Tryz.isAgg26)<|g_do rfl rfl rfl rfl rfl h106<|g_v rfl (r_lenL Tryz.underlying26 rfl)<|g_do rfl rfl rfl rfl rfl h106<|g_v rfl (r_eql rfl rfl)<|g_v rfl (r_pick1 rfl h106)<|g_v rfl r_assign<|g_nil ?_
      refine d_normal_block ?_
      exact d_round (decide ((p0.fHints.length : Int) = 0)) hm Nat.zero_lt_one ⟨rfl,trivial⟩ (fun W h=>(h.dropH (t:=100010) rfl).phi (fun W hφ=>hφ))
     replace hm:=ite_f hm (bool_nt h106)
     iterate 3 refine g_no rfl rfl rfl rfl rfl h106 ?_
     refine g_v rfl (r_pick0 rfl h106)<|g_v rfl r_assign<|g_nil<|d_normal_block ?_
     exact d_round false hm Nat.zero_lt_one ⟨rfl,trivial⟩ (fun W h=>(h.dropH (t:=100010) rfl).phi (fun W hφ=>hφ))
    replace hm:=ite_f hm (bool_nt h105)
    refine g_v rfl (r_pick0 rfl h105)<|g_v rfl r_move ?_
    iterate 4 refine g_no rfl rfl rfl rfl rfl rfl ?_
    refine g_v rfl (r_pick0 rfl rfl)<|g_v rfl r_assign<|g_nil<|d_normal_block ?_
    exact d_round false hm Nat.zero_lt_one ⟨rfl,trivial⟩ (fun W h=>(h.dropH (t:=100010) rfl).phi (fun W hφ=>hφ))
   replace hm:=ite_f hm (of_decide_eq_false h104)
   refine g_v rfl (r_pick0 rfl h104)<|g_v rfl r_move<|g_no rfl rfl rfl rfl rfl rfl<|g_v rfl (r_pick0 rfl rfl)<|g_v rfl r_move ?_
   iterate 4 refine g_no rfl rfl rfl rfl rfl rfl ?_
   refine g_v rfl (r_pick0 rfl rfl)<|g_v rfl r_assign<|g_nil<|d_normal_block ?_
   exact d_round false hm Nat.zero_lt_one ⟨rfl,trivial⟩ (fun W h=>(h.dropH (t:=100010) rfl).phi (fun W hφ=>hφ))
  replace hm:=ite_f hm (of_decide_eq_false h103)
  refine c_region<|g_v rfl r_assign<|g_nil<|d_normal_block ?_
  exact d_round false hm Nat.zero_lt_one ⟨rfl,trivial⟩ (fun W h=>(h.dropH (t:=100010) rfl).phi (fun W hφ=>hφ))
 unfold m_ref13_Check_j2 at hm
 refine d_flat [(3,.bool b51)] ⟨rfl,trivial⟩ (fun u=>?_)
 refine d_sta ⟨w0,M,H,R,φ⟩ (fun _ h=>h)<|d_then<|c_seq<|c_seq<|c_region<|g_v rfl r_move<|g_v rfl (r_not rfl)<|g_nil<|d_then ?_
 refine c_cond rfl (fun h52=>?_) (fun h52=>?_)
 ·
  have h52' : b51 = false:=by revert h52; cases b51 <;> simp
  replace hm:=ite_f hm (bool_nt h52')
  refine c_seq<|c_region<|g_v rfl r_assign<|g_nil<|d_then<|c_ret<|d_ret_then ?_
  cases hm
  exact d_retC () Tryz.results40 (res_tmp (res_nil rfl)) trivial (fun W h=>ok_pre (H1:=[]) (R1:=[]) h (fun W hφ=>hφ)) (.inr rfl)
 have h52' : b51 = true:=by revert h52; cases b51 <;> simp
 replace hm:=ite_t hm h52'
 refine c_skip<|d_then<|c_seq<|c_region<|g_v rfl r_assign<|g_nil<|d_then<|c_ret ?_
 cases hm
 exact d_retC () Tryz.results40 (res_tmp (res_nil rfl)) trivial (fun W h=>ok_pre (H1:=[]) (R1:=[]) h (fun W hφ=>hφ)) (.inr rfl)
noncomputable def m_ref13_in_j1  : Option Bool:=
  some false
noncomputable def m_ref13_in_s2 (p0 : List Int) (p1 : Int) (i24 : Int) : Option (Int ⊕ (Unit ⊕ Bool)):=
  if i24 < (p0.length : Int) then
    (at_ p0 i24).bind fun x34=>
    if x34 = p1 then
      some (.inr (.inr true))
    else
      some (.inl (w64 (i24 + 1)))
  else
    some (.inr (.inl ()))
noncomputable def m_ref13_in (p0 : List Int) (p1 : Int) : Option Bool:=
  (loop (fun s=>m_ref13_in_s2 p0 p1 s) 0).bind fun e=>Sum.elim (fun e=>m_ref13_in_j1) (fun x=>some x) e
theorem c_ref13_in {w0 : World} {M : Nat→Prop} {H : List (Nat×Nat×Obj)} {R : List (Nat×Row)} {φ : World→Prop} (p0 : List Int) (Ap0_0 : Option Addr) (cp0_0 : Nat) (hcp0_0 : p0.length ≤ cp0_0) (fp0_0 : ∀ W,(Sta.mk w0 M H R φ).ok W→Cl W Ap0_0 (p0.flatMap (fun x : Int=>[Value.int .i64 x]))) (p1 : Int) (r : Bool) (hm : m_ref13_in p0 p1 = some r) :
    Cn Tryz.prog 41 #[.slice Ap0_0 p0.length cp0_0,Vi p1] ⟨w0,M,H,R,φ⟩ (fun x : Unit=>.bool r) (fun x=>True) (fun x=>⟨w0,M,H,R,φ⟩):=by
 unfold m_ref13_in at hm
 refine cn_intro (fn:=Tryz.f41) (N:=18) Tryz.func41 rfl Tryz.ntmps41 rfl<|c_seq<|c_region<|g_v rfl r_assign<|g_nil<|d_then<|c_seq<|c_seq<|c_region<|g_v rfl r_assign ?_
 refine g_nil<|d_then ?_
 refine c_cut (ι:=Unit) [] (fun _=>[]) (fun _=>⟨w0,M,H,R,φ⟩) (fun _=>m_ref13_in_j1 = some r) ?_ (fun _ u hm=>?_)
 ·
  refine c_block ?_
  replace hm:=bnd hm
  obtain ⟨out2,hl2,hr2⟩:=hm
  obtain ⟨n32',hl2⟩:=loop_lp hl2
  refine c_loopU (ι:=Nat×Int) [0,1,5] (fun ⟨n32,i24⟩=>[(5,Vi i24)]) (fun ⟨n32,i24⟩=>⟨w0,M,H,R,φ⟩) (fun ⟨n32,i24⟩=>Lp (fun s=>m_ref13_in_s2 p0 p1 s) n32 i24 out2) (fun ⟨n32,i24⟩=>n32) (n32',0) hl2 ⟨rfl,rfl,rfl,trivial⟩ (fun W h=>h.phi (fun W hφ=>hφ)) (fun ⟨n32,i24⟩ u hlp=>?_)
  obtain ⟨o2,hm,hnx2⟩:=lp_step hlp
  clear hlp
  replace hm : m_ref13_in_s2 p0 p1 i24 = some o2:=hm
  unfold m_ref13_in_s2 at hm
  refine c_flat [(0,.slice Ap0_0 p0.length cp0_0),(1,Vi p1),(5,Vi i24)] ⟨rfl,rfl,rfl,trivial⟩ (fun u=>?_)
  refine c_sta ⟨w0,M,H,R,φ⟩ (fun _ h=>h)<|c_seq<|c_seq<|c_region<|g_v rfl r_move<|g_v rfl r_move<|g_v rfl (r_lenL Tryz.underlying25 rfl)<|g_v rfl (r_lss rfl rfl)<|g_nil<|d_then ?_
  refine c_cond rfl (fun h33=>?_) (fun h33=>?_)
  ·
   replace hm:=ite_t hm (of_decide_eq_true h33)
   refine c_skip<|d_then<|c_seq<|c_block<|c_seq<|c_region<|g_v rfl r_move<|g_v rfl r_move ?_
   replace hm:=bnd hm
   obtain ⟨x34,hx34,hm⟩:=hm
   refine g_know _ (fun W hS=>cl_at (p:=(Sta.mk w0 M H R φ).ok) (sz:=1) (fun _=>rfl) (by decide) (ok_pre (H1:=[]) (R1:=[]) hS (fun W h=>h)) fp0_0 hx34) ?_
   rintro ⟨ad35,hA37,f36⟩
   refine g_v rfl (r_ix Tryz.underlying25 Tryz.sizeOf3 rfl hA37 rfl hx34)<|g_v rfl (r_ld rfl Tryz.isAgg3 (fun W hS=>Cl.head (f36 W (ok_pre (H1:=[]) (R1:=[]) hS (fun W h=>h)))))<|g_v rfl r_move<|g_v rfl (r_eql rfl rfl)<|g_nil<|d_then ?_
   refine c_flat [(0,.slice Ap0_0 p0.length cp0_0),(1,Vi p1),(5,Vi i24),(17,.bool (decide (x34 = p1)))] ⟨rfl,rfl,rfl,rfl,trivial⟩ (fun u=>?_)
   refine c_cond rfl (fun h38=>?_) (fun h38=>?_)
   ·
    replace hm:=ite_t hm (of_decide_eq_true h38)
    refine c_seq<|c_region<|g_v rfl r_assign<|g_nil<|d_then<|c_ret<|d_ret_block<|d_ret_then<|d_ret_then<|d_ret_block ?_
    refine d_ret_then<|d_ret_then ?_
    replace hm:=nx_out (C:=(fun e : Unit ⊕ Bool=>Sum.elim (fun e=>m_ref13_in_j1) (fun x=>some x) e = some r)) hm hnx2 hr2
    replace hm : some true = some r:=hm
    cases hm
    exact d_retC () Tryz.results41 (res_tmp (res_nil rfl)) trivial (fun W h=>ok_pre (H1:=[]) (R1:=[]) h (fun W hφ=>hφ)) (.inr rfl)
   replace hm:=ite_f hm (of_decide_eq_false h38)
   refine c_skip<|d_normal_block<|d_then<|c_region<|g_v rfl r_move<|g_v rfl (r_add rfl rfl rfl)<|g_v rfl r_assign<|g_nil ?_
   obtain ⟨n39,hn39,hlp⟩:=nx_inl hm hnx2
   exact d_round (n39,w64 (i24 + 1)) hlp hn39 ⟨rfl,rfl,rfl,trivial⟩ (fun W h=>h.phi (fun W hφ=>hφ))
  replace hm:=ite_f hm (of_decide_eq_false h33)
  refine c_exit<|d_exit_then<|d_exit_then<|d_exit_block ?_
  replace hm:=nx_out (C:=(fun e : Unit ⊕ Bool=>Sum.elim (fun e=>m_ref13_in_j1) (fun x=>some x) e = some r)) hm hnx2 hr2
  exact d_round () hm Nat.zero_lt_one trivial (fun W h=>h.phi (fun W hφ=>hφ))
 unfold m_ref13_in_j1 at hm
 refine d_flat [] trivial (fun u=>?_)
 refine d_sta ⟨w0,M,H,R,φ⟩ (fun _ h=>h)<|d_then<|c_seq<|c_region<|g_v rfl r_assign<|g_nil<|d_then<|c_ret ?_
 cases hm
 exact d_retC () Tryz.results41 (res_tmp (res_nil rfl)) trivial (fun W h=>ok_pre (H1:=[]) (R1:=[]) h (fun W hφ=>hφ)) (.inr rfl)
noncomputable def m_ref03_Lower_j1  (l55 : List Int) : Option ByteArray:=
  some (strOfNums l55)
noncomputable def m_ref03_Lower_s2 (p0 : ByteArray) (l78 : List Int) (i79 : Int) : Option (((List Int)×Int) ⊕ (List Int)):=
  if i79 < (((bytesI p0).length) : Int) then
    (at_ l78 i79).bind fun x104=>
    if 65 ≤ x104 then
      (at_ l78 i79).bind fun x109=>
      if x109 ≤ 90 then
        (at_ l78 i79).bind fun x114=>
        (at_ l78 i79).bind fun x118=>
        (setAt l78 i79 (IntKind.u8.wrap (x114 + 32))).bind fun l122=>
        some (.inl (l122,w64 (i79 + 1)))
      else
        some (.inl (l78,w64 (i79 + 1)))
    else
      some (.inl (l78,w64 (i79 + 1)))
  else
    some (.inr l78)
noncomputable def m_ref03_Lower (p0 : ByteArray) : Option ByteArray:=
  (loop (fun s=>m_ref03_Lower_s2 p0 s.1 s.2) ((bytesI p0),0)).bind fun e=>m_ref03_Lower_j1 e
theorem c_ref03_Lower {w0 : World} {M : Nat→Prop} {H : List (Nat×Nat×Obj)} {R : List (Nat×Row)} {φ : World→Prop} (p0 : ByteArray) (r : ByteArray) (hm : m_ref03_Lower p0 = some r) :
    Cn Tryz.prog 42 #[Vs p0] ⟨w0,M,H,R,φ⟩ (fun x : Unit=>Vs r) (fun x=>True) (fun x=>⟨w0,M,H,R,φ⟩):=by
 unfold m_ref03_Lower at hm
 refine cn_intro (fn:=Tryz.f42) (N:=35) Tryz.func42 rfl Tryz.ntmps42 rfl<|c_seq<|c_region<|g_v rfl r_assign<|g_nil<|d_then<|c_seq<|c_region<|g_v rfl r_move ?_
 refine g_e rfl (e_bytesH 100060 Tryz.underlying9 Tryz.underlying70 Tryz.underlying5 rfl) (fun ⟨g5,c6,T7⟩ hc6=>?_)
 refine g_v rfl r_assign<|g_nil<|d_then<|c_seq<|c_seq<|c_region<|g_v rfl r_assign<|g_nil<|d_then ?_
 refine c_cut (ι:=(List Int)) [3] (fun l55=>[(3,.slice (some ⟨g5,0,none⟩) ((bytesI p0).length) c6)]) (fun l55=>⟨w0,M,(100060,g5,rowO l55 T7 5)::H,R,φ⟩) (fun l55=>m_ref03_Lower_j1 l55 = some r∧l55.length = (bytesI p0).length) ?_ (fun l55 u ⟨hm,hl55⟩=>?_)
 ·
  refine c_block ?_
  replace hm:=bnd hm
  obtain ⟨out2,hl2,hr2⟩:=hm
  obtain ⟨n102',hl2⟩:=loop_lp hl2
  refine c_loopU (ι:=Nat×(List Int)×Int) [3,4] (fun ⟨n102,l78,i79⟩=>[(3,.slice (some ⟨g5,0,none⟩) ((bytesI p0).length) c6),(4,Vi i79)]) (fun ⟨n102,l78,i79⟩=>⟨w0,M,(100060,g5,rowO l78 T7 5)::H,R,φ⟩) (fun ⟨n102,l78,i79⟩=>Lp (fun s=>m_ref03_Lower_s2 p0 s.1 s.2) n102 (l78,i79) out2∧l78.length = (bytesI p0).length) (fun ⟨n102,l78,i79⟩=>n102) (n102',(bytesI p0),0) ⟨hl2,rfl⟩ ⟨rfl,rfl,trivial⟩ (fun W h=>h.phi (fun W hφ=>hφ)) (fun ⟨n102,l78,i79⟩ u ⟨hlp,hl78⟩=>?_)
  obtain ⟨o2,hm,hnx2⟩:=lp_step hlp
  clear hlp
  replace hm : m_ref03_Lower_s2 p0 l78 i79 = some o2:=hm
  unfold m_ref03_Lower_s2 at hm
  refine c_flat [(3,.slice (some ⟨g5,0,none⟩) ((bytesI p0).length) c6),(4,Vi i79)] ⟨rfl,rfl,trivial⟩ (fun u=>?_)
  refine c_sta ⟨w0,M,(100060,g5,rowO l78 T7 5)::H,R,φ⟩ (fun _ h=>h)<|c_seq<|c_seq<|c_region<|g_v rfl r_move<|g_v rfl r_move<|g_v rfl (r_lenL Tryz.underlying70 rfl)<|g_v rfl (r_lss rfl rfl)<|g_nil<|d_then ?_
  refine c_cond rfl (fun h103=>?_) (fun h103=>?_)
  ·
   replace hm:=ite_t hm (of_decide_eq_true h103)
   refine c_skip<|d_then<|c_seq<|c_block<|c_seq<|c_region<|g_v rfl r_move<|g_v rfl r_move ?_
   replace hm:=bnd hm
   obtain ⟨x104,hx104,hm⟩:=hm
   refine g_know _ (fun W hS=>cl_at (p:=(Sta.ok ⟨w0,M,(100060,g5,rowO l78 T7 5)::H,R,φ⟩)) (sz:=1) (fun _=>rfl) (by decide) hS (hrowCl (S:=⟨w0,M,(100060,g5,rowO l78 T7 5)::H,R,φ⟩) (tag:=100060) rfl) hx104) ?_
   rintro ⟨ad105,hA107,f106⟩
   refine g_v rfl (r_ixN hl78 Tryz.underlying70 Tryz.sizeOf5 rfl hA107 rfl hx104)<|g_v rfl (r_ld rfl Tryz.isAgg5 (fun W hS=>Cl.head (f106 W hS)))<|g_v rfl (r_geq rfl rfl)<|g_v rfl r_move ?_
   refine g_if rfl rfl rfl rfl rfl (fun h108=>?_) (fun h108=>?_)
   ·
    replace hm:=ite_t hm (of_decide_eq_true h108)
    refine g_v rfl r_move<|g_do rfl rfl rfl rfl rfl h108<|g_v rfl r_move<|g_do rfl rfl rfl rfl rfl h108 ?_
    replace hm:=bnd hm
    obtain ⟨x109,hx109,hm⟩:=hm
    refine g_know _ (fun W hS=>cl_at (p:=(Sta.ok ⟨w0,M,(100060,g5,rowO l78 T7 5)::H,R,φ⟩)) (sz:=1) (fun _=>rfl) (by decide) hS (hrowCl (S:=⟨w0,M,(100060,g5,rowO l78 T7 5)::H,R,φ⟩) (tag:=100060) rfl) hx109) ?_
    rintro ⟨ad110,hA112,f111⟩
    refine g_v rfl (r_ixN hl78 Tryz.underlying70 Tryz.sizeOf5 rfl hA112 rfl hx109)<|g_do rfl rfl rfl rfl rfl h108<|g_v rfl (r_ld rfl Tryz.isAgg5 (fun W hS=>Cl.head (f111 W hS)))<|g_do rfl rfl rfl rfl rfl h108<|g_v rfl (r_leq rfl rfl)<|g_v rfl (r_pick1 rfl h108)<|g_nil<|d_then ?_
    refine c_flat [(3,.slice (some ⟨g5,0,none⟩) ((bytesI p0).length) c6),(4,Vi i79),(24,.bool (decide (x109 ≤ 90)))] ⟨rfl,rfl,rfl,trivial⟩ (fun u=>?_)
    refine c_cond rfl (fun h113=>?_) (fun h113=>?_)
    ·
     replace hm:=ite_t hm (of_decide_eq_true h113)
     refine c_region ?_
     iterate 4 refine g_v rfl r_move ?_
     replace hm:=bnd hm
     obtain ⟨x114,hx114,hm⟩:=hm
     refine g_know _ (fun W hS=>cl_at (p:=(Sta.ok ⟨w0,M,(100060,g5,rowO l78 T7 5)::H,R,φ⟩)) (sz:=1) (fun _=>rfl) (by decide) hS (hrowCl (S:=⟨w0,M,(100060,g5,rowO l78 T7 5)::H,R,φ⟩) (tag:=100060) rfl) hx114) ?_
     rintro ⟨ad115,hA117,f116⟩
     refine g_v rfl (r_ixN hl78 Tryz.underlying70 Tryz.sizeOf5 rfl hA117 rfl hx114)<|g_v rfl (r_ld rfl Tryz.isAgg5 (fun W hS=>Cl.head (f116 W hS)))<|g_v rfl (r_add rfl rfl rfl) ?_
     replace hm:=bnd hm
     obtain ⟨x118,hx118,hm⟩:=hm
     refine g_know _ (fun W hS=>cl_at (p:=(Sta.ok ⟨w0,M,(100060,g5,rowO l78 T7 5)::H,R,φ⟩)) (sz:=1) (fun _=>rfl) (by decide) hS (hrowCl (S:=⟨w0,M,(100060,g5,rowO l78 T7 5)::H,R,φ⟩) (tag:=100060) rfl) hx118) ?_
     rintro ⟨ad119,hA121,f120⟩
     refine g_v rfl (r_ixN hl78 Tryz.underlying70 Tryz.sizeOf5 rfl hA121 rfl hx118) ?_
     replace hm:=bnd hm
     obtain ⟨l122,hl122,hm⟩:=hm
     refine g_stH (tag:=100060) (l:=l78) rfl rfl hA121 rfl hl122 rfl Tryz.sizeOf5<|g_nil<|d_normal_block<|d_then ?_
     refine c_flat [(3,.slice (some ⟨g5,0,none⟩) ((bytesI p0).length) c6),(4,Vi i79)] ⟨rfl,rfl,trivial⟩ (fun u=>?_)
     refine c_sta ⟨w0,M,(100060,g5,rowO l122 T7 5)::H,R,φ⟩ (fun _ h=>h)<|c_region<|g_v rfl r_move<|g_v rfl (r_add rfl rfl rfl)<|g_v rfl r_assign<|g_nil ?_
     obtain ⟨n123,hn123,hlp⟩:=nx_inl hm hnx2
     exact d_round (n123,l122,w64 (i79 + 1)) ⟨hlp,((setAt_lenE hl122).trans hl78)⟩ hn123 ⟨rfl,rfl,trivial⟩ (fun W h=>h.phi (fun W hφ=>hφ))
    replace hm:=ite_f hm (of_decide_eq_false h113)
    refine c_skip<|d_normal_block<|d_then<|c_region<|g_v rfl r_move<|g_v rfl (r_add rfl rfl rfl)<|g_v rfl r_assign<|g_nil ?_
    obtain ⟨n124,hn124,hlp⟩:=nx_inl hm hnx2
    exact d_round (n124,l78,w64 (i79 + 1)) ⟨hlp,hl78⟩ hn124 ⟨rfl,rfl,trivial⟩ (fun W h=>h.phi (fun W hφ=>hφ))
   replace hm:=ite_f hm (of_decide_eq_false h108)
   iterate 4 refine g_no rfl rfl rfl rfl rfl h108 ?_
   refine g_v rfl (r_pick0 rfl h108)<|g_nil<|d_then ?_
   refine c_flat [(3,.slice (some ⟨g5,0,none⟩) ((bytesI p0).length) c6),(4,Vi i79),(24,.bool false)] ⟨rfl,rfl,rfl,trivial⟩ (fun u=>?_)
   refine c_cond0 rfl rfl<|c_skip<|d_normal_block<|d_then<|c_region<|g_v rfl r_move<|g_v rfl (r_add rfl rfl rfl)<|g_v rfl r_assign<|g_nil ?_
   obtain ⟨n125,hn125,hlp⟩:=nx_inl hm hnx2
   exact d_round (n125,l78,w64 (i79 + 1)) ⟨hlp,hl78⟩ hn125 ⟨rfl,rfl,trivial⟩ (fun W h=>h.phi (fun W hφ=>hφ))
  replace hm:=ite_f hm (of_decide_eq_false h103)
  refine c_exit<|d_exit_then<|d_exit_then<|d_exit_block ?_
  replace hm:=nx_out (C:=(fun e : (List Int)=>m_ref03_Lower_j1 e = some r)) hm hnx2 hr2
  exact d_round l78 ⟨hm,hl78⟩ Nat.zero_lt_one ⟨rfl,trivial⟩ (fun W h=>h.phi (fun W hφ=>hφ))
 unfold m_ref03_Lower_j1 at hm
 refine d_flat [(3,.slice (some ⟨g5,0,none⟩) ((bytesI p0).length) c6)] ⟨rfl,trivial⟩ (fun u=>?_)
 refine d_sta ⟨w0,M,(100060,g5,rowO l55 T7 5)::H,R,φ⟩ (fun _ h=>h)<|d_then<|c_seq<|c_region<|g_v rfl r_move<|g_v rfl (r_textN hl55 Tryz.underlying70 Tryz.underlying5 Tryz.underlying9 rfl (hrowCl (tag:=100060) rfl))<|g_v rfl r_assign<|g_nil<|d_then<|c_ret ?_
 cases hm
 exact d_retC () Tryz.results42 (res_tmp (res_nil rfl)) trivial (fun W h=>ok_pre (H1:=[_]) (R1:=[]) h (fun W hφ=>hφ)) (.inr rfl)
noncomputable def m_ref03_Labels (p0 : ByteArray) : Option ((List ByteArray)×Int):=
  (m_ref03_Check p0).bind fun x1=>
  if x1 ≠ 0 then
    some (([] : List ByteArray),x1)
  else
    (m_ref03_row p0).bind fun (z10 : (List ByteArray)×Bool)=>
    some (z10.1,0)
theorem c_ref03_Labels {w0 : World} {M : Nat→Prop} {H : List (Nat×Nat×Obj)} {R : List (Nat×Row)} {φ : World→Prop} (p0 : ByteArray) (r : (List ByteArray)×Int) (hm : m_ref03_Labels p0 = some r) :
    Cn Tryz.prog 119 #[Vs p0] ⟨w0,M,H,R,φ⟩ (fun x : Option Addr×Nat=>.tuple #[.slice x.1 r.1.length x.2,Vi r.2]) (fun x=>r.1.length ≤ x.2) (fun x=>⟨w0,M,H,(2000,⟨.slice x.1 r.1.length x.2,9,1,r.1.length,r.1.flatMap (fun x : ByteArray=>[Value.string x])⟩)::R,φ⟩):=by
 unfold m_ref03_Labels at hm
 refine cn_intro (fn:=Tryz.f119) (N:=18) Tryz.func119 rfl Tryz.ntmps119 rfl<|c_seq<|c_region<|g_v rfl r_assign<|g_v rfl r_assign<|g_nil<|d_then<|c_seq<|c_region<|g_v rfl r_move ?_
 replace hm:=bnd hm
 obtain ⟨x1,hx2,hm⟩:=hm
 refine g_cn ⟨w0,M,_,_,φ⟩ (fun _ h=>h) Tryz.call102 rfl rfl (c_ref03_Check p0 _ hx2) (fun _ _=>?_)
 refine g_v rfl r_assign<|g_nil<|d_then<|c_seq<|c_seq<|c_region<|g_v rfl r_move<|g_v rfl (r_neq rfl rfl)<|g_nil<|d_then ?_
 refine c_cond rfl (fun h3=>?_) (fun h3=>?_)
 ·
  replace hm:=ite_t hm (of_decide_eq_true h3)
  refine c_seq<|c_region<|g_v rfl r_move<|g_v rfl r_assign<|g_v rfl r_assign<|g_nil<|d_then ?_
  refine c_flat [(2,V0),(3,Vi x1)] ⟨rfl,rfl,trivial⟩ (fun u=>?_)
  refine c_sta ⟨w0,M,H,R,φ⟩ (fun _ h=>h)<|c_ret<|d_ret_then ?_
  cases hm
  refine d_sta _ (fun W h=>nilR h 11 9 1)<|d_sta _ (fun W h=>ok_frontR (t:=11) (t':=2000) h rfl) ?_
  exact d_retC (none,0) Tryz.results119 (res_tmp (res_tmp (res_nil rfl))) (Nat.le_refl 0) (fun W h=>h.phi (fun W hφ=>hφ)) (.inr rfl)
 replace hm:=ite_f hm (of_decide_eq_false h3)
 refine c_skip<|d_then<|c_seq<|c_region<|g_v rfl r_move ?_
 replace hm:=bnd hm
 obtain ⟨⟨x4,x5⟩,hx6,hm⟩:=hm
 refine g_cn ⟨w0,M,_,_,φ⟩ (fun _ h=>h) Tryz.call120 rfl rfl (c_ref03_row p0 _ hx6) (fun ⟨A7,c8⟩ hc8=>?_)
 refine g_sta _ (fun W h=>(ok_frontR (t:=2000) (t':=100140) h rfl))<|g_v rfl r_move<|g_v rfl (r_extract rfl rfl)<|g_v rfl (r_extract rfl rfl)<|g_v rfl r_assign<|g_v rfl r_assign<|g_nil<|d_then ?_
 refine c_flat [(5,.slice A7 x4.length c8)] ⟨rfl,trivial⟩ (fun u=>?_)
 refine c_sta ⟨w0,M,H,(100140,⟨.slice A7 x4.length c8,9,1,x4.length,x4.flatMap (fun x : ByteArray=>[Value.string x])⟩)::R,φ⟩ (fun _ h=>h)<|c_seq<|c_region<|g_v rfl r_move<|g_v rfl r_assign<|g_v rfl r_assign<|g_nil<|d_then<|c_ret ?_
 cases hm
 refine d_sta _ (fun W h=>ok_frontR (t:=100140) (t':=2000) h rfl) ?_
 exact d_retC (A7,c8) Tryz.results119 (res_tmp (res_tmp (res_nil rfl))) hc8 (fun W h=>h.phi (fun W hφ=>hφ)) (.inr rfl)
noncomputable def m_ref03_Shared_j1  (i107 : Int) : Option Int:=
  some i107
noncomputable def m_ref03_Shared_s2 (x1 : List ByteArray) (x8 : List ByteArray) (i152 : Int) : Option (Int ⊕ Int):=
  if i152 < (x1.length : Int) then
    if i152 < (x8.length : Int) then
      (at_ x1 (w64 ((w64 ((x1.length : Int) - 1)) - i152))).bind fun x228=>
      (at_ x8 (w64 ((w64 ((x8.length : Int) - 1)) - i152))).bind fun x232=>
      (m_ref03_Lower x228).bind fun x236=>
      (m_ref03_Lower x232).bind fun x238=>
      if x236 = x238 then
        some (.inl (w64 (i152 + 1)))
      else
        some (.inr i152)
    else
      some (.inr i152)
  else
    some (.inr i152)
noncomputable def m_ref03_Shared (p0 : ByteArray) (p1 : ByteArray) : Option Int:=
  (m_ref03_Labels p0).bind fun (z7 : (List ByteArray)×Int)=>
  (m_ref03_Labels p1).bind fun (z14 : (List ByteArray)×Int)=>
  if z7.2 ≠ 0 then
    some (-1)
  else
    if z14.2 ≠ 0 then
      some (-1)
    else
      (loop (fun s=>m_ref03_Shared_s2 z7.1 z14.1 s) 0).bind fun e=>m_ref03_Shared_j1 e
theorem c_ref03_Shared {w0 : World} {M : Nat→Prop} {H : List (Nat×Nat×Obj)} {R : List (Nat×Row)} {φ : World→Prop} (p0 : ByteArray) (p1 : ByteArray) (r : Int) (hm : m_ref03_Shared p0 p1 = some r) :
    Cn Tryz.prog 95 #[Vs p0,Vs p1] ⟨w0,M,H,R,φ⟩ (fun x : Unit=>Vi r) (fun x=>True) (fun x=>⟨w0,M,H,R,φ⟩):=by
 unfold m_ref03_Shared at hm
 refine cn_intro (fn:=Tryz.f95) (N:=60) Tryz.func95 rfl Tryz.ntmps95 rfl<|c_seq<|c_region<|g_v rfl r_assign<|g_nil<|d_then<|c_seq<|c_region<|g_v rfl r_move ?_
 replace hm:=bnd hm
 obtain ⟨⟨x1,x2⟩,hx3,hm⟩:=hm
 refine g_cn ⟨w0,M,_,_,φ⟩ (fun _ h=>h) Tryz.call119 rfl rfl (c_ref03_Labels p0 _ hx3) (fun ⟨A4,c5⟩ hc5=>?_)
 refine g_sta _ (fun W h=>(ok_frontR (t:=2000) (t':=100120) h rfl))<|g_v rfl r_move<|g_v rfl (r_extract rfl rfl)<|g_v rfl (r_extract rfl rfl)<|g_v rfl r_assign<|g_v rfl r_assign<|g_nil<|d_then<|c_seq<|c_region ?_
 refine g_v rfl r_move ?_
 replace hm:=bnd hm
 obtain ⟨⟨x8,x9⟩,hx10,hm⟩:=hm
 refine g_cn ⟨w0,M,_,_,φ⟩ (fun _ h=>h) Tryz.call119 rfl rfl (c_ref03_Labels p1 _ hx10) (fun ⟨A11,c12⟩ hc12=>?_)
 refine g_sta _ (fun W h=>(ok_frontR (t:=2000) (t':=100170) h rfl))<|g_v rfl r_move<|g_v rfl (r_extract rfl rfl)<|g_v rfl (r_extract rfl rfl)<|g_v rfl r_assign<|g_v rfl r_assign<|g_nil<|d_then ?_
 refine c_flat [(5,.slice A4 x1.length c5),(6,Vi x2),(7,.slice A11 x8.length c12),(8,Vi x9)] ⟨rfl,rfl,rfl,rfl,trivial⟩ (fun u=>?_)
 refine c_sta ⟨w0,M,H,(100170,⟨.slice A11 x8.length c12,9,1,x8.length,x8.flatMap (fun x : ByteArray=>[Value.string x])⟩)::(100120,⟨.slice A4 x1.length c5,9,1,x1.length,x1.flatMap (fun x : ByteArray=>[Value.string x])⟩)::R,φ⟩ (fun _ h=>h)<|c_seq<|c_seq<|c_region<|g_v rfl r_move<|g_v rfl (r_neq rfl rfl)<|g_v rfl r_move ?_
 refine g_if rfl rfl rfl rfl rfl (fun h15=>?_) (fun h15=>?_)
 ·
  replace hm:=ite_f hm (of_decide_eq_false h15)
  refine g_v rfl r_move<|g_do rfl rfl rfl rfl rfl h15<|g_v rfl (r_neq rfl rfl)<|g_v rfl (r_pick0 rfl h15)<|g_nil<|d_then ?_
  refine c_cond rfl (fun h16=>?_) (fun h16=>?_)
  ·
   replace hm:=ite_t hm (of_decide_eq_true h16)
   refine c_seq<|c_region<|g_v rfl r_assign<|g_nil<|d_then<|c_ret<|d_ret_then ?_
   cases hm
   exact d_retC () Tryz.results95 (res_tmp (res_nil rfl)) trivial (fun W h=>ok_pre (H1:=[]) (R1:=[_,_]) h (fun W hφ=>hφ)) (.inr rfl)
  replace hm:=ite_f hm (of_decide_eq_false h16)
  refine c_skip<|d_then<|c_seq<|c_region<|g_v rfl r_assign<|g_nil<|d_then<|c_seq ?_
  refine c_cut (ι:=Int) [9] (fun i107=>[(9,Vi i107)]) (fun i107=>⟨w0,M,H,R,φ⟩) (fun i107=>m_ref03_Shared_j1 i107 = some r) ?_ (fun i107 u hm=>?_)
  ·
   refine c_block ?_
   replace hm:=bnd hm
   obtain ⟨out2,hl2,hr2⟩:=hm
   obtain ⟨n197',hl2⟩:=loop_lp hl2
   refine c_loopU (ι:=Nat×Int) [5,7,9] (fun ⟨n197,i152⟩=>[(9,Vi i152)]) (fun ⟨n197,i152⟩=>⟨w0,M,H,(100170,⟨.slice A11 x8.length c12,9,1,x8.length,x8.flatMap (fun x : ByteArray=>[Value.string x])⟩)::(100120,⟨.slice A4 x1.length c5,9,1,x1.length,x1.flatMap (fun x : ByteArray=>[Value.string x])⟩)::R,φ⟩) (fun ⟨n197,i152⟩=>Lp (fun s=>m_ref03_Shared_s2 x1 x8 s) n197 i152 out2) (fun ⟨n197,i152⟩=>n197) (n197',0) hl2 ⟨rfl,rfl,rfl,trivial⟩ (fun W h=>h.phi (fun W hφ=>hφ)) (fun ⟨n197,i152⟩ u hlp=>?_)
   obtain ⟨o2,hm,hnx2⟩:=lp_step hlp
   clear hlp
   replace hm : m_ref03_Shared_s2 x1 x8 i152 = some o2:=hm
   unfold m_ref03_Shared_s2 at hm
   refine c_flat [(5,.slice A4 x1.length c5),(7,.slice A11 x8.length c12),(9,Vi i152)] ⟨rfl,rfl,rfl,trivial⟩ (fun u=>?_)
   refine c_seq<|c_seq<|ga_start (n:=31) ⟨w0,M,H,(100170,⟨.slice A11 x8.length c12,9,1,x8.length,x8.flatMap (fun x : ByteArray=>[Value.string x])⟩)::(100120,⟨.slice A4 x1.length c5,9,1,x1.length,x1.flatMap (fun x : ByteArray=>[Value.string x])⟩)::R,φ⟩ [] #[false,false,false,false,false,false,false,false,false,false,false,false,false,false,false,false,false,false,false,false,false,false,false,false,false,false,false,false,false,false,false] (fun W h=>h.phi (fun W hφ=>hφ)) mixed rfl rfl<|ga_v (i:=0) (bz 31 1) rfl (by kernel_rfl) (fun _ _ _ _ h=>h) rfl (r_move)<|ga_r (i:=1) (bz 31 3) rfl (by kernel_rfl) (by decide) rfl (r_move)<|ga_r (i:=2) (bz 31 7) rfl (by kernel_rfl) (by decide) rfl (r_lenL Tryz.underlying26 rfl)<|ga_r (i:=3) (bz 31 15) rfl (by kernel_rfl) (by decide) rfl (r_lss rfl rfl)<|ga_r (i:=4) (bz 31 31) rfl (by kernel_rfl) (by decide) rfl (r_move) ?_
   refine ga_if (t:=30) rfl (fun h226=>?_) (fun h226=>?_)
   ·
    replace hm:=ite_t hm (of_decide_eq_true h226)
    refine ga_do (i:=5) (bz 31 63) rfl (by kernel_rfl) (fun _ _ _ _ h=>h) rfl rfl rfl rfl rfl h226 (r_move)<|ga_rG (i:=6) (bz 31 127) rfl (by kernel_rfl) (by decide) rfl rfl rfl rfl rfl h226 (r_move)<|ga_rG (i:=7) (bz 31 255) rfl (by kernel_rfl) (by decide) rfl rfl rfl rfl rfl h226 (r_lenL Tryz.underlying26 rfl)<|ga_rG (i:=8) (bz 31 511) rfl (by kernel_rfl) (by decide) rfl rfl rfl rfl rfl h226 (r_lss rfl rfl)<|ga_r (i:=9) (bz 31 1023) rfl (by kernel_rfl) (by decide) rfl (r_pick1 rfl h226)<|ga_r (i:=10) (bz 31 2047) rfl (by kernel_rfl) (by decide) rfl (r_move) ?_
    refine ga_if (t:=36) rfl (fun h227=>?_) (fun h227=>?_)
    ·
     replace hm:=ite_t hm (of_decide_eq_true h227)
     refine ga_do (i:=11) (bz 31 4095) rfl (by kernel_rfl) (fun _ _ _ _ h=>h) rfl rfl rfl rfl rfl h227 (r_move)<|ga_do (i:=12) (bz 31 8191) rfl (by kernel_rfl) (fun _ _ _ _ h=>h) rfl rfl rfl rfl rfl h227 (r_move)<|ga_do (i:=13) (bz 31 16383) rfl (by kernel_rfl) (fun _ _ _ _ h=>h) rfl rfl rfl rfl rfl h227 (r_lenL Tryz.underlying26 rfl)<|ga_do (i:=14) (bz 31 32767) rfl (by kernel_rfl) (fun _ _ _ _ h=>h) rfl rfl rfl rfl rfl h227 (r_sub rfl rfl rfl)<|ga_do (i:=15) (bz 31 65535) rfl (by kernel_rfl) (fun _ _ _ _ h=>h) rfl rfl rfl rfl rfl h227 (r_move)<|ga_do (i:=16) (bz 31 131071) rfl (by kernel_rfl) (fun _ _ _ _ h=>h) rfl rfl rfl rfl rfl h227 (r_sub rfl rfl rfl) ?_
     replace hm:=bnd hm
     obtain ⟨x228,hx228,hm⟩:=hm
     refine ga_know _ (fun W hS=>cl_at (p:=(Sta.ok ⟨w0,M,H,(100170,⟨.slice A11 x8.length c12,9,1,x8.length,x8.flatMap (fun x : ByteArray=>[Value.string x])⟩)::(100120,⟨.slice A4 x1.length c5,9,1,x1.length,x1.flatMap (fun x : ByteArray=>[Value.string x])⟩)::R,φ⟩)) (sz:=1) (fun _=>rfl) (by decide) (hS.phi (fun W hφ=>hφ)) (fun W hS=>rowCl (S:=⟨w0,M,H,(100170,⟨.slice A11 x8.length c12,9,1,x8.length,x8.flatMap (fun x : ByteArray=>[Value.string x])⟩)::(100120,⟨.slice A4 x1.length c5,9,1,x1.length,x1.flatMap (fun x : ByteArray=>[Value.string x])⟩)::R,φ⟩) (tag:=100120) rfl W hS) hx228) ?_
     rintro ⟨ad229,hA231,f230⟩
     refine ga_do (i:=17) (bz 31 262143) rfl (by kernel_rfl) (fun _ _ _ _ h=>h) rfl rfl rfl rfl rfl h227 (r_ix Tryz.underlying26 Tryz.sizeOf9 rfl hA231 rfl hx228)<|ga_do (i:=18) (bz 31 524287) rfl (by kernel_rfl) (fun _ _ _ _ h=>h) rfl rfl rfl rfl rfl h227 (r_ld rfl Tryz.isAgg9 (fun W hS=>Cl.head (f230 W hS)))<|ga_do (i:=20) (bz 31 1572863) rfl (by kernel_rfl) (fun _ _ _ _ h=>h) rfl rfl rfl rfl rfl h227 (r_move)<|ga_do (i:=21) (bz 31 3670015) rfl (by kernel_rfl) (fun _ _ _ _ h=>h) rfl rfl rfl rfl rfl h227 (r_move)<|ga_do (i:=22) (bz 31 7864319) rfl (by kernel_rfl) (fun _ _ _ _ h=>h) rfl rfl rfl rfl rfl h227 (r_lenL Tryz.underlying26 rfl)<|ga_do (i:=23) (bz 31 16252927) rfl (by kernel_rfl) (fun _ _ _ _ h=>h) rfl rfl rfl rfl rfl h227 (r_sub rfl rfl rfl)<|ga_do (i:=24) (bz 31 33030143) rfl (by kernel_rfl) (fun _ _ _ _ h=>h) rfl rfl rfl rfl rfl h227 (r_move)<|ga_do (i:=25) (bz 31 66584575) rfl (by kernel_rfl) (fun _ _ _ _ h=>h) rfl rfl rfl rfl rfl h227 (r_sub rfl rfl rfl) ?_
     replace hm:=bnd hm
     obtain ⟨x232,hx232,hm⟩:=hm
     refine ga_know _ (fun W hS=>cl_at (p:=(Sta.ok ⟨w0,M,H,(100170,⟨.slice A11 x8.length c12,9,1,x8.length,x8.flatMap (fun x : ByteArray=>[Value.string x])⟩)::(100120,⟨.slice A4 x1.length c5,9,1,x1.length,x1.flatMap (fun x : ByteArray=>[Value.string x])⟩)::R,φ⟩)) (sz:=1) (fun _=>rfl) (by decide) (hS.phi (fun W hφ=>hφ)) (fun W hS=>rowCl (S:=⟨w0,M,H,(100170,⟨.slice A11 x8.length c12,9,1,x8.length,x8.flatMap (fun x : ByteArray=>[Value.string x])⟩)::(100120,⟨.slice A4 x1.length c5,9,1,x1.length,x1.flatMap (fun x : ByteArray=>[Value.string x])⟩)::R,φ⟩) (tag:=100170) rfl W hS) hx232) ?_
     rintro ⟨ad233,hA235,f234⟩
     refine ga_do (i:=26) (bz 31 133693439) rfl (by kernel_rfl) (fun _ _ _ _ h=>h) rfl rfl rfl rfl rfl h227 (r_ix Tryz.underlying26 Tryz.sizeOf9 rfl hA235 rfl hx232)<|ga_do (i:=27) (bz 31 267911167) rfl (by kernel_rfl) (fun _ _ _ _ h=>h) rfl rfl rfl rfl rfl h227 (r_ld rfl Tryz.isAgg9 (fun W hS=>Cl.head (f234 W hS))) ?_
     replace hm:=bnd hm
     obtain ⟨x236,hx237,hm⟩:=hm
     refine ga_cnG (first:=#[]) (i:=19) (bz 31 268435455) rfl (by kernel_rfl) (by decide) rfl rfl rfl rfl h227  ⟨w0,M,_,_,φ⟩ (fun _ h=>h) Tryz.call42 rfl rfl rfl (c_ref03_Lower x228 _ hx237) (fun _ W _ h=>h.phi (fun W hφ=>hφ)) (fun _ _=>?_)
     replace hm:=bnd hm
     obtain ⟨x238,hx239,hm⟩:=hm
     refine ga_cnG (first:=#[]) (i:=28) (bz 31 536870911) rfl (by kernel_rfl) (by decide) rfl rfl rfl rfl h227  ⟨w0,M,_,_,φ⟩ (fun _ h=>h) Tryz.call42 rfl rfl rfl (c_ref03_Lower x232 _ hx239) (fun _ W _ h=>h.phi (fun W hφ=>hφ)) (fun _ _=>?_)
     refine ga_rG (i:=29) (bz 31 1073741823) rfl (by kernel_rfl) (by decide) rfl rfl rfl rfl rfl h227 (r_eqlT rfl rfl)<|ga_r (i:=30) (bz 31 2147483647) rfl (by kernel_rfl) (by decide) rfl (r_pick1 rfl h227)<|ga_done (by kernel_rfl)<|d_then ?_
     refine c_flat [(5,.slice A4 x1.length c5),(7,.slice A11 x8.length c12),(9,Vi i152),(56,.bool (decide (x236 = x238)))] ⟨rfl,rfl,rfl,rfl,trivial⟩ (fun u=>?_)
     refine c_cond rfl (fun h240=>?_) (fun h240=>?_)
     ·
      replace hm:=ite_t hm (of_decide_eq_true h240)
      refine c_skip<|d_then<|c_block<|c_region<|g_v rfl r_move<|g_v rfl (r_add rfl rfl rfl)<|g_v rfl r_assign<|g_nil<|d_normal_block ?_
      obtain ⟨n241,hn241,hlp⟩:=nx_inl hm hnx2
      exact d_round (n241,w64 (i152 + 1)) hlp hn241 ⟨rfl,rfl,rfl,trivial⟩ (fun W h=>h.phi (fun W hφ=>hφ))
     replace hm:=ite_f hm (of_decide_eq_false h240)
     refine c_exit<|d_exit_then<|d_exit_then<|d_exit_block ?_
     replace hm:=nx_out (C:=(fun e : Int=>m_ref03_Shared_j1 e = some r)) hm hnx2 hr2
     exact d_round i152 hm Nat.zero_lt_one ⟨rfl,trivial⟩ (fun W h=>((h.dropR (t:=100170) rfl).dropR (t:=100120) rfl).phi (fun W hφ=>hφ))
    replace hm:=ite_f hm (of_decide_eq_false h227)
    refine ga_no (i:=11) (bz 31 4095) rfl (by kernel_rfl) (fun _ _ _ _ h=>h) rfl rfl rfl rfl rfl h227<|ga_no (i:=12) (bz 31 8191) rfl (by kernel_rfl) (fun _ _ _ _ h=>h) rfl rfl rfl rfl rfl h227<|ga_no (i:=13) (bz 31 16383) rfl (by kernel_rfl) (fun _ _ _ _ h=>h) rfl rfl rfl rfl rfl h227<|ga_no (i:=14) (bz 31 32767) rfl (by kernel_rfl) (fun _ _ _ _ h=>h) rfl rfl rfl rfl rfl h227<|ga_no (i:=15) (bz 31 65535) rfl (by kernel_rfl) (fun _ _ _ _ h=>h) rfl rfl rfl rfl rfl h227<|ga_no (i:=16) (bz 31 131071) rfl (by kernel_rfl) (fun _ _ _ _ h=>h) rfl rfl rfl rfl rfl h227<|ga_no (i:=17) (bz 31 262143) rfl (by kernel_rfl) (fun _ _ _ _ h=>h) rfl rfl rfl rfl rfl h227<|ga_no (i:=18) (bz 31 524287) rfl (by kernel_rfl) (fun _ _ _ _ h=>h) rfl rfl rfl rfl rfl h227<|ga_no (i:=19) (bz 31 1048575) rfl (by kernel_rfl) (fun _ _ _ _ h=>h) rfl rfl rfl rfl rfl h227<|ga_no (i:=20) (bz 31 2097151) rfl (by kernel_rfl) (fun _ _ _ _ h=>h) rfl rfl rfl rfl rfl h227 ?_
    refine ga_no (i:=21) (bz 31 4194303) rfl (by kernel_rfl) (fun _ _ _ _ h=>h) rfl rfl rfl rfl rfl h227<|ga_no (i:=22) (bz 31 8388607) rfl (by kernel_rfl) (fun _ _ _ _ h=>h) rfl rfl rfl rfl rfl h227<|ga_no (i:=23) (bz 31 16777215) rfl (by kernel_rfl) (fun _ _ _ _ h=>h) rfl rfl rfl rfl rfl h227<|ga_no (i:=24) (bz 31 33554431) rfl (by kernel_rfl) (fun _ _ _ _ h=>h) rfl rfl rfl rfl rfl h227<|ga_no (i:=25) (bz 31 67108863) rfl (by kernel_rfl) (fun _ _ _ _ h=>h) rfl rfl rfl rfl rfl h227<|ga_no (i:=26) (bz 31 134217727) rfl (by kernel_rfl) (fun _ _ _ _ h=>h) rfl rfl rfl rfl rfl h227<|ga_no (i:=27) (bz 31 268435455) rfl (by kernel_rfl) (fun _ _ _ _ h=>h) rfl rfl rfl rfl rfl h227<|ga_no (i:=28) (bz 31 536870911) rfl (by kernel_rfl) (fun _ _ _ _ h=>h) rfl rfl rfl rfl rfl h227<|ga_no (i:=29) (bz 31 1073741823) rfl (by kernel_rfl) (fun _ _ _ _ h=>h) rfl rfl rfl rfl rfl h227<|ga_r (i:=30) (bz 31 2147483647) rfl (by kernel_rfl) (by decide) rfl (r_pick0 rfl h227) ?_
    refine ga_done (by kernel_rfl)<|d_then ?_
    refine c_flat [(5,.slice A4 x1.length c5),(7,.slice A11 x8.length c12),(9,Vi i152),(56,.bool false)] ⟨rfl,rfl,rfl,rfl,trivial⟩ (fun u=>?_)
    refine c_cond0 rfl rfl<|c_exit<|d_exit_then<|d_exit_then<|d_exit_block ?_
    replace hm:=nx_out (C:=(fun e : Int=>m_ref03_Shared_j1 e = some r)) hm hnx2 hr2
    exact d_round i152 hm Nat.zero_lt_one ⟨rfl,trivial⟩ (fun W h=>((h.dropR (t:=100170) rfl).dropR (t:=100120) rfl).phi (fun W hφ=>hφ))
   replace hm:=ite_f hm (of_decide_eq_false h226)
   refine ga_no (i:=5) (bz 31 63) rfl (by kernel_rfl) (fun _ _ _ _ h=>h) rfl rfl rfl rfl rfl h226<|ga_no (i:=6) (bz 31 127) rfl (by kernel_rfl) (fun _ _ _ _ h=>h) rfl rfl rfl rfl rfl h226<|ga_no (i:=7) (bz 31 255) rfl (by kernel_rfl) (fun _ _ _ _ h=>h) rfl rfl rfl rfl rfl h226<|ga_no (i:=8) (bz 31 511) rfl (by kernel_rfl) (fun _ _ _ _ h=>h) rfl rfl rfl rfl rfl h226<|ga_r (i:=9) (bz 31 1023) rfl (by kernel_rfl) (by decide) rfl (r_pick0 rfl h226)<|ga_r (i:=10) (bz 31 2047) rfl (by kernel_rfl) (by decide) rfl (r_move)<|ga_no (i:=11) (bz 31 4095) rfl (by kernel_rfl) (fun _ _ _ _ h=>h) rfl rfl rfl rfl rfl rfl<|ga_no (i:=12) (bz 31 8191) rfl (by kernel_rfl) (fun _ _ _ _ h=>h) rfl rfl rfl rfl rfl rfl<|ga_no (i:=13) (bz 31 16383) rfl (by kernel_rfl) (fun _ _ _ _ h=>h) rfl rfl rfl rfl rfl rfl<|ga_no (i:=14) (bz 31 32767) rfl (by kernel_rfl) (fun _ _ _ _ h=>h) rfl rfl rfl rfl rfl rfl ?_
   refine ga_no (i:=15) (bz 31 65535) rfl (by kernel_rfl) (fun _ _ _ _ h=>h) rfl rfl rfl rfl rfl rfl<|ga_no (i:=16) (bz 31 131071) rfl (by kernel_rfl) (fun _ _ _ _ h=>h) rfl rfl rfl rfl rfl rfl<|ga_no (i:=17) (bz 31 262143) rfl (by kernel_rfl) (fun _ _ _ _ h=>h) rfl rfl rfl rfl rfl rfl<|ga_no (i:=18) (bz 31 524287) rfl (by kernel_rfl) (fun _ _ _ _ h=>h) rfl rfl rfl rfl rfl rfl<|ga_no (i:=19) (bz 31 1048575) rfl (by kernel_rfl) (fun _ _ _ _ h=>h) rfl rfl rfl rfl rfl rfl<|ga_no (i:=20) (bz 31 2097151) rfl (by kernel_rfl) (fun _ _ _ _ h=>h) rfl rfl rfl rfl rfl rfl<|ga_no (i:=21) (bz 31 4194303) rfl (by kernel_rfl) (fun _ _ _ _ h=>h) rfl rfl rfl rfl rfl rfl<|ga_no (i:=22) (bz 31 8388607) rfl (by kernel_rfl) (fun _ _ _ _ h=>h) rfl rfl rfl rfl rfl rfl<|ga_no (i:=23) (bz 31 16777215) rfl (by kernel_rfl) (fun _ _ _ _ h=>h) rfl rfl rfl rfl rfl rfl<|ga_no (i:=24) (bz 31 33554431) rfl (by kernel_rfl) (fun _ _ _ _ h=>h) rfl rfl rfl rfl rfl rfl ?_
   refine ga_no (i:=25) (bz 31 67108863) rfl (by kernel_rfl) (fun _ _ _ _ h=>h) rfl rfl rfl rfl rfl rfl<|ga_no (i:=26) (bz 31 134217727) rfl (by kernel_rfl) (fun _ _ _ _ h=>h) rfl rfl rfl rfl rfl rfl<|ga_no (i:=27) (bz 31 268435455) rfl (by kernel_rfl) (fun _ _ _ _ h=>h) rfl rfl rfl rfl rfl rfl<|ga_no (i:=28) (bz 31 536870911) rfl (by kernel_rfl) (fun _ _ _ _ h=>h) rfl rfl rfl rfl rfl rfl<|ga_no (i:=29) (bz 31 1073741823) rfl (by kernel_rfl) (fun _ _ _ _ h=>h) rfl rfl rfl rfl rfl rfl<|ga_r (i:=30) (bz 31 2147483647) rfl (by kernel_rfl) (by decide) rfl (r_pick0 rfl rfl)<|ga_done (by kernel_rfl)<|d_then<|c_cond0 rfl rfl<|c_exit ?_
   refine d_exit_then<|d_exit_then<|d_exit_block ?_
   replace hm:=nx_out (C:=(fun e : Int=>m_ref03_Shared_j1 e = some r)) hm hnx2 hr2
   exact d_round i152 hm Nat.zero_lt_one ⟨rfl,trivial⟩ (fun W h=>((h.dropR (t:=100170) rfl).dropR (t:=100120) rfl).phi (fun W hφ=>hφ))
  unfold m_ref03_Shared_j1 at hm
  refine d_flat [(9,Vi i107)] ⟨rfl,trivial⟩ (fun u=>?_)
  refine d_sta ⟨w0,M,H,R,φ⟩ (fun _ h=>h)<|d_then<|c_seq<|c_region<|g_v rfl r_move<|g_v rfl r_assign<|g_nil<|d_then<|c_ret ?_
  cases hm
  exact d_retC () Tryz.results95 (res_tmp (res_nil rfl)) trivial (fun W h=>ok_pre (H1:=[]) (R1:=[]) h (fun W hφ=>hφ)) (.inr rfl)
 replace hm:=ite_t hm (of_decide_eq_true h15)
 refine g_no rfl rfl rfl rfl rfl h15<|g_v rfl (r_pick1 rfl h15)<|g_nil<|d_then<|c_cond1 rfl rfl<|c_seq<|c_region<|g_v rfl r_assign<|g_nil<|d_then ?_
 refine c_ret<|d_ret_then ?_
 cases hm
 exact d_retC () Tryz.results95 (res_tmp (res_nil rfl)) trivial (fun W h=>ok_pre (H1:=[]) (R1:=[_,_]) h (fun W hφ=>hφ)) (.inr rfl)
noncomputable def m_ref03_Depth (p0 : ByteArray) : Option Int:=
  (m_ref03_Labels p0).bind fun (z7 : (List ByteArray)×Int)=>
  if z7.2 ≠ 0 then
    some (-1)
  else
    some (z7.1.length : Int)
theorem c_ref03_Depth {w0 : World} {M : Nat→Prop} {H : List (Nat×Nat×Obj)} {R : List (Nat×Row)} {φ : World→Prop} (p0 : ByteArray) (r : Int) (hm : m_ref03_Depth p0 = some r) :
    Cn Tryz.prog 96 #[Vs p0] ⟨w0,M,H,R,φ⟩ (fun x : Unit=>Vi r) (fun x=>True) (fun x=>⟨w0,M,H,R,φ⟩):=by
 unfold m_ref03_Depth at hm
 refine cn_intro (fn:=Tryz.f96) (N:=14) Tryz.func96 rfl Tryz.ntmps96 rfl<|c_seq<|c_region<|g_v rfl r_assign<|g_nil<|d_then<|c_seq<|c_region<|g_v rfl r_move ?_
 replace hm:=bnd hm
 obtain ⟨⟨x1,x2⟩,hx3,hm⟩:=hm
 refine g_cn ⟨w0,M,_,_,φ⟩ (fun _ h=>h) Tryz.call119 rfl rfl (c_ref03_Labels p0 _ hx3) (fun ⟨A4,c5⟩ hc5=>?_)
 refine g_sta _ (fun W h=>(ok_frontR (t:=2000) (t':=100070) h rfl))<|g_v rfl r_move<|g_v rfl (r_extract rfl rfl)<|g_v rfl (r_extract rfl rfl)<|g_v rfl r_assign<|g_v rfl r_assign<|g_nil<|d_then<|c_seq<|c_seq ?_
 refine c_region<|g_v rfl r_move<|g_v rfl (r_neq rfl rfl)<|g_nil<|d_then ?_
 refine c_flat [(3,.slice A4 x1.length c5),(11,.bool (decide (x2 ≠ 0)))] ⟨rfl,rfl,trivial⟩ (fun u=>?_)
 refine c_sta ⟨w0,M,H,(100070,⟨.slice A4 x1.length c5,9,1,x1.length,x1.flatMap (fun x : ByteArray=>[Value.string x])⟩)::R,φ⟩ (fun _ h=>h) ?_
 refine c_cond rfl (fun h8=>?_) (fun h8=>?_)
 ·
  replace hm:=ite_t hm (of_decide_eq_true h8)
  refine c_seq<|c_region<|g_v rfl r_assign<|g_nil<|d_then<|c_ret<|d_ret_then ?_
  cases hm
  exact d_retC () Tryz.results96 (res_tmp (res_nil rfl)) trivial (fun W h=>ok_pre (H1:=[]) (R1:=[_]) h (fun W hφ=>hφ)) (.inr rfl)
 replace hm:=ite_f hm (of_decide_eq_false h8)
 refine c_skip<|d_then<|c_seq<|c_region<|g_v rfl r_move<|g_v rfl (r_lenL Tryz.underlying26 rfl)<|g_v rfl r_assign<|g_nil<|d_then<|c_ret ?_
 cases hm
 exact d_retC () Tryz.results96 (res_tmp (res_nil rfl)) trivial (fun W h=>ok_pre (H1:=[]) (R1:=[_]) h (fun W hφ=>hφ)) (.inr rfl)
noncomputable def m_ref03_Under (p0 : ByteArray) (p1 : ByteArray) : Option Bool:=
  (m_ref03_Shared p0 p1).bind fun x1=>
  if 0 ≤ x1 then
    (m_ref03_Depth p1).bind fun x4=>
    some (decide (x1 = x4))
  else
    some false
theorem c_ref03_Under {w0 : World} {M : Nat→Prop} {H : List (Nat×Nat×Obj)} {R : List (Nat×Row)} {φ : World→Prop} (p0 : ByteArray) (p1 : ByteArray) (r : Bool) (hm : m_ref03_Under p0 p1 = some r) :
    Cn Tryz.prog 43 #[Vs p0,Vs p1] ⟨w0,M,H,R,φ⟩ (fun x : Unit=>.bool r) (fun x=>True) (fun x=>⟨w0,M,H,R,φ⟩):=by
 unfold m_ref03_Under at hm
 refine cn_intro (fn:=Tryz.f43) (N:=17) Tryz.func43 rfl Tryz.ntmps43 rfl<|c_seq<|c_region<|g_v rfl r_assign<|g_nil<|d_then<|c_seq<|c_region<|g_v rfl r_move<|g_v rfl r_move ?_
 replace hm:=bnd hm
 obtain ⟨x1,hx2,hm⟩:=hm
 refine g_cn ⟨w0,M,_,_,φ⟩ (fun _ h=>h) Tryz.call95 rfl rfl (c_ref03_Shared p0 p1 _ hx2) (fun _ _=>?_)
 refine g_v rfl r_assign<|g_nil<|d_then<|c_seq<|c_region<|g_v rfl r_move<|g_v rfl (r_geq rfl rfl)<|g_v rfl r_move ?_
 refine g_if rfl rfl rfl rfl rfl (fun h3=>?_) (fun h3=>?_)
 ·
  replace hm:=ite_t hm (of_decide_eq_true h3)
  refine g_v rfl r_move<|g_do rfl rfl rfl rfl rfl h3<|g_v rfl r_move<|g_do rfl rfl rfl rfl rfl h3 ?_
  replace hm:=bnd hm
  obtain ⟨x4,hx5,hm⟩:=hm
  refine g_cn ⟨w0,M,_,_,φ⟩ (fun _ h=>h) Tryz.call96 rfl rfl (c_ref03_Depth p1 _ hx5) (fun _ _=>?_)
  refine g_do rfl rfl rfl rfl rfl h3<|g_v rfl (r_eql rfl rfl)<|g_v rfl (r_pick1 rfl h3)<|g_v rfl r_assign<|g_nil<|d_then ?_
  refine c_flat [(4,.bool (decide (x1 = x4)))] ⟨rfl,trivial⟩ (fun u=>?_)
  refine c_sta ⟨w0,M,H,R,φ⟩ (fun _ h=>h)<|c_ret ?_
  cases hm
  exact d_retC () Tryz.results43 (res_tmp (res_nil rfl)) trivial (fun W h=>ok_pre (H1:=[]) (R1:=[]) h (fun W hφ=>hφ)) (.inr rfl)
 replace hm:=ite_f hm (of_decide_eq_false h3)
 iterate 3 refine g_no rfl rfl rfl rfl rfl h3 ?_
 refine g_v rfl (r_pick0 rfl h3)<|g_v rfl r_assign<|g_nil<|d_then ?_
 refine c_flat [(4,.bool false)] ⟨rfl,trivial⟩ (fun u=>?_)
 refine c_sta ⟨w0,M,H,R,φ⟩ (fun _ h=>h)<|c_ret ?_
 cases hm
 exact d_retC () Tryz.results43 (res_tmp (res_nil rfl)) trivial (fun W h=>ok_pre (H1:=[]) (R1:=[]) h (fun W hφ=>hφ)) (.inr rfl)
end Go.Proofs.YthpjodfjdnnckaaGreat
