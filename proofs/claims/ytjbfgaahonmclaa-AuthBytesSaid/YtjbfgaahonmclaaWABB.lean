import Derived.Test.YtjbfgaahonmclaaWABA
set_option maxRecDepth 100000
set_option maxHeartbeats 4000000
set_option linter.unusedVariables false
set_option linter.unusedSimpArgs false
namespace Go.Proofs.Ytjbfgaahonmclaa
open Go.RowKit Go.Proofs.YtjbfgaahonmclaaW.PrintLast
noncomputable def m_auth_Answer_j1 (x79 : GMessage) (x100 : List GRR) (l232 : List GRR) : Option GMessage:=
  some (⟨x79.fID,x79.fResponse,x79.fAuthoritative,x79.fTruncated,x79.fDesired,x79.fAvailable,x79.fOpcode,x79.fCode,x79.fQuestions,x79.fAnswers,x100,l232⟩ : GMessage)
noncomputable def m_auth_Answer_j3 (i303 : Int) (l420 : List GRR) : Option (((List GRR)×Int) ⊕ (List GRR)):=
  some (.inl (l420,w64 (i303 + 1)))
noncomputable def m_auth_Answer_s4 (x376 : List GRR) (l441 : List GRR) (i444 : Int) : Option (((List GRR)×Int) ⊕ (List GRR)):=
  if i444 < (x376.length : Int) then
    (at_ x376 i444).bind fun x464=>
    (m_slices_Contains_29 l441 x464).bind fun x469=>
    if x469 = true then
      some (.inl (l441,w64 (i444 + 1)))
    else
      (app 40 l441 [x464]).bind fun l473=>
      some (.inl (l473,w64 (i444 + 1)))
  else
    some (.inr l441)
noncomputable def m_auth_Answer_s2 (x100 : List GRR) (x69 : GZone) (l300 : List GRR) (i303 : Int) : Option (((List GRR)×Int) ⊕ (List GRR)):=
  if i303 < (x100.length : Int) then
    (at_ x100 i303).bind fun x367=>
    (m_record_Target x367).bind fun (z375 : ByteArray×Bool)=>
    (m_auth_zone_addresses (⟨x69⟩ : Gauth_zone) z375.1).bind fun x376=>
    (loop (fun s=>m_auth_Answer_s4 x376 s.1 s.2) (l300,0)).bind fun e=>m_auth_Answer_j3 i303 e
  else
    some (.inr l300)
noncomputable def m_auth_Answer_j6 (x79 : GMessage) (i511 : Int) (l512 : List GRR) (l516 : List GRR) : Option GMessage:=
  some (⟨x79.fID,x79.fResponse,true,x79.fTruncated,x79.fDesired,x79.fAvailable,x79.fOpcode,i511,x79.fQuestions,l512,l516,x79.fExtras⟩ : GMessage)
noncomputable def m_auth_Answer_j5 (x69 : GZone) (x41 : GQuestion) (x79 : GMessage) (l497 : List GRR) : Option GMessage:=
  if (l497.length : Int) = 0 then
    (m_auth_zone_of (⟨x69⟩ : Gauth_zone) x69.fApex 6).bind fun x524=>
    (m_auth_There x69 x41.fName).bind fun x529=>
    if x529 = true then
      m_auth_Answer_j6 x79 x79.fCode ([] : List GRR) x524
    else
      m_auth_Answer_j6 x79 3 ([] : List GRR) x524
  else
    m_auth_Answer_j6 x79 x79.fCode l497 x79.fAuthorities
noncomputable def m_auth_Answer (p0 : List GZone) (p1 : GMessage) : Option GMessage:=
  if p1.fResponse = true then
    (m_auth_reply p1 1).bind fun x565=>
    some (⟨x565.fID,x565.fResponse,x565.fAuthoritative,x565.fTruncated,x565.fDesired,x565.fAvailable,x565.fOpcode,x565.fCode,([] : List GQuestion),x565.fAnswers,x565.fAuthorities,x565.fExtras⟩ : GMessage)
  else
    if (p1.fQuestions.length : Int) ≠ 1 then
      (m_auth_reply p1 1).bind fun x5=>
      some (⟨x5.fID,x5.fResponse,x5.fAuthoritative,x5.fTruncated,x5.fDesired,x5.fAvailable,x5.fOpcode,x5.fCode,([] : List GQuestion),x5.fAnswers,x5.fAuthorities,x5.fExtras⟩ : GMessage)
    else
      if p1.fOpcode ≠ 0 then
        (m_auth_reply p1 4).bind fun x24=>
        some x24
      else
        (at_ p1.fQuestions 0).bind fun x41=>
        (m_auth_Find p0 x41.fName).bind fun (z49 : Int×Bool)=>
        if x41.fClass ≠ 1 then
          (m_auth_reply p1 5).bind fun x548=>
          some x548
        else
          if z49.2 = true then
            (at_ p0 z49.1).bind fun x69=>
            (m_auth_reply p1 0).bind fun x79=>
            (m_auth_Below x69 x41.fName).bind fun (z98 : ByteArray×Bool)=>
            if z98.2 = true then
              (m_auth_zone_of (⟨x69⟩ : Gauth_zone) z98.1 2).bind fun x100=>
              (loop (fun s=>m_auth_Answer_s2 x100 x69 s.1 s.2) (x79.fExtras,0)).bind fun e=>m_auth_Answer_j1 x79 x100 e
            else
              (m_auth_zone_of (⟨x69⟩ : Gauth_zone) x41.fName x41.fType).bind fun x478=>
              if (x478.length : Int) = 0 then
                (m_auth_zone_of (⟨x69⟩ : Gauth_zone) x41.fName 5).bind fun x537=>
                (cutHi x537 (min (x537.length : Int) 1)).bind fun l545=>
                m_auth_Answer_j5 x69 x41 x79 l545
              else
                m_auth_Answer_j5 x69 x41 x79 x478
          else
            (m_auth_reply p1 5).bind fun x52=>
            some x52
theorem c_auth_Answer {w0 : World} {M : Nat→Prop} {H : List (Nat×Nat×Obj)} {R : List (Nat×Row)} {φ : World→Prop} (p0 : List GZone) (Ap0_0 : Option Addr) (cp0_0 : Nat) (psp0_0 : List GZoneP) (hcp0_0 : (DOk GZone.capP p0 psp0_0∧p0.length ≤ cp0_0)) (fp0_0 : ∀ W,φ W→Cl W Ap0_0 ((p0.zip psp0_0).flatMap GZone.encP)) (fop0_0 : ∀ W,φ W→DOwn GZone.ownP p0 psp0_0 W) (p1 : GMessage) (Ap1_0 : Option Addr) (cp1_0 : Nat) (hcp1_0 : p1.fQuestions.length ≤ cp1_0) (fp1_0 : ∀ W,(Sta.mk w0 M H R φ).ok W→Cl W Ap1_0 (p1.fQuestions.flatMap GQuestion.enc)) (Ap1_1 : Option Addr) (cp1_1 : Nat) (hcp1_1 : p1.fAnswers.length ≤ cp1_1) (fp1_1 : ∀ W,(Sta.mk w0 M H R φ).ok W→Cl W Ap1_1 (p1.fAnswers.flatMap GRR.enc)) (Ap1_2 : Option Addr) (cp1_2 : Nat) (hcp1_2 : p1.fAuthorities.length ≤ cp1_2) (fp1_2 : ∀ W,(Sta.mk w0 M H R φ).ok W→Cl W Ap1_2 (p1.fAuthorities.flatMap GRR.enc)) (Ap1_3 : Option Addr) (cp1_3 : Nat) (hcp1_3 : p1.fExtras.length ≤ cp1_3) (fp1_3 : ∀ W,(Sta.mk w0 M H R φ).ok W→Cl W Ap1_3 (p1.fExtras.flatMap GRR.enc)) (r : GMessage) (hm : m_auth_Answer p0 p1 = some r) :
    Cn Try.prog 9 #[.slice Ap0_0 p0.length cp0_0,.agg #[.int .u16 p1.fID,.bool p1.fResponse,.bool p1.fAuthoritative,.bool p1.fTruncated,.bool p1.fDesired,.bool p1.fAvailable,.int .i64 p1.fOpcode,.int .i64 p1.fCode,.slice Ap1_0 p1.fQuestions.length cp1_0,.slice Ap1_1 p1.fAnswers.length cp1_1,.slice Ap1_2 p1.fAuthorities.length cp1_2,.slice Ap1_3 p1.fExtras.length cp1_3]] ⟨w0,M,H,R,φ⟩ (fun x : Option Addr×Nat×Option Addr×Nat×Option Addr×Nat×Option Addr×Nat=>.agg #[.int .u16 r.fID,.bool r.fResponse,.bool r.fAuthoritative,.bool r.fTruncated,.bool r.fDesired,.bool r.fAvailable,.int .i64 r.fOpcode,.int .i64 r.fCode,.slice x.1 r.fQuestions.length x.2.1,.slice x.2.2.1 r.fAnswers.length x.2.2.2.1,.slice x.2.2.2.2.1 r.fAuthorities.length x.2.2.2.2.2.1,.slice x.2.2.2.2.2.2.1 r.fExtras.length x.2.2.2.2.2.2.2]) (fun x=>r.fQuestions.length ≤ x.2.1∧r.fAnswers.length ≤ x.2.2.2.1∧r.fAuthorities.length ≤ x.2.2.2.2.2.1∧r.fExtras.length ≤ x.2.2.2.2.2.2.2) (fun x=>⟨w0,M,H,R,fun W=>φ W∧Cl W x.1 (r.fQuestions.flatMap GQuestion.enc)∧Cl W x.2.2.1 (r.fAnswers.flatMap GRR.enc)∧Cl W x.2.2.2.2.1 (r.fAuthorities.flatMap GRR.enc)∧Cl W x.2.2.2.2.2.2.1 (r.fExtras.flatMap GRR.enc)⟩):=by
 unfold m_auth_Answer at hm
 refine cn_intro (fn:=Try.f9) (N:=154) Try.func9 rfl Try.ntmps9 rfl<|c_seq<|c_region ?_
 refine g_e rfl (e_box 100030 rfl) (fun g1 _=>?_)
 refine g_e rfl (e_alloc 100040 Try.zeroValue26) (fun g2 _=>?_)
 refine g_nil<|d_then<|c_seq<|c_block<|c_seq<|c_region<|g_v rfl (r_field (n:=1) Try.underlying26 rfl Try.sizeOf4 rfl rfl)<|g_v rfl (r_load (tag:=100030) rfl rfl rfl Try.isAgg4)<|g_v rfl r_move<|g_sta ⟨w0,M,(100040,g2,.cells #[.int .u16 0,.bool false,.bool false,.bool false,.bool false,.bool false,.int .i64 0,.int .i64 0,.slice none 0 0,.slice none 0 0,.slice none 0 0,.slice none 0 0] 26 (0,0))::(100030,g1,.cells #[.int .u16 p1.fID,.bool p1.fResponse,.bool p1.fAuthoritative,.bool p1.fTruncated,.bool p1.fDesired,.bool p1.fAvailable,.int .i64 p1.fOpcode,.int .i64 p1.fCode,.slice Ap1_0 p1.fQuestions.length cp1_0,.slice Ap1_1 p1.fAnswers.length cp1_1,.slice Ap1_2 p1.fAuthorities.length cp1_2,.slice Ap1_3 p1.fExtras.length cp1_3] 26 (0,0))::H,R,φ⟩ (fun _ h=>h) ?_
 refine g_if rfl rfl rfl rfl rfl (fun h3=>?_) (fun h3=>?_)
 ·
  replace hm:=ite_f hm (bool_nt h3)
  refine g_v rfl (r_field (n:=8) Try.underlying26 rfl Try.sizeOf23 rfl rfl)<|g_do rfl rfl rfl rfl rfl h3<|g_v rfl (r_load (tag:=100030) rfl rfl rfl Try.isAgg23)<|g_do rfl rfl rfl rfl rfl h3<|g_v rfl (r_lenL Try.underlying23 rfl)<|g_do rfl rfl rfl rfl rfl h3<|g_v rfl (r_neq rfl rfl)<|g_v rfl (r_pick0 rfl h3)<|g_v rfl r_assign<|g_nil ?_
  refine d_then ?_
  refine c_flat [(0,.slice Ap0_0 p0.length cp0_0),(3,.pointer (some ⟨g1,0,none⟩)),(4,.pointer (some ⟨g2,0,none⟩)),(20,.bool (decide ((p1.fQuestions.length : Int) ≠ 1)))] ⟨rfl,rfl,rfl,rfl,trivial⟩ (fun u=>?_)
  refine c_cond rfl (fun h4=>?_) (fun h4=>?_)
  ·
   replace hm:=ite_t hm (of_decide_eq_true h4)
   refine c_seq<|c_region<|g_v rfl (r_loadA (tag:=100030) rfl rfl Try.isAgg26 Try.sizeOf26 rfl rfl) ?_
   replace hm:=bnd hm
   obtain ⟨x5,hx6,hm⟩:=hm
   refine g_cn ⟨w0,M,_,_,φ⟩ (fun _ h=>h) Try.call25 rfl rfl (c_auth_reply p1 Ap1_0 cp1_0 hcp1_0 (fun W hS=>fp1_0 W (ok_pre (H1:=[_,_]) (R1:=[]) hS (fun W h=>h))) Ap1_1 cp1_1 hcp1_1 (fun W hS=>fp1_1 W (ok_pre (H1:=[_,_]) (R1:=[]) hS (fun W h=>h))) Ap1_2 cp1_2 hcp1_2 (fun W hS=>fp1_2 W (ok_pre (H1:=[_,_]) (R1:=[]) hS (fun W h=>h))) Ap1_3 cp1_3 hcp1_3 (fun W hS=>fp1_3 W (ok_pre (H1:=[_,_]) (R1:=[]) hS (fun W h=>h))) 1 _ hx6) (fun ⟨A7,c8,A10,c11,A13,c14,A16,c17⟩ ⟨hc8,hc11,hc14,hc17⟩=>?_)
   refine g_sta _ (fun W h=>(ok_frontR (t:=2003) (t':=100303) h rfl)) ?_
   refine g_abs (fun φ19 q19'=>?_)
   have q19 : ∀ W,φ19 W→φ W:=fun W h=>(q19' W h).1
   have f9:=fun (W : World) (h : φ19 W)=>(q19' W h).2.1
   have f12:=fun (W : World) (h : φ19 W)=>(q19' W h).2.2.1
   have f15:=fun (W : World) (h : φ19 W)=>(q19' W h).2.2.2
   refine g_e rfl (e_alloc 100050 Try.zeroValue26) (fun g20 _=>?_)
   refine g_storeL (tag:=100050) rfl rfl rfl rfl Try.sizeOf26 rfl rfl<|g_nil<|d_then<|c_seq<|c_region<|g_v rfl (r_field (n:=8) Try.underlying26 rfl Try.sizeOf23 rfl rfl)<|g_storeL (tag:=100050) rfl rfl rfl rfl Try.sizeOf23 rfl rfl<|g_nil<|d_then<|c_seq ?_
   refine c_region<|g_v rfl (r_loadA (tag:=100050) rfl rfl Try.isAgg26 Try.sizeOf26 rfl rfl)<|g_storeL (tag:=100040) rfl rfl rfl rfl Try.sizeOf26 rfl rfl<|g_nil<|d_then<|c_ret<|d_ret_block<|d_ret_then ?_
   cases hm
   refine d_shut (tag:=100303) rfl (fun φ21 q21'=>?_)
   have q21 : ∀ W,φ21 W→φ19 W:=fun W h=>(q21' W h).1
   have f22:=fun (W : World) (h : φ21 W)=>(q21' W h).2
   exact d_retC (none,0,A10,c11,A13,c14,A16,c17) Try.results9 (res_agg (tag:=100040) rfl rfl Try.isAgg26 Try.sizeOf26 (res_nil rfl)) ⟨(Nat.le_refl 0),hc11,hc14,hc17⟩ (fun W h=>ok_pre (H1:=[_,_,_]) (R1:=[]) h (fun W hφ=>⟨(q19 _ (q21 _ hφ)),(fun W _=>Cl.nil _ _) W hφ,(fun W h=>f12 W (q21 _ h)) W hφ,(fun W h=>f15 W (q21 _ h)) W hφ,(fun W h=>f22 W h) W hφ⟩)) (.inr rfl)
  replace hm:=ite_f hm (of_decide_eq_false h4)
  refine c_seq<|c_region<|g_v rfl (r_field (n:=6) Try.underlying26 rfl Try.sizeOf3 rfl rfl)<|g_v rfl (r_load (tag:=100030) rfl rfl rfl Try.isAgg3)<|g_v rfl (r_neq rfl rfl)<|g_v rfl r_assign<|g_nil<|d_then ?_
  refine c_cond rfl (fun h23=>?_) (fun h23=>?_)
  ·
   replace hm:=ite_t hm (of_decide_eq_true h23)
   refine c_seq<|c_region<|g_v rfl (r_loadA (tag:=100030) rfl rfl Try.isAgg26 Try.sizeOf26 rfl rfl) ?_
   replace hm:=bnd hm
   obtain ⟨x24,hx25,hm⟩:=hm
   refine g_cn ⟨w0,M,_,_,φ⟩ (fun _ h=>h) Try.call25 rfl rfl (c_auth_reply p1 Ap1_0 cp1_0 hcp1_0 (fun W hS=>fp1_0 W (ok_pre (H1:=[_,_]) (R1:=[]) hS (fun W h=>h))) Ap1_1 cp1_1 hcp1_1 (fun W hS=>fp1_1 W (ok_pre (H1:=[_,_]) (R1:=[]) hS (fun W h=>h))) Ap1_2 cp1_2 hcp1_2 (fun W hS=>fp1_2 W (ok_pre (H1:=[_,_]) (R1:=[]) hS (fun W h=>h))) Ap1_3 cp1_3 hcp1_3 (fun W hS=>fp1_3 W (ok_pre (H1:=[_,_]) (R1:=[]) hS (fun W h=>h))) 4 _ hx25) (fun ⟨A26,c27,A29,c30,A32,c33,A35,c36⟩ ⟨hc27,hc30,hc33,hc36⟩=>?_)
   refine g_sta _ (fun W h=>(ok_frontR (t:=2003) (t':=100383) h rfl)) ?_
   refine g_abs (fun φ38 q38'=>?_)
   have q38 : ∀ W,φ38 W→φ W:=fun W h=>(q38' W h).1
   have f28:=fun (W : World) (h : φ38 W)=>(q38' W h).2.1
   have f31:=fun (W : World) (h : φ38 W)=>(q38' W h).2.2.1
   have f34:=fun (W : World) (h : φ38 W)=>(q38' W h).2.2.2
   refine g_storeL (tag:=100040) rfl rfl rfl rfl Try.sizeOf26 rfl rfl<|g_nil<|d_then<|c_ret<|d_ret_block<|d_ret_then ?_
   cases hm
   refine d_shut (tag:=100383) rfl (fun φ39 q39'=>?_)
   have q39 : ∀ W,φ39 W→φ38 W:=fun W h=>(q39' W h).1
   have f40:=fun (W : World) (h : φ39 W)=>(q39' W h).2
   exact d_retC (A26,c27,A29,c30,A32,c33,A35,c36) Try.results9 (res_agg (tag:=100040) rfl rfl Try.isAgg26 Try.sizeOf26 (res_nil rfl)) ⟨hc27,hc30,hc33,hc36⟩ (fun W h=>ok_pre (H1:=[_,_]) (R1:=[]) h (fun W hφ=>⟨(q38 _ (q39 _ hφ)),(fun W h=>f28 W (q39 _ h)) W hφ,(fun W h=>f31 W (q39 _ h)) W hφ,(fun W h=>f34 W (q39 _ h)) W hφ,(fun W h=>f40 W h) W hφ⟩)) (.inr rfl)
  replace hm:=ite_f hm (of_decide_eq_false h23)
  refine c_skip<|d_normal_block<|d_then<|c_seq<|c_region<|g_v rfl (r_field (n:=8) Try.underlying26 rfl Try.sizeOf23 rfl rfl)<|g_v rfl (r_load (tag:=100030) rfl rfl rfl Try.isAgg23) ?_
  replace hm:=bnd hm
  obtain ⟨x41,hx41,hm⟩:=hm
  refine g_know _ (fun W hS=>cl_at (p:=(Sta.mk w0 M H R φ).ok) (sz:=3) (fun _=>rfl) (by decide) (ok_pre (H1:=[_,_]) (R1:=[]) hS (fun W h=>h)) fp1_0 hx41) ?_
  rintro ⟨ad42,hA44,f43⟩
  refine g_v rfl (r_ix Try.underlying23 Try.sizeOf29 rfl hA44 rfl hx41)<|g_v rfl (r_ldA rfl Try.isAgg29 Try.sizeOf29 (fun W hS=>(f43 W (ok_pre (H1:=[_,_]) (R1:=[]) hS (fun W h=>h))).take 3) rfl) ?_
  refine g_e rfl (e_alloc 100060 Try.zeroValue29) (fun g45 _=>?_)
  refine g_storeL (tag:=100060) rfl rfl rfl rfl Try.sizeOf29 rfl rfl<|g_nil<|d_then ?_
  refine c_flat [(0,.slice Ap0_0 p0.length cp0_0),(3,.pointer (some ⟨g1,0,none⟩)),(4,.pointer (some ⟨g2,0,none⟩)),(6,.pointer (some ⟨g45,0,none⟩))] ⟨rfl,rfl,rfl,rfl,trivial⟩ (fun u=>?_)
  refine c_sta ⟨w0,M,(100060,g45,.cells #[.string x41.fName,.int .u16 x41.fType,.int .u16 x41.fClass] 29 (0,0))::(100040,g2,.cells #[.int .u16 0,.bool false,.bool false,.bool false,.bool false,.bool false,.int .i64 0,.int .i64 0,.slice none 0 0,.slice none 0 0,.slice none 0 0,.slice none 0 0] 26 (0,0))::(100030,g1,.cells #[.int .u16 p1.fID,.bool p1.fResponse,.bool p1.fAuthoritative,.bool p1.fTruncated,.bool p1.fDesired,.bool p1.fAvailable,.int .i64 p1.fOpcode,.int .i64 p1.fCode,.slice Ap1_0 p1.fQuestions.length cp1_0,.slice Ap1_1 p1.fAnswers.length cp1_1,.slice Ap1_2 p1.fAuthorities.length cp1_2,.slice Ap1_3 p1.fExtras.length cp1_3] 26 (0,0))::H,R,φ⟩ (fun _ h=>h)<|c_seq<|c_region<|g_v rfl r_move<|g_v rfl (r_field (n:=0) Try.underlying29 rfl Try.sizeOf9 rfl rfl)<|g_v rfl (r_load (tag:=100060) rfl rfl rfl Try.isAgg9) ?_
  replace hm:=bnd hm
  obtain ⟨⟨x46,x47⟩,hx48,hm⟩:=hm
  refine g_cn ⟨w0,M,_,_,φ⟩ (fun _ h=>h) Try.call16 rfl rfl (c_auth_Find p0 Ap0_0 cp0_0 psp0_0 ⟨hcp0_0.1,hcp0_0.2⟩ (fun W h=>fp0_0 W h) (fun W h=>(fop0_0 W h)) x41.fName _ hx48) (fun _ _=>?_)
  refine g_v rfl r_move<|g_v rfl (r_extract rfl rfl)<|g_v rfl (r_extract rfl rfl)<|g_v rfl r_assign<|g_v rfl r_assign<|g_nil<|d_then ?_
  refine c_flat [(0,.slice Ap0_0 p0.length cp0_0),(3,.pointer (some ⟨g1,0,none⟩)),(4,.pointer (some ⟨g2,0,none⟩)),(6,.pointer (some ⟨g45,0,none⟩)),(7,.int .i64 x46),(8,.bool x47)] ⟨rfl,rfl,rfl,rfl,rfl,rfl,trivial⟩ (fun u=>?_)
  refine c_seq<|c_seq<|c_region<|g_v rfl (r_field (n:=2) Try.underlying29 rfl Try.sizeOf22 rfl rfl)<|g_v rfl (r_load (tag:=100060) rfl rfl rfl Try.isAgg22)<|g_v rfl (r_neq rfl rfl)<|g_v rfl r_move ?_
  refine g_if rfl rfl rfl rfl rfl (fun h50=>?_) (fun h50=>?_)
  ·
   replace hm:=ite_f hm (of_decide_eq_false h50)
   refine g_v rfl r_move<|g_do rfl rfl rfl rfl rfl h50<|g_v rfl (r_not rfl)<|g_v rfl (r_pick0 rfl h50)<|g_nil<|d_then ?_
   refine c_cond rfl (fun h51=>?_) (fun h51=>?_)
   ·
    have h51' : x47 = false:=by revert h51; cases x47 <;> simp
    replace hm:=ite_f hm (bool_nt h51')
    refine c_seq<|c_region<|g_v rfl (r_loadA (tag:=100030) rfl rfl Try.isAgg26 Try.sizeOf26 rfl rfl) ?_
    replace hm:=bnd hm
    obtain ⟨x52,hx53,hm⟩:=hm
    refine g_cn ⟨w0,M,_,_,φ⟩ (fun _ h=>h) Try.call25 rfl rfl (c_auth_reply p1 Ap1_0 cp1_0 hcp1_0 (fun W hS=>fp1_0 W (ok_pre (H1:=[_,_,_]) (R1:=[]) hS (fun W h=>h))) Ap1_1 cp1_1 hcp1_1 (fun W hS=>fp1_1 W (ok_pre (H1:=[_,_,_]) (R1:=[]) hS (fun W h=>h))) Ap1_2 cp1_2 hcp1_2 (fun W hS=>fp1_2 W (ok_pre (H1:=[_,_,_]) (R1:=[]) hS (fun W h=>h))) Ap1_3 cp1_3 hcp1_3 (fun W hS=>fp1_3 W (ok_pre (H1:=[_,_,_]) (R1:=[]) hS (fun W h=>h))) 5 _ hx53) (fun ⟨A54,c55,A57,c58,A60,c61,A63,c64⟩ ⟨hc55,hc58,hc61,hc64⟩=>?_)
    refine g_sta _ (fun W h=>(ok_frontR (t:=2003) (t':=100583) h rfl)) ?_
    refine g_abs (fun φ66 q66'=>?_)
    have q66 : ∀ W,φ66 W→φ W:=fun W h=>(q66' W h).1
    have f56:=fun (W : World) (h : φ66 W)=>(q66' W h).2.1
    have f59:=fun (W : World) (h : φ66 W)=>(q66' W h).2.2.1
    have f62:=fun (W : World) (h : φ66 W)=>(q66' W h).2.2.2
    refine g_storeL (tag:=100040) rfl rfl rfl rfl Try.sizeOf26 rfl rfl<|g_nil<|d_then ?_
    refine c_flat [(4,.pointer (some ⟨g2,0,none⟩))] ⟨rfl,trivial⟩ (fun u=>?_)
    refine c_sta ⟨w0,M,(100060,g45,.cells #[.string x41.fName,.int .u16 x41.fType,.int .u16 x41.fClass] 29 (0,0))::(100040,g2,.cells #[.int .u16 x52.fID,.bool x52.fResponse,.bool x52.fAuthoritative,.bool x52.fTruncated,.bool x52.fDesired,.bool x52.fAvailable,.int .i64 x52.fOpcode,.int .i64 x52.fCode,.slice A54 x52.fQuestions.length c55,.slice A57 x52.fAnswers.length c58,.slice A60 x52.fAuthorities.length c61,.slice A63 x52.fExtras.length c64] 26 (0,0))::(100030,g1,.cells #[.int .u16 p1.fID,.bool p1.fResponse,.bool p1.fAuthoritative,.bool p1.fTruncated,.bool p1.fDesired,.bool p1.fAvailable,.int .i64 p1.fOpcode,.int .i64 p1.fCode,.slice Ap1_0 p1.fQuestions.length cp1_0,.slice Ap1_1 p1.fAnswers.length cp1_1,.slice Ap1_2 p1.fAuthorities.length cp1_2,.slice Ap1_3 p1.fExtras.length cp1_3] 26 (0,0))::H,(100583,⟨.slice A63 x52.fExtras.length c64,42,5,x52.fExtras.length,x52.fExtras.flatMap GRR.enc⟩)::R,φ66⟩ (fun _ h=>h)<|c_ret<|d_ret_then ?_
    cases hm
    refine d_shut (tag:=100583) rfl (fun φ67 q67'=>?_)
    have q67 : ∀ W,φ67 W→φ66 W:=fun W h=>(q67' W h).1
    have f68:=fun (W : World) (h : φ67 W)=>(q67' W h).2
    exact d_retC (A54,c55,A57,c58,A60,c61,A63,c64) Try.results9 (res_agg (tag:=100040) rfl rfl Try.isAgg26 Try.sizeOf26 (res_nil rfl)) ⟨hc55,hc58,hc61,hc64⟩ (fun W h=>ok_pre (H1:=[_,_,_]) (R1:=[]) h (fun W hφ=>⟨(q66 _ (q67 _ hφ)),(fun W h=>f56 W (q67 _ h)) W hφ,(fun W h=>f59 W (q67 _ h)) W hφ,(fun W h=>f62 W (q67 _ h)) W hφ,(fun W h=>f68 W h) W hφ⟩)) (.inr rfl)
   have h51' : x47 = true:=by revert h51; cases x47 <;> simp
   replace hm:=ite_t hm h51'
   refine c_skip<|d_then<|c_seq<|c_region<|g_v rfl r_move<|g_v rfl r_move ?_
   replace hm:=bnd hm
   obtain ⟨x69,hx69,hm⟩:=hm
   obtain ⟨pp73,hv74,hz75,hcp76⟩:=DOk.at_ hcp0_0.1 hx69
   refine g_know _ (fun W hS=>cl_at (p:=φ) (sz:=2) (fun _=>rfl) (by decide) hS.now fp0_0 hv74) ?_
   rintro ⟨ad70,hA72,f71⟩
   have f77:=fun (W : World) (h : φ W)=>(fop0_0 W h _ hz75)
   refine g_v rfl (r_ix Try.underlying35 Try.sizeOf33 rfl hA72 rfl hx69)<|g_v rfl (r_ldA rfl Try.isAgg33 Try.sizeOf33 (fun W hS=>(f71 W hS.now).take 2) rfl)<|g_v rfl (r_build _ rfl (bld60_18 _ _ _ _)) ?_
   refine g_e rfl (e_alloc 100090 Try.zeroValue60) (fun g78 _=>?_)
   refine g_storeL (tag:=100090) rfl rfl rfl rfl Try.sizeOf60 rfl rfl<|g_nil<|d_then ?_
   refine c_flat [(3,.pointer (some ⟨g1,0,none⟩)),(4,.pointer (some ⟨g2,0,none⟩)),(6,.pointer (some ⟨g45,0,none⟩)),(9,.pointer (some ⟨g78,0,none⟩))] ⟨rfl,rfl,rfl,rfl,trivial⟩ (fun u=>?_)
   refine c_sta ⟨w0,M,(100090,g78,.cells #[.string x69.fApex,.slice pp73.pA0 x69.fRecords.length pp73.pC0] 60 (0,0))::(100060,g45,.cells #[.string x41.fName,.int .u16 x41.fType,.int .u16 x41.fClass] 29 (0,0))::(100040,g2,.cells #[.int .u16 0,.bool false,.bool false,.bool false,.bool false,.bool false,.int .i64 0,.int .i64 0,.slice none 0 0,.slice none 0 0,.slice none 0 0,.slice none 0 0] 26 (0,0))::(100030,g1,.cells #[.int .u16 p1.fID,.bool p1.fResponse,.bool p1.fAuthoritative,.bool p1.fTruncated,.bool p1.fDesired,.bool p1.fAvailable,.int .i64 p1.fOpcode,.int .i64 p1.fCode,.slice Ap1_0 p1.fQuestions.length cp1_0,.slice Ap1_1 p1.fAnswers.length cp1_1,.slice Ap1_2 p1.fAuthorities.length cp1_2,.slice Ap1_3 p1.fExtras.length cp1_3] 26 (0,0))::H,R,φ⟩ (fun _ h=>h)<|c_seq<|c_region<|g_v rfl (r_loadA (tag:=100030) rfl rfl Try.isAgg26 Try.sizeOf26 rfl rfl) ?_
   replace hm:=bnd hm
   obtain ⟨x79,hx80,hm⟩:=hm
   refine g_cn ⟨w0,M,_,_,φ⟩ (fun _ h=>h) Try.call25 rfl rfl (c_auth_reply p1 Ap1_0 cp1_0 hcp1_0 (fun W hS=>fp1_0 W (ok_pre (H1:=[_,_,_,_]) (R1:=[]) hS (fun W h=>h))) Ap1_1 cp1_1 hcp1_1 (fun W hS=>fp1_1 W (ok_pre (H1:=[_,_,_,_]) (R1:=[]) hS (fun W h=>h))) Ap1_2 cp1_2 hcp1_2 (fun W hS=>fp1_2 W (ok_pre (H1:=[_,_,_,_]) (R1:=[]) hS (fun W h=>h))) Ap1_3 cp1_3 hcp1_3 (fun W hS=>fp1_3 W (ok_pre (H1:=[_,_,_,_]) (R1:=[]) hS (fun W h=>h))) 0 _ hx80) (fun ⟨A81,c82,A84,c85,A87,c88,A90,c91⟩ ⟨hc82,hc85,hc88,hc91⟩=>?_)
   refine g_sta _ (fun W h=>(ok_frontR (t:=2003) (t':=100653) h rfl)) ?_
   refine g_abs (fun φ93 q93'=>?_)
   have q93 : ∀ W,φ93 W→φ W:=fun W h=>(q93' W h).1
   have f83:=fun (W : World) (h : φ93 W)=>(q93' W h).2.1
   have f86:=fun (W : World) (h : φ93 W)=>(q93' W h).2.2.1
   have f89:=fun (W : World) (h : φ93 W)=>(q93' W h).2.2.2
   refine g_e rfl (e_alloc 100100 Try.zeroValue26) (fun g94 _=>?_)
   refine g_storeL (tag:=100100) rfl rfl rfl rfl Try.sizeOf26 rfl rfl<|g_nil<|d_then<|c_seq<|c_region<|g_v rfl (r_field (n:=0) Try.underlying60 rfl Try.sizeOf33 rfl rfl)<|g_v rfl (r_loadA (tag:=100090) rfl rfl Try.isAgg33 Try.sizeOf33 rfl rfl)<|g_v rfl (r_field (n:=0) Try.underlying29 rfl Try.sizeOf9 rfl rfl)<|g_v rfl (r_load (tag:=100060) rfl rfl rfl Try.isAgg9) ?_
   replace hm:=bnd hm
   obtain ⟨⟨x95,x96⟩,hx97,hm⟩:=hm
   refine g_cn ⟨w0,M,_,_,φ93⟩ (fun _ h=>h) Try.call14 rfl rfl (c_auth_Below x69 pp73.pA0 pp73.pC0 hcp76 (fun W hS=>f77 W (q93 _ hS.now)) x41.fName _ hx97) (fun _ _=>?_)
   refine g_v rfl r_move<|g_v rfl (r_extract rfl rfl)<|g_v rfl (r_extract rfl rfl)<|g_v rfl r_assign<|g_v rfl r_assign<|g_nil<|d_then ?_
   refine c_flat [(4,.pointer (some ⟨g2,0,none⟩)),(6,.pointer (some ⟨g45,0,none⟩)),(9,.pointer (some ⟨g78,0,none⟩)),(10,.pointer (some ⟨g94,0,none⟩)),(11,.string x95),(12,.bool x96)] ⟨rfl,rfl,rfl,rfl,rfl,rfl,trivial⟩ (fun u=>?_)
   refine c_sta ⟨w0,M,(100100,g94,.cells #[.int .u16 x79.fID,.bool x79.fResponse,.bool x79.fAuthoritative,.bool x79.fTruncated,.bool x79.fDesired,.bool x79.fAvailable,.int .i64 x79.fOpcode,.int .i64 x79.fCode,.slice A81 x79.fQuestions.length c82,.slice A84 x79.fAnswers.length c85,.slice A87 x79.fAuthorities.length c88,.slice A90 x79.fExtras.length c91] 26 (0,0))::(100090,g78,.cells #[.string x69.fApex,.slice pp73.pA0 x69.fRecords.length pp73.pC0] 60 (0,0))::(100060,g45,.cells #[.string x41.fName,.int .u16 x41.fType,.int .u16 x41.fClass] 29 (0,0))::(100040,g2,.cells #[.int .u16 0,.bool false,.bool false,.bool false,.bool false,.bool false,.int .i64 0,.int .i64 0,.slice none 0 0,.slice none 0 0,.slice none 0 0,.slice none 0 0] 26 (0,0))::(100030,g1,.cells #[.int .u16 p1.fID,.bool p1.fResponse,.bool p1.fAuthoritative,.bool p1.fTruncated,.bool p1.fDesired,.bool p1.fAvailable,.int .i64 p1.fOpcode,.int .i64 p1.fCode,.slice Ap1_0 p1.fQuestions.length cp1_0,.slice Ap1_1 p1.fAnswers.length cp1_1,.slice Ap1_2 p1.fAuthorities.length cp1_2,.slice Ap1_3 p1.fExtras.length cp1_3] 26 (0,0))::H,(100653,⟨.slice A90 x79.fExtras.length c91,42,5,x79.fExtras.length,x79.fExtras.flatMap GRR.enc⟩)::R,φ93⟩ (fun _ h=>h)<|c_seq<|c_seq<|c_region<|g_v rfl r_move<|g_nil<|d_then ?_
   refine c_cond rfl (fun h99=>?_) (fun h99=>?_)
   ·
    replace hm:=ite_t hm h99
    refine c_seq<|c_region<|g_v rfl (r_loadA (tag:=100090) rfl rfl Try.isAgg60 Try.sizeOf60 rfl rfl)<|g_v rfl r_move ?_
    replace hm:=bnd hm
    obtain ⟨x100,hx101,hm⟩:=hm
    refine g_cn ⟨w0,M,_,_,φ93⟩ (fun _ h=>h) Try.call26 rfl rfl (c_auth_zone_of (⟨x69⟩ : Gauth_zone) pp73.pA0 pp73.pC0 hcp76 (fun W hS=>f77 W (q93 _ hS.now)) x95 2 _ hx101) (fun ⟨A102,c103⟩ hc103=>?_)
    refine g_sta _ (fun W h=>(ok_frontR (t:=2000) (t':=100770) h rfl))<|g_v rfl (r_field (n:=10) Try.underlying26 rfl Try.sizeOf24 rfl rfl)<|g_storeL (tag:=100100) rfl rfl rfl rfl Try.sizeOf24 rfl rfl<|g_nil<|d_then<|c_seq<|c_seq<|c_region<|g_v rfl (r_field (n:=10) Try.underlying26 rfl Try.sizeOf24 rfl rfl)<|g_v rfl (r_load (tag:=100100) rfl rfl rfl Try.isAgg24) ?_
    refine g_v rfl (r_lenL Try.underlying24 rfl)<|g_v rfl r_move<|g_nil<|d_then ?_
    refine c_flat [(4,.pointer (some ⟨g2,0,none⟩)),(9,.pointer (some ⟨g78,0,none⟩)),(10,.pointer (some ⟨g94,0,none⟩)),(80,.slice A102 x100.length c103),(81,.int .i64 (x100.length : Int)),(82,.int .i64 0)] ⟨rfl,rfl,rfl,rfl,rfl,rfl,trivial⟩ (fun u=>?_)
    refine c_sta ⟨w0,M,(100100,g94,.cells #[.int .u16 x79.fID,.bool x79.fResponse,.bool x79.fAuthoritative,.bool x79.fTruncated,.bool x79.fDesired,.bool x79.fAvailable,.int .i64 x79.fOpcode,.int .i64 x79.fCode,.slice A81 x79.fQuestions.length c82,.slice A84 x79.fAnswers.length c85,.slice A102 x100.length c103,.slice A90 x79.fExtras.length c91] 26 (0,0))::(100090,g78,.cells #[.string x69.fApex,.slice pp73.pA0 x69.fRecords.length pp73.pC0] 60 (0,0))::(100060,g45,.cells #[.string x41.fName,.int .u16 x41.fType,.int .u16 x41.fClass] 29 (0,0))::(100040,g2,.cells #[.int .u16 0,.bool false,.bool false,.bool false,.bool false,.bool false,.int .i64 0,.int .i64 0,.slice none 0 0,.slice none 0 0,.slice none 0 0,.slice none 0 0] 26 (0,0))::(100030,g1,.cells #[.int .u16 p1.fID,.bool p1.fResponse,.bool p1.fAuthoritative,.bool p1.fTruncated,.bool p1.fDesired,.bool p1.fAvailable,.int .i64 p1.fOpcode,.int .i64 p1.fCode,.slice Ap1_0 p1.fQuestions.length cp1_0,.slice Ap1_1 p1.fAnswers.length cp1_1,.slice Ap1_2 p1.fAuthorities.length cp1_2,.slice Ap1_3 p1.fExtras.length cp1_3] 26 (0,0))::H,(100770,⟨.slice A102 x100.length c103,42,5,x100.length,x100.flatMap GRR.enc⟩)::(100653,⟨.slice A90 x79.fExtras.length c91,42,5,x79.fExtras.length,x79.fExtras.flatMap GRR.enc⟩)::R,φ93⟩ (fun _ h=>h) ?_
    refine c_cut (ι:=(List GRR)×Option Addr×Nat) [4,10] (fun ⟨l232,A233,c234⟩=>[]) (fun ⟨l232,A233,c234⟩=>⟨w0,M,(100100,g94,.cells #[.int .u16 x79.fID,.bool x79.fResponse,.bool x79.fAuthoritative,.bool x79.fTruncated,.bool x79.fDesired,.bool x79.fAvailable,.int .i64 x79.fOpcode,.int .i64 x79.fCode,.slice A81 x79.fQuestions.length c82,.slice A84 x79.fAnswers.length c85,.slice A102 x100.length c103,.slice A233 l232.length c234] 26 (0,0))::(100040,g2,.cells #[.int .u16 0,.bool false,.bool false,.bool false,.bool false,.bool false,.int .i64 0,.int .i64 0,.slice none 0 0,.slice none 0 0,.slice none 0 0,.slice none 0 0] 26 (0,0))::H,(100770,⟨.slice A102 x100.length c103,42,5,x100.length,x100.flatMap GRR.enc⟩)::(100653,⟨.slice A233 l232.length c234,42,5,l232.length,l232.flatMap GRR.enc⟩)::R,φ93⟩) (fun ⟨l232,A233,c234⟩=>m_auth_Answer_j1 x79 x100 l232 = some r∧l232.length ≤ c234) ?_ (fun ⟨l232,A233,c234⟩ u ⟨hm,hc234⟩=>?_)
    ·
     refine c_block ?_
     replace hm:=bnd hm
     obtain ⟨out2,hl2,hr2⟩:=hm
     obtain ⟨n365',hl2⟩:=loop_lp hl2
     refine c_loopU (ι:=Nat×(List GRR)×Int×Option Addr×Nat) [4,9,10,80,81,82] (fun ⟨n365,l300,i303,A301,c302⟩=>[(82,.int .i64 i303)]) (fun ⟨n365,l300,i303,A301,c302⟩=>⟨w0,M,(100100,g94,.cells #[.int .u16 x79.fID,.bool x79.fResponse,.bool x79.fAuthoritative,.bool x79.fTruncated,.bool x79.fDesired,.bool x79.fAvailable,.int .i64 x79.fOpcode,.int .i64 x79.fCode,.slice A81 x79.fQuestions.length c82,.slice A84 x79.fAnswers.length c85,.slice A102 x100.length c103,.slice A301 l300.length c302] 26 (0,0))::(100090,g78,.cells #[.string x69.fApex,.slice pp73.pA0 x69.fRecords.length pp73.pC0] 60 (0,0))::(100040,g2,.cells #[.int .u16 0,.bool false,.bool false,.bool false,.bool false,.bool false,.int .i64 0,.int .i64 0,.slice none 0 0,.slice none 0 0,.slice none 0 0,.slice none 0 0] 26 (0,0))::H,(100770,⟨.slice A102 x100.length c103,42,5,x100.length,x100.flatMap GRR.enc⟩)::(100653,⟨.slice A301 l300.length c302,42,5,l300.length,l300.flatMap GRR.enc⟩)::R,φ93⟩) (fun ⟨n365,l300,i303,A301,c302⟩=>Lp (fun s=>m_auth_Answer_s2 x100 x69 s.1 s.2) n365 (l300,i303) out2∧l300.length ≤ c302) (fun ⟨n365,l300,i303,A301,c302⟩=>n365) (n365',x79.fExtras,0,A90,c91) ⟨hl2,hc91⟩ ⟨rfl,rfl,rfl,rfl,rfl,rfl,trivial⟩ (fun W h=>((h.dropH (t:=100060) rfl).dropH (t:=100030) rfl).phi (fun W hφ=>hφ)) (fun ⟨n365,l300,i303,A301,c302⟩ u ⟨hlp,hc302⟩=>?_)
     obtain ⟨o2,hm,hnx2⟩:=lp_step hlp
     clear hlp
     replace hm : m_auth_Answer_s2 x100 x69 l300 i303 = some o2:=hm
     unfold m_auth_Answer_s2 at hm
     refine c_flat [(4,.pointer (some ⟨g2,0,none⟩)),(9,.pointer (some ⟨g78,0,none⟩)),(10,.pointer (some ⟨g94,0,none⟩)),(80,.slice A102 x100.length c103),(81,.int .i64 (x100.length : Int)),(82,.int .i64 i303)] ⟨rfl,rfl,rfl,rfl,rfl,rfl,trivial⟩ (fun u=>?_)
     refine c_sta ⟨w0,M,(100100,g94,.cells #[.int .u16 x79.fID,.bool x79.fResponse,.bool x79.fAuthoritative,.bool x79.fTruncated,.bool x79.fDesired,.bool x79.fAvailable,.int .i64 x79.fOpcode,.int .i64 x79.fCode,.slice A81 x79.fQuestions.length c82,.slice A84 x79.fAnswers.length c85,.slice A102 x100.length c103,.slice A301 l300.length c302] 26 (0,0))::(100090,g78,.cells #[.string x69.fApex,.slice pp73.pA0 x69.fRecords.length pp73.pC0] 60 (0,0))::(100040,g2,.cells #[.int .u16 0,.bool false,.bool false,.bool false,.bool false,.bool false,.int .i64 0,.int .i64 0,.slice none 0 0,.slice none 0 0,.slice none 0 0,.slice none 0 0] 26 (0,0))::H,(100770,⟨.slice A102 x100.length c103,42,5,x100.length,x100.flatMap GRR.enc⟩)::(100653,⟨.slice A301 l300.length c302,42,5,l300.length,l300.flatMap GRR.enc⟩)::R,φ93⟩ (fun _ h=>h)<|c_seq<|c_region<|g_v rfl (r_lss rfl rfl)<|g_nil<|d_then<|c_seq ?_
     refine c_cond rfl (fun h366=>?_) (fun h366=>?_)
     ·
      replace hm:=ite_t hm (of_decide_eq_true h366)
      refine c_skip<|d_then<|c_seq<|c_block<|c_seq<|c_region ?_
      replace hm:=bnd hm
      obtain ⟨x367,hx367,hm⟩:=hm
      refine g_know _ (fun W hS=>cl_at (p:=(Sta.ok ⟨w0,M,(100100,g94,.cells #[.int .u16 x79.fID,.bool x79.fResponse,.bool x79.fAuthoritative,.bool x79.fTruncated,.bool x79.fDesired,.bool x79.fAvailable,.int .i64 x79.fOpcode,.int .i64 x79.fCode,.slice A81 x79.fQuestions.length c82,.slice A84 x79.fAnswers.length c85,.slice A102 x100.length c103,.slice A301 l300.length c302] 26 (0,0))::(100090,g78,.cells #[.string x69.fApex,.slice pp73.pA0 x69.fRecords.length pp73.pC0] 60 (0,0))::(100040,g2,.cells #[.int .u16 0,.bool false,.bool false,.bool false,.bool false,.bool false,.int .i64 0,.int .i64 0,.slice none 0 0,.slice none 0 0,.slice none 0 0,.slice none 0 0] 26 (0,0))::H,(100770,⟨.slice A102 x100.length c103,42,5,x100.length,x100.flatMap GRR.enc⟩)::(100653,⟨.slice A301 l300.length c302,42,5,l300.length,l300.flatMap GRR.enc⟩)::R,φ93⟩)) (sz:=5) (fun _=>rfl) (by decide) hS (fun W hS=>rowCl (S:=⟨w0,M,(100100,g94,.cells #[.int .u16 x79.fID,.bool x79.fResponse,.bool x79.fAuthoritative,.bool x79.fTruncated,.bool x79.fDesired,.bool x79.fAvailable,.int .i64 x79.fOpcode,.int .i64 x79.fCode,.slice A81 x79.fQuestions.length c82,.slice A84 x79.fAnswers.length c85,.slice A102 x100.length c103,.slice A301 l300.length c302] 26 (0,0))::(100090,g78,.cells #[.string x69.fApex,.slice pp73.pA0 x69.fRecords.length pp73.pC0] 60 (0,0))::(100040,g2,.cells #[.int .u16 0,.bool false,.bool false,.bool false,.bool false,.bool false,.int .i64 0,.int .i64 0,.slice none 0 0,.slice none 0 0,.slice none 0 0,.slice none 0 0] 26 (0,0))::H,(100770,⟨.slice A102 x100.length c103,42,5,x100.length,x100.flatMap GRR.enc⟩)::(100653,⟨.slice A301 l300.length c302,42,5,l300.length,l300.flatMap GRR.enc⟩)::R,φ93⟩) (tag:=100770) rfl W hS) hx367) ?_
      rintro ⟨ad368,hA370,f369⟩
      refine g_v rfl (r_ix Try.underlying24 Try.sizeOf42 rfl hA370 rfl hx367)<|g_v rfl (r_ldA rfl Try.isAgg42 Try.sizeOf42 (fun W hS=>(f369 W hS).take 5) rfl) ?_
      refine g_e rfl (e_alloc 100140 Try.zeroValue42) (fun g371 _=>?_)
      refine g_storeL (tag:=100140) rfl rfl rfl rfl Try.sizeOf42 rfl rfl<|g_nil<|d_then<|c_seq<|c_region<|g_v rfl (r_loadA (tag:=100140) rfl rfl Try.isAgg42 Try.sizeOf42 rfl rfl) ?_
      replace hm:=bnd hm
      obtain ⟨⟨x372,x373⟩,hx374,hm⟩:=hm
      refine g_cn ⟨w0,M,_,_,φ93⟩ (fun _ h=>h) Try.call27 rfl rfl (c_record_Target x367 _ hx374) (fun _ _=>?_)
      refine g_v rfl r_move<|g_v rfl (r_extract rfl rfl)<|g_v rfl (r_extract rfl rfl)<|g_v rfl r_assign<|g_v rfl r_assign<|g_nil<|d_then ?_
      refine c_flat [(4,.pointer (some ⟨g2,0,none⟩)),(9,.pointer (some ⟨g78,0,none⟩)),(10,.pointer (some ⟨g94,0,none⟩)),(15,.string x372),(80,.slice A102 x100.length c103),(81,.int .i64 (x100.length : Int)),(82,.int .i64 i303)] ⟨rfl,rfl,rfl,rfl,rfl,rfl,rfl,trivial⟩ (fun u=>?_)
      refine c_sta ⟨w0,M,(100140,g371,.cells #[.string x367.fName,.int .u16 x367.fType,.int .u16 x367.fClass,.int .u32 x367.fTTL,.string x367.fData] 42 (0,0))::(100100,g94,.cells #[.int .u16 x79.fID,.bool x79.fResponse,.bool x79.fAuthoritative,.bool x79.fTruncated,.bool x79.fDesired,.bool x79.fAvailable,.int .i64 x79.fOpcode,.int .i64 x79.fCode,.slice A81 x79.fQuestions.length c82,.slice A84 x79.fAnswers.length c85,.slice A102 x100.length c103,.slice A301 l300.length c302] 26 (0,0))::(100090,g78,.cells #[.string x69.fApex,.slice pp73.pA0 x69.fRecords.length pp73.pC0] 60 (0,0))::(100040,g2,.cells #[.int .u16 0,.bool false,.bool false,.bool false,.bool false,.bool false,.int .i64 0,.int .i64 0,.slice none 0 0,.slice none 0 0,.slice none 0 0,.slice none 0 0] 26 (0,0))::H,(100770,⟨.slice A102 x100.length c103,42,5,x100.length,x100.flatMap GRR.enc⟩)::(100653,⟨.slice A301 l300.length c302,42,5,l300.length,l300.flatMap GRR.enc⟩)::R,φ93⟩ (fun _ h=>h)<|c_seq<|c_region<|g_v rfl (r_loadA (tag:=100090) rfl rfl Try.isAgg60 Try.sizeOf60 rfl rfl)<|g_v rfl r_move ?_
      replace hm:=bnd hm
      obtain ⟨x376,hx377,hm⟩:=hm
      refine g_cn ⟨w0,M,_,_,φ93⟩ (fun _ h=>h) Try.call28 rfl rfl (c_auth_zone_addresses (⟨x69⟩ : Gauth_zone) pp73.pA0 pp73.pC0 hcp76 (fun W hS=>f77 W (q93 _ hS.now)) x372 _ hx377) (fun ⟨A378,c379⟩ hc379=>?_)
      refine g_sta _ (fun W h=>(ok_frontR (t:=2000) (t':=100930) h rfl))<|g_v rfl (r_lenL Try.underlying24 rfl)<|g_v rfl r_move<|g_nil<|d_then ?_
      refine c_cut (ι:=(List GRR)×Option Addr×Nat) [4,9,10,80,81,82] (fun ⟨l420,A421,c422⟩=>[]) (fun ⟨l420,A421,c422⟩=>⟨w0,M,(100100,g94,.cells #[.int .u16 x79.fID,.bool x79.fResponse,.bool x79.fAuthoritative,.bool x79.fTruncated,.bool x79.fDesired,.bool x79.fAvailable,.int .i64 x79.fOpcode,.int .i64 x79.fCode,.slice A81 x79.fQuestions.length c82,.slice A84 x79.fAnswers.length c85,.slice A102 x100.length c103,.slice A421 l420.length c422] 26 (0,0))::(100090,g78,.cells #[.string x69.fApex,.slice pp73.pA0 x69.fRecords.length pp73.pC0] 60 (0,0))::(100040,g2,.cells #[.int .u16 0,.bool false,.bool false,.bool false,.bool false,.bool false,.int .i64 0,.int .i64 0,.slice none 0 0,.slice none 0 0,.slice none 0 0,.slice none 0 0] 26 (0,0))::H,(100770,⟨.slice A102 x100.length c103,42,5,x100.length,x100.flatMap GRR.enc⟩)::(100653,⟨.slice A421 l420.length c422,42,5,l420.length,l420.flatMap GRR.enc⟩)::R,φ93⟩) (fun ⟨l420,A421,c422⟩=>m_auth_Answer_j3 i303 l420 = some o2∧l420.length ≤ c422) ?_ (fun ⟨l420,A421,c422⟩ u ⟨hm,hc422⟩=>?_)
      ·
       refine c_block ?_
       replace hm:=bnd hm
       obtain ⟨out4,hl4,hr4⟩:=hm
       obtain ⟨n462',hl4⟩:=loop_lp hl4
       refine c_loopU (ι:=Nat×(List GRR)×Int×Option Addr×Nat) [4,9,10,80,81,82,93,94,95] (fun ⟨n462,l441,i444,A442,c443⟩=>[(95,.int .i64 i444)]) (fun ⟨n462,l441,i444,A442,c443⟩=>⟨w0,M,(100100,g94,.cells #[.int .u16 x79.fID,.bool x79.fResponse,.bool x79.fAuthoritative,.bool x79.fTruncated,.bool x79.fDesired,.bool x79.fAvailable,.int .i64 x79.fOpcode,.int .i64 x79.fCode,.slice A81 x79.fQuestions.length c82,.slice A84 x79.fAnswers.length c85,.slice A102 x100.length c103,.slice A442 l441.length c443] 26 (0,0))::(100090,g78,.cells #[.string x69.fApex,.slice pp73.pA0 x69.fRecords.length pp73.pC0] 60 (0,0))::(100040,g2,.cells #[.int .u16 0,.bool false,.bool false,.bool false,.bool false,.bool false,.int .i64 0,.int .i64 0,.slice none 0 0,.slice none 0 0,.slice none 0 0,.slice none 0 0] 26 (0,0))::H,(100930,⟨.slice A378 x376.length c379,42,5,x376.length,x376.flatMap GRR.enc⟩)::(100770,⟨.slice A102 x100.length c103,42,5,x100.length,x100.flatMap GRR.enc⟩)::(100653,⟨.slice A442 l441.length c443,42,5,l441.length,l441.flatMap GRR.enc⟩)::R,φ93⟩) (fun ⟨n462,l441,i444,A442,c443⟩=>Lp (fun s=>m_auth_Answer_s4 x376 s.1 s.2) n462 (l441,i444) out4∧l441.length ≤ c443) (fun ⟨n462,l441,i444,A442,c443⟩=>n462) (n462',l300,0,A301,c302) ⟨hl4,hc302⟩ ⟨rfl,rfl,rfl,rfl,rfl,rfl,rfl,rfl,rfl,trivial⟩ (fun W h=>(h.dropH (t:=100140) rfl).phi (fun W hφ=>hφ)) (fun ⟨n462,l441,i444,A442,c443⟩ u ⟨hlp,hc443⟩=>?_)
       obtain ⟨o4,hm,hnx4⟩:=lp_step hlp
       clear hlp
       replace hm : m_auth_Answer_s4 x376 l441 i444 = some o4:=hm
       unfold m_auth_Answer_s4 at hm
       refine c_flat [(4,.pointer (some ⟨g2,0,none⟩)),(9,.pointer (some ⟨g78,0,none⟩)),(10,.pointer (some ⟨g94,0,none⟩)),(80,.slice A102 x100.length c103),(81,.int .i64 (x100.length : Int)),(82,.int .i64 i303),(93,.slice A378 x376.length c379),(94,.int .i64 (x376.length : Int)),(95,.int .i64 i444)] ⟨rfl,rfl,rfl,rfl,rfl,rfl,rfl,rfl,rfl,trivial⟩ (fun u=>?_)
       refine c_sta ⟨w0,M,(100100,g94,.cells #[.int .u16 x79.fID,.bool x79.fResponse,.bool x79.fAuthoritative,.bool x79.fTruncated,.bool x79.fDesired,.bool x79.fAvailable,.int .i64 x79.fOpcode,.int .i64 x79.fCode,.slice A81 x79.fQuestions.length c82,.slice A84 x79.fAnswers.length c85,.slice A102 x100.length c103,.slice A442 l441.length c443] 26 (0,0))::(100090,g78,.cells #[.string x69.fApex,.slice pp73.pA0 x69.fRecords.length pp73.pC0] 60 (0,0))::(100040,g2,.cells #[.int .u16 0,.bool false,.bool false,.bool false,.bool false,.bool false,.int .i64 0,.int .i64 0,.slice none 0 0,.slice none 0 0,.slice none 0 0,.slice none 0 0] 26 (0,0))::H,(100930,⟨.slice A378 x376.length c379,42,5,x376.length,x376.flatMap GRR.enc⟩)::(100770,⟨.slice A102 x100.length c103,42,5,x100.length,x100.flatMap GRR.enc⟩)::(100653,⟨.slice A442 l441.length c443,42,5,l441.length,l441.flatMap GRR.enc⟩)::R,φ93⟩ (fun _ h=>h)<|c_seq<|c_region<|g_v rfl (r_lss rfl rfl)<|g_nil<|d_then<|c_seq ?_
       refine c_cond rfl (fun h463=>?_) (fun h463=>?_)
       ·
        replace hm:=ite_t hm (of_decide_eq_true h463)
        refine c_skip<|d_then<|c_seq<|c_block<|c_seq<|c_region ?_
        replace hm:=bnd hm
        obtain ⟨x464,hx464,hm⟩:=hm
        refine g_know _ (fun W hS=>cl_at (p:=(Sta.ok ⟨w0,M,(100100,g94,.cells #[.int .u16 x79.fID,.bool x79.fResponse,.bool x79.fAuthoritative,.bool x79.fTruncated,.bool x79.fDesired,.bool x79.fAvailable,.int .i64 x79.fOpcode,.int .i64 x79.fCode,.slice A81 x79.fQuestions.length c82,.slice A84 x79.fAnswers.length c85,.slice A102 x100.length c103,.slice A442 l441.length c443] 26 (0,0))::(100090,g78,.cells #[.string x69.fApex,.slice pp73.pA0 x69.fRecords.length pp73.pC0] 60 (0,0))::(100040,g2,.cells #[.int .u16 0,.bool false,.bool false,.bool false,.bool false,.bool false,.int .i64 0,.int .i64 0,.slice none 0 0,.slice none 0 0,.slice none 0 0,.slice none 0 0] 26 (0,0))::H,(100930,⟨.slice A378 x376.length c379,42,5,x376.length,x376.flatMap GRR.enc⟩)::(100770,⟨.slice A102 x100.length c103,42,5,x100.length,x100.flatMap GRR.enc⟩)::(100653,⟨.slice A442 l441.length c443,42,5,l441.length,l441.flatMap GRR.enc⟩)::R,φ93⟩)) (sz:=5) (fun _=>rfl) (by decide) hS (fun W hS=>rowCl (S:=⟨w0,M,(100100,g94,.cells #[.int .u16 x79.fID,.bool x79.fResponse,.bool x79.fAuthoritative,.bool x79.fTruncated,.bool x79.fDesired,.bool x79.fAvailable,.int .i64 x79.fOpcode,.int .i64 x79.fCode,.slice A81 x79.fQuestions.length c82,.slice A84 x79.fAnswers.length c85,.slice A102 x100.length c103,.slice A442 l441.length c443] 26 (0,0))::(100090,g78,.cells #[.string x69.fApex,.slice pp73.pA0 x69.fRecords.length pp73.pC0] 60 (0,0))::(100040,g2,.cells #[.int .u16 0,.bool false,.bool false,.bool false,.bool false,.bool false,.int .i64 0,.int .i64 0,.slice none 0 0,.slice none 0 0,.slice none 0 0,.slice none 0 0] 26 (0,0))::H,(100930,⟨.slice A378 x376.length c379,42,5,x376.length,x376.flatMap GRR.enc⟩)::(100770,⟨.slice A102 x100.length c103,42,5,x100.length,x100.flatMap GRR.enc⟩)::(100653,⟨.slice A442 l441.length c443,42,5,l441.length,l441.flatMap GRR.enc⟩)::R,φ93⟩) (tag:=100930) rfl W hS) hx464) ?_
        rintro ⟨ad465,hA467,f466⟩
        refine g_v rfl (r_ix Try.underlying24 Try.sizeOf42 rfl hA467 rfl hx464)<|g_v rfl (r_ldA rfl Try.isAgg42 Try.sizeOf42 (fun W hS=>(f466 W hS).take 5) rfl) ?_
        refine g_e rfl (e_alloc 100180 Try.zeroValue42) (fun g468 _=>?_)
        refine g_storeL (tag:=100180) rfl rfl rfl rfl Try.sizeOf42 rfl rfl<|g_nil<|d_then<|c_seq<|c_region<|g_v rfl (r_field (n:=11) Try.underlying26 rfl Try.sizeOf24 rfl rfl)<|g_v rfl (r_load (tag:=100100) rfl rfl rfl Try.isAgg24)<|g_v rfl (r_loadA (tag:=100180) rfl rfl Try.isAgg42 Try.sizeOf42 rfl rfl) ?_
        replace hm:=bnd hm
        obtain ⟨x469,hx470,hm⟩:=hm
        refine g_cn ⟨w0,M,_,_,φ93⟩ (fun _ h=>h) Try.call29 rfl rfl (c_slices_Contains_29 l441 A442 c443 hc443 (fun W hS=>rowCl (tag:=100653) rfl W hS) x464 _ hx470) (fun _ _=>?_)
        refine g_v rfl (r_not rfl)<|g_nil<|d_then ?_
        refine c_flat [(4,.pointer (some ⟨g2,0,none⟩)),(9,.pointer (some ⟨g78,0,none⟩)),(10,.pointer (some ⟨g94,0,none⟩)),(18,.pointer (some ⟨g468,0,none⟩)),(80,.slice A102 x100.length c103),(81,.int .i64 (x100.length : Int)),(82,.int .i64 i303),(93,.slice A378 x376.length c379),(94,.int .i64 (x376.length : Int)),(95,.int .i64 i444),(103,.bool (!x469))] ⟨rfl,rfl,rfl,rfl,rfl,rfl,rfl,rfl,rfl,rfl,rfl,trivial⟩ (fun u=>?_)
        refine c_sta ⟨w0,M,(100180,g468,.cells #[.string x464.fName,.int .u16 x464.fType,.int .u16 x464.fClass,.int .u32 x464.fTTL,.string x464.fData] 42 (0,0))::(100100,g94,.cells #[.int .u16 x79.fID,.bool x79.fResponse,.bool x79.fAuthoritative,.bool x79.fTruncated,.bool x79.fDesired,.bool x79.fAvailable,.int .i64 x79.fOpcode,.int .i64 x79.fCode,.slice A81 x79.fQuestions.length c82,.slice A84 x79.fAnswers.length c85,.slice A102 x100.length c103,.slice A442 l441.length c443] 26 (0,0))::(100090,g78,.cells #[.string x69.fApex,.slice pp73.pA0 x69.fRecords.length pp73.pC0] 60 (0,0))::(100040,g2,.cells #[.int .u16 0,.bool false,.bool false,.bool false,.bool false,.bool false,.int .i64 0,.int .i64 0,.slice none 0 0,.slice none 0 0,.slice none 0 0,.slice none 0 0] 26 (0,0))::H,(100930,⟨.slice A378 x376.length c379,42,5,x376.length,x376.flatMap GRR.enc⟩)::(100770,⟨.slice A102 x100.length c103,42,5,x100.length,x100.flatMap GRR.enc⟩)::(100653,⟨.slice A442 l441.length c443,42,5,l441.length,l441.flatMap GRR.enc⟩)::R,φ93⟩ (fun _ h=>h) ?_
        refine c_cond rfl (fun h471=>?_) (fun h471=>?_)
        ·
         have h471' : x469 = false:=by revert h471; cases x469 <;> simp
         replace hm:=ite_f hm (bool_nt h471')
         refine c_region<|g_v rfl (r_field (n:=11) Try.underlying26 rfl Try.sizeOf24 rfl rfl)<|g_v rfl (r_load (tag:=100100) rfl rfl rfl Try.isAgg24)<|g_v rfl (r_loadA (tag:=100180) rfl rfl Try.isAgg42 Try.sizeOf42 rfl rfl) ?_
         refine g_e rfl (e_lit (tag:=101070) (l:=[x464]) (enc:=GRR.enc) (sz:=5) rfl Try.underlying24 (lit42_16 _ _ _ _ _) rfl rfl (fun _=>rfl)) (fun g472 _=>?_)
         replace hm:=bnd hm
         obtain ⟨l473,hl473,hm⟩:=hm
         refine g_e rfl (e_appR (enc:=GRR.enc) (l:=l441) (l1:=[x464]) (l2:=l473) (tag:=100653) Try.underlying24 inf42_17 rfl (by decide) (by decide) (fun _=>rfl) (fun _=>rfl) rfl hc443 rfl rfl (fun W hS=>rowCl (tag:=101070) rfl W hS) hl473) (fun ⟨A474,c475⟩ hc475=>?_)
         refine g_v rfl (r_field (n:=11) Try.underlying26 rfl Try.sizeOf24 rfl rfl)<|g_storeL (tag:=100100) rfl rfl rfl rfl Try.sizeOf24 rfl rfl<|g_nil<|d_normal_block<|d_then<|c_region<|g_v rfl (r_add rfl rfl rfl)<|g_v rfl r_move<|g_nil ?_
         obtain ⟨n476,hn476,hlp⟩:=nx_inl hm hnx4
         exact d_round (n476,l473,w64 (i444 + 1),A474,c475) ⟨hlp,hc475⟩ hn476 ⟨rfl,rfl,rfl,rfl,rfl,rfl,rfl,rfl,rfl,trivial⟩ (fun W h=>((h.dropR (t:=101070) rfl).dropH (t:=100180) rfl).phi (fun W hφ=>hφ))
        have h471' : x469 = true:=by revert h471; cases x469 <;> simp
        replace hm:=ite_t hm h471'
        refine c_skip<|d_normal_block<|d_then<|c_region<|g_v rfl (r_add rfl rfl rfl)<|g_v rfl r_move<|g_nil ?_
        obtain ⟨n477,hn477,hlp⟩:=nx_inl hm hnx4
        exact d_round (n477,l441,w64 (i444 + 1),A442,c443) ⟨hlp,hc443⟩ hn477 ⟨rfl,rfl,rfl,rfl,rfl,rfl,rfl,rfl,rfl,trivial⟩ (fun W h=>(h.dropH (t:=100180) rfl).phi (fun W hφ=>hφ))
       replace hm:=ite_f hm (of_decide_eq_false h463)
       refine c_exit<|d_exit_then<|d_exit_then<|d_exit_block ?_
       replace hm:=nx_out (C:=(fun e : (List GRR)=>m_auth_Answer_j3 i303 e = some o2)) hm hnx4 hr4
       exact d_round (l441,A442,c443) ⟨hm,hc443⟩ Nat.zero_lt_one ⟨rfl,rfl,rfl,rfl,rfl,rfl,trivial⟩ (fun W h=>(h.dropR (t:=100930) rfl).phi (fun W hφ=>hφ))
      unfold m_auth_Answer_j3 at hm
      refine d_flat [(4,.pointer (some ⟨g2,0,none⟩)),(9,.pointer (some ⟨g78,0,none⟩)),(10,.pointer (some ⟨g94,0,none⟩)),(80,.slice A102 x100.length c103),(81,.int .i64 (x100.length : Int)),(82,.int .i64 i303)] ⟨rfl,rfl,rfl,rfl,rfl,rfl,trivial⟩ (fun u=>?_)
      refine d_sta ⟨w0,M,(100100,g94,.cells #[.int .u16 x79.fID,.bool x79.fResponse,.bool x79.fAuthoritative,.bool x79.fTruncated,.bool x79.fDesired,.bool x79.fAvailable,.int .i64 x79.fOpcode,.int .i64 x79.fCode,.slice A81 x79.fQuestions.length c82,.slice A84 x79.fAnswers.length c85,.slice A102 x100.length c103,.slice A421 l420.length c422] 26 (0,0))::(100090,g78,.cells #[.string x69.fApex,.slice pp73.pA0 x69.fRecords.length pp73.pC0] 60 (0,0))::(100040,g2,.cells #[.int .u16 0,.bool false,.bool false,.bool false,.bool false,.bool false,.int .i64 0,.int .i64 0,.slice none 0 0,.slice none 0 0,.slice none 0 0,.slice none 0 0] 26 (0,0))::H,(100770,⟨.slice A102 x100.length c103,42,5,x100.length,x100.flatMap GRR.enc⟩)::(100653,⟨.slice A421 l420.length c422,42,5,l420.length,l420.flatMap GRR.enc⟩)::R,φ93⟩ (fun _ h=>h)<|d_normal_block<|d_then<|c_region<|g_v rfl (r_add rfl rfl rfl)<|g_v rfl r_move<|g_nil ?_
      obtain ⟨n423,hn423,hlp⟩:=nx_inl hm hnx2
      exact d_round (n423,l420,w64 (i303 + 1),A421,c422) ⟨hlp,hc422⟩ hn423 ⟨rfl,rfl,rfl,rfl,rfl,rfl,trivial⟩ (fun W h=>h.phi (fun W hφ=>hφ))
     replace hm:=ite_f hm (of_decide_eq_false h366)
     refine c_exit<|d_exit_then<|d_exit_then<|d_exit_block ?_
     replace hm:=nx_out (C:=(fun e : (List GRR)=>m_auth_Answer_j1 x79 x100 e = some r)) hm hnx2 hr2
     exact d_round (l300,A301,c302) ⟨hm,hc302⟩ Nat.zero_lt_one ⟨rfl,rfl,trivial⟩ (fun W h=>(h.dropH (t:=100090) rfl).phi (fun W hφ=>hφ))
    unfold m_auth_Answer_j1 at hm
    refine d_flat [(4,.pointer (some ⟨g2,0,none⟩)),(10,.pointer (some ⟨g94,0,none⟩))] ⟨rfl,rfl,trivial⟩ (fun u=>?_)
    refine d_sta ⟨w0,M,(100100,g94,.cells #[.int .u16 x79.fID,.bool x79.fResponse,.bool x79.fAuthoritative,.bool x79.fTruncated,.bool x79.fDesired,.bool x79.fAvailable,.int .i64 x79.fOpcode,.int .i64 x79.fCode,.slice A81 x79.fQuestions.length c82,.slice A84 x79.fAnswers.length c85,.slice A102 x100.length c103,.slice A233 l232.length c234] 26 (0,0))::(100040,g2,.cells #[.int .u16 0,.bool false,.bool false,.bool false,.bool false,.bool false,.int .i64 0,.int .i64 0,.slice none 0 0,.slice none 0 0,.slice none 0 0,.slice none 0 0] 26 (0,0))::H,(100770,⟨.slice A102 x100.length c103,42,5,x100.length,x100.flatMap GRR.enc⟩)::(100653,⟨.slice A233 l232.length c234,42,5,l232.length,l232.flatMap GRR.enc⟩)::R,φ93⟩ (fun _ h=>h)<|d_then<|c_seq<|c_region<|g_v rfl (r_loadA (tag:=100100) rfl rfl Try.isAgg26 Try.sizeOf26 rfl rfl)<|g_storeL (tag:=100040) rfl rfl rfl rfl Try.sizeOf26 rfl rfl<|g_nil<|d_then<|c_ret<|d_ret_then ?_
    cases hm
    refine d_shut (tag:=100770) rfl (fun φ235 q235'=>?_)
    have q235 : ∀ W,φ235 W→φ93 W:=fun W h=>(q235' W h).1
    have f236:=fun (W : World) (h : φ235 W)=>(q235' W h).2
    refine d_shut (tag:=100653) rfl (fun φ237 q237'=>?_)
    have q237 : ∀ W,φ237 W→φ235 W:=fun W h=>(q237' W h).1
    have f238:=fun (W : World) (h : φ237 W)=>(q237' W h).2
    exact d_retC (A81,c82,A84,c85,A102,c103,A233,c234) Try.results9 (res_agg (tag:=100040) rfl rfl Try.isAgg26 Try.sizeOf26 (res_nil rfl)) ⟨hc82,hc85,hc103,hc234⟩ (fun W h=>ok_pre (H1:=[_,_]) (R1:=[]) h (fun W hφ=>⟨(q93 _ (q235 _ (q237 _ hφ))),(fun W h=>f83 W (q235 _ (q237 _ h))) W hφ,(fun W h=>f86 W (q235 _ (q237 _ h))) W hφ,(fun W h=>f236 W (q237 _ h)) W hφ,(fun W h=>f238 W h) W hφ⟩)) (.inr rfl)
   replace hm:=ite_f hm (bool_nt h99)
   refine c_skip<|d_then<|c_seq<|c_region<|g_v rfl (r_field (n:=2) Try.underlying26 rfl Try.sizeOf4 rfl rfl)<|g_storeL (tag:=100100) rfl rfl rfl rfl Try.sizeOf4 rfl rfl<|g_nil<|d_then<|c_seq<|c_region ?_
   refine g_v rfl (r_loadA (tag:=100090) rfl rfl Try.isAgg60 Try.sizeOf60 rfl rfl)<|g_v rfl (r_field (n:=0) Try.underlying29 rfl Try.sizeOf9 rfl rfl)<|g_v rfl (r_load (tag:=100060) rfl rfl rfl Try.isAgg9)<|g_v rfl (r_field (n:=1) Try.underlying29 rfl Try.sizeOf22 rfl rfl)<|g_v rfl (r_load (tag:=100060) rfl rfl rfl Try.isAgg22) ?_
   replace hm:=bnd hm
   obtain ⟨x478,hx479,hm⟩:=hm
   refine g_cn ⟨w0,M,_,_,φ93⟩ (fun _ h=>h) Try.call26 rfl rfl (c_auth_zone_of (⟨x69⟩ : Gauth_zone) pp73.pA0 pp73.pC0 hcp76 (fun W hS=>f77 W (q93 _ hS.now)) x41.fName x41.fType _ hx479) (fun ⟨A480,c481⟩ hc481=>?_)
   refine g_sta _ (fun W h=>(ok_frontR (t:=2000) (t':=101190) h rfl))<|g_v rfl (r_field (n:=9) Try.underlying26 rfl Try.sizeOf24 rfl rfl)<|g_storeL (tag:=100100) rfl rfl rfl rfl Try.sizeOf24 rfl rfl<|g_nil<|d_then ?_
   refine c_flat [(4,.pointer (some ⟨g2,0,none⟩)),(6,.pointer (some ⟨g45,0,none⟩)),(9,.pointer (some ⟨g78,0,none⟩)),(10,.pointer (some ⟨g94,0,none⟩))] ⟨rfl,rfl,rfl,rfl,trivial⟩ (fun u=>?_)
   refine c_sta ⟨w0,M,(100100,g94,.cells #[.int .u16 x79.fID,.bool x79.fResponse,.bool true,.bool x79.fTruncated,.bool x79.fDesired,.bool x79.fAvailable,.int .i64 x79.fOpcode,.int .i64 x79.fCode,.slice A81 x79.fQuestions.length c82,.slice A480 x478.length c481,.slice A87 x79.fAuthorities.length c88,.slice A90 x79.fExtras.length c91] 26 (0,0))::(100090,g78,.cells #[.string x69.fApex,.slice pp73.pA0 x69.fRecords.length pp73.pC0] 60 (0,0))::(100060,g45,.cells #[.string x41.fName,.int .u16 x41.fType,.int .u16 x41.fClass] 29 (0,0))::(100040,g2,.cells #[.int .u16 0,.bool false,.bool false,.bool false,.bool false,.bool false,.int .i64 0,.int .i64 0,.slice none 0 0,.slice none 0 0,.slice none 0 0,.slice none 0 0] 26 (0,0))::(100030,g1,.cells #[.int .u16 p1.fID,.bool p1.fResponse,.bool p1.fAuthoritative,.bool p1.fTruncated,.bool p1.fDesired,.bool p1.fAvailable,.int .i64 p1.fOpcode,.int .i64 p1.fCode,.slice Ap1_0 p1.fQuestions.length cp1_0,.slice Ap1_1 p1.fAnswers.length cp1_1,.slice Ap1_2 p1.fAuthorities.length cp1_2,.slice Ap1_3 p1.fExtras.length cp1_3] 26 (0,0))::H,(101190,⟨.slice A480 x478.length c481,42,5,x478.length,x478.flatMap GRR.enc⟩)::(100653,⟨.slice A90 x79.fExtras.length c91,42,5,x79.fExtras.length,x79.fExtras.flatMap GRR.enc⟩)::R,φ93⟩ (fun _ h=>h)<|c_seq ?_
   refine c_cut (ι:=(List GRR)×Option Addr×Nat) [4,6,9,10] (fun ⟨l497,A498,c499⟩=>[]) (fun ⟨l497,A498,c499⟩=>⟨w0,M,(100100,g94,.cells #[.int .u16 x79.fID,.bool x79.fResponse,.bool true,.bool x79.fTruncated,.bool x79.fDesired,.bool x79.fAvailable,.int .i64 x79.fOpcode,.int .i64 x79.fCode,.slice A81 x79.fQuestions.length c82,.slice A498 l497.length c499,.slice A87 x79.fAuthorities.length c88,.slice A90 x79.fExtras.length c91] 26 (0,0))::(100090,g78,.cells #[.string x69.fApex,.slice pp73.pA0 x69.fRecords.length pp73.pC0] 60 (0,0))::(100060,g45,.cells #[.string x41.fName,.int .u16 x41.fType,.int .u16 x41.fClass] 29 (0,0))::(100040,g2,.cells #[.int .u16 0,.bool false,.bool false,.bool false,.bool false,.bool false,.int .i64 0,.int .i64 0,.slice none 0 0,.slice none 0 0,.slice none 0 0,.slice none 0 0] 26 (0,0))::H,(100653,⟨.slice A90 x79.fExtras.length c91,42,5,x79.fExtras.length,x79.fExtras.flatMap GRR.enc⟩)::R,fun W=>φ93 W∧Cl W A498 (l497.flatMap GRR.enc)⟩) (fun ⟨l497,A498,c499⟩=>m_auth_Answer_j5 x69 x41 x79 l497 = some r∧l497.length ≤ c499) ?_ (fun ⟨l497,A498,c499⟩ u ⟨hm,hc499⟩=>?_)
   ·
    refine c_seq<|c_region<|g_v rfl (r_field (n:=9) Try.underlying26 rfl Try.sizeOf24 rfl rfl)<|g_v rfl (r_load (tag:=100100) rfl rfl rfl Try.isAgg24)<|g_v rfl (r_lenL Try.underlying24 rfl)<|g_v rfl (r_eql rfl rfl)<|g_nil<|d_then ?_
    refine c_cond rfl (fun h536=>?_) (fun h536=>?_)
    ·
     replace hm:=ite_t hm (of_decide_eq_true h536)
     refine c_seq<|c_region<|g_v rfl (r_loadA (tag:=100090) rfl rfl Try.isAgg60 Try.sizeOf60 rfl rfl)<|g_v rfl (r_field (n:=0) Try.underlying29 rfl Try.sizeOf9 rfl rfl)<|g_v rfl (r_load (tag:=100060) rfl rfl rfl Try.isAgg9) ?_
     replace hm:=bnd hm
     obtain ⟨x537,hx538,hm⟩:=hm
     refine g_cn ⟨w0,M,_,_,φ93⟩ (fun _ h=>h) Try.call26 rfl rfl (c_auth_zone_of (⟨x69⟩ : Gauth_zone) pp73.pA0 pp73.pC0 hcp76 (fun W hS=>f77 W (q93 _ hS.now)) x41.fName 5 _ hx538) (fun ⟨A539,c540⟩ hc540=>?_)
     refine g_sta _ (fun W h=>(ok_frontR (t:=2000) (t':=101280) h rfl))<|g_v rfl r_assign<|g_nil<|d_then ?_
     refine c_flat [(4,.pointer (some ⟨g2,0,none⟩)),(6,.pointer (some ⟨g45,0,none⟩)),(9,.pointer (some ⟨g78,0,none⟩)),(10,.pointer (some ⟨g94,0,none⟩)),(19,.slice A539 x537.length c540)] ⟨rfl,rfl,rfl,rfl,rfl,trivial⟩ (fun u=>?_)
     refine c_sta ⟨w0,M,(100100,g94,.cells #[.int .u16 x79.fID,.bool x79.fResponse,.bool true,.bool x79.fTruncated,.bool x79.fDesired,.bool x79.fAvailable,.int .i64 x79.fOpcode,.int .i64 x79.fCode,.slice A81 x79.fQuestions.length c82,.slice A480 x478.length c481,.slice A87 x79.fAuthorities.length c88,.slice A90 x79.fExtras.length c91] 26 (0,0))::(100090,g78,.cells #[.string x69.fApex,.slice pp73.pA0 x69.fRecords.length pp73.pC0] 60 (0,0))::(100060,g45,.cells #[.string x41.fName,.int .u16 x41.fType,.int .u16 x41.fClass] 29 (0,0))::(100040,g2,.cells #[.int .u16 0,.bool false,.bool false,.bool false,.bool false,.bool false,.int .i64 0,.int .i64 0,.slice none 0 0,.slice none 0 0,.slice none 0 0,.slice none 0 0] 26 (0,0))::(100030,g1,.cells #[.int .u16 p1.fID,.bool p1.fResponse,.bool p1.fAuthoritative,.bool p1.fTruncated,.bool p1.fDesired,.bool p1.fAvailable,.int .i64 p1.fOpcode,.int .i64 p1.fCode,.slice Ap1_0 p1.fQuestions.length cp1_0,.slice Ap1_1 p1.fAnswers.length cp1_1,.slice Ap1_2 p1.fAuthorities.length cp1_2,.slice Ap1_3 p1.fExtras.length cp1_3] 26 (0,0))::H,(101280,⟨.slice A539 x537.length c540,42,5,x537.length,x537.flatMap GRR.enc⟩)::(101190,⟨.slice A480 x478.length c481,42,5,x478.length,x478.flatMap GRR.enc⟩)::(100653,⟨.slice A90 x79.fExtras.length c91,42,5,x79.fExtras.length,x79.fExtras.flatMap GRR.enc⟩)::R,φ93⟩ (fun _ h=>h)<|c_region<|g_v rfl r_move<|g_v rfl r_move<|g_v rfl (r_lenL Try.underlying24 rfl)<|g_v rfl (r_min rfl rfl) ?_
     refine g_shut (tag:=101280) rfl (fun φ542 q542'=>?_)
     have q542 : ∀ W,φ542 W→φ93 W:=fun W h=>(q542' W h).1
     have f543:=fun (W : World) (h : φ542 W)=>(q542' W h).2
     replace hm:=bnd hm
     obtain ⟨l545,hl545,hm⟩:=hm
     have f544:=fun (W : World) (h : φ542 W)=>cl_cutHi (enc:=GRR.enc) (sz:=5) (fun _=>rfl) hl545 (f543 W h)
     refine g_v rfl (r_lcutHi Try.underlying24 Try.sizeOf42 rfl hc540 rfl hl545)<|g_v rfl (r_field (n:=9) Try.underlying26 rfl Try.sizeOf24 rfl rfl)<|g_storeL (tag:=100100) rfl rfl rfl rfl Try.sizeOf24 rfl rfl<|g_nil ?_
     exact d_round (l545,A539,c540) ⟨hm,(cutHi_len hc540 hl545)⟩ Nat.zero_lt_one ⟨rfl,rfl,rfl,rfl,trivial⟩ (fun W h=>((h.dropR (t:=101190) rfl).dropH (t:=100030) rfl).phi (fun W hφ=>⟨(q542 _ hφ),(fun W h=>f544 W h) W hφ⟩))
    replace hm:=ite_f hm (of_decide_eq_false h536)
    refine c_skip ?_
    refine d_shut (tag:=101190) rfl (fun φ546 q546'=>?_)
    have q546 : ∀ W,φ546 W→φ93 W:=fun W h=>(q546' W h).1
    have f547:=fun (W : World) (h : φ546 W)=>(q546' W h).2
    exact d_round (x478,A480,c481) ⟨hm,hc481⟩ Nat.zero_lt_one ⟨rfl,rfl,rfl,rfl,trivial⟩ (fun W h=>(h.dropH (t:=100030) rfl).phi (fun W hφ=>⟨(q546 _ hφ),(fun W h=>f547 W h) W hφ⟩))
   unfold m_auth_Answer_j5 at hm
   refine d_abs (fun φ501 q501'=>?_)
   have q501 : ∀ W,φ501 W→φ93 W:=fun W h=>(q501' W h).1
   have f500:=fun (W : World) (h : φ501 W)=>(q501' W h).2
   refine d_flat [(4,.pointer (some ⟨g2,0,none⟩)),(6,.pointer (some ⟨g45,0,none⟩)),(9,.pointer (some ⟨g78,0,none⟩)),(10,.pointer (some ⟨g94,0,none⟩))] ⟨rfl,rfl,rfl,rfl,trivial⟩ (fun u=>?_)
   refine d_sta ⟨w0,M,(100100,g94,.cells #[.int .u16 x79.fID,.bool x79.fResponse,.bool true,.bool x79.fTruncated,.bool x79.fDesired,.bool x79.fAvailable,.int .i64 x79.fOpcode,.int .i64 x79.fCode,.slice A81 x79.fQuestions.length c82,.slice A498 l497.length c499,.slice A87 x79.fAuthorities.length c88,.slice A90 x79.fExtras.length c91] 26 (0,0))::(100090,g78,.cells #[.string x69.fApex,.slice pp73.pA0 x69.fRecords.length pp73.pC0] 60 (0,0))::(100060,g45,.cells #[.string x41.fName,.int .u16 x41.fType,.int .u16 x41.fClass] 29 (0,0))::(100040,g2,.cells #[.int .u16 0,.bool false,.bool false,.bool false,.bool false,.bool false,.int .i64 0,.int .i64 0,.slice none 0 0,.slice none 0 0,.slice none 0 0,.slice none 0 0] 26 (0,0))::H,(100653,⟨.slice A90 x79.fExtras.length c91,42,5,x79.fExtras.length,x79.fExtras.flatMap GRR.enc⟩)::R,φ501⟩ (fun _ h=>h)<|d_then<|c_seq ?_
   refine c_cut (ι:=Int×(List GRR)×(List GRR)×Option Addr×Nat×Option Addr×Nat) [4,10] (fun ⟨i511,l512,l516,A513,c514,A517,c518⟩=>[]) (fun ⟨i511,l512,l516,A513,c514,A517,c518⟩=>⟨w0,M,(100100,g94,.cells #[.int .u16 x79.fID,.bool x79.fResponse,.bool true,.bool x79.fTruncated,.bool x79.fDesired,.bool x79.fAvailable,.int .i64 x79.fOpcode,.int .i64 i511,.slice A81 x79.fQuestions.length c82,.slice A513 l512.length c514,.slice A517 l516.length c518,.slice A90 x79.fExtras.length c91] 26 (0,0))::(100040,g2,.cells #[.int .u16 0,.bool false,.bool false,.bool false,.bool false,.bool false,.int .i64 0,.int .i64 0,.slice none 0 0,.slice none 0 0,.slice none 0 0,.slice none 0 0] 26 (0,0))::H,(100653,⟨.slice A90 x79.fExtras.length c91,42,5,x79.fExtras.length,x79.fExtras.flatMap GRR.enc⟩)::R,fun W=>φ501 W∧Cl W A513 (l512.flatMap GRR.enc)∧Cl W A517 (l516.flatMap GRR.enc)⟩) (fun ⟨i511,l512,l516,A513,c514,A517,c518⟩=>m_auth_Answer_j6 x79 i511 l512 l516 = some r∧l512.length ≤ c514∧l516.length ≤ c518) ?_ (fun ⟨i511,l512,l516,A513,c514,A517,c518⟩ u ⟨hm,hc514,hc518⟩=>?_)
   ·
    refine c_seq<|c_region<|g_v rfl (r_field (n:=9) Try.underlying26 rfl Try.sizeOf24 rfl rfl)<|g_v rfl (r_load (tag:=100100) rfl rfl rfl Try.isAgg24)<|g_v rfl (r_lenL Try.underlying24 rfl)<|g_v rfl (r_eql rfl rfl)<|g_nil<|d_then ?_
    refine c_cond rfl (fun h523=>?_) (fun h523=>?_)
    ·
     replace hm:=ite_t hm (of_decide_eq_true h523)
     refine c_seq<|c_region<|g_v rfl (r_loadA (tag:=100090) rfl rfl Try.isAgg60 Try.sizeOf60 rfl rfl)<|g_v rfl (r_field (n:=0) Try.underlying60 rfl Try.sizeOf33 rfl rfl)<|g_v rfl (r_field (n:=0) Try.underlying33 rfl Try.sizeOf9 rfl rfl)<|g_v rfl (r_load (tag:=100090) rfl rfl rfl Try.isAgg9) ?_
     replace hm:=bnd hm
     obtain ⟨x524,hx525,hm⟩:=hm
     refine g_cn ⟨w0,M,_,_,φ501⟩ (fun _ h=>h) Try.call26 rfl rfl (c_auth_zone_of (⟨x69⟩ : Gauth_zone) pp73.pA0 pp73.pC0 hcp76 (fun W hS=>f77 W (q93 _ (q501 _ hS.now))) x69.fApex 6 _ hx525) (fun ⟨A526,c527⟩ hc527=>?_)
     refine g_sta _ (fun W h=>(ok_frontR (t:=2000) (t':=101430) h rfl))<|g_v rfl (r_field (n:=9) Try.underlying26 rfl Try.sizeOf24 rfl rfl)<|g_storeL (tag:=100100) rfl rfl rfl rfl Try.sizeOf24 rfl rfl<|g_v rfl (r_field (n:=10) Try.underlying26 rfl Try.sizeOf24 rfl rfl)<|g_storeL (tag:=100100) rfl rfl rfl rfl Try.sizeOf24 rfl rfl<|g_nil<|d_then ?_
     refine c_flat [(4,.pointer (some ⟨g2,0,none⟩)),(6,.pointer (some ⟨g45,0,none⟩)),(9,.pointer (some ⟨g78,0,none⟩)),(10,.pointer (some ⟨g94,0,none⟩))] ⟨rfl,rfl,rfl,rfl,trivial⟩ (fun u=>?_)
     refine c_sta ⟨w0,M,(100100,g94,.cells #[.int .u16 x79.fID,.bool x79.fResponse,.bool true,.bool x79.fTruncated,.bool x79.fDesired,.bool x79.fAvailable,.int .i64 x79.fOpcode,.int .i64 x79.fCode,.slice A81 x79.fQuestions.length c82,.slice none 0 0,.slice A526 x524.length c527,.slice A90 x79.fExtras.length c91] 26 (0,0))::(100090,g78,.cells #[.string x69.fApex,.slice pp73.pA0 x69.fRecords.length pp73.pC0] 60 (0,0))::(100060,g45,.cells #[.string x41.fName,.int .u16 x41.fType,.int .u16 x41.fClass] 29 (0,0))::(100040,g2,.cells #[.int .u16 0,.bool false,.bool false,.bool false,.bool false,.bool false,.int .i64 0,.int .i64 0,.slice none 0 0,.slice none 0 0,.slice none 0 0,.slice none 0 0] 26 (0,0))::H,(101430,⟨.slice A526 x524.length c527,42,5,x524.length,x524.flatMap GRR.enc⟩)::(100653,⟨.slice A90 x79.fExtras.length c91,42,5,x79.fExtras.length,x79.fExtras.flatMap GRR.enc⟩)::R,φ501⟩ (fun _ h=>h)<|c_seq<|c_region<|g_v rfl (r_field (n:=0) Try.underlying60 rfl Try.sizeOf33 rfl rfl)<|g_v rfl (r_loadA (tag:=100090) rfl rfl Try.isAgg33 Try.sizeOf33 rfl rfl)<|g_v rfl (r_field (n:=0) Try.underlying29 rfl Try.sizeOf9 rfl rfl)<|g_v rfl (r_load (tag:=100060) rfl rfl rfl Try.isAgg9) ?_
     replace hm:=bnd hm
     obtain ⟨x529,hx530,hm⟩:=hm
     refine g_cn ⟨w0,M,_,_,φ501⟩ (fun _ h=>h) Try.call30 rfl rfl (c_auth_There x69 pp73.pA0 pp73.pC0 hcp76 (fun W hS=>f77 W (q93 _ (q501 _ hS.now))) x41.fName _ hx530) (fun _ _=>?_)
     refine g_v rfl (r_not rfl)<|g_nil<|d_then ?_
     refine c_cond rfl (fun h531=>?_) (fun h531=>?_)
     ·
      have h531' : x529 = false:=by revert h531; cases x529 <;> simp
      replace hm:=ite_f hm (bool_nt h531')
      refine c_region<|g_v rfl (r_field (n:=7) Try.underlying26 rfl Try.sizeOf3 rfl rfl)<|g_storeL (tag:=100100) rfl rfl rfl rfl Try.sizeOf3 rfl rfl<|g_nil ?_
      refine d_shut (tag:=101430) rfl (fun φ532 q532'=>?_)
      have q532 : ∀ W,φ532 W→φ501 W:=fun W h=>(q532' W h).1
      have f533:=fun (W : World) (h : φ532 W)=>(q532' W h).2
      exact d_round (3,([] : List GRR),x524,none,0,A526,c527) ⟨hm,(Nat.le_refl 0),hc527⟩ Nat.zero_lt_one ⟨rfl,rfl,trivial⟩ (fun W h=>((h.dropH (t:=100090) rfl).dropH (t:=100060) rfl).phi (fun W hφ=>⟨(q532 _ hφ),(fun W _=>Cl.nil _ _) W hφ,(fun W h=>f533 W h) W hφ⟩))
     have h531' : x529 = true:=by revert h531; cases x529 <;> simp
     replace hm:=ite_t hm h531'
     refine c_skip ?_
     refine d_shut (tag:=101430) rfl (fun φ534 q534'=>?_)
     have q534 : ∀ W,φ534 W→φ501 W:=fun W h=>(q534' W h).1
     have f535:=fun (W : World) (h : φ534 W)=>(q534' W h).2
     exact d_round (x79.fCode,([] : List GRR),x524,none,0,A526,c527) ⟨hm,(Nat.le_refl 0),hc527⟩ Nat.zero_lt_one ⟨rfl,rfl,trivial⟩ (fun W h=>((h.dropH (t:=100090) rfl).dropH (t:=100060) rfl).phi (fun W hφ=>⟨(q534 _ hφ),(fun W _=>Cl.nil _ _) W hφ,(fun W h=>f535 W h) W hφ⟩))
    replace hm:=ite_f hm (of_decide_eq_false h523)
    refine c_skip ?_
    exact d_round (x79.fCode,l497,x79.fAuthorities,A498,c499,A87,c88) ⟨hm,hc499,hc88⟩ Nat.zero_lt_one ⟨rfl,rfl,trivial⟩ (fun W h=>((h.dropH (t:=100090) rfl).dropH (t:=100060) rfl).phi (fun W hφ=>⟨hφ,(fun W h=>f500 W h) W hφ,(fun W h=>f89 W (q501 _ h)) W hφ⟩))
   unfold m_auth_Answer_j6 at hm
   refine d_abs (fun φ520 q520'=>?_)
   have q520 : ∀ W,φ520 W→φ501 W:=fun W h=>(q520' W h).1
   have f515:=fun (W : World) (h : φ520 W)=>(q520' W h).2.1
   have f519:=fun (W : World) (h : φ520 W)=>(q520' W h).2.2
   refine d_flat [(4,.pointer (some ⟨g2,0,none⟩)),(10,.pointer (some ⟨g94,0,none⟩))] ⟨rfl,rfl,trivial⟩ (fun u=>?_)
   refine d_sta ⟨w0,M,(100100,g94,.cells #[.int .u16 x79.fID,.bool x79.fResponse,.bool true,.bool x79.fTruncated,.bool x79.fDesired,.bool x79.fAvailable,.int .i64 x79.fOpcode,.int .i64 i511,.slice A81 x79.fQuestions.length c82,.slice A513 l512.length c514,.slice A517 l516.length c518,.slice A90 x79.fExtras.length c91] 26 (0,0))::(100040,g2,.cells #[.int .u16 0,.bool false,.bool false,.bool false,.bool false,.bool false,.int .i64 0,.int .i64 0,.slice none 0 0,.slice none 0 0,.slice none 0 0,.slice none 0 0] 26 (0,0))::H,(100653,⟨.slice A90 x79.fExtras.length c91,42,5,x79.fExtras.length,x79.fExtras.flatMap GRR.enc⟩)::R,φ520⟩ (fun _ h=>h)<|d_then<|c_seq<|c_region<|g_v rfl (r_loadA (tag:=100100) rfl rfl Try.isAgg26 Try.sizeOf26 rfl rfl)<|g_storeL (tag:=100040) rfl rfl rfl rfl Try.sizeOf26 rfl rfl<|g_nil<|d_then<|c_ret ?_
   cases hm
   refine d_shut (tag:=100653) rfl (fun φ521 q521'=>?_)
   have q521 : ∀ W,φ521 W→φ520 W:=fun W h=>(q521' W h).1
   have f522:=fun (W : World) (h : φ521 W)=>(q521' W h).2
   exact d_retC (A81,c82,A513,c514,A517,c518,A90,c91) Try.results9 (res_agg (tag:=100040) rfl rfl Try.isAgg26 Try.sizeOf26 (res_nil rfl)) ⟨hc82,hc514,hc518,hc91⟩ (fun W h=>ok_pre (H1:=[_,_]) (R1:=[]) h (fun W hφ=>⟨(q93 _ (q501 _ (q520 _ (q521 _ hφ)))),(fun W h=>f83 W (q501 _ (q520 _ (q521 _ h)))) W hφ,(fun W h=>f515 W (q521 _ h)) W hφ,(fun W h=>f519 W (q521 _ h)) W hφ,(fun W h=>f522 W h) W hφ⟩)) (.inr rfl)
  replace hm:=ite_t hm (of_decide_eq_true h50)
  refine g_no rfl rfl rfl rfl rfl h50<|g_v rfl (r_pick1 rfl h50)<|g_nil<|d_then<|c_cond1 rfl rfl<|c_seq<|c_region<|g_v rfl (r_loadA (tag:=100030) rfl rfl Try.isAgg26 Try.sizeOf26 rfl rfl) ?_
  replace hm:=bnd hm
  obtain ⟨x548,hx549,hm⟩:=hm
  refine g_cn ⟨w0,M,_,_,φ⟩ (fun _ h=>h) Try.call25 rfl rfl (c_auth_reply p1 Ap1_0 cp1_0 hcp1_0 (fun W hS=>fp1_0 W (ok_pre (H1:=[_,_,_]) (R1:=[]) hS (fun W h=>h))) Ap1_1 cp1_1 hcp1_1 (fun W hS=>fp1_1 W (ok_pre (H1:=[_,_,_]) (R1:=[]) hS (fun W h=>h))) Ap1_2 cp1_2 hcp1_2 (fun W hS=>fp1_2 W (ok_pre (H1:=[_,_,_]) (R1:=[]) hS (fun W h=>h))) Ap1_3 cp1_3 hcp1_3 (fun W hS=>fp1_3 W (ok_pre (H1:=[_,_,_]) (R1:=[]) hS (fun W h=>h))) 5 _ hx549) (fun ⟨A550,c551,A553,c554,A556,c557,A559,c560⟩ ⟨hc551,hc554,hc557,hc560⟩=>?_)
  refine g_sta _ (fun W h=>(ok_frontR (t:=2003) (t':=100583) h rfl)) ?_
  refine g_abs (fun φ562 q562'=>?_)
  have q562 : ∀ W,φ562 W→φ W:=fun W h=>(q562' W h).1
  have f552:=fun (W : World) (h : φ562 W)=>(q562' W h).2.1
  have f555:=fun (W : World) (h : φ562 W)=>(q562' W h).2.2.1
  have f558:=fun (W : World) (h : φ562 W)=>(q562' W h).2.2.2
  refine g_storeL (tag:=100040) rfl rfl rfl rfl Try.sizeOf26 rfl rfl<|g_nil<|d_then<|c_ret<|d_ret_then ?_
  cases hm
  refine d_shut (tag:=100583) rfl (fun φ563 q563'=>?_)
  have q563 : ∀ W,φ563 W→φ562 W:=fun W h=>(q563' W h).1
  have f564:=fun (W : World) (h : φ563 W)=>(q563' W h).2
  exact d_retC (A550,c551,A553,c554,A556,c557,A559,c560) Try.results9 (res_agg (tag:=100040) rfl rfl Try.isAgg26 Try.sizeOf26 (res_nil rfl)) ⟨hc551,hc554,hc557,hc560⟩ (fun W h=>ok_pre (H1:=[_,_,_]) (R1:=[]) h (fun W hφ=>⟨(q562 _ (q563 _ hφ)),(fun W h=>f552 W (q563 _ h)) W hφ,(fun W h=>f555 W (q563 _ h)) W hφ,(fun W h=>f558 W (q563 _ h)) W hφ,(fun W h=>f564 W h) W hφ⟩)) (.inr rfl)
 replace hm:=ite_t hm h3
 iterate 3 refine g_no rfl rfl rfl rfl rfl h3 ?_
 refine g_v rfl (r_pick1 rfl h3)<|g_v rfl r_assign<|g_nil<|d_then<|c_cond1 rfl rfl<|c_seq<|c_region<|g_v rfl (r_loadA (tag:=100030) rfl rfl Try.isAgg26 Try.sizeOf26 rfl rfl) ?_
 replace hm:=bnd hm
 obtain ⟨x565,hx566,hm⟩:=hm
 refine g_cn ⟨w0,M,_,_,φ⟩ (fun _ h=>h) Try.call25 rfl rfl (c_auth_reply p1 Ap1_0 cp1_0 hcp1_0 (fun W hS=>fp1_0 W (ok_pre (H1:=[_,_]) (R1:=[]) hS (fun W h=>h))) Ap1_1 cp1_1 hcp1_1 (fun W hS=>fp1_1 W (ok_pre (H1:=[_,_]) (R1:=[]) hS (fun W h=>h))) Ap1_2 cp1_2 hcp1_2 (fun W hS=>fp1_2 W (ok_pre (H1:=[_,_]) (R1:=[]) hS (fun W h=>h))) Ap1_3 cp1_3 hcp1_3 (fun W hS=>fp1_3 W (ok_pre (H1:=[_,_]) (R1:=[]) hS (fun W h=>h))) 1 _ hx566) (fun ⟨A567,c568,A570,c571,A573,c574,A576,c577⟩ ⟨hc568,hc571,hc574,hc577⟩=>?_)
 refine g_sta _ (fun W h=>(ok_frontR (t:=2003) (t':=100303) h rfl)) ?_
 refine g_abs (fun φ579 q579'=>?_)
 have q579 : ∀ W,φ579 W→φ W:=fun W h=>(q579' W h).1
 have f569:=fun (W : World) (h : φ579 W)=>(q579' W h).2.1
 have f572:=fun (W : World) (h : φ579 W)=>(q579' W h).2.2.1
 have f575:=fun (W : World) (h : φ579 W)=>(q579' W h).2.2.2
 refine g_e rfl (e_alloc 100050 Try.zeroValue26) (fun g580 _=>?_)
 refine g_storeL (tag:=100050) rfl rfl rfl rfl Try.sizeOf26 rfl rfl<|g_nil<|d_then ?_
 refine c_flat [(4,.pointer (some ⟨g2,0,none⟩)),(5,.pointer (some ⟨g580,0,none⟩))] ⟨rfl,rfl,trivial⟩ (fun u=>?_)
 refine c_sta ⟨w0,M,(100050,g580,.cells #[.int .u16 x565.fID,.bool x565.fResponse,.bool x565.fAuthoritative,.bool x565.fTruncated,.bool x565.fDesired,.bool x565.fAvailable,.int .i64 x565.fOpcode,.int .i64 x565.fCode,.slice A567 x565.fQuestions.length c568,.slice A570 x565.fAnswers.length c571,.slice A573 x565.fAuthorities.length c574,.slice A576 x565.fExtras.length c577] 26 (0,0))::(100040,g2,.cells #[.int .u16 0,.bool false,.bool false,.bool false,.bool false,.bool false,.int .i64 0,.int .i64 0,.slice none 0 0,.slice none 0 0,.slice none 0 0,.slice none 0 0] 26 (0,0))::(100030,g1,.cells #[.int .u16 p1.fID,.bool p1.fResponse,.bool p1.fAuthoritative,.bool p1.fTruncated,.bool p1.fDesired,.bool p1.fAvailable,.int .i64 p1.fOpcode,.int .i64 p1.fCode,.slice Ap1_0 p1.fQuestions.length cp1_0,.slice Ap1_1 p1.fAnswers.length cp1_1,.slice Ap1_2 p1.fAuthorities.length cp1_2,.slice Ap1_3 p1.fExtras.length cp1_3] 26 (0,0))::H,(100303,⟨.slice A576 x565.fExtras.length c577,42,5,x565.fExtras.length,x565.fExtras.flatMap GRR.enc⟩)::R,φ579⟩ (fun _ h=>h)<|c_seq<|c_region<|g_v rfl (r_field (n:=8) Try.underlying26 rfl Try.sizeOf23 rfl rfl)<|g_storeL (tag:=100050) rfl rfl rfl rfl Try.sizeOf23 rfl rfl<|g_nil<|d_then<|c_seq<|c_region<|g_v rfl (r_loadA (tag:=100050) rfl rfl Try.isAgg26 Try.sizeOf26 rfl rfl) ?_
 refine g_storeL (tag:=100040) rfl rfl rfl rfl Try.sizeOf26 rfl rfl<|g_nil<|d_then<|c_ret<|d_ret_block<|d_ret_then ?_
 cases hm
 refine d_shut (tag:=100303) rfl (fun φ581 q581'=>?_)
 have q581 : ∀ W,φ581 W→φ579 W:=fun W h=>(q581' W h).1
 have f582:=fun (W : World) (h : φ581 W)=>(q581' W h).2
 exact d_retC (none,0,A570,c571,A573,c574,A576,c577) Try.results9 (res_agg (tag:=100040) rfl rfl Try.isAgg26 Try.sizeOf26 (res_nil rfl)) ⟨(Nat.le_refl 0),hc571,hc574,hc577⟩ (fun W h=>ok_pre (H1:=[_,_,_]) (R1:=[]) h (fun W hφ=>⟨(q579 _ (q581 _ hφ)),(fun W _=>Cl.nil _ _) W hφ,(fun W h=>f572 W (q581 _ h)) W hφ,(fun W h=>f575 W (q581 _ h)) W hφ,(fun W h=>f582 W h) W hφ⟩)) (.inr rfl)
noncomputable def m_law18_asked (p0 : ByteArray) (p1 : Int) : Option GMessage:=
  (m_law18_example).bind fun x2=>
  (m_message_Query 7 (⟨p0,p1,1⟩ : GQuestion)).bind fun x11=>
  (m_auth_Answer [x2] x11).bind fun x28=>
  some x28
theorem c_law18_asked {w0 : World} {M : Nat→Prop} {H : List (Nat×Nat×Obj)} {R : List (Nat×Row)} {φ : World→Prop} (p0 : ByteArray) (p1 : Int) (r : GMessage) (hm : m_law18_asked p0 p1 = some r) :
    Cn Try.prog 24 #[.string p0,.int .u16 p1] ⟨w0,M,H,R,φ⟩ (fun x : Option Addr×Nat×Option Addr×Nat×Option Addr×Nat×Option Addr×Nat=>.agg #[.int .u16 r.fID,.bool r.fResponse,.bool r.fAuthoritative,.bool r.fTruncated,.bool r.fDesired,.bool r.fAvailable,.int .i64 r.fOpcode,.int .i64 r.fCode,.slice x.1 r.fQuestions.length x.2.1,.slice x.2.2.1 r.fAnswers.length x.2.2.2.1,.slice x.2.2.2.2.1 r.fAuthorities.length x.2.2.2.2.2.1,.slice x.2.2.2.2.2.2.1 r.fExtras.length x.2.2.2.2.2.2.2]) (fun x=>r.fQuestions.length ≤ x.2.1∧r.fAnswers.length ≤ x.2.2.2.1∧r.fAuthorities.length ≤ x.2.2.2.2.2.1∧r.fExtras.length ≤ x.2.2.2.2.2.2.2) (fun x=>⟨w0,M,H,R,fun W=>φ W∧Cl W x.1 (r.fQuestions.flatMap GQuestion.enc)∧Cl W x.2.2.1 (r.fAnswers.flatMap GRR.enc)∧Cl W x.2.2.2.2.1 (r.fAuthorities.flatMap GRR.enc)∧Cl W x.2.2.2.2.2.2.1 (r.fExtras.flatMap GRR.enc)⟩):=by
 unfold m_law18_asked at hm
 refine cn_intro (fn:=Try.f24) (N:=12) Try.func24 rfl Try.ntmps24 rfl<|c_seq<|c_region ?_
 refine g_e rfl (e_alloc 100040 Try.zeroValue26) (fun g1 _=>?_)
 refine g_nil<|d_then<|c_seq<|c_region ?_
 replace hm:=bnd hm
 obtain ⟨x2,hx3,hm⟩:=hm
 refine g_cn ⟨w0,M,_,_,φ⟩ (fun _ h=>h) Try.call10 rfl rfl (c_law18_example  _ hx3) (fun ⟨A4,c5⟩ hc5=>?_)
 refine g_abs (fun φ7 q7'=>?_)
 have q7 : ∀ W,φ7 W→φ W:=fun W h=>(q7' W h).1
 have f6:=fun (W : World) (h : φ7 W)=>(q7' W h).2
 have hk9:=(DOk.cons (cap:=GZone.capP) (x:=x2) (p:=(⟨A4,c5⟩ : GZoneP)) (hc5) DOk.nil)
 have f10:=fun (W : World) (h : φ7 W)=>(DOwn.cons (own:=GZone.ownP) (x:=x2) (p:=(⟨A4,c5⟩ : GZoneP)) (f6 W h) DOwn.nil)
 refine g_e rfl (e_litD (tag:=100060) (enc:=GZone.encP) (sz:=2) hk9 rfl Try.underlying35 (lit33_4 _ _ _ _) rfl rfl (fun _=>rfl)) (fun g8 _=>?_)
 refine g_v rfl r_move<|g_v rfl r_move<|g_v rfl (r_build _ rfl (bld29_5 _ _ _)) ?_
 replace hm:=bnd hm
 obtain ⟨x11,hx12,hm⟩:=hm
 refine g_cn ⟨w0,M,_,_,φ7⟩ (fun _ h=>h) Try.call13 rfl rfl (c_message_Query 7 (⟨p0,p1,1⟩ : GQuestion) _ hx12) (fun ⟨A13,c14,A16,c17,A19,c20,A22,c23⟩ ⟨hc14,hc17,hc20,hc23⟩=>?_)
 refine g_abs (fun φ25 q25'=>?_)
 have q25 : ∀ W,φ25 W→φ7 W:=fun W h=>(q25' W h).1
 have f15:=fun (W : World) (h : φ25 W)=>(q25' W h).2.1
 have f18:=fun (W : World) (h : φ25 W)=>(q25' W h).2.2.1
 have f21:=fun (W : World) (h : φ25 W)=>(q25' W h).2.2.2.1
 have f24:=fun (W : World) (h : φ25 W)=>(q25' W h).2.2.2.2
 refine g_shut (tag:=100060) rfl (fun φ26 q26'=>?_)
 have q26 : ∀ W,φ26 W→φ25 W:=fun W h=>(q26' W h).1
 have f27:=fun (W : World) (h : φ26 W)=>(q26' W h).2
 replace hm:=bnd hm
 obtain ⟨x28,hx29,hm⟩:=hm
 refine g_cn ⟨w0,M,_,_,φ26⟩ (fun _ h=>h) Try.call9 rfl rfl (c_auth_Answer [x2] (some ⟨g8,0,none⟩) 1 [(⟨A4,c5⟩ : GZoneP)] ⟨hk9,(Nat.le_refl _)⟩ (fun W h=>f27 W h) (fun W h=>(f10 W (q25 _ (q26 _ h)))) x11 A13 c14 hc14 (fun W hS=>f15 W (q26 _ hS.now)) A16 c17 hc17 (fun W hS=>f18 W (q26 _ hS.now)) A19 c20 hc20 (fun W hS=>f21 W (q26 _ hS.now)) A22 c23 hc23 (fun W hS=>f24 W (q26 _ hS.now)) _ hx29) (fun ⟨A30,c31,A33,c34,A36,c37,A39,c40⟩ ⟨hc31,hc34,hc37,hc40⟩=>?_)
 refine g_abs (fun φ42 q42'=>?_)
 have q42 : ∀ W,φ42 W→φ26 W:=fun W h=>(q42' W h).1
 have f32:=fun (W : World) (h : φ42 W)=>(q42' W h).2.1
 have f35:=fun (W : World) (h : φ42 W)=>(q42' W h).2.2.1
 have f38:=fun (W : World) (h : φ42 W)=>(q42' W h).2.2.2.1
 have f41:=fun (W : World) (h : φ42 W)=>(q42' W h).2.2.2.2
 refine g_storeL (tag:=100040) rfl rfl rfl rfl Try.sizeOf26 rfl rfl<|g_nil<|d_then ?_
 refine c_flat [(4,.pointer (some ⟨g1,0,none⟩))] ⟨rfl,trivial⟩ (fun u=>?_)
 refine c_sta ⟨w0,M,(100040,g1,.cells #[.int .u16 x28.fID,.bool x28.fResponse,.bool x28.fAuthoritative,.bool x28.fTruncated,.bool x28.fDesired,.bool x28.fAvailable,.int .i64 x28.fOpcode,.int .i64 x28.fCode,.slice A30 x28.fQuestions.length c31,.slice A33 x28.fAnswers.length c34,.slice A36 x28.fAuthorities.length c37,.slice A39 x28.fExtras.length c40] 26 (0,0))::H,R,φ42⟩ (fun _ h=>h)<|c_ret ?_
 cases hm
 exact d_retC (A30,c31,A33,c34,A36,c37,A39,c40) Try.results24 (res_agg (tag:=100040) rfl rfl Try.isAgg26 Try.sizeOf26 (res_nil rfl)) ⟨hc31,hc34,hc37,hc40⟩ (fun W h=>ok_pre (H1:=[_]) (R1:=[]) h (fun W hφ=>⟨(q7 _ (q25 _ (q26 _ (q42 _ hφ)))),(fun W h=>f32 W h) W hφ,(fun W h=>f35 W h) W hφ,(fun W h=>f38 W h) W hφ,(fun W h=>f41 W h) W hφ⟩)) (.inr rfl)
noncomputable def m_law18_awake  : Option Bool:=
  (m_law18_asked (⟨#[3,87,87,87,1,65,0]⟩ : ByteArray) 1).bind fun x1=>
  (m_law18_asked (⟨#[1,120,1,98,1,97,0]⟩ : ByteArray) 1).bind fun x17=>
  (m_law18_asked (⟨#[3,119,119,119,1,97,0]⟩ : ByteArray) 15).bind fun x33=>
  (m_law18_asked (⟨#[1,113,1,97,0]⟩ : ByteArray) 1).bind fun x49=>
  (m_law18_example).bind fun x65=>
  (m_auth_Check x65).bind fun x71=>
  if x71 = 0 then
    if (x1.fAnswers.length : Int) = 1 then
      if x1.fAuthoritative = true then
        if x1.fID = 7 then
          if (x17.fAuthorities.length : Int) = 1 then
            if (x17.fExtras.length : Int) = 1 then
              if x17.fAuthoritative = true then
                some false
              else
                if (x33.fAuthorities.length : Int) = 1 then
                  if x33.fCode = 0 then
                    if (x49.fAuthorities.length : Int) = 1 then
                      some (decide (x49.fCode = 3))
                    else
                      some false
                  else
                    some false
                else
                  some false
            else
              some false
          else
            some false
        else
          some false
      else
        some false
    else
      some false
  else
    some false
theorem c_law18_awake {w0 : World} {M : Nat→Prop} {H : List (Nat×Nat×Obj)} {R : List (Nat×Row)} {φ : World→Prop}  (r : Bool) (hm : m_law18_awake = some r) :
    Cn Try.prog 7 #[] ⟨w0,M,H,R,φ⟩ (fun x : Unit=>.bool r) (fun x=>True) (fun x=>⟨w0,M,H,R,φ⟩):=by
 unfold m_law18_awake at hm
 refine cn_intro (fn:=Try.f7) (N:=66) Try.func7 rfl Try.ntmps7 rfl<|c_seq<|c_region<|g_v rfl r_assign<|g_nil<|d_then<|c_seq<|c_region ?_
 replace hm:=bnd hm
 obtain ⟨x1,hx2,hm⟩:=hm
 refine g_cn ⟨w0,M,_,_,φ⟩ (fun _ h=>h) Try.call24 rfl rfl (c_law18_asked (⟨#[3,87,87,87,1,65,0]⟩ : ByteArray) 1 _ hx2) (fun ⟨A3,c4,A6,c7,A9,c10,A12,c13⟩ ⟨hc4,hc7,hc10,hc13⟩=>?_)
 refine g_abs (fun φ15 q15'=>?_)
 have q15 : ∀ W,φ15 W→φ W:=fun W h=>(q15' W h).1
 have f5:=fun (W : World) (h : φ15 W)=>(q15' W h).2.1
 have f8:=fun (W : World) (h : φ15 W)=>(q15' W h).2.2.1
 have f11:=fun (W : World) (h : φ15 W)=>(q15' W h).2.2.2.1
 have f14:=fun (W : World) (h : φ15 W)=>(q15' W h).2.2.2.2
 refine g_e rfl (e_alloc 100010 Try.zeroValue26) (fun g16 _=>?_)
 refine g_storeL (tag:=100010) rfl rfl rfl rfl Try.sizeOf26 rfl rfl<|g_nil<|d_then<|c_seq<|c_region ?_
 replace hm:=bnd hm
 obtain ⟨x17,hx18,hm⟩:=hm
 refine g_cn ⟨w0,M,_,_,φ15⟩ (fun _ h=>h) Try.call24 rfl rfl (c_law18_asked (⟨#[1,120,1,98,1,97,0]⟩ : ByteArray) 1 _ hx18) (fun ⟨A19,c20,A22,c23,A25,c26,A28,c29⟩ ⟨hc20,hc23,hc26,hc29⟩=>?_)
 refine g_abs (fun φ31 q31'=>?_)
 have q31 : ∀ W,φ31 W→φ15 W:=fun W h=>(q31' W h).1
 have f21:=fun (W : World) (h : φ31 W)=>(q31' W h).2.1
 have f24:=fun (W : World) (h : φ31 W)=>(q31' W h).2.2.1
 have f27:=fun (W : World) (h : φ31 W)=>(q31' W h).2.2.2.1
 have f30:=fun (W : World) (h : φ31 W)=>(q31' W h).2.2.2.2
 refine g_e rfl (e_alloc 100020 Try.zeroValue26) (fun g32 _=>?_)
 refine g_storeL (tag:=100020) rfl rfl rfl rfl Try.sizeOf26 rfl rfl<|g_nil<|d_then<|c_seq<|c_region ?_
 replace hm:=bnd hm
 obtain ⟨x33,hx34,hm⟩:=hm
 refine g_cn ⟨w0,M,_,_,φ31⟩ (fun _ h=>h) Try.call24 rfl rfl (c_law18_asked (⟨#[3,119,119,119,1,97,0]⟩ : ByteArray) 15 _ hx34) (fun ⟨A35,c36,A38,c39,A41,c42,A44,c45⟩ ⟨hc36,hc39,hc42,hc45⟩=>?_)
 refine g_abs (fun φ47 q47'=>?_)
 have q47 : ∀ W,φ47 W→φ31 W:=fun W h=>(q47' W h).1
 have f37:=fun (W : World) (h : φ47 W)=>(q47' W h).2.1
 have f40:=fun (W : World) (h : φ47 W)=>(q47' W h).2.2.1
 have f43:=fun (W : World) (h : φ47 W)=>(q47' W h).2.2.2.1
 have f46:=fun (W : World) (h : φ47 W)=>(q47' W h).2.2.2.2
 refine g_e rfl (e_alloc 100030 Try.zeroValue26) (fun g48 _=>?_)
 refine g_storeL (tag:=100030) rfl rfl rfl rfl Try.sizeOf26 rfl rfl<|g_nil<|d_then ?_
 refine c_flat [(1,.pointer (some ⟨g16,0,none⟩)),(2,.pointer (some ⟨g32,0,none⟩)),(3,.pointer (some ⟨g48,0,none⟩))] ⟨rfl,rfl,rfl,trivial⟩ (fun u=>?_)
 refine c_sta ⟨w0,M,(100030,g48,.cells #[.int .u16 x33.fID,.bool x33.fResponse,.bool x33.fAuthoritative,.bool x33.fTruncated,.bool x33.fDesired,.bool x33.fAvailable,.int .i64 x33.fOpcode,.int .i64 x33.fCode,.slice A35 x33.fQuestions.length c36,.slice A38 x33.fAnswers.length c39,.slice A41 x33.fAuthorities.length c42,.slice A44 x33.fExtras.length c45] 26 (0,0))::(100020,g32,.cells #[.int .u16 x17.fID,.bool x17.fResponse,.bool x17.fAuthoritative,.bool x17.fTruncated,.bool x17.fDesired,.bool x17.fAvailable,.int .i64 x17.fOpcode,.int .i64 x17.fCode,.slice A19 x17.fQuestions.length c20,.slice A22 x17.fAnswers.length c23,.slice A25 x17.fAuthorities.length c26,.slice A28 x17.fExtras.length c29] 26 (0,0))::(100010,g16,.cells #[.int .u16 x1.fID,.bool x1.fResponse,.bool x1.fAuthoritative,.bool x1.fTruncated,.bool x1.fDesired,.bool x1.fAvailable,.int .i64 x1.fOpcode,.int .i64 x1.fCode,.slice A3 x1.fQuestions.length c4,.slice A6 x1.fAnswers.length c7,.slice A9 x1.fAuthorities.length c10,.slice A12 x1.fExtras.length c13] 26 (0,0))::H,R,φ47⟩ (fun _ h=>h)<|c_seq<|c_region ?_
 replace hm:=bnd hm
 obtain ⟨x49,hx50,hm⟩:=hm
 refine g_cn ⟨w0,M,_,_,φ47⟩ (fun _ h=>h) Try.call24 rfl rfl (c_law18_asked (⟨#[1,113,1,97,0]⟩ : ByteArray) 1 _ hx50) (fun ⟨A51,c52,A54,c55,A57,c58,A60,c61⟩ ⟨hc52,hc55,hc58,hc61⟩=>?_)
 refine g_abs (fun φ63 q63'=>?_)
 have q63 : ∀ W,φ63 W→φ47 W:=fun W h=>(q63' W h).1
 have f53:=fun (W : World) (h : φ63 W)=>(q63' W h).2.1
 have f56:=fun (W : World) (h : φ63 W)=>(q63' W h).2.2.1
 have f59:=fun (W : World) (h : φ63 W)=>(q63' W h).2.2.2.1
 have f62:=fun (W : World) (h : φ63 W)=>(q63' W h).2.2.2.2
 refine g_e rfl (e_alloc 100040 Try.zeroValue26) (fun g64 _=>?_)
 refine g_storeL (tag:=100040) rfl rfl rfl rfl Try.sizeOf26 rfl rfl<|g_nil<|d_then<|c_seq<|c_region ?_
 replace hm:=bnd hm
 obtain ⟨x65,hx66,hm⟩:=hm
 refine g_cn ⟨w0,M,_,_,φ63⟩ (fun _ h=>h) Try.call10 rfl rfl (c_law18_example  _ hx66) (fun ⟨A67,c68⟩ hc68=>?_)
 refine g_abs (fun φ70 q70'=>?_)
 have q70 : ∀ W,φ70 W→φ63 W:=fun W h=>(q70' W h).1
 have f69:=fun (W : World) (h : φ70 W)=>(q70' W h).2
 replace hm:=bnd hm
 obtain ⟨x71,hx72,hm⟩:=hm
 refine g_cn ⟨w0,M,_,_,φ70⟩ (fun _ h=>h) Try.call12 rfl rfl (c_auth_Check x65 A67 c68 hc68 (fun W h=>f69 W h) _ hx72) (fun _ _=>?_)
 refine g_v rfl (r_eql rfl rfl)<|g_v rfl r_move<|g_sta ⟨w0,M,(100040,g64,.cells #[.int .u16 x49.fID,.bool x49.fResponse,.bool x49.fAuthoritative,.bool x49.fTruncated,.bool x49.fDesired,.bool x49.fAvailable,.int .i64 x49.fOpcode,.int .i64 x49.fCode,.slice A51 x49.fQuestions.length c52,.slice A54 x49.fAnswers.length c55,.slice A57 x49.fAuthorities.length c58,.slice A60 x49.fExtras.length c61] 26 (0,0))::(100030,g48,.cells #[.int .u16 x33.fID,.bool x33.fResponse,.bool x33.fAuthoritative,.bool x33.fTruncated,.bool x33.fDesired,.bool x33.fAvailable,.int .i64 x33.fOpcode,.int .i64 x33.fCode,.slice A35 x33.fQuestions.length c36,.slice A38 x33.fAnswers.length c39,.slice A41 x33.fAuthorities.length c42,.slice A44 x33.fExtras.length c45] 26 (0,0))::(100020,g32,.cells #[.int .u16 x17.fID,.bool x17.fResponse,.bool x17.fAuthoritative,.bool x17.fTruncated,.bool x17.fDesired,.bool x17.fAvailable,.int .i64 x17.fOpcode,.int .i64 x17.fCode,.slice A19 x17.fQuestions.length c20,.slice A22 x17.fAnswers.length c23,.slice A25 x17.fAuthorities.length c26,.slice A28 x17.fExtras.length c29] 26 (0,0))::(100010,g16,.cells #[.int .u16 x1.fID,.bool x1.fResponse,.bool x1.fAuthoritative,.bool x1.fTruncated,.bool x1.fDesired,.bool x1.fAvailable,.int .i64 x1.fOpcode,.int .i64 x1.fCode,.slice A3 x1.fQuestions.length c4,.slice A6 x1.fAnswers.length c7,.slice A9 x1.fAuthorities.length c10,.slice A12 x1.fExtras.length c13] 26 (0,0))::H,R,φ70⟩ (fun _ h=>h) ?_
 refine g_if rfl rfl rfl rfl rfl (fun h73=>?_) (fun h73=>?_)
 ·
  replace hm:=ite_t hm (of_decide_eq_true h73)
  refine g_v rfl (r_field (n:=9) Try.underlying26 rfl Try.sizeOf24 rfl rfl)<|g_do rfl rfl rfl rfl rfl h73<|g_v rfl (r_load (tag:=100010) rfl rfl rfl Try.isAgg24)<|g_do rfl rfl rfl rfl rfl h73<|g_v rfl (r_lenL Try.underlying24 rfl)<|g_do rfl rfl rfl rfl rfl h73<|g_v rfl (r_eql rfl rfl)<|g_v rfl (r_pick1 rfl h73)<|g_v rfl r_move ?_
  refine g_if rfl rfl rfl rfl rfl (fun h74=>?_) (fun h74=>?_)
  ·
   replace hm:=ite_t hm (of_decide_eq_true h74)
   refine g_v rfl (r_field (n:=2) Try.underlying26 rfl Try.sizeOf4 rfl rfl)<|g_do rfl rfl rfl rfl rfl h74<|g_v rfl (r_load (tag:=100010) rfl rfl rfl Try.isAgg4)<|g_v rfl (r_pick1 rfl h74)<|g_v rfl r_move ?_
   refine g_if rfl rfl rfl rfl rfl (fun h75=>?_) (fun h75=>?_)
   ·
    replace hm:=ite_t hm h75
    refine g_v rfl (r_field (n:=0) Try.underlying26 rfl Try.sizeOf22 rfl rfl)<|g_do rfl rfl rfl rfl rfl h75<|g_v rfl (r_load (tag:=100010) rfl rfl rfl Try.isAgg22)<|g_do rfl rfl rfl rfl rfl h75<|g_v rfl (r_eql rfl rfl)<|g_v rfl (r_pick1 rfl h75)<|g_v rfl r_move ?_
    refine g_if rfl rfl rfl rfl rfl (fun h76=>?_) (fun h76=>?_)
    ·
     replace hm:=ite_t hm (of_decide_eq_true h76)
     refine g_v rfl (r_field (n:=10) Try.underlying26 rfl Try.sizeOf24 rfl rfl)<|g_do rfl rfl rfl rfl rfl h76<|g_v rfl (r_load (tag:=100020) rfl rfl rfl Try.isAgg24)<|g_do rfl rfl rfl rfl rfl h76<|g_v rfl (r_lenL Try.underlying24 rfl)<|g_do rfl rfl rfl rfl rfl h76<|g_v rfl (r_eql rfl rfl)<|g_v rfl (r_pick1 rfl h76)<|g_v rfl r_move ?_
     refine g_if rfl rfl rfl rfl rfl (fun h77=>?_) (fun h77=>?_)
     ·
      replace hm:=ite_t hm (of_decide_eq_true h77)
      refine g_v rfl (r_field (n:=11) Try.underlying26 rfl Try.sizeOf24 rfl rfl)<|g_do rfl rfl rfl rfl rfl h77<|g_v rfl (r_load (tag:=100020) rfl rfl rfl Try.isAgg24)<|g_do rfl rfl rfl rfl rfl h77<|g_v rfl (r_lenL Try.underlying24 rfl)<|g_do rfl rfl rfl rfl rfl h77<|g_v rfl (r_eql rfl rfl)<|g_v rfl (r_pick1 rfl h77)<|g_v rfl r_move ?_
      refine g_if rfl rfl rfl rfl rfl (fun h78=>?_) (fun h78=>?_)
      ·
       replace hm:=ite_t hm (of_decide_eq_true h78)
       refine g_v rfl (r_field (n:=2) Try.underlying26 rfl Try.sizeOf4 rfl rfl)<|g_do rfl rfl rfl rfl rfl h78<|g_v rfl (r_load (tag:=100020) rfl rfl rfl Try.isAgg4)<|g_do rfl rfl rfl rfl rfl h78<|g_v rfl (r_not rfl)<|g_v rfl (r_pick1 rfl h78)<|g_v rfl r_move ?_
       refine g_if rfl rfl rfl rfl rfl (fun h79=>?_) (fun h79=>?_)
       ·
        have h79' : x17.fAuthoritative = false:=by revert h79; cases x17.fAuthoritative <;> simp
        replace hm:=ite_f hm (bool_nt h79')
        refine g_v rfl (r_field (n:=10) Try.underlying26 rfl Try.sizeOf24 rfl rfl)<|g_do rfl rfl rfl rfl rfl h79<|g_v rfl (r_load (tag:=100030) rfl rfl rfl Try.isAgg24)<|g_do rfl rfl rfl rfl rfl h79<|g_v rfl (r_lenL Try.underlying24 rfl)<|g_do rfl rfl rfl rfl rfl h79<|g_v rfl (r_eql rfl rfl)<|g_v rfl (r_pick1 rfl h79)<|g_v rfl r_move ?_
        refine g_if rfl rfl rfl rfl rfl (fun h80=>?_) (fun h80=>?_)
        ·
         replace hm:=ite_t hm (of_decide_eq_true h80)
         refine g_v rfl (r_field (n:=7) Try.underlying26 rfl Try.sizeOf3 rfl rfl)<|g_do rfl rfl rfl rfl rfl h80<|g_v rfl (r_load (tag:=100030) rfl rfl rfl Try.isAgg3)<|g_do rfl rfl rfl rfl rfl h80<|g_v rfl (r_eql rfl rfl)<|g_v rfl (r_pick1 rfl h80)<|g_v rfl r_move ?_
         refine g_if rfl rfl rfl rfl rfl (fun h81=>?_) (fun h81=>?_)
         ·
          replace hm:=ite_t hm (of_decide_eq_true h81)
          refine g_v rfl (r_field (n:=10) Try.underlying26 rfl Try.sizeOf24 rfl rfl)<|g_do rfl rfl rfl rfl rfl h81<|g_v rfl (r_load (tag:=100040) rfl rfl rfl Try.isAgg24)<|g_do rfl rfl rfl rfl rfl h81<|g_v rfl (r_lenL Try.underlying24 rfl)<|g_do rfl rfl rfl rfl rfl h81<|g_v rfl (r_eql rfl rfl)<|g_v rfl (r_pick1 rfl h81)<|g_v rfl r_move ?_
          refine g_if rfl rfl rfl rfl rfl (fun h82=>?_) (fun h82=>?_)
          ·
           replace hm:=ite_t hm (of_decide_eq_true h82)
           refine g_v rfl (r_field (n:=7) Try.underlying26 rfl Try.sizeOf3 rfl rfl)<|g_do rfl rfl rfl rfl rfl h82<|g_v rfl (r_load (tag:=100040) rfl rfl rfl Try.isAgg3)<|g_do rfl rfl rfl rfl rfl h82<|g_v rfl (r_eql rfl rfl)<|g_v rfl (r_pick1 rfl h82)<|g_v rfl r_assign<|g_nil<|d_then ?_
           refine c_flat [(0,.bool (decide (x49.fCode = 3)))] ⟨rfl,trivial⟩ (fun u=>?_)
           refine c_ret ?_
           cases hm
           exact d_retC () Try.results7 (res_tmp (res_nil rfl)) trivial (fun W h=>ok_pre (H1:=[_,_,_,_]) (R1:=[]) h (fun W hφ=>(q15 _ (q31 _ (q47 _ (q63 _ (q70 _ hφ))))))) (.inr rfl)
          replace hm:=ite_f hm (of_decide_eq_false h82)
          refine g_no rfl rfl rfl rfl rfl h82<|g_no rfl rfl rfl rfl rfl h82<|g_v rfl (r_pick0 rfl h82)<|g_v rfl r_assign<|g_nil<|d_then ?_
          refine c_flat [(0,.bool false)] ⟨rfl,trivial⟩ (fun u=>?_)
          refine c_ret ?_
          cases hm
          exact d_retC () Try.results7 (res_tmp (res_nil rfl)) trivial (fun W h=>ok_pre (H1:=[_,_,_,_]) (R1:=[]) h (fun W hφ=>(q15 _ (q31 _ (q47 _ (q63 _ (q70 _ hφ))))))) (.inr rfl)
         replace hm:=ite_f hm (of_decide_eq_false h81)
         iterate 3 refine g_no rfl rfl rfl rfl rfl h81 ?_
         refine g_v rfl (r_pick0 rfl h81)<|g_v rfl r_move ?_
         iterate 3 refine g_no rfl rfl rfl rfl rfl rfl ?_
         refine g_v rfl (r_pick0 rfl rfl)<|g_v rfl r_assign<|g_nil<|d_then ?_
         refine c_flat [(0,.bool false)] ⟨rfl,trivial⟩ (fun u=>?_)
         refine c_ret ?_
         cases hm
         exact d_retC () Try.results7 (res_tmp (res_nil rfl)) trivial (fun W h=>ok_pre (H1:=[_,_,_,_]) (R1:=[]) h (fun W hφ=>(q15 _ (q31 _ (q47 _ (q63 _ (q70 _ hφ))))))) (.inr rfl)
        replace hm:=ite_f hm (of_decide_eq_false h80)
        refine g_no rfl rfl rfl rfl rfl h80<|g_no rfl rfl rfl rfl rfl h80<|g_v rfl (r_pick0 rfl h80)<|g_v rfl r_move ?_
        iterate 4 refine g_no rfl rfl rfl rfl rfl rfl ?_
        refine g_v rfl (r_pick0 rfl rfl)<|g_v rfl r_move ?_
        iterate 3 refine g_no rfl rfl rfl rfl rfl rfl ?_
        refine g_v rfl (r_pick0 rfl rfl)<|g_v rfl r_assign<|g_nil<|d_then ?_
        refine c_flat [(0,.bool false)] ⟨rfl,trivial⟩ (fun u=>?_)
        refine c_ret ?_
        cases hm
        exact d_retC () Try.results7 (res_tmp (res_nil rfl)) trivial (fun W h=>ok_pre (H1:=[_,_,_,_]) (R1:=[]) h (fun W hφ=>(q15 _ (q31 _ (q47 _ (q63 _ (q70 _ hφ))))))) (.inr rfl)
       have h79' : x17.fAuthoritative = true:=by revert h79; cases x17.fAuthoritative <;> simp
       replace hm:=ite_t hm h79'
       iterate 3 refine g_no rfl rfl rfl rfl rfl h79 ?_
       refine g_v rfl (r_pick0 rfl h79)<|g_v rfl r_move ?_
       iterate 3 refine g_no rfl rfl rfl rfl rfl rfl ?_
       refine g_v rfl (r_pick0 rfl rfl)<|g_v rfl r_move ?_
       iterate 4 refine g_no rfl rfl rfl rfl rfl rfl ?_
       refine g_v rfl (r_pick0 rfl rfl)<|g_v rfl r_move ?_
       iterate 3 refine g_no rfl rfl rfl rfl rfl rfl ?_
       refine g_v rfl (r_pick0 rfl rfl)<|g_v rfl r_assign<|g_nil<|d_then ?_
       refine c_flat [(0,.bool false)] ⟨rfl,trivial⟩ (fun u=>?_)
       refine c_ret ?_
       cases hm
       exact d_retC () Try.results7 (res_tmp (res_nil rfl)) trivial (fun W h=>ok_pre (H1:=[_,_,_,_]) (R1:=[]) h (fun W hφ=>(q15 _ (q31 _ (q47 _ (q63 _ (q70 _ hφ))))))) (.inr rfl)
      replace hm:=ite_f hm (of_decide_eq_false h78)
      refine g_no rfl rfl rfl rfl rfl h78<|g_no rfl rfl rfl rfl rfl h78<|g_v rfl (r_pick0 rfl h78)<|g_v rfl r_move ?_
      iterate 4 refine g_no rfl rfl rfl rfl rfl rfl ?_
      refine g_v rfl (r_pick0 rfl rfl)<|g_v rfl r_move ?_
      iterate 3 refine g_no rfl rfl rfl rfl rfl rfl ?_
      refine g_v rfl (r_pick0 rfl rfl)<|g_v rfl r_move ?_
      iterate 4 refine g_no rfl rfl rfl rfl rfl rfl ?_
      refine g_v rfl (r_pick0 rfl rfl)<|g_v rfl r_move ?_
      iterate 3 refine g_no rfl rfl rfl rfl rfl rfl ?_
      refine g_v rfl (r_pick0 rfl rfl)<|g_v rfl r_assign<|g_nil<|d_then ?_
      refine c_flat [(0,.bool false)] ⟨rfl,trivial⟩ (fun u=>?_)
      refine c_ret ?_
      cases hm
      exact d_retC () Try.results7 (res_tmp (res_nil rfl)) trivial (fun W h=>ok_pre (H1:=[_,_,_,_]) (R1:=[]) h (fun W hφ=>(q15 _ (q31 _ (q47 _ (q63 _ (q70 _ hφ))))))) (.inr rfl)
     replace hm:=ite_f hm (of_decide_eq_false h77)
     iterate 3 refine g_no rfl rfl rfl rfl rfl h77 ?_
     refine g_v rfl (r_pick0 rfl h77)<|g_v rfl r_move ?_
     iterate 3 refine g_no rfl rfl rfl rfl rfl rfl ?_
     refine g_v rfl (r_pick0 rfl rfl)<|g_v rfl r_move ?_
     iterate 4 refine g_no rfl rfl rfl rfl rfl rfl ?_
     refine g_v rfl (r_pick0 rfl rfl)<|g_v rfl r_move ?_
     iterate 3 refine g_no rfl rfl rfl rfl rfl rfl ?_
     refine g_v rfl (r_pick0 rfl rfl)<|g_v rfl r_move ?_
     iterate 4 refine g_no rfl rfl rfl rfl rfl rfl ?_
     refine g_v rfl (r_pick0 rfl rfl)<|g_v rfl r_move ?_
     iterate 3 refine g_no rfl rfl rfl rfl rfl rfl ?_
     refine g_v rfl (r_pick0 rfl rfl)<|g_v rfl r_assign<|g_nil<|d_then ?_
     refine c_flat [(0,.bool false)] ⟨rfl,trivial⟩ (fun u=>?_)
     refine c_ret ?_
     cases hm
     exact d_retC () Try.results7 (res_tmp (res_nil rfl)) trivial (fun W h=>ok_pre (H1:=[_,_,_,_]) (R1:=[]) h (fun W hφ=>(q15 _ (q31 _ (q47 _ (q63 _ (q70 _ hφ))))))) (.inr rfl)
    replace hm:=ite_f hm (of_decide_eq_false h76)
    iterate 3 refine g_no rfl rfl rfl rfl rfl h76 ?_
    refine g_v rfl (r_pick0 rfl h76)<|g_v rfl r_move ?_
    iterate 4 refine g_no rfl rfl rfl rfl rfl rfl ?_
    refine g_v rfl (r_pick0 rfl rfl)<|g_v rfl r_move ?_
    iterate 3 refine g_no rfl rfl rfl rfl rfl rfl ?_
    refine g_v rfl (r_pick0 rfl rfl)<|g_v rfl r_move ?_
    iterate 4 refine g_no rfl rfl rfl rfl rfl rfl ?_
    refine g_v rfl (r_pick0 rfl rfl)<|g_v rfl r_move ?_
    iterate 3 refine g_no rfl rfl rfl rfl rfl rfl ?_
    refine g_v rfl (r_pick0 rfl rfl)<|g_v rfl r_move ?_
    iterate 4 refine g_no rfl rfl rfl rfl rfl rfl ?_
    refine g_v rfl (r_pick0 rfl rfl)<|g_v rfl r_move ?_
    iterate 3 refine g_no rfl rfl rfl rfl rfl rfl ?_
    refine g_v rfl (r_pick0 rfl rfl)<|g_v rfl r_assign<|g_nil<|d_then ?_
    refine c_flat [(0,.bool false)] ⟨rfl,trivial⟩ (fun u=>?_)
    refine c_ret ?_
    cases hm
    exact d_retC () Try.results7 (res_tmp (res_nil rfl)) trivial (fun W h=>ok_pre (H1:=[_,_,_,_]) (R1:=[]) h (fun W hφ=>(q15 _ (q31 _ (q47 _ (q63 _ (q70 _ hφ))))))) (.inr rfl)
   replace hm:=ite_f hm (bool_nt h75)
   refine g_no rfl rfl rfl rfl rfl h75<|g_no rfl rfl rfl rfl rfl h75<|g_v rfl (r_pick0 rfl h75)<|g_v rfl r_move ?_
   iterate 4 refine g_no rfl rfl rfl rfl rfl rfl ?_
   refine g_v rfl (r_pick0 rfl rfl)<|g_v rfl r_move ?_
   iterate 4 refine g_no rfl rfl rfl rfl rfl rfl ?_
   refine g_v rfl (r_pick0 rfl rfl)<|g_v rfl r_move ?_
   iterate 3 refine g_no rfl rfl rfl rfl rfl rfl ?_
   refine g_v rfl (r_pick0 rfl rfl)<|g_v rfl r_move ?_
   iterate 4 refine g_no rfl rfl rfl rfl rfl rfl ?_
   refine g_v rfl (r_pick0 rfl rfl)<|g_v rfl r_move ?_
   iterate 3 refine g_no rfl rfl rfl rfl rfl rfl ?_
   refine g_v rfl (r_pick0 rfl rfl)<|g_v rfl r_move ?_
   iterate 4 refine g_no rfl rfl rfl rfl rfl rfl ?_
   refine g_v rfl (r_pick0 rfl rfl)<|g_v rfl r_move ?_
   iterate 3 refine g_no rfl rfl rfl rfl rfl rfl ?_
   refine g_v rfl (r_pick0 rfl rfl)<|g_v rfl r_assign<|g_nil<|d_then ?_
   refine c_flat [(0,.bool false)] ⟨rfl,trivial⟩ (fun u=>?_)
   refine c_ret ?_
   cases hm
   exact d_retC () Try.results7 (res_tmp (res_nil rfl)) trivial (fun W h=>ok_pre (H1:=[_,_,_,_]) (R1:=[]) h (fun W hφ=>(q15 _ (q31 _ (q47 _ (q63 _ (q70 _ hφ))))))) (.inr rfl)
  replace hm:=ite_f hm (of_decide_eq_false h74)
  refine g_no rfl rfl rfl rfl rfl h74<|g_v rfl (r_pick0 rfl h74)<|g_v rfl r_move ?_
  iterate 3 refine g_no rfl rfl rfl rfl rfl rfl ?_
  refine g_v rfl (r_pick0 rfl rfl)<|g_v rfl r_move ?_
  iterate 4 refine g_no rfl rfl rfl rfl rfl rfl ?_
  refine g_v rfl (r_pick0 rfl rfl)<|g_v rfl r_move ?_
  iterate 4 refine g_no rfl rfl rfl rfl rfl rfl ?_
  refine g_v rfl (r_pick0 rfl rfl)<|g_v rfl r_move ?_
  iterate 3 refine g_no rfl rfl rfl rfl rfl rfl ?_
  refine g_v rfl (r_pick0 rfl rfl)<|g_v rfl r_move ?_
  iterate 4 refine g_no rfl rfl rfl rfl rfl rfl ?_
  refine g_v rfl (r_pick0 rfl rfl)<|g_v rfl r_move ?_
  iterate 3 refine g_no rfl rfl rfl rfl rfl rfl ?_
  refine g_v rfl (r_pick0 rfl rfl)<|g_v rfl r_move ?_
  iterate 4 refine g_no rfl rfl rfl rfl rfl rfl ?_
  refine g_v rfl (r_pick0 rfl rfl)<|g_v rfl r_move ?_
  iterate 3 refine g_no rfl rfl rfl rfl rfl rfl ?_
  refine g_v rfl (r_pick0 rfl rfl)<|g_v rfl r_assign<|g_nil<|d_then ?_
  refine c_flat [(0,.bool false)] ⟨rfl,trivial⟩ (fun u=>?_)
  refine c_ret ?_
  cases hm
  exact d_retC () Try.results7 (res_tmp (res_nil rfl)) trivial (fun W h=>ok_pre (H1:=[_,_,_,_]) (R1:=[]) h (fun W hφ=>(q15 _ (q31 _ (q47 _ (q63 _ (q70 _ hφ))))))) (.inr rfl)
 replace hm:=ite_f hm (of_decide_eq_false h73)
 iterate 3 refine g_no rfl rfl rfl rfl rfl h73 ?_
 refine g_v rfl (r_pick0 rfl h73)<|g_v rfl r_move<|g_no rfl rfl rfl rfl rfl rfl<|g_no rfl rfl rfl rfl rfl rfl<|g_v rfl (r_pick0 rfl rfl)<|g_v rfl r_move ?_
 iterate 3 refine g_no rfl rfl rfl rfl rfl rfl ?_
 refine g_v rfl (r_pick0 rfl rfl)<|g_v rfl r_move ?_
 iterate 4 refine g_no rfl rfl rfl rfl rfl rfl ?_
 refine g_v rfl (r_pick0 rfl rfl)<|g_v rfl r_move ?_
 iterate 4 refine g_no rfl rfl rfl rfl rfl rfl ?_
 refine g_v rfl (r_pick0 rfl rfl)<|g_v rfl r_move ?_
 iterate 3 refine g_no rfl rfl rfl rfl rfl rfl ?_
 refine g_v rfl (r_pick0 rfl rfl)<|g_v rfl r_move ?_
 iterate 4 refine g_no rfl rfl rfl rfl rfl rfl ?_
 refine g_v rfl (r_pick0 rfl rfl)<|g_v rfl r_move ?_
 iterate 3 refine g_no rfl rfl rfl rfl rfl rfl ?_
 refine g_v rfl (r_pick0 rfl rfl)<|g_v rfl r_move ?_
 iterate 4 refine g_no rfl rfl rfl rfl rfl rfl ?_
 refine g_v rfl (r_pick0 rfl rfl)<|g_v rfl r_move ?_
 iterate 3 refine g_no rfl rfl rfl rfl rfl rfl ?_
 refine g_v rfl (r_pick0 rfl rfl)<|g_v rfl r_assign<|g_nil<|d_then ?_
 refine c_flat [(0,.bool false)] ⟨rfl,trivial⟩ (fun u=>?_)
 refine c_ret ?_
 cases hm
 exact d_retC () Try.results7 (res_tmp (res_nil rfl)) trivial (fun W h=>ok_pre (H1:=[_,_,_,_]) (R1:=[]) h (fun W hφ=>(q15 _ (q31 _ (q47 _ (q63 _ (q70 _ hφ))))))) (.inr rfl)
noncomputable def m_law18_short (p0 : ByteArray) (p1 : Int) : Option ByteArray:=
  if p1 < (p0.size : Int) then
    (scutHi p0 p1).bind fun s2=>
    some s2
  else
    some p0
theorem c_law18_short {w0 : World} {M : Nat→Prop} {H : List (Nat×Nat×Obj)} {R : List (Nat×Row)} {φ : World→Prop} (p0 : ByteArray) (p1 : Int) (r : ByteArray) (hm : m_law18_short p0 p1 = some r) :
    Cn Try.prog 8 #[.string p0,.int .i64 p1] ⟨w0,M,H,R,φ⟩ (fun x : Unit=>.string r) (fun x=>True) (fun x=>⟨w0,M,H,R,φ⟩):=by
 unfold m_law18_short at hm
 refine cn_intro (fn:=Try.f8) (N:=13) Try.func8 rfl Try.ntmps8 rfl<|c_seq<|c_region<|g_v rfl r_assign<|g_nil<|d_then<|c_seq<|c_seq<|c_region<|g_v rfl r_move ?_
 refine g_v rfl (r_len Try.underlying9 rfl)<|g_v rfl r_move<|g_v rfl (r_gtr rfl rfl)<|g_nil<|d_then ?_
 refine c_cond rfl (fun h1=>?_) (fun h1=>?_)
 ·
  replace hm:=ite_t hm (of_decide_eq_true h1)
  refine c_seq<|c_region<|g_v rfl r_move<|g_v rfl r_move ?_
  replace hm:=bnd hm
  obtain ⟨s2,hs2,hm⟩:=hm
  refine g_v rfl (r_scutHi Try.underlying9 rfl rfl hs2)<|g_v rfl r_assign<|g_nil<|d_then ?_
  refine c_flat [(4,.string s2)] ⟨rfl,trivial⟩ (fun u=>?_)
  refine c_sta ⟨w0,M,H,R,φ⟩ (fun _ h=>h)<|c_ret<|d_ret_then ?_
  cases hm
  exact d_retC () Try.results8 (res_tmp (res_nil rfl)) trivial (fun W h=>ok_pre (H1:=[]) (R1:=[]) h (fun W hφ=>hφ)) (.inr rfl)
 replace hm:=ite_f hm (of_decide_eq_false h1)
 refine c_skip<|d_then<|c_seq<|c_region<|g_v rfl r_move<|g_v rfl r_assign<|g_nil<|d_then<|c_ret ?_
 cases hm
 exact d_retC () Try.results8 (res_tmp (res_nil rfl)) trivial (fun W h=>ok_pre (H1:=[]) (R1:=[]) h (fun W hφ=>hφ)) (.inr rfl)
theorem bld33_21 (z0 : ByteArray) : ∀ W,(Instr.build 33 #[(0,.string z0)]).run Try.prog W = .ok (.agg #[.string z0,.slice none 0 0]) W:=fun _=>by kernel_rfl
theorem inf33_22  : (Try.prog.info? 33).map (fun i=>(i.zero,i.size,i.bytes)) = some (some (.agg #[.string (⟨#[]⟩ : ByteArray),.slice none 0 0]),2,40):=by kernel_rfl
noncomputable def m_law18_small_j1  (l1171 : List GZone) : Option (List GZone):=
  some l1171
noncomputable def m_law18_small_j3 (l1409 : List GZone) (x1662 : ByteArray) (i1414 : Int) (l1864 : List GRR) : Option (((List GZone)×Int) ⊕ (List GZone)):=
  (app 40 l1409 [(⟨x1662,l1864⟩ : GZone)]).bind fun l1872=>
  some (.inl (l1872,w64 (i1414 + 1)))
noncomputable def m_law18_small_s4 (p0 : List GZone) (i1414 : Int) (l1916 : List GRR) (i1919 : Int) : Option (((List GRR)×Int) ⊕ (List GRR)):=
  (at_ p0 i1414).bind fun x1960=>
  if i1919 < (x1960.fRecords.length : Int) then
    if i1919 < 40 then
      (at_ p0 i1414).bind fun x1972=>
      (at_ x1972.fRecords i1919).bind fun x1982=>
      (m_law18_short x1982.fName 300).bind fun x1987=>
      (m_law18_short x1982.fData 300).bind fun x1989=>
      (app 40 l1916 [(⟨x1987,x1982.fType,x1982.fClass,x1982.fTTL,x1989⟩ : GRR)]).bind fun l1992=>
      some (.inl (l1992,w64 (i1919 + 1)))
    else
      some (.inr l1916)
  else
    some (.inr l1916)
noncomputable def m_law18_small_s2 (p0 : List GZone) (l1409 : List GZone) (i1414 : Int) : Option (((List GZone)×Int) ⊕ (List GZone)):=
  if i1414 < (p0.length : Int) then
    if i1414 < 6 then
      (at_ p0 i1414).bind fun x1652=>
      (m_law18_short x1652.fApex 300).bind fun x1662=>
      (loop (fun s=>m_law18_small_s4 p0 i1414 s.1 s.2) (([] : List GRR),0)).bind fun e=>m_law18_small_j3 l1409 x1662 i1414 e
    else
      some (.inr l1409)
  else
    some (.inr l1409)
noncomputable def m_law18_small (p0 : List GZone) : Option (List GZone):=
  (loop (fun s=>m_law18_small_s2 p0 s.1 s.2) (([] : List GZone),0)).bind fun e=>m_law18_small_j1 e
theorem c_law18_small {w0 : World} {M : Nat→Prop} {H : List (Nat×Nat×Obj)} {R : List (Nat×Row)} {φ : World→Prop} (p0 : List GZone) (Ap0_0 : Option Addr) (cp0_0 : Nat) (psp0_0 : List GZoneP) (hcp0_0 : (DOk GZone.capP p0 psp0_0∧p0.length ≤ cp0_0)) (fp0_0 : ∀ W,(Sta.mk w0 M H R φ).ok W→Cl W Ap0_0 ((p0.zip psp0_0).flatMap GZone.encP)) (fop0_0 : ∀ W,(Sta.mk w0 M H R φ).ok W→DOwn GZone.ownP p0 psp0_0 W) (r : (List GZone)) (hm : m_law18_small p0 = some r) :
    Cn Try.prog 11 #[.slice Ap0_0 p0.length cp0_0] ⟨w0,M,H,R,φ⟩ (fun x : Option Addr×Nat×List GZoneP=>.slice x.1 r.length x.2.1) (fun x=>(DOk GZone.capP r x.2.2∧r.length ≤ x.2.1)) (fun x=>⟨w0,M,H,(2000,⟨.slice x.1 r.length x.2.1,33,2,r.length,(r.zip x.2.2).flatMap GZone.encP⟩)::R,fun W=>φ W∧DOwn GZone.ownP r x.2.2 W⟩):=by
 unfold m_law18_small at hm
 refine cn_intro (fn:=Try.f11) (N:=66) Try.func11 rfl Try.ntmps11 rfl<|c_seq<|c_region<|g_v rfl r_assign<|g_nil<|d_then<|c_seq<|c_region<|g_v rfl r_assign<|g_nil ?_
 refine d_then<|c_seq<|c_sta _ (fun W h=>nilR h 22 33 2) ?_
 refine c_cut (ι:=(List GZone)×Option Addr×Nat×List GZoneP) [3] (fun ⟨l1171,A1172,c1173,ps1174⟩=>[(3,.slice A1172 l1171.length c1173)]) (fun ⟨l1171,A1172,c1173,ps1174⟩=>⟨w0,M,H,(22,⟨.slice A1172 l1171.length c1173,33,2,l1171.length,(l1171.zip ps1174).flatMap GZone.encP⟩)::R,fun W=>φ W∧DOwn GZone.ownP l1171 ps1174 W⟩) (fun ⟨l1171,A1172,c1173,ps1174⟩=>m_law18_small_j1 l1171 = some r∧(DOk GZone.capP l1171 ps1174∧l1171.length ≤ c1173)) ?_ (fun ⟨l1171,A1172,c1173,ps1174⟩ u ⟨hm,hc1173⟩=>?_)
 ·
  refine c_seq<|c_region<|g_v rfl r_assign<|g_nil<|d_then<|c_block ?_
  replace hm:=bnd hm
  obtain ⟨out2,hl2,hr2⟩:=hm
  obtain ⟨n1648',hl2⟩:=loop_lp hl2
  refine c_loopU (ι:=Nat×(List GZone)×Int×Option Addr×Nat×List GZoneP) [0,3,4] (fun ⟨n1648,l1409,i1414,A1410,c1411,ps1412⟩=>[(3,.slice A1410 l1409.length c1411),(4,.int .i64 i1414)]) (fun ⟨n1648,l1409,i1414,A1410,c1411,ps1412⟩=>⟨w0,M,H,(22,⟨.slice A1410 l1409.length c1411,33,2,l1409.length,(l1409.zip ps1412).flatMap GZone.encP⟩)::R,fun W=>φ W∧DOwn GZone.ownP l1409 ps1412 W⟩) (fun ⟨n1648,l1409,i1414,A1410,c1411,ps1412⟩=>Lp (fun s=>m_law18_small_s2 p0 s.1 s.2) n1648 (l1409,i1414) out2∧(DOk GZone.capP l1409 ps1412∧l1409.length ≤ c1411)) (fun ⟨n1648,l1409,i1414,A1410,c1411,ps1412⟩=>n1648) (n1648',([] : List GZone),0,none,0,([] : List GZoneP)) ⟨hl2,⟨DOk.nil,(Nat.le_refl 0)⟩⟩ ⟨rfl,rfl,rfl,trivial⟩ (fun W h=>h.phi (fun W hφ=>⟨hφ,(fun W h=>DOwn.nil) W hφ⟩)) (fun ⟨n1648,l1409,i1414,A1410,c1411,ps1412⟩ u ⟨hlp,hc1411⟩=>?_)
  obtain ⟨o2,hm,hnx2⟩:=lp_step hlp
  clear hlp
  replace hm : m_law18_small_s2 p0 l1409 i1414 = some o2:=hm
  unfold m_law18_small_s2 at hm
  refine c_abs (fun φ1649 q1649'=>?_)
  have q1649 : ∀ W,φ1649 W→φ W:=fun W h=>(q1649' W h).1
  have f1413:=fun (W : World) (h : φ1649 W)=>(q1649' W h).2
  refine c_flat [(0,.slice Ap0_0 p0.length cp0_0),(3,.slice A1410 l1409.length c1411),(4,.int .i64 i1414)] ⟨rfl,rfl,rfl,trivial⟩ (fun u=>?_)
  refine c_sta ⟨w0,M,H,(22,⟨.slice A1410 l1409.length c1411,33,2,l1409.length,(l1409.zip ps1412).flatMap GZone.encP⟩)::R,φ1649⟩ (fun _ h=>h)<|c_seq<|c_seq<|c_region<|g_v rfl r_move<|g_v rfl r_move<|g_v rfl (r_lenL Try.underlying35 rfl)<|g_v rfl (r_lss rfl rfl)<|g_v rfl r_move ?_
  refine g_if rfl rfl rfl rfl rfl (fun h1650=>?_) (fun h1650=>?_)
  ·
   replace hm:=ite_t hm (of_decide_eq_true h1650)
   refine g_v rfl r_move<|g_do rfl rfl rfl rfl rfl h1650<|g_v rfl (r_lss rfl rfl)<|g_v rfl (r_pick1 rfl h1650)<|g_nil<|d_then ?_
   refine c_cond rfl (fun h1651=>?_) (fun h1651=>?_)
   ·
    replace hm:=ite_t hm (of_decide_eq_true h1651)
    refine c_skip<|d_then<|c_seq<|c_block<|c_seq<|c_region<|g_v rfl r_move<|g_v rfl r_move ?_
    replace hm:=bnd hm
    obtain ⟨x1652,hx1652,hm⟩:=hm
    obtain ⟨pp1656,hv1657,hz1658,hcp1659⟩:=DOk.at_ hcp0_0.1 hx1652
    refine g_know _ (fun W hS=>cl_at (p:=(Sta.mk w0 M H R φ).ok) (sz:=2) (fun _=>rfl) (by decide) (ok_pre (H1:=[]) (R1:=[_]) hS (fun W h=>(q1649 _ h))) fp0_0 hv1657) ?_
    rintro ⟨ad1653,hA1655,f1654⟩
    have f1660:=fun (W : World) (h : (Sta.mk w0 M H R φ).ok W)=>(fop0_0 W h _ hz1658)
    refine g_v rfl (r_ix Try.underlying35 Try.sizeOf33 rfl hA1655 rfl hx1652) ?_
    have f1661:=fun (W : World) (h : (Sta.mk w0 M H R φ).ok W)=>Cl.drop (f1654 W h) 0
    refine g_v rfl (r_fieldF Try.underlying33 rfl Try.sizeOf9 rfl)<|g_v rfl (r_ld rfl Try.isAgg9 (fun W hS=>Cl.head (f1661 W (ok_pre (H1:=[]) (R1:=[_]) hS (fun W h=>(q1649 _ h)))))) ?_
    replace hm:=bnd hm
    obtain ⟨x1662,hx1663,hm⟩:=hm
    refine g_cn ⟨w0,M,_,_,φ1649⟩ (fun _ h=>h) Try.call8 rfl rfl (c_law18_short x1652.fApex 300 _ hx1663) (fun _ _=>?_)
    refine g_v rfl (r_build _ rfl (bld33_21 _)) ?_
    refine g_e rfl (e_alloc 100050 Try.zeroValue33) (fun g1664 _=>?_)
    refine g_storeL (tag:=100050) rfl rfl rfl rfl Try.sizeOf33 rfl rfl<|g_nil<|d_then ?_
    refine c_flat [(0,.slice Ap0_0 p0.length cp0_0),(3,.slice A1410 l1409.length c1411),(4,.int .i64 i1414),(5,.pointer (some ⟨g1664,0,none⟩))] ⟨rfl,rfl,rfl,rfl,trivial⟩ (fun u=>?_)
    refine c_sta ⟨w0,M,(100050,g1664,.cells #[.string x1662,.slice none 0 0] 33 (0,0))::H,(22,⟨.slice A1410 l1409.length c1411,33,2,l1409.length,(l1409.zip ps1412).flatMap GZone.encP⟩)::R,φ1649⟩ (fun _ h=>h)<|c_seq<|c_sta _ (fun W h=>nilR h 37 42 5) ?_
    refine c_cut (ι:=(List GRR)×Option Addr×Nat) [0,3,4,5] (fun ⟨l1864,A1865,c1866⟩=>[]) (fun ⟨l1864,A1865,c1866⟩=>⟨w0,M,(100050,g1664,.cells #[.string x1662,.slice A1865 l1864.length c1866] 33 (0,0))::H,(37,⟨.slice A1865 l1864.length c1866,42,5,l1864.length,l1864.flatMap GRR.enc⟩)::(22,⟨.slice A1410 l1409.length c1411,33,2,l1409.length,(l1409.zip ps1412).flatMap GZone.encP⟩)::R,φ1649⟩) (fun ⟨l1864,A1865,c1866⟩=>m_law18_small_j3 l1409 x1662 i1414 l1864 = some o2∧l1864.length ≤ c1866) ?_ (fun ⟨l1864,A1865,c1866⟩ u ⟨hm,hc1866⟩=>?_)
    ·
     refine c_seq<|c_region<|g_v rfl r_assign<|g_nil<|d_then<|c_block ?_
     replace hm:=bnd hm
     obtain ⟨out4,hl4,hr4⟩:=hm
     obtain ⟨n1959',hl4⟩:=loop_lp hl4
     refine c_loopU (ι:=Nat×(List GRR)×Int×Option Addr×Nat) [0,3,4,5,6] (fun ⟨n1959,l1916,i1919,A1917,c1918⟩=>[(6,.int .i64 i1919)]) (fun ⟨n1959,l1916,i1919,A1917,c1918⟩=>⟨w0,M,(100050,g1664,.cells #[.string x1662,.slice A1917 l1916.length c1918] 33 (0,0))::H,(37,⟨.slice A1917 l1916.length c1918,42,5,l1916.length,l1916.flatMap GRR.enc⟩)::(22,⟨.slice A1410 l1409.length c1411,33,2,l1409.length,(l1409.zip ps1412).flatMap GZone.encP⟩)::R,φ1649⟩) (fun ⟨n1959,l1916,i1919,A1917,c1918⟩=>Lp (fun s=>m_law18_small_s4 p0 i1414 s.1 s.2) n1959 (l1916,i1919) out4∧l1916.length ≤ c1918) (fun ⟨n1959,l1916,i1919,A1917,c1918⟩=>n1959) (n1959',([] : List GRR),0,none,0) ⟨hl4,(Nat.le_refl 0)⟩ ⟨rfl,rfl,rfl,rfl,rfl,trivial⟩ (fun W h=>h.phi (fun W hφ=>hφ)) (fun ⟨n1959,l1916,i1919,A1917,c1918⟩ u ⟨hlp,hc1918⟩=>?_)
     obtain ⟨o4,hm,hnx4⟩:=lp_step hlp
     clear hlp
     replace hm : m_law18_small_s4 p0 i1414 l1916 i1919 = some o4:=hm
     unfold m_law18_small_s4 at hm
     refine c_flat [(0,.slice Ap0_0 p0.length cp0_0),(3,.slice A1410 l1409.length c1411),(4,.int .i64 i1414),(5,.pointer (some ⟨g1664,0,none⟩)),(6,.int .i64 i1919)] ⟨rfl,rfl,rfl,rfl,rfl,trivial⟩ (fun u=>?_)
     refine c_sta ⟨w0,M,(100050,g1664,.cells #[.string x1662,.slice A1917 l1916.length c1918] 33 (0,0))::H,(37,⟨.slice A1917 l1916.length c1918,42,5,l1916.length,l1916.flatMap GRR.enc⟩)::(22,⟨.slice A1410 l1409.length c1411,33,2,l1409.length,(l1409.zip ps1412).flatMap GZone.encP⟩)::R,φ1649⟩ (fun _ h=>h)<|c_seq<|c_seq<|c_region ?_
     iterate 3 refine g_v rfl r_move ?_
     replace hm:=bnd hm
     obtain ⟨x1960,hx1960,hm⟩:=hm
     obtain ⟨pp1964,hv1965,hz1966,hcp1967⟩:=DOk.at_ hcp0_0.1 hx1960
     refine g_know _ (fun W hS=>cl_at (p:=(Sta.mk w0 M H R φ).ok) (sz:=2) (fun _=>rfl) (by decide) (ok_pre (H1:=[_]) (R1:=[_,_]) hS (fun W h=>(q1649 _ h))) fp0_0 hv1965) ?_
     rintro ⟨ad1961,hA1963,f1962⟩
     have f1968:=fun (W : World) (h : (Sta.mk w0 M H R φ).ok W)=>(fop0_0 W h _ hz1966)
     refine g_v rfl (r_ix Try.underlying35 Try.sizeOf33 rfl hA1963 rfl hx1960) ?_
     have f1969:=fun (W : World) (h : (Sta.mk w0 M H R φ).ok W)=>Cl.drop (f1962 W h) 1
     refine g_v rfl (r_fieldF Try.underlying33 rfl Try.sizeOf24 rfl)<|g_v rfl (r_ld rfl Try.isAgg24 (fun W hS=>Cl.head (f1969 W (ok_pre (H1:=[_]) (R1:=[_,_]) hS (fun W h=>(q1649 _ h))))))<|g_v rfl (r_lenL Try.underlying24 rfl)<|g_v rfl (r_lss rfl rfl)<|g_v rfl r_move ?_
     refine g_if rfl rfl rfl rfl rfl (fun h1970=>?_) (fun h1970=>?_)
     ·
      replace hm:=ite_t hm (of_decide_eq_true h1970)
      refine g_v rfl r_move<|g_do rfl rfl rfl rfl rfl h1970<|g_v rfl (r_lss rfl rfl)<|g_v rfl (r_pick1 rfl h1970)<|g_nil<|d_then ?_
      refine c_flat [(0,.slice Ap0_0 p0.length cp0_0),(3,.slice A1410 l1409.length c1411),(4,.int .i64 i1414),(5,.pointer (some ⟨g1664,0,none⟩)),(6,.int .i64 i1919),(36,.bool (decide (i1919 < 40)))] ⟨rfl,rfl,rfl,rfl,rfl,rfl,trivial⟩ (fun u=>?_)
      refine c_cond rfl (fun h1971=>?_) (fun h1971=>?_)
      ·
       replace hm:=ite_t hm (of_decide_eq_true h1971)
       refine c_skip<|d_then<|c_seq<|c_block<|c_seq<|c_region<|g_v rfl r_move<|g_v rfl r_move ?_
       replace hm:=bnd hm
       obtain ⟨x1972,hx1972,hm⟩:=hm
       obtain ⟨pp1976,hv1977,hz1978,hcp1979⟩:=DOk.at_ hcp0_0.1 hx1972
       refine g_know _ (fun W hS=>cl_at (p:=(Sta.mk w0 M H R φ).ok) (sz:=2) (fun _=>rfl) (by decide) (ok_pre (H1:=[_]) (R1:=[_,_]) hS (fun W h=>(q1649 _ h))) fp0_0 hv1977) ?_
       rintro ⟨ad1973,hA1975,f1974⟩
       have f1980:=fun (W : World) (h : (Sta.mk w0 M H R φ).ok W)=>(fop0_0 W h _ hz1978)
       refine g_v rfl (r_ix Try.underlying35 Try.sizeOf33 rfl hA1975 rfl hx1972) ?_
       have f1981:=fun (W : World) (h : (Sta.mk w0 M H R φ).ok W)=>Cl.drop (f1974 W h) 1
       refine g_v rfl (r_fieldF Try.underlying33 rfl Try.sizeOf24 rfl)<|g_v rfl (r_ld rfl Try.isAgg24 (fun W hS=>Cl.head (f1981 W (ok_pre (H1:=[_]) (R1:=[_,_]) hS (fun W h=>(q1649 _ h))))))<|g_v rfl r_move ?_
       replace hm:=bnd hm
       obtain ⟨x1982,hx1982,hm⟩:=hm
       refine g_know _ (fun W hS=>cl_at (p:=(Sta.mk w0 M H R φ).ok) (sz:=5) (fun _=>rfl) (by decide) (ok_pre (H1:=[_]) (R1:=[_,_]) hS (fun W h=>(q1649 _ h))) f1980 hx1982) ?_
       rintro ⟨ad1983,hA1985,f1984⟩
       refine g_v rfl (r_ix Try.underlying24 Try.sizeOf42 rfl hA1985 rfl hx1982)<|g_v rfl (r_ldA rfl Try.isAgg42 Try.sizeOf42 (fun W hS=>(f1984 W (ok_pre (H1:=[_]) (R1:=[_,_]) hS (fun W h=>(q1649 _ h)))).take 5) rfl) ?_
       refine g_e rfl (e_alloc 100070 Try.zeroValue42) (fun g1986 _=>?_)
       refine g_storeL (tag:=100070) rfl rfl rfl rfl Try.sizeOf42 rfl rfl<|g_nil<|d_then ?_
       refine c_flat [(0,.slice Ap0_0 p0.length cp0_0),(3,.slice A1410 l1409.length c1411),(4,.int .i64 i1414),(5,.pointer (some ⟨g1664,0,none⟩)),(6,.int .i64 i1919),(7,.pointer (some ⟨g1986,0,none⟩))] ⟨rfl,rfl,rfl,rfl,rfl,rfl,trivial⟩ (fun u=>?_)
       refine c_sta ⟨w0,M,(100070,g1986,.cells #[.string x1982.fName,.int .u16 x1982.fType,.int .u16 x1982.fClass,.int .u32 x1982.fTTL,.string x1982.fData] 42 (0,0))::(100050,g1664,.cells #[.string x1662,.slice A1917 l1916.length c1918] 33 (0,0))::H,(37,⟨.slice A1917 l1916.length c1918,42,5,l1916.length,l1916.flatMap GRR.enc⟩)::(22,⟨.slice A1410 l1409.length c1411,33,2,l1409.length,(l1409.zip ps1412).flatMap GZone.encP⟩)::R,φ1649⟩ (fun _ h=>h)<|c_seq<|c_region<|g_v rfl (r_field (n:=0) Try.underlying42 rfl Try.sizeOf9 rfl rfl)<|g_v rfl (r_load (tag:=100070) rfl rfl rfl Try.isAgg9) ?_
       replace hm:=bnd hm
       obtain ⟨x1987,hx1988,hm⟩:=hm
       refine g_cn ⟨w0,M,_,_,φ1649⟩ (fun _ h=>h) Try.call8 rfl rfl (c_law18_short x1982.fName 300 _ hx1988) (fun _ _=>?_)
       refine g_v rfl (r_field (n:=0) Try.underlying42 rfl Try.sizeOf9 rfl rfl)<|g_storeL (tag:=100070) rfl rfl rfl rfl Try.sizeOf9 rfl rfl<|g_nil<|d_then<|c_seq<|c_region<|g_v rfl (r_field (n:=4) Try.underlying42 rfl Try.sizeOf9 rfl rfl)<|g_v rfl (r_load (tag:=100070) rfl rfl rfl Try.isAgg9) ?_
       replace hm:=bnd hm
       obtain ⟨x1989,hx1990,hm⟩:=hm
       refine g_cn ⟨w0,M,_,_,φ1649⟩ (fun _ h=>h) Try.call8 rfl rfl (c_law18_short x1982.fData 300 _ hx1990) (fun _ _=>?_)
       refine g_v rfl (r_field (n:=4) Try.underlying42 rfl Try.sizeOf9 rfl rfl)<|g_storeL (tag:=100070) rfl rfl rfl rfl Try.sizeOf9 rfl rfl<|g_nil<|d_then ?_
       refine c_flat [(0,.slice Ap0_0 p0.length cp0_0),(3,.slice A1410 l1409.length c1411),(4,.int .i64 i1414),(5,.pointer (some ⟨g1664,0,none⟩)),(6,.int .i64 i1919),(7,.pointer (some ⟨g1986,0,none⟩))] ⟨rfl,rfl,rfl,rfl,rfl,rfl,trivial⟩ (fun u=>?_)
       refine c_sta ⟨w0,M,(100070,g1986,.cells #[.string x1987,.int .u16 x1982.fType,.int .u16 x1982.fClass,.int .u32 x1982.fTTL,.string x1989] 42 (0,0))::(100050,g1664,.cells #[.string x1662,.slice A1917 l1916.length c1918] 33 (0,0))::H,(37,⟨.slice A1917 l1916.length c1918,42,5,l1916.length,l1916.flatMap GRR.enc⟩)::(22,⟨.slice A1410 l1409.length c1411,33,2,l1409.length,(l1409.zip ps1412).flatMap GZone.encP⟩)::R,φ1649⟩ (fun _ h=>h)<|c_region<|g_v rfl (r_field (n:=1) Try.underlying33 rfl Try.sizeOf24 rfl rfl)<|g_v rfl (r_load (tag:=100050) rfl rfl rfl Try.isAgg24)<|g_v rfl (r_loadA (tag:=100070) rfl rfl Try.isAgg42 Try.sizeOf42 rfl rfl) ?_
       refine g_e rfl (e_lit (tag:=100580) (l:=[(⟨x1987,x1982.fType,x1982.fClass,x1982.fTTL,x1989⟩ : GRR)]) (enc:=GRR.enc) (sz:=5) rfl Try.underlying24 (lit42_16 _ _ _ _ _) rfl rfl (fun _=>rfl)) (fun g1991 _=>?_)
       replace hm:=bnd hm
       obtain ⟨l1992,hl1992,hm⟩:=hm
       refine g_e rfl (e_appR (enc:=GRR.enc) (l:=l1916) (l1:=[(⟨x1987,x1982.fType,x1982.fClass,x1982.fTTL,x1989⟩ : GRR)]) (l2:=l1992) (tag:=37) Try.underlying24 inf42_17 rfl (by decide) (by decide) (fun _=>rfl) (fun _=>rfl) rfl hc1918 rfl rfl (fun W hS=>rowCl (tag:=100580) rfl W hS) hl1992) (fun ⟨A1993,c1994⟩ hc1994=>?_)
       refine g_v rfl (r_field (n:=1) Try.underlying33 rfl Try.sizeOf24 rfl rfl)<|g_storeL (tag:=100050) rfl rfl rfl rfl Try.sizeOf24 rfl rfl<|g_nil<|d_normal_block<|d_then<|c_region<|g_v rfl r_move<|g_v rfl (r_add rfl rfl rfl)<|g_v rfl r_assign<|g_nil ?_
       obtain ⟨n1995,hn1995,hlp⟩:=nx_inl hm hnx4
       exact d_round (n1995,l1992,w64 (i1919 + 1),A1993,c1994) ⟨hlp,hc1994⟩ hn1995 ⟨rfl,rfl,rfl,rfl,rfl,trivial⟩ (fun W h=>((h.dropR (t:=100580) rfl).dropH (t:=100070) rfl).phi (fun W hφ=>hφ))
      replace hm:=ite_f hm (of_decide_eq_false h1971)
      refine c_exit<|d_exit_then<|d_exit_then<|d_exit_block ?_
      replace hm:=nx_out (C:=(fun e : (List GRR)=>m_law18_small_j3 l1409 x1662 i1414 e = some o2)) hm hnx4 hr4
      exact d_round (l1916,A1917,c1918) ⟨hm,hc1918⟩ Nat.zero_lt_one ⟨rfl,rfl,rfl,rfl,trivial⟩ (fun W h=>h.phi (fun W hφ=>hφ))
     replace hm:=ite_f hm (of_decide_eq_false h1970)
     refine g_no rfl rfl rfl rfl rfl h1970<|g_v rfl (r_pick0 rfl h1970)<|g_nil<|d_then ?_
     refine c_flat [(0,.slice Ap0_0 p0.length cp0_0),(3,.slice A1410 l1409.length c1411),(4,.int .i64 i1414),(5,.pointer (some ⟨g1664,0,none⟩)),(6,.int .i64 i1919),(36,.bool false)] ⟨rfl,rfl,rfl,rfl,rfl,rfl,trivial⟩ (fun u=>?_)
     refine c_cond0 rfl rfl<|c_exit<|d_exit_then<|d_exit_then<|d_exit_block ?_
     replace hm:=nx_out (C:=(fun e : (List GRR)=>m_law18_small_j3 l1409 x1662 i1414 e = some o2)) hm hnx4 hr4
     exact d_round (l1916,A1917,c1918) ⟨hm,hc1918⟩ Nat.zero_lt_one ⟨rfl,rfl,rfl,rfl,trivial⟩ (fun W h=>h.phi (fun W hφ=>hφ))
    unfold m_law18_small_j3 at hm
    refine d_flat [(0,.slice Ap0_0 p0.length cp0_0),(3,.slice A1410 l1409.length c1411),(4,.int .i64 i1414),(5,.pointer (some ⟨g1664,0,none⟩))] ⟨rfl,rfl,rfl,rfl,trivial⟩ (fun u=>?_)
    refine d_sta ⟨w0,M,(100050,g1664,.cells #[.string x1662,.slice A1865 l1864.length c1866] 33 (0,0))::H,(37,⟨.slice A1865 l1864.length c1866,42,5,l1864.length,l1864.flatMap GRR.enc⟩)::(22,⟨.slice A1410 l1409.length c1411,33,2,l1409.length,(l1409.zip ps1412).flatMap GZone.encP⟩)::R,φ1649⟩ (fun _ h=>h)<|d_then<|c_region<|g_v rfl r_move<|g_v rfl (r_loadA (tag:=100050) rfl rfl Try.isAgg33 Try.sizeOf33 rfl rfl) ?_
    refine g_shut (tag:=37) rfl (fun φ1867 q1867'=>?_)
    have q1867 : ∀ W,φ1867 W→φ1649 W:=fun W h=>(q1867' W h).1
    have f1868:=fun (W : World) (h : φ1867 W)=>(q1867' W h).2
    have hk1870:=(DOk.cons (cap:=GZone.capP) (x:=(⟨x1662,l1864⟩ : GZone)) (p:=(⟨A1865,c1866⟩ : GZoneP)) (hc1866) DOk.nil)
    have f1871:=fun (W : World) (h : φ1867 W)=>(DOwn.cons (own:=GZone.ownP) (x:=(⟨x1662,l1864⟩ : GZone)) (p:=(⟨A1865,c1866⟩ : GZoneP)) (f1868 W h) DOwn.nil)
    refine g_e rfl (e_litD (tag:=100630) (enc:=GZone.encP) (sz:=2) hk1870 rfl Try.underlying35 (lit33_4 _ _ _ _) rfl rfl (fun _=>rfl)) (fun g1869 _=>?_)
    replace hm:=bnd hm
    obtain ⟨l1872,hl1872,hm⟩:=hm
    have hk1875:=DOk.app (cap:=GZone.capP) hc1411.1 hk1870 hl1872
    have f1876:=fun (W : World) (h : φ1867 W)=>DOwn.app (own:=GZone.ownP) (cap:=GZone.capP) hc1411.1 hl1872 (f1413 W (q1867 _ h)) (f1871 W h)
    refine g_e rfl (e_appRD (enc:=GZone.encP) (l:=l1409) (l1:=[(⟨x1662,l1864⟩ : GZone)]) (l2:=l1872) (tag:=22) hc1411.1 hk1870 Try.underlying35 inf33_22 rfl (by decide) (by decide) (fun _=>rfl) (fun _=>rfl) rfl hc1411.2 rfl rfl (fun W hS=>rowCl (tag:=100630) rfl W hS) hl1872) (fun ⟨A1873,c1874⟩ hc1874=>?_)
    refine g_v rfl r_assign<|g_nil<|d_normal_block<|d_then<|c_region<|g_v rfl r_move<|g_v rfl (r_add rfl rfl rfl)<|g_v rfl r_assign<|g_nil ?_
    obtain ⟨n1877,hn1877,hlp⟩:=nx_inl hm hnx2
    exact d_round (n1877,l1872,w64 (i1414 + 1),A1873,c1874,(ps1412++[(⟨A1865,c1866⟩ : GZoneP)])) ⟨hlp,⟨hk1875,hc1874⟩⟩ hn1877 ⟨rfl,rfl,rfl,trivial⟩ (fun W h=>((h.dropR (t:=100630) rfl).dropH (t:=100050) rfl).phi (fun W hφ=>⟨(q1649 _ (q1867 _ hφ)),(fun W h=>(f1876 W h)) W hφ⟩))
   replace hm:=ite_f hm (of_decide_eq_false h1651)
   refine c_exit<|d_exit_then<|d_exit_then<|d_exit_block ?_
   replace hm:=nx_out (C:=(fun e : (List GZone)=>m_law18_small_j1 e = some r)) hm hnx2 hr2
   exact d_round (l1409,A1410,c1411,ps1412) ⟨hm,⟨hc1411.1,hc1411.2⟩⟩ Nat.zero_lt_one ⟨rfl,trivial⟩ (fun W h=>h.phi (fun W hφ=>⟨(q1649 _ hφ),(fun W h=>(f1413 W h)) W hφ⟩))
  replace hm:=ite_f hm (of_decide_eq_false h1650)
  refine g_no rfl rfl rfl rfl rfl h1650<|g_v rfl (r_pick0 rfl h1650)<|g_nil<|d_then<|c_cond0 rfl rfl<|c_exit<|d_exit_then<|d_exit_then<|d_exit_block ?_
  replace hm:=nx_out (C:=(fun e : (List GZone)=>m_law18_small_j1 e = some r)) hm hnx2 hr2
  exact d_round (l1409,A1410,c1411,ps1412) ⟨hm,⟨hc1411.1,hc1411.2⟩⟩ Nat.zero_lt_one ⟨rfl,trivial⟩ (fun W h=>h.phi (fun W hφ=>⟨(q1649 _ hφ),(fun W h=>(f1413 W h)) W hφ⟩))
 unfold m_law18_small_j1 at hm
 refine d_abs (fun φ1176 q1176'=>?_)
 have q1176 : ∀ W,φ1176 W→φ W:=fun W h=>(q1176' W h).1
 have f1175:=fun (W : World) (h : φ1176 W)=>(q1176' W h).2
 refine d_flat [(3,.slice A1172 l1171.length c1173)] ⟨rfl,trivial⟩ (fun u=>?_)
 refine d_sta ⟨w0,M,H,(22,⟨.slice A1172 l1171.length c1173,33,2,l1171.length,(l1171.zip ps1174).flatMap GZone.encP⟩)::R,φ1176⟩ (fun _ h=>h)<|d_then<|c_seq<|c_region<|g_v rfl r_move<|g_v rfl r_assign<|g_nil<|d_then<|c_ret ?_
 cases hm
 refine d_sta _ (fun W h=>ok_frontR (t:=22) (t':=2000) h rfl) ?_
 exact d_retC (A1172,c1173,ps1174) Try.results11 (res_tmp (res_nil rfl)) ⟨hc1173.1,hc1173.2⟩ (fun W h=>h.phi (fun W hφ=>⟨(q1176 _ hφ),(fun W h=>(f1175 W h)) W hφ⟩)) (.inr rfl)
theorem bld26_23  : ∀ W,(Instr.build 26 #[]).run Try.prog W = .ok (.agg #[.int .u16 0,.bool false,.bool false,.bool false,.bool false,.bool false,.int .i64 0,.int .i64 0,.slice none 0 0,.slice none 0 0,.slice none 0 0,.slice none 0 0]) W:=fun _=>by kernel_rfl
noncomputable def m_pack_Raw (p0 : ByteArray) (p1 : Int) (p2 : Int) : Option (ByteArray×Int×Int):=
  if p1 < 0 then
    some ((⟨#[]⟩ : ByteArray),0,10)
  else
    if p2 < 0 then
      some ((⟨#[]⟩ : ByteArray),0,10)
    else
      if (p0.size : Int) < p1 then
        some ((⟨#[]⟩ : ByteArray),0,10)
      else
        if w64 ((p0.size : Int) - p1) < p2 then
          some ((⟨#[]⟩ : ByteArray),0,10)
        else
          (scutMid p0 p1 (w64 (p1 + p2))).bind fun s5=>
          some (s5,w64 (p1 + p2),0)
theorem c_pack_Raw {w0 : World} {M : Nat→Prop} {H : List (Nat×Nat×Obj)} {R : List (Nat×Row)} {φ : World→Prop} (p0 : ByteArray) (p1 : Int) (p2 : Int) (r : ByteArray×Int×Int) (hm : m_pack_Raw p0 p1 p2 = some r) :
    Cn Try.prog 78 #[.string p0,.int .i64 p1,.int .i64 p2] ⟨w0,M,H,R,φ⟩ (fun x : Unit=>.tuple #[.string r.1,.int .i64 r.2.1,.int .i64 r.2.2]) (fun x=>True) (fun x=>⟨w0,M,H,R,φ⟩):=by
 unfold m_pack_Raw at hm
 refine cn_intro (fn:=Try.f78) (N:=38) Try.func78 rfl Try.ntmps78 rfl<|c_seq<|c_region ?_
 iterate 3 refine g_v rfl r_assign ?_
 refine g_nil<|d_then<|c_seq<|c_seq<|c_region<|g_v rfl r_move<|g_v rfl (r_lss rfl rfl)<|g_v rfl r_move ?_
 refine g_if rfl rfl rfl rfl rfl (fun h1=>?_) (fun h1=>?_)
 ·
  replace hm:=ite_f hm (of_decide_eq_false h1)
  refine g_v rfl r_move<|g_do rfl rfl rfl rfl rfl h1<|g_v rfl (r_lss rfl rfl)<|g_v rfl (r_pick0 rfl h1)<|g_v rfl r_move ?_
  refine g_if rfl rfl rfl rfl rfl (fun h2=>?_) (fun h2=>?_)
  ·
   replace hm:=ite_f hm (of_decide_eq_false h2)
   refine g_v rfl r_move<|g_do rfl rfl rfl rfl rfl h2<|g_v rfl r_move<|g_do rfl rfl rfl rfl rfl h2<|g_v rfl (r_len Try.underlying9 rfl)<|g_do rfl rfl rfl rfl rfl h2<|g_v rfl (r_gtr rfl rfl)<|g_v rfl (r_pick0 rfl h2)<|g_v rfl r_move ?_
   refine g_if rfl rfl rfl rfl rfl (fun h3=>?_) (fun h3=>?_)
   ·
    replace hm:=ite_f hm (of_decide_eq_false h3)
    refine g_v rfl r_move<|g_do rfl rfl rfl rfl rfl h3<|g_v rfl r_move<|g_do rfl rfl rfl rfl rfl h3<|g_v rfl (r_len Try.underlying9 rfl)<|g_do rfl rfl rfl rfl rfl h3<|g_v rfl r_move<|g_do rfl rfl rfl rfl rfl h3<|g_v rfl (r_sub rfl rfl rfl)<|g_do rfl rfl rfl rfl rfl h3 ?_
    refine g_v rfl (r_gtr rfl rfl)<|g_v rfl (r_pick0 rfl h3)<|g_nil<|d_then ?_
    refine c_flat [(0,.string p0),(1,.int .i64 p1),(2,.int .i64 p2),(28,.bool (decide (w64 ((p0.size : Int) - p1) < p2)))] ⟨rfl,rfl,rfl,rfl,trivial⟩ (fun u=>?_)
    refine c_sta ⟨w0,M,H,R,φ⟩ (fun _ h=>h) ?_
    refine c_cond rfl (fun h4=>?_) (fun h4=>?_)
    ·
     replace hm:=ite_t hm (of_decide_eq_true h4)
     refine c_seq<|c_region ?_
     iterate 3 refine g_v rfl r_assign ?_
     refine g_nil<|d_then<|c_ret<|d_ret_then ?_
     cases hm
     exact d_retC () Try.results78 (res_tmp (res_tmp (res_tmp (res_nil rfl)))) trivial (fun W h=>ok_pre (H1:=[]) (R1:=[]) h (fun W hφ=>hφ)) (.inr rfl)
    replace hm:=ite_f hm (of_decide_eq_false h4)
    refine c_skip<|d_then<|c_seq<|c_region ?_
    iterate 4 refine g_v rfl r_move ?_
    refine g_v rfl (r_add rfl rfl rfl) ?_
    replace hm:=bnd hm
    obtain ⟨s5,hs5,hm⟩:=hm
    refine g_v rfl (r_scutMid Try.underlying9 rfl rfl rfl hs5)<|g_v rfl r_move<|g_v rfl r_move<|g_v rfl (r_add rfl rfl rfl) ?_
    iterate 3 refine g_v rfl r_assign ?_
    refine g_nil<|d_then ?_
    refine c_flat [(6,.string s5),(7,.int .i64 (w64 (p1 + p2))),(8,.int .i64 0)] ⟨rfl,rfl,rfl,trivial⟩ (fun u=>?_)
    refine c_ret ?_
    cases hm
    exact d_retC () Try.results78 (res_tmp (res_tmp (res_tmp (res_nil rfl)))) trivial (fun W h=>ok_pre (H1:=[]) (R1:=[]) h (fun W hφ=>hφ)) (.inr rfl)
   replace hm:=ite_t hm (of_decide_eq_true h3)
   iterate 5 refine g_no rfl rfl rfl rfl rfl h3 ?_
   refine g_v rfl (r_pick1 rfl h3)<|g_nil<|d_then ?_
   refine c_flat [(0,.string p0),(1,.int .i64 p1),(2,.int .i64 p2),(28,.bool true)] ⟨rfl,rfl,rfl,rfl,trivial⟩ (fun u=>?_)
   refine c_sta ⟨w0,M,H,R,φ⟩ (fun _ h=>h)<|c_cond1 rfl rfl<|c_seq<|c_region ?_
   iterate 3 refine g_v rfl r_assign ?_
   refine g_nil<|d_then<|c_ret<|d_ret_then ?_
   cases hm
   exact d_retC () Try.results78 (res_tmp (res_tmp (res_tmp (res_nil rfl)))) trivial (fun W h=>ok_pre (H1:=[]) (R1:=[]) h (fun W hφ=>hφ)) (.inr rfl)
  replace hm:=ite_t hm (of_decide_eq_true h2)
  iterate 3 refine g_no rfl rfl rfl rfl rfl h2 ?_
  refine g_v rfl (r_pick1 rfl h2)<|g_v rfl r_move ?_
  iterate 6 refine g_no rfl rfl rfl rfl rfl rfl ?_
  refine g_v rfl (r_pick1 rfl rfl)<|g_nil<|d_then ?_
  refine c_flat [(0,.string p0),(1,.int .i64 p1),(2,.int .i64 p2),(28,.bool true)] ⟨rfl,rfl,rfl,rfl,trivial⟩ (fun u=>?_)
  refine c_sta ⟨w0,M,H,R,φ⟩ (fun _ h=>h)<|c_cond1 rfl rfl<|c_seq<|c_region ?_
  iterate 3 refine g_v rfl r_assign ?_
  refine g_nil<|d_then<|c_ret<|d_ret_then ?_
  cases hm
  exact d_retC () Try.results78 (res_tmp (res_tmp (res_tmp (res_nil rfl)))) trivial (fun W h=>ok_pre (H1:=[]) (R1:=[]) h (fun W hφ=>hφ)) (.inr rfl)
 replace hm:=ite_t hm (of_decide_eq_true h1)
 refine g_no rfl rfl rfl rfl rfl h1<|g_v rfl (r_pick1 rfl h1)<|g_v rfl r_move ?_
 iterate 4 refine g_no rfl rfl rfl rfl rfl rfl ?_
 refine g_v rfl (r_pick1 rfl rfl)<|g_v rfl r_move ?_
 iterate 6 refine g_no rfl rfl rfl rfl rfl rfl ?_
 refine g_v rfl (r_pick1 rfl rfl)<|g_nil<|d_then ?_
 refine c_flat [(0,.string p0),(1,.int .i64 p1),(2,.int .i64 p2),(28,.bool true)] ⟨rfl,rfl,rfl,rfl,trivial⟩ (fun u=>?_)
 refine c_sta ⟨w0,M,H,R,φ⟩ (fun _ h=>h)<|c_cond1 rfl rfl<|c_seq<|c_region ?_
 iterate 3 refine g_v rfl r_assign ?_
 refine g_nil<|d_then<|c_ret<|d_ret_then ?_
 cases hm
 exact d_retC () Try.results78 (res_tmp (res_tmp (res_tmp (res_nil rfl)))) trivial (fun W h=>ok_pre (H1:=[]) (R1:=[]) h (fun W hφ=>hφ)) (.inr rfl)
noncomputable def m_pack_number_j1 (x2 : Int) (x3 : Int) (i17 : Int) : Option (Int×Int×Int):=
  some (i17,x2,x3)
noncomputable def m_pack_number_s2 (x1 : ByteArray) (i22 : Int) (i23 : Int) : Option ((Int×Int) ⊕ Int):=
  if i23 < (x1.size : Int) then
    (sat_ x1 i23).bind fun b30=>
    some (.inl (orI .u32 (IntKind.u32.wrap (i22 * 256)) (IntKind.u32.wrap b30),w64 (i23 + 1)))
  else
    some (.inr i22)
noncomputable def m_pack_number (p0 : ByteArray) (p1 : Int) (p2 : Int) : Option (Int×Int×Int):=
  (m_pack_Raw p0 p1 p2).bind fun (z5 : ByteArray×Int×Int)=>
  (loop (fun s=>m_pack_number_s2 z5.1 s.1 s.2) (0,0)).bind fun e=>m_pack_number_j1 z5.2.1 z5.2.2 e
theorem c_pack_number {w0 : World} {M : Nat→Prop} {H : List (Nat×Nat×Obj)} {R : List (Nat×Row)} {φ : World→Prop} (p0 : ByteArray) (p1 : Int) (p2 : Int) (r : Int×Int×Int) (hm : m_pack_number p0 p1 p2 = some r) :
    Cn Try.prog 74 #[.string p0,.int .i64 p1,.int .i64 p2] ⟨w0,M,H,R,φ⟩ (fun x : Unit=>.tuple #[.int .u32 r.1,.int .i64 r.2.1,.int .i64 r.2.2]) (fun x=>True) (fun x=>⟨w0,M,H,R,φ⟩):=by
 unfold m_pack_number at hm
 refine cn_intro (fn:=Try.f74) (N:=38) Try.func74 rfl Try.ntmps74 rfl<|c_seq<|c_region ?_
 iterate 3 refine g_v rfl r_assign ?_
 refine g_nil<|d_then<|c_seq<|c_region ?_
 iterate 3 refine g_v rfl r_move ?_
 replace hm:=bnd hm
 obtain ⟨⟨x1,x2,x3⟩,hx4,hm⟩:=hm
 refine g_cn ⟨w0,M,_,_,φ⟩ (fun _ h=>h) Try.call78 rfl rfl (c_pack_Raw p0 p1 p2 _ hx4) (fun _ _=>?_)
 refine g_v rfl r_move ?_
 iterate 3 refine g_v rfl (r_extract rfl rfl) ?_
 iterate 3 refine g_v rfl r_assign ?_
 refine g_nil<|d_then ?_
 refine c_flat [(9,.string x1),(10,.int .i64 x2),(11,.int .i64 x3)] ⟨rfl,rfl,rfl,trivial⟩ (fun u=>?_)
 refine c_sta ⟨w0,M,H,R,φ⟩ (fun _ h=>h)<|c_seq<|c_region<|g_v rfl r_assign<|g_nil<|d_then<|c_seq<|c_seq<|c_region<|g_v rfl r_move ?_
 refine g_v rfl (r_len Try.underlying9 rfl)<|g_v rfl r_move<|g_nil<|d_then ?_
 refine c_cut (ι:=Int) [10,11,12] (fun i17=>[(12,.int .u32 i17)]) (fun i17=>⟨w0,M,H,R,φ⟩) (fun i17=>m_pack_number_j1 x2 x3 i17 = some r) ?_ (fun i17 u hm=>?_)
 ·
  refine c_block ?_
  replace hm:=bnd hm
  obtain ⟨out2,hl2,hr2⟩:=hm
  obtain ⟨n28',hl2⟩:=loop_lp hl2
  refine c_loopU (ι:=Nat×Int×Int) [9,10,11,12,23,24] (fun ⟨n28,i22,i23⟩=>[(12,.int .u32 i22),(24,.int .i64 i23)]) (fun ⟨n28,i22,i23⟩=>⟨w0,M,H,R,φ⟩) (fun ⟨n28,i22,i23⟩=>Lp (fun s=>m_pack_number_s2 x1 s.1 s.2) n28 (i22,i23) out2) (fun ⟨n28,i22,i23⟩=>n28) (n28',0,0) hl2 ⟨rfl,rfl,rfl,rfl,rfl,rfl,trivial⟩ (fun W h=>h.phi (fun W hφ=>hφ)) (fun ⟨n28,i22,i23⟩ u hlp=>?_)
  obtain ⟨o2,hm,hnx2⟩:=lp_step hlp
  clear hlp
  replace hm : m_pack_number_s2 x1 i22 i23 = some o2:=hm
  unfold m_pack_number_s2 at hm
  refine c_flat [(9,.string x1),(10,.int .i64 x2),(11,.int .i64 x3),(12,.int .u32 i22),(23,.int .i64 (x1.size : Int)),(24,.int .i64 i23)] ⟨rfl,rfl,rfl,rfl,rfl,rfl,trivial⟩ (fun u=>?_)
  refine c_seq<|c_region<|g_v rfl (r_lss rfl rfl)<|g_nil<|d_then<|c_seq ?_
  refine c_cond rfl (fun h29=>?_) (fun h29=>?_)
  ·
   replace hm:=ite_t hm (of_decide_eq_true h29)
   refine c_skip<|d_then<|c_seq<|c_block<|c_seq<|c_region<|g_v rfl r_move<|g_v rfl r_assign<|g_nil<|d_then ?_
   refine c_region<|g_v rfl r_move<|g_v rfl (r_shl (n:=256) rfl rfl (by decide) (by decide) (by decide))<|g_v rfl r_move<|g_v rfl r_move ?_
   replace hm:=bnd hm
   obtain ⟨b30,hb30,hm⟩:=hm
   refine g_v rfl (r_sat Try.underlying9 rfl rfl hb30)<|g_v rfl (r_conv Try.underlying5 Try.underlying40 rfl rfl)<|g_v rfl (r_bits_or rfl rfl)<|g_v rfl r_assign<|g_nil<|d_normal_block<|d_then ?_
   refine c_flat [(9,.string x1),(10,.int .i64 x2),(11,.int .i64 x3),(12,.int .u32 (orI .u32 (IntKind.u32.wrap (i22 * 256)) (IntKind.u32.wrap b30))),(23,.int .i64 (x1.size : Int)),(24,.int .i64 i23)] ⟨rfl,rfl,rfl,rfl,rfl,rfl,trivial⟩ (fun u=>?_)
   refine c_region<|g_v rfl (r_add rfl rfl rfl)<|g_v rfl r_move<|g_nil ?_
   obtain ⟨n31,hn31,hlp⟩:=nx_inl hm hnx2
   exact d_round (n31,orI .u32 (IntKind.u32.wrap (i22 * 256)) (IntKind.u32.wrap b30),w64 (i23 + 1)) hlp hn31 ⟨rfl,rfl,rfl,rfl,rfl,rfl,trivial⟩ (fun W h=>h.phi (fun W hφ=>hφ))
  replace hm:=ite_f hm (of_decide_eq_false h29)
  refine c_exit<|d_exit_then<|d_exit_then<|d_exit_block ?_
  replace hm:=nx_out (C:=(fun e : Int=>m_pack_number_j1 x2 x3 e = some r)) hm hnx2 hr2
  exact d_round i22 hm Nat.zero_lt_one ⟨rfl,rfl,rfl,trivial⟩ (fun W h=>h.phi (fun W hφ=>hφ))
 unfold m_pack_number_j1 at hm
 refine d_flat [(10,.int .i64 x2),(11,.int .i64 x3),(12,.int .u32 i17)] ⟨rfl,rfl,rfl,trivial⟩ (fun u=>?_)
 refine d_then<|c_seq<|c_region ?_
 iterate 3 refine g_v rfl r_move ?_
 iterate 3 refine g_v rfl r_assign ?_
 refine g_nil<|d_then<|c_ret ?_
 cases hm
 exact d_retC () Try.results74 (res_tmp (res_tmp (res_tmp (res_nil rfl)))) trivial (fun W h=>ok_pre (H1:=[]) (R1:=[]) h (fun W hφ=>hφ)) (.inr rfl)
noncomputable def m_pack_Word (p0 : ByteArray) (p1 : Int) : Option (Int×Int×Int):=
  (m_pack_number p0 p1 2).bind fun (z5 : Int×Int×Int)=>
  some (IntKind.u16.wrap z5.1,z5.2.1,z5.2.2)
theorem c_pack_Word {w0 : World} {M : Nat→Prop} {H : List (Nat×Nat×Obj)} {R : List (Nat×Row)} {φ : World→Prop} (p0 : ByteArray) (p1 : Int) (r : Int×Int×Int) (hm : m_pack_Word p0 p1 = some r) :
    Cn Try.prog 49 #[.string p0,.int .i64 p1] ⟨w0,M,H,R,φ⟩ (fun x : Unit=>.tuple #[.int .u16 r.1,.int .i64 r.2.1,.int .i64 r.2.2]) (fun x=>True) (fun x=>⟨w0,M,H,R,φ⟩):=by
 unfold m_pack_Word at hm
 refine cn_intro (fn:=Try.f49) (N:=21) Try.func49 rfl Try.ntmps49 rfl<|c_seq<|c_region ?_
 iterate 3 refine g_v rfl r_assign ?_
 refine g_nil<|d_then<|c_seq<|c_region<|g_v rfl r_move<|g_v rfl r_move ?_
 replace hm:=bnd hm
 obtain ⟨⟨x1,x2,x3⟩,hx4,hm⟩:=hm
 refine g_cn ⟨w0,M,_,_,φ⟩ (fun _ h=>h) Try.call74 rfl rfl (c_pack_number p0 p1 2 _ hx4) (fun _ _=>?_)
 refine g_v rfl r_move ?_
 iterate 3 refine g_v rfl (r_extract rfl rfl) ?_
 iterate 3 refine g_v rfl r_assign ?_
 refine g_nil<|d_then ?_
 refine c_flat [(7,.int .u32 x1),(8,.int .i64 x2),(9,.int .i64 x3)] ⟨rfl,rfl,rfl,trivial⟩ (fun u=>?_)
 refine c_sta ⟨w0,M,H,R,φ⟩ (fun _ h=>h)<|c_seq<|c_region<|g_v rfl r_move<|g_v rfl (r_conv Try.underlying40 Try.underlying22 rfl rfl)<|g_v rfl r_move<|g_v rfl r_move ?_
 iterate 3 refine g_v rfl r_assign ?_
 refine g_nil<|d_then<|c_ret ?_
 cases hm
 exact d_retC () Try.results49 (res_tmp (res_tmp (res_tmp (res_nil rfl)))) trivial (fun W h=>ok_pre (H1:=[]) (R1:=[]) h (fun W hφ=>hφ)) (.inr rfl)
noncomputable def m_message_flags_has (p0 : Int) (p1 : Int) : Option Bool:=
  some (decide (andI .u16 p0 p1 ≠ 0))
theorem c_message_flags_has {w0 : World} {M : Nat→Prop} {H : List (Nat×Nat×Obj)} {R : List (Nat×Row)} {φ : World→Prop} (p0 : Int) (p1 : Int) (r : Bool) (hm : m_message_flags_has p0 p1 = some r) :
    Cn Try.prog 70 #[.int .u16 p0,.int .u16 p1] ⟨w0,M,H,R,φ⟩ (fun x : Unit=>.bool r) (fun x=>True) (fun x=>⟨w0,M,H,R,φ⟩):=by
 unfold m_message_flags_has at hm
 refine cn_intro (fn:=Try.f70) (N:=9) Try.func70 rfl Try.ntmps70 rfl<|c_seq<|c_region<|g_v rfl r_assign<|g_nil<|d_then<|c_seq<|c_region<|g_v rfl r_move<|g_v rfl r_move ?_
 refine g_v rfl (r_bits_and rfl rfl)<|g_v rfl (r_neq rfl rfl)<|g_v rfl r_assign<|g_nil<|d_then<|c_ret ?_
 cases hm
 exact d_retC () Try.results70 (res_tmp (res_nil rfl)) trivial (fun W h=>ok_pre (H1:=[]) (R1:=[]) h (fun W hφ=>hφ)) (.inr rfl)
theorem bld26_24 (z0 : Int) (z1 : Bool) (z2 : Bool) (z3 : Bool) (z4 : Bool) (z5 : Bool) (z6 : Int) (z7 : Int) : ∀ W,(Instr.build 26 #[(0,.int .u16 z0),(1,.bool z1),(2,.bool z2),(3,.bool z3),(4,.bool z4),(5,.bool z5),(6,.int .i64 z6),(7,.int .i64 z7)]).run Try.prog W = .ok (.agg #[.int .u16 z0,.bool z1,.bool z2,.bool z3,.bool z4,.bool z5,.int .i64 z6,.int .i64 z7,.slice none 0 0,.slice none 0 0,.slice none 0 0,.slice none 0 0]) W:=fun _=>by kernel_rfl
noncomputable def m_message_Head (p0 : ByteArray) : Option (GMessage×Int):=
  if (p0.size : Int) < 12 then
    some ((⟨0,false,false,false,false,false,0,0,([] : List GQuestion),([] : List GRR),([] : List GRR),([] : List GRR)⟩ : GMessage),10)
  else
    (m_pack_Word p0 0).bind fun (z7 : Int×Int×Int)=>
    (m_pack_Word p0 2).bind fun (z12 : Int×Int×Int)=>
    (m_message_flags_has z12.1 32768).bind fun x13=>
    (m_message_flags_has z12.1 1024).bind fun x15=>
    (m_message_flags_has z12.1 512).bind fun x17=>
    (m_message_flags_has z12.1 256).bind fun x19=>
    (m_message_flags_has z12.1 128).bind fun x21=>
    some ((⟨z7.1,x13,x15,x17,x19,x21,w64 (andI .u16 (z12.1 / 2048) 15),w64 (andI .u16 z12.1 15),([] : List GQuestion),([] : List GRR),([] : List GRR),([] : List GRR)⟩ : GMessage),0)
theorem c_message_Head {w0 : World} {M : Nat→Prop} {H : List (Nat×Nat×Obj)} {R : List (Nat×Row)} {φ : World→Prop} (p0 : ByteArray) (r : GMessage×Int) (hm : m_message_Head p0 = some r) :
    Cn Try.prog 43 #[.string p0] ⟨w0,M,H,R,φ⟩ (fun x : Option Addr×Nat×Option Addr×Nat×Option Addr×Nat×Option Addr×Nat=>.tuple #[.agg #[.int .u16 r.1.fID,.bool r.1.fResponse,.bool r.1.fAuthoritative,.bool r.1.fTruncated,.bool r.1.fDesired,.bool r.1.fAvailable,.int .i64 r.1.fOpcode,.int .i64 r.1.fCode,.slice x.1 r.1.fQuestions.length x.2.1,.slice x.2.2.1 r.1.fAnswers.length x.2.2.2.1,.slice x.2.2.2.2.1 r.1.fAuthorities.length x.2.2.2.2.2.1,.slice x.2.2.2.2.2.2.1 r.1.fExtras.length x.2.2.2.2.2.2.2],.int .i64 r.2]) (fun x=>r.1.fQuestions.length ≤ x.2.1∧r.1.fAnswers.length ≤ x.2.2.2.1∧r.1.fAuthorities.length ≤ x.2.2.2.2.2.1∧r.1.fExtras.length ≤ x.2.2.2.2.2.2.2) (fun x=>⟨w0,M,H,R,fun W=>φ W∧Cl W x.1 (r.1.fQuestions.flatMap GQuestion.enc)∧Cl W x.2.2.1 (r.1.fAnswers.flatMap GRR.enc)∧Cl W x.2.2.2.2.1 (r.1.fAuthorities.flatMap GRR.enc)∧Cl W x.2.2.2.2.2.2.1 (r.1.fExtras.flatMap GRR.enc)⟩):=by
 unfold m_message_Head at hm
 refine cn_intro (fn:=Try.f43) (N:=48) Try.func43 rfl Try.ntmps43 rfl<|c_seq<|c_region ?_
 refine g_e rfl (e_alloc 100020 Try.zeroValue26) (fun g1 _=>?_)
 refine g_v rfl r_assign<|g_nil<|d_then<|c_seq<|c_seq<|c_region<|g_v rfl r_move<|g_v rfl (r_len Try.underlying9 rfl)<|g_v rfl (r_lss rfl rfl)<|g_nil ?_
 refine d_then<|c_sta ⟨w0,M,(100020,g1,.cells #[.int .u16 0,.bool false,.bool false,.bool false,.bool false,.bool false,.int .i64 0,.int .i64 0,.slice none 0 0,.slice none 0 0,.slice none 0 0,.slice none 0 0] 26 (0,0))::H,R,φ⟩ (fun _ h=>h) ?_
 refine c_cond rfl (fun h2=>?_) (fun h2=>?_)
 ·
  replace hm:=ite_t hm (of_decide_eq_true h2)
  refine c_seq<|c_region<|g_v rfl (r_build _ rfl (bld26_23))<|g_storeL (tag:=100020) rfl rfl rfl rfl Try.sizeOf26 rfl rfl<|g_v rfl r_assign<|g_nil<|d_then<|c_ret<|d_ret_then ?_
  cases hm
  exact d_retC (none,0,none,0,none,0,none,0) Try.results43 (res_agg (tag:=100020) rfl rfl Try.isAgg26 Try.sizeOf26 (res_tmp (res_nil rfl))) ⟨(Nat.le_refl 0),(Nat.le_refl 0),(Nat.le_refl 0),(Nat.le_refl 0)⟩ (fun W h=>ok_pre (H1:=[_]) (R1:=[]) h (fun W hφ=>⟨hφ,(fun W _=>Cl.nil _ _) W hφ,(fun W _=>Cl.nil _ _) W hφ,(fun W _=>Cl.nil _ _) W hφ,(fun W _=>Cl.nil _ _) W hφ⟩)) (.inr rfl)
 replace hm:=ite_f hm (of_decide_eq_false h2)
 refine c_skip<|d_then<|c_seq<|c_region<|g_v rfl r_move ?_
 replace hm:=bnd hm
 obtain ⟨⟨x3,x4,x5⟩,hx6,hm⟩:=hm
 refine g_cn ⟨w0,M,_,_,φ⟩ (fun _ h=>h) Try.call49 rfl rfl (c_pack_Word p0 0 _ hx6) (fun _ _=>?_)
 refine g_v rfl r_move ?_
 iterate 3 refine g_v rfl (r_extract rfl rfl) ?_
 iterate 3 refine g_v rfl r_assign ?_
 refine g_nil<|d_then ?_
 refine c_flat [(0,.string p0),(2,.pointer (some ⟨g1,0,none⟩)),(4,.int .u16 x3)] ⟨rfl,rfl,rfl,trivial⟩ (fun u=>?_)
 refine c_seq<|c_region<|g_v rfl r_move ?_
 replace hm:=bnd hm
 obtain ⟨⟨x8,x9,x10⟩,hx11,hm⟩:=hm
 refine g_cn ⟨w0,M,_,_,φ⟩ (fun _ h=>h) Try.call49 rfl rfl (c_pack_Word p0 2 _ hx11) (fun _ _=>?_)
 refine g_v rfl r_move ?_
 iterate 3 refine g_v rfl (r_extract rfl rfl) ?_
 iterate 3 refine g_v rfl r_assign ?_
 refine g_nil<|d_then ?_
 refine c_flat [(2,.pointer (some ⟨g1,0,none⟩)),(4,.int .u16 x3),(7,.int .u16 x8)] ⟨rfl,rfl,rfl,trivial⟩ (fun u=>?_)
 refine c_seq<|c_region<|g_v rfl r_move<|g_v rfl (r_mkf rfl)<|g_v rfl r_assign<|g_nil<|d_then<|c_seq<|c_region<|g_v rfl r_move ?_
 refine g_v rfl r_move ?_
 replace hm:=bnd hm
 obtain ⟨x13,hx14,hm⟩:=hm
 refine g_cnv ⟨w0,M,_,_,φ⟩ (fun _ h=>h) Try.call70 rfl rfl rfl (c_message_flags_has x8 32768 _ hx14) (fun _ _=>?_)
 refine g_v rfl r_move ?_
 replace hm:=bnd hm
 obtain ⟨x15,hx16,hm⟩:=hm
 refine g_cnv ⟨w0,M,_,_,φ⟩ (fun _ h=>h) Try.call70 rfl rfl rfl (c_message_flags_has x8 1024 _ hx16) (fun _ _=>?_)
 refine g_v rfl r_move ?_
 replace hm:=bnd hm
 obtain ⟨x17,hx18,hm⟩:=hm
 refine g_cnv ⟨w0,M,_,_,φ⟩ (fun _ h=>h) Try.call70 rfl rfl rfl (c_message_flags_has x8 512 _ hx18) (fun _ _=>?_)
 refine g_v rfl r_move ?_
 replace hm:=bnd hm
 obtain ⟨x19,hx20,hm⟩:=hm
 refine g_cnv ⟨w0,M,_,_,φ⟩ (fun _ h=>h) Try.call70 rfl rfl rfl (c_message_flags_has x8 256 _ hx20) (fun _ _=>?_)
 refine g_v rfl r_move ?_
 replace hm:=bnd hm
 obtain ⟨x21,hx22,hm⟩:=hm
 refine g_cnv ⟨w0,M,_,_,φ⟩ (fun _ h=>h) Try.call70 rfl rfl rfl (c_message_flags_has x8 128 _ hx22) (fun _ _=>?_)
 refine g_v rfl r_move<|g_v rfl (r_shr (n:=2048) rfl rfl (by decide) (by decide) (by decide))<|g_v rfl (r_bits_and rfl rfl)<|g_v rfl (r_conv Try.underlying22 Try.underlying3 rfl rfl)<|g_v rfl r_move<|g_v rfl (r_bits_and rfl rfl)<|g_v rfl (r_conv Try.underlying22 Try.underlying3 rfl rfl)<|g_v rfl (r_build _ rfl (bld26_24 _ _ _ _ _ _ _ _))<|g_storeL (tag:=100020) rfl rfl rfl rfl Try.sizeOf26 rfl rfl<|g_v rfl r_assign ?_
 refine g_nil<|d_then ?_
 refine c_flat [(2,.pointer (some ⟨g1,0,none⟩)),(3,.int .i64 0)] ⟨rfl,rfl,trivial⟩ (fun u=>?_)
 refine c_sta ⟨w0,M,(100020,g1,.cells #[.int .u16 x3,.bool x13,.bool x15,.bool x17,.bool x19,.bool x21,.int .i64 (w64 (andI .u16 (x8 / 2048) 15)),.int .i64 (w64 (andI .u16 x8 15)),.slice none 0 0,.slice none 0 0,.slice none 0 0,.slice none 0 0] 26 (0,0))::H,R,φ⟩ (fun _ h=>h)<|c_ret ?_
 cases hm
 exact d_retC (none,0,none,0,none,0,none,0) Try.results43 (res_agg (tag:=100020) rfl rfl Try.isAgg26 Try.sizeOf26 (res_tmp (res_nil rfl))) ⟨(Nat.le_refl 0),(Nat.le_refl 0),(Nat.le_refl 0),(Nat.le_refl 0)⟩ (fun W h=>ok_pre (H1:=[_]) (R1:=[]) h (fun W hφ=>⟨hφ,(fun W _=>Cl.nil _ _) W hφ,(fun W _=>Cl.nil _ _) W hφ,(fun W _=>Cl.nil _ _) W hφ,(fun W _=>Cl.nil _ _) W hφ⟩)) (.inr rfl)
noncomputable def m_message_Read_c1 (p0 : Int) (o0 : ByteArray) : Option Int:=
  (m_pack_Word o0 (w64 (4 + (w64 (2 * p0))))).bind fun (z5 : Int×Int×Int)=>
  some z5.1
theorem c_message_Read_c1 {w0 : World} {M : Nat→Prop} {H : List (Nat×Nat×Obj)} {R : List (Nat×Row)} {φ : World→Prop} (p0 : Int) (go0 : Nat) (o0 : ByteArray) (r : Int) (hm : m_message_Read_c1 p0 o0 = some r) :
    Cn Try.prog 48 #[.int .i64 p0,.pointer (some ⟨go0,0,none⟩)] ⟨w0,M,(1000,go0,.cells #[.string o0] 9 (0,0))::H,R,φ⟩ (fun x : Unit=>.int .u16 r) (fun x=>True) (fun x=>⟨w0,M,(1000,go0,.cells #[.string o0] 9 (0,0))::H,R,φ⟩):=by
 unfold m_message_Read_c1 at hm
 refine cn_intro (fn:=Try.f48) (N:=17) Try.func48 rfl Try.ntmps48 rfl<|c_seq<|c_region<|g_v rfl r_assign<|g_nil<|d_then<|c_seq<|c_region<|g_v rfl (r_load (tag:=1000) rfl rfl rfl Try.isAgg9)<|g_v rfl r_move ?_
 refine g_v rfl (r_mul rfl rfl rfl)<|g_v rfl (r_add rfl rfl rfl) ?_
 replace hm:=bnd hm
 obtain ⟨⟨x1,x2,x3⟩,hx4,hm⟩:=hm
 refine g_cn ⟨w0,M,_,_,φ⟩ (fun _ h=>h) Try.call49 rfl rfl (c_pack_Word o0 (w64 (4 + (w64 (2 * p0)))) _ hx4) (fun _ _=>?_)
 refine g_v rfl r_move ?_
 iterate 3 refine g_v rfl (r_extract rfl rfl) ?_
 iterate 3 refine g_v rfl r_assign ?_
 refine g_nil<|d_then ?_
 refine c_flat [(4,.int .u16 x1)] ⟨rfl,trivial⟩ (fun u=>?_)
 refine c_sta ⟨w0,M,(1000,go0,.cells #[.string o0] 9 (0,0))::H,R,φ⟩ (fun _ h=>h)<|c_seq<|c_region<|g_v rfl r_move<|g_v rfl r_assign<|g_nil<|d_then<|c_ret ?_
 cases hm
 exact d_retC () Try.results48 (res_tmp (res_nil rfl)) trivial (fun W h=>h.phi (fun W hφ=>hφ)) (.inr rfl)
noncomputable def m_pack_Byte (p0 : ByteArray) (p1 : Int) : Option (Int×Int×Int):=
  (m_pack_number p0 p1 1).bind fun (z5 : Int×Int×Int)=>
  some (IntKind.u8.wrap z5.1,z5.2.1,z5.2.2)
theorem c_pack_Byte {w0 : World} {M : Nat→Prop} {H : List (Nat×Nat×Obj)} {R : List (Nat×Row)} {φ : World→Prop} (p0 : ByteArray) (p1 : Int) (r : Int×Int×Int) (hm : m_pack_Byte p0 p1 = some r) :
    Cn Try.prog 100 #[.string p0,.int .i64 p1] ⟨w0,M,H,R,φ⟩ (fun x : Unit=>.tuple #[.int .u8 r.1,.int .i64 r.2.1,.int .i64 r.2.2]) (fun x=>True) (fun x=>⟨w0,M,H,R,φ⟩):=by
 unfold m_pack_Byte at hm
 refine cn_intro (fn:=Try.f100) (N:=21) Try.func100 rfl Try.ntmps100 rfl<|c_seq<|c_region ?_
 iterate 3 refine g_v rfl r_assign ?_
 refine g_nil<|d_then<|c_seq<|c_region<|g_v rfl r_move<|g_v rfl r_move ?_
 replace hm:=bnd hm
 obtain ⟨⟨x1,x2,x3⟩,hx4,hm⟩:=hm
 refine g_cn ⟨w0,M,_,_,φ⟩ (fun _ h=>h) Try.call74 rfl rfl (c_pack_number p0 p1 1 _ hx4) (fun _ _=>?_)
 refine g_v rfl r_move ?_
 iterate 3 refine g_v rfl (r_extract rfl rfl) ?_
 iterate 3 refine g_v rfl r_assign ?_
 refine g_nil<|d_then ?_
 refine c_flat [(7,.int .u32 x1),(8,.int .i64 x2),(9,.int .i64 x3)] ⟨rfl,rfl,rfl,trivial⟩ (fun u=>?_)
 refine c_sta ⟨w0,M,H,R,φ⟩ (fun _ h=>h)<|c_seq<|c_region<|g_v rfl r_move<|g_v rfl (r_conv Try.underlying40 Try.underlying5 rfl rfl)<|g_v rfl r_move<|g_v rfl r_move ?_
 iterate 3 refine g_v rfl r_assign ?_
 refine g_nil<|d_then<|c_ret ?_
 cases hm
 exact d_retC () Try.results100 (res_tmp (res_tmp (res_tmp (res_nil rfl)))) trivial (fun W h=>ok_pre (H1:=[]) (R1:=[]) h (fun W hφ=>hφ)) (.inr rfl)
noncomputable def m_pack_Name_c1 (p0 : Int) (o0 : Int) : Option Int:=
  if o0 < 0 then
    some p0
  else
    some o0
theorem c_pack_Name_c1 {w0 : World} {M : Nat→Prop} {H : List (Nat×Nat×Obj)} {R : List (Nat×Row)} {φ : World→Prop} (p0 : Int) (go0 : Nat) (o0 : Int) (r : Int) (hm : m_pack_Name_c1 p0 o0 = some r) :
    Cn Try.prog 99 #[.int .i64 p0,.pointer (some ⟨go0,0,none⟩)] ⟨w0,M,(1000,go0,.cells #[.int .i64 o0] 3 (0,0))::H,R,φ⟩ (fun x : Unit=>.tuple #[]) (fun x=>True) (fun x=>⟨w0,M,(1000,go0,.cells #[.int .i64 r] 3 (0,0))::H,R,φ⟩):=by
 unfold m_pack_Name_c1 at hm
 refine cn_intro (fn:=Try.f99) (N:=6) Try.func99 rfl Try.ntmps99 rfl<|c_seq<|c_region<|g_v rfl (r_load (tag:=1000) rfl rfl rfl Try.isAgg3)<|g_v rfl (r_lss rfl rfl)<|g_nil<|d_then ?_
 refine c_cond rfl (fun h1=>?_) (fun h1=>?_)
 ·
  replace hm:=ite_t hm (of_decide_eq_true h1)
  refine c_region<|g_v rfl r_move<|g_storeL (tag:=1000) rfl rfl rfl rfl Try.sizeOf3 rfl rfl<|g_nil ?_
  cases hm
  exact d_retC () Try.results99 (res_nil rfl) trivial (fun W h=>h.phi (fun W hφ=>hφ)) (.inl rfl)
 replace hm:=ite_f hm (of_decide_eq_false h1)
 refine c_skip ?_
 cases hm
 exact d_retC () Try.results99 (res_nil rfl) trivial (fun W h=>h.phi (fun W hφ=>hφ)) (.inl rfl)
theorem lit5_25 (z0 : Int) : Try.prog.builtSlice 5 1 [(0,.int .u8 z0)] = some #[.int .u8 z0]:=by kernel_rfl
noncomputable def m_pack_Name_s1 (p0 : ByteArray) (l259 : List Int) (i262 : Int) (i263 : Int) (i264 : Int) : Option (((List Int)×Int×Int×Int) ⊕ (Unit ⊕ (ByteArray×Int×Int))):=
  (m_pack_Byte p0 i262).bind fun (z322 : Int×Int×Int)=>
  if z322.2.2 ≠ 0 then
    some (.inr (.inr ((⟨#[]⟩ : ByteArray),0,z322.2.2)))
  else
    if z322.1 = 0 then
      (m_pack_Name_c1 z322.2.1 i264).bind fun x325=>
      (app 1 l259 [0]).bind fun l336=>
      some (.inr (.inr (strOfNums l336,x325,0)))
    else
      if 192 ≤ z322.1 then
        (m_pack_Word p0 i262).bind fun (z344 : Int×Int×Int)=>
        if z344.2.2 ≠ 0 then
          some (.inr (.inr ((⟨#[]⟩ : ByteArray),0,10)))
        else
          if i263 ≤ andI .i64 (w64 z344.1) 16383 then
            some (.inr (.inr ((⟨#[]⟩ : ByteArray),0,10)))
          else
            (m_pack_Name_c1 z344.2.1 i264).bind fun x347=>
            some (.inl (l259,andI .i64 (w64 z344.1) 16383,andI .i64 (w64 z344.1) 16383,x347))
      else
        if 63 < z322.1 then
          some (.inr (.inr ((⟨#[]⟩ : ByteArray),0,10)))
        else
          (m_pack_Raw p0 z322.2.1 (w64 z322.1)).bind fun (z355 : ByteArray×Int×Int)=>
          if z355.2.2 ≠ 0 then
            some (.inr (.inr ((⟨#[]⟩ : ByteArray),0,z355.2.2)))
          else
            if 255 < w64 ((w64 ((w64 ((l259.length : Int) + 1)) + (z355.1.size : Int))) + 1) then
              some (.inr (.inr ((⟨#[]⟩ : ByteArray),0,11)))
            else
              (app 1 l259 [z322.1]).bind fun l359=>
              (app 1 l359 (bytesI z355.1)).bind fun l362=>
              some (.inl (l362,z355.2.1,i263,i264))
noncomputable def m_pack_Name (p0 : ByteArray) (p1 : Int) : Option (ByteArray×Int×Int):=
  (loop (fun s=>m_pack_Name_s1 p0 s.1 s.2.1 s.2.2.1 s.2.2.2) (([] : List Int),p1,p1,(-1))).bind fun e=>Sum.elim (fun e=>(none : Option (ByteArray×Int×Int))) (fun x=>some x) e
theorem c_pack_Name {w0 : World} {M : Nat→Prop} {H : List (Nat×Nat×Obj)} {R : List (Nat×Row)} {φ : World→Prop} (p0 : ByteArray) (p1 : Int) (r : ByteArray×Int×Int) (hm : m_pack_Name p0 p1 = some r) :
    Cn Try.prog 75 #[.string p0,.int .i64 p1] ⟨w0,M,H,R,φ⟩ (fun x : Unit=>.tuple #[.string r.1,.int .i64 r.2.1,.int .i64 r.2.2]) (fun x=>True) (fun x=>⟨w0,M,H,R,φ⟩):=by
 unfold m_pack_Name at hm
 refine cn_intro (fn:=Try.f75) (N:=101) Try.func75 rfl Try.ntmps75 rfl<|c_seq<|c_region ?_
 iterate 3 refine g_v rfl r_assign ?_
 refine g_nil<|d_then<|c_seq<|c_region<|g_v rfl r_assign<|g_nil<|d_then<|c_seq<|c_region<|g_v rfl r_move ?_
 refine g_e rfl (e_alloc 100080 Try.zeroValue3) (fun g1 _=>?_)
 refine g_storeL (tag:=100080) rfl rfl rfl rfl Try.sizeOf3 rfl rfl<|g_v rfl r_assign<|g_nil<|d_then<|c_seq<|c_region<|g_v rfl (r_mkf rfl)<|g_v rfl r_assign<|g_nil<|d_then ?_
 refine c_flat [(0,.string p0),(1,.int .i64 p1),(7,.slice none 0 0),(8,.pointer (some ⟨g1,0,none⟩)),(9,.int .i64 p1),(10,.func (.func 99) #[] #[.pointer (some ⟨g1,0,none⟩)])] ⟨rfl,rfl,rfl,rfl,rfl,rfl,trivial⟩ (fun u=>?_)
 refine c_sta ⟨w0,M,(100080,g1,.cells #[.int .i64 (-1)] 3 (0,0))::H,R,φ⟩ (fun _ h=>h) ?_
 -- no way on
 refine c_block<|c_sta _ (fun W h=>nilR h 20 5 1) ?_
 replace hm:=bnd hm
 obtain ⟨out1,hl1,hr1⟩:=hm
 obtain ⟨n317',hl1⟩:=loop_lp hl1
 refine c_loopU (ι:=Nat×(List Int)×Int×Int×Int×Option Addr×Nat) [0,1,7,8,9,10] (fun ⟨n317,l259,i262,i263,i264,A260,c261⟩=>[(1,.int .i64 i262),(7,.slice A260 l259.length c261),(9,.int .i64 i263)]) (fun ⟨n317,l259,i262,i263,i264,A260,c261⟩=>⟨w0,M,(100080,g1,.cells #[.int .i64 i264] 3 (0,0))::H,(20,⟨.slice A260 l259.length c261,5,1,l259.length,l259.flatMap (fun x : Int=>[Value.int .u8 x])⟩)::R,φ⟩) (fun ⟨n317,l259,i262,i263,i264,A260,c261⟩=>Lp (fun s=>m_pack_Name_s1 p0 s.1 s.2.1 s.2.2.1 s.2.2.2) n317 (l259,i262,i263,i264) out1∧l259.length ≤ c261) (fun ⟨n317,l259,i262,i263,i264,A260,c261⟩=>n317) (n317',([] : List Int),p1,p1,(-1),none,0) ⟨hl1,(Nat.le_refl 0)⟩ ⟨rfl,rfl,rfl,rfl,rfl,rfl,trivial⟩ (fun W h=>h.phi (fun W hφ=>hφ)) (fun ⟨n317,l259,i262,i263,i264,A260,c261⟩ u ⟨hlp,hc261⟩=>?_)
 obtain ⟨o1,hm,hnx1⟩:=lp_step hlp
 clear hlp
 replace hm : m_pack_Name_s1 p0 l259 i262 i263 i264 = some o1:=hm
 unfold m_pack_Name_s1 at hm
 refine c_flat [(0,.string p0),(1,.int .i64 i262),(7,.slice A260 l259.length c261),(8,.pointer (some ⟨g1,0,none⟩)),(9,.int .i64 i263),(10,.func (.func 99) #[] #[.pointer (some ⟨g1,0,none⟩)])] ⟨rfl,rfl,rfl,rfl,rfl,rfl,trivial⟩ (fun u=>?_)
 refine c_sta ⟨w0,M,(100080,g1,.cells #[.int .i64 i264] 3 (0,0))::H,(20,⟨.slice A260 l259.length c261,5,1,l259.length,l259.flatMap (fun x : Int=>[Value.int .u8 x])⟩)::R,φ⟩ (fun _ h=>h)<|c_block<|c_seq<|c_region<|g_v rfl r_move<|g_v rfl r_move ?_
 replace hm:=bnd hm
 obtain ⟨⟨x318,x319,x320⟩,hx321,hm⟩:=hm
 refine g_cn ⟨w0,M,_,_,φ⟩ (fun _ h=>h) Try.call100 rfl rfl (c_pack_Byte p0 i262 _ hx321) (fun _ _=>?_)
 refine g_v rfl r_move ?_
 iterate 3 refine g_v rfl (r_extract rfl rfl) ?_
 iterate 3 refine g_v rfl r_assign ?_
 refine g_nil<|d_then ?_
 refine c_flat [(0,.string p0),(1,.int .i64 i262),(7,.slice A260 l259.length c261),(8,.pointer (some ⟨g1,0,none⟩)),(9,.int .i64 i263),(10,.func (.func 99) #[] #[.pointer (some ⟨g1,0,none⟩)]),(11,.int .u8 x318),(12,.int .i64 x319),(13,.int .i64 x320)] ⟨rfl,rfl,rfl,rfl,rfl,rfl,rfl,rfl,rfl,trivial⟩ (fun u=>?_)
 refine c_seq<|c_block<|c_seq<|c_region<|g_v rfl r_move<|g_v rfl (r_neq rfl rfl)<|g_v rfl r_assign<|g_nil<|d_then ?_
 refine c_cond rfl (fun h323=>?_) (fun h323=>?_)
 ·
  replace hm:=ite_t hm (of_decide_eq_true h323)
  refine c_seq<|c_region<|g_v rfl r_move ?_
  iterate 3 refine g_v rfl r_assign ?_
  refine g_nil<|d_then<|c_ret<|d_ret_block<|d_ret_then<|d_ret_block<|d_ret_then<|d_ret_block ?_
  replace hm:=nx_out (C:=(fun e : Unit ⊕ (ByteArray×Int×Int)=>Sum.elim (fun e=>(none : Option (ByteArray×Int×Int))) (fun x=>some x) e = some r)) hm hnx1 hr1
  replace hm : some ((⟨#[]⟩ : ByteArray),0,x320) = some r:=hm
  cases hm
  exact d_retC () Try.results75 (res_tmp (res_tmp (res_tmp (res_nil rfl)))) trivial (fun W h=>ok_pre (H1:=[_]) (R1:=[_]) h (fun W hφ=>hφ)) (.inr rfl)
 replace hm:=ite_f hm (of_decide_eq_false h323)
 refine c_seq<|c_region<|g_v rfl r_move<|g_v rfl (r_eql rfl rfl)<|g_v rfl r_assign<|g_nil<|d_then ?_
 refine c_cond rfl (fun h324=>?_) (fun h324=>?_)
 ·
  replace hm:=ite_t hm (of_decide_eq_true h324)
  refine c_seq<|c_region<|g_v rfl r_move<|g_v rfl r_move ?_
  replace hm:=bnd hm
  obtain ⟨x325,hx326,hm⟩:=hm
  refine g_cnv ⟨w0,M,(1000,g1,.cells #[.int .i64 i264] 3 (0,0))::H,(20,⟨.slice A260 l259.length c261,5,1,l259.length,l259.flatMap (fun x : Int=>[Value.int .u8 x])⟩)::R,φ⟩ (fun W h=>(ok_front (t:=100080) (t':=1000) h rfl)) Try.call99 rfl rfl rfl (c_pack_Name_c1 x319 g1 i264 _ hx326) (fun _ _=>?_)
  refine g_sta _ (fun W h=>(ok_front (t:=1000) (t':=100080) h rfl))<|g_nil<|d_then ?_
  refine c_flat [(7,.slice A260 l259.length c261),(8,.pointer (some ⟨g1,0,none⟩))] ⟨rfl,rfl,trivial⟩ (fun u=>?_)
  refine c_sta ⟨w0,M,(100080,g1,.cells #[.int .i64 x325] 3 (0,0))::H,(20,⟨.slice A260 l259.length c261,5,1,l259.length,l259.flatMap (fun x : Int=>[Value.int .u8 x])⟩)::R,φ⟩ (fun _ h=>h)<|c_seq<|ga_start (n:=8) ⟨w0,M,(100080,g1,.cells #[.int .i64 x325] 3 (0,0))::H,R,φ⟩ [] #[false,false,false,false,false,false,false,false] (fun W h=>(h.dropR (t:=20) rfl).phi (fun W hφ=>hφ)) mixed rfl rfl<|ga_v (i:=0) (bz 8 1) rfl (by kernel_rfl) (fun _ _ _ _ h=>h) rfl (r_move)<|ga_v (i:=4) (bz 8 17) rfl (by kernel_rfl) (fun _ _ _ _ h=>h) rfl (r_load (tag:=100080) rfl rfl rfl Try.isAgg3) ?_
  refine ga_e (i:=1) (bz 8 19) rfl (by kernel_rfl) (by decide) rfl  (e_lit (tag:=100400) (l:=[0]) (enc:=(fun x : Int=>[Value.int .u8 x])) (sz:=1) rfl Try.underlying66 (lit5_25 _) rfl rfl (fun _=>rfl)) (fun g335 W _ h=>((h.dropR (t:=100400) rfl).dropR (t:=20) rfl).phi (fun W hφ=>hφ)) (fun g335 _=>?_)
  replace hm:=bnd hm
  obtain ⟨l336,hl336,hm⟩:=hm
  refine ga_e (i:=2) (bz 8 23) rfl (by kernel_rfl) (by decide) rfl  (e_appR (enc:=(fun x : Int=>[Value.int .u8 x])) (l:=l259) (l1:=[0]) (l2:=l336) (tag:=20) Try.underlying66 inf5_0 rfl (by decide) (by decide) (fun _=>rfl) (fun _=>rfl) rfl hc261 rfl rfl (fun W hS=>rowCl (tag:=100400) rfl W hS) hl336) (fun ⟨A337,c338⟩ W hc338 h=>((h.dropR (t:=100400) rfl).dropR (t:=20) rfl).phi (fun W hφ=>hφ)) (fun ⟨A337,c338⟩ hc338=>?_)
  refine ga_r (i:=3) (bz 8 31) rfl (by kernel_rfl) (by decide) rfl (r_textE Try.underlying66 Try.underlying5 Try.underlying9 rfl (fun W hS=>rowCl (tag:=20) rfl W hS))<|ga_r (i:=5) (bz 8 63) rfl (by kernel_rfl) (by decide) rfl (r_assign)<|ga_r (i:=6) (bz 8 127) rfl (by kernel_rfl) (by decide) rfl (r_assign)<|ga_r (i:=7) (bz 8 255) rfl (by kernel_rfl) (by decide) rfl (r_assign)<|ga_done (by kernel_rfl)<|d_then<|c_ret<|d_ret_block<|d_ret_then<|d_ret_block ?_
  refine d_ret_then<|d_ret_block ?_
  replace hm:=nx_out (C:=(fun e : Unit ⊕ (ByteArray×Int×Int)=>Sum.elim (fun e=>(none : Option (ByteArray×Int×Int))) (fun x=>some x) e = some r)) hm hnx1 hr1
  replace hm : some (strOfNums l336,x325,0) = some r:=hm
  cases hm
  exact d_retC () Try.results75 (res_tmp (res_tmp (res_tmp (res_nil rfl)))) trivial (fun W h=>ok_pre (H1:=[_]) (R1:=[_,_]) h (fun W hφ=>hφ)) (.inr rfl)
 replace hm:=ite_f hm (of_decide_eq_false h324)
 refine c_seq<|c_region<|g_v rfl r_move<|g_v rfl (r_geq rfl rfl)<|g_v rfl r_assign<|g_nil<|d_then ?_
 refine c_flat [(0,.string p0),(1,.int .i64 i262),(7,.slice A260 l259.length c261),(8,.pointer (some ⟨g1,0,none⟩)),(9,.int .i64 i263),(10,.func (.func 99) #[] #[.pointer (some ⟨g1,0,none⟩)]),(11,.int .u8 x318),(12,.int .i64 x319),(44,.bool (decide (192 ≤ x318)))] ⟨rfl,rfl,rfl,rfl,rfl,rfl,rfl,rfl,rfl,trivial⟩ (fun u=>?_)
 refine c_cond rfl (fun h339=>?_) (fun h339=>?_)
 ·
  replace hm:=ite_t hm (of_decide_eq_true h339)
  refine c_seq<|c_region<|g_v rfl r_move<|g_v rfl r_move ?_
  replace hm:=bnd hm
  obtain ⟨⟨x340,x341,x342⟩,hx343,hm⟩:=hm
  refine g_cn ⟨w0,M,_,_,φ⟩ (fun _ h=>h) Try.call49 rfl rfl (c_pack_Word p0 i262 _ hx343) (fun _ _=>?_)
  refine g_v rfl r_move ?_
  iterate 3 refine g_v rfl (r_extract rfl rfl) ?_
  iterate 3 refine g_v rfl r_assign ?_
  refine g_nil<|d_then ?_
  refine c_flat [(0,.string p0),(7,.slice A260 l259.length c261),(8,.pointer (some ⟨g1,0,none⟩)),(9,.int .i64 i263),(10,.func (.func 99) #[] #[.pointer (some ⟨g1,0,none⟩)]),(14,.int .u16 x340),(15,.int .i64 x341),(16,.int .i64 x342)] ⟨rfl,rfl,rfl,rfl,rfl,rfl,rfl,rfl,trivial⟩ (fun u=>?_)
  refine c_seq<|c_region<|g_v rfl r_move<|g_v rfl (r_conv Try.underlying22 Try.underlying3 rfl rfl)<|g_v rfl (r_bits_and rfl rfl)<|g_v rfl r_assign<|g_nil<|d_then<|c_seq<|c_seq ?_
  refine c_region<|g_v rfl r_move<|g_v rfl (r_neq rfl rfl)<|g_v rfl r_move ?_
  refine g_if rfl rfl rfl rfl rfl (fun h345=>?_) (fun h345=>?_)
  ·
   replace hm:=ite_f hm (of_decide_eq_false h345)
   refine g_v rfl r_move<|g_do rfl rfl rfl rfl rfl h345<|g_v rfl r_move<|g_do rfl rfl rfl rfl rfl h345<|g_v rfl (r_geq rfl rfl)<|g_v rfl (r_pick0 rfl h345)<|g_nil<|d_then ?_
   refine c_flat [(0,.string p0),(7,.slice A260 l259.length c261),(8,.pointer (some ⟨g1,0,none⟩)),(10,.func (.func 99) #[] #[.pointer (some ⟨g1,0,none⟩)]),(15,.int .i64 x341),(17,.int .i64 (andI .i64 (w64 x340) 16383)),(63,.bool (decide (i263 ≤ andI .i64 (w64 x340) 16383)))] ⟨rfl,rfl,rfl,rfl,rfl,rfl,rfl,trivial⟩ (fun u=>?_)
   refine c_cond rfl (fun h346=>?_) (fun h346=>?_)
   ·
    replace hm:=ite_t hm (of_decide_eq_true h346)
    refine c_seq<|c_region ?_
    iterate 3 refine g_v rfl r_assign ?_
    refine g_nil<|d_then<|c_ret<|d_ret_then<|d_ret_block<|d_ret_then<|d_ret_block<|d_ret_then<|d_ret_block ?_
    replace hm:=nx_out (C:=(fun e : Unit ⊕ (ByteArray×Int×Int)=>Sum.elim (fun e=>(none : Option (ByteArray×Int×Int))) (fun x=>some x) e = some r)) hm hnx1 hr1
    replace hm : some ((⟨#[]⟩ : ByteArray),0,10) = some r:=hm
    cases hm
    exact d_retC () Try.results75 (res_tmp (res_tmp (res_tmp (res_nil rfl)))) trivial (fun W h=>ok_pre (H1:=[_]) (R1:=[_]) h (fun W hφ=>hφ)) (.inr rfl)
   replace hm:=ite_f hm (of_decide_eq_false h346)
   refine c_skip<|d_then<|c_seq<|c_region<|g_v rfl r_move<|g_v rfl r_move ?_
   replace hm:=bnd hm
   obtain ⟨x347,hx348,hm⟩:=hm
   refine g_cnv ⟨w0,M,(1000,g1,.cells #[.int .i64 i264] 3 (0,0))::H,(20,⟨.slice A260 l259.length c261,5,1,l259.length,l259.flatMap (fun x : Int=>[Value.int .u8 x])⟩)::R,φ⟩ (fun W h=>(ok_front (t:=100080) (t':=1000) h rfl)) Try.call99 rfl rfl rfl (c_pack_Name_c1 x341 g1 i264 _ hx348) (fun _ _=>?_)
   refine g_sta _ (fun W h=>(ok_front (t:=1000) (t':=100080) h rfl))<|g_nil<|d_then<|c_seq<|c_region<|g_v rfl r_move<|g_v rfl r_move<|g_v rfl r_assign<|g_v rfl r_assign<|g_nil ?_
   refine d_then<|c_exit<|d_exit_other rfl<|d_exit_then<|d_exit_block ?_
   obtain ⟨n349,hn349,hlp⟩:=nx_inl hm hnx1
   exact d_round (n349,l259,andI .i64 (w64 x340) 16383,andI .i64 (w64 x340) 16383,x347,A260,c261) ⟨hlp,hc261⟩ hn349 ⟨rfl,rfl,rfl,rfl,rfl,rfl,trivial⟩ (fun W h=>h.phi (fun W hφ=>hφ))
  replace hm:=ite_t hm (of_decide_eq_true h345)
  refine g_no rfl rfl rfl rfl rfl h345<|g_no rfl rfl rfl rfl rfl h345<|g_v rfl (r_pick1 rfl h345)<|g_nil<|d_then<|c_cond1 rfl rfl<|c_seq<|c_region ?_
  iterate 3 refine g_v rfl r_assign ?_
  refine g_nil<|d_then ?_
  refine c_flat [(4,.string (⟨#[]⟩ : ByteArray)),(5,.int .i64 0),(6,.int .i64 10)] ⟨rfl,rfl,rfl,trivial⟩ (fun u=>?_)
  refine c_ret<|d_ret_then<|d_ret_block<|d_ret_then<|d_ret_block<|d_ret_then<|d_ret_block ?_
  replace hm:=nx_out (C:=(fun e : Unit ⊕ (ByteArray×Int×Int)=>Sum.elim (fun e=>(none : Option (ByteArray×Int×Int))) (fun x=>some x) e = some r)) hm hnx1 hr1
  replace hm : some ((⟨#[]⟩ : ByteArray),0,10) = some r:=hm
  cases hm
  exact d_retC () Try.results75 (res_tmp (res_tmp (res_tmp (res_nil rfl)))) trivial (fun W h=>ok_pre (H1:=[_]) (R1:=[_]) h (fun W hφ=>hφ)) (.inr rfl)
 replace hm:=ite_f hm (of_decide_eq_false h339)
 refine c_seq<|c_region<|g_v rfl r_move<|g_v rfl (r_gtr rfl rfl)<|g_v rfl r_assign<|g_nil<|d_then ?_
 refine c_cond rfl (fun h350=>?_) (fun h350=>?_)
 ·
  replace hm:=ite_t hm (of_decide_eq_true h350)
  refine c_seq<|c_region ?_
  iterate 3 refine g_v rfl r_assign ?_
  refine g_nil<|d_then<|c_ret<|d_ret_block<|d_ret_then<|d_ret_block<|d_ret_then<|d_ret_block ?_
  replace hm:=nx_out (C:=(fun e : Unit ⊕ (ByteArray×Int×Int)=>Sum.elim (fun e=>(none : Option (ByteArray×Int×Int))) (fun x=>some x) e = some r)) hm hnx1 hr1
  replace hm : some ((⟨#[]⟩ : ByteArray),0,10) = some r:=hm
  cases hm
  exact d_retC () Try.results75 (res_tmp (res_tmp (res_tmp (res_nil rfl)))) trivial (fun W h=>ok_pre (H1:=[_]) (R1:=[_]) h (fun W hφ=>hφ)) (.inr rfl)
 replace hm:=ite_f hm (of_decide_eq_false h350)
 refine c_skip<|d_normal_block<|d_then<|c_seq<|c_region ?_
 iterate 3 refine g_v rfl r_move ?_
 refine g_v rfl (r_conv Try.underlying5 Try.underlying3 rfl rfl) ?_
 replace hm:=bnd hm
 obtain ⟨⟨x351,x352,x353⟩,hx354,hm⟩:=hm
 refine g_cn ⟨w0,M,_,_,φ⟩ (fun _ h=>h) Try.call78 rfl rfl (c_pack_Raw p0 x319 (w64 x318) _ hx354) (fun _ _=>?_)
 refine g_v rfl r_move ?_
 iterate 3 refine g_v rfl (r_extract rfl rfl) ?_
 iterate 3 refine g_v rfl r_assign ?_
 refine g_nil<|d_then ?_
 refine c_flat [(0,.string p0),(7,.slice A260 l259.length c261),(8,.pointer (some ⟨g1,0,none⟩)),(9,.int .i64 i263),(10,.func (.func 99) #[] #[.pointer (some ⟨g1,0,none⟩)]),(11,.int .u8 x318),(13,.int .i64 x353),(18,.string x351),(19,.int .i64 x352)] ⟨rfl,rfl,rfl,rfl,rfl,rfl,rfl,rfl,rfl,trivial⟩ (fun u=>?_)
 refine c_seq<|c_block<|c_seq<|c_region<|g_v rfl r_move<|g_v rfl (r_neq rfl rfl)<|g_v rfl r_assign<|g_nil<|d_then ?_
 refine c_cond rfl (fun h356=>?_) (fun h356=>?_)
 ·
  replace hm:=ite_t hm (of_decide_eq_true h356)
  refine c_seq<|c_region<|g_v rfl r_move ?_
  iterate 3 refine g_v rfl r_assign ?_
  refine g_nil<|d_then<|c_ret<|d_ret_block<|d_ret_then<|d_ret_block<|d_ret_then<|d_ret_block ?_
  replace hm:=nx_out (C:=(fun e : Unit ⊕ (ByteArray×Int×Int)=>Sum.elim (fun e=>(none : Option (ByteArray×Int×Int))) (fun x=>some x) e = some r)) hm hnx1 hr1
  replace hm : some ((⟨#[]⟩ : ByteArray),0,x353) = some r:=hm
  cases hm
  exact d_retC () Try.results75 (res_tmp (res_tmp (res_tmp (res_nil rfl)))) trivial (fun W h=>ok_pre (H1:=[_]) (R1:=[_]) h (fun W hφ=>hφ)) (.inr rfl)
 replace hm:=ite_f hm (of_decide_eq_false h356)
 refine c_seq<|c_region<|g_v rfl r_move<|g_v rfl (r_lenL Try.underlying66 rfl)<|g_v rfl (r_add rfl rfl rfl)<|g_v rfl r_move<|g_v rfl (r_len Try.underlying9 rfl)<|g_v rfl (r_add rfl rfl rfl)<|g_v rfl (r_add rfl rfl rfl)<|g_v rfl (r_gtr rfl rfl) ?_
 refine g_v rfl r_assign<|g_nil<|d_then ?_
 refine c_flat [(0,.string p0),(7,.slice A260 l259.length c261),(8,.pointer (some ⟨g1,0,none⟩)),(9,.int .i64 i263),(10,.func (.func 99) #[] #[.pointer (some ⟨g1,0,none⟩)]),(11,.int .u8 x318),(18,.string x351),(19,.int .i64 x352),(85,.bool (decide (255 < w64 ((w64 ((w64 ((l259.length : Int) + 1)) + (x351.size : Int))) + 1))))] ⟨rfl,rfl,rfl,rfl,rfl,rfl,rfl,rfl,rfl,trivial⟩ (fun u=>?_)
 refine c_cond rfl (fun h357=>?_) (fun h357=>?_)
 ·
  replace hm:=ite_t hm (of_decide_eq_true h357)
  refine c_seq<|c_region ?_
  iterate 3 refine g_v rfl r_assign ?_
  refine g_nil<|d_then<|c_ret<|d_ret_block<|d_ret_then<|d_ret_block<|d_ret_then<|d_ret_block ?_
  replace hm:=nx_out (C:=(fun e : Unit ⊕ (ByteArray×Int×Int)=>Sum.elim (fun e=>(none : Option (ByteArray×Int×Int))) (fun x=>some x) e = some r)) hm hnx1 hr1
  replace hm : some ((⟨#[]⟩ : ByteArray),0,11) = some r:=hm
  cases hm
  exact d_retC () Try.results75 (res_tmp (res_tmp (res_tmp (res_nil rfl)))) trivial (fun W h=>ok_pre (H1:=[_]) (R1:=[_]) h (fun W hφ=>hφ)) (.inr rfl)
 replace hm:=ite_f hm (of_decide_eq_false h357)
 refine c_skip<|d_normal_block<|d_then<|c_seq<|c_region<|g_v rfl r_move<|g_v rfl r_move ?_
 refine g_e rfl (e_lit (tag:=100960) (l:=[x318]) (enc:=(fun x : Int=>[Value.int .u8 x])) (sz:=1) rfl Try.underlying66 (lit5_25 _) rfl rfl (fun _=>rfl)) (fun g358 _=>?_)
 replace hm:=bnd hm
 obtain ⟨l359,hl359,hm⟩:=hm
 refine g_e rfl (e_appR (enc:=(fun x : Int=>[Value.int .u8 x])) (l:=l259) (l1:=[x318]) (l2:=l359) (tag:=20) Try.underlying66 inf5_0 rfl (by decide) (by decide) (fun _=>rfl) (fun _=>rfl) rfl hc261 rfl rfl (fun W hS=>rowCl (tag:=100960) rfl W hS) hl359) (fun ⟨A360,c361⟩ hc361=>?_)
 refine g_v rfl r_move ?_
 replace hm:=bnd hm
 obtain ⟨l362,hl362,hm⟩:=hm
 refine g_e rfl (e_appRS (l:=l359) (l2:=l362) (tag:=20) Try.underlying66 Try.underlying9 inf5_0 rfl hc361 rfl rfl hl362) (fun ⟨A363,c364⟩ hc364=>?_)
 refine g_v rfl r_assign<|g_nil<|d_then<|c_region<|g_v rfl r_move<|g_v rfl r_assign<|g_nil<|d_normal_block ?_
 obtain ⟨n365,hn365,hlp⟩:=nx_inl hm hnx1
 exact d_round (n365,l362,x352,i263,i264,A363,c364) ⟨hlp,hc364⟩ hn365 ⟨rfl,rfl,rfl,rfl,rfl,rfl,trivial⟩ (fun W h=>(h.dropR (t:=100960) rfl).phi (fun W hφ=>hφ))
theorem bld29_26  : ∀ W,(Instr.build 29 #[]).run Try.prog W = .ok (.agg #[.string (⟨#[]⟩ : ByteArray),.int .u16 0,.int .u16 0]) W:=fun _=>by kernel_rfl
noncomputable def m_message_question (p0 : ByteArray) (p1 : Int) : Option (GQuestion×Int×Int):=
  (m_pack_Name p0 p1).bind fun (z6 : ByteArray×Int×Int)=>
  if z6.2.2 ≠ 0 then
    some ((⟨(⟨#[]⟩ : ByteArray),0,0⟩ : GQuestion),0,z6.2.2)
  else
    (m_pack_Word p0 z6.2.1).bind fun (z12 : Int×Int×Int)=>
    if z12.2.2 ≠ 0 then
      some ((⟨(⟨#[]⟩ : ByteArray),0,0⟩ : GQuestion),0,z12.2.2)
    else
      (m_pack_Word p0 z12.2.1).bind fun (z18 : Int×Int×Int)=>
      some ((⟨z6.1,z12.1,z18.1⟩ : GQuestion),z18.2.1,z18.2.2)
theorem c_message_question {w0 : World} {M : Nat→Prop} {H : List (Nat×Nat×Obj)} {R : List (Nat×Row)} {φ : World→Prop} (p0 : ByteArray) (p1 : Int) (r : GQuestion×Int×Int) (hm : m_message_question p0 p1 = some r) :
    Cn Try.prog 51 #[.string p0,.int .i64 p1] ⟨w0,M,H,R,φ⟩ (fun x : Unit=>.tuple #[.agg #[.string r.1.fName,.int .u16 r.1.fType,.int .u16 r.1.fClass],.int .i64 r.2.1,.int .i64 r.2.2]) (fun x=>True) (fun x=>⟨w0,M,H,R,φ⟩):=by
 unfold m_message_question at hm
 refine cn_intro (fn:=Try.f51) (N:=46) Try.func51 rfl Try.ntmps51 rfl<|c_seq<|c_region ?_
 refine g_e rfl (e_alloc 100040 Try.zeroValue29) (fun g1 _=>?_)
 refine g_v rfl r_assign<|g_v rfl r_assign<|g_nil<|d_then<|c_seq<|c_region<|g_v rfl r_move<|g_v rfl r_move ?_
 replace hm:=bnd hm
 obtain ⟨⟨x2,x3,x4⟩,hx5,hm⟩:=hm
 refine g_cn ⟨w0,M,_,_,φ⟩ (fun _ h=>h) Try.call75 rfl rfl (c_pack_Name p0 p1 _ hx5) (fun _ _=>?_)
 refine g_v rfl r_move ?_
 iterate 3 refine g_v rfl (r_extract rfl rfl) ?_
 iterate 3 refine g_v rfl r_assign ?_
 refine g_nil<|d_then ?_
 refine c_flat [(0,.string p0),(1,.int .i64 x3),(4,.pointer (some ⟨g1,0,none⟩)),(7,.string x2),(8,.int .i64 x4)] ⟨rfl,rfl,rfl,rfl,rfl,trivial⟩ (fun u=>?_)
 refine c_sta ⟨w0,M,(100040,g1,.cells #[.string (⟨#[]⟩ : ByteArray),.int .u16 0,.int .u16 0] 29 (0,0))::H,R,φ⟩ (fun _ h=>h)<|c_seq<|c_seq<|c_region<|g_v rfl r_move<|g_v rfl (r_neq rfl rfl)<|g_nil<|d_then ?_
 refine c_cond rfl (fun h7=>?_) (fun h7=>?_)
 ·
  replace hm:=ite_t hm (of_decide_eq_true h7)
  refine c_seq<|c_region<|g_v rfl (r_build _ rfl (bld29_26))<|g_v rfl r_move<|g_storeL (tag:=100040) rfl rfl rfl rfl Try.sizeOf29 rfl rfl<|g_v rfl r_assign<|g_v rfl r_assign<|g_nil<|d_then<|c_ret ?_
  refine d_ret_then ?_
  cases hm
  exact d_retC () Try.results51 (res_agg (tag:=100040) rfl rfl Try.isAgg29 Try.sizeOf29 (res_tmp (res_tmp (res_nil rfl)))) trivial (fun W h=>ok_pre (H1:=[_]) (R1:=[]) h (fun W hφ=>hφ)) (.inr rfl)
 replace hm:=ite_f hm (of_decide_eq_false h7)
 refine c_skip<|d_then<|c_seq<|c_region<|g_v rfl r_move<|g_v rfl r_move ?_
 replace hm:=bnd hm
 obtain ⟨⟨x8,x9,x10⟩,hx11,hm⟩:=hm
 refine g_cn ⟨w0,M,_,_,φ⟩ (fun _ h=>h) Try.call49 rfl rfl (c_pack_Word p0 x3 _ hx11) (fun _ _=>?_)
 refine g_v rfl r_move ?_
 iterate 3 refine g_v rfl (r_extract rfl rfl) ?_
 iterate 3 refine g_v rfl r_assign ?_
 refine g_nil<|d_then ?_
 refine c_flat [(0,.string p0),(1,.int .i64 x9),(4,.pointer (some ⟨g1,0,none⟩)),(7,.string x2),(8,.int .i64 x10),(9,.int .u16 x8)] ⟨rfl,rfl,rfl,rfl,rfl,rfl,trivial⟩ (fun u=>?_)
 refine c_seq<|c_seq<|c_region<|g_v rfl r_move<|g_v rfl (r_neq rfl rfl)<|g_nil<|d_then ?_
 refine c_cond rfl (fun h13=>?_) (fun h13=>?_)
 ·
  replace hm:=ite_t hm (of_decide_eq_true h13)
  refine c_seq<|c_region<|g_v rfl (r_build _ rfl (bld29_26))<|g_v rfl r_move<|g_storeL (tag:=100040) rfl rfl rfl rfl Try.sizeOf29 rfl rfl<|g_v rfl r_assign<|g_v rfl r_assign<|g_nil<|d_then<|c_ret ?_
  refine d_ret_then ?_
  cases hm
  exact d_retC () Try.results51 (res_agg (tag:=100040) rfl rfl Try.isAgg29 Try.sizeOf29 (res_tmp (res_tmp (res_nil rfl)))) trivial (fun W h=>ok_pre (H1:=[_]) (R1:=[]) h (fun W hφ=>hφ)) (.inr rfl)
 replace hm:=ite_f hm (of_decide_eq_false h13)
 refine c_skip<|d_then<|c_seq<|c_region<|g_v rfl r_move<|g_v rfl r_move ?_
 replace hm:=bnd hm
 obtain ⟨⟨x14,x15,x16⟩,hx17,hm⟩:=hm
 refine g_cn ⟨w0,M,_,_,φ⟩ (fun _ h=>h) Try.call49 rfl rfl (c_pack_Word p0 x9 _ hx17) (fun _ _=>?_)
 refine g_v rfl r_move ?_
 iterate 3 refine g_v rfl (r_extract rfl rfl) ?_
 iterate 3 refine g_v rfl r_assign ?_
 refine g_nil<|d_then ?_
 refine c_flat [(1,.int .i64 x15),(4,.pointer (some ⟨g1,0,none⟩)),(7,.string x2),(8,.int .i64 x16),(9,.int .u16 x8),(10,.int .u16 x14)] ⟨rfl,rfl,rfl,rfl,rfl,rfl,trivial⟩ (fun u=>?_)
 refine c_seq<|c_region ?_
 iterate 3 refine g_v rfl r_move ?_
 refine g_v rfl (r_build _ rfl (bld29_5 _ _ _))<|g_v rfl r_move<|g_v rfl r_move<|g_storeL (tag:=100040) rfl rfl rfl rfl Try.sizeOf29 rfl rfl<|g_v rfl r_assign<|g_v rfl r_assign<|g_nil<|d_then ?_
 refine c_flat [(4,.pointer (some ⟨g1,0,none⟩)),(5,.int .i64 x15),(6,.int .i64 x16)] ⟨rfl,rfl,rfl,trivial⟩ (fun u=>?_)
 refine c_sta ⟨w0,M,(100040,g1,.cells #[.string x2,.int .u16 x8,.int .u16 x14] 29 (0,0))::H,R,φ⟩ (fun _ h=>h)<|c_ret ?_
 cases hm
 exact d_retC () Try.results51 (res_agg (tag:=100040) rfl rfl Try.isAgg29 Try.sizeOf29 (res_tmp (res_tmp (res_nil rfl)))) trivial (fun W h=>ok_pre (H1:=[_]) (R1:=[]) h (fun W hφ=>hφ)) (.inr rfl)
noncomputable def m_message_many_50_j1  (l95 : List GQuestion) (i98 : Int) : Option ((List GQuestion)×Int×Int):=
  some (l95,i98,0)
noncomputable def m_message_many_50_s2 (p2 : Int) (p0 : ByteArray) (l116 : List GQuestion) (i119 : Int) (i120 : Int) : Option (((List GQuestion)×Int×Int) ⊕ (((List GQuestion)×Int) ⊕ ((List GQuestion)×Int×Int))):=
  if i120 < p2 then
    (m_message_question p0 i119).bind fun (z144 : GQuestion×Int×Int)=>
    if z144.2.2 ≠ 0 then
      some (.inr (.inr (([] : List GQuestion),0,z144.2.2)))
    else
      (app 24 l116 [z144.1]).bind fun l148=>
      some (.inl (l148,z144.2.1,IntKind.u16.wrap (i120 + 1)))
  else
    some (.inr (.inl (l116,i119)))
noncomputable def m_message_many_50 (p0 : ByteArray) (p1 : Int) (p2 : Int) : Option ((List GQuestion)×Int×Int):=
  (loop (fun s=>m_message_many_50_s2 p2 p0 s.1 s.2.1 s.2.2) (([] : List GQuestion),p1,0)).bind fun e=>Sum.elim (fun e=>m_message_many_50_j1 e.1 e.2) (fun x=>some x) e
theorem c_message_many_50 {w0 : World} {M : Nat→Prop} {H : List (Nat×Nat×Obj)} {R : List (Nat×Row)} {φ : World→Prop} (p0 : ByteArray) (p1 : Int) (p2 : Int) (r : (List GQuestion)×Int×Int) (hm : m_message_many_50 p0 p1 p2 = some r) :
    Cn Try.prog 50 #[.string p0,.int .i64 p1,.int .u16 p2,.func (.func 51) #[] #[]] ⟨w0,M,H,R,φ⟩ (fun x : Option Addr×Nat=>.tuple #[.slice x.1 r.1.length x.2,.int .i64 r.2.1,.int .i64 r.2.2]) (fun x=>r.1.length ≤ x.2) (fun x=>⟨w0,M,H,(2000,⟨.slice x.1 r.1.length x.2,29,3,r.1.length,r.1.flatMap GQuestion.enc⟩)::R,φ⟩):=by
 unfold m_message_many_50 at hm
 refine cn_intro (fn:=Try.f50) (N:=37) Try.func50 rfl Try.ntmps50 rfl<|c_seq<|c_region ?_
 iterate 3 refine g_v rfl r_assign ?_
 refine g_nil<|d_then<|c_seq<|c_region<|g_v rfl r_assign<|g_nil<|d_then<|c_seq<|c_seq<|c_region ?_
 refine g_v rfl r_move<|g_v rfl r_move<|g_nil<|d_then<|c_sta _ (fun W h=>nilR h 16 29 3) ?_
 refine c_cut (ι:=(List GQuestion)×Int×Option Addr×Nat) [1,11] (fun ⟨l95,i98,A96,c97⟩=>[(1,.int .i64 i98),(11,.slice A96 l95.length c97)]) (fun ⟨l95,i98,A96,c97⟩=>⟨w0,M,H,(16,⟨.slice A96 l95.length c97,29,3,l95.length,l95.flatMap GQuestion.enc⟩)::R,φ⟩) (fun ⟨l95,i98,A96,c97⟩=>m_message_many_50_j1 l95 i98 = some r∧l95.length ≤ c97) ?_ (fun ⟨l95,i98,A96,c97⟩ u ⟨hm,hc97⟩=>?_)
 ·
  refine c_block ?_
  replace hm:=bnd hm
  obtain ⟨out2,hl2,hr2⟩:=hm
  obtain ⟨n138',hl2⟩:=loop_lp hl2
  refine c_loopU (ι:=Nat×(List GQuestion)×Int×Int×Option Addr×Nat) [0,1,3,11,15,16] (fun ⟨n138,l116,i119,i120,A117,c118⟩=>[(1,.int .i64 i119),(11,.slice A117 l116.length c118),(16,.int .u16 i120)]) (fun ⟨n138,l116,i119,i120,A117,c118⟩=>⟨w0,M,H,(16,⟨.slice A117 l116.length c118,29,3,l116.length,l116.flatMap GQuestion.enc⟩)::R,φ⟩) (fun ⟨n138,l116,i119,i120,A117,c118⟩=>Lp (fun s=>m_message_many_50_s2 p2 p0 s.1 s.2.1 s.2.2) n138 (l116,i119,i120) out2∧l116.length ≤ c118) (fun ⟨n138,l116,i119,i120,A117,c118⟩=>n138) (n138',([] : List GQuestion),p1,0,none,0) ⟨hl2,(Nat.le_refl 0)⟩ ⟨rfl,rfl,rfl,rfl,rfl,rfl,trivial⟩ (fun W h=>h.phi (fun W hφ=>hφ)) (fun ⟨n138,l116,i119,i120,A117,c118⟩ u ⟨hlp,hc118⟩=>?_)
  obtain ⟨o2,hm,hnx2⟩:=lp_step hlp
  clear hlp
  replace hm : m_message_many_50_s2 p2 p0 l116 i119 i120 = some o2:=hm
  unfold m_message_many_50_s2 at hm
  refine c_flat [(0,.string p0),(1,.int .i64 i119),(3,.func (.func 51) #[] #[]),(11,.slice A117 l116.length c118),(15,.int .u16 p2),(16,.int .u16 i120)] ⟨rfl,rfl,rfl,rfl,rfl,rfl,trivial⟩ (fun u=>?_)
  refine c_sta ⟨w0,M,H,(16,⟨.slice A117 l116.length c118,29,3,l116.length,l116.flatMap GQuestion.enc⟩)::R,φ⟩ (fun _ h=>h)<|c_seq<|c_region<|g_v rfl (r_lss rfl rfl)<|g_nil<|d_then<|c_seq ?_
  refine c_cond rfl (fun h139=>?_) (fun h139=>?_)
  ·
   replace hm:=ite_t hm (of_decide_eq_true h139)
   refine c_skip<|d_then<|c_seq<|c_block<|c_seq<|c_region ?_
   iterate 3 refine g_v rfl r_move ?_
   replace hm:=bnd hm
   obtain ⟨⟨x140,x141,x142⟩,hx143,hm⟩:=hm
   refine g_cnv ⟨w0,M,_,_,φ⟩ (fun _ h=>h) Try.call51 rfl rfl rfl (c_message_question p0 i119 _ hx143) (fun _ _=>?_)
   refine g_v rfl r_move ?_
   iterate 3 refine g_v rfl (r_extract rfl rfl) ?_
   refine g_e rfl (e_alloc 100120 Try.zeroValue29) (fun g145 _=>?_)
   refine g_storeL (tag:=100120) rfl rfl rfl rfl Try.sizeOf29 rfl rfl<|g_v rfl r_assign<|g_v rfl r_assign<|g_nil<|d_then ?_
   refine c_flat [(0,.string p0),(3,.func (.func 51) #[] #[]),(11,.slice A117 l116.length c118),(12,.pointer (some ⟨g145,0,none⟩)),(13,.int .i64 x141),(14,.int .i64 x142),(15,.int .u16 p2),(16,.int .u16 i120)] ⟨rfl,rfl,rfl,rfl,rfl,rfl,rfl,rfl,trivial⟩ (fun u=>?_)
   refine c_sta ⟨w0,M,(100120,g145,.cells #[.string x140.fName,.int .u16 x140.fType,.int .u16 x140.fClass] 29 (0,0))::H,(16,⟨.slice A117 l116.length c118,29,3,l116.length,l116.flatMap GQuestion.enc⟩)::R,φ⟩ (fun _ h=>h)<|c_seq<|c_seq<|c_region<|g_v rfl r_move<|g_v rfl (r_neq rfl rfl)<|g_nil<|d_then ?_
   refine c_cond rfl (fun h146=>?_) (fun h146=>?_)
   ·
    replace hm:=ite_t hm (of_decide_eq_true h146)
    refine c_seq<|c_region<|g_v rfl r_move ?_
    iterate 3 refine g_v rfl r_assign ?_
    refine g_nil<|d_then<|c_ret<|d_ret_then<|d_ret_block<|d_ret_then<|d_ret_then<|d_ret_block<|d_ret_then<|d_ret_then ?_
    replace hm:=nx_out (C:=(fun e : ((List GQuestion)×Int) ⊕ ((List GQuestion)×Int×Int)=>Sum.elim (fun e=>m_message_many_50_j1 e.1 e.2) (fun x=>some x) e = some r)) hm hnx2 hr2
    replace hm : some (([] : List GQuestion),0,x142) = some r:=hm
    cases hm
    refine d_sta _ (fun W h=>nilR h 21 29 3)<|d_sta _ (fun W h=>ok_frontR (t:=21) (t':=2000) h rfl) ?_
    exact d_retC (none,0) Try.results50 (res_tmp (res_tmp (res_tmp (res_nil rfl)))) (Nat.le_refl 0) (fun W h=>((h.dropR (t:=16) rfl).dropH (t:=100120) rfl).phi (fun W hφ=>hφ)) (.inr rfl)
   replace hm:=ite_f hm (of_decide_eq_false h146)
   refine c_skip<|d_then<|c_region<|g_v rfl r_move<|g_v rfl (r_loadA (tag:=100120) rfl rfl Try.isAgg29 Try.sizeOf29 rfl rfl) ?_
   refine g_e rfl (e_lit (tag:=100310) (l:=[x140]) (enc:=GQuestion.enc) (sz:=3) rfl Try.underlying23 (lit29_6 _ _ _) rfl rfl (fun _=>rfl)) (fun g147 _=>?_)
   replace hm:=bnd hm
   obtain ⟨l148,hl148,hm⟩:=hm
   refine g_e rfl (e_appR (enc:=GQuestion.enc) (l:=l116) (l1:=[x140]) (l2:=l148) (tag:=16) Try.underlying23 inf29_8 rfl (by decide) (by decide) (fun _=>rfl) (fun _=>rfl) rfl hc118 rfl rfl (fun W hS=>rowCl (tag:=100310) rfl W hS) hl148) (fun ⟨A149,c150⟩ hc150=>?_)
   refine g_v rfl r_move<|g_v rfl r_assign<|g_v rfl r_assign<|g_nil<|d_normal_block<|d_then ?_
   refine c_flat [(0,.string p0),(1,.int .i64 x141),(3,.func (.func 51) #[] #[]),(11,.slice A149 l148.length c150),(15,.int .u16 p2),(16,.int .u16 i120)] ⟨rfl,rfl,rfl,rfl,rfl,rfl,trivial⟩ (fun u=>?_)
   refine c_sta ⟨w0,M,(100120,g145,.cells #[.string x140.fName,.int .u16 x140.fType,.int .u16 x140.fClass] 29 (0,0))::H,(100310,⟨.slice (some ⟨g147,0,none⟩) [x140].length 1,29,3,[x140].length,[x140].flatMap GQuestion.enc⟩)::(16,⟨.slice A149 l148.length c150,29,3,l148.length,l148.flatMap GQuestion.enc⟩)::R,φ⟩ (fun _ h=>h)<|c_region<|g_v rfl (r_add rfl rfl rfl)<|g_v rfl r_move<|g_nil ?_
   obtain ⟨n151,hn151,hlp⟩:=nx_inl hm hnx2
   exact d_round (n151,l148,x141,IntKind.u16.wrap (i120 + 1),A149,c150) ⟨hlp,hc150⟩ hn151 ⟨rfl,rfl,rfl,rfl,rfl,rfl,trivial⟩ (fun W h=>((h.dropR (t:=100310) rfl).dropH (t:=100120) rfl).phi (fun W hφ=>hφ))
  replace hm:=ite_f hm (of_decide_eq_false h139)
  refine c_exit<|d_exit_then<|d_exit_then<|d_exit_block ?_
  replace hm:=nx_out (C:=(fun e : ((List GQuestion)×Int) ⊕ ((List GQuestion)×Int×Int)=>Sum.elim (fun e=>m_message_many_50_j1 e.1 e.2) (fun x=>some x) e = some r)) hm hnx2 hr2
  exact d_round (l116,i119,A117,c118) ⟨hm,hc118⟩ Nat.zero_lt_one ⟨rfl,rfl,trivial⟩ (fun W h=>h.phi (fun W hφ=>hφ))
 unfold m_message_many_50_j1 at hm
 refine d_flat [(1,.int .i64 i98),(11,.slice A96 l95.length c97)] ⟨rfl,rfl,trivial⟩ (fun u=>?_)
 refine d_sta ⟨w0,M,H,(16,⟨.slice A96 l95.length c97,29,3,l95.length,l95.flatMap GQuestion.enc⟩)::R,φ⟩ (fun _ h=>h)<|d_then<|c_seq<|c_region<|g_v rfl r_move<|g_v rfl r_move ?_
 iterate 3 refine g_v rfl r_assign ?_
 refine g_nil<|d_then<|c_ret ?_
 cases hm
 refine d_sta _ (fun W h=>ok_frontR (t:=16) (t':=2000) h rfl) ?_
 exact d_retC (A96,c97) Try.results50 (res_tmp (res_tmp (res_tmp (res_nil rfl)))) hc97 (fun W h=>h.phi (fun W hφ=>hφ)) (.inr rfl)
theorem bld93_27 (z0 : Nat) (z1 : Nat) (z2 : Nat) : ∀ W,(Instr.build 93 #[(0,.pointer (some ⟨z0,9,none⟩)),(1,.pointer (some ⟨z1,10,none⟩)),(2,.pointer (some ⟨z2,11,none⟩))]).run Try.prog W = .ok (.agg #[.pointer (some ⟨z0,9,none⟩),.pointer (some ⟨z1,10,none⟩),.pointer (some ⟨z2,11,none⟩)]) W:=fun _=>by kernel_rfl
theorem bld42_28  : ∀ W,(Instr.build 42 #[]).run Try.prog W = .ok (.agg #[.string (⟨#[]⟩ : ByteArray),.int .u16 0,.int .u16 0,.int .u32 0,.string (⟨#[]⟩ : ByteArray)]) W:=fun _=>by kernel_rfl
noncomputable def m_record_Get_c1 (p0 : Int) : Option (GRR×Int×Int):=
  some ((⟨(⟨#[]⟩ : ByteArray),0,0,0,(⟨#[]⟩ : ByteArray)⟩ : GRR),0,p0)
theorem c_record_Get_c1 {w0 : World} {M : Nat→Prop} {H : List (Nat×Nat×Obj)} {R : List (Nat×Row)} {φ : World→Prop} (p0 : Int) (r : GRR×Int×Int) (hm : m_record_Get_c1 p0 = some r) :
    Cn Try.prog 76 #[.int .i64 p0] ⟨w0,M,H,R,φ⟩ (fun x : Unit=>.tuple #[.agg #[.string r.1.fName,.int .u16 r.1.fType,.int .u16 r.1.fClass,.int .u32 r.1.fTTL,.string r.1.fData],.int .i64 r.2.1,.int .i64 r.2.2]) (fun x=>True) (fun x=>⟨w0,M,H,R,φ⟩):=by
 unfold m_record_Get_c1 at hm
 refine cn_intro (fn:=Try.f76) (N:=7) Try.func76 rfl Try.ntmps76 rfl<|c_seq<|c_region ?_
 refine g_e rfl (e_alloc 100020 Try.zeroValue42) (fun g1 _=>?_)
 refine g_v rfl r_assign<|g_v rfl r_assign<|g_nil<|d_then<|c_seq<|c_region<|g_v rfl (r_build _ rfl (bld42_28))<|g_v rfl r_move<|g_storeL (tag:=100020) rfl rfl rfl rfl Try.sizeOf42 rfl rfl<|g_v rfl r_assign ?_
 refine g_v rfl r_assign<|g_nil<|d_then<|c_ret ?_
 cases hm
 exact d_retC () Try.results76 (res_agg (tag:=100020) rfl rfl Try.isAgg42 Try.sizeOf42 (res_tmp (res_tmp (res_nil rfl)))) trivial (fun W h=>ok_pre (H1:=[_]) (R1:=[]) h (fun W hφ=>hφ)) (.inr rfl)
noncomputable def m_pack_Long (p0 : ByteArray) (p1 : Int) : Option (Int×Int×Int):=
  (m_pack_number p0 p1 4).bind fun (z5 : Int×Int×Int)=>
  some (z5.1,z5.2.1,z5.2.2)
theorem c_pack_Long {w0 : World} {M : Nat→Prop} {H : List (Nat×Nat×Obj)} {R : List (Nat×Row)} {φ : World→Prop} (p0 : ByteArray) (p1 : Int) (r : Int×Int×Int) (hm : m_pack_Long p0 p1 = some r) :
    Cn Try.prog 77 #[.string p0,.int .i64 p1] ⟨w0,M,H,R,φ⟩ (fun x : Unit=>.tuple #[.int .u32 r.1,.int .i64 r.2.1,.int .i64 r.2.2]) (fun x=>True) (fun x=>⟨w0,M,H,R,φ⟩):=by
 unfold m_pack_Long at hm
 refine cn_intro (fn:=Try.f77) (N:=13) Try.func77 rfl Try.ntmps77 rfl<|c_seq<|c_region ?_
 iterate 3 refine g_v rfl r_assign ?_
 refine g_nil<|d_then<|c_seq<|c_region<|g_v rfl r_move<|g_v rfl r_move ?_
 replace hm:=bnd hm
 obtain ⟨⟨x1,x2,x3⟩,hx4,hm⟩:=hm
 refine g_cn ⟨w0,M,_,_,φ⟩ (fun _ h=>h) Try.call74 rfl rfl (c_pack_number p0 p1 4 _ hx4) (fun _ _=>?_)
 iterate 3 refine g_v rfl (r_extract rfl rfl) ?_
 iterate 3 refine g_v rfl r_assign ?_
 refine g_nil<|d_then ?_
 refine c_flat [(4,.int .u32 x1),(5,.int .i64 x2),(6,.int .i64 x3)] ⟨rfl,rfl,rfl,trivial⟩ (fun u=>?_)
 refine c_sta ⟨w0,M,H,R,φ⟩ (fun _ h=>h)<|c_ret ?_
 cases hm
 exact d_retC () Try.results77 (res_tmp (res_tmp (res_tmp (res_nil rfl)))) trivial (fun W h=>ok_pre (H1:=[]) (R1:=[]) h (fun W hφ=>hφ)) (.inr rfl)
noncomputable def m_record_full_j1 (p0 : ByteArray) (p2 : Grecord_shape) (i34 : Int) (s35 : ByteArray) : Option (ByteArray×Int×Int):=
  (m_pack_Raw p0 i34 p2.fbehind).bind fun (z40 : ByteArray×Int×Int)=>
  (sadd s35 z40.1).bind fun s41=>
  some (s41,z40.2.1,z40.2.2)
noncomputable def m_record_full_s2 (p2 : Grecord_shape) (p0 : ByteArray) (i53 : Int) (s54 : ByteArray) (i55 : Int) : Option ((Int×ByteArray×Int) ⊕ ((Int×ByteArray) ⊕ (ByteArray×Int×Int))):=
  if i55 < p2.fnames then
    (m_pack_Name p0 i53).bind fun (z73 : ByteArray×Int×Int)=>
    if z73.2.2 ≠ 0 then
      some (.inr (.inr ((⟨#[]⟩ : ByteArray),0,z73.2.2)))
    else
      (sadd s54 z73.1).bind fun s75=>
      some (.inl (z73.2.1,s75,w64 (i55 + 1)))
  else
    some (.inr (.inl (i53,s54)))
noncomputable def m_record_full (p0 : ByteArray) (p1 : Int) (p2 : Grecord_shape) : Option (ByteArray×Int×Int):=
  (m_pack_Raw p0 p1 p2.fahead).bind fun (z6 : ByteArray×Int×Int)=>
  if z6.2.2 ≠ 0 then
    some ((⟨#[]⟩ : ByteArray),0,z6.2.2)
  else
    (loop (fun s=>m_record_full_s2 p2 p0 s.1 s.2.1 s.2.2) (z6.2.1,z6.1,0)).bind fun e=>Sum.elim (fun e=>m_record_full_j1 p0 p2 e.1 e.2) (fun x=>some x) e
theorem c_record_full {w0 : World} {M : Nat→Prop} {H : List (Nat×Nat×Obj)} {R : List (Nat×Row)} {φ : World→Prop} (p0 : ByteArray) (p1 : Int) (p2 : Grecord_shape) (r : ByteArray×Int×Int) (hm : m_record_full p0 p1 p2 = some r) :
    Cn Try.prog 79 #[.string p0,.int .i64 p1,.agg #[.int .i64 p2.fahead,.int .i64 p2.fnames,.int .i64 p2.fbehind]] ⟨w0,M,H,R,φ⟩ (fun x : Unit=>.tuple #[.string r.1,.int .i64 r.2.1,.int .i64 r.2.2]) (fun x=>True) (fun x=>⟨w0,M,H,R,φ⟩):=by
 unfold m_record_full at hm
 refine cn_intro (fn:=Try.f79) (N:=60) Try.func79 rfl Try.ntmps79 rfl<|c_seq<|c_region ?_
 refine g_e rfl (e_box 100050 rfl) (fun g1 _=>?_)
 iterate 3 refine g_v rfl r_assign ?_
 refine g_nil<|d_then<|c_seq<|c_region<|g_v rfl r_move<|g_v rfl r_move<|g_v rfl (r_field (n:=0) Try.underlying97 rfl Try.sizeOf3 rfl rfl)<|g_v rfl (r_load (tag:=100050) rfl rfl rfl Try.isAgg3) ?_
 replace hm:=bnd hm
 obtain ⟨⟨x2,x3,x4⟩,hx5,hm⟩:=hm
 refine g_cn ⟨w0,M,_,_,φ⟩ (fun _ h=>h) Try.call78 rfl rfl (c_pack_Raw p0 p1 p2.fahead _ hx5) (fun _ _=>?_)
 refine g_v rfl r_move ?_
 iterate 3 refine g_v rfl (r_extract rfl rfl) ?_
 iterate 3 refine g_v rfl r_assign ?_
 refine g_nil<|d_then ?_
 refine c_flat [(0,.string p0),(1,.int .i64 x3),(5,.pointer (some ⟨g1,0,none⟩)),(9,.string x2),(10,.int .i64 x4)] ⟨rfl,rfl,rfl,rfl,rfl,trivial⟩ (fun u=>?_)
 refine c_sta ⟨w0,M,(100050,g1,.cells #[.int .i64 p2.fahead,.int .i64 p2.fnames,.int .i64 p2.fbehind] 97 (0,0))::H,R,φ⟩ (fun _ h=>h)<|c_seq<|c_seq<|c_region<|g_v rfl r_move<|g_v rfl (r_neq rfl rfl)<|g_nil<|d_then ?_
 refine c_cond rfl (fun h7=>?_) (fun h7=>?_)
 ·
  replace hm:=ite_t hm (of_decide_eq_true h7)
  refine c_seq<|c_region<|g_v rfl r_move ?_
  iterate 3 refine g_v rfl r_assign ?_
  refine g_nil<|d_then<|c_ret<|d_ret_then ?_
  cases hm
  exact d_retC () Try.results79 (res_tmp (res_tmp (res_tmp (res_nil rfl)))) trivial (fun W h=>ok_pre (H1:=[_]) (R1:=[]) h (fun W hφ=>hφ)) (.inr rfl)
 replace hm:=ite_f hm (of_decide_eq_false h7)
 refine c_skip<|d_then<|c_seq<|c_seq<|c_region<|g_v rfl (r_field (n:=1) Try.underlying97 rfl Try.sizeOf3 rfl rfl)<|g_v rfl (r_load (tag:=100050) rfl rfl rfl Try.isAgg3)<|g_v rfl r_move<|g_nil<|d_then ?_
 refine c_cut (ι:=Int×ByteArray) [0,1,5,9] (fun ⟨i34,s35⟩=>[(1,.int .i64 i34),(9,.string s35)]) (fun ⟨i34,s35⟩=>⟨w0,M,(100050,g1,.cells #[.int .i64 p2.fahead,.int .i64 p2.fnames,.int .i64 p2.fbehind] 97 (0,0))::H,R,φ⟩) (fun ⟨i34,s35⟩=>m_record_full_j1 p0 p2 i34 s35 = some r) ?_ (fun ⟨i34,s35⟩ u hm=>?_)
 ·
  refine c_block ?_
  replace hm:=bnd hm
  obtain ⟨out2,hl2,hr2⟩:=hm
  obtain ⟨n67',hl2⟩:=loop_lp hl2
  refine c_loopU (ι:=Nat×Int×ByteArray×Int) [0,1,5,9,28,29] (fun ⟨n67,i53,s54,i55⟩=>[(1,.int .i64 i53),(9,.string s54),(29,.int .i64 i55)]) (fun ⟨n67,i53,s54,i55⟩=>⟨w0,M,(100050,g1,.cells #[.int .i64 p2.fahead,.int .i64 p2.fnames,.int .i64 p2.fbehind] 97 (0,0))::H,R,φ⟩) (fun ⟨n67,i53,s54,i55⟩=>Lp (fun s=>m_record_full_s2 p2 p0 s.1 s.2.1 s.2.2) n67 (i53,s54,i55) out2) (fun ⟨n67,i53,s54,i55⟩=>n67) (n67',x3,x2,0) hl2 ⟨rfl,rfl,rfl,rfl,rfl,rfl,trivial⟩ (fun W h=>h.phi (fun W hφ=>hφ)) (fun ⟨n67,i53,s54,i55⟩ u hlp=>?_)
  obtain ⟨o2,hm,hnx2⟩:=lp_step hlp
  clear hlp
  replace hm : m_record_full_s2 p2 p0 i53 s54 i55 = some o2:=hm
  unfold m_record_full_s2 at hm
  refine c_flat [(0,.string p0),(1,.int .i64 i53),(5,.pointer (some ⟨g1,0,none⟩)),(9,.string s54),(28,.int .i64 p2.fnames),(29,.int .i64 i55)] ⟨rfl,rfl,rfl,rfl,rfl,rfl,trivial⟩ (fun u=>?_)
  refine c_seq<|c_region<|g_v rfl (r_lss rfl rfl)<|g_nil<|d_then<|c_seq ?_
  refine c_cond rfl (fun h68=>?_) (fun h68=>?_)
  ·
   replace hm:=ite_t hm (of_decide_eq_true h68)
   refine c_skip<|d_then<|c_seq<|c_block<|c_seq<|c_region<|g_v rfl r_move<|g_v rfl r_move ?_
   replace hm:=bnd hm
   obtain ⟨⟨x69,x70,x71⟩,hx72,hm⟩:=hm
   refine g_cn ⟨w0,M,_,_,φ⟩ (fun _ h=>h) Try.call75 rfl rfl (c_pack_Name p0 i53 _ hx72) (fun _ _=>?_)
   refine g_v rfl r_move ?_
   iterate 3 refine g_v rfl (r_extract rfl rfl) ?_
   iterate 3 refine g_v rfl r_assign ?_
   refine g_nil<|d_then ?_
   refine c_flat [(0,.string p0),(5,.pointer (some ⟨g1,0,none⟩)),(9,.string s54),(11,.string x69),(12,.int .i64 x70),(13,.int .i64 x71),(28,.int .i64 p2.fnames),(29,.int .i64 i55)] ⟨rfl,rfl,rfl,rfl,rfl,rfl,rfl,rfl,trivial⟩ (fun u=>?_)
   refine c_seq<|c_seq<|c_region<|g_v rfl r_move<|g_v rfl (r_neq rfl rfl)<|g_nil<|d_then ?_
   refine c_cond rfl (fun h74=>?_) (fun h74=>?_)
   ·
    replace hm:=ite_t hm (of_decide_eq_true h74)
    refine c_seq<|c_region<|g_v rfl r_move ?_
    iterate 3 refine g_v rfl r_assign ?_
    refine g_nil<|d_then<|c_ret<|d_ret_then<|d_ret_block<|d_ret_then<|d_ret_then<|d_ret_block<|d_ret_then<|d_ret_then ?_
    replace hm:=nx_out (C:=(fun e : (Int×ByteArray) ⊕ (ByteArray×Int×Int)=>Sum.elim (fun e=>m_record_full_j1 p0 p2 e.1 e.2) (fun x=>some x) e = some r)) hm hnx2 hr2
    replace hm : some ((⟨#[]⟩ : ByteArray),0,x71) = some r:=hm
    cases hm
    exact d_retC () Try.results79 (res_tmp (res_tmp (res_tmp (res_nil rfl)))) trivial (fun W h=>ok_pre (H1:=[_]) (R1:=[]) h (fun W hφ=>hφ)) (.inr rfl)
   replace hm:=ite_f hm (of_decide_eq_false h74)
   refine c_skip<|d_then<|c_region<|g_v rfl r_move<|g_v rfl r_move ?_
   replace hm:=bnd hm
   obtain ⟨s75,hs75,hm⟩:=hm
   refine g_v rfl (r_addT rfl rfl hs75)<|g_v rfl r_move<|g_v rfl r_assign<|g_v rfl r_assign<|g_nil<|d_normal_block<|d_then<|c_region<|g_v rfl (r_add rfl rfl rfl)<|g_v rfl r_move ?_
   refine g_nil ?_
   obtain ⟨n76,hn76,hlp⟩:=nx_inl hm hnx2
   exact d_round (n76,x70,s75,w64 (i55 + 1)) hlp hn76 ⟨rfl,rfl,rfl,rfl,rfl,rfl,trivial⟩ (fun W h=>h.phi (fun W hφ=>hφ))
  replace hm:=ite_f hm (of_decide_eq_false h68)
  refine c_exit<|d_exit_then<|d_exit_then<|d_exit_block ?_
  replace hm:=nx_out (C:=(fun e : (Int×ByteArray) ⊕ (ByteArray×Int×Int)=>Sum.elim (fun e=>m_record_full_j1 p0 p2 e.1 e.2) (fun x=>some x) e = some r)) hm hnx2 hr2
  exact d_round (i53,s54) hm Nat.zero_lt_one ⟨rfl,rfl,rfl,rfl,trivial⟩ (fun W h=>h.phi (fun W hφ=>hφ))
 unfold m_record_full_j1 at hm
 refine d_flat [(0,.string p0),(1,.int .i64 i34),(5,.pointer (some ⟨g1,0,none⟩)),(9,.string s35)] ⟨rfl,rfl,rfl,rfl,trivial⟩ (fun u=>?_)
 refine d_then<|c_seq<|c_region<|g_v rfl r_move<|g_v rfl r_move<|g_v rfl (r_field (n:=2) Try.underlying97 rfl Try.sizeOf3 rfl rfl)<|g_v rfl (r_load (tag:=100050) rfl rfl rfl Try.isAgg3) ?_
 replace hm:=bnd hm
 obtain ⟨⟨x36,x37,x38⟩,hx39,hm⟩:=hm
 refine g_cn ⟨w0,M,_,_,φ⟩ (fun _ h=>h) Try.call78 rfl rfl (c_pack_Raw p0 i34 p2.fbehind _ hx39) (fun _ _=>?_)
 refine g_v rfl r_move ?_
 iterate 3 refine g_v rfl (r_extract rfl rfl) ?_
 iterate 3 refine g_v rfl r_assign ?_
 refine g_nil<|d_then ?_
 refine c_flat [(1,.int .i64 x37),(9,.string s35),(10,.int .i64 x38),(14,.string x36)] ⟨rfl,rfl,rfl,rfl,trivial⟩ (fun u=>?_)
 refine c_seq<|c_region<|g_v rfl r_move<|g_v rfl r_move ?_
 replace hm:=bnd hm
 obtain ⟨s41,hs41,hm⟩:=hm
 refine g_v rfl (r_addT rfl rfl hs41)<|g_v rfl r_move<|g_v rfl r_move ?_
 iterate 3 refine g_v rfl r_assign ?_
 refine g_nil<|d_then<|c_ret ?_
 cases hm
 exact d_retC () Try.results79 (res_tmp (res_tmp (res_tmp (res_nil rfl)))) trivial (fun W h=>ok_pre (H1:=[_]) (R1:=[]) h (fun W hφ=>hφ)) (.inr rfl)
noncomputable def m_record_Get_j3 (x3 : ByteArray) (x14 : Int) (i27 : Int) (i36 : Int) (x55 : Int) (s86 : ByteArray) : Option (GRR×Int×Int):=
  (m_record_Check (⟨x3,x14,i27,i36,s86⟩ : GRR)).bind fun x87=>
  if x87 ≠ 0 then
    (m_record_Get_c1 x87).bind fun (z94 : GRR×Int×Int)=>
    some (z94.1,z94.2.1,z94.2.2)
  else
    some ((⟨x3,x14,i27,i36,s86⟩ : GRR),x55,0)
noncomputable def m_record_Get_j2 (p0 : ByteArray) (x14 : Int) (x3 : ByteArray) (i27 : Int) (i34 : Int) (i35 : Int) (i36 : Int) : Option (GRR×Int×Int):=
  if i35 ≠ 0 then
    (m_record_Get_c1 i35).bind fun (z42 : GRR×Int×Int)=>
    some (z42.1,z42.2.1,z42.2.2)
  else
    (m_pack_Word p0 i34).bind fun (z47 : Int×Int×Int)=>
    if z47.2.2 ≠ 0 then
      (m_record_Get_c1 z47.2.2).bind fun (z53 : GRR×Int×Int)=>
      some (z53.1,z53.2.1,z53.2.2)
    else
      (m_pack_Raw p0 z47.2.1 (w64 z47.1)).bind fun (z58 : ByteArray×Int×Int)=>
      if z58.2.2 ≠ 0 then
        (m_record_Get_c1 z58.2.2).bind fun (z64 : GRR×Int×Int)=>
        some (z64.1,z64.2.1,z64.2.2)
      else
        (m_record_shapeOf x14).bind fun x65=>
        if 0 < x65.fnames then
          (m_record_full p0 z47.2.1 x65).bind fun (z100 : ByteArray×Int×Int)=>
          if z100.2.2 ≠ 0 then
            (m_record_Get_c1 z100.2.2).bind fun (z106 : GRR×Int×Int)=>
            some (z106.1,z106.2.1,z106.2.2)
          else
            if z100.2.1 ≠ z58.2.1 then
              (m_record_Get_c1 10).bind fun (z112 : GRR×Int×Int)=>
              some (z112.1,z112.2.1,z112.2.2)
            else
              m_record_Get_j3 x3 x14 i27 i36 z58.2.1 z100.1
        else
          m_record_Get_j3 x3 x14 i27 i36 z58.2.1 z58.1
noncomputable def m_record_Get_j1 (p0 : ByteArray) (x14 : Int) (x3 : ByteArray) (i25 : Int) (i26 : Int) (i27 : Int) : Option (GRR×Int×Int):=
  if i26 = 0 then
    (m_pack_Long p0 i25).bind fun (z118 : Int×Int×Int)=>
    m_record_Get_j2 p0 x14 x3 i27 z118.2.1 z118.2.2 z118.1
  else
    m_record_Get_j2 p0 x14 x3 i27 i25 i26 0
noncomputable def m_record_Get (p0 : ByteArray) (p1 : Int) : Option (GRR×Int×Int):=
  (m_pack_Name p0 p1).bind fun (z7 : ByteArray×Int×Int)=>
  if z7.2.2 ≠ 0 then
    (m_record_Get_c1 z7.2.2).bind fun (z13 : GRR×Int×Int)=>
    some (z13.1,z13.2.1,z13.2.2)
  else
    (m_pack_Word p0 z7.2.1).bind fun (z18 : Int×Int×Int)=>
    if z18.2.2 = 0 then
      (m_pack_Word p0 z18.2.1).bind fun (z124 : Int×Int×Int)=>
      m_record_Get_j1 p0 z18.1 z7.1 z124.2.1 z124.2.2 z124.1
    else
      m_record_Get_j1 p0 z18.1 z7.1 z18.2.1 z18.2.2 0
theorem c_record_Get {w0 : World} {M : Nat→Prop} {H : List (Nat×Nat×Obj)} {R : List (Nat×Row)} {φ : World→Prop} (p0 : ByteArray) (p1 : Int) (r : GRR×Int×Int) (hm : m_record_Get p0 p1 = some r) :
    Cn Try.prog 53 #[.string p0,.int .i64 p1] ⟨w0,M,H,R,φ⟩ (fun x : Unit=>.tuple #[.agg #[.string r.1.fName,.int .u16 r.1.fType,.int .u16 r.1.fClass,.int .u32 r.1.fTTL,.string r.1.fData],.int .i64 r.2.1,.int .i64 r.2.2]) (fun x=>True) (fun x=>⟨w0,M,H,R,φ⟩):=by
 unfold m_record_Get at hm
 refine cn_intro (fn:=Try.f53) (N:=151) Try.func53 rfl Try.ntmps53 rfl<|c_seq<|c_region ?_
 refine g_e rfl (e_alloc 100040 Try.zeroValue42) (fun g1 _=>?_)
 refine g_v rfl r_assign<|g_v rfl r_assign<|g_nil<|d_then<|c_seq<|c_region ?_
 refine g_e rfl (e_alloc 100070 Try.zeroValue42) (fun g2 _=>?_)
 refine g_nil<|d_then<|c_seq<|c_region<|g_v rfl r_assign<|g_nil<|d_then<|c_seq<|c_region<|g_v rfl r_move ?_
 refine g_v rfl r_move ?_
 replace hm:=bnd hm
 obtain ⟨⟨x3,x4,x5⟩,hx6,hm⟩:=hm
 refine g_cn ⟨w0,M,_,_,φ⟩ (fun _ h=>h) Try.call75 rfl rfl (c_pack_Name p0 p1 _ hx6) (fun _ _=>?_)
 refine g_v rfl r_move ?_
 iterate 3 refine g_v rfl (r_extract rfl rfl) ?_
 iterate 3 refine g_v rfl r_assign ?_
 refine g_nil<|d_then ?_
 refine c_flat [(0,.string p0),(1,.int .i64 x4),(4,.pointer (some ⟨g1,0,none⟩)),(7,.pointer (some ⟨g2,0,none⟩)),(8,.func (.func 76) #[] #[]),(9,.string x3),(10,.int .i64 x5)] ⟨rfl,rfl,rfl,rfl,rfl,rfl,rfl,trivial⟩ (fun u=>?_)
 refine c_sta ⟨w0,M,(100070,g2,.cells #[.string (⟨#[]⟩ : ByteArray),.int .u16 0,.int .u16 0,.int .u32 0,.string (⟨#[]⟩ : ByteArray)] 42 (0,0))::(100040,g1,.cells #[.string (⟨#[]⟩ : ByteArray),.int .u16 0,.int .u16 0,.int .u32 0,.string (⟨#[]⟩ : ByteArray)] 42 (0,0))::H,R,φ⟩ (fun _ h=>h)<|c_seq<|c_seq<|c_region<|g_v rfl r_move<|g_v rfl (r_neq rfl rfl)<|g_nil<|d_then ?_
 refine c_cond rfl (fun h8=>?_) (fun h8=>?_)
 ·
  replace hm:=ite_t hm (of_decide_eq_true h8)
  refine c_seq<|c_region<|g_v rfl r_move<|g_v rfl r_move ?_
  replace hm:=bnd hm
  obtain ⟨⟨x9,x10,x11⟩,hx12,hm⟩:=hm
  refine g_cnv ⟨w0,M,_,_,φ⟩ (fun _ h=>h) Try.call76 rfl rfl rfl (c_record_Get_c1 x5 _ hx12) (fun _ _=>?_)
  iterate 3 refine g_v rfl (r_extract rfl rfl) ?_
  refine g_storeL (tag:=100040) rfl rfl rfl rfl Try.sizeOf42 rfl rfl<|g_v rfl r_assign<|g_v rfl r_assign<|g_nil<|d_then ?_
  refine c_flat [(4,.pointer (some ⟨g1,0,none⟩)),(5,.int .i64 x10),(6,.int .i64 x11)] ⟨rfl,rfl,rfl,trivial⟩ (fun u=>?_)
  refine c_sta ⟨w0,M,(100070,g2,.cells #[.string (⟨#[]⟩ : ByteArray),.int .u16 0,.int .u16 0,.int .u32 0,.string (⟨#[]⟩ : ByteArray)] 42 (0,0))::(100040,g1,.cells #[.string x9.fName,.int .u16 x9.fType,.int .u16 x9.fClass,.int .u32 x9.fTTL,.string x9.fData] 42 (0,0))::H,R,φ⟩ (fun _ h=>h)<|c_ret<|d_ret_then ?_
  cases hm
  exact d_retC () Try.results53 (res_agg (tag:=100040) rfl rfl Try.isAgg42 Try.sizeOf42 (res_tmp (res_tmp (res_nil rfl)))) trivial (fun W h=>ok_pre (H1:=[_,_]) (R1:=[]) h (fun W hφ=>hφ)) (.inr rfl)
 replace hm:=ite_f hm (of_decide_eq_false h8)
 refine c_skip<|d_then<|c_seq<|c_region<|g_v rfl r_move<|g_v rfl (r_field (n:=0) Try.underlying42 rfl Try.sizeOf9 rfl rfl)<|g_storeL (tag:=100070) rfl rfl rfl rfl Try.sizeOf9 rfl rfl<|g_nil<|d_then<|c_seq ?_
 refine c_region<|g_v rfl r_move<|g_v rfl r_move ?_
 replace hm:=bnd hm
 obtain ⟨⟨x14,x15,x16⟩,hx17,hm⟩:=hm
 refine g_cn ⟨w0,M,_,_,φ⟩ (fun _ h=>h) Try.call49 rfl rfl (c_pack_Word p0 x4 _ hx17) (fun _ _=>?_)
 refine g_v rfl r_move ?_
 iterate 3 refine g_v rfl (r_extract rfl rfl) ?_
 refine g_v rfl (r_field (n:=1) Try.underlying42 rfl Try.sizeOf22 rfl rfl)<|g_storeL (tag:=100070) rfl rfl rfl rfl Try.sizeOf22 rfl rfl<|g_v rfl r_assign<|g_v rfl r_assign<|g_nil<|d_then ?_
 refine c_flat [(0,.string p0),(1,.int .i64 x15),(4,.pointer (some ⟨g1,0,none⟩)),(7,.pointer (some ⟨g2,0,none⟩)),(8,.func (.func 76) #[] #[]),(10,.int .i64 x16)] ⟨rfl,rfl,rfl,rfl,rfl,rfl,trivial⟩ (fun u=>?_)
 refine c_sta ⟨w0,M,(100070,g2,.cells #[.string x3,.int .u16 x14,.int .u16 0,.int .u32 0,.string (⟨#[]⟩ : ByteArray)] 42 (0,0))::(100040,g1,.cells #[.string (⟨#[]⟩ : ByteArray),.int .u16 0,.int .u16 0,.int .u32 0,.string (⟨#[]⟩ : ByteArray)] 42 (0,0))::H,R,φ⟩ (fun _ h=>h)<|c_seq ?_
 refine c_cut (ι:=Int×Int×Int) [0,1,4,7,8,10] (fun ⟨i25,i26,i27⟩=>[(1,.int .i64 i25),(10,.int .i64 i26)]) (fun ⟨i25,i26,i27⟩=>⟨w0,M,(100070,g2,.cells #[.string x3,.int .u16 x14,.int .u16 i27,.int .u32 0,.string (⟨#[]⟩ : ByteArray)] 42 (0,0))::(100040,g1,.cells #[.string (⟨#[]⟩ : ByteArray),.int .u16 0,.int .u16 0,.int .u32 0,.string (⟨#[]⟩ : ByteArray)] 42 (0,0))::H,R,φ⟩) (fun ⟨i25,i26,i27⟩=>m_record_Get_j1 p0 x14 x3 i25 i26 i27 = some r) ?_ (fun ⟨i25,i26,i27⟩ u hm=>?_)
 ·
  refine c_seq<|c_region<|g_v rfl r_move<|g_v rfl (r_eql rfl rfl)<|g_nil<|d_then ?_
  refine c_cond rfl (fun h119=>?_) (fun h119=>?_)
  ·
   replace hm:=ite_t hm (of_decide_eq_true h119)
   refine c_region<|g_v rfl r_move<|g_v rfl r_move ?_
   replace hm:=bnd hm
   obtain ⟨⟨x120,x121,x122⟩,hx123,hm⟩:=hm
   refine g_cn ⟨w0,M,_,_,φ⟩ (fun _ h=>h) Try.call49 rfl rfl (c_pack_Word p0 x15 _ hx123) (fun _ _=>?_)
   refine g_v rfl r_move ?_
   iterate 3 refine g_v rfl (r_extract rfl rfl) ?_
   refine g_v rfl (r_field (n:=2) Try.underlying42 rfl Try.sizeOf22 rfl rfl)<|g_storeL (tag:=100070) rfl rfl rfl rfl Try.sizeOf22 rfl rfl<|g_v rfl r_assign<|g_v rfl r_assign<|g_nil ?_
   exact d_round (x121,x122,x120) hm Nat.zero_lt_one ⟨rfl,rfl,rfl,rfl,rfl,rfl,trivial⟩ (fun W h=>h.phi (fun W hφ=>hφ))
  replace hm:=ite_f hm (of_decide_eq_false h119)
  refine c_skip ?_
  exact d_round (x15,x16,0) hm Nat.zero_lt_one ⟨rfl,rfl,rfl,rfl,rfl,rfl,trivial⟩ (fun W h=>h.phi (fun W hφ=>hφ))
 unfold m_record_Get_j1 at hm
 refine d_flat [(0,.string p0),(1,.int .i64 i25),(4,.pointer (some ⟨g1,0,none⟩)),(7,.pointer (some ⟨g2,0,none⟩)),(8,.func (.func 76) #[] #[]),(10,.int .i64 i26)] ⟨rfl,rfl,rfl,rfl,rfl,rfl,trivial⟩ (fun u=>?_)
 refine d_sta ⟨w0,M,(100070,g2,.cells #[.string x3,.int .u16 x14,.int .u16 i27,.int .u32 0,.string (⟨#[]⟩ : ByteArray)] 42 (0,0))::(100040,g1,.cells #[.string (⟨#[]⟩ : ByteArray),.int .u16 0,.int .u16 0,.int .u32 0,.string (⟨#[]⟩ : ByteArray)] 42 (0,0))::H,R,φ⟩ (fun _ h=>h)<|d_then<|c_seq ?_
 refine c_cut (ι:=Int×Int×Int) [0,1,4,7,8,10] (fun ⟨i34,i35,i36⟩=>[(1,.int .i64 i34),(10,.int .i64 i35)]) (fun ⟨i34,i35,i36⟩=>⟨w0,M,(100070,g2,.cells #[.string x3,.int .u16 x14,.int .u16 i27,.int .u32 i36,.string (⟨#[]⟩ : ByteArray)] 42 (0,0))::(100040,g1,.cells #[.string (⟨#[]⟩ : ByteArray),.int .u16 0,.int .u16 0,.int .u32 0,.string (⟨#[]⟩ : ByteArray)] 42 (0,0))::H,R,φ⟩) (fun ⟨i34,i35,i36⟩=>m_record_Get_j2 p0 x14 x3 i27 i34 i35 i36 = some r) ?_ (fun ⟨i34,i35,i36⟩ u hm=>?_)
 ·
  refine c_seq<|c_region<|g_v rfl r_move<|g_v rfl (r_eql rfl rfl)<|g_nil<|d_then ?_
  refine c_cond rfl (fun h113=>?_) (fun h113=>?_)
  ·
   replace hm:=ite_t hm (of_decide_eq_true h113)
   refine c_region<|g_v rfl r_move<|g_v rfl r_move ?_
   replace hm:=bnd hm
   obtain ⟨⟨x114,x115,x116⟩,hx117,hm⟩:=hm
   refine g_cn ⟨w0,M,_,_,φ⟩ (fun _ h=>h) Try.call77 rfl rfl (c_pack_Long p0 i25 _ hx117) (fun _ _=>?_)
   refine g_v rfl r_move ?_
   iterate 3 refine g_v rfl (r_extract rfl rfl) ?_
   refine g_v rfl (r_field (n:=3) Try.underlying42 rfl Try.sizeOf40 rfl rfl)<|g_storeL (tag:=100070) rfl rfl rfl rfl Try.sizeOf40 rfl rfl<|g_v rfl r_assign<|g_v rfl r_assign<|g_nil ?_
   exact d_round (x115,x116,x114) hm Nat.zero_lt_one ⟨rfl,rfl,rfl,rfl,rfl,rfl,trivial⟩ (fun W h=>h.phi (fun W hφ=>hφ))
  replace hm:=ite_f hm (of_decide_eq_false h113)
  refine c_skip ?_
  exact d_round (i25,i26,0) hm Nat.zero_lt_one ⟨rfl,rfl,rfl,rfl,rfl,rfl,trivial⟩ (fun W h=>h.phi (fun W hφ=>hφ))
 unfold m_record_Get_j2 at hm
 refine d_flat [(0,.string p0),(1,.int .i64 i34),(4,.pointer (some ⟨g1,0,none⟩)),(7,.pointer (some ⟨g2,0,none⟩)),(8,.func (.func 76) #[] #[]),(10,.int .i64 i35)] ⟨rfl,rfl,rfl,rfl,rfl,rfl,trivial⟩ (fun u=>?_)
 refine d_sta ⟨w0,M,(100070,g2,.cells #[.string x3,.int .u16 x14,.int .u16 i27,.int .u32 i36,.string (⟨#[]⟩ : ByteArray)] 42 (0,0))::(100040,g1,.cells #[.string (⟨#[]⟩ : ByteArray),.int .u16 0,.int .u16 0,.int .u32 0,.string (⟨#[]⟩ : ByteArray)] 42 (0,0))::H,R,φ⟩ (fun _ h=>h)<|d_then<|c_seq<|c_seq<|c_region<|g_v rfl r_move<|g_v rfl (r_neq rfl rfl)<|g_nil<|d_then ?_
 refine c_cond rfl (fun h37=>?_) (fun h37=>?_)
 ·
  replace hm:=ite_t hm (of_decide_eq_true h37)
  refine c_seq<|c_region<|g_v rfl r_move<|g_v rfl r_move ?_
  replace hm:=bnd hm
  obtain ⟨⟨x38,x39,x40⟩,hx41,hm⟩:=hm
  refine g_cnv ⟨w0,M,_,_,φ⟩ (fun _ h=>h) Try.call76 rfl rfl rfl (c_record_Get_c1 i35 _ hx41) (fun _ _=>?_)
  iterate 3 refine g_v rfl (r_extract rfl rfl) ?_
  refine g_storeL (tag:=100040) rfl rfl rfl rfl Try.sizeOf42 rfl rfl<|g_v rfl r_assign<|g_v rfl r_assign<|g_nil<|d_then ?_
  refine c_flat [(4,.pointer (some ⟨g1,0,none⟩)),(5,.int .i64 x39),(6,.int .i64 x40)] ⟨rfl,rfl,rfl,trivial⟩ (fun u=>?_)
  refine c_sta ⟨w0,M,(100070,g2,.cells #[.string x3,.int .u16 x14,.int .u16 i27,.int .u32 i36,.string (⟨#[]⟩ : ByteArray)] 42 (0,0))::(100040,g1,.cells #[.string x38.fName,.int .u16 x38.fType,.int .u16 x38.fClass,.int .u32 x38.fTTL,.string x38.fData] 42 (0,0))::H,R,φ⟩ (fun _ h=>h)<|c_ret<|d_ret_then ?_
  cases hm
  exact d_retC () Try.results53 (res_agg (tag:=100040) rfl rfl Try.isAgg42 Try.sizeOf42 (res_tmp (res_tmp (res_nil rfl)))) trivial (fun W h=>ok_pre (H1:=[_,_]) (R1:=[]) h (fun W hφ=>hφ)) (.inr rfl)
 replace hm:=ite_f hm (of_decide_eq_false h37)
 refine c_skip<|d_then<|c_seq<|c_region<|g_v rfl r_move<|g_v rfl r_move ?_
 replace hm:=bnd hm
 obtain ⟨⟨x43,x44,x45⟩,hx46,hm⟩:=hm
 refine g_cn ⟨w0,M,_,_,φ⟩ (fun _ h=>h) Try.call49 rfl rfl (c_pack_Word p0 i34 _ hx46) (fun _ _=>?_)
 refine g_v rfl r_move ?_
 iterate 3 refine g_v rfl (r_extract rfl rfl) ?_
 iterate 3 refine g_v rfl r_assign ?_
 refine g_nil<|d_then ?_
 refine c_flat [(0,.string p0),(1,.int .i64 x44),(4,.pointer (some ⟨g1,0,none⟩)),(7,.pointer (some ⟨g2,0,none⟩)),(8,.func (.func 76) #[] #[]),(10,.int .i64 x45),(11,.int .u16 x43)] ⟨rfl,rfl,rfl,rfl,rfl,rfl,rfl,trivial⟩ (fun u=>?_)
 refine c_seq<|c_seq<|c_region<|g_v rfl r_move<|g_v rfl (r_neq rfl rfl)<|g_nil<|d_then ?_
 refine c_cond rfl (fun h48=>?_) (fun h48=>?_)
 ·
  replace hm:=ite_t hm (of_decide_eq_true h48)
  refine c_seq<|c_region<|g_v rfl r_move<|g_v rfl r_move ?_
  replace hm:=bnd hm
  obtain ⟨⟨x49,x50,x51⟩,hx52,hm⟩:=hm
  refine g_cnv ⟨w0,M,_,_,φ⟩ (fun _ h=>h) Try.call76 rfl rfl rfl (c_record_Get_c1 x45 _ hx52) (fun _ _=>?_)
  iterate 3 refine g_v rfl (r_extract rfl rfl) ?_
  refine g_storeL (tag:=100040) rfl rfl rfl rfl Try.sizeOf42 rfl rfl<|g_v rfl r_assign<|g_v rfl r_assign<|g_nil<|d_then ?_
  refine c_flat [(4,.pointer (some ⟨g1,0,none⟩)),(5,.int .i64 x50),(6,.int .i64 x51)] ⟨rfl,rfl,rfl,trivial⟩ (fun u=>?_)
  refine c_sta ⟨w0,M,(100070,g2,.cells #[.string x3,.int .u16 x14,.int .u16 i27,.int .u32 i36,.string (⟨#[]⟩ : ByteArray)] 42 (0,0))::(100040,g1,.cells #[.string x49.fName,.int .u16 x49.fType,.int .u16 x49.fClass,.int .u32 x49.fTTL,.string x49.fData] 42 (0,0))::H,R,φ⟩ (fun _ h=>h)<|c_ret<|d_ret_then ?_
  cases hm
  exact d_retC () Try.results53 (res_agg (tag:=100040) rfl rfl Try.isAgg42 Try.sizeOf42 (res_tmp (res_tmp (res_nil rfl)))) trivial (fun W h=>ok_pre (H1:=[_,_]) (R1:=[]) h (fun W hφ=>hφ)) (.inr rfl)
 replace hm:=ite_f hm (of_decide_eq_false h48)
 refine c_skip<|d_then<|c_seq<|c_region ?_
 iterate 3 refine g_v rfl r_move ?_
 refine g_v rfl (r_conv Try.underlying22 Try.underlying3 rfl rfl) ?_
 replace hm:=bnd hm
 obtain ⟨⟨x54,x55,x56⟩,hx57,hm⟩:=hm
 refine g_cn ⟨w0,M,_,_,φ⟩ (fun _ h=>h) Try.call78 rfl rfl (c_pack_Raw p0 x44 (w64 x43) _ hx57) (fun _ _=>?_)
 refine g_v rfl r_move ?_
 iterate 3 refine g_v rfl (r_extract rfl rfl) ?_
 iterate 3 refine g_v rfl r_assign ?_
 refine g_nil<|d_then ?_
 refine c_flat [(0,.string p0),(1,.int .i64 x44),(4,.pointer (some ⟨g1,0,none⟩)),(7,.pointer (some ⟨g2,0,none⟩)),(8,.func (.func 76) #[] #[]),(10,.int .i64 x56),(12,.string x54),(13,.int .i64 x55)] ⟨rfl,rfl,rfl,rfl,rfl,rfl,rfl,rfl,trivial⟩ (fun u=>?_)
 refine c_seq<|c_seq<|c_region<|g_v rfl r_move<|g_v rfl (r_neq rfl rfl)<|g_nil<|d_then ?_
 refine c_cond rfl (fun h59=>?_) (fun h59=>?_)
 ·
  replace hm:=ite_t hm (of_decide_eq_true h59)
  refine c_seq<|c_region<|g_v rfl r_move<|g_v rfl r_move ?_
  replace hm:=bnd hm
  obtain ⟨⟨x60,x61,x62⟩,hx63,hm⟩:=hm
  refine g_cnv ⟨w0,M,_,_,φ⟩ (fun _ h=>h) Try.call76 rfl rfl rfl (c_record_Get_c1 x56 _ hx63) (fun _ _=>?_)
  iterate 3 refine g_v rfl (r_extract rfl rfl) ?_
  refine g_storeL (tag:=100040) rfl rfl rfl rfl Try.sizeOf42 rfl rfl<|g_v rfl r_assign<|g_v rfl r_assign<|g_nil<|d_then ?_
  refine c_flat [(4,.pointer (some ⟨g1,0,none⟩)),(5,.int .i64 x61),(6,.int .i64 x62)] ⟨rfl,rfl,rfl,trivial⟩ (fun u=>?_)
  refine c_sta ⟨w0,M,(100070,g2,.cells #[.string x3,.int .u16 x14,.int .u16 i27,.int .u32 i36,.string (⟨#[]⟩ : ByteArray)] 42 (0,0))::(100040,g1,.cells #[.string x60.fName,.int .u16 x60.fType,.int .u16 x60.fClass,.int .u32 x60.fTTL,.string x60.fData] 42 (0,0))::H,R,φ⟩ (fun _ h=>h)<|c_ret<|d_ret_then ?_
  cases hm
  exact d_retC () Try.results53 (res_agg (tag:=100040) rfl rfl Try.isAgg42 Try.sizeOf42 (res_tmp (res_tmp (res_nil rfl)))) trivial (fun W h=>ok_pre (H1:=[_,_]) (R1:=[]) h (fun W hφ=>hφ)) (.inr rfl)
 replace hm:=ite_f hm (of_decide_eq_false h59)
 refine c_skip<|d_then<|c_seq<|c_region<|g_v rfl r_move<|g_v rfl (r_field (n:=4) Try.underlying42 rfl Try.sizeOf9 rfl rfl)<|g_storeL (tag:=100070) rfl rfl rfl rfl Try.sizeOf9 rfl rfl<|g_nil<|d_then<|c_seq ?_
 refine c_region<|g_v rfl (r_field (n:=1) Try.underlying42 rfl Try.sizeOf22 rfl rfl)<|g_v rfl (r_load (tag:=100070) rfl rfl rfl Try.isAgg22) ?_
 replace hm:=bnd hm
 obtain ⟨x65,hx66,hm⟩:=hm
 refine g_cn ⟨w0,M,_,_,φ⟩ (fun _ h=>h) Try.call57 rfl rfl (c_record_shapeOf x14 _ hx66) (fun _ _=>?_)
 refine g_e rfl (e_alloc 100140 Try.zeroValue97) (fun g67 _=>?_)
 refine g_storeL (tag:=100140) rfl rfl rfl rfl Try.sizeOf97 rfl rfl<|g_nil<|d_then ?_
 refine c_flat [(0,.string p0),(1,.int .i64 x44),(4,.pointer (some ⟨g1,0,none⟩)),(7,.pointer (some ⟨g2,0,none⟩)),(8,.func (.func 76) #[] #[]),(13,.int .i64 x55),(14,.pointer (some ⟨g67,0,none⟩))] ⟨rfl,rfl,rfl,rfl,rfl,rfl,rfl,trivial⟩ (fun u=>?_)
 refine c_sta ⟨w0,M,(100140,g67,.cells #[.int .i64 x65.fahead,.int .i64 x65.fnames,.int .i64 x65.fbehind] 97 (0,0))::(100070,g2,.cells #[.string x3,.int .u16 x14,.int .u16 i27,.int .u32 i36,.string x54] 42 (0,0))::(100040,g1,.cells #[.string (⟨#[]⟩ : ByteArray),.int .u16 0,.int .u16 0,.int .u32 0,.string (⟨#[]⟩ : ByteArray)] 42 (0,0))::H,R,φ⟩ (fun _ h=>h)<|c_seq ?_
 refine c_cut (ι:=ByteArray) [4,7,8,13] (fun s86=>[]) (fun s86=>⟨w0,M,(100070,g2,.cells #[.string x3,.int .u16 x14,.int .u16 i27,.int .u32 i36,.string s86] 42 (0,0))::(100040,g1,.cells #[.string (⟨#[]⟩ : ByteArray),.int .u16 0,.int .u16 0,.int .u32 0,.string (⟨#[]⟩ : ByteArray)] 42 (0,0))::H,R,φ⟩) (fun s86=>m_record_Get_j3 x3 x14 i27 i36 x55 s86 = some r) ?_ (fun s86 u hm=>?_)
 ·
  refine c_seq<|c_region<|g_v rfl (r_field (n:=1) Try.underlying97 rfl Try.sizeOf3 rfl rfl)<|g_v rfl (r_load (tag:=100140) rfl rfl rfl Try.isAgg3)<|g_v rfl (r_gtr rfl rfl)<|g_nil<|d_then ?_
  refine c_cond rfl (fun h95=>?_) (fun h95=>?_)
  ·
   replace hm:=ite_t hm (of_decide_eq_true h95)
   refine c_seq<|c_region<|g_v rfl r_move<|g_v rfl r_move<|g_v rfl (r_loadA (tag:=100140) rfl rfl Try.isAgg97 Try.sizeOf97 rfl rfl) ?_
   replace hm:=bnd hm
   obtain ⟨⟨x96,x97,x98⟩,hx99,hm⟩:=hm
   refine g_cn ⟨w0,M,_,_,φ⟩ (fun _ h=>h) Try.call79 rfl rfl (c_record_full p0 x44 x65 _ hx99) (fun _ _=>?_)
   refine g_v rfl r_move ?_
   iterate 3 refine g_v rfl (r_extract rfl rfl) ?_
   iterate 3 refine g_v rfl r_assign ?_
   refine g_nil<|d_then ?_
   refine c_flat [(4,.pointer (some ⟨g1,0,none⟩)),(7,.pointer (some ⟨g2,0,none⟩)),(8,.func (.func 76) #[] #[]),(13,.int .i64 x55),(15,.string x96),(16,.int .i64 x97),(17,.int .i64 x98)] ⟨rfl,rfl,rfl,rfl,rfl,rfl,rfl,trivial⟩ (fun u=>?_)
   refine c_seq<|c_block<|c_seq<|c_region<|g_v rfl r_move<|g_v rfl (r_neq rfl rfl)<|g_v rfl r_assign<|g_nil<|d_then ?_
   refine c_cond rfl (fun h101=>?_) (fun h101=>?_)
   ·
    replace hm:=ite_t hm (of_decide_eq_true h101)
    refine c_seq<|c_region<|g_v rfl r_move<|g_v rfl r_move ?_
    replace hm:=bnd hm
    obtain ⟨⟨x102,x103,x104⟩,hx105,hm⟩:=hm
    refine g_cnv ⟨w0,M,_,_,φ⟩ (fun _ h=>h) Try.call76 rfl rfl rfl (c_record_Get_c1 x98 _ hx105) (fun _ _=>?_)
    iterate 3 refine g_v rfl (r_extract rfl rfl) ?_
    refine g_storeL (tag:=100040) rfl rfl rfl rfl Try.sizeOf42 rfl rfl<|g_v rfl r_assign<|g_v rfl r_assign<|g_nil<|d_then ?_
    refine c_flat [(4,.pointer (some ⟨g1,0,none⟩)),(5,.int .i64 x103),(6,.int .i64 x104)] ⟨rfl,rfl,rfl,trivial⟩ (fun u=>?_)
    refine c_sta ⟨w0,M,(100140,g67,.cells #[.int .i64 x65.fahead,.int .i64 x65.fnames,.int .i64 x65.fbehind] 97 (0,0))::(100070,g2,.cells #[.string x3,.int .u16 x14,.int .u16 i27,.int .u32 i36,.string x54] 42 (0,0))::(100040,g1,.cells #[.string x102.fName,.int .u16 x102.fType,.int .u16 x102.fClass,.int .u32 x102.fTTL,.string x102.fData] 42 (0,0))::H,R,φ⟩ (fun _ h=>h)<|c_ret<|d_ret_block ?_
    iterate 3 refine d_ret_then ?_
    cases hm
    exact d_retC () Try.results53 (res_agg (tag:=100040) rfl rfl Try.isAgg42 Try.sizeOf42 (res_tmp (res_tmp (res_nil rfl)))) trivial (fun W h=>ok_pre (H1:=[_,_,_]) (R1:=[]) h (fun W hφ=>hφ)) (.inr rfl)
   replace hm:=ite_f hm (of_decide_eq_false h101)
   refine c_seq<|c_region<|g_v rfl r_move<|g_v rfl r_move<|g_v rfl (r_neq rfl rfl)<|g_v rfl r_assign<|g_nil<|d_then ?_
   refine c_cond rfl (fun h107=>?_) (fun h107=>?_)
   ·
    replace hm:=ite_t hm (of_decide_eq_true h107)
    refine c_seq<|c_region<|g_v rfl r_move ?_
    replace hm:=bnd hm
    obtain ⟨⟨x108,x109,x110⟩,hx111,hm⟩:=hm
    refine g_cnv ⟨w0,M,_,_,φ⟩ (fun _ h=>h) Try.call76 rfl rfl rfl (c_record_Get_c1 10 _ hx111) (fun _ _=>?_)
    iterate 3 refine g_v rfl (r_extract rfl rfl) ?_
    refine g_storeL (tag:=100040) rfl rfl rfl rfl Try.sizeOf42 rfl rfl<|g_v rfl r_assign<|g_v rfl r_assign<|g_nil<|d_then ?_
    refine c_flat [(4,.pointer (some ⟨g1,0,none⟩)),(5,.int .i64 x109),(6,.int .i64 x110)] ⟨rfl,rfl,rfl,trivial⟩ (fun u=>?_)
    refine c_sta ⟨w0,M,(100140,g67,.cells #[.int .i64 x65.fahead,.int .i64 x65.fnames,.int .i64 x65.fbehind] 97 (0,0))::(100070,g2,.cells #[.string x3,.int .u16 x14,.int .u16 i27,.int .u32 i36,.string x54] 42 (0,0))::(100040,g1,.cells #[.string x108.fName,.int .u16 x108.fType,.int .u16 x108.fClass,.int .u32 x108.fTTL,.string x108.fData] 42 (0,0))::H,R,φ⟩ (fun _ h=>h)<|c_ret<|d_ret_block ?_
    iterate 3 refine d_ret_then ?_
    cases hm
    exact d_retC () Try.results53 (res_agg (tag:=100040) rfl rfl Try.isAgg42 Try.sizeOf42 (res_tmp (res_tmp (res_nil rfl)))) trivial (fun W h=>ok_pre (H1:=[_,_,_]) (R1:=[]) h (fun W hφ=>hφ)) (.inr rfl)
   replace hm:=ite_f hm (of_decide_eq_false h107)
   refine c_skip<|d_normal_block<|d_then<|c_region<|g_v rfl r_move<|g_v rfl (r_field (n:=4) Try.underlying42 rfl Try.sizeOf9 rfl rfl)<|g_storeL (tag:=100070) rfl rfl rfl rfl Try.sizeOf9 rfl rfl<|g_nil ?_
   exact d_round x96 hm Nat.zero_lt_one ⟨rfl,rfl,rfl,rfl,trivial⟩ (fun W h=>(h.dropH (t:=100140) rfl).phi (fun W hφ=>hφ))
  replace hm:=ite_f hm (of_decide_eq_false h95)
  refine c_skip ?_
  exact d_round x54 hm Nat.zero_lt_one ⟨rfl,rfl,rfl,rfl,trivial⟩ (fun W h=>(h.dropH (t:=100140) rfl).phi (fun W hφ=>hφ))
 unfold m_record_Get_j3 at hm
 refine d_flat [(4,.pointer (some ⟨g1,0,none⟩)),(7,.pointer (some ⟨g2,0,none⟩)),(8,.func (.func 76) #[] #[]),(13,.int .i64 x55)] ⟨rfl,rfl,rfl,rfl,trivial⟩ (fun u=>?_)
 refine d_sta ⟨w0,M,(100070,g2,.cells #[.string x3,.int .u16 x14,.int .u16 i27,.int .u32 i36,.string s86] 42 (0,0))::(100040,g1,.cells #[.string (⟨#[]⟩ : ByteArray),.int .u16 0,.int .u16 0,.int .u32 0,.string (⟨#[]⟩ : ByteArray)] 42 (0,0))::H,R,φ⟩ (fun _ h=>h)<|d_then<|c_seq<|c_region<|g_v rfl (r_loadA (tag:=100070) rfl rfl Try.isAgg42 Try.sizeOf42 rfl rfl) ?_
 replace hm:=bnd hm
 obtain ⟨x87,hx88,hm⟩:=hm
 refine g_cn ⟨w0,M,_,_,φ⟩ (fun _ h=>h) Try.call34 rfl rfl (c_record_Check (⟨x3,x14,i27,i36,s86⟩ : GRR) _ hx88) (fun _ _=>?_)
 refine g_v rfl r_assign<|g_nil<|d_then<|c_seq<|c_seq<|c_region<|g_v rfl r_move<|g_v rfl (r_neq rfl rfl)<|g_nil<|d_then ?_
 refine c_cond rfl (fun h89=>?_) (fun h89=>?_)
 ·
  replace hm:=ite_t hm (of_decide_eq_true h89)
  refine c_seq<|c_region<|g_v rfl r_move<|g_v rfl r_move ?_
  replace hm:=bnd hm
  obtain ⟨⟨x90,x91,x92⟩,hx93,hm⟩:=hm
  refine g_cnv ⟨w0,M,_,_,φ⟩ (fun _ h=>h) Try.call76 rfl rfl rfl (c_record_Get_c1 x87 _ hx93) (fun _ _=>?_)
  iterate 3 refine g_v rfl (r_extract rfl rfl) ?_
  refine g_storeL (tag:=100040) rfl rfl rfl rfl Try.sizeOf42 rfl rfl<|g_v rfl r_assign<|g_v rfl r_assign<|g_nil<|d_then ?_
  refine c_flat [(4,.pointer (some ⟨g1,0,none⟩)),(5,.int .i64 x91),(6,.int .i64 x92)] ⟨rfl,rfl,rfl,trivial⟩ (fun u=>?_)
  refine c_sta ⟨w0,M,(100070,g2,.cells #[.string x3,.int .u16 x14,.int .u16 i27,.int .u32 i36,.string s86] 42 (0,0))::(100040,g1,.cells #[.string x90.fName,.int .u16 x90.fType,.int .u16 x90.fClass,.int .u32 x90.fTTL,.string x90.fData] 42 (0,0))::H,R,φ⟩ (fun _ h=>h)<|c_ret<|d_ret_then ?_
  cases hm
  exact d_retC () Try.results53 (res_agg (tag:=100040) rfl rfl Try.isAgg42 Try.sizeOf42 (res_tmp (res_tmp (res_nil rfl)))) trivial (fun W h=>ok_pre (H1:=[_,_]) (R1:=[]) h (fun W hφ=>hφ)) (.inr rfl)
 replace hm:=ite_f hm (of_decide_eq_false h89)
 refine c_skip<|d_then<|c_seq<|c_region<|g_v rfl (r_loadA (tag:=100070) rfl rfl Try.isAgg42 Try.sizeOf42 rfl rfl)<|g_v rfl r_move<|g_storeL (tag:=100040) rfl rfl rfl rfl Try.sizeOf42 rfl rfl<|g_v rfl r_assign<|g_v rfl r_assign<|g_nil ?_
 refine d_then ?_
 refine c_flat [(4,.pointer (some ⟨g1,0,none⟩)),(5,.int .i64 x55),(6,.int .i64 0)] ⟨rfl,rfl,rfl,trivial⟩ (fun u=>?_)
 refine c_sta ⟨w0,M,(100070,g2,.cells #[.string x3,.int .u16 x14,.int .u16 i27,.int .u32 i36,.string s86] 42 (0,0))::(100040,g1,.cells #[.string x3,.int .u16 x14,.int .u16 i27,.int .u32 i36,.string s86] 42 (0,0))::H,R,φ⟩ (fun _ h=>h)<|c_ret ?_
 cases hm
 exact d_retC () Try.results53 (res_agg (tag:=100040) rfl rfl Try.isAgg42 Try.sizeOf42 (res_tmp (res_tmp (res_nil rfl)))) trivial (fun W h=>ok_pre (H1:=[_,_]) (R1:=[]) h (fun W hφ=>hφ)) (.inr rfl)
noncomputable def m_message_many_52_j1  (l95 : List GRR) (i98 : Int) : Option ((List GRR)×Int×Int):=
  some (l95,i98,0)
noncomputable def m_message_many_52_s2 (p2 : Int) (p0 : ByteArray) (l116 : List GRR) (i119 : Int) (i120 : Int) : Option (((List GRR)×Int×Int) ⊕ (((List GRR)×Int) ⊕ ((List GRR)×Int×Int))):=
  if i120 < p2 then
    (m_record_Get p0 i119).bind fun (z144 : GRR×Int×Int)=>
    if z144.2.2 ≠ 0 then
      some (.inr (.inr (([] : List GRR),0,z144.2.2)))
    else
      (app 40 l116 [z144.1]).bind fun l148=>
      some (.inl (l148,z144.2.1,IntKind.u16.wrap (i120 + 1)))
  else
    some (.inr (.inl (l116,i119)))
noncomputable def m_message_many_52 (p0 : ByteArray) (p1 : Int) (p2 : Int) : Option ((List GRR)×Int×Int):=
  (loop (fun s=>m_message_many_52_s2 p2 p0 s.1 s.2.1 s.2.2) (([] : List GRR),p1,0)).bind fun e=>Sum.elim (fun e=>m_message_many_52_j1 e.1 e.2) (fun x=>some x) e
theorem c_message_many_52 {w0 : World} {M : Nat→Prop} {H : List (Nat×Nat×Obj)} {R : List (Nat×Row)} {φ : World→Prop} (p0 : ByteArray) (p1 : Int) (p2 : Int) (r : (List GRR)×Int×Int) (hm : m_message_many_52 p0 p1 p2 = some r) :
    Cn Try.prog 52 #[.string p0,.int .i64 p1,.int .u16 p2,.func (.func 53) #[] #[]] ⟨w0,M,H,R,φ⟩ (fun x : Option Addr×Nat=>.tuple #[.slice x.1 r.1.length x.2,.int .i64 r.2.1,.int .i64 r.2.2]) (fun x=>r.1.length ≤ x.2) (fun x=>⟨w0,M,H,(2000,⟨.slice x.1 r.1.length x.2,42,5,r.1.length,r.1.flatMap GRR.enc⟩)::R,φ⟩):=by
 unfold m_message_many_52 at hm
 refine cn_intro (fn:=Try.f52) (N:=37) Try.func52 rfl Try.ntmps52 rfl<|c_seq<|c_region ?_
 iterate 3 refine g_v rfl r_assign ?_
 refine g_nil<|d_then<|c_seq<|c_region<|g_v rfl r_assign<|g_nil<|d_then<|c_seq<|c_seq<|c_region ?_
 refine g_v rfl r_move<|g_v rfl r_move<|g_nil<|d_then<|c_sta _ (fun W h=>nilR h 16 42 5) ?_
 refine c_cut (ι:=(List GRR)×Int×Option Addr×Nat) [1,11] (fun ⟨l95,i98,A96,c97⟩=>[(1,.int .i64 i98),(11,.slice A96 l95.length c97)]) (fun ⟨l95,i98,A96,c97⟩=>⟨w0,M,H,(16,⟨.slice A96 l95.length c97,42,5,l95.length,l95.flatMap GRR.enc⟩)::R,φ⟩) (fun ⟨l95,i98,A96,c97⟩=>m_message_many_52_j1 l95 i98 = some r∧l95.length ≤ c97) ?_ (fun ⟨l95,i98,A96,c97⟩ u ⟨hm,hc97⟩=>?_)
 ·
  refine c_block ?_
  replace hm:=bnd hm
  obtain ⟨out2,hl2,hr2⟩:=hm
  obtain ⟨n138',hl2⟩:=loop_lp hl2
  refine c_loopU (ι:=Nat×(List GRR)×Int×Int×Option Addr×Nat) [0,1,3,11,15,16] (fun ⟨n138,l116,i119,i120,A117,c118⟩=>[(1,.int .i64 i119),(11,.slice A117 l116.length c118),(16,.int .u16 i120)]) (fun ⟨n138,l116,i119,i120,A117,c118⟩=>⟨w0,M,H,(16,⟨.slice A117 l116.length c118,42,5,l116.length,l116.flatMap GRR.enc⟩)::R,φ⟩) (fun ⟨n138,l116,i119,i120,A117,c118⟩=>Lp (fun s=>m_message_many_52_s2 p2 p0 s.1 s.2.1 s.2.2) n138 (l116,i119,i120) out2∧l116.length ≤ c118) (fun ⟨n138,l116,i119,i120,A117,c118⟩=>n138) (n138',([] : List GRR),p1,0,none,0) ⟨hl2,(Nat.le_refl 0)⟩ ⟨rfl,rfl,rfl,rfl,rfl,rfl,trivial⟩ (fun W h=>h.phi (fun W hφ=>hφ)) (fun ⟨n138,l116,i119,i120,A117,c118⟩ u ⟨hlp,hc118⟩=>?_)
  obtain ⟨o2,hm,hnx2⟩:=lp_step hlp
  clear hlp
  replace hm : m_message_many_52_s2 p2 p0 l116 i119 i120 = some o2:=hm
  unfold m_message_many_52_s2 at hm
  refine c_flat [(0,.string p0),(1,.int .i64 i119),(3,.func (.func 53) #[] #[]),(11,.slice A117 l116.length c118),(15,.int .u16 p2),(16,.int .u16 i120)] ⟨rfl,rfl,rfl,rfl,rfl,rfl,trivial⟩ (fun u=>?_)
  refine c_sta ⟨w0,M,H,(16,⟨.slice A117 l116.length c118,42,5,l116.length,l116.flatMap GRR.enc⟩)::R,φ⟩ (fun _ h=>h)<|c_seq<|c_region<|g_v rfl (r_lss rfl rfl)<|g_nil<|d_then<|c_seq ?_
  refine c_cond rfl (fun h139=>?_) (fun h139=>?_)
  ·
   replace hm:=ite_t hm (of_decide_eq_true h139)
   refine c_skip<|d_then<|c_seq<|c_block<|c_seq<|c_region ?_
   iterate 3 refine g_v rfl r_move ?_
   replace hm:=bnd hm
   obtain ⟨⟨x140,x141,x142⟩,hx143,hm⟩:=hm
   refine g_cnv ⟨w0,M,_,_,φ⟩ (fun _ h=>h) Try.call53 rfl rfl rfl (c_record_Get p0 i119 _ hx143) (fun _ _=>?_)
   refine g_v rfl r_move ?_
   iterate 3 refine g_v rfl (r_extract rfl rfl) ?_
   refine g_e rfl (e_alloc 100120 Try.zeroValue42) (fun g145 _=>?_)
   refine g_storeL (tag:=100120) rfl rfl rfl rfl Try.sizeOf42 rfl rfl<|g_v rfl r_assign<|g_v rfl r_assign<|g_nil<|d_then ?_
   refine c_flat [(0,.string p0),(3,.func (.func 53) #[] #[]),(11,.slice A117 l116.length c118),(12,.pointer (some ⟨g145,0,none⟩)),(13,.int .i64 x141),(14,.int .i64 x142),(15,.int .u16 p2),(16,.int .u16 i120)] ⟨rfl,rfl,rfl,rfl,rfl,rfl,rfl,rfl,trivial⟩ (fun u=>?_)
   refine c_sta ⟨w0,M,(100120,g145,.cells #[.string x140.fName,.int .u16 x140.fType,.int .u16 x140.fClass,.int .u32 x140.fTTL,.string x140.fData] 42 (0,0))::H,(16,⟨.slice A117 l116.length c118,42,5,l116.length,l116.flatMap GRR.enc⟩)::R,φ⟩ (fun _ h=>h)<|c_seq<|c_seq<|c_region<|g_v rfl r_move<|g_v rfl (r_neq rfl rfl)<|g_nil<|d_then ?_
   refine c_cond rfl (fun h146=>?_) (fun h146=>?_)
   ·
    replace hm:=ite_t hm (of_decide_eq_true h146)
    refine c_seq<|c_region<|g_v rfl r_move ?_
    iterate 3 refine g_v rfl r_assign ?_
    refine g_nil<|d_then<|c_ret<|d_ret_then<|d_ret_block<|d_ret_then<|d_ret_then<|d_ret_block<|d_ret_then<|d_ret_then ?_
    replace hm:=nx_out (C:=(fun e : ((List GRR)×Int) ⊕ ((List GRR)×Int×Int)=>Sum.elim (fun e=>m_message_many_52_j1 e.1 e.2) (fun x=>some x) e = some r)) hm hnx2 hr2
    replace hm : some (([] : List GRR),0,x142) = some r:=hm
    cases hm
    refine d_sta _ (fun W h=>nilR h 21 42 5)<|d_sta _ (fun W h=>ok_frontR (t:=21) (t':=2000) h rfl) ?_
    exact d_retC (none,0) Try.results52 (res_tmp (res_tmp (res_tmp (res_nil rfl)))) (Nat.le_refl 0) (fun W h=>((h.dropR (t:=16) rfl).dropH (t:=100120) rfl).phi (fun W hφ=>hφ)) (.inr rfl)
   replace hm:=ite_f hm (of_decide_eq_false h146)
   refine c_skip<|d_then<|c_region<|g_v rfl r_move<|g_v rfl (r_loadA (tag:=100120) rfl rfl Try.isAgg42 Try.sizeOf42 rfl rfl) ?_
   refine g_e rfl (e_lit (tag:=100310) (l:=[x140]) (enc:=GRR.enc) (sz:=5) rfl Try.underlying24 (lit42_16 _ _ _ _ _) rfl rfl (fun _=>rfl)) (fun g147 _=>?_)
   replace hm:=bnd hm
   obtain ⟨l148,hl148,hm⟩:=hm
   refine g_e rfl (e_appR (enc:=GRR.enc) (l:=l116) (l1:=[x140]) (l2:=l148) (tag:=16) Try.underlying24 inf42_17 rfl (by decide) (by decide) (fun _=>rfl) (fun _=>rfl) rfl hc118 rfl rfl (fun W hS=>rowCl (tag:=100310) rfl W hS) hl148) (fun ⟨A149,c150⟩ hc150=>?_)
   refine g_v rfl r_move<|g_v rfl r_assign<|g_v rfl r_assign<|g_nil<|d_normal_block<|d_then ?_
   refine c_flat [(0,.string p0),(1,.int .i64 x141),(3,.func (.func 53) #[] #[]),(11,.slice A149 l148.length c150),(15,.int .u16 p2),(16,.int .u16 i120)] ⟨rfl,rfl,rfl,rfl,rfl,rfl,trivial⟩ (fun u=>?_)
   refine c_sta ⟨w0,M,(100120,g145,.cells #[.string x140.fName,.int .u16 x140.fType,.int .u16 x140.fClass,.int .u32 x140.fTTL,.string x140.fData] 42 (0,0))::H,(100310,⟨.slice (some ⟨g147,0,none⟩) [x140].length 1,42,5,[x140].length,[x140].flatMap GRR.enc⟩)::(16,⟨.slice A149 l148.length c150,42,5,l148.length,l148.flatMap GRR.enc⟩)::R,φ⟩ (fun _ h=>h)<|c_region<|g_v rfl (r_add rfl rfl rfl)<|g_v rfl r_move<|g_nil ?_
   obtain ⟨n151,hn151,hlp⟩:=nx_inl hm hnx2
   exact d_round (n151,l148,x141,IntKind.u16.wrap (i120 + 1),A149,c150) ⟨hlp,hc150⟩ hn151 ⟨rfl,rfl,rfl,rfl,rfl,rfl,trivial⟩ (fun W h=>((h.dropR (t:=100310) rfl).dropH (t:=100120) rfl).phi (fun W hφ=>hφ))
  replace hm:=ite_f hm (of_decide_eq_false h139)
  refine c_exit<|d_exit_then<|d_exit_then<|d_exit_block ?_
  replace hm:=nx_out (C:=(fun e : ((List GRR)×Int) ⊕ ((List GRR)×Int×Int)=>Sum.elim (fun e=>m_message_many_52_j1 e.1 e.2) (fun x=>some x) e = some r)) hm hnx2 hr2
  exact d_round (l116,i119,A117,c118) ⟨hm,hc118⟩ Nat.zero_lt_one ⟨rfl,rfl,trivial⟩ (fun W h=>h.phi (fun W hφ=>hφ))
 unfold m_message_many_52_j1 at hm
 refine d_flat [(1,.int .i64 i98),(11,.slice A96 l95.length c97)] ⟨rfl,rfl,trivial⟩ (fun u=>?_)
 refine d_sta ⟨w0,M,H,(16,⟨.slice A96 l95.length c97,42,5,l95.length,l95.flatMap GRR.enc⟩)::R,φ⟩ (fun _ h=>h)<|d_then<|c_seq<|c_region<|g_v rfl r_move<|g_v rfl r_move ?_
 iterate 3 refine g_v rfl r_assign ?_
 refine g_nil<|d_then<|c_ret ?_
 cases hm
 refine d_sta _ (fun W h=>ok_frontR (t:=16) (t':=2000) h rfl) ?_
 exact d_retC (A96,c97) Try.results52 (res_tmp (res_tmp (res_tmp (res_nil rfl)))) hc97 (fun W h=>h.phi (fun W hφ=>hφ)) (.inr rfl)
end Go.Proofs.Ytjbfgaahonmclaa
