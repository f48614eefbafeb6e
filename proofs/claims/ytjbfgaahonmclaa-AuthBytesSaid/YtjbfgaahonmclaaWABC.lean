import Derived.Test.YtjbfgaahonmclaaWABB
set_option maxRecDepth 100000
set_option maxHeartbeats 4000000
set_option linter.unusedVariables false
set_option linter.unusedSimpArgs false
namespace Go.Proofs.Ytjbfgaahonmclaa
open Go.RowKit Go.Proofs.YtjbfgaahonmclaaW.PrintLast
noncomputable def m_message_Read_j3 (p0 : ByteArray) (x4 : GMessage) (x45 : List GQuestion) (l86 : List GRR) (l124 : List GRR) (i160 : Int) (i161 : Int) (l162 : List GRR) : Option (GMessage×Int):=
  if i160 ≠ 0 then
    some ((⟨0,false,false,false,false,false,0,0,([] : List GQuestion),([] : List GRR),([] : List GRR),([] : List GRR)⟩ : GMessage),i160)
  else
    if i161 ≠ (p0.size : Int) then
      some ((⟨0,false,false,false,false,false,0,0,([] : List GQuestion),([] : List GRR),([] : List GRR),([] : List GRR)⟩ : GMessage),10)
    else
      some ((⟨x4.fID,x4.fResponse,x4.fAuthoritative,x4.fTruncated,x4.fDesired,x4.fAvailable,x4.fOpcode,x4.fCode,x45,l86,l124,l162⟩ : GMessage),0)
noncomputable def m_message_Read_j2 (p0 : ByteArray) (x4 : GMessage) (x45 : List GQuestion) (l86 : List GRR) (i122 : Int) (i123 : Int) (l124 : List GRR) : Option (GMessage×Int):=
  if i122 = 0 then
    (m_message_Read_c1 3 p0).bind fun x192=>
    (m_message_many_52 p0 i123 x192).bind fun (z201 : (List GRR)×Int×Int)=>
    m_message_Read_j3 p0 x4 x45 l86 l124 z201.2.2 z201.2.1 z201.1
  else
    m_message_Read_j3 p0 x4 x45 l86 l124 i122 i123 x4.fExtras
noncomputable def m_message_Read_j1 (p0 : ByteArray) (x4 : GMessage) (x45 : List GQuestion) (i84 : Int) (i85 : Int) (l86 : List GRR) : Option (GMessage×Int):=
  if i84 = 0 then
    (m_message_Read_c1 2 p0).bind fun x225=>
    (m_message_many_52 p0 i85 x225).bind fun (z234 : (List GRR)×Int×Int)=>
    m_message_Read_j2 p0 x4 x45 l86 z234.2.2 z234.2.1 z234.1
  else
    m_message_Read_j2 p0 x4 x45 l86 i84 i85 x4.fAuthorities
noncomputable def m_message_Read (p0 : ByteArray) : Option (GMessage×Int):=
  if 4096 < (p0.size : Int) then
    some ((⟨0,false,false,false,false,false,0,0,([] : List GQuestion),([] : List GRR),([] : List GRR),([] : List GRR)⟩ : GMessage),11)
  else
    (m_message_Head p0).bind fun (z20 : GMessage×Int)=>
    if z20.2 ≠ 0 then
      some ((⟨0,false,false,false,false,false,0,0,([] : List GQuestion),([] : List GRR),([] : List GRR),([] : List GRR)⟩ : GMessage),z20.2)
    else
      (m_message_Read_c1 0 p0).bind fun x43=>
      (m_message_many_50 p0 12 x43).bind fun (z52 : (List GQuestion)×Int×Int)=>
      if z52.2.2 = 0 then
        (m_message_Read_c1 1 p0).bind fun x258=>
        (m_message_many_52 p0 z52.2.1 x258).bind fun (z267 : (List GRR)×Int×Int)=>
        m_message_Read_j1 p0 z20.1 z52.1 z267.2.2 z267.2.1 z267.1
      else
        m_message_Read_j1 p0 z20.1 z52.1 z52.2.2 z52.2.1 z20.1.fAnswers
theorem c_message_Read {w0 : World} {M : Nat→Prop} {H : List (Nat×Nat×Obj)} {R : List (Nat×Row)} {φ : World→Prop} (p0 : ByteArray) (r : GMessage×Int) (hm : m_message_Read p0 = some r) :
    Cn Try.prog 23 #[.string p0] ⟨w0,M,H,R,φ⟩ (fun x : Option Addr×Nat×Option Addr×Nat×Option Addr×Nat×Option Addr×Nat=>.tuple #[.agg #[.int .u16 r.1.fID,.bool r.1.fResponse,.bool r.1.fAuthoritative,.bool r.1.fTruncated,.bool r.1.fDesired,.bool r.1.fAvailable,.int .i64 r.1.fOpcode,.int .i64 r.1.fCode,.slice x.1 r.1.fQuestions.length x.2.1,.slice x.2.2.1 r.1.fAnswers.length x.2.2.2.1,.slice x.2.2.2.2.1 r.1.fAuthorities.length x.2.2.2.2.2.1,.slice x.2.2.2.2.2.2.1 r.1.fExtras.length x.2.2.2.2.2.2.2],.int .i64 r.2]) (fun x=>r.1.fQuestions.length ≤ x.2.1∧r.1.fAnswers.length ≤ x.2.2.2.1∧r.1.fAuthorities.length ≤ x.2.2.2.2.2.1∧r.1.fExtras.length ≤ x.2.2.2.2.2.2.2) (fun x=>⟨w0,M,H,R,fun W=>φ W∧Cl W x.1 (r.1.fQuestions.flatMap GQuestion.enc)∧Cl W x.2.2.1 (r.1.fAnswers.flatMap GRR.enc)∧Cl W x.2.2.2.2.1 (r.1.fAuthorities.flatMap GRR.enc)∧Cl W x.2.2.2.2.2.2.1 (r.1.fExtras.flatMap GRR.enc)⟩):=by
 unfold m_message_Read at hm
 refine cn_intro (fn:=Try.f23) (N:=70) Try.func23 rfl Try.ntmps23 rfl<|c_seq<|c_region ?_
 refine g_e rfl (e_box 100010 rfl) (fun g1 _=>?_)
 refine g_e rfl (e_alloc 100020 Try.zeroValue26) (fun g2 _=>?_)
 refine g_v rfl r_assign<|g_nil<|d_then<|c_seq<|c_seq<|c_region<|g_v rfl (r_load (tag:=100010) rfl rfl rfl Try.isAgg9)<|g_v rfl (r_len Try.underlying9 rfl)<|g_v rfl (r_gtr rfl rfl)<|g_nil ?_
 refine d_then<|c_sta ⟨w0,M,(100020,g2,.cells #[.int .u16 0,.bool false,.bool false,.bool false,.bool false,.bool false,.int .i64 0,.int .i64 0,.slice none 0 0,.slice none 0 0,.slice none 0 0,.slice none 0 0] 26 (0,0))::(100010,g1,.cells #[.string p0] 9 (0,0))::H,R,φ⟩ (fun _ h=>h) ?_
 refine c_cond rfl (fun h3=>?_) (fun h3=>?_)
 ·
  replace hm:=ite_t hm (of_decide_eq_true h3)
  refine c_seq<|c_region<|g_v rfl (r_build _ rfl (bld26_23))<|g_storeL (tag:=100020) rfl rfl rfl rfl Try.sizeOf26 rfl rfl<|g_v rfl r_assign<|g_nil<|d_then ?_
  refine c_flat [(2,.pointer (some ⟨g2,0,none⟩)),(3,.int .i64 11)] ⟨rfl,rfl,trivial⟩ (fun u=>?_)
  refine c_ret<|d_ret_then ?_
  cases hm
  exact d_retC (none,0,none,0,none,0,none,0) Try.results23 (res_agg (tag:=100020) rfl rfl Try.isAgg26 Try.sizeOf26 (res_tmp (res_nil rfl))) ⟨(Nat.le_refl 0),(Nat.le_refl 0),(Nat.le_refl 0),(Nat.le_refl 0)⟩ (fun W h=>ok_pre (H1:=[_,_]) (R1:=[]) h (fun W hφ=>⟨hφ,(fun W _=>Cl.nil _ _) W hφ,(fun W _=>Cl.nil _ _) W hφ,(fun W _=>Cl.nil _ _) W hφ,(fun W _=>Cl.nil _ _) W hφ⟩)) (.inr rfl)
 replace hm:=ite_f hm (of_decide_eq_false h3)
 refine c_skip<|d_then<|c_seq<|c_region<|g_v rfl (r_load (tag:=100010) rfl rfl rfl Try.isAgg9) ?_
 replace hm:=bnd hm
 obtain ⟨⟨x4,x5⟩,hx6,hm⟩:=hm
 refine g_cn ⟨w0,M,_,_,φ⟩ (fun _ h=>h) Try.call43 rfl rfl (c_message_Head p0 _ hx6) (fun ⟨A7,c8,A10,c11,A13,c14,A16,c17⟩ ⟨hc8,hc11,hc14,hc17⟩=>?_)
 refine g_abs (fun φ19 q19'=>?_)
 have q19 : ∀ W,φ19 W→φ W:=fun W h=>(q19' W h).1
 have f9:=fun (W : World) (h : φ19 W)=>(q19' W h).2.1
 have f12:=fun (W : World) (h : φ19 W)=>(q19' W h).2.2.1
 have f15:=fun (W : World) (h : φ19 W)=>(q19' W h).2.2.2.1
 have f18:=fun (W : World) (h : φ19 W)=>(q19' W h).2.2.2.2
 refine g_v rfl r_move<|g_v rfl (r_extract rfl rfl)<|g_v rfl (r_extract rfl rfl) ?_
 refine g_e rfl (e_alloc 100040 Try.zeroValue26) (fun g21 _=>?_)
 refine g_storeL (tag:=100040) rfl rfl rfl rfl Try.sizeOf26 rfl rfl<|g_v rfl r_assign<|g_nil<|d_then ?_
 refine c_flat [(1,.pointer (some ⟨g1,0,none⟩)),(2,.pointer (some ⟨g2,0,none⟩)),(4,.pointer (some ⟨g21,0,none⟩)),(5,.int .i64 x5)] ⟨rfl,rfl,rfl,rfl,trivial⟩ (fun u=>?_)
 refine c_sta ⟨w0,M,(100040,g21,.cells #[.int .u16 x4.fID,.bool x4.fResponse,.bool x4.fAuthoritative,.bool x4.fTruncated,.bool x4.fDesired,.bool x4.fAvailable,.int .i64 x4.fOpcode,.int .i64 x4.fCode,.slice A7 x4.fQuestions.length c8,.slice A10 x4.fAnswers.length c11,.slice A13 x4.fAuthorities.length c14,.slice A16 x4.fExtras.length c17] 26 (0,0))::(100020,g2,.cells #[.int .u16 0,.bool false,.bool false,.bool false,.bool false,.bool false,.int .i64 0,.int .i64 0,.slice none 0 0,.slice none 0 0,.slice none 0 0,.slice none 0 0] 26 (0,0))::(100010,g1,.cells #[.string p0] 9 (0,0))::H,R,φ19⟩ (fun _ h=>h)<|c_seq<|c_seq<|c_region<|g_v rfl r_move<|g_v rfl (r_neq rfl rfl)<|g_nil<|d_then ?_
 refine c_cond rfl (fun h22=>?_) (fun h22=>?_)
 ·
  replace hm:=ite_t hm (of_decide_eq_true h22)
  refine c_seq<|c_region<|g_v rfl (r_build _ rfl (bld26_23))<|g_v rfl r_move<|g_storeL (tag:=100020) rfl rfl rfl rfl Try.sizeOf26 rfl rfl<|g_v rfl r_assign<|g_nil<|d_then<|c_ret<|d_ret_then ?_
  cases hm
  exact d_retC (none,0,none,0,none,0,none,0) Try.results23 (res_agg (tag:=100020) rfl rfl Try.isAgg26 Try.sizeOf26 (res_tmp (res_nil rfl))) ⟨(Nat.le_refl 0),(Nat.le_refl 0),(Nat.le_refl 0),(Nat.le_refl 0)⟩ (fun W h=>ok_pre (H1:=[_,_,_]) (R1:=[]) h (fun W hφ=>⟨(q19 _ hφ),(fun W _=>Cl.nil _ _) W hφ,(fun W _=>Cl.nil _ _) W hφ,(fun W _=>Cl.nil _ _) W hφ,(fun W _=>Cl.nil _ _) W hφ⟩)) (.inr rfl)
 replace hm:=ite_f hm (of_decide_eq_false h22)
 refine c_skip<|d_then<|c_seq<|c_region<|g_v rfl (r_mkf rfl)<|g_v rfl r_assign<|g_nil<|d_then<|c_seq<|c_region ?_
 refine g_v rfl r_assign<|g_nil<|d_then<|c_seq<|ga_start (n:=13) ⟨w0,M,(100020,g2,.cells #[.int .u16 0,.bool false,.bool false,.bool false,.bool false,.bool false,.int .i64 0,.int .i64 0,.slice none 0 0,.slice none 0 0,.slice none 0 0,.slice none 0 0] 26 (0,0))::(100010,g1,.cells #[.string p0] 9 (0,0))::H,R,φ19⟩ [] #[false,false,false,false,false,false,false,false,false,false,false,false,false] (fun W h=>(h.dropH (t:=100040) rfl).phi (fun W hφ=>hφ)) mixed rfl rfl<|ga_v (i:=0) (bz 13 1) rfl (by kernel_rfl) (fun _ _ _ _ h=>h) rfl (r_load (tag:=100010) rfl rfl rfl Try.isAgg9)<|ga_v (i:=1) (bz 13 3) rfl (by kernel_rfl) (fun _ _ _ _ h=>h) rfl (r_move)<|ga_r (i:=2) (bz 13 7) rfl (by kernel_rfl) (by decide) rfl (r_move) ?_
 replace hm:=bnd hm
 obtain ⟨x43,hx44,hm⟩:=hm
 refine ga_cn (first:=#[]) (i:=3) (bz 13 15) rfl (by kernel_rfl) (by decide)  ⟨w0,M,(1000,g1,.cells #[.string p0] 9 (0,0))::(100040,g21,.cells #[.int .u16 x4.fID,.bool x4.fResponse,.bool x4.fAuthoritative,.bool x4.fTruncated,.bool x4.fDesired,.bool x4.fAvailable,.int .i64 x4.fOpcode,.int .i64 x4.fCode,.slice A7 x4.fQuestions.length c8,.slice A10 x4.fAnswers.length c11,.slice A13 x4.fAuthorities.length c14,.slice A16 x4.fExtras.length c17] 26 (0,0))::(100020,g2,.cells #[.int .u16 0,.bool false,.bool false,.bool false,.bool false,.bool false,.int .i64 0,.int .i64 0,.slice none 0 0,.slice none 0 0,.slice none 0 0,.slice none 0 0] 26 (0,0))::H,R,φ19⟩ (fun W h=>(ok_front (t:=100010) (t':=1000) h rfl)) Try.call48 rfl rfl rfl (c_message_Read_c1 0 g1 p0 _ hx44) (fun _ W _ h=>(ok_front (t:=100020) (t':=100020) (ok_front (t:=100010) (t':=100010) ((ok_front (t:=1000) (t':=100010) h rfl).dropH (t:=100040) rfl) rfl) rfl).phi (fun W hφ=>hφ)) (fun _ _=>?_)
 refine ga_sta _ (fun W h=>(ok_front (t:=1000) (t':=100010) h rfl)) ?_
 replace hm:=bnd hm
 obtain ⟨⟨x45,x46,x47⟩,hx48,hm⟩:=hm
 refine ga_cn (first:=#[]) (i:=4) (bz 13 31) rfl (by kernel_rfl) (by decide)  ⟨w0,M,_,_,φ19⟩ (fun _ h=>h) Try.call50 rfl rfl rfl (c_message_many_50 p0 12 x43 _ hx48) (fun ⟨A49,c50⟩ W hc50 h=>(ok_front (t:=100020) (t':=100020) (ok_front (t:=100010) (t':=100010) (((ok_frontR (t:=2000) (t':=100290) h rfl).dropR (t:=100290) rfl).dropH (t:=100040) rfl) rfl) rfl).phi (fun W hφ=>hφ)) (fun ⟨A49,c50⟩ hc50=>?_)
 refine ga_sta _ (fun W h=>(ok_frontR (t:=2000) (t':=100290) h rfl))<|ga_r (i:=5) (bz 13 63) rfl (by kernel_rfl) (by decide) rfl (r_move)<|ga_v (i:=6) (bz 13 127) rfl (by kernel_rfl) (fun _ _ _ _ h=>h) rfl (r_extract rfl rfl)<|ga_v (i:=7) (bz 13 255) rfl (by kernel_rfl) (fun _ _ _ _ h=>h) rfl (r_extract rfl rfl)<|ga_v (i:=8) (bz 13 511) rfl (by kernel_rfl) (fun _ _ _ _ h=>h) rfl (r_extract rfl rfl)<|ga_r (i:=9) (bz 13 1023) rfl (by kernel_rfl) (by decide) rfl (r_field (n:=8) Try.underlying26 rfl Try.sizeOf23 rfl rfl)<|ga_storeN (i:=10) (tag:=100040) (bz 13 2047) rfl (by kernel_rfl) (by decide) rfl rfl rfl rfl Try.sizeOf23 rfl rfl (fun W h=>(ok_front (t:=100020) (t':=100020) (ok_front (t:=100010) (t':=100010) ((h.dropR (t:=100290) rfl).dropH (t:=100040) rfl) rfl) rfl).phi (fun W hφ=>hφ))<|ga_r (i:=11) (bz 13 4095) rfl (by kernel_rfl) (by decide) rfl (r_assign)<|ga_r (i:=12) (bz 13 8191) rfl (by kernel_rfl) (by decide) rfl (r_assign)<|ga_done (by kernel_rfl) ?_
 refine d_then ?_
 refine c_flat [(1,.pointer (some ⟨g1,0,none⟩)),(2,.pointer (some ⟨g2,0,none⟩)),(4,.pointer (some ⟨g21,0,none⟩)),(5,.int .i64 x47),(6,.func (.func 48) #[] #[.pointer (some ⟨g1,0,none⟩)]),(7,.int .i64 x46)] ⟨rfl,rfl,rfl,rfl,rfl,rfl,trivial⟩ (fun u=>?_)
 refine c_sta ⟨w0,M,(100010,g1,.cells #[.string p0] 9 (0,0))::(100040,g21,.cells #[.int .u16 x4.fID,.bool x4.fResponse,.bool x4.fAuthoritative,.bool x4.fTruncated,.bool x4.fDesired,.bool x4.fAvailable,.int .i64 x4.fOpcode,.int .i64 x4.fCode,.slice A49 x45.length c50,.slice A10 x4.fAnswers.length c11,.slice A13 x4.fAuthorities.length c14,.slice A16 x4.fExtras.length c17] 26 (0,0))::(100020,g2,.cells #[.int .u16 0,.bool false,.bool false,.bool false,.bool false,.bool false,.int .i64 0,.int .i64 0,.slice none 0 0,.slice none 0 0,.slice none 0 0,.slice none 0 0] 26 (0,0))::H,(100290,⟨.slice A49 x45.length c50,29,3,x45.length,x45.flatMap GQuestion.enc⟩)::R,φ19⟩ (fun _ h=>h)<|c_seq<|c_seq<|c_region<|g_v rfl (r_field (n:=9) Try.underlying26 rfl Try.sizeOf24 rfl rfl)<|g_v rfl (r_field (n:=10) Try.underlying26 rfl Try.sizeOf24 rfl rfl)<|g_v rfl (r_field (n:=11) Try.underlying26 rfl Try.sizeOf24 rfl rfl)<|g_v rfl (r_build _ rfl (bld93_27 _ _ _))<|g_v rfl r_move<|g_nil ?_
 refine d_then<|c_block<|c_rounds 64<|c_seq<|c_region<|g_v rfl (r_lss rfl rfl)<|g_nil<|d_then<|c_seq<|c_cond1 rfl (by decide) ?_
 refine c_skip<|d_then<|c_seq ?_
 refine c_cut (ι:=Int×Int×(List GRR)×Option Addr×Nat) [1,2,4,5,6,7,37,38] (fun ⟨i84,i85,l86,A87,c88⟩=>[(5,.int .i64 i84),(7,.int .i64 i85)]) (fun ⟨i84,i85,l86,A87,c88⟩=>⟨w0,M,(100010,g1,.cells #[.string p0] 9 (0,0))::(100040,g21,.cells #[.int .u16 x4.fID,.bool x4.fResponse,.bool x4.fAuthoritative,.bool x4.fTruncated,.bool x4.fDesired,.bool x4.fAvailable,.int .i64 x4.fOpcode,.int .i64 x4.fCode,.slice A49 x45.length c50,.slice A87 l86.length c88,.slice A13 x4.fAuthorities.length c14,.slice A16 x4.fExtras.length c17] 26 (0,0))::(100020,g2,.cells #[.int .u16 0,.bool false,.bool false,.bool false,.bool false,.bool false,.int .i64 0,.int .i64 0,.slice none 0 0,.slice none 0 0,.slice none 0 0,.slice none 0 0] 26 (0,0))::H,(100290,⟨.slice A49 x45.length c50,29,3,x45.length,x45.flatMap GQuestion.enc⟩)::R,fun W=>φ19 W∧Cl W A87 (l86.flatMap GRR.enc)⟩) (fun ⟨i84,i85,l86,A87,c88⟩=>m_message_Read_j1 p0 x4 x45 i84 i85 l86 = some r∧l86.length ≤ c88) ?_ (fun ⟨i84,i85,l86,A87,c88⟩ u ⟨hm,hc88⟩=>?_)
 ·
  refine c_block<|c_seq<|c_region<|g_v rfl r_move<|g_v rfl (r_indexA Try.underlying93 Try.sizeOf92 Try.isAgg92 rfl rfl rfl rfl)<|g_v rfl r_assign<|g_v rfl r_assign<|g_nil<|d_then ?_
  refine c_flat [(1,.pointer (some ⟨g1,0,none⟩)),(2,.pointer (some ⟨g2,0,none⟩)),(4,.pointer (some ⟨g21,0,none⟩)),(5,.int .i64 x47),(6,.func (.func 48) #[] #[.pointer (some ⟨g1,0,none⟩)]),(7,.int .i64 x46),(8,.int .i64 0),(9,.pointer (some ⟨g21,9,none⟩)),(37,.agg #[.pointer (some ⟨g21,9,none⟩),.pointer (some ⟨g21,10,none⟩),.pointer (some ⟨g21,11,none⟩)]),(38,.int .i64 0)] ⟨rfl,rfl,rfl,rfl,rfl,rfl,rfl,rfl,rfl,rfl,trivial⟩ (fun u=>?_)
  refine c_seq<|c_region<|g_v rfl r_move<|g_v rfl (r_eql rfl rfl)<|g_nil<|d_then ?_
  refine c_cond rfl (fun h237=>?_) (fun h237=>?_)
  ·
   replace hm:=ite_t hm (of_decide_eq_true h237)
   refine ga_start (n:=16) ⟨w0,M,(100010,g1,.cells #[.string p0] 9 (0,0))::(100020,g2,.cells #[.int .u16 0,.bool false,.bool false,.bool false,.bool false,.bool false,.int .i64 0,.int .i64 0,.slice none 0 0,.slice none 0 0,.slice none 0 0,.slice none 0 0] 26 (0,0))::H,(100290,⟨.slice A49 x45.length c50,29,3,x45.length,x45.flatMap GQuestion.enc⟩)::R,φ19⟩ [] #[false,false,false,false,false,false,false,false,false,false,false,false,false,false,false,false] (fun W h=>(h.dropH (t:=100040) rfl).phi (fun W hφ=>hφ)) mixed rfl rfl<|ga_v (i:=0) (bz 16 1) rfl (by kernel_rfl) (fun _ _ _ _ h=>h) rfl (r_move)<|ga_v (i:=1) (bz 16 3) rfl (by kernel_rfl) (fun _ _ _ _ h=>h) rfl (r_load (tag:=100010) rfl rfl rfl Try.isAgg9)<|ga_v (i:=2) (bz 16 7) rfl (by kernel_rfl) (fun _ _ _ _ h=>h) rfl (r_move)<|ga_v (i:=3) (bz 16 15) rfl (by kernel_rfl) (fun _ _ _ _ h=>h) rfl (r_move)<|ga_r (i:=4) (bz 16 31) rfl (by kernel_rfl) (by decide) rfl (r_move)<|ga_r (i:=5) (bz 16 63) rfl (by kernel_rfl) (by decide) rfl (r_add rfl rfl (show IntKind.i64.wrap (0 + 1) = 1 by decide)) ?_
   replace hm:=bnd hm
   obtain ⟨x258,hx259,hm⟩:=hm
   refine ga_cn (first:=#[]) (i:=6) (bz 16 127) rfl (by kernel_rfl) (by decide)  ⟨w0,M,(1000,g1,.cells #[.string p0] 9 (0,0))::(100040,g21,.cells #[.int .u16 x4.fID,.bool x4.fResponse,.bool x4.fAuthoritative,.bool x4.fTruncated,.bool x4.fDesired,.bool x4.fAvailable,.int .i64 x4.fOpcode,.int .i64 x4.fCode,.slice A49 x45.length c50,.slice A10 x4.fAnswers.length c11,.slice A13 x4.fAuthorities.length c14,.slice A16 x4.fExtras.length c17] 26 (0,0))::(100020,g2,.cells #[.int .u16 0,.bool false,.bool false,.bool false,.bool false,.bool false,.int .i64 0,.int .i64 0,.slice none 0 0,.slice none 0 0,.slice none 0 0,.slice none 0 0] 26 (0,0))::H,(100290,⟨.slice A49 x45.length c50,29,3,x45.length,x45.flatMap GQuestion.enc⟩)::R,φ19⟩ (fun W h=>(ok_front (t:=100010) (t':=1000) h rfl)) Try.call48 rfl rfl rfl (c_message_Read_c1 1 g1 p0 _ hx259) (fun _ W _ h=>((ok_front (t:=1000) (t':=100010) h rfl).dropH (t:=100040) rfl).phi (fun W hφ=>hφ)) (fun _ _=>?_)
   refine ga_sta _ (fun W h=>(ok_front (t:=1000) (t':=100010) h rfl)) ?_
   replace hm:=bnd hm
   obtain ⟨⟨x260,x261,x262⟩,hx263,hm⟩:=hm
   refine ga_cn (first:=#[]) (i:=7) (bz 16 255) rfl (by kernel_rfl) (by decide)  ⟨w0,M,_,_,φ19⟩ (fun _ h=>h) Try.call52 rfl rfl rfl (c_message_many_52 p0 x46 x258 _ hx263) (fun ⟨A264,c265⟩ W hc265 h=>(((ok_frontR (t:=2000) (t':=100520) h rfl).dropR (t:=100520) rfl).dropH (t:=100040) rfl).phi (fun W hφ=>hφ)) (fun ⟨A264,c265⟩ hc265=>?_)
   refine ga_sta _ (fun W h=>(ok_frontR (t:=2000) (t':=100520) h rfl))<|ga_r (i:=8) (bz 16 511) rfl (by kernel_rfl) (by decide) rfl (r_move)<|ga_v (i:=9) (bz 16 1023) rfl (by kernel_rfl) (fun _ _ _ _ h=>h) rfl (r_extract rfl rfl)<|ga_v (i:=10) (bz 16 2047) rfl (by kernel_rfl) (fun _ _ _ _ h=>h) rfl (r_extract rfl rfl)<|ga_v (i:=11) (bz 16 4095) rfl (by kernel_rfl) (fun _ _ _ _ h=>h) rfl (r_extract rfl rfl)<|ga_r (i:=12) (bz 16 8191) rfl (by kernel_rfl) (by decide) rfl (r_nilck rfl)<|ga_storeN (i:=13) (tag:=100040) (bz 16 16383) rfl (by kernel_rfl) (by decide) rfl rfl rfl rfl Try.sizeOf24 rfl rfl (fun W h=>((h.dropR (t:=100520) rfl).dropH (t:=100040) rfl).phi (fun W hφ=>hφ))<|ga_r (i:=14) (bz 16 32767) rfl (by kernel_rfl) (by decide) rfl (r_assign)<|ga_r (i:=15) (bz 16 65535) rfl (by kernel_rfl) (by decide) rfl (r_assign)<|ga_done (by kernel_rfl) ?_
   refine d_normal_block ?_
   refine d_shut (tag:=100520) rfl (fun φ268 q268'=>?_)
   have q268 : ∀ W,φ268 W→φ19 W:=fun W h=>(q268' W h).1
   have f269:=fun (W : World) (h : φ268 W)=>(q268' W h).2
   exact d_round (x262,x261,x260,A264,c265) ⟨hm,hc265⟩ Nat.zero_lt_one ⟨rfl,rfl,rfl,rfl,rfl,rfl,rfl,rfl,trivial⟩ (fun W h=>h.phi (fun W hφ=>⟨(q268 _ hφ),(fun W h=>f269 W h) W hφ⟩))
  replace hm:=ite_f hm (of_decide_eq_false h237)
  refine c_skip<|d_normal_block ?_
  exact d_round (x47,x46,x4.fAnswers,A10,c11) ⟨hm,hc11⟩ Nat.zero_lt_one ⟨rfl,rfl,rfl,rfl,rfl,rfl,rfl,rfl,trivial⟩ (fun W h=>h.phi (fun W hφ=>⟨hφ,(fun W h=>f12 W h) W hφ⟩))
 unfold m_message_Read_j1 at hm
 refine d_abs (fun φ90 q90'=>?_)
 have q90 : ∀ W,φ90 W→φ19 W:=fun W h=>(q90' W h).1
 have f89:=fun (W : World) (h : φ90 W)=>(q90' W h).2
 refine d_flat [(1,.pointer (some ⟨g1,0,none⟩)),(2,.pointer (some ⟨g2,0,none⟩)),(4,.pointer (some ⟨g21,0,none⟩)),(5,.int .i64 i84),(6,.func (.func 48) #[] #[.pointer (some ⟨g1,0,none⟩)]),(7,.int .i64 i85),(37,.agg #[.pointer (some ⟨g21,9,none⟩),.pointer (some ⟨g21,10,none⟩),.pointer (some ⟨g21,11,none⟩)]),(38,.int .i64 0)] ⟨rfl,rfl,rfl,rfl,rfl,rfl,rfl,rfl,trivial⟩ (fun u=>?_)
 refine d_sta ⟨w0,M,(100010,g1,.cells #[.string p0] 9 (0,0))::(100040,g21,.cells #[.int .u16 x4.fID,.bool x4.fResponse,.bool x4.fAuthoritative,.bool x4.fTruncated,.bool x4.fDesired,.bool x4.fAvailable,.int .i64 x4.fOpcode,.int .i64 x4.fCode,.slice A49 x45.length c50,.slice A87 l86.length c88,.slice A13 x4.fAuthorities.length c14,.slice A16 x4.fExtras.length c17] 26 (0,0))::(100020,g2,.cells #[.int .u16 0,.bool false,.bool false,.bool false,.bool false,.bool false,.int .i64 0,.int .i64 0,.slice none 0 0,.slice none 0 0,.slice none 0 0,.slice none 0 0] 26 (0,0))::H,(100290,⟨.slice A49 x45.length c50,29,3,x45.length,x45.flatMap GQuestion.enc⟩)::R,φ90⟩ (fun _ h=>h)<|d_then<|c_region<|g_v rfl (r_add rfl rfl (show IntKind.i64.wrap (0 + 1) = 1 by decide))<|g_v rfl r_move<|g_nil<|d_rounds ?_
 refine c_flat [(1,.pointer (some ⟨g1,0,none⟩)),(2,.pointer (some ⟨g2,0,none⟩)),(4,.pointer (some ⟨g21,0,none⟩)),(5,.int .i64 i84),(6,.func (.func 48) #[] #[.pointer (some ⟨g1,0,none⟩)]),(7,.int .i64 i85),(37,.agg #[.pointer (some ⟨g21,9,none⟩),.pointer (some ⟨g21,10,none⟩),.pointer (some ⟨g21,11,none⟩)]),(38,.int .i64 1)] ⟨rfl,rfl,rfl,rfl,rfl,rfl,rfl,rfl,trivial⟩ (fun u=>?_)
 refine c_seq<|c_region<|g_v rfl (r_lss rfl rfl)<|g_nil<|d_then<|c_seq<|c_cond1 rfl (by decide)<|c_skip<|d_then<|c_seq ?_
 refine c_cut (ι:=Int×Int×(List GRR)×Option Addr×Nat) [1,2,4,5,6,7,37,38] (fun ⟨i122,i123,l124,A125,c126⟩=>[(5,.int .i64 i122),(7,.int .i64 i123)]) (fun ⟨i122,i123,l124,A125,c126⟩=>⟨w0,M,(100010,g1,.cells #[.string p0] 9 (0,0))::(100040,g21,.cells #[.int .u16 x4.fID,.bool x4.fResponse,.bool x4.fAuthoritative,.bool x4.fTruncated,.bool x4.fDesired,.bool x4.fAvailable,.int .i64 x4.fOpcode,.int .i64 x4.fCode,.slice A49 x45.length c50,.slice A87 l86.length c88,.slice A125 l124.length c126,.slice A16 x4.fExtras.length c17] 26 (0,0))::(100020,g2,.cells #[.int .u16 0,.bool false,.bool false,.bool false,.bool false,.bool false,.int .i64 0,.int .i64 0,.slice none 0 0,.slice none 0 0,.slice none 0 0,.slice none 0 0] 26 (0,0))::H,(100290,⟨.slice A49 x45.length c50,29,3,x45.length,x45.flatMap GQuestion.enc⟩)::R,fun W=>φ90 W∧Cl W A125 (l124.flatMap GRR.enc)⟩) (fun ⟨i122,i123,l124,A125,c126⟩=>m_message_Read_j2 p0 x4 x45 l86 i122 i123 l124 = some r∧l124.length ≤ c126) ?_ (fun ⟨i122,i123,l124,A125,c126⟩ u ⟨hm,hc126⟩=>?_)
 ·
  refine c_block<|c_seq<|c_region<|g_v rfl r_move<|g_v rfl (r_indexA Try.underlying93 Try.sizeOf92 Try.isAgg92 rfl rfl rfl rfl)<|g_v rfl r_assign<|g_v rfl r_assign<|g_nil<|d_then<|c_seq ?_
  refine c_region<|g_v rfl r_move<|g_v rfl (r_eql rfl rfl)<|g_nil<|d_then ?_
  refine c_cond rfl (fun h204=>?_) (fun h204=>?_)
  ·
   replace hm:=ite_t hm (of_decide_eq_true h204)
   refine ga_start (n:=16) ⟨w0,M,(100010,g1,.cells #[.string p0] 9 (0,0))::(100020,g2,.cells #[.int .u16 0,.bool false,.bool false,.bool false,.bool false,.bool false,.int .i64 0,.int .i64 0,.slice none 0 0,.slice none 0 0,.slice none 0 0,.slice none 0 0] 26 (0,0))::H,(100290,⟨.slice A49 x45.length c50,29,3,x45.length,x45.flatMap GQuestion.enc⟩)::R,φ90⟩ [] #[false,false,false,false,false,false,false,false,false,false,false,false,false,false,false,false] (fun W h=>(h.dropH (t:=100040) rfl).phi (fun W hφ=>hφ)) mixed rfl rfl<|ga_v (i:=0) (bz 16 1) rfl (by kernel_rfl) (fun _ _ _ _ h=>h) rfl (r_move)<|ga_v (i:=1) (bz 16 3) rfl (by kernel_rfl) (fun _ _ _ _ h=>h) rfl (r_load (tag:=100010) rfl rfl rfl Try.isAgg9)<|ga_v (i:=2) (bz 16 7) rfl (by kernel_rfl) (fun _ _ _ _ h=>h) rfl (r_move)<|ga_v (i:=3) (bz 16 15) rfl (by kernel_rfl) (fun _ _ _ _ h=>h) rfl (r_move)<|ga_r (i:=4) (bz 16 31) rfl (by kernel_rfl) (by decide) rfl (r_move)<|ga_r (i:=5) (bz 16 63) rfl (by kernel_rfl) (by decide) rfl (r_add rfl rfl (show IntKind.i64.wrap (1 + 1) = 2 by decide)) ?_
   replace hm:=bnd hm
   obtain ⟨x225,hx226,hm⟩:=hm
   refine ga_cn (first:=#[]) (i:=6) (bz 16 127) rfl (by kernel_rfl) (by decide)  ⟨w0,M,(1000,g1,.cells #[.string p0] 9 (0,0))::(100040,g21,.cells #[.int .u16 x4.fID,.bool x4.fResponse,.bool x4.fAuthoritative,.bool x4.fTruncated,.bool x4.fDesired,.bool x4.fAvailable,.int .i64 x4.fOpcode,.int .i64 x4.fCode,.slice A49 x45.length c50,.slice A87 l86.length c88,.slice A13 x4.fAuthorities.length c14,.slice A16 x4.fExtras.length c17] 26 (0,0))::(100020,g2,.cells #[.int .u16 0,.bool false,.bool false,.bool false,.bool false,.bool false,.int .i64 0,.int .i64 0,.slice none 0 0,.slice none 0 0,.slice none 0 0,.slice none 0 0] 26 (0,0))::H,(100290,⟨.slice A49 x45.length c50,29,3,x45.length,x45.flatMap GQuestion.enc⟩)::R,φ90⟩ (fun W h=>(ok_front (t:=100010) (t':=1000) h rfl)) Try.call48 rfl rfl rfl (c_message_Read_c1 2 g1 p0 _ hx226) (fun _ W _ h=>((ok_front (t:=1000) (t':=100010) h rfl).dropH (t:=100040) rfl).phi (fun W hφ=>hφ)) (fun _ _=>?_)
   refine ga_sta _ (fun W h=>(ok_front (t:=1000) (t':=100010) h rfl)) ?_
   replace hm:=bnd hm
   obtain ⟨⟨x227,x228,x229⟩,hx230,hm⟩:=hm
   refine ga_cn (first:=#[]) (i:=7) (bz 16 255) rfl (by kernel_rfl) (by decide)  ⟨w0,M,_,_,φ90⟩ (fun _ h=>h) Try.call52 rfl rfl rfl (c_message_many_52 p0 i85 x225 _ hx230) (fun ⟨A231,c232⟩ W hc232 h=>(((ok_frontR (t:=2000) (t':=100520) h rfl).dropR (t:=100520) rfl).dropH (t:=100040) rfl).phi (fun W hφ=>hφ)) (fun ⟨A231,c232⟩ hc232=>?_)
   refine ga_sta _ (fun W h=>(ok_frontR (t:=2000) (t':=100520) h rfl))<|ga_r (i:=8) (bz 16 511) rfl (by kernel_rfl) (by decide) rfl (r_move)<|ga_v (i:=9) (bz 16 1023) rfl (by kernel_rfl) (fun _ _ _ _ h=>h) rfl (r_extract rfl rfl)<|ga_v (i:=10) (bz 16 2047) rfl (by kernel_rfl) (fun _ _ _ _ h=>h) rfl (r_extract rfl rfl)<|ga_v (i:=11) (bz 16 4095) rfl (by kernel_rfl) (fun _ _ _ _ h=>h) rfl (r_extract rfl rfl)<|ga_r (i:=12) (bz 16 8191) rfl (by kernel_rfl) (by decide) rfl (r_nilck rfl)<|ga_storeN (i:=13) (tag:=100040) (bz 16 16383) rfl (by kernel_rfl) (by decide) rfl rfl rfl rfl Try.sizeOf24 rfl rfl (fun W h=>((h.dropR (t:=100520) rfl).dropH (t:=100040) rfl).phi (fun W hφ=>hφ))<|ga_r (i:=14) (bz 16 32767) rfl (by kernel_rfl) (by decide) rfl (r_assign)<|ga_r (i:=15) (bz 16 65535) rfl (by kernel_rfl) (by decide) rfl (r_assign)<|ga_done (by kernel_rfl) ?_
   refine d_normal_block ?_
   refine d_shut (tag:=100520) rfl (fun φ235 q235'=>?_)
   have q235 : ∀ W,φ235 W→φ90 W:=fun W h=>(q235' W h).1
   have f236:=fun (W : World) (h : φ235 W)=>(q235' W h).2
   exact d_round (x229,x228,x227,A231,c232) ⟨hm,hc232⟩ Nat.zero_lt_one ⟨rfl,rfl,rfl,rfl,rfl,rfl,rfl,rfl,trivial⟩ (fun W h=>h.phi (fun W hφ=>⟨(q235 _ hφ),(fun W h=>f236 W h) W hφ⟩))
  replace hm:=ite_f hm (of_decide_eq_false h204)
  refine c_skip<|d_normal_block ?_
  exact d_round (i84,i85,x4.fAuthorities,A13,c14) ⟨hm,hc14⟩ Nat.zero_lt_one ⟨rfl,rfl,rfl,rfl,rfl,rfl,rfl,rfl,trivial⟩ (fun W h=>h.phi (fun W hφ=>⟨hφ,(fun W h=>f15 W (q90 _ h)) W hφ⟩))
 unfold m_message_Read_j2 at hm
 refine d_abs (fun φ128 q128'=>?_)
 have q128 : ∀ W,φ128 W→φ90 W:=fun W h=>(q128' W h).1
 have f127:=fun (W : World) (h : φ128 W)=>(q128' W h).2
 refine d_flat [(1,.pointer (some ⟨g1,0,none⟩)),(2,.pointer (some ⟨g2,0,none⟩)),(4,.pointer (some ⟨g21,0,none⟩)),(5,.int .i64 i122),(6,.func (.func 48) #[] #[.pointer (some ⟨g1,0,none⟩)]),(7,.int .i64 i123),(37,.agg #[.pointer (some ⟨g21,9,none⟩),.pointer (some ⟨g21,10,none⟩),.pointer (some ⟨g21,11,none⟩)]),(38,.int .i64 1)] ⟨rfl,rfl,rfl,rfl,rfl,rfl,rfl,rfl,trivial⟩ (fun u=>?_)
 refine d_sta ⟨w0,M,(100010,g1,.cells #[.string p0] 9 (0,0))::(100040,g21,.cells #[.int .u16 x4.fID,.bool x4.fResponse,.bool x4.fAuthoritative,.bool x4.fTruncated,.bool x4.fDesired,.bool x4.fAvailable,.int .i64 x4.fOpcode,.int .i64 x4.fCode,.slice A49 x45.length c50,.slice A87 l86.length c88,.slice A125 l124.length c126,.slice A16 x4.fExtras.length c17] 26 (0,0))::(100020,g2,.cells #[.int .u16 0,.bool false,.bool false,.bool false,.bool false,.bool false,.int .i64 0,.int .i64 0,.slice none 0 0,.slice none 0 0,.slice none 0 0,.slice none 0 0] 26 (0,0))::H,(100290,⟨.slice A49 x45.length c50,29,3,x45.length,x45.flatMap GQuestion.enc⟩)::R,φ128⟩ (fun _ h=>h)<|d_then<|c_region<|g_v rfl (r_add rfl rfl (show IntKind.i64.wrap (1 + 1) = 2 by decide))<|g_v rfl r_move<|g_nil<|d_rounds ?_
 refine c_flat [(1,.pointer (some ⟨g1,0,none⟩)),(2,.pointer (some ⟨g2,0,none⟩)),(4,.pointer (some ⟨g21,0,none⟩)),(5,.int .i64 i122),(6,.func (.func 48) #[] #[.pointer (some ⟨g1,0,none⟩)]),(7,.int .i64 i123),(37,.agg #[.pointer (some ⟨g21,9,none⟩),.pointer (some ⟨g21,10,none⟩),.pointer (some ⟨g21,11,none⟩)]),(38,.int .i64 2)] ⟨rfl,rfl,rfl,rfl,rfl,rfl,rfl,rfl,trivial⟩ (fun u=>?_)
 refine c_seq<|c_region<|g_v rfl (r_lss rfl rfl)<|g_nil<|d_then<|c_seq<|c_cond1 rfl (by decide)<|c_skip<|d_then<|c_seq ?_
 refine c_cut (ι:=Int×Int×(List GRR)×Option Addr×Nat) [1,2,4,5,6,7,37,38] (fun ⟨i160,i161,l162,A163,c164⟩=>[(5,.int .i64 i160),(7,.int .i64 i161)]) (fun ⟨i160,i161,l162,A163,c164⟩=>⟨w0,M,(100010,g1,.cells #[.string p0] 9 (0,0))::(100040,g21,.cells #[.int .u16 x4.fID,.bool x4.fResponse,.bool x4.fAuthoritative,.bool x4.fTruncated,.bool x4.fDesired,.bool x4.fAvailable,.int .i64 x4.fOpcode,.int .i64 x4.fCode,.slice A49 x45.length c50,.slice A87 l86.length c88,.slice A125 l124.length c126,.slice A163 l162.length c164] 26 (0,0))::(100020,g2,.cells #[.int .u16 0,.bool false,.bool false,.bool false,.bool false,.bool false,.int .i64 0,.int .i64 0,.slice none 0 0,.slice none 0 0,.slice none 0 0,.slice none 0 0] 26 (0,0))::H,(100290,⟨.slice A49 x45.length c50,29,3,x45.length,x45.flatMap GQuestion.enc⟩)::R,fun W=>φ128 W∧Cl W A163 (l162.flatMap GRR.enc)⟩) (fun ⟨i160,i161,l162,A163,c164⟩=>m_message_Read_j3 p0 x4 x45 l86 l124 i160 i161 l162 = some r∧l162.length ≤ c164) ?_ (fun ⟨i160,i161,l162,A163,c164⟩ u ⟨hm,hc164⟩=>?_)
 ·
  refine c_block<|c_seq<|c_region<|g_v rfl r_move<|g_v rfl (r_indexA Try.underlying93 Try.sizeOf92 Try.isAgg92 rfl rfl rfl rfl)<|g_v rfl r_assign<|g_v rfl r_assign<|g_nil<|d_then<|c_seq ?_
  refine c_region<|g_v rfl r_move<|g_v rfl (r_eql rfl rfl)<|g_nil<|d_then ?_
  refine c_cond rfl (fun h171=>?_) (fun h171=>?_)
  ·
   replace hm:=ite_t hm (of_decide_eq_true h171)
   refine ga_start (n:=16) ⟨w0,M,(100010,g1,.cells #[.string p0] 9 (0,0))::(100020,g2,.cells #[.int .u16 0,.bool false,.bool false,.bool false,.bool false,.bool false,.int .i64 0,.int .i64 0,.slice none 0 0,.slice none 0 0,.slice none 0 0,.slice none 0 0] 26 (0,0))::H,(100290,⟨.slice A49 x45.length c50,29,3,x45.length,x45.flatMap GQuestion.enc⟩)::R,φ128⟩ [] #[false,false,false,false,false,false,false,false,false,false,false,false,false,false,false,false] (fun W h=>(h.dropH (t:=100040) rfl).phi (fun W hφ=>hφ)) mixed rfl rfl<|ga_v (i:=0) (bz 16 1) rfl (by kernel_rfl) (fun _ _ _ _ h=>h) rfl (r_move)<|ga_v (i:=1) (bz 16 3) rfl (by kernel_rfl) (fun _ _ _ _ h=>h) rfl (r_load (tag:=100010) rfl rfl rfl Try.isAgg9)<|ga_v (i:=2) (bz 16 7) rfl (by kernel_rfl) (fun _ _ _ _ h=>h) rfl (r_move)<|ga_v (i:=3) (bz 16 15) rfl (by kernel_rfl) (fun _ _ _ _ h=>h) rfl (r_move)<|ga_r (i:=4) (bz 16 31) rfl (by kernel_rfl) (by decide) rfl (r_move)<|ga_r (i:=5) (bz 16 63) rfl (by kernel_rfl) (by decide) rfl (r_add rfl rfl (show IntKind.i64.wrap (2 + 1) = 3 by decide)) ?_
   replace hm:=bnd hm
   obtain ⟨x192,hx193,hm⟩:=hm
   refine ga_cn (first:=#[]) (i:=6) (bz 16 127) rfl (by kernel_rfl) (by decide)  ⟨w0,M,(1000,g1,.cells #[.string p0] 9 (0,0))::(100040,g21,.cells #[.int .u16 x4.fID,.bool x4.fResponse,.bool x4.fAuthoritative,.bool x4.fTruncated,.bool x4.fDesired,.bool x4.fAvailable,.int .i64 x4.fOpcode,.int .i64 x4.fCode,.slice A49 x45.length c50,.slice A87 l86.length c88,.slice A125 l124.length c126,.slice A16 x4.fExtras.length c17] 26 (0,0))::(100020,g2,.cells #[.int .u16 0,.bool false,.bool false,.bool false,.bool false,.bool false,.int .i64 0,.int .i64 0,.slice none 0 0,.slice none 0 0,.slice none 0 0,.slice none 0 0] 26 (0,0))::H,(100290,⟨.slice A49 x45.length c50,29,3,x45.length,x45.flatMap GQuestion.enc⟩)::R,φ128⟩ (fun W h=>(ok_front (t:=100010) (t':=1000) h rfl)) Try.call48 rfl rfl rfl (c_message_Read_c1 3 g1 p0 _ hx193) (fun _ W _ h=>((ok_front (t:=1000) (t':=100010) h rfl).dropH (t:=100040) rfl).phi (fun W hφ=>hφ)) (fun _ _=>?_)
   refine ga_sta _ (fun W h=>(ok_front (t:=1000) (t':=100010) h rfl)) ?_
   replace hm:=bnd hm
   obtain ⟨⟨x194,x195,x196⟩,hx197,hm⟩:=hm
   refine ga_cn (first:=#[]) (i:=7) (bz 16 255) rfl (by kernel_rfl) (by decide)  ⟨w0,M,_,_,φ128⟩ (fun _ h=>h) Try.call52 rfl rfl rfl (c_message_many_52 p0 i123 x192 _ hx197) (fun ⟨A198,c199⟩ W hc199 h=>(((ok_frontR (t:=2000) (t':=100520) h rfl).dropR (t:=100520) rfl).dropH (t:=100040) rfl).phi (fun W hφ=>hφ)) (fun ⟨A198,c199⟩ hc199=>?_)
   refine ga_sta _ (fun W h=>(ok_frontR (t:=2000) (t':=100520) h rfl))<|ga_r (i:=8) (bz 16 511) rfl (by kernel_rfl) (by decide) rfl (r_move)<|ga_v (i:=9) (bz 16 1023) rfl (by kernel_rfl) (fun _ _ _ _ h=>h) rfl (r_extract rfl rfl)<|ga_v (i:=10) (bz 16 2047) rfl (by kernel_rfl) (fun _ _ _ _ h=>h) rfl (r_extract rfl rfl)<|ga_v (i:=11) (bz 16 4095) rfl (by kernel_rfl) (fun _ _ _ _ h=>h) rfl (r_extract rfl rfl)<|ga_r (i:=12) (bz 16 8191) rfl (by kernel_rfl) (by decide) rfl (r_nilck rfl)<|ga_storeN (i:=13) (tag:=100040) (bz 16 16383) rfl (by kernel_rfl) (by decide) rfl rfl rfl rfl Try.sizeOf24 rfl rfl (fun W h=>((h.dropR (t:=100520) rfl).dropH (t:=100040) rfl).phi (fun W hφ=>hφ))<|ga_r (i:=14) (bz 16 32767) rfl (by kernel_rfl) (by decide) rfl (r_assign)<|ga_r (i:=15) (bz 16 65535) rfl (by kernel_rfl) (by decide) rfl (r_assign)<|ga_done (by kernel_rfl) ?_
   refine d_normal_block ?_
   refine d_shut (tag:=100520) rfl (fun φ202 q202'=>?_)
   have q202 : ∀ W,φ202 W→φ128 W:=fun W h=>(q202' W h).1
   have f203:=fun (W : World) (h : φ202 W)=>(q202' W h).2
   exact d_round (x196,x195,x194,A198,c199) ⟨hm,hc199⟩ Nat.zero_lt_one ⟨rfl,rfl,rfl,rfl,rfl,rfl,rfl,rfl,trivial⟩ (fun W h=>h.phi (fun W hφ=>⟨(q202 _ hφ),(fun W h=>f203 W h) W hφ⟩))
  replace hm:=ite_f hm (of_decide_eq_false h171)
  refine c_skip<|d_normal_block ?_
  exact d_round (i122,i123,x4.fExtras,A16,c17) ⟨hm,hc17⟩ Nat.zero_lt_one ⟨rfl,rfl,rfl,rfl,rfl,rfl,rfl,rfl,trivial⟩ (fun W h=>h.phi (fun W hφ=>⟨hφ,(fun W h=>f18 W (q90 _ (q128 _ h))) W hφ⟩))
 unfold m_message_Read_j3 at hm
 refine d_abs (fun φ166 q166'=>?_)
 have q166 : ∀ W,φ166 W→φ128 W:=fun W h=>(q166' W h).1
 have f165:=fun (W : World) (h : φ166 W)=>(q166' W h).2
 refine d_flat [(1,.pointer (some ⟨g1,0,none⟩)),(2,.pointer (some ⟨g2,0,none⟩)),(4,.pointer (some ⟨g21,0,none⟩)),(5,.int .i64 i160),(6,.func (.func 48) #[] #[.pointer (some ⟨g1,0,none⟩)]),(7,.int .i64 i161),(37,.agg #[.pointer (some ⟨g21,9,none⟩),.pointer (some ⟨g21,10,none⟩),.pointer (some ⟨g21,11,none⟩)]),(38,.int .i64 2)] ⟨rfl,rfl,rfl,rfl,rfl,rfl,rfl,rfl,trivial⟩ (fun u=>?_)
 refine d_sta ⟨w0,M,(100010,g1,.cells #[.string p0] 9 (0,0))::(100040,g21,.cells #[.int .u16 x4.fID,.bool x4.fResponse,.bool x4.fAuthoritative,.bool x4.fTruncated,.bool x4.fDesired,.bool x4.fAvailable,.int .i64 x4.fOpcode,.int .i64 x4.fCode,.slice A49 x45.length c50,.slice A87 l86.length c88,.slice A125 l124.length c126,.slice A163 l162.length c164] 26 (0,0))::(100020,g2,.cells #[.int .u16 0,.bool false,.bool false,.bool false,.bool false,.bool false,.int .i64 0,.int .i64 0,.slice none 0 0,.slice none 0 0,.slice none 0 0,.slice none 0 0] 26 (0,0))::H,(100290,⟨.slice A49 x45.length c50,29,3,x45.length,x45.flatMap GQuestion.enc⟩)::R,φ166⟩ (fun _ h=>h)<|d_then<|c_region<|g_v rfl (r_add rfl rfl (show IntKind.i64.wrap (2 + 1) = 3 by decide))<|g_v rfl r_move<|g_nil<|d_rounds ?_
 refine c_flat [(1,.pointer (some ⟨g1,0,none⟩)),(2,.pointer (some ⟨g2,0,none⟩)),(4,.pointer (some ⟨g21,0,none⟩)),(5,.int .i64 i160),(6,.func (.func 48) #[] #[.pointer (some ⟨g1,0,none⟩)]),(7,.int .i64 i161),(37,.agg #[.pointer (some ⟨g21,9,none⟩),.pointer (some ⟨g21,10,none⟩),.pointer (some ⟨g21,11,none⟩)]),(38,.int .i64 3)] ⟨rfl,rfl,rfl,rfl,rfl,rfl,rfl,rfl,trivial⟩ (fun u=>?_)
 refine c_seq<|c_region<|g_v rfl (r_lss rfl rfl)<|g_nil<|d_then<|c_seq<|c_cond0 rfl (by decide)<|c_exit<|d_exit_then<|d_exit_then ?_
 refine d_exit_block<|d_then<|c_seq<|c_block<|c_seq<|c_region<|g_v rfl r_move<|g_v rfl (r_neq rfl rfl)<|g_v rfl r_assign<|g_nil ?_
 refine d_then ?_
 refine c_cond rfl (fun h167=>?_) (fun h167=>?_)
 ·
  replace hm:=ite_t hm (of_decide_eq_true h167)
  refine c_seq<|c_region<|g_v rfl (r_build _ rfl (bld26_23))<|g_v rfl r_move<|g_storeL (tag:=100020) rfl rfl rfl rfl Try.sizeOf26 rfl rfl<|g_v rfl r_assign<|g_nil<|d_then<|c_ret<|d_ret_block ?_
  refine d_ret_then ?_
  cases hm
  exact d_retC (none,0,none,0,none,0,none,0) Try.results23 (res_agg (tag:=100020) rfl rfl Try.isAgg26 Try.sizeOf26 (res_tmp (res_nil rfl))) ⟨(Nat.le_refl 0),(Nat.le_refl 0),(Nat.le_refl 0),(Nat.le_refl 0)⟩ (fun W h=>ok_pre (H1:=[_,_,_]) (R1:=[_]) h (fun W hφ=>⟨(q19 _ (q90 _ (q128 _ (q166 _ hφ)))),(fun W _=>Cl.nil _ _) W hφ,(fun W _=>Cl.nil _ _) W hφ,(fun W _=>Cl.nil _ _) W hφ,(fun W _=>Cl.nil _ _) W hφ⟩)) (.inr rfl)
 replace hm:=ite_f hm (of_decide_eq_false h167)
 refine c_seq<|c_region<|g_v rfl r_move<|g_v rfl (r_load (tag:=100010) rfl rfl rfl Try.isAgg9)<|g_v rfl (r_len Try.underlying9 rfl)<|g_v rfl (r_neq rfl rfl)<|g_v rfl r_assign<|g_nil<|d_then ?_
 refine c_flat [(2,.pointer (some ⟨g2,0,none⟩)),(4,.pointer (some ⟨g21,0,none⟩)),(63,.bool (decide (i161 ≠ (p0.size : Int))))] ⟨rfl,rfl,rfl,trivial⟩ (fun u=>?_)
 refine c_cond rfl (fun h168=>?_) (fun h168=>?_)
 ·
  replace hm:=ite_t hm (of_decide_eq_true h168)
  refine c_seq<|c_region<|g_v rfl (r_build _ rfl (bld26_23))<|g_storeL (tag:=100020) rfl rfl rfl rfl Try.sizeOf26 rfl rfl<|g_v rfl r_assign<|g_nil<|d_then<|c_ret<|d_ret_block<|d_ret_then ?_
  cases hm
  exact d_retC (none,0,none,0,none,0,none,0) Try.results23 (res_agg (tag:=100020) rfl rfl Try.isAgg26 Try.sizeOf26 (res_tmp (res_nil rfl))) ⟨(Nat.le_refl 0),(Nat.le_refl 0),(Nat.le_refl 0),(Nat.le_refl 0)⟩ (fun W h=>ok_pre (H1:=[_,_,_]) (R1:=[_]) h (fun W hφ=>⟨(q19 _ (q90 _ (q128 _ (q166 _ hφ)))),(fun W _=>Cl.nil _ _) W hφ,(fun W _=>Cl.nil _ _) W hφ,(fun W _=>Cl.nil _ _) W hφ,(fun W _=>Cl.nil _ _) W hφ⟩)) (.inr rfl)
 replace hm:=ite_f hm (of_decide_eq_false h168)
 refine c_skip<|d_normal_block<|d_then<|c_seq<|c_region<|g_v rfl (r_loadA (tag:=100040) rfl rfl Try.isAgg26 Try.sizeOf26 rfl rfl)<|g_storeL (tag:=100020) rfl rfl rfl rfl Try.sizeOf26 rfl rfl<|g_v rfl r_assign<|g_nil<|d_then ?_
 refine c_ret ?_
 cases hm
 refine d_shut (tag:=100290) rfl (fun φ169 q169'=>?_)
 have q169 : ∀ W,φ169 W→φ166 W:=fun W h=>(q169' W h).1
 have f170:=fun (W : World) (h : φ169 W)=>(q169' W h).2
 exact d_retC (A49,c50,A87,c88,A125,c126,A163,c164) Try.results23 (res_agg (tag:=100020) rfl rfl Try.isAgg26 Try.sizeOf26 (res_tmp (res_nil rfl))) ⟨hc50,hc88,hc126,hc164⟩ (fun W h=>ok_pre (H1:=[_,_,_]) (R1:=[]) h (fun W hφ=>⟨(q19 _ (q90 _ (q128 _ (q166 _ (q169 _ hφ))))),(fun W h=>f170 W h) W hφ,(fun W h=>f89 W (q128 _ (q166 _ (q169 _ h)))) W hφ,(fun W h=>f127 W (q166 _ (q169 _ h))) W hφ,(fun W h=>f165 W (q169 _ h)) W hφ⟩)) (.inr rfl)
structure Gpack_Packer where
  fb : List Int
  fplaces : List (ByteArray×Int)
  deriving DecidableEq
theorem bld150_29  : ∀ W,(Instr.build 150 #[]).run Try.prog W = .ok (.agg #[.slice none 0 0,.map none]) W:=fun _=>by kernel_rfl
noncomputable def m_pack_New  : Option Gpack_Packer:=
  some (⟨([] : List Int),([] : List (ByteArray×Int))⟩ : Gpack_Packer)
theorem c_pack_New {w0 : World} {M : Nat→Prop} {H : List (Nat×Nat×Obj)} {R : List (Nat×Row)} {φ : World→Prop}  (r : Gpack_Packer) (hm : m_pack_New = some r) :
    Cn Try.prog 86 #[] ⟨w0,M,H,R,φ⟩ (fun x : Option Addr×Nat×Option Addr×Nat×Nat=>.pointer (some ⟨x.2.2.2.2,0,none⟩)) (fun x=>r.fb.length ≤ x.2.1∧True) (fun x=>⟨w0,M,(3000,x.2.2.2.2,.cells #[.slice x.1 r.fb.length x.2.1,mapV x.2.2.1] 150 (0,0))::H,(2000,⟨.slice x.1 r.fb.length x.2.1,5,1,r.fb.length,r.fb.flatMap (fun x : Int=>[Value.int .u8 x])⟩)::(2001,⟨mapV x.2.2.1,148,2,r.fplaces.length,r.fplaces.flatMap (mcell (fun x : ByteArray=>Value.string x) (fun x : Int=>Value.int .i64 x))⟩)::R,φ⟩):=by
 unfold m_pack_New at hm
 refine cn_intro (fn:=Try.f86) (N:=3) Try.func86 rfl Try.ntmps86 rfl<|c_seq<|c_region<|g_v rfl r_assign<|g_nil<|d_then<|c_seq<|c_region<|g_v rfl (r_build _ rfl (bld150_29)) ?_
 refine g_e rfl (e_box 100020 rfl) (fun g1 _=>?_)
 refine g_v rfl r_assign<|g_nil<|d_then<|c_ret ?_
 cases hm
 refine d_sta _ (fun W h=>nilR h 11 5 1)<|d_sta _ (fun W h=>nilM h 12 148)<|d_sta _ (fun W h=>ok_frontR (t:=12) (t':=2001) h rfl)<|d_sta _ (fun W h=>ok_frontR (t:=11) (t':=2000) h rfl)<|d_sta _ (fun W h=>ok_front (t:=100020) (t':=3000) h rfl) ?_
 exact d_retC (none,0,none,0,g1) Try.results86 (res_tmp (res_nil rfl)) ⟨(Nat.le_refl 0),trivial⟩ (fun W h=>h.phi (fun W hφ=>hφ)) (.inr rfl)
theorem lit5_30 (z0 : Int) (z1 : Int) : Try.prog.builtSlice 5 2 [(0,.int .u8 z0),(1,.int .u8 z1)] = some #[.int .u8 z0,.int .u8 z1]:=by kernel_rfl
noncomputable def m_pack_Packer_put (p1 : List Int) (o0 : Gpack_Packer) : Option Gpack_Packer:=
  (app 1 o0.fb p1).bind fun l1=>
  some (⟨l1,o0.fplaces⟩ : Gpack_Packer)
theorem c_pack_Packer_put {w0 : World} {M : Nat→Prop} {H : List (Nat×Nat×Obj)} {R : List (Nat×Row)} {φ : World→Prop} (p1 : List Int) (Ap1_0 : Option Addr) (cp1_0 : Nat) (hcp1_0 : p1.length ≤ cp1_0) (fp1_0 : ∀ W,(Sta.mk w0 M H R φ).ok W→Cl W Ap1_0 (p1.flatMap (fun x : Int=>[Value.int .u8 x]))) (go0 : Nat) (o0 : Gpack_Packer) (Ao0_0 : Option Addr) (co0_0 : Nat) (hco0_0 : o0.fb.length ≤ co0_0) (Ao0_1 : Option Addr) (co0_1 : Nat) (hco0_1 : True) (r : Gpack_Packer) (hm : m_pack_Packer_put p1 o0 = some r) :
    Cn Try.prog 102 #[.pointer (some ⟨go0,0,none⟩),.slice Ap1_0 p1.length cp1_0] ⟨w0,M,(1000,go0,.cells #[.slice Ao0_0 o0.fb.length co0_0,mapV Ao0_1] 150 (0,0))::H,(1000,⟨.slice Ao0_0 o0.fb.length co0_0,5,1,o0.fb.length,o0.fb.flatMap (fun x : Int=>[Value.int .u8 x])⟩)::(1001,⟨mapV Ao0_1,148,2,o0.fplaces.length,o0.fplaces.flatMap (mcell (fun x : ByteArray=>Value.string x) (fun x : Int=>Value.int .i64 x))⟩)::R,φ⟩ (fun x : Option Addr×Nat=>.tuple #[]) (fun x=>r.fb.length ≤ x.2) (fun x=>⟨w0,M,(1000,go0,.cells #[.slice x.1 r.fb.length x.2,mapV Ao0_1] 150 (0,0))::H,(2000,⟨.slice x.1 r.fb.length x.2,5,1,r.fb.length,r.fb.flatMap (fun x : Int=>[Value.int .u8 x])⟩)::(1001,⟨mapV Ao0_1,148,2,o0.fplaces.length,o0.fplaces.flatMap (mcell (fun x : ByteArray=>Value.string x) (fun x : Int=>Value.int .i64 x))⟩)::R,φ⟩):=by
 unfold m_pack_Packer_put at hm
 refine cn_intro (fn:=Try.f102) (N:=15) Try.func102 rfl Try.ntmps102 rfl<|c_seq<|c_region<|g_v rfl r_move<|g_v rfl (r_neqP1 Try.underlying130 rfl rfl)<|g_nil<|d_then<|c_cond1 rfl rfl<|c_region<|g_v rfl r_move ?_
 refine g_v rfl r_move<|g_v rfl (r_nilck rfl)<|g_v rfl (r_field (n:=0) Try.underlying150 rfl Try.sizeOf66 rfl rfl)<|g_v rfl (r_load (tag:=1000) rfl rfl rfl Try.isAgg66)<|g_v rfl r_move ?_
 replace hm:=bnd hm
 obtain ⟨l1,hl1,hm⟩:=hm
 refine g_e rfl (e_appR (enc:=(fun x : Int=>[Value.int .u8 x])) (l:=o0.fb) (l1:=p1) (l2:=l1) (tag:=1000) Try.underlying66 inf5_0 rfl (by decide) (by decide) (fun _=>rfl) (fun _=>rfl) rfl hco0_0 rfl rfl (fun W hS=>fp1_0 W (ok_pre (H1:=[_]) (R1:=[_,_]) hS (fun W h=>h))) hl1) (fun ⟨A2,c3⟩ hc3=>?_)
 refine g_v rfl (r_nilck rfl)<|g_v rfl (r_field (n:=0) Try.underlying150 rfl Try.sizeOf66 rfl rfl)<|g_storeL (tag:=1000) rfl rfl rfl rfl Try.sizeOf66 rfl rfl<|g_nil ?_
 cases hm
 refine d_sta _ (fun W h=>ok_frontR (t:=1000) (t':=2000) h rfl) ?_
 exact d_retC (A2,c3) Try.results102 (res_nil rfl) hc3 (fun W h=>h.phi (fun W hφ=>hφ)) (.inl rfl)
noncomputable def m_pack_Packer_Word (p1 : Int) (o0 : Gpack_Packer) : Option Gpack_Packer:=
  (m_pack_Packer_put [IntKind.u8.wrap (p1 / 256),IntKind.u8.wrap p1] o0).bind fun x2=>
  some (⟨x2.fb,o0.fplaces⟩ : Gpack_Packer)
theorem c_pack_Packer_Word {w0 : World} {M : Nat→Prop} {H : List (Nat×Nat×Obj)} {R : List (Nat×Row)} {φ : World→Prop} (p1 : Int) (go0 : Nat) (o0 : Gpack_Packer) (Ao0_0 : Option Addr) (co0_0 : Nat) (hco0_0 : o0.fb.length ≤ co0_0) (Ao0_1 : Option Addr) (co0_1 : Nat) (hco0_1 : True) (r : Gpack_Packer) (hm : m_pack_Packer_Word p1 o0 = some r) :
    Cn Try.prog 87 #[.pointer (some ⟨go0,0,none⟩),.int .u16 p1] ⟨w0,M,(1000,go0,.cells #[.slice Ao0_0 o0.fb.length co0_0,mapV Ao0_1] 150 (0,0))::H,(1000,⟨.slice Ao0_0 o0.fb.length co0_0,5,1,o0.fb.length,o0.fb.flatMap (fun x : Int=>[Value.int .u8 x])⟩)::(1001,⟨mapV Ao0_1,148,2,o0.fplaces.length,o0.fplaces.flatMap (mcell (fun x : ByteArray=>Value.string x) (fun x : Int=>Value.int .i64 x))⟩)::R,φ⟩ (fun x : Option Addr×Nat=>.tuple #[]) (fun x=>r.fb.length ≤ x.2) (fun x=>⟨w0,M,(1000,go0,.cells #[.slice x.1 r.fb.length x.2,mapV Ao0_1] 150 (0,0))::H,(2000,⟨.slice x.1 r.fb.length x.2,5,1,r.fb.length,r.fb.flatMap (fun x : Int=>[Value.int .u8 x])⟩)::(1001,⟨mapV Ao0_1,148,2,o0.fplaces.length,o0.fplaces.flatMap (mcell (fun x : ByteArray=>Value.string x) (fun x : Int=>Value.int .i64 x))⟩)::R,φ⟩):=by
 unfold m_pack_Packer_Word at hm
 refine cn_intro (fn:=Try.f87) (N:=12) Try.func87 rfl Try.ntmps87 rfl<|c_region<|g_v rfl r_move<|g_v rfl r_move<|g_v rfl (r_shr (n:=256) rfl rfl (by decide) (by decide) (by decide))<|g_v rfl (r_conv Try.underlying22 Try.underlying5 rfl rfl)<|g_v rfl r_move<|g_v rfl (r_conv Try.underlying22 Try.underlying5 rfl rfl) ?_
 refine g_e rfl (e_lit (tag:=100100) (l:=[IntKind.u8.wrap (p1 / 256),IntKind.u8.wrap p1]) (enc:=(fun x : Int=>[Value.int .u8 x])) (sz:=1) rfl Try.underlying66 (lit5_30 _ _) rfl rfl (fun _=>rfl)) (fun g1 _=>?_)
 replace hm:=bnd hm
 obtain ⟨x2,hx3,hm⟩:=hm
 refine g_cn ⟨w0,M,(1000,go0,.cells #[.slice Ao0_0 o0.fb.length co0_0,mapV Ao0_1] 150 (0,0))::H,(1000,⟨.slice Ao0_0 o0.fb.length co0_0,5,1,o0.fb.length,o0.fb.flatMap (fun x : Int=>[Value.int .u8 x])⟩)::(1001,⟨mapV Ao0_1,148,2,o0.fplaces.length,o0.fplaces.flatMap (mcell (fun x : ByteArray=>Value.string x) (fun x : Int=>Value.int .i64 x))⟩)::(100100,⟨.slice (some ⟨g1,0,none⟩) [IntKind.u8.wrap (p1 / 256),IntKind.u8.wrap p1].length 2,5,1,[IntKind.u8.wrap (p1 / 256),IntKind.u8.wrap p1].length,[IntKind.u8.wrap (p1 / 256),IntKind.u8.wrap p1].flatMap (fun x : Int=>[Value.int .u8 x])⟩)::R,φ⟩ (fun W h=>(ok_front (t:=1000) (t':=1000) (ok_frontR (t:=1000) (t':=1000) (ok_frontR (t:=1001) (t':=1001) h rfl) rfl) rfl)) Try.call102 rfl rfl (c_pack_Packer_put [IntKind.u8.wrap (p1 / 256),IntKind.u8.wrap p1] (some ⟨g1,0,none⟩) 2 (Nat.le_refl _) (fun W hS=>rowCl (tag:=100100) rfl W hS) go0 o0 Ao0_0 co0_0 hco0_0 Ao0_1 co0_1 trivial _ hx3) (fun ⟨A4,c5⟩ hc5=>?_)
 refine g_sta _ (fun W h=>(ok_frontR (t:=2000) (t':=1000) (ok_frontR (t:=1001) (t':=1001) (ok_front (t:=1000) (t':=1000) h rfl) rfl) rfl))<|g_nil ?_
 cases hm
 refine d_sta _ (fun W h=>ok_frontR (t:=1000) (t':=2000) h rfl) ?_
 exact d_retC (A4,c5) Try.results87 (res_nil rfl) hc5 (fun W h=>(h.dropR (t:=100100) rfl).phi (fun W hφ=>hφ)) (.inl rfl)
noncomputable def m_message_flags_put (p0 : Int) (p1 : Int) (p2 : Bool) : Option Int:=
  if p2 = true then
    some (orI .u16 p0 p1)
  else
    some p0
theorem c_message_flags_put {w0 : World} {M : Nat→Prop} {H : List (Nat×Nat×Obj)} {R : List (Nat×Row)} {φ : World→Prop} (p0 : Int) (p1 : Int) (p2 : Bool) (r : Int) (hm : m_message_flags_put p0 p1 p2 = some r) :
    Cn Try.prog 88 #[.int .u16 p0,.int .u16 p1,.bool p2] ⟨w0,M,H,R,φ⟩ (fun x : Unit=>.int .u16 r) (fun x=>True) (fun x=>⟨w0,M,H,R,φ⟩):=by
 unfold m_message_flags_put at hm
 refine cn_intro (fn:=Try.f88) (N:=12) Try.func88 rfl Try.ntmps88 rfl<|c_seq<|c_region<|g_v rfl r_assign<|g_nil<|d_then<|c_seq<|c_seq<|c_region<|g_v rfl r_move ?_
 refine g_nil<|d_then ?_
 refine c_cond rfl (fun h1=>?_) (fun h1=>?_)
 ·
  replace hm:=ite_t hm h1
  refine c_seq<|c_region<|g_v rfl r_move<|g_v rfl r_move<|g_v rfl (r_bits_or rfl rfl)<|g_v rfl r_assign<|g_nil<|d_then<|c_ret<|d_ret_then ?_
  cases hm
  exact d_retC () Try.results88 (res_tmp (res_nil rfl)) trivial (fun W h=>ok_pre (H1:=[]) (R1:=[]) h (fun W hφ=>hφ)) (.inr rfl)
 replace hm:=ite_f hm (bool_nt h1)
 refine c_skip<|d_then<|c_seq<|c_region<|g_v rfl r_move<|g_v rfl r_assign<|g_nil<|d_then<|c_ret ?_
 cases hm
 exact d_retC () Try.results88 (res_tmp (res_nil rfl)) trivial (fun W h=>ok_pre (H1:=[]) (R1:=[]) h (fun W hφ=>hφ)) (.inr rfl)
structure Garray134 where
  a0 : List GRR
  a1 : List GRR
  a2 : List GRR
  deriving DecidableEq
theorem bld134_31 (zA0 : Option Addr) (zn0 : Nat) (zc0 : Nat) (zA1 : Option Addr) (zn1 : Nat) (zc1 : Nat) (zA2 : Option Addr) (zn2 : Nat) (zc2 : Nat) : ∀ W,(Instr.build 134 #[(0,.slice zA0 zn0 zc0),(1,.slice zA1 zn1 zc1),(2,.slice zA2 zn2 zc2)]).run Try.prog W = .ok (.agg #[.slice zA0 zn0 zc0,.slice zA1 zn1 zc1,.slice zA2 zn2 zc2]) W:=fun _=>by kernel_rfl
noncomputable def m_message_sections (p0 : GMessage) : Option Garray134:=
  some (⟨p0.fAnswers,p0.fAuthorities,p0.fExtras⟩ : Garray134)
theorem c_message_sections {w0 : World} {M : Nat→Prop} {H : List (Nat×Nat×Obj)} {R : List (Nat×Row)} {φ : World→Prop} (p0 : GMessage) (Ap0_0 : Option Addr) (cp0_0 : Nat) (hcp0_0 : p0.fQuestions.length ≤ cp0_0) (fp0_0 : ∀ W,(Sta.mk w0 M H R φ).ok W→Cl W Ap0_0 (p0.fQuestions.flatMap GQuestion.enc)) (Ap0_1 : Option Addr) (cp0_1 : Nat) (hcp0_1 : p0.fAnswers.length ≤ cp0_1) (fp0_1 : ∀ W,φ W→Cl W Ap0_1 (p0.fAnswers.flatMap GRR.enc)) (Ap0_2 : Option Addr) (cp0_2 : Nat) (hcp0_2 : p0.fAuthorities.length ≤ cp0_2) (fp0_2 : ∀ W,φ W→Cl W Ap0_2 (p0.fAuthorities.flatMap GRR.enc)) (Ap0_3 : Option Addr) (cp0_3 : Nat) (hcp0_3 : p0.fExtras.length ≤ cp0_3) (fp0_3 : ∀ W,φ W→Cl W Ap0_3 (p0.fExtras.flatMap GRR.enc)) (r : Garray134) (hm : m_message_sections p0 = some r) :
    Cn Try.prog 89 #[.agg #[.int .u16 p0.fID,.bool p0.fResponse,.bool p0.fAuthoritative,.bool p0.fTruncated,.bool p0.fDesired,.bool p0.fAvailable,.int .i64 p0.fOpcode,.int .i64 p0.fCode,.slice Ap0_0 p0.fQuestions.length cp0_0,.slice Ap0_1 p0.fAnswers.length cp0_1,.slice Ap0_2 p0.fAuthorities.length cp0_2,.slice Ap0_3 p0.fExtras.length cp0_3]] ⟨w0,M,H,R,φ⟩ (fun x : Option Addr×Nat×Option Addr×Nat×Option Addr×Nat=>.agg #[.slice x.1 r.a0.length x.2.1,.slice x.2.2.1 r.a1.length x.2.2.2.1,.slice x.2.2.2.2.1 r.a2.length x.2.2.2.2.2]) (fun x=>r.a0.length ≤ x.2.1∧r.a1.length ≤ x.2.2.2.1∧r.a2.length ≤ x.2.2.2.2.2) (fun x=>⟨w0,M,H,R,fun W=>φ W∧Cl W x.1 (r.a0.flatMap GRR.enc)∧Cl W x.2.2.1 (r.a1.flatMap GRR.enc)∧Cl W x.2.2.2.2.1 (r.a2.flatMap GRR.enc)⟩):=by
 unfold m_message_sections at hm
 refine cn_intro (fn:=Try.f89) (N:=10) Try.func89 rfl Try.ntmps89 rfl<|c_seq<|c_region ?_
 refine g_e rfl (e_box 100010 rfl) (fun g1 _=>?_)
 refine g_e rfl (e_alloc 100020 Try.zeroValue134) (fun g2 _=>?_)
 refine g_nil<|d_then<|c_seq<|c_region<|g_v rfl (r_field (n:=9) Try.underlying26 rfl Try.sizeOf24 rfl rfl)<|g_v rfl (r_load (tag:=100010) rfl rfl rfl Try.isAgg24)<|g_v rfl (r_field (n:=10) Try.underlying26 rfl Try.sizeOf24 rfl rfl)<|g_v rfl (r_load (tag:=100010) rfl rfl rfl Try.isAgg24)<|g_v rfl (r_field (n:=11) Try.underlying26 rfl Try.sizeOf24 rfl rfl)<|g_v rfl (r_load (tag:=100010) rfl rfl rfl Try.isAgg24) ?_
 refine g_v rfl (r_build _ rfl (bld134_31 _ _ _ _ _ _ _ _ _))<|g_storeL (tag:=100020) rfl rfl rfl rfl Try.sizeOf134 rfl rfl<|g_nil<|d_then ?_
 refine c_flat [(2,.pointer (some ⟨g2,0,none⟩))] ⟨rfl,trivial⟩ (fun u=>?_)
 refine c_sta ⟨w0,M,(100020,g2,.cells #[.slice Ap0_1 p0.fAnswers.length cp0_1,.slice Ap0_2 p0.fAuthorities.length cp0_2,.slice Ap0_3 p0.fExtras.length cp0_3] 134 (0,0))::(100010,g1,.cells #[.int .u16 p0.fID,.bool p0.fResponse,.bool p0.fAuthoritative,.bool p0.fTruncated,.bool p0.fDesired,.bool p0.fAvailable,.int .i64 p0.fOpcode,.int .i64 p0.fCode,.slice Ap0_0 p0.fQuestions.length cp0_0,.slice Ap0_1 p0.fAnswers.length cp0_1,.slice Ap0_2 p0.fAuthorities.length cp0_2,.slice Ap0_3 p0.fExtras.length cp0_3] 26 (0,0))::H,R,φ⟩ (fun _ h=>h)<|c_ret ?_
 cases hm
 exact d_retC (Ap0_1,cp0_1,Ap0_2,cp0_2,Ap0_3,cp0_3) Try.results89 (res_agg (tag:=100020) rfl rfl Try.isAgg134 Try.sizeOf134 (res_nil rfl)) ⟨hcp0_1,hcp0_2,hcp0_3⟩ (fun W h=>ok_pre (H1:=[_,_]) (R1:=[]) h (fun W hφ=>⟨hφ,(fun W h=>fp0_1 W h) W hφ,(fun W h=>fp0_2 W h) W hφ,(fun W h=>fp0_3 W h) W hφ⟩)) (.inr rfl)
theorem mapT148_32  : MapTy Try.prog 148 9 3 (fun x : ByteArray=>Value.string x) (fun x : Int=>Value.int .i64 x) (fun x : ByteArray=>decide (x.size ≤ 9223372036854775807)) 0:=⟨Try.underlying148,Go.Maps.string_keyed Try.underlying9,fun k hk=>⟨_,Go.WideMaps.keyOf_string_mk Try.underlying9 (of_decide_eq_true hk)⟩,fun a b h=>Value.string.inj h,fun _=>Try.zeroValue3 _⟩
noncomputable def m_pack_Packer_Raw (p1 : ByteArray) (o0 : Gpack_Packer) : Option Gpack_Packer:=
  (m_pack_Packer_put (bytesI p1) o0).bind fun x5=>
  some (⟨x5.fb,o0.fplaces⟩ : Gpack_Packer)
theorem c_pack_Packer_Raw {w0 : World} {M : Nat→Prop} {H : List (Nat×Nat×Obj)} {R : List (Nat×Row)} {φ : World→Prop} (p1 : ByteArray) (go0 : Nat) (o0 : Gpack_Packer) (Ao0_0 : Option Addr) (co0_0 : Nat) (hco0_0 : o0.fb.length ≤ co0_0) (Ao0_1 : Option Addr) (co0_1 : Nat) (hco0_1 : True) (r : Gpack_Packer) (hm : m_pack_Packer_Raw p1 o0 = some r) :
    Cn Try.prog 103 #[.pointer (some ⟨go0,0,none⟩),.string p1] ⟨w0,M,(1000,go0,.cells #[.slice Ao0_0 o0.fb.length co0_0,mapV Ao0_1] 150 (0,0))::H,(1000,⟨.slice Ao0_0 o0.fb.length co0_0,5,1,o0.fb.length,o0.fb.flatMap (fun x : Int=>[Value.int .u8 x])⟩)::(1001,⟨mapV Ao0_1,148,2,o0.fplaces.length,o0.fplaces.flatMap (mcell (fun x : ByteArray=>Value.string x) (fun x : Int=>Value.int .i64 x))⟩)::R,φ⟩ (fun x : Option Addr×Nat=>.tuple #[]) (fun x=>r.fb.length ≤ x.2) (fun x=>⟨w0,M,(1000,go0,.cells #[.slice x.1 r.fb.length x.2,mapV Ao0_1] 150 (0,0))::H,(2000,⟨.slice x.1 r.fb.length x.2,5,1,r.fb.length,r.fb.flatMap (fun x : Int=>[Value.int .u8 x])⟩)::(1001,⟨mapV Ao0_1,148,2,o0.fplaces.length,o0.fplaces.flatMap (mcell (fun x : ByteArray=>Value.string x) (fun x : Int=>Value.int .i64 x))⟩)::R,φ⟩):=by
 unfold m_pack_Packer_Raw at hm
 refine cn_intro (fn:=Try.f103) (N:=8) Try.func103 rfl Try.ntmps103 rfl<|c_region<|g_v rfl r_move<|g_v rfl r_move ?_
 refine g_bytes rfl Try.underlying9 Try.underlying66 Try.underlying5 rfl (fun A1 c2 hc2 φ3 q3'=>?_)
 have q3 : ∀ W,φ3 W→φ W:=fun W h=>(q3' W h).1
 have f4:=fun (W : World) (h : φ3 W)=>(q3' W h).2
 replace hm:=bnd hm
 obtain ⟨x5,hx6,hm⟩:=hm
 refine g_cn ⟨w0,M,(1000,go0,.cells #[.slice Ao0_0 o0.fb.length co0_0,mapV Ao0_1] 150 (0,0))::H,(1000,⟨.slice Ao0_0 o0.fb.length co0_0,5,1,o0.fb.length,o0.fb.flatMap (fun x : Int=>[Value.int .u8 x])⟩)::(1001,⟨mapV Ao0_1,148,2,o0.fplaces.length,o0.fplaces.flatMap (mcell (fun x : ByteArray=>Value.string x) (fun x : Int=>Value.int .i64 x))⟩)::R,φ3⟩ (fun W h=>(ok_front (t:=1000) (t':=1000) (ok_frontR (t:=1000) (t':=1000) (ok_frontR (t:=1001) (t':=1001) h rfl) rfl) rfl)) Try.call102 rfl rfl (c_pack_Packer_put (bytesI p1) A1 c2 hc2 (fun W hS=>f4 W hS.now) go0 o0 Ao0_0 co0_0 hco0_0 Ao0_1 co0_1 trivial _ hx6) (fun ⟨A7,c8⟩ hc8=>?_)
 refine g_sta _ (fun W h=>(ok_frontR (t:=2000) (t':=1000) (ok_frontR (t:=1001) (t':=1001) (ok_front (t:=1000) (t':=1000) h rfl) rfl) rfl))<|g_nil ?_
 cases hm
 refine d_sta _ (fun W h=>ok_frontR (t:=1000) (t':=2000) h rfl) ?_
 exact d_retC (A7,c8) Try.results103 (res_nil rfl) hc8 (fun W h=>h.phi (fun W hφ=>(q3 _ hφ))) (.inl rfl)
noncomputable def m_pack_Packer_Byte (p1 : Int) (o0 : Gpack_Packer) : Option Gpack_Packer:=
  (m_pack_Packer_put [p1] o0).bind fun x2=>
  some (⟨x2.fb,o0.fplaces⟩ : Gpack_Packer)
theorem c_pack_Packer_Byte {w0 : World} {M : Nat→Prop} {H : List (Nat×Nat×Obj)} {R : List (Nat×Row)} {φ : World→Prop} (p1 : Int) (go0 : Nat) (o0 : Gpack_Packer) (Ao0_0 : Option Addr) (co0_0 : Nat) (hco0_0 : o0.fb.length ≤ co0_0) (Ao0_1 : Option Addr) (co0_1 : Nat) (hco0_1 : True) (r : Gpack_Packer) (hm : m_pack_Packer_Byte p1 o0 = some r) :
    Cn Try.prog 104 #[.pointer (some ⟨go0,0,none⟩),.int .u8 p1] ⟨w0,M,(1000,go0,.cells #[.slice Ao0_0 o0.fb.length co0_0,mapV Ao0_1] 150 (0,0))::H,(1000,⟨.slice Ao0_0 o0.fb.length co0_0,5,1,o0.fb.length,o0.fb.flatMap (fun x : Int=>[Value.int .u8 x])⟩)::(1001,⟨mapV Ao0_1,148,2,o0.fplaces.length,o0.fplaces.flatMap (mcell (fun x : ByteArray=>Value.string x) (fun x : Int=>Value.int .i64 x))⟩)::R,φ⟩ (fun x : Option Addr×Nat=>.tuple #[]) (fun x=>r.fb.length ≤ x.2) (fun x=>⟨w0,M,(1000,go0,.cells #[.slice x.1 r.fb.length x.2,mapV Ao0_1] 150 (0,0))::H,(2000,⟨.slice x.1 r.fb.length x.2,5,1,r.fb.length,r.fb.flatMap (fun x : Int=>[Value.int .u8 x])⟩)::(1001,⟨mapV Ao0_1,148,2,o0.fplaces.length,o0.fplaces.flatMap (mcell (fun x : ByteArray=>Value.string x) (fun x : Int=>Value.int .i64 x))⟩)::R,φ⟩):=by
 unfold m_pack_Packer_Byte at hm
 refine cn_intro (fn:=Try.f104) (N:=8) Try.func104 rfl Try.ntmps104 rfl<|c_region<|g_v rfl r_move<|g_v rfl r_move ?_
 refine g_e rfl (e_lit (tag:=100060) (l:=[p1]) (enc:=(fun x : Int=>[Value.int .u8 x])) (sz:=1) rfl Try.underlying66 (lit5_25 _) rfl rfl (fun _=>rfl)) (fun g1 _=>?_)
 replace hm:=bnd hm
 obtain ⟨x2,hx3,hm⟩:=hm
 refine g_cn ⟨w0,M,(1000,go0,.cells #[.slice Ao0_0 o0.fb.length co0_0,mapV Ao0_1] 150 (0,0))::H,(1000,⟨.slice Ao0_0 o0.fb.length co0_0,5,1,o0.fb.length,o0.fb.flatMap (fun x : Int=>[Value.int .u8 x])⟩)::(1001,⟨mapV Ao0_1,148,2,o0.fplaces.length,o0.fplaces.flatMap (mcell (fun x : ByteArray=>Value.string x) (fun x : Int=>Value.int .i64 x))⟩)::(100060,⟨.slice (some ⟨g1,0,none⟩) [p1].length 1,5,1,[p1].length,[p1].flatMap (fun x : Int=>[Value.int .u8 x])⟩)::R,φ⟩ (fun W h=>(ok_front (t:=1000) (t':=1000) (ok_frontR (t:=1000) (t':=1000) (ok_frontR (t:=1001) (t':=1001) h rfl) rfl) rfl)) Try.call102 rfl rfl (c_pack_Packer_put [p1] (some ⟨g1,0,none⟩) 1 (Nat.le_refl _) (fun W hS=>rowCl (tag:=100060) rfl W hS) go0 o0 Ao0_0 co0_0 hco0_0 Ao0_1 co0_1 trivial _ hx3) (fun ⟨A4,c5⟩ hc5=>?_)
 refine g_sta _ (fun W h=>(ok_frontR (t:=2000) (t':=1000) (ok_frontR (t:=1001) (t':=1001) (ok_front (t:=1000) (t':=1000) h rfl) rfl) rfl))<|g_nil ?_
 cases hm
 refine d_sta _ (fun W h=>ok_frontR (t:=1000) (t':=2000) h rfl) ?_
 exact d_retC (A4,c5) Try.results104 (res_nil rfl) hc5 (fun W h=>(h.dropR (t:=100060) rfl).phi (fun W hφ=>hφ)) (.inl rfl)
noncomputable def m_pack_Packer_Name_j1  (l88 : List Int) (l91 : List (ByteArray×Int)) : Option (Int×Gpack_Packer):=
  (m_pack_Packer_Byte 0 (⟨l88,l91⟩ : Gpack_Packer)).bind fun x94=>
  some (0,(⟨x94.fb,l91⟩ : Gpack_Packer))
noncomputable def m_pack_Packer_Name_j4 (s143 : ByteArray) (l137 : List Int) (l203 : List (ByteArray×Int)) : Option (((List Int)×(List (ByteArray×Int))×ByteArray) ⊕ (((List Int)×(List (ByteArray×Int))) ⊕ (Int×Gpack_Packer))):=
  (sat_ s143 0).bind fun b206=>
  (scutHi s143 (w64 (1 + (w64 b206)))).bind fun s207=>
  (m_pack_Packer_Raw s207 (⟨l137,l203⟩ : Gpack_Packer)).bind fun x208=>
  (scutLo s143 (w64 (1 + (w64 b206)))).bind fun s213=>
  some (.inl (x208.fb,l203,s213))
noncomputable def m_pack_Packer_Name_j5 (s143 : ByteArray) (l137 : List Int) (l220 : List (ByteArray×Int)) : Option (((List Int)×(List (ByteArray×Int))×ByteArray) ⊕ (((List Int)×(List (ByteArray×Int))) ⊕ (Int×Gpack_Packer))):=
  (mput (fun x : ByteArray=>decide (x.size ≤ 9223372036854775807)) l220 s143 (l137.length : Int)).bind fun l225=>
  m_pack_Packer_Name_j4 s143 l137 l225
noncomputable def m_pack_Packer_Name_j3 (x184 : Int×Bool) (s143 : ByteArray) (l137 : List Int) (l140 : List (ByteArray×Int)) : Option (((List Int)×(List (ByteArray×Int))×ByteArray) ⊕ (((List Int)×(List (ByteArray×Int))) ⊕ (Int×Gpack_Packer))):=
  if x184.2 = true then
    m_pack_Packer_Name_j4 s143 l137 l140
  else
    if (l137.length : Int) < 16384 then
      m_pack_Packer_Name_j5 s143 l137 l140
    else
      m_pack_Packer_Name_j4 s143 l137 l140
noncomputable def m_pack_Packer_Name_s2 (p2 : Bool) (l137 : List Int) (l140 : List (ByteArray×Int)) (s143 : ByteArray) : Option (((List Int)×(List (ByteArray×Int))×ByteArray) ⊕ (((List Int)×(List (ByteArray×Int))) ⊕ (Int×Gpack_Packer))):=
  if 1 < (s143.size : Int) then
    (mget (fun x : ByteArray=>decide (x.size ≤ 9223372036854775807)) 0 l140 s143).bind fun x184=>
    if x184.2 = true then
      if p2 = true then
        (m_pack_Packer_Word (orI .u16 49152 (IntKind.u16.wrap x184.1)) (⟨l137,l140⟩ : Gpack_Packer)).bind fun x231=>
        some (.inr (.inr (0,(⟨x231.fb,l140⟩ : Gpack_Packer))))
      else
        m_pack_Packer_Name_j3 x184 s143 l137 l140
    else
      m_pack_Packer_Name_j3 x184 s143 l137 l140
  else
    some (.inr (.inl (l137,l140)))
noncomputable def m_pack_Packer_Name (p1 : ByteArray) (p2 : Bool) (o0 : Gpack_Packer) : Option (Int×Gpack_Packer):=
  (m_name_Check p1).bind fun x1=>
  if x1 ≠ 0 then
    some (x1,o0)
  else
    (loop (fun s=>m_pack_Packer_Name_s2 p2 s.1 s.2.1 s.2.2) (o0.fb,o0.fplaces,p1)).bind fun e=>Sum.elim (fun e=>m_pack_Packer_Name_j1 e.1 e.2) (fun x=>some x) e
theorem c_pack_Packer_Name {w0 : World} {M : Nat→Prop} {H : List (Nat×Nat×Obj)} {R : List (Nat×Row)} {φ : World→Prop} (p1 : ByteArray) (p2 : Bool) (go0 : Nat) (o0 : Gpack_Packer) (Ao0_0 : Option Addr) (co0_0 : Nat) (hco0_0 : o0.fb.length ≤ co0_0) (Ao0_1 : Option Addr) (co0_1 : Nat) (hco0_1 : True) (r : Int×Gpack_Packer) (hm : m_pack_Packer_Name p1 p2 o0 = some r) :
    Cn Try.prog 92 #[.pointer (some ⟨go0,0,none⟩),.string p1,.bool p2] ⟨w0,M,(1000,go0,.cells #[.slice Ao0_0 o0.fb.length co0_0,mapV Ao0_1] 150 (0,0))::H,(1000,⟨.slice Ao0_0 o0.fb.length co0_0,5,1,o0.fb.length,o0.fb.flatMap (fun x : Int=>[Value.int .u8 x])⟩)::(1001,⟨mapV Ao0_1,148,2,o0.fplaces.length,o0.fplaces.flatMap (mcell (fun x : ByteArray=>Value.string x) (fun x : Int=>Value.int .i64 x))⟩)::R,φ⟩ (fun x : Option Addr×Nat×Option Addr×Nat=>.int .i64 r.1) (fun x=>r.2.fb.length ≤ x.2.1∧True) (fun x=>⟨w0,M,(1000,go0,.cells #[.slice x.1 r.2.fb.length x.2.1,mapV x.2.2.1] 150 (0,0))::H,(2000,⟨.slice x.1 r.2.fb.length x.2.1,5,1,r.2.fb.length,r.2.fb.flatMap (fun x : Int=>[Value.int .u8 x])⟩)::(2001,⟨mapV x.2.2.1,148,2,r.2.fplaces.length,r.2.fplaces.flatMap (mcell (fun x : ByteArray=>Value.string x) (fun x : Int=>Value.int .i64 x))⟩)::R,φ⟩):=by
 unfold m_pack_Packer_Name at hm
 refine cn_intro (fn:=Try.f92) (N:=82) Try.func92 rfl Try.ntmps92 rfl<|c_seq<|c_region<|g_v rfl r_assign<|g_nil<|d_then<|c_seq<|c_seq<|c_region<|g_v rfl r_move ?_
 refine g_v rfl (r_eqlP1 Try.underlying130 rfl rfl)<|g_nil<|d_then<|c_cond0 rfl rfl<|c_skip<|d_then<|c_seq<|c_region<|g_v rfl r_move ?_
 replace hm:=bnd hm
 obtain ⟨x1,hx2,hm⟩:=hm
 refine g_cn ⟨w0,M,_,_,φ⟩ (fun _ h=>h) Try.call31 rfl rfl (c_name_Check p1 _ hx2) (fun _ _=>?_)
 refine g_v rfl r_assign<|g_nil<|d_then<|c_seq<|c_seq<|c_region<|g_v rfl r_move<|g_v rfl (r_neq rfl rfl)<|g_nil<|d_then ?_
 refine c_sta ⟨w0,M,(1000,go0,.cells #[.slice Ao0_0 o0.fb.length co0_0,mapV Ao0_1] 150 (0,0))::H,(1000,⟨.slice Ao0_0 o0.fb.length co0_0,5,1,o0.fb.length,o0.fb.flatMap (fun x : Int=>[Value.int .u8 x])⟩)::(1001,⟨mapV Ao0_1,148,2,o0.fplaces.length,o0.fplaces.flatMap (mcell (fun x : ByteArray=>Value.string x) (fun x : Int=>Value.int .i64 x))⟩)::R,φ⟩ (fun _ h=>h) ?_
 refine c_cond rfl (fun h3=>?_) (fun h3=>?_)
 ·
  replace hm:=ite_t hm (of_decide_eq_true h3)
  refine c_seq<|c_region<|g_v rfl r_move<|g_v rfl r_assign<|g_nil<|d_then ?_
  refine c_flat [(6,.int .i64 x1)] ⟨rfl,trivial⟩ (fun u=>?_)
  refine c_ret<|d_ret_then ?_
  cases hm
  refine d_sta _ (fun W h=>ok_frontR (t:=1001) (t':=2001) h rfl)<|d_sta _ (fun W h=>ok_frontR (t:=1000) (t':=2000) h rfl) ?_
  exact d_retC (Ao0_0,co0_0,Ao0_1,co0_1) Try.results92 (res_tmp (res_nil rfl)) ⟨hco0_0,hco0_1⟩ (fun W h=>h.phi (fun W hφ=>hφ)) (.inr rfl)
 replace hm:=ite_f hm (of_decide_eq_false h3)
 refine c_skip<|d_then<|c_seq ?_
 refine c_cut (ι:=(List Int)×(List (ByteArray×Int))×Option Addr×Nat×Option Addr×Nat) [0] (fun ⟨l88,l91,A89,c90,A92,c93⟩=>[]) (fun ⟨l88,l91,A89,c90,A92,c93⟩=>⟨w0,M,(1000,go0,.cells #[.slice A89 l88.length c90,mapV A92] 150 (0,0))::H,(1000,⟨.slice A89 l88.length c90,5,1,l88.length,l88.flatMap (fun x : Int=>[Value.int .u8 x])⟩)::(1001,⟨mapV A92,148,2,l91.length,l91.flatMap (mcell (fun x : ByteArray=>Value.string x) (fun x : Int=>Value.int .i64 x))⟩)::R,φ⟩) (fun ⟨l88,l91,A89,c90,A92,c93⟩=>m_pack_Packer_Name_j1 l88 l91 = some r∧l88.length ≤ c90∧True) ?_ (fun ⟨l88,l91,A89,c90,A92,c93⟩ u ⟨hm,hc90,hc93⟩=>?_)
 ·
  refine c_block ?_
  replace hm:=bnd hm
  obtain ⟨out2,hl2,hr2⟩:=hm
  obtain ⟨n182',hl2⟩:=loop_lp hl2
  refine c_loopU (ι:=Nat×(List Int)×(List (ByteArray×Int))×ByteArray×Option Addr×Nat×Option Addr×Nat) [0,1,2] (fun ⟨n182,l137,l140,s143,A138,c139,A141,c142⟩=>[(1,.string s143)]) (fun ⟨n182,l137,l140,s143,A138,c139,A141,c142⟩=>⟨w0,M,(1000,go0,.cells #[.slice A138 l137.length c139,mapV A141] 150 (0,0))::H,(1000,⟨.slice A138 l137.length c139,5,1,l137.length,l137.flatMap (fun x : Int=>[Value.int .u8 x])⟩)::(1001,⟨mapV A141,148,2,l140.length,l140.flatMap (mcell (fun x : ByteArray=>Value.string x) (fun x : Int=>Value.int .i64 x))⟩)::R,φ⟩) (fun ⟨n182,l137,l140,s143,A138,c139,A141,c142⟩=>Lp (fun s=>m_pack_Packer_Name_s2 p2 s.1 s.2.1 s.2.2) n182 (l137,l140,s143) out2∧l137.length ≤ c139∧True) (fun ⟨n182,l137,l140,s143,A138,c139,A141,c142⟩=>n182) (n182',o0.fb,o0.fplaces,p1,Ao0_0,co0_0,Ao0_1,co0_1) ⟨hl2,hco0_0,trivial⟩ ⟨rfl,rfl,rfl,trivial⟩ (fun W h=>h.phi (fun W hφ=>hφ)) (fun ⟨n182,l137,l140,s143,A138,c139,A141,c142⟩ u ⟨hlp,hc139,hc142⟩=>?_)
  obtain ⟨o2,hm,hnx2⟩:=lp_step hlp
  clear hlp
  replace hm : m_pack_Packer_Name_s2 p2 l137 l140 s143 = some o2:=hm
  unfold m_pack_Packer_Name_s2 at hm
  refine c_flat [(0,.pointer (some ⟨go0,0,none⟩)),(1,.string s143),(2,.bool p2)] ⟨rfl,rfl,rfl,trivial⟩ (fun u=>?_)
  refine c_sta ⟨w0,M,(1000,go0,.cells #[.slice A138 l137.length c139,mapV A141] 150 (0,0))::H,(1000,⟨.slice A138 l137.length c139,5,1,l137.length,l137.flatMap (fun x : Int=>[Value.int .u8 x])⟩)::(1001,⟨mapV A141,148,2,l140.length,l140.flatMap (mcell (fun x : ByteArray=>Value.string x) (fun x : Int=>Value.int .i64 x))⟩)::R,φ⟩ (fun _ h=>h)<|c_seq<|c_seq<|c_region<|g_v rfl r_move<|g_v rfl (r_len Try.underlying9 rfl)<|g_v rfl (r_gtr rfl rfl)<|g_nil<|d_then ?_
  refine c_cond rfl (fun h183=>?_) (fun h183=>?_)
  ·
   replace hm:=ite_t hm (of_decide_eq_true h183)
   refine c_skip<|d_then<|c_block<|c_seq<|c_region<|g_v rfl r_move<|g_v rfl (r_nilck rfl)<|g_v rfl (r_field (n:=1) Try.underlying150 rfl Try.sizeOf148 rfl rfl)<|g_v rfl (r_load (tag:=1000) rfl rfl rfl Try.isAgg148)<|g_v rfl r_move ?_
   replace hm:=bnd hm
   obtain ⟨x184,hx184,hm⟩:=hm
   refine g_v rfl (r_mget (tag:=1001) (n:=l140.length) (l:=l140) mapT148_32 rfl rfl rfl hx184)<|g_v rfl r_move<|g_v rfl (r_extract rfl rfl)<|g_v rfl (r_extract rfl rfl)<|g_v rfl r_assign<|g_v rfl r_assign<|g_nil<|d_then ?_
   refine c_flat [(0,.pointer (some ⟨go0,0,none⟩)),(1,.string s143),(2,.bool p2),(8,.int .i64 x184.1),(9,.bool x184.2)] ⟨rfl,rfl,rfl,rfl,rfl,trivial⟩ (fun u=>?_)
   refine c_seq ?_
   refine c_cut (ι:=Unit) [0,1,2,9] (fun _=>[]) (fun _=>⟨w0,M,(1000,go0,.cells #[.slice A138 l137.length c139,mapV A141] 150 (0,0))::H,(1000,⟨.slice A138 l137.length c139,5,1,l137.length,l137.flatMap (fun x : Int=>[Value.int .u8 x])⟩)::(1001,⟨mapV A141,148,2,l140.length,l140.flatMap (mcell (fun x : ByteArray=>Value.string x) (fun x : Int=>Value.int .i64 x))⟩)::R,φ⟩) (fun _=>m_pack_Packer_Name_j3 x184 s143 l137 l140 = some o2) ?_ (fun _ u hm=>?_)
   ·
    refine c_seq<|c_region<|g_v rfl r_move<|g_v rfl r_move ?_
    refine g_if rfl rfl rfl rfl rfl (fun h229=>?_) (fun h229=>?_)
    ·
     replace hm:=ite_t hm h229
     refine g_v rfl r_move<|g_v rfl (r_pick1 rfl h229)<|g_nil<|d_then ?_
     refine c_cond rfl (fun h230=>?_) (fun h230=>?_)
     ·
      replace hm:=ite_t hm h230
      refine c_seq<|c_region<|g_v rfl r_move<|g_v rfl r_move<|g_v rfl (r_conv Try.underlying3 Try.underlying22 rfl rfl)<|g_v rfl (r_bits_or rfl rfl) ?_
      replace hm:=bnd hm
      obtain ⟨x231,hx232,hm⟩:=hm
      refine g_cn ⟨w0,M,(1000,go0,.cells #[.slice A138 l137.length c139,mapV A141] 150 (0,0))::H,(1000,⟨.slice A138 l137.length c139,5,1,l137.length,l137.flatMap (fun x : Int=>[Value.int .u8 x])⟩)::(1001,⟨mapV A141,148,2,l140.length,l140.flatMap (mcell (fun x : ByteArray=>Value.string x) (fun x : Int=>Value.int .i64 x))⟩)::R,φ⟩ (fun W h=>(ok_front (t:=1000) (t':=1000) (ok_frontR (t:=1000) (t':=1000) (ok_frontR (t:=1001) (t':=1001) h rfl) rfl) rfl)) Try.call87 rfl rfl (c_pack_Packer_Word (orI .u16 49152 (IntKind.u16.wrap x184.1)) go0 (⟨l137,l140⟩ : Gpack_Packer) A138 c139 hc139 A141 c142 trivial _ hx232) (fun ⟨A233,c234⟩ hc234=>?_)
      refine g_sta _ (fun W h=>(ok_frontR (t:=2000) (t':=1000) (ok_frontR (t:=1001) (t':=1001) (ok_front (t:=1000) (t':=1000) h rfl) rfl) rfl))<|g_nil<|d_then ?_
      refine c_flat [] trivial (fun u=>?_)
      refine c_sta ⟨w0,M,(1000,go0,.cells #[.slice A233 x231.fb.length c234,mapV A141] 150 (0,0))::H,(1000,⟨.slice A233 x231.fb.length c234,5,1,x231.fb.length,x231.fb.flatMap (fun x : Int=>[Value.int .u8 x])⟩)::(1001,⟨mapV A141,148,2,l140.length,l140.flatMap (mcell (fun x : ByteArray=>Value.string x) (fun x : Int=>Value.int .i64 x))⟩)::R,φ⟩ (fun _ h=>h)<|c_seq<|c_region<|g_v rfl r_assign<|g_nil<|d_then<|c_ret<|d_ret_then<|d_ret_then<|d_ret_block ?_
      refine d_ret_then<|d_ret_block<|d_ret_then<|d_ret_then ?_
      replace hm:=nx_out (C:=(fun e : ((List Int)×(List (ByteArray×Int))) ⊕ (Int×Gpack_Packer)=>Sum.elim (fun e=>m_pack_Packer_Name_j1 e.1 e.2) (fun x=>some x) e = some r)) hm hnx2 hr2
      replace hm : some (0,(⟨x231.fb,l140⟩ : Gpack_Packer)) = some r:=hm
      cases hm
      refine d_sta _ (fun W h=>ok_frontR (t:=1001) (t':=2001) h rfl)<|d_sta _ (fun W h=>ok_frontR (t:=1000) (t':=2000) h rfl) ?_
      exact d_retC (A233,c234,A141,c142) Try.results92 (res_tmp (res_nil rfl)) ⟨hc234,hc142⟩ (fun W h=>h.phi (fun W hφ=>hφ)) (.inr rfl)
     replace hm:=ite_f hm (bool_nt h230)
     refine c_skip ?_
     exact d_round () hm Nat.zero_lt_one ⟨rfl,rfl,rfl,rfl,trivial⟩ (fun W h=>h.phi (fun W hφ=>hφ))
    replace hm:=ite_f hm (bool_nt h229)
    refine g_v rfl (r_pick0 rfl h229)<|g_nil<|d_then<|c_cond0 rfl rfl<|c_skip ?_
    exact d_round () hm Nat.zero_lt_one ⟨rfl,rfl,rfl,rfl,trivial⟩ (fun W h=>h.phi (fun W hφ=>hφ))
   unfold m_pack_Packer_Name_j3 at hm
   refine d_flat [(0,.pointer (some ⟨go0,0,none⟩)),(1,.string s143),(2,.bool p2),(9,.bool x184.2)] ⟨rfl,rfl,rfl,rfl,trivial⟩ (fun u=>?_)
   refine d_then<|c_seq ?_
   refine c_cut (ι:=(List (ByteArray×Int))×Option Addr×Nat) [0,1,2] (fun ⟨l203,A204,c205⟩=>[]) (fun ⟨l203,A204,c205⟩=>⟨w0,M,(1000,go0,.cells #[.slice A138 l137.length c139,mapV A204] 150 (0,0))::H,(1000,⟨.slice A138 l137.length c139,5,1,l137.length,l137.flatMap (fun x : Int=>[Value.int .u8 x])⟩)::(1001,⟨mapV A204,148,2,l203.length,l203.flatMap (mcell (fun x : ByteArray=>Value.string x) (fun x : Int=>Value.int .i64 x))⟩)::R,φ⟩) (fun ⟨l203,A204,c205⟩=>m_pack_Packer_Name_j4 s143 l137 l203 = some o2∧True) ?_ (fun ⟨l203,A204,c205⟩ u ⟨hm,hc205⟩=>?_)
   ·
    refine c_seq<|c_region<|g_v rfl r_move<|g_v rfl (r_not rfl)<|g_v rfl r_move ?_
    refine g_if rfl rfl rfl rfl rfl (fun h215=>?_) (fun h215=>?_)
    ·
     have h215' : x184.2 = false:=by revert h215; cases x184.2 <;> simp
     replace hm:=ite_f hm (bool_nt h215')
     refine g_v rfl r_move<|g_do rfl rfl rfl rfl rfl h215<|g_v rfl (r_nilck rfl)<|g_do rfl rfl rfl rfl rfl h215<|g_v rfl (r_field (n:=0) Try.underlying150 rfl Try.sizeOf66 rfl rfl)<|g_do rfl rfl rfl rfl rfl h215<|g_v rfl (r_load (tag:=1000) rfl rfl rfl Try.isAgg66)<|g_do rfl rfl rfl rfl rfl h215<|g_v rfl (r_lenL Try.underlying66 rfl)<|g_do rfl rfl rfl rfl rfl h215 ?_
     refine g_v rfl (r_lss rfl rfl)<|g_v rfl (r_pick1 rfl h215)<|g_nil<|d_then ?_
     refine c_flat [(0,.pointer (some ⟨go0,0,none⟩)),(1,.string s143),(2,.bool p2),(48,.bool (decide ((l137.length : Int) < 16384)))] ⟨rfl,rfl,rfl,rfl,trivial⟩ (fun u=>?_)
     refine c_cond rfl (fun h216=>?_) (fun h216=>?_)
     ·
      replace hm:=ite_t hm (of_decide_eq_true h216)
      refine c_seq ?_
      refine c_cut (ι:=(List (ByteArray×Int))×Option Addr×Nat) [0,1,2] (fun ⟨l220,A221,c222⟩=>[]) (fun ⟨l220,A221,c222⟩=>⟨w0,M,(1000,go0,.cells #[.slice A138 l137.length c139,mapV A221] 150 (0,0))::H,(1000,⟨.slice A138 l137.length c139,5,1,l137.length,l137.flatMap (fun x : Int=>[Value.int .u8 x])⟩)::(1001,⟨mapV A221,148,2,l220.length,l220.flatMap (mcell (fun x : ByteArray=>Value.string x) (fun x : Int=>Value.int .i64 x))⟩)::R,φ⟩) (fun ⟨l220,A221,c222⟩=>m_pack_Packer_Name_j5 s143 l137 l220 = some o2∧A221.isSome = true) ?_ (fun ⟨l220,A221,c222⟩ u ⟨hm,hc222⟩=>?_)
      ·
       refine c_seq<|c_region<|g_v rfl r_move<|g_v rfl (r_nilck rfl)<|g_v rfl (r_field (n:=1) Try.underlying150 rfl Try.sizeOf148 rfl rfl)<|g_v rfl (r_load (tag:=1000) rfl rfl rfl Try.isAgg148)<|g_v rfl (r_isNilM Try.underlying148 rfl rfl)<|g_nil<|d_then ?_
       refine c_cond rfl (fun h226=>?_) (fun h226=>?_)
       ·
        refine c_know (l140 = []) (fun W hS=>nil_map (tag:=1001) hS rfl h226) (fun hl227=>?_)
        obtain rfl:=Option.isNone_iff_eq_none.1 h226
        refine c_sta _ (fun W h=>Sta.ok.dropR (t:=1001) h rfl)<|c_region<|g_v rfl r_move ?_
        refine g_e rfl (e_mmake (kenc:=(fun x : ByteArray=>Value.string x)) (venc:=(fun x : Int=>Value.int .i64 x)) 1001 148 hl227) (fun g228 _=>?_)
        refine g_v rfl (r_nilck rfl)<|g_v rfl (r_field (n:=1) Try.underlying150 rfl Try.sizeOf148 rfl rfl)<|g_storeL (tag:=1000) rfl rfl rfl rfl Try.sizeOf148 rfl rfl<|g_nil ?_
        exact d_round (l140,some ⟨g228,0,none⟩,0) ⟨hm,rfl⟩ Nat.zero_lt_one ⟨rfl,rfl,rfl,trivial⟩ (fun W h=>(ok_frontR (t:=1000) (t':=1000) (ok_frontR (t:=1001) (t':=1001) h rfl) rfl).phi (fun W hφ=>hφ))
       refine c_skip ?_
       exact d_round (l140,A141,c142) ⟨hm,(some_of_no h226)⟩ Nat.zero_lt_one ⟨rfl,rfl,rfl,trivial⟩ (fun W h=>h.phi (fun W hφ=>hφ))
      unfold m_pack_Packer_Name_j5 at hm
      refine d_flat [(0,.pointer (some ⟨go0,0,none⟩)),(1,.string s143),(2,.bool p2)] ⟨rfl,rfl,rfl,trivial⟩ (fun u=>?_)
      refine d_sta ⟨w0,M,(1000,go0,.cells #[.slice A138 l137.length c139,mapV A221] 150 (0,0))::H,(1000,⟨.slice A138 l137.length c139,5,1,l137.length,l137.flatMap (fun x : Int=>[Value.int .u8 x])⟩)::(1001,⟨mapV A221,148,2,l220.length,l220.flatMap (mcell (fun x : ByteArray=>Value.string x) (fun x : Int=>Value.int .i64 x))⟩)::R,φ⟩ (fun _ h=>h)<|d_then<|ga_start (n:=11) ⟨w0,M,(1000,go0,.cells #[.slice A138 l137.length c139,mapV A221] 150 (0,0))::H,(1000,⟨.slice A138 l137.length c139,5,1,l137.length,l137.flatMap (fun x : Int=>[Value.int .u8 x])⟩)::R,φ⟩ [10] #[false,false,false,false,false,false,false,false,false,false,false] (fun W h=>(h.dropR (t:=1001) rfl).phi (fun W hφ=>hφ)) mixed rfl rfl<|ga_v (i:=0) (bz 11 1) rfl (by kernel_rfl) (fun _ _ _ _ h=>h) rfl (r_move)<|ga_v (i:=1) (bz 11 3) rfl (by kernel_rfl) (fun _ _ _ _ h=>h) rfl (r_nilck rfl)<|ga_v (i:=2) (bz 11 7) rfl (by kernel_rfl) (fun _ _ _ _ h=>h) rfl (r_field (n:=1) Try.underlying150 rfl Try.sizeOf148 rfl rfl)<|ga_v (i:=3) (bz 11 15) rfl (by kernel_rfl) (fun _ _ _ _ h=>h) rfl (r_load (tag:=1000) rfl rfl rfl Try.isAgg148)<|ga_v (i:=4) (bz 11 31) rfl (by kernel_rfl) (fun _ _ _ _ h=>h) rfl (r_move)<|ga_r (i:=5) (bz 11 63) rfl (by kernel_rfl) (by decide) rfl (r_move)<|ga_r (i:=6) (bz 11 127) rfl (by kernel_rfl) (by decide) rfl (r_nilck rfl) ?_
      refine ga_r (i:=7) (bz 11 255) rfl (by kernel_rfl) (by decide) rfl (r_field (n:=0) Try.underlying150 rfl Try.sizeOf66 rfl rfl)<|ga_r (i:=8) (bz 11 511) rfl (by kernel_rfl) (by decide) rfl (r_load (tag:=1000) rfl rfl rfl Try.isAgg66)<|ga_r (i:=9) (bz 11 1023) rfl (by kernel_rfl) (by decide) rfl (r_lenL Try.underlying66 rfl) ?_
      replace hm:=bnd hm
      obtain ⟨l225,hl225,hm⟩:=hm
      refine ga_sL (i:=10) (bz 11 2047) rfl (by kernel_rfl) (by decide) (e_mput (tag:=1001) (l:=l220) mapT148_32 rfl rfl rfl hc222 rfl hl225)<|gz_done (by kernel_rfl) ?_
      exact d_round (l225,A221,c222) ⟨hm,trivial⟩ Nat.zero_lt_one ⟨rfl,rfl,rfl,trivial⟩ (fun W h=>h.phi (fun W hφ=>hφ))
     replace hm:=ite_f hm (of_decide_eq_false h216)
     refine c_skip ?_
     exact d_round (l140,A141,c142) ⟨hm,trivial⟩ Nat.zero_lt_one ⟨rfl,rfl,rfl,trivial⟩ (fun W h=>h.phi (fun W hφ=>hφ))
    have h215' : x184.2 = true:=by revert h215; cases x184.2 <;> simp
    replace hm:=ite_t hm h215'
    iterate 5 refine g_no rfl rfl rfl rfl rfl h215 ?_
    refine g_v rfl (r_pick0 rfl h215)<|g_nil<|d_then<|c_cond0 rfl rfl<|c_skip ?_
    exact d_round (l140,A141,c142) ⟨hm,trivial⟩ Nat.zero_lt_one ⟨rfl,rfl,rfl,trivial⟩ (fun W h=>h.phi (fun W hφ=>hφ))
   unfold m_pack_Packer_Name_j4 at hm
   refine d_flat [(0,.pointer (some ⟨go0,0,none⟩)),(1,.string s143),(2,.bool p2)] ⟨rfl,rfl,rfl,trivial⟩ (fun u=>?_)
   refine d_sta ⟨w0,M,(1000,go0,.cells #[.slice A138 l137.length c139,mapV A204] 150 (0,0))::H,(1000,⟨.slice A138 l137.length c139,5,1,l137.length,l137.flatMap (fun x : Int=>[Value.int .u8 x])⟩)::(1001,⟨mapV A204,148,2,l203.length,l203.flatMap (mcell (fun x : ByteArray=>Value.string x) (fun x : Int=>Value.int .i64 x))⟩)::R,φ⟩ (fun _ h=>h)<|d_then<|c_seq<|c_region<|g_v rfl r_move ?_
   replace hm:=bnd hm
   obtain ⟨b206,hb206,hm⟩:=hm
   refine g_v rfl (r_sat Try.underlying9 rfl rfl hb206)<|g_v rfl (r_conv Try.underlying5 Try.underlying3 rfl rfl)<|g_v rfl (r_add rfl rfl rfl)<|g_v rfl r_assign<|g_nil<|d_then<|c_seq<|c_region ?_
   iterate 3 refine g_v rfl r_move ?_
   replace hm:=bnd hm
   obtain ⟨s207,hs207,hm⟩:=hm
   refine g_v rfl (r_scutHi Try.underlying9 rfl rfl hs207) ?_
   replace hm:=bnd hm
   obtain ⟨x208,hx209,hm⟩:=hm
   refine g_cn ⟨w0,M,(1000,go0,.cells #[.slice A138 l137.length c139,mapV A204] 150 (0,0))::H,(1000,⟨.slice A138 l137.length c139,5,1,l137.length,l137.flatMap (fun x : Int=>[Value.int .u8 x])⟩)::(1001,⟨mapV A204,148,2,l203.length,l203.flatMap (mcell (fun x : ByteArray=>Value.string x) (fun x : Int=>Value.int .i64 x))⟩)::R,φ⟩ (fun W h=>(ok_front (t:=1000) (t':=1000) (ok_frontR (t:=1000) (t':=1000) (ok_frontR (t:=1001) (t':=1001) h rfl) rfl) rfl)) Try.call103 rfl rfl (c_pack_Packer_Raw s207 go0 (⟨l137,l203⟩ : Gpack_Packer) A138 c139 hc139 A204 c205 trivial _ hx209) (fun ⟨A210,c211⟩ hc211=>?_)
   refine g_sta _ (fun W h=>(ok_frontR (t:=2000) (t':=1000) (ok_frontR (t:=1001) (t':=1001) (ok_front (t:=1000) (t':=1000) h rfl) rfl) rfl))<|g_nil<|d_then ?_
   refine c_flat [(0,.pointer (some ⟨go0,0,none⟩)),(1,.string s143),(2,.bool p2),(10,.int .i64 (w64 (1 + (w64 b206))))] ⟨rfl,rfl,rfl,rfl,trivial⟩ (fun u=>?_)
   refine c_sta ⟨w0,M,(1000,go0,.cells #[.slice A210 x208.fb.length c211,mapV A204] 150 (0,0))::H,(1000,⟨.slice A210 x208.fb.length c211,5,1,x208.fb.length,x208.fb.flatMap (fun x : Int=>[Value.int .u8 x])⟩)::(1001,⟨mapV A204,148,2,l203.length,l203.flatMap (mcell (fun x : ByteArray=>Value.string x) (fun x : Int=>Value.int .i64 x))⟩)::R,φ⟩ (fun _ h=>h)<|c_region<|g_v rfl r_move<|g_v rfl r_move ?_
   replace hm:=bnd hm
   obtain ⟨s213,hs213,hm⟩:=hm
   refine g_v rfl (r_scutLo Try.underlying9 rfl rfl hs213)<|g_v rfl r_assign<|g_nil<|d_normal_block ?_
   obtain ⟨n214,hn214,hlp⟩:=nx_inl hm hnx2
   exact d_round (n214,x208.fb,l203,s213,A210,c211,A204,c205) ⟨hlp,hc211,trivial⟩ hn214 ⟨rfl,rfl,rfl,trivial⟩ (fun W h=>h.phi (fun W hφ=>hφ))
  replace hm:=ite_f hm (of_decide_eq_false h183)
  refine c_exit<|d_exit_then<|d_exit_then<|d_exit_block ?_
  replace hm:=nx_out (C:=(fun e : ((List Int)×(List (ByteArray×Int))) ⊕ (Int×Gpack_Packer)=>Sum.elim (fun e=>m_pack_Packer_Name_j1 e.1 e.2) (fun x=>some x) e = some r)) hm hnx2 hr2
  exact d_round (l137,l140,A138,c139,A141,c142) ⟨hm,hc139,trivial⟩ Nat.zero_lt_one ⟨rfl,trivial⟩ (fun W h=>h.phi (fun W hφ=>hφ))
 unfold m_pack_Packer_Name_j1 at hm
 refine d_flat [(0,.pointer (some ⟨go0,0,none⟩))] ⟨rfl,trivial⟩ (fun u=>?_)
 refine d_sta ⟨w0,M,(1000,go0,.cells #[.slice A89 l88.length c90,mapV A92] 150 (0,0))::H,(1000,⟨.slice A89 l88.length c90,5,1,l88.length,l88.flatMap (fun x : Int=>[Value.int .u8 x])⟩)::(1001,⟨mapV A92,148,2,l91.length,l91.flatMap (mcell (fun x : ByteArray=>Value.string x) (fun x : Int=>Value.int .i64 x))⟩)::R,φ⟩ (fun _ h=>h)<|d_then<|c_seq<|c_region<|g_v rfl r_move ?_
 replace hm:=bnd hm
 obtain ⟨x94,hx95,hm⟩:=hm
 refine g_cn ⟨w0,M,(1000,go0,.cells #[.slice A89 l88.length c90,mapV A92] 150 (0,0))::H,(1000,⟨.slice A89 l88.length c90,5,1,l88.length,l88.flatMap (fun x : Int=>[Value.int .u8 x])⟩)::(1001,⟨mapV A92,148,2,l91.length,l91.flatMap (mcell (fun x : ByteArray=>Value.string x) (fun x : Int=>Value.int .i64 x))⟩)::R,φ⟩ (fun W h=>(ok_front (t:=1000) (t':=1000) (ok_frontR (t:=1000) (t':=1000) (ok_frontR (t:=1001) (t':=1001) h rfl) rfl) rfl)) Try.call104 rfl rfl (c_pack_Packer_Byte 0 go0 (⟨l88,l91⟩ : Gpack_Packer) A89 c90 hc90 A92 c93 trivial _ hx95) (fun ⟨A96,c97⟩ hc97=>?_)
 refine g_sta _ (fun W h=>(ok_frontR (t:=2000) (t':=1000) (ok_frontR (t:=1001) (t':=1001) (ok_front (t:=1000) (t':=1000) h rfl) rfl) rfl))<|g_nil<|d_then<|c_seq<|c_region<|g_v rfl r_assign<|g_nil<|d_then<|c_ret ?_
 cases hm
 refine d_sta _ (fun W h=>ok_frontR (t:=1001) (t':=2001) h rfl)<|d_sta _ (fun W h=>ok_frontR (t:=1000) (t':=2000) h rfl) ?_
 exact d_retC (A96,c97,A92,c93) Try.results92 (res_tmp (res_nil rfl)) ⟨hc97,hc93⟩ (fun W h=>h.phi (fun W hφ=>hφ)) (.inr rfl)
noncomputable def m_message_whole_c1 (p0 : GQuestion) (o1 : Gpack_Packer) : Option (Int×Gpack_Packer):=
  (m_pack_Packer_Name p0.fName true o1).bind fun (z11 : Int×Gpack_Packer)=>
  (m_pack_Packer_Word p0.fType z11.2).bind fun x12=>
  (m_pack_Packer_Word p0.fClass (⟨x12.fb,z11.2.fplaces⟩ : Gpack_Packer)).bind fun x17=>
  some (z11.1,(⟨x17.fb,z11.2.fplaces⟩ : Gpack_Packer))
theorem c_message_whole_c1 {w0 : World} {M : Nat→Prop} {H : List (Nat×Nat×Obj)} {R : List (Nat×Row)} {φ : World→Prop} (p0 : GQuestion) (go0 : Nat) (go1 : Nat) (o1 : Gpack_Packer) (Ao1_0 : Option Addr) (co1_0 : Nat) (hco1_0 : o1.fb.length ≤ co1_0) (Ao1_1 : Option Addr) (co1_1 : Nat) (hco1_1 : True) (r : Int×Gpack_Packer) (hm : m_message_whole_c1 p0 o1 = some r) :
    Cn Try.prog 91 #[.agg #[.string p0.fName,.int .u16 p0.fType,.int .u16 p0.fClass],.pointer (some ⟨go0,0,none⟩)] ⟨w0,M,(1000,go0,.cells #[.pointer (some ⟨go1,0,none⟩)] 130 (0,0))::(1001,go1,.cells #[.slice Ao1_0 o1.fb.length co1_0,mapV Ao1_1] 150 (0,0))::H,(1000,⟨.slice Ao1_0 o1.fb.length co1_0,5,1,o1.fb.length,o1.fb.flatMap (fun x : Int=>[Value.int .u8 x])⟩)::(1001,⟨mapV Ao1_1,148,2,o1.fplaces.length,o1.fplaces.flatMap (mcell (fun x : ByteArray=>Value.string x) (fun x : Int=>Value.int .i64 x))⟩)::R,φ⟩ (fun x : Option Addr×Nat×Option Addr×Nat=>.int .i64 r.1) (fun x=>r.2.fb.length ≤ x.2.1∧True) (fun x=>⟨w0,M,(1000,go0,.cells #[.pointer (some ⟨go1,0,none⟩)] 130 (0,0))::(1001,go1,.cells #[.slice x.1 r.2.fb.length x.2.1,mapV x.2.2.1] 150 (0,0))::H,(2000,⟨.slice x.1 r.2.fb.length x.2.1,5,1,r.2.fb.length,r.2.fb.flatMap (fun x : Int=>[Value.int .u8 x])⟩)::(2001,⟨mapV x.2.2.1,148,2,r.2.fplaces.length,r.2.fplaces.flatMap (mcell (fun x : ByteArray=>Value.string x) (fun x : Int=>Value.int .i64 x))⟩)::R,φ⟩):=by
 unfold m_message_whole_c1 at hm
 refine cn_intro (fn:=Try.f91) (N:=18) Try.func91 rfl Try.ntmps91 rfl<|c_seq<|c_region ?_
 refine g_e rfl (e_box 100020 rfl) (fun g1 _=>?_)
 refine g_v rfl r_assign<|g_nil<|d_then<|c_seq<|c_region<|g_v rfl (r_load (tag:=1000) rfl rfl rfl Try.isAgg130)<|g_v rfl (r_field (n:=0) Try.underlying29 rfl Try.sizeOf9 rfl rfl)<|g_v rfl (r_load (tag:=100020) rfl rfl rfl Try.isAgg9) ?_
 replace hm:=bnd hm
 obtain ⟨⟨x2,x3⟩,hx4,hm⟩:=hm
 refine g_cn ⟨w0,M,(1000,go1,.cells #[.slice Ao1_0 o1.fb.length co1_0,mapV Ao1_1] 150 (0,0))::(100020,g1,.cells #[.string p0.fName,.int .u16 p0.fType,.int .u16 p0.fClass] 29 (0,0))::(1000,go0,.cells #[.pointer (some ⟨go1,0,none⟩)] 130 (0,0))::H,(1000,⟨.slice Ao1_0 o1.fb.length co1_0,5,1,o1.fb.length,o1.fb.flatMap (fun x : Int=>[Value.int .u8 x])⟩)::(1001,⟨mapV Ao1_1,148,2,o1.fplaces.length,o1.fplaces.flatMap (mcell (fun x : ByteArray=>Value.string x) (fun x : Int=>Value.int .i64 x))⟩)::R,φ⟩ (fun W h=>(ok_front (t:=1001) (t':=1000) (ok_frontR (t:=1000) (t':=1000) (ok_frontR (t:=1001) (t':=1001) h rfl) rfl) rfl)) Try.call92 rfl rfl (c_pack_Packer_Name p0.fName true go1 o1 Ao1_0 co1_0 hco1_0 Ao1_1 co1_1 trivial _ hx4) (fun ⟨A5,c6,A8,c9⟩ ⟨hc6,hc9⟩=>?_)
 refine g_sta _ (fun W h=>(ok_frontR (t:=2000) (t':=1000) (ok_frontR (t:=2001) (t':=1001) (ok_front (t:=1000) (t':=1001) h rfl) rfl) rfl))<|g_v rfl r_assign<|g_nil<|d_then<|c_seq<|c_region<|g_v rfl (r_load (tag:=1000) rfl rfl rfl Try.isAgg130)<|g_v rfl (r_field (n:=1) Try.underlying29 rfl Try.sizeOf22 rfl rfl)<|g_v rfl (r_load (tag:=100020) rfl rfl rfl Try.isAgg22) ?_
 replace hm:=bnd hm
 obtain ⟨x12,hx13,hm⟩:=hm
 refine g_cn ⟨w0,M,(1000,go1,.cells #[.slice A5 x3.fb.length c6,mapV A8] 150 (0,0))::(100020,g1,.cells #[.string p0.fName,.int .u16 p0.fType,.int .u16 p0.fClass] 29 (0,0))::(1000,go0,.cells #[.pointer (some ⟨go1,0,none⟩)] 130 (0,0))::H,(1000,⟨.slice A5 x3.fb.length c6,5,1,x3.fb.length,x3.fb.flatMap (fun x : Int=>[Value.int .u8 x])⟩)::(1001,⟨mapV A8,148,2,x3.fplaces.length,x3.fplaces.flatMap (mcell (fun x : ByteArray=>Value.string x) (fun x : Int=>Value.int .i64 x))⟩)::R,φ⟩ (fun W h=>(ok_front (t:=1001) (t':=1000) (ok_frontR (t:=1000) (t':=1000) (ok_frontR (t:=1001) (t':=1001) h rfl) rfl) rfl)) Try.call87 rfl rfl (c_pack_Packer_Word p0.fType go1 x3 A5 c6 hc6 A8 c9 trivial _ hx13) (fun ⟨A14,c15⟩ hc15=>?_)
 refine g_sta _ (fun W h=>(ok_frontR (t:=2000) (t':=1000) (ok_frontR (t:=1001) (t':=1001) (ok_front (t:=1000) (t':=1001) h rfl) rfl) rfl))<|g_nil<|d_then ?_
 refine c_flat [(1,.pointer (some ⟨go0,0,none⟩)),(2,.pointer (some ⟨g1,0,none⟩)),(4,.int .i64 x2)] ⟨rfl,rfl,rfl,trivial⟩ (fun u=>?_)
 refine c_sta ⟨w0,M,(1001,go1,.cells #[.slice A14 x12.fb.length c15,mapV A8] 150 (0,0))::(100020,g1,.cells #[.string p0.fName,.int .u16 p0.fType,.int .u16 p0.fClass] 29 (0,0))::(1000,go0,.cells #[.pointer (some ⟨go1,0,none⟩)] 130 (0,0))::H,(1000,⟨.slice A14 x12.fb.length c15,5,1,x12.fb.length,x12.fb.flatMap (fun x : Int=>[Value.int .u8 x])⟩)::(1001,⟨mapV A8,148,2,x3.fplaces.length,x3.fplaces.flatMap (mcell (fun x : ByteArray=>Value.string x) (fun x : Int=>Value.int .i64 x))⟩)::R,φ⟩ (fun _ h=>h)<|c_seq<|c_region<|g_v rfl (r_load (tag:=1000) rfl rfl rfl Try.isAgg130)<|g_v rfl (r_field (n:=2) Try.underlying29 rfl Try.sizeOf22 rfl rfl)<|g_v rfl (r_load (tag:=100020) rfl rfl rfl Try.isAgg22) ?_
 replace hm:=bnd hm
 obtain ⟨x17,hx18,hm⟩:=hm
 refine g_cn ⟨w0,M,(1000,go1,.cells #[.slice A14 x12.fb.length c15,mapV A8] 150 (0,0))::(100020,g1,.cells #[.string p0.fName,.int .u16 p0.fType,.int .u16 p0.fClass] 29 (0,0))::(1000,go0,.cells #[.pointer (some ⟨go1,0,none⟩)] 130 (0,0))::H,(1000,⟨.slice A14 x12.fb.length c15,5,1,x12.fb.length,x12.fb.flatMap (fun x : Int=>[Value.int .u8 x])⟩)::(1001,⟨mapV A8,148,2,x3.fplaces.length,x3.fplaces.flatMap (mcell (fun x : ByteArray=>Value.string x) (fun x : Int=>Value.int .i64 x))⟩)::R,φ⟩ (fun W h=>(ok_front (t:=1001) (t':=1000) (ok_frontR (t:=1000) (t':=1000) (ok_frontR (t:=1001) (t':=1001) h rfl) rfl) rfl)) Try.call87 rfl rfl (c_pack_Packer_Word p0.fClass go1 (⟨x12.fb,x3.fplaces⟩ : Gpack_Packer) A14 c15 hc15 A8 c9 trivial _ hx18) (fun ⟨A19,c20⟩ hc20=>?_)
 refine g_sta _ (fun W h=>(ok_frontR (t:=2000) (t':=1000) (ok_frontR (t:=1001) (t':=1001) (ok_front (t:=1000) (t':=1001) h rfl) rfl) rfl))<|g_nil<|d_then<|c_seq<|c_region<|g_v rfl r_move<|g_v rfl r_assign<|g_nil<|d_then<|c_ret ?_
 cases hm
 refine d_sta _ (fun W h=>ok_frontR (t:=1001) (t':=2001) h rfl)<|d_sta _ (fun W h=>ok_frontR (t:=1000) (t':=2000) h rfl) ?_
 exact d_retC (A19,c20,A8,c9) Try.results91 (res_tmp (res_nil rfl)) ⟨hc20,hc9⟩ (fun W h=>(ok_front (t:=1000) (t':=1000) (ok_front (t:=1001) (t':=1001) (h.dropH (t:=100020) rfl) rfl) rfl).phi (fun W hφ=>hφ)) (.inr rfl)
noncomputable def m_message_each_90_j1  (l57 : List Int) (l60 : List (ByteArray×Int)) : Option (Int×Gpack_Packer):=
  some (0,(⟨l57,l60⟩ : Gpack_Packer))
noncomputable def m_message_each_90_s2 (p0 : List GQuestion) (l87 : List Int) (l90 : List (ByteArray×Int)) (i93 : Int) : Option (((List Int)×(List (ByteArray×Int))×Int) ⊕ (((List Int)×(List (ByteArray×Int))) ⊕ (Int×Gpack_Packer))):=
  if i93 < (p0.length : Int) then
    (at_ p0 i93).bind fun x120=>
    (m_message_whole_c1 x120 (⟨l87,l90⟩ : Gpack_Packer)).bind fun (z134 : Int×Gpack_Packer)=>
    if z134.1 ≠ 0 then
      some (.inr (.inr (z134.1,z134.2)))
    else
      some (.inl (z134.2.fb,z134.2.fplaces,w64 (i93 + 1)))
  else
    some (.inr (.inl (l87,l90)))
noncomputable def m_message_each_90 (p0 : List GQuestion) (o1 : Gpack_Packer) : Option (Int×Gpack_Packer):=
  (loop (fun s=>m_message_each_90_s2 p0 s.1 s.2.1 s.2.2) (o1.fb,o1.fplaces,0)).bind fun e=>Sum.elim (fun e=>m_message_each_90_j1 e.1 e.2) (fun x=>some x) e
theorem c_message_each_90 {w0 : World} {M : Nat→Prop} {H : List (Nat×Nat×Obj)} {R : List (Nat×Row)} {φ : World→Prop} (p0 : List GQuestion) (Ap0_0 : Option Addr) (cp0_0 : Nat) (hcp0_0 : p0.length ≤ cp0_0) (fp0_0 : ∀ W,(Sta.mk w0 M H R φ).ok W→Cl W Ap0_0 (p0.flatMap GQuestion.enc)) (go0 : Nat) (go1 : Nat) (o1 : Gpack_Packer) (Ao1_0 : Option Addr) (co1_0 : Nat) (hco1_0 : o1.fb.length ≤ co1_0) (Ao1_1 : Option Addr) (co1_1 : Nat) (hco1_1 : True) (r : Int×Gpack_Packer) (hm : m_message_each_90 p0 o1 = some r) :
    Cn Try.prog 90 #[.slice Ap0_0 p0.length cp0_0,.func (.func 91) #[] #[.pointer (some ⟨go0,0,none⟩)]] ⟨w0,M,(1000,go0,.cells #[.pointer (some ⟨go1,0,none⟩)] 130 (0,0))::(1001,go1,.cells #[.slice Ao1_0 o1.fb.length co1_0,mapV Ao1_1] 150 (0,0))::H,(1000,⟨.slice Ao1_0 o1.fb.length co1_0,5,1,o1.fb.length,o1.fb.flatMap (fun x : Int=>[Value.int .u8 x])⟩)::(1001,⟨mapV Ao1_1,148,2,o1.fplaces.length,o1.fplaces.flatMap (mcell (fun x : ByteArray=>Value.string x) (fun x : Int=>Value.int .i64 x))⟩)::R,φ⟩ (fun x : Option Addr×Nat×Option Addr×Nat=>.int .i64 r.1) (fun x=>r.2.fb.length ≤ x.2.1∧True) (fun x=>⟨w0,M,(1000,go0,.cells #[.pointer (some ⟨go1,0,none⟩)] 130 (0,0))::(1001,go1,.cells #[.slice x.1 r.2.fb.length x.2.1,mapV x.2.2.1] 150 (0,0))::H,(2000,⟨.slice x.1 r.2.fb.length x.2.1,5,1,r.2.fb.length,r.2.fb.flatMap (fun x : Int=>[Value.int .u8 x])⟩)::(2001,⟨mapV x.2.2.1,148,2,r.2.fplaces.length,r.2.fplaces.flatMap (mcell (fun x : ByteArray=>Value.string x) (fun x : Int=>Value.int .i64 x))⟩)::R,φ⟩):=by
 unfold m_message_each_90 at hm
 refine cn_intro (fn:=Try.f90) (N:=21) Try.func90 rfl Try.ntmps90 rfl<|c_seq<|c_region<|g_v rfl r_assign<|g_nil<|d_then<|c_seq<|c_seq<|c_region<|g_v rfl r_move ?_
 refine g_v rfl (r_lenL Try.underlying23 rfl)<|g_v rfl r_move<|g_nil<|d_then ?_
 refine c_cut (ι:=(List Int)×(List (ByteArray×Int))×Option Addr×Nat×Option Addr×Nat) [] (fun ⟨l57,l60,A58,c59,A61,c62⟩=>[]) (fun ⟨l57,l60,A58,c59,A61,c62⟩=>⟨w0,M,(1000,go0,.cells #[.pointer (some ⟨go1,0,none⟩)] 130 (0,0))::(1001,go1,.cells #[.slice A58 l57.length c59,mapV A61] 150 (0,0))::H,(1000,⟨.slice A58 l57.length c59,5,1,l57.length,l57.flatMap (fun x : Int=>[Value.int .u8 x])⟩)::(1001,⟨mapV A61,148,2,l60.length,l60.flatMap (mcell (fun x : ByteArray=>Value.string x) (fun x : Int=>Value.int .i64 x))⟩)::R,φ⟩) (fun ⟨l57,l60,A58,c59,A61,c62⟩=>m_message_each_90_j1 l57 l60 = some r∧l57.length ≤ c59∧True) ?_ (fun ⟨l57,l60,A58,c59,A61,c62⟩ u ⟨hm,hc59,hc62⟩=>?_)
 ·
  refine c_block ?_
  replace hm:=bnd hm
  obtain ⟨out2,hl2,hr2⟩:=hm
  obtain ⟨n118',hl2⟩:=loop_lp hl2
  refine c_loopU (ι:=Nat×(List Int)×(List (ByteArray×Int))×Int×Option Addr×Nat×Option Addr×Nat) [1,8,9,10] (fun ⟨n118,l87,l90,i93,A88,c89,A91,c92⟩=>[(10,.int .i64 i93)]) (fun ⟨n118,l87,l90,i93,A88,c89,A91,c92⟩=>⟨w0,M,(1000,go0,.cells #[.pointer (some ⟨go1,0,none⟩)] 130 (0,0))::(1001,go1,.cells #[.slice A88 l87.length c89,mapV A91] 150 (0,0))::H,(1000,⟨.slice A88 l87.length c89,5,1,l87.length,l87.flatMap (fun x : Int=>[Value.int .u8 x])⟩)::(1001,⟨mapV A91,148,2,l90.length,l90.flatMap (mcell (fun x : ByteArray=>Value.string x) (fun x : Int=>Value.int .i64 x))⟩)::R,φ⟩) (fun ⟨n118,l87,l90,i93,A88,c89,A91,c92⟩=>Lp (fun s=>m_message_each_90_s2 p0 s.1 s.2.1 s.2.2) n118 (l87,l90,i93) out2∧l87.length ≤ c89∧True) (fun ⟨n118,l87,l90,i93,A88,c89,A91,c92⟩=>n118) (n118',o1.fb,o1.fplaces,0,Ao1_0,co1_0,Ao1_1,co1_1) ⟨hl2,hco1_0,trivial⟩ ⟨rfl,rfl,rfl,rfl,trivial⟩ (fun W h=>h.phi (fun W hφ=>hφ)) (fun ⟨n118,l87,l90,i93,A88,c89,A91,c92⟩ u ⟨hlp,hc89,hc92⟩=>?_)
  obtain ⟨o2,hm,hnx2⟩:=lp_step hlp
  clear hlp
  replace hm : m_message_each_90_s2 p0 l87 l90 i93 = some o2:=hm
  unfold m_message_each_90_s2 at hm
  refine c_flat [(1,.func (.func 91) #[] #[.pointer (some ⟨go0,0,none⟩)]),(8,.slice Ap0_0 p0.length cp0_0),(9,.int .i64 (p0.length : Int)),(10,.int .i64 i93)] ⟨rfl,rfl,rfl,rfl,trivial⟩ (fun u=>?_)
  refine c_sta ⟨w0,M,(1000,go0,.cells #[.pointer (some ⟨go1,0,none⟩)] 130 (0,0))::(1001,go1,.cells #[.slice A88 l87.length c89,mapV A91] 150 (0,0))::H,(1000,⟨.slice A88 l87.length c89,5,1,l87.length,l87.flatMap (fun x : Int=>[Value.int .u8 x])⟩)::(1001,⟨mapV A91,148,2,l90.length,l90.flatMap (mcell (fun x : ByteArray=>Value.string x) (fun x : Int=>Value.int .i64 x))⟩)::R,φ⟩ (fun _ h=>h)<|c_seq<|c_region<|g_v rfl (r_lss rfl rfl)<|g_nil<|d_then<|c_seq ?_
  refine c_cond rfl (fun h119=>?_) (fun h119=>?_)
  ·
   replace hm:=ite_t hm (of_decide_eq_true h119)
   refine c_skip<|d_then<|c_seq<|c_block<|c_seq<|c_region ?_
   replace hm:=bnd hm
   obtain ⟨x120,hx120,hm⟩:=hm
   refine g_know _ (fun W hS=>cl_at (p:=(Sta.mk w0 M H R φ).ok) (sz:=3) (fun _=>rfl) (by decide) (ok_pre (H1:=[_,_]) (R1:=[_,_]) hS (fun W h=>h)) fp0_0 hx120) ?_
   rintro ⟨ad121,hA123,f122⟩
   refine g_v rfl (r_ix Try.underlying23 Try.sizeOf29 rfl hA123 rfl hx120)<|g_v rfl (r_ldA rfl Try.isAgg29 Try.sizeOf29 (fun W hS=>(f122 W (ok_pre (H1:=[_,_]) (R1:=[_,_]) hS (fun W h=>h))).take 3) rfl) ?_
   refine g_e rfl (e_alloc 100060 Try.zeroValue29) (fun g124 _=>?_)
   refine g_storeL (tag:=100060) rfl rfl rfl rfl Try.sizeOf29 rfl rfl<|g_nil<|d_then<|c_seq<|c_region<|g_v rfl r_move<|g_v rfl (r_loadA (tag:=100060) rfl rfl Try.isAgg29 Try.sizeOf29 rfl rfl) ?_
   replace hm:=bnd hm
   obtain ⟨⟨x125,x126⟩,hx127,hm⟩:=hm
   refine g_cnv ⟨w0,M,(1000,go0,.cells #[.pointer (some ⟨go1,0,none⟩)] 130 (0,0))::(1001,go1,.cells #[.slice A88 l87.length c89,mapV A91] 150 (0,0))::(100060,g124,.cells #[.string x120.fName,.int .u16 x120.fType,.int .u16 x120.fClass] 29 (0,0))::H,(1000,⟨.slice A88 l87.length c89,5,1,l87.length,l87.flatMap (fun x : Int=>[Value.int .u8 x])⟩)::(1001,⟨mapV A91,148,2,l90.length,l90.flatMap (mcell (fun x : ByteArray=>Value.string x) (fun x : Int=>Value.int .i64 x))⟩)::R,φ⟩ (fun W h=>(ok_front (t:=1000) (t':=1000) (ok_front (t:=1001) (t':=1001) (ok_frontR (t:=1000) (t':=1000) (ok_frontR (t:=1001) (t':=1001) h rfl) rfl) rfl) rfl)) Try.call91 rfl rfl rfl (c_message_whole_c1 x120 go0 go1 (⟨l87,l90⟩ : Gpack_Packer) A88 c89 hc89 A91 c92 trivial _ hx127) (fun ⟨A128,c129,A131,c132⟩ ⟨hc129,hc132⟩=>?_)
   refine g_sta _ (fun W h=>(ok_frontR (t:=2000) (t':=1000) (ok_frontR (t:=2001) (t':=1001) (ok_front (t:=1000) (t':=1000) (ok_front (t:=1001) (t':=1001) h rfl) rfl) rfl) rfl))<|g_v rfl r_assign<|g_nil<|d_then ?_
   refine c_flat [(1,.func (.func 91) #[] #[.pointer (some ⟨go0,0,none⟩)]),(7,.int .i64 x125),(8,.slice Ap0_0 p0.length cp0_0),(9,.int .i64 (p0.length : Int)),(10,.int .i64 i93)] ⟨rfl,rfl,rfl,rfl,rfl,trivial⟩ (fun u=>?_)
   refine c_sta ⟨w0,M,(1000,go0,.cells #[.pointer (some ⟨go1,0,none⟩)] 130 (0,0))::(1001,go1,.cells #[.slice A128 x126.fb.length c129,mapV A131] 150 (0,0))::(100060,g124,.cells #[.string x120.fName,.int .u16 x120.fType,.int .u16 x120.fClass] 29 (0,0))::H,(1000,⟨.slice A128 x126.fb.length c129,5,1,x126.fb.length,x126.fb.flatMap (fun x : Int=>[Value.int .u8 x])⟩)::(1001,⟨mapV A131,148,2,x126.fplaces.length,x126.fplaces.flatMap (mcell (fun x : ByteArray=>Value.string x) (fun x : Int=>Value.int .i64 x))⟩)::R,φ⟩ (fun _ h=>h)<|c_seq<|c_region<|g_v rfl r_move<|g_v rfl (r_neq rfl rfl)<|g_nil<|d_then ?_
   refine c_cond rfl (fun h135=>?_) (fun h135=>?_)
   ·
    replace hm:=ite_t hm (of_decide_eq_true h135)
    refine c_seq<|c_region<|g_v rfl r_move<|g_v rfl r_assign<|g_nil<|d_then<|c_ret<|d_ret_block<|d_ret_then<|d_ret_then ?_
    refine d_ret_block<|d_ret_then<|d_ret_then ?_
    replace hm:=nx_out (C:=(fun e : ((List Int)×(List (ByteArray×Int))) ⊕ (Int×Gpack_Packer)=>Sum.elim (fun e=>m_message_each_90_j1 e.1 e.2) (fun x=>some x) e = some r)) hm hnx2 hr2
    replace hm : some (x125,x126) = some r:=hm
    cases hm
    refine d_sta _ (fun W h=>ok_frontR (t:=1001) (t':=2001) h rfl)<|d_sta _ (fun W h=>ok_frontR (t:=1000) (t':=2000) h rfl) ?_
    exact d_retC (A128,c129,A131,c132) Try.results90 (res_tmp (res_nil rfl)) ⟨hc129,hc132⟩ (fun W h=>(h.dropH (t:=100060) rfl).phi (fun W hφ=>hφ)) (.inr rfl)
   replace hm:=ite_f hm (of_decide_eq_false h135)
   refine c_skip<|d_normal_block<|d_then<|c_region<|g_v rfl (r_add rfl rfl rfl)<|g_v rfl r_move<|g_nil ?_
   obtain ⟨n136,hn136,hlp⟩:=nx_inl hm hnx2
   exact d_round (n136,x126.fb,x126.fplaces,w64 (i93 + 1),A128,c129,A131,c132) ⟨hlp,hc129,trivial⟩ hn136 ⟨rfl,rfl,rfl,rfl,trivial⟩ (fun W h=>(h.dropH (t:=100060) rfl).phi (fun W hφ=>hφ))
  replace hm:=ite_f hm (of_decide_eq_false h119)
  refine c_exit<|d_exit_then<|d_exit_then<|d_exit_block ?_
  replace hm:=nx_out (C:=(fun e : ((List Int)×(List (ByteArray×Int))) ⊕ (Int×Gpack_Packer)=>Sum.elim (fun e=>m_message_each_90_j1 e.1 e.2) (fun x=>some x) e = some r)) hm hnx2 hr2
  exact d_round (l87,l90,A88,c89,A91,c92) ⟨hm,hc89,trivial⟩ Nat.zero_lt_one trivial (fun W h=>h.phi (fun W hφ=>hφ))
 unfold m_message_each_90_j1 at hm
 refine d_flat [] trivial (fun u=>?_)
 refine d_sta ⟨w0,M,(1000,go0,.cells #[.pointer (some ⟨go1,0,none⟩)] 130 (0,0))::(1001,go1,.cells #[.slice A58 l57.length c59,mapV A61] 150 (0,0))::H,(1000,⟨.slice A58 l57.length c59,5,1,l57.length,l57.flatMap (fun x : Int=>[Value.int .u8 x])⟩)::(1001,⟨mapV A61,148,2,l60.length,l60.flatMap (mcell (fun x : ByteArray=>Value.string x) (fun x : Int=>Value.int .i64 x))⟩)::R,φ⟩ (fun _ h=>h)<|d_then<|c_seq<|c_region<|g_v rfl r_assign<|g_nil<|d_then<|c_ret ?_
 cases hm
 refine d_sta _ (fun W h=>ok_frontR (t:=1001) (t':=2001) h rfl)<|d_sta _ (fun W h=>ok_frontR (t:=1000) (t':=2000) h rfl) ?_
 exact d_retC (A58,c59,A61,c62) Try.results90 (res_tmp (res_nil rfl)) ⟨hc59,hc62⟩ (fun W h=>h.phi (fun W hφ=>hφ)) (.inr rfl)
theorem lit5_33 (z0 : Int) (z1 : Int) (z2 : Int) (z3 : Int) : Try.prog.builtSlice 5 4 [(0,.int .u8 z0),(1,.int .u8 z1),(2,.int .u8 z2),(3,.int .u8 z3)] = some #[.int .u8 z0,.int .u8 z1,.int .u8 z2,.int .u8 z3]:=by kernel_rfl
noncomputable def m_pack_Packer_Long (p1 : Int) (o0 : Gpack_Packer) : Option Gpack_Packer:=
  (m_pack_Packer_put [IntKind.u8.wrap (p1 / 16777216),IntKind.u8.wrap (p1 / 65536),IntKind.u8.wrap (p1 / 256),IntKind.u8.wrap p1] o0).bind fun x2=>
  some (⟨x2.fb,o0.fplaces⟩ : Gpack_Packer)
theorem c_pack_Packer_Long {w0 : World} {M : Nat→Prop} {H : List (Nat×Nat×Obj)} {R : List (Nat×Row)} {φ : World→Prop} (p1 : Int) (go0 : Nat) (o0 : Gpack_Packer) (Ao0_0 : Option Addr) (co0_0 : Nat) (hco0_0 : o0.fb.length ≤ co0_0) (Ao0_1 : Option Addr) (co0_1 : Nat) (hco0_1 : True) (r : Gpack_Packer) (hm : m_pack_Packer_Long p1 o0 = some r) :
    Cn Try.prog 105 #[.pointer (some ⟨go0,0,none⟩),.int .u32 p1] ⟨w0,M,(1000,go0,.cells #[.slice Ao0_0 o0.fb.length co0_0,mapV Ao0_1] 150 (0,0))::H,(1000,⟨.slice Ao0_0 o0.fb.length co0_0,5,1,o0.fb.length,o0.fb.flatMap (fun x : Int=>[Value.int .u8 x])⟩)::(1001,⟨mapV Ao0_1,148,2,o0.fplaces.length,o0.fplaces.flatMap (mcell (fun x : ByteArray=>Value.string x) (fun x : Int=>Value.int .i64 x))⟩)::R,φ⟩ (fun x : Option Addr×Nat=>.tuple #[]) (fun x=>r.fb.length ≤ x.2) (fun x=>⟨w0,M,(1000,go0,.cells #[.slice x.1 r.fb.length x.2,mapV Ao0_1] 150 (0,0))::H,(2000,⟨.slice x.1 r.fb.length x.2,5,1,r.fb.length,r.fb.flatMap (fun x : Int=>[Value.int .u8 x])⟩)::(1001,⟨mapV Ao0_1,148,2,o0.fplaces.length,o0.fplaces.flatMap (mcell (fun x : ByteArray=>Value.string x) (fun x : Int=>Value.int .i64 x))⟩)::R,φ⟩):=by
 unfold m_pack_Packer_Long at hm
 refine cn_intro (fn:=Try.f105) (N:=18) Try.func105 rfl Try.ntmps105 rfl<|c_region<|g_v rfl r_move<|g_v rfl r_move<|g_v rfl (r_shr (n:=16777216) rfl rfl (by decide) (by decide) (by decide))<|g_v rfl (r_conv Try.underlying40 Try.underlying5 rfl rfl)<|g_v rfl r_move<|g_v rfl (r_shr (n:=65536) rfl rfl (by decide) (by decide) (by decide))<|g_v rfl (r_conv Try.underlying40 Try.underlying5 rfl rfl)<|g_v rfl r_move ?_
 refine g_v rfl (r_shr (n:=256) rfl rfl (by decide) (by decide) (by decide))<|g_v rfl (r_conv Try.underlying40 Try.underlying5 rfl rfl)<|g_v rfl r_move<|g_v rfl (r_conv Try.underlying40 Try.underlying5 rfl rfl) ?_
 refine g_e rfl (e_lit (tag:=100160) (l:=[IntKind.u8.wrap (p1 / 16777216),IntKind.u8.wrap (p1 / 65536),IntKind.u8.wrap (p1 / 256),IntKind.u8.wrap p1]) (enc:=(fun x : Int=>[Value.int .u8 x])) (sz:=1) rfl Try.underlying66 (lit5_33 _ _ _ _) rfl rfl (fun _=>rfl)) (fun g1 _=>?_)
 replace hm:=bnd hm
 obtain ⟨x2,hx3,hm⟩:=hm
 refine g_cn ⟨w0,M,(1000,go0,.cells #[.slice Ao0_0 o0.fb.length co0_0,mapV Ao0_1] 150 (0,0))::H,(1000,⟨.slice Ao0_0 o0.fb.length co0_0,5,1,o0.fb.length,o0.fb.flatMap (fun x : Int=>[Value.int .u8 x])⟩)::(1001,⟨mapV Ao0_1,148,2,o0.fplaces.length,o0.fplaces.flatMap (mcell (fun x : ByteArray=>Value.string x) (fun x : Int=>Value.int .i64 x))⟩)::(100160,⟨.slice (some ⟨g1,0,none⟩) [IntKind.u8.wrap (p1 / 16777216),IntKind.u8.wrap (p1 / 65536),IntKind.u8.wrap (p1 / 256),IntKind.u8.wrap p1].length 4,5,1,[IntKind.u8.wrap (p1 / 16777216),IntKind.u8.wrap (p1 / 65536),IntKind.u8.wrap (p1 / 256),IntKind.u8.wrap p1].length,[IntKind.u8.wrap (p1 / 16777216),IntKind.u8.wrap (p1 / 65536),IntKind.u8.wrap (p1 / 256),IntKind.u8.wrap p1].flatMap (fun x : Int=>[Value.int .u8 x])⟩)::R,φ⟩ (fun W h=>(ok_front (t:=1000) (t':=1000) (ok_frontR (t:=1000) (t':=1000) (ok_frontR (t:=1001) (t':=1001) h rfl) rfl) rfl)) Try.call102 rfl rfl (c_pack_Packer_put [IntKind.u8.wrap (p1 / 16777216),IntKind.u8.wrap (p1 / 65536),IntKind.u8.wrap (p1 / 256),IntKind.u8.wrap p1] (some ⟨g1,0,none⟩) 4 (Nat.le_refl _) (fun W hS=>rowCl (tag:=100160) rfl W hS) go0 o0 Ao0_0 co0_0 hco0_0 Ao0_1 co0_1 trivial _ hx3) (fun ⟨A4,c5⟩ hc5=>?_)
 refine g_sta _ (fun W h=>(ok_frontR (t:=2000) (t':=1000) (ok_frontR (t:=1001) (t':=1001) (ok_front (t:=1000) (t':=1000) h rfl) rfl) rfl))<|g_nil ?_
 cases hm
 refine d_sta _ (fun W h=>ok_frontR (t:=1000) (t':=2000) h rfl) ?_
 exact d_retC (A4,c5) Try.results105 (res_nil rfl) hc5 (fun W h=>(h.dropR (t:=100160) rfl).phi (fun W hφ=>hφ)) (.inl rfl)
noncomputable def m_pack_Packer_Len (o0 : Gpack_Packer) : Option Int:=
  some (o0.fb.length : Int)
theorem c_pack_Packer_Len {w0 : World} {M : Nat→Prop} {H : List (Nat×Nat×Obj)} {R : List (Nat×Row)} {φ : World→Prop} (go0 : Nat) (o0 : Gpack_Packer) (Ao0_0 : Option Addr) (co0_0 : Nat) (hco0_0 : o0.fb.length ≤ co0_0) (Ao0_1 : Option Addr) (co0_1 : Nat) (hco0_1 : True) (r : Int) (hm : m_pack_Packer_Len o0 = some r) :
    Cn Try.prog 106 #[.pointer (some ⟨go0,0,none⟩)] ⟨w0,M,(1000,go0,.cells #[.slice Ao0_0 o0.fb.length co0_0,mapV Ao0_1] 150 (0,0))::H,(1000,⟨.slice Ao0_0 o0.fb.length co0_0,5,1,o0.fb.length,o0.fb.flatMap (fun x : Int=>[Value.int .u8 x])⟩)::(1001,⟨mapV Ao0_1,148,2,o0.fplaces.length,o0.fplaces.flatMap (mcell (fun x : ByteArray=>Value.string x) (fun x : Int=>Value.int .i64 x))⟩)::R,φ⟩ (fun x : Unit=>.int .i64 r) (fun x=>True) (fun x=>⟨w0,M,(1000,go0,.cells #[.slice Ao0_0 o0.fb.length co0_0,mapV Ao0_1] 150 (0,0))::H,(1000,⟨.slice Ao0_0 o0.fb.length co0_0,5,1,o0.fb.length,o0.fb.flatMap (fun x : Int=>[Value.int .u8 x])⟩)::(1001,⟨mapV Ao0_1,148,2,o0.fplaces.length,o0.fplaces.flatMap (mcell (fun x : ByteArray=>Value.string x) (fun x : Int=>Value.int .i64 x))⟩)::R,φ⟩):=by
 unfold m_pack_Packer_Len at hm
 refine cn_intro (fn:=Try.f106) (N:=10) Try.func106 rfl Try.ntmps106 rfl<|c_seq<|c_region<|g_v rfl r_assign<|g_nil<|d_then<|c_seq<|c_seq<|c_region<|g_v rfl r_move ?_
 refine g_v rfl (r_eqlP1 Try.underlying130 rfl rfl)<|g_nil<|d_then<|c_cond0 rfl rfl<|c_skip<|d_then<|c_seq<|c_region<|g_v rfl r_move<|g_v rfl (r_nilck rfl) ?_
 refine g_v rfl (r_field (n:=0) Try.underlying150 rfl Try.sizeOf66 rfl rfl)<|g_v rfl (r_load (tag:=1000) rfl rfl rfl Try.isAgg66)<|g_v rfl (r_lenL Try.underlying66 rfl)<|g_v rfl r_assign<|g_nil<|d_then ?_
 refine c_flat [(2,.int .i64 (o0.fb.length : Int))] ⟨rfl,trivial⟩ (fun u=>?_)
 refine c_sta ⟨w0,M,(1000,go0,.cells #[.slice Ao0_0 o0.fb.length co0_0,mapV Ao0_1] 150 (0,0))::H,(1000,⟨.slice Ao0_0 o0.fb.length co0_0,5,1,o0.fb.length,o0.fb.flatMap (fun x : Int=>[Value.int .u8 x])⟩)::(1001,⟨mapV Ao0_1,148,2,o0.fplaces.length,o0.fplaces.flatMap (mcell (fun x : ByteArray=>Value.string x) (fun x : Int=>Value.int .i64 x))⟩)::R,φ⟩ (fun _ h=>h)<|c_ret ?_
 cases hm
 exact d_retC () Try.results106 (res_tmp (res_nil rfl)) trivial (fun W h=>h.phi (fun W hφ=>hφ)) (.inr rfl)
noncomputable def m_pack_Packer_Patch (p1 : Int) (p2 : Int) (o0 : Gpack_Packer) : Option (Int×Gpack_Packer):=
  if p1 < 0 then
    some (1,o0)
  else
    if w64 ((o0.fb.length : Int) - 2) < p1 then
      some (1,o0)
    else
      (at_ o0.fb p1).bind fun x31=>
      (setAt o0.fb p1 (IntKind.u8.wrap (p2 / 256))).bind fun l35=>
      (at_ l35 (w64 (p1 + 1))).bind fun x38=>
      (setAt l35 (w64 (p1 + 1)) (IntKind.u8.wrap p2)).bind fun l42=>
      some (0,(⟨l42,o0.fplaces⟩ : Gpack_Packer))
theorem c_pack_Packer_Patch {w0 : World} {M : Nat→Prop} {H : List (Nat×Nat×Obj)} {R : List (Nat×Row)} {φ : World→Prop} (p1 : Int) (p2 : Int) (go0 : Nat) (o0 : Gpack_Packer) (Ao0_0 : Option Addr) (co0_0 : Nat) (hco0_0 : o0.fb.length ≤ co0_0) (Ao0_1 : Option Addr) (co0_1 : Nat) (hco0_1 : True) (r : Int×Gpack_Packer) (hm : m_pack_Packer_Patch p1 p2 o0 = some r) :
    Cn Try.prog 107 #[.pointer (some ⟨go0,0,none⟩),.int .i64 p1,.int .u16 p2] ⟨w0,M,(1000,go0,.cells #[.slice Ao0_0 o0.fb.length co0_0,mapV Ao0_1] 150 (0,0))::H,(1000,⟨.slice Ao0_0 o0.fb.length co0_0,5,1,o0.fb.length,o0.fb.flatMap (fun x : Int=>[Value.int .u8 x])⟩)::(1001,⟨mapV Ao0_1,148,2,o0.fplaces.length,o0.fplaces.flatMap (mcell (fun x : ByteArray=>Value.string x) (fun x : Int=>Value.int .i64 x))⟩)::R,φ⟩ (fun x : Option Addr×Nat=>.int .i64 r.1) (fun x=>r.2.fb.length ≤ x.2) (fun x=>⟨w0,M,(1000,go0,.cells #[.slice x.1 r.2.fb.length x.2,mapV Ao0_1] 150 (0,0))::H,(2000,⟨.slice x.1 r.2.fb.length x.2,5,1,r.2.fb.length,r.2.fb.flatMap (fun x : Int=>[Value.int .u8 x])⟩)::(1001,⟨mapV Ao0_1,148,2,o0.fplaces.length,o0.fplaces.flatMap (mcell (fun x : ByteArray=>Value.string x) (fun x : Int=>Value.int .i64 x))⟩)::R,φ⟩):=by
 unfold m_pack_Packer_Patch at hm
 refine cn_intro (fn:=Try.f107) (N:=41) Try.func107 rfl Try.ntmps107 rfl<|c_seq<|c_region<|g_v rfl r_assign<|g_nil<|d_then<|c_seq<|c_seq<|c_region<|g_v rfl r_move ?_
 refine g_v rfl (r_eqlP1 Try.underlying130 rfl rfl)<|g_v rfl r_move<|g_do rfl rfl rfl rfl rfl rfl<|g_v rfl r_move<|g_do rfl rfl rfl rfl rfl rfl<|g_v rfl (r_lss rfl rfl)<|g_v rfl (r_pick0 rfl rfl)<|g_v rfl r_move<|g_sta ⟨w0,M,(1000,go0,.cells #[.slice Ao0_0 o0.fb.length co0_0,mapV Ao0_1] 150 (0,0))::H,(1000,⟨.slice Ao0_0 o0.fb.length co0_0,5,1,o0.fb.length,o0.fb.flatMap (fun x : Int=>[Value.int .u8 x])⟩)::(1001,⟨mapV Ao0_1,148,2,o0.fplaces.length,o0.fplaces.flatMap (mcell (fun x : ByteArray=>Value.string x) (fun x : Int=>Value.int .i64 x))⟩)::R,φ⟩ (fun _ h=>h) ?_
 refine g_if rfl rfl rfl rfl rfl (fun h1=>?_) (fun h1=>?_)
 ·
  replace hm:=ite_f hm (of_decide_eq_false h1)
  refine g_v rfl r_move<|g_do rfl rfl rfl rfl rfl h1<|g_v rfl r_move<|g_do rfl rfl rfl rfl rfl h1<|g_v rfl (r_nilck rfl)<|g_do rfl rfl rfl rfl rfl h1<|g_v rfl (r_field (n:=0) Try.underlying150 rfl Try.sizeOf66 rfl rfl)<|g_do rfl rfl rfl rfl rfl h1<|g_v rfl (r_load (tag:=1000) rfl rfl rfl Try.isAgg66)<|g_do rfl rfl rfl rfl rfl h1 ?_
  refine g_v rfl (r_lenL Try.underlying66 rfl)<|g_do rfl rfl rfl rfl rfl h1<|g_v rfl (r_sub rfl rfl rfl)<|g_do rfl rfl rfl rfl rfl h1<|g_v rfl (r_gtr rfl rfl)<|g_v rfl (r_pick0 rfl h1)<|g_nil<|d_then ?_
  refine c_flat [(0,.pointer (some ⟨go0,0,none⟩)),(1,.int .i64 p1),(2,.int .u16 p2),(22,.bool (decide (w64 ((o0.fb.length : Int) - 2) < p1)))] ⟨rfl,rfl,rfl,rfl,trivial⟩ (fun u=>?_)
  refine c_cond rfl (fun h2=>?_) (fun h2=>?_)
  ·
   replace hm:=ite_t hm (of_decide_eq_true h2)
   refine c_seq<|c_region<|g_v rfl r_assign<|g_nil<|d_then<|c_ret<|d_ret_then ?_
   cases hm
   refine d_sta _ (fun W h=>ok_frontR (t:=1000) (t':=2000) h rfl) ?_
   exact d_retC (Ao0_0,co0_0) Try.results107 (res_tmp (res_nil rfl)) hco0_0 (fun W h=>h.phi (fun W hφ=>hφ)) (.inr rfl)
  replace hm:=ite_f hm (of_decide_eq_false h2)
  refine c_skip<|d_then<|c_seq<|ga_start (n:=20) ⟨w0,M,(1000,go0,.cells #[.slice Ao0_0 o0.fb.length co0_0,mapV Ao0_1] 150 (0,0))::H,(1001,⟨mapV Ao0_1,148,2,o0.fplaces.length,o0.fplaces.flatMap (mcell (fun x : ByteArray=>Value.string x) (fun x : Int=>Value.int .i64 x))⟩)::R,φ⟩ [] #[false,false,false,false,false,false,false,false,false,false,false,false,false,false,false,false,false,false,false,false] (fun W h=>(h.dropR (t:=1000) rfl).phi (fun W hφ=>hφ)) mixed rfl rfl<|ga_v (i:=0) (bz 20 1) rfl (by kernel_rfl) (fun _ _ _ _ h=>h) rfl (r_move)<|ga_v (i:=1) (bz 20 3) rfl (by kernel_rfl) (fun _ _ _ _ h=>h) rfl (r_nilck rfl)<|ga_v (i:=2) (bz 20 7) rfl (by kernel_rfl) (fun _ _ _ _ h=>h) rfl (r_field (n:=0) Try.underlying150 rfl Try.sizeOf66 rfl rfl)<|ga_v (i:=3) (bz 20 15) rfl (by kernel_rfl) (fun _ _ _ _ h=>h) rfl (r_load (tag:=1000) rfl rfl rfl Try.isAgg66)<|ga_v (i:=4) (bz 20 31) rfl (by kernel_rfl) (fun _ _ _ _ h=>h) rfl (r_move)<|ga_v (i:=5) (bz 20 63) rfl (by kernel_rfl) (fun _ _ _ _ h=>h) rfl (r_move) ?_
  refine ga_v (i:=6) (bz 20 127) rfl (by kernel_rfl) (fun _ _ _ _ h=>h) rfl (r_nilck rfl)<|ga_v (i:=7) (bz 20 255) rfl (by kernel_rfl) (fun _ _ _ _ h=>h) rfl (r_field (n:=0) Try.underlying150 rfl Try.sizeOf66 rfl rfl)<|ga_v (i:=8) (bz 20 511) rfl (by kernel_rfl) (fun _ _ _ _ h=>h) rfl (r_load (tag:=1000) rfl rfl rfl Try.isAgg66)<|ga_v (i:=9) (bz 20 1023) rfl (by kernel_rfl) (fun _ _ _ _ h=>h) rfl (r_move)<|ga_v (i:=10) (bz 20 2047) rfl (by kernel_rfl) (fun _ _ _ _ h=>h) rfl (r_add rfl rfl rfl)<|ga_v (i:=11) (bz 20 4095) rfl (by kernel_rfl) (fun _ _ _ _ h=>h) rfl (r_move)<|ga_v (i:=12) (bz 20 8191) rfl (by kernel_rfl) (fun _ _ _ _ h=>h) rfl (r_shr (n:=256) rfl rfl (by decide) (by decide) (by decide))<|ga_v (i:=13) (bz 20 16383) rfl (by kernel_rfl) (fun _ _ _ _ h=>h) rfl (r_conv Try.underlying22 Try.underlying5 rfl rfl)<|ga_v (i:=14) (bz 20 32767) rfl (by kernel_rfl) (fun _ _ _ _ h=>h) rfl (r_move)<|ga_v (i:=15) (bz 20 65535) rfl (by kernel_rfl) (fun _ _ _ _ h=>h) rfl (r_conv Try.underlying22 Try.underlying5 rfl rfl) ?_
  replace hm:=bnd hm
  obtain ⟨x31,hx31,hm⟩:=hm
  refine ga_know _ (fun W hS=>cl_at (p:=(Sta.ok ⟨w0,M,(1000,go0,.cells #[.slice Ao0_0 o0.fb.length co0_0,mapV Ao0_1] 150 (0,0))::H,(1000,⟨.slice Ao0_0 o0.fb.length co0_0,5,1,o0.fb.length,o0.fb.flatMap (fun x : Int=>[Value.int .u8 x])⟩)::(1001,⟨mapV Ao0_1,148,2,o0.fplaces.length,o0.fplaces.flatMap (mcell (fun x : ByteArray=>Value.string x) (fun x : Int=>Value.int .i64 x))⟩)::R,φ⟩)) (sz:=1) (fun _=>rfl) (by decide) hS (fun W hS=>rowCl (S:=⟨w0,M,(1000,go0,.cells #[.slice Ao0_0 o0.fb.length co0_0,mapV Ao0_1] 150 (0,0))::H,(1000,⟨.slice Ao0_0 o0.fb.length co0_0,5,1,o0.fb.length,o0.fb.flatMap (fun x : Int=>[Value.int .u8 x])⟩)::(1001,⟨mapV Ao0_1,148,2,o0.fplaces.length,o0.fplaces.flatMap (mcell (fun x : ByteArray=>Value.string x) (fun x : Int=>Value.int .i64 x))⟩)::R,φ⟩) (tag:=1000) rfl W hS) hx31) ?_
  rintro ⟨ad32,hA34,f33⟩
  refine ga_r (i:=16) (bz 20 131071) rfl (by kernel_rfl) (by decide) rfl (r_ix Try.underlying66 Try.sizeOf5 rfl hA34 rfl hx31) ?_
  replace hm:=bnd hm
  obtain ⟨l35,hl35,hm⟩:=hm
  refine ga_s (i:=17) (bz 20 262143) rfl (by kernel_rfl) (by decide) (e_stR (tag:=1000) (enc:=(fun x : Int=>[Value.int .u8 x])) (l:=o0.fb) (off:=0) (vs:=[.int .u8 (IntKind.u8.wrap (p2 / 256))]) (add0 rfl) hA34 rfl rfl hx31 hl35 rfl (Nat.le_of_ble_eq_true rfl) (fun _=>rfl) rfl rfl Try.sizeOf5) (fun W h=>(h.dropR (t:=1000) rfl).phi (fun W hφ=>hφ)) ?_
  rw [show o0.fb.length = l35.length from (setAt_lenE hl35).symm]
  have hv37:=setAt_at hl35
  have f36:=cl_at2 (p:=(Sta.ok ⟨w0,M,(1000,go0,.cells #[.slice Ao0_0 l35.length co0_0,mapV Ao0_1] 150 (0,0))::H,(1000,⟨.slice Ao0_0 l35.length co0_0,5,1,l35.length,l35.flatMap (fun x : Int=>[Value.int .u8 x])⟩)::(1001,⟨mapV Ao0_1,148,2,o0.fplaces.length,o0.fplaces.flatMap (mcell (fun x : ByteArray=>Value.string x) (fun x : Int=>Value.int .i64 x))⟩)::R,φ⟩)) (enc:=(fun x : Int=>[Value.int .u8 x])) (sz:=1) (fun _=>rfl) hA34 (fun W hS=>rowCl (S:=⟨w0,M,(1000,go0,.cells #[.slice Ao0_0 l35.length co0_0,mapV Ao0_1] 150 (0,0))::H,(1000,⟨.slice Ao0_0 l35.length co0_0,5,1,l35.length,l35.flatMap (fun x : Int=>[Value.int .u8 x])⟩)::(1001,⟨mapV Ao0_1,148,2,o0.fplaces.length,o0.fplaces.flatMap (mcell (fun x : ByteArray=>Value.string x) (fun x : Int=>Value.int .i64 x))⟩)::R,φ⟩) (tag:=1000) rfl W hS) hv37
  replace hm:=bnd hm
  obtain ⟨x38,hx38,hm⟩:=hm
  refine ga_know _ (fun W hS=>cl_at (p:=(Sta.ok ⟨w0,M,(1000,go0,.cells #[.slice Ao0_0 l35.length co0_0,mapV Ao0_1] 150 (0,0))::H,(1000,⟨.slice Ao0_0 l35.length co0_0,5,1,l35.length,l35.flatMap (fun x : Int=>[Value.int .u8 x])⟩)::(1001,⟨mapV Ao0_1,148,2,o0.fplaces.length,o0.fplaces.flatMap (mcell (fun x : ByteArray=>Value.string x) (fun x : Int=>Value.int .i64 x))⟩)::R,φ⟩)) (sz:=1) (fun _=>rfl) (by decide) hS (fun W hS=>rowCl (S:=⟨w0,M,(1000,go0,.cells #[.slice Ao0_0 l35.length co0_0,mapV Ao0_1] 150 (0,0))::H,(1000,⟨.slice Ao0_0 l35.length co0_0,5,1,l35.length,l35.flatMap (fun x : Int=>[Value.int .u8 x])⟩)::(1001,⟨mapV Ao0_1,148,2,o0.fplaces.length,o0.fplaces.flatMap (mcell (fun x : ByteArray=>Value.string x) (fun x : Int=>Value.int .i64 x))⟩)::R,φ⟩) (tag:=1000) rfl W hS) hx38) ?_
  rintro ⟨ad39,hA41,f40⟩
  refine ga_r (i:=18) (bz 20 524287) rfl (by kernel_rfl) (by decide) rfl (r_ix Try.underlying66 Try.sizeOf5 rfl hA41 rfl hx38) ?_
  replace hm:=bnd hm
  obtain ⟨l42,hl42,hm⟩:=hm
  refine ga_s (i:=19) (bz 20 1048575) rfl (by kernel_rfl) (by decide) (e_stR (tag:=1000) (enc:=(fun x : Int=>[Value.int .u8 x])) (l:=l35) (off:=0) (vs:=[.int .u8 (IntKind.u8.wrap p2)]) (add0 rfl) hA41 rfl rfl hx38 hl42 rfl (Nat.le_of_ble_eq_true rfl) (fun _=>rfl) rfl rfl Try.sizeOf5) (fun W h=>(h.dropR (t:=1000) rfl).phi (fun W hφ=>hφ)) ?_
  rw [show l35.length = l42.length from (setAt_lenE hl42).symm]
  have hv44:=setAt_at hl42
  have f43:=cl_at2 (p:=(Sta.ok ⟨w0,M,(1000,go0,.cells #[.slice Ao0_0 l42.length co0_0,mapV Ao0_1] 150 (0,0))::H,(1000,⟨.slice Ao0_0 l42.length co0_0,5,1,l42.length,l42.flatMap (fun x : Int=>[Value.int .u8 x])⟩)::(1001,⟨mapV Ao0_1,148,2,o0.fplaces.length,o0.fplaces.flatMap (mcell (fun x : ByteArray=>Value.string x) (fun x : Int=>Value.int .i64 x))⟩)::R,φ⟩)) (enc:=(fun x : Int=>[Value.int .u8 x])) (sz:=1) (fun _=>rfl) hA41 (fun W hS=>rowCl (S:=⟨w0,M,(1000,go0,.cells #[.slice Ao0_0 l42.length co0_0,mapV Ao0_1] 150 (0,0))::H,(1000,⟨.slice Ao0_0 l42.length co0_0,5,1,l42.length,l42.flatMap (fun x : Int=>[Value.int .u8 x])⟩)::(1001,⟨mapV Ao0_1,148,2,o0.fplaces.length,o0.fplaces.flatMap (mcell (fun x : ByteArray=>Value.string x) (fun x : Int=>Value.int .i64 x))⟩)::R,φ⟩) (tag:=1000) rfl W hS) hv44
  refine ga_done (by kernel_rfl)<|d_then ?_
  refine c_flat [] trivial (fun u=>?_)
  refine c_sta ⟨w0,M,(1000,go0,.cells #[.slice Ao0_0 l42.length co0_0,mapV Ao0_1] 150 (0,0))::H,(1000,⟨.slice Ao0_0 l42.length co0_0,5,1,l42.length,l42.flatMap (fun x : Int=>[Value.int .u8 x])⟩)::(1001,⟨mapV Ao0_1,148,2,o0.fplaces.length,o0.fplaces.flatMap (mcell (fun x : ByteArray=>Value.string x) (fun x : Int=>Value.int .i64 x))⟩)::R,φ⟩ (fun _ h=>h)<|c_seq<|c_region<|g_v rfl r_assign<|g_nil<|d_then<|c_ret ?_
  cases hm
  refine d_sta _ (fun W h=>ok_frontR (t:=1000) (t':=2000) h rfl) ?_
  exact d_retC (Ao0_0,co0_0) Try.results107 (res_tmp (res_nil rfl)) (setAt_len (setAt_len hco0_0 hl35) hl42) (fun W h=>h.phi (fun W hφ=>hφ)) (.inr rfl)
 replace hm:=ite_t hm (of_decide_eq_true h1)
 iterate 7 refine g_no rfl rfl rfl rfl rfl h1 ?_
 refine g_v rfl (r_pick1 rfl h1)<|g_nil<|d_then ?_
 refine c_flat [(0,.pointer (some ⟨go0,0,none⟩)),(1,.int .i64 p1),(2,.int .u16 p2),(22,.bool true)] ⟨rfl,rfl,rfl,rfl,trivial⟩ (fun u=>?_)
 refine c_cond1 rfl rfl<|c_seq<|c_region<|g_v rfl r_assign<|g_nil<|d_then<|c_ret<|d_ret_then ?_
 cases hm
 refine d_sta _ (fun W h=>ok_frontR (t:=1000) (t':=2000) h rfl) ?_
 exact d_retC (Ao0_0,co0_0) Try.results107 (res_tmp (res_nil rfl)) hco0_0 (fun W h=>h.phi (fun W hφ=>hφ)) (.inr rfl)
noncomputable def m_record_Put_j1 (x30 : Int) (l123 : List Int) (l126 : List (ByteArray×Int)) : Option (Int×Gpack_Packer):=
  (m_pack_Packer_Len (⟨l123,l126⟩ : Gpack_Packer)).bind fun x129=>
  (m_pack_Packer_Patch x30 (IntKind.u16.wrap (w64 ((w64 (x129 - x30)) - 2))) (⟨l123,l126⟩ : Gpack_Packer)).bind fun (z137 : Int×Gpack_Packer)=>
  some (z137.1,(⟨z137.2.fb,l126⟩ : Gpack_Packer))
noncomputable def m_record_Put_j2 (x139 : Grecord_parts) (x30 : Int) (l205 : List Int) (l208 : List (ByteArray×Int)) : Option (Int×Gpack_Packer):=
  (m_pack_Packer_Raw x139.fbehind (⟨l205,l208⟩ : Gpack_Packer)).bind fun x211=>
  m_record_Put_j1 x30 x211.fb l208
noncomputable def m_record_Put_s3 (x139 : Grecord_parts) (l238 : List Int) (l241 : List (ByteArray×Int)) (i244 : Int) : Option (((List Int)×(List (ByteArray×Int))×Int) ⊕ ((List Int)×(List (ByteArray×Int)))):=
  if i244 < (x139.fnames.length : Int) then
    (at_ x139.fnames i244).bind fun x269=>
    (m_pack_Packer_Name x269 true (⟨l238,l241⟩ : Gpack_Packer)).bind fun (z282 : Int×Gpack_Packer)=>
    some (.inl (z282.2.fb,z282.2.fplaces,w64 (i244 + 1)))
  else
    some (.inr (l238,l241))
noncomputable def m_record_Put (p1 : GRR) (o0 : Gpack_Packer) : Option (Int×Gpack_Packer):=
  (m_record_Check p1).bind fun x2=>
  if x2 ≠ 0 then
    some (x2,o0)
  else
    (m_pack_Packer_Name p1.fName true o0).bind fun (z14 : Int×Gpack_Packer)=>
    (m_pack_Packer_Word p1.fType z14.2).bind fun x15=>
    (m_pack_Packer_Word p1.fClass (⟨x15.fb,z14.2.fplaces⟩ : Gpack_Packer)).bind fun x20=>
    (m_pack_Packer_Long p1.fTTL (⟨x20.fb,z14.2.fplaces⟩ : Gpack_Packer)).bind fun x25=>
    (m_pack_Packer_Len (⟨x25.fb,z14.2.fplaces⟩ : Gpack_Packer)).bind fun x30=>
    (m_pack_Packer_Word 0 (⟨x25.fb,z14.2.fplaces⟩ : Gpack_Packer)).bind fun x32=>
    (m_record_shapeOf p1.fType).bind fun x37=>
    if 0 < x37.fnames then
      (m_record_shape_cut x37 p1.fData).bind fun (z146 : Grecord_parts×Bool)=>
      (m_pack_Packer_Raw z146.1.fahead (⟨x32.fb,z14.2.fplaces⟩ : Gpack_Packer)).bind fun x148=>
      (loop (fun s=>m_record_Put_s3 z146.1 s.1 s.2.1 s.2.2) (x148.fb,z14.2.fplaces,0)).bind fun e=>m_record_Put_j2 z146.1 x30 e.1 e.2
    else
      (m_pack_Packer_Raw p1.fData (⟨x32.fb,z14.2.fplaces⟩ : Gpack_Packer)).bind fun x284=>
      m_record_Put_j1 x30 x284.fb z14.2.fplaces
theorem c_record_Put {w0 : World} {M : Nat→Prop} {H : List (Nat×Nat×Obj)} {R : List (Nat×Row)} {φ : World→Prop} (p1 : GRR) (go0 : Nat) (o0 : Gpack_Packer) (Ao0_0 : Option Addr) (co0_0 : Nat) (hco0_0 : o0.fb.length ≤ co0_0) (Ao0_1 : Option Addr) (co0_1 : Nat) (hco0_1 : True) (r : Int×Gpack_Packer) (hm : m_record_Put p1 o0 = some r) :
    Cn Try.prog 95 #[.pointer (some ⟨go0,0,none⟩),.agg #[.string p1.fName,.int .u16 p1.fType,.int .u16 p1.fClass,.int .u32 p1.fTTL,.string p1.fData]] ⟨w0,M,(1000,go0,.cells #[.slice Ao0_0 o0.fb.length co0_0,mapV Ao0_1] 150 (0,0))::H,(1000,⟨.slice Ao0_0 o0.fb.length co0_0,5,1,o0.fb.length,o0.fb.flatMap (fun x : Int=>[Value.int .u8 x])⟩)::(1001,⟨mapV Ao0_1,148,2,o0.fplaces.length,o0.fplaces.flatMap (mcell (fun x : ByteArray=>Value.string x) (fun x : Int=>Value.int .i64 x))⟩)::R,φ⟩ (fun x : Option Addr×Nat×Option Addr×Nat=>.int .i64 r.1) (fun x=>r.2.fb.length ≤ x.2.1∧True) (fun x=>⟨w0,M,(1000,go0,.cells #[.slice x.1 r.2.fb.length x.2.1,mapV x.2.2.1] 150 (0,0))::H,(2000,⟨.slice x.1 r.2.fb.length x.2.1,5,1,r.2.fb.length,r.2.fb.flatMap (fun x : Int=>[Value.int .u8 x])⟩)::(2001,⟨mapV x.2.2.1,148,2,r.2.fplaces.length,r.2.fplaces.flatMap (mcell (fun x : ByteArray=>Value.string x) (fun x : Int=>Value.int .i64 x))⟩)::R,φ⟩):=by
 unfold m_record_Put at hm
 refine cn_intro (fn:=Try.f95) (N:=84) Try.func95 rfl Try.ntmps95 rfl<|c_seq<|c_region ?_
 refine g_e rfl (e_box 100030 rfl) (fun g1 _=>?_)
 refine g_v rfl r_assign<|g_nil<|d_then<|c_seq<|c_seq<|c_region<|g_v rfl r_move<|g_v rfl (r_eqlP1 Try.underlying130 rfl rfl)<|g_nil<|d_then ?_
 refine c_cond0 rfl rfl<|c_skip<|d_then<|c_seq<|c_region<|g_v rfl (r_loadA (tag:=100030) rfl rfl Try.isAgg42 Try.sizeOf42 rfl rfl) ?_
 replace hm:=bnd hm
 obtain ⟨x2,hx3,hm⟩:=hm
 refine g_cn ⟨w0,M,_,_,φ⟩ (fun _ h=>h) Try.call34 rfl rfl (c_record_Check p1 _ hx3) (fun _ _=>?_)
 refine g_v rfl r_assign<|g_nil<|d_then<|c_seq<|c_seq<|c_region<|g_v rfl r_move<|g_v rfl (r_neq rfl rfl)<|g_nil<|d_then ?_
 refine c_flat [(0,.pointer (some ⟨go0,0,none⟩)),(3,.pointer (some ⟨g1,0,none⟩)),(5,.int .i64 x2),(17,.bool (decide (x2 ≠ 0)))] ⟨rfl,rfl,rfl,rfl,trivial⟩ (fun u=>?_)
 refine c_sta ⟨w0,M,(100030,g1,.cells #[.string p1.fName,.int .u16 p1.fType,.int .u16 p1.fClass,.int .u32 p1.fTTL,.string p1.fData] 42 (0,0))::(1000,go0,.cells #[.slice Ao0_0 o0.fb.length co0_0,mapV Ao0_1] 150 (0,0))::H,(1000,⟨.slice Ao0_0 o0.fb.length co0_0,5,1,o0.fb.length,o0.fb.flatMap (fun x : Int=>[Value.int .u8 x])⟩)::(1001,⟨mapV Ao0_1,148,2,o0.fplaces.length,o0.fplaces.flatMap (mcell (fun x : ByteArray=>Value.string x) (fun x : Int=>Value.int .i64 x))⟩)::R,φ⟩ (fun _ h=>h) ?_
 refine c_cond rfl (fun h4=>?_) (fun h4=>?_)
 ·
  replace hm:=ite_t hm (of_decide_eq_true h4)
  refine c_seq<|c_region<|g_v rfl r_move<|g_v rfl r_assign<|g_nil<|d_then<|c_ret<|d_ret_then ?_
  cases hm
  refine d_sta _ (fun W h=>ok_frontR (t:=1001) (t':=2001) h rfl)<|d_sta _ (fun W h=>ok_frontR (t:=1000) (t':=2000) h rfl) ?_
  exact d_retC (Ao0_0,co0_0,Ao0_1,co0_1) Try.results95 (res_tmp (res_nil rfl)) ⟨hco0_0,hco0_1⟩ (fun W h=>(h.dropH (t:=100030) rfl).phi (fun W hφ=>hφ)) (.inr rfl)
 replace hm:=ite_f hm (of_decide_eq_false h4)
 refine c_skip<|d_then<|c_seq<|c_region<|g_v rfl r_move<|g_v rfl (r_field (n:=0) Try.underlying42 rfl Try.sizeOf9 rfl rfl)<|g_v rfl (r_load (tag:=100030) rfl rfl rfl Try.isAgg9) ?_
 replace hm:=bnd hm
 obtain ⟨⟨x5,x6⟩,hx7,hm⟩:=hm
 refine g_cn ⟨w0,M,(1000,go0,.cells #[.slice Ao0_0 o0.fb.length co0_0,mapV Ao0_1] 150 (0,0))::(100030,g1,.cells #[.string p1.fName,.int .u16 p1.fType,.int .u16 p1.fClass,.int .u32 p1.fTTL,.string p1.fData] 42 (0,0))::H,(1000,⟨.slice Ao0_0 o0.fb.length co0_0,5,1,o0.fb.length,o0.fb.flatMap (fun x : Int=>[Value.int .u8 x])⟩)::(1001,⟨mapV Ao0_1,148,2,o0.fplaces.length,o0.fplaces.flatMap (mcell (fun x : ByteArray=>Value.string x) (fun x : Int=>Value.int .i64 x))⟩)::R,φ⟩ (fun W h=>(ok_front (t:=1000) (t':=1000) (ok_frontR (t:=1000) (t':=1000) (ok_frontR (t:=1001) (t':=1001) h rfl) rfl) rfl)) Try.call92 rfl rfl (c_pack_Packer_Name p1.fName true go0 o0 Ao0_0 co0_0 hco0_0 Ao0_1 co0_1 trivial _ hx7) (fun ⟨A8,c9,A11,c12⟩ ⟨hc9,hc12⟩=>?_)
 refine g_sta _ (fun W h=>(ok_frontR (t:=2000) (t':=1000) (ok_frontR (t:=2001) (t':=1001) (ok_front (t:=1000) (t':=1000) h rfl) rfl) rfl))<|g_nil<|d_then<|c_seq<|c_region<|g_v rfl r_move<|g_v rfl (r_field (n:=1) Try.underlying42 rfl Try.sizeOf22 rfl rfl)<|g_v rfl (r_load (tag:=100030) rfl rfl rfl Try.isAgg22) ?_
 replace hm:=bnd hm
 obtain ⟨x15,hx16,hm⟩:=hm
 refine g_cn ⟨w0,M,(1000,go0,.cells #[.slice A8 x6.fb.length c9,mapV A11] 150 (0,0))::(100030,g1,.cells #[.string p1.fName,.int .u16 p1.fType,.int .u16 p1.fClass,.int .u32 p1.fTTL,.string p1.fData] 42 (0,0))::H,(1000,⟨.slice A8 x6.fb.length c9,5,1,x6.fb.length,x6.fb.flatMap (fun x : Int=>[Value.int .u8 x])⟩)::(1001,⟨mapV A11,148,2,x6.fplaces.length,x6.fplaces.flatMap (mcell (fun x : ByteArray=>Value.string x) (fun x : Int=>Value.int .i64 x))⟩)::R,φ⟩ (fun W h=>(ok_front (t:=1000) (t':=1000) (ok_frontR (t:=1000) (t':=1000) (ok_frontR (t:=1001) (t':=1001) h rfl) rfl) rfl)) Try.call87 rfl rfl (c_pack_Packer_Word p1.fType go0 x6 A8 c9 hc9 A11 c12 trivial _ hx16) (fun ⟨A17,c18⟩ hc18=>?_)
 refine g_sta _ (fun W h=>(ok_frontR (t:=2000) (t':=1000) (ok_frontR (t:=1001) (t':=1001) (ok_front (t:=1000) (t':=1000) h rfl) rfl) rfl))<|g_nil<|d_then<|c_seq<|c_region<|g_v rfl r_move<|g_v rfl (r_field (n:=2) Try.underlying42 rfl Try.sizeOf22 rfl rfl)<|g_v rfl (r_load (tag:=100030) rfl rfl rfl Try.isAgg22) ?_
 replace hm:=bnd hm
 obtain ⟨x20,hx21,hm⟩:=hm
 refine g_cn ⟨w0,M,(1000,go0,.cells #[.slice A17 x15.fb.length c18,mapV A11] 150 (0,0))::(100030,g1,.cells #[.string p1.fName,.int .u16 p1.fType,.int .u16 p1.fClass,.int .u32 p1.fTTL,.string p1.fData] 42 (0,0))::H,(1000,⟨.slice A17 x15.fb.length c18,5,1,x15.fb.length,x15.fb.flatMap (fun x : Int=>[Value.int .u8 x])⟩)::(1001,⟨mapV A11,148,2,x6.fplaces.length,x6.fplaces.flatMap (mcell (fun x : ByteArray=>Value.string x) (fun x : Int=>Value.int .i64 x))⟩)::R,φ⟩ (fun W h=>(ok_front (t:=1000) (t':=1000) (ok_frontR (t:=1000) (t':=1000) (ok_frontR (t:=1001) (t':=1001) h rfl) rfl) rfl)) Try.call87 rfl rfl (c_pack_Packer_Word p1.fClass go0 (⟨x15.fb,x6.fplaces⟩ : Gpack_Packer) A17 c18 hc18 A11 c12 trivial _ hx21) (fun ⟨A22,c23⟩ hc23=>?_)
 refine g_sta _ (fun W h=>(ok_frontR (t:=2000) (t':=1000) (ok_frontR (t:=1001) (t':=1001) (ok_front (t:=1000) (t':=1000) h rfl) rfl) rfl))<|g_nil<|d_then ?_
 refine c_flat [(0,.pointer (some ⟨go0,0,none⟩)),(3,.pointer (some ⟨g1,0,none⟩))] ⟨rfl,rfl,trivial⟩ (fun u=>?_)
 refine c_sta ⟨w0,M,(1000,go0,.cells #[.slice A22 x20.fb.length c23,mapV A11] 150 (0,0))::(100030,g1,.cells #[.string p1.fName,.int .u16 p1.fType,.int .u16 p1.fClass,.int .u32 p1.fTTL,.string p1.fData] 42 (0,0))::H,(1000,⟨.slice A22 x20.fb.length c23,5,1,x20.fb.length,x20.fb.flatMap (fun x : Int=>[Value.int .u8 x])⟩)::(1001,⟨mapV A11,148,2,x6.fplaces.length,x6.fplaces.flatMap (mcell (fun x : ByteArray=>Value.string x) (fun x : Int=>Value.int .i64 x))⟩)::R,φ⟩ (fun _ h=>h)<|c_seq<|c_region<|g_v rfl r_move<|g_v rfl (r_field (n:=3) Try.underlying42 rfl Try.sizeOf40 rfl rfl)<|g_v rfl (r_load (tag:=100030) rfl rfl rfl Try.isAgg40) ?_
 replace hm:=bnd hm
 obtain ⟨x25,hx26,hm⟩:=hm
 refine g_cn ⟨w0,M,(1000,go0,.cells #[.slice A22 x20.fb.length c23,mapV A11] 150 (0,0))::(100030,g1,.cells #[.string p1.fName,.int .u16 p1.fType,.int .u16 p1.fClass,.int .u32 p1.fTTL,.string p1.fData] 42 (0,0))::H,(1000,⟨.slice A22 x20.fb.length c23,5,1,x20.fb.length,x20.fb.flatMap (fun x : Int=>[Value.int .u8 x])⟩)::(1001,⟨mapV A11,148,2,x6.fplaces.length,x6.fplaces.flatMap (mcell (fun x : ByteArray=>Value.string x) (fun x : Int=>Value.int .i64 x))⟩)::R,φ⟩ (fun W h=>(ok_front (t:=1000) (t':=1000) (ok_frontR (t:=1000) (t':=1000) (ok_frontR (t:=1001) (t':=1001) h rfl) rfl) rfl)) Try.call105 rfl rfl (c_pack_Packer_Long p1.fTTL go0 (⟨x20.fb,x6.fplaces⟩ : Gpack_Packer) A22 c23 hc23 A11 c12 trivial _ hx26) (fun ⟨A27,c28⟩ hc28=>?_)
 refine g_sta _ (fun W h=>(ok_frontR (t:=2000) (t':=1000) (ok_frontR (t:=1001) (t':=1001) (ok_front (t:=1000) (t':=1000) h rfl) rfl) rfl))<|g_nil<|d_then<|c_seq<|c_region<|g_v rfl r_move ?_
 replace hm:=bnd hm
 obtain ⟨x30,hx31,hm⟩:=hm
 refine g_cn ⟨w0,M,(1000,go0,.cells #[.slice A27 x25.fb.length c28,mapV A11] 150 (0,0))::(100030,g1,.cells #[.string p1.fName,.int .u16 p1.fType,.int .u16 p1.fClass,.int .u32 p1.fTTL,.string p1.fData] 42 (0,0))::H,(1000,⟨.slice A27 x25.fb.length c28,5,1,x25.fb.length,x25.fb.flatMap (fun x : Int=>[Value.int .u8 x])⟩)::(1001,⟨mapV A11,148,2,x6.fplaces.length,x6.fplaces.flatMap (mcell (fun x : ByteArray=>Value.string x) (fun x : Int=>Value.int .i64 x))⟩)::R,φ⟩ (fun W h=>(ok_front (t:=1000) (t':=1000) (ok_frontR (t:=1000) (t':=1000) (ok_frontR (t:=1001) (t':=1001) h rfl) rfl) rfl)) Try.call106 rfl rfl (c_pack_Packer_Len go0 (⟨x25.fb,x6.fplaces⟩ : Gpack_Packer) A27 c28 hc28 A11 c12 trivial _ hx31) (fun _ _=>?_)
 refine g_sta _ (fun W h=>(ok_frontR (t:=1000) (t':=1000) (ok_frontR (t:=1001) (t':=1001) (ok_front (t:=1000) (t':=1000) h rfl) rfl) rfl))<|g_v rfl r_assign<|g_nil<|d_then<|c_seq<|c_region<|g_v rfl r_move ?_
 replace hm:=bnd hm
 obtain ⟨x32,hx33,hm⟩:=hm
 refine g_cn ⟨w0,M,(1000,go0,.cells #[.slice A27 x25.fb.length c28,mapV A11] 150 (0,0))::(100030,g1,.cells #[.string p1.fName,.int .u16 p1.fType,.int .u16 p1.fClass,.int .u32 p1.fTTL,.string p1.fData] 42 (0,0))::H,(1000,⟨.slice A27 x25.fb.length c28,5,1,x25.fb.length,x25.fb.flatMap (fun x : Int=>[Value.int .u8 x])⟩)::(1001,⟨mapV A11,148,2,x6.fplaces.length,x6.fplaces.flatMap (mcell (fun x : ByteArray=>Value.string x) (fun x : Int=>Value.int .i64 x))⟩)::R,φ⟩ (fun W h=>(ok_front (t:=1000) (t':=1000) (ok_frontR (t:=1000) (t':=1000) (ok_frontR (t:=1001) (t':=1001) h rfl) rfl) rfl)) Try.call87 rfl rfl (c_pack_Packer_Word 0 go0 (⟨x25.fb,x6.fplaces⟩ : Gpack_Packer) A27 c28 hc28 A11 c12 trivial _ hx33) (fun ⟨A34,c35⟩ hc35=>?_)
 refine g_sta _ (fun W h=>(ok_frontR (t:=2000) (t':=1000) (ok_frontR (t:=1001) (t':=1001) (ok_front (t:=1000) (t':=1000) h rfl) rfl) rfl))<|g_nil<|d_then ?_
 refine c_flat [(0,.pointer (some ⟨go0,0,none⟩)),(3,.pointer (some ⟨g1,0,none⟩)),(6,.int .i64 x30)] ⟨rfl,rfl,rfl,trivial⟩ (fun u=>?_)
 refine c_sta ⟨w0,M,(1000,go0,.cells #[.slice A34 x32.fb.length c35,mapV A11] 150 (0,0))::(100030,g1,.cells #[.string p1.fName,.int .u16 p1.fType,.int .u16 p1.fClass,.int .u32 p1.fTTL,.string p1.fData] 42 (0,0))::H,(1000,⟨.slice A34 x32.fb.length c35,5,1,x32.fb.length,x32.fb.flatMap (fun x : Int=>[Value.int .u8 x])⟩)::(1001,⟨mapV A11,148,2,x6.fplaces.length,x6.fplaces.flatMap (mcell (fun x : ByteArray=>Value.string x) (fun x : Int=>Value.int .i64 x))⟩)::R,φ⟩ (fun _ h=>h)<|c_seq<|c_region<|g_v rfl (r_field (n:=1) Try.underlying42 rfl Try.sizeOf22 rfl rfl)<|g_v rfl (r_load (tag:=100030) rfl rfl rfl Try.isAgg22) ?_
 replace hm:=bnd hm
 obtain ⟨x37,hx38,hm⟩:=hm
 refine g_cn ⟨w0,M,_,_,φ⟩ (fun _ h=>h) Try.call57 rfl rfl (c_record_shapeOf p1.fType _ hx38) (fun _ _=>?_)
 refine g_e rfl (e_alloc 100070 Try.zeroValue97) (fun g39 _=>?_)
 refine g_storeL (tag:=100070) rfl rfl rfl rfl Try.sizeOf97 rfl rfl<|g_nil<|d_then<|c_seq ?_
 refine c_cut (ι:=(List Int)×(List (ByteArray×Int))×Option Addr×Nat×Option Addr×Nat) [0,6] (fun ⟨l123,l126,A124,c125,A127,c128⟩=>[]) (fun ⟨l123,l126,A124,c125,A127,c128⟩=>⟨w0,M,(1000,go0,.cells #[.slice A124 l123.length c125,mapV A127] 150 (0,0))::H,(1000,⟨.slice A124 l123.length c125,5,1,l123.length,l123.flatMap (fun x : Int=>[Value.int .u8 x])⟩)::(1001,⟨mapV A127,148,2,l126.length,l126.flatMap (mcell (fun x : ByteArray=>Value.string x) (fun x : Int=>Value.int .i64 x))⟩)::R,φ⟩) (fun ⟨l123,l126,A124,c125,A127,c128⟩=>m_record_Put_j1 x30 l123 l126 = some r∧l123.length ≤ c125∧True) ?_ (fun ⟨l123,l126,A124,c125,A127,c128⟩ u ⟨hm,hc125,hc128⟩=>?_)
 ·
  refine c_seq<|c_region<|g_v rfl (r_field (n:=1) Try.underlying97 rfl Try.sizeOf3 rfl rfl)<|g_v rfl (r_load (tag:=100070) rfl rfl rfl Try.isAgg3)<|g_v rfl (r_gtr rfl rfl)<|g_nil<|d_then<|c_sta ⟨w0,M,(100070,g39,.cells #[.int .i64 x37.fahead,.int .i64 x37.fnames,.int .i64 x37.fbehind] 97 (0,0))::(1000,go0,.cells #[.slice A34 x32.fb.length c35,mapV A11] 150 (0,0))::(100030,g1,.cells #[.string p1.fName,.int .u16 p1.fType,.int .u16 p1.fClass,.int .u32 p1.fTTL,.string p1.fData] 42 (0,0))::H,(1000,⟨.slice A34 x32.fb.length c35,5,1,x32.fb.length,x32.fb.flatMap (fun x : Int=>[Value.int .u8 x])⟩)::(1001,⟨mapV A11,148,2,x6.fplaces.length,x6.fplaces.flatMap (mcell (fun x : ByteArray=>Value.string x) (fun x : Int=>Value.int .i64 x))⟩)::R,φ⟩ (fun _ h=>h) ?_
  refine c_cond rfl (fun h138=>?_) (fun h138=>?_)
  ·
   replace hm:=ite_t hm (of_decide_eq_true h138)
   refine c_seq<|c_region<|g_v rfl (r_loadA (tag:=100070) rfl rfl Try.isAgg97 Try.sizeOf97 rfl rfl)<|g_v rfl (r_field (n:=4) Try.underlying42 rfl Try.sizeOf9 rfl rfl)<|g_v rfl (r_load (tag:=100030) rfl rfl rfl Try.isAgg9) ?_
   replace hm:=bnd hm
   obtain ⟨⟨x139,x140⟩,hx141,hm⟩:=hm
   refine g_cn ⟨w0,M,_,_,φ⟩ (fun _ h=>h) Try.call58 rfl rfl (c_record_shape_cut x37 p1.fData _ hx141) (fun ⟨A142,c143⟩ hc143=>?_)
   refine g_abs (fun φ145 q145'=>?_)
   have q145 : ∀ W,φ145 W→φ W:=fun W h=>(q145' W h).1
   have f144:=fun (W : World) (h : φ145 W)=>(q145' W h).2
   refine g_v rfl r_move<|g_v rfl (r_extract rfl rfl)<|g_v rfl (r_extract rfl rfl) ?_
   refine g_e rfl (e_alloc 100080 Try.zeroValue100) (fun g147 _=>?_)
   refine g_storeL (tag:=100080) rfl rfl rfl rfl Try.sizeOf100 rfl rfl<|g_v rfl r_assign<|g_nil<|d_then ?_
   refine c_flat [(0,.pointer (some ⟨go0,0,none⟩)),(6,.int .i64 x30),(8,.pointer (some ⟨g147,0,none⟩))] ⟨rfl,rfl,rfl,trivial⟩ (fun u=>?_)
   refine c_sta ⟨w0,M,(100080,g147,.cells #[.string x139.fahead,.string x139.fbehind,.slice A142 x139.fnames.length c143] 100 (0,0))::(100070,g39,.cells #[.int .i64 x37.fahead,.int .i64 x37.fnames,.int .i64 x37.fbehind] 97 (0,0))::(1000,go0,.cells #[.slice A34 x32.fb.length c35,mapV A11] 150 (0,0))::(100030,g1,.cells #[.string p1.fName,.int .u16 p1.fType,.int .u16 p1.fClass,.int .u32 p1.fTTL,.string p1.fData] 42 (0,0))::H,(1000,⟨.slice A34 x32.fb.length c35,5,1,x32.fb.length,x32.fb.flatMap (fun x : Int=>[Value.int .u8 x])⟩)::(1001,⟨mapV A11,148,2,x6.fplaces.length,x6.fplaces.flatMap (mcell (fun x : ByteArray=>Value.string x) (fun x : Int=>Value.int .i64 x))⟩)::R,φ145⟩ (fun _ h=>h)<|c_seq<|c_region<|g_v rfl r_move<|g_v rfl (r_field (n:=0) Try.underlying100 rfl Try.sizeOf9 rfl rfl)<|g_v rfl (r_load (tag:=100080) rfl rfl rfl Try.isAgg9) ?_
   replace hm:=bnd hm
   obtain ⟨x148,hx149,hm⟩:=hm
   refine g_cn ⟨w0,M,(1000,go0,.cells #[.slice A34 x32.fb.length c35,mapV A11] 150 (0,0))::(100080,g147,.cells #[.string x139.fahead,.string x139.fbehind,.slice A142 x139.fnames.length c143] 100 (0,0))::(100070,g39,.cells #[.int .i64 x37.fahead,.int .i64 x37.fnames,.int .i64 x37.fbehind] 97 (0,0))::(100030,g1,.cells #[.string p1.fName,.int .u16 p1.fType,.int .u16 p1.fClass,.int .u32 p1.fTTL,.string p1.fData] 42 (0,0))::H,(1000,⟨.slice A34 x32.fb.length c35,5,1,x32.fb.length,x32.fb.flatMap (fun x : Int=>[Value.int .u8 x])⟩)::(1001,⟨mapV A11,148,2,x6.fplaces.length,x6.fplaces.flatMap (mcell (fun x : ByteArray=>Value.string x) (fun x : Int=>Value.int .i64 x))⟩)::R,φ145⟩ (fun W h=>(ok_front (t:=1000) (t':=1000) (ok_frontR (t:=1000) (t':=1000) (ok_frontR (t:=1001) (t':=1001) h rfl) rfl) rfl)) Try.call103 rfl rfl (c_pack_Packer_Raw x139.fahead go0 (⟨x32.fb,x6.fplaces⟩ : Gpack_Packer) A34 c35 hc35 A11 c12 trivial _ hx149) (fun ⟨A150,c151⟩ hc151=>?_)
   refine g_sta _ (fun W h=>(ok_frontR (t:=2000) (t':=1000) (ok_frontR (t:=1001) (t':=1001) (ok_front (t:=1000) (t':=1000) h rfl) rfl) rfl))<|g_nil<|d_then<|c_seq<|c_seq<|c_region<|g_v rfl (r_field (n:=2) Try.underlying100 rfl Try.sizeOf73 rfl rfl)<|g_v rfl (r_load (tag:=100080) rfl rfl rfl Try.isAgg73)<|g_v rfl (r_lenL Try.underlying73 rfl)<|g_v rfl r_move ?_
   refine g_nil<|d_then ?_
   refine c_cut (ι:=(List Int)×(List (ByteArray×Int))×Option Addr×Nat×Option Addr×Nat) [0,6,8] (fun ⟨l205,l208,A206,c207,A209,c210⟩=>[]) (fun ⟨l205,l208,A206,c207,A209,c210⟩=>⟨w0,M,(1000,go0,.cells #[.slice A206 l205.length c207,mapV A209] 150 (0,0))::(100080,g147,.cells #[.string x139.fahead,.string x139.fbehind,.slice A142 x139.fnames.length c143] 100 (0,0))::H,(1000,⟨.slice A206 l205.length c207,5,1,l205.length,l205.flatMap (fun x : Int=>[Value.int .u8 x])⟩)::(1001,⟨mapV A209,148,2,l208.length,l208.flatMap (mcell (fun x : ByteArray=>Value.string x) (fun x : Int=>Value.int .i64 x))⟩)::R,φ145⟩) (fun ⟨l205,l208,A206,c207,A209,c210⟩=>m_record_Put_j2 x139 x30 l205 l208 = some r∧l205.length ≤ c207∧True) ?_ (fun ⟨l205,l208,A206,c207,A209,c210⟩ u ⟨hm,hc207,hc210⟩=>?_)
   ·
    refine c_block ?_
    replace hm:=bnd hm
    obtain ⟨out3,hl3,hr3⟩:=hm
    obtain ⟨n267',hl3⟩:=loop_lp hl3
    refine c_loopU (ι:=Nat×(List Int)×(List (ByteArray×Int))×Int×Option Addr×Nat×Option Addr×Nat) [0,6,8,57,58,59] (fun ⟨n267,l238,l241,i244,A239,c240,A242,c243⟩=>[(59,.int .i64 i244)]) (fun ⟨n267,l238,l241,i244,A239,c240,A242,c243⟩=>⟨w0,M,(1000,go0,.cells #[.slice A239 l238.length c240,mapV A242] 150 (0,0))::(100080,g147,.cells #[.string x139.fahead,.string x139.fbehind,.slice A142 x139.fnames.length c143] 100 (0,0))::H,(1000,⟨.slice A239 l238.length c240,5,1,l238.length,l238.flatMap (fun x : Int=>[Value.int .u8 x])⟩)::(1001,⟨mapV A242,148,2,l241.length,l241.flatMap (mcell (fun x : ByteArray=>Value.string x) (fun x : Int=>Value.int .i64 x))⟩)::R,φ145⟩) (fun ⟨n267,l238,l241,i244,A239,c240,A242,c243⟩=>Lp (fun s=>m_record_Put_s3 x139 s.1 s.2.1 s.2.2) n267 (l238,l241,i244) out3∧l238.length ≤ c240∧True) (fun ⟨n267,l238,l241,i244,A239,c240,A242,c243⟩=>n267) (n267',x148.fb,x6.fplaces,0,A150,c151,A11,c12) ⟨hl3,hc151,trivial⟩ ⟨rfl,rfl,rfl,rfl,rfl,rfl,trivial⟩ (fun W h=>((h.dropH (t:=100070) rfl).dropH (t:=100030) rfl).phi (fun W hφ=>hφ)) (fun ⟨n267,l238,l241,i244,A239,c240,A242,c243⟩ u ⟨hlp,hc240,hc243⟩=>?_)
    obtain ⟨o3,hm,hnx3⟩:=lp_step hlp
    clear hlp
    replace hm : m_record_Put_s3 x139 l238 l241 i244 = some o3:=hm
    unfold m_record_Put_s3 at hm
    refine c_flat [(0,.pointer (some ⟨go0,0,none⟩)),(6,.int .i64 x30),(8,.pointer (some ⟨g147,0,none⟩)),(57,.slice A142 x139.fnames.length c143),(58,.int .i64 (x139.fnames.length : Int)),(59,.int .i64 i244)] ⟨rfl,rfl,rfl,rfl,rfl,rfl,trivial⟩ (fun u=>?_)
    refine c_sta ⟨w0,M,(1000,go0,.cells #[.slice A239 l238.length c240,mapV A242] 150 (0,0))::(100080,g147,.cells #[.string x139.fahead,.string x139.fbehind,.slice A142 x139.fnames.length c143] 100 (0,0))::H,(1000,⟨.slice A239 l238.length c240,5,1,l238.length,l238.flatMap (fun x : Int=>[Value.int .u8 x])⟩)::(1001,⟨mapV A242,148,2,l241.length,l241.flatMap (mcell (fun x : ByteArray=>Value.string x) (fun x : Int=>Value.int .i64 x))⟩)::R,φ145⟩ (fun _ h=>h)<|c_seq<|c_region<|g_v rfl (r_lss rfl rfl)<|g_nil<|d_then<|c_seq ?_
    refine c_cond rfl (fun h268=>?_) (fun h268=>?_)
    ·
     replace hm:=ite_t hm (of_decide_eq_true h268)
     refine c_skip<|d_then<|c_seq<|c_block<|c_seq<|c_region ?_
     replace hm:=bnd hm
     obtain ⟨x269,hx269,hm⟩:=hm
     refine g_know _ (fun W hS=>cl_at (p:=φ145) (sz:=1) (fun _=>rfl) (by decide) hS.now f144 hx269) ?_
     rintro ⟨ad270,hA272,f271⟩
     refine g_v rfl (r_ix Try.underlying73 Try.sizeOf9 rfl hA272 rfl hx269)<|g_v rfl (r_ld rfl Try.isAgg9 (fun W hS=>Cl.head (f271 W hS.now)))<|g_v rfl r_assign<|g_nil<|d_then<|c_region<|g_v rfl r_move<|g_v rfl r_move ?_
     replace hm:=bnd hm
     obtain ⟨⟨x273,x274⟩,hx275,hm⟩:=hm
     refine g_cn ⟨w0,M,(1000,go0,.cells #[.slice A239 l238.length c240,mapV A242] 150 (0,0))::(100080,g147,.cells #[.string x139.fahead,.string x139.fbehind,.slice A142 x139.fnames.length c143] 100 (0,0))::H,(1000,⟨.slice A239 l238.length c240,5,1,l238.length,l238.flatMap (fun x : Int=>[Value.int .u8 x])⟩)::(1001,⟨mapV A242,148,2,l241.length,l241.flatMap (mcell (fun x : ByteArray=>Value.string x) (fun x : Int=>Value.int .i64 x))⟩)::R,φ145⟩ (fun W h=>(ok_front (t:=1000) (t':=1000) (ok_frontR (t:=1000) (t':=1000) (ok_frontR (t:=1001) (t':=1001) h rfl) rfl) rfl)) Try.call92 rfl rfl (c_pack_Packer_Name x269 true go0 (⟨l238,l241⟩ : Gpack_Packer) A239 c240 hc240 A242 c243 trivial _ hx275) (fun ⟨A276,c277,A279,c280⟩ ⟨hc277,hc280⟩=>?_)
     refine g_sta _ (fun W h=>(ok_frontR (t:=2000) (t':=1000) (ok_frontR (t:=2001) (t':=1001) (ok_front (t:=1000) (t':=1000) h rfl) rfl) rfl))<|g_nil<|d_normal_block<|d_then<|c_region<|g_v rfl (r_add rfl rfl rfl)<|g_v rfl r_move<|g_nil ?_
     obtain ⟨n283,hn283,hlp⟩:=nx_inl hm hnx3
     exact d_round (n283,x274.fb,x274.fplaces,w64 (i244 + 1),A276,c277,A279,c280) ⟨hlp,hc277,trivial⟩ hn283 ⟨rfl,rfl,rfl,rfl,rfl,rfl,trivial⟩ (fun W h=>h.phi (fun W hφ=>hφ))
    replace hm:=ite_f hm (of_decide_eq_false h268)
    refine c_exit<|d_exit_then<|d_exit_then<|d_exit_block ?_
    replace hm:=nx_out (C:=(fun e : (List Int)×(List (ByteArray×Int))=>m_record_Put_j2 x139 x30 e.1 e.2 = some r)) hm hnx3 hr3
    exact d_round (l238,l241,A239,c240,A242,c243) ⟨hm,hc240,trivial⟩ Nat.zero_lt_one ⟨rfl,rfl,rfl,trivial⟩ (fun W h=>h.phi (fun W hφ=>hφ))
   unfold m_record_Put_j2 at hm
   refine d_flat [(0,.pointer (some ⟨go0,0,none⟩)),(6,.int .i64 x30),(8,.pointer (some ⟨g147,0,none⟩))] ⟨rfl,rfl,rfl,trivial⟩ (fun u=>?_)
   refine d_sta ⟨w0,M,(1000,go0,.cells #[.slice A206 l205.length c207,mapV A209] 150 (0,0))::(100080,g147,.cells #[.string x139.fahead,.string x139.fbehind,.slice A142 x139.fnames.length c143] 100 (0,0))::H,(1000,⟨.slice A206 l205.length c207,5,1,l205.length,l205.flatMap (fun x : Int=>[Value.int .u8 x])⟩)::(1001,⟨mapV A209,148,2,l208.length,l208.flatMap (mcell (fun x : ByteArray=>Value.string x) (fun x : Int=>Value.int .i64 x))⟩)::R,φ145⟩ (fun _ h=>h)<|d_then<|c_region<|g_v rfl r_move<|g_v rfl (r_field (n:=1) Try.underlying100 rfl Try.sizeOf9 rfl rfl)<|g_v rfl (r_load (tag:=100080) rfl rfl rfl Try.isAgg9) ?_
   replace hm:=bnd hm
   obtain ⟨x211,hx212,hm⟩:=hm
   refine g_cn ⟨w0,M,(1000,go0,.cells #[.slice A206 l205.length c207,mapV A209] 150 (0,0))::(100080,g147,.cells #[.string x139.fahead,.string x139.fbehind,.slice A142 x139.fnames.length c143] 100 (0,0))::H,(1000,⟨.slice A206 l205.length c207,5,1,l205.length,l205.flatMap (fun x : Int=>[Value.int .u8 x])⟩)::(1001,⟨mapV A209,148,2,l208.length,l208.flatMap (mcell (fun x : ByteArray=>Value.string x) (fun x : Int=>Value.int .i64 x))⟩)::R,φ145⟩ (fun W h=>(ok_front (t:=1000) (t':=1000) (ok_frontR (t:=1000) (t':=1000) (ok_frontR (t:=1001) (t':=1001) h rfl) rfl) rfl)) Try.call103 rfl rfl (c_pack_Packer_Raw x139.fbehind go0 (⟨l205,l208⟩ : Gpack_Packer) A206 c207 hc207 A209 c210 trivial _ hx212) (fun ⟨A213,c214⟩ hc214=>?_)
   refine g_sta _ (fun W h=>(ok_frontR (t:=2000) (t':=1000) (ok_frontR (t:=1001) (t':=1001) (ok_front (t:=1000) (t':=1000) h rfl) rfl) rfl))<|g_nil ?_
   exact d_round (x211.fb,l208,A213,c214,A209,c210) ⟨hm,hc214,trivial⟩ Nat.zero_lt_one ⟨rfl,rfl,trivial⟩ (fun W h=>(h.dropH (t:=100080) rfl).phi (fun W hφ=>(q145 _ hφ)))
  replace hm:=ite_f hm (of_decide_eq_false h138)
  refine c_region<|g_v rfl r_move<|g_v rfl (r_field (n:=4) Try.underlying42 rfl Try.sizeOf9 rfl rfl)<|g_v rfl (r_load (tag:=100030) rfl rfl rfl Try.isAgg9) ?_
  replace hm:=bnd hm
  obtain ⟨x284,hx285,hm⟩:=hm
  refine g_cn ⟨w0,M,(1000,go0,.cells #[.slice A34 x32.fb.length c35,mapV A11] 150 (0,0))::(100070,g39,.cells #[.int .i64 x37.fahead,.int .i64 x37.fnames,.int .i64 x37.fbehind] 97 (0,0))::(100030,g1,.cells #[.string p1.fName,.int .u16 p1.fType,.int .u16 p1.fClass,.int .u32 p1.fTTL,.string p1.fData] 42 (0,0))::H,(1000,⟨.slice A34 x32.fb.length c35,5,1,x32.fb.length,x32.fb.flatMap (fun x : Int=>[Value.int .u8 x])⟩)::(1001,⟨mapV A11,148,2,x6.fplaces.length,x6.fplaces.flatMap (mcell (fun x : ByteArray=>Value.string x) (fun x : Int=>Value.int .i64 x))⟩)::R,φ⟩ (fun W h=>(ok_front (t:=1000) (t':=1000) (ok_frontR (t:=1000) (t':=1000) (ok_frontR (t:=1001) (t':=1001) h rfl) rfl) rfl)) Try.call103 rfl rfl (c_pack_Packer_Raw p1.fData go0 (⟨x32.fb,x6.fplaces⟩ : Gpack_Packer) A34 c35 hc35 A11 c12 trivial _ hx285) (fun ⟨A286,c287⟩ hc287=>?_)
  refine g_sta _ (fun W h=>(ok_frontR (t:=2000) (t':=1000) (ok_frontR (t:=1001) (t':=1001) (ok_front (t:=1000) (t':=1000) h rfl) rfl) rfl))<|g_nil ?_
  exact d_round (x284.fb,x6.fplaces,A286,c287,A11,c12) ⟨hm,hc287,trivial⟩ Nat.zero_lt_one ⟨rfl,rfl,trivial⟩ (fun W h=>((h.dropH (t:=100070) rfl).dropH (t:=100030) rfl).phi (fun W hφ=>hφ))
 unfold m_record_Put_j1 at hm
 refine d_flat [(0,.pointer (some ⟨go0,0,none⟩)),(6,.int .i64 x30)] ⟨rfl,rfl,trivial⟩ (fun u=>?_)
 refine d_sta ⟨w0,M,(1000,go0,.cells #[.slice A124 l123.length c125,mapV A127] 150 (0,0))::H,(1000,⟨.slice A124 l123.length c125,5,1,l123.length,l123.flatMap (fun x : Int=>[Value.int .u8 x])⟩)::(1001,⟨mapV A127,148,2,l126.length,l126.flatMap (mcell (fun x : ByteArray=>Value.string x) (fun x : Int=>Value.int .i64 x))⟩)::R,φ⟩ (fun _ h=>h)<|d_then<|c_seq<|c_region ?_
 iterate 3 refine g_v rfl r_move ?_
 replace hm:=bnd hm
 obtain ⟨x129,hx130,hm⟩:=hm
 refine g_cn ⟨w0,M,(1000,go0,.cells #[.slice A124 l123.length c125,mapV A127] 150 (0,0))::H,(1000,⟨.slice A124 l123.length c125,5,1,l123.length,l123.flatMap (fun x : Int=>[Value.int .u8 x])⟩)::(1001,⟨mapV A127,148,2,l126.length,l126.flatMap (mcell (fun x : ByteArray=>Value.string x) (fun x : Int=>Value.int .i64 x))⟩)::R,φ⟩ (fun W h=>(ok_front (t:=1000) (t':=1000) (ok_frontR (t:=1000) (t':=1000) (ok_frontR (t:=1001) (t':=1001) h rfl) rfl) rfl)) Try.call106 rfl rfl (c_pack_Packer_Len go0 (⟨l123,l126⟩ : Gpack_Packer) A124 c125 hc125 A127 c128 trivial _ hx130) (fun _ _=>?_)
 refine g_sta _ (fun W h=>(ok_frontR (t:=1000) (t':=1000) (ok_frontR (t:=1001) (t':=1001) (ok_front (t:=1000) (t':=1000) h rfl) rfl) rfl))<|g_v rfl r_move<|g_v rfl (r_sub rfl rfl rfl)<|g_v rfl (r_sub rfl rfl rfl)<|g_v rfl (r_conv Try.underlying3 Try.underlying22 rfl rfl) ?_
 replace hm:=bnd hm
 obtain ⟨⟨x131,x132⟩,hx133,hm⟩:=hm
 refine g_cn ⟨w0,M,(1000,go0,.cells #[.slice A124 l123.length c125,mapV A127] 150 (0,0))::H,(1000,⟨.slice A124 l123.length c125,5,1,l123.length,l123.flatMap (fun x : Int=>[Value.int .u8 x])⟩)::(1001,⟨mapV A127,148,2,l126.length,l126.flatMap (mcell (fun x : ByteArray=>Value.string x) (fun x : Int=>Value.int .i64 x))⟩)::R,φ⟩ (fun W h=>(ok_front (t:=1000) (t':=1000) (ok_frontR (t:=1000) (t':=1000) (ok_frontR (t:=1001) (t':=1001) h rfl) rfl) rfl)) Try.call107 rfl rfl (c_pack_Packer_Patch x30 (IntKind.u16.wrap (w64 ((w64 (x129 - x30)) - 2))) go0 (⟨l123,l126⟩ : Gpack_Packer) A124 c125 hc125 A127 c128 trivial _ hx133) (fun ⟨A134,c135⟩ hc135=>?_)
 refine g_sta _ (fun W h=>(ok_frontR (t:=2000) (t':=1000) (ok_frontR (t:=1001) (t':=1001) (ok_front (t:=1000) (t':=1000) h rfl) rfl) rfl))<|g_v rfl r_assign<|g_nil<|d_then ?_
 refine c_flat [(4,.int .i64 x131)] ⟨rfl,trivial⟩ (fun u=>?_)
 refine c_sta ⟨w0,M,(1000,go0,.cells #[.slice A134 x132.fb.length c135,mapV A127] 150 (0,0))::H,(1000,⟨.slice A134 x132.fb.length c135,5,1,x132.fb.length,x132.fb.flatMap (fun x : Int=>[Value.int .u8 x])⟩)::(1001,⟨mapV A127,148,2,l126.length,l126.flatMap (mcell (fun x : ByteArray=>Value.string x) (fun x : Int=>Value.int .i64 x))⟩)::R,φ⟩ (fun _ h=>h)<|c_ret ?_
 cases hm
 refine d_sta _ (fun W h=>ok_frontR (t:=1001) (t':=2001) h rfl)<|d_sta _ (fun W h=>ok_frontR (t:=1000) (t':=2000) h rfl) ?_
 exact d_retC (A134,c135,A127,c128) Try.results95 (res_tmp (res_nil rfl)) ⟨hc135,hc128⟩ (fun W h=>h.phi (fun W hφ=>hφ)) (.inr rfl)
noncomputable def m_message_whole_c2 (p0 : GRR) (o1 : Gpack_Packer) : Option (Int×Gpack_Packer):=
  (m_record_Put p0 o1).bind fun (z11 : Int×Gpack_Packer)=>
  some (z11.1,z11.2)
theorem c_message_whole_c2 {w0 : World} {M : Nat→Prop} {H : List (Nat×Nat×Obj)} {R : List (Nat×Row)} {φ : World→Prop} (p0 : GRR) (go0 : Nat) (go1 : Nat) (o1 : Gpack_Packer) (Ao1_0 : Option Addr) (co1_0 : Nat) (hco1_0 : o1.fb.length ≤ co1_0) (Ao1_1 : Option Addr) (co1_1 : Nat) (hco1_1 : True) (r : Int×Gpack_Packer) (hm : m_message_whole_c2 p0 o1 = some r) :
    Cn Try.prog 94 #[.agg #[.string p0.fName,.int .u16 p0.fType,.int .u16 p0.fClass,.int .u32 p0.fTTL,.string p0.fData],.pointer (some ⟨go0,0,none⟩)] ⟨w0,M,(1000,go0,.cells #[.pointer (some ⟨go1,0,none⟩)] 130 (0,0))::(1001,go1,.cells #[.slice Ao1_0 o1.fb.length co1_0,mapV Ao1_1] 150 (0,0))::H,(1000,⟨.slice Ao1_0 o1.fb.length co1_0,5,1,o1.fb.length,o1.fb.flatMap (fun x : Int=>[Value.int .u8 x])⟩)::(1001,⟨mapV Ao1_1,148,2,o1.fplaces.length,o1.fplaces.flatMap (mcell (fun x : ByteArray=>Value.string x) (fun x : Int=>Value.int .i64 x))⟩)::R,φ⟩ (fun x : Option Addr×Nat×Option Addr×Nat=>.int .i64 r.1) (fun x=>r.2.fb.length ≤ x.2.1∧True) (fun x=>⟨w0,M,(1000,go0,.cells #[.pointer (some ⟨go1,0,none⟩)] 130 (0,0))::(1001,go1,.cells #[.slice x.1 r.2.fb.length x.2.1,mapV x.2.2.1] 150 (0,0))::H,(2000,⟨.slice x.1 r.2.fb.length x.2.1,5,1,r.2.fb.length,r.2.fb.flatMap (fun x : Int=>[Value.int .u8 x])⟩)::(2001,⟨mapV x.2.2.1,148,2,r.2.fplaces.length,r.2.fplaces.flatMap (mcell (fun x : ByteArray=>Value.string x) (fun x : Int=>Value.int .i64 x))⟩)::R,φ⟩):=by
 unfold m_message_whole_c2 at hm
 refine cn_intro (fn:=Try.f94) (N:=7) Try.func94 rfl Try.ntmps94 rfl<|c_seq<|c_region ?_
 refine g_e rfl (e_box 100020 rfl) (fun g1 _=>?_)
 refine g_v rfl r_assign<|g_nil<|d_then<|c_seq<|c_region<|g_v rfl (r_load (tag:=1000) rfl rfl rfl Try.isAgg130)<|g_v rfl (r_loadA (tag:=100020) rfl rfl Try.isAgg42 Try.sizeOf42 rfl rfl) ?_
 replace hm:=bnd hm
 obtain ⟨⟨x2,x3⟩,hx4,hm⟩:=hm
 refine g_cn ⟨w0,M,(1000,go1,.cells #[.slice Ao1_0 o1.fb.length co1_0,mapV Ao1_1] 150 (0,0))::(100020,g1,.cells #[.string p0.fName,.int .u16 p0.fType,.int .u16 p0.fClass,.int .u32 p0.fTTL,.string p0.fData] 42 (0,0))::(1000,go0,.cells #[.pointer (some ⟨go1,0,none⟩)] 130 (0,0))::H,(1000,⟨.slice Ao1_0 o1.fb.length co1_0,5,1,o1.fb.length,o1.fb.flatMap (fun x : Int=>[Value.int .u8 x])⟩)::(1001,⟨mapV Ao1_1,148,2,o1.fplaces.length,o1.fplaces.flatMap (mcell (fun x : ByteArray=>Value.string x) (fun x : Int=>Value.int .i64 x))⟩)::R,φ⟩ (fun W h=>(ok_front (t:=1001) (t':=1000) (ok_frontR (t:=1000) (t':=1000) (ok_frontR (t:=1001) (t':=1001) h rfl) rfl) rfl)) Try.call95 rfl rfl (c_record_Put p0 go1 o1 Ao1_0 co1_0 hco1_0 Ao1_1 co1_1 trivial _ hx4) (fun ⟨A5,c6,A8,c9⟩ ⟨hc6,hc9⟩=>?_)
 refine g_sta _ (fun W h=>(ok_frontR (t:=2000) (t':=1000) (ok_frontR (t:=2001) (t':=1001) (ok_front (t:=1000) (t':=1001) h rfl) rfl) rfl))<|g_v rfl r_assign<|g_nil<|d_then<|c_ret ?_
 cases hm
 refine d_sta _ (fun W h=>ok_frontR (t:=1001) (t':=2001) h rfl)<|d_sta _ (fun W h=>ok_frontR (t:=1000) (t':=2000) h rfl) ?_
 exact d_retC (A5,c6,A8,c9) Try.results94 (res_tmp (res_nil rfl)) ⟨hc6,hc9⟩ (fun W h=>(ok_front (t:=1000) (t':=1000) (ok_front (t:=1001) (t':=1001) (h.dropH (t:=100020) rfl) rfl) rfl).phi (fun W hφ=>hφ)) (.inr rfl)
noncomputable def m_message_each_93_j1  (l57 : List Int) (l60 : List (ByteArray×Int)) : Option (Int×Gpack_Packer):=
  some (0,(⟨l57,l60⟩ : Gpack_Packer))
noncomputable def m_message_each_93_s2 (p0 : List GRR) (l87 : List Int) (l90 : List (ByteArray×Int)) (i93 : Int) : Option (((List Int)×(List (ByteArray×Int))×Int) ⊕ (((List Int)×(List (ByteArray×Int))) ⊕ (Int×Gpack_Packer))):=
  if i93 < (p0.length : Int) then
    (at_ p0 i93).bind fun x120=>
    (m_message_whole_c2 x120 (⟨l87,l90⟩ : Gpack_Packer)).bind fun (z134 : Int×Gpack_Packer)=>
    if z134.1 ≠ 0 then
      some (.inr (.inr (z134.1,z134.2)))
    else
      some (.inl (z134.2.fb,z134.2.fplaces,w64 (i93 + 1)))
  else
    some (.inr (.inl (l87,l90)))
noncomputable def m_message_each_93 (p0 : List GRR) (o1 : Gpack_Packer) : Option (Int×Gpack_Packer):=
  (loop (fun s=>m_message_each_93_s2 p0 s.1 s.2.1 s.2.2) (o1.fb,o1.fplaces,0)).bind fun e=>Sum.elim (fun e=>m_message_each_93_j1 e.1 e.2) (fun x=>some x) e
theorem c_message_each_93 {w0 : World} {M : Nat→Prop} {H : List (Nat×Nat×Obj)} {R : List (Nat×Row)} {φ : World→Prop} (p0 : List GRR) (Ap0_0 : Option Addr) (cp0_0 : Nat) (hcp0_0 : p0.length ≤ cp0_0) (fp0_0 : ∀ W,(Sta.mk w0 M H R φ).ok W→Cl W Ap0_0 (p0.flatMap GRR.enc)) (go0 : Nat) (go1 : Nat) (o1 : Gpack_Packer) (Ao1_0 : Option Addr) (co1_0 : Nat) (hco1_0 : o1.fb.length ≤ co1_0) (Ao1_1 : Option Addr) (co1_1 : Nat) (hco1_1 : True) (r : Int×Gpack_Packer) (hm : m_message_each_93 p0 o1 = some r) :
    Cn Try.prog 93 #[.slice Ap0_0 p0.length cp0_0,.func (.func 94) #[] #[.pointer (some ⟨go0,0,none⟩)]] ⟨w0,M,(1000,go0,.cells #[.pointer (some ⟨go1,0,none⟩)] 130 (0,0))::(1001,go1,.cells #[.slice Ao1_0 o1.fb.length co1_0,mapV Ao1_1] 150 (0,0))::H,(1000,⟨.slice Ao1_0 o1.fb.length co1_0,5,1,o1.fb.length,o1.fb.flatMap (fun x : Int=>[Value.int .u8 x])⟩)::(1001,⟨mapV Ao1_1,148,2,o1.fplaces.length,o1.fplaces.flatMap (mcell (fun x : ByteArray=>Value.string x) (fun x : Int=>Value.int .i64 x))⟩)::R,φ⟩ (fun x : Option Addr×Nat×Option Addr×Nat=>.int .i64 r.1) (fun x=>r.2.fb.length ≤ x.2.1∧True) (fun x=>⟨w0,M,(1000,go0,.cells #[.pointer (some ⟨go1,0,none⟩)] 130 (0,0))::(1001,go1,.cells #[.slice x.1 r.2.fb.length x.2.1,mapV x.2.2.1] 150 (0,0))::H,(2000,⟨.slice x.1 r.2.fb.length x.2.1,5,1,r.2.fb.length,r.2.fb.flatMap (fun x : Int=>[Value.int .u8 x])⟩)::(2001,⟨mapV x.2.2.1,148,2,r.2.fplaces.length,r.2.fplaces.flatMap (mcell (fun x : ByteArray=>Value.string x) (fun x : Int=>Value.int .i64 x))⟩)::R,φ⟩):=by
 unfold m_message_each_93 at hm
 refine cn_intro (fn:=Try.f93) (N:=21) Try.func93 rfl Try.ntmps93 rfl<|c_seq<|c_region<|g_v rfl r_assign<|g_nil<|d_then<|c_seq<|c_seq<|c_region<|g_v rfl r_move ?_
 refine g_v rfl (r_lenL Try.underlying24 rfl)<|g_v rfl r_move<|g_nil<|d_then ?_
 refine c_cut (ι:=(List Int)×(List (ByteArray×Int))×Option Addr×Nat×Option Addr×Nat) [] (fun ⟨l57,l60,A58,c59,A61,c62⟩=>[]) (fun ⟨l57,l60,A58,c59,A61,c62⟩=>⟨w0,M,(1000,go0,.cells #[.pointer (some ⟨go1,0,none⟩)] 130 (0,0))::(1001,go1,.cells #[.slice A58 l57.length c59,mapV A61] 150 (0,0))::H,(1000,⟨.slice A58 l57.length c59,5,1,l57.length,l57.flatMap (fun x : Int=>[Value.int .u8 x])⟩)::(1001,⟨mapV A61,148,2,l60.length,l60.flatMap (mcell (fun x : ByteArray=>Value.string x) (fun x : Int=>Value.int .i64 x))⟩)::R,φ⟩) (fun ⟨l57,l60,A58,c59,A61,c62⟩=>m_message_each_93_j1 l57 l60 = some r∧l57.length ≤ c59∧True) ?_ (fun ⟨l57,l60,A58,c59,A61,c62⟩ u ⟨hm,hc59,hc62⟩=>?_)
 ·
  refine c_block ?_
  replace hm:=bnd hm
  obtain ⟨out2,hl2,hr2⟩:=hm
  obtain ⟨n118',hl2⟩:=loop_lp hl2
  refine c_loopU (ι:=Nat×(List Int)×(List (ByteArray×Int))×Int×Option Addr×Nat×Option Addr×Nat) [1,8,9,10] (fun ⟨n118,l87,l90,i93,A88,c89,A91,c92⟩=>[(10,.int .i64 i93)]) (fun ⟨n118,l87,l90,i93,A88,c89,A91,c92⟩=>⟨w0,M,(1000,go0,.cells #[.pointer (some ⟨go1,0,none⟩)] 130 (0,0))::(1001,go1,.cells #[.slice A88 l87.length c89,mapV A91] 150 (0,0))::H,(1000,⟨.slice A88 l87.length c89,5,1,l87.length,l87.flatMap (fun x : Int=>[Value.int .u8 x])⟩)::(1001,⟨mapV A91,148,2,l90.length,l90.flatMap (mcell (fun x : ByteArray=>Value.string x) (fun x : Int=>Value.int .i64 x))⟩)::R,φ⟩) (fun ⟨n118,l87,l90,i93,A88,c89,A91,c92⟩=>Lp (fun s=>m_message_each_93_s2 p0 s.1 s.2.1 s.2.2) n118 (l87,l90,i93) out2∧l87.length ≤ c89∧True) (fun ⟨n118,l87,l90,i93,A88,c89,A91,c92⟩=>n118) (n118',o1.fb,o1.fplaces,0,Ao1_0,co1_0,Ao1_1,co1_1) ⟨hl2,hco1_0,trivial⟩ ⟨rfl,rfl,rfl,rfl,trivial⟩ (fun W h=>h.phi (fun W hφ=>hφ)) (fun ⟨n118,l87,l90,i93,A88,c89,A91,c92⟩ u ⟨hlp,hc89,hc92⟩=>?_)
  obtain ⟨o2,hm,hnx2⟩:=lp_step hlp
  clear hlp
  replace hm : m_message_each_93_s2 p0 l87 l90 i93 = some o2:=hm
  unfold m_message_each_93_s2 at hm
  refine c_flat [(1,.func (.func 94) #[] #[.pointer (some ⟨go0,0,none⟩)]),(8,.slice Ap0_0 p0.length cp0_0),(9,.int .i64 (p0.length : Int)),(10,.int .i64 i93)] ⟨rfl,rfl,rfl,rfl,trivial⟩ (fun u=>?_)
  refine c_sta ⟨w0,M,(1000,go0,.cells #[.pointer (some ⟨go1,0,none⟩)] 130 (0,0))::(1001,go1,.cells #[.slice A88 l87.length c89,mapV A91] 150 (0,0))::H,(1000,⟨.slice A88 l87.length c89,5,1,l87.length,l87.flatMap (fun x : Int=>[Value.int .u8 x])⟩)::(1001,⟨mapV A91,148,2,l90.length,l90.flatMap (mcell (fun x : ByteArray=>Value.string x) (fun x : Int=>Value.int .i64 x))⟩)::R,φ⟩ (fun _ h=>h)<|c_seq<|c_region<|g_v rfl (r_lss rfl rfl)<|g_nil<|d_then<|c_seq ?_
  refine c_cond rfl (fun h119=>?_) (fun h119=>?_)
  ·
   replace hm:=ite_t hm (of_decide_eq_true h119)
   refine c_skip<|d_then<|c_seq<|c_block<|c_seq<|c_region ?_
   replace hm:=bnd hm
   obtain ⟨x120,hx120,hm⟩:=hm
   refine g_know _ (fun W hS=>cl_at (p:=(Sta.mk w0 M H R φ).ok) (sz:=5) (fun _=>rfl) (by decide) (ok_pre (H1:=[_,_]) (R1:=[_,_]) hS (fun W h=>h)) fp0_0 hx120) ?_
   rintro ⟨ad121,hA123,f122⟩
   refine g_v rfl (r_ix Try.underlying24 Try.sizeOf42 rfl hA123 rfl hx120)<|g_v rfl (r_ldA rfl Try.isAgg42 Try.sizeOf42 (fun W hS=>(f122 W (ok_pre (H1:=[_,_]) (R1:=[_,_]) hS (fun W h=>h))).take 5) rfl) ?_
   refine g_e rfl (e_alloc 100060 Try.zeroValue42) (fun g124 _=>?_)
   refine g_storeL (tag:=100060) rfl rfl rfl rfl Try.sizeOf42 rfl rfl<|g_nil<|d_then<|c_seq<|c_region<|g_v rfl r_move<|g_v rfl (r_loadA (tag:=100060) rfl rfl Try.isAgg42 Try.sizeOf42 rfl rfl) ?_
   replace hm:=bnd hm
   obtain ⟨⟨x125,x126⟩,hx127,hm⟩:=hm
   refine g_cnv ⟨w0,M,(1000,go0,.cells #[.pointer (some ⟨go1,0,none⟩)] 130 (0,0))::(1001,go1,.cells #[.slice A88 l87.length c89,mapV A91] 150 (0,0))::(100060,g124,.cells #[.string x120.fName,.int .u16 x120.fType,.int .u16 x120.fClass,.int .u32 x120.fTTL,.string x120.fData] 42 (0,0))::H,(1000,⟨.slice A88 l87.length c89,5,1,l87.length,l87.flatMap (fun x : Int=>[Value.int .u8 x])⟩)::(1001,⟨mapV A91,148,2,l90.length,l90.flatMap (mcell (fun x : ByteArray=>Value.string x) (fun x : Int=>Value.int .i64 x))⟩)::R,φ⟩ (fun W h=>(ok_front (t:=1000) (t':=1000) (ok_front (t:=1001) (t':=1001) (ok_frontR (t:=1000) (t':=1000) (ok_frontR (t:=1001) (t':=1001) h rfl) rfl) rfl) rfl)) Try.call94 rfl rfl rfl (c_message_whole_c2 x120 go0 go1 (⟨l87,l90⟩ : Gpack_Packer) A88 c89 hc89 A91 c92 trivial _ hx127) (fun ⟨A128,c129,A131,c132⟩ ⟨hc129,hc132⟩=>?_)
   refine g_sta _ (fun W h=>(ok_frontR (t:=2000) (t':=1000) (ok_frontR (t:=2001) (t':=1001) (ok_front (t:=1000) (t':=1000) (ok_front (t:=1001) (t':=1001) h rfl) rfl) rfl) rfl))<|g_v rfl r_assign<|g_nil<|d_then ?_
   refine c_flat [(1,.func (.func 94) #[] #[.pointer (some ⟨go0,0,none⟩)]),(7,.int .i64 x125),(8,.slice Ap0_0 p0.length cp0_0),(9,.int .i64 (p0.length : Int)),(10,.int .i64 i93)] ⟨rfl,rfl,rfl,rfl,rfl,trivial⟩ (fun u=>?_)
   refine c_sta ⟨w0,M,(1000,go0,.cells #[.pointer (some ⟨go1,0,none⟩)] 130 (0,0))::(1001,go1,.cells #[.slice A128 x126.fb.length c129,mapV A131] 150 (0,0))::(100060,g124,.cells #[.string x120.fName,.int .u16 x120.fType,.int .u16 x120.fClass,.int .u32 x120.fTTL,.string x120.fData] 42 (0,0))::H,(1000,⟨.slice A128 x126.fb.length c129,5,1,x126.fb.length,x126.fb.flatMap (fun x : Int=>[Value.int .u8 x])⟩)::(1001,⟨mapV A131,148,2,x126.fplaces.length,x126.fplaces.flatMap (mcell (fun x : ByteArray=>Value.string x) (fun x : Int=>Value.int .i64 x))⟩)::R,φ⟩ (fun _ h=>h)<|c_seq<|c_region<|g_v rfl r_move<|g_v rfl (r_neq rfl rfl)<|g_nil<|d_then ?_
   refine c_cond rfl (fun h135=>?_) (fun h135=>?_)
   ·
    replace hm:=ite_t hm (of_decide_eq_true h135)
    refine c_seq<|c_region<|g_v rfl r_move<|g_v rfl r_assign<|g_nil<|d_then<|c_ret<|d_ret_block<|d_ret_then<|d_ret_then ?_
    refine d_ret_block<|d_ret_then<|d_ret_then ?_
    replace hm:=nx_out (C:=(fun e : ((List Int)×(List (ByteArray×Int))) ⊕ (Int×Gpack_Packer)=>Sum.elim (fun e=>m_message_each_93_j1 e.1 e.2) (fun x=>some x) e = some r)) hm hnx2 hr2
    replace hm : some (x125,x126) = some r:=hm
    cases hm
    refine d_sta _ (fun W h=>ok_frontR (t:=1001) (t':=2001) h rfl)<|d_sta _ (fun W h=>ok_frontR (t:=1000) (t':=2000) h rfl) ?_
    exact d_retC (A128,c129,A131,c132) Try.results93 (res_tmp (res_nil rfl)) ⟨hc129,hc132⟩ (fun W h=>(h.dropH (t:=100060) rfl).phi (fun W hφ=>hφ)) (.inr rfl)
   replace hm:=ite_f hm (of_decide_eq_false h135)
   refine c_skip<|d_normal_block<|d_then<|c_region<|g_v rfl (r_add rfl rfl rfl)<|g_v rfl r_move<|g_nil ?_
   obtain ⟨n136,hn136,hlp⟩:=nx_inl hm hnx2
   exact d_round (n136,x126.fb,x126.fplaces,w64 (i93 + 1),A128,c129,A131,c132) ⟨hlp,hc129,trivial⟩ hn136 ⟨rfl,rfl,rfl,rfl,trivial⟩ (fun W h=>(h.dropH (t:=100060) rfl).phi (fun W hφ=>hφ))
  replace hm:=ite_f hm (of_decide_eq_false h119)
  refine c_exit<|d_exit_then<|d_exit_then<|d_exit_block ?_
  replace hm:=nx_out (C:=(fun e : ((List Int)×(List (ByteArray×Int))) ⊕ (Int×Gpack_Packer)=>Sum.elim (fun e=>m_message_each_93_j1 e.1 e.2) (fun x=>some x) e = some r)) hm hnx2 hr2
  exact d_round (l87,l90,A88,c89,A91,c92) ⟨hm,hc89,trivial⟩ Nat.zero_lt_one trivial (fun W h=>h.phi (fun W hφ=>hφ))
 unfold m_message_each_93_j1 at hm
 refine d_flat [] trivial (fun u=>?_)
 refine d_sta ⟨w0,M,(1000,go0,.cells #[.pointer (some ⟨go1,0,none⟩)] 130 (0,0))::(1001,go1,.cells #[.slice A58 l57.length c59,mapV A61] 150 (0,0))::H,(1000,⟨.slice A58 l57.length c59,5,1,l57.length,l57.flatMap (fun x : Int=>[Value.int .u8 x])⟩)::(1001,⟨mapV A61,148,2,l60.length,l60.flatMap (mcell (fun x : ByteArray=>Value.string x) (fun x : Int=>Value.int .i64 x))⟩)::R,φ⟩ (fun _ h=>h)<|d_then<|c_seq<|c_region<|g_v rfl r_assign<|g_nil<|d_then<|c_ret ?_
 cases hm
 refine d_sta _ (fun W h=>ok_frontR (t:=1001) (t':=2001) h rfl)<|d_sta _ (fun W h=>ok_frontR (t:=1000) (t':=2000) h rfl) ?_
 exact d_retC (A58,c59,A61,c62) Try.results93 (res_tmp (res_nil rfl)) ⟨hc59,hc62⟩ (fun W h=>h.phi (fun W hφ=>hφ)) (.inr rfl)
noncomputable def m_pack_Packer_Bytes (o0 : Gpack_Packer) : Option ByteArray:=
  some (strOfNums o0.fb)
theorem c_pack_Packer_Bytes {w0 : World} {M : Nat→Prop} {H : List (Nat×Nat×Obj)} {R : List (Nat×Row)} {φ : World→Prop} (go0 : Nat) (o0 : Gpack_Packer) (Ao0_0 : Option Addr) (co0_0 : Nat) (hco0_0 : o0.fb.length ≤ co0_0) (Ao0_1 : Option Addr) (co0_1 : Nat) (hco0_1 : True) (r : ByteArray) (hm : m_pack_Packer_Bytes o0 = some r) :
    Cn Try.prog 96 #[.pointer (some ⟨go0,0,none⟩)] ⟨w0,M,(1000,go0,.cells #[.slice Ao0_0 o0.fb.length co0_0,mapV Ao0_1] 150 (0,0))::H,(1000,⟨.slice Ao0_0 o0.fb.length co0_0,5,1,o0.fb.length,o0.fb.flatMap (fun x : Int=>[Value.int .u8 x])⟩)::(1001,⟨mapV Ao0_1,148,2,o0.fplaces.length,o0.fplaces.flatMap (mcell (fun x : ByteArray=>Value.string x) (fun x : Int=>Value.int .i64 x))⟩)::R,φ⟩ (fun x : Unit=>.string r) (fun x=>True) (fun x=>⟨w0,M,(1000,go0,.cells #[.slice Ao0_0 o0.fb.length co0_0,mapV Ao0_1] 150 (0,0))::H,(1000,⟨.slice Ao0_0 o0.fb.length co0_0,5,1,o0.fb.length,o0.fb.flatMap (fun x : Int=>[Value.int .u8 x])⟩)::(1001,⟨mapV Ao0_1,148,2,o0.fplaces.length,o0.fplaces.flatMap (mcell (fun x : ByteArray=>Value.string x) (fun x : Int=>Value.int .i64 x))⟩)::R,φ⟩):=by
 unfold m_pack_Packer_Bytes at hm
 refine cn_intro (fn:=Try.f96) (N:=10) Try.func96 rfl Try.ntmps96 rfl<|c_seq<|c_region<|g_v rfl r_assign<|g_nil<|d_then<|c_seq<|c_seq<|c_region<|g_v rfl r_move ?_
 refine g_v rfl (r_eqlP1 Try.underlying130 rfl rfl)<|g_nil<|d_then<|c_cond0 rfl rfl<|c_skip<|d_then<|c_seq<|c_region<|g_v rfl r_move<|g_v rfl (r_nilck rfl) ?_
 refine g_v rfl (r_field (n:=0) Try.underlying150 rfl Try.sizeOf66 rfl rfl)<|g_v rfl (r_load (tag:=1000) rfl rfl rfl Try.isAgg66)<|g_v rfl (r_textE Try.underlying66 Try.underlying5 Try.underlying9 rfl (fun W hS=>rowCl (tag:=1000) rfl W hS))<|g_v rfl r_assign<|g_nil<|d_then ?_
 refine c_flat [(2,.string (strOfNums o0.fb))] ⟨rfl,trivial⟩ (fun u=>?_)
 refine c_sta ⟨w0,M,(1000,go0,.cells #[.slice Ao0_0 o0.fb.length co0_0,mapV Ao0_1] 150 (0,0))::H,(1000,⟨.slice Ao0_0 o0.fb.length co0_0,5,1,o0.fb.length,o0.fb.flatMap (fun x : Int=>[Value.int .u8 x])⟩)::(1001,⟨mapV Ao0_1,148,2,o0.fplaces.length,o0.fplaces.flatMap (mcell (fun x : ByteArray=>Value.string x) (fun x : Int=>Value.int .i64 x))⟩)::R,φ⟩ (fun _ h=>h)<|c_ret ?_
 cases hm
 exact d_retC () Try.results96 (res_tmp (res_nil rfl)) trivial (fun W h=>h.phi (fun W hφ=>hφ)) (.inr rfl)
noncomputable def m_message_whole (p0 : GMessage) : Option (ByteArray×Int):=
  if p0.fOpcode < 0 then
    some ((⟨#[]⟩ : ByteArray),1)
  else
    if 15 < p0.fOpcode then
      some ((⟨#[]⟩ : ByteArray),1)
    else
      if p0.fCode < 0 then
        some ((⟨#[]⟩ : ByteArray),1)
      else
        if 15 < p0.fCode then
          some ((⟨#[]⟩ : ByteArray),1)
        else
          if 65535 < (max (max (max (p0.fQuestions.length : Int) (p0.fAnswers.length : Int)) (p0.fAuthorities.length : Int)) (p0.fExtras.length : Int)) then
            some ((⟨#[]⟩ : ByteArray),1)
          else
            (m_pack_New).bind fun x7=>
            (m_pack_Packer_Word p0.fID x7).bind fun x17=>
            (m_message_flags_put (IntKind.u16.wrap (orI .i64 (w64 (p0.fOpcode * 2048)) p0.fCode)) 32768 p0.fResponse).bind fun x42=>
            (m_message_flags_put x42 1024 p0.fAuthoritative).bind fun x44=>
            (m_message_flags_put x44 512 p0.fTruncated).bind fun x46=>
            (m_message_flags_put x46 256 p0.fDesired).bind fun x48=>
            (m_message_flags_put x48 128 p0.fAvailable).bind fun x50=>
            (m_pack_Packer_Word x50 (⟨x17.fb,x7.fplaces⟩ : Gpack_Packer)).bind fun x52=>
            (m_pack_Packer_Word (IntKind.u16.wrap (p0.fQuestions.length : Int)) (⟨x52.fb,x7.fplaces⟩ : Gpack_Packer)).bind fun x57=>
            (m_message_sections p0).bind fun x62=>
            (m_pack_Packer_Word (IntKind.u16.wrap (x62.a0.length : Int)) (⟨x57.fb,x7.fplaces⟩ : Gpack_Packer)).bind fun x74=>
            (m_pack_Packer_Word (IntKind.u16.wrap (x62.a1.length : Int)) (⟨x74.fb,x7.fplaces⟩ : Gpack_Packer)).bind fun x79=>
            (m_pack_Packer_Word (IntKind.u16.wrap (x62.a2.length : Int)) (⟨x79.fb,x7.fplaces⟩ : Gpack_Packer)).bind fun x84=>
            (m_message_each_90 p0.fQuestions (⟨x84.fb,x7.fplaces⟩ : Gpack_Packer)).bind fun (z98 : Int×Gpack_Packer)=>
            if z98.1 ≠ 0 then
              some ((⟨#[]⟩ : ByteArray),z98.1)
            else
              (m_message_sections p0).bind fun x100=>
              (m_message_each_93 x100.a0 z98.2).bind fun (z121 : Int×Gpack_Packer)=>
              if z121.1 ≠ 0 then
                some ((⟨#[]⟩ : ByteArray),z121.1)
              else
                (m_message_each_93 x100.a1 z121.2).bind fun (z132 : Int×Gpack_Packer)=>
                if z132.1 ≠ 0 then
                  some ((⟨#[]⟩ : ByteArray),z132.1)
                else
                  (m_message_each_93 x100.a2 z132.2).bind fun (z143 : Int×Gpack_Packer)=>
                  if z143.1 ≠ 0 then
                    some ((⟨#[]⟩ : ByteArray),z143.1)
                  else
                    (m_pack_Packer_Bytes z143.2).bind fun x145=>
                    some (x145,0)
theorem c_message_whole {w0 : World} {M : Nat→Prop} {H : List (Nat×Nat×Obj)} {R : List (Nat×Row)} {φ : World→Prop} (p0 : GMessage) (Ap0_0 : Option Addr) (cp0_0 : Nat) (hcp0_0 : p0.fQuestions.length ≤ cp0_0) (fp0_0 : ∀ W,(Sta.mk w0 M H R φ).ok W→Cl W Ap0_0 (p0.fQuestions.flatMap GQuestion.enc)) (Ap0_1 : Option Addr) (cp0_1 : Nat) (hcp0_1 : p0.fAnswers.length ≤ cp0_1) (fp0_1 : ∀ W,φ W→Cl W Ap0_1 (p0.fAnswers.flatMap GRR.enc)) (Ap0_2 : Option Addr) (cp0_2 : Nat) (hcp0_2 : p0.fAuthorities.length ≤ cp0_2) (fp0_2 : ∀ W,φ W→Cl W Ap0_2 (p0.fAuthorities.flatMap GRR.enc)) (Ap0_3 : Option Addr) (cp0_3 : Nat) (hcp0_3 : p0.fExtras.length ≤ cp0_3) (fp0_3 : ∀ W,φ W→Cl W Ap0_3 (p0.fExtras.flatMap GRR.enc)) (r : ByteArray×Int) (hm : m_message_whole p0 = some r) :
    Cn Try.prog 69 #[.agg #[.int .u16 p0.fID,.bool p0.fResponse,.bool p0.fAuthoritative,.bool p0.fTruncated,.bool p0.fDesired,.bool p0.fAvailable,.int .i64 p0.fOpcode,.int .i64 p0.fCode,.slice Ap0_0 p0.fQuestions.length cp0_0,.slice Ap0_1 p0.fAnswers.length cp0_1,.slice Ap0_2 p0.fAuthorities.length cp0_2,.slice Ap0_3 p0.fExtras.length cp0_3]] ⟨w0,M,H,R,φ⟩ (fun x : Unit=>.tuple #[.string r.1,.int .i64 r.2]) (fun x=>True) (fun x=>⟨w0,M,H,R,φ⟩):=by
 unfold m_message_whole at hm
 refine cn_intro (fn:=Try.f69) (N:=114) Try.func69 rfl Try.ntmps69 rfl<|c_seq<|c_region ?_
 refine g_e rfl (e_box 100010 rfl) (fun g1 _=>?_)
 refine g_v rfl r_assign<|g_v rfl r_assign<|g_nil<|d_then<|c_seq<|c_seq<|c_region<|g_v rfl (r_field (n:=6) Try.underlying26 rfl Try.sizeOf3 rfl rfl)<|g_v rfl (r_load (tag:=100010) rfl rfl rfl Try.isAgg3)<|g_v rfl (r_lss rfl rfl) ?_
 refine g_v rfl r_move<|g_sta ⟨w0,M,(100010,g1,.cells #[.int .u16 p0.fID,.bool p0.fResponse,.bool p0.fAuthoritative,.bool p0.fTruncated,.bool p0.fDesired,.bool p0.fAvailable,.int .i64 p0.fOpcode,.int .i64 p0.fCode,.slice Ap0_0 p0.fQuestions.length cp0_0,.slice Ap0_1 p0.fAnswers.length cp0_1,.slice Ap0_2 p0.fAuthorities.length cp0_2,.slice Ap0_3 p0.fExtras.length cp0_3] 26 (0,0))::H,R,φ⟩ (fun _ h=>h) ?_
 refine g_if rfl rfl rfl rfl rfl (fun h2=>?_) (fun h2=>?_)
 ·
  replace hm:=ite_f hm (of_decide_eq_false h2)
  refine g_v rfl (r_field (n:=6) Try.underlying26 rfl Try.sizeOf3 rfl rfl)<|g_do rfl rfl rfl rfl rfl h2<|g_v rfl (r_load (tag:=100010) rfl rfl rfl Try.isAgg3)<|g_do rfl rfl rfl rfl rfl h2<|g_v rfl (r_gtr rfl rfl)<|g_v rfl (r_pick0 rfl h2)<|g_v rfl r_move ?_
  refine g_if rfl rfl rfl rfl rfl (fun h3=>?_) (fun h3=>?_)
  ·
   replace hm:=ite_f hm (of_decide_eq_false h3)
   refine g_v rfl (r_field (n:=7) Try.underlying26 rfl Try.sizeOf3 rfl rfl)<|g_do rfl rfl rfl rfl rfl h3<|g_v rfl (r_load (tag:=100010) rfl rfl rfl Try.isAgg3)<|g_do rfl rfl rfl rfl rfl h3<|g_v rfl (r_lss rfl rfl)<|g_v rfl (r_pick0 rfl h3)<|g_v rfl r_move ?_
   refine g_if rfl rfl rfl rfl rfl (fun h4=>?_) (fun h4=>?_)
   ·
    replace hm:=ite_f hm (of_decide_eq_false h4)
    refine g_v rfl (r_field (n:=7) Try.underlying26 rfl Try.sizeOf3 rfl rfl)<|g_do rfl rfl rfl rfl rfl h4<|g_v rfl (r_load (tag:=100010) rfl rfl rfl Try.isAgg3)<|g_do rfl rfl rfl rfl rfl h4<|g_v rfl (r_gtr rfl rfl)<|g_v rfl (r_pick0 rfl h4)<|g_v rfl r_move ?_
    refine g_if rfl rfl rfl rfl rfl (fun h5=>?_) (fun h5=>?_)
    ·
     replace hm:=ite_f hm (of_decide_eq_false h5)
     refine g_v rfl (r_field (n:=8) Try.underlying26 rfl Try.sizeOf23 rfl rfl)<|g_do rfl rfl rfl rfl rfl h5<|g_v rfl (r_load (tag:=100010) rfl rfl rfl Try.isAgg23)<|g_do rfl rfl rfl rfl rfl h5<|g_v rfl (r_lenL Try.underlying23 rfl)<|g_do rfl rfl rfl rfl rfl h5<|g_v rfl (r_field (n:=9) Try.underlying26 rfl Try.sizeOf24 rfl rfl)<|g_do rfl rfl rfl rfl rfl h5<|g_v rfl (r_load (tag:=100010) rfl rfl rfl Try.isAgg24)<|g_do rfl rfl rfl rfl rfl h5 ?_
     refine g_v rfl (r_lenL Try.underlying24 rfl)<|g_do rfl rfl rfl rfl rfl h5<|g_v rfl (r_field (n:=10) Try.underlying26 rfl Try.sizeOf24 rfl rfl)<|g_do rfl rfl rfl rfl rfl h5<|g_v rfl (r_load (tag:=100010) rfl rfl rfl Try.isAgg24)<|g_do rfl rfl rfl rfl rfl h5<|g_v rfl (r_lenL Try.underlying24 rfl)<|g_do rfl rfl rfl rfl rfl h5<|g_v rfl (r_field (n:=11) Try.underlying26 rfl Try.sizeOf24 rfl rfl)<|g_do rfl rfl rfl rfl rfl h5 ?_
     refine g_v rfl (r_load (tag:=100010) rfl rfl rfl Try.isAgg24)<|g_do rfl rfl rfl rfl rfl h5<|g_v rfl (r_lenL Try.underlying24 rfl)<|g_do rfl rfl rfl rfl rfl h5<|g_v rfl (r_max4 rfl rfl rfl rfl)<|g_do rfl rfl rfl rfl rfl h5<|g_v rfl (r_gtr rfl rfl)<|g_v rfl (r_pick0 rfl h5)<|g_nil<|d_then ?_
     refine c_flat [(1,.pointer (some ⟨g1,0,none⟩)),(45,.bool (decide (65535 < (max (max (max (p0.fQuestions.length : Int) (p0.fAnswers.length : Int)) (p0.fAuthorities.length : Int)) (p0.fExtras.length : Int)))))] ⟨rfl,rfl,trivial⟩ (fun u=>?_)
     refine c_cond rfl (fun h6=>?_) (fun h6=>?_)
     ·
      replace hm:=ite_t hm (of_decide_eq_true h6)
      refine c_seq<|c_region<|g_v rfl r_assign<|g_v rfl r_assign<|g_nil<|d_then<|c_ret<|d_ret_then ?_
      cases hm
      exact d_retC () Try.results69 (res_tmp (res_tmp (res_nil rfl))) trivial (fun W h=>ok_pre (H1:=[_]) (R1:=[]) h (fun W hφ=>hφ)) (.inr rfl)
     replace hm:=ite_f hm (of_decide_eq_false h6)
     refine c_skip<|d_then<|c_seq<|c_region ?_
     replace hm:=bnd hm
     obtain ⟨x7,hx8,hm⟩:=hm
     refine g_cn ⟨w0,M,_,_,φ⟩ (fun _ h=>h) Try.call86 rfl rfl (c_pack_New  _ hx8) (fun ⟨A9,c10,A12,c13,g15⟩ ⟨hc10,hc13⟩=>?_)
     refine g_sta _ (fun W h=>(ok_frontR (t:=2000) (t':=100460) (ok_frontR (t:=2001) (t':=100461) (ok_front (t:=3000) (t':=100465) h rfl) rfl) rfl)) ?_
     refine g_e rfl (e_alloc 100040 Try.zeroValue130) (fun g16 _=>?_)
     refine g_storeL (tag:=100040) rfl rfl rfl rfl Try.sizeOf130 rfl rfl<|g_nil<|d_then<|c_seq<|c_region<|g_v rfl (r_load (tag:=100040) rfl rfl rfl Try.isAgg130)<|g_v rfl (r_field (n:=0) Try.underlying26 rfl Try.sizeOf22 rfl rfl)<|g_v rfl (r_load (tag:=100010) rfl rfl rfl Try.isAgg22) ?_
     replace hm:=bnd hm
     obtain ⟨x17,hx18,hm⟩:=hm
     refine g_cn ⟨w0,M,(1000,g15,.cells #[.slice A9 x7.fb.length c10,mapV A12] 150 (0,0))::(100040,g16,.cells #[.pointer (some ⟨g15,0,none⟩)] 130 (0,0))::(100010,g1,.cells #[.int .u16 p0.fID,.bool p0.fResponse,.bool p0.fAuthoritative,.bool p0.fTruncated,.bool p0.fDesired,.bool p0.fAvailable,.int .i64 p0.fOpcode,.int .i64 p0.fCode,.slice Ap0_0 p0.fQuestions.length cp0_0,.slice Ap0_1 p0.fAnswers.length cp0_1,.slice Ap0_2 p0.fAuthorities.length cp0_2,.slice Ap0_3 p0.fExtras.length cp0_3] 26 (0,0))::H,(1000,⟨.slice A9 x7.fb.length c10,5,1,x7.fb.length,x7.fb.flatMap (fun x : Int=>[Value.int .u8 x])⟩)::(1001,⟨mapV A12,148,2,x7.fplaces.length,x7.fplaces.flatMap (mcell (fun x : ByteArray=>Value.string x) (fun x : Int=>Value.int .i64 x))⟩)::R,φ⟩ (fun W h=>(ok_front (t:=100465) (t':=1000) (ok_frontR (t:=100460) (t':=1000) (ok_frontR (t:=100461) (t':=1001) h rfl) rfl) rfl)) Try.call87 rfl rfl (c_pack_Packer_Word p0.fID g15 x7 A9 c10 hc10 A12 c13 trivial _ hx18) (fun ⟨A19,c20⟩ hc20=>?_)
     refine g_sta _ (fun W h=>(ok_frontR (t:=2000) (t':=100460) (ok_frontR (t:=1001) (t':=100461) (ok_front (t:=1000) (t':=100465) h rfl) rfl) rfl))<|g_nil<|d_then<|c_seq<|ga_start (n:=23) ⟨w0,M,(100465,g15,.cells #[.slice A19 x17.fb.length c20,mapV A12] 150 (0,0))::(100040,g16,.cells #[.pointer (some ⟨g15,0,none⟩)] 130 (0,0))::(100010,g1,.cells #[.int .u16 p0.fID,.bool p0.fResponse,.bool p0.fAuthoritative,.bool p0.fTruncated,.bool p0.fDesired,.bool p0.fAvailable,.int .i64 p0.fOpcode,.int .i64 p0.fCode,.slice Ap0_0 p0.fQuestions.length cp0_0,.slice Ap0_1 p0.fAnswers.length cp0_1,.slice Ap0_2 p0.fAuthorities.length cp0_2,.slice Ap0_3 p0.fExtras.length cp0_3] 26 (0,0))::H,(100460,⟨.slice A19 x17.fb.length c20,5,1,x17.fb.length,x17.fb.flatMap (fun x : Int=>[Value.int .u8 x])⟩)::(100461,⟨mapV A12,148,2,x7.fplaces.length,x7.fplaces.flatMap (mcell (fun x : ByteArray=>Value.string x) (fun x : Int=>Value.int .i64 x))⟩)::R,φ⟩ [] #[false,false,false,false,false,false,false,false,false,false,false,false,false,false,false,false,false,false,false,false,false,false,false] (fun W h=>h.phi (fun W hφ=>hφ)) mixed rfl rfl<|ga_v (i:=0) (bz 23 1) rfl (by kernel_rfl) (fun _ _ _ _ h=>h) rfl (r_field (n:=6) Try.underlying26 rfl Try.sizeOf3 rfl rfl)<|ga_v (i:=1) (bz 23 3) rfl (by kernel_rfl) (fun _ _ _ _ h=>h) rfl (r_load (tag:=100010) rfl rfl rfl Try.isAgg3)<|ga_v (i:=2) (bz 23 7) rfl (by kernel_rfl) (fun _ _ _ _ h=>h) rfl (r_shl (n:=2048) rfl rfl (by decide) (by decide) (by decide))<|ga_v (i:=3) (bz 23 15) rfl (by kernel_rfl) (fun _ _ _ _ h=>h) rfl (r_field (n:=7) Try.underlying26 rfl Try.sizeOf3 rfl rfl)<|ga_v (i:=4) (bz 23 31) rfl (by kernel_rfl) (fun _ _ _ _ h=>h) rfl (r_load (tag:=100010) rfl rfl rfl Try.isAgg3) ?_
     refine ga_v (i:=5) (bz 23 63) rfl (by kernel_rfl) (fun _ _ _ _ h=>h) rfl (r_bits_or rfl rfl)<|ga_v (i:=6) (bz 23 127) rfl (by kernel_rfl) (fun _ _ _ _ h=>h) rfl (r_conv Try.underlying3 Try.underlying114 rfl rfl)<|ga_v (i:=7) (bz 23 255) rfl (by kernel_rfl) (fun _ _ _ _ h=>h) rfl (r_field (n:=1) Try.underlying26 rfl Try.sizeOf4 rfl rfl)<|ga_v (i:=8) (bz 23 511) rfl (by kernel_rfl) (fun _ _ _ _ h=>h) rfl (r_load (tag:=100010) rfl rfl rfl Try.isAgg4)<|ga_v (i:=10) (bz 23 1535) rfl (by kernel_rfl) (fun _ _ _ _ h=>h) rfl (r_field (n:=2) Try.underlying26 rfl Try.sizeOf4 rfl rfl)<|ga_v (i:=11) (bz 23 3583) rfl (by kernel_rfl) (fun _ _ _ _ h=>h) rfl (r_load (tag:=100010) rfl rfl rfl Try.isAgg4)<|ga_v (i:=13) (bz 23 11775) rfl (by kernel_rfl) (fun _ _ _ _ h=>h) rfl (r_field (n:=3) Try.underlying26 rfl Try.sizeOf4 rfl rfl)<|ga_v (i:=14) (bz 23 28159) rfl (by kernel_rfl) (fun _ _ _ _ h=>h) rfl (r_load (tag:=100010) rfl rfl rfl Try.isAgg4)<|ga_v (i:=16) (bz 23 93695) rfl (by kernel_rfl) (fun _ _ _ _ h=>h) rfl (r_field (n:=4) Try.underlying26 rfl Try.sizeOf4 rfl rfl)<|ga_v (i:=17) (bz 23 224767) rfl (by kernel_rfl) (fun _ _ _ _ h=>h) rfl (r_load (tag:=100010) rfl rfl rfl Try.isAgg4) ?_
     refine ga_v (i:=19) (bz 23 749055) rfl (by kernel_rfl) (fun _ _ _ _ h=>h) rfl (r_field (n:=5) Try.underlying26 rfl Try.sizeOf4 rfl rfl)<|ga_v (i:=20) (bz 23 1797631) rfl (by kernel_rfl) (fun _ _ _ _ h=>h) rfl (r_load (tag:=100010) rfl rfl rfl Try.isAgg4) ?_
     replace hm:=bnd hm
     obtain ⟨x42,hx43,hm⟩:=hm
     refine ga_cn (first:=#[]) (i:=9) (bz 23 1798143) rfl (by kernel_rfl) (by decide)  ⟨w0,M,_,_,φ⟩ (fun _ h=>h) Try.call88 rfl rfl rfl (c_message_flags_put (IntKind.u16.wrap (orI .i64 (w64 (p0.fOpcode * 2048)) p0.fCode)) 32768 p0.fResponse _ hx43) (fun _ W _ h=>h.phi (fun W hφ=>hφ)) (fun _ _=>?_)
     replace hm:=bnd hm
     obtain ⟨x44,hx45,hm⟩:=hm
     refine ga_cn (first:=#[]) (i:=12) (bz 23 1802239) rfl (by kernel_rfl) (by decide)  ⟨w0,M,_,_,φ⟩ (fun _ h=>h) Try.call88 rfl rfl rfl (c_message_flags_put x42 1024 p0.fAuthoritative _ hx45) (fun _ W _ h=>h.phi (fun W hφ=>hφ)) (fun _ _=>?_)
     replace hm:=bnd hm
     obtain ⟨x46,hx47,hm⟩:=hm
     refine ga_cn (first:=#[]) (i:=15) (bz 23 1835007) rfl (by kernel_rfl) (by decide)  ⟨w0,M,_,_,φ⟩ (fun _ h=>h) Try.call88 rfl rfl rfl (c_message_flags_put x44 512 p0.fTruncated _ hx47) (fun _ W _ h=>h.phi (fun W hφ=>hφ)) (fun _ _=>?_)
     replace hm:=bnd hm
     obtain ⟨x48,hx49,hm⟩:=hm
     refine ga_cn (first:=#[]) (i:=18) (bz 23 2097151) rfl (by kernel_rfl) (by decide)  ⟨w0,M,_,_,φ⟩ (fun _ h=>h) Try.call88 rfl rfl rfl (c_message_flags_put x46 256 p0.fDesired _ hx49) (fun _ W _ h=>h.phi (fun W hφ=>hφ)) (fun _ _=>?_)
     replace hm:=bnd hm
     obtain ⟨x50,hx51,hm⟩:=hm
     refine ga_cn (first:=#[]) (i:=21) (bz 23 4194303) rfl (by kernel_rfl) (by decide)  ⟨w0,M,_,_,φ⟩ (fun _ h=>h) Try.call88 rfl rfl rfl (c_message_flags_put x48 128 p0.fAvailable _ hx51) (fun _ W _ h=>h.phi (fun W hφ=>hφ)) (fun _ _=>?_)
     refine ga_r (i:=22) (bz 23 8388607) rfl (by kernel_rfl) (by decide) rfl (r_assign)<|ga_done (by kernel_rfl)<|d_then ?_
     refine c_flat [(1,.pointer (some ⟨g1,0,none⟩)),(4,.pointer (some ⟨g16,0,none⟩)),(5,.int .u16 x50)] ⟨rfl,rfl,rfl,trivial⟩ (fun u=>?_)
     refine c_sta ⟨w0,M,(100465,g15,.cells #[.slice A19 x17.fb.length c20,mapV A12] 150 (0,0))::(100040,g16,.cells #[.pointer (some ⟨g15,0,none⟩)] 130 (0,0))::(100010,g1,.cells #[.int .u16 p0.fID,.bool p0.fResponse,.bool p0.fAuthoritative,.bool p0.fTruncated,.bool p0.fDesired,.bool p0.fAvailable,.int .i64 p0.fOpcode,.int .i64 p0.fCode,.slice Ap0_0 p0.fQuestions.length cp0_0,.slice Ap0_1 p0.fAnswers.length cp0_1,.slice Ap0_2 p0.fAuthorities.length cp0_2,.slice Ap0_3 p0.fExtras.length cp0_3] 26 (0,0))::H,(100460,⟨.slice A19 x17.fb.length c20,5,1,x17.fb.length,x17.fb.flatMap (fun x : Int=>[Value.int .u8 x])⟩)::(100461,⟨mapV A12,148,2,x7.fplaces.length,x7.fplaces.flatMap (mcell (fun x : ByteArray=>Value.string x) (fun x : Int=>Value.int .i64 x))⟩)::R,φ⟩ (fun _ h=>h)<|c_seq<|c_region<|g_v rfl (r_load (tag:=100040) rfl rfl rfl Try.isAgg130)<|g_v rfl r_move ?_
     replace hm:=bnd hm
     obtain ⟨x52,hx53,hm⟩:=hm
     refine g_cn ⟨w0,M,(1000,g15,.cells #[.slice A19 x17.fb.length c20,mapV A12] 150 (0,0))::(100040,g16,.cells #[.pointer (some ⟨g15,0,none⟩)] 130 (0,0))::(100010,g1,.cells #[.int .u16 p0.fID,.bool p0.fResponse,.bool p0.fAuthoritative,.bool p0.fTruncated,.bool p0.fDesired,.bool p0.fAvailable,.int .i64 p0.fOpcode,.int .i64 p0.fCode,.slice Ap0_0 p0.fQuestions.length cp0_0,.slice Ap0_1 p0.fAnswers.length cp0_1,.slice Ap0_2 p0.fAuthorities.length cp0_2,.slice Ap0_3 p0.fExtras.length cp0_3] 26 (0,0))::H,(1000,⟨.slice A19 x17.fb.length c20,5,1,x17.fb.length,x17.fb.flatMap (fun x : Int=>[Value.int .u8 x])⟩)::(1001,⟨mapV A12,148,2,x7.fplaces.length,x7.fplaces.flatMap (mcell (fun x : ByteArray=>Value.string x) (fun x : Int=>Value.int .i64 x))⟩)::R,φ⟩ (fun W h=>(ok_front (t:=100465) (t':=1000) (ok_frontR (t:=100460) (t':=1000) (ok_frontR (t:=100461) (t':=1001) h rfl) rfl) rfl)) Try.call87 rfl rfl (c_pack_Packer_Word x50 g15 (⟨x17.fb,x7.fplaces⟩ : Gpack_Packer) A19 c20 hc20 A12 c13 trivial _ hx53) (fun ⟨A54,c55⟩ hc55=>?_)
     refine g_sta _ (fun W h=>(ok_frontR (t:=2000) (t':=100460) (ok_frontR (t:=1001) (t':=100461) (ok_front (t:=1000) (t':=100465) h rfl) rfl) rfl))<|g_nil<|d_then<|c_seq<|c_region<|g_v rfl (r_load (tag:=100040) rfl rfl rfl Try.isAgg130)<|g_v rfl (r_field (n:=8) Try.underlying26 rfl Try.sizeOf23 rfl rfl)<|g_v rfl (r_load (tag:=100010) rfl rfl rfl Try.isAgg23)<|g_v rfl (r_lenL Try.underlying23 rfl)<|g_v rfl (r_conv Try.underlying3 Try.underlying22 rfl rfl) ?_
     replace hm:=bnd hm
     obtain ⟨x57,hx58,hm⟩:=hm
     refine g_cn ⟨w0,M,(1000,g15,.cells #[.slice A54 x52.fb.length c55,mapV A12] 150 (0,0))::(100040,g16,.cells #[.pointer (some ⟨g15,0,none⟩)] 130 (0,0))::(100010,g1,.cells #[.int .u16 p0.fID,.bool p0.fResponse,.bool p0.fAuthoritative,.bool p0.fTruncated,.bool p0.fDesired,.bool p0.fAvailable,.int .i64 p0.fOpcode,.int .i64 p0.fCode,.slice Ap0_0 p0.fQuestions.length cp0_0,.slice Ap0_1 p0.fAnswers.length cp0_1,.slice Ap0_2 p0.fAuthorities.length cp0_2,.slice Ap0_3 p0.fExtras.length cp0_3] 26 (0,0))::H,(1000,⟨.slice A54 x52.fb.length c55,5,1,x52.fb.length,x52.fb.flatMap (fun x : Int=>[Value.int .u8 x])⟩)::(1001,⟨mapV A12,148,2,x7.fplaces.length,x7.fplaces.flatMap (mcell (fun x : ByteArray=>Value.string x) (fun x : Int=>Value.int .i64 x))⟩)::R,φ⟩ (fun W h=>(ok_front (t:=100465) (t':=1000) (ok_frontR (t:=100460) (t':=1000) (ok_frontR (t:=100461) (t':=1001) h rfl) rfl) rfl)) Try.call87 rfl rfl (c_pack_Packer_Word (IntKind.u16.wrap (p0.fQuestions.length : Int)) g15 (⟨x52.fb,x7.fplaces⟩ : Gpack_Packer) A54 c55 hc55 A12 c13 trivial _ hx58) (fun ⟨A59,c60⟩ hc60=>?_)
     refine g_sta _ (fun W h=>(ok_frontR (t:=2000) (t':=100460) (ok_frontR (t:=1001) (t':=100461) (ok_front (t:=1000) (t':=100465) h rfl) rfl) rfl))<|g_nil<|d_then ?_
     refine c_flat [(1,.pointer (some ⟨g1,0,none⟩)),(4,.pointer (some ⟨g16,0,none⟩))] ⟨rfl,rfl,trivial⟩ (fun u=>?_)
     refine c_sta ⟨w0,M,(100465,g15,.cells #[.slice A59 x57.fb.length c60,mapV A12] 150 (0,0))::(100040,g16,.cells #[.pointer (some ⟨g15,0,none⟩)] 130 (0,0))::(100010,g1,.cells #[.int .u16 p0.fID,.bool p0.fResponse,.bool p0.fAuthoritative,.bool p0.fTruncated,.bool p0.fDesired,.bool p0.fAvailable,.int .i64 p0.fOpcode,.int .i64 p0.fCode,.slice Ap0_0 p0.fQuestions.length cp0_0,.slice Ap0_1 p0.fAnswers.length cp0_1,.slice Ap0_2 p0.fAuthorities.length cp0_2,.slice Ap0_3 p0.fExtras.length cp0_3] 26 (0,0))::H,(100460,⟨.slice A59 x57.fb.length c60,5,1,x57.fb.length,x57.fb.flatMap (fun x : Int=>[Value.int .u8 x])⟩)::(100461,⟨mapV A12,148,2,x7.fplaces.length,x7.fplaces.flatMap (mcell (fun x : ByteArray=>Value.string x) (fun x : Int=>Value.int .i64 x))⟩)::R,φ⟩ (fun _ h=>h)<|c_seq<|c_seq<|c_region<|g_v rfl (r_loadA (tag:=100010) rfl rfl Try.isAgg26 Try.sizeOf26 rfl rfl) ?_
     replace hm:=bnd hm
     obtain ⟨x62,hx63,hm⟩:=hm
     refine g_cn ⟨w0,M,_,_,φ⟩ (fun _ h=>h) Try.call89 rfl rfl (c_message_sections p0 Ap0_0 cp0_0 hcp0_0 (fun W hS=>fp0_0 W (ok_pre (H1:=[_,_,_]) (R1:=[_,_]) hS (fun W h=>h))) Ap0_1 cp0_1 hcp0_1 (fun W h=>fp0_1 W h) Ap0_2 cp0_2 hcp0_2 (fun W h=>fp0_2 W h) Ap0_3 cp0_3 hcp0_3 (fun W h=>fp0_3 W h) _ hx63) (fun ⟨A64,c65,A67,c68,A70,c71⟩ ⟨hc65,hc68,hc71⟩=>?_)
     refine g_abs (fun φ73 q73'=>?_)
     have q73 : ∀ W,φ73 W→φ W:=fun W h=>(q73' W h).1
     have f66:=fun (W : World) (h : φ73 W)=>(q73' W h).2.1
     have f69:=fun (W : World) (h : φ73 W)=>(q73' W h).2.2.1
     have f72:=fun (W : World) (h : φ73 W)=>(q73' W h).2.2.2
     refine g_v rfl r_move<|g_nil<|d_then<|c_block<|c_rounds 64<|c_seq<|c_region<|g_v rfl (r_lss rfl rfl)<|g_nil<|d_then ?_
     refine c_seq<|c_cond1 rfl (by decide)<|c_skip<|d_then<|c_seq<|c_block<|c_seq<|c_region<|g_v rfl (r_indexA Try.underlying134 Try.sizeOf24 Try.isAgg24 rfl rfl rfl rfl)<|g_v rfl r_assign ?_
     refine g_nil<|d_then<|c_region<|g_v rfl (r_load (tag:=100040) rfl rfl rfl Try.isAgg130)<|g_v rfl r_move<|g_v rfl (r_lenL Try.underlying24 rfl)<|g_v rfl (r_conv Try.underlying3 Try.underlying22 rfl rfl) ?_
     replace hm:=bnd hm
     obtain ⟨x74,hx75,hm⟩:=hm
     refine g_cn ⟨w0,M,(1000,g15,.cells #[.slice A59 x57.fb.length c60,mapV A12] 150 (0,0))::(100040,g16,.cells #[.pointer (some ⟨g15,0,none⟩)] 130 (0,0))::(100010,g1,.cells #[.int .u16 p0.fID,.bool p0.fResponse,.bool p0.fAuthoritative,.bool p0.fTruncated,.bool p0.fDesired,.bool p0.fAvailable,.int .i64 p0.fOpcode,.int .i64 p0.fCode,.slice Ap0_0 p0.fQuestions.length cp0_0,.slice Ap0_1 p0.fAnswers.length cp0_1,.slice Ap0_2 p0.fAuthorities.length cp0_2,.slice Ap0_3 p0.fExtras.length cp0_3] 26 (0,0))::H,(1000,⟨.slice A59 x57.fb.length c60,5,1,x57.fb.length,x57.fb.flatMap (fun x : Int=>[Value.int .u8 x])⟩)::(1001,⟨mapV A12,148,2,x7.fplaces.length,x7.fplaces.flatMap (mcell (fun x : ByteArray=>Value.string x) (fun x : Int=>Value.int .i64 x))⟩)::R,φ73⟩ (fun W h=>(ok_front (t:=100465) (t':=1000) (ok_frontR (t:=100460) (t':=1000) (ok_frontR (t:=100461) (t':=1001) h rfl) rfl) rfl)) Try.call87 rfl rfl (c_pack_Packer_Word (IntKind.u16.wrap (x62.a0.length : Int)) g15 (⟨x57.fb,x7.fplaces⟩ : Gpack_Packer) A59 c60 hc60 A12 c13 trivial _ hx75) (fun ⟨A76,c77⟩ hc77=>?_)
     refine g_sta _ (fun W h=>(ok_frontR (t:=2000) (t':=100460) (ok_frontR (t:=1001) (t':=100461) (ok_front (t:=1000) (t':=100465) h rfl) rfl) rfl))<|g_nil<|d_normal_block<|d_then ?_
     refine c_flat [(1,.pointer (some ⟨g1,0,none⟩)),(4,.pointer (some ⟨g16,0,none⟩)),(83,.agg #[.slice A64 x62.a0.length c65,.slice A67 x62.a1.length c68,.slice A70 x62.a2.length c71]),(84,.int .i64 0)] ⟨rfl,rfl,rfl,rfl,trivial⟩ (fun u=>?_)
     refine c_sta ⟨w0,M,(100465,g15,.cells #[.slice A76 x74.fb.length c77,mapV A12] 150 (0,0))::(100040,g16,.cells #[.pointer (some ⟨g15,0,none⟩)] 130 (0,0))::(100010,g1,.cells #[.int .u16 p0.fID,.bool p0.fResponse,.bool p0.fAuthoritative,.bool p0.fTruncated,.bool p0.fDesired,.bool p0.fAvailable,.int .i64 p0.fOpcode,.int .i64 p0.fCode,.slice Ap0_0 p0.fQuestions.length cp0_0,.slice Ap0_1 p0.fAnswers.length cp0_1,.slice Ap0_2 p0.fAuthorities.length cp0_2,.slice Ap0_3 p0.fExtras.length cp0_3] 26 (0,0))::H,(100460,⟨.slice A76 x74.fb.length c77,5,1,x74.fb.length,x74.fb.flatMap (fun x : Int=>[Value.int .u8 x])⟩)::(100461,⟨mapV A12,148,2,x7.fplaces.length,x7.fplaces.flatMap (mcell (fun x : ByteArray=>Value.string x) (fun x : Int=>Value.int .i64 x))⟩)::R,φ73⟩ (fun _ h=>h)<|c_region<|g_v rfl (r_add rfl rfl (show IntKind.i64.wrap (0 + 1) = 1 by decide))<|g_v rfl r_move<|g_nil<|d_rounds ?_
     refine c_flat [(1,.pointer (some ⟨g1,0,none⟩)),(4,.pointer (some ⟨g16,0,none⟩)),(83,.agg #[.slice A64 x62.a0.length c65,.slice A67 x62.a1.length c68,.slice A70 x62.a2.length c71]),(84,.int .i64 1)] ⟨rfl,rfl,rfl,rfl,trivial⟩ (fun u=>?_)
     refine c_seq<|c_region<|g_v rfl (r_lss rfl rfl)<|g_nil<|d_then<|c_seq<|c_cond1 rfl (by decide)<|c_skip<|d_then<|c_seq ?_
     refine c_block<|c_seq<|c_region<|g_v rfl (r_indexA Try.underlying134 Try.sizeOf24 Try.isAgg24 rfl rfl rfl rfl)<|g_v rfl r_assign<|g_nil<|d_then<|c_region<|g_v rfl (r_load (tag:=100040) rfl rfl rfl Try.isAgg130)<|g_v rfl r_move ?_
     refine g_v rfl (r_lenL Try.underlying24 rfl)<|g_v rfl (r_conv Try.underlying3 Try.underlying22 rfl rfl) ?_
     replace hm:=bnd hm
     obtain ⟨x79,hx80,hm⟩:=hm
     refine g_cn ⟨w0,M,(1000,g15,.cells #[.slice A76 x74.fb.length c77,mapV A12] 150 (0,0))::(100040,g16,.cells #[.pointer (some ⟨g15,0,none⟩)] 130 (0,0))::(100010,g1,.cells #[.int .u16 p0.fID,.bool p0.fResponse,.bool p0.fAuthoritative,.bool p0.fTruncated,.bool p0.fDesired,.bool p0.fAvailable,.int .i64 p0.fOpcode,.int .i64 p0.fCode,.slice Ap0_0 p0.fQuestions.length cp0_0,.slice Ap0_1 p0.fAnswers.length cp0_1,.slice Ap0_2 p0.fAuthorities.length cp0_2,.slice Ap0_3 p0.fExtras.length cp0_3] 26 (0,0))::H,(1000,⟨.slice A76 x74.fb.length c77,5,1,x74.fb.length,x74.fb.flatMap (fun x : Int=>[Value.int .u8 x])⟩)::(1001,⟨mapV A12,148,2,x7.fplaces.length,x7.fplaces.flatMap (mcell (fun x : ByteArray=>Value.string x) (fun x : Int=>Value.int .i64 x))⟩)::R,φ73⟩ (fun W h=>(ok_front (t:=100465) (t':=1000) (ok_frontR (t:=100460) (t':=1000) (ok_frontR (t:=100461) (t':=1001) h rfl) rfl) rfl)) Try.call87 rfl rfl (c_pack_Packer_Word (IntKind.u16.wrap (x62.a1.length : Int)) g15 (⟨x74.fb,x7.fplaces⟩ : Gpack_Packer) A76 c77 hc77 A12 c13 trivial _ hx80) (fun ⟨A81,c82⟩ hc82=>?_)
     refine g_sta _ (fun W h=>(ok_frontR (t:=2000) (t':=100460) (ok_frontR (t:=1001) (t':=100461) (ok_front (t:=1000) (t':=100465) h rfl) rfl) rfl))<|g_nil<|d_normal_block<|d_then<|c_region<|g_v rfl (r_add rfl rfl (show IntKind.i64.wrap (1 + 1) = 2 by decide))<|g_v rfl r_move<|g_nil<|d_rounds ?_
     refine c_flat [(1,.pointer (some ⟨g1,0,none⟩)),(4,.pointer (some ⟨g16,0,none⟩)),(83,.agg #[.slice A64 x62.a0.length c65,.slice A67 x62.a1.length c68,.slice A70 x62.a2.length c71]),(84,.int .i64 2)] ⟨rfl,rfl,rfl,rfl,trivial⟩ (fun u=>?_)
     refine c_sta ⟨w0,M,(100465,g15,.cells #[.slice A81 x79.fb.length c82,mapV A12] 150 (0,0))::(100040,g16,.cells #[.pointer (some ⟨g15,0,none⟩)] 130 (0,0))::(100010,g1,.cells #[.int .u16 p0.fID,.bool p0.fResponse,.bool p0.fAuthoritative,.bool p0.fTruncated,.bool p0.fDesired,.bool p0.fAvailable,.int .i64 p0.fOpcode,.int .i64 p0.fCode,.slice Ap0_0 p0.fQuestions.length cp0_0,.slice Ap0_1 p0.fAnswers.length cp0_1,.slice Ap0_2 p0.fAuthorities.length cp0_2,.slice Ap0_3 p0.fExtras.length cp0_3] 26 (0,0))::H,(100460,⟨.slice A81 x79.fb.length c82,5,1,x79.fb.length,x79.fb.flatMap (fun x : Int=>[Value.int .u8 x])⟩)::(100461,⟨mapV A12,148,2,x7.fplaces.length,x7.fplaces.flatMap (mcell (fun x : ByteArray=>Value.string x) (fun x : Int=>Value.int .i64 x))⟩)::R,φ73⟩ (fun _ h=>h)<|c_seq<|c_region<|g_v rfl (r_lss rfl rfl)<|g_nil<|d_then<|c_seq<|c_cond1 rfl (by decide)<|c_skip<|d_then ?_
     refine c_seq<|c_block<|c_seq<|c_region<|g_v rfl (r_indexA Try.underlying134 Try.sizeOf24 Try.isAgg24 rfl rfl rfl rfl)<|g_v rfl r_assign<|g_nil<|d_then<|c_region<|g_v rfl (r_load (tag:=100040) rfl rfl rfl Try.isAgg130) ?_
     refine g_v rfl r_move<|g_v rfl (r_lenL Try.underlying24 rfl)<|g_v rfl (r_conv Try.underlying3 Try.underlying22 rfl rfl) ?_
     replace hm:=bnd hm
     obtain ⟨x84,hx85,hm⟩:=hm
     refine g_cn ⟨w0,M,(1000,g15,.cells #[.slice A81 x79.fb.length c82,mapV A12] 150 (0,0))::(100040,g16,.cells #[.pointer (some ⟨g15,0,none⟩)] 130 (0,0))::(100010,g1,.cells #[.int .u16 p0.fID,.bool p0.fResponse,.bool p0.fAuthoritative,.bool p0.fTruncated,.bool p0.fDesired,.bool p0.fAvailable,.int .i64 p0.fOpcode,.int .i64 p0.fCode,.slice Ap0_0 p0.fQuestions.length cp0_0,.slice Ap0_1 p0.fAnswers.length cp0_1,.slice Ap0_2 p0.fAuthorities.length cp0_2,.slice Ap0_3 p0.fExtras.length cp0_3] 26 (0,0))::H,(1000,⟨.slice A81 x79.fb.length c82,5,1,x79.fb.length,x79.fb.flatMap (fun x : Int=>[Value.int .u8 x])⟩)::(1001,⟨mapV A12,148,2,x7.fplaces.length,x7.fplaces.flatMap (mcell (fun x : ByteArray=>Value.string x) (fun x : Int=>Value.int .i64 x))⟩)::R,φ73⟩ (fun W h=>(ok_front (t:=100465) (t':=1000) (ok_frontR (t:=100460) (t':=1000) (ok_frontR (t:=100461) (t':=1001) h rfl) rfl) rfl)) Try.call87 rfl rfl (c_pack_Packer_Word (IntKind.u16.wrap (x62.a2.length : Int)) g15 (⟨x79.fb,x7.fplaces⟩ : Gpack_Packer) A81 c82 hc82 A12 c13 trivial _ hx85) (fun ⟨A86,c87⟩ hc87=>?_)
     refine g_sta _ (fun W h=>(ok_frontR (t:=2000) (t':=100460) (ok_frontR (t:=1001) (t':=100461) (ok_front (t:=1000) (t':=100465) h rfl) rfl) rfl))<|g_nil<|d_normal_block<|d_then<|c_region<|g_v rfl (r_add rfl rfl (show IntKind.i64.wrap (2 + 1) = 3 by decide))<|g_v rfl r_move<|g_nil<|d_rounds ?_
     refine c_flat [(1,.pointer (some ⟨g1,0,none⟩)),(4,.pointer (some ⟨g16,0,none⟩)),(83,.agg #[.slice A64 x62.a0.length c65,.slice A67 x62.a1.length c68,.slice A70 x62.a2.length c71]),(84,.int .i64 3)] ⟨rfl,rfl,rfl,rfl,trivial⟩ (fun u=>?_)
     refine c_sta ⟨w0,M,(100465,g15,.cells #[.slice A86 x84.fb.length c87,mapV A12] 150 (0,0))::(100040,g16,.cells #[.pointer (some ⟨g15,0,none⟩)] 130 (0,0))::(100010,g1,.cells #[.int .u16 p0.fID,.bool p0.fResponse,.bool p0.fAuthoritative,.bool p0.fTruncated,.bool p0.fDesired,.bool p0.fAvailable,.int .i64 p0.fOpcode,.int .i64 p0.fCode,.slice Ap0_0 p0.fQuestions.length cp0_0,.slice Ap0_1 p0.fAnswers.length cp0_1,.slice Ap0_2 p0.fAuthorities.length cp0_2,.slice Ap0_3 p0.fExtras.length cp0_3] 26 (0,0))::H,(100460,⟨.slice A86 x84.fb.length c87,5,1,x84.fb.length,x84.fb.flatMap (fun x : Int=>[Value.int .u8 x])⟩)::(100461,⟨mapV A12,148,2,x7.fplaces.length,x7.fplaces.flatMap (mcell (fun x : ByteArray=>Value.string x) (fun x : Int=>Value.int .i64 x))⟩)::R,φ73⟩ (fun _ h=>h)<|c_seq<|c_region<|g_v rfl (r_lss rfl rfl)<|g_nil<|d_then<|c_seq<|c_cond0 rfl (by decide)<|c_exit<|d_exit_then ?_
     refine d_exit_then<|d_exit_block<|d_then<|c_seq<|c_region<|g_v rfl (r_field (n:=8) Try.underlying26 rfl Try.sizeOf23 rfl rfl)<|g_v rfl (r_load (tag:=100010) rfl rfl rfl Try.isAgg23)<|g_v rfl (r_mkf rfl) ?_
     replace hm:=bnd hm
     obtain ⟨⟨x89,x90⟩,hx91,hm⟩:=hm
     refine g_cn ⟨w0,M,(1000,g16,.cells #[.pointer (some ⟨g15,0,none⟩)] 130 (0,0))::(1001,g15,.cells #[.slice A86 x84.fb.length c87,mapV A12] 150 (0,0))::(100010,g1,.cells #[.int .u16 p0.fID,.bool p0.fResponse,.bool p0.fAuthoritative,.bool p0.fTruncated,.bool p0.fDesired,.bool p0.fAvailable,.int .i64 p0.fOpcode,.int .i64 p0.fCode,.slice Ap0_0 p0.fQuestions.length cp0_0,.slice Ap0_1 p0.fAnswers.length cp0_1,.slice Ap0_2 p0.fAuthorities.length cp0_2,.slice Ap0_3 p0.fExtras.length cp0_3] 26 (0,0))::H,(1000,⟨.slice A86 x84.fb.length c87,5,1,x84.fb.length,x84.fb.flatMap (fun x : Int=>[Value.int .u8 x])⟩)::(1001,⟨mapV A12,148,2,x7.fplaces.length,x7.fplaces.flatMap (mcell (fun x : ByteArray=>Value.string x) (fun x : Int=>Value.int .i64 x))⟩)::R,φ73⟩ (fun W h=>(ok_front (t:=100040) (t':=1000) (ok_front (t:=100465) (t':=1001) (ok_frontR (t:=100460) (t':=1000) (ok_frontR (t:=100461) (t':=1001) h rfl) rfl) rfl) rfl)) Try.call90 rfl rfl (c_message_each_90 p0.fQuestions Ap0_0 cp0_0 hcp0_0 (fun W hS=>fp0_0 W (ok_pre (H1:=[_]) (R1:=[]) hS (fun W h=>(q73 _ h)))) g16 g15 (⟨x84.fb,x7.fplaces⟩ : Gpack_Packer) A86 c87 hc87 A12 c13 trivial _ hx91) (fun ⟨A92,c93,A95,c96⟩ ⟨hc93,hc96⟩=>?_)
     refine g_sta _ (fun W h=>(ok_frontR (t:=2000) (t':=100460) (ok_frontR (t:=2001) (t':=100461) (ok_front (t:=1000) (t':=100040) (ok_front (t:=1001) (t':=100465) h rfl) rfl) rfl) rfl))<|g_v rfl r_assign<|g_nil<|d_then<|c_seq<|c_seq<|c_region<|g_v rfl r_move<|g_v rfl (r_neq rfl rfl)<|g_nil ?_
     refine d_then<|c_sta ⟨w0,M,(100040,g16,.cells #[.pointer (some ⟨g15,0,none⟩)] 130 (0,0))::(100465,g15,.cells #[.slice A92 x90.fb.length c93,mapV A95] 150 (0,0))::(100010,g1,.cells #[.int .u16 p0.fID,.bool p0.fResponse,.bool p0.fAuthoritative,.bool p0.fTruncated,.bool p0.fDesired,.bool p0.fAvailable,.int .i64 p0.fOpcode,.int .i64 p0.fCode,.slice Ap0_0 p0.fQuestions.length cp0_0,.slice Ap0_1 p0.fAnswers.length cp0_1,.slice Ap0_2 p0.fAuthorities.length cp0_2,.slice Ap0_3 p0.fExtras.length cp0_3] 26 (0,0))::H,(100460,⟨.slice A92 x90.fb.length c93,5,1,x90.fb.length,x90.fb.flatMap (fun x : Int=>[Value.int .u8 x])⟩)::(100461,⟨mapV A95,148,2,x90.fplaces.length,x90.fplaces.flatMap (mcell (fun x : ByteArray=>Value.string x) (fun x : Int=>Value.int .i64 x))⟩)::R,φ73⟩ (fun _ h=>h) ?_
     refine c_cond rfl (fun h99=>?_) (fun h99=>?_)
     ·
      replace hm:=ite_t hm (of_decide_eq_true h99)
      refine c_seq<|c_region<|g_v rfl r_move<|g_v rfl r_assign<|g_v rfl r_assign<|g_nil<|d_then ?_
      refine c_flat [(2,.string (⟨#[]⟩ : ByteArray)),(3,.int .i64 x89)] ⟨rfl,rfl,trivial⟩ (fun u=>?_)
      refine c_ret<|d_ret_then ?_
      cases hm
      exact d_retC () Try.results69 (res_tmp (res_tmp (res_nil rfl))) trivial (fun W h=>ok_pre (H1:=[_,_,_]) (R1:=[_,_]) h (fun W hφ=>(q73 _ hφ))) (.inr rfl)
     replace hm:=ite_f hm (of_decide_eq_false h99)
     refine c_skip<|d_then<|c_seq<|c_seq<|c_region<|g_v rfl (r_loadA (tag:=100010) rfl rfl Try.isAgg26 Try.sizeOf26 rfl rfl) ?_
     replace hm:=bnd hm
     obtain ⟨x100,hx101,hm⟩:=hm
     refine g_cn ⟨w0,M,_,_,φ73⟩ (fun _ h=>h) Try.call89 rfl rfl (c_message_sections p0 Ap0_0 cp0_0 hcp0_0 (fun W hS=>fp0_0 W (ok_pre (H1:=[_,_,_]) (R1:=[_,_]) hS (fun W h=>(q73 _ h)))) Ap0_1 cp0_1 hcp0_1 (fun W h=>fp0_1 W (q73 _ h)) Ap0_2 cp0_2 hcp0_2 (fun W h=>fp0_2 W (q73 _ h)) Ap0_3 cp0_3 hcp0_3 (fun W h=>fp0_3 W (q73 _ h)) _ hx101) (fun ⟨A102,c103,A105,c106,A108,c109⟩ ⟨hc103,hc106,hc109⟩=>?_)
     refine g_abs (fun φ111 q111'=>?_)
     have q111 : ∀ W,φ111 W→φ73 W:=fun W h=>(q111' W h).1
     have f104:=fun (W : World) (h : φ111 W)=>(q111' W h).2.1
     have f107:=fun (W : World) (h : φ111 W)=>(q111' W h).2.2.1
     have f110:=fun (W : World) (h : φ111 W)=>(q111' W h).2.2.2
     refine g_v rfl r_move<|g_nil<|d_then ?_
     refine c_flat [(4,.pointer (some ⟨g16,0,none⟩)),(101,.agg #[.slice A102 x100.a0.length c103,.slice A105 x100.a1.length c106,.slice A108 x100.a2.length c109]),(102,.int .i64 0)] ⟨rfl,rfl,rfl,trivial⟩ (fun u=>?_)
     refine c_sta ⟨w0,M,(100040,g16,.cells #[.pointer (some ⟨g15,0,none⟩)] 130 (0,0))::(100465,g15,.cells #[.slice A92 x90.fb.length c93,mapV A95] 150 (0,0))::(100010,g1,.cells #[.int .u16 p0.fID,.bool p0.fResponse,.bool p0.fAuthoritative,.bool p0.fTruncated,.bool p0.fDesired,.bool p0.fAvailable,.int .i64 p0.fOpcode,.int .i64 p0.fCode,.slice Ap0_0 p0.fQuestions.length cp0_0,.slice Ap0_1 p0.fAnswers.length cp0_1,.slice Ap0_2 p0.fAuthorities.length cp0_2,.slice Ap0_3 p0.fExtras.length cp0_3] 26 (0,0))::H,(100460,⟨.slice A92 x90.fb.length c93,5,1,x90.fb.length,x90.fb.flatMap (fun x : Int=>[Value.int .u8 x])⟩)::(100461,⟨mapV A95,148,2,x90.fplaces.length,x90.fplaces.flatMap (mcell (fun x : ByteArray=>Value.string x) (fun x : Int=>Value.int .i64 x))⟩)::R,φ111⟩ (fun _ h=>h)<|c_block<|c_rounds 64<|c_seq<|c_region<|g_v rfl (r_lss rfl rfl)<|g_nil<|d_then<|c_seq<|c_cond1 rfl (by decide) ?_
     refine c_skip<|d_then<|c_seq<|c_block<|c_seq<|c_region<|g_v rfl (r_indexA Try.underlying134 Try.sizeOf24 Try.isAgg24 rfl rfl rfl rfl)<|g_v rfl r_assign<|g_nil<|d_then ?_
     refine c_seq<|c_region<|g_v rfl r_move<|g_v rfl (r_mkf rfl) ?_
     replace hm:=bnd hm
     obtain ⟨⟨x112,x113⟩,hx114,hm⟩:=hm
     refine g_cn ⟨w0,M,(1000,g16,.cells #[.pointer (some ⟨g15,0,none⟩)] 130 (0,0))::(1001,g15,.cells #[.slice A92 x90.fb.length c93,mapV A95] 150 (0,0))::(100010,g1,.cells #[.int .u16 p0.fID,.bool p0.fResponse,.bool p0.fAuthoritative,.bool p0.fTruncated,.bool p0.fDesired,.bool p0.fAvailable,.int .i64 p0.fOpcode,.int .i64 p0.fCode,.slice Ap0_0 p0.fQuestions.length cp0_0,.slice Ap0_1 p0.fAnswers.length cp0_1,.slice Ap0_2 p0.fAuthorities.length cp0_2,.slice Ap0_3 p0.fExtras.length cp0_3] 26 (0,0))::H,(1000,⟨.slice A92 x90.fb.length c93,5,1,x90.fb.length,x90.fb.flatMap (fun x : Int=>[Value.int .u8 x])⟩)::(1001,⟨mapV A95,148,2,x90.fplaces.length,x90.fplaces.flatMap (mcell (fun x : ByteArray=>Value.string x) (fun x : Int=>Value.int .i64 x))⟩)::R,φ111⟩ (fun W h=>(ok_front (t:=100040) (t':=1000) (ok_front (t:=100465) (t':=1001) (ok_frontR (t:=100460) (t':=1000) (ok_frontR (t:=100461) (t':=1001) h rfl) rfl) rfl) rfl)) Try.call93 rfl rfl (c_message_each_93 x100.a0 A102 c103 hc103 (fun W hS=>f104 W hS.now) g16 g15 x90 A92 c93 hc93 A95 c96 trivial _ hx114) (fun ⟨A115,c116,A118,c119⟩ ⟨hc116,hc119⟩=>?_)
     refine g_sta _ (fun W h=>(ok_frontR (t:=2000) (t':=100460) (ok_frontR (t:=2001) (t':=100461) (ok_front (t:=1000) (t':=100040) (ok_front (t:=1001) (t':=100465) h rfl) rfl) rfl) rfl))<|g_v rfl r_assign<|g_nil<|d_then<|c_seq<|c_region<|g_v rfl r_move<|g_v rfl (r_neq rfl rfl)<|g_nil<|d_then ?_
     refine c_flat [(4,.pointer (some ⟨g16,0,none⟩)),(11,.int .i64 x112),(101,.agg #[.slice A102 x100.a0.length c103,.slice A105 x100.a1.length c106,.slice A108 x100.a2.length c109]),(102,.int .i64 0),(109,.bool (decide (x112 ≠ 0)))] ⟨rfl,rfl,rfl,rfl,rfl,trivial⟩ (fun u=>?_)
     refine c_sta ⟨w0,M,(100040,g16,.cells #[.pointer (some ⟨g15,0,none⟩)] 130 (0,0))::(100465,g15,.cells #[.slice A115 x113.fb.length c116,mapV A118] 150 (0,0))::(100010,g1,.cells #[.int .u16 p0.fID,.bool p0.fResponse,.bool p0.fAuthoritative,.bool p0.fTruncated,.bool p0.fDesired,.bool p0.fAvailable,.int .i64 p0.fOpcode,.int .i64 p0.fCode,.slice Ap0_0 p0.fQuestions.length cp0_0,.slice Ap0_1 p0.fAnswers.length cp0_1,.slice Ap0_2 p0.fAuthorities.length cp0_2,.slice Ap0_3 p0.fExtras.length cp0_3] 26 (0,0))::H,(100460,⟨.slice A115 x113.fb.length c116,5,1,x113.fb.length,x113.fb.flatMap (fun x : Int=>[Value.int .u8 x])⟩)::(100461,⟨mapV A118,148,2,x113.fplaces.length,x113.fplaces.flatMap (mcell (fun x : ByteArray=>Value.string x) (fun x : Int=>Value.int .i64 x))⟩)::R,φ111⟩ (fun _ h=>h) ?_
     refine c_cond rfl (fun h122=>?_) (fun h122=>?_)
     ·
      replace hm:=ite_t hm (of_decide_eq_true h122)
      refine c_seq<|c_region<|g_v rfl r_move<|g_v rfl r_assign<|g_v rfl r_assign<|g_nil<|d_then<|c_ret<|d_ret_block<|d_ret_then ?_
      refine d_ret_then<|d_ret_block<|d_ret_then ?_
      cases hm
      exact d_retC () Try.results69 (res_tmp (res_tmp (res_nil rfl))) trivial (fun W h=>ok_pre (H1:=[_,_,_]) (R1:=[_,_]) h (fun W hφ=>(q73 _ (q111 _ hφ)))) (.inr rfl)
     replace hm:=ite_f hm (of_decide_eq_false h122)
     refine c_skip<|d_normal_block<|d_then<|c_region<|g_v rfl (r_add rfl rfl (show IntKind.i64.wrap (0 + 1) = 1 by decide))<|g_v rfl r_move<|g_nil<|d_rounds ?_
     refine c_flat [(4,.pointer (some ⟨g16,0,none⟩)),(101,.agg #[.slice A102 x100.a0.length c103,.slice A105 x100.a1.length c106,.slice A108 x100.a2.length c109]),(102,.int .i64 1)] ⟨rfl,rfl,rfl,trivial⟩ (fun u=>?_)
     refine c_seq<|c_region<|g_v rfl (r_lss rfl rfl)<|g_nil<|d_then<|c_seq<|c_cond1 rfl (by decide)<|c_skip<|d_then<|c_seq ?_
     refine c_block<|c_seq<|c_region<|g_v rfl (r_indexA Try.underlying134 Try.sizeOf24 Try.isAgg24 rfl rfl rfl rfl)<|g_v rfl r_assign<|g_nil<|d_then<|c_seq<|c_region<|g_v rfl r_move ?_
     refine g_v rfl (r_mkf rfl) ?_
     replace hm:=bnd hm
     obtain ⟨⟨x123,x124⟩,hx125,hm⟩:=hm
     refine g_cn ⟨w0,M,(1000,g16,.cells #[.pointer (some ⟨g15,0,none⟩)] 130 (0,0))::(1001,g15,.cells #[.slice A115 x113.fb.length c116,mapV A118] 150 (0,0))::(100010,g1,.cells #[.int .u16 p0.fID,.bool p0.fResponse,.bool p0.fAuthoritative,.bool p0.fTruncated,.bool p0.fDesired,.bool p0.fAvailable,.int .i64 p0.fOpcode,.int .i64 p0.fCode,.slice Ap0_0 p0.fQuestions.length cp0_0,.slice Ap0_1 p0.fAnswers.length cp0_1,.slice Ap0_2 p0.fAuthorities.length cp0_2,.slice Ap0_3 p0.fExtras.length cp0_3] 26 (0,0))::H,(1000,⟨.slice A115 x113.fb.length c116,5,1,x113.fb.length,x113.fb.flatMap (fun x : Int=>[Value.int .u8 x])⟩)::(1001,⟨mapV A118,148,2,x113.fplaces.length,x113.fplaces.flatMap (mcell (fun x : ByteArray=>Value.string x) (fun x : Int=>Value.int .i64 x))⟩)::R,φ111⟩ (fun W h=>(ok_front (t:=100040) (t':=1000) (ok_front (t:=100465) (t':=1001) (ok_frontR (t:=100460) (t':=1000) (ok_frontR (t:=100461) (t':=1001) h rfl) rfl) rfl) rfl)) Try.call93 rfl rfl (c_message_each_93 x100.a1 A105 c106 hc106 (fun W hS=>f107 W hS.now) g16 g15 x113 A115 c116 hc116 A118 c119 trivial _ hx125) (fun ⟨A126,c127,A129,c130⟩ ⟨hc127,hc130⟩=>?_)
     refine g_sta _ (fun W h=>(ok_frontR (t:=2000) (t':=100460) (ok_frontR (t:=2001) (t':=100461) (ok_front (t:=1000) (t':=100040) (ok_front (t:=1001) (t':=100465) h rfl) rfl) rfl) rfl))<|g_v rfl r_assign<|g_nil<|d_then<|c_seq<|c_region<|g_v rfl r_move<|g_v rfl (r_neq rfl rfl)<|g_nil<|d_then ?_
     refine c_flat [(4,.pointer (some ⟨g16,0,none⟩)),(11,.int .i64 x123),(101,.agg #[.slice A102 x100.a0.length c103,.slice A105 x100.a1.length c106,.slice A108 x100.a2.length c109]),(102,.int .i64 1),(109,.bool (decide (x123 ≠ 0)))] ⟨rfl,rfl,rfl,rfl,rfl,trivial⟩ (fun u=>?_)
     refine c_sta ⟨w0,M,(100040,g16,.cells #[.pointer (some ⟨g15,0,none⟩)] 130 (0,0))::(100465,g15,.cells #[.slice A126 x124.fb.length c127,mapV A129] 150 (0,0))::(100010,g1,.cells #[.int .u16 p0.fID,.bool p0.fResponse,.bool p0.fAuthoritative,.bool p0.fTruncated,.bool p0.fDesired,.bool p0.fAvailable,.int .i64 p0.fOpcode,.int .i64 p0.fCode,.slice Ap0_0 p0.fQuestions.length cp0_0,.slice Ap0_1 p0.fAnswers.length cp0_1,.slice Ap0_2 p0.fAuthorities.length cp0_2,.slice Ap0_3 p0.fExtras.length cp0_3] 26 (0,0))::H,(100460,⟨.slice A126 x124.fb.length c127,5,1,x124.fb.length,x124.fb.flatMap (fun x : Int=>[Value.int .u8 x])⟩)::(100461,⟨mapV A129,148,2,x124.fplaces.length,x124.fplaces.flatMap (mcell (fun x : ByteArray=>Value.string x) (fun x : Int=>Value.int .i64 x))⟩)::R,φ111⟩ (fun _ h=>h) ?_
     refine c_cond rfl (fun h133=>?_) (fun h133=>?_)
     ·
      replace hm:=ite_t hm (of_decide_eq_true h133)
      refine c_seq<|c_region<|g_v rfl r_move<|g_v rfl r_assign<|g_v rfl r_assign<|g_nil<|d_then<|c_ret<|d_ret_block<|d_ret_then ?_
      refine d_ret_then<|d_ret_block<|d_ret_then ?_
      cases hm
      exact d_retC () Try.results69 (res_tmp (res_tmp (res_nil rfl))) trivial (fun W h=>ok_pre (H1:=[_,_,_]) (R1:=[_,_]) h (fun W hφ=>(q73 _ (q111 _ hφ)))) (.inr rfl)
     replace hm:=ite_f hm (of_decide_eq_false h133)
     refine c_skip<|d_normal_block<|d_then<|c_region<|g_v rfl (r_add rfl rfl (show IntKind.i64.wrap (1 + 1) = 2 by decide))<|g_v rfl r_move<|g_nil<|d_rounds ?_
     refine c_flat [(4,.pointer (some ⟨g16,0,none⟩)),(101,.agg #[.slice A102 x100.a0.length c103,.slice A105 x100.a1.length c106,.slice A108 x100.a2.length c109]),(102,.int .i64 2)] ⟨rfl,rfl,rfl,trivial⟩ (fun u=>?_)
     refine c_seq<|c_region<|g_v rfl (r_lss rfl rfl)<|g_nil<|d_then<|c_seq<|c_cond1 rfl (by decide)<|c_skip<|d_then<|c_seq ?_
     refine c_block<|c_seq<|c_region<|g_v rfl (r_indexA Try.underlying134 Try.sizeOf24 Try.isAgg24 rfl rfl rfl rfl)<|g_v rfl r_assign<|g_nil<|d_then<|c_seq<|c_region<|g_v rfl r_move ?_
     refine g_v rfl (r_mkf rfl) ?_
     replace hm:=bnd hm
     obtain ⟨⟨x134,x135⟩,hx136,hm⟩:=hm
     refine g_cn ⟨w0,M,(1000,g16,.cells #[.pointer (some ⟨g15,0,none⟩)] 130 (0,0))::(1001,g15,.cells #[.slice A126 x124.fb.length c127,mapV A129] 150 (0,0))::(100010,g1,.cells #[.int .u16 p0.fID,.bool p0.fResponse,.bool p0.fAuthoritative,.bool p0.fTruncated,.bool p0.fDesired,.bool p0.fAvailable,.int .i64 p0.fOpcode,.int .i64 p0.fCode,.slice Ap0_0 p0.fQuestions.length cp0_0,.slice Ap0_1 p0.fAnswers.length cp0_1,.slice Ap0_2 p0.fAuthorities.length cp0_2,.slice Ap0_3 p0.fExtras.length cp0_3] 26 (0,0))::H,(1000,⟨.slice A126 x124.fb.length c127,5,1,x124.fb.length,x124.fb.flatMap (fun x : Int=>[Value.int .u8 x])⟩)::(1001,⟨mapV A129,148,2,x124.fplaces.length,x124.fplaces.flatMap (mcell (fun x : ByteArray=>Value.string x) (fun x : Int=>Value.int .i64 x))⟩)::R,φ111⟩ (fun W h=>(ok_front (t:=100040) (t':=1000) (ok_front (t:=100465) (t':=1001) (ok_frontR (t:=100460) (t':=1000) (ok_frontR (t:=100461) (t':=1001) h rfl) rfl) rfl) rfl)) Try.call93 rfl rfl (c_message_each_93 x100.a2 A108 c109 hc109 (fun W hS=>f110 W hS.now) g16 g15 x124 A126 c127 hc127 A129 c130 trivial _ hx136) (fun ⟨A137,c138,A140,c141⟩ ⟨hc138,hc141⟩=>?_)
     refine g_sta _ (fun W h=>(ok_frontR (t:=2000) (t':=100460) (ok_frontR (t:=2001) (t':=100461) (ok_front (t:=1000) (t':=100040) (ok_front (t:=1001) (t':=100465) h rfl) rfl) rfl) rfl))<|g_v rfl r_assign<|g_nil<|d_then<|c_seq<|c_region<|g_v rfl r_move<|g_v rfl (r_neq rfl rfl)<|g_nil<|d_then ?_
     refine c_flat [(4,.pointer (some ⟨g16,0,none⟩)),(11,.int .i64 x134),(101,.agg #[.slice A102 x100.a0.length c103,.slice A105 x100.a1.length c106,.slice A108 x100.a2.length c109]),(102,.int .i64 2),(109,.bool (decide (x134 ≠ 0)))] ⟨rfl,rfl,rfl,rfl,rfl,trivial⟩ (fun u=>?_)
     refine c_sta ⟨w0,M,(100040,g16,.cells #[.pointer (some ⟨g15,0,none⟩)] 130 (0,0))::(100465,g15,.cells #[.slice A137 x135.fb.length c138,mapV A140] 150 (0,0))::(100010,g1,.cells #[.int .u16 p0.fID,.bool p0.fResponse,.bool p0.fAuthoritative,.bool p0.fTruncated,.bool p0.fDesired,.bool p0.fAvailable,.int .i64 p0.fOpcode,.int .i64 p0.fCode,.slice Ap0_0 p0.fQuestions.length cp0_0,.slice Ap0_1 p0.fAnswers.length cp0_1,.slice Ap0_2 p0.fAuthorities.length cp0_2,.slice Ap0_3 p0.fExtras.length cp0_3] 26 (0,0))::H,(100460,⟨.slice A137 x135.fb.length c138,5,1,x135.fb.length,x135.fb.flatMap (fun x : Int=>[Value.int .u8 x])⟩)::(100461,⟨mapV A140,148,2,x135.fplaces.length,x135.fplaces.flatMap (mcell (fun x : ByteArray=>Value.string x) (fun x : Int=>Value.int .i64 x))⟩)::R,φ111⟩ (fun _ h=>h) ?_
     refine c_cond rfl (fun h144=>?_) (fun h144=>?_)
     ·
      replace hm:=ite_t hm (of_decide_eq_true h144)
      refine c_seq<|c_region<|g_v rfl r_move<|g_v rfl r_assign<|g_v rfl r_assign<|g_nil<|d_then<|c_ret<|d_ret_block<|d_ret_then ?_
      refine d_ret_then<|d_ret_block<|d_ret_then ?_
      cases hm
      exact d_retC () Try.results69 (res_tmp (res_tmp (res_nil rfl))) trivial (fun W h=>ok_pre (H1:=[_,_,_]) (R1:=[_,_]) h (fun W hφ=>(q73 _ (q111 _ hφ)))) (.inr rfl)
     replace hm:=ite_f hm (of_decide_eq_false h144)
     refine c_skip<|d_normal_block<|d_then<|c_region<|g_v rfl (r_add rfl rfl (show IntKind.i64.wrap (2 + 1) = 3 by decide))<|g_v rfl r_move<|g_nil<|d_rounds ?_
     refine c_flat [(4,.pointer (some ⟨g16,0,none⟩)),(101,.agg #[.slice A102 x100.a0.length c103,.slice A105 x100.a1.length c106,.slice A108 x100.a2.length c109]),(102,.int .i64 3)] ⟨rfl,rfl,rfl,trivial⟩ (fun u=>?_)
     refine c_seq<|c_region<|g_v rfl (r_lss rfl rfl)<|g_nil<|d_then<|c_seq<|c_cond0 rfl (by decide)<|c_exit<|d_exit_then<|d_exit_then ?_
     refine d_exit_block<|d_then<|c_seq<|c_region<|g_v rfl (r_load (tag:=100040) rfl rfl rfl Try.isAgg130) ?_
     replace hm:=bnd hm
     obtain ⟨x145,hx146,hm⟩:=hm
     refine g_cn ⟨w0,M,(1000,g15,.cells #[.slice A137 x135.fb.length c138,mapV A140] 150 (0,0))::(100040,g16,.cells #[.pointer (some ⟨g15,0,none⟩)] 130 (0,0))::(100010,g1,.cells #[.int .u16 p0.fID,.bool p0.fResponse,.bool p0.fAuthoritative,.bool p0.fTruncated,.bool p0.fDesired,.bool p0.fAvailable,.int .i64 p0.fOpcode,.int .i64 p0.fCode,.slice Ap0_0 p0.fQuestions.length cp0_0,.slice Ap0_1 p0.fAnswers.length cp0_1,.slice Ap0_2 p0.fAuthorities.length cp0_2,.slice Ap0_3 p0.fExtras.length cp0_3] 26 (0,0))::H,(1000,⟨.slice A137 x135.fb.length c138,5,1,x135.fb.length,x135.fb.flatMap (fun x : Int=>[Value.int .u8 x])⟩)::(1001,⟨mapV A140,148,2,x135.fplaces.length,x135.fplaces.flatMap (mcell (fun x : ByteArray=>Value.string x) (fun x : Int=>Value.int .i64 x))⟩)::R,φ111⟩ (fun W h=>(ok_front (t:=100465) (t':=1000) (ok_frontR (t:=100460) (t':=1000) (ok_frontR (t:=100461) (t':=1001) h rfl) rfl) rfl)) Try.call96 rfl rfl (c_pack_Packer_Bytes g15 x135 A137 c138 hc138 A140 c141 trivial _ hx146) (fun _ _=>?_)
     refine g_sta _ (fun W h=>(ok_frontR (t:=1000) (t':=100460) (ok_frontR (t:=1001) (t':=100461) (ok_front (t:=1000) (t':=100465) h rfl) rfl) rfl))<|g_v rfl r_assign<|g_v rfl r_assign<|g_nil<|d_then<|c_ret ?_
     cases hm
     exact d_retC () Try.results69 (res_tmp (res_tmp (res_nil rfl))) trivial (fun W h=>ok_pre (H1:=[_,_,_]) (R1:=[_,_]) h (fun W hφ=>(q73 _ (q111 _ hφ)))) (.inr rfl)
    replace hm:=ite_t hm (of_decide_eq_true h5)
    iterate 13 refine g_no rfl rfl rfl rfl rfl h5 ?_
    refine g_v rfl (r_pick1 rfl h5)<|g_nil<|d_then ?_
    refine c_flat [(1,.pointer (some ⟨g1,0,none⟩)),(45,.bool true)] ⟨rfl,rfl,trivial⟩ (fun u=>?_)
    refine c_cond1 rfl rfl<|c_seq<|c_region<|g_v rfl r_assign<|g_v rfl r_assign<|g_nil<|d_then<|c_ret<|d_ret_then ?_
    cases hm
    exact d_retC () Try.results69 (res_tmp (res_tmp (res_nil rfl))) trivial (fun W h=>ok_pre (H1:=[_]) (R1:=[]) h (fun W hφ=>hφ)) (.inr rfl)
   replace hm:=ite_t hm (of_decide_eq_true h4)
   refine g_no rfl rfl rfl rfl rfl h4<|g_no rfl rfl rfl rfl rfl h4<|g_v rfl (r_pick1 rfl h4)<|g_v rfl r_move ?_
   iterate 14 refine g_no rfl rfl rfl rfl rfl rfl ?_
   refine g_v rfl (r_pick1 rfl rfl)<|g_nil<|d_then ?_
   refine c_flat [(1,.pointer (some ⟨g1,0,none⟩)),(45,.bool true)] ⟨rfl,rfl,trivial⟩ (fun u=>?_)
   refine c_cond1 rfl rfl<|c_seq<|c_region<|g_v rfl r_assign<|g_v rfl r_assign<|g_nil<|d_then<|c_ret<|d_ret_then ?_
   cases hm
   exact d_retC () Try.results69 (res_tmp (res_tmp (res_nil rfl))) trivial (fun W h=>ok_pre (H1:=[_]) (R1:=[]) h (fun W hφ=>hφ)) (.inr rfl)
  replace hm:=ite_t hm (of_decide_eq_true h3)
  refine g_no rfl rfl rfl rfl rfl h3<|g_no rfl rfl rfl rfl rfl h3<|g_v rfl (r_pick1 rfl h3)<|g_v rfl r_move ?_
  iterate 3 refine g_no rfl rfl rfl rfl rfl rfl ?_
  refine g_v rfl (r_pick1 rfl rfl)<|g_v rfl r_move ?_
  iterate 14 refine g_no rfl rfl rfl rfl rfl rfl ?_
  refine g_v rfl (r_pick1 rfl rfl)<|g_nil<|d_then ?_
  refine c_flat [(1,.pointer (some ⟨g1,0,none⟩)),(45,.bool true)] ⟨rfl,rfl,trivial⟩ (fun u=>?_)
  refine c_cond1 rfl rfl<|c_seq<|c_region<|g_v rfl r_assign<|g_v rfl r_assign<|g_nil<|d_then<|c_ret<|d_ret_then ?_
  cases hm
  exact d_retC () Try.results69 (res_tmp (res_tmp (res_nil rfl))) trivial (fun W h=>ok_pre (H1:=[_]) (R1:=[]) h (fun W hφ=>hφ)) (.inr rfl)
 replace hm:=ite_t hm (of_decide_eq_true h2)
 refine g_no rfl rfl rfl rfl rfl h2<|g_no rfl rfl rfl rfl rfl h2<|g_v rfl (r_pick1 rfl h2)<|g_v rfl r_move ?_
 iterate 3 refine g_no rfl rfl rfl rfl rfl rfl ?_
 refine g_v rfl (r_pick1 rfl rfl)<|g_v rfl r_move ?_
 iterate 3 refine g_no rfl rfl rfl rfl rfl rfl ?_
 refine g_v rfl (r_pick1 rfl rfl)<|g_v rfl r_move ?_
 iterate 14 refine g_no rfl rfl rfl rfl rfl rfl ?_
 refine g_v rfl (r_pick1 rfl rfl)<|g_nil<|d_then ?_
 refine c_flat [(1,.pointer (some ⟨g1,0,none⟩)),(45,.bool true)] ⟨rfl,rfl,trivial⟩ (fun u=>?_)
 refine c_cond1 rfl rfl<|c_seq<|c_region<|g_v rfl r_assign<|g_v rfl r_assign<|g_nil<|d_then<|c_ret<|d_ret_then ?_
 cases hm
 exact d_retC () Try.results69 (res_tmp (res_tmp (res_nil rfl))) trivial (fun W h=>ok_pre (H1:=[_]) (R1:=[]) h (fun W hφ=>hφ)) (.inr rfl)
noncomputable def m_message_Fit_j1  : Option (ByteArray×Int):=
  some ((⟨#[]⟩ : ByteArray),11)
noncomputable def m_message_Fit_j3 (p0 : GMessage) (p1 : Int) (i147 : Int) (b205 : Bool) (l206 : List GRR) (l210 : List GRR) (l214 : List GRR) : Option ((Int×Bool×(List GRR)×(List GRR)×(List GRR)) ⊕ (Unit ⊕ (ByteArray×Int))):=
  (m_message_whole (⟨p0.fID,p0.fResponse,p0.fAuthoritative,b205,p0.fDesired,p0.fAvailable,p0.fOpcode,p0.fCode,p0.fQuestions,l206,l210,l214⟩ : GMessage)).bind fun (z222 : ByteArray×Int)=>
  if z222.2 ≠ 0 then
    some (.inr (.inr (z222.1,z222.2)))
  else
    if (z222.1.size : Int) ≤ (min p1 4096) then
      some (.inr (.inr (z222.1,z222.2)))
    else
      some (.inl (w64 (i147 + 1),b205,l206,l210,l214))
noncomputable def m_message_Fit_s2 (p0 : GMessage) (p1 : Int) (i147 : Int) (b148 : Bool) (l149 : List GRR) (l153 : List GRR) (l157 : List GRR) : Option ((Int×Bool×(List GRR)×(List GRR)×(List GRR)) ⊕ (Unit ⊕ (ByteArray×Int))):=
  if i147 < 4 then
    if i147 = 1 then
      m_message_Fit_j3 p0 p1 i147 b148 l149 l153 ([] : List GRR)
    else
      if i147 = 2 then
        m_message_Fit_j3 p0 p1 i147 b148 l149 ([] : List GRR) l157
      else
        if i147 = 3 then
          m_message_Fit_j3 p0 p1 i147 true ([] : List GRR) l153 l157
        else
          m_message_Fit_j3 p0 p1 i147 b148 l149 l153 l157
  else
    some (.inr (.inl ()))
noncomputable def m_message_Fit (p0 : GMessage) (p1 : Int) : Option (ByteArray×Int):=
  (loop (fun s=>m_message_Fit_s2 p0 p1 s.1 s.2.1 s.2.2.1 s.2.2.2.1 s.2.2.2.2) (0,p0.fTruncated,p0.fAnswers,p0.fAuthorities,p0.fExtras)).bind fun e=>Sum.elim (fun e=>m_message_Fit_j1) (fun x=>some x) e
theorem c_message_Fit {w0 : World} {M : Nat→Prop} {H : List (Nat×Nat×Obj)} {R : List (Nat×Row)} {φ : World→Prop} (p0 : GMessage) (Ap0_0 : Option Addr) (cp0_0 : Nat) (hcp0_0 : p0.fQuestions.length ≤ cp0_0) (fp0_0 : ∀ W,(Sta.mk w0 M H R φ).ok W→Cl W Ap0_0 (p0.fQuestions.flatMap GQuestion.enc)) (Ap0_1 : Option Addr) (cp0_1 : Nat) (hcp0_1 : p0.fAnswers.length ≤ cp0_1) (fp0_1 : ∀ W,φ W→Cl W Ap0_1 (p0.fAnswers.flatMap GRR.enc)) (Ap0_2 : Option Addr) (cp0_2 : Nat) (hcp0_2 : p0.fAuthorities.length ≤ cp0_2) (fp0_2 : ∀ W,φ W→Cl W Ap0_2 (p0.fAuthorities.flatMap GRR.enc)) (Ap0_3 : Option Addr) (cp0_3 : Nat) (hcp0_3 : p0.fExtras.length ≤ cp0_3) (fp0_3 : ∀ W,φ W→Cl W Ap0_3 (p0.fExtras.flatMap GRR.enc)) (p1 : Int) (r : ByteArray×Int) (hm : m_message_Fit p0 p1 = some r) :
    Cn Try.prog 42 #[.agg #[.int .u16 p0.fID,.bool p0.fResponse,.bool p0.fAuthoritative,.bool p0.fTruncated,.bool p0.fDesired,.bool p0.fAvailable,.int .i64 p0.fOpcode,.int .i64 p0.fCode,.slice Ap0_0 p0.fQuestions.length cp0_0,.slice Ap0_1 p0.fAnswers.length cp0_1,.slice Ap0_2 p0.fAuthorities.length cp0_2,.slice Ap0_3 p0.fExtras.length cp0_3],.int .i64 p1] ⟨w0,M,H,R,φ⟩ (fun x : Unit=>.tuple #[.string r.1,.int .i64 r.2]) (fun x=>True) (fun x=>⟨w0,M,H,R,φ⟩):=by
 unfold m_message_Fit at hm
 refine cn_intro (fn:=Try.f42) (N:=41) Try.func42 rfl Try.ntmps42 rfl<|c_seq<|c_region ?_
 refine g_e rfl (e_box 100020 rfl) (fun g1 _=>?_)
 refine g_v rfl r_assign<|g_v rfl r_assign<|g_nil<|d_then<|c_seq<|c_region<|g_v rfl r_move<|g_v rfl (r_min rfl rfl)<|g_v rfl r_assign<|g_nil ?_
 refine d_then<|c_seq<|c_seq<|c_region<|g_v rfl r_move<|g_nil<|d_then ?_
 refine c_cut (ι:=Unit) [] (fun _=>[]) (fun _=>⟨w0,M,H,R,φ⟩) (fun _=>m_message_Fit_j1 = some r) ?_ (fun _ u hm=>?_)
 ·
  refine c_block ?_
  replace hm:=bnd hm
  obtain ⟨out2,hl2,hr2⟩:=hm
  obtain ⟨n199',hl2⟩:=loop_lp hl2
  refine c_loopU (ι:=Nat×Int×Bool×(List GRR)×(List GRR)×(List GRR)×Option Addr×Nat×Option Addr×Nat×Option Addr×Nat) [1,2,11] (fun ⟨n199,i147,b148,l149,l153,l157,A150,c151,A154,c155,A158,c159⟩=>[(11,.int .i64 i147)]) (fun ⟨n199,i147,b148,l149,l153,l157,A150,c151,A154,c155,A158,c159⟩=>⟨w0,M,(100020,g1,.cells #[.int .u16 p0.fID,.bool p0.fResponse,.bool p0.fAuthoritative,.bool b148,.bool p0.fDesired,.bool p0.fAvailable,.int .i64 p0.fOpcode,.int .i64 p0.fCode,.slice Ap0_0 p0.fQuestions.length cp0_0,.slice A150 l149.length c151,.slice A154 l153.length c155,.slice A158 l157.length c159] 26 (0,0))::H,R,fun W=>φ W∧Cl W A150 (l149.flatMap GRR.enc)∧Cl W A154 (l153.flatMap GRR.enc)∧Cl W A158 (l157.flatMap GRR.enc)⟩) (fun ⟨n199,i147,b148,l149,l153,l157,A150,c151,A154,c155,A158,c159⟩=>Lp (fun s=>m_message_Fit_s2 p0 p1 s.1 s.2.1 s.2.2.1 s.2.2.2.1 s.2.2.2.2) n199 (i147,b148,l149,l153,l157) out2∧l149.length ≤ c151∧l153.length ≤ c155∧l157.length ≤ c159) (fun ⟨n199,i147,b148,l149,l153,l157,A150,c151,A154,c155,A158,c159⟩=>n199) (n199',0,p0.fTruncated,p0.fAnswers,p0.fAuthorities,p0.fExtras,Ap0_1,cp0_1,Ap0_2,cp0_2,Ap0_3,cp0_3) ⟨hl2,hcp0_1,hcp0_2,hcp0_3⟩ ⟨rfl,rfl,rfl,trivial⟩ (fun W h=>h.phi (fun W hφ=>⟨hφ,(fun W h=>fp0_1 W h) W hφ,(fun W h=>fp0_2 W h) W hφ,(fun W h=>fp0_3 W h) W hφ⟩)) (fun ⟨n199,i147,b148,l149,l153,l157,A150,c151,A154,c155,A158,c159⟩ u ⟨hlp,hc151,hc155,hc159⟩=>?_)
  obtain ⟨o2,hm,hnx2⟩:=lp_step hlp
  clear hlp
  replace hm : m_message_Fit_s2 p0 p1 i147 b148 l149 l153 l157 = some o2:=hm
  unfold m_message_Fit_s2 at hm
  refine c_abs (fun φ200 q200'=>?_)
  have q200 : ∀ W,φ200 W→φ W:=fun W h=>(q200' W h).1
  have f152:=fun (W : World) (h : φ200 W)=>(q200' W h).2.1
  have f156:=fun (W : World) (h : φ200 W)=>(q200' W h).2.2.1
  have f160:=fun (W : World) (h : φ200 W)=>(q200' W h).2.2.2
  refine c_flat [(1,.int .i64 (min p1 4096)),(2,.pointer (some ⟨g1,0,none⟩)),(11,.int .i64 i147)] ⟨rfl,rfl,rfl,trivial⟩ (fun u=>?_)
  refine c_sta ⟨w0,M,(100020,g1,.cells #[.int .u16 p0.fID,.bool p0.fResponse,.bool p0.fAuthoritative,.bool b148,.bool p0.fDesired,.bool p0.fAvailable,.int .i64 p0.fOpcode,.int .i64 p0.fCode,.slice Ap0_0 p0.fQuestions.length cp0_0,.slice A150 l149.length c151,.slice A154 l153.length c155,.slice A158 l157.length c159] 26 (0,0))::H,R,φ200⟩ (fun _ h=>h)<|c_seq<|c_region<|g_v rfl (r_lss rfl rfl)<|g_nil<|d_then<|c_seq ?_
  refine c_cond rfl (fun h201=>?_) (fun h201=>?_)
  ·
   replace hm:=ite_t hm (of_decide_eq_true h201)
   refine c_skip<|d_then<|c_seq<|c_block<|c_seq<|c_region<|g_v rfl r_move<|g_v rfl r_assign<|g_nil<|d_then ?_
   refine c_seq ?_
   refine c_cut (ι:=Bool×(List GRR)×(List GRR)×(List GRR)×Option Addr×Nat×Option Addr×Nat×Option Addr×Nat) [1,2,11] (fun ⟨b205,l206,l210,l214,A207,c208,A211,c212,A215,c216⟩=>[]) (fun ⟨b205,l206,l210,l214,A207,c208,A211,c212,A215,c216⟩=>⟨w0,M,(100020,g1,.cells #[.int .u16 p0.fID,.bool p0.fResponse,.bool p0.fAuthoritative,.bool b205,.bool p0.fDesired,.bool p0.fAvailable,.int .i64 p0.fOpcode,.int .i64 p0.fCode,.slice Ap0_0 p0.fQuestions.length cp0_0,.slice A207 l206.length c208,.slice A211 l210.length c212,.slice A215 l214.length c216] 26 (0,0))::H,R,fun W=>φ200 W∧Cl W A207 (l206.flatMap GRR.enc)∧Cl W A211 (l210.flatMap GRR.enc)∧Cl W A215 (l214.flatMap GRR.enc)⟩) (fun ⟨b205,l206,l210,l214,A207,c208,A211,c212,A215,c216⟩=>m_message_Fit_j3 p0 p1 i147 b205 l206 l210 l214 = some o2∧l206.length ≤ c208∧l210.length ≤ c212∧l214.length ≤ c216) ?_ (fun ⟨b205,l206,l210,l214,A207,c208,A211,c212,A215,c216⟩ u ⟨hm,hc208,hc212,hc216⟩=>?_)
   ·
    refine c_seq<|c_region<|g_v rfl r_move<|g_nil<|d_then<|c_block<|c_seq<|c_region<|g_v rfl (r_eql rfl rfl)<|g_v rfl r_assign ?_
    refine g_nil<|d_then ?_
    refine c_cond rfl (fun h226=>?_) (fun h226=>?_)
    ·
     replace hm:=ite_t hm (of_decide_eq_true h226)
     refine c_region<|g_v rfl (r_field (n:=11) Try.underlying26 rfl Try.sizeOf24 rfl rfl)<|g_storeL (tag:=100020) rfl rfl rfl rfl Try.sizeOf24 rfl rfl<|g_nil<|d_normal_block ?_
     exact d_round (b148,l149,l153,([] : List GRR),A150,c151,A154,c155,none,0) ⟨hm,hc151,hc155,(Nat.le_refl 0)⟩ Nat.zero_lt_one ⟨rfl,rfl,rfl,trivial⟩ (fun W h=>h.phi (fun W hφ=>⟨hφ,(fun W h=>f152 W h) W hφ,(fun W h=>f156 W h) W hφ,(fun W _=>Cl.nil _ _) W hφ⟩))
    replace hm:=ite_f hm (of_decide_eq_false h226)
    refine c_seq<|c_region<|g_v rfl (r_eql rfl rfl)<|g_v rfl r_assign<|g_nil<|d_then ?_
    refine c_cond rfl (fun h227=>?_) (fun h227=>?_)
    ·
     replace hm:=ite_t hm (of_decide_eq_true h227)
     refine c_region<|g_v rfl (r_field (n:=10) Try.underlying26 rfl Try.sizeOf24 rfl rfl)<|g_storeL (tag:=100020) rfl rfl rfl rfl Try.sizeOf24 rfl rfl<|g_nil<|d_normal_block ?_
     exact d_round (b148,l149,([] : List GRR),l157,A150,c151,none,0,A158,c159) ⟨hm,hc151,(Nat.le_refl 0),hc159⟩ Nat.zero_lt_one ⟨rfl,rfl,rfl,trivial⟩ (fun W h=>h.phi (fun W hφ=>⟨hφ,(fun W h=>f152 W h) W hφ,(fun W _=>Cl.nil _ _) W hφ,(fun W h=>f160 W h) W hφ⟩))
    replace hm:=ite_f hm (of_decide_eq_false h227)
    refine c_seq<|c_region<|g_v rfl (r_eql rfl rfl)<|g_v rfl r_assign<|g_nil<|d_then ?_
    refine c_flat [(1,.int .i64 (min p1 4096)),(2,.pointer (some ⟨g1,0,none⟩)),(11,.int .i64 i147),(21,.bool (decide (i147 = 3)))] ⟨rfl,rfl,rfl,rfl,trivial⟩ (fun u=>?_)
    refine c_cond rfl (fun h228=>?_) (fun h228=>?_)
    ·
     replace hm:=ite_t hm (of_decide_eq_true h228)
     refine c_region<|g_v rfl (r_field (n:=9) Try.underlying26 rfl Try.sizeOf24 rfl rfl)<|g_storeL (tag:=100020) rfl rfl rfl rfl Try.sizeOf24 rfl rfl<|g_v rfl (r_field (n:=3) Try.underlying26 rfl Try.sizeOf4 rfl rfl)<|g_storeL (tag:=100020) rfl rfl rfl rfl Try.sizeOf4 rfl rfl<|g_nil<|d_normal_block ?_
     exact d_round (true,([] : List GRR),l153,l157,none,0,A154,c155,A158,c159) ⟨hm,(Nat.le_refl 0),hc155,hc159⟩ Nat.zero_lt_one ⟨rfl,rfl,rfl,trivial⟩ (fun W h=>h.phi (fun W hφ=>⟨hφ,(fun W _=>Cl.nil _ _) W hφ,(fun W h=>f156 W h) W hφ,(fun W h=>f160 W h) W hφ⟩))
    replace hm:=ite_f hm (of_decide_eq_false h228)
    refine c_skip<|d_normal_block ?_
    exact d_round (b148,l149,l153,l157,A150,c151,A154,c155,A158,c159) ⟨hm,hc151,hc155,hc159⟩ Nat.zero_lt_one ⟨rfl,rfl,rfl,trivial⟩ (fun W h=>h.phi (fun W hφ=>⟨hφ,(fun W h=>f152 W h) W hφ,(fun W h=>f156 W h) W hφ,(fun W h=>f160 W h) W hφ⟩))
   unfold m_message_Fit_j3 at hm
   refine d_abs (fun φ218 q218'=>?_)
   have q218 : ∀ W,φ218 W→φ200 W:=fun W h=>(q218' W h).1
   have f209:=fun (W : World) (h : φ218 W)=>(q218' W h).2.1
   have f213:=fun (W : World) (h : φ218 W)=>(q218' W h).2.2.1
   have f217:=fun (W : World) (h : φ218 W)=>(q218' W h).2.2.2
   refine d_flat [(1,.int .i64 (min p1 4096)),(2,.pointer (some ⟨g1,0,none⟩)),(11,.int .i64 i147)] ⟨rfl,rfl,rfl,trivial⟩ (fun u=>?_)
   refine d_sta ⟨w0,M,(100020,g1,.cells #[.int .u16 p0.fID,.bool p0.fResponse,.bool p0.fAuthoritative,.bool b205,.bool p0.fDesired,.bool p0.fAvailable,.int .i64 p0.fOpcode,.int .i64 p0.fCode,.slice Ap0_0 p0.fQuestions.length cp0_0,.slice A207 l206.length c208,.slice A211 l210.length c212,.slice A215 l214.length c216] 26 (0,0))::H,R,φ218⟩ (fun _ h=>h)<|d_then<|c_seq<|c_region<|g_v rfl (r_loadA (tag:=100020) rfl rfl Try.isAgg26 Try.sizeOf26 rfl rfl) ?_
   replace hm:=bnd hm
   obtain ⟨⟨x219,x220⟩,hx221,hm⟩:=hm
   refine g_cn ⟨w0,M,_,_,φ218⟩ (fun _ h=>h) Try.call69 rfl rfl (c_message_whole (⟨p0.fID,p0.fResponse,p0.fAuthoritative,b205,p0.fDesired,p0.fAvailable,p0.fOpcode,p0.fCode,p0.fQuestions,l206,l210,l214⟩ : GMessage) Ap0_0 cp0_0 hcp0_0 (fun W hS=>fp0_0 W (ok_pre (H1:=[_]) (R1:=[]) hS (fun W h=>(q200 _ (q218 _ h))))) A207 c208 hc208 (fun W h=>f209 W h) A211 c212 hc212 (fun W h=>f213 W h) A215 c216 hc216 (fun W h=>f217 W h) _ hx221) (fun _ _=>?_)
   refine g_v rfl r_move<|g_v rfl (r_extract rfl rfl)<|g_v rfl (r_extract rfl rfl)<|g_v rfl r_assign<|g_v rfl r_assign<|g_nil<|d_then<|c_seq<|c_region<|g_v rfl r_move ?_
   refine g_v rfl (r_neq rfl rfl)<|g_v rfl r_move ?_
   refine g_if rfl rfl rfl rfl rfl (fun h223=>?_) (fun h223=>?_)
   ·
    replace hm:=ite_f hm (of_decide_eq_false h223)
    refine g_v rfl r_move<|g_do rfl rfl rfl rfl rfl h223<|g_v rfl (r_len Try.underlying9 rfl)<|g_do rfl rfl rfl rfl rfl h223<|g_v rfl r_move<|g_do rfl rfl rfl rfl rfl h223<|g_v rfl (r_leq rfl rfl)<|g_v rfl (r_pick0 rfl h223)<|g_nil<|d_then ?_
    refine c_flat [(1,.int .i64 (min p1 4096)),(2,.pointer (some ⟨g1,0,none⟩)),(7,.string x219),(8,.int .i64 x220),(11,.int .i64 i147),(37,.bool (decide ((x219.size : Int) ≤ (min p1 4096))))] ⟨rfl,rfl,rfl,rfl,rfl,rfl,trivial⟩ (fun u=>?_)
    refine c_cond rfl (fun h224=>?_) (fun h224=>?_)
    ·
     replace hm:=ite_t hm (of_decide_eq_true h224)
     refine c_seq<|c_region<|g_v rfl r_move<|g_v rfl r_move<|g_v rfl r_assign<|g_v rfl r_assign<|g_nil<|d_then<|c_ret<|d_ret_block ?_
     refine d_ret_then<|d_ret_then<|d_ret_block<|d_ret_then<|d_ret_then ?_
     replace hm:=nx_out (C:=(fun e : Unit ⊕ (ByteArray×Int)=>Sum.elim (fun e=>m_message_Fit_j1) (fun x=>some x) e = some r)) hm hnx2 hr2
     replace hm : some (x219,x220) = some r:=hm
     cases hm
     exact d_retC () Try.results42 (res_tmp (res_tmp (res_nil rfl))) trivial (fun W h=>ok_pre (H1:=[_]) (R1:=[]) h (fun W hφ=>(q200 _ (q218 _ hφ)))) (.inr rfl)
    replace hm:=ite_f hm (of_decide_eq_false h224)
    refine c_skip<|d_normal_block<|d_then<|c_region<|g_v rfl (r_add rfl rfl rfl)<|g_v rfl r_move<|g_nil ?_
    obtain ⟨n225,hn225,hlp⟩:=nx_inl hm hnx2
    exact d_round (n225,w64 (i147 + 1),b205,l206,l210,l214,A207,c208,A211,c212,A215,c216) ⟨hlp,hc208,hc212,hc216⟩ hn225 ⟨rfl,rfl,rfl,trivial⟩ (fun W h=>h.phi (fun W hφ=>⟨(q200 _ (q218 _ hφ)),(fun W h=>f209 W h) W hφ,(fun W h=>f213 W h) W hφ,(fun W h=>f217 W h) W hφ⟩))
   replace hm:=ite_t hm (of_decide_eq_true h223)
   iterate 3 refine g_no rfl rfl rfl rfl rfl h223 ?_
   refine g_v rfl (r_pick1 rfl h223)<|g_nil<|d_then ?_
   refine c_flat [(1,.int .i64 (min p1 4096)),(2,.pointer (some ⟨g1,0,none⟩)),(7,.string x219),(8,.int .i64 x220),(11,.int .i64 i147),(37,.bool true)] ⟨rfl,rfl,rfl,rfl,rfl,rfl,trivial⟩ (fun u=>?_)
   refine c_cond1 rfl rfl<|c_seq<|c_region<|g_v rfl r_move<|g_v rfl r_move<|g_v rfl r_assign<|g_v rfl r_assign<|g_nil<|d_then<|c_ret ?_
   refine d_ret_block<|d_ret_then<|d_ret_then<|d_ret_block<|d_ret_then<|d_ret_then ?_
   replace hm:=nx_out (C:=(fun e : Unit ⊕ (ByteArray×Int)=>Sum.elim (fun e=>m_message_Fit_j1) (fun x=>some x) e = some r)) hm hnx2 hr2
   replace hm : some (x219,x220) = some r:=hm
   cases hm
   exact d_retC () Try.results42 (res_tmp (res_tmp (res_nil rfl))) trivial (fun W h=>ok_pre (H1:=[_]) (R1:=[]) h (fun W hφ=>(q200 _ (q218 _ hφ)))) (.inr rfl)
  replace hm:=ite_f hm (of_decide_eq_false h201)
  refine c_exit<|d_exit_then<|d_exit_then<|d_exit_block ?_
  replace hm:=nx_out (C:=(fun e : Unit ⊕ (ByteArray×Int)=>Sum.elim (fun e=>m_message_Fit_j1) (fun x=>some x) e = some r)) hm hnx2 hr2
  exact d_round () hm Nat.zero_lt_one trivial (fun W h=>(h.dropH (t:=100020) rfl).phi (fun W hφ=>(q200 _ hφ)))
 unfold m_message_Fit_j1 at hm
 refine d_flat [] trivial (fun u=>?_)
 refine d_sta ⟨w0,M,H,R,φ⟩ (fun _ h=>h)<|d_then<|c_seq<|c_region<|g_v rfl r_assign<|g_v rfl r_assign<|g_nil<|d_then<|c_ret ?_
 cases hm
 exact d_retC () Try.results42 (res_tmp (res_tmp (res_nil rfl))) trivial (fun W h=>ok_pre (H1:=[]) (R1:=[]) h (fun W hφ=>hφ)) (.inr rfl)
noncomputable def m_message_Bytes_j1 (x2 : ByteArray) (x3 : Int) : Option (ByteArray×Int):=
  some (x2,x3)
noncomputable def m_message_Bytes (p0 : GMessage) : Option (ByteArray×Int):=
  (m_message_whole p0).bind fun (z5 : ByteArray×Int)=>
  if z5.2 = 0 then
    if 4096 < (z5.1.size : Int) then
      some ((⟨#[]⟩ : ByteArray),11)
    else
      m_message_Bytes_j1 z5.1 z5.2
  else
    m_message_Bytes_j1 z5.1 z5.2
theorem c_message_Bytes {w0 : World} {M : Nat→Prop} {H : List (Nat×Nat×Obj)} {R : List (Nat×Row)} {φ : World→Prop} (p0 : GMessage) (Ap0_0 : Option Addr) (cp0_0 : Nat) (hcp0_0 : p0.fQuestions.length ≤ cp0_0) (fp0_0 : ∀ W,(Sta.mk w0 M H R φ).ok W→Cl W Ap0_0 (p0.fQuestions.flatMap GQuestion.enc)) (Ap0_1 : Option Addr) (cp0_1 : Nat) (hcp0_1 : p0.fAnswers.length ≤ cp0_1) (fp0_1 : ∀ W,φ W→Cl W Ap0_1 (p0.fAnswers.flatMap GRR.enc)) (Ap0_2 : Option Addr) (cp0_2 : Nat) (hcp0_2 : p0.fAuthorities.length ≤ cp0_2) (fp0_2 : ∀ W,φ W→Cl W Ap0_2 (p0.fAuthorities.flatMap GRR.enc)) (Ap0_3 : Option Addr) (cp0_3 : Nat) (hcp0_3 : p0.fExtras.length ≤ cp0_3) (fp0_3 : ∀ W,φ W→Cl W Ap0_3 (p0.fExtras.flatMap GRR.enc)) (r : ByteArray×Int) (hm : m_message_Bytes p0 = some r) :
    Cn Try.prog 44 #[.agg #[.int .u16 p0.fID,.bool p0.fResponse,.bool p0.fAuthoritative,.bool p0.fTruncated,.bool p0.fDesired,.bool p0.fAvailable,.int .i64 p0.fOpcode,.int .i64 p0.fCode,.slice Ap0_0 p0.fQuestions.length cp0_0,.slice Ap0_1 p0.fAnswers.length cp0_1,.slice Ap0_2 p0.fAuthorities.length cp0_2,.slice Ap0_3 p0.fExtras.length cp0_3]] ⟨w0,M,H,R,φ⟩ (fun x : Unit=>.tuple #[.string r.1,.int .i64 r.2]) (fun x=>True) (fun x=>⟨w0,M,H,R,φ⟩):=by
 unfold m_message_Bytes at hm
 refine cn_intro (fn:=Try.f44) (N:=20) Try.func44 rfl Try.ntmps44 rfl<|c_seq<|c_region ?_
 refine g_e rfl (e_box 100010 rfl) (fun g1 _=>?_)
 refine g_v rfl r_assign<|g_v rfl r_assign<|g_nil<|d_then<|c_seq<|c_region<|g_v rfl (r_loadA (tag:=100010) rfl rfl Try.isAgg26 Try.sizeOf26 rfl rfl) ?_
 replace hm:=bnd hm
 obtain ⟨⟨x2,x3⟩,hx4,hm⟩:=hm
 refine g_cn ⟨w0,M,_,_,φ⟩ (fun _ h=>h) Try.call69 rfl rfl (c_message_whole p0 Ap0_0 cp0_0 hcp0_0 (fun W hS=>fp0_0 W (ok_pre (H1:=[_]) (R1:=[]) hS (fun W h=>h))) Ap0_1 cp0_1 hcp0_1 (fun W h=>fp0_1 W h) Ap0_2 cp0_2 hcp0_2 (fun W h=>fp0_2 W h) Ap0_3 cp0_3 hcp0_3 (fun W h=>fp0_3 W h) _ hx4) (fun _ _=>?_)
 refine g_v rfl r_move<|g_v rfl (r_extract rfl rfl)<|g_v rfl (r_extract rfl rfl)<|g_v rfl r_assign<|g_v rfl r_assign<|g_nil<|d_then ?_
 refine c_flat [(4,.string x2),(5,.int .i64 x3)] ⟨rfl,rfl,trivial⟩ (fun u=>?_)
 refine c_sta ⟨w0,M,(100010,g1,.cells #[.int .u16 p0.fID,.bool p0.fResponse,.bool p0.fAuthoritative,.bool p0.fTruncated,.bool p0.fDesired,.bool p0.fAvailable,.int .i64 p0.fOpcode,.int .i64 p0.fCode,.slice Ap0_0 p0.fQuestions.length cp0_0,.slice Ap0_1 p0.fAnswers.length cp0_1,.slice Ap0_2 p0.fAuthorities.length cp0_2,.slice Ap0_3 p0.fExtras.length cp0_3] 26 (0,0))::H,R,φ⟩ (fun _ h=>h)<|c_seq ?_
 refine c_cut (ι:=Unit) [4,5] (fun _=>[]) (fun _=>⟨w0,M,H,R,φ⟩) (fun _=>m_message_Bytes_j1 x2 x3 = some r) ?_ (fun _ u hm=>?_)
 ·
  refine c_seq<|c_region<|g_v rfl r_move<|g_v rfl (r_eql rfl rfl)<|g_v rfl r_move ?_
  refine g_if rfl rfl rfl rfl rfl (fun h8=>?_) (fun h8=>?_)
  ·
   replace hm:=ite_t hm (of_decide_eq_true h8)
   refine g_v rfl r_move<|g_do rfl rfl rfl rfl rfl h8<|g_v rfl (r_len Try.underlying9 rfl)<|g_do rfl rfl rfl rfl rfl h8<|g_v rfl (r_gtr rfl rfl)<|g_v rfl (r_pick1 rfl h8)<|g_nil<|d_then ?_
   refine c_cond rfl (fun h9=>?_) (fun h9=>?_)
   ·
    replace hm:=ite_t hm (of_decide_eq_true h9)
    refine c_seq<|c_region<|g_v rfl r_assign<|g_v rfl r_assign<|g_nil<|d_then ?_
    refine c_flat [(2,.string (⟨#[]⟩ : ByteArray)),(3,.int .i64 11)] ⟨rfl,rfl,trivial⟩ (fun u=>?_)
    refine c_ret<|d_ret_then<|d_ret_then ?_
    cases hm
    exact d_retC () Try.results44 (res_tmp (res_tmp (res_nil rfl))) trivial (fun W h=>ok_pre (H1:=[_]) (R1:=[]) h (fun W hφ=>hφ)) (.inr rfl)
   replace hm:=ite_f hm (of_decide_eq_false h9)
   refine c_skip ?_
   exact d_round () hm Nat.zero_lt_one ⟨rfl,rfl,trivial⟩ (fun W h=>(h.dropH (t:=100010) rfl).phi (fun W hφ=>hφ))
  replace hm:=ite_f hm (of_decide_eq_false h8)
  refine g_no rfl rfl rfl rfl rfl h8<|g_no rfl rfl rfl rfl rfl h8<|g_v rfl (r_pick0 rfl h8)<|g_nil<|d_then<|c_cond0 rfl rfl<|c_skip ?_
  exact d_round () hm Nat.zero_lt_one ⟨rfl,rfl,trivial⟩ (fun W h=>(h.dropH (t:=100010) rfl).phi (fun W hφ=>hφ))
 unfold m_message_Bytes_j1 at hm
 refine d_flat [(4,.string x2),(5,.int .i64 x3)] ⟨rfl,rfl,trivial⟩ (fun u=>?_)
 refine d_sta ⟨w0,M,H,R,φ⟩ (fun _ h=>h)<|d_then<|c_seq<|c_region<|g_v rfl r_move<|g_v rfl r_move<|g_v rfl r_assign<|g_v rfl r_assign<|g_nil<|d_then ?_
 refine c_ret ?_
 cases hm
 exact d_retC () Try.results44 (res_tmp (res_tmp (res_nil rfl))) trivial (fun W h=>ok_pre (H1:=[]) (R1:=[]) h (fun W hφ=>hφ)) (.inr rfl)
noncomputable def m_auth_Reply (p0 : List GZone) (p1 : ByteArray) : Option (ByteArray×Bool):=
  (m_message_Read p1).bind fun (z17 : GMessage×Int)=>
  if z17.2 = 0 then
    (m_auth_Answer p0 z17.1).bind fun x20=>
    (m_message_Fit x20 1232).bind fun (z38 : ByteArray×Int)=>
    some (z38.1,decide (z38.2 = 0))
  else
    (m_message_Head p1).bind fun (z55 : GMessage×Int)=>
    if z55.2 ≠ 0 then
      some ((⟨#[]⟩ : ByteArray),false)
    else
      if z55.1.fResponse = true then
        some ((⟨#[]⟩ : ByteArray),false)
      else
        (m_auth_reply z55.1 1).bind fun x59=>
        (m_message_Bytes x59).bind fun (z79 : ByteArray×Int)=>
        some (z79.1,decide (z79.2 = 0))
theorem c_auth_Reply {w0 : World} {M : Nat→Prop} {H : List (Nat×Nat×Obj)} {R : List (Nat×Row)} {φ : World→Prop} (p0 : List GZone) (Ap0_0 : Option Addr) (cp0_0 : Nat) (psp0_0 : List GZoneP) (hcp0_0 : (DOk GZone.capP p0 psp0_0∧p0.length ≤ cp0_0)) (fp0_0 : ∀ W,φ W→Cl W Ap0_0 ((p0.zip psp0_0).flatMap GZone.encP)) (fop0_0 : ∀ W,φ W→DOwn GZone.ownP p0 psp0_0 W) (p1 : ByteArray) (r : ByteArray×Bool) (hm : m_auth_Reply p0 p1 = some r) :
    Cn Try.prog 20 #[.slice Ap0_0 p0.length cp0_0,.string p1] ⟨w0,M,H,R,φ⟩ (fun x : Unit=>.tuple #[.string r.1,.bool r.2]) (fun x=>True) (fun x=>⟨w0,M,H,R,φ⟩):=by
 unfold m_auth_Reply at hm
 refine cn_intro (fn:=Try.f20) (N:=49) Try.func20 rfl Try.ntmps20 rfl<|c_seq<|c_region<|g_v rfl r_assign<|g_v rfl r_assign<|g_nil<|d_then<|c_seq<|c_region<|g_v rfl r_move ?_
 replace hm:=bnd hm
 obtain ⟨⟨x1,x2⟩,hx3,hm⟩:=hm
 refine g_cn ⟨w0,M,_,_,φ⟩ (fun _ h=>h) Try.call23 rfl rfl (c_message_Read p1 _ hx3) (fun ⟨A4,c5,A7,c8,A10,c11,A13,c14⟩ ⟨hc5,hc8,hc11,hc14⟩=>?_)
 refine g_abs (fun φ16 q16'=>?_)
 have q16 : ∀ W,φ16 W→φ W:=fun W h=>(q16' W h).1
 have f6:=fun (W : World) (h : φ16 W)=>(q16' W h).2.1
 have f9:=fun (W : World) (h : φ16 W)=>(q16' W h).2.2.1
 have f12:=fun (W : World) (h : φ16 W)=>(q16' W h).2.2.2.1
 have f15:=fun (W : World) (h : φ16 W)=>(q16' W h).2.2.2.2
 refine g_v rfl r_move<|g_v rfl (r_extract rfl rfl)<|g_v rfl (r_extract rfl rfl) ?_
 refine g_e rfl (e_alloc 100060 Try.zeroValue26) (fun g18 _=>?_)
 refine g_storeL (tag:=100060) rfl rfl rfl rfl Try.sizeOf26 rfl rfl<|g_v rfl r_assign<|g_nil<|d_then ?_
 refine c_flat [(0,.slice Ap0_0 p0.length cp0_0),(1,.string p1),(6,.pointer (some ⟨g18,0,none⟩)),(7,.int .i64 x2)] ⟨rfl,rfl,rfl,rfl,trivial⟩ (fun u=>?_)
 refine c_sta ⟨w0,M,(100060,g18,.cells #[.int .u16 x1.fID,.bool x1.fResponse,.bool x1.fAuthoritative,.bool x1.fTruncated,.bool x1.fDesired,.bool x1.fAvailable,.int .i64 x1.fOpcode,.int .i64 x1.fCode,.slice A4 x1.fQuestions.length c5,.slice A7 x1.fAnswers.length c8,.slice A10 x1.fAuthorities.length c11,.slice A13 x1.fExtras.length c14] 26 (0,0))::H,R,φ16⟩ (fun _ h=>h)<|c_seq<|c_seq<|c_region<|g_v rfl r_move<|g_v rfl (r_eql rfl rfl)<|g_nil<|d_then ?_
 refine c_cond rfl (fun h19=>?_) (fun h19=>?_)
 ·
  replace hm:=ite_t hm (of_decide_eq_true h19)
  refine c_seq<|c_region<|g_v rfl r_move<|g_v rfl (r_loadA (tag:=100060) rfl rfl Try.isAgg26 Try.sizeOf26 rfl rfl) ?_
  replace hm:=bnd hm
  obtain ⟨x20,hx21,hm⟩:=hm
  refine g_cn ⟨w0,M,_,_,φ16⟩ (fun _ h=>h) Try.call9 rfl rfl (c_auth_Answer p0 Ap0_0 cp0_0 psp0_0 ⟨hcp0_0.1,hcp0_0.2⟩ (fun W h=>fp0_0 W (q16 _ h)) (fun W h=>(fop0_0 W (q16 _ h))) x1 A4 c5 hc5 (fun W hS=>f6 W hS.now) A7 c8 hc8 (fun W hS=>f9 W hS.now) A10 c11 hc11 (fun W hS=>f12 W hS.now) A13 c14 hc14 (fun W hS=>f15 W hS.now) _ hx21) (fun ⟨A22,c23,A25,c26,A28,c29,A31,c32⟩ ⟨hc23,hc26,hc29,hc32⟩=>?_)
  refine g_abs (fun φ34 q34'=>?_)
  have q34 : ∀ W,φ34 W→φ16 W:=fun W h=>(q34' W h).1
  have f24:=fun (W : World) (h : φ34 W)=>(q34' W h).2.1
  have f27:=fun (W : World) (h : φ34 W)=>(q34' W h).2.2.1
  have f30:=fun (W : World) (h : φ34 W)=>(q34' W h).2.2.2.1
  have f33:=fun (W : World) (h : φ34 W)=>(q34' W h).2.2.2.2
  replace hm:=bnd hm
  obtain ⟨⟨x35,x36⟩,hx37,hm⟩:=hm
  refine g_cn ⟨w0,M,_,_,φ34⟩ (fun _ h=>h) Try.call42 rfl rfl (c_message_Fit x20 A22 c23 hc23 (fun W hS=>f24 W hS.now) A25 c26 hc26 (fun W h=>f27 W h) A28 c29 hc29 (fun W h=>f30 W h) A31 c32 hc32 (fun W h=>f33 W h) 1232 _ hx37) (fun _ _=>?_)
  refine g_v rfl r_move<|g_v rfl (r_extract rfl rfl)<|g_v rfl (r_extract rfl rfl)<|g_v rfl r_assign<|g_v rfl r_assign<|g_nil<|d_then ?_
  refine c_flat [(8,.string x35),(9,.int .i64 x36)] ⟨rfl,rfl,trivial⟩ (fun u=>?_)
  refine c_sta ⟨w0,M,(100060,g18,.cells #[.int .u16 x1.fID,.bool x1.fResponse,.bool x1.fAuthoritative,.bool x1.fTruncated,.bool x1.fDesired,.bool x1.fAvailable,.int .i64 x1.fOpcode,.int .i64 x1.fCode,.slice A4 x1.fQuestions.length c5,.slice A7 x1.fAnswers.length c8,.slice A10 x1.fAuthorities.length c11,.slice A13 x1.fExtras.length c14] 26 (0,0))::H,R,φ34⟩ (fun _ h=>h)<|c_seq<|c_region<|g_v rfl r_move<|g_v rfl r_move<|g_v rfl (r_eql rfl rfl)<|g_v rfl r_assign<|g_v rfl r_assign<|g_nil<|d_then ?_
  refine c_ret<|d_ret_then ?_
  cases hm
  exact d_retC () Try.results20 (res_tmp (res_tmp (res_nil rfl))) trivial (fun W h=>ok_pre (H1:=[_]) (R1:=[]) h (fun W hφ=>(q16 _ (q34 _ hφ)))) (.inr rfl)
 replace hm:=ite_f hm (of_decide_eq_false h19)
 refine c_skip<|d_then<|c_seq<|c_region<|g_v rfl r_move ?_
 replace hm:=bnd hm
 obtain ⟨⟨x39,x40⟩,hx41,hm⟩:=hm
 refine g_cn ⟨w0,M,_,_,φ16⟩ (fun _ h=>h) Try.call43 rfl rfl (c_message_Head p1 _ hx41) (fun ⟨A42,c43,A45,c46,A48,c49,A51,c52⟩ ⟨hc43,hc46,hc49,hc52⟩=>?_)
 refine g_abs (fun φ54 q54'=>?_)
 have q54 : ∀ W,φ54 W→φ16 W:=fun W h=>(q54' W h).1
 have f44:=fun (W : World) (h : φ54 W)=>(q54' W h).2.1
 have f47:=fun (W : World) (h : φ54 W)=>(q54' W h).2.2.1
 have f50:=fun (W : World) (h : φ54 W)=>(q54' W h).2.2.2.1
 have f53:=fun (W : World) (h : φ54 W)=>(q54' W h).2.2.2.2
 refine g_v rfl r_move<|g_v rfl (r_extract rfl rfl)<|g_v rfl (r_extract rfl rfl) ?_
 refine g_e rfl (e_alloc 100100 Try.zeroValue26) (fun g56 _=>?_)
 refine g_storeL (tag:=100100) rfl rfl rfl rfl Try.sizeOf26 rfl rfl<|g_v rfl r_assign<|g_nil<|d_then ?_
 refine c_flat [(7,.int .i64 x40),(10,.pointer (some ⟨g56,0,none⟩))] ⟨rfl,rfl,trivial⟩ (fun u=>?_)
 refine c_sta ⟨w0,M,(100100,g56,.cells #[.int .u16 x39.fID,.bool x39.fResponse,.bool x39.fAuthoritative,.bool x39.fTruncated,.bool x39.fDesired,.bool x39.fAvailable,.int .i64 x39.fOpcode,.int .i64 x39.fCode,.slice A42 x39.fQuestions.length c43,.slice A45 x39.fAnswers.length c46,.slice A48 x39.fAuthorities.length c49,.slice A51 x39.fExtras.length c52] 26 (0,0))::(100060,g18,.cells #[.int .u16 x1.fID,.bool x1.fResponse,.bool x1.fAuthoritative,.bool x1.fTruncated,.bool x1.fDesired,.bool x1.fAvailable,.int .i64 x1.fOpcode,.int .i64 x1.fCode,.slice A4 x1.fQuestions.length c5,.slice A7 x1.fAnswers.length c8,.slice A10 x1.fAuthorities.length c11,.slice A13 x1.fExtras.length c14] 26 (0,0))::H,R,φ54⟩ (fun _ h=>h)<|c_seq<|c_seq<|c_region<|g_v rfl r_move<|g_v rfl (r_neq rfl rfl)<|g_v rfl r_move ?_
 refine g_if rfl rfl rfl rfl rfl (fun h57=>?_) (fun h57=>?_)
 ·
  replace hm:=ite_f hm (of_decide_eq_false h57)
  refine g_v rfl (r_field (n:=1) Try.underlying26 rfl Try.sizeOf4 rfl rfl)<|g_do rfl rfl rfl rfl rfl h57<|g_v rfl (r_load (tag:=100100) rfl rfl rfl Try.isAgg4)<|g_v rfl (r_pick0 rfl h57)<|g_nil<|d_then ?_
  refine c_cond rfl (fun h58=>?_) (fun h58=>?_)
  ·
   replace hm:=ite_t hm h58
   refine c_seq<|c_region<|g_v rfl r_assign<|g_v rfl r_assign<|g_nil<|d_then<|c_ret<|d_ret_then ?_
   cases hm
   exact d_retC () Try.results20 (res_tmp (res_tmp (res_nil rfl))) trivial (fun W h=>ok_pre (H1:=[_,_]) (R1:=[]) h (fun W hφ=>(q16 _ (q54 _ hφ)))) (.inr rfl)
  replace hm:=ite_f hm (bool_nt h58)
  refine c_skip<|d_then<|c_seq<|c_region<|g_v rfl (r_loadA (tag:=100100) rfl rfl Try.isAgg26 Try.sizeOf26 rfl rfl) ?_
  replace hm:=bnd hm
  obtain ⟨x59,hx60,hm⟩:=hm
  refine g_cn ⟨w0,M,_,_,φ54⟩ (fun _ h=>h) Try.call25 rfl rfl (c_auth_reply x39 A42 c43 hc43 (fun W hS=>f44 W hS.now) A45 c46 hc46 (fun W hS=>f47 W hS.now) A48 c49 hc49 (fun W hS=>f50 W hS.now) A51 c52 hc52 (fun W hS=>f53 W hS.now) 1 _ hx60) (fun ⟨A61,c62,A64,c65,A67,c68,A70,c71⟩ ⟨hc62,hc65,hc68,hc71⟩=>?_)
  refine g_sta _ (fun W h=>(ok_frontR (t:=2003) (t':=100423) h rfl)) ?_
  refine g_abs (fun φ73 q73'=>?_)
  have q73 : ∀ W,φ73 W→φ54 W:=fun W h=>(q73' W h).1
  have f63:=fun (W : World) (h : φ73 W)=>(q73' W h).2.1
  have f66:=fun (W : World) (h : φ73 W)=>(q73' W h).2.2.1
  have f69:=fun (W : World) (h : φ73 W)=>(q73' W h).2.2.2
  refine g_shut (tag:=100423) rfl (fun φ74 q74'=>?_)
  have q74 : ∀ W,φ74 W→φ73 W:=fun W h=>(q74' W h).1
  have f75:=fun (W : World) (h : φ74 W)=>(q74' W h).2
  replace hm:=bnd hm
  obtain ⟨⟨x76,x77⟩,hx78,hm⟩:=hm
  refine g_cn ⟨w0,M,_,_,φ74⟩ (fun _ h=>h) Try.call44 rfl rfl (c_message_Bytes x59 A61 c62 hc62 (fun W hS=>f63 W (q74 _ hS.now)) A64 c65 hc65 (fun W h=>f66 W (q74 _ h)) A67 c68 hc68 (fun W h=>f69 W (q74 _ h)) A70 c71 hc71 (fun W h=>f75 W h) _ hx78) (fun _ _=>?_)
  refine g_v rfl r_move<|g_v rfl (r_extract rfl rfl)<|g_v rfl (r_extract rfl rfl)<|g_v rfl r_assign<|g_v rfl r_assign<|g_nil<|d_then ?_
  refine c_flat [(7,.int .i64 x77),(11,.string x76)] ⟨rfl,rfl,trivial⟩ (fun u=>?_)
  refine c_sta ⟨w0,M,(100100,g56,.cells #[.int .u16 x39.fID,.bool x39.fResponse,.bool x39.fAuthoritative,.bool x39.fTruncated,.bool x39.fDesired,.bool x39.fAvailable,.int .i64 x39.fOpcode,.int .i64 x39.fCode,.slice A42 x39.fQuestions.length c43,.slice A45 x39.fAnswers.length c46,.slice A48 x39.fAuthorities.length c49,.slice A51 x39.fExtras.length c52] 26 (0,0))::(100060,g18,.cells #[.int .u16 x1.fID,.bool x1.fResponse,.bool x1.fAuthoritative,.bool x1.fTruncated,.bool x1.fDesired,.bool x1.fAvailable,.int .i64 x1.fOpcode,.int .i64 x1.fCode,.slice A4 x1.fQuestions.length c5,.slice A7 x1.fAnswers.length c8,.slice A10 x1.fAuthorities.length c11,.slice A13 x1.fExtras.length c14] 26 (0,0))::H,R,φ74⟩ (fun _ h=>h)<|c_seq<|c_region<|g_v rfl r_move<|g_v rfl r_move<|g_v rfl (r_eql rfl rfl)<|g_v rfl r_assign<|g_v rfl r_assign<|g_nil<|d_then ?_
  refine c_ret ?_
  cases hm
  exact d_retC () Try.results20 (res_tmp (res_tmp (res_nil rfl))) trivial (fun W h=>ok_pre (H1:=[_,_]) (R1:=[]) h (fun W hφ=>(q16 _ (q54 _ (q73 _ (q74 _ hφ)))))) (.inr rfl)
 replace hm:=ite_t hm (of_decide_eq_true h57)
 refine g_no rfl rfl rfl rfl rfl h57<|g_v rfl (r_pick1 rfl h57)<|g_nil<|d_then<|c_cond1 rfl rfl<|c_seq<|c_region<|g_v rfl r_assign<|g_v rfl r_assign<|g_nil ?_
 refine d_then<|c_ret<|d_ret_then ?_
 cases hm
 exact d_retC () Try.results20 (res_tmp (res_tmp (res_nil rfl))) trivial (fun W h=>ok_pre (H1:=[_,_]) (R1:=[]) h (fun W hφ=>(q16 _ (q54 _ hφ)))) (.inr rfl)
end Go.Proofs.Ytjbfgaahonmclaa
