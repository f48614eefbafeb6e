import Derived.Test.YtjbfgaahonmclaaWABC
set_option maxRecDepth 100000
set_option maxHeartbeats 4000000
set_option linter.unusedVariables false
set_option linter.unusedSimpArgs false
namespace Go.Proofs.Ytjbfgaahonmclaa
open Go.RowKit Go.Proofs.YtjbfgaahonmclaaW.PrintLast
noncomputable def m_ref04_Raw (p0 : ByteArray) (p1 : Int) (p2 : Int) : Option (ByteArray×Int×Int):=
  if p1 < 0 then
    some ((⟨#[]⟩ : ByteArray),0,10)
  else
    if p2 < 0 then
      some ((⟨#[]⟩ : ByteArray),0,10)
    else
      if (p0.size : Int) < p1 then
        some ((⟨#[]⟩ : ByteArray),0,10)
      else
        if w64 ((p0.size : Int) - p1) < p2 then
          some ((⟨#[]⟩ : ByteArray),0,10)
        else
          (scutMid p0 p1 (w64 (p1 + p2))).bind fun s5=>
          some (s5,w64 (p1 + p2),0)
theorem c_ref04_Raw {w0 : World} {M : Nat→Prop} {H : List (Nat×Nat×Obj)} {R : List (Nat×Row)} {φ : World→Prop} (p0 : ByteArray) (p1 : Int) (p2 : Int) (r : ByteArray×Int×Int) (hm : m_ref04_Raw p0 p1 p2 = some r) :
    Cn Try.prog 71 #[.string p0,.int .i64 p1,.int .i64 p2] ⟨w0,M,H,R,φ⟩ (fun x : Unit=>.tuple #[.string r.1,.int .i64 r.2.1,.int .i64 r.2.2]) (fun x=>True) (fun x=>⟨w0,M,H,R,φ⟩):=by
 unfold m_ref04_Raw at hm
 refine cn_intro (fn:=Try.f71) (N:=38) Try.func71 rfl Try.ntmps71 rfl<|c_seq<|c_region ?_
 iterate 3 refine g_v rfl r_assign ?_
 refine g_nil<|d_then<|c_seq<|c_seq<|c_region<|g_v rfl r_move<|g_v rfl (r_lss rfl rfl)<|g_v rfl r_move ?_
 refine g_if rfl rfl rfl rfl rfl (fun h1=>?_) (fun h1=>?_)
 ·
  replace hm:=ite_f hm (of_decide_eq_false h1)
  refine g_v rfl r_move<|g_do rfl rfl rfl rfl rfl h1<|g_v rfl (r_lss rfl rfl)<|g_v rfl (r_pick0 rfl h1)<|g_v rfl r_move ?_
  refine g_if rfl rfl rfl rfl rfl (fun h2=>?_) (fun h2=>?_)
  ·
   replace hm:=ite_f hm (of_decide_eq_false h2)
   refine g_v rfl r_move<|g_do rfl rfl rfl rfl rfl h2<|g_v rfl r_move<|g_do rfl rfl rfl rfl rfl h2<|g_v rfl (r_len Try.underlying9 rfl)<|g_do rfl rfl rfl rfl rfl h2<|g_v rfl (r_gtr rfl rfl)<|g_v rfl (r_pick0 rfl h2)<|g_v rfl r_move ?_
   refine g_if rfl rfl rfl rfl rfl (fun h3=>?_) (fun h3=>?_)
   ·
    replace hm:=ite_f hm (of_decide_eq_false h3)
    refine g_v rfl r_move<|g_do rfl rfl rfl rfl rfl h3<|g_v rfl r_move<|g_do rfl rfl rfl rfl rfl h3<|g_v rfl (r_len Try.underlying9 rfl)<|g_do rfl rfl rfl rfl rfl h3<|g_v rfl r_move<|g_do rfl rfl rfl rfl rfl h3<|g_v rfl (r_sub rfl rfl rfl)<|g_do rfl rfl rfl rfl rfl h3 ?_
    refine g_v rfl (r_gtr rfl rfl)<|g_v rfl (r_pick0 rfl h3)<|g_nil<|d_then ?_
    refine c_flat [(0,.string p0),(1,.int .i64 p1),(2,.int .i64 p2),(28,.bool (decide (w64 ((p0.size : Int) - p1) < p2)))] ⟨rfl,rfl,rfl,rfl,trivial⟩ (fun u=>?_)
    refine c_sta ⟨w0,M,H,R,φ⟩ (fun _ h=>h) ?_
    refine c_cond rfl (fun h4=>?_) (fun h4=>?_)
    ·
     replace hm:=ite_t hm (of_decide_eq_true h4)
     refine c_seq<|c_region ?_
     iterate 3 refine g_v rfl r_assign ?_
     refine g_nil<|d_then<|c_ret<|d_ret_then ?_
     cases hm
     exact d_retC () Try.results71 (res_tmp (res_tmp (res_tmp (res_nil rfl)))) trivial (fun W h=>ok_pre (H1:=[]) (R1:=[]) h (fun W hφ=>hφ)) (.inr rfl)
    replace hm:=ite_f hm (of_decide_eq_false h4)
    refine c_skip<|d_then<|c_seq<|c_region ?_
    iterate 4 refine g_v rfl r_move ?_
    refine g_v rfl (r_add rfl rfl rfl) ?_
    replace hm:=bnd hm
    obtain ⟨s5,hs5,hm⟩:=hm
    refine g_v rfl (r_scutMid Try.underlying9 rfl rfl rfl hs5)<|g_v rfl r_move<|g_v rfl r_move<|g_v rfl (r_add rfl rfl rfl) ?_
    iterate 3 refine g_v rfl r_assign ?_
    refine g_nil<|d_then ?_
    refine c_flat [(6,.string s5),(7,.int .i64 (w64 (p1 + p2))),(8,.int .i64 0)] ⟨rfl,rfl,rfl,trivial⟩ (fun u=>?_)
    refine c_ret ?_
    cases hm
    exact d_retC () Try.results71 (res_tmp (res_tmp (res_tmp (res_nil rfl)))) trivial (fun W h=>ok_pre (H1:=[]) (R1:=[]) h (fun W hφ=>hφ)) (.inr rfl)
   replace hm:=ite_t hm (of_decide_eq_true h3)
   iterate 5 refine g_no rfl rfl rfl rfl rfl h3 ?_
   refine g_v rfl (r_pick1 rfl h3)<|g_nil<|d_then ?_
   refine c_flat [(0,.string p0),(1,.int .i64 p1),(2,.int .i64 p2),(28,.bool true)] ⟨rfl,rfl,rfl,rfl,trivial⟩ (fun u=>?_)
   refine c_sta ⟨w0,M,H,R,φ⟩ (fun _ h=>h)<|c_cond1 rfl rfl<|c_seq<|c_region ?_
   iterate 3 refine g_v rfl r_assign ?_
   refine g_nil<|d_then<|c_ret<|d_ret_then ?_
   cases hm
   exact d_retC () Try.results71 (res_tmp (res_tmp (res_tmp (res_nil rfl)))) trivial (fun W h=>ok_pre (H1:=[]) (R1:=[]) h (fun W hφ=>hφ)) (.inr rfl)
  replace hm:=ite_t hm (of_decide_eq_true h2)
  iterate 3 refine g_no rfl rfl rfl rfl rfl h2 ?_
  refine g_v rfl (r_pick1 rfl h2)<|g_v rfl r_move ?_
  iterate 6 refine g_no rfl rfl rfl rfl rfl rfl ?_
  refine g_v rfl (r_pick1 rfl rfl)<|g_nil<|d_then ?_
  refine c_flat [(0,.string p0),(1,.int .i64 p1),(2,.int .i64 p2),(28,.bool true)] ⟨rfl,rfl,rfl,rfl,trivial⟩ (fun u=>?_)
  refine c_sta ⟨w0,M,H,R,φ⟩ (fun _ h=>h)<|c_cond1 rfl rfl<|c_seq<|c_region ?_
  iterate 3 refine g_v rfl r_assign ?_
  refine g_nil<|d_then<|c_ret<|d_ret_then ?_
  cases hm
  exact d_retC () Try.results71 (res_tmp (res_tmp (res_tmp (res_nil rfl)))) trivial (fun W h=>ok_pre (H1:=[]) (R1:=[]) h (fun W hφ=>hφ)) (.inr rfl)
 replace hm:=ite_t hm (of_decide_eq_true h1)
 refine g_no rfl rfl rfl rfl rfl h1<|g_v rfl (r_pick1 rfl h1)<|g_v rfl r_move ?_
 iterate 4 refine g_no rfl rfl rfl rfl rfl rfl ?_
 refine g_v rfl (r_pick1 rfl rfl)<|g_v rfl r_move ?_
 iterate 6 refine g_no rfl rfl rfl rfl rfl rfl ?_
 refine g_v rfl (r_pick1 rfl rfl)<|g_nil<|d_then ?_
 refine c_flat [(0,.string p0),(1,.int .i64 p1),(2,.int .i64 p2),(28,.bool true)] ⟨rfl,rfl,rfl,rfl,trivial⟩ (fun u=>?_)
 refine c_sta ⟨w0,M,H,R,φ⟩ (fun _ h=>h)<|c_cond1 rfl rfl<|c_seq<|c_region ?_
 iterate 3 refine g_v rfl r_assign ?_
 refine g_nil<|d_then<|c_ret<|d_ret_then ?_
 cases hm
 exact d_retC () Try.results71 (res_tmp (res_tmp (res_tmp (res_nil rfl)))) trivial (fun W h=>ok_pre (H1:=[]) (R1:=[]) h (fun W hφ=>hφ)) (.inr rfl)
noncomputable def m_ref04_Number_j1 (x2 : Int) (i18 : Int) : Option (Int×Int×Int):=
  some (i18,x2,0)
noncomputable def m_ref04_Number_s2 (x1 : ByteArray) (i23 : Int) (i24 : Int) : Option ((Int×Int) ⊕ Int):=
  if i24 < (x1.size : Int) then
    (sat_ x1 i24).bind fun b31=>
    some (.inl (w64 ((w64 (i23 * 256)) + (w64 b31)),w64 (i24 + 1)))
  else
    some (.inr i23)
noncomputable def m_ref04_Number (p0 : ByteArray) (p1 : Int) (p2 : Int) : Option (Int×Int×Int):=
  (m_ref04_Raw p0 p1 p2).bind fun (z5 : ByteArray×Int×Int)=>
  if z5.2.2 ≠ 0 then
    some (0,0,z5.2.2)
  else
    (loop (fun s=>m_ref04_Number_s2 z5.1 s.1 s.2) (0,0)).bind fun e=>m_ref04_Number_j1 z5.2.1 e
theorem c_ref04_Number {w0 : World} {M : Nat→Prop} {H : List (Nat×Nat×Obj)} {R : List (Nat×Row)} {φ : World→Prop} (p0 : ByteArray) (p1 : Int) (p2 : Int) (r : Int×Int×Int) (hm : m_ref04_Number p0 p1 p2 = some r) :
    Cn Try.prog 45 #[.string p0,.int .i64 p1,.int .i64 p2] ⟨w0,M,H,R,φ⟩ (fun x : Unit=>.tuple #[.int .i64 r.1,.int .i64 r.2.1,.int .i64 r.2.2]) (fun x=>True) (fun x=>⟨w0,M,H,R,φ⟩):=by
 unfold m_ref04_Number at hm
 refine cn_intro (fn:=Try.f45) (N:=40) Try.func45 rfl Try.ntmps45 rfl<|c_seq<|c_region ?_
 iterate 3 refine g_v rfl r_assign ?_
 refine g_nil<|d_then<|c_seq<|c_region ?_
 iterate 3 refine g_v rfl r_move ?_
 replace hm:=bnd hm
 obtain ⟨⟨x1,x2,x3⟩,hx4,hm⟩:=hm
 refine g_cn ⟨w0,M,_,_,φ⟩ (fun _ h=>h) Try.call71 rfl rfl (c_ref04_Raw p0 p1 p2 _ hx4) (fun _ _=>?_)
 refine g_v rfl r_move ?_
 iterate 3 refine g_v rfl (r_extract rfl rfl) ?_
 iterate 3 refine g_v rfl r_assign ?_
 refine g_nil<|d_then ?_
 refine c_flat [(9,.string x1),(10,.int .i64 x2),(11,.int .i64 x3)] ⟨rfl,rfl,rfl,trivial⟩ (fun u=>?_)
 refine c_sta ⟨w0,M,H,R,φ⟩ (fun _ h=>h)<|c_seq<|c_seq<|c_region<|g_v rfl r_move<|g_v rfl (r_neq rfl rfl)<|g_nil<|d_then ?_
 refine c_cond rfl (fun h6=>?_) (fun h6=>?_)
 ·
  replace hm:=ite_t hm (of_decide_eq_true h6)
  refine c_seq<|c_region<|g_v rfl r_move ?_
  iterate 3 refine g_v rfl r_assign ?_
  refine g_nil<|d_then<|c_ret<|d_ret_then ?_
  cases hm
  exact d_retC () Try.results45 (res_tmp (res_tmp (res_tmp (res_nil rfl)))) trivial (fun W h=>ok_pre (H1:=[]) (R1:=[]) h (fun W hφ=>hφ)) (.inr rfl)
 replace hm:=ite_f hm (of_decide_eq_false h6)
 refine c_skip<|d_then<|c_seq<|c_region<|g_v rfl r_assign<|g_nil<|d_then<|c_seq<|c_seq<|c_region ?_
 refine g_v rfl r_assign<|g_nil<|d_then ?_
 refine c_cut (ι:=Int) [10,12] (fun i18=>[(12,.int .i64 i18)]) (fun i18=>⟨w0,M,H,R,φ⟩) (fun i18=>m_ref04_Number_j1 x2 i18 = some r) ?_ (fun i18 u hm=>?_)
 ·
  refine c_block ?_
  replace hm:=bnd hm
  obtain ⟨out2,hl2,hr2⟩:=hm
  obtain ⟨n29',hl2⟩:=loop_lp hl2
  refine c_loopU (ι:=Nat×Int×Int) [9,10,12,13] (fun ⟨n29,i23,i24⟩=>[(12,.int .i64 i23),(13,.int .i64 i24)]) (fun ⟨n29,i23,i24⟩=>⟨w0,M,H,R,φ⟩) (fun ⟨n29,i23,i24⟩=>Lp (fun s=>m_ref04_Number_s2 x1 s.1 s.2) n29 (i23,i24) out2) (fun ⟨n29,i23,i24⟩=>n29) (n29',0,0) hl2 ⟨rfl,rfl,rfl,rfl,trivial⟩ (fun W h=>h.phi (fun W hφ=>hφ)) (fun ⟨n29,i23,i24⟩ u hlp=>?_)
  obtain ⟨o2,hm,hnx2⟩:=lp_step hlp
  clear hlp
  replace hm : m_ref04_Number_s2 x1 i23 i24 = some o2:=hm
  unfold m_ref04_Number_s2 at hm
  refine c_flat [(9,.string x1),(10,.int .i64 x2),(12,.int .i64 i23),(13,.int .i64 i24)] ⟨rfl,rfl,rfl,rfl,trivial⟩ (fun u=>?_)
  refine c_seq<|c_seq<|c_region<|g_v rfl r_move<|g_v rfl r_move<|g_v rfl (r_len Try.underlying9 rfl)<|g_v rfl (r_lss rfl rfl)<|g_nil<|d_then ?_
  refine c_cond rfl (fun h30=>?_) (fun h30=>?_)
  ·
   replace hm:=ite_t hm (of_decide_eq_true h30)
   refine c_skip<|d_then<|c_seq<|c_block<|c_region<|g_v rfl r_move<|g_v rfl (r_mul rfl rfl rfl)<|g_v rfl r_move<|g_v rfl r_move ?_
   replace hm:=bnd hm
   obtain ⟨b31,hb31,hm⟩:=hm
   refine g_v rfl (r_sat Try.underlying9 rfl rfl hb31)<|g_v rfl (r_conv Try.underlying5 Try.underlying3 rfl rfl)<|g_v rfl (r_add rfl rfl rfl)<|g_v rfl r_assign<|g_nil<|d_normal_block<|d_then ?_
   refine c_flat [(9,.string x1),(10,.int .i64 x2),(12,.int .i64 (w64 ((w64 (i23 * 256)) + (w64 b31)))),(13,.int .i64 i24)] ⟨rfl,rfl,rfl,rfl,trivial⟩ (fun u=>?_)
   refine c_region<|g_v rfl r_move<|g_v rfl (r_add rfl rfl rfl)<|g_v rfl r_assign<|g_nil ?_
   obtain ⟨n32,hn32,hlp⟩:=nx_inl hm hnx2
   exact d_round (n32,w64 ((w64 (i23 * 256)) + (w64 b31)),w64 (i24 + 1)) hlp hn32 ⟨rfl,rfl,rfl,rfl,trivial⟩ (fun W h=>h.phi (fun W hφ=>hφ))
  replace hm:=ite_f hm (of_decide_eq_false h30)
  refine c_exit<|d_exit_then<|d_exit_then<|d_exit_block ?_
  replace hm:=nx_out (C:=(fun e : Int=>m_ref04_Number_j1 x2 e = some r)) hm hnx2 hr2
  exact d_round i23 hm Nat.zero_lt_one ⟨rfl,rfl,trivial⟩ (fun W h=>h.phi (fun W hφ=>hφ))
 unfold m_ref04_Number_j1 at hm
 refine d_flat [(10,.int .i64 x2),(12,.int .i64 i18)] ⟨rfl,rfl,trivial⟩ (fun u=>?_)
 refine d_then<|c_seq<|c_region<|g_v rfl r_move<|g_v rfl r_move ?_
 iterate 3 refine g_v rfl r_assign ?_
 refine g_nil<|d_then<|c_ret ?_
 cases hm
 exact d_retC () Try.results45 (res_tmp (res_tmp (res_tmp (res_nil rfl)))) trivial (fun W h=>ok_pre (H1:=[]) (R1:=[]) h (fun W hφ=>hφ)) (.inr rfl)
theorem bld26_34 (z0 : Int) (z1 : Bool) (z2 : Int) (z3 : Bool) (z4 : Bool) (z5 : Bool) (z6 : Bool) (z7 : Int) : ∀ W,(Instr.build 26 #[(0,.int .u16 z0),(1,.bool z1),(6,.int .i64 z2),(2,.bool z3),(3,.bool z4),(4,.bool z5),(5,.bool z6),(7,.int .i64 z7)]).run Try.prog W = .ok (.agg #[.int .u16 z0,.bool z1,.bool z3,.bool z4,.bool z5,.bool z6,.int .i64 z2,.int .i64 z7,.slice none 0 0,.slice none 0 0,.slice none 0 0,.slice none 0 0]) W:=fun _=>by kernel_rfl
noncomputable def m_ref06_Head (p0 : ByteArray) : Option (GMessage×Int):=
  if (p0.size : Int) < 12 then
    some ((⟨0,false,false,false,false,false,0,0,([] : List GQuestion),([] : List GRR),([] : List GRR),([] : List GRR)⟩ : GMessage),10)
  else
    (m_ref04_Number p0 0 2).bind fun (z7 : Int×Int×Int)=>
    (m_ref04_Number p0 2 2).bind fun (z12 : Int×Int×Int)=>
    some ((⟨IntKind.u16.wrap z7.1,decide (w64 (z12.1.tdiv 32768) = 1),decide ((w64 (z12.1.tdiv 1024)).tmod 2 = 1),decide ((w64 (z12.1.tdiv 512)).tmod 2 = 1),decide ((w64 (z12.1.tdiv 256)).tmod 2 = 1),decide ((w64 (z12.1.tdiv 128)).tmod 2 = 1),(w64 (z12.1.tdiv 2048)).tmod 16,z12.1.tmod 16,([] : List GQuestion),([] : List GRR),([] : List GRR),([] : List GRR)⟩ : GMessage),0)
theorem c_ref06_Head {w0 : World} {M : Nat→Prop} {H : List (Nat×Nat×Obj)} {R : List (Nat×Row)} {φ : World→Prop} (p0 : ByteArray) (r : GMessage×Int) (hm : m_ref06_Head p0 = some r) :
    Cn Try.prog 21 #[.string p0] ⟨w0,M,H,R,φ⟩ (fun x : Option Addr×Nat×Option Addr×Nat×Option Addr×Nat×Option Addr×Nat=>.tuple #[.agg #[.int .u16 r.1.fID,.bool r.1.fResponse,.bool r.1.fAuthoritative,.bool r.1.fTruncated,.bool r.1.fDesired,.bool r.1.fAvailable,.int .i64 r.1.fOpcode,.int .i64 r.1.fCode,.slice x.1 r.1.fQuestions.length x.2.1,.slice x.2.2.1 r.1.fAnswers.length x.2.2.2.1,.slice x.2.2.2.2.1 r.1.fAuthorities.length x.2.2.2.2.2.1,.slice x.2.2.2.2.2.2.1 r.1.fExtras.length x.2.2.2.2.2.2.2],.int .i64 r.2]) (fun x=>r.1.fQuestions.length ≤ x.2.1∧r.1.fAnswers.length ≤ x.2.2.2.1∧r.1.fAuthorities.length ≤ x.2.2.2.2.2.1∧r.1.fExtras.length ≤ x.2.2.2.2.2.2.2) (fun x=>⟨w0,M,H,(2000,⟨.slice x.1 r.1.fQuestions.length x.2.1,29,3,r.1.fQuestions.length,r.1.fQuestions.flatMap GQuestion.enc⟩)::R,fun W=>φ W∧Cl W x.2.2.1 (r.1.fAnswers.flatMap GRR.enc)∧Cl W x.2.2.2.2.1 (r.1.fAuthorities.flatMap GRR.enc)∧Cl W x.2.2.2.2.2.2.1 (r.1.fExtras.flatMap GRR.enc)⟩):=by
 unfold m_ref06_Head at hm
 refine cn_intro (fn:=Try.f21) (N:=53) Try.func21 rfl Try.ntmps21 rfl<|c_seq<|c_region ?_
 refine g_e rfl (e_alloc 100020 Try.zeroValue26) (fun g1 _=>?_)
 refine g_v rfl r_assign<|g_nil<|d_then<|c_seq<|c_seq<|c_region<|g_v rfl r_move<|g_v rfl (r_len Try.underlying9 rfl)<|g_v rfl (r_lss rfl rfl)<|g_nil ?_
 refine d_then<|c_sta ⟨w0,M,(100020,g1,.cells #[.int .u16 0,.bool false,.bool false,.bool false,.bool false,.bool false,.int .i64 0,.int .i64 0,.slice none 0 0,.slice none 0 0,.slice none 0 0,.slice none 0 0] 26 (0,0))::H,R,φ⟩ (fun _ h=>h) ?_
 refine c_cond rfl (fun h2=>?_) (fun h2=>?_)
 ·
  replace hm:=ite_t hm (of_decide_eq_true h2)
  refine c_seq<|c_region<|g_v rfl (r_build _ rfl (bld26_23))<|g_storeL (tag:=100020) rfl rfl rfl rfl Try.sizeOf26 rfl rfl<|g_v rfl r_assign<|g_nil<|d_then<|c_ret<|d_ret_then ?_
  cases hm
  refine d_sta _ (fun W h=>nilR h 11 29 3)<|d_sta _ (fun W h=>ok_frontR (t:=11) (t':=2000) h rfl) ?_
  exact d_retC (none,0,none,0,none,0,none,0) Try.results21 (res_agg (tag:=100020) rfl rfl Try.isAgg26 Try.sizeOf26 (res_tmp (res_nil rfl))) ⟨(Nat.le_refl 0),(Nat.le_refl 0),(Nat.le_refl 0),(Nat.le_refl 0)⟩ (fun W h=>(h.dropH (t:=100020) rfl).phi (fun W hφ=>⟨hφ,(fun W _=>Cl.nil _ _) W hφ,(fun W _=>Cl.nil _ _) W hφ,(fun W _=>Cl.nil _ _) W hφ⟩)) (.inr rfl)
 replace hm:=ite_f hm (of_decide_eq_false h2)
 refine c_skip<|d_then<|c_seq<|c_region<|g_v rfl r_move ?_
 replace hm:=bnd hm
 obtain ⟨⟨x3,x4,x5⟩,hx6,hm⟩:=hm
 refine g_cn ⟨w0,M,_,_,φ⟩ (fun _ h=>h) Try.call45 rfl rfl (c_ref04_Number p0 0 2 _ hx6) (fun _ _=>?_)
 refine g_v rfl r_move ?_
 iterate 3 refine g_v rfl (r_extract rfl rfl) ?_
 iterate 3 refine g_v rfl r_assign ?_
 refine g_nil<|d_then ?_
 refine c_flat [(0,.string p0),(2,.pointer (some ⟨g1,0,none⟩)),(4,.int .i64 x3)] ⟨rfl,rfl,rfl,trivial⟩ (fun u=>?_)
 refine c_seq<|c_region<|g_v rfl r_move ?_
 replace hm:=bnd hm
 obtain ⟨⟨x8,x9,x10⟩,hx11,hm⟩:=hm
 refine g_cn ⟨w0,M,_,_,φ⟩ (fun _ h=>h) Try.call45 rfl rfl (c_ref04_Number p0 2 2 _ hx11) (fun _ _=>?_)
 refine g_v rfl r_move ?_
 iterate 3 refine g_v rfl (r_extract rfl rfl) ?_
 iterate 3 refine g_v rfl r_assign ?_
 refine g_nil<|d_then ?_
 refine c_flat [(2,.pointer (some ⟨g1,0,none⟩)),(4,.int .i64 x3),(7,.int .i64 x8)] ⟨rfl,rfl,rfl,trivial⟩ (fun u=>?_)
 refine c_seq<|c_region<|g_v rfl r_move<|g_v rfl (r_conv Try.underlying3 Try.underlying22 rfl rfl)<|g_v rfl r_move<|g_v rfl (r_quo rfl rfl (by decide) rfl)<|g_v rfl (r_eql rfl rfl)<|g_v rfl r_move<|g_v rfl (r_quo rfl rfl (by decide) rfl)<|g_v rfl (r_rem rfl rfl (by decide) rfl) ?_
 refine g_v rfl r_move<|g_v rfl (r_quo rfl rfl (by decide) rfl)<|g_v rfl (r_rem rfl rfl (by decide) rfl)<|g_v rfl (r_eql rfl rfl)<|g_v rfl r_move<|g_v rfl (r_quo rfl rfl (by decide) rfl)<|g_v rfl (r_rem rfl rfl (by decide) rfl)<|g_v rfl (r_eql rfl rfl)<|g_v rfl r_move<|g_v rfl (r_quo rfl rfl (by decide) rfl) ?_
 refine g_v rfl (r_rem rfl rfl (by decide) rfl)<|g_v rfl (r_eql rfl rfl)<|g_v rfl r_move<|g_v rfl (r_quo rfl rfl (by decide) rfl)<|g_v rfl (r_rem rfl rfl (by decide) rfl)<|g_v rfl (r_eql rfl rfl)<|g_v rfl r_move<|g_v rfl (r_rem rfl rfl (by decide) rfl)<|g_v rfl (r_build _ rfl (bld26_34 _ _ _ _ _ _ _ _))<|g_storeL (tag:=100020) rfl rfl rfl rfl Try.sizeOf26 rfl rfl ?_
 refine g_v rfl r_assign<|g_nil<|d_then ?_
 refine c_flat [(2,.pointer (some ⟨g1,0,none⟩)),(3,.int .i64 0)] ⟨rfl,rfl,trivial⟩ (fun u=>?_)
 refine c_sta ⟨w0,M,(100020,g1,.cells #[.int .u16 (IntKind.u16.wrap x3),.bool (decide (w64 (x8.tdiv 32768) = 1)),.bool (decide ((w64 (x8.tdiv 1024)).tmod 2 = 1)),.bool (decide ((w64 (x8.tdiv 512)).tmod 2 = 1)),.bool (decide ((w64 (x8.tdiv 256)).tmod 2 = 1)),.bool (decide ((w64 (x8.tdiv 128)).tmod 2 = 1)),.int .i64 ((w64 (x8.tdiv 2048)).tmod 16),.int .i64 (x8.tmod 16),.slice none 0 0,.slice none 0 0,.slice none 0 0,.slice none 0 0] 26 (0,0))::H,R,φ⟩ (fun _ h=>h)<|c_ret ?_
 cases hm
 refine d_sta _ (fun W h=>nilR h 12 29 3)<|d_sta _ (fun W h=>ok_frontR (t:=12) (t':=2000) h rfl) ?_
 exact d_retC (none,0,none,0,none,0,none,0) Try.results21 (res_agg (tag:=100020) rfl rfl Try.isAgg26 Try.sizeOf26 (res_tmp (res_nil rfl))) ⟨(Nat.le_refl 0),(Nat.le_refl 0),(Nat.le_refl 0),(Nat.le_refl 0)⟩ (fun W h=>(h.dropH (t:=100020) rfl).phi (fun W hφ=>⟨hφ,(fun W _=>Cl.nil _ _) W hφ,(fun W _=>Cl.nil _ _) W hφ,(fun W _=>Cl.nil _ _) W hφ⟩)) (.inr rfl)
noncomputable def m_ref03_Make_j1  (s98 : ByteArray) : Option (ByteArray×Int):=
  if 254 < (s98.size : Int) then
    some ((⟨#[]⟩ : ByteArray),11)
  else
    (sadd s98 (strOfNums [0])).bind fun s101=>
    some (s101,0)
noncomputable def m_ref03_Make_s2 (p0 : List ByteArray) (s149 : ByteArray) (i150 : Int) : Option ((ByteArray×Int) ⊕ (ByteArray ⊕ (ByteArray×Int))):=
  if i150 < (p0.length : Int) then
    (at_ p0 i150).bind fun x200=>
    if (x200.size : Int) < 1 then
      some (.inr (.inr ((⟨#[]⟩ : ByteArray),10)))
    else
      (at_ p0 i150).bind fun x205=>
      if 63 < (x205.size : Int) then
        some (.inr (.inr ((⟨#[]⟩ : ByteArray),10)))
      else
        if (s149.size : Int) ≤ 255 then
          (at_ p0 i150).bind fun x233=>
          (at_ p0 i150).bind fun x237=>
          (sadd s149 (strOfNums [IntKind.u8.wrap (x233.size : Int)])).bind fun s242=>
          (sadd s242 x237).bind fun s243=>
          some (.inl (s243,w64 (i150 + 1)))
        else
          some (.inl (s149,w64 (i150 + 1)))
  else
    some (.inr (.inl s149))
noncomputable def m_ref03_Make (p0 : List ByteArray) : Option (ByteArray×Int):=
  (loop (fun s=>m_ref03_Make_s2 p0 s.1 s.2) ((⟨#[]⟩ : ByteArray),0)).bind fun e=>Sum.elim (fun e=>m_ref03_Make_j1 e) (fun x=>some x) e
theorem c_ref03_Make {w0 : World} {M : Nat→Prop} {H : List (Nat×Nat×Obj)} {R : List (Nat×Row)} {φ : World→Prop} (p0 : List ByteArray) (Ap0_0 : Option Addr) (cp0_0 : Nat) (hcp0_0 : p0.length ≤ cp0_0) (fp0_0 : ∀ W,(Sta.mk w0 M H R φ).ok W→Cl W Ap0_0 (p0.flatMap (fun x : ByteArray=>[Value.string x]))) (r : ByteArray×Int) (hm : m_ref03_Make p0 = some r) :
    Cn Try.prog 72 #[.slice Ap0_0 p0.length cp0_0] ⟨w0,M,H,R,φ⟩ (fun x : Unit=>.tuple #[.string r.1,.int .i64 r.2]) (fun x=>True) (fun x=>⟨w0,M,H,R,φ⟩):=by
 unfold m_ref03_Make at hm
 refine cn_intro (fn:=Try.f72) (N:=51) Try.func72 rfl Try.ntmps72 rfl<|c_seq<|c_region<|g_v rfl r_assign<|g_v rfl r_assign<|g_nil<|d_then<|c_seq<|c_region<|g_v rfl r_assign ?_
 refine g_nil<|d_then<|c_seq<|c_seq<|c_region<|g_v rfl r_assign<|g_nil<|d_then ?_
 refine c_cut (ι:=ByteArray) [4] (fun s98=>[(4,.string s98)]) (fun s98=>⟨w0,M,H,R,φ⟩) (fun s98=>m_ref03_Make_j1 s98 = some r) ?_ (fun s98 u hm=>?_)
 ·
  refine c_block ?_
  replace hm:=bnd hm
  obtain ⟨out2,hl2,hr2⟩:=hm
  obtain ⟨n198',hl2⟩:=loop_lp hl2
  refine c_loopU (ι:=Nat×ByteArray×Int) [0,4,5] (fun ⟨n198,s149,i150⟩=>[(4,.string s149),(5,.int .i64 i150)]) (fun ⟨n198,s149,i150⟩=>⟨w0,M,H,R,φ⟩) (fun ⟨n198,s149,i150⟩=>Lp (fun s=>m_ref03_Make_s2 p0 s.1 s.2) n198 (s149,i150) out2) (fun ⟨n198,s149,i150⟩=>n198) (n198',(⟨#[]⟩ : ByteArray),0) hl2 ⟨rfl,rfl,rfl,trivial⟩ (fun W h=>h.phi (fun W hφ=>hφ)) (fun ⟨n198,s149,i150⟩ u hlp=>?_)
  obtain ⟨o2,hm,hnx2⟩:=lp_step hlp
  clear hlp
  replace hm : m_ref03_Make_s2 p0 s149 i150 = some o2:=hm
  unfold m_ref03_Make_s2 at hm
  refine c_flat [(0,.slice Ap0_0 p0.length cp0_0),(4,.string s149),(5,.int .i64 i150)] ⟨rfl,rfl,rfl,trivial⟩ (fun u=>?_)
  refine c_sta ⟨w0,M,H,R,φ⟩ (fun _ h=>h)<|c_seq<|c_seq<|c_region<|g_v rfl r_move<|g_v rfl r_move<|g_v rfl (r_lenL Try.underlying73 rfl)<|g_v rfl (r_lss rfl rfl)<|g_nil<|d_then ?_
  refine c_cond rfl (fun h199=>?_) (fun h199=>?_)
  ·
   replace hm:=ite_t hm (of_decide_eq_true h199)
   refine c_skip<|d_then<|c_seq<|c_block<|c_seq<|c_seq<|c_region<|g_v rfl r_move<|g_v rfl r_move ?_
   replace hm:=bnd hm
   obtain ⟨x200,hx200,hm⟩:=hm
   refine g_know _ (fun W hS=>cl_at (p:=(Sta.mk w0 M H R φ).ok) (sz:=1) (fun _=>rfl) (by decide) (ok_pre (H1:=[]) (R1:=[]) hS (fun W h=>h)) fp0_0 hx200) ?_
   rintro ⟨ad201,hA203,f202⟩
   refine g_v rfl (r_ix Try.underlying73 Try.sizeOf9 rfl hA203 rfl hx200)<|g_v rfl (r_ld rfl Try.isAgg9 (fun W hS=>Cl.head (f202 W (ok_pre (H1:=[]) (R1:=[]) hS (fun W h=>h)))))<|g_v rfl (r_len Try.underlying9 rfl)<|g_v rfl (r_lss rfl rfl)<|g_v rfl r_move ?_
   refine g_if rfl rfl rfl rfl rfl (fun h204=>?_) (fun h204=>?_)
   ·
    replace hm:=ite_f hm (of_decide_eq_false h204)
    refine g_v rfl r_move<|g_do rfl rfl rfl rfl rfl h204<|g_v rfl r_move<|g_do rfl rfl rfl rfl rfl h204 ?_
    replace hm:=bnd hm
    obtain ⟨x205,hx205,hm⟩:=hm
    refine g_know _ (fun W hS=>cl_at (p:=(Sta.mk w0 M H R φ).ok) (sz:=1) (fun _=>rfl) (by decide) (ok_pre (H1:=[]) (R1:=[]) hS (fun W h=>h)) fp0_0 hx205) ?_
    rintro ⟨ad206,hA208,f207⟩
    refine g_v rfl (r_ix Try.underlying73 Try.sizeOf9 rfl hA208 rfl hx205)<|g_do rfl rfl rfl rfl rfl h204<|g_v rfl (r_ld rfl Try.isAgg9 (fun W hS=>Cl.head (f207 W (ok_pre (H1:=[]) (R1:=[]) hS (fun W h=>h)))))<|g_do rfl rfl rfl rfl rfl h204<|g_v rfl (r_len Try.underlying9 rfl)<|g_do rfl rfl rfl rfl rfl h204<|g_v rfl (r_gtr rfl rfl)<|g_v rfl (r_pick0 rfl h204)<|g_nil<|d_then ?_
    refine c_flat [(0,.slice Ap0_0 p0.length cp0_0),(4,.string s149),(5,.int .i64 i150),(25,.bool (decide (63 < (x205.size : Int))))] ⟨rfl,rfl,rfl,rfl,trivial⟩ (fun u=>?_)
    refine c_cond rfl (fun h209=>?_) (fun h209=>?_)
    ·
     replace hm:=ite_t hm (of_decide_eq_true h209)
     refine c_seq<|c_region<|g_v rfl r_assign<|g_v rfl r_assign<|g_nil<|d_then<|c_ret<|d_ret_then<|d_ret_block<|d_ret_then ?_
     refine d_ret_then<|d_ret_block<|d_ret_then<|d_ret_then ?_
     replace hm:=nx_out (C:=(fun e : ByteArray ⊕ (ByteArray×Int)=>Sum.elim (fun e=>m_ref03_Make_j1 e) (fun x=>some x) e = some r)) hm hnx2 hr2
     replace hm : some ((⟨#[]⟩ : ByteArray),10) = some r:=hm
     cases hm
     exact d_retC () Try.results72 (res_tmp (res_tmp (res_nil rfl))) trivial (fun W h=>ok_pre (H1:=[]) (R1:=[]) h (fun W hφ=>hφ)) (.inr rfl)
    replace hm:=ite_f hm (of_decide_eq_false h209)
    refine c_skip<|d_then<|c_seq<|c_region<|g_v rfl r_move<|g_v rfl (r_len Try.underlying9 rfl)<|g_v rfl (r_leq rfl rfl)<|g_nil<|d_then ?_
    refine c_cond rfl (fun h210=>?_) (fun h210=>?_)
    ·
     replace hm:=ite_t hm (of_decide_eq_true h210)
     refine ga_start (n:=16) ⟨w0,M,H,R,φ⟩ [] #[false,false,false,false,false,false,false,false,false,false,false,false,false,false,false,false] (fun W h=>h.phi (fun W hφ=>hφ)) mixed rfl rfl<|ga_v (i:=0) (bz 16 1) rfl (by kernel_rfl) (fun _ _ _ _ h=>h) rfl (r_move)<|ga_v (i:=1) (bz 16 3) rfl (by kernel_rfl) (fun _ _ _ _ h=>h) rfl (r_move)<|ga_v (i:=2) (bz 16 7) rfl (by kernel_rfl) (fun _ _ _ _ h=>h) rfl (r_move) ?_
     replace hm:=bnd hm
     obtain ⟨x233,hx233,hm⟩:=hm
     refine ga_know _ (fun W hS=>cl_at (p:=(Sta.mk w0 M H R φ).ok) (sz:=1) (fun _=>rfl) (by decide) (ok_pre (H1:=[]) (R1:=[]) hS (fun W h=>h)) fp0_0 hx233) ?_
     rintro ⟨ad234,hA236,f235⟩
     refine ga_v (i:=3) (bz 16 15) rfl (by kernel_rfl) (fun _ _ _ _ h=>h) rfl (r_ix Try.underlying73 Try.sizeOf9 rfl hA236 rfl hx233)<|ga_v (i:=4) (bz 16 31) rfl (by kernel_rfl) (fun _ _ _ _ h=>h) rfl (r_ld rfl Try.isAgg9 (fun W hS=>Cl.head (f235 W (ok_pre (H1:=[]) (R1:=[]) hS (fun W h=>h)))))<|ga_v (i:=5) (bz 16 63) rfl (by kernel_rfl) (fun _ _ _ _ h=>h) rfl (r_len Try.underlying9 rfl)<|ga_v (i:=6) (bz 16 127) rfl (by kernel_rfl) (fun _ _ _ _ h=>h) rfl (r_conv Try.underlying3 Try.underlying5 rfl rfl)<|ga_v (i:=10) (bz 16 1151) rfl (by kernel_rfl) (fun _ _ _ _ h=>h) rfl (r_move)<|ga_v (i:=11) (bz 16 3199) rfl (by kernel_rfl) (fun _ _ _ _ h=>h) rfl (r_move) ?_
     replace hm:=bnd hm
     obtain ⟨x237,hx237,hm⟩:=hm
     refine ga_know _ (fun W hS=>cl_at (p:=(Sta.mk w0 M H R φ).ok) (sz:=1) (fun _=>rfl) (by decide) (ok_pre (H1:=[]) (R1:=[]) hS (fun W h=>h)) fp0_0 hx237) ?_
     rintro ⟨ad238,hA240,f239⟩
     refine ga_v (i:=12) (bz 16 7295) rfl (by kernel_rfl) (fun _ _ _ _ h=>h) rfl (r_ix Try.underlying73 Try.sizeOf9 rfl hA240 rfl hx237)<|ga_v (i:=13) (bz 16 15487) rfl (by kernel_rfl) (fun _ _ _ _ h=>h) rfl (r_ld rfl Try.isAgg9 (fun W hS=>Cl.head (f239 W (ok_pre (H1:=[]) (R1:=[]) hS (fun W h=>h))))) ?_
     refine ga_e (i:=7) (bz 16 15615) rfl (by kernel_rfl) (by decide) rfl  (e_lit (tag:=100360) (l:=[IntKind.u8.wrap (x233.size : Int)]) (enc:=(fun x : Int=>[Value.int .u8 x])) (sz:=1) rfl Try.underlying66 (lit5_25 _) rfl rfl (fun _=>rfl)) (fun g241 W _ h=>(h.dropR (t:=100360) rfl).phi (fun W hφ=>hφ)) (fun g241 _=>?_)
     refine ga_r (i:=8) (bz 16 15871) rfl (by kernel_rfl) (by decide) rfl (r_textE Try.underlying66 Try.underlying5 Try.underlying9 rfl (fun W hS=>rowCl (tag:=100360) rfl W hS)) ?_
     replace hm:=bnd hm
     obtain ⟨s242,hs242,hm⟩:=hm
     refine ga_r (i:=9) (bz 16 16383) rfl (by kernel_rfl) (by decide) rfl (r_addT rfl rfl hs242) ?_
     replace hm:=bnd hm
     obtain ⟨s243,hs243,hm⟩:=hm
     refine ga_r (i:=14) (bz 16 32767) rfl (by kernel_rfl) (by decide) rfl (r_addT rfl rfl hs243)<|ga_r (i:=15) (bz 16 65535) rfl (by kernel_rfl) (by decide) rfl (r_assign)<|ga_done (by kernel_rfl)<|d_normal_block<|d_then ?_
     refine c_flat [(0,.slice Ap0_0 p0.length cp0_0),(4,.string s243),(5,.int .i64 i150)] ⟨rfl,rfl,rfl,trivial⟩ (fun u=>?_)
     refine c_sta ⟨w0,M,H,(100360,⟨.slice (some ⟨g241,0,none⟩) [IntKind.u8.wrap (x233.size : Int)].length 1,5,1,[IntKind.u8.wrap (x233.size : Int)].length,[IntKind.u8.wrap (x233.size : Int)].flatMap (fun x : Int=>[Value.int .u8 x])⟩)::R,φ⟩ (fun _ h=>h)<|c_region<|g_v rfl r_move<|g_v rfl (r_add rfl rfl rfl)<|g_v rfl r_assign<|g_nil ?_
     obtain ⟨n244,hn244,hlp⟩:=nx_inl hm hnx2
     exact d_round (n244,s243,w64 (i150 + 1)) hlp hn244 ⟨rfl,rfl,rfl,trivial⟩ (fun W h=>(h.dropR (t:=100360) rfl).phi (fun W hφ=>hφ))
    replace hm:=ite_f hm (of_decide_eq_false h210)
    refine c_skip<|d_normal_block<|d_then<|c_region<|g_v rfl r_move<|g_v rfl (r_add rfl rfl rfl)<|g_v rfl r_assign<|g_nil ?_
    obtain ⟨n245,hn245,hlp⟩:=nx_inl hm hnx2
    exact d_round (n245,s149,w64 (i150 + 1)) hlp hn245 ⟨rfl,rfl,rfl,trivial⟩ (fun W h=>h.phi (fun W hφ=>hφ))
   replace hm:=ite_t hm (of_decide_eq_true h204)
   iterate 5 refine g_no rfl rfl rfl rfl rfl h204 ?_
   refine g_v rfl (r_pick1 rfl h204)<|g_nil<|d_then ?_
   refine c_flat [(0,.slice Ap0_0 p0.length cp0_0),(4,.string s149),(5,.int .i64 i150),(25,.bool true)] ⟨rfl,rfl,rfl,rfl,trivial⟩ (fun u=>?_)
   refine c_cond1 rfl rfl<|c_seq<|c_region<|g_v rfl r_assign<|g_v rfl r_assign<|g_nil<|d_then<|c_ret<|d_ret_then<|d_ret_block ?_
   refine d_ret_then<|d_ret_then<|d_ret_block<|d_ret_then<|d_ret_then ?_
   replace hm:=nx_out (C:=(fun e : ByteArray ⊕ (ByteArray×Int)=>Sum.elim (fun e=>m_ref03_Make_j1 e) (fun x=>some x) e = some r)) hm hnx2 hr2
   replace hm : some ((⟨#[]⟩ : ByteArray),10) = some r:=hm
   cases hm
   exact d_retC () Try.results72 (res_tmp (res_tmp (res_nil rfl))) trivial (fun W h=>ok_pre (H1:=[]) (R1:=[]) h (fun W hφ=>hφ)) (.inr rfl)
  replace hm:=ite_f hm (of_decide_eq_false h199)
  refine c_exit<|d_exit_then<|d_exit_then<|d_exit_block ?_
  replace hm:=nx_out (C:=(fun e : ByteArray ⊕ (ByteArray×Int)=>Sum.elim (fun e=>m_ref03_Make_j1 e) (fun x=>some x) e = some r)) hm hnx2 hr2
  exact d_round s149 hm Nat.zero_lt_one ⟨rfl,trivial⟩ (fun W h=>h.phi (fun W hφ=>hφ))
 unfold m_ref03_Make_j1 at hm
 refine d_flat [(4,.string s98)] ⟨rfl,trivial⟩ (fun u=>?_)
 refine d_sta ⟨w0,M,H,R,φ⟩ (fun _ h=>h)<|d_then<|c_seq<|c_seq<|c_region<|g_v rfl r_move<|g_v rfl (r_len Try.underlying9 rfl)<|g_v rfl (r_gtr rfl rfl)<|g_nil<|d_then ?_
 refine c_cond rfl (fun h99=>?_) (fun h99=>?_)
 ·
  replace hm:=ite_t hm (of_decide_eq_true h99)
  refine c_seq<|c_region<|g_v rfl r_assign<|g_v rfl r_assign<|g_nil<|d_then<|c_ret<|d_ret_then ?_
  cases hm
  exact d_retC () Try.results72 (res_tmp (res_tmp (res_nil rfl))) trivial (fun W h=>ok_pre (H1:=[]) (R1:=[]) h (fun W hφ=>hφ)) (.inr rfl)
 replace hm:=ite_f hm (of_decide_eq_false h99)
 refine c_skip<|d_then<|c_seq<|c_region<|g_v rfl r_move ?_
 refine g_e rfl (e_lit (tag:=100480) (l:=[0]) (enc:=(fun x : Int=>[Value.int .u8 x])) (sz:=1) rfl Try.underlying66 (lit5_25 _) rfl rfl (fun _=>rfl)) (fun g100 _=>?_)
 refine g_v rfl (r_textE Try.underlying66 Try.underlying5 Try.underlying9 rfl (fun W hS=>rowCl (tag:=100480) rfl W hS)) ?_
 replace hm:=bnd hm
 obtain ⟨s101,hs101,hm⟩:=hm
 refine g_v rfl (r_addT rfl rfl hs101)<|g_v rfl r_assign<|g_v rfl r_assign<|g_nil<|d_then ?_
 refine c_flat [(2,.string s101),(3,.int .i64 0)] ⟨rfl,rfl,trivial⟩ (fun u=>?_)
 refine c_sta ⟨w0,M,H,(100480,⟨.slice (some ⟨g100,0,none⟩) [0].length 1,5,1,[0].length,[0].flatMap (fun x : Int=>[Value.int .u8 x])⟩)::R,φ⟩ (fun _ h=>h)<|c_ret ?_
 cases hm
 exact d_retC () Try.results72 (res_tmp (res_tmp (res_nil rfl))) trivial (fun W h=>ok_pre (H1:=[]) (R1:=[_]) h (fun W hφ=>hφ)) (.inr rfl)
noncomputable def m_ref04_Name_j2 (l191 : List ByteArray) (i249 : Int) : Option (((List ByteArray)×Int×Int×Int×Int) ⊕ (Unit ⊕ (ByteArray×Int×Int))):=
  (m_ref03_Make l191).bind fun (z253 : ByteArray×Int)=>
  some (.inr (.inr (z253.1,i249,z253.2)))
noncomputable def m_ref04_Name_j3 (i197 : Int) (x256 : Int) (l191 : List ByteArray) (i195 : Int) (i263 : Int) : Option (((List ByteArray)×Int×Int×Int×Int) ⊕ (Unit ⊕ (ByteArray×Int×Int))):=
  if i197 ≤ w64 (x256 - 49152) then
    some (.inr (.inr ((⟨#[]⟩ : ByteArray),0,10)))
  else
    some (.inl (l191,w64 (x256 - 49152),i195,i263,w64 (x256 - 49152)))
noncomputable def m_ref04_Name_s1 (p0 : ByteArray) (l191 : List ByteArray) (i194 : Int) (i195 : Int) (i196 : Int) (i197 : Int) : Option (((List ByteArray)×Int×Int×Int×Int) ⊕ (Unit ⊕ (ByteArray×Int×Int))):=
  (m_ref04_Number p0 i194 1).bind fun (z245 : Int×Int×Int)=>
  if z245.2.2 ≠ 0 then
    some (.inr (.inr ((⟨#[]⟩ : ByteArray),0,z245.2.2)))
  else
    if z245.1 = 0 then
      if i196 < 0 then
        m_ref04_Name_j2 l191 z245.2.1
      else
        m_ref04_Name_j2 l191 i196
    else
      if 192 ≤ z245.1 then
        (m_ref04_Number p0 i194 2).bind fun (z260 : Int×Int×Int)=>
        if z260.2.2 ≠ 0 then
          some (.inr (.inr ((⟨#[]⟩ : ByteArray),0,z260.2.2)))
        else
          if i196 < 0 then
            m_ref04_Name_j3 i197 z260.1 l191 i195 z260.2.1
          else
            m_ref04_Name_j3 i197 z260.1 l191 i195 i196
      else
        if 63 < z245.1 then
          some (.inr (.inr ((⟨#[]⟩ : ByteArray),0,10)))
        else
          (m_ref04_Raw p0 z245.2.1 z245.1).bind fun (z272 : ByteArray×Int×Int)=>
          if z272.2.2 ≠ 0 then
            some (.inr (.inr ((⟨#[]⟩ : ByteArray),0,z272.2.2)))
          else
            if 255 < w64 ((w64 (i195 + 1)) + z245.1) then
              some (.inr (.inr ((⟨#[]⟩ : ByteArray),0,11)))
            else
              (app 16 l191 [z272.1]).bind fun l276=>
              some (.inl (l276,z272.2.1,w64 ((w64 (i195 + 1)) + z245.1),i196,i197))
noncomputable def m_ref04_Name (p0 : ByteArray) (p1 : Int) : Option (ByteArray×Int×Int):=
  (loop (fun s=>m_ref04_Name_s1 p0 s.1 s.2.1 s.2.2.1 s.2.2.2.1 s.2.2.2.2) (([] : List ByteArray),p1,1,(-1),p1)).bind fun e=>Sum.elim (fun e=>(none : Option (ByteArray×Int×Int))) (fun x=>some x) e
theorem c_ref04_Name {w0 : World} {M : Nat→Prop} {H : List (Nat×Nat×Obj)} {R : List (Nat×Row)} {φ : World→Prop} (p0 : ByteArray) (p1 : Int) (r : ByteArray×Int×Int) (hm : m_ref04_Name p0 p1 = some r) :
    Cn Try.prog 46 #[.string p0,.int .i64 p1] ⟨w0,M,H,R,φ⟩ (fun x : Unit=>.tuple #[.string r.1,.int .i64 r.2.1,.int .i64 r.2.2]) (fun x=>True) (fun x=>⟨w0,M,H,R,φ⟩):=by
 unfold m_ref04_Name at hm
 refine cn_intro (fn:=Try.f46) (N:=93) Try.func46 rfl Try.ntmps46 rfl<|c_seq<|c_region ?_
 iterate 3 refine g_v rfl r_assign ?_
 refine g_nil<|d_then<|c_seq<|c_region<|g_v rfl r_assign<|g_nil<|d_then<|c_seq<|c_region<|g_v rfl r_assign ?_
 refine g_nil<|d_then<|c_seq<|c_region<|g_v rfl r_assign<|g_nil<|d_then<|c_seq<|c_region<|g_v rfl r_move ?_
 refine g_v rfl r_assign<|g_nil<|d_then ?_
 -- no way on
 refine c_block<|c_sta _ (fun W h=>nilR h 14 9 1) ?_
 replace hm:=bnd hm
 obtain ⟨out1,hl1,hr1⟩:=hm
 obtain ⟨n240',hl1⟩:=loop_lp hl1
 refine c_loopU (ι:=Nat×(List ByteArray)×Int×Int×Int×Int×Option Addr×Nat) [0,1,7,8,9,10] (fun ⟨n240,l191,i194,i195,i196,i197,A192,c193⟩=>[(1,.int .i64 i194),(7,.slice A192 l191.length c193),(8,.int .i64 i195),(9,.int .i64 i196),(10,.int .i64 i197)]) (fun ⟨n240,l191,i194,i195,i196,i197,A192,c193⟩=>⟨w0,M,H,(14,⟨.slice A192 l191.length c193,9,1,l191.length,l191.flatMap (fun x : ByteArray=>[Value.string x])⟩)::R,φ⟩) (fun ⟨n240,l191,i194,i195,i196,i197,A192,c193⟩=>Lp (fun s=>m_ref04_Name_s1 p0 s.1 s.2.1 s.2.2.1 s.2.2.2.1 s.2.2.2.2) n240 (l191,i194,i195,i196,i197) out1∧l191.length ≤ c193) (fun ⟨n240,l191,i194,i195,i196,i197,A192,c193⟩=>n240) (n240',([] : List ByteArray),p1,1,(-1),p1,none,0) ⟨hl1,(Nat.le_refl 0)⟩ ⟨rfl,rfl,rfl,rfl,rfl,rfl,trivial⟩ (fun W h=>h.phi (fun W hφ=>hφ)) (fun ⟨n240,l191,i194,i195,i196,i197,A192,c193⟩ u ⟨hlp,hc193⟩=>?_)
 obtain ⟨o1,hm,hnx1⟩:=lp_step hlp
 clear hlp
 replace hm : m_ref04_Name_s1 p0 l191 i194 i195 i196 i197 = some o1:=hm
 unfold m_ref04_Name_s1 at hm
 refine c_flat [(0,.string p0),(1,.int .i64 i194),(7,.slice A192 l191.length c193),(8,.int .i64 i195),(9,.int .i64 i196),(10,.int .i64 i197)] ⟨rfl,rfl,rfl,rfl,rfl,rfl,trivial⟩ (fun u=>?_)
 refine c_sta ⟨w0,M,H,(14,⟨.slice A192 l191.length c193,9,1,l191.length,l191.flatMap (fun x : ByteArray=>[Value.string x])⟩)::R,φ⟩ (fun _ h=>h)<|c_block<|c_seq<|c_region<|g_v rfl r_move<|g_v rfl r_move ?_
 replace hm:=bnd hm
 obtain ⟨⟨x241,x242,x243⟩,hx244,hm⟩:=hm
 refine g_cn ⟨w0,M,_,_,φ⟩ (fun _ h=>h) Try.call45 rfl rfl (c_ref04_Number p0 i194 1 _ hx244) (fun _ _=>?_)
 refine g_v rfl r_move ?_
 iterate 3 refine g_v rfl (r_extract rfl rfl) ?_
 iterate 3 refine g_v rfl r_assign ?_
 refine g_nil<|d_then ?_
 refine c_flat [(0,.string p0),(1,.int .i64 i194),(7,.slice A192 l191.length c193),(8,.int .i64 i195),(9,.int .i64 i196),(10,.int .i64 i197),(11,.int .i64 x241),(12,.int .i64 x242),(13,.int .i64 x243)] ⟨rfl,rfl,rfl,rfl,rfl,rfl,rfl,rfl,rfl,trivial⟩ (fun u=>?_)
 refine c_seq<|c_seq<|c_region<|g_v rfl r_move<|g_v rfl (r_neq rfl rfl)<|g_nil<|d_then ?_
 refine c_cond rfl (fun h246=>?_) (fun h246=>?_)
 ·
  replace hm:=ite_t hm (of_decide_eq_true h246)
  refine c_seq<|c_region<|g_v rfl r_move ?_
  iterate 3 refine g_v rfl r_assign ?_
  refine g_nil<|d_then<|c_ret<|d_ret_then<|d_ret_block<|d_ret_then<|d_ret_block ?_
  replace hm:=nx_out (C:=(fun e : Unit ⊕ (ByteArray×Int×Int)=>Sum.elim (fun e=>(none : Option (ByteArray×Int×Int))) (fun x=>some x) e = some r)) hm hnx1 hr1
  replace hm : some ((⟨#[]⟩ : ByteArray),0,x243) = some r:=hm
  cases hm
  exact d_retC () Try.results46 (res_tmp (res_tmp (res_tmp (res_nil rfl)))) trivial (fun W h=>ok_pre (H1:=[]) (R1:=[_]) h (fun W hφ=>hφ)) (.inr rfl)
 replace hm:=ite_f hm (of_decide_eq_false h246)
 refine c_skip<|d_then<|c_seq<|c_seq<|c_region<|g_v rfl r_move<|g_v rfl (r_eql rfl rfl)<|g_nil<|d_then ?_
 refine c_cond rfl (fun h247=>?_) (fun h247=>?_)
 ·
  replace hm:=ite_t hm (of_decide_eq_true h247)
  refine c_seq ?_
  refine c_cut (ι:=Int) [7,9] (fun i249=>[(9,.int .i64 i249)]) (fun i249=>⟨w0,M,H,(14,⟨.slice A192 l191.length c193,9,1,l191.length,l191.flatMap (fun x : ByteArray=>[Value.string x])⟩)::R,φ⟩) (fun i249=>m_ref04_Name_j2 l191 i249 = some o1) ?_ (fun i249 u hm=>?_)
  ·
   refine c_seq<|c_region<|g_v rfl r_move<|g_v rfl (r_lss rfl rfl)<|g_nil<|d_then ?_
   refine c_cond rfl (fun h254=>?_) (fun h254=>?_)
   ·
    replace hm:=ite_t hm (of_decide_eq_true h254)
    refine c_region<|g_v rfl r_move<|g_v rfl r_assign<|g_nil ?_
    exact d_round x242 hm Nat.zero_lt_one ⟨rfl,rfl,trivial⟩ (fun W h=>h.phi (fun W hφ=>hφ))
   replace hm:=ite_f hm (of_decide_eq_false h254)
   refine c_skip ?_
   exact d_round i196 hm Nat.zero_lt_one ⟨rfl,rfl,trivial⟩ (fun W h=>h.phi (fun W hφ=>hφ))
  unfold m_ref04_Name_j2 at hm
  refine d_flat [(7,.slice A192 l191.length c193),(9,.int .i64 i249)] ⟨rfl,rfl,trivial⟩ (fun u=>?_)
  refine d_then<|c_seq<|c_region<|g_v rfl r_move ?_
  replace hm:=bnd hm
  obtain ⟨⟨x250,x251⟩,hx252,hm⟩:=hm
  refine g_cn ⟨w0,M,_,_,φ⟩ (fun _ h=>h) Try.call72 rfl rfl (c_ref03_Make l191 A192 c193 hc193 (fun W hS=>rowCl (tag:=14) rfl W hS) _ hx252) (fun _ _=>?_)
  refine g_v rfl r_move<|g_v rfl (r_extract rfl rfl)<|g_v rfl (r_extract rfl rfl)<|g_v rfl r_assign<|g_v rfl r_assign<|g_nil<|d_then<|c_seq<|c_region ?_
  iterate 3 refine g_v rfl r_move ?_
  iterate 3 refine g_v rfl r_assign ?_
  refine g_nil<|d_then ?_
  refine c_flat [(4,.string x250),(5,.int .i64 i249),(6,.int .i64 x251)] ⟨rfl,rfl,rfl,trivial⟩ (fun u=>?_)
  refine c_ret<|d_ret_then<|d_ret_block<|d_ret_then<|d_ret_block ?_
  replace hm:=nx_out (C:=(fun e : Unit ⊕ (ByteArray×Int×Int)=>Sum.elim (fun e=>(none : Option (ByteArray×Int×Int))) (fun x=>some x) e = some r)) hm hnx1 hr1
  replace hm : some (x250,i249,x251) = some r:=hm
  cases hm
  exact d_retC () Try.results46 (res_tmp (res_tmp (res_tmp (res_nil rfl)))) trivial (fun W h=>ok_pre (H1:=[]) (R1:=[_]) h (fun W hφ=>hφ)) (.inr rfl)
 replace hm:=ite_f hm (of_decide_eq_false h247)
 refine c_skip<|d_then<|c_seq<|c_seq<|c_region<|g_v rfl r_move<|g_v rfl (r_geq rfl rfl)<|g_nil<|d_then ?_
 refine c_cond rfl (fun h255=>?_) (fun h255=>?_)
 ·
  replace hm:=ite_t hm (of_decide_eq_true h255)
  refine c_seq<|c_region<|g_v rfl r_move<|g_v rfl r_move ?_
  replace hm:=bnd hm
  obtain ⟨⟨x256,x257,x258⟩,hx259,hm⟩:=hm
  refine g_cn ⟨w0,M,_,_,φ⟩ (fun _ h=>h) Try.call45 rfl rfl (c_ref04_Number p0 i194 2 _ hx259) (fun _ _=>?_)
  refine g_v rfl r_move ?_
  iterate 3 refine g_v rfl (r_extract rfl rfl) ?_
  iterate 3 refine g_v rfl r_assign ?_
  refine g_nil<|d_then ?_
  refine c_flat [(0,.string p0),(7,.slice A192 l191.length c193),(8,.int .i64 i195),(9,.int .i64 i196),(10,.int .i64 i197),(16,.int .i64 x256),(17,.int .i64 x257),(18,.int .i64 x258)] ⟨rfl,rfl,rfl,rfl,rfl,rfl,rfl,rfl,trivial⟩ (fun u=>?_)
  refine c_seq<|c_seq<|c_region<|g_v rfl r_move<|g_v rfl (r_neq rfl rfl)<|g_nil<|d_then ?_
  refine c_cond rfl (fun h261=>?_) (fun h261=>?_)
  ·
   replace hm:=ite_t hm (of_decide_eq_true h261)
   refine c_seq<|c_region<|g_v rfl r_move ?_
   iterate 3 refine g_v rfl r_assign ?_
   refine g_nil<|d_then<|c_ret<|d_ret_then<|d_ret_then<|d_ret_block<|d_ret_then<|d_ret_block ?_
   replace hm:=nx_out (C:=(fun e : Unit ⊕ (ByteArray×Int×Int)=>Sum.elim (fun e=>(none : Option (ByteArray×Int×Int))) (fun x=>some x) e = some r)) hm hnx1 hr1
   replace hm : some ((⟨#[]⟩ : ByteArray),0,x258) = some r:=hm
   cases hm
   exact d_retC () Try.results46 (res_tmp (res_tmp (res_tmp (res_nil rfl)))) trivial (fun W h=>ok_pre (H1:=[]) (R1:=[_]) h (fun W hφ=>hφ)) (.inr rfl)
  replace hm:=ite_f hm (of_decide_eq_false h261)
  refine c_skip<|d_then<|c_seq ?_
  refine c_cut (ι:=Int) [0,7,8,9,10,16] (fun i263=>[(9,.int .i64 i263)]) (fun i263=>⟨w0,M,H,(14,⟨.slice A192 l191.length c193,9,1,l191.length,l191.flatMap (fun x : ByteArray=>[Value.string x])⟩)::R,φ⟩) (fun i263=>m_ref04_Name_j3 i197 x256 l191 i195 i263 = some o1) ?_ (fun i263 u hm=>?_)
  ·
   refine c_seq<|c_region<|g_v rfl r_move<|g_v rfl (r_lss rfl rfl)<|g_nil<|d_then ?_
   refine c_cond rfl (fun h266=>?_) (fun h266=>?_)
   ·
    replace hm:=ite_t hm (of_decide_eq_true h266)
    refine c_region<|g_v rfl r_move<|g_v rfl r_assign<|g_nil ?_
    exact d_round x257 hm Nat.zero_lt_one ⟨rfl,rfl,rfl,rfl,rfl,rfl,trivial⟩ (fun W h=>h.phi (fun W hφ=>hφ))
   replace hm:=ite_f hm (of_decide_eq_false h266)
   refine c_skip ?_
   exact d_round i196 hm Nat.zero_lt_one ⟨rfl,rfl,rfl,rfl,rfl,rfl,trivial⟩ (fun W h=>h.phi (fun W hφ=>hφ))
  unfold m_ref04_Name_j3 at hm
  refine d_flat [(0,.string p0),(7,.slice A192 l191.length c193),(8,.int .i64 i195),(9,.int .i64 i263),(10,.int .i64 i197),(16,.int .i64 x256)] ⟨rfl,rfl,rfl,rfl,rfl,rfl,trivial⟩ (fun u=>?_)
  refine d_then<|c_seq<|c_region<|g_v rfl r_move<|g_v rfl (r_sub rfl rfl rfl)<|g_v rfl r_assign<|g_nil<|d_then<|c_seq<|c_seq ?_
  refine c_region<|g_v rfl r_move<|g_v rfl r_move<|g_v rfl (r_geq rfl rfl)<|g_nil<|d_then ?_
  refine c_cond rfl (fun h264=>?_) (fun h264=>?_)
  ·
   replace hm:=ite_t hm (of_decide_eq_true h264)
   refine c_seq<|c_region ?_
   iterate 3 refine g_v rfl r_assign ?_
   refine g_nil<|d_then ?_
   refine c_flat [(4,.string (⟨#[]⟩ : ByteArray)),(5,.int .i64 0),(6,.int .i64 10)] ⟨rfl,rfl,rfl,trivial⟩ (fun u=>?_)
   refine c_ret<|d_ret_then<|d_ret_then<|d_ret_block<|d_ret_then<|d_ret_block ?_
   replace hm:=nx_out (C:=(fun e : Unit ⊕ (ByteArray×Int×Int)=>Sum.elim (fun e=>(none : Option (ByteArray×Int×Int))) (fun x=>some x) e = some r)) hm hnx1 hr1
   replace hm : some ((⟨#[]⟩ : ByteArray),0,10) = some r:=hm
   cases hm
   exact d_retC () Try.results46 (res_tmp (res_tmp (res_tmp (res_nil rfl)))) trivial (fun W h=>ok_pre (H1:=[]) (R1:=[_]) h (fun W hφ=>hφ)) (.inr rfl)
  replace hm:=ite_f hm (of_decide_eq_false h264)
  refine c_skip<|d_then<|c_seq<|c_region<|g_v rfl r_move<|g_v rfl r_assign<|g_nil<|d_then<|c_seq<|c_region ?_
  refine g_v rfl r_move<|g_v rfl r_assign<|g_nil<|d_then ?_
  refine c_flat [(0,.string p0),(1,.int .i64 (w64 (x256 - 49152))),(7,.slice A192 l191.length c193),(8,.int .i64 i195),(9,.int .i64 i263),(10,.int .i64 (w64 (x256 - 49152)))] ⟨rfl,rfl,rfl,rfl,rfl,rfl,trivial⟩ (fun u=>?_)
  refine c_exit<|d_exit_then<|d_exit_block ?_
  obtain ⟨n265,hn265,hlp⟩:=nx_inl hm hnx1
  exact d_round (n265,l191,w64 (x256 - 49152),i195,i263,w64 (x256 - 49152),A192,c193) ⟨hlp,hc193⟩ hn265 ⟨rfl,rfl,rfl,rfl,rfl,rfl,trivial⟩ (fun W h=>h.phi (fun W hφ=>hφ))
 replace hm:=ite_f hm (of_decide_eq_false h255)
 refine c_skip<|d_then<|c_seq<|c_seq<|c_region<|g_v rfl r_move<|g_v rfl (r_gtr rfl rfl)<|g_nil<|d_then ?_
 refine c_cond rfl (fun h267=>?_) (fun h267=>?_)
 ·
  replace hm:=ite_t hm (of_decide_eq_true h267)
  refine c_seq<|c_region ?_
  iterate 3 refine g_v rfl r_assign ?_
  refine g_nil<|d_then ?_
  refine c_flat [(4,.string (⟨#[]⟩ : ByteArray)),(5,.int .i64 0),(6,.int .i64 10)] ⟨rfl,rfl,rfl,trivial⟩ (fun u=>?_)
  refine c_ret<|d_ret_then<|d_ret_block<|d_ret_then<|d_ret_block ?_
  replace hm:=nx_out (C:=(fun e : Unit ⊕ (ByteArray×Int×Int)=>Sum.elim (fun e=>(none : Option (ByteArray×Int×Int))) (fun x=>some x) e = some r)) hm hnx1 hr1
  replace hm : some ((⟨#[]⟩ : ByteArray),0,10) = some r:=hm
  cases hm
  exact d_retC () Try.results46 (res_tmp (res_tmp (res_tmp (res_nil rfl)))) trivial (fun W h=>ok_pre (H1:=[]) (R1:=[_]) h (fun W hφ=>hφ)) (.inr rfl)
 replace hm:=ite_f hm (of_decide_eq_false h267)
 refine c_skip<|d_then<|c_seq<|c_region ?_
 iterate 3 refine g_v rfl r_move ?_
 replace hm:=bnd hm
 obtain ⟨⟨x268,x269,x270⟩,hx271,hm⟩:=hm
 refine g_cn ⟨w0,M,_,_,φ⟩ (fun _ h=>h) Try.call71 rfl rfl (c_ref04_Raw p0 x242 x241 _ hx271) (fun _ _=>?_)
 refine g_v rfl r_move ?_
 iterate 3 refine g_v rfl (r_extract rfl rfl) ?_
 iterate 3 refine g_v rfl r_assign ?_
 refine g_nil<|d_then ?_
 refine c_flat [(0,.string p0),(7,.slice A192 l191.length c193),(8,.int .i64 i195),(9,.int .i64 i196),(10,.int .i64 i197),(11,.int .i64 x241),(20,.string x268),(21,.int .i64 x269),(22,.int .i64 x270)] ⟨rfl,rfl,rfl,rfl,rfl,rfl,rfl,rfl,rfl,trivial⟩ (fun u=>?_)
 refine c_seq<|c_seq<|c_region<|g_v rfl r_move<|g_v rfl (r_neq rfl rfl)<|g_nil<|d_then ?_
 refine c_cond rfl (fun h273=>?_) (fun h273=>?_)
 ·
  replace hm:=ite_t hm (of_decide_eq_true h273)
  refine c_seq<|c_region<|g_v rfl r_move ?_
  iterate 3 refine g_v rfl r_assign ?_
  refine g_nil<|d_then<|c_ret<|d_ret_then<|d_ret_block<|d_ret_then<|d_ret_block ?_
  replace hm:=nx_out (C:=(fun e : Unit ⊕ (ByteArray×Int×Int)=>Sum.elim (fun e=>(none : Option (ByteArray×Int×Int))) (fun x=>some x) e = some r)) hm hnx1 hr1
  replace hm : some ((⟨#[]⟩ : ByteArray),0,x270) = some r:=hm
  cases hm
  exact d_retC () Try.results46 (res_tmp (res_tmp (res_tmp (res_nil rfl)))) trivial (fun W h=>ok_pre (H1:=[]) (R1:=[_]) h (fun W hφ=>hφ)) (.inr rfl)
 replace hm:=ite_f hm (of_decide_eq_false h273)
 refine c_skip<|d_then<|c_seq<|c_region<|g_v rfl r_move<|g_v rfl (r_add rfl rfl rfl)<|g_v rfl r_move<|g_v rfl (r_add rfl rfl rfl)<|g_v rfl r_assign<|g_nil ?_
 refine d_then<|c_seq<|c_seq<|c_region<|g_v rfl r_move<|g_v rfl (r_gtr rfl rfl)<|g_nil<|d_then ?_
 refine c_flat [(0,.string p0),(7,.slice A192 l191.length c193),(8,.int .i64 (w64 ((w64 (i195 + 1)) + x241))),(9,.int .i64 i196),(10,.int .i64 i197),(20,.string x268),(21,.int .i64 x269),(87,.bool (decide (255 < w64 ((w64 (i195 + 1)) + x241))))] ⟨rfl,rfl,rfl,rfl,rfl,rfl,rfl,rfl,trivial⟩ (fun u=>?_)
 refine c_cond rfl (fun h274=>?_) (fun h274=>?_)
 ·
  replace hm:=ite_t hm (of_decide_eq_true h274)
  refine c_seq<|c_region ?_
  iterate 3 refine g_v rfl r_assign ?_
  refine g_nil<|d_then<|c_ret<|d_ret_then<|d_ret_block<|d_ret_then<|d_ret_block ?_
  replace hm:=nx_out (C:=(fun e : Unit ⊕ (ByteArray×Int×Int)=>Sum.elim (fun e=>(none : Option (ByteArray×Int×Int))) (fun x=>some x) e = some r)) hm hnx1 hr1
  replace hm : some ((⟨#[]⟩ : ByteArray),0,11) = some r:=hm
  cases hm
  exact d_retC () Try.results46 (res_tmp (res_tmp (res_tmp (res_nil rfl)))) trivial (fun W h=>ok_pre (H1:=[]) (R1:=[_]) h (fun W hφ=>hφ)) (.inr rfl)
 replace hm:=ite_f hm (of_decide_eq_false h274)
 refine c_skip<|d_then<|c_seq<|c_region<|g_v rfl r_move<|g_v rfl r_move ?_
 refine g_e rfl (e_lit (tag:=100900) (l:=[x268]) (enc:=(fun x : ByteArray=>[Value.string x])) (sz:=1) rfl Try.underlying73 (lit9_10 _) rfl rfl (fun _=>rfl)) (fun g275 _=>?_)
 replace hm:=bnd hm
 obtain ⟨l276,hl276,hm⟩:=hm
 refine g_e rfl (e_appR (enc:=(fun x : ByteArray=>[Value.string x])) (l:=l191) (l1:=[x268]) (l2:=l276) (tag:=14) Try.underlying73 inf9_11 rfl (by decide) (by decide) (fun _=>rfl) (fun _=>rfl) rfl hc193 rfl rfl (fun W hS=>rowCl (tag:=100900) rfl W hS) hl276) (fun ⟨A277,c278⟩ hc278=>?_)
 refine g_v rfl r_assign<|g_nil<|d_then<|c_region<|g_v rfl r_move<|g_v rfl r_assign<|g_nil<|d_normal_block ?_
 obtain ⟨n279,hn279,hlp⟩:=nx_inl hm hnx1
 exact d_round (n279,l276,x269,w64 ((w64 (i195 + 1)) + x241),i196,i197,A277,c278) ⟨hlp,hc278⟩ hn279 ⟨rfl,rfl,rfl,rfl,rfl,rfl,trivial⟩ (fun W h=>(h.dropR (t:=100900) rfl).phi (fun W hφ=>hφ))
noncomputable def m_ref05_head_j1 (p0 : Int) (b3 : Bool) : Option (Int×Int×Int×Bool):=
  if b3 = true then
    some (0,1,0,true)
  else
    if p0 = 15 then
      some (2,1,0,true)
    else
      if p0 = 6 then
        some (0,2,20,true)
      else
        some (0,0,0,false)
noncomputable def m_ref05_head (p0 : Int) : Option (Int×Int×Int×Bool):=
  if p0 = 2 then
    m_ref05_head_j1 p0 (decide (p0 = 2))
  else
    if p0 = 5 then
      m_ref05_head_j1 p0 (decide (p0 = 5))
    else
      m_ref05_head_j1 p0 (decide (p0 = 12))
theorem c_ref05_head {w0 : World} {M : Nat→Prop} {H : List (Nat×Nat×Obj)} {R : List (Nat×Row)} {φ : World→Prop} (p0 : Int) (r : Int×Int×Int×Bool) (hm : m_ref05_head p0 = some r) :
    Cn Try.prog 97 #[.int .u16 p0] ⟨w0,M,H,R,φ⟩ (fun x : Unit=>.tuple #[.int .i64 r.1,.int .i64 r.2.1,.int .i64 r.2.2.1,.bool r.2.2.2]) (fun x=>True) (fun x=>⟨w0,M,H,R,φ⟩):=by
 unfold m_ref05_head at hm
 refine cn_intro (fn:=Try.f97) (N:=15) Try.func97 rfl Try.ntmps97 rfl<|c_seq<|c_region ?_
 iterate 4 refine g_v rfl r_assign ?_
 refine g_nil<|d_then<|c_seq<|c_seq<|c_region<|g_v rfl r_move<|g_nil<|d_then<|c_block<|c_seq ?_
 refine c_cut (ι:=Bool) [6,7] (fun b3=>[(7,.bool b3)]) (fun b3=>⟨w0,M,H,R,φ⟩) (fun b3=>m_ref05_head_j1 p0 b3 = some r) ?_ (fun b3 u hm=>?_)
 ·
  refine c_seq<|c_region<|g_v rfl (r_eql rfl rfl)<|g_v rfl r_assign<|g_nil<|d_then ?_
  refine c_cond rfl (fun h7=>?_) (fun h7=>?_)
  ·
   replace hm:=ite_t hm (of_decide_eq_true h7)
   refine c_skip ?_
   exact d_round (decide (p0 = 2)) hm Nat.zero_lt_one ⟨rfl,rfl,trivial⟩ (fun W h=>h.phi (fun W hφ=>hφ))
  replace hm:=ite_f hm (of_decide_eq_false h7)
  refine c_seq<|c_region<|g_v rfl (r_eql rfl rfl)<|g_v rfl r_assign<|g_nil<|d_then ?_
  refine c_flat [(6,.int .u16 p0),(7,.bool (decide (p0 = 5)))] ⟨rfl,rfl,trivial⟩ (fun u=>?_)
  refine c_sta ⟨w0,M,H,R,φ⟩ (fun _ h=>h) ?_
  refine c_cond rfl (fun h8=>?_) (fun h8=>?_)
  ·
   replace hm:=ite_t hm (of_decide_eq_true h8)
   refine c_skip ?_
   exact d_round (decide (p0 = 5)) hm Nat.zero_lt_one ⟨rfl,rfl,trivial⟩ (fun W h=>h.phi (fun W hφ=>hφ))
  replace hm:=ite_f hm (of_decide_eq_false h8)
  refine c_region<|g_v rfl (r_eql rfl rfl)<|g_v rfl r_assign<|g_nil ?_
  exact d_round (decide (p0 = 12)) hm Nat.zero_lt_one ⟨rfl,rfl,trivial⟩ (fun W h=>h.phi (fun W hφ=>hφ))
 unfold m_ref05_head_j1 at hm
 refine d_flat [(6,.int .u16 p0),(7,.bool b3)] ⟨rfl,rfl,trivial⟩ (fun u=>?_)
 refine d_sta ⟨w0,M,H,R,φ⟩ (fun _ h=>h)<|d_then ?_
 refine c_cond rfl (fun h4=>?_) (fun h4=>?_)
 ·
  replace hm:=ite_t hm h4
  refine c_seq<|c_region ?_
  iterate 4 refine g_v rfl r_assign ?_
  refine g_nil<|d_then<|c_ret<|d_ret_block<|d_ret_then ?_
  cases hm
  exact d_retC () Try.results97 (res_tmp (res_tmp (res_tmp (res_tmp (res_nil rfl))))) trivial (fun W h=>ok_pre (H1:=[]) (R1:=[]) h (fun W hφ=>hφ)) (.inr rfl)
 replace hm:=ite_f hm (bool_nt h4)
 refine c_seq<|c_region<|g_v rfl (r_eql rfl rfl)<|g_v rfl r_assign<|g_nil<|d_then ?_
 refine c_cond rfl (fun h5=>?_) (fun h5=>?_)
 ·
  replace hm:=ite_t hm (of_decide_eq_true h5)
  refine c_seq<|c_region ?_
  iterate 4 refine g_v rfl r_assign ?_
  refine g_nil<|d_then<|c_ret<|d_ret_block<|d_ret_then ?_
  cases hm
  exact d_retC () Try.results97 (res_tmp (res_tmp (res_tmp (res_tmp (res_nil rfl))))) trivial (fun W h=>ok_pre (H1:=[]) (R1:=[]) h (fun W hφ=>hφ)) (.inr rfl)
 replace hm:=ite_f hm (of_decide_eq_false h5)
 refine c_seq<|c_region<|g_v rfl (r_eql rfl rfl)<|g_v rfl r_assign<|g_nil<|d_then ?_
 refine c_cond rfl (fun h6=>?_) (fun h6=>?_)
 ·
  replace hm:=ite_t hm (of_decide_eq_true h6)
  refine c_seq<|c_region ?_
  iterate 4 refine g_v rfl r_assign ?_
  refine g_nil<|d_then<|c_ret<|d_ret_block<|d_ret_then ?_
  cases hm
  exact d_retC () Try.results97 (res_tmp (res_tmp (res_tmp (res_tmp (res_nil rfl))))) trivial (fun W h=>ok_pre (H1:=[]) (R1:=[]) h (fun W hφ=>hφ)) (.inr rfl)
 replace hm:=ite_f hm (of_decide_eq_false h6)
 refine c_skip<|d_normal_block<|d_then<|c_seq<|c_region ?_
 iterate 4 refine g_v rfl r_assign ?_
 refine g_nil<|d_then<|c_ret ?_
 cases hm
 exact d_retC () Try.results97 (res_tmp (res_tmp (res_tmp (res_tmp (res_nil rfl))))) trivial (fun W h=>ok_pre (H1:=[]) (R1:=[]) h (fun W hφ=>hφ)) (.inr rfl)
noncomputable def m_ref03_row_j1 (p0 : ByteArray) (l82 : List ByteArray) (i85 : Int) : Option ((List ByteArray)×Bool):=
  some (l82,decide (i85 = w64 ((p0.size : Int) - 1)))
noncomputable def m_ref03_row_s2 (p0 : ByteArray) (l101 : List ByteArray) (i104 : Int) : Option (((List ByteArray)×Int) ⊕ (((List ByteArray)×Int) ⊕ ((List ByteArray)×Bool))):=
  if i104 < (p0.size : Int) then
    (sat_ p0 i104).bind fun b122=>
    if b122 ≠ 0 then
      (sat_ p0 i104).bind fun b124=>
      if 63 < w64 b124 then
        some (.inr (.inr (([] : List ByteArray),false)))
      else
        if (p0.size : Int) < w64 ((w64 (i104 + 1)) + (w64 b124)) then
          some (.inr (.inr (([] : List ByteArray),false)))
        else
          (scutMid p0 (w64 (i104 + 1)) (w64 ((w64 (i104 + 1)) + (w64 b124)))).bind fun s127=>
          (app 16 l101 [s127]).bind fun l129=>
          some (.inl (l129,w64 ((w64 (i104 + 1)) + (w64 b124))))
    else
      some (.inr (.inl (l101,i104)))
  else
    some (.inr (.inl (l101,i104)))
noncomputable def m_ref03_row (p0 : ByteArray) : Option ((List ByteArray)×Bool):=
  (loop (fun s=>m_ref03_row_s2 p0 s.1 s.2) (([] : List ByteArray),0)).bind fun e=>Sum.elim (fun e=>m_ref03_row_j1 p0 e.1 e.2) (fun x=>some x) e
theorem c_ref03_row {w0 : World} {M : Nat→Prop} {H : List (Nat×Nat×Obj)} {R : List (Nat×Row)} {φ : World→Prop} (p0 : ByteArray) (r : (List ByteArray)×Bool) (hm : m_ref03_row p0 = some r) :
    Cn Try.prog 41 #[.string p0] ⟨w0,M,H,R,φ⟩ (fun x : Option Addr×Nat=>.tuple #[.slice x.1 r.1.length x.2,.bool r.2]) (fun x=>r.1.length ≤ x.2) (fun x=>⟨w0,M,H,(2000,⟨.slice x.1 r.1.length x.2,9,1,r.1.length,r.1.flatMap (fun x : ByteArray=>[Value.string x])⟩)::R,φ⟩):=by
 unfold m_ref03_row at hm
 refine cn_intro (fn:=Try.f41) (N:=53) Try.func41 rfl Try.ntmps41 rfl<|c_seq<|c_region<|g_v rfl r_assign<|g_v rfl r_assign<|g_nil<|d_then<|c_seq<|c_region<|g_v rfl r_assign ?_
 refine g_nil<|d_then<|c_seq<|c_region<|g_v rfl r_assign<|g_nil<|d_then<|c_seq<|c_sta _ (fun W h=>nilR h 19 9 1) ?_
 refine c_cut (ι:=(List ByteArray)×Int×Option Addr×Nat) [0,4,5] (fun ⟨l82,i85,A83,c84⟩=>[(4,.slice A83 l82.length c84),(5,.int .i64 i85)]) (fun ⟨l82,i85,A83,c84⟩=>⟨w0,M,H,(19,⟨.slice A83 l82.length c84,9,1,l82.length,l82.flatMap (fun x : ByteArray=>[Value.string x])⟩)::R,φ⟩) (fun ⟨l82,i85,A83,c84⟩=>m_ref03_row_j1 p0 l82 i85 = some r∧l82.length ≤ c84) ?_ (fun ⟨l82,i85,A83,c84⟩ u ⟨hm,hc84⟩=>?_)
 ·
  refine c_block ?_
  replace hm:=bnd hm
  obtain ⟨out2,hl2,hr2⟩:=hm
  obtain ⟨n120',hl2⟩:=loop_lp hl2
  refine c_loopU (ι:=Nat×(List ByteArray)×Int×Option Addr×Nat) [0,4,5] (fun ⟨n120,l101,i104,A102,c103⟩=>[(4,.slice A102 l101.length c103),(5,.int .i64 i104)]) (fun ⟨n120,l101,i104,A102,c103⟩=>⟨w0,M,H,(19,⟨.slice A102 l101.length c103,9,1,l101.length,l101.flatMap (fun x : ByteArray=>[Value.string x])⟩)::R,φ⟩) (fun ⟨n120,l101,i104,A102,c103⟩=>Lp (fun s=>m_ref03_row_s2 p0 s.1 s.2) n120 (l101,i104) out2∧l101.length ≤ c103) (fun ⟨n120,l101,i104,A102,c103⟩=>n120) (n120',([] : List ByteArray),0,none,0) ⟨hl2,(Nat.le_refl 0)⟩ ⟨rfl,rfl,rfl,trivial⟩ (fun W h=>h.phi (fun W hφ=>hφ)) (fun ⟨n120,l101,i104,A102,c103⟩ u ⟨hlp,hc103⟩=>?_)
  obtain ⟨o2,hm,hnx2⟩:=lp_step hlp
  clear hlp
  replace hm : m_ref03_row_s2 p0 l101 i104 = some o2:=hm
  unfold m_ref03_row_s2 at hm
  refine c_flat [(0,.string p0),(4,.slice A102 l101.length c103),(5,.int .i64 i104)] ⟨rfl,rfl,rfl,trivial⟩ (fun u=>?_)
  refine c_sta ⟨w0,M,H,(19,⟨.slice A102 l101.length c103,9,1,l101.length,l101.flatMap (fun x : ByteArray=>[Value.string x])⟩)::R,φ⟩ (fun _ h=>h)<|c_seq<|c_seq<|c_region<|g_v rfl r_move<|g_v rfl r_move<|g_v rfl (r_len Try.underlying9 rfl)<|g_v rfl (r_lss rfl rfl)<|g_v rfl r_move ?_
  refine g_if rfl rfl rfl rfl rfl (fun h121=>?_) (fun h121=>?_)
  ·
   replace hm:=ite_t hm (of_decide_eq_true h121)
   refine g_v rfl r_move<|g_do rfl rfl rfl rfl rfl h121<|g_v rfl r_move<|g_do rfl rfl rfl rfl rfl h121 ?_
   replace hm:=bnd hm
   obtain ⟨b122,hb122,hm⟩:=hm
   refine g_v rfl (r_sat Try.underlying9 rfl rfl hb122)<|g_do rfl rfl rfl rfl rfl h121<|g_v rfl (r_neq rfl rfl)<|g_v rfl (r_pick1 rfl h121)<|g_nil<|d_then ?_
   refine c_flat [(0,.string p0),(4,.slice A102 l101.length c103),(5,.int .i64 i104),(16,.bool (decide (b122 ≠ 0)))] ⟨rfl,rfl,rfl,rfl,trivial⟩ (fun u=>?_)
   refine c_cond rfl (fun h123=>?_) (fun h123=>?_)
   ·
    replace hm:=ite_t hm (of_decide_eq_true h123)
    refine c_skip<|d_then<|c_block<|c_seq<|c_region<|g_v rfl r_move<|g_v rfl r_move ?_
    replace hm:=bnd hm
    obtain ⟨b124,hb124,hm⟩:=hm
    refine g_v rfl (r_sat Try.underlying9 rfl rfl hb124)<|g_v rfl (r_conv Try.underlying5 Try.underlying3 rfl rfl)<|g_v rfl r_assign<|g_nil<|d_then<|c_seq<|c_seq<|c_region<|g_v rfl r_move<|g_v rfl (r_gtr rfl rfl) ?_
    refine g_v rfl r_move ?_
    refine g_if rfl rfl rfl rfl rfl (fun h125=>?_) (fun h125=>?_)
    ·
     replace hm:=ite_f hm (of_decide_eq_false h125)
     refine g_v rfl r_move<|g_do rfl rfl rfl rfl rfl h125<|g_v rfl (r_add rfl rfl rfl)<|g_do rfl rfl rfl rfl rfl h125<|g_v rfl r_move<|g_do rfl rfl rfl rfl rfl h125<|g_v rfl (r_add rfl rfl rfl)<|g_do rfl rfl rfl rfl rfl h125<|g_v rfl r_move<|g_do rfl rfl rfl rfl rfl h125 ?_
     refine g_v rfl (r_len Try.underlying9 rfl)<|g_do rfl rfl rfl rfl rfl h125<|g_v rfl (r_gtr rfl rfl)<|g_v rfl (r_pick0 rfl h125)<|g_nil<|d_then ?_
     refine c_flat [(0,.string p0),(4,.slice A102 l101.length c103),(5,.int .i64 i104),(6,.int .i64 (w64 b124)),(31,.bool (decide ((p0.size : Int) < w64 ((w64 (i104 + 1)) + (w64 b124)))))] ⟨rfl,rfl,rfl,rfl,rfl,trivial⟩ (fun u=>?_)
     refine c_cond rfl (fun h126=>?_) (fun h126=>?_)
     ·
      replace hm:=ite_t hm (of_decide_eq_true h126)
      refine c_seq<|c_region<|g_v rfl r_assign<|g_v rfl r_assign<|g_nil<|d_then<|c_ret<|d_ret_then<|d_ret_block<|d_ret_then ?_
      refine d_ret_block<|d_ret_then<|d_ret_then ?_
      replace hm:=nx_out (C:=(fun e : ((List ByteArray)×Int) ⊕ ((List ByteArray)×Bool)=>Sum.elim (fun e=>m_ref03_row_j1 p0 e.1 e.2) (fun x=>some x) e = some r)) hm hnx2 hr2
      replace hm : some (([] : List ByteArray),false) = some r:=hm
      cases hm
      refine d_sta _ (fun W h=>nilR h 28 9 1)<|d_sta _ (fun W h=>ok_frontR (t:=28) (t':=2000) h rfl) ?_
      exact d_retC (none,0) Try.results41 (res_tmp (res_tmp (res_nil rfl))) (Nat.le_refl 0) (fun W h=>(h.dropR (t:=19) rfl).phi (fun W hφ=>hφ)) (.inr rfl)
     replace hm:=ite_f hm (of_decide_eq_false h126)
     refine c_skip<|d_then<|c_seq<|c_region ?_
     iterate 3 refine g_v rfl r_move ?_
     refine g_v rfl (r_add rfl rfl rfl)<|g_v rfl r_move<|g_v rfl (r_add rfl rfl rfl)<|g_v rfl r_move<|g_v rfl (r_add rfl rfl rfl) ?_
     replace hm:=bnd hm
     obtain ⟨s127,hs127,hm⟩:=hm
     refine g_v rfl (r_scutMid Try.underlying9 rfl rfl rfl hs127) ?_
     refine g_e rfl (e_lit (tag:=100410) (l:=[s127]) (enc:=(fun x : ByteArray=>[Value.string x])) (sz:=1) rfl Try.underlying73 (lit9_10 _) rfl rfl (fun _=>rfl)) (fun g128 _=>?_)
     replace hm:=bnd hm
     obtain ⟨l129,hl129,hm⟩:=hm
     refine g_e rfl (e_appR (enc:=(fun x : ByteArray=>[Value.string x])) (l:=l101) (l1:=[s127]) (l2:=l129) (tag:=19) Try.underlying73 inf9_11 rfl (by decide) (by decide) (fun _=>rfl) (fun _=>rfl) rfl hc103 rfl rfl (fun W hS=>rowCl (tag:=100410) rfl W hS) hl129) (fun ⟨A130,c131⟩ hc131=>?_)
     refine g_v rfl r_assign<|g_nil<|d_then ?_
     refine c_flat [(0,.string p0),(4,.slice A130 l129.length c131),(5,.int .i64 i104),(6,.int .i64 (w64 b124))] ⟨rfl,rfl,rfl,rfl,trivial⟩ (fun u=>?_)
     refine c_sta ⟨w0,M,H,(100410,⟨.slice (some ⟨g128,0,none⟩) [s127].length 1,9,1,[s127].length,[s127].flatMap (fun x : ByteArray=>[Value.string x])⟩)::(19,⟨.slice A130 l129.length c131,9,1,l129.length,l129.flatMap (fun x : ByteArray=>[Value.string x])⟩)::R,φ⟩ (fun _ h=>h)<|c_region<|g_v rfl r_move<|g_v rfl (r_add rfl rfl rfl)<|g_v rfl r_move<|g_v rfl (r_add rfl rfl rfl)<|g_v rfl r_assign<|g_nil<|d_normal_block ?_
     obtain ⟨n132,hn132,hlp⟩:=nx_inl hm hnx2
     exact d_round (n132,l129,w64 ((w64 (i104 + 1)) + (w64 b124)),A130,c131) ⟨hlp,hc131⟩ hn132 ⟨rfl,rfl,rfl,trivial⟩ (fun W h=>(h.dropR (t:=100410) rfl).phi (fun W hφ=>hφ))
    replace hm:=ite_t hm (of_decide_eq_true h125)
    iterate 6 refine g_no rfl rfl rfl rfl rfl h125 ?_
    refine g_v rfl (r_pick1 rfl h125)<|g_nil<|d_then ?_
    refine c_flat [(0,.string p0),(4,.slice A102 l101.length c103),(5,.int .i64 i104),(6,.int .i64 (w64 b124)),(31,.bool true)] ⟨rfl,rfl,rfl,rfl,rfl,trivial⟩ (fun u=>?_)
    refine c_cond1 rfl rfl<|c_seq<|c_region<|g_v rfl r_assign<|g_v rfl r_assign<|g_nil<|d_then<|c_ret<|d_ret_then<|d_ret_block ?_
    refine d_ret_then<|d_ret_block<|d_ret_then<|d_ret_then ?_
    replace hm:=nx_out (C:=(fun e : ((List ByteArray)×Int) ⊕ ((List ByteArray)×Bool)=>Sum.elim (fun e=>m_ref03_row_j1 p0 e.1 e.2) (fun x=>some x) e = some r)) hm hnx2 hr2
    replace hm : some (([] : List ByteArray),false) = some r:=hm
    cases hm
    refine d_sta _ (fun W h=>nilR h 29 9 1)<|d_sta _ (fun W h=>ok_frontR (t:=29) (t':=2000) h rfl) ?_
    exact d_retC (none,0) Try.results41 (res_tmp (res_tmp (res_nil rfl))) (Nat.le_refl 0) (fun W h=>(h.dropR (t:=19) rfl).phi (fun W hφ=>hφ)) (.inr rfl)
   replace hm:=ite_f hm (of_decide_eq_false h123)
   refine c_exit<|d_exit_then<|d_exit_then<|d_exit_block ?_
   replace hm:=nx_out (C:=(fun e : ((List ByteArray)×Int) ⊕ ((List ByteArray)×Bool)=>Sum.elim (fun e=>m_ref03_row_j1 p0 e.1 e.2) (fun x=>some x) e = some r)) hm hnx2 hr2
   exact d_round (l101,i104,A102,c103) ⟨hm,hc103⟩ Nat.zero_lt_one ⟨rfl,rfl,rfl,trivial⟩ (fun W h=>h.phi (fun W hφ=>hφ))
  replace hm:=ite_f hm (of_decide_eq_false h121)
  iterate 3 refine g_no rfl rfl rfl rfl rfl h121 ?_
  refine g_v rfl (r_pick0 rfl h121)<|g_nil<|d_then<|c_cond0 rfl rfl<|c_exit<|d_exit_then<|d_exit_then<|d_exit_block ?_
  replace hm:=nx_out (C:=(fun e : ((List ByteArray)×Int) ⊕ ((List ByteArray)×Bool)=>Sum.elim (fun e=>m_ref03_row_j1 p0 e.1 e.2) (fun x=>some x) e = some r)) hm hnx2 hr2
  exact d_round (l101,i104,A102,c103) ⟨hm,hc103⟩ Nat.zero_lt_one ⟨rfl,rfl,rfl,trivial⟩ (fun W h=>h.phi (fun W hφ=>hφ))
 unfold m_ref03_row_j1 at hm
 refine d_flat [(0,.string p0),(4,.slice A83 l82.length c84),(5,.int .i64 i85)] ⟨rfl,rfl,rfl,trivial⟩ (fun u=>?_)
 refine d_sta ⟨w0,M,H,(19,⟨.slice A83 l82.length c84,9,1,l82.length,l82.flatMap (fun x : ByteArray=>[Value.string x])⟩)::R,φ⟩ (fun _ h=>h)<|d_then<|c_seq<|c_region ?_
 iterate 3 refine g_v rfl r_move ?_
 refine g_v rfl (r_len Try.underlying9 rfl)<|g_v rfl (r_sub rfl rfl rfl)<|g_v rfl (r_eql rfl rfl)<|g_v rfl r_assign<|g_v rfl r_assign<|g_nil<|d_then<|c_ret ?_
 cases hm
 refine d_sta _ (fun W h=>ok_frontR (t:=19) (t':=2000) h rfl) ?_
 exact d_retC (A83,c84) Try.results41 (res_tmp (res_tmp (res_nil rfl))) hc84 (fun W h=>h.phi (fun W hφ=>hφ)) (.inr rfl)
noncomputable def m_ref03_Check (p0 : ByteArray) : Option Int:=
  (m_ref03_row p0).bind fun (z7 : (List ByteArray)×Bool)=>
  if z7.2 = true then
    if 255 < (p0.size : Int) then
      some 11
    else
      some 0
  else
    some 10
theorem c_ref03_Check {w0 : World} {M : Nat→Prop} {H : List (Nat×Nat×Obj)} {R : List (Nat×Row)} {φ : World→Prop} (p0 : ByteArray) (r : Int) (hm : m_ref03_Check p0 = some r) :
    Cn Try.prog 18 #[.string p0] ⟨w0,M,H,R,φ⟩ (fun x : Unit=>.int .i64 r) (fun x=>True) (fun x=>⟨w0,M,H,R,φ⟩):=by
 unfold m_ref03_Check at hm
 refine cn_intro (fn:=Try.f18) (N:=15) Try.func18 rfl Try.ntmps18 rfl<|c_seq<|c_region<|g_v rfl r_assign<|g_nil<|d_then<|c_seq<|c_region<|g_v rfl r_move ?_
 replace hm:=bnd hm
 obtain ⟨⟨x1,x2⟩,hx3,hm⟩:=hm
 refine g_cn ⟨w0,M,_,_,φ⟩ (fun _ h=>h) Try.call41 rfl rfl (c_ref03_row p0 _ hx3) (fun ⟨A4,c5⟩ hc5=>?_)
 refine g_sta _ (fun W h=>(ok_frontR (t:=2000) (t':=100070) h rfl))<|g_v rfl r_move<|g_v rfl (r_extract rfl rfl)<|g_v rfl (r_extract rfl rfl)<|g_v rfl r_assign<|g_v rfl r_assign<|g_nil<|d_then<|c_seq<|c_seq ?_
 refine c_region<|g_v rfl r_move<|g_v rfl (r_not rfl)<|g_nil<|d_then ?_
 refine c_flat [(0,.string p0),(11,.bool (!x2))] ⟨rfl,rfl,trivial⟩ (fun u=>?_)
 refine c_sta ⟨w0,M,H,(100070,⟨.slice A4 x1.length c5,9,1,x1.length,x1.flatMap (fun x : ByteArray=>[Value.string x])⟩)::R,φ⟩ (fun _ h=>h) ?_
 refine c_cond rfl (fun h8=>?_) (fun h8=>?_)
 ·
  have h8' : x2 = false:=by revert h8; cases x2 <;> simp
  replace hm:=ite_f hm (bool_nt h8')
  refine c_seq<|c_region<|g_v rfl r_assign<|g_nil<|d_then<|c_ret<|d_ret_then ?_
  cases hm
  exact d_retC () Try.results18 (res_tmp (res_nil rfl)) trivial (fun W h=>ok_pre (H1:=[]) (R1:=[_]) h (fun W hφ=>hφ)) (.inr rfl)
 have h8' : x2 = true:=by revert h8; cases x2 <;> simp
 replace hm:=ite_t hm h8'
 refine c_skip<|d_then<|c_seq<|c_seq<|c_region<|g_v rfl r_move<|g_v rfl (r_len Try.underlying9 rfl)<|g_v rfl (r_gtr rfl rfl)<|g_nil<|d_then ?_
 refine c_cond rfl (fun h9=>?_) (fun h9=>?_)
 ·
  replace hm:=ite_t hm (of_decide_eq_true h9)
  refine c_seq<|c_region<|g_v rfl r_assign<|g_nil<|d_then<|c_ret<|d_ret_then ?_
  cases hm
  exact d_retC () Try.results18 (res_tmp (res_nil rfl)) trivial (fun W h=>ok_pre (H1:=[]) (R1:=[_]) h (fun W hφ=>hφ)) (.inr rfl)
 replace hm:=ite_f hm (of_decide_eq_false h9)
 refine c_skip<|d_then<|c_seq<|c_region<|g_v rfl r_assign<|g_nil<|d_then<|c_ret ?_
 cases hm
 exact d_retC () Try.results18 (res_tmp (res_nil rfl)) trivial (fun W h=>ok_pre (H1:=[]) (R1:=[_]) h (fun W hφ=>hφ)) (.inr rfl)
noncomputable def m_ref05_first_j1 (p0 : ByteArray) (i13 : Int) : Option (ByteArray×ByteArray×Bool):=
  if (p0.size : Int) ≤ i13 then
    some ((⟨#[]⟩ : ByteArray),(⟨#[]⟩ : ByteArray),false)
  else
    (scutHi p0 (w64 (i13 + 1))).bind fun s15=>
    (m_ref03_Check s15).bind fun x16=>
    if x16 ≠ 0 then
      some ((⟨#[]⟩ : ByteArray),(⟨#[]⟩ : ByteArray),false)
    else
      (scutHi p0 (w64 (i13 + 1))).bind fun s23=>
      (scutLo p0 (w64 (i13 + 1))).bind fun s24=>
      some (s23,s24,true)
noncomputable def m_ref05_first_s2 (p0 : ByteArray) (i30 : Int) : Option (Int ⊕ Int):=
  if i30 < (p0.size : Int) then
    (sat_ p0 i30).bind fun b38=>
    if b38 ≠ 0 then
      (sat_ p0 i30).bind fun b40=>
      some (.inl (w64 ((w64 (i30 + 1)) + (w64 b40))))
    else
      some (.inr i30)
  else
    some (.inr i30)
noncomputable def m_ref05_first (p0 : ByteArray) : Option (ByteArray×ByteArray×Bool):=
  (loop (fun s=>m_ref05_first_s2 p0 s) 0).bind fun e=>m_ref05_first_j1 p0 e
theorem c_ref05_first {w0 : World} {M : Nat→Prop} {H : List (Nat×Nat×Obj)} {R : List (Nat×Row)} {φ : World→Prop} (p0 : ByteArray) (r : ByteArray×ByteArray×Bool) (hm : m_ref05_first p0 = some r) :
    Cn Try.prog 110 #[.string p0] ⟨w0,M,H,R,φ⟩ (fun x : Unit=>.tuple #[.string r.1,.string r.2.1,.bool r.2.2]) (fun x=>True) (fun x=>⟨w0,M,H,R,φ⟩):=by
 unfold m_ref05_first at hm
 refine cn_intro (fn:=Try.f110) (N:=43) Try.func110 rfl Try.ntmps110 rfl<|c_seq<|c_region ?_
 iterate 3 refine g_v rfl r_assign ?_
 refine g_nil<|d_then<|c_seq<|c_region<|g_v rfl r_assign<|g_nil<|d_then<|c_seq ?_
 refine c_cut (ι:=Int) [0,5] (fun i13=>[(5,.int .i64 i13)]) (fun i13=>⟨w0,M,H,R,φ⟩) (fun i13=>m_ref05_first_j1 p0 i13 = some r) ?_ (fun i13 u hm=>?_)
 ·
  refine c_block ?_
  replace hm:=bnd hm
  obtain ⟨out2,hl2,hr2⟩:=hm
  obtain ⟨n36',hl2⟩:=loop_lp hl2
  refine c_loopU (ι:=Nat×Int) [0,5] (fun ⟨n36,i30⟩=>[(5,.int .i64 i30)]) (fun ⟨n36,i30⟩=>⟨w0,M,H,R,φ⟩) (fun ⟨n36,i30⟩=>Lp (fun s=>m_ref05_first_s2 p0 s) n36 i30 out2) (fun ⟨n36,i30⟩=>n36) (n36',0) hl2 ⟨rfl,rfl,trivial⟩ (fun W h=>h.phi (fun W hφ=>hφ)) (fun ⟨n36,i30⟩ u hlp=>?_)
  obtain ⟨o2,hm,hnx2⟩:=lp_step hlp
  clear hlp
  replace hm : m_ref05_first_s2 p0 i30 = some o2:=hm
  unfold m_ref05_first_s2 at hm
  refine c_flat [(0,.string p0),(5,.int .i64 i30)] ⟨rfl,rfl,trivial⟩ (fun u=>?_)
  refine c_sta ⟨w0,M,H,R,φ⟩ (fun _ h=>h)<|c_seq<|c_seq<|c_region<|g_v rfl r_move<|g_v rfl r_move<|g_v rfl (r_len Try.underlying9 rfl)<|g_v rfl (r_lss rfl rfl)<|g_v rfl r_move ?_
  refine g_if rfl rfl rfl rfl rfl (fun h37=>?_) (fun h37=>?_)
  ·
   replace hm:=ite_t hm (of_decide_eq_true h37)
   refine g_v rfl r_move<|g_do rfl rfl rfl rfl rfl h37<|g_v rfl r_move<|g_do rfl rfl rfl rfl rfl h37 ?_
   replace hm:=bnd hm
   obtain ⟨b38,hb38,hm⟩:=hm
   refine g_v rfl (r_sat Try.underlying9 rfl rfl hb38)<|g_do rfl rfl rfl rfl rfl h37<|g_v rfl (r_neq rfl rfl)<|g_v rfl (r_pick1 rfl h37)<|g_nil<|d_then ?_
   refine c_flat [(0,.string p0),(5,.int .i64 i30),(15,.bool (decide (b38 ≠ 0)))] ⟨rfl,rfl,rfl,trivial⟩ (fun u=>?_)
   refine c_cond rfl (fun h39=>?_) (fun h39=>?_)
   ·
    replace hm:=ite_t hm (of_decide_eq_true h39)
    refine c_skip<|d_then<|c_block<|c_region<|g_v rfl r_move<|g_v rfl (r_add rfl rfl rfl)<|g_v rfl r_move<|g_v rfl r_move ?_
    replace hm:=bnd hm
    obtain ⟨b40,hb40,hm⟩:=hm
    refine g_v rfl (r_sat Try.underlying9 rfl rfl hb40)<|g_v rfl (r_conv Try.underlying5 Try.underlying3 rfl rfl)<|g_v rfl (r_add rfl rfl rfl)<|g_v rfl r_assign<|g_nil<|d_normal_block ?_
    obtain ⟨n41,hn41,hlp⟩:=nx_inl hm hnx2
    exact d_round (n41,w64 ((w64 (i30 + 1)) + (w64 b40))) hlp hn41 ⟨rfl,rfl,trivial⟩ (fun W h=>h.phi (fun W hφ=>hφ))
   replace hm:=ite_f hm (of_decide_eq_false h39)
   refine c_exit<|d_exit_then<|d_exit_then<|d_exit_block ?_
   replace hm:=nx_out (C:=(fun e : Int=>m_ref05_first_j1 p0 e = some r)) hm hnx2 hr2
   exact d_round i30 hm Nat.zero_lt_one ⟨rfl,rfl,trivial⟩ (fun W h=>h.phi (fun W hφ=>hφ))
  replace hm:=ite_f hm (of_decide_eq_false h37)
  iterate 3 refine g_no rfl rfl rfl rfl rfl h37 ?_
  refine g_v rfl (r_pick0 rfl h37)<|g_nil<|d_then<|c_cond0 rfl rfl<|c_exit<|d_exit_then<|d_exit_then<|d_exit_block ?_
  replace hm:=nx_out (C:=(fun e : Int=>m_ref05_first_j1 p0 e = some r)) hm hnx2 hr2
  exact d_round i30 hm Nat.zero_lt_one ⟨rfl,rfl,trivial⟩ (fun W h=>h.phi (fun W hφ=>hφ))
 unfold m_ref05_first_j1 at hm
 refine d_flat [(0,.string p0),(5,.int .i64 i13)] ⟨rfl,rfl,trivial⟩ (fun u=>?_)
 refine d_sta ⟨w0,M,H,R,φ⟩ (fun _ h=>h)<|d_then<|c_seq<|c_seq<|c_region<|g_v rfl r_move<|g_v rfl r_move<|g_v rfl (r_len Try.underlying9 rfl)<|g_v rfl (r_geq rfl rfl)<|g_v rfl r_move ?_
 refine g_if rfl rfl rfl rfl rfl (fun h14=>?_) (fun h14=>?_)
 ·
  replace hm:=ite_f hm (of_decide_eq_false h14)
  refine g_v rfl r_move<|g_do rfl rfl rfl rfl rfl h14<|g_v rfl r_move<|g_do rfl rfl rfl rfl rfl h14<|g_v rfl (r_add rfl rfl rfl)<|g_do rfl rfl rfl rfl rfl h14 ?_
  replace hm:=bnd hm
  obtain ⟨s15,hs15,hm⟩:=hm
  refine g_v rfl (r_scutHi Try.underlying9 rfl rfl hs15)<|g_do rfl rfl rfl rfl rfl h14 ?_
  replace hm:=bnd hm
  obtain ⟨x16,hx17,hm⟩:=hm
  refine g_cn ⟨w0,M,_,_,φ⟩ (fun _ h=>h) Try.call18 rfl rfl (c_ref03_Check s15 _ hx17) (fun _ _=>?_)
  refine g_do rfl rfl rfl rfl rfl h14<|g_v rfl (r_neq rfl rfl)<|g_v rfl (r_pick0 rfl h14)<|g_nil<|d_then ?_
  refine c_flat [(0,.string p0),(5,.int .i64 i13),(34,.bool (decide (x16 ≠ 0)))] ⟨rfl,rfl,rfl,trivial⟩ (fun u=>?_)
  refine c_cond rfl (fun h18=>?_) (fun h18=>?_)
  ·
   replace hm:=ite_t hm (of_decide_eq_true h18)
   refine c_seq<|c_region ?_
   iterate 3 refine g_v rfl r_assign ?_
   refine g_nil<|d_then<|c_ret<|d_ret_then ?_
   cases hm
   exact d_retC () Try.results110 (res_tmp (res_tmp (res_tmp (res_nil rfl)))) trivial (fun W h=>ok_pre (H1:=[]) (R1:=[]) h (fun W hφ=>hφ)) (.inr rfl)
  replace hm:=ite_f hm (of_decide_eq_false h18)
  refine c_skip<|d_then<|c_seq<|ga_start (n:=11) ⟨w0,M,H,R,φ⟩ [] #[false,false,false,false,false,false,false,false,false,false,false] (fun W h=>h.phi (fun W hφ=>hφ)) mixed rfl rfl<|ga_v (i:=0) (bz 11 1) rfl (by kernel_rfl) (fun _ _ _ _ h=>h) rfl (r_move)<|ga_v (i:=1) (bz 11 3) rfl (by kernel_rfl) (fun _ _ _ _ h=>h) rfl (r_move)<|ga_v (i:=2) (bz 11 7) rfl (by kernel_rfl) (fun _ _ _ _ h=>h) rfl (r_add rfl rfl rfl) ?_
  replace hm:=bnd hm
  obtain ⟨s23,hs23,hm⟩:=hm
  refine ga_v (i:=3) (bz 11 15) rfl (by kernel_rfl) (fun _ _ _ _ h=>h) rfl (r_scutHi Try.underlying9 rfl rfl hs23)<|ga_v (i:=4) (bz 11 31) rfl (by kernel_rfl) (fun _ _ _ _ h=>h) rfl (r_move)<|ga_v (i:=5) (bz 11 63) rfl (by kernel_rfl) (fun _ _ _ _ h=>h) rfl (r_move)<|ga_v (i:=6) (bz 11 127) rfl (by kernel_rfl) (fun _ _ _ _ h=>h) rfl (r_add rfl rfl rfl) ?_
  replace hm:=bnd hm
  obtain ⟨s24,hs24,hm⟩:=hm
  refine ga_v (i:=7) (bz 11 255) rfl (by kernel_rfl) (fun _ _ _ _ h=>h) rfl (r_scutLo Try.underlying9 rfl rfl hs24)<|ga_r (i:=8) (bz 11 511) rfl (by kernel_rfl) (by decide) rfl (r_assign)<|ga_r (i:=9) (bz 11 1023) rfl (by kernel_rfl) (by decide) rfl (r_assign)<|ga_r (i:=10) (bz 11 2047) rfl (by kernel_rfl) (by decide) rfl (r_assign)<|ga_done (by kernel_rfl)<|d_then ?_
  refine c_flat [(2,.string s23),(3,.string s24),(4,.bool true)] ⟨rfl,rfl,rfl,trivial⟩ (fun u=>?_)
  refine c_ret ?_
  cases hm
  exact d_retC () Try.results110 (res_tmp (res_tmp (res_tmp (res_nil rfl)))) trivial (fun W h=>ok_pre (H1:=[]) (R1:=[]) h (fun W hφ=>hφ)) (.inr rfl)
 replace hm:=ite_t hm (of_decide_eq_true h14)
 iterate 5 refine g_no rfl rfl rfl rfl rfl h14 ?_
 refine g_v rfl (r_pick1 rfl h14)<|g_nil<|d_then<|c_cond1 rfl rfl<|c_seq<|c_region ?_
 iterate 3 refine g_v rfl r_assign ?_
 refine g_nil<|d_then ?_
 refine c_flat [(2,.string (⟨#[]⟩ : ByteArray)),(3,.string (⟨#[]⟩ : ByteArray)),(4,.bool false)] ⟨rfl,rfl,rfl,trivial⟩ (fun u=>?_)
 refine c_ret<|d_ret_then ?_
 cases hm
 exact d_retC () Try.results110 (res_tmp (res_tmp (res_tmp (res_nil rfl)))) trivial (fun W h=>ok_pre (H1:=[]) (R1:=[]) h (fun W hφ=>hφ)) (.inr rfl)
noncomputable def m_ref05_Names_j1 (p1 : ByteArray) (x1 : Int) (x3 : Int) (l99 : List ByteArray) (s102 : ByteArray) : Option (ByteArray×(List ByteArray)×ByteArray×Bool):=
  (scutHi p1 x1).bind fun s103=>
  some (s103,l99,s102,decide ((s102.size : Int) = x3))
noncomputable def m_ref05_Names_s2 (x2 : Int) (l120 : List ByteArray) (s123 : ByteArray) (i124 : Int) : Option (((List ByteArray)×ByteArray×Int) ⊕ (((List ByteArray)×ByteArray) ⊕ (ByteArray×(List ByteArray)×ByteArray×Bool))):=
  if i124 < x2 then
    (m_ref05_first s123).bind fun (z147 : ByteArray×ByteArray×Bool)=>
    if z147.2.2 = true then
      (app 16 l120 [z147.1]).bind fun l150=>
      some (.inl (l150,z147.2.1,w64 (i124 + 1)))
    else
      some (.inr (.inr ((⟨#[]⟩ : ByteArray),([] : List ByteArray),(⟨#[]⟩ : ByteArray),false)))
  else
    some (.inr (.inl (l120,s123)))
noncomputable def m_ref05_Names (p0 : Int) (p1 : ByteArray) : Option (ByteArray×(List ByteArray)×ByteArray×Bool):=
  (m_ref05_head p0).bind fun (z6 : Int×Int×Int×Bool)=>
  if z6.2.2.2 = true then
    if (p1.size : Int) < z6.1 then
      some ((⟨#[]⟩ : ByteArray),([] : List ByteArray),(⟨#[]⟩ : ByteArray),false)
    else
      (scutLo p1 z6.1).bind fun s9=>
      (loop (fun s=>m_ref05_Names_s2 z6.2.1 s.1 s.2.1 s.2.2) (([] : List ByteArray),s9,0)).bind fun e=>Sum.elim (fun e=>m_ref05_Names_j1 p1 z6.1 z6.2.2.1 e.1 e.2) (fun x=>some x) e
  else
    some ((⟨#[]⟩ : ByteArray),([] : List ByteArray),(⟨#[]⟩ : ByteArray),false)
theorem c_ref05_Names {w0 : World} {M : Nat→Prop} {H : List (Nat×Nat×Obj)} {R : List (Nat×Row)} {φ : World→Prop} (p0 : Int) (p1 : ByteArray) (r : ByteArray×(List ByteArray)×ByteArray×Bool) (hm : m_ref05_Names p0 p1 = some r) :
    Cn Try.prog 109 #[.int .u16 p0,.string p1] ⟨w0,M,H,R,φ⟩ (fun x : Option Addr×Nat=>.tuple #[.string r.1,.slice x.1 r.2.1.length x.2,.string r.2.2.1,.bool r.2.2.2]) (fun x=>r.2.1.length ≤ x.2) (fun x=>⟨w0,M,H,(2000,⟨.slice x.1 r.2.1.length x.2,9,1,r.2.1.length,r.2.1.flatMap (fun x : ByteArray=>[Value.string x])⟩)::R,φ⟩):=by
 unfold m_ref05_Names at hm
 refine cn_intro (fn:=Try.f109) (N:=63) Try.func109 rfl Try.ntmps109 rfl<|c_seq<|c_region ?_
 iterate 4 refine g_v rfl r_assign ?_
 refine g_nil<|d_then<|c_seq<|c_region<|g_v rfl r_move ?_
 replace hm:=bnd hm
 obtain ⟨⟨x1,x2,x3,x4⟩,hx5,hm⟩:=hm
 refine g_cn ⟨w0,M,_,_,φ⟩ (fun _ h=>h) Try.call97 rfl rfl (c_ref05_head p0 _ hx5) (fun _ _=>?_)
 refine g_v rfl r_move ?_
 iterate 4 refine g_v rfl (r_extract rfl rfl) ?_
 iterate 4 refine g_v rfl r_assign ?_
 refine g_nil<|d_then ?_
 refine c_flat [(1,.string p1),(8,.int .i64 x1),(9,.int .i64 x2),(10,.int .i64 x3),(11,.bool x4)] ⟨rfl,rfl,rfl,rfl,rfl,trivial⟩ (fun u=>?_)
 refine c_sta ⟨w0,M,H,R,φ⟩ (fun _ h=>h)<|c_seq<|c_seq<|c_region<|g_v rfl r_move<|g_v rfl (r_not rfl)<|g_v rfl r_move ?_
 refine g_if rfl rfl rfl rfl rfl (fun h7=>?_) (fun h7=>?_)
 ·
  have h7' : x4 = true:=by revert h7; cases x4 <;> simp
  replace hm:=ite_t hm h7'
  refine g_v rfl r_move<|g_do rfl rfl rfl rfl rfl h7<|g_v rfl (r_len Try.underlying9 rfl)<|g_do rfl rfl rfl rfl rfl h7<|g_v rfl r_move<|g_do rfl rfl rfl rfl rfl h7<|g_v rfl (r_lss rfl rfl)<|g_v rfl (r_pick0 rfl h7)<|g_nil<|d_then ?_
  refine c_cond rfl (fun h8=>?_) (fun h8=>?_)
  ·
   replace hm:=ite_t hm (of_decide_eq_true h8)
   refine c_seq<|c_region ?_
   iterate 4 refine g_v rfl r_assign ?_
   refine g_nil<|d_then ?_
   refine c_flat [(4,.string (⟨#[]⟩ : ByteArray)),(5,.slice none 0 0),(6,.string (⟨#[]⟩ : ByteArray)),(7,.bool false)] ⟨rfl,rfl,rfl,rfl,trivial⟩ (fun u=>?_)
   refine c_ret<|d_ret_then ?_
   cases hm
   refine d_sta _ (fun W h=>nilR h 11 9 1)<|d_sta _ (fun W h=>ok_frontR (t:=11) (t':=2000) h rfl) ?_
   exact d_retC (none,0) Try.results109 (res_tmp (res_tmp (res_tmp (res_tmp (res_nil rfl))))) (Nat.le_refl 0) (fun W h=>h.phi (fun W hφ=>hφ)) (.inr rfl)
  replace hm:=ite_f hm (of_decide_eq_false h8)
  refine c_skip<|d_then<|c_seq<|c_region<|g_v rfl r_move<|g_v rfl r_move ?_
  replace hm:=bnd hm
  obtain ⟨s9,hs9,hm⟩:=hm
  refine g_v rfl (r_scutLo Try.underlying9 rfl rfl hs9)<|g_v rfl r_assign<|g_nil<|d_then ?_
  refine c_flat [(1,.string p1),(8,.int .i64 x1),(9,.int .i64 x2),(10,.int .i64 x3),(12,.string s9)] ⟨rfl,rfl,rfl,rfl,rfl,trivial⟩ (fun u=>?_)
  refine c_seq<|c_region<|g_v rfl r_assign<|g_nil<|d_then<|c_seq<|c_seq<|c_region<|g_v rfl r_assign<|g_nil ?_
  refine d_then<|c_sta _ (fun W h=>nilR h 17 9 1) ?_
  refine c_cut (ι:=(List ByteArray)×ByteArray×Option Addr×Nat) [1,8,10,12,13] (fun ⟨l99,s102,A100,c101⟩=>[(12,.string s102),(13,.slice A100 l99.length c101)]) (fun ⟨l99,s102,A100,c101⟩=>⟨w0,M,H,(17,⟨.slice A100 l99.length c101,9,1,l99.length,l99.flatMap (fun x : ByteArray=>[Value.string x])⟩)::R,φ⟩) (fun ⟨l99,s102,A100,c101⟩=>m_ref05_Names_j1 p1 x1 x3 l99 s102 = some r∧l99.length ≤ c101) ?_ (fun ⟨l99,s102,A100,c101⟩ u ⟨hm,hc101⟩=>?_)
  ·
   refine c_block ?_
   replace hm:=bnd hm
   obtain ⟨out2,hl2,hr2⟩:=hm
   obtain ⟨n141',hl2⟩:=loop_lp hl2
   refine c_loopU (ι:=Nat×(List ByteArray)×ByteArray×Int×Option Addr×Nat) [1,8,9,10,12,13,14] (fun ⟨n141,l120,s123,i124,A121,c122⟩=>[(12,.string s123),(13,.slice A121 l120.length c122),(14,.int .i64 i124)]) (fun ⟨n141,l120,s123,i124,A121,c122⟩=>⟨w0,M,H,(17,⟨.slice A121 l120.length c122,9,1,l120.length,l120.flatMap (fun x : ByteArray=>[Value.string x])⟩)::R,φ⟩) (fun ⟨n141,l120,s123,i124,A121,c122⟩=>Lp (fun s=>m_ref05_Names_s2 x2 s.1 s.2.1 s.2.2) n141 (l120,s123,i124) out2∧l120.length ≤ c122) (fun ⟨n141,l120,s123,i124,A121,c122⟩=>n141) (n141',([] : List ByteArray),s9,0,none,0) ⟨hl2,(Nat.le_refl 0)⟩ ⟨rfl,rfl,rfl,rfl,rfl,rfl,rfl,trivial⟩ (fun W h=>h.phi (fun W hφ=>hφ)) (fun ⟨n141,l120,s123,i124,A121,c122⟩ u ⟨hlp,hc122⟩=>?_)
   obtain ⟨o2,hm,hnx2⟩:=lp_step hlp
   clear hlp
   replace hm : m_ref05_Names_s2 x2 l120 s123 i124 = some o2:=hm
   unfold m_ref05_Names_s2 at hm
   refine c_flat [(1,.string p1),(8,.int .i64 x1),(9,.int .i64 x2),(10,.int .i64 x3),(12,.string s123),(13,.slice A121 l120.length c122),(14,.int .i64 i124)] ⟨rfl,rfl,rfl,rfl,rfl,rfl,rfl,trivial⟩ (fun u=>?_)
   refine c_sta ⟨w0,M,H,(17,⟨.slice A121 l120.length c122,9,1,l120.length,l120.flatMap (fun x : ByteArray=>[Value.string x])⟩)::R,φ⟩ (fun _ h=>h)<|c_seq<|c_seq<|c_region<|g_v rfl r_move<|g_v rfl r_move<|g_v rfl (r_lss rfl rfl)<|g_nil<|d_then ?_
   refine c_cond rfl (fun h142=>?_) (fun h142=>?_)
   ·
    replace hm:=ite_t hm (of_decide_eq_true h142)
    refine c_skip<|d_then<|c_seq<|c_block<|c_seq<|c_region<|g_v rfl r_move ?_
    replace hm:=bnd hm
    obtain ⟨⟨x143,x144,x145⟩,hx146,hm⟩:=hm
    refine g_cn ⟨w0,M,_,_,φ⟩ (fun _ h=>h) Try.call110 rfl rfl (c_ref05_first s123 _ hx146) (fun _ _=>?_)
    refine g_v rfl r_move ?_
    iterate 3 refine g_v rfl (r_extract rfl rfl) ?_
    iterate 3 refine g_v rfl r_assign ?_
    refine g_nil<|d_then ?_
    refine c_flat [(1,.string p1),(8,.int .i64 x1),(9,.int .i64 x2),(10,.int .i64 x3),(13,.slice A121 l120.length c122),(14,.int .i64 i124),(15,.string x143),(16,.string x144),(17,.bool x145)] ⟨rfl,rfl,rfl,rfl,rfl,rfl,rfl,rfl,rfl,trivial⟩ (fun u=>?_)
    refine c_seq<|c_seq<|c_region<|g_v rfl r_move<|g_v rfl (r_not rfl)<|g_nil<|d_then ?_
    refine c_cond rfl (fun h148=>?_) (fun h148=>?_)
    ·
     have h148' : x145 = false:=by revert h148; cases x145 <;> simp
     replace hm:=ite_f hm (bool_nt h148')
     refine c_seq<|c_region ?_
     iterate 4 refine g_v rfl r_assign ?_
     refine g_nil<|d_then<|c_ret<|d_ret_then<|d_ret_block<|d_ret_then<|d_ret_then<|d_ret_block<|d_ret_then<|d_ret_then ?_
     replace hm:=nx_out (C:=(fun e : ((List ByteArray)×ByteArray) ⊕ (ByteArray×(List ByteArray)×ByteArray×Bool)=>Sum.elim (fun e=>m_ref05_Names_j1 p1 x1 x3 e.1 e.2) (fun x=>some x) e = some r)) hm hnx2 hr2
     replace hm : some ((⟨#[]⟩ : ByteArray),([] : List ByteArray),(⟨#[]⟩ : ByteArray),false) = some r:=hm
     cases hm
     refine d_sta _ (fun W h=>nilR h 22 9 1)<|d_sta _ (fun W h=>ok_frontR (t:=22) (t':=2000) h rfl) ?_
     exact d_retC (none,0) Try.results109 (res_tmp (res_tmp (res_tmp (res_tmp (res_nil rfl))))) (Nat.le_refl 0) (fun W h=>(h.dropR (t:=17) rfl).phi (fun W hφ=>hφ)) (.inr rfl)
    have h148' : x145 = true:=by revert h148; cases x145 <;> simp
    replace hm:=ite_t hm h148'
    refine c_skip<|d_then<|c_seq<|c_region<|g_v rfl r_move<|g_v rfl r_move ?_
    refine g_e rfl (e_lit (tag:=100510) (l:=[x143]) (enc:=(fun x : ByteArray=>[Value.string x])) (sz:=1) rfl Try.underlying73 (lit9_10 _) rfl rfl (fun _=>rfl)) (fun g149 _=>?_)
    replace hm:=bnd hm
    obtain ⟨l150,hl150,hm⟩:=hm
    refine g_e rfl (e_appR (enc:=(fun x : ByteArray=>[Value.string x])) (l:=l120) (l1:=[x143]) (l2:=l150) (tag:=17) Try.underlying73 inf9_11 rfl (by decide) (by decide) (fun _=>rfl) (fun _=>rfl) rfl hc122 rfl rfl (fun W hS=>rowCl (tag:=100510) rfl W hS) hl150) (fun ⟨A151,c152⟩ hc152=>?_)
    refine g_v rfl r_assign<|g_nil<|d_then<|c_region<|g_v rfl r_move<|g_v rfl r_assign<|g_nil<|d_normal_block<|d_then ?_
    refine c_flat [(1,.string p1),(8,.int .i64 x1),(9,.int .i64 x2),(10,.int .i64 x3),(12,.string x144),(13,.slice A151 l150.length c152),(14,.int .i64 i124)] ⟨rfl,rfl,rfl,rfl,rfl,rfl,rfl,trivial⟩ (fun u=>?_)
    refine c_sta ⟨w0,M,H,(100510,⟨.slice (some ⟨g149,0,none⟩) [x143].length 1,9,1,[x143].length,[x143].flatMap (fun x : ByteArray=>[Value.string x])⟩)::(17,⟨.slice A151 l150.length c152,9,1,l150.length,l150.flatMap (fun x : ByteArray=>[Value.string x])⟩)::R,φ⟩ (fun _ h=>h)<|c_region<|g_v rfl r_move<|g_v rfl (r_add rfl rfl rfl)<|g_v rfl r_assign<|g_nil ?_
    obtain ⟨n153,hn153,hlp⟩:=nx_inl hm hnx2
    exact d_round (n153,l150,x144,w64 (i124 + 1),A151,c152) ⟨hlp,hc152⟩ hn153 ⟨rfl,rfl,rfl,rfl,rfl,rfl,rfl,trivial⟩ (fun W h=>(h.dropR (t:=100510) rfl).phi (fun W hφ=>hφ))
   replace hm:=ite_f hm (of_decide_eq_false h142)
   refine c_exit<|d_exit_then<|d_exit_then<|d_exit_block ?_
   replace hm:=nx_out (C:=(fun e : ((List ByteArray)×ByteArray) ⊕ (ByteArray×(List ByteArray)×ByteArray×Bool)=>Sum.elim (fun e=>m_ref05_Names_j1 p1 x1 x3 e.1 e.2) (fun x=>some x) e = some r)) hm hnx2 hr2
   exact d_round (l120,s123,A121,c122) ⟨hm,hc122⟩ Nat.zero_lt_one ⟨rfl,rfl,rfl,rfl,rfl,trivial⟩ (fun W h=>h.phi (fun W hφ=>hφ))
  unfold m_ref05_Names_j1 at hm
  refine d_flat [(1,.string p1),(8,.int .i64 x1),(10,.int .i64 x3),(12,.string s102),(13,.slice A100 l99.length c101)] ⟨rfl,rfl,rfl,rfl,rfl,trivial⟩ (fun u=>?_)
  refine d_sta ⟨w0,M,H,(17,⟨.slice A100 l99.length c101,9,1,l99.length,l99.flatMap (fun x : ByteArray=>[Value.string x])⟩)::R,φ⟩ (fun _ h=>h)<|d_then<|c_seq<|c_region<|g_v rfl r_move<|g_v rfl r_move ?_
  replace hm:=bnd hm
  obtain ⟨s103,hs103,hm⟩:=hm
  refine g_v rfl (r_scutHi Try.underlying9 rfl rfl hs103) ?_
  iterate 3 refine g_v rfl r_move ?_
  refine g_v rfl (r_len Try.underlying9 rfl)<|g_v rfl r_move<|g_v rfl (r_eql rfl rfl) ?_
  iterate 4 refine g_v rfl r_assign ?_
  refine g_nil<|d_then ?_
  refine c_flat [(4,.string s103),(5,.slice A100 l99.length c101),(6,.string s102),(7,.bool (decide ((s102.size : Int) = x3)))] ⟨rfl,rfl,rfl,rfl,trivial⟩ (fun u=>?_)
  refine c_ret ?_
  cases hm
  refine d_sta _ (fun W h=>ok_frontR (t:=17) (t':=2000) h rfl) ?_
  exact d_retC (A100,c101) Try.results109 (res_tmp (res_tmp (res_tmp (res_tmp (res_nil rfl))))) hc101 (fun W h=>h.phi (fun W hφ=>hφ)) (.inr rfl)
 have h7' : x4 = false:=by revert h7; cases x4 <;> simp
 replace hm:=ite_f hm (bool_nt h7')
 iterate 3 refine g_no rfl rfl rfl rfl rfl h7 ?_
 refine g_v rfl (r_pick1 rfl h7)<|g_nil<|d_then<|c_cond1 rfl rfl<|c_seq<|c_region ?_
 iterate 4 refine g_v rfl r_assign ?_
 refine g_nil<|d_then<|c_ret<|d_ret_then ?_
 cases hm
 refine d_sta _ (fun W h=>nilR h 23 9 1)<|d_sta _ (fun W h=>ok_frontR (t:=23) (t':=2000) h rfl) ?_
 exact d_retC (none,0) Try.results109 (res_tmp (res_tmp (res_tmp (res_tmp (res_nil rfl))))) (Nat.le_refl 0) (fun W h=>h.phi (fun W hφ=>hφ)) (.inr rfl)
noncomputable def m_ref05_Right_j1 (p1 : ByteArray) (i28 : Int) : Option Bool:=
  if i28 = (p1.size : Int) then
    some (decide (0 < i28))
  else
    some false
noncomputable def m_ref05_Right_s2 (p1 : ByteArray) (i33 : Int) : Option (Int ⊕ Int):=
  if i33 < (p1.size : Int) then
    (sat_ p1 i33).bind fun b39=>
    some (.inl (w64 ((w64 (i33 + 1)) + (w64 b39))))
  else
    some (.inr i33)
noncomputable def m_ref05_Right (p0 : Int) (p1 : ByteArray) : Option Bool:=
  (m_ref05_head p0).bind fun (z6 : Int×Int×Int×Bool)=>
  if z6.2.2.2 = true then
    (m_ref05_Names p0 p1).bind fun (z16 : ByteArray×(List ByteArray)×ByteArray×Bool)=>
    some z16.2.2.2
  else
    if p0 = 1 then
      some (decide ((p1.size : Int) = 4))
    else
      if p0 = 28 then
        some (decide ((p1.size : Int) = 16))
      else
        if p0 = 16 then
          (loop (fun s=>m_ref05_Right_s2 p1 s) 0).bind fun e=>m_ref05_Right_j1 p1 e
        else
          some true
theorem c_ref05_Right {w0 : World} {M : Nat→Prop} {H : List (Nat×Nat×Obj)} {R : List (Nat×Row)} {φ : World→Prop} (p0 : Int) (p1 : ByteArray) (r : Bool) (hm : m_ref05_Right p0 p1 = some r) :
    Cn Try.prog 108 #[.int .u16 p0,.string p1] ⟨w0,M,H,R,φ⟩ (fun x : Unit=>.bool r) (fun x=>True) (fun x=>⟨w0,M,H,R,φ⟩):=by
 unfold m_ref05_Right at hm
 refine cn_intro (fn:=Try.f108) (N:=63) Try.func108 rfl Try.ntmps108 rfl<|c_seq<|c_region<|g_v rfl r_assign<|g_nil<|d_then<|c_seq<|c_region<|g_v rfl r_move ?_
 replace hm:=bnd hm
 obtain ⟨⟨x1,x2,x3,x4⟩,hx5,hm⟩:=hm
 refine g_cn ⟨w0,M,_,_,φ⟩ (fun _ h=>h) Try.call97 rfl rfl (c_ref05_head p0 _ hx5) (fun _ _=>?_)
 refine g_v rfl r_move ?_
 iterate 4 refine g_v rfl (r_extract rfl rfl) ?_
 iterate 4 refine g_v rfl r_assign ?_
 refine g_nil<|d_then ?_
 refine c_flat [(0,.int .u16 p0),(1,.string p1),(8,.bool x4)] ⟨rfl,rfl,rfl,trivial⟩ (fun u=>?_)
 refine c_sta ⟨w0,M,H,R,φ⟩ (fun _ h=>h)<|c_seq<|c_seq<|c_region<|g_v rfl r_move<|g_nil<|d_then ?_
 refine c_cond rfl (fun h7=>?_) (fun h7=>?_)
 ·
  replace hm:=ite_t hm h7
  refine c_seq<|c_region<|g_v rfl r_move<|g_v rfl r_move ?_
  replace hm:=bnd hm
  obtain ⟨⟨x8,x9,x10,x11⟩,hx12,hm⟩:=hm
  refine g_cn ⟨w0,M,_,_,φ⟩ (fun _ h=>h) Try.call109 rfl rfl (c_ref05_Names p0 p1 _ hx12) (fun ⟨A13,c14⟩ hc14=>?_)
  refine g_sta _ (fun W h=>(ok_frontR (t:=2000) (t':=100250) h rfl))<|g_v rfl r_move ?_
  iterate 4 refine g_v rfl (r_extract rfl rfl) ?_
  iterate 4 refine g_v rfl r_assign ?_
  refine g_nil<|d_then ?_
  refine c_flat [(12,.bool x11)] ⟨rfl,trivial⟩ (fun u=>?_)
  refine c_sta ⟨w0,M,H,(100250,⟨.slice A13 x9.length c14,9,1,x9.length,x9.flatMap (fun x : ByteArray=>[Value.string x])⟩)::R,φ⟩ (fun _ h=>h)<|c_seq<|c_region<|g_v rfl r_move<|g_v rfl r_assign<|g_nil<|d_then<|c_ret<|d_ret_then ?_
  cases hm
  exact d_retC () Try.results108 (res_tmp (res_nil rfl)) trivial (fun W h=>ok_pre (H1:=[]) (R1:=[_]) h (fun W hφ=>hφ)) (.inr rfl)
 replace hm:=ite_f hm (bool_nt h7)
 refine c_skip<|d_then<|c_seq<|c_seq<|c_region<|g_v rfl r_move<|g_nil<|d_then<|c_block<|c_seq ?_
 refine c_region<|g_v rfl (r_eql rfl rfl)<|g_v rfl r_assign<|g_nil<|d_then ?_
 refine c_cond rfl (fun h17=>?_) (fun h17=>?_)
 ·
  replace hm:=ite_t hm (of_decide_eq_true h17)
  refine c_seq<|c_region<|g_v rfl r_move<|g_v rfl (r_len Try.underlying9 rfl)<|g_v rfl (r_eql rfl rfl)<|g_v rfl r_assign<|g_nil<|d_then<|c_ret<|d_ret_block ?_
  refine d_ret_then ?_
  cases hm
  exact d_retC () Try.results108 (res_tmp (res_nil rfl)) trivial (fun W h=>ok_pre (H1:=[]) (R1:=[]) h (fun W hφ=>hφ)) (.inr rfl)
 replace hm:=ite_f hm (of_decide_eq_false h17)
 refine c_seq<|c_region<|g_v rfl (r_eql rfl rfl)<|g_v rfl r_assign<|g_nil<|d_then ?_
 refine c_cond rfl (fun h18=>?_) (fun h18=>?_)
 ·
  replace hm:=ite_t hm (of_decide_eq_true h18)
  refine c_seq<|c_region<|g_v rfl r_move<|g_v rfl (r_len Try.underlying9 rfl)<|g_v rfl (r_eql rfl rfl)<|g_v rfl r_assign<|g_nil<|d_then ?_
  refine c_flat [(4,.bool (decide ((p1.size : Int) = 16)))] ⟨rfl,trivial⟩ (fun u=>?_)
  refine c_ret<|d_ret_block<|d_ret_then ?_
  cases hm
  exact d_retC () Try.results108 (res_tmp (res_nil rfl)) trivial (fun W h=>ok_pre (H1:=[]) (R1:=[]) h (fun W hφ=>hφ)) (.inr rfl)
 replace hm:=ite_f hm (of_decide_eq_false h18)
 refine c_seq<|c_region<|g_v rfl (r_eql rfl rfl)<|g_v rfl r_assign<|g_nil<|d_then ?_
 refine c_cond rfl (fun h19=>?_) (fun h19=>?_)
 ·
  replace hm:=ite_t hm (of_decide_eq_true h19)
  refine c_seq<|c_region<|g_v rfl r_assign<|g_nil<|d_then ?_
  refine c_flat [(1,.string p1),(13,.int .i64 0)] ⟨rfl,rfl,trivial⟩ (fun u=>?_)
  refine c_seq ?_
  refine c_cut (ι:=Int) [1,13] (fun i28=>[(13,.int .i64 i28)]) (fun i28=>⟨w0,M,H,R,φ⟩) (fun i28=>m_ref05_Right_j1 p1 i28 = some r) ?_ (fun i28 u hm=>?_)
  ·
   refine c_block ?_
   replace hm:=bnd hm
   obtain ⟨out2,hl2,hr2⟩:=hm
   obtain ⟨n37',hl2⟩:=loop_lp hl2
   refine c_loopU (ι:=Nat×Int) [1,13] (fun ⟨n37,i33⟩=>[(13,.int .i64 i33)]) (fun ⟨n37,i33⟩=>⟨w0,M,H,R,φ⟩) (fun ⟨n37,i33⟩=>Lp (fun s=>m_ref05_Right_s2 p1 s) n37 i33 out2) (fun ⟨n37,i33⟩=>n37) (n37',0) hl2 ⟨rfl,rfl,trivial⟩ (fun W h=>h.phi (fun W hφ=>hφ)) (fun ⟨n37,i33⟩ u hlp=>?_)
   obtain ⟨o2,hm,hnx2⟩:=lp_step hlp
   clear hlp
   replace hm : m_ref05_Right_s2 p1 i33 = some o2:=hm
   unfold m_ref05_Right_s2 at hm
   refine c_flat [(1,.string p1),(13,.int .i64 i33)] ⟨rfl,rfl,trivial⟩ (fun u=>?_)
   refine c_seq<|c_seq<|c_region<|g_v rfl r_move<|g_v rfl r_move<|g_v rfl (r_len Try.underlying9 rfl)<|g_v rfl (r_lss rfl rfl)<|g_nil<|d_then ?_
   refine c_cond rfl (fun h38=>?_) (fun h38=>?_)
   ·
    replace hm:=ite_t hm (of_decide_eq_true h38)
    refine c_skip<|d_then<|c_block<|c_region<|g_v rfl r_move<|g_v rfl (r_add rfl rfl rfl)<|g_v rfl r_move<|g_v rfl r_move ?_
    replace hm:=bnd hm
    obtain ⟨b39,hb39,hm⟩:=hm
    refine g_v rfl (r_sat Try.underlying9 rfl rfl hb39)<|g_v rfl (r_conv Try.underlying5 Try.underlying3 rfl rfl)<|g_v rfl (r_add rfl rfl rfl)<|g_v rfl r_assign<|g_nil<|d_normal_block ?_
    obtain ⟨n40,hn40,hlp⟩:=nx_inl hm hnx2
    exact d_round (n40,w64 ((w64 (i33 + 1)) + (w64 b39))) hlp hn40 ⟨rfl,rfl,trivial⟩ (fun W h=>h.phi (fun W hφ=>hφ))
   replace hm:=ite_f hm (of_decide_eq_false h38)
   refine c_exit<|d_exit_then<|d_exit_then<|d_exit_block ?_
   replace hm:=nx_out (C:=(fun e : Int=>m_ref05_Right_j1 p1 e = some r)) hm hnx2 hr2
   exact d_round i33 hm Nat.zero_lt_one ⟨rfl,rfl,trivial⟩ (fun W h=>h.phi (fun W hφ=>hφ))
  unfold m_ref05_Right_j1 at hm
  refine d_flat [(1,.string p1),(13,.int .i64 i28)] ⟨rfl,rfl,trivial⟩ (fun u=>?_)
  refine d_then<|c_seq<|c_region<|g_v rfl r_move<|g_v rfl r_move<|g_v rfl (r_len Try.underlying9 rfl)<|g_v rfl (r_eql rfl rfl)<|g_v rfl r_move ?_
  refine g_if rfl rfl rfl rfl rfl (fun h29=>?_) (fun h29=>?_)
  ·
   replace hm:=ite_t hm (of_decide_eq_true h29)
   refine g_v rfl r_move<|g_do rfl rfl rfl rfl rfl h29<|g_v rfl (r_gtr rfl rfl)<|g_v rfl (r_pick1 rfl h29)<|g_v rfl r_assign<|g_nil<|d_then ?_
   refine c_flat [(4,.bool (decide (0 < i28)))] ⟨rfl,trivial⟩ (fun u=>?_)
   refine c_ret<|d_ret_block<|d_ret_then ?_
   cases hm
   exact d_retC () Try.results108 (res_tmp (res_nil rfl)) trivial (fun W h=>ok_pre (H1:=[]) (R1:=[]) h (fun W hφ=>hφ)) (.inr rfl)
  replace hm:=ite_f hm (of_decide_eq_false h29)
  refine g_no rfl rfl rfl rfl rfl h29<|g_v rfl (r_pick0 rfl h29)<|g_v rfl r_assign<|g_nil<|d_then<|c_ret<|d_ret_block<|d_ret_then ?_
  cases hm
  exact d_retC () Try.results108 (res_tmp (res_nil rfl)) trivial (fun W h=>ok_pre (H1:=[]) (R1:=[]) h (fun W hφ=>hφ)) (.inr rfl)
 replace hm:=ite_f hm (of_decide_eq_false h19)
 refine c_skip<|d_normal_block<|d_then<|c_seq<|c_region<|g_v rfl r_assign<|g_nil<|d_then ?_
 refine c_flat [(4,.bool true)] ⟨rfl,trivial⟩ (fun u=>?_)
 refine c_ret ?_
 cases hm
 exact d_retC () Try.results108 (res_tmp (res_nil rfl)) trivial (fun W h=>ok_pre (H1:=[]) (R1:=[]) h (fun W hφ=>hφ)) (.inr rfl)
noncomputable def m_ref05_Check (p0 : GRR) : Option Int:=
  (m_ref03_Check p0.fName).bind fun x2=>
  if x2 ≠ 0 then
    some x2
  else
    if 2000 < (p0.fData.size : Int) then
      some 11
    else
      (m_ref05_Right p0.fType p0.fData).bind fun x6=>
      if x6 = true then
        some 0
      else
        some 10
theorem c_ref05_Check {w0 : World} {M : Nat→Prop} {H : List (Nat×Nat×Obj)} {R : List (Nat×Row)} {φ : World→Prop} (p0 : GRR) (r : Int) (hm : m_ref05_Check p0 = some r) :
    Cn Try.prog 98 #[.agg #[.string p0.fName,.int .u16 p0.fType,.int .u16 p0.fClass,.int .u32 p0.fTTL,.string p0.fData]] ⟨w0,M,H,R,φ⟩ (fun x : Unit=>.int .i64 r) (fun x=>True) (fun x=>⟨w0,M,H,R,φ⟩):=by
 unfold m_ref05_Check at hm
 refine cn_intro (fn:=Try.f98) (N:=22) Try.func98 rfl Try.ntmps98 rfl<|c_seq<|c_region ?_
 refine g_e rfl (e_box 100010 rfl) (fun g1 _=>?_)
 refine g_v rfl r_assign<|g_nil<|d_then<|c_seq<|c_region<|g_v rfl (r_field (n:=0) Try.underlying42 rfl Try.sizeOf9 rfl rfl)<|g_v rfl (r_load (tag:=100010) rfl rfl rfl Try.isAgg9) ?_
 replace hm:=bnd hm
 obtain ⟨x2,hx3,hm⟩:=hm
 refine g_cn ⟨w0,M,_,_,φ⟩ (fun _ h=>h) Try.call18 rfl rfl (c_ref03_Check p0.fName _ hx3) (fun _ _=>?_)
 refine g_v rfl r_assign<|g_nil<|d_then<|c_seq<|c_seq<|c_region<|g_v rfl r_move<|g_v rfl (r_neq rfl rfl)<|g_nil<|d_then ?_
 refine c_sta ⟨w0,M,(100010,g1,.cells #[.string p0.fName,.int .u16 p0.fType,.int .u16 p0.fClass,.int .u32 p0.fTTL,.string p0.fData] 42 (0,0))::H,R,φ⟩ (fun _ h=>h) ?_
 refine c_cond rfl (fun h4=>?_) (fun h4=>?_)
 ·
  replace hm:=ite_t hm (of_decide_eq_true h4)
  refine c_seq<|c_region<|g_v rfl r_move<|g_v rfl r_assign<|g_nil<|d_then ?_
  refine c_flat [(2,.int .i64 x2)] ⟨rfl,trivial⟩ (fun u=>?_)
  refine c_ret<|d_ret_then ?_
  cases hm
  exact d_retC () Try.results98 (res_tmp (res_nil rfl)) trivial (fun W h=>ok_pre (H1:=[_]) (R1:=[]) h (fun W hφ=>hφ)) (.inr rfl)
 replace hm:=ite_f hm (of_decide_eq_false h4)
 refine c_skip<|d_then<|c_seq<|c_seq<|c_region<|g_v rfl (r_field (n:=4) Try.underlying42 rfl Try.sizeOf9 rfl rfl)<|g_v rfl (r_load (tag:=100010) rfl rfl rfl Try.isAgg9)<|g_v rfl (r_len Try.underlying9 rfl)<|g_v rfl (r_gtr rfl rfl)<|g_nil ?_
 refine d_then ?_
 refine c_flat [(1,.pointer (some ⟨g1,0,none⟩)),(14,.bool (decide (2000 < (p0.fData.size : Int))))] ⟨rfl,rfl,trivial⟩ (fun u=>?_)
 refine c_cond rfl (fun h5=>?_) (fun h5=>?_)
 ·
  replace hm:=ite_t hm (of_decide_eq_true h5)
  refine c_seq<|c_region<|g_v rfl r_assign<|g_nil<|d_then<|c_ret<|d_ret_then ?_
  cases hm
  exact d_retC () Try.results98 (res_tmp (res_nil rfl)) trivial (fun W h=>ok_pre (H1:=[_]) (R1:=[]) h (fun W hφ=>hφ)) (.inr rfl)
 replace hm:=ite_f hm (of_decide_eq_false h5)
 refine c_skip<|d_then<|c_seq<|c_region<|g_v rfl (r_field (n:=1) Try.underlying42 rfl Try.sizeOf22 rfl rfl)<|g_v rfl (r_load (tag:=100010) rfl rfl rfl Try.isAgg22)<|g_v rfl (r_field (n:=4) Try.underlying42 rfl Try.sizeOf9 rfl rfl)<|g_v rfl (r_load (tag:=100010) rfl rfl rfl Try.isAgg9) ?_
 replace hm:=bnd hm
 obtain ⟨x6,hx7,hm⟩:=hm
 refine g_cn ⟨w0,M,_,_,φ⟩ (fun _ h=>h) Try.call108 rfl rfl (c_ref05_Right p0.fType p0.fData _ hx7) (fun _ _=>?_)
 refine g_v rfl r_assign<|g_nil<|d_then<|c_seq<|c_seq<|c_region<|g_v rfl r_move<|g_v rfl (r_not rfl)<|g_nil<|d_then ?_
 refine c_cond rfl (fun h8=>?_) (fun h8=>?_)
 ·
  have h8' : x6 = false:=by revert h8; cases x6 <;> simp
  replace hm:=ite_f hm (bool_nt h8')
  refine c_seq<|c_region<|g_v rfl r_assign<|g_nil<|d_then ?_
  refine c_flat [(2,.int .i64 10)] ⟨rfl,trivial⟩ (fun u=>?_)
  refine c_ret<|d_ret_then ?_
  cases hm
  exact d_retC () Try.results98 (res_tmp (res_nil rfl)) trivial (fun W h=>ok_pre (H1:=[_]) (R1:=[]) h (fun W hφ=>hφ)) (.inr rfl)
 have h8' : x6 = true:=by revert h8; cases x6 <;> simp
 replace hm:=ite_t hm h8'
 refine c_skip<|d_then<|c_seq<|c_region<|g_v rfl r_assign<|g_nil<|d_then ?_
 refine c_flat [(2,.int .i64 0)] ⟨rfl,trivial⟩ (fun u=>?_)
 refine c_ret ?_
 cases hm
 exact d_retC () Try.results98 (res_tmp (res_nil rfl)) trivial (fun W h=>ok_pre (H1:=[_]) (R1:=[]) h (fun W hφ=>hφ)) (.inr rfl)
noncomputable def m_ref05_Get_j5 (x2 : ByteArray) (i16 : Int) (i24 : Int) (i32 : Int) (x42 : Int) (s97 : ByteArray) : Option (GRR×Int×Int):=
  (m_ref05_Check (⟨x2,IntKind.u16.wrap i16,IntKind.u16.wrap i24,IntKind.u32.wrap i32,s97⟩ : GRR)).bind fun x98=>
  if x98 ≠ 0 then
    some ((⟨(⟨#[]⟩ : ByteArray),0,0,0,(⟨#[]⟩ : ByteArray)⟩ : GRR),0,x98)
  else
    some ((⟨x2,IntKind.u16.wrap i16,IntKind.u16.wrap i24,IntKind.u32.wrap i32,s97⟩ : GRR),x42,0)
noncomputable def m_ref05_Get_j6 (p0 : ByteArray) (x50 : Int) (x42 : Int) (x2 : ByteArray) (i16 : Int) (i24 : Int) (i32 : Int) (s134 : ByteArray) (i135 : Int) : Option (GRR×Int×Int):=
  (m_ref04_Raw p0 i135 x50).bind fun (z140 : ByteArray×Int×Int)=>
  if z140.2.2 ≠ 0 then
    some ((⟨(⟨#[]⟩ : ByteArray),0,0,0,(⟨#[]⟩ : ByteArray)⟩ : GRR),0,z140.2.2)
  else
    if z140.2.1 ≠ x42 then
      some ((⟨(⟨#[]⟩ : ByteArray),0,0,0,(⟨#[]⟩ : ByteArray)⟩ : GRR),0,10)
    else
      (sadd s134 z140.1).bind fun s143=>
      m_ref05_Get_j5 x2 i16 i24 i32 x42 s143
noncomputable def m_ref05_Get_s7 (x49 : Int) (p0 : ByteArray) (s155 : ByteArray) (i156 : Int) (i157 : Int) : Option ((ByteArray×Int×Int) ⊕ ((ByteArray×Int) ⊕ (GRR×Int×Int))):=
  if i157 < x49 then
    (m_ref04_Name p0 i156).bind fun (z175 : ByteArray×Int×Int)=>
    if z175.2.2 ≠ 0 then
      some (.inr (.inr ((⟨(⟨#[]⟩ : ByteArray),0,0,0,(⟨#[]⟩ : ByteArray)⟩ : GRR),0,z175.2.2)))
    else
      (sadd s155 z175.1).bind fun s177=>
      some (.inl (s177,z175.2.1,w64 (i157 + 1)))
  else
    some (.inr (.inl (s155,i156)))
noncomputable def m_ref05_Get_j4 (p0 : ByteArray) (i16 : Int) (x2 : ByteArray) (i24 : Int) (i32 : Int) (i39 : Int) (i40 : Int) : Option (GRR×Int×Int):=
  (m_ref04_Raw p0 i39 i40).bind fun (z45 : ByteArray×Int×Int)=>
  if z45.2.2 ≠ 0 then
    some ((⟨(⟨#[]⟩ : ByteArray),0,0,0,(⟨#[]⟩ : ByteArray)⟩ : GRR),0,z45.2.2)
  else
    (m_ref05_head (IntKind.u16.wrap i16)).bind fun (z53 : Int×Int×Int×Bool)=>
    if z53.2.2.2 = true then
      (m_ref04_Raw p0 i39 z53.1).bind fun (z106 : ByteArray×Int×Int)=>
      if z106.2.2 ≠ 0 then
        some ((⟨(⟨#[]⟩ : ByteArray),0,0,0,(⟨#[]⟩ : ByteArray)⟩ : GRR),0,z106.2.2)
      else
        (loop (fun s=>m_ref05_Get_s7 z53.2.1 p0 s.1 s.2.1 s.2.2) (z106.1,z106.2.1,0)).bind fun e=>Sum.elim (fun e=>m_ref05_Get_j6 p0 z53.2.2.1 z45.2.1 x2 i16 i24 i32 e.1 e.2) (fun x=>some x) e
    else
      m_ref05_Get_j5 x2 i16 i24 i32 z45.2.1 z45.1
noncomputable def m_ref05_Get_j8 (p0 : ByteArray) (i31 : Int) (i16 : Int) (x2 : ByteArray) (i24 : Int) (i32 : Int) : Option (GRR×Int×Int):=
  (m_ref04_Number p0 i31 2).bind fun (z183 : Int×Int×Int)=>
  if z183.2.2 ≠ 0 then
    some ((⟨(⟨#[]⟩ : ByteArray),0,0,0,(⟨#[]⟩ : ByteArray)⟩ : GRR),0,z183.2.2)
  else
    m_ref05_Get_j4 p0 i16 x2 i24 i32 z183.2.1 z183.1
noncomputable def m_ref05_Get_j3 (p0 : ByteArray) (i16 : Int) (x2 : ByteArray) (i24 : Int) (i31 : Int) (i32 : Int) : Option (GRR×Int×Int):=
  m_ref05_Get_j8 p0 i31 i16 x2 i24 i32
noncomputable def m_ref05_Get_j9 (p0 : ByteArray) (i23 : Int) (i16 : Int) (x2 : ByteArray) (i24 : Int) : Option (GRR×Int×Int):=
  (m_ref04_Number p0 i23 4).bind fun (z189 : Int×Int×Int)=>
  if z189.2.2 ≠ 0 then
    some ((⟨(⟨#[]⟩ : ByteArray),0,0,0,(⟨#[]⟩ : ByteArray)⟩ : GRR),0,z189.2.2)
  else
    m_ref05_Get_j3 p0 i16 x2 i24 z189.2.1 z189.1
noncomputable def m_ref05_Get_j2 (p0 : ByteArray) (i16 : Int) (x2 : ByteArray) (i23 : Int) (i24 : Int) : Option (GRR×Int×Int):=
  m_ref05_Get_j9 p0 i23 i16 x2 i24
noncomputable def m_ref05_Get_j10 (p0 : ByteArray) (i15 : Int) (i16 : Int) (x2 : ByteArray) : Option (GRR×Int×Int):=
  (m_ref04_Number p0 i15 2).bind fun (z195 : Int×Int×Int)=>
  if z195.2.2 ≠ 0 then
    some ((⟨(⟨#[]⟩ : ByteArray),0,0,0,(⟨#[]⟩ : ByteArray)⟩ : GRR),0,z195.2.2)
  else
    m_ref05_Get_j2 p0 i16 x2 z195.2.1 z195.1
noncomputable def m_ref05_Get_j1 (p0 : ByteArray) (x2 : ByteArray) (i15 : Int) (i16 : Int) : Option (GRR×Int×Int):=
  m_ref05_Get_j10 p0 i15 i16 x2
noncomputable def m_ref05_Get_j11 (p0 : ByteArray) (x3 : Int) (x2 : ByteArray) : Option (GRR×Int×Int):=
  (m_ref04_Number p0 x3 2).bind fun (z201 : Int×Int×Int)=>
  if z201.2.2 ≠ 0 then
    some ((⟨(⟨#[]⟩ : ByteArray),0,0,0,(⟨#[]⟩ : ByteArray)⟩ : GRR),0,z201.2.2)
  else
    m_ref05_Get_j1 p0 x2 z201.2.1 z201.1
noncomputable def m_ref05_Get (p0 : ByteArray) (p1 : Int) : Option (GRR×Int×Int):=
  (m_ref04_Name p0 p1).bind fun (z6 : ByteArray×Int×Int)=>
  if z6.2.2 ≠ 0 then
    some ((⟨(⟨#[]⟩ : ByteArray),0,0,0,(⟨#[]⟩ : ByteArray)⟩ : GRR),0,z6.2.2)
  else
    m_ref05_Get_j11 p0 z6.2.1 z6.1
theorem c_ref05_Get {w0 : World} {M : Nat→Prop} {H : List (Nat×Nat×Obj)} {R : List (Nat×Row)} {φ : World→Prop} (p0 : ByteArray) (p1 : Int) (r : GRR×Int×Int) (hm : m_ref05_Get p0 p1 = some r) :
    Cn Try.prog 73 #[.string p0,.int .i64 p1] ⟨w0,M,H,R,φ⟩ (fun x : Unit=>.tuple #[.agg #[.string r.1.fName,.int .u16 r.1.fType,.int .u16 r.1.fClass,.int .u32 r.1.fTTL,.string r.1.fData],.int .i64 r.2.1,.int .i64 r.2.2]) (fun x=>True) (fun x=>⟨w0,M,H,R,φ⟩):=by
 unfold m_ref05_Get at hm
 refine cn_intro (fn:=Try.f73) (N:=161) Try.func73 rfl Try.ntmps73 rfl<|c_seq<|c_region ?_
 refine g_e rfl (e_alloc 100040 Try.zeroValue42) (fun g1 _=>?_)
 refine g_v rfl r_assign<|g_v rfl r_assign<|g_nil<|d_then<|c_seq<|c_region<|g_v rfl r_move<|g_v rfl r_move ?_
 replace hm:=bnd hm
 obtain ⟨⟨x2,x3,x4⟩,hx5,hm⟩:=hm
 refine g_cn ⟨w0,M,_,_,φ⟩ (fun _ h=>h) Try.call46 rfl rfl (c_ref04_Name p0 p1 _ hx5) (fun _ _=>?_)
 refine g_v rfl r_move ?_
 iterate 3 refine g_v rfl (r_extract rfl rfl) ?_
 iterate 3 refine g_v rfl r_assign ?_
 refine g_nil<|d_then ?_
 refine c_flat [(0,.string p0),(4,.pointer (some ⟨g1,0,none⟩)),(7,.string x2),(8,.int .i64 x3),(9,.int .i64 x4)] ⟨rfl,rfl,rfl,rfl,rfl,trivial⟩ (fun u=>?_)
 refine c_sta ⟨w0,M,(100040,g1,.cells #[.string (⟨#[]⟩ : ByteArray),.int .u16 0,.int .u16 0,.int .u32 0,.string (⟨#[]⟩ : ByteArray)] 42 (0,0))::H,R,φ⟩ (fun _ h=>h)<|c_seq<|c_seq<|c_region<|g_v rfl r_move<|g_v rfl (r_neq rfl rfl)<|g_nil<|d_then ?_
 refine c_cond rfl (fun h7=>?_) (fun h7=>?_)
 ·
  replace hm:=ite_t hm (of_decide_eq_true h7)
  refine c_seq<|c_region<|g_v rfl (r_build _ rfl (bld42_28))<|g_v rfl r_move<|g_storeL (tag:=100040) rfl rfl rfl rfl Try.sizeOf42 rfl rfl<|g_v rfl r_assign<|g_v rfl r_assign<|g_nil<|d_then<|c_ret ?_
  refine d_ret_then ?_
  cases hm
  exact d_retC () Try.results73 (res_agg (tag:=100040) rfl rfl Try.isAgg42 Try.sizeOf42 (res_tmp (res_tmp (res_nil rfl)))) trivial (fun W h=>ok_pre (H1:=[_]) (R1:=[]) h (fun W hφ=>hφ)) (.inr rfl)
 replace hm:=ite_f hm (of_decide_eq_false h7)
 refine c_skip<|d_then<|c_seq<|c_region ?_
 refine g_e rfl (e_alloc 100100 Try.zeroValue81) (fun g8 _=>?_)
 refine g_nil<|d_then<|c_seq<|c_seq<|c_region<|g_v rfl r_assign<|g_nil<|d_then<|c_block<|c_rounds 64 ?_
 refine c_seq<|c_seq<|c_region<|g_v rfl r_move<|g_v rfl (r_lss rfl rfl)<|g_nil<|d_then<|c_cond1 rfl (by decide)<|c_skip<|d_then ?_
 refine c_seq ?_
 refine c_cut (ι:=Int×Int) [0,4,7,8,10,11] (fun ⟨i15,i16⟩=>[(8,.int .i64 i15)]) (fun ⟨i15,i16⟩=>⟨w0,M,(100100,g8,.cells #[.int .i64 i16,.int .i64 0,.int .i64 0,.int .i64 0] 81 (0,0))::(100040,g1,.cells #[.string (⟨#[]⟩ : ByteArray),.int .u16 0,.int .u16 0,.int .u32 0,.string (⟨#[]⟩ : ByteArray)] 42 (0,0))::H,R,φ⟩) (fun ⟨i15,i16⟩=>m_ref05_Get_j1 p0 x2 i15 i16 = some r) ?_ (fun ⟨i15,i16⟩ u hm=>?_)
 ·
  refine c_block<|c_seq<|c_region<|g_v rfl r_assign<|g_nil<|d_then<|c_seq ?_
  refine c_cut (ι:=Unit) [0,4,7,8,10,11,12] (fun _=>[]) (fun _=>⟨w0,M,(100100,g8,.cells #[.int .i64 0,.int .i64 0,.int .i64 0,.int .i64 0] 81 (0,0))::(100040,g1,.cells #[.string (⟨#[]⟩ : ByteArray),.int .u16 0,.int .u16 0,.int .u32 0,.string (⟨#[]⟩ : ByteArray)] 42 (0,0))::H,R,φ⟩) (fun _=>m_ref05_Get_j11 p0 x3 x2 = some r) ?_ (fun _ u hm=>?_)
  ·
   refine c_seq<|c_region<|g_v rfl r_move<|g_v rfl (r_eql rfl rfl)<|g_nil<|d_then ?_
   refine c_flat [(0,.string p0),(4,.pointer (some ⟨g1,0,none⟩)),(7,.string x2),(8,.int .i64 x3),(10,.pointer (some ⟨g8,0,none⟩)),(11,.int .i64 0),(12,.int .i64 2),(50,.bool (decide (0 = 2)))] ⟨rfl,rfl,rfl,rfl,rfl,rfl,rfl,rfl,trivial⟩ (fun u=>?_)
   refine c_sta ⟨w0,M,(100100,g8,.cells #[.int .i64 0,.int .i64 0,.int .i64 0,.int .i64 0] 81 (0,0))::(100040,g1,.cells #[.string (⟨#[]⟩ : ByteArray),.int .u16 0,.int .u16 0,.int .u32 0,.string (⟨#[]⟩ : ByteArray)] 42 (0,0))::H,R,φ⟩ (fun _ h=>h)<|c_cond0 rfl (by decide)<|c_skip ?_
   exact d_round () hm Nat.zero_lt_one ⟨rfl,rfl,rfl,rfl,rfl,rfl,rfl,trivial⟩ (fun W h=>h.phi (fun W hφ=>hφ))
  unfold m_ref05_Get_j11 at hm
  refine d_flat [(0,.string p0),(4,.pointer (some ⟨g1,0,none⟩)),(7,.string x2),(8,.int .i64 x3),(10,.pointer (some ⟨g8,0,none⟩)),(11,.int .i64 0),(12,.int .i64 2)] ⟨rfl,rfl,rfl,rfl,rfl,rfl,rfl,trivial⟩ (fun u=>?_)
  refine d_sta ⟨w0,M,(100100,g8,.cells #[.int .i64 0,.int .i64 0,.int .i64 0,.int .i64 0] 81 (0,0))::(100040,g1,.cells #[.string (⟨#[]⟩ : ByteArray),.int .u16 0,.int .u16 0,.int .u32 0,.string (⟨#[]⟩ : ByteArray)] 42 (0,0))::H,R,φ⟩ (fun _ h=>h)<|d_then<|c_seq<|c_region ?_
  iterate 3 refine g_v rfl r_move ?_
  replace hm:=bnd hm
  obtain ⟨⟨x197,x198,x199⟩,hx200,hm⟩:=hm
  refine g_cn ⟨w0,M,_,_,φ⟩ (fun _ h=>h) Try.call45 rfl rfl (c_ref04_Number p0 x3 2 _ hx200) (fun _ _=>?_)
  refine g_v rfl r_move ?_
  iterate 3 refine g_v rfl (r_extract rfl rfl) ?_
  iterate 3 refine g_v rfl r_assign ?_
  refine g_nil<|d_then ?_
  refine c_flat [(0,.string p0),(4,.pointer (some ⟨g1,0,none⟩)),(7,.string x2),(10,.pointer (some ⟨g8,0,none⟩)),(11,.int .i64 0),(13,.int .i64 x197),(14,.int .i64 x198),(15,.int .i64 x199)] ⟨rfl,rfl,rfl,rfl,rfl,rfl,rfl,rfl,trivial⟩ (fun u=>?_)
  refine c_seq<|c_seq<|c_region<|g_v rfl r_move<|g_v rfl (r_neq rfl rfl)<|g_nil<|d_then ?_
  refine c_cond rfl (fun h202=>?_) (fun h202=>?_)
  ·
   replace hm:=ite_t hm (of_decide_eq_true h202)
   refine c_seq<|c_region<|g_v rfl (r_build _ rfl (bld42_28))<|g_v rfl r_move<|g_storeL (tag:=100040) rfl rfl rfl rfl Try.sizeOf42 rfl rfl<|g_v rfl r_assign<|g_v rfl r_assign<|g_nil<|d_then<|c_ret ?_
   refine d_ret_then<|d_ret_block ?_
   iterate 3 refine d_ret_then ?_
   refine d_ret_block<|d_ret_then ?_
   cases hm
   exact d_retC () Try.results73 (res_agg (tag:=100040) rfl rfl Try.isAgg42 Try.sizeOf42 (res_tmp (res_tmp (res_nil rfl)))) trivial (fun W h=>ok_pre (H1:=[_,_]) (R1:=[]) h (fun W hφ=>hφ)) (.inr rfl)
  replace hm:=ite_f hm (of_decide_eq_false h202)
  refine c_skip<|d_then<|c_seq<|c_region<|g_v rfl r_move<|g_v rfl r_move<|g_v rfl (r_elemH (n:=0) Try.underlying81 Try.sizeOf3 rfl rfl (by decide) (by decide) rfl)<|g_storeL (tag:=100100) rfl rfl rfl rfl Try.sizeOf3 rfl rfl<|g_nil<|d_then ?_
  refine c_region<|g_v rfl r_move<|g_v rfl r_assign<|g_nil<|d_normal_block ?_
  exact d_round (x198,x197) hm Nat.zero_lt_one ⟨rfl,rfl,rfl,rfl,rfl,rfl,trivial⟩ (fun W h=>h.phi (fun W hφ=>hφ))
 unfold m_ref05_Get_j1 at hm
 refine d_flat [(0,.string p0),(4,.pointer (some ⟨g1,0,none⟩)),(7,.string x2),(8,.int .i64 i15),(10,.pointer (some ⟨g8,0,none⟩)),(11,.int .i64 0)] ⟨rfl,rfl,rfl,rfl,rfl,rfl,trivial⟩ (fun u=>?_)
 refine d_sta ⟨w0,M,(100100,g8,.cells #[.int .i64 i16,.int .i64 0,.int .i64 0,.int .i64 0] 81 (0,0))::(100040,g1,.cells #[.string (⟨#[]⟩ : ByteArray),.int .u16 0,.int .u16 0,.int .u32 0,.string (⟨#[]⟩ : ByteArray)] 42 (0,0))::H,R,φ⟩ (fun _ h=>h)<|d_then<|c_region<|g_v rfl r_move<|g_v rfl (r_add rfl rfl (show IntKind.i64.wrap (0 + 1) = 1 by decide))<|g_v rfl r_assign<|g_nil<|d_rounds ?_
 refine c_flat [(0,.string p0),(4,.pointer (some ⟨g1,0,none⟩)),(7,.string x2),(8,.int .i64 i15),(10,.pointer (some ⟨g8,0,none⟩)),(11,.int .i64 1)] ⟨rfl,rfl,rfl,rfl,rfl,rfl,trivial⟩ (fun u=>?_)
 refine c_seq<|c_seq<|c_region<|g_v rfl r_move<|g_v rfl (r_lss rfl rfl)<|g_nil<|d_then<|c_cond1 rfl (by decide)<|c_skip<|d_then ?_
 refine c_seq ?_
 refine c_cut (ι:=Int×Int) [0,4,7,8,10,11] (fun ⟨i23,i24⟩=>[(8,.int .i64 i23)]) (fun ⟨i23,i24⟩=>⟨w0,M,(100100,g8,.cells #[.int .i64 i16,.int .i64 i24,.int .i64 0,.int .i64 0] 81 (0,0))::(100040,g1,.cells #[.string (⟨#[]⟩ : ByteArray),.int .u16 0,.int .u16 0,.int .u32 0,.string (⟨#[]⟩ : ByteArray)] 42 (0,0))::H,R,φ⟩) (fun ⟨i23,i24⟩=>m_ref05_Get_j2 p0 i16 x2 i23 i24 = some r) ?_ (fun ⟨i23,i24⟩ u hm=>?_)
 ·
  refine c_block<|c_seq<|c_region<|g_v rfl r_assign<|g_nil<|d_then<|c_seq ?_
  refine c_cut (ι:=Unit) [0,4,7,8,10,11,12] (fun _=>[]) (fun _=>⟨w0,M,(100100,g8,.cells #[.int .i64 i16,.int .i64 0,.int .i64 0,.int .i64 0] 81 (0,0))::(100040,g1,.cells #[.string (⟨#[]⟩ : ByteArray),.int .u16 0,.int .u16 0,.int .u32 0,.string (⟨#[]⟩ : ByteArray)] 42 (0,0))::H,R,φ⟩) (fun _=>m_ref05_Get_j10 p0 i15 i16 x2 = some r) ?_ (fun _ u hm=>?_)
  ·
   refine c_seq<|c_region<|g_v rfl r_move<|g_v rfl (r_eql rfl rfl)<|g_nil<|d_then<|c_cond0 rfl (by decide)<|c_skip ?_
   exact d_round () hm Nat.zero_lt_one ⟨rfl,rfl,rfl,rfl,rfl,rfl,rfl,trivial⟩ (fun W h=>h.phi (fun W hφ=>hφ))
  unfold m_ref05_Get_j10 at hm
  refine d_flat [(0,.string p0),(4,.pointer (some ⟨g1,0,none⟩)),(7,.string x2),(8,.int .i64 i15),(10,.pointer (some ⟨g8,0,none⟩)),(11,.int .i64 1),(12,.int .i64 2)] ⟨rfl,rfl,rfl,rfl,rfl,rfl,rfl,trivial⟩ (fun u=>?_)
  refine d_then<|c_seq<|c_region ?_
  iterate 3 refine g_v rfl r_move ?_
  replace hm:=bnd hm
  obtain ⟨⟨x191,x192,x193⟩,hx194,hm⟩:=hm
  refine g_cn ⟨w0,M,_,_,φ⟩ (fun _ h=>h) Try.call45 rfl rfl (c_ref04_Number p0 i15 2 _ hx194) (fun _ _=>?_)
  refine g_v rfl r_move ?_
  iterate 3 refine g_v rfl (r_extract rfl rfl) ?_
  iterate 3 refine g_v rfl r_assign ?_
  refine g_nil<|d_then ?_
  refine c_flat [(0,.string p0),(4,.pointer (some ⟨g1,0,none⟩)),(7,.string x2),(10,.pointer (some ⟨g8,0,none⟩)),(11,.int .i64 1),(13,.int .i64 x191),(14,.int .i64 x192),(15,.int .i64 x193)] ⟨rfl,rfl,rfl,rfl,rfl,rfl,rfl,rfl,trivial⟩ (fun u=>?_)
  refine c_seq<|c_seq<|c_region<|g_v rfl r_move<|g_v rfl (r_neq rfl rfl)<|g_nil<|d_then ?_
  refine c_cond rfl (fun h196=>?_) (fun h196=>?_)
  ·
   replace hm:=ite_t hm (of_decide_eq_true h196)
   refine c_seq<|c_region<|g_v rfl (r_build _ rfl (bld42_28))<|g_v rfl r_move<|g_storeL (tag:=100040) rfl rfl rfl rfl Try.sizeOf42 rfl rfl<|g_v rfl r_assign<|g_v rfl r_assign<|g_nil<|d_then<|c_ret ?_
   refine d_ret_then<|d_ret_block ?_
   iterate 3 refine d_ret_then ?_
   refine d_ret_block<|d_ret_then ?_
   cases hm
   exact d_retC () Try.results73 (res_agg (tag:=100040) rfl rfl Try.isAgg42 Try.sizeOf42 (res_tmp (res_tmp (res_nil rfl)))) trivial (fun W h=>ok_pre (H1:=[_,_]) (R1:=[]) h (fun W hφ=>hφ)) (.inr rfl)
  replace hm:=ite_f hm (of_decide_eq_false h196)
  refine c_skip<|d_then<|c_seq<|c_region<|g_v rfl r_move<|g_v rfl r_move<|g_v rfl (r_elemH (n:=1) Try.underlying81 Try.sizeOf3 rfl rfl (by decide) (by decide) rfl)<|g_storeL (tag:=100100) rfl rfl rfl rfl Try.sizeOf3 rfl rfl<|g_nil<|d_then ?_
  refine c_region<|g_v rfl r_move<|g_v rfl r_assign<|g_nil<|d_normal_block ?_
  exact d_round (x192,x191) hm Nat.zero_lt_one ⟨rfl,rfl,rfl,rfl,rfl,rfl,trivial⟩ (fun W h=>h.phi (fun W hφ=>hφ))
 unfold m_ref05_Get_j2 at hm
 refine d_flat [(0,.string p0),(4,.pointer (some ⟨g1,0,none⟩)),(7,.string x2),(8,.int .i64 i23),(10,.pointer (some ⟨g8,0,none⟩)),(11,.int .i64 1)] ⟨rfl,rfl,rfl,rfl,rfl,rfl,trivial⟩ (fun u=>?_)
 refine d_sta ⟨w0,M,(100100,g8,.cells #[.int .i64 i16,.int .i64 i24,.int .i64 0,.int .i64 0] 81 (0,0))::(100040,g1,.cells #[.string (⟨#[]⟩ : ByteArray),.int .u16 0,.int .u16 0,.int .u32 0,.string (⟨#[]⟩ : ByteArray)] 42 (0,0))::H,R,φ⟩ (fun _ h=>h)<|d_then<|c_region<|g_v rfl r_move<|g_v rfl (r_add rfl rfl (show IntKind.i64.wrap (1 + 1) = 2 by decide))<|g_v rfl r_assign<|g_nil<|d_rounds ?_
 refine c_flat [(0,.string p0),(4,.pointer (some ⟨g1,0,none⟩)),(7,.string x2),(8,.int .i64 i23),(10,.pointer (some ⟨g8,0,none⟩)),(11,.int .i64 2)] ⟨rfl,rfl,rfl,rfl,rfl,rfl,trivial⟩ (fun u=>?_)
 refine c_seq<|c_seq<|c_region<|g_v rfl r_move<|g_v rfl (r_lss rfl rfl)<|g_nil<|d_then<|c_cond1 rfl (by decide)<|c_skip<|d_then ?_
 refine c_seq ?_
 refine c_cut (ι:=Int×Int) [0,4,7,8,10,11] (fun ⟨i31,i32⟩=>[(8,.int .i64 i31)]) (fun ⟨i31,i32⟩=>⟨w0,M,(100100,g8,.cells #[.int .i64 i16,.int .i64 i24,.int .i64 i32,.int .i64 0] 81 (0,0))::(100040,g1,.cells #[.string (⟨#[]⟩ : ByteArray),.int .u16 0,.int .u16 0,.int .u32 0,.string (⟨#[]⟩ : ByteArray)] 42 (0,0))::H,R,φ⟩) (fun ⟨i31,i32⟩=>m_ref05_Get_j3 p0 i16 x2 i24 i31 i32 = some r) ?_ (fun ⟨i31,i32⟩ u hm=>?_)
 ·
  refine c_block<|c_seq<|c_region<|g_v rfl r_assign<|g_nil<|d_then<|c_seq ?_
  refine c_cut (ι:=Unit) [0,4,7,8,10,11,12] (fun _=>[(12,.int .i64 4)]) (fun _=>⟨w0,M,(100100,g8,.cells #[.int .i64 i16,.int .i64 i24,.int .i64 0,.int .i64 0] 81 (0,0))::(100040,g1,.cells #[.string (⟨#[]⟩ : ByteArray),.int .u16 0,.int .u16 0,.int .u32 0,.string (⟨#[]⟩ : ByteArray)] 42 (0,0))::H,R,φ⟩) (fun _=>m_ref05_Get_j9 p0 i23 i16 x2 i24 = some r) ?_ (fun _ u hm=>?_)
  ·
   refine c_seq<|c_region<|g_v rfl r_move<|g_v rfl (r_eql rfl rfl)<|g_nil<|d_then<|c_cond1 rfl (by decide)<|c_region<|g_v rfl r_assign<|g_nil ?_
   exact d_round () hm Nat.zero_lt_one ⟨rfl,rfl,rfl,rfl,rfl,rfl,rfl,trivial⟩ (fun W h=>h.phi (fun W hφ=>hφ))
  unfold m_ref05_Get_j9 at hm
  refine d_flat [(0,.string p0),(4,.pointer (some ⟨g1,0,none⟩)),(7,.string x2),(8,.int .i64 i23),(10,.pointer (some ⟨g8,0,none⟩)),(11,.int .i64 2),(12,.int .i64 4)] ⟨rfl,rfl,rfl,rfl,rfl,rfl,rfl,trivial⟩ (fun u=>?_)
  refine d_then<|c_seq<|c_region ?_
  iterate 3 refine g_v rfl r_move ?_
  replace hm:=bnd hm
  obtain ⟨⟨x185,x186,x187⟩,hx188,hm⟩:=hm
  refine g_cn ⟨w0,M,_,_,φ⟩ (fun _ h=>h) Try.call45 rfl rfl (c_ref04_Number p0 i23 4 _ hx188) (fun _ _=>?_)
  refine g_v rfl r_move ?_
  iterate 3 refine g_v rfl (r_extract rfl rfl) ?_
  iterate 3 refine g_v rfl r_assign ?_
  refine g_nil<|d_then ?_
  refine c_flat [(0,.string p0),(4,.pointer (some ⟨g1,0,none⟩)),(7,.string x2),(10,.pointer (some ⟨g8,0,none⟩)),(11,.int .i64 2),(13,.int .i64 x185),(14,.int .i64 x186),(15,.int .i64 x187)] ⟨rfl,rfl,rfl,rfl,rfl,rfl,rfl,rfl,trivial⟩ (fun u=>?_)
  refine c_seq<|c_seq<|c_region<|g_v rfl r_move<|g_v rfl (r_neq rfl rfl)<|g_nil<|d_then ?_
  refine c_cond rfl (fun h190=>?_) (fun h190=>?_)
  ·
   replace hm:=ite_t hm (of_decide_eq_true h190)
   refine c_seq<|c_region<|g_v rfl (r_build _ rfl (bld42_28))<|g_v rfl r_move<|g_storeL (tag:=100040) rfl rfl rfl rfl Try.sizeOf42 rfl rfl<|g_v rfl r_assign<|g_v rfl r_assign<|g_nil<|d_then<|c_ret ?_
   refine d_ret_then<|d_ret_block ?_
   iterate 3 refine d_ret_then ?_
   refine d_ret_block<|d_ret_then ?_
   cases hm
   exact d_retC () Try.results73 (res_agg (tag:=100040) rfl rfl Try.isAgg42 Try.sizeOf42 (res_tmp (res_tmp (res_nil rfl)))) trivial (fun W h=>ok_pre (H1:=[_,_]) (R1:=[]) h (fun W hφ=>hφ)) (.inr rfl)
  replace hm:=ite_f hm (of_decide_eq_false h190)
  refine c_skip<|d_then<|c_seq<|c_region<|g_v rfl r_move<|g_v rfl r_move<|g_v rfl (r_elemH (n:=2) Try.underlying81 Try.sizeOf3 rfl rfl (by decide) (by decide) rfl)<|g_storeL (tag:=100100) rfl rfl rfl rfl Try.sizeOf3 rfl rfl<|g_nil<|d_then ?_
  refine c_region<|g_v rfl r_move<|g_v rfl r_assign<|g_nil<|d_normal_block ?_
  exact d_round (x186,x185) hm Nat.zero_lt_one ⟨rfl,rfl,rfl,rfl,rfl,rfl,trivial⟩ (fun W h=>h.phi (fun W hφ=>hφ))
 unfold m_ref05_Get_j3 at hm
 refine d_flat [(0,.string p0),(4,.pointer (some ⟨g1,0,none⟩)),(7,.string x2),(8,.int .i64 i31),(10,.pointer (some ⟨g8,0,none⟩)),(11,.int .i64 2)] ⟨rfl,rfl,rfl,rfl,rfl,rfl,trivial⟩ (fun u=>?_)
 refine d_sta ⟨w0,M,(100100,g8,.cells #[.int .i64 i16,.int .i64 i24,.int .i64 i32,.int .i64 0] 81 (0,0))::(100040,g1,.cells #[.string (⟨#[]⟩ : ByteArray),.int .u16 0,.int .u16 0,.int .u32 0,.string (⟨#[]⟩ : ByteArray)] 42 (0,0))::H,R,φ⟩ (fun _ h=>h)<|d_then<|c_region<|g_v rfl r_move<|g_v rfl (r_add rfl rfl (show IntKind.i64.wrap (2 + 1) = 3 by decide))<|g_v rfl r_assign<|g_nil<|d_rounds ?_
 refine c_flat [(0,.string p0),(4,.pointer (some ⟨g1,0,none⟩)),(7,.string x2),(8,.int .i64 i31),(10,.pointer (some ⟨g8,0,none⟩)),(11,.int .i64 3)] ⟨rfl,rfl,rfl,rfl,rfl,rfl,trivial⟩ (fun u=>?_)
 refine c_seq<|c_seq<|c_region<|g_v rfl r_move<|g_v rfl (r_lss rfl rfl)<|g_nil<|d_then<|c_cond1 rfl (by decide)<|c_skip<|d_then ?_
 refine c_seq ?_
 refine c_cut (ι:=Int×Int) [0,4,7,8,10,11] (fun ⟨i39,i40⟩=>[(8,.int .i64 i39)]) (fun ⟨i39,i40⟩=>⟨w0,M,(100100,g8,.cells #[.int .i64 i16,.int .i64 i24,.int .i64 i32,.int .i64 i40] 81 (0,0))::(100040,g1,.cells #[.string (⟨#[]⟩ : ByteArray),.int .u16 0,.int .u16 0,.int .u32 0,.string (⟨#[]⟩ : ByteArray)] 42 (0,0))::H,R,φ⟩) (fun ⟨i39,i40⟩=>m_ref05_Get_j4 p0 i16 x2 i24 i32 i39 i40 = some r) ?_ (fun ⟨i39,i40⟩ u hm=>?_)
 ·
  refine c_block<|c_seq<|c_region<|g_v rfl r_assign<|g_nil<|d_then<|c_seq ?_
  refine c_cut (ι:=Unit) [0,4,7,8,10,11,12] (fun _=>[]) (fun _=>⟨w0,M,(100100,g8,.cells #[.int .i64 i16,.int .i64 i24,.int .i64 i32,.int .i64 0] 81 (0,0))::(100040,g1,.cells #[.string (⟨#[]⟩ : ByteArray),.int .u16 0,.int .u16 0,.int .u32 0,.string (⟨#[]⟩ : ByteArray)] 42 (0,0))::H,R,φ⟩) (fun _=>m_ref05_Get_j8 p0 i31 i16 x2 i24 i32 = some r) ?_ (fun _ u hm=>?_)
  ·
   refine c_seq<|c_region<|g_v rfl r_move<|g_v rfl (r_eql rfl rfl)<|g_nil<|d_then<|c_cond0 rfl (by decide)<|c_skip ?_
   exact d_round () hm Nat.zero_lt_one ⟨rfl,rfl,rfl,rfl,rfl,rfl,rfl,trivial⟩ (fun W h=>h.phi (fun W hφ=>hφ))
  unfold m_ref05_Get_j8 at hm
  refine d_flat [(0,.string p0),(4,.pointer (some ⟨g1,0,none⟩)),(7,.string x2),(8,.int .i64 i31),(10,.pointer (some ⟨g8,0,none⟩)),(11,.int .i64 3),(12,.int .i64 2)] ⟨rfl,rfl,rfl,rfl,rfl,rfl,rfl,trivial⟩ (fun u=>?_)
  refine d_then<|c_seq<|c_region ?_
  iterate 3 refine g_v rfl r_move ?_
  replace hm:=bnd hm
  obtain ⟨⟨x179,x180,x181⟩,hx182,hm⟩:=hm
  refine g_cn ⟨w0,M,_,_,φ⟩ (fun _ h=>h) Try.call45 rfl rfl (c_ref04_Number p0 i31 2 _ hx182) (fun _ _=>?_)
  refine g_v rfl r_move ?_
  iterate 3 refine g_v rfl (r_extract rfl rfl) ?_
  iterate 3 refine g_v rfl r_assign ?_
  refine g_nil<|d_then ?_
  refine c_flat [(0,.string p0),(4,.pointer (some ⟨g1,0,none⟩)),(7,.string x2),(10,.pointer (some ⟨g8,0,none⟩)),(11,.int .i64 3),(13,.int .i64 x179),(14,.int .i64 x180),(15,.int .i64 x181)] ⟨rfl,rfl,rfl,rfl,rfl,rfl,rfl,rfl,trivial⟩ (fun u=>?_)
  refine c_seq<|c_seq<|c_region<|g_v rfl r_move<|g_v rfl (r_neq rfl rfl)<|g_nil<|d_then ?_
  refine c_cond rfl (fun h184=>?_) (fun h184=>?_)
  ·
   replace hm:=ite_t hm (of_decide_eq_true h184)
   refine c_seq<|c_region<|g_v rfl (r_build _ rfl (bld42_28))<|g_v rfl r_move<|g_storeL (tag:=100040) rfl rfl rfl rfl Try.sizeOf42 rfl rfl<|g_v rfl r_assign<|g_v rfl r_assign<|g_nil<|d_then<|c_ret ?_
   refine d_ret_then<|d_ret_block ?_
   iterate 3 refine d_ret_then ?_
   refine d_ret_block<|d_ret_then ?_
   cases hm
   exact d_retC () Try.results73 (res_agg (tag:=100040) rfl rfl Try.isAgg42 Try.sizeOf42 (res_tmp (res_tmp (res_nil rfl)))) trivial (fun W h=>ok_pre (H1:=[_,_]) (R1:=[]) h (fun W hφ=>hφ)) (.inr rfl)
  replace hm:=ite_f hm (of_decide_eq_false h184)
  refine c_skip<|d_then<|c_seq<|c_region<|g_v rfl r_move<|g_v rfl r_move<|g_v rfl (r_elemH (n:=3) Try.underlying81 Try.sizeOf3 rfl rfl (by decide) (by decide) rfl)<|g_storeL (tag:=100100) rfl rfl rfl rfl Try.sizeOf3 rfl rfl<|g_nil<|d_then ?_
  refine c_region<|g_v rfl r_move<|g_v rfl r_assign<|g_nil<|d_normal_block ?_
  exact d_round (x180,x179) hm Nat.zero_lt_one ⟨rfl,rfl,rfl,rfl,rfl,rfl,trivial⟩ (fun W h=>h.phi (fun W hφ=>hφ))
 unfold m_ref05_Get_j4 at hm
 refine d_flat [(0,.string p0),(4,.pointer (some ⟨g1,0,none⟩)),(7,.string x2),(8,.int .i64 i39),(10,.pointer (some ⟨g8,0,none⟩)),(11,.int .i64 3)] ⟨rfl,rfl,rfl,rfl,rfl,rfl,trivial⟩ (fun u=>?_)
 refine d_sta ⟨w0,M,(100100,g8,.cells #[.int .i64 i16,.int .i64 i24,.int .i64 i32,.int .i64 i40] 81 (0,0))::(100040,g1,.cells #[.string (⟨#[]⟩ : ByteArray),.int .u16 0,.int .u16 0,.int .u32 0,.string (⟨#[]⟩ : ByteArray)] 42 (0,0))::H,R,φ⟩ (fun _ h=>h)<|d_then<|c_region<|g_v rfl r_move<|g_v rfl (r_add rfl rfl (show IntKind.i64.wrap (3 + 1) = 4 by decide))<|g_v rfl r_assign<|g_nil<|d_rounds ?_
 refine c_flat [(0,.string p0),(4,.pointer (some ⟨g1,0,none⟩)),(7,.string x2),(8,.int .i64 i39),(10,.pointer (some ⟨g8,0,none⟩)),(11,.int .i64 4)] ⟨rfl,rfl,rfl,rfl,rfl,rfl,trivial⟩ (fun u=>?_)
 refine c_seq<|c_seq<|c_region<|g_v rfl r_move<|g_v rfl (r_lss rfl rfl)<|g_nil<|d_then<|c_cond0 rfl (by decide)<|c_exit<|d_exit_then ?_
 refine d_exit_then<|d_exit_block<|d_then<|c_seq<|c_region<|g_v rfl r_move<|g_v rfl r_move<|g_v rfl (r_elemH (n:=3) Try.underlying81 Try.sizeOf3 rfl rfl (by decide) (by decide) rfl)<|g_v rfl (r_load (tag:=100100) rfl rfl rfl Try.isAgg3) ?_
 replace hm:=bnd hm
 obtain ⟨⟨x41,x42,x43⟩,hx44,hm⟩:=hm
 refine g_cn ⟨w0,M,_,_,φ⟩ (fun _ h=>h) Try.call71 rfl rfl (c_ref04_Raw p0 i39 i40 _ hx44) (fun _ _=>?_)
 refine g_v rfl r_move ?_
 iterate 3 refine g_v rfl (r_extract rfl rfl) ?_
 iterate 3 refine g_v rfl r_assign ?_
 refine g_nil<|d_then ?_
 refine c_flat [(0,.string p0),(4,.pointer (some ⟨g1,0,none⟩)),(7,.string x2),(8,.int .i64 i39),(10,.pointer (some ⟨g8,0,none⟩)),(16,.string x41),(17,.int .i64 x42),(18,.int .i64 x43)] ⟨rfl,rfl,rfl,rfl,rfl,rfl,rfl,rfl,trivial⟩ (fun u=>?_)
 refine c_seq<|c_seq<|c_region<|g_v rfl r_move<|g_v rfl (r_neq rfl rfl)<|g_nil<|d_then ?_
 refine c_cond rfl (fun h46=>?_) (fun h46=>?_)
 ·
  replace hm:=ite_t hm (of_decide_eq_true h46)
  refine c_seq<|c_region<|g_v rfl (r_build _ rfl (bld42_28))<|g_v rfl r_move<|g_storeL (tag:=100040) rfl rfl rfl rfl Try.sizeOf42 rfl rfl<|g_v rfl r_assign<|g_v rfl r_assign<|g_nil<|d_then<|c_ret ?_
  refine d_ret_then ?_
  cases hm
  exact d_retC () Try.results73 (res_agg (tag:=100040) rfl rfl Try.isAgg42 Try.sizeOf42 (res_tmp (res_tmp (res_nil rfl)))) trivial (fun W h=>ok_pre (H1:=[_,_]) (R1:=[]) h (fun W hφ=>hφ)) (.inr rfl)
 replace hm:=ite_f hm (of_decide_eq_false h46)
 refine c_skip<|d_then<|c_seq<|c_region<|g_v rfl r_move<|g_v rfl (r_elemH (n:=0) Try.underlying81 Try.sizeOf3 rfl rfl (by decide) (by decide) rfl)<|g_v rfl (r_load (tag:=100100) rfl rfl rfl Try.isAgg3)<|g_v rfl (r_conv Try.underlying3 Try.underlying22 rfl rfl)<|g_v rfl (r_elemH (n:=1) Try.underlying81 Try.sizeOf3 rfl rfl (by decide) (by decide) rfl)<|g_v rfl (r_load (tag:=100100) rfl rfl rfl Try.isAgg3) ?_
 refine g_v rfl (r_conv Try.underlying3 Try.underlying22 rfl rfl)<|g_v rfl (r_elemH (n:=2) Try.underlying81 Try.sizeOf3 rfl rfl (by decide) (by decide) rfl)<|g_v rfl (r_load (tag:=100100) rfl rfl rfl Try.isAgg3)<|g_v rfl (r_conv Try.underlying3 Try.underlying40 rfl rfl)<|g_v rfl r_move<|g_v rfl (r_build _ rfl (bld42_1 _ _ _ _ _)) ?_
 refine g_e rfl (e_alloc 100190 Try.zeroValue42) (fun g47 _=>?_)
 refine g_storeL (tag:=100190) rfl rfl rfl rfl Try.sizeOf42 rfl rfl<|g_nil<|d_then ?_
 refine c_flat [(0,.string p0),(4,.pointer (some ⟨g1,0,none⟩)),(8,.int .i64 i39),(17,.int .i64 x42),(19,.pointer (some ⟨g47,0,none⟩))] ⟨rfl,rfl,rfl,rfl,rfl,trivial⟩ (fun u=>?_)
 refine c_sta ⟨w0,M,(100190,g47,.cells #[.string x2,.int .u16 (IntKind.u16.wrap i16),.int .u16 (IntKind.u16.wrap i24),.int .u32 (IntKind.u32.wrap i32),.string x41] 42 (0,0))::(100100,g8,.cells #[.int .i64 i16,.int .i64 i24,.int .i64 i32,.int .i64 i40] 81 (0,0))::(100040,g1,.cells #[.string (⟨#[]⟩ : ByteArray),.int .u16 0,.int .u16 0,.int .u32 0,.string (⟨#[]⟩ : ByteArray)] 42 (0,0))::H,R,φ⟩ (fun _ h=>h)<|c_seq<|c_region<|g_v rfl (r_field (n:=1) Try.underlying42 rfl Try.sizeOf22 rfl rfl)<|g_v rfl (r_load (tag:=100190) rfl rfl rfl Try.isAgg22) ?_
 replace hm:=bnd hm
 obtain ⟨⟨x48,x49,x50,x51⟩,hx52,hm⟩:=hm
 refine g_cn ⟨w0,M,_,_,φ⟩ (fun _ h=>h) Try.call97 rfl rfl (c_ref05_head (IntKind.u16.wrap i16) _ hx52) (fun _ _=>?_)
 refine g_v rfl r_move ?_
 iterate 4 refine g_v rfl (r_extract rfl rfl) ?_
 iterate 4 refine g_v rfl r_assign ?_
 refine g_nil<|d_then ?_
 refine c_flat [(0,.string p0),(4,.pointer (some ⟨g1,0,none⟩)),(8,.int .i64 i39),(17,.int .i64 x42),(19,.pointer (some ⟨g47,0,none⟩)),(20,.int .i64 x48),(21,.int .i64 x49),(22,.int .i64 x50),(23,.bool x51)] ⟨rfl,rfl,rfl,rfl,rfl,rfl,rfl,rfl,rfl,trivial⟩ (fun u=>?_)
 refine c_seq ?_
 refine c_cut (ι:=ByteArray) [4,17,19] (fun s97=>[]) (fun s97=>⟨w0,M,(100190,g47,.cells #[.string x2,.int .u16 (IntKind.u16.wrap i16),.int .u16 (IntKind.u16.wrap i24),.int .u32 (IntKind.u32.wrap i32),.string s97] 42 (0,0))::(100040,g1,.cells #[.string (⟨#[]⟩ : ByteArray),.int .u16 0,.int .u16 0,.int .u32 0,.string (⟨#[]⟩ : ByteArray)] 42 (0,0))::H,R,φ⟩) (fun s97=>m_ref05_Get_j5 x2 i16 i24 i32 x42 s97 = some r) ?_ (fun s97 u hm=>?_)
 ·
  refine c_seq<|c_region<|g_v rfl r_move<|g_nil<|d_then ?_
  refine c_cond rfl (fun h101=>?_) (fun h101=>?_)
  ·
   replace hm:=ite_t hm h101
   refine c_seq<|c_region ?_
   iterate 3 refine g_v rfl r_move ?_
   replace hm:=bnd hm
   obtain ⟨⟨x102,x103,x104⟩,hx105,hm⟩:=hm
   refine g_cn ⟨w0,M,_,_,φ⟩ (fun _ h=>h) Try.call71 rfl rfl (c_ref04_Raw p0 i39 x48 _ hx105) (fun _ _=>?_)
   refine g_v rfl r_move ?_
   iterate 3 refine g_v rfl (r_extract rfl rfl) ?_
   iterate 3 refine g_v rfl r_assign ?_
   refine g_nil<|d_then ?_
   refine c_flat [(0,.string p0),(4,.pointer (some ⟨g1,0,none⟩)),(17,.int .i64 x42),(19,.pointer (some ⟨g47,0,none⟩)),(21,.int .i64 x49),(22,.int .i64 x50),(24,.string x102),(25,.int .i64 x103),(26,.int .i64 x104)] ⟨rfl,rfl,rfl,rfl,rfl,rfl,rfl,rfl,rfl,trivial⟩ (fun u=>?_)
   refine c_seq<|c_seq<|c_region<|g_v rfl r_move<|g_v rfl (r_neq rfl rfl)<|g_nil<|d_then ?_
   refine c_cond rfl (fun h107=>?_) (fun h107=>?_)
   ·
    replace hm:=ite_t hm (of_decide_eq_true h107)
    refine c_seq<|c_region<|g_v rfl (r_build _ rfl (bld42_28))<|g_v rfl r_move<|g_storeL (tag:=100040) rfl rfl rfl rfl Try.sizeOf42 rfl rfl<|g_v rfl r_assign<|g_v rfl r_assign<|g_nil<|d_then<|c_ret ?_
    iterate 3 refine d_ret_then ?_
    cases hm
    exact d_retC () Try.results73 (res_agg (tag:=100040) rfl rfl Try.isAgg42 Try.sizeOf42 (res_tmp (res_tmp (res_nil rfl)))) trivial (fun W h=>ok_pre (H1:=[_,_,_]) (R1:=[]) h (fun W hφ=>hφ)) (.inr rfl)
   replace hm:=ite_f hm (of_decide_eq_false h107)
   refine c_skip<|d_then<|c_seq<|c_seq<|c_region<|g_v rfl r_assign<|g_nil<|d_then ?_
   refine c_cut (ι:=ByteArray×Int) [0,4,17,19,22,24,25] (fun ⟨s134,i135⟩=>[(24,.string s134),(25,.int .i64 i135)]) (fun ⟨s134,i135⟩=>⟨w0,M,(100190,g47,.cells #[.string x2,.int .u16 (IntKind.u16.wrap i16),.int .u16 (IntKind.u16.wrap i24),.int .u32 (IntKind.u32.wrap i32),.string x41] 42 (0,0))::(100040,g1,.cells #[.string (⟨#[]⟩ : ByteArray),.int .u16 0,.int .u16 0,.int .u32 0,.string (⟨#[]⟩ : ByteArray)] 42 (0,0))::H,R,φ⟩) (fun ⟨s134,i135⟩=>m_ref05_Get_j6 p0 x50 x42 x2 i16 i24 i32 s134 i135 = some r) ?_ (fun ⟨s134,i135⟩ u hm=>?_)
   ·
    refine c_block ?_
    replace hm:=bnd hm
    obtain ⟨out7,hl7,hr7⟩:=hm
    obtain ⟨n169',hl7⟩:=loop_lp hl7
    refine c_loopU (ι:=Nat×ByteArray×Int×Int) [0,4,17,19,21,22,24,25,27] (fun ⟨n169,s155,i156,i157⟩=>[(24,.string s155),(25,.int .i64 i156),(27,.int .i64 i157)]) (fun ⟨n169,s155,i156,i157⟩=>⟨w0,M,(100190,g47,.cells #[.string x2,.int .u16 (IntKind.u16.wrap i16),.int .u16 (IntKind.u16.wrap i24),.int .u32 (IntKind.u32.wrap i32),.string x41] 42 (0,0))::(100040,g1,.cells #[.string (⟨#[]⟩ : ByteArray),.int .u16 0,.int .u16 0,.int .u32 0,.string (⟨#[]⟩ : ByteArray)] 42 (0,0))::H,R,φ⟩) (fun ⟨n169,s155,i156,i157⟩=>Lp (fun s=>m_ref05_Get_s7 x49 p0 s.1 s.2.1 s.2.2) n169 (s155,i156,i157) out7) (fun ⟨n169,s155,i156,i157⟩=>n169) (n169',x102,x103,0) hl7 ⟨rfl,rfl,rfl,rfl,rfl,rfl,rfl,rfl,rfl,trivial⟩ (fun W h=>(h.dropH (t:=100100) rfl).phi (fun W hφ=>hφ)) (fun ⟨n169,s155,i156,i157⟩ u hlp=>?_)
    obtain ⟨o7,hm,hnx7⟩:=lp_step hlp
    clear hlp
    replace hm : m_ref05_Get_s7 x49 p0 s155 i156 i157 = some o7:=hm
    unfold m_ref05_Get_s7 at hm
    refine c_flat [(0,.string p0),(4,.pointer (some ⟨g1,0,none⟩)),(17,.int .i64 x42),(19,.pointer (some ⟨g47,0,none⟩)),(21,.int .i64 x49),(22,.int .i64 x50),(24,.string s155),(25,.int .i64 i156),(27,.int .i64 i157)] ⟨rfl,rfl,rfl,rfl,rfl,rfl,rfl,rfl,rfl,trivial⟩ (fun u=>?_)
    refine c_sta ⟨w0,M,(100190,g47,.cells #[.string x2,.int .u16 (IntKind.u16.wrap i16),.int .u16 (IntKind.u16.wrap i24),.int .u32 (IntKind.u32.wrap i32),.string x41] 42 (0,0))::(100040,g1,.cells #[.string (⟨#[]⟩ : ByteArray),.int .u16 0,.int .u16 0,.int .u32 0,.string (⟨#[]⟩ : ByteArray)] 42 (0,0))::H,R,φ⟩ (fun _ h=>h)<|c_seq<|c_seq<|c_region<|g_v rfl r_move<|g_v rfl r_move<|g_v rfl (r_lss rfl rfl)<|g_nil<|d_then ?_
    refine c_cond rfl (fun h170=>?_) (fun h170=>?_)
    ·
     replace hm:=ite_t hm (of_decide_eq_true h170)
     refine c_skip<|d_then<|c_seq<|c_block<|c_seq<|c_region<|g_v rfl r_move<|g_v rfl r_move ?_
     replace hm:=bnd hm
     obtain ⟨⟨x171,x172,x173⟩,hx174,hm⟩:=hm
     refine g_cn ⟨w0,M,_,_,φ⟩ (fun _ h=>h) Try.call46 rfl rfl (c_ref04_Name p0 i156 _ hx174) (fun _ _=>?_)
     refine g_v rfl r_move ?_
     iterate 3 refine g_v rfl (r_extract rfl rfl) ?_
     iterate 3 refine g_v rfl r_assign ?_
     refine g_nil<|d_then ?_
     refine c_flat [(0,.string p0),(4,.pointer (some ⟨g1,0,none⟩)),(17,.int .i64 x42),(19,.pointer (some ⟨g47,0,none⟩)),(21,.int .i64 x49),(22,.int .i64 x50),(24,.string s155),(27,.int .i64 i157),(28,.string x171),(29,.int .i64 x172),(30,.int .i64 x173)] ⟨rfl,rfl,rfl,rfl,rfl,rfl,rfl,rfl,rfl,rfl,rfl,trivial⟩ (fun u=>?_)
     refine c_seq<|c_seq<|c_region<|g_v rfl r_move<|g_v rfl (r_neq rfl rfl)<|g_nil<|d_then ?_
     refine c_cond rfl (fun h176=>?_) (fun h176=>?_)
     ·
      replace hm:=ite_t hm (of_decide_eq_true h176)
      refine c_seq<|c_region<|g_v rfl (r_build _ rfl (bld42_28))<|g_v rfl r_move<|g_storeL (tag:=100040) rfl rfl rfl rfl Try.sizeOf42 rfl rfl<|g_v rfl r_assign<|g_v rfl r_assign<|g_nil<|d_then<|c_ret ?_
      refine d_ret_then<|d_ret_block<|d_ret_then<|d_ret_then<|d_ret_block ?_
      iterate 4 refine d_ret_then ?_
      replace hm:=nx_out (C:=(fun e : (ByteArray×Int) ⊕ (GRR×Int×Int)=>Sum.elim (fun e=>m_ref05_Get_j6 p0 x50 x42 x2 i16 i24 i32 e.1 e.2) (fun x=>some x) e = some r)) hm hnx7 hr7
      replace hm : some ((⟨(⟨#[]⟩ : ByteArray),0,0,0,(⟨#[]⟩ : ByteArray)⟩ : GRR),0,x173) = some r:=hm
      cases hm
      exact d_retC () Try.results73 (res_agg (tag:=100040) rfl rfl Try.isAgg42 Try.sizeOf42 (res_tmp (res_tmp (res_nil rfl)))) trivial (fun W h=>ok_pre (H1:=[_,_]) (R1:=[]) h (fun W hφ=>hφ)) (.inr rfl)
     replace hm:=ite_f hm (of_decide_eq_false h176)
     refine c_skip<|d_then<|c_seq<|c_region<|g_v rfl r_move<|g_v rfl r_move ?_
     replace hm:=bnd hm
     obtain ⟨s177,hs177,hm⟩:=hm
     refine g_v rfl (r_addT rfl rfl hs177)<|g_v rfl r_assign<|g_nil<|d_then<|c_region<|g_v rfl r_move<|g_v rfl r_assign<|g_nil<|d_normal_block<|d_then ?_
     refine c_region<|g_v rfl r_move<|g_v rfl (r_add rfl rfl rfl)<|g_v rfl r_assign<|g_nil ?_
     obtain ⟨n178,hn178,hlp⟩:=nx_inl hm hnx7
     exact d_round (n178,s177,x172,w64 (i157 + 1)) hlp hn178 ⟨rfl,rfl,rfl,rfl,rfl,rfl,rfl,rfl,rfl,trivial⟩ (fun W h=>h.phi (fun W hφ=>hφ))
    replace hm:=ite_f hm (of_decide_eq_false h170)
    refine c_exit<|d_exit_then<|d_exit_then<|d_exit_block ?_
    replace hm:=nx_out (C:=(fun e : (ByteArray×Int) ⊕ (GRR×Int×Int)=>Sum.elim (fun e=>m_ref05_Get_j6 p0 x50 x42 x2 i16 i24 i32 e.1 e.2) (fun x=>some x) e = some r)) hm hnx7 hr7
    exact d_round (s155,i156) hm Nat.zero_lt_one ⟨rfl,rfl,rfl,rfl,rfl,rfl,rfl,trivial⟩ (fun W h=>h.phi (fun W hφ=>hφ))
   unfold m_ref05_Get_j6 at hm
   refine d_flat [(0,.string p0),(4,.pointer (some ⟨g1,0,none⟩)),(17,.int .i64 x42),(19,.pointer (some ⟨g47,0,none⟩)),(22,.int .i64 x50),(24,.string s134),(25,.int .i64 i135)] ⟨rfl,rfl,rfl,rfl,rfl,rfl,rfl,trivial⟩ (fun u=>?_)
   refine d_sta ⟨w0,M,(100190,g47,.cells #[.string x2,.int .u16 (IntKind.u16.wrap i16),.int .u16 (IntKind.u16.wrap i24),.int .u32 (IntKind.u32.wrap i32),.string x41] 42 (0,0))::(100040,g1,.cells #[.string (⟨#[]⟩ : ByteArray),.int .u16 0,.int .u16 0,.int .u32 0,.string (⟨#[]⟩ : ByteArray)] 42 (0,0))::H,R,φ⟩ (fun _ h=>h)<|d_then<|c_seq<|c_region ?_
   iterate 3 refine g_v rfl r_move ?_
   replace hm:=bnd hm
   obtain ⟨⟨x136,x137,x138⟩,hx139,hm⟩:=hm
   refine g_cn ⟨w0,M,_,_,φ⟩ (fun _ h=>h) Try.call71 rfl rfl (c_ref04_Raw p0 i135 x50 _ hx139) (fun _ _=>?_)
   refine g_v rfl r_move ?_
   iterate 3 refine g_v rfl (r_extract rfl rfl) ?_
   iterate 3 refine g_v rfl r_assign ?_
   refine g_nil<|d_then ?_
   refine c_flat [(4,.pointer (some ⟨g1,0,none⟩)),(17,.int .i64 x42),(19,.pointer (some ⟨g47,0,none⟩)),(24,.string s134),(26,.int .i64 x138),(31,.string x136),(32,.int .i64 x137)] ⟨rfl,rfl,rfl,rfl,rfl,rfl,rfl,trivial⟩ (fun u=>?_)
   refine c_seq<|c_seq<|c_region<|g_v rfl r_move<|g_v rfl (r_neq rfl rfl)<|g_nil<|d_then ?_
   refine c_cond rfl (fun h141=>?_) (fun h141=>?_)
   ·
    replace hm:=ite_t hm (of_decide_eq_true h141)
    refine c_seq<|c_region<|g_v rfl (r_build _ rfl (bld42_28))<|g_v rfl r_move<|g_storeL (tag:=100040) rfl rfl rfl rfl Try.sizeOf42 rfl rfl<|g_v rfl r_assign<|g_v rfl r_assign<|g_nil<|d_then<|c_ret ?_
    iterate 3 refine d_ret_then ?_
    cases hm
    exact d_retC () Try.results73 (res_agg (tag:=100040) rfl rfl Try.isAgg42 Try.sizeOf42 (res_tmp (res_tmp (res_nil rfl)))) trivial (fun W h=>ok_pre (H1:=[_,_]) (R1:=[]) h (fun W hφ=>hφ)) (.inr rfl)
   replace hm:=ite_f hm (of_decide_eq_false h141)
   refine c_skip<|d_then<|c_seq<|c_seq<|c_region<|g_v rfl r_move<|g_v rfl r_move<|g_v rfl (r_neq rfl rfl)<|g_nil<|d_then ?_
   refine c_cond rfl (fun h142=>?_) (fun h142=>?_)
   ·
    replace hm:=ite_t hm (of_decide_eq_true h142)
    refine c_seq<|c_region<|g_v rfl (r_build _ rfl (bld42_28))<|g_storeL (tag:=100040) rfl rfl rfl rfl Try.sizeOf42 rfl rfl<|g_v rfl r_assign<|g_v rfl r_assign<|g_nil<|d_then ?_
    refine c_flat [(4,.pointer (some ⟨g1,0,none⟩)),(5,.int .i64 0),(6,.int .i64 10)] ⟨rfl,rfl,rfl,trivial⟩ (fun u=>?_)
    refine c_ret ?_
    iterate 3 refine d_ret_then ?_
    cases hm
    exact d_retC () Try.results73 (res_agg (tag:=100040) rfl rfl Try.isAgg42 Try.sizeOf42 (res_tmp (res_tmp (res_nil rfl)))) trivial (fun W h=>ok_pre (H1:=[_,_]) (R1:=[]) h (fun W hφ=>hφ)) (.inr rfl)
   replace hm:=ite_f hm (of_decide_eq_false h142)
   refine c_skip<|d_then<|c_region<|g_v rfl r_move<|g_v rfl r_move ?_
   replace hm:=bnd hm
   obtain ⟨s143,hs143,hm⟩:=hm
   refine g_v rfl (r_addT rfl rfl hs143)<|g_v rfl (r_field (n:=4) Try.underlying42 rfl Try.sizeOf9 rfl rfl)<|g_storeL (tag:=100190) rfl rfl rfl rfl Try.sizeOf9 rfl rfl<|g_nil ?_
   exact d_round s143 hm Nat.zero_lt_one ⟨rfl,rfl,rfl,trivial⟩ (fun W h=>h.phi (fun W hφ=>hφ))
  replace hm:=ite_f hm (bool_nt h101)
  refine c_skip ?_
  exact d_round x41 hm Nat.zero_lt_one ⟨rfl,rfl,rfl,trivial⟩ (fun W h=>(h.dropH (t:=100100) rfl).phi (fun W hφ=>hφ))
 unfold m_ref05_Get_j5 at hm
 refine d_flat [(4,.pointer (some ⟨g1,0,none⟩)),(17,.int .i64 x42),(19,.pointer (some ⟨g47,0,none⟩))] ⟨rfl,rfl,rfl,trivial⟩ (fun u=>?_)
 refine d_sta ⟨w0,M,(100190,g47,.cells #[.string x2,.int .u16 (IntKind.u16.wrap i16),.int .u16 (IntKind.u16.wrap i24),.int .u32 (IntKind.u32.wrap i32),.string s97] 42 (0,0))::(100040,g1,.cells #[.string (⟨#[]⟩ : ByteArray),.int .u16 0,.int .u16 0,.int .u32 0,.string (⟨#[]⟩ : ByteArray)] 42 (0,0))::H,R,φ⟩ (fun _ h=>h)<|d_then<|c_seq<|c_region<|g_v rfl (r_loadA (tag:=100190) rfl rfl Try.isAgg42 Try.sizeOf42 rfl rfl) ?_
 replace hm:=bnd hm
 obtain ⟨x98,hx99,hm⟩:=hm
 refine g_cn ⟨w0,M,_,_,φ⟩ (fun _ h=>h) Try.call98 rfl rfl (c_ref05_Check (⟨x2,IntKind.u16.wrap i16,IntKind.u16.wrap i24,IntKind.u32.wrap i32,s97⟩ : GRR) _ hx99) (fun _ _=>?_)
 refine g_v rfl r_assign<|g_nil<|d_then<|c_seq<|c_seq<|c_region<|g_v rfl r_move<|g_v rfl (r_neq rfl rfl)<|g_nil<|d_then ?_
 refine c_cond rfl (fun h100=>?_) (fun h100=>?_)
 ·
  replace hm:=ite_t hm (of_decide_eq_true h100)
  refine c_seq<|c_region<|g_v rfl (r_build _ rfl (bld42_28))<|g_v rfl r_move<|g_storeL (tag:=100040) rfl rfl rfl rfl Try.sizeOf42 rfl rfl<|g_v rfl r_assign<|g_v rfl r_assign<|g_nil<|d_then ?_
  refine c_flat [(4,.pointer (some ⟨g1,0,none⟩)),(5,.int .i64 0),(6,.int .i64 x98)] ⟨rfl,rfl,rfl,trivial⟩ (fun u=>?_)
  refine c_ret<|d_ret_then ?_
  cases hm
  exact d_retC () Try.results73 (res_agg (tag:=100040) rfl rfl Try.isAgg42 Try.sizeOf42 (res_tmp (res_tmp (res_nil rfl)))) trivial (fun W h=>ok_pre (H1:=[_,_]) (R1:=[]) h (fun W hφ=>hφ)) (.inr rfl)
 replace hm:=ite_f hm (of_decide_eq_false h100)
 refine c_skip<|d_then<|c_seq<|c_region<|g_v rfl (r_loadA (tag:=100190) rfl rfl Try.isAgg42 Try.sizeOf42 rfl rfl)<|g_v rfl r_move<|g_storeL (tag:=100040) rfl rfl rfl rfl Try.sizeOf42 rfl rfl<|g_v rfl r_assign<|g_v rfl r_assign<|g_nil ?_
 refine d_then ?_
 refine c_flat [(4,.pointer (some ⟨g1,0,none⟩)),(5,.int .i64 x42),(6,.int .i64 0)] ⟨rfl,rfl,rfl,trivial⟩ (fun u=>?_)
 refine c_sta ⟨w0,M,(100190,g47,.cells #[.string x2,.int .u16 (IntKind.u16.wrap i16),.int .u16 (IntKind.u16.wrap i24),.int .u32 (IntKind.u32.wrap i32),.string s97] 42 (0,0))::(100040,g1,.cells #[.string x2,.int .u16 (IntKind.u16.wrap i16),.int .u16 (IntKind.u16.wrap i24),.int .u32 (IntKind.u32.wrap i32),.string s97] 42 (0,0))::H,R,φ⟩ (fun _ h=>h)<|c_ret ?_
 cases hm
 exact d_retC () Try.results73 (res_agg (tag:=100040) rfl rfl Try.isAgg42 Try.sizeOf42 (res_tmp (res_tmp (res_nil rfl)))) trivial (fun W h=>ok_pre (H1:=[_,_]) (R1:=[]) h (fun W hφ=>hφ)) (.inr rfl)
noncomputable def m_ref06_records_j1  (l95 : List GRR) (i98 : Int) : Option ((List GRR)×Int×Int):=
  some (l95,i98,0)
noncomputable def m_ref06_records_s2 (p2 : Int) (p0 : ByteArray) (l116 : List GRR) (i119 : Int) (i120 : Int) : Option (((List GRR)×Int×Int) ⊕ (((List GRR)×Int) ⊕ ((List GRR)×Int×Int))):=
  if i120 < p2 then
    (m_ref05_Get p0 i119).bind fun (z144 : GRR×Int×Int)=>
    if z144.2.2 ≠ 0 then
      some (.inr (.inr (([] : List GRR),0,z144.2.2)))
    else
      (app 40 l116 [z144.1]).bind fun l148=>
      some (.inl (l148,z144.2.1,w64 (i120 + 1)))
  else
    some (.inr (.inl (l116,i119)))
noncomputable def m_ref06_records (p0 : ByteArray) (p1 : Int) (p2 : Int) : Option ((List GRR)×Int×Int):=
  (loop (fun s=>m_ref06_records_s2 p2 p0 s.1 s.2.1 s.2.2) (([] : List GRR),p1,0)).bind fun e=>Sum.elim (fun e=>m_ref06_records_j1 e.1 e.2) (fun x=>some x) e
theorem c_ref06_records {w0 : World} {M : Nat→Prop} {H : List (Nat×Nat×Obj)} {R : List (Nat×Row)} {φ : World→Prop} (p0 : ByteArray) (p1 : Int) (p2 : Int) (r : (List GRR)×Int×Int) (hm : m_ref06_records p0 p1 p2 = some r) :
    Cn Try.prog 47 #[.string p0,.int .i64 p1,.int .i64 p2] ⟨w0,M,H,R,φ⟩ (fun x : Option Addr×Nat=>.tuple #[.slice x.1 r.1.length x.2,.int .i64 r.2.1,.int .i64 r.2.2]) (fun x=>r.1.length ≤ x.2) (fun x=>⟨w0,M,H,(2000,⟨.slice x.1 r.1.length x.2,42,5,r.1.length,r.1.flatMap GRR.enc⟩)::R,φ⟩):=by
 unfold m_ref06_records at hm
 refine cn_intro (fn:=Try.f47) (N:=36) Try.func47 rfl Try.ntmps47 rfl<|c_seq<|c_region ?_
 iterate 3 refine g_v rfl r_assign ?_
 refine g_nil<|d_then<|c_seq<|c_region<|g_v rfl r_assign<|g_nil<|d_then<|c_seq<|c_seq<|c_region ?_
 refine g_v rfl r_assign<|g_nil<|d_then<|c_sta _ (fun W h=>nilR h 16 42 5) ?_
 refine c_cut (ι:=(List GRR)×Int×Option Addr×Nat) [1,9] (fun ⟨l95,i98,A96,c97⟩=>[(1,.int .i64 i98),(9,.slice A96 l95.length c97)]) (fun ⟨l95,i98,A96,c97⟩=>⟨w0,M,H,(16,⟨.slice A96 l95.length c97,42,5,l95.length,l95.flatMap GRR.enc⟩)::R,φ⟩) (fun ⟨l95,i98,A96,c97⟩=>m_ref06_records_j1 l95 i98 = some r∧l95.length ≤ c97) ?_ (fun ⟨l95,i98,A96,c97⟩ u ⟨hm,hc97⟩=>?_)
 ·
  refine c_block ?_
  replace hm:=bnd hm
  obtain ⟨out2,hl2,hr2⟩:=hm
  obtain ⟨n138',hl2⟩:=loop_lp hl2
  refine c_loopU (ι:=Nat×(List GRR)×Int×Int×Option Addr×Nat) [0,1,2,9,10] (fun ⟨n138,l116,i119,i120,A117,c118⟩=>[(1,.int .i64 i119),(9,.slice A117 l116.length c118),(10,.int .i64 i120)]) (fun ⟨n138,l116,i119,i120,A117,c118⟩=>⟨w0,M,H,(16,⟨.slice A117 l116.length c118,42,5,l116.length,l116.flatMap GRR.enc⟩)::R,φ⟩) (fun ⟨n138,l116,i119,i120,A117,c118⟩=>Lp (fun s=>m_ref06_records_s2 p2 p0 s.1 s.2.1 s.2.2) n138 (l116,i119,i120) out2∧l116.length ≤ c118) (fun ⟨n138,l116,i119,i120,A117,c118⟩=>n138) (n138',([] : List GRR),p1,0,none,0) ⟨hl2,(Nat.le_refl 0)⟩ ⟨rfl,rfl,rfl,rfl,rfl,trivial⟩ (fun W h=>h.phi (fun W hφ=>hφ)) (fun ⟨n138,l116,i119,i120,A117,c118⟩ u ⟨hlp,hc118⟩=>?_)
  obtain ⟨o2,hm,hnx2⟩:=lp_step hlp
  clear hlp
  replace hm : m_ref06_records_s2 p2 p0 l116 i119 i120 = some o2:=hm
  unfold m_ref06_records_s2 at hm
  refine c_flat [(0,.string p0),(1,.int .i64 i119),(2,.int .i64 p2),(9,.slice A117 l116.length c118),(10,.int .i64 i120)] ⟨rfl,rfl,rfl,rfl,rfl,trivial⟩ (fun u=>?_)
  refine c_sta ⟨w0,M,H,(16,⟨.slice A117 l116.length c118,42,5,l116.length,l116.flatMap GRR.enc⟩)::R,φ⟩ (fun _ h=>h)<|c_seq<|c_seq<|c_region<|g_v rfl r_move<|g_v rfl r_move<|g_v rfl (r_lss rfl rfl)<|g_nil<|d_then ?_
  refine c_cond rfl (fun h139=>?_) (fun h139=>?_)
  ·
   replace hm:=ite_t hm (of_decide_eq_true h139)
   refine c_skip<|d_then<|c_seq<|c_block<|c_seq<|c_region<|g_v rfl r_move<|g_v rfl r_move ?_
   replace hm:=bnd hm
   obtain ⟨⟨x140,x141,x142⟩,hx143,hm⟩:=hm
   refine g_cn ⟨w0,M,_,_,φ⟩ (fun _ h=>h) Try.call73 rfl rfl (c_ref05_Get p0 i119 _ hx143) (fun _ _=>?_)
   refine g_v rfl r_move ?_
   iterate 3 refine g_v rfl (r_extract rfl rfl) ?_
   refine g_e rfl (e_alloc 100110 Try.zeroValue42) (fun g145 _=>?_)
   refine g_storeL (tag:=100110) rfl rfl rfl rfl Try.sizeOf42 rfl rfl<|g_v rfl r_assign<|g_v rfl r_assign<|g_nil<|d_then ?_
   refine c_flat [(0,.string p0),(2,.int .i64 p2),(9,.slice A117 l116.length c118),(10,.int .i64 i120),(11,.pointer (some ⟨g145,0,none⟩)),(12,.int .i64 x141),(13,.int .i64 x142)] ⟨rfl,rfl,rfl,rfl,rfl,rfl,rfl,trivial⟩ (fun u=>?_)
   refine c_sta ⟨w0,M,(100110,g145,.cells #[.string x140.fName,.int .u16 x140.fType,.int .u16 x140.fClass,.int .u32 x140.fTTL,.string x140.fData] 42 (0,0))::H,(16,⟨.slice A117 l116.length c118,42,5,l116.length,l116.flatMap GRR.enc⟩)::R,φ⟩ (fun _ h=>h)<|c_seq<|c_seq<|c_region<|g_v rfl r_move<|g_v rfl (r_neq rfl rfl)<|g_nil<|d_then ?_
   refine c_cond rfl (fun h146=>?_) (fun h146=>?_)
   ·
    replace hm:=ite_t hm (of_decide_eq_true h146)
    refine c_seq<|c_region<|g_v rfl r_move ?_
    iterate 3 refine g_v rfl r_assign ?_
    refine g_nil<|d_then<|c_ret<|d_ret_then<|d_ret_block<|d_ret_then<|d_ret_then<|d_ret_block<|d_ret_then<|d_ret_then ?_
    replace hm:=nx_out (C:=(fun e : ((List GRR)×Int) ⊕ ((List GRR)×Int×Int)=>Sum.elim (fun e=>m_ref06_records_j1 e.1 e.2) (fun x=>some x) e = some r)) hm hnx2 hr2
    replace hm : some (([] : List GRR),0,x142) = some r:=hm
    cases hm
    refine d_sta _ (fun W h=>nilR h 21 42 5)<|d_sta _ (fun W h=>ok_frontR (t:=21) (t':=2000) h rfl) ?_
    exact d_retC (none,0) Try.results47 (res_tmp (res_tmp (res_tmp (res_nil rfl)))) (Nat.le_refl 0) (fun W h=>((h.dropR (t:=16) rfl).dropH (t:=100110) rfl).phi (fun W hφ=>hφ)) (.inr rfl)
   replace hm:=ite_f hm (of_decide_eq_false h146)
   refine c_skip<|d_then<|c_seq<|c_region<|g_v rfl r_move<|g_v rfl (r_loadA (tag:=100110) rfl rfl Try.isAgg42 Try.sizeOf42 rfl rfl) ?_
   refine g_e rfl (e_lit (tag:=100310) (l:=[x140]) (enc:=GRR.enc) (sz:=5) rfl Try.underlying24 (lit42_16 _ _ _ _ _) rfl rfl (fun _=>rfl)) (fun g147 _=>?_)
   replace hm:=bnd hm
   obtain ⟨l148,hl148,hm⟩:=hm
   refine g_e rfl (e_appR (enc:=GRR.enc) (l:=l116) (l1:=[x140]) (l2:=l148) (tag:=16) Try.underlying24 inf42_17 rfl (by decide) (by decide) (fun _=>rfl) (fun _=>rfl) rfl hc118 rfl rfl (fun W hS=>rowCl (tag:=100310) rfl W hS) hl148) (fun ⟨A149,c150⟩ hc150=>?_)
   refine g_v rfl r_assign<|g_nil<|d_then<|c_region<|g_v rfl r_move<|g_v rfl r_assign<|g_nil<|d_normal_block<|d_then ?_
   refine c_flat [(0,.string p0),(1,.int .i64 x141),(2,.int .i64 p2),(9,.slice A149 l148.length c150),(10,.int .i64 i120)] ⟨rfl,rfl,rfl,rfl,rfl,trivial⟩ (fun u=>?_)
   refine c_sta ⟨w0,M,(100110,g145,.cells #[.string x140.fName,.int .u16 x140.fType,.int .u16 x140.fClass,.int .u32 x140.fTTL,.string x140.fData] 42 (0,0))::H,(100310,⟨.slice (some ⟨g147,0,none⟩) [x140].length 1,42,5,[x140].length,[x140].flatMap GRR.enc⟩)::(16,⟨.slice A149 l148.length c150,42,5,l148.length,l148.flatMap GRR.enc⟩)::R,φ⟩ (fun _ h=>h)<|c_region<|g_v rfl r_move<|g_v rfl (r_add rfl rfl rfl)<|g_v rfl r_assign<|g_nil ?_
   obtain ⟨n151,hn151,hlp⟩:=nx_inl hm hnx2
   exact d_round (n151,l148,x141,w64 (i120 + 1),A149,c150) ⟨hlp,hc150⟩ hn151 ⟨rfl,rfl,rfl,rfl,rfl,trivial⟩ (fun W h=>((h.dropR (t:=100310) rfl).dropH (t:=100110) rfl).phi (fun W hφ=>hφ))
  replace hm:=ite_f hm (of_decide_eq_false h139)
  refine c_exit<|d_exit_then<|d_exit_then<|d_exit_block ?_
  replace hm:=nx_out (C:=(fun e : ((List GRR)×Int) ⊕ ((List GRR)×Int×Int)=>Sum.elim (fun e=>m_ref06_records_j1 e.1 e.2) (fun x=>some x) e = some r)) hm hnx2 hr2
  exact d_round (l116,i119,A117,c118) ⟨hm,hc118⟩ Nat.zero_lt_one ⟨rfl,rfl,trivial⟩ (fun W h=>h.phi (fun W hφ=>hφ))
 unfold m_ref06_records_j1 at hm
 refine d_flat [(1,.int .i64 i98),(9,.slice A96 l95.length c97)] ⟨rfl,rfl,trivial⟩ (fun u=>?_)
 refine d_sta ⟨w0,M,H,(16,⟨.slice A96 l95.length c97,42,5,l95.length,l95.flatMap GRR.enc⟩)::R,φ⟩ (fun _ h=>h)<|d_then<|c_seq<|c_region<|g_v rfl r_move<|g_v rfl r_move ?_
 iterate 3 refine g_v rfl r_assign ?_
 refine g_nil<|d_then<|c_ret ?_
 cases hm
 refine d_sta _ (fun W h=>ok_frontR (t:=16) (t':=2000) h rfl) ?_
 exact d_retC (A96,c97) Try.results47 (res_tmp (res_tmp (res_tmp (res_nil rfl)))) hc97 (fun W h=>h.phi (fun W hφ=>hφ)) (.inr rfl)
noncomputable def m_ref06_Read_j1 (p0 : ByteArray) (x28 : Int) (x33 : Int) (x38 : Int) (x3 : GMessage) (l105 : List GQuestion) (i108 : Int) : Option (GMessage×Int):=
  (m_ref06_records p0 i108 x28).bind fun (z116 : (List GRR)×Int×Int)=>
  if z116.2.2 ≠ 0 then
    some ((⟨0,false,false,false,false,false,0,0,([] : List GQuestion),([] : List GRR),([] : List GRR),([] : List GRR)⟩ : GMessage),z116.2.2)
  else
    (m_ref06_records p0 z116.2.1 x33).bind fun (z125 : (List GRR)×Int×Int)=>
    if z125.2.2 ≠ 0 then
      some ((⟨0,false,false,false,false,false,0,0,([] : List GQuestion),([] : List GRR),([] : List GRR),([] : List GRR)⟩ : GMessage),z125.2.2)
    else
      (m_ref06_records p0 z125.2.1 x38).bind fun (z134 : (List GRR)×Int×Int)=>
      if z134.2.2 ≠ 0 then
        some ((⟨0,false,false,false,false,false,0,0,([] : List GQuestion),([] : List GRR),([] : List GRR),([] : List GRR)⟩ : GMessage),z134.2.2)
      else
        if z134.2.1 ≠ (p0.size : Int) then
          some ((⟨0,false,false,false,false,false,0,0,([] : List GQuestion),([] : List GRR),([] : List GRR),([] : List GRR)⟩ : GMessage),10)
        else
          some ((⟨x3.fID,x3.fResponse,x3.fAuthoritative,x3.fTruncated,x3.fDesired,x3.fAvailable,x3.fOpcode,x3.fCode,l105,z116.1,z125.1,z134.1⟩ : GMessage),0)
noncomputable def m_ref06_Read_s2 (x23 : Int) (p0 : ByteArray) (l173 : List GQuestion) (i176 : Int) (i177 : Int) : Option (((List GQuestion)×Int×Int) ⊕ (((List GQuestion)×Int) ⊕ (GMessage×Int))):=
  if i177 < x23 then
    (m_ref04_Name p0 i176).bind fun (z212 : ByteArray×Int×Int)=>
    if z212.2.2 ≠ 0 then
      some (.inr (.inr ((⟨0,false,false,false,false,false,0,0,([] : List GQuestion),([] : List GRR),([] : List GRR),([] : List GRR)⟩ : GMessage),z212.2.2)))
    else
      (m_ref04_Number p0 z212.2.1 2).bind fun (z218 : Int×Int×Int)=>
      if z218.2.2 ≠ 0 then
        some (.inr (.inr ((⟨0,false,false,false,false,false,0,0,([] : List GQuestion),([] : List GRR),([] : List GRR),([] : List GRR)⟩ : GMessage),z218.2.2)))
      else
        (m_ref04_Number p0 z218.2.1 2).bind fun (z224 : Int×Int×Int)=>
        if z224.2.2 ≠ 0 then
          some (.inr (.inr ((⟨0,false,false,false,false,false,0,0,([] : List GQuestion),([] : List GRR),([] : List GRR),([] : List GRR)⟩ : GMessage),z224.2.2)))
        else
          (app 24 l173 [(⟨z212.1,IntKind.u16.wrap z218.1,IntKind.u16.wrap z224.1⟩ : GQuestion)]).bind fun l227=>
          some (.inl (l227,z224.2.1,w64 (i177 + 1)))
  else
    some (.inr (.inl (l173,i176)))
noncomputable def m_ref06_Read (p0 : ByteArray) : Option (GMessage×Int):=
  if 4096 < (p0.size : Int) then
    some ((⟨0,false,false,false,false,false,0,0,([] : List GQuestion),([] : List GRR),([] : List GRR),([] : List GRR)⟩ : GMessage),11)
  else
    (m_ref06_Head p0).bind fun (z19 : GMessage×Int)=>
    if z19.2 ≠ 0 then
      some ((⟨0,false,false,false,false,false,0,0,([] : List GQuestion),([] : List GRR),([] : List GRR),([] : List GRR)⟩ : GMessage),z19.2)
    else
      (m_ref04_Number p0 4 2).bind fun (z27 : Int×Int×Int)=>
      (m_ref04_Number p0 6 2).bind fun (z32 : Int×Int×Int)=>
      (m_ref04_Number p0 8 2).bind fun (z37 : Int×Int×Int)=>
      (m_ref04_Number p0 10 2).bind fun (z42 : Int×Int×Int)=>
      (loop (fun s=>m_ref06_Read_s2 z27.1 p0 s.1 s.2.1 s.2.2) (z19.1.fQuestions,12,0)).bind fun e=>Sum.elim (fun e=>m_ref06_Read_j1 p0 z32.1 z37.1 z42.1 z19.1 e.1 e.2) (fun x=>some x) e
theorem c_ref06_Read {w0 : World} {M : Nat→Prop} {H : List (Nat×Nat×Obj)} {R : List (Nat×Row)} {φ : World→Prop} (p0 : ByteArray) (r : GMessage×Int) (hm : m_ref06_Read p0 = some r) :
    Cn Try.prog 22 #[.string p0] ⟨w0,M,H,R,φ⟩ (fun x : Option Addr×Nat×Option Addr×Nat×Option Addr×Nat×Option Addr×Nat=>.tuple #[.agg #[.int .u16 r.1.fID,.bool r.1.fResponse,.bool r.1.fAuthoritative,.bool r.1.fTruncated,.bool r.1.fDesired,.bool r.1.fAvailable,.int .i64 r.1.fOpcode,.int .i64 r.1.fCode,.slice x.1 r.1.fQuestions.length x.2.1,.slice x.2.2.1 r.1.fAnswers.length x.2.2.2.1,.slice x.2.2.2.2.1 r.1.fAuthorities.length x.2.2.2.2.2.1,.slice x.2.2.2.2.2.2.1 r.1.fExtras.length x.2.2.2.2.2.2.2],.int .i64 r.2]) (fun x=>r.1.fQuestions.length ≤ x.2.1∧r.1.fAnswers.length ≤ x.2.2.2.1∧r.1.fAuthorities.length ≤ x.2.2.2.2.2.1∧r.1.fExtras.length ≤ x.2.2.2.2.2.2.2) (fun x=>⟨w0,M,H,R,fun W=>φ W∧Cl W x.1 (r.1.fQuestions.flatMap GQuestion.enc)∧Cl W x.2.2.1 (r.1.fAnswers.flatMap GRR.enc)∧Cl W x.2.2.2.2.1 (r.1.fAuthorities.flatMap GRR.enc)∧Cl W x.2.2.2.2.2.2.1 (r.1.fExtras.flatMap GRR.enc)⟩):=by
 unfold m_ref06_Read at hm
 refine cn_intro (fn:=Try.f22) (N:=162) Try.func22 rfl Try.ntmps22 rfl<|c_seq<|c_region ?_
 refine g_e rfl (e_alloc 100020 Try.zeroValue26) (fun g1 _=>?_)
 refine g_v rfl r_assign<|g_nil<|d_then<|c_seq<|c_seq<|c_region<|g_v rfl r_move<|g_v rfl (r_len Try.underlying9 rfl)<|g_v rfl (r_gtr rfl rfl)<|g_nil ?_
 refine d_then<|c_sta ⟨w0,M,(100020,g1,.cells #[.int .u16 0,.bool false,.bool false,.bool false,.bool false,.bool false,.int .i64 0,.int .i64 0,.slice none 0 0,.slice none 0 0,.slice none 0 0,.slice none 0 0] 26 (0,0))::H,R,φ⟩ (fun _ h=>h) ?_
 refine c_cond rfl (fun h2=>?_) (fun h2=>?_)
 ·
  replace hm:=ite_t hm (of_decide_eq_true h2)
  refine c_seq<|c_region<|g_v rfl (r_build _ rfl (bld26_23))<|g_storeL (tag:=100020) rfl rfl rfl rfl Try.sizeOf26 rfl rfl<|g_v rfl r_assign<|g_nil<|d_then<|c_ret<|d_ret_then ?_
  cases hm
  exact d_retC (none,0,none,0,none,0,none,0) Try.results22 (res_agg (tag:=100020) rfl rfl Try.isAgg26 Try.sizeOf26 (res_tmp (res_nil rfl))) ⟨(Nat.le_refl 0),(Nat.le_refl 0),(Nat.le_refl 0),(Nat.le_refl 0)⟩ (fun W h=>ok_pre (H1:=[_]) (R1:=[]) h (fun W hφ=>⟨hφ,(fun W _=>Cl.nil _ _) W hφ,(fun W _=>Cl.nil _ _) W hφ,(fun W _=>Cl.nil _ _) W hφ,(fun W _=>Cl.nil _ _) W hφ⟩)) (.inr rfl)
 replace hm:=ite_f hm (of_decide_eq_false h2)
 refine c_skip<|d_then<|c_seq<|c_region<|g_v rfl r_move ?_
 replace hm:=bnd hm
 obtain ⟨⟨x3,x4⟩,hx5,hm⟩:=hm
 refine g_cn ⟨w0,M,_,_,φ⟩ (fun _ h=>h) Try.call21 rfl rfl (c_ref06_Head p0 _ hx5) (fun ⟨A6,c7,A9,c10,A12,c13,A15,c16⟩ ⟨hc7,hc10,hc13,hc16⟩=>?_)
 refine g_sta _ (fun W h=>(ok_frontR (t:=2000) (t':=100370) h rfl)) ?_
 refine g_abs (fun φ18 q18'=>?_)
 have q18 : ∀ W,φ18 W→φ W:=fun W h=>(q18' W h).1
 have f11:=fun (W : World) (h : φ18 W)=>(q18' W h).2.1
 have f14:=fun (W : World) (h : φ18 W)=>(q18' W h).2.2.1
 have f17:=fun (W : World) (h : φ18 W)=>(q18' W h).2.2.2
 refine g_v rfl r_move<|g_v rfl (r_extract rfl rfl)<|g_v rfl (r_extract rfl rfl) ?_
 refine g_e rfl (e_alloc 100040 Try.zeroValue26) (fun g20 _=>?_)
 refine g_storeL (tag:=100040) rfl rfl rfl rfl Try.sizeOf26 rfl rfl<|g_v rfl r_assign<|g_nil<|d_then ?_
 refine c_flat [(0,.string p0),(2,.pointer (some ⟨g1,0,none⟩)),(4,.pointer (some ⟨g20,0,none⟩)),(5,.int .i64 x4)] ⟨rfl,rfl,rfl,rfl,trivial⟩ (fun u=>?_)
 refine c_sta ⟨w0,M,(100040,g20,.cells #[.int .u16 x3.fID,.bool x3.fResponse,.bool x3.fAuthoritative,.bool x3.fTruncated,.bool x3.fDesired,.bool x3.fAvailable,.int .i64 x3.fOpcode,.int .i64 x3.fCode,.slice A6 x3.fQuestions.length c7,.slice A9 x3.fAnswers.length c10,.slice A12 x3.fAuthorities.length c13,.slice A15 x3.fExtras.length c16] 26 (0,0))::(100020,g1,.cells #[.int .u16 0,.bool false,.bool false,.bool false,.bool false,.bool false,.int .i64 0,.int .i64 0,.slice none 0 0,.slice none 0 0,.slice none 0 0,.slice none 0 0] 26 (0,0))::H,(100370,⟨.slice A6 x3.fQuestions.length c7,29,3,x3.fQuestions.length,x3.fQuestions.flatMap GQuestion.enc⟩)::R,φ18⟩ (fun _ h=>h)<|c_seq<|c_seq<|c_region<|g_v rfl r_move<|g_v rfl (r_neq rfl rfl)<|g_nil<|d_then ?_
 refine c_cond rfl (fun h21=>?_) (fun h21=>?_)
 ·
  replace hm:=ite_t hm (of_decide_eq_true h21)
  refine c_seq<|c_region<|g_v rfl (r_build _ rfl (bld26_23))<|g_v rfl r_move<|g_storeL (tag:=100020) rfl rfl rfl rfl Try.sizeOf26 rfl rfl<|g_v rfl r_assign<|g_nil<|d_then<|c_ret<|d_ret_then ?_
  cases hm
  exact d_retC (none,0,none,0,none,0,none,0) Try.results22 (res_agg (tag:=100020) rfl rfl Try.isAgg26 Try.sizeOf26 (res_tmp (res_nil rfl))) ⟨(Nat.le_refl 0),(Nat.le_refl 0),(Nat.le_refl 0),(Nat.le_refl 0)⟩ (fun W h=>ok_pre (H1:=[_,_]) (R1:=[_]) h (fun W hφ=>⟨(q18 _ hφ),(fun W _=>Cl.nil _ _) W hφ,(fun W _=>Cl.nil _ _) W hφ,(fun W _=>Cl.nil _ _) W hφ,(fun W _=>Cl.nil _ _) W hφ⟩)) (.inr rfl)
 replace hm:=ite_f hm (of_decide_eq_false h21)
 refine c_skip<|d_then<|c_seq<|c_region ?_
 refine g_e rfl (e_alloc 100060 Try.zeroValue81) (fun g22 _=>?_)
 refine g_nil<|d_then<|c_seq<|c_seq<|c_region<|g_v rfl r_assign<|g_nil<|d_then<|c_block<|c_rounds 64 ?_
 refine c_seq<|c_seq<|c_region<|g_v rfl r_move<|g_v rfl (r_lss rfl rfl)<|g_nil<|d_then<|c_cond1 rfl (by decide)<|c_skip<|d_then ?_
 refine c_seq<|c_block<|c_seq<|c_region<|g_v rfl r_move<|g_v rfl r_move<|g_v rfl (r_mul rfl rfl (show IntKind.i64.wrap (2 * 0) = 0 by decide))<|g_v rfl (r_add rfl rfl (show IntKind.i64.wrap (4 + 0) = 4 by decide)) ?_
 replace hm:=bnd hm
 obtain ⟨⟨x23,x24,x25⟩,hx26,hm⟩:=hm
 refine g_cn ⟨w0,M,_,_,φ18⟩ (fun _ h=>h) Try.call45 rfl rfl (c_ref04_Number p0 4 2 _ hx26) (fun _ _=>?_)
 refine g_v rfl r_move ?_
 iterate 3 refine g_v rfl (r_extract rfl rfl) ?_
 iterate 3 refine g_v rfl r_assign ?_
 refine g_nil<|d_then ?_
 refine c_flat [(0,.string p0),(2,.pointer (some ⟨g1,0,none⟩)),(4,.pointer (some ⟨g20,0,none⟩)),(6,.pointer (some ⟨g22,0,none⟩)),(7,.int .i64 0),(8,.int .i64 x23)] ⟨rfl,rfl,rfl,rfl,rfl,rfl,trivial⟩ (fun u=>?_)
 refine c_sta ⟨w0,M,(100060,g22,.cells #[.int .i64 0,.int .i64 0,.int .i64 0,.int .i64 0] 81 (0,0))::(100040,g20,.cells #[.int .u16 x3.fID,.bool x3.fResponse,.bool x3.fAuthoritative,.bool x3.fTruncated,.bool x3.fDesired,.bool x3.fAvailable,.int .i64 x3.fOpcode,.int .i64 x3.fCode,.slice A6 x3.fQuestions.length c7,.slice A9 x3.fAnswers.length c10,.slice A12 x3.fAuthorities.length c13,.slice A15 x3.fExtras.length c16] 26 (0,0))::(100020,g1,.cells #[.int .u16 0,.bool false,.bool false,.bool false,.bool false,.bool false,.int .i64 0,.int .i64 0,.slice none 0 0,.slice none 0 0,.slice none 0 0,.slice none 0 0] 26 (0,0))::H,(100370,⟨.slice A6 x3.fQuestions.length c7,29,3,x3.fQuestions.length,x3.fQuestions.flatMap GQuestion.enc⟩)::R,φ18⟩ (fun _ h=>h)<|c_region<|g_v rfl r_move<|g_v rfl r_move<|g_v rfl (r_elemH (n:=0) Try.underlying81 Try.sizeOf3 rfl rfl (by decide) (by decide) rfl)<|g_storeL (tag:=100060) rfl rfl rfl rfl Try.sizeOf3 rfl rfl<|g_nil<|d_normal_block<|d_then<|c_region ?_
 refine g_v rfl r_move<|g_v rfl (r_add rfl rfl (show IntKind.i64.wrap (0 + 1) = 1 by decide))<|g_v rfl r_assign<|g_nil<|d_rounds ?_
 refine c_flat [(0,.string p0),(2,.pointer (some ⟨g1,0,none⟩)),(4,.pointer (some ⟨g20,0,none⟩)),(6,.pointer (some ⟨g22,0,none⟩)),(7,.int .i64 1)] ⟨rfl,rfl,rfl,rfl,rfl,trivial⟩ (fun u=>?_)
 refine c_sta ⟨w0,M,(100060,g22,.cells #[.int .i64 x23,.int .i64 0,.int .i64 0,.int .i64 0] 81 (0,0))::(100040,g20,.cells #[.int .u16 x3.fID,.bool x3.fResponse,.bool x3.fAuthoritative,.bool x3.fTruncated,.bool x3.fDesired,.bool x3.fAvailable,.int .i64 x3.fOpcode,.int .i64 x3.fCode,.slice A6 x3.fQuestions.length c7,.slice A9 x3.fAnswers.length c10,.slice A12 x3.fAuthorities.length c13,.slice A15 x3.fExtras.length c16] 26 (0,0))::(100020,g1,.cells #[.int .u16 0,.bool false,.bool false,.bool false,.bool false,.bool false,.int .i64 0,.int .i64 0,.slice none 0 0,.slice none 0 0,.slice none 0 0,.slice none 0 0] 26 (0,0))::H,(100370,⟨.slice A6 x3.fQuestions.length c7,29,3,x3.fQuestions.length,x3.fQuestions.flatMap GQuestion.enc⟩)::R,φ18⟩ (fun _ h=>h)<|c_seq<|c_seq<|c_region<|g_v rfl r_move<|g_v rfl (r_lss rfl rfl)<|g_nil<|d_then<|c_cond1 rfl (by decide)<|c_skip ?_
 refine d_then<|c_seq<|c_block<|c_seq<|c_region<|g_v rfl r_move<|g_v rfl r_move<|g_v rfl (r_mul rfl rfl (show IntKind.i64.wrap (2 * 1) = 2 by decide))<|g_v rfl (r_add rfl rfl (show IntKind.i64.wrap (4 + 2) = 6 by decide)) ?_
 replace hm:=bnd hm
 obtain ⟨⟨x28,x29,x30⟩,hx31,hm⟩:=hm
 refine g_cn ⟨w0,M,_,_,φ18⟩ (fun _ h=>h) Try.call45 rfl rfl (c_ref04_Number p0 6 2 _ hx31) (fun _ _=>?_)
 refine g_v rfl r_move ?_
 iterate 3 refine g_v rfl (r_extract rfl rfl) ?_
 iterate 3 refine g_v rfl r_assign ?_
 refine g_nil<|d_then ?_
 refine c_flat [(0,.string p0),(2,.pointer (some ⟨g1,0,none⟩)),(4,.pointer (some ⟨g20,0,none⟩)),(6,.pointer (some ⟨g22,0,none⟩)),(7,.int .i64 1),(8,.int .i64 x28)] ⟨rfl,rfl,rfl,rfl,rfl,rfl,trivial⟩ (fun u=>?_)
 refine c_region<|g_v rfl r_move<|g_v rfl r_move<|g_v rfl (r_elemH (n:=1) Try.underlying81 Try.sizeOf3 rfl rfl (by decide) (by decide) rfl)<|g_storeL (tag:=100060) rfl rfl rfl rfl Try.sizeOf3 rfl rfl<|g_nil<|d_normal_block<|d_then<|c_region<|g_v rfl r_move ?_
 refine g_v rfl (r_add rfl rfl (show IntKind.i64.wrap (1 + 1) = 2 by decide))<|g_v rfl r_assign<|g_nil<|d_rounds ?_
 refine c_flat [(0,.string p0),(2,.pointer (some ⟨g1,0,none⟩)),(4,.pointer (some ⟨g20,0,none⟩)),(6,.pointer (some ⟨g22,0,none⟩)),(7,.int .i64 2)] ⟨rfl,rfl,rfl,rfl,rfl,trivial⟩ (fun u=>?_)
 refine c_sta ⟨w0,M,(100060,g22,.cells #[.int .i64 x23,.int .i64 x28,.int .i64 0,.int .i64 0] 81 (0,0))::(100040,g20,.cells #[.int .u16 x3.fID,.bool x3.fResponse,.bool x3.fAuthoritative,.bool x3.fTruncated,.bool x3.fDesired,.bool x3.fAvailable,.int .i64 x3.fOpcode,.int .i64 x3.fCode,.slice A6 x3.fQuestions.length c7,.slice A9 x3.fAnswers.length c10,.slice A12 x3.fAuthorities.length c13,.slice A15 x3.fExtras.length c16] 26 (0,0))::(100020,g1,.cells #[.int .u16 0,.bool false,.bool false,.bool false,.bool false,.bool false,.int .i64 0,.int .i64 0,.slice none 0 0,.slice none 0 0,.slice none 0 0,.slice none 0 0] 26 (0,0))::H,(100370,⟨.slice A6 x3.fQuestions.length c7,29,3,x3.fQuestions.length,x3.fQuestions.flatMap GQuestion.enc⟩)::R,φ18⟩ (fun _ h=>h)<|c_seq<|c_seq<|c_region<|g_v rfl r_move<|g_v rfl (r_lss rfl rfl)<|g_nil<|d_then<|c_cond1 rfl (by decide)<|c_skip ?_
 refine d_then<|c_seq<|c_block<|c_seq<|c_region<|g_v rfl r_move<|g_v rfl r_move<|g_v rfl (r_mul rfl rfl (show IntKind.i64.wrap (2 * 2) = 4 by decide))<|g_v rfl (r_add rfl rfl (show IntKind.i64.wrap (4 + 4) = 8 by decide)) ?_
 replace hm:=bnd hm
 obtain ⟨⟨x33,x34,x35⟩,hx36,hm⟩:=hm
 refine g_cn ⟨w0,M,_,_,φ18⟩ (fun _ h=>h) Try.call45 rfl rfl (c_ref04_Number p0 8 2 _ hx36) (fun _ _=>?_)
 refine g_v rfl r_move ?_
 iterate 3 refine g_v rfl (r_extract rfl rfl) ?_
 iterate 3 refine g_v rfl r_assign ?_
 refine g_nil<|d_then ?_
 refine c_flat [(0,.string p0),(2,.pointer (some ⟨g1,0,none⟩)),(4,.pointer (some ⟨g20,0,none⟩)),(6,.pointer (some ⟨g22,0,none⟩)),(7,.int .i64 2),(8,.int .i64 x33)] ⟨rfl,rfl,rfl,rfl,rfl,rfl,trivial⟩ (fun u=>?_)
 refine c_region<|g_v rfl r_move<|g_v rfl r_move<|g_v rfl (r_elemH (n:=2) Try.underlying81 Try.sizeOf3 rfl rfl (by decide) (by decide) rfl)<|g_storeL (tag:=100060) rfl rfl rfl rfl Try.sizeOf3 rfl rfl<|g_nil<|d_normal_block<|d_then<|c_region<|g_v rfl r_move ?_
 refine g_v rfl (r_add rfl rfl (show IntKind.i64.wrap (2 + 1) = 3 by decide))<|g_v rfl r_assign<|g_nil<|d_rounds ?_
 refine c_flat [(0,.string p0),(2,.pointer (some ⟨g1,0,none⟩)),(4,.pointer (some ⟨g20,0,none⟩)),(6,.pointer (some ⟨g22,0,none⟩)),(7,.int .i64 3)] ⟨rfl,rfl,rfl,rfl,rfl,trivial⟩ (fun u=>?_)
 refine c_sta ⟨w0,M,(100060,g22,.cells #[.int .i64 x23,.int .i64 x28,.int .i64 x33,.int .i64 0] 81 (0,0))::(100040,g20,.cells #[.int .u16 x3.fID,.bool x3.fResponse,.bool x3.fAuthoritative,.bool x3.fTruncated,.bool x3.fDesired,.bool x3.fAvailable,.int .i64 x3.fOpcode,.int .i64 x3.fCode,.slice A6 x3.fQuestions.length c7,.slice A9 x3.fAnswers.length c10,.slice A12 x3.fAuthorities.length c13,.slice A15 x3.fExtras.length c16] 26 (0,0))::(100020,g1,.cells #[.int .u16 0,.bool false,.bool false,.bool false,.bool false,.bool false,.int .i64 0,.int .i64 0,.slice none 0 0,.slice none 0 0,.slice none 0 0,.slice none 0 0] 26 (0,0))::H,(100370,⟨.slice A6 x3.fQuestions.length c7,29,3,x3.fQuestions.length,x3.fQuestions.flatMap GQuestion.enc⟩)::R,φ18⟩ (fun _ h=>h)<|c_seq<|c_seq<|c_region<|g_v rfl r_move<|g_v rfl (r_lss rfl rfl)<|g_nil<|d_then<|c_cond1 rfl (by decide)<|c_skip ?_
 refine d_then<|c_seq<|c_block<|c_seq<|c_region<|g_v rfl r_move<|g_v rfl r_move<|g_v rfl (r_mul rfl rfl (show IntKind.i64.wrap (2 * 3) = 6 by decide))<|g_v rfl (r_add rfl rfl (show IntKind.i64.wrap (4 + 6) = 10 by decide)) ?_
 replace hm:=bnd hm
 obtain ⟨⟨x38,x39,x40⟩,hx41,hm⟩:=hm
 refine g_cn ⟨w0,M,_,_,φ18⟩ (fun _ h=>h) Try.call45 rfl rfl (c_ref04_Number p0 10 2 _ hx41) (fun _ _=>?_)
 refine g_v rfl r_move ?_
 iterate 3 refine g_v rfl (r_extract rfl rfl) ?_
 iterate 3 refine g_v rfl r_assign ?_
 refine g_nil<|d_then ?_
 refine c_flat [(0,.string p0),(2,.pointer (some ⟨g1,0,none⟩)),(4,.pointer (some ⟨g20,0,none⟩)),(6,.pointer (some ⟨g22,0,none⟩)),(7,.int .i64 3),(8,.int .i64 x38)] ⟨rfl,rfl,rfl,rfl,rfl,rfl,trivial⟩ (fun u=>?_)
 refine c_region<|g_v rfl r_move<|g_v rfl r_move<|g_v rfl (r_elemH (n:=3) Try.underlying81 Try.sizeOf3 rfl rfl (by decide) (by decide) rfl)<|g_storeL (tag:=100060) rfl rfl rfl rfl Try.sizeOf3 rfl rfl<|g_nil<|d_normal_block<|d_then<|c_region<|g_v rfl r_move ?_
 refine g_v rfl (r_add rfl rfl (show IntKind.i64.wrap (3 + 1) = 4 by decide))<|g_v rfl r_assign<|g_nil<|d_rounds ?_
 refine c_flat [(0,.string p0),(2,.pointer (some ⟨g1,0,none⟩)),(4,.pointer (some ⟨g20,0,none⟩)),(6,.pointer (some ⟨g22,0,none⟩)),(7,.int .i64 4)] ⟨rfl,rfl,rfl,rfl,rfl,trivial⟩ (fun u=>?_)
 refine c_sta ⟨w0,M,(100060,g22,.cells #[.int .i64 x23,.int .i64 x28,.int .i64 x33,.int .i64 x38] 81 (0,0))::(100040,g20,.cells #[.int .u16 x3.fID,.bool x3.fResponse,.bool x3.fAuthoritative,.bool x3.fTruncated,.bool x3.fDesired,.bool x3.fAvailable,.int .i64 x3.fOpcode,.int .i64 x3.fCode,.slice A6 x3.fQuestions.length c7,.slice A9 x3.fAnswers.length c10,.slice A12 x3.fAuthorities.length c13,.slice A15 x3.fExtras.length c16] 26 (0,0))::(100020,g1,.cells #[.int .u16 0,.bool false,.bool false,.bool false,.bool false,.bool false,.int .i64 0,.int .i64 0,.slice none 0 0,.slice none 0 0,.slice none 0 0,.slice none 0 0] 26 (0,0))::H,(100370,⟨.slice A6 x3.fQuestions.length c7,29,3,x3.fQuestions.length,x3.fQuestions.flatMap GQuestion.enc⟩)::R,φ18⟩ (fun _ h=>h)<|c_seq<|c_seq<|c_region<|g_v rfl r_move<|g_v rfl (r_lss rfl rfl)<|g_nil<|d_then<|c_cond0 rfl (by decide)<|c_exit ?_
 refine d_exit_then<|d_exit_then<|d_exit_block<|d_then<|c_seq<|c_region<|g_v rfl r_assign<|g_nil<|d_then<|c_seq ?_
 refine c_seq<|c_region<|g_v rfl r_assign<|g_nil<|d_then ?_
 refine c_cut (ι:=(List GQuestion)×Int×Option Addr×Nat) [0,2,4,6,11] (fun ⟨l105,i108,A106,c107⟩=>[(11,.int .i64 i108)]) (fun ⟨l105,i108,A106,c107⟩=>⟨w0,M,(100060,g22,.cells #[.int .i64 x23,.int .i64 x28,.int .i64 x33,.int .i64 x38] 81 (0,0))::(100040,g20,.cells #[.int .u16 x3.fID,.bool x3.fResponse,.bool x3.fAuthoritative,.bool x3.fTruncated,.bool x3.fDesired,.bool x3.fAvailable,.int .i64 x3.fOpcode,.int .i64 x3.fCode,.slice A106 l105.length c107,.slice A9 x3.fAnswers.length c10,.slice A12 x3.fAuthorities.length c13,.slice A15 x3.fExtras.length c16] 26 (0,0))::(100020,g1,.cells #[.int .u16 0,.bool false,.bool false,.bool false,.bool false,.bool false,.int .i64 0,.int .i64 0,.slice none 0 0,.slice none 0 0,.slice none 0 0,.slice none 0 0] 26 (0,0))::H,(100370,⟨.slice A106 l105.length c107,29,3,l105.length,l105.flatMap GQuestion.enc⟩)::R,φ18⟩) (fun ⟨l105,i108,A106,c107⟩=>m_ref06_Read_j1 p0 x28 x33 x38 x3 l105 i108 = some r∧l105.length ≤ c107) ?_ (fun ⟨l105,i108,A106,c107⟩ u ⟨hm,hc107⟩=>?_)
 ·
  refine c_block ?_
  replace hm:=bnd hm
  obtain ⟨out2,hl2,hr2⟩:=hm
  obtain ⟨n206',hl2⟩:=loop_lp hl2
  refine c_loopU (ι:=Nat×(List GQuestion)×Int×Int×Option Addr×Nat) [0,2,4,6,11,12] (fun ⟨n206,l173,i176,i177,A174,c175⟩=>[(11,.int .i64 i176),(12,.int .i64 i177)]) (fun ⟨n206,l173,i176,i177,A174,c175⟩=>⟨w0,M,(100060,g22,.cells #[.int .i64 x23,.int .i64 x28,.int .i64 x33,.int .i64 x38] 81 (0,0))::(100040,g20,.cells #[.int .u16 x3.fID,.bool x3.fResponse,.bool x3.fAuthoritative,.bool x3.fTruncated,.bool x3.fDesired,.bool x3.fAvailable,.int .i64 x3.fOpcode,.int .i64 x3.fCode,.slice A174 l173.length c175,.slice A9 x3.fAnswers.length c10,.slice A12 x3.fAuthorities.length c13,.slice A15 x3.fExtras.length c16] 26 (0,0))::(100020,g1,.cells #[.int .u16 0,.bool false,.bool false,.bool false,.bool false,.bool false,.int .i64 0,.int .i64 0,.slice none 0 0,.slice none 0 0,.slice none 0 0,.slice none 0 0] 26 (0,0))::H,(100370,⟨.slice A174 l173.length c175,29,3,l173.length,l173.flatMap GQuestion.enc⟩)::R,φ18⟩) (fun ⟨n206,l173,i176,i177,A174,c175⟩=>Lp (fun s=>m_ref06_Read_s2 x23 p0 s.1 s.2.1 s.2.2) n206 (l173,i176,i177) out2∧l173.length ≤ c175) (fun ⟨n206,l173,i176,i177,A174,c175⟩=>n206) (n206',x3.fQuestions,12,0,A6,c7) ⟨hl2,hc7⟩ ⟨rfl,rfl,rfl,rfl,rfl,rfl,trivial⟩ (fun W h=>h.phi (fun W hφ=>hφ)) (fun ⟨n206,l173,i176,i177,A174,c175⟩ u ⟨hlp,hc175⟩=>?_)
  obtain ⟨o2,hm,hnx2⟩:=lp_step hlp
  clear hlp
  replace hm : m_ref06_Read_s2 x23 p0 l173 i176 i177 = some o2:=hm
  unfold m_ref06_Read_s2 at hm
  refine c_flat [(0,.string p0),(2,.pointer (some ⟨g1,0,none⟩)),(4,.pointer (some ⟨g20,0,none⟩)),(6,.pointer (some ⟨g22,0,none⟩)),(11,.int .i64 i176),(12,.int .i64 i177)] ⟨rfl,rfl,rfl,rfl,rfl,rfl,trivial⟩ (fun u=>?_)
  refine c_sta ⟨w0,M,(100060,g22,.cells #[.int .i64 x23,.int .i64 x28,.int .i64 x33,.int .i64 x38] 81 (0,0))::(100040,g20,.cells #[.int .u16 x3.fID,.bool x3.fResponse,.bool x3.fAuthoritative,.bool x3.fTruncated,.bool x3.fDesired,.bool x3.fAvailable,.int .i64 x3.fOpcode,.int .i64 x3.fCode,.slice A174 l173.length c175,.slice A9 x3.fAnswers.length c10,.slice A12 x3.fAuthorities.length c13,.slice A15 x3.fExtras.length c16] 26 (0,0))::(100020,g1,.cells #[.int .u16 0,.bool false,.bool false,.bool false,.bool false,.bool false,.int .i64 0,.int .i64 0,.slice none 0 0,.slice none 0 0,.slice none 0 0,.slice none 0 0] 26 (0,0))::H,(100370,⟨.slice A174 l173.length c175,29,3,l173.length,l173.flatMap GQuestion.enc⟩)::R,φ18⟩ (fun _ h=>h)<|c_seq<|c_seq<|c_region<|g_v rfl r_move<|g_v rfl (r_elemH (n:=0) Try.underlying81 Try.sizeOf3 rfl rfl (by decide) (by decide) rfl)<|g_v rfl (r_load (tag:=100060) rfl rfl rfl Try.isAgg3)<|g_v rfl (r_lss rfl rfl)<|g_nil<|d_then ?_
  refine c_cond rfl (fun h207=>?_) (fun h207=>?_)
  ·
   replace hm:=ite_t hm (of_decide_eq_true h207)
   refine c_skip<|d_then<|c_seq<|c_block<|c_seq<|c_region<|g_v rfl r_move<|g_v rfl r_move ?_
   replace hm:=bnd hm
   obtain ⟨⟨x208,x209,x210⟩,hx211,hm⟩:=hm
   refine g_cn ⟨w0,M,_,_,φ18⟩ (fun _ h=>h) Try.call46 rfl rfl (c_ref04_Name p0 i176 _ hx211) (fun _ _=>?_)
   refine g_v rfl r_move ?_
   iterate 3 refine g_v rfl (r_extract rfl rfl) ?_
   iterate 3 refine g_v rfl r_assign ?_
   refine g_nil<|d_then ?_
   refine c_flat [(0,.string p0),(2,.pointer (some ⟨g1,0,none⟩)),(4,.pointer (some ⟨g20,0,none⟩)),(6,.pointer (some ⟨g22,0,none⟩)),(12,.int .i64 i177),(13,.string x208),(14,.int .i64 x209),(15,.int .i64 x210)] ⟨rfl,rfl,rfl,rfl,rfl,rfl,rfl,rfl,trivial⟩ (fun u=>?_)
   refine c_seq<|c_seq<|c_region<|g_v rfl r_move<|g_v rfl (r_neq rfl rfl)<|g_nil<|d_then ?_
   refine c_cond rfl (fun h213=>?_) (fun h213=>?_)
   ·
    replace hm:=ite_t hm (of_decide_eq_true h213)
    refine c_seq<|c_region<|g_v rfl (r_build _ rfl (bld26_23))<|g_v rfl r_move<|g_storeL (tag:=100020) rfl rfl rfl rfl Try.sizeOf26 rfl rfl<|g_v rfl r_assign<|g_nil<|d_then<|c_ret<|d_ret_then ?_
    refine d_ret_block<|d_ret_then<|d_ret_then<|d_ret_block<|d_ret_then<|d_ret_then ?_
    replace hm:=nx_out (C:=(fun e : ((List GQuestion)×Int) ⊕ (GMessage×Int)=>Sum.elim (fun e=>m_ref06_Read_j1 p0 x28 x33 x38 x3 e.1 e.2) (fun x=>some x) e = some r)) hm hnx2 hr2
    replace hm : some ((⟨0,false,false,false,false,false,0,0,([] : List GQuestion),([] : List GRR),([] : List GRR),([] : List GRR)⟩ : GMessage),x210) = some r:=hm
    cases hm
    exact d_retC (none,0,none,0,none,0,none,0) Try.results22 (res_agg (tag:=100020) rfl rfl Try.isAgg26 Try.sizeOf26 (res_tmp (res_nil rfl))) ⟨(Nat.le_refl 0),(Nat.le_refl 0),(Nat.le_refl 0),(Nat.le_refl 0)⟩ (fun W h=>ok_pre (H1:=[_,_,_]) (R1:=[_]) h (fun W hφ=>⟨(q18 _ hφ),(fun W _=>Cl.nil _ _) W hφ,(fun W _=>Cl.nil _ _) W hφ,(fun W _=>Cl.nil _ _) W hφ,(fun W _=>Cl.nil _ _) W hφ⟩)) (.inr rfl)
   replace hm:=ite_f hm (of_decide_eq_false h213)
   refine c_skip<|d_then<|c_seq<|c_region<|g_v rfl r_move<|g_v rfl r_move ?_
   replace hm:=bnd hm
   obtain ⟨⟨x214,x215,x216⟩,hx217,hm⟩:=hm
   refine g_cn ⟨w0,M,_,_,φ18⟩ (fun _ h=>h) Try.call45 rfl rfl (c_ref04_Number p0 x209 2 _ hx217) (fun _ _=>?_)
   refine g_v rfl r_move ?_
   iterate 3 refine g_v rfl (r_extract rfl rfl) ?_
   iterate 3 refine g_v rfl r_assign ?_
   refine g_nil<|d_then ?_
   refine c_flat [(0,.string p0),(2,.pointer (some ⟨g1,0,none⟩)),(4,.pointer (some ⟨g20,0,none⟩)),(6,.pointer (some ⟨g22,0,none⟩)),(12,.int .i64 i177),(13,.string x208),(16,.int .i64 x214),(17,.int .i64 x215),(18,.int .i64 x216)] ⟨rfl,rfl,rfl,rfl,rfl,rfl,rfl,rfl,rfl,trivial⟩ (fun u=>?_)
   refine c_seq<|c_seq<|c_region<|g_v rfl r_move<|g_v rfl (r_neq rfl rfl)<|g_nil<|d_then ?_
   refine c_cond rfl (fun h219=>?_) (fun h219=>?_)
   ·
    replace hm:=ite_t hm (of_decide_eq_true h219)
    refine c_seq<|c_region<|g_v rfl (r_build _ rfl (bld26_23))<|g_v rfl r_move<|g_storeL (tag:=100020) rfl rfl rfl rfl Try.sizeOf26 rfl rfl<|g_v rfl r_assign<|g_nil<|d_then<|c_ret<|d_ret_then ?_
    refine d_ret_block<|d_ret_then<|d_ret_then<|d_ret_block<|d_ret_then<|d_ret_then ?_
    replace hm:=nx_out (C:=(fun e : ((List GQuestion)×Int) ⊕ (GMessage×Int)=>Sum.elim (fun e=>m_ref06_Read_j1 p0 x28 x33 x38 x3 e.1 e.2) (fun x=>some x) e = some r)) hm hnx2 hr2
    replace hm : some ((⟨0,false,false,false,false,false,0,0,([] : List GQuestion),([] : List GRR),([] : List GRR),([] : List GRR)⟩ : GMessage),x216) = some r:=hm
    cases hm
    exact d_retC (none,0,none,0,none,0,none,0) Try.results22 (res_agg (tag:=100020) rfl rfl Try.isAgg26 Try.sizeOf26 (res_tmp (res_nil rfl))) ⟨(Nat.le_refl 0),(Nat.le_refl 0),(Nat.le_refl 0),(Nat.le_refl 0)⟩ (fun W h=>ok_pre (H1:=[_,_,_]) (R1:=[_]) h (fun W hφ=>⟨(q18 _ hφ),(fun W _=>Cl.nil _ _) W hφ,(fun W _=>Cl.nil _ _) W hφ,(fun W _=>Cl.nil _ _) W hφ,(fun W _=>Cl.nil _ _) W hφ⟩)) (.inr rfl)
   replace hm:=ite_f hm (of_decide_eq_false h219)
   refine c_skip<|d_then<|c_seq<|c_region<|g_v rfl r_move<|g_v rfl r_move ?_
   replace hm:=bnd hm
   obtain ⟨⟨x220,x221,x222⟩,hx223,hm⟩:=hm
   refine g_cn ⟨w0,M,_,_,φ18⟩ (fun _ h=>h) Try.call45 rfl rfl (c_ref04_Number p0 x215 2 _ hx223) (fun _ _=>?_)
   refine g_v rfl r_move ?_
   iterate 3 refine g_v rfl (r_extract rfl rfl) ?_
   iterate 3 refine g_v rfl r_assign ?_
   refine g_nil<|d_then ?_
   refine c_flat [(0,.string p0),(2,.pointer (some ⟨g1,0,none⟩)),(4,.pointer (some ⟨g20,0,none⟩)),(6,.pointer (some ⟨g22,0,none⟩)),(12,.int .i64 i177),(13,.string x208),(16,.int .i64 x214),(19,.int .i64 x220),(20,.int .i64 x221),(21,.int .i64 x222)] ⟨rfl,rfl,rfl,rfl,rfl,rfl,rfl,rfl,rfl,rfl,trivial⟩ (fun u=>?_)
   refine c_seq<|c_seq<|c_region<|g_v rfl r_move<|g_v rfl (r_neq rfl rfl)<|g_nil<|d_then ?_
   refine c_cond rfl (fun h225=>?_) (fun h225=>?_)
   ·
    replace hm:=ite_t hm (of_decide_eq_true h225)
    refine c_seq<|c_region<|g_v rfl (r_build _ rfl (bld26_23))<|g_v rfl r_move<|g_storeL (tag:=100020) rfl rfl rfl rfl Try.sizeOf26 rfl rfl<|g_v rfl r_assign<|g_nil<|d_then<|c_ret<|d_ret_then ?_
    refine d_ret_block<|d_ret_then<|d_ret_then<|d_ret_block<|d_ret_then<|d_ret_then ?_
    replace hm:=nx_out (C:=(fun e : ((List GQuestion)×Int) ⊕ (GMessage×Int)=>Sum.elim (fun e=>m_ref06_Read_j1 p0 x28 x33 x38 x3 e.1 e.2) (fun x=>some x) e = some r)) hm hnx2 hr2
    replace hm : some ((⟨0,false,false,false,false,false,0,0,([] : List GQuestion),([] : List GRR),([] : List GRR),([] : List GRR)⟩ : GMessage),x222) = some r:=hm
    cases hm
    exact d_retC (none,0,none,0,none,0,none,0) Try.results22 (res_agg (tag:=100020) rfl rfl Try.isAgg26 Try.sizeOf26 (res_tmp (res_nil rfl))) ⟨(Nat.le_refl 0),(Nat.le_refl 0),(Nat.le_refl 0),(Nat.le_refl 0)⟩ (fun W h=>ok_pre (H1:=[_,_,_]) (R1:=[_]) h (fun W hφ=>⟨(q18 _ hφ),(fun W _=>Cl.nil _ _) W hφ,(fun W _=>Cl.nil _ _) W hφ,(fun W _=>Cl.nil _ _) W hφ,(fun W _=>Cl.nil _ _) W hφ⟩)) (.inr rfl)
   replace hm:=ite_f hm (of_decide_eq_false h225)
   refine c_skip<|d_then<|c_seq<|c_region<|g_v rfl (r_field (n:=8) Try.underlying26 rfl Try.sizeOf23 rfl rfl)<|g_v rfl (r_load (tag:=100040) rfl rfl rfl Try.isAgg23)<|g_v rfl r_move<|g_v rfl r_move<|g_v rfl (r_conv Try.underlying3 Try.underlying22 rfl rfl)<|g_v rfl r_move ?_
   refine g_v rfl (r_conv Try.underlying3 Try.underlying22 rfl rfl)<|g_v rfl (r_build _ rfl (bld29_5 _ _ _)) ?_
   refine g_e rfl (e_lit (tag:=101070) (l:=[(⟨x208,IntKind.u16.wrap x214,IntKind.u16.wrap x220⟩ : GQuestion)]) (enc:=GQuestion.enc) (sz:=3) rfl Try.underlying23 (lit29_6 _ _ _) rfl rfl (fun _=>rfl)) (fun g226 _=>?_)
   replace hm:=bnd hm
   obtain ⟨l227,hl227,hm⟩:=hm
   refine g_e rfl (e_appR (enc:=GQuestion.enc) (l:=l173) (l1:=[(⟨x208,IntKind.u16.wrap x214,IntKind.u16.wrap x220⟩ : GQuestion)]) (l2:=l227) (tag:=100370) Try.underlying23 inf29_8 rfl (by decide) (by decide) (fun _=>rfl) (fun _=>rfl) rfl hc175 rfl rfl (fun W hS=>rowCl (tag:=101070) rfl W hS) hl227) (fun ⟨A228,c229⟩ hc229=>?_)
   refine g_v rfl (r_field (n:=8) Try.underlying26 rfl Try.sizeOf23 rfl rfl)<|g_storeL (tag:=100040) rfl rfl rfl rfl Try.sizeOf23 rfl rfl<|g_nil<|d_then ?_
   refine c_flat [(0,.string p0),(2,.pointer (some ⟨g1,0,none⟩)),(4,.pointer (some ⟨g20,0,none⟩)),(6,.pointer (some ⟨g22,0,none⟩)),(12,.int .i64 i177),(20,.int .i64 x221)] ⟨rfl,rfl,rfl,rfl,rfl,rfl,trivial⟩ (fun u=>?_)
   refine c_sta ⟨w0,M,(100060,g22,.cells #[.int .i64 x23,.int .i64 x28,.int .i64 x33,.int .i64 x38] 81 (0,0))::(100040,g20,.cells #[.int .u16 x3.fID,.bool x3.fResponse,.bool x3.fAuthoritative,.bool x3.fTruncated,.bool x3.fDesired,.bool x3.fAvailable,.int .i64 x3.fOpcode,.int .i64 x3.fCode,.slice A228 l227.length c229,.slice A9 x3.fAnswers.length c10,.slice A12 x3.fAuthorities.length c13,.slice A15 x3.fExtras.length c16] 26 (0,0))::(100020,g1,.cells #[.int .u16 0,.bool false,.bool false,.bool false,.bool false,.bool false,.int .i64 0,.int .i64 0,.slice none 0 0,.slice none 0 0,.slice none 0 0,.slice none 0 0] 26 (0,0))::H,(101070,⟨.slice (some ⟨g226,0,none⟩) [(⟨x208,IntKind.u16.wrap x214,IntKind.u16.wrap x220⟩ : GQuestion)].length 1,29,3,[(⟨x208,IntKind.u16.wrap x214,IntKind.u16.wrap x220⟩ : GQuestion)].length,[(⟨x208,IntKind.u16.wrap x214,IntKind.u16.wrap x220⟩ : GQuestion)].flatMap GQuestion.enc⟩)::(100370,⟨.slice A228 l227.length c229,29,3,l227.length,l227.flatMap GQuestion.enc⟩)::R,φ18⟩ (fun _ h=>h)<|c_region<|g_v rfl r_move<|g_v rfl r_assign<|g_nil<|d_normal_block<|d_then<|c_region<|g_v rfl r_move<|g_v rfl (r_add rfl rfl rfl) ?_
   refine g_v rfl r_assign<|g_nil ?_
   obtain ⟨n230,hn230,hlp⟩:=nx_inl hm hnx2
   exact d_round (n230,l227,x221,w64 (i177 + 1),A228,c229) ⟨hlp,hc229⟩ hn230 ⟨rfl,rfl,rfl,rfl,rfl,rfl,trivial⟩ (fun W h=>(h.dropR (t:=101070) rfl).phi (fun W hφ=>hφ))
  replace hm:=ite_f hm (of_decide_eq_false h207)
  refine c_exit<|d_exit_then<|d_exit_then<|d_exit_block ?_
  replace hm:=nx_out (C:=(fun e : ((List GQuestion)×Int) ⊕ (GMessage×Int)=>Sum.elim (fun e=>m_ref06_Read_j1 p0 x28 x33 x38 x3 e.1 e.2) (fun x=>some x) e = some r)) hm hnx2 hr2
  exact d_round (l173,i176,A174,c175) ⟨hm,hc175⟩ Nat.zero_lt_one ⟨rfl,rfl,rfl,rfl,rfl,trivial⟩ (fun W h=>h.phi (fun W hφ=>hφ))
 unfold m_ref06_Read_j1 at hm
 refine d_flat [(0,.string p0),(2,.pointer (some ⟨g1,0,none⟩)),(4,.pointer (some ⟨g20,0,none⟩)),(6,.pointer (some ⟨g22,0,none⟩)),(11,.int .i64 i108)] ⟨rfl,rfl,rfl,rfl,rfl,trivial⟩ (fun u=>?_)
 refine d_sta ⟨w0,M,(100060,g22,.cells #[.int .i64 x23,.int .i64 x28,.int .i64 x33,.int .i64 x38] 81 (0,0))::(100040,g20,.cells #[.int .u16 x3.fID,.bool x3.fResponse,.bool x3.fAuthoritative,.bool x3.fTruncated,.bool x3.fDesired,.bool x3.fAvailable,.int .i64 x3.fOpcode,.int .i64 x3.fCode,.slice A106 l105.length c107,.slice A9 x3.fAnswers.length c10,.slice A12 x3.fAuthorities.length c13,.slice A15 x3.fExtras.length c16] 26 (0,0))::(100020,g1,.cells #[.int .u16 0,.bool false,.bool false,.bool false,.bool false,.bool false,.int .i64 0,.int .i64 0,.slice none 0 0,.slice none 0 0,.slice none 0 0,.slice none 0 0] 26 (0,0))::H,(100370,⟨.slice A106 l105.length c107,29,3,l105.length,l105.flatMap GQuestion.enc⟩)::R,φ18⟩ (fun _ h=>h)<|d_then<|c_seq<|c_region<|g_v rfl r_move<|g_v rfl r_move<|g_v rfl (r_elemH (n:=1) Try.underlying81 Try.sizeOf3 rfl rfl (by decide) (by decide) rfl)<|g_v rfl (r_load (tag:=100060) rfl rfl rfl Try.isAgg3) ?_
 replace hm:=bnd hm
 obtain ⟨⟨x109,x110,x111⟩,hx112,hm⟩:=hm
 refine g_cn ⟨w0,M,_,_,φ18⟩ (fun _ h=>h) Try.call47 rfl rfl (c_ref06_records p0 i108 x28 _ hx112) (fun ⟨A113,c114⟩ hc114=>?_)
 refine g_sta _ (fun W h=>(ok_frontR (t:=2000) (t':=101160) h rfl))<|g_v rfl r_move ?_
 iterate 3 refine g_v rfl (r_extract rfl rfl) ?_
 iterate 3 refine g_v rfl r_assign ?_
 refine g_nil<|d_then ?_
 refine c_flat [(0,.string p0),(2,.pointer (some ⟨g1,0,none⟩)),(4,.pointer (some ⟨g20,0,none⟩)),(6,.pointer (some ⟨g22,0,none⟩)),(22,.slice A113 x109.length c114),(23,.int .i64 x110),(24,.int .i64 x111)] ⟨rfl,rfl,rfl,rfl,rfl,rfl,rfl,trivial⟩ (fun u=>?_)
 refine c_sta ⟨w0,M,(100060,g22,.cells #[.int .i64 x23,.int .i64 x28,.int .i64 x33,.int .i64 x38] 81 (0,0))::(100040,g20,.cells #[.int .u16 x3.fID,.bool x3.fResponse,.bool x3.fAuthoritative,.bool x3.fTruncated,.bool x3.fDesired,.bool x3.fAvailable,.int .i64 x3.fOpcode,.int .i64 x3.fCode,.slice A106 l105.length c107,.slice A9 x3.fAnswers.length c10,.slice A12 x3.fAuthorities.length c13,.slice A15 x3.fExtras.length c16] 26 (0,0))::(100020,g1,.cells #[.int .u16 0,.bool false,.bool false,.bool false,.bool false,.bool false,.int .i64 0,.int .i64 0,.slice none 0 0,.slice none 0 0,.slice none 0 0,.slice none 0 0] 26 (0,0))::H,(101160,⟨.slice A113 x109.length c114,42,5,x109.length,x109.flatMap GRR.enc⟩)::(100370,⟨.slice A106 l105.length c107,29,3,l105.length,l105.flatMap GQuestion.enc⟩)::R,φ18⟩ (fun _ h=>h)<|c_seq<|c_seq<|c_region<|g_v rfl r_move<|g_v rfl (r_neq rfl rfl)<|g_nil<|d_then ?_
 refine c_cond rfl (fun h117=>?_) (fun h117=>?_)
 ·
  replace hm:=ite_t hm (of_decide_eq_true h117)
  refine c_seq<|c_region<|g_v rfl (r_build _ rfl (bld26_23))<|g_v rfl r_move<|g_storeL (tag:=100020) rfl rfl rfl rfl Try.sizeOf26 rfl rfl<|g_v rfl r_assign<|g_nil<|d_then<|c_ret<|d_ret_then ?_
  cases hm
  exact d_retC (none,0,none,0,none,0,none,0) Try.results22 (res_agg (tag:=100020) rfl rfl Try.isAgg26 Try.sizeOf26 (res_tmp (res_nil rfl))) ⟨(Nat.le_refl 0),(Nat.le_refl 0),(Nat.le_refl 0),(Nat.le_refl 0)⟩ (fun W h=>ok_pre (H1:=[_,_,_]) (R1:=[_,_]) h (fun W hφ=>⟨(q18 _ hφ),(fun W _=>Cl.nil _ _) W hφ,(fun W _=>Cl.nil _ _) W hφ,(fun W _=>Cl.nil _ _) W hφ,(fun W _=>Cl.nil _ _) W hφ⟩)) (.inr rfl)
 replace hm:=ite_f hm (of_decide_eq_false h117)
 refine c_skip<|d_then<|c_seq<|c_region<|g_v rfl r_move<|g_v rfl r_move<|g_v rfl (r_elemH (n:=2) Try.underlying81 Try.sizeOf3 rfl rfl (by decide) (by decide) rfl)<|g_v rfl (r_load (tag:=100060) rfl rfl rfl Try.isAgg3) ?_
 replace hm:=bnd hm
 obtain ⟨⟨x118,x119,x120⟩,hx121,hm⟩:=hm
 refine g_cn ⟨w0,M,_,_,φ18⟩ (fun _ h=>h) Try.call47 rfl rfl (c_ref06_records p0 x110 x33 _ hx121) (fun ⟨A122,c123⟩ hc123=>?_)
 refine g_sta _ (fun W h=>(ok_frontR (t:=2000) (t':=101290) h rfl))<|g_v rfl r_move ?_
 iterate 3 refine g_v rfl (r_extract rfl rfl) ?_
 iterate 3 refine g_v rfl r_assign ?_
 refine g_nil<|d_then ?_
 refine c_flat [(0,.string p0),(2,.pointer (some ⟨g1,0,none⟩)),(4,.pointer (some ⟨g20,0,none⟩)),(6,.pointer (some ⟨g22,0,none⟩)),(22,.slice A113 x109.length c114),(25,.slice A122 x118.length c123),(26,.int .i64 x119),(27,.int .i64 x120)] ⟨rfl,rfl,rfl,rfl,rfl,rfl,rfl,rfl,trivial⟩ (fun u=>?_)
 refine c_sta ⟨w0,M,(100060,g22,.cells #[.int .i64 x23,.int .i64 x28,.int .i64 x33,.int .i64 x38] 81 (0,0))::(100040,g20,.cells #[.int .u16 x3.fID,.bool x3.fResponse,.bool x3.fAuthoritative,.bool x3.fTruncated,.bool x3.fDesired,.bool x3.fAvailable,.int .i64 x3.fOpcode,.int .i64 x3.fCode,.slice A106 l105.length c107,.slice A9 x3.fAnswers.length c10,.slice A12 x3.fAuthorities.length c13,.slice A15 x3.fExtras.length c16] 26 (0,0))::(100020,g1,.cells #[.int .u16 0,.bool false,.bool false,.bool false,.bool false,.bool false,.int .i64 0,.int .i64 0,.slice none 0 0,.slice none 0 0,.slice none 0 0,.slice none 0 0] 26 (0,0))::H,(101290,⟨.slice A122 x118.length c123,42,5,x118.length,x118.flatMap GRR.enc⟩)::(101160,⟨.slice A113 x109.length c114,42,5,x109.length,x109.flatMap GRR.enc⟩)::(100370,⟨.slice A106 l105.length c107,29,3,l105.length,l105.flatMap GQuestion.enc⟩)::R,φ18⟩ (fun _ h=>h)<|c_seq<|c_seq<|c_region<|g_v rfl r_move<|g_v rfl (r_neq rfl rfl)<|g_nil<|d_then ?_
 refine c_cond rfl (fun h126=>?_) (fun h126=>?_)
 ·
  replace hm:=ite_t hm (of_decide_eq_true h126)
  refine c_seq<|c_region<|g_v rfl (r_build _ rfl (bld26_23))<|g_v rfl r_move<|g_storeL (tag:=100020) rfl rfl rfl rfl Try.sizeOf26 rfl rfl<|g_v rfl r_assign<|g_nil<|d_then<|c_ret<|d_ret_then ?_
  cases hm
  exact d_retC (none,0,none,0,none,0,none,0) Try.results22 (res_agg (tag:=100020) rfl rfl Try.isAgg26 Try.sizeOf26 (res_tmp (res_nil rfl))) ⟨(Nat.le_refl 0),(Nat.le_refl 0),(Nat.le_refl 0),(Nat.le_refl 0)⟩ (fun W h=>ok_pre (H1:=[_,_,_]) (R1:=[_,_,_]) h (fun W hφ=>⟨(q18 _ hφ),(fun W _=>Cl.nil _ _) W hφ,(fun W _=>Cl.nil _ _) W hφ,(fun W _=>Cl.nil _ _) W hφ,(fun W _=>Cl.nil _ _) W hφ⟩)) (.inr rfl)
 replace hm:=ite_f hm (of_decide_eq_false h126)
 refine c_skip<|d_then<|c_seq<|c_region<|g_v rfl r_move<|g_v rfl r_move<|g_v rfl (r_elemH (n:=3) Try.underlying81 Try.sizeOf3 rfl rfl (by decide) (by decide) rfl)<|g_v rfl (r_load (tag:=100060) rfl rfl rfl Try.isAgg3) ?_
 replace hm:=bnd hm
 obtain ⟨⟨x127,x128,x129⟩,hx130,hm⟩:=hm
 refine g_cn ⟨w0,M,_,_,φ18⟩ (fun _ h=>h) Try.call47 rfl rfl (c_ref06_records p0 x119 x38 _ hx130) (fun ⟨A131,c132⟩ hc132=>?_)
 refine g_sta _ (fun W h=>(ok_frontR (t:=2000) (t':=101420) h rfl))<|g_v rfl r_move ?_
 iterate 3 refine g_v rfl (r_extract rfl rfl) ?_
 iterate 3 refine g_v rfl r_assign ?_
 refine g_nil<|d_then ?_
 refine c_flat [(0,.string p0),(2,.pointer (some ⟨g1,0,none⟩)),(4,.pointer (some ⟨g20,0,none⟩)),(22,.slice A113 x109.length c114),(25,.slice A122 x118.length c123),(28,.slice A131 x127.length c132),(29,.int .i64 x128),(30,.int .i64 x129)] ⟨rfl,rfl,rfl,rfl,rfl,rfl,rfl,rfl,trivial⟩ (fun u=>?_)
 refine c_sta ⟨w0,M,(100060,g22,.cells #[.int .i64 x23,.int .i64 x28,.int .i64 x33,.int .i64 x38] 81 (0,0))::(100040,g20,.cells #[.int .u16 x3.fID,.bool x3.fResponse,.bool x3.fAuthoritative,.bool x3.fTruncated,.bool x3.fDesired,.bool x3.fAvailable,.int .i64 x3.fOpcode,.int .i64 x3.fCode,.slice A106 l105.length c107,.slice A9 x3.fAnswers.length c10,.slice A12 x3.fAuthorities.length c13,.slice A15 x3.fExtras.length c16] 26 (0,0))::(100020,g1,.cells #[.int .u16 0,.bool false,.bool false,.bool false,.bool false,.bool false,.int .i64 0,.int .i64 0,.slice none 0 0,.slice none 0 0,.slice none 0 0,.slice none 0 0] 26 (0,0))::H,(101420,⟨.slice A131 x127.length c132,42,5,x127.length,x127.flatMap GRR.enc⟩)::(101290,⟨.slice A122 x118.length c123,42,5,x118.length,x118.flatMap GRR.enc⟩)::(101160,⟨.slice A113 x109.length c114,42,5,x109.length,x109.flatMap GRR.enc⟩)::(100370,⟨.slice A106 l105.length c107,29,3,l105.length,l105.flatMap GQuestion.enc⟩)::R,φ18⟩ (fun _ h=>h)<|c_seq<|c_seq<|c_region<|g_v rfl r_move<|g_v rfl (r_neq rfl rfl)<|g_nil<|d_then ?_
 refine c_cond rfl (fun h135=>?_) (fun h135=>?_)
 ·
  replace hm:=ite_t hm (of_decide_eq_true h135)
  refine c_seq<|c_region<|g_v rfl (r_build _ rfl (bld26_23))<|g_v rfl r_move<|g_storeL (tag:=100020) rfl rfl rfl rfl Try.sizeOf26 rfl rfl<|g_v rfl r_assign<|g_nil<|d_then<|c_ret<|d_ret_then ?_
  cases hm
  exact d_retC (none,0,none,0,none,0,none,0) Try.results22 (res_agg (tag:=100020) rfl rfl Try.isAgg26 Try.sizeOf26 (res_tmp (res_nil rfl))) ⟨(Nat.le_refl 0),(Nat.le_refl 0),(Nat.le_refl 0),(Nat.le_refl 0)⟩ (fun W h=>ok_pre (H1:=[_,_,_]) (R1:=[_,_,_,_]) h (fun W hφ=>⟨(q18 _ hφ),(fun W _=>Cl.nil _ _) W hφ,(fun W _=>Cl.nil _ _) W hφ,(fun W _=>Cl.nil _ _) W hφ,(fun W _=>Cl.nil _ _) W hφ⟩)) (.inr rfl)
 replace hm:=ite_f hm (of_decide_eq_false h135)
 refine c_skip<|d_then<|c_seq<|c_region<|g_v rfl r_move<|g_v rfl (r_field (n:=9) Try.underlying26 rfl Try.sizeOf24 rfl rfl)<|g_storeL (tag:=100040) rfl rfl rfl rfl Try.sizeOf24 rfl rfl<|g_nil<|d_then<|c_seq ?_
 refine c_region<|g_v rfl r_move<|g_v rfl (r_field (n:=10) Try.underlying26 rfl Try.sizeOf24 rfl rfl)<|g_storeL (tag:=100040) rfl rfl rfl rfl Try.sizeOf24 rfl rfl<|g_nil<|d_then<|c_seq<|c_region<|g_v rfl r_move<|g_v rfl (r_field (n:=11) Try.underlying26 rfl Try.sizeOf24 rfl rfl) ?_
 refine g_storeL (tag:=100040) rfl rfl rfl rfl Try.sizeOf24 rfl rfl<|g_nil<|d_then ?_
 refine c_flat [(0,.string p0),(2,.pointer (some ⟨g1,0,none⟩)),(4,.pointer (some ⟨g20,0,none⟩)),(29,.int .i64 x128)] ⟨rfl,rfl,rfl,rfl,trivial⟩ (fun u=>?_)
 refine c_sta ⟨w0,M,(100060,g22,.cells #[.int .i64 x23,.int .i64 x28,.int .i64 x33,.int .i64 x38] 81 (0,0))::(100040,g20,.cells #[.int .u16 x3.fID,.bool x3.fResponse,.bool x3.fAuthoritative,.bool x3.fTruncated,.bool x3.fDesired,.bool x3.fAvailable,.int .i64 x3.fOpcode,.int .i64 x3.fCode,.slice A106 l105.length c107,.slice A113 x109.length c114,.slice A122 x118.length c123,.slice A131 x127.length c132] 26 (0,0))::(100020,g1,.cells #[.int .u16 0,.bool false,.bool false,.bool false,.bool false,.bool false,.int .i64 0,.int .i64 0,.slice none 0 0,.slice none 0 0,.slice none 0 0,.slice none 0 0] 26 (0,0))::H,(101420,⟨.slice A131 x127.length c132,42,5,x127.length,x127.flatMap GRR.enc⟩)::(101290,⟨.slice A122 x118.length c123,42,5,x118.length,x118.flatMap GRR.enc⟩)::(101160,⟨.slice A113 x109.length c114,42,5,x109.length,x109.flatMap GRR.enc⟩)::(100370,⟨.slice A106 l105.length c107,29,3,l105.length,l105.flatMap GQuestion.enc⟩)::R,φ18⟩ (fun _ h=>h)<|c_seq<|c_seq<|c_region<|g_v rfl r_move<|g_v rfl r_move<|g_v rfl (r_len Try.underlying9 rfl)<|g_v rfl (r_neq rfl rfl)<|g_nil<|d_then ?_
 refine c_cond rfl (fun h136=>?_) (fun h136=>?_)
 ·
  replace hm:=ite_t hm (of_decide_eq_true h136)
  refine c_seq<|c_region<|g_v rfl (r_build _ rfl (bld26_23))<|g_storeL (tag:=100020) rfl rfl rfl rfl Try.sizeOf26 rfl rfl<|g_v rfl r_assign<|g_nil<|d_then<|c_ret<|d_ret_then ?_
  cases hm
  exact d_retC (none,0,none,0,none,0,none,0) Try.results22 (res_agg (tag:=100020) rfl rfl Try.isAgg26 Try.sizeOf26 (res_tmp (res_nil rfl))) ⟨(Nat.le_refl 0),(Nat.le_refl 0),(Nat.le_refl 0),(Nat.le_refl 0)⟩ (fun W h=>ok_pre (H1:=[_,_,_]) (R1:=[_,_,_,_]) h (fun W hφ=>⟨(q18 _ hφ),(fun W _=>Cl.nil _ _) W hφ,(fun W _=>Cl.nil _ _) W hφ,(fun W _=>Cl.nil _ _) W hφ,(fun W _=>Cl.nil _ _) W hφ⟩)) (.inr rfl)
 replace hm:=ite_f hm (of_decide_eq_false h136)
 refine c_skip<|d_then<|c_seq<|c_region<|g_v rfl (r_loadA (tag:=100040) rfl rfl Try.isAgg26 Try.sizeOf26 rfl rfl)<|g_storeL (tag:=100020) rfl rfl rfl rfl Try.sizeOf26 rfl rfl<|g_v rfl r_assign<|g_nil<|d_then<|c_ret ?_
 cases hm
 refine d_shut (tag:=100370) rfl (fun φ137 q137'=>?_)
 have q137 : ∀ W,φ137 W→φ18 W:=fun W h=>(q137' W h).1
 have f138:=fun (W : World) (h : φ137 W)=>(q137' W h).2
 refine d_shut (tag:=101160) rfl (fun φ139 q139'=>?_)
 have q139 : ∀ W,φ139 W→φ137 W:=fun W h=>(q139' W h).1
 have f140:=fun (W : World) (h : φ139 W)=>(q139' W h).2
 refine d_shut (tag:=101290) rfl (fun φ141 q141'=>?_)
 have q141 : ∀ W,φ141 W→φ139 W:=fun W h=>(q141' W h).1
 have f142:=fun (W : World) (h : φ141 W)=>(q141' W h).2
 refine d_shut (tag:=101420) rfl (fun φ143 q143'=>?_)
 have q143 : ∀ W,φ143 W→φ141 W:=fun W h=>(q143' W h).1
 have f144:=fun (W : World) (h : φ143 W)=>(q143' W h).2
 exact d_retC (A106,c107,A113,c114,A122,c123,A131,c132) Try.results22 (res_agg (tag:=100020) rfl rfl Try.isAgg26 Try.sizeOf26 (res_tmp (res_nil rfl))) ⟨hc107,hc114,hc123,hc132⟩ (fun W h=>ok_pre (H1:=[_,_,_]) (R1:=[]) h (fun W hφ=>⟨(q18 _ (q137 _ (q139 _ (q141 _ (q143 _ hφ))))),(fun W h=>f138 W (q139 _ (q141 _ (q143 _ h)))) W hφ,(fun W h=>f140 W (q141 _ (q143 _ h))) W hφ,(fun W h=>f142 W (q143 _ h)) W hφ,(fun W h=>f144 W h) W hφ⟩)) (.inr rfl)
noncomputable def m_law18_AuthBytes (p0 : List GZone) (p1 : ByteArray) : Option Bool:=
  (m_law18_awake).bind fun x1=>
  (m_law18_small p0).bind fun x3=>
  (m_law18_short p1 1500).bind fun x11=>
  (m_auth_Reply x3 x11).bind fun (z18 : ByteArray×Bool)=>
  (m_ref06_Head x11).bind fun (z35 : GMessage×Int)=>
  (m_ref06_Read x11).bind fun (z53 : GMessage×Int)=>
  if z18.2 = true then
    (m_message_Read z18.1).bind fun (z77 : GMessage×Int)=>
    if z77.2 ≠ 0 then
      some false
    else
      if 1232 < (z18.1.size : Int) then
        some false
      else
        if z77.1.fResponse = true then
          if z77.1.fID ≠ z35.1.fID then
            some false
          else
            if z77.1.fOpcode ≠ z35.1.fOpcode then
              some false
            else
              if x1 = true then
                if z53.2 = 0 then
                  if z53.2 ≠ 0 then
                    some true
                  else
                    if z53.1.fResponse = true then
                      some (decide (z77.1.fCode = 1))
                    else
                      some true
                else
                  if z77.1.fCode = 1 then
                    if z35.1.fResponse = true then
                      some false
                    else
                      if (z77.1.fQuestions.length : Int) = 0 then
                        if z53.2 ≠ 0 then
                          some true
                        else
                          if z53.1.fResponse = true then
                            some (decide (z77.1.fCode = 1))
                          else
                            some true
                      else
                        some false
                  else
                    some false
              else
                some false
        else
          some false
  else
    if x1 = true then
      if z18.1 = (⟨#[]⟩ : ByteArray) then
        if z35.2 ≠ 0 then
          some true
        else
          if z53.2 ≠ 0 then
            if z35.1.fResponse = true then
              some true
            else
              some (decide (z53.2 = 0))
          else
            some (decide (z53.2 = 0))
      else
        some false
    else
      some false
theorem c_law18_AuthBytes {w0 : World} {M : Nat→Prop} {H : List (Nat×Nat×Obj)} {R : List (Nat×Row)} {φ : World→Prop} (p0 : List GZone) (Ap0_0 : Option Addr) (cp0_0 : Nat) (psp0_0 : List GZoneP) (hcp0_0 : (DOk GZone.capP p0 psp0_0∧p0.length ≤ cp0_0)) (fp0_0 : ∀ W,(Sta.mk w0 M H R φ).ok W→Cl W Ap0_0 ((p0.zip psp0_0).flatMap GZone.encP)) (fop0_0 : ∀ W,(Sta.mk w0 M H R φ).ok W→DOwn GZone.ownP p0 psp0_0 W) (p1 : ByteArray) (r : Bool) (hm : m_law18_AuthBytes p0 p1 = some r) :
    Cn Try.prog 6 #[.slice Ap0_0 p0.length cp0_0,.string p1] ⟨w0,M,H,R,φ⟩ (fun x : Unit=>.bool r) (fun x=>True) (fun x=>⟨w0,M,H,R,φ⟩):=by
 unfold m_law18_AuthBytes at hm
 refine cn_intro (fn:=Try.f6) (N:=125) Try.func6 rfl Try.ntmps6 rfl<|c_seq<|c_region<|g_v rfl r_assign<|g_nil<|d_then<|c_seq<|c_region ?_
 replace hm:=bnd hm
 obtain ⟨x1,hx2,hm⟩:=hm
 refine g_cn ⟨w0,M,_,_,φ⟩ (fun _ h=>h) Try.call7 rfl rfl (c_law18_awake  _ hx2) (fun _ _=>?_)
 refine g_v rfl r_assign<|g_nil<|d_then<|c_seq<|c_region<|g_v rfl r_move ?_
 replace hm:=bnd hm
 obtain ⟨x3,hx4,hm⟩:=hm
 refine g_cn ⟨w0,M,_,_,φ⟩ (fun _ h=>h) Try.call11 rfl rfl (c_law18_small p0 Ap0_0 cp0_0 psp0_0 ⟨hcp0_0.1,hcp0_0.2⟩ (fun W hS=>fp0_0 W (ok_pre (H1:=[]) (R1:=[]) hS (fun W h=>h))) (fun W hS=>fop0_0 W (ok_pre (H1:=[]) (R1:=[]) hS (fun W h=>h))) _ hx4) (fun ⟨A5,c6,ps8⟩ hc6=>?_)
 refine g_sta _ (fun W h=>(ok_frontR (t:=2000) (t':=100170) h rfl)) ?_
 refine g_abs (fun φ10 q10'=>?_)
 have q10 : ∀ W,φ10 W→φ W:=fun W h=>(q10' W h).1
 have f9:=fun (W : World) (h : φ10 W)=>(q10' W h).2
 refine g_v rfl r_assign<|g_nil<|d_then<|c_seq<|c_region<|g_v rfl r_move ?_
 replace hm:=bnd hm
 obtain ⟨x11,hx12,hm⟩:=hm
 refine g_cn ⟨w0,M,_,_,φ10⟩ (fun _ h=>h) Try.call8 rfl rfl (c_law18_short p1 1500 _ hx12) (fun _ _=>?_)
 refine g_v rfl r_assign<|g_nil<|d_then ?_
 refine c_flat [(1,.string x11),(5,.bool x1),(6,.slice A5 x3.length c6)] ⟨rfl,rfl,rfl,trivial⟩ (fun u=>?_)
 refine c_sta ⟨w0,M,H,(100170,⟨.slice A5 x3.length c6,33,2,x3.length,(x3.zip ps8).flatMap GZone.encP⟩)::R,φ10⟩ (fun _ h=>h)<|c_seq<|c_region<|g_v rfl r_move<|g_v rfl r_move ?_
 refine g_shut (tag:=100170) rfl (fun φ13 q13'=>?_)
 have q13 : ∀ W,φ13 W→φ10 W:=fun W h=>(q13' W h).1
 have f14:=fun (W : World) (h : φ13 W)=>(q13' W h).2
 replace hm:=bnd hm
 obtain ⟨⟨x15,x16⟩,hx17,hm⟩:=hm
 refine g_cn ⟨w0,M,_,_,φ13⟩ (fun _ h=>h) Try.call20 rfl rfl (c_auth_Reply x3 A5 c6 ps8 ⟨hc6.1,hc6.2⟩ (fun W h=>f14 W h) (fun W h=>(f9 W (q13 _ h))) x11 _ hx17) (fun _ _=>?_)
 refine g_v rfl r_move<|g_v rfl (r_extract rfl rfl)<|g_v rfl (r_extract rfl rfl)<|g_v rfl r_assign<|g_v rfl r_assign<|g_nil<|d_then<|c_seq<|c_region<|g_v rfl r_move ?_
 replace hm:=bnd hm
 obtain ⟨⟨x19,x20⟩,hx21,hm⟩:=hm
 refine g_cn ⟨w0,M,_,_,φ13⟩ (fun _ h=>h) Try.call21 rfl rfl (c_ref06_Head x11 _ hx21) (fun ⟨A22,c23,A25,c26,A28,c29,A31,c32⟩ ⟨hc23,hc26,hc29,hc32⟩=>?_)
 refine g_sta _ (fun W h=>(ok_frontR (t:=2000) (t':=100280) h rfl)) ?_
 refine g_abs (fun φ34 q34'=>?_)
 have q34 : ∀ W,φ34 W→φ13 W:=fun W h=>(q34' W h).1
 have f27:=fun (W : World) (h : φ34 W)=>(q34' W h).2.1
 have f30:=fun (W : World) (h : φ34 W)=>(q34' W h).2.2.1
 have f33:=fun (W : World) (h : φ34 W)=>(q34' W h).2.2.2
 refine g_v rfl r_move<|g_v rfl (r_extract rfl rfl)<|g_v rfl (r_extract rfl rfl) ?_
 refine g_e rfl (e_alloc 100090 Try.zeroValue26) (fun g36 _=>?_)
 refine g_storeL (tag:=100090) rfl rfl rfl rfl Try.sizeOf26 rfl rfl<|g_v rfl r_assign<|g_nil<|d_then ?_
 refine c_flat [(1,.string x11),(5,.bool x1),(7,.string x15),(8,.bool x16),(9,.pointer (some ⟨g36,0,none⟩)),(10,.int .i64 x20)] ⟨rfl,rfl,rfl,rfl,rfl,rfl,trivial⟩ (fun u=>?_)
 refine c_sta ⟨w0,M,(100090,g36,.cells #[.int .u16 x19.fID,.bool x19.fResponse,.bool x19.fAuthoritative,.bool x19.fTruncated,.bool x19.fDesired,.bool x19.fAvailable,.int .i64 x19.fOpcode,.int .i64 x19.fCode,.slice A22 x19.fQuestions.length c23,.slice A25 x19.fAnswers.length c26,.slice A28 x19.fAuthorities.length c29,.slice A31 x19.fExtras.length c32] 26 (0,0))::H,(100280,⟨.slice A22 x19.fQuestions.length c23,29,3,x19.fQuestions.length,x19.fQuestions.flatMap GQuestion.enc⟩)::R,φ34⟩ (fun _ h=>h)<|c_seq<|c_region<|g_v rfl r_move ?_
 replace hm:=bnd hm
 obtain ⟨⟨x37,x38⟩,hx39,hm⟩:=hm
 refine g_cn ⟨w0,M,_,_,φ34⟩ (fun _ h=>h) Try.call22 rfl rfl (c_ref06_Read x11 _ hx39) (fun ⟨A40,c41,A43,c44,A46,c47,A49,c50⟩ ⟨hc41,hc44,hc47,hc50⟩=>?_)
 refine g_abs (fun φ52 q52'=>?_)
 have q52 : ∀ W,φ52 W→φ34 W:=fun W h=>(q52' W h).1
 have f42:=fun (W : World) (h : φ52 W)=>(q52' W h).2.1
 have f45:=fun (W : World) (h : φ52 W)=>(q52' W h).2.2.1
 have f48:=fun (W : World) (h : φ52 W)=>(q52' W h).2.2.2.1
 have f51:=fun (W : World) (h : φ52 W)=>(q52' W h).2.2.2.2
 refine g_v rfl r_move<|g_v rfl (r_extract rfl rfl)<|g_v rfl (r_extract rfl rfl) ?_
 refine g_e rfl (e_alloc 100110 Try.zeroValue26) (fun g54 _=>?_)
 refine g_storeL (tag:=100110) rfl rfl rfl rfl Try.sizeOf26 rfl rfl<|g_v rfl r_assign<|g_nil<|d_then<|c_seq<|c_seq<|c_region<|g_v rfl r_move<|g_v rfl (r_not rfl)<|g_nil ?_
 refine d_then ?_
 refine c_flat [(5,.bool x1),(7,.string x15),(9,.pointer (some ⟨g36,0,none⟩)),(10,.int .i64 x20),(11,.pointer (some ⟨g54,0,none⟩)),(12,.int .i64 x38),(37,.bool (!x16))] ⟨rfl,rfl,rfl,rfl,rfl,rfl,rfl,trivial⟩ (fun u=>?_)
 refine c_sta ⟨w0,M,(100110,g54,.cells #[.int .u16 x37.fID,.bool x37.fResponse,.bool x37.fAuthoritative,.bool x37.fTruncated,.bool x37.fDesired,.bool x37.fAvailable,.int .i64 x37.fOpcode,.int .i64 x37.fCode,.slice A40 x37.fQuestions.length c41,.slice A43 x37.fAnswers.length c44,.slice A46 x37.fAuthorities.length c47,.slice A49 x37.fExtras.length c50] 26 (0,0))::(100090,g36,.cells #[.int .u16 x19.fID,.bool x19.fResponse,.bool x19.fAuthoritative,.bool x19.fTruncated,.bool x19.fDesired,.bool x19.fAvailable,.int .i64 x19.fOpcode,.int .i64 x19.fCode,.slice A22 x19.fQuestions.length c23,.slice A25 x19.fAnswers.length c26,.slice A28 x19.fAuthorities.length c29,.slice A31 x19.fExtras.length c32] 26 (0,0))::H,(100280,⟨.slice A22 x19.fQuestions.length c23,29,3,x19.fQuestions.length,x19.fQuestions.flatMap GQuestion.enc⟩)::R,φ52⟩ (fun _ h=>h) ?_
 refine c_cond rfl (fun h55=>?_) (fun h55=>?_)
 ·
  have h55' : x16 = false:=by revert h55; cases x16 <;> simp
  replace hm:=ite_f hm (bool_nt h55')
  refine c_seq<|c_region<|g_v rfl r_move<|g_v rfl r_move ?_
  refine g_if rfl rfl rfl rfl rfl (fun h56=>?_) (fun h56=>?_)
  ·
   replace hm:=ite_t hm h56
   refine g_v rfl r_move<|g_do rfl rfl rfl rfl rfl h56<|g_v rfl (r_eqlT rfl rfl)<|g_v rfl (r_pick1 rfl h56)<|g_v rfl r_move ?_
   refine g_if rfl rfl rfl rfl rfl (fun h57=>?_) (fun h57=>?_)
   ·
    replace hm:=ite_t hm (of_decide_eq_true h57)
    refine g_v rfl r_move<|g_do rfl rfl rfl rfl rfl h57<|g_v rfl (r_neq rfl rfl)<|g_do rfl rfl rfl rfl rfl h57<|g_v rfl r_move ?_
    refine g_if rfl rfl rfl rfl rfl (fun h58=>?_) (fun h58=>?_)
    ·
     replace hm:=ite_f hm (of_decide_eq_false h58)
     refine g_v rfl r_move<|g_do rfl rfl rfl rfl rfl h58<|g_v rfl (r_neq rfl rfl)<|g_do rfl rfl rfl rfl rfl h58<|g_v rfl r_move ?_
     refine g_if rfl rfl rfl rfl rfl (fun h59=>?_) (fun h59=>?_)
     ·
      replace hm:=ite_t hm (of_decide_eq_true h59)
      refine g_v rfl (r_field (n:=1) Try.underlying26 rfl Try.sizeOf4 rfl rfl)<|g_do rfl rfl rfl rfl rfl h59<|g_v rfl (r_load (tag:=100090) rfl rfl rfl Try.isAgg4)<|g_do rfl rfl rfl rfl rfl h58<|g_v rfl (r_pick1 rfl h59)<|g_do rfl rfl rfl rfl rfl h57<|g_v rfl (r_pick0 rfl h58)<|g_do rfl rfl rfl rfl rfl h57<|g_v rfl r_move ?_
      refine g_if rfl rfl rfl rfl rfl (fun h60=>?_) (fun h60=>?_)
      ·
       replace hm:=ite_f hm (bool_nt h60)
       refine g_v rfl r_move<|g_do rfl rfl rfl rfl rfl h60<|g_v rfl (r_eql rfl rfl)<|g_do rfl rfl rfl rfl rfl h57<|g_v rfl (r_pick0 rfl h60)<|g_v rfl (r_pick1 rfl h57)<|g_v rfl r_assign<|g_nil<|d_then ?_
       refine c_flat [(4,.bool (decide (x38 = 0)))] ⟨rfl,trivial⟩ (fun u=>?_)
       refine c_ret<|d_ret_then ?_
       cases hm
       exact d_retC () Try.results6 (res_tmp (res_nil rfl)) trivial (fun W h=>ok_pre (H1:=[_,_]) (R1:=[_]) h (fun W hφ=>(q10 _ (q13 _ (q34 _ (q52 _ hφ)))))) (.inr rfl)
      replace hm:=ite_t hm h60
      refine g_no rfl rfl rfl rfl rfl h60<|g_do rfl rfl rfl rfl rfl h57<|g_v rfl (r_pick1 rfl h60)<|g_v rfl (r_pick1 rfl h57)<|g_v rfl r_assign<|g_nil<|d_then ?_
      refine c_flat [(4,.bool true)] ⟨rfl,trivial⟩ (fun u=>?_)
      refine c_ret<|d_ret_then ?_
      cases hm
      exact d_retC () Try.results6 (res_tmp (res_nil rfl)) trivial (fun W h=>ok_pre (H1:=[_,_]) (R1:=[_]) h (fun W hφ=>(q10 _ (q13 _ (q34 _ (q52 _ hφ)))))) (.inr rfl)
     replace hm:=ite_f hm (of_decide_eq_false h59)
     refine g_no rfl rfl rfl rfl rfl h59<|g_do rfl rfl rfl rfl rfl h58<|g_v rfl (r_pick0 rfl h59)<|g_do rfl rfl rfl rfl rfl h57<|g_v rfl (r_pick0 rfl h58)<|g_do rfl rfl rfl rfl rfl h57<|g_v rfl r_move<|g_do rfl rfl rfl rfl rfl rfl<|g_v rfl r_move<|g_do rfl rfl rfl rfl rfl rfl ?_
     refine g_v rfl (r_eql rfl rfl)<|g_do rfl rfl rfl rfl rfl h57<|g_v rfl (r_pick0 rfl rfl)<|g_v rfl (r_pick1 rfl h57)<|g_v rfl r_assign<|g_nil<|d_then ?_
     refine c_flat [(4,.bool (decide (x38 = 0)))] ⟨rfl,trivial⟩ (fun u=>?_)
     refine c_ret<|d_ret_then ?_
     cases hm
     exact d_retC () Try.results6 (res_tmp (res_nil rfl)) trivial (fun W h=>ok_pre (H1:=[_,_]) (R1:=[_]) h (fun W hφ=>(q10 _ (q13 _ (q34 _ (q52 _ hφ)))))) (.inr rfl)
    replace hm:=ite_t hm (of_decide_eq_true h58)
    refine g_no rfl rfl rfl rfl rfl h58<|g_no rfl rfl rfl rfl rfl h58<|g_nu rfl rfl rfl rfl rfl<|g_nu rfl rfl rfl rfl rfl<|g_no rfl rfl rfl rfl rfl h58<|g_do rfl rfl rfl rfl rfl h57<|g_v rfl (r_pick1 rfl h58)<|g_do rfl rfl rfl rfl rfl h57<|g_v rfl r_move<|g_no rfl rfl rfl rfl rfl rfl ?_
    refine g_no rfl rfl rfl rfl rfl rfl<|g_do rfl rfl rfl rfl rfl h57<|g_v rfl (r_pick1 rfl rfl)<|g_v rfl (r_pick1 rfl h57)<|g_v rfl r_assign<|g_nil<|d_then ?_
    refine c_flat [(4,.bool true)] ⟨rfl,trivial⟩ (fun u=>?_)
    refine c_ret<|d_ret_then ?_
    cases hm
    exact d_retC () Try.results6 (res_tmp (res_nil rfl)) trivial (fun W h=>ok_pre (H1:=[_,_]) (R1:=[_]) h (fun W hφ=>(q10 _ (q13 _ (q34 _ (q52 _ hφ)))))) (.inr rfl)
   replace hm:=ite_f hm (of_decide_eq_false h57)
   refine g_no rfl rfl rfl rfl rfl h57<|g_no rfl rfl rfl rfl rfl h57 ?_
   iterate 6 refine g_nu rfl rfl rfl rfl rfl ?_
   refine g_no rfl rfl rfl rfl rfl h57<|g_no rfl rfl rfl rfl rfl h57<|g_nu rfl rfl rfl rfl rfl<|g_nu rfl rfl rfl rfl rfl<|g_no rfl rfl rfl rfl rfl h57<|g_v rfl (r_pick0 rfl h57)<|g_v rfl r_assign<|g_nil<|d_then<|c_ret ?_
   refine d_ret_then ?_
   cases hm
   exact d_retC () Try.results6 (res_tmp (res_nil rfl)) trivial (fun W h=>ok_pre (H1:=[_,_]) (R1:=[_]) h (fun W hφ=>(q10 _ (q13 _ (q34 _ (q52 _ hφ)))))) (.inr rfl)
  replace hm:=ite_f hm (bool_nt h56)
  refine g_no rfl rfl rfl rfl rfl h56<|g_v rfl (r_pick0 rfl h56)<|g_v rfl r_move ?_
  iterate 3 refine g_no rfl rfl rfl rfl rfl rfl ?_
  iterate 6 refine g_nu rfl rfl rfl rfl rfl ?_
  refine g_no rfl rfl rfl rfl rfl rfl<|g_no rfl rfl rfl rfl rfl rfl<|g_nu rfl rfl rfl rfl rfl<|g_nu rfl rfl rfl rfl rfl<|g_no rfl rfl rfl rfl rfl rfl<|g_v rfl (r_pick0 rfl rfl)<|g_v rfl r_assign<|g_nil<|d_then<|c_ret ?_
  refine d_ret_then ?_
  cases hm
  exact d_retC () Try.results6 (res_tmp (res_nil rfl)) trivial (fun W h=>ok_pre (H1:=[_,_]) (R1:=[_]) h (fun W hφ=>(q10 _ (q13 _ (q34 _ (q52 _ hφ)))))) (.inr rfl)
 have h55' : x16 = true:=by revert h55; cases x16 <;> simp
 replace hm:=ite_t hm h55'
 refine c_skip<|d_then<|c_seq<|c_region<|g_v rfl r_move ?_
 replace hm:=bnd hm
 obtain ⟨⟨x61,x62⟩,hx63,hm⟩:=hm
 refine g_cn ⟨w0,M,_,_,φ52⟩ (fun _ h=>h) Try.call23 rfl rfl (c_message_Read x15 _ hx63) (fun ⟨A64,c65,A67,c68,A70,c71,A73,c74⟩ ⟨hc65,hc68,hc71,hc74⟩=>?_)
 refine g_abs (fun φ76 q76'=>?_)
 have q76 : ∀ W,φ76 W→φ52 W:=fun W h=>(q76' W h).1
 have f66:=fun (W : World) (h : φ76 W)=>(q76' W h).2.1
 have f69:=fun (W : World) (h : φ76 W)=>(q76' W h).2.2.1
 have f72:=fun (W : World) (h : φ76 W)=>(q76' W h).2.2.2.1
 have f75:=fun (W : World) (h : φ76 W)=>(q76' W h).2.2.2.2
 refine g_v rfl r_move<|g_v rfl (r_extract rfl rfl)<|g_v rfl (r_extract rfl rfl) ?_
 refine g_e rfl (e_alloc 100130 Try.zeroValue26) (fun g78 _=>?_)
 refine g_storeL (tag:=100130) rfl rfl rfl rfl Try.sizeOf26 rfl rfl<|g_v rfl r_assign<|g_nil<|d_then<|c_seq<|c_seq<|c_region<|g_v rfl r_move<|g_v rfl (r_neq rfl rfl)<|g_v rfl r_move ?_
 refine g_sta ⟨w0,M,(100130,g78,.cells #[.int .u16 x61.fID,.bool x61.fResponse,.bool x61.fAuthoritative,.bool x61.fTruncated,.bool x61.fDesired,.bool x61.fAvailable,.int .i64 x61.fOpcode,.int .i64 x61.fCode,.slice A64 x61.fQuestions.length c65,.slice A67 x61.fAnswers.length c68,.slice A70 x61.fAuthorities.length c71,.slice A73 x61.fExtras.length c74] 26 (0,0))::(100110,g54,.cells #[.int .u16 x37.fID,.bool x37.fResponse,.bool x37.fAuthoritative,.bool x37.fTruncated,.bool x37.fDesired,.bool x37.fAvailable,.int .i64 x37.fOpcode,.int .i64 x37.fCode,.slice A40 x37.fQuestions.length c41,.slice A43 x37.fAnswers.length c44,.slice A46 x37.fAuthorities.length c47,.slice A49 x37.fExtras.length c50] 26 (0,0))::(100090,g36,.cells #[.int .u16 x19.fID,.bool x19.fResponse,.bool x19.fAuthoritative,.bool x19.fTruncated,.bool x19.fDesired,.bool x19.fAvailable,.int .i64 x19.fOpcode,.int .i64 x19.fCode,.slice A22 x19.fQuestions.length c23,.slice A25 x19.fAnswers.length c26,.slice A28 x19.fAuthorities.length c29,.slice A31 x19.fExtras.length c32] 26 (0,0))::H,(100280,⟨.slice A22 x19.fQuestions.length c23,29,3,x19.fQuestions.length,x19.fQuestions.flatMap GQuestion.enc⟩)::R,φ76⟩ (fun _ h=>h) ?_
 refine g_if rfl rfl rfl rfl rfl (fun h79=>?_) (fun h79=>?_)
 ·
  replace hm:=ite_f hm (of_decide_eq_false h79)
  refine g_v rfl r_move<|g_do rfl rfl rfl rfl rfl h79<|g_v rfl (r_len Try.underlying9 rfl)<|g_do rfl rfl rfl rfl rfl h79<|g_v rfl (r_gtr rfl rfl)<|g_v rfl (r_pick0 rfl h79)<|g_v rfl r_move ?_
  refine g_if rfl rfl rfl rfl rfl (fun h80=>?_) (fun h80=>?_)
  ·
   replace hm:=ite_f hm (of_decide_eq_false h80)
   refine g_v rfl (r_field (n:=1) Try.underlying26 rfl Try.sizeOf4 rfl rfl)<|g_do rfl rfl rfl rfl rfl h80<|g_v rfl (r_load (tag:=100130) rfl rfl rfl Try.isAgg4)<|g_do rfl rfl rfl rfl rfl h80<|g_v rfl (r_not rfl)<|g_v rfl (r_pick0 rfl h80)<|g_v rfl r_move ?_
   refine g_if rfl rfl rfl rfl rfl (fun h81=>?_) (fun h81=>?_)
   ·
    have h81' : x61.fResponse = true:=by revert h81; cases x61.fResponse <;> simp
    replace hm:=ite_t hm h81'
    refine g_v rfl (r_field (n:=0) Try.underlying26 rfl Try.sizeOf22 rfl rfl)<|g_do rfl rfl rfl rfl rfl h81<|g_v rfl (r_load (tag:=100130) rfl rfl rfl Try.isAgg22)<|g_do rfl rfl rfl rfl rfl h81<|g_v rfl (r_field (n:=0) Try.underlying26 rfl Try.sizeOf22 rfl rfl)<|g_do rfl rfl rfl rfl rfl h81<|g_v rfl (r_load (tag:=100090) rfl rfl rfl Try.isAgg22)<|g_do rfl rfl rfl rfl rfl h81<|g_v rfl (r_neq rfl rfl)<|g_v rfl (r_pick0 rfl h81) ?_
    refine g_v rfl r_move ?_
    refine g_if rfl rfl rfl rfl rfl (fun h82=>?_) (fun h82=>?_)
    ·
     replace hm:=ite_f hm (of_decide_eq_false h82)
     refine g_v rfl (r_field (n:=6) Try.underlying26 rfl Try.sizeOf3 rfl rfl)<|g_do rfl rfl rfl rfl rfl h82<|g_v rfl (r_load (tag:=100130) rfl rfl rfl Try.isAgg3)<|g_do rfl rfl rfl rfl rfl h82<|g_v rfl (r_field (n:=6) Try.underlying26 rfl Try.sizeOf3 rfl rfl)<|g_do rfl rfl rfl rfl rfl h82<|g_v rfl (r_load (tag:=100090) rfl rfl rfl Try.isAgg3)<|g_do rfl rfl rfl rfl rfl h82<|g_v rfl (r_neq rfl rfl)<|g_v rfl (r_pick0 rfl h82) ?_
     refine g_nil<|d_then ?_
     refine c_flat [(5,.bool x1),(9,.pointer (some ⟨g36,0,none⟩)),(11,.pointer (some ⟨g54,0,none⟩)),(12,.int .i64 x38),(13,.pointer (some ⟨g78,0,none⟩)),(89,.bool (decide (x61.fOpcode ≠ x19.fOpcode)))] ⟨rfl,rfl,rfl,rfl,rfl,rfl,trivial⟩ (fun u=>?_)
     refine c_cond rfl (fun h83=>?_) (fun h83=>?_)
     ·
      replace hm:=ite_t hm (of_decide_eq_true h83)
      refine c_seq<|c_region<|g_v rfl r_assign<|g_nil<|d_then<|c_ret<|d_ret_then ?_
      cases hm
      exact d_retC () Try.results6 (res_tmp (res_nil rfl)) trivial (fun W h=>ok_pre (H1:=[_,_,_]) (R1:=[_]) h (fun W hφ=>(q10 _ (q13 _ (q34 _ (q52 _ (q76 _ hφ))))))) (.inr rfl)
     replace hm:=ite_f hm (of_decide_eq_false h83)
     refine c_skip<|d_then<|c_seq<|c_region<|g_v rfl r_move<|g_v rfl r_move ?_
     refine g_if rfl rfl rfl rfl rfl (fun h84=>?_) (fun h84=>?_)
     ·
      replace hm:=ite_t hm h84
      refine g_v rfl r_move<|g_do rfl rfl rfl rfl rfl h84<|g_v rfl (r_eql rfl rfl)<|g_do rfl rfl rfl rfl rfl h84<|g_v rfl r_move ?_
      refine g_if rfl rfl rfl rfl rfl (fun h85=>?_) (fun h85=>?_)
      ·
       replace hm:=ite_f hm (of_decide_eq_false h85)
       refine g_v rfl (r_field (n:=7) Try.underlying26 rfl Try.sizeOf3 rfl rfl)<|g_do rfl rfl rfl rfl rfl h85<|g_v rfl (r_load (tag:=100130) rfl rfl rfl Try.isAgg3)<|g_do rfl rfl rfl rfl rfl h85<|g_v rfl (r_eql rfl rfl)<|g_do rfl rfl rfl rfl rfl h85<|g_v rfl r_move ?_
       refine g_if rfl rfl rfl rfl rfl (fun h86=>?_) (fun h86=>?_)
       ·
        replace hm:=ite_t hm (of_decide_eq_true h86)
        refine g_v rfl (r_field (n:=1) Try.underlying26 rfl Try.sizeOf4 rfl rfl)<|g_do rfl rfl rfl rfl rfl h86<|g_v rfl (r_load (tag:=100090) rfl rfl rfl Try.isAgg4)<|g_do rfl rfl rfl rfl rfl h86<|g_v rfl (r_not rfl)<|g_do rfl rfl rfl rfl rfl h85<|g_v rfl (r_pick1 rfl h86)<|g_do rfl rfl rfl rfl rfl h85<|g_v rfl r_move ?_
        refine g_if rfl rfl rfl rfl rfl (fun h87=>?_) (fun h87=>?_)
        ·
         have h87' : x19.fResponse = false:=by revert h87; cases x19.fResponse <;> simp
         replace hm:=ite_f hm (bool_nt h87')
         refine g_v rfl (r_field (n:=8) Try.underlying26 rfl Try.sizeOf23 rfl rfl)<|g_do rfl rfl rfl rfl rfl h87<|g_v rfl (r_load (tag:=100130) rfl rfl rfl Try.isAgg23)<|g_do rfl rfl rfl rfl rfl h87<|g_v rfl (r_lenL Try.underlying23 rfl)<|g_do rfl rfl rfl rfl rfl h87<|g_v rfl (r_eql rfl rfl)<|g_do rfl rfl rfl rfl rfl h85<|g_v rfl (r_pick1 rfl h87)<|g_do rfl rfl rfl rfl rfl h84 ?_
         refine g_v rfl (r_pick0 rfl h85)<|g_v rfl (r_pick1 rfl h84)<|g_v rfl r_move ?_
         refine g_if rfl rfl rfl rfl rfl (fun h88=>?_) (fun h88=>?_)
         ·
          replace hm:=ite_t hm (of_decide_eq_true h88)
          refine g_v rfl r_move<|g_do rfl rfl rfl rfl rfl h88<|g_v rfl (r_neq rfl rfl)<|g_do rfl rfl rfl rfl rfl h88<|g_v rfl r_move ?_
          refine g_if rfl rfl rfl rfl rfl (fun h89=>?_) (fun h89=>?_)
          ·
           replace hm:=ite_f hm (of_decide_eq_false h89)
           refine g_v rfl (r_field (n:=1) Try.underlying26 rfl Try.sizeOf4 rfl rfl)<|g_do rfl rfl rfl rfl rfl h89<|g_v rfl (r_load (tag:=100110) rfl rfl rfl Try.isAgg4)<|g_do rfl rfl rfl rfl rfl h89<|g_v rfl (r_not rfl)<|g_do rfl rfl rfl rfl rfl h88<|g_v rfl (r_pick0 rfl h89)<|g_do rfl rfl rfl rfl rfl h88<|g_v rfl r_move ?_
           refine g_if rfl rfl rfl rfl rfl (fun h90=>?_) (fun h90=>?_)
           ·
            have h90' : x37.fResponse = true:=by revert h90; cases x37.fResponse <;> simp
            replace hm:=ite_t hm h90'
            refine g_v rfl (r_field (n:=7) Try.underlying26 rfl Try.sizeOf3 rfl rfl)<|g_do rfl rfl rfl rfl rfl h90<|g_v rfl (r_load (tag:=100130) rfl rfl rfl Try.isAgg3)<|g_do rfl rfl rfl rfl rfl h90<|g_v rfl (r_eql rfl rfl)<|g_do rfl rfl rfl rfl rfl h88<|g_v rfl (r_pick0 rfl h90)<|g_v rfl (r_pick1 rfl h88)<|g_v rfl r_assign<|g_nil ?_
            refine d_then ?_
            refine c_flat [(4,.bool (decide (x61.fCode = 1)))] ⟨rfl,trivial⟩ (fun u=>?_)
            refine c_ret ?_
            cases hm
            exact d_retC () Try.results6 (res_tmp (res_nil rfl)) trivial (fun W h=>ok_pre (H1:=[_,_,_]) (R1:=[_]) h (fun W hφ=>(q10 _ (q13 _ (q34 _ (q52 _ (q76 _ hφ))))))) (.inr rfl)
           have h90' : x37.fResponse = false:=by revert h90; cases x37.fResponse <;> simp
           replace hm:=ite_f hm (bool_nt h90')
           refine g_no rfl rfl rfl rfl rfl h90<|g_no rfl rfl rfl rfl rfl h90<|g_do rfl rfl rfl rfl rfl h88<|g_v rfl (r_pick1 rfl h90)<|g_v rfl (r_pick1 rfl h88)<|g_v rfl r_assign<|g_nil<|d_then ?_
           refine c_flat [(4,.bool true)] ⟨rfl,trivial⟩ (fun u=>?_)
           refine c_ret ?_
           cases hm
           exact d_retC () Try.results6 (res_tmp (res_nil rfl)) trivial (fun W h=>ok_pre (H1:=[_,_,_]) (R1:=[_]) h (fun W hφ=>(q10 _ (q13 _ (q34 _ (q52 _ (q76 _ hφ))))))) (.inr rfl)
          replace hm:=ite_t hm (of_decide_eq_true h89)
          refine g_no rfl rfl rfl rfl rfl h89<|g_no rfl rfl rfl rfl rfl h89<|g_do rfl rfl rfl rfl rfl h88<|g_v rfl (r_pick1 rfl h89)<|g_do rfl rfl rfl rfl rfl h88<|g_v rfl r_move ?_
          iterate 3 refine g_no rfl rfl rfl rfl rfl rfl ?_
          refine g_do rfl rfl rfl rfl rfl h88<|g_v rfl (r_pick1 rfl rfl)<|g_v rfl (r_pick1 rfl h88)<|g_v rfl r_assign<|g_nil<|d_then ?_
          refine c_flat [(4,.bool true)] ⟨rfl,trivial⟩ (fun u=>?_)
          refine c_ret ?_
          cases hm
          exact d_retC () Try.results6 (res_tmp (res_nil rfl)) trivial (fun W h=>ok_pre (H1:=[_,_,_]) (R1:=[_]) h (fun W hφ=>(q10 _ (q13 _ (q34 _ (q52 _ (q76 _ hφ))))))) (.inr rfl)
         replace hm:=ite_f hm (of_decide_eq_false h88)
         refine g_no rfl rfl rfl rfl rfl h88<|g_no rfl rfl rfl rfl rfl h88 ?_
         iterate 3 refine g_nu rfl rfl rfl rfl rfl ?_
         refine g_no rfl rfl rfl rfl rfl h88<|g_no rfl rfl rfl rfl rfl h88 ?_
         iterate 3 refine g_nu rfl rfl rfl rfl rfl ?_
         refine g_no rfl rfl rfl rfl rfl h88<|g_v rfl (r_pick0 rfl h88)<|g_v rfl r_assign<|g_nil<|d_then ?_
         refine c_flat [(4,.bool false)] ⟨rfl,trivial⟩ (fun u=>?_)
         refine c_ret ?_
         cases hm
         exact d_retC () Try.results6 (res_tmp (res_nil rfl)) trivial (fun W h=>ok_pre (H1:=[_,_,_]) (R1:=[_]) h (fun W hφ=>(q10 _ (q13 _ (q34 _ (q52 _ (q76 _ hφ))))))) (.inr rfl)
        have h87' : x19.fResponse = true:=by revert h87; cases x19.fResponse <;> simp
        replace hm:=ite_t hm h87'
        iterate 3 refine g_no rfl rfl rfl rfl rfl h87 ?_
        refine g_do rfl rfl rfl rfl rfl h85<|g_v rfl (r_pick0 rfl h87)<|g_do rfl rfl rfl rfl rfl h84<|g_v rfl (r_pick0 rfl h85)<|g_v rfl (r_pick1 rfl h84)<|g_v rfl r_move ?_
        iterate 3 refine g_no rfl rfl rfl rfl rfl rfl ?_
        iterate 3 refine g_nu rfl rfl rfl rfl rfl ?_
        refine g_no rfl rfl rfl rfl rfl rfl<|g_no rfl rfl rfl rfl rfl rfl ?_
        iterate 3 refine g_nu rfl rfl rfl rfl rfl ?_
        refine g_no rfl rfl rfl rfl rfl rfl<|g_v rfl (r_pick0 rfl rfl)<|g_v rfl r_assign<|g_nil<|d_then ?_
        refine c_flat [(4,.bool false)] ⟨rfl,trivial⟩ (fun u=>?_)
        refine c_ret ?_
        cases hm
        exact d_retC () Try.results6 (res_tmp (res_nil rfl)) trivial (fun W h=>ok_pre (H1:=[_,_,_]) (R1:=[_]) h (fun W hφ=>(q10 _ (q13 _ (q34 _ (q52 _ (q76 _ hφ))))))) (.inr rfl)
       replace hm:=ite_f hm (of_decide_eq_false h86)
       refine g_no rfl rfl rfl rfl rfl h86<|g_no rfl rfl rfl rfl rfl h86<|g_do rfl rfl rfl rfl rfl h85<|g_v rfl (r_pick0 rfl h86)<|g_do rfl rfl rfl rfl rfl h85<|g_v rfl r_move ?_
       iterate 4 refine g_no rfl rfl rfl rfl rfl rfl ?_
       refine g_do rfl rfl rfl rfl rfl h85<|g_v rfl (r_pick0 rfl rfl)<|g_do rfl rfl rfl rfl rfl h84<|g_v rfl (r_pick0 rfl h85)<|g_v rfl (r_pick1 rfl h84)<|g_v rfl r_move ?_
       iterate 3 refine g_no rfl rfl rfl rfl rfl rfl ?_
       iterate 3 refine g_nu rfl rfl rfl rfl rfl ?_
       refine g_no rfl rfl rfl rfl rfl rfl<|g_no rfl rfl rfl rfl rfl rfl ?_
       iterate 3 refine g_nu rfl rfl rfl rfl rfl ?_
       refine g_no rfl rfl rfl rfl rfl rfl<|g_v rfl (r_pick0 rfl rfl)<|g_v rfl r_assign<|g_nil<|d_then ?_
       refine c_flat [(4,.bool false)] ⟨rfl,trivial⟩ (fun u=>?_)
       refine c_ret ?_
       cases hm
       exact d_retC () Try.results6 (res_tmp (res_nil rfl)) trivial (fun W h=>ok_pre (H1:=[_,_,_]) (R1:=[_]) h (fun W hφ=>(q10 _ (q13 _ (q34 _ (q52 _ (q76 _ hφ))))))) (.inr rfl)
      replace hm:=ite_t hm (of_decide_eq_true h85)
      iterate 3 refine g_no rfl rfl rfl rfl rfl h85 ?_
      iterate 3 refine g_nu rfl rfl rfl rfl rfl ?_
      refine g_no rfl rfl rfl rfl rfl h85<|g_no rfl rfl rfl rfl rfl h85 ?_
      iterate 4 refine g_nu rfl rfl rfl rfl rfl ?_
      refine g_no rfl rfl rfl rfl rfl h85<|g_do rfl rfl rfl rfl rfl h84<|g_v rfl (r_pick1 rfl h85)<|g_v rfl (r_pick1 rfl h84)<|g_v rfl r_move<|g_do rfl rfl rfl rfl rfl rfl<|g_v rfl r_move<|g_do rfl rfl rfl rfl rfl rfl<|g_v rfl (r_neq rfl rfl)<|g_do rfl rfl rfl rfl rfl rfl ?_
      refine g_v rfl r_move ?_
      refine g_if rfl rfl rfl rfl rfl (fun h91=>?_) (fun h91=>?_)
      ·
       replace hm:=ite_f hm (of_decide_eq_false h91)
       refine g_v rfl (r_field (n:=1) Try.underlying26 rfl Try.sizeOf4 rfl rfl)<|g_do rfl rfl rfl rfl rfl h91<|g_v rfl (r_load (tag:=100110) rfl rfl rfl Try.isAgg4)<|g_do rfl rfl rfl rfl rfl h91<|g_v rfl (r_not rfl)<|g_do rfl rfl rfl rfl rfl rfl<|g_v rfl (r_pick0 rfl h91)<|g_do rfl rfl rfl rfl rfl rfl<|g_v rfl r_move ?_
       refine g_if rfl rfl rfl rfl rfl (fun h92=>?_) (fun h92=>?_)
       ·
        have h92' : x37.fResponse = true:=by revert h92; cases x37.fResponse <;> simp
        replace hm:=ite_t hm h92'
        refine g_v rfl (r_field (n:=7) Try.underlying26 rfl Try.sizeOf3 rfl rfl)<|g_do rfl rfl rfl rfl rfl h92<|g_v rfl (r_load (tag:=100130) rfl rfl rfl Try.isAgg3)<|g_do rfl rfl rfl rfl rfl h92<|g_v rfl (r_eql rfl rfl)<|g_do rfl rfl rfl rfl rfl rfl<|g_v rfl (r_pick0 rfl h92)<|g_v rfl (r_pick1 rfl rfl)<|g_v rfl r_assign<|g_nil ?_
        refine d_then ?_
        refine c_flat [(4,.bool (decide (x61.fCode = 1)))] ⟨rfl,trivial⟩ (fun u=>?_)
        refine c_ret ?_
        cases hm
        exact d_retC () Try.results6 (res_tmp (res_nil rfl)) trivial (fun W h=>ok_pre (H1:=[_,_,_]) (R1:=[_]) h (fun W hφ=>(q10 _ (q13 _ (q34 _ (q52 _ (q76 _ hφ))))))) (.inr rfl)
       have h92' : x37.fResponse = false:=by revert h92; cases x37.fResponse <;> simp
       replace hm:=ite_f hm (bool_nt h92')
       refine g_no rfl rfl rfl rfl rfl h92<|g_no rfl rfl rfl rfl rfl h92<|g_do rfl rfl rfl rfl rfl rfl<|g_v rfl (r_pick1 rfl h92)<|g_v rfl (r_pick1 rfl rfl)<|g_v rfl r_assign<|g_nil<|d_then ?_
       refine c_flat [(4,.bool true)] ⟨rfl,trivial⟩ (fun u=>?_)
       refine c_ret ?_
       cases hm
       exact d_retC () Try.results6 (res_tmp (res_nil rfl)) trivial (fun W h=>ok_pre (H1:=[_,_,_]) (R1:=[_]) h (fun W hφ=>(q10 _ (q13 _ (q34 _ (q52 _ (q76 _ hφ))))))) (.inr rfl)
      replace hm:=ite_t hm (of_decide_eq_true h91)
      refine g_no rfl rfl rfl rfl rfl h91<|g_no rfl rfl rfl rfl rfl h91<|g_do rfl rfl rfl rfl rfl rfl<|g_v rfl (r_pick1 rfl h91)<|g_do rfl rfl rfl rfl rfl rfl<|g_v rfl r_move ?_
      iterate 3 refine g_no rfl rfl rfl rfl rfl rfl ?_
      refine g_do rfl rfl rfl rfl rfl rfl<|g_v rfl (r_pick1 rfl rfl)<|g_v rfl (r_pick1 rfl rfl)<|g_v rfl r_assign<|g_nil<|d_then ?_
      refine c_flat [(4,.bool true)] ⟨rfl,trivial⟩ (fun u=>?_)
      refine c_ret ?_
      cases hm
      exact d_retC () Try.results6 (res_tmp (res_nil rfl)) trivial (fun W h=>ok_pre (H1:=[_,_,_]) (R1:=[_]) h (fun W hφ=>(q10 _ (q13 _ (q34 _ (q52 _ (q76 _ hφ))))))) (.inr rfl)
     replace hm:=ite_f hm (bool_nt h84)
     refine g_no rfl rfl rfl rfl rfl h84<|g_no rfl rfl rfl rfl rfl h84 ?_
     iterate 14 refine g_nu rfl rfl rfl rfl rfl ?_
     refine g_no rfl rfl rfl rfl rfl h84<|g_v rfl (r_pick0 rfl h84)<|g_v rfl r_move ?_
     iterate 3 refine g_no rfl rfl rfl rfl rfl rfl ?_
     iterate 3 refine g_nu rfl rfl rfl rfl rfl ?_
     refine g_no rfl rfl rfl rfl rfl rfl<|g_no rfl rfl rfl rfl rfl rfl ?_
     iterate 3 refine g_nu rfl rfl rfl rfl rfl ?_
     refine g_no rfl rfl rfl rfl rfl rfl<|g_v rfl (r_pick0 rfl rfl)<|g_v rfl r_assign<|g_nil<|d_then<|c_ret ?_
     cases hm
     exact d_retC () Try.results6 (res_tmp (res_nil rfl)) trivial (fun W h=>ok_pre (H1:=[_,_,_]) (R1:=[_]) h (fun W hφ=>(q10 _ (q13 _ (q34 _ (q52 _ (q76 _ hφ))))))) (.inr rfl)
    replace hm:=ite_t hm (of_decide_eq_true h82)
    iterate 4 refine g_no rfl rfl rfl rfl rfl h82 ?_
    refine g_v rfl (r_pick1 rfl h82)<|g_nil<|d_then ?_
    refine c_flat [(5,.bool x1),(9,.pointer (some ⟨g36,0,none⟩)),(11,.pointer (some ⟨g54,0,none⟩)),(12,.int .i64 x38),(13,.pointer (some ⟨g78,0,none⟩)),(89,.bool true)] ⟨rfl,rfl,rfl,rfl,rfl,rfl,trivial⟩ (fun u=>?_)
    refine c_cond1 rfl rfl<|c_seq<|c_region<|g_v rfl r_assign<|g_nil<|d_then<|c_ret<|d_ret_then ?_
    cases hm
    exact d_retC () Try.results6 (res_tmp (res_nil rfl)) trivial (fun W h=>ok_pre (H1:=[_,_,_]) (R1:=[_]) h (fun W hφ=>(q10 _ (q13 _ (q34 _ (q52 _ (q76 _ hφ))))))) (.inr rfl)
   have h81' : x61.fResponse = false:=by revert h81; cases x61.fResponse <;> simp
   replace hm:=ite_f hm (bool_nt h81')
   iterate 4 refine g_no rfl rfl rfl rfl rfl h81 ?_
   refine g_v rfl (r_pick1 rfl h81)<|g_v rfl r_move ?_
   iterate 5 refine g_no rfl rfl rfl rfl rfl rfl ?_
   refine g_v rfl (r_pick1 rfl rfl)<|g_nil<|d_then ?_
   refine c_flat [(5,.bool x1),(9,.pointer (some ⟨g36,0,none⟩)),(11,.pointer (some ⟨g54,0,none⟩)),(12,.int .i64 x38),(13,.pointer (some ⟨g78,0,none⟩)),(89,.bool true)] ⟨rfl,rfl,rfl,rfl,rfl,rfl,trivial⟩ (fun u=>?_)
   refine c_cond1 rfl rfl<|c_seq<|c_region<|g_v rfl r_assign<|g_nil<|d_then<|c_ret<|d_ret_then ?_
   cases hm
   exact d_retC () Try.results6 (res_tmp (res_nil rfl)) trivial (fun W h=>ok_pre (H1:=[_,_,_]) (R1:=[_]) h (fun W hφ=>(q10 _ (q13 _ (q34 _ (q52 _ (q76 _ hφ))))))) (.inr rfl)
  replace hm:=ite_t hm (of_decide_eq_true h80)
  refine g_no rfl rfl rfl rfl rfl h80<|g_no rfl rfl rfl rfl rfl h80<|g_v rfl (r_pick1 rfl h80)<|g_v rfl r_move ?_
  iterate 5 refine g_no rfl rfl rfl rfl rfl rfl ?_
  refine g_v rfl (r_pick1 rfl rfl)<|g_v rfl r_move ?_
  iterate 5 refine g_no rfl rfl rfl rfl rfl rfl ?_
  refine g_v rfl (r_pick1 rfl rfl)<|g_nil<|d_then ?_
  refine c_flat [(5,.bool x1),(9,.pointer (some ⟨g36,0,none⟩)),(11,.pointer (some ⟨g54,0,none⟩)),(12,.int .i64 x38),(13,.pointer (some ⟨g78,0,none⟩)),(89,.bool true)] ⟨rfl,rfl,rfl,rfl,rfl,rfl,trivial⟩ (fun u=>?_)
  refine c_cond1 rfl rfl<|c_seq<|c_region<|g_v rfl r_assign<|g_nil<|d_then<|c_ret<|d_ret_then ?_
  cases hm
  exact d_retC () Try.results6 (res_tmp (res_nil rfl)) trivial (fun W h=>ok_pre (H1:=[_,_,_]) (R1:=[_]) h (fun W hφ=>(q10 _ (q13 _ (q34 _ (q52 _ (q76 _ hφ))))))) (.inr rfl)
 replace hm:=ite_t hm (of_decide_eq_true h79)
 refine g_no rfl rfl rfl rfl rfl h79<|g_no rfl rfl rfl rfl rfl h79<|g_v rfl (r_pick1 rfl h79)<|g_v rfl r_move ?_
 iterate 3 refine g_no rfl rfl rfl rfl rfl rfl ?_
 refine g_v rfl (r_pick1 rfl rfl)<|g_v rfl r_move ?_
 iterate 5 refine g_no rfl rfl rfl rfl rfl rfl ?_
 refine g_v rfl (r_pick1 rfl rfl)<|g_v rfl r_move ?_
 iterate 5 refine g_no rfl rfl rfl rfl rfl rfl ?_
 refine g_v rfl (r_pick1 rfl rfl)<|g_nil<|d_then ?_
 refine c_flat [(5,.bool x1),(9,.pointer (some ⟨g36,0,none⟩)),(11,.pointer (some ⟨g54,0,none⟩)),(12,.int .i64 x38),(13,.pointer (some ⟨g78,0,none⟩)),(89,.bool true)] ⟨rfl,rfl,rfl,rfl,rfl,rfl,trivial⟩ (fun u=>?_)
 refine c_cond1 rfl rfl<|c_seq<|c_region<|g_v rfl r_assign<|g_nil<|d_then<|c_ret<|d_ret_then ?_
 cases hm
 exact d_retC () Try.results6 (res_tmp (res_nil rfl)) trivial (fun W h=>ok_pre (H1:=[_,_,_]) (R1:=[_]) h (fun W hφ=>(q10 _ (q13 _ (q34 _ (q52 _ (q76 _ hφ))))))) (.inr rfl)
end Go.Proofs.Ytjbfgaahonmclaa
