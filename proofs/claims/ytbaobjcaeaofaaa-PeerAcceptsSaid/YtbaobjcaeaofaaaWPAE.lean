import Derived.Test.YtbaobjcaeaofaaaWPAD
set_option maxRecDepth 100000
set_option maxHeartbeats 4000000
set_option linter.unusedVariables false
set_option linter.unusedSimpArgs false
namespace Go.Proofs.Ytbaobjcaeaofaaa
open Go.RowKit Go.Proofs.YtbaobjcaeaofaaaW.PrintLast
noncomputable def m_ref20_Accept_j1  (l159 : List GCached) : Option ((List GCached)×Bool):=
  some (l159,true)
noncomputable def m_ref20_Accept_j3 (l192 : List GCached) (x228 : GCached) (i197 : Int) (i239 : Int) : Option (((List GCached)×Int) ⊕ (List GCached)):=
  (app 88 l192 [(⟨x228.fKind,x228.fName,x228.fType,x228.fClass,x228.fRecords,i239,x228.fRank,x228.fEpoch,x228.fSource⟩ : GCached)]).bind fun l243=>
  some (.inl (l243,w64 (i197 + 1)))
noncomputable def m_ref20_Accept_s2 (p1 : GLetter) (x14 : Int) (l192 : List GCached) (i197 : Int) : Option (((List GCached)×Int) ⊕ (List GCached)):=
  if i197 < (p1.fEntries.length : Int) then
    (at_ p1.fEntries i197).bind fun x228=>
    if x14 < x228.fUntil then
      m_ref20_Accept_j3 l192 x228 i197 x14
    else
      m_ref20_Accept_j3 l192 x228 i197 x228.fUntil
  else
    some (.inr l192)
noncomputable def m_ref20_Accept (p0 : GLetter) (p1 : GLetter) (p2 : Int) (p3 : Int) (p4 : Int) : Option ((List GCached)×Bool):=
  if p1.fKind ≠ 2 then
    some (([] : List GCached),false)
  else
    (m_ref20_Check p1).bind fun x4=>
    if x4 ≠ 0 then
      some (([] : List GCached),false)
    else
      if p1.fGood = true then
        if p1.fSerial ≠ p0.fSerial then
          some (([] : List GCached),false)
        else
          if p1.fEpoch < p2 then
            some (([] : List GCached),false)
          else
            (m_ref20_clock p3).bind fun x10=>
            (m_ref20_clock p4).bind fun x12=>
            (m_ref20_clock (w64 (x10 + x12))).bind fun x14=>
            (loop (fun s=>m_ref20_Accept_s2 p1 x14 s.1 s.2) (([] : List GCached),0)).bind fun e=>m_ref20_Accept_j1 e
      else
        some (([] : List GCached),false)
theorem c_ref20_Accept {w0 : World} {M : Nat→Prop} {H : List (Nat×Nat×Obj)} {R : List (Nat×Row)} {φ : World→Prop} (p0 : GLetter) (Ap0_0 : Option Addr) (cp0_0 : Nat) (psp0_0 : List GCachedP) (hcp0_0 : (DOk GCached.capP p0.fEntries psp0_0∧p0.fEntries.length ≤ cp0_0)) (fp0_0 : ∀ W,(Sta.mk w0 M H R φ).ok W→Cl W Ap0_0 ((p0.fEntries.zip psp0_0).flatMap GCached.encP)) (fop0_0 : ∀ W,(Sta.mk w0 M H R φ).ok W→DOwn GCached.ownP p0.fEntries psp0_0 W) (Ap0_1 : Option Addr) (cp0_1 : Nat) (hcp0_1 : p0.fNote.fEntries.length ≤ cp0_1) (fp0_1 : ∀ W,(Sta.mk w0 M H R φ).ok W→Cl W Ap0_1 (p0.fNote.fEntries.flatMap GEntry.enc)) (Ap0_2 : Option Addr) (cp0_2 : Nat) (hcp0_2 : p0.fNote.fVoters.length ≤ cp0_2) (fp0_2 : ∀ W,(Sta.mk w0 M H R φ).ok W→Cl W Ap0_2 (p0.fNote.fVoters.flatMap (fun x : Int=>[Value.int .i64 x]))) (p1 : GLetter) (Ap1_0 : Option Addr) (cp1_0 : Nat) (psp1_0 : List GCachedP) (hcp1_0 : (DOk GCached.capP p1.fEntries psp1_0∧p1.fEntries.length ≤ cp1_0)) (fp1_0 : ∀ W,φ W→Cl W Ap1_0 ((p1.fEntries.zip psp1_0).flatMap GCached.encP)) (fop1_0 : ∀ W,φ W→DOwn GCached.ownP p1.fEntries psp1_0 W) (Ap1_1 : Option Addr) (cp1_1 : Nat) (hcp1_1 : p1.fNote.fEntries.length ≤ cp1_1) (fp1_1 : ∀ W,(Sta.mk w0 M H R φ).ok W→Cl W Ap1_1 (p1.fNote.fEntries.flatMap GEntry.enc)) (Ap1_2 : Option Addr) (cp1_2 : Nat) (hcp1_2 : p1.fNote.fVoters.length ≤ cp1_2) (fp1_2 : ∀ W,(Sta.mk w0 M H R φ).ok W→Cl W Ap1_2 (p1.fNote.fVoters.flatMap (fun x : Int=>[Value.int .i64 x]))) (p2 : Int) (p3 : Int) (p4 : Int) (r : (List GCached)×Bool) (hm : m_ref20_Accept p0 p1 p2 p3 p4 = some r) :
    Cn Try.prog 10 #[.agg #[.int .i64 p0.fKind,.int .i64 p0.fSerial,.int .i64 p0.fEpoch,.string p0.fQuestion.fName,.int .u16 p0.fQuestion.fType,.int .u16 p0.fQuestion.fClass,.bool p0.fGood,.slice Ap0_0 p0.fEntries.length cp0_0,.int .i64 p0.fNote.fKind,.int .i64 p0.fNote.fFrom,.int .i64 p0.fNote.fTo,.int .i64 p0.fNote.fTerm,.int .i64 p0.fNote.fIndex,.int .i64 p0.fNote.fLogTerm,.int .i64 p0.fNote.fCommit,.bool p0.fNote.fGood,.slice Ap0_1 p0.fNote.fEntries.length cp0_1,.slice Ap0_2 p0.fNote.fVoters.length cp0_2,.string p0.fNote.fSnap,.string p0.fText],.agg #[.int .i64 p1.fKind,.int .i64 p1.fSerial,.int .i64 p1.fEpoch,.string p1.fQuestion.fName,.int .u16 p1.fQuestion.fType,.int .u16 p1.fQuestion.fClass,.bool p1.fGood,.slice Ap1_0 p1.fEntries.length cp1_0,.int .i64 p1.fNote.fKind,.int .i64 p1.fNote.fFrom,.int .i64 p1.fNote.fTo,.int .i64 p1.fNote.fTerm,.int .i64 p1.fNote.fIndex,.int .i64 p1.fNote.fLogTerm,.int .i64 p1.fNote.fCommit,.bool p1.fNote.fGood,.slice Ap1_1 p1.fNote.fEntries.length cp1_1,.slice Ap1_2 p1.fNote.fVoters.length cp1_2,.string p1.fNote.fSnap,.string p1.fText],.int .i64 p2,.int .i64 p3,.int .i64 p4] ⟨w0,M,H,R,φ⟩ (fun x : Option Addr×Nat×List GCachedP=>.tuple #[.slice x.1 r.1.length x.2.1,.bool r.2]) (fun x=>(DOk GCached.capP r.1 x.2.2∧r.1.length ≤ x.2.1)) (fun x=>⟨w0,M,H,(2000,⟨.slice x.1 r.1.length x.2.1,41,9,r.1.length,(r.1.zip x.2.2).flatMap GCached.encP⟩)::R,fun W=>φ W∧DOwn GCached.ownP r.1 x.2.2 W⟩):=by
 unfold m_ref20_Accept at hm
 refine cn_intro (fn:=Try.f10) (N:=71) Try.func10 rfl Try.ntmps10 rfl<|c_seq<|c_region ?_
 refine g_e rfl (e_box 100050 rfl) (fun g1 _=>?_)
 refine g_e rfl (e_box 100060 rfl) (fun g2 _=>?_)
 refine g_v rfl r_assign<|g_v rfl r_assign<|g_nil<|d_then<|c_seq<|c_seq<|c_region<|g_v rfl (r_field (n:=0) Try.underlying31 rfl Try.sizeOf3 rfl rfl)<|g_v rfl (r_load (tag:=100060) rfl rfl rfl Try.isAgg3)<|g_v rfl (r_neq rfl rfl) ?_
 refine g_v rfl r_move<|g_sta ⟨w0,M,(100060,g2,.cells #[.int .i64 p1.fKind,.int .i64 p1.fSerial,.int .i64 p1.fEpoch,.string p1.fQuestion.fName,.int .u16 p1.fQuestion.fType,.int .u16 p1.fQuestion.fClass,.bool p1.fGood,.slice Ap1_0 p1.fEntries.length cp1_0,.int .i64 p1.fNote.fKind,.int .i64 p1.fNote.fFrom,.int .i64 p1.fNote.fTo,.int .i64 p1.fNote.fTerm,.int .i64 p1.fNote.fIndex,.int .i64 p1.fNote.fLogTerm,.int .i64 p1.fNote.fCommit,.bool p1.fNote.fGood,.slice Ap1_1 p1.fNote.fEntries.length cp1_1,.slice Ap1_2 p1.fNote.fVoters.length cp1_2,.string p1.fNote.fSnap,.string p1.fText] 31 (0,0))::(100050,g1,.cells #[.int .i64 p0.fKind,.int .i64 p0.fSerial,.int .i64 p0.fEpoch,.string p0.fQuestion.fName,.int .u16 p0.fQuestion.fType,.int .u16 p0.fQuestion.fClass,.bool p0.fGood,.slice Ap0_0 p0.fEntries.length cp0_0,.int .i64 p0.fNote.fKind,.int .i64 p0.fNote.fFrom,.int .i64 p0.fNote.fTo,.int .i64 p0.fNote.fTerm,.int .i64 p0.fNote.fIndex,.int .i64 p0.fNote.fLogTerm,.int .i64 p0.fNote.fCommit,.bool p0.fNote.fGood,.slice Ap0_1 p0.fNote.fEntries.length cp0_1,.slice Ap0_2 p0.fNote.fVoters.length cp0_2,.string p0.fNote.fSnap,.string p0.fText] 31 (0,0))::H,R,φ⟩ (fun _ h=>h) ?_
 refine g_if rfl rfl rfl rfl rfl (fun h3=>?_) (fun h3=>?_)
 ·
  replace hm:=ite_f hm (of_decide_eq_false h3)
  refine g_v rfl (r_loadA (tag:=100060) rfl rfl Try.isAgg31 Try.sizeOf31 rfl rfl)<|g_do rfl rfl rfl rfl rfl h3 ?_
  replace hm:=bnd hm
  obtain ⟨x4,hx5,hm⟩:=hm
  refine g_cn ⟨w0,M,_,_,φ⟩ (fun _ h=>h) Try.call21 rfl rfl (c_ref20_Check p1 Ap1_0 cp1_0 psp1_0 ⟨hcp1_0.1,hcp1_0.2⟩ (fun W hS=>fp1_0 W hS.now) (fun W hS=>(fop1_0 W hS.now)) Ap1_1 cp1_1 hcp1_1 (fun W hS=>fp1_1 W (ok_pre (H1:=[_,_]) (R1:=[]) hS (fun W h=>h))) Ap1_2 cp1_2 hcp1_2 (fun W hS=>fp1_2 W (ok_pre (H1:=[_,_]) (R1:=[]) hS (fun W h=>h))) _ hx5) (fun _ _=>?_)
  refine g_do rfl rfl rfl rfl rfl h3<|g_v rfl (r_neq rfl rfl)<|g_v rfl (r_pick0 rfl h3)<|g_v rfl r_move ?_
  refine g_if rfl rfl rfl rfl rfl (fun h6=>?_) (fun h6=>?_)
  ·
   replace hm:=ite_f hm (of_decide_eq_false h6)
   refine g_v rfl (r_field (n:=6) Try.underlying31 rfl Try.sizeOf4 rfl rfl)<|g_do rfl rfl rfl rfl rfl h6<|g_v rfl (r_load (tag:=100060) rfl rfl rfl Try.isAgg4)<|g_do rfl rfl rfl rfl rfl h6<|g_v rfl (r_not rfl)<|g_v rfl (r_pick0 rfl h6)<|g_v rfl r_move ?_
   refine g_if rfl rfl rfl rfl rfl (fun h7=>?_) (fun h7=>?_)
   ·
    have h7' : p1.fGood = true:=by revert h7; cases p1.fGood <;> simp
    replace hm:=ite_t hm h7'
    refine g_v rfl (r_field (n:=1) Try.underlying31 rfl Try.sizeOf3 rfl rfl)<|g_do rfl rfl rfl rfl rfl h7<|g_v rfl (r_load (tag:=100060) rfl rfl rfl Try.isAgg3)<|g_do rfl rfl rfl rfl rfl h7<|g_v rfl (r_field (n:=1) Try.underlying31 rfl Try.sizeOf3 rfl rfl)<|g_do rfl rfl rfl rfl rfl h7<|g_v rfl (r_load (tag:=100050) rfl rfl rfl Try.isAgg3)<|g_do rfl rfl rfl rfl rfl h7<|g_v rfl (r_neq rfl rfl)<|g_v rfl (r_pick0 rfl h7) ?_
    refine g_v rfl r_move ?_
    refine g_if rfl rfl rfl rfl rfl (fun h8=>?_) (fun h8=>?_)
    ·
     replace hm:=ite_f hm (of_decide_eq_false h8)
     refine g_v rfl (r_field (n:=2) Try.underlying31 rfl Try.sizeOf3 rfl rfl)<|g_do rfl rfl rfl rfl rfl h8<|g_v rfl (r_load (tag:=100060) rfl rfl rfl Try.isAgg3)<|g_do rfl rfl rfl rfl rfl h8<|g_v rfl r_move<|g_do rfl rfl rfl rfl rfl h8<|g_v rfl (r_lss rfl rfl)<|g_v rfl (r_pick0 rfl h8)<|g_nil<|d_then ?_
     refine c_flat [(3,.int .i64 p3),(4,.int .i64 p4),(6,.pointer (some ⟨g2,0,none⟩)),(41,.bool (decide (p1.fEpoch < p2)))] ⟨rfl,rfl,rfl,rfl,trivial⟩ (fun u=>?_)
     refine c_cond rfl (fun h9=>?_) (fun h9=>?_)
     ·
      replace hm:=ite_t hm (of_decide_eq_true h9)
      refine c_seq<|c_region<|g_v rfl r_assign<|g_v rfl r_assign<|g_nil<|d_then<|c_ret<|d_ret_then ?_
      cases hm
      refine d_sta _ (fun W h=>nilR h 11 41 9)<|d_sta _ (fun W h=>ok_frontR (t:=11) (t':=2000) h rfl) ?_
      exact d_retC (none,0,([] : List GCachedP)) Try.results10 (res_tmp (res_tmp (res_nil rfl))) ⟨DOk.nil,(Nat.le_refl 0)⟩ (fun W h=>((h.dropH (t:=100060) rfl).dropH (t:=100050) rfl).phi (fun W hφ=>⟨hφ,(fun W h=>DOwn.nil) W hφ⟩)) (.inr rfl)
     replace hm:=ite_f hm (of_decide_eq_false h9)
     refine c_skip<|d_then<|c_seq<|c_region<|g_v rfl r_move ?_
     replace hm:=bnd hm
     obtain ⟨x10,hx11,hm⟩:=hm
     refine g_cn ⟨w0,M,_,_,φ⟩ (fun _ h=>h) Try.call22 rfl rfl (c_ref20_clock p3 _ hx11) (fun _ _=>?_)
     refine g_v rfl r_move ?_
     replace hm:=bnd hm
     obtain ⟨x12,hx13,hm⟩:=hm
     refine g_cn ⟨w0,M,_,_,φ⟩ (fun _ h=>h) Try.call22 rfl rfl (c_ref20_clock p4 _ hx13) (fun _ _=>?_)
     refine g_v rfl (r_add rfl rfl rfl) ?_
     replace hm:=bnd hm
     obtain ⟨x14,hx15,hm⟩:=hm
     refine g_cn ⟨w0,M,_,_,φ⟩ (fun _ h=>h) Try.call22 rfl rfl (c_ref20_clock (w64 (x10 + x12)) _ hx15) (fun _ _=>?_)
     refine g_v rfl r_assign<|g_nil<|d_then<|c_seq<|c_region<|g_v rfl r_assign<|g_nil<|d_then<|c_seq<|c_seq ?_
     refine c_region<|g_v rfl r_assign<|g_nil<|d_then ?_
     refine c_flat [(6,.pointer (some ⟨g2,0,none⟩)),(12,.int .i64 x14),(13,.slice none 0 0),(14,.int .i64 0)] ⟨rfl,rfl,rfl,rfl,trivial⟩ (fun u=>?_)
     refine c_sta _ (fun W h=>nilR h 14 41 9) ?_
     refine c_cut (ι:=(List GCached)×Option Addr×Nat×List GCachedP) [13] (fun ⟨l159,A160,c161,ps162⟩=>[(13,.slice A160 l159.length c161)]) (fun ⟨l159,A160,c161,ps162⟩=>⟨w0,M,H,(14,⟨.slice A160 l159.length c161,41,9,l159.length,(l159.zip ps162).flatMap GCached.encP⟩)::R,fun W=>φ W∧DOwn GCached.ownP l159 ps162 W⟩) (fun ⟨l159,A160,c161,ps162⟩=>m_ref20_Accept_j1 l159 = some r∧(DOk GCached.capP l159 ps162∧l159.length ≤ c161)) ?_ (fun ⟨l159,A160,c161,ps162⟩ u ⟨hm,hc161⟩=>?_)
     ·
      refine c_block ?_
      replace hm:=bnd hm
      obtain ⟨out2,hl2,hr2⟩:=hm
      obtain ⟨n225',hl2⟩:=loop_lp hl2
      refine c_loopU (ι:=Nat×(List GCached)×Int×Option Addr×Nat×List GCachedP) [6,12,13,14] (fun ⟨n225,l192,i197,A193,c194,ps195⟩=>[(13,.slice A193 l192.length c194),(14,.int .i64 i197)]) (fun ⟨n225,l192,i197,A193,c194,ps195⟩=>⟨w0,M,(100060,g2,.cells #[.int .i64 p1.fKind,.int .i64 p1.fSerial,.int .i64 p1.fEpoch,.string p1.fQuestion.fName,.int .u16 p1.fQuestion.fType,.int .u16 p1.fQuestion.fClass,.bool p1.fGood,.slice Ap1_0 p1.fEntries.length cp1_0,.int .i64 p1.fNote.fKind,.int .i64 p1.fNote.fFrom,.int .i64 p1.fNote.fTo,.int .i64 p1.fNote.fTerm,.int .i64 p1.fNote.fIndex,.int .i64 p1.fNote.fLogTerm,.int .i64 p1.fNote.fCommit,.bool p1.fNote.fGood,.slice Ap1_1 p1.fNote.fEntries.length cp1_1,.slice Ap1_2 p1.fNote.fVoters.length cp1_2,.string p1.fNote.fSnap,.string p1.fText] 31 (0,0))::H,(14,⟨.slice A193 l192.length c194,41,9,l192.length,(l192.zip ps195).flatMap GCached.encP⟩)::R,fun W=>φ W∧DOwn GCached.ownP l192 ps195 W⟩) (fun ⟨n225,l192,i197,A193,c194,ps195⟩=>Lp (fun s=>m_ref20_Accept_s2 p1 x14 s.1 s.2) n225 (l192,i197) out2∧(DOk GCached.capP l192 ps195∧l192.length ≤ c194)) (fun ⟨n225,l192,i197,A193,c194,ps195⟩=>n225) (n225',([] : List GCached),0,none,0,([] : List GCachedP)) ⟨hl2,⟨DOk.nil,(Nat.le_refl 0)⟩⟩ ⟨rfl,rfl,rfl,rfl,trivial⟩ (fun W h=>(h.dropH (t:=100050) rfl).phi (fun W hφ=>⟨hφ,(fun W h=>DOwn.nil) W hφ⟩)) (fun ⟨n225,l192,i197,A193,c194,ps195⟩ u ⟨hlp,hc194⟩=>?_)
      obtain ⟨o2,hm,hnx2⟩:=lp_step hlp
      clear hlp
      replace hm : m_ref20_Accept_s2 p1 x14 l192 i197 = some o2:=hm
      unfold m_ref20_Accept_s2 at hm
      refine c_abs (fun φ226 q226'=>?_)
      have q226 : ∀ W,φ226 W→φ W:=fun W h=>(q226' W h).1
      have f196:=fun (W : World) (h : φ226 W)=>(q226' W h).2
      refine c_flat [(6,.pointer (some ⟨g2,0,none⟩)),(12,.int .i64 x14),(13,.slice A193 l192.length c194),(14,.int .i64 i197)] ⟨rfl,rfl,rfl,rfl,trivial⟩ (fun u=>?_)
      refine c_sta ⟨w0,M,(100060,g2,.cells #[.int .i64 p1.fKind,.int .i64 p1.fSerial,.int .i64 p1.fEpoch,.string p1.fQuestion.fName,.int .u16 p1.fQuestion.fType,.int .u16 p1.fQuestion.fClass,.bool p1.fGood,.slice Ap1_0 p1.fEntries.length cp1_0,.int .i64 p1.fNote.fKind,.int .i64 p1.fNote.fFrom,.int .i64 p1.fNote.fTo,.int .i64 p1.fNote.fTerm,.int .i64 p1.fNote.fIndex,.int .i64 p1.fNote.fLogTerm,.int .i64 p1.fNote.fCommit,.bool p1.fNote.fGood,.slice Ap1_1 p1.fNote.fEntries.length cp1_1,.slice Ap1_2 p1.fNote.fVoters.length cp1_2,.string p1.fNote.fSnap,.string p1.fText] 31 (0,0))::H,(14,⟨.slice A193 l192.length c194,41,9,l192.length,(l192.zip ps195).flatMap GCached.encP⟩)::R,φ226⟩ (fun _ h=>h)<|c_seq<|c_seq<|c_region<|g_v rfl r_move<|g_v rfl (r_field (n:=7) Try.underlying31 rfl Try.sizeOf25 rfl rfl)<|g_v rfl (r_load (tag:=100060) rfl rfl rfl Try.isAgg25)<|g_v rfl (r_lenL Try.underlying25 rfl)<|g_v rfl (r_lss rfl rfl)<|g_nil ?_
      refine d_then ?_
      refine c_cond rfl (fun h227=>?_) (fun h227=>?_)
      ·
       replace hm:=ite_t hm (of_decide_eq_true h227)
       refine c_skip<|d_then<|c_seq<|c_block<|c_seq<|c_region<|g_v rfl (r_field (n:=7) Try.underlying31 rfl Try.sizeOf25 rfl rfl)<|g_v rfl (r_load (tag:=100060) rfl rfl rfl Try.isAgg25)<|g_v rfl r_move ?_
       replace hm:=bnd hm
       obtain ⟨x228,hx228,hm⟩:=hm
       obtain ⟨pp232,hv233,hz234,hcp235⟩:=DOk.at_ hcp1_0.1 hx228
       refine g_know _ (fun W hS=>cl_at (p:=φ) (sz:=9) (fun _=>rfl) (by decide) (q226 _ hS.now) fp1_0 hv233) ?_
       rintro ⟨ad229,hA231,f230⟩
       have f236:=fun (W : World) (h : φ W)=>(fop1_0 W h _ hz234)
       refine g_v rfl (r_ix Try.underlying25 Try.sizeOf41 rfl hA231 rfl hx228)<|g_v rfl (r_ldA rfl Try.isAgg41 Try.sizeOf41 (fun W hS=>(f230 W (q226 _ hS.now)).take 9) rfl) ?_
       refine g_e rfl (e_alloc 100150 Try.zeroValue41) (fun g237 _=>?_)
       refine g_storeL (tag:=100150) rfl rfl rfl rfl Try.sizeOf41 rfl rfl<|g_nil<|d_then ?_
       refine c_flat [(6,.pointer (some ⟨g2,0,none⟩)),(12,.int .i64 x14),(13,.slice A193 l192.length c194),(14,.int .i64 i197),(15,.pointer (some ⟨g237,0,none⟩))] ⟨rfl,rfl,rfl,rfl,rfl,trivial⟩ (fun u=>?_)
       refine c_sta ⟨w0,M,(100150,g237,.cells #[.int .i64 x228.fKind,.string x228.fName,.int .u16 x228.fType,.int .u16 x228.fClass,.slice pp232.pA0 x228.fRecords.length pp232.pC0,.int .i64 x228.fUntil,.int .i64 x228.fRank,.int .i64 x228.fEpoch,.int .i64 x228.fSource] 41 (0,0))::(100060,g2,.cells #[.int .i64 p1.fKind,.int .i64 p1.fSerial,.int .i64 p1.fEpoch,.string p1.fQuestion.fName,.int .u16 p1.fQuestion.fType,.int .u16 p1.fQuestion.fClass,.bool p1.fGood,.slice Ap1_0 p1.fEntries.length cp1_0,.int .i64 p1.fNote.fKind,.int .i64 p1.fNote.fFrom,.int .i64 p1.fNote.fTo,.int .i64 p1.fNote.fTerm,.int .i64 p1.fNote.fIndex,.int .i64 p1.fNote.fLogTerm,.int .i64 p1.fNote.fCommit,.bool p1.fNote.fGood,.slice Ap1_1 p1.fNote.fEntries.length cp1_1,.slice Ap1_2 p1.fNote.fVoters.length cp1_2,.string p1.fNote.fSnap,.string p1.fText] 31 (0,0))::H,(14,⟨.slice A193 l192.length c194,41,9,l192.length,(l192.zip ps195).flatMap GCached.encP⟩)::R,φ226⟩ (fun _ h=>h)<|c_seq ?_
       refine c_cut (ι:=Int) [6,12,13,14,15] (fun i239=>[]) (fun i239=>⟨w0,M,(100150,g237,.cells #[.int .i64 x228.fKind,.string x228.fName,.int .u16 x228.fType,.int .u16 x228.fClass,.slice pp232.pA0 x228.fRecords.length pp232.pC0,.int .i64 i239,.int .i64 x228.fRank,.int .i64 x228.fEpoch,.int .i64 x228.fSource] 41 (0,0))::(100060,g2,.cells #[.int .i64 p1.fKind,.int .i64 p1.fSerial,.int .i64 p1.fEpoch,.string p1.fQuestion.fName,.int .u16 p1.fQuestion.fType,.int .u16 p1.fQuestion.fClass,.bool p1.fGood,.slice Ap1_0 p1.fEntries.length cp1_0,.int .i64 p1.fNote.fKind,.int .i64 p1.fNote.fFrom,.int .i64 p1.fNote.fTo,.int .i64 p1.fNote.fTerm,.int .i64 p1.fNote.fIndex,.int .i64 p1.fNote.fLogTerm,.int .i64 p1.fNote.fCommit,.bool p1.fNote.fGood,.slice Ap1_1 p1.fNote.fEntries.length cp1_1,.slice Ap1_2 p1.fNote.fVoters.length cp1_2,.string p1.fNote.fSnap,.string p1.fText] 31 (0,0))::H,(14,⟨.slice A193 l192.length c194,41,9,l192.length,(l192.zip ps195).flatMap GCached.encP⟩)::R,φ226⟩) (fun i239=>m_ref20_Accept_j3 l192 x228 i197 i239 = some o2) ?_ (fun i239 u hm=>?_)
       ·
        refine c_seq<|c_region<|g_v rfl (r_field (n:=5) Try.underlying41 rfl Try.sizeOf3 rfl rfl)<|g_v rfl (r_load (tag:=100150) rfl rfl rfl Try.isAgg3)<|g_v rfl r_move<|g_v rfl (r_gtr rfl rfl)<|g_nil<|d_then ?_
        refine c_cond rfl (fun h249=>?_) (fun h249=>?_)
        ·
         replace hm:=ite_t hm (of_decide_eq_true h249)
         refine c_region<|g_v rfl r_move<|g_v rfl (r_field (n:=5) Try.underlying41 rfl Try.sizeOf3 rfl rfl)<|g_storeL (tag:=100150) rfl rfl rfl rfl Try.sizeOf3 rfl rfl<|g_nil ?_
         exact d_round x14 hm Nat.zero_lt_one ⟨rfl,rfl,rfl,rfl,rfl,trivial⟩ (fun W h=>h.phi (fun W hφ=>hφ))
        replace hm:=ite_f hm (of_decide_eq_false h249)
        refine c_skip ?_
        exact d_round x228.fUntil hm Nat.zero_lt_one ⟨rfl,rfl,rfl,rfl,rfl,trivial⟩ (fun W h=>h.phi (fun W hφ=>hφ))
       unfold m_ref20_Accept_j3 at hm
       refine d_flat [(6,.pointer (some ⟨g2,0,none⟩)),(12,.int .i64 x14),(13,.slice A193 l192.length c194),(14,.int .i64 i197),(15,.pointer (some ⟨g237,0,none⟩))] ⟨rfl,rfl,rfl,rfl,rfl,trivial⟩ (fun u=>?_)
       refine d_sta ⟨w0,M,(100150,g237,.cells #[.int .i64 x228.fKind,.string x228.fName,.int .u16 x228.fType,.int .u16 x228.fClass,.slice pp232.pA0 x228.fRecords.length pp232.pC0,.int .i64 i239,.int .i64 x228.fRank,.int .i64 x228.fEpoch,.int .i64 x228.fSource] 41 (0,0))::(100060,g2,.cells #[.int .i64 p1.fKind,.int .i64 p1.fSerial,.int .i64 p1.fEpoch,.string p1.fQuestion.fName,.int .u16 p1.fQuestion.fType,.int .u16 p1.fQuestion.fClass,.bool p1.fGood,.slice Ap1_0 p1.fEntries.length cp1_0,.int .i64 p1.fNote.fKind,.int .i64 p1.fNote.fFrom,.int .i64 p1.fNote.fTo,.int .i64 p1.fNote.fTerm,.int .i64 p1.fNote.fIndex,.int .i64 p1.fNote.fLogTerm,.int .i64 p1.fNote.fCommit,.bool p1.fNote.fGood,.slice Ap1_1 p1.fNote.fEntries.length cp1_1,.slice Ap1_2 p1.fNote.fVoters.length cp1_2,.string p1.fNote.fSnap,.string p1.fText] 31 (0,0))::H,(14,⟨.slice A193 l192.length c194,41,9,l192.length,(l192.zip ps195).flatMap GCached.encP⟩)::R,φ226⟩ (fun _ h=>h)<|d_then<|c_region<|g_v rfl r_move<|g_v rfl (r_loadA (tag:=100150) rfl rfl Try.isAgg41 Try.sizeOf41 rfl rfl) ?_
       have hk241:=(DOk.cons (cap:=GCached.capP) (x:=(⟨x228.fKind,x228.fName,x228.fType,x228.fClass,x228.fRecords,i239,x228.fRank,x228.fEpoch,x228.fSource⟩ : GCached)) (p:=(⟨pp232.pA0,pp232.pC0⟩ : GCachedP)) (hcp235) DOk.nil)
       have f242:=fun (W : World) (h : φ226 W)=>(DOwn.cons (own:=GCached.ownP) (x:=(⟨x228.fKind,x228.fName,x228.fType,x228.fClass,x228.fRecords,i239,x228.fRank,x228.fEpoch,x228.fSource⟩ : GCached)) (p:=(⟨pp232.pA0,pp232.pC0⟩ : GCachedP)) (f236 W (q226 _ h)) DOwn.nil)
       refine g_e rfl (e_litD (tag:=100680) (enc:=GCached.encP) (sz:=9) hk241 rfl Try.underlying25 (lit41_27 _ _ _ _ _ _ _ _ _ _ _) rfl rfl (fun _=>rfl)) (fun g240 _=>?_)
       replace hm:=bnd hm
       obtain ⟨l243,hl243,hm⟩:=hm
       have hk246:=DOk.app (cap:=GCached.capP) hc194.1 hk241 hl243
       have f247:=fun (W : World) (h : φ226 W)=>DOwn.app (own:=GCached.ownP) (cap:=GCached.capP) hc194.1 hl243 (f196 W h) (f242 W h)
       refine g_e rfl (e_appRD (enc:=GCached.encP) (l:=l192) (l1:=[(⟨x228.fKind,x228.fName,x228.fType,x228.fClass,x228.fRecords,i239,x228.fRank,x228.fEpoch,x228.fSource⟩ : GCached)]) (l2:=l243) (tag:=14) hc194.1 hk241 Try.underlying25 inf41_30 rfl (by decide) (by decide) (fun _=>rfl) (fun _=>rfl) rfl hc194.2 rfl rfl (fun W hS=>rowCl (tag:=100680) rfl W hS) hl243) (fun ⟨A244,c245⟩ hc245=>?_)
       refine g_v rfl r_assign<|g_nil<|d_normal_block<|d_then<|c_region<|g_v rfl r_move<|g_v rfl (r_add rfl rfl rfl)<|g_v rfl r_assign<|g_nil ?_
       obtain ⟨n248,hn248,hlp⟩:=nx_inl hm hnx2
       exact d_round (n248,l243,w64 (i197 + 1),A244,c245,(ps195++[(⟨pp232.pA0,pp232.pC0⟩ : GCachedP)])) ⟨hlp,⟨hk246,hc245⟩⟩ hn248 ⟨rfl,rfl,rfl,rfl,trivial⟩ (fun W h=>((h.dropR (t:=100680) rfl).dropH (t:=100150) rfl).phi (fun W hφ=>⟨(q226 _ hφ),(fun W h=>(f247 W h)) W hφ⟩))
      replace hm:=ite_f hm (of_decide_eq_false h227)
      refine c_exit<|d_exit_then<|d_exit_then<|d_exit_block ?_
      replace hm:=nx_out (C:=(fun e : (List GCached)=>m_ref20_Accept_j1 e = some r)) hm hnx2 hr2
      exact d_round (l192,A193,c194,ps195) ⟨hm,⟨hc194.1,hc194.2⟩⟩ Nat.zero_lt_one ⟨rfl,trivial⟩ (fun W h=>(h.dropH (t:=100060) rfl).phi (fun W hφ=>⟨(q226 _ hφ),(fun W h=>(f196 W h)) W hφ⟩))
     unfold m_ref20_Accept_j1 at hm
     refine d_abs (fun φ164 q164'=>?_)
     have q164 : ∀ W,φ164 W→φ W:=fun W h=>(q164' W h).1
     have f163:=fun (W : World) (h : φ164 W)=>(q164' W h).2
     refine d_flat [(13,.slice A160 l159.length c161)] ⟨rfl,trivial⟩ (fun u=>?_)
     refine d_sta ⟨w0,M,H,(14,⟨.slice A160 l159.length c161,41,9,l159.length,(l159.zip ps162).flatMap GCached.encP⟩)::R,φ164⟩ (fun _ h=>h)<|d_then<|c_seq<|c_region<|g_v rfl r_move<|g_v rfl r_assign<|g_v rfl r_assign<|g_nil<|d_then<|c_ret ?_
     cases hm
     refine d_sta _ (fun W h=>ok_frontR (t:=14) (t':=2000) h rfl) ?_
     exact d_retC (A160,c161,ps162) Try.results10 (res_tmp (res_tmp (res_nil rfl))) ⟨hc161.1,hc161.2⟩ (fun W h=>h.phi (fun W hφ=>⟨(q164 _ hφ),(fun W h=>(f163 W h)) W hφ⟩)) (.inr rfl)
    replace hm:=ite_t hm (of_decide_eq_true h8)
    iterate 3 refine g_no rfl rfl rfl rfl rfl h8 ?_
    refine g_v rfl (r_pick1 rfl h8)<|g_nil<|d_then ?_
    refine c_flat [(3,.int .i64 p3),(4,.int .i64 p4),(6,.pointer (some ⟨g2,0,none⟩)),(41,.bool true)] ⟨rfl,rfl,rfl,rfl,trivial⟩ (fun u=>?_)
    refine c_cond1 rfl rfl<|c_seq<|c_region<|g_v rfl r_assign<|g_v rfl r_assign<|g_nil<|d_then<|c_ret<|d_ret_then ?_
    cases hm
    refine d_sta _ (fun W h=>nilR h 15 41 9)<|d_sta _ (fun W h=>ok_frontR (t:=15) (t':=2000) h rfl) ?_
    exact d_retC (none,0,([] : List GCachedP)) Try.results10 (res_tmp (res_tmp (res_nil rfl))) ⟨DOk.nil,(Nat.le_refl 0)⟩ (fun W h=>((h.dropH (t:=100060) rfl).dropH (t:=100050) rfl).phi (fun W hφ=>⟨hφ,(fun W h=>DOwn.nil) W hφ⟩)) (.inr rfl)
   have h7' : p1.fGood = false:=by revert h7; cases p1.fGood <;> simp
   replace hm:=ite_f hm (bool_nt h7')
   iterate 4 refine g_no rfl rfl rfl rfl rfl h7 ?_
   refine g_v rfl (r_pick1 rfl h7)<|g_v rfl r_move ?_
   iterate 4 refine g_no rfl rfl rfl rfl rfl rfl ?_
   refine g_v rfl (r_pick1 rfl rfl)<|g_nil<|d_then ?_
   refine c_flat [(3,.int .i64 p3),(4,.int .i64 p4),(6,.pointer (some ⟨g2,0,none⟩)),(41,.bool true)] ⟨rfl,rfl,rfl,rfl,trivial⟩ (fun u=>?_)
   refine c_cond1 rfl rfl<|c_seq<|c_region<|g_v rfl r_assign<|g_v rfl r_assign<|g_nil<|d_then<|c_ret<|d_ret_then ?_
   cases hm
   refine d_sta _ (fun W h=>nilR h 16 41 9)<|d_sta _ (fun W h=>ok_frontR (t:=16) (t':=2000) h rfl) ?_
   exact d_retC (none,0,([] : List GCachedP)) Try.results10 (res_tmp (res_tmp (res_nil rfl))) ⟨DOk.nil,(Nat.le_refl 0)⟩ (fun W h=>((h.dropH (t:=100060) rfl).dropH (t:=100050) rfl).phi (fun W hφ=>⟨hφ,(fun W h=>DOwn.nil) W hφ⟩)) (.inr rfl)
  replace hm:=ite_t hm (of_decide_eq_true h6)
  refine g_no rfl rfl rfl rfl rfl h6<|g_no rfl rfl rfl rfl rfl h6<|g_v rfl (r_pick1 rfl h6)<|g_v rfl r_move ?_
  iterate 5 refine g_no rfl rfl rfl rfl rfl rfl ?_
  refine g_v rfl (r_pick1 rfl rfl)<|g_v rfl r_move ?_
  iterate 4 refine g_no rfl rfl rfl rfl rfl rfl ?_
  refine g_v rfl (r_pick1 rfl rfl)<|g_nil<|d_then ?_
  refine c_flat [(3,.int .i64 p3),(4,.int .i64 p4),(6,.pointer (some ⟨g2,0,none⟩)),(41,.bool true)] ⟨rfl,rfl,rfl,rfl,trivial⟩ (fun u=>?_)
  refine c_cond1 rfl rfl<|c_seq<|c_region<|g_v rfl r_assign<|g_v rfl r_assign<|g_nil<|d_then<|c_ret<|d_ret_then ?_
  cases hm
  refine d_sta _ (fun W h=>nilR h 17 41 9)<|d_sta _ (fun W h=>ok_frontR (t:=17) (t':=2000) h rfl) ?_
  exact d_retC (none,0,([] : List GCachedP)) Try.results10 (res_tmp (res_tmp (res_nil rfl))) ⟨DOk.nil,(Nat.le_refl 0)⟩ (fun W h=>((h.dropH (t:=100060) rfl).dropH (t:=100050) rfl).phi (fun W hφ=>⟨hφ,(fun W h=>DOwn.nil) W hφ⟩)) (.inr rfl)
 replace hm:=ite_t hm (of_decide_eq_true h3)
 refine g_no rfl rfl rfl rfl rfl h3<|g_no rfl rfl rfl rfl rfl h3<|g_v rfl (r_pick1 rfl h3)<|g_v rfl r_move ?_
 iterate 3 refine g_no rfl rfl rfl rfl rfl rfl ?_
 refine g_v rfl (r_pick1 rfl rfl)<|g_v rfl r_move ?_
 iterate 5 refine g_no rfl rfl rfl rfl rfl rfl ?_
 refine g_v rfl (r_pick1 rfl rfl)<|g_v rfl r_move ?_
 iterate 4 refine g_no rfl rfl rfl rfl rfl rfl ?_
 refine g_v rfl (r_pick1 rfl rfl)<|g_nil<|d_then ?_
 refine c_flat [(3,.int .i64 p3),(4,.int .i64 p4),(6,.pointer (some ⟨g2,0,none⟩)),(41,.bool true)] ⟨rfl,rfl,rfl,rfl,trivial⟩ (fun u=>?_)
 refine c_cond1 rfl rfl<|c_seq<|c_region<|g_v rfl r_assign<|g_v rfl r_assign<|g_nil<|d_then<|c_ret<|d_ret_then ?_
 cases hm
 refine d_sta _ (fun W h=>nilR h 18 41 9)<|d_sta _ (fun W h=>ok_frontR (t:=18) (t':=2000) h rfl) ?_
 exact d_retC (none,0,([] : List GCachedP)) Try.results10 (res_tmp (res_tmp (res_nil rfl))) ⟨DOk.nil,(Nat.le_refl 0)⟩ (fun W h=>((h.dropH (t:=100060) rfl).dropH (t:=100050) rfl).phi (fun W hφ=>⟨hφ,(fun W h=>DOwn.nil) W hφ⟩)) (.inr rfl)
theorem eqq54 (a b : GRR) : ∀ d W,(Op.equalIn (d + 5) 54 (.agg #[.string a.fName,.int .u16 a.fType,.int .u16 a.fClass,.int .u32 a.fTTL,.string a.fData]) (.agg #[.string b.fName,.int .u16 b.fType,.int .u16 b.fClass,.int .u32 b.fTTL,.string b.fData])).run Try.prog W = .ok (decide (a = b)) W:=by
  intro d W
  have h:=eqs_of (d:=d + 4) (xs:=#[.string a.fName,.int .u16 a.fType,.int .u16 a.fClass,.int .u32 a.fTTL,.string a.fData]) (ys:=#[.string b.fName,.int .u16 b.fType,.int .u16 b.fClass,.int .u32 b.fTTL,.string b.fData]) (w:=W) Try.underlying54 (by kernel_rfl) (eqs_cons (a:=.string a.fName) (b:=.string b.fName) rfl (by kernel_rfl) (by kernel_rfl) (eqs_str Try.underlying9) (eqs_cons (a:=.int .u16 a.fType) (b:=.int .u16 b.fType) rfl (by kernel_rfl) (by kernel_rfl) (eqs_int Try.underlying22) (eqs_cons (a:=.int .u16 a.fClass) (b:=.int .u16 b.fClass) rfl (by kernel_rfl) (by kernel_rfl) (eqs_int Try.underlying22) (eqs_cons (a:=.int .u32 a.fTTL) (b:=.int .u32 b.fTTL) rfl (by kernel_rfl) (by kernel_rfl) (eqs_int Try.underlying52) (eqs_cons (a:=.string a.fData) (b:=.string b.fData) rfl (by kernel_rfl) (by kernel_rfl) (eqs_str Try.underlying9) eqs_nil)))))
  refine h.trans ?_
  congr 1
  cases a; cases b
  simp only [GRR.mk.injEq,Bool.and_true]
  simp only [Bool.decide_and]
theorem eqg54 : Try.prog.eqGuardType Try.prog.depth 54 = false:=by kernel_rfl
noncomputable def m_ref16_Same_j1  : Option Bool:=
  some true
noncomputable def m_ref16_Same_s2 (p0 : GCached) (p1 : GCached) (i95 : Int) : Option (Int ⊕ (Unit ⊕ Bool)):=
  if i95 < (p0.fRecords.length : Int) then
    (at_ p0.fRecords i95).bind fun x141=>
    (at_ p1.fRecords i95).bind fun x145=>
    if x141 = x145 then
      some (.inl (w64 (i95 + 1)))
    else
      some (.inr (.inr false))
  else
    some (.inr (.inl ()))
noncomputable def m_ref16_Same (p0 : GCached) (p1 : GCached) : Option Bool:=
  if p0.fKind ≠ p1.fKind then
    some false
  else
    if p0.fName = p1.fName then
      if p0.fType ≠ p1.fType then
        some false
      else
        if p0.fClass ≠ p1.fClass then
          some false
        else
          if p0.fUntil ≠ p1.fUntil then
            some false
          else
            if p0.fRank ≠ p1.fRank then
              some false
            else
              if p0.fEpoch ≠ p1.fEpoch then
                some false
              else
                if p0.fSource ≠ p1.fSource then
                  some false
                else
                  if (p0.fRecords.length : Int) ≠ (p1.fRecords.length : Int) then
                    some false
                  else
                    (loop (fun s=>m_ref16_Same_s2 p0 p1 s) 0).bind fun e=>Sum.elim (fun e=>m_ref16_Same_j1) (fun x=>some x) e
    else
      some false
theorem c_ref16_Same {w0 : World} {M : Nat→Prop} {H : List (Nat×Nat×Obj)} {R : List (Nat×Row)} {φ : World→Prop} (p0 : GCached) (Ap0_0 : Option Addr) (cp0_0 : Nat) (hcp0_0 : p0.fRecords.length ≤ cp0_0) (fp0_0 : ∀ W,(Sta.mk w0 M H R φ).ok W→Cl W Ap0_0 (p0.fRecords.flatMap GRR.enc)) (p1 : GCached) (Ap1_0 : Option Addr) (cp1_0 : Nat) (hcp1_0 : p1.fRecords.length ≤ cp1_0) (fp1_0 : ∀ W,(Sta.mk w0 M H R φ).ok W→Cl W Ap1_0 (p1.fRecords.flatMap GRR.enc)) (r : Bool) (hm : m_ref16_Same p0 p1 = some r) :
    Cn Try.prog 12 #[.agg #[.int .i64 p0.fKind,.string p0.fName,.int .u16 p0.fType,.int .u16 p0.fClass,.slice Ap0_0 p0.fRecords.length cp0_0,.int .i64 p0.fUntil,.int .i64 p0.fRank,.int .i64 p0.fEpoch,.int .i64 p0.fSource],.agg #[.int .i64 p1.fKind,.string p1.fName,.int .u16 p1.fType,.int .u16 p1.fClass,.slice Ap1_0 p1.fRecords.length cp1_0,.int .i64 p1.fUntil,.int .i64 p1.fRank,.int .i64 p1.fEpoch,.int .i64 p1.fSource]] ⟨w0,M,H,R,φ⟩ (fun x : Unit=>.bool r) (fun x=>True) (fun x=>⟨w0,M,H,R,φ⟩):=by
 unfold m_ref16_Same at hm
 refine cn_intro (fn:=Try.f12) (N:=87) Try.func12 rfl Try.ntmps12 rfl<|c_seq<|c_region ?_
 refine g_e rfl (e_box 100020 rfl) (fun g1 _=>?_)
 refine g_e rfl (e_box 100030 rfl) (fun g2 _=>?_)
 refine g_v rfl r_assign<|g_nil<|d_then<|c_seq<|c_seq<|c_region<|g_v rfl (r_field (n:=0) Try.underlying41 rfl Try.sizeOf3 rfl rfl)<|g_v rfl (r_load (tag:=100020) rfl rfl rfl Try.isAgg3)<|g_v rfl (r_field (n:=0) Try.underlying41 rfl Try.sizeOf3 rfl rfl)<|g_v rfl (r_load (tag:=100030) rfl rfl rfl Try.isAgg3) ?_
 refine g_v rfl (r_neq rfl rfl)<|g_v rfl r_move<|g_sta ⟨w0,M,(100030,g2,.cells #[.int .i64 p1.fKind,.string p1.fName,.int .u16 p1.fType,.int .u16 p1.fClass,.slice Ap1_0 p1.fRecords.length cp1_0,.int .i64 p1.fUntil,.int .i64 p1.fRank,.int .i64 p1.fEpoch,.int .i64 p1.fSource] 41 (0,0))::(100020,g1,.cells #[.int .i64 p0.fKind,.string p0.fName,.int .u16 p0.fType,.int .u16 p0.fClass,.slice Ap0_0 p0.fRecords.length cp0_0,.int .i64 p0.fUntil,.int .i64 p0.fRank,.int .i64 p0.fEpoch,.int .i64 p0.fSource] 41 (0,0))::H,R,φ⟩ (fun _ h=>h) ?_
 refine g_if rfl rfl rfl rfl rfl (fun h3=>?_) (fun h3=>?_)
 ·
  replace hm:=ite_f hm (of_decide_eq_false h3)
  refine g_v rfl (r_field (n:=1) Try.underlying41 rfl Try.sizeOf9 rfl rfl)<|g_do rfl rfl rfl rfl rfl h3<|g_v rfl (r_load (tag:=100020) rfl rfl rfl Try.isAgg9)<|g_do rfl rfl rfl rfl rfl h3<|g_v rfl (r_field (n:=1) Try.underlying41 rfl Try.sizeOf9 rfl rfl)<|g_do rfl rfl rfl rfl rfl h3<|g_v rfl (r_load (tag:=100030) rfl rfl rfl Try.isAgg9)<|g_do rfl rfl rfl rfl rfl h3<|g_v rfl (r_neqT rfl rfl)<|g_v rfl (r_pick0 rfl h3) ?_
  refine g_v rfl r_move ?_
  refine g_if rfl rfl rfl rfl rfl (fun h4=>?_) (fun h4=>?_)
  ·
   have h4' : (decide (p0.fName = p1.fName)) = true:=by revert h4; cases (decide (p0.fName = p1.fName)) <;> simp
   replace hm:=ite_t hm (of_decide_eq_true h4')
   refine g_v rfl (r_field (n:=2) Try.underlying41 rfl Try.sizeOf22 rfl rfl)<|g_do rfl rfl rfl rfl rfl h4<|g_v rfl (r_load (tag:=100020) rfl rfl rfl Try.isAgg22)<|g_do rfl rfl rfl rfl rfl h4<|g_v rfl (r_field (n:=2) Try.underlying41 rfl Try.sizeOf22 rfl rfl)<|g_do rfl rfl rfl rfl rfl h4<|g_v rfl (r_load (tag:=100030) rfl rfl rfl Try.isAgg22)<|g_do rfl rfl rfl rfl rfl h4<|g_v rfl (r_neq rfl rfl)<|g_v rfl (r_pick0 rfl h4) ?_
   refine g_v rfl r_move ?_
   refine g_if rfl rfl rfl rfl rfl (fun h5=>?_) (fun h5=>?_)
   ·
    replace hm:=ite_f hm (of_decide_eq_false h5)
    refine g_v rfl (r_field (n:=3) Try.underlying41 rfl Try.sizeOf22 rfl rfl)<|g_do rfl rfl rfl rfl rfl h5<|g_v rfl (r_load (tag:=100020) rfl rfl rfl Try.isAgg22)<|g_do rfl rfl rfl rfl rfl h5<|g_v rfl (r_field (n:=3) Try.underlying41 rfl Try.sizeOf22 rfl rfl)<|g_do rfl rfl rfl rfl rfl h5<|g_v rfl (r_load (tag:=100030) rfl rfl rfl Try.isAgg22)<|g_do rfl rfl rfl rfl rfl h5<|g_v rfl (r_neq rfl rfl)<|g_v rfl (r_pick0 rfl h5) ?_
    refine g_v rfl r_move ?_
    refine g_if rfl rfl rfl rfl rfl (fun h6=>?_) (fun h6=>?_)
    ·
     replace hm:=ite_f hm (of_decide_eq_false h6)
     refine g_v rfl (r_field (n:=5) Try.underlying41 rfl Try.sizeOf3 rfl rfl)<|g_do rfl rfl rfl rfl rfl h6<|g_v rfl (r_load (tag:=100020) rfl rfl rfl Try.isAgg3)<|g_do rfl rfl rfl rfl rfl h6<|g_v rfl (r_field (n:=5) Try.underlying41 rfl Try.sizeOf3 rfl rfl)<|g_do rfl rfl rfl rfl rfl h6<|g_v rfl (r_load (tag:=100030) rfl rfl rfl Try.isAgg3)<|g_do rfl rfl rfl rfl rfl h6<|g_v rfl (r_neq rfl rfl)<|g_v rfl (r_pick0 rfl h6) ?_
     refine g_v rfl r_move ?_
     refine g_if rfl rfl rfl rfl rfl (fun h7=>?_) (fun h7=>?_)
     ·
      replace hm:=ite_f hm (of_decide_eq_false h7)
      refine g_v rfl (r_field (n:=6) Try.underlying41 rfl Try.sizeOf3 rfl rfl)<|g_do rfl rfl rfl rfl rfl h7<|g_v rfl (r_load (tag:=100020) rfl rfl rfl Try.isAgg3)<|g_do rfl rfl rfl rfl rfl h7<|g_v rfl (r_field (n:=6) Try.underlying41 rfl Try.sizeOf3 rfl rfl)<|g_do rfl rfl rfl rfl rfl h7<|g_v rfl (r_load (tag:=100030) rfl rfl rfl Try.isAgg3)<|g_do rfl rfl rfl rfl rfl h7<|g_v rfl (r_neq rfl rfl)<|g_v rfl (r_pick0 rfl h7) ?_
      refine g_v rfl r_move ?_
      refine g_if rfl rfl rfl rfl rfl (fun h8=>?_) (fun h8=>?_)
      ·
       replace hm:=ite_f hm (of_decide_eq_false h8)
       refine g_v rfl (r_field (n:=7) Try.underlying41 rfl Try.sizeOf3 rfl rfl)<|g_do rfl rfl rfl rfl rfl h8<|g_v rfl (r_load (tag:=100020) rfl rfl rfl Try.isAgg3)<|g_do rfl rfl rfl rfl rfl h8<|g_v rfl (r_field (n:=7) Try.underlying41 rfl Try.sizeOf3 rfl rfl)<|g_do rfl rfl rfl rfl rfl h8<|g_v rfl (r_load (tag:=100030) rfl rfl rfl Try.isAgg3)<|g_do rfl rfl rfl rfl rfl h8<|g_v rfl (r_neq rfl rfl)<|g_v rfl (r_pick0 rfl h8) ?_
       refine g_v rfl r_move ?_
       refine g_if rfl rfl rfl rfl rfl (fun h9=>?_) (fun h9=>?_)
       ·
        replace hm:=ite_f hm (of_decide_eq_false h9)
        refine g_v rfl (r_field (n:=8) Try.underlying41 rfl Try.sizeOf3 rfl rfl)<|g_do rfl rfl rfl rfl rfl h9<|g_v rfl (r_load (tag:=100020) rfl rfl rfl Try.isAgg3)<|g_do rfl rfl rfl rfl rfl h9<|g_v rfl (r_field (n:=8) Try.underlying41 rfl Try.sizeOf3 rfl rfl)<|g_do rfl rfl rfl rfl rfl h9<|g_v rfl (r_load (tag:=100030) rfl rfl rfl Try.isAgg3)<|g_do rfl rfl rfl rfl rfl h9<|g_v rfl (r_neq rfl rfl)<|g_v rfl (r_pick0 rfl h9) ?_
        refine g_v rfl r_move ?_
        refine g_if rfl rfl rfl rfl rfl (fun h10=>?_) (fun h10=>?_)
        ·
         replace hm:=ite_f hm (of_decide_eq_false h10)
         refine g_v rfl (r_field (n:=4) Try.underlying41 rfl Try.sizeOf39 rfl rfl)<|g_do rfl rfl rfl rfl rfl h10<|g_v rfl (r_load (tag:=100020) rfl rfl rfl Try.isAgg39)<|g_do rfl rfl rfl rfl rfl h10<|g_v rfl (r_lenL Try.underlying39 rfl)<|g_do rfl rfl rfl rfl rfl h10<|g_v rfl (r_field (n:=4) Try.underlying41 rfl Try.sizeOf39 rfl rfl)<|g_do rfl rfl rfl rfl rfl h10<|g_v rfl (r_load (tag:=100030) rfl rfl rfl Try.isAgg39)<|g_do rfl rfl rfl rfl rfl h10 ?_
         refine g_v rfl (r_lenL Try.underlying39 rfl)<|g_do rfl rfl rfl rfl rfl h10<|g_v rfl (r_neq rfl rfl)<|g_v rfl (r_pick0 rfl h10)<|g_nil<|d_then ?_
         refine c_flat [(2,.pointer (some ⟨g1,0,none⟩)),(3,.pointer (some ⟨g2,0,none⟩)),(68,.bool (decide ((p0.fRecords.length : Int) ≠ (p1.fRecords.length : Int))))] ⟨rfl,rfl,rfl,trivial⟩ (fun u=>?_)
         refine c_cond rfl (fun h11=>?_) (fun h11=>?_)
         ·
          replace hm:=ite_t hm (of_decide_eq_true h11)
          refine c_seq<|c_region<|g_v rfl r_assign<|g_nil<|d_then<|c_ret<|d_ret_then ?_
          cases hm
          exact d_retC () Try.results12 (res_tmp (res_nil rfl)) trivial (fun W h=>ok_pre (H1:=[_,_]) (R1:=[]) h (fun W hφ=>hφ)) (.inr rfl)
         replace hm:=ite_f hm (of_decide_eq_false h11)
         refine c_skip<|d_then<|c_seq<|c_seq<|c_region<|g_v rfl r_assign<|g_nil<|d_then ?_
         refine c_cut (ι:=Unit) [] (fun _=>[]) (fun _=>⟨w0,M,H,R,φ⟩) (fun _=>m_ref16_Same_j1 = some r) ?_ (fun _ u hm=>?_)
         ·
          refine c_block ?_
          replace hm:=bnd hm
          obtain ⟨out2,hl2,hr2⟩:=hm
          obtain ⟨n123',hl2⟩:=loop_lp hl2
          refine c_loopU (ι:=Nat×Int) [2,3,5] (fun ⟨n123,i95⟩=>[(5,.int .i64 i95)]) (fun ⟨n123,i95⟩=>⟨w0,M,(100030,g2,.cells #[.int .i64 p1.fKind,.string p1.fName,.int .u16 p1.fType,.int .u16 p1.fClass,.slice Ap1_0 p1.fRecords.length cp1_0,.int .i64 p1.fUntil,.int .i64 p1.fRank,.int .i64 p1.fEpoch,.int .i64 p1.fSource] 41 (0,0))::(100020,g1,.cells #[.int .i64 p0.fKind,.string p0.fName,.int .u16 p0.fType,.int .u16 p0.fClass,.slice Ap0_0 p0.fRecords.length cp0_0,.int .i64 p0.fUntil,.int .i64 p0.fRank,.int .i64 p0.fEpoch,.int .i64 p0.fSource] 41 (0,0))::H,R,φ⟩) (fun ⟨n123,i95⟩=>Lp (fun s=>m_ref16_Same_s2 p0 p1 s) n123 i95 out2) (fun ⟨n123,i95⟩=>n123) (n123',0) hl2 ⟨rfl,rfl,rfl,trivial⟩ (fun W h=>h.phi (fun W hφ=>hφ)) (fun ⟨n123,i95⟩ u hlp=>?_)
          obtain ⟨o2,hm,hnx2⟩:=lp_step hlp
          clear hlp
          replace hm : m_ref16_Same_s2 p0 p1 i95 = some o2:=hm
          unfold m_ref16_Same_s2 at hm
          refine c_flat [(2,.pointer (some ⟨g1,0,none⟩)),(3,.pointer (some ⟨g2,0,none⟩)),(5,.int .i64 i95)] ⟨rfl,rfl,rfl,trivial⟩ (fun u=>?_)
          refine c_seq<|c_seq<|c_region<|g_v rfl r_move<|g_v rfl (r_field (n:=4) Try.underlying41 rfl Try.sizeOf39 rfl rfl)<|g_v rfl (r_load (tag:=100020) rfl rfl rfl Try.isAgg39)<|g_v rfl (r_lenL Try.underlying39 rfl)<|g_v rfl (r_lss rfl rfl)<|g_nil<|d_then ?_
          refine c_cond rfl (fun h124=>?_) (fun h124=>?_)
          ·
           replace hm:=ite_t hm (of_decide_eq_true h124)
           refine c_skip<|d_then<|c_seq<|c_block<|c_seq<|ga_start (n:=11) ⟨w0,M,(100030,g2,.cells #[.int .i64 p1.fKind,.string p1.fName,.int .u16 p1.fType,.int .u16 p1.fClass,.slice Ap1_0 p1.fRecords.length cp1_0,.int .i64 p1.fUntil,.int .i64 p1.fRank,.int .i64 p1.fEpoch,.int .i64 p1.fSource] 41 (0,0))::(100020,g1,.cells #[.int .i64 p0.fKind,.string p0.fName,.int .u16 p0.fType,.int .u16 p0.fClass,.slice Ap0_0 p0.fRecords.length cp0_0,.int .i64 p0.fUntil,.int .i64 p0.fRank,.int .i64 p0.fEpoch,.int .i64 p0.fSource] 41 (0,0))::H,R,φ⟩ [] #[false,false,false,false,false,false,false,false,false,false,false] (fun W h=>h.phi (fun W hφ=>hφ)) mixed rfl rfl<|ga_v (i:=0) (bz 11 1) rfl (by kernel_rfl) (fun _ _ _ _ h=>h) rfl (r_field (n:=4) Try.underlying41 rfl Try.sizeOf39 rfl rfl)<|ga_v (i:=1) (bz 11 3) rfl (by kernel_rfl) (fun _ _ _ _ h=>h) rfl (r_load (tag:=100020) rfl rfl rfl Try.isAgg39)<|ga_v (i:=2) (bz 11 7) rfl (by kernel_rfl) (fun _ _ _ _ h=>h) rfl (r_move) ?_
           replace hm:=bnd hm
           obtain ⟨x141,hx141,hm⟩:=hm
           refine ga_know _ (fun W hS=>cl_at (p:=(Sta.mk w0 M H R φ).ok) (sz:=5) (fun _=>rfl) (by decide) (ok_pre (H1:=[_,_]) (R1:=[]) hS (fun W h=>h)) fp0_0 hx141) ?_
           rintro ⟨ad142,hA144,f143⟩
           refine ga_v (i:=3) (bz 11 15) rfl (by kernel_rfl) (fun _ _ _ _ h=>h) rfl (r_ix Try.underlying39 Try.sizeOf54 rfl hA144 rfl hx141)<|ga_v (i:=4) (bz 11 31) rfl (by kernel_rfl) (fun _ _ _ _ h=>h) rfl (r_ldA rfl Try.isAgg54 Try.sizeOf54 (fun W hS=>(f143 W (ok_pre (H1:=[_,_]) (R1:=[]) hS (fun W h=>h))).take 5) rfl)<|ga_v (i:=5) (bz 11 63) rfl (by kernel_rfl) (fun _ _ _ _ h=>h) rfl (r_field (n:=4) Try.underlying41 rfl Try.sizeOf39 rfl rfl)<|ga_v (i:=6) (bz 11 127) rfl (by kernel_rfl) (fun _ _ _ _ h=>h) rfl (r_load (tag:=100030) rfl rfl rfl Try.isAgg39)<|ga_r (i:=7) (bz 11 255) rfl (by kernel_rfl) (by decide) rfl (r_move) ?_
           replace hm:=bnd hm
           obtain ⟨x145,hx145,hm⟩:=hm
           refine ga_know _ (fun W hS=>cl_at (p:=(Sta.mk w0 M H R φ).ok) (sz:=5) (fun _=>rfl) (by decide) (ok_pre (H1:=[_,_]) (R1:=[]) hS (fun W h=>h)) fp1_0 hx145) ?_
           rintro ⟨ad146,hA148,f147⟩
           refine ga_r (i:=8) (bz 11 511) rfl (by kernel_rfl) (by decide) rfl (r_ix Try.underlying39 Try.sizeOf54 rfl hA148 rfl hx145)<|ga_r (i:=9) (bz 11 1023) rfl (by kernel_rfl) (by decide) rfl (r_ldA rfl Try.isAgg54 Try.sizeOf54 (fun W hS=>(f147 W (ok_pre (H1:=[_,_]) (R1:=[]) hS (fun W h=>h))).take 5) rfl)<|ga_r (i:=10) (bz 11 2047) rfl (by kernel_rfl) (by decide) rfl (r_neqA rfl rfl eqg54 (eqq54 x141 x145))<|ga_done (by kernel_rfl)<|d_then ?_
           refine c_flat [(2,.pointer (some ⟨g1,0,none⟩)),(3,.pointer (some ⟨g2,0,none⟩)),(5,.int .i64 i95),(86,.bool (!(decide (x141 = x145))))] ⟨rfl,rfl,rfl,rfl,trivial⟩ (fun u=>?_)
           refine c_cond rfl (fun h149=>?_) (fun h149=>?_)
           ·
            have h149' : (decide (x141 = x145)) = false:=by revert h149; cases (decide (x141 = x145)) <;> simp
            replace hm:=ite_f hm (of_decide_eq_false h149')
            refine c_seq<|c_region<|g_v rfl r_assign<|g_nil<|d_then<|c_ret<|d_ret_block<|d_ret_then<|d_ret_then<|d_ret_block ?_
            refine d_ret_then<|d_ret_then ?_
            replace hm:=nx_out (C:=(fun e : Unit ⊕ Bool=>Sum.elim (fun e=>m_ref16_Same_j1) (fun x=>some x) e = some r)) hm hnx2 hr2
            replace hm : some false = some r:=hm
            cases hm
            exact d_retC () Try.results12 (res_tmp (res_nil rfl)) trivial (fun W h=>ok_pre (H1:=[_,_]) (R1:=[]) h (fun W hφ=>hφ)) (.inr rfl)
           have h149' : (decide (x141 = x145)) = true:=by revert h149; cases (decide (x141 = x145)) <;> simp
           replace hm:=ite_t hm (of_decide_eq_true h149')
           refine c_skip<|d_normal_block<|d_then<|c_region<|g_v rfl r_move<|g_v rfl (r_add rfl rfl rfl)<|g_v rfl r_assign<|g_nil ?_
           obtain ⟨n150,hn150,hlp⟩:=nx_inl hm hnx2
           exact d_round (n150,w64 (i95 + 1)) hlp hn150 ⟨rfl,rfl,rfl,trivial⟩ (fun W h=>h.phi (fun W hφ=>hφ))
          replace hm:=ite_f hm (of_decide_eq_false h124)
          refine c_exit<|d_exit_then<|d_exit_then<|d_exit_block ?_
          replace hm:=nx_out (C:=(fun e : Unit ⊕ Bool=>Sum.elim (fun e=>m_ref16_Same_j1) (fun x=>some x) e = some r)) hm hnx2 hr2
          exact d_round () hm Nat.zero_lt_one trivial (fun W h=>((h.dropH (t:=100030) rfl).dropH (t:=100020) rfl).phi (fun W hφ=>hφ))
         unfold m_ref16_Same_j1 at hm
         refine d_flat [] trivial (fun u=>?_)
         refine d_sta ⟨w0,M,H,R,φ⟩ (fun _ h=>h)<|d_then<|c_seq<|c_region<|g_v rfl r_assign<|g_nil<|d_then<|c_ret ?_
         cases hm
         exact d_retC () Try.results12 (res_tmp (res_nil rfl)) trivial (fun W h=>ok_pre (H1:=[]) (R1:=[]) h (fun W hφ=>hφ)) (.inr rfl)
        replace hm:=ite_t hm (of_decide_eq_true h10)
        iterate 6 refine g_no rfl rfl rfl rfl rfl h10 ?_
        refine g_v rfl (r_pick1 rfl h10)<|g_nil<|d_then ?_
        refine c_flat [(2,.pointer (some ⟨g1,0,none⟩)),(3,.pointer (some ⟨g2,0,none⟩)),(68,.bool true)] ⟨rfl,rfl,rfl,trivial⟩ (fun u=>?_)
        refine c_cond1 rfl rfl<|c_seq<|c_region<|g_v rfl r_assign<|g_nil<|d_then<|c_ret<|d_ret_then ?_
        cases hm
        exact d_retC () Try.results12 (res_tmp (res_nil rfl)) trivial (fun W h=>ok_pre (H1:=[_,_]) (R1:=[]) h (fun W hφ=>hφ)) (.inr rfl)
       replace hm:=ite_t hm (of_decide_eq_true h9)
       iterate 4 refine g_no rfl rfl rfl rfl rfl h9 ?_
       refine g_v rfl (r_pick1 rfl h9)<|g_v rfl r_move ?_
       iterate 7 refine g_no rfl rfl rfl rfl rfl rfl ?_
       refine g_v rfl (r_pick1 rfl rfl)<|g_nil<|d_then ?_
       refine c_flat [(2,.pointer (some ⟨g1,0,none⟩)),(3,.pointer (some ⟨g2,0,none⟩)),(68,.bool true)] ⟨rfl,rfl,rfl,trivial⟩ (fun u=>?_)
       refine c_cond1 rfl rfl<|c_seq<|c_region<|g_v rfl r_assign<|g_nil<|d_then<|c_ret<|d_ret_then ?_
       cases hm
       exact d_retC () Try.results12 (res_tmp (res_nil rfl)) trivial (fun W h=>ok_pre (H1:=[_,_]) (R1:=[]) h (fun W hφ=>hφ)) (.inr rfl)
      replace hm:=ite_t hm (of_decide_eq_true h8)
      iterate 4 refine g_no rfl rfl rfl rfl rfl h8 ?_
      refine g_v rfl (r_pick1 rfl h8)<|g_v rfl r_move ?_
      iterate 5 refine g_no rfl rfl rfl rfl rfl rfl ?_
      refine g_v rfl (r_pick1 rfl rfl)<|g_v rfl r_move ?_
      iterate 7 refine g_no rfl rfl rfl rfl rfl rfl ?_
      refine g_v rfl (r_pick1 rfl rfl)<|g_nil<|d_then ?_
      refine c_flat [(2,.pointer (some ⟨g1,0,none⟩)),(3,.pointer (some ⟨g2,0,none⟩)),(68,.bool true)] ⟨rfl,rfl,rfl,trivial⟩ (fun u=>?_)
      refine c_cond1 rfl rfl<|c_seq<|c_region<|g_v rfl r_assign<|g_nil<|d_then<|c_ret<|d_ret_then ?_
      cases hm
      exact d_retC () Try.results12 (res_tmp (res_nil rfl)) trivial (fun W h=>ok_pre (H1:=[_,_]) (R1:=[]) h (fun W hφ=>hφ)) (.inr rfl)
     replace hm:=ite_t hm (of_decide_eq_true h7)
     iterate 4 refine g_no rfl rfl rfl rfl rfl h7 ?_
     refine g_v rfl (r_pick1 rfl h7)<|g_v rfl r_move ?_
     iterate 5 refine g_no rfl rfl rfl rfl rfl rfl ?_
     refine g_v rfl (r_pick1 rfl rfl)<|g_v rfl r_move ?_
     iterate 5 refine g_no rfl rfl rfl rfl rfl rfl ?_
     refine g_v rfl (r_pick1 rfl rfl)<|g_v rfl r_move ?_
     iterate 7 refine g_no rfl rfl rfl rfl rfl rfl ?_
     refine g_v rfl (r_pick1 rfl rfl)<|g_nil<|d_then ?_
     refine c_flat [(2,.pointer (some ⟨g1,0,none⟩)),(3,.pointer (some ⟨g2,0,none⟩)),(68,.bool true)] ⟨rfl,rfl,rfl,trivial⟩ (fun u=>?_)
     refine c_cond1 rfl rfl<|c_seq<|c_region<|g_v rfl r_assign<|g_nil<|d_then<|c_ret<|d_ret_then ?_
     cases hm
     exact d_retC () Try.results12 (res_tmp (res_nil rfl)) trivial (fun W h=>ok_pre (H1:=[_,_]) (R1:=[]) h (fun W hφ=>hφ)) (.inr rfl)
    replace hm:=ite_t hm (of_decide_eq_true h6)
    iterate 4 refine g_no rfl rfl rfl rfl rfl h6 ?_
    refine g_v rfl (r_pick1 rfl h6)<|g_v rfl r_move ?_
    iterate 5 refine g_no rfl rfl rfl rfl rfl rfl ?_
    refine g_v rfl (r_pick1 rfl rfl)<|g_v rfl r_move ?_
    iterate 5 refine g_no rfl rfl rfl rfl rfl rfl ?_
    refine g_v rfl (r_pick1 rfl rfl)<|g_v rfl r_move ?_
    iterate 5 refine g_no rfl rfl rfl rfl rfl rfl ?_
    refine g_v rfl (r_pick1 rfl rfl)<|g_v rfl r_move ?_
    iterate 7 refine g_no rfl rfl rfl rfl rfl rfl ?_
    refine g_v rfl (r_pick1 rfl rfl)<|g_nil<|d_then ?_
    refine c_flat [(2,.pointer (some ⟨g1,0,none⟩)),(3,.pointer (some ⟨g2,0,none⟩)),(68,.bool true)] ⟨rfl,rfl,rfl,trivial⟩ (fun u=>?_)
    refine c_cond1 rfl rfl<|c_seq<|c_region<|g_v rfl r_assign<|g_nil<|d_then<|c_ret<|d_ret_then ?_
    cases hm
    exact d_retC () Try.results12 (res_tmp (res_nil rfl)) trivial (fun W h=>ok_pre (H1:=[_,_]) (R1:=[]) h (fun W hφ=>hφ)) (.inr rfl)
   replace hm:=ite_t hm (of_decide_eq_true h5)
   iterate 4 refine g_no rfl rfl rfl rfl rfl h5 ?_
   refine g_v rfl (r_pick1 rfl h5)<|g_v rfl r_move ?_
   iterate 5 refine g_no rfl rfl rfl rfl rfl rfl ?_
   refine g_v rfl (r_pick1 rfl rfl)<|g_v rfl r_move ?_
   iterate 5 refine g_no rfl rfl rfl rfl rfl rfl ?_
   refine g_v rfl (r_pick1 rfl rfl)<|g_v rfl r_move ?_
   iterate 5 refine g_no rfl rfl rfl rfl rfl rfl ?_
   refine g_v rfl (r_pick1 rfl rfl)<|g_v rfl r_move ?_
   iterate 5 refine g_no rfl rfl rfl rfl rfl rfl ?_
   refine g_v rfl (r_pick1 rfl rfl)<|g_v rfl r_move ?_
   iterate 7 refine g_no rfl rfl rfl rfl rfl rfl ?_
   refine g_v rfl (r_pick1 rfl rfl)<|g_nil<|d_then ?_
   refine c_flat [(2,.pointer (some ⟨g1,0,none⟩)),(3,.pointer (some ⟨g2,0,none⟩)),(68,.bool true)] ⟨rfl,rfl,rfl,trivial⟩ (fun u=>?_)
   refine c_cond1 rfl rfl<|c_seq<|c_region<|g_v rfl r_assign<|g_nil<|d_then<|c_ret<|d_ret_then ?_
   cases hm
   exact d_retC () Try.results12 (res_tmp (res_nil rfl)) trivial (fun W h=>ok_pre (H1:=[_,_]) (R1:=[]) h (fun W hφ=>hφ)) (.inr rfl)
  have h4' : (decide (p0.fName = p1.fName)) = false:=by revert h4; cases (decide (p0.fName = p1.fName)) <;> simp
  replace hm:=ite_f hm (of_decide_eq_false h4')
  iterate 4 refine g_no rfl rfl rfl rfl rfl h4 ?_
  refine g_v rfl (r_pick1 rfl h4)<|g_v rfl r_move ?_
  iterate 5 refine g_no rfl rfl rfl rfl rfl rfl ?_
  refine g_v rfl (r_pick1 rfl rfl)<|g_v rfl r_move ?_
  iterate 5 refine g_no rfl rfl rfl rfl rfl rfl ?_
  refine g_v rfl (r_pick1 rfl rfl)<|g_v rfl r_move ?_
  iterate 5 refine g_no rfl rfl rfl rfl rfl rfl ?_
  refine g_v rfl (r_pick1 rfl rfl)<|g_v rfl r_move ?_
  iterate 5 refine g_no rfl rfl rfl rfl rfl rfl ?_
  refine g_v rfl (r_pick1 rfl rfl)<|g_v rfl r_move ?_
  iterate 5 refine g_no rfl rfl rfl rfl rfl rfl ?_
  refine g_v rfl (r_pick1 rfl rfl)<|g_v rfl r_move ?_
  iterate 7 refine g_no rfl rfl rfl rfl rfl rfl ?_
  refine g_v rfl (r_pick1 rfl rfl)<|g_nil<|d_then ?_
  refine c_flat [(2,.pointer (some ⟨g1,0,none⟩)),(3,.pointer (some ⟨g2,0,none⟩)),(68,.bool true)] ⟨rfl,rfl,rfl,trivial⟩ (fun u=>?_)
  refine c_cond1 rfl rfl<|c_seq<|c_region<|g_v rfl r_assign<|g_nil<|d_then<|c_ret<|d_ret_then ?_
  cases hm
  exact d_retC () Try.results12 (res_tmp (res_nil rfl)) trivial (fun W h=>ok_pre (H1:=[_,_]) (R1:=[]) h (fun W hφ=>hφ)) (.inr rfl)
 replace hm:=ite_t hm (of_decide_eq_true h3)
 iterate 4 refine g_no rfl rfl rfl rfl rfl h3 ?_
 refine g_v rfl (r_pick1 rfl h3)<|g_v rfl r_move ?_
 iterate 5 refine g_no rfl rfl rfl rfl rfl rfl ?_
 refine g_v rfl (r_pick1 rfl rfl)<|g_v rfl r_move ?_
 iterate 5 refine g_no rfl rfl rfl rfl rfl rfl ?_
 refine g_v rfl (r_pick1 rfl rfl)<|g_v rfl r_move ?_
 iterate 5 refine g_no rfl rfl rfl rfl rfl rfl ?_
 refine g_v rfl (r_pick1 rfl rfl)<|g_v rfl r_move ?_
 iterate 5 refine g_no rfl rfl rfl rfl rfl rfl ?_
 refine g_v rfl (r_pick1 rfl rfl)<|g_v rfl r_move ?_
 iterate 5 refine g_no rfl rfl rfl rfl rfl rfl ?_
 refine g_v rfl (r_pick1 rfl rfl)<|g_v rfl r_move ?_
 iterate 5 refine g_no rfl rfl rfl rfl rfl rfl ?_
 refine g_v rfl (r_pick1 rfl rfl)<|g_v rfl r_move ?_
 iterate 7 refine g_no rfl rfl rfl rfl rfl rfl ?_
 refine g_v rfl (r_pick1 rfl rfl)<|g_nil<|d_then ?_
 refine c_flat [(2,.pointer (some ⟨g1,0,none⟩)),(3,.pointer (some ⟨g2,0,none⟩)),(68,.bool true)] ⟨rfl,rfl,rfl,trivial⟩ (fun u=>?_)
 refine c_cond1 rfl rfl<|c_seq<|c_region<|g_v rfl r_assign<|g_nil<|d_then<|c_ret<|d_ret_then ?_
 cases hm
 exact d_retC () Try.results12 (res_tmp (res_nil rfl)) trivial (fun W h=>ok_pre (H1:=[_,_]) (R1:=[]) h (fun W hφ=>hφ)) (.inr rfl)
noncomputable def m_ref16_SameAll_j1  : Option Bool:=
  some true
noncomputable def m_ref16_SameAll_s2 (p0 : List GCached) (p1 : List GCached) (i193 : Int) : Option (Int ⊕ (Unit ⊕ Bool)):=
  if i193 < (p0.length : Int) then
    (at_ p0 i193).bind fun x299=>
    (at_ p1 i193).bind fun x308=>
    (m_ref16_Same x299 x308).bind fun x317=>
    if x317 = true then
      some (.inl (w64 (i193 + 1)))
    else
      some (.inr (.inr false))
  else
    some (.inr (.inl ()))
noncomputable def m_ref16_SameAll (p0 : List GCached) (p1 : List GCached) : Option Bool:=
  if (p0.length : Int) ≠ (p1.length : Int) then
    some false
  else
    (loop (fun s=>m_ref16_SameAll_s2 p0 p1 s) 0).bind fun e=>Sum.elim (fun e=>m_ref16_SameAll_j1) (fun x=>some x) e
theorem c_ref16_SameAll {w0 : World} {M : Nat→Prop} {H : List (Nat×Nat×Obj)} {R : List (Nat×Row)} {φ : World→Prop} (p0 : List GCached) (Ap0_0 : Option Addr) (cp0_0 : Nat) (psp0_0 : List GCachedP) (hcp0_0 : (DOk GCached.capP p0 psp0_0∧p0.length ≤ cp0_0)) (fp0_0 : ∀ W,(Sta.mk w0 M H R φ).ok W→Cl W Ap0_0 ((p0.zip psp0_0).flatMap GCached.encP)) (fop0_0 : ∀ W,(Sta.mk w0 M H R φ).ok W→DOwn GCached.ownP p0 psp0_0 W) (p1 : List GCached) (Ap1_0 : Option Addr) (cp1_0 : Nat) (psp1_0 : List GCachedP) (hcp1_0 : (DOk GCached.capP p1 psp1_0∧p1.length ≤ cp1_0)) (fp1_0 : ∀ W,(Sta.mk w0 M H R φ).ok W→Cl W Ap1_0 ((p1.zip psp1_0).flatMap GCached.encP)) (fop1_0 : ∀ W,(Sta.mk w0 M H R φ).ok W→DOwn GCached.ownP p1 psp1_0 W) (r : Bool) (hm : m_ref16_SameAll p0 p1 = some r) :
    Cn Try.prog 11 #[.slice Ap0_0 p0.length cp0_0,.slice Ap1_0 p1.length cp1_0] ⟨w0,M,H,R,φ⟩ (fun x : Unit=>.bool r) (fun x=>True) (fun x=>⟨w0,M,H,R,φ⟩):=by
 unfold m_ref16_SameAll at hm
 refine cn_intro (fn:=Try.f11) (N:=29) Try.func11 rfl Try.ntmps11 rfl<|c_seq<|c_region<|g_v rfl r_assign<|g_nil<|d_then<|c_seq<|c_seq<|c_region<|g_v rfl r_move ?_
 refine g_v rfl (r_lenL Try.underlying25 rfl)<|g_v rfl r_move<|g_v rfl (r_lenL Try.underlying25 rfl)<|g_v rfl (r_neq rfl rfl)<|g_nil<|d_then ?_
 refine c_cond rfl (fun h1=>?_) (fun h1=>?_)
 ·
  replace hm:=ite_t hm (of_decide_eq_true h1)
  refine c_seq<|c_region<|g_v rfl r_assign<|g_nil<|d_then<|c_ret<|d_ret_then ?_
  cases hm
  exact d_retC () Try.results11 (res_tmp (res_nil rfl)) trivial (fun W h=>ok_pre (H1:=[]) (R1:=[]) h (fun W hφ=>hφ)) (.inr rfl)
 replace hm:=ite_f hm (of_decide_eq_false h1)
 refine c_skip<|d_then<|c_seq<|c_seq<|c_region<|g_v rfl r_assign<|g_nil<|d_then ?_
 refine c_cut (ι:=Unit) [] (fun _=>[]) (fun _=>⟨w0,M,H,R,φ⟩) (fun _=>m_ref16_SameAll_j1 = some r) ?_ (fun _ u hm=>?_)
 ·
  refine c_block ?_
  replace hm:=bnd hm
  obtain ⟨out2,hl2,hr2⟩:=hm
  obtain ⟨n257',hl2⟩:=loop_lp hl2
  refine c_loopU (ι:=Nat×Int) [0,1,5] (fun ⟨n257,i193⟩=>[(5,.int .i64 i193)]) (fun ⟨n257,i193⟩=>⟨w0,M,H,R,φ⟩) (fun ⟨n257,i193⟩=>Lp (fun s=>m_ref16_SameAll_s2 p0 p1 s) n257 i193 out2) (fun ⟨n257,i193⟩=>n257) (n257',0) hl2 ⟨rfl,rfl,rfl,trivial⟩ (fun W h=>h.phi (fun W hφ=>hφ)) (fun ⟨n257,i193⟩ u hlp=>?_)
  obtain ⟨o2,hm,hnx2⟩:=lp_step hlp
  clear hlp
  replace hm : m_ref16_SameAll_s2 p0 p1 i193 = some o2:=hm
  unfold m_ref16_SameAll_s2 at hm
  refine c_flat [(0,.slice Ap0_0 p0.length cp0_0),(1,.slice Ap1_0 p1.length cp1_0),(5,.int .i64 i193)] ⟨rfl,rfl,rfl,trivial⟩ (fun u=>?_)
  refine c_sta ⟨w0,M,H,R,φ⟩ (fun _ h=>h)<|c_seq<|c_seq<|c_region<|g_v rfl r_move<|g_v rfl r_move<|g_v rfl (r_lenL Try.underlying25 rfl)<|g_v rfl (r_lss rfl rfl)<|g_nil<|d_then ?_
  refine c_cond rfl (fun h258=>?_) (fun h258=>?_)
  ·
   replace hm:=ite_t hm (of_decide_eq_true h258)
   refine c_skip<|d_then<|c_seq<|c_block<|c_seq<|ga_start (n:=10) ⟨w0,M,H,R,φ⟩ [] #[false,false,false,false,false,false,false,false,false,false] (fun W h=>h.phi (fun W hφ=>hφ)) mixed rfl rfl<|ga_v (i:=0) (bz 10 1) rfl (by kernel_rfl) (fun _ _ _ _ h=>h) rfl (r_move)<|ga_v (i:=1) (bz 10 3) rfl (by kernel_rfl) (fun _ _ _ _ h=>h) rfl (r_move) ?_
   replace hm:=bnd hm
   obtain ⟨x299,hx299,hm⟩:=hm
   obtain ⟨pp303,hv304,hz305,hcp306⟩:=DOk.at_ hcp0_0.1 hx299
   refine ga_know _ (fun W hS=>cl_at (p:=(Sta.mk w0 M H R φ).ok) (sz:=9) (fun _=>rfl) (by decide) (ok_pre (H1:=[]) (R1:=[]) hS (fun W h=>h)) fp0_0 hv304) ?_
   rintro ⟨ad300,hA302,f301⟩
   have f307:=fun (W : World) (h : (Sta.mk w0 M H R φ).ok W)=>(fop0_0 W h _ hz305)
   refine ga_v (i:=2) (bz 10 7) rfl (by kernel_rfl) (fun _ _ _ _ h=>h) rfl (r_ix Try.underlying25 Try.sizeOf41 rfl hA302 rfl hx299)<|ga_v (i:=3) (bz 10 15) rfl (by kernel_rfl) (fun _ _ _ _ h=>h) rfl (r_ldA rfl Try.isAgg41 Try.sizeOf41 (fun W hS=>(f301 W (ok_pre (H1:=[]) (R1:=[]) hS (fun W h=>h))).take 9) rfl)<|ga_v (i:=4) (bz 10 31) rfl (by kernel_rfl) (fun _ _ _ _ h=>h) rfl (r_move)<|ga_r (i:=5) (bz 10 63) rfl (by kernel_rfl) (by decide) rfl (r_move) ?_
   replace hm:=bnd hm
   obtain ⟨x308,hx308,hm⟩:=hm
   obtain ⟨pp312,hv313,hz314,hcp315⟩:=DOk.at_ hcp1_0.1 hx308
   refine ga_know _ (fun W hS=>cl_at (p:=(Sta.mk w0 M H R φ).ok) (sz:=9) (fun _=>rfl) (by decide) (ok_pre (H1:=[]) (R1:=[]) hS (fun W h=>h)) fp1_0 hv313) ?_
   rintro ⟨ad309,hA311,f310⟩
   have f316:=fun (W : World) (h : (Sta.mk w0 M H R φ).ok W)=>(fop1_0 W h _ hz314)
   refine ga_r (i:=6) (bz 10 127) rfl (by kernel_rfl) (by decide) rfl (r_ix Try.underlying25 Try.sizeOf41 rfl hA311 rfl hx308)<|ga_r (i:=7) (bz 10 255) rfl (by kernel_rfl) (by decide) rfl (r_ldA rfl Try.isAgg41 Try.sizeOf41 (fun W hS=>(f310 W (ok_pre (H1:=[]) (R1:=[]) hS (fun W h=>h))).take 9) rfl) ?_
   replace hm:=bnd hm
   obtain ⟨x317,hx318,hm⟩:=hm
   refine ga_cn (first:=#[]) (i:=8) (bz 10 511) rfl (by kernel_rfl) (by decide)  ⟨w0,M,_,_,φ⟩ (fun _ h=>h) Try.call12 rfl rfl rfl (c_ref16_Same x299 pp303.pA0 pp303.pC0 hcp306 (fun W hS=>f307 W (ok_pre (H1:=[]) (R1:=[]) hS (fun W h=>h))) x308 pp312.pA0 pp312.pC0 hcp315 (fun W hS=>f316 W (ok_pre (H1:=[]) (R1:=[]) hS (fun W h=>h))) _ hx318) (fun _ W _ h=>h.phi (fun W hφ=>hφ)) (fun _ _=>?_)
   refine ga_r (i:=9) (bz 10 1023) rfl (by kernel_rfl) (by decide) rfl (r_assign)<|ga_done (by kernel_rfl)<|d_then ?_
   refine c_flat [(0,.slice Ap0_0 p0.length cp0_0),(1,.slice Ap1_0 p1.length cp1_0),(5,.int .i64 i193),(6,.bool x317)] ⟨rfl,rfl,rfl,rfl,trivial⟩ (fun u=>?_)
   refine c_seq<|c_region<|g_v rfl r_move<|g_v rfl (r_not rfl)<|g_nil<|d_then ?_
   refine c_cond rfl (fun h319=>?_) (fun h319=>?_)
   ·
    have h319' : x317 = false:=by revert h319; cases x317 <;> simp
    replace hm:=ite_f hm (bool_nt h319')
    refine c_seq<|c_region<|g_v rfl r_assign<|g_nil<|d_then<|c_ret<|d_ret_block<|d_ret_then<|d_ret_then<|d_ret_block ?_
    refine d_ret_then<|d_ret_then ?_
    replace hm:=nx_out (C:=(fun e : Unit ⊕ Bool=>Sum.elim (fun e=>m_ref16_SameAll_j1) (fun x=>some x) e = some r)) hm hnx2 hr2
    replace hm : some false = some r:=hm
    cases hm
    exact d_retC () Try.results11 (res_tmp (res_nil rfl)) trivial (fun W h=>ok_pre (H1:=[]) (R1:=[]) h (fun W hφ=>hφ)) (.inr rfl)
   have h319' : x317 = true:=by revert h319; cases x317 <;> simp
   replace hm:=ite_t hm h319'
   refine c_skip<|d_normal_block<|d_then<|c_region<|g_v rfl r_move<|g_v rfl (r_add rfl rfl rfl)<|g_v rfl r_assign<|g_nil ?_
   obtain ⟨n320,hn320,hlp⟩:=nx_inl hm hnx2
   exact d_round (n320,w64 (i193 + 1)) hlp hn320 ⟨rfl,rfl,rfl,trivial⟩ (fun W h=>h.phi (fun W hφ=>hφ))
  replace hm:=ite_f hm (of_decide_eq_false h258)
  refine c_exit<|d_exit_then<|d_exit_then<|d_exit_block ?_
  replace hm:=nx_out (C:=(fun e : Unit ⊕ Bool=>Sum.elim (fun e=>m_ref16_SameAll_j1) (fun x=>some x) e = some r)) hm hnx2 hr2
  exact d_round () hm Nat.zero_lt_one trivial (fun W h=>h.phi (fun W hφ=>hφ))
 unfold m_ref16_SameAll_j1 at hm
 refine d_flat [] trivial (fun u=>?_)
 refine d_sta ⟨w0,M,H,R,φ⟩ (fun _ h=>h)<|d_then<|c_seq<|c_region<|g_v rfl r_assign<|g_nil<|d_then<|c_ret ?_
 cases hm
 exact d_retC () Try.results11 (res_tmp (res_nil rfl)) trivial (fun W h=>ok_pre (H1:=[]) (R1:=[]) h (fun W hφ=>hφ)) (.inr rfl)
noncomputable def m_law20_PeerAccepts (p0 : GLetter) (p1 : GLetter) (p2 : Garray32) : Option Bool:=
  (m_law20_awake).bind fun x4=>
  (m_law20_small p0).bind fun x6=>
  (m_law20_small p1).bind fun x20=>
  (m_peer_Accept x6 x20 p2.a0 p2.a1 p2.a2).bind fun (z43 : (List GCached)×Bool)=>
  (m_ref20_Accept x6 x20 p2.a0 p2.a1 p2.a2).bind fun (z53 : (List GCached)×Bool)=>
  (m_ref16_SameAll z43.1 z53.1).bind fun x54=>
  if x4 = true then
    if x54 = true then
      some (z43.2 == z53.2)
    else
      some false
  else
    some false
theorem c_law20_PeerAccepts {w0 : World} {M : Nat→Prop} {H : List (Nat×Nat×Obj)} {R : List (Nat×Row)} {φ : World→Prop} (p0 : GLetter) (Ap0_0 : Option Addr) (cp0_0 : Nat) (psp0_0 : List GCachedP) (hcp0_0 : (DOk GCached.capP p0.fEntries psp0_0∧p0.fEntries.length ≤ cp0_0)) (fp0_0 : ∀ W,(Sta.mk w0 M H R φ).ok W→Cl W Ap0_0 ((p0.fEntries.zip psp0_0).flatMap GCached.encP)) (fop0_0 : ∀ W,(Sta.mk w0 M H R φ).ok W→DOwn GCached.ownP p0.fEntries psp0_0 W) (Ap0_1 : Option Addr) (cp0_1 : Nat) (hcp0_1 : p0.fNote.fEntries.length ≤ cp0_1) (fp0_1 : ∀ W,(Sta.mk w0 M H R φ).ok W→Cl W Ap0_1 (p0.fNote.fEntries.flatMap GEntry.enc)) (Ap0_2 : Option Addr) (cp0_2 : Nat) (hcp0_2 : p0.fNote.fVoters.length ≤ cp0_2) (fp0_2 : ∀ W,φ W→Cl W Ap0_2 (p0.fNote.fVoters.flatMap (fun x : Int=>[Value.int .i64 x]))) (p1 : GLetter) (Ap1_0 : Option Addr) (cp1_0 : Nat) (psp1_0 : List GCachedP) (hcp1_0 : (DOk GCached.capP p1.fEntries psp1_0∧p1.fEntries.length ≤ cp1_0)) (fp1_0 : ∀ W,(Sta.mk w0 M H R φ).ok W→Cl W Ap1_0 ((p1.fEntries.zip psp1_0).flatMap GCached.encP)) (fop1_0 : ∀ W,(Sta.mk w0 M H R φ).ok W→DOwn GCached.ownP p1.fEntries psp1_0 W) (Ap1_1 : Option Addr) (cp1_1 : Nat) (hcp1_1 : p1.fNote.fEntries.length ≤ cp1_1) (fp1_1 : ∀ W,(Sta.mk w0 M H R φ).ok W→Cl W Ap1_1 (p1.fNote.fEntries.flatMap GEntry.enc)) (Ap1_2 : Option Addr) (cp1_2 : Nat) (hcp1_2 : p1.fNote.fVoters.length ≤ cp1_2) (fp1_2 : ∀ W,φ W→Cl W Ap1_2 (p1.fNote.fVoters.flatMap (fun x : Int=>[Value.int .i64 x]))) (p2 : Garray32) (r : Bool) (hm : m_law20_PeerAccepts p0 p1 p2 = some r) :
    Cn Try.prog 3 #[.agg #[.int .i64 p0.fKind,.int .i64 p0.fSerial,.int .i64 p0.fEpoch,.string p0.fQuestion.fName,.int .u16 p0.fQuestion.fType,.int .u16 p0.fQuestion.fClass,.bool p0.fGood,.slice Ap0_0 p0.fEntries.length cp0_0,.int .i64 p0.fNote.fKind,.int .i64 p0.fNote.fFrom,.int .i64 p0.fNote.fTo,.int .i64 p0.fNote.fTerm,.int .i64 p0.fNote.fIndex,.int .i64 p0.fNote.fLogTerm,.int .i64 p0.fNote.fCommit,.bool p0.fNote.fGood,.slice Ap0_1 p0.fNote.fEntries.length cp0_1,.slice Ap0_2 p0.fNote.fVoters.length cp0_2,.string p0.fNote.fSnap,.string p0.fText],.agg #[.int .i64 p1.fKind,.int .i64 p1.fSerial,.int .i64 p1.fEpoch,.string p1.fQuestion.fName,.int .u16 p1.fQuestion.fType,.int .u16 p1.fQuestion.fClass,.bool p1.fGood,.slice Ap1_0 p1.fEntries.length cp1_0,.int .i64 p1.fNote.fKind,.int .i64 p1.fNote.fFrom,.int .i64 p1.fNote.fTo,.int .i64 p1.fNote.fTerm,.int .i64 p1.fNote.fIndex,.int .i64 p1.fNote.fLogTerm,.int .i64 p1.fNote.fCommit,.bool p1.fNote.fGood,.slice Ap1_1 p1.fNote.fEntries.length cp1_1,.slice Ap1_2 p1.fNote.fVoters.length cp1_2,.string p1.fNote.fSnap,.string p1.fText],.agg #[.int .i64 p2.a0,.int .i64 p2.a1,.int .i64 p2.a2]] ⟨w0,M,H,R,φ⟩ (fun x : Unit=>.bool r) (fun x=>True) (fun x=>⟨w0,M,H,R,φ⟩):=by
 unfold m_law20_PeerAccepts at hm
 refine cn_intro (fn:=Try.f3) (N:=54) Try.func3 rfl Try.ntmps3 rfl<|c_seq<|c_region ?_
 refine g_e rfl (e_box 100030 rfl) (fun g1 _=>?_)
 refine g_e rfl (e_box 100040 rfl) (fun g2 _=>?_)
 refine g_e rfl (e_box 100050 rfl) (fun g3 _=>?_)
 refine g_v rfl r_assign<|g_nil<|d_then<|c_seq<|c_region ?_
 replace hm:=bnd hm
 obtain ⟨x4,hx5,hm⟩:=hm
 refine g_cn ⟨w0,M,_,_,φ⟩ (fun _ h=>h) Try.call7 rfl rfl (c_law20_awake  _ hx5) (fun _ _=>?_)
 refine g_v rfl r_assign<|g_nil<|d_then<|c_seq<|c_region<|g_v rfl (r_loadA (tag:=100030) rfl rfl Try.isAgg31 Try.sizeOf31 rfl rfl) ?_
 replace hm:=bnd hm
 obtain ⟨x6,hx7,hm⟩:=hm
 refine g_cn ⟨w0,M,_,_,φ⟩ (fun _ h=>h) Try.call8 rfl rfl (c_law20_small p0 Ap0_0 cp0_0 psp0_0 ⟨hcp0_0.1,hcp0_0.2⟩ (fun W hS=>fp0_0 W (ok_pre (H1:=[_,_,_]) (R1:=[]) hS (fun W h=>h))) (fun W hS=>fop0_0 W (ok_pre (H1:=[_,_,_]) (R1:=[]) hS (fun W h=>h))) Ap0_1 cp0_1 hcp0_1 (fun W hS=>fp0_1 W (ok_pre (H1:=[_,_,_]) (R1:=[]) hS (fun W h=>h))) Ap0_2 cp0_2 hcp0_2 (fun W h=>fp0_2 W h) _ hx7) (fun ⟨A8,c9,ps11,A13,c14,A16,c17⟩ ⟨hc9,hc14,hc17⟩=>?_)
 refine g_abs (fun φ19 q19'=>?_)
 have q19 : ∀ W,φ19 W→φ W:=fun W h=>(q19' W h).1
 have f10:=fun (W : World) (h : φ19 W)=>(q19' W h).2.1
 have f12:=fun (W : World) (h : φ19 W)=>(q19' W h).2.2.1
 have f15:=fun (W : World) (h : φ19 W)=>(q19' W h).2.2.2.1
 have f18:=fun (W : World) (h : φ19 W)=>(q19' W h).2.2.2.2
 refine g_storeL (tag:=100030) rfl rfl rfl rfl Try.sizeOf31 rfl rfl<|g_nil<|d_then ?_
 refine c_flat [(3,.pointer (some ⟨g1,0,none⟩)),(4,.pointer (some ⟨g2,0,none⟩)),(5,.pointer (some ⟨g3,0,none⟩)),(7,.bool x4)] ⟨rfl,rfl,rfl,rfl,trivial⟩ (fun u=>?_)
 refine c_sta ⟨w0,M,(100050,g3,.cells #[.int .i64 p2.a0,.int .i64 p2.a1,.int .i64 p2.a2] 32 (0,0))::(100040,g2,.cells #[.int .i64 p1.fKind,.int .i64 p1.fSerial,.int .i64 p1.fEpoch,.string p1.fQuestion.fName,.int .u16 p1.fQuestion.fType,.int .u16 p1.fQuestion.fClass,.bool p1.fGood,.slice Ap1_0 p1.fEntries.length cp1_0,.int .i64 p1.fNote.fKind,.int .i64 p1.fNote.fFrom,.int .i64 p1.fNote.fTo,.int .i64 p1.fNote.fTerm,.int .i64 p1.fNote.fIndex,.int .i64 p1.fNote.fLogTerm,.int .i64 p1.fNote.fCommit,.bool p1.fNote.fGood,.slice Ap1_1 p1.fNote.fEntries.length cp1_1,.slice Ap1_2 p1.fNote.fVoters.length cp1_2,.string p1.fNote.fSnap,.string p1.fText] 31 (0,0))::(100030,g1,.cells #[.int .i64 x6.fKind,.int .i64 x6.fSerial,.int .i64 x6.fEpoch,.string x6.fQuestion.fName,.int .u16 x6.fQuestion.fType,.int .u16 x6.fQuestion.fClass,.bool x6.fGood,.slice A8 x6.fEntries.length c9,.int .i64 x6.fNote.fKind,.int .i64 x6.fNote.fFrom,.int .i64 x6.fNote.fTo,.int .i64 x6.fNote.fTerm,.int .i64 x6.fNote.fIndex,.int .i64 x6.fNote.fLogTerm,.int .i64 x6.fNote.fCommit,.bool x6.fNote.fGood,.slice A13 x6.fNote.fEntries.length c14,.slice A16 x6.fNote.fVoters.length c17,.string x6.fNote.fSnap,.string x6.fText] 31 (0,0))::H,R,φ19⟩ (fun _ h=>h)<|c_seq<|c_region<|g_v rfl (r_loadA (tag:=100040) rfl rfl Try.isAgg31 Try.sizeOf31 rfl rfl) ?_
 replace hm:=bnd hm
 obtain ⟨x20,hx21,hm⟩:=hm
 refine g_cn ⟨w0,M,_,_,φ19⟩ (fun _ h=>h) Try.call8 rfl rfl (c_law20_small p1 Ap1_0 cp1_0 psp1_0 ⟨hcp1_0.1,hcp1_0.2⟩ (fun W hS=>fp1_0 W (ok_pre (H1:=[_,_,_]) (R1:=[]) hS (fun W h=>(q19 _ h)))) (fun W hS=>fop1_0 W (ok_pre (H1:=[_,_,_]) (R1:=[]) hS (fun W h=>(q19 _ h)))) Ap1_1 cp1_1 hcp1_1 (fun W hS=>fp1_1 W (ok_pre (H1:=[_,_,_]) (R1:=[]) hS (fun W h=>(q19 _ h)))) Ap1_2 cp1_2 hcp1_2 (fun W h=>fp1_2 W (q19 _ h)) _ hx21) (fun ⟨A22,c23,ps25,A27,c28,A30,c31⟩ ⟨hc23,hc28,hc31⟩=>?_)
 refine g_abs (fun φ33 q33'=>?_)
 have q33 : ∀ W,φ33 W→φ19 W:=fun W h=>(q33' W h).1
 have f24:=fun (W : World) (h : φ33 W)=>(q33' W h).2.1
 have f26:=fun (W : World) (h : φ33 W)=>(q33' W h).2.2.1
 have f29:=fun (W : World) (h : φ33 W)=>(q33' W h).2.2.2.1
 have f32:=fun (W : World) (h : φ33 W)=>(q33' W h).2.2.2.2
 refine g_storeL (tag:=100040) rfl rfl rfl rfl Try.sizeOf31 rfl rfl<|g_nil<|d_then<|c_seq<|c_region<|g_v rfl (r_loadA (tag:=100030) rfl rfl Try.isAgg31 Try.sizeOf31 rfl rfl)<|g_v rfl (r_loadA (tag:=100040) rfl rfl Try.isAgg31 Try.sizeOf31 rfl rfl)<|g_v rfl (r_elemH (n:=0) Try.underlying32 Try.sizeOf3 rfl rfl (by decide) (by decide) rfl)<|g_v rfl (r_load (tag:=100050) rfl rfl rfl Try.isAgg3)<|g_v rfl (r_elemH (n:=1) Try.underlying32 Try.sizeOf3 rfl rfl (by decide) (by decide) rfl) ?_
 refine g_v rfl (r_load (tag:=100050) rfl rfl rfl Try.isAgg3)<|g_v rfl (r_elemH (n:=2) Try.underlying32 Try.sizeOf3 rfl rfl (by decide) (by decide) rfl)<|g_v rfl (r_load (tag:=100050) rfl rfl rfl Try.isAgg3) ?_
 replace hm:=bnd hm
 obtain ⟨⟨x34,x35⟩,hx36,hm⟩:=hm
 refine g_cn ⟨w0,M,_,_,φ33⟩ (fun _ h=>h) Try.call9 rfl rfl (c_peer_Accept x6 A8 c9 ps11 ⟨hc9.1,hc9.2⟩ (fun W hS=>f10 W (q33 _ hS.now)) (fun W hS=>(f12 W (q33 _ hS.now))) A13 c14 hc14 (fun W hS=>f15 W (q33 _ hS.now)) A16 c17 hc17 (fun W hS=>f18 W (q33 _ hS.now)) x20 A22 c23 ps25 ⟨hc23.1,hc23.2⟩ (fun W h=>f24 W h) (fun W h=>(f26 W h)) A27 c28 hc28 (fun W hS=>f29 W hS.now) A30 c31 hc31 (fun W hS=>f32 W hS.now) p2.a0 p2.a1 p2.a2 _ hx36) (fun ⟨A37,c38,ps40⟩ hc38=>?_)
 refine g_sta _ (fun W h=>(ok_frontR (t:=2000) (t':=100270) h rfl)) ?_
 refine g_abs (fun φ42 q42'=>?_)
 have q42 : ∀ W,φ42 W→φ33 W:=fun W h=>(q42' W h).1
 have f41:=fun (W : World) (h : φ42 W)=>(q42' W h).2
 refine g_v rfl r_move<|g_v rfl (r_extract rfl rfl)<|g_v rfl (r_extract rfl rfl)<|g_v rfl r_assign<|g_v rfl r_assign<|g_nil<|d_then ?_
 refine c_flat [(3,.pointer (some ⟨g1,0,none⟩)),(4,.pointer (some ⟨g2,0,none⟩)),(5,.pointer (some ⟨g3,0,none⟩)),(7,.bool x4),(8,.slice A37 x34.length c38),(9,.bool x35)] ⟨rfl,rfl,rfl,rfl,rfl,rfl,trivial⟩ (fun u=>?_)
 refine c_sta ⟨w0,M,(100050,g3,.cells #[.int .i64 p2.a0,.int .i64 p2.a1,.int .i64 p2.a2] 32 (0,0))::(100040,g2,.cells #[.int .i64 x20.fKind,.int .i64 x20.fSerial,.int .i64 x20.fEpoch,.string x20.fQuestion.fName,.int .u16 x20.fQuestion.fType,.int .u16 x20.fQuestion.fClass,.bool x20.fGood,.slice A22 x20.fEntries.length c23,.int .i64 x20.fNote.fKind,.int .i64 x20.fNote.fFrom,.int .i64 x20.fNote.fTo,.int .i64 x20.fNote.fTerm,.int .i64 x20.fNote.fIndex,.int .i64 x20.fNote.fLogTerm,.int .i64 x20.fNote.fCommit,.bool x20.fNote.fGood,.slice A27 x20.fNote.fEntries.length c28,.slice A30 x20.fNote.fVoters.length c31,.string x20.fNote.fSnap,.string x20.fText] 31 (0,0))::(100030,g1,.cells #[.int .i64 x6.fKind,.int .i64 x6.fSerial,.int .i64 x6.fEpoch,.string x6.fQuestion.fName,.int .u16 x6.fQuestion.fType,.int .u16 x6.fQuestion.fClass,.bool x6.fGood,.slice A8 x6.fEntries.length c9,.int .i64 x6.fNote.fKind,.int .i64 x6.fNote.fFrom,.int .i64 x6.fNote.fTo,.int .i64 x6.fNote.fTerm,.int .i64 x6.fNote.fIndex,.int .i64 x6.fNote.fLogTerm,.int .i64 x6.fNote.fCommit,.bool x6.fNote.fGood,.slice A13 x6.fNote.fEntries.length c14,.slice A16 x6.fNote.fVoters.length c17,.string x6.fNote.fSnap,.string x6.fText] 31 (0,0))::H,(100270,⟨.slice A37 x34.length c38,41,9,x34.length,(x34.zip ps40).flatMap GCached.encP⟩)::R,φ42⟩ (fun _ h=>h)<|c_seq<|c_region<|g_v rfl (r_loadA (tag:=100030) rfl rfl Try.isAgg31 Try.sizeOf31 rfl rfl)<|g_v rfl (r_loadA (tag:=100040) rfl rfl Try.isAgg31 Try.sizeOf31 rfl rfl)<|g_v rfl (r_elemH (n:=0) Try.underlying32 Try.sizeOf3 rfl rfl (by decide) (by decide) rfl)<|g_v rfl (r_load (tag:=100050) rfl rfl rfl Try.isAgg3)<|g_v rfl (r_elemH (n:=1) Try.underlying32 Try.sizeOf3 rfl rfl (by decide) (by decide) rfl)<|g_v rfl (r_load (tag:=100050) rfl rfl rfl Try.isAgg3)<|g_v rfl (r_elemH (n:=2) Try.underlying32 Try.sizeOf3 rfl rfl (by decide) (by decide) rfl) ?_
 refine g_v rfl (r_load (tag:=100050) rfl rfl rfl Try.isAgg3) ?_
 replace hm:=bnd hm
 obtain ⟨⟨x44,x45⟩,hx46,hm⟩:=hm
 refine g_cn ⟨w0,M,_,_,φ42⟩ (fun _ h=>h) Try.call10 rfl rfl (c_ref20_Accept x6 A8 c9 ps11 ⟨hc9.1,hc9.2⟩ (fun W hS=>f10 W (q33 _ (q42 _ hS.now))) (fun W hS=>(f12 W (q33 _ (q42 _ hS.now)))) A13 c14 hc14 (fun W hS=>f15 W (q33 _ (q42 _ hS.now))) A16 c17 hc17 (fun W hS=>f18 W (q33 _ (q42 _ hS.now))) x20 A22 c23 ps25 ⟨hc23.1,hc23.2⟩ (fun W h=>f24 W (q42 _ h)) (fun W h=>(f26 W (q42 _ h))) A27 c28 hc28 (fun W hS=>f29 W (q42 _ hS.now)) A30 c31 hc31 (fun W hS=>f32 W (q42 _ hS.now)) p2.a0 p2.a1 p2.a2 _ hx46) (fun ⟨A47,c48,ps50⟩ hc48=>?_)
 refine g_sta _ (fun W h=>(ok_frontR (t:=2000) (t':=100390) h rfl)) ?_
 refine g_abs (fun φ52 q52'=>?_)
 have q52 : ∀ W,φ52 W→φ42 W:=fun W h=>(q52' W h).1
 have f51:=fun (W : World) (h : φ52 W)=>(q52' W h).2
 refine g_v rfl r_move<|g_v rfl (r_extract rfl rfl)<|g_v rfl (r_extract rfl rfl)<|g_v rfl r_assign<|g_v rfl r_assign<|g_nil<|d_then ?_
 refine c_flat [(7,.bool x4),(8,.slice A37 x34.length c38),(9,.bool x35),(10,.slice A47 x44.length c48),(11,.bool x45)] ⟨rfl,rfl,rfl,rfl,rfl,trivial⟩ (fun u=>?_)
 refine c_sta ⟨w0,M,(100050,g3,.cells #[.int .i64 p2.a0,.int .i64 p2.a1,.int .i64 p2.a2] 32 (0,0))::(100040,g2,.cells #[.int .i64 x20.fKind,.int .i64 x20.fSerial,.int .i64 x20.fEpoch,.string x20.fQuestion.fName,.int .u16 x20.fQuestion.fType,.int .u16 x20.fQuestion.fClass,.bool x20.fGood,.slice A22 x20.fEntries.length c23,.int .i64 x20.fNote.fKind,.int .i64 x20.fNote.fFrom,.int .i64 x20.fNote.fTo,.int .i64 x20.fNote.fTerm,.int .i64 x20.fNote.fIndex,.int .i64 x20.fNote.fLogTerm,.int .i64 x20.fNote.fCommit,.bool x20.fNote.fGood,.slice A27 x20.fNote.fEntries.length c28,.slice A30 x20.fNote.fVoters.length c31,.string x20.fNote.fSnap,.string x20.fText] 31 (0,0))::(100030,g1,.cells #[.int .i64 x6.fKind,.int .i64 x6.fSerial,.int .i64 x6.fEpoch,.string x6.fQuestion.fName,.int .u16 x6.fQuestion.fType,.int .u16 x6.fQuestion.fClass,.bool x6.fGood,.slice A8 x6.fEntries.length c9,.int .i64 x6.fNote.fKind,.int .i64 x6.fNote.fFrom,.int .i64 x6.fNote.fTo,.int .i64 x6.fNote.fTerm,.int .i64 x6.fNote.fIndex,.int .i64 x6.fNote.fLogTerm,.int .i64 x6.fNote.fCommit,.bool x6.fNote.fGood,.slice A13 x6.fNote.fEntries.length c14,.slice A16 x6.fNote.fVoters.length c17,.string x6.fNote.fSnap,.string x6.fText] 31 (0,0))::H,(100390,⟨.slice A47 x44.length c48,41,9,x44.length,(x44.zip ps50).flatMap GCached.encP⟩)::(100270,⟨.slice A37 x34.length c38,41,9,x34.length,(x34.zip ps40).flatMap GCached.encP⟩)::R,φ52⟩ (fun _ h=>h)<|c_seq<|c_region<|g_v rfl r_move<|g_v rfl r_move ?_
 replace hm:=bnd hm
 obtain ⟨x54,hx55,hm⟩:=hm
 refine g_cn ⟨w0,M,_,_,φ52⟩ (fun _ h=>h) Try.call11 rfl rfl (c_ref16_SameAll x34 A37 c38 ps40 ⟨hc38.1,hc38.2⟩ (fun W hS=>rowCl (tag:=100270) rfl W hS) (fun W hS=>(f41 W (q52 _ hS.now))) x44 A47 c48 ps50 ⟨hc48.1,hc48.2⟩ (fun W hS=>rowCl (tag:=100390) rfl W hS) (fun W hS=>(f51 W hS.now)) _ hx55) (fun _ _=>?_)
 refine g_v rfl r_assign<|g_nil<|d_then<|c_seq<|c_region<|g_v rfl r_move<|g_v rfl r_move ?_
 refine g_if rfl rfl rfl rfl rfl (fun h56=>?_) (fun h56=>?_)
 ·
  replace hm:=ite_t hm h56
  refine g_v rfl r_move<|g_v rfl (r_pick1 rfl h56)<|g_v rfl r_move ?_
  refine g_if rfl rfl rfl rfl rfl (fun h57=>?_) (fun h57=>?_)
  ·
   replace hm:=ite_t hm h57
   refine g_v rfl r_move<|g_do rfl rfl rfl rfl rfl h57<|g_v rfl r_move<|g_do rfl rfl rfl rfl rfl h57<|g_v rfl (r_eqlBo Try.underlying4 rfl rfl)<|g_v rfl (r_pick1 rfl h57)<|g_v rfl r_assign<|g_nil<|d_then ?_
   refine c_flat [(6,.bool (x35 == x45))] ⟨rfl,trivial⟩ (fun u=>?_)
   refine c_ret ?_
   cases hm
   exact d_retC () Try.results3 (res_tmp (res_nil rfl)) trivial (fun W h=>ok_pre (H1:=[_,_,_]) (R1:=[_,_]) h (fun W hφ=>(q19 _ (q33 _ (q42 _ (q52 _ hφ)))))) (.inr rfl)
  replace hm:=ite_f hm (bool_nt h57)
  refine g_no rfl rfl rfl rfl rfl h57<|g_no rfl rfl rfl rfl rfl h57<|g_v rfl (r_pick0 rfl h57)<|g_v rfl r_assign<|g_nil<|d_then ?_
  refine c_flat [(6,.bool false)] ⟨rfl,trivial⟩ (fun u=>?_)
  refine c_ret ?_
  cases hm
  exact d_retC () Try.results3 (res_tmp (res_nil rfl)) trivial (fun W h=>ok_pre (H1:=[_,_,_]) (R1:=[_,_]) h (fun W hφ=>(q19 _ (q33 _ (q42 _ (q52 _ hφ)))))) (.inr rfl)
 replace hm:=ite_f hm (bool_nt h56)
 refine g_v rfl (r_pick0 rfl h56)<|g_v rfl r_move ?_
 iterate 3 refine g_no rfl rfl rfl rfl rfl rfl ?_
 refine g_v rfl (r_pick0 rfl rfl)<|g_v rfl r_assign<|g_nil<|d_then ?_
 refine c_flat [(6,.bool false)] ⟨rfl,trivial⟩ (fun u=>?_)
 refine c_ret ?_
 cases hm
 exact d_retC () Try.results3 (res_tmp (res_nil rfl)) trivial (fun W h=>ok_pre (H1:=[_,_,_]) (R1:=[_,_]) h (fun W hφ=>(q19 _ (q33 _ (q42 _ (q52 _ hφ)))))) (.inr rfl)
end Go.Proofs.Ytbaobjcaeaofaaa
