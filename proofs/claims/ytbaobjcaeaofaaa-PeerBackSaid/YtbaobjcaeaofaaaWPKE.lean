import Derived.Test.YtbaobjcaeaofaaaWPKD
set_option maxRecDepth 100000
set_option maxHeartbeats 4000000
set_option linter.unusedVariables false
set_option linter.unusedSimpArgs false
namespace Go.Proofs.Ytbaobjcaeaofaaa
open Go.RowKit Go.Proofs.YtbaobjcaeaofaaaW.PrintLast
noncomputable def m_law20_PeerBack_j1 (x18 : ByteArray) (x4 : GLetter) (x2 : Bool) (p1 : ByteArray) (i46 : Int) : Option Bool:=
  (dvd (x18.size : Int)).bind fun u47=>
  if x4.fKind = 5 then
    some x2
  else
    if p1 = (⟨#[]⟩ : ByteArray) then
      some x2
    else
      (scutHi x18 (i46.tmod (x18.size : Int))).bind fun s50=>
      (m_peer_Read s50).bind fun (z66 : GLetter×Int)=>
      (m_law20_short p1 10).bind fun x68=>
      (sadd x18 x68).bind fun s70=>
      (m_peer_Read s70).bind fun (z86 : GLetter×Int)=>
      if x2 = true then
        if z66.2 = 10 then
          some (decide (z86.2 = 10))
        else
          some false
      else
        some false
noncomputable def m_law20_PeerBack (p0 : GLetter) (p1 : ByteArray) (p2 : Int) : Option Bool:=
  (m_law20_awake).bind fun x2=>
  (m_law20_small p0).bind fun x4=>
  (m_peer_Bytes x4).bind fun (z21 : ByteArray×Int)=>
  if z21.2 ≠ 0 then
    if x2 = true then
      some (decide (z21.1 = (⟨#[]⟩ : ByteArray)))
    else
      some false
  else
    (m_peer_Read z21.1).bind fun (z39 : GLetter×Int)=>
    (m_ref20_Same x4 z39.1).bind fun x41=>
    if z39.2 ≠ 0 then
      some false
    else
      if x41 = true then
        if p2 < 0 then
          m_law20_PeerBack_j1 z21.1 x4 x2 p1 (w64 (0 - w64 (p2 + 1)))
        else
          m_law20_PeerBack_j1 z21.1 x4 x2 p1 p2
      else
        some false
theorem c_law20_PeerBack {w0 : World} {M : Nat→Prop} {H : List (Nat×Nat×Obj)} {R : List (Nat×Row)} {φ : World→Prop} (p0 : GLetter) (Ap0_0 : Option Addr) (cp0_0 : Nat) (psp0_0 : List GCachedP) (hcp0_0 : (DOk GCached.capP p0.fEntries psp0_0∧p0.fEntries.length ≤ cp0_0)) (fp0_0 : ∀ W,(Sta.mk w0 M H R φ).ok W→Cl W Ap0_0 ((p0.fEntries.zip psp0_0).flatMap GCached.encP)) (fop0_0 : ∀ W,(Sta.mk w0 M H R φ).ok W→DOwn GCached.ownP p0.fEntries psp0_0 W) (Ap0_1 : Option Addr) (cp0_1 : Nat) (hcp0_1 : p0.fNote.fEntries.length ≤ cp0_1) (fp0_1 : ∀ W,(Sta.mk w0 M H R φ).ok W→Cl W Ap0_1 (p0.fNote.fEntries.flatMap GEntry.enc)) (Ap0_2 : Option Addr) (cp0_2 : Nat) (hcp0_2 : p0.fNote.fVoters.length ≤ cp0_2) (fp0_2 : ∀ W,φ W→Cl W Ap0_2 (p0.fNote.fVoters.flatMap (fun x : Int=>[Value.int .i64 x]))) (p1 : ByteArray) (p2 : Int) (r : Bool) (hm : m_law20_PeerBack p0 p1 p2 = some r) :
    Cn Try.prog 6 #[.agg #[Vi p0.fKind,Vi p0.fSerial,Vi p0.fEpoch,Vs p0.fQuestion.fName,Vu p0.fQuestion.fType,Vu p0.fQuestion.fClass,.bool p0.fGood,.slice Ap0_0 p0.fEntries.length cp0_0,Vi p0.fNote.fKind,Vi p0.fNote.fFrom,Vi p0.fNote.fTo,Vi p0.fNote.fTerm,Vi p0.fNote.fIndex,Vi p0.fNote.fLogTerm,Vi p0.fNote.fCommit,.bool p0.fNote.fGood,.slice Ap0_1 p0.fNote.fEntries.length cp0_1,.slice Ap0_2 p0.fNote.fVoters.length cp0_2,Vs p0.fNote.fSnap,Vs p0.fText],Vs p1,Vi p2] ⟨w0,M,H,R,φ⟩ (fun x : Unit=>.bool r) (fun x=>True) (fun x=>⟨w0,M,H,R,φ⟩):=by
 unfold m_law20_PeerBack at hm
 refine cn_intro (fn:=Try.f6) (N:=89) Try.func6 rfl Try.ntmps6 rfl<|c_seq<|c_region ?_
 refine g_e rfl (e_box 100030 rfl) (fun g1 _=>?_)
 refine g_v rfl r_assign<|g_nil<|d_then<|c_seq<|c_region ?_
 replace hm:=bnd hm
 obtain ⟨x2,hx3,hm⟩:=hm
 refine g_cn ⟨w0,M,_,_,φ⟩ (fun _ h=>h) Try.call7 rfl rfl (c_law20_awake  _ hx3) (fun _ _=>?_)
 refine g_v rfl r_assign<|g_nil<|d_then<|c_seq<|c_region<|g_v rfl (r_loadA (tag:=100030) rfl rfl Try.isAgg31 Try.sizeOf31 rfl rfl) ?_
 replace hm:=bnd hm
 obtain ⟨x4,hx5,hm⟩:=hm
 refine g_cn ⟨w0,M,_,_,φ⟩ (fun _ h=>h) Try.call8 rfl rfl (c_law20_small p0 Ap0_0 cp0_0 psp0_0 ⟨hcp0_0.1,hcp0_0.2⟩ (fun W hS=>fp0_0 W (ok_pre (H1:=[_]) (R1:=[]) hS (fun W h=>h))) (fun W hS=>fop0_0 W (ok_pre (H1:=[_]) (R1:=[]) hS (fun W h=>h))) Ap0_1 cp0_1 hcp0_1 (fun W hS=>fp0_1 W (ok_pre (H1:=[_]) (R1:=[]) hS (fun W h=>h))) Ap0_2 cp0_2 hcp0_2 (fun W h=>fp0_2 W h) _ hx5) (fun ⟨A6,c7,ps9,A11,c12,A14,c15⟩ ⟨hc7,hc12,hc15⟩=>?_)
 refine g_abs (fun φ17 q17'=>?_)
 have q17 : ∀ W,φ17 W→φ W:=fun W h=>(q17' W h).1
 have f8:=fun (W : World) (h : φ17 W)=>(q17' W h).2.1
 have f10:=fun (W : World) (h : φ17 W)=>(q17' W h).2.2.1
 have f13:=fun (W : World) (h : φ17 W)=>(q17' W h).2.2.2.1
 have f16:=fun (W : World) (h : φ17 W)=>(q17' W h).2.2.2.2
 refine g_storeL (tag:=100030) rfl rfl rfl rfl Try.sizeOf31 rfl rfl<|g_nil<|d_then<|c_seq<|c_region<|g_v rfl (r_loadA (tag:=100030) rfl rfl Try.isAgg31 Try.sizeOf31 rfl rfl) ?_
 replace hm:=bnd hm
 obtain ⟨⟨x18,x19⟩,hx20,hm⟩:=hm
 refine g_cn ⟨w0,M,_,_,φ17⟩ (fun _ h=>h) Try.call13 rfl rfl (c_peer_Bytes x4 A6 c7 ps9 ⟨hc7.1,hc7.2⟩ (fun W h=>f8 W h) (fun W h=>(f10 W h)) A11 c12 hc12 (fun W hS=>f13 W hS.now) A14 c15 hc15 (fun W hS=>f16 W hS.now) _ hx20) (fun _ _=>?_)
 refine g_v rfl r_move<|g_v rfl (r_extract rfl rfl)<|g_v rfl (r_extract rfl rfl)<|g_v rfl r_assign<|g_v rfl r_assign<|g_nil<|d_then ?_
 refine c_flat [(1,Vs p1),(2,Vi p2),(3,Vp g1),(7,.bool x2),(8,Vs x18),(9,Vi x19)] ⟨rfl,rfl,rfl,rfl,rfl,rfl,trivial⟩ (fun u=>?_)
 refine c_sta ⟨w0,M,(100030,g1,.cells #[Vi x4.fKind,Vi x4.fSerial,Vi x4.fEpoch,Vs x4.fQuestion.fName,Vu x4.fQuestion.fType,Vu x4.fQuestion.fClass,.bool x4.fGood,.slice A6 x4.fEntries.length c7,Vi x4.fNote.fKind,Vi x4.fNote.fFrom,Vi x4.fNote.fTo,Vi x4.fNote.fTerm,Vi x4.fNote.fIndex,Vi x4.fNote.fLogTerm,Vi x4.fNote.fCommit,.bool x4.fNote.fGood,.slice A11 x4.fNote.fEntries.length c12,.slice A14 x4.fNote.fVoters.length c15,Vs x4.fNote.fSnap,Vs x4.fText] 31 (0,0))::H,R,φ17⟩ (fun _ h=>h)<|c_seq<|c_seq<|c_region<|g_v rfl r_move<|g_v rfl (r_neq rfl rfl)<|g_nil<|d_then ?_
 refine c_cond rfl (fun h22=>?_) (fun h22=>?_)
 ·
  replace hm:=ite_t hm (of_decide_eq_true h22)
  refine c_seq<|c_region<|g_v rfl r_move<|g_v rfl r_move ?_
  refine g_if rfl rfl rfl rfl rfl (fun h23=>?_) (fun h23=>?_)
  ·
   replace hm:=ite_t hm h23
   refine g_v rfl r_move<|g_do rfl rfl rfl rfl rfl h23<|g_v rfl (r_eqlT rfl rfl)<|g_v rfl (r_pick1 rfl h23)<|g_v rfl r_assign<|g_nil<|d_then<|c_ret<|d_ret_then ?_
   cases hm
   exact d_retC () Try.results6 (res_tmp (res_nil rfl)) trivial (fun W h=>ok_pre (H1:=[_]) (R1:=[]) h (fun W hφ=>(q17 _ hφ))) (.inr rfl)
  replace hm:=ite_f hm (bool_nt h23)
  refine g_no rfl rfl rfl rfl rfl h23<|g_v rfl (r_pick0 rfl h23)<|g_v rfl r_assign<|g_nil<|d_then<|c_ret<|d_ret_then ?_
  cases hm
  exact d_retC () Try.results6 (res_tmp (res_nil rfl)) trivial (fun W h=>ok_pre (H1:=[_]) (R1:=[]) h (fun W hφ=>(q17 _ hφ))) (.inr rfl)
 replace hm:=ite_f hm (of_decide_eq_false h22)
 refine c_skip<|d_then<|c_seq<|c_region<|g_v rfl r_move ?_
 replace hm:=bnd hm
 obtain ⟨⟨x24,x25⟩,hx26,hm⟩:=hm
 refine g_cn ⟨w0,M,_,_,φ17⟩ (fun _ h=>h) Try.call15 rfl rfl (c_peer_Read x18 _ hx26) (fun ⟨A27,c28,ps30,A32,c33,A35,c36⟩ ⟨hc28,hc33,hc36⟩=>?_)
 refine g_abs (fun φ38 q38'=>?_)
 have q38 : ∀ W,φ38 W→φ17 W:=fun W h=>(q38' W h).1
 have f29:=fun (W : World) (h : φ38 W)=>(q38' W h).2.1
 have f31:=fun (W : World) (h : φ38 W)=>(q38' W h).2.2.1
 have f34:=fun (W : World) (h : φ38 W)=>(q38' W h).2.2.2.1
 have f37:=fun (W : World) (h : φ38 W)=>(q38' W h).2.2.2.2
 refine g_v rfl r_move<|g_v rfl (r_extract rfl rfl)<|g_v rfl (r_extract rfl rfl) ?_
 refine g_e rfl (e_alloc 100100 Try.zeroValue31) (fun g40 _=>?_)
 refine g_storeL (tag:=100100) rfl rfl rfl rfl Try.sizeOf31 rfl rfl<|g_v rfl r_assign<|g_nil<|d_then ?_
 refine c_flat [(1,Vs p1),(2,Vi p2),(3,Vp g1),(7,.bool x2),(8,Vs x18),(10,Vp g40),(11,Vi x25)] ⟨rfl,rfl,rfl,rfl,rfl,rfl,rfl,trivial⟩ (fun u=>?_)
 refine c_sta ⟨w0,M,(100100,g40,.cells #[Vi x24.fKind,Vi x24.fSerial,Vi x24.fEpoch,Vs x24.fQuestion.fName,Vu x24.fQuestion.fType,Vu x24.fQuestion.fClass,.bool x24.fGood,.slice A27 x24.fEntries.length c28,Vi x24.fNote.fKind,Vi x24.fNote.fFrom,Vi x24.fNote.fTo,Vi x24.fNote.fTerm,Vi x24.fNote.fIndex,Vi x24.fNote.fLogTerm,Vi x24.fNote.fCommit,.bool x24.fNote.fGood,.slice A32 x24.fNote.fEntries.length c33,.slice A35 x24.fNote.fVoters.length c36,Vs x24.fNote.fSnap,Vs x24.fText] 31 (0,0))::(100030,g1,.cells #[Vi x4.fKind,Vi x4.fSerial,Vi x4.fEpoch,Vs x4.fQuestion.fName,Vu x4.fQuestion.fType,Vu x4.fQuestion.fClass,.bool x4.fGood,.slice A6 x4.fEntries.length c7,Vi x4.fNote.fKind,Vi x4.fNote.fFrom,Vi x4.fNote.fTo,Vi x4.fNote.fTerm,Vi x4.fNote.fIndex,Vi x4.fNote.fLogTerm,Vi x4.fNote.fCommit,.bool x4.fNote.fGood,.slice A11 x4.fNote.fEntries.length c12,.slice A14 x4.fNote.fVoters.length c15,Vs x4.fNote.fSnap,Vs x4.fText] 31 (0,0))::H,R,φ38⟩ (fun _ h=>h)<|c_seq<|c_region<|g_v rfl (r_loadA (tag:=100030) rfl rfl Try.isAgg31 Try.sizeOf31 rfl rfl)<|g_v rfl (r_loadA (tag:=100100) rfl rfl Try.isAgg31 Try.sizeOf31 rfl rfl) ?_
 replace hm:=bnd hm
 obtain ⟨x41,hx42,hm⟩:=hm
 refine g_cn ⟨w0,M,_,_,φ38⟩ (fun _ h=>h) Try.call14 rfl rfl (c_ref20_Same x4 A6 c7 ps9 ⟨hc7.1,hc7.2⟩ (fun W hS=>f8 W (q38 _ hS.now)) (fun W hS=>(f10 W (q38 _ hS.now))) A11 c12 hc12 (fun W h=>f13 W (q38 _ h)) A14 c15 hc15 (fun W h=>f16 W (q38 _ h)) x24 A27 c28 ps30 ⟨hc28.1,hc28.2⟩ (fun W hS=>f29 W hS.now) (fun W hS=>(f31 W hS.now)) A32 c33 hc33 (fun W h=>f34 W h) A35 c36 hc36 (fun W h=>f37 W h) _ hx42) (fun _ _=>?_)
 refine g_v rfl r_assign<|g_nil<|d_then<|c_seq<|c_seq<|c_region<|g_v rfl r_move<|g_v rfl (r_neq rfl rfl)<|g_v rfl r_move ?_
 refine g_if rfl rfl rfl rfl rfl (fun h43=>?_) (fun h43=>?_)
 ·
  replace hm:=ite_f hm (of_decide_eq_false h43)
  refine g_v rfl r_move<|g_do rfl rfl rfl rfl rfl h43<|g_v rfl (r_not rfl)<|g_v rfl (r_pick0 rfl h43)<|g_nil<|d_then ?_
  refine c_flat [(1,Vs p1),(2,Vi p2),(3,Vp g1),(7,.bool x2),(8,Vs x18),(46,.bool (!x41))] ⟨rfl,rfl,rfl,rfl,rfl,rfl,trivial⟩ (fun u=>?_)
  refine c_cond rfl (fun h44=>?_) (fun h44=>?_)
  ·
   have h44' : x41 = false:=by revert h44; cases x41 <;> simp
   replace hm:=ite_f hm (bool_nt h44')
   refine c_seq<|c_region<|g_v rfl r_assign<|g_nil<|d_then<|c_ret<|d_ret_then ?_
   cases hm
   exact d_retC () Try.results6 (res_tmp (res_nil rfl)) trivial (fun W h=>ok_pre (H1:=[_,_]) (R1:=[]) h (fun W hφ=>(q17 _ (q38 _ hφ)))) (.inr rfl)
  have h44' : x41 = true:=by revert h44; cases x41 <;> simp
  replace hm:=ite_t hm h44'
  refine c_skip<|d_then<|c_seq<|c_region<|g_v rfl r_move<|g_v rfl r_assign<|g_nil<|d_then<|c_seq ?_
  refine c_cut (ι:=Int) [1,3,7,8,13] (fun i46=>[(13,Vi i46)]) (fun i46=>⟨w0,M,(100030,g1,.cells #[Vi x4.fKind,Vi x4.fSerial,Vi x4.fEpoch,Vs x4.fQuestion.fName,Vu x4.fQuestion.fType,Vu x4.fQuestion.fClass,.bool x4.fGood,.slice A6 x4.fEntries.length c7,Vi x4.fNote.fKind,Vi x4.fNote.fFrom,Vi x4.fNote.fTo,Vi x4.fNote.fTerm,Vi x4.fNote.fIndex,Vi x4.fNote.fLogTerm,Vi x4.fNote.fCommit,.bool x4.fNote.fGood,.slice A11 x4.fNote.fEntries.length c12,.slice A14 x4.fNote.fVoters.length c15,Vs x4.fNote.fSnap,Vs x4.fText] 31 (0,0))::H,R,φ38⟩) (fun i46=>m_law20_PeerBack_j1 x18 x4 x2 p1 i46 = some r) ?_ (fun i46 u hm=>?_)
  ·
   refine c_seq<|c_region<|g_v rfl r_move<|g_v rfl (r_lss rfl rfl)<|g_nil<|d_then ?_
   refine c_cond rfl (fun h90=>?_) (fun h90=>?_)
   ·
    replace hm:=ite_t hm (of_decide_eq_true h90)
    refine c_region<|g_v rfl r_move<|g_v rfl (r_add rfl rfl rfl)<|g_v rfl (r_neg rfl rfl)<|g_v rfl r_assign<|g_nil ?_
    exact d_round (w64 (0 - w64 (p2 + 1))) hm Nat.zero_lt_one ⟨rfl,rfl,rfl,rfl,rfl,trivial⟩ (fun W h=>(h.dropH (t:=100100) rfl).phi (fun W hφ=>hφ))
   replace hm:=ite_f hm (of_decide_eq_false h90)
   refine c_skip ?_
   exact d_round p2 hm Nat.zero_lt_one ⟨rfl,rfl,rfl,rfl,rfl,trivial⟩ (fun W h=>(h.dropH (t:=100100) rfl).phi (fun W hφ=>hφ))
  unfold m_law20_PeerBack_j1 at hm
  refine d_flat [(1,Vs p1),(3,Vp g1),(7,.bool x2),(8,Vs x18),(13,Vi i46)] ⟨rfl,rfl,rfl,rfl,rfl,trivial⟩ (fun u=>?_)
  refine d_sta ⟨w0,M,(100030,g1,.cells #[Vi x4.fKind,Vi x4.fSerial,Vi x4.fEpoch,Vs x4.fQuestion.fName,Vu x4.fQuestion.fType,Vu x4.fQuestion.fClass,.bool x4.fGood,.slice A6 x4.fEntries.length c7,Vi x4.fNote.fKind,Vi x4.fNote.fFrom,Vi x4.fNote.fTo,Vi x4.fNote.fTerm,Vi x4.fNote.fIndex,Vi x4.fNote.fLogTerm,Vi x4.fNote.fCommit,.bool x4.fNote.fGood,.slice A11 x4.fNote.fEntries.length c12,.slice A14 x4.fNote.fVoters.length c15,Vs x4.fNote.fSnap,Vs x4.fText] 31 (0,0))::H,R,φ38⟩ (fun _ h=>h)<|d_then<|c_seq<|c_region<|g_v rfl r_move<|g_v rfl r_move<|g_v rfl (r_len Try.underlying9 rfl) ?_
  replace hm:=bnd hm
  obtain ⟨u47,hu47,hm⟩:=hm
  refine g_v rfl (r_rem rfl rfl (dvd_some hu47) rfl)<|g_v rfl r_assign<|g_nil<|d_then<|c_seq<|c_seq<|c_region<|g_v rfl (r_field (n:=0) Try.underlying31 rfl Try.sizeOf3 rfl rfl)<|g_v rfl (r_load (tag:=100030) rfl rfl rfl Try.isAgg3)<|g_v rfl (r_eql rfl rfl) ?_
  refine g_v rfl r_move ?_
  refine g_if rfl rfl rfl rfl rfl (fun h48=>?_) (fun h48=>?_)
  ·
   replace hm:=ite_f hm (of_decide_eq_false h48)
   refine g_v rfl r_move<|g_do rfl rfl rfl rfl rfl h48<|g_v rfl (r_eqlT rfl rfl)<|g_v rfl (r_pick0 rfl h48)<|g_nil<|d_then ?_
   refine c_flat [(1,Vs p1),(7,.bool x2),(8,Vs x18),(13,Vi (i46.tmod (x18.size : Int))),(63,.bool (decide (p1 = eB)))] ⟨rfl,rfl,rfl,rfl,rfl,trivial⟩ (fun u=>?_)
   refine c_cond rfl (fun h49=>?_) (fun h49=>?_)
   ·
    replace hm:=ite_t hm (of_decide_eq_true h49)
    refine c_seq<|c_region<|g_v rfl r_move<|g_v rfl r_assign<|g_nil<|d_then<|c_ret<|d_ret_then ?_
    cases hm
    exact d_retC () Try.results6 (res_tmp (res_nil rfl)) trivial (fun W h=>ok_pre (H1:=[_]) (R1:=[]) h (fun W hφ=>(q17 _ (q38 _ hφ)))) (.inr rfl)
   replace hm:=ite_f hm (of_decide_eq_false h49)
   refine c_skip<|d_then<|c_seq<|c_region<|g_v rfl r_move<|g_v rfl r_move ?_
   replace hm:=bnd hm
   obtain ⟨s50,hs50,hm⟩:=hm
   refine g_v rfl (r_scutHi Try.underlying9 rfl rfl hs50) ?_
   replace hm:=bnd hm
   obtain ⟨⟨x51,x52⟩,hx53,hm⟩:=hm
   refine g_cn ⟨w0,M,_,_,φ38⟩ (fun _ h=>h) Try.call15 rfl rfl (c_peer_Read s50 _ hx53) (fun ⟨A54,c55,ps57,A59,c60,A62,c63⟩ ⟨hc55,hc60,hc63⟩=>?_)
   refine g_abs (fun φ65 q65'=>?_)
   have q65 : ∀ W,φ65 W→φ38 W:=fun W h=>(q65' W h).1
   have f56:=fun (W : World) (h : φ65 W)=>(q65' W h).2.1
   have f58:=fun (W : World) (h : φ65 W)=>(q65' W h).2.2.1
   have f61:=fun (W : World) (h : φ65 W)=>(q65' W h).2.2.2.1
   have f64:=fun (W : World) (h : φ65 W)=>(q65' W h).2.2.2.2
   refine g_v rfl r_move<|g_v rfl (r_extract rfl rfl)<|g_v rfl (r_extract rfl rfl) ?_
   refine g_e rfl (e_alloc 100140 Try.zeroValue31) (fun g67 _=>?_)
   refine g_storeL (tag:=100140) rfl rfl rfl rfl Try.sizeOf31 rfl rfl<|g_v rfl r_assign<|g_nil<|d_then ?_
   refine c_flat [(1,Vs p1),(7,.bool x2),(8,Vs x18),(15,Vi x52)] ⟨rfl,rfl,rfl,rfl,trivial⟩ (fun u=>?_)
   refine c_sta ⟨w0,M,(100140,g67,.cells #[Vi x51.fKind,Vi x51.fSerial,Vi x51.fEpoch,Vs x51.fQuestion.fName,Vu x51.fQuestion.fType,Vu x51.fQuestion.fClass,.bool x51.fGood,.slice A54 x51.fEntries.length c55,Vi x51.fNote.fKind,Vi x51.fNote.fFrom,Vi x51.fNote.fTo,Vi x51.fNote.fTerm,Vi x51.fNote.fIndex,Vi x51.fNote.fLogTerm,Vi x51.fNote.fCommit,.bool x51.fNote.fGood,.slice A59 x51.fNote.fEntries.length c60,.slice A62 x51.fNote.fVoters.length c63,Vs x51.fNote.fSnap,Vs x51.fText] 31 (0,0))::(100030,g1,.cells #[Vi x4.fKind,Vi x4.fSerial,Vi x4.fEpoch,Vs x4.fQuestion.fName,Vu x4.fQuestion.fType,Vu x4.fQuestion.fClass,.bool x4.fGood,.slice A6 x4.fEntries.length c7,Vi x4.fNote.fKind,Vi x4.fNote.fFrom,Vi x4.fNote.fTo,Vi x4.fNote.fTerm,Vi x4.fNote.fIndex,Vi x4.fNote.fLogTerm,Vi x4.fNote.fCommit,.bool x4.fNote.fGood,.slice A11 x4.fNote.fEntries.length c12,.slice A14 x4.fNote.fVoters.length c15,Vs x4.fNote.fSnap,Vs x4.fText] 31 (0,0))::H,R,φ65⟩ (fun _ h=>h)<|c_seq<|c_region<|g_v rfl r_move<|g_v rfl r_move ?_
   replace hm:=bnd hm
   obtain ⟨x68,hx69,hm⟩:=hm
   refine g_cn ⟨w0,M,_,_,φ65⟩ (fun _ h=>h) Try.call16 rfl rfl (c_law20_short p1 10 _ hx69) (fun _ _=>?_)
   replace hm:=bnd hm
   obtain ⟨s70,hs70,hm⟩:=hm
   refine g_v rfl (r_addT rfl rfl hs70) ?_
   replace hm:=bnd hm
   obtain ⟨⟨x71,x72⟩,hx73,hm⟩:=hm
   refine g_cn ⟨w0,M,_,_,φ65⟩ (fun _ h=>h) Try.call15 rfl rfl (c_peer_Read s70 _ hx73) (fun ⟨A74,c75,ps77,A79,c80,A82,c83⟩ ⟨hc75,hc80,hc83⟩=>?_)
   refine g_abs (fun φ85 q85'=>?_)
   have q85 : ∀ W,φ85 W→φ65 W:=fun W h=>(q85' W h).1
   have f76:=fun (W : World) (h : φ85 W)=>(q85' W h).2.1
   have f78:=fun (W : World) (h : φ85 W)=>(q85' W h).2.2.1
   have f81:=fun (W : World) (h : φ85 W)=>(q85' W h).2.2.2.1
   have f84:=fun (W : World) (h : φ85 W)=>(q85' W h).2.2.2.2
   refine g_v rfl r_move<|g_v rfl (r_extract rfl rfl)<|g_v rfl (r_extract rfl rfl) ?_
   refine g_e rfl (e_alloc 100160 Try.zeroValue31) (fun g87 _=>?_)
   refine g_storeL (tag:=100160) rfl rfl rfl rfl Try.sizeOf31 rfl rfl<|g_v rfl r_assign<|g_nil<|d_then ?_
   refine c_flat [(7,.bool x2),(15,Vi x52),(17,Vi x72)] ⟨rfl,rfl,rfl,trivial⟩ (fun u=>?_)
   refine c_sta ⟨w0,M,(100160,g87,.cells #[Vi x71.fKind,Vi x71.fSerial,Vi x71.fEpoch,Vs x71.fQuestion.fName,Vu x71.fQuestion.fType,Vu x71.fQuestion.fClass,.bool x71.fGood,.slice A74 x71.fEntries.length c75,Vi x71.fNote.fKind,Vi x71.fNote.fFrom,Vi x71.fNote.fTo,Vi x71.fNote.fTerm,Vi x71.fNote.fIndex,Vi x71.fNote.fLogTerm,Vi x71.fNote.fCommit,.bool x71.fNote.fGood,.slice A79 x71.fNote.fEntries.length c80,.slice A82 x71.fNote.fVoters.length c83,Vs x71.fNote.fSnap,Vs x71.fText] 31 (0,0))::(100140,g67,.cells #[Vi x51.fKind,Vi x51.fSerial,Vi x51.fEpoch,Vs x51.fQuestion.fName,Vu x51.fQuestion.fType,Vu x51.fQuestion.fClass,.bool x51.fGood,.slice A54 x51.fEntries.length c55,Vi x51.fNote.fKind,Vi x51.fNote.fFrom,Vi x51.fNote.fTo,Vi x51.fNote.fTerm,Vi x51.fNote.fIndex,Vi x51.fNote.fLogTerm,Vi x51.fNote.fCommit,.bool x51.fNote.fGood,.slice A59 x51.fNote.fEntries.length c60,.slice A62 x51.fNote.fVoters.length c63,Vs x51.fNote.fSnap,Vs x51.fText] 31 (0,0))::(100030,g1,.cells #[Vi x4.fKind,Vi x4.fSerial,Vi x4.fEpoch,Vs x4.fQuestion.fName,Vu x4.fQuestion.fType,Vu x4.fQuestion.fClass,.bool x4.fGood,.slice A6 x4.fEntries.length c7,Vi x4.fNote.fKind,Vi x4.fNote.fFrom,Vi x4.fNote.fTo,Vi x4.fNote.fTerm,Vi x4.fNote.fIndex,Vi x4.fNote.fLogTerm,Vi x4.fNote.fCommit,.bool x4.fNote.fGood,.slice A11 x4.fNote.fEntries.length c12,.slice A14 x4.fNote.fVoters.length c15,Vs x4.fNote.fSnap,Vs x4.fText] 31 (0,0))::H,R,φ85⟩ (fun _ h=>h)<|c_seq<|c_region<|g_v rfl r_move<|g_v rfl r_move ?_
   refine g_if rfl rfl rfl rfl rfl (fun h88=>?_) (fun h88=>?_)
   ·
    replace hm:=ite_t hm h88
    refine g_v rfl r_move<|g_do rfl rfl rfl rfl rfl h88<|g_v rfl (r_eql rfl rfl)<|g_v rfl (r_pick1 rfl h88)<|g_v rfl r_move ?_
    refine g_if rfl rfl rfl rfl rfl (fun h89=>?_) (fun h89=>?_)
    ·
     replace hm:=ite_t hm (of_decide_eq_true h89)
     refine g_v rfl r_move<|g_do rfl rfl rfl rfl rfl h89<|g_v rfl (r_eql rfl rfl)<|g_v rfl (r_pick1 rfl h89)<|g_v rfl r_assign<|g_nil<|d_then ?_
     refine c_flat [(6,.bool (decide (x72 = 10)))] ⟨rfl,trivial⟩ (fun u=>?_)
     refine c_ret ?_
     cases hm
     exact d_retC () Try.results6 (res_tmp (res_nil rfl)) trivial (fun W h=>ok_pre (H1:=[_,_,_]) (R1:=[]) h (fun W hφ=>(q17 _ (q38 _ (q65 _ (q85 _ hφ)))))) (.inr rfl)
    replace hm:=ite_f hm (of_decide_eq_false h89)
    refine g_no rfl rfl rfl rfl rfl h89<|g_v rfl (r_pick0 rfl h89)<|g_v rfl r_assign<|g_nil<|d_then<|c_ret ?_
    cases hm
    exact d_retC () Try.results6 (res_tmp (res_nil rfl)) trivial (fun W h=>ok_pre (H1:=[_,_,_]) (R1:=[]) h (fun W hφ=>(q17 _ (q38 _ (q65 _ (q85 _ hφ)))))) (.inr rfl)
   replace hm:=ite_f hm (bool_nt h88)
   refine g_no rfl rfl rfl rfl rfl h88<|g_v rfl (r_pick0 rfl h88)<|g_v rfl r_move<|g_no rfl rfl rfl rfl rfl rfl<|g_no rfl rfl rfl rfl rfl rfl<|g_v rfl (r_pick0 rfl rfl)<|g_v rfl r_assign<|g_nil<|d_then<|c_ret ?_
   cases hm
   exact d_retC () Try.results6 (res_tmp (res_nil rfl)) trivial (fun W h=>ok_pre (H1:=[_,_,_]) (R1:=[]) h (fun W hφ=>(q17 _ (q38 _ (q65 _ (q85 _ hφ)))))) (.inr rfl)
  replace hm:=ite_t hm (of_decide_eq_true h48)
  refine g_no rfl rfl rfl rfl rfl h48<|g_v rfl (r_pick1 rfl h48)<|g_nil<|d_then ?_
  refine c_flat [(1,Vs p1),(7,.bool x2),(8,Vs x18),(13,Vi (i46.tmod (x18.size : Int))),(63,.bool true)] ⟨rfl,rfl,rfl,rfl,rfl,trivial⟩ (fun u=>?_)
  refine c_cond1 rfl rfl<|c_seq<|c_region<|g_v rfl r_move<|g_v rfl r_assign<|g_nil<|d_then<|c_ret<|d_ret_then ?_
  cases hm
  exact d_retC () Try.results6 (res_tmp (res_nil rfl)) trivial (fun W h=>ok_pre (H1:=[_]) (R1:=[]) h (fun W hφ=>(q17 _ (q38 _ hφ)))) (.inr rfl)
 replace hm:=ite_t hm (of_decide_eq_true h43)
 refine g_no rfl rfl rfl rfl rfl h43<|g_v rfl (r_pick1 rfl h43)<|g_nil<|d_then<|c_cond1 rfl rfl<|c_seq<|c_region<|g_v rfl r_assign<|g_nil<|d_then ?_
 refine c_flat [(6,.bool false)] ⟨rfl,trivial⟩ (fun u=>?_)
 refine c_ret<|d_ret_then ?_
 cases hm
 exact d_retC () Try.results6 (res_tmp (res_nil rfl)) trivial (fun W h=>ok_pre (H1:=[_,_]) (R1:=[]) h (fun W hφ=>(q17 _ (q38 _ hφ)))) (.inr rfl)
end Go.Proofs.Ytbaobjcaeaofaaa
