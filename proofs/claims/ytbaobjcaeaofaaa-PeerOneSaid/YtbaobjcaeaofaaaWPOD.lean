import Derived.Test.YtbaobjcaeaofaaaWPOC
set_option maxRecDepth 100000
set_option maxHeartbeats 4000000
set_option linter.unusedVariables false
set_option linter.unusedSimpArgs false
namespace Go.Proofs.Ytbaobjcaeaofaaa
open Go.RowKit Go.Proofs.YtbaobjcaeaofaaaW.PrintLast
noncomputable def m_law20_PeerOne (p0 : GLetter) (p1 : GLetter) : Option Bool:=
  (m_law20_awake).bind fun x3=>
  (m_law20_small p0).bind fun x5=>
  (m_law20_small p1).bind fun x19=>
  (m_peer_Bytes x5).bind fun (z36 : ByteArray×Int)=>
  (m_peer_Bytes x19).bind fun (z40 : ByteArray×Int)=>
  if z36.2 ≠ 0 then
    some x3
  else
    if z40.2 ≠ 0 then
      some x3
    else
      (m_ref20_Same x5 x19).bind fun x43=>
      if x3 = true then
        if ((decide (z36.1 = z40.1)) == x43) = true then
          if 17 ≤ (z36.1.size : Int) then
            (sat_ z36.1 0).bind fun b56=>
            some (decide (w64 b56 = x5.fKind))
          else
            some false
        else
          some false
      else
        some false
theorem c_law20_PeerOne {w0 : World} {M : Nat→Prop} {H : List (Nat×Nat×Obj)} {R : List (Nat×Row)} {φ : World→Prop} (p0 : GLetter) (Ap0_0 : Option Addr) (cp0_0 : Nat) (psp0_0 : List GCachedP) (hcp0_0 : (DOk GCached.capP p0.fEntries psp0_0∧p0.fEntries.length ≤ cp0_0)) (fp0_0 : ∀ W,(Sta.mk w0 M H R φ).ok W→Cl W Ap0_0 ((p0.fEntries.zip psp0_0).flatMap GCached.encP)) (fop0_0 : ∀ W,(Sta.mk w0 M H R φ).ok W→DOwn GCached.ownP p0.fEntries psp0_0 W) (Ap0_1 : Option Addr) (cp0_1 : Nat) (hcp0_1 : p0.fNote.fEntries.length ≤ cp0_1) (fp0_1 : ∀ W,(Sta.mk w0 M H R φ).ok W→Cl W Ap0_1 (p0.fNote.fEntries.flatMap GEntry.enc)) (Ap0_2 : Option Addr) (cp0_2 : Nat) (hcp0_2 : p0.fNote.fVoters.length ≤ cp0_2) (fp0_2 : ∀ W,φ W→Cl W Ap0_2 (p0.fNote.fVoters.flatMap (fun x : Int=>[Value.int .i64 x]))) (p1 : GLetter) (Ap1_0 : Option Addr) (cp1_0 : Nat) (psp1_0 : List GCachedP) (hcp1_0 : (DOk GCached.capP p1.fEntries psp1_0∧p1.fEntries.length ≤ cp1_0)) (fp1_0 : ∀ W,(Sta.mk w0 M H R φ).ok W→Cl W Ap1_0 ((p1.fEntries.zip psp1_0).flatMap GCached.encP)) (fop1_0 : ∀ W,(Sta.mk w0 M H R φ).ok W→DOwn GCached.ownP p1.fEntries psp1_0 W) (Ap1_1 : Option Addr) (cp1_1 : Nat) (hcp1_1 : p1.fNote.fEntries.length ≤ cp1_1) (fp1_1 : ∀ W,(Sta.mk w0 M H R φ).ok W→Cl W Ap1_1 (p1.fNote.fEntries.flatMap GEntry.enc)) (Ap1_2 : Option Addr) (cp1_2 : Nat) (hcp1_2 : p1.fNote.fVoters.length ≤ cp1_2) (fp1_2 : ∀ W,φ W→Cl W Ap1_2 (p1.fNote.fVoters.flatMap (fun x : Int=>[Value.int .i64 x]))) (r : Bool) (hm : m_law20_PeerOne p0 p1 = some r) :
    Cn Try.prog 5 #[.agg #[.int .i64 p0.fKind,.int .i64 p0.fSerial,.int .i64 p0.fEpoch,.string p0.fQuestion.fName,.int .u16 p0.fQuestion.fType,.int .u16 p0.fQuestion.fClass,.bool p0.fGood,.slice Ap0_0 p0.fEntries.length cp0_0,.int .i64 p0.fNote.fKind,.int .i64 p0.fNote.fFrom,.int .i64 p0.fNote.fTo,.int .i64 p0.fNote.fTerm,.int .i64 p0.fNote.fIndex,.int .i64 p0.fNote.fLogTerm,.int .i64 p0.fNote.fCommit,.bool p0.fNote.fGood,.slice Ap0_1 p0.fNote.fEntries.length cp0_1,.slice Ap0_2 p0.fNote.fVoters.length cp0_2,.string p0.fNote.fSnap,.string p0.fText],.agg #[.int .i64 p1.fKind,.int .i64 p1.fSerial,.int .i64 p1.fEpoch,.string p1.fQuestion.fName,.int .u16 p1.fQuestion.fType,.int .u16 p1.fQuestion.fClass,.bool p1.fGood,.slice Ap1_0 p1.fEntries.length cp1_0,.int .i64 p1.fNote.fKind,.int .i64 p1.fNote.fFrom,.int .i64 p1.fNote.fTo,.int .i64 p1.fNote.fTerm,.int .i64 p1.fNote.fIndex,.int .i64 p1.fNote.fLogTerm,.int .i64 p1.fNote.fCommit,.bool p1.fNote.fGood,.slice Ap1_1 p1.fNote.fEntries.length cp1_1,.slice Ap1_2 p1.fNote.fVoters.length cp1_2,.string p1.fNote.fSnap,.string p1.fText]] ⟨w0,M,H,R,φ⟩ (fun x : Unit=>.bool r) (fun x=>True) (fun x=>⟨w0,M,H,R,φ⟩):=by
 unfold m_law20_PeerOne at hm
 refine cn_intro (fn:=Try.f5) (N:=57) Try.func5 rfl Try.ntmps5 rfl<|c_seq<|c_region ?_
 refine g_e rfl (e_box 100020 rfl) (fun g1 _=>?_)
 refine g_e rfl (e_box 100030 rfl) (fun g2 _=>?_)
 refine g_v rfl r_assign<|g_nil<|d_then<|c_seq<|c_region ?_
 replace hm:=bnd hm
 obtain ⟨x3,hx4,hm⟩:=hm
 refine g_cn ⟨w0,M,_,_,φ⟩ (fun _ h=>h) Try.call7 rfl rfl (c_law20_awake  _ hx4) (fun _ _=>?_)
 refine g_v rfl r_assign<|g_nil<|d_then<|c_seq<|c_region<|g_v rfl (r_loadA (tag:=100020) rfl rfl Try.isAgg31 Try.sizeOf31 rfl rfl) ?_
 replace hm:=bnd hm
 obtain ⟨x5,hx6,hm⟩:=hm
 refine g_cn ⟨w0,M,_,_,φ⟩ (fun _ h=>h) Try.call8 rfl rfl (c_law20_small p0 Ap0_0 cp0_0 psp0_0 ⟨hcp0_0.1,hcp0_0.2⟩ (fun W hS=>fp0_0 W (ok_pre (H1:=[_,_]) (R1:=[]) hS (fun W h=>h))) (fun W hS=>fop0_0 W (ok_pre (H1:=[_,_]) (R1:=[]) hS (fun W h=>h))) Ap0_1 cp0_1 hcp0_1 (fun W hS=>fp0_1 W (ok_pre (H1:=[_,_]) (R1:=[]) hS (fun W h=>h))) Ap0_2 cp0_2 hcp0_2 (fun W h=>fp0_2 W h) _ hx6) (fun ⟨A7,c8,ps10,A12,c13,A15,c16⟩ ⟨hc8,hc13,hc16⟩=>?_)
 refine g_abs (fun φ18 q18'=>?_)
 have q18 : ∀ W,φ18 W→φ W:=fun W h=>(q18' W h).1
 have f9:=fun (W : World) (h : φ18 W)=>(q18' W h).2.1
 have f11:=fun (W : World) (h : φ18 W)=>(q18' W h).2.2.1
 have f14:=fun (W : World) (h : φ18 W)=>(q18' W h).2.2.2.1
 have f17:=fun (W : World) (h : φ18 W)=>(q18' W h).2.2.2.2
 refine g_storeL (tag:=100020) rfl rfl rfl rfl Try.sizeOf31 rfl rfl<|g_nil<|d_then<|c_seq<|c_region<|g_v rfl (r_loadA (tag:=100030) rfl rfl Try.isAgg31 Try.sizeOf31 rfl rfl) ?_
 replace hm:=bnd hm
 obtain ⟨x19,hx20,hm⟩:=hm
 refine g_cn ⟨w0,M,_,_,φ18⟩ (fun _ h=>h) Try.call8 rfl rfl (c_law20_small p1 Ap1_0 cp1_0 psp1_0 ⟨hcp1_0.1,hcp1_0.2⟩ (fun W hS=>fp1_0 W (ok_pre (H1:=[_,_]) (R1:=[]) hS (fun W h=>(q18 _ h)))) (fun W hS=>fop1_0 W (ok_pre (H1:=[_,_]) (R1:=[]) hS (fun W h=>(q18 _ h)))) Ap1_1 cp1_1 hcp1_1 (fun W hS=>fp1_1 W (ok_pre (H1:=[_,_]) (R1:=[]) hS (fun W h=>(q18 _ h)))) Ap1_2 cp1_2 hcp1_2 (fun W h=>fp1_2 W (q18 _ h)) _ hx20) (fun ⟨A21,c22,ps24,A26,c27,A29,c30⟩ ⟨hc22,hc27,hc30⟩=>?_)
 refine g_abs (fun φ32 q32'=>?_)
 have q32 : ∀ W,φ32 W→φ18 W:=fun W h=>(q32' W h).1
 have f23:=fun (W : World) (h : φ32 W)=>(q32' W h).2.1
 have f25:=fun (W : World) (h : φ32 W)=>(q32' W h).2.2.1
 have f28:=fun (W : World) (h : φ32 W)=>(q32' W h).2.2.2.1
 have f31:=fun (W : World) (h : φ32 W)=>(q32' W h).2.2.2.2
 refine g_storeL (tag:=100030) rfl rfl rfl rfl Try.sizeOf31 rfl rfl<|g_nil<|d_then ?_
 refine c_flat [(2,.pointer (some ⟨g1,0,none⟩)),(3,.pointer (some ⟨g2,0,none⟩)),(5,.bool x3)] ⟨rfl,rfl,rfl,trivial⟩ (fun u=>?_)
 refine c_sta ⟨w0,M,(100030,g2,.cells #[.int .i64 x19.fKind,.int .i64 x19.fSerial,.int .i64 x19.fEpoch,.string x19.fQuestion.fName,.int .u16 x19.fQuestion.fType,.int .u16 x19.fQuestion.fClass,.bool x19.fGood,.slice A21 x19.fEntries.length c22,.int .i64 x19.fNote.fKind,.int .i64 x19.fNote.fFrom,.int .i64 x19.fNote.fTo,.int .i64 x19.fNote.fTerm,.int .i64 x19.fNote.fIndex,.int .i64 x19.fNote.fLogTerm,.int .i64 x19.fNote.fCommit,.bool x19.fNote.fGood,.slice A26 x19.fNote.fEntries.length c27,.slice A29 x19.fNote.fVoters.length c30,.string x19.fNote.fSnap,.string x19.fText] 31 (0,0))::(100020,g1,.cells #[.int .i64 x5.fKind,.int .i64 x5.fSerial,.int .i64 x5.fEpoch,.string x5.fQuestion.fName,.int .u16 x5.fQuestion.fType,.int .u16 x5.fQuestion.fClass,.bool x5.fGood,.slice A7 x5.fEntries.length c8,.int .i64 x5.fNote.fKind,.int .i64 x5.fNote.fFrom,.int .i64 x5.fNote.fTo,.int .i64 x5.fNote.fTerm,.int .i64 x5.fNote.fIndex,.int .i64 x5.fNote.fLogTerm,.int .i64 x5.fNote.fCommit,.bool x5.fNote.fGood,.slice A12 x5.fNote.fEntries.length c13,.slice A15 x5.fNote.fVoters.length c16,.string x5.fNote.fSnap,.string x5.fText] 31 (0,0))::H,R,φ32⟩ (fun _ h=>h)<|c_seq<|c_region<|g_v rfl (r_loadA (tag:=100020) rfl rfl Try.isAgg31 Try.sizeOf31 rfl rfl) ?_
 replace hm:=bnd hm
 obtain ⟨⟨x33,x34⟩,hx35,hm⟩:=hm
 refine g_cn ⟨w0,M,_,_,φ32⟩ (fun _ h=>h) Try.call13 rfl rfl (c_peer_Bytes x5 A7 c8 ps10 ⟨hc8.1,hc8.2⟩ (fun W h=>f9 W (q32 _ h)) (fun W h=>(f11 W (q32 _ h))) A12 c13 hc13 (fun W hS=>f14 W (q32 _ hS.now)) A15 c16 hc16 (fun W hS=>f17 W (q32 _ hS.now)) _ hx35) (fun _ _=>?_)
 refine g_v rfl r_move<|g_v rfl (r_extract rfl rfl)<|g_v rfl (r_extract rfl rfl)<|g_v rfl r_assign<|g_v rfl r_assign<|g_nil<|d_then<|c_seq<|c_region<|g_v rfl (r_loadA (tag:=100030) rfl rfl Try.isAgg31 Try.sizeOf31 rfl rfl) ?_
 replace hm:=bnd hm
 obtain ⟨⟨x37,x38⟩,hx39,hm⟩:=hm
 refine g_cn ⟨w0,M,_,_,φ32⟩ (fun _ h=>h) Try.call13 rfl rfl (c_peer_Bytes x19 A21 c22 ps24 ⟨hc22.1,hc22.2⟩ (fun W h=>f23 W h) (fun W h=>(f25 W h)) A26 c27 hc27 (fun W hS=>f28 W hS.now) A29 c30 hc30 (fun W hS=>f31 W hS.now) _ hx39) (fun _ _=>?_)
 refine g_v rfl r_move<|g_v rfl (r_extract rfl rfl)<|g_v rfl (r_extract rfl rfl)<|g_v rfl r_assign<|g_v rfl r_assign<|g_nil<|d_then ?_
 refine c_flat [(2,.pointer (some ⟨g1,0,none⟩)),(3,.pointer (some ⟨g2,0,none⟩)),(5,.bool x3),(6,.string x33),(7,.int .i64 x34),(8,.string x37),(9,.int .i64 x38)] ⟨rfl,rfl,rfl,rfl,rfl,rfl,rfl,trivial⟩ (fun u=>?_)
 refine c_seq<|c_seq<|c_region<|g_v rfl r_move<|g_v rfl (r_neq rfl rfl)<|g_v rfl r_move ?_
 refine g_if rfl rfl rfl rfl rfl (fun h41=>?_) (fun h41=>?_)
 ·
  replace hm:=ite_f hm (of_decide_eq_false h41)
  refine g_v rfl r_move<|g_do rfl rfl rfl rfl rfl h41<|g_v rfl (r_neq rfl rfl)<|g_v rfl (r_pick0 rfl h41)<|g_nil<|d_then ?_
  refine c_cond rfl (fun h42=>?_) (fun h42=>?_)
  ·
   replace hm:=ite_t hm (of_decide_eq_true h42)
   refine c_seq<|c_region<|g_v rfl r_move<|g_v rfl r_assign<|g_nil<|d_then<|c_ret<|d_ret_then ?_
   cases hm
   exact d_retC () Try.results5 (res_tmp (res_nil rfl)) trivial (fun W h=>ok_pre (H1:=[_,_]) (R1:=[]) h (fun W hφ=>(q18 _ (q32 _ hφ)))) (.inr rfl)
  replace hm:=ite_f hm (of_decide_eq_false h42)
  refine c_skip<|d_then<|c_seq<|c_region<|g_v rfl (r_loadA (tag:=100020) rfl rfl Try.isAgg31 Try.sizeOf31 rfl rfl)<|g_v rfl (r_loadA (tag:=100030) rfl rfl Try.isAgg31 Try.sizeOf31 rfl rfl) ?_
  replace hm:=bnd hm
  obtain ⟨x43,hx44,hm⟩:=hm
  refine g_cn ⟨w0,M,_,_,φ32⟩ (fun _ h=>h) Try.call14 rfl rfl (c_ref20_Same x5 A7 c8 ps10 ⟨hc8.1,hc8.2⟩ (fun W hS=>f9 W (q32 _ hS.now)) (fun W hS=>(f11 W (q32 _ hS.now))) A12 c13 hc13 (fun W h=>f14 W (q32 _ h)) A15 c16 hc16 (fun W h=>f17 W (q32 _ h)) x19 A21 c22 ps24 ⟨hc22.1,hc22.2⟩ (fun W hS=>f23 W hS.now) (fun W hS=>(f25 W hS.now)) A26 c27 hc27 (fun W h=>f28 W h) A29 c30 hc30 (fun W h=>f31 W h) _ hx44) (fun _ _=>?_)
  refine g_v rfl r_assign<|g_nil<|d_then ?_
  refine c_flat [(2,.pointer (some ⟨g1,0,none⟩)),(5,.bool x3),(6,.string x33),(8,.string x37),(10,.bool x43)] ⟨rfl,rfl,rfl,rfl,rfl,trivial⟩ (fun u=>?_)
  refine c_seq<|ga_start (n:=22) ⟨w0,M,(100030,g2,.cells #[.int .i64 x19.fKind,.int .i64 x19.fSerial,.int .i64 x19.fEpoch,.string x19.fQuestion.fName,.int .u16 x19.fQuestion.fType,.int .u16 x19.fQuestion.fClass,.bool x19.fGood,.slice A21 x19.fEntries.length c22,.int .i64 x19.fNote.fKind,.int .i64 x19.fNote.fFrom,.int .i64 x19.fNote.fTo,.int .i64 x19.fNote.fTerm,.int .i64 x19.fNote.fIndex,.int .i64 x19.fNote.fLogTerm,.int .i64 x19.fNote.fCommit,.bool x19.fNote.fGood,.slice A26 x19.fNote.fEntries.length c27,.slice A29 x19.fNote.fVoters.length c30,.string x19.fNote.fSnap,.string x19.fText] 31 (0,0))::(100020,g1,.cells #[.int .i64 x5.fKind,.int .i64 x5.fSerial,.int .i64 x5.fEpoch,.string x5.fQuestion.fName,.int .u16 x5.fQuestion.fType,.int .u16 x5.fQuestion.fClass,.bool x5.fGood,.slice A7 x5.fEntries.length c8,.int .i64 x5.fNote.fKind,.int .i64 x5.fNote.fFrom,.int .i64 x5.fNote.fTo,.int .i64 x5.fNote.fTerm,.int .i64 x5.fNote.fIndex,.int .i64 x5.fNote.fLogTerm,.int .i64 x5.fNote.fCommit,.bool x5.fNote.fGood,.slice A12 x5.fNote.fEntries.length c13,.slice A15 x5.fNote.fVoters.length c16,.string x5.fNote.fSnap,.string x5.fText] 31 (0,0))::H,R,φ32⟩ [] #[false,false,false,false,false,false,false,false,false,false,false,false,false,false,false,false,false,false,false,false,false,false] (fun W h=>h.phi (fun W hφ=>hφ)) mixed rfl rfl<|ga_r (i:=0) (bz 22 1) rfl (by kernel_rfl) (by decide) rfl (r_move)<|ga_r (i:=1) (bz 22 3) rfl (by kernel_rfl) (by decide) rfl (r_move) ?_
  refine ga_if (t:=37) rfl (fun h53=>?_) (fun h53=>?_)
  ·
   replace hm:=ite_t hm h53
   refine ga_do (i:=2) (bz 22 7) rfl (by kernel_rfl) (fun _ _ _ _ h=>h) rfl rfl rfl rfl rfl h53 (r_move)<|ga_do (i:=3) (bz 22 15) rfl (by kernel_rfl) (fun _ _ _ _ h=>h) rfl rfl rfl rfl rfl h53 (r_move)<|ga_do (i:=4) (bz 22 31) rfl (by kernel_rfl) (fun _ _ _ _ h=>h) rfl rfl rfl rfl rfl h53 (r_eqlT rfl rfl)<|ga_rG (i:=5) (bz 22 63) rfl (by kernel_rfl) (by decide) rfl rfl rfl rfl rfl h53 (r_move)<|ga_rG (i:=6) (bz 22 127) rfl (by kernel_rfl) (by decide) rfl rfl rfl rfl rfl h53 (r_eqlBo Try.underlying4 rfl rfl)<|ga_r (i:=7) (bz 22 255) rfl (by kernel_rfl) (by decide) rfl (r_pick1 rfl h53)<|ga_r (i:=8) (bz 22 511) rfl (by kernel_rfl) (by decide) rfl (r_move) ?_
   refine ga_if (t:=44) rfl (fun h54=>?_) (fun h54=>?_)
   ·
    replace hm:=ite_t hm h54
    refine ga_rG (i:=9) (bz 22 1023) rfl (by kernel_rfl) (by decide) rfl rfl rfl rfl rfl h54 (r_move)<|ga_rG (i:=10) (bz 22 2047) rfl (by kernel_rfl) (by decide) rfl rfl rfl rfl rfl h54 (r_len Try.underlying9 rfl)<|ga_rG (i:=11) (bz 22 4095) rfl (by kernel_rfl) (by decide) rfl rfl rfl rfl rfl h54 (r_geq rfl rfl)<|ga_r (i:=12) (bz 22 8191) rfl (by kernel_rfl) (by decide) rfl (r_pick1 rfl h54)<|ga_r (i:=13) (bz 22 16383) rfl (by kernel_rfl) (by decide) rfl (r_move) ?_
    refine ga_if (t:=49) rfl (fun h55=>?_) (fun h55=>?_)
    ·
     replace hm:=ite_t hm (of_decide_eq_true h55)
     refine ga_do (i:=14) (bz 22 32767) rfl (by kernel_rfl) (fun _ _ _ _ h=>h) rfl rfl rfl rfl rfl h55 (r_move) ?_
     replace hm:=bnd hm
     obtain ⟨b56,hb56,hm⟩:=hm
     refine ga_do (i:=15) (bz 22 65535) rfl (by kernel_rfl) (fun _ _ _ _ h=>h) rfl rfl rfl rfl rfl h55 (r_sat Try.underlying9 rfl rfl hb56)<|ga_do (i:=16) (bz 22 131071) rfl (by kernel_rfl) (fun _ _ _ _ h=>h) rfl rfl rfl rfl rfl h55 (r_conv Try.underlying5 Try.underlying3 rfl rfl)<|ga_rG (i:=17) (bz 22 262143) rfl (by kernel_rfl) (by decide) rfl rfl rfl rfl rfl h55 (r_field (n:=0) Try.underlying31 rfl Try.sizeOf3 rfl rfl)<|ga_rG (i:=18) (bz 22 524287) rfl (by kernel_rfl) (by decide) rfl rfl rfl rfl rfl h55 (r_load (tag:=100020) rfl rfl rfl Try.isAgg3)<|ga_rG (i:=19) (bz 22 1048575) rfl (by kernel_rfl) (by decide) rfl rfl rfl rfl rfl h55 (r_eql rfl rfl)<|ga_r (i:=20) (bz 22 2097151) rfl (by kernel_rfl) (by decide) rfl (r_pick1 rfl h55)<|ga_r (i:=21) (bz 22 4194303) rfl (by kernel_rfl) (by decide) rfl (r_assign)<|ga_done (by kernel_rfl)<|d_then ?_
     refine c_flat [(4,.bool (decide (w64 b56 = x5.fKind)))] ⟨rfl,trivial⟩ (fun u=>?_)
     refine c_ret ?_
     cases hm
     exact d_retC () Try.results5 (res_tmp (res_nil rfl)) trivial (fun W h=>ok_pre (H1:=[_,_]) (R1:=[]) h (fun W hφ=>(q18 _ (q32 _ hφ)))) (.inr rfl)
    replace hm:=ite_f hm (of_decide_eq_false h55)
    refine ga_no (i:=14) (bz 22 32767) rfl (by kernel_rfl) (fun _ _ _ _ h=>h) rfl rfl rfl rfl rfl h55<|ga_no (i:=15) (bz 22 65535) rfl (by kernel_rfl) (fun _ _ _ _ h=>h) rfl rfl rfl rfl rfl h55<|ga_no (i:=16) (bz 22 131071) rfl (by kernel_rfl) (fun _ _ _ _ h=>h) rfl rfl rfl rfl rfl h55<|ga_no (i:=17) (bz 22 262143) rfl (by kernel_rfl) (fun _ _ _ _ h=>h) rfl rfl rfl rfl rfl h55<|ga_no (i:=18) (bz 22 524287) rfl (by kernel_rfl) (fun _ _ _ _ h=>h) rfl rfl rfl rfl rfl h55<|ga_no (i:=19) (bz 22 1048575) rfl (by kernel_rfl) (fun _ _ _ _ h=>h) rfl rfl rfl rfl rfl h55<|ga_r (i:=20) (bz 22 2097151) rfl (by kernel_rfl) (by decide) rfl (r_pick0 rfl h55)<|ga_r (i:=21) (bz 22 4194303) rfl (by kernel_rfl) (by decide) rfl (r_assign)<|ga_done (by kernel_rfl)<|d_then ?_
    refine c_flat [(4,.bool false)] ⟨rfl,trivial⟩ (fun u=>?_)
    refine c_ret ?_
    cases hm
    exact d_retC () Try.results5 (res_tmp (res_nil rfl)) trivial (fun W h=>ok_pre (H1:=[_,_]) (R1:=[]) h (fun W hφ=>(q18 _ (q32 _ hφ)))) (.inr rfl)
   replace hm:=ite_f hm (bool_nt h54)
   refine ga_no (i:=9) (bz 22 1023) rfl (by kernel_rfl) (fun _ _ _ _ h=>h) rfl rfl rfl rfl rfl h54<|ga_no (i:=10) (bz 22 2047) rfl (by kernel_rfl) (fun _ _ _ _ h=>h) rfl rfl rfl rfl rfl h54<|ga_no (i:=11) (bz 22 4095) rfl (by kernel_rfl) (fun _ _ _ _ h=>h) rfl rfl rfl rfl rfl h54<|ga_r (i:=12) (bz 22 8191) rfl (by kernel_rfl) (by decide) rfl (r_pick0 rfl h54)<|ga_r (i:=13) (bz 22 16383) rfl (by kernel_rfl) (by decide) rfl (r_move)<|ga_no (i:=14) (bz 22 32767) rfl (by kernel_rfl) (fun _ _ _ _ h=>h) rfl rfl rfl rfl rfl rfl<|ga_no (i:=15) (bz 22 65535) rfl (by kernel_rfl) (fun _ _ _ _ h=>h) rfl rfl rfl rfl rfl rfl<|ga_no (i:=16) (bz 22 131071) rfl (by kernel_rfl) (fun _ _ _ _ h=>h) rfl rfl rfl rfl rfl rfl<|ga_no (i:=17) (bz 22 262143) rfl (by kernel_rfl) (fun _ _ _ _ h=>h) rfl rfl rfl rfl rfl rfl<|ga_no (i:=18) (bz 22 524287) rfl (by kernel_rfl) (fun _ _ _ _ h=>h) rfl rfl rfl rfl rfl rfl ?_
   refine ga_no (i:=19) (bz 22 1048575) rfl (by kernel_rfl) (fun _ _ _ _ h=>h) rfl rfl rfl rfl rfl rfl<|ga_r (i:=20) (bz 22 2097151) rfl (by kernel_rfl) (by decide) rfl (r_pick0 rfl rfl)<|ga_r (i:=21) (bz 22 4194303) rfl (by kernel_rfl) (by decide) rfl (r_assign)<|ga_done (by kernel_rfl)<|d_then ?_
   refine c_flat [(4,.bool false)] ⟨rfl,trivial⟩ (fun u=>?_)
   refine c_ret ?_
   cases hm
   exact d_retC () Try.results5 (res_tmp (res_nil rfl)) trivial (fun W h=>ok_pre (H1:=[_,_]) (R1:=[]) h (fun W hφ=>(q18 _ (q32 _ hφ)))) (.inr rfl)
  replace hm:=ite_f hm (bool_nt h53)
  refine ga_no (i:=2) (bz 22 7) rfl (by kernel_rfl) (fun _ _ _ _ h=>h) rfl rfl rfl rfl rfl h53<|ga_no (i:=3) (bz 22 15) rfl (by kernel_rfl) (fun _ _ _ _ h=>h) rfl rfl rfl rfl rfl h53<|ga_no (i:=4) (bz 22 31) rfl (by kernel_rfl) (fun _ _ _ _ h=>h) rfl rfl rfl rfl rfl h53<|ga_no (i:=5) (bz 22 63) rfl (by kernel_rfl) (fun _ _ _ _ h=>h) rfl rfl rfl rfl rfl h53<|ga_no (i:=6) (bz 22 127) rfl (by kernel_rfl) (fun _ _ _ _ h=>h) rfl rfl rfl rfl rfl h53<|ga_r (i:=7) (bz 22 255) rfl (by kernel_rfl) (by decide) rfl (r_pick0 rfl h53)<|ga_r (i:=8) (bz 22 511) rfl (by kernel_rfl) (by decide) rfl (r_move)<|ga_no (i:=9) (bz 22 1023) rfl (by kernel_rfl) (fun _ _ _ _ h=>h) rfl rfl rfl rfl rfl rfl<|ga_no (i:=10) (bz 22 2047) rfl (by kernel_rfl) (fun _ _ _ _ h=>h) rfl rfl rfl rfl rfl rfl<|ga_no (i:=11) (bz 22 4095) rfl (by kernel_rfl) (fun _ _ _ _ h=>h) rfl rfl rfl rfl rfl rfl ?_
  refine ga_r (i:=12) (bz 22 8191) rfl (by kernel_rfl) (by decide) rfl (r_pick0 rfl rfl)<|ga_r (i:=13) (bz 22 16383) rfl (by kernel_rfl) (by decide) rfl (r_move)<|ga_no (i:=14) (bz 22 32767) rfl (by kernel_rfl) (fun _ _ _ _ h=>h) rfl rfl rfl rfl rfl rfl<|ga_no (i:=15) (bz 22 65535) rfl (by kernel_rfl) (fun _ _ _ _ h=>h) rfl rfl rfl rfl rfl rfl<|ga_no (i:=16) (bz 22 131071) rfl (by kernel_rfl) (fun _ _ _ _ h=>h) rfl rfl rfl rfl rfl rfl<|ga_no (i:=17) (bz 22 262143) rfl (by kernel_rfl) (fun _ _ _ _ h=>h) rfl rfl rfl rfl rfl rfl<|ga_no (i:=18) (bz 22 524287) rfl (by kernel_rfl) (fun _ _ _ _ h=>h) rfl rfl rfl rfl rfl rfl<|ga_no (i:=19) (bz 22 1048575) rfl (by kernel_rfl) (fun _ _ _ _ h=>h) rfl rfl rfl rfl rfl rfl<|ga_r (i:=20) (bz 22 2097151) rfl (by kernel_rfl) (by decide) rfl (r_pick0 rfl rfl)<|ga_r (i:=21) (bz 22 4194303) rfl (by kernel_rfl) (by decide) rfl (r_assign) ?_
  refine ga_done (by kernel_rfl)<|d_then<|c_ret ?_
  cases hm
  exact d_retC () Try.results5 (res_tmp (res_nil rfl)) trivial (fun W h=>ok_pre (H1:=[_,_]) (R1:=[]) h (fun W hφ=>(q18 _ (q32 _ hφ)))) (.inr rfl)
 replace hm:=ite_t hm (of_decide_eq_true h41)
 refine g_no rfl rfl rfl rfl rfl h41<|g_v rfl (r_pick1 rfl h41)<|g_nil<|d_then<|c_cond1 rfl rfl<|c_seq<|c_region<|g_v rfl r_move<|g_v rfl r_assign<|g_nil ?_
 refine d_then<|c_ret<|d_ret_then ?_
 cases hm
 exact d_retC () Try.results5 (res_tmp (res_nil rfl)) trivial (fun W h=>ok_pre (H1:=[_,_]) (R1:=[]) h (fun W hφ=>(q18 _ (q32 _ hφ)))) (.inr rfl)
end Go.Proofs.Ytbaobjcaeaofaaa
