import Derived.Test.YtbaobjcaeaofaaaWPKB
set_option maxRecDepth 100000
set_option maxHeartbeats 4000000
set_option linter.unusedVariables false
set_option linter.unusedSimpArgs false
namespace Go.Proofs.Ytbaobjcaeaofaaa
open Go.RowKit Go.Proofs.YtbaobjcaeaofaaaW.PrintLast
noncomputable def m_peer_Bytes_j1  (l73 : List Int) (l76 : List (ByteArray×Int)) : Option (ByteArray×Int):=
  (m_pack_Packer_Len (⟨l73,l76⟩ : Gpack_Packer)).bind fun x79=>
  if 65535 < x79 then
    some ((⟨#[]⟩ : ByteArray),11)
  else
    (m_pack_Packer_Bytes (⟨l73,l76⟩ : Gpack_Packer)).bind fun x82=>
    some (x82,0)
noncomputable def m_peer_Bytes (p0 : GLetter) : Option (ByteArray×Int):=
  (m_peer_Check p0).bind fun x2=>
  if x2 ≠ 0 then
    some ((⟨#[]⟩ : ByteArray),x2)
  else
    (m_pack_New).bind fun x5=>
    (m_pack_Packer_Byte (IntKind.u8.wrap p0.fKind) x5).bind fun x15=>
    (m_peer_writer_eight [p0.fSerial,p0.fEpoch] (⟨x15.fb,x5.fplaces⟩ : Gpack_Packer)).bind fun x21=>
    if p0.fKind = 1 then
      (m_pack_Packer_Name p0.fQuestion.fName false (⟨x21.fb,x5.fplaces⟩ : Gpack_Packer)).bind fun (z94 : Int×Gpack_Packer)=>
      (m_pack_Packer_Word p0.fQuestion.fType z94.2).bind fun x95=>
      (m_pack_Packer_Word p0.fQuestion.fClass (⟨x95.fb,z94.2.fplaces⟩ : Gpack_Packer)).bind fun x100=>
      m_peer_Bytes_j1 x100.fb z94.2.fplaces
    else
      if p0.fKind = 2 then
        (m_peer_writer_bit p0.fGood (⟨x21.fb,x5.fplaces⟩ : Gpack_Packer)).bind fun x106=>
        (m_peer_writer_entries p0.fEntries (⟨x106.fb,x5.fplaces⟩ : Gpack_Packer)).bind fun x111=>
        m_peer_Bytes_j1 x111.fb x111.fplaces
      else
        if p0.fKind = 3 then
          (m_peer_writer_note p0.fNote (⟨x21.fb,x5.fplaces⟩ : Gpack_Packer)).bind fun x120=>
          m_peer_Bytes_j1 x120.fb x5.fplaces
        else
          if p0.fKind = 5 then
            (m_pack_Packer_Raw p0.fText (⟨x21.fb,x5.fplaces⟩ : Gpack_Packer)).bind fun x126=>
            m_peer_Bytes_j1 x126.fb x5.fplaces
          else
            m_peer_Bytes_j1 x21.fb x5.fplaces
theorem c_peer_Bytes {w0 : World} {M : Nat→Prop} {H : List (Nat×Nat×Obj)} {R : List (Nat×Row)} {φ : World→Prop} (p0 : GLetter) (Ap0_0 : Option Addr) (cp0_0 : Nat) (psp0_0 : List GCachedP) (hcp0_0 : (DOk GCached.capP p0.fEntries psp0_0∧p0.fEntries.length ≤ cp0_0)) (fp0_0 : ∀ W,φ W→Cl W Ap0_0 ((p0.fEntries.zip psp0_0).flatMap GCached.encP)) (fop0_0 : ∀ W,φ W→DOwn GCached.ownP p0.fEntries psp0_0 W) (Ap0_1 : Option Addr) (cp0_1 : Nat) (hcp0_1 : p0.fNote.fEntries.length ≤ cp0_1) (fp0_1 : ∀ W,(Sta.mk w0 M H R φ).ok W→Cl W Ap0_1 (p0.fNote.fEntries.flatMap GEntry.enc)) (Ap0_2 : Option Addr) (cp0_2 : Nat) (hcp0_2 : p0.fNote.fVoters.length ≤ cp0_2) (fp0_2 : ∀ W,(Sta.mk w0 M H R φ).ok W→Cl W Ap0_2 (p0.fNote.fVoters.flatMap (fun x : Int=>[Value.int .i64 x]))) (r : ByteArray×Int) (hm : m_peer_Bytes p0 = some r) :
    Cn Try.prog 13 #[.agg #[Vi p0.fKind,Vi p0.fSerial,Vi p0.fEpoch,Vs p0.fQuestion.fName,Vu p0.fQuestion.fType,Vu p0.fQuestion.fClass,.bool p0.fGood,.slice Ap0_0 p0.fEntries.length cp0_0,Vi p0.fNote.fKind,Vi p0.fNote.fFrom,Vi p0.fNote.fTo,Vi p0.fNote.fTerm,Vi p0.fNote.fIndex,Vi p0.fNote.fLogTerm,Vi p0.fNote.fCommit,.bool p0.fNote.fGood,.slice Ap0_1 p0.fNote.fEntries.length cp0_1,.slice Ap0_2 p0.fNote.fVoters.length cp0_2,Vs p0.fNote.fSnap,Vs p0.fText]] ⟨w0,M,H,R,φ⟩ (fun x : Unit=>.tuple #[Vs r.1,Vi r.2]) (fun x=>True) (fun x=>⟨w0,M,H,R,φ⟩):=by
 unfold m_peer_Bytes at hm
 refine cn_intro (fn:=Try.f13) (N:=78) Try.func13 rfl Try.ntmps13 rfl<|c_seq<|c_region ?_
 refine g_e rfl (e_box 100010 rfl) (fun g1 _=>?_)
 refine g_v rfl r_assign<|g_v rfl r_assign<|g_nil<|d_then<|c_seq<|c_region<|g_v rfl (r_loadA (tag:=100010) rfl rfl Try.isAgg31 Try.sizeOf31 rfl rfl) ?_
 replace hm:=bnd hm
 obtain ⟨x2,hx3,hm⟩:=hm
 refine g_cn ⟨w0,M,_,_,φ⟩ (fun _ h=>h) Try.call18 rfl rfl (c_peer_Check p0 Ap0_0 cp0_0 psp0_0 ⟨hcp0_0.1,hcp0_0.2⟩ (fun W h=>fp0_0 W h) (fun W h=>(fop0_0 W h)) Ap0_1 cp0_1 hcp0_1 (fun W hS=>fp0_1 W (ok_pre (H1:=[_]) (R1:=[]) hS (fun W h=>h))) Ap0_2 cp0_2 hcp0_2 (fun W hS=>fp0_2 W (ok_pre (H1:=[_]) (R1:=[]) hS (fun W h=>h))) _ hx3) (fun _ _=>?_)
 refine g_v rfl r_assign<|g_nil<|d_then<|c_seq<|c_seq<|c_region<|g_v rfl r_move<|g_v rfl (r_neq rfl rfl)<|g_nil<|d_then ?_
 refine c_sta ⟨w0,M,(100010,g1,.cells #[Vi p0.fKind,Vi p0.fSerial,Vi p0.fEpoch,Vs p0.fQuestion.fName,Vu p0.fQuestion.fType,Vu p0.fQuestion.fClass,.bool p0.fGood,.slice Ap0_0 p0.fEntries.length cp0_0,Vi p0.fNote.fKind,Vi p0.fNote.fFrom,Vi p0.fNote.fTo,Vi p0.fNote.fTerm,Vi p0.fNote.fIndex,Vi p0.fNote.fLogTerm,Vi p0.fNote.fCommit,.bool p0.fNote.fGood,.slice Ap0_1 p0.fNote.fEntries.length cp0_1,.slice Ap0_2 p0.fNote.fVoters.length cp0_2,Vs p0.fNote.fSnap,Vs p0.fText] 31 (0,0))::H,R,φ⟩ (fun _ h=>h) ?_
 refine c_cond rfl (fun h4=>?_) (fun h4=>?_)
 ·
  replace hm:=ite_t hm (of_decide_eq_true h4)
  refine c_seq<|c_region<|g_v rfl r_move<|g_v rfl r_assign<|g_v rfl r_assign<|g_nil<|d_then ?_
  refine c_flat [(2,Ve),(3,Vi x2)] ⟨rfl,rfl,trivial⟩ (fun u=>?_)
  refine c_ret<|d_ret_then ?_
  cases hm
  exact d_retC () Try.results13 (res_tmp (res_tmp (res_nil rfl))) trivial (fun W h=>ok_pre (H1:=[_]) (R1:=[]) h (fun W hφ=>hφ)) (.inr rfl)
 replace hm:=ite_f hm (of_decide_eq_false h4)
 refine c_skip<|d_then<|c_seq<|c_region ?_
 replace hm:=bnd hm
 obtain ⟨x5,hx6,hm⟩:=hm
 refine g_cn ⟨w0,M,_,_,φ⟩ (fun _ h=>h) Try.call23 rfl rfl (c_pack_New  _ hx6) (fun ⟨A7,c8,A10,c11,g13⟩ ⟨hc8,hc11⟩=>?_)
 refine g_sta _ (fun W h=>(ok_frontR (t:=2000) (t':=100110) (ok_frontR (t:=2001) (t':=100111) (ok_front (t:=3000) (t':=100115) h rfl) rfl) rfl))<|g_v rfl (r_build _ rfl (bld63_14 _)) ?_
 refine g_e rfl (e_alloc 100050 Try.zeroValue63) (fun g14 _=>?_)
 refine g_storeL (tag:=100050) rfl rfl rfl rfl Try.sizeOf63 rfl rfl<|g_nil<|d_then ?_
 refine c_flat [(1,Vp g1),(5,Vp g14)] ⟨rfl,rfl,trivial⟩ (fun u=>?_)
 refine c_sta ⟨w0,M,(100050,g14,.cells #[Vp g13] 63 (0,0))::(100115,g13,.cells #[.slice A7 x5.fb.length c8,mapV A10] 94 (0,0))::(100010,g1,.cells #[Vi p0.fKind,Vi p0.fSerial,Vi p0.fEpoch,Vs p0.fQuestion.fName,Vu p0.fQuestion.fType,Vu p0.fQuestion.fClass,.bool p0.fGood,.slice Ap0_0 p0.fEntries.length cp0_0,Vi p0.fNote.fKind,Vi p0.fNote.fFrom,Vi p0.fNote.fTo,Vi p0.fNote.fTerm,Vi p0.fNote.fIndex,Vi p0.fNote.fLogTerm,Vi p0.fNote.fCommit,.bool p0.fNote.fGood,.slice Ap0_1 p0.fNote.fEntries.length cp0_1,.slice Ap0_2 p0.fNote.fVoters.length cp0_2,Vs p0.fNote.fSnap,Vs p0.fText] 31 (0,0))::H,(100110,⟨.slice A7 x5.fb.length c8,5,1,x5.fb.length,x5.fb.flatMap (fun x : Int=>[Value.int .u8 x])⟩)::(100111,⟨mapV A10,92,2,x5.fplaces.length,x5.fplaces.flatMap (mcell (fun x : ByteArray=>Value.string x) (fun x : Int=>Value.int .i64 x))⟩)::R,φ⟩ (fun _ h=>h)<|c_seq<|c_region<|g_v rfl (r_field (n:=0) Try.underlying63 rfl Try.sizeOf60 rfl rfl)<|g_v rfl (r_load (tag:=100050) rfl rfl rfl Try.isAgg60)<|g_v rfl (r_field (n:=0) Try.underlying31 rfl Try.sizeOf3 rfl rfl)<|g_v rfl (r_load (tag:=100010) rfl rfl rfl Try.isAgg3)<|g_v rfl (r_conv Try.underlying3 Try.underlying5 rfl rfl) ?_
 replace hm:=bnd hm
 obtain ⟨x15,hx16,hm⟩:=hm
 refine g_cn ⟨w0,M,(1000,g13,.cells #[.slice A7 x5.fb.length c8,mapV A10] 94 (0,0))::(100050,g14,.cells #[Vp g13] 63 (0,0))::(100010,g1,.cells #[Vi p0.fKind,Vi p0.fSerial,Vi p0.fEpoch,Vs p0.fQuestion.fName,Vu p0.fQuestion.fType,Vu p0.fQuestion.fClass,.bool p0.fGood,.slice Ap0_0 p0.fEntries.length cp0_0,Vi p0.fNote.fKind,Vi p0.fNote.fFrom,Vi p0.fNote.fTo,Vi p0.fNote.fTerm,Vi p0.fNote.fIndex,Vi p0.fNote.fLogTerm,Vi p0.fNote.fCommit,.bool p0.fNote.fGood,.slice Ap0_1 p0.fNote.fEntries.length cp0_1,.slice Ap0_2 p0.fNote.fVoters.length cp0_2,Vs p0.fNote.fSnap,Vs p0.fText] 31 (0,0))::H,(1000,⟨.slice A7 x5.fb.length c8,5,1,x5.fb.length,x5.fb.flatMap (fun x : Int=>[Value.int .u8 x])⟩)::(1001,⟨mapV A10,92,2,x5.fplaces.length,x5.fplaces.flatMap (mcell (fun x : ByteArray=>Value.string x) (fun x : Int=>Value.int .i64 x))⟩)::R,φ⟩ (fun W h=>(ok_front (t:=100115) (t':=1000) (ok_frontR (t:=100110) (t':=1000) (ok_frontR (t:=100111) (t':=1001) h rfl) rfl) rfl)) Try.call24 rfl rfl (c_pack_Packer_Byte (IntKind.u8.wrap p0.fKind) g13 x5 A7 c8 hc8 A10 c11 trivial _ hx16) (fun ⟨A17,c18⟩ hc18=>?_)
 refine g_sta _ (fun W h=>(ok_frontR (t:=2000) (t':=100110) (ok_frontR (t:=1001) (t':=100111) (ok_front (t:=1000) (t':=100115) h rfl) rfl) rfl))<|g_nil<|d_then<|c_seq<|c_region<|g_v rfl (r_loadA (tag:=100050) rfl rfl Try.isAgg63 Try.sizeOf63 rfl rfl)<|g_v rfl (r_field (n:=1) Try.underlying31 rfl Try.sizeOf3 rfl rfl)<|g_v rfl (r_load (tag:=100010) rfl rfl rfl Try.isAgg3)<|g_v rfl (r_field (n:=2) Try.underlying31 rfl Try.sizeOf3 rfl rfl)<|g_v rfl (r_load (tag:=100010) rfl rfl rfl Try.isAgg3) ?_
 refine g_e rfl (e_lit (tag:=100240) (l:=[p0.fSerial,p0.fEpoch]) (enc:=(fun x : Int=>[Value.int .i64 x])) (sz:=1) rfl Try.underlying27 (lit3_17 _ _) rfl rfl (fun _=>rfl)) (fun g20 _=>?_)
 replace hm:=bnd hm
 obtain ⟨x21,hx22,hm⟩:=hm
 refine g_cn ⟨w0,M,(1000,g13,.cells #[.slice A17 x15.fb.length c18,mapV A10] 94 (0,0))::(100050,g14,.cells #[Vp g13] 63 (0,0))::(100010,g1,.cells #[Vi p0.fKind,Vi p0.fSerial,Vi p0.fEpoch,Vs p0.fQuestion.fName,Vu p0.fQuestion.fType,Vu p0.fQuestion.fClass,.bool p0.fGood,.slice Ap0_0 p0.fEntries.length cp0_0,Vi p0.fNote.fKind,Vi p0.fNote.fFrom,Vi p0.fNote.fTo,Vi p0.fNote.fTerm,Vi p0.fNote.fIndex,Vi p0.fNote.fLogTerm,Vi p0.fNote.fCommit,.bool p0.fNote.fGood,.slice Ap0_1 p0.fNote.fEntries.length cp0_1,.slice Ap0_2 p0.fNote.fVoters.length cp0_2,Vs p0.fNote.fSnap,Vs p0.fText] 31 (0,0))::H,(1000,⟨.slice A17 x15.fb.length c18,5,1,x15.fb.length,x15.fb.flatMap (fun x : Int=>[Value.int .u8 x])⟩)::(1001,⟨mapV A10,92,2,x5.fplaces.length,x5.fplaces.flatMap (mcell (fun x : ByteArray=>Value.string x) (fun x : Int=>Value.int .i64 x))⟩)::(100240,⟨.slice (some ⟨g20,0,none⟩) [p0.fSerial,p0.fEpoch].length 2,3,1,[p0.fSerial,p0.fEpoch].length,[p0.fSerial,p0.fEpoch].flatMap (fun x : Int=>[Value.int .i64 x])⟩)::R,φ⟩ (fun W h=>(ok_front (t:=100115) (t':=1000) (ok_frontR (t:=100110) (t':=1000) (ok_frontR (t:=100111) (t':=1001) h rfl) rfl) rfl)) Try.call25 rfl rfl (c_peer_writer_eight [p0.fSerial,p0.fEpoch] (some ⟨g20,0,none⟩) 2 (Nat.le_refl _) (fun W hS=>rowCl (tag:=100240) rfl W hS) g13 (⟨x15.fb,x5.fplaces⟩ : Gpack_Packer) A17 c18 hc18 A10 c11 trivial _ hx22) (fun ⟨A23,c24⟩ hc24=>?_)
 refine g_sta _ (fun W h=>(ok_frontR (t:=2000) (t':=100110) (ok_frontR (t:=1001) (t':=100111) (ok_front (t:=1000) (t':=100115) h rfl) rfl) rfl))<|g_nil<|d_then ?_
 refine c_flat [(1,Vp g1),(5,Vp g14)] ⟨rfl,rfl,trivial⟩ (fun u=>?_)
 refine c_sta ⟨w0,M,(100115,g13,.cells #[.slice A23 x21.fb.length c24,mapV A10] 94 (0,0))::(100050,g14,.cells #[Vp g13] 63 (0,0))::(100010,g1,.cells #[Vi p0.fKind,Vi p0.fSerial,Vi p0.fEpoch,Vs p0.fQuestion.fName,Vu p0.fQuestion.fType,Vu p0.fQuestion.fClass,.bool p0.fGood,.slice Ap0_0 p0.fEntries.length cp0_0,Vi p0.fNote.fKind,Vi p0.fNote.fFrom,Vi p0.fNote.fTo,Vi p0.fNote.fTerm,Vi p0.fNote.fIndex,Vi p0.fNote.fLogTerm,Vi p0.fNote.fCommit,.bool p0.fNote.fGood,.slice Ap0_1 p0.fNote.fEntries.length cp0_1,.slice Ap0_2 p0.fNote.fVoters.length cp0_2,Vs p0.fNote.fSnap,Vs p0.fText] 31 (0,0))::H,(100110,⟨.slice A23 x21.fb.length c24,5,1,x21.fb.length,x21.fb.flatMap (fun x : Int=>[Value.int .u8 x])⟩)::(100111,⟨mapV A10,92,2,x5.fplaces.length,x5.fplaces.flatMap (mcell (fun x : ByteArray=>Value.string x) (fun x : Int=>Value.int .i64 x))⟩)::(100240,⟨.slice (some ⟨g20,0,none⟩) [p0.fSerial,p0.fEpoch].length 2,3,1,[p0.fSerial,p0.fEpoch].length,[p0.fSerial,p0.fEpoch].flatMap (fun x : Int=>[Value.int .i64 x])⟩)::R,φ⟩ (fun _ h=>h)<|c_seq ?_
 refine c_cut (ι:=(List Int)×(List (ByteArray×Int))×Option Addr×Nat×Option Addr×Nat) [5] (fun ⟨l73,l76,A74,c75,A77,c78⟩=>[]) (fun ⟨l73,l76,A74,c75,A77,c78⟩=>⟨w0,M,(100115,g13,.cells #[.slice A74 l73.length c75,mapV A77] 94 (0,0))::(100050,g14,.cells #[Vp g13] 63 (0,0))::H,(100110,⟨.slice A74 l73.length c75,5,1,l73.length,l73.flatMap (fun x : Int=>[Value.int .u8 x])⟩)::(100111,⟨mapV A77,92,2,l76.length,l76.flatMap (mcell (fun x : ByteArray=>Value.string x) (fun x : Int=>Value.int .i64 x))⟩)::R,φ⟩) (fun ⟨l73,l76,A74,c75,A77,c78⟩=>m_peer_Bytes_j1 l73 l76 = some r∧l73.length ≤ c75∧True) ?_ (fun ⟨l73,l76,A74,c75,A77,c78⟩ u ⟨hm,hc75,hc78⟩=>?_)
 ·
  refine c_seq<|c_region<|g_v rfl (r_field (n:=0) Try.underlying31 rfl Try.sizeOf3 rfl rfl)<|g_v rfl (r_load (tag:=100010) rfl rfl rfl Try.isAgg3)<|g_nil<|d_then<|c_block<|c_seq<|c_region<|g_v rfl (r_eql rfl rfl) ?_
  refine g_v rfl r_assign<|g_nil<|d_then ?_
  refine c_cond rfl (fun h84=>?_) (fun h84=>?_)
  ·
   replace hm:=ite_t hm (of_decide_eq_true h84)
   refine c_seq<|c_region<|g_v rfl (r_field (n:=0) Try.underlying63 rfl Try.sizeOf60 rfl rfl)<|g_v rfl (r_load (tag:=100050) rfl rfl rfl Try.isAgg60)<|g_v rfl (r_field (n:=3) Try.underlying31 rfl Try.sizeOf24 rfl rfl)<|g_v rfl (r_field (n:=3) Try.underlying24 rfl Try.sizeOf9 rfl rfl)<|g_v rfl (r_load (tag:=100010) rfl rfl rfl Try.isAgg9) ?_
   replace hm:=bnd hm
   obtain ⟨⟨x85,x86⟩,hx87,hm⟩:=hm
   refine g_cn ⟨w0,M,(1000,g13,.cells #[.slice A23 x21.fb.length c24,mapV A10] 94 (0,0))::(100050,g14,.cells #[Vp g13] 63 (0,0))::(100010,g1,.cells #[Vi p0.fKind,Vi p0.fSerial,Vi p0.fEpoch,Vs p0.fQuestion.fName,Vu p0.fQuestion.fType,Vu p0.fQuestion.fClass,.bool p0.fGood,.slice Ap0_0 p0.fEntries.length cp0_0,Vi p0.fNote.fKind,Vi p0.fNote.fFrom,Vi p0.fNote.fTo,Vi p0.fNote.fTerm,Vi p0.fNote.fIndex,Vi p0.fNote.fLogTerm,Vi p0.fNote.fCommit,.bool p0.fNote.fGood,.slice Ap0_1 p0.fNote.fEntries.length cp0_1,.slice Ap0_2 p0.fNote.fVoters.length cp0_2,Vs p0.fNote.fSnap,Vs p0.fText] 31 (0,0))::H,(1000,⟨.slice A23 x21.fb.length c24,5,1,x21.fb.length,x21.fb.flatMap (fun x : Int=>[Value.int .u8 x])⟩)::(1001,⟨mapV A10,92,2,x5.fplaces.length,x5.fplaces.flatMap (mcell (fun x : ByteArray=>Value.string x) (fun x : Int=>Value.int .i64 x))⟩)::(100240,⟨.slice (some ⟨g20,0,none⟩) [p0.fSerial,p0.fEpoch].length 2,3,1,[p0.fSerial,p0.fEpoch].length,[p0.fSerial,p0.fEpoch].flatMap (fun x : Int=>[Value.int .i64 x])⟩)::R,φ⟩ (fun W h=>(ok_front (t:=100115) (t':=1000) (ok_frontR (t:=100110) (t':=1000) (ok_frontR (t:=100111) (t':=1001) h rfl) rfl) rfl)) Try.call26 rfl rfl (c_pack_Packer_Name p0.fQuestion.fName false g13 (⟨x21.fb,x5.fplaces⟩ : Gpack_Packer) A23 c24 hc24 A10 c11 trivial _ hx87) (fun ⟨A88,c89,A91,c92⟩ ⟨hc89,hc92⟩=>?_)
   refine g_sta _ (fun W h=>(ok_frontR (t:=2000) (t':=100110) (ok_frontR (t:=2001) (t':=100111) (ok_front (t:=1000) (t':=100115) h rfl) rfl) rfl))<|g_nil<|d_then ?_
   refine c_flat [(1,Vp g1),(5,Vp g14)] ⟨rfl,rfl,trivial⟩ (fun u=>?_)
   refine c_sta ⟨w0,M,(100115,g13,.cells #[.slice A88 x86.fb.length c89,mapV A91] 94 (0,0))::(100050,g14,.cells #[Vp g13] 63 (0,0))::(100010,g1,.cells #[Vi p0.fKind,Vi p0.fSerial,Vi p0.fEpoch,Vs p0.fQuestion.fName,Vu p0.fQuestion.fType,Vu p0.fQuestion.fClass,.bool p0.fGood,.slice Ap0_0 p0.fEntries.length cp0_0,Vi p0.fNote.fKind,Vi p0.fNote.fFrom,Vi p0.fNote.fTo,Vi p0.fNote.fTerm,Vi p0.fNote.fIndex,Vi p0.fNote.fLogTerm,Vi p0.fNote.fCommit,.bool p0.fNote.fGood,.slice Ap0_1 p0.fNote.fEntries.length cp0_1,.slice Ap0_2 p0.fNote.fVoters.length cp0_2,Vs p0.fNote.fSnap,Vs p0.fText] 31 (0,0))::H,(100110,⟨.slice A88 x86.fb.length c89,5,1,x86.fb.length,x86.fb.flatMap (fun x : Int=>[Value.int .u8 x])⟩)::(100111,⟨mapV A91,92,2,x86.fplaces.length,x86.fplaces.flatMap (mcell (fun x : ByteArray=>Value.string x) (fun x : Int=>Value.int .i64 x))⟩)::(100240,⟨.slice (some ⟨g20,0,none⟩) [p0.fSerial,p0.fEpoch].length 2,3,1,[p0.fSerial,p0.fEpoch].length,[p0.fSerial,p0.fEpoch].flatMap (fun x : Int=>[Value.int .i64 x])⟩)::R,φ⟩ (fun _ h=>h)<|c_seq<|c_region<|g_v rfl (r_field (n:=0) Try.underlying63 rfl Try.sizeOf60 rfl rfl)<|g_v rfl (r_load (tag:=100050) rfl rfl rfl Try.isAgg60)<|g_v rfl (r_field (n:=3) Try.underlying31 rfl Try.sizeOf24 rfl rfl)<|g_v rfl (r_field (n:=4) Try.underlying24 rfl Try.sizeOf22 rfl rfl)<|g_v rfl (r_load (tag:=100010) rfl rfl rfl Try.isAgg22) ?_
   replace hm:=bnd hm
   obtain ⟨x95,hx96,hm⟩:=hm
   refine g_cn ⟨w0,M,(1000,g13,.cells #[.slice A88 x86.fb.length c89,mapV A91] 94 (0,0))::(100050,g14,.cells #[Vp g13] 63 (0,0))::(100010,g1,.cells #[Vi p0.fKind,Vi p0.fSerial,Vi p0.fEpoch,Vs p0.fQuestion.fName,Vu p0.fQuestion.fType,Vu p0.fQuestion.fClass,.bool p0.fGood,.slice Ap0_0 p0.fEntries.length cp0_0,Vi p0.fNote.fKind,Vi p0.fNote.fFrom,Vi p0.fNote.fTo,Vi p0.fNote.fTerm,Vi p0.fNote.fIndex,Vi p0.fNote.fLogTerm,Vi p0.fNote.fCommit,.bool p0.fNote.fGood,.slice Ap0_1 p0.fNote.fEntries.length cp0_1,.slice Ap0_2 p0.fNote.fVoters.length cp0_2,Vs p0.fNote.fSnap,Vs p0.fText] 31 (0,0))::H,(1000,⟨.slice A88 x86.fb.length c89,5,1,x86.fb.length,x86.fb.flatMap (fun x : Int=>[Value.int .u8 x])⟩)::(1001,⟨mapV A91,92,2,x86.fplaces.length,x86.fplaces.flatMap (mcell (fun x : ByteArray=>Value.string x) (fun x : Int=>Value.int .i64 x))⟩)::(100240,⟨.slice (some ⟨g20,0,none⟩) [p0.fSerial,p0.fEpoch].length 2,3,1,[p0.fSerial,p0.fEpoch].length,[p0.fSerial,p0.fEpoch].flatMap (fun x : Int=>[Value.int .i64 x])⟩)::R,φ⟩ (fun W h=>(ok_front (t:=100115) (t':=1000) (ok_frontR (t:=100110) (t':=1000) (ok_frontR (t:=100111) (t':=1001) h rfl) rfl) rfl)) Try.call27 rfl rfl (c_pack_Packer_Word p0.fQuestion.fType g13 x86 A88 c89 hc89 A91 c92 trivial _ hx96) (fun ⟨A97,c98⟩ hc98=>?_)
   refine g_sta _ (fun W h=>(ok_frontR (t:=2000) (t':=100110) (ok_frontR (t:=1001) (t':=100111) (ok_front (t:=1000) (t':=100115) h rfl) rfl) rfl))<|g_nil<|d_then<|c_region<|g_v rfl (r_field (n:=0) Try.underlying63 rfl Try.sizeOf60 rfl rfl)<|g_v rfl (r_load (tag:=100050) rfl rfl rfl Try.isAgg60)<|g_v rfl (r_field (n:=3) Try.underlying31 rfl Try.sizeOf24 rfl rfl)<|g_v rfl (r_field (n:=5) Try.underlying24 rfl Try.sizeOf22 rfl rfl)<|g_v rfl (r_load (tag:=100010) rfl rfl rfl Try.isAgg22) ?_
   replace hm:=bnd hm
   obtain ⟨x100,hx101,hm⟩:=hm
   refine g_cn ⟨w0,M,(1000,g13,.cells #[.slice A97 x95.fb.length c98,mapV A91] 94 (0,0))::(100050,g14,.cells #[Vp g13] 63 (0,0))::(100010,g1,.cells #[Vi p0.fKind,Vi p0.fSerial,Vi p0.fEpoch,Vs p0.fQuestion.fName,Vu p0.fQuestion.fType,Vu p0.fQuestion.fClass,.bool p0.fGood,.slice Ap0_0 p0.fEntries.length cp0_0,Vi p0.fNote.fKind,Vi p0.fNote.fFrom,Vi p0.fNote.fTo,Vi p0.fNote.fTerm,Vi p0.fNote.fIndex,Vi p0.fNote.fLogTerm,Vi p0.fNote.fCommit,.bool p0.fNote.fGood,.slice Ap0_1 p0.fNote.fEntries.length cp0_1,.slice Ap0_2 p0.fNote.fVoters.length cp0_2,Vs p0.fNote.fSnap,Vs p0.fText] 31 (0,0))::H,(1000,⟨.slice A97 x95.fb.length c98,5,1,x95.fb.length,x95.fb.flatMap (fun x : Int=>[Value.int .u8 x])⟩)::(1001,⟨mapV A91,92,2,x86.fplaces.length,x86.fplaces.flatMap (mcell (fun x : ByteArray=>Value.string x) (fun x : Int=>Value.int .i64 x))⟩)::(100240,⟨.slice (some ⟨g20,0,none⟩) [p0.fSerial,p0.fEpoch].length 2,3,1,[p0.fSerial,p0.fEpoch].length,[p0.fSerial,p0.fEpoch].flatMap (fun x : Int=>[Value.int .i64 x])⟩)::R,φ⟩ (fun W h=>(ok_front (t:=100115) (t':=1000) (ok_frontR (t:=100110) (t':=1000) (ok_frontR (t:=100111) (t':=1001) h rfl) rfl) rfl)) Try.call27 rfl rfl (c_pack_Packer_Word p0.fQuestion.fClass g13 (⟨x95.fb,x86.fplaces⟩ : Gpack_Packer) A97 c98 hc98 A91 c92 trivial _ hx101) (fun ⟨A102,c103⟩ hc103=>?_)
   refine g_sta _ (fun W h=>(ok_frontR (t:=2000) (t':=100110) (ok_frontR (t:=1001) (t':=100111) (ok_front (t:=1000) (t':=100115) h rfl) rfl) rfl))<|g_nil<|d_normal_block ?_
   exact d_round (x100.fb,x86.fplaces,A102,c103,A91,c92) ⟨hm,hc103,trivial⟩ Nat.zero_lt_one ⟨rfl,trivial⟩ (fun W h=>((h.dropR (t:=100240) rfl).dropH (t:=100010) rfl).phi (fun W hφ=>hφ))
  replace hm:=ite_f hm (of_decide_eq_false h84)
  refine c_seq<|c_region<|g_v rfl (r_eql rfl rfl)<|g_v rfl r_assign<|g_nil<|d_then ?_
  refine c_cond rfl (fun h105=>?_) (fun h105=>?_)
  ·
   replace hm:=ite_t hm (of_decide_eq_true h105)
   refine c_seq<|c_region<|g_v rfl (r_loadA (tag:=100050) rfl rfl Try.isAgg63 Try.sizeOf63 rfl rfl)<|g_v rfl (r_field (n:=6) Try.underlying31 rfl Try.sizeOf4 rfl rfl)<|g_v rfl (r_load (tag:=100010) rfl rfl rfl Try.isAgg4) ?_
   replace hm:=bnd hm
   obtain ⟨x106,hx107,hm⟩:=hm
   refine g_cn ⟨w0,M,(1000,g13,.cells #[.slice A23 x21.fb.length c24,mapV A10] 94 (0,0))::(100050,g14,.cells #[Vp g13] 63 (0,0))::(100010,g1,.cells #[Vi p0.fKind,Vi p0.fSerial,Vi p0.fEpoch,Vs p0.fQuestion.fName,Vu p0.fQuestion.fType,Vu p0.fQuestion.fClass,.bool p0.fGood,.slice Ap0_0 p0.fEntries.length cp0_0,Vi p0.fNote.fKind,Vi p0.fNote.fFrom,Vi p0.fNote.fTo,Vi p0.fNote.fTerm,Vi p0.fNote.fIndex,Vi p0.fNote.fLogTerm,Vi p0.fNote.fCommit,.bool p0.fNote.fGood,.slice Ap0_1 p0.fNote.fEntries.length cp0_1,.slice Ap0_2 p0.fNote.fVoters.length cp0_2,Vs p0.fNote.fSnap,Vs p0.fText] 31 (0,0))::H,(1000,⟨.slice A23 x21.fb.length c24,5,1,x21.fb.length,x21.fb.flatMap (fun x : Int=>[Value.int .u8 x])⟩)::(1001,⟨mapV A10,92,2,x5.fplaces.length,x5.fplaces.flatMap (mcell (fun x : ByteArray=>Value.string x) (fun x : Int=>Value.int .i64 x))⟩)::(100240,⟨.slice (some ⟨g20,0,none⟩) [p0.fSerial,p0.fEpoch].length 2,3,1,[p0.fSerial,p0.fEpoch].length,[p0.fSerial,p0.fEpoch].flatMap (fun x : Int=>[Value.int .i64 x])⟩)::R,φ⟩ (fun W h=>(ok_front (t:=100115) (t':=1000) (ok_frontR (t:=100110) (t':=1000) (ok_frontR (t:=100111) (t':=1001) h rfl) rfl) rfl)) Try.call28 rfl rfl (c_peer_writer_bit p0.fGood g13 (⟨x21.fb,x5.fplaces⟩ : Gpack_Packer) A23 c24 hc24 A10 c11 trivial _ hx107) (fun ⟨A108,c109⟩ hc109=>?_)
   refine g_sta _ (fun W h=>(ok_frontR (t:=2000) (t':=100110) (ok_frontR (t:=1001) (t':=100111) (ok_front (t:=1000) (t':=100115) h rfl) rfl) rfl))<|g_nil<|d_then ?_
   refine c_flat [(1,Vp g1),(5,Vp g14)] ⟨rfl,rfl,trivial⟩ (fun u=>?_)
   refine c_sta ⟨w0,M,(100115,g13,.cells #[.slice A108 x106.fb.length c109,mapV A10] 94 (0,0))::(100050,g14,.cells #[Vp g13] 63 (0,0))::(100010,g1,.cells #[Vi p0.fKind,Vi p0.fSerial,Vi p0.fEpoch,Vs p0.fQuestion.fName,Vu p0.fQuestion.fType,Vu p0.fQuestion.fClass,.bool p0.fGood,.slice Ap0_0 p0.fEntries.length cp0_0,Vi p0.fNote.fKind,Vi p0.fNote.fFrom,Vi p0.fNote.fTo,Vi p0.fNote.fTerm,Vi p0.fNote.fIndex,Vi p0.fNote.fLogTerm,Vi p0.fNote.fCommit,.bool p0.fNote.fGood,.slice Ap0_1 p0.fNote.fEntries.length cp0_1,.slice Ap0_2 p0.fNote.fVoters.length cp0_2,Vs p0.fNote.fSnap,Vs p0.fText] 31 (0,0))::H,(100110,⟨.slice A108 x106.fb.length c109,5,1,x106.fb.length,x106.fb.flatMap (fun x : Int=>[Value.int .u8 x])⟩)::(100111,⟨mapV A10,92,2,x5.fplaces.length,x5.fplaces.flatMap (mcell (fun x : ByteArray=>Value.string x) (fun x : Int=>Value.int .i64 x))⟩)::(100240,⟨.slice (some ⟨g20,0,none⟩) [p0.fSerial,p0.fEpoch].length 2,3,1,[p0.fSerial,p0.fEpoch].length,[p0.fSerial,p0.fEpoch].flatMap (fun x : Int=>[Value.int .i64 x])⟩)::R,φ⟩ (fun _ h=>h)<|c_region<|g_v rfl (r_loadA (tag:=100050) rfl rfl Try.isAgg63 Try.sizeOf63 rfl rfl)<|g_v rfl (r_field (n:=7) Try.underlying31 rfl Try.sizeOf25 rfl rfl)<|g_v rfl (r_load (tag:=100010) rfl rfl rfl Try.isAgg25) ?_
   replace hm:=bnd hm
   obtain ⟨x111,hx112,hm⟩:=hm
   refine g_cn ⟨w0,M,(1000,g13,.cells #[.slice A108 x106.fb.length c109,mapV A10] 94 (0,0))::(100050,g14,.cells #[Vp g13] 63 (0,0))::(100010,g1,.cells #[Vi p0.fKind,Vi p0.fSerial,Vi p0.fEpoch,Vs p0.fQuestion.fName,Vu p0.fQuestion.fType,Vu p0.fQuestion.fClass,.bool p0.fGood,.slice Ap0_0 p0.fEntries.length cp0_0,Vi p0.fNote.fKind,Vi p0.fNote.fFrom,Vi p0.fNote.fTo,Vi p0.fNote.fTerm,Vi p0.fNote.fIndex,Vi p0.fNote.fLogTerm,Vi p0.fNote.fCommit,.bool p0.fNote.fGood,.slice Ap0_1 p0.fNote.fEntries.length cp0_1,.slice Ap0_2 p0.fNote.fVoters.length cp0_2,Vs p0.fNote.fSnap,Vs p0.fText] 31 (0,0))::H,(1000,⟨.slice A108 x106.fb.length c109,5,1,x106.fb.length,x106.fb.flatMap (fun x : Int=>[Value.int .u8 x])⟩)::(1001,⟨mapV A10,92,2,x5.fplaces.length,x5.fplaces.flatMap (mcell (fun x : ByteArray=>Value.string x) (fun x : Int=>Value.int .i64 x))⟩)::(100240,⟨.slice (some ⟨g20,0,none⟩) [p0.fSerial,p0.fEpoch].length 2,3,1,[p0.fSerial,p0.fEpoch].length,[p0.fSerial,p0.fEpoch].flatMap (fun x : Int=>[Value.int .i64 x])⟩)::R,φ⟩ (fun W h=>(ok_front (t:=100115) (t':=1000) (ok_frontR (t:=100110) (t':=1000) (ok_frontR (t:=100111) (t':=1001) h rfl) rfl) rfl)) Try.call29 rfl rfl (c_peer_writer_entries p0.fEntries Ap0_0 cp0_0 psp0_0 ⟨hcp0_0.1,hcp0_0.2⟩ (fun W hS=>fp0_0 W hS.now) (fun W hS=>(fop0_0 W hS.now)) g13 (⟨x106.fb,x5.fplaces⟩ : Gpack_Packer) A108 c109 hc109 A10 c11 trivial _ hx112) (fun ⟨A113,c114,A116,c117⟩ ⟨hc114,hc117⟩=>?_)
   refine g_sta _ (fun W h=>(ok_frontR (t:=2000) (t':=100110) (ok_frontR (t:=2001) (t':=100111) (ok_front (t:=1000) (t':=100115) h rfl) rfl) rfl))<|g_nil<|d_normal_block ?_
   exact d_round (x111.fb,x111.fplaces,A113,c114,A116,c117) ⟨hm,hc114,trivial⟩ Nat.zero_lt_one ⟨rfl,trivial⟩ (fun W h=>((h.dropR (t:=100240) rfl).dropH (t:=100010) rfl).phi (fun W hφ=>hφ))
  replace hm:=ite_f hm (of_decide_eq_false h105)
  refine c_seq<|c_region<|g_v rfl (r_eql rfl rfl)<|g_v rfl r_assign<|g_nil<|d_then ?_
  refine c_cond rfl (fun h119=>?_) (fun h119=>?_)
  ·
   replace hm:=ite_t hm (of_decide_eq_true h119)
   refine c_region<|g_v rfl (r_loadA (tag:=100050) rfl rfl Try.isAgg63 Try.sizeOf63 rfl rfl)<|g_v rfl (r_field (n:=8) Try.underlying31 rfl Try.sizeOf29 rfl rfl)<|g_v rfl (r_loadA (tag:=100010) rfl rfl Try.isAgg29 Try.sizeOf29 rfl rfl) ?_
   replace hm:=bnd hm
   obtain ⟨x120,hx121,hm⟩:=hm
   refine g_cn ⟨w0,M,(1000,g13,.cells #[.slice A23 x21.fb.length c24,mapV A10] 94 (0,0))::(100050,g14,.cells #[Vp g13] 63 (0,0))::(100010,g1,.cells #[Vi p0.fKind,Vi p0.fSerial,Vi p0.fEpoch,Vs p0.fQuestion.fName,Vu p0.fQuestion.fType,Vu p0.fQuestion.fClass,.bool p0.fGood,.slice Ap0_0 p0.fEntries.length cp0_0,Vi p0.fNote.fKind,Vi p0.fNote.fFrom,Vi p0.fNote.fTo,Vi p0.fNote.fTerm,Vi p0.fNote.fIndex,Vi p0.fNote.fLogTerm,Vi p0.fNote.fCommit,.bool p0.fNote.fGood,.slice Ap0_1 p0.fNote.fEntries.length cp0_1,.slice Ap0_2 p0.fNote.fVoters.length cp0_2,Vs p0.fNote.fSnap,Vs p0.fText] 31 (0,0))::H,(1000,⟨.slice A23 x21.fb.length c24,5,1,x21.fb.length,x21.fb.flatMap (fun x : Int=>[Value.int .u8 x])⟩)::(1001,⟨mapV A10,92,2,x5.fplaces.length,x5.fplaces.flatMap (mcell (fun x : ByteArray=>Value.string x) (fun x : Int=>Value.int .i64 x))⟩)::(100240,⟨.slice (some ⟨g20,0,none⟩) [p0.fSerial,p0.fEpoch].length 2,3,1,[p0.fSerial,p0.fEpoch].length,[p0.fSerial,p0.fEpoch].flatMap (fun x : Int=>[Value.int .i64 x])⟩)::R,φ⟩ (fun W h=>(ok_front (t:=100115) (t':=1000) (ok_frontR (t:=100110) (t':=1000) (ok_frontR (t:=100111) (t':=1001) h rfl) rfl) rfl)) Try.call30 rfl rfl (c_peer_writer_note p0.fNote Ap0_1 cp0_1 hcp0_1 (fun W hS=>fp0_1 W (ok_pre (H1:=[_,_]) (R1:=[_]) hS (fun W h=>h))) Ap0_2 cp0_2 hcp0_2 (fun W hS=>fp0_2 W (ok_pre (H1:=[_,_]) (R1:=[_]) hS (fun W h=>h))) g13 (⟨x21.fb,x5.fplaces⟩ : Gpack_Packer) A23 c24 hc24 A10 c11 trivial _ hx121) (fun ⟨A122,c123⟩ hc123=>?_)
   refine g_sta _ (fun W h=>(ok_frontR (t:=2000) (t':=100110) (ok_frontR (t:=1001) (t':=100111) (ok_front (t:=1000) (t':=100115) h rfl) rfl) rfl))<|g_nil<|d_normal_block ?_
   exact d_round (x120.fb,x5.fplaces,A122,c123,A10,c11) ⟨hm,hc123,trivial⟩ Nat.zero_lt_one ⟨rfl,trivial⟩ (fun W h=>((h.dropR (t:=100240) rfl).dropH (t:=100010) rfl).phi (fun W hφ=>hφ))
  replace hm:=ite_f hm (of_decide_eq_false h119)
  refine c_seq<|c_region<|g_v rfl (r_eql rfl rfl)<|g_v rfl r_assign<|g_nil<|d_then ?_
  refine c_flat [(1,Vp g1),(5,Vp g14),(64,.bool (decide (p0.fKind = 5)))] ⟨rfl,rfl,rfl,trivial⟩ (fun u=>?_)
  refine c_cond rfl (fun h125=>?_) (fun h125=>?_)
  ·
   replace hm:=ite_t hm (of_decide_eq_true h125)
   refine c_region<|g_v rfl (r_field (n:=0) Try.underlying63 rfl Try.sizeOf60 rfl rfl)<|g_v rfl (r_load (tag:=100050) rfl rfl rfl Try.isAgg60)<|g_v rfl (r_field (n:=19) Try.underlying31 rfl Try.sizeOf9 rfl rfl)<|g_v rfl (r_load (tag:=100010) rfl rfl rfl Try.isAgg9) ?_
   replace hm:=bnd hm
   obtain ⟨x126,hx127,hm⟩:=hm
   refine g_cn ⟨w0,M,(1000,g13,.cells #[.slice A23 x21.fb.length c24,mapV A10] 94 (0,0))::(100050,g14,.cells #[Vp g13] 63 (0,0))::(100010,g1,.cells #[Vi p0.fKind,Vi p0.fSerial,Vi p0.fEpoch,Vs p0.fQuestion.fName,Vu p0.fQuestion.fType,Vu p0.fQuestion.fClass,.bool p0.fGood,.slice Ap0_0 p0.fEntries.length cp0_0,Vi p0.fNote.fKind,Vi p0.fNote.fFrom,Vi p0.fNote.fTo,Vi p0.fNote.fTerm,Vi p0.fNote.fIndex,Vi p0.fNote.fLogTerm,Vi p0.fNote.fCommit,.bool p0.fNote.fGood,.slice Ap0_1 p0.fNote.fEntries.length cp0_1,.slice Ap0_2 p0.fNote.fVoters.length cp0_2,Vs p0.fNote.fSnap,Vs p0.fText] 31 (0,0))::H,(1000,⟨.slice A23 x21.fb.length c24,5,1,x21.fb.length,x21.fb.flatMap (fun x : Int=>[Value.int .u8 x])⟩)::(1001,⟨mapV A10,92,2,x5.fplaces.length,x5.fplaces.flatMap (mcell (fun x : ByteArray=>Value.string x) (fun x : Int=>Value.int .i64 x))⟩)::(100240,⟨.slice (some ⟨g20,0,none⟩) [p0.fSerial,p0.fEpoch].length 2,3,1,[p0.fSerial,p0.fEpoch].length,[p0.fSerial,p0.fEpoch].flatMap (fun x : Int=>[Value.int .i64 x])⟩)::R,φ⟩ (fun W h=>(ok_front (t:=100115) (t':=1000) (ok_frontR (t:=100110) (t':=1000) (ok_frontR (t:=100111) (t':=1001) h rfl) rfl) rfl)) Try.call31 rfl rfl (c_pack_Packer_Raw p0.fText g13 (⟨x21.fb,x5.fplaces⟩ : Gpack_Packer) A23 c24 hc24 A10 c11 trivial _ hx127) (fun ⟨A128,c129⟩ hc129=>?_)
   refine g_sta _ (fun W h=>(ok_frontR (t:=2000) (t':=100110) (ok_frontR (t:=1001) (t':=100111) (ok_front (t:=1000) (t':=100115) h rfl) rfl) rfl))<|g_nil<|d_normal_block ?_
   exact d_round (x126.fb,x5.fplaces,A128,c129,A10,c11) ⟨hm,hc129,trivial⟩ Nat.zero_lt_one ⟨rfl,trivial⟩ (fun W h=>((h.dropR (t:=100240) rfl).dropH (t:=100010) rfl).phi (fun W hφ=>hφ))
  replace hm:=ite_f hm (of_decide_eq_false h125)
  refine c_skip<|d_normal_block ?_
  exact d_round (x21.fb,x5.fplaces,A23,c24,A10,c11) ⟨hm,hc24,trivial⟩ Nat.zero_lt_one ⟨rfl,trivial⟩ (fun W h=>((h.dropR (t:=100240) rfl).dropH (t:=100010) rfl).phi (fun W hφ=>hφ))
 unfold m_peer_Bytes_j1 at hm
 refine d_flat [(5,Vp g14)] ⟨rfl,trivial⟩ (fun u=>?_)
 refine d_sta ⟨w0,M,(100115,g13,.cells #[.slice A74 l73.length c75,mapV A77] 94 (0,0))::(100050,g14,.cells #[Vp g13] 63 (0,0))::H,(100110,⟨.slice A74 l73.length c75,5,1,l73.length,l73.flatMap (fun x : Int=>[Value.int .u8 x])⟩)::(100111,⟨mapV A77,92,2,l76.length,l76.flatMap (mcell (fun x : ByteArray=>Value.string x) (fun x : Int=>Value.int .i64 x))⟩)::R,φ⟩ (fun _ h=>h)<|d_then<|c_seq<|c_seq<|c_region<|g_v rfl (r_field (n:=0) Try.underlying63 rfl Try.sizeOf60 rfl rfl)<|g_v rfl (r_load (tag:=100050) rfl rfl rfl Try.isAgg60) ?_
 replace hm:=bnd hm
 obtain ⟨x79,hx80,hm⟩:=hm
 refine g_cn ⟨w0,M,(1000,g13,.cells #[.slice A74 l73.length c75,mapV A77] 94 (0,0))::(100050,g14,.cells #[Vp g13] 63 (0,0))::H,(1000,⟨.slice A74 l73.length c75,5,1,l73.length,l73.flatMap (fun x : Int=>[Value.int .u8 x])⟩)::(1001,⟨mapV A77,92,2,l76.length,l76.flatMap (mcell (fun x : ByteArray=>Value.string x) (fun x : Int=>Value.int .i64 x))⟩)::R,φ⟩ (fun W h=>(ok_front (t:=100115) (t':=1000) (ok_frontR (t:=100110) (t':=1000) (ok_frontR (t:=100111) (t':=1001) h rfl) rfl) rfl)) Try.call32 rfl rfl (c_pack_Packer_Len g13 (⟨l73,l76⟩ : Gpack_Packer) A74 c75 hc75 A77 c78 trivial _ hx80) (fun _ _=>?_)
 refine g_sta _ (fun W h=>(ok_frontR (t:=1000) (t':=100110) (ok_frontR (t:=1001) (t':=100111) (ok_front (t:=1000) (t':=100115) h rfl) rfl) rfl))<|g_v rfl (r_gtr rfl rfl)<|g_nil<|d_then ?_
 refine c_cond rfl (fun h81=>?_) (fun h81=>?_)
 ·
  replace hm:=ite_t hm (of_decide_eq_true h81)
  refine c_seq<|c_region<|g_v rfl r_assign<|g_v rfl r_assign<|g_nil<|d_then<|c_ret<|d_ret_then ?_
  cases hm
  exact d_retC () Try.results13 (res_tmp (res_tmp (res_nil rfl))) trivial (fun W h=>ok_pre (H1:=[_,_]) (R1:=[_,_]) h (fun W hφ=>hφ)) (.inr rfl)
 replace hm:=ite_f hm (of_decide_eq_false h81)
 refine c_skip<|d_then<|c_seq<|c_region<|g_v rfl (r_field (n:=0) Try.underlying63 rfl Try.sizeOf60 rfl rfl)<|g_v rfl (r_load (tag:=100050) rfl rfl rfl Try.isAgg60) ?_
 replace hm:=bnd hm
 obtain ⟨x82,hx83,hm⟩:=hm
 refine g_cn ⟨w0,M,(1000,g13,.cells #[.slice A74 l73.length c75,mapV A77] 94 (0,0))::(100050,g14,.cells #[Vp g13] 63 (0,0))::H,(1000,⟨.slice A74 l73.length c75,5,1,l73.length,l73.flatMap (fun x : Int=>[Value.int .u8 x])⟩)::(1001,⟨mapV A77,92,2,l76.length,l76.flatMap (mcell (fun x : ByteArray=>Value.string x) (fun x : Int=>Value.int .i64 x))⟩)::R,φ⟩ (fun W h=>(ok_front (t:=100115) (t':=1000) (ok_frontR (t:=100110) (t':=1000) (ok_frontR (t:=100111) (t':=1001) h rfl) rfl) rfl)) Try.call33 rfl rfl (c_pack_Packer_Bytes g13 (⟨l73,l76⟩ : Gpack_Packer) A74 c75 hc75 A77 c78 trivial _ hx83) (fun _ _=>?_)
 refine g_sta _ (fun W h=>(ok_frontR (t:=1000) (t':=100110) (ok_frontR (t:=1001) (t':=100111) (ok_front (t:=1000) (t':=100115) h rfl) rfl) rfl))<|g_v rfl r_assign<|g_v rfl r_assign<|g_nil<|d_then ?_
 refine c_flat [(2,Vs x82),(3,Vi 0)] ⟨rfl,rfl,trivial⟩ (fun u=>?_)
 refine c_ret ?_
 cases hm
 exact d_retC () Try.results13 (res_tmp (res_tmp (res_nil rfl))) trivial (fun W h=>ok_pre (H1:=[_,_]) (R1:=[_,_]) h (fun W hφ=>hφ)) (.inr rfl)
theorem bld31_23 (z0 : Int) (z1 : Int) : ∀ W,(Instr.build 31 #[(0,Vi z0),(1,Vi z1)]).run Try.prog W = .ok (.agg #[Vi z0,Vi z1,Vi 0,Ve,Vu 0,Vu 0,.bool false,V0,Vi 0,Vi 0,Vi 0,Vi 0,Vi 0,Vi 0,Vi 0,.bool false,V0,V0,Ve,Ve]) W:=fun _=>by kernel_rfl
theorem bld54_24 (z0 : ByteArray) (z1 : Int) (z2 : Int) (z3 : ByteArray) : ∀ W,(Instr.build 54 #[(0,Vs z0),(1,Vu z1),(2,Vu z2),(4,Vs z3)]).run Try.prog W = .ok (.agg #[Vs z0,Vu z1,Vu z2,.int .u32 0,Vs z3]) W:=fun _=>by kernel_rfl
theorem lit54_25 (z0 : ByteArray) (z1 : Int) (z2 : Int) (z3 : Int) (z4 : ByteArray) : Try.prog.builtSlice 54 1 [(0,.agg #[Vs z0,Vu z1,Vu z2,.int .u32 z3,Vs z4])] = some #[Vs z0,Vu z1,Vu z2,.int .u32 z3,Vs z4]:=by kernel_rfl
theorem bld41_26 (z0 : Int) (z1 : ByteArray) (z2 : Int) (z3 : Int) (z4 : Int) (z5 : Int) (zA6 : Option Addr) (zn6 : Nat) (zc6 : Nat) : ∀ W,(Instr.build 41 #[(0,Vi z0),(1,Vs z1),(2,Vu z2),(3,Vu z3),(5,Vi z4),(6,Vi z5),(4,.slice zA6 zn6 zc6)]).run Try.prog W = .ok (.agg #[Vi z0,Vs z1,Vu z2,Vu z3,.slice zA6 zn6 zc6,Vi z4,Vi z5,Vi 0,Vi 0]) W:=fun _=>by kernel_rfl
noncomputable def m_law20_entry (p0 : Int) : Option GCached:=
  some (⟨1,(⟨#[1,97,0]⟩ : ByteArray),1,1,[(⟨(⟨#[1,97,0]⟩ : ByteArray),1,1,0,(⟨#[1,2,3,4]⟩ : ByteArray)⟩ : GRR)],p0,3,0,0⟩ : GCached)
theorem c_law20_entry {w0 : World} {M : Nat→Prop} {H : List (Nat×Nat×Obj)} {R : List (Nat×Row)} {φ : World→Prop} (p0 : Int) (r : GCached) (hm : m_law20_entry p0 = some r) :
    Cn Try.prog 17 #[Vi p0] ⟨w0,M,H,R,φ⟩ (fun x : Option Addr×Nat=>.agg #[Vi r.fKind,Vs r.fName,Vu r.fType,Vu r.fClass,.slice x.1 r.fRecords.length x.2,Vi r.fUntil,Vi r.fRank,Vi r.fEpoch,Vi r.fSource]) (fun x=>r.fRecords.length ≤ x.2) (fun x=>⟨w0,M,H,R,fun W=>φ W∧Cl W x.1 (r.fRecords.flatMap GRR.enc)⟩):=by
 unfold m_law20_entry at hm
 refine cn_intro (fn:=Try.f17) (N:=10) Try.func17 rfl Try.ntmps17 rfl<|c_seq<|c_region ?_
 refine g_e rfl (e_alloc 100020 Try.zeroValue41) (fun g1 _=>?_)
 refine g_nil<|d_then<|c_seq<|c_region<|g_v rfl r_assign<|g_nil<|d_then<|c_seq<|c_region ?_
 iterate 3 refine g_v rfl r_move ?_
 refine g_v rfl (r_build _ rfl (bld54_24 _ _ _ _)) ?_
 refine g_e rfl (e_lit (tag:=100080) (l:=[(⟨(⟨#[1,97,0]⟩ : ByteArray),1,1,0,(⟨#[1,2,3,4]⟩ : ByteArray)⟩ : GRR)]) (enc:=GRR.enc) (sz:=5) rfl Try.underlying39 (lit54_25 _ _ _ _ _) rfl rfl (fun _=>rfl)) (fun g2 _=>?_)
 refine g_v rfl (r_build _ rfl (bld41_26 _ _ _ _ _ _ _ _ _))<|g_storeL (tag:=100020) rfl rfl rfl rfl Try.sizeOf41 rfl rfl<|g_nil<|d_then ?_
 refine c_flat [(2,Vp g1)] ⟨rfl,trivial⟩ (fun u=>?_)
 refine c_sta ⟨w0,M,(100020,g1,.cells #[Vi 1,Vs (⟨#[1,97,0]⟩ : ByteArray),Vu 1,Vu 1,.slice (some ⟨g2,0,none⟩) ([(⟨(⟨#[1,97,0]⟩ : ByteArray),1,1,0,(⟨#[1,2,3,4]⟩ : ByteArray)⟩ : GRR)]).length 1,Vi p0,Vi 3,Vi 0,Vi 0] 41 (0,0))::H,(100080,⟨.slice (some ⟨g2,0,none⟩) ([(⟨(⟨#[1,97,0]⟩ : ByteArray),1,1,0,(⟨#[1,2,3,4]⟩ : ByteArray)⟩ : GRR)]).length 1,54,5,([(⟨(⟨#[1,97,0]⟩ : ByteArray),1,1,0,(⟨#[1,2,3,4]⟩ : ByteArray)⟩ : GRR)]).length,([(⟨(⟨#[1,97,0]⟩ : ByteArray),1,1,0,(⟨#[1,2,3,4]⟩ : ByteArray)⟩ : GRR)]).flatMap GRR.enc⟩)::R,φ⟩ (fun _ h=>h)<|c_ret ?_
 cases hm
 refine d_shut (tag:=100080) rfl (fun φ3 q3'=>?_)
 have q3 : ∀ W,φ3 W→φ W:=fun W h=>(q3' W h).1
 have f4:=fun (W : World) (h : φ3 W)=>(q3' W h).2
 exact d_retC (some ⟨g2,0,none⟩,1) Try.results17 (res_agg (tag:=100020) rfl rfl Try.isAgg41 Try.sizeOf41 (res_nil rfl)) (Nat.le_refl _) (fun W h=>ok_pre (H1:=[_]) (R1:=[]) h (fun W hφ=>⟨(q3 _ hφ),(fun W h=>f4 W h) W hφ⟩)) (.inr rfl)
theorem lit41_27 (z0 : Int) (z1 : ByteArray) (z2 : Int) (z3 : Int) (zAz4 : Option Addr) (znz4 : Nat) (zcz4 : Nat) (z5 : Int) (z6 : Int) (z7 : Int) (z8 : Int) : Try.prog.builtSlice 41 1 [(0,.agg #[Vi z0,Vs z1,Vu z2,Vu z3,.slice zAz4 znz4 zcz4,Vi z5,Vi z6,Vi z7,Vi z8])] = some #[Vi z0,Vs z1,Vu z2,Vu z3,.slice zAz4 znz4 zcz4,Vi z5,Vi z6,Vi z7,Vi z8]:=by kernel_rfl
theorem bld31_28 (z0 : Int) (z1 : Int) (z2 : Int) (z3 : Bool) (zA4 : Option Addr) (zn4 : Nat) (zc4 : Nat) : ∀ W,(Instr.build 31 #[(0,Vi z0),(1,Vi z1),(2,Vi z2),(4,.bool z3),(5,.slice zA4 zn4 zc4)]).run Try.prog W = .ok (.agg #[Vi z0,Vi z1,Vi z2,Ve,Vu 0,Vu 0,.bool z3,.slice zA4 zn4 zc4,Vi 0,Vi 0,Vi 0,Vi 0,Vi 0,Vi 0,Vi 0,.bool false,V0,V0,Ve,Ve]) W:=fun _=>by kernel_rfl
noncomputable def m_peer_clock (p0 : Int) : Option Int:=
  some (min (max p0 0) 1125899906842624)
theorem c_peer_clock {w0 : World} {M : Nat→Prop} {H : List (Nat×Nat×Obj)} {R : List (Nat×Row)} {φ : World→Prop} (p0 : Int) (r : Int) (hm : m_peer_clock p0 = some r) :
    Cn Try.prog 19 #[Vi p0] ⟨w0,M,H,R,φ⟩ (fun x : Unit=>Vi r) (fun x=>True) (fun x=>⟨w0,M,H,R,φ⟩):=by
 unfold m_peer_clock at hm
 refine cn_intro (fn:=Try.f19) (N:=6) Try.func19 rfl Try.ntmps19 rfl<|c_seq<|c_region<|g_v rfl r_assign<|g_nil<|d_then<|c_seq<|c_region<|g_v rfl r_move<|g_v rfl (r_max rfl rfl) ?_
 refine g_v rfl (r_min rfl rfl)<|g_v rfl r_assign<|g_nil<|d_then<|c_ret ?_
 cases hm
 exact d_retC () Try.results19 (res_tmp (res_nil rfl)) trivial (fun W h=>ok_pre (H1:=[]) (R1:=[]) h (fun W hφ=>hφ)) (.inr rfl)
theorem isi41_29  : (Try.prog.info? 41).isSome = true:=by kernel_rfl
theorem inf41_30  : (Try.prog.info? 41).map (fun i=>(i.zero,i.size,i.bytes)) = some (some (.agg #[Vi 0,Ve,Vu 0,Vu 0,V0,Vi 0,Vi 0,Vi 0,Vi 0]),9,88):=by kernel_rfl
noncomputable def m_slices_Clone_20 (p0 : List GCached) : Option (List GCached):=
  (app 88 ([] : List GCached) p0).bind fun l3=>
  some l3
theorem c_slices_Clone_20 {w0 : World} {M : Nat→Prop} {H : List (Nat×Nat×Obj)} {R : List (Nat×Row)} {φ : World→Prop} (p0 : List GCached) (Ap0_0 : Option Addr) (cp0_0 : Nat) (psp0_0 : List GCachedP) (hcp0_0 : (DOk GCached.capP p0 psp0_0∧p0.length ≤ cp0_0)) (fp0_0 : ∀ W,φ W→Cl W Ap0_0 ((p0.zip psp0_0).flatMap GCached.encP)) (fop0_0 : ∀ W,φ W→DOwn GCached.ownP p0 psp0_0 W) (r : (List GCached)) (hm : m_slices_Clone_20 p0 = some r) :
    Cn Try.prog 20 #[.slice Ap0_0 p0.length cp0_0] ⟨w0,M,H,R,φ⟩ (fun x : Option Addr×Nat×List GCachedP=>.slice x.1 r.length x.2.1) (fun x=>(DOk GCached.capP r x.2.2∧r.length ≤ x.2.1)) (fun x=>⟨w0,M,H,(2000,⟨.slice x.1 r.length x.2.1,41,9,r.length,(r.zip x.2.2).flatMap GCached.encP⟩)::R,fun W=>φ W∧DOwn GCached.ownP r x.2.2 W⟩):=by
 unfold m_slices_Clone_20 at hm
 refine cn_intro (fn:=Try.f20) (N:=8) Try.func20 rfl Try.ntmps20 rfl<|c_seq<|c_region<|g_v rfl r_assign<|g_nil<|d_then<|c_seq<|c_seq<|c_region<|g_v rfl r_move ?_
 refine g_v rfl (r_isNilS Try.underlying25 rfl rfl)<|g_nil<|d_then ?_
 refine c_cond rfl (fun h1=>?_) (fun h1=>?_)
 ·
  refine c_know (p0 = []) (fun W hS=>cl_nil_ofD hcp0_0.1 (enc:=GCached.encP) (fun _=>Nat.le_of_ble_eq_true rfl) (nil_of h1 ▸ fp0_0 W hS.now)) (fun hnil=>?_)
  replace hm : some ([] : List GCached) = some r:=by rw [hnil] at hm; exact hm
  refine c_seq<|c_region<|g_v rfl r_assign<|g_nil<|d_then<|c_ret<|d_ret_then ?_
  cases hm
  refine d_sta _ (fun W h=>nilR h 11 41 9)<|d_sta _ (fun W h=>ok_frontR (t:=11) (t':=2000) h rfl) ?_
  exact d_retC (none,0,([] : List GCachedP)) Try.results20 (res_tmp (res_nil rfl)) ⟨DOk.nil,(Nat.le_refl 0)⟩ (fun W h=>h.phi (fun W hφ=>⟨hφ,(fun W h=>DOwn.nil) W hφ⟩)) (.inr rfl)
 refine c_skip<|d_then<|c_seq<|c_region ?_
 refine g_e rfl (e_lit0 (tag:=100050) (sz:=9) Try.underlying25 isi41_29) (fun g2 _=>?_)
 refine g_v rfl r_move ?_
 replace hm:=bnd hm
 obtain ⟨l3,hl3,hm⟩:=hm
 have hk6:=DOk.app (cap:=GCached.capP) DOk.nil hcp0_0.1 hl3
 have f7:=fun (W : World) (h : φ W)=>DOwn.app (own:=GCached.ownP) (cap:=GCached.capP) DOk.nil hl3 DOwn.nil (fop0_0 W h)
 refine g_e rfl (e_appRD (enc:=GCached.encP) (l:=[]) (l1:=p0) (l2:=l3) (tag:=100050) DOk.nil hcp0_0.1 Try.underlying25 inf41_30 rfl (by decide) (by decide) (fun _=>rfl) (fun _=>rfl) rfl (Nat.le_refl 0) rfl rfl (fun W hS=>fp0_0 W hS.now) hl3) (fun ⟨A4,c5⟩ hc5=>?_)
 refine g_v rfl r_assign<|g_nil<|d_then<|c_ret ?_
 cases hm
 refine d_sta _ (fun W h=>ok_frontR (t:=100050) (t':=2000) h rfl) ?_
 exact d_retC (A4,c5,([]++psp0_0)) Try.results20 (res_tmp (res_nil rfl)) ⟨hk6,hc5⟩ (fun W h=>h.phi (fun W hφ=>⟨hφ,(fun W h=>(f7 W h)) W hφ⟩)) (.inr rfl)
noncomputable def m_peer_Accept_j1  (l91 : List GCached) : Option ((List GCached)×Bool):=
  some (l91,true)
noncomputable def m_peer_Accept_s2 (x16 : List GCached) (x14 : Int) (l127 : List GCached) (i132 : Int) : Option (((List GCached)×Int) ⊕ (List GCached)):=
  if i132 < (x16.length : Int) then
    (at_ l127 i132).bind fun x166=>
    (at_ l127 i132).bind fun x176=>
    (setAt l127 i132 (⟨x176.fKind,x176.fName,x176.fType,x176.fClass,x176.fRecords,(min x166.fUntil x14),x176.fRank,x176.fEpoch,x176.fSource⟩ : GCached)).bind fun l186=>
    some (.inl (l186,w64 (i132 + 1)))
  else
    some (.inr l127)
noncomputable def m_peer_Accept (p0 : GLetter) (p1 : GLetter) (p2 : Int) (p3 : Int) (p4 : Int) : Option ((List GCached)×Bool):=
  if p1.fKind ≠ 2 then
    some (([] : List GCached),false)
  else
    (m_peer_Check p1).bind fun x4=>
    if x4 ≠ 0 then
      some (([] : List GCached),false)
    else
      if p1.fGood = true then
        if p1.fSerial ≠ p0.fSerial then
          some (([] : List GCached),false)
        else
          if p1.fEpoch < p2 then
            some (([] : List GCached),false)
          else
            (m_peer_clock p3).bind fun x10=>
            (m_peer_clock p4).bind fun x12=>
            (m_peer_clock (w64 (x10 + x12))).bind fun x14=>
            (m_slices_Clone_20 p1.fEntries).bind fun x16=>
            (loop (fun s=>m_peer_Accept_s2 x16 x14 s.1 s.2) (x16,0)).bind fun e=>m_peer_Accept_j1 e
      else
        some (([] : List GCached),false)
theorem c_peer_Accept {w0 : World} {M : Nat→Prop} {H : List (Nat×Nat×Obj)} {R : List (Nat×Row)} {φ : World→Prop} (p0 : GLetter) (Ap0_0 : Option Addr) (cp0_0 : Nat) (psp0_0 : List GCachedP) (hcp0_0 : (DOk GCached.capP p0.fEntries psp0_0∧p0.fEntries.length ≤ cp0_0)) (fp0_0 : ∀ W,(Sta.mk w0 M H R φ).ok W→Cl W Ap0_0 ((p0.fEntries.zip psp0_0).flatMap GCached.encP)) (fop0_0 : ∀ W,(Sta.mk w0 M H R φ).ok W→DOwn GCached.ownP p0.fEntries psp0_0 W) (Ap0_1 : Option Addr) (cp0_1 : Nat) (hcp0_1 : p0.fNote.fEntries.length ≤ cp0_1) (fp0_1 : ∀ W,(Sta.mk w0 M H R φ).ok W→Cl W Ap0_1 (p0.fNote.fEntries.flatMap GEntry.enc)) (Ap0_2 : Option Addr) (cp0_2 : Nat) (hcp0_2 : p0.fNote.fVoters.length ≤ cp0_2) (fp0_2 : ∀ W,(Sta.mk w0 M H R φ).ok W→Cl W Ap0_2 (p0.fNote.fVoters.flatMap (fun x : Int=>[Value.int .i64 x]))) (p1 : GLetter) (Ap1_0 : Option Addr) (cp1_0 : Nat) (psp1_0 : List GCachedP) (hcp1_0 : (DOk GCached.capP p1.fEntries psp1_0∧p1.fEntries.length ≤ cp1_0)) (fp1_0 : ∀ W,φ W→Cl W Ap1_0 ((p1.fEntries.zip psp1_0).flatMap GCached.encP)) (fop1_0 : ∀ W,φ W→DOwn GCached.ownP p1.fEntries psp1_0 W) (Ap1_1 : Option Addr) (cp1_1 : Nat) (hcp1_1 : p1.fNote.fEntries.length ≤ cp1_1) (fp1_1 : ∀ W,(Sta.mk w0 M H R φ).ok W→Cl W Ap1_1 (p1.fNote.fEntries.flatMap GEntry.enc)) (Ap1_2 : Option Addr) (cp1_2 : Nat) (hcp1_2 : p1.fNote.fVoters.length ≤ cp1_2) (fp1_2 : ∀ W,(Sta.mk w0 M H R φ).ok W→Cl W Ap1_2 (p1.fNote.fVoters.flatMap (fun x : Int=>[Value.int .i64 x]))) (p2 : Int) (p3 : Int) (p4 : Int) (r : (List GCached)×Bool) (hm : m_peer_Accept p0 p1 p2 p3 p4 = some r) :
    Cn Try.prog 9 #[.agg #[Vi p0.fKind,Vi p0.fSerial,Vi p0.fEpoch,Vs p0.fQuestion.fName,Vu p0.fQuestion.fType,Vu p0.fQuestion.fClass,.bool p0.fGood,.slice Ap0_0 p0.fEntries.length cp0_0,Vi p0.fNote.fKind,Vi p0.fNote.fFrom,Vi p0.fNote.fTo,Vi p0.fNote.fTerm,Vi p0.fNote.fIndex,Vi p0.fNote.fLogTerm,Vi p0.fNote.fCommit,.bool p0.fNote.fGood,.slice Ap0_1 p0.fNote.fEntries.length cp0_1,.slice Ap0_2 p0.fNote.fVoters.length cp0_2,Vs p0.fNote.fSnap,Vs p0.fText],.agg #[Vi p1.fKind,Vi p1.fSerial,Vi p1.fEpoch,Vs p1.fQuestion.fName,Vu p1.fQuestion.fType,Vu p1.fQuestion.fClass,.bool p1.fGood,.slice Ap1_0 p1.fEntries.length cp1_0,Vi p1.fNote.fKind,Vi p1.fNote.fFrom,Vi p1.fNote.fTo,Vi p1.fNote.fTerm,Vi p1.fNote.fIndex,Vi p1.fNote.fLogTerm,Vi p1.fNote.fCommit,.bool p1.fNote.fGood,.slice Ap1_1 p1.fNote.fEntries.length cp1_1,.slice Ap1_2 p1.fNote.fVoters.length cp1_2,Vs p1.fNote.fSnap,Vs p1.fText],Vi p2,Vi p3,Vi p4] ⟨w0,M,H,R,φ⟩ (fun x : Option Addr×Nat×List GCachedP=>.tuple #[.slice x.1 r.1.length x.2.1,.bool r.2]) (fun x=>(DOk GCached.capP r.1 x.2.2∧r.1.length ≤ x.2.1)) (fun x=>⟨w0,M,H,(2000,⟨.slice x.1 r.1.length x.2.1,41,9,r.1.length,(r.1.zip x.2.2).flatMap GCached.encP⟩)::R,fun W=>φ W∧DOwn GCached.ownP r.1 x.2.2 W⟩):=by
 unfold m_peer_Accept at hm
 refine cn_intro (fn:=Try.f9) (N:=68) Try.func9 rfl Try.ntmps9 rfl<|c_seq<|c_region ?_
 refine g_e rfl (e_box 100050 rfl) (fun g1 _=>?_)
 refine g_e rfl (e_box 100060 rfl) (fun g2 _=>?_)
 refine g_v rfl r_assign<|g_v rfl r_assign<|g_nil<|d_then<|c_seq<|c_seq<|c_region<|g_v rfl (r_field (n:=0) Try.underlying31 rfl Try.sizeOf3 rfl rfl)<|g_v rfl (r_load (tag:=100060) rfl rfl rfl Try.isAgg3)<|g_v rfl (r_neq rfl rfl) ?_
 refine g_v rfl r_move<|g_sta ⟨w0,M,(100060,g2,.cells #[Vi p1.fKind,Vi p1.fSerial,Vi p1.fEpoch,Vs p1.fQuestion.fName,Vu p1.fQuestion.fType,Vu p1.fQuestion.fClass,.bool p1.fGood,.slice Ap1_0 p1.fEntries.length cp1_0,Vi p1.fNote.fKind,Vi p1.fNote.fFrom,Vi p1.fNote.fTo,Vi p1.fNote.fTerm,Vi p1.fNote.fIndex,Vi p1.fNote.fLogTerm,Vi p1.fNote.fCommit,.bool p1.fNote.fGood,.slice Ap1_1 p1.fNote.fEntries.length cp1_1,.slice Ap1_2 p1.fNote.fVoters.length cp1_2,Vs p1.fNote.fSnap,Vs p1.fText] 31 (0,0))::(100050,g1,.cells #[Vi p0.fKind,Vi p0.fSerial,Vi p0.fEpoch,Vs p0.fQuestion.fName,Vu p0.fQuestion.fType,Vu p0.fQuestion.fClass,.bool p0.fGood,.slice Ap0_0 p0.fEntries.length cp0_0,Vi p0.fNote.fKind,Vi p0.fNote.fFrom,Vi p0.fNote.fTo,Vi p0.fNote.fTerm,Vi p0.fNote.fIndex,Vi p0.fNote.fLogTerm,Vi p0.fNote.fCommit,.bool p0.fNote.fGood,.slice Ap0_1 p0.fNote.fEntries.length cp0_1,.slice Ap0_2 p0.fNote.fVoters.length cp0_2,Vs p0.fNote.fSnap,Vs p0.fText] 31 (0,0))::H,R,φ⟩ (fun _ h=>h) ?_
 refine g_if rfl rfl rfl rfl rfl (fun h3=>?_) (fun h3=>?_)
 ·
  replace hm:=ite_f hm (of_decide_eq_false h3)
  refine g_v rfl (r_loadA (tag:=100060) rfl rfl Try.isAgg31 Try.sizeOf31 rfl rfl)<|g_do rfl rfl rfl rfl rfl h3 ?_
  replace hm:=bnd hm
  obtain ⟨x4,hx5,hm⟩:=hm
  refine g_cn ⟨w0,M,_,_,φ⟩ (fun _ h=>h) Try.call18 rfl rfl (c_peer_Check p1 Ap1_0 cp1_0 psp1_0 ⟨hcp1_0.1,hcp1_0.2⟩ (fun W h=>fp1_0 W h) (fun W h=>(fop1_0 W h)) Ap1_1 cp1_1 hcp1_1 (fun W hS=>fp1_1 W (ok_pre (H1:=[_,_]) (R1:=[]) hS (fun W h=>h))) Ap1_2 cp1_2 hcp1_2 (fun W hS=>fp1_2 W (ok_pre (H1:=[_,_]) (R1:=[]) hS (fun W h=>h))) _ hx5) (fun _ _=>?_)
  refine g_do rfl rfl rfl rfl rfl h3<|g_v rfl (r_neq rfl rfl)<|g_v rfl (r_pick0 rfl h3)<|g_v rfl r_move ?_
  refine g_if rfl rfl rfl rfl rfl (fun h6=>?_) (fun h6=>?_)
  ·
   replace hm:=ite_f hm (of_decide_eq_false h6)
   refine g_v rfl (r_field (n:=6) Try.underlying31 rfl Try.sizeOf4 rfl rfl)<|g_do rfl rfl rfl rfl rfl h6<|g_v rfl (r_load (tag:=100060) rfl rfl rfl Try.isAgg4)<|g_do rfl rfl rfl rfl rfl h6<|g_v rfl (r_not rfl)<|g_v rfl (r_pick0 rfl h6)<|g_v rfl r_move ?_
   refine g_if rfl rfl rfl rfl rfl (fun h7=>?_) (fun h7=>?_)
   ·
    have h7' : p1.fGood = true:=by revert h7; cases p1.fGood <;> simp
    replace hm:=ite_t hm h7'
    refine g_v rfl (r_field (n:=1) Try.underlying31 rfl Try.sizeOf3 rfl rfl)<|g_do rfl rfl rfl rfl rfl h7<|g_v rfl (r_load (tag:=100060) rfl rfl rfl Try.isAgg3)<|g_do rfl rfl rfl rfl rfl h7<|g_v rfl (r_field (n:=1) Try.underlying31 rfl Try.sizeOf3 rfl rfl)<|g_do rfl rfl rfl rfl rfl h7<|g_v rfl (r_load (tag:=100050) rfl rfl rfl Try.isAgg3)<|g_do rfl rfl rfl rfl rfl h7<|g_v rfl (r_neq rfl rfl)<|g_v rfl (r_pick0 rfl h7) ?_
    refine g_v rfl r_move ?_
    refine g_if rfl rfl rfl rfl rfl (fun h8=>?_) (fun h8=>?_)
    ·
     replace hm:=ite_f hm (of_decide_eq_false h8)
     refine g_v rfl (r_field (n:=2) Try.underlying31 rfl Try.sizeOf3 rfl rfl)<|g_do rfl rfl rfl rfl rfl h8<|g_v rfl (r_load (tag:=100060) rfl rfl rfl Try.isAgg3)<|g_do rfl rfl rfl rfl rfl h8<|g_v rfl r_move<|g_do rfl rfl rfl rfl rfl h8<|g_v rfl (r_lss rfl rfl)<|g_v rfl (r_pick0 rfl h8)<|g_nil<|d_then ?_
     refine c_flat [(3,Vi p3),(4,Vi p4),(6,Vp g2),(40,.bool (decide (p1.fEpoch < p2)))] ⟨rfl,rfl,rfl,rfl,trivial⟩ (fun u=>?_)
     refine c_cond rfl (fun h9=>?_) (fun h9=>?_)
     ·
      replace hm:=ite_t hm (of_decide_eq_true h9)
      refine c_seq<|c_region<|g_v rfl r_assign<|g_v rfl r_assign<|g_nil<|d_then<|c_ret<|d_ret_then ?_
      cases hm
      refine d_sta _ (fun W h=>nilR h 11 41 9)<|d_sta _ (fun W h=>ok_frontR (t:=11) (t':=2000) h rfl) ?_
      exact d_retC (none,0,([] : List GCachedP)) Try.results9 (res_tmp (res_tmp (res_nil rfl))) ⟨DOk.nil,(Nat.le_refl 0)⟩ (fun W h=>((h.dropH (t:=100060) rfl).dropH (t:=100050) rfl).phi (fun W hφ=>⟨hφ,(fun W h=>DOwn.nil) W hφ⟩)) (.inr rfl)
     replace hm:=ite_f hm (of_decide_eq_false h9)
     refine c_skip<|d_then<|c_seq<|c_region<|g_v rfl r_move ?_
     replace hm:=bnd hm
     obtain ⟨x10,hx11,hm⟩:=hm
     refine g_cn ⟨w0,M,_,_,φ⟩ (fun _ h=>h) Try.call19 rfl rfl (c_peer_clock p3 _ hx11) (fun _ _=>?_)
     refine g_v rfl r_move ?_
     replace hm:=bnd hm
     obtain ⟨x12,hx13,hm⟩:=hm
     refine g_cn ⟨w0,M,_,_,φ⟩ (fun _ h=>h) Try.call19 rfl rfl (c_peer_clock p4 _ hx13) (fun _ _=>?_)
     refine g_v rfl (r_add rfl rfl rfl) ?_
     replace hm:=bnd hm
     obtain ⟨x14,hx15,hm⟩:=hm
     refine g_cn ⟨w0,M,_,_,φ⟩ (fun _ h=>h) Try.call19 rfl rfl (c_peer_clock (w64 (x10 + x12)) _ hx15) (fun _ _=>?_)
     refine g_v rfl r_assign<|g_nil<|d_then<|c_seq<|c_region<|g_v rfl (r_field (n:=7) Try.underlying31 rfl Try.sizeOf25 rfl rfl)<|g_v rfl (r_load (tag:=100060) rfl rfl rfl Try.isAgg25) ?_
     replace hm:=bnd hm
     obtain ⟨x16,hx17,hm⟩:=hm
     refine g_cn ⟨w0,M,_,_,φ⟩ (fun _ h=>h) Try.call20 rfl rfl (c_slices_Clone_20 p1.fEntries Ap1_0 cp1_0 psp1_0 ⟨hcp1_0.1,hcp1_0.2⟩ (fun W h=>fp1_0 W h) (fun W h=>(fop1_0 W h)) _ hx17) (fun ⟨A18,c19,ps21⟩ hc19=>?_)
     refine g_sta _ (fun W h=>(ok_frontR (t:=2000) (t':=100490) h rfl)) ?_
     refine g_abs (fun φ23 q23'=>?_)
     have q23 : ∀ W,φ23 W→φ W:=fun W h=>(q23' W h).1
     have f22:=fun (W : World) (h : φ23 W)=>(q23' W h).2
     refine g_v rfl r_assign<|g_nil<|d_then ?_
     refine c_flat [(12,Vi x14),(13,.slice A18 x16.length c19)] ⟨rfl,rfl,trivial⟩ (fun u=>?_)
     refine c_sta ⟨w0,M,(100060,g2,.cells #[Vi p1.fKind,Vi p1.fSerial,Vi p1.fEpoch,Vs p1.fQuestion.fName,Vu p1.fQuestion.fType,Vu p1.fQuestion.fClass,.bool p1.fGood,.slice Ap1_0 p1.fEntries.length cp1_0,Vi p1.fNote.fKind,Vi p1.fNote.fFrom,Vi p1.fNote.fTo,Vi p1.fNote.fTerm,Vi p1.fNote.fIndex,Vi p1.fNote.fLogTerm,Vi p1.fNote.fCommit,.bool p1.fNote.fGood,.slice Ap1_1 p1.fNote.fEntries.length cp1_1,.slice Ap1_2 p1.fNote.fVoters.length cp1_2,Vs p1.fNote.fSnap,Vs p1.fText] 31 (0,0))::(100050,g1,.cells #[Vi p0.fKind,Vi p0.fSerial,Vi p0.fEpoch,Vs p0.fQuestion.fName,Vu p0.fQuestion.fType,Vu p0.fQuestion.fClass,.bool p0.fGood,.slice Ap0_0 p0.fEntries.length cp0_0,Vi p0.fNote.fKind,Vi p0.fNote.fFrom,Vi p0.fNote.fTo,Vi p0.fNote.fTerm,Vi p0.fNote.fIndex,Vi p0.fNote.fLogTerm,Vi p0.fNote.fCommit,.bool p0.fNote.fGood,.slice Ap0_1 p0.fNote.fEntries.length cp0_1,.slice Ap0_2 p0.fNote.fVoters.length cp0_2,Vs p0.fNote.fSnap,Vs p0.fText] 31 (0,0))::H,(100490,⟨.slice A18 x16.length c19,41,9,x16.length,(x16.zip ps21).flatMap GCached.encP⟩)::R,φ23⟩ (fun _ h=>h)<|c_seq<|c_seq<|c_region<|g_v rfl r_move<|g_v rfl (r_lenL Try.underlying25 rfl)<|g_v rfl r_move<|g_nil<|d_then ?_
     refine c_cut (ι:=(List GCached)×Option Addr×Nat×List GCachedP) [13] (fun ⟨l91,A92,c93,ps94⟩=>[(13,.slice A92 l91.length c93)]) (fun ⟨l91,A92,c93,ps94⟩=>⟨w0,M,H,(100490,⟨.slice A92 l91.length c93,41,9,l91.length,(l91.zip ps94).flatMap GCached.encP⟩)::R,fun W=>φ23 W∧DOwn GCached.ownP l91 ps94 W⟩) (fun ⟨l91,A92,c93,ps94⟩=>m_peer_Accept_j1 l91 = some r∧(DOk GCached.capP l91 ps94∧l91.length ≤ c93)) ?_ (fun ⟨l91,A92,c93,ps94⟩ u ⟨hm,hc93⟩=>?_)
     ·
      refine c_block ?_
      replace hm:=bnd hm
      obtain ⟨out2,hl2,hr2⟩:=hm
      obtain ⟨n163',hl2⟩:=loop_lp hl2
      refine c_loopU (ι:=Nat×(List GCached)×Int×Option Addr×Nat×List GCachedP) [12,13,51,52] (fun ⟨n163,l127,i132,A128,c129,ps130⟩=>[(13,.slice A128 l127.length c129),(52,Vi i132)]) (fun ⟨n163,l127,i132,A128,c129,ps130⟩=>⟨w0,M,H,(100490,⟨.slice A128 l127.length c129,41,9,l127.length,(l127.zip ps130).flatMap GCached.encP⟩)::R,fun W=>φ23 W∧DOwn GCached.ownP l127 ps130 W⟩) (fun ⟨n163,l127,i132,A128,c129,ps130⟩=>Lp (fun s=>m_peer_Accept_s2 x16 x14 s.1 s.2) n163 (l127,i132) out2∧(DOk GCached.capP l127 ps130∧l127.length ≤ c129)) (fun ⟨n163,l127,i132,A128,c129,ps130⟩=>n163) (n163',x16,0,A18,c19,ps21) ⟨hl2,⟨hc19.1,hc19.2⟩⟩ ⟨rfl,rfl,rfl,rfl,trivial⟩ (fun W h=>((h.dropH (t:=100060) rfl).dropH (t:=100050) rfl).phi (fun W hφ=>⟨hφ,(fun W h=>(f22 W h)) W hφ⟩)) (fun ⟨n163,l127,i132,A128,c129,ps130⟩ u ⟨hlp,hc129⟩=>?_)
      obtain ⟨o2,hm,hnx2⟩:=lp_step hlp
      clear hlp
      replace hm : m_peer_Accept_s2 x16 x14 l127 i132 = some o2:=hm
      unfold m_peer_Accept_s2 at hm
      refine c_abs (fun φ164 q164'=>?_)
      have q164 : ∀ W,φ164 W→φ23 W:=fun W h=>(q164' W h).1
      have f131:=fun (W : World) (h : φ164 W)=>(q164' W h).2
      refine c_flat [(12,Vi x14),(13,.slice A128 l127.length c129),(51,Vi (x16.length : Int)),(52,Vi i132)] ⟨rfl,rfl,rfl,rfl,trivial⟩ (fun u=>?_)
      refine c_sta ⟨w0,M,H,(100490,⟨.slice A128 l127.length c129,41,9,l127.length,(l127.zip ps130).flatMap GCached.encP⟩)::R,φ164⟩ (fun _ h=>h)<|c_seq<|c_region<|g_v rfl (r_lss rfl rfl)<|g_nil<|d_then<|c_seq ?_
      refine c_cond rfl (fun h165=>?_) (fun h165=>?_)
      ·
       replace hm:=ite_t hm (of_decide_eq_true h165)
       refine c_skip<|d_then<|c_seq<|c_block<|c_seq<|c_region<|g_v rfl r_move<|g_v rfl r_assign<|g_nil<|d_then ?_
       refine c_region ?_
       iterate 4 refine g_v rfl r_move ?_
       replace hm:=bnd hm
       obtain ⟨x166,hx166,hm⟩:=hm
       obtain ⟨pp170,hv171,hz172,hcp173⟩:=DOk.at_ hc129.1 hx166
       refine g_know _ (fun W hS=>cl_at (p:=(Sta.ok ⟨w0,M,H,(100490,⟨.slice A128 l127.length c129,41,9,l127.length,(l127.zip ps130).flatMap GCached.encP⟩)::R,φ164⟩)) (sz:=9) (fun _=>rfl) (by decide) hS (fun W hS=>rowCl (S:=⟨w0,M,H,(100490,⟨.slice A128 l127.length c129,41,9,l127.length,(l127.zip ps130).flatMap GCached.encP⟩)::R,φ164⟩) (tag:=100490) rfl W hS) hv171) ?_
       rintro ⟨ad167,hA169,f168⟩
       have f174:=fun (W : World) (h : φ164 W)=>(f131 W h _ hz172)
       refine g_v rfl (r_ix Try.underlying25 Try.sizeOf41 rfl hA169 rfl hx166) ?_
       have f175:=fun (W : World) (h : (Sta.ok ⟨w0,M,H,(100490,⟨.slice A128 l127.length c129,41,9,l127.length,(l127.zip ps130).flatMap GCached.encP⟩)::R,φ164⟩) W)=>Cl.drop (f168 W h) 5
       refine g_v rfl (r_fieldF Try.underlying41 rfl Try.sizeOf3 rfl)<|g_v rfl (r_ld rfl Try.isAgg3 (fun W hS=>Cl.head (f175 W hS)))<|g_v rfl r_move<|g_v rfl (r_min rfl rfl) ?_
       replace hm:=bnd hm
       obtain ⟨x176,hx176,hm⟩:=hm
       obtain ⟨pp180,hv181,hz182,hcp183⟩:=DOk.at_ hc129.1 hx176
       refine g_know _ (fun W hS=>cl_at (p:=(Sta.ok ⟨w0,M,H,(100490,⟨.slice A128 l127.length c129,41,9,l127.length,(l127.zip ps130).flatMap GCached.encP⟩)::R,φ164⟩)) (sz:=9) (fun _=>rfl) (by decide) hS (fun W hS=>rowCl (S:=⟨w0,M,H,(100490,⟨.slice A128 l127.length c129,41,9,l127.length,(l127.zip ps130).flatMap GCached.encP⟩)::R,φ164⟩) (tag:=100490) rfl W hS) hv181) ?_
       rintro ⟨ad177,hA179,f178⟩
       have f184:=fun (W : World) (h : φ164 W)=>(f131 W h _ hz182)
       refine g_v rfl (r_ix Try.underlying25 Try.sizeOf41 rfl hA179 rfl hx176) ?_
       have f185:=fun (W : World) (h : (Sta.ok ⟨w0,M,H,(100490,⟨.slice A128 l127.length c129,41,9,l127.length,(l127.zip ps130).flatMap GCached.encP⟩)::R,φ164⟩) W)=>Cl.drop (f178 W h) 5
       refine g_v rfl (r_fieldF Try.underlying41 rfl Try.sizeOf3 rfl) ?_
       replace hm:=bnd hm
       obtain ⟨l186,hl186,hm⟩:=hm
       have hk187:=DOk.set (p:=(⟨pp180.pA0,pp180.pC0⟩ : GCachedP)) hc129.1 hl186 (show GCached.capP ((⟨x176.fKind,x176.fName,x176.fType,x176.fClass,x176.fRecords,(min x166.fUntil x14),x176.fRank,x176.fEpoch,x176.fSource⟩ : GCached),(⟨pp180.pA0,pp180.pC0⟩ : GCachedP)) from hcp183)
       have f188:=fun (W : World) (h : φ164 W)=>DOwn.set (p:=(⟨pp180.pA0,pp180.pC0⟩ : GCachedP)) hl186 (f131 W h) (show GCached.ownP W ((⟨x176.fKind,x176.fName,x176.fType,x176.fClass,x176.fRecords,(min x166.fUntil x14),x176.fRank,x176.fEpoch,x176.fSource⟩ : GCached),(⟨pp180.pA0,pp180.pC0⟩ : GCachedP)) from f184 W h)
       refine g_s (e_stRD (tag:=100490) (enc:=GCached.encP) (l:=l127) (off:=5) (vs:=[Vi (min x166.fUntil x14)]) (p':=(⟨pp180.pA0,pp180.pC0⟩ : GCachedP)) hc129.1 rfl hA179 rfl rfl hv181 hl186 rfl (Nat.le_of_ble_eq_true rfl) (fun _=>rfl) rfl rfl Try.sizeOf3) ?_
       rw [show l127.length = l186.length from (setAt_lenE hl186).symm]
       refine g_nil<|d_normal_block<|d_then ?_
       refine c_flat [(12,Vi x14),(13,.slice A128 l186.length c129),(51,Vi (x16.length : Int)),(52,Vi i132)] ⟨rfl,rfl,rfl,rfl,trivial⟩ (fun u=>?_)
       refine c_sta ⟨w0,M,H,(100490,⟨.slice A128 l186.length c129,41,9,l186.length,(l186.zip (ps130.set (i132).toNat (⟨pp180.pA0,pp180.pC0⟩ : GCachedP))).flatMap GCached.encP⟩)::R,φ164⟩ (fun _ h=>h)<|c_region<|g_v rfl (r_add rfl rfl rfl)<|g_v rfl r_move<|g_nil ?_
       obtain ⟨n189,hn189,hlp⟩:=nx_inl hm hnx2
       exact d_round (n189,l186,w64 (i132 + 1),A128,c129,(ps130.set (i132).toNat (⟨pp180.pA0,pp180.pC0⟩ : GCachedP))) ⟨hlp,⟨hk187,(setAt_len hc129.2 hl186)⟩⟩ hn189 ⟨rfl,rfl,rfl,rfl,trivial⟩ (fun W h=>h.phi (fun W hφ=>⟨(q164 _ hφ),(fun W h=>(f188 W h)) W hφ⟩))
      replace hm:=ite_f hm (of_decide_eq_false h165)
      refine c_exit<|d_exit_then<|d_exit_then<|d_exit_block ?_
      replace hm:=nx_out (C:=(fun e : (List GCached)=>m_peer_Accept_j1 e = some r)) hm hnx2 hr2
      exact d_round (l127,A128,c129,ps130) ⟨hm,⟨hc129.1,hc129.2⟩⟩ Nat.zero_lt_one ⟨rfl,trivial⟩ (fun W h=>h.phi (fun W hφ=>⟨(q164 _ hφ),(fun W h=>(f131 W h)) W hφ⟩))
     unfold m_peer_Accept_j1 at hm
     refine d_abs (fun φ96 q96'=>?_)
     have q96 : ∀ W,φ96 W→φ23 W:=fun W h=>(q96' W h).1
     have f95:=fun (W : World) (h : φ96 W)=>(q96' W h).2
     refine d_flat [(13,.slice A92 l91.length c93)] ⟨rfl,trivial⟩ (fun u=>?_)
     refine d_sta ⟨w0,M,H,(100490,⟨.slice A92 l91.length c93,41,9,l91.length,(l91.zip ps94).flatMap GCached.encP⟩)::R,φ96⟩ (fun _ h=>h)<|d_then<|c_seq<|c_region<|g_v rfl r_move<|g_v rfl r_assign<|g_v rfl r_assign<|g_nil<|d_then<|c_ret ?_
     cases hm
     refine d_sta _ (fun W h=>ok_frontR (t:=100490) (t':=2000) h rfl) ?_
     exact d_retC (A92,c93,ps94) Try.results9 (res_tmp (res_tmp (res_nil rfl))) ⟨hc93.1,hc93.2⟩ (fun W h=>h.phi (fun W hφ=>⟨(q23 _ (q96 _ hφ)),(fun W h=>(f95 W h)) W hφ⟩)) (.inr rfl)
    replace hm:=ite_t hm (of_decide_eq_true h8)
    iterate 3 refine g_no rfl rfl rfl rfl rfl h8 ?_
    refine g_v rfl (r_pick1 rfl h8)<|g_nil<|d_then ?_
    refine c_flat [(3,Vi p3),(4,Vi p4),(6,Vp g2),(40,.bool true)] ⟨rfl,rfl,rfl,rfl,trivial⟩ (fun u=>?_)
    refine c_cond1 rfl rfl<|c_seq<|c_region<|g_v rfl r_assign<|g_v rfl r_assign<|g_nil<|d_then<|c_ret<|d_ret_then ?_
    cases hm
    refine d_sta _ (fun W h=>nilR h 12 41 9)<|d_sta _ (fun W h=>ok_frontR (t:=12) (t':=2000) h rfl) ?_
    exact d_retC (none,0,([] : List GCachedP)) Try.results9 (res_tmp (res_tmp (res_nil rfl))) ⟨DOk.nil,(Nat.le_refl 0)⟩ (fun W h=>((h.dropH (t:=100060) rfl).dropH (t:=100050) rfl).phi (fun W hφ=>⟨hφ,(fun W h=>DOwn.nil) W hφ⟩)) (.inr rfl)
   have h7' : p1.fGood = false:=by revert h7; cases p1.fGood <;> simp
   replace hm:=ite_f hm (bool_nt h7')
   iterate 4 refine g_no rfl rfl rfl rfl rfl h7 ?_
   refine g_v rfl (r_pick1 rfl h7)<|g_v rfl r_move ?_
   iterate 4 refine g_no rfl rfl rfl rfl rfl rfl ?_
   refine g_v rfl (r_pick1 rfl rfl)<|g_nil<|d_then ?_
   refine c_flat [(3,Vi p3),(4,Vi p4),(6,Vp g2),(40,.bool true)] ⟨rfl,rfl,rfl,rfl,trivial⟩ (fun u=>?_)
   refine c_cond1 rfl rfl<|c_seq<|c_region<|g_v rfl r_assign<|g_v rfl r_assign<|g_nil<|d_then<|c_ret<|d_ret_then ?_
   cases hm
   refine d_sta _ (fun W h=>nilR h 13 41 9)<|d_sta _ (fun W h=>ok_frontR (t:=13) (t':=2000) h rfl) ?_
   exact d_retC (none,0,([] : List GCachedP)) Try.results9 (res_tmp (res_tmp (res_nil rfl))) ⟨DOk.nil,(Nat.le_refl 0)⟩ (fun W h=>((h.dropH (t:=100060) rfl).dropH (t:=100050) rfl).phi (fun W hφ=>⟨hφ,(fun W h=>DOwn.nil) W hφ⟩)) (.inr rfl)
  replace hm:=ite_t hm (of_decide_eq_true h6)
  refine g_no rfl rfl rfl rfl rfl h6<|g_no rfl rfl rfl rfl rfl h6<|g_v rfl (r_pick1 rfl h6)<|g_v rfl r_move ?_
  iterate 5 refine g_no rfl rfl rfl rfl rfl rfl ?_
  refine g_v rfl (r_pick1 rfl rfl)<|g_v rfl r_move ?_
  iterate 4 refine g_no rfl rfl rfl rfl rfl rfl ?_
  refine g_v rfl (r_pick1 rfl rfl)<|g_nil<|d_then ?_
  refine c_flat [(3,Vi p3),(4,Vi p4),(6,Vp g2),(40,.bool true)] ⟨rfl,rfl,rfl,rfl,trivial⟩ (fun u=>?_)
  refine c_cond1 rfl rfl<|c_seq<|c_region<|g_v rfl r_assign<|g_v rfl r_assign<|g_nil<|d_then<|c_ret<|d_ret_then ?_
  cases hm
  refine d_sta _ (fun W h=>nilR h 14 41 9)<|d_sta _ (fun W h=>ok_frontR (t:=14) (t':=2000) h rfl) ?_
  exact d_retC (none,0,([] : List GCachedP)) Try.results9 (res_tmp (res_tmp (res_nil rfl))) ⟨DOk.nil,(Nat.le_refl 0)⟩ (fun W h=>((h.dropH (t:=100060) rfl).dropH (t:=100050) rfl).phi (fun W hφ=>⟨hφ,(fun W h=>DOwn.nil) W hφ⟩)) (.inr rfl)
 replace hm:=ite_t hm (of_decide_eq_true h3)
 refine g_no rfl rfl rfl rfl rfl h3<|g_no rfl rfl rfl rfl rfl h3<|g_v rfl (r_pick1 rfl h3)<|g_v rfl r_move ?_
 iterate 3 refine g_no rfl rfl rfl rfl rfl rfl ?_
 refine g_v rfl (r_pick1 rfl rfl)<|g_v rfl r_move ?_
 iterate 5 refine g_no rfl rfl rfl rfl rfl rfl ?_
 refine g_v rfl (r_pick1 rfl rfl)<|g_v rfl r_move ?_
 iterate 4 refine g_no rfl rfl rfl rfl rfl rfl ?_
 refine g_v rfl (r_pick1 rfl rfl)<|g_nil<|d_then ?_
 refine c_flat [(3,Vi p3),(4,Vi p4),(6,Vp g2),(40,.bool true)] ⟨rfl,rfl,rfl,rfl,trivial⟩ (fun u=>?_)
 refine c_cond1 rfl rfl<|c_seq<|c_region<|g_v rfl r_assign<|g_v rfl r_assign<|g_nil<|d_then<|c_ret<|d_ret_then ?_
 cases hm
 refine d_sta _ (fun W h=>nilR h 15 41 9)<|d_sta _ (fun W h=>ok_frontR (t:=15) (t':=2000) h rfl) ?_
 exact d_retC (none,0,([] : List GCachedP)) Try.results9 (res_tmp (res_tmp (res_nil rfl))) ⟨DOk.nil,(Nat.le_refl 0)⟩ (fun W h=>((h.dropH (t:=100060) rfl).dropH (t:=100050) rfl).phi (fun W hφ=>⟨hφ,(fun W h=>DOwn.nil) W hφ⟩)) (.inr rfl)
noncomputable def m_law20_awake  : Option Bool:=
  (m_peer_Bytes (⟨4,1,2,(⟨(⟨#[]⟩ : ByteArray),0,0⟩ : GQuestion),false,([] : List GCached),(⟨0,0,0,0,0,0,0,false,([] : List GEntry),([] : List Int),(⟨#[]⟩ : ByteArray)⟩ : GNote),(⟨#[]⟩ : ByteArray)⟩ : GLetter)).bind fun (z4 : ByteArray×Int)=>
  (m_law20_entry 9000).bind fun x6=>
  (m_peer_Accept (⟨1,7,0,(⟨(⟨#[]⟩ : ByteArray),0,0⟩ : GQuestion),false,([] : List GCached),(⟨0,0,0,0,0,0,0,false,([] : List GEntry),([] : List Int),(⟨#[]⟩ : ByteArray)⟩ : GNote),(⟨#[]⟩ : ByteArray)⟩ : GLetter) (⟨2,7,1,(⟨(⟨#[]⟩ : ByteArray),0,0⟩ : GQuestion),true,[x6],(⟨0,0,0,0,0,0,0,false,([] : List GEntry),([] : List Int),(⟨#[]⟩ : ByteArray)⟩ : GNote),(⟨#[]⟩ : ByteArray)⟩ : GLetter) 2 1000 5000).bind fun (z27 : (List GCached)×Bool)=>
  (m_peer_Accept (⟨1,7,0,(⟨(⟨#[]⟩ : ByteArray),0,0⟩ : GQuestion),false,([] : List GCached),(⟨0,0,0,0,0,0,0,false,([] : List GEntry),([] : List Int),(⟨#[]⟩ : ByteArray)⟩ : GNote),(⟨#[]⟩ : ByteArray)⟩ : GLetter) (⟨2,7,1,(⟨(⟨#[]⟩ : ByteArray),0,0⟩ : GQuestion),true,[x6],(⟨0,0,0,0,0,0,0,false,([] : List GEntry),([] : List Int),(⟨#[]⟩ : ByteArray)⟩ : GNote),(⟨#[]⟩ : ByteArray)⟩ : GLetter) 1 1000 5000).bind fun (z37 : (List GCached)×Bool)=>
  if z4.2 = 0 then
    if z4.1 = (⟨#[4,0,0,0,0,0,0,0,1,0,0,0,0,0,0,0,2]⟩ : ByteArray) then
      if z27.2 = true then
        some false
      else
        if z37.2 = true then
          if (z37.1.length : Int) = 1 then
            (at_ z37.1 0).bind fun x43=>
            some (decide (x43.fUntil = 6000))
          else
            some false
        else
          some false
    else
      some false
  else
    some false
theorem c_law20_awake {w0 : World} {M : Nat→Prop} {H : List (Nat×Nat×Obj)} {R : List (Nat×Row)} {φ : World→Prop}  (r : Bool) (hm : m_law20_awake = some r) :
    Cn Try.prog 7 #[] ⟨w0,M,H,R,φ⟩ (fun x : Unit=>.bool r) (fun x=>True) (fun x=>⟨w0,M,H,R,φ⟩):=by
 unfold m_law20_awake at hm
 refine cn_intro (fn:=Try.f7) (N:=55) Try.func7 rfl Try.ntmps7 rfl<|c_seq<|c_region<|g_v rfl r_assign<|g_nil<|d_then<|c_seq<|c_region<|g_v rfl (r_build _ rfl (bld31_0 _ _ _)) ?_
 replace hm:=bnd hm
 obtain ⟨⟨x1,x2⟩,hx3,hm⟩:=hm
 refine g_cn ⟨w0,M,_,_,φ⟩ (fun _ h=>h) Try.call13 rfl rfl (c_peer_Bytes (⟨4,1,2,(⟨eB,0,0⟩ : GQuestion),false,([] : List GCached),(⟨0,0,0,0,0,0,0,false,([] : List GEntry),([] : List Int),eB⟩ : GNote),eB⟩ : GLetter) none 0 ([] : List GCachedP) ⟨DOk.nil,(Nat.le_refl 0)⟩ (fun W _=>Cl.nil _ _) (fun W h=>DOwn.nil) none 0 (Nat.le_refl 0) (fun W _=>Cl.nil _ _) none 0 (Nat.le_refl 0) (fun W _=>Cl.nil _ _) _ hx3) (fun _ _=>?_)
 refine g_v rfl r_move<|g_v rfl (r_extract rfl rfl)<|g_v rfl (r_extract rfl rfl)<|g_v rfl r_assign<|g_v rfl r_assign<|g_nil<|d_then<|c_seq<|c_region<|g_v rfl (r_build _ rfl (bld31_23 _ _)) ?_
 refine g_e rfl (e_alloc 100030 Try.zeroValue31) (fun g5 _=>?_)
 refine g_storeL (tag:=100030) rfl rfl rfl rfl Try.sizeOf31 rfl rfl<|g_nil<|d_then ?_
 refine c_flat [(1,Vs x1),(2,Vi x2),(3,Vp g5)] ⟨rfl,rfl,rfl,trivial⟩ (fun u=>?_)
 refine c_sta ⟨w0,M,(100030,g5,.cells #[Vi 1,Vi 7,Vi 0,Ve,Vu 0,Vu 0,.bool false,V0,Vi 0,Vi 0,Vi 0,Vi 0,Vi 0,Vi 0,Vi 0,.bool false,V0,V0,Ve,Ve] 31 (0,0))::H,R,φ⟩ (fun _ h=>h)<|c_seq<|c_region ?_
 replace hm:=bnd hm
 obtain ⟨x6,hx7,hm⟩:=hm
 refine g_cn ⟨w0,M,_,_,φ⟩ (fun _ h=>h) Try.call17 rfl rfl (c_law20_entry 9000 _ hx7) (fun ⟨A8,c9⟩ hc9=>?_)
 refine g_abs (fun φ11 q11'=>?_)
 have q11 : ∀ W,φ11 W→φ W:=fun W h=>(q11' W h).1
 have f10:=fun (W : World) (h : φ11 W)=>(q11' W h).2
 have hk13:=(DOk.cons (cap:=GCached.capP) (x:=x6) (p:=(⟨A8,c9⟩ : GCachedP)) (hc9) DOk.nil)
 have f14:=fun (W : World) (h : φ11 W)=>(DOwn.cons (own:=GCached.ownP) (x:=x6) (p:=(⟨A8,c9⟩ : GCachedP)) (f10 W h) DOwn.nil)
 refine g_e rfl (e_litD (tag:=100160) (enc:=GCached.encP) (sz:=9) hk13 rfl Try.underlying25 (lit41_27 _ _ _ _ _ _ _ _ _ _ _) rfl rfl (fun _=>rfl)) (fun g12 _=>?_)
 refine g_v rfl (r_build _ rfl (bld31_28 _ _ _ _ _ _ _)) ?_
 refine g_e rfl (e_alloc 100040 Try.zeroValue31) (fun g15 _=>?_)
 refine g_storeL (tag:=100040) rfl rfl rfl rfl Try.sizeOf31 rfl rfl<|g_nil<|d_then<|c_seq<|c_region<|g_v rfl (r_loadA (tag:=100030) rfl rfl Try.isAgg31 Try.sizeOf31 rfl rfl)<|g_v rfl (r_loadA (tag:=100040) rfl rfl Try.isAgg31 Try.sizeOf31 rfl rfl) ?_
 refine g_shut (tag:=100160) rfl (fun φ16 q16'=>?_)
 have q16 : ∀ W,φ16 W→φ11 W:=fun W h=>(q16' W h).1
 have f17:=fun (W : World) (h : φ16 W)=>(q16' W h).2
 replace hm:=bnd hm
 obtain ⟨⟨x18,x19⟩,hx20,hm⟩:=hm
 refine g_cn ⟨w0,M,_,_,φ16⟩ (fun _ h=>h) Try.call9 rfl rfl (c_peer_Accept (⟨1,7,0,(⟨eB,0,0⟩ : GQuestion),false,([] : List GCached),(⟨0,0,0,0,0,0,0,false,([] : List GEntry),([] : List Int),eB⟩ : GNote),eB⟩ : GLetter) none 0 ([] : List GCachedP) ⟨DOk.nil,(Nat.le_refl 0)⟩ (fun W _=>Cl.nil _ _) (fun W hS=>DOwn.nil) none 0 (Nat.le_refl 0) (fun W _=>Cl.nil _ _) none 0 (Nat.le_refl 0) (fun W _=>Cl.nil _ _) (⟨2,7,1,(⟨eB,0,0⟩ : GQuestion),true,[x6],(⟨0,0,0,0,0,0,0,false,([] : List GEntry),([] : List Int),eB⟩ : GNote),eB⟩ : GLetter) (some ⟨g12,0,none⟩) 1 [(⟨A8,c9⟩ : GCachedP)] ⟨hk13,(Nat.le_refl _)⟩ (fun W h=>f17 W h) (fun W h=>(f14 W (q16 _ h))) none 0 (Nat.le_refl 0) (fun W _=>Cl.nil _ _) none 0 (Nat.le_refl 0) (fun W _=>Cl.nil _ _) 2 1000 5000 _ hx20) (fun ⟨A21,c22,ps24⟩ hc22=>?_)
 refine g_sta _ (fun W h=>(ok_frontR (t:=2000) (t':=100210) h rfl)) ?_
 refine g_abs (fun φ26 q26'=>?_)
 have q26 : ∀ W,φ26 W→φ16 W:=fun W h=>(q26' W h).1
 have f25:=fun (W : World) (h : φ26 W)=>(q26' W h).2
 refine g_v rfl r_move<|g_v rfl (r_extract rfl rfl)<|g_v rfl (r_extract rfl rfl)<|g_v rfl r_assign<|g_v rfl r_assign<|g_nil<|d_then ?_
 refine c_flat [(1,Vs x1),(2,Vi x2),(3,Vp g5),(4,Vp g15),(6,.bool x19)] ⟨rfl,rfl,rfl,rfl,rfl,trivial⟩ (fun u=>?_)
 refine c_sta ⟨w0,M,(100040,g15,.cells #[Vi 2,Vi 7,Vi 1,Ve,Vu 0,Vu 0,.bool true,.slice (some ⟨g12,0,none⟩) [x6].length 1,Vi 0,Vi 0,Vi 0,Vi 0,Vi 0,Vi 0,Vi 0,.bool false,V0,V0,Ve,Ve] 31 (0,0))::(100030,g5,.cells #[Vi 1,Vi 7,Vi 0,Ve,Vu 0,Vu 0,.bool false,V0,Vi 0,Vi 0,Vi 0,Vi 0,Vi 0,Vi 0,Vi 0,.bool false,V0,V0,Ve,Ve] 31 (0,0))::H,(100210,⟨.slice A21 x18.length c22,41,9,x18.length,(x18.zip ps24).flatMap GCached.encP⟩)::R,φ26⟩ (fun _ h=>h)<|c_seq<|c_region<|g_v rfl (r_loadA (tag:=100030) rfl rfl Try.isAgg31 Try.sizeOf31 rfl rfl)<|g_v rfl (r_loadA (tag:=100040) rfl rfl Try.isAgg31 Try.sizeOf31 rfl rfl) ?_
 replace hm:=bnd hm
 obtain ⟨⟨x28,x29⟩,hx30,hm⟩:=hm
 refine g_cn ⟨w0,M,_,_,φ26⟩ (fun _ h=>h) Try.call9 rfl rfl (c_peer_Accept (⟨1,7,0,(⟨eB,0,0⟩ : GQuestion),false,([] : List GCached),(⟨0,0,0,0,0,0,0,false,([] : List GEntry),([] : List Int),eB⟩ : GNote),eB⟩ : GLetter) none 0 ([] : List GCachedP) ⟨DOk.nil,(Nat.le_refl 0)⟩ (fun W _=>Cl.nil _ _) (fun W hS=>DOwn.nil) none 0 (Nat.le_refl 0) (fun W _=>Cl.nil _ _) none 0 (Nat.le_refl 0) (fun W _=>Cl.nil _ _) (⟨2,7,1,(⟨eB,0,0⟩ : GQuestion),true,[x6],(⟨0,0,0,0,0,0,0,false,([] : List GEntry),([] : List Int),eB⟩ : GNote),eB⟩ : GLetter) (some ⟨g12,0,none⟩) 1 [(⟨A8,c9⟩ : GCachedP)] ⟨hk13,(Nat.le_refl _)⟩ (fun W h=>f17 W (q26 _ h)) (fun W h=>(f14 W (q16 _ (q26 _ h)))) none 0 (Nat.le_refl 0) (fun W _=>Cl.nil _ _) none 0 (Nat.le_refl 0) (fun W _=>Cl.nil _ _) 1 1000 5000 _ hx30) (fun ⟨A31,c32,ps34⟩ hc32=>?_)
 refine g_sta _ (fun W h=>(ok_frontR (t:=2000) (t':=100270) h rfl)) ?_
 refine g_abs (fun φ36 q36'=>?_)
 have q36 : ∀ W,φ36 W→φ26 W:=fun W h=>(q36' W h).1
 have f35:=fun (W : World) (h : φ36 W)=>(q36' W h).2
 refine g_v rfl r_move<|g_v rfl (r_extract rfl rfl)<|g_v rfl (r_extract rfl rfl)<|g_v rfl r_assign<|g_v rfl r_assign<|g_nil<|d_then<|c_seq<|c_region<|g_v rfl r_move ?_
 refine g_v rfl (r_eql rfl rfl)<|g_v rfl r_move<|g_sta ⟨w0,M,(100040,g15,.cells #[Vi 2,Vi 7,Vi 1,Ve,Vu 0,Vu 0,.bool true,.slice (some ⟨g12,0,none⟩) [x6].length 1,Vi 0,Vi 0,Vi 0,Vi 0,Vi 0,Vi 0,Vi 0,.bool false,V0,V0,Ve,Ve] 31 (0,0))::(100030,g5,.cells #[Vi 1,Vi 7,Vi 0,Ve,Vu 0,Vu 0,.bool false,V0,Vi 0,Vi 0,Vi 0,Vi 0,Vi 0,Vi 0,Vi 0,.bool false,V0,V0,Ve,Ve] 31 (0,0))::H,(100270,⟨.slice A31 x28.length c32,41,9,x28.length,(x28.zip ps34).flatMap GCached.encP⟩)::(100210,⟨.slice A21 x18.length c22,41,9,x18.length,(x18.zip ps24).flatMap GCached.encP⟩)::R,φ36⟩ (fun _ h=>h) ?_
 refine g_if rfl rfl rfl rfl rfl (fun h38=>?_) (fun h38=>?_)
 ·
  replace hm:=ite_t hm (of_decide_eq_true h38)
  refine g_v rfl r_move<|g_do rfl rfl rfl rfl rfl h38<|g_v rfl (r_eqlT rfl rfl)<|g_v rfl (r_pick1 rfl h38)<|g_v rfl r_move ?_
  refine g_if rfl rfl rfl rfl rfl (fun h39=>?_) (fun h39=>?_)
  ·
   replace hm:=ite_t hm (of_decide_eq_true h39)
   refine g_v rfl r_move<|g_do rfl rfl rfl rfl rfl h39<|g_v rfl (r_not rfl)<|g_v rfl (r_pick1 rfl h39)<|g_v rfl r_move ?_
   refine g_if rfl rfl rfl rfl rfl (fun h40=>?_) (fun h40=>?_)
   ·
    have h40' : x19 = false:=by revert h40; cases x19 <;> simp
    replace hm:=ite_f hm (bool_nt h40')
    refine g_v rfl r_move<|g_v rfl (r_pick1 rfl h40)<|g_v rfl r_move ?_
    refine g_if rfl rfl rfl rfl rfl (fun h41=>?_) (fun h41=>?_)
    ·
     replace hm:=ite_t hm h41
     refine g_v rfl r_move<|g_do rfl rfl rfl rfl rfl h41<|g_v rfl (r_lenL Try.underlying25 rfl)<|g_do rfl rfl rfl rfl rfl h41<|g_v rfl (r_eql rfl rfl)<|g_v rfl (r_pick1 rfl h41)<|g_v rfl r_move ?_
     refine g_if rfl rfl rfl rfl rfl (fun h42=>?_) (fun h42=>?_)
     ·
      replace hm:=ite_t hm (of_decide_eq_true h42)
      refine g_v rfl r_move<|g_do rfl rfl rfl rfl rfl h42 ?_
      replace hm:=bnd hm
      obtain ⟨x43,hx43,hm⟩:=hm
      obtain ⟨pp47,hv48,hz49,hcp50⟩:=DOk.at_ hc32.1 hx43
      refine g_know _ (fun W hS=>cl_at (p:=(Sta.ok ⟨w0,M,(100040,g15,.cells #[Vi 2,Vi 7,Vi 1,Ve,Vu 0,Vu 0,.bool true,.slice (some ⟨g12,0,none⟩) [x6].length 1,Vi 0,Vi 0,Vi 0,Vi 0,Vi 0,Vi 0,Vi 0,.bool false,V0,V0,Ve,Ve] 31 (0,0))::(100030,g5,.cells #[Vi 1,Vi 7,Vi 0,Ve,Vu 0,Vu 0,.bool false,V0,Vi 0,Vi 0,Vi 0,Vi 0,Vi 0,Vi 0,Vi 0,.bool false,V0,V0,Ve,Ve] 31 (0,0))::H,(100270,⟨.slice A31 x28.length c32,41,9,x28.length,(x28.zip ps34).flatMap GCached.encP⟩)::(100210,⟨.slice A21 x18.length c22,41,9,x18.length,(x18.zip ps24).flatMap GCached.encP⟩)::R,φ36⟩)) (sz:=9) (fun _=>rfl) (by decide) hS (fun W hS=>rowCl (S:=⟨w0,M,(100040,g15,.cells #[Vi 2,Vi 7,Vi 1,Ve,Vu 0,Vu 0,.bool true,.slice (some ⟨g12,0,none⟩) [x6].length 1,Vi 0,Vi 0,Vi 0,Vi 0,Vi 0,Vi 0,Vi 0,.bool false,V0,V0,Ve,Ve] 31 (0,0))::(100030,g5,.cells #[Vi 1,Vi 7,Vi 0,Ve,Vu 0,Vu 0,.bool false,V0,Vi 0,Vi 0,Vi 0,Vi 0,Vi 0,Vi 0,Vi 0,.bool false,V0,V0,Ve,Ve] 31 (0,0))::H,(100270,⟨.slice A31 x28.length c32,41,9,x28.length,(x28.zip ps34).flatMap GCached.encP⟩)::(100210,⟨.slice A21 x18.length c22,41,9,x18.length,(x18.zip ps24).flatMap GCached.encP⟩)::R,φ36⟩) (tag:=100270) rfl W hS) hv48) ?_
      rintro ⟨ad44,hA46,f45⟩
      have f51:=fun (W : World) (h : φ36 W)=>(f35 W h _ hz49)
      refine g_v rfl (r_ix Try.underlying25 Try.sizeOf41 rfl hA46 rfl hx43)<|g_do rfl rfl rfl rfl rfl h42 ?_
      have f52:=fun (W : World) (h : (Sta.ok ⟨w0,M,(100040,g15,.cells #[Vi 2,Vi 7,Vi 1,Ve,Vu 0,Vu 0,.bool true,.slice (some ⟨g12,0,none⟩) [x6].length 1,Vi 0,Vi 0,Vi 0,Vi 0,Vi 0,Vi 0,Vi 0,.bool false,V0,V0,Ve,Ve] 31 (0,0))::(100030,g5,.cells #[Vi 1,Vi 7,Vi 0,Ve,Vu 0,Vu 0,.bool false,V0,Vi 0,Vi 0,Vi 0,Vi 0,Vi 0,Vi 0,Vi 0,.bool false,V0,V0,Ve,Ve] 31 (0,0))::H,(100270,⟨.slice A31 x28.length c32,41,9,x28.length,(x28.zip ps34).flatMap GCached.encP⟩)::(100210,⟨.slice A21 x18.length c22,41,9,x18.length,(x18.zip ps24).flatMap GCached.encP⟩)::R,φ36⟩) W)=>Cl.drop (f45 W h) 5
      refine g_v rfl (r_fieldF Try.underlying41 rfl Try.sizeOf3 rfl)<|g_do rfl rfl rfl rfl rfl h42<|g_v rfl (r_ld rfl Try.isAgg3 (fun W hS=>Cl.head (f52 W hS)))<|g_do rfl rfl rfl rfl rfl h42<|g_v rfl (r_eql rfl rfl)<|g_v rfl (r_pick1 rfl h42)<|g_v rfl r_assign<|g_nil<|d_then ?_
      refine c_flat [(0,.bool (decide (x43.fUntil = 6000)))] ⟨rfl,trivial⟩ (fun u=>?_)
      refine c_ret ?_
      cases hm
      exact d_retC () Try.results7 (res_tmp (res_nil rfl)) trivial (fun W h=>ok_pre (H1:=[_,_]) (R1:=[_,_]) h (fun W hφ=>(q11 _ (q16 _ (q26 _ (q36 _ hφ)))))) (.inr rfl)
     replace hm:=ite_f hm (of_decide_eq_false h42)
     iterate 4 refine g_no rfl rfl rfl rfl rfl h42 ?_
     refine g_v rfl (r_pick0 rfl h42)<|g_v rfl r_assign<|g_nil<|d_then ?_
     refine c_flat [(0,.bool false)] ⟨rfl,trivial⟩ (fun u=>?_)
     refine c_ret ?_
     cases hm
     exact d_retC () Try.results7 (res_tmp (res_nil rfl)) trivial (fun W h=>ok_pre (H1:=[_,_]) (R1:=[_,_]) h (fun W hφ=>(q11 _ (q16 _ (q26 _ (q36 _ hφ)))))) (.inr rfl)
    replace hm:=ite_f hm (bool_nt h41)
    refine g_no rfl rfl rfl rfl rfl h41<|g_no rfl rfl rfl rfl rfl h41<|g_v rfl (r_pick0 rfl h41)<|g_v rfl r_move ?_
    iterate 5 refine g_no rfl rfl rfl rfl rfl rfl ?_
    refine g_v rfl (r_pick0 rfl rfl)<|g_v rfl r_assign<|g_nil<|d_then ?_
    refine c_flat [(0,.bool false)] ⟨rfl,trivial⟩ (fun u=>?_)
    refine c_ret ?_
    cases hm
    exact d_retC () Try.results7 (res_tmp (res_nil rfl)) trivial (fun W h=>ok_pre (H1:=[_,_]) (R1:=[_,_]) h (fun W hφ=>(q11 _ (q16 _ (q26 _ (q36 _ hφ)))))) (.inr rfl)
   have h40' : x19 = true:=by revert h40; cases x19 <;> simp
   replace hm:=ite_t hm h40'
   refine g_v rfl (r_pick0 rfl h40)<|g_v rfl r_move ?_
   iterate 3 refine g_no rfl rfl rfl rfl rfl rfl ?_
   refine g_v rfl (r_pick0 rfl rfl)<|g_v rfl r_move ?_
   iterate 5 refine g_no rfl rfl rfl rfl rfl rfl ?_
   refine g_v rfl (r_pick0 rfl rfl)<|g_v rfl r_assign<|g_nil<|d_then ?_
   refine c_flat [(0,.bool false)] ⟨rfl,trivial⟩ (fun u=>?_)
   refine c_ret ?_
   cases hm
   exact d_retC () Try.results7 (res_tmp (res_nil rfl)) trivial (fun W h=>ok_pre (H1:=[_,_]) (R1:=[_,_]) h (fun W hφ=>(q11 _ (q16 _ (q26 _ (q36 _ hφ)))))) (.inr rfl)
  replace hm:=ite_f hm (of_decide_eq_false h39)
  refine g_no rfl rfl rfl rfl rfl h39<|g_v rfl (r_pick0 rfl h39)<|g_v rfl r_move<|g_no rfl rfl rfl rfl rfl rfl<|g_v rfl (r_pick0 rfl rfl)<|g_v rfl r_move ?_
  iterate 3 refine g_no rfl rfl rfl rfl rfl rfl ?_
  refine g_v rfl (r_pick0 rfl rfl)<|g_v rfl r_move ?_
  iterate 5 refine g_no rfl rfl rfl rfl rfl rfl ?_
  refine g_v rfl (r_pick0 rfl rfl)<|g_v rfl r_assign<|g_nil<|d_then ?_
  refine c_flat [(0,.bool false)] ⟨rfl,trivial⟩ (fun u=>?_)
  refine c_ret ?_
  cases hm
  exact d_retC () Try.results7 (res_tmp (res_nil rfl)) trivial (fun W h=>ok_pre (H1:=[_,_]) (R1:=[_,_]) h (fun W hφ=>(q11 _ (q16 _ (q26 _ (q36 _ hφ)))))) (.inr rfl)
 replace hm:=ite_f hm (of_decide_eq_false h38)
 refine g_no rfl rfl rfl rfl rfl h38<|g_v rfl (r_pick0 rfl h38)<|g_v rfl r_move<|g_no rfl rfl rfl rfl rfl rfl<|g_no rfl rfl rfl rfl rfl rfl<|g_v rfl (r_pick0 rfl rfl)<|g_v rfl r_move<|g_no rfl rfl rfl rfl rfl rfl<|g_v rfl (r_pick0 rfl rfl)<|g_v rfl r_move ?_
 iterate 3 refine g_no rfl rfl rfl rfl rfl rfl ?_
 refine g_v rfl (r_pick0 rfl rfl)<|g_v rfl r_move ?_
 iterate 5 refine g_no rfl rfl rfl rfl rfl rfl ?_
 refine g_v rfl (r_pick0 rfl rfl)<|g_v rfl r_assign<|g_nil<|d_then ?_
 refine c_flat [(0,.bool false)] ⟨rfl,trivial⟩ (fun u=>?_)
 refine c_ret ?_
 cases hm
 exact d_retC () Try.results7 (res_tmp (res_nil rfl)) trivial (fun W h=>ok_pre (H1:=[_,_]) (R1:=[_,_]) h (fun W hφ=>(q11 _ (q16 _ (q26 _ (q36 _ hφ)))))) (.inr rfl)
noncomputable def m_law20_short (p0 : ByteArray) (p1 : Int) : Option ByteArray:=
  if p1 < (p0.size : Int) then
    (scutHi p0 p1).bind fun s2=>
    some s2
  else
    some p0
theorem c_law20_short {w0 : World} {M : Nat→Prop} {H : List (Nat×Nat×Obj)} {R : List (Nat×Row)} {φ : World→Prop} (p0 : ByteArray) (p1 : Int) (r : ByteArray) (hm : m_law20_short p0 p1 = some r) :
    Cn Try.prog 16 #[Vs p0,Vi p1] ⟨w0,M,H,R,φ⟩ (fun x : Unit=>Vs r) (fun x=>True) (fun x=>⟨w0,M,H,R,φ⟩):=by
 unfold m_law20_short at hm
 refine cn_intro (fn:=Try.f16) (N:=13) Try.func16 rfl Try.ntmps16 rfl<|c_seq<|c_region<|g_v rfl r_assign<|g_nil<|d_then<|c_seq<|c_seq<|c_region<|g_v rfl r_move ?_
 refine g_v rfl (r_len Try.underlying9 rfl)<|g_v rfl r_move<|g_v rfl (r_gtr rfl rfl)<|g_nil<|d_then ?_
 refine c_cond rfl (fun h1=>?_) (fun h1=>?_)
 ·
  replace hm:=ite_t hm (of_decide_eq_true h1)
  refine c_seq<|c_region<|g_v rfl r_move<|g_v rfl r_move ?_
  replace hm:=bnd hm
  obtain ⟨s2,hs2,hm⟩:=hm
  refine g_v rfl (r_scutHi Try.underlying9 rfl rfl hs2)<|g_v rfl r_assign<|g_nil<|d_then ?_
  refine c_flat [(4,Vs s2)] ⟨rfl,trivial⟩ (fun u=>?_)
  refine c_sta ⟨w0,M,H,R,φ⟩ (fun _ h=>h)<|c_ret<|d_ret_then ?_
  cases hm
  exact d_retC () Try.results16 (res_tmp (res_nil rfl)) trivial (fun W h=>ok_pre (H1:=[]) (R1:=[]) h (fun W hφ=>hφ)) (.inr rfl)
 replace hm:=ite_f hm (of_decide_eq_false h1)
 refine c_skip<|d_then<|c_seq<|c_region<|g_v rfl r_move<|g_v rfl r_assign<|g_nil<|d_then<|c_ret ?_
 cases hm
 exact d_retC () Try.results16 (res_tmp (res_nil rfl)) trivial (fun W h=>ok_pre (H1:=[]) (R1:=[]) h (fun W hφ=>hφ)) (.inr rfl)
theorem inf54_31  : (Try.prog.info? 54).map (fun i=>(i.zero,i.size,i.bytes)) = some (some (.agg #[Ve,Vu 0,Vu 0,.int .u32 0,Ve]),5,40):=by kernel_rfl
theorem lit56_32 (z0 : Int) (z1 : Int) (z2 : ByteArray) : Try.prog.builtSlice 56 1 [(0,.agg #[Vi z0,Vi z1,Vs z2])] = some #[Vi z0,Vi z1,Vs z2]:=by kernel_rfl
theorem inf56_33  : (Try.prog.info? 56).map (fun i=>(i.zero,i.size,i.bytes)) = some (some (.agg #[Vi 0,Vi 0,Ve]),3,32):=by kernel_rfl
noncomputable def m_law20_small_j3 (p0 : GLetter) (x3 : ByteArray) (l667 : List GCached) (l761 : List GEntry) (x5 : ByteArray) (l767 : List Int) : Option GLetter:=
  (m_law20_short p0.fNote.fSnap 1000).bind fun x772=>
  some (⟨p0.fKind,p0.fSerial,p0.fEpoch,(⟨x3,p0.fQuestion.fType,p0.fQuestion.fClass⟩ : GQuestion),p0.fGood,l667,(⟨p0.fNote.fKind,p0.fNote.fFrom,p0.fNote.fTo,p0.fNote.fTerm,p0.fNote.fIndex,p0.fNote.fLogTerm,p0.fNote.fCommit,p0.fNote.fGood,l761,l767,x772⟩ : GNote),x5⟩ : GLetter)
noncomputable def m_law20_small_j2 (p0 : GLetter) (x3 : ByteArray) (l667 : List GCached) (x5 : ByteArray) (l761 : List GEntry) : Option GLetter:=
  if 70 < (p0.fNote.fVoters.length : Int) then
    (cutHi p0.fNote.fVoters 70).bind fun l780=>
    m_law20_small_j3 p0 x3 l667 l761 x5 l780
  else
    m_law20_small_j3 p0 x3 l667 l761 x5 p0.fNote.fVoters
noncomputable def m_law20_small_s4 (p0 : GLetter) (l797 : List GEntry) (i800 : Int) : Option (((List GEntry)×Int) ⊕ (List GEntry)):=
  if i800 < (p0.fNote.fEntries.length : Int) then
    if i800 < 20 then
      (at_ p0.fNote.fEntries i800).bind fun x821=>
      (m_law20_short x821.fData 100).bind fun x826=>
      (app 32 l797 [(⟨x821.fTerm,x821.fKind,x826⟩ : GEntry)]).bind fun l829=>
      some (.inl (l829,w64 (i800 + 1)))
    else
      some (.inr l797)
  else
    some (.inr l797)
noncomputable def m_law20_small_j1 (p0 : GLetter) (x3 : ByteArray) (x5 : ByteArray) (l667 : List GCached) : Option GLetter:=
  (loop (fun s=>m_law20_small_s4 p0 s.1 s.2) (([] : List GEntry),0)).bind fun e=>m_law20_small_j2 p0 x3 l667 x5 e
noncomputable def m_law20_small_j6 (l963 : List GCached) (x1104 : GCached) (x1114 : ByteArray) (i968 : Int) (l1214 : List GRR) : Option (((List GCached)×Int) ⊕ (List GCached)):=
  (app 88 l963 [(⟨x1104.fKind,x1114,x1104.fType,x1104.fClass,l1214,x1104.fUntil,x1104.fRank,x1104.fEpoch,x1104.fSource⟩ : GCached)]).bind fun l1222=>
  some (.inl (l1222,w64 (i968 + 1)))
noncomputable def m_law20_small_s7 (x1104 : GCached) (l1246 : List GRR) (i1249 : Int) : Option (((List GRR)×Int) ⊕ (List GRR)):=
  if i1249 < (x1104.fRecords.length : Int) then
    if i1249 < 5 then
      (at_ x1104.fRecords i1249).bind fun x1272=>
      (m_law20_short x1272.fName 300).bind fun x1277=>
      (m_law20_short x1272.fData 600).bind fun x1279=>
      (app 40 l1246 [(⟨x1277,x1272.fType,x1272.fClass,x1272.fTTL,x1279⟩ : GRR)]).bind fun l1282=>
      some (.inl (l1282,w64 (i1249 + 1)))
    else
      some (.inr l1246)
  else
    some (.inr l1246)
noncomputable def m_law20_small_s5 (p0 : GLetter) (l963 : List GCached) (i968 : Int) : Option (((List GCached)×Int) ⊕ (List GCached)):=
  if i968 < (p0.fEntries.length : Int) then
    if i968 < 45 then
      (at_ p0.fEntries i968).bind fun x1104=>
      (m_law20_short x1104.fName 300).bind fun x1114=>
      (loop (fun s=>m_law20_small_s7 x1104 s.1 s.2) (([] : List GRR),0)).bind fun e=>m_law20_small_j6 l963 x1104 x1114 i968 e
    else
      some (.inr l963)
  else
    some (.inr l963)
noncomputable def m_law20_small (p0 : GLetter) : Option GLetter:=
  (m_law20_short p0.fQuestion.fName 300).bind fun x3=>
  (m_law20_short p0.fText 9000).bind fun x5=>
  (loop (fun s=>m_law20_small_s5 p0 s.1 s.2) (([] : List GCached),0)).bind fun e=>m_law20_small_j1 p0 x3 x5 e
theorem c_law20_small {w0 : World} {M : Nat→Prop} {H : List (Nat×Nat×Obj)} {R : List (Nat×Row)} {φ : World→Prop} (p0 : GLetter) (Ap0_0 : Option Addr) (cp0_0 : Nat) (psp0_0 : List GCachedP) (hcp0_0 : (DOk GCached.capP p0.fEntries psp0_0∧p0.fEntries.length ≤ cp0_0)) (fp0_0 : ∀ W,(Sta.mk w0 M H R φ).ok W→Cl W Ap0_0 ((p0.fEntries.zip psp0_0).flatMap GCached.encP)) (fop0_0 : ∀ W,(Sta.mk w0 M H R φ).ok W→DOwn GCached.ownP p0.fEntries psp0_0 W) (Ap0_1 : Option Addr) (cp0_1 : Nat) (hcp0_1 : p0.fNote.fEntries.length ≤ cp0_1) (fp0_1 : ∀ W,(Sta.mk w0 M H R φ).ok W→Cl W Ap0_1 (p0.fNote.fEntries.flatMap GEntry.enc)) (Ap0_2 : Option Addr) (cp0_2 : Nat) (hcp0_2 : p0.fNote.fVoters.length ≤ cp0_2) (fp0_2 : ∀ W,φ W→Cl W Ap0_2 (p0.fNote.fVoters.flatMap (fun x : Int=>[Value.int .i64 x]))) (r : GLetter) (hm : m_law20_small p0 = some r) :
    Cn Try.prog 8 #[.agg #[Vi p0.fKind,Vi p0.fSerial,Vi p0.fEpoch,Vs p0.fQuestion.fName,Vu p0.fQuestion.fType,Vu p0.fQuestion.fClass,.bool p0.fGood,.slice Ap0_0 p0.fEntries.length cp0_0,Vi p0.fNote.fKind,Vi p0.fNote.fFrom,Vi p0.fNote.fTo,Vi p0.fNote.fTerm,Vi p0.fNote.fIndex,Vi p0.fNote.fLogTerm,Vi p0.fNote.fCommit,.bool p0.fNote.fGood,.slice Ap0_1 p0.fNote.fEntries.length cp0_1,.slice Ap0_2 p0.fNote.fVoters.length cp0_2,Vs p0.fNote.fSnap,Vs p0.fText]] ⟨w0,M,H,R,φ⟩ (fun x : Option Addr×Nat×List GCachedP×Option Addr×Nat×Option Addr×Nat=>.agg #[Vi r.fKind,Vi r.fSerial,Vi r.fEpoch,Vs r.fQuestion.fName,Vu r.fQuestion.fType,Vu r.fQuestion.fClass,.bool r.fGood,.slice x.1 r.fEntries.length x.2.1,Vi r.fNote.fKind,Vi r.fNote.fFrom,Vi r.fNote.fTo,Vi r.fNote.fTerm,Vi r.fNote.fIndex,Vi r.fNote.fLogTerm,Vi r.fNote.fCommit,.bool r.fNote.fGood,.slice x.2.2.2.1 r.fNote.fEntries.length x.2.2.2.2.1,.slice x.2.2.2.2.2.1 r.fNote.fVoters.length x.2.2.2.2.2.2,Vs r.fNote.fSnap,Vs r.fText]) (fun x=>(DOk GCached.capP r.fEntries x.2.2.1∧r.fEntries.length ≤ x.2.1)∧r.fNote.fEntries.length ≤ x.2.2.2.2.1∧r.fNote.fVoters.length ≤ x.2.2.2.2.2.2) (fun x=>⟨w0,M,H,R,fun W=>φ W∧Cl W x.1 ((r.fEntries.zip x.2.2.1).flatMap GCached.encP)∧DOwn GCached.ownP r.fEntries x.2.2.1 W∧Cl W x.2.2.2.1 (r.fNote.fEntries.flatMap GEntry.enc)∧Cl W x.2.2.2.2.2.1 (r.fNote.fVoters.flatMap (fun x : Int=>[Value.int .i64 x]))⟩):=by
 unfold m_law20_small at hm
 refine cn_intro (fn:=Try.f8) (N:=125) Try.func8 rfl Try.ntmps8 rfl<|c_seq<|c_region ?_
 refine g_e rfl (e_box 100010 rfl) (fun g1 _=>?_)
 refine g_e rfl (e_alloc 100020 Try.zeroValue31) (fun g2 _=>?_)
 refine g_nil<|d_then<|c_seq<|c_region<|g_v rfl (r_field (n:=3) Try.underlying31 rfl Try.sizeOf24 rfl rfl)<|g_v rfl (r_field (n:=3) Try.underlying24 rfl Try.sizeOf9 rfl rfl)<|g_v rfl (r_load (tag:=100010) rfl rfl rfl Try.isAgg9) ?_
 replace hm:=bnd hm
 obtain ⟨x3,hx4,hm⟩:=hm
 refine g_cn ⟨w0,M,_,_,φ⟩ (fun _ h=>h) Try.call16 rfl rfl (c_law20_short p0.fQuestion.fName 300 _ hx4) (fun _ _=>?_)
 refine g_v rfl (r_field (n:=3) Try.underlying31 rfl Try.sizeOf24 rfl rfl)<|g_v rfl (r_field (n:=3) Try.underlying24 rfl Try.sizeOf9 rfl rfl)<|g_storeL (tag:=100010) rfl rfl rfl rfl Try.sizeOf9 rfl rfl<|g_nil<|d_then ?_
 refine c_flat [(1,Vp g1),(2,Vp g2)] ⟨rfl,rfl,trivial⟩ (fun u=>?_)
 refine c_sta ⟨w0,M,(100020,g2,.cells #[Vi 0,Vi 0,Vi 0,Ve,Vu 0,Vu 0,.bool false,V0,Vi 0,Vi 0,Vi 0,Vi 0,Vi 0,Vi 0,Vi 0,.bool false,V0,V0,Ve,Ve] 31 (0,0))::(100010,g1,.cells #[Vi p0.fKind,Vi p0.fSerial,Vi p0.fEpoch,Vs x3,Vu p0.fQuestion.fType,Vu p0.fQuestion.fClass,.bool p0.fGood,.slice Ap0_0 p0.fEntries.length cp0_0,Vi p0.fNote.fKind,Vi p0.fNote.fFrom,Vi p0.fNote.fTo,Vi p0.fNote.fTerm,Vi p0.fNote.fIndex,Vi p0.fNote.fLogTerm,Vi p0.fNote.fCommit,.bool p0.fNote.fGood,.slice Ap0_1 p0.fNote.fEntries.length cp0_1,.slice Ap0_2 p0.fNote.fVoters.length cp0_2,Vs p0.fNote.fSnap,Vs p0.fText] 31 (0,0))::H,R,φ⟩ (fun _ h=>h)<|c_seq<|c_region<|g_v rfl (r_field (n:=19) Try.underlying31 rfl Try.sizeOf9 rfl rfl)<|g_v rfl (r_load (tag:=100010) rfl rfl rfl Try.isAgg9) ?_
 replace hm:=bnd hm
 obtain ⟨x5,hx6,hm⟩:=hm
 refine g_cn ⟨w0,M,_,_,φ⟩ (fun _ h=>h) Try.call16 rfl rfl (c_law20_short p0.fText 9000 _ hx6) (fun _ _=>?_)
 refine g_v rfl (r_field (n:=19) Try.underlying31 rfl Try.sizeOf9 rfl rfl)<|g_storeL (tag:=100010) rfl rfl rfl rfl Try.sizeOf9 rfl rfl<|g_nil<|d_then<|c_seq<|c_region<|g_v rfl r_assign<|g_nil<|d_then<|c_seq ?_
 refine c_sta _ (fun W h=>nilR h 22 41 9) ?_
 refine c_cut (ι:=(List GCached)×Option Addr×Nat×List GCachedP) [1,2,3] (fun ⟨l667,A668,c669,ps670⟩=>[(3,.slice A668 l667.length c669)]) (fun ⟨l667,A668,c669,ps670⟩=>⟨w0,M,(100020,g2,.cells #[Vi 0,Vi 0,Vi 0,Ve,Vu 0,Vu 0,.bool false,V0,Vi 0,Vi 0,Vi 0,Vi 0,Vi 0,Vi 0,Vi 0,.bool false,V0,V0,Ve,Ve] 31 (0,0))::(100010,g1,.cells #[Vi p0.fKind,Vi p0.fSerial,Vi p0.fEpoch,Vs x3,Vu p0.fQuestion.fType,Vu p0.fQuestion.fClass,.bool p0.fGood,.slice Ap0_0 p0.fEntries.length cp0_0,Vi p0.fNote.fKind,Vi p0.fNote.fFrom,Vi p0.fNote.fTo,Vi p0.fNote.fTerm,Vi p0.fNote.fIndex,Vi p0.fNote.fLogTerm,Vi p0.fNote.fCommit,.bool p0.fNote.fGood,.slice Ap0_1 p0.fNote.fEntries.length cp0_1,.slice Ap0_2 p0.fNote.fVoters.length cp0_2,Vs p0.fNote.fSnap,Vs x5] 31 (0,0))::H,(22,⟨.slice A668 l667.length c669,41,9,l667.length,(l667.zip ps670).flatMap GCached.encP⟩)::R,fun W=>φ W∧DOwn GCached.ownP l667 ps670 W⟩) (fun ⟨l667,A668,c669,ps670⟩=>m_law20_small_j1 p0 x3 x5 l667 = some r∧(DOk GCached.capP l667 ps670∧l667.length ≤ c669)) ?_ (fun ⟨l667,A668,c669,ps670⟩ u ⟨hm,hc669⟩=>?_)
 ·
  refine c_seq<|c_region<|g_v rfl r_assign<|g_nil<|d_then<|c_block ?_
  replace hm:=bnd hm
  obtain ⟨out5,hl5,hr5⟩:=hm
  obtain ⟨n1100',hl5⟩:=loop_lp hl5
  refine c_loopU (ι:=Nat×(List GCached)×Int×Option Addr×Nat×List GCachedP) [1,2,3,4] (fun ⟨n1100,l963,i968,A964,c965,ps966⟩=>[(3,.slice A964 l963.length c965),(4,Vi i968)]) (fun ⟨n1100,l963,i968,A964,c965,ps966⟩=>⟨w0,M,(100020,g2,.cells #[Vi 0,Vi 0,Vi 0,Ve,Vu 0,Vu 0,.bool false,V0,Vi 0,Vi 0,Vi 0,Vi 0,Vi 0,Vi 0,Vi 0,.bool false,V0,V0,Ve,Ve] 31 (0,0))::(100010,g1,.cells #[Vi p0.fKind,Vi p0.fSerial,Vi p0.fEpoch,Vs x3,Vu p0.fQuestion.fType,Vu p0.fQuestion.fClass,.bool p0.fGood,.slice Ap0_0 p0.fEntries.length cp0_0,Vi p0.fNote.fKind,Vi p0.fNote.fFrom,Vi p0.fNote.fTo,Vi p0.fNote.fTerm,Vi p0.fNote.fIndex,Vi p0.fNote.fLogTerm,Vi p0.fNote.fCommit,.bool p0.fNote.fGood,.slice Ap0_1 p0.fNote.fEntries.length cp0_1,.slice Ap0_2 p0.fNote.fVoters.length cp0_2,Vs p0.fNote.fSnap,Vs x5] 31 (0,0))::H,(22,⟨.slice A964 l963.length c965,41,9,l963.length,(l963.zip ps966).flatMap GCached.encP⟩)::R,fun W=>φ W∧DOwn GCached.ownP l963 ps966 W⟩) (fun ⟨n1100,l963,i968,A964,c965,ps966⟩=>Lp (fun s=>m_law20_small_s5 p0 s.1 s.2) n1100 (l963,i968) out5∧(DOk GCached.capP l963 ps966∧l963.length ≤ c965)) (fun ⟨n1100,l963,i968,A964,c965,ps966⟩=>n1100) (n1100',([] : List GCached),0,none,0,([] : List GCachedP)) ⟨hl5,⟨DOk.nil,(Nat.le_refl 0)⟩⟩ ⟨rfl,rfl,rfl,rfl,trivial⟩ (fun W h=>h.phi (fun W hφ=>⟨hφ,(fun W h=>DOwn.nil) W hφ⟩)) (fun ⟨n1100,l963,i968,A964,c965,ps966⟩ u ⟨hlp,hc965⟩=>?_)
  obtain ⟨o5,hm,hnx5⟩:=lp_step hlp
  clear hlp
  replace hm : m_law20_small_s5 p0 l963 i968 = some o5:=hm
  unfold m_law20_small_s5 at hm
  refine c_abs (fun φ1101 q1101'=>?_)
  have q1101 : ∀ W,φ1101 W→φ W:=fun W h=>(q1101' W h).1
  have f967:=fun (W : World) (h : φ1101 W)=>(q1101' W h).2
  refine c_flat [(1,Vp g1),(2,Vp g2),(3,.slice A964 l963.length c965),(4,Vi i968)] ⟨rfl,rfl,rfl,rfl,trivial⟩ (fun u=>?_)
  refine c_sta ⟨w0,M,(100020,g2,.cells #[Vi 0,Vi 0,Vi 0,Ve,Vu 0,Vu 0,.bool false,V0,Vi 0,Vi 0,Vi 0,Vi 0,Vi 0,Vi 0,Vi 0,.bool false,V0,V0,Ve,Ve] 31 (0,0))::(100010,g1,.cells #[Vi p0.fKind,Vi p0.fSerial,Vi p0.fEpoch,Vs x3,Vu p0.fQuestion.fType,Vu p0.fQuestion.fClass,.bool p0.fGood,.slice Ap0_0 p0.fEntries.length cp0_0,Vi p0.fNote.fKind,Vi p0.fNote.fFrom,Vi p0.fNote.fTo,Vi p0.fNote.fTerm,Vi p0.fNote.fIndex,Vi p0.fNote.fLogTerm,Vi p0.fNote.fCommit,.bool p0.fNote.fGood,.slice Ap0_1 p0.fNote.fEntries.length cp0_1,.slice Ap0_2 p0.fNote.fVoters.length cp0_2,Vs p0.fNote.fSnap,Vs x5] 31 (0,0))::H,(22,⟨.slice A964 l963.length c965,41,9,l963.length,(l963.zip ps966).flatMap GCached.encP⟩)::R,φ1101⟩ (fun _ h=>h)<|c_seq<|c_seq<|c_region<|g_v rfl r_move<|g_v rfl (r_field (n:=7) Try.underlying31 rfl Try.sizeOf25 rfl rfl)<|g_v rfl (r_load (tag:=100010) rfl rfl rfl Try.isAgg25)<|g_v rfl (r_lenL Try.underlying25 rfl)<|g_v rfl (r_lss rfl rfl)<|g_v rfl r_move ?_
  refine g_if rfl rfl rfl rfl rfl (fun h1102=>?_) (fun h1102=>?_)
  ·
   replace hm:=ite_t hm (of_decide_eq_true h1102)
   refine g_v rfl r_move<|g_do rfl rfl rfl rfl rfl h1102<|g_v rfl (r_lss rfl rfl)<|g_v rfl (r_pick1 rfl h1102)<|g_nil<|d_then ?_
   refine c_flat [(1,Vp g1),(2,Vp g2),(3,.slice A964 l963.length c965),(4,Vi i968),(30,.bool (decide (i968 < 45)))] ⟨rfl,rfl,rfl,rfl,rfl,trivial⟩ (fun u=>?_)
   refine c_cond rfl (fun h1103=>?_) (fun h1103=>?_)
   ·
    replace hm:=ite_t hm (of_decide_eq_true h1103)
    refine c_skip<|d_then<|c_seq<|c_block<|c_seq<|c_region<|g_v rfl (r_field (n:=7) Try.underlying31 rfl Try.sizeOf25 rfl rfl)<|g_v rfl (r_load (tag:=100010) rfl rfl rfl Try.isAgg25)<|g_v rfl r_move ?_
    replace hm:=bnd hm
    obtain ⟨x1104,hx1104,hm⟩:=hm
    obtain ⟨pp1108,hv1109,hz1110,hcp1111⟩:=DOk.at_ hcp0_0.1 hx1104
    refine g_know _ (fun W hS=>cl_at (p:=(Sta.mk w0 M H R φ).ok) (sz:=9) (fun _=>rfl) (by decide) (ok_pre (H1:=[_,_]) (R1:=[_]) hS (fun W h=>(q1101 _ h))) fp0_0 hv1109) ?_
    rintro ⟨ad1105,hA1107,f1106⟩
    have f1112:=fun (W : World) (h : (Sta.mk w0 M H R φ).ok W)=>(fop0_0 W h _ hz1110)
    refine g_v rfl (r_ix Try.underlying25 Try.sizeOf41 rfl hA1107 rfl hx1104)<|g_v rfl (r_ldA rfl Try.isAgg41 Try.sizeOf41 (fun W hS=>(f1106 W (ok_pre (H1:=[_,_]) (R1:=[_]) hS (fun W h=>(q1101 _ h)))).take 9) rfl) ?_
    refine g_e rfl (e_alloc 100050 Try.zeroValue41) (fun g1113 _=>?_)
    refine g_storeL (tag:=100050) rfl rfl rfl rfl Try.sizeOf41 rfl rfl<|g_nil<|d_then<|c_seq<|c_region<|g_v rfl (r_field (n:=1) Try.underlying41 rfl Try.sizeOf9 rfl rfl)<|g_v rfl (r_load (tag:=100050) rfl rfl rfl Try.isAgg9) ?_
    replace hm:=bnd hm
    obtain ⟨x1114,hx1115,hm⟩:=hm
    refine g_cn ⟨w0,M,_,_,φ1101⟩ (fun _ h=>h) Try.call16 rfl rfl (c_law20_short x1104.fName 300 _ hx1115) (fun _ _=>?_)
    refine g_v rfl (r_field (n:=1) Try.underlying41 rfl Try.sizeOf9 rfl rfl)<|g_storeL (tag:=100050) rfl rfl rfl rfl Try.sizeOf9 rfl rfl<|g_nil<|d_then ?_
    refine c_flat [(1,Vp g1),(2,Vp g2),(3,.slice A964 l963.length c965),(4,Vi i968),(5,Vp g1113)] ⟨rfl,rfl,rfl,rfl,rfl,trivial⟩ (fun u=>?_)
    refine c_sta ⟨w0,M,(100050,g1113,.cells #[Vi x1104.fKind,Vs x1114,Vu x1104.fType,Vu x1104.fClass,.slice pp1108.pA0 x1104.fRecords.length pp1108.pC0,Vi x1104.fUntil,Vi x1104.fRank,Vi x1104.fEpoch,Vi x1104.fSource] 41 (0,0))::(100020,g2,.cells #[Vi 0,Vi 0,Vi 0,Ve,Vu 0,Vu 0,.bool false,V0,Vi 0,Vi 0,Vi 0,Vi 0,Vi 0,Vi 0,Vi 0,.bool false,V0,V0,Ve,Ve] 31 (0,0))::(100010,g1,.cells #[Vi p0.fKind,Vi p0.fSerial,Vi p0.fEpoch,Vs x3,Vu p0.fQuestion.fType,Vu p0.fQuestion.fClass,.bool p0.fGood,.slice Ap0_0 p0.fEntries.length cp0_0,Vi p0.fNote.fKind,Vi p0.fNote.fFrom,Vi p0.fNote.fTo,Vi p0.fNote.fTerm,Vi p0.fNote.fIndex,Vi p0.fNote.fLogTerm,Vi p0.fNote.fCommit,.bool p0.fNote.fGood,.slice Ap0_1 p0.fNote.fEntries.length cp0_1,.slice Ap0_2 p0.fNote.fVoters.length cp0_2,Vs p0.fNote.fSnap,Vs x5] 31 (0,0))::H,(22,⟨.slice A964 l963.length c965,41,9,l963.length,(l963.zip ps966).flatMap GCached.encP⟩)::R,φ1101⟩ (fun _ h=>h)<|c_seq<|c_region<|g_v rfl r_assign<|g_nil<|d_then<|c_seq<|c_sta _ (fun W h=>nilR h 40 54 5) ?_
    refine c_cut (ι:=(List GRR)×Option Addr×Nat) [1,2,3,4,5,6] (fun ⟨l1214,A1215,c1216⟩=>[(6,.slice A1215 l1214.length c1216)]) (fun ⟨l1214,A1215,c1216⟩=>⟨w0,M,(100050,g1113,.cells #[Vi x1104.fKind,Vs x1114,Vu x1104.fType,Vu x1104.fClass,.slice pp1108.pA0 x1104.fRecords.length pp1108.pC0,Vi x1104.fUntil,Vi x1104.fRank,Vi x1104.fEpoch,Vi x1104.fSource] 41 (0,0))::(100020,g2,.cells #[Vi 0,Vi 0,Vi 0,Ve,Vu 0,Vu 0,.bool false,V0,Vi 0,Vi 0,Vi 0,Vi 0,Vi 0,Vi 0,Vi 0,.bool false,V0,V0,Ve,Ve] 31 (0,0))::(100010,g1,.cells #[Vi p0.fKind,Vi p0.fSerial,Vi p0.fEpoch,Vs x3,Vu p0.fQuestion.fType,Vu p0.fQuestion.fClass,.bool p0.fGood,.slice Ap0_0 p0.fEntries.length cp0_0,Vi p0.fNote.fKind,Vi p0.fNote.fFrom,Vi p0.fNote.fTo,Vi p0.fNote.fTerm,Vi p0.fNote.fIndex,Vi p0.fNote.fLogTerm,Vi p0.fNote.fCommit,.bool p0.fNote.fGood,.slice Ap0_1 p0.fNote.fEntries.length cp0_1,.slice Ap0_2 p0.fNote.fVoters.length cp0_2,Vs p0.fNote.fSnap,Vs x5] 31 (0,0))::H,(40,⟨.slice A1215 l1214.length c1216,54,5,l1214.length,l1214.flatMap GRR.enc⟩)::(22,⟨.slice A964 l963.length c965,41,9,l963.length,(l963.zip ps966).flatMap GCached.encP⟩)::R,φ1101⟩) (fun ⟨l1214,A1215,c1216⟩=>m_law20_small_j6 l963 x1104 x1114 i968 l1214 = some o5∧l1214.length ≤ c1216) ?_ (fun ⟨l1214,A1215,c1216⟩ u ⟨hm,hc1216⟩=>?_)
    ·
     refine c_seq<|c_region<|g_v rfl r_assign<|g_nil<|d_then<|c_block ?_
     replace hm:=bnd hm
     obtain ⟨out7,hl7,hr7⟩:=hm
     obtain ⟨n1269',hl7⟩:=loop_lp hl7
     refine c_loopU (ι:=Nat×(List GRR)×Int×Option Addr×Nat) [1,2,3,4,5,6,7] (fun ⟨n1269,l1246,i1249,A1247,c1248⟩=>[(6,.slice A1247 l1246.length c1248),(7,Vi i1249)]) (fun ⟨n1269,l1246,i1249,A1247,c1248⟩=>⟨w0,M,(100050,g1113,.cells #[Vi x1104.fKind,Vs x1114,Vu x1104.fType,Vu x1104.fClass,.slice pp1108.pA0 x1104.fRecords.length pp1108.pC0,Vi x1104.fUntil,Vi x1104.fRank,Vi x1104.fEpoch,Vi x1104.fSource] 41 (0,0))::(100020,g2,.cells #[Vi 0,Vi 0,Vi 0,Ve,Vu 0,Vu 0,.bool false,V0,Vi 0,Vi 0,Vi 0,Vi 0,Vi 0,Vi 0,Vi 0,.bool false,V0,V0,Ve,Ve] 31 (0,0))::(100010,g1,.cells #[Vi p0.fKind,Vi p0.fSerial,Vi p0.fEpoch,Vs x3,Vu p0.fQuestion.fType,Vu p0.fQuestion.fClass,.bool p0.fGood,.slice Ap0_0 p0.fEntries.length cp0_0,Vi p0.fNote.fKind,Vi p0.fNote.fFrom,Vi p0.fNote.fTo,Vi p0.fNote.fTerm,Vi p0.fNote.fIndex,Vi p0.fNote.fLogTerm,Vi p0.fNote.fCommit,.bool p0.fNote.fGood,.slice Ap0_1 p0.fNote.fEntries.length cp0_1,.slice Ap0_2 p0.fNote.fVoters.length cp0_2,Vs p0.fNote.fSnap,Vs x5] 31 (0,0))::H,(40,⟨.slice A1247 l1246.length c1248,54,5,l1246.length,l1246.flatMap GRR.enc⟩)::(22,⟨.slice A964 l963.length c965,41,9,l963.length,(l963.zip ps966).flatMap GCached.encP⟩)::R,φ1101⟩) (fun ⟨n1269,l1246,i1249,A1247,c1248⟩=>Lp (fun s=>m_law20_small_s7 x1104 s.1 s.2) n1269 (l1246,i1249) out7∧l1246.length ≤ c1248) (fun ⟨n1269,l1246,i1249,A1247,c1248⟩=>n1269) (n1269',([] : List GRR),0,none,0) ⟨hl7,(Nat.le_refl 0)⟩ ⟨rfl,rfl,rfl,rfl,rfl,rfl,rfl,trivial⟩ (fun W h=>h.phi (fun W hφ=>hφ)) (fun ⟨n1269,l1246,i1249,A1247,c1248⟩ u ⟨hlp,hc1248⟩=>?_)
     obtain ⟨o7,hm,hnx7⟩:=lp_step hlp
     clear hlp
     replace hm : m_law20_small_s7 x1104 l1246 i1249 = some o7:=hm
     unfold m_law20_small_s7 at hm
     refine c_flat [(1,Vp g1),(2,Vp g2),(3,.slice A964 l963.length c965),(4,Vi i968),(5,Vp g1113),(6,.slice A1247 l1246.length c1248),(7,Vi i1249)] ⟨rfl,rfl,rfl,rfl,rfl,rfl,rfl,trivial⟩ (fun u=>?_)
     refine c_sta ⟨w0,M,(100050,g1113,.cells #[Vi x1104.fKind,Vs x1114,Vu x1104.fType,Vu x1104.fClass,.slice pp1108.pA0 x1104.fRecords.length pp1108.pC0,Vi x1104.fUntil,Vi x1104.fRank,Vi x1104.fEpoch,Vi x1104.fSource] 41 (0,0))::(100020,g2,.cells #[Vi 0,Vi 0,Vi 0,Ve,Vu 0,Vu 0,.bool false,V0,Vi 0,Vi 0,Vi 0,Vi 0,Vi 0,Vi 0,Vi 0,.bool false,V0,V0,Ve,Ve] 31 (0,0))::(100010,g1,.cells #[Vi p0.fKind,Vi p0.fSerial,Vi p0.fEpoch,Vs x3,Vu p0.fQuestion.fType,Vu p0.fQuestion.fClass,.bool p0.fGood,.slice Ap0_0 p0.fEntries.length cp0_0,Vi p0.fNote.fKind,Vi p0.fNote.fFrom,Vi p0.fNote.fTo,Vi p0.fNote.fTerm,Vi p0.fNote.fIndex,Vi p0.fNote.fLogTerm,Vi p0.fNote.fCommit,.bool p0.fNote.fGood,.slice Ap0_1 p0.fNote.fEntries.length cp0_1,.slice Ap0_2 p0.fNote.fVoters.length cp0_2,Vs p0.fNote.fSnap,Vs x5] 31 (0,0))::H,(40,⟨.slice A1247 l1246.length c1248,54,5,l1246.length,l1246.flatMap GRR.enc⟩)::(22,⟨.slice A964 l963.length c965,41,9,l963.length,(l963.zip ps966).flatMap GCached.encP⟩)::R,φ1101⟩ (fun _ h=>h)<|c_seq<|c_seq<|c_region<|g_v rfl r_move<|g_v rfl (r_field (n:=4) Try.underlying41 rfl Try.sizeOf39 rfl rfl)<|g_v rfl (r_load (tag:=100050) rfl rfl rfl Try.isAgg39)<|g_v rfl (r_lenL Try.underlying39 rfl)<|g_v rfl (r_lss rfl rfl)<|g_v rfl r_move ?_
     refine g_if rfl rfl rfl rfl rfl (fun h1270=>?_) (fun h1270=>?_)
     ·
      replace hm:=ite_t hm (of_decide_eq_true h1270)
      refine g_v rfl r_move<|g_do rfl rfl rfl rfl rfl h1270<|g_v rfl (r_lss rfl rfl)<|g_v rfl (r_pick1 rfl h1270)<|g_nil<|d_then ?_
      refine c_flat [(1,Vp g1),(2,Vp g2),(3,.slice A964 l963.length c965),(4,Vi i968),(5,Vp g1113),(6,.slice A1247 l1246.length c1248),(7,Vi i1249),(50,.bool (decide (i1249 < 5)))] ⟨rfl,rfl,rfl,rfl,rfl,rfl,rfl,rfl,trivial⟩ (fun u=>?_)
      refine c_cond rfl (fun h1271=>?_) (fun h1271=>?_)
      ·
       replace hm:=ite_t hm (of_decide_eq_true h1271)
       refine c_skip<|d_then<|c_seq<|c_block<|c_seq<|c_region<|g_v rfl (r_field (n:=4) Try.underlying41 rfl Try.sizeOf39 rfl rfl)<|g_v rfl (r_load (tag:=100050) rfl rfl rfl Try.isAgg39)<|g_v rfl r_move ?_
       replace hm:=bnd hm
       obtain ⟨x1272,hx1272,hm⟩:=hm
       refine g_know _ (fun W hS=>cl_at (p:=(Sta.mk w0 M H R φ).ok) (sz:=5) (fun _=>rfl) (by decide) (ok_pre (H1:=[_,_,_]) (R1:=[_,_]) hS (fun W h=>(q1101 _ h))) f1112 hx1272) ?_
       rintro ⟨ad1273,hA1275,f1274⟩
       refine g_v rfl (r_ix Try.underlying39 Try.sizeOf54 rfl hA1275 rfl hx1272)<|g_v rfl (r_ldA rfl Try.isAgg54 Try.sizeOf54 (fun W hS=>(f1274 W (ok_pre (H1:=[_,_,_]) (R1:=[_,_]) hS (fun W h=>(q1101 _ h)))).take 5) rfl) ?_
       refine g_e rfl (e_alloc 100080 Try.zeroValue54) (fun g1276 _=>?_)
       refine g_storeL (tag:=100080) rfl rfl rfl rfl Try.sizeOf54 rfl rfl<|g_nil<|d_then<|c_seq<|c_region<|g_v rfl (r_field (n:=0) Try.underlying54 rfl Try.sizeOf9 rfl rfl)<|g_v rfl (r_load (tag:=100080) rfl rfl rfl Try.isAgg9) ?_
       replace hm:=bnd hm
       obtain ⟨x1277,hx1278,hm⟩:=hm
       refine g_cn ⟨w0,M,_,_,φ1101⟩ (fun _ h=>h) Try.call16 rfl rfl (c_law20_short x1272.fName 300 _ hx1278) (fun _ _=>?_)
       refine g_v rfl (r_field (n:=0) Try.underlying54 rfl Try.sizeOf9 rfl rfl)<|g_storeL (tag:=100080) rfl rfl rfl rfl Try.sizeOf9 rfl rfl<|g_nil<|d_then ?_
       refine c_flat [(1,Vp g1),(2,Vp g2),(3,.slice A964 l963.length c965),(4,Vi i968),(5,Vp g1113),(6,.slice A1247 l1246.length c1248),(7,Vi i1249),(8,Vp g1276)] ⟨rfl,rfl,rfl,rfl,rfl,rfl,rfl,rfl,trivial⟩ (fun u=>?_)
       refine c_sta ⟨w0,M,(100080,g1276,.cells #[Vs x1277,Vu x1272.fType,Vu x1272.fClass,.int .u32 x1272.fTTL,Vs x1272.fData] 54 (0,0))::(100050,g1113,.cells #[Vi x1104.fKind,Vs x1114,Vu x1104.fType,Vu x1104.fClass,.slice pp1108.pA0 x1104.fRecords.length pp1108.pC0,Vi x1104.fUntil,Vi x1104.fRank,Vi x1104.fEpoch,Vi x1104.fSource] 41 (0,0))::(100020,g2,.cells #[Vi 0,Vi 0,Vi 0,Ve,Vu 0,Vu 0,.bool false,V0,Vi 0,Vi 0,Vi 0,Vi 0,Vi 0,Vi 0,Vi 0,.bool false,V0,V0,Ve,Ve] 31 (0,0))::(100010,g1,.cells #[Vi p0.fKind,Vi p0.fSerial,Vi p0.fEpoch,Vs x3,Vu p0.fQuestion.fType,Vu p0.fQuestion.fClass,.bool p0.fGood,.slice Ap0_0 p0.fEntries.length cp0_0,Vi p0.fNote.fKind,Vi p0.fNote.fFrom,Vi p0.fNote.fTo,Vi p0.fNote.fTerm,Vi p0.fNote.fIndex,Vi p0.fNote.fLogTerm,Vi p0.fNote.fCommit,.bool p0.fNote.fGood,.slice Ap0_1 p0.fNote.fEntries.length cp0_1,.slice Ap0_2 p0.fNote.fVoters.length cp0_2,Vs p0.fNote.fSnap,Vs x5] 31 (0,0))::H,(40,⟨.slice A1247 l1246.length c1248,54,5,l1246.length,l1246.flatMap GRR.enc⟩)::(22,⟨.slice A964 l963.length c965,41,9,l963.length,(l963.zip ps966).flatMap GCached.encP⟩)::R,φ1101⟩ (fun _ h=>h)<|c_seq<|c_region<|g_v rfl (r_field (n:=4) Try.underlying54 rfl Try.sizeOf9 rfl rfl)<|g_v rfl (r_load (tag:=100080) rfl rfl rfl Try.isAgg9) ?_
       replace hm:=bnd hm
       obtain ⟨x1279,hx1280,hm⟩:=hm
       refine g_cn ⟨w0,M,_,_,φ1101⟩ (fun _ h=>h) Try.call16 rfl rfl (c_law20_short x1272.fData 600 _ hx1280) (fun _ _=>?_)
       refine g_v rfl (r_field (n:=4) Try.underlying54 rfl Try.sizeOf9 rfl rfl)<|g_storeL (tag:=100080) rfl rfl rfl rfl Try.sizeOf9 rfl rfl<|g_nil<|d_then<|c_region<|g_v rfl r_move<|g_v rfl (r_loadA (tag:=100080) rfl rfl Try.isAgg54 Try.sizeOf54 rfl rfl) ?_
       refine g_e rfl (e_lit (tag:=100680) (l:=[(⟨x1277,x1272.fType,x1272.fClass,x1272.fTTL,x1279⟩ : GRR)]) (enc:=GRR.enc) (sz:=5) rfl Try.underlying39 (lit54_25 _ _ _ _ _) rfl rfl (fun _=>rfl)) (fun g1281 _=>?_)
       replace hm:=bnd hm
       obtain ⟨l1282,hl1282,hm⟩:=hm
       refine g_e rfl (e_appR (enc:=GRR.enc) (l:=l1246) (l1:=[(⟨x1277,x1272.fType,x1272.fClass,x1272.fTTL,x1279⟩ : GRR)]) (l2:=l1282) (tag:=40) Try.underlying39 inf54_31 rfl (by decide) (by decide) (fun _=>rfl) (fun _=>rfl) rfl hc1248 rfl rfl (fun W hS=>rowCl (tag:=100680) rfl W hS) hl1282) (fun ⟨A1283,c1284⟩ hc1284=>?_)
       refine g_v rfl r_assign<|g_nil<|d_normal_block<|d_then ?_
       refine c_flat [(1,Vp g1),(2,Vp g2),(3,.slice A964 l963.length c965),(4,Vi i968),(5,Vp g1113),(6,.slice A1283 l1282.length c1284),(7,Vi i1249)] ⟨rfl,rfl,rfl,rfl,rfl,rfl,rfl,trivial⟩ (fun u=>?_)
       refine c_sta ⟨w0,M,(100080,g1276,.cells #[Vs x1277,Vu x1272.fType,Vu x1272.fClass,.int .u32 x1272.fTTL,Vs x1279] 54 (0,0))::(100050,g1113,.cells #[Vi x1104.fKind,Vs x1114,Vu x1104.fType,Vu x1104.fClass,.slice pp1108.pA0 x1104.fRecords.length pp1108.pC0,Vi x1104.fUntil,Vi x1104.fRank,Vi x1104.fEpoch,Vi x1104.fSource] 41 (0,0))::(100020,g2,.cells #[Vi 0,Vi 0,Vi 0,Ve,Vu 0,Vu 0,.bool false,V0,Vi 0,Vi 0,Vi 0,Vi 0,Vi 0,Vi 0,Vi 0,.bool false,V0,V0,Ve,Ve] 31 (0,0))::(100010,g1,.cells #[Vi p0.fKind,Vi p0.fSerial,Vi p0.fEpoch,Vs x3,Vu p0.fQuestion.fType,Vu p0.fQuestion.fClass,.bool p0.fGood,.slice Ap0_0 p0.fEntries.length cp0_0,Vi p0.fNote.fKind,Vi p0.fNote.fFrom,Vi p0.fNote.fTo,Vi p0.fNote.fTerm,Vi p0.fNote.fIndex,Vi p0.fNote.fLogTerm,Vi p0.fNote.fCommit,.bool p0.fNote.fGood,.slice Ap0_1 p0.fNote.fEntries.length cp0_1,.slice Ap0_2 p0.fNote.fVoters.length cp0_2,Vs p0.fNote.fSnap,Vs x5] 31 (0,0))::H,(100680,⟨.slice (some ⟨g1281,0,none⟩) [(⟨x1277,x1272.fType,x1272.fClass,x1272.fTTL,x1279⟩ : GRR)].length 1,54,5,[(⟨x1277,x1272.fType,x1272.fClass,x1272.fTTL,x1279⟩ : GRR)].length,[(⟨x1277,x1272.fType,x1272.fClass,x1272.fTTL,x1279⟩ : GRR)].flatMap GRR.enc⟩)::(40,⟨.slice A1283 l1282.length c1284,54,5,l1282.length,l1282.flatMap GRR.enc⟩)::(22,⟨.slice A964 l963.length c965,41,9,l963.length,(l963.zip ps966).flatMap GCached.encP⟩)::R,φ1101⟩ (fun _ h=>h)<|c_region<|g_v rfl r_move<|g_v rfl (r_add rfl rfl rfl)<|g_v rfl r_assign<|g_nil ?_
       obtain ⟨n1285,hn1285,hlp⟩:=nx_inl hm hnx7
       exact d_round (n1285,l1282,w64 (i1249 + 1),A1283,c1284) ⟨hlp,hc1284⟩ hn1285 ⟨rfl,rfl,rfl,rfl,rfl,rfl,rfl,trivial⟩ (fun W h=>((h.dropR (t:=100680) rfl).dropH (t:=100080) rfl).phi (fun W hφ=>hφ))
      replace hm:=ite_f hm (of_decide_eq_false h1271)
      refine c_exit<|d_exit_then<|d_exit_then<|d_exit_block ?_
      replace hm:=nx_out (C:=(fun e : (List GRR)=>m_law20_small_j6 l963 x1104 x1114 i968 e = some o5)) hm hnx7 hr7
      exact d_round (l1246,A1247,c1248) ⟨hm,hc1248⟩ Nat.zero_lt_one ⟨rfl,rfl,rfl,rfl,rfl,rfl,trivial⟩ (fun W h=>h.phi (fun W hφ=>hφ))
     replace hm:=ite_f hm (of_decide_eq_false h1270)
     refine g_no rfl rfl rfl rfl rfl h1270<|g_v rfl (r_pick0 rfl h1270)<|g_nil<|d_then<|c_cond0 rfl rfl<|c_exit<|d_exit_then<|d_exit_then<|d_exit_block ?_
     replace hm:=nx_out (C:=(fun e : (List GRR)=>m_law20_small_j6 l963 x1104 x1114 i968 e = some o5)) hm hnx7 hr7
     exact d_round (l1246,A1247,c1248) ⟨hm,hc1248⟩ Nat.zero_lt_one ⟨rfl,rfl,rfl,rfl,rfl,rfl,trivial⟩ (fun W h=>h.phi (fun W hφ=>hφ))
    unfold m_law20_small_j6 at hm
    refine d_flat [(1,Vp g1),(2,Vp g2),(3,.slice A964 l963.length c965),(4,Vi i968),(5,Vp g1113),(6,.slice A1215 l1214.length c1216)] ⟨rfl,rfl,rfl,rfl,rfl,rfl,trivial⟩ (fun u=>?_)
    refine d_sta ⟨w0,M,(100050,g1113,.cells #[Vi x1104.fKind,Vs x1114,Vu x1104.fType,Vu x1104.fClass,.slice pp1108.pA0 x1104.fRecords.length pp1108.pC0,Vi x1104.fUntil,Vi x1104.fRank,Vi x1104.fEpoch,Vi x1104.fSource] 41 (0,0))::(100020,g2,.cells #[Vi 0,Vi 0,Vi 0,Ve,Vu 0,Vu 0,.bool false,V0,Vi 0,Vi 0,Vi 0,Vi 0,Vi 0,Vi 0,Vi 0,.bool false,V0,V0,Ve,Ve] 31 (0,0))::(100010,g1,.cells #[Vi p0.fKind,Vi p0.fSerial,Vi p0.fEpoch,Vs x3,Vu p0.fQuestion.fType,Vu p0.fQuestion.fClass,.bool p0.fGood,.slice Ap0_0 p0.fEntries.length cp0_0,Vi p0.fNote.fKind,Vi p0.fNote.fFrom,Vi p0.fNote.fTo,Vi p0.fNote.fTerm,Vi p0.fNote.fIndex,Vi p0.fNote.fLogTerm,Vi p0.fNote.fCommit,.bool p0.fNote.fGood,.slice Ap0_1 p0.fNote.fEntries.length cp0_1,.slice Ap0_2 p0.fNote.fVoters.length cp0_2,Vs p0.fNote.fSnap,Vs x5] 31 (0,0))::H,(40,⟨.slice A1215 l1214.length c1216,54,5,l1214.length,l1214.flatMap GRR.enc⟩)::(22,⟨.slice A964 l963.length c965,41,9,l963.length,(l963.zip ps966).flatMap GCached.encP⟩)::R,φ1101⟩ (fun _ h=>h)<|d_then<|c_seq<|c_region<|g_v rfl r_move<|g_v rfl (r_field (n:=4) Try.underlying41 rfl Try.sizeOf39 rfl rfl)<|g_storeL (tag:=100050) rfl rfl rfl rfl Try.sizeOf39 rfl rfl<|g_nil<|d_then<|c_region ?_
    refine g_v rfl r_move<|g_v rfl (r_loadA (tag:=100050) rfl rfl Try.isAgg41 Try.sizeOf41 rfl rfl) ?_
    refine g_shut (tag:=40) rfl (fun φ1217 q1217'=>?_)
    have q1217 : ∀ W,φ1217 W→φ1101 W:=fun W h=>(q1217' W h).1
    have f1218:=fun (W : World) (h : φ1217 W)=>(q1217' W h).2
    have hk1220:=(DOk.cons (cap:=GCached.capP) (x:=(⟨x1104.fKind,x1114,x1104.fType,x1104.fClass,l1214,x1104.fUntil,x1104.fRank,x1104.fEpoch,x1104.fSource⟩ : GCached)) (p:=(⟨A1215,c1216⟩ : GCachedP)) (hc1216) DOk.nil)
    have f1221:=fun (W : World) (h : φ1217 W)=>(DOwn.cons (own:=GCached.ownP) (x:=(⟨x1104.fKind,x1114,x1104.fType,x1104.fClass,l1214,x1104.fUntil,x1104.fRank,x1104.fEpoch,x1104.fSource⟩ : GCached)) (p:=(⟨A1215,c1216⟩ : GCachedP)) (f1218 W h) DOwn.nil)
    refine g_e rfl (e_litD (tag:=100740) (enc:=GCached.encP) (sz:=9) hk1220 rfl Try.underlying25 (lit41_27 _ _ _ _ _ _ _ _ _ _ _) rfl rfl (fun _=>rfl)) (fun g1219 _=>?_)
    replace hm:=bnd hm
    obtain ⟨l1222,hl1222,hm⟩:=hm
    have hk1225:=DOk.app (cap:=GCached.capP) hc965.1 hk1220 hl1222
    have f1226:=fun (W : World) (h : φ1217 W)=>DOwn.app (own:=GCached.ownP) (cap:=GCached.capP) hc965.1 hl1222 (f967 W (q1217 _ h)) (f1221 W h)
    refine g_e rfl (e_appRD (enc:=GCached.encP) (l:=l963) (l1:=[(⟨x1104.fKind,x1114,x1104.fType,x1104.fClass,l1214,x1104.fUntil,x1104.fRank,x1104.fEpoch,x1104.fSource⟩ : GCached)]) (l2:=l1222) (tag:=22) hc965.1 hk1220 Try.underlying25 inf41_30 rfl (by decide) (by decide) (fun _=>rfl) (fun _=>rfl) rfl hc965.2 rfl rfl (fun W hS=>rowCl (tag:=100740) rfl W hS) hl1222) (fun ⟨A1223,c1224⟩ hc1224=>?_)
    refine g_v rfl r_assign<|g_nil<|d_normal_block<|d_then<|c_region<|g_v rfl r_move<|g_v rfl (r_add rfl rfl rfl)<|g_v rfl r_assign<|g_nil ?_
    obtain ⟨n1227,hn1227,hlp⟩:=nx_inl hm hnx5
    exact d_round (n1227,l1222,w64 (i968 + 1),A1223,c1224,(ps966++[(⟨A1215,c1216⟩ : GCachedP)])) ⟨hlp,⟨hk1225,hc1224⟩⟩ hn1227 ⟨rfl,rfl,rfl,rfl,trivial⟩ (fun W h=>((h.dropR (t:=100740) rfl).dropH (t:=100050) rfl).phi (fun W hφ=>⟨(q1101 _ (q1217 _ hφ)),(fun W h=>(f1226 W h)) W hφ⟩))
   replace hm:=ite_f hm (of_decide_eq_false h1103)
   refine c_exit<|d_exit_then<|d_exit_then<|d_exit_block ?_
   replace hm:=nx_out (C:=(fun e : (List GCached)=>m_law20_small_j1 p0 x3 x5 e = some r)) hm hnx5 hr5
   exact d_round (l963,A964,c965,ps966) ⟨hm,⟨hc965.1,hc965.2⟩⟩ Nat.zero_lt_one ⟨rfl,rfl,rfl,trivial⟩ (fun W h=>h.phi (fun W hφ=>⟨(q1101 _ hφ),(fun W h=>(f967 W h)) W hφ⟩))
  replace hm:=ite_f hm (of_decide_eq_false h1102)
  refine g_no rfl rfl rfl rfl rfl h1102<|g_v rfl (r_pick0 rfl h1102)<|g_nil<|d_then<|c_cond0 rfl rfl<|c_exit<|d_exit_then<|d_exit_then<|d_exit_block ?_
  replace hm:=nx_out (C:=(fun e : (List GCached)=>m_law20_small_j1 p0 x3 x5 e = some r)) hm hnx5 hr5
  exact d_round (l963,A964,c965,ps966) ⟨hm,⟨hc965.1,hc965.2⟩⟩ Nat.zero_lt_one ⟨rfl,rfl,rfl,trivial⟩ (fun W h=>h.phi (fun W hφ=>⟨(q1101 _ hφ),(fun W h=>(f967 W h)) W hφ⟩))
 unfold m_law20_small_j1 at hm
 refine d_abs (fun φ672 q672'=>?_)
 have q672 : ∀ W,φ672 W→φ W:=fun W h=>(q672' W h).1
 have f671:=fun (W : World) (h : φ672 W)=>(q672' W h).2
 refine d_flat [(1,Vp g1),(2,Vp g2),(3,.slice A668 l667.length c669)] ⟨rfl,rfl,rfl,trivial⟩ (fun u=>?_)
 refine d_sta ⟨w0,M,(100020,g2,.cells #[Vi 0,Vi 0,Vi 0,Ve,Vu 0,Vu 0,.bool false,V0,Vi 0,Vi 0,Vi 0,Vi 0,Vi 0,Vi 0,Vi 0,.bool false,V0,V0,Ve,Ve] 31 (0,0))::(100010,g1,.cells #[Vi p0.fKind,Vi p0.fSerial,Vi p0.fEpoch,Vs x3,Vu p0.fQuestion.fType,Vu p0.fQuestion.fClass,.bool p0.fGood,.slice Ap0_0 p0.fEntries.length cp0_0,Vi p0.fNote.fKind,Vi p0.fNote.fFrom,Vi p0.fNote.fTo,Vi p0.fNote.fTerm,Vi p0.fNote.fIndex,Vi p0.fNote.fLogTerm,Vi p0.fNote.fCommit,.bool p0.fNote.fGood,.slice Ap0_1 p0.fNote.fEntries.length cp0_1,.slice Ap0_2 p0.fNote.fVoters.length cp0_2,Vs p0.fNote.fSnap,Vs x5] 31 (0,0))::H,(22,⟨.slice A668 l667.length c669,41,9,l667.length,(l667.zip ps670).flatMap GCached.encP⟩)::R,φ672⟩ (fun _ h=>h)<|d_then<|c_seq<|c_region<|g_v rfl r_move<|g_v rfl (r_field (n:=7) Try.underlying31 rfl Try.sizeOf25 rfl rfl)<|g_storeL (tag:=100010) rfl rfl rfl rfl Try.sizeOf25 rfl rfl<|g_nil<|d_then<|c_seq ?_
 refine c_region<|g_v rfl r_assign<|g_nil<|d_then<|c_seq<|c_sta _ (fun W h=>nilR h 31 56 3) ?_
 refine c_cut (ι:=(List GEntry)×Option Addr×Nat) [1,2,9] (fun ⟨l761,A762,c763⟩=>[(9,.slice A762 l761.length c763)]) (fun ⟨l761,A762,c763⟩=>⟨w0,M,(100020,g2,.cells #[Vi 0,Vi 0,Vi 0,Ve,Vu 0,Vu 0,.bool false,V0,Vi 0,Vi 0,Vi 0,Vi 0,Vi 0,Vi 0,Vi 0,.bool false,V0,V0,Ve,Ve] 31 (0,0))::(100010,g1,.cells #[Vi p0.fKind,Vi p0.fSerial,Vi p0.fEpoch,Vs x3,Vu p0.fQuestion.fType,Vu p0.fQuestion.fClass,.bool p0.fGood,.slice A668 l667.length c669,Vi p0.fNote.fKind,Vi p0.fNote.fFrom,Vi p0.fNote.fTo,Vi p0.fNote.fTerm,Vi p0.fNote.fIndex,Vi p0.fNote.fLogTerm,Vi p0.fNote.fCommit,.bool p0.fNote.fGood,.slice Ap0_1 p0.fNote.fEntries.length cp0_1,.slice Ap0_2 p0.fNote.fVoters.length cp0_2,Vs p0.fNote.fSnap,Vs x5] 31 (0,0))::H,(31,⟨.slice A762 l761.length c763,56,3,l761.length,l761.flatMap GEntry.enc⟩)::(22,⟨.slice A668 l667.length c669,41,9,l667.length,(l667.zip ps670).flatMap GCached.encP⟩)::R,φ672⟩) (fun ⟨l761,A762,c763⟩=>m_law20_small_j2 p0 x3 l667 x5 l761 = some r∧l761.length ≤ c763) ?_ (fun ⟨l761,A762,c763⟩ u ⟨hm,hc763⟩=>?_)
 ·
  refine c_seq<|c_region<|g_v rfl r_assign<|g_nil<|d_then<|c_block ?_
  replace hm:=bnd hm
  obtain ⟨out4,hl4,hr4⟩:=hm
  obtain ⟨n818',hl4⟩:=loop_lp hl4
  refine c_loopU (ι:=Nat×(List GEntry)×Int×Option Addr×Nat) [1,2,9,10] (fun ⟨n818,l797,i800,A798,c799⟩=>[(9,.slice A798 l797.length c799),(10,Vi i800)]) (fun ⟨n818,l797,i800,A798,c799⟩=>⟨w0,M,(100020,g2,.cells #[Vi 0,Vi 0,Vi 0,Ve,Vu 0,Vu 0,.bool false,V0,Vi 0,Vi 0,Vi 0,Vi 0,Vi 0,Vi 0,Vi 0,.bool false,V0,V0,Ve,Ve] 31 (0,0))::(100010,g1,.cells #[Vi p0.fKind,Vi p0.fSerial,Vi p0.fEpoch,Vs x3,Vu p0.fQuestion.fType,Vu p0.fQuestion.fClass,.bool p0.fGood,.slice A668 l667.length c669,Vi p0.fNote.fKind,Vi p0.fNote.fFrom,Vi p0.fNote.fTo,Vi p0.fNote.fTerm,Vi p0.fNote.fIndex,Vi p0.fNote.fLogTerm,Vi p0.fNote.fCommit,.bool p0.fNote.fGood,.slice Ap0_1 p0.fNote.fEntries.length cp0_1,.slice Ap0_2 p0.fNote.fVoters.length cp0_2,Vs p0.fNote.fSnap,Vs x5] 31 (0,0))::H,(31,⟨.slice A798 l797.length c799,56,3,l797.length,l797.flatMap GEntry.enc⟩)::(22,⟨.slice A668 l667.length c669,41,9,l667.length,(l667.zip ps670).flatMap GCached.encP⟩)::R,φ672⟩) (fun ⟨n818,l797,i800,A798,c799⟩=>Lp (fun s=>m_law20_small_s4 p0 s.1 s.2) n818 (l797,i800) out4∧l797.length ≤ c799) (fun ⟨n818,l797,i800,A798,c799⟩=>n818) (n818',([] : List GEntry),0,none,0) ⟨hl4,(Nat.le_refl 0)⟩ ⟨rfl,rfl,rfl,rfl,trivial⟩ (fun W h=>h.phi (fun W hφ=>hφ)) (fun ⟨n818,l797,i800,A798,c799⟩ u ⟨hlp,hc799⟩=>?_)
  obtain ⟨o4,hm,hnx4⟩:=lp_step hlp
  clear hlp
  replace hm : m_law20_small_s4 p0 l797 i800 = some o4:=hm
  unfold m_law20_small_s4 at hm
  refine c_flat [(1,Vp g1),(2,Vp g2),(9,.slice A798 l797.length c799),(10,Vi i800)] ⟨rfl,rfl,rfl,rfl,trivial⟩ (fun u=>?_)
  refine c_sta ⟨w0,M,(100020,g2,.cells #[Vi 0,Vi 0,Vi 0,Ve,Vu 0,Vu 0,.bool false,V0,Vi 0,Vi 0,Vi 0,Vi 0,Vi 0,Vi 0,Vi 0,.bool false,V0,V0,Ve,Ve] 31 (0,0))::(100010,g1,.cells #[Vi p0.fKind,Vi p0.fSerial,Vi p0.fEpoch,Vs x3,Vu p0.fQuestion.fType,Vu p0.fQuestion.fClass,.bool p0.fGood,.slice A668 l667.length c669,Vi p0.fNote.fKind,Vi p0.fNote.fFrom,Vi p0.fNote.fTo,Vi p0.fNote.fTerm,Vi p0.fNote.fIndex,Vi p0.fNote.fLogTerm,Vi p0.fNote.fCommit,.bool p0.fNote.fGood,.slice Ap0_1 p0.fNote.fEntries.length cp0_1,.slice Ap0_2 p0.fNote.fVoters.length cp0_2,Vs p0.fNote.fSnap,Vs x5] 31 (0,0))::H,(31,⟨.slice A798 l797.length c799,56,3,l797.length,l797.flatMap GEntry.enc⟩)::(22,⟨.slice A668 l667.length c669,41,9,l667.length,(l667.zip ps670).flatMap GCached.encP⟩)::R,φ672⟩ (fun _ h=>h)<|c_seq<|c_seq<|c_region<|g_v rfl r_move<|g_v rfl (r_field (n:=8) Try.underlying31 rfl Try.sizeOf29 rfl rfl)<|g_v rfl (r_field (n:=16) Try.underlying29 rfl Try.sizeOf26 rfl rfl)<|g_v rfl (r_load (tag:=100010) rfl rfl rfl Try.isAgg26)<|g_v rfl (r_lenL Try.underlying26 rfl)<|g_v rfl (r_lss rfl rfl) ?_
  refine g_v rfl r_move ?_
  refine g_if rfl rfl rfl rfl rfl (fun h819=>?_) (fun h819=>?_)
  ·
   replace hm:=ite_t hm (of_decide_eq_true h819)
   refine g_v rfl r_move<|g_do rfl rfl rfl rfl rfl h819<|g_v rfl (r_lss rfl rfl)<|g_v rfl (r_pick1 rfl h819)<|g_nil<|d_then ?_
   refine c_flat [(1,Vp g1),(2,Vp g2),(9,.slice A798 l797.length c799),(10,Vi i800),(87,.bool (decide (i800 < 20)))] ⟨rfl,rfl,rfl,rfl,rfl,trivial⟩ (fun u=>?_)
   refine c_cond rfl (fun h820=>?_) (fun h820=>?_)
   ·
    replace hm:=ite_t hm (of_decide_eq_true h820)
    refine c_skip<|d_then<|c_seq<|c_block<|c_seq<|c_region<|g_v rfl (r_field (n:=8) Try.underlying31 rfl Try.sizeOf29 rfl rfl)<|g_v rfl (r_field (n:=16) Try.underlying29 rfl Try.sizeOf26 rfl rfl)<|g_v rfl (r_load (tag:=100010) rfl rfl rfl Try.isAgg26)<|g_v rfl r_move ?_
    replace hm:=bnd hm
    obtain ⟨x821,hx821,hm⟩:=hm
    refine g_know _ (fun W hS=>cl_at (p:=(Sta.mk w0 M H R φ).ok) (sz:=3) (fun _=>rfl) (by decide) (ok_pre (H1:=[_,_]) (R1:=[_,_]) hS (fun W h=>(q672 _ h))) fp0_1 hx821) ?_
    rintro ⟨ad822,hA824,f823⟩
    refine g_v rfl (r_ix Try.underlying26 Try.sizeOf56 rfl hA824 rfl hx821)<|g_v rfl (r_ldA rfl Try.isAgg56 Try.sizeOf56 (fun W hS=>(f823 W (ok_pre (H1:=[_,_]) (R1:=[_,_]) hS (fun W h=>(q672 _ h)))).take 3) rfl) ?_
    refine g_e rfl (e_alloc 100110 Try.zeroValue56) (fun g825 _=>?_)
    refine g_storeL (tag:=100110) rfl rfl rfl rfl Try.sizeOf56 rfl rfl<|g_nil<|d_then<|c_seq<|c_region<|g_v rfl (r_field (n:=2) Try.underlying56 rfl Try.sizeOf9 rfl rfl)<|g_v rfl (r_load (tag:=100110) rfl rfl rfl Try.isAgg9) ?_
    replace hm:=bnd hm
    obtain ⟨x826,hx827,hm⟩:=hm
    refine g_cn ⟨w0,M,_,_,φ672⟩ (fun _ h=>h) Try.call16 rfl rfl (c_law20_short x821.fData 100 _ hx827) (fun _ _=>?_)
    refine g_v rfl (r_field (n:=2) Try.underlying56 rfl Try.sizeOf9 rfl rfl)<|g_storeL (tag:=100110) rfl rfl rfl rfl Try.sizeOf9 rfl rfl<|g_nil<|d_then ?_
    refine c_flat [(1,Vp g1),(2,Vp g2),(9,.slice A798 l797.length c799),(10,Vi i800),(11,Vp g825)] ⟨rfl,rfl,rfl,rfl,rfl,trivial⟩ (fun u=>?_)
    refine c_sta ⟨w0,M,(100110,g825,.cells #[Vi x821.fTerm,Vi x821.fKind,Vs x826] 56 (0,0))::(100020,g2,.cells #[Vi 0,Vi 0,Vi 0,Ve,Vu 0,Vu 0,.bool false,V0,Vi 0,Vi 0,Vi 0,Vi 0,Vi 0,Vi 0,Vi 0,.bool false,V0,V0,Ve,Ve] 31 (0,0))::(100010,g1,.cells #[Vi p0.fKind,Vi p0.fSerial,Vi p0.fEpoch,Vs x3,Vu p0.fQuestion.fType,Vu p0.fQuestion.fClass,.bool p0.fGood,.slice A668 l667.length c669,Vi p0.fNote.fKind,Vi p0.fNote.fFrom,Vi p0.fNote.fTo,Vi p0.fNote.fTerm,Vi p0.fNote.fIndex,Vi p0.fNote.fLogTerm,Vi p0.fNote.fCommit,.bool p0.fNote.fGood,.slice Ap0_1 p0.fNote.fEntries.length cp0_1,.slice Ap0_2 p0.fNote.fVoters.length cp0_2,Vs p0.fNote.fSnap,Vs x5] 31 (0,0))::H,(31,⟨.slice A798 l797.length c799,56,3,l797.length,l797.flatMap GEntry.enc⟩)::(22,⟨.slice A668 l667.length c669,41,9,l667.length,(l667.zip ps670).flatMap GCached.encP⟩)::R,φ672⟩ (fun _ h=>h)<|c_region<|g_v rfl r_move<|g_v rfl (r_loadA (tag:=100110) rfl rfl Try.isAgg56 Try.sizeOf56 rfl rfl) ?_
    refine g_e rfl (e_lit (tag:=101020) (l:=[(⟨x821.fTerm,x821.fKind,x826⟩ : GEntry)]) (enc:=GEntry.enc) (sz:=3) rfl Try.underlying26 (lit56_32 _ _ _) rfl rfl (fun _=>rfl)) (fun g828 _=>?_)
    replace hm:=bnd hm
    obtain ⟨l829,hl829,hm⟩:=hm
    refine g_e rfl (e_appR (enc:=GEntry.enc) (l:=l797) (l1:=[(⟨x821.fTerm,x821.fKind,x826⟩ : GEntry)]) (l2:=l829) (tag:=31) Try.underlying26 inf56_33 rfl (by decide) (by decide) (fun _=>rfl) (fun _=>rfl) rfl hc799 rfl rfl (fun W hS=>rowCl (tag:=101020) rfl W hS) hl829) (fun ⟨A830,c831⟩ hc831=>?_)
    refine g_v rfl r_assign<|g_nil<|d_normal_block<|d_then<|c_region<|g_v rfl r_move<|g_v rfl (r_add rfl rfl rfl)<|g_v rfl r_assign<|g_nil ?_
    obtain ⟨n832,hn832,hlp⟩:=nx_inl hm hnx4
    exact d_round (n832,l829,w64 (i800 + 1),A830,c831) ⟨hlp,hc831⟩ hn832 ⟨rfl,rfl,rfl,rfl,trivial⟩ (fun W h=>((h.dropR (t:=101020) rfl).dropH (t:=100110) rfl).phi (fun W hφ=>hφ))
   replace hm:=ite_f hm (of_decide_eq_false h820)
   refine c_exit<|d_exit_then<|d_exit_then<|d_exit_block ?_
   replace hm:=nx_out (C:=(fun e : (List GEntry)=>m_law20_small_j2 p0 x3 l667 x5 e = some r)) hm hnx4 hr4
   exact d_round (l797,A798,c799) ⟨hm,hc799⟩ Nat.zero_lt_one ⟨rfl,rfl,rfl,trivial⟩ (fun W h=>h.phi (fun W hφ=>hφ))
  replace hm:=ite_f hm (of_decide_eq_false h819)
  refine g_no rfl rfl rfl rfl rfl h819<|g_v rfl (r_pick0 rfl h819)<|g_nil<|d_then<|c_cond0 rfl rfl<|c_exit<|d_exit_then<|d_exit_then<|d_exit_block ?_
  replace hm:=nx_out (C:=(fun e : (List GEntry)=>m_law20_small_j2 p0 x3 l667 x5 e = some r)) hm hnx4 hr4
  exact d_round (l797,A798,c799) ⟨hm,hc799⟩ Nat.zero_lt_one ⟨rfl,rfl,rfl,trivial⟩ (fun W h=>h.phi (fun W hφ=>hφ))
 unfold m_law20_small_j2 at hm
 refine d_flat [(1,Vp g1),(2,Vp g2),(9,.slice A762 l761.length c763)] ⟨rfl,rfl,rfl,trivial⟩ (fun u=>?_)
 refine d_sta ⟨w0,M,(100020,g2,.cells #[Vi 0,Vi 0,Vi 0,Ve,Vu 0,Vu 0,.bool false,V0,Vi 0,Vi 0,Vi 0,Vi 0,Vi 0,Vi 0,Vi 0,.bool false,V0,V0,Ve,Ve] 31 (0,0))::(100010,g1,.cells #[Vi p0.fKind,Vi p0.fSerial,Vi p0.fEpoch,Vs x3,Vu p0.fQuestion.fType,Vu p0.fQuestion.fClass,.bool p0.fGood,.slice A668 l667.length c669,Vi p0.fNote.fKind,Vi p0.fNote.fFrom,Vi p0.fNote.fTo,Vi p0.fNote.fTerm,Vi p0.fNote.fIndex,Vi p0.fNote.fLogTerm,Vi p0.fNote.fCommit,.bool p0.fNote.fGood,.slice Ap0_1 p0.fNote.fEntries.length cp0_1,.slice Ap0_2 p0.fNote.fVoters.length cp0_2,Vs p0.fNote.fSnap,Vs x5] 31 (0,0))::H,(31,⟨.slice A762 l761.length c763,56,3,l761.length,l761.flatMap GEntry.enc⟩)::(22,⟨.slice A668 l667.length c669,41,9,l667.length,(l667.zip ps670).flatMap GCached.encP⟩)::R,φ672⟩ (fun _ h=>h)<|d_then<|c_seq<|c_region<|g_v rfl r_move<|g_v rfl (r_field (n:=8) Try.underlying31 rfl Try.sizeOf29 rfl rfl)<|g_v rfl (r_field (n:=16) Try.underlying29 rfl Try.sizeOf26 rfl rfl)<|g_storeL (tag:=100010) rfl rfl rfl rfl Try.sizeOf26 rfl rfl<|g_nil<|d_then ?_
 refine c_seq ?_
 refine c_cut (ι:=(List Int)×Option Addr×Nat) [1,2] (fun ⟨l767,A768,c769⟩=>[]) (fun ⟨l767,A768,c769⟩=>⟨w0,M,(100020,g2,.cells #[Vi 0,Vi 0,Vi 0,Ve,Vu 0,Vu 0,.bool false,V0,Vi 0,Vi 0,Vi 0,Vi 0,Vi 0,Vi 0,Vi 0,.bool false,V0,V0,Ve,Ve] 31 (0,0))::(100010,g1,.cells #[Vi p0.fKind,Vi p0.fSerial,Vi p0.fEpoch,Vs x3,Vu p0.fQuestion.fType,Vu p0.fQuestion.fClass,.bool p0.fGood,.slice A668 l667.length c669,Vi p0.fNote.fKind,Vi p0.fNote.fFrom,Vi p0.fNote.fTo,Vi p0.fNote.fTerm,Vi p0.fNote.fIndex,Vi p0.fNote.fLogTerm,Vi p0.fNote.fCommit,.bool p0.fNote.fGood,.slice A762 l761.length c763,.slice A768 l767.length c769,Vs p0.fNote.fSnap,Vs x5] 31 (0,0))::H,(31,⟨.slice A762 l761.length c763,56,3,l761.length,l761.flatMap GEntry.enc⟩)::(22,⟨.slice A668 l667.length c669,41,9,l667.length,(l667.zip ps670).flatMap GCached.encP⟩)::R,fun W=>φ672 W∧Cl W A768 (l767.flatMap (fun x : Int=>[Value.int .i64 x]))⟩) (fun ⟨l767,A768,c769⟩=>m_law20_small_j3 p0 x3 l667 l761 x5 l767 = some r∧l767.length ≤ c769) ?_ (fun ⟨l767,A768,c769⟩ u ⟨hm,hc769⟩=>?_)
 ·
  refine c_seq<|c_region<|g_v rfl (r_field (n:=8) Try.underlying31 rfl Try.sizeOf29 rfl rfl)<|g_v rfl (r_field (n:=17) Try.underlying29 rfl Try.sizeOf27 rfl rfl)<|g_v rfl (r_load (tag:=100010) rfl rfl rfl Try.isAgg27)<|g_v rfl (r_lenL Try.underlying27 rfl)<|g_v rfl (r_gtr rfl rfl)<|g_nil<|d_then ?_
  refine c_flat [(1,Vp g1),(2,Vp g2),(111,.bool (decide (70 < (p0.fNote.fVoters.length : Int))))] ⟨rfl,rfl,rfl,trivial⟩ (fun u=>?_)
  refine c_sta ⟨w0,M,(100020,g2,.cells #[Vi 0,Vi 0,Vi 0,Ve,Vu 0,Vu 0,.bool false,V0,Vi 0,Vi 0,Vi 0,Vi 0,Vi 0,Vi 0,Vi 0,.bool false,V0,V0,Ve,Ve] 31 (0,0))::(100010,g1,.cells #[Vi p0.fKind,Vi p0.fSerial,Vi p0.fEpoch,Vs x3,Vu p0.fQuestion.fType,Vu p0.fQuestion.fClass,.bool p0.fGood,.slice A668 l667.length c669,Vi p0.fNote.fKind,Vi p0.fNote.fFrom,Vi p0.fNote.fTo,Vi p0.fNote.fTerm,Vi p0.fNote.fIndex,Vi p0.fNote.fLogTerm,Vi p0.fNote.fCommit,.bool p0.fNote.fGood,.slice A762 l761.length c763,.slice Ap0_2 p0.fNote.fVoters.length cp0_2,Vs p0.fNote.fSnap,Vs x5] 31 (0,0))::H,(31,⟨.slice A762 l761.length c763,56,3,l761.length,l761.flatMap GEntry.enc⟩)::(22,⟨.slice A668 l667.length c669,41,9,l667.length,(l667.zip ps670).flatMap GCached.encP⟩)::R,φ672⟩ (fun _ h=>h) ?_
  refine c_cond rfl (fun h778=>?_) (fun h778=>?_)
  ·
   replace hm:=ite_t hm (of_decide_eq_true h778)
   refine c_region<|g_v rfl (r_field (n:=8) Try.underlying31 rfl Try.sizeOf29 rfl rfl)<|g_v rfl (r_field (n:=17) Try.underlying29 rfl Try.sizeOf27 rfl rfl)<|g_v rfl (r_load (tag:=100010) rfl rfl rfl Try.isAgg27) ?_
   replace hm:=bnd hm
   obtain ⟨l780,hl780,hm⟩:=hm
   have f779:=fun (W : World) (h : φ W)=>cl_cutHi (enc:=(fun x : Int=>[Value.int .i64 x])) (sz:=1) (fun _=>rfl) hl780 (fp0_2 W h)
   refine g_v rfl (r_lcutHi Try.underlying27 Try.sizeOf3 rfl hcp0_2 rfl hl780)<|g_v rfl (r_field (n:=8) Try.underlying31 rfl Try.sizeOf29 rfl rfl)<|g_v rfl (r_field (n:=17) Try.underlying29 rfl Try.sizeOf27 rfl rfl)<|g_storeL (tag:=100010) rfl rfl rfl rfl Try.sizeOf27 rfl rfl<|g_nil ?_
   exact d_round (l780,Ap0_2,cp0_2) ⟨hm,(cutHi_len hcp0_2 hl780)⟩ Nat.zero_lt_one ⟨rfl,rfl,trivial⟩ (fun W h=>h.phi (fun W hφ=>⟨hφ,(fun W h=>f779 W (q672 _ h)) W hφ⟩))
  replace hm:=ite_f hm (of_decide_eq_false h778)
  refine c_skip ?_
  exact d_round (p0.fNote.fVoters,Ap0_2,cp0_2) ⟨hm,hcp0_2⟩ Nat.zero_lt_one ⟨rfl,rfl,trivial⟩ (fun W h=>h.phi (fun W hφ=>⟨hφ,(fun W h=>fp0_2 W (q672 _ h)) W hφ⟩))
 unfold m_law20_small_j3 at hm
 refine d_abs (fun φ771 q771'=>?_)
 have q771 : ∀ W,φ771 W→φ672 W:=fun W h=>(q771' W h).1
 have f770:=fun (W : World) (h : φ771 W)=>(q771' W h).2
 refine d_flat [(1,Vp g1),(2,Vp g2)] ⟨rfl,rfl,trivial⟩ (fun u=>?_)
 refine d_sta ⟨w0,M,(100020,g2,.cells #[Vi 0,Vi 0,Vi 0,Ve,Vu 0,Vu 0,.bool false,V0,Vi 0,Vi 0,Vi 0,Vi 0,Vi 0,Vi 0,Vi 0,.bool false,V0,V0,Ve,Ve] 31 (0,0))::(100010,g1,.cells #[Vi p0.fKind,Vi p0.fSerial,Vi p0.fEpoch,Vs x3,Vu p0.fQuestion.fType,Vu p0.fQuestion.fClass,.bool p0.fGood,.slice A668 l667.length c669,Vi p0.fNote.fKind,Vi p0.fNote.fFrom,Vi p0.fNote.fTo,Vi p0.fNote.fTerm,Vi p0.fNote.fIndex,Vi p0.fNote.fLogTerm,Vi p0.fNote.fCommit,.bool p0.fNote.fGood,.slice A762 l761.length c763,.slice A768 l767.length c769,Vs p0.fNote.fSnap,Vs x5] 31 (0,0))::H,(31,⟨.slice A762 l761.length c763,56,3,l761.length,l761.flatMap GEntry.enc⟩)::(22,⟨.slice A668 l667.length c669,41,9,l667.length,(l667.zip ps670).flatMap GCached.encP⟩)::R,φ771⟩ (fun _ h=>h)<|d_then<|c_seq<|c_region<|g_v rfl (r_field (n:=8) Try.underlying31 rfl Try.sizeOf29 rfl rfl)<|g_v rfl (r_field (n:=18) Try.underlying29 rfl Try.sizeOf9 rfl rfl)<|g_v rfl (r_load (tag:=100010) rfl rfl rfl Try.isAgg9) ?_
 replace hm:=bnd hm
 obtain ⟨x772,hx773,hm⟩:=hm
 refine g_cn ⟨w0,M,_,_,φ771⟩ (fun _ h=>h) Try.call16 rfl rfl (c_law20_short p0.fNote.fSnap 1000 _ hx773) (fun _ _=>?_)
 refine g_v rfl (r_field (n:=8) Try.underlying31 rfl Try.sizeOf29 rfl rfl)<|g_v rfl (r_field (n:=18) Try.underlying29 rfl Try.sizeOf9 rfl rfl)<|g_storeL (tag:=100010) rfl rfl rfl rfl Try.sizeOf9 rfl rfl<|g_nil<|d_then<|c_seq<|c_region<|g_v rfl (r_loadA (tag:=100010) rfl rfl Try.isAgg31 Try.sizeOf31 rfl rfl)<|g_storeL (tag:=100020) rfl rfl rfl rfl Try.sizeOf31 rfl rfl<|g_nil ?_
 refine d_then ?_
 refine c_flat [(2,Vp g2)] ⟨rfl,trivial⟩ (fun u=>?_)
 refine c_sta ⟨w0,M,(100020,g2,.cells #[Vi p0.fKind,Vi p0.fSerial,Vi p0.fEpoch,Vs x3,Vu p0.fQuestion.fType,Vu p0.fQuestion.fClass,.bool p0.fGood,.slice A668 l667.length c669,Vi p0.fNote.fKind,Vi p0.fNote.fFrom,Vi p0.fNote.fTo,Vi p0.fNote.fTerm,Vi p0.fNote.fIndex,Vi p0.fNote.fLogTerm,Vi p0.fNote.fCommit,.bool p0.fNote.fGood,.slice A762 l761.length c763,.slice A768 l767.length c769,Vs x772,Vs x5] 31 (0,0))::(100010,g1,.cells #[Vi p0.fKind,Vi p0.fSerial,Vi p0.fEpoch,Vs x3,Vu p0.fQuestion.fType,Vu p0.fQuestion.fClass,.bool p0.fGood,.slice A668 l667.length c669,Vi p0.fNote.fKind,Vi p0.fNote.fFrom,Vi p0.fNote.fTo,Vi p0.fNote.fTerm,Vi p0.fNote.fIndex,Vi p0.fNote.fLogTerm,Vi p0.fNote.fCommit,.bool p0.fNote.fGood,.slice A762 l761.length c763,.slice A768 l767.length c769,Vs x772,Vs x5] 31 (0,0))::H,(31,⟨.slice A762 l761.length c763,56,3,l761.length,l761.flatMap GEntry.enc⟩)::(22,⟨.slice A668 l667.length c669,41,9,l667.length,(l667.zip ps670).flatMap GCached.encP⟩)::R,φ771⟩ (fun _ h=>h)<|c_ret ?_
 cases hm
 refine d_shut (tag:=22) rfl (fun φ774 q774'=>?_)
 have q774 : ∀ W,φ774 W→φ771 W:=fun W h=>(q774' W h).1
 have f775:=fun (W : World) (h : φ774 W)=>(q774' W h).2
 refine d_shut (tag:=31) rfl (fun φ776 q776'=>?_)
 have q776 : ∀ W,φ776 W→φ774 W:=fun W h=>(q776' W h).1
 have f777:=fun (W : World) (h : φ776 W)=>(q776' W h).2
 exact d_retC (A668,c669,ps670,A762,c763,A768,c769) Try.results8 (res_agg (tag:=100020) rfl rfl Try.isAgg31 Try.sizeOf31 (res_nil rfl)) ⟨⟨hc669.1,hc669.2⟩,hc763,hc769⟩ (fun W h=>ok_pre (H1:=[_,_]) (R1:=[]) h (fun W hφ=>⟨(q672 _ (q771 _ (q774 _ (q776 _ hφ)))),(fun W h=>f775 W (q776 _ h)) W hφ,(fun W h=>(f671 W (q771 _ (q774 _ (q776 _ h))))) W hφ,(fun W h=>f777 W h) W hφ,(fun W h=>f770 W (q774 _ (q776 _ h))) W hφ⟩)) (.inr rfl)
structure Gpeer_reader where
  fs : ByteArray
  fat : Int
  fbad : Bool
  deriving DecidableEq
def Gpeer_reader.enc (e : Gpeer_reader) : List Value:=[.string e.fs,.int .i64 e.fat,.bool e.fbad]
theorem bld78_34 (z0 : ByteArray) : ∀ W,(Instr.build 78 #[(0,Vs z0)]).run Try.prog W = .ok (.agg #[Vs z0,Vi 0,.bool false]) W:=fun _=>by kernel_rfl
noncomputable def m_pack_Raw (p0 : ByteArray) (p1 : Int) (p2 : Int) : Option (ByteArray×Int×Int):=
  if p1 < 0 then
    some ((⟨#[]⟩ : ByteArray),0,10)
  else
    if p2 < 0 then
      some ((⟨#[]⟩ : ByteArray),0,10)
    else
      if (p0.size : Int) < p1 then
        some ((⟨#[]⟩ : ByteArray),0,10)
      else
        if w64 ((p0.size : Int) - p1) < p2 then
          some ((⟨#[]⟩ : ByteArray),0,10)
        else
          (scutMid p0 p1 (w64 (p1 + p2))).bind fun s5=>
          some (s5,w64 (p1 + p2),0)
theorem c_pack_Raw {w0 : World} {M : Nat→Prop} {H : List (Nat×Nat×Obj)} {R : List (Nat×Row)} {φ : World→Prop} (p0 : ByteArray) (p1 : Int) (p2 : Int) (r : ByteArray×Int×Int) (hm : m_pack_Raw p0 p1 p2 = some r) :
    Cn Try.prog 63 #[Vs p0,Vi p1,Vi p2] ⟨w0,M,H,R,φ⟩ (fun x : Unit=>.tuple #[Vs r.1,Vi r.2.1,Vi r.2.2]) (fun x=>True) (fun x=>⟨w0,M,H,R,φ⟩):=by
 unfold m_pack_Raw at hm
 refine cn_intro (fn:=Try.f63) (N:=38) Try.func63 rfl Try.ntmps63 rfl<|c_seq<|c_region ?_
 iterate 3 refine g_v rfl r_assign ?_
 refine g_nil<|d_then<|c_seq<|c_seq<|c_region<|g_v rfl r_move<|g_v rfl (r_lss rfl rfl)<|g_v rfl r_move ?_
 refine g_if rfl rfl rfl rfl rfl (fun h1=>?_) (fun h1=>?_)
 ·
  replace hm:=ite_f hm (of_decide_eq_false h1)
  refine g_v rfl r_move<|g_do rfl rfl rfl rfl rfl h1<|g_v rfl (r_lss rfl rfl)<|g_v rfl (r_pick0 rfl h1)<|g_v rfl r_move ?_
  refine g_if rfl rfl rfl rfl rfl (fun h2=>?_) (fun h2=>?_)
  ·
   replace hm:=ite_f hm (of_decide_eq_false h2)
   refine g_v rfl r_move<|g_do rfl rfl rfl rfl rfl h2<|g_v rfl r_move<|g_do rfl rfl rfl rfl rfl h2<|g_v rfl (r_len Try.underlying9 rfl)<|g_do rfl rfl rfl rfl rfl h2<|g_v rfl (r_gtr rfl rfl)<|g_v rfl (r_pick0 rfl h2)<|g_v rfl r_move ?_
   refine g_if rfl rfl rfl rfl rfl (fun h3=>?_) (fun h3=>?_)
   ·
    replace hm:=ite_f hm (of_decide_eq_false h3)
    refine g_v rfl r_move<|g_do rfl rfl rfl rfl rfl h3<|g_v rfl r_move<|g_do rfl rfl rfl rfl rfl h3<|g_v rfl (r_len Try.underlying9 rfl)<|g_do rfl rfl rfl rfl rfl h3<|g_v rfl r_move<|g_do rfl rfl rfl rfl rfl h3<|g_v rfl (r_sub rfl rfl rfl)<|g_do rfl rfl rfl rfl rfl h3 ?_
    refine g_v rfl (r_gtr rfl rfl)<|g_v rfl (r_pick0 rfl h3)<|g_nil<|d_then ?_
    refine c_flat [(0,Vs p0),(1,Vi p1),(2,Vi p2),(28,.bool (decide (w64 ((p0.size : Int) - p1) < p2)))] ⟨rfl,rfl,rfl,rfl,trivial⟩ (fun u=>?_)
    refine c_sta ⟨w0,M,H,R,φ⟩ (fun _ h=>h) ?_
    refine c_cond rfl (fun h4=>?_) (fun h4=>?_)
    ·
     replace hm:=ite_t hm (of_decide_eq_true h4)
     refine c_seq<|c_region ?_
     iterate 3 refine g_v rfl r_assign ?_
     refine g_nil<|d_then<|c_ret<|d_ret_then ?_
     cases hm
     exact d_retC () Try.results63 (res_tmp (res_tmp (res_tmp (res_nil rfl)))) trivial (fun W h=>ok_pre (H1:=[]) (R1:=[]) h (fun W hφ=>hφ)) (.inr rfl)
    replace hm:=ite_f hm (of_decide_eq_false h4)
    refine c_skip<|d_then<|c_seq<|c_region ?_
    iterate 4 refine g_v rfl r_move ?_
    refine g_v rfl (r_add rfl rfl rfl) ?_
    replace hm:=bnd hm
    obtain ⟨s5,hs5,hm⟩:=hm
    refine g_v rfl (r_scutMid Try.underlying9 rfl rfl rfl hs5)<|g_v rfl r_move<|g_v rfl r_move<|g_v rfl (r_add rfl rfl rfl) ?_
    iterate 3 refine g_v rfl r_assign ?_
    refine g_nil<|d_then ?_
    refine c_flat [(6,Vs s5),(7,Vi (w64 (p1 + p2))),(8,Vi 0)] ⟨rfl,rfl,rfl,trivial⟩ (fun u=>?_)
    refine c_ret ?_
    cases hm
    exact d_retC () Try.results63 (res_tmp (res_tmp (res_tmp (res_nil rfl)))) trivial (fun W h=>ok_pre (H1:=[]) (R1:=[]) h (fun W hφ=>hφ)) (.inr rfl)
   replace hm:=ite_t hm (of_decide_eq_true h3)
   iterate 5 refine g_no rfl rfl rfl rfl rfl h3 ?_
   refine g_v rfl (r_pick1 rfl h3)<|g_nil<|d_then ?_
   refine c_flat [(0,Vs p0),(1,Vi p1),(2,Vi p2),(28,.bool true)] ⟨rfl,rfl,rfl,rfl,trivial⟩ (fun u=>?_)
   refine c_sta ⟨w0,M,H,R,φ⟩ (fun _ h=>h)<|c_cond1 rfl rfl<|c_seq<|c_region ?_
   iterate 3 refine g_v rfl r_assign ?_
   refine g_nil<|d_then<|c_ret<|d_ret_then ?_
   cases hm
   exact d_retC () Try.results63 (res_tmp (res_tmp (res_tmp (res_nil rfl)))) trivial (fun W h=>ok_pre (H1:=[]) (R1:=[]) h (fun W hφ=>hφ)) (.inr rfl)
  replace hm:=ite_t hm (of_decide_eq_true h2)
  iterate 3 refine g_no rfl rfl rfl rfl rfl h2 ?_
  refine g_v rfl (r_pick1 rfl h2)<|g_v rfl r_move ?_
  iterate 6 refine g_no rfl rfl rfl rfl rfl rfl ?_
  refine g_v rfl (r_pick1 rfl rfl)<|g_nil<|d_then ?_
  refine c_flat [(0,Vs p0),(1,Vi p1),(2,Vi p2),(28,.bool true)] ⟨rfl,rfl,rfl,rfl,trivial⟩ (fun u=>?_)
  refine c_sta ⟨w0,M,H,R,φ⟩ (fun _ h=>h)<|c_cond1 rfl rfl<|c_seq<|c_region ?_
  iterate 3 refine g_v rfl r_assign ?_
  refine g_nil<|d_then<|c_ret<|d_ret_then ?_
  cases hm
  exact d_retC () Try.results63 (res_tmp (res_tmp (res_tmp (res_nil rfl)))) trivial (fun W h=>ok_pre (H1:=[]) (R1:=[]) h (fun W hφ=>hφ)) (.inr rfl)
 replace hm:=ite_t hm (of_decide_eq_true h1)
 refine g_no rfl rfl rfl rfl rfl h1<|g_v rfl (r_pick1 rfl h1)<|g_v rfl r_move ?_
 iterate 4 refine g_no rfl rfl rfl rfl rfl rfl ?_
 refine g_v rfl (r_pick1 rfl rfl)<|g_v rfl r_move ?_
 iterate 6 refine g_no rfl rfl rfl rfl rfl rfl ?_
 refine g_v rfl (r_pick1 rfl rfl)<|g_nil<|d_then ?_
 refine c_flat [(0,Vs p0),(1,Vi p1),(2,Vi p2),(28,.bool true)] ⟨rfl,rfl,rfl,rfl,trivial⟩ (fun u=>?_)
 refine c_sta ⟨w0,M,H,R,φ⟩ (fun _ h=>h)<|c_cond1 rfl rfl<|c_seq<|c_region ?_
 iterate 3 refine g_v rfl r_assign ?_
 refine g_nil<|d_then<|c_ret<|d_ret_then ?_
 cases hm
 exact d_retC () Try.results63 (res_tmp (res_tmp (res_tmp (res_nil rfl)))) trivial (fun W h=>ok_pre (H1:=[]) (R1:=[]) h (fun W hφ=>hφ)) (.inr rfl)
noncomputable def m_pack_number_j1 (x2 : Int) (x3 : Int) (i17 : Int) : Option (Int×Int×Int):=
  some (i17,x2,x3)
noncomputable def m_pack_number_s2 (x1 : ByteArray) (i22 : Int) (i23 : Int) : Option ((Int×Int) ⊕ Int):=
  if i23 < (x1.size : Int) then
    (sat_ x1 i23).bind fun b30=>
    some (.inl (orI .u32 (IntKind.u32.wrap (i22 * 256)) (IntKind.u32.wrap b30),w64 (i23 + 1)))
  else
    some (.inr i22)
noncomputable def m_pack_number (p0 : ByteArray) (p1 : Int) (p2 : Int) : Option (Int×Int×Int):=
  (m_pack_Raw p0 p1 p2).bind fun (z5 : ByteArray×Int×Int)=>
  (loop (fun s=>m_pack_number_s2 z5.1 s.1 s.2) (0,0)).bind fun e=>m_pack_number_j1 z5.2.1 z5.2.2 e
theorem c_pack_number {w0 : World} {M : Nat→Prop} {H : List (Nat×Nat×Obj)} {R : List (Nat×Row)} {φ : World→Prop} (p0 : ByteArray) (p1 : Int) (p2 : Int) (r : Int×Int×Int) (hm : m_pack_number p0 p1 p2 = some r) :
    Cn Try.prog 88 #[Vs p0,Vi p1,Vi p2] ⟨w0,M,H,R,φ⟩ (fun x : Unit=>.tuple #[.int .u32 r.1,Vi r.2.1,Vi r.2.2]) (fun x=>True) (fun x=>⟨w0,M,H,R,φ⟩):=by
 unfold m_pack_number at hm
 refine cn_intro (fn:=Try.f88) (N:=38) Try.func88 rfl Try.ntmps88 rfl<|c_seq<|c_region ?_
 iterate 3 refine g_v rfl r_assign ?_
 refine g_nil<|d_then<|c_seq<|c_region ?_
 iterate 3 refine g_v rfl r_move ?_
 replace hm:=bnd hm
 obtain ⟨⟨x1,x2,x3⟩,hx4,hm⟩:=hm
 refine g_cn ⟨w0,M,_,_,φ⟩ (fun _ h=>h) Try.call63 rfl rfl (c_pack_Raw p0 p1 p2 _ hx4) (fun _ _=>?_)
 refine g_v rfl r_move ?_
 iterate 3 refine g_v rfl (r_extract rfl rfl) ?_
 iterate 3 refine g_v rfl r_assign ?_
 refine g_nil<|d_then ?_
 refine c_flat [(9,Vs x1),(10,Vi x2),(11,Vi x3)] ⟨rfl,rfl,rfl,trivial⟩ (fun u=>?_)
 refine c_sta ⟨w0,M,H,R,φ⟩ (fun _ h=>h)<|c_seq<|c_region<|g_v rfl r_assign<|g_nil<|d_then<|c_seq<|c_seq<|c_region<|g_v rfl r_move ?_
 refine g_v rfl (r_len Try.underlying9 rfl)<|g_v rfl r_move<|g_nil<|d_then ?_
 refine c_cut (ι:=Int) [10,11,12] (fun i17=>[(12,.int .u32 i17)]) (fun i17=>⟨w0,M,H,R,φ⟩) (fun i17=>m_pack_number_j1 x2 x3 i17 = some r) ?_ (fun i17 u hm=>?_)
 ·
  refine c_block ?_
  replace hm:=bnd hm
  obtain ⟨out2,hl2,hr2⟩:=hm
  obtain ⟨n28',hl2⟩:=loop_lp hl2
  refine c_loopU (ι:=Nat×Int×Int) [9,10,11,12,23,24] (fun ⟨n28,i22,i23⟩=>[(12,.int .u32 i22),(24,Vi i23)]) (fun ⟨n28,i22,i23⟩=>⟨w0,M,H,R,φ⟩) (fun ⟨n28,i22,i23⟩=>Lp (fun s=>m_pack_number_s2 x1 s.1 s.2) n28 (i22,i23) out2) (fun ⟨n28,i22,i23⟩=>n28) (n28',0,0) hl2 ⟨rfl,rfl,rfl,rfl,rfl,rfl,trivial⟩ (fun W h=>h.phi (fun W hφ=>hφ)) (fun ⟨n28,i22,i23⟩ u hlp=>?_)
  obtain ⟨o2,hm,hnx2⟩:=lp_step hlp
  clear hlp
  replace hm : m_pack_number_s2 x1 i22 i23 = some o2:=hm
  unfold m_pack_number_s2 at hm
  refine c_flat [(9,Vs x1),(10,Vi x2),(11,Vi x3),(12,.int .u32 i22),(23,Vi (x1.size : Int)),(24,Vi i23)] ⟨rfl,rfl,rfl,rfl,rfl,rfl,trivial⟩ (fun u=>?_)
  refine c_seq<|c_region<|g_v rfl (r_lss rfl rfl)<|g_nil<|d_then<|c_seq ?_
  refine c_cond rfl (fun h29=>?_) (fun h29=>?_)
  ·
   replace hm:=ite_t hm (of_decide_eq_true h29)
   refine c_skip<|d_then<|c_seq<|c_block<|c_seq<|c_region<|g_v rfl r_move<|g_v rfl r_assign<|g_nil<|d_then ?_
   refine c_region<|g_v rfl r_move<|g_v rfl (r_shl (n:=256) rfl rfl (by decide) (by decide) (by decide))<|g_v rfl r_move<|g_v rfl r_move ?_
   replace hm:=bnd hm
   obtain ⟨b30,hb30,hm⟩:=hm
   refine g_v rfl (r_sat Try.underlying9 rfl rfl hb30)<|g_v rfl (r_conv Try.underlying5 Try.underlying52 rfl rfl)<|g_v rfl (r_bits_or rfl rfl)<|g_v rfl r_assign<|g_nil<|d_normal_block<|d_then ?_
   refine c_flat [(9,Vs x1),(10,Vi x2),(11,Vi x3),(12,.int .u32 (orI .u32 (IntKind.u32.wrap (i22 * 256)) (IntKind.u32.wrap b30))),(23,Vi (x1.size : Int)),(24,Vi i23)] ⟨rfl,rfl,rfl,rfl,rfl,rfl,trivial⟩ (fun u=>?_)
   refine c_region<|g_v rfl (r_add rfl rfl rfl)<|g_v rfl r_move<|g_nil ?_
   obtain ⟨n31,hn31,hlp⟩:=nx_inl hm hnx2
   exact d_round (n31,orI .u32 (IntKind.u32.wrap (i22 * 256)) (IntKind.u32.wrap b30),w64 (i23 + 1)) hlp hn31 ⟨rfl,rfl,rfl,rfl,rfl,rfl,trivial⟩ (fun W h=>h.phi (fun W hφ=>hφ))
  replace hm:=ite_f hm (of_decide_eq_false h29)
  refine c_exit<|d_exit_then<|d_exit_then<|d_exit_block ?_
  replace hm:=nx_out (C:=(fun e : Int=>m_pack_number_j1 x2 x3 e = some r)) hm hnx2 hr2
  exact d_round i22 hm Nat.zero_lt_one ⟨rfl,rfl,rfl,trivial⟩ (fun W h=>h.phi (fun W hφ=>hφ))
 unfold m_pack_number_j1 at hm
 refine d_flat [(10,Vi x2),(11,Vi x3),(12,.int .u32 i17)] ⟨rfl,rfl,rfl,trivial⟩ (fun u=>?_)
 refine d_then<|c_seq<|c_region ?_
 iterate 3 refine g_v rfl r_move ?_
 iterate 3 refine g_v rfl r_assign ?_
 refine g_nil<|d_then<|c_ret ?_
 cases hm
 exact d_retC () Try.results88 (res_tmp (res_tmp (res_tmp (res_nil rfl)))) trivial (fun W h=>ok_pre (H1:=[]) (R1:=[]) h (fun W hφ=>hφ)) (.inr rfl)
noncomputable def m_pack_Byte (p0 : ByteArray) (p1 : Int) : Option (Int×Int×Int):=
  (m_pack_number p0 p1 1).bind fun (z5 : Int×Int×Int)=>
  some (IntKind.u8.wrap z5.1,z5.2.1,z5.2.2)
theorem c_pack_Byte {w0 : World} {M : Nat→Prop} {H : List (Nat×Nat×Obj)} {R : List (Nat×Row)} {φ : World→Prop} (p0 : ByteArray) (p1 : Int) (r : Int×Int×Int) (hm : m_pack_Byte p0 p1 = some r) :
    Cn Try.prog 58 #[Vs p0,Vi p1] ⟨w0,M,H,R,φ⟩ (fun x : Unit=>.tuple #[.int .u8 r.1,Vi r.2.1,Vi r.2.2]) (fun x=>True) (fun x=>⟨w0,M,H,R,φ⟩):=by
 unfold m_pack_Byte at hm
 refine cn_intro (fn:=Try.f58) (N:=21) Try.func58 rfl Try.ntmps58 rfl<|c_seq<|c_region ?_
 iterate 3 refine g_v rfl r_assign ?_
 refine g_nil<|d_then<|c_seq<|c_region<|g_v rfl r_move<|g_v rfl r_move ?_
 replace hm:=bnd hm
 obtain ⟨⟨x1,x2,x3⟩,hx4,hm⟩:=hm
 refine g_cn ⟨w0,M,_,_,φ⟩ (fun _ h=>h) Try.call88 rfl rfl (c_pack_number p0 p1 1 _ hx4) (fun _ _=>?_)
 refine g_v rfl r_move ?_
 iterate 3 refine g_v rfl (r_extract rfl rfl) ?_
 iterate 3 refine g_v rfl r_assign ?_
 refine g_nil<|d_then ?_
 refine c_flat [(7,.int .u32 x1),(8,Vi x2),(9,Vi x3)] ⟨rfl,rfl,rfl,trivial⟩ (fun u=>?_)
 refine c_sta ⟨w0,M,H,R,φ⟩ (fun _ h=>h)<|c_seq<|c_region<|g_v rfl r_move<|g_v rfl (r_conv Try.underlying52 Try.underlying5 rfl rfl)<|g_v rfl r_move<|g_v rfl r_move ?_
 iterate 3 refine g_v rfl r_assign ?_
 refine g_nil<|d_then<|c_ret ?_
 cases hm
 exact d_retC () Try.results58 (res_tmp (res_tmp (res_tmp (res_nil rfl)))) trivial (fun W h=>ok_pre (H1:=[]) (R1:=[]) h (fun W hφ=>hφ)) (.inr rfl)
noncomputable def m_peer_part_57 (o0 : Gpeer_reader) : Option (Int×Gpeer_reader):=
  if o0.fbad = true then
    some (0,o0)
  else
    (m_pack_Byte o0.fs o0.fat).bind fun (z16 : Int×Int×Int)=>
    if z16.2.2 ≠ 0 then
      some (0,(⟨o0.fs,o0.fat,true⟩ : Gpeer_reader))
    else
      some (z16.1,(⟨o0.fs,z16.2.1,o0.fbad⟩ : Gpeer_reader))
theorem c_peer_part_57 {w0 : World} {M : Nat→Prop} {H : List (Nat×Nat×Obj)} {R : List (Nat×Row)} {φ : World→Prop} (go0 : Nat) (o0 : Gpeer_reader) (r : Int×Gpeer_reader) (hm : m_peer_part_57 o0 = some r) :
    Cn Try.prog 57 #[Vp go0,.func (.func 58) #[] #[]] ⟨w0,M,(1000,go0,.cells #[Vs o0.fs,Vi o0.fat,.bool o0.fbad] 78 (0,0))::H,R,φ⟩ (fun x : Unit=>.int .u8 r.1) (fun x=>True) (fun x=>⟨w0,M,(1000,go0,.cells #[Vs o0.fs,Vi r.2.fat,.bool r.2.fbad] 78 (0,0))::H,R,φ⟩):=by
 unfold m_peer_part_57 at hm
 refine cn_intro (fn:=Try.f57) (N:=39) Try.func57 rfl Try.ntmps57 rfl<|c_seq<|c_region<|g_v rfl r_assign<|g_nil<|d_then<|c_seq<|c_region<|g_v rfl r_assign<|g_nil ?_
 refine d_then<|c_seq<|c_seq<|c_region<|g_v rfl r_move<|g_v rfl (r_nilck rfl)<|g_v rfl (r_field (n:=2) Try.underlying78 rfl Try.sizeOf4 rfl rfl)<|g_v rfl (r_load (tag:=1000) rfl rfl rfl Try.isAgg4)<|g_nil<|d_then ?_
 refine c_cond rfl (fun h1=>?_) (fun h1=>?_)
 ·
  replace hm:=ite_t hm h1
  refine c_seq<|c_region<|g_v rfl r_move<|g_v rfl r_assign<|g_nil<|d_then<|c_ret<|d_ret_then ?_
  cases hm
  exact d_retC () Try.results57 (res_tmp (res_nil rfl)) trivial (fun W h=>h.phi (fun W hφ=>hφ)) (.inr rfl)
 replace hm:=ite_f hm (bool_nt h1)
 refine c_skip<|d_then<|c_seq<|ga_start (n:=17) ⟨w0,M,(1000,go0,.cells #[Vs o0.fs,Vi o0.fat,.bool o0.fbad] 78 (0,0))::H,R,φ⟩ [] #[false,false,false,false,false,false,false,false,false,false,false,false,false,false,false,false,false] (fun W h=>h.phi (fun W hφ=>hφ)) mixed rfl rfl<|ga_v (i:=0) (bz 17 1) rfl (by kernel_rfl) (fun _ _ _ _ h=>h) rfl (r_move)<|ga_v (i:=1) (bz 17 3) rfl (by kernel_rfl) (fun _ _ _ _ h=>h) rfl (r_move)<|ga_v (i:=2) (bz 17 7) rfl (by kernel_rfl) (fun _ _ _ _ h=>h) rfl (r_nilck rfl)<|ga_v (i:=3) (bz 17 15) rfl (by kernel_rfl) (fun _ _ _ _ h=>h) rfl (r_field (n:=0) Try.underlying78 rfl Try.sizeOf9 rfl rfl)<|ga_v (i:=4) (bz 17 31) rfl (by kernel_rfl) (fun _ _ _ _ h=>h) rfl (r_load (tag:=1000) rfl rfl rfl Try.isAgg9)<|ga_r (i:=5) (bz 17 63) rfl (by kernel_rfl) (by decide) rfl (r_move) ?_
 refine ga_r (i:=6) (bz 17 127) rfl (by kernel_rfl) (by decide) rfl (r_nilck rfl)<|ga_r (i:=7) (bz 17 255) rfl (by kernel_rfl) (by decide) rfl (r_field (n:=1) Try.underlying78 rfl Try.sizeOf3 rfl rfl)<|ga_r (i:=8) (bz 17 511) rfl (by kernel_rfl) (by decide) rfl (r_load (tag:=1000) rfl rfl rfl Try.isAgg3) ?_
 replace hm:=bnd hm
 obtain ⟨⟨x12,x13,x14⟩,hx15,hm⟩:=hm
 refine ga_cn (first:=#[]) (i:=9) (bz 17 1023) rfl (by kernel_rfl) (by decide)  ⟨w0,M,_,_,φ⟩ (fun _ h=>h) Try.call58 rfl rfl rfl (c_pack_Byte o0.fs o0.fat _ hx15) (fun _ W _ h=>h.phi (fun W hφ=>hφ)) (fun _ _=>?_)
 refine ga_r (i:=10) (bz 17 2047) rfl (by kernel_rfl) (by decide) rfl (r_move)<|ga_v (i:=11) (bz 17 4095) rfl (by kernel_rfl) (fun _ _ _ _ h=>h) rfl (r_extract rfl rfl)<|ga_v (i:=12) (bz 17 8191) rfl (by kernel_rfl) (fun _ _ _ _ h=>h) rfl (r_extract rfl rfl)<|ga_v (i:=13) (bz 17 16383) rfl (by kernel_rfl) (fun _ _ _ _ h=>h) rfl (r_extract rfl rfl)<|ga_r (i:=14) (bz 17 32767) rfl (by kernel_rfl) (by decide) rfl (r_assign)<|ga_r (i:=15) (bz 17 65535) rfl (by kernel_rfl) (by decide) rfl (r_assign)<|ga_r (i:=16) (bz 17 131071) rfl (by kernel_rfl) (by decide) rfl (r_assign)<|ga_done (by kernel_rfl)<|d_then ?_
 refine c_flat [(0,Vp go0),(5,.int .u8 0),(6,.int .u8 x12),(7,Vi x13),(8,Vi x14)] ⟨rfl,rfl,rfl,rfl,rfl,trivial⟩ (fun u=>?_)
 refine c_sta ⟨w0,M,(1000,go0,.cells #[Vs o0.fs,Vi o0.fat,.bool o0.fbad] 78 (0,0))::H,R,φ⟩ (fun _ h=>h)<|c_seq<|c_seq<|c_region<|g_v rfl r_move<|g_v rfl (r_neq rfl rfl)<|g_nil<|d_then ?_
 refine c_cond rfl (fun h17=>?_) (fun h17=>?_)
 ·
  replace hm:=ite_t hm (of_decide_eq_true h17)
  refine c_seq<|c_region<|g_v rfl r_move<|g_v rfl (r_nilck rfl)<|g_v rfl (r_field (n:=2) Try.underlying78 rfl Try.sizeOf4 rfl rfl)<|g_storeL (tag:=1000) rfl rfl rfl rfl Try.sizeOf4 rfl rfl<|g_nil<|d_then<|c_seq<|c_region ?_
  refine g_v rfl r_move<|g_v rfl r_assign<|g_nil<|d_then<|c_ret<|d_ret_then ?_
  cases hm
  exact d_retC () Try.results57 (res_tmp (res_nil rfl)) trivial (fun W h=>h.phi (fun W hφ=>hφ)) (.inr rfl)
 replace hm:=ite_f hm (of_decide_eq_false h17)
 refine c_skip<|d_then<|c_seq<|c_region<|g_v rfl r_move<|g_v rfl r_move<|g_v rfl (r_nilck rfl)<|g_v rfl (r_field (n:=1) Try.underlying78 rfl Try.sizeOf3 rfl rfl)<|g_storeL (tag:=1000) rfl rfl rfl rfl Try.sizeOf3 rfl rfl<|g_nil ?_
 refine d_then<|c_seq<|c_region<|g_v rfl r_move<|g_v rfl r_assign<|g_nil<|d_then ?_
 refine c_flat [(4,.int .u8 x12)] ⟨rfl,trivial⟩ (fun u=>?_)
 refine c_sta ⟨w0,M,(1000,go0,.cells #[Vs o0.fs,Vi x13,.bool o0.fbad] 78 (0,0))::H,R,φ⟩ (fun _ h=>h)<|c_ret ?_
 cases hm
 exact d_retC () Try.results57 (res_tmp (res_nil rfl)) trivial (fun W h=>h.phi (fun W hφ=>hφ)) (.inr rfl)
noncomputable def m_peer_reader_one (o0 : Gpeer_reader) : Option (Int×Gpeer_reader):=
  (m_peer_part_57 o0).bind fun (z4 : Int×Gpeer_reader)=>
  some (w64 z4.1,(⟨o0.fs,z4.2.fat,z4.2.fbad⟩ : Gpeer_reader))
theorem c_peer_reader_one {w0 : World} {M : Nat→Prop} {H : List (Nat×Nat×Obj)} {R : List (Nat×Row)} {φ : World→Prop} (go0 : Nat) (o0 : Gpeer_reader) (r : Int×Gpeer_reader) (hm : m_peer_reader_one o0 = some r) :
    Cn Try.prog 35 #[Vp go0] ⟨w0,M,(1000,go0,.cells #[Vs o0.fs,Vi o0.fat,.bool o0.fbad] 78 (0,0))::H,R,φ⟩ (fun x : Unit=>Vi r.1) (fun x=>True) (fun x=>⟨w0,M,(1000,go0,.cells #[Vs o0.fs,Vi r.2.fat,.bool r.2.fbad] 78 (0,0))::H,R,φ⟩):=by
 unfold m_peer_reader_one at hm
 refine cn_intro (fn:=Try.f35) (N:=6) Try.func35 rfl Try.ntmps35 rfl<|c_seq<|c_region<|g_v rfl r_assign<|g_nil<|d_then<|c_seq<|c_region<|g_v rfl r_move ?_
 replace hm:=bnd hm
 obtain ⟨⟨x1,x2⟩,hx3,hm⟩:=hm
 refine g_cn ⟨w0,M,(1000,go0,.cells #[Vs o0.fs,Vi o0.fat,.bool o0.fbad] 78 (0,0))::H,R,φ⟩ (fun W h=>(ok_front (t:=1000) (t':=1000) h rfl)) Try.call57 rfl rfl (c_peer_part_57 go0 o0 _ hx3) (fun _ _=>?_)
 refine g_sta _ (fun W h=>(ok_front (t:=1000) (t':=1000) h rfl))<|g_v rfl (r_conv Try.underlying5 Try.underlying3 rfl rfl)<|g_v rfl r_assign<|g_nil<|d_then<|c_ret ?_
 cases hm
 exact d_retC () Try.results35 (res_tmp (res_nil rfl)) trivial (fun W h=>h.phi (fun W hφ=>hφ)) (.inr rfl)
theorem bld31_35 (z0 : Int) : ∀ W,(Instr.build 31 #[(0,Vi z0)]).run Try.prog W = .ok (.agg #[Vi z0,Vi 0,Vi 0,Ve,Vu 0,Vu 0,.bool false,V0,Vi 0,Vi 0,Vi 0,Vi 0,Vi 0,Vi 0,Vi 0,.bool false,V0,V0,Ve,Ve]) W:=fun _=>by kernel_rfl
noncomputable def m_pack_Long (p0 : ByteArray) (p1 : Int) : Option (Int×Int×Int):=
  (m_pack_number p0 p1 4).bind fun (z5 : Int×Int×Int)=>
  some (z5.1,z5.2.1,z5.2.2)
theorem c_pack_Long {w0 : World} {M : Nat→Prop} {H : List (Nat×Nat×Obj)} {R : List (Nat×Row)} {φ : World→Prop} (p0 : ByteArray) (p1 : Int) (r : Int×Int×Int) (hm : m_pack_Long p0 p1 = some r) :
    Cn Try.prog 60 #[Vs p0,Vi p1] ⟨w0,M,H,R,φ⟩ (fun x : Unit=>.tuple #[.int .u32 r.1,Vi r.2.1,Vi r.2.2]) (fun x=>True) (fun x=>⟨w0,M,H,R,φ⟩):=by
 unfold m_pack_Long at hm
 refine cn_intro (fn:=Try.f60) (N:=13) Try.func60 rfl Try.ntmps60 rfl<|c_seq<|c_region ?_
 iterate 3 refine g_v rfl r_assign ?_
 refine g_nil<|d_then<|c_seq<|c_region<|g_v rfl r_move<|g_v rfl r_move ?_
 replace hm:=bnd hm
 obtain ⟨⟨x1,x2,x3⟩,hx4,hm⟩:=hm
 refine g_cn ⟨w0,M,_,_,φ⟩ (fun _ h=>h) Try.call88 rfl rfl (c_pack_number p0 p1 4 _ hx4) (fun _ _=>?_)
 iterate 3 refine g_v rfl (r_extract rfl rfl) ?_
 iterate 3 refine g_v rfl r_assign ?_
 refine g_nil<|d_then ?_
 refine c_flat [(4,.int .u32 x1),(5,Vi x2),(6,Vi x3)] ⟨rfl,rfl,rfl,trivial⟩ (fun u=>?_)
 refine c_sta ⟨w0,M,H,R,φ⟩ (fun _ h=>h)<|c_ret ?_
 cases hm
 exact d_retC () Try.results60 (res_tmp (res_tmp (res_tmp (res_nil rfl)))) trivial (fun W h=>ok_pre (H1:=[]) (R1:=[]) h (fun W hφ=>hφ)) (.inr rfl)
noncomputable def m_peer_part_59 (o0 : Gpeer_reader) : Option (Int×Gpeer_reader):=
  if o0.fbad = true then
    some (0,o0)
  else
    (m_pack_Long o0.fs o0.fat).bind fun (z16 : Int×Int×Int)=>
    if z16.2.2 ≠ 0 then
      some (0,(⟨o0.fs,o0.fat,true⟩ : Gpeer_reader))
    else
      some (z16.1,(⟨o0.fs,z16.2.1,o0.fbad⟩ : Gpeer_reader))
theorem c_peer_part_59 {w0 : World} {M : Nat→Prop} {H : List (Nat×Nat×Obj)} {R : List (Nat×Row)} {φ : World→Prop} (go0 : Nat) (o0 : Gpeer_reader) (r : Int×Gpeer_reader) (hm : m_peer_part_59 o0 = some r) :
    Cn Try.prog 59 #[Vp go0,.func (.func 60) #[] #[]] ⟨w0,M,(1000,go0,.cells #[Vs o0.fs,Vi o0.fat,.bool o0.fbad] 78 (0,0))::H,R,φ⟩ (fun x : Unit=>.int .u32 r.1) (fun x=>True) (fun x=>⟨w0,M,(1000,go0,.cells #[Vs o0.fs,Vi r.2.fat,.bool r.2.fbad] 78 (0,0))::H,R,φ⟩):=by
 unfold m_peer_part_59 at hm
 refine cn_intro (fn:=Try.f59) (N:=39) Try.func59 rfl Try.ntmps59 rfl<|c_seq<|c_region<|g_v rfl r_assign<|g_nil<|d_then<|c_seq<|c_region<|g_v rfl r_assign<|g_nil ?_
 refine d_then<|c_seq<|c_seq<|c_region<|g_v rfl r_move<|g_v rfl (r_nilck rfl)<|g_v rfl (r_field (n:=2) Try.underlying78 rfl Try.sizeOf4 rfl rfl)<|g_v rfl (r_load (tag:=1000) rfl rfl rfl Try.isAgg4)<|g_nil<|d_then ?_
 refine c_cond rfl (fun h1=>?_) (fun h1=>?_)
 ·
  replace hm:=ite_t hm h1
  refine c_seq<|c_region<|g_v rfl r_move<|g_v rfl r_assign<|g_nil<|d_then<|c_ret<|d_ret_then ?_
  cases hm
  exact d_retC () Try.results59 (res_tmp (res_nil rfl)) trivial (fun W h=>h.phi (fun W hφ=>hφ)) (.inr rfl)
 replace hm:=ite_f hm (bool_nt h1)
 refine c_skip<|d_then<|c_seq<|ga_start (n:=17) ⟨w0,M,(1000,go0,.cells #[Vs o0.fs,Vi o0.fat,.bool o0.fbad] 78 (0,0))::H,R,φ⟩ [] #[false,false,false,false,false,false,false,false,false,false,false,false,false,false,false,false,false] (fun W h=>h.phi (fun W hφ=>hφ)) mixed rfl rfl<|ga_v (i:=0) (bz 17 1) rfl (by kernel_rfl) (fun _ _ _ _ h=>h) rfl (r_move)<|ga_v (i:=1) (bz 17 3) rfl (by kernel_rfl) (fun _ _ _ _ h=>h) rfl (r_move)<|ga_v (i:=2) (bz 17 7) rfl (by kernel_rfl) (fun _ _ _ _ h=>h) rfl (r_nilck rfl)<|ga_v (i:=3) (bz 17 15) rfl (by kernel_rfl) (fun _ _ _ _ h=>h) rfl (r_field (n:=0) Try.underlying78 rfl Try.sizeOf9 rfl rfl)<|ga_v (i:=4) (bz 17 31) rfl (by kernel_rfl) (fun _ _ _ _ h=>h) rfl (r_load (tag:=1000) rfl rfl rfl Try.isAgg9)<|ga_r (i:=5) (bz 17 63) rfl (by kernel_rfl) (by decide) rfl (r_move) ?_
 refine ga_r (i:=6) (bz 17 127) rfl (by kernel_rfl) (by decide) rfl (r_nilck rfl)<|ga_r (i:=7) (bz 17 255) rfl (by kernel_rfl) (by decide) rfl (r_field (n:=1) Try.underlying78 rfl Try.sizeOf3 rfl rfl)<|ga_r (i:=8) (bz 17 511) rfl (by kernel_rfl) (by decide) rfl (r_load (tag:=1000) rfl rfl rfl Try.isAgg3) ?_
 replace hm:=bnd hm
 obtain ⟨⟨x12,x13,x14⟩,hx15,hm⟩:=hm
 refine ga_cn (first:=#[]) (i:=9) (bz 17 1023) rfl (by kernel_rfl) (by decide)  ⟨w0,M,_,_,φ⟩ (fun _ h=>h) Try.call60 rfl rfl rfl (c_pack_Long o0.fs o0.fat _ hx15) (fun _ W _ h=>h.phi (fun W hφ=>hφ)) (fun _ _=>?_)
 refine ga_r (i:=10) (bz 17 2047) rfl (by kernel_rfl) (by decide) rfl (r_move)<|ga_v (i:=11) (bz 17 4095) rfl (by kernel_rfl) (fun _ _ _ _ h=>h) rfl (r_extract rfl rfl)<|ga_v (i:=12) (bz 17 8191) rfl (by kernel_rfl) (fun _ _ _ _ h=>h) rfl (r_extract rfl rfl)<|ga_v (i:=13) (bz 17 16383) rfl (by kernel_rfl) (fun _ _ _ _ h=>h) rfl (r_extract rfl rfl)<|ga_r (i:=14) (bz 17 32767) rfl (by kernel_rfl) (by decide) rfl (r_assign)<|ga_r (i:=15) (bz 17 65535) rfl (by kernel_rfl) (by decide) rfl (r_assign)<|ga_r (i:=16) (bz 17 131071) rfl (by kernel_rfl) (by decide) rfl (r_assign)<|ga_done (by kernel_rfl)<|d_then ?_
 refine c_flat [(0,Vp go0),(5,.int .u32 0),(6,.int .u32 x12),(7,Vi x13),(8,Vi x14)] ⟨rfl,rfl,rfl,rfl,rfl,trivial⟩ (fun u=>?_)
 refine c_sta ⟨w0,M,(1000,go0,.cells #[Vs o0.fs,Vi o0.fat,.bool o0.fbad] 78 (0,0))::H,R,φ⟩ (fun _ h=>h)<|c_seq<|c_seq<|c_region<|g_v rfl r_move<|g_v rfl (r_neq rfl rfl)<|g_nil<|d_then ?_
 refine c_cond rfl (fun h17=>?_) (fun h17=>?_)
 ·
  replace hm:=ite_t hm (of_decide_eq_true h17)
  refine c_seq<|c_region<|g_v rfl r_move<|g_v rfl (r_nilck rfl)<|g_v rfl (r_field (n:=2) Try.underlying78 rfl Try.sizeOf4 rfl rfl)<|g_storeL (tag:=1000) rfl rfl rfl rfl Try.sizeOf4 rfl rfl<|g_nil<|d_then<|c_seq<|c_region ?_
  refine g_v rfl r_move<|g_v rfl r_assign<|g_nil<|d_then<|c_ret<|d_ret_then ?_
  cases hm
  exact d_retC () Try.results59 (res_tmp (res_nil rfl)) trivial (fun W h=>h.phi (fun W hφ=>hφ)) (.inr rfl)
 replace hm:=ite_f hm (of_decide_eq_false h17)
 refine c_skip<|d_then<|c_seq<|c_region<|g_v rfl r_move<|g_v rfl r_move<|g_v rfl (r_nilck rfl)<|g_v rfl (r_field (n:=1) Try.underlying78 rfl Try.sizeOf3 rfl rfl)<|g_storeL (tag:=1000) rfl rfl rfl rfl Try.sizeOf3 rfl rfl<|g_nil ?_
 refine d_then<|c_seq<|c_region<|g_v rfl r_move<|g_v rfl r_assign<|g_nil<|d_then ?_
 refine c_flat [(4,.int .u32 x12)] ⟨rfl,trivial⟩ (fun u=>?_)
 refine c_sta ⟨w0,M,(1000,go0,.cells #[Vs o0.fs,Vi x13,.bool o0.fbad] 78 (0,0))::H,R,φ⟩ (fun _ h=>h)<|c_ret ?_
 cases hm
 exact d_retC () Try.results59 (res_tmp (res_nil rfl)) trivial (fun W h=>h.phi (fun W hφ=>hφ)) (.inr rfl)
noncomputable def m_peer_reader_eight_j1 (x1 : Int) (x5 : Int) (o0 : Gpeer_reader) (x6 : Gpeer_reader) (b10 : Bool) : Option (Int×Gpeer_reader):=
  some (orI .i64 (w64 ((w64 x1) * 4294967296)) (w64 x5),(⟨o0.fs,x6.fat,b10⟩ : Gpeer_reader))
noncomputable def m_peer_reader_eight (o0 : Gpeer_reader) : Option (Int×Gpeer_reader):=
  (m_peer_part_59 o0).bind fun (z4 : Int×Gpeer_reader)=>
  (m_peer_part_59 (⟨o0.fs,z4.2.fat,z4.2.fbad⟩ : Gpeer_reader)).bind fun (z8 : Int×Gpeer_reader)=>
  if z8.2.fbad = true then
    m_peer_reader_eight_j1 z4.1 z8.1 o0 z8.2 true
  else
    m_peer_reader_eight_j1 z4.1 z8.1 o0 z8.2 (decide (2147483648 ≤ z4.1))
theorem c_peer_reader_eight {w0 : World} {M : Nat→Prop} {H : List (Nat×Nat×Obj)} {R : List (Nat×Row)} {φ : World→Prop} (go0 : Nat) (o0 : Gpeer_reader) (r : Int×Gpeer_reader) (hm : m_peer_reader_eight o0 = some r) :
    Cn Try.prog 36 #[Vp go0] ⟨w0,M,(1000,go0,.cells #[Vs o0.fs,Vi o0.fat,.bool o0.fbad] 78 (0,0))::H,R,φ⟩ (fun x : Unit=>Vi r.1) (fun x=>True) (fun x=>⟨w0,M,(1000,go0,.cells #[Vs o0.fs,Vi r.2.fat,.bool r.2.fbad] 78 (0,0))::H,R,φ⟩):=by
 unfold m_peer_reader_eight at hm
 refine cn_intro (fn:=Try.f36) (N:=26) Try.func36 rfl Try.ntmps36 rfl<|c_seq<|c_region<|g_v rfl r_assign<|g_nil<|d_then<|c_seq<|c_region<|g_v rfl r_move ?_
 replace hm:=bnd hm
 obtain ⟨⟨x1,x2⟩,hx3,hm⟩:=hm
 refine g_cn ⟨w0,M,(1000,go0,.cells #[Vs o0.fs,Vi o0.fat,.bool o0.fbad] 78 (0,0))::H,R,φ⟩ (fun W h=>(ok_front (t:=1000) (t':=1000) h rfl)) Try.call59 rfl rfl (c_peer_part_59 go0 o0 _ hx3) (fun _ _=>?_)
 refine g_sta _ (fun W h=>(ok_front (t:=1000) (t':=1000) h rfl))<|g_v rfl r_assign<|g_nil<|d_then<|c_seq<|c_region<|g_v rfl r_move ?_
 replace hm:=bnd hm
 obtain ⟨⟨x5,x6⟩,hx7,hm⟩:=hm
 refine g_cn ⟨w0,M,(1000,go0,.cells #[Vs o0.fs,Vi x2.fat,.bool x2.fbad] 78 (0,0))::H,R,φ⟩ (fun W h=>(ok_front (t:=1000) (t':=1000) h rfl)) Try.call59 rfl rfl (c_peer_part_59 go0 (⟨o0.fs,x2.fat,x2.fbad⟩ : Gpeer_reader) _ hx7) (fun _ _=>?_)
 refine g_sta _ (fun W h=>(ok_front (t:=1000) (t':=1000) h rfl))<|g_v rfl r_assign<|g_nil<|d_then<|c_seq ?_
 refine c_cut (ι:=Bool) [3,4] (fun b10=>[]) (fun b10=>⟨w0,M,(1000,go0,.cells #[Vs o0.fs,Vi x6.fat,.bool b10] 78 (0,0))::H,R,φ⟩) (fun b10=>m_peer_reader_eight_j1 x1 x5 o0 x6 b10 = some r) ?_ (fun b10 u hm=>?_)
 ·
  refine c_region<|g_v rfl r_move<|g_v rfl r_move<|g_v rfl (r_nilck rfl)<|g_v rfl (r_field (n:=2) Try.underlying78 rfl Try.sizeOf4 rfl rfl)<|g_v rfl (r_load (tag:=1000) rfl rfl rfl Try.isAgg4)<|g_v rfl r_move ?_
  refine g_if rfl rfl rfl rfl rfl (fun h11=>?_) (fun h11=>?_)
  ·
   replace hm:=ite_f hm (bool_nt h11)
   refine g_v rfl r_move<|g_do rfl rfl rfl rfl rfl h11<|g_v rfl (r_geq rfl rfl)<|g_v rfl (r_pick0 rfl h11)<|g_v rfl (r_nilck rfl)<|g_v rfl (r_field (n:=2) Try.underlying78 rfl Try.sizeOf4 rfl rfl)<|g_storeL (tag:=1000) rfl rfl rfl rfl Try.sizeOf4 rfl rfl<|g_nil ?_
   exact d_round (decide (2147483648 ≤ x1)) hm Nat.zero_lt_one ⟨rfl,rfl,trivial⟩ (fun W h=>h.phi (fun W hφ=>hφ))
  replace hm:=ite_t hm h11
  refine g_no rfl rfl rfl rfl rfl h11<|g_v rfl (r_pick1 rfl h11)<|g_v rfl (r_nilck rfl)<|g_v rfl (r_field (n:=2) Try.underlying78 rfl Try.sizeOf4 rfl rfl)<|g_storeL (tag:=1000) rfl rfl rfl rfl Try.sizeOf4 rfl rfl<|g_nil ?_
  exact d_round true hm Nat.zero_lt_one ⟨rfl,rfl,trivial⟩ (fun W h=>h.phi (fun W hφ=>hφ))
 unfold m_peer_reader_eight_j1 at hm
 refine d_flat [(3,.int .u32 x1),(4,.int .u32 x5)] ⟨rfl,rfl,trivial⟩ (fun u=>?_)
 refine d_sta ⟨w0,M,(1000,go0,.cells #[Vs o0.fs,Vi x6.fat,.bool b10] 78 (0,0))::H,R,φ⟩ (fun _ h=>h)<|d_then<|c_seq<|c_region<|g_v rfl r_move<|g_v rfl (r_conv Try.underlying52 Try.underlying3 rfl rfl)<|g_v rfl (r_shl (n:=4294967296) rfl rfl (by decide) (by decide) (by decide))<|g_v rfl r_move<|g_v rfl (r_conv Try.underlying52 Try.underlying3 rfl rfl)<|g_v rfl (r_bits_or rfl rfl) ?_
 refine g_v rfl r_assign<|g_nil<|d_then<|c_ret ?_
 cases hm
 exact d_retC () Try.results36 (res_tmp (res_nil rfl)) trivial (fun W h=>h.phi (fun W hφ=>hφ)) (.inr rfl)
noncomputable def m_pack_Name_c1 (p0 : Int) (o0 : Int) : Option Int:=
  if o0 < 0 then
    some p0
  else
    some o0
theorem c_pack_Name_c1 {w0 : World} {M : Nat→Prop} {H : List (Nat×Nat×Obj)} {R : List (Nat×Row)} {φ : World→Prop} (p0 : Int) (go0 : Nat) (o0 : Int) (r : Int) (hm : m_pack_Name_c1 p0 o0 = some r) :
    Cn Try.prog 61 #[Vi p0,Vp go0] ⟨w0,M,(1000,go0,.cells #[Vi o0] 3 (0,0))::H,R,φ⟩ (fun x : Unit=>.tuple #[]) (fun x=>True) (fun x=>⟨w0,M,(1000,go0,.cells #[Vi r] 3 (0,0))::H,R,φ⟩):=by
 unfold m_pack_Name_c1 at hm
 refine cn_intro (fn:=Try.f61) (N:=6) Try.func61 rfl Try.ntmps61 rfl<|c_seq<|c_region<|g_v rfl (r_load (tag:=1000) rfl rfl rfl Try.isAgg3)<|g_v rfl (r_lss rfl rfl)<|g_nil<|d_then ?_
 refine c_cond rfl (fun h1=>?_) (fun h1=>?_)
 ·
  replace hm:=ite_t hm (of_decide_eq_true h1)
  refine c_region<|g_v rfl r_move<|g_storeL (tag:=1000) rfl rfl rfl rfl Try.sizeOf3 rfl rfl<|g_nil ?_
  cases hm
  exact d_retC () Try.results61 (res_nil rfl) trivial (fun W h=>h.phi (fun W hφ=>hφ)) (.inl rfl)
 replace hm:=ite_f hm (of_decide_eq_false h1)
 refine c_skip ?_
 cases hm
 exact d_retC () Try.results61 (res_nil rfl) trivial (fun W h=>h.phi (fun W hφ=>hφ)) (.inl rfl)
noncomputable def m_pack_Word (p0 : ByteArray) (p1 : Int) : Option (Int×Int×Int):=
  (m_pack_number p0 p1 2).bind fun (z5 : Int×Int×Int)=>
  some (IntKind.u16.wrap z5.1,z5.2.1,z5.2.2)
theorem c_pack_Word {w0 : World} {M : Nat→Prop} {H : List (Nat×Nat×Obj)} {R : List (Nat×Row)} {φ : World→Prop} (p0 : ByteArray) (p1 : Int) (r : Int×Int×Int) (hm : m_pack_Word p0 p1 = some r) :
    Cn Try.prog 62 #[Vs p0,Vi p1] ⟨w0,M,H,R,φ⟩ (fun x : Unit=>.tuple #[Vu r.1,Vi r.2.1,Vi r.2.2]) (fun x=>True) (fun x=>⟨w0,M,H,R,φ⟩):=by
 unfold m_pack_Word at hm
 refine cn_intro (fn:=Try.f62) (N:=21) Try.func62 rfl Try.ntmps62 rfl<|c_seq<|c_region ?_
 iterate 3 refine g_v rfl r_assign ?_
 refine g_nil<|d_then<|c_seq<|c_region<|g_v rfl r_move<|g_v rfl r_move ?_
 replace hm:=bnd hm
 obtain ⟨⟨x1,x2,x3⟩,hx4,hm⟩:=hm
 refine g_cn ⟨w0,M,_,_,φ⟩ (fun _ h=>h) Try.call88 rfl rfl (c_pack_number p0 p1 2 _ hx4) (fun _ _=>?_)
 refine g_v rfl r_move ?_
 iterate 3 refine g_v rfl (r_extract rfl rfl) ?_
 iterate 3 refine g_v rfl r_assign ?_
 refine g_nil<|d_then ?_
 refine c_flat [(7,.int .u32 x1),(8,Vi x2),(9,Vi x3)] ⟨rfl,rfl,rfl,trivial⟩ (fun u=>?_)
 refine c_sta ⟨w0,M,H,R,φ⟩ (fun _ h=>h)<|c_seq<|c_region<|g_v rfl r_move<|g_v rfl (r_conv Try.underlying52 Try.underlying22 rfl rfl)<|g_v rfl r_move<|g_v rfl r_move ?_
 iterate 3 refine g_v rfl r_assign ?_
 refine g_nil<|d_then<|c_ret ?_
 cases hm
 exact d_retC () Try.results62 (res_tmp (res_tmp (res_tmp (res_nil rfl)))) trivial (fun W h=>ok_pre (H1:=[]) (R1:=[]) h (fun W hφ=>hφ)) (.inr rfl)
noncomputable def m_pack_Name_s1 (p0 : ByteArray) (l259 : List Int) (i262 : Int) (i263 : Int) (i264 : Int) : Option (((List Int)×Int×Int×Int) ⊕ (Unit ⊕ (ByteArray×Int×Int))):=
  (m_pack_Byte p0 i262).bind fun (z322 : Int×Int×Int)=>
  if z322.2.2 ≠ 0 then
    some (.inr (.inr ((⟨#[]⟩ : ByteArray),0,z322.2.2)))
  else
    if z322.1 = 0 then
      (m_pack_Name_c1 z322.2.1 i264).bind fun x325=>
      (app 1 l259 [0]).bind fun l336=>
      some (.inr (.inr (strOfNums l336,x325,0)))
    else
      if 192 ≤ z322.1 then
        (m_pack_Word p0 i262).bind fun (z344 : Int×Int×Int)=>
        if z344.2.2 ≠ 0 then
          some (.inr (.inr ((⟨#[]⟩ : ByteArray),0,10)))
        else
          if i263 ≤ andI .i64 (w64 z344.1) 16383 then
            some (.inr (.inr ((⟨#[]⟩ : ByteArray),0,10)))
          else
            (m_pack_Name_c1 z344.2.1 i264).bind fun x347=>
            some (.inl (l259,andI .i64 (w64 z344.1) 16383,andI .i64 (w64 z344.1) 16383,x347))
      else
        if 63 < z322.1 then
          some (.inr (.inr ((⟨#[]⟩ : ByteArray),0,10)))
        else
          (m_pack_Raw p0 z322.2.1 (w64 z322.1)).bind fun (z355 : ByteArray×Int×Int)=>
          if z355.2.2 ≠ 0 then
            some (.inr (.inr ((⟨#[]⟩ : ByteArray),0,z355.2.2)))
          else
            if 255 < w64 ((w64 ((w64 ((l259.length : Int) + 1)) + (z355.1.size : Int))) + 1) then
              some (.inr (.inr ((⟨#[]⟩ : ByteArray),0,11)))
            else
              (app 1 l259 [z322.1]).bind fun l359=>
              (app 1 l359 (bytesI z355.1)).bind fun l362=>
              some (.inl (l362,z355.2.1,i263,i264))
noncomputable def m_pack_Name (p0 : ByteArray) (p1 : Int) : Option (ByteArray×Int×Int):=
  (loop (fun s=>m_pack_Name_s1 p0 s.1 s.2.1 s.2.2.1 s.2.2.2) (([] : List Int),p1,p1,(-1))).bind fun e=>Sum.elim (fun e=>(none : Option (ByteArray×Int×Int))) (fun x=>some x) e
theorem c_pack_Name {w0 : World} {M : Nat→Prop} {H : List (Nat×Nat×Obj)} {R : List (Nat×Row)} {φ : World→Prop} (p0 : ByteArray) (p1 : Int) (r : ByteArray×Int×Int) (hm : m_pack_Name p0 p1 = some r) :
    Cn Try.prog 38 #[Vs p0,Vi p1] ⟨w0,M,H,R,φ⟩ (fun x : Unit=>.tuple #[Vs r.1,Vi r.2.1,Vi r.2.2]) (fun x=>True) (fun x=>⟨w0,M,H,R,φ⟩):=by
 unfold m_pack_Name at hm
 refine cn_intro (fn:=Try.f38) (N:=101) Try.func38 rfl Try.ntmps38 rfl<|c_seq<|c_region ?_
 iterate 3 refine g_v rfl r_assign ?_
 refine g_nil<|d_then<|c_seq<|c_region<|g_v rfl r_assign<|g_nil<|d_then<|c_seq<|c_region<|g_v rfl r_move ?_
 refine g_e rfl (e_alloc 100080 Try.zeroValue3) (fun g1 _=>?_)
 refine g_storeL (tag:=100080) rfl rfl rfl rfl Try.sizeOf3 rfl rfl<|g_v rfl r_assign<|g_nil<|d_then<|c_seq<|c_region<|g_v rfl (r_mkf rfl)<|g_v rfl r_assign<|g_nil<|d_then ?_
 refine c_flat [(0,Vs p0),(1,Vi p1),(7,V0),(8,Vp g1),(9,Vi p1),(10,.func (.func 61) #[] #[Vp g1])] ⟨rfl,rfl,rfl,rfl,rfl,rfl,trivial⟩ (fun u=>?_)
 refine c_sta ⟨w0,M,(100080,g1,.cells #[Vi (-1)] 3 (0,0))::H,R,φ⟩ (fun _ h=>h) ?_
 -- no way on
 refine c_block<|c_sta _ (fun W h=>nilR h 20 5 1) ?_
 replace hm:=bnd hm
 obtain ⟨out1,hl1,hr1⟩:=hm
 obtain ⟨n317',hl1⟩:=loop_lp hl1
 refine c_loopU (ι:=Nat×(List Int)×Int×Int×Int×Option Addr×Nat) [0,1,7,8,9,10] (fun ⟨n317,l259,i262,i263,i264,A260,c261⟩=>[(1,Vi i262),(7,.slice A260 l259.length c261),(9,Vi i263)]) (fun ⟨n317,l259,i262,i263,i264,A260,c261⟩=>⟨w0,M,(100080,g1,.cells #[Vi i264] 3 (0,0))::H,(20,⟨.slice A260 l259.length c261,5,1,l259.length,l259.flatMap (fun x : Int=>[Value.int .u8 x])⟩)::R,φ⟩) (fun ⟨n317,l259,i262,i263,i264,A260,c261⟩=>Lp (fun s=>m_pack_Name_s1 p0 s.1 s.2.1 s.2.2.1 s.2.2.2) n317 (l259,i262,i263,i264) out1∧l259.length ≤ c261) (fun ⟨n317,l259,i262,i263,i264,A260,c261⟩=>n317) (n317',([] : List Int),p1,p1,(-1),none,0) ⟨hl1,(Nat.le_refl 0)⟩ ⟨rfl,rfl,rfl,rfl,rfl,rfl,trivial⟩ (fun W h=>h.phi (fun W hφ=>hφ)) (fun ⟨n317,l259,i262,i263,i264,A260,c261⟩ u ⟨hlp,hc261⟩=>?_)
 obtain ⟨o1,hm,hnx1⟩:=lp_step hlp
 clear hlp
 replace hm : m_pack_Name_s1 p0 l259 i262 i263 i264 = some o1:=hm
 unfold m_pack_Name_s1 at hm
 refine c_flat [(0,Vs p0),(1,Vi i262),(7,.slice A260 l259.length c261),(8,Vp g1),(9,Vi i263),(10,.func (.func 61) #[] #[Vp g1])] ⟨rfl,rfl,rfl,rfl,rfl,rfl,trivial⟩ (fun u=>?_)
 refine c_sta ⟨w0,M,(100080,g1,.cells #[Vi i264] 3 (0,0))::H,(20,⟨.slice A260 l259.length c261,5,1,l259.length,l259.flatMap (fun x : Int=>[Value.int .u8 x])⟩)::R,φ⟩ (fun _ h=>h)<|c_block<|c_seq<|c_region<|g_v rfl r_move<|g_v rfl r_move ?_
 replace hm:=bnd hm
 obtain ⟨⟨x318,x319,x320⟩,hx321,hm⟩:=hm
 refine g_cn ⟨w0,M,_,_,φ⟩ (fun _ h=>h) Try.call58 rfl rfl (c_pack_Byte p0 i262 _ hx321) (fun _ _=>?_)
 refine g_v rfl r_move ?_
 iterate 3 refine g_v rfl (r_extract rfl rfl) ?_
 iterate 3 refine g_v rfl r_assign ?_
 refine g_nil<|d_then ?_
 refine c_flat [(0,Vs p0),(1,Vi i262),(7,.slice A260 l259.length c261),(8,Vp g1),(9,Vi i263),(10,.func (.func 61) #[] #[Vp g1]),(11,.int .u8 x318),(12,Vi x319),(13,Vi x320)] ⟨rfl,rfl,rfl,rfl,rfl,rfl,rfl,rfl,rfl,trivial⟩ (fun u=>?_)
 refine c_seq<|c_block<|c_seq<|c_region<|g_v rfl r_move<|g_v rfl (r_neq rfl rfl)<|g_v rfl r_assign<|g_nil<|d_then ?_
 refine c_cond rfl (fun h323=>?_) (fun h323=>?_)
 ·
  replace hm:=ite_t hm (of_decide_eq_true h323)
  refine c_seq<|c_region<|g_v rfl r_move ?_
  iterate 3 refine g_v rfl r_assign ?_
  refine g_nil<|d_then<|c_ret<|d_ret_block<|d_ret_then<|d_ret_block<|d_ret_then<|d_ret_block ?_
  replace hm:=nx_out (C:=(fun e : Unit ⊕ (ByteArray×Int×Int)=>Sum.elim (fun e=>(none : Option (ByteArray×Int×Int))) (fun x=>some x) e = some r)) hm hnx1 hr1
  replace hm : some (eB,0,x320) = some r:=hm
  cases hm
  exact d_retC () Try.results38 (res_tmp (res_tmp (res_tmp (res_nil rfl)))) trivial (fun W h=>ok_pre (H1:=[_]) (R1:=[_]) h (fun W hφ=>hφ)) (.inr rfl)
 replace hm:=ite_f hm (of_decide_eq_false h323)
 refine c_seq<|c_region<|g_v rfl r_move<|g_v rfl (r_eql rfl rfl)<|g_v rfl r_assign<|g_nil<|d_then ?_
 refine c_cond rfl (fun h324=>?_) (fun h324=>?_)
 ·
  replace hm:=ite_t hm (of_decide_eq_true h324)
  refine c_seq<|c_region<|g_v rfl r_move<|g_v rfl r_move ?_
  replace hm:=bnd hm
  obtain ⟨x325,hx326,hm⟩:=hm
  refine g_cnv ⟨w0,M,(1000,g1,.cells #[Vi i264] 3 (0,0))::H,(20,⟨.slice A260 l259.length c261,5,1,l259.length,l259.flatMap (fun x : Int=>[Value.int .u8 x])⟩)::R,φ⟩ (fun W h=>(ok_front (t:=100080) (t':=1000) h rfl)) Try.call61 rfl rfl rfl (c_pack_Name_c1 x319 g1 i264 _ hx326) (fun _ _=>?_)
  refine g_sta _ (fun W h=>(ok_front (t:=1000) (t':=100080) h rfl))<|g_nil<|d_then ?_
  refine c_flat [(7,.slice A260 l259.length c261),(8,Vp g1)] ⟨rfl,rfl,trivial⟩ (fun u=>?_)
  refine c_sta ⟨w0,M,(100080,g1,.cells #[Vi x325] 3 (0,0))::H,(20,⟨.slice A260 l259.length c261,5,1,l259.length,l259.flatMap (fun x : Int=>[Value.int .u8 x])⟩)::R,φ⟩ (fun _ h=>h)<|c_seq<|ga_start (n:=8) ⟨w0,M,(100080,g1,.cells #[Vi x325] 3 (0,0))::H,R,φ⟩ [] #[false,false,false,false,false,false,false,false] (fun W h=>(h.dropR (t:=20) rfl).phi (fun W hφ=>hφ)) mixed rfl rfl<|ga_v (i:=0) (bz 8 1) rfl (by kernel_rfl) (fun _ _ _ _ h=>h) rfl (r_move)<|ga_v (i:=4) (bz 8 17) rfl (by kernel_rfl) (fun _ _ _ _ h=>h) rfl (r_load (tag:=100080) rfl rfl rfl Try.isAgg3) ?_
  refine ga_e (i:=1) (bz 8 19) rfl (by kernel_rfl) (by decide) rfl  (e_lit (tag:=100400) (l:=[0]) (enc:=(fun x : Int=>[Value.int .u8 x])) (sz:=1) rfl Try.underlying91 (lit5_15 _) rfl rfl (fun _=>rfl)) (fun g335 W _ h=>((h.dropR (t:=100400) rfl).dropR (t:=20) rfl).phi (fun W hφ=>hφ)) (fun g335 _=>?_)
  replace hm:=bnd hm
  obtain ⟨l336,hl336,hm⟩:=hm
  refine ga_e (i:=2) (bz 8 23) rfl (by kernel_rfl) (by decide) rfl  (e_appR (enc:=(fun x : Int=>[Value.int .u8 x])) (l:=l259) (l1:=[0]) (l2:=l336) (tag:=20) Try.underlying91 inf5_16 rfl (by decide) (by decide) (fun _=>rfl) (fun _=>rfl) rfl hc261 rfl rfl (fun W hS=>rowCl (tag:=100400) rfl W hS) hl336) (fun ⟨A337,c338⟩ W hc338 h=>((h.dropR (t:=100400) rfl).dropR (t:=20) rfl).phi (fun W hφ=>hφ)) (fun ⟨A337,c338⟩ hc338=>?_)
  refine ga_r (i:=3) (bz 8 31) rfl (by kernel_rfl) (by decide) rfl (r_textE Try.underlying91 Try.underlying5 Try.underlying9 rfl (fun W hS=>rowCl (tag:=20) rfl W hS))<|ga_r (i:=5) (bz 8 63) rfl (by kernel_rfl) (by decide) rfl (r_assign)<|ga_r (i:=6) (bz 8 127) rfl (by kernel_rfl) (by decide) rfl (r_assign)<|ga_r (i:=7) (bz 8 255) rfl (by kernel_rfl) (by decide) rfl (r_assign)<|ga_done (by kernel_rfl)<|d_then<|c_ret<|d_ret_block<|d_ret_then<|d_ret_block ?_
  refine d_ret_then<|d_ret_block ?_
  replace hm:=nx_out (C:=(fun e : Unit ⊕ (ByteArray×Int×Int)=>Sum.elim (fun e=>(none : Option (ByteArray×Int×Int))) (fun x=>some x) e = some r)) hm hnx1 hr1
  replace hm : some (strOfNums l336,x325,0) = some r:=hm
  cases hm
  exact d_retC () Try.results38 (res_tmp (res_tmp (res_tmp (res_nil rfl)))) trivial (fun W h=>ok_pre (H1:=[_]) (R1:=[_,_]) h (fun W hφ=>hφ)) (.inr rfl)
 replace hm:=ite_f hm (of_decide_eq_false h324)
 refine c_seq<|c_region<|g_v rfl r_move<|g_v rfl (r_geq rfl rfl)<|g_v rfl r_assign<|g_nil<|d_then ?_
 refine c_flat [(0,Vs p0),(1,Vi i262),(7,.slice A260 l259.length c261),(8,Vp g1),(9,Vi i263),(10,.func (.func 61) #[] #[Vp g1]),(11,.int .u8 x318),(12,Vi x319),(44,.bool (decide (192 ≤ x318)))] ⟨rfl,rfl,rfl,rfl,rfl,rfl,rfl,rfl,rfl,trivial⟩ (fun u=>?_)
 refine c_cond rfl (fun h339=>?_) (fun h339=>?_)
 ·
  replace hm:=ite_t hm (of_decide_eq_true h339)
  refine c_seq<|c_region<|g_v rfl r_move<|g_v rfl r_move ?_
  replace hm:=bnd hm
  obtain ⟨⟨x340,x341,x342⟩,hx343,hm⟩:=hm
  refine g_cn ⟨w0,M,_,_,φ⟩ (fun _ h=>h) Try.call62 rfl rfl (c_pack_Word p0 i262 _ hx343) (fun _ _=>?_)
  refine g_v rfl r_move ?_
  iterate 3 refine g_v rfl (r_extract rfl rfl) ?_
  iterate 3 refine g_v rfl r_assign ?_
  refine g_nil<|d_then ?_
  refine c_flat [(0,Vs p0),(7,.slice A260 l259.length c261),(8,Vp g1),(9,Vi i263),(10,.func (.func 61) #[] #[Vp g1]),(14,Vu x340),(15,Vi x341),(16,Vi x342)] ⟨rfl,rfl,rfl,rfl,rfl,rfl,rfl,rfl,trivial⟩ (fun u=>?_)
  refine c_seq<|c_region<|g_v rfl r_move<|g_v rfl (r_conv Try.underlying22 Try.underlying3 rfl rfl)<|g_v rfl (r_bits_and rfl rfl)<|g_v rfl r_assign<|g_nil<|d_then<|c_seq<|c_seq ?_
  refine c_region<|g_v rfl r_move<|g_v rfl (r_neq rfl rfl)<|g_v rfl r_move ?_
  refine g_if rfl rfl rfl rfl rfl (fun h345=>?_) (fun h345=>?_)
  ·
   replace hm:=ite_f hm (of_decide_eq_false h345)
   refine g_v rfl r_move<|g_do rfl rfl rfl rfl rfl h345<|g_v rfl r_move<|g_do rfl rfl rfl rfl rfl h345<|g_v rfl (r_geq rfl rfl)<|g_v rfl (r_pick0 rfl h345)<|g_nil<|d_then ?_
   refine c_flat [(0,Vs p0),(7,.slice A260 l259.length c261),(8,Vp g1),(10,.func (.func 61) #[] #[Vp g1]),(15,Vi x341),(17,Vi (andI .i64 (w64 x340) 16383)),(63,.bool (decide (i263 ≤ andI .i64 (w64 x340) 16383)))] ⟨rfl,rfl,rfl,rfl,rfl,rfl,rfl,trivial⟩ (fun u=>?_)
   refine c_cond rfl (fun h346=>?_) (fun h346=>?_)
   ·
    replace hm:=ite_t hm (of_decide_eq_true h346)
    refine c_seq<|c_region ?_
    iterate 3 refine g_v rfl r_assign ?_
    refine g_nil<|d_then<|c_ret<|d_ret_then<|d_ret_block<|d_ret_then<|d_ret_block<|d_ret_then<|d_ret_block ?_
    replace hm:=nx_out (C:=(fun e : Unit ⊕ (ByteArray×Int×Int)=>Sum.elim (fun e=>(none : Option (ByteArray×Int×Int))) (fun x=>some x) e = some r)) hm hnx1 hr1
    replace hm : some (eB,0,10) = some r:=hm
    cases hm
    exact d_retC () Try.results38 (res_tmp (res_tmp (res_tmp (res_nil rfl)))) trivial (fun W h=>ok_pre (H1:=[_]) (R1:=[_]) h (fun W hφ=>hφ)) (.inr rfl)
   replace hm:=ite_f hm (of_decide_eq_false h346)
   refine c_skip<|d_then<|c_seq<|c_region<|g_v rfl r_move<|g_v rfl r_move ?_
   replace hm:=bnd hm
   obtain ⟨x347,hx348,hm⟩:=hm
   refine g_cnv ⟨w0,M,(1000,g1,.cells #[Vi i264] 3 (0,0))::H,(20,⟨.slice A260 l259.length c261,5,1,l259.length,l259.flatMap (fun x : Int=>[Value.int .u8 x])⟩)::R,φ⟩ (fun W h=>(ok_front (t:=100080) (t':=1000) h rfl)) Try.call61 rfl rfl rfl (c_pack_Name_c1 x341 g1 i264 _ hx348) (fun _ _=>?_)
   refine g_sta _ (fun W h=>(ok_front (t:=1000) (t':=100080) h rfl))<|g_nil<|d_then<|c_seq<|c_region<|g_v rfl r_move<|g_v rfl r_move<|g_v rfl r_assign<|g_v rfl r_assign<|g_nil ?_
   refine d_then<|c_exit<|d_exit_other rfl<|d_exit_then<|d_exit_block ?_
   obtain ⟨n349,hn349,hlp⟩:=nx_inl hm hnx1
   exact d_round (n349,l259,andI .i64 (w64 x340) 16383,andI .i64 (w64 x340) 16383,x347,A260,c261) ⟨hlp,hc261⟩ hn349 ⟨rfl,rfl,rfl,rfl,rfl,rfl,trivial⟩ (fun W h=>h.phi (fun W hφ=>hφ))
  replace hm:=ite_t hm (of_decide_eq_true h345)
  refine g_no rfl rfl rfl rfl rfl h345<|g_no rfl rfl rfl rfl rfl h345<|g_v rfl (r_pick1 rfl h345)<|g_nil<|d_then<|c_cond1 rfl rfl<|c_seq<|c_region ?_
  iterate 3 refine g_v rfl r_assign ?_
  refine g_nil<|d_then ?_
  refine c_flat [(4,Ve),(5,Vi 0),(6,Vi 10)] ⟨rfl,rfl,rfl,trivial⟩ (fun u=>?_)
  refine c_ret<|d_ret_then<|d_ret_block<|d_ret_then<|d_ret_block<|d_ret_then<|d_ret_block ?_
  replace hm:=nx_out (C:=(fun e : Unit ⊕ (ByteArray×Int×Int)=>Sum.elim (fun e=>(none : Option (ByteArray×Int×Int))) (fun x=>some x) e = some r)) hm hnx1 hr1
  replace hm : some (eB,0,10) = some r:=hm
  cases hm
  exact d_retC () Try.results38 (res_tmp (res_tmp (res_tmp (res_nil rfl)))) trivial (fun W h=>ok_pre (H1:=[_]) (R1:=[_]) h (fun W hφ=>hφ)) (.inr rfl)
 replace hm:=ite_f hm (of_decide_eq_false h339)
 refine c_seq<|c_region<|g_v rfl r_move<|g_v rfl (r_gtr rfl rfl)<|g_v rfl r_assign<|g_nil<|d_then ?_
 refine c_cond rfl (fun h350=>?_) (fun h350=>?_)
 ·
  replace hm:=ite_t hm (of_decide_eq_true h350)
  refine c_seq<|c_region ?_
  iterate 3 refine g_v rfl r_assign ?_
  refine g_nil<|d_then<|c_ret<|d_ret_block<|d_ret_then<|d_ret_block<|d_ret_then<|d_ret_block ?_
  replace hm:=nx_out (C:=(fun e : Unit ⊕ (ByteArray×Int×Int)=>Sum.elim (fun e=>(none : Option (ByteArray×Int×Int))) (fun x=>some x) e = some r)) hm hnx1 hr1
  replace hm : some (eB,0,10) = some r:=hm
  cases hm
  exact d_retC () Try.results38 (res_tmp (res_tmp (res_tmp (res_nil rfl)))) trivial (fun W h=>ok_pre (H1:=[_]) (R1:=[_]) h (fun W hφ=>hφ)) (.inr rfl)
 replace hm:=ite_f hm (of_decide_eq_false h350)
 refine c_skip<|d_normal_block<|d_then<|c_seq<|c_region ?_
 iterate 3 refine g_v rfl r_move ?_
 refine g_v rfl (r_conv Try.underlying5 Try.underlying3 rfl rfl) ?_
 replace hm:=bnd hm
 obtain ⟨⟨x351,x352,x353⟩,hx354,hm⟩:=hm
 refine g_cn ⟨w0,M,_,_,φ⟩ (fun _ h=>h) Try.call63 rfl rfl (c_pack_Raw p0 x319 (w64 x318) _ hx354) (fun _ _=>?_)
 refine g_v rfl r_move ?_
 iterate 3 refine g_v rfl (r_extract rfl rfl) ?_
 iterate 3 refine g_v rfl r_assign ?_
 refine g_nil<|d_then ?_
 refine c_flat [(0,Vs p0),(7,.slice A260 l259.length c261),(8,Vp g1),(9,Vi i263),(10,.func (.func 61) #[] #[Vp g1]),(11,.int .u8 x318),(13,Vi x353),(18,Vs x351),(19,Vi x352)] ⟨rfl,rfl,rfl,rfl,rfl,rfl,rfl,rfl,rfl,trivial⟩ (fun u=>?_)
 refine c_seq<|c_block<|c_seq<|c_region<|g_v rfl r_move<|g_v rfl (r_neq rfl rfl)<|g_v rfl r_assign<|g_nil<|d_then ?_
 refine c_cond rfl (fun h356=>?_) (fun h356=>?_)
 ·
  replace hm:=ite_t hm (of_decide_eq_true h356)
  refine c_seq<|c_region<|g_v rfl r_move ?_
  iterate 3 refine g_v rfl r_assign ?_
  refine g_nil<|d_then<|c_ret<|d_ret_block<|d_ret_then<|d_ret_block<|d_ret_then<|d_ret_block ?_
  replace hm:=nx_out (C:=(fun e : Unit ⊕ (ByteArray×Int×Int)=>Sum.elim (fun e=>(none : Option (ByteArray×Int×Int))) (fun x=>some x) e = some r)) hm hnx1 hr1
  replace hm : some (eB,0,x353) = some r:=hm
  cases hm
  exact d_retC () Try.results38 (res_tmp (res_tmp (res_tmp (res_nil rfl)))) trivial (fun W h=>ok_pre (H1:=[_]) (R1:=[_]) h (fun W hφ=>hφ)) (.inr rfl)
 replace hm:=ite_f hm (of_decide_eq_false h356)
 refine c_seq<|c_region<|g_v rfl r_move<|g_v rfl (r_lenL Try.underlying91 rfl)<|g_v rfl (r_add rfl rfl rfl)<|g_v rfl r_move<|g_v rfl (r_len Try.underlying9 rfl)<|g_v rfl (r_add rfl rfl rfl)<|g_v rfl (r_add rfl rfl rfl)<|g_v rfl (r_gtr rfl rfl) ?_
 refine g_v rfl r_assign<|g_nil<|d_then ?_
 refine c_flat [(0,Vs p0),(7,.slice A260 l259.length c261),(8,Vp g1),(9,Vi i263),(10,.func (.func 61) #[] #[Vp g1]),(11,.int .u8 x318),(18,Vs x351),(19,Vi x352),(85,.bool (decide (255 < w64 ((w64 ((w64 ((l259.length : Int) + 1)) + (x351.size : Int))) + 1))))] ⟨rfl,rfl,rfl,rfl,rfl,rfl,rfl,rfl,rfl,trivial⟩ (fun u=>?_)
 refine c_cond rfl (fun h357=>?_) (fun h357=>?_)
 ·
  replace hm:=ite_t hm (of_decide_eq_true h357)
  refine c_seq<|c_region ?_
  iterate 3 refine g_v rfl r_assign ?_
  refine g_nil<|d_then<|c_ret<|d_ret_block<|d_ret_then<|d_ret_block<|d_ret_then<|d_ret_block ?_
  replace hm:=nx_out (C:=(fun e : Unit ⊕ (ByteArray×Int×Int)=>Sum.elim (fun e=>(none : Option (ByteArray×Int×Int))) (fun x=>some x) e = some r)) hm hnx1 hr1
  replace hm : some (eB,0,11) = some r:=hm
  cases hm
  exact d_retC () Try.results38 (res_tmp (res_tmp (res_tmp (res_nil rfl)))) trivial (fun W h=>ok_pre (H1:=[_]) (R1:=[_]) h (fun W hφ=>hφ)) (.inr rfl)
 replace hm:=ite_f hm (of_decide_eq_false h357)
 refine c_skip<|d_normal_block<|d_then<|c_seq<|c_region<|g_v rfl r_move<|g_v rfl r_move ?_
 refine g_e rfl (e_lit (tag:=100960) (l:=[x318]) (enc:=(fun x : Int=>[Value.int .u8 x])) (sz:=1) rfl Try.underlying91 (lit5_15 _) rfl rfl (fun _=>rfl)) (fun g358 _=>?_)
 replace hm:=bnd hm
 obtain ⟨l359,hl359,hm⟩:=hm
 refine g_e rfl (e_appR (enc:=(fun x : Int=>[Value.int .u8 x])) (l:=l259) (l1:=[x318]) (l2:=l359) (tag:=20) Try.underlying91 inf5_16 rfl (by decide) (by decide) (fun _=>rfl) (fun _=>rfl) rfl hc261 rfl rfl (fun W hS=>rowCl (tag:=100960) rfl W hS) hl359) (fun ⟨A360,c361⟩ hc361=>?_)
 refine g_v rfl r_move ?_
 replace hm:=bnd hm
 obtain ⟨l362,hl362,hm⟩:=hm
 refine g_e rfl (e_appRS (l:=l359) (l2:=l362) (tag:=20) Try.underlying91 Try.underlying9 inf5_16 rfl hc361 rfl rfl hl362) (fun ⟨A363,c364⟩ hc364=>?_)
 refine g_v rfl r_assign<|g_nil<|d_then<|c_region<|g_v rfl r_move<|g_v rfl r_assign<|g_nil<|d_normal_block ?_
 obtain ⟨n365,hn365,hlp⟩:=nx_inl hm hnx1
 exact d_round (n365,l362,x352,i263,i264,A363,c364) ⟨hlp,hc364⟩ hn365 ⟨rfl,rfl,rfl,rfl,rfl,rfl,trivial⟩ (fun W h=>(h.dropR (t:=100960) rfl).phi (fun W hφ=>hφ))
noncomputable def m_peer_part_37 (o0 : Gpeer_reader) : Option (ByteArray×Gpeer_reader):=
  if o0.fbad = true then
    some ((⟨#[]⟩ : ByteArray),o0)
  else
    (m_pack_Name o0.fs o0.fat).bind fun (z16 : ByteArray×Int×Int)=>
    if z16.2.2 ≠ 0 then
      some ((⟨#[]⟩ : ByteArray),(⟨o0.fs,o0.fat,true⟩ : Gpeer_reader))
    else
      some (z16.1,(⟨o0.fs,z16.2.1,o0.fbad⟩ : Gpeer_reader))
theorem c_peer_part_37 {w0 : World} {M : Nat→Prop} {H : List (Nat×Nat×Obj)} {R : List (Nat×Row)} {φ : World→Prop} (go0 : Nat) (o0 : Gpeer_reader) (r : ByteArray×Gpeer_reader) (hm : m_peer_part_37 o0 = some r) :
    Cn Try.prog 37 #[Vp go0,.func (.func 38) #[] #[]] ⟨w0,M,(1000,go0,.cells #[Vs o0.fs,Vi o0.fat,.bool o0.fbad] 78 (0,0))::H,R,φ⟩ (fun x : Unit=>Vs r.1) (fun x=>True) (fun x=>⟨w0,M,(1000,go0,.cells #[Vs o0.fs,Vi r.2.fat,.bool r.2.fbad] 78 (0,0))::H,R,φ⟩):=by
 unfold m_peer_part_37 at hm
 refine cn_intro (fn:=Try.f37) (N:=39) Try.func37 rfl Try.ntmps37 rfl<|c_seq<|c_region<|g_v rfl r_assign<|g_nil<|d_then<|c_seq<|c_region<|g_v rfl r_assign<|g_nil ?_
 refine d_then<|c_seq<|c_seq<|c_region<|g_v rfl r_move<|g_v rfl (r_nilck rfl)<|g_v rfl (r_field (n:=2) Try.underlying78 rfl Try.sizeOf4 rfl rfl)<|g_v rfl (r_load (tag:=1000) rfl rfl rfl Try.isAgg4)<|g_nil<|d_then ?_
 refine c_cond rfl (fun h1=>?_) (fun h1=>?_)
 ·
  replace hm:=ite_t hm h1
  refine c_seq<|c_region<|g_v rfl r_move<|g_v rfl r_assign<|g_nil<|d_then<|c_ret<|d_ret_then ?_
  cases hm
  exact d_retC () Try.results37 (res_tmp (res_nil rfl)) trivial (fun W h=>h.phi (fun W hφ=>hφ)) (.inr rfl)
 replace hm:=ite_f hm (bool_nt h1)
 refine c_skip<|d_then<|c_seq<|ga_start (n:=17) ⟨w0,M,(1000,go0,.cells #[Vs o0.fs,Vi o0.fat,.bool o0.fbad] 78 (0,0))::H,R,φ⟩ [] #[false,false,false,false,false,false,false,false,false,false,false,false,false,false,false,false,false] (fun W h=>h.phi (fun W hφ=>hφ)) mixed rfl rfl<|ga_v (i:=0) (bz 17 1) rfl (by kernel_rfl) (fun _ _ _ _ h=>h) rfl (r_move)<|ga_v (i:=1) (bz 17 3) rfl (by kernel_rfl) (fun _ _ _ _ h=>h) rfl (r_move)<|ga_v (i:=2) (bz 17 7) rfl (by kernel_rfl) (fun _ _ _ _ h=>h) rfl (r_nilck rfl)<|ga_v (i:=3) (bz 17 15) rfl (by kernel_rfl) (fun _ _ _ _ h=>h) rfl (r_field (n:=0) Try.underlying78 rfl Try.sizeOf9 rfl rfl)<|ga_v (i:=4) (bz 17 31) rfl (by kernel_rfl) (fun _ _ _ _ h=>h) rfl (r_load (tag:=1000) rfl rfl rfl Try.isAgg9)<|ga_r (i:=5) (bz 17 63) rfl (by kernel_rfl) (by decide) rfl (r_move) ?_
 refine ga_r (i:=6) (bz 17 127) rfl (by kernel_rfl) (by decide) rfl (r_nilck rfl)<|ga_r (i:=7) (bz 17 255) rfl (by kernel_rfl) (by decide) rfl (r_field (n:=1) Try.underlying78 rfl Try.sizeOf3 rfl rfl)<|ga_r (i:=8) (bz 17 511) rfl (by kernel_rfl) (by decide) rfl (r_load (tag:=1000) rfl rfl rfl Try.isAgg3) ?_
 replace hm:=bnd hm
 obtain ⟨⟨x12,x13,x14⟩,hx15,hm⟩:=hm
 refine ga_cn (first:=#[]) (i:=9) (bz 17 1023) rfl (by kernel_rfl) (by decide)  ⟨w0,M,_,_,φ⟩ (fun _ h=>h) Try.call38 rfl rfl rfl (c_pack_Name o0.fs o0.fat _ hx15) (fun _ W _ h=>h.phi (fun W hφ=>hφ)) (fun _ _=>?_)
 refine ga_r (i:=10) (bz 17 2047) rfl (by kernel_rfl) (by decide) rfl (r_move)<|ga_v (i:=11) (bz 17 4095) rfl (by kernel_rfl) (fun _ _ _ _ h=>h) rfl (r_extract rfl rfl)<|ga_v (i:=12) (bz 17 8191) rfl (by kernel_rfl) (fun _ _ _ _ h=>h) rfl (r_extract rfl rfl)<|ga_v (i:=13) (bz 17 16383) rfl (by kernel_rfl) (fun _ _ _ _ h=>h) rfl (r_extract rfl rfl)<|ga_r (i:=14) (bz 17 32767) rfl (by kernel_rfl) (by decide) rfl (r_assign)<|ga_r (i:=15) (bz 17 65535) rfl (by kernel_rfl) (by decide) rfl (r_assign)<|ga_r (i:=16) (bz 17 131071) rfl (by kernel_rfl) (by decide) rfl (r_assign)<|ga_done (by kernel_rfl)<|d_then ?_
 refine c_flat [(0,Vp go0),(5,Ve),(6,Vs x12),(7,Vi x13),(8,Vi x14)] ⟨rfl,rfl,rfl,rfl,rfl,trivial⟩ (fun u=>?_)
 refine c_sta ⟨w0,M,(1000,go0,.cells #[Vs o0.fs,Vi o0.fat,.bool o0.fbad] 78 (0,0))::H,R,φ⟩ (fun _ h=>h)<|c_seq<|c_seq<|c_region<|g_v rfl r_move<|g_v rfl (r_neq rfl rfl)<|g_nil<|d_then ?_
 refine c_cond rfl (fun h17=>?_) (fun h17=>?_)
 ·
  replace hm:=ite_t hm (of_decide_eq_true h17)
  refine c_seq<|c_region<|g_v rfl r_move<|g_v rfl (r_nilck rfl)<|g_v rfl (r_field (n:=2) Try.underlying78 rfl Try.sizeOf4 rfl rfl)<|g_storeL (tag:=1000) rfl rfl rfl rfl Try.sizeOf4 rfl rfl<|g_nil<|d_then<|c_seq<|c_region ?_
  refine g_v rfl r_move<|g_v rfl r_assign<|g_nil<|d_then<|c_ret<|d_ret_then ?_
  cases hm
  exact d_retC () Try.results37 (res_tmp (res_nil rfl)) trivial (fun W h=>h.phi (fun W hφ=>hφ)) (.inr rfl)
 replace hm:=ite_f hm (of_decide_eq_false h17)
 refine c_skip<|d_then<|c_seq<|c_region<|g_v rfl r_move<|g_v rfl r_move<|g_v rfl (r_nilck rfl)<|g_v rfl (r_field (n:=1) Try.underlying78 rfl Try.sizeOf3 rfl rfl)<|g_storeL (tag:=1000) rfl rfl rfl rfl Try.sizeOf3 rfl rfl<|g_nil ?_
 refine d_then<|c_seq<|c_region<|g_v rfl r_move<|g_v rfl r_assign<|g_nil<|d_then ?_
 refine c_flat [(4,Vs x12)] ⟨rfl,trivial⟩ (fun u=>?_)
 refine c_sta ⟨w0,M,(1000,go0,.cells #[Vs o0.fs,Vi x13,.bool o0.fbad] 78 (0,0))::H,R,φ⟩ (fun _ h=>h)<|c_ret ?_
 cases hm
 exact d_retC () Try.results37 (res_tmp (res_nil rfl)) trivial (fun W h=>h.phi (fun W hφ=>hφ)) (.inr rfl)
noncomputable def m_peer_part_64 (o0 : Gpeer_reader) : Option (Int×Gpeer_reader):=
  if o0.fbad = true then
    some (0,o0)
  else
    (m_pack_Word o0.fs o0.fat).bind fun (z16 : Int×Int×Int)=>
    if z16.2.2 ≠ 0 then
      some (0,(⟨o0.fs,o0.fat,true⟩ : Gpeer_reader))
    else
      some (z16.1,(⟨o0.fs,z16.2.1,o0.fbad⟩ : Gpeer_reader))
theorem c_peer_part_64 {w0 : World} {M : Nat→Prop} {H : List (Nat×Nat×Obj)} {R : List (Nat×Row)} {φ : World→Prop} (go0 : Nat) (o0 : Gpeer_reader) (r : Int×Gpeer_reader) (hm : m_peer_part_64 o0 = some r) :
    Cn Try.prog 64 #[Vp go0,.func (.func 62) #[] #[]] ⟨w0,M,(1000,go0,.cells #[Vs o0.fs,Vi o0.fat,.bool o0.fbad] 78 (0,0))::H,R,φ⟩ (fun x : Unit=>Vu r.1) (fun x=>True) (fun x=>⟨w0,M,(1000,go0,.cells #[Vs o0.fs,Vi r.2.fat,.bool r.2.fbad] 78 (0,0))::H,R,φ⟩):=by
 unfold m_peer_part_64 at hm
 refine cn_intro (fn:=Try.f64) (N:=39) Try.func64 rfl Try.ntmps64 rfl<|c_seq<|c_region<|g_v rfl r_assign<|g_nil<|d_then<|c_seq<|c_region<|g_v rfl r_assign<|g_nil ?_
 refine d_then<|c_seq<|c_seq<|c_region<|g_v rfl r_move<|g_v rfl (r_nilck rfl)<|g_v rfl (r_field (n:=2) Try.underlying78 rfl Try.sizeOf4 rfl rfl)<|g_v rfl (r_load (tag:=1000) rfl rfl rfl Try.isAgg4)<|g_nil<|d_then ?_
 refine c_cond rfl (fun h1=>?_) (fun h1=>?_)
 ·
  replace hm:=ite_t hm h1
  refine c_seq<|c_region<|g_v rfl r_move<|g_v rfl r_assign<|g_nil<|d_then<|c_ret<|d_ret_then ?_
  cases hm
  exact d_retC () Try.results64 (res_tmp (res_nil rfl)) trivial (fun W h=>h.phi (fun W hφ=>hφ)) (.inr rfl)
 replace hm:=ite_f hm (bool_nt h1)
 refine c_skip<|d_then<|c_seq<|ga_start (n:=17) ⟨w0,M,(1000,go0,.cells #[Vs o0.fs,Vi o0.fat,.bool o0.fbad] 78 (0,0))::H,R,φ⟩ [] #[false,false,false,false,false,false,false,false,false,false,false,false,false,false,false,false,false] (fun W h=>h.phi (fun W hφ=>hφ)) mixed rfl rfl<|ga_v (i:=0) (bz 17 1) rfl (by kernel_rfl) (fun _ _ _ _ h=>h) rfl (r_move)<|ga_v (i:=1) (bz 17 3) rfl (by kernel_rfl) (fun _ _ _ _ h=>h) rfl (r_move)<|ga_v (i:=2) (bz 17 7) rfl (by kernel_rfl) (fun _ _ _ _ h=>h) rfl (r_nilck rfl)<|ga_v (i:=3) (bz 17 15) rfl (by kernel_rfl) (fun _ _ _ _ h=>h) rfl (r_field (n:=0) Try.underlying78 rfl Try.sizeOf9 rfl rfl)<|ga_v (i:=4) (bz 17 31) rfl (by kernel_rfl) (fun _ _ _ _ h=>h) rfl (r_load (tag:=1000) rfl rfl rfl Try.isAgg9)<|ga_r (i:=5) (bz 17 63) rfl (by kernel_rfl) (by decide) rfl (r_move) ?_
 refine ga_r (i:=6) (bz 17 127) rfl (by kernel_rfl) (by decide) rfl (r_nilck rfl)<|ga_r (i:=7) (bz 17 255) rfl (by kernel_rfl) (by decide) rfl (r_field (n:=1) Try.underlying78 rfl Try.sizeOf3 rfl rfl)<|ga_r (i:=8) (bz 17 511) rfl (by kernel_rfl) (by decide) rfl (r_load (tag:=1000) rfl rfl rfl Try.isAgg3) ?_
 replace hm:=bnd hm
 obtain ⟨⟨x12,x13,x14⟩,hx15,hm⟩:=hm
 refine ga_cn (first:=#[]) (i:=9) (bz 17 1023) rfl (by kernel_rfl) (by decide)  ⟨w0,M,_,_,φ⟩ (fun _ h=>h) Try.call62 rfl rfl rfl (c_pack_Word o0.fs o0.fat _ hx15) (fun _ W _ h=>h.phi (fun W hφ=>hφ)) (fun _ _=>?_)
 refine ga_r (i:=10) (bz 17 2047) rfl (by kernel_rfl) (by decide) rfl (r_move)<|ga_v (i:=11) (bz 17 4095) rfl (by kernel_rfl) (fun _ _ _ _ h=>h) rfl (r_extract rfl rfl)<|ga_v (i:=12) (bz 17 8191) rfl (by kernel_rfl) (fun _ _ _ _ h=>h) rfl (r_extract rfl rfl)<|ga_v (i:=13) (bz 17 16383) rfl (by kernel_rfl) (fun _ _ _ _ h=>h) rfl (r_extract rfl rfl)<|ga_r (i:=14) (bz 17 32767) rfl (by kernel_rfl) (by decide) rfl (r_assign)<|ga_r (i:=15) (bz 17 65535) rfl (by kernel_rfl) (by decide) rfl (r_assign)<|ga_r (i:=16) (bz 17 131071) rfl (by kernel_rfl) (by decide) rfl (r_assign)<|ga_done (by kernel_rfl)<|d_then ?_
 refine c_flat [(0,Vp go0),(5,Vu 0),(6,Vu x12),(7,Vi x13),(8,Vi x14)] ⟨rfl,rfl,rfl,rfl,rfl,trivial⟩ (fun u=>?_)
 refine c_sta ⟨w0,M,(1000,go0,.cells #[Vs o0.fs,Vi o0.fat,.bool o0.fbad] 78 (0,0))::H,R,φ⟩ (fun _ h=>h)<|c_seq<|c_seq<|c_region<|g_v rfl r_move<|g_v rfl (r_neq rfl rfl)<|g_nil<|d_then ?_
 refine c_cond rfl (fun h17=>?_) (fun h17=>?_)
 ·
  replace hm:=ite_t hm (of_decide_eq_true h17)
  refine c_seq<|c_region<|g_v rfl r_move<|g_v rfl (r_nilck rfl)<|g_v rfl (r_field (n:=2) Try.underlying78 rfl Try.sizeOf4 rfl rfl)<|g_storeL (tag:=1000) rfl rfl rfl rfl Try.sizeOf4 rfl rfl<|g_nil<|d_then<|c_seq<|c_region ?_
  refine g_v rfl r_move<|g_v rfl r_assign<|g_nil<|d_then<|c_ret<|d_ret_then ?_
  cases hm
  exact d_retC () Try.results64 (res_tmp (res_nil rfl)) trivial (fun W h=>h.phi (fun W hφ=>hφ)) (.inr rfl)
 replace hm:=ite_f hm (of_decide_eq_false h17)
 refine c_skip<|d_then<|c_seq<|c_region<|g_v rfl r_move<|g_v rfl r_move<|g_v rfl (r_nilck rfl)<|g_v rfl (r_field (n:=1) Try.underlying78 rfl Try.sizeOf3 rfl rfl)<|g_storeL (tag:=1000) rfl rfl rfl rfl Try.sizeOf3 rfl rfl<|g_nil ?_
 refine d_then<|c_seq<|c_region<|g_v rfl r_move<|g_v rfl r_assign<|g_nil<|d_then ?_
 refine c_flat [(4,Vu x12)] ⟨rfl,trivial⟩ (fun u=>?_)
 refine c_sta ⟨w0,M,(1000,go0,.cells #[Vs o0.fs,Vi x13,.bool o0.fbad] 78 (0,0))::H,R,φ⟩ (fun _ h=>h)<|c_ret ?_
 cases hm
 exact d_retC () Try.results64 (res_tmp (res_nil rfl)) trivial (fun W h=>h.phi (fun W hφ=>hφ)) (.inr rfl)
noncomputable def m_peer_reader_word (o0 : Gpeer_reader) : Option (Int×Gpeer_reader):=
  (m_peer_part_64 o0).bind fun (z4 : Int×Gpeer_reader)=>
  some (z4.1,(⟨o0.fs,z4.2.fat,z4.2.fbad⟩ : Gpeer_reader))
theorem c_peer_reader_word {w0 : World} {M : Nat→Prop} {H : List (Nat×Nat×Obj)} {R : List (Nat×Row)} {φ : World→Prop} (go0 : Nat) (o0 : Gpeer_reader) (r : Int×Gpeer_reader) (hm : m_peer_reader_word o0 = some r) :
    Cn Try.prog 39 #[Vp go0] ⟨w0,M,(1000,go0,.cells #[Vs o0.fs,Vi o0.fat,.bool o0.fbad] 78 (0,0))::H,R,φ⟩ (fun x : Unit=>Vu r.1) (fun x=>True) (fun x=>⟨w0,M,(1000,go0,.cells #[Vs o0.fs,Vi r.2.fat,.bool r.2.fbad] 78 (0,0))::H,R,φ⟩):=by
 unfold m_peer_reader_word at hm
 refine cn_intro (fn:=Try.f39) (N:=5) Try.func39 rfl Try.ntmps39 rfl<|c_seq<|c_region<|g_v rfl r_assign<|g_nil<|d_then<|c_seq<|c_region<|g_v rfl r_move ?_
 replace hm:=bnd hm
 obtain ⟨⟨x1,x2⟩,hx3,hm⟩:=hm
 refine g_cn ⟨w0,M,(1000,go0,.cells #[Vs o0.fs,Vi o0.fat,.bool o0.fbad] 78 (0,0))::H,R,φ⟩ (fun W h=>(ok_front (t:=1000) (t':=1000) h rfl)) Try.call64 rfl rfl (c_peer_part_64 go0 o0 _ hx3) (fun _ _=>?_)
 refine g_sta _ (fun W h=>(ok_front (t:=1000) (t':=1000) h rfl))<|g_v rfl r_assign<|g_nil<|d_then<|c_ret ?_
 cases hm
 exact d_retC () Try.results39 (res_tmp (res_nil rfl)) trivial (fun W h=>h.phi (fun W hφ=>hφ)) (.inr rfl)
noncomputable def m_peer_reader_bit_j1 (x1 : Int) (o0 : Gpeer_reader) (x2 : Gpeer_reader) (b6 : Bool) : Option (Bool×Gpeer_reader):=
  some (decide (x1 = 1),(⟨o0.fs,x2.fat,b6⟩ : Gpeer_reader))
noncomputable def m_peer_reader_bit (o0 : Gpeer_reader) : Option (Bool×Gpeer_reader):=
  (m_peer_reader_one o0).bind fun (z4 : Int×Gpeer_reader)=>
  if z4.2.fbad = true then
    m_peer_reader_bit_j1 z4.1 o0 z4.2 true
  else
    m_peer_reader_bit_j1 z4.1 o0 z4.2 (decide (1 < z4.1))
theorem c_peer_reader_bit {w0 : World} {M : Nat→Prop} {H : List (Nat×Nat×Obj)} {R : List (Nat×Row)} {φ : World→Prop} (go0 : Nat) (o0 : Gpeer_reader) (r : Bool×Gpeer_reader) (hm : m_peer_reader_bit o0 = some r) :
    Cn Try.prog 40 #[Vp go0] ⟨w0,M,(1000,go0,.cells #[Vs o0.fs,Vi o0.fat,.bool o0.fbad] 78 (0,0))::H,R,φ⟩ (fun x : Unit=>.bool r.1) (fun x=>True) (fun x=>⟨w0,M,(1000,go0,.cells #[Vs o0.fs,Vi r.2.fat,.bool r.2.fbad] 78 (0,0))::H,R,φ⟩):=by
 unfold m_peer_reader_bit at hm
 refine cn_intro (fn:=Try.f40) (N:=19) Try.func40 rfl Try.ntmps40 rfl<|c_seq<|c_region<|g_v rfl r_assign<|g_nil<|d_then<|c_seq<|c_region<|g_v rfl r_move ?_
 replace hm:=bnd hm
 obtain ⟨⟨x1,x2⟩,hx3,hm⟩:=hm
 refine g_cn ⟨w0,M,(1000,go0,.cells #[Vs o0.fs,Vi o0.fat,.bool o0.fbad] 78 (0,0))::H,R,φ⟩ (fun W h=>(ok_front (t:=1000) (t':=1000) h rfl)) Try.call35 rfl rfl (c_peer_reader_one go0 o0 _ hx3) (fun _ _=>?_)
 refine g_sta _ (fun W h=>(ok_front (t:=1000) (t':=1000) h rfl))<|g_v rfl r_assign<|g_nil<|d_then<|c_seq ?_
 refine c_cut (ι:=Bool) [3] (fun b6=>[]) (fun b6=>⟨w0,M,(1000,go0,.cells #[Vs o0.fs,Vi x2.fat,.bool b6] 78 (0,0))::H,R,φ⟩) (fun b6=>m_peer_reader_bit_j1 x1 o0 x2 b6 = some r) ?_ (fun b6 u hm=>?_)
 ·
  refine c_region<|g_v rfl r_move<|g_v rfl r_move<|g_v rfl (r_nilck rfl)<|g_v rfl (r_field (n:=2) Try.underlying78 rfl Try.sizeOf4 rfl rfl)<|g_v rfl (r_load (tag:=1000) rfl rfl rfl Try.isAgg4)<|g_v rfl r_move ?_
  refine g_if rfl rfl rfl rfl rfl (fun h7=>?_) (fun h7=>?_)
  ·
   replace hm:=ite_f hm (bool_nt h7)
   refine g_v rfl r_move<|g_do rfl rfl rfl rfl rfl h7<|g_v rfl (r_gtr rfl rfl)<|g_v rfl (r_pick0 rfl h7)<|g_v rfl (r_nilck rfl)<|g_v rfl (r_field (n:=2) Try.underlying78 rfl Try.sizeOf4 rfl rfl)<|g_storeL (tag:=1000) rfl rfl rfl rfl Try.sizeOf4 rfl rfl<|g_nil ?_
   exact d_round (decide (1 < x1)) hm Nat.zero_lt_one ⟨rfl,trivial⟩ (fun W h=>h.phi (fun W hφ=>hφ))
  replace hm:=ite_t hm h7
  refine g_no rfl rfl rfl rfl rfl h7<|g_v rfl (r_pick1 rfl h7)<|g_v rfl (r_nilck rfl)<|g_v rfl (r_field (n:=2) Try.underlying78 rfl Try.sizeOf4 rfl rfl)<|g_storeL (tag:=1000) rfl rfl rfl rfl Try.sizeOf4 rfl rfl<|g_nil ?_
  exact d_round true hm Nat.zero_lt_one ⟨rfl,trivial⟩ (fun W h=>h.phi (fun W hφ=>hφ))
 unfold m_peer_reader_bit_j1 at hm
 refine d_flat [(3,Vi x1)] ⟨rfl,trivial⟩ (fun u=>?_)
 refine d_sta ⟨w0,M,(1000,go0,.cells #[Vs o0.fs,Vi x2.fat,.bool b6] 78 (0,0))::H,R,φ⟩ (fun _ h=>h)<|d_then<|c_seq<|c_region<|g_v rfl r_move<|g_v rfl (r_eql rfl rfl)<|g_v rfl r_assign<|g_nil<|d_then<|c_ret ?_
 cases hm
 exact d_retC () Try.results40 (res_tmp (res_nil rfl)) trivial (fun W h=>h.phi (fun W hφ=>hφ)) (.inr rfl)
theorem bld41_36 (z0 : Int) : ∀ W,(Instr.build 41 #[(0,Vi z0)]).run Try.prog W = .ok (.agg #[Vi z0,Ve,Vu 0,Vu 0,V0,Vi 0,Vi 0,Vi 0,Vi 0]) W:=fun _=>by kernel_rfl
theorem bld54_37  : ∀ W,(Instr.build 54 #[]).run Try.prog W = .ok (.agg #[Ve,Vu 0,Vu 0,.int .u32 0,Ve]) W:=fun _=>by kernel_rfl
noncomputable def m_record_Get_c1 (p0 : Int) : Option (GRR×Int×Int):=
  some ((⟨(⟨#[]⟩ : ByteArray),0,0,0,(⟨#[]⟩ : ByteArray)⟩ : GRR),0,p0)
theorem c_record_Get_c1 {w0 : World} {M : Nat→Prop} {H : List (Nat×Nat×Obj)} {R : List (Nat×Row)} {φ : World→Prop} (p0 : Int) (r : GRR×Int×Int) (hm : m_record_Get_c1 p0 = some r) :
    Cn Try.prog 89 #[Vi p0] ⟨w0,M,H,R,φ⟩ (fun x : Unit=>.tuple #[.agg #[Vs r.1.fName,Vu r.1.fType,Vu r.1.fClass,.int .u32 r.1.fTTL,Vs r.1.fData],Vi r.2.1,Vi r.2.2]) (fun x=>True) (fun x=>⟨w0,M,H,R,φ⟩):=by
 unfold m_record_Get_c1 at hm
 refine cn_intro (fn:=Try.f89) (N:=7) Try.func89 rfl Try.ntmps89 rfl<|c_seq<|c_region ?_
 refine g_e rfl (e_alloc 100020 Try.zeroValue54) (fun g1 _=>?_)
 refine g_v rfl r_assign<|g_v rfl r_assign<|g_nil<|d_then<|c_seq<|c_region<|g_v rfl (r_build _ rfl (bld54_37))<|g_v rfl r_move<|g_storeL (tag:=100020) rfl rfl rfl rfl Try.sizeOf54 rfl rfl<|g_v rfl r_assign ?_
 refine g_v rfl r_assign<|g_nil<|d_then<|c_ret ?_
 cases hm
 exact d_retC () Try.results89 (res_agg (tag:=100020) rfl rfl Try.isAgg54 Try.sizeOf54 (res_tmp (res_tmp (res_nil rfl)))) trivial (fun W h=>ok_pre (H1:=[_]) (R1:=[]) h (fun W hφ=>hφ)) (.inr rfl)
noncomputable def m_record_full_j1 (p0 : ByteArray) (p2 : Grecord_shape) (i34 : Int) (s35 : ByteArray) : Option (ByteArray×Int×Int):=
  (m_pack_Raw p0 i34 p2.fbehind).bind fun (z40 : ByteArray×Int×Int)=>
  (sadd s35 z40.1).bind fun s41=>
  some (s41,z40.2.1,z40.2.2)
noncomputable def m_record_full_s2 (p2 : Grecord_shape) (p0 : ByteArray) (i53 : Int) (s54 : ByteArray) (i55 : Int) : Option ((Int×ByteArray×Int) ⊕ ((Int×ByteArray) ⊕ (ByteArray×Int×Int))):=
  if i55 < p2.fnames then
    (m_pack_Name p0 i53).bind fun (z73 : ByteArray×Int×Int)=>
    if z73.2.2 ≠ 0 then
      some (.inr (.inr ((⟨#[]⟩ : ByteArray),0,z73.2.2)))
    else
      (sadd s54 z73.1).bind fun s75=>
      some (.inl (z73.2.1,s75,w64 (i55 + 1)))
  else
    some (.inr (.inl (i53,s54)))
noncomputable def m_record_full (p0 : ByteArray) (p1 : Int) (p2 : Grecord_shape) : Option (ByteArray×Int×Int):=
  (m_pack_Raw p0 p1 p2.fahead).bind fun (z6 : ByteArray×Int×Int)=>
  if z6.2.2 ≠ 0 then
    some ((⟨#[]⟩ : ByteArray),0,z6.2.2)
  else
    (loop (fun s=>m_record_full_s2 p2 p0 s.1 s.2.1 s.2.2) (z6.2.1,z6.1,0)).bind fun e=>Sum.elim (fun e=>m_record_full_j1 p0 p2 e.1 e.2) (fun x=>some x) e
theorem c_record_full {w0 : World} {M : Nat→Prop} {H : List (Nat×Nat×Obj)} {R : List (Nat×Row)} {φ : World→Prop} (p0 : ByteArray) (p1 : Int) (p2 : Grecord_shape) (r : ByteArray×Int×Int) (hm : m_record_full p0 p1 p2 = some r) :
    Cn Try.prog 90 #[Vs p0,Vi p1,.agg #[Vi p2.fahead,Vi p2.fnames,Vi p2.fbehind]] ⟨w0,M,H,R,φ⟩ (fun x : Unit=>.tuple #[Vs r.1,Vi r.2.1,Vi r.2.2]) (fun x=>True) (fun x=>⟨w0,M,H,R,φ⟩):=by
 unfold m_record_full at hm
 refine cn_intro (fn:=Try.f90) (N:=60) Try.func90 rfl Try.ntmps90 rfl<|c_seq<|c_region ?_
 refine g_e rfl (e_box 100050 rfl) (fun g1 _=>?_)
 iterate 3 refine g_v rfl r_assign ?_
 refine g_nil<|d_then<|c_seq<|c_region<|g_v rfl r_move<|g_v rfl r_move<|g_v rfl (r_field (n:=0) Try.underlying135 rfl Try.sizeOf3 rfl rfl)<|g_v rfl (r_load (tag:=100050) rfl rfl rfl Try.isAgg3) ?_
 replace hm:=bnd hm
 obtain ⟨⟨x2,x3,x4⟩,hx5,hm⟩:=hm
 refine g_cn ⟨w0,M,_,_,φ⟩ (fun _ h=>h) Try.call63 rfl rfl (c_pack_Raw p0 p1 p2.fahead _ hx5) (fun _ _=>?_)
 refine g_v rfl r_move ?_
 iterate 3 refine g_v rfl (r_extract rfl rfl) ?_
 iterate 3 refine g_v rfl r_assign ?_
 refine g_nil<|d_then ?_
 refine c_flat [(0,Vs p0),(1,Vi x3),(5,Vp g1),(9,Vs x2),(10,Vi x4)] ⟨rfl,rfl,rfl,rfl,rfl,trivial⟩ (fun u=>?_)
 refine c_sta ⟨w0,M,(100050,g1,.cells #[Vi p2.fahead,Vi p2.fnames,Vi p2.fbehind] 135 (0,0))::H,R,φ⟩ (fun _ h=>h)<|c_seq<|c_seq<|c_region<|g_v rfl r_move<|g_v rfl (r_neq rfl rfl)<|g_nil<|d_then ?_
 refine c_cond rfl (fun h7=>?_) (fun h7=>?_)
 ·
  replace hm:=ite_t hm (of_decide_eq_true h7)
  refine c_seq<|c_region<|g_v rfl r_move ?_
  iterate 3 refine g_v rfl r_assign ?_
  refine g_nil<|d_then<|c_ret<|d_ret_then ?_
  cases hm
  exact d_retC () Try.results90 (res_tmp (res_tmp (res_tmp (res_nil rfl)))) trivial (fun W h=>ok_pre (H1:=[_]) (R1:=[]) h (fun W hφ=>hφ)) (.inr rfl)
 replace hm:=ite_f hm (of_decide_eq_false h7)
 refine c_skip<|d_then<|c_seq<|c_seq<|c_region<|g_v rfl (r_field (n:=1) Try.underlying135 rfl Try.sizeOf3 rfl rfl)<|g_v rfl (r_load (tag:=100050) rfl rfl rfl Try.isAgg3)<|g_v rfl r_move<|g_nil<|d_then ?_
 refine c_cut (ι:=Int×ByteArray) [0,1,5,9] (fun ⟨i34,s35⟩=>[(1,Vi i34),(9,Vs s35)]) (fun ⟨i34,s35⟩=>⟨w0,M,(100050,g1,.cells #[Vi p2.fahead,Vi p2.fnames,Vi p2.fbehind] 135 (0,0))::H,R,φ⟩) (fun ⟨i34,s35⟩=>m_record_full_j1 p0 p2 i34 s35 = some r) ?_ (fun ⟨i34,s35⟩ u hm=>?_)
 ·
  refine c_block ?_
  replace hm:=bnd hm
  obtain ⟨out2,hl2,hr2⟩:=hm
  obtain ⟨n67',hl2⟩:=loop_lp hl2
  refine c_loopU (ι:=Nat×Int×ByteArray×Int) [0,1,5,9,28,29] (fun ⟨n67,i53,s54,i55⟩=>[(1,Vi i53),(9,Vs s54),(29,Vi i55)]) (fun ⟨n67,i53,s54,i55⟩=>⟨w0,M,(100050,g1,.cells #[Vi p2.fahead,Vi p2.fnames,Vi p2.fbehind] 135 (0,0))::H,R,φ⟩) (fun ⟨n67,i53,s54,i55⟩=>Lp (fun s=>m_record_full_s2 p2 p0 s.1 s.2.1 s.2.2) n67 (i53,s54,i55) out2) (fun ⟨n67,i53,s54,i55⟩=>n67) (n67',x3,x2,0) hl2 ⟨rfl,rfl,rfl,rfl,rfl,rfl,trivial⟩ (fun W h=>h.phi (fun W hφ=>hφ)) (fun ⟨n67,i53,s54,i55⟩ u hlp=>?_)
  obtain ⟨o2,hm,hnx2⟩:=lp_step hlp
  clear hlp
  replace hm : m_record_full_s2 p2 p0 i53 s54 i55 = some o2:=hm
  unfold m_record_full_s2 at hm
  refine c_flat [(0,Vs p0),(1,Vi i53),(5,Vp g1),(9,Vs s54),(28,Vi p2.fnames),(29,Vi i55)] ⟨rfl,rfl,rfl,rfl,rfl,rfl,trivial⟩ (fun u=>?_)
  refine c_seq<|c_region<|g_v rfl (r_lss rfl rfl)<|g_nil<|d_then<|c_seq ?_
  refine c_cond rfl (fun h68=>?_) (fun h68=>?_)
  ·
   replace hm:=ite_t hm (of_decide_eq_true h68)
   refine c_skip<|d_then<|c_seq<|c_block<|c_seq<|c_region<|g_v rfl r_move<|g_v rfl r_move ?_
   replace hm:=bnd hm
   obtain ⟨⟨x69,x70,x71⟩,hx72,hm⟩:=hm
   refine g_cn ⟨w0,M,_,_,φ⟩ (fun _ h=>h) Try.call38 rfl rfl (c_pack_Name p0 i53 _ hx72) (fun _ _=>?_)
   refine g_v rfl r_move ?_
   iterate 3 refine g_v rfl (r_extract rfl rfl) ?_
   iterate 3 refine g_v rfl r_assign ?_
   refine g_nil<|d_then ?_
   refine c_flat [(0,Vs p0),(5,Vp g1),(9,Vs s54),(11,Vs x69),(12,Vi x70),(13,Vi x71),(28,Vi p2.fnames),(29,Vi i55)] ⟨rfl,rfl,rfl,rfl,rfl,rfl,rfl,rfl,trivial⟩ (fun u=>?_)
   refine c_seq<|c_seq<|c_region<|g_v rfl r_move<|g_v rfl (r_neq rfl rfl)<|g_nil<|d_then ?_
   refine c_cond rfl (fun h74=>?_) (fun h74=>?_)
   ·
    replace hm:=ite_t hm (of_decide_eq_true h74)
    refine c_seq<|c_region<|g_v rfl r_move ?_
    iterate 3 refine g_v rfl r_assign ?_
    refine g_nil<|d_then<|c_ret<|d_ret_then<|d_ret_block<|d_ret_then<|d_ret_then<|d_ret_block<|d_ret_then<|d_ret_then ?_
    replace hm:=nx_out (C:=(fun e : (Int×ByteArray) ⊕ (ByteArray×Int×Int)=>Sum.elim (fun e=>m_record_full_j1 p0 p2 e.1 e.2) (fun x=>some x) e = some r)) hm hnx2 hr2
    replace hm : some (eB,0,x71) = some r:=hm
    cases hm
    exact d_retC () Try.results90 (res_tmp (res_tmp (res_tmp (res_nil rfl)))) trivial (fun W h=>ok_pre (H1:=[_]) (R1:=[]) h (fun W hφ=>hφ)) (.inr rfl)
   replace hm:=ite_f hm (of_decide_eq_false h74)
   refine c_skip<|d_then<|c_region<|g_v rfl r_move<|g_v rfl r_move ?_
   replace hm:=bnd hm
   obtain ⟨s75,hs75,hm⟩:=hm
   refine g_v rfl (r_addT rfl rfl hs75)<|g_v rfl r_move<|g_v rfl r_assign<|g_v rfl r_assign<|g_nil<|d_normal_block<|d_then<|c_region<|g_v rfl (r_add rfl rfl rfl)<|g_v rfl r_move ?_
   refine g_nil ?_
   obtain ⟨n76,hn76,hlp⟩:=nx_inl hm hnx2
   exact d_round (n76,x70,s75,w64 (i55 + 1)) hlp hn76 ⟨rfl,rfl,rfl,rfl,rfl,rfl,trivial⟩ (fun W h=>h.phi (fun W hφ=>hφ))
  replace hm:=ite_f hm (of_decide_eq_false h68)
  refine c_exit<|d_exit_then<|d_exit_then<|d_exit_block ?_
  replace hm:=nx_out (C:=(fun e : (Int×ByteArray) ⊕ (ByteArray×Int×Int)=>Sum.elim (fun e=>m_record_full_j1 p0 p2 e.1 e.2) (fun x=>some x) e = some r)) hm hnx2 hr2
  exact d_round (i53,s54) hm Nat.zero_lt_one ⟨rfl,rfl,rfl,rfl,trivial⟩ (fun W h=>h.phi (fun W hφ=>hφ))
 unfold m_record_full_j1 at hm
 refine d_flat [(0,Vs p0),(1,Vi i34),(5,Vp g1),(9,Vs s35)] ⟨rfl,rfl,rfl,rfl,trivial⟩ (fun u=>?_)
 refine d_then<|c_seq<|c_region<|g_v rfl r_move<|g_v rfl r_move<|g_v rfl (r_field (n:=2) Try.underlying135 rfl Try.sizeOf3 rfl rfl)<|g_v rfl (r_load (tag:=100050) rfl rfl rfl Try.isAgg3) ?_
 replace hm:=bnd hm
 obtain ⟨⟨x36,x37,x38⟩,hx39,hm⟩:=hm
 refine g_cn ⟨w0,M,_,_,φ⟩ (fun _ h=>h) Try.call63 rfl rfl (c_pack_Raw p0 i34 p2.fbehind _ hx39) (fun _ _=>?_)
 refine g_v rfl r_move ?_
 iterate 3 refine g_v rfl (r_extract rfl rfl) ?_
 iterate 3 refine g_v rfl r_assign ?_
 refine g_nil<|d_then ?_
 refine c_flat [(1,Vi x37),(9,Vs s35),(10,Vi x38),(14,Vs x36)] ⟨rfl,rfl,rfl,rfl,trivial⟩ (fun u=>?_)
 refine c_seq<|c_region<|g_v rfl r_move<|g_v rfl r_move ?_
 replace hm:=bnd hm
 obtain ⟨s41,hs41,hm⟩:=hm
 refine g_v rfl (r_addT rfl rfl hs41)<|g_v rfl r_move<|g_v rfl r_move ?_
 iterate 3 refine g_v rfl r_assign ?_
 refine g_nil<|d_then<|c_ret ?_
 cases hm
 exact d_retC () Try.results90 (res_tmp (res_tmp (res_tmp (res_nil rfl)))) trivial (fun W h=>ok_pre (H1:=[_]) (R1:=[]) h (fun W hφ=>hφ)) (.inr rfl)
noncomputable def m_record_Get_j3 (x3 : ByteArray) (x14 : Int) (i27 : Int) (i36 : Int) (x55 : Int) (s86 : ByteArray) : Option (GRR×Int×Int):=
  (m_record_Check (⟨x3,x14,i27,i36,s86⟩ : GRR)).bind fun x87=>
  if x87 ≠ 0 then
    (m_record_Get_c1 x87).bind fun (z94 : GRR×Int×Int)=>
    some (z94.1,z94.2.1,z94.2.2)
  else
    some ((⟨x3,x14,i27,i36,s86⟩ : GRR),x55,0)
noncomputable def m_record_Get_j2 (p0 : ByteArray) (x14 : Int) (x3 : ByteArray) (i27 : Int) (i34 : Int) (i35 : Int) (i36 : Int) : Option (GRR×Int×Int):=
  if i35 ≠ 0 then
    (m_record_Get_c1 i35).bind fun (z42 : GRR×Int×Int)=>
    some (z42.1,z42.2.1,z42.2.2)
  else
    (m_pack_Word p0 i34).bind fun (z47 : Int×Int×Int)=>
    if z47.2.2 ≠ 0 then
      (m_record_Get_c1 z47.2.2).bind fun (z53 : GRR×Int×Int)=>
      some (z53.1,z53.2.1,z53.2.2)
    else
      (m_pack_Raw p0 z47.2.1 (w64 z47.1)).bind fun (z58 : ByteArray×Int×Int)=>
      if z58.2.2 ≠ 0 then
        (m_record_Get_c1 z58.2.2).bind fun (z64 : GRR×Int×Int)=>
        some (z64.1,z64.2.1,z64.2.2)
      else
        (m_record_shapeOf x14).bind fun x65=>
        if 0 < x65.fnames then
          (m_record_full p0 z47.2.1 x65).bind fun (z100 : ByteArray×Int×Int)=>
          if z100.2.2 ≠ 0 then
            (m_record_Get_c1 z100.2.2).bind fun (z106 : GRR×Int×Int)=>
            some (z106.1,z106.2.1,z106.2.2)
          else
            if z100.2.1 ≠ z58.2.1 then
              (m_record_Get_c1 10).bind fun (z112 : GRR×Int×Int)=>
              some (z112.1,z112.2.1,z112.2.2)
            else
              m_record_Get_j3 x3 x14 i27 i36 z58.2.1 z100.1
        else
          m_record_Get_j3 x3 x14 i27 i36 z58.2.1 z58.1
noncomputable def m_record_Get_j1 (p0 : ByteArray) (x14 : Int) (x3 : ByteArray) (i25 : Int) (i26 : Int) (i27 : Int) : Option (GRR×Int×Int):=
  if i26 = 0 then
    (m_pack_Long p0 i25).bind fun (z118 : Int×Int×Int)=>
    m_record_Get_j2 p0 x14 x3 i27 z118.2.1 z118.2.2 z118.1
  else
    m_record_Get_j2 p0 x14 x3 i27 i25 i26 0
noncomputable def m_record_Get (p0 : ByteArray) (p1 : Int) : Option (GRR×Int×Int):=
  (m_pack_Name p0 p1).bind fun (z7 : ByteArray×Int×Int)=>
  if z7.2.2 ≠ 0 then
    (m_record_Get_c1 z7.2.2).bind fun (z13 : GRR×Int×Int)=>
    some (z13.1,z13.2.1,z13.2.2)
  else
    (m_pack_Word p0 z7.2.1).bind fun (z18 : Int×Int×Int)=>
    if z18.2.2 = 0 then
      (m_pack_Word p0 z18.2.1).bind fun (z124 : Int×Int×Int)=>
      m_record_Get_j1 p0 z18.1 z7.1 z124.2.1 z124.2.2 z124.1
    else
      m_record_Get_j1 p0 z18.1 z7.1 z18.2.1 z18.2.2 0
theorem c_record_Get {w0 : World} {M : Nat→Prop} {H : List (Nat×Nat×Obj)} {R : List (Nat×Row)} {φ : World→Prop} (p0 : ByteArray) (p1 : Int) (r : GRR×Int×Int) (hm : m_record_Get p0 p1 = some r) :
    Cn Try.prog 68 #[Vs p0,Vi p1] ⟨w0,M,H,R,φ⟩ (fun x : Unit=>.tuple #[.agg #[Vs r.1.fName,Vu r.1.fType,Vu r.1.fClass,.int .u32 r.1.fTTL,Vs r.1.fData],Vi r.2.1,Vi r.2.2]) (fun x=>True) (fun x=>⟨w0,M,H,R,φ⟩):=by
 unfold m_record_Get at hm
 refine cn_intro (fn:=Try.f68) (N:=151) Try.func68 rfl Try.ntmps68 rfl<|c_seq<|c_region ?_
 refine g_e rfl (e_alloc 100040 Try.zeroValue54) (fun g1 _=>?_)
 refine g_v rfl r_assign<|g_v rfl r_assign<|g_nil<|d_then<|c_seq<|c_region ?_
 refine g_e rfl (e_alloc 100070 Try.zeroValue54) (fun g2 _=>?_)
 refine g_nil<|d_then<|c_seq<|c_region<|g_v rfl r_assign<|g_nil<|d_then<|c_seq<|c_region<|g_v rfl r_move ?_
 refine g_v rfl r_move ?_
 replace hm:=bnd hm
 obtain ⟨⟨x3,x4,x5⟩,hx6,hm⟩:=hm
 refine g_cn ⟨w0,M,_,_,φ⟩ (fun _ h=>h) Try.call38 rfl rfl (c_pack_Name p0 p1 _ hx6) (fun _ _=>?_)
 refine g_v rfl r_move ?_
 iterate 3 refine g_v rfl (r_extract rfl rfl) ?_
 iterate 3 refine g_v rfl r_assign ?_
 refine g_nil<|d_then ?_
 refine c_flat [(0,Vs p0),(1,Vi x4),(4,Vp g1),(7,Vp g2),(8,.func (.func 89) #[] #[]),(9,Vs x3),(10,Vi x5)] ⟨rfl,rfl,rfl,rfl,rfl,rfl,rfl,trivial⟩ (fun u=>?_)
 refine c_sta ⟨w0,M,(100070,g2,.cells #[Ve,Vu 0,Vu 0,.int .u32 0,Ve] 54 (0,0))::(100040,g1,.cells #[Ve,Vu 0,Vu 0,.int .u32 0,Ve] 54 (0,0))::H,R,φ⟩ (fun _ h=>h)<|c_seq<|c_seq<|c_region<|g_v rfl r_move<|g_v rfl (r_neq rfl rfl)<|g_nil<|d_then ?_
 refine c_cond rfl (fun h8=>?_) (fun h8=>?_)
 ·
  replace hm:=ite_t hm (of_decide_eq_true h8)
  refine c_seq<|c_region<|g_v rfl r_move<|g_v rfl r_move ?_
  replace hm:=bnd hm
  obtain ⟨⟨x9,x10,x11⟩,hx12,hm⟩:=hm
  refine g_cnv ⟨w0,M,_,_,φ⟩ (fun _ h=>h) Try.call89 rfl rfl rfl (c_record_Get_c1 x5 _ hx12) (fun _ _=>?_)
  iterate 3 refine g_v rfl (r_extract rfl rfl) ?_
  refine g_storeL (tag:=100040) rfl rfl rfl rfl Try.sizeOf54 rfl rfl<|g_v rfl r_assign<|g_v rfl r_assign<|g_nil<|d_then ?_
  refine c_flat [(4,Vp g1),(5,Vi x10),(6,Vi x11)] ⟨rfl,rfl,rfl,trivial⟩ (fun u=>?_)
  refine c_sta ⟨w0,M,(100070,g2,.cells #[Ve,Vu 0,Vu 0,.int .u32 0,Ve] 54 (0,0))::(100040,g1,.cells #[Vs x9.fName,Vu x9.fType,Vu x9.fClass,.int .u32 x9.fTTL,Vs x9.fData] 54 (0,0))::H,R,φ⟩ (fun _ h=>h)<|c_ret<|d_ret_then ?_
  cases hm
  exact d_retC () Try.results68 (res_agg (tag:=100040) rfl rfl Try.isAgg54 Try.sizeOf54 (res_tmp (res_tmp (res_nil rfl)))) trivial (fun W h=>ok_pre (H1:=[_,_]) (R1:=[]) h (fun W hφ=>hφ)) (.inr rfl)
 replace hm:=ite_f hm (of_decide_eq_false h8)
 refine c_skip<|d_then<|c_seq<|c_region<|g_v rfl r_move<|g_v rfl (r_field (n:=0) Try.underlying54 rfl Try.sizeOf9 rfl rfl)<|g_storeL (tag:=100070) rfl rfl rfl rfl Try.sizeOf9 rfl rfl<|g_nil<|d_then<|c_seq ?_
 refine c_region<|g_v rfl r_move<|g_v rfl r_move ?_
 replace hm:=bnd hm
 obtain ⟨⟨x14,x15,x16⟩,hx17,hm⟩:=hm
 refine g_cn ⟨w0,M,_,_,φ⟩ (fun _ h=>h) Try.call62 rfl rfl (c_pack_Word p0 x4 _ hx17) (fun _ _=>?_)
 refine g_v rfl r_move ?_
 iterate 3 refine g_v rfl (r_extract rfl rfl) ?_
 refine g_v rfl (r_field (n:=1) Try.underlying54 rfl Try.sizeOf22 rfl rfl)<|g_storeL (tag:=100070) rfl rfl rfl rfl Try.sizeOf22 rfl rfl<|g_v rfl r_assign<|g_v rfl r_assign<|g_nil<|d_then ?_
 refine c_flat [(0,Vs p0),(1,Vi x15),(4,Vp g1),(7,Vp g2),(8,.func (.func 89) #[] #[]),(10,Vi x16)] ⟨rfl,rfl,rfl,rfl,rfl,rfl,trivial⟩ (fun u=>?_)
 refine c_sta ⟨w0,M,(100070,g2,.cells #[Vs x3,Vu x14,Vu 0,.int .u32 0,Ve] 54 (0,0))::(100040,g1,.cells #[Ve,Vu 0,Vu 0,.int .u32 0,Ve] 54 (0,0))::H,R,φ⟩ (fun _ h=>h)<|c_seq ?_
 refine c_cut (ι:=Int×Int×Int) [0,1,4,7,8,10] (fun ⟨i25,i26,i27⟩=>[(1,Vi i25),(10,Vi i26)]) (fun ⟨i25,i26,i27⟩=>⟨w0,M,(100070,g2,.cells #[Vs x3,Vu x14,Vu i27,.int .u32 0,Ve] 54 (0,0))::(100040,g1,.cells #[Ve,Vu 0,Vu 0,.int .u32 0,Ve] 54 (0,0))::H,R,φ⟩) (fun ⟨i25,i26,i27⟩=>m_record_Get_j1 p0 x14 x3 i25 i26 i27 = some r) ?_ (fun ⟨i25,i26,i27⟩ u hm=>?_)
 ·
  refine c_seq<|c_region<|g_v rfl r_move<|g_v rfl (r_eql rfl rfl)<|g_nil<|d_then ?_
  refine c_cond rfl (fun h119=>?_) (fun h119=>?_)
  ·
   replace hm:=ite_t hm (of_decide_eq_true h119)
   refine c_region<|g_v rfl r_move<|g_v rfl r_move ?_
   replace hm:=bnd hm
   obtain ⟨⟨x120,x121,x122⟩,hx123,hm⟩:=hm
   refine g_cn ⟨w0,M,_,_,φ⟩ (fun _ h=>h) Try.call62 rfl rfl (c_pack_Word p0 x15 _ hx123) (fun _ _=>?_)
   refine g_v rfl r_move ?_
   iterate 3 refine g_v rfl (r_extract rfl rfl) ?_
   refine g_v rfl (r_field (n:=2) Try.underlying54 rfl Try.sizeOf22 rfl rfl)<|g_storeL (tag:=100070) rfl rfl rfl rfl Try.sizeOf22 rfl rfl<|g_v rfl r_assign<|g_v rfl r_assign<|g_nil ?_
   exact d_round (x121,x122,x120) hm Nat.zero_lt_one ⟨rfl,rfl,rfl,rfl,rfl,rfl,trivial⟩ (fun W h=>h.phi (fun W hφ=>hφ))
  replace hm:=ite_f hm (of_decide_eq_false h119)
  refine c_skip ?_
  exact d_round (x15,x16,0) hm Nat.zero_lt_one ⟨rfl,rfl,rfl,rfl,rfl,rfl,trivial⟩ (fun W h=>h.phi (fun W hφ=>hφ))
 unfold m_record_Get_j1 at hm
 refine d_flat [(0,Vs p0),(1,Vi i25),(4,Vp g1),(7,Vp g2),(8,.func (.func 89) #[] #[]),(10,Vi i26)] ⟨rfl,rfl,rfl,rfl,rfl,rfl,trivial⟩ (fun u=>?_)
 refine d_sta ⟨w0,M,(100070,g2,.cells #[Vs x3,Vu x14,Vu i27,.int .u32 0,Ve] 54 (0,0))::(100040,g1,.cells #[Ve,Vu 0,Vu 0,.int .u32 0,Ve] 54 (0,0))::H,R,φ⟩ (fun _ h=>h)<|d_then<|c_seq ?_
 refine c_cut (ι:=Int×Int×Int) [0,1,4,7,8,10] (fun ⟨i34,i35,i36⟩=>[(1,Vi i34),(10,Vi i35)]) (fun ⟨i34,i35,i36⟩=>⟨w0,M,(100070,g2,.cells #[Vs x3,Vu x14,Vu i27,.int .u32 i36,Ve] 54 (0,0))::(100040,g1,.cells #[Ve,Vu 0,Vu 0,.int .u32 0,Ve] 54 (0,0))::H,R,φ⟩) (fun ⟨i34,i35,i36⟩=>m_record_Get_j2 p0 x14 x3 i27 i34 i35 i36 = some r) ?_ (fun ⟨i34,i35,i36⟩ u hm=>?_)
 ·
  refine c_seq<|c_region<|g_v rfl r_move<|g_v rfl (r_eql rfl rfl)<|g_nil<|d_then ?_
  refine c_cond rfl (fun h113=>?_) (fun h113=>?_)
  ·
   replace hm:=ite_t hm (of_decide_eq_true h113)
   refine c_region<|g_v rfl r_move<|g_v rfl r_move ?_
   replace hm:=bnd hm
   obtain ⟨⟨x114,x115,x116⟩,hx117,hm⟩:=hm
   refine g_cn ⟨w0,M,_,_,φ⟩ (fun _ h=>h) Try.call60 rfl rfl (c_pack_Long p0 i25 _ hx117) (fun _ _=>?_)
   refine g_v rfl r_move ?_
   iterate 3 refine g_v rfl (r_extract rfl rfl) ?_
   refine g_v rfl (r_field (n:=3) Try.underlying54 rfl Try.sizeOf52 rfl rfl)<|g_storeL (tag:=100070) rfl rfl rfl rfl Try.sizeOf52 rfl rfl<|g_v rfl r_assign<|g_v rfl r_assign<|g_nil ?_
   exact d_round (x115,x116,x114) hm Nat.zero_lt_one ⟨rfl,rfl,rfl,rfl,rfl,rfl,trivial⟩ (fun W h=>h.phi (fun W hφ=>hφ))
  replace hm:=ite_f hm (of_decide_eq_false h113)
  refine c_skip ?_
  exact d_round (i25,i26,0) hm Nat.zero_lt_one ⟨rfl,rfl,rfl,rfl,rfl,rfl,trivial⟩ (fun W h=>h.phi (fun W hφ=>hφ))
 unfold m_record_Get_j2 at hm
 refine d_flat [(0,Vs p0),(1,Vi i34),(4,Vp g1),(7,Vp g2),(8,.func (.func 89) #[] #[]),(10,Vi i35)] ⟨rfl,rfl,rfl,rfl,rfl,rfl,trivial⟩ (fun u=>?_)
 refine d_sta ⟨w0,M,(100070,g2,.cells #[Vs x3,Vu x14,Vu i27,.int .u32 i36,Ve] 54 (0,0))::(100040,g1,.cells #[Ve,Vu 0,Vu 0,.int .u32 0,Ve] 54 (0,0))::H,R,φ⟩ (fun _ h=>h)<|d_then<|c_seq<|c_seq<|c_region<|g_v rfl r_move<|g_v rfl (r_neq rfl rfl)<|g_nil<|d_then ?_
 refine c_cond rfl (fun h37=>?_) (fun h37=>?_)
 ·
  replace hm:=ite_t hm (of_decide_eq_true h37)
  refine c_seq<|c_region<|g_v rfl r_move<|g_v rfl r_move ?_
  replace hm:=bnd hm
  obtain ⟨⟨x38,x39,x40⟩,hx41,hm⟩:=hm
  refine g_cnv ⟨w0,M,_,_,φ⟩ (fun _ h=>h) Try.call89 rfl rfl rfl (c_record_Get_c1 i35 _ hx41) (fun _ _=>?_)
  iterate 3 refine g_v rfl (r_extract rfl rfl) ?_
  refine g_storeL (tag:=100040) rfl rfl rfl rfl Try.sizeOf54 rfl rfl<|g_v rfl r_assign<|g_v rfl r_assign<|g_nil<|d_then ?_
  refine c_flat [(4,Vp g1),(5,Vi x39),(6,Vi x40)] ⟨rfl,rfl,rfl,trivial⟩ (fun u=>?_)
  refine c_sta ⟨w0,M,(100070,g2,.cells #[Vs x3,Vu x14,Vu i27,.int .u32 i36,Ve] 54 (0,0))::(100040,g1,.cells #[Vs x38.fName,Vu x38.fType,Vu x38.fClass,.int .u32 x38.fTTL,Vs x38.fData] 54 (0,0))::H,R,φ⟩ (fun _ h=>h)<|c_ret<|d_ret_then ?_
  cases hm
  exact d_retC () Try.results68 (res_agg (tag:=100040) rfl rfl Try.isAgg54 Try.sizeOf54 (res_tmp (res_tmp (res_nil rfl)))) trivial (fun W h=>ok_pre (H1:=[_,_]) (R1:=[]) h (fun W hφ=>hφ)) (.inr rfl)
 replace hm:=ite_f hm (of_decide_eq_false h37)
 refine c_skip<|d_then<|c_seq<|c_region<|g_v rfl r_move<|g_v rfl r_move ?_
 replace hm:=bnd hm
 obtain ⟨⟨x43,x44,x45⟩,hx46,hm⟩:=hm
 refine g_cn ⟨w0,M,_,_,φ⟩ (fun _ h=>h) Try.call62 rfl rfl (c_pack_Word p0 i34 _ hx46) (fun _ _=>?_)
 refine g_v rfl r_move ?_
 iterate 3 refine g_v rfl (r_extract rfl rfl) ?_
 iterate 3 refine g_v rfl r_assign ?_
 refine g_nil<|d_then ?_
 refine c_flat [(0,Vs p0),(1,Vi x44),(4,Vp g1),(7,Vp g2),(8,.func (.func 89) #[] #[]),(10,Vi x45),(11,Vu x43)] ⟨rfl,rfl,rfl,rfl,rfl,rfl,rfl,trivial⟩ (fun u=>?_)
 refine c_seq<|c_seq<|c_region<|g_v rfl r_move<|g_v rfl (r_neq rfl rfl)<|g_nil<|d_then ?_
 refine c_cond rfl (fun h48=>?_) (fun h48=>?_)
 ·
  replace hm:=ite_t hm (of_decide_eq_true h48)
  refine c_seq<|c_region<|g_v rfl r_move<|g_v rfl r_move ?_
  replace hm:=bnd hm
  obtain ⟨⟨x49,x50,x51⟩,hx52,hm⟩:=hm
  refine g_cnv ⟨w0,M,_,_,φ⟩ (fun _ h=>h) Try.call89 rfl rfl rfl (c_record_Get_c1 x45 _ hx52) (fun _ _=>?_)
  iterate 3 refine g_v rfl (r_extract rfl rfl) ?_
  refine g_storeL (tag:=100040) rfl rfl rfl rfl Try.sizeOf54 rfl rfl<|g_v rfl r_assign<|g_v rfl r_assign<|g_nil<|d_then ?_
  refine c_flat [(4,Vp g1),(5,Vi x50),(6,Vi x51)] ⟨rfl,rfl,rfl,trivial⟩ (fun u=>?_)
  refine c_sta ⟨w0,M,(100070,g2,.cells #[Vs x3,Vu x14,Vu i27,.int .u32 i36,Ve] 54 (0,0))::(100040,g1,.cells #[Vs x49.fName,Vu x49.fType,Vu x49.fClass,.int .u32 x49.fTTL,Vs x49.fData] 54 (0,0))::H,R,φ⟩ (fun _ h=>h)<|c_ret<|d_ret_then ?_
  cases hm
  exact d_retC () Try.results68 (res_agg (tag:=100040) rfl rfl Try.isAgg54 Try.sizeOf54 (res_tmp (res_tmp (res_nil rfl)))) trivial (fun W h=>ok_pre (H1:=[_,_]) (R1:=[]) h (fun W hφ=>hφ)) (.inr rfl)
 replace hm:=ite_f hm (of_decide_eq_false h48)
 refine c_skip<|d_then<|c_seq<|c_region ?_
 iterate 3 refine g_v rfl r_move ?_
 refine g_v rfl (r_conv Try.underlying22 Try.underlying3 rfl rfl) ?_
 replace hm:=bnd hm
 obtain ⟨⟨x54,x55,x56⟩,hx57,hm⟩:=hm
 refine g_cn ⟨w0,M,_,_,φ⟩ (fun _ h=>h) Try.call63 rfl rfl (c_pack_Raw p0 x44 (w64 x43) _ hx57) (fun _ _=>?_)
 refine g_v rfl r_move ?_
 iterate 3 refine g_v rfl (r_extract rfl rfl) ?_
 iterate 3 refine g_v rfl r_assign ?_
 refine g_nil<|d_then ?_
 refine c_flat [(0,Vs p0),(1,Vi x44),(4,Vp g1),(7,Vp g2),(8,.func (.func 89) #[] #[]),(10,Vi x56),(12,Vs x54),(13,Vi x55)] ⟨rfl,rfl,rfl,rfl,rfl,rfl,rfl,rfl,trivial⟩ (fun u=>?_)
 refine c_seq<|c_seq<|c_region<|g_v rfl r_move<|g_v rfl (r_neq rfl rfl)<|g_nil<|d_then ?_
 refine c_cond rfl (fun h59=>?_) (fun h59=>?_)
 ·
  replace hm:=ite_t hm (of_decide_eq_true h59)
  refine c_seq<|c_region<|g_v rfl r_move<|g_v rfl r_move ?_
  replace hm:=bnd hm
  obtain ⟨⟨x60,x61,x62⟩,hx63,hm⟩:=hm
  refine g_cnv ⟨w0,M,_,_,φ⟩ (fun _ h=>h) Try.call89 rfl rfl rfl (c_record_Get_c1 x56 _ hx63) (fun _ _=>?_)
  iterate 3 refine g_v rfl (r_extract rfl rfl) ?_
  refine g_storeL (tag:=100040) rfl rfl rfl rfl Try.sizeOf54 rfl rfl<|g_v rfl r_assign<|g_v rfl r_assign<|g_nil<|d_then ?_
  refine c_flat [(4,Vp g1),(5,Vi x61),(6,Vi x62)] ⟨rfl,rfl,rfl,trivial⟩ (fun u=>?_)
  refine c_sta ⟨w0,M,(100070,g2,.cells #[Vs x3,Vu x14,Vu i27,.int .u32 i36,Ve] 54 (0,0))::(100040,g1,.cells #[Vs x60.fName,Vu x60.fType,Vu x60.fClass,.int .u32 x60.fTTL,Vs x60.fData] 54 (0,0))::H,R,φ⟩ (fun _ h=>h)<|c_ret<|d_ret_then ?_
  cases hm
  exact d_retC () Try.results68 (res_agg (tag:=100040) rfl rfl Try.isAgg54 Try.sizeOf54 (res_tmp (res_tmp (res_nil rfl)))) trivial (fun W h=>ok_pre (H1:=[_,_]) (R1:=[]) h (fun W hφ=>hφ)) (.inr rfl)
 replace hm:=ite_f hm (of_decide_eq_false h59)
 refine c_skip<|d_then<|c_seq<|c_region<|g_v rfl r_move<|g_v rfl (r_field (n:=4) Try.underlying54 rfl Try.sizeOf9 rfl rfl)<|g_storeL (tag:=100070) rfl rfl rfl rfl Try.sizeOf9 rfl rfl<|g_nil<|d_then<|c_seq ?_
 refine c_region<|g_v rfl (r_field (n:=1) Try.underlying54 rfl Try.sizeOf22 rfl rfl)<|g_v rfl (r_load (tag:=100070) rfl rfl rfl Try.isAgg22) ?_
 replace hm:=bnd hm
 obtain ⟨x65,hx66,hm⟩:=hm
 refine g_cn ⟨w0,M,_,_,φ⟩ (fun _ h=>h) Try.call85 rfl rfl (c_record_shapeOf x14 _ hx66) (fun _ _=>?_)
 refine g_e rfl (e_alloc 100140 Try.zeroValue135) (fun g67 _=>?_)
 refine g_storeL (tag:=100140) rfl rfl rfl rfl Try.sizeOf135 rfl rfl<|g_nil<|d_then ?_
 refine c_flat [(0,Vs p0),(1,Vi x44),(4,Vp g1),(7,Vp g2),(8,.func (.func 89) #[] #[]),(13,Vi x55),(14,Vp g67)] ⟨rfl,rfl,rfl,rfl,rfl,rfl,rfl,trivial⟩ (fun u=>?_)
 refine c_sta ⟨w0,M,(100140,g67,.cells #[Vi x65.fahead,Vi x65.fnames,Vi x65.fbehind] 135 (0,0))::(100070,g2,.cells #[Vs x3,Vu x14,Vu i27,.int .u32 i36,Vs x54] 54 (0,0))::(100040,g1,.cells #[Ve,Vu 0,Vu 0,.int .u32 0,Ve] 54 (0,0))::H,R,φ⟩ (fun _ h=>h)<|c_seq ?_
 refine c_cut (ι:=ByteArray) [4,7,8,13] (fun s86=>[]) (fun s86=>⟨w0,M,(100070,g2,.cells #[Vs x3,Vu x14,Vu i27,.int .u32 i36,Vs s86] 54 (0,0))::(100040,g1,.cells #[Ve,Vu 0,Vu 0,.int .u32 0,Ve] 54 (0,0))::H,R,φ⟩) (fun s86=>m_record_Get_j3 x3 x14 i27 i36 x55 s86 = some r) ?_ (fun s86 u hm=>?_)
 ·
  refine c_seq<|c_region<|g_v rfl (r_field (n:=1) Try.underlying135 rfl Try.sizeOf3 rfl rfl)<|g_v rfl (r_load (tag:=100140) rfl rfl rfl Try.isAgg3)<|g_v rfl (r_gtr rfl rfl)<|g_nil<|d_then ?_
  refine c_cond rfl (fun h95=>?_) (fun h95=>?_)
  ·
   replace hm:=ite_t hm (of_decide_eq_true h95)
   refine c_seq<|c_region<|g_v rfl r_move<|g_v rfl r_move<|g_v rfl (r_loadA (tag:=100140) rfl rfl Try.isAgg135 Try.sizeOf135 rfl rfl) ?_
   replace hm:=bnd hm
   obtain ⟨⟨x96,x97,x98⟩,hx99,hm⟩:=hm
   refine g_cn ⟨w0,M,_,_,φ⟩ (fun _ h=>h) Try.call90 rfl rfl (c_record_full p0 x44 x65 _ hx99) (fun _ _=>?_)
   refine g_v rfl r_move ?_
   iterate 3 refine g_v rfl (r_extract rfl rfl) ?_
   iterate 3 refine g_v rfl r_assign ?_
   refine g_nil<|d_then ?_
   refine c_flat [(4,Vp g1),(7,Vp g2),(8,.func (.func 89) #[] #[]),(13,Vi x55),(15,Vs x96),(16,Vi x97),(17,Vi x98)] ⟨rfl,rfl,rfl,rfl,rfl,rfl,rfl,trivial⟩ (fun u=>?_)
   refine c_seq<|c_block<|c_seq<|c_region<|g_v rfl r_move<|g_v rfl (r_neq rfl rfl)<|g_v rfl r_assign<|g_nil<|d_then ?_
   refine c_cond rfl (fun h101=>?_) (fun h101=>?_)
   ·
    replace hm:=ite_t hm (of_decide_eq_true h101)
    refine c_seq<|c_region<|g_v rfl r_move<|g_v rfl r_move ?_
    replace hm:=bnd hm
    obtain ⟨⟨x102,x103,x104⟩,hx105,hm⟩:=hm
    refine g_cnv ⟨w0,M,_,_,φ⟩ (fun _ h=>h) Try.call89 rfl rfl rfl (c_record_Get_c1 x98 _ hx105) (fun _ _=>?_)
    iterate 3 refine g_v rfl (r_extract rfl rfl) ?_
    refine g_storeL (tag:=100040) rfl rfl rfl rfl Try.sizeOf54 rfl rfl<|g_v rfl r_assign<|g_v rfl r_assign<|g_nil<|d_then ?_
    refine c_flat [(4,Vp g1),(5,Vi x103),(6,Vi x104)] ⟨rfl,rfl,rfl,trivial⟩ (fun u=>?_)
    refine c_sta ⟨w0,M,(100140,g67,.cells #[Vi x65.fahead,Vi x65.fnames,Vi x65.fbehind] 135 (0,0))::(100070,g2,.cells #[Vs x3,Vu x14,Vu i27,.int .u32 i36,Vs x54] 54 (0,0))::(100040,g1,.cells #[Vs x102.fName,Vu x102.fType,Vu x102.fClass,.int .u32 x102.fTTL,Vs x102.fData] 54 (0,0))::H,R,φ⟩ (fun _ h=>h)<|c_ret<|d_ret_block ?_
    iterate 3 refine d_ret_then ?_
    cases hm
    exact d_retC () Try.results68 (res_agg (tag:=100040) rfl rfl Try.isAgg54 Try.sizeOf54 (res_tmp (res_tmp (res_nil rfl)))) trivial (fun W h=>ok_pre (H1:=[_,_,_]) (R1:=[]) h (fun W hφ=>hφ)) (.inr rfl)
   replace hm:=ite_f hm (of_decide_eq_false h101)
   refine c_seq<|c_region<|g_v rfl r_move<|g_v rfl r_move<|g_v rfl (r_neq rfl rfl)<|g_v rfl r_assign<|g_nil<|d_then ?_
   refine c_cond rfl (fun h107=>?_) (fun h107=>?_)
   ·
    replace hm:=ite_t hm (of_decide_eq_true h107)
    refine c_seq<|c_region<|g_v rfl r_move ?_
    replace hm:=bnd hm
    obtain ⟨⟨x108,x109,x110⟩,hx111,hm⟩:=hm
    refine g_cnv ⟨w0,M,_,_,φ⟩ (fun _ h=>h) Try.call89 rfl rfl rfl (c_record_Get_c1 10 _ hx111) (fun _ _=>?_)
    iterate 3 refine g_v rfl (r_extract rfl rfl) ?_
    refine g_storeL (tag:=100040) rfl rfl rfl rfl Try.sizeOf54 rfl rfl<|g_v rfl r_assign<|g_v rfl r_assign<|g_nil<|d_then ?_
    refine c_flat [(4,Vp g1),(5,Vi x109),(6,Vi x110)] ⟨rfl,rfl,rfl,trivial⟩ (fun u=>?_)
    refine c_sta ⟨w0,M,(100140,g67,.cells #[Vi x65.fahead,Vi x65.fnames,Vi x65.fbehind] 135 (0,0))::(100070,g2,.cells #[Vs x3,Vu x14,Vu i27,.int .u32 i36,Vs x54] 54 (0,0))::(100040,g1,.cells #[Vs x108.fName,Vu x108.fType,Vu x108.fClass,.int .u32 x108.fTTL,Vs x108.fData] 54 (0,0))::H,R,φ⟩ (fun _ h=>h)<|c_ret<|d_ret_block ?_
    iterate 3 refine d_ret_then ?_
    cases hm
    exact d_retC () Try.results68 (res_agg (tag:=100040) rfl rfl Try.isAgg54 Try.sizeOf54 (res_tmp (res_tmp (res_nil rfl)))) trivial (fun W h=>ok_pre (H1:=[_,_,_]) (R1:=[]) h (fun W hφ=>hφ)) (.inr rfl)
   replace hm:=ite_f hm (of_decide_eq_false h107)
   refine c_skip<|d_normal_block<|d_then<|c_region<|g_v rfl r_move<|g_v rfl (r_field (n:=4) Try.underlying54 rfl Try.sizeOf9 rfl rfl)<|g_storeL (tag:=100070) rfl rfl rfl rfl Try.sizeOf9 rfl rfl<|g_nil ?_
   exact d_round x96 hm Nat.zero_lt_one ⟨rfl,rfl,rfl,rfl,trivial⟩ (fun W h=>(h.dropH (t:=100140) rfl).phi (fun W hφ=>hφ))
  replace hm:=ite_f hm (of_decide_eq_false h95)
  refine c_skip ?_
  exact d_round x54 hm Nat.zero_lt_one ⟨rfl,rfl,rfl,rfl,trivial⟩ (fun W h=>(h.dropH (t:=100140) rfl).phi (fun W hφ=>hφ))
 unfold m_record_Get_j3 at hm
 refine d_flat [(4,Vp g1),(7,Vp g2),(8,.func (.func 89) #[] #[]),(13,Vi x55)] ⟨rfl,rfl,rfl,rfl,trivial⟩ (fun u=>?_)
 refine d_sta ⟨w0,M,(100070,g2,.cells #[Vs x3,Vu x14,Vu i27,.int .u32 i36,Vs s86] 54 (0,0))::(100040,g1,.cells #[Ve,Vu 0,Vu 0,.int .u32 0,Ve] 54 (0,0))::H,R,φ⟩ (fun _ h=>h)<|d_then<|c_seq<|c_region<|g_v rfl (r_loadA (tag:=100070) rfl rfl Try.isAgg54 Try.sizeOf54 rfl rfl) ?_
 replace hm:=bnd hm
 obtain ⟨x87,hx88,hm⟩:=hm
 refine g_cn ⟨w0,M,_,_,φ⟩ (fun _ h=>h) Try.call84 rfl rfl (c_record_Check (⟨x3,x14,i27,i36,s86⟩ : GRR) _ hx88) (fun _ _=>?_)
 refine g_v rfl r_assign<|g_nil<|d_then<|c_seq<|c_seq<|c_region<|g_v rfl r_move<|g_v rfl (r_neq rfl rfl)<|g_nil<|d_then ?_
 refine c_cond rfl (fun h89=>?_) (fun h89=>?_)
 ·
  replace hm:=ite_t hm (of_decide_eq_true h89)
  refine c_seq<|c_region<|g_v rfl r_move<|g_v rfl r_move ?_
  replace hm:=bnd hm
  obtain ⟨⟨x90,x91,x92⟩,hx93,hm⟩:=hm
  refine g_cnv ⟨w0,M,_,_,φ⟩ (fun _ h=>h) Try.call89 rfl rfl rfl (c_record_Get_c1 x87 _ hx93) (fun _ _=>?_)
  iterate 3 refine g_v rfl (r_extract rfl rfl) ?_
  refine g_storeL (tag:=100040) rfl rfl rfl rfl Try.sizeOf54 rfl rfl<|g_v rfl r_assign<|g_v rfl r_assign<|g_nil<|d_then ?_
  refine c_flat [(4,Vp g1),(5,Vi x91),(6,Vi x92)] ⟨rfl,rfl,rfl,trivial⟩ (fun u=>?_)
  refine c_sta ⟨w0,M,(100070,g2,.cells #[Vs x3,Vu x14,Vu i27,.int .u32 i36,Vs s86] 54 (0,0))::(100040,g1,.cells #[Vs x90.fName,Vu x90.fType,Vu x90.fClass,.int .u32 x90.fTTL,Vs x90.fData] 54 (0,0))::H,R,φ⟩ (fun _ h=>h)<|c_ret<|d_ret_then ?_
  cases hm
  exact d_retC () Try.results68 (res_agg (tag:=100040) rfl rfl Try.isAgg54 Try.sizeOf54 (res_tmp (res_tmp (res_nil rfl)))) trivial (fun W h=>ok_pre (H1:=[_,_]) (R1:=[]) h (fun W hφ=>hφ)) (.inr rfl)
 replace hm:=ite_f hm (of_decide_eq_false h89)
 refine c_skip<|d_then<|c_seq<|c_region<|g_v rfl (r_loadA (tag:=100070) rfl rfl Try.isAgg54 Try.sizeOf54 rfl rfl)<|g_v rfl r_move<|g_storeL (tag:=100040) rfl rfl rfl rfl Try.sizeOf54 rfl rfl<|g_v rfl r_assign<|g_v rfl r_assign<|g_nil ?_
 refine d_then ?_
 refine c_flat [(4,Vp g1),(5,Vi x55),(6,Vi 0)] ⟨rfl,rfl,rfl,trivial⟩ (fun u=>?_)
 refine c_sta ⟨w0,M,(100070,g2,.cells #[Vs x3,Vu x14,Vu i27,.int .u32 i36,Vs s86] 54 (0,0))::(100040,g1,.cells #[Vs x3,Vu x14,Vu i27,.int .u32 i36,Vs s86] 54 (0,0))::H,R,φ⟩ (fun _ h=>h)<|c_ret ?_
 cases hm
 exact d_retC () Try.results68 (res_agg (tag:=100040) rfl rfl Try.isAgg54 Try.sizeOf54 (res_tmp (res_tmp (res_nil rfl)))) trivial (fun W h=>ok_pre (H1:=[_,_]) (R1:=[]) h (fun W hφ=>hφ)) (.inr rfl)
end Go.Proofs.Ytbaobjcaeaofaaa
