import Derived.Test.YtbaobjcaeaofaaaWPOB
set_option maxRecDepth 100000
set_option maxHeartbeats 4000000
set_option linter.unusedVariables false
set_option linter.unusedSimpArgs false
namespace Go.Proofs.Ytbaobjcaeaofaaa
open Go.RowKit Go.Proofs.YtbaobjcaeaofaaaW.PrintLast
noncomputable def m_peer_Bytes_j1  (l73 : List Int) (l76 : List (ByteArray×Int)) : Option (ByteArray×Int):=
  (m_pack_Packer_Len (⟨l73,l76⟩ : Gpack_Packer)).bind fun x79=>
  if 65535 < x79 then
    some ((⟨#[]⟩ : ByteArray),11)
  else
    (m_pack_Packer_Bytes (⟨l73,l76⟩ : Gpack_Packer)).bind fun x82=>
    some (x82,0)
noncomputable def m_peer_Bytes (p0 : GLetter) : Option (ByteArray×Int):=
  (m_peer_Check p0).bind fun x2=>
  if x2 ≠ 0 then
    some ((⟨#[]⟩ : ByteArray),x2)
  else
    (m_pack_New).bind fun x5=>
    (m_pack_Packer_Byte (IntKind.u8.wrap p0.fKind) x5).bind fun x15=>
    (m_peer_writer_eight [p0.fSerial,p0.fEpoch] (⟨x15.fb,x5.fplaces⟩ : Gpack_Packer)).bind fun x21=>
    if p0.fKind = 1 then
      (m_pack_Packer_Name p0.fQuestion.fName false (⟨x21.fb,x5.fplaces⟩ : Gpack_Packer)).bind fun (z94 : Int×Gpack_Packer)=>
      (m_pack_Packer_Word p0.fQuestion.fType z94.2).bind fun x95=>
      (m_pack_Packer_Word p0.fQuestion.fClass (⟨x95.fb,z94.2.fplaces⟩ : Gpack_Packer)).bind fun x100=>
      m_peer_Bytes_j1 x100.fb z94.2.fplaces
    else
      if p0.fKind = 2 then
        (m_peer_writer_bit p0.fGood (⟨x21.fb,x5.fplaces⟩ : Gpack_Packer)).bind fun x106=>
        (m_peer_writer_entries p0.fEntries (⟨x106.fb,x5.fplaces⟩ : Gpack_Packer)).bind fun x111=>
        m_peer_Bytes_j1 x111.fb x111.fplaces
      else
        if p0.fKind = 3 then
          (m_peer_writer_note p0.fNote (⟨x21.fb,x5.fplaces⟩ : Gpack_Packer)).bind fun x120=>
          m_peer_Bytes_j1 x120.fb x5.fplaces
        else
          if p0.fKind = 5 then
            (m_pack_Packer_Raw p0.fText (⟨x21.fb,x5.fplaces⟩ : Gpack_Packer)).bind fun x126=>
            m_peer_Bytes_j1 x126.fb x5.fplaces
          else
            m_peer_Bytes_j1 x21.fb x5.fplaces
theorem c_peer_Bytes {w0 : World} {M : Nat→Prop} {H : List (Nat×Nat×Obj)} {R : List (Nat×Row)} {φ : World→Prop} (p0 : GLetter) (Ap0_0 : Option Addr) (cp0_0 : Nat) (psp0_0 : List GCachedP) (hcp0_0 : (DOk GCached.capP p0.fEntries psp0_0∧p0.fEntries.length ≤ cp0_0)) (fp0_0 : ∀ W,φ W→Cl W Ap0_0 ((p0.fEntries.zip psp0_0).flatMap GCached.encP)) (fop0_0 : ∀ W,φ W→DOwn GCached.ownP p0.fEntries psp0_0 W) (Ap0_1 : Option Addr) (cp0_1 : Nat) (hcp0_1 : p0.fNote.fEntries.length ≤ cp0_1) (fp0_1 : ∀ W,(Sta.mk w0 M H R φ).ok W→Cl W Ap0_1 (p0.fNote.fEntries.flatMap GEntry.enc)) (Ap0_2 : Option Addr) (cp0_2 : Nat) (hcp0_2 : p0.fNote.fVoters.length ≤ cp0_2) (fp0_2 : ∀ W,(Sta.mk w0 M H R φ).ok W→Cl W Ap0_2 (p0.fNote.fVoters.flatMap (fun x : Int=>[Value.int .i64 x]))) (r : ByteArray×Int) (hm : m_peer_Bytes p0 = some r) :
    Cn Try.prog 13 #[.agg #[.int .i64 p0.fKind,.int .i64 p0.fSerial,.int .i64 p0.fEpoch,.string p0.fQuestion.fName,.int .u16 p0.fQuestion.fType,.int .u16 p0.fQuestion.fClass,.bool p0.fGood,.slice Ap0_0 p0.fEntries.length cp0_0,.int .i64 p0.fNote.fKind,.int .i64 p0.fNote.fFrom,.int .i64 p0.fNote.fTo,.int .i64 p0.fNote.fTerm,.int .i64 p0.fNote.fIndex,.int .i64 p0.fNote.fLogTerm,.int .i64 p0.fNote.fCommit,.bool p0.fNote.fGood,.slice Ap0_1 p0.fNote.fEntries.length cp0_1,.slice Ap0_2 p0.fNote.fVoters.length cp0_2,.string p0.fNote.fSnap,.string p0.fText]] ⟨w0,M,H,R,φ⟩ (fun x : Unit=>.tuple #[.string r.1,.int .i64 r.2]) (fun x=>True) (fun x=>⟨w0,M,H,R,φ⟩):=by
 unfold m_peer_Bytes at hm
 refine cn_intro (fn:=Try.f13) (N:=78) Try.func13 rfl Try.ntmps13 rfl<|c_seq<|c_region ?_
 refine g_e rfl (e_box 100010 rfl) (fun g1 _=>?_)
 refine g_v rfl r_assign<|g_v rfl r_assign<|g_nil<|d_then<|c_seq<|c_region<|g_v rfl (r_loadA (tag:=100010) rfl rfl Try.isAgg31 Try.sizeOf31 rfl rfl) ?_
 replace hm:=bnd hm
 obtain ⟨x2,hx3,hm⟩:=hm
 refine g_cn ⟨w0,M,_,_,φ⟩ (fun _ h=>h) Try.call18 rfl rfl (c_peer_Check p0 Ap0_0 cp0_0 psp0_0 ⟨hcp0_0.1,hcp0_0.2⟩ (fun W h=>fp0_0 W h) (fun W h=>(fop0_0 W h)) Ap0_1 cp0_1 hcp0_1 (fun W hS=>fp0_1 W (ok_pre (H1:=[_]) (R1:=[]) hS (fun W h=>h))) Ap0_2 cp0_2 hcp0_2 (fun W hS=>fp0_2 W (ok_pre (H1:=[_]) (R1:=[]) hS (fun W h=>h))) _ hx3) (fun _ _=>?_)
 refine g_v rfl r_assign<|g_nil<|d_then<|c_seq<|c_seq<|c_region<|g_v rfl r_move<|g_v rfl (r_neq rfl rfl)<|g_nil<|d_then ?_
 refine c_sta ⟨w0,M,(100010,g1,.cells #[.int .i64 p0.fKind,.int .i64 p0.fSerial,.int .i64 p0.fEpoch,.string p0.fQuestion.fName,.int .u16 p0.fQuestion.fType,.int .u16 p0.fQuestion.fClass,.bool p0.fGood,.slice Ap0_0 p0.fEntries.length cp0_0,.int .i64 p0.fNote.fKind,.int .i64 p0.fNote.fFrom,.int .i64 p0.fNote.fTo,.int .i64 p0.fNote.fTerm,.int .i64 p0.fNote.fIndex,.int .i64 p0.fNote.fLogTerm,.int .i64 p0.fNote.fCommit,.bool p0.fNote.fGood,.slice Ap0_1 p0.fNote.fEntries.length cp0_1,.slice Ap0_2 p0.fNote.fVoters.length cp0_2,.string p0.fNote.fSnap,.string p0.fText] 31 (0,0))::H,R,φ⟩ (fun _ h=>h) ?_
 refine c_cond rfl (fun h4=>?_) (fun h4=>?_)
 ·
  replace hm:=ite_t hm (of_decide_eq_true h4)
  refine c_seq<|c_region<|g_v rfl r_move<|g_v rfl r_assign<|g_v rfl r_assign<|g_nil<|d_then ?_
  refine c_flat [(2,.string (⟨#[]⟩ : ByteArray)),(3,.int .i64 x2)] ⟨rfl,rfl,trivial⟩ (fun u=>?_)
  refine c_ret<|d_ret_then ?_
  cases hm
  exact d_retC () Try.results13 (res_tmp (res_tmp (res_nil rfl))) trivial (fun W h=>ok_pre (H1:=[_]) (R1:=[]) h (fun W hφ=>hφ)) (.inr rfl)
 replace hm:=ite_f hm (of_decide_eq_false h4)
 refine c_skip<|d_then<|c_seq<|c_region ?_
 replace hm:=bnd hm
 obtain ⟨x5,hx6,hm⟩:=hm
 refine g_cn ⟨w0,M,_,_,φ⟩ (fun _ h=>h) Try.call23 rfl rfl (c_pack_New  _ hx6) (fun ⟨A7,c8,A10,c11,g13⟩ ⟨hc8,hc11⟩=>?_)
 refine g_sta _ (fun W h=>(ok_frontR (t:=2000) (t':=100110) (ok_frontR (t:=2001) (t':=100111) (ok_front (t:=3000) (t':=100115) h rfl) rfl) rfl))<|g_v rfl (r_build _ rfl (bld63_14 _)) ?_
 refine g_e rfl (e_alloc 100050 Try.zeroValue63) (fun g14 _=>?_)
 refine g_storeL (tag:=100050) rfl rfl rfl rfl Try.sizeOf63 rfl rfl<|g_nil<|d_then ?_
 refine c_flat [(1,.pointer (some ⟨g1,0,none⟩)),(5,.pointer (some ⟨g14,0,none⟩))] ⟨rfl,rfl,trivial⟩ (fun u=>?_)
 refine c_sta ⟨w0,M,(100050,g14,.cells #[.pointer (some ⟨g13,0,none⟩)] 63 (0,0))::(100115,g13,.cells #[.slice A7 x5.fb.length c8,mapV A10] 94 (0,0))::(100010,g1,.cells #[.int .i64 p0.fKind,.int .i64 p0.fSerial,.int .i64 p0.fEpoch,.string p0.fQuestion.fName,.int .u16 p0.fQuestion.fType,.int .u16 p0.fQuestion.fClass,.bool p0.fGood,.slice Ap0_0 p0.fEntries.length cp0_0,.int .i64 p0.fNote.fKind,.int .i64 p0.fNote.fFrom,.int .i64 p0.fNote.fTo,.int .i64 p0.fNote.fTerm,.int .i64 p0.fNote.fIndex,.int .i64 p0.fNote.fLogTerm,.int .i64 p0.fNote.fCommit,.bool p0.fNote.fGood,.slice Ap0_1 p0.fNote.fEntries.length cp0_1,.slice Ap0_2 p0.fNote.fVoters.length cp0_2,.string p0.fNote.fSnap,.string p0.fText] 31 (0,0))::H,(100110,⟨.slice A7 x5.fb.length c8,5,1,x5.fb.length,x5.fb.flatMap (fun x : Int=>[Value.int .u8 x])⟩)::(100111,⟨mapV A10,92,2,x5.fplaces.length,x5.fplaces.flatMap (mcell (fun x : ByteArray=>Value.string x) (fun x : Int=>Value.int .i64 x))⟩)::R,φ⟩ (fun _ h=>h)<|c_seq<|c_region<|g_v rfl (r_field (n:=0) Try.underlying63 rfl Try.sizeOf60 rfl rfl)<|g_v rfl (r_load (tag:=100050) rfl rfl rfl Try.isAgg60)<|g_v rfl (r_field (n:=0) Try.underlying31 rfl Try.sizeOf3 rfl rfl)<|g_v rfl (r_load (tag:=100010) rfl rfl rfl Try.isAgg3)<|g_v rfl (r_conv Try.underlying3 Try.underlying5 rfl rfl) ?_
 replace hm:=bnd hm
 obtain ⟨x15,hx16,hm⟩:=hm
 refine g_cn ⟨w0,M,(1000,g13,.cells #[.slice A7 x5.fb.length c8,mapV A10] 94 (0,0))::(100050,g14,.cells #[.pointer (some ⟨g13,0,none⟩)] 63 (0,0))::(100010,g1,.cells #[.int .i64 p0.fKind,.int .i64 p0.fSerial,.int .i64 p0.fEpoch,.string p0.fQuestion.fName,.int .u16 p0.fQuestion.fType,.int .u16 p0.fQuestion.fClass,.bool p0.fGood,.slice Ap0_0 p0.fEntries.length cp0_0,.int .i64 p0.fNote.fKind,.int .i64 p0.fNote.fFrom,.int .i64 p0.fNote.fTo,.int .i64 p0.fNote.fTerm,.int .i64 p0.fNote.fIndex,.int .i64 p0.fNote.fLogTerm,.int .i64 p0.fNote.fCommit,.bool p0.fNote.fGood,.slice Ap0_1 p0.fNote.fEntries.length cp0_1,.slice Ap0_2 p0.fNote.fVoters.length cp0_2,.string p0.fNote.fSnap,.string p0.fText] 31 (0,0))::H,(1000,⟨.slice A7 x5.fb.length c8,5,1,x5.fb.length,x5.fb.flatMap (fun x : Int=>[Value.int .u8 x])⟩)::(1001,⟨mapV A10,92,2,x5.fplaces.length,x5.fplaces.flatMap (mcell (fun x : ByteArray=>Value.string x) (fun x : Int=>Value.int .i64 x))⟩)::R,φ⟩ (fun W h=>(ok_front (t:=100115) (t':=1000) (ok_frontR (t:=100110) (t':=1000) (ok_frontR (t:=100111) (t':=1001) h rfl) rfl) rfl)) Try.call24 rfl rfl (c_pack_Packer_Byte (IntKind.u8.wrap p0.fKind) g13 x5 A7 c8 hc8 A10 c11 trivial _ hx16) (fun ⟨A17,c18⟩ hc18=>?_)
 refine g_sta _ (fun W h=>(ok_frontR (t:=2000) (t':=100110) (ok_frontR (t:=1001) (t':=100111) (ok_front (t:=1000) (t':=100115) h rfl) rfl) rfl))<|g_nil<|d_then<|c_seq<|c_region<|g_v rfl (r_loadA (tag:=100050) rfl rfl Try.isAgg63 Try.sizeOf63 rfl rfl)<|g_v rfl (r_field (n:=1) Try.underlying31 rfl Try.sizeOf3 rfl rfl)<|g_v rfl (r_load (tag:=100010) rfl rfl rfl Try.isAgg3)<|g_v rfl (r_field (n:=2) Try.underlying31 rfl Try.sizeOf3 rfl rfl)<|g_v rfl (r_load (tag:=100010) rfl rfl rfl Try.isAgg3) ?_
 refine g_e rfl (e_lit (tag:=100240) (l:=[p0.fSerial,p0.fEpoch]) (enc:=(fun x : Int=>[Value.int .i64 x])) (sz:=1) rfl Try.underlying27 (lit3_17 _ _) rfl rfl (fun _=>rfl)) (fun g20 _=>?_)
 replace hm:=bnd hm
 obtain ⟨x21,hx22,hm⟩:=hm
 refine g_cn ⟨w0,M,(1000,g13,.cells #[.slice A17 x15.fb.length c18,mapV A10] 94 (0,0))::(100050,g14,.cells #[.pointer (some ⟨g13,0,none⟩)] 63 (0,0))::(100010,g1,.cells #[.int .i64 p0.fKind,.int .i64 p0.fSerial,.int .i64 p0.fEpoch,.string p0.fQuestion.fName,.int .u16 p0.fQuestion.fType,.int .u16 p0.fQuestion.fClass,.bool p0.fGood,.slice Ap0_0 p0.fEntries.length cp0_0,.int .i64 p0.fNote.fKind,.int .i64 p0.fNote.fFrom,.int .i64 p0.fNote.fTo,.int .i64 p0.fNote.fTerm,.int .i64 p0.fNote.fIndex,.int .i64 p0.fNote.fLogTerm,.int .i64 p0.fNote.fCommit,.bool p0.fNote.fGood,.slice Ap0_1 p0.fNote.fEntries.length cp0_1,.slice Ap0_2 p0.fNote.fVoters.length cp0_2,.string p0.fNote.fSnap,.string p0.fText] 31 (0,0))::H,(1000,⟨.slice A17 x15.fb.length c18,5,1,x15.fb.length,x15.fb.flatMap (fun x : Int=>[Value.int .u8 x])⟩)::(1001,⟨mapV A10,92,2,x5.fplaces.length,x5.fplaces.flatMap (mcell (fun x : ByteArray=>Value.string x) (fun x : Int=>Value.int .i64 x))⟩)::(100240,⟨.slice (some ⟨g20,0,none⟩) [p0.fSerial,p0.fEpoch].length 2,3,1,[p0.fSerial,p0.fEpoch].length,[p0.fSerial,p0.fEpoch].flatMap (fun x : Int=>[Value.int .i64 x])⟩)::R,φ⟩ (fun W h=>(ok_front (t:=100115) (t':=1000) (ok_frontR (t:=100110) (t':=1000) (ok_frontR (t:=100111) (t':=1001) h rfl) rfl) rfl)) Try.call25 rfl rfl (c_peer_writer_eight [p0.fSerial,p0.fEpoch] (some ⟨g20,0,none⟩) 2 (Nat.le_refl _) (fun W hS=>rowCl (tag:=100240) rfl W hS) g13 (⟨x15.fb,x5.fplaces⟩ : Gpack_Packer) A17 c18 hc18 A10 c11 trivial _ hx22) (fun ⟨A23,c24⟩ hc24=>?_)
 refine g_sta _ (fun W h=>(ok_frontR (t:=2000) (t':=100110) (ok_frontR (t:=1001) (t':=100111) (ok_front (t:=1000) (t':=100115) h rfl) rfl) rfl))<|g_nil<|d_then ?_
 refine c_flat [(1,.pointer (some ⟨g1,0,none⟩)),(5,.pointer (some ⟨g14,0,none⟩))] ⟨rfl,rfl,trivial⟩ (fun u=>?_)
 refine c_sta ⟨w0,M,(100115,g13,.cells #[.slice A23 x21.fb.length c24,mapV A10] 94 (0,0))::(100050,g14,.cells #[.pointer (some ⟨g13,0,none⟩)] 63 (0,0))::(100010,g1,.cells #[.int .i64 p0.fKind,.int .i64 p0.fSerial,.int .i64 p0.fEpoch,.string p0.fQuestion.fName,.int .u16 p0.fQuestion.fType,.int .u16 p0.fQuestion.fClass,.bool p0.fGood,.slice Ap0_0 p0.fEntries.length cp0_0,.int .i64 p0.fNote.fKind,.int .i64 p0.fNote.fFrom,.int .i64 p0.fNote.fTo,.int .i64 p0.fNote.fTerm,.int .i64 p0.fNote.fIndex,.int .i64 p0.fNote.fLogTerm,.int .i64 p0.fNote.fCommit,.bool p0.fNote.fGood,.slice Ap0_1 p0.fNote.fEntries.length cp0_1,.slice Ap0_2 p0.fNote.fVoters.length cp0_2,.string p0.fNote.fSnap,.string p0.fText] 31 (0,0))::H,(100110,⟨.slice A23 x21.fb.length c24,5,1,x21.fb.length,x21.fb.flatMap (fun x : Int=>[Value.int .u8 x])⟩)::(100111,⟨mapV A10,92,2,x5.fplaces.length,x5.fplaces.flatMap (mcell (fun x : ByteArray=>Value.string x) (fun x : Int=>Value.int .i64 x))⟩)::(100240,⟨.slice (some ⟨g20,0,none⟩) [p0.fSerial,p0.fEpoch].length 2,3,1,[p0.fSerial,p0.fEpoch].length,[p0.fSerial,p0.fEpoch].flatMap (fun x : Int=>[Value.int .i64 x])⟩)::R,φ⟩ (fun _ h=>h)<|c_seq ?_
 refine c_cut (ι:=(List Int)×(List (ByteArray×Int))×Option Addr×Nat×Option Addr×Nat) [5] (fun ⟨l73,l76,A74,c75,A77,c78⟩=>[]) (fun ⟨l73,l76,A74,c75,A77,c78⟩=>⟨w0,M,(100115,g13,.cells #[.slice A74 l73.length c75,mapV A77] 94 (0,0))::(100050,g14,.cells #[.pointer (some ⟨g13,0,none⟩)] 63 (0,0))::H,(100110,⟨.slice A74 l73.length c75,5,1,l73.length,l73.flatMap (fun x : Int=>[Value.int .u8 x])⟩)::(100111,⟨mapV A77,92,2,l76.length,l76.flatMap (mcell (fun x : ByteArray=>Value.string x) (fun x : Int=>Value.int .i64 x))⟩)::R,φ⟩) (fun ⟨l73,l76,A74,c75,A77,c78⟩=>m_peer_Bytes_j1 l73 l76 = some r∧l73.length ≤ c75∧True) ?_ (fun ⟨l73,l76,A74,c75,A77,c78⟩ u ⟨hm,hc75,hc78⟩=>?_)
 ·
  refine c_seq<|c_region<|g_v rfl (r_field (n:=0) Try.underlying31 rfl Try.sizeOf3 rfl rfl)<|g_v rfl (r_load (tag:=100010) rfl rfl rfl Try.isAgg3)<|g_nil<|d_then<|c_block<|c_seq<|c_region<|g_v rfl (r_eql rfl rfl) ?_
  refine g_v rfl r_assign<|g_nil<|d_then ?_
  refine c_cond rfl (fun h84=>?_) (fun h84=>?_)
  ·
   replace hm:=ite_t hm (of_decide_eq_true h84)
   refine c_seq<|c_region<|g_v rfl (r_field (n:=0) Try.underlying63 rfl Try.sizeOf60 rfl rfl)<|g_v rfl (r_load (tag:=100050) rfl rfl rfl Try.isAgg60)<|g_v rfl (r_field (n:=3) Try.underlying31 rfl Try.sizeOf24 rfl rfl)<|g_v rfl (r_field (n:=3) Try.underlying24 rfl Try.sizeOf9 rfl rfl)<|g_v rfl (r_load (tag:=100010) rfl rfl rfl Try.isAgg9) ?_
   replace hm:=bnd hm
   obtain ⟨⟨x85,x86⟩,hx87,hm⟩:=hm
   refine g_cn ⟨w0,M,(1000,g13,.cells #[.slice A23 x21.fb.length c24,mapV A10] 94 (0,0))::(100050,g14,.cells #[.pointer (some ⟨g13,0,none⟩)] 63 (0,0))::(100010,g1,.cells #[.int .i64 p0.fKind,.int .i64 p0.fSerial,.int .i64 p0.fEpoch,.string p0.fQuestion.fName,.int .u16 p0.fQuestion.fType,.int .u16 p0.fQuestion.fClass,.bool p0.fGood,.slice Ap0_0 p0.fEntries.length cp0_0,.int .i64 p0.fNote.fKind,.int .i64 p0.fNote.fFrom,.int .i64 p0.fNote.fTo,.int .i64 p0.fNote.fTerm,.int .i64 p0.fNote.fIndex,.int .i64 p0.fNote.fLogTerm,.int .i64 p0.fNote.fCommit,.bool p0.fNote.fGood,.slice Ap0_1 p0.fNote.fEntries.length cp0_1,.slice Ap0_2 p0.fNote.fVoters.length cp0_2,.string p0.fNote.fSnap,.string p0.fText] 31 (0,0))::H,(1000,⟨.slice A23 x21.fb.length c24,5,1,x21.fb.length,x21.fb.flatMap (fun x : Int=>[Value.int .u8 x])⟩)::(1001,⟨mapV A10,92,2,x5.fplaces.length,x5.fplaces.flatMap (mcell (fun x : ByteArray=>Value.string x) (fun x : Int=>Value.int .i64 x))⟩)::(100240,⟨.slice (some ⟨g20,0,none⟩) [p0.fSerial,p0.fEpoch].length 2,3,1,[p0.fSerial,p0.fEpoch].length,[p0.fSerial,p0.fEpoch].flatMap (fun x : Int=>[Value.int .i64 x])⟩)::R,φ⟩ (fun W h=>(ok_front (t:=100115) (t':=1000) (ok_frontR (t:=100110) (t':=1000) (ok_frontR (t:=100111) (t':=1001) h rfl) rfl) rfl)) Try.call26 rfl rfl (c_pack_Packer_Name p0.fQuestion.fName false g13 (⟨x21.fb,x5.fplaces⟩ : Gpack_Packer) A23 c24 hc24 A10 c11 trivial _ hx87) (fun ⟨A88,c89,A91,c92⟩ ⟨hc89,hc92⟩=>?_)
   refine g_sta _ (fun W h=>(ok_frontR (t:=2000) (t':=100110) (ok_frontR (t:=2001) (t':=100111) (ok_front (t:=1000) (t':=100115) h rfl) rfl) rfl))<|g_nil<|d_then ?_
   refine c_flat [(1,.pointer (some ⟨g1,0,none⟩)),(5,.pointer (some ⟨g14,0,none⟩))] ⟨rfl,rfl,trivial⟩ (fun u=>?_)
   refine c_sta ⟨w0,M,(100115,g13,.cells #[.slice A88 x86.fb.length c89,mapV A91] 94 (0,0))::(100050,g14,.cells #[.pointer (some ⟨g13,0,none⟩)] 63 (0,0))::(100010,g1,.cells #[.int .i64 p0.fKind,.int .i64 p0.fSerial,.int .i64 p0.fEpoch,.string p0.fQuestion.fName,.int .u16 p0.fQuestion.fType,.int .u16 p0.fQuestion.fClass,.bool p0.fGood,.slice Ap0_0 p0.fEntries.length cp0_0,.int .i64 p0.fNote.fKind,.int .i64 p0.fNote.fFrom,.int .i64 p0.fNote.fTo,.int .i64 p0.fNote.fTerm,.int .i64 p0.fNote.fIndex,.int .i64 p0.fNote.fLogTerm,.int .i64 p0.fNote.fCommit,.bool p0.fNote.fGood,.slice Ap0_1 p0.fNote.fEntries.length cp0_1,.slice Ap0_2 p0.fNote.fVoters.length cp0_2,.string p0.fNote.fSnap,.string p0.fText] 31 (0,0))::H,(100110,⟨.slice A88 x86.fb.length c89,5,1,x86.fb.length,x86.fb.flatMap (fun x : Int=>[Value.int .u8 x])⟩)::(100111,⟨mapV A91,92,2,x86.fplaces.length,x86.fplaces.flatMap (mcell (fun x : ByteArray=>Value.string x) (fun x : Int=>Value.int .i64 x))⟩)::(100240,⟨.slice (some ⟨g20,0,none⟩) [p0.fSerial,p0.fEpoch].length 2,3,1,[p0.fSerial,p0.fEpoch].length,[p0.fSerial,p0.fEpoch].flatMap (fun x : Int=>[Value.int .i64 x])⟩)::R,φ⟩ (fun _ h=>h)<|c_seq<|c_region<|g_v rfl (r_field (n:=0) Try.underlying63 rfl Try.sizeOf60 rfl rfl)<|g_v rfl (r_load (tag:=100050) rfl rfl rfl Try.isAgg60)<|g_v rfl (r_field (n:=3) Try.underlying31 rfl Try.sizeOf24 rfl rfl)<|g_v rfl (r_field (n:=4) Try.underlying24 rfl Try.sizeOf22 rfl rfl)<|g_v rfl (r_load (tag:=100010) rfl rfl rfl Try.isAgg22) ?_
   replace hm:=bnd hm
   obtain ⟨x95,hx96,hm⟩:=hm
   refine g_cn ⟨w0,M,(1000,g13,.cells #[.slice A88 x86.fb.length c89,mapV A91] 94 (0,0))::(100050,g14,.cells #[.pointer (some ⟨g13,0,none⟩)] 63 (0,0))::(100010,g1,.cells #[.int .i64 p0.fKind,.int .i64 p0.fSerial,.int .i64 p0.fEpoch,.string p0.fQuestion.fName,.int .u16 p0.fQuestion.fType,.int .u16 p0.fQuestion.fClass,.bool p0.fGood,.slice Ap0_0 p0.fEntries.length cp0_0,.int .i64 p0.fNote.fKind,.int .i64 p0.fNote.fFrom,.int .i64 p0.fNote.fTo,.int .i64 p0.fNote.fTerm,.int .i64 p0.fNote.fIndex,.int .i64 p0.fNote.fLogTerm,.int .i64 p0.fNote.fCommit,.bool p0.fNote.fGood,.slice Ap0_1 p0.fNote.fEntries.length cp0_1,.slice Ap0_2 p0.fNote.fVoters.length cp0_2,.string p0.fNote.fSnap,.string p0.fText] 31 (0,0))::H,(1000,⟨.slice A88 x86.fb.length c89,5,1,x86.fb.length,x86.fb.flatMap (fun x : Int=>[Value.int .u8 x])⟩)::(1001,⟨mapV A91,92,2,x86.fplaces.length,x86.fplaces.flatMap (mcell (fun x : ByteArray=>Value.string x) (fun x : Int=>Value.int .i64 x))⟩)::(100240,⟨.slice (some ⟨g20,0,none⟩) [p0.fSerial,p0.fEpoch].length 2,3,1,[p0.fSerial,p0.fEpoch].length,[p0.fSerial,p0.fEpoch].flatMap (fun x : Int=>[Value.int .i64 x])⟩)::R,φ⟩ (fun W h=>(ok_front (t:=100115) (t':=1000) (ok_frontR (t:=100110) (t':=1000) (ok_frontR (t:=100111) (t':=1001) h rfl) rfl) rfl)) Try.call27 rfl rfl (c_pack_Packer_Word p0.fQuestion.fType g13 x86 A88 c89 hc89 A91 c92 trivial _ hx96) (fun ⟨A97,c98⟩ hc98=>?_)
   refine g_sta _ (fun W h=>(ok_frontR (t:=2000) (t':=100110) (ok_frontR (t:=1001) (t':=100111) (ok_front (t:=1000) (t':=100115) h rfl) rfl) rfl))<|g_nil<|d_then<|c_region<|g_v rfl (r_field (n:=0) Try.underlying63 rfl Try.sizeOf60 rfl rfl)<|g_v rfl (r_load (tag:=100050) rfl rfl rfl Try.isAgg60)<|g_v rfl (r_field (n:=3) Try.underlying31 rfl Try.sizeOf24 rfl rfl)<|g_v rfl (r_field (n:=5) Try.underlying24 rfl Try.sizeOf22 rfl rfl)<|g_v rfl (r_load (tag:=100010) rfl rfl rfl Try.isAgg22) ?_
   replace hm:=bnd hm
   obtain ⟨x100,hx101,hm⟩:=hm
   refine g_cn ⟨w0,M,(1000,g13,.cells #[.slice A97 x95.fb.length c98,mapV A91] 94 (0,0))::(100050,g14,.cells #[.pointer (some ⟨g13,0,none⟩)] 63 (0,0))::(100010,g1,.cells #[.int .i64 p0.fKind,.int .i64 p0.fSerial,.int .i64 p0.fEpoch,.string p0.fQuestion.fName,.int .u16 p0.fQuestion.fType,.int .u16 p0.fQuestion.fClass,.bool p0.fGood,.slice Ap0_0 p0.fEntries.length cp0_0,.int .i64 p0.fNote.fKind,.int .i64 p0.fNote.fFrom,.int .i64 p0.fNote.fTo,.int .i64 p0.fNote.fTerm,.int .i64 p0.fNote.fIndex,.int .i64 p0.fNote.fLogTerm,.int .i64 p0.fNote.fCommit,.bool p0.fNote.fGood,.slice Ap0_1 p0.fNote.fEntries.length cp0_1,.slice Ap0_2 p0.fNote.fVoters.length cp0_2,.string p0.fNote.fSnap,.string p0.fText] 31 (0,0))::H,(1000,⟨.slice A97 x95.fb.length c98,5,1,x95.fb.length,x95.fb.flatMap (fun x : Int=>[Value.int .u8 x])⟩)::(1001,⟨mapV A91,92,2,x86.fplaces.length,x86.fplaces.flatMap (mcell (fun x : ByteArray=>Value.string x) (fun x : Int=>Value.int .i64 x))⟩)::(100240,⟨.slice (some ⟨g20,0,none⟩) [p0.fSerial,p0.fEpoch].length 2,3,1,[p0.fSerial,p0.fEpoch].length,[p0.fSerial,p0.fEpoch].flatMap (fun x : Int=>[Value.int .i64 x])⟩)::R,φ⟩ (fun W h=>(ok_front (t:=100115) (t':=1000) (ok_frontR (t:=100110) (t':=1000) (ok_frontR (t:=100111) (t':=1001) h rfl) rfl) rfl)) Try.call27 rfl rfl (c_pack_Packer_Word p0.fQuestion.fClass g13 (⟨x95.fb,x86.fplaces⟩ : Gpack_Packer) A97 c98 hc98 A91 c92 trivial _ hx101) (fun ⟨A102,c103⟩ hc103=>?_)
   refine g_sta _ (fun W h=>(ok_frontR (t:=2000) (t':=100110) (ok_frontR (t:=1001) (t':=100111) (ok_front (t:=1000) (t':=100115) h rfl) rfl) rfl))<|g_nil<|d_normal_block ?_
   exact d_round (x100.fb,x86.fplaces,A102,c103,A91,c92) ⟨hm,hc103,trivial⟩ Nat.zero_lt_one ⟨rfl,trivial⟩ (fun W h=>((h.dropR (t:=100240) rfl).dropH (t:=100010) rfl).phi (fun W hφ=>hφ))
  replace hm:=ite_f hm (of_decide_eq_false h84)
  refine c_seq<|c_region<|g_v rfl (r_eql rfl rfl)<|g_v rfl r_assign<|g_nil<|d_then ?_
  refine c_cond rfl (fun h105=>?_) (fun h105=>?_)
  ·
   replace hm:=ite_t hm (of_decide_eq_true h105)
   refine c_seq<|c_region<|g_v rfl (r_loadA (tag:=100050) rfl rfl Try.isAgg63 Try.sizeOf63 rfl rfl)<|g_v rfl (r_field (n:=6) Try.underlying31 rfl Try.sizeOf4 rfl rfl)<|g_v rfl (r_load (tag:=100010) rfl rfl rfl Try.isAgg4) ?_
   replace hm:=bnd hm
   obtain ⟨x106,hx107,hm⟩:=hm
   refine g_cn ⟨w0,M,(1000,g13,.cells #[.slice A23 x21.fb.length c24,mapV A10] 94 (0,0))::(100050,g14,.cells #[.pointer (some ⟨g13,0,none⟩)] 63 (0,0))::(100010,g1,.cells #[.int .i64 p0.fKind,.int .i64 p0.fSerial,.int .i64 p0.fEpoch,.string p0.fQuestion.fName,.int .u16 p0.fQuestion.fType,.int .u16 p0.fQuestion.fClass,.bool p0.fGood,.slice Ap0_0 p0.fEntries.length cp0_0,.int .i64 p0.fNote.fKind,.int .i64 p0.fNote.fFrom,.int .i64 p0.fNote.fTo,.int .i64 p0.fNote.fTerm,.int .i64 p0.fNote.fIndex,.int .i64 p0.fNote.fLogTerm,.int .i64 p0.fNote.fCommit,.bool p0.fNote.fGood,.slice Ap0_1 p0.fNote.fEntries.length cp0_1,.slice Ap0_2 p0.fNote.fVoters.length cp0_2,.string p0.fNote.fSnap,.string p0.fText] 31 (0,0))::H,(1000,⟨.slice A23 x21.fb.length c24,5,1,x21.fb.length,x21.fb.flatMap (fun x : Int=>[Value.int .u8 x])⟩)::(1001,⟨mapV A10,92,2,x5.fplaces.length,x5.fplaces.flatMap (mcell (fun x : ByteArray=>Value.string x) (fun x : Int=>Value.int .i64 x))⟩)::(100240,⟨.slice (some ⟨g20,0,none⟩) [p0.fSerial,p0.fEpoch].length 2,3,1,[p0.fSerial,p0.fEpoch].length,[p0.fSerial,p0.fEpoch].flatMap (fun x : Int=>[Value.int .i64 x])⟩)::R,φ⟩ (fun W h=>(ok_front (t:=100115) (t':=1000) (ok_frontR (t:=100110) (t':=1000) (ok_frontR (t:=100111) (t':=1001) h rfl) rfl) rfl)) Try.call28 rfl rfl (c_peer_writer_bit p0.fGood g13 (⟨x21.fb,x5.fplaces⟩ : Gpack_Packer) A23 c24 hc24 A10 c11 trivial _ hx107) (fun ⟨A108,c109⟩ hc109=>?_)
   refine g_sta _ (fun W h=>(ok_frontR (t:=2000) (t':=100110) (ok_frontR (t:=1001) (t':=100111) (ok_front (t:=1000) (t':=100115) h rfl) rfl) rfl))<|g_nil<|d_then ?_
   refine c_flat [(1,.pointer (some ⟨g1,0,none⟩)),(5,.pointer (some ⟨g14,0,none⟩))] ⟨rfl,rfl,trivial⟩ (fun u=>?_)
   refine c_sta ⟨w0,M,(100115,g13,.cells #[.slice A108 x106.fb.length c109,mapV A10] 94 (0,0))::(100050,g14,.cells #[.pointer (some ⟨g13,0,none⟩)] 63 (0,0))::(100010,g1,.cells #[.int .i64 p0.fKind,.int .i64 p0.fSerial,.int .i64 p0.fEpoch,.string p0.fQuestion.fName,.int .u16 p0.fQuestion.fType,.int .u16 p0.fQuestion.fClass,.bool p0.fGood,.slice Ap0_0 p0.fEntries.length cp0_0,.int .i64 p0.fNote.fKind,.int .i64 p0.fNote.fFrom,.int .i64 p0.fNote.fTo,.int .i64 p0.fNote.fTerm,.int .i64 p0.fNote.fIndex,.int .i64 p0.fNote.fLogTerm,.int .i64 p0.fNote.fCommit,.bool p0.fNote.fGood,.slice Ap0_1 p0.fNote.fEntries.length cp0_1,.slice Ap0_2 p0.fNote.fVoters.length cp0_2,.string p0.fNote.fSnap,.string p0.fText] 31 (0,0))::H,(100110,⟨.slice A108 x106.fb.length c109,5,1,x106.fb.length,x106.fb.flatMap (fun x : Int=>[Value.int .u8 x])⟩)::(100111,⟨mapV A10,92,2,x5.fplaces.length,x5.fplaces.flatMap (mcell (fun x : ByteArray=>Value.string x) (fun x : Int=>Value.int .i64 x))⟩)::(100240,⟨.slice (some ⟨g20,0,none⟩) [p0.fSerial,p0.fEpoch].length 2,3,1,[p0.fSerial,p0.fEpoch].length,[p0.fSerial,p0.fEpoch].flatMap (fun x : Int=>[Value.int .i64 x])⟩)::R,φ⟩ (fun _ h=>h)<|c_region<|g_v rfl (r_loadA (tag:=100050) rfl rfl Try.isAgg63 Try.sizeOf63 rfl rfl)<|g_v rfl (r_field (n:=7) Try.underlying31 rfl Try.sizeOf25 rfl rfl)<|g_v rfl (r_load (tag:=100010) rfl rfl rfl Try.isAgg25) ?_
   replace hm:=bnd hm
   obtain ⟨x111,hx112,hm⟩:=hm
   refine g_cn ⟨w0,M,(1000,g13,.cells #[.slice A108 x106.fb.length c109,mapV A10] 94 (0,0))::(100050,g14,.cells #[.pointer (some ⟨g13,0,none⟩)] 63 (0,0))::(100010,g1,.cells #[.int .i64 p0.fKind,.int .i64 p0.fSerial,.int .i64 p0.fEpoch,.string p0.fQuestion.fName,.int .u16 p0.fQuestion.fType,.int .u16 p0.fQuestion.fClass,.bool p0.fGood,.slice Ap0_0 p0.fEntries.length cp0_0,.int .i64 p0.fNote.fKind,.int .i64 p0.fNote.fFrom,.int .i64 p0.fNote.fTo,.int .i64 p0.fNote.fTerm,.int .i64 p0.fNote.fIndex,.int .i64 p0.fNote.fLogTerm,.int .i64 p0.fNote.fCommit,.bool p0.fNote.fGood,.slice Ap0_1 p0.fNote.fEntries.length cp0_1,.slice Ap0_2 p0.fNote.fVoters.length cp0_2,.string p0.fNote.fSnap,.string p0.fText] 31 (0,0))::H,(1000,⟨.slice A108 x106.fb.length c109,5,1,x106.fb.length,x106.fb.flatMap (fun x : Int=>[Value.int .u8 x])⟩)::(1001,⟨mapV A10,92,2,x5.fplaces.length,x5.fplaces.flatMap (mcell (fun x : ByteArray=>Value.string x) (fun x : Int=>Value.int .i64 x))⟩)::(100240,⟨.slice (some ⟨g20,0,none⟩) [p0.fSerial,p0.fEpoch].length 2,3,1,[p0.fSerial,p0.fEpoch].length,[p0.fSerial,p0.fEpoch].flatMap (fun x : Int=>[Value.int .i64 x])⟩)::R,φ⟩ (fun W h=>(ok_front (t:=100115) (t':=1000) (ok_frontR (t:=100110) (t':=1000) (ok_frontR (t:=100111) (t':=1001) h rfl) rfl) rfl)) Try.call29 rfl rfl (c_peer_writer_entries p0.fEntries Ap0_0 cp0_0 psp0_0 ⟨hcp0_0.1,hcp0_0.2⟩ (fun W hS=>fp0_0 W hS.now) (fun W hS=>(fop0_0 W hS.now)) g13 (⟨x106.fb,x5.fplaces⟩ : Gpack_Packer) A108 c109 hc109 A10 c11 trivial _ hx112) (fun ⟨A113,c114,A116,c117⟩ ⟨hc114,hc117⟩=>?_)
   refine g_sta _ (fun W h=>(ok_frontR (t:=2000) (t':=100110) (ok_frontR (t:=2001) (t':=100111) (ok_front (t:=1000) (t':=100115) h rfl) rfl) rfl))<|g_nil<|d_normal_block ?_
   exact d_round (x111.fb,x111.fplaces,A113,c114,A116,c117) ⟨hm,hc114,trivial⟩ Nat.zero_lt_one ⟨rfl,trivial⟩ (fun W h=>((h.dropR (t:=100240) rfl).dropH (t:=100010) rfl).phi (fun W hφ=>hφ))
  replace hm:=ite_f hm (of_decide_eq_false h105)
  refine c_seq<|c_region<|g_v rfl (r_eql rfl rfl)<|g_v rfl r_assign<|g_nil<|d_then ?_
  refine c_cond rfl (fun h119=>?_) (fun h119=>?_)
  ·
   replace hm:=ite_t hm (of_decide_eq_true h119)
   refine c_region<|g_v rfl (r_loadA (tag:=100050) rfl rfl Try.isAgg63 Try.sizeOf63 rfl rfl)<|g_v rfl (r_field (n:=8) Try.underlying31 rfl Try.sizeOf29 rfl rfl)<|g_v rfl (r_loadA (tag:=100010) rfl rfl Try.isAgg29 Try.sizeOf29 rfl rfl) ?_
   replace hm:=bnd hm
   obtain ⟨x120,hx121,hm⟩:=hm
   refine g_cn ⟨w0,M,(1000,g13,.cells #[.slice A23 x21.fb.length c24,mapV A10] 94 (0,0))::(100050,g14,.cells #[.pointer (some ⟨g13,0,none⟩)] 63 (0,0))::(100010,g1,.cells #[.int .i64 p0.fKind,.int .i64 p0.fSerial,.int .i64 p0.fEpoch,.string p0.fQuestion.fName,.int .u16 p0.fQuestion.fType,.int .u16 p0.fQuestion.fClass,.bool p0.fGood,.slice Ap0_0 p0.fEntries.length cp0_0,.int .i64 p0.fNote.fKind,.int .i64 p0.fNote.fFrom,.int .i64 p0.fNote.fTo,.int .i64 p0.fNote.fTerm,.int .i64 p0.fNote.fIndex,.int .i64 p0.fNote.fLogTerm,.int .i64 p0.fNote.fCommit,.bool p0.fNote.fGood,.slice Ap0_1 p0.fNote.fEntries.length cp0_1,.slice Ap0_2 p0.fNote.fVoters.length cp0_2,.string p0.fNote.fSnap,.string p0.fText] 31 (0,0))::H,(1000,⟨.slice A23 x21.fb.length c24,5,1,x21.fb.length,x21.fb.flatMap (fun x : Int=>[Value.int .u8 x])⟩)::(1001,⟨mapV A10,92,2,x5.fplaces.length,x5.fplaces.flatMap (mcell (fun x : ByteArray=>Value.string x) (fun x : Int=>Value.int .i64 x))⟩)::(100240,⟨.slice (some ⟨g20,0,none⟩) [p0.fSerial,p0.fEpoch].length 2,3,1,[p0.fSerial,p0.fEpoch].length,[p0.fSerial,p0.fEpoch].flatMap (fun x : Int=>[Value.int .i64 x])⟩)::R,φ⟩ (fun W h=>(ok_front (t:=100115) (t':=1000) (ok_frontR (t:=100110) (t':=1000) (ok_frontR (t:=100111) (t':=1001) h rfl) rfl) rfl)) Try.call30 rfl rfl (c_peer_writer_note p0.fNote Ap0_1 cp0_1 hcp0_1 (fun W hS=>fp0_1 W (ok_pre (H1:=[_,_]) (R1:=[_]) hS (fun W h=>h))) Ap0_2 cp0_2 hcp0_2 (fun W hS=>fp0_2 W (ok_pre (H1:=[_,_]) (R1:=[_]) hS (fun W h=>h))) g13 (⟨x21.fb,x5.fplaces⟩ : Gpack_Packer) A23 c24 hc24 A10 c11 trivial _ hx121) (fun ⟨A122,c123⟩ hc123=>?_)
   refine g_sta _ (fun W h=>(ok_frontR (t:=2000) (t':=100110) (ok_frontR (t:=1001) (t':=100111) (ok_front (t:=1000) (t':=100115) h rfl) rfl) rfl))<|g_nil<|d_normal_block ?_
   exact d_round (x120.fb,x5.fplaces,A122,c123,A10,c11) ⟨hm,hc123,trivial⟩ Nat.zero_lt_one ⟨rfl,trivial⟩ (fun W h=>((h.dropR (t:=100240) rfl).dropH (t:=100010) rfl).phi (fun W hφ=>hφ))
  replace hm:=ite_f hm (of_decide_eq_false h119)
  refine c_seq<|c_region<|g_v rfl (r_eql rfl rfl)<|g_v rfl r_assign<|g_nil<|d_then ?_
  refine c_flat [(1,.pointer (some ⟨g1,0,none⟩)),(5,.pointer (some ⟨g14,0,none⟩)),(64,.bool (decide (p0.fKind = 5)))] ⟨rfl,rfl,rfl,trivial⟩ (fun u=>?_)
  refine c_cond rfl (fun h125=>?_) (fun h125=>?_)
  ·
   replace hm:=ite_t hm (of_decide_eq_true h125)
   refine c_region<|g_v rfl (r_field (n:=0) Try.underlying63 rfl Try.sizeOf60 rfl rfl)<|g_v rfl (r_load (tag:=100050) rfl rfl rfl Try.isAgg60)<|g_v rfl (r_field (n:=19) Try.underlying31 rfl Try.sizeOf9 rfl rfl)<|g_v rfl (r_load (tag:=100010) rfl rfl rfl Try.isAgg9) ?_
   replace hm:=bnd hm
   obtain ⟨x126,hx127,hm⟩:=hm
   refine g_cn ⟨w0,M,(1000,g13,.cells #[.slice A23 x21.fb.length c24,mapV A10] 94 (0,0))::(100050,g14,.cells #[.pointer (some ⟨g13,0,none⟩)] 63 (0,0))::(100010,g1,.cells #[.int .i64 p0.fKind,.int .i64 p0.fSerial,.int .i64 p0.fEpoch,.string p0.fQuestion.fName,.int .u16 p0.fQuestion.fType,.int .u16 p0.fQuestion.fClass,.bool p0.fGood,.slice Ap0_0 p0.fEntries.length cp0_0,.int .i64 p0.fNote.fKind,.int .i64 p0.fNote.fFrom,.int .i64 p0.fNote.fTo,.int .i64 p0.fNote.fTerm,.int .i64 p0.fNote.fIndex,.int .i64 p0.fNote.fLogTerm,.int .i64 p0.fNote.fCommit,.bool p0.fNote.fGood,.slice Ap0_1 p0.fNote.fEntries.length cp0_1,.slice Ap0_2 p0.fNote.fVoters.length cp0_2,.string p0.fNote.fSnap,.string p0.fText] 31 (0,0))::H,(1000,⟨.slice A23 x21.fb.length c24,5,1,x21.fb.length,x21.fb.flatMap (fun x : Int=>[Value.int .u8 x])⟩)::(1001,⟨mapV A10,92,2,x5.fplaces.length,x5.fplaces.flatMap (mcell (fun x : ByteArray=>Value.string x) (fun x : Int=>Value.int .i64 x))⟩)::(100240,⟨.slice (some ⟨g20,0,none⟩) [p0.fSerial,p0.fEpoch].length 2,3,1,[p0.fSerial,p0.fEpoch].length,[p0.fSerial,p0.fEpoch].flatMap (fun x : Int=>[Value.int .i64 x])⟩)::R,φ⟩ (fun W h=>(ok_front (t:=100115) (t':=1000) (ok_frontR (t:=100110) (t':=1000) (ok_frontR (t:=100111) (t':=1001) h rfl) rfl) rfl)) Try.call31 rfl rfl (c_pack_Packer_Raw p0.fText g13 (⟨x21.fb,x5.fplaces⟩ : Gpack_Packer) A23 c24 hc24 A10 c11 trivial _ hx127) (fun ⟨A128,c129⟩ hc129=>?_)
   refine g_sta _ (fun W h=>(ok_frontR (t:=2000) (t':=100110) (ok_frontR (t:=1001) (t':=100111) (ok_front (t:=1000) (t':=100115) h rfl) rfl) rfl))<|g_nil<|d_normal_block ?_
   exact d_round (x126.fb,x5.fplaces,A128,c129,A10,c11) ⟨hm,hc129,trivial⟩ Nat.zero_lt_one ⟨rfl,trivial⟩ (fun W h=>((h.dropR (t:=100240) rfl).dropH (t:=100010) rfl).phi (fun W hφ=>hφ))
  replace hm:=ite_f hm (of_decide_eq_false h125)
  refine c_skip<|d_normal_block ?_
  exact d_round (x21.fb,x5.fplaces,A23,c24,A10,c11) ⟨hm,hc24,trivial⟩ Nat.zero_lt_one ⟨rfl,trivial⟩ (fun W h=>((h.dropR (t:=100240) rfl).dropH (t:=100010) rfl).phi (fun W hφ=>hφ))
 unfold m_peer_Bytes_j1 at hm
 refine d_flat [(5,.pointer (some ⟨g14,0,none⟩))] ⟨rfl,trivial⟩ (fun u=>?_)
 refine d_sta ⟨w0,M,(100115,g13,.cells #[.slice A74 l73.length c75,mapV A77] 94 (0,0))::(100050,g14,.cells #[.pointer (some ⟨g13,0,none⟩)] 63 (0,0))::H,(100110,⟨.slice A74 l73.length c75,5,1,l73.length,l73.flatMap (fun x : Int=>[Value.int .u8 x])⟩)::(100111,⟨mapV A77,92,2,l76.length,l76.flatMap (mcell (fun x : ByteArray=>Value.string x) (fun x : Int=>Value.int .i64 x))⟩)::R,φ⟩ (fun _ h=>h)<|d_then<|c_seq<|c_seq<|c_region<|g_v rfl (r_field (n:=0) Try.underlying63 rfl Try.sizeOf60 rfl rfl)<|g_v rfl (r_load (tag:=100050) rfl rfl rfl Try.isAgg60) ?_
 replace hm:=bnd hm
 obtain ⟨x79,hx80,hm⟩:=hm
 refine g_cn ⟨w0,M,(1000,g13,.cells #[.slice A74 l73.length c75,mapV A77] 94 (0,0))::(100050,g14,.cells #[.pointer (some ⟨g13,0,none⟩)] 63 (0,0))::H,(1000,⟨.slice A74 l73.length c75,5,1,l73.length,l73.flatMap (fun x : Int=>[Value.int .u8 x])⟩)::(1001,⟨mapV A77,92,2,l76.length,l76.flatMap (mcell (fun x : ByteArray=>Value.string x) (fun x : Int=>Value.int .i64 x))⟩)::R,φ⟩ (fun W h=>(ok_front (t:=100115) (t':=1000) (ok_frontR (t:=100110) (t':=1000) (ok_frontR (t:=100111) (t':=1001) h rfl) rfl) rfl)) Try.call32 rfl rfl (c_pack_Packer_Len g13 (⟨l73,l76⟩ : Gpack_Packer) A74 c75 hc75 A77 c78 trivial _ hx80) (fun _ _=>?_)
 refine g_sta _ (fun W h=>(ok_frontR (t:=1000) (t':=100110) (ok_frontR (t:=1001) (t':=100111) (ok_front (t:=1000) (t':=100115) h rfl) rfl) rfl))<|g_v rfl (r_gtr rfl rfl)<|g_nil<|d_then ?_
 refine c_cond rfl (fun h81=>?_) (fun h81=>?_)
 ·
  replace hm:=ite_t hm (of_decide_eq_true h81)
  refine c_seq<|c_region<|g_v rfl r_assign<|g_v rfl r_assign<|g_nil<|d_then<|c_ret<|d_ret_then ?_
  cases hm
  exact d_retC () Try.results13 (res_tmp (res_tmp (res_nil rfl))) trivial (fun W h=>ok_pre (H1:=[_,_]) (R1:=[_,_]) h (fun W hφ=>hφ)) (.inr rfl)
 replace hm:=ite_f hm (of_decide_eq_false h81)
 refine c_skip<|d_then<|c_seq<|c_region<|g_v rfl (r_field (n:=0) Try.underlying63 rfl Try.sizeOf60 rfl rfl)<|g_v rfl (r_load (tag:=100050) rfl rfl rfl Try.isAgg60) ?_
 replace hm:=bnd hm
 obtain ⟨x82,hx83,hm⟩:=hm
 refine g_cn ⟨w0,M,(1000,g13,.cells #[.slice A74 l73.length c75,mapV A77] 94 (0,0))::(100050,g14,.cells #[.pointer (some ⟨g13,0,none⟩)] 63 (0,0))::H,(1000,⟨.slice A74 l73.length c75,5,1,l73.length,l73.flatMap (fun x : Int=>[Value.int .u8 x])⟩)::(1001,⟨mapV A77,92,2,l76.length,l76.flatMap (mcell (fun x : ByteArray=>Value.string x) (fun x : Int=>Value.int .i64 x))⟩)::R,φ⟩ (fun W h=>(ok_front (t:=100115) (t':=1000) (ok_frontR (t:=100110) (t':=1000) (ok_frontR (t:=100111) (t':=1001) h rfl) rfl) rfl)) Try.call33 rfl rfl (c_pack_Packer_Bytes g13 (⟨l73,l76⟩ : Gpack_Packer) A74 c75 hc75 A77 c78 trivial _ hx83) (fun _ _=>?_)
 refine g_sta _ (fun W h=>(ok_frontR (t:=1000) (t':=100110) (ok_frontR (t:=1001) (t':=100111) (ok_front (t:=1000) (t':=100115) h rfl) rfl) rfl))<|g_v rfl r_assign<|g_v rfl r_assign<|g_nil<|d_then ?_
 refine c_flat [(2,.string x82),(3,.int .i64 0)] ⟨rfl,rfl,trivial⟩ (fun u=>?_)
 refine c_ret ?_
 cases hm
 exact d_retC () Try.results13 (res_tmp (res_tmp (res_nil rfl))) trivial (fun W h=>ok_pre (H1:=[_,_]) (R1:=[_,_]) h (fun W hφ=>hφ)) (.inr rfl)
theorem bld31_23 (z0 : Int) (z1 : Int) : ∀ W,(Instr.build 31 #[(0,.int .i64 z0),(1,.int .i64 z1)]).run Try.prog W = .ok (.agg #[.int .i64 z0,.int .i64 z1,.int .i64 0,.string (⟨#[]⟩ : ByteArray),.int .u16 0,.int .u16 0,.bool false,.slice none 0 0,.int .i64 0,.int .i64 0,.int .i64 0,.int .i64 0,.int .i64 0,.int .i64 0,.int .i64 0,.bool false,.slice none 0 0,.slice none 0 0,.string (⟨#[]⟩ : ByteArray),.string (⟨#[]⟩ : ByteArray)]) W:=fun _=>by kernel_rfl
theorem bld54_24 (z0 : ByteArray) (z1 : Int) (z2 : Int) (z3 : ByteArray) : ∀ W,(Instr.build 54 #[(0,.string z0),(1,.int .u16 z1),(2,.int .u16 z2),(4,.string z3)]).run Try.prog W = .ok (.agg #[.string z0,.int .u16 z1,.int .u16 z2,.int .u32 0,.string z3]) W:=fun _=>by kernel_rfl
theorem lit54_25 (z0 : ByteArray) (z1 : Int) (z2 : Int) (z3 : Int) (z4 : ByteArray) : Try.prog.builtSlice 54 1 [(0,.agg #[.string z0,.int .u16 z1,.int .u16 z2,.int .u32 z3,.string z4])] = some #[.string z0,.int .u16 z1,.int .u16 z2,.int .u32 z3,.string z4]:=by kernel_rfl
theorem bld41_26 (z0 : Int) (z1 : ByteArray) (z2 : Int) (z3 : Int) (z4 : Int) (z5 : Int) (zA6 : Option Addr) (zn6 : Nat) (zc6 : Nat) : ∀ W,(Instr.build 41 #[(0,.int .i64 z0),(1,.string z1),(2,.int .u16 z2),(3,.int .u16 z3),(5,.int .i64 z4),(6,.int .i64 z5),(4,.slice zA6 zn6 zc6)]).run Try.prog W = .ok (.agg #[.int .i64 z0,.string z1,.int .u16 z2,.int .u16 z3,.slice zA6 zn6 zc6,.int .i64 z4,.int .i64 z5,.int .i64 0,.int .i64 0]) W:=fun _=>by kernel_rfl
noncomputable def m_law20_entry (p0 : Int) : Option GCached:=
  some (⟨1,(⟨#[1,97,0]⟩ : ByteArray),1,1,[(⟨(⟨#[1,97,0]⟩ : ByteArray),1,1,0,(⟨#[1,2,3,4]⟩ : ByteArray)⟩ : GRR)],p0,3,0,0⟩ : GCached)
theorem c_law20_entry {w0 : World} {M : Nat→Prop} {H : List (Nat×Nat×Obj)} {R : List (Nat×Row)} {φ : World→Prop} (p0 : Int) (r : GCached) (hm : m_law20_entry p0 = some r) :
    Cn Try.prog 17 #[.int .i64 p0] ⟨w0,M,H,R,φ⟩ (fun x : Option Addr×Nat=>.agg #[.int .i64 r.fKind,.string r.fName,.int .u16 r.fType,.int .u16 r.fClass,.slice x.1 r.fRecords.length x.2,.int .i64 r.fUntil,.int .i64 r.fRank,.int .i64 r.fEpoch,.int .i64 r.fSource]) (fun x=>r.fRecords.length ≤ x.2) (fun x=>⟨w0,M,H,R,fun W=>φ W∧Cl W x.1 (r.fRecords.flatMap GRR.enc)⟩):=by
 unfold m_law20_entry at hm
 refine cn_intro (fn:=Try.f17) (N:=10) Try.func17 rfl Try.ntmps17 rfl<|c_seq<|c_region ?_
 refine g_e rfl (e_alloc 100020 Try.zeroValue41) (fun g1 _=>?_)
 refine g_nil<|d_then<|c_seq<|c_region<|g_v rfl r_assign<|g_nil<|d_then<|c_seq<|c_region ?_
 iterate 3 refine g_v rfl r_move ?_
 refine g_v rfl (r_build _ rfl (bld54_24 _ _ _ _)) ?_
 refine g_e rfl (e_lit (tag:=100080) (l:=[(⟨(⟨#[1,97,0]⟩ : ByteArray),1,1,0,(⟨#[1,2,3,4]⟩ : ByteArray)⟩ : GRR)]) (enc:=GRR.enc) (sz:=5) rfl Try.underlying39 (lit54_25 _ _ _ _ _) rfl rfl (fun _=>rfl)) (fun g2 _=>?_)
 refine g_v rfl (r_build _ rfl (bld41_26 _ _ _ _ _ _ _ _ _))<|g_storeL (tag:=100020) rfl rfl rfl rfl Try.sizeOf41 rfl rfl<|g_nil<|d_then ?_
 refine c_flat [(2,.pointer (some ⟨g1,0,none⟩))] ⟨rfl,trivial⟩ (fun u=>?_)
 refine c_sta ⟨w0,M,(100020,g1,.cells #[.int .i64 1,.string (⟨#[1,97,0]⟩ : ByteArray),.int .u16 1,.int .u16 1,.slice (some ⟨g2,0,none⟩) ([(⟨(⟨#[1,97,0]⟩ : ByteArray),1,1,0,(⟨#[1,2,3,4]⟩ : ByteArray)⟩ : GRR)]).length 1,.int .i64 p0,.int .i64 3,.int .i64 0,.int .i64 0] 41 (0,0))::H,(100080,⟨.slice (some ⟨g2,0,none⟩) ([(⟨(⟨#[1,97,0]⟩ : ByteArray),1,1,0,(⟨#[1,2,3,4]⟩ : ByteArray)⟩ : GRR)]).length 1,54,5,([(⟨(⟨#[1,97,0]⟩ : ByteArray),1,1,0,(⟨#[1,2,3,4]⟩ : ByteArray)⟩ : GRR)]).length,([(⟨(⟨#[1,97,0]⟩ : ByteArray),1,1,0,(⟨#[1,2,3,4]⟩ : ByteArray)⟩ : GRR)]).flatMap GRR.enc⟩)::R,φ⟩ (fun _ h=>h)<|c_ret ?_
 cases hm
 refine d_shut (tag:=100080) rfl (fun φ3 q3'=>?_)
 have q3 : ∀ W,φ3 W→φ W:=fun W h=>(q3' W h).1
 have f4:=fun (W : World) (h : φ3 W)=>(q3' W h).2
 exact d_retC (some ⟨g2,0,none⟩,1) Try.results17 (res_agg (tag:=100020) rfl rfl Try.isAgg41 Try.sizeOf41 (res_nil rfl)) (Nat.le_refl _) (fun W h=>ok_pre (H1:=[_]) (R1:=[]) h (fun W hφ=>⟨(q3 _ hφ),(fun W h=>f4 W h) W hφ⟩)) (.inr rfl)
theorem lit41_27 (z0 : Int) (z1 : ByteArray) (z2 : Int) (z3 : Int) (zAz4 : Option Addr) (znz4 : Nat) (zcz4 : Nat) (z5 : Int) (z6 : Int) (z7 : Int) (z8 : Int) : Try.prog.builtSlice 41 1 [(0,.agg #[.int .i64 z0,.string z1,.int .u16 z2,.int .u16 z3,.slice zAz4 znz4 zcz4,.int .i64 z5,.int .i64 z6,.int .i64 z7,.int .i64 z8])] = some #[.int .i64 z0,.string z1,.int .u16 z2,.int .u16 z3,.slice zAz4 znz4 zcz4,.int .i64 z5,.int .i64 z6,.int .i64 z7,.int .i64 z8]:=by kernel_rfl
theorem bld31_28 (z0 : Int) (z1 : Int) (z2 : Int) (z3 : Bool) (zA4 : Option Addr) (zn4 : Nat) (zc4 : Nat) : ∀ W,(Instr.build 31 #[(0,.int .i64 z0),(1,.int .i64 z1),(2,.int .i64 z2),(4,.bool z3),(5,.slice zA4 zn4 zc4)]).run Try.prog W = .ok (.agg #[.int .i64 z0,.int .i64 z1,.int .i64 z2,.string (⟨#[]⟩ : ByteArray),.int .u16 0,.int .u16 0,.bool z3,.slice zA4 zn4 zc4,.int .i64 0,.int .i64 0,.int .i64 0,.int .i64 0,.int .i64 0,.int .i64 0,.int .i64 0,.bool false,.slice none 0 0,.slice none 0 0,.string (⟨#[]⟩ : ByteArray),.string (⟨#[]⟩ : ByteArray)]) W:=fun _=>by kernel_rfl
noncomputable def m_peer_clock (p0 : Int) : Option Int:=
  some (min (max p0 0) 1125899906842624)
theorem c_peer_clock {w0 : World} {M : Nat→Prop} {H : List (Nat×Nat×Obj)} {R : List (Nat×Row)} {φ : World→Prop} (p0 : Int) (r : Int) (hm : m_peer_clock p0 = some r) :
    Cn Try.prog 19 #[.int .i64 p0] ⟨w0,M,H,R,φ⟩ (fun x : Unit=>.int .i64 r) (fun x=>True) (fun x=>⟨w0,M,H,R,φ⟩):=by
 unfold m_peer_clock at hm
 refine cn_intro (fn:=Try.f19) (N:=6) Try.func19 rfl Try.ntmps19 rfl<|c_seq<|c_region<|g_v rfl r_assign<|g_nil<|d_then<|c_seq<|c_region<|g_v rfl r_move<|g_v rfl (r_max rfl rfl) ?_
 refine g_v rfl (r_min rfl rfl)<|g_v rfl r_assign<|g_nil<|d_then<|c_ret ?_
 cases hm
 exact d_retC () Try.results19 (res_tmp (res_nil rfl)) trivial (fun W h=>ok_pre (H1:=[]) (R1:=[]) h (fun W hφ=>hφ)) (.inr rfl)
theorem isi41_29  : (Try.prog.info? 41).isSome = true:=by kernel_rfl
theorem inf41_30  : (Try.prog.info? 41).map (fun i=>(i.zero,i.size,i.bytes)) = some (some (.agg #[.int .i64 0,.string (⟨#[]⟩ : ByteArray),.int .u16 0,.int .u16 0,.slice none 0 0,.int .i64 0,.int .i64 0,.int .i64 0,.int .i64 0]),9,88):=by kernel_rfl
noncomputable def m_slices_Clone_20 (p0 : List GCached) : Option (List GCached):=
  (app 88 ([] : List GCached) p0).bind fun l3=>
  some l3
theorem c_slices_Clone_20 {w0 : World} {M : Nat→Prop} {H : List (Nat×Nat×Obj)} {R : List (Nat×Row)} {φ : World→Prop} (p0 : List GCached) (Ap0_0 : Option Addr) (cp0_0 : Nat) (psp0_0 : List GCachedP) (hcp0_0 : (DOk GCached.capP p0 psp0_0∧p0.length ≤ cp0_0)) (fp0_0 : ∀ W,φ W→Cl W Ap0_0 ((p0.zip psp0_0).flatMap GCached.encP)) (fop0_0 : ∀ W,φ W→DOwn GCached.ownP p0 psp0_0 W) (r : (List GCached)) (hm : m_slices_Clone_20 p0 = some r) :
    Cn Try.prog 20 #[.slice Ap0_0 p0.length cp0_0] ⟨w0,M,H,R,φ⟩ (fun x : Option Addr×Nat×List GCachedP=>.slice x.1 r.length x.2.1) (fun x=>(DOk GCached.capP r x.2.2∧r.length ≤ x.2.1)) (fun x=>⟨w0,M,H,(2000,⟨.slice x.1 r.length x.2.1,41,9,r.length,(r.zip x.2.2).flatMap GCached.encP⟩)::R,fun W=>φ W∧DOwn GCached.ownP r x.2.2 W⟩):=by
 unfold m_slices_Clone_20 at hm
 refine cn_intro (fn:=Try.f20) (N:=8) Try.func20 rfl Try.ntmps20 rfl<|c_seq<|c_region<|g_v rfl r_assign<|g_nil<|d_then<|c_seq<|c_seq<|c_region<|g_v rfl r_move ?_
 refine g_v rfl (r_isNilS Try.underlying25 rfl rfl)<|g_nil<|d_then ?_
 refine c_cond rfl (fun h1=>?_) (fun h1=>?_)
 ·
  refine c_know (p0 = []) (fun W hS=>cl_nil_ofD hcp0_0.1 (enc:=GCached.encP) (fun _=>Nat.le_of_ble_eq_true rfl) (nil_of h1 ▸ fp0_0 W hS.now)) (fun hnil=>?_)
  replace hm : some ([] : List GCached) = some r:=by rw [hnil] at hm; exact hm
  refine c_seq<|c_region<|g_v rfl r_assign<|g_nil<|d_then<|c_ret<|d_ret_then ?_
  cases hm
  refine d_sta _ (fun W h=>nilR h 11 41 9)<|d_sta _ (fun W h=>ok_frontR (t:=11) (t':=2000) h rfl) ?_
  exact d_retC (none,0,([] : List GCachedP)) Try.results20 (res_tmp (res_nil rfl)) ⟨DOk.nil,(Nat.le_refl 0)⟩ (fun W h=>h.phi (fun W hφ=>⟨hφ,(fun W h=>DOwn.nil) W hφ⟩)) (.inr rfl)
 refine c_skip<|d_then<|c_seq<|c_region ?_
 refine g_e rfl (e_lit0 (tag:=100050) (sz:=9) Try.underlying25 isi41_29) (fun g2 _=>?_)
 refine g_v rfl r_move ?_
 replace hm:=bnd hm
 obtain ⟨l3,hl3,hm⟩:=hm
 have hk6:=DOk.app (cap:=GCached.capP) DOk.nil hcp0_0.1 hl3
 have f7:=fun (W : World) (h : φ W)=>DOwn.app (own:=GCached.ownP) (cap:=GCached.capP) DOk.nil hl3 DOwn.nil (fop0_0 W h)
 refine g_e rfl (e_appRD (enc:=GCached.encP) (l:=[]) (l1:=p0) (l2:=l3) (tag:=100050) DOk.nil hcp0_0.1 Try.underlying25 inf41_30 rfl (by decide) (by decide) (fun _=>rfl) (fun _=>rfl) rfl (Nat.le_refl 0) rfl rfl (fun W hS=>fp0_0 W hS.now) hl3) (fun ⟨A4,c5⟩ hc5=>?_)
 refine g_v rfl r_assign<|g_nil<|d_then<|c_ret ?_
 cases hm
 refine d_sta _ (fun W h=>ok_frontR (t:=100050) (t':=2000) h rfl) ?_
 exact d_retC (A4,c5,([]++psp0_0)) Try.results20 (res_tmp (res_nil rfl)) ⟨hk6,hc5⟩ (fun W h=>h.phi (fun W hφ=>⟨hφ,(fun W h=>(f7 W h)) W hφ⟩)) (.inr rfl)
noncomputable def m_peer_Accept_j1  (l91 : List GCached) : Option ((List GCached)×Bool):=
  some (l91,true)
noncomputable def m_peer_Accept_s2 (x16 : List GCached) (x14 : Int) (l127 : List GCached) (i132 : Int) : Option (((List GCached)×Int) ⊕ (List GCached)):=
  if i132 < (x16.length : Int) then
    (at_ l127 i132).bind fun x166=>
    (at_ l127 i132).bind fun x176=>
    (setAt l127 i132 (⟨x176.fKind,x176.fName,x176.fType,x176.fClass,x176.fRecords,(min x166.fUntil x14),x176.fRank,x176.fEpoch,x176.fSource⟩ : GCached)).bind fun l186=>
    some (.inl (l186,w64 (i132 + 1)))
  else
    some (.inr l127)
noncomputable def m_peer_Accept (p0 : GLetter) (p1 : GLetter) (p2 : Int) (p3 : Int) (p4 : Int) : Option ((List GCached)×Bool):=
  if p1.fKind ≠ 2 then
    some (([] : List GCached),false)
  else
    (m_peer_Check p1).bind fun x4=>
    if x4 ≠ 0 then
      some (([] : List GCached),false)
    else
      if p1.fGood = true then
        if p1.fSerial ≠ p0.fSerial then
          some (([] : List GCached),false)
        else
          if p1.fEpoch < p2 then
            some (([] : List GCached),false)
          else
            (m_peer_clock p3).bind fun x10=>
            (m_peer_clock p4).bind fun x12=>
            (m_peer_clock (w64 (x10 + x12))).bind fun x14=>
            (m_slices_Clone_20 p1.fEntries).bind fun x16=>
            (loop (fun s=>m_peer_Accept_s2 x16 x14 s.1 s.2) (x16,0)).bind fun e=>m_peer_Accept_j1 e
      else
        some (([] : List GCached),false)
theorem c_peer_Accept {w0 : World} {M : Nat→Prop} {H : List (Nat×Nat×Obj)} {R : List (Nat×Row)} {φ : World→Prop} (p0 : GLetter) (Ap0_0 : Option Addr) (cp0_0 : Nat) (psp0_0 : List GCachedP) (hcp0_0 : (DOk GCached.capP p0.fEntries psp0_0∧p0.fEntries.length ≤ cp0_0)) (fp0_0 : ∀ W,(Sta.mk w0 M H R φ).ok W→Cl W Ap0_0 ((p0.fEntries.zip psp0_0).flatMap GCached.encP)) (fop0_0 : ∀ W,(Sta.mk w0 M H R φ).ok W→DOwn GCached.ownP p0.fEntries psp0_0 W) (Ap0_1 : Option Addr) (cp0_1 : Nat) (hcp0_1 : p0.fNote.fEntries.length ≤ cp0_1) (fp0_1 : ∀ W,(Sta.mk w0 M H R φ).ok W→Cl W Ap0_1 (p0.fNote.fEntries.flatMap GEntry.enc)) (Ap0_2 : Option Addr) (cp0_2 : Nat) (hcp0_2 : p0.fNote.fVoters.length ≤ cp0_2) (fp0_2 : ∀ W,(Sta.mk w0 M H R φ).ok W→Cl W Ap0_2 (p0.fNote.fVoters.flatMap (fun x : Int=>[Value.int .i64 x]))) (p1 : GLetter) (Ap1_0 : Option Addr) (cp1_0 : Nat) (psp1_0 : List GCachedP) (hcp1_0 : (DOk GCached.capP p1.fEntries psp1_0∧p1.fEntries.length ≤ cp1_0)) (fp1_0 : ∀ W,φ W→Cl W Ap1_0 ((p1.fEntries.zip psp1_0).flatMap GCached.encP)) (fop1_0 : ∀ W,φ W→DOwn GCached.ownP p1.fEntries psp1_0 W) (Ap1_1 : Option Addr) (cp1_1 : Nat) (hcp1_1 : p1.fNote.fEntries.length ≤ cp1_1) (fp1_1 : ∀ W,(Sta.mk w0 M H R φ).ok W→Cl W Ap1_1 (p1.fNote.fEntries.flatMap GEntry.enc)) (Ap1_2 : Option Addr) (cp1_2 : Nat) (hcp1_2 : p1.fNote.fVoters.length ≤ cp1_2) (fp1_2 : ∀ W,(Sta.mk w0 M H R φ).ok W→Cl W Ap1_2 (p1.fNote.fVoters.flatMap (fun x : Int=>[Value.int .i64 x]))) (p2 : Int) (p3 : Int) (p4 : Int) (r : (List GCached)×Bool) (hm : m_peer_Accept p0 p1 p2 p3 p4 = some r) :
    Cn Try.prog 9 #[.agg #[.int .i64 p0.fKind,.int .i64 p0.fSerial,.int .i64 p0.fEpoch,.string p0.fQuestion.fName,.int .u16 p0.fQuestion.fType,.int .u16 p0.fQuestion.fClass,.bool p0.fGood,.slice Ap0_0 p0.fEntries.length cp0_0,.int .i64 p0.fNote.fKind,.int .i64 p0.fNote.fFrom,.int .i64 p0.fNote.fTo,.int .i64 p0.fNote.fTerm,.int .i64 p0.fNote.fIndex,.int .i64 p0.fNote.fLogTerm,.int .i64 p0.fNote.fCommit,.bool p0.fNote.fGood,.slice Ap0_1 p0.fNote.fEntries.length cp0_1,.slice Ap0_2 p0.fNote.fVoters.length cp0_2,.string p0.fNote.fSnap,.string p0.fText],.agg #[.int .i64 p1.fKind,.int .i64 p1.fSerial,.int .i64 p1.fEpoch,.string p1.fQuestion.fName,.int .u16 p1.fQuestion.fType,.int .u16 p1.fQuestion.fClass,.bool p1.fGood,.slice Ap1_0 p1.fEntries.length cp1_0,.int .i64 p1.fNote.fKind,.int .i64 p1.fNote.fFrom,.int .i64 p1.fNote.fTo,.int .i64 p1.fNote.fTerm,.int .i64 p1.fNote.fIndex,.int .i64 p1.fNote.fLogTerm,.int .i64 p1.fNote.fCommit,.bool p1.fNote.fGood,.slice Ap1_1 p1.fNote.fEntries.length cp1_1,.slice Ap1_2 p1.fNote.fVoters.length cp1_2,.string p1.fNote.fSnap,.string p1.fText],.int .i64 p2,.int .i64 p3,.int .i64 p4] ⟨w0,M,H,R,φ⟩ (fun x : Option Addr×Nat×List GCachedP=>.tuple #[.slice x.1 r.1.length x.2.1,.bool r.2]) (fun x=>(DOk GCached.capP r.1 x.2.2∧r.1.length ≤ x.2.1)) (fun x=>⟨w0,M,H,(2000,⟨.slice x.1 r.1.length x.2.1,41,9,r.1.length,(r.1.zip x.2.2).flatMap GCached.encP⟩)::R,fun W=>φ W∧DOwn GCached.ownP r.1 x.2.2 W⟩):=by
 unfold m_peer_Accept at hm
 refine cn_intro (fn:=Try.f9) (N:=68) Try.func9 rfl Try.ntmps9 rfl<|c_seq<|c_region ?_
 refine g_e rfl (e_box 100050 rfl) (fun g1 _=>?_)
 refine g_e rfl (e_box 100060 rfl) (fun g2 _=>?_)
 refine g_v rfl r_assign<|g_v rfl r_assign<|g_nil<|d_then<|c_seq<|c_seq<|c_region<|g_v rfl (r_field (n:=0) Try.underlying31 rfl Try.sizeOf3 rfl rfl)<|g_v rfl (r_load (tag:=100060) rfl rfl rfl Try.isAgg3)<|g_v rfl (r_neq rfl rfl) ?_
 refine g_v rfl r_move<|g_sta ⟨w0,M,(100060,g2,.cells #[.int .i64 p1.fKind,.int .i64 p1.fSerial,.int .i64 p1.fEpoch,.string p1.fQuestion.fName,.int .u16 p1.fQuestion.fType,.int .u16 p1.fQuestion.fClass,.bool p1.fGood,.slice Ap1_0 p1.fEntries.length cp1_0,.int .i64 p1.fNote.fKind,.int .i64 p1.fNote.fFrom,.int .i64 p1.fNote.fTo,.int .i64 p1.fNote.fTerm,.int .i64 p1.fNote.fIndex,.int .i64 p1.fNote.fLogTerm,.int .i64 p1.fNote.fCommit,.bool p1.fNote.fGood,.slice Ap1_1 p1.fNote.fEntries.length cp1_1,.slice Ap1_2 p1.fNote.fVoters.length cp1_2,.string p1.fNote.fSnap,.string p1.fText] 31 (0,0))::(100050,g1,.cells #[.int .i64 p0.fKind,.int .i64 p0.fSerial,.int .i64 p0.fEpoch,.string p0.fQuestion.fName,.int .u16 p0.fQuestion.fType,.int .u16 p0.fQuestion.fClass,.bool p0.fGood,.slice Ap0_0 p0.fEntries.length cp0_0,.int .i64 p0.fNote.fKind,.int .i64 p0.fNote.fFrom,.int .i64 p0.fNote.fTo,.int .i64 p0.fNote.fTerm,.int .i64 p0.fNote.fIndex,.int .i64 p0.fNote.fLogTerm,.int .i64 p0.fNote.fCommit,.bool p0.fNote.fGood,.slice Ap0_1 p0.fNote.fEntries.length cp0_1,.slice Ap0_2 p0.fNote.fVoters.length cp0_2,.string p0.fNote.fSnap,.string p0.fText] 31 (0,0))::H,R,φ⟩ (fun _ h=>h) ?_
 refine g_if rfl rfl rfl rfl rfl (fun h3=>?_) (fun h3=>?_)
 ·
  replace hm:=ite_f hm (of_decide_eq_false h3)
  refine g_v rfl (r_loadA (tag:=100060) rfl rfl Try.isAgg31 Try.sizeOf31 rfl rfl)<|g_do rfl rfl rfl rfl rfl h3 ?_
  replace hm:=bnd hm
  obtain ⟨x4,hx5,hm⟩:=hm
  refine g_cn ⟨w0,M,_,_,φ⟩ (fun _ h=>h) Try.call18 rfl rfl (c_peer_Check p1 Ap1_0 cp1_0 psp1_0 ⟨hcp1_0.1,hcp1_0.2⟩ (fun W h=>fp1_0 W h) (fun W h=>(fop1_0 W h)) Ap1_1 cp1_1 hcp1_1 (fun W hS=>fp1_1 W (ok_pre (H1:=[_,_]) (R1:=[]) hS (fun W h=>h))) Ap1_2 cp1_2 hcp1_2 (fun W hS=>fp1_2 W (ok_pre (H1:=[_,_]) (R1:=[]) hS (fun W h=>h))) _ hx5) (fun _ _=>?_)
  refine g_do rfl rfl rfl rfl rfl h3<|g_v rfl (r_neq rfl rfl)<|g_v rfl (r_pick0 rfl h3)<|g_v rfl r_move ?_
  refine g_if rfl rfl rfl rfl rfl (fun h6=>?_) (fun h6=>?_)
  ·
   replace hm:=ite_f hm (of_decide_eq_false h6)
   refine g_v rfl (r_field (n:=6) Try.underlying31 rfl Try.sizeOf4 rfl rfl)<|g_do rfl rfl rfl rfl rfl h6<|g_v rfl (r_load (tag:=100060) rfl rfl rfl Try.isAgg4)<|g_do rfl rfl rfl rfl rfl h6<|g_v rfl (r_not rfl)<|g_v rfl (r_pick0 rfl h6)<|g_v rfl r_move ?_
   refine g_if rfl rfl rfl rfl rfl (fun h7=>?_) (fun h7=>?_)
   ·
    have h7' : p1.fGood = true:=by revert h7; cases p1.fGood <;> simp
    replace hm:=ite_t hm h7'
    refine g_v rfl (r_field (n:=1) Try.underlying31 rfl Try.sizeOf3 rfl rfl)<|g_do rfl rfl rfl rfl rfl h7<|g_v rfl (r_load (tag:=100060) rfl rfl rfl Try.isAgg3)<|g_do rfl rfl rfl rfl rfl h7<|g_v rfl (r_field (n:=1) Try.underlying31 rfl Try.sizeOf3 rfl rfl)<|g_do rfl rfl rfl rfl rfl h7<|g_v rfl (r_load (tag:=100050) rfl rfl rfl Try.isAgg3)<|g_do rfl rfl rfl rfl rfl h7<|g_v rfl (r_neq rfl rfl)<|g_v rfl (r_pick0 rfl h7) ?_
    refine g_v rfl r_move ?_
    refine g_if rfl rfl rfl rfl rfl (fun h8=>?_) (fun h8=>?_)
    ·
     replace hm:=ite_f hm (of_decide_eq_false h8)
     refine g_v rfl (r_field (n:=2) Try.underlying31 rfl Try.sizeOf3 rfl rfl)<|g_do rfl rfl rfl rfl rfl h8<|g_v rfl (r_load (tag:=100060) rfl rfl rfl Try.isAgg3)<|g_do rfl rfl rfl rfl rfl h8<|g_v rfl r_move<|g_do rfl rfl rfl rfl rfl h8<|g_v rfl (r_lss rfl rfl)<|g_v rfl (r_pick0 rfl h8)<|g_nil<|d_then ?_
     refine c_flat [(3,.int .i64 p3),(4,.int .i64 p4),(6,.pointer (some ⟨g2,0,none⟩)),(40,.bool (decide (p1.fEpoch < p2)))] ⟨rfl,rfl,rfl,rfl,trivial⟩ (fun u=>?_)
     refine c_cond rfl (fun h9=>?_) (fun h9=>?_)
     ·
      replace hm:=ite_t hm (of_decide_eq_true h9)
      refine c_seq<|c_region<|g_v rfl r_assign<|g_v rfl r_assign<|g_nil<|d_then<|c_ret<|d_ret_then ?_
      cases hm
      refine d_sta _ (fun W h=>nilR h 11 41 9)<|d_sta _ (fun W h=>ok_frontR (t:=11) (t':=2000) h rfl) ?_
      exact d_retC (none,0,([] : List GCachedP)) Try.results9 (res_tmp (res_tmp (res_nil rfl))) ⟨DOk.nil,(Nat.le_refl 0)⟩ (fun W h=>((h.dropH (t:=100060) rfl).dropH (t:=100050) rfl).phi (fun W hφ=>⟨hφ,(fun W h=>DOwn.nil) W hφ⟩)) (.inr rfl)
     replace hm:=ite_f hm (of_decide_eq_false h9)
     refine c_skip<|d_then<|c_seq<|c_region<|g_v rfl r_move ?_
     replace hm:=bnd hm
     obtain ⟨x10,hx11,hm⟩:=hm
     refine g_cn ⟨w0,M,_,_,φ⟩ (fun _ h=>h) Try.call19 rfl rfl (c_peer_clock p3 _ hx11) (fun _ _=>?_)
     refine g_v rfl r_move ?_
     replace hm:=bnd hm
     obtain ⟨x12,hx13,hm⟩:=hm
     refine g_cn ⟨w0,M,_,_,φ⟩ (fun _ h=>h) Try.call19 rfl rfl (c_peer_clock p4 _ hx13) (fun _ _=>?_)
     refine g_v rfl (r_add rfl rfl rfl) ?_
     replace hm:=bnd hm
     obtain ⟨x14,hx15,hm⟩:=hm
     refine g_cn ⟨w0,M,_,_,φ⟩ (fun _ h=>h) Try.call19 rfl rfl (c_peer_clock (w64 (x10 + x12)) _ hx15) (fun _ _=>?_)
     refine g_v rfl r_assign<|g_nil<|d_then<|c_seq<|c_region<|g_v rfl (r_field (n:=7) Try.underlying31 rfl Try.sizeOf25 rfl rfl)<|g_v rfl (r_load (tag:=100060) rfl rfl rfl Try.isAgg25) ?_
     replace hm:=bnd hm
     obtain ⟨x16,hx17,hm⟩:=hm
     refine g_cn ⟨w0,M,_,_,φ⟩ (fun _ h=>h) Try.call20 rfl rfl (c_slices_Clone_20 p1.fEntries Ap1_0 cp1_0 psp1_0 ⟨hcp1_0.1,hcp1_0.2⟩ (fun W h=>fp1_0 W h) (fun W h=>(fop1_0 W h)) _ hx17) (fun ⟨A18,c19,ps21⟩ hc19=>?_)
     refine g_sta _ (fun W h=>(ok_frontR (t:=2000) (t':=100490) h rfl)) ?_
     refine g_abs (fun φ23 q23'=>?_)
     have q23 : ∀ W,φ23 W→φ W:=fun W h=>(q23' W h).1
     have f22:=fun (W : World) (h : φ23 W)=>(q23' W h).2
     refine g_v rfl r_assign<|g_nil<|d_then ?_
     refine c_flat [(12,.int .i64 x14),(13,.slice A18 x16.length c19)] ⟨rfl,rfl,trivial⟩ (fun u=>?_)
     refine c_sta ⟨w0,M,(100060,g2,.cells #[.int .i64 p1.fKind,.int .i64 p1.fSerial,.int .i64 p1.fEpoch,.string p1.fQuestion.fName,.int .u16 p1.fQuestion.fType,.int .u16 p1.fQuestion.fClass,.bool p1.fGood,.slice Ap1_0 p1.fEntries.length cp1_0,.int .i64 p1.fNote.fKind,.int .i64 p1.fNote.fFrom,.int .i64 p1.fNote.fTo,.int .i64 p1.fNote.fTerm,.int .i64 p1.fNote.fIndex,.int .i64 p1.fNote.fLogTerm,.int .i64 p1.fNote.fCommit,.bool p1.fNote.fGood,.slice Ap1_1 p1.fNote.fEntries.length cp1_1,.slice Ap1_2 p1.fNote.fVoters.length cp1_2,.string p1.fNote.fSnap,.string p1.fText] 31 (0,0))::(100050,g1,.cells #[.int .i64 p0.fKind,.int .i64 p0.fSerial,.int .i64 p0.fEpoch,.string p0.fQuestion.fName,.int .u16 p0.fQuestion.fType,.int .u16 p0.fQuestion.fClass,.bool p0.fGood,.slice Ap0_0 p0.fEntries.length cp0_0,.int .i64 p0.fNote.fKind,.int .i64 p0.fNote.fFrom,.int .i64 p0.fNote.fTo,.int .i64 p0.fNote.fTerm,.int .i64 p0.fNote.fIndex,.int .i64 p0.fNote.fLogTerm,.int .i64 p0.fNote.fCommit,.bool p0.fNote.fGood,.slice Ap0_1 p0.fNote.fEntries.length cp0_1,.slice Ap0_2 p0.fNote.fVoters.length cp0_2,.string p0.fNote.fSnap,.string p0.fText] 31 (0,0))::H,(100490,⟨.slice A18 x16.length c19,41,9,x16.length,(x16.zip ps21).flatMap GCached.encP⟩)::R,φ23⟩ (fun _ h=>h)<|c_seq<|c_seq<|c_region<|g_v rfl r_move<|g_v rfl (r_lenL Try.underlying25 rfl)<|g_v rfl r_move<|g_nil<|d_then ?_
     refine c_cut (ι:=(List GCached)×Option Addr×Nat×List GCachedP) [13] (fun ⟨l91,A92,c93,ps94⟩=>[(13,.slice A92 l91.length c93)]) (fun ⟨l91,A92,c93,ps94⟩=>⟨w0,M,H,(100490,⟨.slice A92 l91.length c93,41,9,l91.length,(l91.zip ps94).flatMap GCached.encP⟩)::R,fun W=>φ23 W∧DOwn GCached.ownP l91 ps94 W⟩) (fun ⟨l91,A92,c93,ps94⟩=>m_peer_Accept_j1 l91 = some r∧(DOk GCached.capP l91 ps94∧l91.length ≤ c93)) ?_ (fun ⟨l91,A92,c93,ps94⟩ u ⟨hm,hc93⟩=>?_)
     ·
      refine c_block ?_
      replace hm:=bnd hm
      obtain ⟨out2,hl2,hr2⟩:=hm
      obtain ⟨n163',hl2⟩:=loop_lp hl2
      refine c_loopU (ι:=Nat×(List GCached)×Int×Option Addr×Nat×List GCachedP) [12,13,51,52] (fun ⟨n163,l127,i132,A128,c129,ps130⟩=>[(13,.slice A128 l127.length c129),(52,.int .i64 i132)]) (fun ⟨n163,l127,i132,A128,c129,ps130⟩=>⟨w0,M,H,(100490,⟨.slice A128 l127.length c129,41,9,l127.length,(l127.zip ps130).flatMap GCached.encP⟩)::R,fun W=>φ23 W∧DOwn GCached.ownP l127 ps130 W⟩) (fun ⟨n163,l127,i132,A128,c129,ps130⟩=>Lp (fun s=>m_peer_Accept_s2 x16 x14 s.1 s.2) n163 (l127,i132) out2∧(DOk GCached.capP l127 ps130∧l127.length ≤ c129)) (fun ⟨n163,l127,i132,A128,c129,ps130⟩=>n163) (n163',x16,0,A18,c19,ps21) ⟨hl2,⟨hc19.1,hc19.2⟩⟩ ⟨rfl,rfl,rfl,rfl,trivial⟩ (fun W h=>((h.dropH (t:=100060) rfl).dropH (t:=100050) rfl).phi (fun W hφ=>⟨hφ,(fun W h=>(f22 W h)) W hφ⟩)) (fun ⟨n163,l127,i132,A128,c129,ps130⟩ u ⟨hlp,hc129⟩=>?_)
      obtain ⟨o2,hm,hnx2⟩:=lp_step hlp
      clear hlp
      replace hm : m_peer_Accept_s2 x16 x14 l127 i132 = some o2:=hm
      unfold m_peer_Accept_s2 at hm
      refine c_abs (fun φ164 q164'=>?_)
      have q164 : ∀ W,φ164 W→φ23 W:=fun W h=>(q164' W h).1
      have f131:=fun (W : World) (h : φ164 W)=>(q164' W h).2
      refine c_flat [(12,.int .i64 x14),(13,.slice A128 l127.length c129),(51,.int .i64 (x16.length : Int)),(52,.int .i64 i132)] ⟨rfl,rfl,rfl,rfl,trivial⟩ (fun u=>?_)
      refine c_sta ⟨w0,M,H,(100490,⟨.slice A128 l127.length c129,41,9,l127.length,(l127.zip ps130).flatMap GCached.encP⟩)::R,φ164⟩ (fun _ h=>h)<|c_seq<|c_region<|g_v rfl (r_lss rfl rfl)<|g_nil<|d_then<|c_seq ?_
      refine c_cond rfl (fun h165=>?_) (fun h165=>?_)
      ·
       replace hm:=ite_t hm (of_decide_eq_true h165)
       refine c_skip<|d_then<|c_seq<|c_block<|c_seq<|c_region<|g_v rfl r_move<|g_v rfl r_assign<|g_nil<|d_then ?_
       refine c_region ?_
       iterate 4 refine g_v rfl r_move ?_
       replace hm:=bnd hm
       obtain ⟨x166,hx166,hm⟩:=hm
       obtain ⟨pp170,hv171,hz172,hcp173⟩:=DOk.at_ hc129.1 hx166
       refine g_know _ (fun W hS=>cl_at (p:=(Sta.ok ⟨w0,M,H,(100490,⟨.slice A128 l127.length c129,41,9,l127.length,(l127.zip ps130).flatMap GCached.encP⟩)::R,φ164⟩)) (sz:=9) (fun _=>rfl) (by decide) hS (fun W hS=>rowCl (S:=⟨w0,M,H,(100490,⟨.slice A128 l127.length c129,41,9,l127.length,(l127.zip ps130).flatMap GCached.encP⟩)::R,φ164⟩) (tag:=100490) rfl W hS) hv171) ?_
       rintro ⟨ad167,hA169,f168⟩
       have f174:=fun (W : World) (h : φ164 W)=>(f131 W h _ hz172)
       refine g_v rfl (r_ix Try.underlying25 Try.sizeOf41 rfl hA169 rfl hx166) ?_
       have f175:=fun (W : World) (h : (Sta.ok ⟨w0,M,H,(100490,⟨.slice A128 l127.length c129,41,9,l127.length,(l127.zip ps130).flatMap GCached.encP⟩)::R,φ164⟩) W)=>Cl.drop (f168 W h) 5
       refine g_v rfl (r_fieldF Try.underlying41 rfl Try.sizeOf3 rfl)<|g_v rfl (r_ld rfl Try.isAgg3 (fun W hS=>Cl.head (f175 W hS)))<|g_v rfl r_move<|g_v rfl (r_min rfl rfl) ?_
       replace hm:=bnd hm
       obtain ⟨x176,hx176,hm⟩:=hm
       obtain ⟨pp180,hv181,hz182,hcp183⟩:=DOk.at_ hc129.1 hx176
       refine g_know _ (fun W hS=>cl_at (p:=(Sta.ok ⟨w0,M,H,(100490,⟨.slice A128 l127.length c129,41,9,l127.length,(l127.zip ps130).flatMap GCached.encP⟩)::R,φ164⟩)) (sz:=9) (fun _=>rfl) (by decide) hS (fun W hS=>rowCl (S:=⟨w0,M,H,(100490,⟨.slice A128 l127.length c129,41,9,l127.length,(l127.zip ps130).flatMap GCached.encP⟩)::R,φ164⟩) (tag:=100490) rfl W hS) hv181) ?_
       rintro ⟨ad177,hA179,f178⟩
       have f184:=fun (W : World) (h : φ164 W)=>(f131 W h _ hz182)
       refine g_v rfl (r_ix Try.underlying25 Try.sizeOf41 rfl hA179 rfl hx176) ?_
       have f185:=fun (W : World) (h : (Sta.ok ⟨w0,M,H,(100490,⟨.slice A128 l127.length c129,41,9,l127.length,(l127.zip ps130).flatMap GCached.encP⟩)::R,φ164⟩) W)=>Cl.drop (f178 W h) 5
       refine g_v rfl (r_fieldF Try.underlying41 rfl Try.sizeOf3 rfl) ?_
       replace hm:=bnd hm
       obtain ⟨l186,hl186,hm⟩:=hm
       have hk187:=DOk.set (p:=(⟨pp180.pA0,pp180.pC0⟩ : GCachedP)) hc129.1 hl186 (show GCached.capP ((⟨x176.fKind,x176.fName,x176.fType,x176.fClass,x176.fRecords,(min x166.fUntil x14),x176.fRank,x176.fEpoch,x176.fSource⟩ : GCached),(⟨pp180.pA0,pp180.pC0⟩ : GCachedP)) from hcp183)
       have f188:=fun (W : World) (h : φ164 W)=>DOwn.set (p:=(⟨pp180.pA0,pp180.pC0⟩ : GCachedP)) hl186 (f131 W h) (show GCached.ownP W ((⟨x176.fKind,x176.fName,x176.fType,x176.fClass,x176.fRecords,(min x166.fUntil x14),x176.fRank,x176.fEpoch,x176.fSource⟩ : GCached),(⟨pp180.pA0,pp180.pC0⟩ : GCachedP)) from f184 W h)
       refine g_s (e_stRD (tag:=100490) (enc:=GCached.encP) (l:=l127) (off:=5) (vs:=[.int .i64 (min x166.fUntil x14)]) (p':=(⟨pp180.pA0,pp180.pC0⟩ : GCachedP)) hc129.1 rfl hA179 rfl rfl hv181 hl186 rfl (Nat.le_of_ble_eq_true rfl) (fun _=>rfl) rfl rfl Try.sizeOf3) ?_
       rw [show l127.length = l186.length from (setAt_lenE hl186).symm]
       refine g_nil<|d_normal_block<|d_then ?_
       refine c_flat [(12,.int .i64 x14),(13,.slice A128 l186.length c129),(51,.int .i64 (x16.length : Int)),(52,.int .i64 i132)] ⟨rfl,rfl,rfl,rfl,trivial⟩ (fun u=>?_)
       refine c_sta ⟨w0,M,H,(100490,⟨.slice A128 l186.length c129,41,9,l186.length,(l186.zip (ps130.set (i132).toNat (⟨pp180.pA0,pp180.pC0⟩ : GCachedP))).flatMap GCached.encP⟩)::R,φ164⟩ (fun _ h=>h)<|c_region<|g_v rfl (r_add rfl rfl rfl)<|g_v rfl r_move<|g_nil ?_
       obtain ⟨n189,hn189,hlp⟩:=nx_inl hm hnx2
       exact d_round (n189,l186,w64 (i132 + 1),A128,c129,(ps130.set (i132).toNat (⟨pp180.pA0,pp180.pC0⟩ : GCachedP))) ⟨hlp,⟨hk187,(setAt_len hc129.2 hl186)⟩⟩ hn189 ⟨rfl,rfl,rfl,rfl,trivial⟩ (fun W h=>h.phi (fun W hφ=>⟨(q164 _ hφ),(fun W h=>(f188 W h)) W hφ⟩))
      replace hm:=ite_f hm (of_decide_eq_false h165)
      refine c_exit<|d_exit_then<|d_exit_then<|d_exit_block ?_
      replace hm:=nx_out (C:=(fun e : (List GCached)=>m_peer_Accept_j1 e = some r)) hm hnx2 hr2
      exact d_round (l127,A128,c129,ps130) ⟨hm,⟨hc129.1,hc129.2⟩⟩ Nat.zero_lt_one ⟨rfl,trivial⟩ (fun W h=>h.phi (fun W hφ=>⟨(q164 _ hφ),(fun W h=>(f131 W h)) W hφ⟩))
     unfold m_peer_Accept_j1 at hm
     refine d_abs (fun φ96 q96'=>?_)
     have q96 : ∀ W,φ96 W→φ23 W:=fun W h=>(q96' W h).1
     have f95:=fun (W : World) (h : φ96 W)=>(q96' W h).2
     refine d_flat [(13,.slice A92 l91.length c93)] ⟨rfl,trivial⟩ (fun u=>?_)
     refine d_sta ⟨w0,M,H,(100490,⟨.slice A92 l91.length c93,41,9,l91.length,(l91.zip ps94).flatMap GCached.encP⟩)::R,φ96⟩ (fun _ h=>h)<|d_then<|c_seq<|c_region<|g_v rfl r_move<|g_v rfl r_assign<|g_v rfl r_assign<|g_nil<|d_then<|c_ret ?_
     cases hm
     refine d_sta _ (fun W h=>ok_frontR (t:=100490) (t':=2000) h rfl) ?_
     exact d_retC (A92,c93,ps94) Try.results9 (res_tmp (res_tmp (res_nil rfl))) ⟨hc93.1,hc93.2⟩ (fun W h=>h.phi (fun W hφ=>⟨(q23 _ (q96 _ hφ)),(fun W h=>(f95 W h)) W hφ⟩)) (.inr rfl)
    replace hm:=ite_t hm (of_decide_eq_true h8)
    iterate 3 refine g_no rfl rfl rfl rfl rfl h8 ?_
    refine g_v rfl (r_pick1 rfl h8)<|g_nil<|d_then ?_
    refine c_flat [(3,.int .i64 p3),(4,.int .i64 p4),(6,.pointer (some ⟨g2,0,none⟩)),(40,.bool true)] ⟨rfl,rfl,rfl,rfl,trivial⟩ (fun u=>?_)
    refine c_cond1 rfl rfl<|c_seq<|c_region<|g_v rfl r_assign<|g_v rfl r_assign<|g_nil<|d_then<|c_ret<|d_ret_then ?_
    cases hm
    refine d_sta _ (fun W h=>nilR h 12 41 9)<|d_sta _ (fun W h=>ok_frontR (t:=12) (t':=2000) h rfl) ?_
    exact d_retC (none,0,([] : List GCachedP)) Try.results9 (res_tmp (res_tmp (res_nil rfl))) ⟨DOk.nil,(Nat.le_refl 0)⟩ (fun W h=>((h.dropH (t:=100060) rfl).dropH (t:=100050) rfl).phi (fun W hφ=>⟨hφ,(fun W h=>DOwn.nil) W hφ⟩)) (.inr rfl)
   have h7' : p1.fGood = false:=by revert h7; cases p1.fGood <;> simp
   replace hm:=ite_f hm (bool_nt h7')
   iterate 4 refine g_no rfl rfl rfl rfl rfl h7 ?_
   refine g_v rfl (r_pick1 rfl h7)<|g_v rfl r_move ?_
   iterate 4 refine g_no rfl rfl rfl rfl rfl rfl ?_
   refine g_v rfl (r_pick1 rfl rfl)<|g_nil<|d_then ?_
   refine c_flat [(3,.int .i64 p3),(4,.int .i64 p4),(6,.pointer (some ⟨g2,0,none⟩)),(40,.bool true)] ⟨rfl,rfl,rfl,rfl,trivial⟩ (fun u=>?_)
   refine c_cond1 rfl rfl<|c_seq<|c_region<|g_v rfl r_assign<|g_v rfl r_assign<|g_nil<|d_then<|c_ret<|d_ret_then ?_
   cases hm
   refine d_sta _ (fun W h=>nilR h 13 41 9)<|d_sta _ (fun W h=>ok_frontR (t:=13) (t':=2000) h rfl) ?_
   exact d_retC (none,0,([] : List GCachedP)) Try.results9 (res_tmp (res_tmp (res_nil rfl))) ⟨DOk.nil,(Nat.le_refl 0)⟩ (fun W h=>((h.dropH (t:=100060) rfl).dropH (t:=100050) rfl).phi (fun W hφ=>⟨hφ,(fun W h=>DOwn.nil) W hφ⟩)) (.inr rfl)
  replace hm:=ite_t hm (of_decide_eq_true h6)
  refine g_no rfl rfl rfl rfl rfl h6<|g_no rfl rfl rfl rfl rfl h6<|g_v rfl (r_pick1 rfl h6)<|g_v rfl r_move ?_
  iterate 5 refine g_no rfl rfl rfl rfl rfl rfl ?_
  refine g_v rfl (r_pick1 rfl rfl)<|g_v rfl r_move ?_
  iterate 4 refine g_no rfl rfl rfl rfl rfl rfl ?_
  refine g_v rfl (r_pick1 rfl rfl)<|g_nil<|d_then ?_
  refine c_flat [(3,.int .i64 p3),(4,.int .i64 p4),(6,.pointer (some ⟨g2,0,none⟩)),(40,.bool true)] ⟨rfl,rfl,rfl,rfl,trivial⟩ (fun u=>?_)
  refine c_cond1 rfl rfl<|c_seq<|c_region<|g_v rfl r_assign<|g_v rfl r_assign<|g_nil<|d_then<|c_ret<|d_ret_then ?_
  cases hm
  refine d_sta _ (fun W h=>nilR h 14 41 9)<|d_sta _ (fun W h=>ok_frontR (t:=14) (t':=2000) h rfl) ?_
  exact d_retC (none,0,([] : List GCachedP)) Try.results9 (res_tmp (res_tmp (res_nil rfl))) ⟨DOk.nil,(Nat.le_refl 0)⟩ (fun W h=>((h.dropH (t:=100060) rfl).dropH (t:=100050) rfl).phi (fun W hφ=>⟨hφ,(fun W h=>DOwn.nil) W hφ⟩)) (.inr rfl)
 replace hm:=ite_t hm (of_decide_eq_true h3)
 refine g_no rfl rfl rfl rfl rfl h3<|g_no rfl rfl rfl rfl rfl h3<|g_v rfl (r_pick1 rfl h3)<|g_v rfl r_move ?_
 iterate 3 refine g_no rfl rfl rfl rfl rfl rfl ?_
 refine g_v rfl (r_pick1 rfl rfl)<|g_v rfl r_move ?_
 iterate 5 refine g_no rfl rfl rfl rfl rfl rfl ?_
 refine g_v rfl (r_pick1 rfl rfl)<|g_v rfl r_move ?_
 iterate 4 refine g_no rfl rfl rfl rfl rfl rfl ?_
 refine g_v rfl (r_pick1 rfl rfl)<|g_nil<|d_then ?_
 refine c_flat [(3,.int .i64 p3),(4,.int .i64 p4),(6,.pointer (some ⟨g2,0,none⟩)),(40,.bool true)] ⟨rfl,rfl,rfl,rfl,trivial⟩ (fun u=>?_)
 refine c_cond1 rfl rfl<|c_seq<|c_region<|g_v rfl r_assign<|g_v rfl r_assign<|g_nil<|d_then<|c_ret<|d_ret_then ?_
 cases hm
 refine d_sta _ (fun W h=>nilR h 15 41 9)<|d_sta _ (fun W h=>ok_frontR (t:=15) (t':=2000) h rfl) ?_
 exact d_retC (none,0,([] : List GCachedP)) Try.results9 (res_tmp (res_tmp (res_nil rfl))) ⟨DOk.nil,(Nat.le_refl 0)⟩ (fun W h=>((h.dropH (t:=100060) rfl).dropH (t:=100050) rfl).phi (fun W hφ=>⟨hφ,(fun W h=>DOwn.nil) W hφ⟩)) (.inr rfl)
noncomputable def m_law20_awake  : Option Bool:=
  (m_peer_Bytes (⟨4,1,2,(⟨(⟨#[]⟩ : ByteArray),0,0⟩ : GQuestion),false,([] : List GCached),(⟨0,0,0,0,0,0,0,false,([] : List GEntry),([] : List Int),(⟨#[]⟩ : ByteArray)⟩ : GNote),(⟨#[]⟩ : ByteArray)⟩ : GLetter)).bind fun (z4 : ByteArray×Int)=>
  (m_law20_entry 9000).bind fun x6=>
  (m_peer_Accept (⟨1,7,0,(⟨(⟨#[]⟩ : ByteArray),0,0⟩ : GQuestion),false,([] : List GCached),(⟨0,0,0,0,0,0,0,false,([] : List GEntry),([] : List Int),(⟨#[]⟩ : ByteArray)⟩ : GNote),(⟨#[]⟩ : ByteArray)⟩ : GLetter) (⟨2,7,1,(⟨(⟨#[]⟩ : ByteArray),0,0⟩ : GQuestion),true,[x6],(⟨0,0,0,0,0,0,0,false,([] : List GEntry),([] : List Int),(⟨#[]⟩ : ByteArray)⟩ : GNote),(⟨#[]⟩ : ByteArray)⟩ : GLetter) 2 1000 5000).bind fun (z27 : (List GCached)×Bool)=>
  (m_peer_Accept (⟨1,7,0,(⟨(⟨#[]⟩ : ByteArray),0,0⟩ : GQuestion),false,([] : List GCached),(⟨0,0,0,0,0,0,0,false,([] : List GEntry),([] : List Int),(⟨#[]⟩ : ByteArray)⟩ : GNote),(⟨#[]⟩ : ByteArray)⟩ : GLetter) (⟨2,7,1,(⟨(⟨#[]⟩ : ByteArray),0,0⟩ : GQuestion),true,[x6],(⟨0,0,0,0,0,0,0,false,([] : List GEntry),([] : List Int),(⟨#[]⟩ : ByteArray)⟩ : GNote),(⟨#[]⟩ : ByteArray)⟩ : GLetter) 1 1000 5000).bind fun (z37 : (List GCached)×Bool)=>
  if z4.2 = 0 then
    if z4.1 = (⟨#[4,0,0,0,0,0,0,0,1,0,0,0,0,0,0,0,2]⟩ : ByteArray) then
      if z27.2 = true then
        some false
      else
        if z37.2 = true then
          if (z37.1.length : Int) = 1 then
            (at_ z37.1 0).bind fun x43=>
            some (decide (x43.fUntil = 6000))
          else
            some false
        else
          some false
    else
      some false
  else
    some false
theorem c_law20_awake {w0 : World} {M : Nat→Prop} {H : List (Nat×Nat×Obj)} {R : List (Nat×Row)} {φ : World→Prop}  (r : Bool) (hm : m_law20_awake = some r) :
    Cn Try.prog 7 #[] ⟨w0,M,H,R,φ⟩ (fun x : Unit=>.bool r) (fun x=>True) (fun x=>⟨w0,M,H,R,φ⟩):=by
 unfold m_law20_awake at hm
 refine cn_intro (fn:=Try.f7) (N:=55) Try.func7 rfl Try.ntmps7 rfl<|c_seq<|c_region<|g_v rfl r_assign<|g_nil<|d_then<|c_seq<|c_region<|g_v rfl (r_build _ rfl (bld31_0 _ _ _)) ?_
 replace hm:=bnd hm
 obtain ⟨⟨x1,x2⟩,hx3,hm⟩:=hm
 refine g_cn ⟨w0,M,_,_,φ⟩ (fun _ h=>h) Try.call13 rfl rfl (c_peer_Bytes (⟨4,1,2,(⟨(⟨#[]⟩ : ByteArray),0,0⟩ : GQuestion),false,([] : List GCached),(⟨0,0,0,0,0,0,0,false,([] : List GEntry),([] : List Int),(⟨#[]⟩ : ByteArray)⟩ : GNote),(⟨#[]⟩ : ByteArray)⟩ : GLetter) none 0 ([] : List GCachedP) ⟨DOk.nil,(Nat.le_refl 0)⟩ (fun W _=>Cl.nil _ _) (fun W h=>DOwn.nil) none 0 (Nat.le_refl 0) (fun W _=>Cl.nil _ _) none 0 (Nat.le_refl 0) (fun W _=>Cl.nil _ _) _ hx3) (fun _ _=>?_)
 refine g_v rfl r_move<|g_v rfl (r_extract rfl rfl)<|g_v rfl (r_extract rfl rfl)<|g_v rfl r_assign<|g_v rfl r_assign<|g_nil<|d_then<|c_seq<|c_region<|g_v rfl (r_build _ rfl (bld31_23 _ _)) ?_
 refine g_e rfl (e_alloc 100030 Try.zeroValue31) (fun g5 _=>?_)
 refine g_storeL (tag:=100030) rfl rfl rfl rfl Try.sizeOf31 rfl rfl<|g_nil<|d_then ?_
 refine c_flat [(1,.string x1),(2,.int .i64 x2),(3,.pointer (some ⟨g5,0,none⟩))] ⟨rfl,rfl,rfl,trivial⟩ (fun u=>?_)
 refine c_sta ⟨w0,M,(100030,g5,.cells #[.int .i64 1,.int .i64 7,.int .i64 0,.string (⟨#[]⟩ : ByteArray),.int .u16 0,.int .u16 0,.bool false,.slice none 0 0,.int .i64 0,.int .i64 0,.int .i64 0,.int .i64 0,.int .i64 0,.int .i64 0,.int .i64 0,.bool false,.slice none 0 0,.slice none 0 0,.string (⟨#[]⟩ : ByteArray),.string (⟨#[]⟩ : ByteArray)] 31 (0,0))::H,R,φ⟩ (fun _ h=>h)<|c_seq<|c_region ?_
 replace hm:=bnd hm
 obtain ⟨x6,hx7,hm⟩:=hm
 refine g_cn ⟨w0,M,_,_,φ⟩ (fun _ h=>h) Try.call17 rfl rfl (c_law20_entry 9000 _ hx7) (fun ⟨A8,c9⟩ hc9=>?_)
 refine g_abs (fun φ11 q11'=>?_)
 have q11 : ∀ W,φ11 W→φ W:=fun W h=>(q11' W h).1
 have f10:=fun (W : World) (h : φ11 W)=>(q11' W h).2
 have hk13:=(DOk.cons (cap:=GCached.capP) (x:=x6) (p:=(⟨A8,c9⟩ : GCachedP)) (hc9) DOk.nil)
 have f14:=fun (W : World) (h : φ11 W)=>(DOwn.cons (own:=GCached.ownP) (x:=x6) (p:=(⟨A8,c9⟩ : GCachedP)) (f10 W h) DOwn.nil)
 refine g_e rfl (e_litD (tag:=100160) (enc:=GCached.encP) (sz:=9) hk13 rfl Try.underlying25 (lit41_27 _ _ _ _ _ _ _ _ _ _ _) rfl rfl (fun _=>rfl)) (fun g12 _=>?_)
 refine g_v rfl (r_build _ rfl (bld31_28 _ _ _ _ _ _ _)) ?_
 refine g_e rfl (e_alloc 100040 Try.zeroValue31) (fun g15 _=>?_)
 refine g_storeL (tag:=100040) rfl rfl rfl rfl Try.sizeOf31 rfl rfl<|g_nil<|d_then<|c_seq<|c_region<|g_v rfl (r_loadA (tag:=100030) rfl rfl Try.isAgg31 Try.sizeOf31 rfl rfl)<|g_v rfl (r_loadA (tag:=100040) rfl rfl Try.isAgg31 Try.sizeOf31 rfl rfl) ?_
 refine g_shut (tag:=100160) rfl (fun φ16 q16'=>?_)
 have q16 : ∀ W,φ16 W→φ11 W:=fun W h=>(q16' W h).1
 have f17:=fun (W : World) (h : φ16 W)=>(q16' W h).2
 replace hm:=bnd hm
 obtain ⟨⟨x18,x19⟩,hx20,hm⟩:=hm
 refine g_cn ⟨w0,M,_,_,φ16⟩ (fun _ h=>h) Try.call9 rfl rfl (c_peer_Accept (⟨1,7,0,(⟨(⟨#[]⟩ : ByteArray),0,0⟩ : GQuestion),false,([] : List GCached),(⟨0,0,0,0,0,0,0,false,([] : List GEntry),([] : List Int),(⟨#[]⟩ : ByteArray)⟩ : GNote),(⟨#[]⟩ : ByteArray)⟩ : GLetter) none 0 ([] : List GCachedP) ⟨DOk.nil,(Nat.le_refl 0)⟩ (fun W _=>Cl.nil _ _) (fun W hS=>DOwn.nil) none 0 (Nat.le_refl 0) (fun W _=>Cl.nil _ _) none 0 (Nat.le_refl 0) (fun W _=>Cl.nil _ _) (⟨2,7,1,(⟨(⟨#[]⟩ : ByteArray),0,0⟩ : GQuestion),true,[x6],(⟨0,0,0,0,0,0,0,false,([] : List GEntry),([] : List Int),(⟨#[]⟩ : ByteArray)⟩ : GNote),(⟨#[]⟩ : ByteArray)⟩ : GLetter) (some ⟨g12,0,none⟩) 1 [(⟨A8,c9⟩ : GCachedP)] ⟨hk13,(Nat.le_refl _)⟩ (fun W h=>f17 W h) (fun W h=>(f14 W (q16 _ h))) none 0 (Nat.le_refl 0) (fun W _=>Cl.nil _ _) none 0 (Nat.le_refl 0) (fun W _=>Cl.nil _ _) 2 1000 5000 _ hx20) (fun ⟨A21,c22,ps24⟩ hc22=>?_)
 refine g_sta _ (fun W h=>(ok_frontR (t:=2000) (t':=100210) h rfl)) ?_
 refine g_abs (fun φ26 q26'=>?_)
 have q26 : ∀ W,φ26 W→φ16 W:=fun W h=>(q26' W h).1
 have f25:=fun (W : World) (h : φ26 W)=>(q26' W h).2
 refine g_v rfl r_move<|g_v rfl (r_extract rfl rfl)<|g_v rfl (r_extract rfl rfl)<|g_v rfl r_assign<|g_v rfl r_assign<|g_nil<|d_then ?_
 refine c_flat [(1,.string x1),(2,.int .i64 x2),(3,.pointer (some ⟨g5,0,none⟩)),(4,.pointer (some ⟨g15,0,none⟩)),(6,.bool x19)] ⟨rfl,rfl,rfl,rfl,rfl,trivial⟩ (fun u=>?_)
 refine c_sta ⟨w0,M,(100040,g15,.cells #[.int .i64 2,.int .i64 7,.int .i64 1,.string (⟨#[]⟩ : ByteArray),.int .u16 0,.int .u16 0,.bool true,.slice (some ⟨g12,0,none⟩) [x6].length 1,.int .i64 0,.int .i64 0,.int .i64 0,.int .i64 0,.int .i64 0,.int .i64 0,.int .i64 0,.bool false,.slice none 0 0,.slice none 0 0,.string (⟨#[]⟩ : ByteArray),.string (⟨#[]⟩ : ByteArray)] 31 (0,0))::(100030,g5,.cells #[.int .i64 1,.int .i64 7,.int .i64 0,.string (⟨#[]⟩ : ByteArray),.int .u16 0,.int .u16 0,.bool false,.slice none 0 0,.int .i64 0,.int .i64 0,.int .i64 0,.int .i64 0,.int .i64 0,.int .i64 0,.int .i64 0,.bool false,.slice none 0 0,.slice none 0 0,.string (⟨#[]⟩ : ByteArray),.string (⟨#[]⟩ : ByteArray)] 31 (0,0))::H,(100210,⟨.slice A21 x18.length c22,41,9,x18.length,(x18.zip ps24).flatMap GCached.encP⟩)::R,φ26⟩ (fun _ h=>h)<|c_seq<|c_region<|g_v rfl (r_loadA (tag:=100030) rfl rfl Try.isAgg31 Try.sizeOf31 rfl rfl)<|g_v rfl (r_loadA (tag:=100040) rfl rfl Try.isAgg31 Try.sizeOf31 rfl rfl) ?_
 replace hm:=bnd hm
 obtain ⟨⟨x28,x29⟩,hx30,hm⟩:=hm
 refine g_cn ⟨w0,M,_,_,φ26⟩ (fun _ h=>h) Try.call9 rfl rfl (c_peer_Accept (⟨1,7,0,(⟨(⟨#[]⟩ : ByteArray),0,0⟩ : GQuestion),false,([] : List GCached),(⟨0,0,0,0,0,0,0,false,([] : List GEntry),([] : List Int),(⟨#[]⟩ : ByteArray)⟩ : GNote),(⟨#[]⟩ : ByteArray)⟩ : GLetter) none 0 ([] : List GCachedP) ⟨DOk.nil,(Nat.le_refl 0)⟩ (fun W _=>Cl.nil _ _) (fun W hS=>DOwn.nil) none 0 (Nat.le_refl 0) (fun W _=>Cl.nil _ _) none 0 (Nat.le_refl 0) (fun W _=>Cl.nil _ _) (⟨2,7,1,(⟨(⟨#[]⟩ : ByteArray),0,0⟩ : GQuestion),true,[x6],(⟨0,0,0,0,0,0,0,false,([] : List GEntry),([] : List Int),(⟨#[]⟩ : ByteArray)⟩ : GNote),(⟨#[]⟩ : ByteArray)⟩ : GLetter) (some ⟨g12,0,none⟩) 1 [(⟨A8,c9⟩ : GCachedP)] ⟨hk13,(Nat.le_refl _)⟩ (fun W h=>f17 W (q26 _ h)) (fun W h=>(f14 W (q16 _ (q26 _ h)))) none 0 (Nat.le_refl 0) (fun W _=>Cl.nil _ _) none 0 (Nat.le_refl 0) (fun W _=>Cl.nil _ _) 1 1000 5000 _ hx30) (fun ⟨A31,c32,ps34⟩ hc32=>?_)
 refine g_sta _ (fun W h=>(ok_frontR (t:=2000) (t':=100270) h rfl)) ?_
 refine g_abs (fun φ36 q36'=>?_)
 have q36 : ∀ W,φ36 W→φ26 W:=fun W h=>(q36' W h).1
 have f35:=fun (W : World) (h : φ36 W)=>(q36' W h).2
 refine g_v rfl r_move<|g_v rfl (r_extract rfl rfl)<|g_v rfl (r_extract rfl rfl)<|g_v rfl r_assign<|g_v rfl r_assign<|g_nil<|d_then<|c_seq<|c_region<|g_v rfl r_move ?_
 refine g_v rfl (r_eql rfl rfl)<|g_v rfl r_move<|g_sta ⟨w0,M,(100040,g15,.cells #[.int .i64 2,.int .i64 7,.int .i64 1,.string (⟨#[]⟩ : ByteArray),.int .u16 0,.int .u16 0,.bool true,.slice (some ⟨g12,0,none⟩) [x6].length 1,.int .i64 0,.int .i64 0,.int .i64 0,.int .i64 0,.int .i64 0,.int .i64 0,.int .i64 0,.bool false,.slice none 0 0,.slice none 0 0,.string (⟨#[]⟩ : ByteArray),.string (⟨#[]⟩ : ByteArray)] 31 (0,0))::(100030,g5,.cells #[.int .i64 1,.int .i64 7,.int .i64 0,.string (⟨#[]⟩ : ByteArray),.int .u16 0,.int .u16 0,.bool false,.slice none 0 0,.int .i64 0,.int .i64 0,.int .i64 0,.int .i64 0,.int .i64 0,.int .i64 0,.int .i64 0,.bool false,.slice none 0 0,.slice none 0 0,.string (⟨#[]⟩ : ByteArray),.string (⟨#[]⟩ : ByteArray)] 31 (0,0))::H,(100270,⟨.slice A31 x28.length c32,41,9,x28.length,(x28.zip ps34).flatMap GCached.encP⟩)::(100210,⟨.slice A21 x18.length c22,41,9,x18.length,(x18.zip ps24).flatMap GCached.encP⟩)::R,φ36⟩ (fun _ h=>h) ?_
 refine g_if rfl rfl rfl rfl rfl (fun h38=>?_) (fun h38=>?_)
 ·
  replace hm:=ite_t hm (of_decide_eq_true h38)
  refine g_v rfl r_move<|g_do rfl rfl rfl rfl rfl h38<|g_v rfl (r_eqlT rfl rfl)<|g_v rfl (r_pick1 rfl h38)<|g_v rfl r_move ?_
  refine g_if rfl rfl rfl rfl rfl (fun h39=>?_) (fun h39=>?_)
  ·
   replace hm:=ite_t hm (of_decide_eq_true h39)
   refine g_v rfl r_move<|g_do rfl rfl rfl rfl rfl h39<|g_v rfl (r_not rfl)<|g_v rfl (r_pick1 rfl h39)<|g_v rfl r_move ?_
   refine g_if rfl rfl rfl rfl rfl (fun h40=>?_) (fun h40=>?_)
   ·
    have h40' : x19 = false:=by revert h40; cases x19 <;> simp
    replace hm:=ite_f hm (bool_nt h40')
    refine g_v rfl r_move<|g_v rfl (r_pick1 rfl h40)<|g_v rfl r_move ?_
    refine g_if rfl rfl rfl rfl rfl (fun h41=>?_) (fun h41=>?_)
    ·
     replace hm:=ite_t hm h41
     refine g_v rfl r_move<|g_do rfl rfl rfl rfl rfl h41<|g_v rfl (r_lenL Try.underlying25 rfl)<|g_do rfl rfl rfl rfl rfl h41<|g_v rfl (r_eql rfl rfl)<|g_v rfl (r_pick1 rfl h41)<|g_v rfl r_move ?_
     refine g_if rfl rfl rfl rfl rfl (fun h42=>?_) (fun h42=>?_)
     ·
      replace hm:=ite_t hm (of_decide_eq_true h42)
      refine g_v rfl r_move<|g_do rfl rfl rfl rfl rfl h42 ?_
      replace hm:=bnd hm
      obtain ⟨x43,hx43,hm⟩:=hm
      obtain ⟨pp47,hv48,hz49,hcp50⟩:=DOk.at_ hc32.1 hx43
      refine g_know _ (fun W hS=>cl_at (p:=(Sta.ok ⟨w0,M,(100040,g15,.cells #[.int .i64 2,.int .i64 7,.int .i64 1,.string (⟨#[]⟩ : ByteArray),.int .u16 0,.int .u16 0,.bool true,.slice (some ⟨g12,0,none⟩) [x6].length 1,.int .i64 0,.int .i64 0,.int .i64 0,.int .i64 0,.int .i64 0,.int .i64 0,.int .i64 0,.bool false,.slice none 0 0,.slice none 0 0,.string (⟨#[]⟩ : ByteArray),.string (⟨#[]⟩ : ByteArray)] 31 (0,0))::(100030,g5,.cells #[.int .i64 1,.int .i64 7,.int .i64 0,.string (⟨#[]⟩ : ByteArray),.int .u16 0,.int .u16 0,.bool false,.slice none 0 0,.int .i64 0,.int .i64 0,.int .i64 0,.int .i64 0,.int .i64 0,.int .i64 0,.int .i64 0,.bool false,.slice none 0 0,.slice none 0 0,.string (⟨#[]⟩ : ByteArray),.string (⟨#[]⟩ : ByteArray)] 31 (0,0))::H,(100270,⟨.slice A31 x28.length c32,41,9,x28.length,(x28.zip ps34).flatMap GCached.encP⟩)::(100210,⟨.slice A21 x18.length c22,41,9,x18.length,(x18.zip ps24).flatMap GCached.encP⟩)::R,φ36⟩)) (sz:=9) (fun _=>rfl) (by decide) hS (fun W hS=>rowCl (S:=⟨w0,M,(100040,g15,.cells #[.int .i64 2,.int .i64 7,.int .i64 1,.string (⟨#[]⟩ : ByteArray),.int .u16 0,.int .u16 0,.bool true,.slice (some ⟨g12,0,none⟩) [x6].length 1,.int .i64 0,.int .i64 0,.int .i64 0,.int .i64 0,.int .i64 0,.int .i64 0,.int .i64 0,.bool false,.slice none 0 0,.slice none 0 0,.string (⟨#[]⟩ : ByteArray),.string (⟨#[]⟩ : ByteArray)] 31 (0,0))::(100030,g5,.cells #[.int .i64 1,.int .i64 7,.int .i64 0,.string (⟨#[]⟩ : ByteArray),.int .u16 0,.int .u16 0,.bool false,.slice none 0 0,.int .i64 0,.int .i64 0,.int .i64 0,.int .i64 0,.int .i64 0,.int .i64 0,.int .i64 0,.bool false,.slice none 0 0,.slice none 0 0,.string (⟨#[]⟩ : ByteArray),.string (⟨#[]⟩ : ByteArray)] 31 (0,0))::H,(100270,⟨.slice A31 x28.length c32,41,9,x28.length,(x28.zip ps34).flatMap GCached.encP⟩)::(100210,⟨.slice A21 x18.length c22,41,9,x18.length,(x18.zip ps24).flatMap GCached.encP⟩)::R,φ36⟩) (tag:=100270) rfl W hS) hv48) ?_
      rintro ⟨ad44,hA46,f45⟩
      have f51:=fun (W : World) (h : φ36 W)=>(f35 W h _ hz49)
      refine g_v rfl (r_ix Try.underlying25 Try.sizeOf41 rfl hA46 rfl hx43)<|g_do rfl rfl rfl rfl rfl h42 ?_
      have f52:=fun (W : World) (h : (Sta.ok ⟨w0,M,(100040,g15,.cells #[.int .i64 2,.int .i64 7,.int .i64 1,.string (⟨#[]⟩ : ByteArray),.int .u16 0,.int .u16 0,.bool true,.slice (some ⟨g12,0,none⟩) [x6].length 1,.int .i64 0,.int .i64 0,.int .i64 0,.int .i64 0,.int .i64 0,.int .i64 0,.int .i64 0,.bool false,.slice none 0 0,.slice none 0 0,.string (⟨#[]⟩ : ByteArray),.string (⟨#[]⟩ : ByteArray)] 31 (0,0))::(100030,g5,.cells #[.int .i64 1,.int .i64 7,.int .i64 0,.string (⟨#[]⟩ : ByteArray),.int .u16 0,.int .u16 0,.bool false,.slice none 0 0,.int .i64 0,.int .i64 0,.int .i64 0,.int .i64 0,.int .i64 0,.int .i64 0,.int .i64 0,.bool false,.slice none 0 0,.slice none 0 0,.string (⟨#[]⟩ : ByteArray),.string (⟨#[]⟩ : ByteArray)] 31 (0,0))::H,(100270,⟨.slice A31 x28.length c32,41,9,x28.length,(x28.zip ps34).flatMap GCached.encP⟩)::(100210,⟨.slice A21 x18.length c22,41,9,x18.length,(x18.zip ps24).flatMap GCached.encP⟩)::R,φ36⟩) W)=>Cl.drop (f45 W h) 5
      refine g_v rfl (r_fieldF Try.underlying41 rfl Try.sizeOf3 rfl)<|g_do rfl rfl rfl rfl rfl h42<|g_v rfl (r_ld rfl Try.isAgg3 (fun W hS=>Cl.head (f52 W hS)))<|g_do rfl rfl rfl rfl rfl h42<|g_v rfl (r_eql rfl rfl)<|g_v rfl (r_pick1 rfl h42)<|g_v rfl r_assign<|g_nil<|d_then ?_
      refine c_flat [(0,.bool (decide (x43.fUntil = 6000)))] ⟨rfl,trivial⟩ (fun u=>?_)
      refine c_ret ?_
      cases hm
      exact d_retC () Try.results7 (res_tmp (res_nil rfl)) trivial (fun W h=>ok_pre (H1:=[_,_]) (R1:=[_,_]) h (fun W hφ=>(q11 _ (q16 _ (q26 _ (q36 _ hφ)))))) (.inr rfl)
     replace hm:=ite_f hm (of_decide_eq_false h42)
     iterate 4 refine g_no rfl rfl rfl rfl rfl h42 ?_
     refine g_v rfl (r_pick0 rfl h42)<|g_v rfl r_assign<|g_nil<|d_then ?_
     refine c_flat [(0,.bool false)] ⟨rfl,trivial⟩ (fun u=>?_)
     refine c_ret ?_
     cases hm
     exact d_retC () Try.results7 (res_tmp (res_nil rfl)) trivial (fun W h=>ok_pre (H1:=[_,_]) (R1:=[_,_]) h (fun W hφ=>(q11 _ (q16 _ (q26 _ (q36 _ hφ)))))) (.inr rfl)
    replace hm:=ite_f hm (bool_nt h41)
    refine g_no rfl rfl rfl rfl rfl h41<|g_no rfl rfl rfl rfl rfl h41<|g_v rfl (r_pick0 rfl h41)<|g_v rfl r_move ?_
    iterate 5 refine g_no rfl rfl rfl rfl rfl rfl ?_
    refine g_v rfl (r_pick0 rfl rfl)<|g_v rfl r_assign<|g_nil<|d_then ?_
    refine c_flat [(0,.bool false)] ⟨rfl,trivial⟩ (fun u=>?_)
    refine c_ret ?_
    cases hm
    exact d_retC () Try.results7 (res_tmp (res_nil rfl)) trivial (fun W h=>ok_pre (H1:=[_,_]) (R1:=[_,_]) h (fun W hφ=>(q11 _ (q16 _ (q26 _ (q36 _ hφ)))))) (.inr rfl)
   have h40' : x19 = true:=by revert h40; cases x19 <;> simp
   replace hm:=ite_t hm h40'
   refine g_v rfl (r_pick0 rfl h40)<|g_v rfl r_move ?_
   iterate 3 refine g_no rfl rfl rfl rfl rfl rfl ?_
   refine g_v rfl (r_pick0 rfl rfl)<|g_v rfl r_move ?_
   iterate 5 refine g_no rfl rfl rfl rfl rfl rfl ?_
   refine g_v rfl (r_pick0 rfl rfl)<|g_v rfl r_assign<|g_nil<|d_then ?_
   refine c_flat [(0,.bool false)] ⟨rfl,trivial⟩ (fun u=>?_)
   refine c_ret ?_
   cases hm
   exact d_retC () Try.results7 (res_tmp (res_nil rfl)) trivial (fun W h=>ok_pre (H1:=[_,_]) (R1:=[_,_]) h (fun W hφ=>(q11 _ (q16 _ (q26 _ (q36 _ hφ)))))) (.inr rfl)
  replace hm:=ite_f hm (of_decide_eq_false h39)
  refine g_no rfl rfl rfl rfl rfl h39<|g_v rfl (r_pick0 rfl h39)<|g_v rfl r_move<|g_no rfl rfl rfl rfl rfl rfl<|g_v rfl (r_pick0 rfl rfl)<|g_v rfl r_move ?_
  iterate 3 refine g_no rfl rfl rfl rfl rfl rfl ?_
  refine g_v rfl (r_pick0 rfl rfl)<|g_v rfl r_move ?_
  iterate 5 refine g_no rfl rfl rfl rfl rfl rfl ?_
  refine g_v rfl (r_pick0 rfl rfl)<|g_v rfl r_assign<|g_nil<|d_then ?_
  refine c_flat [(0,.bool false)] ⟨rfl,trivial⟩ (fun u=>?_)
  refine c_ret ?_
  cases hm
  exact d_retC () Try.results7 (res_tmp (res_nil rfl)) trivial (fun W h=>ok_pre (H1:=[_,_]) (R1:=[_,_]) h (fun W hφ=>(q11 _ (q16 _ (q26 _ (q36 _ hφ)))))) (.inr rfl)
 replace hm:=ite_f hm (of_decide_eq_false h38)
 refine g_no rfl rfl rfl rfl rfl h38<|g_v rfl (r_pick0 rfl h38)<|g_v rfl r_move<|g_no rfl rfl rfl rfl rfl rfl<|g_no rfl rfl rfl rfl rfl rfl<|g_v rfl (r_pick0 rfl rfl)<|g_v rfl r_move<|g_no rfl rfl rfl rfl rfl rfl<|g_v rfl (r_pick0 rfl rfl)<|g_v rfl r_move ?_
 iterate 3 refine g_no rfl rfl rfl rfl rfl rfl ?_
 refine g_v rfl (r_pick0 rfl rfl)<|g_v rfl r_move ?_
 iterate 5 refine g_no rfl rfl rfl rfl rfl rfl ?_
 refine g_v rfl (r_pick0 rfl rfl)<|g_v rfl r_assign<|g_nil<|d_then ?_
 refine c_flat [(0,.bool false)] ⟨rfl,trivial⟩ (fun u=>?_)
 refine c_ret ?_
 cases hm
 exact d_retC () Try.results7 (res_tmp (res_nil rfl)) trivial (fun W h=>ok_pre (H1:=[_,_]) (R1:=[_,_]) h (fun W hφ=>(q11 _ (q16 _ (q26 _ (q36 _ hφ)))))) (.inr rfl)
noncomputable def m_law20_short (p0 : ByteArray) (p1 : Int) : Option ByteArray:=
  if p1 < (p0.size : Int) then
    (scutHi p0 p1).bind fun s2=>
    some s2
  else
    some p0
theorem c_law20_short {w0 : World} {M : Nat→Prop} {H : List (Nat×Nat×Obj)} {R : List (Nat×Row)} {φ : World→Prop} (p0 : ByteArray) (p1 : Int) (r : ByteArray) (hm : m_law20_short p0 p1 = some r) :
    Cn Try.prog 16 #[.string p0,.int .i64 p1] ⟨w0,M,H,R,φ⟩ (fun x : Unit=>.string r) (fun x=>True) (fun x=>⟨w0,M,H,R,φ⟩):=by
 unfold m_law20_short at hm
 refine cn_intro (fn:=Try.f16) (N:=13) Try.func16 rfl Try.ntmps16 rfl<|c_seq<|c_region<|g_v rfl r_assign<|g_nil<|d_then<|c_seq<|c_seq<|c_region<|g_v rfl r_move ?_
 refine g_v rfl (r_len Try.underlying9 rfl)<|g_v rfl r_move<|g_v rfl (r_gtr rfl rfl)<|g_nil<|d_then ?_
 refine c_cond rfl (fun h1=>?_) (fun h1=>?_)
 ·
  replace hm:=ite_t hm (of_decide_eq_true h1)
  refine c_seq<|c_region<|g_v rfl r_move<|g_v rfl r_move ?_
  replace hm:=bnd hm
  obtain ⟨s2,hs2,hm⟩:=hm
  refine g_v rfl (r_scutHi Try.underlying9 rfl rfl hs2)<|g_v rfl r_assign<|g_nil<|d_then ?_
  refine c_flat [(4,.string s2)] ⟨rfl,trivial⟩ (fun u=>?_)
  refine c_sta ⟨w0,M,H,R,φ⟩ (fun _ h=>h)<|c_ret<|d_ret_then ?_
  cases hm
  exact d_retC () Try.results16 (res_tmp (res_nil rfl)) trivial (fun W h=>ok_pre (H1:=[]) (R1:=[]) h (fun W hφ=>hφ)) (.inr rfl)
 replace hm:=ite_f hm (of_decide_eq_false h1)
 refine c_skip<|d_then<|c_seq<|c_region<|g_v rfl r_move<|g_v rfl r_assign<|g_nil<|d_then<|c_ret ?_
 cases hm
 exact d_retC () Try.results16 (res_tmp (res_nil rfl)) trivial (fun W h=>ok_pre (H1:=[]) (R1:=[]) h (fun W hφ=>hφ)) (.inr rfl)
theorem inf54_31  : (Try.prog.info? 54).map (fun i=>(i.zero,i.size,i.bytes)) = some (some (.agg #[.string (⟨#[]⟩ : ByteArray),.int .u16 0,.int .u16 0,.int .u32 0,.string (⟨#[]⟩ : ByteArray)]),5,40):=by kernel_rfl
theorem lit56_32 (z0 : Int) (z1 : Int) (z2 : ByteArray) : Try.prog.builtSlice 56 1 [(0,.agg #[.int .i64 z0,.int .i64 z1,.string z2])] = some #[.int .i64 z0,.int .i64 z1,.string z2]:=by kernel_rfl
theorem inf56_33  : (Try.prog.info? 56).map (fun i=>(i.zero,i.size,i.bytes)) = some (some (.agg #[.int .i64 0,.int .i64 0,.string (⟨#[]⟩ : ByteArray)]),3,32):=by kernel_rfl
noncomputable def m_law20_small_j3 (p0 : GLetter) (x3 : ByteArray) (l667 : List GCached) (l761 : List GEntry) (x5 : ByteArray) (l767 : List Int) : Option GLetter:=
  (m_law20_short p0.fNote.fSnap 1000).bind fun x772=>
  some (⟨p0.fKind,p0.fSerial,p0.fEpoch,(⟨x3,p0.fQuestion.fType,p0.fQuestion.fClass⟩ : GQuestion),p0.fGood,l667,(⟨p0.fNote.fKind,p0.fNote.fFrom,p0.fNote.fTo,p0.fNote.fTerm,p0.fNote.fIndex,p0.fNote.fLogTerm,p0.fNote.fCommit,p0.fNote.fGood,l761,l767,x772⟩ : GNote),x5⟩ : GLetter)
noncomputable def m_law20_small_j2 (p0 : GLetter) (x3 : ByteArray) (l667 : List GCached) (x5 : ByteArray) (l761 : List GEntry) : Option GLetter:=
  if 70 < (p0.fNote.fVoters.length : Int) then
    (cutHi p0.fNote.fVoters 70).bind fun l780=>
    m_law20_small_j3 p0 x3 l667 l761 x5 l780
  else
    m_law20_small_j3 p0 x3 l667 l761 x5 p0.fNote.fVoters
noncomputable def m_law20_small_s4 (p0 : GLetter) (l797 : List GEntry) (i800 : Int) : Option (((List GEntry)×Int) ⊕ (List GEntry)):=
  if i800 < (p0.fNote.fEntries.length : Int) then
    if i800 < 20 then
      (at_ p0.fNote.fEntries i800).bind fun x821=>
      (m_law20_short x821.fData 100).bind fun x826=>
      (app 32 l797 [(⟨x821.fTerm,x821.fKind,x826⟩ : GEntry)]).bind fun l829=>
      some (.inl (l829,w64 (i800 + 1)))
    else
      some (.inr l797)
  else
    some (.inr l797)
noncomputable def m_law20_small_j1 (p0 : GLetter) (x3 : ByteArray) (x5 : ByteArray) (l667 : List GCached) : Option GLetter:=
  (loop (fun s=>m_law20_small_s4 p0 s.1 s.2) (([] : List GEntry),0)).bind fun e=>m_law20_small_j2 p0 x3 l667 x5 e
noncomputable def m_law20_small_j6 (l963 : List GCached) (x1104 : GCached) (x1114 : ByteArray) (i968 : Int) (l1214 : List GRR) : Option (((List GCached)×Int) ⊕ (List GCached)):=
  (app 88 l963 [(⟨x1104.fKind,x1114,x1104.fType,x1104.fClass,l1214,x1104.fUntil,x1104.fRank,x1104.fEpoch,x1104.fSource⟩ : GCached)]).bind fun l1222=>
  some (.inl (l1222,w64 (i968 + 1)))
noncomputable def m_law20_small_s7 (x1104 : GCached) (l1246 : List GRR) (i1249 : Int) : Option (((List GRR)×Int) ⊕ (List GRR)):=
  if i1249 < (x1104.fRecords.length : Int) then
    if i1249 < 5 then
      (at_ x1104.fRecords i1249).bind fun x1272=>
      (m_law20_short x1272.fName 300).bind fun x1277=>
      (m_law20_short x1272.fData 600).bind fun x1279=>
      (app 40 l1246 [(⟨x1277,x1272.fType,x1272.fClass,x1272.fTTL,x1279⟩ : GRR)]).bind fun l1282=>
      some (.inl (l1282,w64 (i1249 + 1)))
    else
      some (.inr l1246)
  else
    some (.inr l1246)
noncomputable def m_law20_small_s5 (p0 : GLetter) (l963 : List GCached) (i968 : Int) : Option (((List GCached)×Int) ⊕ (List GCached)):=
  if i968 < (p0.fEntries.length : Int) then
    if i968 < 45 then
      (at_ p0.fEntries i968).bind fun x1104=>
      (m_law20_short x1104.fName 300).bind fun x1114=>
      (loop (fun s=>m_law20_small_s7 x1104 s.1 s.2) (([] : List GRR),0)).bind fun e=>m_law20_small_j6 l963 x1104 x1114 i968 e
    else
      some (.inr l963)
  else
    some (.inr l963)
noncomputable def m_law20_small (p0 : GLetter) : Option GLetter:=
  (m_law20_short p0.fQuestion.fName 300).bind fun x3=>
  (m_law20_short p0.fText 9000).bind fun x5=>
  (loop (fun s=>m_law20_small_s5 p0 s.1 s.2) (([] : List GCached),0)).bind fun e=>m_law20_small_j1 p0 x3 x5 e
theorem c_law20_small {w0 : World} {M : Nat→Prop} {H : List (Nat×Nat×Obj)} {R : List (Nat×Row)} {φ : World→Prop} (p0 : GLetter) (Ap0_0 : Option Addr) (cp0_0 : Nat) (psp0_0 : List GCachedP) (hcp0_0 : (DOk GCached.capP p0.fEntries psp0_0∧p0.fEntries.length ≤ cp0_0)) (fp0_0 : ∀ W,(Sta.mk w0 M H R φ).ok W→Cl W Ap0_0 ((p0.fEntries.zip psp0_0).flatMap GCached.encP)) (fop0_0 : ∀ W,(Sta.mk w0 M H R φ).ok W→DOwn GCached.ownP p0.fEntries psp0_0 W) (Ap0_1 : Option Addr) (cp0_1 : Nat) (hcp0_1 : p0.fNote.fEntries.length ≤ cp0_1) (fp0_1 : ∀ W,(Sta.mk w0 M H R φ).ok W→Cl W Ap0_1 (p0.fNote.fEntries.flatMap GEntry.enc)) (Ap0_2 : Option Addr) (cp0_2 : Nat) (hcp0_2 : p0.fNote.fVoters.length ≤ cp0_2) (fp0_2 : ∀ W,φ W→Cl W Ap0_2 (p0.fNote.fVoters.flatMap (fun x : Int=>[Value.int .i64 x]))) (r : GLetter) (hm : m_law20_small p0 = some r) :
    Cn Try.prog 8 #[.agg #[.int .i64 p0.fKind,.int .i64 p0.fSerial,.int .i64 p0.fEpoch,.string p0.fQuestion.fName,.int .u16 p0.fQuestion.fType,.int .u16 p0.fQuestion.fClass,.bool p0.fGood,.slice Ap0_0 p0.fEntries.length cp0_0,.int .i64 p0.fNote.fKind,.int .i64 p0.fNote.fFrom,.int .i64 p0.fNote.fTo,.int .i64 p0.fNote.fTerm,.int .i64 p0.fNote.fIndex,.int .i64 p0.fNote.fLogTerm,.int .i64 p0.fNote.fCommit,.bool p0.fNote.fGood,.slice Ap0_1 p0.fNote.fEntries.length cp0_1,.slice Ap0_2 p0.fNote.fVoters.length cp0_2,.string p0.fNote.fSnap,.string p0.fText]] ⟨w0,M,H,R,φ⟩ (fun x : Option Addr×Nat×List GCachedP×Option Addr×Nat×Option Addr×Nat=>.agg #[.int .i64 r.fKind,.int .i64 r.fSerial,.int .i64 r.fEpoch,.string r.fQuestion.fName,.int .u16 r.fQuestion.fType,.int .u16 r.fQuestion.fClass,.bool r.fGood,.slice x.1 r.fEntries.length x.2.1,.int .i64 r.fNote.fKind,.int .i64 r.fNote.fFrom,.int .i64 r.fNote.fTo,.int .i64 r.fNote.fTerm,.int .i64 r.fNote.fIndex,.int .i64 r.fNote.fLogTerm,.int .i64 r.fNote.fCommit,.bool r.fNote.fGood,.slice x.2.2.2.1 r.fNote.fEntries.length x.2.2.2.2.1,.slice x.2.2.2.2.2.1 r.fNote.fVoters.length x.2.2.2.2.2.2,.string r.fNote.fSnap,.string r.fText]) (fun x=>(DOk GCached.capP r.fEntries x.2.2.1∧r.fEntries.length ≤ x.2.1)∧r.fNote.fEntries.length ≤ x.2.2.2.2.1∧r.fNote.fVoters.length ≤ x.2.2.2.2.2.2) (fun x=>⟨w0,M,H,R,fun W=>φ W∧Cl W x.1 ((r.fEntries.zip x.2.2.1).flatMap GCached.encP)∧DOwn GCached.ownP r.fEntries x.2.2.1 W∧Cl W x.2.2.2.1 (r.fNote.fEntries.flatMap GEntry.enc)∧Cl W x.2.2.2.2.2.1 (r.fNote.fVoters.flatMap (fun x : Int=>[Value.int .i64 x]))⟩):=by
 unfold m_law20_small at hm
 refine cn_intro (fn:=Try.f8) (N:=125) Try.func8 rfl Try.ntmps8 rfl<|c_seq<|c_region ?_
 refine g_e rfl (e_box 100010 rfl) (fun g1 _=>?_)
 refine g_e rfl (e_alloc 100020 Try.zeroValue31) (fun g2 _=>?_)
 refine g_nil<|d_then<|c_seq<|c_region<|g_v rfl (r_field (n:=3) Try.underlying31 rfl Try.sizeOf24 rfl rfl)<|g_v rfl (r_field (n:=3) Try.underlying24 rfl Try.sizeOf9 rfl rfl)<|g_v rfl (r_load (tag:=100010) rfl rfl rfl Try.isAgg9) ?_
 replace hm:=bnd hm
 obtain ⟨x3,hx4,hm⟩:=hm
 refine g_cn ⟨w0,M,_,_,φ⟩ (fun _ h=>h) Try.call16 rfl rfl (c_law20_short p0.fQuestion.fName 300 _ hx4) (fun _ _=>?_)
 refine g_v rfl (r_field (n:=3) Try.underlying31 rfl Try.sizeOf24 rfl rfl)<|g_v rfl (r_field (n:=3) Try.underlying24 rfl Try.sizeOf9 rfl rfl)<|g_storeL (tag:=100010) rfl rfl rfl rfl Try.sizeOf9 rfl rfl<|g_nil<|d_then ?_
 refine c_flat [(1,.pointer (some ⟨g1,0,none⟩)),(2,.pointer (some ⟨g2,0,none⟩))] ⟨rfl,rfl,trivial⟩ (fun u=>?_)
 refine c_sta ⟨w0,M,(100020,g2,.cells #[.int .i64 0,.int .i64 0,.int .i64 0,.string (⟨#[]⟩ : ByteArray),.int .u16 0,.int .u16 0,.bool false,.slice none 0 0,.int .i64 0,.int .i64 0,.int .i64 0,.int .i64 0,.int .i64 0,.int .i64 0,.int .i64 0,.bool false,.slice none 0 0,.slice none 0 0,.string (⟨#[]⟩ : ByteArray),.string (⟨#[]⟩ : ByteArray)] 31 (0,0))::(100010,g1,.cells #[.int .i64 p0.fKind,.int .i64 p0.fSerial,.int .i64 p0.fEpoch,.string x3,.int .u16 p0.fQuestion.fType,.int .u16 p0.fQuestion.fClass,.bool p0.fGood,.slice Ap0_0 p0.fEntries.length cp0_0,.int .i64 p0.fNote.fKind,.int .i64 p0.fNote.fFrom,.int .i64 p0.fNote.fTo,.int .i64 p0.fNote.fTerm,.int .i64 p0.fNote.fIndex,.int .i64 p0.fNote.fLogTerm,.int .i64 p0.fNote.fCommit,.bool p0.fNote.fGood,.slice Ap0_1 p0.fNote.fEntries.length cp0_1,.slice Ap0_2 p0.fNote.fVoters.length cp0_2,.string p0.fNote.fSnap,.string p0.fText] 31 (0,0))::H,R,φ⟩ (fun _ h=>h)<|c_seq<|c_region<|g_v rfl (r_field (n:=19) Try.underlying31 rfl Try.sizeOf9 rfl rfl)<|g_v rfl (r_load (tag:=100010) rfl rfl rfl Try.isAgg9) ?_
 replace hm:=bnd hm
 obtain ⟨x5,hx6,hm⟩:=hm
 refine g_cn ⟨w0,M,_,_,φ⟩ (fun _ h=>h) Try.call16 rfl rfl (c_law20_short p0.fText 9000 _ hx6) (fun _ _=>?_)
 refine g_v rfl (r_field (n:=19) Try.underlying31 rfl Try.sizeOf9 rfl rfl)<|g_storeL (tag:=100010) rfl rfl rfl rfl Try.sizeOf9 rfl rfl<|g_nil<|d_then<|c_seq<|c_region<|g_v rfl r_assign<|g_nil<|d_then<|c_seq ?_
 refine c_sta _ (fun W h=>nilR h 22 41 9) ?_
 refine c_cut (ι:=(List GCached)×Option Addr×Nat×List GCachedP) [1,2,3] (fun ⟨l667,A668,c669,ps670⟩=>[(3,.slice A668 l667.length c669)]) (fun ⟨l667,A668,c669,ps670⟩=>⟨w0,M,(100020,g2,.cells #[.int .i64 0,.int .i64 0,.int .i64 0,.string (⟨#[]⟩ : ByteArray),.int .u16 0,.int .u16 0,.bool false,.slice none 0 0,.int .i64 0,.int .i64 0,.int .i64 0,.int .i64 0,.int .i64 0,.int .i64 0,.int .i64 0,.bool false,.slice none 0 0,.slice none 0 0,.string (⟨#[]⟩ : ByteArray),.string (⟨#[]⟩ : ByteArray)] 31 (0,0))::(100010,g1,.cells #[.int .i64 p0.fKind,.int .i64 p0.fSerial,.int .i64 p0.fEpoch,.string x3,.int .u16 p0.fQuestion.fType,.int .u16 p0.fQuestion.fClass,.bool p0.fGood,.slice Ap0_0 p0.fEntries.length cp0_0,.int .i64 p0.fNote.fKind,.int .i64 p0.fNote.fFrom,.int .i64 p0.fNote.fTo,.int .i64 p0.fNote.fTerm,.int .i64 p0.fNote.fIndex,.int .i64 p0.fNote.fLogTerm,.int .i64 p0.fNote.fCommit,.bool p0.fNote.fGood,.slice Ap0_1 p0.fNote.fEntries.length cp0_1,.slice Ap0_2 p0.fNote.fVoters.length cp0_2,.string p0.fNote.fSnap,.string x5] 31 (0,0))::H,(22,⟨.slice A668 l667.length c669,41,9,l667.length,(l667.zip ps670).flatMap GCached.encP⟩)::R,fun W=>φ W∧DOwn GCached.ownP l667 ps670 W⟩) (fun ⟨l667,A668,c669,ps670⟩=>m_law20_small_j1 p0 x3 x5 l667 = some r∧(DOk GCached.capP l667 ps670∧l667.length ≤ c669)) ?_ (fun ⟨l667,A668,c669,ps670⟩ u ⟨hm,hc669⟩=>?_)
 ·
  refine c_seq<|c_region<|g_v rfl r_assign<|g_nil<|d_then<|c_block ?_
  replace hm:=bnd hm
  obtain ⟨out5,hl5,hr5⟩:=hm
  obtain ⟨n1100',hl5⟩:=loop_lp hl5
  refine c_loopU (ι:=Nat×(List GCached)×Int×Option Addr×Nat×List GCachedP) [1,2,3,4] (fun ⟨n1100,l963,i968,A964,c965,ps966⟩=>[(3,.slice A964 l963.length c965),(4,.int .i64 i968)]) (fun ⟨n1100,l963,i968,A964,c965,ps966⟩=>⟨w0,M,(100020,g2,.cells #[.int .i64 0,.int .i64 0,.int .i64 0,.string (⟨#[]⟩ : ByteArray),.int .u16 0,.int .u16 0,.bool false,.slice none 0 0,.int .i64 0,.int .i64 0,.int .i64 0,.int .i64 0,.int .i64 0,.int .i64 0,.int .i64 0,.bool false,.slice none 0 0,.slice none 0 0,.string (⟨#[]⟩ : ByteArray),.string (⟨#[]⟩ : ByteArray)] 31 (0,0))::(100010,g1,.cells #[.int .i64 p0.fKind,.int .i64 p0.fSerial,.int .i64 p0.fEpoch,.string x3,.int .u16 p0.fQuestion.fType,.int .u16 p0.fQuestion.fClass,.bool p0.fGood,.slice Ap0_0 p0.fEntries.length cp0_0,.int .i64 p0.fNote.fKind,.int .i64 p0.fNote.fFrom,.int .i64 p0.fNote.fTo,.int .i64 p0.fNote.fTerm,.int .i64 p0.fNote.fIndex,.int .i64 p0.fNote.fLogTerm,.int .i64 p0.fNote.fCommit,.bool p0.fNote.fGood,.slice Ap0_1 p0.fNote.fEntries.length cp0_1,.slice Ap0_2 p0.fNote.fVoters.length cp0_2,.string p0.fNote.fSnap,.string x5] 31 (0,0))::H,(22,⟨.slice A964 l963.length c965,41,9,l963.length,(l963.zip ps966).flatMap GCached.encP⟩)::R,fun W=>φ W∧DOwn GCached.ownP l963 ps966 W⟩) (fun ⟨n1100,l963,i968,A964,c965,ps966⟩=>Lp (fun s=>m_law20_small_s5 p0 s.1 s.2) n1100 (l963,i968) out5∧(DOk GCached.capP l963 ps966∧l963.length ≤ c965)) (fun ⟨n1100,l963,i968,A964,c965,ps966⟩=>n1100) (n1100',([] : List GCached),0,none,0,([] : List GCachedP)) ⟨hl5,⟨DOk.nil,(Nat.le_refl 0)⟩⟩ ⟨rfl,rfl,rfl,rfl,trivial⟩ (fun W h=>h.phi (fun W hφ=>⟨hφ,(fun W h=>DOwn.nil) W hφ⟩)) (fun ⟨n1100,l963,i968,A964,c965,ps966⟩ u ⟨hlp,hc965⟩=>?_)
  obtain ⟨o5,hm,hnx5⟩:=lp_step hlp
  clear hlp
  replace hm : m_law20_small_s5 p0 l963 i968 = some o5:=hm
  unfold m_law20_small_s5 at hm
  refine c_abs (fun φ1101 q1101'=>?_)
  have q1101 : ∀ W,φ1101 W→φ W:=fun W h=>(q1101' W h).1
  have f967:=fun (W : World) (h : φ1101 W)=>(q1101' W h).2
  refine c_flat [(1,.pointer (some ⟨g1,0,none⟩)),(2,.pointer (some ⟨g2,0,none⟩)),(3,.slice A964 l963.length c965),(4,.int .i64 i968)] ⟨rfl,rfl,rfl,rfl,trivial⟩ (fun u=>?_)
  refine c_sta ⟨w0,M,(100020,g2,.cells #[.int .i64 0,.int .i64 0,.int .i64 0,.string (⟨#[]⟩ : ByteArray),.int .u16 0,.int .u16 0,.bool false,.slice none 0 0,.int .i64 0,.int .i64 0,.int .i64 0,.int .i64 0,.int .i64 0,.int .i64 0,.int .i64 0,.bool false,.slice none 0 0,.slice none 0 0,.string (⟨#[]⟩ : ByteArray),.string (⟨#[]⟩ : ByteArray)] 31 (0,0))::(100010,g1,.cells #[.int .i64 p0.fKind,.int .i64 p0.fSerial,.int .i64 p0.fEpoch,.string x3,.int .u16 p0.fQuestion.fType,.int .u16 p0.fQuestion.fClass,.bool p0.fGood,.slice Ap0_0 p0.fEntries.length cp0_0,.int .i64 p0.fNote.fKind,.int .i64 p0.fNote.fFrom,.int .i64 p0.fNote.fTo,.int .i64 p0.fNote.fTerm,.int .i64 p0.fNote.fIndex,.int .i64 p0.fNote.fLogTerm,.int .i64 p0.fNote.fCommit,.bool p0.fNote.fGood,.slice Ap0_1 p0.fNote.fEntries.length cp0_1,.slice Ap0_2 p0.fNote.fVoters.length cp0_2,.string p0.fNote.fSnap,.string x5] 31 (0,0))::H,(22,⟨.slice A964 l963.length c965,41,9,l963.length,(l963.zip ps966).flatMap GCached.encP⟩)::R,φ1101⟩ (fun _ h=>h)<|c_seq<|c_seq<|c_region<|g_v rfl r_move<|g_v rfl (r_field (n:=7) Try.underlying31 rfl Try.sizeOf25 rfl rfl)<|g_v rfl (r_load (tag:=100010) rfl rfl rfl Try.isAgg25)<|g_v rfl (r_lenL Try.underlying25 rfl)<|g_v rfl (r_lss rfl rfl)<|g_v rfl r_move ?_
  refine g_if rfl rfl rfl rfl rfl (fun h1102=>?_) (fun h1102=>?_)
  ·
   replace hm:=ite_t hm (of_decide_eq_true h1102)
   refine g_v rfl r_move<|g_do rfl rfl rfl rfl rfl h1102<|g_v rfl (r_lss rfl rfl)<|g_v rfl (r_pick1 rfl h1102)<|g_nil<|d_then ?_
   refine c_flat [(1,.pointer (some ⟨g1,0,none⟩)),(2,.pointer (some ⟨g2,0,none⟩)),(3,.slice A964 l963.length c965),(4,.int .i64 i968),(30,.bool (decide (i968 < 45)))] ⟨rfl,rfl,rfl,rfl,rfl,trivial⟩ (fun u=>?_)
   refine c_cond rfl (fun h1103=>?_) (fun h1103=>?_)
   ·
    replace hm:=ite_t hm (of_decide_eq_true h1103)
    refine c_skip<|d_then<|c_seq<|c_block<|c_seq<|c_region<|g_v rfl (r_field (n:=7) Try.underlying31 rfl Try.sizeOf25 rfl rfl)<|g_v rfl (r_load (tag:=100010) rfl rfl rfl Try.isAgg25)<|g_v rfl r_move ?_
    replace hm:=bnd hm
    obtain ⟨x1104,hx1104,hm⟩:=hm
    obtain ⟨pp1108,hv1109,hz1110,hcp1111⟩:=DOk.at_ hcp0_0.1 hx1104
    refine g_know _ (fun W hS=>cl_at (p:=(Sta.mk w0 M H R φ).ok) (sz:=9) (fun _=>rfl) (by decide) (ok_pre (H1:=[_,_]) (R1:=[_]) hS (fun W h=>(q1101 _ h))) fp0_0 hv1109) ?_
    rintro ⟨ad1105,hA1107,f1106⟩
    have f1112:=fun (W : World) (h : (Sta.mk w0 M H R φ).ok W)=>(fop0_0 W h _ hz1110)
    refine g_v rfl (r_ix Try.underlying25 Try.sizeOf41 rfl hA1107 rfl hx1104)<|g_v rfl (r_ldA rfl Try.isAgg41 Try.sizeOf41 (fun W hS=>(f1106 W (ok_pre (H1:=[_,_]) (R1:=[_]) hS (fun W h=>(q1101 _ h)))).take 9) rfl) ?_
    refine g_e rfl (e_alloc 100050 Try.zeroValue41) (fun g1113 _=>?_)
    refine g_storeL (tag:=100050) rfl rfl rfl rfl Try.sizeOf41 rfl rfl<|g_nil<|d_then<|c_seq<|c_region<|g_v rfl (r_field (n:=1) Try.underlying41 rfl Try.sizeOf9 rfl rfl)<|g_v rfl (r_load (tag:=100050) rfl rfl rfl Try.isAgg9) ?_
    replace hm:=bnd hm
    obtain ⟨x1114,hx1115,hm⟩:=hm
    refine g_cn ⟨w0,M,_,_,φ1101⟩ (fun _ h=>h) Try.call16 rfl rfl (c_law20_short x1104.fName 300 _ hx1115) (fun _ _=>?_)
    refine g_v rfl (r_field (n:=1) Try.underlying41 rfl Try.sizeOf9 rfl rfl)<|g_storeL (tag:=100050) rfl rfl rfl rfl Try.sizeOf9 rfl rfl<|g_nil<|d_then ?_
    refine c_flat [(1,.pointer (some ⟨g1,0,none⟩)),(2,.pointer (some ⟨g2,0,none⟩)),(3,.slice A964 l963.length c965),(4,.int .i64 i968),(5,.pointer (some ⟨g1113,0,none⟩))] ⟨rfl,rfl,rfl,rfl,rfl,trivial⟩ (fun u=>?_)
    refine c_sta ⟨w0,M,(100050,g1113,.cells #[.int .i64 x1104.fKind,.string x1114,.int .u16 x1104.fType,.int .u16 x1104.fClass,.slice pp1108.pA0 x1104.fRecords.length pp1108.pC0,.int .i64 x1104.fUntil,.int .i64 x1104.fRank,.int .i64 x1104.fEpoch,.int .i64 x1104.fSource] 41 (0,0))::(100020,g2,.cells #[.int .i64 0,.int .i64 0,.int .i64 0,.string (⟨#[]⟩ : ByteArray),.int .u16 0,.int .u16 0,.bool false,.slice none 0 0,.int .i64 0,.int .i64 0,.int .i64 0,.int .i64 0,.int .i64 0,.int .i64 0,.int .i64 0,.bool false,.slice none 0 0,.slice none 0 0,.string (⟨#[]⟩ : ByteArray),.string (⟨#[]⟩ : ByteArray)] 31 (0,0))::(100010,g1,.cells #[.int .i64 p0.fKind,.int .i64 p0.fSerial,.int .i64 p0.fEpoch,.string x3,.int .u16 p0.fQuestion.fType,.int .u16 p0.fQuestion.fClass,.bool p0.fGood,.slice Ap0_0 p0.fEntries.length cp0_0,.int .i64 p0.fNote.fKind,.int .i64 p0.fNote.fFrom,.int .i64 p0.fNote.fTo,.int .i64 p0.fNote.fTerm,.int .i64 p0.fNote.fIndex,.int .i64 p0.fNote.fLogTerm,.int .i64 p0.fNote.fCommit,.bool p0.fNote.fGood,.slice Ap0_1 p0.fNote.fEntries.length cp0_1,.slice Ap0_2 p0.fNote.fVoters.length cp0_2,.string p0.fNote.fSnap,.string x5] 31 (0,0))::H,(22,⟨.slice A964 l963.length c965,41,9,l963.length,(l963.zip ps966).flatMap GCached.encP⟩)::R,φ1101⟩ (fun _ h=>h)<|c_seq<|c_region<|g_v rfl r_assign<|g_nil<|d_then<|c_seq<|c_sta _ (fun W h=>nilR h 40 54 5) ?_
    refine c_cut (ι:=(List GRR)×Option Addr×Nat) [1,2,3,4,5,6] (fun ⟨l1214,A1215,c1216⟩=>[(6,.slice A1215 l1214.length c1216)]) (fun ⟨l1214,A1215,c1216⟩=>⟨w0,M,(100050,g1113,.cells #[.int .i64 x1104.fKind,.string x1114,.int .u16 x1104.fType,.int .u16 x1104.fClass,.slice pp1108.pA0 x1104.fRecords.length pp1108.pC0,.int .i64 x1104.fUntil,.int .i64 x1104.fRank,.int .i64 x1104.fEpoch,.int .i64 x1104.fSource] 41 (0,0))::(100020,g2,.cells #[.int .i64 0,.int .i64 0,.int .i64 0,.string (⟨#[]⟩ : ByteArray),.int .u16 0,.int .u16 0,.bool false,.slice none 0 0,.int .i64 0,.int .i64 0,.int .i64 0,.int .i64 0,.int .i64 0,.int .i64 0,.int .i64 0,.bool false,.slice none 0 0,.slice none 0 0,.string (⟨#[]⟩ : ByteArray),.string (⟨#[]⟩ : ByteArray)] 31 (0,0))::(100010,g1,.cells #[.int .i64 p0.fKind,.int .i64 p0.fSerial,.int .i64 p0.fEpoch,.string x3,.int .u16 p0.fQuestion.fType,.int .u16 p0.fQuestion.fClass,.bool p0.fGood,.slice Ap0_0 p0.fEntries.length cp0_0,.int .i64 p0.fNote.fKind,.int .i64 p0.fNote.fFrom,.int .i64 p0.fNote.fTo,.int .i64 p0.fNote.fTerm,.int .i64 p0.fNote.fIndex,.int .i64 p0.fNote.fLogTerm,.int .i64 p0.fNote.fCommit,.bool p0.fNote.fGood,.slice Ap0_1 p0.fNote.fEntries.length cp0_1,.slice Ap0_2 p0.fNote.fVoters.length cp0_2,.string p0.fNote.fSnap,.string x5] 31 (0,0))::H,(40,⟨.slice A1215 l1214.length c1216,54,5,l1214.length,l1214.flatMap GRR.enc⟩)::(22,⟨.slice A964 l963.length c965,41,9,l963.length,(l963.zip ps966).flatMap GCached.encP⟩)::R,φ1101⟩) (fun ⟨l1214,A1215,c1216⟩=>m_law20_small_j6 l963 x1104 x1114 i968 l1214 = some o5∧l1214.length ≤ c1216) ?_ (fun ⟨l1214,A1215,c1216⟩ u ⟨hm,hc1216⟩=>?_)
    ·
     refine c_seq<|c_region<|g_v rfl r_assign<|g_nil<|d_then<|c_block ?_
     replace hm:=bnd hm
     obtain ⟨out7,hl7,hr7⟩:=hm
     obtain ⟨n1269',hl7⟩:=loop_lp hl7
     refine c_loopU (ι:=Nat×(List GRR)×Int×Option Addr×Nat) [1,2,3,4,5,6,7] (fun ⟨n1269,l1246,i1249,A1247,c1248⟩=>[(6,.slice A1247 l1246.length c1248),(7,.int .i64 i1249)]) (fun ⟨n1269,l1246,i1249,A1247,c1248⟩=>⟨w0,M,(100050,g1113,.cells #[.int .i64 x1104.fKind,.string x1114,.int .u16 x1104.fType,.int .u16 x1104.fClass,.slice pp1108.pA0 x1104.fRecords.length pp1108.pC0,.int .i64 x1104.fUntil,.int .i64 x1104.fRank,.int .i64 x1104.fEpoch,.int .i64 x1104.fSource] 41 (0,0))::(100020,g2,.cells #[.int .i64 0,.int .i64 0,.int .i64 0,.string (⟨#[]⟩ : ByteArray),.int .u16 0,.int .u16 0,.bool false,.slice none 0 0,.int .i64 0,.int .i64 0,.int .i64 0,.int .i64 0,.int .i64 0,.int .i64 0,.int .i64 0,.bool false,.slice none 0 0,.slice none 0 0,.string (⟨#[]⟩ : ByteArray),.string (⟨#[]⟩ : ByteArray)] 31 (0,0))::(100010,g1,.cells #[.int .i64 p0.fKind,.int .i64 p0.fSerial,.int .i64 p0.fEpoch,.string x3,.int .u16 p0.fQuestion.fType,.int .u16 p0.fQuestion.fClass,.bool p0.fGood,.slice Ap0_0 p0.fEntries.length cp0_0,.int .i64 p0.fNote.fKind,.int .i64 p0.fNote.fFrom,.int .i64 p0.fNote.fTo,.int .i64 p0.fNote.fTerm,.int .i64 p0.fNote.fIndex,.int .i64 p0.fNote.fLogTerm,.int .i64 p0.fNote.fCommit,.bool p0.fNote.fGood,.slice Ap0_1 p0.fNote.fEntries.length cp0_1,.slice Ap0_2 p0.fNote.fVoters.length cp0_2,.string p0.fNote.fSnap,.string x5] 31 (0,0))::H,(40,⟨.slice A1247 l1246.length c1248,54,5,l1246.length,l1246.flatMap GRR.enc⟩)::(22,⟨.slice A964 l963.length c965,41,9,l963.length,(l963.zip ps966).flatMap GCached.encP⟩)::R,φ1101⟩) (fun ⟨n1269,l1246,i1249,A1247,c1248⟩=>Lp (fun s=>m_law20_small_s7 x1104 s.1 s.2) n1269 (l1246,i1249) out7∧l1246.length ≤ c1248) (fun ⟨n1269,l1246,i1249,A1247,c1248⟩=>n1269) (n1269',([] : List GRR),0,none,0) ⟨hl7,(Nat.le_refl 0)⟩ ⟨rfl,rfl,rfl,rfl,rfl,rfl,rfl,trivial⟩ (fun W h=>h.phi (fun W hφ=>hφ)) (fun ⟨n1269,l1246,i1249,A1247,c1248⟩ u ⟨hlp,hc1248⟩=>?_)
     obtain ⟨o7,hm,hnx7⟩:=lp_step hlp
     clear hlp
     replace hm : m_law20_small_s7 x1104 l1246 i1249 = some o7:=hm
     unfold m_law20_small_s7 at hm
     refine c_flat [(1,.pointer (some ⟨g1,0,none⟩)),(2,.pointer (some ⟨g2,0,none⟩)),(3,.slice A964 l963.length c965),(4,.int .i64 i968),(5,.pointer (some ⟨g1113,0,none⟩)),(6,.slice A1247 l1246.length c1248),(7,.int .i64 i1249)] ⟨rfl,rfl,rfl,rfl,rfl,rfl,rfl,trivial⟩ (fun u=>?_)
     refine c_sta ⟨w0,M,(100050,g1113,.cells #[.int .i64 x1104.fKind,.string x1114,.int .u16 x1104.fType,.int .u16 x1104.fClass,.slice pp1108.pA0 x1104.fRecords.length pp1108.pC0,.int .i64 x1104.fUntil,.int .i64 x1104.fRank,.int .i64 x1104.fEpoch,.int .i64 x1104.fSource] 41 (0,0))::(100020,g2,.cells #[.int .i64 0,.int .i64 0,.int .i64 0,.string (⟨#[]⟩ : ByteArray),.int .u16 0,.int .u16 0,.bool false,.slice none 0 0,.int .i64 0,.int .i64 0,.int .i64 0,.int .i64 0,.int .i64 0,.int .i64 0,.int .i64 0,.bool false,.slice none 0 0,.slice none 0 0,.string (⟨#[]⟩ : ByteArray),.string (⟨#[]⟩ : ByteArray)] 31 (0,0))::(100010,g1,.cells #[.int .i64 p0.fKind,.int .i64 p0.fSerial,.int .i64 p0.fEpoch,.string x3,.int .u16 p0.fQuestion.fType,.int .u16 p0.fQuestion.fClass,.bool p0.fGood,.slice Ap0_0 p0.fEntries.length cp0_0,.int .i64 p0.fNote.fKind,.int .i64 p0.fNote.fFrom,.int .i64 p0.fNote.fTo,.int .i64 p0.fNote.fTerm,.int .i64 p0.fNote.fIndex,.int .i64 p0.fNote.fLogTerm,.int .i64 p0.fNote.fCommit,.bool p0.fNote.fGood,.slice Ap0_1 p0.fNote.fEntries.length cp0_1,.slice Ap0_2 p0.fNote.fVoters.length cp0_2,.string p0.fNote.fSnap,.string x5] 31 (0,0))::H,(40,⟨.slice A1247 l1246.length c1248,54,5,l1246.length,l1246.flatMap GRR.enc⟩)::(22,⟨.slice A964 l963.length c965,41,9,l963.length,(l963.zip ps966).flatMap GCached.encP⟩)::R,φ1101⟩ (fun _ h=>h)<|c_seq<|c_seq<|c_region<|g_v rfl r_move<|g_v rfl (r_field (n:=4) Try.underlying41 rfl Try.sizeOf39 rfl rfl)<|g_v rfl (r_load (tag:=100050) rfl rfl rfl Try.isAgg39)<|g_v rfl (r_lenL Try.underlying39 rfl)<|g_v rfl (r_lss rfl rfl)<|g_v rfl r_move ?_
     refine g_if rfl rfl rfl rfl rfl (fun h1270=>?_) (fun h1270=>?_)
     ·
      replace hm:=ite_t hm (of_decide_eq_true h1270)
      refine g_v rfl r_move<|g_do rfl rfl rfl rfl rfl h1270<|g_v rfl (r_lss rfl rfl)<|g_v rfl (r_pick1 rfl h1270)<|g_nil<|d_then ?_
      refine c_flat [(1,.pointer (some ⟨g1,0,none⟩)),(2,.pointer (some ⟨g2,0,none⟩)),(3,.slice A964 l963.length c965),(4,.int .i64 i968),(5,.pointer (some ⟨g1113,0,none⟩)),(6,.slice A1247 l1246.length c1248),(7,.int .i64 i1249),(50,.bool (decide (i1249 < 5)))] ⟨rfl,rfl,rfl,rfl,rfl,rfl,rfl,rfl,trivial⟩ (fun u=>?_)
      refine c_cond rfl (fun h1271=>?_) (fun h1271=>?_)
      ·
       replace hm:=ite_t hm (of_decide_eq_true h1271)
       refine c_skip<|d_then<|c_seq<|c_block<|c_seq<|c_region<|g_v rfl (r_field (n:=4) Try.underlying41 rfl Try.sizeOf39 rfl rfl)<|g_v rfl (r_load (tag:=100050) rfl rfl rfl Try.isAgg39)<|g_v rfl r_move ?_
       replace hm:=bnd hm
       obtain ⟨x1272,hx1272,hm⟩:=hm
       refine g_know _ (fun W hS=>cl_at (p:=(Sta.mk w0 M H R φ).ok) (sz:=5) (fun _=>rfl) (by decide) (ok_pre (H1:=[_,_,_]) (R1:=[_,_]) hS (fun W h=>(q1101 _ h))) f1112 hx1272) ?_
       rintro ⟨ad1273,hA1275,f1274⟩
       refine g_v rfl (r_ix Try.underlying39 Try.sizeOf54 rfl hA1275 rfl hx1272)<|g_v rfl (r_ldA rfl Try.isAgg54 Try.sizeOf54 (fun W hS=>(f1274 W (ok_pre (H1:=[_,_,_]) (R1:=[_,_]) hS (fun W h=>(q1101 _ h)))).take 5) rfl) ?_
       refine g_e rfl (e_alloc 100080 Try.zeroValue54) (fun g1276 _=>?_)
       refine g_storeL (tag:=100080) rfl rfl rfl rfl Try.sizeOf54 rfl rfl<|g_nil<|d_then<|c_seq<|c_region<|g_v rfl (r_field (n:=0) Try.underlying54 rfl Try.sizeOf9 rfl rfl)<|g_v rfl (r_load (tag:=100080) rfl rfl rfl Try.isAgg9) ?_
       replace hm:=bnd hm
       obtain ⟨x1277,hx1278,hm⟩:=hm
       refine g_cn ⟨w0,M,_,_,φ1101⟩ (fun _ h=>h) Try.call16 rfl rfl (c_law20_short x1272.fName 300 _ hx1278) (fun _ _=>?_)
       refine g_v rfl (r_field (n:=0) Try.underlying54 rfl Try.sizeOf9 rfl rfl)<|g_storeL (tag:=100080) rfl rfl rfl rfl Try.sizeOf9 rfl rfl<|g_nil<|d_then ?_
       refine c_flat [(1,.pointer (some ⟨g1,0,none⟩)),(2,.pointer (some ⟨g2,0,none⟩)),(3,.slice A964 l963.length c965),(4,.int .i64 i968),(5,.pointer (some ⟨g1113,0,none⟩)),(6,.slice A1247 l1246.length c1248),(7,.int .i64 i1249),(8,.pointer (some ⟨g1276,0,none⟩))] ⟨rfl,rfl,rfl,rfl,rfl,rfl,rfl,rfl,trivial⟩ (fun u=>?_)
       refine c_sta ⟨w0,M,(100080,g1276,.cells #[.string x1277,.int .u16 x1272.fType,.int .u16 x1272.fClass,.int .u32 x1272.fTTL,.string x1272.fData] 54 (0,0))::(100050,g1113,.cells #[.int .i64 x1104.fKind,.string x1114,.int .u16 x1104.fType,.int .u16 x1104.fClass,.slice pp1108.pA0 x1104.fRecords.length pp1108.pC0,.int .i64 x1104.fUntil,.int .i64 x1104.fRank,.int .i64 x1104.fEpoch,.int .i64 x1104.fSource] 41 (0,0))::(100020,g2,.cells #[.int .i64 0,.int .i64 0,.int .i64 0,.string (⟨#[]⟩ : ByteArray),.int .u16 0,.int .u16 0,.bool false,.slice none 0 0,.int .i64 0,.int .i64 0,.int .i64 0,.int .i64 0,.int .i64 0,.int .i64 0,.int .i64 0,.bool false,.slice none 0 0,.slice none 0 0,.string (⟨#[]⟩ : ByteArray),.string (⟨#[]⟩ : ByteArray)] 31 (0,0))::(100010,g1,.cells #[.int .i64 p0.fKind,.int .i64 p0.fSerial,.int .i64 p0.fEpoch,.string x3,.int .u16 p0.fQuestion.fType,.int .u16 p0.fQuestion.fClass,.bool p0.fGood,.slice Ap0_0 p0.fEntries.length cp0_0,.int .i64 p0.fNote.fKind,.int .i64 p0.fNote.fFrom,.int .i64 p0.fNote.fTo,.int .i64 p0.fNote.fTerm,.int .i64 p0.fNote.fIndex,.int .i64 p0.fNote.fLogTerm,.int .i64 p0.fNote.fCommit,.bool p0.fNote.fGood,.slice Ap0_1 p0.fNote.fEntries.length cp0_1,.slice Ap0_2 p0.fNote.fVoters.length cp0_2,.string p0.fNote.fSnap,.string x5] 31 (0,0))::H,(40,⟨.slice A1247 l1246.length c1248,54,5,l1246.length,l1246.flatMap GRR.enc⟩)::(22,⟨.slice A964 l963.length c965,41,9,l963.length,(l963.zip ps966).flatMap GCached.encP⟩)::R,φ1101⟩ (fun _ h=>h)<|c_seq<|c_region<|g_v rfl (r_field (n:=4) Try.underlying54 rfl Try.sizeOf9 rfl rfl)<|g_v rfl (r_load (tag:=100080) rfl rfl rfl Try.isAgg9) ?_
       replace hm:=bnd hm
       obtain ⟨x1279,hx1280,hm⟩:=hm
       refine g_cn ⟨w0,M,_,_,φ1101⟩ (fun _ h=>h) Try.call16 rfl rfl (c_law20_short x1272.fData 600 _ hx1280) (fun _ _=>?_)
       refine g_v rfl (r_field (n:=4) Try.underlying54 rfl Try.sizeOf9 rfl rfl)<|g_storeL (tag:=100080) rfl rfl rfl rfl Try.sizeOf9 rfl rfl<|g_nil<|d_then<|c_region<|g_v rfl r_move<|g_v rfl (r_loadA (tag:=100080) rfl rfl Try.isAgg54 Try.sizeOf54 rfl rfl) ?_
       refine g_e rfl (e_lit (tag:=100680) (l:=[(⟨x1277,x1272.fType,x1272.fClass,x1272.fTTL,x1279⟩ : GRR)]) (enc:=GRR.enc) (sz:=5) rfl Try.underlying39 (lit54_25 _ _ _ _ _) rfl rfl (fun _=>rfl)) (fun g1281 _=>?_)
       replace hm:=bnd hm
       obtain ⟨l1282,hl1282,hm⟩:=hm
       refine g_e rfl (e_appR (enc:=GRR.enc) (l:=l1246) (l1:=[(⟨x1277,x1272.fType,x1272.fClass,x1272.fTTL,x1279⟩ : GRR)]) (l2:=l1282) (tag:=40) Try.underlying39 inf54_31 rfl (by decide) (by decide) (fun _=>rfl) (fun _=>rfl) rfl hc1248 rfl rfl (fun W hS=>rowCl (tag:=100680) rfl W hS) hl1282) (fun ⟨A1283,c1284⟩ hc1284=>?_)
       refine g_v rfl r_assign<|g_nil<|d_normal_block<|d_then ?_
       refine c_flat [(1,.pointer (some ⟨g1,0,none⟩)),(2,.pointer (some ⟨g2,0,none⟩)),(3,.slice A964 l963.length c965),(4,.int .i64 i968),(5,.pointer (some ⟨g1113,0,none⟩)),(6,.slice A1283 l1282.length c1284),(7,.int .i64 i1249)] ⟨rfl,rfl,rfl,rfl,rfl,rfl,rfl,trivial⟩ (fun u=>?_)
       refine c_sta ⟨w0,M,(100080,g1276,.cells #[.string x1277,.int .u16 x1272.fType,.int .u16 x1272.fClass,.int .u32 x1272.fTTL,.string x1279] 54 (0,0))::(100050,g1113,.cells #[.int .i64 x1104.fKind,.string x1114,.int .u16 x1104.fType,.int .u16 x1104.fClass,.slice pp1108.pA0 x1104.fRecords.length pp1108.pC0,.int .i64 x1104.fUntil,.int .i64 x1104.fRank,.int .i64 x1104.fEpoch,.int .i64 x1104.fSource] 41 (0,0))::(100020,g2,.cells #[.int .i64 0,.int .i64 0,.int .i64 0,.string (⟨#[]⟩ : ByteArray),.int .u16 0,.int .u16 0,.bool false,.slice none 0 0,.int .i64 0,.int .i64 0,.int .i64 0,.int .i64 0,.int .i64 0,.int .i64 0,.int .i64 0,.bool false,.slice none 0 0,.slice none 0 0,.string (⟨#[]⟩ : ByteArray),.string (⟨#[]⟩ : ByteArray)] 31 (0,0))::(100010,g1,.cells #[.int .i64 p0.fKind,.int .i64 p0.fSerial,.int .i64 p0.fEpoch,.string x3,.int .u16 p0.fQuestion.fType,.int .u16 p0.fQuestion.fClass,.bool p0.fGood,.slice Ap0_0 p0.fEntries.length cp0_0,.int .i64 p0.fNote.fKind,.int .i64 p0.fNote.fFrom,.int .i64 p0.fNote.fTo,.int .i64 p0.fNote.fTerm,.int .i64 p0.fNote.fIndex,.int .i64 p0.fNote.fLogTerm,.int .i64 p0.fNote.fCommit,.bool p0.fNote.fGood,.slice Ap0_1 p0.fNote.fEntries.length cp0_1,.slice Ap0_2 p0.fNote.fVoters.length cp0_2,.string p0.fNote.fSnap,.string x5] 31 (0,0))::H,(100680,⟨.slice (some ⟨g1281,0,none⟩) [(⟨x1277,x1272.fType,x1272.fClass,x1272.fTTL,x1279⟩ : GRR)].length 1,54,5,[(⟨x1277,x1272.fType,x1272.fClass,x1272.fTTL,x1279⟩ : GRR)].length,[(⟨x1277,x1272.fType,x1272.fClass,x1272.fTTL,x1279⟩ : GRR)].flatMap GRR.enc⟩)::(40,⟨.slice A1283 l1282.length c1284,54,5,l1282.length,l1282.flatMap GRR.enc⟩)::(22,⟨.slice A964 l963.length c965,41,9,l963.length,(l963.zip ps966).flatMap GCached.encP⟩)::R,φ1101⟩ (fun _ h=>h)<|c_region<|g_v rfl r_move<|g_v rfl (r_add rfl rfl rfl)<|g_v rfl r_assign<|g_nil ?_
       obtain ⟨n1285,hn1285,hlp⟩:=nx_inl hm hnx7
       exact d_round (n1285,l1282,w64 (i1249 + 1),A1283,c1284) ⟨hlp,hc1284⟩ hn1285 ⟨rfl,rfl,rfl,rfl,rfl,rfl,rfl,trivial⟩ (fun W h=>((h.dropR (t:=100680) rfl).dropH (t:=100080) rfl).phi (fun W hφ=>hφ))
      replace hm:=ite_f hm (of_decide_eq_false h1271)
      refine c_exit<|d_exit_then<|d_exit_then<|d_exit_block ?_
      replace hm:=nx_out (C:=(fun e : (List GRR)=>m_law20_small_j6 l963 x1104 x1114 i968 e = some o5)) hm hnx7 hr7
      exact d_round (l1246,A1247,c1248) ⟨hm,hc1248⟩ Nat.zero_lt_one ⟨rfl,rfl,rfl,rfl,rfl,rfl,trivial⟩ (fun W h=>h.phi (fun W hφ=>hφ))
     replace hm:=ite_f hm (of_decide_eq_false h1270)
     refine g_no rfl rfl rfl rfl rfl h1270<|g_v rfl (r_pick0 rfl h1270)<|g_nil<|d_then<|c_cond0 rfl rfl<|c_exit<|d_exit_then<|d_exit_then<|d_exit_block ?_
     replace hm:=nx_out (C:=(fun e : (List GRR)=>m_law20_small_j6 l963 x1104 x1114 i968 e = some o5)) hm hnx7 hr7
     exact d_round (l1246,A1247,c1248) ⟨hm,hc1248⟩ Nat.zero_lt_one ⟨rfl,rfl,rfl,rfl,rfl,rfl,trivial⟩ (fun W h=>h.phi (fun W hφ=>hφ))
    unfold m_law20_small_j6 at hm
    refine d_flat [(1,.pointer (some ⟨g1,0,none⟩)),(2,.pointer (some ⟨g2,0,none⟩)),(3,.slice A964 l963.length c965),(4,.int .i64 i968),(5,.pointer (some ⟨g1113,0,none⟩)),(6,.slice A1215 l1214.length c1216)] ⟨rfl,rfl,rfl,rfl,rfl,rfl,trivial⟩ (fun u=>?_)
    refine d_sta ⟨w0,M,(100050,g1113,.cells #[.int .i64 x1104.fKind,.string x1114,.int .u16 x1104.fType,.int .u16 x1104.fClass,.slice pp1108.pA0 x1104.fRecords.length pp1108.pC0,.int .i64 x1104.fUntil,.int .i64 x1104.fRank,.int .i64 x1104.fEpoch,.int .i64 x1104.fSource] 41 (0,0))::(100020,g2,.cells #[.int .i64 0,.int .i64 0,.int .i64 0,.string (⟨#[]⟩ : ByteArray),.int .u16 0,.int .u16 0,.bool false,.slice none 0 0,.int .i64 0,.int .i64 0,.int .i64 0,.int .i64 0,.int .i64 0,.int .i64 0,.int .i64 0,.bool false,.slice none 0 0,.slice none 0 0,.string (⟨#[]⟩ : ByteArray),.string (⟨#[]⟩ : ByteArray)] 31 (0,0))::(100010,g1,.cells #[.int .i64 p0.fKind,.int .i64 p0.fSerial,.int .i64 p0.fEpoch,.string x3,.int .u16 p0.fQuestion.fType,.int .u16 p0.fQuestion.fClass,.bool p0.fGood,.slice Ap0_0 p0.fEntries.length cp0_0,.int .i64 p0.fNote.fKind,.int .i64 p0.fNote.fFrom,.int .i64 p0.fNote.fTo,.int .i64 p0.fNote.fTerm,.int .i64 p0.fNote.fIndex,.int .i64 p0.fNote.fLogTerm,.int .i64 p0.fNote.fCommit,.bool p0.fNote.fGood,.slice Ap0_1 p0.fNote.fEntries.length cp0_1,.slice Ap0_2 p0.fNote.fVoters.length cp0_2,.string p0.fNote.fSnap,.string x5] 31 (0,0))::H,(40,⟨.slice A1215 l1214.length c1216,54,5,l1214.length,l1214.flatMap GRR.enc⟩)::(22,⟨.slice A964 l963.length c965,41,9,l963.length,(l963.zip ps966).flatMap GCached.encP⟩)::R,φ1101⟩ (fun _ h=>h)<|d_then<|c_seq<|c_region<|g_v rfl r_move<|g_v rfl (r_field (n:=4) Try.underlying41 rfl Try.sizeOf39 rfl rfl)<|g_storeL (tag:=100050) rfl rfl rfl rfl Try.sizeOf39 rfl rfl<|g_nil<|d_then<|c_region ?_
    refine g_v rfl r_move<|g_v rfl (r_loadA (tag:=100050) rfl rfl Try.isAgg41 Try.sizeOf41 rfl rfl) ?_
    refine g_shut (tag:=40) rfl (fun φ1217 q1217'=>?_)
    have q1217 : ∀ W,φ1217 W→φ1101 W:=fun W h=>(q1217' W h).1
    have f1218:=fun (W : World) (h : φ1217 W)=>(q1217' W h).2
    have hk1220:=(DOk.cons (cap:=GCached.capP) (x:=(⟨x1104.fKind,x1114,x1104.fType,x1104.fClass,l1214,x1104.fUntil,x1104.fRank,x1104.fEpoch,x1104.fSource⟩ : GCached)) (p:=(⟨A1215,c1216⟩ : GCachedP)) (hc1216) DOk.nil)
    have f1221:=fun (W : World) (h : φ1217 W)=>(DOwn.cons (own:=GCached.ownP) (x:=(⟨x1104.fKind,x1114,x1104.fType,x1104.fClass,l1214,x1104.fUntil,x1104.fRank,x1104.fEpoch,x1104.fSource⟩ : GCached)) (p:=(⟨A1215,c1216⟩ : GCachedP)) (f1218 W h) DOwn.nil)
    refine g_e rfl (e_litD (tag:=100740) (enc:=GCached.encP) (sz:=9) hk1220 rfl Try.underlying25 (lit41_27 _ _ _ _ _ _ _ _ _ _ _) rfl rfl (fun _=>rfl)) (fun g1219 _=>?_)
    replace hm:=bnd hm
    obtain ⟨l1222,hl1222,hm⟩:=hm
    have hk1225:=DOk.app (cap:=GCached.capP) hc965.1 hk1220 hl1222
    have f1226:=fun (W : World) (h : φ1217 W)=>DOwn.app (own:=GCached.ownP) (cap:=GCached.capP) hc965.1 hl1222 (f967 W (q1217 _ h)) (f1221 W h)
    refine g_e rfl (e_appRD (enc:=GCached.encP) (l:=l963) (l1:=[(⟨x1104.fKind,x1114,x1104.fType,x1104.fClass,l1214,x1104.fUntil,x1104.fRank,x1104.fEpoch,x1104.fSource⟩ : GCached)]) (l2:=l1222) (tag:=22) hc965.1 hk1220 Try.underlying25 inf41_30 rfl (by decide) (by decide) (fun _=>rfl) (fun _=>rfl) rfl hc965.2 rfl rfl (fun W hS=>rowCl (tag:=100740) rfl W hS) hl1222) (fun ⟨A1223,c1224⟩ hc1224=>?_)
    refine g_v rfl r_assign<|g_nil<|d_normal_block<|d_then<|c_region<|g_v rfl r_move<|g_v rfl (r_add rfl rfl rfl)<|g_v rfl r_assign<|g_nil ?_
    obtain ⟨n1227,hn1227,hlp⟩:=nx_inl hm hnx5
    exact d_round (n1227,l1222,w64 (i968 + 1),A1223,c1224,(ps966++[(⟨A1215,c1216⟩ : GCachedP)])) ⟨hlp,⟨hk1225,hc1224⟩⟩ hn1227 ⟨rfl,rfl,rfl,rfl,trivial⟩ (fun W h=>((h.dropR (t:=100740) rfl).dropH (t:=100050) rfl).phi (fun W hφ=>⟨(q1101 _ (q1217 _ hφ)),(fun W h=>(f1226 W h)) W hφ⟩))
   replace hm:=ite_f hm (of_decide_eq_false h1103)
   refine c_exit<|d_exit_then<|d_exit_then<|d_exit_block ?_
   replace hm:=nx_out (C:=(fun e : (List GCached)=>m_law20_small_j1 p0 x3 x5 e = some r)) hm hnx5 hr5
   exact d_round (l963,A964,c965,ps966) ⟨hm,⟨hc965.1,hc965.2⟩⟩ Nat.zero_lt_one ⟨rfl,rfl,rfl,trivial⟩ (fun W h=>h.phi (fun W hφ=>⟨(q1101 _ hφ),(fun W h=>(f967 W h)) W hφ⟩))
  replace hm:=ite_f hm (of_decide_eq_false h1102)
  refine g_no rfl rfl rfl rfl rfl h1102<|g_v rfl (r_pick0 rfl h1102)<|g_nil<|d_then<|c_cond0 rfl rfl<|c_exit<|d_exit_then<|d_exit_then<|d_exit_block ?_
  replace hm:=nx_out (C:=(fun e : (List GCached)=>m_law20_small_j1 p0 x3 x5 e = some r)) hm hnx5 hr5
  exact d_round (l963,A964,c965,ps966) ⟨hm,⟨hc965.1,hc965.2⟩⟩ Nat.zero_lt_one ⟨rfl,rfl,rfl,trivial⟩ (fun W h=>h.phi (fun W hφ=>⟨(q1101 _ hφ),(fun W h=>(f967 W h)) W hφ⟩))
 unfold m_law20_small_j1 at hm
 refine d_abs (fun φ672 q672'=>?_)
 have q672 : ∀ W,φ672 W→φ W:=fun W h=>(q672' W h).1
 have f671:=fun (W : World) (h : φ672 W)=>(q672' W h).2
 refine d_flat [(1,.pointer (some ⟨g1,0,none⟩)),(2,.pointer (some ⟨g2,0,none⟩)),(3,.slice A668 l667.length c669)] ⟨rfl,rfl,rfl,trivial⟩ (fun u=>?_)
 refine d_sta ⟨w0,M,(100020,g2,.cells #[.int .i64 0,.int .i64 0,.int .i64 0,.string (⟨#[]⟩ : ByteArray),.int .u16 0,.int .u16 0,.bool false,.slice none 0 0,.int .i64 0,.int .i64 0,.int .i64 0,.int .i64 0,.int .i64 0,.int .i64 0,.int .i64 0,.bool false,.slice none 0 0,.slice none 0 0,.string (⟨#[]⟩ : ByteArray),.string (⟨#[]⟩ : ByteArray)] 31 (0,0))::(100010,g1,.cells #[.int .i64 p0.fKind,.int .i64 p0.fSerial,.int .i64 p0.fEpoch,.string x3,.int .u16 p0.fQuestion.fType,.int .u16 p0.fQuestion.fClass,.bool p0.fGood,.slice Ap0_0 p0.fEntries.length cp0_0,.int .i64 p0.fNote.fKind,.int .i64 p0.fNote.fFrom,.int .i64 p0.fNote.fTo,.int .i64 p0.fNote.fTerm,.int .i64 p0.fNote.fIndex,.int .i64 p0.fNote.fLogTerm,.int .i64 p0.fNote.fCommit,.bool p0.fNote.fGood,.slice Ap0_1 p0.fNote.fEntries.length cp0_1,.slice Ap0_2 p0.fNote.fVoters.length cp0_2,.string p0.fNote.fSnap,.string x5] 31 (0,0))::H,(22,⟨.slice A668 l667.length c669,41,9,l667.length,(l667.zip ps670).flatMap GCached.encP⟩)::R,φ672⟩ (fun _ h=>h)<|d_then<|c_seq<|c_region<|g_v rfl r_move<|g_v rfl (r_field (n:=7) Try.underlying31 rfl Try.sizeOf25 rfl rfl)<|g_storeL (tag:=100010) rfl rfl rfl rfl Try.sizeOf25 rfl rfl<|g_nil<|d_then<|c_seq ?_
 refine c_region<|g_v rfl r_assign<|g_nil<|d_then<|c_seq<|c_sta _ (fun W h=>nilR h 31 56 3) ?_
 refine c_cut (ι:=(List GEntry)×Option Addr×Nat) [1,2,9] (fun ⟨l761,A762,c763⟩=>[(9,.slice A762 l761.length c763)]) (fun ⟨l761,A762,c763⟩=>⟨w0,M,(100020,g2,.cells #[.int .i64 0,.int .i64 0,.int .i64 0,.string (⟨#[]⟩ : ByteArray),.int .u16 0,.int .u16 0,.bool false,.slice none 0 0,.int .i64 0,.int .i64 0,.int .i64 0,.int .i64 0,.int .i64 0,.int .i64 0,.int .i64 0,.bool false,.slice none 0 0,.slice none 0 0,.string (⟨#[]⟩ : ByteArray),.string (⟨#[]⟩ : ByteArray)] 31 (0,0))::(100010,g1,.cells #[.int .i64 p0.fKind,.int .i64 p0.fSerial,.int .i64 p0.fEpoch,.string x3,.int .u16 p0.fQuestion.fType,.int .u16 p0.fQuestion.fClass,.bool p0.fGood,.slice A668 l667.length c669,.int .i64 p0.fNote.fKind,.int .i64 p0.fNote.fFrom,.int .i64 p0.fNote.fTo,.int .i64 p0.fNote.fTerm,.int .i64 p0.fNote.fIndex,.int .i64 p0.fNote.fLogTerm,.int .i64 p0.fNote.fCommit,.bool p0.fNote.fGood,.slice Ap0_1 p0.fNote.fEntries.length cp0_1,.slice Ap0_2 p0.fNote.fVoters.length cp0_2,.string p0.fNote.fSnap,.string x5] 31 (0,0))::H,(31,⟨.slice A762 l761.length c763,56,3,l761.length,l761.flatMap GEntry.enc⟩)::(22,⟨.slice A668 l667.length c669,41,9,l667.length,(l667.zip ps670).flatMap GCached.encP⟩)::R,φ672⟩) (fun ⟨l761,A762,c763⟩=>m_law20_small_j2 p0 x3 l667 x5 l761 = some r∧l761.length ≤ c763) ?_ (fun ⟨l761,A762,c763⟩ u ⟨hm,hc763⟩=>?_)
 ·
  refine c_seq<|c_region<|g_v rfl r_assign<|g_nil<|d_then<|c_block ?_
  replace hm:=bnd hm
  obtain ⟨out4,hl4,hr4⟩:=hm
  obtain ⟨n818',hl4⟩:=loop_lp hl4
  refine c_loopU (ι:=Nat×(List GEntry)×Int×Option Addr×Nat) [1,2,9,10] (fun ⟨n818,l797,i800,A798,c799⟩=>[(9,.slice A798 l797.length c799),(10,.int .i64 i800)]) (fun ⟨n818,l797,i800,A798,c799⟩=>⟨w0,M,(100020,g2,.cells #[.int .i64 0,.int .i64 0,.int .i64 0,.string (⟨#[]⟩ : ByteArray),.int .u16 0,.int .u16 0,.bool false,.slice none 0 0,.int .i64 0,.int .i64 0,.int .i64 0,.int .i64 0,.int .i64 0,.int .i64 0,.int .i64 0,.bool false,.slice none 0 0,.slice none 0 0,.string (⟨#[]⟩ : ByteArray),.string (⟨#[]⟩ : ByteArray)] 31 (0,0))::(100010,g1,.cells #[.int .i64 p0.fKind,.int .i64 p0.fSerial,.int .i64 p0.fEpoch,.string x3,.int .u16 p0.fQuestion.fType,.int .u16 p0.fQuestion.fClass,.bool p0.fGood,.slice A668 l667.length c669,.int .i64 p0.fNote.fKind,.int .i64 p0.fNote.fFrom,.int .i64 p0.fNote.fTo,.int .i64 p0.fNote.fTerm,.int .i64 p0.fNote.fIndex,.int .i64 p0.fNote.fLogTerm,.int .i64 p0.fNote.fCommit,.bool p0.fNote.fGood,.slice Ap0_1 p0.fNote.fEntries.length cp0_1,.slice Ap0_2 p0.fNote.fVoters.length cp0_2,.string p0.fNote.fSnap,.string x5] 31 (0,0))::H,(31,⟨.slice A798 l797.length c799,56,3,l797.length,l797.flatMap GEntry.enc⟩)::(22,⟨.slice A668 l667.length c669,41,9,l667.length,(l667.zip ps670).flatMap GCached.encP⟩)::R,φ672⟩) (fun ⟨n818,l797,i800,A798,c799⟩=>Lp (fun s=>m_law20_small_s4 p0 s.1 s.2) n818 (l797,i800) out4∧l797.length ≤ c799) (fun ⟨n818,l797,i800,A798,c799⟩=>n818) (n818',([] : List GEntry),0,none,0) ⟨hl4,(Nat.le_refl 0)⟩ ⟨rfl,rfl,rfl,rfl,trivial⟩ (fun W h=>h.phi (fun W hφ=>hφ)) (fun ⟨n818,l797,i800,A798,c799⟩ u ⟨hlp,hc799⟩=>?_)
  obtain ⟨o4,hm,hnx4⟩:=lp_step hlp
  clear hlp
  replace hm : m_law20_small_s4 p0 l797 i800 = some o4:=hm
  unfold m_law20_small_s4 at hm
  refine c_flat [(1,.pointer (some ⟨g1,0,none⟩)),(2,.pointer (some ⟨g2,0,none⟩)),(9,.slice A798 l797.length c799),(10,.int .i64 i800)] ⟨rfl,rfl,rfl,rfl,trivial⟩ (fun u=>?_)
  refine c_sta ⟨w0,M,(100020,g2,.cells #[.int .i64 0,.int .i64 0,.int .i64 0,.string (⟨#[]⟩ : ByteArray),.int .u16 0,.int .u16 0,.bool false,.slice none 0 0,.int .i64 0,.int .i64 0,.int .i64 0,.int .i64 0,.int .i64 0,.int .i64 0,.int .i64 0,.bool false,.slice none 0 0,.slice none 0 0,.string (⟨#[]⟩ : ByteArray),.string (⟨#[]⟩ : ByteArray)] 31 (0,0))::(100010,g1,.cells #[.int .i64 p0.fKind,.int .i64 p0.fSerial,.int .i64 p0.fEpoch,.string x3,.int .u16 p0.fQuestion.fType,.int .u16 p0.fQuestion.fClass,.bool p0.fGood,.slice A668 l667.length c669,.int .i64 p0.fNote.fKind,.int .i64 p0.fNote.fFrom,.int .i64 p0.fNote.fTo,.int .i64 p0.fNote.fTerm,.int .i64 p0.fNote.fIndex,.int .i64 p0.fNote.fLogTerm,.int .i64 p0.fNote.fCommit,.bool p0.fNote.fGood,.slice Ap0_1 p0.fNote.fEntries.length cp0_1,.slice Ap0_2 p0.fNote.fVoters.length cp0_2,.string p0.fNote.fSnap,.string x5] 31 (0,0))::H,(31,⟨.slice A798 l797.length c799,56,3,l797.length,l797.flatMap GEntry.enc⟩)::(22,⟨.slice A668 l667.length c669,41,9,l667.length,(l667.zip ps670).flatMap GCached.encP⟩)::R,φ672⟩ (fun _ h=>h)<|c_seq<|c_seq<|c_region<|g_v rfl r_move<|g_v rfl (r_field (n:=8) Try.underlying31 rfl Try.sizeOf29 rfl rfl)<|g_v rfl (r_field (n:=16) Try.underlying29 rfl Try.sizeOf26 rfl rfl)<|g_v rfl (r_load (tag:=100010) rfl rfl rfl Try.isAgg26)<|g_v rfl (r_lenL Try.underlying26 rfl)<|g_v rfl (r_lss rfl rfl) ?_
  refine g_v rfl r_move ?_
  refine g_if rfl rfl rfl rfl rfl (fun h819=>?_) (fun h819=>?_)
  ·
   replace hm:=ite_t hm (of_decide_eq_true h819)
   refine g_v rfl r_move<|g_do rfl rfl rfl rfl rfl h819<|g_v rfl (r_lss rfl rfl)<|g_v rfl (r_pick1 rfl h819)<|g_nil<|d_then ?_
   refine c_flat [(1,.pointer (some ⟨g1,0,none⟩)),(2,.pointer (some ⟨g2,0,none⟩)),(9,.slice A798 l797.length c799),(10,.int .i64 i800),(87,.bool (decide (i800 < 20)))] ⟨rfl,rfl,rfl,rfl,rfl,trivial⟩ (fun u=>?_)
   refine c_cond rfl (fun h820=>?_) (fun h820=>?_)
   ·
    replace hm:=ite_t hm (of_decide_eq_true h820)
    refine c_skip<|d_then<|c_seq<|c_block<|c_seq<|c_region<|g_v rfl (r_field (n:=8) Try.underlying31 rfl Try.sizeOf29 rfl rfl)<|g_v rfl (r_field (n:=16) Try.underlying29 rfl Try.sizeOf26 rfl rfl)<|g_v rfl (r_load (tag:=100010) rfl rfl rfl Try.isAgg26)<|g_v rfl r_move ?_
    replace hm:=bnd hm
    obtain ⟨x821,hx821,hm⟩:=hm
    refine g_know _ (fun W hS=>cl_at (p:=(Sta.mk w0 M H R φ).ok) (sz:=3) (fun _=>rfl) (by decide) (ok_pre (H1:=[_,_]) (R1:=[_,_]) hS (fun W h=>(q672 _ h))) fp0_1 hx821) ?_
    rintro ⟨ad822,hA824,f823⟩
    refine g_v rfl (r_ix Try.underlying26 Try.sizeOf56 rfl hA824 rfl hx821)<|g_v rfl (r_ldA rfl Try.isAgg56 Try.sizeOf56 (fun W hS=>(f823 W (ok_pre (H1:=[_,_]) (R1:=[_,_]) hS (fun W h=>(q672 _ h)))).take 3) rfl) ?_
    refine g_e rfl (e_alloc 100110 Try.zeroValue56) (fun g825 _=>?_)
    refine g_storeL (tag:=100110) rfl rfl rfl rfl Try.sizeOf56 rfl rfl<|g_nil<|d_then<|c_seq<|c_region<|g_v rfl (r_field (n:=2) Try.underlying56 rfl Try.sizeOf9 rfl rfl)<|g_v rfl (r_load (tag:=100110) rfl rfl rfl Try.isAgg9) ?_
    replace hm:=bnd hm
    obtain ⟨x826,hx827,hm⟩:=hm
    refine g_cn ⟨w0,M,_,_,φ672⟩ (fun _ h=>h) Try.call16 rfl rfl (c_law20_short x821.fData 100 _ hx827) (fun _ _=>?_)
    refine g_v rfl (r_field (n:=2) Try.underlying56 rfl Try.sizeOf9 rfl rfl)<|g_storeL (tag:=100110) rfl rfl rfl rfl Try.sizeOf9 rfl rfl<|g_nil<|d_then ?_
    refine c_flat [(1,.pointer (some ⟨g1,0,none⟩)),(2,.pointer (some ⟨g2,0,none⟩)),(9,.slice A798 l797.length c799),(10,.int .i64 i800),(11,.pointer (some ⟨g825,0,none⟩))] ⟨rfl,rfl,rfl,rfl,rfl,trivial⟩ (fun u=>?_)
    refine c_sta ⟨w0,M,(100110,g825,.cells #[.int .i64 x821.fTerm,.int .i64 x821.fKind,.string x826] 56 (0,0))::(100020,g2,.cells #[.int .i64 0,.int .i64 0,.int .i64 0,.string (⟨#[]⟩ : ByteArray),.int .u16 0,.int .u16 0,.bool false,.slice none 0 0,.int .i64 0,.int .i64 0,.int .i64 0,.int .i64 0,.int .i64 0,.int .i64 0,.int .i64 0,.bool false,.slice none 0 0,.slice none 0 0,.string (⟨#[]⟩ : ByteArray),.string (⟨#[]⟩ : ByteArray)] 31 (0,0))::(100010,g1,.cells #[.int .i64 p0.fKind,.int .i64 p0.fSerial,.int .i64 p0.fEpoch,.string x3,.int .u16 p0.fQuestion.fType,.int .u16 p0.fQuestion.fClass,.bool p0.fGood,.slice A668 l667.length c669,.int .i64 p0.fNote.fKind,.int .i64 p0.fNote.fFrom,.int .i64 p0.fNote.fTo,.int .i64 p0.fNote.fTerm,.int .i64 p0.fNote.fIndex,.int .i64 p0.fNote.fLogTerm,.int .i64 p0.fNote.fCommit,.bool p0.fNote.fGood,.slice Ap0_1 p0.fNote.fEntries.length cp0_1,.slice Ap0_2 p0.fNote.fVoters.length cp0_2,.string p0.fNote.fSnap,.string x5] 31 (0,0))::H,(31,⟨.slice A798 l797.length c799,56,3,l797.length,l797.flatMap GEntry.enc⟩)::(22,⟨.slice A668 l667.length c669,41,9,l667.length,(l667.zip ps670).flatMap GCached.encP⟩)::R,φ672⟩ (fun _ h=>h)<|c_region<|g_v rfl r_move<|g_v rfl (r_loadA (tag:=100110) rfl rfl Try.isAgg56 Try.sizeOf56 rfl rfl) ?_
    refine g_e rfl (e_lit (tag:=101020) (l:=[(⟨x821.fTerm,x821.fKind,x826⟩ : GEntry)]) (enc:=GEntry.enc) (sz:=3) rfl Try.underlying26 (lit56_32 _ _ _) rfl rfl (fun _=>rfl)) (fun g828 _=>?_)
    replace hm:=bnd hm
    obtain ⟨l829,hl829,hm⟩:=hm
    refine g_e rfl (e_appR (enc:=GEntry.enc) (l:=l797) (l1:=[(⟨x821.fTerm,x821.fKind,x826⟩ : GEntry)]) (l2:=l829) (tag:=31) Try.underlying26 inf56_33 rfl (by decide) (by decide) (fun _=>rfl) (fun _=>rfl) rfl hc799 rfl rfl (fun W hS=>rowCl (tag:=101020) rfl W hS) hl829) (fun ⟨A830,c831⟩ hc831=>?_)
    refine g_v rfl r_assign<|g_nil<|d_normal_block<|d_then<|c_region<|g_v rfl r_move<|g_v rfl (r_add rfl rfl rfl)<|g_v rfl r_assign<|g_nil ?_
    obtain ⟨n832,hn832,hlp⟩:=nx_inl hm hnx4
    exact d_round (n832,l829,w64 (i800 + 1),A830,c831) ⟨hlp,hc831⟩ hn832 ⟨rfl,rfl,rfl,rfl,trivial⟩ (fun W h=>((h.dropR (t:=101020) rfl).dropH (t:=100110) rfl).phi (fun W hφ=>hφ))
   replace hm:=ite_f hm (of_decide_eq_false h820)
   refine c_exit<|d_exit_then<|d_exit_then<|d_exit_block ?_
   replace hm:=nx_out (C:=(fun e : (List GEntry)=>m_law20_small_j2 p0 x3 l667 x5 e = some r)) hm hnx4 hr4
   exact d_round (l797,A798,c799) ⟨hm,hc799⟩ Nat.zero_lt_one ⟨rfl,rfl,rfl,trivial⟩ (fun W h=>h.phi (fun W hφ=>hφ))
  replace hm:=ite_f hm (of_decide_eq_false h819)
  refine g_no rfl rfl rfl rfl rfl h819<|g_v rfl (r_pick0 rfl h819)<|g_nil<|d_then<|c_cond0 rfl rfl<|c_exit<|d_exit_then<|d_exit_then<|d_exit_block ?_
  replace hm:=nx_out (C:=(fun e : (List GEntry)=>m_law20_small_j2 p0 x3 l667 x5 e = some r)) hm hnx4 hr4
  exact d_round (l797,A798,c799) ⟨hm,hc799⟩ Nat.zero_lt_one ⟨rfl,rfl,rfl,trivial⟩ (fun W h=>h.phi (fun W hφ=>hφ))
 unfold m_law20_small_j2 at hm
 refine d_flat [(1,.pointer (some ⟨g1,0,none⟩)),(2,.pointer (some ⟨g2,0,none⟩)),(9,.slice A762 l761.length c763)] ⟨rfl,rfl,rfl,trivial⟩ (fun u=>?_)
 refine d_sta ⟨w0,M,(100020,g2,.cells #[.int .i64 0,.int .i64 0,.int .i64 0,.string (⟨#[]⟩ : ByteArray),.int .u16 0,.int .u16 0,.bool false,.slice none 0 0,.int .i64 0,.int .i64 0,.int .i64 0,.int .i64 0,.int .i64 0,.int .i64 0,.int .i64 0,.bool false,.slice none 0 0,.slice none 0 0,.string (⟨#[]⟩ : ByteArray),.string (⟨#[]⟩ : ByteArray)] 31 (0,0))::(100010,g1,.cells #[.int .i64 p0.fKind,.int .i64 p0.fSerial,.int .i64 p0.fEpoch,.string x3,.int .u16 p0.fQuestion.fType,.int .u16 p0.fQuestion.fClass,.bool p0.fGood,.slice A668 l667.length c669,.int .i64 p0.fNote.fKind,.int .i64 p0.fNote.fFrom,.int .i64 p0.fNote.fTo,.int .i64 p0.fNote.fTerm,.int .i64 p0.fNote.fIndex,.int .i64 p0.fNote.fLogTerm,.int .i64 p0.fNote.fCommit,.bool p0.fNote.fGood,.slice Ap0_1 p0.fNote.fEntries.length cp0_1,.slice Ap0_2 p0.fNote.fVoters.length cp0_2,.string p0.fNote.fSnap,.string x5] 31 (0,0))::H,(31,⟨.slice A762 l761.length c763,56,3,l761.length,l761.flatMap GEntry.enc⟩)::(22,⟨.slice A668 l667.length c669,41,9,l667.length,(l667.zip ps670).flatMap GCached.encP⟩)::R,φ672⟩ (fun _ h=>h)<|d_then<|c_seq<|c_region<|g_v rfl r_move<|g_v rfl (r_field (n:=8) Try.underlying31 rfl Try.sizeOf29 rfl rfl)<|g_v rfl (r_field (n:=16) Try.underlying29 rfl Try.sizeOf26 rfl rfl)<|g_storeL (tag:=100010) rfl rfl rfl rfl Try.sizeOf26 rfl rfl<|g_nil<|d_then ?_
 refine c_seq ?_
 refine c_cut (ι:=(List Int)×Option Addr×Nat) [1,2] (fun ⟨l767,A768,c769⟩=>[]) (fun ⟨l767,A768,c769⟩=>⟨w0,M,(100020,g2,.cells #[.int .i64 0,.int .i64 0,.int .i64 0,.string (⟨#[]⟩ : ByteArray),.int .u16 0,.int .u16 0,.bool false,.slice none 0 0,.int .i64 0,.int .i64 0,.int .i64 0,.int .i64 0,.int .i64 0,.int .i64 0,.int .i64 0,.bool false,.slice none 0 0,.slice none 0 0,.string (⟨#[]⟩ : ByteArray),.string (⟨#[]⟩ : ByteArray)] 31 (0,0))::(100010,g1,.cells #[.int .i64 p0.fKind,.int .i64 p0.fSerial,.int .i64 p0.fEpoch,.string x3,.int .u16 p0.fQuestion.fType,.int .u16 p0.fQuestion.fClass,.bool p0.fGood,.slice A668 l667.length c669,.int .i64 p0.fNote.fKind,.int .i64 p0.fNote.fFrom,.int .i64 p0.fNote.fTo,.int .i64 p0.fNote.fTerm,.int .i64 p0.fNote.fIndex,.int .i64 p0.fNote.fLogTerm,.int .i64 p0.fNote.fCommit,.bool p0.fNote.fGood,.slice A762 l761.length c763,.slice A768 l767.length c769,.string p0.fNote.fSnap,.string x5] 31 (0,0))::H,(31,⟨.slice A762 l761.length c763,56,3,l761.length,l761.flatMap GEntry.enc⟩)::(22,⟨.slice A668 l667.length c669,41,9,l667.length,(l667.zip ps670).flatMap GCached.encP⟩)::R,fun W=>φ672 W∧Cl W A768 (l767.flatMap (fun x : Int=>[Value.int .i64 x]))⟩) (fun ⟨l767,A768,c769⟩=>m_law20_small_j3 p0 x3 l667 l761 x5 l767 = some r∧l767.length ≤ c769) ?_ (fun ⟨l767,A768,c769⟩ u ⟨hm,hc769⟩=>?_)
 ·
  refine c_seq<|c_region<|g_v rfl (r_field (n:=8) Try.underlying31 rfl Try.sizeOf29 rfl rfl)<|g_v rfl (r_field (n:=17) Try.underlying29 rfl Try.sizeOf27 rfl rfl)<|g_v rfl (r_load (tag:=100010) rfl rfl rfl Try.isAgg27)<|g_v rfl (r_lenL Try.underlying27 rfl)<|g_v rfl (r_gtr rfl rfl)<|g_nil<|d_then ?_
  refine c_flat [(1,.pointer (some ⟨g1,0,none⟩)),(2,.pointer (some ⟨g2,0,none⟩)),(111,.bool (decide (70 < (p0.fNote.fVoters.length : Int))))] ⟨rfl,rfl,rfl,trivial⟩ (fun u=>?_)
  refine c_sta ⟨w0,M,(100020,g2,.cells #[.int .i64 0,.int .i64 0,.int .i64 0,.string (⟨#[]⟩ : ByteArray),.int .u16 0,.int .u16 0,.bool false,.slice none 0 0,.int .i64 0,.int .i64 0,.int .i64 0,.int .i64 0,.int .i64 0,.int .i64 0,.int .i64 0,.bool false,.slice none 0 0,.slice none 0 0,.string (⟨#[]⟩ : ByteArray),.string (⟨#[]⟩ : ByteArray)] 31 (0,0))::(100010,g1,.cells #[.int .i64 p0.fKind,.int .i64 p0.fSerial,.int .i64 p0.fEpoch,.string x3,.int .u16 p0.fQuestion.fType,.int .u16 p0.fQuestion.fClass,.bool p0.fGood,.slice A668 l667.length c669,.int .i64 p0.fNote.fKind,.int .i64 p0.fNote.fFrom,.int .i64 p0.fNote.fTo,.int .i64 p0.fNote.fTerm,.int .i64 p0.fNote.fIndex,.int .i64 p0.fNote.fLogTerm,.int .i64 p0.fNote.fCommit,.bool p0.fNote.fGood,.slice A762 l761.length c763,.slice Ap0_2 p0.fNote.fVoters.length cp0_2,.string p0.fNote.fSnap,.string x5] 31 (0,0))::H,(31,⟨.slice A762 l761.length c763,56,3,l761.length,l761.flatMap GEntry.enc⟩)::(22,⟨.slice A668 l667.length c669,41,9,l667.length,(l667.zip ps670).flatMap GCached.encP⟩)::R,φ672⟩ (fun _ h=>h) ?_
  refine c_cond rfl (fun h778=>?_) (fun h778=>?_)
  ·
   replace hm:=ite_t hm (of_decide_eq_true h778)
   refine c_region<|g_v rfl (r_field (n:=8) Try.underlying31 rfl Try.sizeOf29 rfl rfl)<|g_v rfl (r_field (n:=17) Try.underlying29 rfl Try.sizeOf27 rfl rfl)<|g_v rfl (r_load (tag:=100010) rfl rfl rfl Try.isAgg27) ?_
   replace hm:=bnd hm
   obtain ⟨l780,hl780,hm⟩:=hm
   have f779:=fun (W : World) (h : φ W)=>cl_cutHi (enc:=(fun x : Int=>[Value.int .i64 x])) (sz:=1) (fun _=>rfl) hl780 (fp0_2 W h)
   refine g_v rfl (r_lcutHi Try.underlying27 Try.sizeOf3 rfl hcp0_2 rfl hl780)<|g_v rfl (r_field (n:=8) Try.underlying31 rfl Try.sizeOf29 rfl rfl)<|g_v rfl (r_field (n:=17) Try.underlying29 rfl Try.sizeOf27 rfl rfl)<|g_storeL (tag:=100010) rfl rfl rfl rfl Try.sizeOf27 rfl rfl<|g_nil ?_
   exact d_round (l780,Ap0_2,cp0_2) ⟨hm,(cutHi_len hcp0_2 hl780)⟩ Nat.zero_lt_one ⟨rfl,rfl,trivial⟩ (fun W h=>h.phi (fun W hφ=>⟨hφ,(fun W h=>f779 W (q672 _ h)) W hφ⟩))
  replace hm:=ite_f hm (of_decide_eq_false h778)
  refine c_skip ?_
  exact d_round (p0.fNote.fVoters,Ap0_2,cp0_2) ⟨hm,hcp0_2⟩ Nat.zero_lt_one ⟨rfl,rfl,trivial⟩ (fun W h=>h.phi (fun W hφ=>⟨hφ,(fun W h=>fp0_2 W (q672 _ h)) W hφ⟩))
 unfold m_law20_small_j3 at hm
 refine d_abs (fun φ771 q771'=>?_)
 have q771 : ∀ W,φ771 W→φ672 W:=fun W h=>(q771' W h).1
 have f770:=fun (W : World) (h : φ771 W)=>(q771' W h).2
 refine d_flat [(1,.pointer (some ⟨g1,0,none⟩)),(2,.pointer (some ⟨g2,0,none⟩))] ⟨rfl,rfl,trivial⟩ (fun u=>?_)
 refine d_sta ⟨w0,M,(100020,g2,.cells #[.int .i64 0,.int .i64 0,.int .i64 0,.string (⟨#[]⟩ : ByteArray),.int .u16 0,.int .u16 0,.bool false,.slice none 0 0,.int .i64 0,.int .i64 0,.int .i64 0,.int .i64 0,.int .i64 0,.int .i64 0,.int .i64 0,.bool false,.slice none 0 0,.slice none 0 0,.string (⟨#[]⟩ : ByteArray),.string (⟨#[]⟩ : ByteArray)] 31 (0,0))::(100010,g1,.cells #[.int .i64 p0.fKind,.int .i64 p0.fSerial,.int .i64 p0.fEpoch,.string x3,.int .u16 p0.fQuestion.fType,.int .u16 p0.fQuestion.fClass,.bool p0.fGood,.slice A668 l667.length c669,.int .i64 p0.fNote.fKind,.int .i64 p0.fNote.fFrom,.int .i64 p0.fNote.fTo,.int .i64 p0.fNote.fTerm,.int .i64 p0.fNote.fIndex,.int .i64 p0.fNote.fLogTerm,.int .i64 p0.fNote.fCommit,.bool p0.fNote.fGood,.slice A762 l761.length c763,.slice A768 l767.length c769,.string p0.fNote.fSnap,.string x5] 31 (0,0))::H,(31,⟨.slice A762 l761.length c763,56,3,l761.length,l761.flatMap GEntry.enc⟩)::(22,⟨.slice A668 l667.length c669,41,9,l667.length,(l667.zip ps670).flatMap GCached.encP⟩)::R,φ771⟩ (fun _ h=>h)<|d_then<|c_seq<|c_region<|g_v rfl (r_field (n:=8) Try.underlying31 rfl Try.sizeOf29 rfl rfl)<|g_v rfl (r_field (n:=18) Try.underlying29 rfl Try.sizeOf9 rfl rfl)<|g_v rfl (r_load (tag:=100010) rfl rfl rfl Try.isAgg9) ?_
 replace hm:=bnd hm
 obtain ⟨x772,hx773,hm⟩:=hm
 refine g_cn ⟨w0,M,_,_,φ771⟩ (fun _ h=>h) Try.call16 rfl rfl (c_law20_short p0.fNote.fSnap 1000 _ hx773) (fun _ _=>?_)
 refine g_v rfl (r_field (n:=8) Try.underlying31 rfl Try.sizeOf29 rfl rfl)<|g_v rfl (r_field (n:=18) Try.underlying29 rfl Try.sizeOf9 rfl rfl)<|g_storeL (tag:=100010) rfl rfl rfl rfl Try.sizeOf9 rfl rfl<|g_nil<|d_then<|c_seq<|c_region<|g_v rfl (r_loadA (tag:=100010) rfl rfl Try.isAgg31 Try.sizeOf31 rfl rfl)<|g_storeL (tag:=100020) rfl rfl rfl rfl Try.sizeOf31 rfl rfl<|g_nil ?_
 refine d_then ?_
 refine c_flat [(2,.pointer (some ⟨g2,0,none⟩))] ⟨rfl,trivial⟩ (fun u=>?_)
 refine c_sta ⟨w0,M,(100020,g2,.cells #[.int .i64 p0.fKind,.int .i64 p0.fSerial,.int .i64 p0.fEpoch,.string x3,.int .u16 p0.fQuestion.fType,.int .u16 p0.fQuestion.fClass,.bool p0.fGood,.slice A668 l667.length c669,.int .i64 p0.fNote.fKind,.int .i64 p0.fNote.fFrom,.int .i64 p0.fNote.fTo,.int .i64 p0.fNote.fTerm,.int .i64 p0.fNote.fIndex,.int .i64 p0.fNote.fLogTerm,.int .i64 p0.fNote.fCommit,.bool p0.fNote.fGood,.slice A762 l761.length c763,.slice A768 l767.length c769,.string x772,.string x5] 31 (0,0))::(100010,g1,.cells #[.int .i64 p0.fKind,.int .i64 p0.fSerial,.int .i64 p0.fEpoch,.string x3,.int .u16 p0.fQuestion.fType,.int .u16 p0.fQuestion.fClass,.bool p0.fGood,.slice A668 l667.length c669,.int .i64 p0.fNote.fKind,.int .i64 p0.fNote.fFrom,.int .i64 p0.fNote.fTo,.int .i64 p0.fNote.fTerm,.int .i64 p0.fNote.fIndex,.int .i64 p0.fNote.fLogTerm,.int .i64 p0.fNote.fCommit,.bool p0.fNote.fGood,.slice A762 l761.length c763,.slice A768 l767.length c769,.string x772,.string x5] 31 (0,0))::H,(31,⟨.slice A762 l761.length c763,56,3,l761.length,l761.flatMap GEntry.enc⟩)::(22,⟨.slice A668 l667.length c669,41,9,l667.length,(l667.zip ps670).flatMap GCached.encP⟩)::R,φ771⟩ (fun _ h=>h)<|c_ret ?_
 cases hm
 refine d_shut (tag:=22) rfl (fun φ774 q774'=>?_)
 have q774 : ∀ W,φ774 W→φ771 W:=fun W h=>(q774' W h).1
 have f775:=fun (W : World) (h : φ774 W)=>(q774' W h).2
 refine d_shut (tag:=31) rfl (fun φ776 q776'=>?_)
 have q776 : ∀ W,φ776 W→φ774 W:=fun W h=>(q776' W h).1
 have f777:=fun (W : World) (h : φ776 W)=>(q776' W h).2
 exact d_retC (A668,c669,ps670,A762,c763,A768,c769) Try.results8 (res_agg (tag:=100020) rfl rfl Try.isAgg31 Try.sizeOf31 (res_nil rfl)) ⟨⟨hc669.1,hc669.2⟩,hc763,hc769⟩ (fun W h=>ok_pre (H1:=[_,_]) (R1:=[]) h (fun W hφ=>⟨(q672 _ (q771 _ (q774 _ (q776 _ hφ)))),(fun W h=>f775 W (q776 _ h)) W hφ,(fun W h=>(f671 W (q771 _ (q774 _ (q776 _ h))))) W hφ,(fun W h=>f777 W h) W hφ,(fun W h=>f770 W (q774 _ (q776 _ h))) W hφ⟩)) (.inr rfl)
theorem eqq54 (a b : GRR) : ∀ d W,(Op.equalIn (d + 5) 54 (.agg #[.string a.fName,.int .u16 a.fType,.int .u16 a.fClass,.int .u32 a.fTTL,.string a.fData]) (.agg #[.string b.fName,.int .u16 b.fType,.int .u16 b.fClass,.int .u32 b.fTTL,.string b.fData])).run Try.prog W = .ok (decide (a = b)) W:=by
  intro d W
  have h:=eqs_of (d:=d + 4) (xs:=#[.string a.fName,.int .u16 a.fType,.int .u16 a.fClass,.int .u32 a.fTTL,.string a.fData]) (ys:=#[.string b.fName,.int .u16 b.fType,.int .u16 b.fClass,.int .u32 b.fTTL,.string b.fData]) (w:=W) Try.underlying54 (by kernel_rfl) (eqs_cons (a:=.string a.fName) (b:=.string b.fName) rfl (by kernel_rfl) (by kernel_rfl) (eqs_str Try.underlying9) (eqs_cons (a:=.int .u16 a.fType) (b:=.int .u16 b.fType) rfl (by kernel_rfl) (by kernel_rfl) (eqs_int Try.underlying22) (eqs_cons (a:=.int .u16 a.fClass) (b:=.int .u16 b.fClass) rfl (by kernel_rfl) (by kernel_rfl) (eqs_int Try.underlying22) (eqs_cons (a:=.int .u32 a.fTTL) (b:=.int .u32 b.fTTL) rfl (by kernel_rfl) (by kernel_rfl) (eqs_int Try.underlying52) (eqs_cons (a:=.string a.fData) (b:=.string b.fData) rfl (by kernel_rfl) (by kernel_rfl) (eqs_str Try.underlying9) eqs_nil)))))
  refine h.trans ?_
  congr 1
  cases a; cases b
  simp only [GRR.mk.injEq,Bool.and_true]
  simp only [Bool.decide_and]
theorem eqg54 : Try.prog.eqGuardType Try.prog.depth 54 = false:=by kernel_rfl
noncomputable def m_ref16_Same_j1  : Option Bool:=
  some true
noncomputable def m_ref16_Same_s2 (p0 : GCached) (p1 : GCached) (i95 : Int) : Option (Int ⊕ (Unit ⊕ Bool)):=
  if i95 < (p0.fRecords.length : Int) then
    (at_ p0.fRecords i95).bind fun x141=>
    (at_ p1.fRecords i95).bind fun x145=>
    if x141 = x145 then
      some (.inl (w64 (i95 + 1)))
    else
      some (.inr (.inr false))
  else
    some (.inr (.inl ()))
noncomputable def m_ref16_Same (p0 : GCached) (p1 : GCached) : Option Bool:=
  if p0.fKind ≠ p1.fKind then
    some false
  else
    if p0.fName = p1.fName then
      if p0.fType ≠ p1.fType then
        some false
      else
        if p0.fClass ≠ p1.fClass then
          some false
        else
          if p0.fUntil ≠ p1.fUntil then
            some false
          else
            if p0.fRank ≠ p1.fRank then
              some false
            else
              if p0.fEpoch ≠ p1.fEpoch then
                some false
              else
                if p0.fSource ≠ p1.fSource then
                  some false
                else
                  if (p0.fRecords.length : Int) ≠ (p1.fRecords.length : Int) then
                    some false
                  else
                    (loop (fun s=>m_ref16_Same_s2 p0 p1 s) 0).bind fun e=>Sum.elim (fun e=>m_ref16_Same_j1) (fun x=>some x) e
    else
      some false
theorem c_ref16_Same {w0 : World} {M : Nat→Prop} {H : List (Nat×Nat×Obj)} {R : List (Nat×Row)} {φ : World→Prop} (p0 : GCached) (Ap0_0 : Option Addr) (cp0_0 : Nat) (hcp0_0 : p0.fRecords.length ≤ cp0_0) (fp0_0 : ∀ W,(Sta.mk w0 M H R φ).ok W→Cl W Ap0_0 (p0.fRecords.flatMap GRR.enc)) (p1 : GCached) (Ap1_0 : Option Addr) (cp1_0 : Nat) (hcp1_0 : p1.fRecords.length ≤ cp1_0) (fp1_0 : ∀ W,(Sta.mk w0 M H R φ).ok W→Cl W Ap1_0 (p1.fRecords.flatMap GRR.enc)) (r : Bool) (hm : m_ref16_Same p0 p1 = some r) :
    Cn Try.prog 12 #[.agg #[.int .i64 p0.fKind,.string p0.fName,.int .u16 p0.fType,.int .u16 p0.fClass,.slice Ap0_0 p0.fRecords.length cp0_0,.int .i64 p0.fUntil,.int .i64 p0.fRank,.int .i64 p0.fEpoch,.int .i64 p0.fSource],.agg #[.int .i64 p1.fKind,.string p1.fName,.int .u16 p1.fType,.int .u16 p1.fClass,.slice Ap1_0 p1.fRecords.length cp1_0,.int .i64 p1.fUntil,.int .i64 p1.fRank,.int .i64 p1.fEpoch,.int .i64 p1.fSource]] ⟨w0,M,H,R,φ⟩ (fun x : Unit=>.bool r) (fun x=>True) (fun x=>⟨w0,M,H,R,φ⟩):=by
 unfold m_ref16_Same at hm
 refine cn_intro (fn:=Try.f12) (N:=87) Try.func12 rfl Try.ntmps12 rfl<|c_seq<|c_region ?_
 refine g_e rfl (e_box 100020 rfl) (fun g1 _=>?_)
 refine g_e rfl (e_box 100030 rfl) (fun g2 _=>?_)
 refine g_v rfl r_assign<|g_nil<|d_then<|c_seq<|c_seq<|c_region<|g_v rfl (r_field (n:=0) Try.underlying41 rfl Try.sizeOf3 rfl rfl)<|g_v rfl (r_load (tag:=100020) rfl rfl rfl Try.isAgg3)<|g_v rfl (r_field (n:=0) Try.underlying41 rfl Try.sizeOf3 rfl rfl)<|g_v rfl (r_load (tag:=100030) rfl rfl rfl Try.isAgg3) ?_
 refine g_v rfl (r_neq rfl rfl)<|g_v rfl r_move<|g_sta ⟨w0,M,(100030,g2,.cells #[.int .i64 p1.fKind,.string p1.fName,.int .u16 p1.fType,.int .u16 p1.fClass,.slice Ap1_0 p1.fRecords.length cp1_0,.int .i64 p1.fUntil,.int .i64 p1.fRank,.int .i64 p1.fEpoch,.int .i64 p1.fSource] 41 (0,0))::(100020,g1,.cells #[.int .i64 p0.fKind,.string p0.fName,.int .u16 p0.fType,.int .u16 p0.fClass,.slice Ap0_0 p0.fRecords.length cp0_0,.int .i64 p0.fUntil,.int .i64 p0.fRank,.int .i64 p0.fEpoch,.int .i64 p0.fSource] 41 (0,0))::H,R,φ⟩ (fun _ h=>h) ?_
 refine g_if rfl rfl rfl rfl rfl (fun h3=>?_) (fun h3=>?_)
 ·
  replace hm:=ite_f hm (of_decide_eq_false h3)
  refine g_v rfl (r_field (n:=1) Try.underlying41 rfl Try.sizeOf9 rfl rfl)<|g_do rfl rfl rfl rfl rfl h3<|g_v rfl (r_load (tag:=100020) rfl rfl rfl Try.isAgg9)<|g_do rfl rfl rfl rfl rfl h3<|g_v rfl (r_field (n:=1) Try.underlying41 rfl Try.sizeOf9 rfl rfl)<|g_do rfl rfl rfl rfl rfl h3<|g_v rfl (r_load (tag:=100030) rfl rfl rfl Try.isAgg9)<|g_do rfl rfl rfl rfl rfl h3<|g_v rfl (r_neqT rfl rfl)<|g_v rfl (r_pick0 rfl h3) ?_
  refine g_v rfl r_move ?_
  refine g_if rfl rfl rfl rfl rfl (fun h4=>?_) (fun h4=>?_)
  ·
   have h4' : (decide (p0.fName = p1.fName)) = true:=by revert h4; cases (decide (p0.fName = p1.fName)) <;> simp
   replace hm:=ite_t hm (of_decide_eq_true h4')
   refine g_v rfl (r_field (n:=2) Try.underlying41 rfl Try.sizeOf22 rfl rfl)<|g_do rfl rfl rfl rfl rfl h4<|g_v rfl (r_load (tag:=100020) rfl rfl rfl Try.isAgg22)<|g_do rfl rfl rfl rfl rfl h4<|g_v rfl (r_field (n:=2) Try.underlying41 rfl Try.sizeOf22 rfl rfl)<|g_do rfl rfl rfl rfl rfl h4<|g_v rfl (r_load (tag:=100030) rfl rfl rfl Try.isAgg22)<|g_do rfl rfl rfl rfl rfl h4<|g_v rfl (r_neq rfl rfl)<|g_v rfl (r_pick0 rfl h4) ?_
   refine g_v rfl r_move ?_
   refine g_if rfl rfl rfl rfl rfl (fun h5=>?_) (fun h5=>?_)
   ·
    replace hm:=ite_f hm (of_decide_eq_false h5)
    refine g_v rfl (r_field (n:=3) Try.underlying41 rfl Try.sizeOf22 rfl rfl)<|g_do rfl rfl rfl rfl rfl h5<|g_v rfl (r_load (tag:=100020) rfl rfl rfl Try.isAgg22)<|g_do rfl rfl rfl rfl rfl h5<|g_v rfl (r_field (n:=3) Try.underlying41 rfl Try.sizeOf22 rfl rfl)<|g_do rfl rfl rfl rfl rfl h5<|g_v rfl (r_load (tag:=100030) rfl rfl rfl Try.isAgg22)<|g_do rfl rfl rfl rfl rfl h5<|g_v rfl (r_neq rfl rfl)<|g_v rfl (r_pick0 rfl h5) ?_
    refine g_v rfl r_move ?_
    refine g_if rfl rfl rfl rfl rfl (fun h6=>?_) (fun h6=>?_)
    ·
     replace hm:=ite_f hm (of_decide_eq_false h6)
     refine g_v rfl (r_field (n:=5) Try.underlying41 rfl Try.sizeOf3 rfl rfl)<|g_do rfl rfl rfl rfl rfl h6<|g_v rfl (r_load (tag:=100020) rfl rfl rfl Try.isAgg3)<|g_do rfl rfl rfl rfl rfl h6<|g_v rfl (r_field (n:=5) Try.underlying41 rfl Try.sizeOf3 rfl rfl)<|g_do rfl rfl rfl rfl rfl h6<|g_v rfl (r_load (tag:=100030) rfl rfl rfl Try.isAgg3)<|g_do rfl rfl rfl rfl rfl h6<|g_v rfl (r_neq rfl rfl)<|g_v rfl (r_pick0 rfl h6) ?_
     refine g_v rfl r_move ?_
     refine g_if rfl rfl rfl rfl rfl (fun h7=>?_) (fun h7=>?_)
     ·
      replace hm:=ite_f hm (of_decide_eq_false h7)
      refine g_v rfl (r_field (n:=6) Try.underlying41 rfl Try.sizeOf3 rfl rfl)<|g_do rfl rfl rfl rfl rfl h7<|g_v rfl (r_load (tag:=100020) rfl rfl rfl Try.isAgg3)<|g_do rfl rfl rfl rfl rfl h7<|g_v rfl (r_field (n:=6) Try.underlying41 rfl Try.sizeOf3 rfl rfl)<|g_do rfl rfl rfl rfl rfl h7<|g_v rfl (r_load (tag:=100030) rfl rfl rfl Try.isAgg3)<|g_do rfl rfl rfl rfl rfl h7<|g_v rfl (r_neq rfl rfl)<|g_v rfl (r_pick0 rfl h7) ?_
      refine g_v rfl r_move ?_
      refine g_if rfl rfl rfl rfl rfl (fun h8=>?_) (fun h8=>?_)
      ·
       replace hm:=ite_f hm (of_decide_eq_false h8)
       refine g_v rfl (r_field (n:=7) Try.underlying41 rfl Try.sizeOf3 rfl rfl)<|g_do rfl rfl rfl rfl rfl h8<|g_v rfl (r_load (tag:=100020) rfl rfl rfl Try.isAgg3)<|g_do rfl rfl rfl rfl rfl h8<|g_v rfl (r_field (n:=7) Try.underlying41 rfl Try.sizeOf3 rfl rfl)<|g_do rfl rfl rfl rfl rfl h8<|g_v rfl (r_load (tag:=100030) rfl rfl rfl Try.isAgg3)<|g_do rfl rfl rfl rfl rfl h8<|g_v rfl (r_neq rfl rfl)<|g_v rfl (r_pick0 rfl h8) ?_
       refine g_v rfl r_move ?_
       refine g_if rfl rfl rfl rfl rfl (fun h9=>?_) (fun h9=>?_)
       ·
        replace hm:=ite_f hm (of_decide_eq_false h9)
        refine g_v rfl (r_field (n:=8) Try.underlying41 rfl Try.sizeOf3 rfl rfl)<|g_do rfl rfl rfl rfl rfl h9<|g_v rfl (r_load (tag:=100020) rfl rfl rfl Try.isAgg3)<|g_do rfl rfl rfl rfl rfl h9<|g_v rfl (r_field (n:=8) Try.underlying41 rfl Try.sizeOf3 rfl rfl)<|g_do rfl rfl rfl rfl rfl h9<|g_v rfl (r_load (tag:=100030) rfl rfl rfl Try.isAgg3)<|g_do rfl rfl rfl rfl rfl h9<|g_v rfl (r_neq rfl rfl)<|g_v rfl (r_pick0 rfl h9) ?_
        refine g_v rfl r_move ?_
        refine g_if rfl rfl rfl rfl rfl (fun h10=>?_) (fun h10=>?_)
        ·
         replace hm:=ite_f hm (of_decide_eq_false h10)
         refine g_v rfl (r_field (n:=4) Try.underlying41 rfl Try.sizeOf39 rfl rfl)<|g_do rfl rfl rfl rfl rfl h10<|g_v rfl (r_load (tag:=100020) rfl rfl rfl Try.isAgg39)<|g_do rfl rfl rfl rfl rfl h10<|g_v rfl (r_lenL Try.underlying39 rfl)<|g_do rfl rfl rfl rfl rfl h10<|g_v rfl (r_field (n:=4) Try.underlying41 rfl Try.sizeOf39 rfl rfl)<|g_do rfl rfl rfl rfl rfl h10<|g_v rfl (r_load (tag:=100030) rfl rfl rfl Try.isAgg39)<|g_do rfl rfl rfl rfl rfl h10 ?_
         refine g_v rfl (r_lenL Try.underlying39 rfl)<|g_do rfl rfl rfl rfl rfl h10<|g_v rfl (r_neq rfl rfl)<|g_v rfl (r_pick0 rfl h10)<|g_nil<|d_then ?_
         refine c_flat [(2,.pointer (some ⟨g1,0,none⟩)),(3,.pointer (some ⟨g2,0,none⟩)),(68,.bool (decide ((p0.fRecords.length : Int) ≠ (p1.fRecords.length : Int))))] ⟨rfl,rfl,rfl,trivial⟩ (fun u=>?_)
         refine c_cond rfl (fun h11=>?_) (fun h11=>?_)
         ·
          replace hm:=ite_t hm (of_decide_eq_true h11)
          refine c_seq<|c_region<|g_v rfl r_assign<|g_nil<|d_then<|c_ret<|d_ret_then ?_
          cases hm
          exact d_retC () Try.results12 (res_tmp (res_nil rfl)) trivial (fun W h=>ok_pre (H1:=[_,_]) (R1:=[]) h (fun W hφ=>hφ)) (.inr rfl)
         replace hm:=ite_f hm (of_decide_eq_false h11)
         refine c_skip<|d_then<|c_seq<|c_seq<|c_region<|g_v rfl r_assign<|g_nil<|d_then ?_
         refine c_cut (ι:=Unit) [] (fun _=>[]) (fun _=>⟨w0,M,H,R,φ⟩) (fun _=>m_ref16_Same_j1 = some r) ?_ (fun _ u hm=>?_)
         ·
          refine c_block ?_
          replace hm:=bnd hm
          obtain ⟨out2,hl2,hr2⟩:=hm
          obtain ⟨n123',hl2⟩:=loop_lp hl2
          refine c_loopU (ι:=Nat×Int) [2,3,5] (fun ⟨n123,i95⟩=>[(5,.int .i64 i95)]) (fun ⟨n123,i95⟩=>⟨w0,M,(100030,g2,.cells #[.int .i64 p1.fKind,.string p1.fName,.int .u16 p1.fType,.int .u16 p1.fClass,.slice Ap1_0 p1.fRecords.length cp1_0,.int .i64 p1.fUntil,.int .i64 p1.fRank,.int .i64 p1.fEpoch,.int .i64 p1.fSource] 41 (0,0))::(100020,g1,.cells #[.int .i64 p0.fKind,.string p0.fName,.int .u16 p0.fType,.int .u16 p0.fClass,.slice Ap0_0 p0.fRecords.length cp0_0,.int .i64 p0.fUntil,.int .i64 p0.fRank,.int .i64 p0.fEpoch,.int .i64 p0.fSource] 41 (0,0))::H,R,φ⟩) (fun ⟨n123,i95⟩=>Lp (fun s=>m_ref16_Same_s2 p0 p1 s) n123 i95 out2) (fun ⟨n123,i95⟩=>n123) (n123',0) hl2 ⟨rfl,rfl,rfl,trivial⟩ (fun W h=>h.phi (fun W hφ=>hφ)) (fun ⟨n123,i95⟩ u hlp=>?_)
          obtain ⟨o2,hm,hnx2⟩:=lp_step hlp
          clear hlp
          replace hm : m_ref16_Same_s2 p0 p1 i95 = some o2:=hm
          unfold m_ref16_Same_s2 at hm
          refine c_flat [(2,.pointer (some ⟨g1,0,none⟩)),(3,.pointer (some ⟨g2,0,none⟩)),(5,.int .i64 i95)] ⟨rfl,rfl,rfl,trivial⟩ (fun u=>?_)
          refine c_seq<|c_seq<|c_region<|g_v rfl r_move<|g_v rfl (r_field (n:=4) Try.underlying41 rfl Try.sizeOf39 rfl rfl)<|g_v rfl (r_load (tag:=100020) rfl rfl rfl Try.isAgg39)<|g_v rfl (r_lenL Try.underlying39 rfl)<|g_v rfl (r_lss rfl rfl)<|g_nil<|d_then ?_
          refine c_cond rfl (fun h124=>?_) (fun h124=>?_)
          ·
           replace hm:=ite_t hm (of_decide_eq_true h124)
           refine c_skip<|d_then<|c_seq<|c_block<|c_seq<|ga_start (n:=11) ⟨w0,M,(100030,g2,.cells #[.int .i64 p1.fKind,.string p1.fName,.int .u16 p1.fType,.int .u16 p1.fClass,.slice Ap1_0 p1.fRecords.length cp1_0,.int .i64 p1.fUntil,.int .i64 p1.fRank,.int .i64 p1.fEpoch,.int .i64 p1.fSource] 41 (0,0))::(100020,g1,.cells #[.int .i64 p0.fKind,.string p0.fName,.int .u16 p0.fType,.int .u16 p0.fClass,.slice Ap0_0 p0.fRecords.length cp0_0,.int .i64 p0.fUntil,.int .i64 p0.fRank,.int .i64 p0.fEpoch,.int .i64 p0.fSource] 41 (0,0))::H,R,φ⟩ [] #[false,false,false,false,false,false,false,false,false,false,false] (fun W h=>h.phi (fun W hφ=>hφ)) mixed rfl rfl<|ga_v (i:=0) (bz 11 1) rfl (by kernel_rfl) (fun _ _ _ _ h=>h) rfl (r_field (n:=4) Try.underlying41 rfl Try.sizeOf39 rfl rfl)<|ga_v (i:=1) (bz 11 3) rfl (by kernel_rfl) (fun _ _ _ _ h=>h) rfl (r_load (tag:=100020) rfl rfl rfl Try.isAgg39)<|ga_v (i:=2) (bz 11 7) rfl (by kernel_rfl) (fun _ _ _ _ h=>h) rfl (r_move) ?_
           replace hm:=bnd hm
           obtain ⟨x141,hx141,hm⟩:=hm
           refine ga_know _ (fun W hS=>cl_at (p:=(Sta.mk w0 M H R φ).ok) (sz:=5) (fun _=>rfl) (by decide) (ok_pre (H1:=[_,_]) (R1:=[]) hS (fun W h=>h)) fp0_0 hx141) ?_
           rintro ⟨ad142,hA144,f143⟩
           refine ga_v (i:=3) (bz 11 15) rfl (by kernel_rfl) (fun _ _ _ _ h=>h) rfl (r_ix Try.underlying39 Try.sizeOf54 rfl hA144 rfl hx141)<|ga_v (i:=4) (bz 11 31) rfl (by kernel_rfl) (fun _ _ _ _ h=>h) rfl (r_ldA rfl Try.isAgg54 Try.sizeOf54 (fun W hS=>(f143 W (ok_pre (H1:=[_,_]) (R1:=[]) hS (fun W h=>h))).take 5) rfl)<|ga_v (i:=5) (bz 11 63) rfl (by kernel_rfl) (fun _ _ _ _ h=>h) rfl (r_field (n:=4) Try.underlying41 rfl Try.sizeOf39 rfl rfl)<|ga_v (i:=6) (bz 11 127) rfl (by kernel_rfl) (fun _ _ _ _ h=>h) rfl (r_load (tag:=100030) rfl rfl rfl Try.isAgg39)<|ga_r (i:=7) (bz 11 255) rfl (by kernel_rfl) (by decide) rfl (r_move) ?_
           replace hm:=bnd hm
           obtain ⟨x145,hx145,hm⟩:=hm
           refine ga_know _ (fun W hS=>cl_at (p:=(Sta.mk w0 M H R φ).ok) (sz:=5) (fun _=>rfl) (by decide) (ok_pre (H1:=[_,_]) (R1:=[]) hS (fun W h=>h)) fp1_0 hx145) ?_
           rintro ⟨ad146,hA148,f147⟩
           refine ga_r (i:=8) (bz 11 511) rfl (by kernel_rfl) (by decide) rfl (r_ix Try.underlying39 Try.sizeOf54 rfl hA148 rfl hx145)<|ga_r (i:=9) (bz 11 1023) rfl (by kernel_rfl) (by decide) rfl (r_ldA rfl Try.isAgg54 Try.sizeOf54 (fun W hS=>(f147 W (ok_pre (H1:=[_,_]) (R1:=[]) hS (fun W h=>h))).take 5) rfl)<|ga_r (i:=10) (bz 11 2047) rfl (by kernel_rfl) (by decide) rfl (r_neqA rfl rfl eqg54 (eqq54 x141 x145))<|ga_done (by kernel_rfl)<|d_then ?_
           refine c_flat [(2,.pointer (some ⟨g1,0,none⟩)),(3,.pointer (some ⟨g2,0,none⟩)),(5,.int .i64 i95),(86,.bool (!(decide (x141 = x145))))] ⟨rfl,rfl,rfl,rfl,trivial⟩ (fun u=>?_)
           refine c_cond rfl (fun h149=>?_) (fun h149=>?_)
           ·
            have h149' : (decide (x141 = x145)) = false:=by revert h149; cases (decide (x141 = x145)) <;> simp
            replace hm:=ite_f hm (of_decide_eq_false h149')
            refine c_seq<|c_region<|g_v rfl r_assign<|g_nil<|d_then<|c_ret<|d_ret_block<|d_ret_then<|d_ret_then<|d_ret_block ?_
            refine d_ret_then<|d_ret_then ?_
            replace hm:=nx_out (C:=(fun e : Unit ⊕ Bool=>Sum.elim (fun e=>m_ref16_Same_j1) (fun x=>some x) e = some r)) hm hnx2 hr2
            replace hm : some false = some r:=hm
            cases hm
            exact d_retC () Try.results12 (res_tmp (res_nil rfl)) trivial (fun W h=>ok_pre (H1:=[_,_]) (R1:=[]) h (fun W hφ=>hφ)) (.inr rfl)
           have h149' : (decide (x141 = x145)) = true:=by revert h149; cases (decide (x141 = x145)) <;> simp
           replace hm:=ite_t hm (of_decide_eq_true h149')
           refine c_skip<|d_normal_block<|d_then<|c_region<|g_v rfl r_move<|g_v rfl (r_add rfl rfl rfl)<|g_v rfl r_assign<|g_nil ?_
           obtain ⟨n150,hn150,hlp⟩:=nx_inl hm hnx2
           exact d_round (n150,w64 (i95 + 1)) hlp hn150 ⟨rfl,rfl,rfl,trivial⟩ (fun W h=>h.phi (fun W hφ=>hφ))
          replace hm:=ite_f hm (of_decide_eq_false h124)
          refine c_exit<|d_exit_then<|d_exit_then<|d_exit_block ?_
          replace hm:=nx_out (C:=(fun e : Unit ⊕ Bool=>Sum.elim (fun e=>m_ref16_Same_j1) (fun x=>some x) e = some r)) hm hnx2 hr2
          exact d_round () hm Nat.zero_lt_one trivial (fun W h=>((h.dropH (t:=100030) rfl).dropH (t:=100020) rfl).phi (fun W hφ=>hφ))
         unfold m_ref16_Same_j1 at hm
         refine d_flat [] trivial (fun u=>?_)
         refine d_sta ⟨w0,M,H,R,φ⟩ (fun _ h=>h)<|d_then<|c_seq<|c_region<|g_v rfl r_assign<|g_nil<|d_then<|c_ret ?_
         cases hm
         exact d_retC () Try.results12 (res_tmp (res_nil rfl)) trivial (fun W h=>ok_pre (H1:=[]) (R1:=[]) h (fun W hφ=>hφ)) (.inr rfl)
        replace hm:=ite_t hm (of_decide_eq_true h10)
        iterate 6 refine g_no rfl rfl rfl rfl rfl h10 ?_
        refine g_v rfl (r_pick1 rfl h10)<|g_nil<|d_then ?_
        refine c_flat [(2,.pointer (some ⟨g1,0,none⟩)),(3,.pointer (some ⟨g2,0,none⟩)),(68,.bool true)] ⟨rfl,rfl,rfl,trivial⟩ (fun u=>?_)
        refine c_cond1 rfl rfl<|c_seq<|c_region<|g_v rfl r_assign<|g_nil<|d_then<|c_ret<|d_ret_then ?_
        cases hm
        exact d_retC () Try.results12 (res_tmp (res_nil rfl)) trivial (fun W h=>ok_pre (H1:=[_,_]) (R1:=[]) h (fun W hφ=>hφ)) (.inr rfl)
       replace hm:=ite_t hm (of_decide_eq_true h9)
       iterate 4 refine g_no rfl rfl rfl rfl rfl h9 ?_
       refine g_v rfl (r_pick1 rfl h9)<|g_v rfl r_move ?_
       iterate 7 refine g_no rfl rfl rfl rfl rfl rfl ?_
       refine g_v rfl (r_pick1 rfl rfl)<|g_nil<|d_then ?_
       refine c_flat [(2,.pointer (some ⟨g1,0,none⟩)),(3,.pointer (some ⟨g2,0,none⟩)),(68,.bool true)] ⟨rfl,rfl,rfl,trivial⟩ (fun u=>?_)
       refine c_cond1 rfl rfl<|c_seq<|c_region<|g_v rfl r_assign<|g_nil<|d_then<|c_ret<|d_ret_then ?_
       cases hm
       exact d_retC () Try.results12 (res_tmp (res_nil rfl)) trivial (fun W h=>ok_pre (H1:=[_,_]) (R1:=[]) h (fun W hφ=>hφ)) (.inr rfl)
      replace hm:=ite_t hm (of_decide_eq_true h8)
      iterate 4 refine g_no rfl rfl rfl rfl rfl h8 ?_
      refine g_v rfl (r_pick1 rfl h8)<|g_v rfl r_move ?_
      iterate 5 refine g_no rfl rfl rfl rfl rfl rfl ?_
      refine g_v rfl (r_pick1 rfl rfl)<|g_v rfl r_move ?_
      iterate 7 refine g_no rfl rfl rfl rfl rfl rfl ?_
      refine g_v rfl (r_pick1 rfl rfl)<|g_nil<|d_then ?_
      refine c_flat [(2,.pointer (some ⟨g1,0,none⟩)),(3,.pointer (some ⟨g2,0,none⟩)),(68,.bool true)] ⟨rfl,rfl,rfl,trivial⟩ (fun u=>?_)
      refine c_cond1 rfl rfl<|c_seq<|c_region<|g_v rfl r_assign<|g_nil<|d_then<|c_ret<|d_ret_then ?_
      cases hm
      exact d_retC () Try.results12 (res_tmp (res_nil rfl)) trivial (fun W h=>ok_pre (H1:=[_,_]) (R1:=[]) h (fun W hφ=>hφ)) (.inr rfl)
     replace hm:=ite_t hm (of_decide_eq_true h7)
     iterate 4 refine g_no rfl rfl rfl rfl rfl h7 ?_
     refine g_v rfl (r_pick1 rfl h7)<|g_v rfl r_move ?_
     iterate 5 refine g_no rfl rfl rfl rfl rfl rfl ?_
     refine g_v rfl (r_pick1 rfl rfl)<|g_v rfl r_move ?_
     iterate 5 refine g_no rfl rfl rfl rfl rfl rfl ?_
     refine g_v rfl (r_pick1 rfl rfl)<|g_v rfl r_move ?_
     iterate 7 refine g_no rfl rfl rfl rfl rfl rfl ?_
     refine g_v rfl (r_pick1 rfl rfl)<|g_nil<|d_then ?_
     refine c_flat [(2,.pointer (some ⟨g1,0,none⟩)),(3,.pointer (some ⟨g2,0,none⟩)),(68,.bool true)] ⟨rfl,rfl,rfl,trivial⟩ (fun u=>?_)
     refine c_cond1 rfl rfl<|c_seq<|c_region<|g_v rfl r_assign<|g_nil<|d_then<|c_ret<|d_ret_then ?_
     cases hm
     exact d_retC () Try.results12 (res_tmp (res_nil rfl)) trivial (fun W h=>ok_pre (H1:=[_,_]) (R1:=[]) h (fun W hφ=>hφ)) (.inr rfl)
    replace hm:=ite_t hm (of_decide_eq_true h6)
    iterate 4 refine g_no rfl rfl rfl rfl rfl h6 ?_
    refine g_v rfl (r_pick1 rfl h6)<|g_v rfl r_move ?_
    iterate 5 refine g_no rfl rfl rfl rfl rfl rfl ?_
    refine g_v rfl (r_pick1 rfl rfl)<|g_v rfl r_move ?_
    iterate 5 refine g_no rfl rfl rfl rfl rfl rfl ?_
    refine g_v rfl (r_pick1 rfl rfl)<|g_v rfl r_move ?_
    iterate 5 refine g_no rfl rfl rfl rfl rfl rfl ?_
    refine g_v rfl (r_pick1 rfl rfl)<|g_v rfl r_move ?_
    iterate 7 refine g_no rfl rfl rfl rfl rfl rfl ?_
    refine g_v rfl (r_pick1 rfl rfl)<|g_nil<|d_then ?_
    refine c_flat [(2,.pointer (some ⟨g1,0,none⟩)),(3,.pointer (some ⟨g2,0,none⟩)),(68,.bool true)] ⟨rfl,rfl,rfl,trivial⟩ (fun u=>?_)
    refine c_cond1 rfl rfl<|c_seq<|c_region<|g_v rfl r_assign<|g_nil<|d_then<|c_ret<|d_ret_then ?_
    cases hm
    exact d_retC () Try.results12 (res_tmp (res_nil rfl)) trivial (fun W h=>ok_pre (H1:=[_,_]) (R1:=[]) h (fun W hφ=>hφ)) (.inr rfl)
   replace hm:=ite_t hm (of_decide_eq_true h5)
   iterate 4 refine g_no rfl rfl rfl rfl rfl h5 ?_
   refine g_v rfl (r_pick1 rfl h5)<|g_v rfl r_move ?_
   iterate 5 refine g_no rfl rfl rfl rfl rfl rfl ?_
   refine g_v rfl (r_pick1 rfl rfl)<|g_v rfl r_move ?_
   iterate 5 refine g_no rfl rfl rfl rfl rfl rfl ?_
   refine g_v rfl (r_pick1 rfl rfl)<|g_v rfl r_move ?_
   iterate 5 refine g_no rfl rfl rfl rfl rfl rfl ?_
   refine g_v rfl (r_pick1 rfl rfl)<|g_v rfl r_move ?_
   iterate 5 refine g_no rfl rfl rfl rfl rfl rfl ?_
   refine g_v rfl (r_pick1 rfl rfl)<|g_v rfl r_move ?_
   iterate 7 refine g_no rfl rfl rfl rfl rfl rfl ?_
   refine g_v rfl (r_pick1 rfl rfl)<|g_nil<|d_then ?_
   refine c_flat [(2,.pointer (some ⟨g1,0,none⟩)),(3,.pointer (some ⟨g2,0,none⟩)),(68,.bool true)] ⟨rfl,rfl,rfl,trivial⟩ (fun u=>?_)
   refine c_cond1 rfl rfl<|c_seq<|c_region<|g_v rfl r_assign<|g_nil<|d_then<|c_ret<|d_ret_then ?_
   cases hm
   exact d_retC () Try.results12 (res_tmp (res_nil rfl)) trivial (fun W h=>ok_pre (H1:=[_,_]) (R1:=[]) h (fun W hφ=>hφ)) (.inr rfl)
  have h4' : (decide (p0.fName = p1.fName)) = false:=by revert h4; cases (decide (p0.fName = p1.fName)) <;> simp
  replace hm:=ite_f hm (of_decide_eq_false h4')
  iterate 4 refine g_no rfl rfl rfl rfl rfl h4 ?_
  refine g_v rfl (r_pick1 rfl h4)<|g_v rfl r_move ?_
  iterate 5 refine g_no rfl rfl rfl rfl rfl rfl ?_
  refine g_v rfl (r_pick1 rfl rfl)<|g_v rfl r_move ?_
  iterate 5 refine g_no rfl rfl rfl rfl rfl rfl ?_
  refine g_v rfl (r_pick1 rfl rfl)<|g_v rfl r_move ?_
  iterate 5 refine g_no rfl rfl rfl rfl rfl rfl ?_
  refine g_v rfl (r_pick1 rfl rfl)<|g_v rfl r_move ?_
  iterate 5 refine g_no rfl rfl rfl rfl rfl rfl ?_
  refine g_v rfl (r_pick1 rfl rfl)<|g_v rfl r_move ?_
  iterate 5 refine g_no rfl rfl rfl rfl rfl rfl ?_
  refine g_v rfl (r_pick1 rfl rfl)<|g_v rfl r_move ?_
  iterate 7 refine g_no rfl rfl rfl rfl rfl rfl ?_
  refine g_v rfl (r_pick1 rfl rfl)<|g_nil<|d_then ?_
  refine c_flat [(2,.pointer (some ⟨g1,0,none⟩)),(3,.pointer (some ⟨g2,0,none⟩)),(68,.bool true)] ⟨rfl,rfl,rfl,trivial⟩ (fun u=>?_)
  refine c_cond1 rfl rfl<|c_seq<|c_region<|g_v rfl r_assign<|g_nil<|d_then<|c_ret<|d_ret_then ?_
  cases hm
  exact d_retC () Try.results12 (res_tmp (res_nil rfl)) trivial (fun W h=>ok_pre (H1:=[_,_]) (R1:=[]) h (fun W hφ=>hφ)) (.inr rfl)
 replace hm:=ite_t hm (of_decide_eq_true h3)
 iterate 4 refine g_no rfl rfl rfl rfl rfl h3 ?_
 refine g_v rfl (r_pick1 rfl h3)<|g_v rfl r_move ?_
 iterate 5 refine g_no rfl rfl rfl rfl rfl rfl ?_
 refine g_v rfl (r_pick1 rfl rfl)<|g_v rfl r_move ?_
 iterate 5 refine g_no rfl rfl rfl rfl rfl rfl ?_
 refine g_v rfl (r_pick1 rfl rfl)<|g_v rfl r_move ?_
 iterate 5 refine g_no rfl rfl rfl rfl rfl rfl ?_
 refine g_v rfl (r_pick1 rfl rfl)<|g_v rfl r_move ?_
 iterate 5 refine g_no rfl rfl rfl rfl rfl rfl ?_
 refine g_v rfl (r_pick1 rfl rfl)<|g_v rfl r_move ?_
 iterate 5 refine g_no rfl rfl rfl rfl rfl rfl ?_
 refine g_v rfl (r_pick1 rfl rfl)<|g_v rfl r_move ?_
 iterate 5 refine g_no rfl rfl rfl rfl rfl rfl ?_
 refine g_v rfl (r_pick1 rfl rfl)<|g_v rfl r_move ?_
 iterate 7 refine g_no rfl rfl rfl rfl rfl rfl ?_
 refine g_v rfl (r_pick1 rfl rfl)<|g_nil<|d_then ?_
 refine c_flat [(2,.pointer (some ⟨g1,0,none⟩)),(3,.pointer (some ⟨g2,0,none⟩)),(68,.bool true)] ⟨rfl,rfl,rfl,trivial⟩ (fun u=>?_)
 refine c_cond1 rfl rfl<|c_seq<|c_region<|g_v rfl r_assign<|g_nil<|d_then<|c_ret<|d_ret_then ?_
 cases hm
 exact d_retC () Try.results12 (res_tmp (res_nil rfl)) trivial (fun W h=>ok_pre (H1:=[_,_]) (R1:=[]) h (fun W hφ=>hφ)) (.inr rfl)
noncomputable def m_ref16_SameAll_j1  : Option Bool:=
  some true
noncomputable def m_ref16_SameAll_s2 (p0 : List GCached) (p1 : List GCached) (i193 : Int) : Option (Int ⊕ (Unit ⊕ Bool)):=
  if i193 < (p0.length : Int) then
    (at_ p0 i193).bind fun x299=>
    (at_ p1 i193).bind fun x308=>
    (m_ref16_Same x299 x308).bind fun x317=>
    if x317 = true then
      some (.inl (w64 (i193 + 1)))
    else
      some (.inr (.inr false))
  else
    some (.inr (.inl ()))
noncomputable def m_ref16_SameAll (p0 : List GCached) (p1 : List GCached) : Option Bool:=
  if (p0.length : Int) ≠ (p1.length : Int) then
    some false
  else
    (loop (fun s=>m_ref16_SameAll_s2 p0 p1 s) 0).bind fun e=>Sum.elim (fun e=>m_ref16_SameAll_j1) (fun x=>some x) e
theorem c_ref16_SameAll {w0 : World} {M : Nat→Prop} {H : List (Nat×Nat×Obj)} {R : List (Nat×Row)} {φ : World→Prop} (p0 : List GCached) (Ap0_0 : Option Addr) (cp0_0 : Nat) (psp0_0 : List GCachedP) (hcp0_0 : (DOk GCached.capP p0 psp0_0∧p0.length ≤ cp0_0)) (fp0_0 : ∀ W,(Sta.mk w0 M H R φ).ok W→Cl W Ap0_0 ((p0.zip psp0_0).flatMap GCached.encP)) (fop0_0 : ∀ W,(Sta.mk w0 M H R φ).ok W→DOwn GCached.ownP p0 psp0_0 W) (p1 : List GCached) (Ap1_0 : Option Addr) (cp1_0 : Nat) (psp1_0 : List GCachedP) (hcp1_0 : (DOk GCached.capP p1 psp1_0∧p1.length ≤ cp1_0)) (fp1_0 : ∀ W,(Sta.mk w0 M H R φ).ok W→Cl W Ap1_0 ((p1.zip psp1_0).flatMap GCached.encP)) (fop1_0 : ∀ W,(Sta.mk w0 M H R φ).ok W→DOwn GCached.ownP p1 psp1_0 W) (r : Bool) (hm : m_ref16_SameAll p0 p1 = some r) :
    Cn Try.prog 11 #[.slice Ap0_0 p0.length cp0_0,.slice Ap1_0 p1.length cp1_0] ⟨w0,M,H,R,φ⟩ (fun x : Unit=>.bool r) (fun x=>True) (fun x=>⟨w0,M,H,R,φ⟩):=by
 unfold m_ref16_SameAll at hm
 refine cn_intro (fn:=Try.f11) (N:=29) Try.func11 rfl Try.ntmps11 rfl<|c_seq<|c_region<|g_v rfl r_assign<|g_nil<|d_then<|c_seq<|c_seq<|c_region<|g_v rfl r_move ?_
 refine g_v rfl (r_lenL Try.underlying25 rfl)<|g_v rfl r_move<|g_v rfl (r_lenL Try.underlying25 rfl)<|g_v rfl (r_neq rfl rfl)<|g_nil<|d_then ?_
 refine c_cond rfl (fun h1=>?_) (fun h1=>?_)
 ·
  replace hm:=ite_t hm (of_decide_eq_true h1)
  refine c_seq<|c_region<|g_v rfl r_assign<|g_nil<|d_then<|c_ret<|d_ret_then ?_
  cases hm
  exact d_retC () Try.results11 (res_tmp (res_nil rfl)) trivial (fun W h=>ok_pre (H1:=[]) (R1:=[]) h (fun W hφ=>hφ)) (.inr rfl)
 replace hm:=ite_f hm (of_decide_eq_false h1)
 refine c_skip<|d_then<|c_seq<|c_seq<|c_region<|g_v rfl r_assign<|g_nil<|d_then ?_
 refine c_cut (ι:=Unit) [] (fun _=>[]) (fun _=>⟨w0,M,H,R,φ⟩) (fun _=>m_ref16_SameAll_j1 = some r) ?_ (fun _ u hm=>?_)
 ·
  refine c_block ?_
  replace hm:=bnd hm
  obtain ⟨out2,hl2,hr2⟩:=hm
  obtain ⟨n257',hl2⟩:=loop_lp hl2
  refine c_loopU (ι:=Nat×Int) [0,1,5] (fun ⟨n257,i193⟩=>[(5,.int .i64 i193)]) (fun ⟨n257,i193⟩=>⟨w0,M,H,R,φ⟩) (fun ⟨n257,i193⟩=>Lp (fun s=>m_ref16_SameAll_s2 p0 p1 s) n257 i193 out2) (fun ⟨n257,i193⟩=>n257) (n257',0) hl2 ⟨rfl,rfl,rfl,trivial⟩ (fun W h=>h.phi (fun W hφ=>hφ)) (fun ⟨n257,i193⟩ u hlp=>?_)
  obtain ⟨o2,hm,hnx2⟩:=lp_step hlp
  clear hlp
  replace hm : m_ref16_SameAll_s2 p0 p1 i193 = some o2:=hm
  unfold m_ref16_SameAll_s2 at hm
  refine c_flat [(0,.slice Ap0_0 p0.length cp0_0),(1,.slice Ap1_0 p1.length cp1_0),(5,.int .i64 i193)] ⟨rfl,rfl,rfl,trivial⟩ (fun u=>?_)
  refine c_sta ⟨w0,M,H,R,φ⟩ (fun _ h=>h)<|c_seq<|c_seq<|c_region<|g_v rfl r_move<|g_v rfl r_move<|g_v rfl (r_lenL Try.underlying25 rfl)<|g_v rfl (r_lss rfl rfl)<|g_nil<|d_then ?_
  refine c_cond rfl (fun h258=>?_) (fun h258=>?_)
  ·
   replace hm:=ite_t hm (of_decide_eq_true h258)
   refine c_skip<|d_then<|c_seq<|c_block<|c_seq<|ga_start (n:=10) ⟨w0,M,H,R,φ⟩ [] #[false,false,false,false,false,false,false,false,false,false] (fun W h=>h.phi (fun W hφ=>hφ)) mixed rfl rfl<|ga_v (i:=0) (bz 10 1) rfl (by kernel_rfl) (fun _ _ _ _ h=>h) rfl (r_move)<|ga_v (i:=1) (bz 10 3) rfl (by kernel_rfl) (fun _ _ _ _ h=>h) rfl (r_move) ?_
   replace hm:=bnd hm
   obtain ⟨x299,hx299,hm⟩:=hm
   obtain ⟨pp303,hv304,hz305,hcp306⟩:=DOk.at_ hcp0_0.1 hx299
   refine ga_know _ (fun W hS=>cl_at (p:=(Sta.mk w0 M H R φ).ok) (sz:=9) (fun _=>rfl) (by decide) (ok_pre (H1:=[]) (R1:=[]) hS (fun W h=>h)) fp0_0 hv304) ?_
   rintro ⟨ad300,hA302,f301⟩
   have f307:=fun (W : World) (h : (Sta.mk w0 M H R φ).ok W)=>(fop0_0 W h _ hz305)
   refine ga_v (i:=2) (bz 10 7) rfl (by kernel_rfl) (fun _ _ _ _ h=>h) rfl (r_ix Try.underlying25 Try.sizeOf41 rfl hA302 rfl hx299)<|ga_v (i:=3) (bz 10 15) rfl (by kernel_rfl) (fun _ _ _ _ h=>h) rfl (r_ldA rfl Try.isAgg41 Try.sizeOf41 (fun W hS=>(f301 W (ok_pre (H1:=[]) (R1:=[]) hS (fun W h=>h))).take 9) rfl)<|ga_v (i:=4) (bz 10 31) rfl (by kernel_rfl) (fun _ _ _ _ h=>h) rfl (r_move)<|ga_r (i:=5) (bz 10 63) rfl (by kernel_rfl) (by decide) rfl (r_move) ?_
   replace hm:=bnd hm
   obtain ⟨x308,hx308,hm⟩:=hm
   obtain ⟨pp312,hv313,hz314,hcp315⟩:=DOk.at_ hcp1_0.1 hx308
   refine ga_know _ (fun W hS=>cl_at (p:=(Sta.mk w0 M H R φ).ok) (sz:=9) (fun _=>rfl) (by decide) (ok_pre (H1:=[]) (R1:=[]) hS (fun W h=>h)) fp1_0 hv313) ?_
   rintro ⟨ad309,hA311,f310⟩
   have f316:=fun (W : World) (h : (Sta.mk w0 M H R φ).ok W)=>(fop1_0 W h _ hz314)
   refine ga_r (i:=6) (bz 10 127) rfl (by kernel_rfl) (by decide) rfl (r_ix Try.underlying25 Try.sizeOf41 rfl hA311 rfl hx308)<|ga_r (i:=7) (bz 10 255) rfl (by kernel_rfl) (by decide) rfl (r_ldA rfl Try.isAgg41 Try.sizeOf41 (fun W hS=>(f310 W (ok_pre (H1:=[]) (R1:=[]) hS (fun W h=>h))).take 9) rfl) ?_
   replace hm:=bnd hm
   obtain ⟨x317,hx318,hm⟩:=hm
   refine ga_cn (first:=#[]) (i:=8) (bz 10 511) rfl (by kernel_rfl) (by decide)  ⟨w0,M,_,_,φ⟩ (fun _ h=>h) Try.call12 rfl rfl rfl (c_ref16_Same x299 pp303.pA0 pp303.pC0 hcp306 (fun W hS=>f307 W (ok_pre (H1:=[]) (R1:=[]) hS (fun W h=>h))) x308 pp312.pA0 pp312.pC0 hcp315 (fun W hS=>f316 W (ok_pre (H1:=[]) (R1:=[]) hS (fun W h=>h))) _ hx318) (fun _ W _ h=>h.phi (fun W hφ=>hφ)) (fun _ _=>?_)
   refine ga_r (i:=9) (bz 10 1023) rfl (by kernel_rfl) (by decide) rfl (r_assign)<|ga_done (by kernel_rfl)<|d_then ?_
   refine c_flat [(0,.slice Ap0_0 p0.length cp0_0),(1,.slice Ap1_0 p1.length cp1_0),(5,.int .i64 i193),(6,.bool x317)] ⟨rfl,rfl,rfl,rfl,trivial⟩ (fun u=>?_)
   refine c_seq<|c_region<|g_v rfl r_move<|g_v rfl (r_not rfl)<|g_nil<|d_then ?_
   refine c_cond rfl (fun h319=>?_) (fun h319=>?_)
   ·
    have h319' : x317 = false:=by revert h319; cases x317 <;> simp
    replace hm:=ite_f hm (bool_nt h319')
    refine c_seq<|c_region<|g_v rfl r_assign<|g_nil<|d_then<|c_ret<|d_ret_block<|d_ret_then<|d_ret_then<|d_ret_block ?_
    refine d_ret_then<|d_ret_then ?_
    replace hm:=nx_out (C:=(fun e : Unit ⊕ Bool=>Sum.elim (fun e=>m_ref16_SameAll_j1) (fun x=>some x) e = some r)) hm hnx2 hr2
    replace hm : some false = some r:=hm
    cases hm
    exact d_retC () Try.results11 (res_tmp (res_nil rfl)) trivial (fun W h=>ok_pre (H1:=[]) (R1:=[]) h (fun W hφ=>hφ)) (.inr rfl)
   have h319' : x317 = true:=by revert h319; cases x317 <;> simp
   replace hm:=ite_t hm h319'
   refine c_skip<|d_normal_block<|d_then<|c_region<|g_v rfl r_move<|g_v rfl (r_add rfl rfl rfl)<|g_v rfl r_assign<|g_nil ?_
   obtain ⟨n320,hn320,hlp⟩:=nx_inl hm hnx2
   exact d_round (n320,w64 (i193 + 1)) hlp hn320 ⟨rfl,rfl,rfl,trivial⟩ (fun W h=>h.phi (fun W hφ=>hφ))
  replace hm:=ite_f hm (of_decide_eq_false h258)
  refine c_exit<|d_exit_then<|d_exit_then<|d_exit_block ?_
  replace hm:=nx_out (C:=(fun e : Unit ⊕ Bool=>Sum.elim (fun e=>m_ref16_SameAll_j1) (fun x=>some x) e = some r)) hm hnx2 hr2
  exact d_round () hm Nat.zero_lt_one trivial (fun W h=>h.phi (fun W hφ=>hφ))
 unfold m_ref16_SameAll_j1 at hm
 refine d_flat [] trivial (fun u=>?_)
 refine d_sta ⟨w0,M,H,R,φ⟩ (fun _ h=>h)<|d_then<|c_seq<|c_region<|g_v rfl r_assign<|g_nil<|d_then<|c_ret ?_
 cases hm
 exact d_retC () Try.results11 (res_tmp (res_nil rfl)) trivial (fun W h=>ok_pre (H1:=[]) (R1:=[]) h (fun W hφ=>hφ)) (.inr rfl)
structure GNoteP where
  pA0 : Option Addr
  pC0 : Nat
  pA1 : Option Addr
  pC1 : Nat
def GNote.encP (z : GNote×GNoteP) : List Value:=[.int .i64 z.1.fKind,.int .i64 z.1.fFrom,.int .i64 z.1.fTo,.int .i64 z.1.fTerm,.int .i64 z.1.fIndex,.int .i64 z.1.fLogTerm,.int .i64 z.1.fCommit,.bool z.1.fGood,.slice z.2.pA0 z.1.fEntries.length z.2.pC0,.slice z.2.pA1 z.1.fVoters.length z.2.pC1,.string z.1.fSnap]
abbrev GNote.capP (z : GNote×GNoteP) : Prop:=z.1.fEntries.length ≤ z.2.pC0∧z.1.fVoters.length ≤ z.2.pC1
abbrev GNote.ownP (W : World) (z : GNote×GNoteP) : Prop:=Cl W z.2.pA0 (z.1.fEntries.flatMap GEntry.enc)∧Cl W z.2.pA1 (z.1.fVoters.flatMap (fun x : Int=>[Value.int .i64 x]))
theorem lit29_34 (z0 : Int) (z1 : Int) (z2 : Int) (z3 : Int) (z4 : Int) (z5 : Int) (z6 : Int) (z7 : Bool) (zAz8 : Option Addr) (znz8 : Nat) (zcz8 : Nat) (zAz9 : Option Addr) (znz9 : Nat) (zcz9 : Nat) (z10 : ByteArray) : Try.prog.builtSlice 29 1 [(0,.agg #[.int .i64 z0,.int .i64 z1,.int .i64 z2,.int .i64 z3,.int .i64 z4,.int .i64 z5,.int .i64 z6,.bool z7,.slice zAz8 znz8 zcz8,.slice zAz9 znz9 zcz9,.string z10])] = some #[.int .i64 z0,.int .i64 z1,.int .i64 z2,.int .i64 z3,.int .i64 z4,.int .i64 z5,.int .i64 z6,.bool z7,.slice zAz8 znz8 zcz8,.slice zAz9 znz9 zcz9,.string z10]:=by kernel_rfl
theorem bld103_35 (zA0 : Option Addr) (zn0 : Nat) (zc0 : Nat) : ∀ W,(Instr.build 103 #[(2,.slice zA0 zn0 zc0)]).run Try.prog W = .ok (.agg #[.int .i64 0,.int .i64 0,.slice zA0 zn0 zc0]) W:=fun _=>by kernel_rfl
theorem eqq56 (a b : GEntry) : ∀ d W,(Op.equalIn (d + 5) 56 (.agg #[.int .i64 a.fTerm,.int .i64 a.fKind,.string a.fData]) (.agg #[.int .i64 b.fTerm,.int .i64 b.fKind,.string b.fData])).run Try.prog W = .ok (decide (a = b)) W:=by
  intro d W
  have h:=eqs_of (d:=d + 4) (xs:=#[.int .i64 a.fTerm,.int .i64 a.fKind,.string a.fData]) (ys:=#[.int .i64 b.fTerm,.int .i64 b.fKind,.string b.fData]) (w:=W) Try.underlying56 (by kernel_rfl) (eqs_cons (a:=.int .i64 a.fTerm) (b:=.int .i64 b.fTerm) rfl (by kernel_rfl) (by kernel_rfl) (eqs_int Try.underlying3) (eqs_cons (a:=.int .i64 a.fKind) (b:=.int .i64 b.fKind) rfl (by kernel_rfl) (by kernel_rfl) (eqs_int Try.underlying3) (eqs_cons (a:=.string a.fData) (b:=.string b.fData) rfl (by kernel_rfl) (by kernel_rfl) (eqs_str Try.underlying9) eqs_nil)))
  refine h.trans ?_
  congr 1
  cases a; cases b
  simp only [GEntry.mk.injEq,Bool.and_true]
  simp only [Bool.decide_and]
theorem eqg56 : Try.prog.eqGuardType Try.prog.depth 56 = false:=by kernel_rfl
noncomputable def m_ref11_SameLog_j1  : Option Bool:=
  some true
noncomputable def m_ref11_SameLog_s2 (p0 : GLog) (p1 : GLog) (i89 : Int) : Option (Int ⊕ (Unit ⊕ Bool)):=
  if i89 < (p0.fEntries.length : Int) then
    (at_ p0.fEntries i89).bind fun x135=>
    (at_ p1.fEntries i89).bind fun x139=>
    if x135 = x139 then
      some (.inl (w64 (i89 + 1)))
    else
      some (.inr (.inr false))
  else
    some (.inr (.inl ()))
noncomputable def m_ref11_SameLog (p0 : GLog) (p1 : GLog) : Option Bool:=
  if p0.fBase ≠ p1.fBase then
    some false
  else
    if p0.fBaseTerm ≠ p1.fBaseTerm then
      some false
    else
      if (p0.fEntries.length : Int) ≠ (p1.fEntries.length : Int) then
        some false
      else
        (loop (fun s=>m_ref11_SameLog_s2 p0 p1 s) 0).bind fun e=>Sum.elim (fun e=>m_ref11_SameLog_j1) (fun x=>some x) e
theorem c_ref11_SameLog {w0 : World} {M : Nat→Prop} {H : List (Nat×Nat×Obj)} {R : List (Nat×Row)} {φ : World→Prop} (p0 : GLog) (Ap0_0 : Option Addr) (cp0_0 : Nat) (hcp0_0 : p0.fEntries.length ≤ cp0_0) (fp0_0 : ∀ W,(Sta.mk w0 M H R φ).ok W→Cl W Ap0_0 (p0.fEntries.flatMap GEntry.enc)) (p1 : GLog) (Ap1_0 : Option Addr) (cp1_0 : Nat) (hcp1_0 : p1.fEntries.length ≤ cp1_0) (fp1_0 : ∀ W,(Sta.mk w0 M H R φ).ok W→Cl W Ap1_0 (p1.fEntries.flatMap GEntry.enc)) (r : Bool) (hm : m_ref11_SameLog p0 p1 = some r) :
    Cn Try.prog 55 #[.agg #[.int .i64 p0.fBase,.int .i64 p0.fBaseTerm,.slice Ap0_0 p0.fEntries.length cp0_0],.agg #[.int .i64 p1.fBase,.int .i64 p1.fBaseTerm,.slice Ap1_0 p1.fEntries.length cp1_0]] ⟨w0,M,H,R,φ⟩ (fun x : Unit=>.bool r) (fun x=>True) (fun x=>⟨w0,M,H,R,φ⟩):=by
 unfold m_ref11_SameLog at hm
 refine cn_intro (fn:=Try.f55) (N:=45) Try.func55 rfl Try.ntmps55 rfl<|c_seq<|c_region ?_
 refine g_e rfl (e_box 100020 rfl) (fun g1 _=>?_)
 refine g_e rfl (e_box 100030 rfl) (fun g2 _=>?_)
 refine g_v rfl r_assign<|g_nil<|d_then<|c_seq<|c_seq<|c_region<|g_v rfl (r_field (n:=0) Try.underlying103 rfl Try.sizeOf3 rfl rfl)<|g_v rfl (r_load (tag:=100020) rfl rfl rfl Try.isAgg3)<|g_v rfl (r_field (n:=0) Try.underlying103 rfl Try.sizeOf3 rfl rfl)<|g_v rfl (r_load (tag:=100030) rfl rfl rfl Try.isAgg3) ?_
 refine g_v rfl (r_neq rfl rfl)<|g_v rfl r_move<|g_sta ⟨w0,M,(100030,g2,.cells #[.int .i64 p1.fBase,.int .i64 p1.fBaseTerm,.slice Ap1_0 p1.fEntries.length cp1_0] 103 (0,0))::(100020,g1,.cells #[.int .i64 p0.fBase,.int .i64 p0.fBaseTerm,.slice Ap0_0 p0.fEntries.length cp0_0] 103 (0,0))::H,R,φ⟩ (fun _ h=>h) ?_
 refine g_if rfl rfl rfl rfl rfl (fun h3=>?_) (fun h3=>?_)
 ·
  replace hm:=ite_f hm (of_decide_eq_false h3)
  refine g_v rfl (r_field (n:=1) Try.underlying103 rfl Try.sizeOf3 rfl rfl)<|g_do rfl rfl rfl rfl rfl h3<|g_v rfl (r_load (tag:=100020) rfl rfl rfl Try.isAgg3)<|g_do rfl rfl rfl rfl rfl h3<|g_v rfl (r_field (n:=1) Try.underlying103 rfl Try.sizeOf3 rfl rfl)<|g_do rfl rfl rfl rfl rfl h3<|g_v rfl (r_load (tag:=100030) rfl rfl rfl Try.isAgg3)<|g_do rfl rfl rfl rfl rfl h3<|g_v rfl (r_neq rfl rfl)<|g_v rfl (r_pick0 rfl h3) ?_
  refine g_v rfl r_move ?_
  refine g_if rfl rfl rfl rfl rfl (fun h4=>?_) (fun h4=>?_)
  ·
   replace hm:=ite_f hm (of_decide_eq_false h4)
   refine g_v rfl (r_field (n:=2) Try.underlying103 rfl Try.sizeOf26 rfl rfl)<|g_do rfl rfl rfl rfl rfl h4<|g_v rfl (r_load (tag:=100020) rfl rfl rfl Try.isAgg26)<|g_do rfl rfl rfl rfl rfl h4<|g_v rfl (r_lenL Try.underlying26 rfl)<|g_do rfl rfl rfl rfl rfl h4<|g_v rfl (r_field (n:=2) Try.underlying103 rfl Try.sizeOf26 rfl rfl)<|g_do rfl rfl rfl rfl rfl h4<|g_v rfl (r_load (tag:=100030) rfl rfl rfl Try.isAgg26)<|g_do rfl rfl rfl rfl rfl h4 ?_
   refine g_v rfl (r_lenL Try.underlying26 rfl)<|g_do rfl rfl rfl rfl rfl h4<|g_v rfl (r_neq rfl rfl)<|g_v rfl (r_pick0 rfl h4)<|g_nil<|d_then ?_
   refine c_flat [(2,.pointer (some ⟨g1,0,none⟩)),(3,.pointer (some ⟨g2,0,none⟩)),(26,.bool (decide ((p0.fEntries.length : Int) ≠ (p1.fEntries.length : Int))))] ⟨rfl,rfl,rfl,trivial⟩ (fun u=>?_)
   refine c_cond rfl (fun h5=>?_) (fun h5=>?_)
   ·
    replace hm:=ite_t hm (of_decide_eq_true h5)
    refine c_seq<|c_region<|g_v rfl r_assign<|g_nil<|d_then<|c_ret<|d_ret_then ?_
    cases hm
    exact d_retC () Try.results55 (res_tmp (res_nil rfl)) trivial (fun W h=>ok_pre (H1:=[_,_]) (R1:=[]) h (fun W hφ=>hφ)) (.inr rfl)
   replace hm:=ite_f hm (of_decide_eq_false h5)
   refine c_skip<|d_then<|c_seq<|c_seq<|c_region<|g_v rfl r_assign<|g_nil<|d_then ?_
   refine c_cut (ι:=Unit) [] (fun _=>[]) (fun _=>⟨w0,M,H,R,φ⟩) (fun _=>m_ref11_SameLog_j1 = some r) ?_ (fun _ u hm=>?_)
   ·
    refine c_block ?_
    replace hm:=bnd hm
    obtain ⟨out2,hl2,hr2⟩:=hm
    obtain ⟨n117',hl2⟩:=loop_lp hl2
    refine c_loopU (ι:=Nat×Int) [2,3,5] (fun ⟨n117,i89⟩=>[(5,.int .i64 i89)]) (fun ⟨n117,i89⟩=>⟨w0,M,(100030,g2,.cells #[.int .i64 p1.fBase,.int .i64 p1.fBaseTerm,.slice Ap1_0 p1.fEntries.length cp1_0] 103 (0,0))::(100020,g1,.cells #[.int .i64 p0.fBase,.int .i64 p0.fBaseTerm,.slice Ap0_0 p0.fEntries.length cp0_0] 103 (0,0))::H,R,φ⟩) (fun ⟨n117,i89⟩=>Lp (fun s=>m_ref11_SameLog_s2 p0 p1 s) n117 i89 out2) (fun ⟨n117,i89⟩=>n117) (n117',0) hl2 ⟨rfl,rfl,rfl,trivial⟩ (fun W h=>h.phi (fun W hφ=>hφ)) (fun ⟨n117,i89⟩ u hlp=>?_)
    obtain ⟨o2,hm,hnx2⟩:=lp_step hlp
    clear hlp
    replace hm : m_ref11_SameLog_s2 p0 p1 i89 = some o2:=hm
    unfold m_ref11_SameLog_s2 at hm
    refine c_flat [(2,.pointer (some ⟨g1,0,none⟩)),(3,.pointer (some ⟨g2,0,none⟩)),(5,.int .i64 i89)] ⟨rfl,rfl,rfl,trivial⟩ (fun u=>?_)
    refine c_seq<|c_seq<|c_region<|g_v rfl r_move<|g_v rfl (r_field (n:=2) Try.underlying103 rfl Try.sizeOf26 rfl rfl)<|g_v rfl (r_load (tag:=100020) rfl rfl rfl Try.isAgg26)<|g_v rfl (r_lenL Try.underlying26 rfl)<|g_v rfl (r_lss rfl rfl)<|g_nil<|d_then ?_
    refine c_cond rfl (fun h118=>?_) (fun h118=>?_)
    ·
     replace hm:=ite_t hm (of_decide_eq_true h118)
     refine c_skip<|d_then<|c_seq<|c_block<|c_seq<|ga_start (n:=11) ⟨w0,M,(100030,g2,.cells #[.int .i64 p1.fBase,.int .i64 p1.fBaseTerm,.slice Ap1_0 p1.fEntries.length cp1_0] 103 (0,0))::(100020,g1,.cells #[.int .i64 p0.fBase,.int .i64 p0.fBaseTerm,.slice Ap0_0 p0.fEntries.length cp0_0] 103 (0,0))::H,R,φ⟩ [] #[false,false,false,false,false,false,false,false,false,false,false] (fun W h=>h.phi (fun W hφ=>hφ)) mixed rfl rfl<|ga_v (i:=0) (bz 11 1) rfl (by kernel_rfl) (fun _ _ _ _ h=>h) rfl (r_field (n:=2) Try.underlying103 rfl Try.sizeOf26 rfl rfl)<|ga_v (i:=1) (bz 11 3) rfl (by kernel_rfl) (fun _ _ _ _ h=>h) rfl (r_load (tag:=100020) rfl rfl rfl Try.isAgg26)<|ga_v (i:=2) (bz 11 7) rfl (by kernel_rfl) (fun _ _ _ _ h=>h) rfl (r_move) ?_
     replace hm:=bnd hm
     obtain ⟨x135,hx135,hm⟩:=hm
     refine ga_know _ (fun W hS=>cl_at (p:=(Sta.mk w0 M H R φ).ok) (sz:=3) (fun _=>rfl) (by decide) (ok_pre (H1:=[_,_]) (R1:=[]) hS (fun W h=>h)) fp0_0 hx135) ?_
     rintro ⟨ad136,hA138,f137⟩
     refine ga_v (i:=3) (bz 11 15) rfl (by kernel_rfl) (fun _ _ _ _ h=>h) rfl (r_ix Try.underlying26 Try.sizeOf56 rfl hA138 rfl hx135)<|ga_v (i:=4) (bz 11 31) rfl (by kernel_rfl) (fun _ _ _ _ h=>h) rfl (r_ldA rfl Try.isAgg56 Try.sizeOf56 (fun W hS=>(f137 W (ok_pre (H1:=[_,_]) (R1:=[]) hS (fun W h=>h))).take 3) rfl)<|ga_v (i:=5) (bz 11 63) rfl (by kernel_rfl) (fun _ _ _ _ h=>h) rfl (r_field (n:=2) Try.underlying103 rfl Try.sizeOf26 rfl rfl)<|ga_v (i:=6) (bz 11 127) rfl (by kernel_rfl) (fun _ _ _ _ h=>h) rfl (r_load (tag:=100030) rfl rfl rfl Try.isAgg26)<|ga_r (i:=7) (bz 11 255) rfl (by kernel_rfl) (by decide) rfl (r_move) ?_
     replace hm:=bnd hm
     obtain ⟨x139,hx139,hm⟩:=hm
     refine ga_know _ (fun W hS=>cl_at (p:=(Sta.mk w0 M H R φ).ok) (sz:=3) (fun _=>rfl) (by decide) (ok_pre (H1:=[_,_]) (R1:=[]) hS (fun W h=>h)) fp1_0 hx139) ?_
     rintro ⟨ad140,hA142,f141⟩
     refine ga_r (i:=8) (bz 11 511) rfl (by kernel_rfl) (by decide) rfl (r_ix Try.underlying26 Try.sizeOf56 rfl hA142 rfl hx139)<|ga_r (i:=9) (bz 11 1023) rfl (by kernel_rfl) (by decide) rfl (r_ldA rfl Try.isAgg56 Try.sizeOf56 (fun W hS=>(f141 W (ok_pre (H1:=[_,_]) (R1:=[]) hS (fun W h=>h))).take 3) rfl)<|ga_r (i:=10) (bz 11 2047) rfl (by kernel_rfl) (by decide) rfl (r_neqA rfl rfl eqg56 (eqq56 x135 x139))<|ga_done (by kernel_rfl)<|d_then ?_
     refine c_flat [(2,.pointer (some ⟨g1,0,none⟩)),(3,.pointer (some ⟨g2,0,none⟩)),(5,.int .i64 i89),(44,.bool (!(decide (x135 = x139))))] ⟨rfl,rfl,rfl,rfl,trivial⟩ (fun u=>?_)
     refine c_cond rfl (fun h143=>?_) (fun h143=>?_)
     ·
      have h143' : (decide (x135 = x139)) = false:=by revert h143; cases (decide (x135 = x139)) <;> simp
      replace hm:=ite_f hm (of_decide_eq_false h143')
      refine c_seq<|c_region<|g_v rfl r_assign<|g_nil<|d_then<|c_ret<|d_ret_block<|d_ret_then<|d_ret_then<|d_ret_block ?_
      refine d_ret_then<|d_ret_then ?_
      replace hm:=nx_out (C:=(fun e : Unit ⊕ Bool=>Sum.elim (fun e=>m_ref11_SameLog_j1) (fun x=>some x) e = some r)) hm hnx2 hr2
      replace hm : some false = some r:=hm
      cases hm
      exact d_retC () Try.results55 (res_tmp (res_nil rfl)) trivial (fun W h=>ok_pre (H1:=[_,_]) (R1:=[]) h (fun W hφ=>hφ)) (.inr rfl)
     have h143' : (decide (x135 = x139)) = true:=by revert h143; cases (decide (x135 = x139)) <;> simp
     replace hm:=ite_t hm (of_decide_eq_true h143')
     refine c_skip<|d_normal_block<|d_then<|c_region<|g_v rfl r_move<|g_v rfl (r_add rfl rfl rfl)<|g_v rfl r_assign<|g_nil ?_
     obtain ⟨n144,hn144,hlp⟩:=nx_inl hm hnx2
     exact d_round (n144,w64 (i89 + 1)) hlp hn144 ⟨rfl,rfl,rfl,trivial⟩ (fun W h=>h.phi (fun W hφ=>hφ))
    replace hm:=ite_f hm (of_decide_eq_false h118)
    refine c_exit<|d_exit_then<|d_exit_then<|d_exit_block ?_
    replace hm:=nx_out (C:=(fun e : Unit ⊕ Bool=>Sum.elim (fun e=>m_ref11_SameLog_j1) (fun x=>some x) e = some r)) hm hnx2 hr2
    exact d_round () hm Nat.zero_lt_one trivial (fun W h=>((h.dropH (t:=100030) rfl).dropH (t:=100020) rfl).phi (fun W hφ=>hφ))
   unfold m_ref11_SameLog_j1 at hm
   refine d_flat [] trivial (fun u=>?_)
   refine d_sta ⟨w0,M,H,R,φ⟩ (fun _ h=>h)<|d_then<|c_seq<|c_region<|g_v rfl r_assign<|g_nil<|d_then<|c_ret ?_
   cases hm
   exact d_retC () Try.results55 (res_tmp (res_nil rfl)) trivial (fun W h=>ok_pre (H1:=[]) (R1:=[]) h (fun W hφ=>hφ)) (.inr rfl)
  replace hm:=ite_t hm (of_decide_eq_true h4)
  iterate 6 refine g_no rfl rfl rfl rfl rfl h4 ?_
  refine g_v rfl (r_pick1 rfl h4)<|g_nil<|d_then ?_
  refine c_flat [(2,.pointer (some ⟨g1,0,none⟩)),(3,.pointer (some ⟨g2,0,none⟩)),(26,.bool true)] ⟨rfl,rfl,rfl,trivial⟩ (fun u=>?_)
  refine c_cond1 rfl rfl<|c_seq<|c_region<|g_v rfl r_assign<|g_nil<|d_then<|c_ret<|d_ret_then ?_
  cases hm
  exact d_retC () Try.results55 (res_tmp (res_nil rfl)) trivial (fun W h=>ok_pre (H1:=[_,_]) (R1:=[]) h (fun W hφ=>hφ)) (.inr rfl)
 replace hm:=ite_t hm (of_decide_eq_true h3)
 iterate 4 refine g_no rfl rfl rfl rfl rfl h3 ?_
 refine g_v rfl (r_pick1 rfl h3)<|g_v rfl r_move ?_
 iterate 7 refine g_no rfl rfl rfl rfl rfl rfl ?_
 refine g_v rfl (r_pick1 rfl rfl)<|g_nil<|d_then ?_
 refine c_flat [(2,.pointer (some ⟨g1,0,none⟩)),(3,.pointer (some ⟨g2,0,none⟩)),(26,.bool true)] ⟨rfl,rfl,rfl,trivial⟩ (fun u=>?_)
 refine c_cond1 rfl rfl<|c_seq<|c_region<|g_v rfl r_assign<|g_nil<|d_then<|c_ret<|d_ret_then ?_
 cases hm
 exact d_retC () Try.results55 (res_tmp (res_nil rfl)) trivial (fun W h=>ok_pre (H1:=[_,_]) (R1:=[]) h (fun W hφ=>hφ)) (.inr rfl)
noncomputable def m_ref11_SameInts_j1  : Option Bool:=
  some true
noncomputable def m_ref11_SameInts_s2 (p0 : List Int) (p1 : List Int) (i85 : Int) : Option (Int ⊕ (Unit ⊕ Bool)):=
  if i85 < (p0.length : Int) then
    (at_ p0 i85).bind fun x131=>
    (at_ p1 i85).bind fun x135=>
    if x131 ≠ x135 then
      some (.inr (.inr false))
    else
      some (.inl (w64 (i85 + 1)))
  else
    some (.inr (.inl ()))
noncomputable def m_ref11_SameInts (p0 : List Int) (p1 : List Int) : Option Bool:=
  if (p0.length : Int) ≠ (p1.length : Int) then
    some false
  else
    (loop (fun s=>m_ref11_SameInts_s2 p0 p1 s) 0).bind fun e=>Sum.elim (fun e=>m_ref11_SameInts_j1) (fun x=>some x) e
theorem c_ref11_SameInts {w0 : World} {M : Nat→Prop} {H : List (Nat×Nat×Obj)} {R : List (Nat×Row)} {φ : World→Prop} (p0 : List Int) (Ap0_0 : Option Addr) (cp0_0 : Nat) (hcp0_0 : p0.length ≤ cp0_0) (fp0_0 : ∀ W,(Sta.mk w0 M H R φ).ok W→Cl W Ap0_0 (p0.flatMap (fun x : Int=>[Value.int .i64 x]))) (p1 : List Int) (Ap1_0 : Option Addr) (cp1_0 : Nat) (hcp1_0 : p1.length ≤ cp1_0) (fp1_0 : ∀ W,(Sta.mk w0 M H R φ).ok W→Cl W Ap1_0 (p1.flatMap (fun x : Int=>[Value.int .i64 x]))) (r : Bool) (hm : m_ref11_SameInts p0 p1 = some r) :
    Cn Try.prog 56 #[.slice Ap0_0 p0.length cp0_0,.slice Ap1_0 p1.length cp1_0] ⟨w0,M,H,R,φ⟩ (fun x : Unit=>.bool r) (fun x=>True) (fun x=>⟨w0,M,H,R,φ⟩):=by
 unfold m_ref11_SameInts at hm
 refine cn_intro (fn:=Try.f56) (N:=26) Try.func56 rfl Try.ntmps56 rfl<|c_seq<|c_region<|g_v rfl r_assign<|g_nil<|d_then<|c_seq<|c_seq<|c_region<|g_v rfl r_move ?_
 refine g_v rfl (r_lenL Try.underlying27 rfl)<|g_v rfl r_move<|g_v rfl (r_lenL Try.underlying27 rfl)<|g_v rfl (r_neq rfl rfl)<|g_nil<|d_then ?_
 refine c_cond rfl (fun h1=>?_) (fun h1=>?_)
 ·
  replace hm:=ite_t hm (of_decide_eq_true h1)
  refine c_seq<|c_region<|g_v rfl r_assign<|g_nil<|d_then<|c_ret<|d_ret_then ?_
  cases hm
  exact d_retC () Try.results56 (res_tmp (res_nil rfl)) trivial (fun W h=>ok_pre (H1:=[]) (R1:=[]) h (fun W hφ=>hφ)) (.inr rfl)
 replace hm:=ite_f hm (of_decide_eq_false h1)
 refine c_skip<|d_then<|c_seq<|c_seq<|c_region<|g_v rfl r_assign<|g_nil<|d_then ?_
 refine c_cut (ι:=Unit) [] (fun _=>[]) (fun _=>⟨w0,M,H,R,φ⟩) (fun _=>m_ref11_SameInts_j1 = some r) ?_ (fun _ u hm=>?_)
 ·
  refine c_block ?_
  replace hm:=bnd hm
  obtain ⟨out2,hl2,hr2⟩:=hm
  obtain ⟨n113',hl2⟩:=loop_lp hl2
  refine c_loopU (ι:=Nat×Int) [0,1,5] (fun ⟨n113,i85⟩=>[(5,.int .i64 i85)]) (fun ⟨n113,i85⟩=>⟨w0,M,H,R,φ⟩) (fun ⟨n113,i85⟩=>Lp (fun s=>m_ref11_SameInts_s2 p0 p1 s) n113 i85 out2) (fun ⟨n113,i85⟩=>n113) (n113',0) hl2 ⟨rfl,rfl,rfl,trivial⟩ (fun W h=>h.phi (fun W hφ=>hφ)) (fun ⟨n113,i85⟩ u hlp=>?_)
  obtain ⟨o2,hm,hnx2⟩:=lp_step hlp
  clear hlp
  replace hm : m_ref11_SameInts_s2 p0 p1 i85 = some o2:=hm
  unfold m_ref11_SameInts_s2 at hm
  refine c_flat [(0,.slice Ap0_0 p0.length cp0_0),(1,.slice Ap1_0 p1.length cp1_0),(5,.int .i64 i85)] ⟨rfl,rfl,rfl,trivial⟩ (fun u=>?_)
  refine c_sta ⟨w0,M,H,R,φ⟩ (fun _ h=>h)<|c_seq<|c_seq<|c_region<|g_v rfl r_move<|g_v rfl r_move<|g_v rfl (r_lenL Try.underlying27 rfl)<|g_v rfl (r_lss rfl rfl)<|g_nil<|d_then ?_
  refine c_cond rfl (fun h114=>?_) (fun h114=>?_)
  ·
   replace hm:=ite_t hm (of_decide_eq_true h114)
   refine c_skip<|d_then<|c_seq<|c_block<|c_seq<|ga_start (n:=9) ⟨w0,M,H,R,φ⟩ [] #[false,false,false,false,false,false,false,false,false] (fun W h=>h.phi (fun W hφ=>hφ)) mixed rfl rfl<|ga_v (i:=0) (bz 9 1) rfl (by kernel_rfl) (fun _ _ _ _ h=>h) rfl (r_move)<|ga_v (i:=1) (bz 9 3) rfl (by kernel_rfl) (fun _ _ _ _ h=>h) rfl (r_move) ?_
   replace hm:=bnd hm
   obtain ⟨x131,hx131,hm⟩:=hm
   refine ga_know _ (fun W hS=>cl_at (p:=(Sta.mk w0 M H R φ).ok) (sz:=1) (fun _=>rfl) (by decide) (ok_pre (H1:=[]) (R1:=[]) hS (fun W h=>h)) fp0_0 hx131) ?_
   rintro ⟨ad132,hA134,f133⟩
   refine ga_v (i:=2) (bz 9 7) rfl (by kernel_rfl) (fun _ _ _ _ h=>h) rfl (r_ix Try.underlying27 Try.sizeOf3 rfl hA134 rfl hx131)<|ga_v (i:=3) (bz 9 15) rfl (by kernel_rfl) (fun _ _ _ _ h=>h) rfl (r_ld rfl Try.isAgg3 (fun W hS=>Cl.head (f133 W (ok_pre (H1:=[]) (R1:=[]) hS (fun W h=>h)))))<|ga_v (i:=4) (bz 9 31) rfl (by kernel_rfl) (fun _ _ _ _ h=>h) rfl (r_move)<|ga_r (i:=5) (bz 9 63) rfl (by kernel_rfl) (by decide) rfl (r_move) ?_
   replace hm:=bnd hm
   obtain ⟨x135,hx135,hm⟩:=hm
   refine ga_know _ (fun W hS=>cl_at (p:=(Sta.mk w0 M H R φ).ok) (sz:=1) (fun _=>rfl) (by decide) (ok_pre (H1:=[]) (R1:=[]) hS (fun W h=>h)) fp1_0 hx135) ?_
   rintro ⟨ad136,hA138,f137⟩
   refine ga_r (i:=6) (bz 9 127) rfl (by kernel_rfl) (by decide) rfl (r_ix Try.underlying27 Try.sizeOf3 rfl hA138 rfl hx135)<|ga_r (i:=7) (bz 9 255) rfl (by kernel_rfl) (by decide) rfl (r_ld rfl Try.isAgg3 (fun W hS=>Cl.head (f137 W (ok_pre (H1:=[]) (R1:=[]) hS (fun W h=>h)))))<|ga_r (i:=8) (bz 9 511) rfl (by kernel_rfl) (by decide) rfl (r_neq rfl rfl)<|ga_done (by kernel_rfl)<|d_then ?_
   refine c_flat [(0,.slice Ap0_0 p0.length cp0_0),(1,.slice Ap1_0 p1.length cp1_0),(5,.int .i64 i85),(25,.bool (decide (x131 ≠ x135)))] ⟨rfl,rfl,rfl,rfl,trivial⟩ (fun u=>?_)
   refine c_cond rfl (fun h139=>?_) (fun h139=>?_)
   ·
    replace hm:=ite_t hm (of_decide_eq_true h139)
    refine c_seq<|c_region<|g_v rfl r_assign<|g_nil<|d_then<|c_ret<|d_ret_block<|d_ret_then<|d_ret_then<|d_ret_block ?_
    refine d_ret_then<|d_ret_then ?_
    replace hm:=nx_out (C:=(fun e : Unit ⊕ Bool=>Sum.elim (fun e=>m_ref11_SameInts_j1) (fun x=>some x) e = some r)) hm hnx2 hr2
    replace hm : some false = some r:=hm
    cases hm
    exact d_retC () Try.results56 (res_tmp (res_nil rfl)) trivial (fun W h=>ok_pre (H1:=[]) (R1:=[]) h (fun W hφ=>hφ)) (.inr rfl)
   replace hm:=ite_f hm (of_decide_eq_false h139)
   refine c_skip<|d_normal_block<|d_then<|c_region<|g_v rfl r_move<|g_v rfl (r_add rfl rfl rfl)<|g_v rfl r_assign<|g_nil ?_
   obtain ⟨n140,hn140,hlp⟩:=nx_inl hm hnx2
   exact d_round (n140,w64 (i85 + 1)) hlp hn140 ⟨rfl,rfl,rfl,trivial⟩ (fun W h=>h.phi (fun W hφ=>hφ))
  replace hm:=ite_f hm (of_decide_eq_false h114)
  refine c_exit<|d_exit_then<|d_exit_then<|d_exit_block ?_
  replace hm:=nx_out (C:=(fun e : Unit ⊕ Bool=>Sum.elim (fun e=>m_ref11_SameInts_j1) (fun x=>some x) e = some r)) hm hnx2 hr2
  exact d_round () hm Nat.zero_lt_one trivial (fun W h=>h.phi (fun W hφ=>hφ))
 unfold m_ref11_SameInts_j1 at hm
 refine d_flat [] trivial (fun u=>?_)
 refine d_sta ⟨w0,M,H,R,φ⟩ (fun _ h=>h)<|d_then<|c_seq<|c_region<|g_v rfl r_assign<|g_nil<|d_then<|c_ret ?_
 cases hm
 exact d_retC () Try.results56 (res_tmp (res_nil rfl)) trivial (fun W h=>ok_pre (H1:=[]) (R1:=[]) h (fun W hφ=>hφ)) (.inr rfl)
noncomputable def m_ref12_SameNotes_j1  : Option Bool:=
  some true
noncomputable def m_ref12_SameNotes_s2 (p0 : List GNote) (p1 : List GNote) (i121 : Int) : Option (Int ⊕ (Unit ⊕ Bool)):=
  if i121 < (p0.length : Int) then
    (at_ p0 i121).bind fun x163=>
    (at_ p1 i121).bind fun x174=>
    (m_ref11_SameLog (⟨0,0,x163.fEntries⟩ : GLog) (⟨0,0,x174.fEntries⟩ : GLog)).bind fun x185=>
    (m_ref11_SameInts x163.fVoters x174.fVoters).bind fun x187=>
    if x163.fKind ≠ x174.fKind then
      some (.inr (.inr false))
    else
      if x163.fFrom ≠ x174.fFrom then
        some (.inr (.inr false))
      else
        if x163.fTo ≠ x174.fTo then
          some (.inr (.inr false))
        else
          if x163.fTerm ≠ x174.fTerm then
            some (.inr (.inr false))
          else
            if x163.fIndex ≠ x174.fIndex then
              some (.inr (.inr false))
            else
              if x163.fLogTerm ≠ x174.fLogTerm then
                some (.inr (.inr false))
              else
                if x163.fCommit ≠ x174.fCommit then
                  some (.inr (.inr false))
                else
                  if (!(x163.fGood == x174.fGood)) = true then
                    some (.inr (.inr false))
                  else
                    if x163.fSnap = x174.fSnap then
                      if x185 = true then
                        if x187 = true then
                          some (.inl (w64 (i121 + 1)))
                        else
                          some (.inr (.inr false))
                      else
                        some (.inr (.inr false))
                    else
                      some (.inr (.inr false))
  else
    some (.inr (.inl ()))
noncomputable def m_ref12_SameNotes (p0 : List GNote) (p1 : List GNote) : Option Bool:=
  if (p0.length : Int) ≠ (p1.length : Int) then
    some false
  else
    (loop (fun s=>m_ref12_SameNotes_s2 p0 p1 s) 0).bind fun e=>Sum.elim (fun e=>m_ref12_SameNotes_j1) (fun x=>some x) e
theorem c_ref12_SameNotes {w0 : World} {M : Nat→Prop} {H : List (Nat×Nat×Obj)} {R : List (Nat×Row)} {φ : World→Prop} (p0 : List GNote) (Ap0_0 : Option Addr) (cp0_0 : Nat) (psp0_0 : List GNoteP) (hcp0_0 : (DOk GNote.capP p0 psp0_0∧p0.length ≤ cp0_0)) (fp0_0 : ∀ W,(Sta.mk w0 M H R φ).ok W→Cl W Ap0_0 ((p0.zip psp0_0).flatMap GNote.encP)) (fop0_0 : ∀ W,(Sta.mk w0 M H R φ).ok W→DOwn GNote.ownP p0 psp0_0 W) (p1 : List GNote) (Ap1_0 : Option Addr) (cp1_0 : Nat) (psp1_0 : List GNoteP) (hcp1_0 : (DOk GNote.capP p1 psp1_0∧p1.length ≤ cp1_0)) (fp1_0 : ∀ W,(Sta.mk w0 M H R φ).ok W→Cl W Ap1_0 ((p1.zip psp1_0).flatMap GNote.encP)) (fop1_0 : ∀ W,(Sta.mk w0 M H R φ).ok W→DOwn GNote.ownP p1 psp1_0 W) (r : Bool) (hm : m_ref12_SameNotes p0 p1 = some r) :
    Cn Try.prog 34 #[.slice Ap0_0 p0.length cp0_0,.slice Ap1_0 p1.length cp1_0] ⟨w0,M,H,R,φ⟩ (fun x : Unit=>.bool r) (fun x=>True) (fun x=>⟨w0,M,H,R,φ⟩):=by
 unfold m_ref12_SameNotes at hm
 refine cn_intro (fn:=Try.f34) (N:=110) Try.func34 rfl Try.ntmps34 rfl<|c_seq<|c_region<|g_v rfl r_assign<|g_nil<|d_then<|c_seq<|c_seq<|c_region<|g_v rfl r_move ?_
 refine g_v rfl (r_lenL Try.underlying75 rfl)<|g_v rfl r_move<|g_v rfl (r_lenL Try.underlying75 rfl)<|g_v rfl (r_neq rfl rfl)<|g_nil<|d_then ?_
 refine c_cond rfl (fun h1=>?_) (fun h1=>?_)
 ·
  replace hm:=ite_t hm (of_decide_eq_true h1)
  refine c_seq<|c_region<|g_v rfl r_assign<|g_nil<|d_then<|c_ret<|d_ret_then ?_
  cases hm
  exact d_retC () Try.results34 (res_tmp (res_nil rfl)) trivial (fun W h=>ok_pre (H1:=[]) (R1:=[]) h (fun W hφ=>hφ)) (.inr rfl)
 replace hm:=ite_f hm (of_decide_eq_false h1)
 refine c_skip<|d_then<|c_seq<|c_seq<|c_region<|g_v rfl r_assign<|g_nil<|d_then ?_
 refine c_cut (ι:=Unit) [] (fun _=>[]) (fun _=>⟨w0,M,H,R,φ⟩) (fun _=>m_ref12_SameNotes_j1 = some r) ?_ (fun _ u hm=>?_)
 ·
  refine c_block ?_
  replace hm:=bnd hm
  obtain ⟨out2,hl2,hr2⟩:=hm
  obtain ⟨n161',hl2⟩:=loop_lp hl2
  refine c_loopU (ι:=Nat×Int) [0,1,5] (fun ⟨n161,i121⟩=>[(5,.int .i64 i121)]) (fun ⟨n161,i121⟩=>⟨w0,M,H,R,φ⟩) (fun ⟨n161,i121⟩=>Lp (fun s=>m_ref12_SameNotes_s2 p0 p1 s) n161 i121 out2) (fun ⟨n161,i121⟩=>n161) (n161',0) hl2 ⟨rfl,rfl,rfl,trivial⟩ (fun W h=>h.phi (fun W hφ=>hφ)) (fun ⟨n161,i121⟩ u hlp=>?_)
  obtain ⟨o2,hm,hnx2⟩:=lp_step hlp
  clear hlp
  replace hm : m_ref12_SameNotes_s2 p0 p1 i121 = some o2:=hm
  unfold m_ref12_SameNotes_s2 at hm
  refine c_flat [(0,.slice Ap0_0 p0.length cp0_0),(1,.slice Ap1_0 p1.length cp1_0),(5,.int .i64 i121)] ⟨rfl,rfl,rfl,trivial⟩ (fun u=>?_)
  refine c_sta ⟨w0,M,H,R,φ⟩ (fun _ h=>h)<|c_seq<|c_seq<|c_region<|g_v rfl r_move<|g_v rfl r_move<|g_v rfl (r_lenL Try.underlying75 rfl)<|g_v rfl (r_lss rfl rfl)<|g_nil<|d_then ?_
  refine c_cond rfl (fun h162=>?_) (fun h162=>?_)
  ·
   replace hm:=ite_t hm (of_decide_eq_true h162)
   refine c_skip<|d_then<|c_seq<|c_block<|c_seq<|c_region<|g_v rfl r_move<|g_v rfl r_move ?_
   replace hm:=bnd hm
   obtain ⟨x163,hx163,hm⟩:=hm
   obtain ⟨pp167,hv168,hz169,hcp170⟩:=DOk.at_ hcp0_0.1 hx163
   refine g_know _ (fun W hS=>cl_at (p:=(Sta.mk w0 M H R φ).ok) (sz:=11) (fun _=>rfl) (by decide) (ok_pre (H1:=[]) (R1:=[]) hS (fun W h=>h)) fp0_0 hv168) ?_
   rintro ⟨ad164,hA166,f165⟩
   have f171:=fun (W : World) (h : (Sta.mk w0 M H R φ).ok W)=>(fop0_0 W h _ hz169).1
   have f172:=fun (W : World) (h : (Sta.mk w0 M H R φ).ok W)=>(fop0_0 W h _ hz169).2
   refine g_v rfl (r_ix Try.underlying75 Try.sizeOf29 rfl hA166 rfl hx163)<|g_v rfl (r_ldA rfl Try.isAgg29 Try.sizeOf29 (fun W hS=>(f165 W (ok_pre (H1:=[]) (R1:=[]) hS (fun W h=>h))).take 11) rfl) ?_
   refine g_e rfl (e_alloc 100060 Try.zeroValue29) (fun g173 _=>?_)
   refine g_storeL (tag:=100060) rfl rfl rfl rfl Try.sizeOf29 rfl rfl<|g_nil<|d_then ?_
   refine c_flat [(0,.slice Ap0_0 p0.length cp0_0),(1,.slice Ap1_0 p1.length cp1_0),(5,.int .i64 i121),(6,.pointer (some ⟨g173,0,none⟩))] ⟨rfl,rfl,rfl,rfl,trivial⟩ (fun u=>?_)
   refine c_sta ⟨w0,M,(100060,g173,.cells #[.int .i64 x163.fKind,.int .i64 x163.fFrom,.int .i64 x163.fTo,.int .i64 x163.fTerm,.int .i64 x163.fIndex,.int .i64 x163.fLogTerm,.int .i64 x163.fCommit,.bool x163.fGood,.slice pp167.pA0 x163.fEntries.length pp167.pC0,.slice pp167.pA1 x163.fVoters.length pp167.pC1,.string x163.fSnap] 29 (0,0))::H,R,φ⟩ (fun _ h=>h)<|c_seq<|c_region<|g_v rfl r_move<|g_v rfl r_move ?_
   replace hm:=bnd hm
   obtain ⟨x174,hx174,hm⟩:=hm
   obtain ⟨pp178,hv179,hz180,hcp181⟩:=DOk.at_ hcp1_0.1 hx174
   refine g_know _ (fun W hS=>cl_at (p:=(Sta.mk w0 M H R φ).ok) (sz:=11) (fun _=>rfl) (by decide) (ok_pre (H1:=[_]) (R1:=[]) hS (fun W h=>h)) fp1_0 hv179) ?_
   rintro ⟨ad175,hA177,f176⟩
   have f182:=fun (W : World) (h : (Sta.mk w0 M H R φ).ok W)=>(fop1_0 W h _ hz180).1
   have f183:=fun (W : World) (h : (Sta.mk w0 M H R φ).ok W)=>(fop1_0 W h _ hz180).2
   refine g_v rfl (r_ix Try.underlying75 Try.sizeOf29 rfl hA177 rfl hx174)<|g_v rfl (r_ldA rfl Try.isAgg29 Try.sizeOf29 (fun W hS=>(f176 W (ok_pre (H1:=[_]) (R1:=[]) hS (fun W h=>h))).take 11) rfl) ?_
   refine g_e rfl (e_alloc 100070 Try.zeroValue29) (fun g184 _=>?_)
   refine g_storeL (tag:=100070) rfl rfl rfl rfl Try.sizeOf29 rfl rfl<|g_nil<|d_then<|c_seq<|c_region<|g_v rfl (r_field (n:=8) Try.underlying29 rfl Try.sizeOf26 rfl rfl)<|g_v rfl (r_load (tag:=100060) rfl rfl rfl Try.isAgg26)<|g_v rfl (r_build _ rfl (bld103_35 _ _ _))<|g_v rfl (r_field (n:=8) Try.underlying29 rfl Try.sizeOf26 rfl rfl)<|g_v rfl (r_load (tag:=100070) rfl rfl rfl Try.isAgg26) ?_
   refine g_v rfl (r_build _ rfl (bld103_35 _ _ _)) ?_
   replace hm:=bnd hm
   obtain ⟨x185,hx186,hm⟩:=hm
   refine g_cn ⟨w0,M,_,_,φ⟩ (fun _ h=>h) Try.call55 rfl rfl (c_ref11_SameLog (⟨0,0,x163.fEntries⟩ : GLog) pp167.pA0 pp167.pC0 ((hcp170).1) (fun W hS=>f171 W (ok_pre (H1:=[_,_]) (R1:=[]) hS (fun W h=>h))) (⟨0,0,x174.fEntries⟩ : GLog) pp178.pA0 pp178.pC0 ((hcp181).1) (fun W hS=>f182 W (ok_pre (H1:=[_,_]) (R1:=[]) hS (fun W h=>h))) _ hx186) (fun _ _=>?_)
   refine g_v rfl r_assign<|g_nil<|d_then ?_
   refine c_flat [(0,.slice Ap0_0 p0.length cp0_0),(1,.slice Ap1_0 p1.length cp1_0),(5,.int .i64 i121),(6,.pointer (some ⟨g173,0,none⟩)),(7,.pointer (some ⟨g184,0,none⟩)),(8,.bool x185)] ⟨rfl,rfl,rfl,rfl,rfl,rfl,trivial⟩ (fun u=>?_)
   refine c_sta ⟨w0,M,(100070,g184,.cells #[.int .i64 x174.fKind,.int .i64 x174.fFrom,.int .i64 x174.fTo,.int .i64 x174.fTerm,.int .i64 x174.fIndex,.int .i64 x174.fLogTerm,.int .i64 x174.fCommit,.bool x174.fGood,.slice pp178.pA0 x174.fEntries.length pp178.pC0,.slice pp178.pA1 x174.fVoters.length pp178.pC1,.string x174.fSnap] 29 (0,0))::(100060,g173,.cells #[.int .i64 x163.fKind,.int .i64 x163.fFrom,.int .i64 x163.fTo,.int .i64 x163.fTerm,.int .i64 x163.fIndex,.int .i64 x163.fLogTerm,.int .i64 x163.fCommit,.bool x163.fGood,.slice pp167.pA0 x163.fEntries.length pp167.pC0,.slice pp167.pA1 x163.fVoters.length pp167.pC1,.string x163.fSnap] 29 (0,0))::H,R,φ⟩ (fun _ h=>h)<|c_seq<|c_region<|g_v rfl (r_field (n:=9) Try.underlying29 rfl Try.sizeOf27 rfl rfl)<|g_v rfl (r_load (tag:=100060) rfl rfl rfl Try.isAgg27)<|g_v rfl (r_field (n:=9) Try.underlying29 rfl Try.sizeOf27 rfl rfl)<|g_v rfl (r_load (tag:=100070) rfl rfl rfl Try.isAgg27) ?_
   replace hm:=bnd hm
   obtain ⟨x187,hx188,hm⟩:=hm
   refine g_cn ⟨w0,M,_,_,φ⟩ (fun _ h=>h) Try.call56 rfl rfl (c_ref11_SameInts x163.fVoters pp167.pA1 pp167.pC1 ((hcp170).2) (fun W hS=>f172 W (ok_pre (H1:=[_,_]) (R1:=[]) hS (fun W h=>h))) x174.fVoters pp178.pA1 pp178.pC1 ((hcp181).2) (fun W hS=>f183 W (ok_pre (H1:=[_,_]) (R1:=[]) hS (fun W h=>h))) _ hx188) (fun _ _=>?_)
   refine g_v rfl r_assign<|g_nil<|d_then<|c_seq<|c_region<|g_v rfl (r_field (n:=0) Try.underlying29 rfl Try.sizeOf3 rfl rfl)<|g_v rfl (r_load (tag:=100060) rfl rfl rfl Try.isAgg3)<|g_v rfl (r_field (n:=0) Try.underlying29 rfl Try.sizeOf3 rfl rfl)<|g_v rfl (r_load (tag:=100070) rfl rfl rfl Try.isAgg3)<|g_v rfl (r_neq rfl rfl) ?_
   refine g_v rfl r_move ?_
   refine g_if rfl rfl rfl rfl rfl (fun h189=>?_) (fun h189=>?_)
   ·
    replace hm:=ite_f hm (of_decide_eq_false h189)
    refine g_v rfl (r_field (n:=1) Try.underlying29 rfl Try.sizeOf3 rfl rfl)<|g_do rfl rfl rfl rfl rfl h189<|g_v rfl (r_load (tag:=100060) rfl rfl rfl Try.isAgg3)<|g_do rfl rfl rfl rfl rfl h189<|g_v rfl (r_field (n:=1) Try.underlying29 rfl Try.sizeOf3 rfl rfl)<|g_do rfl rfl rfl rfl rfl h189<|g_v rfl (r_load (tag:=100070) rfl rfl rfl Try.isAgg3)<|g_do rfl rfl rfl rfl rfl h189<|g_v rfl (r_neq rfl rfl)<|g_v rfl (r_pick0 rfl h189) ?_
    refine g_v rfl r_move ?_
    refine g_if rfl rfl rfl rfl rfl (fun h190=>?_) (fun h190=>?_)
    ·
     replace hm:=ite_f hm (of_decide_eq_false h190)
     refine g_v rfl (r_field (n:=2) Try.underlying29 rfl Try.sizeOf3 rfl rfl)<|g_do rfl rfl rfl rfl rfl h190<|g_v rfl (r_load (tag:=100060) rfl rfl rfl Try.isAgg3)<|g_do rfl rfl rfl rfl rfl h190<|g_v rfl (r_field (n:=2) Try.underlying29 rfl Try.sizeOf3 rfl rfl)<|g_do rfl rfl rfl rfl rfl h190<|g_v rfl (r_load (tag:=100070) rfl rfl rfl Try.isAgg3)<|g_do rfl rfl rfl rfl rfl h190<|g_v rfl (r_neq rfl rfl)<|g_v rfl (r_pick0 rfl h190) ?_
     refine g_v rfl r_move ?_
     refine g_if rfl rfl rfl rfl rfl (fun h191=>?_) (fun h191=>?_)
     ·
      replace hm:=ite_f hm (of_decide_eq_false h191)
      refine g_v rfl (r_field (n:=3) Try.underlying29 rfl Try.sizeOf3 rfl rfl)<|g_do rfl rfl rfl rfl rfl h191<|g_v rfl (r_load (tag:=100060) rfl rfl rfl Try.isAgg3)<|g_do rfl rfl rfl rfl rfl h191<|g_v rfl (r_field (n:=3) Try.underlying29 rfl Try.sizeOf3 rfl rfl)<|g_do rfl rfl rfl rfl rfl h191<|g_v rfl (r_load (tag:=100070) rfl rfl rfl Try.isAgg3)<|g_do rfl rfl rfl rfl rfl h191<|g_v rfl (r_neq rfl rfl)<|g_v rfl (r_pick0 rfl h191) ?_
      refine g_v rfl r_move ?_
      refine g_if rfl rfl rfl rfl rfl (fun h192=>?_) (fun h192=>?_)
      ·
       replace hm:=ite_f hm (of_decide_eq_false h192)
       refine g_v rfl (r_field (n:=4) Try.underlying29 rfl Try.sizeOf3 rfl rfl)<|g_do rfl rfl rfl rfl rfl h192<|g_v rfl (r_load (tag:=100060) rfl rfl rfl Try.isAgg3)<|g_do rfl rfl rfl rfl rfl h192<|g_v rfl (r_field (n:=4) Try.underlying29 rfl Try.sizeOf3 rfl rfl)<|g_do rfl rfl rfl rfl rfl h192<|g_v rfl (r_load (tag:=100070) rfl rfl rfl Try.isAgg3)<|g_do rfl rfl rfl rfl rfl h192<|g_v rfl (r_neq rfl rfl)<|g_v rfl (r_pick0 rfl h192) ?_
       refine g_v rfl r_move ?_
       refine g_if rfl rfl rfl rfl rfl (fun h193=>?_) (fun h193=>?_)
       ·
        replace hm:=ite_f hm (of_decide_eq_false h193)
        refine g_v rfl (r_field (n:=5) Try.underlying29 rfl Try.sizeOf3 rfl rfl)<|g_do rfl rfl rfl rfl rfl h193<|g_v rfl (r_load (tag:=100060) rfl rfl rfl Try.isAgg3)<|g_do rfl rfl rfl rfl rfl h193<|g_v rfl (r_field (n:=5) Try.underlying29 rfl Try.sizeOf3 rfl rfl)<|g_do rfl rfl rfl rfl rfl h193<|g_v rfl (r_load (tag:=100070) rfl rfl rfl Try.isAgg3)<|g_do rfl rfl rfl rfl rfl h193<|g_v rfl (r_neq rfl rfl)<|g_v rfl (r_pick0 rfl h193) ?_
        refine g_v rfl r_move ?_
        refine g_if rfl rfl rfl rfl rfl (fun h194=>?_) (fun h194=>?_)
        ·
         replace hm:=ite_f hm (of_decide_eq_false h194)
         refine g_v rfl (r_field (n:=6) Try.underlying29 rfl Try.sizeOf3 rfl rfl)<|g_do rfl rfl rfl rfl rfl h194<|g_v rfl (r_load (tag:=100060) rfl rfl rfl Try.isAgg3)<|g_do rfl rfl rfl rfl rfl h194<|g_v rfl (r_field (n:=6) Try.underlying29 rfl Try.sizeOf3 rfl rfl)<|g_do rfl rfl rfl rfl rfl h194<|g_v rfl (r_load (tag:=100070) rfl rfl rfl Try.isAgg3)<|g_do rfl rfl rfl rfl rfl h194<|g_v rfl (r_neq rfl rfl)<|g_v rfl (r_pick0 rfl h194) ?_
         refine g_v rfl r_move ?_
         refine g_if rfl rfl rfl rfl rfl (fun h195=>?_) (fun h195=>?_)
         ·
          replace hm:=ite_f hm (of_decide_eq_false h195)
          refine g_v rfl (r_field (n:=7) Try.underlying29 rfl Try.sizeOf4 rfl rfl)<|g_do rfl rfl rfl rfl rfl h195<|g_v rfl (r_load (tag:=100060) rfl rfl rfl Try.isAgg4)<|g_do rfl rfl rfl rfl rfl h195<|g_v rfl (r_field (n:=7) Try.underlying29 rfl Try.sizeOf4 rfl rfl)<|g_do rfl rfl rfl rfl rfl h195<|g_v rfl (r_load (tag:=100070) rfl rfl rfl Try.isAgg4)<|g_do rfl rfl rfl rfl rfl h195<|g_v rfl (r_neqBo Try.underlying4 rfl rfl)<|g_v rfl (r_pick0 rfl h195) ?_
          refine g_v rfl r_move ?_
          refine g_if rfl rfl rfl rfl rfl (fun h196=>?_) (fun h196=>?_)
          ·
           replace hm:=ite_f hm (bool_nt h196)
           refine g_v rfl (r_field (n:=10) Try.underlying29 rfl Try.sizeOf9 rfl rfl)<|g_do rfl rfl rfl rfl rfl h196<|g_v rfl (r_load (tag:=100060) rfl rfl rfl Try.isAgg9)<|g_do rfl rfl rfl rfl rfl h196<|g_v rfl (r_field (n:=10) Try.underlying29 rfl Try.sizeOf9 rfl rfl)<|g_do rfl rfl rfl rfl rfl h196<|g_v rfl (r_load (tag:=100070) rfl rfl rfl Try.isAgg9)<|g_do rfl rfl rfl rfl rfl h196<|g_v rfl (r_neqT rfl rfl)<|g_v rfl (r_pick0 rfl h196) ?_
           refine g_v rfl r_move ?_
           refine g_if rfl rfl rfl rfl rfl (fun h197=>?_) (fun h197=>?_)
           ·
            have h197' : (decide (x163.fSnap = x174.fSnap)) = true:=by revert h197; cases (decide (x163.fSnap = x174.fSnap)) <;> simp
            replace hm:=ite_t hm (of_decide_eq_true h197')
            refine g_v rfl r_move<|g_do rfl rfl rfl rfl rfl h197<|g_v rfl (r_not rfl)<|g_v rfl (r_pick0 rfl h197)<|g_v rfl r_move ?_
            refine g_if rfl rfl rfl rfl rfl (fun h198=>?_) (fun h198=>?_)
            ·
             have h198' : x185 = true:=by revert h198; cases x185 <;> simp
             replace hm:=ite_t hm h198'
             refine g_v rfl r_move<|g_do rfl rfl rfl rfl rfl h198<|g_v rfl (r_not rfl)<|g_v rfl (r_pick0 rfl h198)<|g_nil<|d_then ?_
             refine c_flat [(0,.slice Ap0_0 p0.length cp0_0),(1,.slice Ap1_0 p1.length cp1_0),(5,.int .i64 i121),(109,.bool (!x187))] ⟨rfl,rfl,rfl,rfl,trivial⟩ (fun u=>?_)
             refine c_cond rfl (fun h199=>?_) (fun h199=>?_)
             ·
              have h199' : x187 = false:=by revert h199; cases x187 <;> simp
              replace hm:=ite_f hm (bool_nt h199')
              refine c_seq<|c_region<|g_v rfl r_assign<|g_nil<|d_then<|c_ret<|d_ret_block<|d_ret_then<|d_ret_then<|d_ret_block ?_
              refine d_ret_then<|d_ret_then ?_
              replace hm:=nx_out (C:=(fun e : Unit ⊕ Bool=>Sum.elim (fun e=>m_ref12_SameNotes_j1) (fun x=>some x) e = some r)) hm hnx2 hr2
              replace hm : some false = some r:=hm
              cases hm
              exact d_retC () Try.results34 (res_tmp (res_nil rfl)) trivial (fun W h=>ok_pre (H1:=[_,_]) (R1:=[]) h (fun W hφ=>hφ)) (.inr rfl)
             have h199' : x187 = true:=by revert h199; cases x187 <;> simp
             replace hm:=ite_t hm h199'
             refine c_skip<|d_normal_block<|d_then<|c_region<|g_v rfl r_move<|g_v rfl (r_add rfl rfl rfl)<|g_v rfl r_assign<|g_nil ?_
             obtain ⟨n200,hn200,hlp⟩:=nx_inl hm hnx2
             exact d_round (n200,w64 (i121 + 1)) hlp hn200 ⟨rfl,rfl,rfl,trivial⟩ (fun W h=>((h.dropH (t:=100070) rfl).dropH (t:=100060) rfl).phi (fun W hφ=>hφ))
            have h198' : x185 = false:=by revert h198; cases x185 <;> simp
            replace hm:=ite_f hm (bool_nt h198')
            refine g_no rfl rfl rfl rfl rfl h198<|g_v rfl (r_pick1 rfl h198)<|g_nil<|d_then ?_
            refine c_flat [(0,.slice Ap0_0 p0.length cp0_0),(1,.slice Ap1_0 p1.length cp1_0),(5,.int .i64 i121),(109,.bool true)] ⟨rfl,rfl,rfl,rfl,trivial⟩ (fun u=>?_)
            refine c_cond1 rfl rfl<|c_seq<|c_region<|g_v rfl r_assign<|g_nil<|d_then<|c_ret<|d_ret_block<|d_ret_then<|d_ret_then ?_
            refine d_ret_block<|d_ret_then<|d_ret_then ?_
            replace hm:=nx_out (C:=(fun e : Unit ⊕ Bool=>Sum.elim (fun e=>m_ref12_SameNotes_j1) (fun x=>some x) e = some r)) hm hnx2 hr2
            replace hm : some false = some r:=hm
            cases hm
            exact d_retC () Try.results34 (res_tmp (res_nil rfl)) trivial (fun W h=>ok_pre (H1:=[_,_]) (R1:=[]) h (fun W hφ=>hφ)) (.inr rfl)
           have h197' : (decide (x163.fSnap = x174.fSnap)) = false:=by revert h197; cases (decide (x163.fSnap = x174.fSnap)) <;> simp
           replace hm:=ite_f hm (of_decide_eq_false h197')
           refine g_no rfl rfl rfl rfl rfl h197<|g_v rfl (r_pick1 rfl h197)<|g_v rfl r_move<|g_no rfl rfl rfl rfl rfl rfl<|g_no rfl rfl rfl rfl rfl rfl<|g_v rfl (r_pick1 rfl rfl)<|g_nil<|d_then ?_
           refine c_flat [(0,.slice Ap0_0 p0.length cp0_0),(1,.slice Ap1_0 p1.length cp1_0),(5,.int .i64 i121),(109,.bool true)] ⟨rfl,rfl,rfl,rfl,trivial⟩ (fun u=>?_)
           refine c_cond1 rfl rfl<|c_seq<|c_region<|g_v rfl r_assign<|g_nil<|d_then<|c_ret<|d_ret_block<|d_ret_then<|d_ret_then ?_
           refine d_ret_block<|d_ret_then<|d_ret_then ?_
           replace hm:=nx_out (C:=(fun e : Unit ⊕ Bool=>Sum.elim (fun e=>m_ref12_SameNotes_j1) (fun x=>some x) e = some r)) hm hnx2 hr2
           replace hm : some false = some r:=hm
           cases hm
           exact d_retC () Try.results34 (res_tmp (res_nil rfl)) trivial (fun W h=>ok_pre (H1:=[_,_]) (R1:=[]) h (fun W hφ=>hφ)) (.inr rfl)
          replace hm:=ite_t hm h196
          iterate 4 refine g_no rfl rfl rfl rfl rfl h196 ?_
          refine g_v rfl (r_pick1 rfl h196)<|g_v rfl r_move<|g_no rfl rfl rfl rfl rfl rfl<|g_no rfl rfl rfl rfl rfl rfl<|g_v rfl (r_pick1 rfl rfl)<|g_v rfl r_move<|g_no rfl rfl rfl rfl rfl rfl<|g_no rfl rfl rfl rfl rfl rfl<|g_v rfl (r_pick1 rfl rfl)<|g_nil ?_
          refine d_then ?_
          refine c_flat [(0,.slice Ap0_0 p0.length cp0_0),(1,.slice Ap1_0 p1.length cp1_0),(5,.int .i64 i121),(109,.bool true)] ⟨rfl,rfl,rfl,rfl,trivial⟩ (fun u=>?_)
          refine c_cond1 rfl rfl<|c_seq<|c_region<|g_v rfl r_assign<|g_nil<|d_then<|c_ret<|d_ret_block<|d_ret_then<|d_ret_then ?_
          refine d_ret_block<|d_ret_then<|d_ret_then ?_
          replace hm:=nx_out (C:=(fun e : Unit ⊕ Bool=>Sum.elim (fun e=>m_ref12_SameNotes_j1) (fun x=>some x) e = some r)) hm hnx2 hr2
          replace hm : some false = some r:=hm
          cases hm
          exact d_retC () Try.results34 (res_tmp (res_nil rfl)) trivial (fun W h=>ok_pre (H1:=[_,_]) (R1:=[]) h (fun W hφ=>hφ)) (.inr rfl)
         replace hm:=ite_t hm (of_decide_eq_true h195)
         iterate 4 refine g_no rfl rfl rfl rfl rfl h195 ?_
         refine g_v rfl (r_pick1 rfl h195)<|g_v rfl r_move ?_
         iterate 5 refine g_no rfl rfl rfl rfl rfl rfl ?_
         refine g_v rfl (r_pick1 rfl rfl)<|g_v rfl r_move<|g_no rfl rfl rfl rfl rfl rfl<|g_no rfl rfl rfl rfl rfl rfl<|g_v rfl (r_pick1 rfl rfl)<|g_v rfl r_move<|g_no rfl rfl rfl rfl rfl rfl<|g_no rfl rfl rfl rfl rfl rfl<|g_v rfl (r_pick1 rfl rfl)<|g_nil ?_
         refine d_then ?_
         refine c_flat [(0,.slice Ap0_0 p0.length cp0_0),(1,.slice Ap1_0 p1.length cp1_0),(5,.int .i64 i121),(109,.bool true)] ⟨rfl,rfl,rfl,rfl,trivial⟩ (fun u=>?_)
         refine c_cond1 rfl rfl<|c_seq<|c_region<|g_v rfl r_assign<|g_nil<|d_then<|c_ret<|d_ret_block<|d_ret_then<|d_ret_then ?_
         refine d_ret_block<|d_ret_then<|d_ret_then ?_
         replace hm:=nx_out (C:=(fun e : Unit ⊕ Bool=>Sum.elim (fun e=>m_ref12_SameNotes_j1) (fun x=>some x) e = some r)) hm hnx2 hr2
         replace hm : some false = some r:=hm
         cases hm
         exact d_retC () Try.results34 (res_tmp (res_nil rfl)) trivial (fun W h=>ok_pre (H1:=[_,_]) (R1:=[]) h (fun W hφ=>hφ)) (.inr rfl)
        replace hm:=ite_t hm (of_decide_eq_true h194)
        iterate 4 refine g_no rfl rfl rfl rfl rfl h194 ?_
        refine g_v rfl (r_pick1 rfl h194)<|g_v rfl r_move ?_
        iterate 5 refine g_no rfl rfl rfl rfl rfl rfl ?_
        refine g_v rfl (r_pick1 rfl rfl)<|g_v rfl r_move ?_
        iterate 5 refine g_no rfl rfl rfl rfl rfl rfl ?_
        refine g_v rfl (r_pick1 rfl rfl)<|g_v rfl r_move<|g_no rfl rfl rfl rfl rfl rfl<|g_no rfl rfl rfl rfl rfl rfl<|g_v rfl (r_pick1 rfl rfl)<|g_v rfl r_move<|g_no rfl rfl rfl rfl rfl rfl<|g_no rfl rfl rfl rfl rfl rfl<|g_v rfl (r_pick1 rfl rfl)<|g_nil ?_
        refine d_then ?_
        refine c_flat [(0,.slice Ap0_0 p0.length cp0_0),(1,.slice Ap1_0 p1.length cp1_0),(5,.int .i64 i121),(109,.bool true)] ⟨rfl,rfl,rfl,rfl,trivial⟩ (fun u=>?_)
        refine c_cond1 rfl rfl<|c_seq<|c_region<|g_v rfl r_assign<|g_nil<|d_then<|c_ret<|d_ret_block<|d_ret_then<|d_ret_then ?_
        refine d_ret_block<|d_ret_then<|d_ret_then ?_
        replace hm:=nx_out (C:=(fun e : Unit ⊕ Bool=>Sum.elim (fun e=>m_ref12_SameNotes_j1) (fun x=>some x) e = some r)) hm hnx2 hr2
        replace hm : some false = some r:=hm
        cases hm
        exact d_retC () Try.results34 (res_tmp (res_nil rfl)) trivial (fun W h=>ok_pre (H1:=[_,_]) (R1:=[]) h (fun W hφ=>hφ)) (.inr rfl)
       replace hm:=ite_t hm (of_decide_eq_true h193)
       iterate 4 refine g_no rfl rfl rfl rfl rfl h193 ?_
       refine g_v rfl (r_pick1 rfl h193)<|g_v rfl r_move ?_
       iterate 5 refine g_no rfl rfl rfl rfl rfl rfl ?_
       refine g_v rfl (r_pick1 rfl rfl)<|g_v rfl r_move ?_
       iterate 5 refine g_no rfl rfl rfl rfl rfl rfl ?_
       refine g_v rfl (r_pick1 rfl rfl)<|g_v rfl r_move ?_
       iterate 5 refine g_no rfl rfl rfl rfl rfl rfl ?_
       refine g_v rfl (r_pick1 rfl rfl)<|g_v rfl r_move<|g_no rfl rfl rfl rfl rfl rfl<|g_no rfl rfl rfl rfl rfl rfl<|g_v rfl (r_pick1 rfl rfl)<|g_v rfl r_move<|g_no rfl rfl rfl rfl rfl rfl<|g_no rfl rfl rfl rfl rfl rfl<|g_v rfl (r_pick1 rfl rfl)<|g_nil ?_
       refine d_then ?_
       refine c_flat [(0,.slice Ap0_0 p0.length cp0_0),(1,.slice Ap1_0 p1.length cp1_0),(5,.int .i64 i121),(109,.bool true)] ⟨rfl,rfl,rfl,rfl,trivial⟩ (fun u=>?_)
       refine c_cond1 rfl rfl<|c_seq<|c_region<|g_v rfl r_assign<|g_nil<|d_then<|c_ret<|d_ret_block<|d_ret_then<|d_ret_then ?_
       refine d_ret_block<|d_ret_then<|d_ret_then ?_
       replace hm:=nx_out (C:=(fun e : Unit ⊕ Bool=>Sum.elim (fun e=>m_ref12_SameNotes_j1) (fun x=>some x) e = some r)) hm hnx2 hr2
       replace hm : some false = some r:=hm
       cases hm
       exact d_retC () Try.results34 (res_tmp (res_nil rfl)) trivial (fun W h=>ok_pre (H1:=[_,_]) (R1:=[]) h (fun W hφ=>hφ)) (.inr rfl)
      replace hm:=ite_t hm (of_decide_eq_true h192)
      iterate 4 refine g_no rfl rfl rfl rfl rfl h192 ?_
      refine g_v rfl (r_pick1 rfl h192)<|g_v rfl r_move ?_
      iterate 5 refine g_no rfl rfl rfl rfl rfl rfl ?_
      refine g_v rfl (r_pick1 rfl rfl)<|g_v rfl r_move ?_
      iterate 5 refine g_no rfl rfl rfl rfl rfl rfl ?_
      refine g_v rfl (r_pick1 rfl rfl)<|g_v rfl r_move ?_
      iterate 5 refine g_no rfl rfl rfl rfl rfl rfl ?_
      refine g_v rfl (r_pick1 rfl rfl)<|g_v rfl r_move ?_
      iterate 5 refine g_no rfl rfl rfl rfl rfl rfl ?_
      refine g_v rfl (r_pick1 rfl rfl)<|g_v rfl r_move<|g_no rfl rfl rfl rfl rfl rfl<|g_no rfl rfl rfl rfl rfl rfl<|g_v rfl (r_pick1 rfl rfl)<|g_v rfl r_move<|g_no rfl rfl rfl rfl rfl rfl<|g_no rfl rfl rfl rfl rfl rfl<|g_v rfl (r_pick1 rfl rfl)<|g_nil ?_
      refine d_then ?_
      refine c_flat [(0,.slice Ap0_0 p0.length cp0_0),(1,.slice Ap1_0 p1.length cp1_0),(5,.int .i64 i121),(109,.bool true)] ⟨rfl,rfl,rfl,rfl,trivial⟩ (fun u=>?_)
      refine c_cond1 rfl rfl<|c_seq<|c_region<|g_v rfl r_assign<|g_nil<|d_then<|c_ret<|d_ret_block<|d_ret_then<|d_ret_then ?_
      refine d_ret_block<|d_ret_then<|d_ret_then ?_
      replace hm:=nx_out (C:=(fun e : Unit ⊕ Bool=>Sum.elim (fun e=>m_ref12_SameNotes_j1) (fun x=>some x) e = some r)) hm hnx2 hr2
      replace hm : some false = some r:=hm
      cases hm
      exact d_retC () Try.results34 (res_tmp (res_nil rfl)) trivial (fun W h=>ok_pre (H1:=[_,_]) (R1:=[]) h (fun W hφ=>hφ)) (.inr rfl)
     replace hm:=ite_t hm (of_decide_eq_true h191)
     iterate 4 refine g_no rfl rfl rfl rfl rfl h191 ?_
     refine g_v rfl (r_pick1 rfl h191)<|g_v rfl r_move ?_
     iterate 5 refine g_no rfl rfl rfl rfl rfl rfl ?_
     refine g_v rfl (r_pick1 rfl rfl)<|g_v rfl r_move ?_
     iterate 5 refine g_no rfl rfl rfl rfl rfl rfl ?_
     refine g_v rfl (r_pick1 rfl rfl)<|g_v rfl r_move ?_
     iterate 5 refine g_no rfl rfl rfl rfl rfl rfl ?_
     refine g_v rfl (r_pick1 rfl rfl)<|g_v rfl r_move ?_
     iterate 5 refine g_no rfl rfl rfl rfl rfl rfl ?_
     refine g_v rfl (r_pick1 rfl rfl)<|g_v rfl r_move ?_
     iterate 5 refine g_no rfl rfl rfl rfl rfl rfl ?_
     refine g_v rfl (r_pick1 rfl rfl)<|g_v rfl r_move<|g_no rfl rfl rfl rfl rfl rfl<|g_no rfl rfl rfl rfl rfl rfl<|g_v rfl (r_pick1 rfl rfl)<|g_v rfl r_move<|g_no rfl rfl rfl rfl rfl rfl<|g_no rfl rfl rfl rfl rfl rfl<|g_v rfl (r_pick1 rfl rfl)<|g_nil ?_
     refine d_then ?_
     refine c_flat [(0,.slice Ap0_0 p0.length cp0_0),(1,.slice Ap1_0 p1.length cp1_0),(5,.int .i64 i121),(109,.bool true)] ⟨rfl,rfl,rfl,rfl,trivial⟩ (fun u=>?_)
     refine c_cond1 rfl rfl<|c_seq<|c_region<|g_v rfl r_assign<|g_nil<|d_then<|c_ret<|d_ret_block<|d_ret_then<|d_ret_then ?_
     refine d_ret_block<|d_ret_then<|d_ret_then ?_
     replace hm:=nx_out (C:=(fun e : Unit ⊕ Bool=>Sum.elim (fun e=>m_ref12_SameNotes_j1) (fun x=>some x) e = some r)) hm hnx2 hr2
     replace hm : some false = some r:=hm
     cases hm
     exact d_retC () Try.results34 (res_tmp (res_nil rfl)) trivial (fun W h=>ok_pre (H1:=[_,_]) (R1:=[]) h (fun W hφ=>hφ)) (.inr rfl)
    replace hm:=ite_t hm (of_decide_eq_true h190)
    iterate 4 refine g_no rfl rfl rfl rfl rfl h190 ?_
    refine g_v rfl (r_pick1 rfl h190)<|g_v rfl r_move ?_
    iterate 5 refine g_no rfl rfl rfl rfl rfl rfl ?_
    refine g_v rfl (r_pick1 rfl rfl)<|g_v rfl r_move ?_
    iterate 5 refine g_no rfl rfl rfl rfl rfl rfl ?_
    refine g_v rfl (r_pick1 rfl rfl)<|g_v rfl r_move ?_
    iterate 5 refine g_no rfl rfl rfl rfl rfl rfl ?_
    refine g_v rfl (r_pick1 rfl rfl)<|g_v rfl r_move ?_
    iterate 5 refine g_no rfl rfl rfl rfl rfl rfl ?_
    refine g_v rfl (r_pick1 rfl rfl)<|g_v rfl r_move ?_
    iterate 5 refine g_no rfl rfl rfl rfl rfl rfl ?_
    refine g_v rfl (r_pick1 rfl rfl)<|g_v rfl r_move ?_
    iterate 5 refine g_no rfl rfl rfl rfl rfl rfl ?_
    refine g_v rfl (r_pick1 rfl rfl)<|g_v rfl r_move<|g_no rfl rfl rfl rfl rfl rfl<|g_no rfl rfl rfl rfl rfl rfl<|g_v rfl (r_pick1 rfl rfl)<|g_v rfl r_move<|g_no rfl rfl rfl rfl rfl rfl<|g_no rfl rfl rfl rfl rfl rfl<|g_v rfl (r_pick1 rfl rfl)<|g_nil ?_
    refine d_then ?_
    refine c_flat [(0,.slice Ap0_0 p0.length cp0_0),(1,.slice Ap1_0 p1.length cp1_0),(5,.int .i64 i121),(109,.bool true)] ⟨rfl,rfl,rfl,rfl,trivial⟩ (fun u=>?_)
    refine c_cond1 rfl rfl<|c_seq<|c_region<|g_v rfl r_assign<|g_nil<|d_then<|c_ret<|d_ret_block<|d_ret_then<|d_ret_then ?_
    refine d_ret_block<|d_ret_then<|d_ret_then ?_
    replace hm:=nx_out (C:=(fun e : Unit ⊕ Bool=>Sum.elim (fun e=>m_ref12_SameNotes_j1) (fun x=>some x) e = some r)) hm hnx2 hr2
    replace hm : some false = some r:=hm
    cases hm
    exact d_retC () Try.results34 (res_tmp (res_nil rfl)) trivial (fun W h=>ok_pre (H1:=[_,_]) (R1:=[]) h (fun W hφ=>hφ)) (.inr rfl)
   replace hm:=ite_t hm (of_decide_eq_true h189)
   iterate 4 refine g_no rfl rfl rfl rfl rfl h189 ?_
   refine g_v rfl (r_pick1 rfl h189)<|g_v rfl r_move ?_
   iterate 5 refine g_no rfl rfl rfl rfl rfl rfl ?_
   refine g_v rfl (r_pick1 rfl rfl)<|g_v rfl r_move ?_
   iterate 5 refine g_no rfl rfl rfl rfl rfl rfl ?_
   refine g_v rfl (r_pick1 rfl rfl)<|g_v rfl r_move ?_
   iterate 5 refine g_no rfl rfl rfl rfl rfl rfl ?_
   refine g_v rfl (r_pick1 rfl rfl)<|g_v rfl r_move ?_
   iterate 5 refine g_no rfl rfl rfl rfl rfl rfl ?_
   refine g_v rfl (r_pick1 rfl rfl)<|g_v rfl r_move ?_
   iterate 5 refine g_no rfl rfl rfl rfl rfl rfl ?_
   refine g_v rfl (r_pick1 rfl rfl)<|g_v rfl r_move ?_
   iterate 5 refine g_no rfl rfl rfl rfl rfl rfl ?_
   refine g_v rfl (r_pick1 rfl rfl)<|g_v rfl r_move ?_
   iterate 5 refine g_no rfl rfl rfl rfl rfl rfl ?_
   refine g_v rfl (r_pick1 rfl rfl)<|g_v rfl r_move<|g_no rfl rfl rfl rfl rfl rfl<|g_no rfl rfl rfl rfl rfl rfl<|g_v rfl (r_pick1 rfl rfl)<|g_v rfl r_move<|g_no rfl rfl rfl rfl rfl rfl<|g_no rfl rfl rfl rfl rfl rfl<|g_v rfl (r_pick1 rfl rfl)<|g_nil ?_
   refine d_then ?_
   refine c_flat [(0,.slice Ap0_0 p0.length cp0_0),(1,.slice Ap1_0 p1.length cp1_0),(5,.int .i64 i121),(109,.bool true)] ⟨rfl,rfl,rfl,rfl,trivial⟩ (fun u=>?_)
   refine c_cond1 rfl rfl<|c_seq<|c_region<|g_v rfl r_assign<|g_nil<|d_then<|c_ret<|d_ret_block<|d_ret_then<|d_ret_then ?_
   refine d_ret_block<|d_ret_then<|d_ret_then ?_
   replace hm:=nx_out (C:=(fun e : Unit ⊕ Bool=>Sum.elim (fun e=>m_ref12_SameNotes_j1) (fun x=>some x) e = some r)) hm hnx2 hr2
   replace hm : some false = some r:=hm
   cases hm
   exact d_retC () Try.results34 (res_tmp (res_nil rfl)) trivial (fun W h=>ok_pre (H1:=[_,_]) (R1:=[]) h (fun W hφ=>hφ)) (.inr rfl)
  replace hm:=ite_f hm (of_decide_eq_false h162)
  refine c_exit<|d_exit_then<|d_exit_then<|d_exit_block ?_
  replace hm:=nx_out (C:=(fun e : Unit ⊕ Bool=>Sum.elim (fun e=>m_ref12_SameNotes_j1) (fun x=>some x) e = some r)) hm hnx2 hr2
  exact d_round () hm Nat.zero_lt_one trivial (fun W h=>h.phi (fun W hφ=>hφ))
 unfold m_ref12_SameNotes_j1 at hm
 refine d_flat [] trivial (fun u=>?_)
 refine d_sta ⟨w0,M,H,R,φ⟩ (fun _ h=>h)<|d_then<|c_seq<|c_region<|g_v rfl r_assign<|g_nil<|d_then<|c_ret ?_
 cases hm
 exact d_retC () Try.results34 (res_tmp (res_nil rfl)) trivial (fun W h=>ok_pre (H1:=[]) (R1:=[]) h (fun W hφ=>hφ)) (.inr rfl)
noncomputable def m_ref20_Same (p0 : GLetter) (p1 : GLetter) : Option Bool:=
  (m_ref16_SameAll p0.fEntries p1.fEntries).bind fun x3=>
  (m_ref12_SameNotes [p0.fNote] [p1.fNote]).bind fun x11=>
  if x3 = true then
    if x11 = true then
      if p0.fKind = p1.fKind then
        if p0.fSerial = p1.fSerial then
          if p0.fEpoch = p1.fEpoch then
            if p0.fQuestion = p1.fQuestion then
              if (p0.fGood == p1.fGood) = true then
                some (decide (p0.fText = p1.fText))
              else
                some false
            else
              some false
          else
            some false
        else
          some false
      else
        some false
    else
      some false
  else
    some false
theorem c_ref20_Same {w0 : World} {M : Nat→Prop} {H : List (Nat×Nat×Obj)} {R : List (Nat×Row)} {φ : World→Prop} (p0 : GLetter) (Ap0_0 : Option Addr) (cp0_0 : Nat) (psp0_0 : List GCachedP) (hcp0_0 : (DOk GCached.capP p0.fEntries psp0_0∧p0.fEntries.length ≤ cp0_0)) (fp0_0 : ∀ W,(Sta.mk w0 M H R φ).ok W→Cl W Ap0_0 ((p0.fEntries.zip psp0_0).flatMap GCached.encP)) (fop0_0 : ∀ W,(Sta.mk w0 M H R φ).ok W→DOwn GCached.ownP p0.fEntries psp0_0 W) (Ap0_1 : Option Addr) (cp0_1 : Nat) (hcp0_1 : p0.fNote.fEntries.length ≤ cp0_1) (fp0_1 : ∀ W,φ W→Cl W Ap0_1 (p0.fNote.fEntries.flatMap GEntry.enc)) (Ap0_2 : Option Addr) (cp0_2 : Nat) (hcp0_2 : p0.fNote.fVoters.length ≤ cp0_2) (fp0_2 : ∀ W,φ W→Cl W Ap0_2 (p0.fNote.fVoters.flatMap (fun x : Int=>[Value.int .i64 x]))) (p1 : GLetter) (Ap1_0 : Option Addr) (cp1_0 : Nat) (psp1_0 : List GCachedP) (hcp1_0 : (DOk GCached.capP p1.fEntries psp1_0∧p1.fEntries.length ≤ cp1_0)) (fp1_0 : ∀ W,(Sta.mk w0 M H R φ).ok W→Cl W Ap1_0 ((p1.fEntries.zip psp1_0).flatMap GCached.encP)) (fop1_0 : ∀ W,(Sta.mk w0 M H R φ).ok W→DOwn GCached.ownP p1.fEntries psp1_0 W) (Ap1_1 : Option Addr) (cp1_1 : Nat) (hcp1_1 : p1.fNote.fEntries.length ≤ cp1_1) (fp1_1 : ∀ W,φ W→Cl W Ap1_1 (p1.fNote.fEntries.flatMap GEntry.enc)) (Ap1_2 : Option Addr) (cp1_2 : Nat) (hcp1_2 : p1.fNote.fVoters.length ≤ cp1_2) (fp1_2 : ∀ W,φ W→Cl W Ap1_2 (p1.fNote.fVoters.flatMap (fun x : Int=>[Value.int .i64 x]))) (r : Bool) (hm : m_ref20_Same p0 p1 = some r) :
    Cn Try.prog 14 #[.agg #[.int .i64 p0.fKind,.int .i64 p0.fSerial,.int .i64 p0.fEpoch,.string p0.fQuestion.fName,.int .u16 p0.fQuestion.fType,.int .u16 p0.fQuestion.fClass,.bool p0.fGood,.slice Ap0_0 p0.fEntries.length cp0_0,.int .i64 p0.fNote.fKind,.int .i64 p0.fNote.fFrom,.int .i64 p0.fNote.fTo,.int .i64 p0.fNote.fTerm,.int .i64 p0.fNote.fIndex,.int .i64 p0.fNote.fLogTerm,.int .i64 p0.fNote.fCommit,.bool p0.fNote.fGood,.slice Ap0_1 p0.fNote.fEntries.length cp0_1,.slice Ap0_2 p0.fNote.fVoters.length cp0_2,.string p0.fNote.fSnap,.string p0.fText],.agg #[.int .i64 p1.fKind,.int .i64 p1.fSerial,.int .i64 p1.fEpoch,.string p1.fQuestion.fName,.int .u16 p1.fQuestion.fType,.int .u16 p1.fQuestion.fClass,.bool p1.fGood,.slice Ap1_0 p1.fEntries.length cp1_0,.int .i64 p1.fNote.fKind,.int .i64 p1.fNote.fFrom,.int .i64 p1.fNote.fTo,.int .i64 p1.fNote.fTerm,.int .i64 p1.fNote.fIndex,.int .i64 p1.fNote.fLogTerm,.int .i64 p1.fNote.fCommit,.bool p1.fNote.fGood,.slice Ap1_1 p1.fNote.fEntries.length cp1_1,.slice Ap1_2 p1.fNote.fVoters.length cp1_2,.string p1.fNote.fSnap,.string p1.fText]] ⟨w0,M,H,R,φ⟩ (fun x : Unit=>.bool r) (fun x=>True) (fun x=>⟨w0,M,H,R,φ⟩):=by
 unfold m_ref20_Same at hm
 refine cn_intro (fn:=Try.f14) (N:=65) Try.func14 rfl Try.ntmps14 rfl<|c_seq<|c_region ?_
 refine g_e rfl (e_box 100020 rfl) (fun g1 _=>?_)
 refine g_e rfl (e_box 100030 rfl) (fun g2 _=>?_)
 refine g_v rfl r_assign<|g_nil<|d_then<|c_seq<|c_region<|g_v rfl (r_field (n:=7) Try.underlying31 rfl Try.sizeOf25 rfl rfl)<|g_v rfl (r_load (tag:=100020) rfl rfl rfl Try.isAgg25)<|g_v rfl (r_field (n:=7) Try.underlying31 rfl Try.sizeOf25 rfl rfl)<|g_v rfl (r_load (tag:=100030) rfl rfl rfl Try.isAgg25) ?_
 replace hm:=bnd hm
 obtain ⟨x3,hx4,hm⟩:=hm
 refine g_cn ⟨w0,M,_,_,φ⟩ (fun _ h=>h) Try.call11 rfl rfl (c_ref16_SameAll p0.fEntries Ap0_0 cp0_0 psp0_0 ⟨hcp0_0.1,hcp0_0.2⟩ (fun W hS=>fp0_0 W (ok_pre (H1:=[_,_]) (R1:=[]) hS (fun W h=>h))) (fun W hS=>fop0_0 W (ok_pre (H1:=[_,_]) (R1:=[]) hS (fun W h=>h))) p1.fEntries Ap1_0 cp1_0 psp1_0 ⟨hcp1_0.1,hcp1_0.2⟩ (fun W hS=>fp1_0 W (ok_pre (H1:=[_,_]) (R1:=[]) hS (fun W h=>h))) (fun W hS=>fop1_0 W (ok_pre (H1:=[_,_]) (R1:=[]) hS (fun W h=>h))) _ hx4) (fun _ _=>?_)
 refine g_v rfl r_assign<|g_nil<|d_then ?_
 refine c_flat [(2,.pointer (some ⟨g1,0,none⟩)),(3,.pointer (some ⟨g2,0,none⟩)),(5,.bool x3)] ⟨rfl,rfl,rfl,trivial⟩ (fun u=>?_)
 refine c_sta ⟨w0,M,(100030,g2,.cells #[.int .i64 p1.fKind,.int .i64 p1.fSerial,.int .i64 p1.fEpoch,.string p1.fQuestion.fName,.int .u16 p1.fQuestion.fType,.int .u16 p1.fQuestion.fClass,.bool p1.fGood,.slice Ap1_0 p1.fEntries.length cp1_0,.int .i64 p1.fNote.fKind,.int .i64 p1.fNote.fFrom,.int .i64 p1.fNote.fTo,.int .i64 p1.fNote.fTerm,.int .i64 p1.fNote.fIndex,.int .i64 p1.fNote.fLogTerm,.int .i64 p1.fNote.fCommit,.bool p1.fNote.fGood,.slice Ap1_1 p1.fNote.fEntries.length cp1_1,.slice Ap1_2 p1.fNote.fVoters.length cp1_2,.string p1.fNote.fSnap,.string p1.fText] 31 (0,0))::(100020,g1,.cells #[.int .i64 p0.fKind,.int .i64 p0.fSerial,.int .i64 p0.fEpoch,.string p0.fQuestion.fName,.int .u16 p0.fQuestion.fType,.int .u16 p0.fQuestion.fClass,.bool p0.fGood,.slice Ap0_0 p0.fEntries.length cp0_0,.int .i64 p0.fNote.fKind,.int .i64 p0.fNote.fFrom,.int .i64 p0.fNote.fTo,.int .i64 p0.fNote.fTerm,.int .i64 p0.fNote.fIndex,.int .i64 p0.fNote.fLogTerm,.int .i64 p0.fNote.fCommit,.bool p0.fNote.fGood,.slice Ap0_1 p0.fNote.fEntries.length cp0_1,.slice Ap0_2 p0.fNote.fVoters.length cp0_2,.string p0.fNote.fSnap,.string p0.fText] 31 (0,0))::H,R,φ⟩ (fun _ h=>h)<|c_seq<|c_region<|g_v rfl (r_field (n:=8) Try.underlying31 rfl Try.sizeOf29 rfl rfl)<|g_v rfl (r_loadA (tag:=100020) rfl rfl Try.isAgg29 Try.sizeOf29 rfl rfl) ?_
 have hk6:=(DOk.cons (cap:=GNote.capP) (x:=p0.fNote) (p:=(⟨Ap0_1,cp0_1,Ap0_2,cp0_2⟩ : GNoteP)) (⟨hcp0_1,hcp0_2⟩) DOk.nil)
 have f7:=fun (W : World) (h : φ W)=>(DOwn.cons (own:=GNote.ownP) (x:=p0.fNote) (p:=(⟨Ap0_1,cp0_1,Ap0_2,cp0_2⟩ : GNoteP)) (⟨fp0_1 W h,fp0_2 W h⟩) DOwn.nil)
 refine g_e rfl (e_litD (tag:=100140) (enc:=GNote.encP) (sz:=11) hk6 rfl Try.underlying75 (lit29_34 _ _ _ _ _ _ _ _ _ _ _ _ _ _ _) rfl rfl (fun _=>rfl)) (fun g5 _=>?_)
 refine g_v rfl (r_field (n:=8) Try.underlying31 rfl Try.sizeOf29 rfl rfl)<|g_v rfl (r_loadA (tag:=100030) rfl rfl Try.isAgg29 Try.sizeOf29 rfl rfl) ?_
 have hk9:=(DOk.cons (cap:=GNote.capP) (x:=p1.fNote) (p:=(⟨Ap1_1,cp1_1,Ap1_2,cp1_2⟩ : GNoteP)) (⟨hcp1_1,hcp1_2⟩) DOk.nil)
 have f10:=fun (W : World) (h : φ W)=>(DOwn.cons (own:=GNote.ownP) (x:=p1.fNote) (p:=(⟨Ap1_1,cp1_1,Ap1_2,cp1_2⟩ : GNoteP)) (⟨fp1_1 W h,fp1_2 W h⟩) DOwn.nil)
 refine g_e rfl (e_litD (tag:=100170) (enc:=GNote.encP) (sz:=11) hk9 rfl Try.underlying75 (lit29_34 _ _ _ _ _ _ _ _ _ _ _ _ _ _ _) rfl rfl (fun _=>rfl)) (fun g8 _=>?_)
 replace hm:=bnd hm
 obtain ⟨x11,hx12,hm⟩:=hm
 refine g_cn ⟨w0,M,_,_,φ⟩ (fun _ h=>h) Try.call34 rfl rfl (c_ref12_SameNotes [p0.fNote] (some ⟨g5,0,none⟩) 1 [(⟨Ap0_1,cp0_1,Ap0_2,cp0_2⟩ : GNoteP)] ⟨hk6,(Nat.le_refl _)⟩ (fun W hS=>rowCl (tag:=100140) rfl W hS) (fun W hS=>(f7 W hS.now)) [p1.fNote] (some ⟨g8,0,none⟩) 1 [(⟨Ap1_1,cp1_1,Ap1_2,cp1_2⟩ : GNoteP)] ⟨hk9,(Nat.le_refl _)⟩ (fun W hS=>rowCl (tag:=100170) rfl W hS) (fun W hS=>(f10 W hS.now)) _ hx12) (fun _ _=>?_)
 refine g_v rfl r_assign<|g_nil<|d_then<|c_seq<|c_region<|g_v rfl r_move<|g_v rfl r_move<|g_sta ⟨w0,M,(100030,g2,.cells #[.int .i64 p1.fKind,.int .i64 p1.fSerial,.int .i64 p1.fEpoch,.string p1.fQuestion.fName,.int .u16 p1.fQuestion.fType,.int .u16 p1.fQuestion.fClass,.bool p1.fGood,.slice Ap1_0 p1.fEntries.length cp1_0,.int .i64 p1.fNote.fKind,.int .i64 p1.fNote.fFrom,.int .i64 p1.fNote.fTo,.int .i64 p1.fNote.fTerm,.int .i64 p1.fNote.fIndex,.int .i64 p1.fNote.fLogTerm,.int .i64 p1.fNote.fCommit,.bool p1.fNote.fGood,.slice Ap1_1 p1.fNote.fEntries.length cp1_1,.slice Ap1_2 p1.fNote.fVoters.length cp1_2,.string p1.fNote.fSnap,.string p1.fText] 31 (0,0))::(100020,g1,.cells #[.int .i64 p0.fKind,.int .i64 p0.fSerial,.int .i64 p0.fEpoch,.string p0.fQuestion.fName,.int .u16 p0.fQuestion.fType,.int .u16 p0.fQuestion.fClass,.bool p0.fGood,.slice Ap0_0 p0.fEntries.length cp0_0,.int .i64 p0.fNote.fKind,.int .i64 p0.fNote.fFrom,.int .i64 p0.fNote.fTo,.int .i64 p0.fNote.fTerm,.int .i64 p0.fNote.fIndex,.int .i64 p0.fNote.fLogTerm,.int .i64 p0.fNote.fCommit,.bool p0.fNote.fGood,.slice Ap0_1 p0.fNote.fEntries.length cp0_1,.slice Ap0_2 p0.fNote.fVoters.length cp0_2,.string p0.fNote.fSnap,.string p0.fText] 31 (0,0))::H,(100170,⟨.slice (some ⟨g8,0,none⟩) [p1.fNote].length 1,29,11,[p1.fNote].length,([p1.fNote].zip [(⟨Ap1_1,cp1_1,Ap1_2,cp1_2⟩ : GNoteP)]).flatMap GNote.encP⟩)::(100140,⟨.slice (some ⟨g5,0,none⟩) [p0.fNote].length 1,29,11,[p0.fNote].length,([p0.fNote].zip [(⟨Ap0_1,cp0_1,Ap0_2,cp0_2⟩ : GNoteP)]).flatMap GNote.encP⟩)::R,φ⟩ (fun _ h=>h) ?_
 refine g_if rfl rfl rfl rfl rfl (fun h13=>?_) (fun h13=>?_)
 ·
  replace hm:=ite_t hm h13
  refine g_v rfl r_move<|g_v rfl (r_pick1 rfl h13)<|g_v rfl r_move ?_
  refine g_if rfl rfl rfl rfl rfl (fun h14=>?_) (fun h14=>?_)
  ·
   replace hm:=ite_t hm h14
   refine g_v rfl (r_field (n:=0) Try.underlying31 rfl Try.sizeOf3 rfl rfl)<|g_do rfl rfl rfl rfl rfl h14<|g_v rfl (r_load (tag:=100020) rfl rfl rfl Try.isAgg3)<|g_do rfl rfl rfl rfl rfl h14<|g_v rfl (r_field (n:=0) Try.underlying31 rfl Try.sizeOf3 rfl rfl)<|g_do rfl rfl rfl rfl rfl h14<|g_v rfl (r_load (tag:=100030) rfl rfl rfl Try.isAgg3)<|g_do rfl rfl rfl rfl rfl h14<|g_v rfl (r_eql rfl rfl)<|g_v rfl (r_pick1 rfl h14) ?_
   refine g_v rfl r_move ?_
   refine g_if rfl rfl rfl rfl rfl (fun h15=>?_) (fun h15=>?_)
   ·
    replace hm:=ite_t hm (of_decide_eq_true h15)
    refine g_v rfl (r_field (n:=1) Try.underlying31 rfl Try.sizeOf3 rfl rfl)<|g_do rfl rfl rfl rfl rfl h15<|g_v rfl (r_load (tag:=100020) rfl rfl rfl Try.isAgg3)<|g_do rfl rfl rfl rfl rfl h15<|g_v rfl (r_field (n:=1) Try.underlying31 rfl Try.sizeOf3 rfl rfl)<|g_do rfl rfl rfl rfl rfl h15<|g_v rfl (r_load (tag:=100030) rfl rfl rfl Try.isAgg3)<|g_do rfl rfl rfl rfl rfl h15<|g_v rfl (r_eql rfl rfl)<|g_v rfl (r_pick1 rfl h15) ?_
    refine g_v rfl r_move ?_
    refine g_if rfl rfl rfl rfl rfl (fun h16=>?_) (fun h16=>?_)
    ·
     replace hm:=ite_t hm (of_decide_eq_true h16)
     refine g_v rfl (r_field (n:=2) Try.underlying31 rfl Try.sizeOf3 rfl rfl)<|g_do rfl rfl rfl rfl rfl h16<|g_v rfl (r_load (tag:=100020) rfl rfl rfl Try.isAgg3)<|g_do rfl rfl rfl rfl rfl h16<|g_v rfl (r_field (n:=2) Try.underlying31 rfl Try.sizeOf3 rfl rfl)<|g_do rfl rfl rfl rfl rfl h16<|g_v rfl (r_load (tag:=100030) rfl rfl rfl Try.isAgg3)<|g_do rfl rfl rfl rfl rfl h16<|g_v rfl (r_eql rfl rfl)<|g_v rfl (r_pick1 rfl h16) ?_
     refine g_v rfl r_move ?_
     refine g_if rfl rfl rfl rfl rfl (fun h17=>?_) (fun h17=>?_)
     ·
      replace hm:=ite_t hm (of_decide_eq_true h17)
      refine g_v rfl (r_field (n:=3) Try.underlying31 rfl Try.sizeOf24 rfl rfl)<|g_do rfl rfl rfl rfl rfl h17<|g_v rfl (r_loadA (tag:=100020) rfl rfl Try.isAgg24 Try.sizeOf24 rfl rfl)<|g_do rfl rfl rfl rfl rfl h17<|g_v rfl (r_field (n:=3) Try.underlying31 rfl Try.sizeOf24 rfl rfl)<|g_do rfl rfl rfl rfl rfl h17<|g_v rfl (r_loadA (tag:=100030) rfl rfl Try.isAgg24 Try.sizeOf24 rfl rfl)<|g_do rfl rfl rfl rfl rfl h17<|g_v rfl (r_eqlA rfl rfl eqg24 (eqq24 p0.fQuestion p1.fQuestion))<|g_v rfl (r_pick1 rfl h17) ?_
      refine g_v rfl r_move ?_
      refine g_if rfl rfl rfl rfl rfl (fun h18=>?_) (fun h18=>?_)
      ·
       replace hm:=ite_t hm (of_decide_eq_true h18)
       refine g_v rfl (r_field (n:=6) Try.underlying31 rfl Try.sizeOf4 rfl rfl)<|g_do rfl rfl rfl rfl rfl h18<|g_v rfl (r_load (tag:=100020) rfl rfl rfl Try.isAgg4)<|g_do rfl rfl rfl rfl rfl h18<|g_v rfl (r_field (n:=6) Try.underlying31 rfl Try.sizeOf4 rfl rfl)<|g_do rfl rfl rfl rfl rfl h18<|g_v rfl (r_load (tag:=100030) rfl rfl rfl Try.isAgg4)<|g_do rfl rfl rfl rfl rfl h18<|g_v rfl (r_eqlBo Try.underlying4 rfl rfl)<|g_v rfl (r_pick1 rfl h18) ?_
       refine g_v rfl r_move ?_
       refine g_if rfl rfl rfl rfl rfl (fun h19=>?_) (fun h19=>?_)
       ·
        replace hm:=ite_t hm h19
        refine g_v rfl (r_field (n:=19) Try.underlying31 rfl Try.sizeOf9 rfl rfl)<|g_do rfl rfl rfl rfl rfl h19<|g_v rfl (r_load (tag:=100020) rfl rfl rfl Try.isAgg9)<|g_do rfl rfl rfl rfl rfl h19<|g_v rfl (r_field (n:=19) Try.underlying31 rfl Try.sizeOf9 rfl rfl)<|g_do rfl rfl rfl rfl rfl h19<|g_v rfl (r_load (tag:=100030) rfl rfl rfl Try.isAgg9)<|g_do rfl rfl rfl rfl rfl h19<|g_v rfl (r_eqlT rfl rfl)<|g_v rfl (r_pick1 rfl h19) ?_
        refine g_v rfl r_assign<|g_nil<|d_then ?_
        refine c_flat [(4,.bool (decide (p0.fText = p1.fText)))] ⟨rfl,trivial⟩ (fun u=>?_)
        refine c_ret ?_
        cases hm
        exact d_retC () Try.results14 (res_tmp (res_nil rfl)) trivial (fun W h=>ok_pre (H1:=[_,_]) (R1:=[_,_]) h (fun W hφ=>hφ)) (.inr rfl)
       replace hm:=ite_f hm (bool_nt h19)
       iterate 4 refine g_no rfl rfl rfl rfl rfl h19 ?_
       refine g_v rfl (r_pick0 rfl h19)<|g_v rfl r_assign<|g_nil<|d_then ?_
       refine c_flat [(4,.bool false)] ⟨rfl,trivial⟩ (fun u=>?_)
       refine c_ret ?_
       cases hm
       exact d_retC () Try.results14 (res_tmp (res_nil rfl)) trivial (fun W h=>ok_pre (H1:=[_,_]) (R1:=[_,_]) h (fun W hφ=>hφ)) (.inr rfl)
      replace hm:=ite_f hm (of_decide_eq_false h18)
      iterate 4 refine g_no rfl rfl rfl rfl rfl h18 ?_
      refine g_v rfl (r_pick0 rfl h18)<|g_v rfl r_move ?_
      iterate 5 refine g_no rfl rfl rfl rfl rfl rfl ?_
      refine g_v rfl (r_pick0 rfl rfl)<|g_v rfl r_assign<|g_nil<|d_then ?_
      refine c_flat [(4,.bool false)] ⟨rfl,trivial⟩ (fun u=>?_)
      refine c_ret ?_
      cases hm
      exact d_retC () Try.results14 (res_tmp (res_nil rfl)) trivial (fun W h=>ok_pre (H1:=[_,_]) (R1:=[_,_]) h (fun W hφ=>hφ)) (.inr rfl)
     replace hm:=ite_f hm (of_decide_eq_false h17)
     iterate 4 refine g_no rfl rfl rfl rfl rfl h17 ?_
     refine g_v rfl (r_pick0 rfl h17)<|g_v rfl r_move ?_
     iterate 5 refine g_no rfl rfl rfl rfl rfl rfl ?_
     refine g_v rfl (r_pick0 rfl rfl)<|g_v rfl r_move ?_
     iterate 5 refine g_no rfl rfl rfl rfl rfl rfl ?_
     refine g_v rfl (r_pick0 rfl rfl)<|g_v rfl r_assign<|g_nil<|d_then ?_
     refine c_flat [(4,.bool false)] ⟨rfl,trivial⟩ (fun u=>?_)
     refine c_ret ?_
     cases hm
     exact d_retC () Try.results14 (res_tmp (res_nil rfl)) trivial (fun W h=>ok_pre (H1:=[_,_]) (R1:=[_,_]) h (fun W hφ=>hφ)) (.inr rfl)
    replace hm:=ite_f hm (of_decide_eq_false h16)
    iterate 4 refine g_no rfl rfl rfl rfl rfl h16 ?_
    refine g_v rfl (r_pick0 rfl h16)<|g_v rfl r_move ?_
    iterate 5 refine g_no rfl rfl rfl rfl rfl rfl ?_
    refine g_v rfl (r_pick0 rfl rfl)<|g_v rfl r_move ?_
    iterate 5 refine g_no rfl rfl rfl rfl rfl rfl ?_
    refine g_v rfl (r_pick0 rfl rfl)<|g_v rfl r_move ?_
    iterate 5 refine g_no rfl rfl rfl rfl rfl rfl ?_
    refine g_v rfl (r_pick0 rfl rfl)<|g_v rfl r_assign<|g_nil<|d_then ?_
    refine c_flat [(4,.bool false)] ⟨rfl,trivial⟩ (fun u=>?_)
    refine c_ret ?_
    cases hm
    exact d_retC () Try.results14 (res_tmp (res_nil rfl)) trivial (fun W h=>ok_pre (H1:=[_,_]) (R1:=[_,_]) h (fun W hφ=>hφ)) (.inr rfl)
   replace hm:=ite_f hm (of_decide_eq_false h15)
   iterate 4 refine g_no rfl rfl rfl rfl rfl h15 ?_
   refine g_v rfl (r_pick0 rfl h15)<|g_v rfl r_move ?_
   iterate 5 refine g_no rfl rfl rfl rfl rfl rfl ?_
   refine g_v rfl (r_pick0 rfl rfl)<|g_v rfl r_move ?_
   iterate 5 refine g_no rfl rfl rfl rfl rfl rfl ?_
   refine g_v rfl (r_pick0 rfl rfl)<|g_v rfl r_move ?_
   iterate 5 refine g_no rfl rfl rfl rfl rfl rfl ?_
   refine g_v rfl (r_pick0 rfl rfl)<|g_v rfl r_move ?_
   iterate 5 refine g_no rfl rfl rfl rfl rfl rfl ?_
   refine g_v rfl (r_pick0 rfl rfl)<|g_v rfl r_assign<|g_nil<|d_then ?_
   refine c_flat [(4,.bool false)] ⟨rfl,trivial⟩ (fun u=>?_)
   refine c_ret ?_
   cases hm
   exact d_retC () Try.results14 (res_tmp (res_nil rfl)) trivial (fun W h=>ok_pre (H1:=[_,_]) (R1:=[_,_]) h (fun W hφ=>hφ)) (.inr rfl)
  replace hm:=ite_f hm (bool_nt h14)
  iterate 4 refine g_no rfl rfl rfl rfl rfl h14 ?_
  refine g_v rfl (r_pick0 rfl h14)<|g_v rfl r_move ?_
  iterate 5 refine g_no rfl rfl rfl rfl rfl rfl ?_
  refine g_v rfl (r_pick0 rfl rfl)<|g_v rfl r_move ?_
  iterate 5 refine g_no rfl rfl rfl rfl rfl rfl ?_
  refine g_v rfl (r_pick0 rfl rfl)<|g_v rfl r_move ?_
  iterate 5 refine g_no rfl rfl rfl rfl rfl rfl ?_
  refine g_v rfl (r_pick0 rfl rfl)<|g_v rfl r_move ?_
  iterate 5 refine g_no rfl rfl rfl rfl rfl rfl ?_
  refine g_v rfl (r_pick0 rfl rfl)<|g_v rfl r_move ?_
  iterate 5 refine g_no rfl rfl rfl rfl rfl rfl ?_
  refine g_v rfl (r_pick0 rfl rfl)<|g_v rfl r_assign<|g_nil<|d_then ?_
  refine c_flat [(4,.bool false)] ⟨rfl,trivial⟩ (fun u=>?_)
  refine c_ret ?_
  cases hm
  exact d_retC () Try.results14 (res_tmp (res_nil rfl)) trivial (fun W h=>ok_pre (H1:=[_,_]) (R1:=[_,_]) h (fun W hφ=>hφ)) (.inr rfl)
 replace hm:=ite_f hm (bool_nt h13)
 refine g_v rfl (r_pick0 rfl h13)<|g_v rfl r_move ?_
 iterate 5 refine g_no rfl rfl rfl rfl rfl rfl ?_
 refine g_v rfl (r_pick0 rfl rfl)<|g_v rfl r_move ?_
 iterate 5 refine g_no rfl rfl rfl rfl rfl rfl ?_
 refine g_v rfl (r_pick0 rfl rfl)<|g_v rfl r_move ?_
 iterate 5 refine g_no rfl rfl rfl rfl rfl rfl ?_
 refine g_v rfl (r_pick0 rfl rfl)<|g_v rfl r_move ?_
 iterate 5 refine g_no rfl rfl rfl rfl rfl rfl ?_
 refine g_v rfl (r_pick0 rfl rfl)<|g_v rfl r_move ?_
 iterate 5 refine g_no rfl rfl rfl rfl rfl rfl ?_
 refine g_v rfl (r_pick0 rfl rfl)<|g_v rfl r_move ?_
 iterate 5 refine g_no rfl rfl rfl rfl rfl rfl ?_
 refine g_v rfl (r_pick0 rfl rfl)<|g_v rfl r_assign<|g_nil<|d_then ?_
 refine c_flat [(4,.bool false)] ⟨rfl,trivial⟩ (fun u=>?_)
 refine c_ret ?_
 cases hm
 exact d_retC () Try.results14 (res_tmp (res_nil rfl)) trivial (fun W h=>ok_pre (H1:=[_,_]) (R1:=[_,_]) h (fun W hφ=>hφ)) (.inr rfl)
end Go.Proofs.Ytbaobjcaeaofaaa
