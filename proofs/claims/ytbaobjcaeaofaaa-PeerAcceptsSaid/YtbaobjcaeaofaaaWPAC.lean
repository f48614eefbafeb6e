import Derived.Test.YtbaobjcaeaofaaaWPAB
set_option maxRecDepth 100000
set_option maxHeartbeats 4000000
set_option linter.unusedVariables false
set_option linter.unusedSimpArgs false
namespace Go.Proofs.Ytbaobjcaeaofaaa
open Go.RowKit Go.Proofs.YtbaobjcaeaofaaaW.PrintLast
noncomputable def m_peer_Bytes_j1  (l73 : List Int) (l76 : List (ByteArray×Int)) : Option (ByteArray×Int):=
  (m_pack_Packer_Len (⟨l73,l76⟩ : Gpack_Packer)).bind fun x79=>
  if 65535 < x79 then
    some ((⟨#[]⟩ : ByteArray),11)
  else
    (m_pack_Packer_Bytes (⟨l73,l76⟩ : Gpack_Packer)).bind fun x82=>
    some (x82,0)
noncomputable def m_peer_Bytes (p0 : GLetter) : Option (ByteArray×Int):=
  (m_peer_Check p0).bind fun x2=>
  if x2 ≠ 0 then
    some ((⟨#[]⟩ : ByteArray),x2)
  else
    (m_pack_New).bind fun x5=>
    (m_pack_Packer_Byte (IntKind.u8.wrap p0.fKind) x5).bind fun x15=>
    (m_peer_writer_eight [p0.fSerial,p0.fEpoch] (⟨x15.fb,x5.fplaces⟩ : Gpack_Packer)).bind fun x21=>
    if p0.fKind = 1 then
      (m_pack_Packer_Name p0.fQuestion.fName false (⟨x21.fb,x5.fplaces⟩ : Gpack_Packer)).bind fun (z94 : Int×Gpack_Packer)=>
      (m_pack_Packer_Word p0.fQuestion.fType z94.2).bind fun x95=>
      (m_pack_Packer_Word p0.fQuestion.fClass (⟨x95.fb,z94.2.fplaces⟩ : Gpack_Packer)).bind fun x100=>
      m_peer_Bytes_j1 x100.fb z94.2.fplaces
    else
      if p0.fKind = 2 then
        (m_peer_writer_bit p0.fGood (⟨x21.fb,x5.fplaces⟩ : Gpack_Packer)).bind fun x106=>
        (m_peer_writer_entries p0.fEntries (⟨x106.fb,x5.fplaces⟩ : Gpack_Packer)).bind fun x111=>
        m_peer_Bytes_j1 x111.fb x111.fplaces
      else
        if p0.fKind = 3 then
          (m_peer_writer_note p0.fNote (⟨x21.fb,x5.fplaces⟩ : Gpack_Packer)).bind fun x120=>
          m_peer_Bytes_j1 x120.fb x5.fplaces
        else
          if p0.fKind = 5 then
            (m_pack_Packer_Raw p0.fText (⟨x21.fb,x5.fplaces⟩ : Gpack_Packer)).bind fun x126=>
            m_peer_Bytes_j1 x126.fb x5.fplaces
          else
            m_peer_Bytes_j1 x21.fb x5.fplaces
theorem c_peer_Bytes {w0 : World} {M : Nat→Prop} {H : List (Nat×Nat×Obj)} {R : List (Nat×Row)} {φ : World→Prop} (p0 : GLetter) (Ap0_0 : Option Addr) (cp0_0 : Nat) (psp0_0 : List GCachedP) (hcp0_0 : (DOk GCached.capP p0.fEntries psp0_0∧p0.fEntries.length ≤ cp0_0)) (fp0_0 : ∀ W,φ W→Cl W Ap0_0 ((p0.fEntries.zip psp0_0).flatMap GCached.encP)) (fop0_0 : ∀ W,φ W→DOwn GCached.ownP p0.fEntries psp0_0 W) (Ap0_1 : Option Addr) (cp0_1 : Nat) (hcp0_1 : p0.fNote.fEntries.length ≤ cp0_1) (fp0_1 : ∀ W,(Sta.mk w0 M H R φ).ok W→Cl W Ap0_1 (p0.fNote.fEntries.flatMap GEntry.enc)) (Ap0_2 : Option Addr) (cp0_2 : Nat) (hcp0_2 : p0.fNote.fVoters.length ≤ cp0_2) (fp0_2 : ∀ W,(Sta.mk w0 M H R φ).ok W→Cl W Ap0_2 (p0.fNote.fVoters.flatMap (fun x : Int=>[Value.int .i64 x]))) (r : ByteArray×Int) (hm : m_peer_Bytes p0 = some r) :
    Cn Try.prog 13 #[.agg #[.int .i64 p0.fKind,.int .i64 p0.fSerial,.int .i64 p0.fEpoch,.string p0.fQuestion.fName,.int .u16 p0.fQuestion.fType,.int .u16 p0.fQuestion.fClass,.bool p0.fGood,.slice Ap0_0 p0.fEntries.length cp0_0,.int .i64 p0.fNote.fKind,.int .i64 p0.fNote.fFrom,.int .i64 p0.fNote.fTo,.int .i64 p0.fNote.fTerm,.int .i64 p0.fNote.fIndex,.int .i64 p0.fNote.fLogTerm,.int .i64 p0.fNote.fCommit,.bool p0.fNote.fGood,.slice Ap0_1 p0.fNote.fEntries.length cp0_1,.slice Ap0_2 p0.fNote.fVoters.length cp0_2,.string p0.fNote.fSnap,.string p0.fText]] ⟨w0,M,H,R,φ⟩ (fun x : Unit=>.tuple #[.string r.1,.int .i64 r.2]) (fun x=>True) (fun x=>⟨w0,M,H,R,φ⟩):=by
 unfold m_peer_Bytes at hm
 refine cn_intro (fn:=Try.f13) (N:=78) Try.func13 rfl Try.ntmps13 rfl<|c_seq<|c_region ?_
 refine g_e rfl (e_box 100010 rfl) (fun g1 _=>?_)
 refine g_v rfl r_assign<|g_v rfl r_assign<|g_nil<|d_then<|c_seq<|c_region<|g_v rfl (r_loadA (tag:=100010) rfl rfl Try.isAgg31 Try.sizeOf31 rfl rfl) ?_
 replace hm:=bnd hm
 obtain ⟨x2,hx3,hm⟩:=hm
 refine g_cn ⟨w0,M,_,_,φ⟩ (fun _ h=>h) Try.call18 rfl rfl (c_peer_Check p0 Ap0_0 cp0_0 psp0_0 ⟨hcp0_0.1,hcp0_0.2⟩ (fun W h=>fp0_0 W h) (fun W h=>(fop0_0 W h)) Ap0_1 cp0_1 hcp0_1 (fun W hS=>fp0_1 W (ok_pre (H1:=[_]) (R1:=[]) hS (fun W h=>h))) Ap0_2 cp0_2 hcp0_2 (fun W hS=>fp0_2 W (ok_pre (H1:=[_]) (R1:=[]) hS (fun W h=>h))) _ hx3) (fun _ _=>?_)
 refine g_v rfl r_assign<|g_nil<|d_then<|c_seq<|c_seq<|c_region<|g_v rfl r_move<|g_v rfl (r_neq rfl rfl)<|g_nil<|d_then ?_
 refine c_sta ⟨w0,M,(100010,g1,.cells #[.int .i64 p0.fKind,.int .i64 p0.fSerial,.int .i64 p0.fEpoch,.string p0.fQuestion.fName,.int .u16 p0.fQuestion.fType,.int .u16 p0.fQuestion.fClass,.bool p0.fGood,.slice Ap0_0 p0.fEntries.length cp0_0,.int .i64 p0.fNote.fKind,.int .i64 p0.fNote.fFrom,.int .i64 p0.fNote.fTo,.int .i64 p0.fNote.fTerm,.int .i64 p0.fNote.fIndex,.int .i64 p0.fNote.fLogTerm,.int .i64 p0.fNote.fCommit,.bool p0.fNote.fGood,.slice Ap0_1 p0.fNote.fEntries.length cp0_1,.slice Ap0_2 p0.fNote.fVoters.length cp0_2,.string p0.fNote.fSnap,.string p0.fText] 31 (0,0))::H,R,φ⟩ (fun _ h=>h) ?_
 refine c_cond rfl (fun h4=>?_) (fun h4=>?_)
 ·
  replace hm:=ite_t hm (of_decide_eq_true h4)
  refine c_seq<|c_region<|g_v rfl r_move<|g_v rfl r_assign<|g_v rfl r_assign<|g_nil<|d_then ?_
  refine c_flat [(2,.string (⟨#[]⟩ : ByteArray)),(3,.int .i64 x2)] ⟨rfl,rfl,trivial⟩ (fun u=>?_)
  refine c_ret<|d_ret_then ?_
  cases hm
  exact d_retC () Try.results13 (res_tmp (res_tmp (res_nil rfl))) trivial (fun W h=>ok_pre (H1:=[_]) (R1:=[]) h (fun W hφ=>hφ)) (.inr rfl)
 replace hm:=ite_f hm (of_decide_eq_false h4)
 refine c_skip<|d_then<|c_seq<|c_region ?_
 replace hm:=bnd hm
 obtain ⟨x5,hx6,hm⟩:=hm
 refine g_cn ⟨w0,M,_,_,φ⟩ (fun _ h=>h) Try.call23 rfl rfl (c_pack_New  _ hx6) (fun ⟨A7,c8,A10,c11,g13⟩ ⟨hc8,hc11⟩=>?_)
 refine g_sta _ (fun W h=>(ok_frontR (t:=2000) (t':=100110) (ok_frontR (t:=2001) (t':=100111) (ok_front (t:=3000) (t':=100115) h rfl) rfl) rfl))<|g_v rfl (r_build _ rfl (bld63_14 _)) ?_
 refine g_e rfl (e_alloc 100050 Try.zeroValue63) (fun g14 _=>?_)
 refine g_storeL (tag:=100050) rfl rfl rfl rfl Try.sizeOf63 rfl rfl<|g_nil<|d_then ?_
 refine c_flat [(1,.pointer (some ⟨g1,0,none⟩)),(5,.pointer (some ⟨g14,0,none⟩))] ⟨rfl,rfl,trivial⟩ (fun u=>?_)
 refine c_sta ⟨w0,M,(100050,g14,.cells #[.pointer (some ⟨g13,0,none⟩)] 63 (0,0))::(100115,g13,.cells #[.slice A7 x5.fb.length c8,mapV A10] 94 (0,0))::(100010,g1,.cells #[.int .i64 p0.fKind,.int .i64 p0.fSerial,.int .i64 p0.fEpoch,.string p0.fQuestion.fName,.int .u16 p0.fQuestion.fType,.int .u16 p0.fQuestion.fClass,.bool p0.fGood,.slice Ap0_0 p0.fEntries.length cp0_0,.int .i64 p0.fNote.fKind,.int .i64 p0.fNote.fFrom,.int .i64 p0.fNote.fTo,.int .i64 p0.fNote.fTerm,.int .i64 p0.fNote.fIndex,.int .i64 p0.fNote.fLogTerm,.int .i64 p0.fNote.fCommit,.bool p0.fNote.fGood,.slice Ap0_1 p0.fNote.fEntries.length cp0_1,.slice Ap0_2 p0.fNote.fVoters.length cp0_2,.string p0.fNote.fSnap,.string p0.fText] 31 (0,0))::H,(100110,⟨.slice A7 x5.fb.length c8,5,1,x5.fb.length,x5.fb.flatMap (fun x : Int=>[Value.int .u8 x])⟩)::(100111,⟨mapV A10,92,2,x5.fplaces.length,x5.fplaces.flatMap (mcell (fun x : ByteArray=>Value.string x) (fun x : Int=>Value.int .i64 x))⟩)::R,φ⟩ (fun _ h=>h)<|c_seq<|c_region<|g_v rfl (r_field (n:=0) Try.underlying63 rfl Try.sizeOf60 rfl rfl)<|g_v rfl (r_load (tag:=100050) rfl rfl rfl Try.isAgg60)<|g_v rfl (r_field (n:=0) Try.underlying31 rfl Try.sizeOf3 rfl rfl)<|g_v rfl (r_load (tag:=100010) rfl rfl rfl Try.isAgg3)<|g_v rfl (r_conv Try.underlying3 Try.underlying5 rfl rfl) ?_
 replace hm:=bnd hm
 obtain ⟨x15,hx16,hm⟩:=hm
 refine g_cn ⟨w0,M,(1000,g13,.cells #[.slice A7 x5.fb.length c8,mapV A10] 94 (0,0))::(100050,g14,.cells #[.pointer (some ⟨g13,0,none⟩)] 63 (0,0))::(100010,g1,.cells #[.int .i64 p0.fKind,.int .i64 p0.fSerial,.int .i64 p0.fEpoch,.string p0.fQuestion.fName,.int .u16 p0.fQuestion.fType,.int .u16 p0.fQuestion.fClass,.bool p0.fGood,.slice Ap0_0 p0.fEntries.length cp0_0,.int .i64 p0.fNote.fKind,.int .i64 p0.fNote.fFrom,.int .i64 p0.fNote.fTo,.int .i64 p0.fNote.fTerm,.int .i64 p0.fNote.fIndex,.int .i64 p0.fNote.fLogTerm,.int .i64 p0.fNote.fCommit,.bool p0.fNote.fGood,.slice Ap0_1 p0.fNote.fEntries.length cp0_1,.slice Ap0_2 p0.fNote.fVoters.length cp0_2,.string p0.fNote.fSnap,.string p0.fText] 31 (0,0))::H,(1000,⟨.slice A7 x5.fb.length c8,5,1,x5.fb.length,x5.fb.flatMap (fun x : Int=>[Value.int .u8 x])⟩)::(1001,⟨mapV A10,92,2,x5.fplaces.length,x5.fplaces.flatMap (mcell (fun x : ByteArray=>Value.string x) (fun x : Int=>Value.int .i64 x))⟩)::R,φ⟩ (fun W h=>(ok_front (t:=100115) (t':=1000) (ok_frontR (t:=100110) (t':=1000) (ok_frontR (t:=100111) (t':=1001) h rfl) rfl) rfl)) Try.call24 rfl rfl (c_pack_Packer_Byte (IntKind.u8.wrap p0.fKind) g13 x5 A7 c8 hc8 A10 c11 trivial _ hx16) (fun ⟨A17,c18⟩ hc18=>?_)
 refine g_sta _ (fun W h=>(ok_frontR (t:=2000) (t':=100110) (ok_frontR (t:=1001) (t':=100111) (ok_front (t:=1000) (t':=100115) h rfl) rfl) rfl))<|g_nil<|d_then<|c_seq<|c_region<|g_v rfl (r_loadA (tag:=100050) rfl rfl Try.isAgg63 Try.sizeOf63 rfl rfl)<|g_v rfl (r_field (n:=1) Try.underlying31 rfl Try.sizeOf3 rfl rfl)<|g_v rfl (r_load (tag:=100010) rfl rfl rfl Try.isAgg3)<|g_v rfl (r_field (n:=2) Try.underlying31 rfl Try.sizeOf3 rfl rfl)<|g_v rfl (r_load (tag:=100010) rfl rfl rfl Try.isAgg3) ?_
 refine g_e rfl (e_lit (tag:=100240) (l:=[p0.fSerial,p0.fEpoch]) (enc:=(fun x : Int=>[Value.int .i64 x])) (sz:=1) rfl Try.underlying27 (lit3_17 _ _) rfl rfl (fun _=>rfl)) (fun g20 _=>?_)
 replace hm:=bnd hm
 obtain ⟨x21,hx22,hm⟩:=hm
 refine g_cn ⟨w0,M,(1000,g13,.cells #[.slice A17 x15.fb.length c18,mapV A10] 94 (0,0))::(100050,g14,.cells #[.pointer (some ⟨g13,0,none⟩)] 63 (0,0))::(100010,g1,.cells #[.int .i64 p0.fKind,.int .i64 p0.fSerial,.int .i64 p0.fEpoch,.string p0.fQuestion.fName,.int .u16 p0.fQuestion.fType,.int .u16 p0.fQuestion.fClass,.bool p0.fGood,.slice Ap0_0 p0.fEntries.length cp0_0,.int .i64 p0.fNote.fKind,.int .i64 p0.fNote.fFrom,.int .i64 p0.fNote.fTo,.int .i64 p0.fNote.fTerm,.int .i64 p0.fNote.fIndex,.int .i64 p0.fNote.fLogTerm,.int .i64 p0.fNote.fCommit,.bool p0.fNote.fGood,.slice Ap0_1 p0.fNote.fEntries.length cp0_1,.slice Ap0_2 p0.fNote.fVoters.length cp0_2,.string p0.fNote.fSnap,.string p0.fText] 31 (0,0))::H,(1000,⟨.slice A17 x15.fb.length c18,5,1,x15.fb.length,x15.fb.flatMap (fun x : Int=>[Value.int .u8 x])⟩)::(1001,⟨mapV A10,92,2,x5.fplaces.length,x5.fplaces.flatMap (mcell (fun x : ByteArray=>Value.string x) (fun x : Int=>Value.int .i64 x))⟩)::(100240,⟨.slice (some ⟨g20,0,none⟩) [p0.fSerial,p0.fEpoch].length 2,3,1,[p0.fSerial,p0.fEpoch].length,[p0.fSerial,p0.fEpoch].flatMap (fun x : Int=>[Value.int .i64 x])⟩)::R,φ⟩ (fun W h=>(ok_front (t:=100115) (t':=1000) (ok_frontR (t:=100110) (t':=1000) (ok_frontR (t:=100111) (t':=1001) h rfl) rfl) rfl)) Try.call25 rfl rfl (c_peer_writer_eight [p0.fSerial,p0.fEpoch] (some ⟨g20,0,none⟩) 2 (Nat.le_refl _) (fun W hS=>rowCl (tag:=100240) rfl W hS) g13 (⟨x15.fb,x5.fplaces⟩ : Gpack_Packer) A17 c18 hc18 A10 c11 trivial _ hx22) (fun ⟨A23,c24⟩ hc24=>?_)
 refine g_sta _ (fun W h=>(ok_frontR (t:=2000) (t':=100110) (ok_frontR (t:=1001) (t':=100111) (ok_front (t:=1000) (t':=100115) h rfl) rfl) rfl))<|g_nil<|d_then ?_
 refine c_flat [(1,.pointer (some ⟨g1,0,none⟩)),(5,.pointer (some ⟨g14,0,none⟩))] ⟨rfl,rfl,trivial⟩ (fun u=>?_)
 refine c_sta ⟨w0,M,(100115,g13,.cells #[.slice A23 x21.fb.length c24,mapV A10] 94 (0,0))::(100050,g14,.cells #[.pointer (some ⟨g13,0,none⟩)] 63 (0,0))::(100010,g1,.cells #[.int .i64 p0.fKind,.int .i64 p0.fSerial,.int .i64 p0.fEpoch,.string p0.fQuestion.fName,.int .u16 p0.fQuestion.fType,.int .u16 p0.fQuestion.fClass,.bool p0.fGood,.slice Ap0_0 p0.fEntries.length cp0_0,.int .i64 p0.fNote.fKind,.int .i64 p0.fNote.fFrom,.int .i64 p0.fNote.fTo,.int .i64 p0.fNote.fTerm,.int .i64 p0.fNote.fIndex,.int .i64 p0.fNote.fLogTerm,.int .i64 p0.fNote.fCommit,.bool p0.fNote.fGood,.slice Ap0_1 p0.fNote.fEntries.length cp0_1,.slice Ap0_2 p0.fNote.fVoters.length cp0_2,.string p0.fNote.fSnap,.string p0.fText] 31 (0,0))::H,(100110,⟨.slice A23 x21.fb.length c24,5,1,x21.fb.length,x21.fb.flatMap (fun x : Int=>[Value.int .u8 x])⟩)::(100111,⟨mapV A10,92,2,x5.fplaces.length,x5.fplaces.flatMap (mcell (fun x : ByteArray=>Value.string x) (fun x : Int=>Value.int .i64 x))⟩)::(100240,⟨.slice (some ⟨g20,0,none⟩) [p0.fSerial,p0.fEpoch].length 2,3,1,[p0.fSerial,p0.fEpoch].length,[p0.fSerial,p0.fEpoch].flatMap (fun x : Int=>[Value.int .i64 x])⟩)::R,φ⟩ (fun _ h=>h)<|c_seq ?_
 refine c_cut (ι:=(List Int)×(List (ByteArray×Int))×Option Addr×Nat×Option Addr×Nat) [5] (fun ⟨l73,l76,A74,c75,A77,c78⟩=>[]) (fun ⟨l73,l76,A74,c75,A77,c78⟩=>⟨w0,M,(100115,g13,.cells #[.slice A74 l73.length c75,mapV A77] 94 (0,0))::(100050,g14,.cells #[.pointer (some ⟨g13,0,none⟩)] 63 (0,0))::H,(100110,⟨.slice A74 l73.length c75,5,1,l73.length,l73.flatMap (fun x : Int=>[Value.int .u8 x])⟩)::(100111,⟨mapV A77,92,2,l76.length,l76.flatMap (mcell (fun x : ByteArray=>Value.string x) (fun x : Int=>Value.int .i64 x))⟩)::R,φ⟩) (fun ⟨l73,l76,A74,c75,A77,c78⟩=>m_peer_Bytes_j1 l73 l76 = some r∧l73.length ≤ c75∧True) ?_ (fun ⟨l73,l76,A74,c75,A77,c78⟩ u ⟨hm,hc75,hc78⟩=>?_)
 ·
  refine c_seq<|c_region<|g_v rfl (r_field (n:=0) Try.underlying31 rfl Try.sizeOf3 rfl rfl)<|g_v rfl (r_load (tag:=100010) rfl rfl rfl Try.isAgg3)<|g_nil<|d_then<|c_block<|c_seq<|c_region<|g_v rfl (r_eql rfl rfl) ?_
  refine g_v rfl r_assign<|g_nil<|d_then ?_
  refine c_cond rfl (fun h84=>?_) (fun h84=>?_)
  ·
   replace hm:=ite_t hm (of_decide_eq_true h84)
   refine c_seq<|c_region<|g_v rfl (r_field (n:=0) Try.underlying63 rfl Try.sizeOf60 rfl rfl)<|g_v rfl (r_load (tag:=100050) rfl rfl rfl Try.isAgg60)<|g_v rfl (r_field (n:=3) Try.underlying31 rfl Try.sizeOf24 rfl rfl)<|g_v rfl (r_field (n:=3) Try.underlying24 rfl Try.sizeOf9 rfl rfl)<|g_v rfl (r_load (tag:=100010) rfl rfl rfl Try.isAgg9) ?_
   replace hm:=bnd hm
   obtain ⟨⟨x85,x86⟩,hx87,hm⟩:=hm
   refine g_cn ⟨w0,M,(1000,g13,.cells #[.slice A23 x21.fb.length c24,mapV A10] 94 (0,0))::(100050,g14,.cells #[.pointer (some ⟨g13,0,none⟩)] 63 (0,0))::(100010,g1,.cells #[.int .i64 p0.fKind,.int .i64 p0.fSerial,.int .i64 p0.fEpoch,.string p0.fQuestion.fName,.int .u16 p0.fQuestion.fType,.int .u16 p0.fQuestion.fClass,.bool p0.fGood,.slice Ap0_0 p0.fEntries.length cp0_0,.int .i64 p0.fNote.fKind,.int .i64 p0.fNote.fFrom,.int .i64 p0.fNote.fTo,.int .i64 p0.fNote.fTerm,.int .i64 p0.fNote.fIndex,.int .i64 p0.fNote.fLogTerm,.int .i64 p0.fNote.fCommit,.bool p0.fNote.fGood,.slice Ap0_1 p0.fNote.fEntries.length cp0_1,.slice Ap0_2 p0.fNote.fVoters.length cp0_2,.string p0.fNote.fSnap,.string p0.fText] 31 (0,0))::H,(1000,⟨.slice A23 x21.fb.length c24,5,1,x21.fb.length,x21.fb.flatMap (fun x : Int=>[Value.int .u8 x])⟩)::(1001,⟨mapV A10,92,2,x5.fplaces.length,x5.fplaces.flatMap (mcell (fun x : ByteArray=>Value.string x) (fun x : Int=>Value.int .i64 x))⟩)::(100240,⟨.slice (some ⟨g20,0,none⟩) [p0.fSerial,p0.fEpoch].length 2,3,1,[p0.fSerial,p0.fEpoch].length,[p0.fSerial,p0.fEpoch].flatMap (fun x : Int=>[Value.int .i64 x])⟩)::R,φ⟩ (fun W h=>(ok_front (t:=100115) (t':=1000) (ok_frontR (t:=100110) (t':=1000) (ok_frontR (t:=100111) (t':=1001) h rfl) rfl) rfl)) Try.call26 rfl rfl (c_pack_Packer_Name p0.fQuestion.fName false g13 (⟨x21.fb,x5.fplaces⟩ : Gpack_Packer) A23 c24 hc24 A10 c11 trivial _ hx87) (fun ⟨A88,c89,A91,c92⟩ ⟨hc89,hc92⟩=>?_)
   refine g_sta _ (fun W h=>(ok_frontR (t:=2000) (t':=100110) (ok_frontR (t:=2001) (t':=100111) (ok_front (t:=1000) (t':=100115) h rfl) rfl) rfl))<|g_nil<|d_then ?_
   refine c_flat [(1,.pointer (some ⟨g1,0,none⟩)),(5,.pointer (some ⟨g14,0,none⟩))] ⟨rfl,rfl,trivial⟩ (fun u=>?_)
   refine c_sta ⟨w0,M,(100115,g13,.cells #[.slice A88 x86.fb.length c89,mapV A91] 94 (0,0))::(100050,g14,.cells #[.pointer (some ⟨g13,0,none⟩)] 63 (0,0))::(100010,g1,.cells #[.int .i64 p0.fKind,.int .i64 p0.fSerial,.int .i64 p0.fEpoch,.string p0.fQuestion.fName,.int .u16 p0.fQuestion.fType,.int .u16 p0.fQuestion.fClass,.bool p0.fGood,.slice Ap0_0 p0.fEntries.length cp0_0,.int .i64 p0.fNote.fKind,.int .i64 p0.fNote.fFrom,.int .i64 p0.fNote.fTo,.int .i64 p0.fNote.fTerm,.int .i64 p0.fNote.fIndex,.int .i64 p0.fNote.fLogTerm,.int .i64 p0.fNote.fCommit,.bool p0.fNote.fGood,.slice Ap0_1 p0.fNote.fEntries.length cp0_1,.slice Ap0_2 p0.fNote.fVoters.length cp0_2,.string p0.fNote.fSnap,.string p0.fText] 31 (0,0))::H,(100110,⟨.slice A88 x86.fb.length c89,5,1,x86.fb.length,x86.fb.flatMap (fun x : Int=>[Value.int .u8 x])⟩)::(100111,⟨mapV A91,92,2,x86.fplaces.length,x86.fplaces.flatMap (mcell (fun x : ByteArray=>Value.string x) (fun x : Int=>Value.int .i64 x))⟩)::(100240,⟨.slice (some ⟨g20,0,none⟩) [p0.fSerial,p0.fEpoch].length 2,3,1,[p0.fSerial,p0.fEpoch].length,[p0.fSerial,p0.fEpoch].flatMap (fun x : Int=>[Value.int .i64 x])⟩)::R,φ⟩ (fun _ h=>h)<|c_seq<|c_region<|g_v rfl (r_field (n:=0) Try.underlying63 rfl Try.sizeOf60 rfl rfl)<|g_v rfl (r_load (tag:=100050) rfl rfl rfl Try.isAgg60)<|g_v rfl (r_field (n:=3) Try.underlying31 rfl Try.sizeOf24 rfl rfl)<|g_v rfl (r_field (n:=4) Try.underlying24 rfl Try.sizeOf22 rfl rfl)<|g_v rfl (r_load (tag:=100010) rfl rfl rfl Try.isAgg22) ?_
   replace hm:=bnd hm
   obtain ⟨x95,hx96,hm⟩:=hm
   refine g_cn ⟨w0,M,(1000,g13,.cells #[.slice A88 x86.fb.length c89,mapV A91] 94 (0,0))::(100050,g14,.cells #[.pointer (some ⟨g13,0,none⟩)] 63 (0,0))::(100010,g1,.cells #[.int .i64 p0.fKind,.int .i64 p0.fSerial,.int .i64 p0.fEpoch,.string p0.fQuestion.fName,.int .u16 p0.fQuestion.fType,.int .u16 p0.fQuestion.fClass,.bool p0.fGood,.slice Ap0_0 p0.fEntries.length cp0_0,.int .i64 p0.fNote.fKind,.int .i64 p0.fNote.fFrom,.int .i64 p0.fNote.fTo,.int .i64 p0.fNote.fTerm,.int .i64 p0.fNote.fIndex,.int .i64 p0.fNote.fLogTerm,.int .i64 p0.fNote.fCommit,.bool p0.fNote.fGood,.slice Ap0_1 p0.fNote.fEntries.length cp0_1,.slice Ap0_2 p0.fNote.fVoters.length cp0_2,.string p0.fNote.fSnap,.string p0.fText] 31 (0,0))::H,(1000,⟨.slice A88 x86.fb.length c89,5,1,x86.fb.length,x86.fb.flatMap (fun x : Int=>[Value.int .u8 x])⟩)::(1001,⟨mapV A91,92,2,x86.fplaces.length,x86.fplaces.flatMap (mcell (fun x : ByteArray=>Value.string x) (fun x : Int=>Value.int .i64 x))⟩)::(100240,⟨.slice (some ⟨g20,0,none⟩) [p0.fSerial,p0.fEpoch].length 2,3,1,[p0.fSerial,p0.fEpoch].length,[p0.fSerial,p0.fEpoch].flatMap (fun x : Int=>[Value.int .i64 x])⟩)::R,φ⟩ (fun W h=>(ok_front (t:=100115) (t':=1000) (ok_frontR (t:=100110) (t':=1000) (ok_frontR (t:=100111) (t':=1001) h rfl) rfl) rfl)) Try.call27 rfl rfl (c_pack_Packer_Word p0.fQuestion.fType g13 x86 A88 c89 hc89 A91 c92 trivial _ hx96) (fun ⟨A97,c98⟩ hc98=>?_)
   refine g_sta _ (fun W h=>(ok_frontR (t:=2000) (t':=100110) (ok_frontR (t:=1001) (t':=100111) (ok_front (t:=1000) (t':=100115) h rfl) rfl) rfl))<|g_nil<|d_then<|c_region<|g_v rfl (r_field (n:=0) Try.underlying63 rfl Try.sizeOf60 rfl rfl)<|g_v rfl (r_load (tag:=100050) rfl rfl rfl Try.isAgg60)<|g_v rfl (r_field (n:=3) Try.underlying31 rfl Try.sizeOf24 rfl rfl)<|g_v rfl (r_field (n:=5) Try.underlying24 rfl Try.sizeOf22 rfl rfl)<|g_v rfl (r_load (tag:=100010) rfl rfl rfl Try.isAgg22) ?_
   replace hm:=bnd hm
   obtain ⟨x100,hx101,hm⟩:=hm
   refine g_cn ⟨w0,M,(1000,g13,.cells #[.slice A97 x95.fb.length c98,mapV A91] 94 (0,0))::(100050,g14,.cells #[.pointer (some ⟨g13,0,none⟩)] 63 (0,0))::(100010,g1,.cells #[.int .i64 p0.fKind,.int .i64 p0.fSerial,.int .i64 p0.fEpoch,.string p0.fQuestion.fName,.int .u16 p0.fQuestion.fType,.int .u16 p0.fQuestion.fClass,.bool p0.fGood,.slice Ap0_0 p0.fEntries.length cp0_0,.int .i64 p0.fNote.fKind,.int .i64 p0.fNote.fFrom,.int .i64 p0.fNote.fTo,.int .i64 p0.fNote.fTerm,.int .i64 p0.fNote.fIndex,.int .i64 p0.fNote.fLogTerm,.int .i64 p0.fNote.fCommit,.bool p0.fNote.fGood,.slice Ap0_1 p0.fNote.fEntries.length cp0_1,.slice Ap0_2 p0.fNote.fVoters.length cp0_2,.string p0.fNote.fSnap,.string p0.fText] 31 (0,0))::H,(1000,⟨.slice A97 x95.fb.length c98,5,1,x95.fb.length,x95.fb.flatMap (fun x : Int=>[Value.int .u8 x])⟩)::(1001,⟨mapV A91,92,2,x86.fplaces.length,x86.fplaces.flatMap (mcell (fun x : ByteArray=>Value.string x) (fun x : Int=>Value.int .i64 x))⟩)::(100240,⟨.slice (some ⟨g20,0,none⟩) [p0.fSerial,p0.fEpoch].length 2,3,1,[p0.fSerial,p0.fEpoch].length,[p0.fSerial,p0.fEpoch].flatMap (fun x : Int=>[Value.int .i64 x])⟩)::R,φ⟩ (fun W h=>(ok_front (t:=100115) (t':=1000) (ok_frontR (t:=100110) (t':=1000) (ok_frontR (t:=100111) (t':=1001) h rfl) rfl) rfl)) Try.call27 rfl rfl (c_pack_Packer_Word p0.fQuestion.fClass g13 (⟨x95.fb,x86.fplaces⟩ : Gpack_Packer) A97 c98 hc98 A91 c92 trivial _ hx101) (fun ⟨A102,c103⟩ hc103=>?_)
   refine g_sta _ (fun W h=>(ok_frontR (t:=2000) (t':=100110) (ok_frontR (t:=1001) (t':=100111) (ok_front (t:=1000) (t':=100115) h rfl) rfl) rfl))<|g_nil<|d_normal_block ?_
   exact d_round (x100.fb,x86.fplaces,A102,c103,A91,c92) ⟨hm,hc103,trivial⟩ Nat.zero_lt_one ⟨rfl,trivial⟩ (fun W h=>((h.dropR (t:=100240) rfl).dropH (t:=100010) rfl).phi (fun W hφ=>hφ))
  replace hm:=ite_f hm (of_decide_eq_false h84)
  refine c_seq<|c_region<|g_v rfl (r_eql rfl rfl)<|g_v rfl r_assign<|g_nil<|d_then ?_
  refine c_cond rfl (fun h105=>?_) (fun h105=>?_)
  ·
   replace hm:=ite_t hm (of_decide_eq_true h105)
   refine c_seq<|c_region<|g_v rfl (r_loadA (tag:=100050) rfl rfl Try.isAgg63 Try.sizeOf63 rfl rfl)<|g_v rfl (r_field (n:=6) Try.underlying31 rfl Try.sizeOf4 rfl rfl)<|g_v rfl (r_load (tag:=100010) rfl rfl rfl Try.isAgg4) ?_
   replace hm:=bnd hm
   obtain ⟨x106,hx107,hm⟩:=hm
   refine g_cn ⟨w0,M,(1000,g13,.cells #[.slice A23 x21.fb.length c24,mapV A10] 94 (0,0))::(100050,g14,.cells #[.pointer (some ⟨g13,0,none⟩)] 63 (0,0))::(100010,g1,.cells #[.int .i64 p0.fKind,.int .i64 p0.fSerial,.int .i64 p0.fEpoch,.string p0.fQuestion.fName,.int .u16 p0.fQuestion.fType,.int .u16 p0.fQuestion.fClass,.bool p0.fGood,.slice Ap0_0 p0.fEntries.length cp0_0,.int .i64 p0.fNote.fKind,.int .i64 p0.fNote.fFrom,.int .i64 p0.fNote.fTo,.int .i64 p0.fNote.fTerm,.int .i64 p0.fNote.fIndex,.int .i64 p0.fNote.fLogTerm,.int .i64 p0.fNote.fCommit,.bool p0.fNote.fGood,.slice Ap0_1 p0.fNote.fEntries.length cp0_1,.slice Ap0_2 p0.fNote.fVoters.length cp0_2,.string p0.fNote.fSnap,.string p0.fText] 31 (0,0))::H,(1000,⟨.slice A23 x21.fb.length c24,5,1,x21.fb.length,x21.fb.flatMap (fun x : Int=>[Value.int .u8 x])⟩)::(1001,⟨mapV A10,92,2,x5.fplaces.length,x5.fplaces.flatMap (mcell (fun x : ByteArray=>Value.string x) (fun x : Int=>Value.int .i64 x))⟩)::(100240,⟨.slice (some ⟨g20,0,none⟩) [p0.fSerial,p0.fEpoch].length 2,3,1,[p0.fSerial,p0.fEpoch].length,[p0.fSerial,p0.fEpoch].flatMap (fun x : Int=>[Value.int .i64 x])⟩)::R,φ⟩ (fun W h=>(ok_front (t:=100115) (t':=1000) (ok_frontR (t:=100110) (t':=1000) (ok_frontR (t:=100111) (t':=1001) h rfl) rfl) rfl)) Try.call28 rfl rfl (c_peer_writer_bit p0.fGood g13 (⟨x21.fb,x5.fplaces⟩ : Gpack_Packer) A23 c24 hc24 A10 c11 trivial _ hx107) (fun ⟨A108,c109⟩ hc109=>?_)
   refine g_sta _ (fun W h=>(ok_frontR (t:=2000) (t':=100110) (ok_frontR (t:=1001) (t':=100111) (ok_front (t:=1000) (t':=100115) h rfl) rfl) rfl))<|g_nil<|d_then ?_
   refine c_flat [(1,.pointer (some ⟨g1,0,none⟩)),(5,.pointer (some ⟨g14,0,none⟩))] ⟨rfl,rfl,trivial⟩ (fun u=>?_)
   refine c_sta ⟨w0,M,(100115,g13,.cells #[.slice A108 x106.fb.length c109,mapV A10] 94 (0,0))::(100050,g14,.cells #[.pointer (some ⟨g13,0,none⟩)] 63 (0,0))::(100010,g1,.cells #[.int .i64 p0.fKind,.int .i64 p0.fSerial,.int .i64 p0.fEpoch,.string p0.fQuestion.fName,.int .u16 p0.fQuestion.fType,.int .u16 p0.fQuestion.fClass,.bool p0.fGood,.slice Ap0_0 p0.fEntries.length cp0_0,.int .i64 p0.fNote.fKind,.int .i64 p0.fNote.fFrom,.int .i64 p0.fNote.fTo,.int .i64 p0.fNote.fTerm,.int .i64 p0.fNote.fIndex,.int .i64 p0.fNote.fLogTerm,.int .i64 p0.fNote.fCommit,.bool p0.fNote.fGood,.slice Ap0_1 p0.fNote.fEntries.length cp0_1,.slice Ap0_2 p0.fNote.fVoters.length cp0_2,.string p0.fNote.fSnap,.string p0.fText] 31 (0,0))::H,(100110,⟨.slice A108 x106.fb.length c109,5,1,x106.fb.length,x106.fb.flatMap (fun x : Int=>[Value.int .u8 x])⟩)::(100111,⟨mapV A10,92,2,x5.fplaces.length,x5.fplaces.flatMap (mcell (fun x : ByteArray=>Value.string x) (fun x : Int=>Value.int .i64 x))⟩)::(100240,⟨.slice (some ⟨g20,0,none⟩) [p0.fSerial,p0.fEpoch].length 2,3,1,[p0.fSerial,p0.fEpoch].length,[p0.fSerial,p0.fEpoch].flatMap (fun x : Int=>[Value.int .i64 x])⟩)::R,φ⟩ (fun _ h=>h)<|c_region<|g_v rfl (r_loadA (tag:=100050) rfl rfl Try.isAgg63 Try.sizeOf63 rfl rfl)<|g_v rfl (r_field (n:=7) Try.underlying31 rfl Try.sizeOf25 rfl rfl)<|g_v rfl (r_load (tag:=100010) rfl rfl rfl Try.isAgg25) ?_
   replace hm:=bnd hm
   obtain ⟨x111,hx112,hm⟩:=hm
   refine g_cn ⟨w0,M,(1000,g13,.cells #[.slice A108 x106.fb.length c109,mapV A10] 94 (0,0))::(100050,g14,.cells #[.pointer (some ⟨g13,0,none⟩)] 63 (0,0))::(100010,g1,.cells #[.int .i64 p0.fKind,.int .i64 p0.fSerial,.int .i64 p0.fEpoch,.string p0.fQuestion.fName,.int .u16 p0.fQuestion.fType,.int .u16 p0.fQuestion.fClass,.bool p0.fGood,.slice Ap0_0 p0.fEntries.length cp0_0,.int .i64 p0.fNote.fKind,.int .i64 p0.fNote.fFrom,.int .i64 p0.fNote.fTo,.int .i64 p0.fNote.fTerm,.int .i64 p0.fNote.fIndex,.int .i64 p0.fNote.fLogTerm,.int .i64 p0.fNote.fCommit,.bool p0.fNote.fGood,.slice Ap0_1 p0.fNote.fEntries.length cp0_1,.slice Ap0_2 p0.fNote.fVoters.length cp0_2,.string p0.fNote.fSnap,.string p0.fText] 31 (0,0))::H,(1000,⟨.slice A108 x106.fb.length c109,5,1,x106.fb.length,x106.fb.flatMap (fun x : Int=>[Value.int .u8 x])⟩)::(1001,⟨mapV A10,92,2,x5.fplaces.length,x5.fplaces.flatMap (mcell (fun x : ByteArray=>Value.string x) (fun x : Int=>Value.int .i64 x))⟩)::(100240,⟨.slice (some ⟨g20,0,none⟩) [p0.fSerial,p0.fEpoch].length 2,3,1,[p0.fSerial,p0.fEpoch].length,[p0.fSerial,p0.fEpoch].flatMap (fun x : Int=>[Value.int .i64 x])⟩)::R,φ⟩ (fun W h=>(ok_front (t:=100115) (t':=1000) (ok_frontR (t:=100110) (t':=1000) (ok_frontR (t:=100111) (t':=1001) h rfl) rfl) rfl)) Try.call29 rfl rfl (c_peer_writer_entries p0.fEntries Ap0_0 cp0_0 psp0_0 ⟨hcp0_0.1,hcp0_0.2⟩ (fun W hS=>fp0_0 W hS.now) (fun W hS=>(fop0_0 W hS.now)) g13 (⟨x106.fb,x5.fplaces⟩ : Gpack_Packer) A108 c109 hc109 A10 c11 trivial _ hx112) (fun ⟨A113,c114,A116,c117⟩ ⟨hc114,hc117⟩=>?_)
   refine g_sta _ (fun W h=>(ok_frontR (t:=2000) (t':=100110) (ok_frontR (t:=2001) (t':=100111) (ok_front (t:=1000) (t':=100115) h rfl) rfl) rfl))<|g_nil<|d_normal_block ?_
   exact d_round (x111.fb,x111.fplaces,A113,c114,A116,c117) ⟨hm,hc114,trivial⟩ Nat.zero_lt_one ⟨rfl,trivial⟩ (fun W h=>((h.dropR (t:=100240) rfl).dropH (t:=100010) rfl).phi (fun W hφ=>hφ))
  replace hm:=ite_f hm (of_decide_eq_false h105)
  refine c_seq<|c_region<|g_v rfl (r_eql rfl rfl)<|g_v rfl r_assign<|g_nil<|d_then ?_
  refine c_cond rfl (fun h119=>?_) (fun h119=>?_)
  ·
   replace hm:=ite_t hm (of_decide_eq_true h119)
   refine c_region<|g_v rfl (r_loadA (tag:=100050) rfl rfl Try.isAgg63 Try.sizeOf63 rfl rfl)<|g_v rfl (r_field (n:=8) Try.underlying31 rfl Try.sizeOf29 rfl rfl)<|g_v rfl (r_loadA (tag:=100010) rfl rfl Try.isAgg29 Try.sizeOf29 rfl rfl) ?_
   replace hm:=bnd hm
   obtain ⟨x120,hx121,hm⟩:=hm
   refine g_cn ⟨w0,M,(1000,g13,.cells #[.slice A23 x21.fb.length c24,mapV A10] 94 (0,0))::(100050,g14,.cells #[.pointer (some ⟨g13,0,none⟩)] 63 (0,0))::(100010,g1,.cells #[.int .i64 p0.fKind,.int .i64 p0.fSerial,.int .i64 p0.fEpoch,.string p0.fQuestion.fName,.int .u16 p0.fQuestion.fType,.int .u16 p0.fQuestion.fClass,.bool p0.fGood,.slice Ap0_0 p0.fEntries.length cp0_0,.int .i64 p0.fNote.fKind,.int .i64 p0.fNote.fFrom,.int .i64 p0.fNote.fTo,.int .i64 p0.fNote.fTerm,.int .i64 p0.fNote.fIndex,.int .i64 p0.fNote.fLogTerm,.int .i64 p0.fNote.fCommit,.bool p0.fNote.fGood,.slice Ap0_1 p0.fNote.fEntries.length cp0_1,.slice Ap0_2 p0.fNote.fVoters.length cp0_2,.string p0.fNote.fSnap,.string p0.fText] 31 (0,0))::H,(1000,⟨.slice A23 x21.fb.length c24,5,1,x21.fb.length,x21.fb.flatMap (fun x : Int=>[Value.int .u8 x])⟩)::(1001,⟨mapV A10,92,2,x5.fplaces.length,x5.fplaces.flatMap (mcell (fun x : ByteArray=>Value.string x) (fun x : Int=>Value.int .i64 x))⟩)::(100240,⟨.slice (some ⟨g20,0,none⟩) [p0.fSerial,p0.fEpoch].length 2,3,1,[p0.fSerial,p0.fEpoch].length,[p0.fSerial,p0.fEpoch].flatMap (fun x : Int=>[Value.int .i64 x])⟩)::R,φ⟩ (fun W h=>(ok_front (t:=100115) (t':=1000) (ok_frontR (t:=100110) (t':=1000) (ok_frontR (t:=100111) (t':=1001) h rfl) rfl) rfl)) Try.call30 rfl rfl (c_peer_writer_note p0.fNote Ap0_1 cp0_1 hcp0_1 (fun W hS=>fp0_1 W (ok_pre (H1:=[_,_]) (R1:=[_]) hS (fun W h=>h))) Ap0_2 cp0_2 hcp0_2 (fun W hS=>fp0_2 W (ok_pre (H1:=[_,_]) (R1:=[_]) hS (fun W h=>h))) g13 (⟨x21.fb,x5.fplaces⟩ : Gpack_Packer) A23 c24 hc24 A10 c11 trivial _ hx121) (fun ⟨A122,c123⟩ hc123=>?_)
   refine g_sta _ (fun W h=>(ok_frontR (t:=2000) (t':=100110) (ok_frontR (t:=1001) (t':=100111) (ok_front (t:=1000) (t':=100115) h rfl) rfl) rfl))<|g_nil<|d_normal_block ?_
   exact d_round (x120.fb,x5.fplaces,A122,c123,A10,c11) ⟨hm,hc123,trivial⟩ Nat.zero_lt_one ⟨rfl,trivial⟩ (fun W h=>((h.dropR (t:=100240) rfl).dropH (t:=100010) rfl).phi (fun W hφ=>hφ))
  replace hm:=ite_f hm (of_decide_eq_false h119)
  refine c_seq<|c_region<|g_v rfl (r_eql rfl rfl)<|g_v rfl r_assign<|g_nil<|d_then ?_
  refine c_flat [(1,.pointer (some ⟨g1,0,none⟩)),(5,.pointer (some ⟨g14,0,none⟩)),(64,.bool (decide (p0.fKind = 5)))] ⟨rfl,rfl,rfl,trivial⟩ (fun u=>?_)
  refine c_cond rfl (fun h125=>?_) (fun h125=>?_)
  ·
   replace hm:=ite_t hm (of_decide_eq_true h125)
   refine c_region<|g_v rfl (r_field (n:=0) Try.underlying63 rfl Try.sizeOf60 rfl rfl)<|g_v rfl (r_load (tag:=100050) rfl rfl rfl Try.isAgg60)<|g_v rfl (r_field (n:=19) Try.underlying31 rfl Try.sizeOf9 rfl rfl)<|g_v rfl (r_load (tag:=100010) rfl rfl rfl Try.isAgg9) ?_
   replace hm:=bnd hm
   obtain ⟨x126,hx127,hm⟩:=hm
   refine g_cn ⟨w0,M,(1000,g13,.cells #[.slice A23 x21.fb.length c24,mapV A10] 94 (0,0))::(100050,g14,.cells #[.pointer (some ⟨g13,0,none⟩)] 63 (0,0))::(100010,g1,.cells #[.int .i64 p0.fKind,.int .i64 p0.fSerial,.int .i64 p0.fEpoch,.string p0.fQuestion.fName,.int .u16 p0.fQuestion.fType,.int .u16 p0.fQuestion.fClass,.bool p0.fGood,.slice Ap0_0 p0.fEntries.length cp0_0,.int .i64 p0.fNote.fKind,.int .i64 p0.fNote.fFrom,.int .i64 p0.fNote.fTo,.int .i64 p0.fNote.fTerm,.int .i64 p0.fNote.fIndex,.int .i64 p0.fNote.fLogTerm,.int .i64 p0.fNote.fCommit,.bool p0.fNote.fGood,.slice Ap0_1 p0.fNote.fEntries.length cp0_1,.slice Ap0_2 p0.fNote.fVoters.length cp0_2,.string p0.fNote.fSnap,.string p0.fText] 31 (0,0))::H,(1000,⟨.slice A23 x21.fb.length c24,5,1,x21.fb.length,x21.fb.flatMap (fun x : Int=>[Value.int .u8 x])⟩)::(1001,⟨mapV A10,92,2,x5.fplaces.length,x5.fplaces.flatMap (mcell (fun x : ByteArray=>Value.string x) (fun x : Int=>Value.int .i64 x))⟩)::(100240,⟨.slice (some ⟨g20,0,none⟩) [p0.fSerial,p0.fEpoch].length 2,3,1,[p0.fSerial,p0.fEpoch].length,[p0.fSerial,p0.fEpoch].flatMap (fun x : Int=>[Value.int .i64 x])⟩)::R,φ⟩ (fun W h=>(ok_front (t:=100115) (t':=1000) (ok_frontR (t:=100110) (t':=1000) (ok_frontR (t:=100111) (t':=1001) h rfl) rfl) rfl)) Try.call31 rfl rfl (c_pack_Packer_Raw p0.fText g13 (⟨x21.fb,x5.fplaces⟩ : Gpack_Packer) A23 c24 hc24 A10 c11 trivial _ hx127) (fun ⟨A128,c129⟩ hc129=>?_)
   refine g_sta _ (fun W h=>(ok_frontR (t:=2000) (t':=100110) (ok_frontR (t:=1001) (t':=100111) (ok_front (t:=1000) (t':=100115) h rfl) rfl) rfl))<|g_nil<|d_normal_block ?_
   exact d_round (x126.fb,x5.fplaces,A128,c129,A10,c11) ⟨hm,hc129,trivial⟩ Nat.zero_lt_one ⟨rfl,trivial⟩ (fun W h=>((h.dropR (t:=100240) rfl).dropH (t:=100010) rfl).phi (fun W hφ=>hφ))
  replace hm:=ite_f hm (of_decide_eq_false h125)
  refine c_skip<|d_normal_block ?_
  exact d_round (x21.fb,x5.fplaces,A23,c24,A10,c11) ⟨hm,hc24,trivial⟩ Nat.zero_lt_one ⟨rfl,trivial⟩ (fun W h=>((h.dropR (t:=100240) rfl).dropH (t:=100010) rfl).phi (fun W hφ=>hφ))
 unfold m_peer_Bytes_j1 at hm
 refine d_flat [(5,.pointer (some ⟨g14,0,none⟩))] ⟨rfl,trivial⟩ (fun u=>?_)
 refine d_sta ⟨w0,M,(100115,g13,.cells #[.slice A74 l73.length c75,mapV A77] 94 (0,0))::(100050,g14,.cells #[.pointer (some ⟨g13,0,none⟩)] 63 (0,0))::H,(100110,⟨.slice A74 l73.length c75,5,1,l73.length,l73.flatMap (fun x : Int=>[Value.int .u8 x])⟩)::(100111,⟨mapV A77,92,2,l76.length,l76.flatMap (mcell (fun x : ByteArray=>Value.string x) (fun x : Int=>Value.int .i64 x))⟩)::R,φ⟩ (fun _ h=>h)<|d_then<|c_seq<|c_seq<|c_region<|g_v rfl (r_field (n:=0) Try.underlying63 rfl Try.sizeOf60 rfl rfl)<|g_v rfl (r_load (tag:=100050) rfl rfl rfl Try.isAgg60) ?_
 replace hm:=bnd hm
 obtain ⟨x79,hx80,hm⟩:=hm
 refine g_cn ⟨w0,M,(1000,g13,.cells #[.slice A74 l73.length c75,mapV A77] 94 (0,0))::(100050,g14,.cells #[.pointer (some ⟨g13,0,none⟩)] 63 (0,0))::H,(1000,⟨.slice A74 l73.length c75,5,1,l73.length,l73.flatMap (fun x : Int=>[Value.int .u8 x])⟩)::(1001,⟨mapV A77,92,2,l76.length,l76.flatMap (mcell (fun x : ByteArray=>Value.string x) (fun x : Int=>Value.int .i64 x))⟩)::R,φ⟩ (fun W h=>(ok_front (t:=100115) (t':=1000) (ok_frontR (t:=100110) (t':=1000) (ok_frontR (t:=100111) (t':=1001) h rfl) rfl) rfl)) Try.call32 rfl rfl (c_pack_Packer_Len g13 (⟨l73,l76⟩ : Gpack_Packer) A74 c75 hc75 A77 c78 trivial _ hx80) (fun _ _=>?_)
 refine g_sta _ (fun W h=>(ok_frontR (t:=1000) (t':=100110) (ok_frontR (t:=1001) (t':=100111) (ok_front (t:=1000) (t':=100115) h rfl) rfl) rfl))<|g_v rfl (r_gtr rfl rfl)<|g_nil<|d_then ?_
 refine c_cond rfl (fun h81=>?_) (fun h81=>?_)
 ·
  replace hm:=ite_t hm (of_decide_eq_true h81)
  refine c_seq<|c_region<|g_v rfl r_assign<|g_v rfl r_assign<|g_nil<|d_then<|c_ret<|d_ret_then ?_
  cases hm
  exact d_retC () Try.results13 (res_tmp (res_tmp (res_nil rfl))) trivial (fun W h=>ok_pre (H1:=[_,_]) (R1:=[_,_]) h (fun W hφ=>hφ)) (.inr rfl)
 replace hm:=ite_f hm (of_decide_eq_false h81)
 refine c_skip<|d_then<|c_seq<|c_region<|g_v rfl (r_field (n:=0) Try.underlying63 rfl Try.sizeOf60 rfl rfl)<|g_v rfl (r_load (tag:=100050) rfl rfl rfl Try.isAgg60) ?_
 replace hm:=bnd hm
 obtain ⟨x82,hx83,hm⟩:=hm
 refine g_cn ⟨w0,M,(1000,g13,.cells #[.slice A74 l73.length c75,mapV A77] 94 (0,0))::(100050,g14,.cells #[.pointer (some ⟨g13,0,none⟩)] 63 (0,0))::H,(1000,⟨.slice A74 l73.length c75,5,1,l73.length,l73.flatMap (fun x : Int=>[Value.int .u8 x])⟩)::(1001,⟨mapV A77,92,2,l76.length,l76.flatMap (mcell (fun x : ByteArray=>Value.string x) (fun x : Int=>Value.int .i64 x))⟩)::R,φ⟩ (fun W h=>(ok_front (t:=100115) (t':=1000) (ok_frontR (t:=100110) (t':=1000) (ok_frontR (t:=100111) (t':=1001) h rfl) rfl) rfl)) Try.call33 rfl rfl (c_pack_Packer_Bytes g13 (⟨l73,l76⟩ : Gpack_Packer) A74 c75 hc75 A77 c78 trivial _ hx83) (fun _ _=>?_)
 refine g_sta _ (fun W h=>(ok_frontR (t:=1000) (t':=100110) (ok_frontR (t:=1001) (t':=100111) (ok_front (t:=1000) (t':=100115) h rfl) rfl) rfl))<|g_v rfl r_assign<|g_v rfl r_assign<|g_nil<|d_then ?_
 refine c_flat [(2,.string x82),(3,.int .i64 0)] ⟨rfl,rfl,trivial⟩ (fun u=>?_)
 refine c_ret ?_
 cases hm
 exact d_retC () Try.results13 (res_tmp (res_tmp (res_nil rfl))) trivial (fun W h=>ok_pre (H1:=[_,_]) (R1:=[_,_]) h (fun W hφ=>hφ)) (.inr rfl)
theorem bld31_23 (z0 : Int) (z1 : Int) : ∀ W,(Instr.build 31 #[(0,.int .i64 z0),(1,.int .i64 z1)]).run Try.prog W = .ok (.agg #[.int .i64 z0,.int .i64 z1,.int .i64 0,.string (⟨#[]⟩ : ByteArray),.int .u16 0,.int .u16 0,.bool false,.slice none 0 0,.int .i64 0,.int .i64 0,.int .i64 0,.int .i64 0,.int .i64 0,.int .i64 0,.int .i64 0,.bool false,.slice none 0 0,.slice none 0 0,.string (⟨#[]⟩ : ByteArray),.string (⟨#[]⟩ : ByteArray)]) W:=fun _=>by kernel_rfl
theorem bld54_24 (z0 : ByteArray) (z1 : Int) (z2 : Int) (z3 : ByteArray) : ∀ W,(Instr.build 54 #[(0,.string z0),(1,.int .u16 z1),(2,.int .u16 z2),(4,.string z3)]).run Try.prog W = .ok (.agg #[.string z0,.int .u16 z1,.int .u16 z2,.int .u32 0,.string z3]) W:=fun _=>by kernel_rfl
theorem lit54_25 (z0 : ByteArray) (z1 : Int) (z2 : Int) (z3 : Int) (z4 : ByteArray) : Try.prog.builtSlice 54 1 [(0,.agg #[.string z0,.int .u16 z1,.int .u16 z2,.int .u32 z3,.string z4])] = some #[.string z0,.int .u16 z1,.int .u16 z2,.int .u32 z3,.string z4]:=by kernel_rfl
theorem bld41_26 (z0 : Int) (z1 : ByteArray) (z2 : Int) (z3 : Int) (z4 : Int) (z5 : Int) (zA6 : Option Addr) (zn6 : Nat) (zc6 : Nat) : ∀ W,(Instr.build 41 #[(0,.int .i64 z0),(1,.string z1),(2,.int .u16 z2),(3,.int .u16 z3),(5,.int .i64 z4),(6,.int .i64 z5),(4,.slice zA6 zn6 zc6)]).run Try.prog W = .ok (.agg #[.int .i64 z0,.string z1,.int .u16 z2,.int .u16 z3,.slice zA6 zn6 zc6,.int .i64 z4,.int .i64 z5,.int .i64 0,.int .i64 0]) W:=fun _=>by kernel_rfl
noncomputable def m_law20_entry (p0 : Int) : Option GCached:=
  some (⟨1,(⟨#[1,97,0]⟩ : ByteArray),1,1,[(⟨(⟨#[1,97,0]⟩ : ByteArray),1,1,0,(⟨#[1,2,3,4]⟩ : ByteArray)⟩ : GRR)],p0,3,0,0⟩ : GCached)
theorem c_law20_entry {w0 : World} {M : Nat→Prop} {H : List (Nat×Nat×Obj)} {R : List (Nat×Row)} {φ : World→Prop} (p0 : Int) (r : GCached) (hm : m_law20_entry p0 = some r) :
    Cn Try.prog 17 #[.int .i64 p0] ⟨w0,M,H,R,φ⟩ (fun x : Option Addr×Nat=>.agg #[.int .i64 r.fKind,.string r.fName,.int .u16 r.fType,.int .u16 r.fClass,.slice x.1 r.fRecords.length x.2,.int .i64 r.fUntil,.int .i64 r.fRank,.int .i64 r.fEpoch,.int .i64 r.fSource]) (fun x=>r.fRecords.length ≤ x.2) (fun x=>⟨w0,M,H,R,fun W=>φ W∧Cl W x.1 (r.fRecords.flatMap GRR.enc)⟩):=by
 unfold m_law20_entry at hm
 refine cn_intro (fn:=Try.f17) (N:=10) Try.func17 rfl Try.ntmps17 rfl<|c_seq<|c_region ?_
 refine g_e rfl (e_alloc 100020 Try.zeroValue41) (fun g1 _=>?_)
 refine g_nil<|d_then<|c_seq<|c_region<|g_v rfl r_assign<|g_nil<|d_then<|c_seq<|c_region ?_
 iterate 3 refine g_v rfl r_move ?_
 refine g_v rfl (r_build _ rfl (bld54_24 _ _ _ _)) ?_
 refine g_e rfl (e_lit (tag:=100080) (l:=[(⟨(⟨#[1,97,0]⟩ : ByteArray),1,1,0,(⟨#[1,2,3,4]⟩ : ByteArray)⟩ : GRR)]) (enc:=GRR.enc) (sz:=5) rfl Try.underlying39 (lit54_25 _ _ _ _ _) rfl rfl (fun _=>rfl)) (fun g2 _=>?_)
 refine g_v rfl (r_build _ rfl (bld41_26 _ _ _ _ _ _ _ _ _))<|g_storeL (tag:=100020) rfl rfl rfl rfl Try.sizeOf41 rfl rfl<|g_nil<|d_then ?_
 refine c_flat [(2,.pointer (some ⟨g1,0,none⟩))] ⟨rfl,trivial⟩ (fun u=>?_)
 refine c_sta ⟨w0,M,(100020,g1,.cells #[.int .i64 1,.string (⟨#[1,97,0]⟩ : ByteArray),.int .u16 1,.int .u16 1,.slice (some ⟨g2,0,none⟩) ([(⟨(⟨#[1,97,0]⟩ : ByteArray),1,1,0,(⟨#[1,2,3,4]⟩ : ByteArray)⟩ : GRR)]).length 1,.int .i64 p0,.int .i64 3,.int .i64 0,.int .i64 0] 41 (0,0))::H,(100080,⟨.slice (some ⟨g2,0,none⟩) ([(⟨(⟨#[1,97,0]⟩ : ByteArray),1,1,0,(⟨#[1,2,3,4]⟩ : ByteArray)⟩ : GRR)]).length 1,54,5,([(⟨(⟨#[1,97,0]⟩ : ByteArray),1,1,0,(⟨#[1,2,3,4]⟩ : ByteArray)⟩ : GRR)]).length,([(⟨(⟨#[1,97,0]⟩ : ByteArray),1,1,0,(⟨#[1,2,3,4]⟩ : ByteArray)⟩ : GRR)]).flatMap GRR.enc⟩)::R,φ⟩ (fun _ h=>h)<|c_ret ?_
 cases hm
 refine d_shut (tag:=100080) rfl (fun φ3 q3'=>?_)
 have q3 : ∀ W,φ3 W→φ W:=fun W h=>(q3' W h).1
 have f4:=fun (W : World) (h : φ3 W)=>(q3' W h).2
 exact d_retC (some ⟨g2,0,none⟩,1) Try.results17 (res_agg (tag:=100020) rfl rfl Try.isAgg41 Try.sizeOf41 (res_nil rfl)) (Nat.le_refl _) (fun W h=>ok_pre (H1:=[_]) (R1:=[]) h (fun W hφ=>⟨(q3 _ hφ),(fun W h=>f4 W h) W hφ⟩)) (.inr rfl)
theorem lit41_27 (z0 : Int) (z1 : ByteArray) (z2 : Int) (z3 : Int) (zAz4 : Option Addr) (znz4 : Nat) (zcz4 : Nat) (z5 : Int) (z6 : Int) (z7 : Int) (z8 : Int) : Try.prog.builtSlice 41 1 [(0,.agg #[.int .i64 z0,.string z1,.int .u16 z2,.int .u16 z3,.slice zAz4 znz4 zcz4,.int .i64 z5,.int .i64 z6,.int .i64 z7,.int .i64 z8])] = some #[.int .i64 z0,.string z1,.int .u16 z2,.int .u16 z3,.slice zAz4 znz4 zcz4,.int .i64 z5,.int .i64 z6,.int .i64 z7,.int .i64 z8]:=by kernel_rfl
theorem bld31_28 (z0 : Int) (z1 : Int) (z2 : Int) (z3 : Bool) (zA4 : Option Addr) (zn4 : Nat) (zc4 : Nat) : ∀ W,(Instr.build 31 #[(0,.int .i64 z0),(1,.int .i64 z1),(2,.int .i64 z2),(4,.bool z3),(5,.slice zA4 zn4 zc4)]).run Try.prog W = .ok (.agg #[.int .i64 z0,.int .i64 z1,.int .i64 z2,.string (⟨#[]⟩ : ByteArray),.int .u16 0,.int .u16 0,.bool z3,.slice zA4 zn4 zc4,.int .i64 0,.int .i64 0,.int .i64 0,.int .i64 0,.int .i64 0,.int .i64 0,.int .i64 0,.bool false,.slice none 0 0,.slice none 0 0,.string (⟨#[]⟩ : ByteArray),.string (⟨#[]⟩ : ByteArray)]) W:=fun _=>by kernel_rfl
noncomputable def m_peer_clock (p0 : Int) : Option Int:=
  some (min (max p0 0) 1125899906842624)
theorem c_peer_clock {w0 : World} {M : Nat→Prop} {H : List (Nat×Nat×Obj)} {R : List (Nat×Row)} {φ : World→Prop} (p0 : Int) (r : Int) (hm : m_peer_clock p0 = some r) :
    Cn Try.prog 19 #[.int .i64 p0] ⟨w0,M,H,R,φ⟩ (fun x : Unit=>.int .i64 r) (fun x=>True) (fun x=>⟨w0,M,H,R,φ⟩):=by
 unfold m_peer_clock at hm
 refine cn_intro (fn:=Try.f19) (N:=6) Try.func19 rfl Try.ntmps19 rfl<|c_seq<|c_region<|g_v rfl r_assign<|g_nil<|d_then<|c_seq<|c_region<|g_v rfl r_move<|g_v rfl (r_max rfl rfl) ?_
 refine g_v rfl (r_min rfl rfl)<|g_v rfl r_assign<|g_nil<|d_then<|c_ret ?_
 cases hm
 exact d_retC () Try.results19 (res_tmp (res_nil rfl)) trivial (fun W h=>ok_pre (H1:=[]) (R1:=[]) h (fun W hφ=>hφ)) (.inr rfl)
theorem isi41_29  : (Try.prog.info? 41).isSome = true:=by kernel_rfl
theorem inf41_30  : (Try.prog.info? 41).map (fun i=>(i.zero,i.size,i.bytes)) = some (some (.agg #[.int .i64 0,.string (⟨#[]⟩ : ByteArray),.int .u16 0,.int .u16 0,.slice none 0 0,.int .i64 0,.int .i64 0,.int .i64 0,.int .i64 0]),9,88):=by kernel_rfl
noncomputable def m_slices_Clone_20 (p0 : List GCached) : Option (List GCached):=
  (app 88 ([] : List GCached) p0).bind fun l3=>
  some l3
theorem c_slices_Clone_20 {w0 : World} {M : Nat→Prop} {H : List (Nat×Nat×Obj)} {R : List (Nat×Row)} {φ : World→Prop} (p0 : List GCached) (Ap0_0 : Option Addr) (cp0_0 : Nat) (psp0_0 : List GCachedP) (hcp0_0 : (DOk GCached.capP p0 psp0_0∧p0.length ≤ cp0_0)) (fp0_0 : ∀ W,φ W→Cl W Ap0_0 ((p0.zip psp0_0).flatMap GCached.encP)) (fop0_0 : ∀ W,φ W→DOwn GCached.ownP p0 psp0_0 W) (r : (List GCached)) (hm : m_slices_Clone_20 p0 = some r) :
    Cn Try.prog 20 #[.slice Ap0_0 p0.length cp0_0] ⟨w0,M,H,R,φ⟩ (fun x : Option Addr×Nat×List GCachedP=>.slice x.1 r.length x.2.1) (fun x=>(DOk GCached.capP r x.2.2∧r.length ≤ x.2.1)) (fun x=>⟨w0,M,H,(2000,⟨.slice x.1 r.length x.2.1,41,9,r.length,(r.zip x.2.2).flatMap GCached.encP⟩)::R,fun W=>φ W∧DOwn GCached.ownP r x.2.2 W⟩):=by
 unfold m_slices_Clone_20 at hm
 refine cn_intro (fn:=Try.f20) (N:=8) Try.func20 rfl Try.ntmps20 rfl<|c_seq<|c_region<|g_v rfl r_assign<|g_nil<|d_then<|c_seq<|c_seq<|c_region<|g_v rfl r_move ?_
 refine g_v rfl (r_isNilS Try.underlying25 rfl rfl)<|g_nil<|d_then ?_
 refine c_cond rfl (fun h1=>?_) (fun h1=>?_)
 ·
  refine c_know (p0 = []) (fun W hS=>cl_nil_ofD hcp0_0.1 (enc:=GCached.encP) (fun _=>Nat.le_of_ble_eq_true rfl) (nil_of h1 ▸ fp0_0 W hS.now)) (fun hnil=>?_)
  replace hm : some ([] : List GCached) = some r:=by rw [hnil] at hm; exact hm
  refine c_seq<|c_region<|g_v rfl r_assign<|g_nil<|d_then<|c_ret<|d_ret_then ?_
  cases hm
  refine d_sta _ (fun W h=>nilR h 11 41 9)<|d_sta _ (fun W h=>ok_frontR (t:=11) (t':=2000) h rfl) ?_
  exact d_retC (none,0,([] : List GCachedP)) Try.results20 (res_tmp (res_nil rfl)) ⟨DOk.nil,(Nat.le_refl 0)⟩ (fun W h=>h.phi (fun W hφ=>⟨hφ,(fun W h=>DOwn.nil) W hφ⟩)) (.inr rfl)
 refine c_skip<|d_then<|c_seq<|c_region ?_
 refine g_e rfl (e_lit0 (tag:=100050) (sz:=9) Try.underlying25 isi41_29) (fun g2 _=>?_)
 refine g_v rfl r_move ?_
 replace hm:=bnd hm
 obtain ⟨l3,hl3,hm⟩:=hm
 have hk6:=DOk.app (cap:=GCached.capP) DOk.nil hcp0_0.1 hl3
 have f7:=fun (W : World) (h : φ W)=>DOwn.app (own:=GCached.ownP) (cap:=GCached.capP) DOk.nil hl3 DOwn.nil (fop0_0 W h)
 refine g_e rfl (e_appRD (enc:=GCached.encP) (l:=[]) (l1:=p0) (l2:=l3) (tag:=100050) DOk.nil hcp0_0.1 Try.underlying25 inf41_30 rfl (by decide) (by decide) (fun _=>rfl) (fun _=>rfl) rfl (Nat.le_refl 0) rfl rfl (fun W hS=>fp0_0 W hS.now) hl3) (fun ⟨A4,c5⟩ hc5=>?_)
 refine g_v rfl r_assign<|g_nil<|d_then<|c_ret ?_
 cases hm
 refine d_sta _ (fun W h=>ok_frontR (t:=100050) (t':=2000) h rfl) ?_
 exact d_retC (A4,c5,([]++psp0_0)) Try.results20 (res_tmp (res_nil rfl)) ⟨hk6,hc5⟩ (fun W h=>h.phi (fun W hφ=>⟨hφ,(fun W h=>(f7 W h)) W hφ⟩)) (.inr rfl)
noncomputable def m_peer_Accept_j1  (l91 : List GCached) : Option ((List GCached)×Bool):=
  some (l91,true)
noncomputable def m_peer_Accept_s2 (x16 : List GCached) (x14 : Int) (l127 : List GCached) (i132 : Int) : Option (((List GCached)×Int) ⊕ (List GCached)):=
  if i132 < (x16.length : Int) then
    (at_ l127 i132).bind fun x166=>
    (at_ l127 i132).bind fun x176=>
    (setAt l127 i132 (⟨x176.fKind,x176.fName,x176.fType,x176.fClass,x176.fRecords,(min x166.fUntil x14),x176.fRank,x176.fEpoch,x176.fSource⟩ : GCached)).bind fun l186=>
    some (.inl (l186,w64 (i132 + 1)))
  else
    some (.inr l127)
noncomputable def m_peer_Accept (p0 : GLetter) (p1 : GLetter) (p2 : Int) (p3 : Int) (p4 : Int) : Option ((List GCached)×Bool):=
  if p1.fKind ≠ 2 then
    some (([] : List GCached),false)
  else
    (m_peer_Check p1).bind fun x4=>
    if x4 ≠ 0 then
      some (([] : List GCached),false)
    else
      if p1.fGood = true then
        if p1.fSerial ≠ p0.fSerial then
          some (([] : List GCached),false)
        else
          if p1.fEpoch < p2 then
            some (([] : List GCached),false)
          else
            (m_peer_clock p3).bind fun x10=>
            (m_peer_clock p4).bind fun x12=>
            (m_peer_clock (w64 (x10 + x12))).bind fun x14=>
            (m_slices_Clone_20 p1.fEntries).bind fun x16=>
            (loop (fun s=>m_peer_Accept_s2 x16 x14 s.1 s.2) (x16,0)).bind fun e=>m_peer_Accept_j1 e
      else
        some (([] : List GCached),false)
theorem c_peer_Accept {w0 : World} {M : Nat→Prop} {H : List (Nat×Nat×Obj)} {R : List (Nat×Row)} {φ : World→Prop} (p0 : GLetter) (Ap0_0 : Option Addr) (cp0_0 : Nat) (psp0_0 : List GCachedP) (hcp0_0 : (DOk GCached.capP p0.fEntries psp0_0∧p0.fEntries.length ≤ cp0_0)) (fp0_0 : ∀ W,(Sta.mk w0 M H R φ).ok W→Cl W Ap0_0 ((p0.fEntries.zip psp0_0).flatMap GCached.encP)) (fop0_0 : ∀ W,(Sta.mk w0 M H R φ).ok W→DOwn GCached.ownP p0.fEntries psp0_0 W) (Ap0_1 : Option Addr) (cp0_1 : Nat) (hcp0_1 : p0.fNote.fEntries.length ≤ cp0_1) (fp0_1 : ∀ W,(Sta.mk w0 M H R φ).ok W→Cl W Ap0_1 (p0.fNote.fEntries.flatMap GEntry.enc)) (Ap0_2 : Option Addr) (cp0_2 : Nat) (hcp0_2 : p0.fNote.fVoters.length ≤ cp0_2) (fp0_2 : ∀ W,(Sta.mk w0 M H R φ).ok W→Cl W Ap0_2 (p0.fNote.fVoters.flatMap (fun x : Int=>[Value.int .i64 x]))) (p1 : GLetter) (Ap1_0 : Option Addr) (cp1_0 : Nat) (psp1_0 : List GCachedP) (hcp1_0 : (DOk GCached.capP p1.fEntries psp1_0∧p1.fEntries.length ≤ cp1_0)) (fp1_0 : ∀ W,φ W→Cl W Ap1_0 ((p1.fEntries.zip psp1_0).flatMap GCached.encP)) (fop1_0 : ∀ W,φ W→DOwn GCached.ownP p1.fEntries psp1_0 W) (Ap1_1 : Option Addr) (cp1_1 : Nat) (hcp1_1 : p1.fNote.fEntries.length ≤ cp1_1) (fp1_1 : ∀ W,(Sta.mk w0 M H R φ).ok W→Cl W Ap1_1 (p1.fNote.fEntries.flatMap GEntry.enc)) (Ap1_2 : Option Addr) (cp1_2 : Nat) (hcp1_2 : p1.fNote.fVoters.length ≤ cp1_2) (fp1_2 : ∀ W,(Sta.mk w0 M H R φ).ok W→Cl W Ap1_2 (p1.fNote.fVoters.flatMap (fun x : Int=>[Value.int .i64 x]))) (p2 : Int) (p3 : Int) (p4 : Int) (r : (List GCached)×Bool) (hm : m_peer_Accept p0 p1 p2 p3 p4 = some r) :
    Cn Try.prog 9 #[.agg #[.int .i64 p0.fKind,.int .i64 p0.fSerial,.int .i64 p0.fEpoch,.string p0.fQuestion.fName,.int .u16 p0.fQuestion.fType,.int .u16 p0.fQuestion.fClass,.bool p0.fGood,.slice Ap0_0 p0.fEntries.length cp0_0,.int .i64 p0.fNote.fKind,.int .i64 p0.fNote.fFrom,.int .i64 p0.fNote.fTo,.int .i64 p0.fNote.fTerm,.int .i64 p0.fNote.fIndex,.int .i64 p0.fNote.fLogTerm,.int .i64 p0.fNote.fCommit,.bool p0.fNote.fGood,.slice Ap0_1 p0.fNote.fEntries.length cp0_1,.slice Ap0_2 p0.fNote.fVoters.length cp0_2,.string p0.fNote.fSnap,.string p0.fText],.agg #[.int .i64 p1.fKind,.int .i64 p1.fSerial,.int .i64 p1.fEpoch,.string p1.fQuestion.fName,.int .u16 p1.fQuestion.fType,.int .u16 p1.fQuestion.fClass,.bool p1.fGood,.slice Ap1_0 p1.fEntries.length cp1_0,.int .i64 p1.fNote.fKind,.int .i64 p1.fNote.fFrom,.int .i64 p1.fNote.fTo,.int .i64 p1.fNote.fTerm,.int .i64 p1.fNote.fIndex,.int .i64 p1.fNote.fLogTerm,.int .i64 p1.fNote.fCommit,.bool p1.fNote.fGood,.slice Ap1_1 p1.fNote.fEntries.length cp1_1,.slice Ap1_2 p1.fNote.fVoters.length cp1_2,.string p1.fNote.fSnap,.string p1.fText],.int .i64 p2,.int .i64 p3,.int .i64 p4] ⟨w0,M,H,R,φ⟩ (fun x : Option Addr×Nat×List GCachedP=>.tuple #[.slice x.1 r.1.length x.2.1,.bool r.2]) (fun x=>(DOk GCached.capP r.1 x.2.2∧r.1.length ≤ x.2.1)) (fun x=>⟨w0,M,H,(2000,⟨.slice x.1 r.1.length x.2.1,41,9,r.1.length,(r.1.zip x.2.2).flatMap GCached.encP⟩)::R,fun W=>φ W∧DOwn GCached.ownP r.1 x.2.2 W⟩):=by
 unfold m_peer_Accept at hm
 refine cn_intro (fn:=Try.f9) (N:=68) Try.func9 rfl Try.ntmps9 rfl<|c_seq<|c_region ?_
 refine g_e rfl (e_box 100050 rfl) (fun g1 _=>?_)
 refine g_e rfl (e_box 100060 rfl) (fun g2 _=>?_)
 refine g_v rfl r_assign<|g_v rfl r_assign<|g_nil<|d_then<|c_seq<|c_seq<|c_region<|g_v rfl (r_field (n:=0) Try.underlying31 rfl Try.sizeOf3 rfl rfl)<|g_v rfl (r_load (tag:=100060) rfl rfl rfl Try.isAgg3)<|g_v rfl (r_neq rfl rfl) ?_
 refine g_v rfl r_move<|g_sta ⟨w0,M,(100060,g2,.cells #[.int .i64 p1.fKind,.int .i64 p1.fSerial,.int .i64 p1.fEpoch,.string p1.fQuestion.fName,.int .u16 p1.fQuestion.fType,.int .u16 p1.fQuestion.fClass,.bool p1.fGood,.slice Ap1_0 p1.fEntries.length cp1_0,.int .i64 p1.fNote.fKind,.int .i64 p1.fNote.fFrom,.int .i64 p1.fNote.fTo,.int .i64 p1.fNote.fTerm,.int .i64 p1.fNote.fIndex,.int .i64 p1.fNote.fLogTerm,.int .i64 p1.fNote.fCommit,.bool p1.fNote.fGood,.slice Ap1_1 p1.fNote.fEntries.length cp1_1,.slice Ap1_2 p1.fNote.fVoters.length cp1_2,.string p1.fNote.fSnap,.string p1.fText] 31 (0,0))::(100050,g1,.cells #[.int .i64 p0.fKind,.int .i64 p0.fSerial,.int .i64 p0.fEpoch,.string p0.fQuestion.fName,.int .u16 p0.fQuestion.fType,.int .u16 p0.fQuestion.fClass,.bool p0.fGood,.slice Ap0_0 p0.fEntries.length cp0_0,.int .i64 p0.fNote.fKind,.int .i64 p0.fNote.fFrom,.int .i64 p0.fNote.fTo,.int .i64 p0.fNote.fTerm,.int .i64 p0.fNote.fIndex,.int .i64 p0.fNote.fLogTerm,.int .i64 p0.fNote.fCommit,.bool p0.fNote.fGood,.slice Ap0_1 p0.fNote.fEntries.length cp0_1,.slice Ap0_2 p0.fNote.fVoters.length cp0_2,.string p0.fNote.fSnap,.string p0.fText] 31 (0,0))::H,R,φ⟩ (fun _ h=>h) ?_
 refine g_if rfl rfl rfl rfl rfl (fun h3=>?_) (fun h3=>?_)
 ·
  replace hm:=ite_f hm (of_decide_eq_false h3)
  refine g_v rfl (r_loadA (tag:=100060) rfl rfl Try.isAgg31 Try.sizeOf31 rfl rfl)<|g_do rfl rfl rfl rfl rfl h3 ?_
  replace hm:=bnd hm
  obtain ⟨x4,hx5,hm⟩:=hm
  refine g_cn ⟨w0,M,_,_,φ⟩ (fun _ h=>h) Try.call18 rfl rfl (c_peer_Check p1 Ap1_0 cp1_0 psp1_0 ⟨hcp1_0.1,hcp1_0.2⟩ (fun W h=>fp1_0 W h) (fun W h=>(fop1_0 W h)) Ap1_1 cp1_1 hcp1_1 (fun W hS=>fp1_1 W (ok_pre (H1:=[_,_]) (R1:=[]) hS (fun W h=>h))) Ap1_2 cp1_2 hcp1_2 (fun W hS=>fp1_2 W (ok_pre (H1:=[_,_]) (R1:=[]) hS (fun W h=>h))) _ hx5) (fun _ _=>?_)
  refine g_do rfl rfl rfl rfl rfl h3<|g_v rfl (r_neq rfl rfl)<|g_v rfl (r_pick0 rfl h3)<|g_v rfl r_move ?_
  refine g_if rfl rfl rfl rfl rfl (fun h6=>?_) (fun h6=>?_)
  ·
   replace hm:=ite_f hm (of_decide_eq_false h6)
   refine g_v rfl (r_field (n:=6) Try.underlying31 rfl Try.sizeOf4 rfl rfl)<|g_do rfl rfl rfl rfl rfl h6<|g_v rfl (r_load (tag:=100060) rfl rfl rfl Try.isAgg4)<|g_do rfl rfl rfl rfl rfl h6<|g_v rfl (r_not rfl)<|g_v rfl (r_pick0 rfl h6)<|g_v rfl r_move ?_
   refine g_if rfl rfl rfl rfl rfl (fun h7=>?_) (fun h7=>?_)
   ·
    have h7' : p1.fGood = true:=by revert h7; cases p1.fGood <;> simp
    replace hm:=ite_t hm h7'
    refine g_v rfl (r_field (n:=1) Try.underlying31 rfl Try.sizeOf3 rfl rfl)<|g_do rfl rfl rfl rfl rfl h7<|g_v rfl (r_load (tag:=100060) rfl rfl rfl Try.isAgg3)<|g_do rfl rfl rfl rfl rfl h7<|g_v rfl (r_field (n:=1) Try.underlying31 rfl Try.sizeOf3 rfl rfl)<|g_do rfl rfl rfl rfl rfl h7<|g_v rfl (r_load (tag:=100050) rfl rfl rfl Try.isAgg3)<|g_do rfl rfl rfl rfl rfl h7<|g_v rfl (r_neq rfl rfl)<|g_v rfl (r_pick0 rfl h7) ?_
    refine g_v rfl r_move ?_
    refine g_if rfl rfl rfl rfl rfl (fun h8=>?_) (fun h8=>?_)
    ·
     replace hm:=ite_f hm (of_decide_eq_false h8)
     refine g_v rfl (r_field (n:=2) Try.underlying31 rfl Try.sizeOf3 rfl rfl)<|g_do rfl rfl rfl rfl rfl h8<|g_v rfl (r_load (tag:=100060) rfl rfl rfl Try.isAgg3)<|g_do rfl rfl rfl rfl rfl h8<|g_v rfl r_move<|g_do rfl rfl rfl rfl rfl h8<|g_v rfl (r_lss rfl rfl)<|g_v rfl (r_pick0 rfl h8)<|g_nil<|d_then ?_
     refine c_flat [(3,.int .i64 p3),(4,.int .i64 p4),(6,.pointer (some ⟨g2,0,none⟩)),(40,.bool (decide (p1.fEpoch < p2)))] ⟨rfl,rfl,rfl,rfl,trivial⟩ (fun u=>?_)
     refine c_cond rfl (fun h9=>?_) (fun h9=>?_)
     ·
      replace hm:=ite_t hm (of_decide_eq_true h9)
      refine c_seq<|c_region<|g_v rfl r_assign<|g_v rfl r_assign<|g_nil<|d_then<|c_ret<|d_ret_then ?_
      cases hm
      refine d_sta _ (fun W h=>nilR h 11 41 9)<|d_sta _ (fun W h=>ok_frontR (t:=11) (t':=2000) h rfl) ?_
      exact d_retC (none,0,([] : List GCachedP)) Try.results9 (res_tmp (res_tmp (res_nil rfl))) ⟨DOk.nil,(Nat.le_refl 0)⟩ (fun W h=>((h.dropH (t:=100060) rfl).dropH (t:=100050) rfl).phi (fun W hφ=>⟨hφ,(fun W h=>DOwn.nil) W hφ⟩)) (.inr rfl)
     replace hm:=ite_f hm (of_decide_eq_false h9)
     refine c_skip<|d_then<|c_seq<|c_region<|g_v rfl r_move ?_
     replace hm:=bnd hm
     obtain ⟨x10,hx11,hm⟩:=hm
     refine g_cn ⟨w0,M,_,_,φ⟩ (fun _ h=>h) Try.call19 rfl rfl (c_peer_clock p3 _ hx11) (fun _ _=>?_)
     refine g_v rfl r_move ?_
     replace hm:=bnd hm
     obtain ⟨x12,hx13,hm⟩:=hm
     refine g_cn ⟨w0,M,_,_,φ⟩ (fun _ h=>h) Try.call19 rfl rfl (c_peer_clock p4 _ hx13) (fun _ _=>?_)
     refine g_v rfl (r_add rfl rfl rfl) ?_
     replace hm:=bnd hm
     obtain ⟨x14,hx15,hm⟩:=hm
     refine g_cn ⟨w0,M,_,_,φ⟩ (fun _ h=>h) Try.call19 rfl rfl (c_peer_clock (w64 (x10 + x12)) _ hx15) (fun _ _=>?_)
     refine g_v rfl r_assign<|g_nil<|d_then<|c_seq<|c_region<|g_v rfl (r_field (n:=7) Try.underlying31 rfl Try.sizeOf25 rfl rfl)<|g_v rfl (r_load (tag:=100060) rfl rfl rfl Try.isAgg25) ?_
     replace hm:=bnd hm
     obtain ⟨x16,hx17,hm⟩:=hm
     refine g_cn ⟨w0,M,_,_,φ⟩ (fun _ h=>h) Try.call20 rfl rfl (c_slices_Clone_20 p1.fEntries Ap1_0 cp1_0 psp1_0 ⟨hcp1_0.1,hcp1_0.2⟩ (fun W h=>fp1_0 W h) (fun W h=>(fop1_0 W h)) _ hx17) (fun ⟨A18,c19,ps21⟩ hc19=>?_)
     refine g_sta _ (fun W h=>(ok_frontR (t:=2000) (t':=100490) h rfl)) ?_
     refine g_abs (fun φ23 q23'=>?_)
     have q23 : ∀ W,φ23 W→φ W:=fun W h=>(q23' W h).1
     have f22:=fun (W : World) (h : φ23 W)=>(q23' W h).2
     refine g_v rfl r_assign<|g_nil<|d_then ?_
     refine c_flat [(12,.int .i64 x14),(13,.slice A18 x16.length c19)] ⟨rfl,rfl,trivial⟩ (fun u=>?_)
     refine c_sta ⟨w0,M,(100060,g2,.cells #[.int .i64 p1.fKind,.int .i64 p1.fSerial,.int .i64 p1.fEpoch,.string p1.fQuestion.fName,.int .u16 p1.fQuestion.fType,.int .u16 p1.fQuestion.fClass,.bool p1.fGood,.slice Ap1_0 p1.fEntries.length cp1_0,.int .i64 p1.fNote.fKind,.int .i64 p1.fNote.fFrom,.int .i64 p1.fNote.fTo,.int .i64 p1.fNote.fTerm,.int .i64 p1.fNote.fIndex,.int .i64 p1.fNote.fLogTerm,.int .i64 p1.fNote.fCommit,.bool p1.fNote.fGood,.slice Ap1_1 p1.fNote.fEntries.length cp1_1,.slice Ap1_2 p1.fNote.fVoters.length cp1_2,.string p1.fNote.fSnap,.string p1.fText] 31 (0,0))::(100050,g1,.cells #[.int .i64 p0.fKind,.int .i64 p0.fSerial,.int .i64 p0.fEpoch,.string p0.fQuestion.fName,.int .u16 p0.fQuestion.fType,.int .u16 p0.fQuestion.fClass,.bool p0.fGood,.slice Ap0_0 p0.fEntries.length cp0_0,.int .i64 p0.fNote.fKind,.int .i64 p0.fNote.fFrom,.int .i64 p0.fNote.fTo,.int .i64 p0.fNote.fTerm,.int .i64 p0.fNote.fIndex,.int .i64 p0.fNote.fLogTerm,.int .i64 p0.fNote.fCommit,.bool p0.fNote.fGood,.slice Ap0_1 p0.fNote.fEntries.length cp0_1,.slice Ap0_2 p0.fNote.fVoters.length cp0_2,.string p0.fNote.fSnap,.string p0.fText] 31 (0,0))::H,(100490,⟨.slice A18 x16.length c19,41,9,x16.length,(x16.zip ps21).flatMap GCached.encP⟩)::R,φ23⟩ (fun _ h=>h)<|c_seq<|c_seq<|c_region<|g_v rfl r_move<|g_v rfl (r_lenL Try.underlying25 rfl)<|g_v rfl r_move<|g_nil<|d_then ?_
     refine c_cut (ι:=(List GCached)×Option Addr×Nat×List GCachedP) [13] (fun ⟨l91,A92,c93,ps94⟩=>[(13,.slice A92 l91.length c93)]) (fun ⟨l91,A92,c93,ps94⟩=>⟨w0,M,H,(100490,⟨.slice A92 l91.length c93,41,9,l91.length,(l91.zip ps94).flatMap GCached.encP⟩)::R,fun W=>φ23 W∧DOwn GCached.ownP l91 ps94 W⟩) (fun ⟨l91,A92,c93,ps94⟩=>m_peer_Accept_j1 l91 = some r∧(DOk GCached.capP l91 ps94∧l91.length ≤ c93)) ?_ (fun ⟨l91,A92,c93,ps94⟩ u ⟨hm,hc93⟩=>?_)
     ·
      refine c_block ?_
      replace hm:=bnd hm
      obtain ⟨out2,hl2,hr2⟩:=hm
      obtain ⟨n163',hl2⟩:=loop_lp hl2
      refine c_loopU (ι:=Nat×(List GCached)×Int×Option Addr×Nat×List GCachedP) [12,13,51,52] (fun ⟨n163,l127,i132,A128,c129,ps130⟩=>[(13,.slice A128 l127.length c129),(52,.int .i64 i132)]) (fun ⟨n163,l127,i132,A128,c129,ps130⟩=>⟨w0,M,H,(100490,⟨.slice A128 l127.length c129,41,9,l127.length,(l127.zip ps130).flatMap GCached.encP⟩)::R,fun W=>φ23 W∧DOwn GCached.ownP l127 ps130 W⟩) (fun ⟨n163,l127,i132,A128,c129,ps130⟩=>Lp (fun s=>m_peer_Accept_s2 x16 x14 s.1 s.2) n163 (l127,i132) out2∧(DOk GCached.capP l127 ps130∧l127.length ≤ c129)) (fun ⟨n163,l127,i132,A128,c129,ps130⟩=>n163) (n163',x16,0,A18,c19,ps21) ⟨hl2,⟨hc19.1,hc19.2⟩⟩ ⟨rfl,rfl,rfl,rfl,trivial⟩ (fun W h=>((h.dropH (t:=100060) rfl).dropH (t:=100050) rfl).phi (fun W hφ=>⟨hφ,(fun W h=>(f22 W h)) W hφ⟩)) (fun ⟨n163,l127,i132,A128,c129,ps130⟩ u ⟨hlp,hc129⟩=>?_)
      obtain ⟨o2,hm,hnx2⟩:=lp_step hlp
      clear hlp
      replace hm : m_peer_Accept_s2 x16 x14 l127 i132 = some o2:=hm
      unfold m_peer_Accept_s2 at hm
      refine c_abs (fun φ164 q164'=>?_)
      have q164 : ∀ W,φ164 W→φ23 W:=fun W h=>(q164' W h).1
      have f131:=fun (W : World) (h : φ164 W)=>(q164' W h).2
      refine c_flat [(12,.int .i64 x14),(13,.slice A128 l127.length c129),(51,.int .i64 (x16.length : Int)),(52,.int .i64 i132)] ⟨rfl,rfl,rfl,rfl,trivial⟩ (fun u=>?_)
      refine c_sta ⟨w0,M,H,(100490,⟨.slice A128 l127.length c129,41,9,l127.length,(l127.zip ps130).flatMap GCached.encP⟩)::R,φ164⟩ (fun _ h=>h)<|c_seq<|c_region<|g_v rfl (r_lss rfl rfl)<|g_nil<|d_then<|c_seq ?_
      refine c_cond rfl (fun h165=>?_) (fun h165=>?_)
      ·
       replace hm:=ite_t hm (of_decide_eq_true h165)
       refine c_skip<|d_then<|c_seq<|c_block<|c_seq<|c_region<|g_v rfl r_move<|g_v rfl r_assign<|g_nil<|d_then ?_
       refine c_region ?_
       iterate 4 refine g_v rfl r_move ?_
       replace hm:=bnd hm
       obtain ⟨x166,hx166,hm⟩:=hm
       obtain ⟨pp170,hv171,hz172,hcp173⟩:=DOk.at_ hc129.1 hx166
       refine g_know _ (fun W hS=>cl_at (p:=(Sta.ok ⟨w0,M,H,(100490,⟨.slice A128 l127.length c129,41,9,l127.length,(l127.zip ps130).flatMap GCached.encP⟩)::R,φ164⟩)) (sz:=9) (fun _=>rfl) (by decide) hS (fun W hS=>rowCl (S:=⟨w0,M,H,(100490,⟨.slice A128 l127.length c129,41,9,l127.length,(l127.zip ps130).flatMap GCached.encP⟩)::R,φ164⟩) (tag:=100490) rfl W hS) hv171) ?_
       rintro ⟨ad167,hA169,f168⟩
       have f174:=fun (W : World) (h : φ164 W)=>(f131 W h _ hz172)
       refine g_v rfl (r_ix Try.underlying25 Try.sizeOf41 rfl hA169 rfl hx166) ?_
       have f175:=fun (W : World) (h : (Sta.ok ⟨w0,M,H,(100490,⟨.slice A128 l127.length c129,41,9,l127.length,(l127.zip ps130).flatMap GCached.encP⟩)::R,φ164⟩) W)=>Cl.drop (f168 W h) 5
       refine g_v rfl (r_fieldF Try.underlying41 rfl Try.sizeOf3 rfl)<|g_v rfl (r_ld rfl Try.isAgg3 (fun W hS=>Cl.head (f175 W hS)))<|g_v rfl r_move<|g_v rfl (r_min rfl rfl) ?_
       replace hm:=bnd hm
       obtain ⟨x176,hx176,hm⟩:=hm
       obtain ⟨pp180,hv181,hz182,hcp183⟩:=DOk.at_ hc129.1 hx176
       refine g_know _ (fun W hS=>cl_at (p:=(Sta.ok ⟨w0,M,H,(100490,⟨.slice A128 l127.length c129,41,9,l127.length,(l127.zip ps130).flatMap GCached.encP⟩)::R,φ164⟩)) (sz:=9) (fun _=>rfl) (by decide) hS (fun W hS=>rowCl (S:=⟨w0,M,H,(100490,⟨.slice A128 l127.length c129,41,9,l127.length,(l127.zip ps130).flatMap GCached.encP⟩)::R,φ164⟩) (tag:=100490) rfl W hS) hv181) ?_
       rintro ⟨ad177,hA179,f178⟩
       have f184:=fun (W : World) (h : φ164 W)=>(f131 W h _ hz182)
       refine g_v rfl (r_ix Try.underlying25 Try.sizeOf41 rfl hA179 rfl hx176) ?_
       have f185:=fun (W : World) (h : (Sta.ok ⟨w0,M,H,(100490,⟨.slice A128 l127.length c129,41,9,l127.length,(l127.zip ps130).flatMap GCached.encP⟩)::R,φ164⟩) W)=>Cl.drop (f178 W h) 5
       refine g_v rfl (r_fieldF Try.underlying41 rfl Try.sizeOf3 rfl) ?_
       replace hm:=bnd hm
       obtain ⟨l186,hl186,hm⟩:=hm
       have hk187:=DOk.set (p:=(⟨pp180.pA0,pp180.pC0⟩ : GCachedP)) hc129.1 hl186 (show GCached.capP ((⟨x176.fKind,x176.fName,x176.fType,x176.fClass,x176.fRecords,(min x166.fUntil x14),x176.fRank,x176.fEpoch,x176.fSource⟩ : GCached),(⟨pp180.pA0,pp180.pC0⟩ : GCachedP)) from hcp183)
       have f188:=fun (W : World) (h : φ164 W)=>DOwn.set (p:=(⟨pp180.pA0,pp180.pC0⟩ : GCachedP)) hl186 (f131 W h) (show GCached.ownP W ((⟨x176.fKind,x176.fName,x176.fType,x176.fClass,x176.fRecords,(min x166.fUntil x14),x176.fRank,x176.fEpoch,x176.fSource⟩ : GCached),(⟨pp180.pA0,pp180.pC0⟩ : GCachedP)) from f184 W h)
       refine g_s (e_stRD (tag:=100490) (enc:=GCached.encP) (l:=l127) (off:=5) (vs:=[.int .i64 (min x166.fUntil x14)]) (p':=(⟨pp180.pA0,pp180.pC0⟩ : GCachedP)) hc129.1 rfl hA179 rfl rfl hv181 hl186 rfl (Nat.le_of_ble_eq_true rfl) (fun _=>rfl) rfl rfl Try.sizeOf3) ?_
       rw [show l127.length = l186.length from (setAt_lenE hl186).symm]
       refine g_nil<|d_normal_block<|d_then ?_
       refine c_flat [(12,.int .i64 x14),(13,.slice A128 l186.length c129),(51,.int .i64 (x16.length : Int)),(52,.int .i64 i132)] ⟨rfl,rfl,rfl,rfl,trivial⟩ (fun u=>?_)
       refine c_sta ⟨w0,M,H,(100490,⟨.slice A128 l186.length c129,41,9,l186.length,(l186.zip (ps130.set (i132).toNat (⟨pp180.pA0,pp180.pC0⟩ : GCachedP))).flatMap GCached.encP⟩)::R,φ164⟩ (fun _ h=>h)<|c_region<|g_v rfl (r_add rfl rfl rfl)<|g_v rfl r_move<|g_nil ?_
       obtain ⟨n189,hn189,hlp⟩:=nx_inl hm hnx2
       exact d_round (n189,l186,w64 (i132 + 1),A128,c129,(ps130.set (i132).toNat (⟨pp180.pA0,pp180.pC0⟩ : GCachedP))) ⟨hlp,⟨hk187,(setAt_len hc129.2 hl186)⟩⟩ hn189 ⟨rfl,rfl,rfl,rfl,trivial⟩ (fun W h=>h.phi (fun W hφ=>⟨(q164 _ hφ),(fun W h=>(f188 W h)) W hφ⟩))
      replace hm:=ite_f hm (of_decide_eq_false h165)
      refine c_exit<|d_exit_then<|d_exit_then<|d_exit_block ?_
      replace hm:=nx_out (C:=(fun e : (List GCached)=>m_peer_Accept_j1 e = some r)) hm hnx2 hr2
      exact d_round (l127,A128,c129,ps130) ⟨hm,⟨hc129.1,hc129.2⟩⟩ Nat.zero_lt_one ⟨rfl,trivial⟩ (fun W h=>h.phi (fun W hφ=>⟨(q164 _ hφ),(fun W h=>(f131 W h)) W hφ⟩))
     unfold m_peer_Accept_j1 at hm
     refine d_abs (fun φ96 q96'=>?_)
     have q96 : ∀ W,φ96 W→φ23 W:=fun W h=>(q96' W h).1
     have f95:=fun (W : World) (h : φ96 W)=>(q96' W h).2
     refine d_flat [(13,.slice A92 l91.length c93)] ⟨rfl,trivial⟩ (fun u=>?_)
     refine d_sta ⟨w0,M,H,(100490,⟨.slice A92 l91.length c93,41,9,l91.length,(l91.zip ps94).flatMap GCached.encP⟩)::R,φ96⟩ (fun _ h=>h)<|d_then<|c_seq<|c_region<|g_v rfl r_move<|g_v rfl r_assign<|g_v rfl r_assign<|g_nil<|d_then<|c_ret ?_
     cases hm
     refine d_sta _ (fun W h=>ok_frontR (t:=100490) (t':=2000) h rfl) ?_
     exact d_retC (A92,c93,ps94) Try.results9 (res_tmp (res_tmp (res_nil rfl))) ⟨hc93.1,hc93.2⟩ (fun W h=>h.phi (fun W hφ=>⟨(q23 _ (q96 _ hφ)),(fun W h=>(f95 W h)) W hφ⟩)) (.inr rfl)
    replace hm:=ite_t hm (of_decide_eq_true h8)
    iterate 3 refine g_no rfl rfl rfl rfl rfl h8 ?_
    refine g_v rfl (r_pick1 rfl h8)<|g_nil<|d_then ?_
    refine c_flat [(3,.int .i64 p3),(4,.int .i64 p4),(6,.pointer (some ⟨g2,0,none⟩)),(40,.bool true)] ⟨rfl,rfl,rfl,rfl,trivial⟩ (fun u=>?_)
    refine c_cond1 rfl rfl<|c_seq<|c_region<|g_v rfl r_assign<|g_v rfl r_assign<|g_nil<|d_then<|c_ret<|d_ret_then ?_
    cases hm
    refine d_sta _ (fun W h=>nilR h 12 41 9)<|d_sta _ (fun W h=>ok_frontR (t:=12) (t':=2000) h rfl) ?_
    exact d_retC (none,0,([] : List GCachedP)) Try.results9 (res_tmp (res_tmp (res_nil rfl))) ⟨DOk.nil,(Nat.le_refl 0)⟩ (fun W h=>((h.dropH (t:=100060) rfl).dropH (t:=100050) rfl).phi (fun W hφ=>⟨hφ,(fun W h=>DOwn.nil) W hφ⟩)) (.inr rfl)
   have h7' : p1.fGood = false:=by revert h7; cases p1.fGood <;> simp
   replace hm:=ite_f hm (bool_nt h7')
   iterate 4 refine g_no rfl rfl rfl rfl rfl h7 ?_
   refine g_v rfl (r_pick1 rfl h7)<|g_v rfl r_move ?_
   iterate 4 refine g_no rfl rfl rfl rfl rfl rfl ?_
   refine g_v rfl (r_pick1 rfl rfl)<|g_nil<|d_then ?_
   refine c_flat [(3,.int .i64 p3),(4,.int .i64 p4),(6,.pointer (some ⟨g2,0,none⟩)),(40,.bool true)] ⟨rfl,rfl,rfl,rfl,trivial⟩ (fun u=>?_)
   refine c_cond1 rfl rfl<|c_seq<|c_region<|g_v rfl r_assign<|g_v rfl r_assign<|g_nil<|d_then<|c_ret<|d_ret_then ?_
   cases hm
   refine d_sta _ (fun W h=>nilR h 13 41 9)<|d_sta _ (fun W h=>ok_frontR (t:=13) (t':=2000) h rfl) ?_
   exact d_retC (none,0,([] : List GCachedP)) Try.results9 (res_tmp (res_tmp (res_nil rfl))) ⟨DOk.nil,(Nat.le_refl 0)⟩ (fun W h=>((h.dropH (t:=100060) rfl).dropH (t:=100050) rfl).phi (fun W hφ=>⟨hφ,(fun W h=>DOwn.nil) W hφ⟩)) (.inr rfl)
  replace hm:=ite_t hm (of_decide_eq_true h6)
  refine g_no rfl rfl rfl rfl rfl h6<|g_no rfl rfl rfl rfl rfl h6<|g_v rfl (r_pick1 rfl h6)<|g_v rfl r_move ?_
  iterate 5 refine g_no rfl rfl rfl rfl rfl rfl ?_
  refine g_v rfl (r_pick1 rfl rfl)<|g_v rfl r_move ?_
  iterate 4 refine g_no rfl rfl rfl rfl rfl rfl ?_
  refine g_v rfl (r_pick1 rfl rfl)<|g_nil<|d_then ?_
  refine c_flat [(3,.int .i64 p3),(4,.int .i64 p4),(6,.pointer (some ⟨g2,0,none⟩)),(40,.bool true)] ⟨rfl,rfl,rfl,rfl,trivial⟩ (fun u=>?_)
  refine c_cond1 rfl rfl<|c_seq<|c_region<|g_v rfl r_assign<|g_v rfl r_assign<|g_nil<|d_then<|c_ret<|d_ret_then ?_
  cases hm
  refine d_sta _ (fun W h=>nilR h 14 41 9)<|d_sta _ (fun W h=>ok_frontR (t:=14) (t':=2000) h rfl) ?_
  exact d_retC (none,0,([] : List GCachedP)) Try.results9 (res_tmp (res_tmp (res_nil rfl))) ⟨DOk.nil,(Nat.le_refl 0)⟩ (fun W h=>((h.dropH (t:=100060) rfl).dropH (t:=100050) rfl).phi (fun W hφ=>⟨hφ,(fun W h=>DOwn.nil) W hφ⟩)) (.inr rfl)
 replace hm:=ite_t hm (of_decide_eq_true h3)
 refine g_no rfl rfl rfl rfl rfl h3<|g_no rfl rfl rfl rfl rfl h3<|g_v rfl (r_pick1 rfl h3)<|g_v rfl r_move ?_
 iterate 3 refine g_no rfl rfl rfl rfl rfl rfl ?_
 refine g_v rfl (r_pick1 rfl rfl)<|g_v rfl r_move ?_
 iterate 5 refine g_no rfl rfl rfl rfl rfl rfl ?_
 refine g_v rfl (r_pick1 rfl rfl)<|g_v rfl r_move ?_
 iterate 4 refine g_no rfl rfl rfl rfl rfl rfl ?_
 refine g_v rfl (r_pick1 rfl rfl)<|g_nil<|d_then ?_
 refine c_flat [(3,.int .i64 p3),(4,.int .i64 p4),(6,.pointer (some ⟨g2,0,none⟩)),(40,.bool true)] ⟨rfl,rfl,rfl,rfl,trivial⟩ (fun u=>?_)
 refine c_cond1 rfl rfl<|c_seq<|c_region<|g_v rfl r_assign<|g_v rfl r_assign<|g_nil<|d_then<|c_ret<|d_ret_then ?_
 cases hm
 refine d_sta _ (fun W h=>nilR h 15 41 9)<|d_sta _ (fun W h=>ok_frontR (t:=15) (t':=2000) h rfl) ?_
 exact d_retC (none,0,([] : List GCachedP)) Try.results9 (res_tmp (res_tmp (res_nil rfl))) ⟨DOk.nil,(Nat.le_refl 0)⟩ (fun W h=>((h.dropH (t:=100060) rfl).dropH (t:=100050) rfl).phi (fun W hφ=>⟨hφ,(fun W h=>DOwn.nil) W hφ⟩)) (.inr rfl)
noncomputable def m_law20_awake  : Option Bool:=
  (m_peer_Bytes (⟨4,1,2,(⟨(⟨#[]⟩ : ByteArray),0,0⟩ : GQuestion),false,([] : List GCached),(⟨0,0,0,0,0,0,0,false,([] : List GEntry),([] : List Int),(⟨#[]⟩ : ByteArray)⟩ : GNote),(⟨#[]⟩ : ByteArray)⟩ : GLetter)).bind fun (z4 : ByteArray×Int)=>
  (m_law20_entry 9000).bind fun x6=>
  (m_peer_Accept (⟨1,7,0,(⟨(⟨#[]⟩ : ByteArray),0,0⟩ : GQuestion),false,([] : List GCached),(⟨0,0,0,0,0,0,0,false,([] : List GEntry),([] : List Int),(⟨#[]⟩ : ByteArray)⟩ : GNote),(⟨#[]⟩ : ByteArray)⟩ : GLetter) (⟨2,7,1,(⟨(⟨#[]⟩ : ByteArray),0,0⟩ : GQuestion),true,[x6],(⟨0,0,0,0,0,0,0,false,([] : List GEntry),([] : List Int),(⟨#[]⟩ : ByteArray)⟩ : GNote),(⟨#[]⟩ : ByteArray)⟩ : GLetter) 2 1000 5000).bind fun (z27 : (List GCached)×Bool)=>
  (m_peer_Accept (⟨1,7,0,(⟨(⟨#[]⟩ : ByteArray),0,0⟩ : GQuestion),false,([] : List GCached),(⟨0,0,0,0,0,0,0,false,([] : List GEntry),([] : List Int),(⟨#[]⟩ : ByteArray)⟩ : GNote),(⟨#[]⟩ : ByteArray)⟩ : GLetter) (⟨2,7,1,(⟨(⟨#[]⟩ : ByteArray),0,0⟩ : GQuestion),true,[x6],(⟨0,0,0,0,0,0,0,false,([] : List GEntry),([] : List Int),(⟨#[]⟩ : ByteArray)⟩ : GNote),(⟨#[]⟩ : ByteArray)⟩ : GLetter) 1 1000 5000).bind fun (z37 : (List GCached)×Bool)=>
  if z4.2 = 0 then
    if z4.1 = (⟨#[4,0,0,0,0,0,0,0,1,0,0,0,0,0,0,0,2]⟩ : ByteArray) then
      if z27.2 = true then
        some false
      else
        if z37.2 = true then
          if (z37.1.length : Int) = 1 then
            (at_ z37.1 0).bind fun x43=>
            some (decide (x43.fUntil = 6000))
          else
            some false
        else
          some false
    else
      some false
  else
    some false
theorem c_law20_awake {w0 : World} {M : Nat→Prop} {H : List (Nat×Nat×Obj)} {R : List (Nat×Row)} {φ : World→Prop}  (r : Bool) (hm : m_law20_awake = some r) :
    Cn Try.prog 7 #[] ⟨w0,M,H,R,φ⟩ (fun x : Unit=>.bool r) (fun x=>True) (fun x=>⟨w0,M,H,R,φ⟩):=by
 unfold m_law20_awake at hm
 refine cn_intro (fn:=Try.f7) (N:=55) Try.func7 rfl Try.ntmps7 rfl<|c_seq<|c_region<|g_v rfl r_assign<|g_nil<|d_then<|c_seq<|c_region<|g_v rfl (r_build _ rfl (bld31_0 _ _ _)) ?_
 replace hm:=bnd hm
 obtain ⟨⟨x1,x2⟩,hx3,hm⟩:=hm
 refine g_cn ⟨w0,M,_,_,φ⟩ (fun _ h=>h) Try.call13 rfl rfl (c_peer_Bytes (⟨4,1,2,(⟨(⟨#[]⟩ : ByteArray),0,0⟩ : GQuestion),false,([] : List GCached),(⟨0,0,0,0,0,0,0,false,([] : List GEntry),([] : List Int),(⟨#[]⟩ : ByteArray)⟩ : GNote),(⟨#[]⟩ : ByteArray)⟩ : GLetter) none 0 ([] : List GCachedP) ⟨DOk.nil,(Nat.le_refl 0)⟩ (fun W _=>Cl.nil _ _) (fun W h=>DOwn.nil) none 0 (Nat.le_refl 0) (fun W _=>Cl.nil _ _) none 0 (Nat.le_refl 0) (fun W _=>Cl.nil _ _) _ hx3) (fun _ _=>?_)
 refine g_v rfl r_move<|g_v rfl (r_extract rfl rfl)<|g_v rfl (r_extract rfl rfl)<|g_v rfl r_assign<|g_v rfl r_assign<|g_nil<|d_then<|c_seq<|c_region<|g_v rfl (r_build _ rfl (bld31_23 _ _)) ?_
 refine g_e rfl (e_alloc 100030 Try.zeroValue31) (fun g5 _=>?_)
 refine g_storeL (tag:=100030) rfl rfl rfl rfl Try.sizeOf31 rfl rfl<|g_nil<|d_then ?_
 refine c_flat [(1,.string x1),(2,.int .i64 x2),(3,.pointer (some ⟨g5,0,none⟩))] ⟨rfl,rfl,rfl,trivial⟩ (fun u=>?_)
 refine c_sta ⟨w0,M,(100030,g5,.cells #[.int .i64 1,.int .i64 7,.int .i64 0,.string (⟨#[]⟩ : ByteArray),.int .u16 0,.int .u16 0,.bool false,.slice none 0 0,.int .i64 0,.int .i64 0,.int .i64 0,.int .i64 0,.int .i64 0,.int .i64 0,.int .i64 0,.bool false,.slice none 0 0,.slice none 0 0,.string (⟨#[]⟩ : ByteArray),.string (⟨#[]⟩ : ByteArray)] 31 (0,0))::H,R,φ⟩ (fun _ h=>h)<|c_seq<|c_region ?_
 replace hm:=bnd hm
 obtain ⟨x6,hx7,hm⟩:=hm
 refine g_cn ⟨w0,M,_,_,φ⟩ (fun _ h=>h) Try.call17 rfl rfl (c_law20_entry 9000 _ hx7) (fun ⟨A8,c9⟩ hc9=>?_)
 refine g_abs (fun φ11 q11'=>?_)
 have q11 : ∀ W,φ11 W→φ W:=fun W h=>(q11' W h).1
 have f10:=fun (W : World) (h : φ11 W)=>(q11' W h).2
 have hk13:=(DOk.cons (cap:=GCached.capP) (x:=x6) (p:=(⟨A8,c9⟩ : GCachedP)) (hc9) DOk.nil)
 have f14:=fun (W : World) (h : φ11 W)=>(DOwn.cons (own:=GCached.ownP) (x:=x6) (p:=(⟨A8,c9⟩ : GCachedP)) (f10 W h) DOwn.nil)
 refine g_e rfl (e_litD (tag:=100160) (enc:=GCached.encP) (sz:=9) hk13 rfl Try.underlying25 (lit41_27 _ _ _ _ _ _ _ _ _ _ _) rfl rfl (fun _=>rfl)) (fun g12 _=>?_)
 refine g_v rfl (r_build _ rfl (bld31_28 _ _ _ _ _ _ _)) ?_
 refine g_e rfl (e_alloc 100040 Try.zeroValue31) (fun g15 _=>?_)
 refine g_storeL (tag:=100040) rfl rfl rfl rfl Try.sizeOf31 rfl rfl<|g_nil<|d_then<|c_seq<|c_region<|g_v rfl (r_loadA (tag:=100030) rfl rfl Try.isAgg31 Try.sizeOf31 rfl rfl)<|g_v rfl (r_loadA (tag:=100040) rfl rfl Try.isAgg31 Try.sizeOf31 rfl rfl) ?_
 refine g_shut (tag:=100160) rfl (fun φ16 q16'=>?_)
 have q16 : ∀ W,φ16 W→φ11 W:=fun W h=>(q16' W h).1
 have f17:=fun (W : World) (h : φ16 W)=>(q16' W h).2
 replace hm:=bnd hm
 obtain ⟨⟨x18,x19⟩,hx20,hm⟩:=hm
 refine g_cn ⟨w0,M,_,_,φ16⟩ (fun _ h=>h) Try.call9 rfl rfl (c_peer_Accept (⟨1,7,0,(⟨(⟨#[]⟩ : ByteArray),0,0⟩ : GQuestion),false,([] : List GCached),(⟨0,0,0,0,0,0,0,false,([] : List GEntry),([] : List Int),(⟨#[]⟩ : ByteArray)⟩ : GNote),(⟨#[]⟩ : ByteArray)⟩ : GLetter) none 0 ([] : List GCachedP) ⟨DOk.nil,(Nat.le_refl 0)⟩ (fun W _=>Cl.nil _ _) (fun W hS=>DOwn.nil) none 0 (Nat.le_refl 0) (fun W _=>Cl.nil _ _) none 0 (Nat.le_refl 0) (fun W _=>Cl.nil _ _) (⟨2,7,1,(⟨(⟨#[]⟩ : ByteArray),0,0⟩ : GQuestion),true,[x6],(⟨0,0,0,0,0,0,0,false,([] : List GEntry),([] : List Int),(⟨#[]⟩ : ByteArray)⟩ : GNote),(⟨#[]⟩ : ByteArray)⟩ : GLetter) (some ⟨g12,0,none⟩) 1 [(⟨A8,c9⟩ : GCachedP)] ⟨hk13,(Nat.le_refl _)⟩ (fun W h=>f17 W h) (fun W h=>(f14 W (q16 _ h))) none 0 (Nat.le_refl 0) (fun W _=>Cl.nil _ _) none 0 (Nat.le_refl 0) (fun W _=>Cl.nil _ _) 2 1000 5000 _ hx20) (fun ⟨A21,c22,ps24⟩ hc22=>?_)
 refine g_sta _ (fun W h=>(ok_frontR (t:=2000) (t':=100210) h rfl)) ?_
 refine g_abs (fun φ26 q26'=>?_)
 have q26 : ∀ W,φ26 W→φ16 W:=fun W h=>(q26' W h).1
 have f25:=fun (W : World) (h : φ26 W)=>(q26' W h).2
 refine g_v rfl r_move<|g_v rfl (r_extract rfl rfl)<|g_v rfl (r_extract rfl rfl)<|g_v rfl r_assign<|g_v rfl r_assign<|g_nil<|d_then ?_
 refine c_flat [(1,.string x1),(2,.int .i64 x2),(3,.pointer (some ⟨g5,0,none⟩)),(4,.pointer (some ⟨g15,0,none⟩)),(6,.bool x19)] ⟨rfl,rfl,rfl,rfl,rfl,trivial⟩ (fun u=>?_)
 refine c_sta ⟨w0,M,(100040,g15,.cells #[.int .i64 2,.int .i64 7,.int .i64 1,.string (⟨#[]⟩ : ByteArray),.int .u16 0,.int .u16 0,.bool true,.slice (some ⟨g12,0,none⟩) [x6].length 1,.int .i64 0,.int .i64 0,.int .i64 0,.int .i64 0,.int .i64 0,.int .i64 0,.int .i64 0,.bool false,.slice none 0 0,.slice none 0 0,.string (⟨#[]⟩ : ByteArray),.string (⟨#[]⟩ : ByteArray)] 31 (0,0))::(100030,g5,.cells #[.int .i64 1,.int .i64 7,.int .i64 0,.string (⟨#[]⟩ : ByteArray),.int .u16 0,.int .u16 0,.bool false,.slice none 0 0,.int .i64 0,.int .i64 0,.int .i64 0,.int .i64 0,.int .i64 0,.int .i64 0,.int .i64 0,.bool false,.slice none 0 0,.slice none 0 0,.string (⟨#[]⟩ : ByteArray),.string (⟨#[]⟩ : ByteArray)] 31 (0,0))::H,(100210,⟨.slice A21 x18.length c22,41,9,x18.length,(x18.zip ps24).flatMap GCached.encP⟩)::R,φ26⟩ (fun _ h=>h)<|c_seq<|c_region<|g_v rfl (r_loadA (tag:=100030) rfl rfl Try.isAgg31 Try.sizeOf31 rfl rfl)<|g_v rfl (r_loadA (tag:=100040) rfl rfl Try.isAgg31 Try.sizeOf31 rfl rfl) ?_
 replace hm:=bnd hm
 obtain ⟨⟨x28,x29⟩,hx30,hm⟩:=hm
 refine g_cn ⟨w0,M,_,_,φ26⟩ (fun _ h=>h) Try.call9 rfl rfl (c_peer_Accept (⟨1,7,0,(⟨(⟨#[]⟩ : ByteArray),0,0⟩ : GQuestion),false,([] : List GCached),(⟨0,0,0,0,0,0,0,false,([] : List GEntry),([] : List Int),(⟨#[]⟩ : ByteArray)⟩ : GNote),(⟨#[]⟩ : ByteArray)⟩ : GLetter) none 0 ([] : List GCachedP) ⟨DOk.nil,(Nat.le_refl 0)⟩ (fun W _=>Cl.nil _ _) (fun W hS=>DOwn.nil) none 0 (Nat.le_refl 0) (fun W _=>Cl.nil _ _) none 0 (Nat.le_refl 0) (fun W _=>Cl.nil _ _) (⟨2,7,1,(⟨(⟨#[]⟩ : ByteArray),0,0⟩ : GQuestion),true,[x6],(⟨0,0,0,0,0,0,0,false,([] : List GEntry),([] : List Int),(⟨#[]⟩ : ByteArray)⟩ : GNote),(⟨#[]⟩ : ByteArray)⟩ : GLetter) (some ⟨g12,0,none⟩) 1 [(⟨A8,c9⟩ : GCachedP)] ⟨hk13,(Nat.le_refl _)⟩ (fun W h=>f17 W (q26 _ h)) (fun W h=>(f14 W (q16 _ (q26 _ h)))) none 0 (Nat.le_refl 0) (fun W _=>Cl.nil _ _) none 0 (Nat.le_refl 0) (fun W _=>Cl.nil _ _) 1 1000 5000 _ hx30) (fun ⟨A31,c32,ps34⟩ hc32=>?_)
 refine g_sta _ (fun W h=>(ok_frontR (t:=2000) (t':=100270) h rfl)) ?_
 refine g_abs (fun φ36 q36'=>?_)
 have q36 : ∀ W,φ36 W→φ26 W:=fun W h=>(q36' W h).1
 have f35:=fun (W : World) (h : φ36 W)=>(q36' W h).2
 refine g_v rfl r_move<|g_v rfl (r_extract rfl rfl)<|g_v rfl (r_extract rfl rfl)<|g_v rfl r_assign<|g_v rfl r_assign<|g_nil<|d_then<|c_seq<|c_region<|g_v rfl r_move ?_
 refine g_v rfl (r_eql rfl rfl)<|g_v rfl r_move<|g_sta ⟨w0,M,(100040,g15,.cells #[.int .i64 2,.int .i64 7,.int .i64 1,.string (⟨#[]⟩ : ByteArray),.int .u16 0,.int .u16 0,.bool true,.slice (some ⟨g12,0,none⟩) [x6].length 1,.int .i64 0,.int .i64 0,.int .i64 0,.int .i64 0,.int .i64 0,.int .i64 0,.int .i64 0,.bool false,.slice none 0 0,.slice none 0 0,.string (⟨#[]⟩ : ByteArray),.string (⟨#[]⟩ : ByteArray)] 31 (0,0))::(100030,g5,.cells #[.int .i64 1,.int .i64 7,.int .i64 0,.string (⟨#[]⟩ : ByteArray),.int .u16 0,.int .u16 0,.bool false,.slice none 0 0,.int .i64 0,.int .i64 0,.int .i64 0,.int .i64 0,.int .i64 0,.int .i64 0,.int .i64 0,.bool false,.slice none 0 0,.slice none 0 0,.string (⟨#[]⟩ : ByteArray),.string (⟨#[]⟩ : ByteArray)] 31 (0,0))::H,(100270,⟨.slice A31 x28.length c32,41,9,x28.length,(x28.zip ps34).flatMap GCached.encP⟩)::(100210,⟨.slice A21 x18.length c22,41,9,x18.length,(x18.zip ps24).flatMap GCached.encP⟩)::R,φ36⟩ (fun _ h=>h) ?_
 refine g_if rfl rfl rfl rfl rfl (fun h38=>?_) (fun h38=>?_)
 ·
  replace hm:=ite_t hm (of_decide_eq_true h38)
  refine g_v rfl r_move<|g_do rfl rfl rfl rfl rfl h38<|g_v rfl (r_eqlT rfl rfl)<|g_v rfl (r_pick1 rfl h38)<|g_v rfl r_move ?_
  refine g_if rfl rfl rfl rfl rfl (fun h39=>?_) (fun h39=>?_)
  ·
   replace hm:=ite_t hm (of_decide_eq_true h39)
   refine g_v rfl r_move<|g_do rfl rfl rfl rfl rfl h39<|g_v rfl (r_not rfl)<|g_v rfl (r_pick1 rfl h39)<|g_v rfl r_move ?_
   refine g_if rfl rfl rfl rfl rfl (fun h40=>?_) (fun h40=>?_)
   ·
    have h40' : x19 = false:=by revert h40; cases x19 <;> simp
    replace hm:=ite_f hm (bool_nt h40')
    refine g_v rfl r_move<|g_v rfl (r_pick1 rfl h40)<|g_v rfl r_move ?_
    refine g_if rfl rfl rfl rfl rfl (fun h41=>?_) (fun h41=>?_)
    ·
     replace hm:=ite_t hm h41
     refine g_v rfl r_move<|g_do rfl rfl rfl rfl rfl h41<|g_v rfl (r_lenL Try.underlying25 rfl)<|g_do rfl rfl rfl rfl rfl h41<|g_v rfl (r_eql rfl rfl)<|g_v rfl (r_pick1 rfl h41)<|g_v rfl r_move ?_
     refine g_if rfl rfl rfl rfl rfl (fun h42=>?_) (fun h42=>?_)
     ·
      replace hm:=ite_t hm (of_decide_eq_true h42)
      refine g_v rfl r_move<|g_do rfl rfl rfl rfl rfl h42 ?_
      replace hm:=bnd hm
      obtain ⟨x43,hx43,hm⟩:=hm
      obtain ⟨pp47,hv48,hz49,hcp50⟩:=DOk.at_ hc32.1 hx43
      refine g_know _ (fun W hS=>cl_at (p:=(Sta.ok ⟨w0,M,(100040,g15,.cells #[.int .i64 2,.int .i64 7,.int .i64 1,.string (⟨#[]⟩ : ByteArray),.int .u16 0,.int .u16 0,.bool true,.slice (some ⟨g12,0,none⟩) [x6].length 1,.int .i64 0,.int .i64 0,.int .i64 0,.int .i64 0,.int .i64 0,.int .i64 0,.int .i64 0,.bool false,.slice none 0 0,.slice none 0 0,.string (⟨#[]⟩ : ByteArray),.string (⟨#[]⟩ : ByteArray)] 31 (0,0))::(100030,g5,.cells #[.int .i64 1,.int .i64 7,.int .i64 0,.string (⟨#[]⟩ : ByteArray),.int .u16 0,.int .u16 0,.bool false,.slice none 0 0,.int .i64 0,.int .i64 0,.int .i64 0,.int .i64 0,.int .i64 0,.int .i64 0,.int .i64 0,.bool false,.slice none 0 0,.slice none 0 0,.string (⟨#[]⟩ : ByteArray),.string (⟨#[]⟩ : ByteArray)] 31 (0,0))::H,(100270,⟨.slice A31 x28.length c32,41,9,x28.length,(x28.zip ps34).flatMap GCached.encP⟩)::(100210,⟨.slice A21 x18.length c22,41,9,x18.length,(x18.zip ps24).flatMap GCached.encP⟩)::R,φ36⟩)) (sz:=9) (fun _=>rfl) (by decide) hS (fun W hS=>rowCl (S:=⟨w0,M,(100040,g15,.cells #[.int .i64 2,.int .i64 7,.int .i64 1,.string (⟨#[]⟩ : ByteArray),.int .u16 0,.int .u16 0,.bool true,.slice (some ⟨g12,0,none⟩) [x6].length 1,.int .i64 0,.int .i64 0,.int .i64 0,.int .i64 0,.int .i64 0,.int .i64 0,.int .i64 0,.bool false,.slice none 0 0,.slice none 0 0,.string (⟨#[]⟩ : ByteArray),.string (⟨#[]⟩ : ByteArray)] 31 (0,0))::(100030,g5,.cells #[.int .i64 1,.int .i64 7,.int .i64 0,.string (⟨#[]⟩ : ByteArray),.int .u16 0,.int .u16 0,.bool false,.slice none 0 0,.int .i64 0,.int .i64 0,.int .i64 0,.int .i64 0,.int .i64 0,.int .i64 0,.int .i64 0,.bool false,.slice none 0 0,.slice none 0 0,.string (⟨#[]⟩ : ByteArray),.string (⟨#[]⟩ : ByteArray)] 31 (0,0))::H,(100270,⟨.slice A31 x28.length c32,41,9,x28.length,(x28.zip ps34).flatMap GCached.encP⟩)::(100210,⟨.slice A21 x18.length c22,41,9,x18.length,(x18.zip ps24).flatMap GCached.encP⟩)::R,φ36⟩) (tag:=100270) rfl W hS) hv48) ?_
      rintro ⟨ad44,hA46,f45⟩
      have f51:=fun (W : World) (h : φ36 W)=>(f35 W h _ hz49)
      refine g_v rfl (r_ix Try.underlying25 Try.sizeOf41 rfl hA46 rfl hx43)<|g_do rfl rfl rfl rfl rfl h42 ?_
      have f52:=fun (W : World) (h : (Sta.ok ⟨w0,M,(100040,g15,.cells #[.int .i64 2,.int .i64 7,.int .i64 1,.string (⟨#[]⟩ : ByteArray),.int .u16 0,.int .u16 0,.bool true,.slice (some ⟨g12,0,none⟩) [x6].length 1,.int .i64 0,.int .i64 0,.int .i64 0,.int .i64 0,.int .i64 0,.int .i64 0,.int .i64 0,.bool false,.slice none 0 0,.slice none 0 0,.string (⟨#[]⟩ : ByteArray),.string (⟨#[]⟩ : ByteArray)] 31 (0,0))::(100030,g5,.cells #[.int .i64 1,.int .i64 7,.int .i64 0,.string (⟨#[]⟩ : ByteArray),.int .u16 0,.int .u16 0,.bool false,.slice none 0 0,.int .i64 0,.int .i64 0,.int .i64 0,.int .i64 0,.int .i64 0,.int .i64 0,.int .i64 0,.bool false,.slice none 0 0,.slice none 0 0,.string (⟨#[]⟩ : ByteArray),.string (⟨#[]⟩ : ByteArray)] 31 (0,0))::H,(100270,⟨.slice A31 x28.length c32,41,9,x28.length,(x28.zip ps34).flatMap GCached.encP⟩)::(100210,⟨.slice A21 x18.length c22,41,9,x18.length,(x18.zip ps24).flatMap GCached.encP⟩)::R,φ36⟩) W)=>Cl.drop (f45 W h) 5
      refine g_v rfl (r_fieldF Try.underlying41 rfl Try.sizeOf3 rfl)<|g_do rfl rfl rfl rfl rfl h42<|g_v rfl (r_ld rfl Try.isAgg3 (fun W hS=>Cl.head (f52 W hS)))<|g_do rfl rfl rfl rfl rfl h42<|g_v rfl (r_eql rfl rfl)<|g_v rfl (r_pick1 rfl h42)<|g_v rfl r_assign<|g_nil<|d_then ?_
      refine c_flat [(0,.bool (decide (x43.fUntil = 6000)))] ⟨rfl,trivial⟩ (fun u=>?_)
      refine c_ret ?_
      cases hm
      exact d_retC () Try.results7 (res_tmp (res_nil rfl)) trivial (fun W h=>ok_pre (H1:=[_,_]) (R1:=[_,_]) h (fun W hφ=>(q11 _ (q16 _ (q26 _ (q36 _ hφ)))))) (.inr rfl)
     replace hm:=ite_f hm (of_decide_eq_false h42)
     iterate 4 refine g_no rfl rfl rfl rfl rfl h42 ?_
     refine g_v rfl (r_pick0 rfl h42)<|g_v rfl r_assign<|g_nil<|d_then ?_
     refine c_flat [(0,.bool false)] ⟨rfl,trivial⟩ (fun u=>?_)
     refine c_ret ?_
     cases hm
     exact d_retC () Try.results7 (res_tmp (res_nil rfl)) trivial (fun W h=>ok_pre (H1:=[_,_]) (R1:=[_,_]) h (fun W hφ=>(q11 _ (q16 _ (q26 _ (q36 _ hφ)))))) (.inr rfl)
    replace hm:=ite_f hm (bool_nt h41)
    refine g_no rfl rfl rfl rfl rfl h41<|g_no rfl rfl rfl rfl rfl h41<|g_v rfl (r_pick0 rfl h41)<|g_v rfl r_move ?_
    iterate 5 refine g_no rfl rfl rfl rfl rfl rfl ?_
    refine g_v rfl (r_pick0 rfl rfl)<|g_v rfl r_assign<|g_nil<|d_then ?_
    refine c_flat [(0,.bool false)] ⟨rfl,trivial⟩ (fun u=>?_)
    refine c_ret ?_
    cases hm
    exact d_retC () Try.results7 (res_tmp (res_nil rfl)) trivial (fun W h=>ok_pre (H1:=[_,_]) (R1:=[_,_]) h (fun W hφ=>(q11 _ (q16 _ (q26 _ (q36 _ hφ)))))) (.inr rfl)
   have h40' : x19 = true:=by revert h40; cases x19 <;> simp
   replace hm:=ite_t hm h40'
   refine g_v rfl (r_pick0 rfl h40)<|g_v rfl r_move ?_
   iterate 3 refine g_no rfl rfl rfl rfl rfl rfl ?_
   refine g_v rfl (r_pick0 rfl rfl)<|g_v rfl r_move ?_
   iterate 5 refine g_no rfl rfl rfl rfl rfl rfl ?_
   refine g_v rfl (r_pick0 rfl rfl)<|g_v rfl r_assign<|g_nil<|d_then ?_
   refine c_flat [(0,.bool false)] ⟨rfl,trivial⟩ (fun u=>?_)
   refine c_ret ?_
   cases hm
   exact d_retC () Try.results7 (res_tmp (res_nil rfl)) trivial (fun W h=>ok_pre (H1:=[_,_]) (R1:=[_,_]) h (fun W hφ=>(q11 _ (q16 _ (q26 _ (q36 _ hφ)))))) (.inr rfl)
  replace hm:=ite_f hm (of_decide_eq_false h39)
  refine g_no rfl rfl rfl rfl rfl h39<|g_v rfl (r_pick0 rfl h39)<|g_v rfl r_move<|g_no rfl rfl rfl rfl rfl rfl<|g_v rfl (r_pick0 rfl rfl)<|g_v rfl r_move ?_
  iterate 3 refine g_no rfl rfl rfl rfl rfl rfl ?_
  refine g_v rfl (r_pick0 rfl rfl)<|g_v rfl r_move ?_
  iterate 5 refine g_no rfl rfl rfl rfl rfl rfl ?_
  refine g_v rfl (r_pick0 rfl rfl)<|g_v rfl r_assign<|g_nil<|d_then ?_
  refine c_flat [(0,.bool false)] ⟨rfl,trivial⟩ (fun u=>?_)
  refine c_ret ?_
  cases hm
  exact d_retC () Try.results7 (res_tmp (res_nil rfl)) trivial (fun W h=>ok_pre (H1:=[_,_]) (R1:=[_,_]) h (fun W hφ=>(q11 _ (q16 _ (q26 _ (q36 _ hφ)))))) (.inr rfl)
 replace hm:=ite_f hm (of_decide_eq_false h38)
 refine g_no rfl rfl rfl rfl rfl h38<|g_v rfl (r_pick0 rfl h38)<|g_v rfl r_move<|g_no rfl rfl rfl rfl rfl rfl<|g_no rfl rfl rfl rfl rfl rfl<|g_v rfl (r_pick0 rfl rfl)<|g_v rfl r_move<|g_no rfl rfl rfl rfl rfl rfl<|g_v rfl (r_pick0 rfl rfl)<|g_v rfl r_move ?_
 iterate 3 refine g_no rfl rfl rfl rfl rfl rfl ?_
 refine g_v rfl (r_pick0 rfl rfl)<|g_v rfl r_move ?_
 iterate 5 refine g_no rfl rfl rfl rfl rfl rfl ?_
 refine g_v rfl (r_pick0 rfl rfl)<|g_v rfl r_assign<|g_nil<|d_then ?_
 refine c_flat [(0,.bool false)] ⟨rfl,trivial⟩ (fun u=>?_)
 refine c_ret ?_
 cases hm
 exact d_retC () Try.results7 (res_tmp (res_nil rfl)) trivial (fun W h=>ok_pre (H1:=[_,_]) (R1:=[_,_]) h (fun W hφ=>(q11 _ (q16 _ (q26 _ (q36 _ hφ)))))) (.inr rfl)
noncomputable def m_law20_short (p0 : ByteArray) (p1 : Int) : Option ByteArray:=
  if p1 < (p0.size : Int) then
    (scutHi p0 p1).bind fun s2=>
    some s2
  else
    some p0
theorem c_law20_short {w0 : World} {M : Nat→Prop} {H : List (Nat×Nat×Obj)} {R : List (Nat×Row)} {φ : World→Prop} (p0 : ByteArray) (p1 : Int) (r : ByteArray) (hm : m_law20_short p0 p1 = some r) :
    Cn Try.prog 16 #[.string p0,.int .i64 p1] ⟨w0,M,H,R,φ⟩ (fun x : Unit=>.string r) (fun x=>True) (fun x=>⟨w0,M,H,R,φ⟩):=by
 unfold m_law20_short at hm
 refine cn_intro (fn:=Try.f16) (N:=13) Try.func16 rfl Try.ntmps16 rfl<|c_seq<|c_region<|g_v rfl r_assign<|g_nil<|d_then<|c_seq<|c_seq<|c_region<|g_v rfl r_move ?_
 refine g_v rfl (r_len Try.underlying9 rfl)<|g_v rfl r_move<|g_v rfl (r_gtr rfl rfl)<|g_nil<|d_then ?_
 refine c_cond rfl (fun h1=>?_) (fun h1=>?_)
 ·
  replace hm:=ite_t hm (of_decide_eq_true h1)
  refine c_seq<|c_region<|g_v rfl r_move<|g_v rfl r_move ?_
  replace hm:=bnd hm
  obtain ⟨s2,hs2,hm⟩:=hm
  refine g_v rfl (r_scutHi Try.underlying9 rfl rfl hs2)<|g_v rfl r_assign<|g_nil<|d_then ?_
  refine c_flat [(4,.string s2)] ⟨rfl,trivial⟩ (fun u=>?_)
  refine c_sta ⟨w0,M,H,R,φ⟩ (fun _ h=>h)<|c_ret<|d_ret_then ?_
  cases hm
  exact d_retC () Try.results16 (res_tmp (res_nil rfl)) trivial (fun W h=>ok_pre (H1:=[]) (R1:=[]) h (fun W hφ=>hφ)) (.inr rfl)
 replace hm:=ite_f hm (of_decide_eq_false h1)
 refine c_skip<|d_then<|c_seq<|c_region<|g_v rfl r_move<|g_v rfl r_assign<|g_nil<|d_then<|c_ret ?_
 cases hm
 exact d_retC () Try.results16 (res_tmp (res_nil rfl)) trivial (fun W h=>ok_pre (H1:=[]) (R1:=[]) h (fun W hφ=>hφ)) (.inr rfl)
theorem inf54_31  : (Try.prog.info? 54).map (fun i=>(i.zero,i.size,i.bytes)) = some (some (.agg #[.string (⟨#[]⟩ : ByteArray),.int .u16 0,.int .u16 0,.int .u32 0,.string (⟨#[]⟩ : ByteArray)]),5,40):=by kernel_rfl
theorem lit56_32 (z0 : Int) (z1 : Int) (z2 : ByteArray) : Try.prog.builtSlice 56 1 [(0,.agg #[.int .i64 z0,.int .i64 z1,.string z2])] = some #[.int .i64 z0,.int .i64 z1,.string z2]:=by kernel_rfl
theorem inf56_33  : (Try.prog.info? 56).map (fun i=>(i.zero,i.size,i.bytes)) = some (some (.agg #[.int .i64 0,.int .i64 0,.string (⟨#[]⟩ : ByteArray)]),3,32):=by kernel_rfl
noncomputable def m_law20_small_j3 (p0 : GLetter) (x3 : ByteArray) (l667 : List GCached) (l761 : List GEntry) (x5 : ByteArray) (l767 : List Int) : Option GLetter:=
  (m_law20_short p0.fNote.fSnap 1000).bind fun x772=>
  some (⟨p0.fKind,p0.fSerial,p0.fEpoch,(⟨x3,p0.fQuestion.fType,p0.fQuestion.fClass⟩ : GQuestion),p0.fGood,l667,(⟨p0.fNote.fKind,p0.fNote.fFrom,p0.fNote.fTo,p0.fNote.fTerm,p0.fNote.fIndex,p0.fNote.fLogTerm,p0.fNote.fCommit,p0.fNote.fGood,l761,l767,x772⟩ : GNote),x5⟩ : GLetter)
noncomputable def m_law20_small_j2 (p0 : GLetter) (x3 : ByteArray) (l667 : List GCached) (x5 : ByteArray) (l761 : List GEntry) : Option GLetter:=
  if 70 < (p0.fNote.fVoters.length : Int) then
    (cutHi p0.fNote.fVoters 70).bind fun l780=>
    m_law20_small_j3 p0 x3 l667 l761 x5 l780
  else
    m_law20_small_j3 p0 x3 l667 l761 x5 p0.fNote.fVoters
noncomputable def m_law20_small_s4 (p0 : GLetter) (l797 : List GEntry) (i800 : Int) : Option (((List GEntry)×Int) ⊕ (List GEntry)):=
  if i800 < (p0.fNote.fEntries.length : Int) then
    if i800 < 20 then
      (at_ p0.fNote.fEntries i800).bind fun x821=>
      (m_law20_short x821.fData 100).bind fun x826=>
      (app 32 l797 [(⟨x821.fTerm,x821.fKind,x826⟩ : GEntry)]).bind fun l829=>
      some (.inl (l829,w64 (i800 + 1)))
    else
      some (.inr l797)
  else
    some (.inr l797)
noncomputable def m_law20_small_j1 (p0 : GLetter) (x3 : ByteArray) (x5 : ByteArray) (l667 : List GCached) : Option GLetter:=
  (loop (fun s=>m_law20_small_s4 p0 s.1 s.2) (([] : List GEntry),0)).bind fun e=>m_law20_small_j2 p0 x3 l667 x5 e
noncomputable def m_law20_small_j6 (l963 : List GCached) (x1104 : GCached) (x1114 : ByteArray) (i968 : Int) (l1214 : List GRR) : Option (((List GCached)×Int) ⊕ (List GCached)):=
  (app 88 l963 [(⟨x1104.fKind,x1114,x1104.fType,x1104.fClass,l1214,x1104.fUntil,x1104.fRank,x1104.fEpoch,x1104.fSource⟩ : GCached)]).bind fun l1222=>
  some (.inl (l1222,w64 (i968 + 1)))
noncomputable def m_law20_small_s7 (x1104 : GCached) (l1246 : List GRR) (i1249 : Int) : Option (((List GRR)×Int) ⊕ (List GRR)):=
  if i1249 < (x1104.fRecords.length : Int) then
    if i1249 < 5 then
      (at_ x1104.fRecords i1249).bind fun x1272=>
      (m_law20_short x1272.fName 300).bind fun x1277=>
      (m_law20_short x1272.fData 600).bind fun x1279=>
      (app 40 l1246 [(⟨x1277,x1272.fType,x1272.fClass,x1272.fTTL,x1279⟩ : GRR)]).bind fun l1282=>
      some (.inl (l1282,w64 (i1249 + 1)))
    else
      some (.inr l1246)
  else
    some (.inr l1246)
noncomputable def m_law20_small_s5 (p0 : GLetter) (l963 : List GCached) (i968 : Int) : Option (((List GCached)×Int) ⊕ (List GCached)):=
  if i968 < (p0.fEntries.length : Int) then
    if i968 < 45 then
      (at_ p0.fEntries i968).bind fun x1104=>
      (m_law20_short x1104.fName 300).bind fun x1114=>
      (loop (fun s=>m_law20_small_s7 x1104 s.1 s.2) (([] : List GRR),0)).bind fun e=>m_law20_small_j6 l963 x1104 x1114 i968 e
    else
      some (.inr l963)
  else
    some (.inr l963)
noncomputable def m_law20_small (p0 : GLetter) : Option GLetter:=
  (m_law20_short p0.fQuestion.fName 300).bind fun x3=>
  (m_law20_short p0.fText 9000).bind fun x5=>
  (loop (fun s=>m_law20_small_s5 p0 s.1 s.2) (([] : List GCached),0)).bind fun e=>m_law20_small_j1 p0 x3 x5 e
theorem c_law20_small {w0 : World} {M : Nat→Prop} {H : List (Nat×Nat×Obj)} {R : List (Nat×Row)} {φ : World→Prop} (p0 : GLetter) (Ap0_0 : Option Addr) (cp0_0 : Nat) (psp0_0 : List GCachedP) (hcp0_0 : (DOk GCached.capP p0.fEntries psp0_0∧p0.fEntries.length ≤ cp0_0)) (fp0_0 : ∀ W,(Sta.mk w0 M H R φ).ok W→Cl W Ap0_0 ((p0.fEntries.zip psp0_0).flatMap GCached.encP)) (fop0_0 : ∀ W,(Sta.mk w0 M H R φ).ok W→DOwn GCached.ownP p0.fEntries psp0_0 W) (Ap0_1 : Option Addr) (cp0_1 : Nat) (hcp0_1 : p0.fNote.fEntries.length ≤ cp0_1) (fp0_1 : ∀ W,(Sta.mk w0 M H R φ).ok W→Cl W Ap0_1 (p0.fNote.fEntries.flatMap GEntry.enc)) (Ap0_2 : Option Addr) (cp0_2 : Nat) (hcp0_2 : p0.fNote.fVoters.length ≤ cp0_2) (fp0_2 : ∀ W,φ W→Cl W Ap0_2 (p0.fNote.fVoters.flatMap (fun x : Int=>[Value.int .i64 x]))) (r : GLetter) (hm : m_law20_small p0 = some r) :
    Cn Try.prog 8 #[.agg #[.int .i64 p0.fKind,.int .i64 p0.fSerial,.int .i64 p0.fEpoch,.string p0.fQuestion.fName,.int .u16 p0.fQuestion.fType,.int .u16 p0.fQuestion.fClass,.bool p0.fGood,.slice Ap0_0 p0.fEntries.length cp0_0,.int .i64 p0.fNote.fKind,.int .i64 p0.fNote.fFrom,.int .i64 p0.fNote.fTo,.int .i64 p0.fNote.fTerm,.int .i64 p0.fNote.fIndex,.int .i64 p0.fNote.fLogTerm,.int .i64 p0.fNote.fCommit,.bool p0.fNote.fGood,.slice Ap0_1 p0.fNote.fEntries.length cp0_1,.slice Ap0_2 p0.fNote.fVoters.length cp0_2,.string p0.fNote.fSnap,.string p0.fText]] ⟨w0,M,H,R,φ⟩ (fun x : Option Addr×Nat×List GCachedP×Option Addr×Nat×Option Addr×Nat=>.agg #[.int .i64 r.fKind,.int .i64 r.fSerial,.int .i64 r.fEpoch,.string r.fQuestion.fName,.int .u16 r.fQuestion.fType,.int .u16 r.fQuestion.fClass,.bool r.fGood,.slice x.1 r.fEntries.length x.2.1,.int .i64 r.fNote.fKind,.int .i64 r.fNote.fFrom,.int .i64 r.fNote.fTo,.int .i64 r.fNote.fTerm,.int .i64 r.fNote.fIndex,.int .i64 r.fNote.fLogTerm,.int .i64 r.fNote.fCommit,.bool r.fNote.fGood,.slice x.2.2.2.1 r.fNote.fEntries.length x.2.2.2.2.1,.slice x.2.2.2.2.2.1 r.fNote.fVoters.length x.2.2.2.2.2.2,.string r.fNote.fSnap,.string r.fText]) (fun x=>(DOk GCached.capP r.fEntries x.2.2.1∧r.fEntries.length ≤ x.2.1)∧r.fNote.fEntries.length ≤ x.2.2.2.2.1∧r.fNote.fVoters.length ≤ x.2.2.2.2.2.2) (fun x=>⟨w0,M,H,R,fun W=>φ W∧Cl W x.1 ((r.fEntries.zip x.2.2.1).flatMap GCached.encP)∧DOwn GCached.ownP r.fEntries x.2.2.1 W∧Cl W x.2.2.2.1 (r.fNote.fEntries.flatMap GEntry.enc)∧Cl W x.2.2.2.2.2.1 (r.fNote.fVoters.flatMap (fun x : Int=>[Value.int .i64 x]))⟩):=by
 unfold m_law20_small at hm
 refine cn_intro (fn:=Try.f8) (N:=125) Try.func8 rfl Try.ntmps8 rfl<|c_seq<|c_region ?_
 refine g_e rfl (e_box 100010 rfl) (fun g1 _=>?_)
 refine g_e rfl (e_alloc 100020 Try.zeroValue31) (fun g2 _=>?_)
 refine g_nil<|d_then<|c_seq<|c_region<|g_v rfl (r_field (n:=3) Try.underlying31 rfl Try.sizeOf24 rfl rfl)<|g_v rfl (r_field (n:=3) Try.underlying24 rfl Try.sizeOf9 rfl rfl)<|g_v rfl (r_load (tag:=100010) rfl rfl rfl Try.isAgg9) ?_
 replace hm:=bnd hm
 obtain ⟨x3,hx4,hm⟩:=hm
 refine g_cn ⟨w0,M,_,_,φ⟩ (fun _ h=>h) Try.call16 rfl rfl (c_law20_short p0.fQuestion.fName 300 _ hx4) (fun _ _=>?_)
 refine g_v rfl (r_field (n:=3) Try.underlying31 rfl Try.sizeOf24 rfl rfl)<|g_v rfl (r_field (n:=3) Try.underlying24 rfl Try.sizeOf9 rfl rfl)<|g_storeL (tag:=100010) rfl rfl rfl rfl Try.sizeOf9 rfl rfl<|g_nil<|d_then ?_
 refine c_flat [(1,.pointer (some ⟨g1,0,none⟩)),(2,.pointer (some ⟨g2,0,none⟩))] ⟨rfl,rfl,trivial⟩ (fun u=>?_)
 refine c_sta ⟨w0,M,(100020,g2,.cells #[.int .i64 0,.int .i64 0,.int .i64 0,.string (⟨#[]⟩ : ByteArray),.int .u16 0,.int .u16 0,.bool false,.slice none 0 0,.int .i64 0,.int .i64 0,.int .i64 0,.int .i64 0,.int .i64 0,.int .i64 0,.int .i64 0,.bool false,.slice none 0 0,.slice none 0 0,.string (⟨#[]⟩ : ByteArray),.string (⟨#[]⟩ : ByteArray)] 31 (0,0))::(100010,g1,.cells #[.int .i64 p0.fKind,.int .i64 p0.fSerial,.int .i64 p0.fEpoch,.string x3,.int .u16 p0.fQuestion.fType,.int .u16 p0.fQuestion.fClass,.bool p0.fGood,.slice Ap0_0 p0.fEntries.length cp0_0,.int .i64 p0.fNote.fKind,.int .i64 p0.fNote.fFrom,.int .i64 p0.fNote.fTo,.int .i64 p0.fNote.fTerm,.int .i64 p0.fNote.fIndex,.int .i64 p0.fNote.fLogTerm,.int .i64 p0.fNote.fCommit,.bool p0.fNote.fGood,.slice Ap0_1 p0.fNote.fEntries.length cp0_1,.slice Ap0_2 p0.fNote.fVoters.length cp0_2,.string p0.fNote.fSnap,.string p0.fText] 31 (0,0))::H,R,φ⟩ (fun _ h=>h)<|c_seq<|c_region<|g_v rfl (r_field (n:=19) Try.underlying31 rfl Try.sizeOf9 rfl rfl)<|g_v rfl (r_load (tag:=100010) rfl rfl rfl Try.isAgg9) ?_
 replace hm:=bnd hm
 obtain ⟨x5,hx6,hm⟩:=hm
 refine g_cn ⟨w0,M,_,_,φ⟩ (fun _ h=>h) Try.call16 rfl rfl (c_law20_short p0.fText 9000 _ hx6) (fun _ _=>?_)
 refine g_v rfl (r_field (n:=19) Try.underlying31 rfl Try.sizeOf9 rfl rfl)<|g_storeL (tag:=100010) rfl rfl rfl rfl Try.sizeOf9 rfl rfl<|g_nil<|d_then<|c_seq<|c_region<|g_v rfl r_assign<|g_nil<|d_then<|c_seq ?_
 refine c_sta _ (fun W h=>nilR h 22 41 9) ?_
 refine c_cut (ι:=(List GCached)×Option Addr×Nat×List GCachedP) [1,2,3] (fun ⟨l667,A668,c669,ps670⟩=>[(3,.slice A668 l667.length c669)]) (fun ⟨l667,A668,c669,ps670⟩=>⟨w0,M,(100020,g2,.cells #[.int .i64 0,.int .i64 0,.int .i64 0,.string (⟨#[]⟩ : ByteArray),.int .u16 0,.int .u16 0,.bool false,.slice none 0 0,.int .i64 0,.int .i64 0,.int .i64 0,.int .i64 0,.int .i64 0,.int .i64 0,.int .i64 0,.bool false,.slice none 0 0,.slice none 0 0,.string (⟨#[]⟩ : ByteArray),.string (⟨#[]⟩ : ByteArray)] 31 (0,0))::(100010,g1,.cells #[.int .i64 p0.fKind,.int .i64 p0.fSerial,.int .i64 p0.fEpoch,.string x3,.int .u16 p0.fQuestion.fType,.int .u16 p0.fQuestion.fClass,.bool p0.fGood,.slice Ap0_0 p0.fEntries.length cp0_0,.int .i64 p0.fNote.fKind,.int .i64 p0.fNote.fFrom,.int .i64 p0.fNote.fTo,.int .i64 p0.fNote.fTerm,.int .i64 p0.fNote.fIndex,.int .i64 p0.fNote.fLogTerm,.int .i64 p0.fNote.fCommit,.bool p0.fNote.fGood,.slice Ap0_1 p0.fNote.fEntries.length cp0_1,.slice Ap0_2 p0.fNote.fVoters.length cp0_2,.string p0.fNote.fSnap,.string x5] 31 (0,0))::H,(22,⟨.slice A668 l667.length c669,41,9,l667.length,(l667.zip ps670).flatMap GCached.encP⟩)::R,fun W=>φ W∧DOwn GCached.ownP l667 ps670 W⟩) (fun ⟨l667,A668,c669,ps670⟩=>m_law20_small_j1 p0 x3 x5 l667 = some r∧(DOk GCached.capP l667 ps670∧l667.length ≤ c669)) ?_ (fun ⟨l667,A668,c669,ps670⟩ u ⟨hm,hc669⟩=>?_)
 ·
  refine c_seq<|c_region<|g_v rfl r_assign<|g_nil<|d_then<|c_block ?_
  replace hm:=bnd hm
  obtain ⟨out5,hl5,hr5⟩:=hm
  obtain ⟨n1100',hl5⟩:=loop_lp hl5
  refine c_loopU (ι:=Nat×(List GCached)×Int×Option Addr×Nat×List GCachedP) [1,2,3,4] (fun ⟨n1100,l963,i968,A964,c965,ps966⟩=>[(3,.slice A964 l963.length c965),(4,.int .i64 i968)]) (fun ⟨n1100,l963,i968,A964,c965,ps966⟩=>⟨w0,M,(100020,g2,.cells #[.int .i64 0,.int .i64 0,.int .i64 0,.string (⟨#[]⟩ : ByteArray),.int .u16 0,.int .u16 0,.bool false,.slice none 0 0,.int .i64 0,.int .i64 0,.int .i64 0,.int .i64 0,.int .i64 0,.int .i64 0,.int .i64 0,.bool false,.slice none 0 0,.slice none 0 0,.string (⟨#[]⟩ : ByteArray),.string (⟨#[]⟩ : ByteArray)] 31 (0,0))::(100010,g1,.cells #[.int .i64 p0.fKind,.int .i64 p0.fSerial,.int .i64 p0.fEpoch,.string x3,.int .u16 p0.fQuestion.fType,.int .u16 p0.fQuestion.fClass,.bool p0.fGood,.slice Ap0_0 p0.fEntries.length cp0_0,.int .i64 p0.fNote.fKind,.int .i64 p0.fNote.fFrom,.int .i64 p0.fNote.fTo,.int .i64 p0.fNote.fTerm,.int .i64 p0.fNote.fIndex,.int .i64 p0.fNote.fLogTerm,.int .i64 p0.fNote.fCommit,.bool p0.fNote.fGood,.slice Ap0_1 p0.fNote.fEntries.length cp0_1,.slice Ap0_2 p0.fNote.fVoters.length cp0_2,.string p0.fNote.fSnap,.string x5] 31 (0,0))::H,(22,⟨.slice A964 l963.length c965,41,9,l963.length,(l963.zip ps966).flatMap GCached.encP⟩)::R,fun W=>φ W∧DOwn GCached.ownP l963 ps966 W⟩) (fun ⟨n1100,l963,i968,A964,c965,ps966⟩=>Lp (fun s=>m_law20_small_s5 p0 s.1 s.2) n1100 (l963,i968) out5∧(DOk GCached.capP l963 ps966∧l963.length ≤ c965)) (fun ⟨n1100,l963,i968,A964,c965,ps966⟩=>n1100) (n1100',([] : List GCached),0,none,0,([] : List GCachedP)) ⟨hl5,⟨DOk.nil,(Nat.le_refl 0)⟩⟩ ⟨rfl,rfl,rfl,rfl,trivial⟩ (fun W h=>h.phi (fun W hφ=>⟨hφ,(fun W h=>DOwn.nil) W hφ⟩)) (fun ⟨n1100,l963,i968,A964,c965,ps966⟩ u ⟨hlp,hc965⟩=>?_)
  obtain ⟨o5,hm,hnx5⟩:=lp_step hlp
  clear hlp
  replace hm : m_law20_small_s5 p0 l963 i968 = some o5:=hm
  unfold m_law20_small_s5 at hm
  refine c_abs (fun φ1101 q1101'=>?_)
  have q1101 : ∀ W,φ1101 W→φ W:=fun W h=>(q1101' W h).1
  have f967:=fun (W : World) (h : φ1101 W)=>(q1101' W h).2
  refine c_flat [(1,.pointer (some ⟨g1,0,none⟩)),(2,.pointer (some ⟨g2,0,none⟩)),(3,.slice A964 l963.length c965),(4,.int .i64 i968)] ⟨rfl,rfl,rfl,rfl,trivial⟩ (fun u=>?_)
  refine c_sta ⟨w0,M,(100020,g2,.cells #[.int .i64 0,.int .i64 0,.int .i64 0,.string (⟨#[]⟩ : ByteArray),.int .u16 0,.int .u16 0,.bool false,.slice none 0 0,.int .i64 0,.int .i64 0,.int .i64 0,.int .i64 0,.int .i64 0,.int .i64 0,.int .i64 0,.bool false,.slice none 0 0,.slice none 0 0,.string (⟨#[]⟩ : ByteArray),.string (⟨#[]⟩ : ByteArray)] 31 (0,0))::(100010,g1,.cells #[.int .i64 p0.fKind,.int .i64 p0.fSerial,.int .i64 p0.fEpoch,.string x3,.int .u16 p0.fQuestion.fType,.int .u16 p0.fQuestion.fClass,.bool p0.fGood,.slice Ap0_0 p0.fEntries.length cp0_0,.int .i64 p0.fNote.fKind,.int .i64 p0.fNote.fFrom,.int .i64 p0.fNote.fTo,.int .i64 p0.fNote.fTerm,.int .i64 p0.fNote.fIndex,.int .i64 p0.fNote.fLogTerm,.int .i64 p0.fNote.fCommit,.bool p0.fNote.fGood,.slice Ap0_1 p0.fNote.fEntries.length cp0_1,.slice Ap0_2 p0.fNote.fVoters.length cp0_2,.string p0.fNote.fSnap,.string x5] 31 (0,0))::H,(22,⟨.slice A964 l963.length c965,41,9,l963.length,(l963.zip ps966).flatMap GCached.encP⟩)::R,φ1101⟩ (fun _ h=>h)<|c_seq<|c_seq<|c_region<|g_v rfl r_move<|g_v rfl (r_field (n:=7) Try.underlying31 rfl Try.sizeOf25 rfl rfl)<|g_v rfl (r_load (tag:=100010) rfl rfl rfl Try.isAgg25)<|g_v rfl (r_lenL Try.underlying25 rfl)<|g_v rfl (r_lss rfl rfl)<|g_v rfl r_move ?_
  refine g_if rfl rfl rfl rfl rfl (fun h1102=>?_) (fun h1102=>?_)
  ·
   replace hm:=ite_t hm (of_decide_eq_true h1102)
   refine g_v rfl r_move<|g_do rfl rfl rfl rfl rfl h1102<|g_v rfl (r_lss rfl rfl)<|g_v rfl (r_pick1 rfl h1102)<|g_nil<|d_then ?_
   refine c_flat [(1,.pointer (some ⟨g1,0,none⟩)),(2,.pointer (some ⟨g2,0,none⟩)),(3,.slice A964 l963.length c965),(4,.int .i64 i968),(30,.bool (decide (i968 < 45)))] ⟨rfl,rfl,rfl,rfl,rfl,trivial⟩ (fun u=>?_)
   refine c_cond rfl (fun h1103=>?_) (fun h1103=>?_)
   ·
    replace hm:=ite_t hm (of_decide_eq_true h1103)
    refine c_skip<|d_then<|c_seq<|c_block<|c_seq<|c_region<|g_v rfl (r_field (n:=7) Try.underlying31 rfl Try.sizeOf25 rfl rfl)<|g_v rfl (r_load (tag:=100010) rfl rfl rfl Try.isAgg25)<|g_v rfl r_move ?_
    replace hm:=bnd hm
    obtain ⟨x1104,hx1104,hm⟩:=hm
    obtain ⟨pp1108,hv1109,hz1110,hcp1111⟩:=DOk.at_ hcp0_0.1 hx1104
    refine g_know _ (fun W hS=>cl_at (p:=(Sta.mk w0 M H R φ).ok) (sz:=9) (fun _=>rfl) (by decide) (ok_pre (H1:=[_,_]) (R1:=[_]) hS (fun W h=>(q1101 _ h))) fp0_0 hv1109) ?_
    rintro ⟨ad1105,hA1107,f1106⟩
    have f1112:=fun (W : World) (h : (Sta.mk w0 M H R φ).ok W)=>(fop0_0 W h _ hz1110)
    refine g_v rfl (r_ix Try.underlying25 Try.sizeOf41 rfl hA1107 rfl hx1104)<|g_v rfl (r_ldA rfl Try.isAgg41 Try.sizeOf41 (fun W hS=>(f1106 W (ok_pre (H1:=[_,_]) (R1:=[_]) hS (fun W h=>(q1101 _ h)))).take 9) rfl) ?_
    refine g_e rfl (e_alloc 100050 Try.zeroValue41) (fun g1113 _=>?_)
    refine g_storeL (tag:=100050) rfl rfl rfl rfl Try.sizeOf41 rfl rfl<|g_nil<|d_then<|c_seq<|c_region<|g_v rfl (r_field (n:=1) Try.underlying41 rfl Try.sizeOf9 rfl rfl)<|g_v rfl (r_load (tag:=100050) rfl rfl rfl Try.isAgg9) ?_
    replace hm:=bnd hm
    obtain ⟨x1114,hx1115,hm⟩:=hm
    refine g_cn ⟨w0,M,_,_,φ1101⟩ (fun _ h=>h) Try.call16 rfl rfl (c_law20_short x1104.fName 300 _ hx1115) (fun _ _=>?_)
    refine g_v rfl (r_field (n:=1) Try.underlying41 rfl Try.sizeOf9 rfl rfl)<|g_storeL (tag:=100050) rfl rfl rfl rfl Try.sizeOf9 rfl rfl<|g_nil<|d_then ?_
    refine c_flat [(1,.pointer (some ⟨g1,0,none⟩)),(2,.pointer (some ⟨g2,0,none⟩)),(3,.slice A964 l963.length c965),(4,.int .i64 i968),(5,.pointer (some ⟨g1113,0,none⟩))] ⟨rfl,rfl,rfl,rfl,rfl,trivial⟩ (fun u=>?_)
    refine c_sta ⟨w0,M,(100050,g1113,.cells #[.int .i64 x1104.fKind,.string x1114,.int .u16 x1104.fType,.int .u16 x1104.fClass,.slice pp1108.pA0 x1104.fRecords.length pp1108.pC0,.int .i64 x1104.fUntil,.int .i64 x1104.fRank,.int .i64 x1104.fEpoch,.int .i64 x1104.fSource] 41 (0,0))::(100020,g2,.cells #[.int .i64 0,.int .i64 0,.int .i64 0,.string (⟨#[]⟩ : ByteArray),.int .u16 0,.int .u16 0,.bool false,.slice none 0 0,.int .i64 0,.int .i64 0,.int .i64 0,.int .i64 0,.int .i64 0,.int .i64 0,.int .i64 0,.bool false,.slice none 0 0,.slice none 0 0,.string (⟨#[]⟩ : ByteArray),.string (⟨#[]⟩ : ByteArray)] 31 (0,0))::(100010,g1,.cells #[.int .i64 p0.fKind,.int .i64 p0.fSerial,.int .i64 p0.fEpoch,.string x3,.int .u16 p0.fQuestion.fType,.int .u16 p0.fQuestion.fClass,.bool p0.fGood,.slice Ap0_0 p0.fEntries.length cp0_0,.int .i64 p0.fNote.fKind,.int .i64 p0.fNote.fFrom,.int .i64 p0.fNote.fTo,.int .i64 p0.fNote.fTerm,.int .i64 p0.fNote.fIndex,.int .i64 p0.fNote.fLogTerm,.int .i64 p0.fNote.fCommit,.bool p0.fNote.fGood,.slice Ap0_1 p0.fNote.fEntries.length cp0_1,.slice Ap0_2 p0.fNote.fVoters.length cp0_2,.string p0.fNote.fSnap,.string x5] 31 (0,0))::H,(22,⟨.slice A964 l963.length c965,41,9,l963.length,(l963.zip ps966).flatMap GCached.encP⟩)::R,φ1101⟩ (fun _ h=>h)<|c_seq<|c_region<|g_v rfl r_assign<|g_nil<|d_then<|c_seq<|c_sta _ (fun W h=>nilR h 40 54 5) ?_
    refine c_cut (ι:=(List GRR)×Option Addr×Nat) [1,2,3,4,5,6] (fun ⟨l1214,A1215,c1216⟩=>[(6,.slice A1215 l1214.length c1216)]) (fun ⟨l1214,A1215,c1216⟩=>⟨w0,M,(100050,g1113,.cells #[.int .i64 x1104.fKind,.string x1114,.int .u16 x1104.fType,.int .u16 x1104.fClass,.slice pp1108.pA0 x1104.fRecords.length pp1108.pC0,.int .i64 x1104.fUntil,.int .i64 x1104.fRank,.int .i64 x1104.fEpoch,.int .i64 x1104.fSource] 41 (0,0))::(100020,g2,.cells #[.int .i64 0,.int .i64 0,.int .i64 0,.string (⟨#[]⟩ : ByteArray),.int .u16 0,.int .u16 0,.bool false,.slice none 0 0,.int .i64 0,.int .i64 0,.int .i64 0,.int .i64 0,.int .i64 0,.int .i64 0,.int .i64 0,.bool false,.slice none 0 0,.slice none 0 0,.string (⟨#[]⟩ : ByteArray),.string (⟨#[]⟩ : ByteArray)] 31 (0,0))::(100010,g1,.cells #[.int .i64 p0.fKind,.int .i64 p0.fSerial,.int .i64 p0.fEpoch,.string x3,.int .u16 p0.fQuestion.fType,.int .u16 p0.fQuestion.fClass,.bool p0.fGood,.slice Ap0_0 p0.fEntries.length cp0_0,.int .i64 p0.fNote.fKind,.int .i64 p0.fNote.fFrom,.int .i64 p0.fNote.fTo,.int .i64 p0.fNote.fTerm,.int .i64 p0.fNote.fIndex,.int .i64 p0.fNote.fLogTerm,.int .i64 p0.fNote.fCommit,.bool p0.fNote.fGood,.slice Ap0_1 p0.fNote.fEntries.length cp0_1,.slice Ap0_2 p0.fNote.fVoters.length cp0_2,.string p0.fNote.fSnap,.string x5] 31 (0,0))::H,(40,⟨.slice A1215 l1214.length c1216,54,5,l1214.length,l1214.flatMap GRR.enc⟩)::(22,⟨.slice A964 l963.length c965,41,9,l963.length,(l963.zip ps966).flatMap GCached.encP⟩)::R,φ1101⟩) (fun ⟨l1214,A1215,c1216⟩=>m_law20_small_j6 l963 x1104 x1114 i968 l1214 = some o5∧l1214.length ≤ c1216) ?_ (fun ⟨l1214,A1215,c1216⟩ u ⟨hm,hc1216⟩=>?_)
    ·
     refine c_seq<|c_region<|g_v rfl r_assign<|g_nil<|d_then<|c_block ?_
     replace hm:=bnd hm
     obtain ⟨out7,hl7,hr7⟩:=hm
     obtain ⟨n1269',hl7⟩:=loop_lp hl7
     refine c_loopU (ι:=Nat×(List GRR)×Int×Option Addr×Nat) [1,2,3,4,5,6,7] (fun ⟨n1269,l1246,i1249,A1247,c1248⟩=>[(6,.slice A1247 l1246.length c1248),(7,.int .i64 i1249)]) (fun ⟨n1269,l1246,i1249,A1247,c1248⟩=>⟨w0,M,(100050,g1113,.cells #[.int .i64 x1104.fKind,.string x1114,.int .u16 x1104.fType,.int .u16 x1104.fClass,.slice pp1108.pA0 x1104.fRecords.length pp1108.pC0,.int .i64 x1104.fUntil,.int .i64 x1104.fRank,.int .i64 x1104.fEpoch,.int .i64 x1104.fSource] 41 (0,0))::(100020,g2,.cells #[.int .i64 0,.int .i64 0,.int .i64 0,.string (⟨#[]⟩ : ByteArray),.int .u16 0,.int .u16 0,.bool false,.slice none 0 0,.int .i64 0,.int .i64 0,.int .i64 0,.int .i64 0,.int .i64 0,.int .i64 0,.int .i64 0,.bool false,.slice none 0 0,.slice none 0 0,.string (⟨#[]⟩ : ByteArray),.string (⟨#[]⟩ : ByteArray)] 31 (0,0))::(100010,g1,.cells #[.int .i64 p0.fKind,.int .i64 p0.fSerial,.int .i64 p0.fEpoch,.string x3,.int .u16 p0.fQuestion.fType,.int .u16 p0.fQuestion.fClass,.bool p0.fGood,.slice Ap0_0 p0.fEntries.length cp0_0,.int .i64 p0.fNote.fKind,.int .i64 p0.fNote.fFrom,.int .i64 p0.fNote.fTo,.int .i64 p0.fNote.fTerm,.int .i64 p0.fNote.fIndex,.int .i64 p0.fNote.fLogTerm,.int .i64 p0.fNote.fCommit,.bool p0.fNote.fGood,.slice Ap0_1 p0.fNote.fEntries.length cp0_1,.slice Ap0_2 p0.fNote.fVoters.length cp0_2,.string p0.fNote.fSnap,.string x5] 31 (0,0))::H,(40,⟨.slice A1247 l1246.length c1248,54,5,l1246.length,l1246.flatMap GRR.enc⟩)::(22,⟨.slice A964 l963.length c965,41,9,l963.length,(l963.zip ps966).flatMap GCached.encP⟩)::R,φ1101⟩) (fun ⟨n1269,l1246,i1249,A1247,c1248⟩=>Lp (fun s=>m_law20_small_s7 x1104 s.1 s.2) n1269 (l1246,i1249) out7∧l1246.length ≤ c1248) (fun ⟨n1269,l1246,i1249,A1247,c1248⟩=>n1269) (n1269',([] : List GRR),0,none,0) ⟨hl7,(Nat.le_refl 0)⟩ ⟨rfl,rfl,rfl,rfl,rfl,rfl,rfl,trivial⟩ (fun W h=>h.phi (fun W hφ=>hφ)) (fun ⟨n1269,l1246,i1249,A1247,c1248⟩ u ⟨hlp,hc1248⟩=>?_)
     obtain ⟨o7,hm,hnx7⟩:=lp_step hlp
     clear hlp
     replace hm : m_law20_small_s7 x1104 l1246 i1249 = some o7:=hm
     unfold m_law20_small_s7 at hm
     refine c_flat [(1,.pointer (some ⟨g1,0,none⟩)),(2,.pointer (some ⟨g2,0,none⟩)),(3,.slice A964 l963.length c965),(4,.int .i64 i968),(5,.pointer (some ⟨g1113,0,none⟩)),(6,.slice A1247 l1246.length c1248),(7,.int .i64 i1249)] ⟨rfl,rfl,rfl,rfl,rfl,rfl,rfl,trivial⟩ (fun u=>?_)
     refine c_sta ⟨w0,M,(100050,g1113,.cells #[.int .i64 x1104.fKind,.string x1114,.int .u16 x1104.fType,.int .u16 x1104.fClass,.slice pp1108.pA0 x1104.fRecords.length pp1108.pC0,.int .i64 x1104.fUntil,.int .i64 x1104.fRank,.int .i64 x1104.fEpoch,.int .i64 x1104.fSource] 41 (0,0))::(100020,g2,.cells #[.int .i64 0,.int .i64 0,.int .i64 0,.string (⟨#[]⟩ : ByteArray),.int .u16 0,.int .u16 0,.bool false,.slice none 0 0,.int .i64 0,.int .i64 0,.int .i64 0,.int .i64 0,.int .i64 0,.int .i64 0,.int .i64 0,.bool false,.slice none 0 0,.slice none 0 0,.string (⟨#[]⟩ : ByteArray),.string (⟨#[]⟩ : ByteArray)] 31 (0,0))::(100010,g1,.cells #[.int .i64 p0.fKind,.int .i64 p0.fSerial,.int .i64 p0.fEpoch,.string x3,.int .u16 p0.fQuestion.fType,.int .u16 p0.fQuestion.fClass,.bool p0.fGood,.slice Ap0_0 p0.fEntries.length cp0_0,.int .i64 p0.fNote.fKind,.int .i64 p0.fNote.fFrom,.int .i64 p0.fNote.fTo,.int .i64 p0.fNote.fTerm,.int .i64 p0.fNote.fIndex,.int .i64 p0.fNote.fLogTerm,.int .i64 p0.fNote.fCommit,.bool p0.fNote.fGood,.slice Ap0_1 p0.fNote.fEntries.length cp0_1,.slice Ap0_2 p0.fNote.fVoters.length cp0_2,.string p0.fNote.fSnap,.string x5] 31 (0,0))::H,(40,⟨.slice A1247 l1246.length c1248,54,5,l1246.length,l1246.flatMap GRR.enc⟩)::(22,⟨.slice A964 l963.length c965,41,9,l963.length,(l963.zip ps966).flatMap GCached.encP⟩)::R,φ1101⟩ (fun _ h=>h)<|c_seq<|c_seq<|c_region<|g_v rfl r_move<|g_v rfl (r_field (n:=4) Try.underlying41 rfl Try.sizeOf39 rfl rfl)<|g_v rfl (r_load (tag:=100050) rfl rfl rfl Try.isAgg39)<|g_v rfl (r_lenL Try.underlying39 rfl)<|g_v rfl (r_lss rfl rfl)<|g_v rfl r_move ?_
     refine g_if rfl rfl rfl rfl rfl (fun h1270=>?_) (fun h1270=>?_)
     ·
      replace hm:=ite_t hm (of_decide_eq_true h1270)
      refine g_v rfl r_move<|g_do rfl rfl rfl rfl rfl h1270<|g_v rfl (r_lss rfl rfl)<|g_v rfl (r_pick1 rfl h1270)<|g_nil<|d_then ?_
      refine c_flat [(1,.pointer (some ⟨g1,0,none⟩)),(2,.pointer (some ⟨g2,0,none⟩)),(3,.slice A964 l963.length c965),(4,.int .i64 i968),(5,.pointer (some ⟨g1113,0,none⟩)),(6,.slice A1247 l1246.length c1248),(7,.int .i64 i1249),(50,.bool (decide (i1249 < 5)))] ⟨rfl,rfl,rfl,rfl,rfl,rfl,rfl,rfl,trivial⟩ (fun u=>?_)
      refine c_cond rfl (fun h1271=>?_) (fun h1271=>?_)
      ·
       replace hm:=ite_t hm (of_decide_eq_true h1271)
       refine c_skip<|d_then<|c_seq<|c_block<|c_seq<|c_region<|g_v rfl (r_field (n:=4) Try.underlying41 rfl Try.sizeOf39 rfl rfl)<|g_v rfl (r_load (tag:=100050) rfl rfl rfl Try.isAgg39)<|g_v rfl r_move ?_
       replace hm:=bnd hm
       obtain ⟨x1272,hx1272,hm⟩:=hm
       refine g_know _ (fun W hS=>cl_at (p:=(Sta.mk w0 M H R φ).ok) (sz:=5) (fun _=>rfl) (by decide) (ok_pre (H1:=[_,_,_]) (R1:=[_,_]) hS (fun W h=>(q1101 _ h))) f1112 hx1272) ?_
       rintro ⟨ad1273,hA1275,f1274⟩
       refine g_v rfl (r_ix Try.underlying39 Try.sizeOf54 rfl hA1275 rfl hx1272)<|g_v rfl (r_ldA rfl Try.isAgg54 Try.sizeOf54 (fun W hS=>(f1274 W (ok_pre (H1:=[_,_,_]) (R1:=[_,_]) hS (fun W h=>(q1101 _ h)))).take 5) rfl) ?_
       refine g_e rfl (e_alloc 100080 Try.zeroValue54) (fun g1276 _=>?_)
       refine g_storeL (tag:=100080) rfl rfl rfl rfl Try.sizeOf54 rfl rfl<|g_nil<|d_then<|c_seq<|c_region<|g_v rfl (r_field (n:=0) Try.underlying54 rfl Try.sizeOf9 rfl rfl)<|g_v rfl (r_load (tag:=100080) rfl rfl rfl Try.isAgg9) ?_
       replace hm:=bnd hm
       obtain ⟨x1277,hx1278,hm⟩:=hm
       refine g_cn ⟨w0,M,_,_,φ1101⟩ (fun _ h=>h) Try.call16 rfl rfl (c_law20_short x1272.fName 300 _ hx1278) (fun _ _=>?_)
       refine g_v rfl (r_field (n:=0) Try.underlying54 rfl Try.sizeOf9 rfl rfl)<|g_storeL (tag:=100080) rfl rfl rfl rfl Try.sizeOf9 rfl rfl<|g_nil<|d_then ?_
       refine c_flat [(1,.pointer (some ⟨g1,0,none⟩)),(2,.pointer (some ⟨g2,0,none⟩)),(3,.slice A964 l963.length c965),(4,.int .i64 i968),(5,.pointer (some ⟨g1113,0,none⟩)),(6,.slice A1247 l1246.length c1248),(7,.int .i64 i1249),(8,.pointer (some ⟨g1276,0,none⟩))] ⟨rfl,rfl,rfl,rfl,rfl,rfl,rfl,rfl,trivial⟩ (fun u=>?_)
       refine c_sta ⟨w0,M,(100080,g1276,.cells #[.string x1277,.int .u16 x1272.fType,.int .u16 x1272.fClass,.int .u32 x1272.fTTL,.string x1272.fData] 54 (0,0))::(100050,g1113,.cells #[.int .i64 x1104.fKind,.string x1114,.int .u16 x1104.fType,.int .u16 x1104.fClass,.slice pp1108.pA0 x1104.fRecords.length pp1108.pC0,.int .i64 x1104.fUntil,.int .i64 x1104.fRank,.int .i64 x1104.fEpoch,.int .i64 x1104.fSource] 41 (0,0))::(100020,g2,.cells #[.int .i64 0,.int .i64 0,.int .i64 0,.string (⟨#[]⟩ : ByteArray),.int .u16 0,.int .u16 0,.bool false,.slice none 0 0,.int .i64 0,.int .i64 0,.int .i64 0,.int .i64 0,.int .i64 0,.int .i64 0,.int .i64 0,.bool false,.slice none 0 0,.slice none 0 0,.string (⟨#[]⟩ : ByteArray),.string (⟨#[]⟩ : ByteArray)] 31 (0,0))::(100010,g1,.cells #[.int .i64 p0.fKind,.int .i64 p0.fSerial,.int .i64 p0.fEpoch,.string x3,.int .u16 p0.fQuestion.fType,.int .u16 p0.fQuestion.fClass,.bool p0.fGood,.slice Ap0_0 p0.fEntries.length cp0_0,.int .i64 p0.fNote.fKind,.int .i64 p0.fNote.fFrom,.int .i64 p0.fNote.fTo,.int .i64 p0.fNote.fTerm,.int .i64 p0.fNote.fIndex,.int .i64 p0.fNote.fLogTerm,.int .i64 p0.fNote.fCommit,.bool p0.fNote.fGood,.slice Ap0_1 p0.fNote.fEntries.length cp0_1,.slice Ap0_2 p0.fNote.fVoters.length cp0_2,.string p0.fNote.fSnap,.string x5] 31 (0,0))::H,(40,⟨.slice A1247 l1246.length c1248,54,5,l1246.length,l1246.flatMap GRR.enc⟩)::(22,⟨.slice A964 l963.length c965,41,9,l963.length,(l963.zip ps966).flatMap GCached.encP⟩)::R,φ1101⟩ (fun _ h=>h)<|c_seq<|c_region<|g_v rfl (r_field (n:=4) Try.underlying54 rfl Try.sizeOf9 rfl rfl)<|g_v rfl (r_load (tag:=100080) rfl rfl rfl Try.isAgg9) ?_
       replace hm:=bnd hm
       obtain ⟨x1279,hx1280,hm⟩:=hm
       refine g_cn ⟨w0,M,_,_,φ1101⟩ (fun _ h=>h) Try.call16 rfl rfl (c_law20_short x1272.fData 600 _ hx1280) (fun _ _=>?_)
       refine g_v rfl (r_field (n:=4) Try.underlying54 rfl Try.sizeOf9 rfl rfl)<|g_storeL (tag:=100080) rfl rfl rfl rfl Try.sizeOf9 rfl rfl<|g_nil<|d_then<|c_region<|g_v rfl r_move<|g_v rfl (r_loadA (tag:=100080) rfl rfl Try.isAgg54 Try.sizeOf54 rfl rfl) ?_
       refine g_e rfl (e_lit (tag:=100680) (l:=[(⟨x1277,x1272.fType,x1272.fClass,x1272.fTTL,x1279⟩ : GRR)]) (enc:=GRR.enc) (sz:=5) rfl Try.underlying39 (lit54_25 _ _ _ _ _) rfl rfl (fun _=>rfl)) (fun g1281 _=>?_)
       replace hm:=bnd hm
       obtain ⟨l1282,hl1282,hm⟩:=hm
       refine g_e rfl (e_appR (enc:=GRR.enc) (l:=l1246) (l1:=[(⟨x1277,x1272.fType,x1272.fClass,x1272.fTTL,x1279⟩ : GRR)]) (l2:=l1282) (tag:=40) Try.underlying39 inf54_31 rfl (by decide) (by decide) (fun _=>rfl) (fun _=>rfl) rfl hc1248 rfl rfl (fun W hS=>rowCl (tag:=100680) rfl W hS) hl1282) (fun ⟨A1283,c1284⟩ hc1284=>?_)
       refine g_v rfl r_assign<|g_nil<|d_normal_block<|d_then ?_
       refine c_flat [(1,.pointer (some ⟨g1,0,none⟩)),(2,.pointer (some ⟨g2,0,none⟩)),(3,.slice A964 l963.length c965),(4,.int .i64 i968),(5,.pointer (some ⟨g1113,0,none⟩)),(6,.slice A1283 l1282.length c1284),(7,.int .i64 i1249)] ⟨rfl,rfl,rfl,rfl,rfl,rfl,rfl,trivial⟩ (fun u=>?_)
       refine c_sta ⟨w0,M,(100080,g1276,.cells #[.string x1277,.int .u16 x1272.fType,.int .u16 x1272.fClass,.int .u32 x1272.fTTL,.string x1279] 54 (0,0))::(100050,g1113,.cells #[.int .i64 x1104.fKind,.string x1114,.int .u16 x1104.fType,.int .u16 x1104.fClass,.slice pp1108.pA0 x1104.fRecords.length pp1108.pC0,.int .i64 x1104.fUntil,.int .i64 x1104.fRank,.int .i64 x1104.fEpoch,.int .i64 x1104.fSource] 41 (0,0))::(100020,g2,.cells #[.int .i64 0,.int .i64 0,.int .i64 0,.string (⟨#[]⟩ : ByteArray),.int .u16 0,.int .u16 0,.bool false,.slice none 0 0,.int .i64 0,.int .i64 0,.int .i64 0,.int .i64 0,.int .i64 0,.int .i64 0,.int .i64 0,.bool false,.slice none 0 0,.slice none 0 0,.string (⟨#[]⟩ : ByteArray),.string (⟨#[]⟩ : ByteArray)] 31 (0,0))::(100010,g1,.cells #[.int .i64 p0.fKind,.int .i64 p0.fSerial,.int .i64 p0.fEpoch,.string x3,.int .u16 p0.fQuestion.fType,.int .u16 p0.fQuestion.fClass,.bool p0.fGood,.slice Ap0_0 p0.fEntries.length cp0_0,.int .i64 p0.fNote.fKind,.int .i64 p0.fNote.fFrom,.int .i64 p0.fNote.fTo,.int .i64 p0.fNote.fTerm,.int .i64 p0.fNote.fIndex,.int .i64 p0.fNote.fLogTerm,.int .i64 p0.fNote.fCommit,.bool p0.fNote.fGood,.slice Ap0_1 p0.fNote.fEntries.length cp0_1,.slice Ap0_2 p0.fNote.fVoters.length cp0_2,.string p0.fNote.fSnap,.string x5] 31 (0,0))::H,(100680,⟨.slice (some ⟨g1281,0,none⟩) [(⟨x1277,x1272.fType,x1272.fClass,x1272.fTTL,x1279⟩ : GRR)].length 1,54,5,[(⟨x1277,x1272.fType,x1272.fClass,x1272.fTTL,x1279⟩ : GRR)].length,[(⟨x1277,x1272.fType,x1272.fClass,x1272.fTTL,x1279⟩ : GRR)].flatMap GRR.enc⟩)::(40,⟨.slice A1283 l1282.length c1284,54,5,l1282.length,l1282.flatMap GRR.enc⟩)::(22,⟨.slice A964 l963.length c965,41,9,l963.length,(l963.zip ps966).flatMap GCached.encP⟩)::R,φ1101⟩ (fun _ h=>h)<|c_region<|g_v rfl r_move<|g_v rfl (r_add rfl rfl rfl)<|g_v rfl r_assign<|g_nil ?_
       obtain ⟨n1285,hn1285,hlp⟩:=nx_inl hm hnx7
       exact d_round (n1285,l1282,w64 (i1249 + 1),A1283,c1284) ⟨hlp,hc1284⟩ hn1285 ⟨rfl,rfl,rfl,rfl,rfl,rfl,rfl,trivial⟩ (fun W h=>((h.dropR (t:=100680) rfl).dropH (t:=100080) rfl).phi (fun W hφ=>hφ))
      replace hm:=ite_f hm (of_decide_eq_false h1271)
      refine c_exit<|d_exit_then<|d_exit_then<|d_exit_block ?_
      replace hm:=nx_out (C:=(fun e : (List GRR)=>m_law20_small_j6 l963 x1104 x1114 i968 e = some o5)) hm hnx7 hr7
      exact d_round (l1246,A1247,c1248) ⟨hm,hc1248⟩ Nat.zero_lt_one ⟨rfl,rfl,rfl,rfl,rfl,rfl,trivial⟩ (fun W h=>h.phi (fun W hφ=>hφ))
     replace hm:=ite_f hm (of_decide_eq_false h1270)
     refine g_no rfl rfl rfl rfl rfl h1270<|g_v rfl (r_pick0 rfl h1270)<|g_nil<|d_then<|c_cond0 rfl rfl<|c_exit<|d_exit_then<|d_exit_then<|d_exit_block ?_
     replace hm:=nx_out (C:=(fun e : (List GRR)=>m_law20_small_j6 l963 x1104 x1114 i968 e = some o5)) hm hnx7 hr7
     exact d_round (l1246,A1247,c1248) ⟨hm,hc1248⟩ Nat.zero_lt_one ⟨rfl,rfl,rfl,rfl,rfl,rfl,trivial⟩ (fun W h=>h.phi (fun W hφ=>hφ))
    unfold m_law20_small_j6 at hm
    refine d_flat [(1,.pointer (some ⟨g1,0,none⟩)),(2,.pointer (some ⟨g2,0,none⟩)),(3,.slice A964 l963.length c965),(4,.int .i64 i968),(5,.pointer (some ⟨g1113,0,none⟩)),(6,.slice A1215 l1214.length c1216)] ⟨rfl,rfl,rfl,rfl,rfl,rfl,trivial⟩ (fun u=>?_)
    refine d_sta ⟨w0,M,(100050,g1113,.cells #[.int .i64 x1104.fKind,.string x1114,.int .u16 x1104.fType,.int .u16 x1104.fClass,.slice pp1108.pA0 x1104.fRecords.length pp1108.pC0,.int .i64 x1104.fUntil,.int .i64 x1104.fRank,.int .i64 x1104.fEpoch,.int .i64 x1104.fSource] 41 (0,0))::(100020,g2,.cells #[.int .i64 0,.int .i64 0,.int .i64 0,.string (⟨#[]⟩ : ByteArray),.int .u16 0,.int .u16 0,.bool false,.slice none 0 0,.int .i64 0,.int .i64 0,.int .i64 0,.int .i64 0,.int .i64 0,.int .i64 0,.int .i64 0,.bool false,.slice none 0 0,.slice none 0 0,.string (⟨#[]⟩ : ByteArray),.string (⟨#[]⟩ : ByteArray)] 31 (0,0))::(100010,g1,.cells #[.int .i64 p0.fKind,.int .i64 p0.fSerial,.int .i64 p0.fEpoch,.string x3,.int .u16 p0.fQuestion.fType,.int .u16 p0.fQuestion.fClass,.bool p0.fGood,.slice Ap0_0 p0.fEntries.length cp0_0,.int .i64 p0.fNote.fKind,.int .i64 p0.fNote.fFrom,.int .i64 p0.fNote.fTo,.int .i64 p0.fNote.fTerm,.int .i64 p0.fNote.fIndex,.int .i64 p0.fNote.fLogTerm,.int .i64 p0.fNote.fCommit,.bool p0.fNote.fGood,.slice Ap0_1 p0.fNote.fEntries.length cp0_1,.slice Ap0_2 p0.fNote.fVoters.length cp0_2,.string p0.fNote.fSnap,.string x5] 31 (0,0))::H,(40,⟨.slice A1215 l1214.length c1216,54,5,l1214.length,l1214.flatMap GRR.enc⟩)::(22,⟨.slice A964 l963.length c965,41,9,l963.length,(l963.zip ps966).flatMap GCached.encP⟩)::R,φ1101⟩ (fun _ h=>h)<|d_then<|c_seq<|c_region<|g_v rfl r_move<|g_v rfl (r_field (n:=4) Try.underlying41 rfl Try.sizeOf39 rfl rfl)<|g_storeL (tag:=100050) rfl rfl rfl rfl Try.sizeOf39 rfl rfl<|g_nil<|d_then<|c_region ?_
    refine g_v rfl r_move<|g_v rfl (r_loadA (tag:=100050) rfl rfl Try.isAgg41 Try.sizeOf41 rfl rfl) ?_
    refine g_shut (tag:=40) rfl (fun φ1217 q1217'=>?_)
    have q1217 : ∀ W,φ1217 W→φ1101 W:=fun W h=>(q1217' W h).1
    have f1218:=fun (W : World) (h : φ1217 W)=>(q1217' W h).2
    have hk1220:=(DOk.cons (cap:=GCached.capP) (x:=(⟨x1104.fKind,x1114,x1104.fType,x1104.fClass,l1214,x1104.fUntil,x1104.fRank,x1104.fEpoch,x1104.fSource⟩ : GCached)) (p:=(⟨A1215,c1216⟩ : GCachedP)) (hc1216) DOk.nil)
    have f1221:=fun (W : World) (h : φ1217 W)=>(DOwn.cons (own:=GCached.ownP) (x:=(⟨x1104.fKind,x1114,x1104.fType,x1104.fClass,l1214,x1104.fUntil,x1104.fRank,x1104.fEpoch,x1104.fSource⟩ : GCached)) (p:=(⟨A1215,c1216⟩ : GCachedP)) (f1218 W h) DOwn.nil)
    refine g_e rfl (e_litD (tag:=100740) (enc:=GCached.encP) (sz:=9) hk1220 rfl Try.underlying25 (lit41_27 _ _ _ _ _ _ _ _ _ _ _) rfl rfl (fun _=>rfl)) (fun g1219 _=>?_)
    replace hm:=bnd hm
    obtain ⟨l1222,hl1222,hm⟩:=hm
    have hk1225:=DOk.app (cap:=GCached.capP) hc965.1 hk1220 hl1222
    have f1226:=fun (W : World) (h : φ1217 W)=>DOwn.app (own:=GCached.ownP) (cap:=GCached.capP) hc965.1 hl1222 (f967 W (q1217 _ h)) (f1221 W h)
    refine g_e rfl (e_appRD (enc:=GCached.encP) (l:=l963) (l1:=[(⟨x1104.fKind,x1114,x1104.fType,x1104.fClass,l1214,x1104.fUntil,x1104.fRank,x1104.fEpoch,x1104.fSource⟩ : GCached)]) (l2:=l1222) (tag:=22) hc965.1 hk1220 Try.underlying25 inf41_30 rfl (by decide) (by decide) (fun _=>rfl) (fun _=>rfl) rfl hc965.2 rfl rfl (fun W hS=>rowCl (tag:=100740) rfl W hS) hl1222) (fun ⟨A1223,c1224⟩ hc1224=>?_)
    refine g_v rfl r_assign<|g_nil<|d_normal_block<|d_then<|c_region<|g_v rfl r_move<|g_v rfl (r_add rfl rfl rfl)<|g_v rfl r_assign<|g_nil ?_
    obtain ⟨n1227,hn1227,hlp⟩:=nx_inl hm hnx5
    exact d_round (n1227,l1222,w64 (i968 + 1),A1223,c1224,(ps966++[(⟨A1215,c1216⟩ : GCachedP)])) ⟨hlp,⟨hk1225,hc1224⟩⟩ hn1227 ⟨rfl,rfl,rfl,rfl,trivial⟩ (fun W h=>((h.dropR (t:=100740) rfl).dropH (t:=100050) rfl).phi (fun W hφ=>⟨(q1101 _ (q1217 _ hφ)),(fun W h=>(f1226 W h)) W hφ⟩))
   replace hm:=ite_f hm (of_decide_eq_false h1103)
   refine c_exit<|d_exit_then<|d_exit_then<|d_exit_block ?_
   replace hm:=nx_out (C:=(fun e : (List GCached)=>m_law20_small_j1 p0 x3 x5 e = some r)) hm hnx5 hr5
   exact d_round (l963,A964,c965,ps966) ⟨hm,⟨hc965.1,hc965.2⟩⟩ Nat.zero_lt_one ⟨rfl,rfl,rfl,trivial⟩ (fun W h=>h.phi (fun W hφ=>⟨(q1101 _ hφ),(fun W h=>(f967 W h)) W hφ⟩))
  replace hm:=ite_f hm (of_decide_eq_false h1102)
  refine g_no rfl rfl rfl rfl rfl h1102<|g_v rfl (r_pick0 rfl h1102)<|g_nil<|d_then<|c_cond0 rfl rfl<|c_exit<|d_exit_then<|d_exit_then<|d_exit_block ?_
  replace hm:=nx_out (C:=(fun e : (List GCached)=>m_law20_small_j1 p0 x3 x5 e = some r)) hm hnx5 hr5
  exact d_round (l963,A964,c965,ps966) ⟨hm,⟨hc965.1,hc965.2⟩⟩ Nat.zero_lt_one ⟨rfl,rfl,rfl,trivial⟩ (fun W h=>h.phi (fun W hφ=>⟨(q1101 _ hφ),(fun W h=>(f967 W h)) W hφ⟩))
 unfold m_law20_small_j1 at hm
 refine d_abs (fun φ672 q672'=>?_)
 have q672 : ∀ W,φ672 W→φ W:=fun W h=>(q672' W h).1
 have f671:=fun (W : World) (h : φ672 W)=>(q672' W h).2
 refine d_flat [(1,.pointer (some ⟨g1,0,none⟩)),(2,.pointer (some ⟨g2,0,none⟩)),(3,.slice A668 l667.length c669)] ⟨rfl,rfl,rfl,trivial⟩ (fun u=>?_)
 refine d_sta ⟨w0,M,(100020,g2,.cells #[.int .i64 0,.int .i64 0,.int .i64 0,.string (⟨#[]⟩ : ByteArray),.int .u16 0,.int .u16 0,.bool false,.slice none 0 0,.int .i64 0,.int .i64 0,.int .i64 0,.int .i64 0,.int .i64 0,.int .i64 0,.int .i64 0,.bool false,.slice none 0 0,.slice none 0 0,.string (⟨#[]⟩ : ByteArray),.string (⟨#[]⟩ : ByteArray)] 31 (0,0))::(100010,g1,.cells #[.int .i64 p0.fKind,.int .i64 p0.fSerial,.int .i64 p0.fEpoch,.string x3,.int .u16 p0.fQuestion.fType,.int .u16 p0.fQuestion.fClass,.bool p0.fGood,.slice Ap0_0 p0.fEntries.length cp0_0,.int .i64 p0.fNote.fKind,.int .i64 p0.fNote.fFrom,.int .i64 p0.fNote.fTo,.int .i64 p0.fNote.fTerm,.int .i64 p0.fNote.fIndex,.int .i64 p0.fNote.fLogTerm,.int .i64 p0.fNote.fCommit,.bool p0.fNote.fGood,.slice Ap0_1 p0.fNote.fEntries.length cp0_1,.slice Ap0_2 p0.fNote.fVoters.length cp0_2,.string p0.fNote.fSnap,.string x5] 31 (0,0))::H,(22,⟨.slice A668 l667.length c669,41,9,l667.length,(l667.zip ps670).flatMap GCached.encP⟩)::R,φ672⟩ (fun _ h=>h)<|d_then<|c_seq<|c_region<|g_v rfl r_move<|g_v rfl (r_field (n:=7) Try.underlying31 rfl Try.sizeOf25 rfl rfl)<|g_storeL (tag:=100010) rfl rfl rfl rfl Try.sizeOf25 rfl rfl<|g_nil<|d_then<|c_seq ?_
 refine c_region<|g_v rfl r_assign<|g_nil<|d_then<|c_seq<|c_sta _ (fun W h=>nilR h 31 56 3) ?_
 refine c_cut (ι:=(List GEntry)×Option Addr×Nat) [1,2,9] (fun ⟨l761,A762,c763⟩=>[(9,.slice A762 l761.length c763)]) (fun ⟨l761,A762,c763⟩=>⟨w0,M,(100020,g2,.cells #[.int .i64 0,.int .i64 0,.int .i64 0,.string (⟨#[]⟩ : ByteArray),.int .u16 0,.int .u16 0,.bool false,.slice none 0 0,.int .i64 0,.int .i64 0,.int .i64 0,.int .i64 0,.int .i64 0,.int .i64 0,.int .i64 0,.bool false,.slice none 0 0,.slice none 0 0,.string (⟨#[]⟩ : ByteArray),.string (⟨#[]⟩ : ByteArray)] 31 (0,0))::(100010,g1,.cells #[.int .i64 p0.fKind,.int .i64 p0.fSerial,.int .i64 p0.fEpoch,.string x3,.int .u16 p0.fQuestion.fType,.int .u16 p0.fQuestion.fClass,.bool p0.fGood,.slice A668 l667.length c669,.int .i64 p0.fNote.fKind,.int .i64 p0.fNote.fFrom,.int .i64 p0.fNote.fTo,.int .i64 p0.fNote.fTerm,.int .i64 p0.fNote.fIndex,.int .i64 p0.fNote.fLogTerm,.int .i64 p0.fNote.fCommit,.bool p0.fNote.fGood,.slice Ap0_1 p0.fNote.fEntries.length cp0_1,.slice Ap0_2 p0.fNote.fVoters.length cp0_2,.string p0.fNote.fSnap,.string x5] 31 (0,0))::H,(31,⟨.slice A762 l761.length c763,56,3,l761.length,l761.flatMap GEntry.enc⟩)::(22,⟨.slice A668 l667.length c669,41,9,l667.length,(l667.zip ps670).flatMap GCached.encP⟩)::R,φ672⟩) (fun ⟨l761,A762,c763⟩=>m_law20_small_j2 p0 x3 l667 x5 l761 = some r∧l761.length ≤ c763) ?_ (fun ⟨l761,A762,c763⟩ u ⟨hm,hc763⟩=>?_)
 ·
  refine c_seq<|c_region<|g_v rfl r_assign<|g_nil<|d_then<|c_block ?_
  replace hm:=bnd hm
  obtain ⟨out4,hl4,hr4⟩:=hm
  obtain ⟨n818',hl4⟩:=loop_lp hl4
  refine c_loopU (ι:=Nat×(List GEntry)×Int×Option Addr×Nat) [1,2,9,10] (fun ⟨n818,l797,i800,A798,c799⟩=>[(9,.slice A798 l797.length c799),(10,.int .i64 i800)]) (fun ⟨n818,l797,i800,A798,c799⟩=>⟨w0,M,(100020,g2,.cells #[.int .i64 0,.int .i64 0,.int .i64 0,.string (⟨#[]⟩ : ByteArray),.int .u16 0,.int .u16 0,.bool false,.slice none 0 0,.int .i64 0,.int .i64 0,.int .i64 0,.int .i64 0,.int .i64 0,.int .i64 0,.int .i64 0,.bool false,.slice none 0 0,.slice none 0 0,.string (⟨#[]⟩ : ByteArray),.string (⟨#[]⟩ : ByteArray)] 31 (0,0))::(100010,g1,.cells #[.int .i64 p0.fKind,.int .i64 p0.fSerial,.int .i64 p0.fEpoch,.string x3,.int .u16 p0.fQuestion.fType,.int .u16 p0.fQuestion.fClass,.bool p0.fGood,.slice A668 l667.length c669,.int .i64 p0.fNote.fKind,.int .i64 p0.fNote.fFrom,.int .i64 p0.fNote.fTo,.int .i64 p0.fNote.fTerm,.int .i64 p0.fNote.fIndex,.int .i64 p0.fNote.fLogTerm,.int .i64 p0.fNote.fCommit,.bool p0.fNote.fGood,.slice Ap0_1 p0.fNote.fEntries.length cp0_1,.slice Ap0_2 p0.fNote.fVoters.length cp0_2,.string p0.fNote.fSnap,.string x5] 31 (0,0))::H,(31,⟨.slice A798 l797.length c799,56,3,l797.length,l797.flatMap GEntry.enc⟩)::(22,⟨.slice A668 l667.length c669,41,9,l667.length,(l667.zip ps670).flatMap GCached.encP⟩)::R,φ672⟩) (fun ⟨n818,l797,i800,A798,c799⟩=>Lp (fun s=>m_law20_small_s4 p0 s.1 s.2) n818 (l797,i800) out4∧l797.length ≤ c799) (fun ⟨n818,l797,i800,A798,c799⟩=>n818) (n818',([] : List GEntry),0,none,0) ⟨hl4,(Nat.le_refl 0)⟩ ⟨rfl,rfl,rfl,rfl,trivial⟩ (fun W h=>h.phi (fun W hφ=>hφ)) (fun ⟨n818,l797,i800,A798,c799⟩ u ⟨hlp,hc799⟩=>?_)
  obtain ⟨o4,hm,hnx4⟩:=lp_step hlp
  clear hlp
  replace hm : m_law20_small_s4 p0 l797 i800 = some o4:=hm
  unfold m_law20_small_s4 at hm
  refine c_flat [(1,.pointer (some ⟨g1,0,none⟩)),(2,.pointer (some ⟨g2,0,none⟩)),(9,.slice A798 l797.length c799),(10,.int .i64 i800)] ⟨rfl,rfl,rfl,rfl,trivial⟩ (fun u=>?_)
  refine c_sta ⟨w0,M,(100020,g2,.cells #[.int .i64 0,.int .i64 0,.int .i64 0,.string (⟨#[]⟩ : ByteArray),.int .u16 0,.int .u16 0,.bool false,.slice none 0 0,.int .i64 0,.int .i64 0,.int .i64 0,.int .i64 0,.int .i64 0,.int .i64 0,.int .i64 0,.bool false,.slice none 0 0,.slice none 0 0,.string (⟨#[]⟩ : ByteArray),.string (⟨#[]⟩ : ByteArray)] 31 (0,0))::(100010,g1,.cells #[.int .i64 p0.fKind,.int .i64 p0.fSerial,.int .i64 p0.fEpoch,.string x3,.int .u16 p0.fQuestion.fType,.int .u16 p0.fQuestion.fClass,.bool p0.fGood,.slice A668 l667.length c669,.int .i64 p0.fNote.fKind,.int .i64 p0.fNote.fFrom,.int .i64 p0.fNote.fTo,.int .i64 p0.fNote.fTerm,.int .i64 p0.fNote.fIndex,.int .i64 p0.fNote.fLogTerm,.int .i64 p0.fNote.fCommit,.bool p0.fNote.fGood,.slice Ap0_1 p0.fNote.fEntries.length cp0_1,.slice Ap0_2 p0.fNote.fVoters.length cp0_2,.string p0.fNote.fSnap,.string x5] 31 (0,0))::H,(31,⟨.slice A798 l797.length c799,56,3,l797.length,l797.flatMap GEntry.enc⟩)::(22,⟨.slice A668 l667.length c669,41,9,l667.length,(l667.zip ps670).flatMap GCached.encP⟩)::R,φ672⟩ (fun _ h=>h)<|c_seq<|c_seq<|c_region<|g_v rfl r_move<|g_v rfl (r_field (n:=8) Try.underlying31 rfl Try.sizeOf29 rfl rfl)<|g_v rfl (r_field (n:=16) Try.underlying29 rfl Try.sizeOf26 rfl rfl)<|g_v rfl (r_load (tag:=100010) rfl rfl rfl Try.isAgg26)<|g_v rfl (r_lenL Try.underlying26 rfl)<|g_v rfl (r_lss rfl rfl) ?_
  refine g_v rfl r_move ?_
  refine g_if rfl rfl rfl rfl rfl (fun h819=>?_) (fun h819=>?_)
  ·
   replace hm:=ite_t hm (of_decide_eq_true h819)
   refine g_v rfl r_move<|g_do rfl rfl rfl rfl rfl h819<|g_v rfl (r_lss rfl rfl)<|g_v rfl (r_pick1 rfl h819)<|g_nil<|d_then ?_
   refine c_flat [(1,.pointer (some ⟨g1,0,none⟩)),(2,.pointer (some ⟨g2,0,none⟩)),(9,.slice A798 l797.length c799),(10,.int .i64 i800),(87,.bool (decide (i800 < 20)))] ⟨rfl,rfl,rfl,rfl,rfl,trivial⟩ (fun u=>?_)
   refine c_cond rfl (fun h820=>?_) (fun h820=>?_)
   ·
    replace hm:=ite_t hm (of_decide_eq_true h820)
    refine c_skip<|d_then<|c_seq<|c_block<|c_seq<|c_region<|g_v rfl (r_field (n:=8) Try.underlying31 rfl Try.sizeOf29 rfl rfl)<|g_v rfl (r_field (n:=16) Try.underlying29 rfl Try.sizeOf26 rfl rfl)<|g_v rfl (r_load (tag:=100010) rfl rfl rfl Try.isAgg26)<|g_v rfl r_move ?_
    replace hm:=bnd hm
    obtain ⟨x821,hx821,hm⟩:=hm
    refine g_know _ (fun W hS=>cl_at (p:=(Sta.mk w0 M H R φ).ok) (sz:=3) (fun _=>rfl) (by decide) (ok_pre (H1:=[_,_]) (R1:=[_,_]) hS (fun W h=>(q672 _ h))) fp0_1 hx821) ?_
    rintro ⟨ad822,hA824,f823⟩
    refine g_v rfl (r_ix Try.underlying26 Try.sizeOf56 rfl hA824 rfl hx821)<|g_v rfl (r_ldA rfl Try.isAgg56 Try.sizeOf56 (fun W hS=>(f823 W (ok_pre (H1:=[_,_]) (R1:=[_,_]) hS (fun W h=>(q672 _ h)))).take 3) rfl) ?_
    refine g_e rfl (e_alloc 100110 Try.zeroValue56) (fun g825 _=>?_)
    refine g_storeL (tag:=100110) rfl rfl rfl rfl Try.sizeOf56 rfl rfl<|g_nil<|d_then<|c_seq<|c_region<|g_v rfl (r_field (n:=2) Try.underlying56 rfl Try.sizeOf9 rfl rfl)<|g_v rfl (r_load (tag:=100110) rfl rfl rfl Try.isAgg9) ?_
    replace hm:=bnd hm
    obtain ⟨x826,hx827,hm⟩:=hm
    refine g_cn ⟨w0,M,_,_,φ672⟩ (fun _ h=>h) Try.call16 rfl rfl (c_law20_short x821.fData 100 _ hx827) (fun _ _=>?_)
    refine g_v rfl (r_field (n:=2) Try.underlying56 rfl Try.sizeOf9 rfl rfl)<|g_storeL (tag:=100110) rfl rfl rfl rfl Try.sizeOf9 rfl rfl<|g_nil<|d_then ?_
    refine c_flat [(1,.pointer (some ⟨g1,0,none⟩)),(2,.pointer (some ⟨g2,0,none⟩)),(9,.slice A798 l797.length c799),(10,.int .i64 i800),(11,.pointer (some ⟨g825,0,none⟩))] ⟨rfl,rfl,rfl,rfl,rfl,trivial⟩ (fun u=>?_)
    refine c_sta ⟨w0,M,(100110,g825,.cells #[.int .i64 x821.fTerm,.int .i64 x821.fKind,.string x826] 56 (0,0))::(100020,g2,.cells #[.int .i64 0,.int .i64 0,.int .i64 0,.string (⟨#[]⟩ : ByteArray),.int .u16 0,.int .u16 0,.bool false,.slice none 0 0,.int .i64 0,.int .i64 0,.int .i64 0,.int .i64 0,.int .i64 0,.int .i64 0,.int .i64 0,.bool false,.slice none 0 0,.slice none 0 0,.string (⟨#[]⟩ : ByteArray),.string (⟨#[]⟩ : ByteArray)] 31 (0,0))::(100010,g1,.cells #[.int .i64 p0.fKind,.int .i64 p0.fSerial,.int .i64 p0.fEpoch,.string x3,.int .u16 p0.fQuestion.fType,.int .u16 p0.fQuestion.fClass,.bool p0.fGood,.slice A668 l667.length c669,.int .i64 p0.fNote.fKind,.int .i64 p0.fNote.fFrom,.int .i64 p0.fNote.fTo,.int .i64 p0.fNote.fTerm,.int .i64 p0.fNote.fIndex,.int .i64 p0.fNote.fLogTerm,.int .i64 p0.fNote.fCommit,.bool p0.fNote.fGood,.slice Ap0_1 p0.fNote.fEntries.length cp0_1,.slice Ap0_2 p0.fNote.fVoters.length cp0_2,.string p0.fNote.fSnap,.string x5] 31 (0,0))::H,(31,⟨.slice A798 l797.length c799,56,3,l797.length,l797.flatMap GEntry.enc⟩)::(22,⟨.slice A668 l667.length c669,41,9,l667.length,(l667.zip ps670).flatMap GCached.encP⟩)::R,φ672⟩ (fun _ h=>h)<|c_region<|g_v rfl r_move<|g_v rfl (r_loadA (tag:=100110) rfl rfl Try.isAgg56 Try.sizeOf56 rfl rfl) ?_
    refine g_e rfl (e_lit (tag:=101020) (l:=[(⟨x821.fTerm,x821.fKind,x826⟩ : GEntry)]) (enc:=GEntry.enc) (sz:=3) rfl Try.underlying26 (lit56_32 _ _ _) rfl rfl (fun _=>rfl)) (fun g828 _=>?_)
    replace hm:=bnd hm
    obtain ⟨l829,hl829,hm⟩:=hm
    refine g_e rfl (e_appR (enc:=GEntry.enc) (l:=l797) (l1:=[(⟨x821.fTerm,x821.fKind,x826⟩ : GEntry)]) (l2:=l829) (tag:=31) Try.underlying26 inf56_33 rfl (by decide) (by decide) (fun _=>rfl) (fun _=>rfl) rfl hc799 rfl rfl (fun W hS=>rowCl (tag:=101020) rfl W hS) hl829) (fun ⟨A830,c831⟩ hc831=>?_)
    refine g_v rfl r_assign<|g_nil<|d_normal_block<|d_then<|c_region<|g_v rfl r_move<|g_v rfl (r_add rfl rfl rfl)<|g_v rfl r_assign<|g_nil ?_
    obtain ⟨n832,hn832,hlp⟩:=nx_inl hm hnx4
    exact d_round (n832,l829,w64 (i800 + 1),A830,c831) ⟨hlp,hc831⟩ hn832 ⟨rfl,rfl,rfl,rfl,trivial⟩ (fun W h=>((h.dropR (t:=101020) rfl).dropH (t:=100110) rfl).phi (fun W hφ=>hφ))
   replace hm:=ite_f hm (of_decide_eq_false h820)
   refine c_exit<|d_exit_then<|d_exit_then<|d_exit_block ?_
   replace hm:=nx_out (C:=(fun e : (List GEntry)=>m_law20_small_j2 p0 x3 l667 x5 e = some r)) hm hnx4 hr4
   exact d_round (l797,A798,c799) ⟨hm,hc799⟩ Nat.zero_lt_one ⟨rfl,rfl,rfl,trivial⟩ (fun W h=>h.phi (fun W hφ=>hφ))
  replace hm:=ite_f hm (of_decide_eq_false h819)
  refine g_no rfl rfl rfl rfl rfl h819<|g_v rfl (r_pick0 rfl h819)<|g_nil<|d_then<|c_cond0 rfl rfl<|c_exit<|d_exit_then<|d_exit_then<|d_exit_block ?_
  replace hm:=nx_out (C:=(fun e : (List GEntry)=>m_law20_small_j2 p0 x3 l667 x5 e = some r)) hm hnx4 hr4
  exact d_round (l797,A798,c799) ⟨hm,hc799⟩ Nat.zero_lt_one ⟨rfl,rfl,rfl,trivial⟩ (fun W h=>h.phi (fun W hφ=>hφ))
 unfold m_law20_small_j2 at hm
 refine d_flat [(1,.pointer (some ⟨g1,0,none⟩)),(2,.pointer (some ⟨g2,0,none⟩)),(9,.slice A762 l761.length c763)] ⟨rfl,rfl,rfl,trivial⟩ (fun u=>?_)
 refine d_sta ⟨w0,M,(100020,g2,.cells #[.int .i64 0,.int .i64 0,.int .i64 0,.string (⟨#[]⟩ : ByteArray),.int .u16 0,.int .u16 0,.bool false,.slice none 0 0,.int .i64 0,.int .i64 0,.int .i64 0,.int .i64 0,.int .i64 0,.int .i64 0,.int .i64 0,.bool false,.slice none 0 0,.slice none 0 0,.string (⟨#[]⟩ : ByteArray),.string (⟨#[]⟩ : ByteArray)] 31 (0,0))::(100010,g1,.cells #[.int .i64 p0.fKind,.int .i64 p0.fSerial,.int .i64 p0.fEpoch,.string x3,.int .u16 p0.fQuestion.fType,.int .u16 p0.fQuestion.fClass,.bool p0.fGood,.slice A668 l667.length c669,.int .i64 p0.fNote.fKind,.int .i64 p0.fNote.fFrom,.int .i64 p0.fNote.fTo,.int .i64 p0.fNote.fTerm,.int .i64 p0.fNote.fIndex,.int .i64 p0.fNote.fLogTerm,.int .i64 p0.fNote.fCommit,.bool p0.fNote.fGood,.slice Ap0_1 p0.fNote.fEntries.length cp0_1,.slice Ap0_2 p0.fNote.fVoters.length cp0_2,.string p0.fNote.fSnap,.string x5] 31 (0,0))::H,(31,⟨.slice A762 l761.length c763,56,3,l761.length,l761.flatMap GEntry.enc⟩)::(22,⟨.slice A668 l667.length c669,41,9,l667.length,(l667.zip ps670).flatMap GCached.encP⟩)::R,φ672⟩ (fun _ h=>h)<|d_then<|c_seq<|c_region<|g_v rfl r_move<|g_v rfl (r_field (n:=8) Try.underlying31 rfl Try.sizeOf29 rfl rfl)<|g_v rfl (r_field (n:=16) Try.underlying29 rfl Try.sizeOf26 rfl rfl)<|g_storeL (tag:=100010) rfl rfl rfl rfl Try.sizeOf26 rfl rfl<|g_nil<|d_then ?_
 refine c_seq ?_
 refine c_cut (ι:=(List Int)×Option Addr×Nat) [1,2] (fun ⟨l767,A768,c769⟩=>[]) (fun ⟨l767,A768,c769⟩=>⟨w0,M,(100020,g2,.cells #[.int .i64 0,.int .i64 0,.int .i64 0,.string (⟨#[]⟩ : ByteArray),.int .u16 0,.int .u16 0,.bool false,.slice none 0 0,.int .i64 0,.int .i64 0,.int .i64 0,.int .i64 0,.int .i64 0,.int .i64 0,.int .i64 0,.bool false,.slice none 0 0,.slice none 0 0,.string (⟨#[]⟩ : ByteArray),.string (⟨#[]⟩ : ByteArray)] 31 (0,0))::(100010,g1,.cells #[.int .i64 p0.fKind,.int .i64 p0.fSerial,.int .i64 p0.fEpoch,.string x3,.int .u16 p0.fQuestion.fType,.int .u16 p0.fQuestion.fClass,.bool p0.fGood,.slice A668 l667.length c669,.int .i64 p0.fNote.fKind,.int .i64 p0.fNote.fFrom,.int .i64 p0.fNote.fTo,.int .i64 p0.fNote.fTerm,.int .i64 p0.fNote.fIndex,.int .i64 p0.fNote.fLogTerm,.int .i64 p0.fNote.fCommit,.bool p0.fNote.fGood,.slice A762 l761.length c763,.slice A768 l767.length c769,.string p0.fNote.fSnap,.string x5] 31 (0,0))::H,(31,⟨.slice A762 l761.length c763,56,3,l761.length,l761.flatMap GEntry.enc⟩)::(22,⟨.slice A668 l667.length c669,41,9,l667.length,(l667.zip ps670).flatMap GCached.encP⟩)::R,fun W=>φ672 W∧Cl W A768 (l767.flatMap (fun x : Int=>[Value.int .i64 x]))⟩) (fun ⟨l767,A768,c769⟩=>m_law20_small_j3 p0 x3 l667 l761 x5 l767 = some r∧l767.length ≤ c769) ?_ (fun ⟨l767,A768,c769⟩ u ⟨hm,hc769⟩=>?_)
 ·
  refine c_seq<|c_region<|g_v rfl (r_field (n:=8) Try.underlying31 rfl Try.sizeOf29 rfl rfl)<|g_v rfl (r_field (n:=17) Try.underlying29 rfl Try.sizeOf27 rfl rfl)<|g_v rfl (r_load (tag:=100010) rfl rfl rfl Try.isAgg27)<|g_v rfl (r_lenL Try.underlying27 rfl)<|g_v rfl (r_gtr rfl rfl)<|g_nil<|d_then ?_
  refine c_flat [(1,.pointer (some ⟨g1,0,none⟩)),(2,.pointer (some ⟨g2,0,none⟩)),(111,.bool (decide (70 < (p0.fNote.fVoters.length : Int))))] ⟨rfl,rfl,rfl,trivial⟩ (fun u=>?_)
  refine c_sta ⟨w0,M,(100020,g2,.cells #[.int .i64 0,.int .i64 0,.int .i64 0,.string (⟨#[]⟩ : ByteArray),.int .u16 0,.int .u16 0,.bool false,.slice none 0 0,.int .i64 0,.int .i64 0,.int .i64 0,.int .i64 0,.int .i64 0,.int .i64 0,.int .i64 0,.bool false,.slice none 0 0,.slice none 0 0,.string (⟨#[]⟩ : ByteArray),.string (⟨#[]⟩ : ByteArray)] 31 (0,0))::(100010,g1,.cells #[.int .i64 p0.fKind,.int .i64 p0.fSerial,.int .i64 p0.fEpoch,.string x3,.int .u16 p0.fQuestion.fType,.int .u16 p0.fQuestion.fClass,.bool p0.fGood,.slice A668 l667.length c669,.int .i64 p0.fNote.fKind,.int .i64 p0.fNote.fFrom,.int .i64 p0.fNote.fTo,.int .i64 p0.fNote.fTerm,.int .i64 p0.fNote.fIndex,.int .i64 p0.fNote.fLogTerm,.int .i64 p0.fNote.fCommit,.bool p0.fNote.fGood,.slice A762 l761.length c763,.slice Ap0_2 p0.fNote.fVoters.length cp0_2,.string p0.fNote.fSnap,.string x5] 31 (0,0))::H,(31,⟨.slice A762 l761.length c763,56,3,l761.length,l761.flatMap GEntry.enc⟩)::(22,⟨.slice A668 l667.length c669,41,9,l667.length,(l667.zip ps670).flatMap GCached.encP⟩)::R,φ672⟩ (fun _ h=>h) ?_
  refine c_cond rfl (fun h778=>?_) (fun h778=>?_)
  ·
   replace hm:=ite_t hm (of_decide_eq_true h778)
   refine c_region<|g_v rfl (r_field (n:=8) Try.underlying31 rfl Try.sizeOf29 rfl rfl)<|g_v rfl (r_field (n:=17) Try.underlying29 rfl Try.sizeOf27 rfl rfl)<|g_v rfl (r_load (tag:=100010) rfl rfl rfl Try.isAgg27) ?_
   replace hm:=bnd hm
   obtain ⟨l780,hl780,hm⟩:=hm
   have f779:=fun (W : World) (h : φ W)=>cl_cutHi (enc:=(fun x : Int=>[Value.int .i64 x])) (sz:=1) (fun _=>rfl) hl780 (fp0_2 W h)
   refine g_v rfl (r_lcutHi Try.underlying27 Try.sizeOf3 rfl hcp0_2 rfl hl780)<|g_v rfl (r_field (n:=8) Try.underlying31 rfl Try.sizeOf29 rfl rfl)<|g_v rfl (r_field (n:=17) Try.underlying29 rfl Try.sizeOf27 rfl rfl)<|g_storeL (tag:=100010) rfl rfl rfl rfl Try.sizeOf27 rfl rfl<|g_nil ?_
   exact d_round (l780,Ap0_2,cp0_2) ⟨hm,(cutHi_len hcp0_2 hl780)⟩ Nat.zero_lt_one ⟨rfl,rfl,trivial⟩ (fun W h=>h.phi (fun W hφ=>⟨hφ,(fun W h=>f779 W (q672 _ h)) W hφ⟩))
  replace hm:=ite_f hm (of_decide_eq_false h778)
  refine c_skip ?_
  exact d_round (p0.fNote.fVoters,Ap0_2,cp0_2) ⟨hm,hcp0_2⟩ Nat.zero_lt_one ⟨rfl,rfl,trivial⟩ (fun W h=>h.phi (fun W hφ=>⟨hφ,(fun W h=>fp0_2 W (q672 _ h)) W hφ⟩))
 unfold m_law20_small_j3 at hm
 refine d_abs (fun φ771 q771'=>?_)
 have q771 : ∀ W,φ771 W→φ672 W:=fun W h=>(q771' W h).1
 have f770:=fun (W : World) (h : φ771 W)=>(q771' W h).2
 refine d_flat [(1,.pointer (some ⟨g1,0,none⟩)),(2,.pointer (some ⟨g2,0,none⟩))] ⟨rfl,rfl,trivial⟩ (fun u=>?_)
 refine d_sta ⟨w0,M,(100020,g2,.cells #[.int .i64 0,.int .i64 0,.int .i64 0,.string (⟨#[]⟩ : ByteArray),.int .u16 0,.int .u16 0,.bool false,.slice none 0 0,.int .i64 0,.int .i64 0,.int .i64 0,.int .i64 0,.int .i64 0,.int .i64 0,.int .i64 0,.bool false,.slice none 0 0,.slice none 0 0,.string (⟨#[]⟩ : ByteArray),.string (⟨#[]⟩ : ByteArray)] 31 (0,0))::(100010,g1,.cells #[.int .i64 p0.fKind,.int .i64 p0.fSerial,.int .i64 p0.fEpoch,.string x3,.int .u16 p0.fQuestion.fType,.int .u16 p0.fQuestion.fClass,.bool p0.fGood,.slice A668 l667.length c669,.int .i64 p0.fNote.fKind,.int .i64 p0.fNote.fFrom,.int .i64 p0.fNote.fTo,.int .i64 p0.fNote.fTerm,.int .i64 p0.fNote.fIndex,.int .i64 p0.fNote.fLogTerm,.int .i64 p0.fNote.fCommit,.bool p0.fNote.fGood,.slice A762 l761.length c763,.slice A768 l767.length c769,.string p0.fNote.fSnap,.string x5] 31 (0,0))::H,(31,⟨.slice A762 l761.length c763,56,3,l761.length,l761.flatMap GEntry.enc⟩)::(22,⟨.slice A668 l667.length c669,41,9,l667.length,(l667.zip ps670).flatMap GCached.encP⟩)::R,φ771⟩ (fun _ h=>h)<|d_then<|c_seq<|c_region<|g_v rfl (r_field (n:=8) Try.underlying31 rfl Try.sizeOf29 rfl rfl)<|g_v rfl (r_field (n:=18) Try.underlying29 rfl Try.sizeOf9 rfl rfl)<|g_v rfl (r_load (tag:=100010) rfl rfl rfl Try.isAgg9) ?_
 replace hm:=bnd hm
 obtain ⟨x772,hx773,hm⟩:=hm
 refine g_cn ⟨w0,M,_,_,φ771⟩ (fun _ h=>h) Try.call16 rfl rfl (c_law20_short p0.fNote.fSnap 1000 _ hx773) (fun _ _=>?_)
 refine g_v rfl (r_field (n:=8) Try.underlying31 rfl Try.sizeOf29 rfl rfl)<|g_v rfl (r_field (n:=18) Try.underlying29 rfl Try.sizeOf9 rfl rfl)<|g_storeL (tag:=100010) rfl rfl rfl rfl Try.sizeOf9 rfl rfl<|g_nil<|d_then<|c_seq<|c_region<|g_v rfl (r_loadA (tag:=100010) rfl rfl Try.isAgg31 Try.sizeOf31 rfl rfl)<|g_storeL (tag:=100020) rfl rfl rfl rfl Try.sizeOf31 rfl rfl<|g_nil ?_
 refine d_then ?_
 refine c_flat [(2,.pointer (some ⟨g2,0,none⟩))] ⟨rfl,trivial⟩ (fun u=>?_)
 refine c_sta ⟨w0,M,(100020,g2,.cells #[.int .i64 p0.fKind,.int .i64 p0.fSerial,.int .i64 p0.fEpoch,.string x3,.int .u16 p0.fQuestion.fType,.int .u16 p0.fQuestion.fClass,.bool p0.fGood,.slice A668 l667.length c669,.int .i64 p0.fNote.fKind,.int .i64 p0.fNote.fFrom,.int .i64 p0.fNote.fTo,.int .i64 p0.fNote.fTerm,.int .i64 p0.fNote.fIndex,.int .i64 p0.fNote.fLogTerm,.int .i64 p0.fNote.fCommit,.bool p0.fNote.fGood,.slice A762 l761.length c763,.slice A768 l767.length c769,.string x772,.string x5] 31 (0,0))::(100010,g1,.cells #[.int .i64 p0.fKind,.int .i64 p0.fSerial,.int .i64 p0.fEpoch,.string x3,.int .u16 p0.fQuestion.fType,.int .u16 p0.fQuestion.fClass,.bool p0.fGood,.slice A668 l667.length c669,.int .i64 p0.fNote.fKind,.int .i64 p0.fNote.fFrom,.int .i64 p0.fNote.fTo,.int .i64 p0.fNote.fTerm,.int .i64 p0.fNote.fIndex,.int .i64 p0.fNote.fLogTerm,.int .i64 p0.fNote.fCommit,.bool p0.fNote.fGood,.slice A762 l761.length c763,.slice A768 l767.length c769,.string x772,.string x5] 31 (0,0))::H,(31,⟨.slice A762 l761.length c763,56,3,l761.length,l761.flatMap GEntry.enc⟩)::(22,⟨.slice A668 l667.length c669,41,9,l667.length,(l667.zip ps670).flatMap GCached.encP⟩)::R,φ771⟩ (fun _ h=>h)<|c_ret ?_
 cases hm
 refine d_shut (tag:=22) rfl (fun φ774 q774'=>?_)
 have q774 : ∀ W,φ774 W→φ771 W:=fun W h=>(q774' W h).1
 have f775:=fun (W : World) (h : φ774 W)=>(q774' W h).2
 refine d_shut (tag:=31) rfl (fun φ776 q776'=>?_)
 have q776 : ∀ W,φ776 W→φ774 W:=fun W h=>(q776' W h).1
 have f777:=fun (W : World) (h : φ776 W)=>(q776' W h).2
 exact d_retC (A668,c669,ps670,A762,c763,A768,c769) Try.results8 (res_agg (tag:=100020) rfl rfl Try.isAgg31 Try.sizeOf31 (res_nil rfl)) ⟨⟨hc669.1,hc669.2⟩,hc763,hc769⟩ (fun W h=>ok_pre (H1:=[_,_]) (R1:=[]) h (fun W hφ=>⟨(q672 _ (q771 _ (q774 _ (q776 _ hφ)))),(fun W h=>f775 W (q776 _ h)) W hφ,(fun W h=>(f671 W (q771 _ (q774 _ (q776 _ h))))) W hφ,(fun W h=>f777 W h) W hφ,(fun W h=>f770 W (q774 _ (q776 _ h))) W hφ⟩)) (.inr rfl)
noncomputable def m_ref20_none (p0 : GNote) : Option Bool:=
  if p0.fKind = 0 then
    if p0.fFrom = 0 then
      if p0.fTo = 0 then
        if p0.fTerm = 0 then
          if p0.fIndex = 0 then
            if p0.fLogTerm = 0 then
              if p0.fCommit = 0 then
                if p0.fGood = true then
                  some false
                else
                  if (p0.fEntries.length : Int) = 0 then
                    if (p0.fVoters.length : Int) = 0 then
                      some (decide (p0.fSnap = (⟨#[]⟩ : ByteArray)))
                    else
                      some false
                  else
                    some false
              else
                some false
            else
              some false
          else
            some false
        else
          some false
      else
        some false
    else
      some false
  else
    some false
theorem c_ref20_none {w0 : World} {M : Nat→Prop} {H : List (Nat×Nat×Obj)} {R : List (Nat×Row)} {φ : World→Prop} (p0 : GNote) (Ap0_0 : Option Addr) (cp0_0 : Nat) (hcp0_0 : p0.fEntries.length ≤ cp0_0) (fp0_0 : ∀ W,(Sta.mk w0 M H R φ).ok W→Cl W Ap0_0 (p0.fEntries.flatMap GEntry.enc)) (Ap0_1 : Option Addr) (cp0_1 : Nat) (hcp0_1 : p0.fVoters.length ≤ cp0_1) (fp0_1 : ∀ W,(Sta.mk w0 M H R φ).ok W→Cl W Ap0_1 (p0.fVoters.flatMap (fun x : Int=>[Value.int .i64 x]))) (r : Bool) (hm : m_ref20_none p0 = some r) :
    Cn Try.prog 46 #[.agg #[.int .i64 p0.fKind,.int .i64 p0.fFrom,.int .i64 p0.fTo,.int .i64 p0.fTerm,.int .i64 p0.fIndex,.int .i64 p0.fLogTerm,.int .i64 p0.fCommit,.bool p0.fGood,.slice Ap0_0 p0.fEntries.length cp0_0,.slice Ap0_1 p0.fVoters.length cp0_1,.string p0.fSnap]] ⟨w0,M,H,R,φ⟩ (fun x : Unit=>.bool r) (fun x=>True) (fun x=>⟨w0,M,H,R,φ⟩):=by
 unfold m_ref20_none at hm
 refine cn_intro (fn:=Try.f46) (N:=58) Try.func46 rfl Try.ntmps46 rfl<|c_seq<|c_region ?_
 refine g_e rfl (e_box 100010 rfl) (fun g1 _=>?_)
 refine g_v rfl r_assign<|g_nil<|d_then<|c_seq<|c_region<|g_v rfl (r_field (n:=0) Try.underlying29 rfl Try.sizeOf3 rfl rfl)<|g_v rfl (r_load (tag:=100010) rfl rfl rfl Try.isAgg3)<|g_v rfl (r_eql rfl rfl)<|g_v rfl r_move<|g_sta ⟨w0,M,(100010,g1,.cells #[.int .i64 p0.fKind,.int .i64 p0.fFrom,.int .i64 p0.fTo,.int .i64 p0.fTerm,.int .i64 p0.fIndex,.int .i64 p0.fLogTerm,.int .i64 p0.fCommit,.bool p0.fGood,.slice Ap0_0 p0.fEntries.length cp0_0,.slice Ap0_1 p0.fVoters.length cp0_1,.string p0.fSnap] 29 (0,0))::H,R,φ⟩ (fun _ h=>h) ?_
 refine g_if rfl rfl rfl rfl rfl (fun h2=>?_) (fun h2=>?_)
 ·
  replace hm:=ite_t hm (of_decide_eq_true h2)
  refine g_v rfl (r_field (n:=1) Try.underlying29 rfl Try.sizeOf3 rfl rfl)<|g_do rfl rfl rfl rfl rfl h2<|g_v rfl (r_load (tag:=100010) rfl rfl rfl Try.isAgg3)<|g_do rfl rfl rfl rfl rfl h2<|g_v rfl (r_eql rfl rfl)<|g_v rfl (r_pick1 rfl h2)<|g_v rfl r_move ?_
  refine g_if rfl rfl rfl rfl rfl (fun h3=>?_) (fun h3=>?_)
  ·
   replace hm:=ite_t hm (of_decide_eq_true h3)
   refine g_v rfl (r_field (n:=2) Try.underlying29 rfl Try.sizeOf3 rfl rfl)<|g_do rfl rfl rfl rfl rfl h3<|g_v rfl (r_load (tag:=100010) rfl rfl rfl Try.isAgg3)<|g_do rfl rfl rfl rfl rfl h3<|g_v rfl (r_eql rfl rfl)<|g_v rfl (r_pick1 rfl h3)<|g_v rfl r_move ?_
   refine g_if rfl rfl rfl rfl rfl (fun h4=>?_) (fun h4=>?_)
   ·
    replace hm:=ite_t hm (of_decide_eq_true h4)
    refine g_v rfl (r_field (n:=3) Try.underlying29 rfl Try.sizeOf3 rfl rfl)<|g_do rfl rfl rfl rfl rfl h4<|g_v rfl (r_load (tag:=100010) rfl rfl rfl Try.isAgg3)<|g_do rfl rfl rfl rfl rfl h4<|g_v rfl (r_eql rfl rfl)<|g_v rfl (r_pick1 rfl h4)<|g_v rfl r_move ?_
    refine g_if rfl rfl rfl rfl rfl (fun h5=>?_) (fun h5=>?_)
    ·
     replace hm:=ite_t hm (of_decide_eq_true h5)
     refine g_v rfl (r_field (n:=4) Try.underlying29 rfl Try.sizeOf3 rfl rfl)<|g_do rfl rfl rfl rfl rfl h5<|g_v rfl (r_load (tag:=100010) rfl rfl rfl Try.isAgg3)<|g_do rfl rfl rfl rfl rfl h5<|g_v rfl (r_eql rfl rfl)<|g_v rfl (r_pick1 rfl h5)<|g_v rfl r_move ?_
     refine g_if rfl rfl rfl rfl rfl (fun h6=>?_) (fun h6=>?_)
     ·
      replace hm:=ite_t hm (of_decide_eq_true h6)
      refine g_v rfl (r_field (n:=5) Try.underlying29 rfl Try.sizeOf3 rfl rfl)<|g_do rfl rfl rfl rfl rfl h6<|g_v rfl (r_load (tag:=100010) rfl rfl rfl Try.isAgg3)<|g_do rfl rfl rfl rfl rfl h6<|g_v rfl (r_eql rfl rfl)<|g_v rfl (r_pick1 rfl h6)<|g_v rfl r_move ?_
      refine g_if rfl rfl rfl rfl rfl (fun h7=>?_) (fun h7=>?_)
      ·
       replace hm:=ite_t hm (of_decide_eq_true h7)
       refine g_v rfl (r_field (n:=6) Try.underlying29 rfl Try.sizeOf3 rfl rfl)<|g_do rfl rfl rfl rfl rfl h7<|g_v rfl (r_load (tag:=100010) rfl rfl rfl Try.isAgg3)<|g_do rfl rfl rfl rfl rfl h7<|g_v rfl (r_eql rfl rfl)<|g_v rfl (r_pick1 rfl h7)<|g_v rfl r_move ?_
       refine g_if rfl rfl rfl rfl rfl (fun h8=>?_) (fun h8=>?_)
       ·
        replace hm:=ite_t hm (of_decide_eq_true h8)
        refine g_v rfl (r_field (n:=7) Try.underlying29 rfl Try.sizeOf4 rfl rfl)<|g_do rfl rfl rfl rfl rfl h8<|g_v rfl (r_load (tag:=100010) rfl rfl rfl Try.isAgg4)<|g_do rfl rfl rfl rfl rfl h8<|g_v rfl (r_not rfl)<|g_v rfl (r_pick1 rfl h8)<|g_v rfl r_move ?_
        refine g_if rfl rfl rfl rfl rfl (fun h9=>?_) (fun h9=>?_)
        ·
         have h9' : p0.fGood = false:=by revert h9; cases p0.fGood <;> simp
         replace hm:=ite_f hm (bool_nt h9')
         refine g_v rfl (r_field (n:=8) Try.underlying29 rfl Try.sizeOf26 rfl rfl)<|g_do rfl rfl rfl rfl rfl h9<|g_v rfl (r_load (tag:=100010) rfl rfl rfl Try.isAgg26)<|g_do rfl rfl rfl rfl rfl h9<|g_v rfl (r_lenL Try.underlying26 rfl)<|g_do rfl rfl rfl rfl rfl h9<|g_v rfl (r_eql rfl rfl)<|g_v rfl (r_pick1 rfl h9)<|g_v rfl r_move ?_
         refine g_if rfl rfl rfl rfl rfl (fun h10=>?_) (fun h10=>?_)
         ·
          replace hm:=ite_t hm (of_decide_eq_true h10)
          refine g_v rfl (r_field (n:=9) Try.underlying29 rfl Try.sizeOf27 rfl rfl)<|g_do rfl rfl rfl rfl rfl h10<|g_v rfl (r_load (tag:=100010) rfl rfl rfl Try.isAgg27)<|g_do rfl rfl rfl rfl rfl h10<|g_v rfl (r_lenL Try.underlying27 rfl)<|g_do rfl rfl rfl rfl rfl h10<|g_v rfl (r_eql rfl rfl)<|g_v rfl (r_pick1 rfl h10)<|g_v rfl r_move ?_
          refine g_if rfl rfl rfl rfl rfl (fun h11=>?_) (fun h11=>?_)
          ·
           replace hm:=ite_t hm (of_decide_eq_true h11)
           refine g_v rfl (r_field (n:=10) Try.underlying29 rfl Try.sizeOf9 rfl rfl)<|g_do rfl rfl rfl rfl rfl h11<|g_v rfl (r_load (tag:=100010) rfl rfl rfl Try.isAgg9)<|g_do rfl rfl rfl rfl rfl h11<|g_v rfl (r_eqlT rfl rfl)<|g_v rfl (r_pick1 rfl h11)<|g_v rfl r_assign<|g_nil<|d_then ?_
           refine c_flat [(2,.bool (decide (p0.fSnap = (⟨#[]⟩ : ByteArray))))] ⟨rfl,trivial⟩ (fun u=>?_)
           refine c_ret ?_
           cases hm
           exact d_retC () Try.results46 (res_tmp (res_nil rfl)) trivial (fun W h=>ok_pre (H1:=[_]) (R1:=[]) h (fun W hφ=>hφ)) (.inr rfl)
          replace hm:=ite_f hm (of_decide_eq_false h11)
          refine g_no rfl rfl rfl rfl rfl h11<|g_no rfl rfl rfl rfl rfl h11<|g_v rfl (r_pick0 rfl h11)<|g_v rfl r_assign<|g_nil<|d_then ?_
          refine c_flat [(2,.bool false)] ⟨rfl,trivial⟩ (fun u=>?_)
          refine c_ret ?_
          cases hm
          exact d_retC () Try.results46 (res_tmp (res_nil rfl)) trivial (fun W h=>ok_pre (H1:=[_]) (R1:=[]) h (fun W hφ=>hφ)) (.inr rfl)
         replace hm:=ite_f hm (of_decide_eq_false h10)
         iterate 3 refine g_no rfl rfl rfl rfl rfl h10 ?_
         refine g_v rfl (r_pick0 rfl h10)<|g_v rfl r_move ?_
         iterate 3 refine g_no rfl rfl rfl rfl rfl rfl ?_
         refine g_v rfl (r_pick0 rfl rfl)<|g_v rfl r_assign<|g_nil<|d_then ?_
         refine c_flat [(2,.bool false)] ⟨rfl,trivial⟩ (fun u=>?_)
         refine c_ret ?_
         cases hm
         exact d_retC () Try.results46 (res_tmp (res_nil rfl)) trivial (fun W h=>ok_pre (H1:=[_]) (R1:=[]) h (fun W hφ=>hφ)) (.inr rfl)
        have h9' : p0.fGood = true:=by revert h9; cases p0.fGood <;> simp
        replace hm:=ite_t hm h9'
        iterate 3 refine g_no rfl rfl rfl rfl rfl h9 ?_
        refine g_v rfl (r_pick0 rfl h9)<|g_v rfl r_move ?_
        iterate 4 refine g_no rfl rfl rfl rfl rfl rfl ?_
        refine g_v rfl (r_pick0 rfl rfl)<|g_v rfl r_move ?_
        iterate 3 refine g_no rfl rfl rfl rfl rfl rfl ?_
        refine g_v rfl (r_pick0 rfl rfl)<|g_v rfl r_assign<|g_nil<|d_then ?_
        refine c_flat [(2,.bool false)] ⟨rfl,trivial⟩ (fun u=>?_)
        refine c_ret ?_
        cases hm
        exact d_retC () Try.results46 (res_tmp (res_nil rfl)) trivial (fun W h=>ok_pre (H1:=[_]) (R1:=[]) h (fun W hφ=>hφ)) (.inr rfl)
       replace hm:=ite_f hm (of_decide_eq_false h8)
       refine g_no rfl rfl rfl rfl rfl h8<|g_no rfl rfl rfl rfl rfl h8<|g_v rfl (r_pick0 rfl h8)<|g_v rfl r_move ?_
       iterate 4 refine g_no rfl rfl rfl rfl rfl rfl ?_
       refine g_v rfl (r_pick0 rfl rfl)<|g_v rfl r_move ?_
       iterate 4 refine g_no rfl rfl rfl rfl rfl rfl ?_
       refine g_v rfl (r_pick0 rfl rfl)<|g_v rfl r_move ?_
       iterate 3 refine g_no rfl rfl rfl rfl rfl rfl ?_
       refine g_v rfl (r_pick0 rfl rfl)<|g_v rfl r_assign<|g_nil<|d_then ?_
       refine c_flat [(2,.bool false)] ⟨rfl,trivial⟩ (fun u=>?_)
       refine c_ret ?_
       cases hm
       exact d_retC () Try.results46 (res_tmp (res_nil rfl)) trivial (fun W h=>ok_pre (H1:=[_]) (R1:=[]) h (fun W hφ=>hφ)) (.inr rfl)
      replace hm:=ite_f hm (of_decide_eq_false h7)
      refine g_no rfl rfl rfl rfl rfl h7<|g_no rfl rfl rfl rfl rfl h7<|g_v rfl (r_pick0 rfl h7)<|g_v rfl r_move ?_
      iterate 3 refine g_no rfl rfl rfl rfl rfl rfl ?_
      refine g_v rfl (r_pick0 rfl rfl)<|g_v rfl r_move ?_
      iterate 4 refine g_no rfl rfl rfl rfl rfl rfl ?_
      refine g_v rfl (r_pick0 rfl rfl)<|g_v rfl r_move ?_
      iterate 4 refine g_no rfl rfl rfl rfl rfl rfl ?_
      refine g_v rfl (r_pick0 rfl rfl)<|g_v rfl r_move ?_
      iterate 3 refine g_no rfl rfl rfl rfl rfl rfl ?_
      refine g_v rfl (r_pick0 rfl rfl)<|g_v rfl r_assign<|g_nil<|d_then ?_
      refine c_flat [(2,.bool false)] ⟨rfl,trivial⟩ (fun u=>?_)
      refine c_ret ?_
      cases hm
      exact d_retC () Try.results46 (res_tmp (res_nil rfl)) trivial (fun W h=>ok_pre (H1:=[_]) (R1:=[]) h (fun W hφ=>hφ)) (.inr rfl)
     replace hm:=ite_f hm (of_decide_eq_false h6)
     refine g_no rfl rfl rfl rfl rfl h6<|g_no rfl rfl rfl rfl rfl h6<|g_v rfl (r_pick0 rfl h6)<|g_v rfl r_move ?_
     iterate 3 refine g_no rfl rfl rfl rfl rfl rfl ?_
     refine g_v rfl (r_pick0 rfl rfl)<|g_v rfl r_move ?_
     iterate 3 refine g_no rfl rfl rfl rfl rfl rfl ?_
     refine g_v rfl (r_pick0 rfl rfl)<|g_v rfl r_move ?_
     iterate 4 refine g_no rfl rfl rfl rfl rfl rfl ?_
     refine g_v rfl (r_pick0 rfl rfl)<|g_v rfl r_move ?_
     iterate 4 refine g_no rfl rfl rfl rfl rfl rfl ?_
     refine g_v rfl (r_pick0 rfl rfl)<|g_v rfl r_move ?_
     iterate 3 refine g_no rfl rfl rfl rfl rfl rfl ?_
     refine g_v rfl (r_pick0 rfl rfl)<|g_v rfl r_assign<|g_nil<|d_then ?_
     refine c_flat [(2,.bool false)] ⟨rfl,trivial⟩ (fun u=>?_)
     refine c_ret ?_
     cases hm
     exact d_retC () Try.results46 (res_tmp (res_nil rfl)) trivial (fun W h=>ok_pre (H1:=[_]) (R1:=[]) h (fun W hφ=>hφ)) (.inr rfl)
    replace hm:=ite_f hm (of_decide_eq_false h5)
    refine g_no rfl rfl rfl rfl rfl h5<|g_no rfl rfl rfl rfl rfl h5<|g_v rfl (r_pick0 rfl h5)<|g_v rfl r_move ?_
    iterate 3 refine g_no rfl rfl rfl rfl rfl rfl ?_
    refine g_v rfl (r_pick0 rfl rfl)<|g_v rfl r_move ?_
    iterate 3 refine g_no rfl rfl rfl rfl rfl rfl ?_
    refine g_v rfl (r_pick0 rfl rfl)<|g_v rfl r_move ?_
    iterate 3 refine g_no rfl rfl rfl rfl rfl rfl ?_
    refine g_v rfl (r_pick0 rfl rfl)<|g_v rfl r_move ?_
    iterate 4 refine g_no rfl rfl rfl rfl rfl rfl ?_
    refine g_v rfl (r_pick0 rfl rfl)<|g_v rfl r_move ?_
    iterate 4 refine g_no rfl rfl rfl rfl rfl rfl ?_
    refine g_v rfl (r_pick0 rfl rfl)<|g_v rfl r_move ?_
    iterate 3 refine g_no rfl rfl rfl rfl rfl rfl ?_
    refine g_v rfl (r_pick0 rfl rfl)<|g_v rfl r_assign<|g_nil<|d_then ?_
    refine c_flat [(2,.bool false)] ⟨rfl,trivial⟩ (fun u=>?_)
    refine c_ret ?_
    cases hm
    exact d_retC () Try.results46 (res_tmp (res_nil rfl)) trivial (fun W h=>ok_pre (H1:=[_]) (R1:=[]) h (fun W hφ=>hφ)) (.inr rfl)
   replace hm:=ite_f hm (of_decide_eq_false h4)
   refine g_no rfl rfl rfl rfl rfl h4<|g_no rfl rfl rfl rfl rfl h4<|g_v rfl (r_pick0 rfl h4)<|g_v rfl r_move ?_
   iterate 3 refine g_no rfl rfl rfl rfl rfl rfl ?_
   refine g_v rfl (r_pick0 rfl rfl)<|g_v rfl r_move ?_
   iterate 3 refine g_no rfl rfl rfl rfl rfl rfl ?_
   refine g_v rfl (r_pick0 rfl rfl)<|g_v rfl r_move ?_
   iterate 3 refine g_no rfl rfl rfl rfl rfl rfl ?_
   refine g_v rfl (r_pick0 rfl rfl)<|g_v rfl r_move ?_
   iterate 3 refine g_no rfl rfl rfl rfl rfl rfl ?_
   refine g_v rfl (r_pick0 rfl rfl)<|g_v rfl r_move ?_
   iterate 4 refine g_no rfl rfl rfl rfl rfl rfl ?_
   refine g_v rfl (r_pick0 rfl rfl)<|g_v rfl r_move ?_
   iterate 4 refine g_no rfl rfl rfl rfl rfl rfl ?_
   refine g_v rfl (r_pick0 rfl rfl)<|g_v rfl r_move ?_
   iterate 3 refine g_no rfl rfl rfl rfl rfl rfl ?_
   refine g_v rfl (r_pick0 rfl rfl)<|g_v rfl r_assign<|g_nil<|d_then ?_
   refine c_flat [(2,.bool false)] ⟨rfl,trivial⟩ (fun u=>?_)
   refine c_ret ?_
   cases hm
   exact d_retC () Try.results46 (res_tmp (res_nil rfl)) trivial (fun W h=>ok_pre (H1:=[_]) (R1:=[]) h (fun W hφ=>hφ)) (.inr rfl)
  replace hm:=ite_f hm (of_decide_eq_false h3)
  refine g_no rfl rfl rfl rfl rfl h3<|g_no rfl rfl rfl rfl rfl h3<|g_v rfl (r_pick0 rfl h3)<|g_v rfl r_move ?_
  iterate 3 refine g_no rfl rfl rfl rfl rfl rfl ?_
  refine g_v rfl (r_pick0 rfl rfl)<|g_v rfl r_move ?_
  iterate 3 refine g_no rfl rfl rfl rfl rfl rfl ?_
  refine g_v rfl (r_pick0 rfl rfl)<|g_v rfl r_move ?_
  iterate 3 refine g_no rfl rfl rfl rfl rfl rfl ?_
  refine g_v rfl (r_pick0 rfl rfl)<|g_v rfl r_move ?_
  iterate 3 refine g_no rfl rfl rfl rfl rfl rfl ?_
  refine g_v rfl (r_pick0 rfl rfl)<|g_v rfl r_move ?_
  iterate 3 refine g_no rfl rfl rfl rfl rfl rfl ?_
  refine g_v rfl (r_pick0 rfl rfl)<|g_v rfl r_move ?_
  iterate 4 refine g_no rfl rfl rfl rfl rfl rfl ?_
  refine g_v rfl (r_pick0 rfl rfl)<|g_v rfl r_move ?_
  iterate 4 refine g_no rfl rfl rfl rfl rfl rfl ?_
  refine g_v rfl (r_pick0 rfl rfl)<|g_v rfl r_move ?_
  iterate 3 refine g_no rfl rfl rfl rfl rfl rfl ?_
  refine g_v rfl (r_pick0 rfl rfl)<|g_v rfl r_assign<|g_nil<|d_then ?_
  refine c_flat [(2,.bool false)] ⟨rfl,trivial⟩ (fun u=>?_)
  refine c_ret ?_
  cases hm
  exact d_retC () Try.results46 (res_tmp (res_nil rfl)) trivial (fun W h=>ok_pre (H1:=[_]) (R1:=[]) h (fun W hφ=>hφ)) (.inr rfl)
 replace hm:=ite_f hm (of_decide_eq_false h2)
 refine g_no rfl rfl rfl rfl rfl h2<|g_no rfl rfl rfl rfl rfl h2<|g_v rfl (r_pick0 rfl h2)<|g_v rfl r_move ?_
 iterate 3 refine g_no rfl rfl rfl rfl rfl rfl ?_
 refine g_v rfl (r_pick0 rfl rfl)<|g_v rfl r_move ?_
 iterate 3 refine g_no rfl rfl rfl rfl rfl rfl ?_
 refine g_v rfl (r_pick0 rfl rfl)<|g_v rfl r_move ?_
 iterate 3 refine g_no rfl rfl rfl rfl rfl rfl ?_
 refine g_v rfl (r_pick0 rfl rfl)<|g_v rfl r_move ?_
 iterate 3 refine g_no rfl rfl rfl rfl rfl rfl ?_
 refine g_v rfl (r_pick0 rfl rfl)<|g_v rfl r_move ?_
 iterate 3 refine g_no rfl rfl rfl rfl rfl rfl ?_
 refine g_v rfl (r_pick0 rfl rfl)<|g_v rfl r_move ?_
 iterate 3 refine g_no rfl rfl rfl rfl rfl rfl ?_
 refine g_v rfl (r_pick0 rfl rfl)<|g_v rfl r_move ?_
 iterate 4 refine g_no rfl rfl rfl rfl rfl rfl ?_
 refine g_v rfl (r_pick0 rfl rfl)<|g_v rfl r_move ?_
 iterate 4 refine g_no rfl rfl rfl rfl rfl rfl ?_
 refine g_v rfl (r_pick0 rfl rfl)<|g_v rfl r_move ?_
 iterate 3 refine g_no rfl rfl rfl rfl rfl rfl ?_
 refine g_v rfl (r_pick0 rfl rfl)<|g_v rfl r_assign<|g_nil<|d_then ?_
 refine c_flat [(2,.bool false)] ⟨rfl,trivial⟩ (fun u=>?_)
 refine c_ret ?_
 cases hm
 exact d_retC () Try.results46 (res_tmp (res_nil rfl)) trivial (fun W h=>ok_pre (H1:=[_]) (R1:=[]) h (fun W hφ=>hφ)) (.inr rfl)
noncomputable def m_ref03_row_j1 (p0 : ByteArray) (l82 : List ByteArray) (i85 : Int) : Option ((List ByteArray)×Bool):=
  some (l82,decide (i85 = w64 ((p0.size : Int) - 1)))
noncomputable def m_ref03_row_s2 (p0 : ByteArray) (l101 : List ByteArray) (i104 : Int) : Option (((List ByteArray)×Int) ⊕ (((List ByteArray)×Int) ⊕ ((List ByteArray)×Bool))):=
  if i104 < (p0.size : Int) then
    (sat_ p0 i104).bind fun b122=>
    if b122 ≠ 0 then
      (sat_ p0 i104).bind fun b124=>
      if 63 < w64 b124 then
        some (.inr (.inr (([] : List ByteArray),false)))
      else
        if (p0.size : Int) < w64 ((w64 (i104 + 1)) + (w64 b124)) then
          some (.inr (.inr (([] : List ByteArray),false)))
        else
          (scutMid p0 (w64 (i104 + 1)) (w64 ((w64 (i104 + 1)) + (w64 b124)))).bind fun s127=>
          (app 16 l101 [s127]).bind fun l129=>
          some (.inl (l129,w64 ((w64 (i104 + 1)) + (w64 b124))))
    else
      some (.inr (.inl (l101,i104)))
  else
    some (.inr (.inl (l101,i104)))
noncomputable def m_ref03_row (p0 : ByteArray) : Option ((List ByteArray)×Bool):=
  (loop (fun s=>m_ref03_row_s2 p0 s.1 s.2) (([] : List ByteArray),0)).bind fun e=>Sum.elim (fun e=>m_ref03_row_j1 p0 e.1 e.2) (fun x=>some x) e
theorem c_ref03_row {w0 : World} {M : Nat→Prop} {H : List (Nat×Nat×Obj)} {R : List (Nat×Row)} {φ : World→Prop} (p0 : ByteArray) (r : (List ByteArray)×Bool) (hm : m_ref03_row p0 = some r) :
    Cn Try.prog 78 #[.string p0] ⟨w0,M,H,R,φ⟩ (fun x : Option Addr×Nat=>.tuple #[.slice x.1 r.1.length x.2,.bool r.2]) (fun x=>r.1.length ≤ x.2) (fun x=>⟨w0,M,H,(2000,⟨.slice x.1 r.1.length x.2,9,1,r.1.length,r.1.flatMap (fun x : ByteArray=>[Value.string x])⟩)::R,φ⟩):=by
 unfold m_ref03_row at hm
 refine cn_intro (fn:=Try.f78) (N:=53) Try.func78 rfl Try.ntmps78 rfl<|c_seq<|c_region<|g_v rfl r_assign<|g_v rfl r_assign<|g_nil<|d_then<|c_seq<|c_region<|g_v rfl r_assign ?_
 refine g_nil<|d_then<|c_seq<|c_region<|g_v rfl r_assign<|g_nil<|d_then<|c_seq<|c_sta _ (fun W h=>nilR h 19 9 1) ?_
 refine c_cut (ι:=(List ByteArray)×Int×Option Addr×Nat) [0,4,5] (fun ⟨l82,i85,A83,c84⟩=>[(4,.slice A83 l82.length c84),(5,.int .i64 i85)]) (fun ⟨l82,i85,A83,c84⟩=>⟨w0,M,H,(19,⟨.slice A83 l82.length c84,9,1,l82.length,l82.flatMap (fun x : ByteArray=>[Value.string x])⟩)::R,φ⟩) (fun ⟨l82,i85,A83,c84⟩=>m_ref03_row_j1 p0 l82 i85 = some r∧l82.length ≤ c84) ?_ (fun ⟨l82,i85,A83,c84⟩ u ⟨hm,hc84⟩=>?_)
 ·
  refine c_block ?_
  replace hm:=bnd hm
  obtain ⟨out2,hl2,hr2⟩:=hm
  obtain ⟨n120',hl2⟩:=loop_lp hl2
  refine c_loopU (ι:=Nat×(List ByteArray)×Int×Option Addr×Nat) [0,4,5] (fun ⟨n120,l101,i104,A102,c103⟩=>[(4,.slice A102 l101.length c103),(5,.int .i64 i104)]) (fun ⟨n120,l101,i104,A102,c103⟩=>⟨w0,M,H,(19,⟨.slice A102 l101.length c103,9,1,l101.length,l101.flatMap (fun x : ByteArray=>[Value.string x])⟩)::R,φ⟩) (fun ⟨n120,l101,i104,A102,c103⟩=>Lp (fun s=>m_ref03_row_s2 p0 s.1 s.2) n120 (l101,i104) out2∧l101.length ≤ c103) (fun ⟨n120,l101,i104,A102,c103⟩=>n120) (n120',([] : List ByteArray),0,none,0) ⟨hl2,(Nat.le_refl 0)⟩ ⟨rfl,rfl,rfl,trivial⟩ (fun W h=>h.phi (fun W hφ=>hφ)) (fun ⟨n120,l101,i104,A102,c103⟩ u ⟨hlp,hc103⟩=>?_)
  obtain ⟨o2,hm,hnx2⟩:=lp_step hlp
  clear hlp
  replace hm : m_ref03_row_s2 p0 l101 i104 = some o2:=hm
  unfold m_ref03_row_s2 at hm
  refine c_flat [(0,.string p0),(4,.slice A102 l101.length c103),(5,.int .i64 i104)] ⟨rfl,rfl,rfl,trivial⟩ (fun u=>?_)
  refine c_sta ⟨w0,M,H,(19,⟨.slice A102 l101.length c103,9,1,l101.length,l101.flatMap (fun x : ByteArray=>[Value.string x])⟩)::R,φ⟩ (fun _ h=>h)<|c_seq<|c_seq<|c_region<|g_v rfl r_move<|g_v rfl r_move<|g_v rfl (r_len Try.underlying9 rfl)<|g_v rfl (r_lss rfl rfl)<|g_v rfl r_move ?_
  refine g_if rfl rfl rfl rfl rfl (fun h121=>?_) (fun h121=>?_)
  ·
   replace hm:=ite_t hm (of_decide_eq_true h121)
   refine g_v rfl r_move<|g_do rfl rfl rfl rfl rfl h121<|g_v rfl r_move<|g_do rfl rfl rfl rfl rfl h121 ?_
   replace hm:=bnd hm
   obtain ⟨b122,hb122,hm⟩:=hm
   refine g_v rfl (r_sat Try.underlying9 rfl rfl hb122)<|g_do rfl rfl rfl rfl rfl h121<|g_v rfl (r_neq rfl rfl)<|g_v rfl (r_pick1 rfl h121)<|g_nil<|d_then ?_
   refine c_flat [(0,.string p0),(4,.slice A102 l101.length c103),(5,.int .i64 i104),(16,.bool (decide (b122 ≠ 0)))] ⟨rfl,rfl,rfl,rfl,trivial⟩ (fun u=>?_)
   refine c_cond rfl (fun h123=>?_) (fun h123=>?_)
   ·
    replace hm:=ite_t hm (of_decide_eq_true h123)
    refine c_skip<|d_then<|c_block<|c_seq<|c_region<|g_v rfl r_move<|g_v rfl r_move ?_
    replace hm:=bnd hm
    obtain ⟨b124,hb124,hm⟩:=hm
    refine g_v rfl (r_sat Try.underlying9 rfl rfl hb124)<|g_v rfl (r_conv Try.underlying5 Try.underlying3 rfl rfl)<|g_v rfl r_assign<|g_nil<|d_then<|c_seq<|c_seq<|c_region<|g_v rfl r_move<|g_v rfl (r_gtr rfl rfl) ?_
    refine g_v rfl r_move ?_
    refine g_if rfl rfl rfl rfl rfl (fun h125=>?_) (fun h125=>?_)
    ·
     replace hm:=ite_f hm (of_decide_eq_false h125)
     refine g_v rfl r_move<|g_do rfl rfl rfl rfl rfl h125<|g_v rfl (r_add rfl rfl rfl)<|g_do rfl rfl rfl rfl rfl h125<|g_v rfl r_move<|g_do rfl rfl rfl rfl rfl h125<|g_v rfl (r_add rfl rfl rfl)<|g_do rfl rfl rfl rfl rfl h125<|g_v rfl r_move<|g_do rfl rfl rfl rfl rfl h125 ?_
     refine g_v rfl (r_len Try.underlying9 rfl)<|g_do rfl rfl rfl rfl rfl h125<|g_v rfl (r_gtr rfl rfl)<|g_v rfl (r_pick0 rfl h125)<|g_nil<|d_then ?_
     refine c_flat [(0,.string p0),(4,.slice A102 l101.length c103),(5,.int .i64 i104),(6,.int .i64 (w64 b124)),(31,.bool (decide ((p0.size : Int) < w64 ((w64 (i104 + 1)) + (w64 b124)))))] ⟨rfl,rfl,rfl,rfl,rfl,trivial⟩ (fun u=>?_)
     refine c_cond rfl (fun h126=>?_) (fun h126=>?_)
     ·
      replace hm:=ite_t hm (of_decide_eq_true h126)
      refine c_seq<|c_region<|g_v rfl r_assign<|g_v rfl r_assign<|g_nil<|d_then<|c_ret<|d_ret_then<|d_ret_block<|d_ret_then ?_
      refine d_ret_block<|d_ret_then<|d_ret_then ?_
      replace hm:=nx_out (C:=(fun e : ((List ByteArray)×Int) ⊕ ((List ByteArray)×Bool)=>Sum.elim (fun e=>m_ref03_row_j1 p0 e.1 e.2) (fun x=>some x) e = some r)) hm hnx2 hr2
      replace hm : some (([] : List ByteArray),false) = some r:=hm
      cases hm
      refine d_sta _ (fun W h=>nilR h 28 9 1)<|d_sta _ (fun W h=>ok_frontR (t:=28) (t':=2000) h rfl) ?_
      exact d_retC (none,0) Try.results78 (res_tmp (res_tmp (res_nil rfl))) (Nat.le_refl 0) (fun W h=>(h.dropR (t:=19) rfl).phi (fun W hφ=>hφ)) (.inr rfl)
     replace hm:=ite_f hm (of_decide_eq_false h126)
     refine c_skip<|d_then<|c_seq<|c_region ?_
     iterate 3 refine g_v rfl r_move ?_
     refine g_v rfl (r_add rfl rfl rfl)<|g_v rfl r_move<|g_v rfl (r_add rfl rfl rfl)<|g_v rfl r_move<|g_v rfl (r_add rfl rfl rfl) ?_
     replace hm:=bnd hm
     obtain ⟨s127,hs127,hm⟩:=hm
     refine g_v rfl (r_scutMid Try.underlying9 rfl rfl rfl hs127) ?_
     refine g_e rfl (e_lit (tag:=100410) (l:=[s127]) (enc:=(fun x : ByteArray=>[Value.string x])) (sz:=1) rfl Try.underlying125 (lit9_4 _) rfl rfl (fun _=>rfl)) (fun g128 _=>?_)
     replace hm:=bnd hm
     obtain ⟨l129,hl129,hm⟩:=hm
     refine g_e rfl (e_appR (enc:=(fun x : ByteArray=>[Value.string x])) (l:=l101) (l1:=[s127]) (l2:=l129) (tag:=19) Try.underlying125 inf9_5 rfl (by decide) (by decide) (fun _=>rfl) (fun _=>rfl) rfl hc103 rfl rfl (fun W hS=>rowCl (tag:=100410) rfl W hS) hl129) (fun ⟨A130,c131⟩ hc131=>?_)
     refine g_v rfl r_assign<|g_nil<|d_then ?_
     refine c_flat [(0,.string p0),(4,.slice A130 l129.length c131),(5,.int .i64 i104),(6,.int .i64 (w64 b124))] ⟨rfl,rfl,rfl,rfl,trivial⟩ (fun u=>?_)
     refine c_sta ⟨w0,M,H,(100410,⟨.slice (some ⟨g128,0,none⟩) [s127].length 1,9,1,[s127].length,[s127].flatMap (fun x : ByteArray=>[Value.string x])⟩)::(19,⟨.slice A130 l129.length c131,9,1,l129.length,l129.flatMap (fun x : ByteArray=>[Value.string x])⟩)::R,φ⟩ (fun _ h=>h)<|c_region<|g_v rfl r_move<|g_v rfl (r_add rfl rfl rfl)<|g_v rfl r_move<|g_v rfl (r_add rfl rfl rfl)<|g_v rfl r_assign<|g_nil<|d_normal_block ?_
     obtain ⟨n132,hn132,hlp⟩:=nx_inl hm hnx2
     exact d_round (n132,l129,w64 ((w64 (i104 + 1)) + (w64 b124)),A130,c131) ⟨hlp,hc131⟩ hn132 ⟨rfl,rfl,rfl,trivial⟩ (fun W h=>(h.dropR (t:=100410) rfl).phi (fun W hφ=>hφ))
    replace hm:=ite_t hm (of_decide_eq_true h125)
    iterate 6 refine g_no rfl rfl rfl rfl rfl h125 ?_
    refine g_v rfl (r_pick1 rfl h125)<|g_nil<|d_then ?_
    refine c_flat [(0,.string p0),(4,.slice A102 l101.length c103),(5,.int .i64 i104),(6,.int .i64 (w64 b124)),(31,.bool true)] ⟨rfl,rfl,rfl,rfl,rfl,trivial⟩ (fun u=>?_)
    refine c_cond1 rfl rfl<|c_seq<|c_region<|g_v rfl r_assign<|g_v rfl r_assign<|g_nil<|d_then<|c_ret<|d_ret_then<|d_ret_block ?_
    refine d_ret_then<|d_ret_block<|d_ret_then<|d_ret_then ?_
    replace hm:=nx_out (C:=(fun e : ((List ByteArray)×Int) ⊕ ((List ByteArray)×Bool)=>Sum.elim (fun e=>m_ref03_row_j1 p0 e.1 e.2) (fun x=>some x) e = some r)) hm hnx2 hr2
    replace hm : some (([] : List ByteArray),false) = some r:=hm
    cases hm
    refine d_sta _ (fun W h=>nilR h 29 9 1)<|d_sta _ (fun W h=>ok_frontR (t:=29) (t':=2000) h rfl) ?_
    exact d_retC (none,0) Try.results78 (res_tmp (res_tmp (res_nil rfl))) (Nat.le_refl 0) (fun W h=>(h.dropR (t:=19) rfl).phi (fun W hφ=>hφ)) (.inr rfl)
   replace hm:=ite_f hm (of_decide_eq_false h123)
   refine c_exit<|d_exit_then<|d_exit_then<|d_exit_block ?_
   replace hm:=nx_out (C:=(fun e : ((List ByteArray)×Int) ⊕ ((List ByteArray)×Bool)=>Sum.elim (fun e=>m_ref03_row_j1 p0 e.1 e.2) (fun x=>some x) e = some r)) hm hnx2 hr2
   exact d_round (l101,i104,A102,c103) ⟨hm,hc103⟩ Nat.zero_lt_one ⟨rfl,rfl,rfl,trivial⟩ (fun W h=>h.phi (fun W hφ=>hφ))
  replace hm:=ite_f hm (of_decide_eq_false h121)
  iterate 3 refine g_no rfl rfl rfl rfl rfl h121 ?_
  refine g_v rfl (r_pick0 rfl h121)<|g_nil<|d_then<|c_cond0 rfl rfl<|c_exit<|d_exit_then<|d_exit_then<|d_exit_block ?_
  replace hm:=nx_out (C:=(fun e : ((List ByteArray)×Int) ⊕ ((List ByteArray)×Bool)=>Sum.elim (fun e=>m_ref03_row_j1 p0 e.1 e.2) (fun x=>some x) e = some r)) hm hnx2 hr2
  exact d_round (l101,i104,A102,c103) ⟨hm,hc103⟩ Nat.zero_lt_one ⟨rfl,rfl,rfl,trivial⟩ (fun W h=>h.phi (fun W hφ=>hφ))
 unfold m_ref03_row_j1 at hm
 refine d_flat [(0,.string p0),(4,.slice A83 l82.length c84),(5,.int .i64 i85)] ⟨rfl,rfl,rfl,trivial⟩ (fun u=>?_)
 refine d_sta ⟨w0,M,H,(19,⟨.slice A83 l82.length c84,9,1,l82.length,l82.flatMap (fun x : ByteArray=>[Value.string x])⟩)::R,φ⟩ (fun _ h=>h)<|d_then<|c_seq<|c_region ?_
 iterate 3 refine g_v rfl r_move ?_
 refine g_v rfl (r_len Try.underlying9 rfl)<|g_v rfl (r_sub rfl rfl rfl)<|g_v rfl (r_eql rfl rfl)<|g_v rfl r_assign<|g_v rfl r_assign<|g_nil<|d_then<|c_ret ?_
 cases hm
 refine d_sta _ (fun W h=>ok_frontR (t:=19) (t':=2000) h rfl) ?_
 exact d_retC (A83,c84) Try.results78 (res_tmp (res_tmp (res_nil rfl))) hc84 (fun W h=>h.phi (fun W hφ=>hφ)) (.inr rfl)
noncomputable def m_ref03_Check (p0 : ByteArray) : Option Int:=
  (m_ref03_row p0).bind fun (z7 : (List ByteArray)×Bool)=>
  if z7.2 = true then
    if 255 < (p0.size : Int) then
      some 11
    else
      some 0
  else
    some 10
theorem c_ref03_Check {w0 : World} {M : Nat→Prop} {H : List (Nat×Nat×Obj)} {R : List (Nat×Row)} {φ : World→Prop} (p0 : ByteArray) (r : Int) (hm : m_ref03_Check p0 = some r) :
    Cn Try.prog 47 #[.string p0] ⟨w0,M,H,R,φ⟩ (fun x : Unit=>.int .i64 r) (fun x=>True) (fun x=>⟨w0,M,H,R,φ⟩):=by
 unfold m_ref03_Check at hm
 refine cn_intro (fn:=Try.f47) (N:=15) Try.func47 rfl Try.ntmps47 rfl<|c_seq<|c_region<|g_v rfl r_assign<|g_nil<|d_then<|c_seq<|c_region<|g_v rfl r_move ?_
 replace hm:=bnd hm
 obtain ⟨⟨x1,x2⟩,hx3,hm⟩:=hm
 refine g_cn ⟨w0,M,_,_,φ⟩ (fun _ h=>h) Try.call78 rfl rfl (c_ref03_row p0 _ hx3) (fun ⟨A4,c5⟩ hc5=>?_)
 refine g_sta _ (fun W h=>(ok_frontR (t:=2000) (t':=100070) h rfl))<|g_v rfl r_move<|g_v rfl (r_extract rfl rfl)<|g_v rfl (r_extract rfl rfl)<|g_v rfl r_assign<|g_v rfl r_assign<|g_nil<|d_then<|c_seq<|c_seq ?_
 refine c_region<|g_v rfl r_move<|g_v rfl (r_not rfl)<|g_nil<|d_then ?_
 refine c_flat [(0,.string p0),(11,.bool (!x2))] ⟨rfl,rfl,trivial⟩ (fun u=>?_)
 refine c_sta ⟨w0,M,H,(100070,⟨.slice A4 x1.length c5,9,1,x1.length,x1.flatMap (fun x : ByteArray=>[Value.string x])⟩)::R,φ⟩ (fun _ h=>h) ?_
 refine c_cond rfl (fun h8=>?_) (fun h8=>?_)
 ·
  have h8' : x2 = false:=by revert h8; cases x2 <;> simp
  replace hm:=ite_f hm (bool_nt h8')
  refine c_seq<|c_region<|g_v rfl r_assign<|g_nil<|d_then<|c_ret<|d_ret_then ?_
  cases hm
  exact d_retC () Try.results47 (res_tmp (res_nil rfl)) trivial (fun W h=>ok_pre (H1:=[]) (R1:=[_]) h (fun W hφ=>hφ)) (.inr rfl)
 have h8' : x2 = true:=by revert h8; cases x2 <;> simp
 replace hm:=ite_t hm h8'
 refine c_skip<|d_then<|c_seq<|c_seq<|c_region<|g_v rfl r_move<|g_v rfl (r_len Try.underlying9 rfl)<|g_v rfl (r_gtr rfl rfl)<|g_nil<|d_then ?_
 refine c_cond rfl (fun h9=>?_) (fun h9=>?_)
 ·
  replace hm:=ite_t hm (of_decide_eq_true h9)
  refine c_seq<|c_region<|g_v rfl r_assign<|g_nil<|d_then<|c_ret<|d_ret_then ?_
  cases hm
  exact d_retC () Try.results47 (res_tmp (res_nil rfl)) trivial (fun W h=>ok_pre (H1:=[]) (R1:=[_]) h (fun W hφ=>hφ)) (.inr rfl)
 replace hm:=ite_f hm (of_decide_eq_false h9)
 refine c_skip<|d_then<|c_seq<|c_region<|g_v rfl r_assign<|g_nil<|d_then<|c_ret ?_
 cases hm
 exact d_retC () Try.results47 (res_tmp (res_nil rfl)) trivial (fun W h=>ok_pre (H1:=[]) (R1:=[_]) h (fun W hφ=>hφ)) (.inr rfl)
noncomputable def m_ref11_List_j1 (p0 : ByteArray) (l107 : List Int) : Option ((List Int)×Bool):=
  some (l107,decide (0 < (p0.size : Int)))
noncomputable def m_ref11_List_j3 (p0 : ByteArray) (i129 : Int) (l126 : List Int) : Option (((List Int)×Int) ⊕ ((List Int) ⊕ ((List Int)×Bool))):=
  (sat_ p0 i129).bind fun b174=>
  (app 8 l126 [w64 b174]).bind fun l176=>
  some (.inl (l176,w64 (i129 + 1)))
noncomputable def m_ref11_List_s2 (p0 : ByteArray) (l126 : List Int) (i129 : Int) : Option (((List Int)×Int) ⊕ ((List Int) ⊕ ((List Int)×Bool))):=
  if i129 < (p0.size : Int) then
    (sat_ p0 i129).bind fun b190=>
    if 63 < b190 then
      some (.inr (.inr (([] : List Int),false)))
    else
      if 0 < i129 then
        (sat_ p0 i129).bind fun b193=>
        (sat_ p0 (w64 (i129 - 1))).bind fun b194=>
        if b193 ≤ b194 then
          some (.inr (.inr (([] : List Int),false)))
        else
          m_ref11_List_j3 p0 i129 l126
      else
        m_ref11_List_j3 p0 i129 l126
  else
    some (.inr (.inl l126))
noncomputable def m_ref11_List (p0 : ByteArray) : Option ((List Int)×Bool):=
  (loop (fun s=>m_ref11_List_s2 p0 s.1 s.2) (([] : List Int),0)).bind fun e=>Sum.elim (fun e=>m_ref11_List_j1 p0 e) (fun x=>some x) e
theorem c_ref11_List {w0 : World} {M : Nat→Prop} {H : List (Nat×Nat×Obj)} {R : List (Nat×Row)} {φ : World→Prop} (p0 : ByteArray) (r : (List Int)×Bool) (hm : m_ref11_List p0 = some r) :
    Cn Try.prog 98 #[.string p0] ⟨w0,M,H,R,φ⟩ (fun x : Option Addr×Nat=>.tuple #[.slice x.1 r.1.length x.2,.bool r.2]) (fun x=>r.1.length ≤ x.2) (fun x=>⟨w0,M,H,(2000,⟨.slice x.1 r.1.length x.2,3,1,r.1.length,r.1.flatMap (fun x : Int=>[Value.int .i64 x])⟩)::R,φ⟩):=by
 unfold m_ref11_List at hm
 refine cn_intro (fn:=Try.f98) (N:=41) Try.func98 rfl Try.ntmps98 rfl<|c_seq<|c_region<|g_v rfl r_assign<|g_v rfl r_assign<|g_nil<|d_then<|c_seq<|c_region<|g_v rfl r_assign ?_
 refine g_nil<|d_then<|c_seq<|c_seq<|c_region<|g_v rfl r_assign<|g_nil<|d_then<|c_sta _ (fun W h=>nilR h 17 3 1) ?_
 refine c_cut (ι:=(List Int)×Option Addr×Nat) [0,4] (fun ⟨l107,A108,c109⟩=>[(4,.slice A108 l107.length c109)]) (fun ⟨l107,A108,c109⟩=>⟨w0,M,H,(17,⟨.slice A108 l107.length c109,3,1,l107.length,l107.flatMap (fun x : Int=>[Value.int .i64 x])⟩)::R,φ⟩) (fun ⟨l107,A108,c109⟩=>m_ref11_List_j1 p0 l107 = some r∧l107.length ≤ c109) ?_ (fun ⟨l107,A108,c109⟩ u ⟨hm,hc109⟩=>?_)
 ·
  refine c_block ?_
  replace hm:=bnd hm
  obtain ⟨out2,hl2,hr2⟩:=hm
  obtain ⟨n156',hl2⟩:=loop_lp hl2
  refine c_loopU (ι:=Nat×(List Int)×Int×Option Addr×Nat) [0,4,5] (fun ⟨n156,l126,i129,A127,c128⟩=>[(4,.slice A127 l126.length c128),(5,.int .i64 i129)]) (fun ⟨n156,l126,i129,A127,c128⟩=>⟨w0,M,H,(17,⟨.slice A127 l126.length c128,3,1,l126.length,l126.flatMap (fun x : Int=>[Value.int .i64 x])⟩)::R,φ⟩) (fun ⟨n156,l126,i129,A127,c128⟩=>Lp (fun s=>m_ref11_List_s2 p0 s.1 s.2) n156 (l126,i129) out2∧l126.length ≤ c128) (fun ⟨n156,l126,i129,A127,c128⟩=>n156) (n156',([] : List Int),0,none,0) ⟨hl2,(Nat.le_refl 0)⟩ ⟨rfl,rfl,rfl,trivial⟩ (fun W h=>h.phi (fun W hφ=>hφ)) (fun ⟨n156,l126,i129,A127,c128⟩ u ⟨hlp,hc128⟩=>?_)
  obtain ⟨o2,hm,hnx2⟩:=lp_step hlp
  clear hlp
  replace hm : m_ref11_List_s2 p0 l126 i129 = some o2:=hm
  unfold m_ref11_List_s2 at hm
  refine c_flat [(0,.string p0),(4,.slice A127 l126.length c128),(5,.int .i64 i129)] ⟨rfl,rfl,rfl,trivial⟩ (fun u=>?_)
  refine c_sta ⟨w0,M,H,(17,⟨.slice A127 l126.length c128,3,1,l126.length,l126.flatMap (fun x : Int=>[Value.int .i64 x])⟩)::R,φ⟩ (fun _ h=>h)<|c_seq<|c_seq<|c_region<|g_v rfl r_move<|g_v rfl r_move<|g_v rfl (r_len Try.underlying9 rfl)<|g_v rfl (r_lss rfl rfl)<|g_nil<|d_then ?_
  refine c_cond rfl (fun h157=>?_) (fun h157=>?_)
  ·
   replace hm:=ite_t hm (of_decide_eq_true h157)
   refine c_skip<|d_then<|c_seq<|c_block<|c_seq ?_
   refine c_cut (ι:=Unit) [0,4,5] (fun _=>[]) (fun _=>⟨w0,M,H,(17,⟨.slice A127 l126.length c128,3,1,l126.length,l126.flatMap (fun x : Int=>[Value.int .i64 x])⟩)::R,φ⟩) (fun _=>m_ref11_List_j3 p0 i129 l126 = some o2) ?_ (fun _ u hm=>?_)
   ·
    refine c_seq<|ga_start (n:=18) ⟨w0,M,H,(17,⟨.slice A127 l126.length c128,3,1,l126.length,l126.flatMap (fun x : Int=>[Value.int .i64 x])⟩)::R,φ⟩ [] #[false,false,false,false,false,false,false,false,false,false,false,false,false,false,false,false,false,false] (fun W h=>h.phi (fun W hφ=>hφ)) mixed rfl rfl<|ga_v (i:=0) (bz 18 1) rfl (by kernel_rfl) (fun _ _ _ _ h=>h) rfl (r_move)<|ga_r (i:=1) (bz 18 3) rfl (by kernel_rfl) (by decide) rfl (r_move) ?_
    replace hm:=bnd hm
    obtain ⟨b190,hb190,hm⟩:=hm
    refine ga_r (i:=2) (bz 18 7) rfl (by kernel_rfl) (by decide) rfl (r_sat Try.underlying9 rfl rfl hb190)<|ga_r (i:=3) (bz 18 15) rfl (by kernel_rfl) (by decide) rfl (r_gtr rfl rfl)<|ga_r (i:=4) (bz 18 31) rfl (by kernel_rfl) (by decide) rfl (r_move) ?_
    refine ga_if (t:=16) rfl (fun h191=>?_) (fun h191=>?_)
    ·
     replace hm:=ite_t hm (of_decide_eq_true h191)
     refine ga_no (i:=5) (bz 18 63) rfl (by kernel_rfl) (fun _ _ _ _ h=>h) rfl rfl rfl rfl rfl h191<|ga_no (i:=6) (bz 18 127) rfl (by kernel_rfl) (fun _ _ _ _ h=>h) rfl rfl rfl rfl rfl h191<|ga_no (i:=7) (bz 18 255) rfl (by kernel_rfl) (fun _ _ _ _ h=>h) rfl rfl rfl rfl rfl h191<|ga_nu (i:=8) (bz 18 511) rfl (by kernel_rfl) (fun _ _ _ _ h=>h) rfl rfl rfl rfl rfl<|ga_nu (i:=9) (bz 18 1023) rfl (by kernel_rfl) (fun _ _ _ _ h=>h) rfl rfl rfl rfl rfl<|ga_nu (i:=10) (bz 18 2047) rfl (by kernel_rfl) (fun _ _ _ _ h=>h) rfl rfl rfl rfl rfl<|ga_nu (i:=11) (bz 18 4095) rfl (by kernel_rfl) (fun _ _ _ _ h=>h) rfl rfl rfl rfl rfl<|ga_nu (i:=12) (bz 18 8191) rfl (by kernel_rfl) (fun _ _ _ _ h=>h) rfl rfl rfl rfl rfl<|ga_nu (i:=13) (bz 18 16383) rfl (by kernel_rfl) (fun _ _ _ _ h=>h) rfl rfl rfl rfl rfl<|ga_nu (i:=14) (bz 18 32767) rfl (by kernel_rfl) (fun _ _ _ _ h=>h) rfl rfl rfl rfl rfl ?_
     refine ga_nu (i:=15) (bz 18 65535) rfl (by kernel_rfl) (fun _ _ _ _ h=>h) rfl rfl rfl rfl rfl<|ga_no (i:=16) (bz 18 131071) rfl (by kernel_rfl) (fun _ _ _ _ h=>h) rfl rfl rfl rfl rfl h191<|ga_r (i:=17) (bz 18 262143) rfl (by kernel_rfl) (by decide) rfl (r_pick1 rfl h191)<|ga_done (by kernel_rfl)<|d_then ?_
     refine c_flat [(0,.string p0),(4,.slice A127 l126.length c128),(5,.int .i64 i129),(29,.bool true)] ⟨rfl,rfl,rfl,rfl,trivial⟩ (fun u=>?_)
     refine c_cond1 rfl rfl<|c_seq<|c_region<|g_v rfl r_assign<|g_v rfl r_assign<|g_nil<|d_then<|c_ret<|d_ret_then<|d_ret_then ?_
     refine d_ret_block<|d_ret_then<|d_ret_then<|d_ret_block<|d_ret_then<|d_ret_then ?_
     replace hm:=nx_out (C:=(fun e : (List Int) ⊕ ((List Int)×Bool)=>Sum.elim (fun e=>m_ref11_List_j1 p0 e) (fun x=>some x) e = some r)) hm hnx2 hr2
     replace hm : some (([] : List Int),false) = some r:=hm
     cases hm
     refine d_sta _ (fun W h=>nilR h 26 3 1)<|d_sta _ (fun W h=>ok_frontR (t:=26) (t':=2000) h rfl) ?_
     exact d_retC (none,0) Try.results98 (res_tmp (res_tmp (res_nil rfl))) (Nat.le_refl 0) (fun W h=>(h.dropR (t:=17) rfl).phi (fun W hφ=>hφ)) (.inr rfl)
    replace hm:=ite_f hm (of_decide_eq_false h191)
    refine ga_rG (i:=5) (bz 18 63) rfl (by kernel_rfl) (by decide) rfl rfl rfl rfl rfl h191 (r_move)<|ga_rG (i:=6) (bz 18 127) rfl (by kernel_rfl) (by decide) rfl rfl rfl rfl rfl h191 (r_gtr rfl rfl)<|ga_rG (i:=7) (bz 18 255) rfl (by kernel_rfl) (by decide) rfl rfl rfl rfl rfl h191 (r_move) ?_
    refine ga_if (t:=19) rfl (fun h192=>?_) (fun h192=>?_)
    ·
     replace hm:=ite_t hm (of_decide_eq_true h192)
     refine ga_do (i:=8) (bz 18 511) rfl (by kernel_rfl) (fun _ _ _ _ h=>h) rfl rfl rfl rfl rfl h192 (r_move)<|ga_do (i:=9) (bz 18 1023) rfl (by kernel_rfl) (fun _ _ _ _ h=>h) rfl rfl rfl rfl rfl h192 (r_move) ?_
     replace hm:=bnd hm
     obtain ⟨b193,hb193,hm⟩:=hm
     refine ga_do (i:=10) (bz 18 2047) rfl (by kernel_rfl) (fun _ _ _ _ h=>h) rfl rfl rfl rfl rfl h192 (r_sat Try.underlying9 rfl rfl hb193)<|ga_do (i:=11) (bz 18 4095) rfl (by kernel_rfl) (fun _ _ _ _ h=>h) rfl rfl rfl rfl rfl h192 (r_move)<|ga_rG (i:=12) (bz 18 8191) rfl (by kernel_rfl) (by decide) rfl rfl rfl rfl rfl h192 (r_move)<|ga_rG (i:=13) (bz 18 16383) rfl (by kernel_rfl) (by decide) rfl rfl rfl rfl rfl h192 (r_sub rfl rfl rfl) ?_
     replace hm:=bnd hm
     obtain ⟨b194,hb194,hm⟩:=hm
     refine ga_rG (i:=14) (bz 18 32767) rfl (by kernel_rfl) (by decide) rfl rfl rfl rfl rfl h192 (r_sat Try.underlying9 rfl rfl hb194)<|ga_rG (i:=15) (bz 18 65535) rfl (by kernel_rfl) (by decide) rfl rfl rfl rfl rfl h192 (r_leq rfl rfl)<|ga_rG (i:=16) (bz 18 131071) rfl (by kernel_rfl) (by decide) rfl rfl rfl rfl rfl h191 (r_pick1 rfl h192)<|ga_r (i:=17) (bz 18 262143) rfl (by kernel_rfl) (by decide) rfl (r_pick0 rfl h191)<|ga_done (by kernel_rfl)<|d_then ?_
     refine c_flat [(0,.string p0),(4,.slice A127 l126.length c128),(5,.int .i64 i129),(29,.bool (decide (b193 ≤ b194)))] ⟨rfl,rfl,rfl,rfl,trivial⟩ (fun u=>?_)
     refine c_cond rfl (fun h195=>?_) (fun h195=>?_)
     ·
      replace hm:=ite_t hm (of_decide_eq_true h195)
      refine c_seq<|c_region<|g_v rfl r_assign<|g_v rfl r_assign<|g_nil<|d_then<|c_ret<|d_ret_then<|d_ret_then<|d_ret_block ?_
      refine d_ret_then<|d_ret_then<|d_ret_block<|d_ret_then<|d_ret_then ?_
      replace hm:=nx_out (C:=(fun e : (List Int) ⊕ ((List Int)×Bool)=>Sum.elim (fun e=>m_ref11_List_j1 p0 e) (fun x=>some x) e = some r)) hm hnx2 hr2
      replace hm : some (([] : List Int),false) = some r:=hm
      cases hm
      refine d_sta _ (fun W h=>nilR h 27 3 1)<|d_sta _ (fun W h=>ok_frontR (t:=27) (t':=2000) h rfl) ?_
      exact d_retC (none,0) Try.results98 (res_tmp (res_tmp (res_nil rfl))) (Nat.le_refl 0) (fun W h=>(h.dropR (t:=17) rfl).phi (fun W hφ=>hφ)) (.inr rfl)
     replace hm:=ite_f hm (of_decide_eq_false h195)
     refine c_skip ?_
     exact d_round () hm Nat.zero_lt_one ⟨rfl,rfl,rfl,trivial⟩ (fun W h=>h.phi (fun W hφ=>hφ))
    replace hm:=ite_f hm (of_decide_eq_false h192)
    refine ga_no (i:=8) (bz 18 511) rfl (by kernel_rfl) (fun _ _ _ _ h=>h) rfl rfl rfl rfl rfl h192<|ga_no (i:=9) (bz 18 1023) rfl (by kernel_rfl) (fun _ _ _ _ h=>h) rfl rfl rfl rfl rfl h192<|ga_no (i:=10) (bz 18 2047) rfl (by kernel_rfl) (fun _ _ _ _ h=>h) rfl rfl rfl rfl rfl h192<|ga_no (i:=11) (bz 18 4095) rfl (by kernel_rfl) (fun _ _ _ _ h=>h) rfl rfl rfl rfl rfl h192<|ga_no (i:=12) (bz 18 8191) rfl (by kernel_rfl) (fun _ _ _ _ h=>h) rfl rfl rfl rfl rfl h192<|ga_no (i:=13) (bz 18 16383) rfl (by kernel_rfl) (fun _ _ _ _ h=>h) rfl rfl rfl rfl rfl h192<|ga_no (i:=14) (bz 18 32767) rfl (by kernel_rfl) (fun _ _ _ _ h=>h) rfl rfl rfl rfl rfl h192<|ga_no (i:=15) (bz 18 65535) rfl (by kernel_rfl) (fun _ _ _ _ h=>h) rfl rfl rfl rfl rfl h192<|ga_rG (i:=16) (bz 18 131071) rfl (by kernel_rfl) (by decide) rfl rfl rfl rfl rfl h191 (r_pick0 rfl h192)<|ga_r (i:=17) (bz 18 262143) rfl (by kernel_rfl) (by decide) rfl (r_pick0 rfl h191) ?_
    refine ga_done (by kernel_rfl)<|d_then ?_
    refine c_flat [(0,.string p0),(4,.slice A127 l126.length c128),(5,.int .i64 i129),(29,.bool false)] ⟨rfl,rfl,rfl,rfl,trivial⟩ (fun u=>?_)
    refine c_cond0 rfl rfl<|c_skip ?_
    exact d_round () hm Nat.zero_lt_one ⟨rfl,rfl,rfl,trivial⟩ (fun W h=>h.phi (fun W hφ=>hφ))
   unfold m_ref11_List_j3 at hm
   refine d_flat [(0,.string p0),(4,.slice A127 l126.length c128),(5,.int .i64 i129)] ⟨rfl,rfl,rfl,trivial⟩ (fun u=>?_)
   refine d_then<|c_region ?_
   iterate 3 refine g_v rfl r_move ?_
   replace hm:=bnd hm
   obtain ⟨b174,hb174,hm⟩:=hm
   refine g_v rfl (r_sat Try.underlying9 rfl rfl hb174)<|g_v rfl (r_conv Try.underlying5 Try.underlying3 rfl rfl) ?_
   refine g_e rfl (e_lit (tag:=100350) (l:=[w64 b174]) (enc:=(fun x : Int=>[Value.int .i64 x])) (sz:=1) rfl Try.underlying27 (lit3_11 _) rfl rfl (fun _=>rfl)) (fun g175 _=>?_)
   replace hm:=bnd hm
   obtain ⟨l176,hl176,hm⟩:=hm
   refine g_e rfl (e_appR (enc:=(fun x : Int=>[Value.int .i64 x])) (l:=l126) (l1:=[w64 b174]) (l2:=l176) (tag:=17) Try.underlying27 inf3_12 rfl (by decide) (by decide) (fun _=>rfl) (fun _=>rfl) rfl hc128 rfl rfl (fun W hS=>rowCl (tag:=100350) rfl W hS) hl176) (fun ⟨A177,c178⟩ hc178=>?_)
   refine g_v rfl r_assign<|g_nil<|d_normal_block<|d_then<|c_region<|g_v rfl r_move<|g_v rfl (r_add rfl rfl rfl)<|g_v rfl r_assign<|g_nil ?_
   obtain ⟨n179,hn179,hlp⟩:=nx_inl hm hnx2
   exact d_round (n179,l176,w64 (i129 + 1),A177,c178) ⟨hlp,hc178⟩ hn179 ⟨rfl,rfl,rfl,trivial⟩ (fun W h=>(h.dropR (t:=100350) rfl).phi (fun W hφ=>hφ))
  replace hm:=ite_f hm (of_decide_eq_false h157)
  refine c_exit<|d_exit_then<|d_exit_then<|d_exit_block ?_
  replace hm:=nx_out (C:=(fun e : (List Int) ⊕ ((List Int)×Bool)=>Sum.elim (fun e=>m_ref11_List_j1 p0 e) (fun x=>some x) e = some r)) hm hnx2 hr2
  exact d_round (l126,A127,c128) ⟨hm,hc128⟩ Nat.zero_lt_one ⟨rfl,rfl,trivial⟩ (fun W h=>h.phi (fun W hφ=>hφ))
 unfold m_ref11_List_j1 at hm
 refine d_flat [(0,.string p0),(4,.slice A108 l107.length c109)] ⟨rfl,rfl,trivial⟩ (fun u=>?_)
 refine d_sta ⟨w0,M,H,(17,⟨.slice A108 l107.length c109,3,1,l107.length,l107.flatMap (fun x : Int=>[Value.int .i64 x])⟩)::R,φ⟩ (fun _ h=>h)<|d_then<|c_seq<|c_region<|g_v rfl r_move<|g_v rfl r_move<|g_v rfl (r_len Try.underlying9 rfl)<|g_v rfl (r_gtr rfl rfl)<|g_v rfl r_assign<|g_v rfl r_assign ?_
 refine g_nil<|d_then<|c_ret ?_
 cases hm
 refine d_sta _ (fun W h=>ok_frontR (t:=17) (t':=2000) h rfl) ?_
 exact d_retC (A108,c109) Try.results98 (res_tmp (res_tmp (res_nil rfl))) hc109 (fun W h=>h.phi (fun W hφ=>hφ)) (.inr rfl)
noncomputable def m_ref11_Check_j1  : Option Int:=
  some 0
noncomputable def m_ref11_Check_s2 (p0 : GLog) (i76 : Int) (i77 : Int) : Option ((Int×Int) ⊕ (Unit ⊕ Int)):=
  if i77 < (p0.fEntries.length : Int) then
    (at_ p0.fEntries i77).bind fun x102=>
    if x102.fTerm < i76 then
      some (.inr (.inr 1))
    else
      if 1099511627776 < x102.fTerm then
        some (.inr (.inr 1))
      else
        if x102.fKind < 0 then
          some (.inr (.inr 1))
        else
          if 2 < x102.fKind then
            some (.inr (.inr 1))
          else
            if 8000 < (x102.fData.size : Int) then
              some (.inr (.inr 1))
            else
              (m_ref11_List x102.fData).bind fun (z118 : (List Int)×Bool)=>
              if x102.fKind = 1 then
                if z118.2 = true then
                  some (.inl (x102.fTerm,w64 (i77 + 1)))
                else
                  some (.inr (.inr 1))
              else
                some (.inl (x102.fTerm,w64 (i77 + 1)))
  else
    some (.inr (.inl ()))
noncomputable def m_ref11_Check (p0 : GLog) : Option Int:=
  if p0.fBase < 0 then
    some 1
  else
    if 1099511627776 < p0.fBase then
      some 1
    else
      if p0.fBaseTerm < 0 then
        some 1
      else
        if 1099511627776 < p0.fBaseTerm then
          some 1
        else
          if 100000 < (p0.fEntries.length : Int) then
            some 1
          else
            (loop (fun s=>m_ref11_Check_s2 p0 s.1 s.2) (p0.fBaseTerm,0)).bind fun e=>Sum.elim (fun e=>m_ref11_Check_j1) (fun x=>some x) e
theorem c_ref11_Check {w0 : World} {M : Nat→Prop} {H : List (Nat×Nat×Obj)} {R : List (Nat×Row)} {φ : World→Prop} (p0 : GLog) (Ap0_0 : Option Addr) (cp0_0 : Nat) (hcp0_0 : p0.fEntries.length ≤ cp0_0) (fp0_0 : ∀ W,(Sta.mk w0 M H R φ).ok W→Cl W Ap0_0 (p0.fEntries.flatMap GEntry.enc)) (r : Int) (hm : m_ref11_Check p0 = some r) :
    Cn Try.prog 81 #[.agg #[.int .i64 p0.fBase,.int .i64 p0.fBaseTerm,.slice Ap0_0 p0.fEntries.length cp0_0]] ⟨w0,M,H,R,φ⟩ (fun x : Unit=>.int .i64 r) (fun x=>True) (fun x=>⟨w0,M,H,R,φ⟩):=by
 unfold m_ref11_Check at hm
 refine cn_intro (fn:=Try.f81) (N:=86) Try.func81 rfl Try.ntmps81 rfl<|c_seq<|c_region ?_
 refine g_e rfl (e_box 100010 rfl) (fun g1 _=>?_)
 refine g_v rfl r_assign<|g_nil<|d_then<|c_seq<|c_seq<|c_region<|g_v rfl (r_field (n:=0) Try.underlying103 rfl Try.sizeOf3 rfl rfl)<|g_v rfl (r_load (tag:=100010) rfl rfl rfl Try.isAgg3)<|g_v rfl (r_lss rfl rfl)<|g_v rfl r_move ?_
 refine g_sta ⟨w0,M,(100010,g1,.cells #[.int .i64 p0.fBase,.int .i64 p0.fBaseTerm,.slice Ap0_0 p0.fEntries.length cp0_0] 103 (0,0))::H,R,φ⟩ (fun _ h=>h) ?_
 refine g_if rfl rfl rfl rfl rfl (fun h2=>?_) (fun h2=>?_)
 ·
  replace hm:=ite_f hm (of_decide_eq_false h2)
  refine g_v rfl (r_field (n:=0) Try.underlying103 rfl Try.sizeOf3 rfl rfl)<|g_do rfl rfl rfl rfl rfl h2<|g_v rfl (r_load (tag:=100010) rfl rfl rfl Try.isAgg3)<|g_do rfl rfl rfl rfl rfl h2<|g_v rfl (r_gtr rfl rfl)<|g_v rfl (r_pick0 rfl h2)<|g_v rfl r_move ?_
  refine g_if rfl rfl rfl rfl rfl (fun h3=>?_) (fun h3=>?_)
  ·
   replace hm:=ite_f hm (of_decide_eq_false h3)
   refine g_v rfl (r_field (n:=1) Try.underlying103 rfl Try.sizeOf3 rfl rfl)<|g_do rfl rfl rfl rfl rfl h3<|g_v rfl (r_load (tag:=100010) rfl rfl rfl Try.isAgg3)<|g_do rfl rfl rfl rfl rfl h3<|g_v rfl (r_lss rfl rfl)<|g_v rfl (r_pick0 rfl h3)<|g_v rfl r_move ?_
   refine g_if rfl rfl rfl rfl rfl (fun h4=>?_) (fun h4=>?_)
   ·
    replace hm:=ite_f hm (of_decide_eq_false h4)
    refine g_v rfl (r_field (n:=1) Try.underlying103 rfl Try.sizeOf3 rfl rfl)<|g_do rfl rfl rfl rfl rfl h4<|g_v rfl (r_load (tag:=100010) rfl rfl rfl Try.isAgg3)<|g_do rfl rfl rfl rfl rfl h4<|g_v rfl (r_gtr rfl rfl)<|g_v rfl (r_pick0 rfl h4)<|g_v rfl r_move ?_
    refine g_if rfl rfl rfl rfl rfl (fun h5=>?_) (fun h5=>?_)
    ·
     replace hm:=ite_f hm (of_decide_eq_false h5)
     refine g_v rfl (r_field (n:=2) Try.underlying103 rfl Try.sizeOf26 rfl rfl)<|g_do rfl rfl rfl rfl rfl h5<|g_v rfl (r_load (tag:=100010) rfl rfl rfl Try.isAgg26)<|g_do rfl rfl rfl rfl rfl h5<|g_v rfl (r_lenL Try.underlying26 rfl)<|g_do rfl rfl rfl rfl rfl h5<|g_v rfl (r_gtr rfl rfl)<|g_v rfl (r_pick0 rfl h5)<|g_nil<|d_then ?_
     refine c_flat [(1,.pointer (some ⟨g1,0,none⟩)),(31,.bool (decide (100000 < (p0.fEntries.length : Int))))] ⟨rfl,rfl,trivial⟩ (fun u=>?_)
     refine c_cond rfl (fun h6=>?_) (fun h6=>?_)
     ·
      replace hm:=ite_t hm (of_decide_eq_true h6)
      refine c_seq<|c_region<|g_v rfl r_assign<|g_nil<|d_then<|c_ret<|d_ret_then ?_
      cases hm
      exact d_retC () Try.results81 (res_tmp (res_nil rfl)) trivial (fun W h=>ok_pre (H1:=[_]) (R1:=[]) h (fun W hφ=>hφ)) (.inr rfl)
     replace hm:=ite_f hm (of_decide_eq_false h6)
     refine c_skip<|d_then<|c_seq<|c_region<|g_v rfl (r_field (n:=1) Try.underlying103 rfl Try.sizeOf3 rfl rfl)<|g_v rfl (r_load (tag:=100010) rfl rfl rfl Try.isAgg3)<|g_v rfl r_assign<|g_nil<|d_then<|c_seq ?_
     refine c_seq<|c_region<|g_v rfl r_assign<|g_nil<|d_then ?_
     refine c_cut (ι:=Unit) [] (fun _=>[]) (fun _=>⟨w0,M,H,R,φ⟩) (fun _=>m_ref11_Check_j1 = some r) ?_ (fun _ u hm=>?_)
     ·
      refine c_block ?_
      replace hm:=bnd hm
      obtain ⟨out2,hl2,hr2⟩:=hm
      obtain ⟨n100',hl2⟩:=loop_lp hl2
      refine c_loopU (ι:=Nat×Int×Int) [1,3,4] (fun ⟨n100,i76,i77⟩=>[(3,.int .i64 i76),(4,.int .i64 i77)]) (fun ⟨n100,i76,i77⟩=>⟨w0,M,(100010,g1,.cells #[.int .i64 p0.fBase,.int .i64 p0.fBaseTerm,.slice Ap0_0 p0.fEntries.length cp0_0] 103 (0,0))::H,R,φ⟩) (fun ⟨n100,i76,i77⟩=>Lp (fun s=>m_ref11_Check_s2 p0 s.1 s.2) n100 (i76,i77) out2) (fun ⟨n100,i76,i77⟩=>n100) (n100',p0.fBaseTerm,0) hl2 ⟨rfl,rfl,rfl,trivial⟩ (fun W h=>h.phi (fun W hφ=>hφ)) (fun ⟨n100,i76,i77⟩ u hlp=>?_)
      obtain ⟨o2,hm,hnx2⟩:=lp_step hlp
      clear hlp
      replace hm : m_ref11_Check_s2 p0 i76 i77 = some o2:=hm
      unfold m_ref11_Check_s2 at hm
      refine c_flat [(1,.pointer (some ⟨g1,0,none⟩)),(3,.int .i64 i76),(4,.int .i64 i77)] ⟨rfl,rfl,rfl,trivial⟩ (fun u=>?_)
      refine c_seq<|c_seq<|c_region<|g_v rfl r_move<|g_v rfl (r_field (n:=2) Try.underlying103 rfl Try.sizeOf26 rfl rfl)<|g_v rfl (r_load (tag:=100010) rfl rfl rfl Try.isAgg26)<|g_v rfl (r_lenL Try.underlying26 rfl)<|g_v rfl (r_lss rfl rfl)<|g_nil<|d_then ?_
      refine c_cond rfl (fun h101=>?_) (fun h101=>?_)
      ·
       replace hm:=ite_t hm (of_decide_eq_true h101)
       refine c_skip<|d_then<|c_seq<|c_block<|c_seq<|c_region<|g_v rfl (r_field (n:=2) Try.underlying103 rfl Try.sizeOf26 rfl rfl)<|g_v rfl (r_load (tag:=100010) rfl rfl rfl Try.isAgg26)<|g_v rfl r_move ?_
       replace hm:=bnd hm
       obtain ⟨x102,hx102,hm⟩:=hm
       refine g_know _ (fun W hS=>cl_at (p:=(Sta.mk w0 M H R φ).ok) (sz:=3) (fun _=>rfl) (by decide) (ok_pre (H1:=[_]) (R1:=[]) hS (fun W h=>h)) fp0_0 hx102) ?_
       rintro ⟨ad103,hA105,f104⟩
       refine g_v rfl (r_ix Try.underlying26 Try.sizeOf56 rfl hA105 rfl hx102)<|g_v rfl (r_ldA rfl Try.isAgg56 Try.sizeOf56 (fun W hS=>(f104 W (ok_pre (H1:=[_]) (R1:=[]) hS (fun W h=>h))).take 3) rfl) ?_
       refine g_e rfl (e_alloc 100050 Try.zeroValue56) (fun g106 _=>?_)
       refine g_storeL (tag:=100050) rfl rfl rfl rfl Try.sizeOf56 rfl rfl<|g_nil<|d_then ?_
       refine c_flat [(1,.pointer (some ⟨g1,0,none⟩)),(3,.int .i64 i76),(4,.int .i64 i77),(5,.pointer (some ⟨g106,0,none⟩))] ⟨rfl,rfl,rfl,rfl,trivial⟩ (fun u=>?_)
       refine c_sta ⟨w0,M,(100050,g106,.cells #[.int .i64 x102.fTerm,.int .i64 x102.fKind,.string x102.fData] 56 (0,0))::(100010,g1,.cells #[.int .i64 p0.fBase,.int .i64 p0.fBaseTerm,.slice Ap0_0 p0.fEntries.length cp0_0] 103 (0,0))::H,R,φ⟩ (fun _ h=>h)<|c_seq<|c_seq<|c_region<|g_v rfl (r_field (n:=0) Try.underlying56 rfl Try.sizeOf3 rfl rfl)<|g_v rfl (r_load (tag:=100050) rfl rfl rfl Try.isAgg3)<|g_v rfl r_move<|g_v rfl (r_lss rfl rfl)<|g_v rfl r_move ?_
       refine g_if rfl rfl rfl rfl rfl (fun h107=>?_) (fun h107=>?_)
       ·
        replace hm:=ite_f hm (of_decide_eq_false h107)
        refine g_v rfl (r_field (n:=0) Try.underlying56 rfl Try.sizeOf3 rfl rfl)<|g_do rfl rfl rfl rfl rfl h107<|g_v rfl (r_load (tag:=100050) rfl rfl rfl Try.isAgg3)<|g_do rfl rfl rfl rfl rfl h107<|g_v rfl (r_gtr rfl rfl)<|g_v rfl (r_pick0 rfl h107)<|g_v rfl r_move ?_
        refine g_if rfl rfl rfl rfl rfl (fun h108=>?_) (fun h108=>?_)
        ·
         replace hm:=ite_f hm (of_decide_eq_false h108)
         refine g_v rfl (r_field (n:=1) Try.underlying56 rfl Try.sizeOf3 rfl rfl)<|g_do rfl rfl rfl rfl rfl h108<|g_v rfl (r_load (tag:=100050) rfl rfl rfl Try.isAgg3)<|g_do rfl rfl rfl rfl rfl h108<|g_v rfl (r_lss rfl rfl)<|g_v rfl (r_pick0 rfl h108)<|g_v rfl r_move ?_
         refine g_if rfl rfl rfl rfl rfl (fun h109=>?_) (fun h109=>?_)
         ·
          replace hm:=ite_f hm (of_decide_eq_false h109)
          refine g_v rfl (r_field (n:=1) Try.underlying56 rfl Try.sizeOf3 rfl rfl)<|g_do rfl rfl rfl rfl rfl h109<|g_v rfl (r_load (tag:=100050) rfl rfl rfl Try.isAgg3)<|g_do rfl rfl rfl rfl rfl h109<|g_v rfl (r_gtr rfl rfl)<|g_v rfl (r_pick0 rfl h109)<|g_v rfl r_move ?_
          refine g_if rfl rfl rfl rfl rfl (fun h110=>?_) (fun h110=>?_)
          ·
           replace hm:=ite_f hm (of_decide_eq_false h110)
           refine g_v rfl (r_field (n:=2) Try.underlying56 rfl Try.sizeOf9 rfl rfl)<|g_do rfl rfl rfl rfl rfl h110<|g_v rfl (r_load (tag:=100050) rfl rfl rfl Try.isAgg9)<|g_do rfl rfl rfl rfl rfl h110<|g_v rfl (r_len Try.underlying9 rfl)<|g_do rfl rfl rfl rfl rfl h110<|g_v rfl (r_gtr rfl rfl)<|g_v rfl (r_pick0 rfl h110)<|g_nil<|d_then ?_
           refine c_flat [(1,.pointer (some ⟨g1,0,none⟩)),(4,.int .i64 i77),(5,.pointer (some ⟨g106,0,none⟩)),(70,.bool (decide (8000 < (x102.fData.size : Int))))] ⟨rfl,rfl,rfl,rfl,trivial⟩ (fun u=>?_)
           refine c_cond rfl (fun h111=>?_) (fun h111=>?_)
           ·
            replace hm:=ite_t hm (of_decide_eq_true h111)
            refine c_seq<|c_region<|g_v rfl r_assign<|g_nil<|d_then<|c_ret<|d_ret_then<|d_ret_block<|d_ret_then<|d_ret_then ?_
            refine d_ret_block<|d_ret_then<|d_ret_then ?_
            replace hm:=nx_out (C:=(fun e : Unit ⊕ Int=>Sum.elim (fun e=>m_ref11_Check_j1) (fun x=>some x) e = some r)) hm hnx2 hr2
            replace hm : some 1 = some r:=hm
            cases hm
            exact d_retC () Try.results81 (res_tmp (res_nil rfl)) trivial (fun W h=>ok_pre (H1:=[_,_]) (R1:=[]) h (fun W hφ=>hφ)) (.inr rfl)
           replace hm:=ite_f hm (of_decide_eq_false h111)
           refine c_skip<|d_then<|c_seq<|c_region<|g_v rfl (r_field (n:=2) Try.underlying56 rfl Try.sizeOf9 rfl rfl)<|g_v rfl (r_load (tag:=100050) rfl rfl rfl Try.isAgg9) ?_
           replace hm:=bnd hm
           obtain ⟨⟨x112,x113⟩,hx114,hm⟩:=hm
           refine g_cn ⟨w0,M,_,_,φ⟩ (fun _ h=>h) Try.call98 rfl rfl (c_ref11_List x102.fData _ hx114) (fun ⟨A115,c116⟩ hc116=>?_)
           refine g_sta _ (fun W h=>(ok_frontR (t:=2000) (t':=100740) h rfl))<|g_v rfl r_move<|g_v rfl (r_extract rfl rfl)<|g_v rfl (r_extract rfl rfl)<|g_v rfl r_assign<|g_v rfl r_assign<|g_nil<|d_then<|c_seq<|c_seq ?_
           refine c_region<|g_v rfl (r_field (n:=1) Try.underlying56 rfl Try.sizeOf3 rfl rfl)<|g_v rfl (r_load (tag:=100050) rfl rfl rfl Try.isAgg3)<|g_v rfl (r_eql rfl rfl)<|g_v rfl r_move<|g_sta ⟨w0,M,(100050,g106,.cells #[.int .i64 x102.fTerm,.int .i64 x102.fKind,.string x102.fData] 56 (0,0))::(100010,g1,.cells #[.int .i64 p0.fBase,.int .i64 p0.fBaseTerm,.slice Ap0_0 p0.fEntries.length cp0_0] 103 (0,0))::H,(100740,⟨.slice A115 x112.length c116,3,1,x112.length,x112.flatMap (fun x : Int=>[Value.int .i64 x])⟩)::R,φ⟩ (fun _ h=>h) ?_
           refine g_if rfl rfl rfl rfl rfl (fun h119=>?_) (fun h119=>?_)
           ·
            replace hm:=ite_t hm (of_decide_eq_true h119)
            refine g_v rfl r_move<|g_do rfl rfl rfl rfl rfl h119<|g_v rfl (r_not rfl)<|g_v rfl (r_pick1 rfl h119)<|g_nil<|d_then ?_
            refine c_flat [(1,.pointer (some ⟨g1,0,none⟩)),(4,.int .i64 i77),(5,.pointer (some ⟨g106,0,none⟩)),(83,.bool (!x113))] ⟨rfl,rfl,rfl,rfl,trivial⟩ (fun u=>?_)
            refine c_cond rfl (fun h120=>?_) (fun h120=>?_)
            ·
             have h120' : x113 = false:=by revert h120; cases x113 <;> simp
             replace hm:=ite_f hm (bool_nt h120')
             refine c_seq<|c_region<|g_v rfl r_assign<|g_nil<|d_then<|c_ret<|d_ret_then<|d_ret_block<|d_ret_then<|d_ret_then ?_
             refine d_ret_block<|d_ret_then<|d_ret_then ?_
             replace hm:=nx_out (C:=(fun e : Unit ⊕ Int=>Sum.elim (fun e=>m_ref11_Check_j1) (fun x=>some x) e = some r)) hm hnx2 hr2
             replace hm : some 1 = some r:=hm
             cases hm
             exact d_retC () Try.results81 (res_tmp (res_nil rfl)) trivial (fun W h=>ok_pre (H1:=[_,_]) (R1:=[_]) h (fun W hφ=>hφ)) (.inr rfl)
            have h120' : x113 = true:=by revert h120; cases x113 <;> simp
            replace hm:=ite_t hm h120'
            refine c_skip<|d_then<|c_region<|g_v rfl (r_field (n:=0) Try.underlying56 rfl Try.sizeOf3 rfl rfl)<|g_v rfl (r_load (tag:=100050) rfl rfl rfl Try.isAgg3)<|g_v rfl r_assign<|g_nil<|d_normal_block<|d_then<|c_region ?_
            refine g_v rfl r_move<|g_v rfl (r_add rfl rfl rfl)<|g_v rfl r_assign<|g_nil ?_
            obtain ⟨n121,hn121,hlp⟩:=nx_inl hm hnx2
            exact d_round (n121,x102.fTerm,w64 (i77 + 1)) hlp hn121 ⟨rfl,rfl,rfl,trivial⟩ (fun W h=>((h.dropR (t:=100740) rfl).dropH (t:=100050) rfl).phi (fun W hφ=>hφ))
           replace hm:=ite_f hm (of_decide_eq_false h119)
           refine g_no rfl rfl rfl rfl rfl h119<|g_v rfl (r_pick0 rfl h119)<|g_nil<|d_then ?_
           refine c_flat [(1,.pointer (some ⟨g1,0,none⟩)),(4,.int .i64 i77),(5,.pointer (some ⟨g106,0,none⟩)),(83,.bool false)] ⟨rfl,rfl,rfl,rfl,trivial⟩ (fun u=>?_)
           refine c_cond0 rfl rfl<|c_skip<|d_then<|c_region<|g_v rfl (r_field (n:=0) Try.underlying56 rfl Try.sizeOf3 rfl rfl)<|g_v rfl (r_load (tag:=100050) rfl rfl rfl Try.isAgg3)<|g_v rfl r_assign<|g_nil<|d_normal_block<|d_then ?_
           refine c_region<|g_v rfl r_move<|g_v rfl (r_add rfl rfl rfl)<|g_v rfl r_assign<|g_nil ?_
           obtain ⟨n122,hn122,hlp⟩:=nx_inl hm hnx2
           exact d_round (n122,x102.fTerm,w64 (i77 + 1)) hlp hn122 ⟨rfl,rfl,rfl,trivial⟩ (fun W h=>((h.dropR (t:=100740) rfl).dropH (t:=100050) rfl).phi (fun W hφ=>hφ))
          replace hm:=ite_t hm (of_decide_eq_true h110)
          iterate 3 refine g_no rfl rfl rfl rfl rfl h110 ?_
          refine g_v rfl (r_pick1 rfl h110)<|g_nil<|d_then ?_
          refine c_flat [(1,.pointer (some ⟨g1,0,none⟩)),(4,.int .i64 i77),(5,.pointer (some ⟨g106,0,none⟩)),(70,.bool true)] ⟨rfl,rfl,rfl,rfl,trivial⟩ (fun u=>?_)
          refine c_cond1 rfl rfl<|c_seq<|c_region<|g_v rfl r_assign<|g_nil<|d_then<|c_ret<|d_ret_then<|d_ret_block<|d_ret_then ?_
          refine d_ret_then<|d_ret_block<|d_ret_then<|d_ret_then ?_
          replace hm:=nx_out (C:=(fun e : Unit ⊕ Int=>Sum.elim (fun e=>m_ref11_Check_j1) (fun x=>some x) e = some r)) hm hnx2 hr2
          replace hm : some 1 = some r:=hm
          cases hm
          exact d_retC () Try.results81 (res_tmp (res_nil rfl)) trivial (fun W h=>ok_pre (H1:=[_,_]) (R1:=[]) h (fun W hφ=>hφ)) (.inr rfl)
         replace hm:=ite_t hm (of_decide_eq_true h109)
         refine g_no rfl rfl rfl rfl rfl h109<|g_no rfl rfl rfl rfl rfl h109<|g_v rfl (r_pick1 rfl h109)<|g_v rfl r_move ?_
         iterate 4 refine g_no rfl rfl rfl rfl rfl rfl ?_
         refine g_v rfl (r_pick1 rfl rfl)<|g_nil<|d_then ?_
         refine c_flat [(1,.pointer (some ⟨g1,0,none⟩)),(4,.int .i64 i77),(5,.pointer (some ⟨g106,0,none⟩)),(70,.bool true)] ⟨rfl,rfl,rfl,rfl,trivial⟩ (fun u=>?_)
         refine c_cond1 rfl rfl<|c_seq<|c_region<|g_v rfl r_assign<|g_nil<|d_then<|c_ret<|d_ret_then<|d_ret_block<|d_ret_then ?_
         refine d_ret_then<|d_ret_block<|d_ret_then<|d_ret_then ?_
         replace hm:=nx_out (C:=(fun e : Unit ⊕ Int=>Sum.elim (fun e=>m_ref11_Check_j1) (fun x=>some x) e = some r)) hm hnx2 hr2
         replace hm : some 1 = some r:=hm
         cases hm
         exact d_retC () Try.results81 (res_tmp (res_nil rfl)) trivial (fun W h=>ok_pre (H1:=[_,_]) (R1:=[]) h (fun W hφ=>hφ)) (.inr rfl)
        replace hm:=ite_t hm (of_decide_eq_true h108)
        refine g_no rfl rfl rfl rfl rfl h108<|g_no rfl rfl rfl rfl rfl h108<|g_v rfl (r_pick1 rfl h108)<|g_v rfl r_move ?_
        iterate 3 refine g_no rfl rfl rfl rfl rfl rfl ?_
        refine g_v rfl (r_pick1 rfl rfl)<|g_v rfl r_move ?_
        iterate 4 refine g_no rfl rfl rfl rfl rfl rfl ?_
        refine g_v rfl (r_pick1 rfl rfl)<|g_nil<|d_then ?_
        refine c_flat [(1,.pointer (some ⟨g1,0,none⟩)),(4,.int .i64 i77),(5,.pointer (some ⟨g106,0,none⟩)),(70,.bool true)] ⟨rfl,rfl,rfl,rfl,trivial⟩ (fun u=>?_)
        refine c_cond1 rfl rfl<|c_seq<|c_region<|g_v rfl r_assign<|g_nil<|d_then<|c_ret<|d_ret_then<|d_ret_block<|d_ret_then ?_
        refine d_ret_then<|d_ret_block<|d_ret_then<|d_ret_then ?_
        replace hm:=nx_out (C:=(fun e : Unit ⊕ Int=>Sum.elim (fun e=>m_ref11_Check_j1) (fun x=>some x) e = some r)) hm hnx2 hr2
        replace hm : some 1 = some r:=hm
        cases hm
        exact d_retC () Try.results81 (res_tmp (res_nil rfl)) trivial (fun W h=>ok_pre (H1:=[_,_]) (R1:=[]) h (fun W hφ=>hφ)) (.inr rfl)
       replace hm:=ite_t hm (of_decide_eq_true h107)
       refine g_no rfl rfl rfl rfl rfl h107<|g_no rfl rfl rfl rfl rfl h107<|g_v rfl (r_pick1 rfl h107)<|g_v rfl r_move ?_
       iterate 3 refine g_no rfl rfl rfl rfl rfl rfl ?_
       refine g_v rfl (r_pick1 rfl rfl)<|g_v rfl r_move ?_
       iterate 3 refine g_no rfl rfl rfl rfl rfl rfl ?_
       refine g_v rfl (r_pick1 rfl rfl)<|g_v rfl r_move ?_
       iterate 4 refine g_no rfl rfl rfl rfl rfl rfl ?_
       refine g_v rfl (r_pick1 rfl rfl)<|g_nil<|d_then ?_
       refine c_flat [(1,.pointer (some ⟨g1,0,none⟩)),(4,.int .i64 i77),(5,.pointer (some ⟨g106,0,none⟩)),(70,.bool true)] ⟨rfl,rfl,rfl,rfl,trivial⟩ (fun u=>?_)
       refine c_cond1 rfl rfl<|c_seq<|c_region<|g_v rfl r_assign<|g_nil<|d_then<|c_ret<|d_ret_then<|d_ret_block<|d_ret_then ?_
       refine d_ret_then<|d_ret_block<|d_ret_then<|d_ret_then ?_
       replace hm:=nx_out (C:=(fun e : Unit ⊕ Int=>Sum.elim (fun e=>m_ref11_Check_j1) (fun x=>some x) e = some r)) hm hnx2 hr2
       replace hm : some 1 = some r:=hm
       cases hm
       exact d_retC () Try.results81 (res_tmp (res_nil rfl)) trivial (fun W h=>ok_pre (H1:=[_,_]) (R1:=[]) h (fun W hφ=>hφ)) (.inr rfl)
      replace hm:=ite_f hm (of_decide_eq_false h101)
      refine c_exit<|d_exit_then<|d_exit_then<|d_exit_block ?_
      replace hm:=nx_out (C:=(fun e : Unit ⊕ Int=>Sum.elim (fun e=>m_ref11_Check_j1) (fun x=>some x) e = some r)) hm hnx2 hr2
      exact d_round () hm Nat.zero_lt_one trivial (fun W h=>(h.dropH (t:=100010) rfl).phi (fun W hφ=>hφ))
     unfold m_ref11_Check_j1 at hm
     refine d_flat [] trivial (fun u=>?_)
     refine d_sta ⟨w0,M,H,R,φ⟩ (fun _ h=>h)<|d_then<|c_seq<|c_region<|g_v rfl r_assign<|g_nil<|d_then<|c_ret ?_
     cases hm
     exact d_retC () Try.results81 (res_tmp (res_nil rfl)) trivial (fun W h=>ok_pre (H1:=[]) (R1:=[]) h (fun W hφ=>hφ)) (.inr rfl)
    replace hm:=ite_t hm (of_decide_eq_true h5)
    iterate 3 refine g_no rfl rfl rfl rfl rfl h5 ?_
    refine g_v rfl (r_pick1 rfl h5)<|g_nil<|d_then ?_
    refine c_flat [(1,.pointer (some ⟨g1,0,none⟩)),(31,.bool true)] ⟨rfl,rfl,trivial⟩ (fun u=>?_)
    refine c_cond1 rfl rfl<|c_seq<|c_region<|g_v rfl r_assign<|g_nil<|d_then<|c_ret<|d_ret_then ?_
    cases hm
    exact d_retC () Try.results81 (res_tmp (res_nil rfl)) trivial (fun W h=>ok_pre (H1:=[_]) (R1:=[]) h (fun W hφ=>hφ)) (.inr rfl)
   replace hm:=ite_t hm (of_decide_eq_true h4)
   refine g_no rfl rfl rfl rfl rfl h4<|g_no rfl rfl rfl rfl rfl h4<|g_v rfl (r_pick1 rfl h4)<|g_v rfl r_move ?_
   iterate 4 refine g_no rfl rfl rfl rfl rfl rfl ?_
   refine g_v rfl (r_pick1 rfl rfl)<|g_nil<|d_then ?_
   refine c_flat [(1,.pointer (some ⟨g1,0,none⟩)),(31,.bool true)] ⟨rfl,rfl,trivial⟩ (fun u=>?_)
   refine c_cond1 rfl rfl<|c_seq<|c_region<|g_v rfl r_assign<|g_nil<|d_then<|c_ret<|d_ret_then ?_
   cases hm
   exact d_retC () Try.results81 (res_tmp (res_nil rfl)) trivial (fun W h=>ok_pre (H1:=[_]) (R1:=[]) h (fun W hφ=>hφ)) (.inr rfl)
  replace hm:=ite_t hm (of_decide_eq_true h3)
  refine g_no rfl rfl rfl rfl rfl h3<|g_no rfl rfl rfl rfl rfl h3<|g_v rfl (r_pick1 rfl h3)<|g_v rfl r_move ?_
  iterate 3 refine g_no rfl rfl rfl rfl rfl rfl ?_
  refine g_v rfl (r_pick1 rfl rfl)<|g_v rfl r_move ?_
  iterate 4 refine g_no rfl rfl rfl rfl rfl rfl ?_
  refine g_v rfl (r_pick1 rfl rfl)<|g_nil<|d_then ?_
  refine c_flat [(1,.pointer (some ⟨g1,0,none⟩)),(31,.bool true)] ⟨rfl,rfl,trivial⟩ (fun u=>?_)
  refine c_cond1 rfl rfl<|c_seq<|c_region<|g_v rfl r_assign<|g_nil<|d_then<|c_ret<|d_ret_then ?_
  cases hm
  exact d_retC () Try.results81 (res_tmp (res_nil rfl)) trivial (fun W h=>ok_pre (H1:=[_]) (R1:=[]) h (fun W hφ=>hφ)) (.inr rfl)
 replace hm:=ite_t hm (of_decide_eq_true h2)
 refine g_no rfl rfl rfl rfl rfl h2<|g_no rfl rfl rfl rfl rfl h2<|g_v rfl (r_pick1 rfl h2)<|g_v rfl r_move ?_
 iterate 3 refine g_no rfl rfl rfl rfl rfl rfl ?_
 refine g_v rfl (r_pick1 rfl rfl)<|g_v rfl r_move ?_
 iterate 3 refine g_no rfl rfl rfl rfl rfl rfl ?_
 refine g_v rfl (r_pick1 rfl rfl)<|g_v rfl r_move ?_
 iterate 4 refine g_no rfl rfl rfl rfl rfl rfl ?_
 refine g_v rfl (r_pick1 rfl rfl)<|g_nil<|d_then ?_
 refine c_flat [(1,.pointer (some ⟨g1,0,none⟩)),(31,.bool true)] ⟨rfl,rfl,trivial⟩ (fun u=>?_)
 refine c_cond1 rfl rfl<|c_seq<|c_region<|g_v rfl r_assign<|g_nil<|d_then<|c_ret<|d_ret_then ?_
 cases hm
 exact d_retC () Try.results81 (res_tmp (res_nil rfl)) trivial (fun W h=>ok_pre (H1:=[_]) (R1:=[]) h (fun W hφ=>hφ)) (.inr rfl)
noncomputable def m_ref11_Right_j1 (p0 : List Int) : Option Bool:=
  some (decide (0 < (p0.length : Int)))
noncomputable def m_ref11_Right_s2 (p0 : List Int) (i127 : Int) : Option (Int ⊕ (Unit ⊕ Bool)):=
  if i127 < (p0.length : Int) then
    (at_ p0 i127).bind fun x228=>
    if x228 < 0 then
      some (.inr (.inr false))
    else
      (at_ p0 i127).bind fun x233=>
      if 63 < x233 then
        some (.inr (.inr false))
      else
        if 0 < i127 then
          (at_ p0 i127).bind fun x239=>
          (at_ p0 (w64 (i127 - 1))).bind fun x243=>
          if x239 ≤ x243 then
            some (.inr (.inr false))
          else
            some (.inl (w64 (i127 + 1)))
        else
          some (.inl (w64 (i127 + 1)))
  else
    some (.inr (.inl ()))
noncomputable def m_ref11_Right (p0 : List Int) : Option Bool:=
  (loop (fun s=>m_ref11_Right_s2 p0 s) 0).bind fun e=>Sum.elim (fun e=>m_ref11_Right_j1 p0) (fun x=>some x) e
theorem c_ref11_Right {w0 : World} {M : Nat→Prop} {H : List (Nat×Nat×Obj)} {R : List (Nat×Row)} {φ : World→Prop} (p0 : List Int) (Ap0_0 : Option Addr) (cp0_0 : Nat) (hcp0_0 : p0.length ≤ cp0_0) (fp0_0 : ∀ W,(Sta.mk w0 M H R φ).ok W→Cl W Ap0_0 (p0.flatMap (fun x : Int=>[Value.int .i64 x]))) (r : Bool) (hm : m_ref11_Right p0 = some r) :
    Cn Try.prog 82 #[.slice Ap0_0 p0.length cp0_0] ⟨w0,M,H,R,φ⟩ (fun x : Unit=>.bool r) (fun x=>True) (fun x=>⟨w0,M,H,R,φ⟩):=by
 unfold m_ref11_Right at hm
 refine cn_intro (fn:=Try.f82) (N:=41) Try.func82 rfl Try.ntmps82 rfl<|c_seq<|c_region<|g_v rfl r_assign<|g_nil<|d_then<|c_seq<|c_seq<|c_region<|g_v rfl r_assign ?_
 refine g_nil<|d_then ?_
 refine c_cut (ι:=Unit) [0] (fun _=>[]) (fun _=>⟨w0,M,H,R,φ⟩) (fun _=>m_ref11_Right_j1 p0 = some r) ?_ (fun _ u hm=>?_)
 ·
  refine c_block ?_
  replace hm:=bnd hm
  obtain ⟨out2,hl2,hr2⟩:=hm
  obtain ⟨n188',hl2⟩:=loop_lp hl2
  refine c_loopU (ι:=Nat×Int) [0,3] (fun ⟨n188,i127⟩=>[(3,.int .i64 i127)]) (fun ⟨n188,i127⟩=>⟨w0,M,H,R,φ⟩) (fun ⟨n188,i127⟩=>Lp (fun s=>m_ref11_Right_s2 p0 s) n188 i127 out2) (fun ⟨n188,i127⟩=>n188) (n188',0) hl2 ⟨rfl,rfl,trivial⟩ (fun W h=>h.phi (fun W hφ=>hφ)) (fun ⟨n188,i127⟩ u hlp=>?_)
  obtain ⟨o2,hm,hnx2⟩:=lp_step hlp
  clear hlp
  replace hm : m_ref11_Right_s2 p0 i127 = some o2:=hm
  unfold m_ref11_Right_s2 at hm
  refine c_flat [(0,.slice Ap0_0 p0.length cp0_0),(3,.int .i64 i127)] ⟨rfl,rfl,trivial⟩ (fun u=>?_)
  refine c_sta ⟨w0,M,H,R,φ⟩ (fun _ h=>h)<|c_seq<|c_seq<|c_region<|g_v rfl r_move<|g_v rfl r_move<|g_v rfl (r_lenL Try.underlying27 rfl)<|g_v rfl (r_lss rfl rfl)<|g_nil<|d_then ?_
  refine c_cond rfl (fun h189=>?_) (fun h189=>?_)
  ·
   replace hm:=ite_t hm (of_decide_eq_true h189)
   refine c_skip<|d_then<|c_seq<|c_block<|c_seq<|ga_start (n:=28) ⟨w0,M,H,R,φ⟩ [] #[false,false,false,false,false,false,false,false,false,false,false,false,false,false,false,false,false,false,false,false,false,false,false,false,false,false,false,false] (fun W h=>h.phi (fun W hφ=>hφ)) mixed rfl rfl<|ga_v (i:=0) (bz 28 1) rfl (by kernel_rfl) (fun _ _ _ _ h=>h) rfl (r_move)<|ga_r (i:=1) (bz 28 3) rfl (by kernel_rfl) (by decide) rfl (r_move) ?_
   replace hm:=bnd hm
   obtain ⟨x228,hx228,hm⟩:=hm
   refine ga_know _ (fun W hS=>cl_at (p:=(Sta.mk w0 M H R φ).ok) (sz:=1) (fun _=>rfl) (by decide) (ok_pre (H1:=[]) (R1:=[]) hS (fun W h=>h)) fp0_0 hx228) ?_
   rintro ⟨ad229,hA231,f230⟩
   refine ga_r (i:=2) (bz 28 7) rfl (by kernel_rfl) (by decide) rfl (r_ix Try.underlying27 Try.sizeOf3 rfl hA231 rfl hx228)<|ga_r (i:=3) (bz 28 15) rfl (by kernel_rfl) (by decide) rfl (r_ld rfl Try.isAgg3 (fun W hS=>Cl.head (f230 W (ok_pre (H1:=[]) (R1:=[]) hS (fun W h=>h)))))<|ga_r (i:=4) (bz 28 31) rfl (by kernel_rfl) (by decide) rfl (r_lss rfl rfl)<|ga_r (i:=5) (bz 28 63) rfl (by kernel_rfl) (by decide) rfl (r_move) ?_
   refine ga_if (t:=15) rfl (fun h232=>?_) (fun h232=>?_)
   ·
    replace hm:=ite_t hm (of_decide_eq_true h232)
    refine ga_no (i:=6) (bz 28 127) rfl (by kernel_rfl) (fun _ _ _ _ h=>h) rfl rfl rfl rfl rfl h232<|ga_no (i:=7) (bz 28 255) rfl (by kernel_rfl) (fun _ _ _ _ h=>h) rfl rfl rfl rfl rfl h232<|ga_no (i:=8) (bz 28 511) rfl (by kernel_rfl) (fun _ _ _ _ h=>h) rfl rfl rfl rfl rfl h232<|ga_no (i:=9) (bz 28 1023) rfl (by kernel_rfl) (fun _ _ _ _ h=>h) rfl rfl rfl rfl rfl h232<|ga_no (i:=10) (bz 28 2047) rfl (by kernel_rfl) (fun _ _ _ _ h=>h) rfl rfl rfl rfl rfl h232<|ga_r (i:=11) (bz 28 4095) rfl (by kernel_rfl) (by decide) rfl (r_pick1 rfl h232)<|ga_r (i:=12) (bz 28 8191) rfl (by kernel_rfl) (by decide) rfl (r_move)<|ga_no (i:=13) (bz 28 16383) rfl (by kernel_rfl) (fun _ _ _ _ h=>h) rfl rfl rfl rfl rfl rfl<|ga_no (i:=14) (bz 28 32767) rfl (by kernel_rfl) (fun _ _ _ _ h=>h) rfl rfl rfl rfl rfl rfl<|ga_no (i:=15) (bz 28 65535) rfl (by kernel_rfl) (fun _ _ _ _ h=>h) rfl rfl rfl rfl rfl rfl ?_
    refine ga_nu (i:=16) (bz 28 131071) rfl (by kernel_rfl) (fun _ _ _ _ h=>h) rfl rfl rfl rfl rfl<|ga_nu (i:=17) (bz 28 262143) rfl (by kernel_rfl) (fun _ _ _ _ h=>h) rfl rfl rfl rfl rfl<|ga_nu (i:=18) (bz 28 524287) rfl (by kernel_rfl) (fun _ _ _ _ h=>h) rfl rfl rfl rfl rfl<|ga_nu (i:=19) (bz 28 1048575) rfl (by kernel_rfl) (fun _ _ _ _ h=>h) rfl rfl rfl rfl rfl<|ga_nu (i:=20) (bz 28 2097151) rfl (by kernel_rfl) (fun _ _ _ _ h=>h) rfl rfl rfl rfl rfl<|ga_nu (i:=21) (bz 28 4194303) rfl (by kernel_rfl) (fun _ _ _ _ h=>h) rfl rfl rfl rfl rfl<|ga_nu (i:=22) (bz 28 8388607) rfl (by kernel_rfl) (fun _ _ _ _ h=>h) rfl rfl rfl rfl rfl<|ga_nu (i:=23) (bz 28 16777215) rfl (by kernel_rfl) (fun _ _ _ _ h=>h) rfl rfl rfl rfl rfl<|ga_nu (i:=24) (bz 28 33554431) rfl (by kernel_rfl) (fun _ _ _ _ h=>h) rfl rfl rfl rfl rfl<|ga_nu (i:=25) (bz 28 67108863) rfl (by kernel_rfl) (fun _ _ _ _ h=>h) rfl rfl rfl rfl rfl ?_
    refine ga_no (i:=26) (bz 28 134217727) rfl (by kernel_rfl) (fun _ _ _ _ h=>h) rfl rfl rfl rfl rfl rfl<|ga_r (i:=27) (bz 28 268435455) rfl (by kernel_rfl) (by decide) rfl (r_pick1 rfl rfl)<|ga_done (by kernel_rfl)<|d_then ?_
    refine c_flat [(0,.slice Ap0_0 p0.length cp0_0),(3,.int .i64 i127),(37,.bool true)] ⟨rfl,rfl,rfl,trivial⟩ (fun u=>?_)
    refine c_cond1 rfl rfl<|c_seq<|c_region<|g_v rfl r_assign<|g_nil<|d_then<|c_ret<|d_ret_block<|d_ret_then<|d_ret_then ?_
    refine d_ret_block<|d_ret_then<|d_ret_then ?_
    replace hm:=nx_out (C:=(fun e : Unit ⊕ Bool=>Sum.elim (fun e=>m_ref11_Right_j1 p0) (fun x=>some x) e = some r)) hm hnx2 hr2
    replace hm : some false = some r:=hm
    cases hm
    exact d_retC () Try.results82 (res_tmp (res_nil rfl)) trivial (fun W h=>ok_pre (H1:=[]) (R1:=[]) h (fun W hφ=>hφ)) (.inr rfl)
   replace hm:=ite_f hm (of_decide_eq_false h232)
   refine ga_do (i:=6) (bz 28 127) rfl (by kernel_rfl) (fun _ _ _ _ h=>h) rfl rfl rfl rfl rfl h232 (r_move)<|ga_rG (i:=7) (bz 28 255) rfl (by kernel_rfl) (by decide) rfl rfl rfl rfl rfl h232 (r_move) ?_
   replace hm:=bnd hm
   obtain ⟨x233,hx233,hm⟩:=hm
   refine ga_know _ (fun W hS=>cl_at (p:=(Sta.mk w0 M H R φ).ok) (sz:=1) (fun _=>rfl) (by decide) (ok_pre (H1:=[]) (R1:=[]) hS (fun W h=>h)) fp0_0 hx233) ?_
   rintro ⟨ad234,hA236,f235⟩
   refine ga_rG (i:=8) (bz 28 511) rfl (by kernel_rfl) (by decide) rfl rfl rfl rfl rfl h232 (r_ix Try.underlying27 Try.sizeOf3 rfl hA236 rfl hx233)<|ga_rG (i:=9) (bz 28 1023) rfl (by kernel_rfl) (by decide) rfl rfl rfl rfl rfl h232 (r_ld rfl Try.isAgg3 (fun W hS=>Cl.head (f235 W (ok_pre (H1:=[]) (R1:=[]) hS (fun W h=>h)))))<|ga_rG (i:=10) (bz 28 2047) rfl (by kernel_rfl) (by decide) rfl rfl rfl rfl rfl h232 (r_gtr rfl rfl)<|ga_r (i:=11) (bz 28 4095) rfl (by kernel_rfl) (by decide) rfl (r_pick0 rfl h232)<|ga_r (i:=12) (bz 28 8191) rfl (by kernel_rfl) (by decide) rfl (r_move) ?_
   refine ga_if (t:=22) rfl (fun h237=>?_) (fun h237=>?_)
   ·
    replace hm:=ite_t hm (of_decide_eq_true h237)
    refine ga_no (i:=13) (bz 28 16383) rfl (by kernel_rfl) (fun _ _ _ _ h=>h) rfl rfl rfl rfl rfl h237<|ga_no (i:=14) (bz 28 32767) rfl (by kernel_rfl) (fun _ _ _ _ h=>h) rfl rfl rfl rfl rfl h237<|ga_no (i:=15) (bz 28 65535) rfl (by kernel_rfl) (fun _ _ _ _ h=>h) rfl rfl rfl rfl rfl h237<|ga_nu (i:=16) (bz 28 131071) rfl (by kernel_rfl) (fun _ _ _ _ h=>h) rfl rfl rfl rfl rfl<|ga_nu (i:=17) (bz 28 262143) rfl (by kernel_rfl) (fun _ _ _ _ h=>h) rfl rfl rfl rfl rfl<|ga_nu (i:=18) (bz 28 524287) rfl (by kernel_rfl) (fun _ _ _ _ h=>h) rfl rfl rfl rfl rfl<|ga_nu (i:=19) (bz 28 1048575) rfl (by kernel_rfl) (fun _ _ _ _ h=>h) rfl rfl rfl rfl rfl<|ga_nu (i:=20) (bz 28 2097151) rfl (by kernel_rfl) (fun _ _ _ _ h=>h) rfl rfl rfl rfl rfl<|ga_nu (i:=21) (bz 28 4194303) rfl (by kernel_rfl) (fun _ _ _ _ h=>h) rfl rfl rfl rfl rfl<|ga_nu (i:=22) (bz 28 8388607) rfl (by kernel_rfl) (fun _ _ _ _ h=>h) rfl rfl rfl rfl rfl ?_
    refine ga_nu (i:=23) (bz 28 16777215) rfl (by kernel_rfl) (fun _ _ _ _ h=>h) rfl rfl rfl rfl rfl<|ga_nu (i:=24) (bz 28 33554431) rfl (by kernel_rfl) (fun _ _ _ _ h=>h) rfl rfl rfl rfl rfl<|ga_nu (i:=25) (bz 28 67108863) rfl (by kernel_rfl) (fun _ _ _ _ h=>h) rfl rfl rfl rfl rfl<|ga_no (i:=26) (bz 28 134217727) rfl (by kernel_rfl) (fun _ _ _ _ h=>h) rfl rfl rfl rfl rfl h237<|ga_r (i:=27) (bz 28 268435455) rfl (by kernel_rfl) (by decide) rfl (r_pick1 rfl h237)<|ga_done (by kernel_rfl)<|d_then ?_
    refine c_flat [(0,.slice Ap0_0 p0.length cp0_0),(3,.int .i64 i127),(37,.bool true)] ⟨rfl,rfl,rfl,trivial⟩ (fun u=>?_)
    refine c_cond1 rfl rfl<|c_seq<|c_region<|g_v rfl r_assign<|g_nil<|d_then<|c_ret<|d_ret_block<|d_ret_then<|d_ret_then ?_
    refine d_ret_block<|d_ret_then<|d_ret_then ?_
    replace hm:=nx_out (C:=(fun e : Unit ⊕ Bool=>Sum.elim (fun e=>m_ref11_Right_j1 p0) (fun x=>some x) e = some r)) hm hnx2 hr2
    replace hm : some false = some r:=hm
    cases hm
    exact d_retC () Try.results82 (res_tmp (res_nil rfl)) trivial (fun W h=>ok_pre (H1:=[]) (R1:=[]) h (fun W hφ=>hφ)) (.inr rfl)
   replace hm:=ite_f hm (of_decide_eq_false h237)
   refine ga_rG (i:=13) (bz 28 16383) rfl (by kernel_rfl) (by decide) rfl rfl rfl rfl rfl h237 (r_move)<|ga_rG (i:=14) (bz 28 32767) rfl (by kernel_rfl) (by decide) rfl rfl rfl rfl rfl h237 (r_gtr rfl rfl)<|ga_rG (i:=15) (bz 28 65535) rfl (by kernel_rfl) (by decide) rfl rfl rfl rfl rfl h237 (r_move) ?_
   refine ga_if (t:=25) rfl (fun h238=>?_) (fun h238=>?_)
   ·
    replace hm:=ite_t hm (of_decide_eq_true h238)
    refine ga_do (i:=16) (bz 28 131071) rfl (by kernel_rfl) (fun _ _ _ _ h=>h) rfl rfl rfl rfl rfl h238 (r_move)<|ga_do (i:=17) (bz 28 262143) rfl (by kernel_rfl) (fun _ _ _ _ h=>h) rfl rfl rfl rfl rfl h238 (r_move) ?_
    replace hm:=bnd hm
    obtain ⟨x239,hx239,hm⟩:=hm
    refine ga_know _ (fun W hS=>cl_at (p:=(Sta.mk w0 M H R φ).ok) (sz:=1) (fun _=>rfl) (by decide) (ok_pre (H1:=[]) (R1:=[]) hS (fun W h=>h)) fp0_0 hx239) ?_
    rintro ⟨ad240,hA242,f241⟩
    refine ga_do (i:=18) (bz 28 524287) rfl (by kernel_rfl) (fun _ _ _ _ h=>h) rfl rfl rfl rfl rfl h238 (r_ix Try.underlying27 Try.sizeOf3 rfl hA242 rfl hx239)<|ga_do (i:=19) (bz 28 1048575) rfl (by kernel_rfl) (fun _ _ _ _ h=>h) rfl rfl rfl rfl rfl h238 (r_ld rfl Try.isAgg3 (fun W hS=>Cl.head (f241 W (ok_pre (H1:=[]) (R1:=[]) hS (fun W h=>h)))))<|ga_do (i:=20) (bz 28 2097151) rfl (by kernel_rfl) (fun _ _ _ _ h=>h) rfl rfl rfl rfl rfl h238 (r_move)<|ga_rG (i:=21) (bz 28 4194303) rfl (by kernel_rfl) (by decide) rfl rfl rfl rfl rfl h238 (r_move)<|ga_rG (i:=22) (bz 28 8388607) rfl (by kernel_rfl) (by decide) rfl rfl rfl rfl rfl h238 (r_sub rfl rfl rfl) ?_
    replace hm:=bnd hm
    obtain ⟨x243,hx243,hm⟩:=hm
    refine ga_know _ (fun W hS=>cl_at (p:=(Sta.mk w0 M H R φ).ok) (sz:=1) (fun _=>rfl) (by decide) (ok_pre (H1:=[]) (R1:=[]) hS (fun W h=>h)) fp0_0 hx243) ?_
    rintro ⟨ad244,hA246,f245⟩
    refine ga_rG (i:=23) (bz 28 16777215) rfl (by kernel_rfl) (by decide) rfl rfl rfl rfl rfl h238 (r_ix Try.underlying27 Try.sizeOf3 rfl hA246 rfl hx243)<|ga_rG (i:=24) (bz 28 33554431) rfl (by kernel_rfl) (by decide) rfl rfl rfl rfl rfl h238 (r_ld rfl Try.isAgg3 (fun W hS=>Cl.head (f245 W (ok_pre (H1:=[]) (R1:=[]) hS (fun W h=>h)))))<|ga_rG (i:=25) (bz 28 67108863) rfl (by kernel_rfl) (by decide) rfl rfl rfl rfl rfl h238 (r_leq rfl rfl)<|ga_rG (i:=26) (bz 28 134217727) rfl (by kernel_rfl) (by decide) rfl rfl rfl rfl rfl h237 (r_pick1 rfl h238)<|ga_r (i:=27) (bz 28 268435455) rfl (by kernel_rfl) (by decide) rfl (r_pick0 rfl h237)<|ga_done (by kernel_rfl)<|d_then ?_
    refine c_flat [(0,.slice Ap0_0 p0.length cp0_0),(3,.int .i64 i127),(37,.bool (decide (x239 ≤ x243)))] ⟨rfl,rfl,rfl,trivial⟩ (fun u=>?_)
    refine c_cond rfl (fun h247=>?_) (fun h247=>?_)
    ·
     replace hm:=ite_t hm (of_decide_eq_true h247)
     refine c_seq<|c_region<|g_v rfl r_assign<|g_nil<|d_then<|c_ret<|d_ret_block<|d_ret_then<|d_ret_then<|d_ret_block ?_
     refine d_ret_then<|d_ret_then ?_
     replace hm:=nx_out (C:=(fun e : Unit ⊕ Bool=>Sum.elim (fun e=>m_ref11_Right_j1 p0) (fun x=>some x) e = some r)) hm hnx2 hr2
     replace hm : some false = some r:=hm
     cases hm
     exact d_retC () Try.results82 (res_tmp (res_nil rfl)) trivial (fun W h=>ok_pre (H1:=[]) (R1:=[]) h (fun W hφ=>hφ)) (.inr rfl)
    replace hm:=ite_f hm (of_decide_eq_false h247)
    refine c_skip<|d_normal_block<|d_then<|c_region<|g_v rfl r_move<|g_v rfl (r_add rfl rfl rfl)<|g_v rfl r_assign<|g_nil ?_
    obtain ⟨n248,hn248,hlp⟩:=nx_inl hm hnx2
    exact d_round (n248,w64 (i127 + 1)) hlp hn248 ⟨rfl,rfl,trivial⟩ (fun W h=>h.phi (fun W hφ=>hφ))
   replace hm:=ite_f hm (of_decide_eq_false h238)
   refine ga_no (i:=16) (bz 28 131071) rfl (by kernel_rfl) (fun _ _ _ _ h=>h) rfl rfl rfl rfl rfl h238<|ga_no (i:=17) (bz 28 262143) rfl (by kernel_rfl) (fun _ _ _ _ h=>h) rfl rfl rfl rfl rfl h238<|ga_no (i:=18) (bz 28 524287) rfl (by kernel_rfl) (fun _ _ _ _ h=>h) rfl rfl rfl rfl rfl h238<|ga_no (i:=19) (bz 28 1048575) rfl (by kernel_rfl) (fun _ _ _ _ h=>h) rfl rfl rfl rfl rfl h238<|ga_no (i:=20) (bz 28 2097151) rfl (by kernel_rfl) (fun _ _ _ _ h=>h) rfl rfl rfl rfl rfl h238<|ga_no (i:=21) (bz 28 4194303) rfl (by kernel_rfl) (fun _ _ _ _ h=>h) rfl rfl rfl rfl rfl h238<|ga_no (i:=22) (bz 28 8388607) rfl (by kernel_rfl) (fun _ _ _ _ h=>h) rfl rfl rfl rfl rfl h238<|ga_no (i:=23) (bz 28 16777215) rfl (by kernel_rfl) (fun _ _ _ _ h=>h) rfl rfl rfl rfl rfl h238<|ga_no (i:=24) (bz 28 33554431) rfl (by kernel_rfl) (fun _ _ _ _ h=>h) rfl rfl rfl rfl rfl h238<|ga_no (i:=25) (bz 28 67108863) rfl (by kernel_rfl) (fun _ _ _ _ h=>h) rfl rfl rfl rfl rfl h238 ?_
   refine ga_rG (i:=26) (bz 28 134217727) rfl (by kernel_rfl) (by decide) rfl rfl rfl rfl rfl h237 (r_pick0 rfl h238)<|ga_r (i:=27) (bz 28 268435455) rfl (by kernel_rfl) (by decide) rfl (r_pick0 rfl h237)<|ga_done (by kernel_rfl)<|d_then ?_
   refine c_flat [(0,.slice Ap0_0 p0.length cp0_0),(3,.int .i64 i127),(37,.bool false)] ⟨rfl,rfl,rfl,trivial⟩ (fun u=>?_)
   refine c_cond0 rfl rfl<|c_skip<|d_normal_block<|d_then<|c_region<|g_v rfl r_move<|g_v rfl (r_add rfl rfl rfl)<|g_v rfl r_assign<|g_nil ?_
   obtain ⟨n249,hn249,hlp⟩:=nx_inl hm hnx2
   exact d_round (n249,w64 (i127 + 1)) hlp hn249 ⟨rfl,rfl,trivial⟩ (fun W h=>h.phi (fun W hφ=>hφ))
  replace hm:=ite_f hm (of_decide_eq_false h189)
  refine c_exit<|d_exit_then<|d_exit_then<|d_exit_block ?_
  replace hm:=nx_out (C:=(fun e : Unit ⊕ Bool=>Sum.elim (fun e=>m_ref11_Right_j1 p0) (fun x=>some x) e = some r)) hm hnx2 hr2
  exact d_round () hm Nat.zero_lt_one ⟨rfl,trivial⟩ (fun W h=>h.phi (fun W hφ=>hφ))
 unfold m_ref11_Right_j1 at hm
 refine d_flat [(0,.slice Ap0_0 p0.length cp0_0)] ⟨rfl,trivial⟩ (fun u=>?_)
 refine d_sta ⟨w0,M,H,R,φ⟩ (fun _ h=>h)<|d_then<|c_seq<|c_region<|g_v rfl r_move<|g_v rfl (r_lenL Try.underlying27 rfl)<|g_v rfl (r_gtr rfl rfl)<|g_v rfl r_assign<|g_nil<|d_then ?_
 refine c_ret ?_
 cases hm
 exact d_retC () Try.results82 (res_tmp (res_nil rfl)) trivial (fun W h=>ok_pre (H1:=[]) (R1:=[]) h (fun W hφ=>hφ)) (.inr rfl)
end Go.Proofs.Ytbaobjcaeaofaaa
