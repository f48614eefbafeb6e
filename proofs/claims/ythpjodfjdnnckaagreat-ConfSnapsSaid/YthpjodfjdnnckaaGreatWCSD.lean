import Derived.Test.YthpjodfjdnnckaaGreatWCSC
set_option maxRecDepth 100000
set_option maxHeartbeats 4000000
set_option linter.unusedVariables false
set_option linter.unusedSimpArgs false
namespace Go.Proofs.YthpjodfjdnnckaaGreat
open Go.RowKit Go.Proofs.YthpjodfjdnnckaaGreatW.PrintLast
noncomputable def m_ref13_Load_j4 (l181 : List Int) (l363 : List ByteArray) (l510 : List GAnchor) (x515 : Int) (p0 : ByteArray) (l641 : List GFlush) (s644 : ByteArray) (b645 : Bool) : Option (GConf×Int):=
  (m_ref13_Right (⟨l181,l363,l510,x515,l641⟩ : GConf)).bind fun x646=>
  if b645 = true then
    some ((⟨([] : List Int),([] : List ByteArray),([] : List GAnchor),0,([] : List GFlush)⟩ : GConf),10)
  else
    if x646 = true then
      (m_ref13_Snap (⟨l181,l363,l510,x515,l641⟩ : GConf)).bind fun x650=>
      if x650 = p0 then
        if p0 = (⟨#[]⟩ : ByteArray) then
          some ((⟨([] : List Int),([] : List ByteArray),([] : List GAnchor),0,([] : List GFlush)⟩ : GConf),10)
        else
          some ((⟨l181,l363,l510,x515,l641⟩ : GConf),0)
      else
        some ((⟨([] : List Int),([] : List ByteArray),([] : List GAnchor),0,([] : List GFlush)⟩ : GConf),10)
    else
      some ((⟨([] : List Int),([] : List ByteArray),([] : List GAnchor),0,([] : List GFlush)⟩ : GConf),10)
noncomputable def m_ref13_Load_s5 (x519 : Int) (l683 : List GFlush) (i686 : Int) (s687 : ByteArray) (b688 : Bool) : Option (((List GFlush)×Int×ByteArray×Bool) ⊕ ((List GFlush)×ByteArray×Bool)):=
  if i686 < x519 then
    if b688 = true then
      some (.inr (l683,s687,b688))
    else
      (m_ref13_reader_number 8 (⟨s687,b688⟩ : Gref13_reader)).bind fun (z716 : Int×Gref13_reader)=>
      (m_ref13_reader_name z716.2).bind fun (z721 : ByteArray×Gref13_reader)=>
      (app 24 l683 [(⟨z716.1,z721.1⟩ : GFlush)]).bind fun l723=>
      some (.inl (l723,w64 (i686 + 1),z721.2.fs,z721.2.fbad))
  else
    some (.inr (l683,s687,b688))
noncomputable def m_ref13_Load_j3 (l181 : List Int) (l363 : List ByteArray) (p0 : ByteArray) (l510 : List GAnchor) (s513 : ByteArray) (b514 : Bool) : Option (GConf×Int):=
  (m_ref13_reader_number 8 (⟨s513,b514⟩ : Gref13_reader)).bind fun (z518 : Int×Gref13_reader)=>
  (m_ref13_reader_number 1 z518.2).bind fun (z522 : Int×Gref13_reader)=>
  (loop (fun s=>m_ref13_Load_s5 z522.1 s.1 s.2.1 s.2.2.1 s.2.2.2) (([] : List GFlush),0,z522.2.fs,z522.2.fbad)).bind fun e=>m_ref13_Load_j4 l181 l363 l510 z518.1 p0 e.1 e.2.1 e.2.2
noncomputable def m_ref13_Load_s6 (x368 : Int) (l752 : List GAnchor) (i755 : Int) (s756 : ByteArray) (b757 : Bool) : Option (((List GAnchor)×Int×ByteArray×Bool) ⊕ ((List GAnchor)×ByteArray×Bool)):=
  if i755 < x368 then
    if b757 = true then
      some (.inr (l752,s756,b757))
    else
      (m_ref13_reader_name (⟨s756,b757⟩ : Gref13_reader)).bind fun (z789 : ByteArray×Gref13_reader)=>
      (m_ref13_reader_number 1 z789.2).bind fun (z794 : Int×Gref13_reader)=>
      (m_ref13_reader_take z794.1 z794.2).bind fun (z798 : ByteArray×Gref13_reader)=>
      (app 32 l752 [(⟨z789.1,z798.1⟩ : GAnchor)]).bind fun l800=>
      some (.inl (l800,w64 (i755 + 1),z798.2.fs,z798.2.fbad))
  else
    some (.inr (l752,s756,b757))
noncomputable def m_ref13_Load_j2 (l181 : List Int) (p0 : ByteArray) (l363 : List ByteArray) (s366 : ByteArray) (b367 : Bool) : Option (GConf×Int):=
  (m_ref13_reader_number 1 (⟨s366,b367⟩ : Gref13_reader)).bind fun (z371 : Int×Gref13_reader)=>
  (loop (fun s=>m_ref13_Load_s6 z371.1 s.1 s.2.1 s.2.2.1 s.2.2.2) (([] : List GAnchor),0,z371.2.fs,z371.2.fbad)).bind fun e=>m_ref13_Load_j3 l181 l363 p0 e.1 e.2.1 e.2.2
noncomputable def m_ref13_Load_s7 (x186 : Int) (l836 : List ByteArray) (i839 : Int) (s840 : ByteArray) (b841 : Bool) : Option (((List ByteArray)×Int×ByteArray×Bool) ⊕ ((List ByteArray)×ByteArray×Bool)):=
  if i839 < x186 then
    if b841 = true then
      some (.inr (l836,s840,b841))
    else
      (m_ref13_reader_take 4 (⟨s840,b841⟩ : Gref13_reader)).bind fun (z896 : ByteArray×Gref13_reader)=>
      (app 16 l836 [z896.1]).bind fun l898=>
      some (.inl (l898,w64 (i839 + 1),z896.2.fs,z896.2.fbad))
  else
    some (.inr (l836,s840,b841))
noncomputable def m_ref13_Load_j1 (p0 : ByteArray) (l181 : List Int) (s184 : ByteArray) (b185 : Bool) : Option (GConf×Int):=
  (m_ref13_reader_number 1 (⟨s184,b185⟩ : Gref13_reader)).bind fun (z189 : Int×Gref13_reader)=>
  (loop (fun s=>m_ref13_Load_s7 z189.1 s.1 s.2.1 s.2.2.1 s.2.2.2) (([] : List ByteArray),0,z189.2.fs,z189.2.fbad)).bind fun e=>m_ref13_Load_j2 l181 p0 e.1 e.2.1 e.2.2
noncomputable def m_ref13_Load_s8 (x4 : Int) (l934 : List Int) (i937 : Int) (s938 : ByteArray) (b939 : Bool) : Option (((List Int)×Int×ByteArray×Bool) ⊕ ((List Int)×ByteArray×Bool)):=
  if i937 < x4 then
    if b939 = true then
      some (.inr (l934,s938,b939))
    else
      (m_ref13_reader_number 1 (⟨s938,b939⟩ : Gref13_reader)).bind fun (z994 : Int×Gref13_reader)=>
      (app 8 l934 [z994.1]).bind fun l996=>
      some (.inl (l996,w64 (i937 + 1),z994.2.fs,z994.2.fbad))
  else
    some (.inr (l934,s938,b939))
noncomputable def m_ref13_Load (p0 : ByteArray) : Option (GConf×Int):=
  (m_ref13_reader_number 1 (⟨p0,false⟩ : Gref13_reader)).bind fun (z7 : Int×Gref13_reader)=>
  (loop (fun s=>m_ref13_Load_s8 z7.1 s.1 s.2.1 s.2.2.1 s.2.2.2) (([] : List Int),0,z7.2.fs,z7.2.fbad)).bind fun e=>m_ref13_Load_j1 p0 e.1 e.2.1 e.2.2
theorem c_ref13_Load {w0 : World} {M : Nat→Prop} {H : List (Nat×Nat×Obj)} {R : List (Nat×Row)} {φ : World→Prop} (p0 : ByteArray) (r : GConf×Int) (hm : m_ref13_Load p0 = some r) :
    Cn Tryz.prog 19 #[.string p0] ⟨w0,M,H,R,φ⟩ (fun x : Option Addr×Nat×Option Addr×Nat×Option Addr×Nat×Option Addr×Nat=>.tuple #[.agg #[.slice x.1 r.1.fRing.length x.2.1,.slice x.2.2.1 r.1.fHints.length x.2.2.2.1,.slice x.2.2.2.2.1 r.1.fAnchors.length x.2.2.2.2.2.1,.int .i64 r.1.fEpoch,.slice x.2.2.2.2.2.2.1 r.1.fFlushes.length x.2.2.2.2.2.2.2],.int .i64 r.2]) (fun x=>r.1.fRing.length ≤ x.2.1∧r.1.fHints.length ≤ x.2.2.2.1∧r.1.fAnchors.length ≤ x.2.2.2.2.2.1∧r.1.fFlushes.length ≤ x.2.2.2.2.2.2.2) (fun x=>⟨w0,M,H,R,fun W=>φ W∧Cl W x.1 (r.1.fRing.flatMap (fun x : Int=>[Value.int .i64 x]))∧Cl W x.2.2.1 (r.1.fHints.flatMap (fun x : ByteArray=>[Value.string x]))∧Cl W x.2.2.2.2.1 (r.1.fAnchors.flatMap GAnchor.enc)∧Cl W x.2.2.2.2.2.2.1 (r.1.fFlushes.flatMap GFlush.enc)⟩):=by
 unfold m_ref13_Load at hm
 refine cn_intro (fn:=Tryz.f19) (N:=140) Tryz.func19 rfl Tryz.ntmps19 rfl<|c_seq<|c_region ?_
 refine g_e rfl (e_alloc 100020 Tryz.zeroValue30) (fun g1 _=>?_)
 refine g_v rfl r_assign<|g_nil<|d_then<|c_seq<|c_region<|g_v rfl r_move<|g_v rfl (r_build _ rfl (bld105_25 _)) ?_
 refine g_e rfl (e_box 100170 rfl) (fun g2 _=>?_)
 refine g_v rfl r_assign<|g_nil<|d_then<|c_seq<|c_region ?_
 refine g_e rfl (e_alloc 100050 Tryz.zeroValue30) (fun g3 _=>?_)
 refine g_nil<|d_then<|c_seq<|c_region<|g_v rfl r_move ?_
 replace hm:=bnd hm
 obtain ⟨⟨x4,x5⟩,hx6,hm⟩:=hm
 refine g_cn ⟨w0,M,(1000,g2,.cells #[.string p0,.bool false] 105 (0,0))::(100050,g3,.cells #[.slice none 0 0,.slice none 0 0,.slice none 0 0,.int .i64 0,.slice none 0 0] 30 (0,0))::(100020,g1,.cells #[.slice none 0 0,.slice none 0 0,.slice none 0 0,.int .i64 0,.slice none 0 0] 30 (0,0))::H,R,φ⟩ (fun W h=>(ok_front (t:=100170) (t':=1000) h rfl)) Tryz.call76 rfl rfl (c_ref13_reader_number 1 g2 (⟨p0,false⟩ : Gref13_reader) _ hx6) (fun _ _=>?_)
 refine g_sta _ (fun W h=>(ok_front (t:=1000) (t':=100170) h rfl))<|g_v rfl r_assign<|g_nil<|d_then ?_
 refine c_flat [(0,.string p0),(2,.pointer (some ⟨g1,0,none⟩)),(4,.pointer (some ⟨g2,0,none⟩)),(5,.pointer (some ⟨g3,0,none⟩)),(6,.int .i64 x4)] ⟨rfl,rfl,rfl,rfl,rfl,trivial⟩ (fun u=>?_)
 refine c_sta ⟨w0,M,(100170,g2,.cells #[.string x5.fs,.bool x5.fbad] 105 (0,0))::(100050,g3,.cells #[.slice none 0 0,.slice none 0 0,.slice none 0 0,.int .i64 0,.slice none 0 0] 30 (0,0))::(100020,g1,.cells #[.slice none 0 0,.slice none 0 0,.slice none 0 0,.int .i64 0,.slice none 0 0] 30 (0,0))::H,R,φ⟩ (fun _ h=>h)<|c_seq<|c_sta _ (fun W h=>nilR h 15 3 1) ?_
 refine c_cut (ι:=(List Int)×ByteArray×Bool×Option Addr×Nat) [0,2,4,5] (fun ⟨l181,s184,b185,A182,c183⟩=>[]) (fun ⟨l181,s184,b185,A182,c183⟩=>⟨w0,M,(100170,g2,.cells #[.string s184,.bool b185] 105 (0,0))::(100050,g3,.cells #[.slice A182 l181.length c183,.slice none 0 0,.slice none 0 0,.int .i64 0,.slice none 0 0] 30 (0,0))::(100020,g1,.cells #[.slice none 0 0,.slice none 0 0,.slice none 0 0,.int .i64 0,.slice none 0 0] 30 (0,0))::H,(15,⟨.slice A182 l181.length c183,3,1,l181.length,l181.flatMap (fun x : Int=>[Value.int .i64 x])⟩)::R,φ⟩) (fun ⟨l181,s184,b185,A182,c183⟩=>m_ref13_Load_j1 p0 l181 s184 b185 = some r∧l181.length ≤ c183) ?_ (fun ⟨l181,s184,b185,A182,c183⟩ u ⟨hm,hc183⟩=>?_)
 ·
  refine c_seq<|c_region<|g_v rfl r_assign<|g_nil<|d_then<|c_block ?_
  replace hm:=bnd hm
  obtain ⟨out8,hl8,hr8⟩:=hm
  obtain ⟨n972',hl8⟩:=loop_lp hl8
  refine c_loopU (ι:=Nat×(List Int)×Int×ByteArray×Bool×Option Addr×Nat) [0,2,4,5,6,7] (fun ⟨n972,l934,i937,s938,b939,A935,c936⟩=>[(7,.int .i64 i937)]) (fun ⟨n972,l934,i937,s938,b939,A935,c936⟩=>⟨w0,M,(100170,g2,.cells #[.string s938,.bool b939] 105 (0,0))::(100050,g3,.cells #[.slice A935 l934.length c936,.slice none 0 0,.slice none 0 0,.int .i64 0,.slice none 0 0] 30 (0,0))::(100020,g1,.cells #[.slice none 0 0,.slice none 0 0,.slice none 0 0,.int .i64 0,.slice none 0 0] 30 (0,0))::H,(15,⟨.slice A935 l934.length c936,3,1,l934.length,l934.flatMap (fun x : Int=>[Value.int .i64 x])⟩)::R,φ⟩) (fun ⟨n972,l934,i937,s938,b939,A935,c936⟩=>Lp (fun s=>m_ref13_Load_s8 x4 s.1 s.2.1 s.2.2.1 s.2.2.2) n972 (l934,i937,s938,b939) out8∧l934.length ≤ c936) (fun ⟨n972,l934,i937,s938,b939,A935,c936⟩=>n972) (n972',([] : List Int),0,x5.fs,x5.fbad,none,0) ⟨hl8,(Nat.le_refl 0)⟩ ⟨rfl,rfl,rfl,rfl,rfl,rfl,trivial⟩ (fun W h=>h.phi (fun W hφ=>hφ)) (fun ⟨n972,l934,i937,s938,b939,A935,c936⟩ u ⟨hlp,hc936⟩=>?_)
  obtain ⟨o8,hm,hnx8⟩:=lp_step hlp
  clear hlp
  replace hm : m_ref13_Load_s8 x4 l934 i937 s938 b939 = some o8:=hm
  unfold m_ref13_Load_s8 at hm
  refine c_flat [(0,.string p0),(2,.pointer (some ⟨g1,0,none⟩)),(4,.pointer (some ⟨g2,0,none⟩)),(5,.pointer (some ⟨g3,0,none⟩)),(6,.int .i64 x4),(7,.int .i64 i937)] ⟨rfl,rfl,rfl,rfl,rfl,rfl,trivial⟩ (fun u=>?_)
  refine c_sta ⟨w0,M,(100170,g2,.cells #[.string s938,.bool b939] 105 (0,0))::(100050,g3,.cells #[.slice A935 l934.length c936,.slice none 0 0,.slice none 0 0,.int .i64 0,.slice none 0 0] 30 (0,0))::(100020,g1,.cells #[.slice none 0 0,.slice none 0 0,.slice none 0 0,.int .i64 0,.slice none 0 0] 30 (0,0))::H,(15,⟨.slice A935 l934.length c936,3,1,l934.length,l934.flatMap (fun x : Int=>[Value.int .i64 x])⟩)::R,φ⟩ (fun _ h=>h)<|c_seq<|c_seq<|c_region<|g_v rfl r_move<|g_v rfl r_move<|g_v rfl (r_lss rfl rfl)<|g_v rfl r_move ?_
  refine g_if rfl rfl rfl rfl rfl (fun h973=>?_) (fun h973=>?_)
  ·
   replace hm:=ite_t hm (of_decide_eq_true h973)
   refine g_v rfl r_move<|g_do rfl rfl rfl rfl rfl h973<|g_v rfl (r_nilck rfl)<|g_do rfl rfl rfl rfl rfl h973<|g_v rfl (r_field (n:=1) Tryz.underlying105 rfl Tryz.sizeOf4 rfl rfl)<|g_do rfl rfl rfl rfl rfl h973<|g_v rfl (r_load (tag:=100170) rfl rfl rfl Tryz.isAgg4)<|g_do rfl rfl rfl rfl rfl h973<|g_v rfl (r_not rfl)<|g_v rfl (r_pick1 rfl h973) ?_
   refine g_nil<|d_then ?_
   refine c_flat [(0,.string p0),(2,.pointer (some ⟨g1,0,none⟩)),(4,.pointer (some ⟨g2,0,none⟩)),(5,.pointer (some ⟨g3,0,none⟩)),(6,.int .i64 x4),(7,.int .i64 i937),(29,.bool (!b939))] ⟨rfl,rfl,rfl,rfl,rfl,rfl,rfl,trivial⟩ (fun u=>?_)
   refine c_cond rfl (fun h974=>?_) (fun h974=>?_)
   ·
    have h974' : b939 = false:=by revert h974; cases b939 <;> simp
    replace hm:=ite_f hm (bool_nt h974')
    refine c_skip<|d_then<|c_seq<|c_block<|ga_start (n:=8) ⟨w0,M,(100050,g3,.cells #[.slice A935 l934.length c936,.slice none 0 0,.slice none 0 0,.int .i64 0,.slice none 0 0] 30 (0,0))::(100020,g1,.cells #[.slice none 0 0,.slice none 0 0,.slice none 0 0,.int .i64 0,.slice none 0 0] 30 (0,0))::H,R,φ⟩ [7] #[false,false,false,false,false,false,false,false] (fun W h=>((h.dropR (t:=15) rfl).dropH (t:=100170) rfl).phi (fun W hφ=>hφ)) mixed rfl rfl<|ga_v (i:=0) (bz 8 1) rfl (by kernel_rfl) (fun _ _ _ _ h=>h) rfl (r_field (n:=0) Tryz.underlying30 rfl Tryz.sizeOf25 rfl rfl)<|ga_v (i:=1) (bz 8 3) rfl (by kernel_rfl) (fun _ _ _ _ h=>h) rfl (r_load (tag:=100050) rfl rfl rfl Tryz.isAgg25)<|ga_r (i:=2) (bz 8 7) rfl (by kernel_rfl) (by decide) rfl (r_move) ?_
    replace hm:=bnd hm
    obtain ⟨⟨x991,x992⟩,hx993,hm⟩:=hm
    refine ga_cn (first:=#[]) (i:=3) (bz 8 15) rfl (by kernel_rfl) (by decide)  ⟨w0,M,(1000,g2,.cells #[.string s938,.bool b939] 105 (0,0))::(100050,g3,.cells #[.slice A935 l934.length c936,.slice none 0 0,.slice none 0 0,.int .i64 0,.slice none 0 0] 30 (0,0))::(100020,g1,.cells #[.slice none 0 0,.slice none 0 0,.slice none 0 0,.int .i64 0,.slice none 0 0] 30 (0,0))::H,(15,⟨.slice A935 l934.length c936,3,1,l934.length,l934.flatMap (fun x : Int=>[Value.int .i64 x])⟩)::R,φ⟩ (fun W h=>(ok_front (t:=100170) (t':=1000) h rfl)) Tryz.call76 rfl rfl rfl (c_ref13_reader_number 1 g2 (⟨s938,b939⟩ : Gref13_reader) _ hx993) (fun _ W _ h=>(((ok_front (t:=1000) (t':=100170) h rfl).dropR (t:=15) rfl).dropH (t:=100170) rfl).phi (fun W hφ=>hφ)) (fun _ _=>?_)
    refine ga_sta _ (fun W h=>(ok_front (t:=1000) (t':=100170) h rfl)) ?_
    refine ga_e (i:=4) (bz 8 31) rfl (by kernel_rfl) (by decide) rfl  (e_lit (tag:=100360) (l:=[x991]) (enc:=(fun x : Int=>[Value.int .i64 x])) (sz:=1) rfl Tryz.underlying25 (lit3_21 _) rfl rfl (fun _=>rfl)) (fun g995 W _ h=>(((h.dropR (t:=100360) rfl).dropR (t:=15) rfl).dropH (t:=100170) rfl).phi (fun W hφ=>hφ)) (fun g995 _=>?_)
    replace hm:=bnd hm
    obtain ⟨l996,hl996,hm⟩:=hm
    refine ga_e (i:=5) (bz 8 63) rfl (by kernel_rfl) (by decide) rfl  (e_appR (enc:=(fun x : Int=>[Value.int .i64 x])) (l:=l934) (l1:=[x991]) (l2:=l996) (tag:=15) Tryz.underlying25 inf3_11 rfl (by decide) (by decide) (fun _=>rfl) (fun _=>rfl) rfl hc936 rfl rfl (fun W hS=>rowCl (tag:=100360) rfl W hS) hl996) (fun ⟨A997,c998⟩ W hc998 h=>(((h.dropR (t:=100360) rfl).dropR (t:=15) rfl).dropH (t:=100170) rfl).phi (fun W hφ=>hφ)) (fun ⟨A997,c998⟩ hc998=>?_)
    refine ga_r (i:=6) (bz 8 127) rfl (by kernel_rfl) (by decide) rfl (r_field (n:=0) Tryz.underlying30 rfl Tryz.sizeOf25 rfl rfl)<|ga_lastL (i:=7) (tag:=100050) (bz 8 255) rfl (by kernel_rfl) (by decide) rfl rfl rfl rfl Tryz.sizeOf25 rfl rfl<|gz_done (by kernel_rfl)<|d_normal_block<|d_then<|c_region<|g_v rfl r_move<|g_v rfl (r_add rfl rfl rfl)<|g_v rfl r_assign<|g_nil ?_
    obtain ⟨n999,hn999,hlp⟩:=nx_inl hm hnx8
    exact d_round (n999,l996,w64 (i937 + 1),x992.fs,x992.fbad,A997,c998) ⟨hlp,hc998⟩ hn999 ⟨rfl,rfl,rfl,rfl,rfl,rfl,trivial⟩ (fun W h=>(h.dropR (t:=100360) rfl).phi (fun W hφ=>hφ))
   have h974' : b939 = true:=by revert h974; cases b939 <;> simp
   replace hm:=ite_t hm h974'
   refine c_exit<|d_exit_then<|d_exit_then<|d_exit_block ?_
   replace hm:=nx_out (C:=(fun e : (List Int)×ByteArray×Bool=>m_ref13_Load_j1 p0 e.1 e.2.1 e.2.2 = some r)) hm hnx8 hr8
   exact d_round (l934,s938,b939,A935,c936) ⟨hm,hc936⟩ Nat.zero_lt_one ⟨rfl,rfl,rfl,rfl,trivial⟩ (fun W h=>h.phi (fun W hφ=>hφ))
  replace hm:=ite_f hm (of_decide_eq_false h973)
  iterate 4 refine g_no rfl rfl rfl rfl rfl h973 ?_
  refine g_v rfl (r_pick0 rfl h973)<|g_nil<|d_then<|c_cond0 rfl rfl<|c_exit<|d_exit_then<|d_exit_then<|d_exit_block ?_
  replace hm:=nx_out (C:=(fun e : (List Int)×ByteArray×Bool=>m_ref13_Load_j1 p0 e.1 e.2.1 e.2.2 = some r)) hm hnx8 hr8
  exact d_round (l934,s938,b939,A935,c936) ⟨hm,hc936⟩ Nat.zero_lt_one ⟨rfl,rfl,rfl,rfl,trivial⟩ (fun W h=>h.phi (fun W hφ=>hφ))
 unfold m_ref13_Load_j1 at hm
 refine d_flat [(0,.string p0),(2,.pointer (some ⟨g1,0,none⟩)),(4,.pointer (some ⟨g2,0,none⟩)),(5,.pointer (some ⟨g3,0,none⟩))] ⟨rfl,rfl,rfl,rfl,trivial⟩ (fun u=>?_)
 refine d_sta ⟨w0,M,(100170,g2,.cells #[.string s184,.bool b185] 105 (0,0))::(100050,g3,.cells #[.slice A182 l181.length c183,.slice none 0 0,.slice none 0 0,.int .i64 0,.slice none 0 0] 30 (0,0))::(100020,g1,.cells #[.slice none 0 0,.slice none 0 0,.slice none 0 0,.int .i64 0,.slice none 0 0] 30 (0,0))::H,(15,⟨.slice A182 l181.length c183,3,1,l181.length,l181.flatMap (fun x : Int=>[Value.int .i64 x])⟩)::R,φ⟩ (fun _ h=>h)<|d_then<|c_seq<|c_region<|g_v rfl r_move ?_
 replace hm:=bnd hm
 obtain ⟨⟨x186,x187⟩,hx188,hm⟩:=hm
 refine g_cn ⟨w0,M,(1000,g2,.cells #[.string s184,.bool b185] 105 (0,0))::(100050,g3,.cells #[.slice A182 l181.length c183,.slice none 0 0,.slice none 0 0,.int .i64 0,.slice none 0 0] 30 (0,0))::(100020,g1,.cells #[.slice none 0 0,.slice none 0 0,.slice none 0 0,.int .i64 0,.slice none 0 0] 30 (0,0))::H,(15,⟨.slice A182 l181.length c183,3,1,l181.length,l181.flatMap (fun x : Int=>[Value.int .i64 x])⟩)::R,φ⟩ (fun W h=>(ok_front (t:=100170) (t':=1000) h rfl)) Tryz.call76 rfl rfl (c_ref13_reader_number 1 g2 (⟨s184,b185⟩ : Gref13_reader) _ hx188) (fun _ _=>?_)
 refine g_sta _ (fun W h=>(ok_front (t:=1000) (t':=100170) h rfl))<|g_v rfl r_assign<|g_nil<|d_then<|c_seq<|c_sta _ (fun W h=>nilR h 20 9 1) ?_
 refine c_cut (ι:=(List ByteArray)×ByteArray×Bool×Option Addr×Nat) [0,2,4,5] (fun ⟨l363,s366,b367,A364,c365⟩=>[]) (fun ⟨l363,s366,b367,A364,c365⟩=>⟨w0,M,(100170,g2,.cells #[.string s366,.bool b367] 105 (0,0))::(100050,g3,.cells #[.slice A182 l181.length c183,.slice A364 l363.length c365,.slice none 0 0,.int .i64 0,.slice none 0 0] 30 (0,0))::(100020,g1,.cells #[.slice none 0 0,.slice none 0 0,.slice none 0 0,.int .i64 0,.slice none 0 0] 30 (0,0))::H,(20,⟨.slice A364 l363.length c365,9,1,l363.length,l363.flatMap (fun x : ByteArray=>[Value.string x])⟩)::(15,⟨.slice A182 l181.length c183,3,1,l181.length,l181.flatMap (fun x : Int=>[Value.int .i64 x])⟩)::R,φ⟩) (fun ⟨l363,s366,b367,A364,c365⟩=>m_ref13_Load_j2 l181 p0 l363 s366 b367 = some r∧l363.length ≤ c365) ?_ (fun ⟨l363,s366,b367,A364,c365⟩ u ⟨hm,hc365⟩=>?_)
 ·
  refine c_seq<|c_region<|g_v rfl r_assign<|g_nil<|d_then<|c_block ?_
  replace hm:=bnd hm
  obtain ⟨out7,hl7,hr7⟩:=hm
  obtain ⟨n874',hl7⟩:=loop_lp hl7
  refine c_loopU (ι:=Nat×(List ByteArray)×Int×ByteArray×Bool×Option Addr×Nat) [0,2,4,5,6,8] (fun ⟨n874,l836,i839,s840,b841,A837,c838⟩=>[(8,.int .i64 i839)]) (fun ⟨n874,l836,i839,s840,b841,A837,c838⟩=>⟨w0,M,(100170,g2,.cells #[.string s840,.bool b841] 105 (0,0))::(100050,g3,.cells #[.slice A182 l181.length c183,.slice A837 l836.length c838,.slice none 0 0,.int .i64 0,.slice none 0 0] 30 (0,0))::(100020,g1,.cells #[.slice none 0 0,.slice none 0 0,.slice none 0 0,.int .i64 0,.slice none 0 0] 30 (0,0))::H,(20,⟨.slice A837 l836.length c838,9,1,l836.length,l836.flatMap (fun x : ByteArray=>[Value.string x])⟩)::(15,⟨.slice A182 l181.length c183,3,1,l181.length,l181.flatMap (fun x : Int=>[Value.int .i64 x])⟩)::R,φ⟩) (fun ⟨n874,l836,i839,s840,b841,A837,c838⟩=>Lp (fun s=>m_ref13_Load_s7 x186 s.1 s.2.1 s.2.2.1 s.2.2.2) n874 (l836,i839,s840,b841) out7∧l836.length ≤ c838) (fun ⟨n874,l836,i839,s840,b841,A837,c838⟩=>n874) (n874',([] : List ByteArray),0,x187.fs,x187.fbad,none,0) ⟨hl7,(Nat.le_refl 0)⟩ ⟨rfl,rfl,rfl,rfl,rfl,rfl,trivial⟩ (fun W h=>h.phi (fun W hφ=>hφ)) (fun ⟨n874,l836,i839,s840,b841,A837,c838⟩ u ⟨hlp,hc838⟩=>?_)
  obtain ⟨o7,hm,hnx7⟩:=lp_step hlp
  clear hlp
  replace hm : m_ref13_Load_s7 x186 l836 i839 s840 b841 = some o7:=hm
  unfold m_ref13_Load_s7 at hm
  refine c_flat [(0,.string p0),(2,.pointer (some ⟨g1,0,none⟩)),(4,.pointer (some ⟨g2,0,none⟩)),(5,.pointer (some ⟨g3,0,none⟩)),(6,.int .i64 x186),(8,.int .i64 i839)] ⟨rfl,rfl,rfl,rfl,rfl,rfl,trivial⟩ (fun u=>?_)
  refine c_sta ⟨w0,M,(100170,g2,.cells #[.string s840,.bool b841] 105 (0,0))::(100050,g3,.cells #[.slice A182 l181.length c183,.slice A837 l836.length c838,.slice none 0 0,.int .i64 0,.slice none 0 0] 30 (0,0))::(100020,g1,.cells #[.slice none 0 0,.slice none 0 0,.slice none 0 0,.int .i64 0,.slice none 0 0] 30 (0,0))::H,(20,⟨.slice A837 l836.length c838,9,1,l836.length,l836.flatMap (fun x : ByteArray=>[Value.string x])⟩)::(15,⟨.slice A182 l181.length c183,3,1,l181.length,l181.flatMap (fun x : Int=>[Value.int .i64 x])⟩)::R,φ⟩ (fun _ h=>h)<|c_seq<|c_seq<|c_region<|g_v rfl r_move<|g_v rfl r_move<|g_v rfl (r_lss rfl rfl)<|g_v rfl r_move ?_
  refine g_if rfl rfl rfl rfl rfl (fun h875=>?_) (fun h875=>?_)
  ·
   replace hm:=ite_t hm (of_decide_eq_true h875)
   refine g_v rfl r_move<|g_do rfl rfl rfl rfl rfl h875<|g_v rfl (r_nilck rfl)<|g_do rfl rfl rfl rfl rfl h875<|g_v rfl (r_field (n:=1) Tryz.underlying105 rfl Tryz.sizeOf4 rfl rfl)<|g_do rfl rfl rfl rfl rfl h875<|g_v rfl (r_load (tag:=100170) rfl rfl rfl Tryz.isAgg4)<|g_do rfl rfl rfl rfl rfl h875<|g_v rfl (r_not rfl)<|g_v rfl (r_pick1 rfl h875) ?_
   refine g_nil<|d_then ?_
   refine c_flat [(0,.string p0),(2,.pointer (some ⟨g1,0,none⟩)),(4,.pointer (some ⟨g2,0,none⟩)),(5,.pointer (some ⟨g3,0,none⟩)),(6,.int .i64 x186),(8,.int .i64 i839),(50,.bool (!b841))] ⟨rfl,rfl,rfl,rfl,rfl,rfl,rfl,trivial⟩ (fun u=>?_)
   refine c_cond rfl (fun h876=>?_) (fun h876=>?_)
   ·
    have h876' : b841 = false:=by revert h876; cases b841 <;> simp
    replace hm:=ite_f hm (bool_nt h876')
    refine c_skip<|d_then<|c_seq<|c_block<|ga_start (n:=8) ⟨w0,M,(100050,g3,.cells #[.slice A182 l181.length c183,.slice A837 l836.length c838,.slice none 0 0,.int .i64 0,.slice none 0 0] 30 (0,0))::(100020,g1,.cells #[.slice none 0 0,.slice none 0 0,.slice none 0 0,.int .i64 0,.slice none 0 0] 30 (0,0))::H,(15,⟨.slice A182 l181.length c183,3,1,l181.length,l181.flatMap (fun x : Int=>[Value.int .i64 x])⟩)::R,φ⟩ [7] #[false,false,false,false,false,false,false,false] (fun W h=>((h.dropR (t:=20) rfl).dropH (t:=100170) rfl).phi (fun W hφ=>hφ)) mixed rfl rfl<|ga_v (i:=0) (bz 8 1) rfl (by kernel_rfl) (fun _ _ _ _ h=>h) rfl (r_field (n:=1) Tryz.underlying30 rfl Tryz.sizeOf26 rfl rfl)<|ga_v (i:=1) (bz 8 3) rfl (by kernel_rfl) (fun _ _ _ _ h=>h) rfl (r_load (tag:=100050) rfl rfl rfl Tryz.isAgg26)<|ga_r (i:=2) (bz 8 7) rfl (by kernel_rfl) (by decide) rfl (r_move) ?_
    replace hm:=bnd hm
    obtain ⟨⟨x893,x894⟩,hx895,hm⟩:=hm
    refine ga_cn (first:=#[]) (i:=3) (bz 8 15) rfl (by kernel_rfl) (by decide)  ⟨w0,M,(1000,g2,.cells #[.string s840,.bool b841] 105 (0,0))::(100050,g3,.cells #[.slice A182 l181.length c183,.slice A837 l836.length c838,.slice none 0 0,.int .i64 0,.slice none 0 0] 30 (0,0))::(100020,g1,.cells #[.slice none 0 0,.slice none 0 0,.slice none 0 0,.int .i64 0,.slice none 0 0] 30 (0,0))::H,(20,⟨.slice A837 l836.length c838,9,1,l836.length,l836.flatMap (fun x : ByteArray=>[Value.string x])⟩)::(15,⟨.slice A182 l181.length c183,3,1,l181.length,l181.flatMap (fun x : Int=>[Value.int .i64 x])⟩)::R,φ⟩ (fun W h=>(ok_front (t:=100170) (t':=1000) h rfl)) Tryz.call77 rfl rfl rfl (c_ref13_reader_take 4 g2 (⟨s840,b841⟩ : Gref13_reader) _ hx895) (fun _ W _ h=>(((ok_front (t:=1000) (t':=100170) h rfl).dropR (t:=20) rfl).dropH (t:=100170) rfl).phi (fun W hφ=>hφ)) (fun _ _=>?_)
    refine ga_sta _ (fun W h=>(ok_front (t:=1000) (t':=100170) h rfl)) ?_
    refine ga_e (i:=4) (bz 8 31) rfl (by kernel_rfl) (by decide) rfl  (e_lit (tag:=100570) (l:=[x893]) (enc:=(fun x : ByteArray=>[Value.string x])) (sz:=1) rfl Tryz.underlying26 (lit9_6 _) rfl rfl (fun _=>rfl)) (fun g897 W _ h=>(((h.dropR (t:=100570) rfl).dropR (t:=20) rfl).dropH (t:=100170) rfl).phi (fun W hφ=>hφ)) (fun g897 _=>?_)
    replace hm:=bnd hm
    obtain ⟨l898,hl898,hm⟩:=hm
    refine ga_e (i:=5) (bz 8 63) rfl (by kernel_rfl) (by decide) rfl  (e_appR (enc:=(fun x : ByteArray=>[Value.string x])) (l:=l836) (l1:=[x893]) (l2:=l898) (tag:=20) Tryz.underlying26 inf9_7 rfl (by decide) (by decide) (fun _=>rfl) (fun _=>rfl) rfl hc838 rfl rfl (fun W hS=>rowCl (tag:=100570) rfl W hS) hl898) (fun ⟨A899,c900⟩ W hc900 h=>(((h.dropR (t:=100570) rfl).dropR (t:=20) rfl).dropH (t:=100170) rfl).phi (fun W hφ=>hφ)) (fun ⟨A899,c900⟩ hc900=>?_)
    refine ga_r (i:=6) (bz 8 127) rfl (by kernel_rfl) (by decide) rfl (r_field (n:=1) Tryz.underlying30 rfl Tryz.sizeOf26 rfl rfl)<|ga_lastL (i:=7) (tag:=100050) (bz 8 255) rfl (by kernel_rfl) (by decide) rfl rfl rfl rfl Tryz.sizeOf26 rfl rfl<|gz_done (by kernel_rfl)<|d_normal_block<|d_then<|c_region<|g_v rfl r_move<|g_v rfl (r_add rfl rfl rfl)<|g_v rfl r_assign<|g_nil ?_
    obtain ⟨n901,hn901,hlp⟩:=nx_inl hm hnx7
    exact d_round (n901,l898,w64 (i839 + 1),x894.fs,x894.fbad,A899,c900) ⟨hlp,hc900⟩ hn901 ⟨rfl,rfl,rfl,rfl,rfl,rfl,trivial⟩ (fun W h=>(h.dropR (t:=100570) rfl).phi (fun W hφ=>hφ))
   have h876' : b841 = true:=by revert h876; cases b841 <;> simp
   replace hm:=ite_t hm h876'
   refine c_exit<|d_exit_then<|d_exit_then<|d_exit_block ?_
   replace hm:=nx_out (C:=(fun e : (List ByteArray)×ByteArray×Bool=>m_ref13_Load_j2 l181 p0 e.1 e.2.1 e.2.2 = some r)) hm hnx7 hr7
   exact d_round (l836,s840,b841,A837,c838) ⟨hm,hc838⟩ Nat.zero_lt_one ⟨rfl,rfl,rfl,rfl,trivial⟩ (fun W h=>h.phi (fun W hφ=>hφ))
  replace hm:=ite_f hm (of_decide_eq_false h875)
  iterate 4 refine g_no rfl rfl rfl rfl rfl h875 ?_
  refine g_v rfl (r_pick0 rfl h875)<|g_nil<|d_then<|c_cond0 rfl rfl<|c_exit<|d_exit_then<|d_exit_then<|d_exit_block ?_
  replace hm:=nx_out (C:=(fun e : (List ByteArray)×ByteArray×Bool=>m_ref13_Load_j2 l181 p0 e.1 e.2.1 e.2.2 = some r)) hm hnx7 hr7
  exact d_round (l836,s840,b841,A837,c838) ⟨hm,hc838⟩ Nat.zero_lt_one ⟨rfl,rfl,rfl,rfl,trivial⟩ (fun W h=>h.phi (fun W hφ=>hφ))
 unfold m_ref13_Load_j2 at hm
 refine d_flat [(0,.string p0),(2,.pointer (some ⟨g1,0,none⟩)),(4,.pointer (some ⟨g2,0,none⟩)),(5,.pointer (some ⟨g3,0,none⟩))] ⟨rfl,rfl,rfl,rfl,trivial⟩ (fun u=>?_)
 refine d_sta ⟨w0,M,(100170,g2,.cells #[.string s366,.bool b367] 105 (0,0))::(100050,g3,.cells #[.slice A182 l181.length c183,.slice A364 l363.length c365,.slice none 0 0,.int .i64 0,.slice none 0 0] 30 (0,0))::(100020,g1,.cells #[.slice none 0 0,.slice none 0 0,.slice none 0 0,.int .i64 0,.slice none 0 0] 30 (0,0))::H,(20,⟨.slice A364 l363.length c365,9,1,l363.length,l363.flatMap (fun x : ByteArray=>[Value.string x])⟩)::(15,⟨.slice A182 l181.length c183,3,1,l181.length,l181.flatMap (fun x : Int=>[Value.int .i64 x])⟩)::R,φ⟩ (fun _ h=>h)<|d_then<|c_seq<|c_region<|g_v rfl r_move ?_
 replace hm:=bnd hm
 obtain ⟨⟨x368,x369⟩,hx370,hm⟩:=hm
 refine g_cn ⟨w0,M,(1000,g2,.cells #[.string s366,.bool b367] 105 (0,0))::(100050,g3,.cells #[.slice A182 l181.length c183,.slice A364 l363.length c365,.slice none 0 0,.int .i64 0,.slice none 0 0] 30 (0,0))::(100020,g1,.cells #[.slice none 0 0,.slice none 0 0,.slice none 0 0,.int .i64 0,.slice none 0 0] 30 (0,0))::H,(20,⟨.slice A364 l363.length c365,9,1,l363.length,l363.flatMap (fun x : ByteArray=>[Value.string x])⟩)::(15,⟨.slice A182 l181.length c183,3,1,l181.length,l181.flatMap (fun x : Int=>[Value.int .i64 x])⟩)::R,φ⟩ (fun W h=>(ok_front (t:=100170) (t':=1000) h rfl)) Tryz.call76 rfl rfl (c_ref13_reader_number 1 g2 (⟨s366,b367⟩ : Gref13_reader) _ hx370) (fun _ _=>?_)
 refine g_sta _ (fun W h=>(ok_front (t:=1000) (t':=100170) h rfl))<|g_v rfl r_assign<|g_nil<|d_then<|c_seq<|c_sta _ (fun W h=>nilR h 23 55 2) ?_
 refine c_cut (ι:=(List GAnchor)×ByteArray×Bool×Option Addr×Nat) [0,2,4,5] (fun ⟨l510,s513,b514,A511,c512⟩=>[]) (fun ⟨l510,s513,b514,A511,c512⟩=>⟨w0,M,(100170,g2,.cells #[.string s513,.bool b514] 105 (0,0))::(100050,g3,.cells #[.slice A182 l181.length c183,.slice A364 l363.length c365,.slice A511 l510.length c512,.int .i64 0,.slice none 0 0] 30 (0,0))::(100020,g1,.cells #[.slice none 0 0,.slice none 0 0,.slice none 0 0,.int .i64 0,.slice none 0 0] 30 (0,0))::H,(23,⟨.slice A511 l510.length c512,55,2,l510.length,l510.flatMap GAnchor.enc⟩)::(20,⟨.slice A364 l363.length c365,9,1,l363.length,l363.flatMap (fun x : ByteArray=>[Value.string x])⟩)::(15,⟨.slice A182 l181.length c183,3,1,l181.length,l181.flatMap (fun x : Int=>[Value.int .i64 x])⟩)::R,φ⟩) (fun ⟨l510,s513,b514,A511,c512⟩=>m_ref13_Load_j3 l181 l363 p0 l510 s513 b514 = some r∧l510.length ≤ c512) ?_ (fun ⟨l510,s513,b514,A511,c512⟩ u ⟨hm,hc512⟩=>?_)
 ·
  refine c_seq<|c_region<|g_v rfl r_assign<|g_nil<|d_then<|c_block ?_
  replace hm:=bnd hm
  obtain ⟨out6,hl6,hr6⟩:=hm
  obtain ⟨n783',hl6⟩:=loop_lp hl6
  refine c_loopU (ι:=Nat×(List GAnchor)×Int×ByteArray×Bool×Option Addr×Nat) [0,2,4,5,6,9] (fun ⟨n783,l752,i755,s756,b757,A753,c754⟩=>[(9,.int .i64 i755)]) (fun ⟨n783,l752,i755,s756,b757,A753,c754⟩=>⟨w0,M,(100170,g2,.cells #[.string s756,.bool b757] 105 (0,0))::(100050,g3,.cells #[.slice A182 l181.length c183,.slice A364 l363.length c365,.slice A753 l752.length c754,.int .i64 0,.slice none 0 0] 30 (0,0))::(100020,g1,.cells #[.slice none 0 0,.slice none 0 0,.slice none 0 0,.int .i64 0,.slice none 0 0] 30 (0,0))::H,(23,⟨.slice A753 l752.length c754,55,2,l752.length,l752.flatMap GAnchor.enc⟩)::(20,⟨.slice A364 l363.length c365,9,1,l363.length,l363.flatMap (fun x : ByteArray=>[Value.string x])⟩)::(15,⟨.slice A182 l181.length c183,3,1,l181.length,l181.flatMap (fun x : Int=>[Value.int .i64 x])⟩)::R,φ⟩) (fun ⟨n783,l752,i755,s756,b757,A753,c754⟩=>Lp (fun s=>m_ref13_Load_s6 x368 s.1 s.2.1 s.2.2.1 s.2.2.2) n783 (l752,i755,s756,b757) out6∧l752.length ≤ c754) (fun ⟨n783,l752,i755,s756,b757,A753,c754⟩=>n783) (n783',([] : List GAnchor),0,x369.fs,x369.fbad,none,0) ⟨hl6,(Nat.le_refl 0)⟩ ⟨rfl,rfl,rfl,rfl,rfl,rfl,trivial⟩ (fun W h=>h.phi (fun W hφ=>hφ)) (fun ⟨n783,l752,i755,s756,b757,A753,c754⟩ u ⟨hlp,hc754⟩=>?_)
  obtain ⟨o6,hm,hnx6⟩:=lp_step hlp
  clear hlp
  replace hm : m_ref13_Load_s6 x368 l752 i755 s756 b757 = some o6:=hm
  unfold m_ref13_Load_s6 at hm
  refine c_flat [(0,.string p0),(2,.pointer (some ⟨g1,0,none⟩)),(4,.pointer (some ⟨g2,0,none⟩)),(5,.pointer (some ⟨g3,0,none⟩)),(6,.int .i64 x368),(9,.int .i64 i755)] ⟨rfl,rfl,rfl,rfl,rfl,rfl,trivial⟩ (fun u=>?_)
  refine c_sta ⟨w0,M,(100170,g2,.cells #[.string s756,.bool b757] 105 (0,0))::(100050,g3,.cells #[.slice A182 l181.length c183,.slice A364 l363.length c365,.slice A753 l752.length c754,.int .i64 0,.slice none 0 0] 30 (0,0))::(100020,g1,.cells #[.slice none 0 0,.slice none 0 0,.slice none 0 0,.int .i64 0,.slice none 0 0] 30 (0,0))::H,(23,⟨.slice A753 l752.length c754,55,2,l752.length,l752.flatMap GAnchor.enc⟩)::(20,⟨.slice A364 l363.length c365,9,1,l363.length,l363.flatMap (fun x : ByteArray=>[Value.string x])⟩)::(15,⟨.slice A182 l181.length c183,3,1,l181.length,l181.flatMap (fun x : Int=>[Value.int .i64 x])⟩)::R,φ⟩ (fun _ h=>h)<|c_seq<|c_seq<|c_region<|g_v rfl r_move<|g_v rfl r_move<|g_v rfl (r_lss rfl rfl)<|g_v rfl r_move ?_
  refine g_if rfl rfl rfl rfl rfl (fun h784=>?_) (fun h784=>?_)
  ·
   replace hm:=ite_t hm (of_decide_eq_true h784)
   refine g_v rfl r_move<|g_do rfl rfl rfl rfl rfl h784<|g_v rfl (r_nilck rfl)<|g_do rfl rfl rfl rfl rfl h784<|g_v rfl (r_field (n:=1) Tryz.underlying105 rfl Tryz.sizeOf4 rfl rfl)<|g_do rfl rfl rfl rfl rfl h784<|g_v rfl (r_load (tag:=100170) rfl rfl rfl Tryz.isAgg4)<|g_do rfl rfl rfl rfl rfl h784<|g_v rfl (r_not rfl)<|g_v rfl (r_pick1 rfl h784) ?_
   refine g_nil<|d_then ?_
   refine c_flat [(0,.string p0),(2,.pointer (some ⟨g1,0,none⟩)),(4,.pointer (some ⟨g2,0,none⟩)),(5,.pointer (some ⟨g3,0,none⟩)),(6,.int .i64 x368),(9,.int .i64 i755),(71,.bool (!b757))] ⟨rfl,rfl,rfl,rfl,rfl,rfl,rfl,trivial⟩ (fun u=>?_)
   refine c_cond rfl (fun h785=>?_) (fun h785=>?_)
   ·
    have h785' : b757 = false:=by revert h785; cases b757 <;> simp
    replace hm:=ite_f hm (bool_nt h785')
    refine c_skip<|d_then<|c_seq<|c_block<|c_seq<|c_region<|g_v rfl r_move ?_
    replace hm:=bnd hm
    obtain ⟨⟨x786,x787⟩,hx788,hm⟩:=hm
    refine g_cn ⟨w0,M,(1000,g2,.cells #[.string s756,.bool b757] 105 (0,0))::(100050,g3,.cells #[.slice A182 l181.length c183,.slice A364 l363.length c365,.slice A753 l752.length c754,.int .i64 0,.slice none 0 0] 30 (0,0))::(100020,g1,.cells #[.slice none 0 0,.slice none 0 0,.slice none 0 0,.int .i64 0,.slice none 0 0] 30 (0,0))::H,(23,⟨.slice A753 l752.length c754,55,2,l752.length,l752.flatMap GAnchor.enc⟩)::(20,⟨.slice A364 l363.length c365,9,1,l363.length,l363.flatMap (fun x : ByteArray=>[Value.string x])⟩)::(15,⟨.slice A182 l181.length c183,3,1,l181.length,l181.flatMap (fun x : Int=>[Value.int .i64 x])⟩)::R,φ⟩ (fun W h=>(ok_front (t:=100170) (t':=1000) h rfl)) Tryz.call78 rfl rfl (c_ref13_reader_name g2 (⟨s756,b757⟩ : Gref13_reader) _ hx788) (fun _ _=>?_)
    refine g_sta _ (fun W h=>(ok_front (t:=1000) (t':=100170) h rfl))<|g_v rfl (r_build _ rfl (bld55_26 _)) ?_
    refine g_e rfl (e_alloc 100100 Tryz.zeroValue55) (fun g790 _=>?_)
    refine g_storeL (tag:=100100) rfl rfl rfl rfl Tryz.sizeOf55 rfl rfl<|g_nil<|d_then<|c_seq<|c_region<|g_v rfl r_move ?_
    replace hm:=bnd hm
    obtain ⟨⟨x791,x792⟩,hx793,hm⟩:=hm
    refine g_cn ⟨w0,M,(1000,g2,.cells #[.string x787.fs,.bool x787.fbad] 105 (0,0))::(100100,g790,.cells #[.string x786,.string (⟨#[]⟩ : ByteArray)] 55 (0,0))::(100050,g3,.cells #[.slice A182 l181.length c183,.slice A364 l363.length c365,.slice A753 l752.length c754,.int .i64 0,.slice none 0 0] 30 (0,0))::(100020,g1,.cells #[.slice none 0 0,.slice none 0 0,.slice none 0 0,.int .i64 0,.slice none 0 0] 30 (0,0))::H,(23,⟨.slice A753 l752.length c754,55,2,l752.length,l752.flatMap GAnchor.enc⟩)::(20,⟨.slice A364 l363.length c365,9,1,l363.length,l363.flatMap (fun x : ByteArray=>[Value.string x])⟩)::(15,⟨.slice A182 l181.length c183,3,1,l181.length,l181.flatMap (fun x : Int=>[Value.int .i64 x])⟩)::R,φ⟩ (fun W h=>(ok_front (t:=100170) (t':=1000) h rfl)) Tryz.call76 rfl rfl (c_ref13_reader_number 1 g2 x787 _ hx793) (fun _ _=>?_)
    refine g_sta _ (fun W h=>(ok_front (t:=1000) (t':=100170) h rfl))<|g_v rfl r_assign<|g_nil<|d_then<|c_seq<|c_region<|g_v rfl r_move<|g_v rfl r_move ?_
    replace hm:=bnd hm
    obtain ⟨⟨x795,x796⟩,hx797,hm⟩:=hm
    refine g_cn ⟨w0,M,(1000,g2,.cells #[.string x792.fs,.bool x792.fbad] 105 (0,0))::(100100,g790,.cells #[.string x786,.string (⟨#[]⟩ : ByteArray)] 55 (0,0))::(100050,g3,.cells #[.slice A182 l181.length c183,.slice A364 l363.length c365,.slice A753 l752.length c754,.int .i64 0,.slice none 0 0] 30 (0,0))::(100020,g1,.cells #[.slice none 0 0,.slice none 0 0,.slice none 0 0,.int .i64 0,.slice none 0 0] 30 (0,0))::H,(23,⟨.slice A753 l752.length c754,55,2,l752.length,l752.flatMap GAnchor.enc⟩)::(20,⟨.slice A364 l363.length c365,9,1,l363.length,l363.flatMap (fun x : ByteArray=>[Value.string x])⟩)::(15,⟨.slice A182 l181.length c183,3,1,l181.length,l181.flatMap (fun x : Int=>[Value.int .i64 x])⟩)::R,φ⟩ (fun W h=>(ok_front (t:=100170) (t':=1000) h rfl)) Tryz.call77 rfl rfl (c_ref13_reader_take x791 g2 x792 _ hx797) (fun _ _=>?_)
    refine g_sta _ (fun W h=>(ok_front (t:=1000) (t':=100170) h rfl))<|g_v rfl (r_field (n:=1) Tryz.underlying55 rfl Tryz.sizeOf9 rfl rfl)<|g_storeL (tag:=100100) rfl rfl rfl rfl Tryz.sizeOf9 rfl rfl<|g_nil<|d_then ?_
    refine c_flat [(0,.string p0),(2,.pointer (some ⟨g1,0,none⟩)),(4,.pointer (some ⟨g2,0,none⟩)),(5,.pointer (some ⟨g3,0,none⟩)),(6,.int .i64 x368),(9,.int .i64 i755),(10,.pointer (some ⟨g790,0,none⟩))] ⟨rfl,rfl,rfl,rfl,rfl,rfl,rfl,trivial⟩ (fun u=>?_)
    refine c_sta ⟨w0,M,(100170,g2,.cells #[.string x796.fs,.bool x796.fbad] 105 (0,0))::(100100,g790,.cells #[.string x786,.string x795] 55 (0,0))::(100050,g3,.cells #[.slice A182 l181.length c183,.slice A364 l363.length c365,.slice A753 l752.length c754,.int .i64 0,.slice none 0 0] 30 (0,0))::(100020,g1,.cells #[.slice none 0 0,.slice none 0 0,.slice none 0 0,.int .i64 0,.slice none 0 0] 30 (0,0))::H,(23,⟨.slice A753 l752.length c754,55,2,l752.length,l752.flatMap GAnchor.enc⟩)::(20,⟨.slice A364 l363.length c365,9,1,l363.length,l363.flatMap (fun x : ByteArray=>[Value.string x])⟩)::(15,⟨.slice A182 l181.length c183,3,1,l181.length,l181.flatMap (fun x : Int=>[Value.int .i64 x])⟩)::R,φ⟩ (fun _ h=>h)<|c_region<|g_v rfl (r_field (n:=2) Tryz.underlying30 rfl Tryz.sizeOf27 rfl rfl)<|g_v rfl (r_load (tag:=100050) rfl rfl rfl Tryz.isAgg27)<|g_v rfl (r_loadA (tag:=100100) rfl rfl Tryz.isAgg55 Tryz.sizeOf55 rfl rfl) ?_
    refine g_e rfl (e_lit (tag:=100860) (l:=[(⟨x786,x795⟩ : GAnchor)]) (enc:=GAnchor.enc) (sz:=2) rfl Tryz.underlying27 (lit55_23 _ _) rfl rfl (fun _=>rfl)) (fun g799 _=>?_)
    replace hm:=bnd hm
    obtain ⟨l800,hl800,hm⟩:=hm
    refine g_e rfl (e_appR (enc:=GAnchor.enc) (l:=l752) (l1:=[(⟨x786,x795⟩ : GAnchor)]) (l2:=l800) (tag:=23) Tryz.underlying27 inf55_14 rfl (by decide) (by decide) (fun _=>rfl) (fun _=>rfl) rfl hc754 rfl rfl (fun W hS=>rowCl (tag:=100860) rfl W hS) hl800) (fun ⟨A801,c802⟩ hc802=>?_)
    refine g_v rfl (r_field (n:=2) Tryz.underlying30 rfl Tryz.sizeOf27 rfl rfl)<|g_storeL (tag:=100050) rfl rfl rfl rfl Tryz.sizeOf27 rfl rfl<|g_nil<|d_normal_block<|d_then<|c_region<|g_v rfl r_move<|g_v rfl (r_add rfl rfl rfl)<|g_v rfl r_assign<|g_nil ?_
    obtain ⟨n803,hn803,hlp⟩:=nx_inl hm hnx6
    exact d_round (n803,l800,w64 (i755 + 1),x796.fs,x796.fbad,A801,c802) ⟨hlp,hc802⟩ hn803 ⟨rfl,rfl,rfl,rfl,rfl,rfl,trivial⟩ (fun W h=>((h.dropR (t:=100860) rfl).dropH (t:=100100) rfl).phi (fun W hφ=>hφ))
   have h785' : b757 = true:=by revert h785; cases b757 <;> simp
   replace hm:=ite_t hm h785'
   refine c_exit<|d_exit_then<|d_exit_then<|d_exit_block ?_
   replace hm:=nx_out (C:=(fun e : (List GAnchor)×ByteArray×Bool=>m_ref13_Load_j3 l181 l363 p0 e.1 e.2.1 e.2.2 = some r)) hm hnx6 hr6
   exact d_round (l752,s756,b757,A753,c754) ⟨hm,hc754⟩ Nat.zero_lt_one ⟨rfl,rfl,rfl,rfl,trivial⟩ (fun W h=>h.phi (fun W hφ=>hφ))
  replace hm:=ite_f hm (of_decide_eq_false h784)
  iterate 4 refine g_no rfl rfl rfl rfl rfl h784 ?_
  refine g_v rfl (r_pick0 rfl h784)<|g_nil<|d_then<|c_cond0 rfl rfl<|c_exit<|d_exit_then<|d_exit_then<|d_exit_block ?_
  replace hm:=nx_out (C:=(fun e : (List GAnchor)×ByteArray×Bool=>m_ref13_Load_j3 l181 l363 p0 e.1 e.2.1 e.2.2 = some r)) hm hnx6 hr6
  exact d_round (l752,s756,b757,A753,c754) ⟨hm,hc754⟩ Nat.zero_lt_one ⟨rfl,rfl,rfl,rfl,trivial⟩ (fun W h=>h.phi (fun W hφ=>hφ))
 unfold m_ref13_Load_j3 at hm
 refine d_flat [(0,.string p0),(2,.pointer (some ⟨g1,0,none⟩)),(4,.pointer (some ⟨g2,0,none⟩)),(5,.pointer (some ⟨g3,0,none⟩))] ⟨rfl,rfl,rfl,rfl,trivial⟩ (fun u=>?_)
 refine d_sta ⟨w0,M,(100170,g2,.cells #[.string s513,.bool b514] 105 (0,0))::(100050,g3,.cells #[.slice A182 l181.length c183,.slice A364 l363.length c365,.slice A511 l510.length c512,.int .i64 0,.slice none 0 0] 30 (0,0))::(100020,g1,.cells #[.slice none 0 0,.slice none 0 0,.slice none 0 0,.int .i64 0,.slice none 0 0] 30 (0,0))::H,(23,⟨.slice A511 l510.length c512,55,2,l510.length,l510.flatMap GAnchor.enc⟩)::(20,⟨.slice A364 l363.length c365,9,1,l363.length,l363.flatMap (fun x : ByteArray=>[Value.string x])⟩)::(15,⟨.slice A182 l181.length c183,3,1,l181.length,l181.flatMap (fun x : Int=>[Value.int .i64 x])⟩)::R,φ⟩ (fun _ h=>h)<|d_then<|c_seq<|c_region<|g_v rfl r_move ?_
 replace hm:=bnd hm
 obtain ⟨⟨x515,x516⟩,hx517,hm⟩:=hm
 refine g_cn ⟨w0,M,(1000,g2,.cells #[.string s513,.bool b514] 105 (0,0))::(100050,g3,.cells #[.slice A182 l181.length c183,.slice A364 l363.length c365,.slice A511 l510.length c512,.int .i64 0,.slice none 0 0] 30 (0,0))::(100020,g1,.cells #[.slice none 0 0,.slice none 0 0,.slice none 0 0,.int .i64 0,.slice none 0 0] 30 (0,0))::H,(23,⟨.slice A511 l510.length c512,55,2,l510.length,l510.flatMap GAnchor.enc⟩)::(20,⟨.slice A364 l363.length c365,9,1,l363.length,l363.flatMap (fun x : ByteArray=>[Value.string x])⟩)::(15,⟨.slice A182 l181.length c183,3,1,l181.length,l181.flatMap (fun x : Int=>[Value.int .i64 x])⟩)::R,φ⟩ (fun W h=>(ok_front (t:=100170) (t':=1000) h rfl)) Tryz.call76 rfl rfl (c_ref13_reader_number 8 g2 (⟨s513,b514⟩ : Gref13_reader) _ hx517) (fun _ _=>?_)
 refine g_sta _ (fun W h=>(ok_front (t:=1000) (t':=100170) h rfl))<|g_v rfl (r_field (n:=3) Tryz.underlying30 rfl Tryz.sizeOf3 rfl rfl)<|g_storeL (tag:=100050) rfl rfl rfl rfl Tryz.sizeOf3 rfl rfl<|g_nil<|d_then<|c_seq<|c_region<|g_v rfl r_move ?_
 replace hm:=bnd hm
 obtain ⟨⟨x519,x520⟩,hx521,hm⟩:=hm
 refine g_cn ⟨w0,M,(1000,g2,.cells #[.string x516.fs,.bool x516.fbad] 105 (0,0))::(100050,g3,.cells #[.slice A182 l181.length c183,.slice A364 l363.length c365,.slice A511 l510.length c512,.int .i64 x515,.slice none 0 0] 30 (0,0))::(100020,g1,.cells #[.slice none 0 0,.slice none 0 0,.slice none 0 0,.int .i64 0,.slice none 0 0] 30 (0,0))::H,(23,⟨.slice A511 l510.length c512,55,2,l510.length,l510.flatMap GAnchor.enc⟩)::(20,⟨.slice A364 l363.length c365,9,1,l363.length,l363.flatMap (fun x : ByteArray=>[Value.string x])⟩)::(15,⟨.slice A182 l181.length c183,3,1,l181.length,l181.flatMap (fun x : Int=>[Value.int .i64 x])⟩)::R,φ⟩ (fun W h=>(ok_front (t:=100170) (t':=1000) h rfl)) Tryz.call76 rfl rfl (c_ref13_reader_number 1 g2 x516 _ hx521) (fun _ _=>?_)
 refine g_sta _ (fun W h=>(ok_front (t:=1000) (t':=100170) h rfl))<|g_v rfl r_assign<|g_nil<|d_then<|c_seq<|c_sta _ (fun W h=>nilR h 26 48 2) ?_
 refine c_cut (ι:=(List GFlush)×ByteArray×Bool×Option Addr×Nat) [0,2,4,5] (fun ⟨l641,s644,b645,A642,c643⟩=>[]) (fun ⟨l641,s644,b645,A642,c643⟩=>⟨w0,M,(100170,g2,.cells #[.string s644,.bool b645] 105 (0,0))::(100050,g3,.cells #[.slice A182 l181.length c183,.slice A364 l363.length c365,.slice A511 l510.length c512,.int .i64 x515,.slice A642 l641.length c643] 30 (0,0))::(100020,g1,.cells #[.slice none 0 0,.slice none 0 0,.slice none 0 0,.int .i64 0,.slice none 0 0] 30 (0,0))::H,(26,⟨.slice A642 l641.length c643,48,2,l641.length,l641.flatMap GFlush.enc⟩)::(23,⟨.slice A511 l510.length c512,55,2,l510.length,l510.flatMap GAnchor.enc⟩)::(20,⟨.slice A364 l363.length c365,9,1,l363.length,l363.flatMap (fun x : ByteArray=>[Value.string x])⟩)::(15,⟨.slice A182 l181.length c183,3,1,l181.length,l181.flatMap (fun x : Int=>[Value.int .i64 x])⟩)::R,φ⟩) (fun ⟨l641,s644,b645,A642,c643⟩=>m_ref13_Load_j4 l181 l363 l510 x515 p0 l641 s644 b645 = some r∧l641.length ≤ c643) ?_ (fun ⟨l641,s644,b645,A642,c643⟩ u ⟨hm,hc643⟩=>?_)
 ·
  refine c_seq<|c_region<|g_v rfl r_assign<|g_nil<|d_then<|c_block ?_
  replace hm:=bnd hm
  obtain ⟨out5,hl5,hr5⟩:=hm
  obtain ⟨n710',hl5⟩:=loop_lp hl5
  refine c_loopU (ι:=Nat×(List GFlush)×Int×ByteArray×Bool×Option Addr×Nat) [0,2,4,5,6,12] (fun ⟨n710,l683,i686,s687,b688,A684,c685⟩=>[(12,.int .i64 i686)]) (fun ⟨n710,l683,i686,s687,b688,A684,c685⟩=>⟨w0,M,(100170,g2,.cells #[.string s687,.bool b688] 105 (0,0))::(100050,g3,.cells #[.slice A182 l181.length c183,.slice A364 l363.length c365,.slice A511 l510.length c512,.int .i64 x515,.slice A684 l683.length c685] 30 (0,0))::(100020,g1,.cells #[.slice none 0 0,.slice none 0 0,.slice none 0 0,.int .i64 0,.slice none 0 0] 30 (0,0))::H,(26,⟨.slice A684 l683.length c685,48,2,l683.length,l683.flatMap GFlush.enc⟩)::(23,⟨.slice A511 l510.length c512,55,2,l510.length,l510.flatMap GAnchor.enc⟩)::(20,⟨.slice A364 l363.length c365,9,1,l363.length,l363.flatMap (fun x : ByteArray=>[Value.string x])⟩)::(15,⟨.slice A182 l181.length c183,3,1,l181.length,l181.flatMap (fun x : Int=>[Value.int .i64 x])⟩)::R,φ⟩) (fun ⟨n710,l683,i686,s687,b688,A684,c685⟩=>Lp (fun s=>m_ref13_Load_s5 x519 s.1 s.2.1 s.2.2.1 s.2.2.2) n710 (l683,i686,s687,b688) out5∧l683.length ≤ c685) (fun ⟨n710,l683,i686,s687,b688,A684,c685⟩=>n710) (n710',([] : List GFlush),0,x520.fs,x520.fbad,none,0) ⟨hl5,(Nat.le_refl 0)⟩ ⟨rfl,rfl,rfl,rfl,rfl,rfl,trivial⟩ (fun W h=>h.phi (fun W hφ=>hφ)) (fun ⟨n710,l683,i686,s687,b688,A684,c685⟩ u ⟨hlp,hc685⟩=>?_)
  obtain ⟨o5,hm,hnx5⟩:=lp_step hlp
  clear hlp
  replace hm : m_ref13_Load_s5 x519 l683 i686 s687 b688 = some o5:=hm
  unfold m_ref13_Load_s5 at hm
  refine c_flat [(0,.string p0),(2,.pointer (some ⟨g1,0,none⟩)),(4,.pointer (some ⟨g2,0,none⟩)),(5,.pointer (some ⟨g3,0,none⟩)),(6,.int .i64 x519),(12,.int .i64 i686)] ⟨rfl,rfl,rfl,rfl,rfl,rfl,trivial⟩ (fun u=>?_)
  refine c_sta ⟨w0,M,(100170,g2,.cells #[.string s687,.bool b688] 105 (0,0))::(100050,g3,.cells #[.slice A182 l181.length c183,.slice A364 l363.length c365,.slice A511 l510.length c512,.int .i64 x515,.slice A684 l683.length c685] 30 (0,0))::(100020,g1,.cells #[.slice none 0 0,.slice none 0 0,.slice none 0 0,.int .i64 0,.slice none 0 0] 30 (0,0))::H,(26,⟨.slice A684 l683.length c685,48,2,l683.length,l683.flatMap GFlush.enc⟩)::(23,⟨.slice A511 l510.length c512,55,2,l510.length,l510.flatMap GAnchor.enc⟩)::(20,⟨.slice A364 l363.length c365,9,1,l363.length,l363.flatMap (fun x : ByteArray=>[Value.string x])⟩)::(15,⟨.slice A182 l181.length c183,3,1,l181.length,l181.flatMap (fun x : Int=>[Value.int .i64 x])⟩)::R,φ⟩ (fun _ h=>h)<|c_seq<|c_seq<|c_region<|g_v rfl r_move<|g_v rfl r_move<|g_v rfl (r_lss rfl rfl)<|g_v rfl r_move ?_
  refine g_if rfl rfl rfl rfl rfl (fun h711=>?_) (fun h711=>?_)
  ·
   replace hm:=ite_t hm (of_decide_eq_true h711)
   refine g_v rfl r_move<|g_do rfl rfl rfl rfl rfl h711<|g_v rfl (r_nilck rfl)<|g_do rfl rfl rfl rfl rfl h711<|g_v rfl (r_field (n:=1) Tryz.underlying105 rfl Tryz.sizeOf4 rfl rfl)<|g_do rfl rfl rfl rfl rfl h711<|g_v rfl (r_load (tag:=100170) rfl rfl rfl Tryz.isAgg4)<|g_do rfl rfl rfl rfl rfl h711<|g_v rfl (r_not rfl)<|g_v rfl (r_pick1 rfl h711) ?_
   refine g_nil<|d_then ?_
   refine c_flat [(0,.string p0),(2,.pointer (some ⟨g1,0,none⟩)),(4,.pointer (some ⟨g2,0,none⟩)),(5,.pointer (some ⟨g3,0,none⟩)),(6,.int .i64 x519),(12,.int .i64 i686),(103,.bool (!b688))] ⟨rfl,rfl,rfl,rfl,rfl,rfl,rfl,trivial⟩ (fun u=>?_)
   refine c_cond rfl (fun h712=>?_) (fun h712=>?_)
   ·
    have h712' : b688 = false:=by revert h712; cases b688 <;> simp
    replace hm:=ite_f hm (bool_nt h712')
    refine c_skip<|d_then<|c_seq<|c_block<|c_seq<|c_region<|g_v rfl r_move ?_
    replace hm:=bnd hm
    obtain ⟨⟨x713,x714⟩,hx715,hm⟩:=hm
    refine g_cn ⟨w0,M,(1000,g2,.cells #[.string s687,.bool b688] 105 (0,0))::(100050,g3,.cells #[.slice A182 l181.length c183,.slice A364 l363.length c365,.slice A511 l510.length c512,.int .i64 x515,.slice A684 l683.length c685] 30 (0,0))::(100020,g1,.cells #[.slice none 0 0,.slice none 0 0,.slice none 0 0,.int .i64 0,.slice none 0 0] 30 (0,0))::H,(26,⟨.slice A684 l683.length c685,48,2,l683.length,l683.flatMap GFlush.enc⟩)::(23,⟨.slice A511 l510.length c512,55,2,l510.length,l510.flatMap GAnchor.enc⟩)::(20,⟨.slice A364 l363.length c365,9,1,l363.length,l363.flatMap (fun x : ByteArray=>[Value.string x])⟩)::(15,⟨.slice A182 l181.length c183,3,1,l181.length,l181.flatMap (fun x : Int=>[Value.int .i64 x])⟩)::R,φ⟩ (fun W h=>(ok_front (t:=100170) (t':=1000) h rfl)) Tryz.call76 rfl rfl (c_ref13_reader_number 8 g2 (⟨s687,b688⟩ : Gref13_reader) _ hx715) (fun _ _=>?_)
    refine g_sta _ (fun W h=>(ok_front (t:=1000) (t':=100170) h rfl))<|g_v rfl (r_build _ rfl (bld48_27 _)) ?_
    refine g_e rfl (e_alloc 100130 Tryz.zeroValue48) (fun g717 _=>?_)
    refine g_storeL (tag:=100130) rfl rfl rfl rfl Tryz.sizeOf48 rfl rfl<|g_nil<|d_then<|c_seq<|c_region<|g_v rfl r_move ?_
    replace hm:=bnd hm
    obtain ⟨⟨x718,x719⟩,hx720,hm⟩:=hm
    refine g_cn ⟨w0,M,(1000,g2,.cells #[.string x714.fs,.bool x714.fbad] 105 (0,0))::(100130,g717,.cells #[.int .i64 x713,.string (⟨#[]⟩ : ByteArray)] 48 (0,0))::(100050,g3,.cells #[.slice A182 l181.length c183,.slice A364 l363.length c365,.slice A511 l510.length c512,.int .i64 x515,.slice A684 l683.length c685] 30 (0,0))::(100020,g1,.cells #[.slice none 0 0,.slice none 0 0,.slice none 0 0,.int .i64 0,.slice none 0 0] 30 (0,0))::H,(26,⟨.slice A684 l683.length c685,48,2,l683.length,l683.flatMap GFlush.enc⟩)::(23,⟨.slice A511 l510.length c512,55,2,l510.length,l510.flatMap GAnchor.enc⟩)::(20,⟨.slice A364 l363.length c365,9,1,l363.length,l363.flatMap (fun x : ByteArray=>[Value.string x])⟩)::(15,⟨.slice A182 l181.length c183,3,1,l181.length,l181.flatMap (fun x : Int=>[Value.int .i64 x])⟩)::R,φ⟩ (fun W h=>(ok_front (t:=100170) (t':=1000) h rfl)) Tryz.call78 rfl rfl (c_ref13_reader_name g2 x714 _ hx720) (fun _ _=>?_)
    refine g_sta _ (fun W h=>(ok_front (t:=1000) (t':=100170) h rfl))<|g_v rfl (r_field (n:=1) Tryz.underlying48 rfl Tryz.sizeOf9 rfl rfl)<|g_storeL (tag:=100130) rfl rfl rfl rfl Tryz.sizeOf9 rfl rfl<|g_nil<|d_then ?_
    refine c_flat [(0,.string p0),(2,.pointer (some ⟨g1,0,none⟩)),(4,.pointer (some ⟨g2,0,none⟩)),(5,.pointer (some ⟨g3,0,none⟩)),(6,.int .i64 x519),(12,.int .i64 i686),(13,.pointer (some ⟨g717,0,none⟩))] ⟨rfl,rfl,rfl,rfl,rfl,rfl,rfl,trivial⟩ (fun u=>?_)
    refine c_sta ⟨w0,M,(100170,g2,.cells #[.string x719.fs,.bool x719.fbad] 105 (0,0))::(100130,g717,.cells #[.int .i64 x713,.string x718] 48 (0,0))::(100050,g3,.cells #[.slice A182 l181.length c183,.slice A364 l363.length c365,.slice A511 l510.length c512,.int .i64 x515,.slice A684 l683.length c685] 30 (0,0))::(100020,g1,.cells #[.slice none 0 0,.slice none 0 0,.slice none 0 0,.int .i64 0,.slice none 0 0] 30 (0,0))::H,(26,⟨.slice A684 l683.length c685,48,2,l683.length,l683.flatMap GFlush.enc⟩)::(23,⟨.slice A511 l510.length c512,55,2,l510.length,l510.flatMap GAnchor.enc⟩)::(20,⟨.slice A364 l363.length c365,9,1,l363.length,l363.flatMap (fun x : ByteArray=>[Value.string x])⟩)::(15,⟨.slice A182 l181.length c183,3,1,l181.length,l181.flatMap (fun x : Int=>[Value.int .i64 x])⟩)::R,φ⟩ (fun _ h=>h)<|c_region<|g_v rfl (r_field (n:=4) Tryz.underlying30 rfl Tryz.sizeOf28 rfl rfl)<|g_v rfl (r_load (tag:=100050) rfl rfl rfl Tryz.isAgg28)<|g_v rfl (r_loadA (tag:=100130) rfl rfl Tryz.isAgg48 Tryz.sizeOf48 rfl rfl) ?_
    refine g_e rfl (e_lit (tag:=101150) (l:=[(⟨x713,x718⟩ : GFlush)]) (enc:=GFlush.enc) (sz:=2) rfl Tryz.underlying28 (lit48_19 _ _) rfl rfl (fun _=>rfl)) (fun g722 _=>?_)
    replace hm:=bnd hm
    obtain ⟨l723,hl723,hm⟩:=hm
    refine g_e rfl (e_appR (enc:=GFlush.enc) (l:=l683) (l1:=[(⟨x713,x718⟩ : GFlush)]) (l2:=l723) (tag:=26) Tryz.underlying28 inf48_16 rfl (by decide) (by decide) (fun _=>rfl) (fun _=>rfl) rfl hc685 rfl rfl (fun W hS=>rowCl (tag:=101150) rfl W hS) hl723) (fun ⟨A724,c725⟩ hc725=>?_)
    refine g_v rfl (r_field (n:=4) Tryz.underlying30 rfl Tryz.sizeOf28 rfl rfl)<|g_storeL (tag:=100050) rfl rfl rfl rfl Tryz.sizeOf28 rfl rfl<|g_nil<|d_normal_block<|d_then<|c_region<|g_v rfl r_move<|g_v rfl (r_add rfl rfl rfl)<|g_v rfl r_assign<|g_nil ?_
    obtain ⟨n726,hn726,hlp⟩:=nx_inl hm hnx5
    exact d_round (n726,l723,w64 (i686 + 1),x719.fs,x719.fbad,A724,c725) ⟨hlp,hc725⟩ hn726 ⟨rfl,rfl,rfl,rfl,rfl,rfl,trivial⟩ (fun W h=>((h.dropR (t:=101150) rfl).dropH (t:=100130) rfl).phi (fun W hφ=>hφ))
   have h712' : b688 = true:=by revert h712; cases b688 <;> simp
   replace hm:=ite_t hm h712'
   refine c_exit<|d_exit_then<|d_exit_then<|d_exit_block ?_
   replace hm:=nx_out (C:=(fun e : (List GFlush)×ByteArray×Bool=>m_ref13_Load_j4 l181 l363 l510 x515 p0 e.1 e.2.1 e.2.2 = some r)) hm hnx5 hr5
   exact d_round (l683,s687,b688,A684,c685) ⟨hm,hc685⟩ Nat.zero_lt_one ⟨rfl,rfl,rfl,rfl,trivial⟩ (fun W h=>h.phi (fun W hφ=>hφ))
  replace hm:=ite_f hm (of_decide_eq_false h711)
  iterate 4 refine g_no rfl rfl rfl rfl rfl h711 ?_
  refine g_v rfl (r_pick0 rfl h711)<|g_nil<|d_then<|c_cond0 rfl rfl<|c_exit<|d_exit_then<|d_exit_then<|d_exit_block ?_
  replace hm:=nx_out (C:=(fun e : (List GFlush)×ByteArray×Bool=>m_ref13_Load_j4 l181 l363 l510 x515 p0 e.1 e.2.1 e.2.2 = some r)) hm hnx5 hr5
  exact d_round (l683,s687,b688,A684,c685) ⟨hm,hc685⟩ Nat.zero_lt_one ⟨rfl,rfl,rfl,rfl,trivial⟩ (fun W h=>h.phi (fun W hφ=>hφ))
 unfold m_ref13_Load_j4 at hm
 refine d_flat [(0,.string p0),(2,.pointer (some ⟨g1,0,none⟩)),(4,.pointer (some ⟨g2,0,none⟩)),(5,.pointer (some ⟨g3,0,none⟩))] ⟨rfl,rfl,rfl,rfl,trivial⟩ (fun u=>?_)
 refine d_sta ⟨w0,M,(100170,g2,.cells #[.string s644,.bool b645] 105 (0,0))::(100050,g3,.cells #[.slice A182 l181.length c183,.slice A364 l363.length c365,.slice A511 l510.length c512,.int .i64 x515,.slice A642 l641.length c643] 30 (0,0))::(100020,g1,.cells #[.slice none 0 0,.slice none 0 0,.slice none 0 0,.int .i64 0,.slice none 0 0] 30 (0,0))::H,(26,⟨.slice A642 l641.length c643,48,2,l641.length,l641.flatMap GFlush.enc⟩)::(23,⟨.slice A511 l510.length c512,55,2,l510.length,l510.flatMap GAnchor.enc⟩)::(20,⟨.slice A364 l363.length c365,9,1,l363.length,l363.flatMap (fun x : ByteArray=>[Value.string x])⟩)::(15,⟨.slice A182 l181.length c183,3,1,l181.length,l181.flatMap (fun x : Int=>[Value.int .i64 x])⟩)::R,φ⟩ (fun _ h=>h)<|d_then<|c_seq<|c_region<|g_v rfl (r_loadA (tag:=100050) rfl rfl Tryz.isAgg30 Tryz.sizeOf30 rfl rfl) ?_
 replace hm:=bnd hm
 obtain ⟨x646,hx647,hm⟩:=hm
 refine g_cn ⟨w0,M,_,_,φ⟩ (fun _ h=>h) Tryz.call20 rfl rfl (c_ref13_Right (⟨l181,l363,l510,x515,l641⟩ : GConf) A182 c183 hc183 (fun W hS=>rowCl (tag:=15) rfl W hS) A364 c365 hc365 (fun W hS=>rowCl (tag:=20) rfl W hS) A511 c512 hc512 (fun W hS=>rowCl (tag:=23) rfl W hS) A642 c643 hc643 (fun W hS=>rowCl (tag:=26) rfl W hS) _ hx647) (fun _ _=>?_)
 refine g_v rfl r_assign<|g_nil<|d_then<|c_seq<|c_seq<|c_region<|g_v rfl r_move<|g_v rfl (r_nilck rfl)<|g_v rfl (r_field (n:=1) Tryz.underlying105 rfl Tryz.sizeOf4 rfl rfl)<|g_v rfl (r_load (tag:=100170) rfl rfl rfl Tryz.isAgg4) ?_
 refine g_v rfl r_move ?_
 refine g_if rfl rfl rfl rfl rfl (fun h648=>?_) (fun h648=>?_)
 ·
  replace hm:=ite_f hm (bool_nt h648)
  refine g_v rfl r_move<|g_do rfl rfl rfl rfl rfl h648<|g_v rfl (r_not rfl)<|g_v rfl (r_pick0 rfl h648)<|g_v rfl r_move ?_
  refine g_if rfl rfl rfl rfl rfl (fun h649=>?_) (fun h649=>?_)
  ·
   have h649' : x646 = true:=by revert h649; cases x646 <;> simp
   replace hm:=ite_t hm h649'
   refine g_v rfl (r_loadA (tag:=100050) rfl rfl Tryz.isAgg30 Tryz.sizeOf30 rfl rfl)<|g_do rfl rfl rfl rfl rfl h649 ?_
   replace hm:=bnd hm
   obtain ⟨x650,hx651,hm⟩:=hm
   refine g_cn ⟨w0,M,_,_,φ⟩ (fun _ h=>h) Tryz.call17 rfl rfl (c_ref13_Snap (⟨l181,l363,l510,x515,l641⟩ : GConf) A182 c183 hc183 (fun W hS=>rowCl (tag:=15) rfl W hS) A364 c365 hc365 (fun W hS=>rowCl (tag:=20) rfl W hS) A511 c512 hc512 (fun W hS=>rowCl (tag:=23) rfl W hS) A642 c643 hc643 (fun W hS=>rowCl (tag:=26) rfl W hS) _ hx651) (fun _ _=>?_)
   refine g_do rfl rfl rfl rfl rfl h649<|g_v rfl r_move<|g_do rfl rfl rfl rfl rfl h649<|g_v rfl (r_neqT rfl rfl)<|g_v rfl (r_pick0 rfl h649)<|g_v rfl r_move ?_
   refine g_if rfl rfl rfl rfl rfl (fun h652=>?_) (fun h652=>?_)
   ·
    have h652' : (decide (x650 = p0)) = true:=by revert h652; cases (decide (x650 = p0)) <;> simp
    replace hm:=ite_t hm (of_decide_eq_true h652')
    refine g_v rfl r_move<|g_do rfl rfl rfl rfl rfl h652<|g_v rfl (r_eqlT rfl rfl)<|g_v rfl (r_pick0 rfl h652)<|g_nil<|d_then ?_
    refine c_flat [(2,.pointer (some ⟨g1,0,none⟩)),(5,.pointer (some ⟨g3,0,none⟩)),(137,.bool (decide (p0 = (⟨#[]⟩ : ByteArray))))] ⟨rfl,rfl,rfl,trivial⟩ (fun u=>?_)
    refine c_cond rfl (fun h653=>?_) (fun h653=>?_)
    ·
     replace hm:=ite_t hm (of_decide_eq_true h653)
     refine c_seq<|c_region<|g_v rfl (r_build _ rfl (bld30_9))<|g_storeL (tag:=100020) rfl rfl rfl rfl Tryz.sizeOf30 rfl rfl<|g_v rfl r_assign<|g_nil<|d_then<|c_ret<|d_ret_then ?_
     cases hm
     exact d_retC (none,0,none,0,none,0,none,0) Tryz.results19 (res_agg (tag:=100020) rfl rfl Tryz.isAgg30 Tryz.sizeOf30 (res_tmp (res_nil rfl))) ⟨(Nat.le_refl 0),(Nat.le_refl 0),(Nat.le_refl 0),(Nat.le_refl 0)⟩ (fun W h=>ok_pre (H1:=[_,_,_]) (R1:=[_,_,_,_]) h (fun W hφ=>⟨hφ,(fun W _=>Cl.nil _ _) W hφ,(fun W _=>Cl.nil _ _) W hφ,(fun W _=>Cl.nil _ _) W hφ,(fun W _=>Cl.nil _ _) W hφ⟩)) (.inr rfl)
    replace hm:=ite_f hm (of_decide_eq_false h653)
    refine c_skip<|d_then<|c_seq<|c_region<|g_v rfl (r_loadA (tag:=100050) rfl rfl Tryz.isAgg30 Tryz.sizeOf30 rfl rfl)<|g_storeL (tag:=100020) rfl rfl rfl rfl Tryz.sizeOf30 rfl rfl<|g_v rfl r_assign<|g_nil<|d_then<|c_ret ?_
    cases hm
    refine d_shut (tag:=15) rfl (fun φ654 q654'=>?_)
    have q654 : ∀ W,φ654 W→φ W:=fun W h=>(q654' W h).1
    have f655:=fun (W : World) (h : φ654 W)=>(q654' W h).2
    refine d_shut (tag:=20) rfl (fun φ656 q656'=>?_)
    have q656 : ∀ W,φ656 W→φ654 W:=fun W h=>(q656' W h).1
    have f657:=fun (W : World) (h : φ656 W)=>(q656' W h).2
    refine d_shut (tag:=23) rfl (fun φ658 q658'=>?_)
    have q658 : ∀ W,φ658 W→φ656 W:=fun W h=>(q658' W h).1
    have f659:=fun (W : World) (h : φ658 W)=>(q658' W h).2
    refine d_shut (tag:=26) rfl (fun φ660 q660'=>?_)
    have q660 : ∀ W,φ660 W→φ658 W:=fun W h=>(q660' W h).1
    have f661:=fun (W : World) (h : φ660 W)=>(q660' W h).2
    exact d_retC (A182,c183,A364,c365,A511,c512,A642,c643) Tryz.results19 (res_agg (tag:=100020) rfl rfl Tryz.isAgg30 Tryz.sizeOf30 (res_tmp (res_nil rfl))) ⟨hc183,hc365,hc512,hc643⟩ (fun W h=>ok_pre (H1:=[_,_,_]) (R1:=[]) h (fun W hφ=>⟨(q654 _ (q656 _ (q658 _ (q660 _ hφ)))),(fun W h=>f655 W (q656 _ (q658 _ (q660 _ h)))) W hφ,(fun W h=>f657 W (q658 _ (q660 _ h))) W hφ,(fun W h=>f659 W (q660 _ h)) W hφ,(fun W h=>f661 W h) W hφ⟩)) (.inr rfl)
   have h652' : (decide (x650 = p0)) = false:=by revert h652; cases (decide (x650 = p0)) <;> simp
   replace hm:=ite_f hm (of_decide_eq_false h652')
   refine g_no rfl rfl rfl rfl rfl h652<|g_v rfl (r_pick1 rfl h652)<|g_nil<|d_then ?_
   refine c_flat [(2,.pointer (some ⟨g1,0,none⟩)),(5,.pointer (some ⟨g3,0,none⟩)),(137,.bool true)] ⟨rfl,rfl,rfl,trivial⟩ (fun u=>?_)
   refine c_cond1 rfl rfl<|c_seq<|c_region<|g_v rfl (r_build _ rfl (bld30_9))<|g_storeL (tag:=100020) rfl rfl rfl rfl Tryz.sizeOf30 rfl rfl<|g_v rfl r_assign<|g_nil<|d_then<|c_ret<|d_ret_then ?_
   cases hm
   exact d_retC (none,0,none,0,none,0,none,0) Tryz.results19 (res_agg (tag:=100020) rfl rfl Tryz.isAgg30 Tryz.sizeOf30 (res_tmp (res_nil rfl))) ⟨(Nat.le_refl 0),(Nat.le_refl 0),(Nat.le_refl 0),(Nat.le_refl 0)⟩ (fun W h=>ok_pre (H1:=[_,_,_]) (R1:=[_,_,_,_]) h (fun W hφ=>⟨hφ,(fun W _=>Cl.nil _ _) W hφ,(fun W _=>Cl.nil _ _) W hφ,(fun W _=>Cl.nil _ _) W hφ,(fun W _=>Cl.nil _ _) W hφ⟩)) (.inr rfl)
  have h649' : x646 = false:=by revert h649; cases x646 <;> simp
  replace hm:=ite_f hm (bool_nt h649')
  iterate 3 refine g_no rfl rfl rfl rfl rfl h649 ?_
  refine g_v rfl (r_pick1 rfl h649)<|g_v rfl r_move<|g_no rfl rfl rfl rfl rfl rfl<|g_no rfl rfl rfl rfl rfl rfl<|g_v rfl (r_pick1 rfl rfl)<|g_nil<|d_then ?_
  refine c_flat [(2,.pointer (some ⟨g1,0,none⟩)),(5,.pointer (some ⟨g3,0,none⟩)),(137,.bool true)] ⟨rfl,rfl,rfl,trivial⟩ (fun u=>?_)
  refine c_cond1 rfl rfl<|c_seq<|c_region<|g_v rfl (r_build _ rfl (bld30_9))<|g_storeL (tag:=100020) rfl rfl rfl rfl Tryz.sizeOf30 rfl rfl<|g_v rfl r_assign<|g_nil<|d_then<|c_ret<|d_ret_then ?_
  cases hm
  exact d_retC (none,0,none,0,none,0,none,0) Tryz.results19 (res_agg (tag:=100020) rfl rfl Tryz.isAgg30 Tryz.sizeOf30 (res_tmp (res_nil rfl))) ⟨(Nat.le_refl 0),(Nat.le_refl 0),(Nat.le_refl 0),(Nat.le_refl 0)⟩ (fun W h=>ok_pre (H1:=[_,_,_]) (R1:=[_,_,_,_]) h (fun W hφ=>⟨hφ,(fun W _=>Cl.nil _ _) W hφ,(fun W _=>Cl.nil _ _) W hφ,(fun W _=>Cl.nil _ _) W hφ,(fun W _=>Cl.nil _ _) W hφ⟩)) (.inr rfl)
 replace hm:=ite_t hm h648
 refine g_no rfl rfl rfl rfl rfl h648<|g_v rfl (r_pick1 rfl h648)<|g_v rfl r_move ?_
 iterate 4 refine g_no rfl rfl rfl rfl rfl rfl ?_
 refine g_v rfl (r_pick1 rfl rfl)<|g_v rfl r_move<|g_no rfl rfl rfl rfl rfl rfl<|g_no rfl rfl rfl rfl rfl rfl<|g_v rfl (r_pick1 rfl rfl)<|g_nil<|d_then ?_
 refine c_flat [(2,.pointer (some ⟨g1,0,none⟩)),(5,.pointer (some ⟨g3,0,none⟩)),(137,.bool true)] ⟨rfl,rfl,rfl,trivial⟩ (fun u=>?_)
 refine c_cond1 rfl rfl<|c_seq<|c_region<|g_v rfl (r_build _ rfl (bld30_9))<|g_storeL (tag:=100020) rfl rfl rfl rfl Tryz.sizeOf30 rfl rfl<|g_v rfl r_assign<|g_nil<|d_then<|c_ret<|d_ret_then ?_
 cases hm
 exact d_retC (none,0,none,0,none,0,none,0) Tryz.results19 (res_agg (tag:=100020) rfl rfl Tryz.isAgg30 Tryz.sizeOf30 (res_tmp (res_nil rfl))) ⟨(Nat.le_refl 0),(Nat.le_refl 0),(Nat.le_refl 0),(Nat.le_refl 0)⟩ (fun W h=>ok_pre (H1:=[_,_,_]) (R1:=[_,_,_,_]) h (fun W hφ=>⟨hφ,(fun W _=>Cl.nil _ _) W hφ,(fun W _=>Cl.nil _ _) W hφ,(fun W _=>Cl.nil _ _) W hφ,(fun W _=>Cl.nil _ _) W hφ⟩)) (.inr rfl)
theorem eqq55 (a b : GAnchor) : ∀ d W,(Op.equalIn (d + 5) 55 (.agg #[.string a.fName,.string a.fText]) (.agg #[.string b.fName,.string b.fText])).run Tryz.prog W = .ok (decide (a = b)) W:=by
  intro d W
  have h:=eqs_of (d:=d + 4) (xs:=#[.string a.fName,.string a.fText]) (ys:=#[.string b.fName,.string b.fText]) (w:=W) Tryz.underlying55 (by kernel_rfl) (eqs_cons (a:=.string a.fName) (b:=.string b.fName) rfl (by kernel_rfl) (by kernel_rfl) (eqs_str Tryz.underlying9) (eqs_cons (a:=.string a.fText) (b:=.string b.fText) rfl (by kernel_rfl) (by kernel_rfl) (eqs_str Tryz.underlying9) eqs_nil))
  refine h.trans ?_
  congr 1
  cases a; cases b
  simp only [GAnchor.mk.injEq,Bool.and_true]
  simp only [Bool.decide_and]
theorem eqg55 : Tryz.prog.eqGuardType Tryz.prog.depth 55 = false:=by kernel_rfl
theorem eqq48 (a b : GFlush) : ∀ d W,(Op.equalIn (d + 5) 48 (.agg #[.int .i64 a.fEpoch,.string a.fZone]) (.agg #[.int .i64 b.fEpoch,.string b.fZone])).run Tryz.prog W = .ok (decide (a = b)) W:=by
  intro d W
  have h:=eqs_of (d:=d + 4) (xs:=#[.int .i64 a.fEpoch,.string a.fZone]) (ys:=#[.int .i64 b.fEpoch,.string b.fZone]) (w:=W) Tryz.underlying48 (by kernel_rfl) (eqs_cons (a:=.int .i64 a.fEpoch) (b:=.int .i64 b.fEpoch) rfl (by kernel_rfl) (by kernel_rfl) (eqs_int Tryz.underlying3) (eqs_cons (a:=.string a.fZone) (b:=.string b.fZone) rfl (by kernel_rfl) (by kernel_rfl) (eqs_str Tryz.underlying9) eqs_nil))
  refine h.trans ?_
  congr 1
  cases a; cases b
  simp only [GFlush.mk.injEq,Bool.and_true]
  simp only [Bool.decide_and]
theorem eqg48 : Tryz.prog.eqGuardType Tryz.prog.depth 48 = false:=by kernel_rfl
noncomputable def m_ref13_Same_j4  : Option Bool:=
  some true
noncomputable def m_ref13_Same_s5 (p0 : GConf) (p1 : GConf) (i259 : Int) : Option (Int ⊕ (Unit ⊕ Bool)):=
  if i259 < (p0.fFlushes.length : Int) then
    (at_ p0.fFlushes i259).bind fun x305=>
    (at_ p1.fFlushes i259).bind fun x309=>
    if x305 = x309 then
      some (.inl (w64 (i259 + 1)))
    else
      some (.inr (.inr false))
  else
    some (.inr (.inl ()))
noncomputable def m_ref13_Same_j3 (p0 : GConf) (p1 : GConf) : Option Bool:=
  (loop (fun s=>m_ref13_Same_s5 p0 p1 s) 0).bind fun e=>Sum.elim (fun e=>m_ref13_Same_j4) (fun x=>some x) e
noncomputable def m_ref13_Same_s6 (p0 : GConf) (p1 : GConf) (i342 : Int) : Option (Int ⊕ (Unit ⊕ Bool)):=
  if i342 < (p0.fAnchors.length : Int) then
    (at_ p0.fAnchors i342).bind fun x388=>
    (at_ p1.fAnchors i342).bind fun x392=>
    if x388 = x392 then
      some (.inl (w64 (i342 + 1)))
    else
      some (.inr (.inr false))
  else
    some (.inr (.inl ()))
noncomputable def m_ref13_Same_j2 (p0 : GConf) (p1 : GConf) : Option Bool:=
  (loop (fun s=>m_ref13_Same_s6 p0 p1 s) 0).bind fun e=>Sum.elim (fun e=>m_ref13_Same_j3 p0 p1) (fun x=>some x) e
noncomputable def m_ref13_Same_s7 (p0 : GConf) (p1 : GConf) (i425 : Int) : Option (Int ⊕ (Unit ⊕ Bool)):=
  if i425 < (p0.fHints.length : Int) then
    (at_ p0.fHints i425).bind fun x471=>
    (at_ p1.fHints i425).bind fun x475=>
    if x471 = x475 then
      some (.inl (w64 (i425 + 1)))
    else
      some (.inr (.inr false))
  else
    some (.inr (.inl ()))
noncomputable def m_ref13_Same_j1 (p0 : GConf) (p1 : GConf) : Option Bool:=
  (loop (fun s=>m_ref13_Same_s7 p0 p1 s) 0).bind fun e=>Sum.elim (fun e=>m_ref13_Same_j2 p0 p1) (fun x=>some x) e
noncomputable def m_ref13_Same_s8 (p0 : GConf) (p1 : GConf) (i508 : Int) : Option (Int ⊕ (Unit ⊕ Bool)):=
  if i508 < (p0.fRing.length : Int) then
    (at_ p0.fRing i508).bind fun x554=>
    (at_ p1.fRing i508).bind fun x558=>
    if x554 ≠ x558 then
      some (.inr (.inr false))
    else
      some (.inl (w64 (i508 + 1)))
  else
    some (.inr (.inl ()))
noncomputable def m_ref13_Same (p0 : GConf) (p1 : GConf) : Option Bool:=
  if p0.fEpoch ≠ p1.fEpoch then
    some false
  else
    if (p0.fRing.length : Int) ≠ (p1.fRing.length : Int) then
      some false
    else
      if (p0.fHints.length : Int) ≠ (p1.fHints.length : Int) then
        some false
      else
        if (p0.fAnchors.length : Int) ≠ (p1.fAnchors.length : Int) then
          some false
        else
          if (p0.fFlushes.length : Int) ≠ (p1.fFlushes.length : Int) then
            some false
          else
            (loop (fun s=>m_ref13_Same_s8 p0 p1 s) 0).bind fun e=>Sum.elim (fun e=>m_ref13_Same_j1 p0 p1) (fun x=>some x) e
theorem c_ref13_Same {w0 : World} {M : Nat→Prop} {H : List (Nat×Nat×Obj)} {R : List (Nat×Row)} {φ : World→Prop} (p0 : GConf) (Ap0_0 : Option Addr) (cp0_0 : Nat) (hcp0_0 : p0.fRing.length ≤ cp0_0) (fp0_0 : ∀ W,(Sta.mk w0 M H R φ).ok W→Cl W Ap0_0 (p0.fRing.flatMap (fun x : Int=>[Value.int .i64 x]))) (Ap0_1 : Option Addr) (cp0_1 : Nat) (hcp0_1 : p0.fHints.length ≤ cp0_1) (fp0_1 : ∀ W,(Sta.mk w0 M H R φ).ok W→Cl W Ap0_1 (p0.fHints.flatMap (fun x : ByteArray=>[Value.string x]))) (Ap0_2 : Option Addr) (cp0_2 : Nat) (hcp0_2 : p0.fAnchors.length ≤ cp0_2) (fp0_2 : ∀ W,(Sta.mk w0 M H R φ).ok W→Cl W Ap0_2 (p0.fAnchors.flatMap GAnchor.enc)) (Ap0_3 : Option Addr) (cp0_3 : Nat) (hcp0_3 : p0.fFlushes.length ≤ cp0_3) (fp0_3 : ∀ W,(Sta.mk w0 M H R φ).ok W→Cl W Ap0_3 (p0.fFlushes.flatMap GFlush.enc)) (p1 : GConf) (Ap1_0 : Option Addr) (cp1_0 : Nat) (hcp1_0 : p1.fRing.length ≤ cp1_0) (fp1_0 : ∀ W,(Sta.mk w0 M H R φ).ok W→Cl W Ap1_0 (p1.fRing.flatMap (fun x : Int=>[Value.int .i64 x]))) (Ap1_1 : Option Addr) (cp1_1 : Nat) (hcp1_1 : p1.fHints.length ≤ cp1_1) (fp1_1 : ∀ W,(Sta.mk w0 M H R φ).ok W→Cl W Ap1_1 (p1.fHints.flatMap (fun x : ByteArray=>[Value.string x]))) (Ap1_2 : Option Addr) (cp1_2 : Nat) (hcp1_2 : p1.fAnchors.length ≤ cp1_2) (fp1_2 : ∀ W,(Sta.mk w0 M H R φ).ok W→Cl W Ap1_2 (p1.fAnchors.flatMap GAnchor.enc)) (Ap1_3 : Option Addr) (cp1_3 : Nat) (hcp1_3 : p1.fFlushes.length ≤ cp1_3) (fp1_3 : ∀ W,(Sta.mk w0 M H R φ).ok W→Cl W Ap1_3 (p1.fFlushes.flatMap GFlush.enc)) (r : Bool) (hm : m_ref13_Same p0 p1 = some r) :
    Cn Tryz.prog 12 #[.agg #[.slice Ap0_0 p0.fRing.length cp0_0,.slice Ap0_1 p0.fHints.length cp0_1,.slice Ap0_2 p0.fAnchors.length cp0_2,.int .i64 p0.fEpoch,.slice Ap0_3 p0.fFlushes.length cp0_3],.agg #[.slice Ap1_0 p1.fRing.length cp1_0,.slice Ap1_1 p1.fHints.length cp1_1,.slice Ap1_2 p1.fAnchors.length cp1_2,.int .i64 p1.fEpoch,.slice Ap1_3 p1.fFlushes.length cp1_3]] ⟨w0,M,H,R,φ⟩ (fun x : Unit=>.bool r) (fun x=>True) (fun x=>⟨w0,M,H,R,φ⟩):=by
 unfold m_ref13_Same at hm
 refine cn_intro (fn:=Tryz.f12) (N:=122) Tryz.func12 rfl Tryz.ntmps12 rfl<|c_seq<|c_region ?_
 refine g_e rfl (e_box 100020 rfl) (fun g1 _=>?_)
 refine g_e rfl (e_box 100030 rfl) (fun g2 _=>?_)
 refine g_v rfl r_assign<|g_nil<|d_then<|c_seq<|c_seq<|c_region<|g_v rfl (r_field (n:=3) Tryz.underlying30 rfl Tryz.sizeOf3 rfl rfl)<|g_v rfl (r_load (tag:=100020) rfl rfl rfl Tryz.isAgg3)<|g_v rfl (r_field (n:=3) Tryz.underlying30 rfl Tryz.sizeOf3 rfl rfl)<|g_v rfl (r_load (tag:=100030) rfl rfl rfl Tryz.isAgg3) ?_
 refine g_v rfl (r_neq rfl rfl)<|g_v rfl r_move<|g_sta ⟨w0,M,(100030,g2,.cells #[.slice Ap1_0 p1.fRing.length cp1_0,.slice Ap1_1 p1.fHints.length cp1_1,.slice Ap1_2 p1.fAnchors.length cp1_2,.int .i64 p1.fEpoch,.slice Ap1_3 p1.fFlushes.length cp1_3] 30 (0,0))::(100020,g1,.cells #[.slice Ap0_0 p0.fRing.length cp0_0,.slice Ap0_1 p0.fHints.length cp0_1,.slice Ap0_2 p0.fAnchors.length cp0_2,.int .i64 p0.fEpoch,.slice Ap0_3 p0.fFlushes.length cp0_3] 30 (0,0))::H,R,φ⟩ (fun _ h=>h) ?_
 refine g_if rfl rfl rfl rfl rfl (fun h3=>?_) (fun h3=>?_)
 ·
  replace hm:=ite_f hm (of_decide_eq_false h3)
  refine g_v rfl (r_field (n:=0) Tryz.underlying30 rfl Tryz.sizeOf25 rfl rfl)<|g_do rfl rfl rfl rfl rfl h3<|g_v rfl (r_load (tag:=100020) rfl rfl rfl Tryz.isAgg25)<|g_do rfl rfl rfl rfl rfl h3<|g_v rfl (r_lenL Tryz.underlying25 rfl)<|g_do rfl rfl rfl rfl rfl h3<|g_v rfl (r_field (n:=0) Tryz.underlying30 rfl Tryz.sizeOf25 rfl rfl)<|g_do rfl rfl rfl rfl rfl h3<|g_v rfl (r_load (tag:=100030) rfl rfl rfl Tryz.isAgg25)<|g_do rfl rfl rfl rfl rfl h3 ?_
  refine g_v rfl (r_lenL Tryz.underlying25 rfl)<|g_do rfl rfl rfl rfl rfl h3<|g_v rfl (r_neq rfl rfl)<|g_v rfl (r_pick0 rfl h3)<|g_v rfl r_move ?_
  refine g_if rfl rfl rfl rfl rfl (fun h4=>?_) (fun h4=>?_)
  ·
   replace hm:=ite_f hm (of_decide_eq_false h4)
   refine g_v rfl (r_field (n:=1) Tryz.underlying30 rfl Tryz.sizeOf26 rfl rfl)<|g_do rfl rfl rfl rfl rfl h4<|g_v rfl (r_load (tag:=100020) rfl rfl rfl Tryz.isAgg26)<|g_do rfl rfl rfl rfl rfl h4<|g_v rfl (r_lenL Tryz.underlying26 rfl)<|g_do rfl rfl rfl rfl rfl h4<|g_v rfl (r_field (n:=1) Tryz.underlying30 rfl Tryz.sizeOf26 rfl rfl)<|g_do rfl rfl rfl rfl rfl h4<|g_v rfl (r_load (tag:=100030) rfl rfl rfl Tryz.isAgg26)<|g_do rfl rfl rfl rfl rfl h4 ?_
   refine g_v rfl (r_lenL Tryz.underlying26 rfl)<|g_do rfl rfl rfl rfl rfl h4<|g_v rfl (r_neq rfl rfl)<|g_v rfl (r_pick0 rfl h4)<|g_v rfl r_move ?_
   refine g_if rfl rfl rfl rfl rfl (fun h5=>?_) (fun h5=>?_)
   ·
    replace hm:=ite_f hm (of_decide_eq_false h5)
    refine g_v rfl (r_field (n:=2) Tryz.underlying30 rfl Tryz.sizeOf27 rfl rfl)<|g_do rfl rfl rfl rfl rfl h5<|g_v rfl (r_load (tag:=100020) rfl rfl rfl Tryz.isAgg27)<|g_do rfl rfl rfl rfl rfl h5<|g_v rfl (r_lenL Tryz.underlying27 rfl)<|g_do rfl rfl rfl rfl rfl h5<|g_v rfl (r_field (n:=2) Tryz.underlying30 rfl Tryz.sizeOf27 rfl rfl)<|g_do rfl rfl rfl rfl rfl h5<|g_v rfl (r_load (tag:=100030) rfl rfl rfl Tryz.isAgg27)<|g_do rfl rfl rfl rfl rfl h5 ?_
    refine g_v rfl (r_lenL Tryz.underlying27 rfl)<|g_do rfl rfl rfl rfl rfl h5<|g_v rfl (r_neq rfl rfl)<|g_v rfl (r_pick0 rfl h5)<|g_v rfl r_move ?_
    refine g_if rfl rfl rfl rfl rfl (fun h6=>?_) (fun h6=>?_)
    ·
     replace hm:=ite_f hm (of_decide_eq_false h6)
     refine g_v rfl (r_field (n:=4) Tryz.underlying30 rfl Tryz.sizeOf28 rfl rfl)<|g_do rfl rfl rfl rfl rfl h6<|g_v rfl (r_load (tag:=100020) rfl rfl rfl Tryz.isAgg28)<|g_do rfl rfl rfl rfl rfl h6<|g_v rfl (r_lenL Tryz.underlying28 rfl)<|g_do rfl rfl rfl rfl rfl h6<|g_v rfl (r_field (n:=4) Tryz.underlying30 rfl Tryz.sizeOf28 rfl rfl)<|g_do rfl rfl rfl rfl rfl h6<|g_v rfl (r_load (tag:=100030) rfl rfl rfl Tryz.isAgg28)<|g_do rfl rfl rfl rfl rfl h6 ?_
     refine g_v rfl (r_lenL Tryz.underlying28 rfl)<|g_do rfl rfl rfl rfl rfl h6<|g_v rfl (r_neq rfl rfl)<|g_v rfl (r_pick0 rfl h6)<|g_nil<|d_then ?_
     refine c_flat [(2,.pointer (some ⟨g1,0,none⟩)),(3,.pointer (some ⟨g2,0,none⟩)),(49,.bool (decide ((p0.fFlushes.length : Int) ≠ (p1.fFlushes.length : Int))))] ⟨rfl,rfl,rfl,trivial⟩ (fun u=>?_)
     refine c_cond rfl (fun h7=>?_) (fun h7=>?_)
     ·
      replace hm:=ite_t hm (of_decide_eq_true h7)
      refine c_seq<|c_region<|g_v rfl r_assign<|g_nil<|d_then<|c_ret<|d_ret_then ?_
      cases hm
      exact d_retC () Tryz.results12 (res_tmp (res_nil rfl)) trivial (fun W h=>ok_pre (H1:=[_,_]) (R1:=[]) h (fun W hφ=>hφ)) (.inr rfl)
     replace hm:=ite_f hm (of_decide_eq_false h7)
     refine c_skip<|d_then<|c_seq<|c_seq<|c_region<|g_v rfl r_assign<|g_nil<|d_then ?_
     refine c_cut (ι:=Unit) [2,3] (fun _=>[]) (fun _=>⟨w0,M,(100030,g2,.cells #[.slice Ap1_0 p1.fRing.length cp1_0,.slice Ap1_1 p1.fHints.length cp1_1,.slice Ap1_2 p1.fAnchors.length cp1_2,.int .i64 p1.fEpoch,.slice Ap1_3 p1.fFlushes.length cp1_3] 30 (0,0))::(100020,g1,.cells #[.slice Ap0_0 p0.fRing.length cp0_0,.slice Ap0_1 p0.fHints.length cp0_1,.slice Ap0_2 p0.fAnchors.length cp0_2,.int .i64 p0.fEpoch,.slice Ap0_3 p0.fFlushes.length cp0_3] 30 (0,0))::H,R,φ⟩) (fun _=>m_ref13_Same_j1 p0 p1 = some r) ?_ (fun _ u hm=>?_)
     ·
      refine c_block ?_
      replace hm:=bnd hm
      obtain ⟨out8,hl8,hr8⟩:=hm
      obtain ⟨n536',hl8⟩:=loop_lp hl8
      refine c_loopU (ι:=Nat×Int) [2,3,5] (fun ⟨n536,i508⟩=>[(5,.int .i64 i508)]) (fun ⟨n536,i508⟩=>⟨w0,M,(100030,g2,.cells #[.slice Ap1_0 p1.fRing.length cp1_0,.slice Ap1_1 p1.fHints.length cp1_1,.slice Ap1_2 p1.fAnchors.length cp1_2,.int .i64 p1.fEpoch,.slice Ap1_3 p1.fFlushes.length cp1_3] 30 (0,0))::(100020,g1,.cells #[.slice Ap0_0 p0.fRing.length cp0_0,.slice Ap0_1 p0.fHints.length cp0_1,.slice Ap0_2 p0.fAnchors.length cp0_2,.int .i64 p0.fEpoch,.slice Ap0_3 p0.fFlushes.length cp0_3] 30 (0,0))::H,R,φ⟩) (fun ⟨n536,i508⟩=>Lp (fun s=>m_ref13_Same_s8 p0 p1 s) n536 i508 out8) (fun ⟨n536,i508⟩=>n536) (n536',0) hl8 ⟨rfl,rfl,rfl,trivial⟩ (fun W h=>h.phi (fun W hφ=>hφ)) (fun ⟨n536,i508⟩ u hlp=>?_)
      obtain ⟨o8,hm,hnx8⟩:=lp_step hlp
      clear hlp
      replace hm : m_ref13_Same_s8 p0 p1 i508 = some o8:=hm
      unfold m_ref13_Same_s8 at hm
      refine c_flat [(2,.pointer (some ⟨g1,0,none⟩)),(3,.pointer (some ⟨g2,0,none⟩)),(5,.int .i64 i508)] ⟨rfl,rfl,rfl,trivial⟩ (fun u=>?_)
      refine c_seq<|c_seq<|c_region<|g_v rfl r_move<|g_v rfl (r_field (n:=0) Tryz.underlying30 rfl Tryz.sizeOf25 rfl rfl)<|g_v rfl (r_load (tag:=100020) rfl rfl rfl Tryz.isAgg25)<|g_v rfl (r_lenL Tryz.underlying25 rfl)<|g_v rfl (r_lss rfl rfl)<|g_nil<|d_then ?_
      refine c_cond rfl (fun h537=>?_) (fun h537=>?_)
      ·
       replace hm:=ite_t hm (of_decide_eq_true h537)
       refine c_skip<|d_then<|c_seq<|c_block<|c_seq<|ga_start (n:=11) ⟨w0,M,(100030,g2,.cells #[.slice Ap1_0 p1.fRing.length cp1_0,.slice Ap1_1 p1.fHints.length cp1_1,.slice Ap1_2 p1.fAnchors.length cp1_2,.int .i64 p1.fEpoch,.slice Ap1_3 p1.fFlushes.length cp1_3] 30 (0,0))::(100020,g1,.cells #[.slice Ap0_0 p0.fRing.length cp0_0,.slice Ap0_1 p0.fHints.length cp0_1,.slice Ap0_2 p0.fAnchors.length cp0_2,.int .i64 p0.fEpoch,.slice Ap0_3 p0.fFlushes.length cp0_3] 30 (0,0))::H,R,φ⟩ [] #[false,false,false,false,false,false,false,false,false,false,false] (fun W h=>h.phi (fun W hφ=>hφ)) mixed rfl rfl<|ga_v (i:=0) (bz 11 1) rfl (by kernel_rfl) (fun _ _ _ _ h=>h) rfl (r_field (n:=0) Tryz.underlying30 rfl Tryz.sizeOf25 rfl rfl)<|ga_v (i:=1) (bz 11 3) rfl (by kernel_rfl) (fun _ _ _ _ h=>h) rfl (r_load (tag:=100020) rfl rfl rfl Tryz.isAgg25)<|ga_v (i:=2) (bz 11 7) rfl (by kernel_rfl) (fun _ _ _ _ h=>h) rfl (r_move) ?_
       replace hm:=bnd hm
       obtain ⟨x554,hx554,hm⟩:=hm
       refine ga_know _ (fun W hS=>cl_at (p:=(Sta.mk w0 M H R φ).ok) (sz:=1) (fun _=>rfl) (by decide) (ok_pre (H1:=[_,_]) (R1:=[]) hS (fun W h=>h)) fp0_0 hx554) ?_
       rintro ⟨ad555,hA557,f556⟩
       refine ga_v (i:=3) (bz 11 15) rfl (by kernel_rfl) (fun _ _ _ _ h=>h) rfl (r_ix Tryz.underlying25 Tryz.sizeOf3 rfl hA557 rfl hx554)<|ga_v (i:=4) (bz 11 31) rfl (by kernel_rfl) (fun _ _ _ _ h=>h) rfl (r_ld rfl Tryz.isAgg3 (fun W hS=>Cl.head (f556 W (ok_pre (H1:=[_,_]) (R1:=[]) hS (fun W h=>h)))))<|ga_v (i:=5) (bz 11 63) rfl (by kernel_rfl) (fun _ _ _ _ h=>h) rfl (r_field (n:=0) Tryz.underlying30 rfl Tryz.sizeOf25 rfl rfl)<|ga_v (i:=6) (bz 11 127) rfl (by kernel_rfl) (fun _ _ _ _ h=>h) rfl (r_load (tag:=100030) rfl rfl rfl Tryz.isAgg25)<|ga_r (i:=7) (bz 11 255) rfl (by kernel_rfl) (by decide) rfl (r_move) ?_
       replace hm:=bnd hm
       obtain ⟨x558,hx558,hm⟩:=hm
       refine ga_know _ (fun W hS=>cl_at (p:=(Sta.mk w0 M H R φ).ok) (sz:=1) (fun _=>rfl) (by decide) (ok_pre (H1:=[_,_]) (R1:=[]) hS (fun W h=>h)) fp1_0 hx558) ?_
       rintro ⟨ad559,hA561,f560⟩
       refine ga_r (i:=8) (bz 11 511) rfl (by kernel_rfl) (by decide) rfl (r_ix Tryz.underlying25 Tryz.sizeOf3 rfl hA561 rfl hx558)<|ga_r (i:=9) (bz 11 1023) rfl (by kernel_rfl) (by decide) rfl (r_ld rfl Tryz.isAgg3 (fun W hS=>Cl.head (f560 W (ok_pre (H1:=[_,_]) (R1:=[]) hS (fun W h=>h)))))<|ga_r (i:=10) (bz 11 2047) rfl (by kernel_rfl) (by decide) rfl (r_neq rfl rfl)<|ga_done (by kernel_rfl)<|d_then ?_
       refine c_flat [(2,.pointer (some ⟨g1,0,none⟩)),(3,.pointer (some ⟨g2,0,none⟩)),(5,.int .i64 i508),(67,.bool (decide (x554 ≠ x558)))] ⟨rfl,rfl,rfl,rfl,trivial⟩ (fun u=>?_)
       refine c_cond rfl (fun h562=>?_) (fun h562=>?_)
       ·
        replace hm:=ite_t hm (of_decide_eq_true h562)
        refine c_seq<|c_region<|g_v rfl r_assign<|g_nil<|d_then<|c_ret<|d_ret_block<|d_ret_then<|d_ret_then<|d_ret_block ?_
        refine d_ret_then<|d_ret_then ?_
        replace hm:=nx_out (C:=(fun e : Unit ⊕ Bool=>Sum.elim (fun e=>m_ref13_Same_j1 p0 p1) (fun x=>some x) e = some r)) hm hnx8 hr8
        replace hm : some false = some r:=hm
        cases hm
        exact d_retC () Tryz.results12 (res_tmp (res_nil rfl)) trivial (fun W h=>ok_pre (H1:=[_,_]) (R1:=[]) h (fun W hφ=>hφ)) (.inr rfl)
       replace hm:=ite_f hm (of_decide_eq_false h562)
       refine c_skip<|d_normal_block<|d_then<|c_region<|g_v rfl r_move<|g_v rfl (r_add rfl rfl rfl)<|g_v rfl r_assign<|g_nil ?_
       obtain ⟨n563,hn563,hlp⟩:=nx_inl hm hnx8
       exact d_round (n563,w64 (i508 + 1)) hlp hn563 ⟨rfl,rfl,rfl,trivial⟩ (fun W h=>h.phi (fun W hφ=>hφ))
      replace hm:=ite_f hm (of_decide_eq_false h537)
      refine c_exit<|d_exit_then<|d_exit_then<|d_exit_block ?_
      replace hm:=nx_out (C:=(fun e : Unit ⊕ Bool=>Sum.elim (fun e=>m_ref13_Same_j1 p0 p1) (fun x=>some x) e = some r)) hm hnx8 hr8
      exact d_round () hm Nat.zero_lt_one ⟨rfl,rfl,trivial⟩ (fun W h=>h.phi (fun W hφ=>hφ))
     unfold m_ref13_Same_j1 at hm
     refine d_flat [(2,.pointer (some ⟨g1,0,none⟩)),(3,.pointer (some ⟨g2,0,none⟩))] ⟨rfl,rfl,trivial⟩ (fun u=>?_)
     refine d_then<|c_seq<|c_seq<|c_region<|g_v rfl r_assign<|g_nil<|d_then ?_
     refine c_cut (ι:=Unit) [2,3] (fun _=>[]) (fun _=>⟨w0,M,(100030,g2,.cells #[.slice Ap1_0 p1.fRing.length cp1_0,.slice Ap1_1 p1.fHints.length cp1_1,.slice Ap1_2 p1.fAnchors.length cp1_2,.int .i64 p1.fEpoch,.slice Ap1_3 p1.fFlushes.length cp1_3] 30 (0,0))::(100020,g1,.cells #[.slice Ap0_0 p0.fRing.length cp0_0,.slice Ap0_1 p0.fHints.length cp0_1,.slice Ap0_2 p0.fAnchors.length cp0_2,.int .i64 p0.fEpoch,.slice Ap0_3 p0.fFlushes.length cp0_3] 30 (0,0))::H,R,φ⟩) (fun _=>m_ref13_Same_j2 p0 p1 = some r) ?_ (fun _ u hm=>?_)
     ·
      refine c_block ?_
      replace hm:=bnd hm
      obtain ⟨out7,hl7,hr7⟩:=hm
      obtain ⟨n453',hl7⟩:=loop_lp hl7
      refine c_loopU (ι:=Nat×Int) [2,3,6] (fun ⟨n453,i425⟩=>[(6,.int .i64 i425)]) (fun ⟨n453,i425⟩=>⟨w0,M,(100030,g2,.cells #[.slice Ap1_0 p1.fRing.length cp1_0,.slice Ap1_1 p1.fHints.length cp1_1,.slice Ap1_2 p1.fAnchors.length cp1_2,.int .i64 p1.fEpoch,.slice Ap1_3 p1.fFlushes.length cp1_3] 30 (0,0))::(100020,g1,.cells #[.slice Ap0_0 p0.fRing.length cp0_0,.slice Ap0_1 p0.fHints.length cp0_1,.slice Ap0_2 p0.fAnchors.length cp0_2,.int .i64 p0.fEpoch,.slice Ap0_3 p0.fFlushes.length cp0_3] 30 (0,0))::H,R,φ⟩) (fun ⟨n453,i425⟩=>Lp (fun s=>m_ref13_Same_s7 p0 p1 s) n453 i425 out7) (fun ⟨n453,i425⟩=>n453) (n453',0) hl7 ⟨rfl,rfl,rfl,trivial⟩ (fun W h=>h.phi (fun W hφ=>hφ)) (fun ⟨n453,i425⟩ u hlp=>?_)
      obtain ⟨o7,hm,hnx7⟩:=lp_step hlp
      clear hlp
      replace hm : m_ref13_Same_s7 p0 p1 i425 = some o7:=hm
      unfold m_ref13_Same_s7 at hm
      refine c_flat [(2,.pointer (some ⟨g1,0,none⟩)),(3,.pointer (some ⟨g2,0,none⟩)),(6,.int .i64 i425)] ⟨rfl,rfl,rfl,trivial⟩ (fun u=>?_)
      refine c_seq<|c_seq<|c_region<|g_v rfl r_move<|g_v rfl (r_field (n:=1) Tryz.underlying30 rfl Tryz.sizeOf26 rfl rfl)<|g_v rfl (r_load (tag:=100020) rfl rfl rfl Tryz.isAgg26)<|g_v rfl (r_lenL Tryz.underlying26 rfl)<|g_v rfl (r_lss rfl rfl)<|g_nil<|d_then ?_
      refine c_cond rfl (fun h454=>?_) (fun h454=>?_)
      ·
       replace hm:=ite_t hm (of_decide_eq_true h454)
       refine c_skip<|d_then<|c_seq<|c_block<|c_seq<|ga_start (n:=11) ⟨w0,M,(100030,g2,.cells #[.slice Ap1_0 p1.fRing.length cp1_0,.slice Ap1_1 p1.fHints.length cp1_1,.slice Ap1_2 p1.fAnchors.length cp1_2,.int .i64 p1.fEpoch,.slice Ap1_3 p1.fFlushes.length cp1_3] 30 (0,0))::(100020,g1,.cells #[.slice Ap0_0 p0.fRing.length cp0_0,.slice Ap0_1 p0.fHints.length cp0_1,.slice Ap0_2 p0.fAnchors.length cp0_2,.int .i64 p0.fEpoch,.slice Ap0_3 p0.fFlushes.length cp0_3] 30 (0,0))::H,R,φ⟩ [] #[false,false,false,false,false,false,false,false,false,false,false] (fun W h=>h.phi (fun W hφ=>hφ)) mixed rfl rfl<|ga_v (i:=0) (bz 11 1) rfl (by kernel_rfl) (fun _ _ _ _ h=>h) rfl (r_field (n:=1) Tryz.underlying30 rfl Tryz.sizeOf26 rfl rfl)<|ga_v (i:=1) (bz 11 3) rfl (by kernel_rfl) (fun _ _ _ _ h=>h) rfl (r_load (tag:=100020) rfl rfl rfl Tryz.isAgg26)<|ga_v (i:=2) (bz 11 7) rfl (by kernel_rfl) (fun _ _ _ _ h=>h) rfl (r_move) ?_
       replace hm:=bnd hm
       obtain ⟨x471,hx471,hm⟩:=hm
       refine ga_know _ (fun W hS=>cl_at (p:=(Sta.mk w0 M H R φ).ok) (sz:=1) (fun _=>rfl) (by decide) (ok_pre (H1:=[_,_]) (R1:=[]) hS (fun W h=>h)) fp0_1 hx471) ?_
       rintro ⟨ad472,hA474,f473⟩
       refine ga_v (i:=3) (bz 11 15) rfl (by kernel_rfl) (fun _ _ _ _ h=>h) rfl (r_ix Tryz.underlying26 Tryz.sizeOf9 rfl hA474 rfl hx471)<|ga_v (i:=4) (bz 11 31) rfl (by kernel_rfl) (fun _ _ _ _ h=>h) rfl (r_ld rfl Tryz.isAgg9 (fun W hS=>Cl.head (f473 W (ok_pre (H1:=[_,_]) (R1:=[]) hS (fun W h=>h)))))<|ga_v (i:=5) (bz 11 63) rfl (by kernel_rfl) (fun _ _ _ _ h=>h) rfl (r_field (n:=1) Tryz.underlying30 rfl Tryz.sizeOf26 rfl rfl)<|ga_v (i:=6) (bz 11 127) rfl (by kernel_rfl) (fun _ _ _ _ h=>h) rfl (r_load (tag:=100030) rfl rfl rfl Tryz.isAgg26)<|ga_r (i:=7) (bz 11 255) rfl (by kernel_rfl) (by decide) rfl (r_move) ?_
       replace hm:=bnd hm
       obtain ⟨x475,hx475,hm⟩:=hm
       refine ga_know _ (fun W hS=>cl_at (p:=(Sta.mk w0 M H R φ).ok) (sz:=1) (fun _=>rfl) (by decide) (ok_pre (H1:=[_,_]) (R1:=[]) hS (fun W h=>h)) fp1_1 hx475) ?_
       rintro ⟨ad476,hA478,f477⟩
       refine ga_r (i:=8) (bz 11 511) rfl (by kernel_rfl) (by decide) rfl (r_ix Tryz.underlying26 Tryz.sizeOf9 rfl hA478 rfl hx475)<|ga_r (i:=9) (bz 11 1023) rfl (by kernel_rfl) (by decide) rfl (r_ld rfl Tryz.isAgg9 (fun W hS=>Cl.head (f477 W (ok_pre (H1:=[_,_]) (R1:=[]) hS (fun W h=>h)))))<|ga_r (i:=10) (bz 11 2047) rfl (by kernel_rfl) (by decide) rfl (r_neqT rfl rfl)<|ga_done (by kernel_rfl)<|d_then ?_
       refine c_flat [(2,.pointer (some ⟨g1,0,none⟩)),(3,.pointer (some ⟨g2,0,none⟩)),(6,.int .i64 i425),(85,.bool (!(decide (x471 = x475))))] ⟨rfl,rfl,rfl,rfl,trivial⟩ (fun u=>?_)
       refine c_cond rfl (fun h479=>?_) (fun h479=>?_)
       ·
        have h479' : (decide (x471 = x475)) = false:=by revert h479; cases (decide (x471 = x475)) <;> simp
        replace hm:=ite_f hm (of_decide_eq_false h479')
        refine c_seq<|c_region<|g_v rfl r_assign<|g_nil<|d_then<|c_ret<|d_ret_block<|d_ret_then<|d_ret_then<|d_ret_block ?_
        refine d_ret_then<|d_ret_then ?_
        replace hm:=nx_out (C:=(fun e : Unit ⊕ Bool=>Sum.elim (fun e=>m_ref13_Same_j2 p0 p1) (fun x=>some x) e = some r)) hm hnx7 hr7
        replace hm : some false = some r:=hm
        cases hm
        exact d_retC () Tryz.results12 (res_tmp (res_nil rfl)) trivial (fun W h=>ok_pre (H1:=[_,_]) (R1:=[]) h (fun W hφ=>hφ)) (.inr rfl)
       have h479' : (decide (x471 = x475)) = true:=by revert h479; cases (decide (x471 = x475)) <;> simp
       replace hm:=ite_t hm (of_decide_eq_true h479')
       refine c_skip<|d_normal_block<|d_then<|c_region<|g_v rfl r_move<|g_v rfl (r_add rfl rfl rfl)<|g_v rfl r_assign<|g_nil ?_
       obtain ⟨n480,hn480,hlp⟩:=nx_inl hm hnx7
       exact d_round (n480,w64 (i425 + 1)) hlp hn480 ⟨rfl,rfl,rfl,trivial⟩ (fun W h=>h.phi (fun W hφ=>hφ))
      replace hm:=ite_f hm (of_decide_eq_false h454)
      refine c_exit<|d_exit_then<|d_exit_then<|d_exit_block ?_
      replace hm:=nx_out (C:=(fun e : Unit ⊕ Bool=>Sum.elim (fun e=>m_ref13_Same_j2 p0 p1) (fun x=>some x) e = some r)) hm hnx7 hr7
      exact d_round () hm Nat.zero_lt_one ⟨rfl,rfl,trivial⟩ (fun W h=>h.phi (fun W hφ=>hφ))
     unfold m_ref13_Same_j2 at hm
     refine d_flat [(2,.pointer (some ⟨g1,0,none⟩)),(3,.pointer (some ⟨g2,0,none⟩))] ⟨rfl,rfl,trivial⟩ (fun u=>?_)
     refine d_then<|c_seq<|c_seq<|c_region<|g_v rfl r_assign<|g_nil<|d_then ?_
     refine c_cut (ι:=Unit) [2,3] (fun _=>[]) (fun _=>⟨w0,M,(100030,g2,.cells #[.slice Ap1_0 p1.fRing.length cp1_0,.slice Ap1_1 p1.fHints.length cp1_1,.slice Ap1_2 p1.fAnchors.length cp1_2,.int .i64 p1.fEpoch,.slice Ap1_3 p1.fFlushes.length cp1_3] 30 (0,0))::(100020,g1,.cells #[.slice Ap0_0 p0.fRing.length cp0_0,.slice Ap0_1 p0.fHints.length cp0_1,.slice Ap0_2 p0.fAnchors.length cp0_2,.int .i64 p0.fEpoch,.slice Ap0_3 p0.fFlushes.length cp0_3] 30 (0,0))::H,R,φ⟩) (fun _=>m_ref13_Same_j3 p0 p1 = some r) ?_ (fun _ u hm=>?_)
     ·
      refine c_block ?_
      replace hm:=bnd hm
      obtain ⟨out6,hl6,hr6⟩:=hm
      obtain ⟨n370',hl6⟩:=loop_lp hl6
      refine c_loopU (ι:=Nat×Int) [2,3,7] (fun ⟨n370,i342⟩=>[(7,.int .i64 i342)]) (fun ⟨n370,i342⟩=>⟨w0,M,(100030,g2,.cells #[.slice Ap1_0 p1.fRing.length cp1_0,.slice Ap1_1 p1.fHints.length cp1_1,.slice Ap1_2 p1.fAnchors.length cp1_2,.int .i64 p1.fEpoch,.slice Ap1_3 p1.fFlushes.length cp1_3] 30 (0,0))::(100020,g1,.cells #[.slice Ap0_0 p0.fRing.length cp0_0,.slice Ap0_1 p0.fHints.length cp0_1,.slice Ap0_2 p0.fAnchors.length cp0_2,.int .i64 p0.fEpoch,.slice Ap0_3 p0.fFlushes.length cp0_3] 30 (0,0))::H,R,φ⟩) (fun ⟨n370,i342⟩=>Lp (fun s=>m_ref13_Same_s6 p0 p1 s) n370 i342 out6) (fun ⟨n370,i342⟩=>n370) (n370',0) hl6 ⟨rfl,rfl,rfl,trivial⟩ (fun W h=>h.phi (fun W hφ=>hφ)) (fun ⟨n370,i342⟩ u hlp=>?_)
      obtain ⟨o6,hm,hnx6⟩:=lp_step hlp
      clear hlp
      replace hm : m_ref13_Same_s6 p0 p1 i342 = some o6:=hm
      unfold m_ref13_Same_s6 at hm
      refine c_flat [(2,.pointer (some ⟨g1,0,none⟩)),(3,.pointer (some ⟨g2,0,none⟩)),(7,.int .i64 i342)] ⟨rfl,rfl,rfl,trivial⟩ (fun u=>?_)
      refine c_seq<|c_seq<|c_region<|g_v rfl r_move<|g_v rfl (r_field (n:=2) Tryz.underlying30 rfl Tryz.sizeOf27 rfl rfl)<|g_v rfl (r_load (tag:=100020) rfl rfl rfl Tryz.isAgg27)<|g_v rfl (r_lenL Tryz.underlying27 rfl)<|g_v rfl (r_lss rfl rfl)<|g_nil<|d_then ?_
      refine c_cond rfl (fun h371=>?_) (fun h371=>?_)
      ·
       replace hm:=ite_t hm (of_decide_eq_true h371)
       refine c_skip<|d_then<|c_seq<|c_block<|c_seq<|ga_start (n:=11) ⟨w0,M,(100030,g2,.cells #[.slice Ap1_0 p1.fRing.length cp1_0,.slice Ap1_1 p1.fHints.length cp1_1,.slice Ap1_2 p1.fAnchors.length cp1_2,.int .i64 p1.fEpoch,.slice Ap1_3 p1.fFlushes.length cp1_3] 30 (0,0))::(100020,g1,.cells #[.slice Ap0_0 p0.fRing.length cp0_0,.slice Ap0_1 p0.fHints.length cp0_1,.slice Ap0_2 p0.fAnchors.length cp0_2,.int .i64 p0.fEpoch,.slice Ap0_3 p0.fFlushes.length cp0_3] 30 (0,0))::H,R,φ⟩ [] #[false,false,false,false,false,false,false,false,false,false,false] (fun W h=>h.phi (fun W hφ=>hφ)) mixed rfl rfl<|ga_v (i:=0) (bz 11 1) rfl (by kernel_rfl) (fun _ _ _ _ h=>h) rfl (r_field (n:=2) Tryz.underlying30 rfl Tryz.sizeOf27 rfl rfl)<|ga_v (i:=1) (bz 11 3) rfl (by kernel_rfl) (fun _ _ _ _ h=>h) rfl (r_load (tag:=100020) rfl rfl rfl Tryz.isAgg27)<|ga_v (i:=2) (bz 11 7) rfl (by kernel_rfl) (fun _ _ _ _ h=>h) rfl (r_move) ?_
       replace hm:=bnd hm
       obtain ⟨x388,hx388,hm⟩:=hm
       refine ga_know _ (fun W hS=>cl_at (p:=(Sta.mk w0 M H R φ).ok) (sz:=2) (fun _=>rfl) (by decide) (ok_pre (H1:=[_,_]) (R1:=[]) hS (fun W h=>h)) fp0_2 hx388) ?_
       rintro ⟨ad389,hA391,f390⟩
       refine ga_v (i:=3) (bz 11 15) rfl (by kernel_rfl) (fun _ _ _ _ h=>h) rfl (r_ix Tryz.underlying27 Tryz.sizeOf55 rfl hA391 rfl hx388)<|ga_v (i:=4) (bz 11 31) rfl (by kernel_rfl) (fun _ _ _ _ h=>h) rfl (r_ldA rfl Tryz.isAgg55 Tryz.sizeOf55 (fun W hS=>(f390 W (ok_pre (H1:=[_,_]) (R1:=[]) hS (fun W h=>h))).take 2) rfl)<|ga_v (i:=5) (bz 11 63) rfl (by kernel_rfl) (fun _ _ _ _ h=>h) rfl (r_field (n:=2) Tryz.underlying30 rfl Tryz.sizeOf27 rfl rfl)<|ga_v (i:=6) (bz 11 127) rfl (by kernel_rfl) (fun _ _ _ _ h=>h) rfl (r_load (tag:=100030) rfl rfl rfl Tryz.isAgg27)<|ga_r (i:=7) (bz 11 255) rfl (by kernel_rfl) (by decide) rfl (r_move) ?_
       replace hm:=bnd hm
       obtain ⟨x392,hx392,hm⟩:=hm
       refine ga_know _ (fun W hS=>cl_at (p:=(Sta.mk w0 M H R φ).ok) (sz:=2) (fun _=>rfl) (by decide) (ok_pre (H1:=[_,_]) (R1:=[]) hS (fun W h=>h)) fp1_2 hx392) ?_
       rintro ⟨ad393,hA395,f394⟩
       refine ga_r (i:=8) (bz 11 511) rfl (by kernel_rfl) (by decide) rfl (r_ix Tryz.underlying27 Tryz.sizeOf55 rfl hA395 rfl hx392)<|ga_r (i:=9) (bz 11 1023) rfl (by kernel_rfl) (by decide) rfl (r_ldA rfl Tryz.isAgg55 Tryz.sizeOf55 (fun W hS=>(f394 W (ok_pre (H1:=[_,_]) (R1:=[]) hS (fun W h=>h))).take 2) rfl)<|ga_r (i:=10) (bz 11 2047) rfl (by kernel_rfl) (by decide) rfl (r_neqA rfl rfl eqg55 (eqq55 x388 x392))<|ga_done (by kernel_rfl)<|d_then ?_
       refine c_flat [(2,.pointer (some ⟨g1,0,none⟩)),(3,.pointer (some ⟨g2,0,none⟩)),(7,.int .i64 i342),(103,.bool (!(decide (x388 = x392))))] ⟨rfl,rfl,rfl,rfl,trivial⟩ (fun u=>?_)
       refine c_cond rfl (fun h396=>?_) (fun h396=>?_)
       ·
        have h396' : (decide (x388 = x392)) = false:=by revert h396; cases (decide (x388 = x392)) <;> simp
        replace hm:=ite_f hm (of_decide_eq_false h396')
        refine c_seq<|c_region<|g_v rfl r_assign<|g_nil<|d_then<|c_ret<|d_ret_block<|d_ret_then<|d_ret_then<|d_ret_block ?_
        refine d_ret_then<|d_ret_then ?_
        replace hm:=nx_out (C:=(fun e : Unit ⊕ Bool=>Sum.elim (fun e=>m_ref13_Same_j3 p0 p1) (fun x=>some x) e = some r)) hm hnx6 hr6
        replace hm : some false = some r:=hm
        cases hm
        exact d_retC () Tryz.results12 (res_tmp (res_nil rfl)) trivial (fun W h=>ok_pre (H1:=[_,_]) (R1:=[]) h (fun W hφ=>hφ)) (.inr rfl)
       have h396' : (decide (x388 = x392)) = true:=by revert h396; cases (decide (x388 = x392)) <;> simp
       replace hm:=ite_t hm (of_decide_eq_true h396')
       refine c_skip<|d_normal_block<|d_then<|c_region<|g_v rfl r_move<|g_v rfl (r_add rfl rfl rfl)<|g_v rfl r_assign<|g_nil ?_
       obtain ⟨n397,hn397,hlp⟩:=nx_inl hm hnx6
       exact d_round (n397,w64 (i342 + 1)) hlp hn397 ⟨rfl,rfl,rfl,trivial⟩ (fun W h=>h.phi (fun W hφ=>hφ))
      replace hm:=ite_f hm (of_decide_eq_false h371)
      refine c_exit<|d_exit_then<|d_exit_then<|d_exit_block ?_
      replace hm:=nx_out (C:=(fun e : Unit ⊕ Bool=>Sum.elim (fun e=>m_ref13_Same_j3 p0 p1) (fun x=>some x) e = some r)) hm hnx6 hr6
      exact d_round () hm Nat.zero_lt_one ⟨rfl,rfl,trivial⟩ (fun W h=>h.phi (fun W hφ=>hφ))
     unfold m_ref13_Same_j3 at hm
     refine d_flat [(2,.pointer (some ⟨g1,0,none⟩)),(3,.pointer (some ⟨g2,0,none⟩))] ⟨rfl,rfl,trivial⟩ (fun u=>?_)
     refine d_then<|c_seq<|c_seq<|c_region<|g_v rfl r_assign<|g_nil<|d_then ?_
     refine c_cut (ι:=Unit) [] (fun _=>[]) (fun _=>⟨w0,M,H,R,φ⟩) (fun _=>m_ref13_Same_j4 = some r) ?_ (fun _ u hm=>?_)
     ·
      refine c_block ?_
      replace hm:=bnd hm
      obtain ⟨out5,hl5,hr5⟩:=hm
      obtain ⟨n287',hl5⟩:=loop_lp hl5
      refine c_loopU (ι:=Nat×Int) [2,3,8] (fun ⟨n287,i259⟩=>[(8,.int .i64 i259)]) (fun ⟨n287,i259⟩=>⟨w0,M,(100030,g2,.cells #[.slice Ap1_0 p1.fRing.length cp1_0,.slice Ap1_1 p1.fHints.length cp1_1,.slice Ap1_2 p1.fAnchors.length cp1_2,.int .i64 p1.fEpoch,.slice Ap1_3 p1.fFlushes.length cp1_3] 30 (0,0))::(100020,g1,.cells #[.slice Ap0_0 p0.fRing.length cp0_0,.slice Ap0_1 p0.fHints.length cp0_1,.slice Ap0_2 p0.fAnchors.length cp0_2,.int .i64 p0.fEpoch,.slice Ap0_3 p0.fFlushes.length cp0_3] 30 (0,0))::H,R,φ⟩) (fun ⟨n287,i259⟩=>Lp (fun s=>m_ref13_Same_s5 p0 p1 s) n287 i259 out5) (fun ⟨n287,i259⟩=>n287) (n287',0) hl5 ⟨rfl,rfl,rfl,trivial⟩ (fun W h=>h.phi (fun W hφ=>hφ)) (fun ⟨n287,i259⟩ u hlp=>?_)
      obtain ⟨o5,hm,hnx5⟩:=lp_step hlp
      clear hlp
      replace hm : m_ref13_Same_s5 p0 p1 i259 = some o5:=hm
      unfold m_ref13_Same_s5 at hm
      refine c_flat [(2,.pointer (some ⟨g1,0,none⟩)),(3,.pointer (some ⟨g2,0,none⟩)),(8,.int .i64 i259)] ⟨rfl,rfl,rfl,trivial⟩ (fun u=>?_)
      refine c_seq<|c_seq<|c_region<|g_v rfl r_move<|g_v rfl (r_field (n:=4) Tryz.underlying30 rfl Tryz.sizeOf28 rfl rfl)<|g_v rfl (r_load (tag:=100020) rfl rfl rfl Tryz.isAgg28)<|g_v rfl (r_lenL Tryz.underlying28 rfl)<|g_v rfl (r_lss rfl rfl)<|g_nil<|d_then ?_
      refine c_cond rfl (fun h288=>?_) (fun h288=>?_)
      ·
       replace hm:=ite_t hm (of_decide_eq_true h288)
       refine c_skip<|d_then<|c_seq<|c_block<|c_seq<|ga_start (n:=11) ⟨w0,M,(100030,g2,.cells #[.slice Ap1_0 p1.fRing.length cp1_0,.slice Ap1_1 p1.fHints.length cp1_1,.slice Ap1_2 p1.fAnchors.length cp1_2,.int .i64 p1.fEpoch,.slice Ap1_3 p1.fFlushes.length cp1_3] 30 (0,0))::(100020,g1,.cells #[.slice Ap0_0 p0.fRing.length cp0_0,.slice Ap0_1 p0.fHints.length cp0_1,.slice Ap0_2 p0.fAnchors.length cp0_2,.int .i64 p0.fEpoch,.slice Ap0_3 p0.fFlushes.length cp0_3] 30 (0,0))::H,R,φ⟩ [] #[false,false,false,false,false,false,false,false,false,false,false] (fun W h=>h.phi (fun W hφ=>hφ)) mixed rfl rfl<|ga_v (i:=0) (bz 11 1) rfl (by kernel_rfl) (fun _ _ _ _ h=>h) rfl (r_field (n:=4) Tryz.underlying30 rfl Tryz.sizeOf28 rfl rfl)<|ga_v (i:=1) (bz 11 3) rfl (by kernel_rfl) (fun _ _ _ _ h=>h) rfl (r_load (tag:=100020) rfl rfl rfl Tryz.isAgg28)<|ga_v (i:=2) (bz 11 7) rfl (by kernel_rfl) (fun _ _ _ _ h=>h) rfl (r_move) ?_
       replace hm:=bnd hm
       obtain ⟨x305,hx305,hm⟩:=hm
       refine ga_know _ (fun W hS=>cl_at (p:=(Sta.mk w0 M H R φ).ok) (sz:=2) (fun _=>rfl) (by decide) (ok_pre (H1:=[_,_]) (R1:=[]) hS (fun W h=>h)) fp0_3 hx305) ?_
       rintro ⟨ad306,hA308,f307⟩
       refine ga_v (i:=3) (bz 11 15) rfl (by kernel_rfl) (fun _ _ _ _ h=>h) rfl (r_ix Tryz.underlying28 Tryz.sizeOf48 rfl hA308 rfl hx305)<|ga_v (i:=4) (bz 11 31) rfl (by kernel_rfl) (fun _ _ _ _ h=>h) rfl (r_ldA rfl Tryz.isAgg48 Tryz.sizeOf48 (fun W hS=>(f307 W (ok_pre (H1:=[_,_]) (R1:=[]) hS (fun W h=>h))).take 2) rfl)<|ga_v (i:=5) (bz 11 63) rfl (by kernel_rfl) (fun _ _ _ _ h=>h) rfl (r_field (n:=4) Tryz.underlying30 rfl Tryz.sizeOf28 rfl rfl)<|ga_v (i:=6) (bz 11 127) rfl (by kernel_rfl) (fun _ _ _ _ h=>h) rfl (r_load (tag:=100030) rfl rfl rfl Tryz.isAgg28)<|ga_r (i:=7) (bz 11 255) rfl (by kernel_rfl) (by decide) rfl (r_move) ?_
       replace hm:=bnd hm
       obtain ⟨x309,hx309,hm⟩:=hm
       refine ga_know _ (fun W hS=>cl_at (p:=(Sta.mk w0 M H R φ).ok) (sz:=2) (fun _=>rfl) (by decide) (ok_pre (H1:=[_,_]) (R1:=[]) hS (fun W h=>h)) fp1_3 hx309) ?_
       rintro ⟨ad310,hA312,f311⟩
       refine ga_r (i:=8) (bz 11 511) rfl (by kernel_rfl) (by decide) rfl (r_ix Tryz.underlying28 Tryz.sizeOf48 rfl hA312 rfl hx309)<|ga_r (i:=9) (bz 11 1023) rfl (by kernel_rfl) (by decide) rfl (r_ldA rfl Tryz.isAgg48 Tryz.sizeOf48 (fun W hS=>(f311 W (ok_pre (H1:=[_,_]) (R1:=[]) hS (fun W h=>h))).take 2) rfl)<|ga_r (i:=10) (bz 11 2047) rfl (by kernel_rfl) (by decide) rfl (r_neqA rfl rfl eqg48 (eqq48 x305 x309))<|ga_done (by kernel_rfl)<|d_then ?_
       refine c_flat [(2,.pointer (some ⟨g1,0,none⟩)),(3,.pointer (some ⟨g2,0,none⟩)),(8,.int .i64 i259),(121,.bool (!(decide (x305 = x309))))] ⟨rfl,rfl,rfl,rfl,trivial⟩ (fun u=>?_)
       refine c_cond rfl (fun h313=>?_) (fun h313=>?_)
       ·
        have h313' : (decide (x305 = x309)) = false:=by revert h313; cases (decide (x305 = x309)) <;> simp
        replace hm:=ite_f hm (of_decide_eq_false h313')
        refine c_seq<|c_region<|g_v rfl r_assign<|g_nil<|d_then<|c_ret<|d_ret_block<|d_ret_then<|d_ret_then<|d_ret_block ?_
        refine d_ret_then<|d_ret_then ?_
        replace hm:=nx_out (C:=(fun e : Unit ⊕ Bool=>Sum.elim (fun e=>m_ref13_Same_j4) (fun x=>some x) e = some r)) hm hnx5 hr5
        replace hm : some false = some r:=hm
        cases hm
        exact d_retC () Tryz.results12 (res_tmp (res_nil rfl)) trivial (fun W h=>ok_pre (H1:=[_,_]) (R1:=[]) h (fun W hφ=>hφ)) (.inr rfl)
       have h313' : (decide (x305 = x309)) = true:=by revert h313; cases (decide (x305 = x309)) <;> simp
       replace hm:=ite_t hm (of_decide_eq_true h313')
       refine c_skip<|d_normal_block<|d_then<|c_region<|g_v rfl r_move<|g_v rfl (r_add rfl rfl rfl)<|g_v rfl r_assign<|g_nil ?_
       obtain ⟨n314,hn314,hlp⟩:=nx_inl hm hnx5
       exact d_round (n314,w64 (i259 + 1)) hlp hn314 ⟨rfl,rfl,rfl,trivial⟩ (fun W h=>h.phi (fun W hφ=>hφ))
      replace hm:=ite_f hm (of_decide_eq_false h288)
      refine c_exit<|d_exit_then<|d_exit_then<|d_exit_block ?_
      replace hm:=nx_out (C:=(fun e : Unit ⊕ Bool=>Sum.elim (fun e=>m_ref13_Same_j4) (fun x=>some x) e = some r)) hm hnx5 hr5
      exact d_round () hm Nat.zero_lt_one trivial (fun W h=>((h.dropH (t:=100030) rfl).dropH (t:=100020) rfl).phi (fun W hφ=>hφ))
     unfold m_ref13_Same_j4 at hm
     refine d_flat [] trivial (fun u=>?_)
     refine d_sta ⟨w0,M,H,R,φ⟩ (fun _ h=>h)<|d_then<|c_seq<|c_region<|g_v rfl r_assign<|g_nil<|d_then<|c_ret ?_
     cases hm
     exact d_retC () Tryz.results12 (res_tmp (res_nil rfl)) trivial (fun W h=>ok_pre (H1:=[]) (R1:=[]) h (fun W hφ=>hφ)) (.inr rfl)
    replace hm:=ite_t hm (of_decide_eq_true h6)
    iterate 6 refine g_no rfl rfl rfl rfl rfl h6 ?_
    refine g_v rfl (r_pick1 rfl h6)<|g_nil<|d_then ?_
    refine c_flat [(2,.pointer (some ⟨g1,0,none⟩)),(3,.pointer (some ⟨g2,0,none⟩)),(49,.bool true)] ⟨rfl,rfl,rfl,trivial⟩ (fun u=>?_)
    refine c_cond1 rfl rfl<|c_seq<|c_region<|g_v rfl r_assign<|g_nil<|d_then<|c_ret<|d_ret_then ?_
    cases hm
    exact d_retC () Tryz.results12 (res_tmp (res_nil rfl)) trivial (fun W h=>ok_pre (H1:=[_,_]) (R1:=[]) h (fun W hφ=>hφ)) (.inr rfl)
   replace hm:=ite_t hm (of_decide_eq_true h5)
   iterate 6 refine g_no rfl rfl rfl rfl rfl h5 ?_
   refine g_v rfl (r_pick1 rfl h5)<|g_v rfl r_move ?_
   iterate 7 refine g_no rfl rfl rfl rfl rfl rfl ?_
   refine g_v rfl (r_pick1 rfl rfl)<|g_nil<|d_then ?_
   refine c_flat [(2,.pointer (some ⟨g1,0,none⟩)),(3,.pointer (some ⟨g2,0,none⟩)),(49,.bool true)] ⟨rfl,rfl,rfl,trivial⟩ (fun u=>?_)
   refine c_cond1 rfl rfl<|c_seq<|c_region<|g_v rfl r_assign<|g_nil<|d_then<|c_ret<|d_ret_then ?_
   cases hm
   exact d_retC () Tryz.results12 (res_tmp (res_nil rfl)) trivial (fun W h=>ok_pre (H1:=[_,_]) (R1:=[]) h (fun W hφ=>hφ)) (.inr rfl)
  replace hm:=ite_t hm (of_decide_eq_true h4)
  iterate 6 refine g_no rfl rfl rfl rfl rfl h4 ?_
  refine g_v rfl (r_pick1 rfl h4)<|g_v rfl r_move ?_
  iterate 7 refine g_no rfl rfl rfl rfl rfl rfl ?_
  refine g_v rfl (r_pick1 rfl rfl)<|g_v rfl r_move ?_
  iterate 7 refine g_no rfl rfl rfl rfl rfl rfl ?_
  refine g_v rfl (r_pick1 rfl rfl)<|g_nil<|d_then ?_
  refine c_flat [(2,.pointer (some ⟨g1,0,none⟩)),(3,.pointer (some ⟨g2,0,none⟩)),(49,.bool true)] ⟨rfl,rfl,rfl,trivial⟩ (fun u=>?_)
  refine c_cond1 rfl rfl<|c_seq<|c_region<|g_v rfl r_assign<|g_nil<|d_then<|c_ret<|d_ret_then ?_
  cases hm
  exact d_retC () Tryz.results12 (res_tmp (res_nil rfl)) trivial (fun W h=>ok_pre (H1:=[_,_]) (R1:=[]) h (fun W hφ=>hφ)) (.inr rfl)
 replace hm:=ite_t hm (of_decide_eq_true h3)
 iterate 6 refine g_no rfl rfl rfl rfl rfl h3 ?_
 refine g_v rfl (r_pick1 rfl h3)<|g_v rfl r_move ?_
 iterate 7 refine g_no rfl rfl rfl rfl rfl rfl ?_
 refine g_v rfl (r_pick1 rfl rfl)<|g_v rfl r_move ?_
 iterate 7 refine g_no rfl rfl rfl rfl rfl rfl ?_
 refine g_v rfl (r_pick1 rfl rfl)<|g_v rfl r_move ?_
 iterate 7 refine g_no rfl rfl rfl rfl rfl rfl ?_
 refine g_v rfl (r_pick1 rfl rfl)<|g_nil<|d_then ?_
 refine c_flat [(2,.pointer (some ⟨g1,0,none⟩)),(3,.pointer (some ⟨g2,0,none⟩)),(49,.bool true)] ⟨rfl,rfl,rfl,trivial⟩ (fun u=>?_)
 refine c_cond1 rfl rfl<|c_seq<|c_region<|g_v rfl r_assign<|g_nil<|d_then<|c_ret<|d_ret_then ?_
 cases hm
 exact d_retC () Tryz.results12 (res_tmp (res_nil rfl)) trivial (fun W h=>ok_pre (H1:=[_,_]) (R1:=[]) h (fun W hφ=>hφ)) (.inr rfl)
theorem lit5_29 (z0 : Int) (z1 : Int) (z2 : Int) (z3 : Int) : Tryz.prog.builtSlice 5 4 [(0,.int .u8 z0),(1,.int .u8 z1),(2,.int .u8 z2),(3,.int .u8 z3)] = some #[.int .u8 z0,.int .u8 z1,.int .u8 z2,.int .u8 z3]:=by kernel_rfl
noncomputable def m_pack_Packer_Long (p1 : Int) (o0 : Gpack_Packer) : Option Gpack_Packer:=
  (m_pack_Packer_put [IntKind.u8.wrap (p1 / 16777216),IntKind.u8.wrap (p1 / 65536),IntKind.u8.wrap (p1 / 256),IntKind.u8.wrap p1] o0).bind fun x2=>
  some (⟨x2.fb,o0.fplaces⟩ : Gpack_Packer)
theorem c_pack_Packer_Long {w0 : World} {M : Nat→Prop} {H : List (Nat×Nat×Obj)} {R : List (Nat×Row)} {φ : World→Prop} (p1 : Int) (go0 : Nat) (o0 : Gpack_Packer) (Ao0_0 : Option Addr) (co0_0 : Nat) (hco0_0 : o0.fb.length ≤ co0_0) (Ao0_1 : Option Addr) (co0_1 : Nat) (hco0_1 : True) (r : Gpack_Packer) (hm : m_pack_Packer_Long p1 o0 = some r) :
    Cn Tryz.prog 99 #[.pointer (some ⟨go0,0,none⟩),.int .u32 p1] ⟨w0,M,(1000,go0,.cells #[.slice Ao0_0 o0.fb.length co0_0,mapV Ao0_1] 120 (0,0))::H,(1000,⟨.slice Ao0_0 o0.fb.length co0_0,5,1,o0.fb.length,o0.fb.flatMap (fun x : Int=>[Value.int .u8 x])⟩)::(1001,⟨mapV Ao0_1,118,2,o0.fplaces.length,o0.fplaces.flatMap (mcell (fun x : ByteArray=>Value.string x) (fun x : Int=>Value.int .i64 x))⟩)::R,φ⟩ (fun x : Option Addr×Nat=>.tuple #[]) (fun x=>r.fb.length ≤ x.2) (fun x=>⟨w0,M,(1000,go0,.cells #[.slice x.1 r.fb.length x.2,mapV Ao0_1] 120 (0,0))::H,(2000,⟨.slice x.1 r.fb.length x.2,5,1,r.fb.length,r.fb.flatMap (fun x : Int=>[Value.int .u8 x])⟩)::(1001,⟨mapV Ao0_1,118,2,o0.fplaces.length,o0.fplaces.flatMap (mcell (fun x : ByteArray=>Value.string x) (fun x : Int=>Value.int .i64 x))⟩)::R,φ⟩):=by
 unfold m_pack_Packer_Long at hm
 refine cn_intro (fn:=Tryz.f99) (N:=18) Tryz.func99 rfl Tryz.ntmps99 rfl<|c_region<|g_v rfl r_move<|g_v rfl r_move<|g_v rfl (r_shr (n:=16777216) rfl rfl (by decide) (by decide) (by decide))<|g_v rfl (r_conv Tryz.underlying123 Tryz.underlying5 rfl rfl)<|g_v rfl r_move<|g_v rfl (r_shr (n:=65536) rfl rfl (by decide) (by decide) (by decide))<|g_v rfl (r_conv Tryz.underlying123 Tryz.underlying5 rfl rfl)<|g_v rfl r_move ?_
 refine g_v rfl (r_shr (n:=256) rfl rfl (by decide) (by decide) (by decide))<|g_v rfl (r_conv Tryz.underlying123 Tryz.underlying5 rfl rfl)<|g_v rfl r_move<|g_v rfl (r_conv Tryz.underlying123 Tryz.underlying5 rfl rfl) ?_
 refine g_e rfl (e_lit (tag:=100160) (l:=[IntKind.u8.wrap (p1 / 16777216),IntKind.u8.wrap (p1 / 65536),IntKind.u8.wrap (p1 / 256),IntKind.u8.wrap p1]) (enc:=(fun x : Int=>[Value.int .u8 x])) (sz:=1) rfl Tryz.underlying70 (lit5_29 _ _ _ _) rfl rfl (fun _=>rfl)) (fun g1 _=>?_)
 replace hm:=bnd hm
 obtain ⟨x2,hx3,hm⟩:=hm
 refine g_cn ⟨w0,M,(1000,go0,.cells #[.slice Ao0_0 o0.fb.length co0_0,mapV Ao0_1] 120 (0,0))::H,(1000,⟨.slice Ao0_0 o0.fb.length co0_0,5,1,o0.fb.length,o0.fb.flatMap (fun x : Int=>[Value.int .u8 x])⟩)::(1001,⟨mapV Ao0_1,118,2,o0.fplaces.length,o0.fplaces.flatMap (mcell (fun x : ByteArray=>Value.string x) (fun x : Int=>Value.int .i64 x))⟩)::(100160,⟨.slice (some ⟨g1,0,none⟩) [IntKind.u8.wrap (p1 / 16777216),IntKind.u8.wrap (p1 / 65536),IntKind.u8.wrap (p1 / 256),IntKind.u8.wrap p1].length 4,5,1,[IntKind.u8.wrap (p1 / 16777216),IntKind.u8.wrap (p1 / 65536),IntKind.u8.wrap (p1 / 256),IntKind.u8.wrap p1].length,[IntKind.u8.wrap (p1 / 16777216),IntKind.u8.wrap (p1 / 65536),IntKind.u8.wrap (p1 / 256),IntKind.u8.wrap p1].flatMap (fun x : Int=>[Value.int .u8 x])⟩)::R,φ⟩ (fun W h=>(ok_front (t:=1000) (t':=1000) (ok_frontR (t:=1000) (t':=1000) (ok_frontR (t:=1001) (t':=1001) h rfl) rfl) rfl)) Tryz.call98 rfl rfl (c_pack_Packer_put [IntKind.u8.wrap (p1 / 16777216),IntKind.u8.wrap (p1 / 65536),IntKind.u8.wrap (p1 / 256),IntKind.u8.wrap p1] (some ⟨g1,0,none⟩) 4 (Nat.le_refl _) (fun W hS=>rowCl (tag:=100160) rfl W hS) go0 o0 Ao0_0 co0_0 hco0_0 Ao0_1 co0_1 trivial _ hx3) (fun ⟨A4,c5⟩ hc5=>?_)
 refine g_sta _ (fun W h=>(ok_frontR (t:=2000) (t':=1000) (ok_frontR (t:=1001) (t':=1001) (ok_front (t:=1000) (t':=1000) h rfl) rfl) rfl))<|g_nil ?_
 cases hm
 refine d_sta _ (fun W h=>ok_frontR (t:=1000) (t':=2000) h rfl) ?_
 exact d_retC (A4,c5) Tryz.results99 (res_nil rfl) hc5 (fun W h=>(h.dropR (t:=100160) rfl).phi (fun W hφ=>hφ)) (.inl rfl)
noncomputable def m_conf_eight (p1 : Int) (o0 : Gpack_Packer) : Option Gpack_Packer:=
  (m_pack_Packer_Long (IntKind.u32.wrap (p1 / 4294967296)) o0).bind fun x1=>
  (m_pack_Packer_Long (IntKind.u32.wrap p1) (⟨x1.fb,o0.fplaces⟩ : Gpack_Packer)).bind fun x6=>
  some (⟨x6.fb,o0.fplaces⟩ : Gpack_Packer)
theorem c_conf_eight {w0 : World} {M : Nat→Prop} {H : List (Nat×Nat×Obj)} {R : List (Nat×Row)} {φ : World→Prop} (p1 : Int) (go0 : Nat) (o0 : Gpack_Packer) (Ao0_0 : Option Addr) (co0_0 : Nat) (hco0_0 : o0.fb.length ≤ co0_0) (Ao0_1 : Option Addr) (co0_1 : Nat) (hco0_1 : True) (r : Gpack_Packer) (hm : m_conf_eight p1 o0 = some r) :
    Cn Tryz.prog 62 #[.pointer (some ⟨go0,0,none⟩),.int .i64 p1] ⟨w0,M,(1000,go0,.cells #[.slice Ao0_0 o0.fb.length co0_0,mapV Ao0_1] 120 (0,0))::H,(1000,⟨.slice Ao0_0 o0.fb.length co0_0,5,1,o0.fb.length,o0.fb.flatMap (fun x : Int=>[Value.int .u8 x])⟩)::(1001,⟨mapV Ao0_1,118,2,o0.fplaces.length,o0.fplaces.flatMap (mcell (fun x : ByteArray=>Value.string x) (fun x : Int=>Value.int .i64 x))⟩)::R,φ⟩ (fun x : Option Addr×Nat=>.tuple #[]) (fun x=>r.fb.length ≤ x.2) (fun x=>⟨w0,M,(1000,go0,.cells #[.slice x.1 r.fb.length x.2,mapV Ao0_1] 120 (0,0))::H,(2000,⟨.slice x.1 r.fb.length x.2,5,1,r.fb.length,r.fb.flatMap (fun x : Int=>[Value.int .u8 x])⟩)::(1001,⟨mapV Ao0_1,118,2,o0.fplaces.length,o0.fplaces.flatMap (mcell (fun x : ByteArray=>Value.string x) (fun x : Int=>Value.int .i64 x))⟩)::R,φ⟩):=by
 unfold m_conf_eight at hm
 refine cn_intro (fn:=Tryz.f62) (N:=13) Tryz.func62 rfl Tryz.ntmps62 rfl<|c_seq<|c_region<|g_v rfl r_move<|g_v rfl r_move<|g_v rfl (r_shr (n:=4294967296) rfl rfl (by decide) (by decide) (by decide))<|g_v rfl (r_conv Tryz.underlying3 Tryz.underlying123 rfl rfl) ?_
 replace hm:=bnd hm
 obtain ⟨x1,hx2,hm⟩:=hm
 refine g_cn ⟨w0,M,(1000,go0,.cells #[.slice Ao0_0 o0.fb.length co0_0,mapV Ao0_1] 120 (0,0))::H,(1000,⟨.slice Ao0_0 o0.fb.length co0_0,5,1,o0.fb.length,o0.fb.flatMap (fun x : Int=>[Value.int .u8 x])⟩)::(1001,⟨mapV Ao0_1,118,2,o0.fplaces.length,o0.fplaces.flatMap (mcell (fun x : ByteArray=>Value.string x) (fun x : Int=>Value.int .i64 x))⟩)::R,φ⟩ (fun W h=>(ok_front (t:=1000) (t':=1000) (ok_frontR (t:=1000) (t':=1000) (ok_frontR (t:=1001) (t':=1001) h rfl) rfl) rfl)) Tryz.call99 rfl rfl (c_pack_Packer_Long (IntKind.u32.wrap (p1 / 4294967296)) go0 o0 Ao0_0 co0_0 hco0_0 Ao0_1 co0_1 trivial _ hx2) (fun ⟨A3,c4⟩ hc4=>?_)
 refine g_sta _ (fun W h=>(ok_frontR (t:=2000) (t':=1000) (ok_frontR (t:=1001) (t':=1001) (ok_front (t:=1000) (t':=1000) h rfl) rfl) rfl))<|g_nil<|d_then<|c_region<|g_v rfl r_move<|g_v rfl r_move<|g_v rfl (r_conv Tryz.underlying3 Tryz.underlying123 rfl rfl) ?_
 replace hm:=bnd hm
 obtain ⟨x6,hx7,hm⟩:=hm
 refine g_cn ⟨w0,M,(1000,go0,.cells #[.slice A3 x1.fb.length c4,mapV Ao0_1] 120 (0,0))::H,(1000,⟨.slice A3 x1.fb.length c4,5,1,x1.fb.length,x1.fb.flatMap (fun x : Int=>[Value.int .u8 x])⟩)::(1001,⟨mapV Ao0_1,118,2,o0.fplaces.length,o0.fplaces.flatMap (mcell (fun x : ByteArray=>Value.string x) (fun x : Int=>Value.int .i64 x))⟩)::R,φ⟩ (fun W h=>(ok_front (t:=1000) (t':=1000) (ok_frontR (t:=1000) (t':=1000) (ok_frontR (t:=1001) (t':=1001) h rfl) rfl) rfl)) Tryz.call99 rfl rfl (c_pack_Packer_Long (IntKind.u32.wrap p1) go0 (⟨x1.fb,o0.fplaces⟩ : Gpack_Packer) A3 c4 hc4 Ao0_1 co0_1 trivial _ hx7) (fun ⟨A8,c9⟩ hc9=>?_)
 refine g_sta _ (fun W h=>(ok_frontR (t:=2000) (t':=1000) (ok_frontR (t:=1001) (t':=1001) (ok_front (t:=1000) (t':=1000) h rfl) rfl) rfl))<|g_nil ?_
 cases hm
 refine d_sta _ (fun W h=>ok_frontR (t:=1000) (t':=2000) h rfl) ?_
 exact d_retC (A8,c9) Tryz.results62 (res_nil rfl) hc9 (fun W h=>h.phi (fun W hφ=>hφ)) (.inl rfl)
noncomputable def m_conf_Snap_j4 (x5 : Gpack_Packer) (l214 : List Int) : Option ByteArray:=
  (m_pack_Packer_Bytes (⟨l214,x5.fplaces⟩ : Gpack_Packer)).bind fun x217=>
  some x217
noncomputable def m_conf_Snap_s5 (p0 : GConf) (x5 : Gpack_Packer) (l239 : List Int) (i242 : Int) : Option (((List Int)×Int) ⊕ (List Int)):=
  if i242 < (p0.fFlushes.length : Int) then
    (at_ p0.fFlushes i242).bind fun x265=>
    (m_conf_eight x265.fEpoch (⟨l239,x5.fplaces⟩ : Gpack_Packer)).bind fun x270=>
    (m_pack_Packer_Raw x265.fZone (⟨x270.fb,x5.fplaces⟩ : Gpack_Packer)).bind fun x275=>
    some (.inl (x275.fb,w64 (i242 + 1)))
  else
    some (.inr l239)
noncomputable def m_conf_Snap_j3 (p0 : GConf) (x5 : Gpack_Packer) (l156 : List Int) : Option ByteArray:=
  (m_conf_eight p0.fEpoch (⟨l156,x5.fplaces⟩ : Gpack_Packer)).bind fun x159=>
  (m_pack_Packer_Byte (IntKind.u8.wrap (p0.fFlushes.length : Int)) (⟨x159.fb,x5.fplaces⟩ : Gpack_Packer)).bind fun x164=>
  (loop (fun s=>m_conf_Snap_s5 p0 x5 s.1 s.2) (x164.fb,0)).bind fun e=>m_conf_Snap_j4 x5 e
noncomputable def m_conf_Snap_s6 (p0 : GConf) (x5 : Gpack_Packer) (l306 : List Int) (i309 : Int) : Option (((List Int)×Int) ⊕ (List Int)):=
  if i309 < (p0.fAnchors.length : Int) then
    (at_ p0.fAnchors i309).bind fun x337=>
    (m_pack_Packer_Raw x337.fName (⟨l306,x5.fplaces⟩ : Gpack_Packer)).bind fun x342=>
    (m_pack_Packer_Byte (IntKind.u8.wrap (x337.fText.size : Int)) (⟨x342.fb,x5.fplaces⟩ : Gpack_Packer)).bind fun x347=>
    (m_pack_Packer_Raw x337.fText (⟨x347.fb,x5.fplaces⟩ : Gpack_Packer)).bind fun x352=>
    some (.inl (x352.fb,w64 (i309 + 1)))
  else
    some (.inr l306)
noncomputable def m_conf_Snap_j2 (p0 : GConf) (x5 : Gpack_Packer) (l93 : List Int) : Option ByteArray:=
  (m_pack_Packer_Byte (IntKind.u8.wrap (p0.fAnchors.length : Int)) (⟨l93,x5.fplaces⟩ : Gpack_Packer)).bind fun x96=>
  (loop (fun s=>m_conf_Snap_s6 p0 x5 s.1 s.2) (x96.fb,0)).bind fun e=>m_conf_Snap_j3 p0 x5 e
noncomputable def m_conf_Snap_s7 (p0 : GConf) (x5 : Gpack_Packer) (l372 : List Int) (i375 : Int) : Option (((List Int)×Int) ⊕ (List Int)):=
  if i375 < (p0.fHints.length : Int) then
    (at_ p0.fHints i375).bind fun x392=>
    (m_pack_Packer_Raw x392 (⟨l372,x5.fplaces⟩ : Gpack_Packer)).bind fun x396=>
    some (.inl (x396.fb,w64 (i375 + 1)))
  else
    some (.inr l372)
noncomputable def m_conf_Snap_j1 (p0 : GConf) (x5 : Gpack_Packer) (l52 : List Int) : Option ByteArray:=
  (m_pack_Packer_Byte (IntKind.u8.wrap (p0.fHints.length : Int)) (⟨l52,x5.fplaces⟩ : Gpack_Packer)).bind fun x55=>
  (loop (fun s=>m_conf_Snap_s7 p0 x5 s.1 s.2) (x55.fb,0)).bind fun e=>m_conf_Snap_j2 p0 x5 e
noncomputable def m_conf_Snap_s8 (p0 : GConf) (x5 : Gpack_Packer) (l416 : List Int) (i419 : Int) : Option (((List Int)×Int) ⊕ (List Int)):=
  if i419 < (p0.fRing.length : Int) then
    (at_ p0.fRing i419).bind fun x436=>
    (m_pack_Packer_Byte (IntKind.u8.wrap x436) (⟨l416,x5.fplaces⟩ : Gpack_Packer)).bind fun x440=>
    some (.inl (x440.fb,w64 (i419 + 1)))
  else
    some (.inr l416)
noncomputable def m_conf_Snap (p0 : GConf) : Option ByteArray:=
  (m_conf_Right p0).bind fun x2=>
  if x2 = true then
    (m_pack_New).bind fun x5=>
    (m_pack_Packer_Byte (IntKind.u8.wrap (p0.fRing.length : Int)) x5).bind fun x14=>
    (loop (fun s=>m_conf_Snap_s8 p0 x5 s.1 s.2) (x14.fb,0)).bind fun e=>m_conf_Snap_j1 p0 x5 e
  else
    some (⟨#[]⟩ : ByteArray)
theorem c_conf_Snap {w0 : World} {M : Nat→Prop} {H : List (Nat×Nat×Obj)} {R : List (Nat×Row)} {φ : World→Prop} (p0 : GConf) (Ap0_0 : Option Addr) (cp0_0 : Nat) (hcp0_0 : p0.fRing.length ≤ cp0_0) (fp0_0 : ∀ W,φ W→Cl W Ap0_0 (p0.fRing.flatMap (fun x : Int=>[Value.int .i64 x]))) (Ap0_1 : Option Addr) (cp0_1 : Nat) (hcp0_1 : p0.fHints.length ≤ cp0_1) (fp0_1 : ∀ W,φ W→Cl W Ap0_1 (p0.fHints.flatMap (fun x : ByteArray=>[Value.string x]))) (Ap0_2 : Option Addr) (cp0_2 : Nat) (hcp0_2 : p0.fAnchors.length ≤ cp0_2) (fp0_2 : ∀ W,φ W→Cl W Ap0_2 (p0.fAnchors.flatMap GAnchor.enc)) (Ap0_3 : Option Addr) (cp0_3 : Nat) (hcp0_3 : p0.fFlushes.length ≤ cp0_3) (fp0_3 : ∀ W,φ W→Cl W Ap0_3 (p0.fFlushes.flatMap GFlush.enc)) (r : ByteArray) (hm : m_conf_Snap p0 = some r) :
    Cn Tryz.prog 15 #[.agg #[.slice Ap0_0 p0.fRing.length cp0_0,.slice Ap0_1 p0.fHints.length cp0_1,.slice Ap0_2 p0.fAnchors.length cp0_2,.int .i64 p0.fEpoch,.slice Ap0_3 p0.fFlushes.length cp0_3]] ⟨w0,M,H,R,φ⟩ (fun x : Unit=>.string r) (fun x=>True) (fun x=>⟨w0,M,H,R,φ⟩):=by
 unfold m_conf_Snap at hm
 refine cn_intro (fn:=Tryz.f15) (N:=107) Tryz.func15 rfl Tryz.ntmps15 rfl<|c_seq<|c_region ?_
 refine g_e rfl (e_box 100010 rfl) (fun g1 _=>?_)
 refine g_v rfl r_assign<|g_nil<|d_then<|c_seq<|c_seq<|c_region<|g_v rfl (r_loadA (tag:=100010) rfl rfl Tryz.isAgg30 Tryz.sizeOf30 rfl rfl) ?_
 replace hm:=bnd hm
 obtain ⟨x2,hx3,hm⟩:=hm
 refine g_cn ⟨w0,M,_,_,φ⟩ (fun _ h=>h) Tryz.call13 rfl rfl (c_conf_Right p0 Ap0_0 cp0_0 hcp0_0 (fun W h=>fp0_0 W h) Ap0_1 cp0_1 hcp0_1 (fun W h=>fp0_1 W h) Ap0_2 cp0_2 hcp0_2 (fun W h=>fp0_2 W h) Ap0_3 cp0_3 hcp0_3 (fun W h=>fp0_3 W h) _ hx3) (fun _ _=>?_)
 refine g_v rfl (r_not rfl)<|g_nil<|d_then<|c_sta ⟨w0,M,(100010,g1,.cells #[.slice Ap0_0 p0.fRing.length cp0_0,.slice Ap0_1 p0.fHints.length cp0_1,.slice Ap0_2 p0.fAnchors.length cp0_2,.int .i64 p0.fEpoch,.slice Ap0_3 p0.fFlushes.length cp0_3] 30 (0,0))::H,R,φ⟩ (fun _ h=>h) ?_
 refine c_cond rfl (fun h4=>?_) (fun h4=>?_)
 ·
  have h4' : x2 = false:=by revert h4; cases x2 <;> simp
  replace hm:=ite_f hm (bool_nt h4')
  refine c_seq<|c_region<|g_v rfl r_assign<|g_nil<|d_then<|c_ret<|d_ret_then ?_
  cases hm
  exact d_retC () Tryz.results15 (res_tmp (res_nil rfl)) trivial (fun W h=>ok_pre (H1:=[_]) (R1:=[]) h (fun W hφ=>hφ)) (.inr rfl)
 have h4' : x2 = true:=by revert h4; cases x2 <;> simp
 replace hm:=ite_t hm h4'
 refine c_skip<|d_then<|c_seq<|c_region ?_
 replace hm:=bnd hm
 obtain ⟨x5,hx6,hm⟩:=hm
 refine g_cn ⟨w0,M,_,_,φ⟩ (fun _ h=>h) Tryz.call59 rfl rfl (c_pack_New  _ hx6) (fun ⟨A7,c8,A10,c11,g13⟩ ⟨hc8,hc11⟩=>?_)
 refine g_sta _ (fun W h=>(ok_frontR (t:=2000) (t':=100150) (ok_frontR (t:=2001) (t':=100151) (ok_front (t:=3000) (t':=100155) h rfl) rfl) rfl))<|g_v rfl r_assign<|g_nil<|d_then<|c_seq<|c_region<|g_v rfl r_move<|g_v rfl (r_field (n:=0) Tryz.underlying30 rfl Tryz.sizeOf25 rfl rfl)<|g_v rfl (r_load (tag:=100010) rfl rfl rfl Tryz.isAgg25)<|g_v rfl (r_lenL Tryz.underlying25 rfl) ?_
 refine g_v rfl (r_conv Tryz.underlying3 Tryz.underlying5 rfl rfl) ?_
 replace hm:=bnd hm
 obtain ⟨x14,hx15,hm⟩:=hm
 refine g_cn ⟨w0,M,(1000,g13,.cells #[.slice A7 x5.fb.length c8,mapV A10] 120 (0,0))::(100010,g1,.cells #[.slice Ap0_0 p0.fRing.length cp0_0,.slice Ap0_1 p0.fHints.length cp0_1,.slice Ap0_2 p0.fAnchors.length cp0_2,.int .i64 p0.fEpoch,.slice Ap0_3 p0.fFlushes.length cp0_3] 30 (0,0))::H,(1000,⟨.slice A7 x5.fb.length c8,5,1,x5.fb.length,x5.fb.flatMap (fun x : Int=>[Value.int .u8 x])⟩)::(1001,⟨mapV A10,118,2,x5.fplaces.length,x5.fplaces.flatMap (mcell (fun x : ByteArray=>Value.string x) (fun x : Int=>Value.int .i64 x))⟩)::R,φ⟩ (fun W h=>(ok_front (t:=100155) (t':=1000) (ok_frontR (t:=100150) (t':=1000) (ok_frontR (t:=100151) (t':=1001) h rfl) rfl) rfl)) Tryz.call60 rfl rfl (c_pack_Packer_Byte (IntKind.u8.wrap (p0.fRing.length : Int)) g13 x5 A7 c8 hc8 A10 c11 trivial _ hx15) (fun ⟨A16,c17⟩ hc17=>?_)
 refine g_sta _ (fun W h=>(ok_frontR (t:=2000) (t':=100150) (ok_frontR (t:=1001) (t':=100151) (ok_front (t:=1000) (t':=100155) h rfl) rfl) rfl))<|g_nil<|d_then ?_
 refine c_flat [(1,.pointer (some ⟨g1,0,none⟩)),(3,.pointer (some ⟨g13,0,none⟩))] ⟨rfl,rfl,trivial⟩ (fun u=>?_)
 refine c_sta ⟨w0,M,(100155,g13,.cells #[.slice A16 x14.fb.length c17,mapV A10] 120 (0,0))::(100010,g1,.cells #[.slice Ap0_0 p0.fRing.length cp0_0,.slice Ap0_1 p0.fHints.length cp0_1,.slice Ap0_2 p0.fAnchors.length cp0_2,.int .i64 p0.fEpoch,.slice Ap0_3 p0.fFlushes.length cp0_3] 30 (0,0))::H,(100150,⟨.slice A16 x14.fb.length c17,5,1,x14.fb.length,x14.fb.flatMap (fun x : Int=>[Value.int .u8 x])⟩)::(100151,⟨mapV A10,118,2,x5.fplaces.length,x5.fplaces.flatMap (mcell (fun x : ByteArray=>Value.string x) (fun x : Int=>Value.int .i64 x))⟩)::R,φ⟩ (fun _ h=>h)<|c_seq<|c_seq<|c_region<|g_v rfl (r_field (n:=0) Tryz.underlying30 rfl Tryz.sizeOf25 rfl rfl)<|g_v rfl (r_load (tag:=100010) rfl rfl rfl Tryz.isAgg25)<|g_v rfl (r_lenL Tryz.underlying25 rfl)<|g_v rfl r_move<|g_nil<|d_then ?_
 refine c_cut (ι:=(List Int)×Option Addr×Nat) [1,3] (fun ⟨l52,A53,c54⟩=>[]) (fun ⟨l52,A53,c54⟩=>⟨w0,M,(100155,g13,.cells #[.slice A53 l52.length c54,mapV A10] 120 (0,0))::(100010,g1,.cells #[.slice Ap0_0 p0.fRing.length cp0_0,.slice Ap0_1 p0.fHints.length cp0_1,.slice Ap0_2 p0.fAnchors.length cp0_2,.int .i64 p0.fEpoch,.slice Ap0_3 p0.fFlushes.length cp0_3] 30 (0,0))::H,(100150,⟨.slice A53 l52.length c54,5,1,l52.length,l52.flatMap (fun x : Int=>[Value.int .u8 x])⟩)::(100151,⟨mapV A10,118,2,x5.fplaces.length,x5.fplaces.flatMap (mcell (fun x : ByteArray=>Value.string x) (fun x : Int=>Value.int .i64 x))⟩)::R,φ⟩) (fun ⟨l52,A53,c54⟩=>m_conf_Snap_j1 p0 x5 l52 = some r∧l52.length ≤ c54) ?_ (fun ⟨l52,A53,c54⟩ u ⟨hm,hc54⟩=>?_)
 ·
  refine c_block ?_
  replace hm:=bnd hm
  obtain ⟨out8,hl8,hr8⟩:=hm
  obtain ⟨n434',hl8⟩:=loop_lp hl8
  refine c_loopU (ι:=Nat×(List Int)×Int×Option Addr×Nat) [1,3,23,24,25] (fun ⟨n434,l416,i419,A417,c418⟩=>[(25,.int .i64 i419)]) (fun ⟨n434,l416,i419,A417,c418⟩=>⟨w0,M,(100155,g13,.cells #[.slice A417 l416.length c418,mapV A10] 120 (0,0))::(100010,g1,.cells #[.slice Ap0_0 p0.fRing.length cp0_0,.slice Ap0_1 p0.fHints.length cp0_1,.slice Ap0_2 p0.fAnchors.length cp0_2,.int .i64 p0.fEpoch,.slice Ap0_3 p0.fFlushes.length cp0_3] 30 (0,0))::H,(100150,⟨.slice A417 l416.length c418,5,1,l416.length,l416.flatMap (fun x : Int=>[Value.int .u8 x])⟩)::(100151,⟨mapV A10,118,2,x5.fplaces.length,x5.fplaces.flatMap (mcell (fun x : ByteArray=>Value.string x) (fun x : Int=>Value.int .i64 x))⟩)::R,φ⟩) (fun ⟨n434,l416,i419,A417,c418⟩=>Lp (fun s=>m_conf_Snap_s8 p0 x5 s.1 s.2) n434 (l416,i419) out8∧l416.length ≤ c418) (fun ⟨n434,l416,i419,A417,c418⟩=>n434) (n434',x14.fb,0,A16,c17) ⟨hl8,hc17⟩ ⟨rfl,rfl,rfl,rfl,rfl,trivial⟩ (fun W h=>h.phi (fun W hφ=>hφ)) (fun ⟨n434,l416,i419,A417,c418⟩ u ⟨hlp,hc418⟩=>?_)
  obtain ⟨o8,hm,hnx8⟩:=lp_step hlp
  clear hlp
  replace hm : m_conf_Snap_s8 p0 x5 l416 i419 = some o8:=hm
  unfold m_conf_Snap_s8 at hm
  refine c_flat [(1,.pointer (some ⟨g1,0,none⟩)),(3,.pointer (some ⟨g13,0,none⟩)),(23,.slice Ap0_0 p0.fRing.length cp0_0),(24,.int .i64 (p0.fRing.length : Int)),(25,.int .i64 i419)] ⟨rfl,rfl,rfl,rfl,rfl,trivial⟩ (fun u=>?_)
  refine c_sta ⟨w0,M,(100155,g13,.cells #[.slice A417 l416.length c418,mapV A10] 120 (0,0))::(100010,g1,.cells #[.slice Ap0_0 p0.fRing.length cp0_0,.slice Ap0_1 p0.fHints.length cp0_1,.slice Ap0_2 p0.fAnchors.length cp0_2,.int .i64 p0.fEpoch,.slice Ap0_3 p0.fFlushes.length cp0_3] 30 (0,0))::H,(100150,⟨.slice A417 l416.length c418,5,1,l416.length,l416.flatMap (fun x : Int=>[Value.int .u8 x])⟩)::(100151,⟨mapV A10,118,2,x5.fplaces.length,x5.fplaces.flatMap (mcell (fun x : ByteArray=>Value.string x) (fun x : Int=>Value.int .i64 x))⟩)::R,φ⟩ (fun _ h=>h)<|c_seq<|c_region<|g_v rfl (r_lss rfl rfl)<|g_nil<|d_then<|c_seq ?_
  refine c_cond rfl (fun h435=>?_) (fun h435=>?_)
  ·
   replace hm:=ite_t hm (of_decide_eq_true h435)
   refine c_skip<|d_then<|c_seq<|c_block<|c_seq<|c_region ?_
   replace hm:=bnd hm
   obtain ⟨x436,hx436,hm⟩:=hm
   refine g_know _ (fun W hS=>cl_at (p:=φ) (sz:=1) (fun _=>rfl) (by decide) hS.now fp0_0 hx436) ?_
   rintro ⟨ad437,hA439,f438⟩
   refine g_v rfl (r_ix Tryz.underlying25 Tryz.sizeOf3 rfl hA439 rfl hx436)<|g_v rfl (r_ld rfl Tryz.isAgg3 (fun W hS=>Cl.head (f438 W hS.now)))<|g_v rfl r_assign<|g_nil<|d_then<|c_region<|g_v rfl r_move<|g_v rfl r_move<|g_v rfl (r_conv Tryz.underlying3 Tryz.underlying5 rfl rfl) ?_
   replace hm:=bnd hm
   obtain ⟨x440,hx441,hm⟩:=hm
   refine g_cn ⟨w0,M,(1000,g13,.cells #[.slice A417 l416.length c418,mapV A10] 120 (0,0))::(100010,g1,.cells #[.slice Ap0_0 p0.fRing.length cp0_0,.slice Ap0_1 p0.fHints.length cp0_1,.slice Ap0_2 p0.fAnchors.length cp0_2,.int .i64 p0.fEpoch,.slice Ap0_3 p0.fFlushes.length cp0_3] 30 (0,0))::H,(1000,⟨.slice A417 l416.length c418,5,1,l416.length,l416.flatMap (fun x : Int=>[Value.int .u8 x])⟩)::(1001,⟨mapV A10,118,2,x5.fplaces.length,x5.fplaces.flatMap (mcell (fun x : ByteArray=>Value.string x) (fun x : Int=>Value.int .i64 x))⟩)::R,φ⟩ (fun W h=>(ok_front (t:=100155) (t':=1000) (ok_frontR (t:=100150) (t':=1000) (ok_frontR (t:=100151) (t':=1001) h rfl) rfl) rfl)) Tryz.call60 rfl rfl (c_pack_Packer_Byte (IntKind.u8.wrap x436) g13 (⟨l416,x5.fplaces⟩ : Gpack_Packer) A417 c418 hc418 A10 c11 trivial _ hx441) (fun ⟨A442,c443⟩ hc443=>?_)
   refine g_sta _ (fun W h=>(ok_frontR (t:=2000) (t':=100150) (ok_frontR (t:=1001) (t':=100151) (ok_front (t:=1000) (t':=100155) h rfl) rfl) rfl))<|g_nil<|d_normal_block<|d_then<|c_region<|g_v rfl (r_add rfl rfl rfl)<|g_v rfl r_move<|g_nil ?_
   obtain ⟨n445,hn445,hlp⟩:=nx_inl hm hnx8
   exact d_round (n445,x440.fb,w64 (i419 + 1),A442,c443) ⟨hlp,hc443⟩ hn445 ⟨rfl,rfl,rfl,rfl,rfl,trivial⟩ (fun W h=>h.phi (fun W hφ=>hφ))
  replace hm:=ite_f hm (of_decide_eq_false h435)
  refine c_exit<|d_exit_then<|d_exit_then<|d_exit_block ?_
  replace hm:=nx_out (C:=(fun e : (List Int)=>m_conf_Snap_j1 p0 x5 e = some r)) hm hnx8 hr8
  exact d_round (l416,A417,c418) ⟨hm,hc418⟩ Nat.zero_lt_one ⟨rfl,rfl,trivial⟩ (fun W h=>h.phi (fun W hφ=>hφ))
 unfold m_conf_Snap_j1 at hm
 refine d_flat [(1,.pointer (some ⟨g1,0,none⟩)),(3,.pointer (some ⟨g13,0,none⟩))] ⟨rfl,rfl,trivial⟩ (fun u=>?_)
 refine d_sta ⟨w0,M,(100155,g13,.cells #[.slice A53 l52.length c54,mapV A10] 120 (0,0))::(100010,g1,.cells #[.slice Ap0_0 p0.fRing.length cp0_0,.slice Ap0_1 p0.fHints.length cp0_1,.slice Ap0_2 p0.fAnchors.length cp0_2,.int .i64 p0.fEpoch,.slice Ap0_3 p0.fFlushes.length cp0_3] 30 (0,0))::H,(100150,⟨.slice A53 l52.length c54,5,1,l52.length,l52.flatMap (fun x : Int=>[Value.int .u8 x])⟩)::(100151,⟨mapV A10,118,2,x5.fplaces.length,x5.fplaces.flatMap (mcell (fun x : ByteArray=>Value.string x) (fun x : Int=>Value.int .i64 x))⟩)::R,φ⟩ (fun _ h=>h)<|d_then<|c_seq<|c_region<|g_v rfl r_move<|g_v rfl (r_field (n:=1) Tryz.underlying30 rfl Tryz.sizeOf26 rfl rfl)<|g_v rfl (r_load (tag:=100010) rfl rfl rfl Tryz.isAgg26)<|g_v rfl (r_lenL Tryz.underlying26 rfl)<|g_v rfl (r_conv Tryz.underlying3 Tryz.underlying5 rfl rfl) ?_
 replace hm:=bnd hm
 obtain ⟨x55,hx56,hm⟩:=hm
 refine g_cn ⟨w0,M,(1000,g13,.cells #[.slice A53 l52.length c54,mapV A10] 120 (0,0))::(100010,g1,.cells #[.slice Ap0_0 p0.fRing.length cp0_0,.slice Ap0_1 p0.fHints.length cp0_1,.slice Ap0_2 p0.fAnchors.length cp0_2,.int .i64 p0.fEpoch,.slice Ap0_3 p0.fFlushes.length cp0_3] 30 (0,0))::H,(1000,⟨.slice A53 l52.length c54,5,1,l52.length,l52.flatMap (fun x : Int=>[Value.int .u8 x])⟩)::(1001,⟨mapV A10,118,2,x5.fplaces.length,x5.fplaces.flatMap (mcell (fun x : ByteArray=>Value.string x) (fun x : Int=>Value.int .i64 x))⟩)::R,φ⟩ (fun W h=>(ok_front (t:=100155) (t':=1000) (ok_frontR (t:=100150) (t':=1000) (ok_frontR (t:=100151) (t':=1001) h rfl) rfl) rfl)) Tryz.call60 rfl rfl (c_pack_Packer_Byte (IntKind.u8.wrap (p0.fHints.length : Int)) g13 (⟨l52,x5.fplaces⟩ : Gpack_Packer) A53 c54 hc54 A10 c11 trivial _ hx56) (fun ⟨A57,c58⟩ hc58=>?_)
 refine g_sta _ (fun W h=>(ok_frontR (t:=2000) (t':=100150) (ok_frontR (t:=1001) (t':=100151) (ok_front (t:=1000) (t':=100155) h rfl) rfl) rfl))<|g_nil<|d_then<|c_seq<|c_seq<|c_region<|g_v rfl (r_field (n:=1) Tryz.underlying30 rfl Tryz.sizeOf26 rfl rfl)<|g_v rfl (r_load (tag:=100010) rfl rfl rfl Tryz.isAgg26)<|g_v rfl (r_lenL Tryz.underlying26 rfl)<|g_v rfl r_move ?_
 refine g_nil<|d_then ?_
 refine c_flat [(1,.pointer (some ⟨g1,0,none⟩)),(3,.pointer (some ⟨g13,0,none⟩)),(41,.slice Ap0_1 p0.fHints.length cp0_1),(42,.int .i64 (p0.fHints.length : Int)),(43,.int .i64 0)] ⟨rfl,rfl,rfl,rfl,rfl,trivial⟩ (fun u=>?_)
 refine c_sta ⟨w0,M,(100155,g13,.cells #[.slice A57 x55.fb.length c58,mapV A10] 120 (0,0))::(100010,g1,.cells #[.slice Ap0_0 p0.fRing.length cp0_0,.slice Ap0_1 p0.fHints.length cp0_1,.slice Ap0_2 p0.fAnchors.length cp0_2,.int .i64 p0.fEpoch,.slice Ap0_3 p0.fFlushes.length cp0_3] 30 (0,0))::H,(100150,⟨.slice A57 x55.fb.length c58,5,1,x55.fb.length,x55.fb.flatMap (fun x : Int=>[Value.int .u8 x])⟩)::(100151,⟨mapV A10,118,2,x5.fplaces.length,x5.fplaces.flatMap (mcell (fun x : ByteArray=>Value.string x) (fun x : Int=>Value.int .i64 x))⟩)::R,φ⟩ (fun _ h=>h) ?_
 refine c_cut (ι:=(List Int)×Option Addr×Nat) [1,3] (fun ⟨l93,A94,c95⟩=>[]) (fun ⟨l93,A94,c95⟩=>⟨w0,M,(100155,g13,.cells #[.slice A94 l93.length c95,mapV A10] 120 (0,0))::(100010,g1,.cells #[.slice Ap0_0 p0.fRing.length cp0_0,.slice Ap0_1 p0.fHints.length cp0_1,.slice Ap0_2 p0.fAnchors.length cp0_2,.int .i64 p0.fEpoch,.slice Ap0_3 p0.fFlushes.length cp0_3] 30 (0,0))::H,(100150,⟨.slice A94 l93.length c95,5,1,l93.length,l93.flatMap (fun x : Int=>[Value.int .u8 x])⟩)::(100151,⟨mapV A10,118,2,x5.fplaces.length,x5.fplaces.flatMap (mcell (fun x : ByteArray=>Value.string x) (fun x : Int=>Value.int .i64 x))⟩)::R,φ⟩) (fun ⟨l93,A94,c95⟩=>m_conf_Snap_j2 p0 x5 l93 = some r∧l93.length ≤ c95) ?_ (fun ⟨l93,A94,c95⟩ u ⟨hm,hc95⟩=>?_)
 ·
  refine c_block ?_
  replace hm:=bnd hm
  obtain ⟨out7,hl7,hr7⟩:=hm
  obtain ⟨n390',hl7⟩:=loop_lp hl7
  refine c_loopU (ι:=Nat×(List Int)×Int×Option Addr×Nat) [1,3,41,42,43] (fun ⟨n390,l372,i375,A373,c374⟩=>[(43,.int .i64 i375)]) (fun ⟨n390,l372,i375,A373,c374⟩=>⟨w0,M,(100155,g13,.cells #[.slice A373 l372.length c374,mapV A10] 120 (0,0))::(100010,g1,.cells #[.slice Ap0_0 p0.fRing.length cp0_0,.slice Ap0_1 p0.fHints.length cp0_1,.slice Ap0_2 p0.fAnchors.length cp0_2,.int .i64 p0.fEpoch,.slice Ap0_3 p0.fFlushes.length cp0_3] 30 (0,0))::H,(100150,⟨.slice A373 l372.length c374,5,1,l372.length,l372.flatMap (fun x : Int=>[Value.int .u8 x])⟩)::(100151,⟨mapV A10,118,2,x5.fplaces.length,x5.fplaces.flatMap (mcell (fun x : ByteArray=>Value.string x) (fun x : Int=>Value.int .i64 x))⟩)::R,φ⟩) (fun ⟨n390,l372,i375,A373,c374⟩=>Lp (fun s=>m_conf_Snap_s7 p0 x5 s.1 s.2) n390 (l372,i375) out7∧l372.length ≤ c374) (fun ⟨n390,l372,i375,A373,c374⟩=>n390) (n390',x55.fb,0,A57,c58) ⟨hl7,hc58⟩ ⟨rfl,rfl,rfl,rfl,rfl,trivial⟩ (fun W h=>h.phi (fun W hφ=>hφ)) (fun ⟨n390,l372,i375,A373,c374⟩ u ⟨hlp,hc374⟩=>?_)
  obtain ⟨o7,hm,hnx7⟩:=lp_step hlp
  clear hlp
  replace hm : m_conf_Snap_s7 p0 x5 l372 i375 = some o7:=hm
  unfold m_conf_Snap_s7 at hm
  refine c_flat [(1,.pointer (some ⟨g1,0,none⟩)),(3,.pointer (some ⟨g13,0,none⟩)),(41,.slice Ap0_1 p0.fHints.length cp0_1),(42,.int .i64 (p0.fHints.length : Int)),(43,.int .i64 i375)] ⟨rfl,rfl,rfl,rfl,rfl,trivial⟩ (fun u=>?_)
  refine c_sta ⟨w0,M,(100155,g13,.cells #[.slice A373 l372.length c374,mapV A10] 120 (0,0))::(100010,g1,.cells #[.slice Ap0_0 p0.fRing.length cp0_0,.slice Ap0_1 p0.fHints.length cp0_1,.slice Ap0_2 p0.fAnchors.length cp0_2,.int .i64 p0.fEpoch,.slice Ap0_3 p0.fFlushes.length cp0_3] 30 (0,0))::H,(100150,⟨.slice A373 l372.length c374,5,1,l372.length,l372.flatMap (fun x : Int=>[Value.int .u8 x])⟩)::(100151,⟨mapV A10,118,2,x5.fplaces.length,x5.fplaces.flatMap (mcell (fun x : ByteArray=>Value.string x) (fun x : Int=>Value.int .i64 x))⟩)::R,φ⟩ (fun _ h=>h)<|c_seq<|c_region<|g_v rfl (r_lss rfl rfl)<|g_nil<|d_then<|c_seq ?_
  refine c_cond rfl (fun h391=>?_) (fun h391=>?_)
  ·
   replace hm:=ite_t hm (of_decide_eq_true h391)
   refine c_skip<|d_then<|c_seq<|c_block<|c_seq<|c_region ?_
   replace hm:=bnd hm
   obtain ⟨x392,hx392,hm⟩:=hm
   refine g_know _ (fun W hS=>cl_at (p:=φ) (sz:=1) (fun _=>rfl) (by decide) hS.now fp0_1 hx392) ?_
   rintro ⟨ad393,hA395,f394⟩
   refine g_v rfl (r_ix Tryz.underlying26 Tryz.sizeOf9 rfl hA395 rfl hx392)<|g_v rfl (r_ld rfl Tryz.isAgg9 (fun W hS=>Cl.head (f394 W hS.now)))<|g_v rfl r_assign<|g_nil<|d_then<|c_region<|g_v rfl r_move<|g_v rfl r_move ?_
   replace hm:=bnd hm
   obtain ⟨x396,hx397,hm⟩:=hm
   refine g_cn ⟨w0,M,(1000,g13,.cells #[.slice A373 l372.length c374,mapV A10] 120 (0,0))::(100010,g1,.cells #[.slice Ap0_0 p0.fRing.length cp0_0,.slice Ap0_1 p0.fHints.length cp0_1,.slice Ap0_2 p0.fAnchors.length cp0_2,.int .i64 p0.fEpoch,.slice Ap0_3 p0.fFlushes.length cp0_3] 30 (0,0))::H,(1000,⟨.slice A373 l372.length c374,5,1,l372.length,l372.flatMap (fun x : Int=>[Value.int .u8 x])⟩)::(1001,⟨mapV A10,118,2,x5.fplaces.length,x5.fplaces.flatMap (mcell (fun x : ByteArray=>Value.string x) (fun x : Int=>Value.int .i64 x))⟩)::R,φ⟩ (fun W h=>(ok_front (t:=100155) (t':=1000) (ok_frontR (t:=100150) (t':=1000) (ok_frontR (t:=100151) (t':=1001) h rfl) rfl) rfl)) Tryz.call61 rfl rfl (c_pack_Packer_Raw x392 g13 (⟨l372,x5.fplaces⟩ : Gpack_Packer) A373 c374 hc374 A10 c11 trivial _ hx397) (fun ⟨A398,c399⟩ hc399=>?_)
   refine g_sta _ (fun W h=>(ok_frontR (t:=2000) (t':=100150) (ok_frontR (t:=1001) (t':=100151) (ok_front (t:=1000) (t':=100155) h rfl) rfl) rfl))<|g_nil<|d_normal_block<|d_then<|c_region<|g_v rfl (r_add rfl rfl rfl)<|g_v rfl r_move<|g_nil ?_
   obtain ⟨n401,hn401,hlp⟩:=nx_inl hm hnx7
   exact d_round (n401,x396.fb,w64 (i375 + 1),A398,c399) ⟨hlp,hc399⟩ hn401 ⟨rfl,rfl,rfl,rfl,rfl,trivial⟩ (fun W h=>h.phi (fun W hφ=>hφ))
  replace hm:=ite_f hm (of_decide_eq_false h391)
  refine c_exit<|d_exit_then<|d_exit_then<|d_exit_block ?_
  replace hm:=nx_out (C:=(fun e : (List Int)=>m_conf_Snap_j2 p0 x5 e = some r)) hm hnx7 hr7
  exact d_round (l372,A373,c374) ⟨hm,hc374⟩ Nat.zero_lt_one ⟨rfl,rfl,trivial⟩ (fun W h=>h.phi (fun W hφ=>hφ))
 unfold m_conf_Snap_j2 at hm
 refine d_flat [(1,.pointer (some ⟨g1,0,none⟩)),(3,.pointer (some ⟨g13,0,none⟩))] ⟨rfl,rfl,trivial⟩ (fun u=>?_)
 refine d_sta ⟨w0,M,(100155,g13,.cells #[.slice A94 l93.length c95,mapV A10] 120 (0,0))::(100010,g1,.cells #[.slice Ap0_0 p0.fRing.length cp0_0,.slice Ap0_1 p0.fHints.length cp0_1,.slice Ap0_2 p0.fAnchors.length cp0_2,.int .i64 p0.fEpoch,.slice Ap0_3 p0.fFlushes.length cp0_3] 30 (0,0))::H,(100150,⟨.slice A94 l93.length c95,5,1,l93.length,l93.flatMap (fun x : Int=>[Value.int .u8 x])⟩)::(100151,⟨mapV A10,118,2,x5.fplaces.length,x5.fplaces.flatMap (mcell (fun x : ByteArray=>Value.string x) (fun x : Int=>Value.int .i64 x))⟩)::R,φ⟩ (fun _ h=>h)<|d_then<|c_seq<|c_region<|g_v rfl r_move<|g_v rfl (r_field (n:=2) Tryz.underlying30 rfl Tryz.sizeOf27 rfl rfl)<|g_v rfl (r_load (tag:=100010) rfl rfl rfl Tryz.isAgg27)<|g_v rfl (r_lenL Tryz.underlying27 rfl)<|g_v rfl (r_conv Tryz.underlying3 Tryz.underlying5 rfl rfl) ?_
 replace hm:=bnd hm
 obtain ⟨x96,hx97,hm⟩:=hm
 refine g_cn ⟨w0,M,(1000,g13,.cells #[.slice A94 l93.length c95,mapV A10] 120 (0,0))::(100010,g1,.cells #[.slice Ap0_0 p0.fRing.length cp0_0,.slice Ap0_1 p0.fHints.length cp0_1,.slice Ap0_2 p0.fAnchors.length cp0_2,.int .i64 p0.fEpoch,.slice Ap0_3 p0.fFlushes.length cp0_3] 30 (0,0))::H,(1000,⟨.slice A94 l93.length c95,5,1,l93.length,l93.flatMap (fun x : Int=>[Value.int .u8 x])⟩)::(1001,⟨mapV A10,118,2,x5.fplaces.length,x5.fplaces.flatMap (mcell (fun x : ByteArray=>Value.string x) (fun x : Int=>Value.int .i64 x))⟩)::R,φ⟩ (fun W h=>(ok_front (t:=100155) (t':=1000) (ok_frontR (t:=100150) (t':=1000) (ok_frontR (t:=100151) (t':=1001) h rfl) rfl) rfl)) Tryz.call60 rfl rfl (c_pack_Packer_Byte (IntKind.u8.wrap (p0.fAnchors.length : Int)) g13 (⟨l93,x5.fplaces⟩ : Gpack_Packer) A94 c95 hc95 A10 c11 trivial _ hx97) (fun ⟨A98,c99⟩ hc99=>?_)
 refine g_sta _ (fun W h=>(ok_frontR (t:=2000) (t':=100150) (ok_frontR (t:=1001) (t':=100151) (ok_front (t:=1000) (t':=100155) h rfl) rfl) rfl))<|g_nil<|d_then<|c_seq<|c_seq<|c_region<|g_v rfl (r_field (n:=2) Tryz.underlying30 rfl Tryz.sizeOf27 rfl rfl)<|g_v rfl (r_load (tag:=100010) rfl rfl rfl Tryz.isAgg27)<|g_v rfl (r_lenL Tryz.underlying27 rfl)<|g_v rfl r_move ?_
 refine g_nil<|d_then ?_
 refine c_flat [(1,.pointer (some ⟨g1,0,none⟩)),(3,.pointer (some ⟨g13,0,none⟩)),(58,.slice Ap0_2 p0.fAnchors.length cp0_2),(59,.int .i64 (p0.fAnchors.length : Int)),(60,.int .i64 0)] ⟨rfl,rfl,rfl,rfl,rfl,trivial⟩ (fun u=>?_)
 refine c_sta ⟨w0,M,(100155,g13,.cells #[.slice A98 x96.fb.length c99,mapV A10] 120 (0,0))::(100010,g1,.cells #[.slice Ap0_0 p0.fRing.length cp0_0,.slice Ap0_1 p0.fHints.length cp0_1,.slice Ap0_2 p0.fAnchors.length cp0_2,.int .i64 p0.fEpoch,.slice Ap0_3 p0.fFlushes.length cp0_3] 30 (0,0))::H,(100150,⟨.slice A98 x96.fb.length c99,5,1,x96.fb.length,x96.fb.flatMap (fun x : Int=>[Value.int .u8 x])⟩)::(100151,⟨mapV A10,118,2,x5.fplaces.length,x5.fplaces.flatMap (mcell (fun x : ByteArray=>Value.string x) (fun x : Int=>Value.int .i64 x))⟩)::R,φ⟩ (fun _ h=>h) ?_
 refine c_cut (ι:=(List Int)×Option Addr×Nat) [1,3] (fun ⟨l156,A157,c158⟩=>[]) (fun ⟨l156,A157,c158⟩=>⟨w0,M,(100155,g13,.cells #[.slice A157 l156.length c158,mapV A10] 120 (0,0))::(100010,g1,.cells #[.slice Ap0_0 p0.fRing.length cp0_0,.slice Ap0_1 p0.fHints.length cp0_1,.slice Ap0_2 p0.fAnchors.length cp0_2,.int .i64 p0.fEpoch,.slice Ap0_3 p0.fFlushes.length cp0_3] 30 (0,0))::H,(100150,⟨.slice A157 l156.length c158,5,1,l156.length,l156.flatMap (fun x : Int=>[Value.int .u8 x])⟩)::(100151,⟨mapV A10,118,2,x5.fplaces.length,x5.fplaces.flatMap (mcell (fun x : ByteArray=>Value.string x) (fun x : Int=>Value.int .i64 x))⟩)::R,φ⟩) (fun ⟨l156,A157,c158⟩=>m_conf_Snap_j3 p0 x5 l156 = some r∧l156.length ≤ c158) ?_ (fun ⟨l156,A157,c158⟩ u ⟨hm,hc158⟩=>?_)
 ·
  refine c_block ?_
  replace hm:=bnd hm
  obtain ⟨out6,hl6,hr6⟩:=hm
  obtain ⟨n335',hl6⟩:=loop_lp hl6
  refine c_loopU (ι:=Nat×(List Int)×Int×Option Addr×Nat) [1,3,58,59,60] (fun ⟨n335,l306,i309,A307,c308⟩=>[(60,.int .i64 i309)]) (fun ⟨n335,l306,i309,A307,c308⟩=>⟨w0,M,(100155,g13,.cells #[.slice A307 l306.length c308,mapV A10] 120 (0,0))::(100010,g1,.cells #[.slice Ap0_0 p0.fRing.length cp0_0,.slice Ap0_1 p0.fHints.length cp0_1,.slice Ap0_2 p0.fAnchors.length cp0_2,.int .i64 p0.fEpoch,.slice Ap0_3 p0.fFlushes.length cp0_3] 30 (0,0))::H,(100150,⟨.slice A307 l306.length c308,5,1,l306.length,l306.flatMap (fun x : Int=>[Value.int .u8 x])⟩)::(100151,⟨mapV A10,118,2,x5.fplaces.length,x5.fplaces.flatMap (mcell (fun x : ByteArray=>Value.string x) (fun x : Int=>Value.int .i64 x))⟩)::R,φ⟩) (fun ⟨n335,l306,i309,A307,c308⟩=>Lp (fun s=>m_conf_Snap_s6 p0 x5 s.1 s.2) n335 (l306,i309) out6∧l306.length ≤ c308) (fun ⟨n335,l306,i309,A307,c308⟩=>n335) (n335',x96.fb,0,A98,c99) ⟨hl6,hc99⟩ ⟨rfl,rfl,rfl,rfl,rfl,trivial⟩ (fun W h=>h.phi (fun W hφ=>hφ)) (fun ⟨n335,l306,i309,A307,c308⟩ u ⟨hlp,hc308⟩=>?_)
  obtain ⟨o6,hm,hnx6⟩:=lp_step hlp
  clear hlp
  replace hm : m_conf_Snap_s6 p0 x5 l306 i309 = some o6:=hm
  unfold m_conf_Snap_s6 at hm
  refine c_flat [(1,.pointer (some ⟨g1,0,none⟩)),(3,.pointer (some ⟨g13,0,none⟩)),(58,.slice Ap0_2 p0.fAnchors.length cp0_2),(59,.int .i64 (p0.fAnchors.length : Int)),(60,.int .i64 i309)] ⟨rfl,rfl,rfl,rfl,rfl,trivial⟩ (fun u=>?_)
  refine c_sta ⟨w0,M,(100155,g13,.cells #[.slice A307 l306.length c308,mapV A10] 120 (0,0))::(100010,g1,.cells #[.slice Ap0_0 p0.fRing.length cp0_0,.slice Ap0_1 p0.fHints.length cp0_1,.slice Ap0_2 p0.fAnchors.length cp0_2,.int .i64 p0.fEpoch,.slice Ap0_3 p0.fFlushes.length cp0_3] 30 (0,0))::H,(100150,⟨.slice A307 l306.length c308,5,1,l306.length,l306.flatMap (fun x : Int=>[Value.int .u8 x])⟩)::(100151,⟨mapV A10,118,2,x5.fplaces.length,x5.fplaces.flatMap (mcell (fun x : ByteArray=>Value.string x) (fun x : Int=>Value.int .i64 x))⟩)::R,φ⟩ (fun _ h=>h)<|c_seq<|c_region<|g_v rfl (r_lss rfl rfl)<|g_nil<|d_then<|c_seq ?_
  refine c_cond rfl (fun h336=>?_) (fun h336=>?_)
  ·
   replace hm:=ite_t hm (of_decide_eq_true h336)
   refine c_skip<|d_then<|c_seq<|c_block<|c_seq<|c_region ?_
   replace hm:=bnd hm
   obtain ⟨x337,hx337,hm⟩:=hm
   refine g_know _ (fun W hS=>cl_at (p:=φ) (sz:=2) (fun _=>rfl) (by decide) hS.now fp0_2 hx337) ?_
   rintro ⟨ad338,hA340,f339⟩
   refine g_v rfl (r_ix Tryz.underlying27 Tryz.sizeOf55 rfl hA340 rfl hx337)<|g_v rfl (r_ldA rfl Tryz.isAgg55 Tryz.sizeOf55 (fun W hS=>(f339 W hS.now).take 2) rfl) ?_
   refine g_e rfl (e_alloc 100090 Tryz.zeroValue55) (fun g341 _=>?_)
   refine g_storeL (tag:=100090) rfl rfl rfl rfl Tryz.sizeOf55 rfl rfl<|g_nil<|d_then<|c_seq<|c_region<|g_v rfl r_move<|g_v rfl (r_field (n:=0) Tryz.underlying55 rfl Tryz.sizeOf9 rfl rfl)<|g_v rfl (r_load (tag:=100090) rfl rfl rfl Tryz.isAgg9) ?_
   replace hm:=bnd hm
   obtain ⟨x342,hx343,hm⟩:=hm
   refine g_cn ⟨w0,M,(1000,g13,.cells #[.slice A307 l306.length c308,mapV A10] 120 (0,0))::(100090,g341,.cells #[.string x337.fName,.string x337.fText] 55 (0,0))::(100010,g1,.cells #[.slice Ap0_0 p0.fRing.length cp0_0,.slice Ap0_1 p0.fHints.length cp0_1,.slice Ap0_2 p0.fAnchors.length cp0_2,.int .i64 p0.fEpoch,.slice Ap0_3 p0.fFlushes.length cp0_3] 30 (0,0))::H,(1000,⟨.slice A307 l306.length c308,5,1,l306.length,l306.flatMap (fun x : Int=>[Value.int .u8 x])⟩)::(1001,⟨mapV A10,118,2,x5.fplaces.length,x5.fplaces.flatMap (mcell (fun x : ByteArray=>Value.string x) (fun x : Int=>Value.int .i64 x))⟩)::R,φ⟩ (fun W h=>(ok_front (t:=100155) (t':=1000) (ok_frontR (t:=100150) (t':=1000) (ok_frontR (t:=100151) (t':=1001) h rfl) rfl) rfl)) Tryz.call61 rfl rfl (c_pack_Packer_Raw x337.fName g13 (⟨l306,x5.fplaces⟩ : Gpack_Packer) A307 c308 hc308 A10 c11 trivial _ hx343) (fun ⟨A344,c345⟩ hc345=>?_)
   refine g_sta _ (fun W h=>(ok_frontR (t:=2000) (t':=100150) (ok_frontR (t:=1001) (t':=100151) (ok_front (t:=1000) (t':=100155) h rfl) rfl) rfl))<|g_nil<|d_then ?_
   refine c_flat [(1,.pointer (some ⟨g1,0,none⟩)),(3,.pointer (some ⟨g13,0,none⟩)),(9,.pointer (some ⟨g341,0,none⟩)),(58,.slice Ap0_2 p0.fAnchors.length cp0_2),(59,.int .i64 (p0.fAnchors.length : Int)),(60,.int .i64 i309)] ⟨rfl,rfl,rfl,rfl,rfl,rfl,trivial⟩ (fun u=>?_)
   refine c_sta ⟨w0,M,(100155,g13,.cells #[.slice A344 x342.fb.length c345,mapV A10] 120 (0,0))::(100090,g341,.cells #[.string x337.fName,.string x337.fText] 55 (0,0))::(100010,g1,.cells #[.slice Ap0_0 p0.fRing.length cp0_0,.slice Ap0_1 p0.fHints.length cp0_1,.slice Ap0_2 p0.fAnchors.length cp0_2,.int .i64 p0.fEpoch,.slice Ap0_3 p0.fFlushes.length cp0_3] 30 (0,0))::H,(100150,⟨.slice A344 x342.fb.length c345,5,1,x342.fb.length,x342.fb.flatMap (fun x : Int=>[Value.int .u8 x])⟩)::(100151,⟨mapV A10,118,2,x5.fplaces.length,x5.fplaces.flatMap (mcell (fun x : ByteArray=>Value.string x) (fun x : Int=>Value.int .i64 x))⟩)::R,φ⟩ (fun _ h=>h)<|c_seq<|c_region<|g_v rfl r_move<|g_v rfl (r_field (n:=1) Tryz.underlying55 rfl Tryz.sizeOf9 rfl rfl)<|g_v rfl (r_load (tag:=100090) rfl rfl rfl Tryz.isAgg9)<|g_v rfl (r_len Tryz.underlying9 rfl)<|g_v rfl (r_conv Tryz.underlying3 Tryz.underlying5 rfl rfl) ?_
   replace hm:=bnd hm
   obtain ⟨x347,hx348,hm⟩:=hm
   refine g_cn ⟨w0,M,(1000,g13,.cells #[.slice A344 x342.fb.length c345,mapV A10] 120 (0,0))::(100090,g341,.cells #[.string x337.fName,.string x337.fText] 55 (0,0))::(100010,g1,.cells #[.slice Ap0_0 p0.fRing.length cp0_0,.slice Ap0_1 p0.fHints.length cp0_1,.slice Ap0_2 p0.fAnchors.length cp0_2,.int .i64 p0.fEpoch,.slice Ap0_3 p0.fFlushes.length cp0_3] 30 (0,0))::H,(1000,⟨.slice A344 x342.fb.length c345,5,1,x342.fb.length,x342.fb.flatMap (fun x : Int=>[Value.int .u8 x])⟩)::(1001,⟨mapV A10,118,2,x5.fplaces.length,x5.fplaces.flatMap (mcell (fun x : ByteArray=>Value.string x) (fun x : Int=>Value.int .i64 x))⟩)::R,φ⟩ (fun W h=>(ok_front (t:=100155) (t':=1000) (ok_frontR (t:=100150) (t':=1000) (ok_frontR (t:=100151) (t':=1001) h rfl) rfl) rfl)) Tryz.call60 rfl rfl (c_pack_Packer_Byte (IntKind.u8.wrap (x337.fText.size : Int)) g13 (⟨x342.fb,x5.fplaces⟩ : Gpack_Packer) A344 c345 hc345 A10 c11 trivial _ hx348) (fun ⟨A349,c350⟩ hc350=>?_)
   refine g_sta _ (fun W h=>(ok_frontR (t:=2000) (t':=100150) (ok_frontR (t:=1001) (t':=100151) (ok_front (t:=1000) (t':=100155) h rfl) rfl) rfl))<|g_nil<|d_then<|c_region<|g_v rfl r_move<|g_v rfl (r_field (n:=1) Tryz.underlying55 rfl Tryz.sizeOf9 rfl rfl)<|g_v rfl (r_load (tag:=100090) rfl rfl rfl Tryz.isAgg9) ?_
   replace hm:=bnd hm
   obtain ⟨x352,hx353,hm⟩:=hm
   refine g_cn ⟨w0,M,(1000,g13,.cells #[.slice A349 x347.fb.length c350,mapV A10] 120 (0,0))::(100090,g341,.cells #[.string x337.fName,.string x337.fText] 55 (0,0))::(100010,g1,.cells #[.slice Ap0_0 p0.fRing.length cp0_0,.slice Ap0_1 p0.fHints.length cp0_1,.slice Ap0_2 p0.fAnchors.length cp0_2,.int .i64 p0.fEpoch,.slice Ap0_3 p0.fFlushes.length cp0_3] 30 (0,0))::H,(1000,⟨.slice A349 x347.fb.length c350,5,1,x347.fb.length,x347.fb.flatMap (fun x : Int=>[Value.int .u8 x])⟩)::(1001,⟨mapV A10,118,2,x5.fplaces.length,x5.fplaces.flatMap (mcell (fun x : ByteArray=>Value.string x) (fun x : Int=>Value.int .i64 x))⟩)::R,φ⟩ (fun W h=>(ok_front (t:=100155) (t':=1000) (ok_frontR (t:=100150) (t':=1000) (ok_frontR (t:=100151) (t':=1001) h rfl) rfl) rfl)) Tryz.call61 rfl rfl (c_pack_Packer_Raw x337.fText g13 (⟨x347.fb,x5.fplaces⟩ : Gpack_Packer) A349 c350 hc350 A10 c11 trivial _ hx353) (fun ⟨A354,c355⟩ hc355=>?_)
   refine g_sta _ (fun W h=>(ok_frontR (t:=2000) (t':=100150) (ok_frontR (t:=1001) (t':=100151) (ok_front (t:=1000) (t':=100155) h rfl) rfl) rfl))<|g_nil<|d_normal_block<|d_then ?_
   refine c_flat [(1,.pointer (some ⟨g1,0,none⟩)),(3,.pointer (some ⟨g13,0,none⟩)),(58,.slice Ap0_2 p0.fAnchors.length cp0_2),(59,.int .i64 (p0.fAnchors.length : Int)),(60,.int .i64 i309)] ⟨rfl,rfl,rfl,rfl,rfl,trivial⟩ (fun u=>?_)
   refine c_sta ⟨w0,M,(100155,g13,.cells #[.slice A354 x352.fb.length c355,mapV A10] 120 (0,0))::(100090,g341,.cells #[.string x337.fName,.string x337.fText] 55 (0,0))::(100010,g1,.cells #[.slice Ap0_0 p0.fRing.length cp0_0,.slice Ap0_1 p0.fHints.length cp0_1,.slice Ap0_2 p0.fAnchors.length cp0_2,.int .i64 p0.fEpoch,.slice Ap0_3 p0.fFlushes.length cp0_3] 30 (0,0))::H,(100150,⟨.slice A354 x352.fb.length c355,5,1,x352.fb.length,x352.fb.flatMap (fun x : Int=>[Value.int .u8 x])⟩)::(100151,⟨mapV A10,118,2,x5.fplaces.length,x5.fplaces.flatMap (mcell (fun x : ByteArray=>Value.string x) (fun x : Int=>Value.int .i64 x))⟩)::R,φ⟩ (fun _ h=>h)<|c_region<|g_v rfl (r_add rfl rfl rfl)<|g_v rfl r_move<|g_nil ?_
   obtain ⟨n357,hn357,hlp⟩:=nx_inl hm hnx6
   exact d_round (n357,x352.fb,w64 (i309 + 1),A354,c355) ⟨hlp,hc355⟩ hn357 ⟨rfl,rfl,rfl,rfl,rfl,trivial⟩ (fun W h=>(h.dropH (t:=100090) rfl).phi (fun W hφ=>hφ))
  replace hm:=ite_f hm (of_decide_eq_false h336)
  refine c_exit<|d_exit_then<|d_exit_then<|d_exit_block ?_
  replace hm:=nx_out (C:=(fun e : (List Int)=>m_conf_Snap_j3 p0 x5 e = some r)) hm hnx6 hr6
  exact d_round (l306,A307,c308) ⟨hm,hc308⟩ Nat.zero_lt_one ⟨rfl,rfl,trivial⟩ (fun W h=>h.phi (fun W hφ=>hφ))
 unfold m_conf_Snap_j3 at hm
 refine d_flat [(1,.pointer (some ⟨g1,0,none⟩)),(3,.pointer (some ⟨g13,0,none⟩))] ⟨rfl,rfl,trivial⟩ (fun u=>?_)
 refine d_sta ⟨w0,M,(100155,g13,.cells #[.slice A157 l156.length c158,mapV A10] 120 (0,0))::(100010,g1,.cells #[.slice Ap0_0 p0.fRing.length cp0_0,.slice Ap0_1 p0.fHints.length cp0_1,.slice Ap0_2 p0.fAnchors.length cp0_2,.int .i64 p0.fEpoch,.slice Ap0_3 p0.fFlushes.length cp0_3] 30 (0,0))::H,(100150,⟨.slice A157 l156.length c158,5,1,l156.length,l156.flatMap (fun x : Int=>[Value.int .u8 x])⟩)::(100151,⟨mapV A10,118,2,x5.fplaces.length,x5.fplaces.flatMap (mcell (fun x : ByteArray=>Value.string x) (fun x : Int=>Value.int .i64 x))⟩)::R,φ⟩ (fun _ h=>h)<|d_then<|c_seq<|c_region<|g_v rfl r_move<|g_v rfl (r_field (n:=3) Tryz.underlying30 rfl Tryz.sizeOf3 rfl rfl)<|g_v rfl (r_load (tag:=100010) rfl rfl rfl Tryz.isAgg3) ?_
 replace hm:=bnd hm
 obtain ⟨x159,hx160,hm⟩:=hm
 refine g_cn ⟨w0,M,(1000,g13,.cells #[.slice A157 l156.length c158,mapV A10] 120 (0,0))::(100010,g1,.cells #[.slice Ap0_0 p0.fRing.length cp0_0,.slice Ap0_1 p0.fHints.length cp0_1,.slice Ap0_2 p0.fAnchors.length cp0_2,.int .i64 p0.fEpoch,.slice Ap0_3 p0.fFlushes.length cp0_3] 30 (0,0))::H,(1000,⟨.slice A157 l156.length c158,5,1,l156.length,l156.flatMap (fun x : Int=>[Value.int .u8 x])⟩)::(1001,⟨mapV A10,118,2,x5.fplaces.length,x5.fplaces.flatMap (mcell (fun x : ByteArray=>Value.string x) (fun x : Int=>Value.int .i64 x))⟩)::R,φ⟩ (fun W h=>(ok_front (t:=100155) (t':=1000) (ok_frontR (t:=100150) (t':=1000) (ok_frontR (t:=100151) (t':=1001) h rfl) rfl) rfl)) Tryz.call62 rfl rfl (c_conf_eight p0.fEpoch g13 (⟨l156,x5.fplaces⟩ : Gpack_Packer) A157 c158 hc158 A10 c11 trivial _ hx160) (fun ⟨A161,c162⟩ hc162=>?_)
 refine g_sta _ (fun W h=>(ok_frontR (t:=2000) (t':=100150) (ok_frontR (t:=1001) (t':=100151) (ok_front (t:=1000) (t':=100155) h rfl) rfl) rfl))<|g_nil<|d_then<|c_seq<|c_region<|g_v rfl r_move<|g_v rfl (r_field (n:=4) Tryz.underlying30 rfl Tryz.sizeOf28 rfl rfl)<|g_v rfl (r_load (tag:=100010) rfl rfl rfl Tryz.isAgg28)<|g_v rfl (r_lenL Tryz.underlying28 rfl)<|g_v rfl (r_conv Tryz.underlying3 Tryz.underlying5 rfl rfl) ?_
 replace hm:=bnd hm
 obtain ⟨x164,hx165,hm⟩:=hm
 refine g_cn ⟨w0,M,(1000,g13,.cells #[.slice A161 x159.fb.length c162,mapV A10] 120 (0,0))::(100010,g1,.cells #[.slice Ap0_0 p0.fRing.length cp0_0,.slice Ap0_1 p0.fHints.length cp0_1,.slice Ap0_2 p0.fAnchors.length cp0_2,.int .i64 p0.fEpoch,.slice Ap0_3 p0.fFlushes.length cp0_3] 30 (0,0))::H,(1000,⟨.slice A161 x159.fb.length c162,5,1,x159.fb.length,x159.fb.flatMap (fun x : Int=>[Value.int .u8 x])⟩)::(1001,⟨mapV A10,118,2,x5.fplaces.length,x5.fplaces.flatMap (mcell (fun x : ByteArray=>Value.string x) (fun x : Int=>Value.int .i64 x))⟩)::R,φ⟩ (fun W h=>(ok_front (t:=100155) (t':=1000) (ok_frontR (t:=100150) (t':=1000) (ok_frontR (t:=100151) (t':=1001) h rfl) rfl) rfl)) Tryz.call60 rfl rfl (c_pack_Packer_Byte (IntKind.u8.wrap (p0.fFlushes.length : Int)) g13 (⟨x159.fb,x5.fplaces⟩ : Gpack_Packer) A161 c162 hc162 A10 c11 trivial _ hx165) (fun ⟨A166,c167⟩ hc167=>?_)
 refine g_sta _ (fun W h=>(ok_frontR (t:=2000) (t':=100150) (ok_frontR (t:=1001) (t':=100151) (ok_front (t:=1000) (t':=100155) h rfl) rfl) rfl))<|g_nil<|d_then ?_
 refine c_flat [(1,.pointer (some ⟨g1,0,none⟩)),(3,.pointer (some ⟨g13,0,none⟩))] ⟨rfl,rfl,trivial⟩ (fun u=>?_)
 refine c_sta ⟨w0,M,(100155,g13,.cells #[.slice A166 x164.fb.length c167,mapV A10] 120 (0,0))::(100010,g1,.cells #[.slice Ap0_0 p0.fRing.length cp0_0,.slice Ap0_1 p0.fHints.length cp0_1,.slice Ap0_2 p0.fAnchors.length cp0_2,.int .i64 p0.fEpoch,.slice Ap0_3 p0.fFlushes.length cp0_3] 30 (0,0))::H,(100150,⟨.slice A166 x164.fb.length c167,5,1,x164.fb.length,x164.fb.flatMap (fun x : Int=>[Value.int .u8 x])⟩)::(100151,⟨mapV A10,118,2,x5.fplaces.length,x5.fplaces.flatMap (mcell (fun x : ByteArray=>Value.string x) (fun x : Int=>Value.int .i64 x))⟩)::R,φ⟩ (fun _ h=>h)<|c_seq<|c_seq<|c_region<|g_v rfl (r_field (n:=4) Tryz.underlying30 rfl Tryz.sizeOf28 rfl rfl)<|g_v rfl (r_load (tag:=100010) rfl rfl rfl Tryz.isAgg28)<|g_v rfl (r_lenL Tryz.underlying28 rfl)<|g_v rfl r_move<|g_nil<|d_then ?_
 refine c_cut (ι:=(List Int)×Option Addr×Nat) [3] (fun ⟨l214,A215,c216⟩=>[]) (fun ⟨l214,A215,c216⟩=>⟨w0,M,(100155,g13,.cells #[.slice A215 l214.length c216,mapV A10] 120 (0,0))::H,(100150,⟨.slice A215 l214.length c216,5,1,l214.length,l214.flatMap (fun x : Int=>[Value.int .u8 x])⟩)::(100151,⟨mapV A10,118,2,x5.fplaces.length,x5.fplaces.flatMap (mcell (fun x : ByteArray=>Value.string x) (fun x : Int=>Value.int .i64 x))⟩)::R,φ⟩) (fun ⟨l214,A215,c216⟩=>m_conf_Snap_j4 x5 l214 = some r∧l214.length ≤ c216) ?_ (fun ⟨l214,A215,c216⟩ u ⟨hm,hc216⟩=>?_)
 ·
  refine c_block ?_
  replace hm:=bnd hm
  obtain ⟨out5,hl5,hr5⟩:=hm
  obtain ⟨n263',hl5⟩:=loop_lp hl5
  refine c_loopU (ι:=Nat×(List Int)×Int×Option Addr×Nat) [3,90,91,92] (fun ⟨n263,l239,i242,A240,c241⟩=>[(92,.int .i64 i242)]) (fun ⟨n263,l239,i242,A240,c241⟩=>⟨w0,M,(100155,g13,.cells #[.slice A240 l239.length c241,mapV A10] 120 (0,0))::H,(100150,⟨.slice A240 l239.length c241,5,1,l239.length,l239.flatMap (fun x : Int=>[Value.int .u8 x])⟩)::(100151,⟨mapV A10,118,2,x5.fplaces.length,x5.fplaces.flatMap (mcell (fun x : ByteArray=>Value.string x) (fun x : Int=>Value.int .i64 x))⟩)::R,φ⟩) (fun ⟨n263,l239,i242,A240,c241⟩=>Lp (fun s=>m_conf_Snap_s5 p0 x5 s.1 s.2) n263 (l239,i242) out5∧l239.length ≤ c241) (fun ⟨n263,l239,i242,A240,c241⟩=>n263) (n263',x164.fb,0,A166,c167) ⟨hl5,hc167⟩ ⟨rfl,rfl,rfl,rfl,trivial⟩ (fun W h=>(h.dropH (t:=100010) rfl).phi (fun W hφ=>hφ)) (fun ⟨n263,l239,i242,A240,c241⟩ u ⟨hlp,hc241⟩=>?_)
  obtain ⟨o5,hm,hnx5⟩:=lp_step hlp
  clear hlp
  replace hm : m_conf_Snap_s5 p0 x5 l239 i242 = some o5:=hm
  unfold m_conf_Snap_s5 at hm
  refine c_flat [(3,.pointer (some ⟨g13,0,none⟩)),(90,.slice Ap0_3 p0.fFlushes.length cp0_3),(91,.int .i64 (p0.fFlushes.length : Int)),(92,.int .i64 i242)] ⟨rfl,rfl,rfl,rfl,trivial⟩ (fun u=>?_)
  refine c_sta ⟨w0,M,(100155,g13,.cells #[.slice A240 l239.length c241,mapV A10] 120 (0,0))::H,(100150,⟨.slice A240 l239.length c241,5,1,l239.length,l239.flatMap (fun x : Int=>[Value.int .u8 x])⟩)::(100151,⟨mapV A10,118,2,x5.fplaces.length,x5.fplaces.flatMap (mcell (fun x : ByteArray=>Value.string x) (fun x : Int=>Value.int .i64 x))⟩)::R,φ⟩ (fun _ h=>h)<|c_seq<|c_region<|g_v rfl (r_lss rfl rfl)<|g_nil<|d_then<|c_seq ?_
  refine c_cond rfl (fun h264=>?_) (fun h264=>?_)
  ·
   replace hm:=ite_t hm (of_decide_eq_true h264)
   refine c_skip<|d_then<|c_seq<|c_block<|c_seq<|c_region ?_
   replace hm:=bnd hm
   obtain ⟨x265,hx265,hm⟩:=hm
   refine g_know _ (fun W hS=>cl_at (p:=φ) (sz:=2) (fun _=>rfl) (by decide) hS.now fp0_3 hx265) ?_
   rintro ⟨ad266,hA268,f267⟩
   refine g_v rfl (r_ix Tryz.underlying28 Tryz.sizeOf48 rfl hA268 rfl hx265)<|g_v rfl (r_ldA rfl Tryz.isAgg48 Tryz.sizeOf48 (fun W hS=>(f267 W hS.now).take 2) rfl) ?_
   refine g_e rfl (e_alloc 100110 Tryz.zeroValue48) (fun g269 _=>?_)
   refine g_storeL (tag:=100110) rfl rfl rfl rfl Tryz.sizeOf48 rfl rfl<|g_nil<|d_then<|c_seq<|c_region<|g_v rfl r_move<|g_v rfl (r_field (n:=0) Tryz.underlying48 rfl Tryz.sizeOf3 rfl rfl)<|g_v rfl (r_load (tag:=100110) rfl rfl rfl Tryz.isAgg3) ?_
   replace hm:=bnd hm
   obtain ⟨x270,hx271,hm⟩:=hm
   refine g_cn ⟨w0,M,(1000,g13,.cells #[.slice A240 l239.length c241,mapV A10] 120 (0,0))::(100110,g269,.cells #[.int .i64 x265.fEpoch,.string x265.fZone] 48 (0,0))::H,(1000,⟨.slice A240 l239.length c241,5,1,l239.length,l239.flatMap (fun x : Int=>[Value.int .u8 x])⟩)::(1001,⟨mapV A10,118,2,x5.fplaces.length,x5.fplaces.flatMap (mcell (fun x : ByteArray=>Value.string x) (fun x : Int=>Value.int .i64 x))⟩)::R,φ⟩ (fun W h=>(ok_front (t:=100155) (t':=1000) (ok_frontR (t:=100150) (t':=1000) (ok_frontR (t:=100151) (t':=1001) h rfl) rfl) rfl)) Tryz.call62 rfl rfl (c_conf_eight x265.fEpoch g13 (⟨l239,x5.fplaces⟩ : Gpack_Packer) A240 c241 hc241 A10 c11 trivial _ hx271) (fun ⟨A272,c273⟩ hc273=>?_)
   refine g_sta _ (fun W h=>(ok_frontR (t:=2000) (t':=100150) (ok_frontR (t:=1001) (t':=100151) (ok_front (t:=1000) (t':=100155) h rfl) rfl) rfl))<|g_nil<|d_then ?_
   refine c_flat [(3,.pointer (some ⟨g13,0,none⟩)),(11,.pointer (some ⟨g269,0,none⟩)),(90,.slice Ap0_3 p0.fFlushes.length cp0_3),(91,.int .i64 (p0.fFlushes.length : Int)),(92,.int .i64 i242)] ⟨rfl,rfl,rfl,rfl,rfl,trivial⟩ (fun u=>?_)
   refine c_sta ⟨w0,M,(100155,g13,.cells #[.slice A272 x270.fb.length c273,mapV A10] 120 (0,0))::(100110,g269,.cells #[.int .i64 x265.fEpoch,.string x265.fZone] 48 (0,0))::H,(100150,⟨.slice A272 x270.fb.length c273,5,1,x270.fb.length,x270.fb.flatMap (fun x : Int=>[Value.int .u8 x])⟩)::(100151,⟨mapV A10,118,2,x5.fplaces.length,x5.fplaces.flatMap (mcell (fun x : ByteArray=>Value.string x) (fun x : Int=>Value.int .i64 x))⟩)::R,φ⟩ (fun _ h=>h)<|c_region<|g_v rfl r_move<|g_v rfl (r_field (n:=1) Tryz.underlying48 rfl Tryz.sizeOf9 rfl rfl)<|g_v rfl (r_load (tag:=100110) rfl rfl rfl Tryz.isAgg9) ?_
   replace hm:=bnd hm
   obtain ⟨x275,hx276,hm⟩:=hm
   refine g_cn ⟨w0,M,(1000,g13,.cells #[.slice A272 x270.fb.length c273,mapV A10] 120 (0,0))::(100110,g269,.cells #[.int .i64 x265.fEpoch,.string x265.fZone] 48 (0,0))::H,(1000,⟨.slice A272 x270.fb.length c273,5,1,x270.fb.length,x270.fb.flatMap (fun x : Int=>[Value.int .u8 x])⟩)::(1001,⟨mapV A10,118,2,x5.fplaces.length,x5.fplaces.flatMap (mcell (fun x : ByteArray=>Value.string x) (fun x : Int=>Value.int .i64 x))⟩)::R,φ⟩ (fun W h=>(ok_front (t:=100155) (t':=1000) (ok_frontR (t:=100150) (t':=1000) (ok_frontR (t:=100151) (t':=1001) h rfl) rfl) rfl)) Tryz.call61 rfl rfl (c_pack_Packer_Raw x265.fZone g13 (⟨x270.fb,x5.fplaces⟩ : Gpack_Packer) A272 c273 hc273 A10 c11 trivial _ hx276) (fun ⟨A277,c278⟩ hc278=>?_)
   refine g_sta _ (fun W h=>(ok_frontR (t:=2000) (t':=100150) (ok_frontR (t:=1001) (t':=100151) (ok_front (t:=1000) (t':=100155) h rfl) rfl) rfl))<|g_nil<|d_normal_block<|d_then<|c_region<|g_v rfl (r_add rfl rfl rfl)<|g_v rfl r_move<|g_nil ?_
   obtain ⟨n280,hn280,hlp⟩:=nx_inl hm hnx5
   exact d_round (n280,x275.fb,w64 (i242 + 1),A277,c278) ⟨hlp,hc278⟩ hn280 ⟨rfl,rfl,rfl,rfl,trivial⟩ (fun W h=>(h.dropH (t:=100110) rfl).phi (fun W hφ=>hφ))
  replace hm:=ite_f hm (of_decide_eq_false h264)
  refine c_exit<|d_exit_then<|d_exit_then<|d_exit_block ?_
  replace hm:=nx_out (C:=(fun e : (List Int)=>m_conf_Snap_j4 x5 e = some r)) hm hnx5 hr5
  exact d_round (l239,A240,c241) ⟨hm,hc241⟩ Nat.zero_lt_one ⟨rfl,trivial⟩ (fun W h=>h.phi (fun W hφ=>hφ))
 unfold m_conf_Snap_j4 at hm
 refine d_flat [(3,.pointer (some ⟨g13,0,none⟩))] ⟨rfl,trivial⟩ (fun u=>?_)
 refine d_sta ⟨w0,M,(100155,g13,.cells #[.slice A215 l214.length c216,mapV A10] 120 (0,0))::H,(100150,⟨.slice A215 l214.length c216,5,1,l214.length,l214.flatMap (fun x : Int=>[Value.int .u8 x])⟩)::(100151,⟨mapV A10,118,2,x5.fplaces.length,x5.fplaces.flatMap (mcell (fun x : ByteArray=>Value.string x) (fun x : Int=>Value.int .i64 x))⟩)::R,φ⟩ (fun _ h=>h)<|d_then<|c_seq<|c_region<|g_v rfl r_move ?_
 replace hm:=bnd hm
 obtain ⟨x217,hx218,hm⟩:=hm
 refine g_cn ⟨w0,M,(1000,g13,.cells #[.slice A215 l214.length c216,mapV A10] 120 (0,0))::H,(1000,⟨.slice A215 l214.length c216,5,1,l214.length,l214.flatMap (fun x : Int=>[Value.int .u8 x])⟩)::(1001,⟨mapV A10,118,2,x5.fplaces.length,x5.fplaces.flatMap (mcell (fun x : ByteArray=>Value.string x) (fun x : Int=>Value.int .i64 x))⟩)::R,φ⟩ (fun W h=>(ok_front (t:=100155) (t':=1000) (ok_frontR (t:=100150) (t':=1000) (ok_frontR (t:=100151) (t':=1001) h rfl) rfl) rfl)) Tryz.call63 rfl rfl (c_pack_Packer_Bytes g13 (⟨l214,x5.fplaces⟩ : Gpack_Packer) A215 c216 hc216 A10 c11 trivial _ hx218) (fun _ _=>?_)
 refine g_sta _ (fun W h=>(ok_frontR (t:=1000) (t':=100150) (ok_frontR (t:=1001) (t':=100151) (ok_front (t:=1000) (t':=100155) h rfl) rfl) rfl))<|g_v rfl r_assign<|g_nil<|d_then<|c_ret ?_
 cases hm
 exact d_retC () Tryz.results15 (res_tmp (res_nil rfl)) trivial (fun W h=>ok_pre (H1:=[_]) (R1:=[_,_]) h (fun W hφ=>hφ)) (.inr rfl)
noncomputable def m_law13_ConfSnaps (p0 : GConf) (p1 : ByteArray) : Option Bool:=
  (m_law13_awake).bind fun x2=>
  (m_law13_tame p0).bind fun x4=>
  (m_law13_short p1 2000).bind fun x19=>
  (m_conf_Load x19).bind fun (z37 : GConf×Int)=>
  (m_ref13_Load x19).bind fun (z55 : GConf×Int)=>
  (m_ref13_Same z37.1 z55.1).bind fun x57=>
  if x2 = true then
    (m_conf_Right x4).bind fun x84=>
    (m_ref13_Right x4).bind fun x86=>
    if (x84 == x86) = true then
      (m_conf_Snap x4).bind fun x89=>
      (m_ref13_Snap x4).bind fun x91=>
      if x89 = x91 then
        if x57 = true then
          some (decide (z37.2 = z55.2))
        else
          some false
      else
        some false
    else
      some false
  else
    some false
theorem c_law13_ConfSnaps {w0 : World} {M : Nat→Prop} {H : List (Nat×Nat×Obj)} {R : List (Nat×Row)} {φ : World→Prop} (p0 : GConf) (Ap0_0 : Option Addr) (cp0_0 : Nat) (hcp0_0 : p0.fRing.length ≤ cp0_0) (fp0_0 : ∀ W,(Sta.mk w0 M H R φ).ok W→Cl W Ap0_0 (p0.fRing.flatMap (fun x : Int=>[Value.int .i64 x]))) (Ap0_1 : Option Addr) (cp0_1 : Nat) (hcp0_1 : p0.fHints.length ≤ cp0_1) (fp0_1 : ∀ W,(Sta.mk w0 M H R φ).ok W→Cl W Ap0_1 (p0.fHints.flatMap (fun x : ByteArray=>[Value.string x]))) (Ap0_2 : Option Addr) (cp0_2 : Nat) (hcp0_2 : p0.fAnchors.length ≤ cp0_2) (fp0_2 : ∀ W,(Sta.mk w0 M H R φ).ok W→Cl W Ap0_2 (p0.fAnchors.flatMap GAnchor.enc)) (Ap0_3 : Option Addr) (cp0_3 : Nat) (hcp0_3 : p0.fFlushes.length ≤ cp0_3) (fp0_3 : ∀ W,(Sta.mk w0 M H R φ).ok W→Cl W Ap0_3 (p0.fFlushes.flatMap GFlush.enc)) (p1 : ByteArray) (r : Bool) (hm : m_law13_ConfSnaps p0 p1 = some r) :
    Cn Tryz.prog 4 #[.agg #[.slice Ap0_0 p0.fRing.length cp0_0,.slice Ap0_1 p0.fHints.length cp0_1,.slice Ap0_2 p0.fAnchors.length cp0_2,.int .i64 p0.fEpoch,.slice Ap0_3 p0.fFlushes.length cp0_3],.string p1] ⟨w0,M,H,R,φ⟩ (fun x : Unit=>.bool r) (fun x=>True) (fun x=>⟨w0,M,H,R,φ⟩):=by
 unfold m_law13_ConfSnaps at hm
 refine cn_intro (fn:=Tryz.f4) (N:=52) Tryz.func4 rfl Tryz.ntmps4 rfl<|c_seq<|c_region ?_
 refine g_e rfl (e_box 100020 rfl) (fun g1 _=>?_)
 refine g_v rfl r_assign<|g_nil<|d_then<|c_seq<|c_region ?_
 replace hm:=bnd hm
 obtain ⟨x2,hx3,hm⟩:=hm
 refine g_cn ⟨w0,M,_,_,φ⟩ (fun _ h=>h) Tryz.call5 rfl rfl (c_law13_awake  _ hx3) (fun _ _=>?_)
 refine g_v rfl r_assign<|g_nil<|d_then<|c_seq<|c_region<|g_v rfl (r_loadA (tag:=100020) rfl rfl Tryz.isAgg30 Tryz.sizeOf30 rfl rfl) ?_
 replace hm:=bnd hm
 obtain ⟨x4,hx5,hm⟩:=hm
 refine g_cn ⟨w0,M,_,_,φ⟩ (fun _ h=>h) Tryz.call18 rfl rfl (c_law13_tame p0 Ap0_0 cp0_0 hcp0_0 (fun W hS=>fp0_0 W (ok_pre (H1:=[_]) (R1:=[]) hS (fun W h=>h))) Ap0_1 cp0_1 hcp0_1 (fun W hS=>fp0_1 W (ok_pre (H1:=[_]) (R1:=[]) hS (fun W h=>h))) Ap0_2 cp0_2 hcp0_2 (fun W hS=>fp0_2 W (ok_pre (H1:=[_]) (R1:=[]) hS (fun W h=>h))) Ap0_3 cp0_3 hcp0_3 (fun W hS=>fp0_3 W (ok_pre (H1:=[_]) (R1:=[]) hS (fun W h=>h))) _ hx5) (fun ⟨A6,c7,A9,c10,A12,c13,A15,c16⟩ ⟨hc7,hc10,hc13,hc16⟩=>?_)
 refine g_abs (fun φ18 q18'=>?_)
 have q18 : ∀ W,φ18 W→φ W:=fun W h=>(q18' W h).1
 have f8:=fun (W : World) (h : φ18 W)=>(q18' W h).2.1
 have f11:=fun (W : World) (h : φ18 W)=>(q18' W h).2.2.1
 have f14:=fun (W : World) (h : φ18 W)=>(q18' W h).2.2.2.1
 have f17:=fun (W : World) (h : φ18 W)=>(q18' W h).2.2.2.2
 refine g_storeL (tag:=100020) rfl rfl rfl rfl Tryz.sizeOf30 rfl rfl<|g_nil<|d_then<|c_seq<|c_region<|g_v rfl r_move ?_
 replace hm:=bnd hm
 obtain ⟨x19,hx20,hm⟩:=hm
 refine g_cn ⟨w0,M,_,_,φ18⟩ (fun _ h=>h) Tryz.call6 rfl rfl (c_law13_short p1 2000 _ hx20) (fun _ _=>?_)
 refine g_v rfl r_assign<|g_nil<|d_then ?_
 refine c_flat [(1,.string x19),(2,.pointer (some ⟨g1,0,none⟩)),(5,.bool x2)] ⟨rfl,rfl,rfl,trivial⟩ (fun u=>?_)
 refine c_sta ⟨w0,M,(100020,g1,.cells #[.slice A6 x4.fRing.length c7,.slice A9 x4.fHints.length c10,.slice A12 x4.fAnchors.length c13,.int .i64 x4.fEpoch,.slice A15 x4.fFlushes.length c16] 30 (0,0))::H,R,φ18⟩ (fun _ h=>h)<|c_seq<|c_region<|g_v rfl r_move ?_
 replace hm:=bnd hm
 obtain ⟨⟨x21,x22⟩,hx23,hm⟩:=hm
 refine g_cn ⟨w0,M,_,_,φ18⟩ (fun _ h=>h) Tryz.call16 rfl rfl (c_conf_Load x19 _ hx23) (fun ⟨A24,c25,A27,c28,A30,c31,A33,c34⟩ ⟨hc25,hc28,hc31,hc34⟩=>?_)
 refine g_abs (fun φ36 q36'=>?_)
 have q36 : ∀ W,φ36 W→φ18 W:=fun W h=>(q36' W h).1
 have f26:=fun (W : World) (h : φ36 W)=>(q36' W h).2.1
 have f29:=fun (W : World) (h : φ36 W)=>(q36' W h).2.2.1
 have f32:=fun (W : World) (h : φ36 W)=>(q36' W h).2.2.2.1
 have f35:=fun (W : World) (h : φ36 W)=>(q36' W h).2.2.2.2
 refine g_v rfl r_move<|g_v rfl (r_extract rfl rfl)<|g_v rfl (r_extract rfl rfl) ?_
 refine g_e rfl (e_alloc 100060 Tryz.zeroValue30) (fun g38 _=>?_)
 refine g_storeL (tag:=100060) rfl rfl rfl rfl Tryz.sizeOf30 rfl rfl<|g_v rfl r_assign<|g_nil<|d_then<|c_seq<|c_region<|g_v rfl r_move ?_
 replace hm:=bnd hm
 obtain ⟨⟨x39,x40⟩,hx41,hm⟩:=hm
 refine g_cn ⟨w0,M,_,_,φ36⟩ (fun _ h=>h) Tryz.call19 rfl rfl (c_ref13_Load x19 _ hx41) (fun ⟨A42,c43,A45,c46,A48,c49,A51,c52⟩ ⟨hc43,hc46,hc49,hc52⟩=>?_)
 refine g_abs (fun φ54 q54'=>?_)
 have q54 : ∀ W,φ54 W→φ36 W:=fun W h=>(q54' W h).1
 have f44:=fun (W : World) (h : φ54 W)=>(q54' W h).2.1
 have f47:=fun (W : World) (h : φ54 W)=>(q54' W h).2.2.1
 have f50:=fun (W : World) (h : φ54 W)=>(q54' W h).2.2.2.1
 have f53:=fun (W : World) (h : φ54 W)=>(q54' W h).2.2.2.2
 refine g_v rfl r_move<|g_v rfl (r_extract rfl rfl)<|g_v rfl (r_extract rfl rfl) ?_
 refine g_e rfl (e_alloc 100080 Tryz.zeroValue30) (fun g56 _=>?_)
 refine g_storeL (tag:=100080) rfl rfl rfl rfl Tryz.sizeOf30 rfl rfl<|g_v rfl r_assign<|g_nil<|d_then ?_
 refine c_flat [(2,.pointer (some ⟨g1,0,none⟩)),(5,.bool x2),(6,.pointer (some ⟨g38,0,none⟩)),(7,.int .i64 x22),(8,.pointer (some ⟨g56,0,none⟩)),(9,.int .i64 x40)] ⟨rfl,rfl,rfl,rfl,rfl,rfl,trivial⟩ (fun u=>?_)
 refine c_sta ⟨w0,M,(100080,g56,.cells #[.slice A42 x39.fRing.length c43,.slice A45 x39.fHints.length c46,.slice A48 x39.fAnchors.length c49,.int .i64 x39.fEpoch,.slice A51 x39.fFlushes.length c52] 30 (0,0))::(100060,g38,.cells #[.slice A24 x21.fRing.length c25,.slice A27 x21.fHints.length c28,.slice A30 x21.fAnchors.length c31,.int .i64 x21.fEpoch,.slice A33 x21.fFlushes.length c34] 30 (0,0))::(100020,g1,.cells #[.slice A6 x4.fRing.length c7,.slice A9 x4.fHints.length c10,.slice A12 x4.fAnchors.length c13,.int .i64 x4.fEpoch,.slice A15 x4.fFlushes.length c16] 30 (0,0))::H,R,φ54⟩ (fun _ h=>h)<|c_seq<|c_region<|g_v rfl (r_loadA (tag:=100060) rfl rfl Tryz.isAgg30 Tryz.sizeOf30 rfl rfl)<|g_v rfl (r_loadA (tag:=100080) rfl rfl Tryz.isAgg30 Tryz.sizeOf30 rfl rfl) ?_
 replace hm:=bnd hm
 obtain ⟨x57,hx58,hm⟩:=hm
 refine g_cn ⟨w0,M,_,_,φ54⟩ (fun _ h=>h) Tryz.call12 rfl rfl (c_ref13_Same x21 A24 c25 hc25 (fun W hS=>f26 W (q54 _ hS.now)) A27 c28 hc28 (fun W hS=>f29 W (q54 _ hS.now)) A30 c31 hc31 (fun W hS=>f32 W (q54 _ hS.now)) A33 c34 hc34 (fun W hS=>f35 W (q54 _ hS.now)) x39 A42 c43 hc43 (fun W hS=>f44 W hS.now) A45 c46 hc46 (fun W hS=>f47 W hS.now) A48 c49 hc49 (fun W hS=>f50 W hS.now) A51 c52 hc52 (fun W hS=>f53 W hS.now) _ hx58) (fun _ _=>?_)
 refine g_v rfl r_assign<|g_nil<|d_then<|c_seq<|ga_start (n:=24) ⟨w0,M,(100080,g56,.cells #[.slice A42 x39.fRing.length c43,.slice A45 x39.fHints.length c46,.slice A48 x39.fAnchors.length c49,.int .i64 x39.fEpoch,.slice A51 x39.fFlushes.length c52] 30 (0,0))::(100060,g38,.cells #[.slice A24 x21.fRing.length c25,.slice A27 x21.fHints.length c28,.slice A30 x21.fAnchors.length c31,.int .i64 x21.fEpoch,.slice A33 x21.fFlushes.length c34] 30 (0,0))::(100020,g1,.cells #[.slice A6 x4.fRing.length c7,.slice A9 x4.fHints.length c10,.slice A12 x4.fAnchors.length c13,.int .i64 x4.fEpoch,.slice A15 x4.fFlushes.length c16] 30 (0,0))::H,R,φ54⟩ [] #[false,false,false,false,false,false,false,false,false,false,false,false,false,false,false,false,false,false,false,false,false,false,false,false] (fun W h=>h.phi (fun W hφ=>hφ)) mixed rfl rfl<|ga_r (i:=0) (bz 24 1) rfl (by kernel_rfl) (by decide) rfl (r_move)<|ga_r (i:=1) (bz 24 3) rfl (by kernel_rfl) (by decide) rfl (r_move) ?_
 refine ga_if (t:=30) rfl (fun h83=>?_) (fun h83=>?_)
 ·
  replace hm:=ite_t hm h83
  refine ga_do (i:=2) (bz 24 7) rfl (by kernel_rfl) (fun _ _ _ _ h=>h) rfl rfl rfl rfl rfl h83 (r_loadA (tag:=100020) rfl rfl Tryz.isAgg30 Tryz.sizeOf30 rfl rfl)<|ga_do (i:=4) (bz 24 23) rfl (by kernel_rfl) (fun _ _ _ _ h=>h) rfl rfl rfl rfl rfl h83 (r_loadA (tag:=100020) rfl rfl Tryz.isAgg30 Tryz.sizeOf30 rfl rfl) ?_
  replace hm:=bnd hm
  obtain ⟨x84,hx85,hm⟩:=hm
  refine ga_cnG (first:=#[]) (i:=3) (bz 24 31) rfl (by kernel_rfl) (by decide) rfl rfl rfl rfl h83  ⟨w0,M,_,_,φ54⟩ (fun _ h=>h) Tryz.call13 rfl rfl rfl (c_conf_Right x4 A6 c7 hc7 (fun W h=>f8 W (q36 _ (q54 _ h))) A9 c10 hc10 (fun W h=>f11 W (q36 _ (q54 _ h))) A12 c13 hc13 (fun W h=>f14 W (q36 _ (q54 _ h))) A15 c16 hc16 (fun W h=>f17 W (q36 _ (q54 _ h))) _ hx85) (fun _ W _ h=>h.phi (fun W hφ=>hφ)) (fun _ _=>?_)
  replace hm:=bnd hm
  obtain ⟨x86,hx87,hm⟩:=hm
  refine ga_cnG (first:=#[]) (i:=5) (bz 24 63) rfl (by kernel_rfl) (by decide) rfl rfl rfl rfl h83  ⟨w0,M,_,_,φ54⟩ (fun _ h=>h) Tryz.call20 rfl rfl rfl (c_ref13_Right x4 A6 c7 hc7 (fun W hS=>f8 W (q36 _ (q54 _ hS.now))) A9 c10 hc10 (fun W hS=>f11 W (q36 _ (q54 _ hS.now))) A12 c13 hc13 (fun W hS=>f14 W (q36 _ (q54 _ hS.now))) A15 c16 hc16 (fun W hS=>f17 W (q36 _ (q54 _ hS.now))) _ hx87) (fun _ W _ h=>h.phi (fun W hφ=>hφ)) (fun _ _=>?_)
  refine ga_rG (i:=6) (bz 24 127) rfl (by kernel_rfl) (by decide) rfl rfl rfl rfl rfl h83 (r_eqlBo Tryz.underlying4 rfl rfl)<|ga_r (i:=7) (bz 24 255) rfl (by kernel_rfl) (by decide) rfl (r_pick1 rfl h83)<|ga_r (i:=8) (bz 24 511) rfl (by kernel_rfl) (by decide) rfl (r_move) ?_
  refine ga_if (t:=37) rfl (fun h88=>?_) (fun h88=>?_)
  ·
   replace hm:=ite_t hm h88
   refine ga_do (i:=9) (bz 24 1023) rfl (by kernel_rfl) (fun _ _ _ _ h=>h) rfl rfl rfl rfl rfl h88 (r_loadA (tag:=100020) rfl rfl Tryz.isAgg30 Tryz.sizeOf30 rfl rfl)<|ga_do (i:=11) (bz 24 3071) rfl (by kernel_rfl) (fun _ _ _ _ h=>h) rfl rfl rfl rfl rfl h88 (r_loadA (tag:=100020) rfl rfl Tryz.isAgg30 Tryz.sizeOf30 rfl rfl) ?_
   replace hm:=bnd hm
   obtain ⟨x89,hx90,hm⟩:=hm
   refine ga_cnG (first:=#[]) (i:=10) (bz 24 4095) rfl (by kernel_rfl) (by decide) rfl rfl rfl rfl h88  ⟨w0,M,_,_,φ54⟩ (fun _ h=>h) Tryz.call15 rfl rfl rfl (c_conf_Snap x4 A6 c7 hc7 (fun W h=>f8 W (q36 _ (q54 _ h))) A9 c10 hc10 (fun W h=>f11 W (q36 _ (q54 _ h))) A12 c13 hc13 (fun W h=>f14 W (q36 _ (q54 _ h))) A15 c16 hc16 (fun W h=>f17 W (q36 _ (q54 _ h))) _ hx90) (fun _ W _ h=>h.phi (fun W hφ=>hφ)) (fun _ _=>?_)
   replace hm:=bnd hm
   obtain ⟨x91,hx92,hm⟩:=hm
   refine ga_cnG (first:=#[]) (i:=12) (bz 24 8191) rfl (by kernel_rfl) (by decide) rfl rfl rfl rfl h88  ⟨w0,M,_,_,φ54⟩ (fun _ h=>h) Tryz.call17 rfl rfl rfl (c_ref13_Snap x4 A6 c7 hc7 (fun W hS=>f8 W (q36 _ (q54 _ hS.now))) A9 c10 hc10 (fun W hS=>f11 W (q36 _ (q54 _ hS.now))) A12 c13 hc13 (fun W hS=>f14 W (q36 _ (q54 _ hS.now))) A15 c16 hc16 (fun W hS=>f17 W (q36 _ (q54 _ hS.now))) _ hx92) (fun _ W _ h=>h.phi (fun W hφ=>hφ)) (fun _ _=>?_)
   refine ga_rG (i:=13) (bz 24 16383) rfl (by kernel_rfl) (by decide) rfl rfl rfl rfl rfl h88 (r_eqlT rfl rfl)<|ga_r (i:=14) (bz 24 32767) rfl (by kernel_rfl) (by decide) rfl (r_pick1 rfl h88)<|ga_r (i:=15) (bz 24 65535) rfl (by kernel_rfl) (by decide) rfl (r_move) ?_
   refine ga_if (t:=44) rfl (fun h93=>?_) (fun h93=>?_)
   ·
    replace hm:=ite_t hm (of_decide_eq_true h93)
    refine ga_rG (i:=16) (bz 24 131071) rfl (by kernel_rfl) (by decide) rfl rfl rfl rfl rfl h93 (r_move)<|ga_r (i:=17) (bz 24 262143) rfl (by kernel_rfl) (by decide) rfl (r_pick1 rfl h93)<|ga_r (i:=18) (bz 24 524287) rfl (by kernel_rfl) (by decide) rfl (r_move) ?_
    refine ga_if (t:=47) rfl (fun h94=>?_) (fun h94=>?_)
    ·
     replace hm:=ite_t hm h94
     refine ga_do (i:=19) (bz 24 1048575) rfl (by kernel_rfl) (fun _ _ _ _ h=>h) rfl rfl rfl rfl rfl h94 (r_move)<|ga_rG (i:=20) (bz 24 2097151) rfl (by kernel_rfl) (by decide) rfl rfl rfl rfl rfl h94 (r_move)<|ga_rG (i:=21) (bz 24 4194303) rfl (by kernel_rfl) (by decide) rfl rfl rfl rfl rfl h94 (r_eql rfl rfl)<|ga_r (i:=22) (bz 24 8388607) rfl (by kernel_rfl) (by decide) rfl (r_pick1 rfl h94)<|ga_r (i:=23) (bz 24 16777215) rfl (by kernel_rfl) (by decide) rfl (r_assign)<|ga_done (by kernel_rfl)<|d_then ?_
     refine c_flat [(4,.bool (decide (x22 = x40)))] ⟨rfl,trivial⟩ (fun u=>?_)
     refine c_ret ?_
     cases hm
     exact d_retC () Tryz.results4 (res_tmp (res_nil rfl)) trivial (fun W h=>ok_pre (H1:=[_,_,_]) (R1:=[]) h (fun W hφ=>(q18 _ (q36 _ (q54 _ hφ))))) (.inr rfl)
    replace hm:=ite_f hm (bool_nt h94)
    refine ga_no (i:=19) (bz 24 1048575) rfl (by kernel_rfl) (fun _ _ _ _ h=>h) rfl rfl rfl rfl rfl h94<|ga_no (i:=20) (bz 24 2097151) rfl (by kernel_rfl) (fun _ _ _ _ h=>h) rfl rfl rfl rfl rfl h94<|ga_no (i:=21) (bz 24 4194303) rfl (by kernel_rfl) (fun _ _ _ _ h=>h) rfl rfl rfl rfl rfl h94<|ga_r (i:=22) (bz 24 8388607) rfl (by kernel_rfl) (by decide) rfl (r_pick0 rfl h94)<|ga_r (i:=23) (bz 24 16777215) rfl (by kernel_rfl) (by decide) rfl (r_assign)<|ga_done (by kernel_rfl)<|d_then ?_
    refine c_flat [(4,.bool false)] ⟨rfl,trivial⟩ (fun u=>?_)
    refine c_ret ?_
    cases hm
    exact d_retC () Tryz.results4 (res_tmp (res_nil rfl)) trivial (fun W h=>ok_pre (H1:=[_,_,_]) (R1:=[]) h (fun W hφ=>(q18 _ (q36 _ (q54 _ hφ))))) (.inr rfl)
   replace hm:=ite_f hm (of_decide_eq_false h93)
   refine ga_no (i:=16) (bz 24 131071) rfl (by kernel_rfl) (fun _ _ _ _ h=>h) rfl rfl rfl rfl rfl h93<|ga_r (i:=17) (bz 24 262143) rfl (by kernel_rfl) (by decide) rfl (r_pick0 rfl h93)<|ga_r (i:=18) (bz 24 524287) rfl (by kernel_rfl) (by decide) rfl (r_move)<|ga_no (i:=19) (bz 24 1048575) rfl (by kernel_rfl) (fun _ _ _ _ h=>h) rfl rfl rfl rfl rfl rfl<|ga_no (i:=20) (bz 24 2097151) rfl (by kernel_rfl) (fun _ _ _ _ h=>h) rfl rfl rfl rfl rfl rfl<|ga_no (i:=21) (bz 24 4194303) rfl (by kernel_rfl) (fun _ _ _ _ h=>h) rfl rfl rfl rfl rfl rfl<|ga_r (i:=22) (bz 24 8388607) rfl (by kernel_rfl) (by decide) rfl (r_pick0 rfl rfl)<|ga_r (i:=23) (bz 24 16777215) rfl (by kernel_rfl) (by decide) rfl (r_assign)<|ga_done (by kernel_rfl)<|d_then ?_
   refine c_flat [(4,.bool false)] ⟨rfl,trivial⟩ (fun u=>?_)
   refine c_ret ?_
   cases hm
   exact d_retC () Tryz.results4 (res_tmp (res_nil rfl)) trivial (fun W h=>ok_pre (H1:=[_,_,_]) (R1:=[]) h (fun W hφ=>(q18 _ (q36 _ (q54 _ hφ))))) (.inr rfl)
  replace hm:=ite_f hm (bool_nt h88)
  refine ga_no (i:=9) (bz 24 1023) rfl (by kernel_rfl) (fun _ _ _ _ h=>h) rfl rfl rfl rfl rfl h88<|ga_no (i:=10) (bz 24 2047) rfl (by kernel_rfl) (fun _ _ _ _ h=>h) rfl rfl rfl rfl rfl h88<|ga_no (i:=11) (bz 24 4095) rfl (by kernel_rfl) (fun _ _ _ _ h=>h) rfl rfl rfl rfl rfl h88<|ga_no (i:=12) (bz 24 8191) rfl (by kernel_rfl) (fun _ _ _ _ h=>h) rfl rfl rfl rfl rfl h88<|ga_no (i:=13) (bz 24 16383) rfl (by kernel_rfl) (fun _ _ _ _ h=>h) rfl rfl rfl rfl rfl h88<|ga_r (i:=14) (bz 24 32767) rfl (by kernel_rfl) (by decide) rfl (r_pick0 rfl h88)<|ga_r (i:=15) (bz 24 65535) rfl (by kernel_rfl) (by decide) rfl (r_move)<|ga_no (i:=16) (bz 24 131071) rfl (by kernel_rfl) (fun _ _ _ _ h=>h) rfl rfl rfl rfl rfl rfl<|ga_r (i:=17) (bz 24 262143) rfl (by kernel_rfl) (by decide) rfl (r_pick0 rfl rfl)<|ga_r (i:=18) (bz 24 524287) rfl (by kernel_rfl) (by decide) rfl (r_move) ?_
  refine ga_no (i:=19) (bz 24 1048575) rfl (by kernel_rfl) (fun _ _ _ _ h=>h) rfl rfl rfl rfl rfl rfl<|ga_no (i:=20) (bz 24 2097151) rfl (by kernel_rfl) (fun _ _ _ _ h=>h) rfl rfl rfl rfl rfl rfl<|ga_no (i:=21) (bz 24 4194303) rfl (by kernel_rfl) (fun _ _ _ _ h=>h) rfl rfl rfl rfl rfl rfl<|ga_r (i:=22) (bz 24 8388607) rfl (by kernel_rfl) (by decide) rfl (r_pick0 rfl rfl)<|ga_r (i:=23) (bz 24 16777215) rfl (by kernel_rfl) (by decide) rfl (r_assign)<|ga_done (by kernel_rfl)<|d_then ?_
  refine c_flat [(4,.bool false)] ⟨rfl,trivial⟩ (fun u=>?_)
  refine c_ret ?_
  cases hm
  exact d_retC () Tryz.results4 (res_tmp (res_nil rfl)) trivial (fun W h=>ok_pre (H1:=[_,_,_]) (R1:=[]) h (fun W hφ=>(q18 _ (q36 _ (q54 _ hφ))))) (.inr rfl)
 replace hm:=ite_f hm (bool_nt h83)
 refine ga_no (i:=2) (bz 24 7) rfl (by kernel_rfl) (fun _ _ _ _ h=>h) rfl rfl rfl rfl rfl h83<|ga_no (i:=3) (bz 24 15) rfl (by kernel_rfl) (fun _ _ _ _ h=>h) rfl rfl rfl rfl rfl h83<|ga_no (i:=4) (bz 24 31) rfl (by kernel_rfl) (fun _ _ _ _ h=>h) rfl rfl rfl rfl rfl h83<|ga_no (i:=5) (bz 24 63) rfl (by kernel_rfl) (fun _ _ _ _ h=>h) rfl rfl rfl rfl rfl h83<|ga_no (i:=6) (bz 24 127) rfl (by kernel_rfl) (fun _ _ _ _ h=>h) rfl rfl rfl rfl rfl h83<|ga_r (i:=7) (bz 24 255) rfl (by kernel_rfl) (by decide) rfl (r_pick0 rfl h83)<|ga_r (i:=8) (bz 24 511) rfl (by kernel_rfl) (by decide) rfl (r_move)<|ga_no (i:=9) (bz 24 1023) rfl (by kernel_rfl) (fun _ _ _ _ h=>h) rfl rfl rfl rfl rfl rfl<|ga_no (i:=10) (bz 24 2047) rfl (by kernel_rfl) (fun _ _ _ _ h=>h) rfl rfl rfl rfl rfl rfl<|ga_no (i:=11) (bz 24 4095) rfl (by kernel_rfl) (fun _ _ _ _ h=>h) rfl rfl rfl rfl rfl rfl ?_
 refine ga_no (i:=12) (bz 24 8191) rfl (by kernel_rfl) (fun _ _ _ _ h=>h) rfl rfl rfl rfl rfl rfl<|ga_no (i:=13) (bz 24 16383) rfl (by kernel_rfl) (fun _ _ _ _ h=>h) rfl rfl rfl rfl rfl rfl<|ga_r (i:=14) (bz 24 32767) rfl (by kernel_rfl) (by decide) rfl (r_pick0 rfl rfl)<|ga_r (i:=15) (bz 24 65535) rfl (by kernel_rfl) (by decide) rfl (r_move)<|ga_no (i:=16) (bz 24 131071) rfl (by kernel_rfl) (fun _ _ _ _ h=>h) rfl rfl rfl rfl rfl rfl<|ga_r (i:=17) (bz 24 262143) rfl (by kernel_rfl) (by decide) rfl (r_pick0 rfl rfl)<|ga_r (i:=18) (bz 24 524287) rfl (by kernel_rfl) (by decide) rfl (r_move)<|ga_no (i:=19) (bz 24 1048575) rfl (by kernel_rfl) (fun _ _ _ _ h=>h) rfl rfl rfl rfl rfl rfl<|ga_no (i:=20) (bz 24 2097151) rfl (by kernel_rfl) (fun _ _ _ _ h=>h) rfl rfl rfl rfl rfl rfl<|ga_no (i:=21) (bz 24 4194303) rfl (by kernel_rfl) (fun _ _ _ _ h=>h) rfl rfl rfl rfl rfl rfl ?_
 refine ga_r (i:=22) (bz 24 8388607) rfl (by kernel_rfl) (by decide) rfl (r_pick0 rfl rfl)<|ga_r (i:=23) (bz 24 16777215) rfl (by kernel_rfl) (by decide) rfl (r_assign)<|ga_done (by kernel_rfl)<|d_then ?_
 refine c_flat [(4,.bool false)] ⟨rfl,trivial⟩ (fun u=>?_)
 refine c_ret ?_
 cases hm
 exact d_retC () Tryz.results4 (res_tmp (res_nil rfl)) trivial (fun W h=>ok_pre (H1:=[_,_,_]) (R1:=[]) h (fun W hφ=>(q18 _ (q36 _ (q54 _ hφ))))) (.inr rfl)
end Go.Proofs.YthpjodfjdnnckaaGreat
