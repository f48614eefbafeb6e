import Derived.Test.YtbaobjcaeaofaaaWPKC
set_option maxRecDepth 100000
set_option maxHeartbeats 4000000
set_option linter.unusedVariables false
set_option linter.unusedSimpArgs false
namespace Go.Proofs.Ytbaobjcaeaofaaa
open Go.RowKit Go.Proofs.YtbaobjcaeaofaaaW.PrintLast
noncomputable def m_peer_part_67_j1 (o0 : Gpeer_reader) (i45 : Int) (i46 : Int) (s47 : ByteArray) (i48 : Int) (i49 : Int) (i50 : Int) (s51 : ByteArray) : Option (GRR×Gpeer_reader):=
  if i46 ≠ 0 then
    some ((⟨(⟨#[]⟩ : ByteArray),0,0,0,(⟨#[]⟩ : ByteArray)⟩ : GRR),(⟨o0.fs,o0.fat,true⟩ : Gpeer_reader))
  else
    some ((⟨s47,i48,i49,i50,s51⟩ : GRR),(⟨o0.fs,i45,o0.fbad⟩ : Gpeer_reader))
noncomputable def m_peer_part_67 (o0 : Gpeer_reader) : Option (GRR×Gpeer_reader):=
  if o0.fbad = true then
    some ((⟨(⟨#[]⟩ : ByteArray),0,0,0,(⟨#[]⟩ : ByteArray)⟩ : GRR),o0)
  else
    (m_record_Get o0.fs o0.fat).bind fun (z73 : GRR×Int×Int)=>
    m_peer_part_67_j1 o0 z73.2.1 z73.2.2 z73.1.fName z73.1.fType z73.1.fClass z73.1.fTTL z73.1.fData
theorem c_peer_part_67 {w0 : World} {M : Nat→Prop} {H : List (Nat×Nat×Obj)} {R : List (Nat×Row)} {φ : World→Prop} (go0 : Nat) (o0 : Gpeer_reader) (r : GRR×Gpeer_reader) (hm : m_peer_part_67 o0 = some r) :
    Cn Try.prog 67 #[Vp go0,.func (.func 68) #[] #[]] ⟨w0,M,(1000,go0,.cells #[Vs o0.fs,Vi o0.fat,.bool o0.fbad] 78 (0,0))::H,R,φ⟩ (fun x : Unit=>.agg #[Vs r.1.fName,Vu r.1.fType,Vu r.1.fClass,.int .u32 r.1.fTTL,Vs r.1.fData]) (fun x=>True) (fun x=>⟨w0,M,(1000,go0,.cells #[Vs o0.fs,Vi r.2.fat,.bool r.2.fbad] 78 (0,0))::H,R,φ⟩):=by
 unfold m_peer_part_67 at hm
 refine cn_intro (fn:=Try.f67) (N:=39) Try.func67 rfl Try.ntmps67 rfl<|c_seq<|c_region ?_
 refine g_e rfl (e_alloc 100040 Try.zeroValue54) (fun g1 _=>?_)
 refine g_nil<|d_then<|c_seq<|c_region ?_
 refine g_e rfl (e_alloc 100050 Try.zeroValue54) (fun g2 _=>?_)
 refine g_nil<|d_then<|c_seq<|c_seq<|c_region<|g_v rfl r_move<|g_v rfl (r_nilck rfl)<|g_v rfl (r_field (n:=2) Try.underlying78 rfl Try.sizeOf4 rfl rfl)<|g_v rfl (r_load (tag:=1000) rfl rfl rfl Try.isAgg4)<|g_nil ?_
 refine d_then<|c_sta ⟨w0,M,(100050,g2,.cells #[Ve,Vu 0,Vu 0,.int .u32 0,Ve] 54 (0,0))::(100040,g1,.cells #[Ve,Vu 0,Vu 0,.int .u32 0,Ve] 54 (0,0))::(1000,go0,.cells #[Vs o0.fs,Vi o0.fat,.bool o0.fbad] 78 (0,0))::H,R,φ⟩ (fun _ h=>h) ?_
 refine c_cond rfl (fun h3=>?_) (fun h3=>?_)
 ·
  replace hm:=ite_t hm h3
  refine c_seq<|c_region<|g_v rfl (r_loadA (tag:=100050) rfl rfl Try.isAgg54 Try.sizeOf54 rfl rfl)<|g_storeL (tag:=100040) rfl rfl rfl rfl Try.sizeOf54 rfl rfl<|g_nil<|d_then<|c_ret<|d_ret_then ?_
  cases hm
  exact d_retC () Try.results67 (res_agg (tag:=100040) rfl rfl Try.isAgg54 Try.sizeOf54 (res_nil rfl)) trivial (fun W h=>((h.dropH (t:=100050) rfl).dropH (t:=100040) rfl).phi (fun W hφ=>hφ)) (.inr rfl)
 replace hm:=ite_f hm (bool_nt h3)
 refine c_skip<|d_then<|c_seq ?_
 refine c_cut (ι:=Int×Int×ByteArray×Int×Int×Int×ByteArray×Nat) [0,4,5,6,7,8] (fun ⟨i45,i46,s47,i48,i49,i50,s51,g44⟩=>[(6,Vp g44),(7,Vi i45),(8,Vi i46)]) (fun ⟨i45,i46,s47,i48,i49,i50,s51,g44⟩=>⟨w0,M,(100060,g44,.cells #[Vs s47,Vu i48,Vu i49,.int .u32 i50,Vs s51] 54 (0,0))::(100050,g2,.cells #[Ve,Vu 0,Vu 0,.int .u32 0,Ve] 54 (0,0))::(100040,g1,.cells #[Ve,Vu 0,Vu 0,.int .u32 0,Ve] 54 (0,0))::(1000,go0,.cells #[Vs o0.fs,Vi o0.fat,.bool o0.fbad] 78 (0,0))::H,R,φ⟩) (fun ⟨i45,i46,s47,i48,i49,i50,s51,g44⟩=>m_peer_part_67_j1 o0 i45 i46 s47 i48 i49 i50 s51 = some r) ?_ (fun ⟨i45,i46,s47,i48,i49,i50,s51,g44⟩ u hm=>?_)
 ·
  refine ga_start (n:=18) ⟨w0,M,(100050,g2,.cells #[Ve,Vu 0,Vu 0,.int .u32 0,Ve] 54 (0,0))::(100040,g1,.cells #[Ve,Vu 0,Vu 0,.int .u32 0,Ve] 54 (0,0))::(1000,go0,.cells #[Vs o0.fs,Vi o0.fat,.bool o0.fbad] 78 (0,0))::H,R,φ⟩ [] #[false,false,false,false,false,false,false,false,false,false,false,false,false,false,false,false,false,false] (fun W h=>h.phi (fun W hφ=>hφ)) mixed rfl rfl<|ga_v (i:=0) (bz 18 1) rfl (by kernel_rfl) (fun _ _ _ _ h=>h) rfl (r_move)<|ga_v (i:=1) (bz 18 3) rfl (by kernel_rfl) (fun _ _ _ _ h=>h) rfl (r_move)<|ga_v (i:=2) (bz 18 7) rfl (by kernel_rfl) (fun _ _ _ _ h=>h) rfl (r_nilck rfl)<|ga_v (i:=3) (bz 18 15) rfl (by kernel_rfl) (fun _ _ _ _ h=>h) rfl (r_field (n:=0) Try.underlying78 rfl Try.sizeOf9 rfl rfl)<|ga_v (i:=4) (bz 18 31) rfl (by kernel_rfl) (fun _ _ _ _ h=>h) rfl (r_load (tag:=1000) rfl rfl rfl Try.isAgg9)<|ga_v (i:=5) (bz 18 63) rfl (by kernel_rfl) (fun _ _ _ _ h=>h) rfl (r_move)<|ga_v (i:=6) (bz 18 127) rfl (by kernel_rfl) (fun _ _ _ _ h=>h) rfl (r_nilck rfl)<|ga_v (i:=7) (bz 18 255) rfl (by kernel_rfl) (fun _ _ _ _ h=>h) rfl (r_field (n:=1) Try.underlying78 rfl Try.sizeOf3 rfl rfl)<|ga_v (i:=8) (bz 18 511) rfl (by kernel_rfl) (fun _ _ _ _ h=>h) rfl (r_load (tag:=1000) rfl rfl rfl Try.isAgg3) ?_
  replace hm:=bnd hm
  obtain ⟨⟨x69,x70,x71⟩,hx72,hm⟩:=hm
  refine ga_two (i:=9) (j:=14) (bz 18 1023) (bz 18 16895) rfl rfl (by kernel_rfl) (by decide) (by decide) ?_ ?_
  ·
   refine ex_cn (first:=#[]) ⟨w0,M,_,_,φ⟩ (fun _ h=>h) Try.call68 rfl rfl rfl (c_record_Get o0.fs o0.fat _ hx72) (fun _ W _ h=>h.phi (fun W hφ=>hφ)) (fun _ _=>?_)
   refine ga_v (i:=10) (bz 18 2047) rfl (by kernel_rfl) (fun _ _ _ _ h=>h) rfl (r_move)<|ga_v (i:=11) (bz 18 4095) rfl (by kernel_rfl) (fun _ _ _ _ h=>h) rfl (r_extract rfl rfl)<|ga_v (i:=12) (bz 18 8191) rfl (by kernel_rfl) (fun _ _ _ _ h=>h) rfl (r_extract rfl rfl)<|ga_v (i:=13) (bz 18 16383) rfl (by kernel_rfl) (fun _ _ _ _ h=>h) rfl (r_extract rfl rfl) ?_
   refine ga_e (i:=14) (bz 18 32767) rfl (by kernel_rfl) (by decide) rfl  (e_alloc 100060 Try.zeroValue54) (fun g75 W _ h=>(h.dropH (t:=100060) rfl).phi (fun W hφ=>hφ)) (fun g75 _=>?_)
   refine ga_storeN (i:=15) (tag:=100060) (bz 18 65535) rfl (by kernel_rfl) (by decide) rfl rfl rfl rfl Try.sizeOf54 rfl rfl (fun W h=>(h.dropH (t:=100060) rfl).phi (fun W hφ=>hφ))<|ga_r (i:=16) (bz 18 131071) rfl (by kernel_rfl) (by decide) rfl (r_assign)<|ga_r (i:=17) (bz 18 262143) rfl (by kernel_rfl) (by decide) rfl (r_assign)<|ga_done (by kernel_rfl) ?_
   exact d_round (x70,x71,x69.fName,x69.fType,x69.fClass,x69.fTTL,x69.fData,g75) hm Nat.zero_lt_one ⟨rfl,rfl,rfl,rfl,rfl,rfl,trivial⟩ (fun W h=>h.phi (fun W hφ=>hφ))
  refine ex_e rfl (e_alloc 100060 Try.zeroValue54) (fun g76 W _ h=>(h.dropH (t:=100060) rfl).phi (fun W hφ=>hφ)) (fun g76 _=>?_)
  refine ga_cn (first:=#[]) (i:=9) (bz 18 17407) rfl (by kernel_rfl) (by decide)  ⟨w0,M,_,_,φ⟩ (fun _ h=>h) Try.call68 rfl rfl rfl (c_record_Get o0.fs o0.fat _ hx72) (fun _ W _ h=>(h.dropH (t:=100060) rfl).phi (fun W hφ=>hφ)) (fun _ _=>?_)
  refine ga_r (i:=10) (bz 18 18431) rfl (by kernel_rfl) (by decide) rfl (r_move)<|ga_v (i:=11) (bz 18 20479) rfl (by kernel_rfl) (fun _ _ _ _ h=>h) rfl (r_extract rfl rfl)<|ga_v (i:=12) (bz 18 24575) rfl (by kernel_rfl) (fun _ _ _ _ h=>h) rfl (r_extract rfl rfl)<|ga_v (i:=13) (bz 18 32767) rfl (by kernel_rfl) (fun _ _ _ _ h=>h) rfl (r_extract rfl rfl)<|ga_storeN (i:=15) (tag:=100060) (bz 18 65535) rfl (by kernel_rfl) (by decide) rfl rfl rfl rfl Try.sizeOf54 rfl rfl (fun W h=>(h.dropH (t:=100060) rfl).phi (fun W hφ=>hφ))<|ga_r (i:=16) (bz 18 131071) rfl (by kernel_rfl) (by decide) rfl (r_assign)<|ga_r (i:=17) (bz 18 262143) rfl (by kernel_rfl) (by decide) rfl (r_assign)<|ga_done (by kernel_rfl) ?_
  exact d_round (x70,x71,x69.fName,x69.fType,x69.fClass,x69.fTTL,x69.fData,g76) hm Nat.zero_lt_one ⟨rfl,rfl,rfl,rfl,rfl,rfl,trivial⟩ (fun W h=>h.phi (fun W hφ=>hφ))
 unfold m_peer_part_67_j1 at hm
 refine d_flat [(0,Vp go0),(4,Vp g1),(5,Vp g2),(6,Vp g44),(7,Vi i45),(8,Vi i46)] ⟨rfl,rfl,rfl,rfl,rfl,rfl,trivial⟩ (fun u=>?_)
 refine d_sta ⟨w0,M,(100060,g44,.cells #[Vs s47,Vu i48,Vu i49,.int .u32 i50,Vs s51] 54 (0,0))::(100050,g2,.cells #[Ve,Vu 0,Vu 0,.int .u32 0,Ve] 54 (0,0))::(100040,g1,.cells #[Ve,Vu 0,Vu 0,.int .u32 0,Ve] 54 (0,0))::(1000,go0,.cells #[Vs o0.fs,Vi o0.fat,.bool o0.fbad] 78 (0,0))::H,R,φ⟩ (fun _ h=>h)<|d_then<|c_seq<|c_seq<|c_region<|g_v rfl r_move<|g_v rfl (r_neq rfl rfl)<|g_nil<|d_then ?_
 refine c_cond rfl (fun h52=>?_) (fun h52=>?_)
 ·
  replace hm:=ite_t hm (of_decide_eq_true h52)
  refine c_seq<|c_region<|g_v rfl r_move<|g_v rfl (r_nilck rfl)<|g_v rfl (r_field (n:=2) Try.underlying78 rfl Try.sizeOf4 rfl rfl)<|g_storeL (tag:=1000) rfl rfl rfl rfl Try.sizeOf4 rfl rfl<|g_nil<|d_then<|c_seq<|c_region ?_
  refine g_v rfl (r_loadA (tag:=100050) rfl rfl Try.isAgg54 Try.sizeOf54 rfl rfl)<|g_storeL (tag:=100040) rfl rfl rfl rfl Try.sizeOf54 rfl rfl<|g_nil<|d_then<|c_ret<|d_ret_then ?_
  cases hm
  exact d_retC () Try.results67 (res_agg (tag:=100040) rfl rfl Try.isAgg54 Try.sizeOf54 (res_nil rfl)) trivial (fun W h=>(((h.dropH (t:=100060) rfl).dropH (t:=100050) rfl).dropH (t:=100040) rfl).phi (fun W hφ=>hφ)) (.inr rfl)
 replace hm:=ite_f hm (of_decide_eq_false h52)
 refine c_skip<|d_then<|c_seq<|c_region<|g_v rfl r_move<|g_v rfl r_move<|g_v rfl (r_nilck rfl)<|g_v rfl (r_field (n:=1) Try.underlying78 rfl Try.sizeOf3 rfl rfl)<|g_storeL (tag:=1000) rfl rfl rfl rfl Try.sizeOf3 rfl rfl<|g_nil ?_
 refine d_then<|c_seq<|c_region<|g_v rfl (r_loadA (tag:=100060) rfl rfl Try.isAgg54 Try.sizeOf54 rfl rfl)<|g_storeL (tag:=100040) rfl rfl rfl rfl Try.sizeOf54 rfl rfl<|g_nil<|d_then ?_
 refine c_flat [(4,Vp g1)] ⟨rfl,trivial⟩ (fun u=>?_)
 refine c_sta ⟨w0,M,(100060,g44,.cells #[Vs s47,Vu i48,Vu i49,.int .u32 i50,Vs s51] 54 (0,0))::(100050,g2,.cells #[Ve,Vu 0,Vu 0,.int .u32 0,Ve] 54 (0,0))::(100040,g1,.cells #[Vs s47,Vu i48,Vu i49,.int .u32 i50,Vs s51] 54 (0,0))::(1000,go0,.cells #[Vs o0.fs,Vi i45,.bool o0.fbad] 78 (0,0))::H,R,φ⟩ (fun _ h=>h)<|c_ret ?_
 cases hm
 exact d_retC () Try.results67 (res_agg (tag:=100040) rfl rfl Try.isAgg54 Try.sizeOf54 (res_nil rfl)) trivial (fun W h=>(((h.dropH (t:=100060) rfl).dropH (t:=100050) rfl).dropH (t:=100040) rfl).phi (fun W hφ=>hφ)) (.inr rfl)
noncomputable def m_peer_reader_entry_c1 (o1 : Gpeer_reader) : Option (GRR×Gpeer_reader):=
  (m_peer_part_67 o1).bind fun (z5 : GRR×Gpeer_reader)=>
  some (z5.1,(⟨o1.fs,z5.2.fat,z5.2.fbad⟩ : Gpeer_reader))
theorem c_peer_reader_entry_c1 {w0 : World} {M : Nat→Prop} {H : List (Nat×Nat×Obj)} {R : List (Nat×Row)} {φ : World→Prop} (go0 : Nat) (go1 : Nat) (o1 : Gpeer_reader) (r : GRR×Gpeer_reader) (hm : m_peer_reader_entry_c1 o1 = some r) :
    Cn Try.prog 66 #[Vp go0] ⟨w0,M,(1000,go0,.cells #[Vp go1] 76 (0,0))::(1001,go1,.cells #[Vs o1.fs,Vi o1.fat,.bool o1.fbad] 78 (0,0))::H,R,φ⟩ (fun x : Unit=>.agg #[Vs r.1.fName,Vu r.1.fType,Vu r.1.fClass,.int .u32 r.1.fTTL,Vs r.1.fData]) (fun x=>True) (fun x=>⟨w0,M,(1000,go0,.cells #[Vp go1] 76 (0,0))::(1001,go1,.cells #[Vs o1.fs,Vi r.2.fat,.bool r.2.fbad] 78 (0,0))::H,R,φ⟩):=by
 unfold m_peer_reader_entry_c1 at hm
 refine cn_intro (fn:=Try.f66) (N:=4) Try.func66 rfl Try.ntmps66 rfl<|c_seq<|c_region ?_
 refine g_e rfl (e_alloc 100010 Try.zeroValue54) (fun g1 _=>?_)
 refine g_nil<|d_then<|c_seq<|c_region<|g_v rfl (r_load (tag:=1000) rfl rfl rfl Try.isAgg76) ?_
 replace hm:=bnd hm
 obtain ⟨⟨x2,x3⟩,hx4,hm⟩:=hm
 refine g_cn ⟨w0,M,(1000,go1,.cells #[Vs o1.fs,Vi o1.fat,.bool o1.fbad] 78 (0,0))::(100010,g1,.cells #[Ve,Vu 0,Vu 0,.int .u32 0,Ve] 54 (0,0))::(1000,go0,.cells #[Vp go1] 76 (0,0))::H,R,φ⟩ (fun W h=>(ok_front (t:=1001) (t':=1000) h rfl)) Try.call67 rfl rfl (c_peer_part_67 go1 o1 _ hx4) (fun _ _=>?_)
 refine g_sta _ (fun W h=>(ok_front (t:=1000) (t':=1001) h rfl))<|g_storeL (tag:=100010) rfl rfl rfl rfl Try.sizeOf54 rfl rfl<|g_nil<|d_then<|c_ret ?_
 cases hm
 exact d_retC () Try.results66 (res_agg (tag:=100010) rfl rfl Try.isAgg54 Try.sizeOf54 (res_nil rfl)) trivial (fun W h=>(ok_front (t:=1000) (t':=1000) (ok_front (t:=1001) (t':=1001) (h.dropH (t:=100010) rfl) rfl) rfl).phi (fun W hφ=>hφ)) (.inr rfl)
noncomputable def m_peer_list_65_j1 (o0 : Gpeer_reader) (l98 : List GRR) (i101 : Int) (b102 : Bool) : Option ((List GRR)×Gpeer_reader):=
  some (l98,(⟨o0.fs,i101,b102⟩ : Gpeer_reader))
noncomputable def m_peer_list_65_s2 (x1 : Int) (o0 : Gpeer_reader) (l120 : List GRR) (i123 : Int) (i124 : Int) (b125 : Bool) : Option (((List GRR)×Int×Int×Bool) ⊕ (((List GRR)×Int×Bool) ⊕ ((List GRR)×Gpeer_reader))):=
  if i123 < x1 then
    (m_peer_reader_entry_c1 (⟨o0.fs,i124,b125⟩ : Gpeer_reader)).bind fun (z148 : GRR×Gpeer_reader)=>
    if z148.2.fbad = true then
      some (.inr (.inr (([] : List GRR),(⟨o0.fs,z148.2.fat,z148.2.fbad⟩ : Gpeer_reader))))
    else
      (app 40 l120 [z148.1]).bind fun l152=>
      some (.inl (l152,w64 (i123 + 1),z148.2.fat,z148.2.fbad))
  else
    some (.inr (.inl (l120,i124,b125)))
noncomputable def m_peer_list_65 (o0 : Gpeer_reader) : Option ((List GRR)×Gpeer_reader):=
  (m_peer_reader_one o0).bind fun (z4 : Int×Gpeer_reader)=>
  (loop (fun s=>m_peer_list_65_s2 z4.1 o0 s.1 s.2.1 s.2.2.1 s.2.2.2) (([] : List GRR),0,z4.2.fat,z4.2.fbad)).bind fun e=>Sum.elim (fun e=>m_peer_list_65_j1 o0 e.1 e.2.1 e.2.2) (fun x=>some x) e
theorem c_peer_list_65 {w0 : World} {M : Nat→Prop} {H : List (Nat×Nat×Obj)} {R : List (Nat×Row)} {φ : World→Prop} (go0 : Nat) (o0 : Gpeer_reader) (go1 : Nat) (r : (List GRR)×Gpeer_reader) (hm : m_peer_list_65 o0 = some r) :
    Cn Try.prog 65 #[Vp go0,.func (.func 66) #[] #[Vp go1]] ⟨w0,M,(1000,go0,.cells #[Vs o0.fs,Vi o0.fat,.bool o0.fbad] 78 (0,0))::(1001,go1,.cells #[Vp go0] 76 (0,0))::H,R,φ⟩ (fun x : Option Addr×Nat=>.slice x.1 r.1.length x.2) (fun x=>r.1.length ≤ x.2) (fun x=>⟨w0,M,(1000,go0,.cells #[Vs o0.fs,Vi r.2.fat,.bool r.2.fbad] 78 (0,0))::(1001,go1,.cells #[Vp go0] 76 (0,0))::H,(2000,⟨.slice x.1 r.1.length x.2,54,5,r.1.length,r.1.flatMap GRR.enc⟩)::R,φ⟩):=by
 unfold m_peer_list_65 at hm
 refine cn_intro (fn:=Try.f65) (N:=23) Try.func65 rfl Try.ntmps65 rfl<|c_seq<|c_region<|g_v rfl r_assign<|g_nil<|d_then<|c_seq<|c_region<|g_v rfl r_assign<|g_nil ?_
 refine d_then<|c_seq<|c_seq<|c_region<|g_v rfl r_move ?_
 replace hm:=bnd hm
 obtain ⟨⟨x1,x2⟩,hx3,hm⟩:=hm
 refine g_cn ⟨w0,M,(1000,go0,.cells #[Vs o0.fs,Vi o0.fat,.bool o0.fbad] 78 (0,0))::(1001,go1,.cells #[Vp go0] 76 (0,0))::H,R,φ⟩ (fun W h=>(ok_front (t:=1000) (t':=1000) h rfl)) Try.call35 rfl rfl (c_peer_reader_one go0 o0 _ hx3) (fun _ _=>?_)
 refine g_sta _ (fun W h=>(ok_front (t:=1000) (t':=1000) h rfl))<|g_v rfl r_move<|g_nil<|d_then<|c_sta _ (fun W h=>nilR h 16 54 5) ?_
 refine c_cut (ι:=(List GRR)×Int×Bool×Option Addr×Nat) [5] (fun ⟨l98,i101,b102,A99,c100⟩=>[(5,.slice A99 l98.length c100)]) (fun ⟨l98,i101,b102,A99,c100⟩=>⟨w0,M,(1000,go0,.cells #[Vs o0.fs,Vi i101,.bool b102] 78 (0,0))::(1001,go1,.cells #[Vp go0] 76 (0,0))::H,(16,⟨.slice A99 l98.length c100,54,5,l98.length,l98.flatMap GRR.enc⟩)::R,φ⟩) (fun ⟨l98,i101,b102,A99,c100⟩=>m_peer_list_65_j1 o0 l98 i101 b102 = some r∧l98.length ≤ c100) ?_ (fun ⟨l98,i101,b102,A99,c100⟩ u ⟨hm,hc100⟩=>?_)
 ·
  refine c_block ?_
  replace hm:=bnd hm
  obtain ⟨out2,hl2,hr2⟩:=hm
  obtain ⟨n143',hl2⟩:=loop_lp hl2
  refine c_loopU (ι:=Nat×(List GRR)×Int×Int×Bool×Option Addr×Nat) [0,1,5,8,9] (fun ⟨n143,l120,i123,i124,b125,A121,c122⟩=>[(5,.slice A121 l120.length c122),(9,Vi i123)]) (fun ⟨n143,l120,i123,i124,b125,A121,c122⟩=>⟨w0,M,(1000,go0,.cells #[Vs o0.fs,Vi i124,.bool b125] 78 (0,0))::(1001,go1,.cells #[Vp go0] 76 (0,0))::H,(16,⟨.slice A121 l120.length c122,54,5,l120.length,l120.flatMap GRR.enc⟩)::R,φ⟩) (fun ⟨n143,l120,i123,i124,b125,A121,c122⟩=>Lp (fun s=>m_peer_list_65_s2 x1 o0 s.1 s.2.1 s.2.2.1 s.2.2.2) n143 (l120,i123,i124,b125) out2∧l120.length ≤ c122) (fun ⟨n143,l120,i123,i124,b125,A121,c122⟩=>n143) (n143',([] : List GRR),0,x2.fat,x2.fbad,none,0) ⟨hl2,(Nat.le_refl 0)⟩ ⟨rfl,rfl,rfl,rfl,rfl,trivial⟩ (fun W h=>h.phi (fun W hφ=>hφ)) (fun ⟨n143,l120,i123,i124,b125,A121,c122⟩ u ⟨hlp,hc122⟩=>?_)
  obtain ⟨o2,hm,hnx2⟩:=lp_step hlp
  clear hlp
  replace hm : m_peer_list_65_s2 x1 o0 l120 i123 i124 b125 = some o2:=hm
  unfold m_peer_list_65_s2 at hm
  refine c_flat [(0,Vp go0),(1,.func (.func 66) #[] #[Vp go1]),(5,.slice A121 l120.length c122),(8,Vi x1),(9,Vi i123)] ⟨rfl,rfl,rfl,rfl,rfl,trivial⟩ (fun u=>?_)
  refine c_sta ⟨w0,M,(1000,go0,.cells #[Vs o0.fs,Vi i124,.bool b125] 78 (0,0))::(1001,go1,.cells #[Vp go0] 76 (0,0))::H,(16,⟨.slice A121 l120.length c122,54,5,l120.length,l120.flatMap GRR.enc⟩)::R,φ⟩ (fun _ h=>h)<|c_seq<|c_region<|g_v rfl (r_lss rfl rfl)<|g_nil<|d_then<|c_seq ?_
  refine c_cond rfl (fun h144=>?_) (fun h144=>?_)
  ·
   replace hm:=ite_t hm (of_decide_eq_true h144)
   refine c_skip<|d_then<|c_seq<|c_block<|c_seq<|c_region<|g_v rfl r_move ?_
   replace hm:=bnd hm
   obtain ⟨⟨x145,x146⟩,hx147,hm⟩:=hm
   refine g_cnv ⟨w0,M,(1000,go1,.cells #[Vp go0] 76 (0,0))::(1001,go0,.cells #[Vs o0.fs,Vi i124,.bool b125] 78 (0,0))::H,(16,⟨.slice A121 l120.length c122,54,5,l120.length,l120.flatMap GRR.enc⟩)::R,φ⟩ (fun W h=>(ok_front (t:=9001) (t':=1000) (ok_front (t:=9000) (t':=1001) (ok_front (t:=1001) (t':=9001) (ok_front (t:=1000) (t':=9000) h rfl) rfl) rfl) rfl)) Try.call66 rfl rfl rfl (c_peer_reader_entry_c1 go1 go0 (⟨o0.fs,i124,b125⟩ : Gpeer_reader) _ hx147) (fun _ _=>?_)
   refine g_sta _ (fun W h=>(ok_front (t:=9001) (t':=1001) (ok_front (t:=9000) (t':=1000) (ok_front (t:=1000) (t':=9001) (ok_front (t:=1001) (t':=9000) h rfl) rfl) rfl) rfl)) ?_
   refine g_e rfl (e_alloc 100060 Try.zeroValue54) (fun g149 _=>?_)
   refine g_storeL (tag:=100060) rfl rfl rfl rfl Try.sizeOf54 rfl rfl<|g_nil<|d_then<|c_seq<|c_seq<|c_region<|g_v rfl r_move<|g_v rfl (r_nilck rfl)<|g_v rfl (r_field (n:=2) Try.underlying78 rfl Try.sizeOf4 rfl rfl)<|g_v rfl (r_load (tag:=1000) rfl rfl rfl Try.isAgg4) ?_
   refine g_nil<|d_then ?_
   refine c_flat [(0,Vp go0),(1,.func (.func 66) #[] #[Vp go1]),(5,.slice A121 l120.length c122),(6,Vp g149),(8,Vi x1),(9,Vi i123),(16,.bool x146.fbad)] ⟨rfl,rfl,rfl,rfl,rfl,rfl,rfl,trivial⟩ (fun u=>?_)
   refine c_sta ⟨w0,M,(100060,g149,.cells #[Vs x145.fName,Vu x145.fType,Vu x145.fClass,.int .u32 x145.fTTL,Vs x145.fData] 54 (0,0))::(1001,go1,.cells #[Vp go0] 76 (0,0))::(1000,go0,.cells #[Vs o0.fs,Vi x146.fat,.bool x146.fbad] 78 (0,0))::H,(16,⟨.slice A121 l120.length c122,54,5,l120.length,l120.flatMap GRR.enc⟩)::R,φ⟩ (fun _ h=>h) ?_
   refine c_cond rfl (fun h150=>?_) (fun h150=>?_)
   ·
    replace hm:=ite_t hm h150
    refine c_seq<|c_region<|g_v rfl r_assign<|g_nil<|d_then<|c_ret<|d_ret_then<|d_ret_block<|d_ret_then<|d_ret_then ?_
    refine d_ret_block<|d_ret_then<|d_ret_then ?_
    replace hm:=nx_out (C:=(fun e : ((List GRR)×Int×Bool) ⊕ ((List GRR)×Gpeer_reader)=>Sum.elim (fun e=>m_peer_list_65_j1 o0 e.1 e.2.1 e.2.2) (fun x=>some x) e = some r)) hm hnx2 hr2
    replace hm : some (([] : List GRR),(⟨o0.fs,x146.fat,x146.fbad⟩ : Gpeer_reader)) = some r:=hm
    cases hm
    refine d_sta _ (fun W h=>nilR h 21 54 5)<|d_sta _ (fun W h=>ok_frontR (t:=21) (t':=2000) h rfl) ?_
    exact d_retC (none,0) Try.results65 (res_tmp (res_nil rfl)) (Nat.le_refl 0) (fun W h=>(ok_front (t:=1000) (t':=1000) (ok_front (t:=1001) (t':=1001) ((h.dropR (t:=16) rfl).dropH (t:=100060) rfl) rfl) rfl).phi (fun W hφ=>hφ)) (.inr rfl)
   replace hm:=ite_f hm (bool_nt h150)
   refine c_skip<|d_then<|c_region<|g_v rfl r_move<|g_v rfl (r_loadA (tag:=100060) rfl rfl Try.isAgg54 Try.sizeOf54 rfl rfl) ?_
   refine g_e rfl (e_lit (tag:=100190) (l:=[x145]) (enc:=GRR.enc) (sz:=5) rfl Try.underlying39 (lit54_25 _ _ _ _ _) rfl rfl (fun _=>rfl)) (fun g151 _=>?_)
   replace hm:=bnd hm
   obtain ⟨l152,hl152,hm⟩:=hm
   refine g_e rfl (e_appR (enc:=GRR.enc) (l:=l120) (l1:=[x145]) (l2:=l152) (tag:=16) Try.underlying39 inf54_31 rfl (by decide) (by decide) (fun _=>rfl) (fun _=>rfl) rfl hc122 rfl rfl (fun W hS=>rowCl (tag:=100190) rfl W hS) hl152) (fun ⟨A153,c154⟩ hc154=>?_)
   refine g_v rfl r_assign<|g_nil<|d_normal_block<|d_then<|c_region<|g_v rfl (r_add rfl rfl rfl)<|g_v rfl r_move<|g_nil ?_
   obtain ⟨n155,hn155,hlp⟩:=nx_inl hm hnx2
   exact d_round (n155,l152,w64 (i123 + 1),x146.fat,x146.fbad,A153,c154) ⟨hlp,hc154⟩ hn155 ⟨rfl,rfl,rfl,rfl,rfl,trivial⟩ (fun W h=>(ok_front (t:=1000) (t':=1000) (ok_front (t:=1001) (t':=1001) ((h.dropR (t:=100190) rfl).dropH (t:=100060) rfl) rfl) rfl).phi (fun W hφ=>hφ))
  replace hm:=ite_f hm (of_decide_eq_false h144)
  refine c_exit<|d_exit_then<|d_exit_then<|d_exit_block ?_
  replace hm:=nx_out (C:=(fun e : ((List GRR)×Int×Bool) ⊕ ((List GRR)×Gpeer_reader)=>Sum.elim (fun e=>m_peer_list_65_j1 o0 e.1 e.2.1 e.2.2) (fun x=>some x) e = some r)) hm hnx2 hr2
  exact d_round (l120,i124,b125,A121,c122) ⟨hm,hc122⟩ Nat.zero_lt_one ⟨rfl,trivial⟩ (fun W h=>h.phi (fun W hφ=>hφ))
 unfold m_peer_list_65_j1 at hm
 refine d_flat [(5,.slice A99 l98.length c100)] ⟨rfl,trivial⟩ (fun u=>?_)
 refine d_sta ⟨w0,M,(1000,go0,.cells #[Vs o0.fs,Vi i101,.bool b102] 78 (0,0))::(1001,go1,.cells #[Vp go0] 76 (0,0))::H,(16,⟨.slice A99 l98.length c100,54,5,l98.length,l98.flatMap GRR.enc⟩)::R,φ⟩ (fun _ h=>h)<|d_then<|c_seq<|c_region<|g_v rfl r_move<|g_v rfl r_assign<|g_nil<|d_then<|c_ret ?_
 cases hm
 refine d_sta _ (fun W h=>ok_frontR (t:=16) (t':=2000) h rfl) ?_
 exact d_retC (A99,c100) Try.results65 (res_tmp (res_nil rfl)) hc100 (fun W h=>h.phi (fun W hφ=>hφ)) (.inr rfl)
noncomputable def m_peer_reader_entry (o0 : Gpeer_reader) : Option (GCached×Gpeer_reader):=
  (m_peer_reader_one o0).bind fun (z6 : Int×Gpeer_reader)=>
  (m_peer_part_37 (⟨o0.fs,z6.2.fat,z6.2.fbad⟩ : Gpeer_reader)).bind fun (z11 : ByteArray×Gpeer_reader)=>
  (m_peer_reader_word (⟨o0.fs,z11.2.fat,z11.2.fbad⟩ : Gpeer_reader)).bind fun (z15 : Int×Gpeer_reader)=>
  (m_peer_reader_word (⟨o0.fs,z15.2.fat,z15.2.fbad⟩ : Gpeer_reader)).bind fun (z19 : Int×Gpeer_reader)=>
  (m_peer_reader_eight (⟨o0.fs,z19.2.fat,z19.2.fbad⟩ : Gpeer_reader)).bind fun (z23 : Int×Gpeer_reader)=>
  (m_peer_reader_one (⟨o0.fs,z23.2.fat,z23.2.fbad⟩ : Gpeer_reader)).bind fun (z27 : Int×Gpeer_reader)=>
  (m_peer_reader_eight (⟨o0.fs,z27.2.fat,z27.2.fbad⟩ : Gpeer_reader)).bind fun (z31 : Int×Gpeer_reader)=>
  (m_peer_reader_eight (⟨o0.fs,z31.2.fat,z31.2.fbad⟩ : Gpeer_reader)).bind fun (z35 : Int×Gpeer_reader)=>
  (m_peer_list_65 (⟨o0.fs,z35.2.fat,z35.2.fbad⟩ : Gpeer_reader)).bind fun (z42 : (List GRR)×Gpeer_reader)=>
  some ((⟨z6.1,z11.1,z15.1,z19.1,z42.1,z23.1,z27.1,z31.1,z35.1⟩ : GCached),(⟨o0.fs,z42.2.fat,z42.2.fbad⟩ : Gpeer_reader))
theorem c_peer_reader_entry {w0 : World} {M : Nat→Prop} {H : List (Nat×Nat×Obj)} {R : List (Nat×Row)} {φ : World→Prop} (go0 : Nat) (o0 : Gpeer_reader) (r : GCached×Gpeer_reader) (hm : m_peer_reader_entry o0 = some r) :
    Cn Try.prog 41 #[Vp go0] ⟨w0,M,(1000,go0,.cells #[Vs o0.fs,Vi o0.fat,.bool o0.fbad] 78 (0,0))::H,R,φ⟩ (fun x : Option Addr×Nat=>.agg #[Vi r.1.fKind,Vs r.1.fName,Vu r.1.fType,Vu r.1.fClass,.slice x.1 r.1.fRecords.length x.2,Vi r.1.fUntil,Vi r.1.fRank,Vi r.1.fEpoch,Vi r.1.fSource]) (fun x=>r.1.fRecords.length ≤ x.2) (fun x=>⟨w0,M,(1000,go0,.cells #[Vs o0.fs,Vi r.2.fat,.bool r.2.fbad] 78 (0,0))::H,R,fun W=>φ W∧Cl W x.1 (r.1.fRecords.flatMap GRR.enc)⟩):=by
 unfold m_peer_reader_entry at hm
 refine cn_intro (fn:=Try.f41) (N:=33) Try.func41 rfl Try.ntmps41 rfl<|c_seq<|c_region ?_
 refine g_e rfl (e_box 100010 rfl) (fun g1 _=>?_)
 refine g_e rfl (e_alloc 100020 Try.zeroValue41) (fun g2 _=>?_)
 refine g_nil<|d_then<|c_seq<|c_region<|g_v rfl (r_load (tag:=100010) rfl rfl rfl Try.isAgg76) ?_
 replace hm:=bnd hm
 obtain ⟨⟨x3,x4⟩,hx5,hm⟩:=hm
 refine g_cn ⟨w0,M,(1000,go0,.cells #[Vs o0.fs,Vi o0.fat,.bool o0.fbad] 78 (0,0))::(100020,g2,.cells #[Vi 0,Ve,Vu 0,Vu 0,V0,Vi 0,Vi 0,Vi 0,Vi 0] 41 (0,0))::(100010,g1,.cells #[Vp go0] 76 (0,0))::H,R,φ⟩ (fun W h=>(ok_front (t:=1000) (t':=1000) h rfl)) Try.call35 rfl rfl (c_peer_reader_one go0 o0 _ hx5) (fun _ _=>?_)
 refine g_sta _ (fun W h=>(ok_front (t:=1000) (t':=1000) h rfl))<|g_v rfl (r_build _ rfl (bld41_36 _)) ?_
 refine g_e rfl (e_alloc 100030 Try.zeroValue41) (fun g7 _=>?_)
 refine g_storeL (tag:=100030) rfl rfl rfl rfl Try.sizeOf41 rfl rfl<|g_nil<|d_then<|c_seq<|c_region<|g_v rfl (r_load (tag:=100010) rfl rfl rfl Try.isAgg76) ?_
 replace hm:=bnd hm
 obtain ⟨⟨x8,x9⟩,hx10,hm⟩:=hm
 refine g_cn ⟨w0,M,(1000,go0,.cells #[Vs o0.fs,Vi x4.fat,.bool x4.fbad] 78 (0,0))::(100030,g7,.cells #[Vi x3,Ve,Vu 0,Vu 0,V0,Vi 0,Vi 0,Vi 0,Vi 0] 41 (0,0))::(100020,g2,.cells #[Vi 0,Ve,Vu 0,Vu 0,V0,Vi 0,Vi 0,Vi 0,Vi 0] 41 (0,0))::(100010,g1,.cells #[Vp go0] 76 (0,0))::H,R,φ⟩ (fun W h=>(ok_front (t:=1000) (t':=1000) h rfl)) Try.call37 rfl rfl (c_peer_part_37 go0 (⟨o0.fs,x4.fat,x4.fbad⟩ : Gpeer_reader) _ hx10) (fun _ _=>?_)
 refine g_sta _ (fun W h=>(ok_front (t:=1000) (t':=1000) h rfl))<|g_v rfl (r_field (n:=1) Try.underlying41 rfl Try.sizeOf9 rfl rfl)<|g_storeL (tag:=100030) rfl rfl rfl rfl Try.sizeOf9 rfl rfl<|g_nil<|d_then ?_
 refine c_flat [(1,Vp g1),(2,Vp g2),(3,Vp g7)] ⟨rfl,rfl,rfl,trivial⟩ (fun u=>?_)
 refine c_sta ⟨w0,M,(1000,go0,.cells #[Vs o0.fs,Vi x9.fat,.bool x9.fbad] 78 (0,0))::(100030,g7,.cells #[Vi x3,Vs x8,Vu 0,Vu 0,V0,Vi 0,Vi 0,Vi 0,Vi 0] 41 (0,0))::(100020,g2,.cells #[Vi 0,Ve,Vu 0,Vu 0,V0,Vi 0,Vi 0,Vi 0,Vi 0] 41 (0,0))::(100010,g1,.cells #[Vp go0] 76 (0,0))::H,R,φ⟩ (fun _ h=>h)<|c_seq<|c_region<|g_v rfl (r_load (tag:=100010) rfl rfl rfl Try.isAgg76) ?_
 replace hm:=bnd hm
 obtain ⟨⟨x12,x13⟩,hx14,hm⟩:=hm
 refine g_cn ⟨w0,M,(1000,go0,.cells #[Vs o0.fs,Vi x9.fat,.bool x9.fbad] 78 (0,0))::(100030,g7,.cells #[Vi x3,Vs x8,Vu 0,Vu 0,V0,Vi 0,Vi 0,Vi 0,Vi 0] 41 (0,0))::(100020,g2,.cells #[Vi 0,Ve,Vu 0,Vu 0,V0,Vi 0,Vi 0,Vi 0,Vi 0] 41 (0,0))::(100010,g1,.cells #[Vp go0] 76 (0,0))::H,R,φ⟩ (fun W h=>(ok_front (t:=1000) (t':=1000) h rfl)) Try.call39 rfl rfl (c_peer_reader_word go0 (⟨o0.fs,x9.fat,x9.fbad⟩ : Gpeer_reader) _ hx14) (fun _ _=>?_)
 refine g_sta _ (fun W h=>(ok_front (t:=1000) (t':=1000) h rfl))<|g_v rfl (r_field (n:=2) Try.underlying41 rfl Try.sizeOf22 rfl rfl)<|g_storeL (tag:=100030) rfl rfl rfl rfl Try.sizeOf22 rfl rfl<|g_nil<|d_then<|c_seq<|c_region<|g_v rfl (r_load (tag:=100010) rfl rfl rfl Try.isAgg76) ?_
 replace hm:=bnd hm
 obtain ⟨⟨x16,x17⟩,hx18,hm⟩:=hm
 refine g_cn ⟨w0,M,(1000,go0,.cells #[Vs o0.fs,Vi x13.fat,.bool x13.fbad] 78 (0,0))::(100030,g7,.cells #[Vi x3,Vs x8,Vu x12,Vu 0,V0,Vi 0,Vi 0,Vi 0,Vi 0] 41 (0,0))::(100020,g2,.cells #[Vi 0,Ve,Vu 0,Vu 0,V0,Vi 0,Vi 0,Vi 0,Vi 0] 41 (0,0))::(100010,g1,.cells #[Vp go0] 76 (0,0))::H,R,φ⟩ (fun W h=>(ok_front (t:=1000) (t':=1000) h rfl)) Try.call39 rfl rfl (c_peer_reader_word go0 (⟨o0.fs,x13.fat,x13.fbad⟩ : Gpeer_reader) _ hx18) (fun _ _=>?_)
 refine g_sta _ (fun W h=>(ok_front (t:=1000) (t':=1000) h rfl))<|g_v rfl (r_field (n:=3) Try.underlying41 rfl Try.sizeOf22 rfl rfl)<|g_storeL (tag:=100030) rfl rfl rfl rfl Try.sizeOf22 rfl rfl<|g_nil<|d_then<|c_seq<|c_region<|g_v rfl (r_load (tag:=100010) rfl rfl rfl Try.isAgg76) ?_
 replace hm:=bnd hm
 obtain ⟨⟨x20,x21⟩,hx22,hm⟩:=hm
 refine g_cn ⟨w0,M,(1000,go0,.cells #[Vs o0.fs,Vi x17.fat,.bool x17.fbad] 78 (0,0))::(100030,g7,.cells #[Vi x3,Vs x8,Vu x12,Vu x16,V0,Vi 0,Vi 0,Vi 0,Vi 0] 41 (0,0))::(100020,g2,.cells #[Vi 0,Ve,Vu 0,Vu 0,V0,Vi 0,Vi 0,Vi 0,Vi 0] 41 (0,0))::(100010,g1,.cells #[Vp go0] 76 (0,0))::H,R,φ⟩ (fun W h=>(ok_front (t:=1000) (t':=1000) h rfl)) Try.call36 rfl rfl (c_peer_reader_eight go0 (⟨o0.fs,x17.fat,x17.fbad⟩ : Gpeer_reader) _ hx22) (fun _ _=>?_)
 refine g_sta _ (fun W h=>(ok_front (t:=1000) (t':=1000) h rfl))<|g_v rfl (r_field (n:=5) Try.underlying41 rfl Try.sizeOf3 rfl rfl)<|g_storeL (tag:=100030) rfl rfl rfl rfl Try.sizeOf3 rfl rfl<|g_nil<|d_then ?_
 refine c_flat [(1,Vp g1),(2,Vp g2),(3,Vp g7)] ⟨rfl,rfl,rfl,trivial⟩ (fun u=>?_)
 refine c_sta ⟨w0,M,(1000,go0,.cells #[Vs o0.fs,Vi x21.fat,.bool x21.fbad] 78 (0,0))::(100030,g7,.cells #[Vi x3,Vs x8,Vu x12,Vu x16,V0,Vi x20,Vi 0,Vi 0,Vi 0] 41 (0,0))::(100020,g2,.cells #[Vi 0,Ve,Vu 0,Vu 0,V0,Vi 0,Vi 0,Vi 0,Vi 0] 41 (0,0))::(100010,g1,.cells #[Vp go0] 76 (0,0))::H,R,φ⟩ (fun _ h=>h)<|c_seq<|c_region<|g_v rfl (r_load (tag:=100010) rfl rfl rfl Try.isAgg76) ?_
 replace hm:=bnd hm
 obtain ⟨⟨x24,x25⟩,hx26,hm⟩:=hm
 refine g_cn ⟨w0,M,(1000,go0,.cells #[Vs o0.fs,Vi x21.fat,.bool x21.fbad] 78 (0,0))::(100030,g7,.cells #[Vi x3,Vs x8,Vu x12,Vu x16,V0,Vi x20,Vi 0,Vi 0,Vi 0] 41 (0,0))::(100020,g2,.cells #[Vi 0,Ve,Vu 0,Vu 0,V0,Vi 0,Vi 0,Vi 0,Vi 0] 41 (0,0))::(100010,g1,.cells #[Vp go0] 76 (0,0))::H,R,φ⟩ (fun W h=>(ok_front (t:=1000) (t':=1000) h rfl)) Try.call35 rfl rfl (c_peer_reader_one go0 (⟨o0.fs,x21.fat,x21.fbad⟩ : Gpeer_reader) _ hx26) (fun _ _=>?_)
 refine g_sta _ (fun W h=>(ok_front (t:=1000) (t':=1000) h rfl))<|g_v rfl (r_field (n:=6) Try.underlying41 rfl Try.sizeOf3 rfl rfl)<|g_storeL (tag:=100030) rfl rfl rfl rfl Try.sizeOf3 rfl rfl<|g_nil<|d_then<|c_seq<|c_region<|g_v rfl (r_load (tag:=100010) rfl rfl rfl Try.isAgg76) ?_
 replace hm:=bnd hm
 obtain ⟨⟨x28,x29⟩,hx30,hm⟩:=hm
 refine g_cn ⟨w0,M,(1000,go0,.cells #[Vs o0.fs,Vi x25.fat,.bool x25.fbad] 78 (0,0))::(100030,g7,.cells #[Vi x3,Vs x8,Vu x12,Vu x16,V0,Vi x20,Vi x24,Vi 0,Vi 0] 41 (0,0))::(100020,g2,.cells #[Vi 0,Ve,Vu 0,Vu 0,V0,Vi 0,Vi 0,Vi 0,Vi 0] 41 (0,0))::(100010,g1,.cells #[Vp go0] 76 (0,0))::H,R,φ⟩ (fun W h=>(ok_front (t:=1000) (t':=1000) h rfl)) Try.call36 rfl rfl (c_peer_reader_eight go0 (⟨o0.fs,x25.fat,x25.fbad⟩ : Gpeer_reader) _ hx30) (fun _ _=>?_)
 refine g_sta _ (fun W h=>(ok_front (t:=1000) (t':=1000) h rfl))<|g_v rfl (r_field (n:=7) Try.underlying41 rfl Try.sizeOf3 rfl rfl)<|g_storeL (tag:=100030) rfl rfl rfl rfl Try.sizeOf3 rfl rfl<|g_nil<|d_then<|c_seq<|c_region<|g_v rfl (r_load (tag:=100010) rfl rfl rfl Try.isAgg76) ?_
 replace hm:=bnd hm
 obtain ⟨⟨x32,x33⟩,hx34,hm⟩:=hm
 refine g_cn ⟨w0,M,(1000,go0,.cells #[Vs o0.fs,Vi x29.fat,.bool x29.fbad] 78 (0,0))::(100030,g7,.cells #[Vi x3,Vs x8,Vu x12,Vu x16,V0,Vi x20,Vi x24,Vi x28,Vi 0] 41 (0,0))::(100020,g2,.cells #[Vi 0,Ve,Vu 0,Vu 0,V0,Vi 0,Vi 0,Vi 0,Vi 0] 41 (0,0))::(100010,g1,.cells #[Vp go0] 76 (0,0))::H,R,φ⟩ (fun W h=>(ok_front (t:=1000) (t':=1000) h rfl)) Try.call36 rfl rfl (c_peer_reader_eight go0 (⟨o0.fs,x29.fat,x29.fbad⟩ : Gpeer_reader) _ hx34) (fun _ _=>?_)
 refine g_sta _ (fun W h=>(ok_front (t:=1000) (t':=1000) h rfl))<|g_v rfl (r_field (n:=8) Try.underlying41 rfl Try.sizeOf3 rfl rfl)<|g_storeL (tag:=100030) rfl rfl rfl rfl Try.sizeOf3 rfl rfl<|g_nil<|d_then ?_
 refine c_flat [(1,Vp g1),(2,Vp g2),(3,Vp g7)] ⟨rfl,rfl,rfl,trivial⟩ (fun u=>?_)
 refine c_sta ⟨w0,M,(1000,go0,.cells #[Vs o0.fs,Vi x33.fat,.bool x33.fbad] 78 (0,0))::(100030,g7,.cells #[Vi x3,Vs x8,Vu x12,Vu x16,V0,Vi x20,Vi x24,Vi x28,Vi x32] 41 (0,0))::(100020,g2,.cells #[Vi 0,Ve,Vu 0,Vu 0,V0,Vi 0,Vi 0,Vi 0,Vi 0] 41 (0,0))::(100010,g1,.cells #[Vp go0] 76 (0,0))::H,R,φ⟩ (fun _ h=>h)<|c_seq<|c_region<|g_v rfl (r_load (tag:=100010) rfl rfl rfl Try.isAgg76)<|g_v rfl (r_mkf rfl) ?_
 replace hm:=bnd hm
 obtain ⟨⟨x36,x37⟩,hx38,hm⟩:=hm
 refine g_cn ⟨w0,M,(1000,go0,.cells #[Vs o0.fs,Vi x33.fat,.bool x33.fbad] 78 (0,0))::(1001,g1,.cells #[Vp go0] 76 (0,0))::(100030,g7,.cells #[Vi x3,Vs x8,Vu x12,Vu x16,V0,Vi x20,Vi x24,Vi x28,Vi x32] 41 (0,0))::(100020,g2,.cells #[Vi 0,Ve,Vu 0,Vu 0,V0,Vi 0,Vi 0,Vi 0,Vi 0] 41 (0,0))::H,R,φ⟩ (fun W h=>(ok_front (t:=1000) (t':=1000) (ok_front (t:=100010) (t':=1001) h rfl) rfl)) Try.call65 rfl rfl (c_peer_list_65 go0 (⟨o0.fs,x33.fat,x33.fbad⟩ : Gpeer_reader) g1 _ hx38) (fun ⟨A39,c40⟩ hc40=>?_)
 refine g_sta _ (fun W h=>(ok_frontR (t:=2000) (t':=100300) (ok_front (t:=1000) (t':=1000) (ok_front (t:=1001) (t':=100010) h rfl) rfl) rfl))<|g_v rfl (r_field (n:=4) Try.underlying41 rfl Try.sizeOf39 rfl rfl)<|g_storeL (tag:=100030) rfl rfl rfl rfl Try.sizeOf39 rfl rfl<|g_nil<|d_then<|c_seq<|c_region<|g_v rfl (r_loadA (tag:=100030) rfl rfl Try.isAgg41 Try.sizeOf41 rfl rfl)<|g_storeL (tag:=100020) rfl rfl rfl rfl Try.sizeOf41 rfl rfl<|g_nil ?_
 refine d_then<|c_ret ?_
 cases hm
 refine d_shut (tag:=100300) rfl (fun φ43 q43'=>?_)
 have q43 : ∀ W,φ43 W→φ W:=fun W h=>(q43' W h).1
 have f44:=fun (W : World) (h : φ43 W)=>(q43' W h).2
 exact d_retC (A39,c40) Try.results41 (res_agg (tag:=100020) rfl rfl Try.isAgg41 Try.sizeOf41 (res_nil rfl)) hc40 (fun W h=>(((h.dropH (t:=100010) rfl).dropH (t:=100030) rfl).dropH (t:=100020) rfl).phi (fun W hφ=>⟨(q43 _ hφ),(fun W h=>f44 W h) W hφ⟩)) (.inr rfl)
noncomputable def m_peer_list_42_j1 (o0 : Gpeer_reader) (l150 : List GCached) (i155 : Int) (b156 : Bool) : Option ((List GCached)×Gpeer_reader):=
  some (l150,(⟨o0.fs,i155,b156⟩ : Gpeer_reader))
noncomputable def m_peer_list_42_s2 (x1 : Int) (o0 : Gpeer_reader) (l185 : List GCached) (i190 : Int) (i191 : Int) (b192 : Bool) : Option (((List GCached)×Int×Int×Bool) ⊕ (((List GCached)×Int×Bool) ⊕ ((List GCached)×Gpeer_reader))):=
  if i190 < x1 then
    (m_peer_reader_entry (⟨o0.fs,i191,b192⟩ : Gpeer_reader)).bind fun (z230 : GCached×Gpeer_reader)=>
    if z230.2.fbad = true then
      some (.inr (.inr (([] : List GCached),(⟨o0.fs,z230.2.fat,z230.2.fbad⟩ : Gpeer_reader))))
    else
      (app 88 l185 [z230.1]).bind fun l236=>
      some (.inl (l236,w64 (i190 + 1),z230.2.fat,z230.2.fbad))
  else
    some (.inr (.inl (l185,i191,b192)))
noncomputable def m_peer_list_42 (o0 : Gpeer_reader) : Option ((List GCached)×Gpeer_reader):=
  (m_peer_reader_one o0).bind fun (z4 : Int×Gpeer_reader)=>
  (loop (fun s=>m_peer_list_42_s2 z4.1 o0 s.1 s.2.1 s.2.2.1 s.2.2.2) (([] : List GCached),0,z4.2.fat,z4.2.fbad)).bind fun e=>Sum.elim (fun e=>m_peer_list_42_j1 o0 e.1 e.2.1 e.2.2) (fun x=>some x) e
theorem c_peer_list_42 {w0 : World} {M : Nat→Prop} {H : List (Nat×Nat×Obj)} {R : List (Nat×Row)} {φ : World→Prop} (go0 : Nat) (o0 : Gpeer_reader) (r : (List GCached)×Gpeer_reader) (hm : m_peer_list_42 o0 = some r) :
    Cn Try.prog 42 #[Vp go0,.func (.func 41) #[Vp go0] #[]] ⟨w0,M,(1000,go0,.cells #[Vs o0.fs,Vi o0.fat,.bool o0.fbad] 78 (0,0))::H,R,φ⟩ (fun x : Option Addr×Nat×List GCachedP=>.slice x.1 r.1.length x.2.1) (fun x=>(DOk GCached.capP r.1 x.2.2∧r.1.length ≤ x.2.1)) (fun x=>⟨w0,M,(1000,go0,.cells #[Vs o0.fs,Vi r.2.fat,.bool r.2.fbad] 78 (0,0))::H,(2000,⟨.slice x.1 r.1.length x.2.1,41,9,r.1.length,(r.1.zip x.2.2).flatMap GCached.encP⟩)::R,fun W=>φ W∧DOwn GCached.ownP r.1 x.2.2 W⟩):=by
 unfold m_peer_list_42 at hm
 refine cn_intro (fn:=Try.f42) (N:=23) Try.func42 rfl Try.ntmps42 rfl<|c_seq<|c_region<|g_v rfl r_assign<|g_nil<|d_then<|c_seq<|c_region<|g_v rfl r_assign<|g_nil ?_
 refine d_then<|c_seq<|c_seq<|c_region<|g_v rfl r_move ?_
 replace hm:=bnd hm
 obtain ⟨⟨x1,x2⟩,hx3,hm⟩:=hm
 refine g_cn ⟨w0,M,(1000,go0,.cells #[Vs o0.fs,Vi o0.fat,.bool o0.fbad] 78 (0,0))::H,R,φ⟩ (fun W h=>(ok_front (t:=1000) (t':=1000) h rfl)) Try.call35 rfl rfl (c_peer_reader_one go0 o0 _ hx3) (fun _ _=>?_)
 refine g_sta _ (fun W h=>(ok_front (t:=1000) (t':=1000) h rfl))<|g_v rfl r_move<|g_nil<|d_then<|c_sta _ (fun W h=>nilR h 16 41 9) ?_
 refine c_cut (ι:=(List GCached)×Int×Bool×Option Addr×Nat×List GCachedP) [5] (fun ⟨l150,i155,b156,A151,c152,ps153⟩=>[(5,.slice A151 l150.length c152)]) (fun ⟨l150,i155,b156,A151,c152,ps153⟩=>⟨w0,M,(1000,go0,.cells #[Vs o0.fs,Vi i155,.bool b156] 78 (0,0))::H,(16,⟨.slice A151 l150.length c152,41,9,l150.length,(l150.zip ps153).flatMap GCached.encP⟩)::R,fun W=>φ W∧DOwn GCached.ownP l150 ps153 W⟩) (fun ⟨l150,i155,b156,A151,c152,ps153⟩=>m_peer_list_42_j1 o0 l150 i155 b156 = some r∧(DOk GCached.capP l150 ps153∧l150.length ≤ c152)) ?_ (fun ⟨l150,i155,b156,A151,c152,ps153⟩ u ⟨hm,hc152⟩=>?_)
 ·
  refine c_block ?_
  replace hm:=bnd hm
  obtain ⟨out2,hl2,hr2⟩:=hm
  obtain ⟨n220',hl2⟩:=loop_lp hl2
  refine c_loopU (ι:=Nat×(List GCached)×Int×Int×Bool×Option Addr×Nat×List GCachedP) [0,1,5,8,9] (fun ⟨n220,l185,i190,i191,b192,A186,c187,ps188⟩=>[(5,.slice A186 l185.length c187),(9,Vi i190)]) (fun ⟨n220,l185,i190,i191,b192,A186,c187,ps188⟩=>⟨w0,M,(1000,go0,.cells #[Vs o0.fs,Vi i191,.bool b192] 78 (0,0))::H,(16,⟨.slice A186 l185.length c187,41,9,l185.length,(l185.zip ps188).flatMap GCached.encP⟩)::R,fun W=>φ W∧DOwn GCached.ownP l185 ps188 W⟩) (fun ⟨n220,l185,i190,i191,b192,A186,c187,ps188⟩=>Lp (fun s=>m_peer_list_42_s2 x1 o0 s.1 s.2.1 s.2.2.1 s.2.2.2) n220 (l185,i190,i191,b192) out2∧(DOk GCached.capP l185 ps188∧l185.length ≤ c187)) (fun ⟨n220,l185,i190,i191,b192,A186,c187,ps188⟩=>n220) (n220',([] : List GCached),0,x2.fat,x2.fbad,none,0,([] : List GCachedP)) ⟨hl2,⟨DOk.nil,(Nat.le_refl 0)⟩⟩ ⟨rfl,rfl,rfl,rfl,rfl,trivial⟩ (fun W h=>h.phi (fun W hφ=>⟨hφ,(fun W h=>DOwn.nil) W hφ⟩)) (fun ⟨n220,l185,i190,i191,b192,A186,c187,ps188⟩ u ⟨hlp,hc187⟩=>?_)
  obtain ⟨o2,hm,hnx2⟩:=lp_step hlp
  clear hlp
  replace hm : m_peer_list_42_s2 x1 o0 l185 i190 i191 b192 = some o2:=hm
  unfold m_peer_list_42_s2 at hm
  refine c_abs (fun φ221 q221'=>?_)
  have q221 : ∀ W,φ221 W→φ W:=fun W h=>(q221' W h).1
  have f189:=fun (W : World) (h : φ221 W)=>(q221' W h).2
  refine c_flat [(0,Vp go0),(1,.func (.func 41) #[Vp go0] #[]),(5,.slice A186 l185.length c187),(8,Vi x1),(9,Vi i190)] ⟨rfl,rfl,rfl,rfl,rfl,trivial⟩ (fun u=>?_)
  refine c_sta ⟨w0,M,(1000,go0,.cells #[Vs o0.fs,Vi i191,.bool b192] 78 (0,0))::H,(16,⟨.slice A186 l185.length c187,41,9,l185.length,(l185.zip ps188).flatMap GCached.encP⟩)::R,φ221⟩ (fun _ h=>h)<|c_seq<|c_region<|g_v rfl (r_lss rfl rfl)<|g_nil<|d_then<|c_seq ?_
  refine c_cond rfl (fun h222=>?_) (fun h222=>?_)
  ·
   replace hm:=ite_t hm (of_decide_eq_true h222)
   refine c_skip<|d_then<|c_seq<|c_block<|c_seq<|c_region<|g_v rfl r_move ?_
   replace hm:=bnd hm
   obtain ⟨⟨x223,x224⟩,hx225,hm⟩:=hm
   refine g_cnv ⟨w0,M,(1000,go0,.cells #[Vs o0.fs,Vi i191,.bool b192] 78 (0,0))::H,(16,⟨.slice A186 l185.length c187,41,9,l185.length,(l185.zip ps188).flatMap GCached.encP⟩)::R,φ221⟩ (fun W h=>(ok_front (t:=1000) (t':=1000) h rfl)) Try.call41 rfl rfl rfl (c_peer_reader_entry go0 (⟨o0.fs,i191,b192⟩ : Gpeer_reader) _ hx225) (fun ⟨A226,c227⟩ hc227=>?_)
   refine g_sta _ (fun W h=>(ok_front (t:=1000) (t':=1000) h rfl)) ?_
   refine g_abs (fun φ229 q229'=>?_)
   have q229 : ∀ W,φ229 W→φ221 W:=fun W h=>(q229' W h).1
   have f228:=fun (W : World) (h : φ229 W)=>(q229' W h).2
   refine g_e rfl (e_alloc 100060 Try.zeroValue41) (fun g231 _=>?_)
   refine g_storeL (tag:=100060) rfl rfl rfl rfl Try.sizeOf41 rfl rfl<|g_nil<|d_then<|c_seq<|c_seq<|c_region<|g_v rfl r_move<|g_v rfl (r_nilck rfl)<|g_v rfl (r_field (n:=2) Try.underlying78 rfl Try.sizeOf4 rfl rfl)<|g_v rfl (r_load (tag:=1000) rfl rfl rfl Try.isAgg4) ?_
   refine g_nil<|d_then ?_
   refine c_flat [(0,Vp go0),(1,.func (.func 41) #[Vp go0] #[]),(5,.slice A186 l185.length c187),(6,Vp g231),(8,Vi x1),(9,Vi i190),(16,.bool x224.fbad)] ⟨rfl,rfl,rfl,rfl,rfl,rfl,rfl,trivial⟩ (fun u=>?_)
   refine c_sta ⟨w0,M,(100060,g231,.cells #[Vi x223.fKind,Vs x223.fName,Vu x223.fType,Vu x223.fClass,.slice A226 x223.fRecords.length c227,Vi x223.fUntil,Vi x223.fRank,Vi x223.fEpoch,Vi x223.fSource] 41 (0,0))::(1000,go0,.cells #[Vs o0.fs,Vi x224.fat,.bool x224.fbad] 78 (0,0))::H,(16,⟨.slice A186 l185.length c187,41,9,l185.length,(l185.zip ps188).flatMap GCached.encP⟩)::R,φ229⟩ (fun _ h=>h) ?_
   refine c_cond rfl (fun h232=>?_) (fun h232=>?_)
   ·
    replace hm:=ite_t hm h232
    refine c_seq<|c_region<|g_v rfl r_assign<|g_nil<|d_then<|c_ret<|d_ret_then<|d_ret_block<|d_ret_then<|d_ret_then ?_
    refine d_ret_block<|d_ret_then<|d_ret_then ?_
    replace hm:=nx_out (C:=(fun e : ((List GCached)×Int×Bool) ⊕ ((List GCached)×Gpeer_reader)=>Sum.elim (fun e=>m_peer_list_42_j1 o0 e.1 e.2.1 e.2.2) (fun x=>some x) e = some r)) hm hnx2 hr2
    replace hm : some (([] : List GCached),(⟨o0.fs,x224.fat,x224.fbad⟩ : Gpeer_reader)) = some r:=hm
    cases hm
    refine d_sta _ (fun W h=>nilR h 21 41 9)<|d_sta _ (fun W h=>ok_frontR (t:=21) (t':=2000) h rfl) ?_
    exact d_retC (none,0,([] : List GCachedP)) Try.results42 (res_tmp (res_nil rfl)) ⟨DOk.nil,(Nat.le_refl 0)⟩ (fun W h=>((h.dropR (t:=16) rfl).dropH (t:=100060) rfl).phi (fun W hφ=>⟨(q221 _ (q229 _ hφ)),(fun W h=>DOwn.nil) W hφ⟩)) (.inr rfl)
   replace hm:=ite_f hm (bool_nt h232)
   refine c_skip<|d_then<|c_region<|g_v rfl r_move<|g_v rfl (r_loadA (tag:=100060) rfl rfl Try.isAgg41 Try.sizeOf41 rfl rfl) ?_
   have hk234:=(DOk.cons (cap:=GCached.capP) (x:=x223) (p:=(⟨A226,c227⟩ : GCachedP)) (hc227) DOk.nil)
   have f235:=fun (W : World) (h : φ229 W)=>(DOwn.cons (own:=GCached.ownP) (x:=x223) (p:=(⟨A226,c227⟩ : GCachedP)) (f228 W h) DOwn.nil)
   refine g_e rfl (e_litD (tag:=100190) (enc:=GCached.encP) (sz:=9) hk234 rfl Try.underlying25 (lit41_27 _ _ _ _ _ _ _ _ _ _ _) rfl rfl (fun _=>rfl)) (fun g233 _=>?_)
   replace hm:=bnd hm
   obtain ⟨l236,hl236,hm⟩:=hm
   have hk239:=DOk.app (cap:=GCached.capP) hc187.1 hk234 hl236
   have f240:=fun (W : World) (h : φ229 W)=>DOwn.app (own:=GCached.ownP) (cap:=GCached.capP) hc187.1 hl236 (f189 W (q229 _ h)) (f235 W h)
   refine g_e rfl (e_appRD (enc:=GCached.encP) (l:=l185) (l1:=[x223]) (l2:=l236) (tag:=16) hc187.1 hk234 Try.underlying25 inf41_30 rfl (by decide) (by decide) (fun _=>rfl) (fun _=>rfl) rfl hc187.2 rfl rfl (fun W hS=>rowCl (tag:=100190) rfl W hS) hl236) (fun ⟨A237,c238⟩ hc238=>?_)
   refine g_v rfl r_assign<|g_nil<|d_normal_block<|d_then<|c_region<|g_v rfl (r_add rfl rfl rfl)<|g_v rfl r_move<|g_nil ?_
   obtain ⟨n241,hn241,hlp⟩:=nx_inl hm hnx2
   exact d_round (n241,l236,w64 (i190 + 1),x224.fat,x224.fbad,A237,c238,(ps188++[(⟨A226,c227⟩ : GCachedP)])) ⟨hlp,⟨hk239,hc238⟩⟩ hn241 ⟨rfl,rfl,rfl,rfl,rfl,trivial⟩ (fun W h=>((h.dropR (t:=100190) rfl).dropH (t:=100060) rfl).phi (fun W hφ=>⟨(q221 _ (q229 _ hφ)),(fun W h=>(f240 W h)) W hφ⟩))
  replace hm:=ite_f hm (of_decide_eq_false h222)
  refine c_exit<|d_exit_then<|d_exit_then<|d_exit_block ?_
  replace hm:=nx_out (C:=(fun e : ((List GCached)×Int×Bool) ⊕ ((List GCached)×Gpeer_reader)=>Sum.elim (fun e=>m_peer_list_42_j1 o0 e.1 e.2.1 e.2.2) (fun x=>some x) e = some r)) hm hnx2 hr2
  exact d_round (l185,i191,b192,A186,c187,ps188) ⟨hm,⟨hc187.1,hc187.2⟩⟩ Nat.zero_lt_one ⟨rfl,trivial⟩ (fun W h=>h.phi (fun W hφ=>⟨(q221 _ hφ),(fun W h=>(f189 W h)) W hφ⟩))
 unfold m_peer_list_42_j1 at hm
 refine d_abs (fun φ157 q157'=>?_)
 have q157 : ∀ W,φ157 W→φ W:=fun W h=>(q157' W h).1
 have f154:=fun (W : World) (h : φ157 W)=>(q157' W h).2
 refine d_flat [(5,.slice A151 l150.length c152)] ⟨rfl,trivial⟩ (fun u=>?_)
 refine d_sta ⟨w0,M,(1000,go0,.cells #[Vs o0.fs,Vi i155,.bool b156] 78 (0,0))::H,(16,⟨.slice A151 l150.length c152,41,9,l150.length,(l150.zip ps153).flatMap GCached.encP⟩)::R,φ157⟩ (fun _ h=>h)<|d_then<|c_seq<|c_region<|g_v rfl r_move<|g_v rfl r_assign<|g_nil<|d_then<|c_ret ?_
 cases hm
 refine d_sta _ (fun W h=>ok_frontR (t:=16) (t':=2000) h rfl) ?_
 exact d_retC (A151,c152,ps153) Try.results42 (res_tmp (res_nil rfl)) ⟨hc152.1,hc152.2⟩ (fun W h=>h.phi (fun W hφ=>⟨(q157 _ hφ),(fun W h=>(f154 W h)) W hφ⟩)) (.inr rfl)
theorem bld29_38 (z0 : Int) : ∀ W,(Instr.build 29 #[(0,Vi z0)]).run Try.prog W = .ok (.agg #[Vi z0,Vi 0,Vi 0,Vi 0,Vi 0,Vi 0,Vi 0,.bool false,V0,V0,Ve]) W:=fun _=>by kernel_rfl
noncomputable def m_peer_list_69_j1 (o0 : Gpeer_reader) (l93 : List Int) (i96 : Int) (b97 : Bool) : Option ((List Int)×Gpeer_reader):=
  some (l93,(⟨o0.fs,i96,b97⟩ : Gpeer_reader))
noncomputable def m_peer_list_69_s2 (x1 : Int) (o0 : Gpeer_reader) (l114 : List Int) (i117 : Int) (i118 : Int) (b119 : Bool) : Option (((List Int)×Int×Int×Bool) ⊕ (((List Int)×Int×Bool) ⊕ ((List Int)×Gpeer_reader))):=
  if i117 < x1 then
    (m_peer_reader_one (⟨o0.fs,i118,b119⟩ : Gpeer_reader)).bind fun (z141 : Int×Gpeer_reader)=>
    if z141.2.fbad = true then
      some (.inr (.inr (([] : List Int),(⟨o0.fs,z141.2.fat,z141.2.fbad⟩ : Gpeer_reader))))
    else
      (app 8 l114 [z141.1]).bind fun l144=>
      some (.inl (l144,w64 (i117 + 1),z141.2.fat,z141.2.fbad))
  else
    some (.inr (.inl (l114,i118,b119)))
noncomputable def m_peer_list_69 (o0 : Gpeer_reader) : Option ((List Int)×Gpeer_reader):=
  (m_peer_reader_one o0).bind fun (z4 : Int×Gpeer_reader)=>
  (loop (fun s=>m_peer_list_69_s2 z4.1 o0 s.1 s.2.1 s.2.2.1 s.2.2.2) (([] : List Int),0,z4.2.fat,z4.2.fbad)).bind fun e=>Sum.elim (fun e=>m_peer_list_69_j1 o0 e.1 e.2.1 e.2.2) (fun x=>some x) e
theorem c_peer_list_69 {w0 : World} {M : Nat→Prop} {H : List (Nat×Nat×Obj)} {R : List (Nat×Row)} {φ : World→Prop} (go0 : Nat) (o0 : Gpeer_reader) (r : (List Int)×Gpeer_reader) (hm : m_peer_list_69 o0 = some r) :
    Cn Try.prog 69 #[Vp go0,.func (.func 35) #[Vp go0] #[]] ⟨w0,M,(1000,go0,.cells #[Vs o0.fs,Vi o0.fat,.bool o0.fbad] 78 (0,0))::H,R,φ⟩ (fun x : Option Addr×Nat=>.slice x.1 r.1.length x.2) (fun x=>r.1.length ≤ x.2) (fun x=>⟨w0,M,(1000,go0,.cells #[Vs o0.fs,Vi r.2.fat,.bool r.2.fbad] 78 (0,0))::H,(2000,⟨.slice x.1 r.1.length x.2,3,1,r.1.length,r.1.flatMap (fun x : Int=>[Value.int .i64 x])⟩)::R,φ⟩):=by
 unfold m_peer_list_69 at hm
 refine cn_intro (fn:=Try.f69) (N:=23) Try.func69 rfl Try.ntmps69 rfl<|c_seq<|c_region<|g_v rfl r_assign<|g_nil<|d_then<|c_seq<|c_region<|g_v rfl r_assign<|g_nil ?_
 refine d_then<|c_seq<|c_seq<|c_region<|g_v rfl r_move ?_
 replace hm:=bnd hm
 obtain ⟨⟨x1,x2⟩,hx3,hm⟩:=hm
 refine g_cn ⟨w0,M,(1000,go0,.cells #[Vs o0.fs,Vi o0.fat,.bool o0.fbad] 78 (0,0))::H,R,φ⟩ (fun W h=>(ok_front (t:=1000) (t':=1000) h rfl)) Try.call35 rfl rfl (c_peer_reader_one go0 o0 _ hx3) (fun _ _=>?_)
 refine g_sta _ (fun W h=>(ok_front (t:=1000) (t':=1000) h rfl))<|g_v rfl r_move<|g_nil<|d_then<|c_sta _ (fun W h=>nilR h 16 3 1) ?_
 refine c_cut (ι:=(List Int)×Int×Bool×Option Addr×Nat) [5] (fun ⟨l93,i96,b97,A94,c95⟩=>[(5,.slice A94 l93.length c95)]) (fun ⟨l93,i96,b97,A94,c95⟩=>⟨w0,M,(1000,go0,.cells #[Vs o0.fs,Vi i96,.bool b97] 78 (0,0))::H,(16,⟨.slice A94 l93.length c95,3,1,l93.length,l93.flatMap (fun x : Int=>[Value.int .i64 x])⟩)::R,φ⟩) (fun ⟨l93,i96,b97,A94,c95⟩=>m_peer_list_69_j1 o0 l93 i96 b97 = some r∧l93.length ≤ c95) ?_ (fun ⟨l93,i96,b97,A94,c95⟩ u ⟨hm,hc95⟩=>?_)
 ·
  refine c_block ?_
  replace hm:=bnd hm
  obtain ⟨out2,hl2,hr2⟩:=hm
  obtain ⟨n136',hl2⟩:=loop_lp hl2
  refine c_loopU (ι:=Nat×(List Int)×Int×Int×Bool×Option Addr×Nat) [0,1,5,8,9] (fun ⟨n136,l114,i117,i118,b119,A115,c116⟩=>[(5,.slice A115 l114.length c116),(9,Vi i117)]) (fun ⟨n136,l114,i117,i118,b119,A115,c116⟩=>⟨w0,M,(1000,go0,.cells #[Vs o0.fs,Vi i118,.bool b119] 78 (0,0))::H,(16,⟨.slice A115 l114.length c116,3,1,l114.length,l114.flatMap (fun x : Int=>[Value.int .i64 x])⟩)::R,φ⟩) (fun ⟨n136,l114,i117,i118,b119,A115,c116⟩=>Lp (fun s=>m_peer_list_69_s2 x1 o0 s.1 s.2.1 s.2.2.1 s.2.2.2) n136 (l114,i117,i118,b119) out2∧l114.length ≤ c116) (fun ⟨n136,l114,i117,i118,b119,A115,c116⟩=>n136) (n136',([] : List Int),0,x2.fat,x2.fbad,none,0) ⟨hl2,(Nat.le_refl 0)⟩ ⟨rfl,rfl,rfl,rfl,rfl,trivial⟩ (fun W h=>h.phi (fun W hφ=>hφ)) (fun ⟨n136,l114,i117,i118,b119,A115,c116⟩ u ⟨hlp,hc116⟩=>?_)
  obtain ⟨o2,hm,hnx2⟩:=lp_step hlp
  clear hlp
  replace hm : m_peer_list_69_s2 x1 o0 l114 i117 i118 b119 = some o2:=hm
  unfold m_peer_list_69_s2 at hm
  refine c_flat [(0,Vp go0),(1,.func (.func 35) #[Vp go0] #[]),(5,.slice A115 l114.length c116),(8,Vi x1),(9,Vi i117)] ⟨rfl,rfl,rfl,rfl,rfl,trivial⟩ (fun u=>?_)
  refine c_sta ⟨w0,M,(1000,go0,.cells #[Vs o0.fs,Vi i118,.bool b119] 78 (0,0))::H,(16,⟨.slice A115 l114.length c116,3,1,l114.length,l114.flatMap (fun x : Int=>[Value.int .i64 x])⟩)::R,φ⟩ (fun _ h=>h)<|c_seq<|c_region<|g_v rfl (r_lss rfl rfl)<|g_nil<|d_then<|c_seq ?_
  refine c_cond rfl (fun h137=>?_) (fun h137=>?_)
  ·
   replace hm:=ite_t hm (of_decide_eq_true h137)
   refine c_skip<|d_then<|c_seq<|c_block<|c_seq<|c_region<|g_v rfl r_move ?_
   replace hm:=bnd hm
   obtain ⟨⟨x138,x139⟩,hx140,hm⟩:=hm
   refine g_cnv ⟨w0,M,(1000,go0,.cells #[Vs o0.fs,Vi i118,.bool b119] 78 (0,0))::H,(16,⟨.slice A115 l114.length c116,3,1,l114.length,l114.flatMap (fun x : Int=>[Value.int .i64 x])⟩)::R,φ⟩ (fun W h=>(ok_front (t:=1000) (t':=1000) h rfl)) Try.call35 rfl rfl rfl (c_peer_reader_one go0 (⟨o0.fs,i118,b119⟩ : Gpeer_reader) _ hx140) (fun _ _=>?_)
   refine g_sta _ (fun W h=>(ok_front (t:=1000) (t':=1000) h rfl))<|g_v rfl r_assign<|g_nil<|d_then<|c_seq<|c_seq<|c_region<|g_v rfl r_move<|g_v rfl (r_nilck rfl)<|g_v rfl (r_field (n:=2) Try.underlying78 rfl Try.sizeOf4 rfl rfl) ?_
   refine g_v rfl (r_load (tag:=1000) rfl rfl rfl Try.isAgg4)<|g_nil<|d_then<|c_sta ⟨w0,M,(1000,go0,.cells #[Vs o0.fs,Vi x139.fat,.bool x139.fbad] 78 (0,0))::H,(16,⟨.slice A115 l114.length c116,3,1,l114.length,l114.flatMap (fun x : Int=>[Value.int .i64 x])⟩)::R,φ⟩ (fun _ h=>h) ?_
   refine c_cond rfl (fun h142=>?_) (fun h142=>?_)
   ·
    replace hm:=ite_t hm h142
    refine c_seq<|c_region<|g_v rfl r_assign<|g_nil<|d_then ?_
    refine c_flat [(4,V0)] ⟨rfl,trivial⟩ (fun u=>?_)
    refine c_ret<|d_ret_then<|d_ret_block<|d_ret_then<|d_ret_then<|d_ret_block<|d_ret_then<|d_ret_then ?_
    replace hm:=nx_out (C:=(fun e : ((List Int)×Int×Bool) ⊕ ((List Int)×Gpeer_reader)=>Sum.elim (fun e=>m_peer_list_69_j1 o0 e.1 e.2.1 e.2.2) (fun x=>some x) e = some r)) hm hnx2 hr2
    replace hm : some (([] : List Int),(⟨o0.fs,x139.fat,x139.fbad⟩ : Gpeer_reader)) = some r:=hm
    cases hm
    refine d_sta _ (fun W h=>nilR h 21 3 1)<|d_sta _ (fun W h=>ok_frontR (t:=21) (t':=2000) h rfl) ?_
    exact d_retC (none,0) Try.results69 (res_tmp (res_nil rfl)) (Nat.le_refl 0) (fun W h=>(h.dropR (t:=16) rfl).phi (fun W hφ=>hφ)) (.inr rfl)
   replace hm:=ite_f hm (bool_nt h142)
   refine c_skip<|d_then<|c_region<|g_v rfl r_move<|g_v rfl r_move ?_
   refine g_e rfl (e_lit (tag:=100190) (l:=[x138]) (enc:=(fun x : Int=>[Value.int .i64 x])) (sz:=1) rfl Try.underlying27 (lit3_11 _) rfl rfl (fun _=>rfl)) (fun g143 _=>?_)
   replace hm:=bnd hm
   obtain ⟨l144,hl144,hm⟩:=hm
   refine g_e rfl (e_appR (enc:=(fun x : Int=>[Value.int .i64 x])) (l:=l114) (l1:=[x138]) (l2:=l144) (tag:=16) Try.underlying27 inf3_12 rfl (by decide) (by decide) (fun _=>rfl) (fun _=>rfl) rfl hc116 rfl rfl (fun W hS=>rowCl (tag:=100190) rfl W hS) hl144) (fun ⟨A145,c146⟩ hc146=>?_)
   refine g_v rfl r_assign<|g_nil<|d_normal_block<|d_then ?_
   refine c_flat [(0,Vp go0),(1,.func (.func 35) #[Vp go0] #[]),(5,.slice A145 l144.length c146),(8,Vi x1),(9,Vi i117)] ⟨rfl,rfl,rfl,rfl,rfl,trivial⟩ (fun u=>?_)
   refine c_sta ⟨w0,M,(1000,go0,.cells #[Vs o0.fs,Vi x139.fat,.bool x139.fbad] 78 (0,0))::H,(100190,⟨.slice (some ⟨g143,0,none⟩) [x138].length 1,3,1,[x138].length,[x138].flatMap (fun x : Int=>[Value.int .i64 x])⟩)::(16,⟨.slice A145 l144.length c146,3,1,l144.length,l144.flatMap (fun x : Int=>[Value.int .i64 x])⟩)::R,φ⟩ (fun _ h=>h)<|c_region<|g_v rfl (r_add rfl rfl rfl)<|g_v rfl r_move<|g_nil ?_
   obtain ⟨n147,hn147,hlp⟩:=nx_inl hm hnx2
   exact d_round (n147,l144,w64 (i117 + 1),x139.fat,x139.fbad,A145,c146) ⟨hlp,hc146⟩ hn147 ⟨rfl,rfl,rfl,rfl,rfl,trivial⟩ (fun W h=>(h.dropR (t:=100190) rfl).phi (fun W hφ=>hφ))
  replace hm:=ite_f hm (of_decide_eq_false h137)
  refine c_exit<|d_exit_then<|d_exit_then<|d_exit_block ?_
  replace hm:=nx_out (C:=(fun e : ((List Int)×Int×Bool) ⊕ ((List Int)×Gpeer_reader)=>Sum.elim (fun e=>m_peer_list_69_j1 o0 e.1 e.2.1 e.2.2) (fun x=>some x) e = some r)) hm hnx2 hr2
  exact d_round (l114,i118,b119,A115,c116) ⟨hm,hc116⟩ Nat.zero_lt_one ⟨rfl,trivial⟩ (fun W h=>h.phi (fun W hφ=>hφ))
 unfold m_peer_list_69_j1 at hm
 refine d_flat [(5,.slice A94 l93.length c95)] ⟨rfl,trivial⟩ (fun u=>?_)
 refine d_sta ⟨w0,M,(1000,go0,.cells #[Vs o0.fs,Vi i96,.bool b97] 78 (0,0))::H,(16,⟨.slice A94 l93.length c95,3,1,l93.length,l93.flatMap (fun x : Int=>[Value.int .i64 x])⟩)::R,φ⟩ (fun _ h=>h)<|d_then<|c_seq<|c_region<|g_v rfl r_move<|g_v rfl r_assign<|g_nil<|d_then<|c_ret ?_
 cases hm
 refine d_sta _ (fun W h=>ok_frontR (t:=16) (t':=2000) h rfl) ?_
 exact d_retC (A94,c95) Try.results69 (res_tmp (res_nil rfl)) hc95 (fun W h=>h.phi (fun W hφ=>hφ)) (.inr rfl)
theorem bld56_39 (z0 : Int) : ∀ W,(Instr.build 56 #[(0,Vi z0)]).run Try.prog W = .ok (.agg #[Vi z0,Vi 0,Ve]) W:=fun _=>by kernel_rfl
noncomputable def m_peer_reader_raw_c1 (p0 : ByteArray) (p1 : Int) (o0 : Int) : Option (ByteArray×Int×Int):=
  (m_pack_Raw p0 p1 o0).bind fun (z5 : ByteArray×Int×Int)=>
  some (z5.1,z5.2.1,z5.2.2)
theorem c_peer_reader_raw_c1 {w0 : World} {M : Nat→Prop} {H : List (Nat×Nat×Obj)} {R : List (Nat×Row)} {φ : World→Prop} (p0 : ByteArray) (p1 : Int) (go0 : Nat) (o0 : Int) (r : ByteArray×Int×Int) (hm : m_peer_reader_raw_c1 p0 p1 o0 = some r) :
    Cn Try.prog 72 #[Vs p0,Vi p1,Vp go0] ⟨w0,M,(1000,go0,.cells #[Vi o0] 3 (0,0))::H,R,φ⟩ (fun x : Unit=>.tuple #[Vs r.1,Vi r.2.1,Vi r.2.2]) (fun x=>True) (fun x=>⟨w0,M,(1000,go0,.cells #[Vi o0] 3 (0,0))::H,R,φ⟩):=by
 unfold m_peer_reader_raw_c1 at hm
 refine cn_intro (fn:=Try.f72) (N:=15) Try.func72 rfl Try.ntmps72 rfl<|c_seq<|c_region ?_
 iterate 3 refine g_v rfl r_assign ?_
 refine g_nil<|d_then<|c_seq<|c_region<|g_v rfl r_move<|g_v rfl r_move<|g_v rfl (r_load (tag:=1000) rfl rfl rfl Try.isAgg3) ?_
 replace hm:=bnd hm
 obtain ⟨⟨x1,x2,x3⟩,hx4,hm⟩:=hm
 refine g_cn ⟨w0,M,_,_,φ⟩ (fun _ h=>h) Try.call63 rfl rfl (c_pack_Raw p0 p1 o0 _ hx4) (fun _ _=>?_)
 iterate 3 refine g_v rfl (r_extract rfl rfl) ?_
 iterate 3 refine g_v rfl r_assign ?_
 refine g_nil<|d_then ?_
 refine c_flat [(5,Vs x1),(6,Vi x2),(7,Vi x3)] ⟨rfl,rfl,rfl,trivial⟩ (fun u=>?_)
 refine c_sta ⟨w0,M,(1000,go0,.cells #[Vi o0] 3 (0,0))::H,R,φ⟩ (fun _ h=>h)<|c_ret ?_
 cases hm
 exact d_retC () Try.results72 (res_tmp (res_tmp (res_tmp (res_nil rfl)))) trivial (fun W h=>h.phi (fun W hφ=>hφ)) (.inr rfl)
noncomputable def m_peer_part_37_2 (o0 : Gpeer_reader) (o1 : Int) : Option (ByteArray×Gpeer_reader):=
  if o0.fbad = true then
    some ((⟨#[]⟩ : ByteArray),o0)
  else
    (m_peer_reader_raw_c1 o0.fs o0.fat o1).bind fun (z16 : ByteArray×Int×Int)=>
    if z16.2.2 ≠ 0 then
      some ((⟨#[]⟩ : ByteArray),(⟨o0.fs,o0.fat,true⟩ : Gpeer_reader))
    else
      some (z16.1,(⟨o0.fs,z16.2.1,o0.fbad⟩ : Gpeer_reader))
theorem c_peer_part_37_2 {w0 : World} {M : Nat→Prop} {H : List (Nat×Nat×Obj)} {R : List (Nat×Row)} {φ : World→Prop} (go0 : Nat) (o0 : Gpeer_reader) (go1 : Nat) (o1 : Int) (r : ByteArray×Gpeer_reader) (hm : m_peer_part_37_2 o0 o1 = some r) :
    Cn Try.prog 37 #[Vp go0,.func (.func 72) #[] #[Vp go1]] ⟨w0,M,(1000,go0,.cells #[Vs o0.fs,Vi o0.fat,.bool o0.fbad] 78 (0,0))::(1001,go1,.cells #[Vi o1] 3 (0,0))::H,R,φ⟩ (fun x : Unit=>Vs r.1) (fun x=>True) (fun x=>⟨w0,M,(1000,go0,.cells #[Vs o0.fs,Vi r.2.fat,.bool r.2.fbad] 78 (0,0))::(1001,go1,.cells #[Vi o1] 3 (0,0))::H,R,φ⟩):=by
 unfold m_peer_part_37_2 at hm
 refine cn_intro (fn:=Try.f37) (N:=39) Try.func37 rfl Try.ntmps37 rfl<|c_seq<|c_region<|g_v rfl r_assign<|g_nil<|d_then<|c_seq<|c_region<|g_v rfl r_assign<|g_nil ?_
 refine d_then<|c_seq<|c_seq<|c_region<|g_v rfl r_move<|g_v rfl (r_nilck rfl)<|g_v rfl (r_field (n:=2) Try.underlying78 rfl Try.sizeOf4 rfl rfl)<|g_v rfl (r_load (tag:=1000) rfl rfl rfl Try.isAgg4)<|g_nil<|d_then ?_
 refine c_sta ⟨w0,M,(1000,go0,.cells #[Vs o0.fs,Vi o0.fat,.bool o0.fbad] 78 (0,0))::(1001,go1,.cells #[Vi o1] 3 (0,0))::H,R,φ⟩ (fun _ h=>h) ?_
 refine c_cond rfl (fun h1=>?_) (fun h1=>?_)
 ·
  replace hm:=ite_t hm h1
  refine c_seq<|c_region<|g_v rfl r_move<|g_v rfl r_assign<|g_nil<|d_then<|c_ret<|d_ret_then ?_
  cases hm
  exact d_retC () Try.results37 (res_tmp (res_nil rfl)) trivial (fun W h=>h.phi (fun W hφ=>hφ)) (.inr rfl)
 replace hm:=ite_f hm (bool_nt h1)
 refine c_skip<|d_then<|c_seq<|ga_start (n:=17) ⟨w0,M,(1000,go0,.cells #[Vs o0.fs,Vi o0.fat,.bool o0.fbad] 78 (0,0))::(1001,go1,.cells #[Vi o1] 3 (0,0))::H,R,φ⟩ [] #[false,false,false,false,false,false,false,false,false,false,false,false,false,false,false,false,false] (fun W h=>h.phi (fun W hφ=>hφ)) mixed rfl rfl<|ga_v (i:=0) (bz 17 1) rfl (by kernel_rfl) (fun _ _ _ _ h=>h) rfl (r_move)<|ga_v (i:=1) (bz 17 3) rfl (by kernel_rfl) (fun _ _ _ _ h=>h) rfl (r_move)<|ga_v (i:=2) (bz 17 7) rfl (by kernel_rfl) (fun _ _ _ _ h=>h) rfl (r_nilck rfl)<|ga_v (i:=3) (bz 17 15) rfl (by kernel_rfl) (fun _ _ _ _ h=>h) rfl (r_field (n:=0) Try.underlying78 rfl Try.sizeOf9 rfl rfl)<|ga_v (i:=4) (bz 17 31) rfl (by kernel_rfl) (fun _ _ _ _ h=>h) rfl (r_load (tag:=1000) rfl rfl rfl Try.isAgg9)<|ga_r (i:=5) (bz 17 63) rfl (by kernel_rfl) (by decide) rfl (r_move) ?_
 refine ga_r (i:=6) (bz 17 127) rfl (by kernel_rfl) (by decide) rfl (r_nilck rfl)<|ga_r (i:=7) (bz 17 255) rfl (by kernel_rfl) (by decide) rfl (r_field (n:=1) Try.underlying78 rfl Try.sizeOf3 rfl rfl)<|ga_r (i:=8) (bz 17 511) rfl (by kernel_rfl) (by decide) rfl (r_load (tag:=1000) rfl rfl rfl Try.isAgg3) ?_
 replace hm:=bnd hm
 obtain ⟨⟨x12,x13,x14⟩,hx15,hm⟩:=hm
 refine ga_cn (first:=#[]) (i:=9) (bz 17 1023) rfl (by kernel_rfl) (by decide)  ⟨w0,M,(1000,go1,.cells #[Vi o1] 3 (0,0))::(1000,go0,.cells #[Vs o0.fs,Vi o0.fat,.bool o0.fbad] 78 (0,0))::H,R,φ⟩ (fun W h=>(ok_front (t:=1001) (t':=1000) h rfl)) Try.call72 rfl rfl rfl (c_peer_reader_raw_c1 o0.fs o0.fat go1 o1 _ hx15) (fun _ W _ h=>(ok_front (t:=1000) (t':=1000) (ok_front (t:=1001) (t':=1001) (ok_front (t:=1000) (t':=1001) h rfl) rfl) rfl).phi (fun W hφ=>hφ)) (fun _ _=>?_)
 refine ga_sta _ (fun W h=>(ok_front (t:=1000) (t':=1001) h rfl))<|ga_r (i:=10) (bz 17 2047) rfl (by kernel_rfl) (by decide) rfl (r_move)<|ga_v (i:=11) (bz 17 4095) rfl (by kernel_rfl) (fun _ _ _ _ h=>h) rfl (r_extract rfl rfl)<|ga_v (i:=12) (bz 17 8191) rfl (by kernel_rfl) (fun _ _ _ _ h=>h) rfl (r_extract rfl rfl)<|ga_v (i:=13) (bz 17 16383) rfl (by kernel_rfl) (fun _ _ _ _ h=>h) rfl (r_extract rfl rfl)<|ga_r (i:=14) (bz 17 32767) rfl (by kernel_rfl) (by decide) rfl (r_assign)<|ga_r (i:=15) (bz 17 65535) rfl (by kernel_rfl) (by decide) rfl (r_assign)<|ga_r (i:=16) (bz 17 131071) rfl (by kernel_rfl) (by decide) rfl (r_assign)<|ga_done (by kernel_rfl)<|d_then ?_
 refine c_flat [(0,Vp go0),(5,Ve),(6,Vs x12),(7,Vi x13),(8,Vi x14)] ⟨rfl,rfl,rfl,rfl,rfl,trivial⟩ (fun u=>?_)
 refine c_sta ⟨w0,M,(1001,go1,.cells #[Vi o1] 3 (0,0))::(1000,go0,.cells #[Vs o0.fs,Vi o0.fat,.bool o0.fbad] 78 (0,0))::H,R,φ⟩ (fun _ h=>h)<|c_seq<|c_seq<|c_region<|g_v rfl r_move<|g_v rfl (r_neq rfl rfl)<|g_nil<|d_then ?_
 refine c_cond rfl (fun h17=>?_) (fun h17=>?_)
 ·
  replace hm:=ite_t hm (of_decide_eq_true h17)
  refine c_seq<|c_region<|g_v rfl r_move<|g_v rfl (r_nilck rfl)<|g_v rfl (r_field (n:=2) Try.underlying78 rfl Try.sizeOf4 rfl rfl)<|g_storeL (tag:=1000) rfl rfl rfl rfl Try.sizeOf4 rfl rfl<|g_nil<|d_then<|c_seq<|c_region ?_
  refine g_v rfl r_move<|g_v rfl r_assign<|g_nil<|d_then<|c_ret<|d_ret_then ?_
  cases hm
  exact d_retC () Try.results37 (res_tmp (res_nil rfl)) trivial (fun W h=>(ok_front (t:=1000) (t':=1000) (ok_front (t:=1001) (t':=1001) h rfl) rfl).phi (fun W hφ=>hφ)) (.inr rfl)
 replace hm:=ite_f hm (of_decide_eq_false h17)
 refine c_skip<|d_then<|c_seq<|c_region<|g_v rfl r_move<|g_v rfl r_move<|g_v rfl (r_nilck rfl)<|g_v rfl (r_field (n:=1) Try.underlying78 rfl Try.sizeOf3 rfl rfl)<|g_storeL (tag:=1000) rfl rfl rfl rfl Try.sizeOf3 rfl rfl<|g_nil ?_
 refine d_then<|c_seq<|c_region<|g_v rfl r_move<|g_v rfl r_assign<|g_nil<|d_then ?_
 refine c_flat [(4,Vs x12)] ⟨rfl,trivial⟩ (fun u=>?_)
 refine c_sta ⟨w0,M,(1001,go1,.cells #[Vi o1] 3 (0,0))::(1000,go0,.cells #[Vs o0.fs,Vi x13,.bool o0.fbad] 78 (0,0))::H,R,φ⟩ (fun _ h=>h)<|c_ret ?_
 cases hm
 exact d_retC () Try.results37 (res_tmp (res_nil rfl)) trivial (fun W h=>(ok_front (t:=1000) (t':=1000) (ok_front (t:=1001) (t':=1001) h rfl) rfl).phi (fun W hφ=>hφ)) (.inr rfl)
noncomputable def m_peer_reader_raw (p1 : Int) (o0 : Gpeer_reader) : Option (ByteArray×Gpeer_reader):=
  (m_peer_part_37_2 o0 p1).bind fun (z5 : ByteArray×Gpeer_reader)=>
  some (z5.1,(⟨o0.fs,z5.2.fat,z5.2.fbad⟩ : Gpeer_reader))
theorem c_peer_reader_raw {w0 : World} {M : Nat→Prop} {H : List (Nat×Nat×Obj)} {R : List (Nat×Row)} {φ : World→Prop} (p1 : Int) (go0 : Nat) (o0 : Gpeer_reader) (r : ByteArray×Gpeer_reader) (hm : m_peer_reader_raw p1 o0 = some r) :
    Cn Try.prog 44 #[Vp go0,Vi p1] ⟨w0,M,(1000,go0,.cells #[Vs o0.fs,Vi o0.fat,.bool o0.fbad] 78 (0,0))::H,R,φ⟩ (fun x : Unit=>Vs r.1) (fun x=>True) (fun x=>⟨w0,M,(1000,go0,.cells #[Vs o0.fs,Vi r.2.fat,.bool r.2.fbad] 78 (0,0))::H,R,φ⟩):=by
 unfold m_peer_reader_raw at hm
 refine cn_intro (fn:=Try.f44) (N:=8) Try.func44 rfl Try.ntmps44 rfl<|c_seq<|c_region ?_
 refine g_e rfl (e_box 100030 rfl) (fun g1 _=>?_)
 refine g_v rfl r_assign<|g_nil<|d_then<|c_seq<|c_region<|g_v rfl r_move<|g_v rfl (r_mkf rfl) ?_
 replace hm:=bnd hm
 obtain ⟨⟨x2,x3⟩,hx4,hm⟩:=hm
 refine g_cn ⟨w0,M,(1000,go0,.cells #[Vs o0.fs,Vi o0.fat,.bool o0.fbad] 78 (0,0))::(1001,g1,.cells #[Vi p1] 3 (0,0))::H,R,φ⟩ (fun W h=>(ok_front (t:=1000) (t':=1000) (ok_front (t:=100030) (t':=1001) h rfl) rfl)) Try.call37 rfl rfl (c_peer_part_37_2 go0 o0 g1 p1 _ hx4) (fun _ _=>?_)
 refine g_sta _ (fun W h=>(ok_front (t:=1000) (t':=1000) (ok_front (t:=1001) (t':=100030) h rfl) rfl))<|g_v rfl r_assign<|g_nil<|d_then<|c_ret ?_
 cases hm
 exact d_retC () Try.results44 (res_tmp (res_nil rfl)) trivial (fun W h=>(h.dropH (t:=100030) rfl).phi (fun W hφ=>hφ)) (.inr rfl)
noncomputable def m_peer_reader_note_c1 (o1 : Gpeer_reader) : Option (GEntry×Gpeer_reader):=
  (m_peer_reader_eight o1).bind fun (z5 : Int×Gpeer_reader)=>
  (m_peer_reader_one (⟨o1.fs,z5.2.fat,z5.2.fbad⟩ : Gpeer_reader)).bind fun (z10 : Int×Gpeer_reader)=>
  (m_peer_reader_word (⟨o1.fs,z10.2.fat,z10.2.fbad⟩ : Gpeer_reader)).bind fun (z14 : Int×Gpeer_reader)=>
  (m_peer_reader_raw (w64 z14.1) (⟨o1.fs,z14.2.fat,z14.2.fbad⟩ : Gpeer_reader)).bind fun (z18 : ByteArray×Gpeer_reader)=>
  some ((⟨z5.1,z10.1,z18.1⟩ : GEntry),(⟨o1.fs,z18.2.fat,z18.2.fbad⟩ : Gpeer_reader))
theorem c_peer_reader_note_c1 {w0 : World} {M : Nat→Prop} {H : List (Nat×Nat×Obj)} {R : List (Nat×Row)} {φ : World→Prop} (go0 : Nat) (go1 : Nat) (o1 : Gpeer_reader) (r : GEntry×Gpeer_reader) (hm : m_peer_reader_note_c1 o1 = some r) :
    Cn Try.prog 71 #[Vp go0] ⟨w0,M,(1000,go0,.cells #[Vp go1] 76 (0,0))::(1001,go1,.cells #[Vs o1.fs,Vi o1.fat,.bool o1.fbad] 78 (0,0))::H,R,φ⟩ (fun x : Unit=>.agg #[Vi r.1.fTerm,Vi r.1.fKind,Vs r.1.fData]) (fun x=>True) (fun x=>⟨w0,M,(1000,go0,.cells #[Vp go1] 76 (0,0))::(1001,go1,.cells #[Vs o1.fs,Vi r.2.fat,.bool r.2.fbad] 78 (0,0))::H,R,φ⟩):=by
 unfold m_peer_reader_note_c1 at hm
 refine cn_intro (fn:=Try.f71) (N:=18) Try.func71 rfl Try.ntmps71 rfl<|c_seq<|c_region ?_
 refine g_e rfl (e_alloc 100010 Try.zeroValue56) (fun g1 _=>?_)
 refine g_nil<|d_then<|c_seq<|c_region<|g_v rfl (r_load (tag:=1000) rfl rfl rfl Try.isAgg76) ?_
 replace hm:=bnd hm
 obtain ⟨⟨x2,x3⟩,hx4,hm⟩:=hm
 refine g_cn ⟨w0,M,(1000,go1,.cells #[Vs o1.fs,Vi o1.fat,.bool o1.fbad] 78 (0,0))::(100010,g1,.cells #[Vi 0,Vi 0,Ve] 56 (0,0))::(1000,go0,.cells #[Vp go1] 76 (0,0))::H,R,φ⟩ (fun W h=>(ok_front (t:=1001) (t':=1000) h rfl)) Try.call36 rfl rfl (c_peer_reader_eight go1 o1 _ hx4) (fun _ _=>?_)
 refine g_sta _ (fun W h=>(ok_front (t:=1000) (t':=1001) h rfl))<|g_v rfl (r_build _ rfl (bld56_39 _)) ?_
 refine g_e rfl (e_alloc 100020 Try.zeroValue56) (fun g6 _=>?_)
 refine g_storeL (tag:=100020) rfl rfl rfl rfl Try.sizeOf56 rfl rfl<|g_nil<|d_then<|c_seq<|c_region<|g_v rfl (r_load (tag:=1000) rfl rfl rfl Try.isAgg76) ?_
 replace hm:=bnd hm
 obtain ⟨⟨x7,x8⟩,hx9,hm⟩:=hm
 refine g_cn ⟨w0,M,(1000,go1,.cells #[Vs o1.fs,Vi x3.fat,.bool x3.fbad] 78 (0,0))::(100020,g6,.cells #[Vi x2,Vi 0,Ve] 56 (0,0))::(100010,g1,.cells #[Vi 0,Vi 0,Ve] 56 (0,0))::(1000,go0,.cells #[Vp go1] 76 (0,0))::H,R,φ⟩ (fun W h=>(ok_front (t:=1001) (t':=1000) h rfl)) Try.call35 rfl rfl (c_peer_reader_one go1 (⟨o1.fs,x3.fat,x3.fbad⟩ : Gpeer_reader) _ hx9) (fun _ _=>?_)
 refine g_sta _ (fun W h=>(ok_front (t:=1000) (t':=1001) h rfl))<|g_v rfl (r_field (n:=1) Try.underlying56 rfl Try.sizeOf3 rfl rfl)<|g_storeL (tag:=100020) rfl rfl rfl rfl Try.sizeOf3 rfl rfl<|g_nil<|d_then ?_
 refine c_flat [(0,Vp go0),(1,Vp g1),(2,Vp g6)] ⟨rfl,rfl,rfl,trivial⟩ (fun u=>?_)
 refine c_sta ⟨w0,M,(1001,go1,.cells #[Vs o1.fs,Vi x8.fat,.bool x8.fbad] 78 (0,0))::(100020,g6,.cells #[Vi x2,Vi x7,Ve] 56 (0,0))::(100010,g1,.cells #[Vi 0,Vi 0,Ve] 56 (0,0))::(1000,go0,.cells #[Vp go1] 76 (0,0))::H,R,φ⟩ (fun _ h=>h)<|c_seq<|c_region<|g_v rfl (r_load (tag:=1000) rfl rfl rfl Try.isAgg76) ?_
 replace hm:=bnd hm
 obtain ⟨⟨x11,x12⟩,hx13,hm⟩:=hm
 refine g_cn ⟨w0,M,(1000,go1,.cells #[Vs o1.fs,Vi x8.fat,.bool x8.fbad] 78 (0,0))::(100020,g6,.cells #[Vi x2,Vi x7,Ve] 56 (0,0))::(100010,g1,.cells #[Vi 0,Vi 0,Ve] 56 (0,0))::(1000,go0,.cells #[Vp go1] 76 (0,0))::H,R,φ⟩ (fun W h=>(ok_front (t:=1001) (t':=1000) h rfl)) Try.call39 rfl rfl (c_peer_reader_word go1 (⟨o1.fs,x8.fat,x8.fbad⟩ : Gpeer_reader) _ hx13) (fun _ _=>?_)
 refine g_sta _ (fun W h=>(ok_front (t:=1000) (t':=1001) h rfl))<|g_v rfl r_assign<|g_nil<|d_then<|c_seq<|c_region<|g_v rfl (r_load (tag:=1000) rfl rfl rfl Try.isAgg76)<|g_v rfl r_move<|g_v rfl (r_conv Try.underlying22 Try.underlying3 rfl rfl) ?_
 replace hm:=bnd hm
 obtain ⟨⟨x15,x16⟩,hx17,hm⟩:=hm
 refine g_cn ⟨w0,M,(1000,go1,.cells #[Vs o1.fs,Vi x12.fat,.bool x12.fbad] 78 (0,0))::(100020,g6,.cells #[Vi x2,Vi x7,Ve] 56 (0,0))::(100010,g1,.cells #[Vi 0,Vi 0,Ve] 56 (0,0))::(1000,go0,.cells #[Vp go1] 76 (0,0))::H,R,φ⟩ (fun W h=>(ok_front (t:=1001) (t':=1000) h rfl)) Try.call44 rfl rfl (c_peer_reader_raw (w64 x11) go1 (⟨o1.fs,x12.fat,x12.fbad⟩ : Gpeer_reader) _ hx17) (fun _ _=>?_)
 refine g_sta _ (fun W h=>(ok_front (t:=1000) (t':=1001) h rfl))<|g_v rfl (r_field (n:=2) Try.underlying56 rfl Try.sizeOf9 rfl rfl)<|g_storeL (tag:=100020) rfl rfl rfl rfl Try.sizeOf9 rfl rfl<|g_nil<|d_then ?_
 refine c_flat [(1,Vp g1),(2,Vp g6)] ⟨rfl,rfl,trivial⟩ (fun u=>?_)
 refine c_sta ⟨w0,M,(1001,go1,.cells #[Vs o1.fs,Vi x16.fat,.bool x16.fbad] 78 (0,0))::(100020,g6,.cells #[Vi x2,Vi x7,Vs x15] 56 (0,0))::(100010,g1,.cells #[Vi 0,Vi 0,Ve] 56 (0,0))::(1000,go0,.cells #[Vp go1] 76 (0,0))::H,R,φ⟩ (fun _ h=>h)<|c_seq<|c_region<|g_v rfl (r_loadA (tag:=100020) rfl rfl Try.isAgg56 Try.sizeOf56 rfl rfl)<|g_storeL (tag:=100010) rfl rfl rfl rfl Try.sizeOf56 rfl rfl<|g_nil<|d_then<|c_ret ?_
 cases hm
 exact d_retC () Try.results71 (res_agg (tag:=100010) rfl rfl Try.isAgg56 Try.sizeOf56 (res_nil rfl)) trivial (fun W h=>(ok_front (t:=1000) (t':=1000) (ok_front (t:=1001) (t':=1001) ((h.dropH (t:=100020) rfl).dropH (t:=100010) rfl) rfl) rfl).phi (fun W hφ=>hφ)) (.inr rfl)
noncomputable def m_peer_list_70_j1 (o0 : Gpeer_reader) (l98 : List GEntry) (i101 : Int) (b102 : Bool) : Option ((List GEntry)×Gpeer_reader):=
  some (l98,(⟨o0.fs,i101,b102⟩ : Gpeer_reader))
noncomputable def m_peer_list_70_s2 (x1 : Int) (o0 : Gpeer_reader) (l120 : List GEntry) (i123 : Int) (i124 : Int) (b125 : Bool) : Option (((List GEntry)×Int×Int×Bool) ⊕ (((List GEntry)×Int×Bool) ⊕ ((List GEntry)×Gpeer_reader))):=
  if i123 < x1 then
    (m_peer_reader_note_c1 (⟨o0.fs,i124,b125⟩ : Gpeer_reader)).bind fun (z148 : GEntry×Gpeer_reader)=>
    if z148.2.fbad = true then
      some (.inr (.inr (([] : List GEntry),(⟨o0.fs,z148.2.fat,z148.2.fbad⟩ : Gpeer_reader))))
    else
      (app 32 l120 [z148.1]).bind fun l152=>
      some (.inl (l152,w64 (i123 + 1),z148.2.fat,z148.2.fbad))
  else
    some (.inr (.inl (l120,i124,b125)))
noncomputable def m_peer_list_70 (o0 : Gpeer_reader) : Option ((List GEntry)×Gpeer_reader):=
  (m_peer_reader_one o0).bind fun (z4 : Int×Gpeer_reader)=>
  (loop (fun s=>m_peer_list_70_s2 z4.1 o0 s.1 s.2.1 s.2.2.1 s.2.2.2) (([] : List GEntry),0,z4.2.fat,z4.2.fbad)).bind fun e=>Sum.elim (fun e=>m_peer_list_70_j1 o0 e.1 e.2.1 e.2.2) (fun x=>some x) e
theorem c_peer_list_70 {w0 : World} {M : Nat→Prop} {H : List (Nat×Nat×Obj)} {R : List (Nat×Row)} {φ : World→Prop} (go0 : Nat) (o0 : Gpeer_reader) (go1 : Nat) (r : (List GEntry)×Gpeer_reader) (hm : m_peer_list_70 o0 = some r) :
    Cn Try.prog 70 #[Vp go0,.func (.func 71) #[] #[Vp go1]] ⟨w0,M,(1000,go0,.cells #[Vs o0.fs,Vi o0.fat,.bool o0.fbad] 78 (0,0))::(1001,go1,.cells #[Vp go0] 76 (0,0))::H,R,φ⟩ (fun x : Option Addr×Nat=>.slice x.1 r.1.length x.2) (fun x=>r.1.length ≤ x.2) (fun x=>⟨w0,M,(1000,go0,.cells #[Vs o0.fs,Vi r.2.fat,.bool r.2.fbad] 78 (0,0))::(1001,go1,.cells #[Vp go0] 76 (0,0))::H,(2000,⟨.slice x.1 r.1.length x.2,56,3,r.1.length,r.1.flatMap GEntry.enc⟩)::R,φ⟩):=by
 unfold m_peer_list_70 at hm
 refine cn_intro (fn:=Try.f70) (N:=23) Try.func70 rfl Try.ntmps70 rfl<|c_seq<|c_region<|g_v rfl r_assign<|g_nil<|d_then<|c_seq<|c_region<|g_v rfl r_assign<|g_nil ?_
 refine d_then<|c_seq<|c_seq<|c_region<|g_v rfl r_move ?_
 replace hm:=bnd hm
 obtain ⟨⟨x1,x2⟩,hx3,hm⟩:=hm
 refine g_cn ⟨w0,M,(1000,go0,.cells #[Vs o0.fs,Vi o0.fat,.bool o0.fbad] 78 (0,0))::(1001,go1,.cells #[Vp go0] 76 (0,0))::H,R,φ⟩ (fun W h=>(ok_front (t:=1000) (t':=1000) h rfl)) Try.call35 rfl rfl (c_peer_reader_one go0 o0 _ hx3) (fun _ _=>?_)
 refine g_sta _ (fun W h=>(ok_front (t:=1000) (t':=1000) h rfl))<|g_v rfl r_move<|g_nil<|d_then<|c_sta _ (fun W h=>nilR h 16 56 3) ?_
 refine c_cut (ι:=(List GEntry)×Int×Bool×Option Addr×Nat) [5] (fun ⟨l98,i101,b102,A99,c100⟩=>[(5,.slice A99 l98.length c100)]) (fun ⟨l98,i101,b102,A99,c100⟩=>⟨w0,M,(1000,go0,.cells #[Vs o0.fs,Vi i101,.bool b102] 78 (0,0))::(1001,go1,.cells #[Vp go0] 76 (0,0))::H,(16,⟨.slice A99 l98.length c100,56,3,l98.length,l98.flatMap GEntry.enc⟩)::R,φ⟩) (fun ⟨l98,i101,b102,A99,c100⟩=>m_peer_list_70_j1 o0 l98 i101 b102 = some r∧l98.length ≤ c100) ?_ (fun ⟨l98,i101,b102,A99,c100⟩ u ⟨hm,hc100⟩=>?_)
 ·
  refine c_block ?_
  replace hm:=bnd hm
  obtain ⟨out2,hl2,hr2⟩:=hm
  obtain ⟨n143',hl2⟩:=loop_lp hl2
  refine c_loopU (ι:=Nat×(List GEntry)×Int×Int×Bool×Option Addr×Nat) [0,1,5,8,9] (fun ⟨n143,l120,i123,i124,b125,A121,c122⟩=>[(5,.slice A121 l120.length c122),(9,Vi i123)]) (fun ⟨n143,l120,i123,i124,b125,A121,c122⟩=>⟨w0,M,(1000,go0,.cells #[Vs o0.fs,Vi i124,.bool b125] 78 (0,0))::(1001,go1,.cells #[Vp go0] 76 (0,0))::H,(16,⟨.slice A121 l120.length c122,56,3,l120.length,l120.flatMap GEntry.enc⟩)::R,φ⟩) (fun ⟨n143,l120,i123,i124,b125,A121,c122⟩=>Lp (fun s=>m_peer_list_70_s2 x1 o0 s.1 s.2.1 s.2.2.1 s.2.2.2) n143 (l120,i123,i124,b125) out2∧l120.length ≤ c122) (fun ⟨n143,l120,i123,i124,b125,A121,c122⟩=>n143) (n143',([] : List GEntry),0,x2.fat,x2.fbad,none,0) ⟨hl2,(Nat.le_refl 0)⟩ ⟨rfl,rfl,rfl,rfl,rfl,trivial⟩ (fun W h=>h.phi (fun W hφ=>hφ)) (fun ⟨n143,l120,i123,i124,b125,A121,c122⟩ u ⟨hlp,hc122⟩=>?_)
  obtain ⟨o2,hm,hnx2⟩:=lp_step hlp
  clear hlp
  replace hm : m_peer_list_70_s2 x1 o0 l120 i123 i124 b125 = some o2:=hm
  unfold m_peer_list_70_s2 at hm
  refine c_flat [(0,Vp go0),(1,.func (.func 71) #[] #[Vp go1]),(5,.slice A121 l120.length c122),(8,Vi x1),(9,Vi i123)] ⟨rfl,rfl,rfl,rfl,rfl,trivial⟩ (fun u=>?_)
  refine c_sta ⟨w0,M,(1000,go0,.cells #[Vs o0.fs,Vi i124,.bool b125] 78 (0,0))::(1001,go1,.cells #[Vp go0] 76 (0,0))::H,(16,⟨.slice A121 l120.length c122,56,3,l120.length,l120.flatMap GEntry.enc⟩)::R,φ⟩ (fun _ h=>h)<|c_seq<|c_region<|g_v rfl (r_lss rfl rfl)<|g_nil<|d_then<|c_seq ?_
  refine c_cond rfl (fun h144=>?_) (fun h144=>?_)
  ·
   replace hm:=ite_t hm (of_decide_eq_true h144)
   refine c_skip<|d_then<|c_seq<|c_block<|c_seq<|c_region<|g_v rfl r_move ?_
   replace hm:=bnd hm
   obtain ⟨⟨x145,x146⟩,hx147,hm⟩:=hm
   refine g_cnv ⟨w0,M,(1000,go1,.cells #[Vp go0] 76 (0,0))::(1001,go0,.cells #[Vs o0.fs,Vi i124,.bool b125] 78 (0,0))::H,(16,⟨.slice A121 l120.length c122,56,3,l120.length,l120.flatMap GEntry.enc⟩)::R,φ⟩ (fun W h=>(ok_front (t:=9001) (t':=1000) (ok_front (t:=9000) (t':=1001) (ok_front (t:=1001) (t':=9001) (ok_front (t:=1000) (t':=9000) h rfl) rfl) rfl) rfl)) Try.call71 rfl rfl rfl (c_peer_reader_note_c1 go1 go0 (⟨o0.fs,i124,b125⟩ : Gpeer_reader) _ hx147) (fun _ _=>?_)
   refine g_sta _ (fun W h=>(ok_front (t:=9001) (t':=1001) (ok_front (t:=9000) (t':=1000) (ok_front (t:=1000) (t':=9001) (ok_front (t:=1001) (t':=9000) h rfl) rfl) rfl) rfl)) ?_
   refine g_e rfl (e_alloc 100060 Try.zeroValue56) (fun g149 _=>?_)
   refine g_storeL (tag:=100060) rfl rfl rfl rfl Try.sizeOf56 rfl rfl<|g_nil<|d_then<|c_seq<|c_seq<|c_region<|g_v rfl r_move<|g_v rfl (r_nilck rfl)<|g_v rfl (r_field (n:=2) Try.underlying78 rfl Try.sizeOf4 rfl rfl)<|g_v rfl (r_load (tag:=1000) rfl rfl rfl Try.isAgg4) ?_
   refine g_nil<|d_then ?_
   refine c_flat [(0,Vp go0),(1,.func (.func 71) #[] #[Vp go1]),(5,.slice A121 l120.length c122),(6,Vp g149),(8,Vi x1),(9,Vi i123),(16,.bool x146.fbad)] ⟨rfl,rfl,rfl,rfl,rfl,rfl,rfl,trivial⟩ (fun u=>?_)
   refine c_sta ⟨w0,M,(100060,g149,.cells #[Vi x145.fTerm,Vi x145.fKind,Vs x145.fData] 56 (0,0))::(1001,go1,.cells #[Vp go0] 76 (0,0))::(1000,go0,.cells #[Vs o0.fs,Vi x146.fat,.bool x146.fbad] 78 (0,0))::H,(16,⟨.slice A121 l120.length c122,56,3,l120.length,l120.flatMap GEntry.enc⟩)::R,φ⟩ (fun _ h=>h) ?_
   refine c_cond rfl (fun h150=>?_) (fun h150=>?_)
   ·
    replace hm:=ite_t hm h150
    refine c_seq<|c_region<|g_v rfl r_assign<|g_nil<|d_then<|c_ret<|d_ret_then<|d_ret_block<|d_ret_then<|d_ret_then ?_
    refine d_ret_block<|d_ret_then<|d_ret_then ?_
    replace hm:=nx_out (C:=(fun e : ((List GEntry)×Int×Bool) ⊕ ((List GEntry)×Gpeer_reader)=>Sum.elim (fun e=>m_peer_list_70_j1 o0 e.1 e.2.1 e.2.2) (fun x=>some x) e = some r)) hm hnx2 hr2
    replace hm : some (([] : List GEntry),(⟨o0.fs,x146.fat,x146.fbad⟩ : Gpeer_reader)) = some r:=hm
    cases hm
    refine d_sta _ (fun W h=>nilR h 21 56 3)<|d_sta _ (fun W h=>ok_frontR (t:=21) (t':=2000) h rfl) ?_
    exact d_retC (none,0) Try.results70 (res_tmp (res_nil rfl)) (Nat.le_refl 0) (fun W h=>(ok_front (t:=1000) (t':=1000) (ok_front (t:=1001) (t':=1001) ((h.dropR (t:=16) rfl).dropH (t:=100060) rfl) rfl) rfl).phi (fun W hφ=>hφ)) (.inr rfl)
   replace hm:=ite_f hm (bool_nt h150)
   refine c_skip<|d_then<|c_region<|g_v rfl r_move<|g_v rfl (r_loadA (tag:=100060) rfl rfl Try.isAgg56 Try.sizeOf56 rfl rfl) ?_
   refine g_e rfl (e_lit (tag:=100190) (l:=[x145]) (enc:=GEntry.enc) (sz:=3) rfl Try.underlying26 (lit56_32 _ _ _) rfl rfl (fun _=>rfl)) (fun g151 _=>?_)
   replace hm:=bnd hm
   obtain ⟨l152,hl152,hm⟩:=hm
   refine g_e rfl (e_appR (enc:=GEntry.enc) (l:=l120) (l1:=[x145]) (l2:=l152) (tag:=16) Try.underlying26 inf56_33 rfl (by decide) (by decide) (fun _=>rfl) (fun _=>rfl) rfl hc122 rfl rfl (fun W hS=>rowCl (tag:=100190) rfl W hS) hl152) (fun ⟨A153,c154⟩ hc154=>?_)
   refine g_v rfl r_assign<|g_nil<|d_normal_block<|d_then<|c_region<|g_v rfl (r_add rfl rfl rfl)<|g_v rfl r_move<|g_nil ?_
   obtain ⟨n155,hn155,hlp⟩:=nx_inl hm hnx2
   exact d_round (n155,l152,w64 (i123 + 1),x146.fat,x146.fbad,A153,c154) ⟨hlp,hc154⟩ hn155 ⟨rfl,rfl,rfl,rfl,rfl,trivial⟩ (fun W h=>(ok_front (t:=1000) (t':=1000) (ok_front (t:=1001) (t':=1001) ((h.dropR (t:=100190) rfl).dropH (t:=100060) rfl) rfl) rfl).phi (fun W hφ=>hφ))
  replace hm:=ite_f hm (of_decide_eq_false h144)
  refine c_exit<|d_exit_then<|d_exit_then<|d_exit_block ?_
  replace hm:=nx_out (C:=(fun e : ((List GEntry)×Int×Bool) ⊕ ((List GEntry)×Gpeer_reader)=>Sum.elim (fun e=>m_peer_list_70_j1 o0 e.1 e.2.1 e.2.2) (fun x=>some x) e = some r)) hm hnx2 hr2
  exact d_round (l120,i124,b125,A121,c122) ⟨hm,hc122⟩ Nat.zero_lt_one ⟨rfl,trivial⟩ (fun W h=>h.phi (fun W hφ=>hφ))
 unfold m_peer_list_70_j1 at hm
 refine d_flat [(5,.slice A99 l98.length c100)] ⟨rfl,trivial⟩ (fun u=>?_)
 refine d_sta ⟨w0,M,(1000,go0,.cells #[Vs o0.fs,Vi i101,.bool b102] 78 (0,0))::(1001,go1,.cells #[Vp go0] 76 (0,0))::H,(16,⟨.slice A99 l98.length c100,56,3,l98.length,l98.flatMap GEntry.enc⟩)::R,φ⟩ (fun _ h=>h)<|d_then<|c_seq<|c_region<|g_v rfl r_move<|g_v rfl r_assign<|g_nil<|d_then<|c_ret ?_
 cases hm
 refine d_sta _ (fun W h=>ok_frontR (t:=16) (t':=2000) h rfl) ?_
 exact d_retC (A99,c100) Try.results70 (res_tmp (res_nil rfl)) hc100 (fun W h=>h.phi (fun W hφ=>hφ)) (.inr rfl)
noncomputable def m_peer_reader_note (o0 : Gpeer_reader) : Option (GNote×Gpeer_reader):=
  (m_peer_reader_one o0).bind fun (z6 : Int×Gpeer_reader)=>
  (m_peer_reader_one (⟨o0.fs,z6.2.fat,z6.2.fbad⟩ : Gpeer_reader)).bind fun (z11 : Int×Gpeer_reader)=>
  (m_peer_reader_one (⟨o0.fs,z11.2.fat,z11.2.fbad⟩ : Gpeer_reader)).bind fun (z15 : Int×Gpeer_reader)=>
  (m_peer_reader_eight (⟨o0.fs,z15.2.fat,z15.2.fbad⟩ : Gpeer_reader)).bind fun (z19 : Int×Gpeer_reader)=>
  (m_peer_reader_eight (⟨o0.fs,z19.2.fat,z19.2.fbad⟩ : Gpeer_reader)).bind fun (z23 : Int×Gpeer_reader)=>
  (m_peer_reader_eight (⟨o0.fs,z23.2.fat,z23.2.fbad⟩ : Gpeer_reader)).bind fun (z27 : Int×Gpeer_reader)=>
  (m_peer_reader_eight (⟨o0.fs,z27.2.fat,z27.2.fbad⟩ : Gpeer_reader)).bind fun (z31 : Int×Gpeer_reader)=>
  (m_peer_reader_bit (⟨o0.fs,z31.2.fat,z31.2.fbad⟩ : Gpeer_reader)).bind fun (z35 : Bool×Gpeer_reader)=>
  (m_peer_list_69 (⟨o0.fs,z35.2.fat,z35.2.fbad⟩ : Gpeer_reader)).bind fun (z42 : (List Int)×Gpeer_reader)=>
  (m_peer_list_70 (⟨o0.fs,z42.2.fat,z42.2.fbad⟩ : Gpeer_reader)).bind fun (z49 : (List GEntry)×Gpeer_reader)=>
  (m_peer_part_59 (⟨o0.fs,z49.2.fat,z49.2.fbad⟩ : Gpeer_reader)).bind fun (z53 : Int×Gpeer_reader)=>
  (m_peer_reader_raw (w64 z53.1) (⟨o0.fs,z53.2.fat,z53.2.fbad⟩ : Gpeer_reader)).bind fun (z57 : ByteArray×Gpeer_reader)=>
  some ((⟨z6.1,z11.1,z15.1,z19.1,z23.1,z27.1,z31.1,z35.1,z49.1,z42.1,z57.1⟩ : GNote),(⟨o0.fs,z57.2.fat,z57.2.fbad⟩ : Gpeer_reader))
theorem c_peer_reader_note {w0 : World} {M : Nat→Prop} {H : List (Nat×Nat×Obj)} {R : List (Nat×Row)} {φ : World→Prop} (go0 : Nat) (o0 : Gpeer_reader) (r : GNote×Gpeer_reader) (hm : m_peer_reader_note o0 = some r) :
    Cn Try.prog 43 #[Vp go0] ⟨w0,M,(1000,go0,.cells #[Vs o0.fs,Vi o0.fat,.bool o0.fbad] 78 (0,0))::H,R,φ⟩ (fun x : Option Addr×Nat×Option Addr×Nat=>.agg #[Vi r.1.fKind,Vi r.1.fFrom,Vi r.1.fTo,Vi r.1.fTerm,Vi r.1.fIndex,Vi r.1.fLogTerm,Vi r.1.fCommit,.bool r.1.fGood,.slice x.1 r.1.fEntries.length x.2.1,.slice x.2.2.1 r.1.fVoters.length x.2.2.2,Vs r.1.fSnap]) (fun x=>r.1.fEntries.length ≤ x.2.1∧r.1.fVoters.length ≤ x.2.2.2) (fun x=>⟨w0,M,(1000,go0,.cells #[Vs o0.fs,Vi r.2.fat,.bool r.2.fbad] 78 (0,0))::H,R,fun W=>φ W∧Cl W x.1 (r.1.fEntries.flatMap GEntry.enc)∧Cl W x.2.2.1 (r.1.fVoters.flatMap (fun x : Int=>[Value.int .i64 x]))⟩):=by
 unfold m_peer_reader_note at hm
 refine cn_intro (fn:=Try.f43) (N:=48) Try.func43 rfl Try.ntmps43 rfl<|c_seq<|c_region ?_
 refine g_e rfl (e_box 100010 rfl) (fun g1 _=>?_)
 refine g_e rfl (e_alloc 100020 Try.zeroValue29) (fun g2 _=>?_)
 refine g_nil<|d_then<|c_seq<|c_region<|g_v rfl (r_load (tag:=100010) rfl rfl rfl Try.isAgg76) ?_
 replace hm:=bnd hm
 obtain ⟨⟨x3,x4⟩,hx5,hm⟩:=hm
 refine g_cn ⟨w0,M,(1000,go0,.cells #[Vs o0.fs,Vi o0.fat,.bool o0.fbad] 78 (0,0))::(100020,g2,.cells #[Vi 0,Vi 0,Vi 0,Vi 0,Vi 0,Vi 0,Vi 0,.bool false,V0,V0,Ve] 29 (0,0))::(100010,g1,.cells #[Vp go0] 76 (0,0))::H,R,φ⟩ (fun W h=>(ok_front (t:=1000) (t':=1000) h rfl)) Try.call35 rfl rfl (c_peer_reader_one go0 o0 _ hx5) (fun _ _=>?_)
 refine g_sta _ (fun W h=>(ok_front (t:=1000) (t':=1000) h rfl))<|g_v rfl (r_build _ rfl (bld29_38 _)) ?_
 refine g_e rfl (e_alloc 100030 Try.zeroValue29) (fun g7 _=>?_)
 refine g_storeL (tag:=100030) rfl rfl rfl rfl Try.sizeOf29 rfl rfl<|g_nil<|d_then<|c_seq<|c_region<|g_v rfl (r_load (tag:=100010) rfl rfl rfl Try.isAgg76) ?_
 replace hm:=bnd hm
 obtain ⟨⟨x8,x9⟩,hx10,hm⟩:=hm
 refine g_cn ⟨w0,M,(1000,go0,.cells #[Vs o0.fs,Vi x4.fat,.bool x4.fbad] 78 (0,0))::(100030,g7,.cells #[Vi x3,Vi 0,Vi 0,Vi 0,Vi 0,Vi 0,Vi 0,.bool false,V0,V0,Ve] 29 (0,0))::(100020,g2,.cells #[Vi 0,Vi 0,Vi 0,Vi 0,Vi 0,Vi 0,Vi 0,.bool false,V0,V0,Ve] 29 (0,0))::(100010,g1,.cells #[Vp go0] 76 (0,0))::H,R,φ⟩ (fun W h=>(ok_front (t:=1000) (t':=1000) h rfl)) Try.call35 rfl rfl (c_peer_reader_one go0 (⟨o0.fs,x4.fat,x4.fbad⟩ : Gpeer_reader) _ hx10) (fun _ _=>?_)
 refine g_sta _ (fun W h=>(ok_front (t:=1000) (t':=1000) h rfl))<|g_v rfl (r_field (n:=1) Try.underlying29 rfl Try.sizeOf3 rfl rfl)<|g_storeL (tag:=100030) rfl rfl rfl rfl Try.sizeOf3 rfl rfl<|g_nil<|d_then ?_
 refine c_flat [(1,Vp g1),(2,Vp g2),(3,Vp g7)] ⟨rfl,rfl,rfl,trivial⟩ (fun u=>?_)
 refine c_sta ⟨w0,M,(1000,go0,.cells #[Vs o0.fs,Vi x9.fat,.bool x9.fbad] 78 (0,0))::(100030,g7,.cells #[Vi x3,Vi x8,Vi 0,Vi 0,Vi 0,Vi 0,Vi 0,.bool false,V0,V0,Ve] 29 (0,0))::(100020,g2,.cells #[Vi 0,Vi 0,Vi 0,Vi 0,Vi 0,Vi 0,Vi 0,.bool false,V0,V0,Ve] 29 (0,0))::(100010,g1,.cells #[Vp go0] 76 (0,0))::H,R,φ⟩ (fun _ h=>h)<|c_seq<|c_region<|g_v rfl (r_load (tag:=100010) rfl rfl rfl Try.isAgg76) ?_
 replace hm:=bnd hm
 obtain ⟨⟨x12,x13⟩,hx14,hm⟩:=hm
 refine g_cn ⟨w0,M,(1000,go0,.cells #[Vs o0.fs,Vi x9.fat,.bool x9.fbad] 78 (0,0))::(100030,g7,.cells #[Vi x3,Vi x8,Vi 0,Vi 0,Vi 0,Vi 0,Vi 0,.bool false,V0,V0,Ve] 29 (0,0))::(100020,g2,.cells #[Vi 0,Vi 0,Vi 0,Vi 0,Vi 0,Vi 0,Vi 0,.bool false,V0,V0,Ve] 29 (0,0))::(100010,g1,.cells #[Vp go0] 76 (0,0))::H,R,φ⟩ (fun W h=>(ok_front (t:=1000) (t':=1000) h rfl)) Try.call35 rfl rfl (c_peer_reader_one go0 (⟨o0.fs,x9.fat,x9.fbad⟩ : Gpeer_reader) _ hx14) (fun _ _=>?_)
 refine g_sta _ (fun W h=>(ok_front (t:=1000) (t':=1000) h rfl))<|g_v rfl (r_field (n:=2) Try.underlying29 rfl Try.sizeOf3 rfl rfl)<|g_storeL (tag:=100030) rfl rfl rfl rfl Try.sizeOf3 rfl rfl<|g_nil<|d_then<|c_seq<|c_region<|g_v rfl (r_load (tag:=100010) rfl rfl rfl Try.isAgg76) ?_
 replace hm:=bnd hm
 obtain ⟨⟨x16,x17⟩,hx18,hm⟩:=hm
 refine g_cn ⟨w0,M,(1000,go0,.cells #[Vs o0.fs,Vi x13.fat,.bool x13.fbad] 78 (0,0))::(100030,g7,.cells #[Vi x3,Vi x8,Vi x12,Vi 0,Vi 0,Vi 0,Vi 0,.bool false,V0,V0,Ve] 29 (0,0))::(100020,g2,.cells #[Vi 0,Vi 0,Vi 0,Vi 0,Vi 0,Vi 0,Vi 0,.bool false,V0,V0,Ve] 29 (0,0))::(100010,g1,.cells #[Vp go0] 76 (0,0))::H,R,φ⟩ (fun W h=>(ok_front (t:=1000) (t':=1000) h rfl)) Try.call36 rfl rfl (c_peer_reader_eight go0 (⟨o0.fs,x13.fat,x13.fbad⟩ : Gpeer_reader) _ hx18) (fun _ _=>?_)
 refine g_sta _ (fun W h=>(ok_front (t:=1000) (t':=1000) h rfl))<|g_v rfl (r_field (n:=3) Try.underlying29 rfl Try.sizeOf3 rfl rfl)<|g_storeL (tag:=100030) rfl rfl rfl rfl Try.sizeOf3 rfl rfl<|g_nil<|d_then<|c_seq<|c_region<|g_v rfl (r_load (tag:=100010) rfl rfl rfl Try.isAgg76) ?_
 replace hm:=bnd hm
 obtain ⟨⟨x20,x21⟩,hx22,hm⟩:=hm
 refine g_cn ⟨w0,M,(1000,go0,.cells #[Vs o0.fs,Vi x17.fat,.bool x17.fbad] 78 (0,0))::(100030,g7,.cells #[Vi x3,Vi x8,Vi x12,Vi x16,Vi 0,Vi 0,Vi 0,.bool false,V0,V0,Ve] 29 (0,0))::(100020,g2,.cells #[Vi 0,Vi 0,Vi 0,Vi 0,Vi 0,Vi 0,Vi 0,.bool false,V0,V0,Ve] 29 (0,0))::(100010,g1,.cells #[Vp go0] 76 (0,0))::H,R,φ⟩ (fun W h=>(ok_front (t:=1000) (t':=1000) h rfl)) Try.call36 rfl rfl (c_peer_reader_eight go0 (⟨o0.fs,x17.fat,x17.fbad⟩ : Gpeer_reader) _ hx22) (fun _ _=>?_)
 refine g_sta _ (fun W h=>(ok_front (t:=1000) (t':=1000) h rfl))<|g_v rfl (r_field (n:=4) Try.underlying29 rfl Try.sizeOf3 rfl rfl)<|g_storeL (tag:=100030) rfl rfl rfl rfl Try.sizeOf3 rfl rfl<|g_nil<|d_then ?_
 refine c_flat [(1,Vp g1),(2,Vp g2),(3,Vp g7)] ⟨rfl,rfl,rfl,trivial⟩ (fun u=>?_)
 refine c_sta ⟨w0,M,(1000,go0,.cells #[Vs o0.fs,Vi x21.fat,.bool x21.fbad] 78 (0,0))::(100030,g7,.cells #[Vi x3,Vi x8,Vi x12,Vi x16,Vi x20,Vi 0,Vi 0,.bool false,V0,V0,Ve] 29 (0,0))::(100020,g2,.cells #[Vi 0,Vi 0,Vi 0,Vi 0,Vi 0,Vi 0,Vi 0,.bool false,V0,V0,Ve] 29 (0,0))::(100010,g1,.cells #[Vp go0] 76 (0,0))::H,R,φ⟩ (fun _ h=>h)<|c_seq<|c_region<|g_v rfl (r_load (tag:=100010) rfl rfl rfl Try.isAgg76) ?_
 replace hm:=bnd hm
 obtain ⟨⟨x24,x25⟩,hx26,hm⟩:=hm
 refine g_cn ⟨w0,M,(1000,go0,.cells #[Vs o0.fs,Vi x21.fat,.bool x21.fbad] 78 (0,0))::(100030,g7,.cells #[Vi x3,Vi x8,Vi x12,Vi x16,Vi x20,Vi 0,Vi 0,.bool false,V0,V0,Ve] 29 (0,0))::(100020,g2,.cells #[Vi 0,Vi 0,Vi 0,Vi 0,Vi 0,Vi 0,Vi 0,.bool false,V0,V0,Ve] 29 (0,0))::(100010,g1,.cells #[Vp go0] 76 (0,0))::H,R,φ⟩ (fun W h=>(ok_front (t:=1000) (t':=1000) h rfl)) Try.call36 rfl rfl (c_peer_reader_eight go0 (⟨o0.fs,x21.fat,x21.fbad⟩ : Gpeer_reader) _ hx26) (fun _ _=>?_)
 refine g_sta _ (fun W h=>(ok_front (t:=1000) (t':=1000) h rfl))<|g_v rfl (r_field (n:=5) Try.underlying29 rfl Try.sizeOf3 rfl rfl)<|g_storeL (tag:=100030) rfl rfl rfl rfl Try.sizeOf3 rfl rfl<|g_nil<|d_then<|c_seq<|c_region<|g_v rfl (r_load (tag:=100010) rfl rfl rfl Try.isAgg76) ?_
 replace hm:=bnd hm
 obtain ⟨⟨x28,x29⟩,hx30,hm⟩:=hm
 refine g_cn ⟨w0,M,(1000,go0,.cells #[Vs o0.fs,Vi x25.fat,.bool x25.fbad] 78 (0,0))::(100030,g7,.cells #[Vi x3,Vi x8,Vi x12,Vi x16,Vi x20,Vi x24,Vi 0,.bool false,V0,V0,Ve] 29 (0,0))::(100020,g2,.cells #[Vi 0,Vi 0,Vi 0,Vi 0,Vi 0,Vi 0,Vi 0,.bool false,V0,V0,Ve] 29 (0,0))::(100010,g1,.cells #[Vp go0] 76 (0,0))::H,R,φ⟩ (fun W h=>(ok_front (t:=1000) (t':=1000) h rfl)) Try.call36 rfl rfl (c_peer_reader_eight go0 (⟨o0.fs,x25.fat,x25.fbad⟩ : Gpeer_reader) _ hx30) (fun _ _=>?_)
 refine g_sta _ (fun W h=>(ok_front (t:=1000) (t':=1000) h rfl))<|g_v rfl (r_field (n:=6) Try.underlying29 rfl Try.sizeOf3 rfl rfl)<|g_storeL (tag:=100030) rfl rfl rfl rfl Try.sizeOf3 rfl rfl<|g_nil<|d_then<|c_seq<|c_region<|g_v rfl (r_load (tag:=100010) rfl rfl rfl Try.isAgg76) ?_
 replace hm:=bnd hm
 obtain ⟨⟨x32,x33⟩,hx34,hm⟩:=hm
 refine g_cn ⟨w0,M,(1000,go0,.cells #[Vs o0.fs,Vi x29.fat,.bool x29.fbad] 78 (0,0))::(100030,g7,.cells #[Vi x3,Vi x8,Vi x12,Vi x16,Vi x20,Vi x24,Vi x28,.bool false,V0,V0,Ve] 29 (0,0))::(100020,g2,.cells #[Vi 0,Vi 0,Vi 0,Vi 0,Vi 0,Vi 0,Vi 0,.bool false,V0,V0,Ve] 29 (0,0))::(100010,g1,.cells #[Vp go0] 76 (0,0))::H,R,φ⟩ (fun W h=>(ok_front (t:=1000) (t':=1000) h rfl)) Try.call40 rfl rfl (c_peer_reader_bit go0 (⟨o0.fs,x29.fat,x29.fbad⟩ : Gpeer_reader) _ hx34) (fun _ _=>?_)
 refine g_sta _ (fun W h=>(ok_front (t:=1000) (t':=1000) h rfl))<|g_v rfl (r_field (n:=7) Try.underlying29 rfl Try.sizeOf4 rfl rfl)<|g_storeL (tag:=100030) rfl rfl rfl rfl Try.sizeOf4 rfl rfl<|g_nil<|d_then ?_
 refine c_flat [(1,Vp g1),(2,Vp g2),(3,Vp g7)] ⟨rfl,rfl,rfl,trivial⟩ (fun u=>?_)
 refine c_sta ⟨w0,M,(1000,go0,.cells #[Vs o0.fs,Vi x33.fat,.bool x33.fbad] 78 (0,0))::(100030,g7,.cells #[Vi x3,Vi x8,Vi x12,Vi x16,Vi x20,Vi x24,Vi x28,.bool x32,V0,V0,Ve] 29 (0,0))::(100020,g2,.cells #[Vi 0,Vi 0,Vi 0,Vi 0,Vi 0,Vi 0,Vi 0,.bool false,V0,V0,Ve] 29 (0,0))::(100010,g1,.cells #[Vp go0] 76 (0,0))::H,R,φ⟩ (fun _ h=>h)<|c_seq<|c_region<|g_v rfl (r_load (tag:=100010) rfl rfl rfl Try.isAgg76)<|g_v rfl (r_mkf rfl)<|g_v rfl r_assign<|g_nil<|d_then<|c_seq<|c_region ?_
 refine g_v rfl (r_load (tag:=100010) rfl rfl rfl Try.isAgg76)<|g_v rfl r_move ?_
 replace hm:=bnd hm
 obtain ⟨⟨x36,x37⟩,hx38,hm⟩:=hm
 refine g_cn ⟨w0,M,(1000,go0,.cells #[Vs o0.fs,Vi x33.fat,.bool x33.fbad] 78 (0,0))::(100030,g7,.cells #[Vi x3,Vi x8,Vi x12,Vi x16,Vi x20,Vi x24,Vi x28,.bool x32,V0,V0,Ve] 29 (0,0))::(100020,g2,.cells #[Vi 0,Vi 0,Vi 0,Vi 0,Vi 0,Vi 0,Vi 0,.bool false,V0,V0,Ve] 29 (0,0))::(100010,g1,.cells #[Vp go0] 76 (0,0))::H,R,φ⟩ (fun W h=>(ok_front (t:=1000) (t':=1000) h rfl)) Try.call69 rfl rfl (c_peer_list_69 go0 (⟨o0.fs,x33.fat,x33.fbad⟩ : Gpeer_reader) _ hx38) (fun ⟨A39,c40⟩ hc40=>?_)
 refine g_sta _ (fun W h=>(ok_frontR (t:=2000) (t':=100340) (ok_front (t:=1000) (t':=1000) h rfl) rfl))<|g_v rfl (r_field (n:=9) Try.underlying29 rfl Try.sizeOf27 rfl rfl)<|g_storeL (tag:=100030) rfl rfl rfl rfl Try.sizeOf27 rfl rfl<|g_nil<|d_then<|c_seq<|c_region<|g_v rfl (r_load (tag:=100010) rfl rfl rfl Try.isAgg76)<|g_v rfl (r_mkf rfl) ?_
 replace hm:=bnd hm
 obtain ⟨⟨x43,x44⟩,hx45,hm⟩:=hm
 refine g_cn ⟨w0,M,(1000,go0,.cells #[Vs o0.fs,Vi x37.fat,.bool x37.fbad] 78 (0,0))::(1001,g1,.cells #[Vp go0] 76 (0,0))::(100030,g7,.cells #[Vi x3,Vi x8,Vi x12,Vi x16,Vi x20,Vi x24,Vi x28,.bool x32,V0,.slice A39 x36.length c40,Ve] 29 (0,0))::(100020,g2,.cells #[Vi 0,Vi 0,Vi 0,Vi 0,Vi 0,Vi 0,Vi 0,.bool false,V0,V0,Ve] 29 (0,0))::H,(100340,⟨.slice A39 x36.length c40,3,1,x36.length,x36.flatMap (fun x : Int=>[Value.int .i64 x])⟩)::R,φ⟩ (fun W h=>(ok_front (t:=1000) (t':=1000) (ok_front (t:=100010) (t':=1001) h rfl) rfl)) Try.call70 rfl rfl (c_peer_list_70 go0 (⟨o0.fs,x37.fat,x37.fbad⟩ : Gpeer_reader) g1 _ hx45) (fun ⟨A46,c47⟩ hc47=>?_)
 refine g_sta _ (fun W h=>(ok_frontR (t:=2000) (t':=100380) (ok_front (t:=1000) (t':=1000) (ok_front (t:=1001) (t':=100010) h rfl) rfl) rfl))<|g_v rfl (r_field (n:=8) Try.underlying29 rfl Try.sizeOf26 rfl rfl)<|g_storeL (tag:=100030) rfl rfl rfl rfl Try.sizeOf26 rfl rfl<|g_nil<|d_then ?_
 refine c_flat [(1,Vp g1),(2,Vp g2),(3,Vp g7)] ⟨rfl,rfl,rfl,trivial⟩ (fun u=>?_)
 refine c_sta ⟨w0,M,(1000,go0,.cells #[Vs o0.fs,Vi x44.fat,.bool x44.fbad] 78 (0,0))::(100010,g1,.cells #[Vp go0] 76 (0,0))::(100030,g7,.cells #[Vi x3,Vi x8,Vi x12,Vi x16,Vi x20,Vi x24,Vi x28,.bool x32,.slice A46 x43.length c47,.slice A39 x36.length c40,Ve] 29 (0,0))::(100020,g2,.cells #[Vi 0,Vi 0,Vi 0,Vi 0,Vi 0,Vi 0,Vi 0,.bool false,V0,V0,Ve] 29 (0,0))::H,(100380,⟨.slice A46 x43.length c47,56,3,x43.length,x43.flatMap GEntry.enc⟩)::(100340,⟨.slice A39 x36.length c40,3,1,x36.length,x36.flatMap (fun x : Int=>[Value.int .i64 x])⟩)::R,φ⟩ (fun _ h=>h)<|c_seq<|c_region<|g_v rfl (r_load (tag:=100010) rfl rfl rfl Try.isAgg76) ?_
 replace hm:=bnd hm
 obtain ⟨⟨x50,x51⟩,hx52,hm⟩:=hm
 refine g_cn ⟨w0,M,(1000,go0,.cells #[Vs o0.fs,Vi x44.fat,.bool x44.fbad] 78 (0,0))::(100010,g1,.cells #[Vp go0] 76 (0,0))::(100030,g7,.cells #[Vi x3,Vi x8,Vi x12,Vi x16,Vi x20,Vi x24,Vi x28,.bool x32,.slice A46 x43.length c47,.slice A39 x36.length c40,Ve] 29 (0,0))::(100020,g2,.cells #[Vi 0,Vi 0,Vi 0,Vi 0,Vi 0,Vi 0,Vi 0,.bool false,V0,V0,Ve] 29 (0,0))::H,(100380,⟨.slice A46 x43.length c47,56,3,x43.length,x43.flatMap GEntry.enc⟩)::(100340,⟨.slice A39 x36.length c40,3,1,x36.length,x36.flatMap (fun x : Int=>[Value.int .i64 x])⟩)::R,φ⟩ (fun W h=>(ok_front (t:=1000) (t':=1000) h rfl)) Try.call59 rfl rfl (c_peer_part_59 go0 (⟨o0.fs,x44.fat,x44.fbad⟩ : Gpeer_reader) _ hx52) (fun _ _=>?_)
 refine g_sta _ (fun W h=>(ok_front (t:=1000) (t':=1000) h rfl))<|g_v rfl r_assign<|g_nil<|d_then<|c_seq<|c_region<|g_v rfl (r_load (tag:=100010) rfl rfl rfl Try.isAgg76)<|g_v rfl r_move<|g_v rfl (r_conv Try.underlying52 Try.underlying3 rfl rfl) ?_
 replace hm:=bnd hm
 obtain ⟨⟨x54,x55⟩,hx56,hm⟩:=hm
 refine g_cn ⟨w0,M,(1000,go0,.cells #[Vs o0.fs,Vi x51.fat,.bool x51.fbad] 78 (0,0))::(100010,g1,.cells #[Vp go0] 76 (0,0))::(100030,g7,.cells #[Vi x3,Vi x8,Vi x12,Vi x16,Vi x20,Vi x24,Vi x28,.bool x32,.slice A46 x43.length c47,.slice A39 x36.length c40,Ve] 29 (0,0))::(100020,g2,.cells #[Vi 0,Vi 0,Vi 0,Vi 0,Vi 0,Vi 0,Vi 0,.bool false,V0,V0,Ve] 29 (0,0))::H,(100380,⟨.slice A46 x43.length c47,56,3,x43.length,x43.flatMap GEntry.enc⟩)::(100340,⟨.slice A39 x36.length c40,3,1,x36.length,x36.flatMap (fun x : Int=>[Value.int .i64 x])⟩)::R,φ⟩ (fun W h=>(ok_front (t:=1000) (t':=1000) h rfl)) Try.call44 rfl rfl (c_peer_reader_raw (w64 x50) go0 (⟨o0.fs,x51.fat,x51.fbad⟩ : Gpeer_reader) _ hx56) (fun _ _=>?_)
 refine g_sta _ (fun W h=>(ok_front (t:=1000) (t':=1000) h rfl))<|g_v rfl (r_field (n:=10) Try.underlying29 rfl Try.sizeOf9 rfl rfl)<|g_storeL (tag:=100030) rfl rfl rfl rfl Try.sizeOf9 rfl rfl<|g_nil<|d_then ?_
 refine c_flat [(2,Vp g2),(3,Vp g7)] ⟨rfl,rfl,trivial⟩ (fun u=>?_)
 refine c_sta ⟨w0,M,(1000,go0,.cells #[Vs o0.fs,Vi x55.fat,.bool x55.fbad] 78 (0,0))::(100010,g1,.cells #[Vp go0] 76 (0,0))::(100030,g7,.cells #[Vi x3,Vi x8,Vi x12,Vi x16,Vi x20,Vi x24,Vi x28,.bool x32,.slice A46 x43.length c47,.slice A39 x36.length c40,Vs x54] 29 (0,0))::(100020,g2,.cells #[Vi 0,Vi 0,Vi 0,Vi 0,Vi 0,Vi 0,Vi 0,.bool false,V0,V0,Ve] 29 (0,0))::H,(100380,⟨.slice A46 x43.length c47,56,3,x43.length,x43.flatMap GEntry.enc⟩)::(100340,⟨.slice A39 x36.length c40,3,1,x36.length,x36.flatMap (fun x : Int=>[Value.int .i64 x])⟩)::R,φ⟩ (fun _ h=>h)<|c_seq<|c_region<|g_v rfl (r_loadA (tag:=100030) rfl rfl Try.isAgg29 Try.sizeOf29 rfl rfl)<|g_storeL (tag:=100020) rfl rfl rfl rfl Try.sizeOf29 rfl rfl<|g_nil<|d_then<|c_ret ?_
 cases hm
 refine d_shut (tag:=100380) rfl (fun φ58 q58'=>?_)
 have q58 : ∀ W,φ58 W→φ W:=fun W h=>(q58' W h).1
 have f59:=fun (W : World) (h : φ58 W)=>(q58' W h).2
 refine d_shut (tag:=100340) rfl (fun φ60 q60'=>?_)
 have q60 : ∀ W,φ60 W→φ58 W:=fun W h=>(q60' W h).1
 have f61:=fun (W : World) (h : φ60 W)=>(q60' W h).2
 exact d_retC (A46,c47,A39,c40) Try.results43 (res_agg (tag:=100020) rfl rfl Try.isAgg29 Try.sizeOf29 (res_nil rfl)) ⟨hc47,hc40⟩ (fun W h=>(((h.dropH (t:=100010) rfl).dropH (t:=100030) rfl).dropH (t:=100020) rfl).phi (fun W hφ=>⟨(q58 _ (q60 _ hφ)),(fun W h=>f59 W (q60 _ h)) W hφ,(fun W h=>f61 W h) W hφ⟩)) (.inr rfl)
theorem bld31_40  : ∀ W,(Instr.build 31 #[]).run Try.prog W = .ok (.agg #[Vi 0,Vi 0,Vi 0,Ve,Vu 0,Vu 0,.bool false,V0,Vi 0,Vi 0,Vi 0,Vi 0,Vi 0,Vi 0,Vi 0,.bool false,V0,V0,Ve,Ve]) W:=fun _=>by kernel_rfl
noncomputable def m_peer_Read_j1 (p0 : ByteArray) (x3 : Int) (x8 : Int) (x12 : Int) (i142 : Int) (b143 : Bool) (s144 : ByteArray) (i145 : Int) (i146 : Int) (b147 : Bool) (l148 : List GCached) (i154 : Int) (i155 : Int) (i156 : Int) (i157 : Int) (i158 : Int) (i159 : Int) (i160 : Int) (b161 : Bool) (l162 : List GEntry) (l166 : List Int) (s170 : ByteArray) (s171 : ByteArray) : Option (GLetter×Int):=
  if b143 = true then
    some ((⟨0,0,0,(⟨(⟨#[]⟩ : ByteArray),0,0⟩ : GQuestion),false,([] : List GCached),(⟨0,0,0,0,0,0,0,false,([] : List GEntry),([] : List Int),(⟨#[]⟩ : ByteArray)⟩ : GNote),(⟨#[]⟩ : ByteArray)⟩ : GLetter),10)
  else
    if i142 ≠ (p0.size : Int) then
      some ((⟨0,0,0,(⟨(⟨#[]⟩ : ByteArray),0,0⟩ : GQuestion),false,([] : List GCached),(⟨0,0,0,0,0,0,0,false,([] : List GEntry),([] : List Int),(⟨#[]⟩ : ByteArray)⟩ : GNote),(⟨#[]⟩ : ByteArray)⟩ : GLetter),10)
    else
      (m_peer_Bytes (⟨x3,x8,x12,(⟨s144,i145,i146⟩ : GQuestion),b147,l148,(⟨i154,i155,i156,i157,i158,i159,i160,b161,l162,l166,s170⟩ : GNote),s171⟩ : GLetter)).bind fun (z178 : ByteArray×Int)=>
      if z178.2 ≠ 0 then
        some ((⟨0,0,0,(⟨(⟨#[]⟩ : ByteArray),0,0⟩ : GQuestion),false,([] : List GCached),(⟨0,0,0,0,0,0,0,false,([] : List GEntry),([] : List Int),(⟨#[]⟩ : ByteArray)⟩ : GNote),(⟨#[]⟩ : ByteArray)⟩ : GLetter),10)
      else
        if z178.1 = p0 then
          some ((⟨x3,x8,x12,(⟨s144,i145,i146⟩ : GQuestion),b147,l148,(⟨i154,i155,i156,i157,i158,i159,i160,b161,l162,l166,s170⟩ : GNote),s171⟩ : GLetter),0)
        else
          some ((⟨0,0,0,(⟨(⟨#[]⟩ : ByteArray),0,0⟩ : GQuestion),false,([] : List GCached),(⟨0,0,0,0,0,0,0,false,([] : List GEntry),([] : List Int),(⟨#[]⟩ : ByteArray)⟩ : GNote),(⟨#[]⟩ : ByteArray)⟩ : GLetter),10)
noncomputable def m_peer_Read (p0 : ByteArray) : Option (GLetter×Int):=
  (m_peer_reader_one (⟨p0,0,false⟩ : Gpeer_reader)).bind fun (z6 : Int×Gpeer_reader)=>
  (m_peer_reader_eight (⟨p0,z6.2.fat,z6.2.fbad⟩ : Gpeer_reader)).bind fun (z11 : Int×Gpeer_reader)=>
  (m_peer_reader_eight (⟨p0,z11.2.fat,z11.2.fbad⟩ : Gpeer_reader)).bind fun (z15 : Int×Gpeer_reader)=>
  if z6.1 = 1 then
    (m_peer_part_37 (⟨p0,z15.2.fat,z15.2.fbad⟩ : Gpeer_reader)).bind fun (z185 : ByteArray×Gpeer_reader)=>
    (m_peer_reader_word (⟨p0,z185.2.fat,z185.2.fbad⟩ : Gpeer_reader)).bind fun (z189 : Int×Gpeer_reader)=>
    (m_peer_reader_word (⟨p0,z189.2.fat,z189.2.fbad⟩ : Gpeer_reader)).bind fun (z193 : Int×Gpeer_reader)=>
    m_peer_Read_j1 p0 z6.1 z11.1 z15.1 z193.2.fat z193.2.fbad z185.1 z189.1 z193.1 false ([] : List GCached) 0 0 0 0 0 0 0 false ([] : List GEntry) ([] : List Int) (⟨#[]⟩ : ByteArray) (⟨#[]⟩ : ByteArray)
  else
    if z6.1 = 2 then
      (m_peer_reader_bit (⟨p0,z15.2.fat,z15.2.fbad⟩ : Gpeer_reader)).bind fun (z200 : Bool×Gpeer_reader)=>
      (m_peer_list_42 (⟨p0,z200.2.fat,z200.2.fbad⟩ : Gpeer_reader)).bind fun (z210 : (List GCached)×Gpeer_reader)=>
      m_peer_Read_j1 p0 z6.1 z11.1 z15.1 z210.2.fat z210.2.fbad (⟨#[]⟩ : ByteArray) 0 0 z200.1 z210.1 0 0 0 0 0 0 0 false ([] : List GEntry) ([] : List Int) (⟨#[]⟩ : ByteArray) (⟨#[]⟩ : ByteArray)
    else
      if z6.1 = 3 then
        (m_peer_reader_note (⟨p0,z15.2.fat,z15.2.fbad⟩ : Gpeer_reader)).bind fun (z224 : GNote×Gpeer_reader)=>
        m_peer_Read_j1 p0 z6.1 z11.1 z15.1 z224.2.fat z224.2.fbad (⟨#[]⟩ : ByteArray) 0 0 false ([] : List GCached) z224.1.fKind z224.1.fFrom z224.1.fTo z224.1.fTerm z224.1.fIndex z224.1.fLogTerm z224.1.fCommit z224.1.fGood z224.1.fEntries z224.1.fVoters z224.1.fSnap (⟨#[]⟩ : ByteArray)
      else
        if z6.1 = 5 then
          (m_peer_reader_raw (w64 ((p0.size : Int) - z15.2.fat)) (⟨p0,z15.2.fat,z15.2.fbad⟩ : Gpeer_reader)).bind fun (z231 : ByteArray×Gpeer_reader)=>
          m_peer_Read_j1 p0 z6.1 z11.1 z15.1 z231.2.fat z231.2.fbad (⟨#[]⟩ : ByteArray) 0 0 false ([] : List GCached) 0 0 0 0 0 0 0 false ([] : List GEntry) ([] : List Int) (⟨#[]⟩ : ByteArray) z231.1
        else
          m_peer_Read_j1 p0 z6.1 z11.1 z15.1 z15.2.fat z15.2.fbad (⟨#[]⟩ : ByteArray) 0 0 false ([] : List GCached) 0 0 0 0 0 0 0 false ([] : List GEntry) ([] : List Int) (⟨#[]⟩ : ByteArray) (⟨#[]⟩ : ByteArray)
theorem c_peer_Read {w0 : World} {M : Nat→Prop} {H : List (Nat×Nat×Obj)} {R : List (Nat×Row)} {φ : World→Prop} (p0 : ByteArray) (r : GLetter×Int) (hm : m_peer_Read p0 = some r) :
    Cn Try.prog 15 #[Vs p0] ⟨w0,M,H,R,φ⟩ (fun x : Option Addr×Nat×List GCachedP×Option Addr×Nat×Option Addr×Nat=>.tuple #[.agg #[Vi r.1.fKind,Vi r.1.fSerial,Vi r.1.fEpoch,Vs r.1.fQuestion.fName,Vu r.1.fQuestion.fType,Vu r.1.fQuestion.fClass,.bool r.1.fGood,.slice x.1 r.1.fEntries.length x.2.1,Vi r.1.fNote.fKind,Vi r.1.fNote.fFrom,Vi r.1.fNote.fTo,Vi r.1.fNote.fTerm,Vi r.1.fNote.fIndex,Vi r.1.fNote.fLogTerm,Vi r.1.fNote.fCommit,.bool r.1.fNote.fGood,.slice x.2.2.2.1 r.1.fNote.fEntries.length x.2.2.2.2.1,.slice x.2.2.2.2.2.1 r.1.fNote.fVoters.length x.2.2.2.2.2.2,Vs r.1.fNote.fSnap,Vs r.1.fText],Vi r.2]) (fun x=>(DOk GCached.capP r.1.fEntries x.2.2.1∧r.1.fEntries.length ≤ x.2.1)∧r.1.fNote.fEntries.length ≤ x.2.2.2.2.1∧r.1.fNote.fVoters.length ≤ x.2.2.2.2.2.2) (fun x=>⟨w0,M,H,R,fun W=>φ W∧Cl W x.1 ((r.1.fEntries.zip x.2.2.1).flatMap GCached.encP)∧DOwn GCached.ownP r.1.fEntries x.2.2.1 W∧Cl W x.2.2.2.1 (r.1.fNote.fEntries.flatMap GEntry.enc)∧Cl W x.2.2.2.2.2.1 (r.1.fNote.fVoters.flatMap (fun x : Int=>[Value.int .i64 x]))⟩):=by
 unfold m_peer_Read at hm
 refine cn_intro (fn:=Try.f15) (N:=93) Try.func15 rfl Try.ntmps15 rfl<|c_seq<|c_region ?_
 refine g_e rfl (e_alloc 100020 Try.zeroValue31) (fun g1 _=>?_)
 refine g_v rfl r_assign<|g_nil<|d_then<|c_seq<|c_region<|g_v rfl r_move<|g_v rfl (r_build _ rfl (bld78_34 _)) ?_
 refine g_e rfl (e_box 100110 rfl) (fun g2 _=>?_)
 refine g_v rfl r_assign<|g_nil<|d_then<|c_seq<|c_region<|g_v rfl r_move ?_
 replace hm:=bnd hm
 obtain ⟨⟨x3,x4⟩,hx5,hm⟩:=hm
 refine g_cn ⟨w0,M,(1000,g2,.cells #[Vs p0,Vi 0,.bool false] 78 (0,0))::(100020,g1,.cells #[Vi 0,Vi 0,Vi 0,Ve,Vu 0,Vu 0,.bool false,V0,Vi 0,Vi 0,Vi 0,Vi 0,Vi 0,Vi 0,Vi 0,.bool false,V0,V0,Ve,Ve] 31 (0,0))::H,R,φ⟩ (fun W h=>(ok_front (t:=100110) (t':=1000) h rfl)) Try.call35 rfl rfl (c_peer_reader_one g2 (⟨p0,0,false⟩ : Gpeer_reader) _ hx5) (fun _ _=>?_)
 refine g_sta _ (fun W h=>(ok_front (t:=1000) (t':=100110) h rfl))<|g_v rfl (r_build _ rfl (bld31_35 _)) ?_
 refine g_e rfl (e_alloc 100050 Try.zeroValue31) (fun g7 _=>?_)
 refine g_storeL (tag:=100050) rfl rfl rfl rfl Try.sizeOf31 rfl rfl<|g_nil<|d_then ?_
 refine c_flat [(0,Vs p0),(2,Vp g1),(4,Vp g2),(5,Vp g7)] ⟨rfl,rfl,rfl,rfl,trivial⟩ (fun u=>?_)
 refine c_sta ⟨w0,M,(100050,g7,.cells #[Vi x3,Vi 0,Vi 0,Ve,Vu 0,Vu 0,.bool false,V0,Vi 0,Vi 0,Vi 0,Vi 0,Vi 0,Vi 0,Vi 0,.bool false,V0,V0,Ve,Ve] 31 (0,0))::(100110,g2,.cells #[Vs p0,Vi x4.fat,.bool x4.fbad] 78 (0,0))::(100020,g1,.cells #[Vi 0,Vi 0,Vi 0,Ve,Vu 0,Vu 0,.bool false,V0,Vi 0,Vi 0,Vi 0,Vi 0,Vi 0,Vi 0,Vi 0,.bool false,V0,V0,Ve,Ve] 31 (0,0))::H,R,φ⟩ (fun _ h=>h)<|c_seq<|c_region<|g_v rfl r_move ?_
 replace hm:=bnd hm
 obtain ⟨⟨x8,x9⟩,hx10,hm⟩:=hm
 refine g_cn ⟨w0,M,(1000,g2,.cells #[Vs p0,Vi x4.fat,.bool x4.fbad] 78 (0,0))::(100050,g7,.cells #[Vi x3,Vi 0,Vi 0,Ve,Vu 0,Vu 0,.bool false,V0,Vi 0,Vi 0,Vi 0,Vi 0,Vi 0,Vi 0,Vi 0,.bool false,V0,V0,Ve,Ve] 31 (0,0))::(100020,g1,.cells #[Vi 0,Vi 0,Vi 0,Ve,Vu 0,Vu 0,.bool false,V0,Vi 0,Vi 0,Vi 0,Vi 0,Vi 0,Vi 0,Vi 0,.bool false,V0,V0,Ve,Ve] 31 (0,0))::H,R,φ⟩ (fun W h=>(ok_front (t:=100110) (t':=1000) h rfl)) Try.call36 rfl rfl (c_peer_reader_eight g2 (⟨p0,x4.fat,x4.fbad⟩ : Gpeer_reader) _ hx10) (fun _ _=>?_)
 refine g_sta _ (fun W h=>(ok_front (t:=1000) (t':=100110) h rfl))<|g_v rfl (r_field (n:=1) Try.underlying31 rfl Try.sizeOf3 rfl rfl)<|g_storeL (tag:=100050) rfl rfl rfl rfl Try.sizeOf3 rfl rfl<|g_nil<|d_then<|c_seq<|c_region<|g_v rfl r_move ?_
 replace hm:=bnd hm
 obtain ⟨⟨x12,x13⟩,hx14,hm⟩:=hm
 refine g_cn ⟨w0,M,(1000,g2,.cells #[Vs p0,Vi x9.fat,.bool x9.fbad] 78 (0,0))::(100050,g7,.cells #[Vi x3,Vi x8,Vi 0,Ve,Vu 0,Vu 0,.bool false,V0,Vi 0,Vi 0,Vi 0,Vi 0,Vi 0,Vi 0,Vi 0,.bool false,V0,V0,Ve,Ve] 31 (0,0))::(100020,g1,.cells #[Vi 0,Vi 0,Vi 0,Ve,Vu 0,Vu 0,.bool false,V0,Vi 0,Vi 0,Vi 0,Vi 0,Vi 0,Vi 0,Vi 0,.bool false,V0,V0,Ve,Ve] 31 (0,0))::H,R,φ⟩ (fun W h=>(ok_front (t:=100110) (t':=1000) h rfl)) Try.call36 rfl rfl (c_peer_reader_eight g2 (⟨p0,x9.fat,x9.fbad⟩ : Gpeer_reader) _ hx14) (fun _ _=>?_)
 refine g_sta _ (fun W h=>(ok_front (t:=1000) (t':=100110) h rfl))<|g_v rfl (r_field (n:=2) Try.underlying31 rfl Try.sizeOf3 rfl rfl)<|g_storeL (tag:=100050) rfl rfl rfl rfl Try.sizeOf3 rfl rfl<|g_nil<|d_then<|c_seq<|c_sta _ (fun W h=>nilR h 11 41 9) ?_
 refine c_cut (ι:=Int×Bool×ByteArray×Int×Int×Bool×(List GCached)×Int×Int×Int×Int×Int×Int×Int×Bool×(List GEntry)×(List Int)×ByteArray×ByteArray×Option Addr×Nat×List GCachedP×Option Addr×Nat×Option Addr×Nat) [0,2,4,5] (fun ⟨i142,b143,s144,i145,i146,b147,l148,i154,i155,i156,i157,i158,i159,i160,b161,l162,l166,s170,s171,A149,c150,ps152,A163,c164,A167,c168⟩=>[]) (fun ⟨i142,b143,s144,i145,i146,b147,l148,i154,i155,i156,i157,i158,i159,i160,b161,l162,l166,s170,s171,A149,c150,ps152,A163,c164,A167,c168⟩=>⟨w0,M,(100110,g2,.cells #[Vs p0,Vi i142,.bool b143] 78 (0,0))::(100050,g7,.cells #[Vi x3,Vi x8,Vi x12,Vs s144,Vu i145,Vu i146,.bool b147,.slice A149 l148.length c150,Vi i154,Vi i155,Vi i156,Vi i157,Vi i158,Vi i159,Vi i160,.bool b161,.slice A163 l162.length c164,.slice A167 l166.length c168,Vs s170,Vs s171] 31 (0,0))::(100020,g1,.cells #[Vi 0,Vi 0,Vi 0,Ve,Vu 0,Vu 0,.bool false,V0,Vi 0,Vi 0,Vi 0,Vi 0,Vi 0,Vi 0,Vi 0,.bool false,V0,V0,Ve,Ve] 31 (0,0))::H,R,fun W=>φ W∧Cl W A149 ((l148.zip ps152).flatMap GCached.encP)∧DOwn GCached.ownP l148 ps152 W∧Cl W A163 (l162.flatMap GEntry.enc)∧Cl W A167 (l166.flatMap (fun x : Int=>[Value.int .i64 x]))⟩) (fun ⟨i142,b143,s144,i145,i146,b147,l148,i154,i155,i156,i157,i158,i159,i160,b161,l162,l166,s170,s171,A149,c150,ps152,A163,c164,A167,c168⟩=>m_peer_Read_j1 p0 x3 x8 x12 i142 b143 s144 i145 i146 b147 l148 i154 i155 i156 i157 i158 i159 i160 b161 l162 l166 s170 s171 = some r∧(DOk GCached.capP l148 ps152∧l148.length ≤ c150)∧l162.length ≤ c164∧l166.length ≤ c168) ?_ (fun ⟨i142,b143,s144,i145,i146,b147,l148,i154,i155,i156,i157,i158,i159,i160,b161,l162,l166,s170,s171,A149,c150,ps152,A163,c164,A167,c168⟩ u ⟨hm,hc150,hc164,hc168⟩=>?_)
 ·
  refine c_seq<|c_region<|g_v rfl (r_field (n:=0) Try.underlying31 rfl Try.sizeOf3 rfl rfl)<|g_v rfl (r_load (tag:=100050) rfl rfl rfl Try.isAgg3)<|g_nil<|d_then ?_
  refine c_flat [(0,Vs p0),(2,Vp g1),(4,Vp g2),(5,Vp g7),(22,Vi x3)] ⟨rfl,rfl,rfl,rfl,rfl,trivial⟩ (fun u=>?_)
  refine c_sta ⟨w0,M,(100110,g2,.cells #[Vs p0,Vi x13.fat,.bool x13.fbad] 78 (0,0))::(100050,g7,.cells #[Vi x3,Vi x8,Vi x12,Ve,Vu 0,Vu 0,.bool false,V0,Vi 0,Vi 0,Vi 0,Vi 0,Vi 0,Vi 0,Vi 0,.bool false,V0,V0,Ve,Ve] 31 (0,0))::(100020,g1,.cells #[Vi 0,Vi 0,Vi 0,Ve,Vu 0,Vu 0,.bool false,V0,Vi 0,Vi 0,Vi 0,Vi 0,Vi 0,Vi 0,Vi 0,.bool false,V0,V0,Ve,Ve] 31 (0,0))::H,(11,⟨V0,41,9,0,[]⟩)::R,φ⟩ (fun _ h=>h)<|c_block<|c_seq<|c_region<|g_v rfl (r_eql rfl rfl)<|g_v rfl r_assign<|g_nil<|d_then ?_
  refine c_cond rfl (fun h181=>?_) (fun h181=>?_)
  ·
   replace hm:=ite_t hm (of_decide_eq_true h181)
   refine c_seq<|c_region<|g_v rfl r_move ?_
   replace hm:=bnd hm
   obtain ⟨⟨x182,x183⟩,hx184,hm⟩:=hm
   refine g_cn ⟨w0,M,(1000,g2,.cells #[Vs p0,Vi x13.fat,.bool x13.fbad] 78 (0,0))::(100050,g7,.cells #[Vi x3,Vi x8,Vi x12,Ve,Vu 0,Vu 0,.bool false,V0,Vi 0,Vi 0,Vi 0,Vi 0,Vi 0,Vi 0,Vi 0,.bool false,V0,V0,Ve,Ve] 31 (0,0))::(100020,g1,.cells #[Vi 0,Vi 0,Vi 0,Ve,Vu 0,Vu 0,.bool false,V0,Vi 0,Vi 0,Vi 0,Vi 0,Vi 0,Vi 0,Vi 0,.bool false,V0,V0,Ve,Ve] 31 (0,0))::H,(11,⟨V0,41,9,0,[]⟩)::R,φ⟩ (fun W h=>(ok_front (t:=100110) (t':=1000) h rfl)) Try.call37 rfl rfl (c_peer_part_37 g2 (⟨p0,x13.fat,x13.fbad⟩ : Gpeer_reader) _ hx184) (fun _ _=>?_)
   refine g_sta _ (fun W h=>(ok_front (t:=1000) (t':=100110) h rfl))<|g_v rfl (r_field (n:=3) Try.underlying31 rfl Try.sizeOf24 rfl rfl)<|g_v rfl (r_field (n:=3) Try.underlying24 rfl Try.sizeOf9 rfl rfl)<|g_storeL (tag:=100050) rfl rfl rfl rfl Try.sizeOf9 rfl rfl<|g_nil<|d_then<|c_seq<|c_region<|g_v rfl r_move ?_
   replace hm:=bnd hm
   obtain ⟨⟨x186,x187⟩,hx188,hm⟩:=hm
   refine g_cn ⟨w0,M,(1000,g2,.cells #[Vs p0,Vi x183.fat,.bool x183.fbad] 78 (0,0))::(100050,g7,.cells #[Vi x3,Vi x8,Vi x12,Vs x182,Vu 0,Vu 0,.bool false,V0,Vi 0,Vi 0,Vi 0,Vi 0,Vi 0,Vi 0,Vi 0,.bool false,V0,V0,Ve,Ve] 31 (0,0))::(100020,g1,.cells #[Vi 0,Vi 0,Vi 0,Ve,Vu 0,Vu 0,.bool false,V0,Vi 0,Vi 0,Vi 0,Vi 0,Vi 0,Vi 0,Vi 0,.bool false,V0,V0,Ve,Ve] 31 (0,0))::H,(11,⟨V0,41,9,0,[]⟩)::R,φ⟩ (fun W h=>(ok_front (t:=100110) (t':=1000) h rfl)) Try.call39 rfl rfl (c_peer_reader_word g2 (⟨p0,x183.fat,x183.fbad⟩ : Gpeer_reader) _ hx188) (fun _ _=>?_)
   refine g_sta _ (fun W h=>(ok_front (t:=1000) (t':=100110) h rfl))<|g_v rfl (r_field (n:=3) Try.underlying31 rfl Try.sizeOf24 rfl rfl)<|g_v rfl (r_field (n:=4) Try.underlying24 rfl Try.sizeOf22 rfl rfl)<|g_storeL (tag:=100050) rfl rfl rfl rfl Try.sizeOf22 rfl rfl<|g_nil<|d_then ?_
   refine c_flat [(0,Vs p0),(2,Vp g1),(4,Vp g2),(5,Vp g7)] ⟨rfl,rfl,rfl,rfl,trivial⟩ (fun u=>?_)
   refine c_sta ⟨w0,M,(100110,g2,.cells #[Vs p0,Vi x187.fat,.bool x187.fbad] 78 (0,0))::(100050,g7,.cells #[Vi x3,Vi x8,Vi x12,Vs x182,Vu x186,Vu 0,.bool false,V0,Vi 0,Vi 0,Vi 0,Vi 0,Vi 0,Vi 0,Vi 0,.bool false,V0,V0,Ve,Ve] 31 (0,0))::(100020,g1,.cells #[Vi 0,Vi 0,Vi 0,Ve,Vu 0,Vu 0,.bool false,V0,Vi 0,Vi 0,Vi 0,Vi 0,Vi 0,Vi 0,Vi 0,.bool false,V0,V0,Ve,Ve] 31 (0,0))::H,(11,⟨V0,41,9,0,[]⟩)::R,φ⟩ (fun _ h=>h)<|c_region<|g_v rfl r_move ?_
   replace hm:=bnd hm
   obtain ⟨⟨x190,x191⟩,hx192,hm⟩:=hm
   refine g_cn ⟨w0,M,(1000,g2,.cells #[Vs p0,Vi x187.fat,.bool x187.fbad] 78 (0,0))::(100050,g7,.cells #[Vi x3,Vi x8,Vi x12,Vs x182,Vu x186,Vu 0,.bool false,V0,Vi 0,Vi 0,Vi 0,Vi 0,Vi 0,Vi 0,Vi 0,.bool false,V0,V0,Ve,Ve] 31 (0,0))::(100020,g1,.cells #[Vi 0,Vi 0,Vi 0,Ve,Vu 0,Vu 0,.bool false,V0,Vi 0,Vi 0,Vi 0,Vi 0,Vi 0,Vi 0,Vi 0,.bool false,V0,V0,Ve,Ve] 31 (0,0))::H,(11,⟨V0,41,9,0,[]⟩)::R,φ⟩ (fun W h=>(ok_front (t:=100110) (t':=1000) h rfl)) Try.call39 rfl rfl (c_peer_reader_word g2 (⟨p0,x187.fat,x187.fbad⟩ : Gpeer_reader) _ hx192) (fun _ _=>?_)
   refine g_sta _ (fun W h=>(ok_front (t:=1000) (t':=100110) h rfl))<|g_v rfl (r_field (n:=3) Try.underlying31 rfl Try.sizeOf24 rfl rfl)<|g_v rfl (r_field (n:=5) Try.underlying24 rfl Try.sizeOf22 rfl rfl)<|g_storeL (tag:=100050) rfl rfl rfl rfl Try.sizeOf22 rfl rfl<|g_nil<|d_normal_block ?_
   refine d_shut (tag:=11) rfl (fun φ194 q194'=>?_)
   have q194 : ∀ W,φ194 W→φ W:=fun W h=>(q194' W h).1
   have f195:=fun (W : World) (h : φ194 W)=>(q194' W h).2
   exact d_round (x191.fat,x191.fbad,x182,x186,x190,false,([] : List GCached),0,0,0,0,0,0,0,false,([] : List GEntry),([] : List Int),eB,eB,none,0,([] : List GCachedP),none,0,none,0) ⟨hm,⟨DOk.nil,(Nat.le_refl 0)⟩,(Nat.le_refl 0),(Nat.le_refl 0)⟩ Nat.zero_lt_one ⟨rfl,rfl,rfl,rfl,trivial⟩ (fun W h=>h.phi (fun W hφ=>⟨(q194 _ hφ),(fun W h=>f195 W h) W hφ,(fun W h=>DOwn.nil) W hφ,(fun W _=>Cl.nil _ _) W hφ,(fun W _=>Cl.nil _ _) W hφ⟩))
  replace hm:=ite_f hm (of_decide_eq_false h181)
  refine c_seq<|c_region<|g_v rfl (r_eql rfl rfl)<|g_v rfl r_assign<|g_nil<|d_then ?_
  refine c_cond rfl (fun h196=>?_) (fun h196=>?_)
  ·
   replace hm:=ite_t hm (of_decide_eq_true h196)
   refine c_seq<|c_region<|g_v rfl r_move ?_
   replace hm:=bnd hm
   obtain ⟨⟨x197,x198⟩,hx199,hm⟩:=hm
   refine g_cn ⟨w0,M,(1000,g2,.cells #[Vs p0,Vi x13.fat,.bool x13.fbad] 78 (0,0))::(100050,g7,.cells #[Vi x3,Vi x8,Vi x12,Ve,Vu 0,Vu 0,.bool false,V0,Vi 0,Vi 0,Vi 0,Vi 0,Vi 0,Vi 0,Vi 0,.bool false,V0,V0,Ve,Ve] 31 (0,0))::(100020,g1,.cells #[Vi 0,Vi 0,Vi 0,Ve,Vu 0,Vu 0,.bool false,V0,Vi 0,Vi 0,Vi 0,Vi 0,Vi 0,Vi 0,Vi 0,.bool false,V0,V0,Ve,Ve] 31 (0,0))::H,(11,⟨V0,41,9,0,[]⟩)::R,φ⟩ (fun W h=>(ok_front (t:=100110) (t':=1000) h rfl)) Try.call40 rfl rfl (c_peer_reader_bit g2 (⟨p0,x13.fat,x13.fbad⟩ : Gpeer_reader) _ hx199) (fun _ _=>?_)
   refine g_sta _ (fun W h=>(ok_front (t:=1000) (t':=100110) h rfl))<|g_v rfl (r_field (n:=6) Try.underlying31 rfl Try.sizeOf4 rfl rfl)<|g_storeL (tag:=100050) rfl rfl rfl rfl Try.sizeOf4 rfl rfl<|g_nil<|d_then<|c_seq<|c_region<|g_v rfl r_move<|g_v rfl (r_mkf rfl)<|g_v rfl r_assign ?_
   refine g_nil<|d_then ?_
   refine c_flat [(0,Vs p0),(2,Vp g1),(4,Vp g2),(5,Vp g7),(6,.func (.func 41) #[Vp g2] #[])] ⟨rfl,rfl,rfl,rfl,rfl,trivial⟩ (fun u=>?_)
   refine c_sta ⟨w0,M,(100110,g2,.cells #[Vs p0,Vi x198.fat,.bool x198.fbad] 78 (0,0))::(100050,g7,.cells #[Vi x3,Vi x8,Vi x12,Ve,Vu 0,Vu 0,.bool x197,V0,Vi 0,Vi 0,Vi 0,Vi 0,Vi 0,Vi 0,Vi 0,.bool false,V0,V0,Ve,Ve] 31 (0,0))::(100020,g1,.cells #[Vi 0,Vi 0,Vi 0,Ve,Vu 0,Vu 0,.bool false,V0,Vi 0,Vi 0,Vi 0,Vi 0,Vi 0,Vi 0,Vi 0,.bool false,V0,V0,Ve,Ve] 31 (0,0))::H,(11,⟨V0,41,9,0,[]⟩)::R,φ⟩ (fun _ h=>h)<|c_region<|g_v rfl r_move<|g_v rfl r_move ?_
   replace hm:=bnd hm
   obtain ⟨⟨x201,x202⟩,hx203,hm⟩:=hm
   refine g_cn ⟨w0,M,(1000,g2,.cells #[Vs p0,Vi x198.fat,.bool x198.fbad] 78 (0,0))::(100050,g7,.cells #[Vi x3,Vi x8,Vi x12,Ve,Vu 0,Vu 0,.bool x197,V0,Vi 0,Vi 0,Vi 0,Vi 0,Vi 0,Vi 0,Vi 0,.bool false,V0,V0,Ve,Ve] 31 (0,0))::(100020,g1,.cells #[Vi 0,Vi 0,Vi 0,Ve,Vu 0,Vu 0,.bool false,V0,Vi 0,Vi 0,Vi 0,Vi 0,Vi 0,Vi 0,Vi 0,.bool false,V0,V0,Ve,Ve] 31 (0,0))::H,(11,⟨V0,41,9,0,[]⟩)::R,φ⟩ (fun W h=>(ok_front (t:=100110) (t':=1000) h rfl)) Try.call42 rfl rfl (c_peer_list_42 g2 (⟨p0,x198.fat,x198.fbad⟩ : Gpeer_reader) _ hx203) (fun ⟨A204,c205,ps207⟩ hc205=>?_)
   refine g_sta _ (fun W h=>(ok_frontR (t:=2000) (t':=100460) (ok_front (t:=1000) (t':=100110) h rfl) rfl)) ?_
   refine g_abs (fun φ209 q209'=>?_)
   have q209 : ∀ W,φ209 W→φ W:=fun W h=>(q209' W h).1
   have f208:=fun (W : World) (h : φ209 W)=>(q209' W h).2
   refine g_v rfl (r_field (n:=7) Try.underlying31 rfl Try.sizeOf25 rfl rfl)<|g_storeL (tag:=100050) rfl rfl rfl rfl Try.sizeOf25 rfl rfl<|g_nil<|d_normal_block ?_
   refine d_shut (tag:=100460) rfl (fun φ211 q211'=>?_)
   have q211 : ∀ W,φ211 W→φ209 W:=fun W h=>(q211' W h).1
   have f212:=fun (W : World) (h : φ211 W)=>(q211' W h).2
   exact d_round (x202.fat,x202.fbad,eB,0,0,x197,x201,0,0,0,0,0,0,0,false,([] : List GEntry),([] : List Int),eB,eB,A204,c205,ps207,none,0,none,0) ⟨hm,⟨hc205.1,hc205.2⟩,(Nat.le_refl 0),(Nat.le_refl 0)⟩ Nat.zero_lt_one ⟨rfl,rfl,rfl,rfl,trivial⟩ (fun W h=>(h.dropR (t:=11) rfl).phi (fun W hφ=>⟨(q209 _ (q211 _ hφ)),(fun W h=>f212 W h) W hφ,(fun W h=>(f208 W (q211 _ h))) W hφ,(fun W _=>Cl.nil _ _) W hφ,(fun W _=>Cl.nil _ _) W hφ⟩))
  replace hm:=ite_f hm (of_decide_eq_false h196)
  refine c_seq<|c_region<|g_v rfl (r_eql rfl rfl)<|g_v rfl r_assign<|g_nil<|d_then ?_
  refine c_cond rfl (fun h213=>?_) (fun h213=>?_)
  ·
   replace hm:=ite_t hm (of_decide_eq_true h213)
   refine c_region<|g_v rfl r_move ?_
   replace hm:=bnd hm
   obtain ⟨⟨x214,x215⟩,hx216,hm⟩:=hm
   refine g_cn ⟨w0,M,(1000,g2,.cells #[Vs p0,Vi x13.fat,.bool x13.fbad] 78 (0,0))::(100050,g7,.cells #[Vi x3,Vi x8,Vi x12,Ve,Vu 0,Vu 0,.bool false,V0,Vi 0,Vi 0,Vi 0,Vi 0,Vi 0,Vi 0,Vi 0,.bool false,V0,V0,Ve,Ve] 31 (0,0))::(100020,g1,.cells #[Vi 0,Vi 0,Vi 0,Ve,Vu 0,Vu 0,.bool false,V0,Vi 0,Vi 0,Vi 0,Vi 0,Vi 0,Vi 0,Vi 0,.bool false,V0,V0,Ve,Ve] 31 (0,0))::H,(11,⟨V0,41,9,0,[]⟩)::R,φ⟩ (fun W h=>(ok_front (t:=100110) (t':=1000) h rfl)) Try.call43 rfl rfl (c_peer_reader_note g2 (⟨p0,x13.fat,x13.fbad⟩ : Gpeer_reader) _ hx216) (fun ⟨A217,c218,A220,c221⟩ ⟨hc218,hc221⟩=>?_)
   refine g_sta _ (fun W h=>(ok_front (t:=1000) (t':=100110) h rfl)) ?_
   refine g_abs (fun φ223 q223'=>?_)
   have q223 : ∀ W,φ223 W→φ W:=fun W h=>(q223' W h).1
   have f219:=fun (W : World) (h : φ223 W)=>(q223' W h).2.1
   have f222:=fun (W : World) (h : φ223 W)=>(q223' W h).2.2
   refine g_v rfl (r_field (n:=8) Try.underlying31 rfl Try.sizeOf29 rfl rfl)<|g_storeL (tag:=100050) rfl rfl rfl rfl Try.sizeOf29 rfl rfl<|g_nil<|d_normal_block ?_
   refine d_shut (tag:=11) rfl (fun φ225 q225'=>?_)
   have q225 : ∀ W,φ225 W→φ223 W:=fun W h=>(q225' W h).1
   have f226:=fun (W : World) (h : φ225 W)=>(q225' W h).2
   exact d_round (x215.fat,x215.fbad,eB,0,0,false,([] : List GCached),x214.fKind,x214.fFrom,x214.fTo,x214.fTerm,x214.fIndex,x214.fLogTerm,x214.fCommit,x214.fGood,x214.fEntries,x214.fVoters,x214.fSnap,eB,none,0,([] : List GCachedP),A217,c218,A220,c221) ⟨hm,⟨DOk.nil,(Nat.le_refl 0)⟩,hc218,hc221⟩ Nat.zero_lt_one ⟨rfl,rfl,rfl,rfl,trivial⟩ (fun W h=>h.phi (fun W hφ=>⟨(q223 _ (q225 _ hφ)),(fun W h=>f226 W h) W hφ,(fun W h=>DOwn.nil) W hφ,(fun W h=>f219 W (q225 _ h)) W hφ,(fun W h=>f222 W (q225 _ h)) W hφ⟩))
  replace hm:=ite_f hm (of_decide_eq_false h213)
  refine c_seq<|c_region<|g_v rfl (r_eql rfl rfl)<|g_v rfl r_assign<|g_nil<|d_then ?_
  refine c_cond rfl (fun h227=>?_) (fun h227=>?_)
  ·
   replace hm:=ite_t hm (of_decide_eq_true h227)
   refine c_region<|g_v rfl r_move<|g_v rfl r_move<|g_v rfl (r_len Try.underlying9 rfl)<|g_v rfl r_move<|g_v rfl (r_nilck rfl)<|g_v rfl (r_field (n:=1) Try.underlying78 rfl Try.sizeOf3 rfl rfl)<|g_v rfl (r_load (tag:=100110) rfl rfl rfl Try.isAgg3)<|g_v rfl (r_sub rfl rfl rfl) ?_
   replace hm:=bnd hm
   obtain ⟨⟨x228,x229⟩,hx230,hm⟩:=hm
   refine g_cn ⟨w0,M,(1000,g2,.cells #[Vs p0,Vi x13.fat,.bool x13.fbad] 78 (0,0))::(100050,g7,.cells #[Vi x3,Vi x8,Vi x12,Ve,Vu 0,Vu 0,.bool false,V0,Vi 0,Vi 0,Vi 0,Vi 0,Vi 0,Vi 0,Vi 0,.bool false,V0,V0,Ve,Ve] 31 (0,0))::(100020,g1,.cells #[Vi 0,Vi 0,Vi 0,Ve,Vu 0,Vu 0,.bool false,V0,Vi 0,Vi 0,Vi 0,Vi 0,Vi 0,Vi 0,Vi 0,.bool false,V0,V0,Ve,Ve] 31 (0,0))::H,(11,⟨V0,41,9,0,[]⟩)::R,φ⟩ (fun W h=>(ok_front (t:=100110) (t':=1000) h rfl)) Try.call44 rfl rfl (c_peer_reader_raw (w64 ((p0.size : Int) - x13.fat)) g2 (⟨p0,x13.fat,x13.fbad⟩ : Gpeer_reader) _ hx230) (fun _ _=>?_)
   refine g_sta _ (fun W h=>(ok_front (t:=1000) (t':=100110) h rfl))<|g_v rfl (r_field (n:=19) Try.underlying31 rfl Try.sizeOf9 rfl rfl)<|g_storeL (tag:=100050) rfl rfl rfl rfl Try.sizeOf9 rfl rfl<|g_nil<|d_normal_block ?_
   refine d_shut (tag:=11) rfl (fun φ232 q232'=>?_)
   have q232 : ∀ W,φ232 W→φ W:=fun W h=>(q232' W h).1
   have f233:=fun (W : World) (h : φ232 W)=>(q232' W h).2
   exact d_round (x229.fat,x229.fbad,eB,0,0,false,([] : List GCached),0,0,0,0,0,0,0,false,([] : List GEntry),([] : List Int),eB,x228,none,0,([] : List GCachedP),none,0,none,0) ⟨hm,⟨DOk.nil,(Nat.le_refl 0)⟩,(Nat.le_refl 0),(Nat.le_refl 0)⟩ Nat.zero_lt_one ⟨rfl,rfl,rfl,rfl,trivial⟩ (fun W h=>h.phi (fun W hφ=>⟨(q232 _ hφ),(fun W h=>f233 W h) W hφ,(fun W h=>DOwn.nil) W hφ,(fun W _=>Cl.nil _ _) W hφ,(fun W _=>Cl.nil _ _) W hφ⟩))
  replace hm:=ite_f hm (of_decide_eq_false h227)
  refine c_skip<|d_normal_block ?_
  refine d_shut (tag:=11) rfl (fun φ234 q234'=>?_)
  have q234 : ∀ W,φ234 W→φ W:=fun W h=>(q234' W h).1
  have f235:=fun (W : World) (h : φ234 W)=>(q234' W h).2
  exact d_round (x13.fat,x13.fbad,eB,0,0,false,([] : List GCached),0,0,0,0,0,0,0,false,([] : List GEntry),([] : List Int),eB,eB,none,0,([] : List GCachedP),none,0,none,0) ⟨hm,⟨DOk.nil,(Nat.le_refl 0)⟩,(Nat.le_refl 0),(Nat.le_refl 0)⟩ Nat.zero_lt_one ⟨rfl,rfl,rfl,rfl,trivial⟩ (fun W h=>h.phi (fun W hφ=>⟨(q234 _ hφ),(fun W h=>f235 W h) W hφ,(fun W h=>DOwn.nil) W hφ,(fun W _=>Cl.nil _ _) W hφ,(fun W _=>Cl.nil _ _) W hφ⟩))
 unfold m_peer_Read_j1 at hm
 refine d_abs (fun φ172 q172'=>?_)
 have q172 : ∀ W,φ172 W→φ W:=fun W h=>(q172' W h).1
 have f151:=fun (W : World) (h : φ172 W)=>(q172' W h).2.1
 have f153:=fun (W : World) (h : φ172 W)=>(q172' W h).2.2.1
 have f165:=fun (W : World) (h : φ172 W)=>(q172' W h).2.2.2.1
 have f169:=fun (W : World) (h : φ172 W)=>(q172' W h).2.2.2.2
 refine d_flat [(0,Vs p0),(2,Vp g1),(4,Vp g2),(5,Vp g7)] ⟨rfl,rfl,rfl,rfl,trivial⟩ (fun u=>?_)
 refine d_sta ⟨w0,M,(100110,g2,.cells #[Vs p0,Vi i142,.bool b143] 78 (0,0))::(100050,g7,.cells #[Vi x3,Vi x8,Vi x12,Vs s144,Vu i145,Vu i146,.bool b147,.slice A149 l148.length c150,Vi i154,Vi i155,Vi i156,Vi i157,Vi i158,Vi i159,Vi i160,.bool b161,.slice A163 l162.length c164,.slice A167 l166.length c168,Vs s170,Vs s171] 31 (0,0))::(100020,g1,.cells #[Vi 0,Vi 0,Vi 0,Ve,Vu 0,Vu 0,.bool false,V0,Vi 0,Vi 0,Vi 0,Vi 0,Vi 0,Vi 0,Vi 0,.bool false,V0,V0,Ve,Ve] 31 (0,0))::H,R,φ172⟩ (fun _ h=>h)<|d_then<|c_seq<|c_seq<|c_region<|g_v rfl r_move<|g_v rfl (r_nilck rfl)<|g_v rfl (r_field (n:=2) Try.underlying78 rfl Try.sizeOf4 rfl rfl)<|g_v rfl (r_load (tag:=100110) rfl rfl rfl Try.isAgg4)<|g_v rfl r_move ?_
 refine g_if rfl rfl rfl rfl rfl (fun h173=>?_) (fun h173=>?_)
 ·
  replace hm:=ite_f hm (bool_nt h173)
  refine g_v rfl r_move<|g_do rfl rfl rfl rfl rfl h173<|g_v rfl (r_nilck rfl)<|g_do rfl rfl rfl rfl rfl h173<|g_v rfl (r_field (n:=1) Try.underlying78 rfl Try.sizeOf3 rfl rfl)<|g_do rfl rfl rfl rfl rfl h173<|g_v rfl (r_load (tag:=100110) rfl rfl rfl Try.isAgg3)<|g_do rfl rfl rfl rfl rfl h173<|g_v rfl r_move<|g_do rfl rfl rfl rfl rfl h173 ?_
  refine g_v rfl (r_len Try.underlying9 rfl)<|g_do rfl rfl rfl rfl rfl h173<|g_v rfl (r_neq rfl rfl)<|g_v rfl (r_pick0 rfl h173)<|g_nil<|d_then ?_
  refine c_flat [(0,Vs p0),(2,Vp g1),(5,Vp g7),(77,.bool (decide (i142 ≠ (p0.size : Int))))] ⟨rfl,rfl,rfl,rfl,trivial⟩ (fun u=>?_)
  refine c_cond rfl (fun h174=>?_) (fun h174=>?_)
  ·
   replace hm:=ite_t hm (of_decide_eq_true h174)
   refine c_seq<|c_region<|g_v rfl (r_build _ rfl (bld31_40))<|g_storeL (tag:=100020) rfl rfl rfl rfl Try.sizeOf31 rfl rfl<|g_v rfl r_assign<|g_nil<|d_then<|c_ret<|d_ret_then ?_
   cases hm
   exact d_retC (none,0,([] : List GCachedP),none,0,none,0) Try.results15 (res_agg (tag:=100020) rfl rfl Try.isAgg31 Try.sizeOf31 (res_tmp (res_nil rfl))) ⟨⟨DOk.nil,(Nat.le_refl 0)⟩,(Nat.le_refl 0),(Nat.le_refl 0)⟩ (fun W h=>ok_pre (H1:=[_,_,_]) (R1:=[]) h (fun W hφ=>⟨(q172 _ hφ),(fun W _=>Cl.nil _ _) W hφ,(fun W h=>DOwn.nil) W hφ,(fun W _=>Cl.nil _ _) W hφ,(fun W _=>Cl.nil _ _) W hφ⟩)) (.inr rfl)
  replace hm:=ite_f hm (of_decide_eq_false h174)
  refine c_skip<|d_then<|c_seq<|c_region<|g_v rfl (r_loadA (tag:=100050) rfl rfl Try.isAgg31 Try.sizeOf31 rfl rfl) ?_
  replace hm:=bnd hm
  obtain ⟨⟨x175,x176⟩,hx177,hm⟩:=hm
  refine g_cn ⟨w0,M,_,_,φ172⟩ (fun _ h=>h) Try.call13 rfl rfl (c_peer_Bytes (⟨x3,x8,x12,(⟨s144,i145,i146⟩ : GQuestion),b147,l148,(⟨i154,i155,i156,i157,i158,i159,i160,b161,l162,l166,s170⟩ : GNote),s171⟩ : GLetter) A149 c150 ps152 ⟨hc150.1,hc150.2⟩ (fun W h=>f151 W h) (fun W h=>(f153 W h)) A163 c164 hc164 (fun W hS=>f165 W hS.now) A167 c168 hc168 (fun W hS=>f169 W hS.now) _ hx177) (fun _ _=>?_)
  refine g_v rfl r_move<|g_v rfl (r_extract rfl rfl)<|g_v rfl (r_extract rfl rfl)<|g_v rfl r_assign<|g_v rfl r_assign<|g_nil<|d_then<|c_seq<|c_seq<|c_region ?_
  refine g_v rfl r_move<|g_v rfl (r_neq rfl rfl)<|g_v rfl r_move ?_
  refine g_if rfl rfl rfl rfl rfl (fun h179=>?_) (fun h179=>?_)
  ·
   replace hm:=ite_f hm (of_decide_eq_false h179)
   refine g_v rfl r_move<|g_do rfl rfl rfl rfl rfl h179<|g_v rfl r_move<|g_do rfl rfl rfl rfl rfl h179<|g_v rfl (r_neqT rfl rfl)<|g_v rfl (r_pick0 rfl h179)<|g_nil<|d_then ?_
   refine c_flat [(2,Vp g1),(5,Vp g7),(90,.bool (!(decide (x175 = p0))))] ⟨rfl,rfl,rfl,trivial⟩ (fun u=>?_)
   refine c_cond rfl (fun h180=>?_) (fun h180=>?_)
   ·
    have h180' : (decide (x175 = p0)) = false:=by revert h180; cases (decide (x175 = p0)) <;> simp
    replace hm:=ite_f hm (of_decide_eq_false h180')
    refine c_seq<|c_region<|g_v rfl (r_build _ rfl (bld31_40))<|g_storeL (tag:=100020) rfl rfl rfl rfl Try.sizeOf31 rfl rfl<|g_v rfl r_assign<|g_nil<|d_then<|c_ret<|d_ret_then ?_
    cases hm
    exact d_retC (none,0,([] : List GCachedP),none,0,none,0) Try.results15 (res_agg (tag:=100020) rfl rfl Try.isAgg31 Try.sizeOf31 (res_tmp (res_nil rfl))) ⟨⟨DOk.nil,(Nat.le_refl 0)⟩,(Nat.le_refl 0),(Nat.le_refl 0)⟩ (fun W h=>ok_pre (H1:=[_,_,_]) (R1:=[]) h (fun W hφ=>⟨(q172 _ hφ),(fun W _=>Cl.nil _ _) W hφ,(fun W h=>DOwn.nil) W hφ,(fun W _=>Cl.nil _ _) W hφ,(fun W _=>Cl.nil _ _) W hφ⟩)) (.inr rfl)
   have h180' : (decide (x175 = p0)) = true:=by revert h180; cases (decide (x175 = p0)) <;> simp
   replace hm:=ite_t hm (of_decide_eq_true h180')
   refine c_skip<|d_then<|c_seq<|c_region<|g_v rfl (r_loadA (tag:=100050) rfl rfl Try.isAgg31 Try.sizeOf31 rfl rfl)<|g_storeL (tag:=100020) rfl rfl rfl rfl Try.sizeOf31 rfl rfl<|g_v rfl r_assign<|g_nil<|d_then<|c_ret ?_
   cases hm
   exact d_retC (A149,c150,ps152,A163,c164,A167,c168) Try.results15 (res_agg (tag:=100020) rfl rfl Try.isAgg31 Try.sizeOf31 (res_tmp (res_nil rfl))) ⟨⟨hc150.1,hc150.2⟩,hc164,hc168⟩ (fun W h=>ok_pre (H1:=[_,_,_]) (R1:=[]) h (fun W hφ=>⟨(q172 _ hφ),(fun W h=>f151 W h) W hφ,(fun W h=>(f153 W h)) W hφ,(fun W h=>f165 W h) W hφ,(fun W h=>f169 W h) W hφ⟩)) (.inr rfl)
  replace hm:=ite_t hm (of_decide_eq_true h179)
  refine g_no rfl rfl rfl rfl rfl h179<|g_no rfl rfl rfl rfl rfl h179<|g_v rfl (r_pick1 rfl h179)<|g_nil<|d_then ?_
  refine c_flat [(2,Vp g1),(5,Vp g7),(90,.bool true)] ⟨rfl,rfl,rfl,trivial⟩ (fun u=>?_)
  refine c_cond1 rfl rfl<|c_seq<|c_region<|g_v rfl (r_build _ rfl (bld31_40))<|g_storeL (tag:=100020) rfl rfl rfl rfl Try.sizeOf31 rfl rfl<|g_v rfl r_assign<|g_nil<|d_then<|c_ret<|d_ret_then ?_
  cases hm
  exact d_retC (none,0,([] : List GCachedP),none,0,none,0) Try.results15 (res_agg (tag:=100020) rfl rfl Try.isAgg31 Try.sizeOf31 (res_tmp (res_nil rfl))) ⟨⟨DOk.nil,(Nat.le_refl 0)⟩,(Nat.le_refl 0),(Nat.le_refl 0)⟩ (fun W h=>ok_pre (H1:=[_,_,_]) (R1:=[]) h (fun W hφ=>⟨(q172 _ hφ),(fun W _=>Cl.nil _ _) W hφ,(fun W h=>DOwn.nil) W hφ,(fun W _=>Cl.nil _ _) W hφ,(fun W _=>Cl.nil _ _) W hφ⟩)) (.inr rfl)
 replace hm:=ite_t hm h173
 iterate 6 refine g_no rfl rfl rfl rfl rfl h173 ?_
 refine g_v rfl (r_pick1 rfl h173)<|g_nil<|d_then<|c_cond1 rfl rfl<|c_seq<|c_region<|g_v rfl (r_build _ rfl (bld31_40))<|g_storeL (tag:=100020) rfl rfl rfl rfl Try.sizeOf31 rfl rfl<|g_v rfl r_assign<|g_nil ?_
 refine d_then ?_
 refine c_flat [(2,Vp g1),(3,Vi 10)] ⟨rfl,rfl,trivial⟩ (fun u=>?_)
 refine c_ret<|d_ret_then ?_
 cases hm
 exact d_retC (none,0,([] : List GCachedP),none,0,none,0) Try.results15 (res_agg (tag:=100020) rfl rfl Try.isAgg31 Try.sizeOf31 (res_tmp (res_nil rfl))) ⟨⟨DOk.nil,(Nat.le_refl 0)⟩,(Nat.le_refl 0),(Nat.le_refl 0)⟩ (fun W h=>ok_pre (H1:=[_,_,_]) (R1:=[]) h (fun W hφ=>⟨(q172 _ hφ),(fun W _=>Cl.nil _ _) W hφ,(fun W h=>DOwn.nil) W hφ,(fun W _=>Cl.nil _ _) W hφ,(fun W _=>Cl.nil _ _) W hφ⟩)) (.inr rfl)
theorem eqq54 (a b : GRR) : ∀ d W,(Op.equalIn (d + 5) 54 (.agg #[Vs a.fName,Vu a.fType,Vu a.fClass,.int .u32 a.fTTL,Vs a.fData]) (.agg #[Vs b.fName,Vu b.fType,Vu b.fClass,.int .u32 b.fTTL,Vs b.fData])).run Try.prog W = .ok (decide (a = b)) W:=by
  intro d W
  have h:=eqs_of (d:=d + 4) (xs:=#[Vs a.fName,Vu a.fType,Vu a.fClass,.int .u32 a.fTTL,Vs a.fData]) (ys:=#[Vs b.fName,Vu b.fType,Vu b.fClass,.int .u32 b.fTTL,Vs b.fData]) (w:=W) Try.underlying54 (by kernel_rfl) (eqs_cons (a:=Vs a.fName) (b:=Vs b.fName) rfl (by kernel_rfl) (by kernel_rfl) (eqs_str Try.underlying9) (eqs_cons (a:=Vu a.fType) (b:=Vu b.fType) rfl (by kernel_rfl) (by kernel_rfl) (eqs_int Try.underlying22) (eqs_cons (a:=Vu a.fClass) (b:=Vu b.fClass) rfl (by kernel_rfl) (by kernel_rfl) (eqs_int Try.underlying22) (eqs_cons (a:=.int .u32 a.fTTL) (b:=.int .u32 b.fTTL) rfl (by kernel_rfl) (by kernel_rfl) (eqs_int Try.underlying52) (eqs_cons (a:=Vs a.fData) (b:=Vs b.fData) rfl (by kernel_rfl) (by kernel_rfl) (eqs_str Try.underlying9) eqs_nil)))))
  refine h.trans ?_
  congr 1
  cases a; cases b
  simp only [GRR.mk.injEq,Bool.and_true]
  simp only [Bool.decide_and]
theorem eqg54 : Try.prog.eqGuardType Try.prog.depth 54 = false:=by kernel_rfl
noncomputable def m_ref16_Same_j1  : Option Bool:=
  some true
noncomputable def m_ref16_Same_s2 (p0 : GCached) (p1 : GCached) (i95 : Int) : Option (Int ⊕ (Unit ⊕ Bool)):=
  if i95 < (p0.fRecords.length : Int) then
    (at_ p0.fRecords i95).bind fun x141=>
    (at_ p1.fRecords i95).bind fun x145=>
    if x141 = x145 then
      some (.inl (w64 (i95 + 1)))
    else
      some (.inr (.inr false))
  else
    some (.inr (.inl ()))
noncomputable def m_ref16_Same (p0 : GCached) (p1 : GCached) : Option Bool:=
  if p0.fKind ≠ p1.fKind then
    some false
  else
    if p0.fName = p1.fName then
      if p0.fType ≠ p1.fType then
        some false
      else
        if p0.fClass ≠ p1.fClass then
          some false
        else
          if p0.fUntil ≠ p1.fUntil then
            some false
          else
            if p0.fRank ≠ p1.fRank then
              some false
            else
              if p0.fEpoch ≠ p1.fEpoch then
                some false
              else
                if p0.fSource ≠ p1.fSource then
                  some false
                else
                  if (p0.fRecords.length : Int) ≠ (p1.fRecords.length : Int) then
                    some false
                  else
                    (loop (fun s=>m_ref16_Same_s2 p0 p1 s) 0).bind fun e=>Sum.elim (fun e=>m_ref16_Same_j1) (fun x=>some x) e
    else
      some false
theorem c_ref16_Same {w0 : World} {M : Nat→Prop} {H : List (Nat×Nat×Obj)} {R : List (Nat×Row)} {φ : World→Prop} (p0 : GCached) (Ap0_0 : Option Addr) (cp0_0 : Nat) (hcp0_0 : p0.fRecords.length ≤ cp0_0) (fp0_0 : ∀ W,(Sta.mk w0 M H R φ).ok W→Cl W Ap0_0 (p0.fRecords.flatMap GRR.enc)) (p1 : GCached) (Ap1_0 : Option Addr) (cp1_0 : Nat) (hcp1_0 : p1.fRecords.length ≤ cp1_0) (fp1_0 : ∀ W,(Sta.mk w0 M H R φ).ok W→Cl W Ap1_0 (p1.fRecords.flatMap GRR.enc)) (r : Bool) (hm : m_ref16_Same p0 p1 = some r) :
    Cn Try.prog 12 #[.agg #[Vi p0.fKind,Vs p0.fName,Vu p0.fType,Vu p0.fClass,.slice Ap0_0 p0.fRecords.length cp0_0,Vi p0.fUntil,Vi p0.fRank,Vi p0.fEpoch,Vi p0.fSource],.agg #[Vi p1.fKind,Vs p1.fName,Vu p1.fType,Vu p1.fClass,.slice Ap1_0 p1.fRecords.length cp1_0,Vi p1.fUntil,Vi p1.fRank,Vi p1.fEpoch,Vi p1.fSource]] ⟨w0,M,H,R,φ⟩ (fun x : Unit=>.bool r) (fun x=>True) (fun x=>⟨w0,M,H,R,φ⟩):=by
 unfold m_ref16_Same at hm
 refine cn_intro (fn:=Try.f12) (N:=87) Try.func12 rfl Try.ntmps12 rfl<|c_seq<|c_region ?_
 refine g_e rfl (e_box 100020 rfl) (fun g1 _=>?_)
 refine g_e rfl (e_box 100030 rfl) (fun g2 _=>?_)
 refine g_v rfl r_assign<|g_nil<|d_then<|c_seq<|c_seq<|c_region<|g_v rfl (r_field (n:=0) Try.underlying41 rfl Try.sizeOf3 rfl rfl)<|g_v rfl (r_load (tag:=100020) rfl rfl rfl Try.isAgg3)<|g_v rfl (r_field (n:=0) Try.underlying41 rfl Try.sizeOf3 rfl rfl)<|g_v rfl (r_load (tag:=100030) rfl rfl rfl Try.isAgg3) ?_
 refine g_v rfl (r_neq rfl rfl)<|g_v rfl r_move<|g_sta ⟨w0,M,(100030,g2,.cells #[Vi p1.fKind,Vs p1.fName,Vu p1.fType,Vu p1.fClass,.slice Ap1_0 p1.fRecords.length cp1_0,Vi p1.fUntil,Vi p1.fRank,Vi p1.fEpoch,Vi p1.fSource] 41 (0,0))::(100020,g1,.cells #[Vi p0.fKind,Vs p0.fName,Vu p0.fType,Vu p0.fClass,.slice Ap0_0 p0.fRecords.length cp0_0,Vi p0.fUntil,Vi p0.fRank,Vi p0.fEpoch,Vi p0.fSource] 41 (0,0))::H,R,φ⟩ (fun _ h=>h) ?_
 refine g_if rfl rfl rfl rfl rfl (fun h3=>?_) (fun h3=>?_)
 ·
  replace hm:=ite_f hm (of_decide_eq_false h3)
  refine g_v rfl (r_field (n:=1) Try.underlying41 rfl Try.sizeOf9 rfl rfl)<|g_do rfl rfl rfl rfl rfl h3<|g_v rfl (r_load (tag:=100020) rfl rfl rfl Try.isAgg9)<|g_do rfl rfl rfl rfl rfl h3<|g_v rfl (r_field (n:=1) Try.underlying41 rfl Try.sizeOf9 rfl rfl)<|g_do rfl rfl rfl rfl rfl h3<|g_v rfl (r_load (tag:=100030) rfl rfl rfl Try.isAgg9)<|g_do rfl rfl rfl rfl rfl h3<|g_v rfl (r_neqT rfl rfl)<|g_v rfl (r_pick0 rfl h3) ?_
  refine g_v rfl r_move ?_
  refine g_if rfl rfl rfl rfl rfl (fun h4=>?_) (fun h4=>?_)
  ·
   have h4' : (decide (p0.fName = p1.fName)) = true:=by revert h4; cases (decide (p0.fName = p1.fName)) <;> simp
   replace hm:=ite_t hm (of_decide_eq_true h4')
   refine g_v rfl (r_field (n:=2) Try.underlying41 rfl Try.sizeOf22 rfl rfl)<|g_do rfl rfl rfl rfl rfl h4<|g_v rfl (r_load (tag:=100020) rfl rfl rfl Try.isAgg22)<|g_do rfl rfl rfl rfl rfl h4<|g_v rfl (r_field (n:=2) Try.underlying41 rfl Try.sizeOf22 rfl rfl)<|g_do rfl rfl rfl rfl rfl h4<|g_v rfl (r_load (tag:=100030) rfl rfl rfl Try.isAgg22)<|g_do rfl rfl rfl rfl rfl h4<|g_v rfl (r_neq rfl rfl)<|g_v rfl (r_pick0 rfl h4) ?_
   refine g_v rfl r_move ?_
   refine g_if rfl rfl rfl rfl rfl (fun h5=>?_) (fun h5=>?_)
   ·
    replace hm:=ite_f hm (of_decide_eq_false h5)
    refine g_v rfl (r_field (n:=3) Try.underlying41 rfl Try.sizeOf22 rfl rfl)<|g_do rfl rfl rfl rfl rfl h5<|g_v rfl (r_load (tag:=100020) rfl rfl rfl Try.isAgg22)<|g_do rfl rfl rfl rfl rfl h5<|g_v rfl (r_field (n:=3) Try.underlying41 rfl Try.sizeOf22 rfl rfl)<|g_do rfl rfl rfl rfl rfl h5<|g_v rfl (r_load (tag:=100030) rfl rfl rfl Try.isAgg22)<|g_do rfl rfl rfl rfl rfl h5<|g_v rfl (r_neq rfl rfl)<|g_v rfl (r_pick0 rfl h5) ?_
    refine g_v rfl r_move ?_
    refine g_if rfl rfl rfl rfl rfl (fun h6=>?_) (fun h6=>?_)
    ·
     replace hm:=ite_f hm (of_decide_eq_false h6)
     refine g_v rfl (r_field (n:=5) Try.underlying41 rfl Try.sizeOf3 rfl rfl)<|g_do rfl rfl rfl rfl rfl h6<|g_v rfl (r_load (tag:=100020) rfl rfl rfl Try.isAgg3)<|g_do rfl rfl rfl rfl rfl h6<|g_v rfl (r_field (n:=5) Try.underlying41 rfl Try.sizeOf3 rfl rfl)<|g_do rfl rfl rfl rfl rfl h6<|g_v rfl (r_load (tag:=100030) rfl rfl rfl Try.isAgg3)<|g_do rfl rfl rfl rfl rfl h6<|g_v rfl (r_neq rfl rfl)<|g_v rfl (r_pick0 rfl h6) ?_
     refine g_v rfl r_move ?_
     refine g_if rfl rfl rfl rfl rfl (fun h7=>?_) (fun h7=>?_)
     ·
      replace hm:=ite_f hm (of_decide_eq_false h7)
      refine g_v rfl (r_field (n:=6) Try.underlying41 rfl Try.sizeOf3 rfl rfl)<|g_do rfl rfl rfl rfl rfl h7<|g_v rfl (r_load (tag:=100020) rfl rfl rfl Try.isAgg3)<|g_do rfl rfl rfl rfl rfl h7<|g_v rfl (r_field (n:=6) Try.underlying41 rfl Try.sizeOf3 rfl rfl)<|g_do rfl rfl rfl rfl rfl h7<|g_v rfl (r_load (tag:=100030) rfl rfl rfl Try.isAgg3)<|g_do rfl rfl rfl rfl rfl h7<|g_v rfl (r_neq rfl rfl)<|g_v rfl (r_pick0 rfl h7) ?_
      refine g_v rfl r_move ?_
      refine g_if rfl rfl rfl rfl rfl (fun h8=>?_) (fun h8=>?_)
      ·
       replace hm:=ite_f hm (of_decide_eq_false h8)
       refine g_v rfl (r_field (n:=7) Try.underlying41 rfl Try.sizeOf3 rfl rfl)<|g_do rfl rfl rfl rfl rfl h8<|g_v rfl (r_load (tag:=100020) rfl rfl rfl Try.isAgg3)<|g_do rfl rfl rfl rfl rfl h8<|g_v rfl (r_field (n:=7) Try.underlying41 rfl Try.sizeOf3 rfl rfl)<|g_do rfl rfl rfl rfl rfl h8<|g_v rfl (r_load (tag:=100030) rfl rfl rfl Try.isAgg3)<|g_do rfl rfl rfl rfl rfl h8<|g_v rfl (r_neq rfl rfl)<|g_v rfl (r_pick0 rfl h8) ?_
       refine g_v rfl r_move ?_
       refine g_if rfl rfl rfl rfl rfl (fun h9=>?_) (fun h9=>?_)
       ·
        replace hm:=ite_f hm (of_decide_eq_false h9)
        refine g_v rfl (r_field (n:=8) Try.underlying41 rfl Try.sizeOf3 rfl rfl)<|g_do rfl rfl rfl rfl rfl h9<|g_v rfl (r_load (tag:=100020) rfl rfl rfl Try.isAgg3)<|g_do rfl rfl rfl rfl rfl h9<|g_v rfl (r_field (n:=8) Try.underlying41 rfl Try.sizeOf3 rfl rfl)<|g_do rfl rfl rfl rfl rfl h9<|g_v rfl (r_load (tag:=100030) rfl rfl rfl Try.isAgg3)<|g_do rfl rfl rfl rfl rfl h9<|g_v rfl (r_neq rfl rfl)<|g_v rfl (r_pick0 rfl h9) ?_
        refine g_v rfl r_move ?_
        refine g_if rfl rfl rfl rfl rfl (fun h10=>?_) (fun h10=>?_)
        ·
         replace hm:=ite_f hm (of_decide_eq_false h10)
         refine g_v rfl (r_field (n:=4) Try.underlying41 rfl Try.sizeOf39 rfl rfl)<|g_do rfl rfl rfl rfl rfl h10<|g_v rfl (r_load (tag:=100020) rfl rfl rfl Try.isAgg39)<|g_do rfl rfl rfl rfl rfl h10<|g_v rfl (r_lenL Try.underlying39 rfl)<|g_do rfl rfl rfl rfl rfl h10<|g_v rfl (r_field (n:=4) Try.underlying41 rfl Try.sizeOf39 rfl rfl)<|g_do rfl rfl rfl rfl rfl h10<|g_v rfl (r_load (tag:=100030) rfl rfl rfl Try.isAgg39)<|g_do rfl rfl rfl rfl rfl h10 ?_
         refine g_v rfl (r_lenL Try.underlying39 rfl)<|g_do rfl rfl rfl rfl rfl h10<|g_v rfl (r_neq rfl rfl)<|g_v rfl (r_pick0 rfl h10)<|g_nil<|d_then ?_
         refine c_flat [(2,Vp g1),(3,Vp g2),(68,.bool (decide ((p0.fRecords.length : Int) ≠ (p1.fRecords.length : Int))))] ⟨rfl,rfl,rfl,trivial⟩ (fun u=>?_)
         refine c_cond rfl (fun h11=>?_) (fun h11=>?_)
         ·
          replace hm:=ite_t hm (of_decide_eq_true h11)
          refine c_seq<|c_region<|g_v rfl r_assign<|g_nil<|d_then<|c_ret<|d_ret_then ?_
          cases hm
          exact d_retC () Try.results12 (res_tmp (res_nil rfl)) trivial (fun W h=>ok_pre (H1:=[_,_]) (R1:=[]) h (fun W hφ=>hφ)) (.inr rfl)
         replace hm:=ite_f hm (of_decide_eq_false h11)
         refine c_skip<|d_then<|c_seq<|c_seq<|c_region<|g_v rfl r_assign<|g_nil<|d_then ?_
         refine c_cut (ι:=Unit) [] (fun _=>[]) (fun _=>⟨w0,M,H,R,φ⟩) (fun _=>m_ref16_Same_j1 = some r) ?_ (fun _ u hm=>?_)
         ·
          refine c_block ?_
          replace hm:=bnd hm
          obtain ⟨out2,hl2,hr2⟩:=hm
          obtain ⟨n123',hl2⟩:=loop_lp hl2
          refine c_loopU (ι:=Nat×Int) [2,3,5] (fun ⟨n123,i95⟩=>[(5,Vi i95)]) (fun ⟨n123,i95⟩=>⟨w0,M,(100030,g2,.cells #[Vi p1.fKind,Vs p1.fName,Vu p1.fType,Vu p1.fClass,.slice Ap1_0 p1.fRecords.length cp1_0,Vi p1.fUntil,Vi p1.fRank,Vi p1.fEpoch,Vi p1.fSource] 41 (0,0))::(100020,g1,.cells #[Vi p0.fKind,Vs p0.fName,Vu p0.fType,Vu p0.fClass,.slice Ap0_0 p0.fRecords.length cp0_0,Vi p0.fUntil,Vi p0.fRank,Vi p0.fEpoch,Vi p0.fSource] 41 (0,0))::H,R,φ⟩) (fun ⟨n123,i95⟩=>Lp (fun s=>m_ref16_Same_s2 p0 p1 s) n123 i95 out2) (fun ⟨n123,i95⟩=>n123) (n123',0) hl2 ⟨rfl,rfl,rfl,trivial⟩ (fun W h=>h.phi (fun W hφ=>hφ)) (fun ⟨n123,i95⟩ u hlp=>?_)
          obtain ⟨o2,hm,hnx2⟩:=lp_step hlp
          clear hlp
          replace hm : m_ref16_Same_s2 p0 p1 i95 = some o2:=hm
          unfold m_ref16_Same_s2 at hm
          refine c_flat [(2,Vp g1),(3,Vp g2),(5,Vi i95)] ⟨rfl,rfl,rfl,trivial⟩ (fun u=>?_)
          refine c_seq<|c_seq<|c_region<|g_v rfl r_move<|g_v rfl (r_field (n:=4) Try.underlying41 rfl Try.sizeOf39 rfl rfl)<|g_v rfl (r_load (tag:=100020) rfl rfl rfl Try.isAgg39)<|g_v rfl (r_lenL Try.underlying39 rfl)<|g_v rfl (r_lss rfl rfl)<|g_nil<|d_then ?_
          refine c_cond rfl (fun h124=>?_) (fun h124=>?_)
          ·
           replace hm:=ite_t hm (of_decide_eq_true h124)
           refine c_skip<|d_then<|c_seq<|c_block<|c_seq<|ga_start (n:=11) ⟨w0,M,(100030,g2,.cells #[Vi p1.fKind,Vs p1.fName,Vu p1.fType,Vu p1.fClass,.slice Ap1_0 p1.fRecords.length cp1_0,Vi p1.fUntil,Vi p1.fRank,Vi p1.fEpoch,Vi p1.fSource] 41 (0,0))::(100020,g1,.cells #[Vi p0.fKind,Vs p0.fName,Vu p0.fType,Vu p0.fClass,.slice Ap0_0 p0.fRecords.length cp0_0,Vi p0.fUntil,Vi p0.fRank,Vi p0.fEpoch,Vi p0.fSource] 41 (0,0))::H,R,φ⟩ [] #[false,false,false,false,false,false,false,false,false,false,false] (fun W h=>h.phi (fun W hφ=>hφ)) mixed rfl rfl<|ga_v (i:=0) (bz 11 1) rfl (by kernel_rfl) (fun _ _ _ _ h=>h) rfl (r_field (n:=4) Try.underlying41 rfl Try.sizeOf39 rfl rfl)<|ga_v (i:=1) (bz 11 3) rfl (by kernel_rfl) (fun _ _ _ _ h=>h) rfl (r_load (tag:=100020) rfl rfl rfl Try.isAgg39)<|ga_v (i:=2) (bz 11 7) rfl (by kernel_rfl) (fun _ _ _ _ h=>h) rfl (r_move) ?_
           replace hm:=bnd hm
           obtain ⟨x141,hx141,hm⟩:=hm
           refine ga_know _ (fun W hS=>cl_at (p:=(Sta.mk w0 M H R φ).ok) (sz:=5) (fun _=>rfl) (by decide) (ok_pre (H1:=[_,_]) (R1:=[]) hS (fun W h=>h)) fp0_0 hx141) ?_
           rintro ⟨ad142,hA144,f143⟩
           refine ga_v (i:=3) (bz 11 15) rfl (by kernel_rfl) (fun _ _ _ _ h=>h) rfl (r_ix Try.underlying39 Try.sizeOf54 rfl hA144 rfl hx141)<|ga_v (i:=4) (bz 11 31) rfl (by kernel_rfl) (fun _ _ _ _ h=>h) rfl (r_ldA rfl Try.isAgg54 Try.sizeOf54 (fun W hS=>(f143 W (ok_pre (H1:=[_,_]) (R1:=[]) hS (fun W h=>h))).take 5) rfl)<|ga_v (i:=5) (bz 11 63) rfl (by kernel_rfl) (fun _ _ _ _ h=>h) rfl (r_field (n:=4) Try.underlying41 rfl Try.sizeOf39 rfl rfl)<|ga_v (i:=6) (bz 11 127) rfl (by kernel_rfl) (fun _ _ _ _ h=>h) rfl (r_load (tag:=100030) rfl rfl rfl Try.isAgg39)<|ga_r (i:=7) (bz 11 255) rfl (by kernel_rfl) (by decide) rfl (r_move) ?_
           replace hm:=bnd hm
           obtain ⟨x145,hx145,hm⟩:=hm
           refine ga_know _ (fun W hS=>cl_at (p:=(Sta.mk w0 M H R φ).ok) (sz:=5) (fun _=>rfl) (by decide) (ok_pre (H1:=[_,_]) (R1:=[]) hS (fun W h=>h)) fp1_0 hx145) ?_
           rintro ⟨ad146,hA148,f147⟩
           refine ga_r (i:=8) (bz 11 511) rfl (by kernel_rfl) (by decide) rfl (r_ix Try.underlying39 Try.sizeOf54 rfl hA148 rfl hx145)<|ga_r (i:=9) (bz 11 1023) rfl (by kernel_rfl) (by decide) rfl (r_ldA rfl Try.isAgg54 Try.sizeOf54 (fun W hS=>(f147 W (ok_pre (H1:=[_,_]) (R1:=[]) hS (fun W h=>h))).take 5) rfl)<|ga_r (i:=10) (bz 11 2047) rfl (by kernel_rfl) (by decide) rfl (r_neqA rfl rfl eqg54 (eqq54 x141 x145))<|ga_done (by kernel_rfl)<|d_then ?_
           refine c_flat [(2,Vp g1),(3,Vp g2),(5,Vi i95),(86,.bool (!(decide (x141 = x145))))] ⟨rfl,rfl,rfl,rfl,trivial⟩ (fun u=>?_)
           refine c_cond rfl (fun h149=>?_) (fun h149=>?_)
           ·
            have h149' : (decide (x141 = x145)) = false:=by revert h149; cases (decide (x141 = x145)) <;> simp
            replace hm:=ite_f hm (of_decide_eq_false h149')
            refine c_seq<|c_region<|g_v rfl r_assign<|g_nil<|d_then<|c_ret<|d_ret_block<|d_ret_then<|d_ret_then<|d_ret_block ?_
            refine d_ret_then<|d_ret_then ?_
            replace hm:=nx_out (C:=(fun e : Unit ⊕ Bool=>Sum.elim (fun e=>m_ref16_Same_j1) (fun x=>some x) e = some r)) hm hnx2 hr2
            replace hm : some false = some r:=hm
            cases hm
            exact d_retC () Try.results12 (res_tmp (res_nil rfl)) trivial (fun W h=>ok_pre (H1:=[_,_]) (R1:=[]) h (fun W hφ=>hφ)) (.inr rfl)
           have h149' : (decide (x141 = x145)) = true:=by revert h149; cases (decide (x141 = x145)) <;> simp
           replace hm:=ite_t hm (of_decide_eq_true h149')
           refine c_skip<|d_normal_block<|d_then<|c_region<|g_v rfl r_move<|g_v rfl (r_add rfl rfl rfl)<|g_v rfl r_assign<|g_nil ?_
           obtain ⟨n150,hn150,hlp⟩:=nx_inl hm hnx2
           exact d_round (n150,w64 (i95 + 1)) hlp hn150 ⟨rfl,rfl,rfl,trivial⟩ (fun W h=>h.phi (fun W hφ=>hφ))
          replace hm:=ite_f hm (of_decide_eq_false h124)
          refine c_exit<|d_exit_then<|d_exit_then<|d_exit_block ?_
          replace hm:=nx_out (C:=(fun e : Unit ⊕ Bool=>Sum.elim (fun e=>m_ref16_Same_j1) (fun x=>some x) e = some r)) hm hnx2 hr2
          exact d_round () hm Nat.zero_lt_one trivial (fun W h=>((h.dropH (t:=100030) rfl).dropH (t:=100020) rfl).phi (fun W hφ=>hφ))
         unfold m_ref16_Same_j1 at hm
         refine d_flat [] trivial (fun u=>?_)
         refine d_sta ⟨w0,M,H,R,φ⟩ (fun _ h=>h)<|d_then<|c_seq<|c_region<|g_v rfl r_assign<|g_nil<|d_then<|c_ret ?_
         cases hm
         exact d_retC () Try.results12 (res_tmp (res_nil rfl)) trivial (fun W h=>ok_pre (H1:=[]) (R1:=[]) h (fun W hφ=>hφ)) (.inr rfl)
        replace hm:=ite_t hm (of_decide_eq_true h10)
        iterate 6 refine g_no rfl rfl rfl rfl rfl h10 ?_
        refine g_v rfl (r_pick1 rfl h10)<|g_nil<|d_then ?_
        refine c_flat [(2,Vp g1),(3,Vp g2),(68,.bool true)] ⟨rfl,rfl,rfl,trivial⟩ (fun u=>?_)
        refine c_cond1 rfl rfl<|c_seq<|c_region<|g_v rfl r_assign<|g_nil<|d_then<|c_ret<|d_ret_then ?_
        cases hm
        exact d_retC () Try.results12 (res_tmp (res_nil rfl)) trivial (fun W h=>ok_pre (H1:=[_,_]) (R1:=[]) h (fun W hφ=>hφ)) (.inr rfl)
       replace hm:=ite_t hm (of_decide_eq_true h9)
       iterate 4 refine g_no rfl rfl rfl rfl rfl h9 ?_
       refine g_v rfl (r_pick1 rfl h9)<|g_v rfl r_move ?_
       iterate 7 refine g_no rfl rfl rfl rfl rfl rfl ?_
       refine g_v rfl (r_pick1 rfl rfl)<|g_nil<|d_then ?_
       refine c_flat [(2,Vp g1),(3,Vp g2),(68,.bool true)] ⟨rfl,rfl,rfl,trivial⟩ (fun u=>?_)
       refine c_cond1 rfl rfl<|c_seq<|c_region<|g_v rfl r_assign<|g_nil<|d_then<|c_ret<|d_ret_then ?_
       cases hm
       exact d_retC () Try.results12 (res_tmp (res_nil rfl)) trivial (fun W h=>ok_pre (H1:=[_,_]) (R1:=[]) h (fun W hφ=>hφ)) (.inr rfl)
      replace hm:=ite_t hm (of_decide_eq_true h8)
      iterate 4 refine g_no rfl rfl rfl rfl rfl h8 ?_
      refine g_v rfl (r_pick1 rfl h8)<|g_v rfl r_move ?_
      iterate 5 refine g_no rfl rfl rfl rfl rfl rfl ?_
      refine g_v rfl (r_pick1 rfl rfl)<|g_v rfl r_move ?_
      iterate 7 refine g_no rfl rfl rfl rfl rfl rfl ?_
      refine g_v rfl (r_pick1 rfl rfl)<|g_nil<|d_then ?_
      refine c_flat [(2,Vp g1),(3,Vp g2),(68,.bool true)] ⟨rfl,rfl,rfl,trivial⟩ (fun u=>?_)
      refine c_cond1 rfl rfl<|c_seq<|c_region<|g_v rfl r_assign<|g_nil<|d_then<|c_ret<|d_ret_then ?_
      cases hm
      exact d_retC () Try.results12 (res_tmp (res_nil rfl)) trivial (fun W h=>ok_pre (H1:=[_,_]) (R1:=[]) h (fun W hφ=>hφ)) (.inr rfl)
     replace hm:=ite_t hm (of_decide_eq_true h7)
     iterate 4 refine g_no rfl rfl rfl rfl rfl h7 ?_
     refine g_v rfl (r_pick1 rfl h7)<|g_v rfl r_move ?_
     iterate 5 refine g_no rfl rfl rfl rfl rfl rfl ?_
     refine g_v rfl (r_pick1 rfl rfl)<|g_v rfl r_move ?_
     iterate 5 refine g_no rfl rfl rfl rfl rfl rfl ?_
     refine g_v rfl (r_pick1 rfl rfl)<|g_v rfl r_move ?_
     iterate 7 refine g_no rfl rfl rfl rfl rfl rfl ?_
     refine g_v rfl (r_pick1 rfl rfl)<|g_nil<|d_then ?_
     refine c_flat [(2,Vp g1),(3,Vp g2),(68,.bool true)] ⟨rfl,rfl,rfl,trivial⟩ (fun u=>?_)
     refine c_cond1 rfl rfl<|c_seq<|c_region<|g_v rfl r_assign<|g_nil<|d_then<|c_ret<|d_ret_then ?_
     cases hm
     exact d_retC () Try.results12 (res_tmp (res_nil rfl)) trivial (fun W h=>ok_pre (H1:=[_,_]) (R1:=[]) h (fun W hφ=>hφ)) (.inr rfl)
    replace hm:=ite_t hm (of_decide_eq_true h6)
    iterate 4 refine g_no rfl rfl rfl rfl rfl h6 ?_
    refine g_v rfl (r_pick1 rfl h6)<|g_v rfl r_move ?_
    iterate 5 refine g_no rfl rfl rfl rfl rfl rfl ?_
    refine g_v rfl (r_pick1 rfl rfl)<|g_v rfl r_move ?_
    iterate 5 refine g_no rfl rfl rfl rfl rfl rfl ?_
    refine g_v rfl (r_pick1 rfl rfl)<|g_v rfl r_move ?_
    iterate 5 refine g_no rfl rfl rfl rfl rfl rfl ?_
    refine g_v rfl (r_pick1 rfl rfl)<|g_v rfl r_move ?_
    iterate 7 refine g_no rfl rfl rfl rfl rfl rfl ?_
    refine g_v rfl (r_pick1 rfl rfl)<|g_nil<|d_then ?_
    refine c_flat [(2,Vp g1),(3,Vp g2),(68,.bool true)] ⟨rfl,rfl,rfl,trivial⟩ (fun u=>?_)
    refine c_cond1 rfl rfl<|c_seq<|c_region<|g_v rfl r_assign<|g_nil<|d_then<|c_ret<|d_ret_then ?_
    cases hm
    exact d_retC () Try.results12 (res_tmp (res_nil rfl)) trivial (fun W h=>ok_pre (H1:=[_,_]) (R1:=[]) h (fun W hφ=>hφ)) (.inr rfl)
   replace hm:=ite_t hm (of_decide_eq_true h5)
   iterate 4 refine g_no rfl rfl rfl rfl rfl h5 ?_
   refine g_v rfl (r_pick1 rfl h5)<|g_v rfl r_move ?_
   iterate 5 refine g_no rfl rfl rfl rfl rfl rfl ?_
   refine g_v rfl (r_pick1 rfl rfl)<|g_v rfl r_move ?_
   iterate 5 refine g_no rfl rfl rfl rfl rfl rfl ?_
   refine g_v rfl (r_pick1 rfl rfl)<|g_v rfl r_move ?_
   iterate 5 refine g_no rfl rfl rfl rfl rfl rfl ?_
   refine g_v rfl (r_pick1 rfl rfl)<|g_v rfl r_move ?_
   iterate 5 refine g_no rfl rfl rfl rfl rfl rfl ?_
   refine g_v rfl (r_pick1 rfl rfl)<|g_v rfl r_move ?_
   iterate 7 refine g_no rfl rfl rfl rfl rfl rfl ?_
   refine g_v rfl (r_pick1 rfl rfl)<|g_nil<|d_then ?_
   refine c_flat [(2,Vp g1),(3,Vp g2),(68,.bool true)] ⟨rfl,rfl,rfl,trivial⟩ (fun u=>?_)
   refine c_cond1 rfl rfl<|c_seq<|c_region<|g_v rfl r_assign<|g_nil<|d_then<|c_ret<|d_ret_then ?_
   cases hm
   exact d_retC () Try.results12 (res_tmp (res_nil rfl)) trivial (fun W h=>ok_pre (H1:=[_,_]) (R1:=[]) h (fun W hφ=>hφ)) (.inr rfl)
  have h4' : (decide (p0.fName = p1.fName)) = false:=by revert h4; cases (decide (p0.fName = p1.fName)) <;> simp
  replace hm:=ite_f hm (of_decide_eq_false h4')
  iterate 4 refine g_no rfl rfl rfl rfl rfl h4 ?_
  refine g_v rfl (r_pick1 rfl h4)<|g_v rfl r_move ?_
  iterate 5 refine g_no rfl rfl rfl rfl rfl rfl ?_
  refine g_v rfl (r_pick1 rfl rfl)<|g_v rfl r_move ?_
  iterate 5 refine g_no rfl rfl rfl rfl rfl rfl ?_
  refine g_v rfl (r_pick1 rfl rfl)<|g_v rfl r_move ?_
  iterate 5 refine g_no rfl rfl rfl rfl rfl rfl ?_
  refine g_v rfl (r_pick1 rfl rfl)<|g_v rfl r_move ?_
  iterate 5 refine g_no rfl rfl rfl rfl rfl rfl ?_
  refine g_v rfl (r_pick1 rfl rfl)<|g_v rfl r_move ?_
  iterate 5 refine g_no rfl rfl rfl rfl rfl rfl ?_
  refine g_v rfl (r_pick1 rfl rfl)<|g_v rfl r_move ?_
  iterate 7 refine g_no rfl rfl rfl rfl rfl rfl ?_
  refine g_v rfl (r_pick1 rfl rfl)<|g_nil<|d_then ?_
  refine c_flat [(2,Vp g1),(3,Vp g2),(68,.bool true)] ⟨rfl,rfl,rfl,trivial⟩ (fun u=>?_)
  refine c_cond1 rfl rfl<|c_seq<|c_region<|g_v rfl r_assign<|g_nil<|d_then<|c_ret<|d_ret_then ?_
  cases hm
  exact d_retC () Try.results12 (res_tmp (res_nil rfl)) trivial (fun W h=>ok_pre (H1:=[_,_]) (R1:=[]) h (fun W hφ=>hφ)) (.inr rfl)
 replace hm:=ite_t hm (of_decide_eq_true h3)
 iterate 4 refine g_no rfl rfl rfl rfl rfl h3 ?_
 refine g_v rfl (r_pick1 rfl h3)<|g_v rfl r_move ?_
 iterate 5 refine g_no rfl rfl rfl rfl rfl rfl ?_
 refine g_v rfl (r_pick1 rfl rfl)<|g_v rfl r_move ?_
 iterate 5 refine g_no rfl rfl rfl rfl rfl rfl ?_
 refine g_v rfl (r_pick1 rfl rfl)<|g_v rfl r_move ?_
 iterate 5 refine g_no rfl rfl rfl rfl rfl rfl ?_
 refine g_v rfl (r_pick1 rfl rfl)<|g_v rfl r_move ?_
 iterate 5 refine g_no rfl rfl rfl rfl rfl rfl ?_
 refine g_v rfl (r_pick1 rfl rfl)<|g_v rfl r_move ?_
 iterate 5 refine g_no rfl rfl rfl rfl rfl rfl ?_
 refine g_v rfl (r_pick1 rfl rfl)<|g_v rfl r_move ?_
 iterate 5 refine g_no rfl rfl rfl rfl rfl rfl ?_
 refine g_v rfl (r_pick1 rfl rfl)<|g_v rfl r_move ?_
 iterate 7 refine g_no rfl rfl rfl rfl rfl rfl ?_
 refine g_v rfl (r_pick1 rfl rfl)<|g_nil<|d_then ?_
 refine c_flat [(2,Vp g1),(3,Vp g2),(68,.bool true)] ⟨rfl,rfl,rfl,trivial⟩ (fun u=>?_)
 refine c_cond1 rfl rfl<|c_seq<|c_region<|g_v rfl r_assign<|g_nil<|d_then<|c_ret<|d_ret_then ?_
 cases hm
 exact d_retC () Try.results12 (res_tmp (res_nil rfl)) trivial (fun W h=>ok_pre (H1:=[_,_]) (R1:=[]) h (fun W hφ=>hφ)) (.inr rfl)
noncomputable def m_ref16_SameAll_j1  : Option Bool:=
  some true
noncomputable def m_ref16_SameAll_s2 (p0 : List GCached) (p1 : List GCached) (i193 : Int) : Option (Int ⊕ (Unit ⊕ Bool)):=
  if i193 < (p0.length : Int) then
    (at_ p0 i193).bind fun x299=>
    (at_ p1 i193).bind fun x308=>
    (m_ref16_Same x299 x308).bind fun x317=>
    if x317 = true then
      some (.inl (w64 (i193 + 1)))
    else
      some (.inr (.inr false))
  else
    some (.inr (.inl ()))
noncomputable def m_ref16_SameAll (p0 : List GCached) (p1 : List GCached) : Option Bool:=
  if (p0.length : Int) ≠ (p1.length : Int) then
    some false
  else
    (loop (fun s=>m_ref16_SameAll_s2 p0 p1 s) 0).bind fun e=>Sum.elim (fun e=>m_ref16_SameAll_j1) (fun x=>some x) e
theorem c_ref16_SameAll {w0 : World} {M : Nat→Prop} {H : List (Nat×Nat×Obj)} {R : List (Nat×Row)} {φ : World→Prop} (p0 : List GCached) (Ap0_0 : Option Addr) (cp0_0 : Nat) (psp0_0 : List GCachedP) (hcp0_0 : (DOk GCached.capP p0 psp0_0∧p0.length ≤ cp0_0)) (fp0_0 : ∀ W,(Sta.mk w0 M H R φ).ok W→Cl W Ap0_0 ((p0.zip psp0_0).flatMap GCached.encP)) (fop0_0 : ∀ W,(Sta.mk w0 M H R φ).ok W→DOwn GCached.ownP p0 psp0_0 W) (p1 : List GCached) (Ap1_0 : Option Addr) (cp1_0 : Nat) (psp1_0 : List GCachedP) (hcp1_0 : (DOk GCached.capP p1 psp1_0∧p1.length ≤ cp1_0)) (fp1_0 : ∀ W,(Sta.mk w0 M H R φ).ok W→Cl W Ap1_0 ((p1.zip psp1_0).flatMap GCached.encP)) (fop1_0 : ∀ W,(Sta.mk w0 M H R φ).ok W→DOwn GCached.ownP p1 psp1_0 W) (r : Bool) (hm : m_ref16_SameAll p0 p1 = some r) :
    Cn Try.prog 11 #[.slice Ap0_0 p0.length cp0_0,.slice Ap1_0 p1.length cp1_0] ⟨w0,M,H,R,φ⟩ (fun x : Unit=>.bool r) (fun x=>True) (fun x=>⟨w0,M,H,R,φ⟩):=by
 unfold m_ref16_SameAll at hm
 refine cn_intro (fn:=Try.f11) (N:=29) Try.func11 rfl Try.ntmps11 rfl<|c_seq<|c_region<|g_v rfl r_assign<|g_nil<|d_then<|c_seq<|c_seq<|c_region<|g_v rfl r_move ?_
 refine g_v rfl (r_lenL Try.underlying25 rfl)<|g_v rfl r_move<|g_v rfl (r_lenL Try.underlying25 rfl)<|g_v rfl (r_neq rfl rfl)<|g_nil<|d_then ?_
 refine c_cond rfl (fun h1=>?_) (fun h1=>?_)
 ·
  replace hm:=ite_t hm (of_decide_eq_true h1)
  refine c_seq<|c_region<|g_v rfl r_assign<|g_nil<|d_then<|c_ret<|d_ret_then ?_
  cases hm
  exact d_retC () Try.results11 (res_tmp (res_nil rfl)) trivial (fun W h=>ok_pre (H1:=[]) (R1:=[]) h (fun W hφ=>hφ)) (.inr rfl)
 replace hm:=ite_f hm (of_decide_eq_false h1)
 refine c_skip<|d_then<|c_seq<|c_seq<|c_region<|g_v rfl r_assign<|g_nil<|d_then ?_
 refine c_cut (ι:=Unit) [] (fun _=>[]) (fun _=>⟨w0,M,H,R,φ⟩) (fun _=>m_ref16_SameAll_j1 = some r) ?_ (fun _ u hm=>?_)
 ·
  refine c_block ?_
  replace hm:=bnd hm
  obtain ⟨out2,hl2,hr2⟩:=hm
  obtain ⟨n257',hl2⟩:=loop_lp hl2
  refine c_loopU (ι:=Nat×Int) [0,1,5] (fun ⟨n257,i193⟩=>[(5,Vi i193)]) (fun ⟨n257,i193⟩=>⟨w0,M,H,R,φ⟩) (fun ⟨n257,i193⟩=>Lp (fun s=>m_ref16_SameAll_s2 p0 p1 s) n257 i193 out2) (fun ⟨n257,i193⟩=>n257) (n257',0) hl2 ⟨rfl,rfl,rfl,trivial⟩ (fun W h=>h.phi (fun W hφ=>hφ)) (fun ⟨n257,i193⟩ u hlp=>?_)
  obtain ⟨o2,hm,hnx2⟩:=lp_step hlp
  clear hlp
  replace hm : m_ref16_SameAll_s2 p0 p1 i193 = some o2:=hm
  unfold m_ref16_SameAll_s2 at hm
  refine c_flat [(0,.slice Ap0_0 p0.length cp0_0),(1,.slice Ap1_0 p1.length cp1_0),(5,Vi i193)] ⟨rfl,rfl,rfl,trivial⟩ (fun u=>?_)
  refine c_sta ⟨w0,M,H,R,φ⟩ (fun _ h=>h)<|c_seq<|c_seq<|c_region<|g_v rfl r_move<|g_v rfl r_move<|g_v rfl (r_lenL Try.underlying25 rfl)<|g_v rfl (r_lss rfl rfl)<|g_nil<|d_then ?_
  refine c_cond rfl (fun h258=>?_) (fun h258=>?_)
  ·
   replace hm:=ite_t hm (of_decide_eq_true h258)
   refine c_skip<|d_then<|c_seq<|c_block<|c_seq<|ga_start (n:=10) ⟨w0,M,H,R,φ⟩ [] #[false,false,false,false,false,false,false,false,false,false] (fun W h=>h.phi (fun W hφ=>hφ)) mixed rfl rfl<|ga_v (i:=0) (bz 10 1) rfl (by kernel_rfl) (fun _ _ _ _ h=>h) rfl (r_move)<|ga_v (i:=1) (bz 10 3) rfl (by kernel_rfl) (fun _ _ _ _ h=>h) rfl (r_move) ?_
   replace hm:=bnd hm
   obtain ⟨x299,hx299,hm⟩:=hm
   obtain ⟨pp303,hv304,hz305,hcp306⟩:=DOk.at_ hcp0_0.1 hx299
   refine ga_know _ (fun W hS=>cl_at (p:=(Sta.mk w0 M H R φ).ok) (sz:=9) (fun _=>rfl) (by decide) (ok_pre (H1:=[]) (R1:=[]) hS (fun W h=>h)) fp0_0 hv304) ?_
   rintro ⟨ad300,hA302,f301⟩
   have f307:=fun (W : World) (h : (Sta.mk w0 M H R φ).ok W)=>(fop0_0 W h _ hz305)
   refine ga_v (i:=2) (bz 10 7) rfl (by kernel_rfl) (fun _ _ _ _ h=>h) rfl (r_ix Try.underlying25 Try.sizeOf41 rfl hA302 rfl hx299)<|ga_v (i:=3) (bz 10 15) rfl (by kernel_rfl) (fun _ _ _ _ h=>h) rfl (r_ldA rfl Try.isAgg41 Try.sizeOf41 (fun W hS=>(f301 W (ok_pre (H1:=[]) (R1:=[]) hS (fun W h=>h))).take 9) rfl)<|ga_v (i:=4) (bz 10 31) rfl (by kernel_rfl) (fun _ _ _ _ h=>h) rfl (r_move)<|ga_r (i:=5) (bz 10 63) rfl (by kernel_rfl) (by decide) rfl (r_move) ?_
   replace hm:=bnd hm
   obtain ⟨x308,hx308,hm⟩:=hm
   obtain ⟨pp312,hv313,hz314,hcp315⟩:=DOk.at_ hcp1_0.1 hx308
   refine ga_know _ (fun W hS=>cl_at (p:=(Sta.mk w0 M H R φ).ok) (sz:=9) (fun _=>rfl) (by decide) (ok_pre (H1:=[]) (R1:=[]) hS (fun W h=>h)) fp1_0 hv313) ?_
   rintro ⟨ad309,hA311,f310⟩
   have f316:=fun (W : World) (h : (Sta.mk w0 M H R φ).ok W)=>(fop1_0 W h _ hz314)
   refine ga_r (i:=6) (bz 10 127) rfl (by kernel_rfl) (by decide) rfl (r_ix Try.underlying25 Try.sizeOf41 rfl hA311 rfl hx308)<|ga_r (i:=7) (bz 10 255) rfl (by kernel_rfl) (by decide) rfl (r_ldA rfl Try.isAgg41 Try.sizeOf41 (fun W hS=>(f310 W (ok_pre (H1:=[]) (R1:=[]) hS (fun W h=>h))).take 9) rfl) ?_
   replace hm:=bnd hm
   obtain ⟨x317,hx318,hm⟩:=hm
   refine ga_cn (first:=#[]) (i:=8) (bz 10 511) rfl (by kernel_rfl) (by decide)  ⟨w0,M,_,_,φ⟩ (fun _ h=>h) Try.call12 rfl rfl rfl (c_ref16_Same x299 pp303.pA0 pp303.pC0 hcp306 (fun W hS=>f307 W (ok_pre (H1:=[]) (R1:=[]) hS (fun W h=>h))) x308 pp312.pA0 pp312.pC0 hcp315 (fun W hS=>f316 W (ok_pre (H1:=[]) (R1:=[]) hS (fun W h=>h))) _ hx318) (fun _ W _ h=>h.phi (fun W hφ=>hφ)) (fun _ _=>?_)
   refine ga_r (i:=9) (bz 10 1023) rfl (by kernel_rfl) (by decide) rfl (r_assign)<|ga_done (by kernel_rfl)<|d_then ?_
   refine c_flat [(0,.slice Ap0_0 p0.length cp0_0),(1,.slice Ap1_0 p1.length cp1_0),(5,Vi i193),(6,.bool x317)] ⟨rfl,rfl,rfl,rfl,trivial⟩ (fun u=>?_)
   refine c_seq<|c_region<|g_v rfl r_move<|g_v rfl (r_not rfl)<|g_nil<|d_then ?_
   refine c_cond rfl (fun h319=>?_) (fun h319=>?_)
   ·
    have h319' : x317 = false:=by revert h319; cases x317 <;> simp
    replace hm:=ite_f hm (bool_nt h319')
    refine c_seq<|c_region<|g_v rfl r_assign<|g_nil<|d_then<|c_ret<|d_ret_block<|d_ret_then<|d_ret_then<|d_ret_block ?_
    refine d_ret_then<|d_ret_then ?_
    replace hm:=nx_out (C:=(fun e : Unit ⊕ Bool=>Sum.elim (fun e=>m_ref16_SameAll_j1) (fun x=>some x) e = some r)) hm hnx2 hr2
    replace hm : some false = some r:=hm
    cases hm
    exact d_retC () Try.results11 (res_tmp (res_nil rfl)) trivial (fun W h=>ok_pre (H1:=[]) (R1:=[]) h (fun W hφ=>hφ)) (.inr rfl)
   have h319' : x317 = true:=by revert h319; cases x317 <;> simp
   replace hm:=ite_t hm h319'
   refine c_skip<|d_normal_block<|d_then<|c_region<|g_v rfl r_move<|g_v rfl (r_add rfl rfl rfl)<|g_v rfl r_assign<|g_nil ?_
   obtain ⟨n320,hn320,hlp⟩:=nx_inl hm hnx2
   exact d_round (n320,w64 (i193 + 1)) hlp hn320 ⟨rfl,rfl,rfl,trivial⟩ (fun W h=>h.phi (fun W hφ=>hφ))
  replace hm:=ite_f hm (of_decide_eq_false h258)
  refine c_exit<|d_exit_then<|d_exit_then<|d_exit_block ?_
  replace hm:=nx_out (C:=(fun e : Unit ⊕ Bool=>Sum.elim (fun e=>m_ref16_SameAll_j1) (fun x=>some x) e = some r)) hm hnx2 hr2
  exact d_round () hm Nat.zero_lt_one trivial (fun W h=>h.phi (fun W hφ=>hφ))
 unfold m_ref16_SameAll_j1 at hm
 refine d_flat [] trivial (fun u=>?_)
 refine d_sta ⟨w0,M,H,R,φ⟩ (fun _ h=>h)<|d_then<|c_seq<|c_region<|g_v rfl r_assign<|g_nil<|d_then<|c_ret ?_
 cases hm
 exact d_retC () Try.results11 (res_tmp (res_nil rfl)) trivial (fun W h=>ok_pre (H1:=[]) (R1:=[]) h (fun W hφ=>hφ)) (.inr rfl)
structure GNoteP where
  pA0 : Option Addr
  pC0 : Nat
  pA1 : Option Addr
  pC1 : Nat
def GNote.encP (z : GNote×GNoteP) : List Value:=[.int .i64 z.1.fKind,.int .i64 z.1.fFrom,.int .i64 z.1.fTo,.int .i64 z.1.fTerm,.int .i64 z.1.fIndex,.int .i64 z.1.fLogTerm,.int .i64 z.1.fCommit,.bool z.1.fGood,.slice z.2.pA0 z.1.fEntries.length z.2.pC0,.slice z.2.pA1 z.1.fVoters.length z.2.pC1,.string z.1.fSnap]
abbrev GNote.capP (z : GNote×GNoteP) : Prop:=z.1.fEntries.length ≤ z.2.pC0∧z.1.fVoters.length ≤ z.2.pC1
abbrev GNote.ownP (W : World) (z : GNote×GNoteP) : Prop:=Cl W z.2.pA0 (z.1.fEntries.flatMap GEntry.enc)∧Cl W z.2.pA1 (z.1.fVoters.flatMap (fun x : Int=>[Value.int .i64 x]))
theorem lit29_41 (z0 : Int) (z1 : Int) (z2 : Int) (z3 : Int) (z4 : Int) (z5 : Int) (z6 : Int) (z7 : Bool) (zAz8 : Option Addr) (znz8 : Nat) (zcz8 : Nat) (zAz9 : Option Addr) (znz9 : Nat) (zcz9 : Nat) (z10 : ByteArray) : Try.prog.builtSlice 29 1 [(0,.agg #[Vi z0,Vi z1,Vi z2,Vi z3,Vi z4,Vi z5,Vi z6,.bool z7,.slice zAz8 znz8 zcz8,.slice zAz9 znz9 zcz9,Vs z10])] = some #[Vi z0,Vi z1,Vi z2,Vi z3,Vi z4,Vi z5,Vi z6,.bool z7,.slice zAz8 znz8 zcz8,.slice zAz9 znz9 zcz9,Vs z10]:=by kernel_rfl
theorem bld103_42 (zA0 : Option Addr) (zn0 : Nat) (zc0 : Nat) : ∀ W,(Instr.build 103 #[(2,.slice zA0 zn0 zc0)]).run Try.prog W = .ok (.agg #[Vi 0,Vi 0,.slice zA0 zn0 zc0]) W:=fun _=>by kernel_rfl
theorem eqq56 (a b : GEntry) : ∀ d W,(Op.equalIn (d + 5) 56 (.agg #[Vi a.fTerm,Vi a.fKind,Vs a.fData]) (.agg #[Vi b.fTerm,Vi b.fKind,Vs b.fData])).run Try.prog W = .ok (decide (a = b)) W:=by
  intro d W
  have h:=eqs_of (d:=d + 4) (xs:=#[Vi a.fTerm,Vi a.fKind,Vs a.fData]) (ys:=#[Vi b.fTerm,Vi b.fKind,Vs b.fData]) (w:=W) Try.underlying56 (by kernel_rfl) (eqs_cons (a:=Vi a.fTerm) (b:=Vi b.fTerm) rfl (by kernel_rfl) (by kernel_rfl) (eqs_int Try.underlying3) (eqs_cons (a:=Vi a.fKind) (b:=Vi b.fKind) rfl (by kernel_rfl) (by kernel_rfl) (eqs_int Try.underlying3) (eqs_cons (a:=Vs a.fData) (b:=Vs b.fData) rfl (by kernel_rfl) (by kernel_rfl) (eqs_str Try.underlying9) eqs_nil)))
  refine h.trans ?_
  congr 1
  cases a; cases b
  simp only [GEntry.mk.injEq,Bool.and_true]
  simp only [Bool.decide_and]
theorem eqg56 : Try.prog.eqGuardType Try.prog.depth 56 = false:=by kernel_rfl
noncomputable def m_ref11_SameLog_j1  : Option Bool:=
  some true
noncomputable def m_ref11_SameLog_s2 (p0 : GLog) (p1 : GLog) (i89 : Int) : Option (Int ⊕ (Unit ⊕ Bool)):=
  if i89 < (p0.fEntries.length : Int) then
    (at_ p0.fEntries i89).bind fun x135=>
    (at_ p1.fEntries i89).bind fun x139=>
    if x135 = x139 then
      some (.inl (w64 (i89 + 1)))
    else
      some (.inr (.inr false))
  else
    some (.inr (.inl ()))
noncomputable def m_ref11_SameLog (p0 : GLog) (p1 : GLog) : Option Bool:=
  if p0.fBase ≠ p1.fBase then
    some false
  else
    if p0.fBaseTerm ≠ p1.fBaseTerm then
      some false
    else
      if (p0.fEntries.length : Int) ≠ (p1.fEntries.length : Int) then
        some false
      else
        (loop (fun s=>m_ref11_SameLog_s2 p0 p1 s) 0).bind fun e=>Sum.elim (fun e=>m_ref11_SameLog_j1) (fun x=>some x) e
theorem c_ref11_SameLog {w0 : World} {M : Nat→Prop} {H : List (Nat×Nat×Obj)} {R : List (Nat×Row)} {φ : World→Prop} (p0 : GLog) (Ap0_0 : Option Addr) (cp0_0 : Nat) (hcp0_0 : p0.fEntries.length ≤ cp0_0) (fp0_0 : ∀ W,(Sta.mk w0 M H R φ).ok W→Cl W Ap0_0 (p0.fEntries.flatMap GEntry.enc)) (p1 : GLog) (Ap1_0 : Option Addr) (cp1_0 : Nat) (hcp1_0 : p1.fEntries.length ≤ cp1_0) (fp1_0 : ∀ W,(Sta.mk w0 M H R φ).ok W→Cl W Ap1_0 (p1.fEntries.flatMap GEntry.enc)) (r : Bool) (hm : m_ref11_SameLog p0 p1 = some r) :
    Cn Try.prog 55 #[.agg #[Vi p0.fBase,Vi p0.fBaseTerm,.slice Ap0_0 p0.fEntries.length cp0_0],.agg #[Vi p1.fBase,Vi p1.fBaseTerm,.slice Ap1_0 p1.fEntries.length cp1_0]] ⟨w0,M,H,R,φ⟩ (fun x : Unit=>.bool r) (fun x=>True) (fun x=>⟨w0,M,H,R,φ⟩):=by
 unfold m_ref11_SameLog at hm
 refine cn_intro (fn:=Try.f55) (N:=45) Try.func55 rfl Try.ntmps55 rfl<|c_seq<|c_region ?_
 refine g_e rfl (e_box 100020 rfl) (fun g1 _=>?_)
 refine g_e rfl (e_box 100030 rfl) (fun g2 _=>?_)
 refine g_v rfl r_assign<|g_nil<|d_then<|c_seq<|c_seq<|c_region<|g_v rfl (r_field (n:=0) Try.underlying103 rfl Try.sizeOf3 rfl rfl)<|g_v rfl (r_load (tag:=100020) rfl rfl rfl Try.isAgg3)<|g_v rfl (r_field (n:=0) Try.underlying103 rfl Try.sizeOf3 rfl rfl)<|g_v rfl (r_load (tag:=100030) rfl rfl rfl Try.isAgg3) ?_
 refine g_v rfl (r_neq rfl rfl)<|g_v rfl r_move<|g_sta ⟨w0,M,(100030,g2,.cells #[Vi p1.fBase,Vi p1.fBaseTerm,.slice Ap1_0 p1.fEntries.length cp1_0] 103 (0,0))::(100020,g1,.cells #[Vi p0.fBase,Vi p0.fBaseTerm,.slice Ap0_0 p0.fEntries.length cp0_0] 103 (0,0))::H,R,φ⟩ (fun _ h=>h) ?_
 refine g_if rfl rfl rfl rfl rfl (fun h3=>?_) (fun h3=>?_)
 ·
  replace hm:=ite_f hm (of_decide_eq_false h3)
  refine g_v rfl (r_field (n:=1) Try.underlying103 rfl Try.sizeOf3 rfl rfl)<|g_do rfl rfl rfl rfl rfl h3<|g_v rfl (r_load (tag:=100020) rfl rfl rfl Try.isAgg3)<|g_do rfl rfl rfl rfl rfl h3<|g_v rfl (r_field (n:=1) Try.underlying103 rfl Try.sizeOf3 rfl rfl)<|g_do rfl rfl rfl rfl rfl h3<|g_v rfl (r_load (tag:=100030) rfl rfl rfl Try.isAgg3)<|g_do rfl rfl rfl rfl rfl h3<|g_v rfl (r_neq rfl rfl)<|g_v rfl (r_pick0 rfl h3) ?_
  refine g_v rfl r_move ?_
  refine g_if rfl rfl rfl rfl rfl (fun h4=>?_) (fun h4=>?_)
  ·
   replace hm:=ite_f hm (of_decide_eq_false h4)
   refine g_v rfl (r_field (n:=2) Try.underlying103 rfl Try.sizeOf26 rfl rfl)<|g_do rfl rfl rfl rfl rfl h4<|g_v rfl (r_load (tag:=100020) rfl rfl rfl Try.isAgg26)<|g_do rfl rfl rfl rfl rfl h4<|g_v rfl (r_lenL Try.underlying26 rfl)<|g_do rfl rfl rfl rfl rfl h4<|g_v rfl (r_field (n:=2) Try.underlying103 rfl Try.sizeOf26 rfl rfl)<|g_do rfl rfl rfl rfl rfl h4<|g_v rfl (r_load (tag:=100030) rfl rfl rfl Try.isAgg26)<|g_do rfl rfl rfl rfl rfl h4 ?_
   refine g_v rfl (r_lenL Try.underlying26 rfl)<|g_do rfl rfl rfl rfl rfl h4<|g_v rfl (r_neq rfl rfl)<|g_v rfl (r_pick0 rfl h4)<|g_nil<|d_then ?_
   refine c_flat [(2,Vp g1),(3,Vp g2),(26,.bool (decide ((p0.fEntries.length : Int) ≠ (p1.fEntries.length : Int))))] ⟨rfl,rfl,rfl,trivial⟩ (fun u=>?_)
   refine c_cond rfl (fun h5=>?_) (fun h5=>?_)
   ·
    replace hm:=ite_t hm (of_decide_eq_true h5)
    refine c_seq<|c_region<|g_v rfl r_assign<|g_nil<|d_then<|c_ret<|d_ret_then ?_
    cases hm
    exact d_retC () Try.results55 (res_tmp (res_nil rfl)) trivial (fun W h=>ok_pre (H1:=[_,_]) (R1:=[]) h (fun W hφ=>hφ)) (.inr rfl)
   replace hm:=ite_f hm (of_decide_eq_false h5)
   refine c_skip<|d_then<|c_seq<|c_seq<|c_region<|g_v rfl r_assign<|g_nil<|d_then ?_
   refine c_cut (ι:=Unit) [] (fun _=>[]) (fun _=>⟨w0,M,H,R,φ⟩) (fun _=>m_ref11_SameLog_j1 = some r) ?_ (fun _ u hm=>?_)
   ·
    refine c_block ?_
    replace hm:=bnd hm
    obtain ⟨out2,hl2,hr2⟩:=hm
    obtain ⟨n117',hl2⟩:=loop_lp hl2
    refine c_loopU (ι:=Nat×Int) [2,3,5] (fun ⟨n117,i89⟩=>[(5,Vi i89)]) (fun ⟨n117,i89⟩=>⟨w0,M,(100030,g2,.cells #[Vi p1.fBase,Vi p1.fBaseTerm,.slice Ap1_0 p1.fEntries.length cp1_0] 103 (0,0))::(100020,g1,.cells #[Vi p0.fBase,Vi p0.fBaseTerm,.slice Ap0_0 p0.fEntries.length cp0_0] 103 (0,0))::H,R,φ⟩) (fun ⟨n117,i89⟩=>Lp (fun s=>m_ref11_SameLog_s2 p0 p1 s) n117 i89 out2) (fun ⟨n117,i89⟩=>n117) (n117',0) hl2 ⟨rfl,rfl,rfl,trivial⟩ (fun W h=>h.phi (fun W hφ=>hφ)) (fun ⟨n117,i89⟩ u hlp=>?_)
    obtain ⟨o2,hm,hnx2⟩:=lp_step hlp
    clear hlp
    replace hm : m_ref11_SameLog_s2 p0 p1 i89 = some o2:=hm
    unfold m_ref11_SameLog_s2 at hm
    refine c_flat [(2,Vp g1),(3,Vp g2),(5,Vi i89)] ⟨rfl,rfl,rfl,trivial⟩ (fun u=>?_)
    refine c_seq<|c_seq<|c_region<|g_v rfl r_move<|g_v rfl (r_field (n:=2) Try.underlying103 rfl Try.sizeOf26 rfl rfl)<|g_v rfl (r_load (tag:=100020) rfl rfl rfl Try.isAgg26)<|g_v rfl (r_lenL Try.underlying26 rfl)<|g_v rfl (r_lss rfl rfl)<|g_nil<|d_then ?_
    refine c_cond rfl (fun h118=>?_) (fun h118=>?_)
    ·
     replace hm:=ite_t hm (of_decide_eq_true h118)
     refine c_skip<|d_then<|c_seq<|c_block<|c_seq<|ga_start (n:=11) ⟨w0,M,(100030,g2,.cells #[Vi p1.fBase,Vi p1.fBaseTerm,.slice Ap1_0 p1.fEntries.length cp1_0] 103 (0,0))::(100020,g1,.cells #[Vi p0.fBase,Vi p0.fBaseTerm,.slice Ap0_0 p0.fEntries.length cp0_0] 103 (0,0))::H,R,φ⟩ [] #[false,false,false,false,false,false,false,false,false,false,false] (fun W h=>h.phi (fun W hφ=>hφ)) mixed rfl rfl<|ga_v (i:=0) (bz 11 1) rfl (by kernel_rfl) (fun _ _ _ _ h=>h) rfl (r_field (n:=2) Try.underlying103 rfl Try.sizeOf26 rfl rfl)<|ga_v (i:=1) (bz 11 3) rfl (by kernel_rfl) (fun _ _ _ _ h=>h) rfl (r_load (tag:=100020) rfl rfl rfl Try.isAgg26)<|ga_v (i:=2) (bz 11 7) rfl (by kernel_rfl) (fun _ _ _ _ h=>h) rfl (r_move) ?_
     replace hm:=bnd hm
     obtain ⟨x135,hx135,hm⟩:=hm
     refine ga_know _ (fun W hS=>cl_at (p:=(Sta.mk w0 M H R φ).ok) (sz:=3) (fun _=>rfl) (by decide) (ok_pre (H1:=[_,_]) (R1:=[]) hS (fun W h=>h)) fp0_0 hx135) ?_
     rintro ⟨ad136,hA138,f137⟩
     refine ga_v (i:=3) (bz 11 15) rfl (by kernel_rfl) (fun _ _ _ _ h=>h) rfl (r_ix Try.underlying26 Try.sizeOf56 rfl hA138 rfl hx135)<|ga_v (i:=4) (bz 11 31) rfl (by kernel_rfl) (fun _ _ _ _ h=>h) rfl (r_ldA rfl Try.isAgg56 Try.sizeOf56 (fun W hS=>(f137 W (ok_pre (H1:=[_,_]) (R1:=[]) hS (fun W h=>h))).take 3) rfl)<|ga_v (i:=5) (bz 11 63) rfl (by kernel_rfl) (fun _ _ _ _ h=>h) rfl (r_field (n:=2) Try.underlying103 rfl Try.sizeOf26 rfl rfl)<|ga_v (i:=6) (bz 11 127) rfl (by kernel_rfl) (fun _ _ _ _ h=>h) rfl (r_load (tag:=100030) rfl rfl rfl Try.isAgg26)<|ga_r (i:=7) (bz 11 255) rfl (by kernel_rfl) (by decide) rfl (r_move) ?_
     replace hm:=bnd hm
     obtain ⟨x139,hx139,hm⟩:=hm
     refine ga_know _ (fun W hS=>cl_at (p:=(Sta.mk w0 M H R φ).ok) (sz:=3) (fun _=>rfl) (by decide) (ok_pre (H1:=[_,_]) (R1:=[]) hS (fun W h=>h)) fp1_0 hx139) ?_
     rintro ⟨ad140,hA142,f141⟩
     refine ga_r (i:=8) (bz 11 511) rfl (by kernel_rfl) (by decide) rfl (r_ix Try.underlying26 Try.sizeOf56 rfl hA142 rfl hx139)<|ga_r (i:=9) (bz 11 1023) rfl (by kernel_rfl) (by decide) rfl (r_ldA rfl Try.isAgg56 Try.sizeOf56 (fun W hS=>(f141 W (ok_pre (H1:=[_,_]) (R1:=[]) hS (fun W h=>h))).take 3) rfl)<|ga_r (i:=10) (bz 11 2047) rfl (by kernel_rfl) (by decide) rfl (r_neqA rfl rfl eqg56 (eqq56 x135 x139))<|ga_done (by kernel_rfl)<|d_then ?_
     refine c_flat [(2,Vp g1),(3,Vp g2),(5,Vi i89),(44,.bool (!(decide (x135 = x139))))] ⟨rfl,rfl,rfl,rfl,trivial⟩ (fun u=>?_)
     refine c_cond rfl (fun h143=>?_) (fun h143=>?_)
     ·
      have h143' : (decide (x135 = x139)) = false:=by revert h143; cases (decide (x135 = x139)) <;> simp
      replace hm:=ite_f hm (of_decide_eq_false h143')
      refine c_seq<|c_region<|g_v rfl r_assign<|g_nil<|d_then<|c_ret<|d_ret_block<|d_ret_then<|d_ret_then<|d_ret_block ?_
      refine d_ret_then<|d_ret_then ?_
      replace hm:=nx_out (C:=(fun e : Unit ⊕ Bool=>Sum.elim (fun e=>m_ref11_SameLog_j1) (fun x=>some x) e = some r)) hm hnx2 hr2
      replace hm : some false = some r:=hm
      cases hm
      exact d_retC () Try.results55 (res_tmp (res_nil rfl)) trivial (fun W h=>ok_pre (H1:=[_,_]) (R1:=[]) h (fun W hφ=>hφ)) (.inr rfl)
     have h143' : (decide (x135 = x139)) = true:=by revert h143; cases (decide (x135 = x139)) <;> simp
     replace hm:=ite_t hm (of_decide_eq_true h143')
     refine c_skip<|d_normal_block<|d_then<|c_region<|g_v rfl r_move<|g_v rfl (r_add rfl rfl rfl)<|g_v rfl r_assign<|g_nil ?_
     obtain ⟨n144,hn144,hlp⟩:=nx_inl hm hnx2
     exact d_round (n144,w64 (i89 + 1)) hlp hn144 ⟨rfl,rfl,rfl,trivial⟩ (fun W h=>h.phi (fun W hφ=>hφ))
    replace hm:=ite_f hm (of_decide_eq_false h118)
    refine c_exit<|d_exit_then<|d_exit_then<|d_exit_block ?_
    replace hm:=nx_out (C:=(fun e : Unit ⊕ Bool=>Sum.elim (fun e=>m_ref11_SameLog_j1) (fun x=>some x) e = some r)) hm hnx2 hr2
    exact d_round () hm Nat.zero_lt_one trivial (fun W h=>((h.dropH (t:=100030) rfl).dropH (t:=100020) rfl).phi (fun W hφ=>hφ))
   unfold m_ref11_SameLog_j1 at hm
   refine d_flat [] trivial (fun u=>?_)
   refine d_sta ⟨w0,M,H,R,φ⟩ (fun _ h=>h)<|d_then<|c_seq<|c_region<|g_v rfl r_assign<|g_nil<|d_then<|c_ret ?_
   cases hm
   exact d_retC () Try.results55 (res_tmp (res_nil rfl)) trivial (fun W h=>ok_pre (H1:=[]) (R1:=[]) h (fun W hφ=>hφ)) (.inr rfl)
  replace hm:=ite_t hm (of_decide_eq_true h4)
  iterate 6 refine g_no rfl rfl rfl rfl rfl h4 ?_
  refine g_v rfl (r_pick1 rfl h4)<|g_nil<|d_then ?_
  refine c_flat [(2,Vp g1),(3,Vp g2),(26,.bool true)] ⟨rfl,rfl,rfl,trivial⟩ (fun u=>?_)
  refine c_cond1 rfl rfl<|c_seq<|c_region<|g_v rfl r_assign<|g_nil<|d_then<|c_ret<|d_ret_then ?_
  cases hm
  exact d_retC () Try.results55 (res_tmp (res_nil rfl)) trivial (fun W h=>ok_pre (H1:=[_,_]) (R1:=[]) h (fun W hφ=>hφ)) (.inr rfl)
 replace hm:=ite_t hm (of_decide_eq_true h3)
 iterate 4 refine g_no rfl rfl rfl rfl rfl h3 ?_
 refine g_v rfl (r_pick1 rfl h3)<|g_v rfl r_move ?_
 iterate 7 refine g_no rfl rfl rfl rfl rfl rfl ?_
 refine g_v rfl (r_pick1 rfl rfl)<|g_nil<|d_then ?_
 refine c_flat [(2,Vp g1),(3,Vp g2),(26,.bool true)] ⟨rfl,rfl,rfl,trivial⟩ (fun u=>?_)
 refine c_cond1 rfl rfl<|c_seq<|c_region<|g_v rfl r_assign<|g_nil<|d_then<|c_ret<|d_ret_then ?_
 cases hm
 exact d_retC () Try.results55 (res_tmp (res_nil rfl)) trivial (fun W h=>ok_pre (H1:=[_,_]) (R1:=[]) h (fun W hφ=>hφ)) (.inr rfl)
noncomputable def m_ref11_SameInts_j1  : Option Bool:=
  some true
noncomputable def m_ref11_SameInts_s2 (p0 : List Int) (p1 : List Int) (i85 : Int) : Option (Int ⊕ (Unit ⊕ Bool)):=
  if i85 < (p0.length : Int) then
    (at_ p0 i85).bind fun x131=>
    (at_ p1 i85).bind fun x135=>
    if x131 ≠ x135 then
      some (.inr (.inr false))
    else
      some (.inl (w64 (i85 + 1)))
  else
    some (.inr (.inl ()))
noncomputable def m_ref11_SameInts (p0 : List Int) (p1 : List Int) : Option Bool:=
  if (p0.length : Int) ≠ (p1.length : Int) then
    some false
  else
    (loop (fun s=>m_ref11_SameInts_s2 p0 p1 s) 0).bind fun e=>Sum.elim (fun e=>m_ref11_SameInts_j1) (fun x=>some x) e
theorem c_ref11_SameInts {w0 : World} {M : Nat→Prop} {H : List (Nat×Nat×Obj)} {R : List (Nat×Row)} {φ : World→Prop} (p0 : List Int) (Ap0_0 : Option Addr) (cp0_0 : Nat) (hcp0_0 : p0.length ≤ cp0_0) (fp0_0 : ∀ W,(Sta.mk w0 M H R φ).ok W→Cl W Ap0_0 (p0.flatMap (fun x : Int=>[Value.int .i64 x]))) (p1 : List Int) (Ap1_0 : Option Addr) (cp1_0 : Nat) (hcp1_0 : p1.length ≤ cp1_0) (fp1_0 : ∀ W,(Sta.mk w0 M H R φ).ok W→Cl W Ap1_0 (p1.flatMap (fun x : Int=>[Value.int .i64 x]))) (r : Bool) (hm : m_ref11_SameInts p0 p1 = some r) :
    Cn Try.prog 56 #[.slice Ap0_0 p0.length cp0_0,.slice Ap1_0 p1.length cp1_0] ⟨w0,M,H,R,φ⟩ (fun x : Unit=>.bool r) (fun x=>True) (fun x=>⟨w0,M,H,R,φ⟩):=by
 unfold m_ref11_SameInts at hm
 refine cn_intro (fn:=Try.f56) (N:=26) Try.func56 rfl Try.ntmps56 rfl<|c_seq<|c_region<|g_v rfl r_assign<|g_nil<|d_then<|c_seq<|c_seq<|c_region<|g_v rfl r_move ?_
 refine g_v rfl (r_lenL Try.underlying27 rfl)<|g_v rfl r_move<|g_v rfl (r_lenL Try.underlying27 rfl)<|g_v rfl (r_neq rfl rfl)<|g_nil<|d_then ?_
 refine c_cond rfl (fun h1=>?_) (fun h1=>?_)
 ·
  replace hm:=ite_t hm (of_decide_eq_true h1)
  refine c_seq<|c_region<|g_v rfl r_assign<|g_nil<|d_then<|c_ret<|d_ret_then ?_
  cases hm
  exact d_retC () Try.results56 (res_tmp (res_nil rfl)) trivial (fun W h=>ok_pre (H1:=[]) (R1:=[]) h (fun W hφ=>hφ)) (.inr rfl)
 replace hm:=ite_f hm (of_decide_eq_false h1)
 refine c_skip<|d_then<|c_seq<|c_seq<|c_region<|g_v rfl r_assign<|g_nil<|d_then ?_
 refine c_cut (ι:=Unit) [] (fun _=>[]) (fun _=>⟨w0,M,H,R,φ⟩) (fun _=>m_ref11_SameInts_j1 = some r) ?_ (fun _ u hm=>?_)
 ·
  refine c_block ?_
  replace hm:=bnd hm
  obtain ⟨out2,hl2,hr2⟩:=hm
  obtain ⟨n113',hl2⟩:=loop_lp hl2
  refine c_loopU (ι:=Nat×Int) [0,1,5] (fun ⟨n113,i85⟩=>[(5,Vi i85)]) (fun ⟨n113,i85⟩=>⟨w0,M,H,R,φ⟩) (fun ⟨n113,i85⟩=>Lp (fun s=>m_ref11_SameInts_s2 p0 p1 s) n113 i85 out2) (fun ⟨n113,i85⟩=>n113) (n113',0) hl2 ⟨rfl,rfl,rfl,trivial⟩ (fun W h=>h.phi (fun W hφ=>hφ)) (fun ⟨n113,i85⟩ u hlp=>?_)
  obtain ⟨o2,hm,hnx2⟩:=lp_step hlp
  clear hlp
  replace hm : m_ref11_SameInts_s2 p0 p1 i85 = some o2:=hm
  unfold m_ref11_SameInts_s2 at hm
  refine c_flat [(0,.slice Ap0_0 p0.length cp0_0),(1,.slice Ap1_0 p1.length cp1_0),(5,Vi i85)] ⟨rfl,rfl,rfl,trivial⟩ (fun u=>?_)
  refine c_sta ⟨w0,M,H,R,φ⟩ (fun _ h=>h)<|c_seq<|c_seq<|c_region<|g_v rfl r_move<|g_v rfl r_move<|g_v rfl (r_lenL Try.underlying27 rfl)<|g_v rfl (r_lss rfl rfl)<|g_nil<|d_then ?_
  refine c_cond rfl (fun h114=>?_) (fun h114=>?_)
  ·
   replace hm:=ite_t hm (of_decide_eq_true h114)
   refine c_skip<|d_then<|c_seq<|c_block<|c_seq<|ga_start (n:=9) ⟨w0,M,H,R,φ⟩ [] #[false,false,false,false,false,false,false,false,false] (fun W h=>h.phi (fun W hφ=>hφ)) mixed rfl rfl<|ga_v (i:=0) (bz 9 1) rfl (by kernel_rfl) (fun _ _ _ _ h=>h) rfl (r_move)<|ga_v (i:=1) (bz 9 3) rfl (by kernel_rfl) (fun _ _ _ _ h=>h) rfl (r_move) ?_
   replace hm:=bnd hm
   obtain ⟨x131,hx131,hm⟩:=hm
   refine ga_know _ (fun W hS=>cl_at (p:=(Sta.mk w0 M H R φ).ok) (sz:=1) (fun _=>rfl) (by decide) (ok_pre (H1:=[]) (R1:=[]) hS (fun W h=>h)) fp0_0 hx131) ?_
   rintro ⟨ad132,hA134,f133⟩
   refine ga_v (i:=2) (bz 9 7) rfl (by kernel_rfl) (fun _ _ _ _ h=>h) rfl (r_ix Try.underlying27 Try.sizeOf3 rfl hA134 rfl hx131)<|ga_v (i:=3) (bz 9 15) rfl (by kernel_rfl) (fun _ _ _ _ h=>h) rfl (r_ld rfl Try.isAgg3 (fun W hS=>Cl.head (f133 W (ok_pre (H1:=[]) (R1:=[]) hS (fun W h=>h)))))<|ga_v (i:=4) (bz 9 31) rfl (by kernel_rfl) (fun _ _ _ _ h=>h) rfl (r_move)<|ga_r (i:=5) (bz 9 63) rfl (by kernel_rfl) (by decide) rfl (r_move) ?_
   replace hm:=bnd hm
   obtain ⟨x135,hx135,hm⟩:=hm
   refine ga_know _ (fun W hS=>cl_at (p:=(Sta.mk w0 M H R φ).ok) (sz:=1) (fun _=>rfl) (by decide) (ok_pre (H1:=[]) (R1:=[]) hS (fun W h=>h)) fp1_0 hx135) ?_
   rintro ⟨ad136,hA138,f137⟩
   refine ga_r (i:=6) (bz 9 127) rfl (by kernel_rfl) (by decide) rfl (r_ix Try.underlying27 Try.sizeOf3 rfl hA138 rfl hx135)<|ga_r (i:=7) (bz 9 255) rfl (by kernel_rfl) (by decide) rfl (r_ld rfl Try.isAgg3 (fun W hS=>Cl.head (f137 W (ok_pre (H1:=[]) (R1:=[]) hS (fun W h=>h)))))<|ga_r (i:=8) (bz 9 511) rfl (by kernel_rfl) (by decide) rfl (r_neq rfl rfl)<|ga_done (by kernel_rfl)<|d_then ?_
   refine c_flat [(0,.slice Ap0_0 p0.length cp0_0),(1,.slice Ap1_0 p1.length cp1_0),(5,Vi i85),(25,.bool (decide (x131 ≠ x135)))] ⟨rfl,rfl,rfl,rfl,trivial⟩ (fun u=>?_)
   refine c_cond rfl (fun h139=>?_) (fun h139=>?_)
   ·
    replace hm:=ite_t hm (of_decide_eq_true h139)
    refine c_seq<|c_region<|g_v rfl r_assign<|g_nil<|d_then<|c_ret<|d_ret_block<|d_ret_then<|d_ret_then<|d_ret_block ?_
    refine d_ret_then<|d_ret_then ?_
    replace hm:=nx_out (C:=(fun e : Unit ⊕ Bool=>Sum.elim (fun e=>m_ref11_SameInts_j1) (fun x=>some x) e = some r)) hm hnx2 hr2
    replace hm : some false = some r:=hm
    cases hm
    exact d_retC () Try.results56 (res_tmp (res_nil rfl)) trivial (fun W h=>ok_pre (H1:=[]) (R1:=[]) h (fun W hφ=>hφ)) (.inr rfl)
   replace hm:=ite_f hm (of_decide_eq_false h139)
   refine c_skip<|d_normal_block<|d_then<|c_region<|g_v rfl r_move<|g_v rfl (r_add rfl rfl rfl)<|g_v rfl r_assign<|g_nil ?_
   obtain ⟨n140,hn140,hlp⟩:=nx_inl hm hnx2
   exact d_round (n140,w64 (i85 + 1)) hlp hn140 ⟨rfl,rfl,rfl,trivial⟩ (fun W h=>h.phi (fun W hφ=>hφ))
  replace hm:=ite_f hm (of_decide_eq_false h114)
  refine c_exit<|d_exit_then<|d_exit_then<|d_exit_block ?_
  replace hm:=nx_out (C:=(fun e : Unit ⊕ Bool=>Sum.elim (fun e=>m_ref11_SameInts_j1) (fun x=>some x) e = some r)) hm hnx2 hr2
  exact d_round () hm Nat.zero_lt_one trivial (fun W h=>h.phi (fun W hφ=>hφ))
 unfold m_ref11_SameInts_j1 at hm
 refine d_flat [] trivial (fun u=>?_)
 refine d_sta ⟨w0,M,H,R,φ⟩ (fun _ h=>h)<|d_then<|c_seq<|c_region<|g_v rfl r_assign<|g_nil<|d_then<|c_ret ?_
 cases hm
 exact d_retC () Try.results56 (res_tmp (res_nil rfl)) trivial (fun W h=>ok_pre (H1:=[]) (R1:=[]) h (fun W hφ=>hφ)) (.inr rfl)
noncomputable def m_ref12_SameNotes_j1  : Option Bool:=
  some true
noncomputable def m_ref12_SameNotes_s2 (p0 : List GNote) (p1 : List GNote) (i121 : Int) : Option (Int ⊕ (Unit ⊕ Bool)):=
  if i121 < (p0.length : Int) then
    (at_ p0 i121).bind fun x163=>
    (at_ p1 i121).bind fun x174=>
    (m_ref11_SameLog (⟨0,0,x163.fEntries⟩ : GLog) (⟨0,0,x174.fEntries⟩ : GLog)).bind fun x185=>
    (m_ref11_SameInts x163.fVoters x174.fVoters).bind fun x187=>
    if x163.fKind ≠ x174.fKind then
      some (.inr (.inr false))
    else
      if x163.fFrom ≠ x174.fFrom then
        some (.inr (.inr false))
      else
        if x163.fTo ≠ x174.fTo then
          some (.inr (.inr false))
        else
          if x163.fTerm ≠ x174.fTerm then
            some (.inr (.inr false))
          else
            if x163.fIndex ≠ x174.fIndex then
              some (.inr (.inr false))
            else
              if x163.fLogTerm ≠ x174.fLogTerm then
                some (.inr (.inr false))
              else
                if x163.fCommit ≠ x174.fCommit then
                  some (.inr (.inr false))
                else
                  if (!(x163.fGood == x174.fGood)) = true then
                    some (.inr (.inr false))
                  else
                    if x163.fSnap = x174.fSnap then
                      if x185 = true then
                        if x187 = true then
                          some (.inl (w64 (i121 + 1)))
                        else
                          some (.inr (.inr false))
                      else
                        some (.inr (.inr false))
                    else
                      some (.inr (.inr false))
  else
    some (.inr (.inl ()))
noncomputable def m_ref12_SameNotes (p0 : List GNote) (p1 : List GNote) : Option Bool:=
  if (p0.length : Int) ≠ (p1.length : Int) then
    some false
  else
    (loop (fun s=>m_ref12_SameNotes_s2 p0 p1 s) 0).bind fun e=>Sum.elim (fun e=>m_ref12_SameNotes_j1) (fun x=>some x) e
theorem c_ref12_SameNotes {w0 : World} {M : Nat→Prop} {H : List (Nat×Nat×Obj)} {R : List (Nat×Row)} {φ : World→Prop} (p0 : List GNote) (Ap0_0 : Option Addr) (cp0_0 : Nat) (psp0_0 : List GNoteP) (hcp0_0 : (DOk GNote.capP p0 psp0_0∧p0.length ≤ cp0_0)) (fp0_0 : ∀ W,(Sta.mk w0 M H R φ).ok W→Cl W Ap0_0 ((p0.zip psp0_0).flatMap GNote.encP)) (fop0_0 : ∀ W,(Sta.mk w0 M H R φ).ok W→DOwn GNote.ownP p0 psp0_0 W) (p1 : List GNote) (Ap1_0 : Option Addr) (cp1_0 : Nat) (psp1_0 : List GNoteP) (hcp1_0 : (DOk GNote.capP p1 psp1_0∧p1.length ≤ cp1_0)) (fp1_0 : ∀ W,(Sta.mk w0 M H R φ).ok W→Cl W Ap1_0 ((p1.zip psp1_0).flatMap GNote.encP)) (fop1_0 : ∀ W,(Sta.mk w0 M H R φ).ok W→DOwn GNote.ownP p1 psp1_0 W) (r : Bool) (hm : m_ref12_SameNotes p0 p1 = some r) :
    Cn Try.prog 34 #[.slice Ap0_0 p0.length cp0_0,.slice Ap1_0 p1.length cp1_0] ⟨w0,M,H,R,φ⟩ (fun x : Unit=>.bool r) (fun x=>True) (fun x=>⟨w0,M,H,R,φ⟩):=by
 unfold m_ref12_SameNotes at hm
 refine cn_intro (fn:=Try.f34) (N:=110) Try.func34 rfl Try.ntmps34 rfl<|c_seq<|c_region<|g_v rfl r_assign<|g_nil<|d_then<|c_seq<|c_seq<|c_region<|g_v rfl r_move ?_
 refine g_v rfl (r_lenL Try.underlying75 rfl)<|g_v rfl r_move<|g_v rfl (r_lenL Try.underlying75 rfl)<|g_v rfl (r_neq rfl rfl)<|g_nil<|d_then ?_
 refine c_cond rfl (fun h1=>?_) (fun h1=>?_)
 ·
  replace hm:=ite_t hm (of_decide_eq_true h1)
  refine c_seq<|c_region<|g_v rfl r_assign<|g_nil<|d_then<|c_ret<|d_ret_then ?_
  cases hm
  exact d_retC () Try.results34 (res_tmp (res_nil rfl)) trivial (fun W h=>ok_pre (H1:=[]) (R1:=[]) h (fun W hφ=>hφ)) (.inr rfl)
 replace hm:=ite_f hm (of_decide_eq_false h1)
 refine c_skip<|d_then<|c_seq<|c_seq<|c_region<|g_v rfl r_assign<|g_nil<|d_then ?_
 refine c_cut (ι:=Unit) [] (fun _=>[]) (fun _=>⟨w0,M,H,R,φ⟩) (fun _=>m_ref12_SameNotes_j1 = some r) ?_ (fun _ u hm=>?_)
 ·
  refine c_block ?_
  replace hm:=bnd hm
  obtain ⟨out2,hl2,hr2⟩:=hm
  obtain ⟨n161',hl2⟩:=loop_lp hl2
  refine c_loopU (ι:=Nat×Int) [0,1,5] (fun ⟨n161,i121⟩=>[(5,Vi i121)]) (fun ⟨n161,i121⟩=>⟨w0,M,H,R,φ⟩) (fun ⟨n161,i121⟩=>Lp (fun s=>m_ref12_SameNotes_s2 p0 p1 s) n161 i121 out2) (fun ⟨n161,i121⟩=>n161) (n161',0) hl2 ⟨rfl,rfl,rfl,trivial⟩ (fun W h=>h.phi (fun W hφ=>hφ)) (fun ⟨n161,i121⟩ u hlp=>?_)
  obtain ⟨o2,hm,hnx2⟩:=lp_step hlp
  clear hlp
  replace hm : m_ref12_SameNotes_s2 p0 p1 i121 = some o2:=hm
  unfold m_ref12_SameNotes_s2 at hm
  refine c_flat [(0,.slice Ap0_0 p0.length cp0_0),(1,.slice Ap1_0 p1.length cp1_0),(5,Vi i121)] ⟨rfl,rfl,rfl,trivial⟩ (fun u=>?_)
  refine c_sta ⟨w0,M,H,R,φ⟩ (fun _ h=>h)<|c_seq<|c_seq<|c_region<|g_v rfl r_move<|g_v rfl r_move<|g_v rfl (r_lenL Try.underlying75 rfl)<|g_v rfl (r_lss rfl rfl)<|g_nil<|d_then ?_
  refine c_cond rfl (fun h162=>?_) (fun h162=>?_)
  ·
   replace hm:=ite_t hm (of_decide_eq_true h162)
   refine c_skip<|d_then<|c_seq<|c_block<|c_seq<|c_region<|g_v rfl r_move<|g_v rfl r_move ?_
   replace hm:=bnd hm
   obtain ⟨x163,hx163,hm⟩:=hm
   obtain ⟨pp167,hv168,hz169,hcp170⟩:=DOk.at_ hcp0_0.1 hx163
   refine g_know _ (fun W hS=>cl_at (p:=(Sta.mk w0 M H R φ).ok) (sz:=11) (fun _=>rfl) (by decide) (ok_pre (H1:=[]) (R1:=[]) hS (fun W h=>h)) fp0_0 hv168) ?_
   rintro ⟨ad164,hA166,f165⟩
   have f171:=fun (W : World) (h : (Sta.mk w0 M H R φ).ok W)=>(fop0_0 W h _ hz169).1
   have f172:=fun (W : World) (h : (Sta.mk w0 M H R φ).ok W)=>(fop0_0 W h _ hz169).2
   refine g_v rfl (r_ix Try.underlying75 Try.sizeOf29 rfl hA166 rfl hx163)<|g_v rfl (r_ldA rfl Try.isAgg29 Try.sizeOf29 (fun W hS=>(f165 W (ok_pre (H1:=[]) (R1:=[]) hS (fun W h=>h))).take 11) rfl) ?_
   refine g_e rfl (e_alloc 100060 Try.zeroValue29) (fun g173 _=>?_)
   refine g_storeL (tag:=100060) rfl rfl rfl rfl Try.sizeOf29 rfl rfl<|g_nil<|d_then ?_
   refine c_flat [(0,.slice Ap0_0 p0.length cp0_0),(1,.slice Ap1_0 p1.length cp1_0),(5,Vi i121),(6,Vp g173)] ⟨rfl,rfl,rfl,rfl,trivial⟩ (fun u=>?_)
   refine c_sta ⟨w0,M,(100060,g173,.cells #[Vi x163.fKind,Vi x163.fFrom,Vi x163.fTo,Vi x163.fTerm,Vi x163.fIndex,Vi x163.fLogTerm,Vi x163.fCommit,.bool x163.fGood,.slice pp167.pA0 x163.fEntries.length pp167.pC0,.slice pp167.pA1 x163.fVoters.length pp167.pC1,Vs x163.fSnap] 29 (0,0))::H,R,φ⟩ (fun _ h=>h)<|c_seq<|c_region<|g_v rfl r_move<|g_v rfl r_move ?_
   replace hm:=bnd hm
   obtain ⟨x174,hx174,hm⟩:=hm
   obtain ⟨pp178,hv179,hz180,hcp181⟩:=DOk.at_ hcp1_0.1 hx174
   refine g_know _ (fun W hS=>cl_at (p:=(Sta.mk w0 M H R φ).ok) (sz:=11) (fun _=>rfl) (by decide) (ok_pre (H1:=[_]) (R1:=[]) hS (fun W h=>h)) fp1_0 hv179) ?_
   rintro ⟨ad175,hA177,f176⟩
   have f182:=fun (W : World) (h : (Sta.mk w0 M H R φ).ok W)=>(fop1_0 W h _ hz180).1
   have f183:=fun (W : World) (h : (Sta.mk w0 M H R φ).ok W)=>(fop1_0 W h _ hz180).2
   refine g_v rfl (r_ix Try.underlying75 Try.sizeOf29 rfl hA177 rfl hx174)<|g_v rfl (r_ldA rfl Try.isAgg29 Try.sizeOf29 (fun W hS=>(f176 W (ok_pre (H1:=[_]) (R1:=[]) hS (fun W h=>h))).take 11) rfl) ?_
   refine g_e rfl (e_alloc 100070 Try.zeroValue29) (fun g184 _=>?_)
   refine g_storeL (tag:=100070) rfl rfl rfl rfl Try.sizeOf29 rfl rfl<|g_nil<|d_then<|c_seq<|c_region<|g_v rfl (r_field (n:=8) Try.underlying29 rfl Try.sizeOf26 rfl rfl)<|g_v rfl (r_load (tag:=100060) rfl rfl rfl Try.isAgg26)<|g_v rfl (r_build _ rfl (bld103_42 _ _ _))<|g_v rfl (r_field (n:=8) Try.underlying29 rfl Try.sizeOf26 rfl rfl)<|g_v rfl (r_load (tag:=100070) rfl rfl rfl Try.isAgg26) ?_
   refine g_v rfl (r_build _ rfl (bld103_42 _ _ _)) ?_
   replace hm:=bnd hm
   obtain ⟨x185,hx186,hm⟩:=hm
   refine g_cn ⟨w0,M,_,_,φ⟩ (fun _ h=>h) Try.call55 rfl rfl (c_ref11_SameLog (⟨0,0,x163.fEntries⟩ : GLog) pp167.pA0 pp167.pC0 ((hcp170).1) (fun W hS=>f171 W (ok_pre (H1:=[_,_]) (R1:=[]) hS (fun W h=>h))) (⟨0,0,x174.fEntries⟩ : GLog) pp178.pA0 pp178.pC0 ((hcp181).1) (fun W hS=>f182 W (ok_pre (H1:=[_,_]) (R1:=[]) hS (fun W h=>h))) _ hx186) (fun _ _=>?_)
   refine g_v rfl r_assign<|g_nil<|d_then ?_
   refine c_flat [(0,.slice Ap0_0 p0.length cp0_0),(1,.slice Ap1_0 p1.length cp1_0),(5,Vi i121),(6,Vp g173),(7,Vp g184),(8,.bool x185)] ⟨rfl,rfl,rfl,rfl,rfl,rfl,trivial⟩ (fun u=>?_)
   refine c_sta ⟨w0,M,(100070,g184,.cells #[Vi x174.fKind,Vi x174.fFrom,Vi x174.fTo,Vi x174.fTerm,Vi x174.fIndex,Vi x174.fLogTerm,Vi x174.fCommit,.bool x174.fGood,.slice pp178.pA0 x174.fEntries.length pp178.pC0,.slice pp178.pA1 x174.fVoters.length pp178.pC1,Vs x174.fSnap] 29 (0,0))::(100060,g173,.cells #[Vi x163.fKind,Vi x163.fFrom,Vi x163.fTo,Vi x163.fTerm,Vi x163.fIndex,Vi x163.fLogTerm,Vi x163.fCommit,.bool x163.fGood,.slice pp167.pA0 x163.fEntries.length pp167.pC0,.slice pp167.pA1 x163.fVoters.length pp167.pC1,Vs x163.fSnap] 29 (0,0))::H,R,φ⟩ (fun _ h=>h)<|c_seq<|c_region<|g_v rfl (r_field (n:=9) Try.underlying29 rfl Try.sizeOf27 rfl rfl)<|g_v rfl (r_load (tag:=100060) rfl rfl rfl Try.isAgg27)<|g_v rfl (r_field (n:=9) Try.underlying29 rfl Try.sizeOf27 rfl rfl)<|g_v rfl (r_load (tag:=100070) rfl rfl rfl Try.isAgg27) ?_
   replace hm:=bnd hm
   obtain ⟨x187,hx188,hm⟩:=hm
   refine g_cn ⟨w0,M,_,_,φ⟩ (fun _ h=>h) Try.call56 rfl rfl (c_ref11_SameInts x163.fVoters pp167.pA1 pp167.pC1 ((hcp170).2) (fun W hS=>f172 W (ok_pre (H1:=[_,_]) (R1:=[]) hS (fun W h=>h))) x174.fVoters pp178.pA1 pp178.pC1 ((hcp181).2) (fun W hS=>f183 W (ok_pre (H1:=[_,_]) (R1:=[]) hS (fun W h=>h))) _ hx188) (fun _ _=>?_)
   refine g_v rfl r_assign<|g_nil<|d_then<|c_seq<|c_region<|g_v rfl (r_field (n:=0) Try.underlying29 rfl Try.sizeOf3 rfl rfl)<|g_v rfl (r_load (tag:=100060) rfl rfl rfl Try.isAgg3)<|g_v rfl (r_field (n:=0) Try.underlying29 rfl Try.sizeOf3 rfl rfl)<|g_v rfl (r_load (tag:=100070) rfl rfl rfl Try.isAgg3)<|g_v rfl (r_neq rfl rfl) ?_
   refine g_v rfl r_move ?_
   refine g_if rfl rfl rfl rfl rfl (fun h189=>?_) (fun h189=>?_)
   ·
    replace hm:=ite_f hm (of_decide_eq_false h189)
    refine g_v rfl (r_field (n:=1) Try.underlying29 rfl Try.sizeOf3 rfl rfl)<|g_do rfl rfl rfl rfl rfl h189<|g_v rfl (r_load (tag:=100060) rfl rfl rfl Try.isAgg3)<|g_do rfl rfl rfl rfl rfl h189<|g_v rfl (r_field (n:=1) Try.underlying29 rfl Try.sizeOf3 rfl rfl)<|g_do rfl rfl rfl rfl rfl h189<|g_v rfl (r_load (tag:=100070) rfl rfl rfl Try.isAgg3)<|g_do rfl rfl rfl rfl rfl h189<|g_v rfl (r_neq rfl rfl)<|g_v rfl (r_pick0 rfl h189) ?_
    refine g_v rfl r_move ?_
    refine g_if rfl rfl rfl rfl rfl (fun h190=>?_) (fun h190=>?_)
    ·
     replace hm:=ite_f hm (of_decide_eq_false h190)
     refine g_v rfl (r_field (n:=2) Try.underlying29 rfl Try.sizeOf3 rfl rfl)<|g_do rfl rfl rfl rfl rfl h190<|g_v rfl (r_load (tag:=100060) rfl rfl rfl Try.isAgg3)<|g_do rfl rfl rfl rfl rfl h190<|g_v rfl (r_field (n:=2) Try.underlying29 rfl Try.sizeOf3 rfl rfl)<|g_do rfl rfl rfl rfl rfl h190<|g_v rfl (r_load (tag:=100070) rfl rfl rfl Try.isAgg3)<|g_do rfl rfl rfl rfl rfl h190<|g_v rfl (r_neq rfl rfl)<|g_v rfl (r_pick0 rfl h190) ?_
     refine g_v rfl r_move ?_
     refine g_if rfl rfl rfl rfl rfl (fun h191=>?_) (fun h191=>?_)
     ·
      replace hm:=ite_f hm (of_decide_eq_false h191)
      refine g_v rfl (r_field (n:=3) Try.underlying29 rfl Try.sizeOf3 rfl rfl)<|g_do rfl rfl rfl rfl rfl h191<|g_v rfl (r_load (tag:=100060) rfl rfl rfl Try.isAgg3)<|g_do rfl rfl rfl rfl rfl h191<|g_v rfl (r_field (n:=3) Try.underlying29 rfl Try.sizeOf3 rfl rfl)<|g_do rfl rfl rfl rfl rfl h191<|g_v rfl (r_load (tag:=100070) rfl rfl rfl Try.isAgg3)<|g_do rfl rfl rfl rfl rfl h191<|g_v rfl (r_neq rfl rfl)<|g_v rfl (r_pick0 rfl h191) ?_
      refine g_v rfl r_move ?_
      refine g_if rfl rfl rfl rfl rfl (fun h192=>?_) (fun h192=>?_)
      ·
       replace hm:=ite_f hm (of_decide_eq_false h192)
       refine g_v rfl (r_field (n:=4) Try.underlying29 rfl Try.sizeOf3 rfl rfl)<|g_do rfl rfl rfl rfl rfl h192<|g_v rfl (r_load (tag:=100060) rfl rfl rfl Try.isAgg3)<|g_do rfl rfl rfl rfl rfl h192<|g_v rfl (r_field (n:=4) Try.underlying29 rfl Try.sizeOf3 rfl rfl)<|g_do rfl rfl rfl rfl rfl h192<|g_v rfl (r_load (tag:=100070) rfl rfl rfl Try.isAgg3)<|g_do rfl rfl rfl rfl rfl h192<|g_v rfl (r_neq rfl rfl)<|g_v rfl (r_pick0 rfl h192) ?_
       refine g_v rfl r_move ?_
       refine g_if rfl rfl rfl rfl rfl (fun h193=>?_) (fun h193=>?_)
       ·
        replace hm:=ite_f hm (of_decide_eq_false h193)
        refine g_v rfl (r_field (n:=5) Try.underlying29 rfl Try.sizeOf3 rfl rfl)<|g_do rfl rfl rfl rfl rfl h193<|g_v rfl (r_load (tag:=100060) rfl rfl rfl Try.isAgg3)<|g_do rfl rfl rfl rfl rfl h193<|g_v rfl (r_field (n:=5) Try.underlying29 rfl Try.sizeOf3 rfl rfl)<|g_do rfl rfl rfl rfl rfl h193<|g_v rfl (r_load (tag:=100070) rfl rfl rfl Try.isAgg3)<|g_do rfl rfl rfl rfl rfl h193<|g_v rfl (r_neq rfl rfl)<|g_v rfl (r_pick0 rfl h193) ?_
        refine g_v rfl r_move ?_
        refine g_if rfl rfl rfl rfl rfl (fun h194=>?_) (fun h194=>?_)
        ·
         replace hm:=ite_f hm (of_decide_eq_false h194)
         refine g_v rfl (r_field (n:=6) Try.underlying29 rfl Try.sizeOf3 rfl rfl)<|g_do rfl rfl rfl rfl rfl h194<|g_v rfl (r_load (tag:=100060) rfl rfl rfl Try.isAgg3)<|g_do rfl rfl rfl rfl rfl h194<|g_v rfl (r_field (n:=6) Try.underlying29 rfl Try.sizeOf3 rfl rfl)<|g_do rfl rfl rfl rfl rfl h194<|g_v rfl (r_load (tag:=100070) rfl rfl rfl Try.isAgg3)<|g_do rfl rfl rfl rfl rfl h194<|g_v rfl (r_neq rfl rfl)<|g_v rfl (r_pick0 rfl h194) ?_
         refine g_v rfl r_move ?_
         refine g_if rfl rfl rfl rfl rfl (fun h195=>?_) (fun h195=>?_)
         ·
          replace hm:=ite_f hm (of_decide_eq_false h195)
          refine g_v rfl (r_field (n:=7) Try.underlying29 rfl Try.sizeOf4 rfl rfl)<|g_do rfl rfl rfl rfl rfl h195<|g_v rfl (r_load (tag:=100060) rfl rfl rfl Try.isAgg4)<|g_do rfl rfl rfl rfl rfl h195<|g_v rfl (r_field (n:=7) Try.underlying29 rfl Try.sizeOf4 rfl rfl)<|g_do rfl rfl rfl rfl rfl h195<|g_v rfl (r_load (tag:=100070) rfl rfl rfl Try.isAgg4)<|g_do rfl rfl rfl rfl rfl h195<|g_v rfl (r_neqBo Try.underlying4 rfl rfl)<|g_v rfl (r_pick0 rfl h195) ?_
          refine g_v rfl r_move ?_
          refine g_if rfl rfl rfl rfl rfl (fun h196=>?_) (fun h196=>?_)
          ·
           replace hm:=ite_f hm (bool_nt h196)
           refine g_v rfl (r_field (n:=10) Try.underlying29 rfl Try.sizeOf9 rfl rfl)<|g_do rfl rfl rfl rfl rfl h196<|g_v rfl (r_load (tag:=100060) rfl rfl rfl Try.isAgg9)<|g_do rfl rfl rfl rfl rfl h196<|g_v rfl (r_field (n:=10) Try.underlying29 rfl Try.sizeOf9 rfl rfl)<|g_do rfl rfl rfl rfl rfl h196<|g_v rfl (r_load (tag:=100070) rfl rfl rfl Try.isAgg9)<|g_do rfl rfl rfl rfl rfl h196<|g_v rfl (r_neqT rfl rfl)<|g_v rfl (r_pick0 rfl h196) ?_
           refine g_v rfl r_move ?_
           refine g_if rfl rfl rfl rfl rfl (fun h197=>?_) (fun h197=>?_)
           ·
            have h197' : (decide (x163.fSnap = x174.fSnap)) = true:=by revert h197; cases (decide (x163.fSnap = x174.fSnap)) <;> simp
            replace hm:=ite_t hm (of_decide_eq_true h197')
            refine g_v rfl r_move<|g_do rfl rfl rfl rfl rfl h197<|g_v rfl (r_not rfl)<|g_v rfl (r_pick0 rfl h197)<|g_v rfl r_move ?_
            refine g_if rfl rfl rfl rfl rfl (fun h198=>?_) (fun h198=>?_)
            ·
             have h198' : x185 = true:=by revert h198; cases x185 <;> simp
             replace hm:=ite_t hm h198'
             refine g_v rfl r_move<|g_do rfl rfl rfl rfl rfl h198<|g_v rfl (r_not rfl)<|g_v rfl (r_pick0 rfl h198)<|g_nil<|d_then ?_
             refine c_flat [(0,.slice Ap0_0 p0.length cp0_0),(1,.slice Ap1_0 p1.length cp1_0),(5,Vi i121),(109,.bool (!x187))] ⟨rfl,rfl,rfl,rfl,trivial⟩ (fun u=>?_)
             refine c_cond rfl (fun h199=>?_) (fun h199=>?_)
             ·
              have h199' : x187 = false:=by revert h199; cases x187 <;> simp
              replace hm:=ite_f hm (bool_nt h199')
              refine c_seq<|c_region<|g_v rfl r_assign<|g_nil<|d_then<|c_ret<|d_ret_block<|d_ret_then<|d_ret_then<|d_ret_block ?_
              refine d_ret_then<|d_ret_then ?_
              replace hm:=nx_out (C:=(fun e : Unit ⊕ Bool=>Sum.elim (fun e=>m_ref12_SameNotes_j1) (fun x=>some x) e = some r)) hm hnx2 hr2
              replace hm : some false = some r:=hm
              cases hm
              exact d_retC () Try.results34 (res_tmp (res_nil rfl)) trivial (fun W h=>ok_pre (H1:=[_,_]) (R1:=[]) h (fun W hφ=>hφ)) (.inr rfl)
             have h199' : x187 = true:=by revert h199; cases x187 <;> simp
             replace hm:=ite_t hm h199'
             refine c_skip<|d_normal_block<|d_then<|c_region<|g_v rfl r_move<|g_v rfl (r_add rfl rfl rfl)<|g_v rfl r_assign<|g_nil ?_
             obtain ⟨n200,hn200,hlp⟩:=nx_inl hm hnx2
             exact d_round (n200,w64 (i121 + 1)) hlp hn200 ⟨rfl,rfl,rfl,trivial⟩ (fun W h=>((h.dropH (t:=100070) rfl).dropH (t:=100060) rfl).phi (fun W hφ=>hφ))
            have h198' : x185 = false:=by revert h198; cases x185 <;> simp
            replace hm:=ite_f hm (bool_nt h198')
            refine g_no rfl rfl rfl rfl rfl h198<|g_v rfl (r_pick1 rfl h198)<|g_nil<|d_then ?_
            refine c_flat [(0,.slice Ap0_0 p0.length cp0_0),(1,.slice Ap1_0 p1.length cp1_0),(5,Vi i121),(109,.bool true)] ⟨rfl,rfl,rfl,rfl,trivial⟩ (fun u=>?_)
            refine c_cond1 rfl rfl<|c_seq<|c_region<|g_v rfl r_assign<|g_nil<|d_then<|c_ret<|d_ret_block<|d_ret_then<|d_ret_then ?_
            refine d_ret_block<|d_ret_then<|d_ret_then ?_
            replace hm:=nx_out (C:=(fun e : Unit ⊕ Bool=>Sum.elim (fun e=>m_ref12_SameNotes_j1) (fun x=>some x) e = some r)) hm hnx2 hr2
            replace hm : some false = some r:=hm
            cases hm
            exact d_retC () Try.results34 (res_tmp (res_nil rfl)) trivial (fun W h=>ok_pre (H1:=[_,_]) (R1:=[]) h (fun W hφ=>hφ)) (.inr rfl)
           have h197' : (decide (x163.fSnap = x174.fSnap)) = false:=by revert h197; cases (decide (x163.fSnap = x174.fSnap)) <;> simp
           replace hm:=ite_f hm (of_decide_eq_false h197')
           refine g_no rfl rfl rfl rfl rfl h197<|g_v rfl (r_pick1 rfl h197)<|g_v rfl r_move<|g_no rfl rfl rfl rfl rfl rfl<|g_no rfl rfl rfl rfl rfl rfl<|g_v rfl (r_pick1 rfl rfl)<|g_nil<|d_then ?_
           refine c_flat [(0,.slice Ap0_0 p0.length cp0_0),(1,.slice Ap1_0 p1.length cp1_0),(5,Vi i121),(109,.bool true)] ⟨rfl,rfl,rfl,rfl,trivial⟩ (fun u=>?_)
           refine c_cond1 rfl rfl<|c_seq<|c_region<|g_v rfl r_assign<|g_nil<|d_then<|c_ret<|d_ret_block<|d_ret_then<|d_ret_then ?_
           refine d_ret_block<|d_ret_then<|d_ret_then ?_
           replace hm:=nx_out (C:=(fun e : Unit ⊕ Bool=>Sum.elim (fun e=>m_ref12_SameNotes_j1) (fun x=>some x) e = some r)) hm hnx2 hr2
           replace hm : some false = some r:=hm
           cases hm
           exact d_retC () Try.results34 (res_tmp (res_nil rfl)) trivial (fun W h=>ok_pre (H1:=[_,_]) (R1:=[]) h (fun W hφ=>hφ)) (.inr rfl)
          replace hm:=ite_t hm h196
          iterate 4 refine g_no rfl rfl rfl rfl rfl h196 ?_
          refine g_v rfl (r_pick1 rfl h196)<|g_v rfl r_move<|g_no rfl rfl rfl rfl rfl rfl<|g_no rfl rfl rfl rfl rfl rfl<|g_v rfl (r_pick1 rfl rfl)<|g_v rfl r_move<|g_no rfl rfl rfl rfl rfl rfl<|g_no rfl rfl rfl rfl rfl rfl<|g_v rfl (r_pick1 rfl rfl)<|g_nil ?_
          refine d_then ?_
          refine c_flat [(0,.slice Ap0_0 p0.length cp0_0),(1,.slice Ap1_0 p1.length cp1_0),(5,Vi i121),(109,.bool true)] ⟨rfl,rfl,rfl,rfl,trivial⟩ (fun u=>?_)
          refine c_cond1 rfl rfl<|c_seq<|c_region<|g_v rfl r_assign<|g_nil<|d_then<|c_ret<|d_ret_block<|d_ret_then<|d_ret_then ?_
          refine d_ret_block<|d_ret_then<|d_ret_then ?_
          replace hm:=nx_out (C:=(fun e : Unit ⊕ Bool=>Sum.elim (fun e=>m_ref12_SameNotes_j1) (fun x=>some x) e = some r)) hm hnx2 hr2
          replace hm : some false = some r:=hm
          cases hm
          exact d_retC () Try.results34 (res_tmp (res_nil rfl)) trivial (fun W h=>ok_pre (H1:=[_,_]) (R1:=[]) h (fun W hφ=>hφ)) (.inr rfl)
         replace hm:=ite_t hm (of_decide_eq_true h195)
         iterate 4 refine g_no rfl rfl rfl rfl rfl h195 ?_
         refine g_v rfl (r_pick1 rfl h195)<|g_v rfl r_move ?_
         iterate 5 refine g_no rfl rfl rfl rfl rfl rfl ?_
         refine g_v rfl (r_pick1 rfl rfl)<|g_v rfl r_move<|g_no rfl rfl rfl rfl rfl rfl<|g_no rfl rfl rfl rfl rfl rfl<|g_v rfl (r_pick1 rfl rfl)<|g_v rfl r_move<|g_no rfl rfl rfl rfl rfl rfl<|g_no rfl rfl rfl rfl rfl rfl<|g_v rfl (r_pick1 rfl rfl)<|g_nil ?_
         refine d_then ?_
         refine c_flat [(0,.slice Ap0_0 p0.length cp0_0),(1,.slice Ap1_0 p1.length cp1_0),(5,Vi i121),(109,.bool true)] ⟨rfl,rfl,rfl,rfl,trivial⟩ (fun u=>?_)
         refine c_cond1 rfl rfl<|c_seq<|c_region<|g_v rfl r_assign<|g_nil<|d_then<|c_ret<|d_ret_block<|d_ret_then<|d_ret_then ?_
         refine d_ret_block<|d_ret_then<|d_ret_then ?_
         replace hm:=nx_out (C:=(fun e : Unit ⊕ Bool=>Sum.elim (fun e=>m_ref12_SameNotes_j1) (fun x=>some x) e = some r)) hm hnx2 hr2
         replace hm : some false = some r:=hm
         cases hm
         exact d_retC () Try.results34 (res_tmp (res_nil rfl)) trivial (fun W h=>ok_pre (H1:=[_,_]) (R1:=[]) h (fun W hφ=>hφ)) (.inr rfl)
        replace hm:=ite_t hm (of_decide_eq_true h194)
        iterate 4 refine g_no rfl rfl rfl rfl rfl h194 ?_
        refine g_v rfl (r_pick1 rfl h194)<|g_v rfl r_move ?_
        iterate 5 refine g_no rfl rfl rfl rfl rfl rfl ?_
        refine g_v rfl (r_pick1 rfl rfl)<|g_v rfl r_move ?_
        iterate 5 refine g_no rfl rfl rfl rfl rfl rfl ?_
        refine g_v rfl (r_pick1 rfl rfl)<|g_v rfl r_move<|g_no rfl rfl rfl rfl rfl rfl<|g_no rfl rfl rfl rfl rfl rfl<|g_v rfl (r_pick1 rfl rfl)<|g_v rfl r_move<|g_no rfl rfl rfl rfl rfl rfl<|g_no rfl rfl rfl rfl rfl rfl<|g_v rfl (r_pick1 rfl rfl)<|g_nil ?_
        refine d_then ?_
        refine c_flat [(0,.slice Ap0_0 p0.length cp0_0),(1,.slice Ap1_0 p1.length cp1_0),(5,Vi i121),(109,.bool true)] ⟨rfl,rfl,rfl,rfl,trivial⟩ (fun u=>?_)
        refine c_cond1 rfl rfl<|c_seq<|c_region<|g_v rfl r_assign<|g_nil<|d_then<|c_ret<|d_ret_block<|d_ret_then<|d_ret_then ?_
        refine d_ret_block<|d_ret_then<|d_ret_then ?_
        replace hm:=nx_out (C:=(fun e : Unit ⊕ Bool=>Sum.elim (fun e=>m_ref12_SameNotes_j1) (fun x=>some x) e = some r)) hm hnx2 hr2
        replace hm : some false = some r:=hm
        cases hm
        exact d_retC () Try.results34 (res_tmp (res_nil rfl)) trivial (fun W h=>ok_pre (H1:=[_,_]) (R1:=[]) h (fun W hφ=>hφ)) (.inr rfl)
       replace hm:=ite_t hm (of_decide_eq_true h193)
       iterate 4 refine g_no rfl rfl rfl rfl rfl h193 ?_
       refine g_v rfl (r_pick1 rfl h193)<|g_v rfl r_move ?_
       iterate 5 refine g_no rfl rfl rfl rfl rfl rfl ?_
       refine g_v rfl (r_pick1 rfl rfl)<|g_v rfl r_move ?_
       iterate 5 refine g_no rfl rfl rfl rfl rfl rfl ?_
       refine g_v rfl (r_pick1 rfl rfl)<|g_v rfl r_move ?_
       iterate 5 refine g_no rfl rfl rfl rfl rfl rfl ?_
       refine g_v rfl (r_pick1 rfl rfl)<|g_v rfl r_move<|g_no rfl rfl rfl rfl rfl rfl<|g_no rfl rfl rfl rfl rfl rfl<|g_v rfl (r_pick1 rfl rfl)<|g_v rfl r_move<|g_no rfl rfl rfl rfl rfl rfl<|g_no rfl rfl rfl rfl rfl rfl<|g_v rfl (r_pick1 rfl rfl)<|g_nil ?_
       refine d_then ?_
       refine c_flat [(0,.slice Ap0_0 p0.length cp0_0),(1,.slice Ap1_0 p1.length cp1_0),(5,Vi i121),(109,.bool true)] ⟨rfl,rfl,rfl,rfl,trivial⟩ (fun u=>?_)
       refine c_cond1 rfl rfl<|c_seq<|c_region<|g_v rfl r_assign<|g_nil<|d_then<|c_ret<|d_ret_block<|d_ret_then<|d_ret_then ?_
       refine d_ret_block<|d_ret_then<|d_ret_then ?_
       replace hm:=nx_out (C:=(fun e : Unit ⊕ Bool=>Sum.elim (fun e=>m_ref12_SameNotes_j1) (fun x=>some x) e = some r)) hm hnx2 hr2
       replace hm : some false = some r:=hm
       cases hm
       exact d_retC () Try.results34 (res_tmp (res_nil rfl)) trivial (fun W h=>ok_pre (H1:=[_,_]) (R1:=[]) h (fun W hφ=>hφ)) (.inr rfl)
      replace hm:=ite_t hm (of_decide_eq_true h192)
      iterate 4 refine g_no rfl rfl rfl rfl rfl h192 ?_
      refine g_v rfl (r_pick1 rfl h192)<|g_v rfl r_move ?_
      iterate 5 refine g_no rfl rfl rfl rfl rfl rfl ?_
      refine g_v rfl (r_pick1 rfl rfl)<|g_v rfl r_move ?_
      iterate 5 refine g_no rfl rfl rfl rfl rfl rfl ?_
      refine g_v rfl (r_pick1 rfl rfl)<|g_v rfl r_move ?_
      iterate 5 refine g_no rfl rfl rfl rfl rfl rfl ?_
      refine g_v rfl (r_pick1 rfl rfl)<|g_v rfl r_move ?_
      iterate 5 refine g_no rfl rfl rfl rfl rfl rfl ?_
      refine g_v rfl (r_pick1 rfl rfl)<|g_v rfl r_move<|g_no rfl rfl rfl rfl rfl rfl<|g_no rfl rfl rfl rfl rfl rfl<|g_v rfl (r_pick1 rfl rfl)<|g_v rfl r_move<|g_no rfl rfl rfl rfl rfl rfl<|g_no rfl rfl rfl rfl rfl rfl<|g_v rfl (r_pick1 rfl rfl)<|g_nil ?_
      refine d_then ?_
      refine c_flat [(0,.slice Ap0_0 p0.length cp0_0),(1,.slice Ap1_0 p1.length cp1_0),(5,Vi i121),(109,.bool true)] ⟨rfl,rfl,rfl,rfl,trivial⟩ (fun u=>?_)
      refine c_cond1 rfl rfl<|c_seq<|c_region<|g_v rfl r_assign<|g_nil<|d_then<|c_ret<|d_ret_block<|d_ret_then<|d_ret_then ?_
      refine d_ret_block<|d_ret_then<|d_ret_then ?_
      replace hm:=nx_out (C:=(fun e : Unit ⊕ Bool=>Sum.elim (fun e=>m_ref12_SameNotes_j1) (fun x=>some x) e = some r)) hm hnx2 hr2
      replace hm : some false = some r:=hm
      cases hm
      exact d_retC () Try.results34 (res_tmp (res_nil rfl)) trivial (fun W h=>ok_pre (H1:=[_,_]) (R1:=[]) h (fun W hφ=>hφ)) (.inr rfl)
     replace hm:=ite_t hm (of_decide_eq_true h191)
     iterate 4 refine g_no rfl rfl rfl rfl rfl h191 ?_
     refine g_v rfl (r_pick1 rfl h191)<|g_v rfl r_move ?_
     iterate 5 refine g_no rfl rfl rfl rfl rfl rfl ?_
     refine g_v rfl (r_pick1 rfl rfl)<|g_v rfl r_move ?_
     iterate 5 refine g_no rfl rfl rfl rfl rfl rfl ?_
     refine g_v rfl (r_pick1 rfl rfl)<|g_v rfl r_move ?_
     iterate 5 refine g_no rfl rfl rfl rfl rfl rfl ?_
     refine g_v rfl (r_pick1 rfl rfl)<|g_v rfl r_move ?_
     iterate 5 refine g_no rfl rfl rfl rfl rfl rfl ?_
     refine g_v rfl (r_pick1 rfl rfl)<|g_v rfl r_move ?_
     iterate 5 refine g_no rfl rfl rfl rfl rfl rfl ?_
     refine g_v rfl (r_pick1 rfl rfl)<|g_v rfl r_move<|g_no rfl rfl rfl rfl rfl rfl<|g_no rfl rfl rfl rfl rfl rfl<|g_v rfl (r_pick1 rfl rfl)<|g_v rfl r_move<|g_no rfl rfl rfl rfl rfl rfl<|g_no rfl rfl rfl rfl rfl rfl<|g_v rfl (r_pick1 rfl rfl)<|g_nil ?_
     refine d_then ?_
     refine c_flat [(0,.slice Ap0_0 p0.length cp0_0),(1,.slice Ap1_0 p1.length cp1_0),(5,Vi i121),(109,.bool true)] ⟨rfl,rfl,rfl,rfl,trivial⟩ (fun u=>?_)
     refine c_cond1 rfl rfl<|c_seq<|c_region<|g_v rfl r_assign<|g_nil<|d_then<|c_ret<|d_ret_block<|d_ret_then<|d_ret_then ?_
     refine d_ret_block<|d_ret_then<|d_ret_then ?_
     replace hm:=nx_out (C:=(fun e : Unit ⊕ Bool=>Sum.elim (fun e=>m_ref12_SameNotes_j1) (fun x=>some x) e = some r)) hm hnx2 hr2
     replace hm : some false = some r:=hm
     cases hm
     exact d_retC () Try.results34 (res_tmp (res_nil rfl)) trivial (fun W h=>ok_pre (H1:=[_,_]) (R1:=[]) h (fun W hφ=>hφ)) (.inr rfl)
    replace hm:=ite_t hm (of_decide_eq_true h190)
    iterate 4 refine g_no rfl rfl rfl rfl rfl h190 ?_
    refine g_v rfl (r_pick1 rfl h190)<|g_v rfl r_move ?_
    iterate 5 refine g_no rfl rfl rfl rfl rfl rfl ?_
    refine g_v rfl (r_pick1 rfl rfl)<|g_v rfl r_move ?_
    iterate 5 refine g_no rfl rfl rfl rfl rfl rfl ?_
    refine g_v rfl (r_pick1 rfl rfl)<|g_v rfl r_move ?_
    iterate 5 refine g_no rfl rfl rfl rfl rfl rfl ?_
    refine g_v rfl (r_pick1 rfl rfl)<|g_v rfl r_move ?_
    iterate 5 refine g_no rfl rfl rfl rfl rfl rfl ?_
    refine g_v rfl (r_pick1 rfl rfl)<|g_v rfl r_move ?_
    iterate 5 refine g_no rfl rfl rfl rfl rfl rfl ?_
    refine g_v rfl (r_pick1 rfl rfl)<|g_v rfl r_move ?_
    iterate 5 refine g_no rfl rfl rfl rfl rfl rfl ?_
    refine g_v rfl (r_pick1 rfl rfl)<|g_v rfl r_move<|g_no rfl rfl rfl rfl rfl rfl<|g_no rfl rfl rfl rfl rfl rfl<|g_v rfl (r_pick1 rfl rfl)<|g_v rfl r_move<|g_no rfl rfl rfl rfl rfl rfl<|g_no rfl rfl rfl rfl rfl rfl<|g_v rfl (r_pick1 rfl rfl)<|g_nil ?_
    refine d_then ?_
    refine c_flat [(0,.slice Ap0_0 p0.length cp0_0),(1,.slice Ap1_0 p1.length cp1_0),(5,Vi i121),(109,.bool true)] ⟨rfl,rfl,rfl,rfl,trivial⟩ (fun u=>?_)
    refine c_cond1 rfl rfl<|c_seq<|c_region<|g_v rfl r_assign<|g_nil<|d_then<|c_ret<|d_ret_block<|d_ret_then<|d_ret_then ?_
    refine d_ret_block<|d_ret_then<|d_ret_then ?_
    replace hm:=nx_out (C:=(fun e : Unit ⊕ Bool=>Sum.elim (fun e=>m_ref12_SameNotes_j1) (fun x=>some x) e = some r)) hm hnx2 hr2
    replace hm : some false = some r:=hm
    cases hm
    exact d_retC () Try.results34 (res_tmp (res_nil rfl)) trivial (fun W h=>ok_pre (H1:=[_,_]) (R1:=[]) h (fun W hφ=>hφ)) (.inr rfl)
   replace hm:=ite_t hm (of_decide_eq_true h189)
   iterate 4 refine g_no rfl rfl rfl rfl rfl h189 ?_
   refine g_v rfl (r_pick1 rfl h189)<|g_v rfl r_move ?_
   iterate 5 refine g_no rfl rfl rfl rfl rfl rfl ?_
   refine g_v rfl (r_pick1 rfl rfl)<|g_v rfl r_move ?_
   iterate 5 refine g_no rfl rfl rfl rfl rfl rfl ?_
   refine g_v rfl (r_pick1 rfl rfl)<|g_v rfl r_move ?_
   iterate 5 refine g_no rfl rfl rfl rfl rfl rfl ?_
   refine g_v rfl (r_pick1 rfl rfl)<|g_v rfl r_move ?_
   iterate 5 refine g_no rfl rfl rfl rfl rfl rfl ?_
   refine g_v rfl (r_pick1 rfl rfl)<|g_v rfl r_move ?_
   iterate 5 refine g_no rfl rfl rfl rfl rfl rfl ?_
   refine g_v rfl (r_pick1 rfl rfl)<|g_v rfl r_move ?_
   iterate 5 refine g_no rfl rfl rfl rfl rfl rfl ?_
   refine g_v rfl (r_pick1 rfl rfl)<|g_v rfl r_move ?_
   iterate 5 refine g_no rfl rfl rfl rfl rfl rfl ?_
   refine g_v rfl (r_pick1 rfl rfl)<|g_v rfl r_move<|g_no rfl rfl rfl rfl rfl rfl<|g_no rfl rfl rfl rfl rfl rfl<|g_v rfl (r_pick1 rfl rfl)<|g_v rfl r_move<|g_no rfl rfl rfl rfl rfl rfl<|g_no rfl rfl rfl rfl rfl rfl<|g_v rfl (r_pick1 rfl rfl)<|g_nil ?_
   refine d_then ?_
   refine c_flat [(0,.slice Ap0_0 p0.length cp0_0),(1,.slice Ap1_0 p1.length cp1_0),(5,Vi i121),(109,.bool true)] ⟨rfl,rfl,rfl,rfl,trivial⟩ (fun u=>?_)
   refine c_cond1 rfl rfl<|c_seq<|c_region<|g_v rfl r_assign<|g_nil<|d_then<|c_ret<|d_ret_block<|d_ret_then<|d_ret_then ?_
   refine d_ret_block<|d_ret_then<|d_ret_then ?_
   replace hm:=nx_out (C:=(fun e : Unit ⊕ Bool=>Sum.elim (fun e=>m_ref12_SameNotes_j1) (fun x=>some x) e = some r)) hm hnx2 hr2
   replace hm : some false = some r:=hm
   cases hm
   exact d_retC () Try.results34 (res_tmp (res_nil rfl)) trivial (fun W h=>ok_pre (H1:=[_,_]) (R1:=[]) h (fun W hφ=>hφ)) (.inr rfl)
  replace hm:=ite_f hm (of_decide_eq_false h162)
  refine c_exit<|d_exit_then<|d_exit_then<|d_exit_block ?_
  replace hm:=nx_out (C:=(fun e : Unit ⊕ Bool=>Sum.elim (fun e=>m_ref12_SameNotes_j1) (fun x=>some x) e = some r)) hm hnx2 hr2
  exact d_round () hm Nat.zero_lt_one trivial (fun W h=>h.phi (fun W hφ=>hφ))
 unfold m_ref12_SameNotes_j1 at hm
 refine d_flat [] trivial (fun u=>?_)
 refine d_sta ⟨w0,M,H,R,φ⟩ (fun _ h=>h)<|d_then<|c_seq<|c_region<|g_v rfl r_assign<|g_nil<|d_then<|c_ret ?_
 cases hm
 exact d_retC () Try.results34 (res_tmp (res_nil rfl)) trivial (fun W h=>ok_pre (H1:=[]) (R1:=[]) h (fun W hφ=>hφ)) (.inr rfl)
noncomputable def m_ref20_Same (p0 : GLetter) (p1 : GLetter) : Option Bool:=
  (m_ref16_SameAll p0.fEntries p1.fEntries).bind fun x3=>
  (m_ref12_SameNotes [p0.fNote] [p1.fNote]).bind fun x11=>
  if x3 = true then
    if x11 = true then
      if p0.fKind = p1.fKind then
        if p0.fSerial = p1.fSerial then
          if p0.fEpoch = p1.fEpoch then
            if p0.fQuestion = p1.fQuestion then
              if (p0.fGood == p1.fGood) = true then
                some (decide (p0.fText = p1.fText))
              else
                some false
            else
              some false
          else
            some false
        else
          some false
      else
        some false
    else
      some false
  else
    some false
theorem c_ref20_Same {w0 : World} {M : Nat→Prop} {H : List (Nat×Nat×Obj)} {R : List (Nat×Row)} {φ : World→Prop} (p0 : GLetter) (Ap0_0 : Option Addr) (cp0_0 : Nat) (psp0_0 : List GCachedP) (hcp0_0 : (DOk GCached.capP p0.fEntries psp0_0∧p0.fEntries.length ≤ cp0_0)) (fp0_0 : ∀ W,(Sta.mk w0 M H R φ).ok W→Cl W Ap0_0 ((p0.fEntries.zip psp0_0).flatMap GCached.encP)) (fop0_0 : ∀ W,(Sta.mk w0 M H R φ).ok W→DOwn GCached.ownP p0.fEntries psp0_0 W) (Ap0_1 : Option Addr) (cp0_1 : Nat) (hcp0_1 : p0.fNote.fEntries.length ≤ cp0_1) (fp0_1 : ∀ W,φ W→Cl W Ap0_1 (p0.fNote.fEntries.flatMap GEntry.enc)) (Ap0_2 : Option Addr) (cp0_2 : Nat) (hcp0_2 : p0.fNote.fVoters.length ≤ cp0_2) (fp0_2 : ∀ W,φ W→Cl W Ap0_2 (p0.fNote.fVoters.flatMap (fun x : Int=>[Value.int .i64 x]))) (p1 : GLetter) (Ap1_0 : Option Addr) (cp1_0 : Nat) (psp1_0 : List GCachedP) (hcp1_0 : (DOk GCached.capP p1.fEntries psp1_0∧p1.fEntries.length ≤ cp1_0)) (fp1_0 : ∀ W,(Sta.mk w0 M H R φ).ok W→Cl W Ap1_0 ((p1.fEntries.zip psp1_0).flatMap GCached.encP)) (fop1_0 : ∀ W,(Sta.mk w0 M H R φ).ok W→DOwn GCached.ownP p1.fEntries psp1_0 W) (Ap1_1 : Option Addr) (cp1_1 : Nat) (hcp1_1 : p1.fNote.fEntries.length ≤ cp1_1) (fp1_1 : ∀ W,φ W→Cl W Ap1_1 (p1.fNote.fEntries.flatMap GEntry.enc)) (Ap1_2 : Option Addr) (cp1_2 : Nat) (hcp1_2 : p1.fNote.fVoters.length ≤ cp1_2) (fp1_2 : ∀ W,φ W→Cl W Ap1_2 (p1.fNote.fVoters.flatMap (fun x : Int=>[Value.int .i64 x]))) (r : Bool) (hm : m_ref20_Same p0 p1 = some r) :
    Cn Try.prog 14 #[.agg #[Vi p0.fKind,Vi p0.fSerial,Vi p0.fEpoch,Vs p0.fQuestion.fName,Vu p0.fQuestion.fType,Vu p0.fQuestion.fClass,.bool p0.fGood,.slice Ap0_0 p0.fEntries.length cp0_0,Vi p0.fNote.fKind,Vi p0.fNote.fFrom,Vi p0.fNote.fTo,Vi p0.fNote.fTerm,Vi p0.fNote.fIndex,Vi p0.fNote.fLogTerm,Vi p0.fNote.fCommit,.bool p0.fNote.fGood,.slice Ap0_1 p0.fNote.fEntries.length cp0_1,.slice Ap0_2 p0.fNote.fVoters.length cp0_2,Vs p0.fNote.fSnap,Vs p0.fText],.agg #[Vi p1.fKind,Vi p1.fSerial,Vi p1.fEpoch,Vs p1.fQuestion.fName,Vu p1.fQuestion.fType,Vu p1.fQuestion.fClass,.bool p1.fGood,.slice Ap1_0 p1.fEntries.length cp1_0,Vi p1.fNote.fKind,Vi p1.fNote.fFrom,Vi p1.fNote.fTo,Vi p1.fNote.fTerm,Vi p1.fNote.fIndex,Vi p1.fNote.fLogTerm,Vi p1.fNote.fCommit,.bool p1.fNote.fGood,.slice Ap1_1 p1.fNote.fEntries.length cp1_1,.slice Ap1_2 p1.fNote.fVoters.length cp1_2,Vs p1.fNote.fSnap,Vs p1.fText]] ⟨w0,M,H,R,φ⟩ (fun x : Unit=>.bool r) (fun x=>True) (fun x=>⟨w0,M,H,R,φ⟩):=by
 unfold m_ref20_Same at hm
 refine cn_intro (fn:=Try.f14) (N:=65) Try.func14 rfl Try.ntmps14 rfl<|c_seq<|c_region ?_
 refine g_e rfl (e_box 100020 rfl) (fun g1 _=>?_)
 refine g_e rfl (e_box 100030 rfl) (fun g2 _=>?_)
 refine g_v rfl r_assign<|g_nil<|d_then<|c_seq<|c_region<|g_v rfl (r_field (n:=7) Try.underlying31 rfl Try.sizeOf25 rfl rfl)<|g_v rfl (r_load (tag:=100020) rfl rfl rfl Try.isAgg25)<|g_v rfl (r_field (n:=7) Try.underlying31 rfl Try.sizeOf25 rfl rfl)<|g_v rfl (r_load (tag:=100030) rfl rfl rfl Try.isAgg25) ?_
 replace hm:=bnd hm
 obtain ⟨x3,hx4,hm⟩:=hm
 refine g_cn ⟨w0,M,_,_,φ⟩ (fun _ h=>h) Try.call11 rfl rfl (c_ref16_SameAll p0.fEntries Ap0_0 cp0_0 psp0_0 ⟨hcp0_0.1,hcp0_0.2⟩ (fun W hS=>fp0_0 W (ok_pre (H1:=[_,_]) (R1:=[]) hS (fun W h=>h))) (fun W hS=>fop0_0 W (ok_pre (H1:=[_,_]) (R1:=[]) hS (fun W h=>h))) p1.fEntries Ap1_0 cp1_0 psp1_0 ⟨hcp1_0.1,hcp1_0.2⟩ (fun W hS=>fp1_0 W (ok_pre (H1:=[_,_]) (R1:=[]) hS (fun W h=>h))) (fun W hS=>fop1_0 W (ok_pre (H1:=[_,_]) (R1:=[]) hS (fun W h=>h))) _ hx4) (fun _ _=>?_)
 refine g_v rfl r_assign<|g_nil<|d_then ?_
 refine c_flat [(2,Vp g1),(3,Vp g2),(5,.bool x3)] ⟨rfl,rfl,rfl,trivial⟩ (fun u=>?_)
 refine c_sta ⟨w0,M,(100030,g2,.cells #[Vi p1.fKind,Vi p1.fSerial,Vi p1.fEpoch,Vs p1.fQuestion.fName,Vu p1.fQuestion.fType,Vu p1.fQuestion.fClass,.bool p1.fGood,.slice Ap1_0 p1.fEntries.length cp1_0,Vi p1.fNote.fKind,Vi p1.fNote.fFrom,Vi p1.fNote.fTo,Vi p1.fNote.fTerm,Vi p1.fNote.fIndex,Vi p1.fNote.fLogTerm,Vi p1.fNote.fCommit,.bool p1.fNote.fGood,.slice Ap1_1 p1.fNote.fEntries.length cp1_1,.slice Ap1_2 p1.fNote.fVoters.length cp1_2,Vs p1.fNote.fSnap,Vs p1.fText] 31 (0,0))::(100020,g1,.cells #[Vi p0.fKind,Vi p0.fSerial,Vi p0.fEpoch,Vs p0.fQuestion.fName,Vu p0.fQuestion.fType,Vu p0.fQuestion.fClass,.bool p0.fGood,.slice Ap0_0 p0.fEntries.length cp0_0,Vi p0.fNote.fKind,Vi p0.fNote.fFrom,Vi p0.fNote.fTo,Vi p0.fNote.fTerm,Vi p0.fNote.fIndex,Vi p0.fNote.fLogTerm,Vi p0.fNote.fCommit,.bool p0.fNote.fGood,.slice Ap0_1 p0.fNote.fEntries.length cp0_1,.slice Ap0_2 p0.fNote.fVoters.length cp0_2,Vs p0.fNote.fSnap,Vs p0.fText] 31 (0,0))::H,R,φ⟩ (fun _ h=>h)<|c_seq<|c_region<|g_v rfl (r_field (n:=8) Try.underlying31 rfl Try.sizeOf29 rfl rfl)<|g_v rfl (r_loadA (tag:=100020) rfl rfl Try.isAgg29 Try.sizeOf29 rfl rfl) ?_
 have hk6:=(DOk.cons (cap:=GNote.capP) (x:=p0.fNote) (p:=(⟨Ap0_1,cp0_1,Ap0_2,cp0_2⟩ : GNoteP)) (⟨hcp0_1,hcp0_2⟩) DOk.nil)
 have f7:=fun (W : World) (h : φ W)=>(DOwn.cons (own:=GNote.ownP) (x:=p0.fNote) (p:=(⟨Ap0_1,cp0_1,Ap0_2,cp0_2⟩ : GNoteP)) (⟨fp0_1 W h,fp0_2 W h⟩) DOwn.nil)
 refine g_e rfl (e_litD (tag:=100140) (enc:=GNote.encP) (sz:=11) hk6 rfl Try.underlying75 (lit29_41 _ _ _ _ _ _ _ _ _ _ _ _ _ _ _) rfl rfl (fun _=>rfl)) (fun g5 _=>?_)
 refine g_v rfl (r_field (n:=8) Try.underlying31 rfl Try.sizeOf29 rfl rfl)<|g_v rfl (r_loadA (tag:=100030) rfl rfl Try.isAgg29 Try.sizeOf29 rfl rfl) ?_
 have hk9:=(DOk.cons (cap:=GNote.capP) (x:=p1.fNote) (p:=(⟨Ap1_1,cp1_1,Ap1_2,cp1_2⟩ : GNoteP)) (⟨hcp1_1,hcp1_2⟩) DOk.nil)
 have f10:=fun (W : World) (h : φ W)=>(DOwn.cons (own:=GNote.ownP) (x:=p1.fNote) (p:=(⟨Ap1_1,cp1_1,Ap1_2,cp1_2⟩ : GNoteP)) (⟨fp1_1 W h,fp1_2 W h⟩) DOwn.nil)
 refine g_e rfl (e_litD (tag:=100170) (enc:=GNote.encP) (sz:=11) hk9 rfl Try.underlying75 (lit29_41 _ _ _ _ _ _ _ _ _ _ _ _ _ _ _) rfl rfl (fun _=>rfl)) (fun g8 _=>?_)
 replace hm:=bnd hm
 obtain ⟨x11,hx12,hm⟩:=hm
 refine g_cn ⟨w0,M,_,_,φ⟩ (fun _ h=>h) Try.call34 rfl rfl (c_ref12_SameNotes [p0.fNote] (some ⟨g5,0,none⟩) 1 [(⟨Ap0_1,cp0_1,Ap0_2,cp0_2⟩ : GNoteP)] ⟨hk6,(Nat.le_refl _)⟩ (fun W hS=>rowCl (tag:=100140) rfl W hS) (fun W hS=>(f7 W hS.now)) [p1.fNote] (some ⟨g8,0,none⟩) 1 [(⟨Ap1_1,cp1_1,Ap1_2,cp1_2⟩ : GNoteP)] ⟨hk9,(Nat.le_refl _)⟩ (fun W hS=>rowCl (tag:=100170) rfl W hS) (fun W hS=>(f10 W hS.now)) _ hx12) (fun _ _=>?_)
 refine g_v rfl r_assign<|g_nil<|d_then<|c_seq<|c_region<|g_v rfl r_move<|g_v rfl r_move<|g_sta ⟨w0,M,(100030,g2,.cells #[Vi p1.fKind,Vi p1.fSerial,Vi p1.fEpoch,Vs p1.fQuestion.fName,Vu p1.fQuestion.fType,Vu p1.fQuestion.fClass,.bool p1.fGood,.slice Ap1_0 p1.fEntries.length cp1_0,Vi p1.fNote.fKind,Vi p1.fNote.fFrom,Vi p1.fNote.fTo,Vi p1.fNote.fTerm,Vi p1.fNote.fIndex,Vi p1.fNote.fLogTerm,Vi p1.fNote.fCommit,.bool p1.fNote.fGood,.slice Ap1_1 p1.fNote.fEntries.length cp1_1,.slice Ap1_2 p1.fNote.fVoters.length cp1_2,Vs p1.fNote.fSnap,Vs p1.fText] 31 (0,0))::(100020,g1,.cells #[Vi p0.fKind,Vi p0.fSerial,Vi p0.fEpoch,Vs p0.fQuestion.fName,Vu p0.fQuestion.fType,Vu p0.fQuestion.fClass,.bool p0.fGood,.slice Ap0_0 p0.fEntries.length cp0_0,Vi p0.fNote.fKind,Vi p0.fNote.fFrom,Vi p0.fNote.fTo,Vi p0.fNote.fTerm,Vi p0.fNote.fIndex,Vi p0.fNote.fLogTerm,Vi p0.fNote.fCommit,.bool p0.fNote.fGood,.slice Ap0_1 p0.fNote.fEntries.length cp0_1,.slice Ap0_2 p0.fNote.fVoters.length cp0_2,Vs p0.fNote.fSnap,Vs p0.fText] 31 (0,0))::H,(100170,⟨.slice (some ⟨g8,0,none⟩) [p1.fNote].length 1,29,11,[p1.fNote].length,([p1.fNote].zip [(⟨Ap1_1,cp1_1,Ap1_2,cp1_2⟩ : GNoteP)]).flatMap GNote.encP⟩)::(100140,⟨.slice (some ⟨g5,0,none⟩) [p0.fNote].length 1,29,11,[p0.fNote].length,([p0.fNote].zip [(⟨Ap0_1,cp0_1,Ap0_2,cp0_2⟩ : GNoteP)]).flatMap GNote.encP⟩)::R,φ⟩ (fun _ h=>h) ?_
 refine g_if rfl rfl rfl rfl rfl (fun h13=>?_) (fun h13=>?_)
 ·
  replace hm:=ite_t hm h13
  refine g_v rfl r_move<|g_v rfl (r_pick1 rfl h13)<|g_v rfl r_move ?_
  refine g_if rfl rfl rfl rfl rfl (fun h14=>?_) (fun h14=>?_)
  ·
   replace hm:=ite_t hm h14
   refine g_v rfl (r_field (n:=0) Try.underlying31 rfl Try.sizeOf3 rfl rfl)<|g_do rfl rfl rfl rfl rfl h14<|g_v rfl (r_load (tag:=100020) rfl rfl rfl Try.isAgg3)<|g_do rfl rfl rfl rfl rfl h14<|g_v rfl (r_field (n:=0) Try.underlying31 rfl Try.sizeOf3 rfl rfl)<|g_do rfl rfl rfl rfl rfl h14<|g_v rfl (r_load (tag:=100030) rfl rfl rfl Try.isAgg3)<|g_do rfl rfl rfl rfl rfl h14<|g_v rfl (r_eql rfl rfl)<|g_v rfl (r_pick1 rfl h14) ?_
   refine g_v rfl r_move ?_
   refine g_if rfl rfl rfl rfl rfl (fun h15=>?_) (fun h15=>?_)
   ·
    replace hm:=ite_t hm (of_decide_eq_true h15)
    refine g_v rfl (r_field (n:=1) Try.underlying31 rfl Try.sizeOf3 rfl rfl)<|g_do rfl rfl rfl rfl rfl h15<|g_v rfl (r_load (tag:=100020) rfl rfl rfl Try.isAgg3)<|g_do rfl rfl rfl rfl rfl h15<|g_v rfl (r_field (n:=1) Try.underlying31 rfl Try.sizeOf3 rfl rfl)<|g_do rfl rfl rfl rfl rfl h15<|g_v rfl (r_load (tag:=100030) rfl rfl rfl Try.isAgg3)<|g_do rfl rfl rfl rfl rfl h15<|g_v rfl (r_eql rfl rfl)<|g_v rfl (r_pick1 rfl h15) ?_
    refine g_v rfl r_move ?_
    refine g_if rfl rfl rfl rfl rfl (fun h16=>?_) (fun h16=>?_)
    ·
     replace hm:=ite_t hm (of_decide_eq_true h16)
     refine g_v rfl (r_field (n:=2) Try.underlying31 rfl Try.sizeOf3 rfl rfl)<|g_do rfl rfl rfl rfl rfl h16<|g_v rfl (r_load (tag:=100020) rfl rfl rfl Try.isAgg3)<|g_do rfl rfl rfl rfl rfl h16<|g_v rfl (r_field (n:=2) Try.underlying31 rfl Try.sizeOf3 rfl rfl)<|g_do rfl rfl rfl rfl rfl h16<|g_v rfl (r_load (tag:=100030) rfl rfl rfl Try.isAgg3)<|g_do rfl rfl rfl rfl rfl h16<|g_v rfl (r_eql rfl rfl)<|g_v rfl (r_pick1 rfl h16) ?_
     refine g_v rfl r_move ?_
     refine g_if rfl rfl rfl rfl rfl (fun h17=>?_) (fun h17=>?_)
     ·
      replace hm:=ite_t hm (of_decide_eq_true h17)
      refine g_v rfl (r_field (n:=3) Try.underlying31 rfl Try.sizeOf24 rfl rfl)<|g_do rfl rfl rfl rfl rfl h17<|g_v rfl (r_loadA (tag:=100020) rfl rfl Try.isAgg24 Try.sizeOf24 rfl rfl)<|g_do rfl rfl rfl rfl rfl h17<|g_v rfl (r_field (n:=3) Try.underlying31 rfl Try.sizeOf24 rfl rfl)<|g_do rfl rfl rfl rfl rfl h17<|g_v rfl (r_loadA (tag:=100030) rfl rfl Try.isAgg24 Try.sizeOf24 rfl rfl)<|g_do rfl rfl rfl rfl rfl h17<|g_v rfl (r_eqlA rfl rfl eqg24 (eqq24 p0.fQuestion p1.fQuestion))<|g_v rfl (r_pick1 rfl h17) ?_
      refine g_v rfl r_move ?_
      refine g_if rfl rfl rfl rfl rfl (fun h18=>?_) (fun h18=>?_)
      ·
       replace hm:=ite_t hm (of_decide_eq_true h18)
       refine g_v rfl (r_field (n:=6) Try.underlying31 rfl Try.sizeOf4 rfl rfl)<|g_do rfl rfl rfl rfl rfl h18<|g_v rfl (r_load (tag:=100020) rfl rfl rfl Try.isAgg4)<|g_do rfl rfl rfl rfl rfl h18<|g_v rfl (r_field (n:=6) Try.underlying31 rfl Try.sizeOf4 rfl rfl)<|g_do rfl rfl rfl rfl rfl h18<|g_v rfl (r_load (tag:=100030) rfl rfl rfl Try.isAgg4)<|g_do rfl rfl rfl rfl rfl h18<|g_v rfl (r_eqlBo Try.underlying4 rfl rfl)<|g_v rfl (r_pick1 rfl h18) ?_
       refine g_v rfl r_move ?_
       refine g_if rfl rfl rfl rfl rfl (fun h19=>?_) (fun h19=>?_)
       ·
        replace hm:=ite_t hm h19
        refine g_v rfl (r_field (n:=19) Try.underlying31 rfl Try.sizeOf9 rfl rfl)<|g_do rfl rfl rfl rfl rfl h19<|g_v rfl (r_load (tag:=100020) rfl rfl rfl Try.isAgg9)<|g_do rfl rfl rfl rfl rfl h19<|g_v rfl (r_field (n:=19) Try.underlying31 rfl Try.sizeOf9 rfl rfl)<|g_do rfl rfl rfl rfl rfl h19<|g_v rfl (r_load (tag:=100030) rfl rfl rfl Try.isAgg9)<|g_do rfl rfl rfl rfl rfl h19<|g_v rfl (r_eqlT rfl rfl)<|g_v rfl (r_pick1 rfl h19) ?_
        refine g_v rfl r_assign<|g_nil<|d_then ?_
        refine c_flat [(4,.bool (decide (p0.fText = p1.fText)))] ⟨rfl,trivial⟩ (fun u=>?_)
        refine c_ret ?_
        cases hm
        exact d_retC () Try.results14 (res_tmp (res_nil rfl)) trivial (fun W h=>ok_pre (H1:=[_,_]) (R1:=[_,_]) h (fun W hφ=>hφ)) (.inr rfl)
       replace hm:=ite_f hm (bool_nt h19)
       iterate 4 refine g_no rfl rfl rfl rfl rfl h19 ?_
       refine g_v rfl (r_pick0 rfl h19)<|g_v rfl r_assign<|g_nil<|d_then ?_
       refine c_flat [(4,.bool false)] ⟨rfl,trivial⟩ (fun u=>?_)
       refine c_ret ?_
       cases hm
       exact d_retC () Try.results14 (res_tmp (res_nil rfl)) trivial (fun W h=>ok_pre (H1:=[_,_]) (R1:=[_,_]) h (fun W hφ=>hφ)) (.inr rfl)
      replace hm:=ite_f hm (of_decide_eq_false h18)
      iterate 4 refine g_no rfl rfl rfl rfl rfl h18 ?_
      refine g_v rfl (r_pick0 rfl h18)<|g_v rfl r_move ?_
      iterate 5 refine g_no rfl rfl rfl rfl rfl rfl ?_
      refine g_v rfl (r_pick0 rfl rfl)<|g_v rfl r_assign<|g_nil<|d_then ?_
      refine c_flat [(4,.bool false)] ⟨rfl,trivial⟩ (fun u=>?_)
      refine c_ret ?_
      cases hm
      exact d_retC () Try.results14 (res_tmp (res_nil rfl)) trivial (fun W h=>ok_pre (H1:=[_,_]) (R1:=[_,_]) h (fun W hφ=>hφ)) (.inr rfl)
     replace hm:=ite_f hm (of_decide_eq_false h17)
     iterate 4 refine g_no rfl rfl rfl rfl rfl h17 ?_
     refine g_v rfl (r_pick0 rfl h17)<|g_v rfl r_move ?_
     iterate 5 refine g_no rfl rfl rfl rfl rfl rfl ?_
     refine g_v rfl (r_pick0 rfl rfl)<|g_v rfl r_move ?_
     iterate 5 refine g_no rfl rfl rfl rfl rfl rfl ?_
     refine g_v rfl (r_pick0 rfl rfl)<|g_v rfl r_assign<|g_nil<|d_then ?_
     refine c_flat [(4,.bool false)] ⟨rfl,trivial⟩ (fun u=>?_)
     refine c_ret ?_
     cases hm
     exact d_retC () Try.results14 (res_tmp (res_nil rfl)) trivial (fun W h=>ok_pre (H1:=[_,_]) (R1:=[_,_]) h (fun W hφ=>hφ)) (.inr rfl)
    replace hm:=ite_f hm (of_decide_eq_false h16)
    iterate 4 refine g_no rfl rfl rfl rfl rfl h16 ?_
    refine g_v rfl (r_pick0 rfl h16)<|g_v rfl r_move ?_
    iterate 5 refine g_no rfl rfl rfl rfl rfl rfl ?_
    refine g_v rfl (r_pick0 rfl rfl)<|g_v rfl r_move ?_
    iterate 5 refine g_no rfl rfl rfl rfl rfl rfl ?_
    refine g_v rfl (r_pick0 rfl rfl)<|g_v rfl r_move ?_
    iterate 5 refine g_no rfl rfl rfl rfl rfl rfl ?_
    refine g_v rfl (r_pick0 rfl rfl)<|g_v rfl r_assign<|g_nil<|d_then ?_
    refine c_flat [(4,.bool false)] ⟨rfl,trivial⟩ (fun u=>?_)
    refine c_ret ?_
    cases hm
    exact d_retC () Try.results14 (res_tmp (res_nil rfl)) trivial (fun W h=>ok_pre (H1:=[_,_]) (R1:=[_,_]) h (fun W hφ=>hφ)) (.inr rfl)
   replace hm:=ite_f hm (of_decide_eq_false h15)
   iterate 4 refine g_no rfl rfl rfl rfl rfl h15 ?_
   refine g_v rfl (r_pick0 rfl h15)<|g_v rfl r_move ?_
   iterate 5 refine g_no rfl rfl rfl rfl rfl rfl ?_
   refine g_v rfl (r_pick0 rfl rfl)<|g_v rfl r_move ?_
   iterate 5 refine g_no rfl rfl rfl rfl rfl rfl ?_
   refine g_v rfl (r_pick0 rfl rfl)<|g_v rfl r_move ?_
   iterate 5 refine g_no rfl rfl rfl rfl rfl rfl ?_
   refine g_v rfl (r_pick0 rfl rfl)<|g_v rfl r_move ?_
   iterate 5 refine g_no rfl rfl rfl rfl rfl rfl ?_
   refine g_v rfl (r_pick0 rfl rfl)<|g_v rfl r_assign<|g_nil<|d_then ?_
   refine c_flat [(4,.bool false)] ⟨rfl,trivial⟩ (fun u=>?_)
   refine c_ret ?_
   cases hm
   exact d_retC () Try.results14 (res_tmp (res_nil rfl)) trivial (fun W h=>ok_pre (H1:=[_,_]) (R1:=[_,_]) h (fun W hφ=>hφ)) (.inr rfl)
  replace hm:=ite_f hm (bool_nt h14)
  iterate 4 refine g_no rfl rfl rfl rfl rfl h14 ?_
  refine g_v rfl (r_pick0 rfl h14)<|g_v rfl r_move ?_
  iterate 5 refine g_no rfl rfl rfl rfl rfl rfl ?_
  refine g_v rfl (r_pick0 rfl rfl)<|g_v rfl r_move ?_
  iterate 5 refine g_no rfl rfl rfl rfl rfl rfl ?_
  refine g_v rfl (r_pick0 rfl rfl)<|g_v rfl r_move ?_
  iterate 5 refine g_no rfl rfl rfl rfl rfl rfl ?_
  refine g_v rfl (r_pick0 rfl rfl)<|g_v rfl r_move ?_
  iterate 5 refine g_no rfl rfl rfl rfl rfl rfl ?_
  refine g_v rfl (r_pick0 rfl rfl)<|g_v rfl r_move ?_
  iterate 5 refine g_no rfl rfl rfl rfl rfl rfl ?_
  refine g_v rfl (r_pick0 rfl rfl)<|g_v rfl r_assign<|g_nil<|d_then ?_
  refine c_flat [(4,.bool false)] ⟨rfl,trivial⟩ (fun u=>?_)
  refine c_ret ?_
  cases hm
  exact d_retC () Try.results14 (res_tmp (res_nil rfl)) trivial (fun W h=>ok_pre (H1:=[_,_]) (R1:=[_,_]) h (fun W hφ=>hφ)) (.inr rfl)
 replace hm:=ite_f hm (bool_nt h13)
 refine g_v rfl (r_pick0 rfl h13)<|g_v rfl r_move ?_
 iterate 5 refine g_no rfl rfl rfl rfl rfl rfl ?_
 refine g_v rfl (r_pick0 rfl rfl)<|g_v rfl r_move ?_
 iterate 5 refine g_no rfl rfl rfl rfl rfl rfl ?_
 refine g_v rfl (r_pick0 rfl rfl)<|g_v rfl r_move ?_
 iterate 5 refine g_no rfl rfl rfl rfl rfl rfl ?_
 refine g_v rfl (r_pick0 rfl rfl)<|g_v rfl r_move ?_
 iterate 5 refine g_no rfl rfl rfl rfl rfl rfl ?_
 refine g_v rfl (r_pick0 rfl rfl)<|g_v rfl r_move ?_
 iterate 5 refine g_no rfl rfl rfl rfl rfl rfl ?_
 refine g_v rfl (r_pick0 rfl rfl)<|g_v rfl r_move ?_
 iterate 5 refine g_no rfl rfl rfl rfl rfl rfl ?_
 refine g_v rfl (r_pick0 rfl rfl)<|g_v rfl r_assign<|g_nil<|d_then ?_
 refine c_flat [(4,.bool false)] ⟨rfl,trivial⟩ (fun u=>?_)
 refine c_ret ?_
 cases hm
 exact d_retC () Try.results14 (res_tmp (res_nil rfl)) trivial (fun W h=>ok_pre (H1:=[_,_]) (R1:=[_,_]) h (fun W hφ=>hφ)) (.inr rfl)
end Go.Proofs.Ytbaobjcaeaofaaa
