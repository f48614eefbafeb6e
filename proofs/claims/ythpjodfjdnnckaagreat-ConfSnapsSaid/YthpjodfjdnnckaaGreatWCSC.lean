import Derived.Test.YthpjodfjdnnckaaGreatWCSB
set_option maxRecDepth 100000
set_option maxHeartbeats 4000000
set_option linter.unusedVariables false
set_option linter.unusedSimpArgs false
namespace Go.Proofs.YthpjodfjdnnckaaGreat
open Go.RowKit Go.Proofs.YthpjodfjdnnckaaGreatW.PrintLast
noncomputable def m_conf_Load (p0 : ByteArray) : Option (GConf×Int):=
  (m_conf_list_64 (⟨p0,false⟩ : Gconf_reader)).bind fun (z11 : (List Int)×Gconf_reader)=>
  (m_conf_list_67 z11.2).bind fun (z18 : (List ByteArray)×Gconf_reader)=>
  (m_conf_list_70 z18.2).bind fun (z25 : (List GAnchor)×Gconf_reader)=>
  (m_conf_reader_number 8 z25.2).bind fun (z29 : Int×Gconf_reader)=>
  (m_conf_list_73 z29.2).bind fun (z36 : (List GFlush)×Gconf_reader)=>
  if z36.2.fbad = true then
    some ((⟨([] : List Int),([] : List ByteArray),([] : List GAnchor),0,([] : List GFlush)⟩ : GConf),10)
  else
    if z36.2.fs = (⟨#[]⟩ : ByteArray) then
      (m_conf_Right (⟨z11.1,z18.1,z25.1,z29.1,z36.1⟩ : GConf)).bind fun x47=>
      if x47 = true then
        some ((⟨z11.1,z18.1,z25.1,z29.1,z36.1⟩ : GConf),0)
      else
        some ((⟨([] : List Int),([] : List ByteArray),([] : List GAnchor),0,([] : List GFlush)⟩ : GConf),10)
    else
      some ((⟨([] : List Int),([] : List ByteArray),([] : List GAnchor),0,([] : List GFlush)⟩ : GConf),10)
theorem c_conf_Load {w0 : World} {M : Nat→Prop} {H : List (Nat×Nat×Obj)} {R : List (Nat×Row)} {φ : World→Prop} (p0 : ByteArray) (r : GConf×Int) (hm : m_conf_Load p0 = some r) :
    Cn Tryz.prog 16 #[.string p0] ⟨w0,M,H,R,φ⟩ (fun x : Option Addr×Nat×Option Addr×Nat×Option Addr×Nat×Option Addr×Nat=>.tuple #[.agg #[.slice x.1 r.1.fRing.length x.2.1,.slice x.2.2.1 r.1.fHints.length x.2.2.2.1,.slice x.2.2.2.2.1 r.1.fAnchors.length x.2.2.2.2.2.1,.int .i64 r.1.fEpoch,.slice x.2.2.2.2.2.2.1 r.1.fFlushes.length x.2.2.2.2.2.2.2],.int .i64 r.2]) (fun x=>r.1.fRing.length ≤ x.2.1∧r.1.fHints.length ≤ x.2.2.2.1∧r.1.fAnchors.length ≤ x.2.2.2.2.2.1∧r.1.fFlushes.length ≤ x.2.2.2.2.2.2.2) (fun x=>⟨w0,M,H,R,fun W=>φ W∧Cl W x.1 (r.1.fRing.flatMap (fun x : Int=>[Value.int .i64 x]))∧Cl W x.2.2.1 (r.1.fHints.flatMap (fun x : ByteArray=>[Value.string x]))∧Cl W x.2.2.2.2.1 (r.1.fAnchors.flatMap GAnchor.enc)∧Cl W x.2.2.2.2.2.2.1 (r.1.fFlushes.flatMap GFlush.enc)⟩):=by
 unfold m_conf_Load at hm
 refine cn_intro (fn:=Tryz.f16) (N:=46) Tryz.func16 rfl Tryz.ntmps16 rfl<|c_seq<|c_region ?_
 refine g_e rfl (e_alloc 100020 Tryz.zeroValue30) (fun g1 _=>?_)
 refine g_v rfl r_assign<|g_nil<|d_then<|c_seq<|c_region<|g_v rfl r_move<|g_v rfl (r_build _ rfl (bld89_24 _)) ?_
 refine g_e rfl (e_box 100080 rfl) (fun g2 _=>?_)
 refine g_e rfl (e_alloc 100040 Tryz.zeroValue87) (fun g3 _=>?_)
 refine g_storeL (tag:=100040) rfl rfl rfl rfl Tryz.sizeOf87 rfl rfl<|g_nil<|d_then<|c_seq<|c_region ?_
 refine g_e rfl (e_alloc 100050 Tryz.zeroValue30) (fun g4 _=>?_)
 refine g_nil<|d_then<|c_seq<|c_region<|g_v rfl (r_load (tag:=100040) rfl rfl rfl Tryz.isAgg87)<|g_v rfl (r_mkf rfl) ?_
 replace hm:=bnd hm
 obtain ⟨⟨x5,x6⟩,hx7,hm⟩:=hm
 refine g_cn ⟨w0,M,(1000,g2,.cells #[.string p0,.bool false] 89 (0,0))::(1001,g3,.cells #[.pointer (some ⟨g2,0,none⟩)] 87 (0,0))::(100050,g4,.cells #[.slice none 0 0,.slice none 0 0,.slice none 0 0,.int .i64 0,.slice none 0 0] 30 (0,0))::(100020,g1,.cells #[.slice none 0 0,.slice none 0 0,.slice none 0 0,.int .i64 0,.slice none 0 0] 30 (0,0))::H,R,φ⟩ (fun W h=>(ok_front (t:=100080) (t':=1000) (ok_front (t:=100040) (t':=1001) h rfl) rfl)) Tryz.call64 rfl rfl (c_conf_list_64 g2 (⟨p0,false⟩ : Gconf_reader) g3 _ hx7) (fun ⟨A8,c9⟩ hc9=>?_)
 refine g_sta _ (fun W h=>(ok_frontR (t:=2000) (t':=100110) (ok_front (t:=1000) (t':=100080) (ok_front (t:=1001) (t':=100040) h rfl) rfl) rfl))<|g_v rfl (r_field (n:=0) Tryz.underlying30 rfl Tryz.sizeOf25 rfl rfl)<|g_storeL (tag:=100050) rfl rfl rfl rfl Tryz.sizeOf25 rfl rfl<|g_nil<|d_then ?_
 refine c_flat [(2,.pointer (some ⟨g1,0,none⟩)),(4,.pointer (some ⟨g3,0,none⟩)),(5,.pointer (some ⟨g4,0,none⟩))] ⟨rfl,rfl,rfl,trivial⟩ (fun u=>?_)
 refine c_sta ⟨w0,M,(100080,g2,.cells #[.string x6.fs,.bool x6.fbad] 89 (0,0))::(100040,g3,.cells #[.pointer (some ⟨g2,0,none⟩)] 87 (0,0))::(100050,g4,.cells #[.slice A8 x5.length c9,.slice none 0 0,.slice none 0 0,.int .i64 0,.slice none 0 0] 30 (0,0))::(100020,g1,.cells #[.slice none 0 0,.slice none 0 0,.slice none 0 0,.int .i64 0,.slice none 0 0] 30 (0,0))::H,(100110,⟨.slice A8 x5.length c9,3,1,x5.length,x5.flatMap (fun x : Int=>[Value.int .i64 x])⟩)::R,φ⟩ (fun _ h=>h)<|c_seq<|c_region<|g_v rfl (r_load (tag:=100040) rfl rfl rfl Tryz.isAgg87)<|g_v rfl (r_mkf rfl) ?_
 replace hm:=bnd hm
 obtain ⟨⟨x12,x13⟩,hx14,hm⟩:=hm
 refine g_cn ⟨w0,M,(1000,g2,.cells #[.string x6.fs,.bool x6.fbad] 89 (0,0))::(1001,g3,.cells #[.pointer (some ⟨g2,0,none⟩)] 87 (0,0))::(100050,g4,.cells #[.slice A8 x5.length c9,.slice none 0 0,.slice none 0 0,.int .i64 0,.slice none 0 0] 30 (0,0))::(100020,g1,.cells #[.slice none 0 0,.slice none 0 0,.slice none 0 0,.int .i64 0,.slice none 0 0] 30 (0,0))::H,(100110,⟨.slice A8 x5.length c9,3,1,x5.length,x5.flatMap (fun x : Int=>[Value.int .i64 x])⟩)::R,φ⟩ (fun W h=>(ok_front (t:=100080) (t':=1000) (ok_front (t:=100040) (t':=1001) h rfl) rfl)) Tryz.call67 rfl rfl (c_conf_list_67 g2 x6 g3 _ hx14) (fun ⟨A15,c16⟩ hc16=>?_)
 refine g_sta _ (fun W h=>(ok_frontR (t:=2000) (t':=100150) (ok_front (t:=1000) (t':=100080) (ok_front (t:=1001) (t':=100040) h rfl) rfl) rfl))<|g_v rfl (r_field (n:=1) Tryz.underlying30 rfl Tryz.sizeOf26 rfl rfl)<|g_storeL (tag:=100050) rfl rfl rfl rfl Tryz.sizeOf26 rfl rfl<|g_nil<|d_then<|c_seq<|c_region<|g_v rfl (r_load (tag:=100040) rfl rfl rfl Tryz.isAgg87)<|g_v rfl (r_mkf rfl) ?_
 replace hm:=bnd hm
 obtain ⟨⟨x19,x20⟩,hx21,hm⟩:=hm
 refine g_cn ⟨w0,M,(1000,g2,.cells #[.string x13.fs,.bool x13.fbad] 89 (0,0))::(1001,g3,.cells #[.pointer (some ⟨g2,0,none⟩)] 87 (0,0))::(100050,g4,.cells #[.slice A8 x5.length c9,.slice A15 x12.length c16,.slice none 0 0,.int .i64 0,.slice none 0 0] 30 (0,0))::(100020,g1,.cells #[.slice none 0 0,.slice none 0 0,.slice none 0 0,.int .i64 0,.slice none 0 0] 30 (0,0))::H,(100150,⟨.slice A15 x12.length c16,9,1,x12.length,x12.flatMap (fun x : ByteArray=>[Value.string x])⟩)::(100110,⟨.slice A8 x5.length c9,3,1,x5.length,x5.flatMap (fun x : Int=>[Value.int .i64 x])⟩)::R,φ⟩ (fun W h=>(ok_front (t:=100080) (t':=1000) (ok_front (t:=100040) (t':=1001) h rfl) rfl)) Tryz.call70 rfl rfl (c_conf_list_70 g2 x13 g3 _ hx21) (fun ⟨A22,c23⟩ hc23=>?_)
 refine g_sta _ (fun W h=>(ok_frontR (t:=2000) (t':=100190) (ok_front (t:=1000) (t':=100080) (ok_front (t:=1001) (t':=100040) h rfl) rfl) rfl))<|g_v rfl (r_field (n:=2) Tryz.underlying30 rfl Tryz.sizeOf27 rfl rfl)<|g_storeL (tag:=100050) rfl rfl rfl rfl Tryz.sizeOf27 rfl rfl<|g_nil<|d_then ?_
 refine c_flat [(2,.pointer (some ⟨g1,0,none⟩)),(4,.pointer (some ⟨g3,0,none⟩)),(5,.pointer (some ⟨g4,0,none⟩))] ⟨rfl,rfl,rfl,trivial⟩ (fun u=>?_)
 refine c_sta ⟨w0,M,(100080,g2,.cells #[.string x20.fs,.bool x20.fbad] 89 (0,0))::(100040,g3,.cells #[.pointer (some ⟨g2,0,none⟩)] 87 (0,0))::(100050,g4,.cells #[.slice A8 x5.length c9,.slice A15 x12.length c16,.slice A22 x19.length c23,.int .i64 0,.slice none 0 0] 30 (0,0))::(100020,g1,.cells #[.slice none 0 0,.slice none 0 0,.slice none 0 0,.int .i64 0,.slice none 0 0] 30 (0,0))::H,(100190,⟨.slice A22 x19.length c23,55,2,x19.length,x19.flatMap GAnchor.enc⟩)::(100150,⟨.slice A15 x12.length c16,9,1,x12.length,x12.flatMap (fun x : ByteArray=>[Value.string x])⟩)::(100110,⟨.slice A8 x5.length c9,3,1,x5.length,x5.flatMap (fun x : Int=>[Value.int .i64 x])⟩)::R,φ⟩ (fun _ h=>h)<|c_seq<|c_region<|g_v rfl (r_load (tag:=100040) rfl rfl rfl Tryz.isAgg87) ?_
 replace hm:=bnd hm
 obtain ⟨⟨x26,x27⟩,hx28,hm⟩:=hm
 refine g_cn ⟨w0,M,(1000,g2,.cells #[.string x20.fs,.bool x20.fbad] 89 (0,0))::(100040,g3,.cells #[.pointer (some ⟨g2,0,none⟩)] 87 (0,0))::(100050,g4,.cells #[.slice A8 x5.length c9,.slice A15 x12.length c16,.slice A22 x19.length c23,.int .i64 0,.slice none 0 0] 30 (0,0))::(100020,g1,.cells #[.slice none 0 0,.slice none 0 0,.slice none 0 0,.int .i64 0,.slice none 0 0] 30 (0,0))::H,(100190,⟨.slice A22 x19.length c23,55,2,x19.length,x19.flatMap GAnchor.enc⟩)::(100150,⟨.slice A15 x12.length c16,9,1,x12.length,x12.flatMap (fun x : ByteArray=>[Value.string x])⟩)::(100110,⟨.slice A8 x5.length c9,3,1,x5.length,x5.flatMap (fun x : Int=>[Value.int .i64 x])⟩)::R,φ⟩ (fun W h=>(ok_front (t:=100080) (t':=1000) h rfl)) Tryz.call66 rfl rfl (c_conf_reader_number 8 g2 x20 _ hx28) (fun _ _=>?_)
 refine g_sta _ (fun W h=>(ok_front (t:=1000) (t':=100080) h rfl))<|g_v rfl (r_field (n:=3) Tryz.underlying30 rfl Tryz.sizeOf3 rfl rfl)<|g_storeL (tag:=100050) rfl rfl rfl rfl Tryz.sizeOf3 rfl rfl<|g_nil<|d_then<|c_seq<|c_region<|g_v rfl (r_load (tag:=100040) rfl rfl rfl Tryz.isAgg87)<|g_v rfl (r_mkf rfl) ?_
 replace hm:=bnd hm
 obtain ⟨⟨x30,x31⟩,hx32,hm⟩:=hm
 refine g_cn ⟨w0,M,(1000,g2,.cells #[.string x27.fs,.bool x27.fbad] 89 (0,0))::(1001,g3,.cells #[.pointer (some ⟨g2,0,none⟩)] 87 (0,0))::(100050,g4,.cells #[.slice A8 x5.length c9,.slice A15 x12.length c16,.slice A22 x19.length c23,.int .i64 x26,.slice none 0 0] 30 (0,0))::(100020,g1,.cells #[.slice none 0 0,.slice none 0 0,.slice none 0 0,.int .i64 0,.slice none 0 0] 30 (0,0))::H,(100190,⟨.slice A22 x19.length c23,55,2,x19.length,x19.flatMap GAnchor.enc⟩)::(100150,⟨.slice A15 x12.length c16,9,1,x12.length,x12.flatMap (fun x : ByteArray=>[Value.string x])⟩)::(100110,⟨.slice A8 x5.length c9,3,1,x5.length,x5.flatMap (fun x : Int=>[Value.int .i64 x])⟩)::R,φ⟩ (fun W h=>(ok_front (t:=100080) (t':=1000) (ok_front (t:=100040) (t':=1001) h rfl) rfl)) Tryz.call73 rfl rfl (c_conf_list_73 g2 x27 g3 _ hx32) (fun ⟨A33,c34⟩ hc34=>?_)
 refine g_sta _ (fun W h=>(ok_frontR (t:=2000) (t':=100260) (ok_front (t:=1000) (t':=100080) (ok_front (t:=1001) (t':=100040) h rfl) rfl) rfl))<|g_v rfl (r_field (n:=4) Tryz.underlying30 rfl Tryz.sizeOf28 rfl rfl)<|g_storeL (tag:=100050) rfl rfl rfl rfl Tryz.sizeOf28 rfl rfl<|g_nil<|d_then ?_
 refine c_flat [(2,.pointer (some ⟨g1,0,none⟩)),(4,.pointer (some ⟨g3,0,none⟩)),(5,.pointer (some ⟨g4,0,none⟩))] ⟨rfl,rfl,rfl,trivial⟩ (fun u=>?_)
 refine c_sta ⟨w0,M,(100080,g2,.cells #[.string x31.fs,.bool x31.fbad] 89 (0,0))::(100040,g3,.cells #[.pointer (some ⟨g2,0,none⟩)] 87 (0,0))::(100050,g4,.cells #[.slice A8 x5.length c9,.slice A15 x12.length c16,.slice A22 x19.length c23,.int .i64 x26,.slice A33 x30.length c34] 30 (0,0))::(100020,g1,.cells #[.slice none 0 0,.slice none 0 0,.slice none 0 0,.int .i64 0,.slice none 0 0] 30 (0,0))::H,(100260,⟨.slice A33 x30.length c34,48,2,x30.length,x30.flatMap GFlush.enc⟩)::(100190,⟨.slice A22 x19.length c23,55,2,x19.length,x19.flatMap GAnchor.enc⟩)::(100150,⟨.slice A15 x12.length c16,9,1,x12.length,x12.flatMap (fun x : ByteArray=>[Value.string x])⟩)::(100110,⟨.slice A8 x5.length c9,3,1,x5.length,x5.flatMap (fun x : Int=>[Value.int .i64 x])⟩)::R,φ⟩ (fun _ h=>h)<|c_seq<|c_seq<|c_region<|g_v rfl (r_load (tag:=100040) rfl rfl rfl Tryz.isAgg87)<|g_v rfl (r_nilck rfl)<|g_v rfl (r_field (n:=1) Tryz.underlying89 rfl Tryz.sizeOf4 rfl rfl)<|g_v rfl (r_load (tag:=100080) rfl rfl rfl Tryz.isAgg4)<|g_v rfl r_move ?_
 refine g_if rfl rfl rfl rfl rfl (fun h37=>?_) (fun h37=>?_)
 ·
  replace hm:=ite_f hm (bool_nt h37)
  refine g_v rfl (r_load (tag:=100040) rfl rfl rfl Tryz.isAgg87)<|g_do rfl rfl rfl rfl rfl h37<|g_v rfl (r_nilck rfl)<|g_do rfl rfl rfl rfl rfl h37<|g_v rfl (r_field (n:=0) Tryz.underlying89 rfl Tryz.sizeOf9 rfl rfl)<|g_do rfl rfl rfl rfl rfl h37<|g_v rfl (r_load (tag:=100080) rfl rfl rfl Tryz.isAgg9)<|g_do rfl rfl rfl rfl rfl h37<|g_v rfl (r_neqT rfl rfl)<|g_v rfl (r_pick0 rfl h37) ?_
  refine g_v rfl r_move ?_
  refine g_if rfl rfl rfl rfl rfl (fun h38=>?_) (fun h38=>?_)
  ·
   have h38' : (decide (x31.fs = (⟨#[]⟩ : ByteArray))) = true:=by revert h38; cases (decide (x31.fs = (⟨#[]⟩ : ByteArray))) <;> simp
   replace hm:=ite_t hm (of_decide_eq_true h38')
   refine g_v rfl (r_loadA (tag:=100050) rfl rfl Tryz.isAgg30 Tryz.sizeOf30 rfl rfl)<|g_do rfl rfl rfl rfl rfl h38 ?_
   refine g_shut (tag:=100110) rfl (fun φ39 q39'=>?_)
   have q39 : ∀ W,φ39 W→φ W:=fun W h=>(q39' W h).1
   have f40:=fun (W : World) (h : φ39 W)=>(q39' W h).2
   refine g_shut (tag:=100150) rfl (fun φ41 q41'=>?_)
   have q41 : ∀ W,φ41 W→φ39 W:=fun W h=>(q41' W h).1
   have f42:=fun (W : World) (h : φ41 W)=>(q41' W h).2
   refine g_shut (tag:=100190) rfl (fun φ43 q43'=>?_)
   have q43 : ∀ W,φ43 W→φ41 W:=fun W h=>(q43' W h).1
   have f44:=fun (W : World) (h : φ43 W)=>(q43' W h).2
   refine g_shut (tag:=100260) rfl (fun φ45 q45'=>?_)
   have q45 : ∀ W,φ45 W→φ43 W:=fun W h=>(q45' W h).1
   have f46:=fun (W : World) (h : φ45 W)=>(q45' W h).2
   replace hm:=bnd hm
   obtain ⟨x47,hx48,hm⟩:=hm
   refine g_cn ⟨w0,M,_,_,φ45⟩ (fun _ h=>h) Tryz.call13 rfl rfl (c_conf_Right (⟨x5,x12,x19,x26,x30⟩ : GConf) A8 c9 hc9 (fun W h=>f40 W (q41 _ (q43 _ (q45 _ h)))) A15 c16 hc16 (fun W h=>f42 W (q43 _ (q45 _ h))) A22 c23 hc23 (fun W h=>f44 W (q45 _ h)) A33 c34 hc34 (fun W h=>f46 W h) _ hx48) (fun _ _=>?_)
   refine g_do rfl rfl rfl rfl rfl h38<|g_v rfl (r_not rfl)<|g_v rfl (r_pick0 rfl h38)<|g_nil<|d_then ?_
   refine c_flat [(2,.pointer (some ⟨g1,0,none⟩)),(5,.pointer (some ⟨g4,0,none⟩)),(43,.bool (!x47))] ⟨rfl,rfl,rfl,trivial⟩ (fun u=>?_)
   refine c_sta ⟨w0,M,(100080,g2,.cells #[.string x31.fs,.bool x31.fbad] 89 (0,0))::(100040,g3,.cells #[.pointer (some ⟨g2,0,none⟩)] 87 (0,0))::(100050,g4,.cells #[.slice A8 x5.length c9,.slice A15 x12.length c16,.slice A22 x19.length c23,.int .i64 x26,.slice A33 x30.length c34] 30 (0,0))::(100020,g1,.cells #[.slice none 0 0,.slice none 0 0,.slice none 0 0,.int .i64 0,.slice none 0 0] 30 (0,0))::H,R,φ45⟩ (fun _ h=>h) ?_
   refine c_cond rfl (fun h49=>?_) (fun h49=>?_)
   ·
    have h49' : x47 = false:=by revert h49; cases x47 <;> simp
    replace hm:=ite_f hm (bool_nt h49')
    refine c_seq<|c_region<|g_v rfl (r_build _ rfl (bld30_9))<|g_storeL (tag:=100020) rfl rfl rfl rfl Tryz.sizeOf30 rfl rfl<|g_v rfl r_assign<|g_nil<|d_then<|c_ret<|d_ret_then ?_
    cases hm
    exact d_retC (none,0,none,0,none,0,none,0) Tryz.results16 (res_agg (tag:=100020) rfl rfl Tryz.isAgg30 Tryz.sizeOf30 (res_tmp (res_nil rfl))) ⟨(Nat.le_refl 0),(Nat.le_refl 0),(Nat.le_refl 0),(Nat.le_refl 0)⟩ (fun W h=>ok_pre (H1:=[_,_,_,_]) (R1:=[]) h (fun W hφ=>⟨(q39 _ (q41 _ (q43 _ (q45 _ hφ)))),(fun W _=>Cl.nil _ _) W hφ,(fun W _=>Cl.nil _ _) W hφ,(fun W _=>Cl.nil _ _) W hφ,(fun W _=>Cl.nil _ _) W hφ⟩)) (.inr rfl)
   have h49' : x47 = true:=by revert h49; cases x47 <;> simp
   replace hm:=ite_t hm h49'
   refine c_skip<|d_then<|c_seq<|c_region<|g_v rfl (r_loadA (tag:=100050) rfl rfl Tryz.isAgg30 Tryz.sizeOf30 rfl rfl)<|g_storeL (tag:=100020) rfl rfl rfl rfl Tryz.sizeOf30 rfl rfl<|g_v rfl r_assign<|g_nil<|d_then<|c_ret ?_
   cases hm
   exact d_retC (A8,c9,A15,c16,A22,c23,A33,c34) Tryz.results16 (res_agg (tag:=100020) rfl rfl Tryz.isAgg30 Tryz.sizeOf30 (res_tmp (res_nil rfl))) ⟨hc9,hc16,hc23,hc34⟩ (fun W h=>ok_pre (H1:=[_,_,_,_]) (R1:=[]) h (fun W hφ=>⟨(q39 _ (q41 _ (q43 _ (q45 _ hφ)))),(fun W h=>f40 W (q41 _ (q43 _ (q45 _ h)))) W hφ,(fun W h=>f42 W (q43 _ (q45 _ h))) W hφ,(fun W h=>f44 W (q45 _ h)) W hφ,(fun W h=>f46 W h) W hφ⟩)) (.inr rfl)
  have h38' : (decide (x31.fs = (⟨#[]⟩ : ByteArray))) = false:=by revert h38; cases (decide (x31.fs = (⟨#[]⟩ : ByteArray))) <;> simp
  replace hm:=ite_f hm (of_decide_eq_false h38')
  refine g_no rfl rfl rfl rfl rfl h38<|g_no rfl rfl rfl rfl rfl h38<|g_v rfl (r_pick1 rfl h38)<|g_nil<|d_then ?_
  refine c_flat [(2,.pointer (some ⟨g1,0,none⟩)),(5,.pointer (some ⟨g4,0,none⟩)),(43,.bool true)] ⟨rfl,rfl,rfl,trivial⟩ (fun u=>?_)
  refine c_cond1 rfl rfl<|c_seq<|c_region<|g_v rfl (r_build _ rfl (bld30_9))<|g_storeL (tag:=100020) rfl rfl rfl rfl Tryz.sizeOf30 rfl rfl<|g_v rfl r_assign<|g_nil<|d_then<|c_ret<|d_ret_then ?_
  cases hm
  exact d_retC (none,0,none,0,none,0,none,0) Tryz.results16 (res_agg (tag:=100020) rfl rfl Tryz.isAgg30 Tryz.sizeOf30 (res_tmp (res_nil rfl))) ⟨(Nat.le_refl 0),(Nat.le_refl 0),(Nat.le_refl 0),(Nat.le_refl 0)⟩ (fun W h=>ok_pre (H1:=[_,_,_,_]) (R1:=[_,_,_,_]) h (fun W hφ=>⟨hφ,(fun W _=>Cl.nil _ _) W hφ,(fun W _=>Cl.nil _ _) W hφ,(fun W _=>Cl.nil _ _) W hφ,(fun W _=>Cl.nil _ _) W hφ⟩)) (.inr rfl)
 replace hm:=ite_t hm h37
 iterate 4 refine g_no rfl rfl rfl rfl rfl h37 ?_
 refine g_v rfl (r_pick1 rfl h37)<|g_v rfl r_move ?_
 iterate 3 refine g_no rfl rfl rfl rfl rfl rfl ?_
 refine g_v rfl (r_pick1 rfl rfl)<|g_nil<|d_then<|c_cond1 rfl rfl<|c_seq<|c_region<|g_v rfl (r_build _ rfl (bld30_9))<|g_storeL (tag:=100020) rfl rfl rfl rfl Tryz.sizeOf30 rfl rfl<|g_v rfl r_assign<|g_nil ?_
 refine d_then ?_
 refine c_flat [(2,.pointer (some ⟨g1,0,none⟩)),(3,.int .i64 10)] ⟨rfl,rfl,trivial⟩ (fun u=>?_)
 refine c_ret<|d_ret_then ?_
 cases hm
 exact d_retC (none,0,none,0,none,0,none,0) Tryz.results16 (res_agg (tag:=100020) rfl rfl Tryz.isAgg30 Tryz.sizeOf30 (res_tmp (res_nil rfl))) ⟨(Nat.le_refl 0),(Nat.le_refl 0),(Nat.le_refl 0),(Nat.le_refl 0)⟩ (fun W h=>ok_pre (H1:=[_,_,_,_]) (R1:=[_,_,_,_]) h (fun W hφ=>⟨hφ,(fun W _=>Cl.nil _ _) W hφ,(fun W _=>Cl.nil _ _) W hφ,(fun W _=>Cl.nil _ _) W hφ,(fun W _=>Cl.nil _ _) W hφ⟩)) (.inr rfl)
structure Gref13_reader where
  fs : ByteArray
  fbad : Bool
  deriving DecidableEq
def Gref13_reader.enc (e : Gref13_reader) : List Value:=[.string e.fs,.bool e.fbad]
theorem bld105_25 (z0 : ByteArray) : ∀ W,(Instr.build 105 #[(0,.string z0)]).run Tryz.prog W = .ok (.agg #[.string z0,.bool false]) W:=fun _=>by kernel_rfl
noncomputable def m_ref13_reader_take (p1 : Int) (o0 : Gref13_reader) : Option (ByteArray×Gref13_reader):=
  if p1 < 0 then
    some ((⟨#[]⟩ : ByteArray),(⟨o0.fs,true⟩ : Gref13_reader))
  else
    if (o0.fs.size : Int) < p1 then
      some ((⟨#[]⟩ : ByteArray),(⟨o0.fs,true⟩ : Gref13_reader))
    else
      (scutHi o0.fs p1).bind fun s3=>
      (scutLo o0.fs p1).bind fun s4=>
      some (s3,(⟨s4,o0.fbad⟩ : Gref13_reader))
theorem c_ref13_reader_take {w0 : World} {M : Nat→Prop} {H : List (Nat×Nat×Obj)} {R : List (Nat×Row)} {φ : World→Prop} (p1 : Int) (go0 : Nat) (o0 : Gref13_reader) (r : ByteArray×Gref13_reader) (hm : m_ref13_reader_take p1 o0 = some r) :
    Cn Tryz.prog 77 #[.pointer (some ⟨go0,0,none⟩),.int .i64 p1] ⟨w0,M,(1000,go0,.cells #[.string o0.fs,.bool o0.fbad] 105 (0,0))::H,R,φ⟩ (fun x : Unit=>.string r.1) (fun x=>True) (fun x=>⟨w0,M,(1000,go0,.cells #[.string r.2.fs,.bool r.2.fbad] 105 (0,0))::H,R,φ⟩):=by
 unfold m_ref13_reader_take at hm
 refine cn_intro (fn:=Tryz.f77) (N:=36) Tryz.func77 rfl Tryz.ntmps77 rfl<|c_seq<|c_region<|g_v rfl r_assign<|g_nil<|d_then<|c_seq<|c_seq<|c_region<|g_v rfl r_move ?_
 refine g_v rfl (r_lss rfl rfl)<|g_v rfl r_move ?_
 refine g_if rfl rfl rfl rfl rfl (fun h1=>?_) (fun h1=>?_)
 ·
  replace hm:=ite_f hm (of_decide_eq_false h1)
  refine g_v rfl r_move<|g_do rfl rfl rfl rfl rfl h1<|g_v rfl (r_nilck rfl)<|g_do rfl rfl rfl rfl rfl h1<|g_v rfl (r_field (n:=0) Tryz.underlying105 rfl Tryz.sizeOf9 rfl rfl)<|g_do rfl rfl rfl rfl rfl h1<|g_v rfl (r_load (tag:=1000) rfl rfl rfl Tryz.isAgg9)<|g_do rfl rfl rfl rfl rfl h1<|g_v rfl (r_len Tryz.underlying9 rfl)<|g_do rfl rfl rfl rfl rfl h1 ?_
  refine g_v rfl r_move<|g_do rfl rfl rfl rfl rfl h1<|g_v rfl (r_lss rfl rfl)<|g_v rfl (r_pick0 rfl h1)<|g_nil<|d_then ?_
  refine c_flat [(0,.pointer (some ⟨go0,0,none⟩)),(1,.int .i64 p1),(16,.bool (decide ((o0.fs.size : Int) < p1)))] ⟨rfl,rfl,rfl,trivial⟩ (fun u=>?_)
  refine c_sta ⟨w0,M,(1000,go0,.cells #[.string o0.fs,.bool o0.fbad] 105 (0,0))::H,R,φ⟩ (fun _ h=>h) ?_
  refine c_cond rfl (fun h2=>?_) (fun h2=>?_)
  ·
   replace hm:=ite_t hm (of_decide_eq_true h2)
   refine c_seq<|c_region<|g_v rfl r_move<|g_v rfl (r_nilck rfl)<|g_v rfl (r_field (n:=1) Tryz.underlying105 rfl Tryz.sizeOf4 rfl rfl)<|g_storeL (tag:=1000) rfl rfl rfl rfl Tryz.sizeOf4 rfl rfl<|g_nil<|d_then<|c_seq<|c_region ?_
   refine g_v rfl r_assign<|g_nil<|d_then<|c_ret<|d_ret_then ?_
   cases hm
   exact d_retC () Tryz.results77 (res_tmp (res_nil rfl)) trivial (fun W h=>h.phi (fun W hφ=>hφ)) (.inr rfl)
  replace hm:=ite_f hm (of_decide_eq_false h2)
  refine c_skip<|d_then<|c_seq<|c_region<|g_v rfl r_move<|g_v rfl (r_nilck rfl)<|g_v rfl (r_field (n:=0) Tryz.underlying105 rfl Tryz.sizeOf9 rfl rfl)<|g_v rfl (r_load (tag:=1000) rfl rfl rfl Tryz.isAgg9)<|g_v rfl r_move ?_
  replace hm:=bnd hm
  obtain ⟨s3,hs3,hm⟩:=hm
  refine g_v rfl (r_scutHi Tryz.underlying9 rfl rfl hs3)<|g_v rfl r_assign<|g_nil<|d_then<|c_seq<|c_region<|g_v rfl r_move<|g_v rfl r_move<|g_v rfl (r_nilck rfl)<|g_v rfl (r_field (n:=0) Tryz.underlying105 rfl Tryz.sizeOf9 rfl rfl) ?_
  refine g_v rfl (r_load (tag:=1000) rfl rfl rfl Tryz.isAgg9)<|g_v rfl r_move ?_
  replace hm:=bnd hm
  obtain ⟨s4,hs4,hm⟩:=hm
  refine g_v rfl (r_scutLo Tryz.underlying9 rfl rfl hs4)<|g_v rfl (r_nilck rfl)<|g_v rfl (r_field (n:=0) Tryz.underlying105 rfl Tryz.sizeOf9 rfl rfl)<|g_storeL (tag:=1000) rfl rfl rfl rfl Tryz.sizeOf9 rfl rfl<|g_nil<|d_then ?_
  refine c_flat [(5,.string s3)] ⟨rfl,trivial⟩ (fun u=>?_)
  refine c_sta ⟨w0,M,(1000,go0,.cells #[.string s4,.bool o0.fbad] 105 (0,0))::H,R,φ⟩ (fun _ h=>h)<|c_seq<|c_region<|g_v rfl r_move<|g_v rfl r_assign<|g_nil<|d_then<|c_ret ?_
  cases hm
  exact d_retC () Tryz.results77 (res_tmp (res_nil rfl)) trivial (fun W h=>h.phi (fun W hφ=>hφ)) (.inr rfl)
 replace hm:=ite_t hm (of_decide_eq_true h1)
 iterate 6 refine g_no rfl rfl rfl rfl rfl h1 ?_
 refine g_v rfl (r_pick1 rfl h1)<|g_nil<|d_then<|c_cond1 rfl rfl<|c_seq<|c_region<|g_v rfl r_move<|g_v rfl (r_nilck rfl)<|g_v rfl (r_field (n:=1) Tryz.underlying105 rfl Tryz.sizeOf4 rfl rfl)<|g_storeL (tag:=1000) rfl rfl rfl rfl Tryz.sizeOf4 rfl rfl ?_
 refine g_nil<|d_then ?_
 refine c_flat [] trivial (fun u=>?_)
 refine c_sta ⟨w0,M,(1000,go0,.cells #[.string o0.fs,.bool true] 105 (0,0))::H,R,φ⟩ (fun _ h=>h)<|c_seq<|c_region<|g_v rfl r_assign<|g_nil<|d_then<|c_ret<|d_ret_then ?_
 cases hm
 exact d_retC () Tryz.results77 (res_tmp (res_nil rfl)) trivial (fun W h=>h.phi (fun W hφ=>hφ)) (.inr rfl)
noncomputable def m_ref13_reader_number_j2 (x2 : Gref13_reader) (i19 : Int) : Option (Int×Gref13_reader):=
  some (i19,x2)
noncomputable def m_ref13_reader_number_s3 (x1 : ByteArray) (i24 : Int) (i25 : Int) : Option ((Int×Int) ⊕ Int):=
  if i25 < (x1.size : Int) then
    (sat_ x1 i25).bind fun b32=>
    some (.inl (w64 ((w64 (i24 * 256)) + (w64 b32)),w64 (i25 + 1)))
  else
    some (.inr i24)
noncomputable def m_ref13_reader_number_j1 (x1 : ByteArray) (x2 : Gref13_reader) : Option (Int×Gref13_reader):=
  (loop (fun s=>m_ref13_reader_number_s3 x1 s.1 s.2) (0,0)).bind fun e=>m_ref13_reader_number_j2 x2 e
noncomputable def m_ref13_reader_number (p1 : Int) (o0 : Gref13_reader) : Option (Int×Gref13_reader):=
  (m_ref13_reader_take p1 o0).bind fun (z4 : ByteArray×Gref13_reader)=>
  if (z4.1.size : Int) = 8 then
    (sat_ z4.1 0).bind fun b35=>
    if 127 < b35 then
      some (0,(⟨z4.2.fs,true⟩ : Gref13_reader))
    else
      m_ref13_reader_number_j1 z4.1 z4.2
  else
    m_ref13_reader_number_j1 z4.1 z4.2
theorem c_ref13_reader_number {w0 : World} {M : Nat→Prop} {H : List (Nat×Nat×Obj)} {R : List (Nat×Row)} {φ : World→Prop} (p1 : Int) (go0 : Nat) (o0 : Gref13_reader) (r : Int×Gref13_reader) (hm : m_ref13_reader_number p1 o0 = some r) :
    Cn Tryz.prog 76 #[.pointer (some ⟨go0,0,none⟩),.int .i64 p1] ⟨w0,M,(1000,go0,.cells #[.string o0.fs,.bool o0.fbad] 105 (0,0))::H,R,φ⟩ (fun x : Unit=>.int .i64 r.1) (fun x=>True) (fun x=>⟨w0,M,(1000,go0,.cells #[.string r.2.fs,.bool r.2.fbad] 105 (0,0))::H,R,φ⟩):=by
 unfold m_ref13_reader_number at hm
 refine cn_intro (fn:=Tryz.f76) (N:=36) Tryz.func76 rfl Tryz.ntmps76 rfl<|c_seq<|c_region<|g_v rfl r_assign<|g_nil<|d_then<|c_seq<|c_region<|g_v rfl r_move<|g_v rfl r_move ?_
 replace hm:=bnd hm
 obtain ⟨⟨x1,x2⟩,hx3,hm⟩:=hm
 refine g_cn ⟨w0,M,(1000,go0,.cells #[.string o0.fs,.bool o0.fbad] 105 (0,0))::H,R,φ⟩ (fun W h=>(ok_front (t:=1000) (t':=1000) h rfl)) Tryz.call77 rfl rfl (c_ref13_reader_take p1 go0 o0 _ hx3) (fun _ _=>?_)
 refine g_sta _ (fun W h=>(ok_front (t:=1000) (t':=1000) h rfl))<|g_v rfl r_assign<|g_nil<|d_then<|c_seq ?_
 refine c_cut (ι:=Unit) [5] (fun _=>[]) (fun _=>⟨w0,M,(1000,go0,.cells #[.string x2.fs,.bool x2.fbad] 105 (0,0))::H,R,φ⟩) (fun _=>m_ref13_reader_number_j1 x1 x2 = some r) ?_ (fun _ u hm=>?_)
 ·
  refine c_seq<|c_region<|g_v rfl r_move<|g_v rfl (r_len Tryz.underlying9 rfl)<|g_v rfl (r_eql rfl rfl)<|g_v rfl r_move ?_
  refine g_if rfl rfl rfl rfl rfl (fun h34=>?_) (fun h34=>?_)
  ·
   replace hm:=ite_t hm (of_decide_eq_true h34)
   refine g_v rfl r_move<|g_do rfl rfl rfl rfl rfl h34 ?_
   replace hm:=bnd hm
   obtain ⟨b35,hb35,hm⟩:=hm
   refine g_v rfl (r_sat Tryz.underlying9 rfl rfl hb35)<|g_do rfl rfl rfl rfl rfl h34<|g_v rfl (r_gtr rfl rfl)<|g_v rfl (r_pick1 rfl h34)<|g_nil<|d_then ?_
   refine c_flat [(0,.pointer (some ⟨go0,0,none⟩)),(5,.string x1),(18,.bool (decide (127 < b35)))] ⟨rfl,rfl,rfl,trivial⟩ (fun u=>?_)
   refine c_sta ⟨w0,M,(1000,go0,.cells #[.string x2.fs,.bool x2.fbad] 105 (0,0))::H,R,φ⟩ (fun _ h=>h) ?_
   refine c_cond rfl (fun h36=>?_) (fun h36=>?_)
   ·
    replace hm:=ite_t hm (of_decide_eq_true h36)
    refine c_seq<|c_region<|g_v rfl r_move<|g_v rfl (r_nilck rfl)<|g_v rfl (r_field (n:=1) Tryz.underlying105 rfl Tryz.sizeOf4 rfl rfl)<|g_storeL (tag:=1000) rfl rfl rfl rfl Tryz.sizeOf4 rfl rfl<|g_nil<|d_then<|c_seq<|c_region ?_
    refine g_v rfl r_assign<|g_nil<|d_then<|c_ret<|d_ret_then<|d_ret_then ?_
    cases hm
    exact d_retC () Tryz.results76 (res_tmp (res_nil rfl)) trivial (fun W h=>h.phi (fun W hφ=>hφ)) (.inr rfl)
   replace hm:=ite_f hm (of_decide_eq_false h36)
   refine c_skip ?_
   exact d_round () hm Nat.zero_lt_one ⟨rfl,trivial⟩ (fun W h=>h.phi (fun W hφ=>hφ))
  replace hm:=ite_f hm (of_decide_eq_false h34)
  refine g_no rfl rfl rfl rfl rfl h34<|g_no rfl rfl rfl rfl rfl h34<|g_v rfl (r_pick0 rfl h34)<|g_nil<|d_then ?_
  refine c_flat [(0,.pointer (some ⟨go0,0,none⟩)),(5,.string x1),(18,.bool false)] ⟨rfl,rfl,rfl,trivial⟩ (fun u=>?_)
  refine c_sta ⟨w0,M,(1000,go0,.cells #[.string x2.fs,.bool x2.fbad] 105 (0,0))::H,R,φ⟩ (fun _ h=>h)<|c_cond0 rfl rfl<|c_skip ?_
  exact d_round () hm Nat.zero_lt_one ⟨rfl,trivial⟩ (fun W h=>h.phi (fun W hφ=>hφ))
 unfold m_ref13_reader_number_j1 at hm
 refine d_flat [(5,.string x1)] ⟨rfl,trivial⟩ (fun u=>?_)
 refine d_sta ⟨w0,M,(1000,go0,.cells #[.string x2.fs,.bool x2.fbad] 105 (0,0))::H,R,φ⟩ (fun _ h=>h)<|d_then<|c_seq<|c_region<|g_v rfl r_assign<|g_nil<|d_then<|c_seq<|c_seq<|c_region ?_
 refine g_v rfl r_assign<|g_nil<|d_then ?_
 refine c_cut (ι:=Int) [6] (fun i19=>[(6,.int .i64 i19)]) (fun i19=>⟨w0,M,(1000,go0,.cells #[.string x2.fs,.bool x2.fbad] 105 (0,0))::H,R,φ⟩) (fun i19=>m_ref13_reader_number_j2 x2 i19 = some r) ?_ (fun i19 u hm=>?_)
 ·
  refine c_block ?_
  replace hm:=bnd hm
  obtain ⟨out3,hl3,hr3⟩:=hm
  obtain ⟨n30',hl3⟩:=loop_lp hl3
  refine c_loopU (ι:=Nat×Int×Int) [5,6,7] (fun ⟨n30,i24,i25⟩=>[(6,.int .i64 i24),(7,.int .i64 i25)]) (fun ⟨n30,i24,i25⟩=>⟨w0,M,(1000,go0,.cells #[.string x2.fs,.bool x2.fbad] 105 (0,0))::H,R,φ⟩) (fun ⟨n30,i24,i25⟩=>Lp (fun s=>m_ref13_reader_number_s3 x1 s.1 s.2) n30 (i24,i25) out3) (fun ⟨n30,i24,i25⟩=>n30) (n30',0,0) hl3 ⟨rfl,rfl,rfl,trivial⟩ (fun W h=>h.phi (fun W hφ=>hφ)) (fun ⟨n30,i24,i25⟩ u hlp=>?_)
  obtain ⟨o3,hm,hnx3⟩:=lp_step hlp
  clear hlp
  replace hm : m_ref13_reader_number_s3 x1 i24 i25 = some o3:=hm
  unfold m_ref13_reader_number_s3 at hm
  refine c_flat [(5,.string x1),(6,.int .i64 i24),(7,.int .i64 i25)] ⟨rfl,rfl,rfl,trivial⟩ (fun u=>?_)
  refine c_seq<|c_seq<|c_region<|g_v rfl r_move<|g_v rfl r_move<|g_v rfl (r_len Tryz.underlying9 rfl)<|g_v rfl (r_lss rfl rfl)<|g_nil<|d_then ?_
  refine c_cond rfl (fun h31=>?_) (fun h31=>?_)
  ·
   replace hm:=ite_t hm (of_decide_eq_true h31)
   refine c_skip<|d_then<|c_seq<|c_block<|c_region<|g_v rfl r_move<|g_v rfl (r_mul rfl rfl rfl)<|g_v rfl r_move<|g_v rfl r_move ?_
   replace hm:=bnd hm
   obtain ⟨b32,hb32,hm⟩:=hm
   refine g_v rfl (r_sat Tryz.underlying9 rfl rfl hb32)<|g_v rfl (r_conv Tryz.underlying5 Tryz.underlying3 rfl rfl)<|g_v rfl (r_add rfl rfl rfl)<|g_v rfl r_assign<|g_nil<|d_normal_block<|d_then ?_
   refine c_flat [(5,.string x1),(6,.int .i64 (w64 ((w64 (i24 * 256)) + (w64 b32)))),(7,.int .i64 i25)] ⟨rfl,rfl,rfl,trivial⟩ (fun u=>?_)
   refine c_region<|g_v rfl r_move<|g_v rfl (r_add rfl rfl rfl)<|g_v rfl r_assign<|g_nil ?_
   obtain ⟨n33,hn33,hlp⟩:=nx_inl hm hnx3
   exact d_round (n33,w64 ((w64 (i24 * 256)) + (w64 b32)),w64 (i25 + 1)) hlp hn33 ⟨rfl,rfl,rfl,trivial⟩ (fun W h=>h.phi (fun W hφ=>hφ))
  replace hm:=ite_f hm (of_decide_eq_false h31)
  refine c_exit<|d_exit_then<|d_exit_then<|d_exit_block ?_
  replace hm:=nx_out (C:=(fun e : Int=>m_ref13_reader_number_j2 x2 e = some r)) hm hnx3 hr3
  exact d_round i24 hm Nat.zero_lt_one ⟨rfl,trivial⟩ (fun W h=>h.phi (fun W hφ=>hφ))
 unfold m_ref13_reader_number_j2 at hm
 refine d_flat [(6,.int .i64 i19)] ⟨rfl,trivial⟩ (fun u=>?_)
 refine d_then<|c_seq<|c_region<|g_v rfl r_move<|g_v rfl r_assign<|g_nil<|d_then<|c_ret ?_
 cases hm
 exact d_retC () Tryz.results76 (res_tmp (res_nil rfl)) trivial (fun W h=>h.phi (fun W hφ=>hφ)) (.inr rfl)
noncomputable def m_ref03_row_j1 (p0 : ByteArray) (l82 : List ByteArray) (i85 : Int) : Option ((List ByteArray)×Bool):=
  some (l82,decide (i85 = w64 ((p0.size : Int) - 1)))
noncomputable def m_ref03_row_s2 (p0 : ByteArray) (l101 : List ByteArray) (i104 : Int) : Option (((List ByteArray)×Int) ⊕ (((List ByteArray)×Int) ⊕ ((List ByteArray)×Bool))):=
  if i104 < (p0.size : Int) then
    (sat_ p0 i104).bind fun b122=>
    if b122 ≠ 0 then
      (sat_ p0 i104).bind fun b124=>
      if 63 < w64 b124 then
        some (.inr (.inr (([] : List ByteArray),false)))
      else
        if (p0.size : Int) < w64 ((w64 (i104 + 1)) + (w64 b124)) then
          some (.inr (.inr (([] : List ByteArray),false)))
        else
          (scutMid p0 (w64 (i104 + 1)) (w64 ((w64 (i104 + 1)) + (w64 b124)))).bind fun s127=>
          (app 16 l101 [s127]).bind fun l129=>
          some (.inl (l129,w64 ((w64 (i104 + 1)) + (w64 b124))))
    else
      some (.inr (.inl (l101,i104)))
  else
    some (.inr (.inl (l101,i104)))
noncomputable def m_ref03_row (p0 : ByteArray) : Option ((List ByteArray)×Bool):=
  (loop (fun s=>m_ref03_row_s2 p0 s.1 s.2) (([] : List ByteArray),0)).bind fun e=>Sum.elim (fun e=>m_ref03_row_j1 p0 e.1 e.2) (fun x=>some x) e
theorem c_ref03_row {w0 : World} {M : Nat→Prop} {H : List (Nat×Nat×Obj)} {R : List (Nat×Row)} {φ : World→Prop} (p0 : ByteArray) (r : (List ByteArray)×Bool) (hm : m_ref03_row p0 = some r) :
    Cn Tryz.prog 120 #[.string p0] ⟨w0,M,H,R,φ⟩ (fun x : Option Addr×Nat=>.tuple #[.slice x.1 r.1.length x.2,.bool r.2]) (fun x=>r.1.length ≤ x.2) (fun x=>⟨w0,M,H,(2000,⟨.slice x.1 r.1.length x.2,9,1,r.1.length,r.1.flatMap (fun x : ByteArray=>[Value.string x])⟩)::R,φ⟩):=by
 unfold m_ref03_row at hm
 refine cn_intro (fn:=Tryz.f120) (N:=53) Tryz.func120 rfl Tryz.ntmps120 rfl<|c_seq<|c_region<|g_v rfl r_assign<|g_v rfl r_assign<|g_nil<|d_then<|c_seq<|c_region<|g_v rfl r_assign ?_
 refine g_nil<|d_then<|c_seq<|c_region<|g_v rfl r_assign<|g_nil<|d_then<|c_seq<|c_sta _ (fun W h=>nilR h 19 9 1) ?_
 refine c_cut (ι:=(List ByteArray)×Int×Option Addr×Nat) [0,4,5] (fun ⟨l82,i85,A83,c84⟩=>[(4,.slice A83 l82.length c84),(5,.int .i64 i85)]) (fun ⟨l82,i85,A83,c84⟩=>⟨w0,M,H,(19,⟨.slice A83 l82.length c84,9,1,l82.length,l82.flatMap (fun x : ByteArray=>[Value.string x])⟩)::R,φ⟩) (fun ⟨l82,i85,A83,c84⟩=>m_ref03_row_j1 p0 l82 i85 = some r∧l82.length ≤ c84) ?_ (fun ⟨l82,i85,A83,c84⟩ u ⟨hm,hc84⟩=>?_)
 ·
  refine c_block ?_
  replace hm:=bnd hm
  obtain ⟨out2,hl2,hr2⟩:=hm
  obtain ⟨n120',hl2⟩:=loop_lp hl2
  refine c_loopU (ι:=Nat×(List ByteArray)×Int×Option Addr×Nat) [0,4,5] (fun ⟨n120,l101,i104,A102,c103⟩=>[(4,.slice A102 l101.length c103),(5,.int .i64 i104)]) (fun ⟨n120,l101,i104,A102,c103⟩=>⟨w0,M,H,(19,⟨.slice A102 l101.length c103,9,1,l101.length,l101.flatMap (fun x : ByteArray=>[Value.string x])⟩)::R,φ⟩) (fun ⟨n120,l101,i104,A102,c103⟩=>Lp (fun s=>m_ref03_row_s2 p0 s.1 s.2) n120 (l101,i104) out2∧l101.length ≤ c103) (fun ⟨n120,l101,i104,A102,c103⟩=>n120) (n120',([] : List ByteArray),0,none,0) ⟨hl2,(Nat.le_refl 0)⟩ ⟨rfl,rfl,rfl,trivial⟩ (fun W h=>h.phi (fun W hφ=>hφ)) (fun ⟨n120,l101,i104,A102,c103⟩ u ⟨hlp,hc103⟩=>?_)
  obtain ⟨o2,hm,hnx2⟩:=lp_step hlp
  clear hlp
  replace hm : m_ref03_row_s2 p0 l101 i104 = some o2:=hm
  unfold m_ref03_row_s2 at hm
  refine c_flat [(0,.string p0),(4,.slice A102 l101.length c103),(5,.int .i64 i104)] ⟨rfl,rfl,rfl,trivial⟩ (fun u=>?_)
  refine c_sta ⟨w0,M,H,(19,⟨.slice A102 l101.length c103,9,1,l101.length,l101.flatMap (fun x : ByteArray=>[Value.string x])⟩)::R,φ⟩ (fun _ h=>h)<|c_seq<|c_seq<|c_region<|g_v rfl r_move<|g_v rfl r_move<|g_v rfl (r_len Tryz.underlying9 rfl)<|g_v rfl (r_lss rfl rfl)<|g_v rfl r_move ?_
  refine g_if rfl rfl rfl rfl rfl (fun h121=>?_) (fun h121=>?_)
  ·
   replace hm:=ite_t hm (of_decide_eq_true h121)
   refine g_v rfl r_move<|g_do rfl rfl rfl rfl rfl h121<|g_v rfl r_move<|g_do rfl rfl rfl rfl rfl h121 ?_
   replace hm:=bnd hm
   obtain ⟨b122,hb122,hm⟩:=hm
   refine g_v rfl (r_sat Tryz.underlying9 rfl rfl hb122)<|g_do rfl rfl rfl rfl rfl h121<|g_v rfl (r_neq rfl rfl)<|g_v rfl (r_pick1 rfl h121)<|g_nil<|d_then ?_
   refine c_flat [(0,.string p0),(4,.slice A102 l101.length c103),(5,.int .i64 i104),(16,.bool (decide (b122 ≠ 0)))] ⟨rfl,rfl,rfl,rfl,trivial⟩ (fun u=>?_)
   refine c_cond rfl (fun h123=>?_) (fun h123=>?_)
   ·
    replace hm:=ite_t hm (of_decide_eq_true h123)
    refine c_skip<|d_then<|c_block<|c_seq<|c_region<|g_v rfl r_move<|g_v rfl r_move ?_
    replace hm:=bnd hm
    obtain ⟨b124,hb124,hm⟩:=hm
    refine g_v rfl (r_sat Tryz.underlying9 rfl rfl hb124)<|g_v rfl (r_conv Tryz.underlying5 Tryz.underlying3 rfl rfl)<|g_v rfl r_assign<|g_nil<|d_then<|c_seq<|c_seq<|c_region<|g_v rfl r_move<|g_v rfl (r_gtr rfl rfl) ?_
    refine g_v rfl r_move ?_
    refine g_if rfl rfl rfl rfl rfl (fun h125=>?_) (fun h125=>?_)
    ·
     replace hm:=ite_f hm (of_decide_eq_false h125)
     refine g_v rfl r_move<|g_do rfl rfl rfl rfl rfl h125<|g_v rfl (r_add rfl rfl rfl)<|g_do rfl rfl rfl rfl rfl h125<|g_v rfl r_move<|g_do rfl rfl rfl rfl rfl h125<|g_v rfl (r_add rfl rfl rfl)<|g_do rfl rfl rfl rfl rfl h125<|g_v rfl r_move<|g_do rfl rfl rfl rfl rfl h125 ?_
     refine g_v rfl (r_len Tryz.underlying9 rfl)<|g_do rfl rfl rfl rfl rfl h125<|g_v rfl (r_gtr rfl rfl)<|g_v rfl (r_pick0 rfl h125)<|g_nil<|d_then ?_
     refine c_flat [(0,.string p0),(4,.slice A102 l101.length c103),(5,.int .i64 i104),(6,.int .i64 (w64 b124)),(31,.bool (decide ((p0.size : Int) < w64 ((w64 (i104 + 1)) + (w64 b124)))))] ⟨rfl,rfl,rfl,rfl,rfl,trivial⟩ (fun u=>?_)
     refine c_cond rfl (fun h126=>?_) (fun h126=>?_)
     ·
      replace hm:=ite_t hm (of_decide_eq_true h126)
      refine c_seq<|c_region<|g_v rfl r_assign<|g_v rfl r_assign<|g_nil<|d_then<|c_ret<|d_ret_then<|d_ret_block<|d_ret_then ?_
      refine d_ret_block<|d_ret_then<|d_ret_then ?_
      replace hm:=nx_out (C:=(fun e : ((List ByteArray)×Int) ⊕ ((List ByteArray)×Bool)=>Sum.elim (fun e=>m_ref03_row_j1 p0 e.1 e.2) (fun x=>some x) e = some r)) hm hnx2 hr2
      replace hm : some (([] : List ByteArray),false) = some r:=hm
      cases hm
      refine d_sta _ (fun W h=>nilR h 28 9 1)<|d_sta _ (fun W h=>ok_frontR (t:=28) (t':=2000) h rfl) ?_
      exact d_retC (none,0) Tryz.results120 (res_tmp (res_tmp (res_nil rfl))) (Nat.le_refl 0) (fun W h=>(h.dropR (t:=19) rfl).phi (fun W hφ=>hφ)) (.inr rfl)
     replace hm:=ite_f hm (of_decide_eq_false h126)
     refine c_skip<|d_then<|c_seq<|c_region ?_
     iterate 3 refine g_v rfl r_move ?_
     refine g_v rfl (r_add rfl rfl rfl)<|g_v rfl r_move<|g_v rfl (r_add rfl rfl rfl)<|g_v rfl r_move<|g_v rfl (r_add rfl rfl rfl) ?_
     replace hm:=bnd hm
     obtain ⟨s127,hs127,hm⟩:=hm
     refine g_v rfl (r_scutMid Tryz.underlying9 rfl rfl rfl hs127) ?_
     refine g_e rfl (e_lit (tag:=100410) (l:=[s127]) (enc:=(fun x : ByteArray=>[Value.string x])) (sz:=1) rfl Tryz.underlying26 (lit9_6 _) rfl rfl (fun _=>rfl)) (fun g128 _=>?_)
     replace hm:=bnd hm
     obtain ⟨l129,hl129,hm⟩:=hm
     refine g_e rfl (e_appR (enc:=(fun x : ByteArray=>[Value.string x])) (l:=l101) (l1:=[s127]) (l2:=l129) (tag:=19) Tryz.underlying26 inf9_7 rfl (by decide) (by decide) (fun _=>rfl) (fun _=>rfl) rfl hc103 rfl rfl (fun W hS=>rowCl (tag:=100410) rfl W hS) hl129) (fun ⟨A130,c131⟩ hc131=>?_)
     refine g_v rfl r_assign<|g_nil<|d_then ?_
     refine c_flat [(0,.string p0),(4,.slice A130 l129.length c131),(5,.int .i64 i104),(6,.int .i64 (w64 b124))] ⟨rfl,rfl,rfl,rfl,trivial⟩ (fun u=>?_)
     refine c_sta ⟨w0,M,H,(100410,⟨.slice (some ⟨g128,0,none⟩) [s127].length 1,9,1,[s127].length,[s127].flatMap (fun x : ByteArray=>[Value.string x])⟩)::(19,⟨.slice A130 l129.length c131,9,1,l129.length,l129.flatMap (fun x : ByteArray=>[Value.string x])⟩)::R,φ⟩ (fun _ h=>h)<|c_region<|g_v rfl r_move<|g_v rfl (r_add rfl rfl rfl)<|g_v rfl r_move<|g_v rfl (r_add rfl rfl rfl)<|g_v rfl r_assign<|g_nil<|d_normal_block ?_
     obtain ⟨n132,hn132,hlp⟩:=nx_inl hm hnx2
     exact d_round (n132,l129,w64 ((w64 (i104 + 1)) + (w64 b124)),A130,c131) ⟨hlp,hc131⟩ hn132 ⟨rfl,rfl,rfl,trivial⟩ (fun W h=>(h.dropR (t:=100410) rfl).phi (fun W hφ=>hφ))
    replace hm:=ite_t hm (of_decide_eq_true h125)
    iterate 6 refine g_no rfl rfl rfl rfl rfl h125 ?_
    refine g_v rfl (r_pick1 rfl h125)<|g_nil<|d_then ?_
    refine c_flat [(0,.string p0),(4,.slice A102 l101.length c103),(5,.int .i64 i104),(6,.int .i64 (w64 b124)),(31,.bool true)] ⟨rfl,rfl,rfl,rfl,rfl,trivial⟩ (fun u=>?_)
    refine c_cond1 rfl rfl<|c_seq<|c_region<|g_v rfl r_assign<|g_v rfl r_assign<|g_nil<|d_then<|c_ret<|d_ret_then<|d_ret_block ?_
    refine d_ret_then<|d_ret_block<|d_ret_then<|d_ret_then ?_
    replace hm:=nx_out (C:=(fun e : ((List ByteArray)×Int) ⊕ ((List ByteArray)×Bool)=>Sum.elim (fun e=>m_ref03_row_j1 p0 e.1 e.2) (fun x=>some x) e = some r)) hm hnx2 hr2
    replace hm : some (([] : List ByteArray),false) = some r:=hm
    cases hm
    refine d_sta _ (fun W h=>nilR h 29 9 1)<|d_sta _ (fun W h=>ok_frontR (t:=29) (t':=2000) h rfl) ?_
    exact d_retC (none,0) Tryz.results120 (res_tmp (res_tmp (res_nil rfl))) (Nat.le_refl 0) (fun W h=>(h.dropR (t:=19) rfl).phi (fun W hφ=>hφ)) (.inr rfl)
   replace hm:=ite_f hm (of_decide_eq_false h123)
   refine c_exit<|d_exit_then<|d_exit_then<|d_exit_block ?_
   replace hm:=nx_out (C:=(fun e : ((List ByteArray)×Int) ⊕ ((List ByteArray)×Bool)=>Sum.elim (fun e=>m_ref03_row_j1 p0 e.1 e.2) (fun x=>some x) e = some r)) hm hnx2 hr2
   exact d_round (l101,i104,A102,c103) ⟨hm,hc103⟩ Nat.zero_lt_one ⟨rfl,rfl,rfl,trivial⟩ (fun W h=>h.phi (fun W hφ=>hφ))
  replace hm:=ite_f hm (of_decide_eq_false h121)
  iterate 3 refine g_no rfl rfl rfl rfl rfl h121 ?_
  refine g_v rfl (r_pick0 rfl h121)<|g_nil<|d_then<|c_cond0 rfl rfl<|c_exit<|d_exit_then<|d_exit_then<|d_exit_block ?_
  replace hm:=nx_out (C:=(fun e : ((List ByteArray)×Int) ⊕ ((List ByteArray)×Bool)=>Sum.elim (fun e=>m_ref03_row_j1 p0 e.1 e.2) (fun x=>some x) e = some r)) hm hnx2 hr2
  exact d_round (l101,i104,A102,c103) ⟨hm,hc103⟩ Nat.zero_lt_one ⟨rfl,rfl,rfl,trivial⟩ (fun W h=>h.phi (fun W hφ=>hφ))
 unfold m_ref03_row_j1 at hm
 refine d_flat [(0,.string p0),(4,.slice A83 l82.length c84),(5,.int .i64 i85)] ⟨rfl,rfl,rfl,trivial⟩ (fun u=>?_)
 refine d_sta ⟨w0,M,H,(19,⟨.slice A83 l82.length c84,9,1,l82.length,l82.flatMap (fun x : ByteArray=>[Value.string x])⟩)::R,φ⟩ (fun _ h=>h)<|d_then<|c_seq<|c_region ?_
 iterate 3 refine g_v rfl r_move ?_
 refine g_v rfl (r_len Tryz.underlying9 rfl)<|g_v rfl (r_sub rfl rfl rfl)<|g_v rfl (r_eql rfl rfl)<|g_v rfl r_assign<|g_v rfl r_assign<|g_nil<|d_then<|c_ret ?_
 cases hm
 refine d_sta _ (fun W h=>ok_frontR (t:=19) (t':=2000) h rfl) ?_
 exact d_retC (A83,c84) Tryz.results120 (res_tmp (res_tmp (res_nil rfl))) hc84 (fun W h=>h.phi (fun W hφ=>hφ)) (.inr rfl)
noncomputable def m_ref03_Check (p0 : ByteArray) : Option Int:=
  (m_ref03_row p0).bind fun (z7 : (List ByteArray)×Bool)=>
  if z7.2 = true then
    if 255 < (p0.size : Int) then
      some 11
    else
      some 0
  else
    some 10
theorem c_ref03_Check {w0 : World} {M : Nat→Prop} {H : List (Nat×Nat×Obj)} {R : List (Nat×Row)} {φ : World→Prop} (p0 : ByteArray) (r : Int) (hm : m_ref03_Check p0 = some r) :
    Cn Tryz.prog 102 #[.string p0] ⟨w0,M,H,R,φ⟩ (fun x : Unit=>.int .i64 r) (fun x=>True) (fun x=>⟨w0,M,H,R,φ⟩):=by
 unfold m_ref03_Check at hm
 refine cn_intro (fn:=Tryz.f102) (N:=15) Tryz.func102 rfl Tryz.ntmps102 rfl<|c_seq<|c_region<|g_v rfl r_assign<|g_nil<|d_then<|c_seq<|c_region<|g_v rfl r_move ?_
 replace hm:=bnd hm
 obtain ⟨⟨x1,x2⟩,hx3,hm⟩:=hm
 refine g_cn ⟨w0,M,_,_,φ⟩ (fun _ h=>h) Tryz.call120 rfl rfl (c_ref03_row p0 _ hx3) (fun ⟨A4,c5⟩ hc5=>?_)
 refine g_sta _ (fun W h=>(ok_frontR (t:=2000) (t':=100070) h rfl))<|g_v rfl r_move<|g_v rfl (r_extract rfl rfl)<|g_v rfl (r_extract rfl rfl)<|g_v rfl r_assign<|g_v rfl r_assign<|g_nil<|d_then<|c_seq<|c_seq ?_
 refine c_region<|g_v rfl r_move<|g_v rfl (r_not rfl)<|g_nil<|d_then ?_
 refine c_flat [(0,.string p0),(11,.bool (!x2))] ⟨rfl,rfl,trivial⟩ (fun u=>?_)
 refine c_sta ⟨w0,M,H,(100070,⟨.slice A4 x1.length c5,9,1,x1.length,x1.flatMap (fun x : ByteArray=>[Value.string x])⟩)::R,φ⟩ (fun _ h=>h) ?_
 refine c_cond rfl (fun h8=>?_) (fun h8=>?_)
 ·
  have h8' : x2 = false:=by revert h8; cases x2 <;> simp
  replace hm:=ite_f hm (bool_nt h8')
  refine c_seq<|c_region<|g_v rfl r_assign<|g_nil<|d_then<|c_ret<|d_ret_then ?_
  cases hm
  exact d_retC () Tryz.results102 (res_tmp (res_nil rfl)) trivial (fun W h=>ok_pre (H1:=[]) (R1:=[_]) h (fun W hφ=>hφ)) (.inr rfl)
 have h8' : x2 = true:=by revert h8; cases x2 <;> simp
 replace hm:=ite_t hm h8'
 refine c_skip<|d_then<|c_seq<|c_seq<|c_region<|g_v rfl r_move<|g_v rfl (r_len Tryz.underlying9 rfl)<|g_v rfl (r_gtr rfl rfl)<|g_nil<|d_then ?_
 refine c_cond rfl (fun h9=>?_) (fun h9=>?_)
 ·
  replace hm:=ite_t hm (of_decide_eq_true h9)
  refine c_seq<|c_region<|g_v rfl r_assign<|g_nil<|d_then<|c_ret<|d_ret_then ?_
  cases hm
  exact d_retC () Tryz.results102 (res_tmp (res_nil rfl)) trivial (fun W h=>ok_pre (H1:=[]) (R1:=[_]) h (fun W hφ=>hφ)) (.inr rfl)
 replace hm:=ite_f hm (of_decide_eq_false h9)
 refine c_skip<|d_then<|c_seq<|c_region<|g_v rfl r_assign<|g_nil<|d_then<|c_ret ?_
 cases hm
 exact d_retC () Tryz.results102 (res_tmp (res_nil rfl)) trivial (fun W h=>ok_pre (H1:=[]) (R1:=[_]) h (fun W hφ=>hφ)) (.inr rfl)
noncomputable def m_ref13_name (p0 : ByteArray) : Option Bool:=
  (m_ref03_Check p0).bind fun x1=>
  some (decide (x1 = 0))
theorem c_ref13_name {w0 : World} {M : Nat→Prop} {H : List (Nat×Nat×Obj)} {R : List (Nat×Row)} {φ : World→Prop} (p0 : ByteArray) (r : Bool) (hm : m_ref13_name p0 = some r) :
    Cn Tryz.prog 80 #[.string p0] ⟨w0,M,H,R,φ⟩ (fun x : Unit=>.bool r) (fun x=>True) (fun x=>⟨w0,M,H,R,φ⟩):=by
 unfold m_ref13_name at hm
 refine cn_intro (fn:=Tryz.f80) (N:=6) Tryz.func80 rfl Tryz.ntmps80 rfl<|c_seq<|c_region<|g_v rfl r_assign<|g_nil<|d_then<|c_seq<|c_region<|g_v rfl r_move ?_
 replace hm:=bnd hm
 obtain ⟨x1,hx2,hm⟩:=hm
 refine g_cn ⟨w0,M,_,_,φ⟩ (fun _ h=>h) Tryz.call102 rfl rfl (c_ref03_Check p0 _ hx2) (fun _ _=>?_)
 refine g_v rfl (r_eql rfl rfl)<|g_v rfl r_assign<|g_nil<|d_then<|c_ret ?_
 cases hm
 exact d_retC () Tryz.results80 (res_tmp (res_nil rfl)) trivial (fun W h=>ok_pre (H1:=[]) (R1:=[]) h (fun W hφ=>hφ)) (.inr rfl)
noncomputable def m_ref13_end_j1 (p0 : ByteArray) (i13 : Int) : Option Int:=
  if (p0.size : Int) ≤ i13 then
    some (-1)
  else
    (scutHi p0 (w64 (i13 + 1))).bind fun s15=>
    (m_ref13_name s15).bind fun x16=>
    if x16 = true then
      some (w64 (i13 + 1))
    else
      some (-1)
noncomputable def m_ref13_end_s2 (p0 : ByteArray) (i24 : Int) : Option (Int ⊕ Int):=
  if i24 < (p0.size : Int) then
    (sat_ p0 i24).bind fun b32=>
    if b32 ≠ 0 then
      (sat_ p0 i24).bind fun b34=>
      some (.inl (w64 ((w64 (i24 + 1)) + (w64 b34))))
    else
      some (.inr i24)
  else
    some (.inr i24)
noncomputable def m_ref13_end (p0 : ByteArray) : Option Int:=
  (loop (fun s=>m_ref13_end_s2 p0 s) 0).bind fun e=>m_ref13_end_j1 p0 e
theorem c_ref13_end {w0 : World} {M : Nat→Prop} {H : List (Nat×Nat×Obj)} {R : List (Nat×Row)} {φ : World→Prop} (p0 : ByteArray) (r : Int) (hm : m_ref13_end p0 = some r) :
    Cn Tryz.prog 101 #[.string p0] ⟨w0,M,H,R,φ⟩ (fun x : Unit=>.int .i64 r) (fun x=>True) (fun x=>⟨w0,M,H,R,φ⟩):=by
 unfold m_ref13_end at hm
 refine cn_intro (fn:=Tryz.f101) (N:=35) Tryz.func101 rfl Tryz.ntmps101 rfl<|c_seq<|c_region<|g_v rfl r_assign<|g_nil<|d_then<|c_seq<|c_region<|g_v rfl r_assign<|g_nil ?_
 refine d_then<|c_seq ?_
 refine c_cut (ι:=Int) [0,3] (fun i13=>[(3,.int .i64 i13)]) (fun i13=>⟨w0,M,H,R,φ⟩) (fun i13=>m_ref13_end_j1 p0 i13 = some r) ?_ (fun i13 u hm=>?_)
 ·
  refine c_block ?_
  replace hm:=bnd hm
  obtain ⟨out2,hl2,hr2⟩:=hm
  obtain ⟨n30',hl2⟩:=loop_lp hl2
  refine c_loopU (ι:=Nat×Int) [0,3] (fun ⟨n30,i24⟩=>[(3,.int .i64 i24)]) (fun ⟨n30,i24⟩=>⟨w0,M,H,R,φ⟩) (fun ⟨n30,i24⟩=>Lp (fun s=>m_ref13_end_s2 p0 s) n30 i24 out2) (fun ⟨n30,i24⟩=>n30) (n30',0) hl2 ⟨rfl,rfl,trivial⟩ (fun W h=>h.phi (fun W hφ=>hφ)) (fun ⟨n30,i24⟩ u hlp=>?_)
  obtain ⟨o2,hm,hnx2⟩:=lp_step hlp
  clear hlp
  replace hm : m_ref13_end_s2 p0 i24 = some o2:=hm
  unfold m_ref13_end_s2 at hm
  refine c_flat [(0,.string p0),(3,.int .i64 i24)] ⟨rfl,rfl,trivial⟩ (fun u=>?_)
  refine c_sta ⟨w0,M,H,R,φ⟩ (fun _ h=>h)<|c_seq<|c_seq<|c_region<|g_v rfl r_move<|g_v rfl r_move<|g_v rfl (r_len Tryz.underlying9 rfl)<|g_v rfl (r_lss rfl rfl)<|g_v rfl r_move ?_
  refine g_if rfl rfl rfl rfl rfl (fun h31=>?_) (fun h31=>?_)
  ·
   replace hm:=ite_t hm (of_decide_eq_true h31)
   refine g_v rfl r_move<|g_do rfl rfl rfl rfl rfl h31<|g_v rfl r_move<|g_do rfl rfl rfl rfl rfl h31 ?_
   replace hm:=bnd hm
   obtain ⟨b32,hb32,hm⟩:=hm
   refine g_v rfl (r_sat Tryz.underlying9 rfl rfl hb32)<|g_do rfl rfl rfl rfl rfl h31<|g_v rfl (r_neq rfl rfl)<|g_v rfl (r_pick1 rfl h31)<|g_nil<|d_then ?_
   refine c_flat [(0,.string p0),(3,.int .i64 i24),(14,.bool (decide (b32 ≠ 0)))] ⟨rfl,rfl,rfl,trivial⟩ (fun u=>?_)
   refine c_cond rfl (fun h33=>?_) (fun h33=>?_)
   ·
    replace hm:=ite_t hm (of_decide_eq_true h33)
    refine c_skip<|d_then<|c_block<|c_region<|g_v rfl r_move<|g_v rfl (r_add rfl rfl rfl)<|g_v rfl r_move<|g_v rfl r_move ?_
    replace hm:=bnd hm
    obtain ⟨b34,hb34,hm⟩:=hm
    refine g_v rfl (r_sat Tryz.underlying9 rfl rfl hb34)<|g_v rfl (r_conv Tryz.underlying5 Tryz.underlying3 rfl rfl)<|g_v rfl (r_add rfl rfl rfl)<|g_v rfl r_assign<|g_nil<|d_normal_block ?_
    obtain ⟨n35,hn35,hlp⟩:=nx_inl hm hnx2
    exact d_round (n35,w64 ((w64 (i24 + 1)) + (w64 b34))) hlp hn35 ⟨rfl,rfl,trivial⟩ (fun W h=>h.phi (fun W hφ=>hφ))
   replace hm:=ite_f hm (of_decide_eq_false h33)
   refine c_exit<|d_exit_then<|d_exit_then<|d_exit_block ?_
   replace hm:=nx_out (C:=(fun e : Int=>m_ref13_end_j1 p0 e = some r)) hm hnx2 hr2
   exact d_round i24 hm Nat.zero_lt_one ⟨rfl,rfl,trivial⟩ (fun W h=>h.phi (fun W hφ=>hφ))
  replace hm:=ite_f hm (of_decide_eq_false h31)
  iterate 3 refine g_no rfl rfl rfl rfl rfl h31 ?_
  refine g_v rfl (r_pick0 rfl h31)<|g_nil<|d_then<|c_cond0 rfl rfl<|c_exit<|d_exit_then<|d_exit_then<|d_exit_block ?_
  replace hm:=nx_out (C:=(fun e : Int=>m_ref13_end_j1 p0 e = some r)) hm hnx2 hr2
  exact d_round i24 hm Nat.zero_lt_one ⟨rfl,rfl,trivial⟩ (fun W h=>h.phi (fun W hφ=>hφ))
 unfold m_ref13_end_j1 at hm
 refine d_flat [(0,.string p0),(3,.int .i64 i13)] ⟨rfl,rfl,trivial⟩ (fun u=>?_)
 refine d_sta ⟨w0,M,H,R,φ⟩ (fun _ h=>h)<|d_then<|c_seq<|c_seq<|c_region<|g_v rfl r_move<|g_v rfl r_move<|g_v rfl (r_len Tryz.underlying9 rfl)<|g_v rfl (r_geq rfl rfl)<|g_nil ?_
 refine d_then ?_
 refine c_cond rfl (fun h14=>?_) (fun h14=>?_)
 ·
  replace hm:=ite_t hm (of_decide_eq_true h14)
  refine c_seq<|c_region<|g_v rfl r_assign<|g_nil<|d_then<|c_ret<|d_ret_then ?_
  cases hm
  exact d_retC () Tryz.results101 (res_tmp (res_nil rfl)) trivial (fun W h=>ok_pre (H1:=[]) (R1:=[]) h (fun W hφ=>hφ)) (.inr rfl)
 replace hm:=ite_f hm (of_decide_eq_false h14)
 refine c_skip<|d_then<|c_seq<|c_region<|g_v rfl r_move<|g_v rfl r_move<|g_v rfl (r_add rfl rfl rfl) ?_
 replace hm:=bnd hm
 obtain ⟨s15,hs15,hm⟩:=hm
 refine g_v rfl (r_scutHi Tryz.underlying9 rfl rfl hs15) ?_
 replace hm:=bnd hm
 obtain ⟨x16,hx17,hm⟩:=hm
 refine g_cn ⟨w0,M,_,_,φ⟩ (fun _ h=>h) Tryz.call80 rfl rfl (c_ref13_name s15 _ hx17) (fun _ _=>?_)
 refine g_v rfl r_assign<|g_nil<|d_then ?_
 refine c_flat [(3,.int .i64 i13),(4,.bool x16)] ⟨rfl,rfl,trivial⟩ (fun u=>?_)
 refine c_seq<|c_seq<|c_region<|g_v rfl r_move<|g_v rfl (r_not rfl)<|g_nil<|d_then ?_
 refine c_cond rfl (fun h18=>?_) (fun h18=>?_)
 ·
  have h18' : x16 = false:=by revert h18; cases x16 <;> simp
  replace hm:=ite_f hm (bool_nt h18')
  refine c_seq<|c_region<|g_v rfl r_assign<|g_nil<|d_then<|c_ret<|d_ret_then ?_
  cases hm
  exact d_retC () Tryz.results101 (res_tmp (res_nil rfl)) trivial (fun W h=>ok_pre (H1:=[]) (R1:=[]) h (fun W hφ=>hφ)) (.inr rfl)
 have h18' : x16 = true:=by revert h18; cases x16 <;> simp
 replace hm:=ite_t hm h18'
 refine c_skip<|d_then<|c_seq<|c_region<|g_v rfl r_move<|g_v rfl (r_add rfl rfl rfl)<|g_v rfl r_assign<|g_nil<|d_then<|c_ret ?_
 cases hm
 exact d_retC () Tryz.results101 (res_tmp (res_nil rfl)) trivial (fun W h=>ok_pre (H1:=[]) (R1:=[]) h (fun W hφ=>hφ)) (.inr rfl)
noncomputable def m_ref13_reader_name (o0 : Gref13_reader) : Option (ByteArray×Gref13_reader):=
  (m_ref13_end o0.fs).bind fun x1=>
  if x1 < 0 then
    some ((⟨#[]⟩ : ByteArray),(⟨o0.fs,true⟩ : Gref13_reader))
  else
    (m_ref13_reader_take x1 o0).bind fun (z7 : ByteArray×Gref13_reader)=>
    some (z7.1,z7.2)
theorem c_ref13_reader_name {w0 : World} {M : Nat→Prop} {H : List (Nat×Nat×Obj)} {R : List (Nat×Row)} {φ : World→Prop} (go0 : Nat) (o0 : Gref13_reader) (r : ByteArray×Gref13_reader) (hm : m_ref13_reader_name o0 = some r) :
    Cn Tryz.prog 78 #[.pointer (some ⟨go0,0,none⟩)] ⟨w0,M,(1000,go0,.cells #[.string o0.fs,.bool o0.fbad] 105 (0,0))::H,R,φ⟩ (fun x : Unit=>.string r.1) (fun x=>True) (fun x=>⟨w0,M,(1000,go0,.cells #[.string r.2.fs,.bool r.2.fbad] 105 (0,0))::H,R,φ⟩):=by
 unfold m_ref13_reader_name at hm
 refine cn_intro (fn:=Tryz.f78) (N:=17) Tryz.func78 rfl Tryz.ntmps78 rfl<|c_seq<|c_region<|g_v rfl r_assign<|g_nil<|d_then<|c_seq<|c_region<|g_v rfl r_move<|g_v rfl (r_nilck rfl) ?_
 refine g_v rfl (r_field (n:=0) Tryz.underlying105 rfl Tryz.sizeOf9 rfl rfl)<|g_v rfl (r_load (tag:=1000) rfl rfl rfl Tryz.isAgg9) ?_
 replace hm:=bnd hm
 obtain ⟨x1,hx2,hm⟩:=hm
 refine g_cn ⟨w0,M,_,_,φ⟩ (fun _ h=>h) Tryz.call101 rfl rfl (c_ref13_end o0.fs _ hx2) (fun _ _=>?_)
 refine g_v rfl r_assign<|g_nil<|d_then<|c_seq<|c_seq<|c_region<|g_v rfl r_move<|g_v rfl (r_lss rfl rfl)<|g_nil<|d_then ?_
 refine c_flat [(0,.pointer (some ⟨go0,0,none⟩)),(3,.int .i64 x1),(10,.bool (decide (x1 < 0)))] ⟨rfl,rfl,rfl,trivial⟩ (fun u=>?_)
 refine c_sta ⟨w0,M,(1000,go0,.cells #[.string o0.fs,.bool o0.fbad] 105 (0,0))::H,R,φ⟩ (fun _ h=>h) ?_
 refine c_cond rfl (fun h3=>?_) (fun h3=>?_)
 ·
  replace hm:=ite_t hm (of_decide_eq_true h3)
  refine c_seq<|c_region<|g_v rfl r_move<|g_v rfl (r_nilck rfl)<|g_v rfl (r_field (n:=1) Tryz.underlying105 rfl Tryz.sizeOf4 rfl rfl)<|g_storeL (tag:=1000) rfl rfl rfl rfl Tryz.sizeOf4 rfl rfl<|g_nil<|d_then<|c_seq<|c_region ?_
  refine g_v rfl r_assign<|g_nil<|d_then<|c_ret<|d_ret_then ?_
  cases hm
  exact d_retC () Tryz.results78 (res_tmp (res_nil rfl)) trivial (fun W h=>h.phi (fun W hφ=>hφ)) (.inr rfl)
 replace hm:=ite_f hm (of_decide_eq_false h3)
 refine c_skip<|d_then<|c_seq<|c_region<|g_v rfl r_move<|g_v rfl r_move ?_
 replace hm:=bnd hm
 obtain ⟨⟨x4,x5⟩,hx6,hm⟩:=hm
 refine g_cn ⟨w0,M,(1000,go0,.cells #[.string o0.fs,.bool o0.fbad] 105 (0,0))::H,R,φ⟩ (fun W h=>(ok_front (t:=1000) (t':=1000) h rfl)) Tryz.call77 rfl rfl (c_ref13_reader_take x1 go0 o0 _ hx6) (fun _ _=>?_)
 refine g_sta _ (fun W h=>(ok_front (t:=1000) (t':=1000) h rfl))<|g_v rfl r_assign<|g_nil<|d_then<|c_ret ?_
 cases hm
 exact d_retC () Tryz.results78 (res_tmp (res_nil rfl)) trivial (fun W h=>h.phi (fun W hφ=>hφ)) (.inr rfl)
theorem bld55_26 (z0 : ByteArray) : ∀ W,(Instr.build 55 #[(0,.string z0)]).run Tryz.prog W = .ok (.agg #[.string z0,.string (⟨#[]⟩ : ByteArray)]) W:=fun _=>by kernel_rfl
theorem bld48_27 (z0 : Int) : ∀ W,(Instr.build 48 #[(0,.int .i64 z0)]).run Tryz.prog W = .ok (.agg #[.int .i64 z0,.string (⟨#[]⟩ : ByteArray)]) W:=fun _=>by kernel_rfl
noncomputable def m_ref13_node (p0 : Int) : Option Bool:=
  if 0 ≤ p0 then
    some (decide (p0 ≤ 63))
  else
    some false
theorem c_ref13_node {w0 : World} {M : Nat→Prop} {H : List (Nat×Nat×Obj)} {R : List (Nat×Row)} {φ : World→Prop} (p0 : Int) (r : Bool) (hm : m_ref13_node p0 = some r) :
    Cn Tryz.prog 79 #[.int .i64 p0] ⟨w0,M,H,R,φ⟩ (fun x : Unit=>.bool r) (fun x=>True) (fun x=>⟨w0,M,H,R,φ⟩):=by
 unfold m_ref13_node at hm
 refine cn_intro (fn:=Tryz.f79) (N:=9) Tryz.func79 rfl Tryz.ntmps79 rfl<|c_seq<|c_region<|g_v rfl r_assign<|g_nil<|d_then<|c_seq<|c_region<|g_v rfl r_move<|g_v rfl (r_geq rfl rfl) ?_
 refine g_v rfl r_move ?_
 refine g_if rfl rfl rfl rfl rfl (fun h1=>?_) (fun h1=>?_)
 ·
  replace hm:=ite_t hm (of_decide_eq_true h1)
  refine g_v rfl r_move<|g_do rfl rfl rfl rfl rfl h1<|g_v rfl (r_leq rfl rfl)<|g_v rfl (r_pick1 rfl h1)<|g_v rfl r_assign<|g_nil<|d_then<|c_ret ?_
  cases hm
  exact d_retC () Tryz.results79 (res_tmp (res_nil rfl)) trivial (fun W h=>ok_pre (H1:=[]) (R1:=[]) h (fun W hφ=>hφ)) (.inr rfl)
 replace hm:=ite_f hm (of_decide_eq_false h1)
 refine g_no rfl rfl rfl rfl rfl h1<|g_v rfl (r_pick0 rfl h1)<|g_v rfl r_assign<|g_nil<|d_then<|c_ret ?_
 cases hm
 exact d_retC () Tryz.results79 (res_tmp (res_nil rfl)) trivial (fun W h=>ok_pre (H1:=[]) (R1:=[]) h (fun W hφ=>hφ)) (.inr rfl)
noncomputable def m_ref03_Lower_j1  (l55 : List Int) : Option ByteArray:=
  some (strOfNums l55)
noncomputable def m_ref03_Lower_s2 (p0 : ByteArray) (l78 : List Int) (i79 : Int) : Option (((List Int)×Int) ⊕ (List Int)):=
  if i79 < (((bytesI p0).length) : Int) then
    (at_ l78 i79).bind fun x104=>
    if 65 ≤ x104 then
      (at_ l78 i79).bind fun x109=>
      if x109 ≤ 90 then
        (at_ l78 i79).bind fun x114=>
        (at_ l78 i79).bind fun x118=>
        (setAt l78 i79 (IntKind.u8.wrap (x114 + 32))).bind fun l122=>
        some (.inl (l122,w64 (i79 + 1)))
      else
        some (.inl (l78,w64 (i79 + 1)))
    else
      some (.inl (l78,w64 (i79 + 1)))
  else
    some (.inr l78)
noncomputable def m_ref03_Lower (p0 : ByteArray) : Option ByteArray:=
  (loop (fun s=>m_ref03_Lower_s2 p0 s.1 s.2) ((bytesI p0),0)).bind fun e=>m_ref03_Lower_j1 e
theorem c_ref03_Lower {w0 : World} {M : Nat→Prop} {H : List (Nat×Nat×Obj)} {R : List (Nat×Row)} {φ : World→Prop} (p0 : ByteArray) (r : ByteArray) (hm : m_ref03_Lower p0 = some r) :
    Cn Tryz.prog 42 #[.string p0] ⟨w0,M,H,R,φ⟩ (fun x : Unit=>.string r) (fun x=>True) (fun x=>⟨w0,M,H,R,φ⟩):=by
 unfold m_ref03_Lower at hm
 refine cn_intro (fn:=Tryz.f42) (N:=35) Tryz.func42 rfl Tryz.ntmps42 rfl<|c_seq<|c_region<|g_v rfl r_assign<|g_nil<|d_then<|c_seq<|c_region<|g_v rfl r_move ?_
 refine g_e rfl (e_bytesH 100060 Tryz.underlying9 Tryz.underlying70 Tryz.underlying5 rfl) (fun ⟨g5,c6,T7⟩ hc6=>?_)
 refine g_v rfl r_assign<|g_nil<|d_then<|c_seq<|c_seq<|c_region<|g_v rfl r_assign<|g_nil<|d_then ?_
 refine c_cut (ι:=(List Int)) [3] (fun l55=>[(3,.slice (some ⟨g5,0,none⟩) ((bytesI p0).length) c6)]) (fun l55=>⟨w0,M,(100060,g5,rowO l55 T7 5)::H,R,φ⟩) (fun l55=>m_ref03_Lower_j1 l55 = some r∧l55.length = (bytesI p0).length) ?_ (fun l55 u ⟨hm,hl55⟩=>?_)
 ·
  refine c_block ?_
  replace hm:=bnd hm
  obtain ⟨out2,hl2,hr2⟩:=hm
  obtain ⟨n102',hl2⟩:=loop_lp hl2
  refine c_loopU (ι:=Nat×(List Int)×Int) [3,4] (fun ⟨n102,l78,i79⟩=>[(3,.slice (some ⟨g5,0,none⟩) ((bytesI p0).length) c6),(4,.int .i64 i79)]) (fun ⟨n102,l78,i79⟩=>⟨w0,M,(100060,g5,rowO l78 T7 5)::H,R,φ⟩) (fun ⟨n102,l78,i79⟩=>Lp (fun s=>m_ref03_Lower_s2 p0 s.1 s.2) n102 (l78,i79) out2∧l78.length = (bytesI p0).length) (fun ⟨n102,l78,i79⟩=>n102) (n102',(bytesI p0),0) ⟨hl2,rfl⟩ ⟨rfl,rfl,trivial⟩ (fun W h=>h.phi (fun W hφ=>hφ)) (fun ⟨n102,l78,i79⟩ u ⟨hlp,hl78⟩=>?_)
  obtain ⟨o2,hm,hnx2⟩:=lp_step hlp
  clear hlp
  replace hm : m_ref03_Lower_s2 p0 l78 i79 = some o2:=hm
  unfold m_ref03_Lower_s2 at hm
  refine c_flat [(3,.slice (some ⟨g5,0,none⟩) ((bytesI p0).length) c6),(4,.int .i64 i79)] ⟨rfl,rfl,trivial⟩ (fun u=>?_)
  refine c_sta ⟨w0,M,(100060,g5,rowO l78 T7 5)::H,R,φ⟩ (fun _ h=>h)<|c_seq<|c_seq<|c_region<|g_v rfl r_move<|g_v rfl r_move<|g_v rfl (r_lenL Tryz.underlying70 rfl)<|g_v rfl (r_lss rfl rfl)<|g_nil<|d_then ?_
  refine c_cond rfl (fun h103=>?_) (fun h103=>?_)
  ·
   replace hm:=ite_t hm (of_decide_eq_true h103)
   refine c_skip<|d_then<|c_seq<|c_block<|c_seq<|c_region<|g_v rfl r_move<|g_v rfl r_move ?_
   replace hm:=bnd hm
   obtain ⟨x104,hx104,hm⟩:=hm
   refine g_know _ (fun W hS=>cl_at (p:=(Sta.ok ⟨w0,M,(100060,g5,rowO l78 T7 5)::H,R,φ⟩)) (sz:=1) (fun _=>rfl) (by decide) hS (hrowCl (S:=⟨w0,M,(100060,g5,rowO l78 T7 5)::H,R,φ⟩) (tag:=100060) rfl) hx104) ?_
   rintro ⟨ad105,hA107,f106⟩
   refine g_v rfl (r_ixN hl78 Tryz.underlying70 Tryz.sizeOf5 rfl hA107 rfl hx104)<|g_v rfl (r_ld rfl Tryz.isAgg5 (fun W hS=>Cl.head (f106 W hS)))<|g_v rfl (r_geq rfl rfl)<|g_v rfl r_move ?_
   refine g_if rfl rfl rfl rfl rfl (fun h108=>?_) (fun h108=>?_)
   ·
    replace hm:=ite_t hm (of_decide_eq_true h108)
    refine g_v rfl r_move<|g_do rfl rfl rfl rfl rfl h108<|g_v rfl r_move<|g_do rfl rfl rfl rfl rfl h108 ?_
    replace hm:=bnd hm
    obtain ⟨x109,hx109,hm⟩:=hm
    refine g_know _ (fun W hS=>cl_at (p:=(Sta.ok ⟨w0,M,(100060,g5,rowO l78 T7 5)::H,R,φ⟩)) (sz:=1) (fun _=>rfl) (by decide) hS (hrowCl (S:=⟨w0,M,(100060,g5,rowO l78 T7 5)::H,R,φ⟩) (tag:=100060) rfl) hx109) ?_
    rintro ⟨ad110,hA112,f111⟩
    refine g_v rfl (r_ixN hl78 Tryz.underlying70 Tryz.sizeOf5 rfl hA112 rfl hx109)<|g_do rfl rfl rfl rfl rfl h108<|g_v rfl (r_ld rfl Tryz.isAgg5 (fun W hS=>Cl.head (f111 W hS)))<|g_do rfl rfl rfl rfl rfl h108<|g_v rfl (r_leq rfl rfl)<|g_v rfl (r_pick1 rfl h108)<|g_nil<|d_then ?_
    refine c_flat [(3,.slice (some ⟨g5,0,none⟩) ((bytesI p0).length) c6),(4,.int .i64 i79),(24,.bool (decide (x109 ≤ 90)))] ⟨rfl,rfl,rfl,trivial⟩ (fun u=>?_)
    refine c_cond rfl (fun h113=>?_) (fun h113=>?_)
    ·
     replace hm:=ite_t hm (of_decide_eq_true h113)
     refine c_region ?_
     iterate 4 refine g_v rfl r_move ?_
     replace hm:=bnd hm
     obtain ⟨x114,hx114,hm⟩:=hm
     refine g_know _ (fun W hS=>cl_at (p:=(Sta.ok ⟨w0,M,(100060,g5,rowO l78 T7 5)::H,R,φ⟩)) (sz:=1) (fun _=>rfl) (by decide) hS (hrowCl (S:=⟨w0,M,(100060,g5,rowO l78 T7 5)::H,R,φ⟩) (tag:=100060) rfl) hx114) ?_
     rintro ⟨ad115,hA117,f116⟩
     refine g_v rfl (r_ixN hl78 Tryz.underlying70 Tryz.sizeOf5 rfl hA117 rfl hx114)<|g_v rfl (r_ld rfl Tryz.isAgg5 (fun W hS=>Cl.head (f116 W hS)))<|g_v rfl (r_add rfl rfl rfl) ?_
     replace hm:=bnd hm
     obtain ⟨x118,hx118,hm⟩:=hm
     refine g_know _ (fun W hS=>cl_at (p:=(Sta.ok ⟨w0,M,(100060,g5,rowO l78 T7 5)::H,R,φ⟩)) (sz:=1) (fun _=>rfl) (by decide) hS (hrowCl (S:=⟨w0,M,(100060,g5,rowO l78 T7 5)::H,R,φ⟩) (tag:=100060) rfl) hx118) ?_
     rintro ⟨ad119,hA121,f120⟩
     refine g_v rfl (r_ixN hl78 Tryz.underlying70 Tryz.sizeOf5 rfl hA121 rfl hx118) ?_
     replace hm:=bnd hm
     obtain ⟨l122,hl122,hm⟩:=hm
     refine g_stH (tag:=100060) (l:=l78) rfl rfl hA121 rfl hl122 rfl Tryz.sizeOf5<|g_nil<|d_normal_block<|d_then ?_
     refine c_flat [(3,.slice (some ⟨g5,0,none⟩) ((bytesI p0).length) c6),(4,.int .i64 i79)] ⟨rfl,rfl,trivial⟩ (fun u=>?_)
     refine c_sta ⟨w0,M,(100060,g5,rowO l122 T7 5)::H,R,φ⟩ (fun _ h=>h)<|c_region<|g_v rfl r_move<|g_v rfl (r_add rfl rfl rfl)<|g_v rfl r_assign<|g_nil ?_
     obtain ⟨n123,hn123,hlp⟩:=nx_inl hm hnx2
     exact d_round (n123,l122,w64 (i79 + 1)) ⟨hlp,((setAt_lenE hl122).trans hl78)⟩ hn123 ⟨rfl,rfl,trivial⟩ (fun W h=>h.phi (fun W hφ=>hφ))
    replace hm:=ite_f hm (of_decide_eq_false h113)
    refine c_skip<|d_normal_block<|d_then<|c_region<|g_v rfl r_move<|g_v rfl (r_add rfl rfl rfl)<|g_v rfl r_assign<|g_nil ?_
    obtain ⟨n124,hn124,hlp⟩:=nx_inl hm hnx2
    exact d_round (n124,l78,w64 (i79 + 1)) ⟨hlp,hl78⟩ hn124 ⟨rfl,rfl,trivial⟩ (fun W h=>h.phi (fun W hφ=>hφ))
   replace hm:=ite_f hm (of_decide_eq_false h108)
   iterate 4 refine g_no rfl rfl rfl rfl rfl h108 ?_
   refine g_v rfl (r_pick0 rfl h108)<|g_nil<|d_then ?_
   refine c_flat [(3,.slice (some ⟨g5,0,none⟩) ((bytesI p0).length) c6),(4,.int .i64 i79),(24,.bool false)] ⟨rfl,rfl,rfl,trivial⟩ (fun u=>?_)
   refine c_cond0 rfl rfl<|c_skip<|d_normal_block<|d_then<|c_region<|g_v rfl r_move<|g_v rfl (r_add rfl rfl rfl)<|g_v rfl r_assign<|g_nil ?_
   obtain ⟨n125,hn125,hlp⟩:=nx_inl hm hnx2
   exact d_round (n125,l78,w64 (i79 + 1)) ⟨hlp,hl78⟩ hn125 ⟨rfl,rfl,trivial⟩ (fun W h=>h.phi (fun W hφ=>hφ))
  replace hm:=ite_f hm (of_decide_eq_false h103)
  refine c_exit<|d_exit_then<|d_exit_then<|d_exit_block ?_
  replace hm:=nx_out (C:=(fun e : (List Int)=>m_ref03_Lower_j1 e = some r)) hm hnx2 hr2
  exact d_round l78 ⟨hm,hl78⟩ Nat.zero_lt_one ⟨rfl,trivial⟩ (fun W h=>h.phi (fun W hφ=>hφ))
 unfold m_ref03_Lower_j1 at hm
 refine d_flat [(3,.slice (some ⟨g5,0,none⟩) ((bytesI p0).length) c6)] ⟨rfl,trivial⟩ (fun u=>?_)
 refine d_sta ⟨w0,M,(100060,g5,rowO l55 T7 5)::H,R,φ⟩ (fun _ h=>h)<|d_then<|c_seq<|c_region<|g_v rfl r_move<|g_v rfl (r_textN hl55 Tryz.underlying70 Tryz.underlying5 Tryz.underlying9 rfl (hrowCl (tag:=100060) rfl))<|g_v rfl r_assign<|g_nil<|d_then<|c_ret ?_
 cases hm
 exact d_retC () Tryz.results42 (res_tmp (res_nil rfl)) trivial (fun W h=>ok_pre (H1:=[_]) (R1:=[]) h (fun W hφ=>hφ)) (.inr rfl)
noncomputable def m_ref03_Labels (p0 : ByteArray) : Option ((List ByteArray)×Int):=
  (m_ref03_Check p0).bind fun x1=>
  if x1 ≠ 0 then
    some (([] : List ByteArray),x1)
  else
    (m_ref03_row p0).bind fun (z10 : (List ByteArray)×Bool)=>
    some (z10.1,0)
theorem c_ref03_Labels {w0 : World} {M : Nat→Prop} {H : List (Nat×Nat×Obj)} {R : List (Nat×Row)} {φ : World→Prop} (p0 : ByteArray) (r : (List ByteArray)×Int) (hm : m_ref03_Labels p0 = some r) :
    Cn Tryz.prog 119 #[.string p0] ⟨w0,M,H,R,φ⟩ (fun x : Option Addr×Nat=>.tuple #[.slice x.1 r.1.length x.2,.int .i64 r.2]) (fun x=>r.1.length ≤ x.2) (fun x=>⟨w0,M,H,(2000,⟨.slice x.1 r.1.length x.2,9,1,r.1.length,r.1.flatMap (fun x : ByteArray=>[Value.string x])⟩)::R,φ⟩):=by
 unfold m_ref03_Labels at hm
 refine cn_intro (fn:=Tryz.f119) (N:=18) Tryz.func119 rfl Tryz.ntmps119 rfl<|c_seq<|c_region<|g_v rfl r_assign<|g_v rfl r_assign<|g_nil<|d_then<|c_seq<|c_region<|g_v rfl r_move ?_
 replace hm:=bnd hm
 obtain ⟨x1,hx2,hm⟩:=hm
 refine g_cn ⟨w0,M,_,_,φ⟩ (fun _ h=>h) Tryz.call102 rfl rfl (c_ref03_Check p0 _ hx2) (fun _ _=>?_)
 refine g_v rfl r_assign<|g_nil<|d_then<|c_seq<|c_seq<|c_region<|g_v rfl r_move<|g_v rfl (r_neq rfl rfl)<|g_nil<|d_then ?_
 refine c_cond rfl (fun h3=>?_) (fun h3=>?_)
 ·
  replace hm:=ite_t hm (of_decide_eq_true h3)
  refine c_seq<|c_region<|g_v rfl r_move<|g_v rfl r_assign<|g_v rfl r_assign<|g_nil<|d_then ?_
  refine c_flat [(2,.slice none 0 0),(3,.int .i64 x1)] ⟨rfl,rfl,trivial⟩ (fun u=>?_)
  refine c_sta ⟨w0,M,H,R,φ⟩ (fun _ h=>h)<|c_ret<|d_ret_then ?_
  cases hm
  refine d_sta _ (fun W h=>nilR h 11 9 1)<|d_sta _ (fun W h=>ok_frontR (t:=11) (t':=2000) h rfl) ?_
  exact d_retC (none,0) Tryz.results119 (res_tmp (res_tmp (res_nil rfl))) (Nat.le_refl 0) (fun W h=>h.phi (fun W hφ=>hφ)) (.inr rfl)
 replace hm:=ite_f hm (of_decide_eq_false h3)
 refine c_skip<|d_then<|c_seq<|c_region<|g_v rfl r_move ?_
 replace hm:=bnd hm
 obtain ⟨⟨x4,x5⟩,hx6,hm⟩:=hm
 refine g_cn ⟨w0,M,_,_,φ⟩ (fun _ h=>h) Tryz.call120 rfl rfl (c_ref03_row p0 _ hx6) (fun ⟨A7,c8⟩ hc8=>?_)
 refine g_sta _ (fun W h=>(ok_frontR (t:=2000) (t':=100140) h rfl))<|g_v rfl r_move<|g_v rfl (r_extract rfl rfl)<|g_v rfl (r_extract rfl rfl)<|g_v rfl r_assign<|g_v rfl r_assign<|g_nil<|d_then ?_
 refine c_flat [(5,.slice A7 x4.length c8)] ⟨rfl,trivial⟩ (fun u=>?_)
 refine c_sta ⟨w0,M,H,(100140,⟨.slice A7 x4.length c8,9,1,x4.length,x4.flatMap (fun x : ByteArray=>[Value.string x])⟩)::R,φ⟩ (fun _ h=>h)<|c_seq<|c_region<|g_v rfl r_move<|g_v rfl r_assign<|g_v rfl r_assign<|g_nil<|d_then<|c_ret ?_
 cases hm
 refine d_sta _ (fun W h=>ok_frontR (t:=100140) (t':=2000) h rfl) ?_
 exact d_retC (A7,c8) Tryz.results119 (res_tmp (res_tmp (res_nil rfl))) hc8 (fun W h=>h.phi (fun W hφ=>hφ)) (.inr rfl)
noncomputable def m_ref03_Shared_j1  (i107 : Int) : Option Int:=
  some i107
noncomputable def m_ref03_Shared_s2 (x1 : List ByteArray) (x8 : List ByteArray) (i152 : Int) : Option (Int ⊕ Int):=
  if i152 < (x1.length : Int) then
    if i152 < (x8.length : Int) then
      (at_ x1 (w64 ((w64 ((x1.length : Int) - 1)) - i152))).bind fun x228=>
      (at_ x8 (w64 ((w64 ((x8.length : Int) - 1)) - i152))).bind fun x232=>
      (m_ref03_Lower x228).bind fun x236=>
      (m_ref03_Lower x232).bind fun x238=>
      if x236 = x238 then
        some (.inl (w64 (i152 + 1)))
      else
        some (.inr i152)
    else
      some (.inr i152)
  else
    some (.inr i152)
noncomputable def m_ref03_Shared (p0 : ByteArray) (p1 : ByteArray) : Option Int:=
  (m_ref03_Labels p0).bind fun (z7 : (List ByteArray)×Int)=>
  (m_ref03_Labels p1).bind fun (z14 : (List ByteArray)×Int)=>
  if z7.2 ≠ 0 then
    some (-1)
  else
    if z14.2 ≠ 0 then
      some (-1)
    else
      (loop (fun s=>m_ref03_Shared_s2 z7.1 z14.1 s) 0).bind fun e=>m_ref03_Shared_j1 e
theorem c_ref03_Shared {w0 : World} {M : Nat→Prop} {H : List (Nat×Nat×Obj)} {R : List (Nat×Row)} {φ : World→Prop} (p0 : ByteArray) (p1 : ByteArray) (r : Int) (hm : m_ref03_Shared p0 p1 = some r) :
    Cn Tryz.prog 95 #[.string p0,.string p1] ⟨w0,M,H,R,φ⟩ (fun x : Unit=>.int .i64 r) (fun x=>True) (fun x=>⟨w0,M,H,R,φ⟩):=by
 unfold m_ref03_Shared at hm
 refine cn_intro (fn:=Tryz.f95) (N:=60) Tryz.func95 rfl Tryz.ntmps95 rfl<|c_seq<|c_region<|g_v rfl r_assign<|g_nil<|d_then<|c_seq<|c_region<|g_v rfl r_move ?_
 replace hm:=bnd hm
 obtain ⟨⟨x1,x2⟩,hx3,hm⟩:=hm
 refine g_cn ⟨w0,M,_,_,φ⟩ (fun _ h=>h) Tryz.call119 rfl rfl (c_ref03_Labels p0 _ hx3) (fun ⟨A4,c5⟩ hc5=>?_)
 refine g_sta _ (fun W h=>(ok_frontR (t:=2000) (t':=100120) h rfl))<|g_v rfl r_move<|g_v rfl (r_extract rfl rfl)<|g_v rfl (r_extract rfl rfl)<|g_v rfl r_assign<|g_v rfl r_assign<|g_nil<|d_then<|c_seq<|c_region ?_
 refine g_v rfl r_move ?_
 replace hm:=bnd hm
 obtain ⟨⟨x8,x9⟩,hx10,hm⟩:=hm
 refine g_cn ⟨w0,M,_,_,φ⟩ (fun _ h=>h) Tryz.call119 rfl rfl (c_ref03_Labels p1 _ hx10) (fun ⟨A11,c12⟩ hc12=>?_)
 refine g_sta _ (fun W h=>(ok_frontR (t:=2000) (t':=100170) h rfl))<|g_v rfl r_move<|g_v rfl (r_extract rfl rfl)<|g_v rfl (r_extract rfl rfl)<|g_v rfl r_assign<|g_v rfl r_assign<|g_nil<|d_then ?_
 refine c_flat [(5,.slice A4 x1.length c5),(6,.int .i64 x2),(7,.slice A11 x8.length c12),(8,.int .i64 x9)] ⟨rfl,rfl,rfl,rfl,trivial⟩ (fun u=>?_)
 refine c_sta ⟨w0,M,H,(100170,⟨.slice A11 x8.length c12,9,1,x8.length,x8.flatMap (fun x : ByteArray=>[Value.string x])⟩)::(100120,⟨.slice A4 x1.length c5,9,1,x1.length,x1.flatMap (fun x : ByteArray=>[Value.string x])⟩)::R,φ⟩ (fun _ h=>h)<|c_seq<|c_seq<|c_region<|g_v rfl r_move<|g_v rfl (r_neq rfl rfl)<|g_v rfl r_move ?_
 refine g_if rfl rfl rfl rfl rfl (fun h15=>?_) (fun h15=>?_)
 ·
  replace hm:=ite_f hm (of_decide_eq_false h15)
  refine g_v rfl r_move<|g_do rfl rfl rfl rfl rfl h15<|g_v rfl (r_neq rfl rfl)<|g_v rfl (r_pick0 rfl h15)<|g_nil<|d_then ?_
  refine c_cond rfl (fun h16=>?_) (fun h16=>?_)
  ·
   replace hm:=ite_t hm (of_decide_eq_true h16)
   refine c_seq<|c_region<|g_v rfl r_assign<|g_nil<|d_then<|c_ret<|d_ret_then ?_
   cases hm
   exact d_retC () Tryz.results95 (res_tmp (res_nil rfl)) trivial (fun W h=>ok_pre (H1:=[]) (R1:=[_,_]) h (fun W hφ=>hφ)) (.inr rfl)
  replace hm:=ite_f hm (of_decide_eq_false h16)
  refine c_skip<|d_then<|c_seq<|c_region<|g_v rfl r_assign<|g_nil<|d_then<|c_seq ?_
  refine c_cut (ι:=Int) [9] (fun i107=>[(9,.int .i64 i107)]) (fun i107=>⟨w0,M,H,R,φ⟩) (fun i107=>m_ref03_Shared_j1 i107 = some r) ?_ (fun i107 u hm=>?_)
  ·
   refine c_block ?_
   replace hm:=bnd hm
   obtain ⟨out2,hl2,hr2⟩:=hm
   obtain ⟨n197',hl2⟩:=loop_lp hl2
   refine c_loopU (ι:=Nat×Int) [5,7,9] (fun ⟨n197,i152⟩=>[(9,.int .i64 i152)]) (fun ⟨n197,i152⟩=>⟨w0,M,H,(100170,⟨.slice A11 x8.length c12,9,1,x8.length,x8.flatMap (fun x : ByteArray=>[Value.string x])⟩)::(100120,⟨.slice A4 x1.length c5,9,1,x1.length,x1.flatMap (fun x : ByteArray=>[Value.string x])⟩)::R,φ⟩) (fun ⟨n197,i152⟩=>Lp (fun s=>m_ref03_Shared_s2 x1 x8 s) n197 i152 out2) (fun ⟨n197,i152⟩=>n197) (n197',0) hl2 ⟨rfl,rfl,rfl,trivial⟩ (fun W h=>h.phi (fun W hφ=>hφ)) (fun ⟨n197,i152⟩ u hlp=>?_)
   obtain ⟨o2,hm,hnx2⟩:=lp_step hlp
   clear hlp
   replace hm : m_ref03_Shared_s2 x1 x8 i152 = some o2:=hm
   unfold m_ref03_Shared_s2 at hm
   refine c_flat [(5,.slice A4 x1.length c5),(7,.slice A11 x8.length c12),(9,.int .i64 i152)] ⟨rfl,rfl,rfl,trivial⟩ (fun u=>?_)
   refine c_seq<|c_seq<|ga_start (n:=31) ⟨w0,M,H,(100170,⟨.slice A11 x8.length c12,9,1,x8.length,x8.flatMap (fun x : ByteArray=>[Value.string x])⟩)::(100120,⟨.slice A4 x1.length c5,9,1,x1.length,x1.flatMap (fun x : ByteArray=>[Value.string x])⟩)::R,φ⟩ [] #[false,false,false,false,false,false,false,false,false,false,false,false,false,false,false,false,false,false,false,false,false,false,false,false,false,false,false,false,false,false,false] (fun W h=>h.phi (fun W hφ=>hφ)) mixed rfl rfl<|ga_v (i:=0) (bz 31 1) rfl (by kernel_rfl) (fun _ _ _ _ h=>h) rfl (r_move)<|ga_r (i:=1) (bz 31 3) rfl (by kernel_rfl) (by decide) rfl (r_move)<|ga_r (i:=2) (bz 31 7) rfl (by kernel_rfl) (by decide) rfl (r_lenL Tryz.underlying26 rfl)<|ga_r (i:=3) (bz 31 15) rfl (by kernel_rfl) (by decide) rfl (r_lss rfl rfl)<|ga_r (i:=4) (bz 31 31) rfl (by kernel_rfl) (by decide) rfl (r_move) ?_
   refine ga_if (t:=30) rfl (fun h226=>?_) (fun h226=>?_)
   ·
    replace hm:=ite_t hm (of_decide_eq_true h226)
    refine ga_do (i:=5) (bz 31 63) rfl (by kernel_rfl) (fun _ _ _ _ h=>h) rfl rfl rfl rfl rfl h226 (r_move)<|ga_rG (i:=6) (bz 31 127) rfl (by kernel_rfl) (by decide) rfl rfl rfl rfl rfl h226 (r_move)<|ga_rG (i:=7) (bz 31 255) rfl (by kernel_rfl) (by decide) rfl rfl rfl rfl rfl h226 (r_lenL Tryz.underlying26 rfl)<|ga_rG (i:=8) (bz 31 511) rfl (by kernel_rfl) (by decide) rfl rfl rfl rfl rfl h226 (r_lss rfl rfl)<|ga_r (i:=9) (bz 31 1023) rfl (by kernel_rfl) (by decide) rfl (r_pick1 rfl h226)<|ga_r (i:=10) (bz 31 2047) rfl (by kernel_rfl) (by decide) rfl (r_move) ?_
    refine ga_if (t:=36) rfl (fun h227=>?_) (fun h227=>?_)
    ·
     replace hm:=ite_t hm (of_decide_eq_true h227)
     refine ga_do (i:=11) (bz 31 4095) rfl (by kernel_rfl) (fun _ _ _ _ h=>h) rfl rfl rfl rfl rfl h227 (r_move)<|ga_do (i:=12) (bz 31 8191) rfl (by kernel_rfl) (fun _ _ _ _ h=>h) rfl rfl rfl rfl rfl h227 (r_move)<|ga_do (i:=13) (bz 31 16383) rfl (by kernel_rfl) (fun _ _ _ _ h=>h) rfl rfl rfl rfl rfl h227 (r_lenL Tryz.underlying26 rfl)<|ga_do (i:=14) (bz 31 32767) rfl (by kernel_rfl) (fun _ _ _ _ h=>h) rfl rfl rfl rfl rfl h227 (r_sub rfl rfl rfl)<|ga_do (i:=15) (bz 31 65535) rfl (by kernel_rfl) (fun _ _ _ _ h=>h) rfl rfl rfl rfl rfl h227 (r_move)<|ga_do (i:=16) (bz 31 131071) rfl (by kernel_rfl) (fun _ _ _ _ h=>h) rfl rfl rfl rfl rfl h227 (r_sub rfl rfl rfl) ?_
     replace hm:=bnd hm
     obtain ⟨x228,hx228,hm⟩:=hm
     refine ga_know _ (fun W hS=>cl_at (p:=(Sta.ok ⟨w0,M,H,(100170,⟨.slice A11 x8.length c12,9,1,x8.length,x8.flatMap (fun x : ByteArray=>[Value.string x])⟩)::(100120,⟨.slice A4 x1.length c5,9,1,x1.length,x1.flatMap (fun x : ByteArray=>[Value.string x])⟩)::R,φ⟩)) (sz:=1) (fun _=>rfl) (by decide) (hS.phi (fun W hφ=>hφ)) (fun W hS=>rowCl (S:=⟨w0,M,H,(100170,⟨.slice A11 x8.length c12,9,1,x8.length,x8.flatMap (fun x : ByteArray=>[Value.string x])⟩)::(100120,⟨.slice A4 x1.length c5,9,1,x1.length,x1.flatMap (fun x : ByteArray=>[Value.string x])⟩)::R,φ⟩) (tag:=100120) rfl W hS) hx228) ?_
     rintro ⟨ad229,hA231,f230⟩
     refine ga_do (i:=17) (bz 31 262143) rfl (by kernel_rfl) (fun _ _ _ _ h=>h) rfl rfl rfl rfl rfl h227 (r_ix Tryz.underlying26 Tryz.sizeOf9 rfl hA231 rfl hx228)<|ga_do (i:=18) (bz 31 524287) rfl (by kernel_rfl) (fun _ _ _ _ h=>h) rfl rfl rfl rfl rfl h227 (r_ld rfl Tryz.isAgg9 (fun W hS=>Cl.head (f230 W hS)))<|ga_do (i:=20) (bz 31 1572863) rfl (by kernel_rfl) (fun _ _ _ _ h=>h) rfl rfl rfl rfl rfl h227 (r_move)<|ga_do (i:=21) (bz 31 3670015) rfl (by kernel_rfl) (fun _ _ _ _ h=>h) rfl rfl rfl rfl rfl h227 (r_move)<|ga_do (i:=22) (bz 31 7864319) rfl (by kernel_rfl) (fun _ _ _ _ h=>h) rfl rfl rfl rfl rfl h227 (r_lenL Tryz.underlying26 rfl)<|ga_do (i:=23) (bz 31 16252927) rfl (by kernel_rfl) (fun _ _ _ _ h=>h) rfl rfl rfl rfl rfl h227 (r_sub rfl rfl rfl)<|ga_do (i:=24) (bz 31 33030143) rfl (by kernel_rfl) (fun _ _ _ _ h=>h) rfl rfl rfl rfl rfl h227 (r_move)<|ga_do (i:=25) (bz 31 66584575) rfl (by kernel_rfl) (fun _ _ _ _ h=>h) rfl rfl rfl rfl rfl h227 (r_sub rfl rfl rfl) ?_
     replace hm:=bnd hm
     obtain ⟨x232,hx232,hm⟩:=hm
     refine ga_know _ (fun W hS=>cl_at (p:=(Sta.ok ⟨w0,M,H,(100170,⟨.slice A11 x8.length c12,9,1,x8.length,x8.flatMap (fun x : ByteArray=>[Value.string x])⟩)::(100120,⟨.slice A4 x1.length c5,9,1,x1.length,x1.flatMap (fun x : ByteArray=>[Value.string x])⟩)::R,φ⟩)) (sz:=1) (fun _=>rfl) (by decide) (hS.phi (fun W hφ=>hφ)) (fun W hS=>rowCl (S:=⟨w0,M,H,(100170,⟨.slice A11 x8.length c12,9,1,x8.length,x8.flatMap (fun x : ByteArray=>[Value.string x])⟩)::(100120,⟨.slice A4 x1.length c5,9,1,x1.length,x1.flatMap (fun x : ByteArray=>[Value.string x])⟩)::R,φ⟩) (tag:=100170) rfl W hS) hx232) ?_
     rintro ⟨ad233,hA235,f234⟩
     refine ga_do (i:=26) (bz 31 133693439) rfl (by kernel_rfl) (fun _ _ _ _ h=>h) rfl rfl rfl rfl rfl h227 (r_ix Tryz.underlying26 Tryz.sizeOf9 rfl hA235 rfl hx232)<|ga_do (i:=27) (bz 31 267911167) rfl (by kernel_rfl) (fun _ _ _ _ h=>h) rfl rfl rfl rfl rfl h227 (r_ld rfl Tryz.isAgg9 (fun W hS=>Cl.head (f234 W hS))) ?_
     replace hm:=bnd hm
     obtain ⟨x236,hx237,hm⟩:=hm
     refine ga_cnG (first:=#[]) (i:=19) (bz 31 268435455) rfl (by kernel_rfl) (by decide) rfl rfl rfl rfl h227  ⟨w0,M,_,_,φ⟩ (fun _ h=>h) Tryz.call42 rfl rfl rfl (c_ref03_Lower x228 _ hx237) (fun _ W _ h=>h.phi (fun W hφ=>hφ)) (fun _ _=>?_)
     replace hm:=bnd hm
     obtain ⟨x238,hx239,hm⟩:=hm
     refine ga_cnG (first:=#[]) (i:=28) (bz 31 536870911) rfl (by kernel_rfl) (by decide) rfl rfl rfl rfl h227  ⟨w0,M,_,_,φ⟩ (fun _ h=>h) Tryz.call42 rfl rfl rfl (c_ref03_Lower x232 _ hx239) (fun _ W _ h=>h.phi (fun W hφ=>hφ)) (fun _ _=>?_)
     refine ga_rG (i:=29) (bz 31 1073741823) rfl (by kernel_rfl) (by decide) rfl rfl rfl rfl rfl h227 (r_eqlT rfl rfl)<|ga_r (i:=30) (bz 31 2147483647) rfl (by kernel_rfl) (by decide) rfl (r_pick1 rfl h227)<|ga_done (by kernel_rfl)<|d_then ?_
     refine c_flat [(5,.slice A4 x1.length c5),(7,.slice A11 x8.length c12),(9,.int .i64 i152),(56,.bool (decide (x236 = x238)))] ⟨rfl,rfl,rfl,rfl,trivial⟩ (fun u=>?_)
     refine c_cond rfl (fun h240=>?_) (fun h240=>?_)
     ·
      replace hm:=ite_t hm (of_decide_eq_true h240)
      refine c_skip<|d_then<|c_block<|c_region<|g_v rfl r_move<|g_v rfl (r_add rfl rfl rfl)<|g_v rfl r_assign<|g_nil<|d_normal_block ?_
      obtain ⟨n241,hn241,hlp⟩:=nx_inl hm hnx2
      exact d_round (n241,w64 (i152 + 1)) hlp hn241 ⟨rfl,rfl,rfl,trivial⟩ (fun W h=>h.phi (fun W hφ=>hφ))
     replace hm:=ite_f hm (of_decide_eq_false h240)
     refine c_exit<|d_exit_then<|d_exit_then<|d_exit_block ?_
     replace hm:=nx_out (C:=(fun e : Int=>m_ref03_Shared_j1 e = some r)) hm hnx2 hr2
     exact d_round i152 hm Nat.zero_lt_one ⟨rfl,trivial⟩ (fun W h=>((h.dropR (t:=100170) rfl).dropR (t:=100120) rfl).phi (fun W hφ=>hφ))
    replace hm:=ite_f hm (of_decide_eq_false h227)
    refine ga_no (i:=11) (bz 31 4095) rfl (by kernel_rfl) (fun _ _ _ _ h=>h) rfl rfl rfl rfl rfl h227<|ga_no (i:=12) (bz 31 8191) rfl (by kernel_rfl) (fun _ _ _ _ h=>h) rfl rfl rfl rfl rfl h227<|ga_no (i:=13) (bz 31 16383) rfl (by kernel_rfl) (fun _ _ _ _ h=>h) rfl rfl rfl rfl rfl h227<|ga_no (i:=14) (bz 31 32767) rfl (by kernel_rfl) (fun _ _ _ _ h=>h) rfl rfl rfl rfl rfl h227<|ga_no (i:=15) (bz 31 65535) rfl (by kernel_rfl) (fun _ _ _ _ h=>h) rfl rfl rfl rfl rfl h227<|ga_no (i:=16) (bz 31 131071) rfl (by kernel_rfl) (fun _ _ _ _ h=>h) rfl rfl rfl rfl rfl h227<|ga_no (i:=17) (bz 31 262143) rfl (by kernel_rfl) (fun _ _ _ _ h=>h) rfl rfl rfl rfl rfl h227<|ga_no (i:=18) (bz 31 524287) rfl (by kernel_rfl) (fun _ _ _ _ h=>h) rfl rfl rfl rfl rfl h227<|ga_no (i:=19) (bz 31 1048575) rfl (by kernel_rfl) (fun _ _ _ _ h=>h) rfl rfl rfl rfl rfl h227<|ga_no (i:=20) (bz 31 2097151) rfl (by kernel_rfl) (fun _ _ _ _ h=>h) rfl rfl rfl rfl rfl h227 ?_
    refine ga_no (i:=21) (bz 31 4194303) rfl (by kernel_rfl) (fun _ _ _ _ h=>h) rfl rfl rfl rfl rfl h227<|ga_no (i:=22) (bz 31 8388607) rfl (by kernel_rfl) (fun _ _ _ _ h=>h) rfl rfl rfl rfl rfl h227<|ga_no (i:=23) (bz 31 16777215) rfl (by kernel_rfl) (fun _ _ _ _ h=>h) rfl rfl rfl rfl rfl h227<|ga_no (i:=24) (bz 31 33554431) rfl (by kernel_rfl) (fun _ _ _ _ h=>h) rfl rfl rfl rfl rfl h227<|ga_no (i:=25) (bz 31 67108863) rfl (by kernel_rfl) (fun _ _ _ _ h=>h) rfl rfl rfl rfl rfl h227<|ga_no (i:=26) (bz 31 134217727) rfl (by kernel_rfl) (fun _ _ _ _ h=>h) rfl rfl rfl rfl rfl h227<|ga_no (i:=27) (bz 31 268435455) rfl (by kernel_rfl) (fun _ _ _ _ h=>h) rfl rfl rfl rfl rfl h227<|ga_no (i:=28) (bz 31 536870911) rfl (by kernel_rfl) (fun _ _ _ _ h=>h) rfl rfl rfl rfl rfl h227<|ga_no (i:=29) (bz 31 1073741823) rfl (by kernel_rfl) (fun _ _ _ _ h=>h) rfl rfl rfl rfl rfl h227<|ga_r (i:=30) (bz 31 2147483647) rfl (by kernel_rfl) (by decide) rfl (r_pick0 rfl h227) ?_
    refine ga_done (by kernel_rfl)<|d_then ?_
    refine c_flat [(5,.slice A4 x1.length c5),(7,.slice A11 x8.length c12),(9,.int .i64 i152),(56,.bool false)] ⟨rfl,rfl,rfl,rfl,trivial⟩ (fun u=>?_)
    refine c_cond0 rfl rfl<|c_exit<|d_exit_then<|d_exit_then<|d_exit_block ?_
    replace hm:=nx_out (C:=(fun e : Int=>m_ref03_Shared_j1 e = some r)) hm hnx2 hr2
    exact d_round i152 hm Nat.zero_lt_one ⟨rfl,trivial⟩ (fun W h=>((h.dropR (t:=100170) rfl).dropR (t:=100120) rfl).phi (fun W hφ=>hφ))
   replace hm:=ite_f hm (of_decide_eq_false h226)
   refine ga_no (i:=5) (bz 31 63) rfl (by kernel_rfl) (fun _ _ _ _ h=>h) rfl rfl rfl rfl rfl h226<|ga_no (i:=6) (bz 31 127) rfl (by kernel_rfl) (fun _ _ _ _ h=>h) rfl rfl rfl rfl rfl h226<|ga_no (i:=7) (bz 31 255) rfl (by kernel_rfl) (fun _ _ _ _ h=>h) rfl rfl rfl rfl rfl h226<|ga_no (i:=8) (bz 31 511) rfl (by kernel_rfl) (fun _ _ _ _ h=>h) rfl rfl rfl rfl rfl h226<|ga_r (i:=9) (bz 31 1023) rfl (by kernel_rfl) (by decide) rfl (r_pick0 rfl h226)<|ga_r (i:=10) (bz 31 2047) rfl (by kernel_rfl) (by decide) rfl (r_move)<|ga_no (i:=11) (bz 31 4095) rfl (by kernel_rfl) (fun _ _ _ _ h=>h) rfl rfl rfl rfl rfl rfl<|ga_no (i:=12) (bz 31 8191) rfl (by kernel_rfl) (fun _ _ _ _ h=>h) rfl rfl rfl rfl rfl rfl<|ga_no (i:=13) (bz 31 16383) rfl (by kernel_rfl) (fun _ _ _ _ h=>h) rfl rfl rfl rfl rfl rfl<|ga_no (i:=14) (bz 31 32767) rfl (by kernel_rfl) (fun _ _ _ _ h=>h) rfl rfl rfl rfl rfl rfl ?_
   refine ga_no (i:=15) (bz 31 65535) rfl (by kernel_rfl) (fun _ _ _ _ h=>h) rfl rfl rfl rfl rfl rfl<|ga_no (i:=16) (bz 31 131071) rfl (by kernel_rfl) (fun _ _ _ _ h=>h) rfl rfl rfl rfl rfl rfl<|ga_no (i:=17) (bz 31 262143) rfl (by kernel_rfl) (fun _ _ _ _ h=>h) rfl rfl rfl rfl rfl rfl<|ga_no (i:=18) (bz 31 524287) rfl (by kernel_rfl) (fun _ _ _ _ h=>h) rfl rfl rfl rfl rfl rfl<|ga_no (i:=19) (bz 31 1048575) rfl (by kernel_rfl) (fun _ _ _ _ h=>h) rfl rfl rfl rfl rfl rfl<|ga_no (i:=20) (bz 31 2097151) rfl (by kernel_rfl) (fun _ _ _ _ h=>h) rfl rfl rfl rfl rfl rfl<|ga_no (i:=21) (bz 31 4194303) rfl (by kernel_rfl) (fun _ _ _ _ h=>h) rfl rfl rfl rfl rfl rfl<|ga_no (i:=22) (bz 31 8388607) rfl (by kernel_rfl) (fun _ _ _ _ h=>h) rfl rfl rfl rfl rfl rfl<|ga_no (i:=23) (bz 31 16777215) rfl (by kernel_rfl) (fun _ _ _ _ h=>h) rfl rfl rfl rfl rfl rfl<|ga_no (i:=24) (bz 31 33554431) rfl (by kernel_rfl) (fun _ _ _ _ h=>h) rfl rfl rfl rfl rfl rfl ?_
   refine ga_no (i:=25) (bz 31 67108863) rfl (by kernel_rfl) (fun _ _ _ _ h=>h) rfl rfl rfl rfl rfl rfl<|ga_no (i:=26) (bz 31 134217727) rfl (by kernel_rfl) (fun _ _ _ _ h=>h) rfl rfl rfl rfl rfl rfl<|ga_no (i:=27) (bz 31 268435455) rfl (by kernel_rfl) (fun _ _ _ _ h=>h) rfl rfl rfl rfl rfl rfl<|ga_no (i:=28) (bz 31 536870911) rfl (by kernel_rfl) (fun _ _ _ _ h=>h) rfl rfl rfl rfl rfl rfl<|ga_no (i:=29) (bz 31 1073741823) rfl (by kernel_rfl) (fun _ _ _ _ h=>h) rfl rfl rfl rfl rfl rfl<|ga_r (i:=30) (bz 31 2147483647) rfl (by kernel_rfl) (by decide) rfl (r_pick0 rfl rfl)<|ga_done (by kernel_rfl)<|d_then<|c_cond0 rfl rfl<|c_exit ?_
   refine d_exit_then<|d_exit_then<|d_exit_block ?_
   replace hm:=nx_out (C:=(fun e : Int=>m_ref03_Shared_j1 e = some r)) hm hnx2 hr2
   exact d_round i152 hm Nat.zero_lt_one ⟨rfl,trivial⟩ (fun W h=>((h.dropR (t:=100170) rfl).dropR (t:=100120) rfl).phi (fun W hφ=>hφ))
  unfold m_ref03_Shared_j1 at hm
  refine d_flat [(9,.int .i64 i107)] ⟨rfl,trivial⟩ (fun u=>?_)
  refine d_sta ⟨w0,M,H,R,φ⟩ (fun _ h=>h)<|d_then<|c_seq<|c_region<|g_v rfl r_move<|g_v rfl r_assign<|g_nil<|d_then<|c_ret ?_
  cases hm
  exact d_retC () Tryz.results95 (res_tmp (res_nil rfl)) trivial (fun W h=>ok_pre (H1:=[]) (R1:=[]) h (fun W hφ=>hφ)) (.inr rfl)
 replace hm:=ite_t hm (of_decide_eq_true h15)
 refine g_no rfl rfl rfl rfl rfl h15<|g_v rfl (r_pick1 rfl h15)<|g_nil<|d_then<|c_cond1 rfl rfl<|c_seq<|c_region<|g_v rfl r_assign<|g_nil<|d_then ?_
 refine c_ret<|d_ret_then ?_
 cases hm
 exact d_retC () Tryz.results95 (res_tmp (res_nil rfl)) trivial (fun W h=>ok_pre (H1:=[]) (R1:=[_,_]) h (fun W hφ=>hφ)) (.inr rfl)
noncomputable def m_ref03_Depth (p0 : ByteArray) : Option Int:=
  (m_ref03_Labels p0).bind fun (z7 : (List ByteArray)×Int)=>
  if z7.2 ≠ 0 then
    some (-1)
  else
    some (z7.1.length : Int)
theorem c_ref03_Depth {w0 : World} {M : Nat→Prop} {H : List (Nat×Nat×Obj)} {R : List (Nat×Row)} {φ : World→Prop} (p0 : ByteArray) (r : Int) (hm : m_ref03_Depth p0 = some r) :
    Cn Tryz.prog 96 #[.string p0] ⟨w0,M,H,R,φ⟩ (fun x : Unit=>.int .i64 r) (fun x=>True) (fun x=>⟨w0,M,H,R,φ⟩):=by
 unfold m_ref03_Depth at hm
 refine cn_intro (fn:=Tryz.f96) (N:=14) Tryz.func96 rfl Tryz.ntmps96 rfl<|c_seq<|c_region<|g_v rfl r_assign<|g_nil<|d_then<|c_seq<|c_region<|g_v rfl r_move ?_
 replace hm:=bnd hm
 obtain ⟨⟨x1,x2⟩,hx3,hm⟩:=hm
 refine g_cn ⟨w0,M,_,_,φ⟩ (fun _ h=>h) Tryz.call119 rfl rfl (c_ref03_Labels p0 _ hx3) (fun ⟨A4,c5⟩ hc5=>?_)
 refine g_sta _ (fun W h=>(ok_frontR (t:=2000) (t':=100070) h rfl))<|g_v rfl r_move<|g_v rfl (r_extract rfl rfl)<|g_v rfl (r_extract rfl rfl)<|g_v rfl r_assign<|g_v rfl r_assign<|g_nil<|d_then<|c_seq<|c_seq ?_
 refine c_region<|g_v rfl r_move<|g_v rfl (r_neq rfl rfl)<|g_nil<|d_then ?_
 refine c_flat [(3,.slice A4 x1.length c5),(11,.bool (decide (x2 ≠ 0)))] ⟨rfl,rfl,trivial⟩ (fun u=>?_)
 refine c_sta ⟨w0,M,H,(100070,⟨.slice A4 x1.length c5,9,1,x1.length,x1.flatMap (fun x : ByteArray=>[Value.string x])⟩)::R,φ⟩ (fun _ h=>h) ?_
 refine c_cond rfl (fun h8=>?_) (fun h8=>?_)
 ·
  replace hm:=ite_t hm (of_decide_eq_true h8)
  refine c_seq<|c_region<|g_v rfl r_assign<|g_nil<|d_then<|c_ret<|d_ret_then ?_
  cases hm
  exact d_retC () Tryz.results96 (res_tmp (res_nil rfl)) trivial (fun W h=>ok_pre (H1:=[]) (R1:=[_]) h (fun W hφ=>hφ)) (.inr rfl)
 replace hm:=ite_f hm (of_decide_eq_false h8)
 refine c_skip<|d_then<|c_seq<|c_region<|g_v rfl r_move<|g_v rfl (r_lenL Tryz.underlying26 rfl)<|g_v rfl r_assign<|g_nil<|d_then<|c_ret ?_
 cases hm
 exact d_retC () Tryz.results96 (res_tmp (res_nil rfl)) trivial (fun W h=>ok_pre (H1:=[]) (R1:=[_]) h (fun W hφ=>hφ)) (.inr rfl)
noncomputable def m_ref03_Under (p0 : ByteArray) (p1 : ByteArray) : Option Bool:=
  (m_ref03_Shared p0 p1).bind fun x1=>
  if 0 ≤ x1 then
    (m_ref03_Depth p1).bind fun x4=>
    some (decide (x1 = x4))
  else
    some false
theorem c_ref03_Under {w0 : World} {M : Nat→Prop} {H : List (Nat×Nat×Obj)} {R : List (Nat×Row)} {φ : World→Prop} (p0 : ByteArray) (p1 : ByteArray) (r : Bool) (hm : m_ref03_Under p0 p1 = some r) :
    Cn Tryz.prog 43 #[.string p0,.string p1] ⟨w0,M,H,R,φ⟩ (fun x : Unit=>.bool r) (fun x=>True) (fun x=>⟨w0,M,H,R,φ⟩):=by
 unfold m_ref03_Under at hm
 refine cn_intro (fn:=Tryz.f43) (N:=17) Tryz.func43 rfl Tryz.ntmps43 rfl<|c_seq<|c_region<|g_v rfl r_assign<|g_nil<|d_then<|c_seq<|c_region<|g_v rfl r_move<|g_v rfl r_move ?_
 replace hm:=bnd hm
 obtain ⟨x1,hx2,hm⟩:=hm
 refine g_cn ⟨w0,M,_,_,φ⟩ (fun _ h=>h) Tryz.call95 rfl rfl (c_ref03_Shared p0 p1 _ hx2) (fun _ _=>?_)
 refine g_v rfl r_assign<|g_nil<|d_then<|c_seq<|c_region<|g_v rfl r_move<|g_v rfl (r_geq rfl rfl)<|g_v rfl r_move ?_
 refine g_if rfl rfl rfl rfl rfl (fun h3=>?_) (fun h3=>?_)
 ·
  replace hm:=ite_t hm (of_decide_eq_true h3)
  refine g_v rfl r_move<|g_do rfl rfl rfl rfl rfl h3<|g_v rfl r_move<|g_do rfl rfl rfl rfl rfl h3 ?_
  replace hm:=bnd hm
  obtain ⟨x4,hx5,hm⟩:=hm
  refine g_cn ⟨w0,M,_,_,φ⟩ (fun _ h=>h) Tryz.call96 rfl rfl (c_ref03_Depth p1 _ hx5) (fun _ _=>?_)
  refine g_do rfl rfl rfl rfl rfl h3<|g_v rfl (r_eql rfl rfl)<|g_v rfl (r_pick1 rfl h3)<|g_v rfl r_assign<|g_nil<|d_then ?_
  refine c_flat [(4,.bool (decide (x1 = x4)))] ⟨rfl,trivial⟩ (fun u=>?_)
  refine c_sta ⟨w0,M,H,R,φ⟩ (fun _ h=>h)<|c_ret ?_
  cases hm
  exact d_retC () Tryz.results43 (res_tmp (res_nil rfl)) trivial (fun W h=>ok_pre (H1:=[]) (R1:=[]) h (fun W hφ=>hφ)) (.inr rfl)
 replace hm:=ite_f hm (of_decide_eq_false h3)
 iterate 3 refine g_no rfl rfl rfl rfl rfl h3 ?_
 refine g_v rfl (r_pick0 rfl h3)<|g_v rfl r_assign<|g_nil<|d_then ?_
 refine c_flat [(4,.bool false)] ⟨rfl,trivial⟩ (fun u=>?_)
 refine c_sta ⟨w0,M,H,R,φ⟩ (fun _ h=>h)<|c_ret ?_
 cases hm
 exact d_retC () Tryz.results43 (res_tmp (res_nil rfl)) trivial (fun W h=>ok_pre (H1:=[]) (R1:=[]) h (fun W hφ=>hφ)) (.inr rfl)
noncomputable def m_ref13_Right_j4  : Option Bool:=
  some true
noncomputable def m_ref13_Right_j6 (i298 : Int) : Option (Int ⊕ (Unit ⊕ Bool)):=
  some (.inl (w64 (i298 + 1)))
noncomputable def m_ref13_Right_s7 (i298 : Int) (p0 : GConf) (x397 : GFlush) (i514 : Int) : Option (Int ⊕ (Unit ⊕ Bool)):=
  if i514 < i298 then
    (at_ p0.fFlushes i514).bind fun x555=>
    (m_ref03_Under x555.fZone x397.fZone).bind fun x560=>
    if x560 = true then
      some (.inr (.inr false))
    else
      some (.inl (w64 (i514 + 1)))
  else
    some (.inr (.inl ()))
noncomputable def m_ref13_Right_j8 (i298 : Int) : Option (Int ⊕ (Unit ⊕ Bool)):=
  some (.inl (w64 (i298 + 1)))
noncomputable def m_ref13_Right_s9  : Option (Unit ⊕ (Unit ⊕ Bool)):=
  some (.inr (.inl ()))
noncomputable def m_ref13_Right_s5 (p0 : GConf) (i298 : Int) : Option (Int ⊕ (Unit ⊕ Bool)):=
  if i298 < (p0.fFlushes.length : Int) then
    (at_ p0.fFlushes i298).bind fun x397=>
    (m_ref13_name x397.fZone).bind fun x402=>
    if x402 = true then
      (m_ref03_Lower x397.fZone).bind fun x429=>
      if x429 = x397.fZone then
        if x397.fEpoch < 1 then
          some (.inr (.inr false))
        else
          if p0.fEpoch < x397.fEpoch then
            some (.inr (.inr false))
          else
            if 0 < i298 then
              (at_ p0.fFlushes (w64 (i298 - 1))).bind fun x435=>
              if x397.fEpoch ≤ x435.fEpoch then
                some (.inr (.inr false))
              else
                (loop (fun s=>m_ref13_Right_s7 i298 p0 x397 s) 0).bind fun e=>Sum.elim (fun e=>m_ref13_Right_j6 i298) (fun x=>some (.inr (.inr x))) e
            else
              (loop (fun _ : Unit=>m_ref13_Right_s9) ()).bind fun e=>Sum.elim (fun e=>m_ref13_Right_j8 i298) (fun x=>some (.inr (.inr x))) e
      else
        some (.inr (.inr false))
    else
      some (.inr (.inr false))
  else
    some (.inr (.inl ()))
noncomputable def m_ref13_Right_j3 (p0 : GConf) : Option Bool:=
  (loop (fun s=>m_ref13_Right_s5 p0 s) 0).bind fun e=>Sum.elim (fun e=>m_ref13_Right_j4) (fun x=>some x) e
noncomputable def m_ref13_Right_s10 (p0 : GConf) (i585 : Int) : Option (Int ⊕ (Unit ⊕ Bool)):=
  if i585 < (p0.fAnchors.length : Int) then
    (at_ p0.fAnchors i585).bind fun x637=>
    (m_ref13_name x637.fName).bind fun x642=>
    if x642 = true then
      if (x637.fText.size : Int) < 1 then
        some (.inr (.inr false))
      else
        if 200 < (x637.fText.size : Int) then
          some (.inr (.inr false))
        else
          if 0 < i585 then
            (at_ p0.fAnchors (w64 (i585 - 1))).bind fun x674=>
            (m_ref03_Lower x637.fName).bind fun x679=>
            (m_ref03_Lower x674.fName).bind fun x681=>
            if (sless x679 x681 || decide (x679 = x681)) = true then
              some (.inr (.inr false))
            else
              some (.inl (w64 (i585 + 1)))
          else
            some (.inl (w64 (i585 + 1)))
    else
      some (.inr (.inr false))
  else
    some (.inr (.inl ()))
noncomputable def m_ref13_Right_j2 (p0 : GConf) : Option Bool:=
  (loop (fun s=>m_ref13_Right_s10 p0 s) 0).bind fun e=>Sum.elim (fun e=>m_ref13_Right_j3 p0) (fun x=>some x) e
noncomputable def m_ref13_Right_s11 (p0 : GConf) (i693 : Int) : Option (Int ⊕ (Unit ⊕ Bool)):=
  if i693 < (p0.fHints.length : Int) then
    (at_ p0.fHints i693).bind fun x703=>
    if (x703.size : Int) ≠ 4 then
      some (.inr (.inr false))
    else
      some (.inl (w64 (i693 + 1)))
  else
    some (.inr (.inl ()))
noncomputable def m_ref13_Right_j1 (p0 : GConf) : Option Bool:=
  (loop (fun s=>m_ref13_Right_s11 p0 s) 0).bind fun e=>Sum.elim (fun e=>m_ref13_Right_j2 p0) (fun x=>some x) e
noncomputable def m_ref13_Right_s12 (p0 : GConf) (i720 : Int) : Option (Int ⊕ (Unit ⊕ Bool)):=
  if i720 < (p0.fRing.length : Int) then
    (at_ p0.fRing i720).bind fun x762=>
    (m_ref13_node x762).bind fun x766=>
    if x766 = true then
      if 0 < i720 then
        (at_ p0.fRing i720).bind fun x790=>
        (at_ p0.fRing (w64 (i720 - 1))).bind fun x794=>
        if x790 ≤ x794 then
          some (.inr (.inr false))
        else
          some (.inl (w64 (i720 + 1)))
      else
        some (.inl (w64 (i720 + 1)))
    else
      some (.inr (.inr false))
  else
    some (.inr (.inl ()))
noncomputable def m_ref13_Right (p0 : GConf) : Option Bool:=
  if 13 < (p0.fHints.length : Int) then
    some false
  else
    if 16 < (p0.fAnchors.length : Int) then
      some false
    else
      if p0.fEpoch < 0 then
        some false
      else
        if 1099511627776 < p0.fEpoch then
          some false
        else
          if 32 < (p0.fFlushes.length : Int) then
            some false
          else
            (loop (fun s=>m_ref13_Right_s12 p0 s) 0).bind fun e=>Sum.elim (fun e=>m_ref13_Right_j1 p0) (fun x=>some x) e
theorem c_ref13_Right {w0 : World} {M : Nat→Prop} {H : List (Nat×Nat×Obj)} {R : List (Nat×Row)} {φ : World→Prop} (p0 : GConf) (Ap0_0 : Option Addr) (cp0_0 : Nat) (hcp0_0 : p0.fRing.length ≤ cp0_0) (fp0_0 : ∀ W,(Sta.mk w0 M H R φ).ok W→Cl W Ap0_0 (p0.fRing.flatMap (fun x : Int=>[Value.int .i64 x]))) (Ap0_1 : Option Addr) (cp0_1 : Nat) (hcp0_1 : p0.fHints.length ≤ cp0_1) (fp0_1 : ∀ W,(Sta.mk w0 M H R φ).ok W→Cl W Ap0_1 (p0.fHints.flatMap (fun x : ByteArray=>[Value.string x]))) (Ap0_2 : Option Addr) (cp0_2 : Nat) (hcp0_2 : p0.fAnchors.length ≤ cp0_2) (fp0_2 : ∀ W,(Sta.mk w0 M H R φ).ok W→Cl W Ap0_2 (p0.fAnchors.flatMap GAnchor.enc)) (Ap0_3 : Option Addr) (cp0_3 : Nat) (hcp0_3 : p0.fFlushes.length ≤ cp0_3) (fp0_3 : ∀ W,(Sta.mk w0 M H R φ).ok W→Cl W Ap0_3 (p0.fFlushes.flatMap GFlush.enc)) (r : Bool) (hm : m_ref13_Right p0 = some r) :
    Cn Tryz.prog 20 #[.agg #[.slice Ap0_0 p0.fRing.length cp0_0,.slice Ap0_1 p0.fHints.length cp0_1,.slice Ap0_2 p0.fAnchors.length cp0_2,.int .i64 p0.fEpoch,.slice Ap0_3 p0.fFlushes.length cp0_3]] ⟨w0,M,H,R,φ⟩ (fun x : Unit=>.bool r) (fun x=>True) (fun x=>⟨w0,M,H,R,φ⟩):=by
 unfold m_ref13_Right at hm
 refine cn_intro (fn:=Tryz.f20) (N:=202) Tryz.func20 rfl Tryz.ntmps20 rfl<|c_seq<|c_region ?_
 refine g_e rfl (e_box 100010 rfl) (fun g1 _=>?_)
 refine g_v rfl r_assign<|g_nil<|d_then<|c_seq<|c_seq<|c_region<|g_v rfl (r_field (n:=1) Tryz.underlying30 rfl Tryz.sizeOf26 rfl rfl)<|g_v rfl (r_load (tag:=100010) rfl rfl rfl Tryz.isAgg26)<|g_v rfl (r_lenL Tryz.underlying26 rfl)<|g_v rfl (r_gtr rfl rfl) ?_
 refine g_v rfl r_move<|g_sta ⟨w0,M,(100010,g1,.cells #[.slice Ap0_0 p0.fRing.length cp0_0,.slice Ap0_1 p0.fHints.length cp0_1,.slice Ap0_2 p0.fAnchors.length cp0_2,.int .i64 p0.fEpoch,.slice Ap0_3 p0.fFlushes.length cp0_3] 30 (0,0))::H,R,φ⟩ (fun _ h=>h) ?_
 refine g_if rfl rfl rfl rfl rfl (fun h2=>?_) (fun h2=>?_)
 ·
  replace hm:=ite_f hm (of_decide_eq_false h2)
  refine g_v rfl (r_field (n:=2) Tryz.underlying30 rfl Tryz.sizeOf27 rfl rfl)<|g_do rfl rfl rfl rfl rfl h2<|g_v rfl (r_load (tag:=100010) rfl rfl rfl Tryz.isAgg27)<|g_do rfl rfl rfl rfl rfl h2<|g_v rfl (r_lenL Tryz.underlying27 rfl)<|g_do rfl rfl rfl rfl rfl h2<|g_v rfl (r_gtr rfl rfl)<|g_v rfl (r_pick0 rfl h2)<|g_v rfl r_move ?_
  refine g_if rfl rfl rfl rfl rfl (fun h3=>?_) (fun h3=>?_)
  ·
   replace hm:=ite_f hm (of_decide_eq_false h3)
   refine g_v rfl (r_field (n:=3) Tryz.underlying30 rfl Tryz.sizeOf3 rfl rfl)<|g_do rfl rfl rfl rfl rfl h3<|g_v rfl (r_load (tag:=100010) rfl rfl rfl Tryz.isAgg3)<|g_do rfl rfl rfl rfl rfl h3<|g_v rfl (r_lss rfl rfl)<|g_v rfl (r_pick0 rfl h3)<|g_v rfl r_move ?_
   refine g_if rfl rfl rfl rfl rfl (fun h4=>?_) (fun h4=>?_)
   ·
    replace hm:=ite_f hm (of_decide_eq_false h4)
    refine g_v rfl (r_field (n:=3) Tryz.underlying30 rfl Tryz.sizeOf3 rfl rfl)<|g_do rfl rfl rfl rfl rfl h4<|g_v rfl (r_load (tag:=100010) rfl rfl rfl Tryz.isAgg3)<|g_do rfl rfl rfl rfl rfl h4<|g_v rfl (r_gtr rfl rfl)<|g_v rfl (r_pick0 rfl h4)<|g_v rfl r_move ?_
    refine g_if rfl rfl rfl rfl rfl (fun h5=>?_) (fun h5=>?_)
    ·
     replace hm:=ite_f hm (of_decide_eq_false h5)
     refine g_v rfl (r_field (n:=4) Tryz.underlying30 rfl Tryz.sizeOf28 rfl rfl)<|g_do rfl rfl rfl rfl rfl h5<|g_v rfl (r_load (tag:=100010) rfl rfl rfl Tryz.isAgg28)<|g_do rfl rfl rfl rfl rfl h5<|g_v rfl (r_lenL Tryz.underlying28 rfl)<|g_do rfl rfl rfl rfl rfl h5<|g_v rfl (r_gtr rfl rfl)<|g_v rfl (r_pick0 rfl h5)<|g_nil<|d_then ?_
     refine c_flat [(1,.pointer (some ⟨g1,0,none⟩)),(39,.bool (decide (32 < (p0.fFlushes.length : Int))))] ⟨rfl,rfl,trivial⟩ (fun u=>?_)
     refine c_cond rfl (fun h6=>?_) (fun h6=>?_)
     ·
      replace hm:=ite_t hm (of_decide_eq_true h6)
      refine c_seq<|c_region<|g_v rfl r_assign<|g_nil<|d_then<|c_ret<|d_ret_then ?_
      cases hm
      exact d_retC () Tryz.results20 (res_tmp (res_nil rfl)) trivial (fun W h=>ok_pre (H1:=[_]) (R1:=[]) h (fun W hφ=>hφ)) (.inr rfl)
     replace hm:=ite_f hm (of_decide_eq_false h6)
     refine c_skip<|d_then<|c_seq<|c_seq<|c_region<|g_v rfl r_assign<|g_nil<|d_then ?_
     refine c_cut (ι:=Unit) [1] (fun _=>[]) (fun _=>⟨w0,M,(100010,g1,.cells #[.slice Ap0_0 p0.fRing.length cp0_0,.slice Ap0_1 p0.fHints.length cp0_1,.slice Ap0_2 p0.fAnchors.length cp0_2,.int .i64 p0.fEpoch,.slice Ap0_3 p0.fFlushes.length cp0_3] 30 (0,0))::H,R,φ⟩) (fun _=>m_ref13_Right_j1 p0 = some r) ?_ (fun _ u hm=>?_)
     ·
      refine c_block ?_
      replace hm:=bnd hm
      obtain ⟨out12,hl12,hr12⟩:=hm
      obtain ⟨n760',hl12⟩:=loop_lp hl12
      refine c_loopU (ι:=Nat×Int) [1,3] (fun ⟨n760,i720⟩=>[(3,.int .i64 i720)]) (fun ⟨n760,i720⟩=>⟨w0,M,(100010,g1,.cells #[.slice Ap0_0 p0.fRing.length cp0_0,.slice Ap0_1 p0.fHints.length cp0_1,.slice Ap0_2 p0.fAnchors.length cp0_2,.int .i64 p0.fEpoch,.slice Ap0_3 p0.fFlushes.length cp0_3] 30 (0,0))::H,R,φ⟩) (fun ⟨n760,i720⟩=>Lp (fun s=>m_ref13_Right_s12 p0 s) n760 i720 out12) (fun ⟨n760,i720⟩=>n760) (n760',0) hl12 ⟨rfl,rfl,trivial⟩ (fun W h=>h.phi (fun W hφ=>hφ)) (fun ⟨n760,i720⟩ u hlp=>?_)
      obtain ⟨o12,hm,hnx12⟩:=lp_step hlp
      clear hlp
      replace hm : m_ref13_Right_s12 p0 i720 = some o12:=hm
      unfold m_ref13_Right_s12 at hm
      refine c_flat [(1,.pointer (some ⟨g1,0,none⟩)),(3,.int .i64 i720)] ⟨rfl,rfl,trivial⟩ (fun u=>?_)
      refine c_seq<|c_seq<|c_region<|g_v rfl r_move<|g_v rfl (r_field (n:=0) Tryz.underlying30 rfl Tryz.sizeOf25 rfl rfl)<|g_v rfl (r_load (tag:=100010) rfl rfl rfl Tryz.isAgg25)<|g_v rfl (r_lenL Tryz.underlying25 rfl)<|g_v rfl (r_lss rfl rfl)<|g_nil<|d_then ?_
      refine c_cond rfl (fun h761=>?_) (fun h761=>?_)
      ·
       replace hm:=ite_t hm (of_decide_eq_true h761)
       refine c_skip<|d_then<|c_seq<|c_block<|c_seq<|c_region<|g_v rfl (r_field (n:=0) Tryz.underlying30 rfl Tryz.sizeOf25 rfl rfl)<|g_v rfl (r_load (tag:=100010) rfl rfl rfl Tryz.isAgg25)<|g_v rfl r_move ?_
       replace hm:=bnd hm
       obtain ⟨x762,hx762,hm⟩:=hm
       refine g_know _ (fun W hS=>cl_at (p:=(Sta.mk w0 M H R φ).ok) (sz:=1) (fun _=>rfl) (by decide) (ok_pre (H1:=[_]) (R1:=[]) hS (fun W h=>h)) fp0_0 hx762) ?_
       rintro ⟨ad763,hA765,f764⟩
       refine g_v rfl (r_ix Tryz.underlying25 Tryz.sizeOf3 rfl hA765 rfl hx762)<|g_v rfl (r_ld rfl Tryz.isAgg3 (fun W hS=>Cl.head (f764 W (ok_pre (H1:=[_]) (R1:=[]) hS (fun W h=>h))))) ?_
       replace hm:=bnd hm
       obtain ⟨x766,hx767,hm⟩:=hm
       refine g_cn ⟨w0,M,_,_,φ⟩ (fun _ h=>h) Tryz.call79 rfl rfl (c_ref13_node x762 _ hx767) (fun _ _=>?_)
       refine g_v rfl r_assign<|g_nil<|d_then ?_
       refine c_flat [(1,.pointer (some ⟨g1,0,none⟩)),(3,.int .i64 i720),(4,.bool x766)] ⟨rfl,rfl,rfl,trivial⟩ (fun u=>?_)
       refine c_seq<|ga_start (n:=20) ⟨w0,M,(100010,g1,.cells #[.slice Ap0_0 p0.fRing.length cp0_0,.slice Ap0_1 p0.fHints.length cp0_1,.slice Ap0_2 p0.fAnchors.length cp0_2,.int .i64 p0.fEpoch,.slice Ap0_3 p0.fFlushes.length cp0_3] 30 (0,0))::H,R,φ⟩ [] #[false,false,false,false,false,false,false,false,false,false,false,false,false,false,false,false,false,false,false,false] (fun W h=>h.phi (fun W hφ=>hφ)) mixed rfl rfl<|ga_r (i:=0) (bz 20 1) rfl (by kernel_rfl) (by decide) rfl (r_move)<|ga_r (i:=1) (bz 20 3) rfl (by kernel_rfl) (by decide) rfl (r_not rfl)<|ga_r (i:=2) (bz 20 7) rfl (by kernel_rfl) (by decide) rfl (r_move) ?_
       refine ga_if (t:=55) rfl (fun h788=>?_) (fun h788=>?_)
       ·
        have h788' : x766 = false:=by revert h788; cases x766 <;> simp
        replace hm:=ite_f hm (bool_nt h788')
        refine ga_no (i:=3) (bz 20 15) rfl (by kernel_rfl) (fun _ _ _ _ h=>h) rfl rfl rfl rfl rfl h788<|ga_no (i:=4) (bz 20 31) rfl (by kernel_rfl) (fun _ _ _ _ h=>h) rfl rfl rfl rfl rfl h788<|ga_no (i:=5) (bz 20 63) rfl (by kernel_rfl) (fun _ _ _ _ h=>h) rfl rfl rfl rfl rfl h788<|ga_nu (i:=6) (bz 20 127) rfl (by kernel_rfl) (fun _ _ _ _ h=>h) rfl rfl rfl rfl rfl<|ga_nu (i:=7) (bz 20 255) rfl (by kernel_rfl) (fun _ _ _ _ h=>h) rfl rfl rfl rfl rfl<|ga_nu (i:=8) (bz 20 511) rfl (by kernel_rfl) (fun _ _ _ _ h=>h) rfl rfl rfl rfl rfl<|ga_nu (i:=9) (bz 20 1023) rfl (by kernel_rfl) (fun _ _ _ _ h=>h) rfl rfl rfl rfl rfl<|ga_nu (i:=10) (bz 20 2047) rfl (by kernel_rfl) (fun _ _ _ _ h=>h) rfl rfl rfl rfl rfl<|ga_nu (i:=11) (bz 20 4095) rfl (by kernel_rfl) (fun _ _ _ _ h=>h) rfl rfl rfl rfl rfl<|ga_nu (i:=12) (bz 20 8191) rfl (by kernel_rfl) (fun _ _ _ _ h=>h) rfl rfl rfl rfl rfl ?_
        refine ga_nu (i:=13) (bz 20 16383) rfl (by kernel_rfl) (fun _ _ _ _ h=>h) rfl rfl rfl rfl rfl<|ga_nu (i:=14) (bz 20 32767) rfl (by kernel_rfl) (fun _ _ _ _ h=>h) rfl rfl rfl rfl rfl<|ga_nu (i:=15) (bz 20 65535) rfl (by kernel_rfl) (fun _ _ _ _ h=>h) rfl rfl rfl rfl rfl<|ga_nu (i:=16) (bz 20 131071) rfl (by kernel_rfl) (fun _ _ _ _ h=>h) rfl rfl rfl rfl rfl<|ga_nu (i:=17) (bz 20 262143) rfl (by kernel_rfl) (fun _ _ _ _ h=>h) rfl rfl rfl rfl rfl<|ga_no (i:=18) (bz 20 524287) rfl (by kernel_rfl) (fun _ _ _ _ h=>h) rfl rfl rfl rfl rfl h788<|ga_r (i:=19) (bz 20 1048575) rfl (by kernel_rfl) (by decide) rfl (r_pick1 rfl h788)<|ga_done (by kernel_rfl)<|d_then<|c_cond1 rfl rfl ?_
        refine c_seq<|c_region<|g_v rfl r_assign<|g_nil<|d_then<|c_ret<|d_ret_block<|d_ret_then<|d_ret_then<|d_ret_block ?_
        refine d_ret_then<|d_ret_then ?_
        replace hm:=nx_out (C:=(fun e : Unit ⊕ Bool=>Sum.elim (fun e=>m_ref13_Right_j1 p0) (fun x=>some x) e = some r)) hm hnx12 hr12
        replace hm : some false = some r:=hm
        cases hm
        exact d_retC () Tryz.results20 (res_tmp (res_nil rfl)) trivial (fun W h=>ok_pre (H1:=[_]) (R1:=[]) h (fun W hφ=>hφ)) (.inr rfl)
       have h788' : x766 = true:=by revert h788; cases x766 <;> simp
       replace hm:=ite_t hm h788'
       refine ga_rG (i:=3) (bz 20 15) rfl (by kernel_rfl) (by decide) rfl rfl rfl rfl rfl h788 (r_move)<|ga_rG (i:=4) (bz 20 31) rfl (by kernel_rfl) (by decide) rfl rfl rfl rfl rfl h788 (r_gtr rfl rfl)<|ga_rG (i:=5) (bz 20 63) rfl (by kernel_rfl) (by decide) rfl rfl rfl rfl rfl h788 (r_move) ?_
       refine ga_if (t:=58) rfl (fun h789=>?_) (fun h789=>?_)
       ·
        replace hm:=ite_t hm (of_decide_eq_true h789)
        refine ga_do (i:=6) (bz 20 127) rfl (by kernel_rfl) (fun _ _ _ _ h=>h) rfl rfl rfl rfl rfl h789 (r_field (n:=0) Tryz.underlying30 rfl Tryz.sizeOf25 rfl rfl)<|ga_do (i:=7) (bz 20 255) rfl (by kernel_rfl) (fun _ _ _ _ h=>h) rfl rfl rfl rfl rfl h789 (r_load (tag:=100010) rfl rfl rfl Tryz.isAgg25)<|ga_do (i:=8) (bz 20 511) rfl (by kernel_rfl) (fun _ _ _ _ h=>h) rfl rfl rfl rfl rfl h789 (r_move) ?_
        replace hm:=bnd hm
        obtain ⟨x790,hx790,hm⟩:=hm
        refine ga_know _ (fun W hS=>cl_at (p:=(Sta.mk w0 M H R φ).ok) (sz:=1) (fun _=>rfl) (by decide) (ok_pre (H1:=[_]) (R1:=[]) hS (fun W h=>h)) fp0_0 hx790) ?_
        rintro ⟨ad791,hA793,f792⟩
        refine ga_do (i:=9) (bz 20 1023) rfl (by kernel_rfl) (fun _ _ _ _ h=>h) rfl rfl rfl rfl rfl h789 (r_ix Tryz.underlying25 Tryz.sizeOf3 rfl hA793 rfl hx790)<|ga_do (i:=10) (bz 20 2047) rfl (by kernel_rfl) (fun _ _ _ _ h=>h) rfl rfl rfl rfl rfl h789 (r_ld rfl Tryz.isAgg3 (fun W hS=>Cl.head (f792 W (ok_pre (H1:=[_]) (R1:=[]) hS (fun W h=>h)))))<|ga_do (i:=11) (bz 20 4095) rfl (by kernel_rfl) (fun _ _ _ _ h=>h) rfl rfl rfl rfl rfl h789 (r_field (n:=0) Tryz.underlying30 rfl Tryz.sizeOf25 rfl rfl)<|ga_do (i:=12) (bz 20 8191) rfl (by kernel_rfl) (fun _ _ _ _ h=>h) rfl rfl rfl rfl rfl h789 (r_load (tag:=100010) rfl rfl rfl Tryz.isAgg25)<|ga_rG (i:=13) (bz 20 16383) rfl (by kernel_rfl) (by decide) rfl rfl rfl rfl rfl h789 (r_move)<|ga_rG (i:=14) (bz 20 32767) rfl (by kernel_rfl) (by decide) rfl rfl rfl rfl rfl h789 (r_sub rfl rfl rfl) ?_
        replace hm:=bnd hm
        obtain ⟨x794,hx794,hm⟩:=hm
        refine ga_know _ (fun W hS=>cl_at (p:=(Sta.mk w0 M H R φ).ok) (sz:=1) (fun _=>rfl) (by decide) (ok_pre (H1:=[_]) (R1:=[]) hS (fun W h=>h)) fp0_0 hx794) ?_
        rintro ⟨ad795,hA797,f796⟩
        refine ga_rG (i:=15) (bz 20 65535) rfl (by kernel_rfl) (by decide) rfl rfl rfl rfl rfl h789 (r_ix Tryz.underlying25 Tryz.sizeOf3 rfl hA797 rfl hx794)<|ga_rG (i:=16) (bz 20 131071) rfl (by kernel_rfl) (by decide) rfl rfl rfl rfl rfl h789 (r_ld rfl Tryz.isAgg3 (fun W hS=>Cl.head (f796 W (ok_pre (H1:=[_]) (R1:=[]) hS (fun W h=>h)))))<|ga_rG (i:=17) (bz 20 262143) rfl (by kernel_rfl) (by decide) rfl rfl rfl rfl rfl h789 (r_leq rfl rfl)<|ga_rG (i:=18) (bz 20 524287) rfl (by kernel_rfl) (by decide) rfl rfl rfl rfl rfl h788 (r_pick1 rfl h789)<|ga_r (i:=19) (bz 20 1048575) rfl (by kernel_rfl) (by decide) rfl (r_pick0 rfl h788)<|ga_done (by kernel_rfl)<|d_then ?_
        refine c_flat [(1,.pointer (some ⟨g1,0,none⟩)),(3,.int .i64 i720),(72,.bool (decide (x790 ≤ x794)))] ⟨rfl,rfl,rfl,trivial⟩ (fun u=>?_)
        refine c_cond rfl (fun h798=>?_) (fun h798=>?_)
        ·
         replace hm:=ite_t hm (of_decide_eq_true h798)
         refine c_seq<|c_region<|g_v rfl r_assign<|g_nil<|d_then<|c_ret<|d_ret_block<|d_ret_then<|d_ret_then<|d_ret_block ?_
         refine d_ret_then<|d_ret_then ?_
         replace hm:=nx_out (C:=(fun e : Unit ⊕ Bool=>Sum.elim (fun e=>m_ref13_Right_j1 p0) (fun x=>some x) e = some r)) hm hnx12 hr12
         replace hm : some false = some r:=hm
         cases hm
         exact d_retC () Tryz.results20 (res_tmp (res_nil rfl)) trivial (fun W h=>ok_pre (H1:=[_]) (R1:=[]) h (fun W hφ=>hφ)) (.inr rfl)
        replace hm:=ite_f hm (of_decide_eq_false h798)
        refine c_skip<|d_normal_block<|d_then<|c_region<|g_v rfl r_move<|g_v rfl (r_add rfl rfl rfl)<|g_v rfl r_assign<|g_nil ?_
        obtain ⟨n799,hn799,hlp⟩:=nx_inl hm hnx12
        exact d_round (n799,w64 (i720 + 1)) hlp hn799 ⟨rfl,rfl,trivial⟩ (fun W h=>h.phi (fun W hφ=>hφ))
       replace hm:=ite_f hm (of_decide_eq_false h789)
       refine ga_no (i:=6) (bz 20 127) rfl (by kernel_rfl) (fun _ _ _ _ h=>h) rfl rfl rfl rfl rfl h789<|ga_no (i:=7) (bz 20 255) rfl (by kernel_rfl) (fun _ _ _ _ h=>h) rfl rfl rfl rfl rfl h789<|ga_no (i:=8) (bz 20 511) rfl (by kernel_rfl) (fun _ _ _ _ h=>h) rfl rfl rfl rfl rfl h789<|ga_no (i:=9) (bz 20 1023) rfl (by kernel_rfl) (fun _ _ _ _ h=>h) rfl rfl rfl rfl rfl h789<|ga_no (i:=10) (bz 20 2047) rfl (by kernel_rfl) (fun _ _ _ _ h=>h) rfl rfl rfl rfl rfl h789<|ga_no (i:=11) (bz 20 4095) rfl (by kernel_rfl) (fun _ _ _ _ h=>h) rfl rfl rfl rfl rfl h789<|ga_no (i:=12) (bz 20 8191) rfl (by kernel_rfl) (fun _ _ _ _ h=>h) rfl rfl rfl rfl rfl h789<|ga_no (i:=13) (bz 20 16383) rfl (by kernel_rfl) (fun _ _ _ _ h=>h) rfl rfl rfl rfl rfl h789<|ga_no (i:=14) (bz 20 32767) rfl (by kernel_rfl) (fun _ _ _ _ h=>h) rfl rfl rfl rfl rfl h789<|ga_no (i:=15) (bz 20 65535) rfl (by kernel_rfl) (fun _ _ _ _ h=>h) rfl rfl rfl rfl rfl h789 ?_
       refine ga_no (i:=16) (bz 20 131071) rfl (by kernel_rfl) (fun _ _ _ _ h=>h) rfl rfl rfl rfl rfl h789<|ga_no (i:=17) (bz 20 262143) rfl (by kernel_rfl) (fun _ _ _ _ h=>h) rfl rfl rfl rfl rfl h789<|ga_rG (i:=18) (bz 20 524287) rfl (by kernel_rfl) (by decide) rfl rfl rfl rfl rfl h788 (r_pick0 rfl h789)<|ga_r (i:=19) (bz 20 1048575) rfl (by kernel_rfl) (by decide) rfl (r_pick0 rfl h788)<|ga_done (by kernel_rfl)<|d_then<|c_cond0 rfl rfl<|c_skip<|d_normal_block<|d_then ?_
       refine c_region<|g_v rfl r_move<|g_v rfl (r_add rfl rfl rfl)<|g_v rfl r_assign<|g_nil ?_
       obtain ⟨n800,hn800,hlp⟩:=nx_inl hm hnx12
       exact d_round (n800,w64 (i720 + 1)) hlp hn800 ⟨rfl,rfl,trivial⟩ (fun W h=>h.phi (fun W hφ=>hφ))
      replace hm:=ite_f hm (of_decide_eq_false h761)
      refine c_exit<|d_exit_then<|d_exit_then<|d_exit_block ?_
      replace hm:=nx_out (C:=(fun e : Unit ⊕ Bool=>Sum.elim (fun e=>m_ref13_Right_j1 p0) (fun x=>some x) e = some r)) hm hnx12 hr12
      exact d_round () hm Nat.zero_lt_one ⟨rfl,trivial⟩ (fun W h=>h.phi (fun W hφ=>hφ))
     unfold m_ref13_Right_j1 at hm
     refine d_flat [(1,.pointer (some ⟨g1,0,none⟩))] ⟨rfl,trivial⟩ (fun u=>?_)
     refine d_then<|c_seq<|c_seq<|c_region<|g_v rfl r_assign<|g_nil<|d_then ?_
     refine c_cut (ι:=Unit) [1] (fun _=>[]) (fun _=>⟨w0,M,(100010,g1,.cells #[.slice Ap0_0 p0.fRing.length cp0_0,.slice Ap0_1 p0.fHints.length cp0_1,.slice Ap0_2 p0.fAnchors.length cp0_2,.int .i64 p0.fEpoch,.slice Ap0_3 p0.fFlushes.length cp0_3] 30 (0,0))::H,R,φ⟩) (fun _=>m_ref13_Right_j2 p0 = some r) ?_ (fun _ u hm=>?_)
     ·
      refine c_block ?_
      replace hm:=bnd hm
      obtain ⟨out11,hl11,hr11⟩:=hm
      obtain ⟨n701',hl11⟩:=loop_lp hl11
      refine c_loopU (ι:=Nat×Int) [1,5] (fun ⟨n701,i693⟩=>[(5,.int .i64 i693)]) (fun ⟨n701,i693⟩=>⟨w0,M,(100010,g1,.cells #[.slice Ap0_0 p0.fRing.length cp0_0,.slice Ap0_1 p0.fHints.length cp0_1,.slice Ap0_2 p0.fAnchors.length cp0_2,.int .i64 p0.fEpoch,.slice Ap0_3 p0.fFlushes.length cp0_3] 30 (0,0))::H,R,φ⟩) (fun ⟨n701,i693⟩=>Lp (fun s=>m_ref13_Right_s11 p0 s) n701 i693 out11) (fun ⟨n701,i693⟩=>n701) (n701',0) hl11 ⟨rfl,rfl,trivial⟩ (fun W h=>h.phi (fun W hφ=>hφ)) (fun ⟨n701,i693⟩ u hlp=>?_)
      obtain ⟨o11,hm,hnx11⟩:=lp_step hlp
      clear hlp
      replace hm : m_ref13_Right_s11 p0 i693 = some o11:=hm
      unfold m_ref13_Right_s11 at hm
      refine c_flat [(1,.pointer (some ⟨g1,0,none⟩)),(5,.int .i64 i693)] ⟨rfl,rfl,trivial⟩ (fun u=>?_)
      refine c_seq<|c_seq<|c_region<|g_v rfl r_move<|g_v rfl (r_field (n:=1) Tryz.underlying30 rfl Tryz.sizeOf26 rfl rfl)<|g_v rfl (r_load (tag:=100010) rfl rfl rfl Tryz.isAgg26)<|g_v rfl (r_lenL Tryz.underlying26 rfl)<|g_v rfl (r_lss rfl rfl)<|g_nil<|d_then ?_
      refine c_cond rfl (fun h702=>?_) (fun h702=>?_)
      ·
       replace hm:=ite_t hm (of_decide_eq_true h702)
       refine c_skip<|d_then<|c_seq<|c_block<|c_seq<|c_region<|g_v rfl (r_field (n:=1) Tryz.underlying30 rfl Tryz.sizeOf26 rfl rfl)<|g_v rfl (r_load (tag:=100010) rfl rfl rfl Tryz.isAgg26)<|g_v rfl r_move ?_
       replace hm:=bnd hm
       obtain ⟨x703,hx703,hm⟩:=hm
       refine g_know _ (fun W hS=>cl_at (p:=(Sta.mk w0 M H R φ).ok) (sz:=1) (fun _=>rfl) (by decide) (ok_pre (H1:=[_]) (R1:=[]) hS (fun W h=>h)) fp0_1 hx703) ?_
       rintro ⟨ad704,hA706,f705⟩
       refine g_v rfl (r_ix Tryz.underlying26 Tryz.sizeOf9 rfl hA706 rfl hx703)<|g_v rfl (r_ld rfl Tryz.isAgg9 (fun W hS=>Cl.head (f705 W (ok_pre (H1:=[_]) (R1:=[]) hS (fun W h=>h)))))<|g_v rfl (r_len Tryz.underlying9 rfl)<|g_v rfl (r_neq rfl rfl)<|g_nil<|d_then ?_
       refine c_flat [(1,.pointer (some ⟨g1,0,none⟩)),(5,.int .i64 i693),(86,.bool (decide ((x703.size : Int) ≠ 4)))] ⟨rfl,rfl,rfl,trivial⟩ (fun u=>?_)
       refine c_cond rfl (fun h707=>?_) (fun h707=>?_)
       ·
        replace hm:=ite_t hm (of_decide_eq_true h707)
        refine c_seq<|c_region<|g_v rfl r_assign<|g_nil<|d_then<|c_ret<|d_ret_block<|d_ret_then<|d_ret_then<|d_ret_block ?_
        refine d_ret_then<|d_ret_then ?_
        replace hm:=nx_out (C:=(fun e : Unit ⊕ Bool=>Sum.elim (fun e=>m_ref13_Right_j2 p0) (fun x=>some x) e = some r)) hm hnx11 hr11
        replace hm : some false = some r:=hm
        cases hm
        exact d_retC () Tryz.results20 (res_tmp (res_nil rfl)) trivial (fun W h=>ok_pre (H1:=[_]) (R1:=[]) h (fun W hφ=>hφ)) (.inr rfl)
       replace hm:=ite_f hm (of_decide_eq_false h707)
       refine c_skip<|d_normal_block<|d_then<|c_region<|g_v rfl r_move<|g_v rfl (r_add rfl rfl rfl)<|g_v rfl r_assign<|g_nil ?_
       obtain ⟨n708,hn708,hlp⟩:=nx_inl hm hnx11
       exact d_round (n708,w64 (i693 + 1)) hlp hn708 ⟨rfl,rfl,trivial⟩ (fun W h=>h.phi (fun W hφ=>hφ))
      replace hm:=ite_f hm (of_decide_eq_false h702)
      refine c_exit<|d_exit_then<|d_exit_then<|d_exit_block ?_
      replace hm:=nx_out (C:=(fun e : Unit ⊕ Bool=>Sum.elim (fun e=>m_ref13_Right_j2 p0) (fun x=>some x) e = some r)) hm hnx11 hr11
      exact d_round () hm Nat.zero_lt_one ⟨rfl,trivial⟩ (fun W h=>h.phi (fun W hφ=>hφ))
     unfold m_ref13_Right_j2 at hm
     refine d_flat [(1,.pointer (some ⟨g1,0,none⟩))] ⟨rfl,trivial⟩ (fun u=>?_)
     refine d_then<|c_seq<|c_seq<|c_region<|g_v rfl r_assign<|g_nil<|d_then ?_
     refine c_cut (ι:=Unit) [1] (fun _=>[]) (fun _=>⟨w0,M,(100010,g1,.cells #[.slice Ap0_0 p0.fRing.length cp0_0,.slice Ap0_1 p0.fHints.length cp0_1,.slice Ap0_2 p0.fAnchors.length cp0_2,.int .i64 p0.fEpoch,.slice Ap0_3 p0.fFlushes.length cp0_3] 30 (0,0))::H,R,φ⟩) (fun _=>m_ref13_Right_j3 p0 = some r) ?_ (fun _ u hm=>?_)
     ·
      refine c_block ?_
      replace hm:=bnd hm
      obtain ⟨out10,hl10,hr10⟩:=hm
      obtain ⟨n635',hl10⟩:=loop_lp hl10
      refine c_loopU (ι:=Nat×Int) [1,6] (fun ⟨n635,i585⟩=>[(6,.int .i64 i585)]) (fun ⟨n635,i585⟩=>⟨w0,M,(100010,g1,.cells #[.slice Ap0_0 p0.fRing.length cp0_0,.slice Ap0_1 p0.fHints.length cp0_1,.slice Ap0_2 p0.fAnchors.length cp0_2,.int .i64 p0.fEpoch,.slice Ap0_3 p0.fFlushes.length cp0_3] 30 (0,0))::H,R,φ⟩) (fun ⟨n635,i585⟩=>Lp (fun s=>m_ref13_Right_s10 p0 s) n635 i585 out10) (fun ⟨n635,i585⟩=>n635) (n635',0) hl10 ⟨rfl,rfl,trivial⟩ (fun W h=>h.phi (fun W hφ=>hφ)) (fun ⟨n635,i585⟩ u hlp=>?_)
      obtain ⟨o10,hm,hnx10⟩:=lp_step hlp
      clear hlp
      replace hm : m_ref13_Right_s10 p0 i585 = some o10:=hm
      unfold m_ref13_Right_s10 at hm
      refine c_flat [(1,.pointer (some ⟨g1,0,none⟩)),(6,.int .i64 i585)] ⟨rfl,rfl,trivial⟩ (fun u=>?_)
      refine c_seq<|c_seq<|c_region<|g_v rfl r_move<|g_v rfl (r_field (n:=2) Tryz.underlying30 rfl Tryz.sizeOf27 rfl rfl)<|g_v rfl (r_load (tag:=100010) rfl rfl rfl Tryz.isAgg27)<|g_v rfl (r_lenL Tryz.underlying27 rfl)<|g_v rfl (r_lss rfl rfl)<|g_nil<|d_then ?_
      refine c_cond rfl (fun h636=>?_) (fun h636=>?_)
      ·
       replace hm:=ite_t hm (of_decide_eq_true h636)
       refine c_skip<|d_then<|c_seq<|c_block<|c_seq<|c_region<|g_v rfl (r_field (n:=2) Tryz.underlying30 rfl Tryz.sizeOf27 rfl rfl)<|g_v rfl (r_load (tag:=100010) rfl rfl rfl Tryz.isAgg27)<|g_v rfl r_move ?_
       replace hm:=bnd hm
       obtain ⟨x637,hx637,hm⟩:=hm
       refine g_know _ (fun W hS=>cl_at (p:=(Sta.mk w0 M H R φ).ok) (sz:=2) (fun _=>rfl) (by decide) (ok_pre (H1:=[_]) (R1:=[]) hS (fun W h=>h)) fp0_2 hx637) ?_
       rintro ⟨ad638,hA640,f639⟩
       refine g_v rfl (r_ix Tryz.underlying27 Tryz.sizeOf55 rfl hA640 rfl hx637)<|g_v rfl (r_ldA rfl Tryz.isAgg55 Tryz.sizeOf55 (fun W hS=>(f639 W (ok_pre (H1:=[_]) (R1:=[]) hS (fun W h=>h))).take 2) rfl) ?_
       refine g_e rfl (e_alloc 100070 Tryz.zeroValue55) (fun g641 _=>?_)
       refine g_storeL (tag:=100070) rfl rfl rfl rfl Tryz.sizeOf55 rfl rfl<|g_nil<|d_then ?_
       refine c_flat [(1,.pointer (some ⟨g1,0,none⟩)),(6,.int .i64 i585),(7,.pointer (some ⟨g641,0,none⟩))] ⟨rfl,rfl,rfl,trivial⟩ (fun u=>?_)
       refine c_sta ⟨w0,M,(100070,g641,.cells #[.string x637.fName,.string x637.fText] 55 (0,0))::(100010,g1,.cells #[.slice Ap0_0 p0.fRing.length cp0_0,.slice Ap0_1 p0.fHints.length cp0_1,.slice Ap0_2 p0.fAnchors.length cp0_2,.int .i64 p0.fEpoch,.slice Ap0_3 p0.fFlushes.length cp0_3] 30 (0,0))::H,R,φ⟩ (fun _ h=>h)<|c_seq<|c_region<|g_v rfl (r_field (n:=0) Tryz.underlying55 rfl Tryz.sizeOf9 rfl rfl)<|g_v rfl (r_load (tag:=100070) rfl rfl rfl Tryz.isAgg9) ?_
       replace hm:=bnd hm
       obtain ⟨x642,hx643,hm⟩:=hm
       refine g_cn ⟨w0,M,_,_,φ⟩ (fun _ h=>h) Tryz.call80 rfl rfl (c_ref13_name x637.fName _ hx643) (fun _ _=>?_)
       refine g_v rfl r_assign<|g_nil<|d_then<|c_seq<|ga_start (n:=32) ⟨w0,M,(100070,g641,.cells #[.string x637.fName,.string x637.fText] 55 (0,0))::(100010,g1,.cells #[.slice Ap0_0 p0.fRing.length cp0_0,.slice Ap0_1 p0.fHints.length cp0_1,.slice Ap0_2 p0.fAnchors.length cp0_2,.int .i64 p0.fEpoch,.slice Ap0_3 p0.fFlushes.length cp0_3] 30 (0,0))::H,R,φ⟩ [] #[false,false,false,false,false,false,false,false,false,false,false,false,false,false,false,false,false,false,false,false,false,false,false,false,false,false,false,false,false,false,false,false] (fun W h=>h.phi (fun W hφ=>hφ)) mixed rfl rfl<|ga_r (i:=0) (bz 32 1) rfl (by kernel_rfl) (by decide) rfl (r_move)<|ga_r (i:=1) (bz 32 3) rfl (by kernel_rfl) (by decide) rfl (r_not rfl)<|ga_r (i:=2) (bz 32 7) rfl (by kernel_rfl) (by decide) rfl (r_move) ?_
       refine ga_if (t:=104) rfl (fun h670=>?_) (fun h670=>?_)
       ·
        have h670' : x642 = false:=by revert h670; cases x642 <;> simp
        replace hm:=ite_f hm (bool_nt h670')
        refine ga_no (i:=3) (bz 32 15) rfl (by kernel_rfl) (fun _ _ _ _ h=>h) rfl rfl rfl rfl rfl h670<|ga_no (i:=4) (bz 32 31) rfl (by kernel_rfl) (fun _ _ _ _ h=>h) rfl rfl rfl rfl rfl h670<|ga_no (i:=5) (bz 32 63) rfl (by kernel_rfl) (fun _ _ _ _ h=>h) rfl rfl rfl rfl rfl h670<|ga_no (i:=6) (bz 32 127) rfl (by kernel_rfl) (fun _ _ _ _ h=>h) rfl rfl rfl rfl rfl h670<|ga_r (i:=7) (bz 32 255) rfl (by kernel_rfl) (by decide) rfl (r_pick1 rfl h670)<|ga_r (i:=8) (bz 32 511) rfl (by kernel_rfl) (by decide) rfl (r_move)<|ga_no (i:=9) (bz 32 1023) rfl (by kernel_rfl) (fun _ _ _ _ h=>h) rfl rfl rfl rfl rfl rfl<|ga_no (i:=10) (bz 32 2047) rfl (by kernel_rfl) (fun _ _ _ _ h=>h) rfl rfl rfl rfl rfl rfl<|ga_no (i:=11) (bz 32 4095) rfl (by kernel_rfl) (fun _ _ _ _ h=>h) rfl rfl rfl rfl rfl rfl<|ga_no (i:=12) (bz 32 8191) rfl (by kernel_rfl) (fun _ _ _ _ h=>h) rfl rfl rfl rfl rfl rfl ?_
        refine ga_r (i:=13) (bz 32 16383) rfl (by kernel_rfl) (by decide) rfl (r_pick1 rfl rfl)<|ga_r (i:=14) (bz 32 32767) rfl (by kernel_rfl) (by decide) rfl (r_move)<|ga_no (i:=15) (bz 32 65535) rfl (by kernel_rfl) (fun _ _ _ _ h=>h) rfl rfl rfl rfl rfl rfl<|ga_no (i:=16) (bz 32 131071) rfl (by kernel_rfl) (fun _ _ _ _ h=>h) rfl rfl rfl rfl rfl rfl<|ga_no (i:=17) (bz 32 262143) rfl (by kernel_rfl) (fun _ _ _ _ h=>h) rfl rfl rfl rfl rfl rfl<|ga_nu (i:=18) (bz 32 524287) rfl (by kernel_rfl) (fun _ _ _ _ h=>h) rfl rfl rfl rfl rfl<|ga_nu (i:=19) (bz 32 1048575) rfl (by kernel_rfl) (fun _ _ _ _ h=>h) rfl rfl rfl rfl rfl<|ga_nu (i:=20) (bz 32 2097151) rfl (by kernel_rfl) (fun _ _ _ _ h=>h) rfl rfl rfl rfl rfl<|ga_nu (i:=21) (bz 32 4194303) rfl (by kernel_rfl) (fun _ _ _ _ h=>h) rfl rfl rfl rfl rfl<|ga_nu (i:=22) (bz 32 8388607) rfl (by kernel_rfl) (fun _ _ _ _ h=>h) rfl rfl rfl rfl rfl ?_
        refine ga_nu (i:=23) (bz 32 16777215) rfl (by kernel_rfl) (fun _ _ _ _ h=>h) rfl rfl rfl rfl rfl<|ga_nu (i:=24) (bz 32 33554431) rfl (by kernel_rfl) (fun _ _ _ _ h=>h) rfl rfl rfl rfl rfl<|ga_nu (i:=25) (bz 32 67108863) rfl (by kernel_rfl) (fun _ _ _ _ h=>h) rfl rfl rfl rfl rfl<|ga_nu (i:=26) (bz 32 134217727) rfl (by kernel_rfl) (fun _ _ _ _ h=>h) rfl rfl rfl rfl rfl<|ga_nu (i:=27) (bz 32 268435455) rfl (by kernel_rfl) (fun _ _ _ _ h=>h) rfl rfl rfl rfl rfl<|ga_nu (i:=28) (bz 32 536870911) rfl (by kernel_rfl) (fun _ _ _ _ h=>h) rfl rfl rfl rfl rfl<|ga_nu (i:=29) (bz 32 1073741823) rfl (by kernel_rfl) (fun _ _ _ _ h=>h) rfl rfl rfl rfl rfl<|ga_no (i:=30) (bz 32 2147483647) rfl (by kernel_rfl) (fun _ _ _ _ h=>h) rfl rfl rfl rfl rfl rfl<|ga_r (i:=31) (bz 32 4294967295) rfl (by kernel_rfl) (by decide) rfl (r_pick1 rfl rfl)<|ga_done (by kernel_rfl) ?_
        refine d_then ?_
        refine c_flat [(1,.pointer (some ⟨g1,0,none⟩)),(6,.int .i64 i585),(133,.bool true)] ⟨rfl,rfl,rfl,trivial⟩ (fun u=>?_)
        refine c_cond1 rfl rfl<|c_seq<|c_region<|g_v rfl r_assign<|g_nil<|d_then<|c_ret<|d_ret_block<|d_ret_then<|d_ret_then ?_
        refine d_ret_block<|d_ret_then<|d_ret_then ?_
        replace hm:=nx_out (C:=(fun e : Unit ⊕ Bool=>Sum.elim (fun e=>m_ref13_Right_j3 p0) (fun x=>some x) e = some r)) hm hnx10 hr10
        replace hm : some false = some r:=hm
        cases hm
        exact d_retC () Tryz.results20 (res_tmp (res_nil rfl)) trivial (fun W h=>ok_pre (H1:=[_,_]) (R1:=[]) h (fun W hφ=>hφ)) (.inr rfl)
       have h670' : x642 = true:=by revert h670; cases x642 <;> simp
       replace hm:=ite_t hm h670'
       refine ga_rG (i:=3) (bz 32 15) rfl (by kernel_rfl) (by decide) rfl rfl rfl rfl rfl h670 (r_field (n:=1) Tryz.underlying55 rfl Tryz.sizeOf9 rfl rfl)<|ga_rG (i:=4) (bz 32 31) rfl (by kernel_rfl) (by decide) rfl rfl rfl rfl rfl h670 (r_load (tag:=100070) rfl rfl rfl Tryz.isAgg9)<|ga_rG (i:=5) (bz 32 63) rfl (by kernel_rfl) (by decide) rfl rfl rfl rfl rfl h670 (r_len Tryz.underlying9 rfl)<|ga_rG (i:=6) (bz 32 127) rfl (by kernel_rfl) (by decide) rfl rfl rfl rfl rfl h670 (r_lss rfl rfl)<|ga_r (i:=7) (bz 32 255) rfl (by kernel_rfl) (by decide) rfl (r_pick0 rfl h670)<|ga_r (i:=8) (bz 32 511) rfl (by kernel_rfl) (by decide) rfl (r_move) ?_
       refine ga_if (t:=110) rfl (fun h671=>?_) (fun h671=>?_)
       ·
        replace hm:=ite_t hm (of_decide_eq_true h671)
        refine ga_no (i:=9) (bz 32 1023) rfl (by kernel_rfl) (fun _ _ _ _ h=>h) rfl rfl rfl rfl rfl h671<|ga_no (i:=10) (bz 32 2047) rfl (by kernel_rfl) (fun _ _ _ _ h=>h) rfl rfl rfl rfl rfl h671<|ga_no (i:=11) (bz 32 4095) rfl (by kernel_rfl) (fun _ _ _ _ h=>h) rfl rfl rfl rfl rfl h671<|ga_no (i:=12) (bz 32 8191) rfl (by kernel_rfl) (fun _ _ _ _ h=>h) rfl rfl rfl rfl rfl h671<|ga_r (i:=13) (bz 32 16383) rfl (by kernel_rfl) (by decide) rfl (r_pick1 rfl h671)<|ga_r (i:=14) (bz 32 32767) rfl (by kernel_rfl) (by decide) rfl (r_move)<|ga_no (i:=15) (bz 32 65535) rfl (by kernel_rfl) (fun _ _ _ _ h=>h) rfl rfl rfl rfl rfl rfl<|ga_no (i:=16) (bz 32 131071) rfl (by kernel_rfl) (fun _ _ _ _ h=>h) rfl rfl rfl rfl rfl rfl<|ga_no (i:=17) (bz 32 262143) rfl (by kernel_rfl) (fun _ _ _ _ h=>h) rfl rfl rfl rfl rfl rfl<|ga_nu (i:=18) (bz 32 524287) rfl (by kernel_rfl) (fun _ _ _ _ h=>h) rfl rfl rfl rfl rfl ?_
        refine ga_nu (i:=19) (bz 32 1048575) rfl (by kernel_rfl) (fun _ _ _ _ h=>h) rfl rfl rfl rfl rfl<|ga_nu (i:=20) (bz 32 2097151) rfl (by kernel_rfl) (fun _ _ _ _ h=>h) rfl rfl rfl rfl rfl<|ga_nu (i:=21) (bz 32 4194303) rfl (by kernel_rfl) (fun _ _ _ _ h=>h) rfl rfl rfl rfl rfl<|ga_nu (i:=22) (bz 32 8388607) rfl (by kernel_rfl) (fun _ _ _ _ h=>h) rfl rfl rfl rfl rfl<|ga_nu (i:=23) (bz 32 16777215) rfl (by kernel_rfl) (fun _ _ _ _ h=>h) rfl rfl rfl rfl rfl<|ga_nu (i:=24) (bz 32 33554431) rfl (by kernel_rfl) (fun _ _ _ _ h=>h) rfl rfl rfl rfl rfl<|ga_nu (i:=25) (bz 32 67108863) rfl (by kernel_rfl) (fun _ _ _ _ h=>h) rfl rfl rfl rfl rfl<|ga_nu (i:=26) (bz 32 134217727) rfl (by kernel_rfl) (fun _ _ _ _ h=>h) rfl rfl rfl rfl rfl<|ga_nu (i:=27) (bz 32 268435455) rfl (by kernel_rfl) (fun _ _ _ _ h=>h) rfl rfl rfl rfl rfl<|ga_nu (i:=28) (bz 32 536870911) rfl (by kernel_rfl) (fun _ _ _ _ h=>h) rfl rfl rfl rfl rfl ?_
        refine ga_nu (i:=29) (bz 32 1073741823) rfl (by kernel_rfl) (fun _ _ _ _ h=>h) rfl rfl rfl rfl rfl<|ga_no (i:=30) (bz 32 2147483647) rfl (by kernel_rfl) (fun _ _ _ _ h=>h) rfl rfl rfl rfl rfl rfl<|ga_r (i:=31) (bz 32 4294967295) rfl (by kernel_rfl) (by decide) rfl (r_pick1 rfl rfl)<|ga_done (by kernel_rfl)<|d_then ?_
        refine c_flat [(1,.pointer (some ⟨g1,0,none⟩)),(6,.int .i64 i585),(133,.bool true)] ⟨rfl,rfl,rfl,trivial⟩ (fun u=>?_)
        refine c_cond1 rfl rfl<|c_seq<|c_region<|g_v rfl r_assign<|g_nil<|d_then<|c_ret<|d_ret_block<|d_ret_then<|d_ret_then ?_
        refine d_ret_block<|d_ret_then<|d_ret_then ?_
        replace hm:=nx_out (C:=(fun e : Unit ⊕ Bool=>Sum.elim (fun e=>m_ref13_Right_j3 p0) (fun x=>some x) e = some r)) hm hnx10 hr10
        replace hm : some false = some r:=hm
        cases hm
        exact d_retC () Tryz.results20 (res_tmp (res_nil rfl)) trivial (fun W h=>ok_pre (H1:=[_,_]) (R1:=[]) h (fun W hφ=>hφ)) (.inr rfl)
       replace hm:=ite_f hm (of_decide_eq_false h671)
       refine ga_rG (i:=9) (bz 32 1023) rfl (by kernel_rfl) (by decide) rfl rfl rfl rfl rfl h671 (r_field (n:=1) Tryz.underlying55 rfl Tryz.sizeOf9 rfl rfl)<|ga_rG (i:=10) (bz 32 2047) rfl (by kernel_rfl) (by decide) rfl rfl rfl rfl rfl h671 (r_load (tag:=100070) rfl rfl rfl Tryz.isAgg9)<|ga_rG (i:=11) (bz 32 4095) rfl (by kernel_rfl) (by decide) rfl rfl rfl rfl rfl h671 (r_len Tryz.underlying9 rfl)<|ga_rG (i:=12) (bz 32 8191) rfl (by kernel_rfl) (by decide) rfl rfl rfl rfl rfl h671 (r_gtr rfl rfl)<|ga_r (i:=13) (bz 32 16383) rfl (by kernel_rfl) (by decide) rfl (r_pick0 rfl h671)<|ga_r (i:=14) (bz 32 32767) rfl (by kernel_rfl) (by decide) rfl (r_move) ?_
       refine ga_if (t:=116) rfl (fun h672=>?_) (fun h672=>?_)
       ·
        replace hm:=ite_t hm (of_decide_eq_true h672)
        refine ga_no (i:=15) (bz 32 65535) rfl (by kernel_rfl) (fun _ _ _ _ h=>h) rfl rfl rfl rfl rfl h672<|ga_no (i:=16) (bz 32 131071) rfl (by kernel_rfl) (fun _ _ _ _ h=>h) rfl rfl rfl rfl rfl h672<|ga_no (i:=17) (bz 32 262143) rfl (by kernel_rfl) (fun _ _ _ _ h=>h) rfl rfl rfl rfl rfl h672<|ga_nu (i:=18) (bz 32 524287) rfl (by kernel_rfl) (fun _ _ _ _ h=>h) rfl rfl rfl rfl rfl<|ga_nu (i:=19) (bz 32 1048575) rfl (by kernel_rfl) (fun _ _ _ _ h=>h) rfl rfl rfl rfl rfl<|ga_nu (i:=20) (bz 32 2097151) rfl (by kernel_rfl) (fun _ _ _ _ h=>h) rfl rfl rfl rfl rfl<|ga_nu (i:=21) (bz 32 4194303) rfl (by kernel_rfl) (fun _ _ _ _ h=>h) rfl rfl rfl rfl rfl<|ga_nu (i:=22) (bz 32 8388607) rfl (by kernel_rfl) (fun _ _ _ _ h=>h) rfl rfl rfl rfl rfl<|ga_nu (i:=23) (bz 32 16777215) rfl (by kernel_rfl) (fun _ _ _ _ h=>h) rfl rfl rfl rfl rfl<|ga_nu (i:=24) (bz 32 33554431) rfl (by kernel_rfl) (fun _ _ _ _ h=>h) rfl rfl rfl rfl rfl ?_
        refine ga_nu (i:=25) (bz 32 67108863) rfl (by kernel_rfl) (fun _ _ _ _ h=>h) rfl rfl rfl rfl rfl<|ga_nu (i:=26) (bz 32 134217727) rfl (by kernel_rfl) (fun _ _ _ _ h=>h) rfl rfl rfl rfl rfl<|ga_nu (i:=27) (bz 32 268435455) rfl (by kernel_rfl) (fun _ _ _ _ h=>h) rfl rfl rfl rfl rfl<|ga_nu (i:=28) (bz 32 536870911) rfl (by kernel_rfl) (fun _ _ _ _ h=>h) rfl rfl rfl rfl rfl<|ga_nu (i:=29) (bz 32 1073741823) rfl (by kernel_rfl) (fun _ _ _ _ h=>h) rfl rfl rfl rfl rfl<|ga_no (i:=30) (bz 32 2147483647) rfl (by kernel_rfl) (fun _ _ _ _ h=>h) rfl rfl rfl rfl rfl h672<|ga_r (i:=31) (bz 32 4294967295) rfl (by kernel_rfl) (by decide) rfl (r_pick1 rfl h672)<|ga_done (by kernel_rfl)<|d_then ?_
        refine c_flat [(1,.pointer (some ⟨g1,0,none⟩)),(6,.int .i64 i585),(133,.bool true)] ⟨rfl,rfl,rfl,trivial⟩ (fun u=>?_)
        refine c_cond1 rfl rfl<|c_seq<|c_region<|g_v rfl r_assign<|g_nil<|d_then<|c_ret<|d_ret_block<|d_ret_then<|d_ret_then ?_
        refine d_ret_block<|d_ret_then<|d_ret_then ?_
        replace hm:=nx_out (C:=(fun e : Unit ⊕ Bool=>Sum.elim (fun e=>m_ref13_Right_j3 p0) (fun x=>some x) e = some r)) hm hnx10 hr10
        replace hm : some false = some r:=hm
        cases hm
        exact d_retC () Tryz.results20 (res_tmp (res_nil rfl)) trivial (fun W h=>ok_pre (H1:=[_,_]) (R1:=[]) h (fun W hφ=>hφ)) (.inr rfl)
       replace hm:=ite_f hm (of_decide_eq_false h672)
       refine ga_rG (i:=15) (bz 32 65535) rfl (by kernel_rfl) (by decide) rfl rfl rfl rfl rfl h672 (r_move)<|ga_rG (i:=16) (bz 32 131071) rfl (by kernel_rfl) (by decide) rfl rfl rfl rfl rfl h672 (r_gtr rfl rfl)<|ga_rG (i:=17) (bz 32 262143) rfl (by kernel_rfl) (by decide) rfl rfl rfl rfl rfl h672 (r_move) ?_
       refine ga_if (t:=119) rfl (fun h673=>?_) (fun h673=>?_)
       ·
        replace hm:=ite_t hm (of_decide_eq_true h673)
        refine ga_do (i:=18) (bz 32 524287) rfl (by kernel_rfl) (fun _ _ _ _ h=>h) rfl rfl rfl rfl rfl h673 (r_field (n:=0) Tryz.underlying55 rfl Tryz.sizeOf9 rfl rfl)<|ga_do (i:=19) (bz 32 1048575) rfl (by kernel_rfl) (fun _ _ _ _ h=>h) rfl rfl rfl rfl rfl h673 (r_load (tag:=100070) rfl rfl rfl Tryz.isAgg9)<|ga_do (i:=21) (bz 32 3145727) rfl (by kernel_rfl) (fun _ _ _ _ h=>h) rfl rfl rfl rfl rfl h673 (r_field (n:=2) Tryz.underlying30 rfl Tryz.sizeOf27 rfl rfl)<|ga_do (i:=22) (bz 32 7340031) rfl (by kernel_rfl) (fun _ _ _ _ h=>h) rfl rfl rfl rfl rfl h673 (r_load (tag:=100010) rfl rfl rfl Tryz.isAgg27)<|ga_do (i:=23) (bz 32 15728639) rfl (by kernel_rfl) (fun _ _ _ _ h=>h) rfl rfl rfl rfl rfl h673 (r_move)<|ga_do (i:=24) (bz 32 32505855) rfl (by kernel_rfl) (fun _ _ _ _ h=>h) rfl rfl rfl rfl rfl h673 (r_sub rfl rfl rfl) ?_
        replace hm:=bnd hm
        obtain ⟨x674,hx674,hm⟩:=hm
        refine ga_know _ (fun W hS=>cl_at (p:=(Sta.mk w0 M H R φ).ok) (sz:=2) (fun _=>rfl) (by decide) (ok_pre (H1:=[_,_]) (R1:=[]) hS (fun W h=>h)) fp0_2 hx674) ?_
        rintro ⟨ad675,hA677,f676⟩
        refine ga_do (i:=25) (bz 32 66060287) rfl (by kernel_rfl) (fun _ _ _ _ h=>h) rfl rfl rfl rfl rfl h673 (r_ix Tryz.underlying27 Tryz.sizeOf55 rfl hA677 rfl hx674) ?_
        have f678:=fun (W : World) (h : (Sta.mk w0 M H R φ).ok W)=>Cl.drop (f676 W h) 0
        refine ga_do (i:=26) (bz 32 133169151) rfl (by kernel_rfl) (fun _ _ _ _ h=>h) rfl rfl rfl rfl rfl h673 (r_fieldF Tryz.underlying55 rfl Tryz.sizeOf9 rfl)<|ga_do (i:=27) (bz 32 267386879) rfl (by kernel_rfl) (fun _ _ _ _ h=>h) rfl rfl rfl rfl rfl h673 (r_ld rfl Tryz.isAgg9 (fun W hS=>Cl.head (f678 W (ok_pre (H1:=[_,_]) (R1:=[]) hS (fun W h=>h))))) ?_
        replace hm:=bnd hm
        obtain ⟨x679,hx680,hm⟩:=hm
        refine ga_cnG (first:=#[]) (i:=20) (bz 32 268435455) rfl (by kernel_rfl) (by decide) rfl rfl rfl rfl h673  ⟨w0,M,_,_,φ⟩ (fun _ h=>h) Tryz.call42 rfl rfl rfl (c_ref03_Lower x637.fName _ hx680) (fun _ W _ h=>h.phi (fun W hφ=>hφ)) (fun _ _=>?_)
        replace hm:=bnd hm
        obtain ⟨x681,hx682,hm⟩:=hm
        refine ga_cnG (first:=#[]) (i:=28) (bz 32 536870911) rfl (by kernel_rfl) (by decide) rfl rfl rfl rfl h673  ⟨w0,M,_,_,φ⟩ (fun _ h=>h) Tryz.call42 rfl rfl rfl (c_ref03_Lower x674.fName _ hx682) (fun _ W _ h=>h.phi (fun W hφ=>hφ)) (fun _ _=>?_)
        refine ga_rG (i:=29) (bz 32 1073741823) rfl (by kernel_rfl) (by decide) rfl rfl rfl rfl rfl h673 (r_leqT rfl rfl)<|ga_rG (i:=30) (bz 32 2147483647) rfl (by kernel_rfl) (by decide) rfl rfl rfl rfl rfl h672 (r_pick1 rfl h673)<|ga_r (i:=31) (bz 32 4294967295) rfl (by kernel_rfl) (by decide) rfl (r_pick0 rfl h672)<|ga_done (by kernel_rfl)<|d_then ?_
        refine c_flat [(1,.pointer (some ⟨g1,0,none⟩)),(6,.int .i64 i585),(133,.bool (sless x679 x681 || decide (x679 = x681)))] ⟨rfl,rfl,rfl,trivial⟩ (fun u=>?_)
        refine c_cond rfl (fun h683=>?_) (fun h683=>?_)
        ·
         replace hm:=ite_t hm h683
         refine c_seq<|c_region<|g_v rfl r_assign<|g_nil<|d_then<|c_ret<|d_ret_block<|d_ret_then<|d_ret_then<|d_ret_block ?_
         refine d_ret_then<|d_ret_then ?_
         replace hm:=nx_out (C:=(fun e : Unit ⊕ Bool=>Sum.elim (fun e=>m_ref13_Right_j3 p0) (fun x=>some x) e = some r)) hm hnx10 hr10
         replace hm : some false = some r:=hm
         cases hm
         exact d_retC () Tryz.results20 (res_tmp (res_nil rfl)) trivial (fun W h=>ok_pre (H1:=[_,_]) (R1:=[]) h (fun W hφ=>hφ)) (.inr rfl)
        replace hm:=ite_f hm (bool_nt h683)
        refine c_skip<|d_normal_block<|d_then<|c_region<|g_v rfl r_move<|g_v rfl (r_add rfl rfl rfl)<|g_v rfl r_assign<|g_nil ?_
        obtain ⟨n684,hn684,hlp⟩:=nx_inl hm hnx10
        exact d_round (n684,w64 (i585 + 1)) hlp hn684 ⟨rfl,rfl,trivial⟩ (fun W h=>(h.dropH (t:=100070) rfl).phi (fun W hφ=>hφ))
       replace hm:=ite_f hm (of_decide_eq_false h673)
       refine ga_no (i:=18) (bz 32 524287) rfl (by kernel_rfl) (fun _ _ _ _ h=>h) rfl rfl rfl rfl rfl h673<|ga_no (i:=19) (bz 32 1048575) rfl (by kernel_rfl) (fun _ _ _ _ h=>h) rfl rfl rfl rfl rfl h673<|ga_no (i:=20) (bz 32 2097151) rfl (by kernel_rfl) (fun _ _ _ _ h=>h) rfl rfl rfl rfl rfl h673<|ga_no (i:=21) (bz 32 4194303) rfl (by kernel_rfl) (fun _ _ _ _ h=>h) rfl rfl rfl rfl rfl h673<|ga_no (i:=22) (bz 32 8388607) rfl (by kernel_rfl) (fun _ _ _ _ h=>h) rfl rfl rfl rfl rfl h673<|ga_no (i:=23) (bz 32 16777215) rfl (by kernel_rfl) (fun _ _ _ _ h=>h) rfl rfl rfl rfl rfl h673<|ga_no (i:=24) (bz 32 33554431) rfl (by kernel_rfl) (fun _ _ _ _ h=>h) rfl rfl rfl rfl rfl h673<|ga_no (i:=25) (bz 32 67108863) rfl (by kernel_rfl) (fun _ _ _ _ h=>h) rfl rfl rfl rfl rfl h673<|ga_no (i:=26) (bz 32 134217727) rfl (by kernel_rfl) (fun _ _ _ _ h=>h) rfl rfl rfl rfl rfl h673<|ga_no (i:=27) (bz 32 268435455) rfl (by kernel_rfl) (fun _ _ _ _ h=>h) rfl rfl rfl rfl rfl h673 ?_
       refine ga_no (i:=28) (bz 32 536870911) rfl (by kernel_rfl) (fun _ _ _ _ h=>h) rfl rfl rfl rfl rfl h673<|ga_no (i:=29) (bz 32 1073741823) rfl (by kernel_rfl) (fun _ _ _ _ h=>h) rfl rfl rfl rfl rfl h673<|ga_rG (i:=30) (bz 32 2147483647) rfl (by kernel_rfl) (by decide) rfl rfl rfl rfl rfl h672 (r_pick0 rfl h673)<|ga_r (i:=31) (bz 32 4294967295) rfl (by kernel_rfl) (by decide) rfl (r_pick0 rfl h672)<|ga_done (by kernel_rfl)<|d_then ?_
       refine c_flat [(1,.pointer (some ⟨g1,0,none⟩)),(6,.int .i64 i585),(133,.bool false)] ⟨rfl,rfl,rfl,trivial⟩ (fun u=>?_)
       refine c_cond0 rfl rfl<|c_skip<|d_normal_block<|d_then<|c_region<|g_v rfl r_move<|g_v rfl (r_add rfl rfl rfl)<|g_v rfl r_assign<|g_nil ?_
       obtain ⟨n685,hn685,hlp⟩:=nx_inl hm hnx10
       exact d_round (n685,w64 (i585 + 1)) hlp hn685 ⟨rfl,rfl,trivial⟩ (fun W h=>(h.dropH (t:=100070) rfl).phi (fun W hφ=>hφ))
      replace hm:=ite_f hm (of_decide_eq_false h636)
      refine c_exit<|d_exit_then<|d_exit_then<|d_exit_block ?_
      replace hm:=nx_out (C:=(fun e : Unit ⊕ Bool=>Sum.elim (fun e=>m_ref13_Right_j3 p0) (fun x=>some x) e = some r)) hm hnx10 hr10
      exact d_round () hm Nat.zero_lt_one ⟨rfl,trivial⟩ (fun W h=>h.phi (fun W hφ=>hφ))
     unfold m_ref13_Right_j3 at hm
     refine d_flat [(1,.pointer (some ⟨g1,0,none⟩))] ⟨rfl,trivial⟩ (fun u=>?_)
     refine d_then<|c_seq<|c_seq<|c_region<|g_v rfl r_assign<|g_nil<|d_then ?_
     refine c_cut (ι:=Unit) [] (fun _=>[]) (fun _=>⟨w0,M,H,R,φ⟩) (fun _=>m_ref13_Right_j4 = some r) ?_ (fun _ u hm=>?_)
     ·
      refine c_block ?_
      replace hm:=bnd hm
      obtain ⟨out5,hl5,hr5⟩:=hm
      obtain ⟨n395',hl5⟩:=loop_lp hl5
      refine c_loopU (ι:=Nat×Int) [1,9] (fun ⟨n395,i298⟩=>[(9,.int .i64 i298)]) (fun ⟨n395,i298⟩=>⟨w0,M,(100010,g1,.cells #[.slice Ap0_0 p0.fRing.length cp0_0,.slice Ap0_1 p0.fHints.length cp0_1,.slice Ap0_2 p0.fAnchors.length cp0_2,.int .i64 p0.fEpoch,.slice Ap0_3 p0.fFlushes.length cp0_3] 30 (0,0))::H,R,φ⟩) (fun ⟨n395,i298⟩=>Lp (fun s=>m_ref13_Right_s5 p0 s) n395 i298 out5) (fun ⟨n395,i298⟩=>n395) (n395',0) hl5 ⟨rfl,rfl,trivial⟩ (fun W h=>h.phi (fun W hφ=>hφ)) (fun ⟨n395,i298⟩ u hlp=>?_)
      obtain ⟨o5,hm,hnx5⟩:=lp_step hlp
      clear hlp
      replace hm : m_ref13_Right_s5 p0 i298 = some o5:=hm
      unfold m_ref13_Right_s5 at hm
      refine c_flat [(1,.pointer (some ⟨g1,0,none⟩)),(9,.int .i64 i298)] ⟨rfl,rfl,trivial⟩ (fun u=>?_)
      refine c_seq<|c_seq<|c_region<|g_v rfl r_move<|g_v rfl (r_field (n:=4) Tryz.underlying30 rfl Tryz.sizeOf28 rfl rfl)<|g_v rfl (r_load (tag:=100010) rfl rfl rfl Tryz.isAgg28)<|g_v rfl (r_lenL Tryz.underlying28 rfl)<|g_v rfl (r_lss rfl rfl)<|g_nil<|d_then ?_
      refine c_cond rfl (fun h396=>?_) (fun h396=>?_)
      ·
       replace hm:=ite_t hm (of_decide_eq_true h396)
       refine c_skip<|d_then<|c_seq<|c_block<|c_seq<|c_region<|g_v rfl (r_field (n:=4) Tryz.underlying30 rfl Tryz.sizeOf28 rfl rfl)<|g_v rfl (r_load (tag:=100010) rfl rfl rfl Tryz.isAgg28)<|g_v rfl r_move ?_
       replace hm:=bnd hm
       obtain ⟨x397,hx397,hm⟩:=hm
       refine g_know _ (fun W hS=>cl_at (p:=(Sta.mk w0 M H R φ).ok) (sz:=2) (fun _=>rfl) (by decide) (ok_pre (H1:=[_]) (R1:=[]) hS (fun W h=>h)) fp0_3 hx397) ?_
       rintro ⟨ad398,hA400,f399⟩
       refine g_v rfl (r_ix Tryz.underlying28 Tryz.sizeOf48 rfl hA400 rfl hx397)<|g_v rfl (r_ldA rfl Tryz.isAgg48 Tryz.sizeOf48 (fun W hS=>(f399 W (ok_pre (H1:=[_]) (R1:=[]) hS (fun W h=>h))).take 2) rfl) ?_
       refine g_e rfl (e_alloc 100100 Tryz.zeroValue48) (fun g401 _=>?_)
       refine g_storeL (tag:=100100) rfl rfl rfl rfl Tryz.sizeOf48 rfl rfl<|g_nil<|d_then ?_
       refine c_flat [(1,.pointer (some ⟨g1,0,none⟩)),(9,.int .i64 i298),(10,.pointer (some ⟨g401,0,none⟩))] ⟨rfl,rfl,rfl,trivial⟩ (fun u=>?_)
       refine c_sta ⟨w0,M,(100100,g401,.cells #[.int .i64 x397.fEpoch,.string x397.fZone] 48 (0,0))::(100010,g1,.cells #[.slice Ap0_0 p0.fRing.length cp0_0,.slice Ap0_1 p0.fHints.length cp0_1,.slice Ap0_2 p0.fAnchors.length cp0_2,.int .i64 p0.fEpoch,.slice Ap0_3 p0.fFlushes.length cp0_3] 30 (0,0))::H,R,φ⟩ (fun _ h=>h)<|c_seq<|c_region<|g_v rfl (r_field (n:=1) Tryz.underlying48 rfl Tryz.sizeOf9 rfl rfl)<|g_v rfl (r_load (tag:=100100) rfl rfl rfl Tryz.isAgg9) ?_
       replace hm:=bnd hm
       obtain ⟨x402,hx403,hm⟩:=hm
       refine g_cn ⟨w0,M,_,_,φ⟩ (fun _ h=>h) Tryz.call80 rfl rfl (c_ref13_name x397.fZone _ hx403) (fun _ _=>?_)
       refine g_v rfl r_assign<|g_nil<|d_then<|c_seq<|c_seq<|ga_start (n:=38) ⟨w0,M,(100100,g401,.cells #[.int .i64 x397.fEpoch,.string x397.fZone] 48 (0,0))::(100010,g1,.cells #[.slice Ap0_0 p0.fRing.length cp0_0,.slice Ap0_1 p0.fHints.length cp0_1,.slice Ap0_2 p0.fAnchors.length cp0_2,.int .i64 p0.fEpoch,.slice Ap0_3 p0.fFlushes.length cp0_3] 30 (0,0))::H,R,φ⟩ [] #[false,false,false,false,false,false,false,false,false,false,false,false,false,false,false,false,false,false,false,false,false,false,false,false,false,false,false,false,false,false,false,false,false,false,false,false,false,false] (fun W h=>h.phi (fun W hφ=>hφ)) mixed rfl rfl<|ga_r (i:=0) (bz 38 1) rfl (by kernel_rfl) (by decide) rfl (r_move)<|ga_r (i:=1) (bz 38 3) rfl (by kernel_rfl) (by decide) rfl (r_not rfl)<|ga_r (i:=2) (bz 38 7) rfl (by kernel_rfl) (by decide) rfl (r_move) ?_
       refine ga_if (t:=151) rfl (fun h428=>?_) (fun h428=>?_)
       ·
        have h428' : x402 = false:=by revert h428; cases x402 <;> simp
        replace hm:=ite_f hm (bool_nt h428')
        refine ga_no (i:=3) (bz 38 15) rfl (by kernel_rfl) (fun _ _ _ _ h=>h) rfl rfl rfl rfl rfl h428<|ga_no (i:=4) (bz 38 31) rfl (by kernel_rfl) (fun _ _ _ _ h=>h) rfl rfl rfl rfl rfl h428<|ga_no (i:=5) (bz 38 63) rfl (by kernel_rfl) (fun _ _ _ _ h=>h) rfl rfl rfl rfl rfl h428<|ga_no (i:=6) (bz 38 127) rfl (by kernel_rfl) (fun _ _ _ _ h=>h) rfl rfl rfl rfl rfl h428<|ga_no (i:=7) (bz 38 255) rfl (by kernel_rfl) (fun _ _ _ _ h=>h) rfl rfl rfl rfl rfl h428<|ga_no (i:=8) (bz 38 511) rfl (by kernel_rfl) (fun _ _ _ _ h=>h) rfl rfl rfl rfl rfl h428<|ga_r (i:=9) (bz 38 1023) rfl (by kernel_rfl) (by decide) rfl (r_pick1 rfl h428)<|ga_r (i:=10) (bz 38 2047) rfl (by kernel_rfl) (by decide) rfl (r_move)<|ga_no (i:=11) (bz 38 4095) rfl (by kernel_rfl) (fun _ _ _ _ h=>h) rfl rfl rfl rfl rfl rfl<|ga_no (i:=12) (bz 38 8191) rfl (by kernel_rfl) (fun _ _ _ _ h=>h) rfl rfl rfl rfl rfl rfl ?_
        refine ga_no (i:=13) (bz 38 16383) rfl (by kernel_rfl) (fun _ _ _ _ h=>h) rfl rfl rfl rfl rfl rfl<|ga_r (i:=14) (bz 38 32767) rfl (by kernel_rfl) (by decide) rfl (r_pick1 rfl rfl)<|ga_r (i:=15) (bz 38 65535) rfl (by kernel_rfl) (by decide) rfl (r_move)<|ga_no (i:=16) (bz 38 131071) rfl (by kernel_rfl) (fun _ _ _ _ h=>h) rfl rfl rfl rfl rfl rfl<|ga_no (i:=17) (bz 38 262143) rfl (by kernel_rfl) (fun _ _ _ _ h=>h) rfl rfl rfl rfl rfl rfl<|ga_no (i:=18) (bz 38 524287) rfl (by kernel_rfl) (fun _ _ _ _ h=>h) rfl rfl rfl rfl rfl rfl<|ga_no (i:=19) (bz 38 1048575) rfl (by kernel_rfl) (fun _ _ _ _ h=>h) rfl rfl rfl rfl rfl rfl<|ga_no (i:=20) (bz 38 2097151) rfl (by kernel_rfl) (fun _ _ _ _ h=>h) rfl rfl rfl rfl rfl rfl<|ga_r (i:=21) (bz 38 4194303) rfl (by kernel_rfl) (by decide) rfl (r_pick1 rfl rfl)<|ga_r (i:=22) (bz 38 8388607) rfl (by kernel_rfl) (by decide) rfl (r_move) ?_
        refine ga_no (i:=23) (bz 38 16777215) rfl (by kernel_rfl) (fun _ _ _ _ h=>h) rfl rfl rfl rfl rfl rfl<|ga_no (i:=24) (bz 38 33554431) rfl (by kernel_rfl) (fun _ _ _ _ h=>h) rfl rfl rfl rfl rfl rfl<|ga_no (i:=25) (bz 38 67108863) rfl (by kernel_rfl) (fun _ _ _ _ h=>h) rfl rfl rfl rfl rfl rfl<|ga_nu (i:=26) (bz 38 134217727) rfl (by kernel_rfl) (fun _ _ _ _ h=>h) rfl rfl rfl rfl rfl<|ga_nu (i:=27) (bz 38 268435455) rfl (by kernel_rfl) (fun _ _ _ _ h=>h) rfl rfl rfl rfl rfl<|ga_nu (i:=28) (bz 38 536870911) rfl (by kernel_rfl) (fun _ _ _ _ h=>h) rfl rfl rfl rfl rfl<|ga_nu (i:=29) (bz 38 1073741823) rfl (by kernel_rfl) (fun _ _ _ _ h=>h) rfl rfl rfl rfl rfl<|ga_nu (i:=30) (bz 38 2147483647) rfl (by kernel_rfl) (fun _ _ _ _ h=>h) rfl rfl rfl rfl rfl<|ga_nu (i:=31) (bz 38 4294967295) rfl (by kernel_rfl) (fun _ _ _ _ h=>h) rfl rfl rfl rfl rfl<|ga_nu (i:=32) (bz 38 8589934591) rfl (by kernel_rfl) (fun _ _ _ _ h=>h) rfl rfl rfl rfl rfl ?_
        refine ga_nu (i:=33) (bz 38 17179869183) rfl (by kernel_rfl) (fun _ _ _ _ h=>h) rfl rfl rfl rfl rfl<|ga_nu (i:=34) (bz 38 34359738367) rfl (by kernel_rfl) (fun _ _ _ _ h=>h) rfl rfl rfl rfl rfl<|ga_nu (i:=35) (bz 38 68719476735) rfl (by kernel_rfl) (fun _ _ _ _ h=>h) rfl rfl rfl rfl rfl<|ga_no (i:=36) (bz 38 137438953471) rfl (by kernel_rfl) (fun _ _ _ _ h=>h) rfl rfl rfl rfl rfl rfl<|ga_r (i:=37) (bz 38 274877906943) rfl (by kernel_rfl) (by decide) rfl (r_pick1 rfl rfl)<|ga_done (by kernel_rfl)<|d_then ?_
        refine c_flat [(1,.pointer (some ⟨g1,0,none⟩)),(9,.int .i64 i298),(10,.pointer (some ⟨g401,0,none⟩)),(186,.bool true)] ⟨rfl,rfl,rfl,rfl,trivial⟩ (fun u=>?_)
        refine c_cond1 rfl rfl<|c_seq<|c_region<|g_v rfl r_assign<|g_nil<|d_then<|c_ret<|d_ret_then<|d_ret_block<|d_ret_then ?_
        refine d_ret_then<|d_ret_block<|d_ret_then<|d_ret_then ?_
        replace hm:=nx_out (C:=(fun e : Unit ⊕ Bool=>Sum.elim (fun e=>m_ref13_Right_j4) (fun x=>some x) e = some r)) hm hnx5 hr5
        replace hm : some false = some r:=hm
        cases hm
        exact d_retC () Tryz.results20 (res_tmp (res_nil rfl)) trivial (fun W h=>ok_pre (H1:=[_,_]) (R1:=[]) h (fun W hφ=>hφ)) (.inr rfl)
       have h428' : x402 = true:=by revert h428; cases x402 <;> simp
       replace hm:=ite_t hm h428'
       refine ga_do (i:=3) (bz 38 15) rfl (by kernel_rfl) (fun _ _ _ _ h=>h) rfl rfl rfl rfl rfl h428 (r_field (n:=1) Tryz.underlying48 rfl Tryz.sizeOf9 rfl rfl)<|ga_do (i:=4) (bz 38 31) rfl (by kernel_rfl) (fun _ _ _ _ h=>h) rfl rfl rfl rfl rfl h428 (r_load (tag:=100100) rfl rfl rfl Tryz.isAgg9)<|ga_do (i:=6) (bz 38 95) rfl (by kernel_rfl) (fun _ _ _ _ h=>h) rfl rfl rfl rfl rfl h428 (r_field (n:=1) Tryz.underlying48 rfl Tryz.sizeOf9 rfl rfl)<|ga_do (i:=7) (bz 38 223) rfl (by kernel_rfl) (fun _ _ _ _ h=>h) rfl rfl rfl rfl rfl h428 (r_load (tag:=100100) rfl rfl rfl Tryz.isAgg9) ?_
       replace hm:=bnd hm
       obtain ⟨x429,hx430,hm⟩:=hm
       refine ga_cnG (first:=#[]) (i:=5) (bz 38 255) rfl (by kernel_rfl) (by decide) rfl rfl rfl rfl h428  ⟨w0,M,_,_,φ⟩ (fun _ h=>h) Tryz.call42 rfl rfl rfl (c_ref03_Lower x397.fZone _ hx430) (fun _ W _ h=>h.phi (fun W hφ=>hφ)) (fun _ _=>?_)
       refine ga_rG (i:=8) (bz 38 511) rfl (by kernel_rfl) (by decide) rfl rfl rfl rfl rfl h428 (r_neqT rfl rfl)<|ga_r (i:=9) (bz 38 1023) rfl (by kernel_rfl) (by decide) rfl (r_pick0 rfl h428)<|ga_r (i:=10) (bz 38 2047) rfl (by kernel_rfl) (by decide) rfl (r_move) ?_
       refine ga_if (t:=159) rfl (fun h431=>?_) (fun h431=>?_)
       ·
        have h431' : (decide (x429 = x397.fZone)) = false:=by revert h431; cases (decide (x429 = x397.fZone)) <;> simp
        replace hm:=ite_f hm (of_decide_eq_false h431')
        refine ga_no (i:=11) (bz 38 4095) rfl (by kernel_rfl) (fun _ _ _ _ h=>h) rfl rfl rfl rfl rfl h431<|ga_no (i:=12) (bz 38 8191) rfl (by kernel_rfl) (fun _ _ _ _ h=>h) rfl rfl rfl rfl rfl h431<|ga_no (i:=13) (bz 38 16383) rfl (by kernel_rfl) (fun _ _ _ _ h=>h) rfl rfl rfl rfl rfl h431<|ga_r (i:=14) (bz 38 32767) rfl (by kernel_rfl) (by decide) rfl (r_pick1 rfl h431)<|ga_r (i:=15) (bz 38 65535) rfl (by kernel_rfl) (by decide) rfl (r_move)<|ga_no (i:=16) (bz 38 131071) rfl (by kernel_rfl) (fun _ _ _ _ h=>h) rfl rfl rfl rfl rfl rfl<|ga_no (i:=17) (bz 38 262143) rfl (by kernel_rfl) (fun _ _ _ _ h=>h) rfl rfl rfl rfl rfl rfl<|ga_no (i:=18) (bz 38 524287) rfl (by kernel_rfl) (fun _ _ _ _ h=>h) rfl rfl rfl rfl rfl rfl<|ga_no (i:=19) (bz 38 1048575) rfl (by kernel_rfl) (fun _ _ _ _ h=>h) rfl rfl rfl rfl rfl rfl<|ga_no (i:=20) (bz 38 2097151) rfl (by kernel_rfl) (fun _ _ _ _ h=>h) rfl rfl rfl rfl rfl rfl ?_
        refine ga_r (i:=21) (bz 38 4194303) rfl (by kernel_rfl) (by decide) rfl (r_pick1 rfl rfl)<|ga_r (i:=22) (bz 38 8388607) rfl (by kernel_rfl) (by decide) rfl (r_move)<|ga_no (i:=23) (bz 38 16777215) rfl (by kernel_rfl) (fun _ _ _ _ h=>h) rfl rfl rfl rfl rfl rfl<|ga_no (i:=24) (bz 38 33554431) rfl (by kernel_rfl) (fun _ _ _ _ h=>h) rfl rfl rfl rfl rfl rfl<|ga_no (i:=25) (bz 38 67108863) rfl (by kernel_rfl) (fun _ _ _ _ h=>h) rfl rfl rfl rfl rfl rfl<|ga_nu (i:=26) (bz 38 134217727) rfl (by kernel_rfl) (fun _ _ _ _ h=>h) rfl rfl rfl rfl rfl<|ga_nu (i:=27) (bz 38 268435455) rfl (by kernel_rfl) (fun _ _ _ _ h=>h) rfl rfl rfl rfl rfl<|ga_nu (i:=28) (bz 38 536870911) rfl (by kernel_rfl) (fun _ _ _ _ h=>h) rfl rfl rfl rfl rfl<|ga_nu (i:=29) (bz 38 1073741823) rfl (by kernel_rfl) (fun _ _ _ _ h=>h) rfl rfl rfl rfl rfl<|ga_nu (i:=30) (bz 38 2147483647) rfl (by kernel_rfl) (fun _ _ _ _ h=>h) rfl rfl rfl rfl rfl ?_
        refine ga_nu (i:=31) (bz 38 4294967295) rfl (by kernel_rfl) (fun _ _ _ _ h=>h) rfl rfl rfl rfl rfl<|ga_nu (i:=32) (bz 38 8589934591) rfl (by kernel_rfl) (fun _ _ _ _ h=>h) rfl rfl rfl rfl rfl<|ga_nu (i:=33) (bz 38 17179869183) rfl (by kernel_rfl) (fun _ _ _ _ h=>h) rfl rfl rfl rfl rfl<|ga_nu (i:=34) (bz 38 34359738367) rfl (by kernel_rfl) (fun _ _ _ _ h=>h) rfl rfl rfl rfl rfl<|ga_nu (i:=35) (bz 38 68719476735) rfl (by kernel_rfl) (fun _ _ _ _ h=>h) rfl rfl rfl rfl rfl<|ga_no (i:=36) (bz 38 137438953471) rfl (by kernel_rfl) (fun _ _ _ _ h=>h) rfl rfl rfl rfl rfl rfl<|ga_r (i:=37) (bz 38 274877906943) rfl (by kernel_rfl) (by decide) rfl (r_pick1 rfl rfl)<|ga_done (by kernel_rfl)<|d_then ?_
        refine c_flat [(1,.pointer (some ⟨g1,0,none⟩)),(9,.int .i64 i298),(10,.pointer (some ⟨g401,0,none⟩)),(186,.bool true)] ⟨rfl,rfl,rfl,rfl,trivial⟩ (fun u=>?_)
        refine c_cond1 rfl rfl<|c_seq<|c_region<|g_v rfl r_assign<|g_nil<|d_then<|c_ret<|d_ret_then<|d_ret_block<|d_ret_then ?_
        refine d_ret_then<|d_ret_block<|d_ret_then<|d_ret_then ?_
        replace hm:=nx_out (C:=(fun e : Unit ⊕ Bool=>Sum.elim (fun e=>m_ref13_Right_j4) (fun x=>some x) e = some r)) hm hnx5 hr5
        replace hm : some false = some r:=hm
        cases hm
        exact d_retC () Tryz.results20 (res_tmp (res_nil rfl)) trivial (fun W h=>ok_pre (H1:=[_,_]) (R1:=[]) h (fun W hφ=>hφ)) (.inr rfl)
       have h431' : (decide (x429 = x397.fZone)) = true:=by revert h431; cases (decide (x429 = x397.fZone)) <;> simp
       replace hm:=ite_t hm (of_decide_eq_true h431')
       refine ga_rG (i:=11) (bz 38 4095) rfl (by kernel_rfl) (by decide) rfl rfl rfl rfl rfl h431 (r_field (n:=0) Tryz.underlying48 rfl Tryz.sizeOf3 rfl rfl)<|ga_rG (i:=12) (bz 38 8191) rfl (by kernel_rfl) (by decide) rfl rfl rfl rfl rfl h431 (r_load (tag:=100100) rfl rfl rfl Tryz.isAgg3)<|ga_rG (i:=13) (bz 38 16383) rfl (by kernel_rfl) (by decide) rfl rfl rfl rfl rfl h431 (r_lss rfl rfl)<|ga_r (i:=14) (bz 38 32767) rfl (by kernel_rfl) (by decide) rfl (r_pick0 rfl h431)<|ga_r (i:=15) (bz 38 65535) rfl (by kernel_rfl) (by decide) rfl (r_move) ?_
       refine ga_if (t:=164) rfl (fun h432=>?_) (fun h432=>?_)
       ·
        replace hm:=ite_t hm (of_decide_eq_true h432)
        refine ga_no (i:=16) (bz 38 131071) rfl (by kernel_rfl) (fun _ _ _ _ h=>h) rfl rfl rfl rfl rfl h432<|ga_no (i:=17) (bz 38 262143) rfl (by kernel_rfl) (fun _ _ _ _ h=>h) rfl rfl rfl rfl rfl h432<|ga_no (i:=18) (bz 38 524287) rfl (by kernel_rfl) (fun _ _ _ _ h=>h) rfl rfl rfl rfl rfl h432<|ga_no (i:=19) (bz 38 1048575) rfl (by kernel_rfl) (fun _ _ _ _ h=>h) rfl rfl rfl rfl rfl h432<|ga_no (i:=20) (bz 38 2097151) rfl (by kernel_rfl) (fun _ _ _ _ h=>h) rfl rfl rfl rfl rfl h432<|ga_r (i:=21) (bz 38 4194303) rfl (by kernel_rfl) (by decide) rfl (r_pick1 rfl h432)<|ga_r (i:=22) (bz 38 8388607) rfl (by kernel_rfl) (by decide) rfl (r_move)<|ga_no (i:=23) (bz 38 16777215) rfl (by kernel_rfl) (fun _ _ _ _ h=>h) rfl rfl rfl rfl rfl rfl<|ga_no (i:=24) (bz 38 33554431) rfl (by kernel_rfl) (fun _ _ _ _ h=>h) rfl rfl rfl rfl rfl rfl<|ga_no (i:=25) (bz 38 67108863) rfl (by kernel_rfl) (fun _ _ _ _ h=>h) rfl rfl rfl rfl rfl rfl ?_
        refine ga_nu (i:=26) (bz 38 134217727) rfl (by kernel_rfl) (fun _ _ _ _ h=>h) rfl rfl rfl rfl rfl<|ga_nu (i:=27) (bz 38 268435455) rfl (by kernel_rfl) (fun _ _ _ _ h=>h) rfl rfl rfl rfl rfl<|ga_nu (i:=28) (bz 38 536870911) rfl (by kernel_rfl) (fun _ _ _ _ h=>h) rfl rfl rfl rfl rfl<|ga_nu (i:=29) (bz 38 1073741823) rfl (by kernel_rfl) (fun _ _ _ _ h=>h) rfl rfl rfl rfl rfl<|ga_nu (i:=30) (bz 38 2147483647) rfl (by kernel_rfl) (fun _ _ _ _ h=>h) rfl rfl rfl rfl rfl<|ga_nu (i:=31) (bz 38 4294967295) rfl (by kernel_rfl) (fun _ _ _ _ h=>h) rfl rfl rfl rfl rfl<|ga_nu (i:=32) (bz 38 8589934591) rfl (by kernel_rfl) (fun _ _ _ _ h=>h) rfl rfl rfl rfl rfl<|ga_nu (i:=33) (bz 38 17179869183) rfl (by kernel_rfl) (fun _ _ _ _ h=>h) rfl rfl rfl rfl rfl<|ga_nu (i:=34) (bz 38 34359738367) rfl (by kernel_rfl) (fun _ _ _ _ h=>h) rfl rfl rfl rfl rfl<|ga_nu (i:=35) (bz 38 68719476735) rfl (by kernel_rfl) (fun _ _ _ _ h=>h) rfl rfl rfl rfl rfl ?_
        refine ga_no (i:=36) (bz 38 137438953471) rfl (by kernel_rfl) (fun _ _ _ _ h=>h) rfl rfl rfl rfl rfl rfl<|ga_r (i:=37) (bz 38 274877906943) rfl (by kernel_rfl) (by decide) rfl (r_pick1 rfl rfl)<|ga_done (by kernel_rfl)<|d_then ?_
        refine c_flat [(1,.pointer (some ⟨g1,0,none⟩)),(9,.int .i64 i298),(10,.pointer (some ⟨g401,0,none⟩)),(186,.bool true)] ⟨rfl,rfl,rfl,rfl,trivial⟩ (fun u=>?_)
        refine c_cond1 rfl rfl<|c_seq<|c_region<|g_v rfl r_assign<|g_nil<|d_then<|c_ret<|d_ret_then<|d_ret_block<|d_ret_then ?_
        refine d_ret_then<|d_ret_block<|d_ret_then<|d_ret_then ?_
        replace hm:=nx_out (C:=(fun e : Unit ⊕ Bool=>Sum.elim (fun e=>m_ref13_Right_j4) (fun x=>some x) e = some r)) hm hnx5 hr5
        replace hm : some false = some r:=hm
        cases hm
        exact d_retC () Tryz.results20 (res_tmp (res_nil rfl)) trivial (fun W h=>ok_pre (H1:=[_,_]) (R1:=[]) h (fun W hφ=>hφ)) (.inr rfl)
       replace hm:=ite_f hm (of_decide_eq_false h432)
       refine ga_do (i:=16) (bz 38 131071) rfl (by kernel_rfl) (fun _ _ _ _ h=>h) rfl rfl rfl rfl rfl h432 (r_field (n:=0) Tryz.underlying48 rfl Tryz.sizeOf3 rfl rfl)<|ga_do (i:=17) (bz 38 262143) rfl (by kernel_rfl) (fun _ _ _ _ h=>h) rfl rfl rfl rfl rfl h432 (r_load (tag:=100100) rfl rfl rfl Tryz.isAgg3)<|ga_rG (i:=18) (bz 38 524287) rfl (by kernel_rfl) (by decide) rfl rfl rfl rfl rfl h432 (r_field (n:=3) Tryz.underlying30 rfl Tryz.sizeOf3 rfl rfl)<|ga_rG (i:=19) (bz 38 1048575) rfl (by kernel_rfl) (by decide) rfl rfl rfl rfl rfl h432 (r_load (tag:=100010) rfl rfl rfl Tryz.isAgg3)<|ga_rG (i:=20) (bz 38 2097151) rfl (by kernel_rfl) (by decide) rfl rfl rfl rfl rfl h432 (r_gtr rfl rfl)<|ga_r (i:=21) (bz 38 4194303) rfl (by kernel_rfl) (by decide) rfl (r_pick0 rfl h432)<|ga_r (i:=22) (bz 38 8388607) rfl (by kernel_rfl) (by decide) rfl (r_move) ?_
       refine ga_if (t:=171) rfl (fun h433=>?_) (fun h433=>?_)
       ·
        replace hm:=ite_t hm (of_decide_eq_true h433)
        refine ga_no (i:=23) (bz 38 16777215) rfl (by kernel_rfl) (fun _ _ _ _ h=>h) rfl rfl rfl rfl rfl h433<|ga_no (i:=24) (bz 38 33554431) rfl (by kernel_rfl) (fun _ _ _ _ h=>h) rfl rfl rfl rfl rfl h433<|ga_no (i:=25) (bz 38 67108863) rfl (by kernel_rfl) (fun _ _ _ _ h=>h) rfl rfl rfl rfl rfl h433<|ga_nu (i:=26) (bz 38 134217727) rfl (by kernel_rfl) (fun _ _ _ _ h=>h) rfl rfl rfl rfl rfl<|ga_nu (i:=27) (bz 38 268435455) rfl (by kernel_rfl) (fun _ _ _ _ h=>h) rfl rfl rfl rfl rfl<|ga_nu (i:=28) (bz 38 536870911) rfl (by kernel_rfl) (fun _ _ _ _ h=>h) rfl rfl rfl rfl rfl<|ga_nu (i:=29) (bz 38 1073741823) rfl (by kernel_rfl) (fun _ _ _ _ h=>h) rfl rfl rfl rfl rfl<|ga_nu (i:=30) (bz 38 2147483647) rfl (by kernel_rfl) (fun _ _ _ _ h=>h) rfl rfl rfl rfl rfl<|ga_nu (i:=31) (bz 38 4294967295) rfl (by kernel_rfl) (fun _ _ _ _ h=>h) rfl rfl rfl rfl rfl<|ga_nu (i:=32) (bz 38 8589934591) rfl (by kernel_rfl) (fun _ _ _ _ h=>h) rfl rfl rfl rfl rfl ?_
        refine ga_nu (i:=33) (bz 38 17179869183) rfl (by kernel_rfl) (fun _ _ _ _ h=>h) rfl rfl rfl rfl rfl<|ga_nu (i:=34) (bz 38 34359738367) rfl (by kernel_rfl) (fun _ _ _ _ h=>h) rfl rfl rfl rfl rfl<|ga_nu (i:=35) (bz 38 68719476735) rfl (by kernel_rfl) (fun _ _ _ _ h=>h) rfl rfl rfl rfl rfl<|ga_no (i:=36) (bz 38 137438953471) rfl (by kernel_rfl) (fun _ _ _ _ h=>h) rfl rfl rfl rfl rfl h433<|ga_r (i:=37) (bz 38 274877906943) rfl (by kernel_rfl) (by decide) rfl (r_pick1 rfl h433)<|ga_done (by kernel_rfl)<|d_then ?_
        refine c_flat [(1,.pointer (some ⟨g1,0,none⟩)),(9,.int .i64 i298),(10,.pointer (some ⟨g401,0,none⟩)),(186,.bool true)] ⟨rfl,rfl,rfl,rfl,trivial⟩ (fun u=>?_)
        refine c_cond1 rfl rfl<|c_seq<|c_region<|g_v rfl r_assign<|g_nil<|d_then<|c_ret<|d_ret_then<|d_ret_block<|d_ret_then ?_
        refine d_ret_then<|d_ret_block<|d_ret_then<|d_ret_then ?_
        replace hm:=nx_out (C:=(fun e : Unit ⊕ Bool=>Sum.elim (fun e=>m_ref13_Right_j4) (fun x=>some x) e = some r)) hm hnx5 hr5
        replace hm : some false = some r:=hm
        cases hm
        exact d_retC () Tryz.results20 (res_tmp (res_nil rfl)) trivial (fun W h=>ok_pre (H1:=[_,_]) (R1:=[]) h (fun W hφ=>hφ)) (.inr rfl)
       replace hm:=ite_f hm (of_decide_eq_false h433)
       refine ga_rG (i:=23) (bz 38 16777215) rfl (by kernel_rfl) (by decide) rfl rfl rfl rfl rfl h433 (r_move)<|ga_rG (i:=24) (bz 38 33554431) rfl (by kernel_rfl) (by decide) rfl rfl rfl rfl rfl h433 (r_gtr rfl rfl)<|ga_rG (i:=25) (bz 38 67108863) rfl (by kernel_rfl) (by decide) rfl rfl rfl rfl rfl h433 (r_move) ?_
       refine ga_if (t:=174) rfl (fun h434=>?_) (fun h434=>?_)
       ·
        replace hm:=ite_t hm (of_decide_eq_true h434)
        refine ga_do (i:=26) (bz 38 134217727) rfl (by kernel_rfl) (fun _ _ _ _ h=>h) rfl rfl rfl rfl rfl h434 (r_field (n:=0) Tryz.underlying48 rfl Tryz.sizeOf3 rfl rfl)<|ga_do (i:=27) (bz 38 268435455) rfl (by kernel_rfl) (fun _ _ _ _ h=>h) rfl rfl rfl rfl rfl h434 (r_load (tag:=100100) rfl rfl rfl Tryz.isAgg3)<|ga_do (i:=28) (bz 38 536870911) rfl (by kernel_rfl) (fun _ _ _ _ h=>h) rfl rfl rfl rfl rfl h434 (r_field (n:=4) Tryz.underlying30 rfl Tryz.sizeOf28 rfl rfl)<|ga_do (i:=29) (bz 38 1073741823) rfl (by kernel_rfl) (fun _ _ _ _ h=>h) rfl rfl rfl rfl rfl h434 (r_load (tag:=100010) rfl rfl rfl Tryz.isAgg28)<|ga_rG (i:=30) (bz 38 2147483647) rfl (by kernel_rfl) (by decide) rfl rfl rfl rfl rfl h434 (r_move)<|ga_rG (i:=31) (bz 38 4294967295) rfl (by kernel_rfl) (by decide) rfl rfl rfl rfl rfl h434 (r_sub rfl rfl rfl) ?_
        replace hm:=bnd hm
        obtain ⟨x435,hx435,hm⟩:=hm
        refine ga_know _ (fun W hS=>cl_at (p:=(Sta.mk w0 M H R φ).ok) (sz:=2) (fun _=>rfl) (by decide) (ok_pre (H1:=[_,_]) (R1:=[]) hS (fun W h=>h)) fp0_3 hx435) ?_
        rintro ⟨ad436,hA438,f437⟩
        refine ga_rG (i:=32) (bz 38 8589934591) rfl (by kernel_rfl) (by decide) rfl rfl rfl rfl rfl h434 (r_ix Tryz.underlying28 Tryz.sizeOf48 rfl hA438 rfl hx435) ?_
        have f439:=fun (W : World) (h : (Sta.mk w0 M H R φ).ok W)=>Cl.drop (f437 W h) 0
        refine ga_rG (i:=33) (bz 38 17179869183) rfl (by kernel_rfl) (by decide) rfl rfl rfl rfl rfl h434 (r_fieldF Tryz.underlying48 rfl Tryz.sizeOf3 rfl)<|ga_rG (i:=34) (bz 38 34359738367) rfl (by kernel_rfl) (by decide) rfl rfl rfl rfl rfl h434 (r_ld rfl Tryz.isAgg3 (fun W hS=>Cl.head (f439 W (ok_pre (H1:=[_,_]) (R1:=[]) hS (fun W h=>h)))))<|ga_rG (i:=35) (bz 38 68719476735) rfl (by kernel_rfl) (by decide) rfl rfl rfl rfl rfl h434 (r_leq rfl rfl)<|ga_rG (i:=36) (bz 38 137438953471) rfl (by kernel_rfl) (by decide) rfl rfl rfl rfl rfl h433 (r_pick1 rfl h434)<|ga_r (i:=37) (bz 38 274877906943) rfl (by kernel_rfl) (by decide) rfl (r_pick0 rfl h433)<|ga_done (by kernel_rfl)<|d_then ?_
        refine c_flat [(1,.pointer (some ⟨g1,0,none⟩)),(9,.int .i64 i298),(10,.pointer (some ⟨g401,0,none⟩)),(186,.bool (decide (x397.fEpoch ≤ x435.fEpoch)))] ⟨rfl,rfl,rfl,rfl,trivial⟩ (fun u=>?_)
        refine c_cond rfl (fun h440=>?_) (fun h440=>?_)
        ·
         replace hm:=ite_t hm (of_decide_eq_true h440)
         refine c_seq<|c_region<|g_v rfl r_assign<|g_nil<|d_then<|c_ret<|d_ret_then<|d_ret_block<|d_ret_then<|d_ret_then ?_
         refine d_ret_block<|d_ret_then<|d_ret_then ?_
         replace hm:=nx_out (C:=(fun e : Unit ⊕ Bool=>Sum.elim (fun e=>m_ref13_Right_j4) (fun x=>some x) e = some r)) hm hnx5 hr5
         replace hm : some false = some r:=hm
         cases hm
         exact d_retC () Tryz.results20 (res_tmp (res_nil rfl)) trivial (fun W h=>ok_pre (H1:=[_,_]) (R1:=[]) h (fun W hφ=>hφ)) (.inr rfl)
        replace hm:=ite_f hm (of_decide_eq_false h440)
        refine c_skip<|d_then<|c_seq<|c_region<|g_v rfl r_assign<|g_nil<|d_then ?_
        refine c_cut (ι:=Unit) [1,9] (fun _=>[]) (fun _=>⟨w0,M,(100010,g1,.cells #[.slice Ap0_0 p0.fRing.length cp0_0,.slice Ap0_1 p0.fHints.length cp0_1,.slice Ap0_2 p0.fAnchors.length cp0_2,.int .i64 p0.fEpoch,.slice Ap0_3 p0.fFlushes.length cp0_3] 30 (0,0))::H,R,φ⟩) (fun _=>m_ref13_Right_j6 i298 = some o5) ?_ (fun _ u hm=>?_)
        ·
         refine c_block ?_
         replace hm:=bnd hm
         obtain ⟨out7,hl7,hr7⟩:=hm
         obtain ⟨n539',hl7⟩:=loop_lp hl7
         refine c_loopU (ι:=Nat×Int) [1,9,10,12] (fun ⟨n539,i514⟩=>[(12,.int .i64 i514)]) (fun ⟨n539,i514⟩=>⟨w0,M,(100100,g401,.cells #[.int .i64 x397.fEpoch,.string x397.fZone] 48 (0,0))::(100010,g1,.cells #[.slice Ap0_0 p0.fRing.length cp0_0,.slice Ap0_1 p0.fHints.length cp0_1,.slice Ap0_2 p0.fAnchors.length cp0_2,.int .i64 p0.fEpoch,.slice Ap0_3 p0.fFlushes.length cp0_3] 30 (0,0))::H,R,φ⟩) (fun ⟨n539,i514⟩=>Lp (fun s=>m_ref13_Right_s7 i298 p0 x397 s) n539 i514 out7) (fun ⟨n539,i514⟩=>n539) (n539',0) hl7 ⟨rfl,rfl,rfl,rfl,trivial⟩ (fun W h=>h.phi (fun W hφ=>hφ)) (fun ⟨n539,i514⟩ u hlp=>?_)
         obtain ⟨o7,hm,hnx7⟩:=lp_step hlp
         clear hlp
         replace hm : m_ref13_Right_s7 i298 p0 x397 i514 = some o7:=hm
         unfold m_ref13_Right_s7 at hm
         refine c_flat [(1,.pointer (some ⟨g1,0,none⟩)),(9,.int .i64 i298),(10,.pointer (some ⟨g401,0,none⟩)),(12,.int .i64 i514)] ⟨rfl,rfl,rfl,rfl,trivial⟩ (fun u=>?_)
         refine c_seq<|c_seq<|c_region<|g_v rfl r_move<|g_v rfl r_move<|g_v rfl (r_lss rfl rfl)<|g_nil<|d_then ?_
         refine c_cond rfl (fun h540=>?_) (fun h540=>?_)
         ·
          replace hm:=ite_t hm (of_decide_eq_true h540)
          refine c_skip<|d_then<|c_seq<|c_block<|c_seq<|ga_start (n:=10) ⟨w0,M,(100100,g401,.cells #[.int .i64 x397.fEpoch,.string x397.fZone] 48 (0,0))::(100010,g1,.cells #[.slice Ap0_0 p0.fRing.length cp0_0,.slice Ap0_1 p0.fHints.length cp0_1,.slice Ap0_2 p0.fAnchors.length cp0_2,.int .i64 p0.fEpoch,.slice Ap0_3 p0.fFlushes.length cp0_3] 30 (0,0))::H,R,φ⟩ [] #[false,false,false,false,false,false,false,false,false,false] (fun W h=>h.phi (fun W hφ=>hφ)) mixed rfl rfl<|ga_v (i:=0) (bz 10 1) rfl (by kernel_rfl) (fun _ _ _ _ h=>h) rfl (r_field (n:=4) Tryz.underlying30 rfl Tryz.sizeOf28 rfl rfl)<|ga_v (i:=1) (bz 10 3) rfl (by kernel_rfl) (fun _ _ _ _ h=>h) rfl (r_load (tag:=100010) rfl rfl rfl Tryz.isAgg28)<|ga_v (i:=2) (bz 10 7) rfl (by kernel_rfl) (fun _ _ _ _ h=>h) rfl (r_move) ?_
          replace hm:=bnd hm
          obtain ⟨x555,hx555,hm⟩:=hm
          refine ga_know _ (fun W hS=>cl_at (p:=(Sta.mk w0 M H R φ).ok) (sz:=2) (fun _=>rfl) (by decide) (ok_pre (H1:=[_,_]) (R1:=[]) hS (fun W h=>h)) fp0_3 hx555) ?_
          rintro ⟨ad556,hA558,f557⟩
          refine ga_v (i:=3) (bz 10 15) rfl (by kernel_rfl) (fun _ _ _ _ h=>h) rfl (r_ix Tryz.underlying28 Tryz.sizeOf48 rfl hA558 rfl hx555) ?_
          have f559:=fun (W : World) (h : (Sta.mk w0 M H R φ).ok W)=>Cl.drop (f557 W h) 1
          refine ga_v (i:=4) (bz 10 31) rfl (by kernel_rfl) (fun _ _ _ _ h=>h) rfl (r_fieldF Tryz.underlying48 rfl Tryz.sizeOf9 rfl)<|ga_v (i:=5) (bz 10 63) rfl (by kernel_rfl) (fun _ _ _ _ h=>h) rfl (r_ld rfl Tryz.isAgg9 (fun W hS=>Cl.head (f559 W (ok_pre (H1:=[_,_]) (R1:=[]) hS (fun W h=>h)))))<|ga_r (i:=6) (bz 10 127) rfl (by kernel_rfl) (by decide) rfl (r_field (n:=1) Tryz.underlying48 rfl Tryz.sizeOf9 rfl rfl)<|ga_r (i:=7) (bz 10 255) rfl (by kernel_rfl) (by decide) rfl (r_load (tag:=100100) rfl rfl rfl Tryz.isAgg9) ?_
          replace hm:=bnd hm
          obtain ⟨x560,hx561,hm⟩:=hm
          refine ga_cn (first:=#[]) (i:=8) (bz 10 511) rfl (by kernel_rfl) (by decide)  ⟨w0,M,_,_,φ⟩ (fun _ h=>h) Tryz.call43 rfl rfl rfl (c_ref03_Under x555.fZone x397.fZone _ hx561) (fun _ W _ h=>h.phi (fun W hφ=>hφ)) (fun _ _=>?_)
          refine ga_r (i:=9) (bz 10 1023) rfl (by kernel_rfl) (by decide) rfl (r_assign)<|ga_done (by kernel_rfl)<|d_then ?_
          refine c_flat [(1,.pointer (some ⟨g1,0,none⟩)),(9,.int .i64 i298),(10,.pointer (some ⟨g401,0,none⟩)),(12,.int .i64 i514),(13,.bool x560)] ⟨rfl,rfl,rfl,rfl,rfl,trivial⟩ (fun u=>?_)
          refine c_seq<|c_region<|g_v rfl r_move<|g_nil<|d_then ?_
          refine c_cond rfl (fun h562=>?_) (fun h562=>?_)
          ·
           replace hm:=ite_t hm h562
           refine c_seq<|c_region<|g_v rfl r_assign<|g_nil<|d_then<|c_ret<|d_ret_block<|d_ret_then<|d_ret_then<|d_ret_block ?_
           refine d_ret_then<|d_ret_block<|d_ret_then<|d_ret_then<|d_ret_block<|d_ret_then<|d_ret_then ?_
           replace hm:=nx_out (C:=(fun e : Unit ⊕ Bool=>Sum.elim (fun e=>m_ref13_Right_j6 i298) (fun x=>some (.inr (.inr x))) e = some o5)) hm hnx7 hr7
           replace hm : some (.inr (.inr false)) = some o5:=hm
           replace hm:=nx_out (C:=(fun e : Unit ⊕ Bool=>Sum.elim (fun e=>m_ref13_Right_j4) (fun x=>some x) e = some r)) hm hnx5 hr5
           replace hm : some false = some r:=hm
           cases hm
           exact d_retC () Tryz.results20 (res_tmp (res_nil rfl)) trivial (fun W h=>ok_pre (H1:=[_,_]) (R1:=[]) h (fun W hφ=>hφ)) (.inr rfl)
          replace hm:=ite_f hm (bool_nt h562)
          refine c_skip<|d_normal_block<|d_then<|c_region<|g_v rfl r_move<|g_v rfl (r_add rfl rfl rfl)<|g_v rfl r_assign<|g_nil ?_
          obtain ⟨n563,hn563,hlp⟩:=nx_inl hm hnx7
          exact d_round (n563,w64 (i514 + 1)) hlp hn563 ⟨rfl,rfl,rfl,rfl,trivial⟩ (fun W h=>h.phi (fun W hφ=>hφ))
         replace hm:=ite_f hm (of_decide_eq_false h540)
         refine c_exit<|d_exit_then<|d_exit_then<|d_exit_block ?_
         replace hm:=nx_out (C:=(fun e : Unit ⊕ Bool=>Sum.elim (fun e=>m_ref13_Right_j6 i298) (fun x=>some (.inr (.inr x))) e = some o5)) hm hnx7 hr7
         exact d_round () hm Nat.zero_lt_one ⟨rfl,rfl,trivial⟩ (fun W h=>(h.dropH (t:=100100) rfl).phi (fun W hφ=>hφ))
        unfold m_ref13_Right_j6 at hm
        refine d_flat [(1,.pointer (some ⟨g1,0,none⟩)),(9,.int .i64 i298)] ⟨rfl,rfl,trivial⟩ (fun u=>?_)
        refine d_sta ⟨w0,M,(100010,g1,.cells #[.slice Ap0_0 p0.fRing.length cp0_0,.slice Ap0_1 p0.fHints.length cp0_1,.slice Ap0_2 p0.fAnchors.length cp0_2,.int .i64 p0.fEpoch,.slice Ap0_3 p0.fFlushes.length cp0_3] 30 (0,0))::H,R,φ⟩ (fun _ h=>h)<|d_normal_block<|d_then<|c_region<|g_v rfl r_move<|g_v rfl (r_add rfl rfl rfl)<|g_v rfl r_assign<|g_nil ?_
        obtain ⟨n490,hn490,hlp⟩:=nx_inl hm hnx5
        exact d_round (n490,w64 (i298 + 1)) hlp hn490 ⟨rfl,rfl,trivial⟩ (fun W h=>h.phi (fun W hφ=>hφ))
       replace hm:=ite_f hm (of_decide_eq_false h434)
       refine ga_no (i:=26) (bz 38 134217727) rfl (by kernel_rfl) (fun _ _ _ _ h=>h) rfl rfl rfl rfl rfl h434<|ga_no (i:=27) (bz 38 268435455) rfl (by kernel_rfl) (fun _ _ _ _ h=>h) rfl rfl rfl rfl rfl h434<|ga_no (i:=28) (bz 38 536870911) rfl (by kernel_rfl) (fun _ _ _ _ h=>h) rfl rfl rfl rfl rfl h434<|ga_no (i:=29) (bz 38 1073741823) rfl (by kernel_rfl) (fun _ _ _ _ h=>h) rfl rfl rfl rfl rfl h434<|ga_no (i:=30) (bz 38 2147483647) rfl (by kernel_rfl) (fun _ _ _ _ h=>h) rfl rfl rfl rfl rfl h434<|ga_no (i:=31) (bz 38 4294967295) rfl (by kernel_rfl) (fun _ _ _ _ h=>h) rfl rfl rfl rfl rfl h434<|ga_no (i:=32) (bz 38 8589934591) rfl (by kernel_rfl) (fun _ _ _ _ h=>h) rfl rfl rfl rfl rfl h434<|ga_no (i:=33) (bz 38 17179869183) rfl (by kernel_rfl) (fun _ _ _ _ h=>h) rfl rfl rfl rfl rfl h434<|ga_no (i:=34) (bz 38 34359738367) rfl (by kernel_rfl) (fun _ _ _ _ h=>h) rfl rfl rfl rfl rfl h434<|ga_no (i:=35) (bz 38 68719476735) rfl (by kernel_rfl) (fun _ _ _ _ h=>h) rfl rfl rfl rfl rfl h434 ?_
       refine ga_rG (i:=36) (bz 38 137438953471) rfl (by kernel_rfl) (by decide) rfl rfl rfl rfl rfl h433 (r_pick0 rfl h434)<|ga_r (i:=37) (bz 38 274877906943) rfl (by kernel_rfl) (by decide) rfl (r_pick0 rfl h433)<|ga_done (by kernel_rfl)<|d_then ?_
       refine c_flat [(1,.pointer (some ⟨g1,0,none⟩)),(9,.int .i64 i298),(10,.pointer (some ⟨g401,0,none⟩)),(186,.bool false)] ⟨rfl,rfl,rfl,rfl,trivial⟩ (fun u=>?_)
       refine c_cond0 rfl rfl<|c_skip<|d_then<|c_seq<|c_region<|g_v rfl r_assign<|g_nil<|d_then ?_
       refine c_cut (ι:=Unit) [1,9] (fun _=>[]) (fun _=>⟨w0,M,(100010,g1,.cells #[.slice Ap0_0 p0.fRing.length cp0_0,.slice Ap0_1 p0.fHints.length cp0_1,.slice Ap0_2 p0.fAnchors.length cp0_2,.int .i64 p0.fEpoch,.slice Ap0_3 p0.fFlushes.length cp0_3] 30 (0,0))::H,R,φ⟩) (fun _=>m_ref13_Right_j8 i298 = some o5) ?_ (fun _ u hm=>?_)
       ·
        refine c_block ?_
        replace hm:=bnd hm
        obtain ⟨out9,hl9,hr9⟩:=hm
        obtain ⟨n566',hl9⟩:=loop_lp hl9
        refine c_loopU (ι:=Nat) [1,9,10,12] (fun n566=>[]) (fun n566=>⟨w0,M,(100100,g401,.cells #[.int .i64 x397.fEpoch,.string x397.fZone] 48 (0,0))::(100010,g1,.cells #[.slice Ap0_0 p0.fRing.length cp0_0,.slice Ap0_1 p0.fHints.length cp0_1,.slice Ap0_2 p0.fAnchors.length cp0_2,.int .i64 p0.fEpoch,.slice Ap0_3 p0.fFlushes.length cp0_3] 30 (0,0))::H,R,φ⟩) (fun n566=>Lp (fun _ : Unit=>m_ref13_Right_s9) n566 () out9) (fun n566=>n566) n566' hl9 ⟨rfl,rfl,rfl,rfl,trivial⟩ (fun W h=>h.phi (fun W hφ=>hφ)) (fun n566 u hlp=>?_)
        obtain ⟨o9,hm,hnx9⟩:=lp_step hlp
        clear hlp
        replace hm : m_ref13_Right_s9 = some o9:=hm
        unfold m_ref13_Right_s9 at hm
        refine c_flat [(1,.pointer (some ⟨g1,0,none⟩)),(9,.int .i64 i298),(10,.pointer (some ⟨g401,0,none⟩)),(12,.int .i64 0)] ⟨rfl,rfl,rfl,rfl,trivial⟩ (fun u=>?_)
        refine c_seq<|c_seq<|c_region<|g_v rfl r_move<|g_v rfl r_move<|g_v rfl (r_lss rfl rfl)<|g_nil<|d_then<|c_cond0 rfl h434<|c_exit ?_
        refine d_exit_then<|d_exit_then<|d_exit_block ?_
        replace hm:=nx_out (C:=(fun e : Unit ⊕ Bool=>Sum.elim (fun e=>m_ref13_Right_j8 i298) (fun x=>some (.inr (.inr x))) e = some o5)) hm hnx9 hr9
        exact d_round () hm Nat.zero_lt_one ⟨rfl,rfl,trivial⟩ (fun W h=>(h.dropH (t:=100100) rfl).phi (fun W hφ=>hφ))
       unfold m_ref13_Right_j8 at hm
       refine d_flat [(1,.pointer (some ⟨g1,0,none⟩)),(9,.int .i64 i298)] ⟨rfl,rfl,trivial⟩ (fun u=>?_)
       refine d_sta ⟨w0,M,(100010,g1,.cells #[.slice Ap0_0 p0.fRing.length cp0_0,.slice Ap0_1 p0.fHints.length cp0_1,.slice Ap0_2 p0.fAnchors.length cp0_2,.int .i64 p0.fEpoch,.slice Ap0_3 p0.fFlushes.length cp0_3] 30 (0,0))::H,R,φ⟩ (fun _ h=>h)<|d_normal_block<|d_then<|c_region<|g_v rfl r_move<|g_v rfl (r_add rfl rfl rfl)<|g_v rfl r_assign<|g_nil ?_
       obtain ⟨n565,hn565,hlp⟩:=nx_inl hm hnx5
       exact d_round (n565,w64 (i298 + 1)) hlp hn565 ⟨rfl,rfl,trivial⟩ (fun W h=>h.phi (fun W hφ=>hφ))
      replace hm:=ite_f hm (of_decide_eq_false h396)
      refine c_exit<|d_exit_then<|d_exit_then<|d_exit_block ?_
      replace hm:=nx_out (C:=(fun e : Unit ⊕ Bool=>Sum.elim (fun e=>m_ref13_Right_j4) (fun x=>some x) e = some r)) hm hnx5 hr5
      exact d_round () hm Nat.zero_lt_one trivial (fun W h=>(h.dropH (t:=100010) rfl).phi (fun W hφ=>hφ))
     unfold m_ref13_Right_j4 at hm
     refine d_flat [] trivial (fun u=>?_)
     refine d_sta ⟨w0,M,H,R,φ⟩ (fun _ h=>h)<|d_then<|c_seq<|c_region<|g_v rfl r_assign<|g_nil<|d_then<|c_ret ?_
     cases hm
     exact d_retC () Tryz.results20 (res_tmp (res_nil rfl)) trivial (fun W h=>ok_pre (H1:=[]) (R1:=[]) h (fun W hφ=>hφ)) (.inr rfl)
    replace hm:=ite_t hm (of_decide_eq_true h5)
    iterate 3 refine g_no rfl rfl rfl rfl rfl h5 ?_
    refine g_v rfl (r_pick1 rfl h5)<|g_nil<|d_then ?_
    refine c_flat [(1,.pointer (some ⟨g1,0,none⟩)),(39,.bool true)] ⟨rfl,rfl,trivial⟩ (fun u=>?_)
    refine c_cond1 rfl rfl<|c_seq<|c_region<|g_v rfl r_assign<|g_nil<|d_then<|c_ret<|d_ret_then ?_
    cases hm
    exact d_retC () Tryz.results20 (res_tmp (res_nil rfl)) trivial (fun W h=>ok_pre (H1:=[_]) (R1:=[]) h (fun W hφ=>hφ)) (.inr rfl)
   replace hm:=ite_t hm (of_decide_eq_true h4)
   refine g_no rfl rfl rfl rfl rfl h4<|g_no rfl rfl rfl rfl rfl h4<|g_v rfl (r_pick1 rfl h4)<|g_v rfl r_move ?_
   iterate 4 refine g_no rfl rfl rfl rfl rfl rfl ?_
   refine g_v rfl (r_pick1 rfl rfl)<|g_nil<|d_then ?_
   refine c_flat [(1,.pointer (some ⟨g1,0,none⟩)),(39,.bool true)] ⟨rfl,rfl,trivial⟩ (fun u=>?_)
   refine c_cond1 rfl rfl<|c_seq<|c_region<|g_v rfl r_assign<|g_nil<|d_then<|c_ret<|d_ret_then ?_
   cases hm
   exact d_retC () Tryz.results20 (res_tmp (res_nil rfl)) trivial (fun W h=>ok_pre (H1:=[_]) (R1:=[]) h (fun W hφ=>hφ)) (.inr rfl)
  replace hm:=ite_t hm (of_decide_eq_true h3)
  refine g_no rfl rfl rfl rfl rfl h3<|g_no rfl rfl rfl rfl rfl h3<|g_v rfl (r_pick1 rfl h3)<|g_v rfl r_move ?_
  iterate 3 refine g_no rfl rfl rfl rfl rfl rfl ?_
  refine g_v rfl (r_pick1 rfl rfl)<|g_v rfl r_move ?_
  iterate 4 refine g_no rfl rfl rfl rfl rfl rfl ?_
  refine g_v rfl (r_pick1 rfl rfl)<|g_nil<|d_then ?_
  refine c_flat [(1,.pointer (some ⟨g1,0,none⟩)),(39,.bool true)] ⟨rfl,rfl,trivial⟩ (fun u=>?_)
  refine c_cond1 rfl rfl<|c_seq<|c_region<|g_v rfl r_assign<|g_nil<|d_then<|c_ret<|d_ret_then ?_
  cases hm
  exact d_retC () Tryz.results20 (res_tmp (res_nil rfl)) trivial (fun W h=>ok_pre (H1:=[_]) (R1:=[]) h (fun W hφ=>hφ)) (.inr rfl)
 replace hm:=ite_t hm (of_decide_eq_true h2)
 iterate 3 refine g_no rfl rfl rfl rfl rfl h2 ?_
 refine g_v rfl (r_pick1 rfl h2)<|g_v rfl r_move ?_
 iterate 3 refine g_no rfl rfl rfl rfl rfl rfl ?_
 refine g_v rfl (r_pick1 rfl rfl)<|g_v rfl r_move ?_
 iterate 3 refine g_no rfl rfl rfl rfl rfl rfl ?_
 refine g_v rfl (r_pick1 rfl rfl)<|g_v rfl r_move ?_
 iterate 4 refine g_no rfl rfl rfl rfl rfl rfl ?_
 refine g_v rfl (r_pick1 rfl rfl)<|g_nil<|d_then ?_
 refine c_flat [(1,.pointer (some ⟨g1,0,none⟩)),(39,.bool true)] ⟨rfl,rfl,trivial⟩ (fun u=>?_)
 refine c_cond1 rfl rfl<|c_seq<|c_region<|g_v rfl r_assign<|g_nil<|d_then<|c_ret<|d_ret_then ?_
 cases hm
 exact d_retC () Tryz.results20 (res_tmp (res_nil rfl)) trivial (fun W h=>ok_pre (H1:=[_]) (R1:=[]) h (fun W hφ=>hφ)) (.inr rfl)
structure Gref04_Place where
  fName : ByteArray
  fAt : Int
  deriving DecidableEq
def Gref04_Place.enc (e : Gref04_Place) : List Value:=[.string e.fName,.int .i64 e.fAt]
structure Gref04_Packer where
  fB : ByteArray
  fL : List Gref04_Place
  deriving DecidableEq
theorem bld101_28  : ∀ W,(Instr.build 101 #[]).run Tryz.prog W = .ok (.agg #[.string (⟨#[]⟩ : ByteArray),.slice none 0 0]) W:=fun _=>by kernel_rfl
noncomputable def m_ref04_Packer_Number_j1 (o0 : Gref04_Packer) (s29 : ByteArray) : Option Gref04_Packer:=
  some (⟨s29,o0.fL⟩ : Gref04_Packer)
noncomputable def m_ref04_Packer_Number_s2 (p1 : Int) (i43 : Int) (s44 : ByteArray) : Option ((Int×ByteArray) ⊕ ByteArray):=
  if 0 ≤ i43 then
    (shOk (IntKind.u64.wrap (w64 (8 * i43)))).bind fun u65=>
    (sadd s44 (strOfNums [IntKind.u8.wrap (shrI .i64 p1 (IntKind.u64.wrap (w64 (8 * i43))))])).bind fun s67=>
    some (.inl (w64 (i43 - 1),s67))
  else
    some (.inr s44)
noncomputable def m_ref04_Packer_Number (p1 : Int) (p2 : Int) (o0 : Gref04_Packer) : Option Gref04_Packer:=
  (loop (fun s=>m_ref04_Packer_Number_s2 p1 s.1 s.2) (w64 (p2 - 1),o0.fB)).bind fun e=>m_ref04_Packer_Number_j1 o0 e
theorem c_ref04_Packer_Number {w0 : World} {M : Nat→Prop} {H : List (Nat×Nat×Obj)} {R : List (Nat×Row)} {φ : World→Prop} (p1 : Int) (p2 : Int) (go0 : Nat) (o0 : Gref04_Packer) (Ao0_0 : Option Addr) (co0_0 : Nat) (hco0_0 : o0.fL.length ≤ co0_0) (r : Gref04_Packer) (hm : m_ref04_Packer_Number p1 p2 o0 = some r) :
    Cn Tryz.prog 75 #[.pointer (some ⟨go0,0,none⟩),.int .i64 p1,.int .i64 p2] ⟨w0,M,(1000,go0,.cells #[.string o0.fB,.slice Ao0_0 o0.fL.length co0_0] 101 (0,0))::H,(1000,⟨.slice Ao0_0 o0.fL.length co0_0,170,2,o0.fL.length,o0.fL.flatMap Gref04_Place.enc⟩)::R,φ⟩ (fun x : Unit=>.tuple #[]) (fun x=>True) (fun x=>⟨w0,M,(1000,go0,.cells #[.string r.fB,.slice Ao0_0 o0.fL.length co0_0] 101 (0,0))::H,(1000,⟨.slice Ao0_0 o0.fL.length co0_0,170,2,o0.fL.length,o0.fL.flatMap Gref04_Place.enc⟩)::R,φ⟩):=by
 unfold m_ref04_Packer_Number at hm
 refine cn_intro (fn:=Tryz.f75) (N:=29) Tryz.func75 rfl Tryz.ntmps75 rfl<|c_seq<|c_region<|g_v rfl r_move<|g_v rfl (r_sub rfl rfl rfl)<|g_v rfl r_assign<|g_nil<|d_then ?_
 refine c_cut (ι:=ByteArray) [] (fun s29=>[]) (fun s29=>⟨w0,M,(1000,go0,.cells #[.string s29,.slice Ao0_0 o0.fL.length co0_0] 101 (0,0))::H,(1000,⟨.slice Ao0_0 o0.fL.length co0_0,170,2,o0.fL.length,o0.fL.flatMap Gref04_Place.enc⟩)::R,φ⟩) (fun s29=>m_ref04_Packer_Number_j1 o0 s29 = some r) ?_ (fun s29 u hm=>?_)
 ·
  refine c_block ?_
  replace hm:=bnd hm
  obtain ⟨out2,hl2,hr2⟩:=hm
  obtain ⟨n57',hl2⟩:=loop_lp hl2
  refine c_loopU (ι:=Nat×Int×ByteArray) [0,1,6] (fun ⟨n57,i43,s44⟩=>[(6,.int .i64 i43)]) (fun ⟨n57,i43,s44⟩=>⟨w0,M,(1000,go0,.cells #[.string s44,.slice Ao0_0 o0.fL.length co0_0] 101 (0,0))::H,(1000,⟨.slice Ao0_0 o0.fL.length co0_0,170,2,o0.fL.length,o0.fL.flatMap Gref04_Place.enc⟩)::R,φ⟩) (fun ⟨n57,i43,s44⟩=>Lp (fun s=>m_ref04_Packer_Number_s2 p1 s.1 s.2) n57 (i43,s44) out2) (fun ⟨n57,i43,s44⟩=>n57) (n57',w64 (p2 - 1),o0.fB) hl2 ⟨rfl,rfl,rfl,trivial⟩ (fun W h=>h.phi (fun W hφ=>hφ)) (fun ⟨n57,i43,s44⟩ u hlp=>?_)
  obtain ⟨o2,hm,hnx2⟩:=lp_step hlp
  clear hlp
  replace hm : m_ref04_Packer_Number_s2 p1 i43 s44 = some o2:=hm
  unfold m_ref04_Packer_Number_s2 at hm
  refine c_flat [(0,.pointer (some ⟨go0,0,none⟩)),(1,.int .i64 p1),(6,.int .i64 i43)] ⟨rfl,rfl,rfl,trivial⟩ (fun u=>?_)
  refine c_sta ⟨w0,M,(1000,go0,.cells #[.string s44,.slice Ao0_0 o0.fL.length co0_0] 101 (0,0))::H,(1000,⟨.slice Ao0_0 o0.fL.length co0_0,170,2,o0.fL.length,o0.fL.flatMap Gref04_Place.enc⟩)::R,φ⟩ (fun _ h=>h)<|c_seq<|c_seq<|c_region<|g_v rfl r_move<|g_v rfl (r_geq rfl rfl)<|g_nil<|d_then ?_
  refine c_cond rfl (fun h58=>?_) (fun h58=>?_)
  ·
   replace hm:=ite_t hm (of_decide_eq_true h58)
   refine c_skip<|d_then<|c_seq<|c_block<|ga_start (n:=17) ⟨w0,M,(1000,go0,.cells #[.string s44,.slice Ao0_0 o0.fL.length co0_0] 101 (0,0))::H,(1000,⟨.slice Ao0_0 o0.fL.length co0_0,170,2,o0.fL.length,o0.fL.flatMap Gref04_Place.enc⟩)::R,φ⟩ [16] #[false,false,false,false,false,false,false,false,false,false,false,false,false,false,false,false,false] (fun W h=>h.phi (fun W hφ=>hφ)) mixed rfl rfl<|ga_v (i:=0) (bz 17 1) rfl (by kernel_rfl) (fun _ _ _ _ h=>h) rfl (r_move)<|ga_v (i:=1) (bz 17 3) rfl (by kernel_rfl) (fun _ _ _ _ h=>h) rfl (r_move)<|ga_v (i:=2) (bz 17 7) rfl (by kernel_rfl) (fun _ _ _ _ h=>h) rfl (r_nilck rfl)<|ga_v (i:=3) (bz 17 15) rfl (by kernel_rfl) (fun _ _ _ _ h=>h) rfl (r_field (n:=0) Tryz.underlying101 rfl Tryz.sizeOf9 rfl rfl)<|ga_v (i:=4) (bz 17 31) rfl (by kernel_rfl) (fun _ _ _ _ h=>h) rfl (r_load (tag:=1000) rfl rfl rfl Tryz.isAgg9) ?_
   refine ga_v (i:=5) (bz 17 63) rfl (by kernel_rfl) (fun _ _ _ _ h=>h) rfl (r_move)<|ga_r (i:=6) (bz 17 127) rfl (by kernel_rfl) (by decide) rfl (r_move)<|ga_r (i:=7) (bz 17 255) rfl (by kernel_rfl) (by decide) rfl (r_mul rfl rfl rfl)<|ga_r (i:=8) (bz 17 511) rfl (by kernel_rfl) (by decide) rfl (r_conv Tryz.underlying3 Tryz.underlying108 rfl rfl) ?_
   replace hm:=bnd hm
   obtain ⟨u65,hu65,hm⟩:=hm
   refine ga_r (i:=9) (bz 17 1023) rfl (by kernel_rfl) (by decide) rfl (r_shrV rfl rfl hu65)<|ga_r (i:=10) (bz 17 2047) rfl (by kernel_rfl) (by decide) rfl (r_conv Tryz.underlying3 Tryz.underlying5 rfl rfl) ?_
   refine ga_e (i:=11) (bz 17 4095) rfl (by kernel_rfl) (by decide) rfl  (e_lit (tag:=100240) (l:=[IntKind.u8.wrap (shrI .i64 p1 (IntKind.u64.wrap (w64 (8 * i43))))]) (enc:=(fun x : Int=>[Value.int .u8 x])) (sz:=1) rfl Tryz.underlying70 (lit5_3 _) rfl rfl (fun _=>rfl)) (fun g66 W _ h=>(h.dropR (t:=100240) rfl).phi (fun W hφ=>hφ)) (fun g66 _=>?_)
   refine ga_r (i:=12) (bz 17 8191) rfl (by kernel_rfl) (by decide) rfl (r_textE Tryz.underlying70 Tryz.underlying5 Tryz.underlying9 rfl (fun W hS=>rowCl (tag:=100240) rfl W hS)) ?_
   replace hm:=bnd hm
   obtain ⟨s67,hs67,hm⟩:=hm
   refine ga_r (i:=13) (bz 17 16383) rfl (by kernel_rfl) (by decide) rfl (r_addT rfl rfl hs67)<|ga_r (i:=14) (bz 17 32767) rfl (by kernel_rfl) (by decide) rfl (r_nilck rfl)<|ga_r (i:=15) (bz 17 65535) rfl (by kernel_rfl) (by decide) rfl (r_field (n:=0) Tryz.underlying101 rfl Tryz.sizeOf9 rfl rfl)<|ga_lastL (i:=16) (tag:=1000) (bz 17 131071) rfl (by kernel_rfl) (by decide) rfl rfl rfl rfl Tryz.sizeOf9 rfl rfl<|gz_done (by kernel_rfl)<|d_normal_block<|d_then ?_
   refine c_flat [(0,.pointer (some ⟨go0,0,none⟩)),(1,.int .i64 p1),(6,.int .i64 i43)] ⟨rfl,rfl,rfl,trivial⟩ (fun u=>?_)
   refine c_sta ⟨w0,M,(1000,go0,.cells #[.string s67,.slice Ao0_0 o0.fL.length co0_0] 101 (0,0))::H,(100240,⟨.slice (some ⟨g66,0,none⟩) [IntKind.u8.wrap (shrI .i64 p1 (IntKind.u64.wrap (w64 (8 * i43))))].length 1,5,1,[IntKind.u8.wrap (shrI .i64 p1 (IntKind.u64.wrap (w64 (8 * i43))))].length,[IntKind.u8.wrap (shrI .i64 p1 (IntKind.u64.wrap (w64 (8 * i43))))].flatMap (fun x : Int=>[Value.int .u8 x])⟩)::(1000,⟨.slice Ao0_0 o0.fL.length co0_0,170,2,o0.fL.length,o0.fL.flatMap Gref04_Place.enc⟩)::R,φ⟩ (fun _ h=>h)<|c_region<|g_v rfl r_move<|g_v rfl (r_sub rfl rfl rfl)<|g_v rfl r_assign<|g_nil ?_
   obtain ⟨n68,hn68,hlp⟩:=nx_inl hm hnx2
   exact d_round (n68,w64 (i43 - 1),s67) hlp hn68 ⟨rfl,rfl,rfl,trivial⟩ (fun W h=>(h.dropR (t:=100240) rfl).phi (fun W hφ=>hφ))
  replace hm:=ite_f hm (of_decide_eq_false h58)
  refine c_exit<|d_exit_then<|d_exit_then<|d_exit_block ?_
  replace hm:=nx_out (C:=(fun e : ByteArray=>m_ref04_Packer_Number_j1 o0 e = some r)) hm hnx2 hr2
  exact d_round s44 hm Nat.zero_lt_one trivial (fun W h=>h.phi (fun W hφ=>hφ))
 unfold m_ref04_Packer_Number_j1 at hm
 refine d_flat [] trivial (fun u=>?_)
 refine d_sta ⟨w0,M,(1000,go0,.cells #[.string s29,.slice Ao0_0 o0.fL.length co0_0] 101 (0,0))::H,(1000,⟨.slice Ao0_0 o0.fL.length co0_0,170,2,o0.fL.length,o0.fL.flatMap Gref04_Place.enc⟩)::R,φ⟩ (fun _ h=>h) ?_
 cases hm
 exact d_retC () Tryz.results75 (res_nil rfl) trivial (fun W h=>h.phi (fun W hφ=>hφ)) (.inl rfl)
noncomputable def m_ref13_Snap_j4  (s233 : ByteArray) : Option ByteArray:=
  some s233
noncomputable def m_ref13_Snap_s5 (p0 : GConf) (i262 : Int) (s263 : ByteArray) : Option ((Int×ByteArray) ⊕ ByteArray):=
  if i262 < (p0.fFlushes.length : Int) then
    (at_ p0.fFlushes i262).bind fun x294=>
    (m_ref04_Packer_Number x294.fEpoch 8 (⟨s263,([] : List Gref04_Place)⟩ : Gref04_Packer)).bind fun x299=>
    (at_ p0.fFlushes i262).bind fun x313=>
    (sadd x299.fB x313.fZone).bind fun s318=>
    some (.inl (w64 (i262 + 1),s318))
  else
    some (.inr s263)
noncomputable def m_ref13_Snap_j3 (p0 : GConf) (s169 : ByteArray) : Option ByteArray:=
  (m_ref04_Packer_Number p0.fEpoch 8 (⟨s169,([] : List Gref04_Place)⟩ : Gref04_Packer)).bind fun x170=>
  (m_ref04_Packer_Number (p0.fFlushes.length : Int) 1 (⟨x170.fB,([] : List Gref04_Place)⟩ : Gref04_Packer)).bind fun x172=>
  (loop (fun s=>m_ref13_Snap_s5 p0 s.1 s.2) (0,x172.fB)).bind fun e=>m_ref13_Snap_j4 e
noncomputable def m_ref13_Snap_s6 (p0 : GConf) (i366 : Int) (s367 : ByteArray) : Option ((Int×ByteArray) ⊕ ByteArray):=
  if i366 < (p0.fAnchors.length : Int) then
    (at_ p0.fAnchors i366).bind fun x428=>
    (sadd s367 x428.fName).bind fun s433=>
    (at_ p0.fAnchors i366).bind fun x434=>
    (m_ref04_Packer_Number (x434.fText.size : Int) 1 (⟨s433,([] : List Gref04_Place)⟩ : Gref04_Packer)).bind fun x439=>
    (at_ p0.fAnchors i366).bind fun x453=>
    (sadd x439.fB x453.fText).bind fun s458=>
    some (.inl (w64 (i366 + 1),s458))
  else
    some (.inr s367)
noncomputable def m_ref13_Snap_j2 (p0 : GConf) (s71 : ByteArray) : Option ByteArray:=
  (m_ref04_Packer_Number (p0.fAnchors.length : Int) 1 (⟨s71,([] : List Gref04_Place)⟩ : Gref04_Packer)).bind fun x72=>
  (loop (fun s=>m_ref13_Snap_s6 p0 s.1 s.2) (0,x72.fB)).bind fun e=>m_ref13_Snap_j3 p0 e
noncomputable def m_ref13_Snap_s7 (p0 : GConf) (i478 : Int) (s479 : ByteArray) : Option ((Int×ByteArray) ⊕ ByteArray):=
  if i478 < (p0.fHints.length : Int) then
    (at_ p0.fHints i478).bind fun x510=>
    (sadd s479 x510).bind fun s514=>
    some (.inl (w64 (i478 + 1),s514))
  else
    some (.inr s479)
noncomputable def m_ref13_Snap_j1 (p0 : GConf) (s29 : ByteArray) : Option ByteArray:=
  (m_ref04_Packer_Number (p0.fHints.length : Int) 1 (⟨s29,([] : List Gref04_Place)⟩ : Gref04_Packer)).bind fun x30=>
  (loop (fun s=>m_ref13_Snap_s7 p0 s.1 s.2) (0,x30.fB)).bind fun e=>m_ref13_Snap_j2 p0 e
noncomputable def m_ref13_Snap_s8 (p0 : GConf) (i525 : Int) (s526 : ByteArray) : Option ((Int×ByteArray) ⊕ ByteArray):=
  if i525 < (p0.fRing.length : Int) then
    (at_ p0.fRing i525).bind fun x538=>
    (m_ref04_Packer_Number x538 1 (⟨s526,([] : List Gref04_Place)⟩ : Gref04_Packer)).bind fun x542=>
    some (.inl (w64 (i525 + 1),x542.fB))
  else
    some (.inr s526)
noncomputable def m_ref13_Snap (p0 : GConf) : Option ByteArray:=
  (m_ref13_Right p0).bind fun x2=>
  if x2 = true then
    (m_ref04_Packer_Number (p0.fRing.length : Int) 1 (⟨(⟨#[]⟩ : ByteArray),([] : List Gref04_Place)⟩ : Gref04_Packer)).bind fun x6=>
    (loop (fun s=>m_ref13_Snap_s8 p0 s.1 s.2) (0,x6.fB)).bind fun e=>m_ref13_Snap_j1 p0 e
  else
    some (⟨#[]⟩ : ByteArray)
theorem c_ref13_Snap {w0 : World} {M : Nat→Prop} {H : List (Nat×Nat×Obj)} {R : List (Nat×Row)} {φ : World→Prop} (p0 : GConf) (Ap0_0 : Option Addr) (cp0_0 : Nat) (hcp0_0 : p0.fRing.length ≤ cp0_0) (fp0_0 : ∀ W,(Sta.mk w0 M H R φ).ok W→Cl W Ap0_0 (p0.fRing.flatMap (fun x : Int=>[Value.int .i64 x]))) (Ap0_1 : Option Addr) (cp0_1 : Nat) (hcp0_1 : p0.fHints.length ≤ cp0_1) (fp0_1 : ∀ W,(Sta.mk w0 M H R φ).ok W→Cl W Ap0_1 (p0.fHints.flatMap (fun x : ByteArray=>[Value.string x]))) (Ap0_2 : Option Addr) (cp0_2 : Nat) (hcp0_2 : p0.fAnchors.length ≤ cp0_2) (fp0_2 : ∀ W,(Sta.mk w0 M H R φ).ok W→Cl W Ap0_2 (p0.fAnchors.flatMap GAnchor.enc)) (Ap0_3 : Option Addr) (cp0_3 : Nat) (hcp0_3 : p0.fFlushes.length ≤ cp0_3) (fp0_3 : ∀ W,(Sta.mk w0 M H R φ).ok W→Cl W Ap0_3 (p0.fFlushes.flatMap GFlush.enc)) (r : ByteArray) (hm : m_ref13_Snap p0 = some r) :
    Cn Tryz.prog 17 #[.agg #[.slice Ap0_0 p0.fRing.length cp0_0,.slice Ap0_1 p0.fHints.length cp0_1,.slice Ap0_2 p0.fAnchors.length cp0_2,.int .i64 p0.fEpoch,.slice Ap0_3 p0.fFlushes.length cp0_3]] ⟨w0,M,H,R,φ⟩ (fun x : Unit=>.string r) (fun x=>True) (fun x=>⟨w0,M,H,R,φ⟩):=by
 unfold m_ref13_Snap at hm
 refine cn_intro (fn:=Tryz.f17) (N:=150) Tryz.func17 rfl Tryz.ntmps17 rfl<|c_seq<|c_region ?_
 refine g_e rfl (e_box 100010 rfl) (fun g1 _=>?_)
 refine g_v rfl r_assign<|g_nil<|d_then<|c_seq<|c_region<|g_v rfl (r_loadA (tag:=100010) rfl rfl Tryz.isAgg30 Tryz.sizeOf30 rfl rfl) ?_
 replace hm:=bnd hm
 obtain ⟨x2,hx3,hm⟩:=hm
 refine g_cn ⟨w0,M,_,_,φ⟩ (fun _ h=>h) Tryz.call20 rfl rfl (c_ref13_Right p0 Ap0_0 cp0_0 hcp0_0 (fun W hS=>fp0_0 W (ok_pre (H1:=[_]) (R1:=[]) hS (fun W h=>h))) Ap0_1 cp0_1 hcp0_1 (fun W hS=>fp0_1 W (ok_pre (H1:=[_]) (R1:=[]) hS (fun W h=>h))) Ap0_2 cp0_2 hcp0_2 (fun W hS=>fp0_2 W (ok_pre (H1:=[_]) (R1:=[]) hS (fun W h=>h))) Ap0_3 cp0_3 hcp0_3 (fun W hS=>fp0_3 W (ok_pre (H1:=[_]) (R1:=[]) hS (fun W h=>h))) _ hx3) (fun _ _=>?_)
 refine g_v rfl r_assign<|g_nil<|d_then<|c_seq<|c_seq<|c_region<|g_v rfl r_move<|g_v rfl (r_not rfl)<|g_nil<|d_then ?_
 refine c_sta ⟨w0,M,(100010,g1,.cells #[.slice Ap0_0 p0.fRing.length cp0_0,.slice Ap0_1 p0.fHints.length cp0_1,.slice Ap0_2 p0.fAnchors.length cp0_2,.int .i64 p0.fEpoch,.slice Ap0_3 p0.fFlushes.length cp0_3] 30 (0,0))::H,R,φ⟩ (fun _ h=>h) ?_
 refine c_cond rfl (fun h4=>?_) (fun h4=>?_)
 ·
  have h4' : x2 = false:=by revert h4; cases x2 <;> simp
  replace hm:=ite_f hm (bool_nt h4')
  refine c_seq<|c_region<|g_v rfl r_assign<|g_nil<|d_then<|c_ret<|d_ret_then ?_
  cases hm
  exact d_retC () Tryz.results17 (res_tmp (res_nil rfl)) trivial (fun W h=>ok_pre (H1:=[_]) (R1:=[]) h (fun W hφ=>hφ)) (.inr rfl)
 have h4' : x2 = true:=by revert h4; cases x2 <;> simp
 replace hm:=ite_t hm h4'
 refine c_skip<|d_then<|c_seq<|c_region<|g_v rfl (r_build _ rfl (bld101_28)) ?_
 refine g_e rfl (e_box 100140 rfl) (fun g5 _=>?_)
 refine g_v rfl r_assign<|g_nil<|d_then ?_
 refine c_flat [(1,.pointer (some ⟨g1,0,none⟩)),(4,.pointer (some ⟨g5,0,none⟩))] ⟨rfl,rfl,trivial⟩ (fun u=>?_)
 refine c_sta ⟨w0,M,(100140,g5,.cells #[.string (⟨#[]⟩ : ByteArray),.slice none 0 0] 101 (0,0))::(100010,g1,.cells #[.slice Ap0_0 p0.fRing.length cp0_0,.slice Ap0_1 p0.fHints.length cp0_1,.slice Ap0_2 p0.fAnchors.length cp0_2,.int .i64 p0.fEpoch,.slice Ap0_3 p0.fFlushes.length cp0_3] 30 (0,0))::H,R,φ⟩ (fun _ h=>h)<|c_seq<|c_region<|g_v rfl r_move<|g_v rfl (r_field (n:=0) Tryz.underlying30 rfl Tryz.sizeOf25 rfl rfl)<|g_v rfl (r_load (tag:=100010) rfl rfl rfl Tryz.isAgg25)<|g_v rfl (r_lenL Tryz.underlying25 rfl)<|g_sta _ (fun W h=>nilR h 11 170 2) ?_
 replace hm:=bnd hm
 obtain ⟨x6,hx7,hm⟩:=hm
 refine g_cn ⟨w0,M,(1000,g5,.cells #[.string (⟨#[]⟩ : ByteArray),.slice none 0 0] 101 (0,0))::(100010,g1,.cells #[.slice Ap0_0 p0.fRing.length cp0_0,.slice Ap0_1 p0.fHints.length cp0_1,.slice Ap0_2 p0.fAnchors.length cp0_2,.int .i64 p0.fEpoch,.slice Ap0_3 p0.fFlushes.length cp0_3] 30 (0,0))::H,(1000,⟨.slice none 0 0,170,2,0,[]⟩)::R,φ⟩ (fun W h=>(ok_front (t:=100140) (t':=1000) (ok_frontR (t:=11) (t':=1000) h rfl) rfl)) Tryz.call75 rfl rfl (c_ref04_Packer_Number (p0.fRing.length : Int) 1 g5 (⟨(⟨#[]⟩ : ByteArray),([] : List Gref04_Place)⟩ : Gref04_Packer) none 0 (Nat.le_refl 0) _ hx7) (fun _ _=>?_)
 refine g_sta _ (fun W h=>(ok_frontR (t:=1000) (t':=11) (ok_front (t:=1000) (t':=100140) h rfl) rfl))<|g_nil<|d_then<|c_seq<|c_seq<|c_region<|g_v rfl r_assign<|g_nil<|d_then ?_
 refine c_cut (ι:=ByteArray) [1,4] (fun s29=>[]) (fun s29=>⟨w0,M,(100140,g5,.cells #[.string s29,.slice none 0 0] 101 (0,0))::(100010,g1,.cells #[.slice Ap0_0 p0.fRing.length cp0_0,.slice Ap0_1 p0.fHints.length cp0_1,.slice Ap0_2 p0.fAnchors.length cp0_2,.int .i64 p0.fEpoch,.slice Ap0_3 p0.fFlushes.length cp0_3] 30 (0,0))::H,(11,⟨.slice none 0 0,170,2,0,[]⟩)::R,φ⟩) (fun s29=>m_ref13_Snap_j1 p0 s29 = some r) ?_ (fun s29 u hm=>?_)
 ·
  refine c_block ?_
  replace hm:=bnd hm
  obtain ⟨out8,hl8,hr8⟩:=hm
  obtain ⟨n536',hl8⟩:=loop_lp hl8
  refine c_loopU (ι:=Nat×Int×ByteArray) [1,4,5] (fun ⟨n536,i525,s526⟩=>[(5,.int .i64 i525)]) (fun ⟨n536,i525,s526⟩=>⟨w0,M,(100140,g5,.cells #[.string s526,.slice none 0 0] 101 (0,0))::(100010,g1,.cells #[.slice Ap0_0 p0.fRing.length cp0_0,.slice Ap0_1 p0.fHints.length cp0_1,.slice Ap0_2 p0.fAnchors.length cp0_2,.int .i64 p0.fEpoch,.slice Ap0_3 p0.fFlushes.length cp0_3] 30 (0,0))::H,(11,⟨.slice none 0 0,170,2,0,[]⟩)::R,φ⟩) (fun ⟨n536,i525,s526⟩=>Lp (fun s=>m_ref13_Snap_s8 p0 s.1 s.2) n536 (i525,s526) out8) (fun ⟨n536,i525,s526⟩=>n536) (n536',0,x6.fB) hl8 ⟨rfl,rfl,rfl,trivial⟩ (fun W h=>h.phi (fun W hφ=>hφ)) (fun ⟨n536,i525,s526⟩ u hlp=>?_)
  obtain ⟨o8,hm,hnx8⟩:=lp_step hlp
  clear hlp
  replace hm : m_ref13_Snap_s8 p0 i525 s526 = some o8:=hm
  unfold m_ref13_Snap_s8 at hm
  refine c_flat [(1,.pointer (some ⟨g1,0,none⟩)),(4,.pointer (some ⟨g5,0,none⟩)),(5,.int .i64 i525)] ⟨rfl,rfl,rfl,trivial⟩ (fun u=>?_)
  refine c_sta ⟨w0,M,(100140,g5,.cells #[.string s526,.slice none 0 0] 101 (0,0))::(100010,g1,.cells #[.slice Ap0_0 p0.fRing.length cp0_0,.slice Ap0_1 p0.fHints.length cp0_1,.slice Ap0_2 p0.fAnchors.length cp0_2,.int .i64 p0.fEpoch,.slice Ap0_3 p0.fFlushes.length cp0_3] 30 (0,0))::H,(11,⟨.slice none 0 0,170,2,0,[]⟩)::R,φ⟩ (fun _ h=>h)<|c_seq<|c_seq<|c_region<|g_v rfl r_move<|g_v rfl (r_field (n:=0) Tryz.underlying30 rfl Tryz.sizeOf25 rfl rfl)<|g_v rfl (r_load (tag:=100010) rfl rfl rfl Tryz.isAgg25)<|g_v rfl (r_lenL Tryz.underlying25 rfl)<|g_v rfl (r_lss rfl rfl)<|g_nil ?_
  refine d_then ?_
  refine c_cond rfl (fun h537=>?_) (fun h537=>?_)
  ·
   replace hm:=ite_t hm (of_decide_eq_true h537)
   refine c_skip<|d_then<|c_seq<|c_block<|c_region<|g_v rfl r_move<|g_v rfl (r_field (n:=0) Tryz.underlying30 rfl Tryz.sizeOf25 rfl rfl)<|g_v rfl (r_load (tag:=100010) rfl rfl rfl Tryz.isAgg25)<|g_v rfl r_move ?_
   replace hm:=bnd hm
   obtain ⟨x538,hx538,hm⟩:=hm
   refine g_know _ (fun W hS=>cl_at (p:=(Sta.mk w0 M H R φ).ok) (sz:=1) (fun _=>rfl) (by decide) (ok_pre (H1:=[_,_]) (R1:=[_]) hS (fun W h=>h)) fp0_0 hx538) ?_
   rintro ⟨ad539,hA541,f540⟩
   refine g_v rfl (r_ix Tryz.underlying25 Tryz.sizeOf3 rfl hA541 rfl hx538)<|g_v rfl (r_ld rfl Tryz.isAgg3 (fun W hS=>Cl.head (f540 W (ok_pre (H1:=[_,_]) (R1:=[_]) hS (fun W h=>h))))) ?_
   replace hm:=bnd hm
   obtain ⟨x542,hx543,hm⟩:=hm
   refine g_cn ⟨w0,M,(1000,g5,.cells #[.string s526,.slice none 0 0] 101 (0,0))::(100010,g1,.cells #[.slice Ap0_0 p0.fRing.length cp0_0,.slice Ap0_1 p0.fHints.length cp0_1,.slice Ap0_2 p0.fAnchors.length cp0_2,.int .i64 p0.fEpoch,.slice Ap0_3 p0.fFlushes.length cp0_3] 30 (0,0))::H,(1000,⟨.slice none 0 0,170,2,0,[]⟩)::R,φ⟩ (fun W h=>(ok_front (t:=100140) (t':=1000) (ok_frontR (t:=11) (t':=1000) h rfl) rfl)) Tryz.call75 rfl rfl (c_ref04_Packer_Number x538 1 g5 (⟨s526,([] : List Gref04_Place)⟩ : Gref04_Packer) none 0 (Nat.le_refl 0) _ hx543) (fun _ _=>?_)
   refine g_sta _ (fun W h=>(ok_frontR (t:=1000) (t':=11) (ok_front (t:=1000) (t':=100140) h rfl) rfl))<|g_nil<|d_normal_block<|d_then ?_
   refine c_flat [(1,.pointer (some ⟨g1,0,none⟩)),(4,.pointer (some ⟨g5,0,none⟩)),(5,.int .i64 i525)] ⟨rfl,rfl,rfl,trivial⟩ (fun u=>?_)
   refine c_sta ⟨w0,M,(100140,g5,.cells #[.string x542.fB,.slice none 0 0] 101 (0,0))::(100010,g1,.cells #[.slice Ap0_0 p0.fRing.length cp0_0,.slice Ap0_1 p0.fHints.length cp0_1,.slice Ap0_2 p0.fAnchors.length cp0_2,.int .i64 p0.fEpoch,.slice Ap0_3 p0.fFlushes.length cp0_3] 30 (0,0))::H,(11,⟨.slice none 0 0,170,2,0,[]⟩)::R,φ⟩ (fun _ h=>h)<|c_region<|g_v rfl r_move<|g_v rfl (r_add rfl rfl rfl)<|g_v rfl r_assign<|g_nil ?_
   obtain ⟨n544,hn544,hlp⟩:=nx_inl hm hnx8
   exact d_round (n544,w64 (i525 + 1),x542.fB) hlp hn544 ⟨rfl,rfl,rfl,trivial⟩ (fun W h=>h.phi (fun W hφ=>hφ))
  replace hm:=ite_f hm (of_decide_eq_false h537)
  refine c_exit<|d_exit_then<|d_exit_then<|d_exit_block ?_
  replace hm:=nx_out (C:=(fun e : ByteArray=>m_ref13_Snap_j1 p0 e = some r)) hm hnx8 hr8
  exact d_round s526 hm Nat.zero_lt_one ⟨rfl,rfl,trivial⟩ (fun W h=>h.phi (fun W hφ=>hφ))
 unfold m_ref13_Snap_j1 at hm
 refine d_flat [(1,.pointer (some ⟨g1,0,none⟩)),(4,.pointer (some ⟨g5,0,none⟩))] ⟨rfl,rfl,trivial⟩ (fun u=>?_)
 refine d_sta ⟨w0,M,(100140,g5,.cells #[.string s29,.slice none 0 0] 101 (0,0))::(100010,g1,.cells #[.slice Ap0_0 p0.fRing.length cp0_0,.slice Ap0_1 p0.fHints.length cp0_1,.slice Ap0_2 p0.fAnchors.length cp0_2,.int .i64 p0.fEpoch,.slice Ap0_3 p0.fFlushes.length cp0_3] 30 (0,0))::H,(11,⟨.slice none 0 0,170,2,0,[]⟩)::R,φ⟩ (fun _ h=>h)<|d_then<|c_seq<|c_region<|g_v rfl r_move<|g_v rfl (r_field (n:=1) Tryz.underlying30 rfl Tryz.sizeOf26 rfl rfl)<|g_v rfl (r_load (tag:=100010) rfl rfl rfl Tryz.isAgg26)<|g_v rfl (r_lenL Tryz.underlying26 rfl) ?_
 replace hm:=bnd hm
 obtain ⟨x30,hx31,hm⟩:=hm
 refine g_cn ⟨w0,M,(1000,g5,.cells #[.string s29,.slice none 0 0] 101 (0,0))::(100010,g1,.cells #[.slice Ap0_0 p0.fRing.length cp0_0,.slice Ap0_1 p0.fHints.length cp0_1,.slice Ap0_2 p0.fAnchors.length cp0_2,.int .i64 p0.fEpoch,.slice Ap0_3 p0.fFlushes.length cp0_3] 30 (0,0))::H,(1000,⟨.slice none 0 0,170,2,0,[]⟩)::R,φ⟩ (fun W h=>(ok_front (t:=100140) (t':=1000) (ok_frontR (t:=11) (t':=1000) h rfl) rfl)) Tryz.call75 rfl rfl (c_ref04_Packer_Number (p0.fHints.length : Int) 1 g5 (⟨s29,([] : List Gref04_Place)⟩ : Gref04_Packer) none 0 (Nat.le_refl 0) _ hx31) (fun _ _=>?_)
 refine g_sta _ (fun W h=>(ok_frontR (t:=1000) (t':=11) (ok_front (t:=1000) (t':=100140) h rfl) rfl))<|g_nil<|d_then<|c_seq<|c_seq<|c_region<|g_v rfl r_assign<|g_nil<|d_then ?_
 refine c_cut (ι:=ByteArray) [1,4] (fun s71=>[]) (fun s71=>⟨w0,M,(100140,g5,.cells #[.string s71,.slice none 0 0] 101 (0,0))::(100010,g1,.cells #[.slice Ap0_0 p0.fRing.length cp0_0,.slice Ap0_1 p0.fHints.length cp0_1,.slice Ap0_2 p0.fAnchors.length cp0_2,.int .i64 p0.fEpoch,.slice Ap0_3 p0.fFlushes.length cp0_3] 30 (0,0))::H,(11,⟨.slice none 0 0,170,2,0,[]⟩)::R,φ⟩) (fun s71=>m_ref13_Snap_j2 p0 s71 = some r) ?_ (fun s71 u hm=>?_)
 ·
  refine c_block ?_
  replace hm:=bnd hm
  obtain ⟨out7,hl7,hr7⟩:=hm
  obtain ⟨n498',hl7⟩:=loop_lp hl7
  refine c_loopU (ι:=Nat×Int×ByteArray) [1,4,6] (fun ⟨n498,i478,s479⟩=>[(6,.int .i64 i478)]) (fun ⟨n498,i478,s479⟩=>⟨w0,M,(100140,g5,.cells #[.string s479,.slice none 0 0] 101 (0,0))::(100010,g1,.cells #[.slice Ap0_0 p0.fRing.length cp0_0,.slice Ap0_1 p0.fHints.length cp0_1,.slice Ap0_2 p0.fAnchors.length cp0_2,.int .i64 p0.fEpoch,.slice Ap0_3 p0.fFlushes.length cp0_3] 30 (0,0))::H,(11,⟨.slice none 0 0,170,2,0,[]⟩)::R,φ⟩) (fun ⟨n498,i478,s479⟩=>Lp (fun s=>m_ref13_Snap_s7 p0 s.1 s.2) n498 (i478,s479) out7) (fun ⟨n498,i478,s479⟩=>n498) (n498',0,x30.fB) hl7 ⟨rfl,rfl,rfl,trivial⟩ (fun W h=>h.phi (fun W hφ=>hφ)) (fun ⟨n498,i478,s479⟩ u hlp=>?_)
  obtain ⟨o7,hm,hnx7⟩:=lp_step hlp
  clear hlp
  replace hm : m_ref13_Snap_s7 p0 i478 s479 = some o7:=hm
  unfold m_ref13_Snap_s7 at hm
  refine c_flat [(1,.pointer (some ⟨g1,0,none⟩)),(4,.pointer (some ⟨g5,0,none⟩)),(6,.int .i64 i478)] ⟨rfl,rfl,rfl,trivial⟩ (fun u=>?_)
  refine c_sta ⟨w0,M,(100140,g5,.cells #[.string s479,.slice none 0 0] 101 (0,0))::(100010,g1,.cells #[.slice Ap0_0 p0.fRing.length cp0_0,.slice Ap0_1 p0.fHints.length cp0_1,.slice Ap0_2 p0.fAnchors.length cp0_2,.int .i64 p0.fEpoch,.slice Ap0_3 p0.fFlushes.length cp0_3] 30 (0,0))::H,(11,⟨.slice none 0 0,170,2,0,[]⟩)::R,φ⟩ (fun _ h=>h)<|c_seq<|c_seq<|c_region<|g_v rfl r_move<|g_v rfl (r_field (n:=1) Tryz.underlying30 rfl Tryz.sizeOf26 rfl rfl)<|g_v rfl (r_load (tag:=100010) rfl rfl rfl Tryz.isAgg26)<|g_v rfl (r_lenL Tryz.underlying26 rfl)<|g_v rfl (r_lss rfl rfl)<|g_nil ?_
  refine d_then ?_
  refine c_cond rfl (fun h499=>?_) (fun h499=>?_)
  ·
   replace hm:=ite_t hm (of_decide_eq_true h499)
   refine c_skip<|d_then<|c_seq<|c_block<|ga_start (n:=14) ⟨w0,M,(100140,g5,.cells #[.string s479,.slice none 0 0] 101 (0,0))::(100010,g1,.cells #[.slice Ap0_0 p0.fRing.length cp0_0,.slice Ap0_1 p0.fHints.length cp0_1,.slice Ap0_2 p0.fAnchors.length cp0_2,.int .i64 p0.fEpoch,.slice Ap0_3 p0.fFlushes.length cp0_3] 30 (0,0))::H,(11,⟨.slice none 0 0,170,2,0,[]⟩)::R,φ⟩ [13] #[false,false,false,false,false,false,false,false,false,false,false,false,false,false] (fun W h=>h.phi (fun W hφ=>hφ)) mixed rfl rfl<|ga_v (i:=0) (bz 14 1) rfl (by kernel_rfl) (fun _ _ _ _ h=>h) rfl (r_move)<|ga_v (i:=1) (bz 14 3) rfl (by kernel_rfl) (fun _ _ _ _ h=>h) rfl (r_move)<|ga_v (i:=2) (bz 14 7) rfl (by kernel_rfl) (fun _ _ _ _ h=>h) rfl (r_nilck rfl)<|ga_v (i:=3) (bz 14 15) rfl (by kernel_rfl) (fun _ _ _ _ h=>h) rfl (r_field (n:=0) Tryz.underlying101 rfl Tryz.sizeOf9 rfl rfl)<|ga_v (i:=4) (bz 14 31) rfl (by kernel_rfl) (fun _ _ _ _ h=>h) rfl (r_load (tag:=100140) rfl rfl rfl Tryz.isAgg9) ?_
   refine ga_v (i:=5) (bz 14 63) rfl (by kernel_rfl) (fun _ _ _ _ h=>h) rfl (r_field (n:=1) Tryz.underlying30 rfl Tryz.sizeOf26 rfl rfl)<|ga_v (i:=6) (bz 14 127) rfl (by kernel_rfl) (fun _ _ _ _ h=>h) rfl (r_load (tag:=100010) rfl rfl rfl Tryz.isAgg26)<|ga_r (i:=7) (bz 14 255) rfl (by kernel_rfl) (by decide) rfl (r_move) ?_
   replace hm:=bnd hm
   obtain ⟨x510,hx510,hm⟩:=hm
   refine ga_know _ (fun W hS=>cl_at (p:=(Sta.mk w0 M H R φ).ok) (sz:=1) (fun _=>rfl) (by decide) (ok_pre (H1:=[_,_]) (R1:=[_]) hS (fun W h=>h)) fp0_1 hx510) ?_
   rintro ⟨ad511,hA513,f512⟩
   refine ga_r (i:=8) (bz 14 511) rfl (by kernel_rfl) (by decide) rfl (r_ix Tryz.underlying26 Tryz.sizeOf9 rfl hA513 rfl hx510)<|ga_r (i:=9) (bz 14 1023) rfl (by kernel_rfl) (by decide) rfl (r_ld rfl Tryz.isAgg9 (fun W hS=>Cl.head (f512 W (ok_pre (H1:=[_,_]) (R1:=[_]) hS (fun W h=>h))))) ?_
   replace hm:=bnd hm
   obtain ⟨s514,hs514,hm⟩:=hm
   refine ga_r (i:=10) (bz 14 2047) rfl (by kernel_rfl) (by decide) rfl (r_addT rfl rfl hs514)<|ga_r (i:=11) (bz 14 4095) rfl (by kernel_rfl) (by decide) rfl (r_nilck rfl)<|ga_r (i:=12) (bz 14 8191) rfl (by kernel_rfl) (by decide) rfl (r_field (n:=0) Tryz.underlying101 rfl Tryz.sizeOf9 rfl rfl)<|ga_lastL (i:=13) (tag:=100140) (bz 14 16383) rfl (by kernel_rfl) (by decide) rfl rfl rfl rfl Tryz.sizeOf9 rfl rfl<|gz_done (by kernel_rfl)<|d_normal_block<|d_then ?_
   refine c_flat [(1,.pointer (some ⟨g1,0,none⟩)),(4,.pointer (some ⟨g5,0,none⟩)),(6,.int .i64 i478)] ⟨rfl,rfl,rfl,trivial⟩ (fun u=>?_)
   refine c_sta ⟨w0,M,(100140,g5,.cells #[.string s514,.slice none 0 0] 101 (0,0))::(100010,g1,.cells #[.slice Ap0_0 p0.fRing.length cp0_0,.slice Ap0_1 p0.fHints.length cp0_1,.slice Ap0_2 p0.fAnchors.length cp0_2,.int .i64 p0.fEpoch,.slice Ap0_3 p0.fFlushes.length cp0_3] 30 (0,0))::H,(11,⟨.slice none 0 0,170,2,0,[]⟩)::R,φ⟩ (fun _ h=>h)<|c_region<|g_v rfl r_move<|g_v rfl (r_add rfl rfl rfl)<|g_v rfl r_assign<|g_nil ?_
   obtain ⟨n515,hn515,hlp⟩:=nx_inl hm hnx7
   exact d_round (n515,w64 (i478 + 1),s514) hlp hn515 ⟨rfl,rfl,rfl,trivial⟩ (fun W h=>h.phi (fun W hφ=>hφ))
  replace hm:=ite_f hm (of_decide_eq_false h499)
  refine c_exit<|d_exit_then<|d_exit_then<|d_exit_block ?_
  replace hm:=nx_out (C:=(fun e : ByteArray=>m_ref13_Snap_j2 p0 e = some r)) hm hnx7 hr7
  exact d_round s479 hm Nat.zero_lt_one ⟨rfl,rfl,trivial⟩ (fun W h=>h.phi (fun W hφ=>hφ))
 unfold m_ref13_Snap_j2 at hm
 refine d_flat [(1,.pointer (some ⟨g1,0,none⟩)),(4,.pointer (some ⟨g5,0,none⟩))] ⟨rfl,rfl,trivial⟩ (fun u=>?_)
 refine d_sta ⟨w0,M,(100140,g5,.cells #[.string s71,.slice none 0 0] 101 (0,0))::(100010,g1,.cells #[.slice Ap0_0 p0.fRing.length cp0_0,.slice Ap0_1 p0.fHints.length cp0_1,.slice Ap0_2 p0.fAnchors.length cp0_2,.int .i64 p0.fEpoch,.slice Ap0_3 p0.fFlushes.length cp0_3] 30 (0,0))::H,(11,⟨.slice none 0 0,170,2,0,[]⟩)::R,φ⟩ (fun _ h=>h)<|d_then<|c_seq<|c_region<|g_v rfl r_move<|g_v rfl (r_field (n:=2) Tryz.underlying30 rfl Tryz.sizeOf27 rfl rfl)<|g_v rfl (r_load (tag:=100010) rfl rfl rfl Tryz.isAgg27)<|g_v rfl (r_lenL Tryz.underlying27 rfl) ?_
 replace hm:=bnd hm
 obtain ⟨x72,hx73,hm⟩:=hm
 refine g_cn ⟨w0,M,(1000,g5,.cells #[.string s71,.slice none 0 0] 101 (0,0))::(100010,g1,.cells #[.slice Ap0_0 p0.fRing.length cp0_0,.slice Ap0_1 p0.fHints.length cp0_1,.slice Ap0_2 p0.fAnchors.length cp0_2,.int .i64 p0.fEpoch,.slice Ap0_3 p0.fFlushes.length cp0_3] 30 (0,0))::H,(1000,⟨.slice none 0 0,170,2,0,[]⟩)::R,φ⟩ (fun W h=>(ok_front (t:=100140) (t':=1000) (ok_frontR (t:=11) (t':=1000) h rfl) rfl)) Tryz.call75 rfl rfl (c_ref04_Packer_Number (p0.fAnchors.length : Int) 1 g5 (⟨s71,([] : List Gref04_Place)⟩ : Gref04_Packer) none 0 (Nat.le_refl 0) _ hx73) (fun _ _=>?_)
 refine g_sta _ (fun W h=>(ok_frontR (t:=1000) (t':=11) (ok_front (t:=1000) (t':=100140) h rfl) rfl))<|g_nil<|d_then<|c_seq<|c_seq<|c_region<|g_v rfl r_assign<|g_nil<|d_then ?_
 refine c_cut (ι:=ByteArray) [1,4] (fun s169=>[]) (fun s169=>⟨w0,M,(100140,g5,.cells #[.string s169,.slice none 0 0] 101 (0,0))::(100010,g1,.cells #[.slice Ap0_0 p0.fRing.length cp0_0,.slice Ap0_1 p0.fHints.length cp0_1,.slice Ap0_2 p0.fAnchors.length cp0_2,.int .i64 p0.fEpoch,.slice Ap0_3 p0.fFlushes.length cp0_3] 30 (0,0))::H,(11,⟨.slice none 0 0,170,2,0,[]⟩)::R,φ⟩) (fun s169=>m_ref13_Snap_j3 p0 s169 = some r) ?_ (fun s169 u hm=>?_)
 ·
  refine c_block ?_
  replace hm:=bnd hm
  obtain ⟨out6,hl6,hr6⟩:=hm
  obtain ⟨n414',hl6⟩:=loop_lp hl6
  refine c_loopU (ι:=Nat×Int×ByteArray) [1,4,7] (fun ⟨n414,i366,s367⟩=>[(7,.int .i64 i366)]) (fun ⟨n414,i366,s367⟩=>⟨w0,M,(100140,g5,.cells #[.string s367,.slice none 0 0] 101 (0,0))::(100010,g1,.cells #[.slice Ap0_0 p0.fRing.length cp0_0,.slice Ap0_1 p0.fHints.length cp0_1,.slice Ap0_2 p0.fAnchors.length cp0_2,.int .i64 p0.fEpoch,.slice Ap0_3 p0.fFlushes.length cp0_3] 30 (0,0))::H,(11,⟨.slice none 0 0,170,2,0,[]⟩)::R,φ⟩) (fun ⟨n414,i366,s367⟩=>Lp (fun s=>m_ref13_Snap_s6 p0 s.1 s.2) n414 (i366,s367) out6) (fun ⟨n414,i366,s367⟩=>n414) (n414',0,x72.fB) hl6 ⟨rfl,rfl,rfl,trivial⟩ (fun W h=>h.phi (fun W hφ=>hφ)) (fun ⟨n414,i366,s367⟩ u hlp=>?_)
  obtain ⟨o6,hm,hnx6⟩:=lp_step hlp
  clear hlp
  replace hm : m_ref13_Snap_s6 p0 i366 s367 = some o6:=hm
  unfold m_ref13_Snap_s6 at hm
  refine c_flat [(1,.pointer (some ⟨g1,0,none⟩)),(4,.pointer (some ⟨g5,0,none⟩)),(7,.int .i64 i366)] ⟨rfl,rfl,rfl,trivial⟩ (fun u=>?_)
  refine c_sta ⟨w0,M,(100140,g5,.cells #[.string s367,.slice none 0 0] 101 (0,0))::(100010,g1,.cells #[.slice Ap0_0 p0.fRing.length cp0_0,.slice Ap0_1 p0.fHints.length cp0_1,.slice Ap0_2 p0.fAnchors.length cp0_2,.int .i64 p0.fEpoch,.slice Ap0_3 p0.fFlushes.length cp0_3] 30 (0,0))::H,(11,⟨.slice none 0 0,170,2,0,[]⟩)::R,φ⟩ (fun _ h=>h)<|c_seq<|c_seq<|c_region<|g_v rfl r_move<|g_v rfl (r_field (n:=2) Tryz.underlying30 rfl Tryz.sizeOf27 rfl rfl)<|g_v rfl (r_load (tag:=100010) rfl rfl rfl Tryz.isAgg27)<|g_v rfl (r_lenL Tryz.underlying27 rfl)<|g_v rfl (r_lss rfl rfl)<|g_nil ?_
  refine d_then ?_
  refine c_cond rfl (fun h415=>?_) (fun h415=>?_)
  ·
   replace hm:=ite_t hm (of_decide_eq_true h415)
   refine c_skip<|d_then<|c_seq<|c_block<|c_seq<|ga_start (n:=15) ⟨w0,M,(100140,g5,.cells #[.string s367,.slice none 0 0] 101 (0,0))::(100010,g1,.cells #[.slice Ap0_0 p0.fRing.length cp0_0,.slice Ap0_1 p0.fHints.length cp0_1,.slice Ap0_2 p0.fAnchors.length cp0_2,.int .i64 p0.fEpoch,.slice Ap0_3 p0.fFlushes.length cp0_3] 30 (0,0))::H,(11,⟨.slice none 0 0,170,2,0,[]⟩)::R,φ⟩ [14] #[false,false,false,false,false,false,false,false,false,false,false,false,false,false,false] (fun W h=>h.phi (fun W hφ=>hφ)) mixed rfl rfl<|ga_v (i:=0) (bz 15 1) rfl (by kernel_rfl) (fun _ _ _ _ h=>h) rfl (r_move)<|ga_v (i:=1) (bz 15 3) rfl (by kernel_rfl) (fun _ _ _ _ h=>h) rfl (r_move)<|ga_v (i:=2) (bz 15 7) rfl (by kernel_rfl) (fun _ _ _ _ h=>h) rfl (r_nilck rfl)<|ga_v (i:=3) (bz 15 15) rfl (by kernel_rfl) (fun _ _ _ _ h=>h) rfl (r_field (n:=0) Tryz.underlying101 rfl Tryz.sizeOf9 rfl rfl) ?_
   refine ga_v (i:=4) (bz 15 31) rfl (by kernel_rfl) (fun _ _ _ _ h=>h) rfl (r_load (tag:=100140) rfl rfl rfl Tryz.isAgg9)<|ga_v (i:=5) (bz 15 63) rfl (by kernel_rfl) (fun _ _ _ _ h=>h) rfl (r_field (n:=2) Tryz.underlying30 rfl Tryz.sizeOf27 rfl rfl)<|ga_v (i:=6) (bz 15 127) rfl (by kernel_rfl) (fun _ _ _ _ h=>h) rfl (r_load (tag:=100010) rfl rfl rfl Tryz.isAgg27)<|ga_r (i:=7) (bz 15 255) rfl (by kernel_rfl) (by decide) rfl (r_move) ?_
   replace hm:=bnd hm
   obtain ⟨x428,hx428,hm⟩:=hm
   refine ga_know _ (fun W hS=>cl_at (p:=(Sta.mk w0 M H R φ).ok) (sz:=2) (fun _=>rfl) (by decide) (ok_pre (H1:=[_,_]) (R1:=[_]) hS (fun W h=>h)) fp0_2 hx428) ?_
   rintro ⟨ad429,hA431,f430⟩
   refine ga_r (i:=8) (bz 15 511) rfl (by kernel_rfl) (by decide) rfl (r_ix Tryz.underlying27 Tryz.sizeOf55 rfl hA431 rfl hx428) ?_
   have f432:=fun (W : World) (h : (Sta.mk w0 M H R φ).ok W)=>Cl.drop (f430 W h) 0
   refine ga_r (i:=9) (bz 15 1023) rfl (by kernel_rfl) (by decide) rfl (r_fieldF Tryz.underlying55 rfl Tryz.sizeOf9 rfl)<|ga_r (i:=10) (bz 15 2047) rfl (by kernel_rfl) (by decide) rfl (r_ld rfl Tryz.isAgg9 (fun W hS=>Cl.head (f432 W (ok_pre (H1:=[_,_]) (R1:=[_]) hS (fun W h=>h))))) ?_
   replace hm:=bnd hm
   obtain ⟨s433,hs433,hm⟩:=hm
   refine ga_r (i:=11) (bz 15 4095) rfl (by kernel_rfl) (by decide) rfl (r_addT rfl rfl hs433)<|ga_r (i:=12) (bz 15 8191) rfl (by kernel_rfl) (by decide) rfl (r_nilck rfl)<|ga_r (i:=13) (bz 15 16383) rfl (by kernel_rfl) (by decide) rfl (r_field (n:=0) Tryz.underlying101 rfl Tryz.sizeOf9 rfl rfl)<|ga_lastL (i:=14) (tag:=100140) (bz 15 32767) rfl (by kernel_rfl) (by decide) rfl rfl rfl rfl Tryz.sizeOf9 rfl rfl<|gz_done (by kernel_rfl)<|d_then ?_
   refine c_flat [(1,.pointer (some ⟨g1,0,none⟩)),(4,.pointer (some ⟨g5,0,none⟩)),(7,.int .i64 i366)] ⟨rfl,rfl,rfl,trivial⟩ (fun u=>?_)
   refine c_sta ⟨w0,M,(100140,g5,.cells #[.string s433,.slice none 0 0] 101 (0,0))::(100010,g1,.cells #[.slice Ap0_0 p0.fRing.length cp0_0,.slice Ap0_1 p0.fHints.length cp0_1,.slice Ap0_2 p0.fAnchors.length cp0_2,.int .i64 p0.fEpoch,.slice Ap0_3 p0.fFlushes.length cp0_3] 30 (0,0))::H,(11,⟨.slice none 0 0,170,2,0,[]⟩)::R,φ⟩ (fun _ h=>h)<|c_seq<|c_region<|g_v rfl r_move<|g_v rfl (r_field (n:=2) Tryz.underlying30 rfl Tryz.sizeOf27 rfl rfl)<|g_v rfl (r_load (tag:=100010) rfl rfl rfl Tryz.isAgg27)<|g_v rfl r_move ?_
   replace hm:=bnd hm
   obtain ⟨x434,hx434,hm⟩:=hm
   refine g_know _ (fun W hS=>cl_at (p:=(Sta.mk w0 M H R φ).ok) (sz:=2) (fun _=>rfl) (by decide) (ok_pre (H1:=[_,_]) (R1:=[_]) hS (fun W h=>h)) fp0_2 hx434) ?_
   rintro ⟨ad435,hA437,f436⟩
   refine g_v rfl (r_ix Tryz.underlying27 Tryz.sizeOf55 rfl hA437 rfl hx434) ?_
   have f438:=fun (W : World) (h : (Sta.mk w0 M H R φ).ok W)=>Cl.drop (f436 W h) 1
   refine g_v rfl (r_fieldF Tryz.underlying55 rfl Tryz.sizeOf9 rfl)<|g_v rfl (r_ld rfl Tryz.isAgg9 (fun W hS=>Cl.head (f438 W (ok_pre (H1:=[_,_]) (R1:=[_]) hS (fun W h=>h)))))<|g_v rfl (r_len Tryz.underlying9 rfl) ?_
   replace hm:=bnd hm
   obtain ⟨x439,hx440,hm⟩:=hm
   refine g_cn ⟨w0,M,(1000,g5,.cells #[.string s433,.slice none 0 0] 101 (0,0))::(100010,g1,.cells #[.slice Ap0_0 p0.fRing.length cp0_0,.slice Ap0_1 p0.fHints.length cp0_1,.slice Ap0_2 p0.fAnchors.length cp0_2,.int .i64 p0.fEpoch,.slice Ap0_3 p0.fFlushes.length cp0_3] 30 (0,0))::H,(1000,⟨.slice none 0 0,170,2,0,[]⟩)::R,φ⟩ (fun W h=>(ok_front (t:=100140) (t':=1000) (ok_frontR (t:=11) (t':=1000) h rfl) rfl)) Tryz.call75 rfl rfl (c_ref04_Packer_Number (x434.fText.size : Int) 1 g5 (⟨s433,([] : List Gref04_Place)⟩ : Gref04_Packer) none 0 (Nat.le_refl 0) _ hx440) (fun _ _=>?_)
   refine g_sta _ (fun W h=>(ok_frontR (t:=1000) (t':=11) (ok_front (t:=1000) (t':=100140) h rfl) rfl))<|g_nil<|d_then ?_
   refine c_flat [(1,.pointer (some ⟨g1,0,none⟩)),(4,.pointer (some ⟨g5,0,none⟩)),(7,.int .i64 i366)] ⟨rfl,rfl,rfl,trivial⟩ (fun u=>?_)
   refine c_sta ⟨w0,M,(100140,g5,.cells #[.string x439.fB,.slice none 0 0] 101 (0,0))::(100010,g1,.cells #[.slice Ap0_0 p0.fRing.length cp0_0,.slice Ap0_1 p0.fHints.length cp0_1,.slice Ap0_2 p0.fAnchors.length cp0_2,.int .i64 p0.fEpoch,.slice Ap0_3 p0.fFlushes.length cp0_3] 30 (0,0))::H,(11,⟨.slice none 0 0,170,2,0,[]⟩)::R,φ⟩ (fun _ h=>h)<|ga_start (n:=15) ⟨w0,M,(100140,g5,.cells #[.string x439.fB,.slice none 0 0] 101 (0,0))::(100010,g1,.cells #[.slice Ap0_0 p0.fRing.length cp0_0,.slice Ap0_1 p0.fHints.length cp0_1,.slice Ap0_2 p0.fAnchors.length cp0_2,.int .i64 p0.fEpoch,.slice Ap0_3 p0.fFlushes.length cp0_3] 30 (0,0))::H,(11,⟨.slice none 0 0,170,2,0,[]⟩)::R,φ⟩ [14] #[false,false,false,false,false,false,false,false,false,false,false,false,false,false,false] (fun W h=>h.phi (fun W hφ=>hφ)) mixed rfl rfl<|ga_v (i:=0) (bz 15 1) rfl (by kernel_rfl) (fun _ _ _ _ h=>h) rfl (r_move)<|ga_v (i:=1) (bz 15 3) rfl (by kernel_rfl) (fun _ _ _ _ h=>h) rfl (r_move)<|ga_v (i:=2) (bz 15 7) rfl (by kernel_rfl) (fun _ _ _ _ h=>h) rfl (r_nilck rfl)<|ga_v (i:=3) (bz 15 15) rfl (by kernel_rfl) (fun _ _ _ _ h=>h) rfl (r_field (n:=0) Tryz.underlying101 rfl Tryz.sizeOf9 rfl rfl)<|ga_v (i:=4) (bz 15 31) rfl (by kernel_rfl) (fun _ _ _ _ h=>h) rfl (r_load (tag:=100140) rfl rfl rfl Tryz.isAgg9)<|ga_v (i:=5) (bz 15 63) rfl (by kernel_rfl) (fun _ _ _ _ h=>h) rfl (r_field (n:=2) Tryz.underlying30 rfl Tryz.sizeOf27 rfl rfl)<|ga_v (i:=6) (bz 15 127) rfl (by kernel_rfl) (fun _ _ _ _ h=>h) rfl (r_load (tag:=100010) rfl rfl rfl Tryz.isAgg27)<|ga_r (i:=7) (bz 15 255) rfl (by kernel_rfl) (by decide) rfl (r_move) ?_
   replace hm:=bnd hm
   obtain ⟨x453,hx453,hm⟩:=hm
   refine ga_know _ (fun W hS=>cl_at (p:=(Sta.mk w0 M H R φ).ok) (sz:=2) (fun _=>rfl) (by decide) (ok_pre (H1:=[_,_]) (R1:=[_]) hS (fun W h=>h)) fp0_2 hx453) ?_
   rintro ⟨ad454,hA456,f455⟩
   refine ga_r (i:=8) (bz 15 511) rfl (by kernel_rfl) (by decide) rfl (r_ix Tryz.underlying27 Tryz.sizeOf55 rfl hA456 rfl hx453) ?_
   have f457:=fun (W : World) (h : (Sta.mk w0 M H R φ).ok W)=>Cl.drop (f455 W h) 1
   refine ga_r (i:=9) (bz 15 1023) rfl (by kernel_rfl) (by decide) rfl (r_fieldF Tryz.underlying55 rfl Tryz.sizeOf9 rfl)<|ga_r (i:=10) (bz 15 2047) rfl (by kernel_rfl) (by decide) rfl (r_ld rfl Tryz.isAgg9 (fun W hS=>Cl.head (f457 W (ok_pre (H1:=[_,_]) (R1:=[_]) hS (fun W h=>h))))) ?_
   replace hm:=bnd hm
   obtain ⟨s458,hs458,hm⟩:=hm
   refine ga_r (i:=11) (bz 15 4095) rfl (by kernel_rfl) (by decide) rfl (r_addT rfl rfl hs458)<|ga_r (i:=12) (bz 15 8191) rfl (by kernel_rfl) (by decide) rfl (r_nilck rfl)<|ga_r (i:=13) (bz 15 16383) rfl (by kernel_rfl) (by decide) rfl (r_field (n:=0) Tryz.underlying101 rfl Tryz.sizeOf9 rfl rfl)<|ga_lastL (i:=14) (tag:=100140) (bz 15 32767) rfl (by kernel_rfl) (by decide) rfl rfl rfl rfl Tryz.sizeOf9 rfl rfl<|gz_done (by kernel_rfl)<|d_normal_block<|d_then ?_
   refine c_flat [(1,.pointer (some ⟨g1,0,none⟩)),(4,.pointer (some ⟨g5,0,none⟩)),(7,.int .i64 i366)] ⟨rfl,rfl,rfl,trivial⟩ (fun u=>?_)
   refine c_sta ⟨w0,M,(100140,g5,.cells #[.string s458,.slice none 0 0] 101 (0,0))::(100010,g1,.cells #[.slice Ap0_0 p0.fRing.length cp0_0,.slice Ap0_1 p0.fHints.length cp0_1,.slice Ap0_2 p0.fAnchors.length cp0_2,.int .i64 p0.fEpoch,.slice Ap0_3 p0.fFlushes.length cp0_3] 30 (0,0))::H,(11,⟨.slice none 0 0,170,2,0,[]⟩)::R,φ⟩ (fun _ h=>h)<|c_region<|g_v rfl r_move<|g_v rfl (r_add rfl rfl rfl)<|g_v rfl r_assign<|g_nil ?_
   obtain ⟨n459,hn459,hlp⟩:=nx_inl hm hnx6
   exact d_round (n459,w64 (i366 + 1),s458) hlp hn459 ⟨rfl,rfl,rfl,trivial⟩ (fun W h=>h.phi (fun W hφ=>hφ))
  replace hm:=ite_f hm (of_decide_eq_false h415)
  refine c_exit<|d_exit_then<|d_exit_then<|d_exit_block ?_
  replace hm:=nx_out (C:=(fun e : ByteArray=>m_ref13_Snap_j3 p0 e = some r)) hm hnx6 hr6
  exact d_round s367 hm Nat.zero_lt_one ⟨rfl,rfl,trivial⟩ (fun W h=>h.phi (fun W hφ=>hφ))
 unfold m_ref13_Snap_j3 at hm
 refine d_flat [(1,.pointer (some ⟨g1,0,none⟩)),(4,.pointer (some ⟨g5,0,none⟩))] ⟨rfl,rfl,trivial⟩ (fun u=>?_)
 refine d_sta ⟨w0,M,(100140,g5,.cells #[.string s169,.slice none 0 0] 101 (0,0))::(100010,g1,.cells #[.slice Ap0_0 p0.fRing.length cp0_0,.slice Ap0_1 p0.fHints.length cp0_1,.slice Ap0_2 p0.fAnchors.length cp0_2,.int .i64 p0.fEpoch,.slice Ap0_3 p0.fFlushes.length cp0_3] 30 (0,0))::H,(11,⟨.slice none 0 0,170,2,0,[]⟩)::R,φ⟩ (fun _ h=>h)<|d_then<|c_seq<|c_region<|g_v rfl r_move<|g_v rfl (r_field (n:=3) Tryz.underlying30 rfl Tryz.sizeOf3 rfl rfl)<|g_v rfl (r_load (tag:=100010) rfl rfl rfl Tryz.isAgg3) ?_
 replace hm:=bnd hm
 obtain ⟨x170,hx171,hm⟩:=hm
 refine g_cn ⟨w0,M,(1000,g5,.cells #[.string s169,.slice none 0 0] 101 (0,0))::(100010,g1,.cells #[.slice Ap0_0 p0.fRing.length cp0_0,.slice Ap0_1 p0.fHints.length cp0_1,.slice Ap0_2 p0.fAnchors.length cp0_2,.int .i64 p0.fEpoch,.slice Ap0_3 p0.fFlushes.length cp0_3] 30 (0,0))::H,(1000,⟨.slice none 0 0,170,2,0,[]⟩)::R,φ⟩ (fun W h=>(ok_front (t:=100140) (t':=1000) (ok_frontR (t:=11) (t':=1000) h rfl) rfl)) Tryz.call75 rfl rfl (c_ref04_Packer_Number p0.fEpoch 8 g5 (⟨s169,([] : List Gref04_Place)⟩ : Gref04_Packer) none 0 (Nat.le_refl 0) _ hx171) (fun _ _=>?_)
 refine g_sta _ (fun W h=>(ok_frontR (t:=1000) (t':=11) (ok_front (t:=1000) (t':=100140) h rfl) rfl))<|g_nil<|d_then<|c_seq<|c_region<|g_v rfl r_move<|g_v rfl (r_field (n:=4) Tryz.underlying30 rfl Tryz.sizeOf28 rfl rfl)<|g_v rfl (r_load (tag:=100010) rfl rfl rfl Tryz.isAgg28)<|g_v rfl (r_lenL Tryz.underlying28 rfl) ?_
 replace hm:=bnd hm
 obtain ⟨x172,hx173,hm⟩:=hm
 refine g_cn ⟨w0,M,(1000,g5,.cells #[.string x170.fB,.slice none 0 0] 101 (0,0))::(100010,g1,.cells #[.slice Ap0_0 p0.fRing.length cp0_0,.slice Ap0_1 p0.fHints.length cp0_1,.slice Ap0_2 p0.fAnchors.length cp0_2,.int .i64 p0.fEpoch,.slice Ap0_3 p0.fFlushes.length cp0_3] 30 (0,0))::H,(1000,⟨.slice none 0 0,170,2,0,[]⟩)::R,φ⟩ (fun W h=>(ok_front (t:=100140) (t':=1000) (ok_frontR (t:=11) (t':=1000) h rfl) rfl)) Tryz.call75 rfl rfl (c_ref04_Packer_Number (p0.fFlushes.length : Int) 1 g5 (⟨x170.fB,([] : List Gref04_Place)⟩ : Gref04_Packer) none 0 (Nat.le_refl 0) _ hx173) (fun _ _=>?_)
 refine g_sta _ (fun W h=>(ok_frontR (t:=1000) (t':=11) (ok_front (t:=1000) (t':=100140) h rfl) rfl))<|g_nil<|d_then ?_
 refine c_flat [(1,.pointer (some ⟨g1,0,none⟩)),(4,.pointer (some ⟨g5,0,none⟩))] ⟨rfl,rfl,trivial⟩ (fun u=>?_)
 refine c_sta ⟨w0,M,(100140,g5,.cells #[.string x172.fB,.slice none 0 0] 101 (0,0))::(100010,g1,.cells #[.slice Ap0_0 p0.fRing.length cp0_0,.slice Ap0_1 p0.fHints.length cp0_1,.slice Ap0_2 p0.fAnchors.length cp0_2,.int .i64 p0.fEpoch,.slice Ap0_3 p0.fFlushes.length cp0_3] 30 (0,0))::H,(11,⟨.slice none 0 0,170,2,0,[]⟩)::R,φ⟩ (fun _ h=>h)<|c_seq<|c_seq<|c_region<|g_v rfl r_assign<|g_nil<|d_then ?_
 refine c_cut (ι:=ByteArray) [4] (fun s233=>[]) (fun s233=>⟨w0,M,(100140,g5,.cells #[.string s233,.slice none 0 0] 101 (0,0))::H,(11,⟨.slice none 0 0,170,2,0,[]⟩)::R,φ⟩) (fun s233=>m_ref13_Snap_j4 s233 = some r) ?_ (fun s233 u hm=>?_)
 ·
  refine c_block ?_
  replace hm:=bnd hm
  obtain ⟨out5,hl5,hr5⟩:=hm
  obtain ⟨n292',hl5⟩:=loop_lp hl5
  refine c_loopU (ι:=Nat×Int×ByteArray) [1,4,8] (fun ⟨n292,i262,s263⟩=>[(8,.int .i64 i262)]) (fun ⟨n292,i262,s263⟩=>⟨w0,M,(100140,g5,.cells #[.string s263,.slice none 0 0] 101 (0,0))::(100010,g1,.cells #[.slice Ap0_0 p0.fRing.length cp0_0,.slice Ap0_1 p0.fHints.length cp0_1,.slice Ap0_2 p0.fAnchors.length cp0_2,.int .i64 p0.fEpoch,.slice Ap0_3 p0.fFlushes.length cp0_3] 30 (0,0))::H,(11,⟨.slice none 0 0,170,2,0,[]⟩)::R,φ⟩) (fun ⟨n292,i262,s263⟩=>Lp (fun s=>m_ref13_Snap_s5 p0 s.1 s.2) n292 (i262,s263) out5) (fun ⟨n292,i262,s263⟩=>n292) (n292',0,x172.fB) hl5 ⟨rfl,rfl,rfl,trivial⟩ (fun W h=>h.phi (fun W hφ=>hφ)) (fun ⟨n292,i262,s263⟩ u hlp=>?_)
  obtain ⟨o5,hm,hnx5⟩:=lp_step hlp
  clear hlp
  replace hm : m_ref13_Snap_s5 p0 i262 s263 = some o5:=hm
  unfold m_ref13_Snap_s5 at hm
  refine c_flat [(1,.pointer (some ⟨g1,0,none⟩)),(4,.pointer (some ⟨g5,0,none⟩)),(8,.int .i64 i262)] ⟨rfl,rfl,rfl,trivial⟩ (fun u=>?_)
  refine c_sta ⟨w0,M,(100140,g5,.cells #[.string s263,.slice none 0 0] 101 (0,0))::(100010,g1,.cells #[.slice Ap0_0 p0.fRing.length cp0_0,.slice Ap0_1 p0.fHints.length cp0_1,.slice Ap0_2 p0.fAnchors.length cp0_2,.int .i64 p0.fEpoch,.slice Ap0_3 p0.fFlushes.length cp0_3] 30 (0,0))::H,(11,⟨.slice none 0 0,170,2,0,[]⟩)::R,φ⟩ (fun _ h=>h)<|c_seq<|c_seq<|c_region<|g_v rfl r_move<|g_v rfl (r_field (n:=4) Tryz.underlying30 rfl Tryz.sizeOf28 rfl rfl)<|g_v rfl (r_load (tag:=100010) rfl rfl rfl Tryz.isAgg28)<|g_v rfl (r_lenL Tryz.underlying28 rfl)<|g_v rfl (r_lss rfl rfl)<|g_nil ?_
  refine d_then ?_
  refine c_cond rfl (fun h293=>?_) (fun h293=>?_)
  ·
   replace hm:=ite_t hm (of_decide_eq_true h293)
   refine c_skip<|d_then<|c_seq<|c_block<|c_seq<|c_region<|g_v rfl r_move<|g_v rfl (r_field (n:=4) Tryz.underlying30 rfl Tryz.sizeOf28 rfl rfl)<|g_v rfl (r_load (tag:=100010) rfl rfl rfl Tryz.isAgg28)<|g_v rfl r_move ?_
   replace hm:=bnd hm
   obtain ⟨x294,hx294,hm⟩:=hm
   refine g_know _ (fun W hS=>cl_at (p:=(Sta.mk w0 M H R φ).ok) (sz:=2) (fun _=>rfl) (by decide) (ok_pre (H1:=[_,_]) (R1:=[_]) hS (fun W h=>h)) fp0_3 hx294) ?_
   rintro ⟨ad295,hA297,f296⟩
   refine g_v rfl (r_ix Tryz.underlying28 Tryz.sizeOf48 rfl hA297 rfl hx294) ?_
   have f298:=fun (W : World) (h : (Sta.mk w0 M H R φ).ok W)=>Cl.drop (f296 W h) 0
   refine g_v rfl (r_fieldF Tryz.underlying48 rfl Tryz.sizeOf3 rfl)<|g_v rfl (r_ld rfl Tryz.isAgg3 (fun W hS=>Cl.head (f298 W (ok_pre (H1:=[_,_]) (R1:=[_]) hS (fun W h=>h))))) ?_
   replace hm:=bnd hm
   obtain ⟨x299,hx300,hm⟩:=hm
   refine g_cn ⟨w0,M,(1000,g5,.cells #[.string s263,.slice none 0 0] 101 (0,0))::(100010,g1,.cells #[.slice Ap0_0 p0.fRing.length cp0_0,.slice Ap0_1 p0.fHints.length cp0_1,.slice Ap0_2 p0.fAnchors.length cp0_2,.int .i64 p0.fEpoch,.slice Ap0_3 p0.fFlushes.length cp0_3] 30 (0,0))::H,(1000,⟨.slice none 0 0,170,2,0,[]⟩)::R,φ⟩ (fun W h=>(ok_front (t:=100140) (t':=1000) (ok_frontR (t:=11) (t':=1000) h rfl) rfl)) Tryz.call75 rfl rfl (c_ref04_Packer_Number x294.fEpoch 8 g5 (⟨s263,([] : List Gref04_Place)⟩ : Gref04_Packer) none 0 (Nat.le_refl 0) _ hx300) (fun _ _=>?_)
   refine g_sta _ (fun W h=>(ok_frontR (t:=1000) (t':=11) (ok_front (t:=1000) (t':=100140) h rfl) rfl))<|g_nil<|d_then ?_
   refine c_flat [(1,.pointer (some ⟨g1,0,none⟩)),(4,.pointer (some ⟨g5,0,none⟩)),(8,.int .i64 i262)] ⟨rfl,rfl,rfl,trivial⟩ (fun u=>?_)
   refine c_sta ⟨w0,M,(100140,g5,.cells #[.string x299.fB,.slice none 0 0] 101 (0,0))::(100010,g1,.cells #[.slice Ap0_0 p0.fRing.length cp0_0,.slice Ap0_1 p0.fHints.length cp0_1,.slice Ap0_2 p0.fAnchors.length cp0_2,.int .i64 p0.fEpoch,.slice Ap0_3 p0.fFlushes.length cp0_3] 30 (0,0))::H,(11,⟨.slice none 0 0,170,2,0,[]⟩)::R,φ⟩ (fun _ h=>h)<|ga_start (n:=15) ⟨w0,M,(100140,g5,.cells #[.string x299.fB,.slice none 0 0] 101 (0,0))::(100010,g1,.cells #[.slice Ap0_0 p0.fRing.length cp0_0,.slice Ap0_1 p0.fHints.length cp0_1,.slice Ap0_2 p0.fAnchors.length cp0_2,.int .i64 p0.fEpoch,.slice Ap0_3 p0.fFlushes.length cp0_3] 30 (0,0))::H,(11,⟨.slice none 0 0,170,2,0,[]⟩)::R,φ⟩ [14] #[false,false,false,false,false,false,false,false,false,false,false,false,false,false,false] (fun W h=>h.phi (fun W hφ=>hφ)) mixed rfl rfl<|ga_v (i:=0) (bz 15 1) rfl (by kernel_rfl) (fun _ _ _ _ h=>h) rfl (r_move)<|ga_v (i:=1) (bz 15 3) rfl (by kernel_rfl) (fun _ _ _ _ h=>h) rfl (r_move)<|ga_v (i:=2) (bz 15 7) rfl (by kernel_rfl) (fun _ _ _ _ h=>h) rfl (r_nilck rfl)<|ga_v (i:=3) (bz 15 15) rfl (by kernel_rfl) (fun _ _ _ _ h=>h) rfl (r_field (n:=0) Tryz.underlying101 rfl Tryz.sizeOf9 rfl rfl)<|ga_v (i:=4) (bz 15 31) rfl (by kernel_rfl) (fun _ _ _ _ h=>h) rfl (r_load (tag:=100140) rfl rfl rfl Tryz.isAgg9)<|ga_v (i:=5) (bz 15 63) rfl (by kernel_rfl) (fun _ _ _ _ h=>h) rfl (r_field (n:=4) Tryz.underlying30 rfl Tryz.sizeOf28 rfl rfl)<|ga_v (i:=6) (bz 15 127) rfl (by kernel_rfl) (fun _ _ _ _ h=>h) rfl (r_load (tag:=100010) rfl rfl rfl Tryz.isAgg28)<|ga_r (i:=7) (bz 15 255) rfl (by kernel_rfl) (by decide) rfl (r_move) ?_
   replace hm:=bnd hm
   obtain ⟨x313,hx313,hm⟩:=hm
   refine ga_know _ (fun W hS=>cl_at (p:=(Sta.mk w0 M H R φ).ok) (sz:=2) (fun _=>rfl) (by decide) (ok_pre (H1:=[_,_]) (R1:=[_]) hS (fun W h=>h)) fp0_3 hx313) ?_
   rintro ⟨ad314,hA316,f315⟩
   refine ga_r (i:=8) (bz 15 511) rfl (by kernel_rfl) (by decide) rfl (r_ix Tryz.underlying28 Tryz.sizeOf48 rfl hA316 rfl hx313) ?_
   have f317:=fun (W : World) (h : (Sta.mk w0 M H R φ).ok W)=>Cl.drop (f315 W h) 1
   refine ga_r (i:=9) (bz 15 1023) rfl (by kernel_rfl) (by decide) rfl (r_fieldF Tryz.underlying48 rfl Tryz.sizeOf9 rfl)<|ga_r (i:=10) (bz 15 2047) rfl (by kernel_rfl) (by decide) rfl (r_ld rfl Tryz.isAgg9 (fun W hS=>Cl.head (f317 W (ok_pre (H1:=[_,_]) (R1:=[_]) hS (fun W h=>h))))) ?_
   replace hm:=bnd hm
   obtain ⟨s318,hs318,hm⟩:=hm
   refine ga_r (i:=11) (bz 15 4095) rfl (by kernel_rfl) (by decide) rfl (r_addT rfl rfl hs318)<|ga_r (i:=12) (bz 15 8191) rfl (by kernel_rfl) (by decide) rfl (r_nilck rfl)<|ga_r (i:=13) (bz 15 16383) rfl (by kernel_rfl) (by decide) rfl (r_field (n:=0) Tryz.underlying101 rfl Tryz.sizeOf9 rfl rfl)<|ga_lastL (i:=14) (tag:=100140) (bz 15 32767) rfl (by kernel_rfl) (by decide) rfl rfl rfl rfl Tryz.sizeOf9 rfl rfl<|gz_done (by kernel_rfl)<|d_normal_block<|d_then ?_
   refine c_flat [(1,.pointer (some ⟨g1,0,none⟩)),(4,.pointer (some ⟨g5,0,none⟩)),(8,.int .i64 i262)] ⟨rfl,rfl,rfl,trivial⟩ (fun u=>?_)
   refine c_sta ⟨w0,M,(100140,g5,.cells #[.string s318,.slice none 0 0] 101 (0,0))::(100010,g1,.cells #[.slice Ap0_0 p0.fRing.length cp0_0,.slice Ap0_1 p0.fHints.length cp0_1,.slice Ap0_2 p0.fAnchors.length cp0_2,.int .i64 p0.fEpoch,.slice Ap0_3 p0.fFlushes.length cp0_3] 30 (0,0))::H,(11,⟨.slice none 0 0,170,2,0,[]⟩)::R,φ⟩ (fun _ h=>h)<|c_region<|g_v rfl r_move<|g_v rfl (r_add rfl rfl rfl)<|g_v rfl r_assign<|g_nil ?_
   obtain ⟨n319,hn319,hlp⟩:=nx_inl hm hnx5
   exact d_round (n319,w64 (i262 + 1),s318) hlp hn319 ⟨rfl,rfl,rfl,trivial⟩ (fun W h=>h.phi (fun W hφ=>hφ))
  replace hm:=ite_f hm (of_decide_eq_false h293)
  refine c_exit<|d_exit_then<|d_exit_then<|d_exit_block ?_
  replace hm:=nx_out (C:=(fun e : ByteArray=>m_ref13_Snap_j4 e = some r)) hm hnx5 hr5
  exact d_round s263 hm Nat.zero_lt_one ⟨rfl,trivial⟩ (fun W h=>(h.dropH (t:=100010) rfl).phi (fun W hφ=>hφ))
 unfold m_ref13_Snap_j4 at hm
 refine d_flat [(4,.pointer (some ⟨g5,0,none⟩))] ⟨rfl,trivial⟩ (fun u=>?_)
 refine d_sta ⟨w0,M,(100140,g5,.cells #[.string s233,.slice none 0 0] 101 (0,0))::H,(11,⟨.slice none 0 0,170,2,0,[]⟩)::R,φ⟩ (fun _ h=>h)<|d_then<|c_seq<|c_region<|g_v rfl r_move<|g_v rfl (r_nilck rfl)<|g_v rfl (r_field (n:=0) Tryz.underlying101 rfl Tryz.sizeOf9 rfl rfl)<|g_v rfl (r_load (tag:=100140) rfl rfl rfl Tryz.isAgg9)<|g_v rfl r_assign<|g_nil ?_
 refine d_then<|c_ret ?_
 cases hm
 exact d_retC () Tryz.results17 (res_tmp (res_nil rfl)) trivial (fun W h=>ok_pre (H1:=[_]) (R1:=[_]) h (fun W hφ=>hφ)) (.inr rfl)
end Go.Proofs.YthpjodfjdnnckaaGreat
