import Derived.Test.YthpjodfjdnnckaaGreatWCYC
set_option maxRecDepth 100000
set_option maxHeartbeats 4000000
set_option linter.unusedVariables false
set_option linter.unusedSimpArgs false
namespace Go.Proofs.YthpjodfjdnnckaaGreat
open Go.RowKit Go.Proofs.YthpjodfjdnnckaaGreatW.PrintLast
noncomputable def m_conf_Snap_j4 (x5 : Gpack_Packer) (l214 : List Int) : Option ByteArray:=
  (m_pack_Packer_Bytes (⟨l214,x5.fplaces⟩ : Gpack_Packer)).bind fun x217=>
  some x217
noncomputable def m_conf_Snap_s5 (p0 : GConf) (x5 : Gpack_Packer) (l239 : List Int) (i242 : Int) : Option (((List Int)×Int) ⊕ (List Int)):=
  if i242 < (p0.fFlushes.length : Int) then
    (at_ p0.fFlushes i242).bind fun x265=>
    (m_conf_eight x265.fEpoch (⟨l239,x5.fplaces⟩ : Gpack_Packer)).bind fun x270=>
    (m_pack_Packer_Raw x265.fZone (⟨x270.fb,x5.fplaces⟩ : Gpack_Packer)).bind fun x275=>
    some (.inl (x275.fb,w64 (i242 + 1)))
  else
    some (.inr l239)
noncomputable def m_conf_Snap_j3 (p0 : GConf) (x5 : Gpack_Packer) (l156 : List Int) : Option ByteArray:=
  (m_conf_eight p0.fEpoch (⟨l156,x5.fplaces⟩ : Gpack_Packer)).bind fun x159=>
  (m_pack_Packer_Byte (IntKind.u8.wrap (p0.fFlushes.length : Int)) (⟨x159.fb,x5.fplaces⟩ : Gpack_Packer)).bind fun x164=>
  (loop (fun s=>m_conf_Snap_s5 p0 x5 s.1 s.2) (x164.fb,0)).bind fun e=>m_conf_Snap_j4 x5 e
noncomputable def m_conf_Snap_s6 (p0 : GConf) (x5 : Gpack_Packer) (l306 : List Int) (i309 : Int) : Option (((List Int)×Int) ⊕ (List Int)):=
  if i309 < (p0.fAnchors.length : Int) then
    (at_ p0.fAnchors i309).bind fun x337=>
    (m_pack_Packer_Raw x337.fName (⟨l306,x5.fplaces⟩ : Gpack_Packer)).bind fun x342=>
    (m_pack_Packer_Byte (IntKind.u8.wrap (x337.fText.size : Int)) (⟨x342.fb,x5.fplaces⟩ : Gpack_Packer)).bind fun x347=>
    (m_pack_Packer_Raw x337.fText (⟨x347.fb,x5.fplaces⟩ : Gpack_Packer)).bind fun x352=>
    some (.inl (x352.fb,w64 (i309 + 1)))
  else
    some (.inr l306)
noncomputable def m_conf_Snap_j2 (p0 : GConf) (x5 : Gpack_Packer) (l93 : List Int) : Option ByteArray:=
  (m_pack_Packer_Byte (IntKind.u8.wrap (p0.fAnchors.length : Int)) (⟨l93,x5.fplaces⟩ : Gpack_Packer)).bind fun x96=>
  (loop (fun s=>m_conf_Snap_s6 p0 x5 s.1 s.2) (x96.fb,0)).bind fun e=>m_conf_Snap_j3 p0 x5 e
noncomputable def m_conf_Snap_s7 (p0 : GConf) (x5 : Gpack_Packer) (l372 : List Int) (i375 : Int) : Option (((List Int)×Int) ⊕ (List Int)):=
  if i375 < (p0.fHints.length : Int) then
    (at_ p0.fHints i375).bind fun x392=>
    (m_pack_Packer_Raw x392 (⟨l372,x5.fplaces⟩ : Gpack_Packer)).bind fun x396=>
    some (.inl (x396.fb,w64 (i375 + 1)))
  else
    some (.inr l372)
noncomputable def m_conf_Snap_j1 (p0 : GConf) (x5 : Gpack_Packer) (l52 : List Int) : Option ByteArray:=
  (m_pack_Packer_Byte (IntKind.u8.wrap (p0.fHints.length : Int)) (⟨l52,x5.fplaces⟩ : Gpack_Packer)).bind fun x55=>
  (loop (fun s=>m_conf_Snap_s7 p0 x5 s.1 s.2) (x55.fb,0)).bind fun e=>m_conf_Snap_j2 p0 x5 e
noncomputable def m_conf_Snap_s8 (p0 : GConf) (x5 : Gpack_Packer) (l416 : List Int) (i419 : Int) : Option (((List Int)×Int) ⊕ (List Int)):=
  if i419 < (p0.fRing.length : Int) then
    (at_ p0.fRing i419).bind fun x436=>
    (m_pack_Packer_Byte (IntKind.u8.wrap x436) (⟨l416,x5.fplaces⟩ : Gpack_Packer)).bind fun x440=>
    some (.inl (x440.fb,w64 (i419 + 1)))
  else
    some (.inr l416)
noncomputable def m_conf_Snap (p0 : GConf) : Option ByteArray:=
  (m_conf_Right p0).bind fun x2=>
  if x2 = true then
    (m_pack_New).bind fun x5=>
    (m_pack_Packer_Byte (IntKind.u8.wrap (p0.fRing.length : Int)) x5).bind fun x14=>
    (loop (fun s=>m_conf_Snap_s8 p0 x5 s.1 s.2) (x14.fb,0)).bind fun e=>m_conf_Snap_j1 p0 x5 e
  else
    some (⟨#[]⟩ : ByteArray)
theorem c_conf_Snap {w0 : World} {M : Nat→Prop} {H : List (Nat×Nat×Obj)} {R : List (Nat×Row)} {φ : World→Prop} (p0 : GConf) (Ap0_0 : Option Addr) (cp0_0 : Nat) (hcp0_0 : p0.fRing.length ≤ cp0_0) (fp0_0 : ∀ W,φ W→Cl W Ap0_0 (p0.fRing.flatMap (fun x : Int=>[Value.int .i64 x]))) (Ap0_1 : Option Addr) (cp0_1 : Nat) (hcp0_1 : p0.fHints.length ≤ cp0_1) (fp0_1 : ∀ W,φ W→Cl W Ap0_1 (p0.fHints.flatMap (fun x : ByteArray=>[Value.string x]))) (Ap0_2 : Option Addr) (cp0_2 : Nat) (hcp0_2 : p0.fAnchors.length ≤ cp0_2) (fp0_2 : ∀ W,φ W→Cl W Ap0_2 (p0.fAnchors.flatMap GAnchor.enc)) (Ap0_3 : Option Addr) (cp0_3 : Nat) (hcp0_3 : p0.fFlushes.length ≤ cp0_3) (fp0_3 : ∀ W,φ W→Cl W Ap0_3 (p0.fFlushes.flatMap GFlush.enc)) (r : ByteArray) (hm : m_conf_Snap p0 = some r) :
    Cn Tryz.prog 15 #[.agg #[.slice Ap0_0 p0.fRing.length cp0_0,.slice Ap0_1 p0.fHints.length cp0_1,.slice Ap0_2 p0.fAnchors.length cp0_2,Vi p0.fEpoch,.slice Ap0_3 p0.fFlushes.length cp0_3]] ⟨w0,M,H,R,φ⟩ (fun x : Unit=>Vs r) (fun x=>True) (fun x=>⟨w0,M,H,R,φ⟩):=by
 unfold m_conf_Snap at hm
 refine cn_intro (fn:=Tryz.f15) (N:=107) Tryz.func15 rfl Tryz.ntmps15 rfl<|c_seq<|c_region ?_
 refine g_e rfl (e_box 100010 rfl) (fun g1 _=>?_)
 refine g_v rfl r_assign<|g_nil<|d_then<|c_seq<|c_seq<|c_region<|g_v rfl (r_loadA (tag:=100010) rfl rfl Tryz.isAgg30 Tryz.sizeOf30 rfl rfl) ?_
 replace hm:=bnd hm
 obtain ⟨x2,hx3,hm⟩:=hm
 refine g_cn ⟨w0,M,_,_,φ⟩ (fun _ h=>h) Tryz.call13 rfl rfl (c_conf_Right p0 Ap0_0 cp0_0 hcp0_0 (fun W h=>fp0_0 W h) Ap0_1 cp0_1 hcp0_1 (fun W h=>fp0_1 W h) Ap0_2 cp0_2 hcp0_2 (fun W h=>fp0_2 W h) Ap0_3 cp0_3 hcp0_3 (fun W h=>fp0_3 W h) _ hx3) (fun _ _=>?_)
 refine g_v rfl (r_not rfl)<|g_nil<|d_then<|c_sta ⟨w0,M,(100010,g1,.cells #[.slice Ap0_0 p0.fRing.length cp0_0,.slice Ap0_1 p0.fHints.length cp0_1,.slice Ap0_2 p0.fAnchors.length cp0_2,Vi p0.fEpoch,.slice Ap0_3 p0.fFlushes.length cp0_3] 30 (0,0))::H,R,φ⟩ (fun _ h=>h) ?_
 refine c_cond rfl (fun h4=>?_) (fun h4=>?_)
 ·
  have h4' : x2 = false:=by revert h4; cases x2 <;> simp
  replace hm:=ite_f hm (bool_nt h4')
  refine c_seq<|c_region<|g_v rfl r_assign<|g_nil<|d_then<|c_ret<|d_ret_then ?_
  cases hm
  exact d_retC () Tryz.results15 (res_tmp (res_nil rfl)) trivial (fun W h=>ok_pre (H1:=[_]) (R1:=[]) h (fun W hφ=>hφ)) (.inr rfl)
 have h4' : x2 = true:=by revert h4; cases x2 <;> simp
 replace hm:=ite_t hm h4'
 refine c_skip<|d_then<|c_seq<|c_region ?_
 replace hm:=bnd hm
 obtain ⟨x5,hx6,hm⟩:=hm
 refine g_cn ⟨w0,M,_,_,φ⟩ (fun _ h=>h) Tryz.call59 rfl rfl (c_pack_New  _ hx6) (fun ⟨A7,c8,A10,c11,g13⟩ ⟨hc8,hc11⟩=>?_)
 refine g_sta _ (fun W h=>(ok_frontR (t:=2000) (t':=100150) (ok_frontR (t:=2001) (t':=100151) (ok_front (t:=3000) (t':=100155) h rfl) rfl) rfl))<|g_v rfl r_assign<|g_nil<|d_then<|c_seq<|c_region<|g_v rfl r_move<|g_v rfl (r_field (n:=0) Tryz.underlying30 rfl Tryz.sizeOf25 rfl rfl)<|g_v rfl (r_load (tag:=100010) rfl rfl rfl Tryz.isAgg25)<|g_v rfl (r_lenL Tryz.underlying25 rfl) ?_
 refine g_v rfl (r_conv Tryz.underlying3 Tryz.underlying5 rfl rfl) ?_
 replace hm:=bnd hm
 obtain ⟨x14,hx15,hm⟩:=hm
 refine g_cn ⟨w0,M,(1000,g13,.cells #[.slice A7 x5.fb.length c8,mapV A10] 120 (0,0))::(100010,g1,.cells #[.slice Ap0_0 p0.fRing.length cp0_0,.slice Ap0_1 p0.fHints.length cp0_1,.slice Ap0_2 p0.fAnchors.length cp0_2,Vi p0.fEpoch,.slice Ap0_3 p0.fFlushes.length cp0_3] 30 (0,0))::H,(1000,⟨.slice A7 x5.fb.length c8,5,1,x5.fb.length,x5.fb.flatMap (fun x : Int=>[Value.int .u8 x])⟩)::(1001,⟨mapV A10,118,2,x5.fplaces.length,x5.fplaces.flatMap (mcell (fun x : ByteArray=>Value.string x) (fun x : Int=>Value.int .i64 x))⟩)::R,φ⟩ (fun W h=>(ok_front (t:=100155) (t':=1000) (ok_frontR (t:=100150) (t':=1000) (ok_frontR (t:=100151) (t':=1001) h rfl) rfl) rfl)) Tryz.call60 rfl rfl (c_pack_Packer_Byte (IntKind.u8.wrap (p0.fRing.length : Int)) g13 x5 A7 c8 hc8 A10 c11 trivial _ hx15) (fun ⟨A16,c17⟩ hc17=>?_)
 refine g_sta _ (fun W h=>(ok_frontR (t:=2000) (t':=100150) (ok_frontR (t:=1001) (t':=100151) (ok_front (t:=1000) (t':=100155) h rfl) rfl) rfl))<|g_nil<|d_then ?_
 refine c_flat [(1,Vp g1),(3,Vp g13)] ⟨rfl,rfl,trivial⟩ (fun u=>?_)
 refine c_sta ⟨w0,M,(100155,g13,.cells #[.slice A16 x14.fb.length c17,mapV A10] 120 (0,0))::(100010,g1,.cells #[.slice Ap0_0 p0.fRing.length cp0_0,.slice Ap0_1 p0.fHints.length cp0_1,.slice Ap0_2 p0.fAnchors.length cp0_2,Vi p0.fEpoch,.slice Ap0_3 p0.fFlushes.length cp0_3] 30 (0,0))::H,(100150,⟨.slice A16 x14.fb.length c17,5,1,x14.fb.length,x14.fb.flatMap (fun x : Int=>[Value.int .u8 x])⟩)::(100151,⟨mapV A10,118,2,x5.fplaces.length,x5.fplaces.flatMap (mcell (fun x : ByteArray=>Value.string x) (fun x : Int=>Value.int .i64 x))⟩)::R,φ⟩ (fun _ h=>h)<|c_seq<|c_seq<|c_region<|g_v rfl (r_field (n:=0) Tryz.underlying30 rfl Tryz.sizeOf25 rfl rfl)<|g_v rfl (r_load (tag:=100010) rfl rfl rfl Tryz.isAgg25)<|g_v rfl (r_lenL Tryz.underlying25 rfl)<|g_v rfl r_move<|g_nil<|d_then ?_
 refine c_cut (ι:=(List Int)×Option Addr×Nat) [1,3] (fun ⟨l52,A53,c54⟩=>[]) (fun ⟨l52,A53,c54⟩=>⟨w0,M,(100155,g13,.cells #[.slice A53 l52.length c54,mapV A10] 120 (0,0))::(100010,g1,.cells #[.slice Ap0_0 p0.fRing.length cp0_0,.slice Ap0_1 p0.fHints.length cp0_1,.slice Ap0_2 p0.fAnchors.length cp0_2,Vi p0.fEpoch,.slice Ap0_3 p0.fFlushes.length cp0_3] 30 (0,0))::H,(100150,⟨.slice A53 l52.length c54,5,1,l52.length,l52.flatMap (fun x : Int=>[Value.int .u8 x])⟩)::(100151,⟨mapV A10,118,2,x5.fplaces.length,x5.fplaces.flatMap (mcell (fun x : ByteArray=>Value.string x) (fun x : Int=>Value.int .i64 x))⟩)::R,φ⟩) (fun ⟨l52,A53,c54⟩=>m_conf_Snap_j1 p0 x5 l52 = some r∧l52.length ≤ c54) ?_ (fun ⟨l52,A53,c54⟩ u ⟨hm,hc54⟩=>?_)
 ·
  refine c_block ?_
  replace hm:=bnd hm
  obtain ⟨out8,hl8,hr8⟩:=hm
  obtain ⟨n434',hl8⟩:=loop_lp hl8
  refine c_loopU (ι:=Nat×(List Int)×Int×Option Addr×Nat) [1,3,23,24,25] (fun ⟨n434,l416,i419,A417,c418⟩=>[(25,Vi i419)]) (fun ⟨n434,l416,i419,A417,c418⟩=>⟨w0,M,(100155,g13,.cells #[.slice A417 l416.length c418,mapV A10] 120 (0,0))::(100010,g1,.cells #[.slice Ap0_0 p0.fRing.length cp0_0,.slice Ap0_1 p0.fHints.length cp0_1,.slice Ap0_2 p0.fAnchors.length cp0_2,Vi p0.fEpoch,.slice Ap0_3 p0.fFlushes.length cp0_3] 30 (0,0))::H,(100150,⟨.slice A417 l416.length c418,5,1,l416.length,l416.flatMap (fun x : Int=>[Value.int .u8 x])⟩)::(100151,⟨mapV A10,118,2,x5.fplaces.length,x5.fplaces.flatMap (mcell (fun x : ByteArray=>Value.string x) (fun x : Int=>Value.int .i64 x))⟩)::R,φ⟩) (fun ⟨n434,l416,i419,A417,c418⟩=>Lp (fun s=>m_conf_Snap_s8 p0 x5 s.1 s.2) n434 (l416,i419) out8∧l416.length ≤ c418) (fun ⟨n434,l416,i419,A417,c418⟩=>n434) (n434',x14.fb,0,A16,c17) ⟨hl8,hc17⟩ ⟨rfl,rfl,rfl,rfl,rfl,trivial⟩ (fun W h=>h.phi (fun W hφ=>hφ)) (fun ⟨n434,l416,i419,A417,c418⟩ u ⟨hlp,hc418⟩=>?_)
  obtain ⟨o8,hm,hnx8⟩:=lp_step hlp
  clear hlp
  replace hm : m_conf_Snap_s8 p0 x5 l416 i419 = some o8:=hm
  unfold m_conf_Snap_s8 at hm
  refine c_flat [(1,Vp g1),(3,Vp g13),(23,.slice Ap0_0 p0.fRing.length cp0_0),(24,Vi (p0.fRing.length : Int)),(25,Vi i419)] ⟨rfl,rfl,rfl,rfl,rfl,trivial⟩ (fun u=>?_)
  refine c_sta ⟨w0,M,(100155,g13,.cells #[.slice A417 l416.length c418,mapV A10] 120 (0,0))::(100010,g1,.cells #[.slice Ap0_0 p0.fRing.length cp0_0,.slice Ap0_1 p0.fHints.length cp0_1,.slice Ap0_2 p0.fAnchors.length cp0_2,Vi p0.fEpoch,.slice Ap0_3 p0.fFlushes.length cp0_3] 30 (0,0))::H,(100150,⟨.slice A417 l416.length c418,5,1,l416.length,l416.flatMap (fun x : Int=>[Value.int .u8 x])⟩)::(100151,⟨mapV A10,118,2,x5.fplaces.length,x5.fplaces.flatMap (mcell (fun x : ByteArray=>Value.string x) (fun x : Int=>Value.int .i64 x))⟩)::R,φ⟩ (fun _ h=>h)<|c_seq<|c_region<|g_v rfl (r_lss rfl rfl)<|g_nil<|d_then<|c_seq ?_
  refine c_cond rfl (fun h435=>?_) (fun h435=>?_)
  ·
   replace hm:=ite_t hm (of_decide_eq_true h435)
   refine c_skip<|d_then<|c_seq<|c_block<|c_seq<|c_region ?_
   replace hm:=bnd hm
   obtain ⟨x436,hx436,hm⟩:=hm
   refine g_know _ (fun W hS=>cl_at (p:=φ) (sz:=1) (fun _=>rfl) (by decide) hS.now fp0_0 hx436) ?_
   rintro ⟨ad437,hA439,f438⟩
   refine g_v rfl (r_ix Tryz.underlying25 Tryz.sizeOf3 rfl hA439 rfl hx436)<|g_v rfl (r_ld rfl Tryz.isAgg3 (fun W hS=>Cl.head (f438 W hS.now)))<|g_v rfl r_assign<|g_nil<|d_then<|c_region<|g_v rfl r_move<|g_v rfl r_move<|g_v rfl (r_conv Tryz.underlying3 Tryz.underlying5 rfl rfl) ?_
   replace hm:=bnd hm
   obtain ⟨x440,hx441,hm⟩:=hm
   refine g_cn ⟨w0,M,(1000,g13,.cells #[.slice A417 l416.length c418,mapV A10] 120 (0,0))::(100010,g1,.cells #[.slice Ap0_0 p0.fRing.length cp0_0,.slice Ap0_1 p0.fHints.length cp0_1,.slice Ap0_2 p0.fAnchors.length cp0_2,Vi p0.fEpoch,.slice Ap0_3 p0.fFlushes.length cp0_3] 30 (0,0))::H,(1000,⟨.slice A417 l416.length c418,5,1,l416.length,l416.flatMap (fun x : Int=>[Value.int .u8 x])⟩)::(1001,⟨mapV A10,118,2,x5.fplaces.length,x5.fplaces.flatMap (mcell (fun x : ByteArray=>Value.string x) (fun x : Int=>Value.int .i64 x))⟩)::R,φ⟩ (fun W h=>(ok_front (t:=100155) (t':=1000) (ok_frontR (t:=100150) (t':=1000) (ok_frontR (t:=100151) (t':=1001) h rfl) rfl) rfl)) Tryz.call60 rfl rfl (c_pack_Packer_Byte (IntKind.u8.wrap x436) g13 (⟨l416,x5.fplaces⟩ : Gpack_Packer) A417 c418 hc418 A10 c11 trivial _ hx441) (fun ⟨A442,c443⟩ hc443=>?_)
   refine g_sta _ (fun W h=>(ok_frontR (t:=2000) (t':=100150) (ok_frontR (t:=1001) (t':=100151) (ok_front (t:=1000) (t':=100155) h rfl) rfl) rfl))<|g_nil<|d_normal_block<|d_then<|c_region<|g_v rfl (r_add rfl rfl rfl)<|g_v rfl r_move<|g_nil ?_
   obtain ⟨n445,hn445,hlp⟩:=nx_inl hm hnx8
   exact d_round (n445,x440.fb,w64 (i419 + 1),A442,c443) ⟨hlp,hc443⟩ hn445 ⟨rfl,rfl,rfl,rfl,rfl,trivial⟩ (fun W h=>h.phi (fun W hφ=>hφ))
  replace hm:=ite_f hm (of_decide_eq_false h435)
  refine c_exit<|d_exit_then<|d_exit_then<|d_exit_block ?_
  replace hm:=nx_out (C:=(fun e : (List Int)=>m_conf_Snap_j1 p0 x5 e = some r)) hm hnx8 hr8
  exact d_round (l416,A417,c418) ⟨hm,hc418⟩ Nat.zero_lt_one ⟨rfl,rfl,trivial⟩ (fun W h=>h.phi (fun W hφ=>hφ))
 unfold m_conf_Snap_j1 at hm
 refine d_flat [(1,Vp g1),(3,Vp g13)] ⟨rfl,rfl,trivial⟩ (fun u=>?_)
 refine d_sta ⟨w0,M,(100155,g13,.cells #[.slice A53 l52.length c54,mapV A10] 120 (0,0))::(100010,g1,.cells #[.slice Ap0_0 p0.fRing.length cp0_0,.slice Ap0_1 p0.fHints.length cp0_1,.slice Ap0_2 p0.fAnchors.length cp0_2,Vi p0.fEpoch,.slice Ap0_3 p0.fFlushes.length cp0_3] 30 (0,0))::H,(100150,⟨.slice A53 l52.length c54,5,1,l52.length,l52.flatMap (fun x : Int=>[Value.int .u8 x])⟩)::(100151,⟨mapV A10,118,2,x5.fplaces.length,x5.fplaces.flatMap (mcell (fun x : ByteArray=>Value.string x) (fun x : Int=>Value.int .i64 x))⟩)::R,φ⟩ (fun _ h=>h)<|d_then<|c_seq<|c_region<|g_v rfl r_move<|g_v rfl (r_field (n:=1) Tryz.underlying30 rfl Tryz.sizeOf26 rfl rfl)<|g_v rfl (r_load (tag:=100010) rfl rfl rfl Tryz.isAgg26)<|g_v rfl (r_lenL Tryz.underlying26 rfl)<|g_v rfl (r_conv Tryz.underlying3 Tryz.underlying5 rfl rfl) ?_
 replace hm:=bnd hm
 obtain ⟨x55,hx56,hm⟩:=hm
 refine g_cn ⟨w0,M,(1000,g13,.cells #[.slice A53 l52.length c54,mapV A10] 120 (0,0))::(100010,g1,.cells #[.slice Ap0_0 p0.fRing.length cp0_0,.slice Ap0_1 p0.fHints.length cp0_1,.slice Ap0_2 p0.fAnchors.length cp0_2,Vi p0.fEpoch,.slice Ap0_3 p0.fFlushes.length cp0_3] 30 (0,0))::H,(1000,⟨.slice A53 l52.length c54,5,1,l52.length,l52.flatMap (fun x : Int=>[Value.int .u8 x])⟩)::(1001,⟨mapV A10,118,2,x5.fplaces.length,x5.fplaces.flatMap (mcell (fun x : ByteArray=>Value.string x) (fun x : Int=>Value.int .i64 x))⟩)::R,φ⟩ (fun W h=>(ok_front (t:=100155) (t':=1000) (ok_frontR (t:=100150) (t':=1000) (ok_frontR (t:=100151) (t':=1001) h rfl) rfl) rfl)) Tryz.call60 rfl rfl (c_pack_Packer_Byte (IntKind.u8.wrap (p0.fHints.length : Int)) g13 (⟨l52,x5.fplaces⟩ : Gpack_Packer) A53 c54 hc54 A10 c11 trivial _ hx56) (fun ⟨A57,c58⟩ hc58=>?_)
 refine g_sta _ (fun W h=>(ok_frontR (t:=2000) (t':=100150) (ok_frontR (t:=1001) (t':=100151) (ok_front (t:=1000) (t':=100155) h rfl) rfl) rfl))<|g_nil<|d_then<|c_seq<|c_seq<|c_region<|g_v rfl (r_field (n:=1) Tryz.underlying30 rfl Tryz.sizeOf26 rfl rfl)<|g_v rfl (r_load (tag:=100010) rfl rfl rfl Tryz.isAgg26)<|g_v rfl (r_lenL Tryz.underlying26 rfl)<|g_v rfl r_move ?_
 refine g_nil<|d_then ?_
 refine c_flat [(1,Vp g1),(3,Vp g13),(41,.slice Ap0_1 p0.fHints.length cp0_1),(42,Vi (p0.fHints.length : Int)),(43,Vi 0)] ⟨rfl,rfl,rfl,rfl,rfl,trivial⟩ (fun u=>?_)
 refine c_sta ⟨w0,M,(100155,g13,.cells #[.slice A57 x55.fb.length c58,mapV A10] 120 (0,0))::(100010,g1,.cells #[.slice Ap0_0 p0.fRing.length cp0_0,.slice Ap0_1 p0.fHints.length cp0_1,.slice Ap0_2 p0.fAnchors.length cp0_2,Vi p0.fEpoch,.slice Ap0_3 p0.fFlushes.length cp0_3] 30 (0,0))::H,(100150,⟨.slice A57 x55.fb.length c58,5,1,x55.fb.length,x55.fb.flatMap (fun x : Int=>[Value.int .u8 x])⟩)::(100151,⟨mapV A10,118,2,x5.fplaces.length,x5.fplaces.flatMap (mcell (fun x : ByteArray=>Value.string x) (fun x : Int=>Value.int .i64 x))⟩)::R,φ⟩ (fun _ h=>h) ?_
 refine c_cut (ι:=(List Int)×Option Addr×Nat) [1,3] (fun ⟨l93,A94,c95⟩=>[]) (fun ⟨l93,A94,c95⟩=>⟨w0,M,(100155,g13,.cells #[.slice A94 l93.length c95,mapV A10] 120 (0,0))::(100010,g1,.cells #[.slice Ap0_0 p0.fRing.length cp0_0,.slice Ap0_1 p0.fHints.length cp0_1,.slice Ap0_2 p0.fAnchors.length cp0_2,Vi p0.fEpoch,.slice Ap0_3 p0.fFlushes.length cp0_3] 30 (0,0))::H,(100150,⟨.slice A94 l93.length c95,5,1,l93.length,l93.flatMap (fun x : Int=>[Value.int .u8 x])⟩)::(100151,⟨mapV A10,118,2,x5.fplaces.length,x5.fplaces.flatMap (mcell (fun x : ByteArray=>Value.string x) (fun x : Int=>Value.int .i64 x))⟩)::R,φ⟩) (fun ⟨l93,A94,c95⟩=>m_conf_Snap_j2 p0 x5 l93 = some r∧l93.length ≤ c95) ?_ (fun ⟨l93,A94,c95⟩ u ⟨hm,hc95⟩=>?_)
 ·
  refine c_block ?_
  replace hm:=bnd hm
  obtain ⟨out7,hl7,hr7⟩:=hm
  obtain ⟨n390',hl7⟩:=loop_lp hl7
  refine c_loopU (ι:=Nat×(List Int)×Int×Option Addr×Nat) [1,3,41,42,43] (fun ⟨n390,l372,i375,A373,c374⟩=>[(43,Vi i375)]) (fun ⟨n390,l372,i375,A373,c374⟩=>⟨w0,M,(100155,g13,.cells #[.slice A373 l372.length c374,mapV A10] 120 (0,0))::(100010,g1,.cells #[.slice Ap0_0 p0.fRing.length cp0_0,.slice Ap0_1 p0.fHints.length cp0_1,.slice Ap0_2 p0.fAnchors.length cp0_2,Vi p0.fEpoch,.slice Ap0_3 p0.fFlushes.length cp0_3] 30 (0,0))::H,(100150,⟨.slice A373 l372.length c374,5,1,l372.length,l372.flatMap (fun x : Int=>[Value.int .u8 x])⟩)::(100151,⟨mapV A10,118,2,x5.fplaces.length,x5.fplaces.flatMap (mcell (fun x : ByteArray=>Value.string x) (fun x : Int=>Value.int .i64 x))⟩)::R,φ⟩) (fun ⟨n390,l372,i375,A373,c374⟩=>Lp (fun s=>m_conf_Snap_s7 p0 x5 s.1 s.2) n390 (l372,i375) out7∧l372.length ≤ c374) (fun ⟨n390,l372,i375,A373,c374⟩=>n390) (n390',x55.fb,0,A57,c58) ⟨hl7,hc58⟩ ⟨rfl,rfl,rfl,rfl,rfl,trivial⟩ (fun W h=>h.phi (fun W hφ=>hφ)) (fun ⟨n390,l372,i375,A373,c374⟩ u ⟨hlp,hc374⟩=>?_)
  obtain ⟨o7,hm,hnx7⟩:=lp_step hlp
  clear hlp
  replace hm : m_conf_Snap_s7 p0 x5 l372 i375 = some o7:=hm
  unfold m_conf_Snap_s7 at hm
  refine c_flat [(1,Vp g1),(3,Vp g13),(41,.slice Ap0_1 p0.fHints.length cp0_1),(42,Vi (p0.fHints.length : Int)),(43,Vi i375)] ⟨rfl,rfl,rfl,rfl,rfl,trivial⟩ (fun u=>?_)
  refine c_sta ⟨w0,M,(100155,g13,.cells #[.slice A373 l372.length c374,mapV A10] 120 (0,0))::(100010,g1,.cells #[.slice Ap0_0 p0.fRing.length cp0_0,.slice Ap0_1 p0.fHints.length cp0_1,.slice Ap0_2 p0.fAnchors.length cp0_2,Vi p0.fEpoch,.slice Ap0_3 p0.fFlushes.length cp0_3] 30 (0,0))::H,(100150,⟨.slice A373 l372.length c374,5,1,l372.length,l372.flatMap (fun x : Int=>[Value.int .u8 x])⟩)::(100151,⟨mapV A10,118,2,x5.fplaces.length,x5.fplaces.flatMap (mcell (fun x : ByteArray=>Value.string x) (fun x : Int=>Value.int .i64 x))⟩)::R,φ⟩ (fun _ h=>h)<|c_seq<|c_region<|g_v rfl (r_lss rfl rfl)<|g_nil<|d_then<|c_seq ?_
  refine c_cond rfl (fun h391=>?_) (fun h391=>?_)
  ·
   replace hm:=ite_t hm (of_decide_eq_true h391)
   refine c_skip<|d_then<|c_seq<|c_block<|c_seq<|c_region ?_
   replace hm:=bnd hm
   obtain ⟨x392,hx392,hm⟩:=hm
   refine g_know _ (fun W hS=>cl_at (p:=φ) (sz:=1) (fun _=>rfl) (by decide) hS.now fp0_1 hx392) ?_
   rintro ⟨ad393,hA395,f394⟩
   refine g_v rfl (r_ix Tryz.underlying26 Tryz.sizeOf9 rfl hA395 rfl hx392)<|g_v rfl (r_ld rfl Tryz.isAgg9 (fun W hS=>Cl.head (f394 W hS.now)))<|g_v rfl r_assign<|g_nil<|d_then<|c_region<|g_v rfl r_move<|g_v rfl r_move ?_
   replace hm:=bnd hm
   obtain ⟨x396,hx397,hm⟩:=hm
   refine g_cn ⟨w0,M,(1000,g13,.cells #[.slice A373 l372.length c374,mapV A10] 120 (0,0))::(100010,g1,.cells #[.slice Ap0_0 p0.fRing.length cp0_0,.slice Ap0_1 p0.fHints.length cp0_1,.slice Ap0_2 p0.fAnchors.length cp0_2,Vi p0.fEpoch,.slice Ap0_3 p0.fFlushes.length cp0_3] 30 (0,0))::H,(1000,⟨.slice A373 l372.length c374,5,1,l372.length,l372.flatMap (fun x : Int=>[Value.int .u8 x])⟩)::(1001,⟨mapV A10,118,2,x5.fplaces.length,x5.fplaces.flatMap (mcell (fun x : ByteArray=>Value.string x) (fun x : Int=>Value.int .i64 x))⟩)::R,φ⟩ (fun W h=>(ok_front (t:=100155) (t':=1000) (ok_frontR (t:=100150) (t':=1000) (ok_frontR (t:=100151) (t':=1001) h rfl) rfl) rfl)) Tryz.call61 rfl rfl (c_pack_Packer_Raw x392 g13 (⟨l372,x5.fplaces⟩ : Gpack_Packer) A373 c374 hc374 A10 c11 trivial _ hx397) (fun ⟨A398,c399⟩ hc399=>?_)
   refine g_sta _ (fun W h=>(ok_frontR (t:=2000) (t':=100150) (ok_frontR (t:=1001) (t':=100151) (ok_front (t:=1000) (t':=100155) h rfl) rfl) rfl))<|g_nil<|d_normal_block<|d_then<|c_region<|g_v rfl (r_add rfl rfl rfl)<|g_v rfl r_move<|g_nil ?_
   obtain ⟨n401,hn401,hlp⟩:=nx_inl hm hnx7
   exact d_round (n401,x396.fb,w64 (i375 + 1),A398,c399) ⟨hlp,hc399⟩ hn401 ⟨rfl,rfl,rfl,rfl,rfl,trivial⟩ (fun W h=>h.phi (fun W hφ=>hφ))
  replace hm:=ite_f hm (of_decide_eq_false h391)
  refine c_exit<|d_exit_then<|d_exit_then<|d_exit_block ?_
  replace hm:=nx_out (C:=(fun e : (List Int)=>m_conf_Snap_j2 p0 x5 e = some r)) hm hnx7 hr7
  exact d_round (l372,A373,c374) ⟨hm,hc374⟩ Nat.zero_lt_one ⟨rfl,rfl,trivial⟩ (fun W h=>h.phi (fun W hφ=>hφ))
 unfold m_conf_Snap_j2 at hm
 refine d_flat [(1,Vp g1),(3,Vp g13)] ⟨rfl,rfl,trivial⟩ (fun u=>?_)
 refine d_sta ⟨w0,M,(100155,g13,.cells #[.slice A94 l93.length c95,mapV A10] 120 (0,0))::(100010,g1,.cells #[.slice Ap0_0 p0.fRing.length cp0_0,.slice Ap0_1 p0.fHints.length cp0_1,.slice Ap0_2 p0.fAnchors.length cp0_2,Vi p0.fEpoch,.slice Ap0_3 p0.fFlushes.length cp0_3] 30 (0,0))::H,(100150,⟨.slice A94 l93.length c95,5,1,l93.length,l93.flatMap (fun x : Int=>[Value.int .u8 x])⟩)::(100151,⟨mapV A10,118,2,x5.fplaces.length,x5.fplaces.flatMap (mcell (fun x : ByteArray=>Value.string x) (fun x : Int=>Value.int .i64 x))⟩)::R,φ⟩ (fun _ h=>h)<|d_then<|c_seq<|c_region<|g_v rfl r_move<|g_v rfl (r_field (n:=2) Tryz.underlying30 rfl Tryz.sizeOf27 rfl rfl)<|g_v rfl (r_load (tag:=100010) rfl rfl rfl Tryz.isAgg27)<|g_v rfl (r_lenL Tryz.underlying27 rfl)<|g_v rfl (r_conv Tryz.underlying3 Tryz.underlying5 rfl rfl) ?_
 replace hm:=bnd hm
 obtain ⟨x96,hx97,hm⟩:=hm
 refine g_cn ⟨w0,M,(1000,g13,.cells #[.slice A94 l93.length c95,mapV A10] 120 (0,0))::(100010,g1,.cells #[.slice Ap0_0 p0.fRing.length cp0_0,.slice Ap0_1 p0.fHints.length cp0_1,.slice Ap0_2 p0.fAnchors.length cp0_2,Vi p0.fEpoch,.slice Ap0_3 p0.fFlushes.length cp0_3] 30 (0,0))::H,(1000,⟨.slice A94 l93.length c95,5,1,l93.length,l93.flatMap (fun x : Int=>[Value.int .u8 x])⟩)::(1001,⟨mapV A10,118,2,x5.fplaces.length,x5.fplaces.flatMap (mcell (fun x : ByteArray=>Value.string x) (fun x : Int=>Value.int .i64 x))⟩)::R,φ⟩ (fun W h=>(ok_front (t:=100155) (t':=1000) (ok_frontR (t:=100150) (t':=1000) (ok_frontR (t:=100151) (t':=1001) h rfl) rfl) rfl)) Tryz.call60 rfl rfl (c_pack_Packer_Byte (IntKind.u8.wrap (p0.fAnchors.length : Int)) g13 (⟨l93,x5.fplaces⟩ : Gpack_Packer) A94 c95 hc95 A10 c11 trivial _ hx97) (fun ⟨A98,c99⟩ hc99=>?_)
 refine g_sta _ (fun W h=>(ok_frontR (t:=2000) (t':=100150) (ok_frontR (t:=1001) (t':=100151) (ok_front (t:=1000) (t':=100155) h rfl) rfl) rfl))<|g_nil<|d_then<|c_seq<|c_seq<|c_region<|g_v rfl (r_field (n:=2) Tryz.underlying30 rfl Tryz.sizeOf27 rfl rfl)<|g_v rfl (r_load (tag:=100010) rfl rfl rfl Tryz.isAgg27)<|g_v rfl (r_lenL Tryz.underlying27 rfl)<|g_v rfl r_move ?_
 refine g_nil<|d_then ?_
 refine c_flat [(1,Vp g1),(3,Vp g13),(58,.slice Ap0_2 p0.fAnchors.length cp0_2),(59,Vi (p0.fAnchors.length : Int)),(60,Vi 0)] ⟨rfl,rfl,rfl,rfl,rfl,trivial⟩ (fun u=>?_)
 refine c_sta ⟨w0,M,(100155,g13,.cells #[.slice A98 x96.fb.length c99,mapV A10] 120 (0,0))::(100010,g1,.cells #[.slice Ap0_0 p0.fRing.length cp0_0,.slice Ap0_1 p0.fHints.length cp0_1,.slice Ap0_2 p0.fAnchors.length cp0_2,Vi p0.fEpoch,.slice Ap0_3 p0.fFlushes.length cp0_3] 30 (0,0))::H,(100150,⟨.slice A98 x96.fb.length c99,5,1,x96.fb.length,x96.fb.flatMap (fun x : Int=>[Value.int .u8 x])⟩)::(100151,⟨mapV A10,118,2,x5.fplaces.length,x5.fplaces.flatMap (mcell (fun x : ByteArray=>Value.string x) (fun x : Int=>Value.int .i64 x))⟩)::R,φ⟩ (fun _ h=>h) ?_
 refine c_cut (ι:=(List Int)×Option Addr×Nat) [1,3] (fun ⟨l156,A157,c158⟩=>[]) (fun ⟨l156,A157,c158⟩=>⟨w0,M,(100155,g13,.cells #[.slice A157 l156.length c158,mapV A10] 120 (0,0))::(100010,g1,.cells #[.slice Ap0_0 p0.fRing.length cp0_0,.slice Ap0_1 p0.fHints.length cp0_1,.slice Ap0_2 p0.fAnchors.length cp0_2,Vi p0.fEpoch,.slice Ap0_3 p0.fFlushes.length cp0_3] 30 (0,0))::H,(100150,⟨.slice A157 l156.length c158,5,1,l156.length,l156.flatMap (fun x : Int=>[Value.int .u8 x])⟩)::(100151,⟨mapV A10,118,2,x5.fplaces.length,x5.fplaces.flatMap (mcell (fun x : ByteArray=>Value.string x) (fun x : Int=>Value.int .i64 x))⟩)::R,φ⟩) (fun ⟨l156,A157,c158⟩=>m_conf_Snap_j3 p0 x5 l156 = some r∧l156.length ≤ c158) ?_ (fun ⟨l156,A157,c158⟩ u ⟨hm,hc158⟩=>?_)
 ·
  refine c_block ?_
  replace hm:=bnd hm
  obtain ⟨out6,hl6,hr6⟩:=hm
  obtain ⟨n335',hl6⟩:=loop_lp hl6
  refine c_loopU (ι:=Nat×(List Int)×Int×Option Addr×Nat) [1,3,58,59,60] (fun ⟨n335,l306,i309,A307,c308⟩=>[(60,Vi i309)]) (fun ⟨n335,l306,i309,A307,c308⟩=>⟨w0,M,(100155,g13,.cells #[.slice A307 l306.length c308,mapV A10] 120 (0,0))::(100010,g1,.cells #[.slice Ap0_0 p0.fRing.length cp0_0,.slice Ap0_1 p0.fHints.length cp0_1,.slice Ap0_2 p0.fAnchors.length cp0_2,Vi p0.fEpoch,.slice Ap0_3 p0.fFlushes.length cp0_3] 30 (0,0))::H,(100150,⟨.slice A307 l306.length c308,5,1,l306.length,l306.flatMap (fun x : Int=>[Value.int .u8 x])⟩)::(100151,⟨mapV A10,118,2,x5.fplaces.length,x5.fplaces.flatMap (mcell (fun x : ByteArray=>Value.string x) (fun x : Int=>Value.int .i64 x))⟩)::R,φ⟩) (fun ⟨n335,l306,i309,A307,c308⟩=>Lp (fun s=>m_conf_Snap_s6 p0 x5 s.1 s.2) n335 (l306,i309) out6∧l306.length ≤ c308) (fun ⟨n335,l306,i309,A307,c308⟩=>n335) (n335',x96.fb,0,A98,c99) ⟨hl6,hc99⟩ ⟨rfl,rfl,rfl,rfl,rfl,trivial⟩ (fun W h=>h.phi (fun W hφ=>hφ)) (fun ⟨n335,l306,i309,A307,c308⟩ u ⟨hlp,hc308⟩=>?_)
  obtain ⟨o6,hm,hnx6⟩:=lp_step hlp
  clear hlp
  replace hm : m_conf_Snap_s6 p0 x5 l306 i309 = some o6:=hm
  unfold m_conf_Snap_s6 at hm
  refine c_flat [(1,Vp g1),(3,Vp g13),(58,.slice Ap0_2 p0.fAnchors.length cp0_2),(59,Vi (p0.fAnchors.length : Int)),(60,Vi i309)] ⟨rfl,rfl,rfl,rfl,rfl,trivial⟩ (fun u=>?_)
  refine c_sta ⟨w0,M,(100155,g13,.cells #[.slice A307 l306.length c308,mapV A10] 120 (0,0))::(100010,g1,.cells #[.slice Ap0_0 p0.fRing.length cp0_0,.slice Ap0_1 p0.fHints.length cp0_1,.slice Ap0_2 p0.fAnchors.length cp0_2,Vi p0.fEpoch,.slice Ap0_3 p0.fFlushes.length cp0_3] 30 (0,0))::H,(100150,⟨.slice A307 l306.length c308,5,1,l306.length,l306.flatMap (fun x : Int=>[Value.int .u8 x])⟩)::(100151,⟨mapV A10,118,2,x5.fplaces.length,x5.fplaces.flatMap (mcell (fun x : ByteArray=>Value.string x) (fun x : Int=>Value.int .i64 x))⟩)::R,φ⟩ (fun _ h=>h)<|c_seq<|c_region<|g_v rfl (r_lss rfl rfl)<|g_nil<|d_then<|c_seq ?_
  refine c_cond rfl (fun h336=>?_) (fun h336=>?_)
  ·
   replace hm:=ite_t hm (of_decide_eq_true h336)
   refine c_skip<|d_then<|c_seq<|c_block<|c_seq<|c_region ?_
   replace hm:=bnd hm
   obtain ⟨x337,hx337,hm⟩:=hm
   refine g_know _ (fun W hS=>cl_at (p:=φ) (sz:=2) (fun _=>rfl) (by decide) hS.now fp0_2 hx337) ?_
   rintro ⟨ad338,hA340,f339⟩
   refine g_v rfl (r_ix Tryz.underlying27 Tryz.sizeOf55 rfl hA340 rfl hx337)<|g_v rfl (r_ldA rfl Tryz.isAgg55 Tryz.sizeOf55 (fun W hS=>(f339 W hS.now).take 2) rfl) ?_
   refine g_e rfl (e_alloc 100090 Tryz.zeroValue55) (fun g341 _=>?_)
   refine g_storeL (tag:=100090) rfl rfl rfl rfl Tryz.sizeOf55 rfl rfl<|g_nil<|d_then<|c_seq<|c_region<|g_v rfl r_move<|g_v rfl (r_field (n:=0) Tryz.underlying55 rfl Tryz.sizeOf9 rfl rfl)<|g_v rfl (r_load (tag:=100090) rfl rfl rfl Tryz.isAgg9) ?_
   replace hm:=bnd hm
   obtain ⟨x342,hx343,hm⟩:=hm
   refine g_cn ⟨w0,M,(1000,g13,.cells #[.slice A307 l306.length c308,mapV A10] 120 (0,0))::(100090,g341,.cells #[Vs x337.fName,Vs x337.fText] 55 (0,0))::(100010,g1,.cells #[.slice Ap0_0 p0.fRing.length cp0_0,.slice Ap0_1 p0.fHints.length cp0_1,.slice Ap0_2 p0.fAnchors.length cp0_2,Vi p0.fEpoch,.slice Ap0_3 p0.fFlushes.length cp0_3] 30 (0,0))::H,(1000,⟨.slice A307 l306.length c308,5,1,l306.length,l306.flatMap (fun x : Int=>[Value.int .u8 x])⟩)::(1001,⟨mapV A10,118,2,x5.fplaces.length,x5.fplaces.flatMap (mcell (fun x : ByteArray=>Value.string x) (fun x : Int=>Value.int .i64 x))⟩)::R,φ⟩ (fun W h=>(ok_front (t:=100155) (t':=1000) (ok_frontR (t:=100150) (t':=1000) (ok_frontR (t:=100151) (t':=1001) h rfl) rfl) rfl)) Tryz.call61 rfl rfl (c_pack_Packer_Raw x337.fName g13 (⟨l306,x5.fplaces⟩ : Gpack_Packer) A307 c308 hc308 A10 c11 trivial _ hx343) (fun ⟨A344,c345⟩ hc345=>?_)
   refine g_sta _ (fun W h=>(ok_frontR (t:=2000) (t':=100150) (ok_frontR (t:=1001) (t':=100151) (ok_front (t:=1000) (t':=100155) h rfl) rfl) rfl))<|g_nil<|d_then ?_
   refine c_flat [(1,Vp g1),(3,Vp g13),(9,Vp g341),(58,.slice Ap0_2 p0.fAnchors.length cp0_2),(59,Vi (p0.fAnchors.length : Int)),(60,Vi i309)] ⟨rfl,rfl,rfl,rfl,rfl,rfl,trivial⟩ (fun u=>?_)
   refine c_sta ⟨w0,M,(100155,g13,.cells #[.slice A344 x342.fb.length c345,mapV A10] 120 (0,0))::(100090,g341,.cells #[Vs x337.fName,Vs x337.fText] 55 (0,0))::(100010,g1,.cells #[.slice Ap0_0 p0.fRing.length cp0_0,.slice Ap0_1 p0.fHints.length cp0_1,.slice Ap0_2 p0.fAnchors.length cp0_2,Vi p0.fEpoch,.slice Ap0_3 p0.fFlushes.length cp0_3] 30 (0,0))::H,(100150,⟨.slice A344 x342.fb.length c345,5,1,x342.fb.length,x342.fb.flatMap (fun x : Int=>[Value.int .u8 x])⟩)::(100151,⟨mapV A10,118,2,x5.fplaces.length,x5.fplaces.flatMap (mcell (fun x : ByteArray=>Value.string x) (fun x : Int=>Value.int .i64 x))⟩)::R,φ⟩ (fun _ h=>h)<|c_seq<|c_region<|g_v rfl r_move<|g_v rfl (r_field (n:=1) Tryz.underlying55 rfl Tryz.sizeOf9 rfl rfl)<|g_v rfl (r_load (tag:=100090) rfl rfl rfl Tryz.isAgg9)<|g_v rfl (r_len Tryz.underlying9 rfl)<|g_v rfl (r_conv Tryz.underlying3 Tryz.underlying5 rfl rfl) ?_
   replace hm:=bnd hm
   obtain ⟨x347,hx348,hm⟩:=hm
   refine g_cn ⟨w0,M,(1000,g13,.cells #[.slice A344 x342.fb.length c345,mapV A10] 120 (0,0))::(100090,g341,.cells #[Vs x337.fName,Vs x337.fText] 55 (0,0))::(100010,g1,.cells #[.slice Ap0_0 p0.fRing.length cp0_0,.slice Ap0_1 p0.fHints.length cp0_1,.slice Ap0_2 p0.fAnchors.length cp0_2,Vi p0.fEpoch,.slice Ap0_3 p0.fFlushes.length cp0_3] 30 (0,0))::H,(1000,⟨.slice A344 x342.fb.length c345,5,1,x342.fb.length,x342.fb.flatMap (fun x : Int=>[Value.int .u8 x])⟩)::(1001,⟨mapV A10,118,2,x5.fplaces.length,x5.fplaces.flatMap (mcell (fun x : ByteArray=>Value.string x) (fun x : Int=>Value.int .i64 x))⟩)::R,φ⟩ (fun W h=>(ok_front (t:=100155) (t':=1000) (ok_frontR (t:=100150) (t':=1000) (ok_frontR (t:=100151) (t':=1001) h rfl) rfl) rfl)) Tryz.call60 rfl rfl (c_pack_Packer_Byte (IntKind.u8.wrap (x337.fText.size : Int)) g13 (⟨x342.fb,x5.fplaces⟩ : Gpack_Packer) A344 c345 hc345 A10 c11 trivial _ hx348) (fun ⟨A349,c350⟩ hc350=>?_)
   refine g_sta _ (fun W h=>(ok_frontR (t:=2000) (t':=100150) (ok_frontR (t:=1001) (t':=100151) (ok_front (t:=1000) (t':=100155) h rfl) rfl) rfl))<|g_nil<|d_then<|c_region<|g_v rfl r_move<|g_v rfl (r_field (n:=1) Tryz.underlying55 rfl Tryz.sizeOf9 rfl rfl)<|g_v rfl (r_load (tag:=100090) rfl rfl rfl Tryz.isAgg9) ?_
   replace hm:=bnd hm
   obtain ⟨x352,hx353,hm⟩:=hm
   refine g_cn ⟨w0,M,(1000,g13,.cells #[.slice A349 x347.fb.length c350,mapV A10] 120 (0,0))::(100090,g341,.cells #[Vs x337.fName,Vs x337.fText] 55 (0,0))::(100010,g1,.cells #[.slice Ap0_0 p0.fRing.length cp0_0,.slice Ap0_1 p0.fHints.length cp0_1,.slice Ap0_2 p0.fAnchors.length cp0_2,Vi p0.fEpoch,.slice Ap0_3 p0.fFlushes.length cp0_3] 30 (0,0))::H,(1000,⟨.slice A349 x347.fb.length c350,5,1,x347.fb.length,x347.fb.flatMap (fun x : Int=>[Value.int .u8 x])⟩)::(1001,⟨mapV A10,118,2,x5.fplaces.length,x5.fplaces.flatMap (mcell (fun x : ByteArray=>Value.string x) (fun x : Int=>Value.int .i64 x))⟩)::R,φ⟩ (fun W h=>(ok_front (t:=100155) (t':=1000) (ok_frontR (t:=100150) (t':=1000) (ok_frontR (t:=100151) (t':=1001) h rfl) rfl) rfl)) Tryz.call61 rfl rfl (c_pack_Packer_Raw x337.fText g13 (⟨x347.fb,x5.fplaces⟩ : Gpack_Packer) A349 c350 hc350 A10 c11 trivial _ hx353) (fun ⟨A354,c355⟩ hc355=>?_)
   refine g_sta _ (fun W h=>(ok_frontR (t:=2000) (t':=100150) (ok_frontR (t:=1001) (t':=100151) (ok_front (t:=1000) (t':=100155) h rfl) rfl) rfl))<|g_nil<|d_normal_block<|d_then ?_
   refine c_flat [(1,Vp g1),(3,Vp g13),(58,.slice Ap0_2 p0.fAnchors.length cp0_2),(59,Vi (p0.fAnchors.length : Int)),(60,Vi i309)] ⟨rfl,rfl,rfl,rfl,rfl,trivial⟩ (fun u=>?_)
   refine c_sta ⟨w0,M,(100155,g13,.cells #[.slice A354 x352.fb.length c355,mapV A10] 120 (0,0))::(100090,g341,.cells #[Vs x337.fName,Vs x337.fText] 55 (0,0))::(100010,g1,.cells #[.slice Ap0_0 p0.fRing.length cp0_0,.slice Ap0_1 p0.fHints.length cp0_1,.slice Ap0_2 p0.fAnchors.length cp0_2,Vi p0.fEpoch,.slice Ap0_3 p0.fFlushes.length cp0_3] 30 (0,0))::H,(100150,⟨.slice A354 x352.fb.length c355,5,1,x352.fb.length,x352.fb.flatMap (fun x : Int=>[Value.int .u8 x])⟩)::(100151,⟨mapV A10,118,2,x5.fplaces.length,x5.fplaces.flatMap (mcell (fun x : ByteArray=>Value.string x) (fun x : Int=>Value.int .i64 x))⟩)::R,φ⟩ (fun _ h=>h)<|c_region<|g_v rfl (r_add rfl rfl rfl)<|g_v rfl r_move<|g_nil ?_
   obtain ⟨n357,hn357,hlp⟩:=nx_inl hm hnx6
   exact d_round (n357,x352.fb,w64 (i309 + 1),A354,c355) ⟨hlp,hc355⟩ hn357 ⟨rfl,rfl,rfl,rfl,rfl,trivial⟩ (fun W h=>(h.dropH (t:=100090) rfl).phi (fun W hφ=>hφ))
  replace hm:=ite_f hm (of_decide_eq_false h336)
  refine c_exit<|d_exit_then<|d_exit_then<|d_exit_block ?_
  replace hm:=nx_out (C:=(fun e : (List Int)=>m_conf_Snap_j3 p0 x5 e = some r)) hm hnx6 hr6
  exact d_round (l306,A307,c308) ⟨hm,hc308⟩ Nat.zero_lt_one ⟨rfl,rfl,trivial⟩ (fun W h=>h.phi (fun W hφ=>hφ))
 unfold m_conf_Snap_j3 at hm
 refine d_flat [(1,Vp g1),(3,Vp g13)] ⟨rfl,rfl,trivial⟩ (fun u=>?_)
 refine d_sta ⟨w0,M,(100155,g13,.cells #[.slice A157 l156.length c158,mapV A10] 120 (0,0))::(100010,g1,.cells #[.slice Ap0_0 p0.fRing.length cp0_0,.slice Ap0_1 p0.fHints.length cp0_1,.slice Ap0_2 p0.fAnchors.length cp0_2,Vi p0.fEpoch,.slice Ap0_3 p0.fFlushes.length cp0_3] 30 (0,0))::H,(100150,⟨.slice A157 l156.length c158,5,1,l156.length,l156.flatMap (fun x : Int=>[Value.int .u8 x])⟩)::(100151,⟨mapV A10,118,2,x5.fplaces.length,x5.fplaces.flatMap (mcell (fun x : ByteArray=>Value.string x) (fun x : Int=>Value.int .i64 x))⟩)::R,φ⟩ (fun _ h=>h)<|d_then<|c_seq<|c_region<|g_v rfl r_move<|g_v rfl (r_field (n:=3) Tryz.underlying30 rfl Tryz.sizeOf3 rfl rfl)<|g_v rfl (r_load (tag:=100010) rfl rfl rfl Tryz.isAgg3) ?_
 replace hm:=bnd hm
 obtain ⟨x159,hx160,hm⟩:=hm
 refine g_cn ⟨w0,M,(1000,g13,.cells #[.slice A157 l156.length c158,mapV A10] 120 (0,0))::(100010,g1,.cells #[.slice Ap0_0 p0.fRing.length cp0_0,.slice Ap0_1 p0.fHints.length cp0_1,.slice Ap0_2 p0.fAnchors.length cp0_2,Vi p0.fEpoch,.slice Ap0_3 p0.fFlushes.length cp0_3] 30 (0,0))::H,(1000,⟨.slice A157 l156.length c158,5,1,l156.length,l156.flatMap (fun x : Int=>[Value.int .u8 x])⟩)::(1001,⟨mapV A10,118,2,x5.fplaces.length,x5.fplaces.flatMap (mcell (fun x : ByteArray=>Value.string x) (fun x : Int=>Value.int .i64 x))⟩)::R,φ⟩ (fun W h=>(ok_front (t:=100155) (t':=1000) (ok_frontR (t:=100150) (t':=1000) (ok_frontR (t:=100151) (t':=1001) h rfl) rfl) rfl)) Tryz.call62 rfl rfl (c_conf_eight p0.fEpoch g13 (⟨l156,x5.fplaces⟩ : Gpack_Packer) A157 c158 hc158 A10 c11 trivial _ hx160) (fun ⟨A161,c162⟩ hc162=>?_)
 refine g_sta _ (fun W h=>(ok_frontR (t:=2000) (t':=100150) (ok_frontR (t:=1001) (t':=100151) (ok_front (t:=1000) (t':=100155) h rfl) rfl) rfl))<|g_nil<|d_then<|c_seq<|c_region<|g_v rfl r_move<|g_v rfl (r_field (n:=4) Tryz.underlying30 rfl Tryz.sizeOf28 rfl rfl)<|g_v rfl (r_load (tag:=100010) rfl rfl rfl Tryz.isAgg28)<|g_v rfl (r_lenL Tryz.underlying28 rfl)<|g_v rfl (r_conv Tryz.underlying3 Tryz.underlying5 rfl rfl) ?_
 replace hm:=bnd hm
 obtain ⟨x164,hx165,hm⟩:=hm
 refine g_cn ⟨w0,M,(1000,g13,.cells #[.slice A161 x159.fb.length c162,mapV A10] 120 (0,0))::(100010,g1,.cells #[.slice Ap0_0 p0.fRing.length cp0_0,.slice Ap0_1 p0.fHints.length cp0_1,.slice Ap0_2 p0.fAnchors.length cp0_2,Vi p0.fEpoch,.slice Ap0_3 p0.fFlushes.length cp0_3] 30 (0,0))::H,(1000,⟨.slice A161 x159.fb.length c162,5,1,x159.fb.length,x159.fb.flatMap (fun x : Int=>[Value.int .u8 x])⟩)::(1001,⟨mapV A10,118,2,x5.fplaces.length,x5.fplaces.flatMap (mcell (fun x : ByteArray=>Value.string x) (fun x : Int=>Value.int .i64 x))⟩)::R,φ⟩ (fun W h=>(ok_front (t:=100155) (t':=1000) (ok_frontR (t:=100150) (t':=1000) (ok_frontR (t:=100151) (t':=1001) h rfl) rfl) rfl)) Tryz.call60 rfl rfl (c_pack_Packer_Byte (IntKind.u8.wrap (p0.fFlushes.length : Int)) g13 (⟨x159.fb,x5.fplaces⟩ : Gpack_Packer) A161 c162 hc162 A10 c11 trivial _ hx165) (fun ⟨A166,c167⟩ hc167=>?_)
 refine g_sta _ (fun W h=>(ok_frontR (t:=2000) (t':=100150) (ok_frontR (t:=1001) (t':=100151) (ok_front (t:=1000) (t':=100155) h rfl) rfl) rfl))<|g_nil<|d_then ?_
 refine c_flat [(1,Vp g1),(3,Vp g13)] ⟨rfl,rfl,trivial⟩ (fun u=>?_)
 refine c_sta ⟨w0,M,(100155,g13,.cells #[.slice A166 x164.fb.length c167,mapV A10] 120 (0,0))::(100010,g1,.cells #[.slice Ap0_0 p0.fRing.length cp0_0,.slice Ap0_1 p0.fHints.length cp0_1,.slice Ap0_2 p0.fAnchors.length cp0_2,Vi p0.fEpoch,.slice Ap0_3 p0.fFlushes.length cp0_3] 30 (0,0))::H,(100150,⟨.slice A166 x164.fb.length c167,5,1,x164.fb.length,x164.fb.flatMap (fun x : Int=>[Value.int .u8 x])⟩)::(100151,⟨mapV A10,118,2,x5.fplaces.length,x5.fplaces.flatMap (mcell (fun x : ByteArray=>Value.string x) (fun x : Int=>Value.int .i64 x))⟩)::R,φ⟩ (fun _ h=>h)<|c_seq<|c_seq<|c_region<|g_v rfl (r_field (n:=4) Tryz.underlying30 rfl Tryz.sizeOf28 rfl rfl)<|g_v rfl (r_load (tag:=100010) rfl rfl rfl Tryz.isAgg28)<|g_v rfl (r_lenL Tryz.underlying28 rfl)<|g_v rfl r_move<|g_nil<|d_then ?_
 refine c_cut (ι:=(List Int)×Option Addr×Nat) [3] (fun ⟨l214,A215,c216⟩=>[]) (fun ⟨l214,A215,c216⟩=>⟨w0,M,(100155,g13,.cells #[.slice A215 l214.length c216,mapV A10] 120 (0,0))::H,(100150,⟨.slice A215 l214.length c216,5,1,l214.length,l214.flatMap (fun x : Int=>[Value.int .u8 x])⟩)::(100151,⟨mapV A10,118,2,x5.fplaces.length,x5.fplaces.flatMap (mcell (fun x : ByteArray=>Value.string x) (fun x : Int=>Value.int .i64 x))⟩)::R,φ⟩) (fun ⟨l214,A215,c216⟩=>m_conf_Snap_j4 x5 l214 = some r∧l214.length ≤ c216) ?_ (fun ⟨l214,A215,c216⟩ u ⟨hm,hc216⟩=>?_)
 ·
  refine c_block ?_
  replace hm:=bnd hm
  obtain ⟨out5,hl5,hr5⟩:=hm
  obtain ⟨n263',hl5⟩:=loop_lp hl5
  refine c_loopU (ι:=Nat×(List Int)×Int×Option Addr×Nat) [3,90,91,92] (fun ⟨n263,l239,i242,A240,c241⟩=>[(92,Vi i242)]) (fun ⟨n263,l239,i242,A240,c241⟩=>⟨w0,M,(100155,g13,.cells #[.slice A240 l239.length c241,mapV A10] 120 (0,0))::H,(100150,⟨.slice A240 l239.length c241,5,1,l239.length,l239.flatMap (fun x : Int=>[Value.int .u8 x])⟩)::(100151,⟨mapV A10,118,2,x5.fplaces.length,x5.fplaces.flatMap (mcell (fun x : ByteArray=>Value.string x) (fun x : Int=>Value.int .i64 x))⟩)::R,φ⟩) (fun ⟨n263,l239,i242,A240,c241⟩=>Lp (fun s=>m_conf_Snap_s5 p0 x5 s.1 s.2) n263 (l239,i242) out5∧l239.length ≤ c241) (fun ⟨n263,l239,i242,A240,c241⟩=>n263) (n263',x164.fb,0,A166,c167) ⟨hl5,hc167⟩ ⟨rfl,rfl,rfl,rfl,trivial⟩ (fun W h=>(h.dropH (t:=100010) rfl).phi (fun W hφ=>hφ)) (fun ⟨n263,l239,i242,A240,c241⟩ u ⟨hlp,hc241⟩=>?_)
  obtain ⟨o5,hm,hnx5⟩:=lp_step hlp
  clear hlp
  replace hm : m_conf_Snap_s5 p0 x5 l239 i242 = some o5:=hm
  unfold m_conf_Snap_s5 at hm
  refine c_flat [(3,Vp g13),(90,.slice Ap0_3 p0.fFlushes.length cp0_3),(91,Vi (p0.fFlushes.length : Int)),(92,Vi i242)] ⟨rfl,rfl,rfl,rfl,trivial⟩ (fun u=>?_)
  refine c_sta ⟨w0,M,(100155,g13,.cells #[.slice A240 l239.length c241,mapV A10] 120 (0,0))::H,(100150,⟨.slice A240 l239.length c241,5,1,l239.length,l239.flatMap (fun x : Int=>[Value.int .u8 x])⟩)::(100151,⟨mapV A10,118,2,x5.fplaces.length,x5.fplaces.flatMap (mcell (fun x : ByteArray=>Value.string x) (fun x : Int=>Value.int .i64 x))⟩)::R,φ⟩ (fun _ h=>h)<|c_seq<|c_region<|g_v rfl (r_lss rfl rfl)<|g_nil<|d_then<|c_seq ?_
  refine c_cond rfl (fun h264=>?_) (fun h264=>?_)
  ·
   replace hm:=ite_t hm (of_decide_eq_true h264)
   refine c_skip<|d_then<|c_seq<|c_block<|c_seq<|c_region ?_
   replace hm:=bnd hm
   obtain ⟨x265,hx265,hm⟩:=hm
   refine g_know _ (fun W hS=>cl_at (p:=φ) (sz:=2) (fun _=>rfl) (by decide) hS.now fp0_3 hx265) ?_
   rintro ⟨ad266,hA268,f267⟩
   refine g_v rfl (r_ix Tryz.underlying28 Tryz.sizeOf48 rfl hA268 rfl hx265)<|g_v rfl (r_ldA rfl Tryz.isAgg48 Tryz.sizeOf48 (fun W hS=>(f267 W hS.now).take 2) rfl) ?_
   refine g_e rfl (e_alloc 100110 Tryz.zeroValue48) (fun g269 _=>?_)
   refine g_storeL (tag:=100110) rfl rfl rfl rfl Tryz.sizeOf48 rfl rfl<|g_nil<|d_then<|c_seq<|c_region<|g_v rfl r_move<|g_v rfl (r_field (n:=0) Tryz.underlying48 rfl Tryz.sizeOf3 rfl rfl)<|g_v rfl (r_load (tag:=100110) rfl rfl rfl Tryz.isAgg3) ?_
   replace hm:=bnd hm
   obtain ⟨x270,hx271,hm⟩:=hm
   refine g_cn ⟨w0,M,(1000,g13,.cells #[.slice A240 l239.length c241,mapV A10] 120 (0,0))::(100110,g269,.cells #[Vi x265.fEpoch,Vs x265.fZone] 48 (0,0))::H,(1000,⟨.slice A240 l239.length c241,5,1,l239.length,l239.flatMap (fun x : Int=>[Value.int .u8 x])⟩)::(1001,⟨mapV A10,118,2,x5.fplaces.length,x5.fplaces.flatMap (mcell (fun x : ByteArray=>Value.string x) (fun x : Int=>Value.int .i64 x))⟩)::R,φ⟩ (fun W h=>(ok_front (t:=100155) (t':=1000) (ok_frontR (t:=100150) (t':=1000) (ok_frontR (t:=100151) (t':=1001) h rfl) rfl) rfl)) Tryz.call62 rfl rfl (c_conf_eight x265.fEpoch g13 (⟨l239,x5.fplaces⟩ : Gpack_Packer) A240 c241 hc241 A10 c11 trivial _ hx271) (fun ⟨A272,c273⟩ hc273=>?_)
   refine g_sta _ (fun W h=>(ok_frontR (t:=2000) (t':=100150) (ok_frontR (t:=1001) (t':=100151) (ok_front (t:=1000) (t':=100155) h rfl) rfl) rfl))<|g_nil<|d_then ?_
   refine c_flat [(3,Vp g13),(11,Vp g269),(90,.slice Ap0_3 p0.fFlushes.length cp0_3),(91,Vi (p0.fFlushes.length : Int)),(92,Vi i242)] ⟨rfl,rfl,rfl,rfl,rfl,trivial⟩ (fun u=>?_)
   refine c_sta ⟨w0,M,(100155,g13,.cells #[.slice A272 x270.fb.length c273,mapV A10] 120 (0,0))::(100110,g269,.cells #[Vi x265.fEpoch,Vs x265.fZone] 48 (0,0))::H,(100150,⟨.slice A272 x270.fb.length c273,5,1,x270.fb.length,x270.fb.flatMap (fun x : Int=>[Value.int .u8 x])⟩)::(100151,⟨mapV A10,118,2,x5.fplaces.length,x5.fplaces.flatMap (mcell (fun x : ByteArray=>Value.string x) (fun x : Int=>Value.int .i64 x))⟩)::R,φ⟩ (fun _ h=>h)<|c_region<|g_v rfl r_move<|g_v rfl (r_field (n:=1) Tryz.underlying48 rfl Tryz.sizeOf9 rfl rfl)<|g_v rfl (r_load (tag:=100110) rfl rfl rfl Tryz.isAgg9) ?_
   replace hm:=bnd hm
   obtain ⟨x275,hx276,hm⟩:=hm
   refine g_cn ⟨w0,M,(1000,g13,.cells #[.slice A272 x270.fb.length c273,mapV A10] 120 (0,0))::(100110,g269,.cells #[Vi x265.fEpoch,Vs x265.fZone] 48 (0,0))::H,(1000,⟨.slice A272 x270.fb.length c273,5,1,x270.fb.length,x270.fb.flatMap (fun x : Int=>[Value.int .u8 x])⟩)::(1001,⟨mapV A10,118,2,x5.fplaces.length,x5.fplaces.flatMap (mcell (fun x : ByteArray=>Value.string x) (fun x : Int=>Value.int .i64 x))⟩)::R,φ⟩ (fun W h=>(ok_front (t:=100155) (t':=1000) (ok_frontR (t:=100150) (t':=1000) (ok_frontR (t:=100151) (t':=1001) h rfl) rfl) rfl)) Tryz.call61 rfl rfl (c_pack_Packer_Raw x265.fZone g13 (⟨x270.fb,x5.fplaces⟩ : Gpack_Packer) A272 c273 hc273 A10 c11 trivial _ hx276) (fun ⟨A277,c278⟩ hc278=>?_)
   refine g_sta _ (fun W h=>(ok_frontR (t:=2000) (t':=100150) (ok_frontR (t:=1001) (t':=100151) (ok_front (t:=1000) (t':=100155) h rfl) rfl) rfl))<|g_nil<|d_normal_block<|d_then<|c_region<|g_v rfl (r_add rfl rfl rfl)<|g_v rfl r_move<|g_nil ?_
   obtain ⟨n280,hn280,hlp⟩:=nx_inl hm hnx5
   exact d_round (n280,x275.fb,w64 (i242 + 1),A277,c278) ⟨hlp,hc278⟩ hn280 ⟨rfl,rfl,rfl,rfl,trivial⟩ (fun W h=>(h.dropH (t:=100110) rfl).phi (fun W hφ=>hφ))
  replace hm:=ite_f hm (of_decide_eq_false h264)
  refine c_exit<|d_exit_then<|d_exit_then<|d_exit_block ?_
  replace hm:=nx_out (C:=(fun e : (List Int)=>m_conf_Snap_j4 x5 e = some r)) hm hnx5 hr5
  exact d_round (l239,A240,c241) ⟨hm,hc241⟩ Nat.zero_lt_one ⟨rfl,trivial⟩ (fun W h=>h.phi (fun W hφ=>hφ))
 unfold m_conf_Snap_j4 at hm
 refine d_flat [(3,Vp g13)] ⟨rfl,trivial⟩ (fun u=>?_)
 refine d_sta ⟨w0,M,(100155,g13,.cells #[.slice A215 l214.length c216,mapV A10] 120 (0,0))::H,(100150,⟨.slice A215 l214.length c216,5,1,l214.length,l214.flatMap (fun x : Int=>[Value.int .u8 x])⟩)::(100151,⟨mapV A10,118,2,x5.fplaces.length,x5.fplaces.flatMap (mcell (fun x : ByteArray=>Value.string x) (fun x : Int=>Value.int .i64 x))⟩)::R,φ⟩ (fun _ h=>h)<|d_then<|c_seq<|c_region<|g_v rfl r_move ?_
 replace hm:=bnd hm
 obtain ⟨x217,hx218,hm⟩:=hm
 refine g_cn ⟨w0,M,(1000,g13,.cells #[.slice A215 l214.length c216,mapV A10] 120 (0,0))::H,(1000,⟨.slice A215 l214.length c216,5,1,l214.length,l214.flatMap (fun x : Int=>[Value.int .u8 x])⟩)::(1001,⟨mapV A10,118,2,x5.fplaces.length,x5.fplaces.flatMap (mcell (fun x : ByteArray=>Value.string x) (fun x : Int=>Value.int .i64 x))⟩)::R,φ⟩ (fun W h=>(ok_front (t:=100155) (t':=1000) (ok_frontR (t:=100150) (t':=1000) (ok_frontR (t:=100151) (t':=1001) h rfl) rfl) rfl)) Tryz.call63 rfl rfl (c_pack_Packer_Bytes g13 (⟨l214,x5.fplaces⟩ : Gpack_Packer) A215 c216 hc216 A10 c11 trivial _ hx218) (fun _ _=>?_)
 refine g_sta _ (fun W h=>(ok_frontR (t:=1000) (t':=100150) (ok_frontR (t:=1001) (t':=100151) (ok_front (t:=1000) (t':=100155) h rfl) rfl) rfl))<|g_v rfl r_assign<|g_nil<|d_then<|c_ret ?_
 cases hm
 exact d_retC () Tryz.results15 (res_tmp (res_nil rfl)) trivial (fun W h=>ok_pre (H1:=[_]) (R1:=[_,_]) h (fun W hφ=>hφ)) (.inr rfl)
structure Gconf_reader where
  fs : ByteArray
  fbad : Bool
  deriving DecidableEq
def Gconf_reader.enc (e : Gconf_reader) : List Value:=[.string e.fs,.bool e.fbad]
theorem bld89_25 (z0 : ByteArray) : ∀ W,(Instr.build 89 #[(0,Vs z0)]).run Tryz.prog W = .ok (.agg #[Vs z0,.bool false]) W:=fun _=>by kernel_rfl
noncomputable def m_pack_Raw (p0 : ByteArray) (p1 : Int) (p2 : Int) : Option (ByteArray×Int×Int):=
  if p1 < 0 then
    some ((⟨#[]⟩ : ByteArray),0,10)
  else
    if p2 < 0 then
      some ((⟨#[]⟩ : ByteArray),0,10)
    else
      if (p0.size : Int) < p1 then
        some ((⟨#[]⟩ : ByteArray),0,10)
      else
        if w64 ((p0.size : Int) - p1) < p2 then
          some ((⟨#[]⟩ : ByteArray),0,10)
        else
          (scutMid p0 p1 (w64 (p1 + p2))).bind fun s5=>
          some (s5,w64 (p1 + p2),0)
theorem c_pack_Raw {w0 : World} {M : Nat→Prop} {H : List (Nat×Nat×Obj)} {R : List (Nat×Row)} {φ : World→Prop} (p0 : ByteArray) (p1 : Int) (p2 : Int) (r : ByteArray×Int×Int) (hm : m_pack_Raw p0 p1 p2 = some r) :
    Cn Tryz.prog 100 #[Vs p0,Vi p1,Vi p2] ⟨w0,M,H,R,φ⟩ (fun x : Unit=>.tuple #[Vs r.1,Vi r.2.1,Vi r.2.2]) (fun x=>True) (fun x=>⟨w0,M,H,R,φ⟩):=by
 unfold m_pack_Raw at hm
 refine cn_intro (fn:=Tryz.f100) (N:=38) Tryz.func100 rfl Tryz.ntmps100 rfl<|c_seq<|c_region ?_
 iterate 3 refine g_v rfl r_assign ?_
 refine g_nil<|d_then<|c_seq<|c_seq<|c_region<|g_v rfl r_move<|g_v rfl (r_lss rfl rfl)<|g_v rfl r_move ?_
 refine g_if rfl rfl rfl rfl rfl (fun h1=>?_) (fun h1=>?_)
 ·
  replace hm:=ite_f hm (of_decide_eq_false h1)
  refine g_v rfl r_move<|g_do rfl rfl rfl rfl rfl h1<|g_v rfl (r_lss rfl rfl)<|g_v rfl (r_pick0 rfl h1)<|g_v rfl r_move ?_
  refine g_if rfl rfl rfl rfl rfl (fun h2=>?_) (fun h2=>?_)
  ·
   replace hm:=ite_f hm (of_decide_eq_false h2)
   refine g_v rfl r_move<|g_do rfl rfl rfl rfl rfl h2<|g_v rfl r_move<|g_do rfl rfl rfl rfl rfl h2<|g_v rfl (r_len Tryz.underlying9 rfl)<|g_do rfl rfl rfl rfl rfl h2<|g_v rfl (r_gtr rfl rfl)<|g_v rfl (r_pick0 rfl h2)<|g_v rfl r_move ?_
   refine g_if rfl rfl rfl rfl rfl (fun h3=>?_) (fun h3=>?_)
   ·
    replace hm:=ite_f hm (of_decide_eq_false h3)
    refine g_v rfl r_move<|g_do rfl rfl rfl rfl rfl h3<|g_v rfl r_move<|g_do rfl rfl rfl rfl rfl h3<|g_v rfl (r_len Tryz.underlying9 rfl)<|g_do rfl rfl rfl rfl rfl h3<|g_v rfl r_move<|g_do rfl rfl rfl rfl rfl h3<|g_v rfl (r_sub rfl rfl rfl)<|g_do rfl rfl rfl rfl rfl h3 ?_
    refine g_v rfl (r_gtr rfl rfl)<|g_v rfl (r_pick0 rfl h3)<|g_nil<|d_then ?_
    refine c_flat [(0,Vs p0),(1,Vi p1),(2,Vi p2),(28,.bool (decide (w64 ((p0.size : Int) - p1) < p2)))] ⟨rfl,rfl,rfl,rfl,trivial⟩ (fun u=>?_)
    refine c_sta ⟨w0,M,H,R,φ⟩ (fun _ h=>h) ?_
    refine c_cond rfl (fun h4=>?_) (fun h4=>?_)
    ·
     replace hm:=ite_t hm (of_decide_eq_true h4)
     refine c_seq<|c_region ?_
     iterate 3 refine g_v rfl r_assign ?_
     refine g_nil<|d_then<|c_ret<|d_ret_then ?_
     cases hm
     exact d_retC () Tryz.results100 (res_tmp (res_tmp (res_tmp (res_nil rfl)))) trivial (fun W h=>ok_pre (H1:=[]) (R1:=[]) h (fun W hφ=>hφ)) (.inr rfl)
    replace hm:=ite_f hm (of_decide_eq_false h4)
    refine c_skip<|d_then<|c_seq<|c_region ?_
    iterate 4 refine g_v rfl r_move ?_
    refine g_v rfl (r_add rfl rfl rfl) ?_
    replace hm:=bnd hm
    obtain ⟨s5,hs5,hm⟩:=hm
    refine g_v rfl (r_scutMid Tryz.underlying9 rfl rfl rfl hs5)<|g_v rfl r_move<|g_v rfl r_move<|g_v rfl (r_add rfl rfl rfl) ?_
    iterate 3 refine g_v rfl r_assign ?_
    refine g_nil<|d_then ?_
    refine c_flat [(6,Vs s5),(7,Vi (w64 (p1 + p2))),(8,Vi 0)] ⟨rfl,rfl,rfl,trivial⟩ (fun u=>?_)
    refine c_ret ?_
    cases hm
    exact d_retC () Tryz.results100 (res_tmp (res_tmp (res_tmp (res_nil rfl)))) trivial (fun W h=>ok_pre (H1:=[]) (R1:=[]) h (fun W hφ=>hφ)) (.inr rfl)
   replace hm:=ite_t hm (of_decide_eq_true h3)
   iterate 5 refine g_no rfl rfl rfl rfl rfl h3 ?_
   refine g_v rfl (r_pick1 rfl h3)<|g_nil<|d_then ?_
   refine c_flat [(0,Vs p0),(1,Vi p1),(2,Vi p2),(28,.bool true)] ⟨rfl,rfl,rfl,rfl,trivial⟩ (fun u=>?_)
   refine c_sta ⟨w0,M,H,R,φ⟩ (fun _ h=>h)<|c_cond1 rfl rfl<|c_seq<|c_region ?_
   iterate 3 refine g_v rfl r_assign ?_
   refine g_nil<|d_then<|c_ret<|d_ret_then ?_
   cases hm
   exact d_retC () Tryz.results100 (res_tmp (res_tmp (res_tmp (res_nil rfl)))) trivial (fun W h=>ok_pre (H1:=[]) (R1:=[]) h (fun W hφ=>hφ)) (.inr rfl)
  replace hm:=ite_t hm (of_decide_eq_true h2)
  iterate 3 refine g_no rfl rfl rfl rfl rfl h2 ?_
  refine g_v rfl (r_pick1 rfl h2)<|g_v rfl r_move ?_
  iterate 6 refine g_no rfl rfl rfl rfl rfl rfl ?_
  refine g_v rfl (r_pick1 rfl rfl)<|g_nil<|d_then ?_
  refine c_flat [(0,Vs p0),(1,Vi p1),(2,Vi p2),(28,.bool true)] ⟨rfl,rfl,rfl,rfl,trivial⟩ (fun u=>?_)
  refine c_sta ⟨w0,M,H,R,φ⟩ (fun _ h=>h)<|c_cond1 rfl rfl<|c_seq<|c_region ?_
  iterate 3 refine g_v rfl r_assign ?_
  refine g_nil<|d_then<|c_ret<|d_ret_then ?_
  cases hm
  exact d_retC () Tryz.results100 (res_tmp (res_tmp (res_tmp (res_nil rfl)))) trivial (fun W h=>ok_pre (H1:=[]) (R1:=[]) h (fun W hφ=>hφ)) (.inr rfl)
 replace hm:=ite_t hm (of_decide_eq_true h1)
 refine g_no rfl rfl rfl rfl rfl h1<|g_v rfl (r_pick1 rfl h1)<|g_v rfl r_move ?_
 iterate 4 refine g_no rfl rfl rfl rfl rfl rfl ?_
 refine g_v rfl (r_pick1 rfl rfl)<|g_v rfl r_move ?_
 iterate 6 refine g_no rfl rfl rfl rfl rfl rfl ?_
 refine g_v rfl (r_pick1 rfl rfl)<|g_nil<|d_then ?_
 refine c_flat [(0,Vs p0),(1,Vi p1),(2,Vi p2),(28,.bool true)] ⟨rfl,rfl,rfl,rfl,trivial⟩ (fun u=>?_)
 refine c_sta ⟨w0,M,H,R,φ⟩ (fun _ h=>h)<|c_cond1 rfl rfl<|c_seq<|c_region ?_
 iterate 3 refine g_v rfl r_assign ?_
 refine g_nil<|d_then<|c_ret<|d_ret_then ?_
 cases hm
 exact d_retC () Tryz.results100 (res_tmp (res_tmp (res_tmp (res_nil rfl)))) trivial (fun W h=>ok_pre (H1:=[]) (R1:=[]) h (fun W hφ=>hφ)) (.inr rfl)
noncomputable def m_conf_reader_take_j1 (o0 : Gconf_reader) (x2 : Int) (x1 : ByteArray) (b7 : Bool) : Option (ByteArray×Gconf_reader):=
  (scutLo o0.fs x2).bind fun s8=>
  some (x1,(⟨s8,b7⟩ : Gconf_reader))
noncomputable def m_conf_reader_take (p1 : Int) (o0 : Gconf_reader) : Option (ByteArray×Gconf_reader):=
  (m_pack_Raw o0.fs 0 p1).bind fun (z5 : ByteArray×Int×Int)=>
  if o0.fbad = true then
    m_conf_reader_take_j1 o0 z5.2.1 z5.1 true
  else
    m_conf_reader_take_j1 o0 z5.2.1 z5.1 (decide (z5.2.2 ≠ 0))
theorem c_conf_reader_take {w0 : World} {M : Nat→Prop} {H : List (Nat×Nat×Obj)} {R : List (Nat×Row)} {φ : World→Prop} (p1 : Int) (go0 : Nat) (o0 : Gconf_reader) (r : ByteArray×Gconf_reader) (hm : m_conf_reader_take p1 o0 = some r) :
    Cn Tryz.prog 69 #[Vp go0,Vi p1] ⟨w0,M,(1000,go0,.cells #[Vs o0.fs,.bool o0.fbad] 89 (0,0))::H,R,φ⟩ (fun x : Unit=>Vs r.1) (fun x=>True) (fun x=>⟨w0,M,(1000,go0,.cells #[Vs r.2.fs,.bool r.2.fbad] 89 (0,0))::H,R,φ⟩):=by
 unfold m_conf_reader_take at hm
 refine cn_intro (fn:=Tryz.f69) (N:=39) Tryz.func69 rfl Tryz.ntmps69 rfl<|c_seq<|c_region<|g_v rfl r_assign<|g_nil<|d_then<|c_seq<|c_region<|g_v rfl r_move<|g_v rfl (r_nilck rfl) ?_
 refine g_v rfl (r_field (n:=0) Tryz.underlying89 rfl Tryz.sizeOf9 rfl rfl)<|g_v rfl (r_load (tag:=1000) rfl rfl rfl Tryz.isAgg9)<|g_v rfl r_move ?_
 replace hm:=bnd hm
 obtain ⟨⟨x1,x2,x3⟩,hx4,hm⟩:=hm
 refine g_cn ⟨w0,M,_,_,φ⟩ (fun _ h=>h) Tryz.call100 rfl rfl (c_pack_Raw o0.fs 0 p1 _ hx4) (fun _ _=>?_)
 refine g_v rfl r_move ?_
 iterate 3 refine g_v rfl (r_extract rfl rfl) ?_
 iterate 3 refine g_v rfl r_assign ?_
 refine g_nil<|d_then ?_
 refine c_flat [(0,Vp go0),(5,Vs x1),(6,Vi x2),(7,Vi x3)] ⟨rfl,rfl,rfl,rfl,trivial⟩ (fun u=>?_)
 refine c_sta ⟨w0,M,(1000,go0,.cells #[Vs o0.fs,.bool o0.fbad] 89 (0,0))::H,R,φ⟩ (fun _ h=>h)<|c_seq ?_
 refine c_cut (ι:=Bool) [0,5,6] (fun b7=>[]) (fun b7=>⟨w0,M,(1000,go0,.cells #[Vs o0.fs,.bool b7] 89 (0,0))::H,R,φ⟩) (fun b7=>m_conf_reader_take_j1 o0 x2 x1 b7 = some r) ?_ (fun b7 u hm=>?_)
 ·
  refine c_region<|g_v rfl r_move<|g_v rfl r_move<|g_v rfl (r_nilck rfl)<|g_v rfl (r_field (n:=1) Tryz.underlying89 rfl Tryz.sizeOf4 rfl rfl)<|g_v rfl (r_load (tag:=1000) rfl rfl rfl Tryz.isAgg4)<|g_v rfl r_move ?_
  refine g_if rfl rfl rfl rfl rfl (fun h9=>?_) (fun h9=>?_)
  ·
   replace hm:=ite_f hm (bool_nt h9)
   refine g_v rfl r_move<|g_do rfl rfl rfl rfl rfl h9<|g_v rfl (r_neq rfl rfl)<|g_v rfl (r_pick0 rfl h9)<|g_v rfl (r_nilck rfl)<|g_v rfl (r_field (n:=1) Tryz.underlying89 rfl Tryz.sizeOf4 rfl rfl)<|g_storeL (tag:=1000) rfl rfl rfl rfl Tryz.sizeOf4 rfl rfl<|g_nil ?_
   exact d_round (decide (x3 ≠ 0)) hm Nat.zero_lt_one ⟨rfl,rfl,rfl,trivial⟩ (fun W h=>h.phi (fun W hφ=>hφ))
  replace hm:=ite_t hm h9
  refine g_no rfl rfl rfl rfl rfl h9<|g_v rfl (r_pick1 rfl h9)<|g_v rfl (r_nilck rfl)<|g_v rfl (r_field (n:=1) Tryz.underlying89 rfl Tryz.sizeOf4 rfl rfl)<|g_storeL (tag:=1000) rfl rfl rfl rfl Tryz.sizeOf4 rfl rfl<|g_nil ?_
  exact d_round true hm Nat.zero_lt_one ⟨rfl,rfl,rfl,trivial⟩ (fun W h=>h.phi (fun W hφ=>hφ))
 unfold m_conf_reader_take_j1 at hm
 refine d_flat [(0,Vp go0),(5,Vs x1),(6,Vi x2)] ⟨rfl,rfl,rfl,trivial⟩ (fun u=>?_)
 refine d_sta ⟨w0,M,(1000,go0,.cells #[Vs o0.fs,.bool b7] 89 (0,0))::H,R,φ⟩ (fun _ h=>h)<|d_then<|c_seq<|c_region<|g_v rfl r_move<|g_v rfl r_move<|g_v rfl (r_nilck rfl)<|g_v rfl (r_field (n:=0) Tryz.underlying89 rfl Tryz.sizeOf9 rfl rfl)<|g_v rfl (r_load (tag:=1000) rfl rfl rfl Tryz.isAgg9)<|g_v rfl r_move ?_
 replace hm:=bnd hm
 obtain ⟨s8,hs8,hm⟩:=hm
 refine g_v rfl (r_scutLo Tryz.underlying9 rfl rfl hs8)<|g_v rfl (r_nilck rfl)<|g_v rfl (r_field (n:=0) Tryz.underlying89 rfl Tryz.sizeOf9 rfl rfl)<|g_storeL (tag:=1000) rfl rfl rfl rfl Tryz.sizeOf9 rfl rfl<|g_nil<|d_then ?_
 refine c_flat [(5,Vs x1)] ⟨rfl,trivial⟩ (fun u=>?_)
 refine c_sta ⟨w0,M,(1000,go0,.cells #[Vs s8,.bool b7] 89 (0,0))::H,R,φ⟩ (fun _ h=>h)<|c_seq<|c_region<|g_v rfl r_move<|g_v rfl r_assign<|g_nil<|d_then<|c_ret ?_
 cases hm
 exact d_retC () Tryz.results69 (res_tmp (res_nil rfl)) trivial (fun W h=>h.phi (fun W hφ=>hφ)) (.inr rfl)
noncomputable def m_conf_reader_number_j2 (i26 : Int) (x2 : Gconf_reader) (b28 : Bool) : Option (Int×Gconf_reader):=
  some (w64 (min i26 4611686018427387904),(⟨x2.fs,b28⟩ : Gconf_reader))
noncomputable def m_conf_reader_number_j1 (x2 : Gconf_reader) (i26 : Int) : Option (Int×Gconf_reader):=
  if x2.fbad = true then
    m_conf_reader_number_j2 i26 x2 true
  else
    m_conf_reader_number_j2 i26 x2 (decide (4611686018427387904 < i26))
noncomputable def m_conf_reader_number_s3 (x1 : ByteArray) (i37 : Int) (i38 : Int) : Option ((Int×Int) ⊕ Int):=
  if i38 < ((bytesI x1).length : Int) then
    (at_ (bytesI x1) i38).bind fun x48=>
    some (.inl (orI .u64 (IntKind.u64.wrap (i37 * 256)) (IntKind.u64.wrap x48),w64 (i38 + 1)))
  else
    some (.inr i37)
noncomputable def m_conf_reader_number (p1 : Int) (o0 : Gconf_reader) : Option (Int×Gconf_reader):=
  (m_conf_reader_take p1 o0).bind fun (z4 : ByteArray×Gconf_reader)=>
  (loop (fun s=>m_conf_reader_number_s3 z4.1 s.1 s.2) (0,0)).bind fun e=>m_conf_reader_number_j1 z4.2 e
theorem c_conf_reader_number {w0 : World} {M : Nat→Prop} {H : List (Nat×Nat×Obj)} {R : List (Nat×Row)} {φ : World→Prop} (p1 : Int) (go0 : Nat) (o0 : Gconf_reader) (r : Int×Gconf_reader) (hm : m_conf_reader_number p1 o0 = some r) :
    Cn Tryz.prog 66 #[Vp go0,Vi p1] ⟨w0,M,(1000,go0,.cells #[Vs o0.fs,.bool o0.fbad] 89 (0,0))::H,R,φ⟩ (fun x : Unit=>Vi r.1) (fun x=>True) (fun x=>⟨w0,M,(1000,go0,.cells #[Vs r.2.fs,.bool r.2.fbad] 89 (0,0))::H,R,φ⟩):=by
 unfold m_conf_reader_number at hm
 refine cn_intro (fn:=Tryz.f66) (N:=37) Tryz.func66 rfl Tryz.ntmps66 rfl<|c_seq<|c_region<|g_v rfl r_assign<|g_nil<|d_then<|c_seq<|c_region<|g_v rfl r_assign<|g_nil ?_
 refine d_then<|c_seq<|c_seq<|c_region<|g_v rfl r_move<|g_v rfl r_move ?_
 replace hm:=bnd hm
 obtain ⟨⟨x1,x2⟩,hx3,hm⟩:=hm
 refine g_cn ⟨w0,M,(1000,go0,.cells #[Vs o0.fs,.bool o0.fbad] 89 (0,0))::H,R,φ⟩ (fun W h=>(ok_front (t:=1000) (t':=1000) h rfl)) Tryz.call69 rfl rfl (c_conf_reader_take p1 go0 o0 _ hx3) (fun _ _=>?_)
 refine g_sta _ (fun W h=>(ok_front (t:=1000) (t':=1000) h rfl)) ?_
 refine g_bytes rfl Tryz.underlying9 Tryz.underlying70 Tryz.underlying5 rfl (fun A5 c6 hc6 φ7 q7'=>?_)
 have q7 : ∀ W,φ7 W→φ W:=fun W h=>(q7' W h).1
 have f8:=fun (W : World) (h : φ7 W)=>(q7' W h).2
 refine g_v rfl (r_lenL Tryz.underlying70 rfl)<|g_v rfl r_move<|g_nil<|d_then ?_
 refine c_cut (ι:=Int) [0,5] (fun i26=>[(5,.int .u64 i26)]) (fun i26=>⟨w0,M,(1000,go0,.cells #[Vs x2.fs,.bool x2.fbad] 89 (0,0))::H,R,φ7⟩) (fun i26=>m_conf_reader_number_j1 x2 i26 = some r) ?_ (fun i26 u hm=>?_)
 ·
  refine c_block ?_
  replace hm:=bnd hm
  obtain ⟨out3,hl3,hr3⟩:=hm
  obtain ⟨n46',hl3⟩:=loop_lp hl3
  refine c_loopU (ι:=Nat×Int×Int) [0,5,11,12,13] (fun ⟨n46,i37,i38⟩=>[(5,.int .u64 i37),(13,Vi i38)]) (fun ⟨n46,i37,i38⟩=>⟨w0,M,(1000,go0,.cells #[Vs x2.fs,.bool x2.fbad] 89 (0,0))::H,R,φ7⟩) (fun ⟨n46,i37,i38⟩=>Lp (fun s=>m_conf_reader_number_s3 x1 s.1 s.2) n46 (i37,i38) out3) (fun ⟨n46,i37,i38⟩=>n46) (n46',0,0) hl3 ⟨rfl,rfl,rfl,rfl,rfl,trivial⟩ (fun W h=>h.phi (fun W hφ=>hφ)) (fun ⟨n46,i37,i38⟩ u hlp=>?_)
  obtain ⟨o3,hm,hnx3⟩:=lp_step hlp
  clear hlp
  replace hm : m_conf_reader_number_s3 x1 i37 i38 = some o3:=hm
  unfold m_conf_reader_number_s3 at hm
  refine c_flat [(0,Vp go0),(5,.int .u64 i37),(11,.slice A5 (bytesI x1).length c6),(12,Vi ((bytesI x1).length : Int)),(13,Vi i38)] ⟨rfl,rfl,rfl,rfl,rfl,trivial⟩ (fun u=>?_)
  refine c_sta ⟨w0,M,(1000,go0,.cells #[Vs x2.fs,.bool x2.fbad] 89 (0,0))::H,R,φ7⟩ (fun _ h=>h)<|c_seq<|c_region<|g_v rfl (r_lss rfl rfl)<|g_nil<|d_then<|c_seq ?_
  refine c_cond rfl (fun h47=>?_) (fun h47=>?_)
  ·
   replace hm:=ite_t hm (of_decide_eq_true h47)
   refine c_skip<|d_then<|c_seq<|c_block<|c_seq<|c_region ?_
   replace hm:=bnd hm
   obtain ⟨x48,hx48,hm⟩:=hm
   refine g_know _ (fun W hS=>cl_at (p:=φ7) (sz:=1) (fun _=>rfl) (by decide) hS.now f8 hx48) ?_
   rintro ⟨ad49,hA51,f50⟩
   refine g_v rfl (r_ix Tryz.underlying70 Tryz.sizeOf5 rfl hA51 rfl hx48)<|g_v rfl (r_ld rfl Tryz.isAgg5 (fun W hS=>Cl.head (f50 W hS.now)))<|g_v rfl r_assign<|g_nil<|d_then<|c_region<|g_v rfl r_move<|g_v rfl (r_shl (n:=256) rfl rfl (by decide) (by decide) (by decide))<|g_v rfl r_move<|g_v rfl (r_conv Tryz.underlying5 Tryz.underlying124 rfl rfl) ?_
   refine g_v rfl (r_bits_or rfl rfl)<|g_v rfl r_assign<|g_nil<|d_normal_block<|d_then ?_
   refine c_flat [(0,Vp go0),(5,.int .u64 (orI .u64 (IntKind.u64.wrap (i37 * 256)) (IntKind.u64.wrap x48))),(11,.slice A5 (bytesI x1).length c6),(12,Vi ((bytesI x1).length : Int)),(13,Vi i38)] ⟨rfl,rfl,rfl,rfl,rfl,trivial⟩ (fun u=>?_)
   refine c_region<|g_v rfl (r_add rfl rfl rfl)<|g_v rfl r_move<|g_nil ?_
   obtain ⟨n52,hn52,hlp⟩:=nx_inl hm hnx3
   exact d_round (n52,orI .u64 (IntKind.u64.wrap (i37 * 256)) (IntKind.u64.wrap x48),w64 (i38 + 1)) hlp hn52 ⟨rfl,rfl,rfl,rfl,rfl,trivial⟩ (fun W h=>h.phi (fun W hφ=>hφ))
  replace hm:=ite_f hm (of_decide_eq_false h47)
  refine c_exit<|d_exit_then<|d_exit_then<|d_exit_block ?_
  replace hm:=nx_out (C:=(fun e : Int=>m_conf_reader_number_j1 x2 e = some r)) hm hnx3 hr3
  exact d_round i37 hm Nat.zero_lt_one ⟨rfl,rfl,trivial⟩ (fun W h=>h.phi (fun W hφ=>hφ))
 unfold m_conf_reader_number_j1 at hm
 refine d_flat [(0,Vp go0),(5,.int .u64 i26)] ⟨rfl,rfl,trivial⟩ (fun u=>?_)
 refine d_sta ⟨w0,M,(1000,go0,.cells #[Vs x2.fs,.bool x2.fbad] 89 (0,0))::H,R,φ7⟩ (fun _ h=>h)<|d_then<|c_seq ?_
 refine c_cut (ι:=Bool) [5] (fun b28=>[]) (fun b28=>⟨w0,M,(1000,go0,.cells #[Vs x2.fs,.bool b28] 89 (0,0))::H,R,φ7⟩) (fun b28=>m_conf_reader_number_j2 i26 x2 b28 = some r) ?_ (fun b28 u hm=>?_)
 ·
  refine c_region<|g_v rfl r_move<|g_v rfl r_move<|g_v rfl (r_nilck rfl)<|g_v rfl (r_field (n:=1) Tryz.underlying89 rfl Tryz.sizeOf4 rfl rfl)<|g_v rfl (r_load (tag:=1000) rfl rfl rfl Tryz.isAgg4)<|g_v rfl r_move ?_
  refine g_if rfl rfl rfl rfl rfl (fun h29=>?_) (fun h29=>?_)
  ·
   replace hm:=ite_f hm (bool_nt h29)
   refine g_v rfl r_move<|g_do rfl rfl rfl rfl rfl h29<|g_v rfl (r_gtr rfl rfl)<|g_v rfl (r_pick0 rfl h29)<|g_v rfl (r_nilck rfl)<|g_v rfl (r_field (n:=1) Tryz.underlying89 rfl Tryz.sizeOf4 rfl rfl)<|g_storeL (tag:=1000) rfl rfl rfl rfl Tryz.sizeOf4 rfl rfl<|g_nil ?_
   exact d_round (decide (4611686018427387904 < i26)) hm Nat.zero_lt_one ⟨rfl,trivial⟩ (fun W h=>h.phi (fun W hφ=>hφ))
  replace hm:=ite_t hm h29
  refine g_no rfl rfl rfl rfl rfl h29<|g_v rfl (r_pick1 rfl h29)<|g_v rfl (r_nilck rfl)<|g_v rfl (r_field (n:=1) Tryz.underlying89 rfl Tryz.sizeOf4 rfl rfl)<|g_storeL (tag:=1000) rfl rfl rfl rfl Tryz.sizeOf4 rfl rfl<|g_nil ?_
  exact d_round true hm Nat.zero_lt_one ⟨rfl,trivial⟩ (fun W h=>h.phi (fun W hφ=>hφ))
 unfold m_conf_reader_number_j2 at hm
 refine d_flat [(5,.int .u64 i26)] ⟨rfl,trivial⟩ (fun u=>?_)
 refine d_sta ⟨w0,M,(1000,go0,.cells #[Vs x2.fs,.bool b28] 89 (0,0))::H,R,φ7⟩ (fun _ h=>h)<|d_then<|c_seq<|c_region<|g_v rfl r_move<|g_v rfl (r_min rfl rfl)<|g_v rfl (r_conv Tryz.underlying124 Tryz.underlying3 rfl rfl)<|g_v rfl r_assign<|g_nil<|d_then ?_
 refine c_ret ?_
 cases hm
 exact d_retC () Tryz.results66 (res_tmp (res_nil rfl)) trivial (fun W h=>h.phi (fun W hφ=>(q7 _ hφ))) (.inr rfl)
noncomputable def m_conf_Load_c1 (o1 : Gconf_reader) : Option (Int×Gconf_reader):=
  (m_conf_reader_number 1 o1).bind fun (z4 : Int×Gconf_reader)=>
  some (z4.1,z4.2)
theorem c_conf_Load_c1 {w0 : World} {M : Nat→Prop} {H : List (Nat×Nat×Obj)} {R : List (Nat×Row)} {φ : World→Prop} (go0 : Nat) (go1 : Nat) (o1 : Gconf_reader) (r : Int×Gconf_reader) (hm : m_conf_Load_c1 o1 = some r) :
    Cn Tryz.prog 65 #[Vp go0] ⟨w0,M,(1000,go0,.cells #[Vp go1] 87 (0,0))::(1001,go1,.cells #[Vs o1.fs,.bool o1.fbad] 89 (0,0))::H,R,φ⟩ (fun x : Unit=>Vi r.1) (fun x=>True) (fun x=>⟨w0,M,(1000,go0,.cells #[Vp go1] 87 (0,0))::(1001,go1,.cells #[Vs r.2.fs,.bool r.2.fbad] 89 (0,0))::H,R,φ⟩):=by
 unfold m_conf_Load_c1 at hm
 refine cn_intro (fn:=Tryz.f65) (N:=4) Tryz.func65 rfl Tryz.ntmps65 rfl<|c_seq<|c_region<|g_v rfl r_assign<|g_nil<|d_then<|c_seq<|c_region<|g_v rfl (r_load (tag:=1000) rfl rfl rfl Tryz.isAgg87) ?_
 replace hm:=bnd hm
 obtain ⟨⟨x1,x2⟩,hx3,hm⟩:=hm
 refine g_cn ⟨w0,M,(1000,go1,.cells #[Vs o1.fs,.bool o1.fbad] 89 (0,0))::(1000,go0,.cells #[Vp go1] 87 (0,0))::H,R,φ⟩ (fun W h=>(ok_front (t:=1001) (t':=1000) h rfl)) Tryz.call66 rfl rfl (c_conf_reader_number 1 go1 o1 _ hx3) (fun _ _=>?_)
 refine g_sta _ (fun W h=>(ok_front (t:=1000) (t':=1001) h rfl))<|g_v rfl r_assign<|g_nil<|d_then<|c_ret ?_
 cases hm
 exact d_retC () Tryz.results65 (res_tmp (res_nil rfl)) trivial (fun W h=>(ok_front (t:=1000) (t':=1000) (ok_front (t:=1001) (t':=1001) h rfl) rfl).phi (fun W hφ=>hφ)) (.inr rfl)
noncomputable def m_conf_list_64_j1  (l93 : List Int) (s96 : ByteArray) (b97 : Bool) : Option ((List Int)×Gconf_reader):=
  some (l93,(⟨s96,b97⟩ : Gconf_reader))
noncomputable def m_conf_list_64_s2 (x1 : Int) (l114 : List Int) (i117 : Int) (s118 : ByteArray) (b119 : Bool) : Option (((List Int)×Int×ByteArray×Bool) ⊕ (((List Int)×ByteArray×Bool) ⊕ ((List Int)×Gconf_reader))):=
  if i117 < x1 then
    if b119 = true then
      some (.inr (.inr (([] : List Int),(⟨s118,b119⟩ : Gconf_reader))))
    else
      (m_conf_Load_c1 (⟨s118,b119⟩ : Gconf_reader)).bind fun (z142 : Int×Gconf_reader)=>
      (app 8 l114 [z142.1]).bind fun l144=>
      some (.inl (l144,w64 (i117 + 1),z142.2.fs,z142.2.fbad))
  else
    some (.inr (.inl (l114,s118,b119)))
noncomputable def m_conf_list_64 (o0 : Gconf_reader) : Option ((List Int)×Gconf_reader):=
  (m_conf_reader_number 1 o0).bind fun (z4 : Int×Gconf_reader)=>
  (loop (fun s=>m_conf_list_64_s2 z4.1 s.1 s.2.1 s.2.2.1 s.2.2.2) (([] : List Int),0,z4.2.fs,z4.2.fbad)).bind fun e=>Sum.elim (fun e=>m_conf_list_64_j1 e.1 e.2.1 e.2.2) (fun x=>some x) e
theorem c_conf_list_64 {w0 : World} {M : Nat→Prop} {H : List (Nat×Nat×Obj)} {R : List (Nat×Row)} {φ : World→Prop} (go0 : Nat) (o0 : Gconf_reader) (go1 : Nat) (r : (List Int)×Gconf_reader) (hm : m_conf_list_64 o0 = some r) :
    Cn Tryz.prog 64 #[Vp go0,.func (.func 65) #[] #[Vp go1]] ⟨w0,M,(1000,go0,.cells #[Vs o0.fs,.bool o0.fbad] 89 (0,0))::(1001,go1,.cells #[Vp go0] 87 (0,0))::H,R,φ⟩ (fun x : Option Addr×Nat=>.slice x.1 r.1.length x.2) (fun x=>r.1.length ≤ x.2) (fun x=>⟨w0,M,(1000,go0,.cells #[Vs r.2.fs,.bool r.2.fbad] 89 (0,0))::(1001,go1,.cells #[Vp go0] 87 (0,0))::H,(2000,⟨.slice x.1 r.1.length x.2,3,1,r.1.length,r.1.flatMap (fun x : Int=>[Value.int .i64 x])⟩)::R,φ⟩):=by
 unfold m_conf_list_64 at hm
 refine cn_intro (fn:=Tryz.f64) (N:=21) Tryz.func64 rfl Tryz.ntmps64 rfl<|c_seq<|c_region<|g_v rfl r_assign<|g_nil<|d_then<|c_seq<|c_region<|g_v rfl r_assign<|g_nil ?_
 refine d_then<|c_seq<|c_seq<|c_region<|g_v rfl r_move ?_
 replace hm:=bnd hm
 obtain ⟨⟨x1,x2⟩,hx3,hm⟩:=hm
 refine g_cn ⟨w0,M,(1000,go0,.cells #[Vs o0.fs,.bool o0.fbad] 89 (0,0))::(1001,go1,.cells #[Vp go0] 87 (0,0))::H,R,φ⟩ (fun W h=>(ok_front (t:=1000) (t':=1000) h rfl)) Tryz.call66 rfl rfl (c_conf_reader_number 1 go0 o0 _ hx3) (fun _ _=>?_)
 refine g_sta _ (fun W h=>(ok_front (t:=1000) (t':=1000) h rfl))<|g_v rfl r_move<|g_nil<|d_then<|c_sta _ (fun W h=>nilR h 16 3 1) ?_
 refine c_cut (ι:=(List Int)×ByteArray×Bool×Option Addr×Nat) [5] (fun ⟨l93,s96,b97,A94,c95⟩=>[(5,.slice A94 l93.length c95)]) (fun ⟨l93,s96,b97,A94,c95⟩=>⟨w0,M,(1000,go0,.cells #[Vs s96,.bool b97] 89 (0,0))::(1001,go1,.cells #[Vp go0] 87 (0,0))::H,(16,⟨.slice A94 l93.length c95,3,1,l93.length,l93.flatMap (fun x : Int=>[Value.int .i64 x])⟩)::R,φ⟩) (fun ⟨l93,s96,b97,A94,c95⟩=>m_conf_list_64_j1 l93 s96 b97 = some r∧l93.length ≤ c95) ?_ (fun ⟨l93,s96,b97,A94,c95⟩ u ⟨hm,hc95⟩=>?_)
 ·
  refine c_block ?_
  replace hm:=bnd hm
  obtain ⟨out2,hl2,hr2⟩:=hm
  obtain ⟨n136',hl2⟩:=loop_lp hl2
  refine c_loopU (ι:=Nat×(List Int)×Int×ByteArray×Bool×Option Addr×Nat) [0,1,5,7,8] (fun ⟨n136,l114,i117,s118,b119,A115,c116⟩=>[(5,.slice A115 l114.length c116),(8,Vi i117)]) (fun ⟨n136,l114,i117,s118,b119,A115,c116⟩=>⟨w0,M,(1000,go0,.cells #[Vs s118,.bool b119] 89 (0,0))::(1001,go1,.cells #[Vp go0] 87 (0,0))::H,(16,⟨.slice A115 l114.length c116,3,1,l114.length,l114.flatMap (fun x : Int=>[Value.int .i64 x])⟩)::R,φ⟩) (fun ⟨n136,l114,i117,s118,b119,A115,c116⟩=>Lp (fun s=>m_conf_list_64_s2 x1 s.1 s.2.1 s.2.2.1 s.2.2.2) n136 (l114,i117,s118,b119) out2∧l114.length ≤ c116) (fun ⟨n136,l114,i117,s118,b119,A115,c116⟩=>n136) (n136',([] : List Int),0,x2.fs,x2.fbad,none,0) ⟨hl2,(Nat.le_refl 0)⟩ ⟨rfl,rfl,rfl,rfl,rfl,trivial⟩ (fun W h=>h.phi (fun W hφ=>hφ)) (fun ⟨n136,l114,i117,s118,b119,A115,c116⟩ u ⟨hlp,hc116⟩=>?_)
  obtain ⟨o2,hm,hnx2⟩:=lp_step hlp
  clear hlp
  replace hm : m_conf_list_64_s2 x1 l114 i117 s118 b119 = some o2:=hm
  unfold m_conf_list_64_s2 at hm
  refine c_flat [(0,Vp go0),(1,.func (.func 65) #[] #[Vp go1]),(5,.slice A115 l114.length c116),(7,Vi x1),(8,Vi i117)] ⟨rfl,rfl,rfl,rfl,rfl,trivial⟩ (fun u=>?_)
  refine c_sta ⟨w0,M,(1000,go0,.cells #[Vs s118,.bool b119] 89 (0,0))::(1001,go1,.cells #[Vp go0] 87 (0,0))::H,(16,⟨.slice A115 l114.length c116,3,1,l114.length,l114.flatMap (fun x : Int=>[Value.int .i64 x])⟩)::R,φ⟩ (fun _ h=>h)<|c_seq<|c_region<|g_v rfl (r_lss rfl rfl)<|g_nil<|d_then<|c_seq ?_
  refine c_cond rfl (fun h137=>?_) (fun h137=>?_)
  ·
   replace hm:=ite_t hm (of_decide_eq_true h137)
   refine c_skip<|d_then<|c_seq<|c_block<|c_seq<|c_seq<|c_region<|g_v rfl r_move<|g_v rfl (r_nilck rfl)<|g_v rfl (r_field (n:=1) Tryz.underlying89 rfl Tryz.sizeOf4 rfl rfl) ?_
   refine g_v rfl (r_load (tag:=1000) rfl rfl rfl Tryz.isAgg4)<|g_nil<|d_then ?_
   refine c_cond rfl (fun h138=>?_) (fun h138=>?_)
   ·
    replace hm:=ite_t hm h138
    refine c_seq<|c_region<|g_v rfl r_assign<|g_nil<|d_then<|c_ret<|d_ret_then<|d_ret_block<|d_ret_then<|d_ret_then ?_
    refine d_ret_block<|d_ret_then<|d_ret_then ?_
    replace hm:=nx_out (C:=(fun e : ((List Int)×ByteArray×Bool) ⊕ ((List Int)×Gconf_reader)=>Sum.elim (fun e=>m_conf_list_64_j1 e.1 e.2.1 e.2.2) (fun x=>some x) e = some r)) hm hnx2 hr2
    replace hm : some (([] : List Int),(⟨s118,b119⟩ : Gconf_reader)) = some r:=hm
    cases hm
    refine d_sta _ (fun W h=>nilR h 21 3 1)<|d_sta _ (fun W h=>ok_frontR (t:=21) (t':=2000) h rfl) ?_
    exact d_retC (none,0) Tryz.results64 (res_tmp (res_nil rfl)) (Nat.le_refl 0) (fun W h=>(h.dropR (t:=16) rfl).phi (fun W hφ=>hφ)) (.inr rfl)
   replace hm:=ite_f hm (bool_nt h138)
   refine c_skip<|d_then<|c_region<|g_v rfl r_move<|g_v rfl r_move ?_
   replace hm:=bnd hm
   obtain ⟨⟨x139,x140⟩,hx141,hm⟩:=hm
   refine g_cnv ⟨w0,M,(1000,go1,.cells #[Vp go0] 87 (0,0))::(1001,go0,.cells #[Vs s118,.bool b119] 89 (0,0))::H,(16,⟨.slice A115 l114.length c116,3,1,l114.length,l114.flatMap (fun x : Int=>[Value.int .i64 x])⟩)::R,φ⟩ (fun W h=>(ok_front (t:=9001) (t':=1000) (ok_front (t:=9000) (t':=1001) (ok_front (t:=1001) (t':=9001) (ok_front (t:=1000) (t':=9000) h rfl) rfl) rfl) rfl)) Tryz.call65 rfl rfl rfl (c_conf_Load_c1 go1 go0 (⟨s118,b119⟩ : Gconf_reader) _ hx141) (fun _ _=>?_)
   refine g_sta _ (fun W h=>(ok_front (t:=9001) (t':=1001) (ok_front (t:=9000) (t':=1000) (ok_front (t:=1000) (t':=9001) (ok_front (t:=1001) (t':=9000) h rfl) rfl) rfl) rfl)) ?_
   refine g_e rfl (e_lit (tag:=100170) (l:=[x139]) (enc:=(fun x : Int=>[Value.int .i64 x])) (sz:=1) rfl Tryz.underlying25 (lit3_18 _) rfl rfl (fun _=>rfl)) (fun g143 _=>?_)
   replace hm:=bnd hm
   obtain ⟨l144,hl144,hm⟩:=hm
   refine g_e rfl (e_appR (enc:=(fun x : Int=>[Value.int .i64 x])) (l:=l114) (l1:=[x139]) (l2:=l144) (tag:=16) Tryz.underlying25 inf3_11 rfl (by decide) (by decide) (fun _=>rfl) (fun _=>rfl) rfl hc116 rfl rfl (fun W hS=>rowCl (tag:=100170) rfl W hS) hl144) (fun ⟨A145,c146⟩ hc146=>?_)
   refine g_v rfl r_assign<|g_nil<|d_normal_block<|d_then ?_
   refine c_flat [(0,Vp go0),(1,.func (.func 65) #[] #[Vp go1]),(5,.slice A145 l144.length c146),(7,Vi x1),(8,Vi i117)] ⟨rfl,rfl,rfl,rfl,rfl,trivial⟩ (fun u=>?_)
   refine c_sta ⟨w0,M,(1001,go1,.cells #[Vp go0] 87 (0,0))::(1000,go0,.cells #[Vs x140.fs,.bool x140.fbad] 89 (0,0))::H,(100170,⟨.slice (some ⟨g143,0,none⟩) [x139].length 1,3,1,[x139].length,[x139].flatMap (fun x : Int=>[Value.int .i64 x])⟩)::(16,⟨.slice A145 l144.length c146,3,1,l144.length,l144.flatMap (fun x : Int=>[Value.int .i64 x])⟩)::R,φ⟩ (fun _ h=>h)<|c_region<|g_v rfl (r_add rfl rfl rfl)<|g_v rfl r_move<|g_nil ?_
   obtain ⟨n147,hn147,hlp⟩:=nx_inl hm hnx2
   exact d_round (n147,l144,w64 (i117 + 1),x140.fs,x140.fbad,A145,c146) ⟨hlp,hc146⟩ hn147 ⟨rfl,rfl,rfl,rfl,rfl,trivial⟩ (fun W h=>(ok_front (t:=1000) (t':=1000) (ok_front (t:=1001) (t':=1001) (h.dropR (t:=100170) rfl) rfl) rfl).phi (fun W hφ=>hφ))
  replace hm:=ite_f hm (of_decide_eq_false h137)
  refine c_exit<|d_exit_then<|d_exit_then<|d_exit_block ?_
  replace hm:=nx_out (C:=(fun e : ((List Int)×ByteArray×Bool) ⊕ ((List Int)×Gconf_reader)=>Sum.elim (fun e=>m_conf_list_64_j1 e.1 e.2.1 e.2.2) (fun x=>some x) e = some r)) hm hnx2 hr2
  exact d_round (l114,s118,b119,A115,c116) ⟨hm,hc116⟩ Nat.zero_lt_one ⟨rfl,trivial⟩ (fun W h=>h.phi (fun W hφ=>hφ))
 unfold m_conf_list_64_j1 at hm
 refine d_flat [(5,.slice A94 l93.length c95)] ⟨rfl,trivial⟩ (fun u=>?_)
 refine d_sta ⟨w0,M,(1000,go0,.cells #[Vs s96,.bool b97] 89 (0,0))::(1001,go1,.cells #[Vp go0] 87 (0,0))::H,(16,⟨.slice A94 l93.length c95,3,1,l93.length,l93.flatMap (fun x : Int=>[Value.int .i64 x])⟩)::R,φ⟩ (fun _ h=>h)<|d_then<|c_seq<|c_region<|g_v rfl r_move<|g_v rfl r_assign<|g_nil<|d_then<|c_ret ?_
 cases hm
 refine d_sta _ (fun W h=>ok_frontR (t:=16) (t':=2000) h rfl) ?_
 exact d_retC (A94,c95) Tryz.results64 (res_tmp (res_nil rfl)) hc95 (fun W h=>h.phi (fun W hφ=>hφ)) (.inr rfl)
noncomputable def m_conf_Load_c2 (o1 : Gconf_reader) : Option (ByteArray×Gconf_reader):=
  (m_conf_reader_take 4 o1).bind fun (z4 : ByteArray×Gconf_reader)=>
  some (z4.1,z4.2)
theorem c_conf_Load_c2 {w0 : World} {M : Nat→Prop} {H : List (Nat×Nat×Obj)} {R : List (Nat×Row)} {φ : World→Prop} (go0 : Nat) (go1 : Nat) (o1 : Gconf_reader) (r : ByteArray×Gconf_reader) (hm : m_conf_Load_c2 o1 = some r) :
    Cn Tryz.prog 68 #[Vp go0] ⟨w0,M,(1000,go0,.cells #[Vp go1] 87 (0,0))::(1001,go1,.cells #[Vs o1.fs,.bool o1.fbad] 89 (0,0))::H,R,φ⟩ (fun x : Unit=>Vs r.1) (fun x=>True) (fun x=>⟨w0,M,(1000,go0,.cells #[Vp go1] 87 (0,0))::(1001,go1,.cells #[Vs r.2.fs,.bool r.2.fbad] 89 (0,0))::H,R,φ⟩):=by
 unfold m_conf_Load_c2 at hm
 refine cn_intro (fn:=Tryz.f68) (N:=4) Tryz.func68 rfl Tryz.ntmps68 rfl<|c_seq<|c_region<|g_v rfl r_assign<|g_nil<|d_then<|c_seq<|c_region<|g_v rfl (r_load (tag:=1000) rfl rfl rfl Tryz.isAgg87) ?_
 replace hm:=bnd hm
 obtain ⟨⟨x1,x2⟩,hx3,hm⟩:=hm
 refine g_cn ⟨w0,M,(1000,go1,.cells #[Vs o1.fs,.bool o1.fbad] 89 (0,0))::(1000,go0,.cells #[Vp go1] 87 (0,0))::H,R,φ⟩ (fun W h=>(ok_front (t:=1001) (t':=1000) h rfl)) Tryz.call69 rfl rfl (c_conf_reader_take 4 go1 o1 _ hx3) (fun _ _=>?_)
 refine g_sta _ (fun W h=>(ok_front (t:=1000) (t':=1001) h rfl))<|g_v rfl r_assign<|g_nil<|d_then<|c_ret ?_
 cases hm
 exact d_retC () Tryz.results68 (res_tmp (res_nil rfl)) trivial (fun W h=>(ok_front (t:=1000) (t':=1000) (ok_front (t:=1001) (t':=1001) h rfl) rfl).phi (fun W hφ=>hφ)) (.inr rfl)
noncomputable def m_conf_list_67_j1  (l93 : List ByteArray) (s96 : ByteArray) (b97 : Bool) : Option ((List ByteArray)×Gconf_reader):=
  some (l93,(⟨s96,b97⟩ : Gconf_reader))
noncomputable def m_conf_list_67_s2 (x1 : Int) (l114 : List ByteArray) (i117 : Int) (s118 : ByteArray) (b119 : Bool) : Option (((List ByteArray)×Int×ByteArray×Bool) ⊕ (((List ByteArray)×ByteArray×Bool) ⊕ ((List ByteArray)×Gconf_reader))):=
  if i117 < x1 then
    if b119 = true then
      some (.inr (.inr (([] : List ByteArray),(⟨s118,b119⟩ : Gconf_reader))))
    else
      (m_conf_Load_c2 (⟨s118,b119⟩ : Gconf_reader)).bind fun (z142 : ByteArray×Gconf_reader)=>
      (app 16 l114 [z142.1]).bind fun l144=>
      some (.inl (l144,w64 (i117 + 1),z142.2.fs,z142.2.fbad))
  else
    some (.inr (.inl (l114,s118,b119)))
noncomputable def m_conf_list_67 (o0 : Gconf_reader) : Option ((List ByteArray)×Gconf_reader):=
  (m_conf_reader_number 1 o0).bind fun (z4 : Int×Gconf_reader)=>
  (loop (fun s=>m_conf_list_67_s2 z4.1 s.1 s.2.1 s.2.2.1 s.2.2.2) (([] : List ByteArray),0,z4.2.fs,z4.2.fbad)).bind fun e=>Sum.elim (fun e=>m_conf_list_67_j1 e.1 e.2.1 e.2.2) (fun x=>some x) e
theorem c_conf_list_67 {w0 : World} {M : Nat→Prop} {H : List (Nat×Nat×Obj)} {R : List (Nat×Row)} {φ : World→Prop} (go0 : Nat) (o0 : Gconf_reader) (go1 : Nat) (r : (List ByteArray)×Gconf_reader) (hm : m_conf_list_67 o0 = some r) :
    Cn Tryz.prog 67 #[Vp go0,.func (.func 68) #[] #[Vp go1]] ⟨w0,M,(1000,go0,.cells #[Vs o0.fs,.bool o0.fbad] 89 (0,0))::(1001,go1,.cells #[Vp go0] 87 (0,0))::H,R,φ⟩ (fun x : Option Addr×Nat=>.slice x.1 r.1.length x.2) (fun x=>r.1.length ≤ x.2) (fun x=>⟨w0,M,(1000,go0,.cells #[Vs r.2.fs,.bool r.2.fbad] 89 (0,0))::(1001,go1,.cells #[Vp go0] 87 (0,0))::H,(2000,⟨.slice x.1 r.1.length x.2,9,1,r.1.length,r.1.flatMap (fun x : ByteArray=>[Value.string x])⟩)::R,φ⟩):=by
 unfold m_conf_list_67 at hm
 refine cn_intro (fn:=Tryz.f67) (N:=21) Tryz.func67 rfl Tryz.ntmps67 rfl<|c_seq<|c_region<|g_v rfl r_assign<|g_nil<|d_then<|c_seq<|c_region<|g_v rfl r_assign<|g_nil ?_
 refine d_then<|c_seq<|c_seq<|c_region<|g_v rfl r_move ?_
 replace hm:=bnd hm
 obtain ⟨⟨x1,x2⟩,hx3,hm⟩:=hm
 refine g_cn ⟨w0,M,(1000,go0,.cells #[Vs o0.fs,.bool o0.fbad] 89 (0,0))::(1001,go1,.cells #[Vp go0] 87 (0,0))::H,R,φ⟩ (fun W h=>(ok_front (t:=1000) (t':=1000) h rfl)) Tryz.call66 rfl rfl (c_conf_reader_number 1 go0 o0 _ hx3) (fun _ _=>?_)
 refine g_sta _ (fun W h=>(ok_front (t:=1000) (t':=1000) h rfl))<|g_v rfl r_move<|g_nil<|d_then<|c_sta _ (fun W h=>nilR h 16 9 1) ?_
 refine c_cut (ι:=(List ByteArray)×ByteArray×Bool×Option Addr×Nat) [5] (fun ⟨l93,s96,b97,A94,c95⟩=>[(5,.slice A94 l93.length c95)]) (fun ⟨l93,s96,b97,A94,c95⟩=>⟨w0,M,(1000,go0,.cells #[Vs s96,.bool b97] 89 (0,0))::(1001,go1,.cells #[Vp go0] 87 (0,0))::H,(16,⟨.slice A94 l93.length c95,9,1,l93.length,l93.flatMap (fun x : ByteArray=>[Value.string x])⟩)::R,φ⟩) (fun ⟨l93,s96,b97,A94,c95⟩=>m_conf_list_67_j1 l93 s96 b97 = some r∧l93.length ≤ c95) ?_ (fun ⟨l93,s96,b97,A94,c95⟩ u ⟨hm,hc95⟩=>?_)
 ·
  refine c_block ?_
  replace hm:=bnd hm
  obtain ⟨out2,hl2,hr2⟩:=hm
  obtain ⟨n136',hl2⟩:=loop_lp hl2
  refine c_loopU (ι:=Nat×(List ByteArray)×Int×ByteArray×Bool×Option Addr×Nat) [0,1,5,7,8] (fun ⟨n136,l114,i117,s118,b119,A115,c116⟩=>[(5,.slice A115 l114.length c116),(8,Vi i117)]) (fun ⟨n136,l114,i117,s118,b119,A115,c116⟩=>⟨w0,M,(1000,go0,.cells #[Vs s118,.bool b119] 89 (0,0))::(1001,go1,.cells #[Vp go0] 87 (0,0))::H,(16,⟨.slice A115 l114.length c116,9,1,l114.length,l114.flatMap (fun x : ByteArray=>[Value.string x])⟩)::R,φ⟩) (fun ⟨n136,l114,i117,s118,b119,A115,c116⟩=>Lp (fun s=>m_conf_list_67_s2 x1 s.1 s.2.1 s.2.2.1 s.2.2.2) n136 (l114,i117,s118,b119) out2∧l114.length ≤ c116) (fun ⟨n136,l114,i117,s118,b119,A115,c116⟩=>n136) (n136',([] : List ByteArray),0,x2.fs,x2.fbad,none,0) ⟨hl2,(Nat.le_refl 0)⟩ ⟨rfl,rfl,rfl,rfl,rfl,trivial⟩ (fun W h=>h.phi (fun W hφ=>hφ)) (fun ⟨n136,l114,i117,s118,b119,A115,c116⟩ u ⟨hlp,hc116⟩=>?_)
  obtain ⟨o2,hm,hnx2⟩:=lp_step hlp
  clear hlp
  replace hm : m_conf_list_67_s2 x1 l114 i117 s118 b119 = some o2:=hm
  unfold m_conf_list_67_s2 at hm
  refine c_flat [(0,Vp go0),(1,.func (.func 68) #[] #[Vp go1]),(5,.slice A115 l114.length c116),(7,Vi x1),(8,Vi i117)] ⟨rfl,rfl,rfl,rfl,rfl,trivial⟩ (fun u=>?_)
  refine c_sta ⟨w0,M,(1000,go0,.cells #[Vs s118,.bool b119] 89 (0,0))::(1001,go1,.cells #[Vp go0] 87 (0,0))::H,(16,⟨.slice A115 l114.length c116,9,1,l114.length,l114.flatMap (fun x : ByteArray=>[Value.string x])⟩)::R,φ⟩ (fun _ h=>h)<|c_seq<|c_region<|g_v rfl (r_lss rfl rfl)<|g_nil<|d_then<|c_seq ?_
  refine c_cond rfl (fun h137=>?_) (fun h137=>?_)
  ·
   replace hm:=ite_t hm (of_decide_eq_true h137)
   refine c_skip<|d_then<|c_seq<|c_block<|c_seq<|c_seq<|c_region<|g_v rfl r_move<|g_v rfl (r_nilck rfl)<|g_v rfl (r_field (n:=1) Tryz.underlying89 rfl Tryz.sizeOf4 rfl rfl) ?_
   refine g_v rfl (r_load (tag:=1000) rfl rfl rfl Tryz.isAgg4)<|g_nil<|d_then ?_
   refine c_cond rfl (fun h138=>?_) (fun h138=>?_)
   ·
    replace hm:=ite_t hm h138
    refine c_seq<|c_region<|g_v rfl r_assign<|g_nil<|d_then<|c_ret<|d_ret_then<|d_ret_block<|d_ret_then<|d_ret_then ?_
    refine d_ret_block<|d_ret_then<|d_ret_then ?_
    replace hm:=nx_out (C:=(fun e : ((List ByteArray)×ByteArray×Bool) ⊕ ((List ByteArray)×Gconf_reader)=>Sum.elim (fun e=>m_conf_list_67_j1 e.1 e.2.1 e.2.2) (fun x=>some x) e = some r)) hm hnx2 hr2
    replace hm : some (([] : List ByteArray),(⟨s118,b119⟩ : Gconf_reader)) = some r:=hm
    cases hm
    refine d_sta _ (fun W h=>nilR h 21 9 1)<|d_sta _ (fun W h=>ok_frontR (t:=21) (t':=2000) h rfl) ?_
    exact d_retC (none,0) Tryz.results67 (res_tmp (res_nil rfl)) (Nat.le_refl 0) (fun W h=>(h.dropR (t:=16) rfl).phi (fun W hφ=>hφ)) (.inr rfl)
   replace hm:=ite_f hm (bool_nt h138)
   refine c_skip<|d_then<|c_region<|g_v rfl r_move<|g_v rfl r_move ?_
   replace hm:=bnd hm
   obtain ⟨⟨x139,x140⟩,hx141,hm⟩:=hm
   refine g_cnv ⟨w0,M,(1000,go1,.cells #[Vp go0] 87 (0,0))::(1001,go0,.cells #[Vs s118,.bool b119] 89 (0,0))::H,(16,⟨.slice A115 l114.length c116,9,1,l114.length,l114.flatMap (fun x : ByteArray=>[Value.string x])⟩)::R,φ⟩ (fun W h=>(ok_front (t:=9001) (t':=1000) (ok_front (t:=9000) (t':=1001) (ok_front (t:=1001) (t':=9001) (ok_front (t:=1000) (t':=9000) h rfl) rfl) rfl) rfl)) Tryz.call68 rfl rfl rfl (c_conf_Load_c2 go1 go0 (⟨s118,b119⟩ : Gconf_reader) _ hx141) (fun _ _=>?_)
   refine g_sta _ (fun W h=>(ok_front (t:=9001) (t':=1001) (ok_front (t:=9000) (t':=1000) (ok_front (t:=1000) (t':=9001) (ok_front (t:=1001) (t':=9000) h rfl) rfl) rfl) rfl)) ?_
   refine g_e rfl (e_lit (tag:=100170) (l:=[x139]) (enc:=(fun x : ByteArray=>[Value.string x])) (sz:=1) rfl Tryz.underlying26 (lit9_2 _) rfl rfl (fun _=>rfl)) (fun g143 _=>?_)
   replace hm:=bnd hm
   obtain ⟨l144,hl144,hm⟩:=hm
   refine g_e rfl (e_appR (enc:=(fun x : ByteArray=>[Value.string x])) (l:=l114) (l1:=[x139]) (l2:=l144) (tag:=16) Tryz.underlying26 inf9_3 rfl (by decide) (by decide) (fun _=>rfl) (fun _=>rfl) rfl hc116 rfl rfl (fun W hS=>rowCl (tag:=100170) rfl W hS) hl144) (fun ⟨A145,c146⟩ hc146=>?_)
   refine g_v rfl r_assign<|g_nil<|d_normal_block<|d_then ?_
   refine c_flat [(0,Vp go0),(1,.func (.func 68) #[] #[Vp go1]),(5,.slice A145 l144.length c146),(7,Vi x1),(8,Vi i117)] ⟨rfl,rfl,rfl,rfl,rfl,trivial⟩ (fun u=>?_)
   refine c_sta ⟨w0,M,(1001,go1,.cells #[Vp go0] 87 (0,0))::(1000,go0,.cells #[Vs x140.fs,.bool x140.fbad] 89 (0,0))::H,(100170,⟨.slice (some ⟨g143,0,none⟩) [x139].length 1,9,1,[x139].length,[x139].flatMap (fun x : ByteArray=>[Value.string x])⟩)::(16,⟨.slice A145 l144.length c146,9,1,l144.length,l144.flatMap (fun x : ByteArray=>[Value.string x])⟩)::R,φ⟩ (fun _ h=>h)<|c_region<|g_v rfl (r_add rfl rfl rfl)<|g_v rfl r_move<|g_nil ?_
   obtain ⟨n147,hn147,hlp⟩:=nx_inl hm hnx2
   exact d_round (n147,l144,w64 (i117 + 1),x140.fs,x140.fbad,A145,c146) ⟨hlp,hc146⟩ hn147 ⟨rfl,rfl,rfl,rfl,rfl,trivial⟩ (fun W h=>(ok_front (t:=1000) (t':=1000) (ok_front (t:=1001) (t':=1001) (h.dropR (t:=100170) rfl) rfl) rfl).phi (fun W hφ=>hφ))
  replace hm:=ite_f hm (of_decide_eq_false h137)
  refine c_exit<|d_exit_then<|d_exit_then<|d_exit_block ?_
  replace hm:=nx_out (C:=(fun e : ((List ByteArray)×ByteArray×Bool) ⊕ ((List ByteArray)×Gconf_reader)=>Sum.elim (fun e=>m_conf_list_67_j1 e.1 e.2.1 e.2.2) (fun x=>some x) e = some r)) hm hnx2 hr2
  exact d_round (l114,s118,b119,A115,c116) ⟨hm,hc116⟩ Nat.zero_lt_one ⟨rfl,trivial⟩ (fun W h=>h.phi (fun W hφ=>hφ))
 unfold m_conf_list_67_j1 at hm
 refine d_flat [(5,.slice A94 l93.length c95)] ⟨rfl,trivial⟩ (fun u=>?_)
 refine d_sta ⟨w0,M,(1000,go0,.cells #[Vs s96,.bool b97] 89 (0,0))::(1001,go1,.cells #[Vp go0] 87 (0,0))::H,(16,⟨.slice A94 l93.length c95,9,1,l93.length,l93.flatMap (fun x : ByteArray=>[Value.string x])⟩)::R,φ⟩ (fun _ h=>h)<|d_then<|c_seq<|c_region<|g_v rfl r_move<|g_v rfl r_assign<|g_nil<|d_then<|c_ret ?_
 cases hm
 refine d_sta _ (fun W h=>ok_frontR (t:=16) (t':=2000) h rfl) ?_
 exact d_retC (A94,c95) Tryz.results67 (res_tmp (res_nil rfl)) hc95 (fun W h=>h.phi (fun W hφ=>hφ)) (.inr rfl)
noncomputable def m_conf_reader_name_j2 (x14 : ByteArray) (x15 : Gconf_reader) (b21 : Bool) : Option (ByteArray×Gconf_reader):=
  some (x14,(⟨x15.fs,b21⟩ : Gconf_reader))
noncomputable def m_conf_reader_name_j1 (o0 : Gconf_reader) (i13 : Int) : Option (ByteArray×Gconf_reader):=
  (m_conf_reader_take (min (w64 (i13 + 1)) (o0.fs.size : Int)) o0).bind fun (z17 : ByteArray×Gconf_reader)=>
  if z17.2.fbad = true then
    m_conf_reader_name_j2 z17.1 z17.2 true
  else
    (m_conf_named z17.1).bind fun x23=>
    m_conf_reader_name_j2 z17.1 z17.2 (!x23)
noncomputable def m_conf_reader_name_s3 (o0 : Gconf_reader) (i30 : Int) : Option (Int ⊕ Int):=
  if i30 < (o0.fs.size : Int) then
    (sat_ o0.fs i30).bind fun b38=>
    if b38 ≠ 0 then
      (sat_ o0.fs i30).bind fun b40=>
      some (.inl (w64 (i30 + (w64 (1 + (w64 b40))))))
    else
      some (.inr i30)
  else
    some (.inr i30)
noncomputable def m_conf_reader_name (o0 : Gconf_reader) : Option (ByteArray×Gconf_reader):=
  (loop (fun s=>m_conf_reader_name_s3 o0 s) 0).bind fun e=>m_conf_reader_name_j1 o0 e
theorem c_conf_reader_name {w0 : World} {M : Nat→Prop} {H : List (Nat×Nat×Obj)} {R : List (Nat×Row)} {φ : World→Prop} (go0 : Nat) (o0 : Gconf_reader) (r : ByteArray×Gconf_reader) (hm : m_conf_reader_name o0 = some r) :
    Cn Tryz.prog 72 #[Vp go0] ⟨w0,M,(1000,go0,.cells #[Vs o0.fs,.bool o0.fbad] 89 (0,0))::H,R,φ⟩ (fun x : Unit=>Vs r.1) (fun x=>True) (fun x=>⟨w0,M,(1000,go0,.cells #[Vs r.2.fs,.bool r.2.fbad] 89 (0,0))::H,R,φ⟩):=by
 unfold m_conf_reader_name at hm
 refine cn_intro (fn:=Tryz.f72) (N:=54) Tryz.func72 rfl Tryz.ntmps72 rfl<|c_seq<|c_region<|g_v rfl r_assign<|g_nil<|d_then<|c_seq<|c_region<|g_v rfl r_assign<|g_nil ?_
 refine d_then<|c_seq ?_
 refine c_cut (ι:=Int) [0,3] (fun i13=>[(3,Vi i13)]) (fun i13=>⟨w0,M,(1000,go0,.cells #[Vs o0.fs,.bool o0.fbad] 89 (0,0))::H,R,φ⟩) (fun i13=>m_conf_reader_name_j1 o0 i13 = some r) ?_ (fun i13 u hm=>?_)
 ·
  refine c_block ?_
  replace hm:=bnd hm
  obtain ⟨out3,hl3,hr3⟩:=hm
  obtain ⟨n36',hl3⟩:=loop_lp hl3
  refine c_loopU (ι:=Nat×Int) [0,3] (fun ⟨n36,i30⟩=>[(3,Vi i30)]) (fun ⟨n36,i30⟩=>⟨w0,M,(1000,go0,.cells #[Vs o0.fs,.bool o0.fbad] 89 (0,0))::H,R,φ⟩) (fun ⟨n36,i30⟩=>Lp (fun s=>m_conf_reader_name_s3 o0 s) n36 i30 out3) (fun ⟨n36,i30⟩=>n36) (n36',0) hl3 ⟨rfl,rfl,trivial⟩ (fun W h=>h.phi (fun W hφ=>hφ)) (fun ⟨n36,i30⟩ u hlp=>?_)
  obtain ⟨o3,hm,hnx3⟩:=lp_step hlp
  clear hlp
  replace hm : m_conf_reader_name_s3 o0 i30 = some o3:=hm
  unfold m_conf_reader_name_s3 at hm
  refine c_flat [(0,Vp go0),(3,Vi i30)] ⟨rfl,rfl,trivial⟩ (fun u=>?_)
  refine c_sta ⟨w0,M,(1000,go0,.cells #[Vs o0.fs,.bool o0.fbad] 89 (0,0))::H,R,φ⟩ (fun _ h=>h)<|c_seq<|c_seq<|c_region<|g_v rfl r_move<|g_v rfl r_move<|g_v rfl (r_nilck rfl)<|g_v rfl (r_field (n:=0) Tryz.underlying89 rfl Tryz.sizeOf9 rfl rfl)<|g_v rfl (r_load (tag:=1000) rfl rfl rfl Tryz.isAgg9)<|g_v rfl (r_len Tryz.underlying9 rfl) ?_
  refine g_v rfl (r_lss rfl rfl)<|g_v rfl r_move ?_
  refine g_if rfl rfl rfl rfl rfl (fun h37=>?_) (fun h37=>?_)
  ·
   replace hm:=ite_t hm (of_decide_eq_true h37)
   refine g_v rfl r_move<|g_do rfl rfl rfl rfl rfl h37<|g_v rfl (r_nilck rfl)<|g_do rfl rfl rfl rfl rfl h37<|g_v rfl (r_field (n:=0) Tryz.underlying89 rfl Tryz.sizeOf9 rfl rfl)<|g_do rfl rfl rfl rfl rfl h37<|g_v rfl (r_load (tag:=1000) rfl rfl rfl Tryz.isAgg9)<|g_do rfl rfl rfl rfl rfl h37<|g_v rfl r_move<|g_do rfl rfl rfl rfl rfl h37 ?_
   replace hm:=bnd hm
   obtain ⟨b38,hb38,hm⟩:=hm
   refine g_v rfl (r_sat Tryz.underlying9 rfl rfl hb38)<|g_do rfl rfl rfl rfl rfl h37<|g_v rfl (r_neq rfl rfl)<|g_v rfl (r_pick1 rfl h37)<|g_nil<|d_then ?_
   refine c_flat [(0,Vp go0),(3,Vi i30),(20,.bool (decide (b38 ≠ 0)))] ⟨rfl,rfl,rfl,trivial⟩ (fun u=>?_)
   refine c_cond rfl (fun h39=>?_) (fun h39=>?_)
   ·
    replace hm:=ite_t hm (of_decide_eq_true h39)
    refine c_skip<|d_then<|c_block<|c_region<|g_v rfl r_move<|g_v rfl r_move<|g_v rfl (r_nilck rfl)<|g_v rfl (r_field (n:=0) Tryz.underlying89 rfl Tryz.sizeOf9 rfl rfl)<|g_v rfl (r_load (tag:=1000) rfl rfl rfl Tryz.isAgg9)<|g_v rfl r_move ?_
    replace hm:=bnd hm
    obtain ⟨b40,hb40,hm⟩:=hm
    refine g_v rfl (r_sat Tryz.underlying9 rfl rfl hb40)<|g_v rfl (r_conv Tryz.underlying5 Tryz.underlying3 rfl rfl)<|g_v rfl (r_add rfl rfl rfl)<|g_v rfl (r_add rfl rfl rfl)<|g_v rfl r_assign<|g_nil<|d_normal_block ?_
    obtain ⟨n41,hn41,hlp⟩:=nx_inl hm hnx3
    exact d_round (n41,w64 (i30 + (w64 (1 + (w64 b40))))) hlp hn41 ⟨rfl,rfl,trivial⟩ (fun W h=>h.phi (fun W hφ=>hφ))
   replace hm:=ite_f hm (of_decide_eq_false h39)
   refine c_exit<|d_exit_then<|d_exit_then<|d_exit_block ?_
   replace hm:=nx_out (C:=(fun e : Int=>m_conf_reader_name_j1 o0 e = some r)) hm hnx3 hr3
   exact d_round i30 hm Nat.zero_lt_one ⟨rfl,rfl,trivial⟩ (fun W h=>h.phi (fun W hφ=>hφ))
  replace hm:=ite_f hm (of_decide_eq_false h37)
  iterate 6 refine g_no rfl rfl rfl rfl rfl h37 ?_
  refine g_v rfl (r_pick0 rfl h37)<|g_nil<|d_then ?_
  refine c_flat [(0,Vp go0),(3,Vi i30),(20,.bool false)] ⟨rfl,rfl,rfl,trivial⟩ (fun u=>?_)
  refine c_cond0 rfl rfl<|c_exit<|d_exit_then<|d_exit_then<|d_exit_block ?_
  replace hm:=nx_out (C:=(fun e : Int=>m_conf_reader_name_j1 o0 e = some r)) hm hnx3 hr3
  exact d_round i30 hm Nat.zero_lt_one ⟨rfl,rfl,trivial⟩ (fun W h=>h.phi (fun W hφ=>hφ))
 unfold m_conf_reader_name_j1 at hm
 refine d_flat [(0,Vp go0),(3,Vi i13)] ⟨rfl,rfl,trivial⟩ (fun u=>?_)
 refine d_sta ⟨w0,M,(1000,go0,.cells #[Vs o0.fs,.bool o0.fbad] 89 (0,0))::H,R,φ⟩ (fun _ h=>h)<|d_then<|c_seq<|c_region<|g_v rfl r_move<|g_v rfl r_move<|g_v rfl (r_add rfl rfl rfl)<|g_v rfl r_move<|g_v rfl (r_nilck rfl)<|g_v rfl (r_field (n:=0) Tryz.underlying89 rfl Tryz.sizeOf9 rfl rfl) ?_
 refine g_v rfl (r_load (tag:=1000) rfl rfl rfl Tryz.isAgg9)<|g_v rfl (r_len Tryz.underlying9 rfl)<|g_v rfl (r_min rfl rfl) ?_
 replace hm:=bnd hm
 obtain ⟨⟨x14,x15⟩,hx16,hm⟩:=hm
 refine g_cn ⟨w0,M,(1000,go0,.cells #[Vs o0.fs,.bool o0.fbad] 89 (0,0))::H,R,φ⟩ (fun W h=>(ok_front (t:=1000) (t':=1000) h rfl)) Tryz.call69 rfl rfl (c_conf_reader_take (min (w64 (i13 + 1)) (o0.fs.size : Int)) go0 o0 _ hx16) (fun _ _=>?_)
 refine g_sta _ (fun W h=>(ok_front (t:=1000) (t':=1000) h rfl))<|g_v rfl r_assign<|g_nil<|d_then ?_
 refine c_flat [(0,Vp go0),(4,Vs x14)] ⟨rfl,rfl,trivial⟩ (fun u=>?_)
 refine c_sta ⟨w0,M,(1000,go0,.cells #[Vs x15.fs,.bool x15.fbad] 89 (0,0))::H,R,φ⟩ (fun _ h=>h)<|c_seq ?_
 refine c_cut (ι:=Bool) [4] (fun b21=>[]) (fun b21=>⟨w0,M,(1000,go0,.cells #[Vs x15.fs,.bool b21] 89 (0,0))::H,R,φ⟩) (fun b21=>m_conf_reader_name_j2 x14 x15 b21 = some r) ?_ (fun b21 u hm=>?_)
 ·
  refine c_region<|g_v rfl r_move<|g_v rfl r_move<|g_v rfl (r_nilck rfl)<|g_v rfl (r_field (n:=1) Tryz.underlying89 rfl Tryz.sizeOf4 rfl rfl)<|g_v rfl (r_load (tag:=1000) rfl rfl rfl Tryz.isAgg4)<|g_v rfl r_move ?_
  refine g_if rfl rfl rfl rfl rfl (fun h22=>?_) (fun h22=>?_)
  ·
   replace hm:=ite_f hm (bool_nt h22)
   refine g_v rfl r_move<|g_do rfl rfl rfl rfl rfl h22 ?_
   replace hm:=bnd hm
   obtain ⟨x23,hx24,hm⟩:=hm
   refine g_cn ⟨w0,M,_,_,φ⟩ (fun _ h=>h) Tryz.call53 rfl rfl (c_conf_named x14 _ hx24) (fun _ _=>?_)
   refine g_do rfl rfl rfl rfl rfl h22<|g_v rfl (r_not rfl)<|g_v rfl (r_pick0 rfl h22)<|g_v rfl (r_nilck rfl)<|g_v rfl (r_field (n:=1) Tryz.underlying89 rfl Tryz.sizeOf4 rfl rfl)<|g_storeL (tag:=1000) rfl rfl rfl rfl Tryz.sizeOf4 rfl rfl<|g_nil ?_
   exact d_round (!x23) hm Nat.zero_lt_one ⟨rfl,trivial⟩ (fun W h=>h.phi (fun W hφ=>hφ))
  replace hm:=ite_t hm h22
  refine g_no rfl rfl rfl rfl rfl h22<|g_no rfl rfl rfl rfl rfl h22<|g_v rfl (r_pick1 rfl h22)<|g_v rfl (r_nilck rfl)<|g_v rfl (r_field (n:=1) Tryz.underlying89 rfl Tryz.sizeOf4 rfl rfl)<|g_storeL (tag:=1000) rfl rfl rfl rfl Tryz.sizeOf4 rfl rfl<|g_nil ?_
  exact d_round true hm Nat.zero_lt_one ⟨rfl,trivial⟩ (fun W h=>h.phi (fun W hφ=>hφ))
 unfold m_conf_reader_name_j2 at hm
 refine d_flat [(4,Vs x14)] ⟨rfl,trivial⟩ (fun u=>?_)
 refine d_sta ⟨w0,M,(1000,go0,.cells #[Vs x15.fs,.bool b21] 89 (0,0))::H,R,φ⟩ (fun _ h=>h)<|d_then<|c_seq<|c_region<|g_v rfl r_move<|g_v rfl r_assign<|g_nil<|d_then<|c_ret ?_
 cases hm
 exact d_retC () Tryz.results72 (res_tmp (res_nil rfl)) trivial (fun W h=>h.phi (fun W hφ=>hφ)) (.inr rfl)
noncomputable def m_conf_Load_c3 (o1 : Gconf_reader) : Option (GAnchor×Gconf_reader):=
  (m_conf_reader_name o1).bind fun (z5 : ByteArray×Gconf_reader)=>
  (m_conf_reader_number 1 z5.2).bind fun (z25 : Int×Gconf_reader)=>
  (m_conf_reader_take z25.1 z25.2).bind fun (z29 : ByteArray×Gconf_reader)=>
  some ((⟨z5.1,z29.1⟩ : GAnchor),z29.2)
theorem c_conf_Load_c3 {w0 : World} {M : Nat→Prop} {H : List (Nat×Nat×Obj)} {R : List (Nat×Row)} {φ : World→Prop} (go0 : Nat) (go1 : Nat) (o1 : Gconf_reader) (r : GAnchor×Gconf_reader) (hm : m_conf_Load_c3 o1 = some r) :
    Cn Tryz.prog 71 #[Vp go0] ⟨w0,M,(1000,go0,.cells #[Vp go1] 87 (0,0))::(1001,go1,.cells #[Vs o1.fs,.bool o1.fbad] 89 (0,0))::H,R,φ⟩ (fun x : Unit=>.agg #[Vs r.1.fName,Vs r.1.fText]) (fun x=>True) (fun x=>⟨w0,M,(1000,go0,.cells #[Vp go1] 87 (0,0))::(1001,go1,.cells #[Vs r.2.fs,.bool r.2.fbad] 89 (0,0))::H,R,φ⟩):=by
 unfold m_conf_Load_c3 at hm
 refine cn_intro (fn:=Tryz.f71) (N:=11) Tryz.func71 rfl Tryz.ntmps71 rfl<|c_seq<|c_region ?_
 refine g_e rfl (e_alloc 100010 Tryz.zeroValue55) (fun g1 _=>?_)
 refine g_nil<|d_then<|c_seq<|c_region<|g_v rfl (r_load (tag:=1000) rfl rfl rfl Tryz.isAgg87) ?_
 replace hm:=bnd hm
 obtain ⟨⟨x2,x3⟩,hx4,hm⟩:=hm
 refine g_cn ⟨w0,M,(1000,go1,.cells #[Vs o1.fs,.bool o1.fbad] 89 (0,0))::(100010,g1,.cells #[Ve,Ve] 55 (0,0))::(1000,go0,.cells #[Vp go1] 87 (0,0))::H,R,φ⟩ (fun W h=>(ok_front (t:=1001) (t':=1000) h rfl)) Tryz.call72 rfl rfl (c_conf_reader_name go1 o1 _ hx4) (fun _ _=>?_)
 refine g_sta _ (fun W h=>(ok_front (t:=1000) (t':=1001) h rfl))<|g_v rfl r_assign<|g_nil<|d_then<|c_seq<|ga_start (n:=7) ⟨w0,M,(100010,g1,.cells #[Ve,Ve] 55 (0,0))::(1000,go0,.cells #[Vp go1] 87 (0,0))::H,R,φ⟩ [6] #[false,false,false,false,false,false,false] (fun W h=>(h.dropH (t:=1001) rfl).phi (fun W hφ=>hφ)) mixed rfl rfl<|ga_v (i:=0) (bz 7 1) rfl (by kernel_rfl) (fun _ _ _ _ h=>h) rfl (r_move)<|ga_v (i:=1) (bz 7 3) rfl (by kernel_rfl) (fun _ _ _ _ h=>h) rfl (r_load (tag:=1000) rfl rfl rfl Tryz.isAgg87)<|ga_r (i:=2) (bz 7 7) rfl (by kernel_rfl) (by decide) rfl (r_load (tag:=1000) rfl rfl rfl Tryz.isAgg87) ?_
 replace hm:=bnd hm
 obtain ⟨⟨x22,x23⟩,hx24,hm⟩:=hm
 refine ga_cn (first:=#[]) (i:=3) (bz 7 15) rfl (by kernel_rfl) (by decide)  ⟨w0,M,(1000,go1,.cells #[Vs x3.fs,.bool x3.fbad] 89 (0,0))::(100010,g1,.cells #[Ve,Ve] 55 (0,0))::(1000,go0,.cells #[Vp go1] 87 (0,0))::H,R,φ⟩ (fun W h=>(ok_front (t:=1001) (t':=1000) h rfl)) Tryz.call66 rfl rfl rfl (c_conf_reader_number 1 go1 x3 _ hx24) (fun _ W _ h=>((ok_front (t:=1000) (t':=1001) h rfl).dropH (t:=1001) rfl).phi (fun W hφ=>hφ)) (fun _ _=>?_)
 refine ga_sta _ (fun W h=>(ok_front (t:=1000) (t':=1001) h rfl)) ?_
 replace hm:=bnd hm
 obtain ⟨⟨x26,x27⟩,hx28,hm⟩:=hm
 refine ga_cn (first:=#[]) (i:=4) (bz 7 31) rfl (by kernel_rfl) (by decide)  ⟨w0,M,(1000,go1,.cells #[Vs x23.fs,.bool x23.fbad] 89 (0,0))::(100010,g1,.cells #[Ve,Ve] 55 (0,0))::(1000,go0,.cells #[Vp go1] 87 (0,0))::H,R,φ⟩ (fun W h=>(ok_front (t:=1001) (t':=1000) h rfl)) Tryz.call69 rfl rfl rfl (c_conf_reader_take x22 go1 x23 _ hx28) (fun _ W _ h=>((ok_front (t:=1000) (t':=1001) h rfl).dropH (t:=1001) rfl).phi (fun W hφ=>hφ)) (fun _ _=>?_)
 refine ga_sta _ (fun W h=>(ok_front (t:=1000) (t':=1001) h rfl))<|ga_r (i:=5) (bz 7 63) rfl (by kernel_rfl) (by decide) rfl (r_build _ rfl (bld55_19 _ _))<|ga_lastL (i:=6) (tag:=100010) (bz 7 127) rfl (by kernel_rfl) (by decide) rfl rfl rfl rfl Tryz.sizeOf55 rfl rfl<|gz_done (by kernel_rfl)<|d_then ?_
 refine c_flat [(1,Vp g1)] ⟨rfl,trivial⟩ (fun u=>?_)
 refine c_sta ⟨w0,M,(1001,go1,.cells #[Vs x27.fs,.bool x27.fbad] 89 (0,0))::(100010,g1,.cells #[Vs x2,Vs x26] 55 (0,0))::(1000,go0,.cells #[Vp go1] 87 (0,0))::H,R,φ⟩ (fun _ h=>h)<|c_ret ?_
 cases hm
 exact d_retC () Tryz.results71 (res_agg (tag:=100010) rfl rfl Tryz.isAgg55 Tryz.sizeOf55 (res_nil rfl)) trivial (fun W h=>(ok_front (t:=1000) (t':=1000) (ok_front (t:=1001) (t':=1001) (h.dropH (t:=100010) rfl) rfl) rfl).phi (fun W hφ=>hφ)) (.inr rfl)
noncomputable def m_conf_list_70_j1  (l93 : List GAnchor) (s96 : ByteArray) (b97 : Bool) : Option ((List GAnchor)×Gconf_reader):=
  some (l93,(⟨s96,b97⟩ : Gconf_reader))
noncomputable def m_conf_list_70_s2 (x1 : Int) (l114 : List GAnchor) (i117 : Int) (s118 : ByteArray) (b119 : Bool) : Option (((List GAnchor)×Int×ByteArray×Bool) ⊕ (((List GAnchor)×ByteArray×Bool) ⊕ ((List GAnchor)×Gconf_reader))):=
  if i117 < x1 then
    if b119 = true then
      some (.inr (.inr (([] : List GAnchor),(⟨s118,b119⟩ : Gconf_reader))))
    else
      (m_conf_Load_c3 (⟨s118,b119⟩ : Gconf_reader)).bind fun (z142 : GAnchor×Gconf_reader)=>
      (app 32 l114 [z142.1]).bind fun l144=>
      some (.inl (l144,w64 (i117 + 1),z142.2.fs,z142.2.fbad))
  else
    some (.inr (.inl (l114,s118,b119)))
noncomputable def m_conf_list_70 (o0 : Gconf_reader) : Option ((List GAnchor)×Gconf_reader):=
  (m_conf_reader_number 1 o0).bind fun (z4 : Int×Gconf_reader)=>
  (loop (fun s=>m_conf_list_70_s2 z4.1 s.1 s.2.1 s.2.2.1 s.2.2.2) (([] : List GAnchor),0,z4.2.fs,z4.2.fbad)).bind fun e=>Sum.elim (fun e=>m_conf_list_70_j1 e.1 e.2.1 e.2.2) (fun x=>some x) e
theorem c_conf_list_70 {w0 : World} {M : Nat→Prop} {H : List (Nat×Nat×Obj)} {R : List (Nat×Row)} {φ : World→Prop} (go0 : Nat) (o0 : Gconf_reader) (go1 : Nat) (r : (List GAnchor)×Gconf_reader) (hm : m_conf_list_70 o0 = some r) :
    Cn Tryz.prog 70 #[Vp go0,.func (.func 71) #[] #[Vp go1]] ⟨w0,M,(1000,go0,.cells #[Vs o0.fs,.bool o0.fbad] 89 (0,0))::(1001,go1,.cells #[Vp go0] 87 (0,0))::H,R,φ⟩ (fun x : Option Addr×Nat=>.slice x.1 r.1.length x.2) (fun x=>r.1.length ≤ x.2) (fun x=>⟨w0,M,(1000,go0,.cells #[Vs r.2.fs,.bool r.2.fbad] 89 (0,0))::(1001,go1,.cells #[Vp go0] 87 (0,0))::H,(2000,⟨.slice x.1 r.1.length x.2,55,2,r.1.length,r.1.flatMap GAnchor.enc⟩)::R,φ⟩):=by
 unfold m_conf_list_70 at hm
 refine cn_intro (fn:=Tryz.f70) (N:=21) Tryz.func70 rfl Tryz.ntmps70 rfl<|c_seq<|c_region<|g_v rfl r_assign<|g_nil<|d_then<|c_seq<|c_region<|g_v rfl r_assign<|g_nil ?_
 refine d_then<|c_seq<|c_seq<|c_region<|g_v rfl r_move ?_
 replace hm:=bnd hm
 obtain ⟨⟨x1,x2⟩,hx3,hm⟩:=hm
 refine g_cn ⟨w0,M,(1000,go0,.cells #[Vs o0.fs,.bool o0.fbad] 89 (0,0))::(1001,go1,.cells #[Vp go0] 87 (0,0))::H,R,φ⟩ (fun W h=>(ok_front (t:=1000) (t':=1000) h rfl)) Tryz.call66 rfl rfl (c_conf_reader_number 1 go0 o0 _ hx3) (fun _ _=>?_)
 refine g_sta _ (fun W h=>(ok_front (t:=1000) (t':=1000) h rfl))<|g_v rfl r_move<|g_nil<|d_then<|c_sta _ (fun W h=>nilR h 16 55 2) ?_
 refine c_cut (ι:=(List GAnchor)×ByteArray×Bool×Option Addr×Nat) [5] (fun ⟨l93,s96,b97,A94,c95⟩=>[(5,.slice A94 l93.length c95)]) (fun ⟨l93,s96,b97,A94,c95⟩=>⟨w0,M,(1000,go0,.cells #[Vs s96,.bool b97] 89 (0,0))::(1001,go1,.cells #[Vp go0] 87 (0,0))::H,(16,⟨.slice A94 l93.length c95,55,2,l93.length,l93.flatMap GAnchor.enc⟩)::R,φ⟩) (fun ⟨l93,s96,b97,A94,c95⟩=>m_conf_list_70_j1 l93 s96 b97 = some r∧l93.length ≤ c95) ?_ (fun ⟨l93,s96,b97,A94,c95⟩ u ⟨hm,hc95⟩=>?_)
 ·
  refine c_block ?_
  replace hm:=bnd hm
  obtain ⟨out2,hl2,hr2⟩:=hm
  obtain ⟨n136',hl2⟩:=loop_lp hl2
  refine c_loopU (ι:=Nat×(List GAnchor)×Int×ByteArray×Bool×Option Addr×Nat) [0,1,5,7,8] (fun ⟨n136,l114,i117,s118,b119,A115,c116⟩=>[(5,.slice A115 l114.length c116),(8,Vi i117)]) (fun ⟨n136,l114,i117,s118,b119,A115,c116⟩=>⟨w0,M,(1000,go0,.cells #[Vs s118,.bool b119] 89 (0,0))::(1001,go1,.cells #[Vp go0] 87 (0,0))::H,(16,⟨.slice A115 l114.length c116,55,2,l114.length,l114.flatMap GAnchor.enc⟩)::R,φ⟩) (fun ⟨n136,l114,i117,s118,b119,A115,c116⟩=>Lp (fun s=>m_conf_list_70_s2 x1 s.1 s.2.1 s.2.2.1 s.2.2.2) n136 (l114,i117,s118,b119) out2∧l114.length ≤ c116) (fun ⟨n136,l114,i117,s118,b119,A115,c116⟩=>n136) (n136',([] : List GAnchor),0,x2.fs,x2.fbad,none,0) ⟨hl2,(Nat.le_refl 0)⟩ ⟨rfl,rfl,rfl,rfl,rfl,trivial⟩ (fun W h=>h.phi (fun W hφ=>hφ)) (fun ⟨n136,l114,i117,s118,b119,A115,c116⟩ u ⟨hlp,hc116⟩=>?_)
  obtain ⟨o2,hm,hnx2⟩:=lp_step hlp
  clear hlp
  replace hm : m_conf_list_70_s2 x1 l114 i117 s118 b119 = some o2:=hm
  unfold m_conf_list_70_s2 at hm
  refine c_flat [(0,Vp go0),(1,.func (.func 71) #[] #[Vp go1]),(5,.slice A115 l114.length c116),(7,Vi x1),(8,Vi i117)] ⟨rfl,rfl,rfl,rfl,rfl,trivial⟩ (fun u=>?_)
  refine c_sta ⟨w0,M,(1000,go0,.cells #[Vs s118,.bool b119] 89 (0,0))::(1001,go1,.cells #[Vp go0] 87 (0,0))::H,(16,⟨.slice A115 l114.length c116,55,2,l114.length,l114.flatMap GAnchor.enc⟩)::R,φ⟩ (fun _ h=>h)<|c_seq<|c_region<|g_v rfl (r_lss rfl rfl)<|g_nil<|d_then<|c_seq ?_
  refine c_cond rfl (fun h137=>?_) (fun h137=>?_)
  ·
   replace hm:=ite_t hm (of_decide_eq_true h137)
   refine c_skip<|d_then<|c_seq<|c_block<|c_seq<|c_seq<|c_region<|g_v rfl r_move<|g_v rfl (r_nilck rfl)<|g_v rfl (r_field (n:=1) Tryz.underlying89 rfl Tryz.sizeOf4 rfl rfl) ?_
   refine g_v rfl (r_load (tag:=1000) rfl rfl rfl Tryz.isAgg4)<|g_nil<|d_then ?_
   refine c_cond rfl (fun h138=>?_) (fun h138=>?_)
   ·
    replace hm:=ite_t hm h138
    refine c_seq<|c_region<|g_v rfl r_assign<|g_nil<|d_then<|c_ret<|d_ret_then<|d_ret_block<|d_ret_then<|d_ret_then ?_
    refine d_ret_block<|d_ret_then<|d_ret_then ?_
    replace hm:=nx_out (C:=(fun e : ((List GAnchor)×ByteArray×Bool) ⊕ ((List GAnchor)×Gconf_reader)=>Sum.elim (fun e=>m_conf_list_70_j1 e.1 e.2.1 e.2.2) (fun x=>some x) e = some r)) hm hnx2 hr2
    replace hm : some (([] : List GAnchor),(⟨s118,b119⟩ : Gconf_reader)) = some r:=hm
    cases hm
    refine d_sta _ (fun W h=>nilR h 21 55 2)<|d_sta _ (fun W h=>ok_frontR (t:=21) (t':=2000) h rfl) ?_
    exact d_retC (none,0) Tryz.results70 (res_tmp (res_nil rfl)) (Nat.le_refl 0) (fun W h=>(h.dropR (t:=16) rfl).phi (fun W hφ=>hφ)) (.inr rfl)
   replace hm:=ite_f hm (bool_nt h138)
   refine c_skip<|d_then<|c_region<|g_v rfl r_move<|g_v rfl r_move ?_
   replace hm:=bnd hm
   obtain ⟨⟨x139,x140⟩,hx141,hm⟩:=hm
   refine g_cnv ⟨w0,M,(1000,go1,.cells #[Vp go0] 87 (0,0))::(1001,go0,.cells #[Vs s118,.bool b119] 89 (0,0))::H,(16,⟨.slice A115 l114.length c116,55,2,l114.length,l114.flatMap GAnchor.enc⟩)::R,φ⟩ (fun W h=>(ok_front (t:=9001) (t':=1000) (ok_front (t:=9000) (t':=1001) (ok_front (t:=1001) (t':=9001) (ok_front (t:=1000) (t':=9000) h rfl) rfl) rfl) rfl)) Tryz.call71 rfl rfl rfl (c_conf_Load_c3 go1 go0 (⟨s118,b119⟩ : Gconf_reader) _ hx141) (fun _ _=>?_)
   refine g_sta _ (fun W h=>(ok_front (t:=9001) (t':=1001) (ok_front (t:=9000) (t':=1000) (ok_front (t:=1000) (t':=9001) (ok_front (t:=1001) (t':=9000) h rfl) rfl) rfl) rfl)) ?_
   refine g_e rfl (e_lit (tag:=100170) (l:=[x139]) (enc:=GAnchor.enc) (sz:=2) rfl Tryz.underlying27 (lit55_20 _ _) rfl rfl (fun _=>rfl)) (fun g143 _=>?_)
   replace hm:=bnd hm
   obtain ⟨l144,hl144,hm⟩:=hm
   refine g_e rfl (e_appR (enc:=GAnchor.enc) (l:=l114) (l1:=[x139]) (l2:=l144) (tag:=16) Tryz.underlying27 inf55_14 rfl (by decide) (by decide) (fun _=>rfl) (fun _=>rfl) rfl hc116 rfl rfl (fun W hS=>rowCl (tag:=100170) rfl W hS) hl144) (fun ⟨A145,c146⟩ hc146=>?_)
   refine g_v rfl r_assign<|g_nil<|d_normal_block<|d_then ?_
   refine c_flat [(0,Vp go0),(1,.func (.func 71) #[] #[Vp go1]),(5,.slice A145 l144.length c146),(7,Vi x1),(8,Vi i117)] ⟨rfl,rfl,rfl,rfl,rfl,trivial⟩ (fun u=>?_)
   refine c_sta ⟨w0,M,(1001,go1,.cells #[Vp go0] 87 (0,0))::(1000,go0,.cells #[Vs x140.fs,.bool x140.fbad] 89 (0,0))::H,(100170,⟨.slice (some ⟨g143,0,none⟩) [x139].length 1,55,2,[x139].length,[x139].flatMap GAnchor.enc⟩)::(16,⟨.slice A145 l144.length c146,55,2,l144.length,l144.flatMap GAnchor.enc⟩)::R,φ⟩ (fun _ h=>h)<|c_region<|g_v rfl (r_add rfl rfl rfl)<|g_v rfl r_move<|g_nil ?_
   obtain ⟨n147,hn147,hlp⟩:=nx_inl hm hnx2
   exact d_round (n147,l144,w64 (i117 + 1),x140.fs,x140.fbad,A145,c146) ⟨hlp,hc146⟩ hn147 ⟨rfl,rfl,rfl,rfl,rfl,trivial⟩ (fun W h=>(ok_front (t:=1000) (t':=1000) (ok_front (t:=1001) (t':=1001) (h.dropR (t:=100170) rfl) rfl) rfl).phi (fun W hφ=>hφ))
  replace hm:=ite_f hm (of_decide_eq_false h137)
  refine c_exit<|d_exit_then<|d_exit_then<|d_exit_block ?_
  replace hm:=nx_out (C:=(fun e : ((List GAnchor)×ByteArray×Bool) ⊕ ((List GAnchor)×Gconf_reader)=>Sum.elim (fun e=>m_conf_list_70_j1 e.1 e.2.1 e.2.2) (fun x=>some x) e = some r)) hm hnx2 hr2
  exact d_round (l114,s118,b119,A115,c116) ⟨hm,hc116⟩ Nat.zero_lt_one ⟨rfl,trivial⟩ (fun W h=>h.phi (fun W hφ=>hφ))
 unfold m_conf_list_70_j1 at hm
 refine d_flat [(5,.slice A94 l93.length c95)] ⟨rfl,trivial⟩ (fun u=>?_)
 refine d_sta ⟨w0,M,(1000,go0,.cells #[Vs s96,.bool b97] 89 (0,0))::(1001,go1,.cells #[Vp go0] 87 (0,0))::H,(16,⟨.slice A94 l93.length c95,55,2,l93.length,l93.flatMap GAnchor.enc⟩)::R,φ⟩ (fun _ h=>h)<|d_then<|c_seq<|c_region<|g_v rfl r_move<|g_v rfl r_assign<|g_nil<|d_then<|c_ret ?_
 cases hm
 refine d_sta _ (fun W h=>ok_frontR (t:=16) (t':=2000) h rfl) ?_
 exact d_retC (A94,c95) Tryz.results70 (res_tmp (res_nil rfl)) hc95 (fun W h=>h.phi (fun W hφ=>hφ)) (.inr rfl)
noncomputable def m_conf_Load_c4 (o1 : Gconf_reader) : Option (GFlush×Gconf_reader):=
  (m_conf_reader_number 8 o1).bind fun (z5 : Int×Gconf_reader)=>
  (m_conf_reader_name z5.2).bind fun (z9 : ByteArray×Gconf_reader)=>
  some ((⟨z5.1,z9.1⟩ : GFlush),z9.2)
theorem c_conf_Load_c4 {w0 : World} {M : Nat→Prop} {H : List (Nat×Nat×Obj)} {R : List (Nat×Row)} {φ : World→Prop} (go0 : Nat) (go1 : Nat) (o1 : Gconf_reader) (r : GFlush×Gconf_reader) (hm : m_conf_Load_c4 o1 = some r) :
    Cn Tryz.prog 74 #[Vp go0] ⟨w0,M,(1000,go0,.cells #[Vp go1] 87 (0,0))::(1001,go1,.cells #[Vs o1.fs,.bool o1.fbad] 89 (0,0))::H,R,φ⟩ (fun x : Unit=>.agg #[Vi r.1.fEpoch,Vs r.1.fZone]) (fun x=>True) (fun x=>⟨w0,M,(1000,go0,.cells #[Vp go1] 87 (0,0))::(1001,go1,.cells #[Vs r.2.fs,.bool r.2.fbad] 89 (0,0))::H,R,φ⟩):=by
 unfold m_conf_Load_c4 at hm
 refine cn_intro (fn:=Tryz.f74) (N:=9) Tryz.func74 rfl Tryz.ntmps74 rfl<|c_seq<|c_region ?_
 refine g_e rfl (e_alloc 100010 Tryz.zeroValue48) (fun g1 _=>?_)
 refine g_nil<|d_then<|c_seq<|c_region<|g_v rfl (r_load (tag:=1000) rfl rfl rfl Tryz.isAgg87) ?_
 replace hm:=bnd hm
 obtain ⟨⟨x2,x3⟩,hx4,hm⟩:=hm
 refine g_cn ⟨w0,M,(1000,go1,.cells #[Vs o1.fs,.bool o1.fbad] 89 (0,0))::(100010,g1,.cells #[Vi 0,Ve] 48 (0,0))::(1000,go0,.cells #[Vp go1] 87 (0,0))::H,R,φ⟩ (fun W h=>(ok_front (t:=1001) (t':=1000) h rfl)) Tryz.call66 rfl rfl (c_conf_reader_number 8 go1 o1 _ hx4) (fun _ _=>?_)
 refine g_sta _ (fun W h=>(ok_front (t:=1000) (t':=1001) h rfl))<|g_v rfl r_assign<|g_nil<|d_then<|c_seq<|c_region<|g_v rfl r_move<|g_v rfl (r_load (tag:=1000) rfl rfl rfl Tryz.isAgg87) ?_
 replace hm:=bnd hm
 obtain ⟨⟨x6,x7⟩,hx8,hm⟩:=hm
 refine g_cn ⟨w0,M,(1000,go1,.cells #[Vs x3.fs,.bool x3.fbad] 89 (0,0))::(100010,g1,.cells #[Vi 0,Ve] 48 (0,0))::(1000,go0,.cells #[Vp go1] 87 (0,0))::H,R,φ⟩ (fun W h=>(ok_front (t:=1001) (t':=1000) h rfl)) Tryz.call72 rfl rfl (c_conf_reader_name go1 x3 _ hx8) (fun _ _=>?_)
 refine g_sta _ (fun W h=>(ok_front (t:=1000) (t':=1001) h rfl))<|g_v rfl (r_build _ rfl (bld48_21 _ _))<|g_storeL (tag:=100010) rfl rfl rfl rfl Tryz.sizeOf48 rfl rfl<|g_nil<|d_then ?_
 refine c_flat [(1,Vp g1)] ⟨rfl,trivial⟩ (fun u=>?_)
 refine c_sta ⟨w0,M,(1001,go1,.cells #[Vs x7.fs,.bool x7.fbad] 89 (0,0))::(100010,g1,.cells #[Vi x2,Vs x6] 48 (0,0))::(1000,go0,.cells #[Vp go1] 87 (0,0))::H,R,φ⟩ (fun _ h=>h)<|c_ret ?_
 cases hm
 exact d_retC () Tryz.results74 (res_agg (tag:=100010) rfl rfl Tryz.isAgg48 Tryz.sizeOf48 (res_nil rfl)) trivial (fun W h=>(ok_front (t:=1000) (t':=1000) (ok_front (t:=1001) (t':=1001) (h.dropH (t:=100010) rfl) rfl) rfl).phi (fun W hφ=>hφ)) (.inr rfl)
noncomputable def m_conf_list_73_j1  (l93 : List GFlush) (s96 : ByteArray) (b97 : Bool) : Option ((List GFlush)×Gconf_reader):=
  some (l93,(⟨s96,b97⟩ : Gconf_reader))
noncomputable def m_conf_list_73_s2 (x1 : Int) (l114 : List GFlush) (i117 : Int) (s118 : ByteArray) (b119 : Bool) : Option (((List GFlush)×Int×ByteArray×Bool) ⊕ (((List GFlush)×ByteArray×Bool) ⊕ ((List GFlush)×Gconf_reader))):=
  if i117 < x1 then
    if b119 = true then
      some (.inr (.inr (([] : List GFlush),(⟨s118,b119⟩ : Gconf_reader))))
    else
      (m_conf_Load_c4 (⟨s118,b119⟩ : Gconf_reader)).bind fun (z142 : GFlush×Gconf_reader)=>
      (app 24 l114 [z142.1]).bind fun l144=>
      some (.inl (l144,w64 (i117 + 1),z142.2.fs,z142.2.fbad))
  else
    some (.inr (.inl (l114,s118,b119)))
noncomputable def m_conf_list_73 (o0 : Gconf_reader) : Option ((List GFlush)×Gconf_reader):=
  (m_conf_reader_number 1 o0).bind fun (z4 : Int×Gconf_reader)=>
  (loop (fun s=>m_conf_list_73_s2 z4.1 s.1 s.2.1 s.2.2.1 s.2.2.2) (([] : List GFlush),0,z4.2.fs,z4.2.fbad)).bind fun e=>Sum.elim (fun e=>m_conf_list_73_j1 e.1 e.2.1 e.2.2) (fun x=>some x) e
theorem c_conf_list_73 {w0 : World} {M : Nat→Prop} {H : List (Nat×Nat×Obj)} {R : List (Nat×Row)} {φ : World→Prop} (go0 : Nat) (o0 : Gconf_reader) (go1 : Nat) (r : (List GFlush)×Gconf_reader) (hm : m_conf_list_73 o0 = some r) :
    Cn Tryz.prog 73 #[Vp go0,.func (.func 74) #[] #[Vp go1]] ⟨w0,M,(1000,go0,.cells #[Vs o0.fs,.bool o0.fbad] 89 (0,0))::(1001,go1,.cells #[Vp go0] 87 (0,0))::H,R,φ⟩ (fun x : Option Addr×Nat=>.slice x.1 r.1.length x.2) (fun x=>r.1.length ≤ x.2) (fun x=>⟨w0,M,(1000,go0,.cells #[Vs r.2.fs,.bool r.2.fbad] 89 (0,0))::(1001,go1,.cells #[Vp go0] 87 (0,0))::H,(2000,⟨.slice x.1 r.1.length x.2,48,2,r.1.length,r.1.flatMap GFlush.enc⟩)::R,φ⟩):=by
 unfold m_conf_list_73 at hm
 refine cn_intro (fn:=Tryz.f73) (N:=21) Tryz.func73 rfl Tryz.ntmps73 rfl<|c_seq<|c_region<|g_v rfl r_assign<|g_nil<|d_then<|c_seq<|c_region<|g_v rfl r_assign<|g_nil ?_
 refine d_then<|c_seq<|c_seq<|c_region<|g_v rfl r_move ?_
 replace hm:=bnd hm
 obtain ⟨⟨x1,x2⟩,hx3,hm⟩:=hm
 refine g_cn ⟨w0,M,(1000,go0,.cells #[Vs o0.fs,.bool o0.fbad] 89 (0,0))::(1001,go1,.cells #[Vp go0] 87 (0,0))::H,R,φ⟩ (fun W h=>(ok_front (t:=1000) (t':=1000) h rfl)) Tryz.call66 rfl rfl (c_conf_reader_number 1 go0 o0 _ hx3) (fun _ _=>?_)
 refine g_sta _ (fun W h=>(ok_front (t:=1000) (t':=1000) h rfl))<|g_v rfl r_move<|g_nil<|d_then<|c_sta _ (fun W h=>nilR h 16 48 2) ?_
 refine c_cut (ι:=(List GFlush)×ByteArray×Bool×Option Addr×Nat) [5] (fun ⟨l93,s96,b97,A94,c95⟩=>[(5,.slice A94 l93.length c95)]) (fun ⟨l93,s96,b97,A94,c95⟩=>⟨w0,M,(1000,go0,.cells #[Vs s96,.bool b97] 89 (0,0))::(1001,go1,.cells #[Vp go0] 87 (0,0))::H,(16,⟨.slice A94 l93.length c95,48,2,l93.length,l93.flatMap GFlush.enc⟩)::R,φ⟩) (fun ⟨l93,s96,b97,A94,c95⟩=>m_conf_list_73_j1 l93 s96 b97 = some r∧l93.length ≤ c95) ?_ (fun ⟨l93,s96,b97,A94,c95⟩ u ⟨hm,hc95⟩=>?_)
 ·
  refine c_block ?_
  replace hm:=bnd hm
  obtain ⟨out2,hl2,hr2⟩:=hm
  obtain ⟨n136',hl2⟩:=loop_lp hl2
  refine c_loopU (ι:=Nat×(List GFlush)×Int×ByteArray×Bool×Option Addr×Nat) [0,1,5,7,8] (fun ⟨n136,l114,i117,s118,b119,A115,c116⟩=>[(5,.slice A115 l114.length c116),(8,Vi i117)]) (fun ⟨n136,l114,i117,s118,b119,A115,c116⟩=>⟨w0,M,(1000,go0,.cells #[Vs s118,.bool b119] 89 (0,0))::(1001,go1,.cells #[Vp go0] 87 (0,0))::H,(16,⟨.slice A115 l114.length c116,48,2,l114.length,l114.flatMap GFlush.enc⟩)::R,φ⟩) (fun ⟨n136,l114,i117,s118,b119,A115,c116⟩=>Lp (fun s=>m_conf_list_73_s2 x1 s.1 s.2.1 s.2.2.1 s.2.2.2) n136 (l114,i117,s118,b119) out2∧l114.length ≤ c116) (fun ⟨n136,l114,i117,s118,b119,A115,c116⟩=>n136) (n136',([] : List GFlush),0,x2.fs,x2.fbad,none,0) ⟨hl2,(Nat.le_refl 0)⟩ ⟨rfl,rfl,rfl,rfl,rfl,trivial⟩ (fun W h=>h.phi (fun W hφ=>hφ)) (fun ⟨n136,l114,i117,s118,b119,A115,c116⟩ u ⟨hlp,hc116⟩=>?_)
  obtain ⟨o2,hm,hnx2⟩:=lp_step hlp
  clear hlp
  replace hm : m_conf_list_73_s2 x1 l114 i117 s118 b119 = some o2:=hm
  unfold m_conf_list_73_s2 at hm
  refine c_flat [(0,Vp go0),(1,.func (.func 74) #[] #[Vp go1]),(5,.slice A115 l114.length c116),(7,Vi x1),(8,Vi i117)] ⟨rfl,rfl,rfl,rfl,rfl,trivial⟩ (fun u=>?_)
  refine c_sta ⟨w0,M,(1000,go0,.cells #[Vs s118,.bool b119] 89 (0,0))::(1001,go1,.cells #[Vp go0] 87 (0,0))::H,(16,⟨.slice A115 l114.length c116,48,2,l114.length,l114.flatMap GFlush.enc⟩)::R,φ⟩ (fun _ h=>h)<|c_seq<|c_region<|g_v rfl (r_lss rfl rfl)<|g_nil<|d_then<|c_seq ?_
  refine c_cond rfl (fun h137=>?_) (fun h137=>?_)
  ·
   replace hm:=ite_t hm (of_decide_eq_true h137)
   refine c_skip<|d_then<|c_seq<|c_block<|c_seq<|c_seq<|c_region<|g_v rfl r_move<|g_v rfl (r_nilck rfl)<|g_v rfl (r_field (n:=1) Tryz.underlying89 rfl Tryz.sizeOf4 rfl rfl) ?_
   refine g_v rfl (r_load (tag:=1000) rfl rfl rfl Tryz.isAgg4)<|g_nil<|d_then ?_
   refine c_cond rfl (fun h138=>?_) (fun h138=>?_)
   ·
    replace hm:=ite_t hm h138
    refine c_seq<|c_region<|g_v rfl r_assign<|g_nil<|d_then<|c_ret<|d_ret_then<|d_ret_block<|d_ret_then<|d_ret_then ?_
    refine d_ret_block<|d_ret_then<|d_ret_then ?_
    replace hm:=nx_out (C:=(fun e : ((List GFlush)×ByteArray×Bool) ⊕ ((List GFlush)×Gconf_reader)=>Sum.elim (fun e=>m_conf_list_73_j1 e.1 e.2.1 e.2.2) (fun x=>some x) e = some r)) hm hnx2 hr2
    replace hm : some (([] : List GFlush),(⟨s118,b119⟩ : Gconf_reader)) = some r:=hm
    cases hm
    refine d_sta _ (fun W h=>nilR h 21 48 2)<|d_sta _ (fun W h=>ok_frontR (t:=21) (t':=2000) h rfl) ?_
    exact d_retC (none,0) Tryz.results73 (res_tmp (res_nil rfl)) (Nat.le_refl 0) (fun W h=>(h.dropR (t:=16) rfl).phi (fun W hφ=>hφ)) (.inr rfl)
   replace hm:=ite_f hm (bool_nt h138)
   refine c_skip<|d_then<|c_region<|g_v rfl r_move<|g_v rfl r_move ?_
   replace hm:=bnd hm
   obtain ⟨⟨x139,x140⟩,hx141,hm⟩:=hm
   refine g_cnv ⟨w0,M,(1000,go1,.cells #[Vp go0] 87 (0,0))::(1001,go0,.cells #[Vs s118,.bool b119] 89 (0,0))::H,(16,⟨.slice A115 l114.length c116,48,2,l114.length,l114.flatMap GFlush.enc⟩)::R,φ⟩ (fun W h=>(ok_front (t:=9001) (t':=1000) (ok_front (t:=9000) (t':=1001) (ok_front (t:=1001) (t':=9001) (ok_front (t:=1000) (t':=9000) h rfl) rfl) rfl) rfl)) Tryz.call74 rfl rfl rfl (c_conf_Load_c4 go1 go0 (⟨s118,b119⟩ : Gconf_reader) _ hx141) (fun _ _=>?_)
   refine g_sta _ (fun W h=>(ok_front (t:=9001) (t':=1001) (ok_front (t:=9000) (t':=1000) (ok_front (t:=1000) (t':=9001) (ok_front (t:=1001) (t':=9000) h rfl) rfl) rfl) rfl)) ?_
   refine g_e rfl (e_lit (tag:=100170) (l:=[x139]) (enc:=GFlush.enc) (sz:=2) rfl Tryz.underlying28 (lit48_22 _ _) rfl rfl (fun _=>rfl)) (fun g143 _=>?_)
   replace hm:=bnd hm
   obtain ⟨l144,hl144,hm⟩:=hm
   refine g_e rfl (e_appR (enc:=GFlush.enc) (l:=l114) (l1:=[x139]) (l2:=l144) (tag:=16) Tryz.underlying28 inf48_16 rfl (by decide) (by decide) (fun _=>rfl) (fun _=>rfl) rfl hc116 rfl rfl (fun W hS=>rowCl (tag:=100170) rfl W hS) hl144) (fun ⟨A145,c146⟩ hc146=>?_)
   refine g_v rfl r_assign<|g_nil<|d_normal_block<|d_then ?_
   refine c_flat [(0,Vp go0),(1,.func (.func 74) #[] #[Vp go1]),(5,.slice A145 l144.length c146),(7,Vi x1),(8,Vi i117)] ⟨rfl,rfl,rfl,rfl,rfl,trivial⟩ (fun u=>?_)
   refine c_sta ⟨w0,M,(1001,go1,.cells #[Vp go0] 87 (0,0))::(1000,go0,.cells #[Vs x140.fs,.bool x140.fbad] 89 (0,0))::H,(100170,⟨.slice (some ⟨g143,0,none⟩) [x139].length 1,48,2,[x139].length,[x139].flatMap GFlush.enc⟩)::(16,⟨.slice A145 l144.length c146,48,2,l144.length,l144.flatMap GFlush.enc⟩)::R,φ⟩ (fun _ h=>h)<|c_region<|g_v rfl (r_add rfl rfl rfl)<|g_v rfl r_move<|g_nil ?_
   obtain ⟨n147,hn147,hlp⟩:=nx_inl hm hnx2
   exact d_round (n147,l144,w64 (i117 + 1),x140.fs,x140.fbad,A145,c146) ⟨hlp,hc146⟩ hn147 ⟨rfl,rfl,rfl,rfl,rfl,trivial⟩ (fun W h=>(ok_front (t:=1000) (t':=1000) (ok_front (t:=1001) (t':=1001) (h.dropR (t:=100170) rfl) rfl) rfl).phi (fun W hφ=>hφ))
  replace hm:=ite_f hm (of_decide_eq_false h137)
  refine c_exit<|d_exit_then<|d_exit_then<|d_exit_block ?_
  replace hm:=nx_out (C:=(fun e : ((List GFlush)×ByteArray×Bool) ⊕ ((List GFlush)×Gconf_reader)=>Sum.elim (fun e=>m_conf_list_73_j1 e.1 e.2.1 e.2.2) (fun x=>some x) e = some r)) hm hnx2 hr2
  exact d_round (l114,s118,b119,A115,c116) ⟨hm,hc116⟩ Nat.zero_lt_one ⟨rfl,trivial⟩ (fun W h=>h.phi (fun W hφ=>hφ))
 unfold m_conf_list_73_j1 at hm
 refine d_flat [(5,.slice A94 l93.length c95)] ⟨rfl,trivial⟩ (fun u=>?_)
 refine d_sta ⟨w0,M,(1000,go0,.cells #[Vs s96,.bool b97] 89 (0,0))::(1001,go1,.cells #[Vp go0] 87 (0,0))::H,(16,⟨.slice A94 l93.length c95,48,2,l93.length,l93.flatMap GFlush.enc⟩)::R,φ⟩ (fun _ h=>h)<|d_then<|c_seq<|c_region<|g_v rfl r_move<|g_v rfl r_assign<|g_nil<|d_then<|c_ret ?_
 cases hm
 refine d_sta _ (fun W h=>ok_frontR (t:=16) (t':=2000) h rfl) ?_
 exact d_retC (A94,c95) Tryz.results73 (res_tmp (res_nil rfl)) hc95 (fun W h=>h.phi (fun W hφ=>hφ)) (.inr rfl)
noncomputable def m_conf_Load (p0 : ByteArray) : Option (GConf×Int):=
  (m_conf_list_64 (⟨p0,false⟩ : Gconf_reader)).bind fun (z11 : (List Int)×Gconf_reader)=>
  (m_conf_list_67 z11.2).bind fun (z18 : (List ByteArray)×Gconf_reader)=>
  (m_conf_list_70 z18.2).bind fun (z25 : (List GAnchor)×Gconf_reader)=>
  (m_conf_reader_number 8 z25.2).bind fun (z29 : Int×Gconf_reader)=>
  (m_conf_list_73 z29.2).bind fun (z36 : (List GFlush)×Gconf_reader)=>
  if z36.2.fbad = true then
    some ((⟨([] : List Int),([] : List ByteArray),([] : List GAnchor),0,([] : List GFlush)⟩ : GConf),10)
  else
    if z36.2.fs = (⟨#[]⟩ : ByteArray) then
      (m_conf_Right (⟨z11.1,z18.1,z25.1,z29.1,z36.1⟩ : GConf)).bind fun x47=>
      if x47 = true then
        some ((⟨z11.1,z18.1,z25.1,z29.1,z36.1⟩ : GConf),0)
      else
        some ((⟨([] : List Int),([] : List ByteArray),([] : List GAnchor),0,([] : List GFlush)⟩ : GConf),10)
    else
      some ((⟨([] : List Int),([] : List ByteArray),([] : List GAnchor),0,([] : List GFlush)⟩ : GConf),10)
theorem c_conf_Load {w0 : World} {M : Nat→Prop} {H : List (Nat×Nat×Obj)} {R : List (Nat×Row)} {φ : World→Prop} (p0 : ByteArray) (r : GConf×Int) (hm : m_conf_Load p0 = some r) :
    Cn Tryz.prog 16 #[Vs p0] ⟨w0,M,H,R,φ⟩ (fun x : Option Addr×Nat×Option Addr×Nat×Option Addr×Nat×Option Addr×Nat=>.tuple #[.agg #[.slice x.1 r.1.fRing.length x.2.1,.slice x.2.2.1 r.1.fHints.length x.2.2.2.1,.slice x.2.2.2.2.1 r.1.fAnchors.length x.2.2.2.2.2.1,Vi r.1.fEpoch,.slice x.2.2.2.2.2.2.1 r.1.fFlushes.length x.2.2.2.2.2.2.2],Vi r.2]) (fun x=>r.1.fRing.length ≤ x.2.1∧r.1.fHints.length ≤ x.2.2.2.1∧r.1.fAnchors.length ≤ x.2.2.2.2.2.1∧r.1.fFlushes.length ≤ x.2.2.2.2.2.2.2) (fun x=>⟨w0,M,H,R,fun W=>φ W∧Cl W x.1 (r.1.fRing.flatMap (fun x : Int=>[Value.int .i64 x]))∧Cl W x.2.2.1 (r.1.fHints.flatMap (fun x : ByteArray=>[Value.string x]))∧Cl W x.2.2.2.2.1 (r.1.fAnchors.flatMap GAnchor.enc)∧Cl W x.2.2.2.2.2.2.1 (r.1.fFlushes.flatMap GFlush.enc)⟩):=by
 unfold m_conf_Load at hm
 refine cn_intro (fn:=Tryz.f16) (N:=46) Tryz.func16 rfl Tryz.ntmps16 rfl<|c_seq<|c_region ?_
 refine g_e rfl (e_alloc 100020 Tryz.zeroValue30) (fun g1 _=>?_)
 refine g_v rfl r_assign<|g_nil<|d_then<|c_seq<|c_region<|g_v rfl r_move<|g_v rfl (r_build _ rfl (bld89_25 _)) ?_
 refine g_e rfl (e_box 100080 rfl) (fun g2 _=>?_)
 refine g_e rfl (e_alloc 100040 Tryz.zeroValue87) (fun g3 _=>?_)
 refine g_storeL (tag:=100040) rfl rfl rfl rfl Tryz.sizeOf87 rfl rfl<|g_nil<|d_then<|c_seq<|c_region ?_
 refine g_e rfl (e_alloc 100050 Tryz.zeroValue30) (fun g4 _=>?_)
 refine g_nil<|d_then<|c_seq<|c_region<|g_v rfl (r_load (tag:=100040) rfl rfl rfl Tryz.isAgg87)<|g_v rfl (r_mkf rfl) ?_
 replace hm:=bnd hm
 obtain ⟨⟨x5,x6⟩,hx7,hm⟩:=hm
 refine g_cn ⟨w0,M,(1000,g2,.cells #[Vs p0,.bool false] 89 (0,0))::(1001,g3,.cells #[Vp g2] 87 (0,0))::(100050,g4,.cells #[V0,V0,V0,Vi 0,V0] 30 (0,0))::(100020,g1,.cells #[V0,V0,V0,Vi 0,V0] 30 (0,0))::H,R,φ⟩ (fun W h=>(ok_front (t:=100080) (t':=1000) (ok_front (t:=100040) (t':=1001) h rfl) rfl)) Tryz.call64 rfl rfl (c_conf_list_64 g2 (⟨p0,false⟩ : Gconf_reader) g3 _ hx7) (fun ⟨A8,c9⟩ hc9=>?_)
 refine g_sta _ (fun W h=>(ok_frontR (t:=2000) (t':=100110) (ok_front (t:=1000) (t':=100080) (ok_front (t:=1001) (t':=100040) h rfl) rfl) rfl))<|g_v rfl (r_field (n:=0) Tryz.underlying30 rfl Tryz.sizeOf25 rfl rfl)<|g_storeL (tag:=100050) rfl rfl rfl rfl Tryz.sizeOf25 rfl rfl<|g_nil<|d_then ?_
 refine c_flat [(2,Vp g1),(4,Vp g3),(5,Vp g4)] ⟨rfl,rfl,rfl,trivial⟩ (fun u=>?_)
 refine c_sta ⟨w0,M,(100080,g2,.cells #[Vs x6.fs,.bool x6.fbad] 89 (0,0))::(100040,g3,.cells #[Vp g2] 87 (0,0))::(100050,g4,.cells #[.slice A8 x5.length c9,V0,V0,Vi 0,V0] 30 (0,0))::(100020,g1,.cells #[V0,V0,V0,Vi 0,V0] 30 (0,0))::H,(100110,⟨.slice A8 x5.length c9,3,1,x5.length,x5.flatMap (fun x : Int=>[Value.int .i64 x])⟩)::R,φ⟩ (fun _ h=>h)<|c_seq<|c_region<|g_v rfl (r_load (tag:=100040) rfl rfl rfl Tryz.isAgg87)<|g_v rfl (r_mkf rfl) ?_
 replace hm:=bnd hm
 obtain ⟨⟨x12,x13⟩,hx14,hm⟩:=hm
 refine g_cn ⟨w0,M,(1000,g2,.cells #[Vs x6.fs,.bool x6.fbad] 89 (0,0))::(1001,g3,.cells #[Vp g2] 87 (0,0))::(100050,g4,.cells #[.slice A8 x5.length c9,V0,V0,Vi 0,V0] 30 (0,0))::(100020,g1,.cells #[V0,V0,V0,Vi 0,V0] 30 (0,0))::H,(100110,⟨.slice A8 x5.length c9,3,1,x5.length,x5.flatMap (fun x : Int=>[Value.int .i64 x])⟩)::R,φ⟩ (fun W h=>(ok_front (t:=100080) (t':=1000) (ok_front (t:=100040) (t':=1001) h rfl) rfl)) Tryz.call67 rfl rfl (c_conf_list_67 g2 x6 g3 _ hx14) (fun ⟨A15,c16⟩ hc16=>?_)
 refine g_sta _ (fun W h=>(ok_frontR (t:=2000) (t':=100150) (ok_front (t:=1000) (t':=100080) (ok_front (t:=1001) (t':=100040) h rfl) rfl) rfl))<|g_v rfl (r_field (n:=1) Tryz.underlying30 rfl Tryz.sizeOf26 rfl rfl)<|g_storeL (tag:=100050) rfl rfl rfl rfl Tryz.sizeOf26 rfl rfl<|g_nil<|d_then<|c_seq<|c_region<|g_v rfl (r_load (tag:=100040) rfl rfl rfl Tryz.isAgg87)<|g_v rfl (r_mkf rfl) ?_
 replace hm:=bnd hm
 obtain ⟨⟨x19,x20⟩,hx21,hm⟩:=hm
 refine g_cn ⟨w0,M,(1000,g2,.cells #[Vs x13.fs,.bool x13.fbad] 89 (0,0))::(1001,g3,.cells #[Vp g2] 87 (0,0))::(100050,g4,.cells #[.slice A8 x5.length c9,.slice A15 x12.length c16,V0,Vi 0,V0] 30 (0,0))::(100020,g1,.cells #[V0,V0,V0,Vi 0,V0] 30 (0,0))::H,(100150,⟨.slice A15 x12.length c16,9,1,x12.length,x12.flatMap (fun x : ByteArray=>[Value.string x])⟩)::(100110,⟨.slice A8 x5.length c9,3,1,x5.length,x5.flatMap (fun x : Int=>[Value.int .i64 x])⟩)::R,φ⟩ (fun W h=>(ok_front (t:=100080) (t':=1000) (ok_front (t:=100040) (t':=1001) h rfl) rfl)) Tryz.call70 rfl rfl (c_conf_list_70 g2 x13 g3 _ hx21) (fun ⟨A22,c23⟩ hc23=>?_)
 refine g_sta _ (fun W h=>(ok_frontR (t:=2000) (t':=100190) (ok_front (t:=1000) (t':=100080) (ok_front (t:=1001) (t':=100040) h rfl) rfl) rfl))<|g_v rfl (r_field (n:=2) Tryz.underlying30 rfl Tryz.sizeOf27 rfl rfl)<|g_storeL (tag:=100050) rfl rfl rfl rfl Tryz.sizeOf27 rfl rfl<|g_nil<|d_then ?_
 refine c_flat [(2,Vp g1),(4,Vp g3),(5,Vp g4)] ⟨rfl,rfl,rfl,trivial⟩ (fun u=>?_)
 refine c_sta ⟨w0,M,(100080,g2,.cells #[Vs x20.fs,.bool x20.fbad] 89 (0,0))::(100040,g3,.cells #[Vp g2] 87 (0,0))::(100050,g4,.cells #[.slice A8 x5.length c9,.slice A15 x12.length c16,.slice A22 x19.length c23,Vi 0,V0] 30 (0,0))::(100020,g1,.cells #[V0,V0,V0,Vi 0,V0] 30 (0,0))::H,(100190,⟨.slice A22 x19.length c23,55,2,x19.length,x19.flatMap GAnchor.enc⟩)::(100150,⟨.slice A15 x12.length c16,9,1,x12.length,x12.flatMap (fun x : ByteArray=>[Value.string x])⟩)::(100110,⟨.slice A8 x5.length c9,3,1,x5.length,x5.flatMap (fun x : Int=>[Value.int .i64 x])⟩)::R,φ⟩ (fun _ h=>h)<|c_seq<|c_region<|g_v rfl (r_load (tag:=100040) rfl rfl rfl Tryz.isAgg87) ?_
 replace hm:=bnd hm
 obtain ⟨⟨x26,x27⟩,hx28,hm⟩:=hm
 refine g_cn ⟨w0,M,(1000,g2,.cells #[Vs x20.fs,.bool x20.fbad] 89 (0,0))::(100040,g3,.cells #[Vp g2] 87 (0,0))::(100050,g4,.cells #[.slice A8 x5.length c9,.slice A15 x12.length c16,.slice A22 x19.length c23,Vi 0,V0] 30 (0,0))::(100020,g1,.cells #[V0,V0,V0,Vi 0,V0] 30 (0,0))::H,(100190,⟨.slice A22 x19.length c23,55,2,x19.length,x19.flatMap GAnchor.enc⟩)::(100150,⟨.slice A15 x12.length c16,9,1,x12.length,x12.flatMap (fun x : ByteArray=>[Value.string x])⟩)::(100110,⟨.slice A8 x5.length c9,3,1,x5.length,x5.flatMap (fun x : Int=>[Value.int .i64 x])⟩)::R,φ⟩ (fun W h=>(ok_front (t:=100080) (t':=1000) h rfl)) Tryz.call66 rfl rfl (c_conf_reader_number 8 g2 x20 _ hx28) (fun _ _=>?_)
 refine g_sta _ (fun W h=>(ok_front (t:=1000) (t':=100080) h rfl))<|g_v rfl (r_field (n:=3) Tryz.underlying30 rfl Tryz.sizeOf3 rfl rfl)<|g_storeL (tag:=100050) rfl rfl rfl rfl Tryz.sizeOf3 rfl rfl<|g_nil<|d_then<|c_seq<|c_region<|g_v rfl (r_load (tag:=100040) rfl rfl rfl Tryz.isAgg87)<|g_v rfl (r_mkf rfl) ?_
 replace hm:=bnd hm
 obtain ⟨⟨x30,x31⟩,hx32,hm⟩:=hm
 refine g_cn ⟨w0,M,(1000,g2,.cells #[Vs x27.fs,.bool x27.fbad] 89 (0,0))::(1001,g3,.cells #[Vp g2] 87 (0,0))::(100050,g4,.cells #[.slice A8 x5.length c9,.slice A15 x12.length c16,.slice A22 x19.length c23,Vi x26,V0] 30 (0,0))::(100020,g1,.cells #[V0,V0,V0,Vi 0,V0] 30 (0,0))::H,(100190,⟨.slice A22 x19.length c23,55,2,x19.length,x19.flatMap GAnchor.enc⟩)::(100150,⟨.slice A15 x12.length c16,9,1,x12.length,x12.flatMap (fun x : ByteArray=>[Value.string x])⟩)::(100110,⟨.slice A8 x5.length c9,3,1,x5.length,x5.flatMap (fun x : Int=>[Value.int .i64 x])⟩)::R,φ⟩ (fun W h=>(ok_front (t:=100080) (t':=1000) (ok_front (t:=100040) (t':=1001) h rfl) rfl)) Tryz.call73 rfl rfl (c_conf_list_73 g2 x27 g3 _ hx32) (fun ⟨A33,c34⟩ hc34=>?_)
 refine g_sta _ (fun W h=>(ok_frontR (t:=2000) (t':=100260) (ok_front (t:=1000) (t':=100080) (ok_front (t:=1001) (t':=100040) h rfl) rfl) rfl))<|g_v rfl (r_field (n:=4) Tryz.underlying30 rfl Tryz.sizeOf28 rfl rfl)<|g_storeL (tag:=100050) rfl rfl rfl rfl Tryz.sizeOf28 rfl rfl<|g_nil<|d_then ?_
 refine c_flat [(2,Vp g1),(4,Vp g3),(5,Vp g4)] ⟨rfl,rfl,rfl,trivial⟩ (fun u=>?_)
 refine c_sta ⟨w0,M,(100080,g2,.cells #[Vs x31.fs,.bool x31.fbad] 89 (0,0))::(100040,g3,.cells #[Vp g2] 87 (0,0))::(100050,g4,.cells #[.slice A8 x5.length c9,.slice A15 x12.length c16,.slice A22 x19.length c23,Vi x26,.slice A33 x30.length c34] 30 (0,0))::(100020,g1,.cells #[V0,V0,V0,Vi 0,V0] 30 (0,0))::H,(100260,⟨.slice A33 x30.length c34,48,2,x30.length,x30.flatMap GFlush.enc⟩)::(100190,⟨.slice A22 x19.length c23,55,2,x19.length,x19.flatMap GAnchor.enc⟩)::(100150,⟨.slice A15 x12.length c16,9,1,x12.length,x12.flatMap (fun x : ByteArray=>[Value.string x])⟩)::(100110,⟨.slice A8 x5.length c9,3,1,x5.length,x5.flatMap (fun x : Int=>[Value.int .i64 x])⟩)::R,φ⟩ (fun _ h=>h)<|c_seq<|c_seq<|c_region<|g_v rfl (r_load (tag:=100040) rfl rfl rfl Tryz.isAgg87)<|g_v rfl (r_nilck rfl)<|g_v rfl (r_field (n:=1) Tryz.underlying89 rfl Tryz.sizeOf4 rfl rfl)<|g_v rfl (r_load (tag:=100080) rfl rfl rfl Tryz.isAgg4)<|g_v rfl r_move ?_
 refine g_if rfl rfl rfl rfl rfl (fun h37=>?_) (fun h37=>?_)
 ·
  replace hm:=ite_f hm (bool_nt h37)
  refine g_v rfl (r_load (tag:=100040) rfl rfl rfl Tryz.isAgg87)<|g_do rfl rfl rfl rfl rfl h37<|g_v rfl (r_nilck rfl)<|g_do rfl rfl rfl rfl rfl h37<|g_v rfl (r_field (n:=0) Tryz.underlying89 rfl Tryz.sizeOf9 rfl rfl)<|g_do rfl rfl rfl rfl rfl h37<|g_v rfl (r_load (tag:=100080) rfl rfl rfl Tryz.isAgg9)<|g_do rfl rfl rfl rfl rfl h37<|g_v rfl (r_neqT rfl rfl)<|g_v rfl (r_pick0 rfl h37) ?_
  refine g_v rfl r_move ?_
  refine g_if rfl rfl rfl rfl rfl (fun h38=>?_) (fun h38=>?_)
  ·
   have h38' : (decide (x31.fs = eB)) = true:=by revert h38; cases (decide (x31.fs = eB)) <;> simp
   replace hm:=ite_t hm (of_decide_eq_true h38')
   refine g_v rfl (r_loadA (tag:=100050) rfl rfl Tryz.isAgg30 Tryz.sizeOf30 rfl rfl)<|g_do rfl rfl rfl rfl rfl h38 ?_
   refine g_shut (tag:=100110) rfl (fun φ39 q39'=>?_)
   have q39 : ∀ W,φ39 W→φ W:=fun W h=>(q39' W h).1
   have f40:=fun (W : World) (h : φ39 W)=>(q39' W h).2
   refine g_shut (tag:=100150) rfl (fun φ41 q41'=>?_)
   have q41 : ∀ W,φ41 W→φ39 W:=fun W h=>(q41' W h).1
   have f42:=fun (W : World) (h : φ41 W)=>(q41' W h).2
   refine g_shut (tag:=100190) rfl (fun φ43 q43'=>?_)
   have q43 : ∀ W,φ43 W→φ41 W:=fun W h=>(q43' W h).1
   have f44:=fun (W : World) (h : φ43 W)=>(q43' W h).2
   refine g_shut (tag:=100260) rfl (fun φ45 q45'=>?_)
   have q45 : ∀ W,φ45 W→φ43 W:=fun W h=>(q45' W h).1
   have f46:=fun (W : World) (h : φ45 W)=>(q45' W h).2
   replace hm:=bnd hm
   obtain ⟨x47,hx48,hm⟩:=hm
   refine g_cn ⟨w0,M,_,_,φ45⟩ (fun _ h=>h) Tryz.call13 rfl rfl (c_conf_Right (⟨x5,x12,x19,x26,x30⟩ : GConf) A8 c9 hc9 (fun W h=>f40 W (q41 _ (q43 _ (q45 _ h)))) A15 c16 hc16 (fun W h=>f42 W (q43 _ (q45 _ h))) A22 c23 hc23 (fun W h=>f44 W (q45 _ h)) A33 c34 hc34 (fun W h=>f46 W h) _ hx48) (fun _ _=>?_)
   refine g_do rfl rfl rfl rfl rfl h38<|g_v rfl (r_not rfl)<|g_v rfl (r_pick0 rfl h38)<|g_nil<|d_then ?_
   refine c_flat [(2,Vp g1),(5,Vp g4),(43,.bool (!x47))] ⟨rfl,rfl,rfl,trivial⟩ (fun u=>?_)
   refine c_sta ⟨w0,M,(100080,g2,.cells #[Vs x31.fs,.bool x31.fbad] 89 (0,0))::(100040,g3,.cells #[Vp g2] 87 (0,0))::(100050,g4,.cells #[.slice A8 x5.length c9,.slice A15 x12.length c16,.slice A22 x19.length c23,Vi x26,.slice A33 x30.length c34] 30 (0,0))::(100020,g1,.cells #[V0,V0,V0,Vi 0,V0] 30 (0,0))::H,R,φ45⟩ (fun _ h=>h) ?_
   refine c_cond rfl (fun h49=>?_) (fun h49=>?_)
   ·
    have h49' : x47 = false:=by revert h49; cases x47 <;> simp
    replace hm:=ite_f hm (bool_nt h49')
    refine c_seq<|c_region<|g_v rfl (r_build _ rfl (bld30_9))<|g_storeL (tag:=100020) rfl rfl rfl rfl Tryz.sizeOf30 rfl rfl<|g_v rfl r_assign<|g_nil<|d_then<|c_ret<|d_ret_then ?_
    cases hm
    exact d_retC (none,0,none,0,none,0,none,0) Tryz.results16 (res_agg (tag:=100020) rfl rfl Tryz.isAgg30 Tryz.sizeOf30 (res_tmp (res_nil rfl))) ⟨(Nat.le_refl 0),(Nat.le_refl 0),(Nat.le_refl 0),(Nat.le_refl 0)⟩ (fun W h=>ok_pre (H1:=[_,_,_,_]) (R1:=[]) h (fun W hφ=>⟨(q39 _ (q41 _ (q43 _ (q45 _ hφ)))),(fun W _=>Cl.nil _ _) W hφ,(fun W _=>Cl.nil _ _) W hφ,(fun W _=>Cl.nil _ _) W hφ,(fun W _=>Cl.nil _ _) W hφ⟩)) (.inr rfl)
   have h49' : x47 = true:=by revert h49; cases x47 <;> simp
   replace hm:=ite_t hm h49'
   refine c_skip<|d_then<|c_seq<|c_region<|g_v rfl (r_loadA (tag:=100050) rfl rfl Tryz.isAgg30 Tryz.sizeOf30 rfl rfl)<|g_storeL (tag:=100020) rfl rfl rfl rfl Tryz.sizeOf30 rfl rfl<|g_v rfl r_assign<|g_nil<|d_then<|c_ret ?_
   cases hm
   exact d_retC (A8,c9,A15,c16,A22,c23,A33,c34) Tryz.results16 (res_agg (tag:=100020) rfl rfl Tryz.isAgg30 Tryz.sizeOf30 (res_tmp (res_nil rfl))) ⟨hc9,hc16,hc23,hc34⟩ (fun W h=>ok_pre (H1:=[_,_,_,_]) (R1:=[]) h (fun W hφ=>⟨(q39 _ (q41 _ (q43 _ (q45 _ hφ)))),(fun W h=>f40 W (q41 _ (q43 _ (q45 _ h)))) W hφ,(fun W h=>f42 W (q43 _ (q45 _ h))) W hφ,(fun W h=>f44 W (q45 _ h)) W hφ,(fun W h=>f46 W h) W hφ⟩)) (.inr rfl)
  have h38' : (decide (x31.fs = eB)) = false:=by revert h38; cases (decide (x31.fs = eB)) <;> simp
  replace hm:=ite_f hm (of_decide_eq_false h38')
  refine g_no rfl rfl rfl rfl rfl h38<|g_no rfl rfl rfl rfl rfl h38<|g_v rfl (r_pick1 rfl h38)<|g_nil<|d_then ?_
  refine c_flat [(2,Vp g1),(5,Vp g4),(43,.bool true)] ⟨rfl,rfl,rfl,trivial⟩ (fun u=>?_)
  refine c_cond1 rfl rfl<|c_seq<|c_region<|g_v rfl (r_build _ rfl (bld30_9))<|g_storeL (tag:=100020) rfl rfl rfl rfl Tryz.sizeOf30 rfl rfl<|g_v rfl r_assign<|g_nil<|d_then<|c_ret<|d_ret_then ?_
  cases hm
  exact d_retC (none,0,none,0,none,0,none,0) Tryz.results16 (res_agg (tag:=100020) rfl rfl Tryz.isAgg30 Tryz.sizeOf30 (res_tmp (res_nil rfl))) ⟨(Nat.le_refl 0),(Nat.le_refl 0),(Nat.le_refl 0),(Nat.le_refl 0)⟩ (fun W h=>ok_pre (H1:=[_,_,_,_]) (R1:=[_,_,_,_]) h (fun W hφ=>⟨hφ,(fun W _=>Cl.nil _ _) W hφ,(fun W _=>Cl.nil _ _) W hφ,(fun W _=>Cl.nil _ _) W hφ,(fun W _=>Cl.nil _ _) W hφ⟩)) (.inr rfl)
 replace hm:=ite_t hm h37
 iterate 4 refine g_no rfl rfl rfl rfl rfl h37 ?_
 refine g_v rfl (r_pick1 rfl h37)<|g_v rfl r_move ?_
 iterate 3 refine g_no rfl rfl rfl rfl rfl rfl ?_
 refine g_v rfl (r_pick1 rfl rfl)<|g_nil<|d_then<|c_cond1 rfl rfl<|c_seq<|c_region<|g_v rfl (r_build _ rfl (bld30_9))<|g_storeL (tag:=100020) rfl rfl rfl rfl Tryz.sizeOf30 rfl rfl<|g_v rfl r_assign<|g_nil ?_
 refine d_then ?_
 refine c_flat [(2,Vp g1),(3,Vi 10)] ⟨rfl,rfl,trivial⟩ (fun u=>?_)
 refine c_ret<|d_ret_then ?_
 cases hm
 exact d_retC (none,0,none,0,none,0,none,0) Tryz.results16 (res_agg (tag:=100020) rfl rfl Tryz.isAgg30 Tryz.sizeOf30 (res_tmp (res_nil rfl))) ⟨(Nat.le_refl 0),(Nat.le_refl 0),(Nat.le_refl 0),(Nat.le_refl 0)⟩ (fun W h=>ok_pre (H1:=[_,_,_,_]) (R1:=[_,_,_,_]) h (fun W hφ=>⟨hφ,(fun W _=>Cl.nil _ _) W hφ,(fun W _=>Cl.nil _ _) W hφ,(fun W _=>Cl.nil _ _) W hφ,(fun W _=>Cl.nil _ _) W hφ⟩)) (.inr rfl)
noncomputable def m_ref13_Right_j4  : Option Bool:=
  some true
noncomputable def m_ref13_Right_j6 (i298 : Int) : Option (Int ⊕ (Unit ⊕ Bool)):=
  some (.inl (w64 (i298 + 1)))
noncomputable def m_ref13_Right_s7 (i298 : Int) (p0 : GConf) (x397 : GFlush) (i514 : Int) : Option (Int ⊕ (Unit ⊕ Bool)):=
  if i514 < i298 then
    (at_ p0.fFlushes i514).bind fun x555=>
    (m_ref03_Under x555.fZone x397.fZone).bind fun x560=>
    if x560 = true then
      some (.inr (.inr false))
    else
      some (.inl (w64 (i514 + 1)))
  else
    some (.inr (.inl ()))
noncomputable def m_ref13_Right_j8 (i298 : Int) : Option (Int ⊕ (Unit ⊕ Bool)):=
  some (.inl (w64 (i298 + 1)))
noncomputable def m_ref13_Right_s9  : Option (Unit ⊕ (Unit ⊕ Bool)):=
  some (.inr (.inl ()))
noncomputable def m_ref13_Right_s5 (p0 : GConf) (i298 : Int) : Option (Int ⊕ (Unit ⊕ Bool)):=
  if i298 < (p0.fFlushes.length : Int) then
    (at_ p0.fFlushes i298).bind fun x397=>
    (m_ref13_name x397.fZone).bind fun x402=>
    if x402 = true then
      (m_ref03_Lower x397.fZone).bind fun x429=>
      if x429 = x397.fZone then
        if x397.fEpoch < 1 then
          some (.inr (.inr false))
        else
          if p0.fEpoch < x397.fEpoch then
            some (.inr (.inr false))
          else
            if 0 < i298 then
              (at_ p0.fFlushes (w64 (i298 - 1))).bind fun x435=>
              if x397.fEpoch ≤ x435.fEpoch then
                some (.inr (.inr false))
              else
                (loop (fun s=>m_ref13_Right_s7 i298 p0 x397 s) 0).bind fun e=>Sum.elim (fun e=>m_ref13_Right_j6 i298) (fun x=>some (.inr (.inr x))) e
            else
              (loop (fun _ : Unit=>m_ref13_Right_s9) ()).bind fun e=>Sum.elim (fun e=>m_ref13_Right_j8 i298) (fun x=>some (.inr (.inr x))) e
      else
        some (.inr (.inr false))
    else
      some (.inr (.inr false))
  else
    some (.inr (.inl ()))
noncomputable def m_ref13_Right_j3 (p0 : GConf) : Option Bool:=
  (loop (fun s=>m_ref13_Right_s5 p0 s) 0).bind fun e=>Sum.elim (fun e=>m_ref13_Right_j4) (fun x=>some x) e
noncomputable def m_ref13_Right_s10 (p0 : GConf) (i585 : Int) : Option (Int ⊕ (Unit ⊕ Bool)):=
  if i585 < (p0.fAnchors.length : Int) then
    (at_ p0.fAnchors i585).bind fun x637=>
    (m_ref13_name x637.fName).bind fun x642=>
    if x642 = true then
      if (x637.fText.size : Int) < 1 then
        some (.inr (.inr false))
      else
        if 200 < (x637.fText.size : Int) then
          some (.inr (.inr false))
        else
          if 0 < i585 then
            (at_ p0.fAnchors (w64 (i585 - 1))).bind fun x674=>
            (m_ref03_Lower x637.fName).bind fun x679=>
            (m_ref03_Lower x674.fName).bind fun x681=>
            if (sless x679 x681 || decide (x679 = x681)) = true then
              some (.inr (.inr false))
            else
              some (.inl (w64 (i585 + 1)))
          else
            some (.inl (w64 (i585 + 1)))
    else
      some (.inr (.inr false))
  else
    some (.inr (.inl ()))
noncomputable def m_ref13_Right_j2 (p0 : GConf) : Option Bool:=
  (loop (fun s=>m_ref13_Right_s10 p0 s) 0).bind fun e=>Sum.elim (fun e=>m_ref13_Right_j3 p0) (fun x=>some x) e
noncomputable def m_ref13_Right_s11 (p0 : GConf) (i693 : Int) : Option (Int ⊕ (Unit ⊕ Bool)):=
  if i693 < (p0.fHints.length : Int) then
    (at_ p0.fHints i693).bind fun x703=>
    if (x703.size : Int) ≠ 4 then
      some (.inr (.inr false))
    else
      some (.inl (w64 (i693 + 1)))
  else
    some (.inr (.inl ()))
noncomputable def m_ref13_Right_j1 (p0 : GConf) : Option Bool:=
  (loop (fun s=>m_ref13_Right_s11 p0 s) 0).bind fun e=>Sum.elim (fun e=>m_ref13_Right_j2 p0) (fun x=>some x) e
noncomputable def m_ref13_Right_s12 (p0 : GConf) (i720 : Int) : Option (Int ⊕ (Unit ⊕ Bool)):=
  if i720 < (p0.fRing.length : Int) then
    (at_ p0.fRing i720).bind fun x762=>
    (m_ref13_node x762).bind fun x766=>
    if x766 = true then
      if 0 < i720 then
        (at_ p0.fRing i720).bind fun x790=>
        (at_ p0.fRing (w64 (i720 - 1))).bind fun x794=>
        if x790 ≤ x794 then
          some (.inr (.inr false))
        else
          some (.inl (w64 (i720 + 1)))
      else
        some (.inl (w64 (i720 + 1)))
    else
      some (.inr (.inr false))
  else
    some (.inr (.inl ()))
noncomputable def m_ref13_Right (p0 : GConf) : Option Bool:=
  if 13 < (p0.fHints.length : Int) then
    some false
  else
    if 16 < (p0.fAnchors.length : Int) then
      some false
    else
      if p0.fEpoch < 0 then
        some false
      else
        if 1099511627776 < p0.fEpoch then
          some false
        else
          if 32 < (p0.fFlushes.length : Int) then
            some false
          else
            (loop (fun s=>m_ref13_Right_s12 p0 s) 0).bind fun e=>Sum.elim (fun e=>m_ref13_Right_j1 p0) (fun x=>some x) e
theorem c_ref13_Right {w0 : World} {M : Nat→Prop} {H : List (Nat×Nat×Obj)} {R : List (Nat×Row)} {φ : World→Prop} (p0 : GConf) (Ap0_0 : Option Addr) (cp0_0 : Nat) (hcp0_0 : p0.fRing.length ≤ cp0_0) (fp0_0 : ∀ W,(Sta.mk w0 M H R φ).ok W→Cl W Ap0_0 (p0.fRing.flatMap (fun x : Int=>[Value.int .i64 x]))) (Ap0_1 : Option Addr) (cp0_1 : Nat) (hcp0_1 : p0.fHints.length ≤ cp0_1) (fp0_1 : ∀ W,(Sta.mk w0 M H R φ).ok W→Cl W Ap0_1 (p0.fHints.flatMap (fun x : ByteArray=>[Value.string x]))) (Ap0_2 : Option Addr) (cp0_2 : Nat) (hcp0_2 : p0.fAnchors.length ≤ cp0_2) (fp0_2 : ∀ W,(Sta.mk w0 M H R φ).ok W→Cl W Ap0_2 (p0.fAnchors.flatMap GAnchor.enc)) (Ap0_3 : Option Addr) (cp0_3 : Nat) (hcp0_3 : p0.fFlushes.length ≤ cp0_3) (fp0_3 : ∀ W,(Sta.mk w0 M H R φ).ok W→Cl W Ap0_3 (p0.fFlushes.flatMap GFlush.enc)) (r : Bool) (hm : m_ref13_Right p0 = some r) :
    Cn Tryz.prog 20 #[.agg #[.slice Ap0_0 p0.fRing.length cp0_0,.slice Ap0_1 p0.fHints.length cp0_1,.slice Ap0_2 p0.fAnchors.length cp0_2,Vi p0.fEpoch,.slice Ap0_3 p0.fFlushes.length cp0_3]] ⟨w0,M,H,R,φ⟩ (fun x : Unit=>.bool r) (fun x=>True) (fun x=>⟨w0,M,H,R,φ⟩):=by
 unfold m_ref13_Right at hm
 refine cn_intro (fn:=Tryz.f20) (N:=202) Tryz.func20 rfl Tryz.ntmps20 rfl<|c_seq<|c_region ?_
 refine g_e rfl (e_box 100010 rfl) (fun g1 _=>?_)
 refine g_v rfl r_assign<|g_nil<|d_then<|c_seq<|c_seq<|c_region<|g_v rfl (r_field (n:=1) Tryz.underlying30 rfl Tryz.sizeOf26 rfl rfl)<|g_v rfl (r_load (tag:=100010) rfl rfl rfl Tryz.isAgg26)<|g_v rfl (r_lenL Tryz.underlying26 rfl)<|g_v rfl (r_gtr rfl rfl) ?_
 refine g_v rfl r_move<|g_sta ⟨w0,M,(100010,g1,.cells #[.slice Ap0_0 p0.fRing.length cp0_0,.slice Ap0_1 p0.fHints.length cp0_1,.slice Ap0_2 p0.fAnchors.length cp0_2,Vi p0.fEpoch,.slice Ap0_3 p0.fFlushes.length cp0_3] 30 (0,0))::H,R,φ⟩ (fun _ h=>h) ?_
 refine g_if rfl rfl rfl rfl rfl (fun h2=>?_) (fun h2=>?_)
 ·
  replace hm:=ite_f hm (of_decide_eq_false h2)
  refine g_v rfl (r_field (n:=2) Tryz.underlying30 rfl Tryz.sizeOf27 rfl rfl)<|g_do rfl rfl rfl rfl rfl h2<|g_v rfl (r_load (tag:=100010) rfl rfl rfl Tryz.isAgg27)<|g_do rfl rfl rfl rfl rfl h2<|g_v rfl (r_lenL Tryz.underlying27 rfl)<|g_do rfl rfl rfl rfl rfl h2<|g_v rfl (r_gtr rfl rfl)<|g_v rfl (r_pick0 rfl h2)<|g_v rfl r_move ?_
  refine g_if rfl rfl rfl rfl rfl (fun h3=>?_) (fun h3=>?_)
  ·
   replace hm:=ite_f hm (of_decide_eq_false h3)
   refine g_v rfl (r_field (n:=3) Tryz.underlying30 rfl Tryz.sizeOf3 rfl rfl)<|g_do rfl rfl rfl rfl rfl h3<|g_v rfl (r_load (tag:=100010) rfl rfl rfl Tryz.isAgg3)<|g_do rfl rfl rfl rfl rfl h3<|g_v rfl (r_lss rfl rfl)<|g_v rfl (r_pick0 rfl h3)<|g_v rfl r_move ?_
   refine g_if rfl rfl rfl rfl rfl (fun h4=>?_) (fun h4=>?_)
   ·
    replace hm:=ite_f hm (of_decide_eq_false h4)
    refine g_v rfl (r_field (n:=3) Tryz.underlying30 rfl Tryz.sizeOf3 rfl rfl)<|g_do rfl rfl rfl rfl rfl h4<|g_v rfl (r_load (tag:=100010) rfl rfl rfl Tryz.isAgg3)<|g_do rfl rfl rfl rfl rfl h4<|g_v rfl (r_gtr rfl rfl)<|g_v rfl (r_pick0 rfl h4)<|g_v rfl r_move ?_
    refine g_if rfl rfl rfl rfl rfl (fun h5=>?_) (fun h5=>?_)
    ·
     replace hm:=ite_f hm (of_decide_eq_false h5)
     refine g_v rfl (r_field (n:=4) Tryz.underlying30 rfl Tryz.sizeOf28 rfl rfl)<|g_do rfl rfl rfl rfl rfl h5<|g_v rfl (r_load (tag:=100010) rfl rfl rfl Tryz.isAgg28)<|g_do rfl rfl rfl rfl rfl h5<|g_v rfl (r_lenL Tryz.underlying28 rfl)<|g_do rfl rfl rfl rfl rfl h5<|g_v rfl (r_gtr rfl rfl)<|g_v rfl (r_pick0 rfl h5)<|g_nil<|d_then ?_
     refine c_flat [(1,Vp g1),(39,.bool (decide (32 < (p0.fFlushes.length : Int))))] ⟨rfl,rfl,trivial⟩ (fun u=>?_)
     refine c_cond rfl (fun h6=>?_) (fun h6=>?_)
     ·
      replace hm:=ite_t hm (of_decide_eq_true h6)
      refine c_seq<|c_region<|g_v rfl r_assign<|g_nil<|d_then<|c_ret<|d_ret_then ?_
      cases hm
      exact d_retC () Tryz.results20 (res_tmp (res_nil rfl)) trivial (fun W h=>ok_pre (H1:=[_]) (R1:=[]) h (fun W hφ=>hφ)) (.inr rfl)
     replace hm:=ite_f hm (of_decide_eq_false h6)
     refine c_skip<|d_then<|c_seq<|c_seq<|c_region<|g_v rfl r_assign<|g_nil<|d_then ?_
     refine c_cut (ι:=Unit) [1] (fun _=>[]) (fun _=>⟨w0,M,(100010,g1,.cells #[.slice Ap0_0 p0.fRing.length cp0_0,.slice Ap0_1 p0.fHints.length cp0_1,.slice Ap0_2 p0.fAnchors.length cp0_2,Vi p0.fEpoch,.slice Ap0_3 p0.fFlushes.length cp0_3] 30 (0,0))::H,R,φ⟩) (fun _=>m_ref13_Right_j1 p0 = some r) ?_ (fun _ u hm=>?_)
     ·
      refine c_block ?_
      replace hm:=bnd hm
      obtain ⟨out12,hl12,hr12⟩:=hm
      obtain ⟨n760',hl12⟩:=loop_lp hl12
      refine c_loopU (ι:=Nat×Int) [1,3] (fun ⟨n760,i720⟩=>[(3,Vi i720)]) (fun ⟨n760,i720⟩=>⟨w0,M,(100010,g1,.cells #[.slice Ap0_0 p0.fRing.length cp0_0,.slice Ap0_1 p0.fHints.length cp0_1,.slice Ap0_2 p0.fAnchors.length cp0_2,Vi p0.fEpoch,.slice Ap0_3 p0.fFlushes.length cp0_3] 30 (0,0))::H,R,φ⟩) (fun ⟨n760,i720⟩=>Lp (fun s=>m_ref13_Right_s12 p0 s) n760 i720 out12) (fun ⟨n760,i720⟩=>n760) (n760',0) hl12 ⟨rfl,rfl,trivial⟩ (fun W h=>h.phi (fun W hφ=>hφ)) (fun ⟨n760,i720⟩ u hlp=>?_)
      obtain ⟨o12,hm,hnx12⟩:=lp_step hlp
      clear hlp
      replace hm : m_ref13_Right_s12 p0 i720 = some o12:=hm
      unfold m_ref13_Right_s12 at hm
      refine c_flat [(1,Vp g1),(3,Vi i720)] ⟨rfl,rfl,trivial⟩ (fun u=>?_)
      refine c_seq<|c_seq<|c_region<|g_v rfl r_move<|g_v rfl (r_field (n:=0) Tryz.underlying30 rfl Tryz.sizeOf25 rfl rfl)<|g_v rfl (r_load (tag:=100010) rfl rfl rfl Tryz.isAgg25)<|g_v rfl (r_lenL Tryz.underlying25 rfl)<|g_v rfl (r_lss rfl rfl)<|g_nil<|d_then ?_
      refine c_cond rfl (fun h761=>?_) (fun h761=>?_)
      ·
       replace hm:=ite_t hm (of_decide_eq_true h761)
       refine c_skip<|d_then<|c_seq<|c_block<|c_seq<|c_region<|g_v rfl (r_field (n:=0) Tryz.underlying30 rfl Tryz.sizeOf25 rfl rfl)<|g_v rfl (r_load (tag:=100010) rfl rfl rfl Tryz.isAgg25)<|g_v rfl r_move ?_
       replace hm:=bnd hm
       obtain ⟨x762,hx762,hm⟩:=hm
       refine g_know _ (fun W hS=>cl_at (p:=(Sta.mk w0 M H R φ).ok) (sz:=1) (fun _=>rfl) (by decide) (ok_pre (H1:=[_]) (R1:=[]) hS (fun W h=>h)) fp0_0 hx762) ?_
       rintro ⟨ad763,hA765,f764⟩
       refine g_v rfl (r_ix Tryz.underlying25 Tryz.sizeOf3 rfl hA765 rfl hx762)<|g_v rfl (r_ld rfl Tryz.isAgg3 (fun W hS=>Cl.head (f764 W (ok_pre (H1:=[_]) (R1:=[]) hS (fun W h=>h))))) ?_
       replace hm:=bnd hm
       obtain ⟨x766,hx767,hm⟩:=hm
       refine g_cn ⟨w0,M,_,_,φ⟩ (fun _ h=>h) Tryz.call79 rfl rfl (c_ref13_node x762 _ hx767) (fun _ _=>?_)
       refine g_v rfl r_assign<|g_nil<|d_then ?_
       refine c_flat [(1,Vp g1),(3,Vi i720),(4,.bool x766)] ⟨rfl,rfl,rfl,trivial⟩ (fun u=>?_)
       refine c_seq<|ga_start (n:=20) ⟨w0,M,(100010,g1,.cells #[.slice Ap0_0 p0.fRing.length cp0_0,.slice Ap0_1 p0.fHints.length cp0_1,.slice Ap0_2 p0.fAnchors.length cp0_2,Vi p0.fEpoch,.slice Ap0_3 p0.fFlushes.length cp0_3] 30 (0,0))::H,R,φ⟩ [] #[false,false,false,false,false,false,false,false,false,false,false,false,false,false,false,false,false,false,false,false] (fun W h=>h.phi (fun W hφ=>hφ)) mixed rfl rfl<|ga_r (i:=0) (bz 20 1) rfl (by kernel_rfl) (by decide) rfl (r_move)<|ga_r (i:=1) (bz 20 3) rfl (by kernel_rfl) (by decide) rfl (r_not rfl)<|ga_r (i:=2) (bz 20 7) rfl (by kernel_rfl) (by decide) rfl (r_move) ?_
       refine ga_if (t:=55) rfl (fun h788=>?_) (fun h788=>?_)
       ·
        have h788' : x766 = false:=by revert h788; cases x766 <;> simp
        replace hm:=ite_f hm (bool_nt h788')
        refine ga_no (i:=3) (bz 20 15) rfl (by kernel_rfl) (fun _ _ _ _ h=>h) rfl rfl rfl rfl rfl h788<|ga_no (i:=4) (bz 20 31) rfl (by kernel_rfl) (fun _ _ _ _ h=>h) rfl rfl rfl rfl rfl h788<|ga_no (i:=5) (bz 20 63) rfl (by kernel_rfl) (fun _ _ _ _ h=>h) rfl rfl rfl rfl rfl h788<|ga_nu (i:=6) (bz 20 127) rfl (by kernel_rfl) (fun _ _ _ _ h=>h) rfl rfl rfl rfl rfl<|ga_nu (i:=7) (bz 20 255) rfl (by kernel_rfl) (fun _ _ _ _ h=>h) rfl rfl rfl rfl rfl<|ga_nu (i:=8) (bz 20 511) rfl (by kernel_rfl) (fun _ _ _ _ h=>h) rfl rfl rfl rfl rfl<|ga_nu (i:=9) (bz 20 1023) rfl (by kernel_rfl) (fun _ _ _ _ h=>h) rfl rfl rfl rfl rfl<|ga_nu (i:=10) (bz 20 2047) rfl (by kernel_rfl) (fun _ _ _ _ h=>h) rfl rfl rfl rfl rfl<|ga_nu (i:=11) (bz 20 4095) rfl (by kernel_rfl) (fun _ _ _ _ h=>h) rfl rfl rfl rfl rfl<|ga_nu (i:=12) (bz 20 8191) rfl (by kernel_rfl) (fun _ _ _ _ h=>h) rfl rfl rfl rfl rfl ?_
        refine ga_nu (i:=13) (bz 20 16383) rfl (by kernel_rfl) (fun _ _ _ _ h=>h) rfl rfl rfl rfl rfl<|ga_nu (i:=14) (bz 20 32767) rfl (by kernel_rfl) (fun _ _ _ _ h=>h) rfl rfl rfl rfl rfl<|ga_nu (i:=15) (bz 20 65535) rfl (by kernel_rfl) (fun _ _ _ _ h=>h) rfl rfl rfl rfl rfl<|ga_nu (i:=16) (bz 20 131071) rfl (by kernel_rfl) (fun _ _ _ _ h=>h) rfl rfl rfl rfl rfl<|ga_nu (i:=17) (bz 20 262143) rfl (by kernel_rfl) (fun _ _ _ _ h=>h) rfl rfl rfl rfl rfl<|ga_no (i:=18) (bz 20 524287) rfl (by kernel_rfl) (fun _ _ _ _ h=>h) rfl rfl rfl rfl rfl h788<|ga_r (i:=19) (bz 20 1048575) rfl (by kernel_rfl) (by decide) rfl (r_pick1 rfl h788)<|ga_done (by kernel_rfl)<|d_then<|c_cond1 rfl rfl ?_
        refine c_seq<|c_region<|g_v rfl r_assign<|g_nil<|d_then<|c_ret<|d_ret_block<|d_ret_then<|d_ret_then<|d_ret_block ?_
        refine d_ret_then<|d_ret_then ?_
        replace hm:=nx_out (C:=(fun e : Unit ⊕ Bool=>Sum.elim (fun e=>m_ref13_Right_j1 p0) (fun x=>some x) e = some r)) hm hnx12 hr12
        replace hm : some false = some r:=hm
        cases hm
        exact d_retC () Tryz.results20 (res_tmp (res_nil rfl)) trivial (fun W h=>ok_pre (H1:=[_]) (R1:=[]) h (fun W hφ=>hφ)) (.inr rfl)
       have h788' : x766 = true:=by revert h788; cases x766 <;> simp
       replace hm:=ite_t hm h788'
       refine ga_rG (i:=3) (bz 20 15) rfl (by kernel_rfl) (by decide) rfl rfl rfl rfl rfl h788 (r_move)<|ga_rG (i:=4) (bz 20 31) rfl (by kernel_rfl) (by decide) rfl rfl rfl rfl rfl h788 (r_gtr rfl rfl)<|ga_rG (i:=5) (bz 20 63) rfl (by kernel_rfl) (by decide) rfl rfl rfl rfl rfl h788 (r_move) ?_
       refine ga_if (t:=58) rfl (fun h789=>?_) (fun h789=>?_)
       ·
        replace hm:=ite_t hm (of_decide_eq_true h789)
        refine ga_do (i:=6) (bz 20 127) rfl (by kernel_rfl) (fun _ _ _ _ h=>h) rfl rfl rfl rfl rfl h789 (r_field (n:=0) Tryz.underlying30 rfl Tryz.sizeOf25 rfl rfl)<|ga_do (i:=7) (bz 20 255) rfl (by kernel_rfl) (fun _ _ _ _ h=>h) rfl rfl rfl rfl rfl h789 (r_load (tag:=100010) rfl rfl rfl Tryz.isAgg25)<|ga_do (i:=8) (bz 20 511) rfl (by kernel_rfl) (fun _ _ _ _ h=>h) rfl rfl rfl rfl rfl h789 (r_move) ?_
        replace hm:=bnd hm
        obtain ⟨x790,hx790,hm⟩:=hm
        refine ga_know _ (fun W hS=>cl_at (p:=(Sta.mk w0 M H R φ).ok) (sz:=1) (fun _=>rfl) (by decide) (ok_pre (H1:=[_]) (R1:=[]) hS (fun W h=>h)) fp0_0 hx790) ?_
        rintro ⟨ad791,hA793,f792⟩
        refine ga_do (i:=9) (bz 20 1023) rfl (by kernel_rfl) (fun _ _ _ _ h=>h) rfl rfl rfl rfl rfl h789 (r_ix Tryz.underlying25 Tryz.sizeOf3 rfl hA793 rfl hx790)<|ga_do (i:=10) (bz 20 2047) rfl (by kernel_rfl) (fun _ _ _ _ h=>h) rfl rfl rfl rfl rfl h789 (r_ld rfl Tryz.isAgg3 (fun W hS=>Cl.head (f792 W (ok_pre (H1:=[_]) (R1:=[]) hS (fun W h=>h)))))<|ga_do (i:=11) (bz 20 4095) rfl (by kernel_rfl) (fun _ _ _ _ h=>h) rfl rfl rfl rfl rfl h789 (r_field (n:=0) Tryz.underlying30 rfl Tryz.sizeOf25 rfl rfl)<|ga_do (i:=12) (bz 20 8191) rfl (by kernel_rfl) (fun _ _ _ _ h=>h) rfl rfl rfl rfl rfl h789 (r_load (tag:=100010) rfl rfl rfl Tryz.isAgg25)<|ga_rG (i:=13) (bz 20 16383) rfl (by kernel_rfl) (by decide) rfl rfl rfl rfl rfl h789 (r_move)<|ga_rG (i:=14) (bz 20 32767) rfl (by kernel_rfl) (by decide) rfl rfl rfl rfl rfl h789 (r_sub rfl rfl rfl) ?_
        replace hm:=bnd hm
        obtain ⟨x794,hx794,hm⟩:=hm
        refine ga_know _ (fun W hS=>cl_at (p:=(Sta.mk w0 M H R φ).ok) (sz:=1) (fun _=>rfl) (by decide) (ok_pre (H1:=[_]) (R1:=[]) hS (fun W h=>h)) fp0_0 hx794) ?_
        rintro ⟨ad795,hA797,f796⟩
        refine ga_rG (i:=15) (bz 20 65535) rfl (by kernel_rfl) (by decide) rfl rfl rfl rfl rfl h789 (r_ix Tryz.underlying25 Tryz.sizeOf3 rfl hA797 rfl hx794)<|ga_rG (i:=16) (bz 20 131071) rfl (by kernel_rfl) (by decide) rfl rfl rfl rfl rfl h789 (r_ld rfl Tryz.isAgg3 (fun W hS=>Cl.head (f796 W (ok_pre (H1:=[_]) (R1:=[]) hS (fun W h=>h)))))<|ga_rG (i:=17) (bz 20 262143) rfl (by kernel_rfl) (by decide) rfl rfl rfl rfl rfl h789 (r_leq rfl rfl)<|ga_rG (i:=18) (bz 20 524287) rfl (by kernel_rfl) (by decide) rfl rfl rfl rfl rfl h788 (r_pick1 rfl h789)<|ga_r (i:=19) (bz 20 1048575) rfl (by kernel_rfl) (by decide) rfl (r_pick0 rfl h788)<|ga_done (by kernel_rfl)<|d_then ?_
        refine c_flat [(1,Vp g1),(3,Vi i720),(72,.bool (decide (x790 ≤ x794)))] ⟨rfl,rfl,rfl,trivial⟩ (fun u=>?_)
        refine c_cond rfl (fun h798=>?_) (fun h798=>?_)
        ·
         replace hm:=ite_t hm (of_decide_eq_true h798)
         refine c_seq<|c_region<|g_v rfl r_assign<|g_nil<|d_then<|c_ret<|d_ret_block<|d_ret_then<|d_ret_then<|d_ret_block ?_
         refine d_ret_then<|d_ret_then ?_
         replace hm:=nx_out (C:=(fun e : Unit ⊕ Bool=>Sum.elim (fun e=>m_ref13_Right_j1 p0) (fun x=>some x) e = some r)) hm hnx12 hr12
         replace hm : some false = some r:=hm
         cases hm
         exact d_retC () Tryz.results20 (res_tmp (res_nil rfl)) trivial (fun W h=>ok_pre (H1:=[_]) (R1:=[]) h (fun W hφ=>hφ)) (.inr rfl)
        replace hm:=ite_f hm (of_decide_eq_false h798)
        refine c_skip<|d_normal_block<|d_then<|c_region<|g_v rfl r_move<|g_v rfl (r_add rfl rfl rfl)<|g_v rfl r_assign<|g_nil ?_
        obtain ⟨n799,hn799,hlp⟩:=nx_inl hm hnx12
        exact d_round (n799,w64 (i720 + 1)) hlp hn799 ⟨rfl,rfl,trivial⟩ (fun W h=>h.phi (fun W hφ=>hφ))
       replace hm:=ite_f hm (of_decide_eq_false h789)
       refine ga_no (i:=6) (bz 20 127) rfl (by kernel_rfl) (fun _ _ _ _ h=>h) rfl rfl rfl rfl rfl h789<|ga_no (i:=7) (bz 20 255) rfl (by kernel_rfl) (fun _ _ _ _ h=>h) rfl rfl rfl rfl rfl h789<|ga_no (i:=8) (bz 20 511) rfl (by kernel_rfl) (fun _ _ _ _ h=>h) rfl rfl rfl rfl rfl h789<|ga_no (i:=9) (bz 20 1023) rfl (by kernel_rfl) (fun _ _ _ _ h=>h) rfl rfl rfl rfl rfl h789<|ga_no (i:=10) (bz 20 2047) rfl (by kernel_rfl) (fun _ _ _ _ h=>h) rfl rfl rfl rfl rfl h789<|ga_no (i:=11) (bz 20 4095) rfl (by kernel_rfl) (fun _ _ _ _ h=>h) rfl rfl rfl rfl rfl h789<|ga_no (i:=12) (bz 20 8191) rfl (by kernel_rfl) (fun _ _ _ _ h=>h) rfl rfl rfl rfl rfl h789<|ga_no (i:=13) (bz 20 16383) rfl (by kernel_rfl) (fun _ _ _ _ h=>h) rfl rfl rfl rfl rfl h789<|ga_no (i:=14) (bz 20 32767) rfl (by kernel_rfl) (fun _ _ _ _ h=>h) rfl rfl rfl rfl rfl h789<|ga_no (i:=15) (bz 20 65535) rfl (by kernel_rfl) (fun _ _ _ _ h=>h) rfl rfl rfl rfl rfl h789 ?_
       refine ga_no (i:=16) (bz 20 131071) rfl (by kernel_rfl) (fun _ _ _ _ h=>h) rfl rfl rfl rfl rfl h789<|ga_no (i:=17) (bz 20 262143) rfl (by kernel_rfl) (fun _ _ _ _ h=>h) rfl rfl rfl rfl rfl h789<|ga_rG (i:=18) (bz 20 524287) rfl (by kernel_rfl) (by decide) rfl rfl rfl rfl rfl h788 (r_pick0 rfl h789)<|ga_r (i:=19) (bz 20 1048575) rfl (by kernel_rfl) (by decide) rfl (r_pick0 rfl h788)<|ga_done (by kernel_rfl)<|d_then<|c_cond0 rfl rfl<|c_skip<|d_normal_block<|d_then ?_
       refine c_region<|g_v rfl r_move<|g_v rfl (r_add rfl rfl rfl)<|g_v rfl r_assign<|g_nil ?_
       obtain ⟨n800,hn800,hlp⟩:=nx_inl hm hnx12
       exact d_round (n800,w64 (i720 + 1)) hlp hn800 ⟨rfl,rfl,trivial⟩ (fun W h=>h.phi (fun W hφ=>hφ))
      replace hm:=ite_f hm (of_decide_eq_false h761)
      refine c_exit<|d_exit_then<|d_exit_then<|d_exit_block ?_
      replace hm:=nx_out (C:=(fun e : Unit ⊕ Bool=>Sum.elim (fun e=>m_ref13_Right_j1 p0) (fun x=>some x) e = some r)) hm hnx12 hr12
      exact d_round () hm Nat.zero_lt_one ⟨rfl,trivial⟩ (fun W h=>h.phi (fun W hφ=>hφ))
     unfold m_ref13_Right_j1 at hm
     refine d_flat [(1,Vp g1)] ⟨rfl,trivial⟩ (fun u=>?_)
     refine d_then<|c_seq<|c_seq<|c_region<|g_v rfl r_assign<|g_nil<|d_then ?_
     refine c_cut (ι:=Unit) [1] (fun _=>[]) (fun _=>⟨w0,M,(100010,g1,.cells #[.slice Ap0_0 p0.fRing.length cp0_0,.slice Ap0_1 p0.fHints.length cp0_1,.slice Ap0_2 p0.fAnchors.length cp0_2,Vi p0.fEpoch,.slice Ap0_3 p0.fFlushes.length cp0_3] 30 (0,0))::H,R,φ⟩) (fun _=>m_ref13_Right_j2 p0 = some r) ?_ (fun _ u hm=>?_)
     ·
      refine c_block ?_
      replace hm:=bnd hm
      obtain ⟨out11,hl11,hr11⟩:=hm
      obtain ⟨n701',hl11⟩:=loop_lp hl11
      refine c_loopU (ι:=Nat×Int) [1,5] (fun ⟨n701,i693⟩=>[(5,Vi i693)]) (fun ⟨n701,i693⟩=>⟨w0,M,(100010,g1,.cells #[.slice Ap0_0 p0.fRing.length cp0_0,.slice Ap0_1 p0.fHints.length cp0_1,.slice Ap0_2 p0.fAnchors.length cp0_2,Vi p0.fEpoch,.slice Ap0_3 p0.fFlushes.length cp0_3] 30 (0,0))::H,R,φ⟩) (fun ⟨n701,i693⟩=>Lp (fun s=>m_ref13_Right_s11 p0 s) n701 i693 out11) (fun ⟨n701,i693⟩=>n701) (n701',0) hl11 ⟨rfl,rfl,trivial⟩ (fun W h=>h.phi (fun W hφ=>hφ)) (fun ⟨n701,i693⟩ u hlp=>?_)
      obtain ⟨o11,hm,hnx11⟩:=lp_step hlp
      clear hlp
      replace hm : m_ref13_Right_s11 p0 i693 = some o11:=hm
      unfold m_ref13_Right_s11 at hm
      refine c_flat [(1,Vp g1),(5,Vi i693)] ⟨rfl,rfl,trivial⟩ (fun u=>?_)
      refine c_seq<|c_seq<|c_region<|g_v rfl r_move<|g_v rfl (r_field (n:=1) Tryz.underlying30 rfl Tryz.sizeOf26 rfl rfl)<|g_v rfl (r_load (tag:=100010) rfl rfl rfl Tryz.isAgg26)<|g_v rfl (r_lenL Tryz.underlying26 rfl)<|g_v rfl (r_lss rfl rfl)<|g_nil<|d_then ?_
      refine c_cond rfl (fun h702=>?_) (fun h702=>?_)
      ·
       replace hm:=ite_t hm (of_decide_eq_true h702)
       refine c_skip<|d_then<|c_seq<|c_block<|c_seq<|c_region<|g_v rfl (r_field (n:=1) Tryz.underlying30 rfl Tryz.sizeOf26 rfl rfl)<|g_v rfl (r_load (tag:=100010) rfl rfl rfl Tryz.isAgg26)<|g_v rfl r_move ?_
       replace hm:=bnd hm
       obtain ⟨x703,hx703,hm⟩:=hm
       refine g_know _ (fun W hS=>cl_at (p:=(Sta.mk w0 M H R φ).ok) (sz:=1) (fun _=>rfl) (by decide) (ok_pre (H1:=[_]) (R1:=[]) hS (fun W h=>h)) fp0_1 hx703) ?_
       rintro ⟨ad704,hA706,f705⟩
       refine g_v rfl (r_ix Tryz.underlying26 Tryz.sizeOf9 rfl hA706 rfl hx703)<|g_v rfl (r_ld rfl Tryz.isAgg9 (fun W hS=>Cl.head (f705 W (ok_pre (H1:=[_]) (R1:=[]) hS (fun W h=>h)))))<|g_v rfl (r_len Tryz.underlying9 rfl)<|g_v rfl (r_neq rfl rfl)<|g_nil<|d_then ?_
       refine c_flat [(1,Vp g1),(5,Vi i693),(86,.bool (decide ((x703.size : Int) ≠ 4)))] ⟨rfl,rfl,rfl,trivial⟩ (fun u=>?_)
       refine c_cond rfl (fun h707=>?_) (fun h707=>?_)
       ·
        replace hm:=ite_t hm (of_decide_eq_true h707)
        refine c_seq<|c_region<|g_v rfl r_assign<|g_nil<|d_then<|c_ret<|d_ret_block<|d_ret_then<|d_ret_then<|d_ret_block ?_
        refine d_ret_then<|d_ret_then ?_
        replace hm:=nx_out (C:=(fun e : Unit ⊕ Bool=>Sum.elim (fun e=>m_ref13_Right_j2 p0) (fun x=>some x) e = some r)) hm hnx11 hr11
        replace hm : some false = some r:=hm
        cases hm
        exact d_retC () Tryz.results20 (res_tmp (res_nil rfl)) trivial (fun W h=>ok_pre (H1:=[_]) (R1:=[]) h (fun W hφ=>hφ)) (.inr rfl)
       replace hm:=ite_f hm (of_decide_eq_false h707)
       refine c_skip<|d_normal_block<|d_then<|c_region<|g_v rfl r_move<|g_v rfl (r_add rfl rfl rfl)<|g_v rfl r_assign<|g_nil ?_
       obtain ⟨n708,hn708,hlp⟩:=nx_inl hm hnx11
       exact d_round (n708,w64 (i693 + 1)) hlp hn708 ⟨rfl,rfl,trivial⟩ (fun W h=>h.phi (fun W hφ=>hφ))
      replace hm:=ite_f hm (of_decide_eq_false h702)
      refine c_exit<|d_exit_then<|d_exit_then<|d_exit_block ?_
      replace hm:=nx_out (C:=(fun e : Unit ⊕ Bool=>Sum.elim (fun e=>m_ref13_Right_j2 p0) (fun x=>some x) e = some r)) hm hnx11 hr11
      exact d_round () hm Nat.zero_lt_one ⟨rfl,trivial⟩ (fun W h=>h.phi (fun W hφ=>hφ))
     unfold m_ref13_Right_j2 at hm
     refine d_flat [(1,Vp g1)] ⟨rfl,trivial⟩ (fun u=>?_)
     refine d_then<|c_seq<|c_seq<|c_region<|g_v rfl r_assign<|g_nil<|d_then ?_
     refine c_cut (ι:=Unit) [1] (fun _=>[]) (fun _=>⟨w0,M,(100010,g1,.cells #[.slice Ap0_0 p0.fRing.length cp0_0,.slice Ap0_1 p0.fHints.length cp0_1,.slice Ap0_2 p0.fAnchors.length cp0_2,Vi p0.fEpoch,.slice Ap0_3 p0.fFlushes.length cp0_3] 30 (0,0))::H,R,φ⟩) (fun _=>m_ref13_Right_j3 p0 = some r) ?_ (fun _ u hm=>?_)
     ·
      refine c_block ?_
      replace hm:=bnd hm
      obtain ⟨out10,hl10,hr10⟩:=hm
      obtain ⟨n635',hl10⟩:=loop_lp hl10
      refine c_loopU (ι:=Nat×Int) [1,6] (fun ⟨n635,i585⟩=>[(6,Vi i585)]) (fun ⟨n635,i585⟩=>⟨w0,M,(100010,g1,.cells #[.slice Ap0_0 p0.fRing.length cp0_0,.slice Ap0_1 p0.fHints.length cp0_1,.slice Ap0_2 p0.fAnchors.length cp0_2,Vi p0.fEpoch,.slice Ap0_3 p0.fFlushes.length cp0_3] 30 (0,0))::H,R,φ⟩) (fun ⟨n635,i585⟩=>Lp (fun s=>m_ref13_Right_s10 p0 s) n635 i585 out10) (fun ⟨n635,i585⟩=>n635) (n635',0) hl10 ⟨rfl,rfl,trivial⟩ (fun W h=>h.phi (fun W hφ=>hφ)) (fun ⟨n635,i585⟩ u hlp=>?_)
      obtain ⟨o10,hm,hnx10⟩:=lp_step hlp
      clear hlp
      replace hm : m_ref13_Right_s10 p0 i585 = some o10:=hm
      unfold m_ref13_Right_s10 at hm
      refine c_flat [(1,Vp g1),(6,Vi i585)] ⟨rfl,rfl,trivial⟩ (fun u=>?_)
      refine c_seq<|c_seq<|c_region<|g_v rfl r_move<|g_v rfl (r_field (n:=2) Tryz.underlying30 rfl Tryz.sizeOf27 rfl rfl)<|g_v rfl (r_load (tag:=100010) rfl rfl rfl Tryz.isAgg27)<|g_v rfl (r_lenL Tryz.underlying27 rfl)<|g_v rfl (r_lss rfl rfl)<|g_nil<|d_then ?_
      refine c_cond rfl (fun h636=>?_) (fun h636=>?_)
      ·
       replace hm:=ite_t hm (of_decide_eq_true h636)
       refine c_skip<|d_then<|c_seq<|c_block<|c_seq<|c_region<|g_v rfl (r_field (n:=2) Tryz.underlying30 rfl Tryz.sizeOf27 rfl rfl)<|g_v rfl (r_load (tag:=100010) rfl rfl rfl Tryz.isAgg27)<|g_v rfl r_move ?_
       replace hm:=bnd hm
       obtain ⟨x637,hx637,hm⟩:=hm
       refine g_know _ (fun W hS=>cl_at (p:=(Sta.mk w0 M H R φ).ok) (sz:=2) (fun _=>rfl) (by decide) (ok_pre (H1:=[_]) (R1:=[]) hS (fun W h=>h)) fp0_2 hx637) ?_
       rintro ⟨ad638,hA640,f639⟩
       refine g_v rfl (r_ix Tryz.underlying27 Tryz.sizeOf55 rfl hA640 rfl hx637)<|g_v rfl (r_ldA rfl Tryz.isAgg55 Tryz.sizeOf55 (fun W hS=>(f639 W (ok_pre (H1:=[_]) (R1:=[]) hS (fun W h=>h))).take 2) rfl) ?_
       refine g_e rfl (e_alloc 100070 Tryz.zeroValue55) (fun g641 _=>?_)
       refine g_storeL (tag:=100070) rfl rfl rfl rfl Tryz.sizeOf55 rfl rfl<|g_nil<|d_then ?_
       refine c_flat [(1,Vp g1),(6,Vi i585),(7,Vp g641)] ⟨rfl,rfl,rfl,trivial⟩ (fun u=>?_)
       refine c_sta ⟨w0,M,(100070,g641,.cells #[Vs x637.fName,Vs x637.fText] 55 (0,0))::(100010,g1,.cells #[.slice Ap0_0 p0.fRing.length cp0_0,.slice Ap0_1 p0.fHints.length cp0_1,.slice Ap0_2 p0.fAnchors.length cp0_2,Vi p0.fEpoch,.slice Ap0_3 p0.fFlushes.length cp0_3] 30 (0,0))::H,R,φ⟩ (fun _ h=>h)<|c_seq<|c_region<|g_v rfl (r_field (n:=0) Tryz.underlying55 rfl Tryz.sizeOf9 rfl rfl)<|g_v rfl (r_load (tag:=100070) rfl rfl rfl Tryz.isAgg9) ?_
       replace hm:=bnd hm
       obtain ⟨x642,hx643,hm⟩:=hm
       refine g_cn ⟨w0,M,_,_,φ⟩ (fun _ h=>h) Tryz.call80 rfl rfl (c_ref13_name x637.fName _ hx643) (fun _ _=>?_)
       refine g_v rfl r_assign<|g_nil<|d_then<|c_seq<|ga_start (n:=32) ⟨w0,M,(100070,g641,.cells #[Vs x637.fName,Vs x637.fText] 55 (0,0))::(100010,g1,.cells #[.slice Ap0_0 p0.fRing.length cp0_0,.slice Ap0_1 p0.fHints.length cp0_1,.slice Ap0_2 p0.fAnchors.length cp0_2,Vi p0.fEpoch,.slice Ap0_3 p0.fFlushes.length cp0_3] 30 (0,0))::H,R,φ⟩ [] #[false,false,false,false,false,false,false,false,false,false,false,false,false,false,false,false,false,false,false,false,false,false,false,false,false,false,false,false,false,false,false,false] (fun W h=>h.phi (fun W hφ=>hφ)) mixed rfl rfl<|ga_r (i:=0) (bz 32 1) rfl (by kernel_rfl) (by decide) rfl (r_move)<|ga_r (i:=1) (bz 32 3) rfl (by kernel_rfl) (by decide) rfl (r_not rfl)<|ga_r (i:=2) (bz 32 7) rfl (by kernel_rfl) (by decide) rfl (r_move) ?_
       refine ga_if (t:=104) rfl (fun h670=>?_) (fun h670=>?_)
       ·
        have h670' : x642 = false:=by revert h670; cases x642 <;> simp
        replace hm:=ite_f hm (bool_nt h670')
        refine ga_no (i:=3) (bz 32 15) rfl (by kernel_rfl) (fun _ _ _ _ h=>h) rfl rfl rfl rfl rfl h670<|ga_no (i:=4) (bz 32 31) rfl (by kernel_rfl) (fun _ _ _ _ h=>h) rfl rfl rfl rfl rfl h670<|ga_no (i:=5) (bz 32 63) rfl (by kernel_rfl) (fun _ _ _ _ h=>h) rfl rfl rfl rfl rfl h670<|ga_no (i:=6) (bz 32 127) rfl (by kernel_rfl) (fun _ _ _ _ h=>h) rfl rfl rfl rfl rfl h670<|ga_r (i:=7) (bz 32 255) rfl (by kernel_rfl) (by decide) rfl (r_pick1 rfl h670)<|ga_r (i:=8) (bz 32 511) rfl (by kernel_rfl) (by decide) rfl (r_move)<|ga_no (i:=9) (bz 32 1023) rfl (by kernel_rfl) (fun _ _ _ _ h=>h) rfl rfl rfl rfl rfl rfl<|ga_no (i:=10) (bz 32 2047) rfl (by kernel_rfl) (fun _ _ _ _ h=>h) rfl rfl rfl rfl rfl rfl<|ga_no (i:=11) (bz 32 4095) rfl (by kernel_rfl) (fun _ _ _ _ h=>h) rfl rfl rfl rfl rfl rfl<|ga_no (i:=12) (bz 32 8191) rfl (by kernel_rfl) (fun _ _ _ _ h=>h) rfl rfl rfl rfl rfl rfl ?_
        refine ga_r (i:=13) (bz 32 16383) rfl (by kernel_rfl) (by decide) rfl (r_pick1 rfl rfl)<|ga_r (i:=14) (bz 32 32767) rfl (by kernel_rfl) (by decide) rfl (r_move)<|ga_no (i:=15) (bz 32 65535) rfl (by kernel_rfl) (fun _ _ _ _ h=>h) rfl rfl rfl rfl rfl rfl<|ga_no (i:=16) (bz 32 131071) rfl (by kernel_rfl) (fun _ _ _ _ h=>h) rfl rfl rfl rfl rfl rfl<|ga_no (i:=17) (bz 32 262143) rfl (by kernel_rfl) (fun _ _ _ _ h=>h) rfl rfl rfl rfl rfl rfl<|ga_nu (i:=18) (bz 32 524287) rfl (by kernel_rfl) (fun _ _ _ _ h=>h) rfl rfl rfl rfl rfl<|ga_nu (i:=19) (bz 32 1048575) rfl (by kernel_rfl) (fun _ _ _ _ h=>h) rfl rfl rfl rfl rfl<|ga_nu (i:=20) (bz 32 2097151) rfl (by kernel_rfl) (fun _ _ _ _ h=>h) rfl rfl rfl rfl rfl<|ga_nu (i:=21) (bz 32 4194303) rfl (by kernel_rfl) (fun _ _ _ _ h=>h) rfl rfl rfl rfl rfl<|ga_nu (i:=22) (bz 32 8388607) rfl (by kernel_rfl) (fun _ _ _ _ h=>h) rfl rfl rfl rfl rfl ?_
        refine ga_nu (i:=23) (bz 32 16777215) rfl (by kernel_rfl) (fun _ _ _ _ h=>h) rfl rfl rfl rfl rfl<|ga_nu (i:=24) (bz 32 33554431) rfl (by kernel_rfl) (fun _ _ _ _ h=>h) rfl rfl rfl rfl rfl<|ga_nu (i:=25) (bz 32 67108863) rfl (by kernel_rfl) (fun _ _ _ _ h=>h) rfl rfl rfl rfl rfl<|ga_nu (i:=26) (bz 32 134217727) rfl (by kernel_rfl) (fun _ _ _ _ h=>h) rfl rfl rfl rfl rfl<|ga_nu (i:=27) (bz 32 268435455) rfl (by kernel_rfl) (fun _ _ _ _ h=>h) rfl rfl rfl rfl rfl<|ga_nu (i:=28) (bz 32 536870911) rfl (by kernel_rfl) (fun _ _ _ _ h=>h) rfl rfl rfl rfl rfl<|ga_nu (i:=29) (bz 32 1073741823) rfl (by kernel_rfl) (fun _ _ _ _ h=>h) rfl rfl rfl rfl rfl<|ga_no (i:=30) (bz 32 2147483647) rfl (by kernel_rfl) (fun _ _ _ _ h=>h) rfl rfl rfl rfl rfl rfl<|ga_r (i:=31) (bz 32 4294967295) rfl (by kernel_rfl) (by decide) rfl (r_pick1 rfl rfl)<|ga_done (by kernel_rfl) ?_
        refine d_then ?_
        refine c_flat [(1,Vp g1),(6,Vi i585),(133,.bool true)] ⟨rfl,rfl,rfl,trivial⟩ (fun u=>?_)
        refine c_cond1 rfl rfl<|c_seq<|c_region<|g_v rfl r_assign<|g_nil<|d_then<|c_ret<|d_ret_block<|d_ret_then<|d_ret_then ?_
        refine d_ret_block<|d_ret_then<|d_ret_then ?_
        replace hm:=nx_out (C:=(fun e : Unit ⊕ Bool=>Sum.elim (fun e=>m_ref13_Right_j3 p0) (fun x=>some x) e = some r)) hm hnx10 hr10
        replace hm : some false = some r:=hm
        cases hm
        exact d_retC () Tryz.results20 (res_tmp (res_nil rfl)) trivial (fun W h=>ok_pre (H1:=[_,_]) (R1:=[]) h (fun W hφ=>hφ)) (.inr rfl)
       have h670' : x642 = true:=by revert h670; cases x642 <;> simp
       replace hm:=ite_t hm h670'
       refine ga_rG (i:=3) (bz 32 15) rfl (by kernel_rfl) (by decide) rfl rfl rfl rfl rfl h670 (r_field (n:=1) Tryz.underlying55 rfl Tryz.sizeOf9 rfl rfl)<|ga_rG (i:=4) (bz 32 31) rfl (by kernel_rfl) (by decide) rfl rfl rfl rfl rfl h670 (r_load (tag:=100070) rfl rfl rfl Tryz.isAgg9)<|ga_rG (i:=5) (bz 32 63) rfl (by kernel_rfl) (by decide) rfl rfl rfl rfl rfl h670 (r_len Tryz.underlying9 rfl)<|ga_rG (i:=6) (bz 32 127) rfl (by kernel_rfl) (by decide) rfl rfl rfl rfl rfl h670 (r_lss rfl rfl)<|ga_r (i:=7) (bz 32 255) rfl (by kernel_rfl) (by decide) rfl (r_pick0 rfl h670)<|ga_r (i:=8) (bz 32 511) rfl (by kernel_rfl) (by decide) rfl (r_move) ?_
       refine ga_if (t:=110) rfl (fun h671=>?_) (fun h671=>?_)
       ·
        replace hm:=ite_t hm (of_decide_eq_true h671)
        refine ga_no (i:=9) (bz 32 1023) rfl (by kernel_rfl) (fun _ _ _ _ h=>h) rfl rfl rfl rfl rfl h671<|ga_no (i:=10) (bz 32 2047) rfl (by kernel_rfl) (fun _ _ _ _ h=>h) rfl rfl rfl rfl rfl h671<|ga_no (i:=11) (bz 32 4095) rfl (by kernel_rfl) (fun _ _ _ _ h=>h) rfl rfl rfl rfl rfl h671<|ga_no (i:=12) (bz 32 8191) rfl (by kernel_rfl) (fun _ _ _ _ h=>h) rfl rfl rfl rfl rfl h671<|ga_r (i:=13) (bz 32 16383) rfl (by kernel_rfl) (by decide) rfl (r_pick1 rfl h671)<|ga_r (i:=14) (bz 32 32767) rfl (by kernel_rfl) (by decide) rfl (r_move)<|ga_no (i:=15) (bz 32 65535) rfl (by kernel_rfl) (fun _ _ _ _ h=>h) rfl rfl rfl rfl rfl rfl<|ga_no (i:=16) (bz 32 131071) rfl (by kernel_rfl) (fun _ _ _ _ h=>h) rfl rfl rfl rfl rfl rfl<|ga_no (i:=17) (bz 32 262143) rfl (by kernel_rfl) (fun _ _ _ _ h=>h) rfl rfl rfl rfl rfl rfl<|ga_nu (i:=18) (bz 32 524287) rfl (by kernel_rfl) (fun _ _ _ _ h=>h) rfl rfl rfl rfl rfl ?_
        refine ga_nu (i:=19) (bz 32 1048575) rfl (by kernel_rfl) (fun _ _ _ _ h=>h) rfl rfl rfl rfl rfl<|ga_nu (i:=20) (bz 32 2097151) rfl (by kernel_rfl) (fun _ _ _ _ h=>h) rfl rfl rfl rfl rfl<|ga_nu (i:=21) (bz 32 4194303) rfl (by kernel_rfl) (fun _ _ _ _ h=>h) rfl rfl rfl rfl rfl<|ga_nu (i:=22) (bz 32 8388607) rfl (by kernel_rfl) (fun _ _ _ _ h=>h) rfl rfl rfl rfl rfl<|ga_nu (i:=23) (bz 32 16777215) rfl (by kernel_rfl) (fun _ _ _ _ h=>h) rfl rfl rfl rfl rfl<|ga_nu (i:=24) (bz 32 33554431) rfl (by kernel_rfl) (fun _ _ _ _ h=>h) rfl rfl rfl rfl rfl<|ga_nu (i:=25) (bz 32 67108863) rfl (by kernel_rfl) (fun _ _ _ _ h=>h) rfl rfl rfl rfl rfl<|ga_nu (i:=26) (bz 32 134217727) rfl (by kernel_rfl) (fun _ _ _ _ h=>h) rfl rfl rfl rfl rfl<|ga_nu (i:=27) (bz 32 268435455) rfl (by kernel_rfl) (fun _ _ _ _ h=>h) rfl rfl rfl rfl rfl<|ga_nu (i:=28) (bz 32 536870911) rfl (by kernel_rfl) (fun _ _ _ _ h=>h) rfl rfl rfl rfl rfl ?_
        refine ga_nu (i:=29) (bz 32 1073741823) rfl (by kernel_rfl) (fun _ _ _ _ h=>h) rfl rfl rfl rfl rfl<|ga_no (i:=30) (bz 32 2147483647) rfl (by kernel_rfl) (fun _ _ _ _ h=>h) rfl rfl rfl rfl rfl rfl<|ga_r (i:=31) (bz 32 4294967295) rfl (by kernel_rfl) (by decide) rfl (r_pick1 rfl rfl)<|ga_done (by kernel_rfl)<|d_then ?_
        refine c_flat [(1,Vp g1),(6,Vi i585),(133,.bool true)] ⟨rfl,rfl,rfl,trivial⟩ (fun u=>?_)
        refine c_cond1 rfl rfl<|c_seq<|c_region<|g_v rfl r_assign<|g_nil<|d_then<|c_ret<|d_ret_block<|d_ret_then<|d_ret_then ?_
        refine d_ret_block<|d_ret_then<|d_ret_then ?_
        replace hm:=nx_out (C:=(fun e : Unit ⊕ Bool=>Sum.elim (fun e=>m_ref13_Right_j3 p0) (fun x=>some x) e = some r)) hm hnx10 hr10
        replace hm : some false = some r:=hm
        cases hm
        exact d_retC () Tryz.results20 (res_tmp (res_nil rfl)) trivial (fun W h=>ok_pre (H1:=[_,_]) (R1:=[]) h (fun W hφ=>hφ)) (.inr rfl)
       replace hm:=ite_f hm (of_decide_eq_false h671)
       refine ga_rG (i:=9) (bz 32 1023) rfl (by kernel_rfl) (by decide) rfl rfl rfl rfl rfl h671 (r_field (n:=1) Tryz.underlying55 rfl Tryz.sizeOf9 rfl rfl)<|ga_rG (i:=10) (bz 32 2047) rfl (by kernel_rfl) (by decide) rfl rfl rfl rfl rfl h671 (r_load (tag:=100070) rfl rfl rfl Tryz.isAgg9)<|ga_rG (i:=11) (bz 32 4095) rfl (by kernel_rfl) (by decide) rfl rfl rfl rfl rfl h671 (r_len Tryz.underlying9 rfl)<|ga_rG (i:=12) (bz 32 8191) rfl (by kernel_rfl) (by decide) rfl rfl rfl rfl rfl h671 (r_gtr rfl rfl)<|ga_r (i:=13) (bz 32 16383) rfl (by kernel_rfl) (by decide) rfl (r_pick0 rfl h671)<|ga_r (i:=14) (bz 32 32767) rfl (by kernel_rfl) (by decide) rfl (r_move) ?_
       refine ga_if (t:=116) rfl (fun h672=>?_) (fun h672=>?_)
       ·
        replace hm:=ite_t hm (of_decide_eq_true h672)
        refine ga_no (i:=15) (bz 32 65535) rfl (by kernel_rfl) (fun _ _ _ _ h=>h) rfl rfl rfl rfl rfl h672<|ga_no (i:=16) (bz 32 131071) rfl (by kernel_rfl) (fun _ _ _ _ h=>h) rfl rfl rfl rfl rfl h672<|ga_no (i:=17) (bz 32 262143) rfl (by kernel_rfl) (fun _ _ _ _ h=>h) rfl rfl rfl rfl rfl h672<|ga_nu (i:=18) (bz 32 524287) rfl (by kernel_rfl) (fun _ _ _ _ h=>h) rfl rfl rfl rfl rfl<|ga_nu (i:=19) (bz 32 1048575) rfl (by kernel_rfl) (fun _ _ _ _ h=>h) rfl rfl rfl rfl rfl<|ga_nu (i:=20) (bz 32 2097151) rfl (by kernel_rfl) (fun _ _ _ _ h=>h) rfl rfl rfl rfl rfl<|ga_nu (i:=21) (bz 32 4194303) rfl (by kernel_rfl) (fun _ _ _ _ h=>h) rfl rfl rfl rfl rfl<|ga_nu (i:=22) (bz 32 8388607) rfl (by kernel_rfl) (fun _ _ _ _ h=>h) rfl rfl rfl rfl rfl<|ga_nu (i:=23) (bz 32 16777215) rfl (by kernel_rfl) (fun _ _ _ _ h=>h) rfl rfl rfl rfl rfl<|ga_nu (i:=24) (bz 32 33554431) rfl (by kernel_rfl) (fun _ _ _ _ h=>h) rfl rfl rfl rfl rfl ?_
        refine ga_nu (i:=25) (bz 32 67108863) rfl (by kernel_rfl) (fun _ _ _ _ h=>h) rfl rfl rfl rfl rfl<|ga_nu (i:=26) (bz 32 134217727) rfl (by kernel_rfl) (fun _ _ _ _ h=>h) rfl rfl rfl rfl rfl<|ga_nu (i:=27) (bz 32 268435455) rfl (by kernel_rfl) (fun _ _ _ _ h=>h) rfl rfl rfl rfl rfl<|ga_nu (i:=28) (bz 32 536870911) rfl (by kernel_rfl) (fun _ _ _ _ h=>h) rfl rfl rfl rfl rfl<|ga_nu (i:=29) (bz 32 1073741823) rfl (by kernel_rfl) (fun _ _ _ _ h=>h) rfl rfl rfl rfl rfl<|ga_no (i:=30) (bz 32 2147483647) rfl (by kernel_rfl) (fun _ _ _ _ h=>h) rfl rfl rfl rfl rfl h672<|ga_r (i:=31) (bz 32 4294967295) rfl (by kernel_rfl) (by decide) rfl (r_pick1 rfl h672)<|ga_done (by kernel_rfl)<|d_then ?_
        refine c_flat [(1,Vp g1),(6,Vi i585),(133,.bool true)] ⟨rfl,rfl,rfl,trivial⟩ (fun u=>?_)
        refine c_cond1 rfl rfl<|c_seq<|c_region<|g_v rfl r_assign<|g_nil<|d_then<|c_ret<|d_ret_block<|d_ret_then<|d_ret_then ?_
        refine d_ret_block<|d_ret_then<|d_ret_then ?_
        replace hm:=nx_out (C:=(fun e : Unit ⊕ Bool=>Sum.elim (fun e=>m_ref13_Right_j3 p0) (fun x=>some x) e = some r)) hm hnx10 hr10
        replace hm : some false = some r:=hm
        cases hm
        exact d_retC () Tryz.results20 (res_tmp (res_nil rfl)) trivial (fun W h=>ok_pre (H1:=[_,_]) (R1:=[]) h (fun W hφ=>hφ)) (.inr rfl)
       replace hm:=ite_f hm (of_decide_eq_false h672)
       refine ga_rG (i:=15) (bz 32 65535) rfl (by kernel_rfl) (by decide) rfl rfl rfl rfl rfl h672 (r_move)<|ga_rG (i:=16) (bz 32 131071) rfl (by kernel_rfl) (by decide) rfl rfl rfl rfl rfl h672 (r_gtr rfl rfl)<|ga_rG (i:=17) (bz 32 262143) rfl (by kernel_rfl) (by decide) rfl rfl rfl rfl rfl h672 (r_move) ?_
       refine ga_if (t:=119) rfl (fun h673=>?_) (fun h673=>?_)
       ·
        replace hm:=ite_t hm (of_decide_eq_true h673)
        refine ga_do (i:=18) (bz 32 524287) rfl (by kernel_rfl) (fun _ _ _ _ h=>h) rfl rfl rfl rfl rfl h673 (r_field (n:=0) Tryz.underlying55 rfl Tryz.sizeOf9 rfl rfl)<|ga_do (i:=19) (bz 32 1048575) rfl (by kernel_rfl) (fun _ _ _ _ h=>h) rfl rfl rfl rfl rfl h673 (r_load (tag:=100070) rfl rfl rfl Tryz.isAgg9)<|ga_do (i:=21) (bz 32 3145727) rfl (by kernel_rfl) (fun _ _ _ _ h=>h) rfl rfl rfl rfl rfl h673 (r_field (n:=2) Tryz.underlying30 rfl Tryz.sizeOf27 rfl rfl)<|ga_do (i:=22) (bz 32 7340031) rfl (by kernel_rfl) (fun _ _ _ _ h=>h) rfl rfl rfl rfl rfl h673 (r_load (tag:=100010) rfl rfl rfl Tryz.isAgg27)<|ga_do (i:=23) (bz 32 15728639) rfl (by kernel_rfl) (fun _ _ _ _ h=>h) rfl rfl rfl rfl rfl h673 (r_move)<|ga_do (i:=24) (bz 32 32505855) rfl (by kernel_rfl) (fun _ _ _ _ h=>h) rfl rfl rfl rfl rfl h673 (r_sub rfl rfl rfl) ?_
        replace hm:=bnd hm
        obtain ⟨x674,hx674,hm⟩:=hm
        refine ga_know _ (fun W hS=>cl_at (p:=(Sta.mk w0 M H R φ).ok) (sz:=2) (fun _=>rfl) (by decide) (ok_pre (H1:=[_,_]) (R1:=[]) hS (fun W h=>h)) fp0_2 hx674) ?_
        rintro ⟨ad675,hA677,f676⟩
        refine ga_do (i:=25) (bz 32 66060287) rfl (by kernel_rfl) (fun _ _ _ _ h=>h) rfl rfl rfl rfl rfl h673 (r_ix Tryz.underlying27 Tryz.sizeOf55 rfl hA677 rfl hx674) ?_
        have f678:=fun (W : World) (h : (Sta.mk w0 M H R φ).ok W)=>Cl.drop (f676 W h) 0
        refine ga_do (i:=26) (bz 32 133169151) rfl (by kernel_rfl) (fun _ _ _ _ h=>h) rfl rfl rfl rfl rfl h673 (r_fieldF Tryz.underlying55 rfl Tryz.sizeOf9 rfl)<|ga_do (i:=27) (bz 32 267386879) rfl (by kernel_rfl) (fun _ _ _ _ h=>h) rfl rfl rfl rfl rfl h673 (r_ld rfl Tryz.isAgg9 (fun W hS=>Cl.head (f678 W (ok_pre (H1:=[_,_]) (R1:=[]) hS (fun W h=>h))))) ?_
        replace hm:=bnd hm
        obtain ⟨x679,hx680,hm⟩:=hm
        refine ga_cnG (first:=#[]) (i:=20) (bz 32 268435455) rfl (by kernel_rfl) (by decide) rfl rfl rfl rfl h673  ⟨w0,M,_,_,φ⟩ (fun _ h=>h) Tryz.call42 rfl rfl rfl (c_ref03_Lower x637.fName _ hx680) (fun _ W _ h=>h.phi (fun W hφ=>hφ)) (fun _ _=>?_)
        replace hm:=bnd hm
        obtain ⟨x681,hx682,hm⟩:=hm
        refine ga_cnG (first:=#[]) (i:=28) (bz 32 536870911) rfl (by kernel_rfl) (by decide) rfl rfl rfl rfl h673  ⟨w0,M,_,_,φ⟩ (fun _ h=>h) Tryz.call42 rfl rfl rfl (c_ref03_Lower x674.fName _ hx682) (fun _ W _ h=>h.phi (fun W hφ=>hφ)) (fun _ _=>?_)
        refine ga_rG (i:=29) (bz 32 1073741823) rfl (by kernel_rfl) (by decide) rfl rfl rfl rfl rfl h673 (r_leqT rfl rfl)<|ga_rG (i:=30) (bz 32 2147483647) rfl (by kernel_rfl) (by decide) rfl rfl rfl rfl rfl h672 (r_pick1 rfl h673)<|ga_r (i:=31) (bz 32 4294967295) rfl (by kernel_rfl) (by decide) rfl (r_pick0 rfl h672)<|ga_done (by kernel_rfl)<|d_then ?_
        refine c_flat [(1,Vp g1),(6,Vi i585),(133,.bool (sless x679 x681 || decide (x679 = x681)))] ⟨rfl,rfl,rfl,trivial⟩ (fun u=>?_)
        refine c_cond rfl (fun h683=>?_) (fun h683=>?_)
        ·
         replace hm:=ite_t hm h683
         refine c_seq<|c_region<|g_v rfl r_assign<|g_nil<|d_then<|c_ret<|d_ret_block<|d_ret_then<|d_ret_then<|d_ret_block ?_
         refine d_ret_then<|d_ret_then ?_
         replace hm:=nx_out (C:=(fun e : Unit ⊕ Bool=>Sum.elim (fun e=>m_ref13_Right_j3 p0) (fun x=>some x) e = some r)) hm hnx10 hr10
         replace hm : some false = some r:=hm
         cases hm
         exact d_retC () Tryz.results20 (res_tmp (res_nil rfl)) trivial (fun W h=>ok_pre (H1:=[_,_]) (R1:=[]) h (fun W hφ=>hφ)) (.inr rfl)
        replace hm:=ite_f hm (bool_nt h683)
        refine c_skip<|d_normal_block<|d_then<|c_region<|g_v rfl r_move<|g_v rfl (r_add rfl rfl rfl)<|g_v rfl r_assign<|g_nil ?_
        obtain ⟨n684,hn684,hlp⟩:=nx_inl hm hnx10
        exact d_round (n684,w64 (i585 + 1)) hlp hn684 ⟨rfl,rfl,trivial⟩ (fun W h=>(h.dropH (t:=100070) rfl).phi (fun W hφ=>hφ))
       replace hm:=ite_f hm (of_decide_eq_false h673)
       refine ga_no (i:=18) (bz 32 524287) rfl (by kernel_rfl) (fun _ _ _ _ h=>h) rfl rfl rfl rfl rfl h673<|ga_no (i:=19) (bz 32 1048575) rfl (by kernel_rfl) (fun _ _ _ _ h=>h) rfl rfl rfl rfl rfl h673<|ga_no (i:=20) (bz 32 2097151) rfl (by kernel_rfl) (fun _ _ _ _ h=>h) rfl rfl rfl rfl rfl h673<|ga_no (i:=21) (bz 32 4194303) rfl (by kernel_rfl) (fun _ _ _ _ h=>h) rfl rfl rfl rfl rfl h673<|ga_no (i:=22) (bz 32 8388607) rfl (by kernel_rfl) (fun _ _ _ _ h=>h) rfl rfl rfl rfl rfl h673<|ga_no (i:=23) (bz 32 16777215) rfl (by kernel_rfl) (fun _ _ _ _ h=>h) rfl rfl rfl rfl rfl h673<|ga_no (i:=24) (bz 32 33554431) rfl (by kernel_rfl) (fun _ _ _ _ h=>h) rfl rfl rfl rfl rfl h673<|ga_no (i:=25) (bz 32 67108863) rfl (by kernel_rfl) (fun _ _ _ _ h=>h) rfl rfl rfl rfl rfl h673<|ga_no (i:=26) (bz 32 134217727) rfl (by kernel_rfl) (fun _ _ _ _ h=>h) rfl rfl rfl rfl rfl h673<|ga_no (i:=27) (bz 32 268435455) rfl (by kernel_rfl) (fun _ _ _ _ h=>h) rfl rfl rfl rfl rfl h673 ?_
       refine ga_no (i:=28) (bz 32 536870911) rfl (by kernel_rfl) (fun _ _ _ _ h=>h) rfl rfl rfl rfl rfl h673<|ga_no (i:=29) (bz 32 1073741823) rfl (by kernel_rfl) (fun _ _ _ _ h=>h) rfl rfl rfl rfl rfl h673<|ga_rG (i:=30) (bz 32 2147483647) rfl (by kernel_rfl) (by decide) rfl rfl rfl rfl rfl h672 (r_pick0 rfl h673)<|ga_r (i:=31) (bz 32 4294967295) rfl (by kernel_rfl) (by decide) rfl (r_pick0 rfl h672)<|ga_done (by kernel_rfl)<|d_then ?_
       refine c_flat [(1,Vp g1),(6,Vi i585),(133,.bool false)] ⟨rfl,rfl,rfl,trivial⟩ (fun u=>?_)
       refine c_cond0 rfl rfl<|c_skip<|d_normal_block<|d_then<|c_region<|g_v rfl r_move<|g_v rfl (r_add rfl rfl rfl)<|g_v rfl r_assign<|g_nil ?_
       obtain ⟨n685,hn685,hlp⟩:=nx_inl hm hnx10
       exact d_round (n685,w64 (i585 + 1)) hlp hn685 ⟨rfl,rfl,trivial⟩ (fun W h=>(h.dropH (t:=100070) rfl).phi (fun W hφ=>hφ))
      replace hm:=ite_f hm (of_decide_eq_false h636)
      refine c_exit<|d_exit_then<|d_exit_then<|d_exit_block ?_
      replace hm:=nx_out (C:=(fun e : Unit ⊕ Bool=>Sum.elim (fun e=>m_ref13_Right_j3 p0) (fun x=>some x) e = some r)) hm hnx10 hr10
      exact d_round () hm Nat.zero_lt_one ⟨rfl,trivial⟩ (fun W h=>h.phi (fun W hφ=>hφ))
     unfold m_ref13_Right_j3 at hm
     refine d_flat [(1,Vp g1)] ⟨rfl,trivial⟩ (fun u=>?_)
     refine d_then<|c_seq<|c_seq<|c_region<|g_v rfl r_assign<|g_nil<|d_then ?_
     refine c_cut (ι:=Unit) [] (fun _=>[]) (fun _=>⟨w0,M,H,R,φ⟩) (fun _=>m_ref13_Right_j4 = some r) ?_ (fun _ u hm=>?_)
     ·
      refine c_block ?_
      replace hm:=bnd hm
      obtain ⟨out5,hl5,hr5⟩:=hm
      obtain ⟨n395',hl5⟩:=loop_lp hl5
      refine c_loopU (ι:=Nat×Int) [1,9] (fun ⟨n395,i298⟩=>[(9,Vi i298)]) (fun ⟨n395,i298⟩=>⟨w0,M,(100010,g1,.cells #[.slice Ap0_0 p0.fRing.length cp0_0,.slice Ap0_1 p0.fHints.length cp0_1,.slice Ap0_2 p0.fAnchors.length cp0_2,Vi p0.fEpoch,.slice Ap0_3 p0.fFlushes.length cp0_3] 30 (0,0))::H,R,φ⟩) (fun ⟨n395,i298⟩=>Lp (fun s=>m_ref13_Right_s5 p0 s) n395 i298 out5) (fun ⟨n395,i298⟩=>n395) (n395',0) hl5 ⟨rfl,rfl,trivial⟩ (fun W h=>h.phi (fun W hφ=>hφ)) (fun ⟨n395,i298⟩ u hlp=>?_)
      obtain ⟨o5,hm,hnx5⟩:=lp_step hlp
      clear hlp
      replace hm : m_ref13_Right_s5 p0 i298 = some o5:=hm
      unfold m_ref13_Right_s5 at hm
      refine c_flat [(1,Vp g1),(9,Vi i298)] ⟨rfl,rfl,trivial⟩ (fun u=>?_)
      refine c_seq<|c_seq<|c_region<|g_v rfl r_move<|g_v rfl (r_field (n:=4) Tryz.underlying30 rfl Tryz.sizeOf28 rfl rfl)<|g_v rfl (r_load (tag:=100010) rfl rfl rfl Tryz.isAgg28)<|g_v rfl (r_lenL Tryz.underlying28 rfl)<|g_v rfl (r_lss rfl rfl)<|g_nil<|d_then ?_
      refine c_cond rfl (fun h396=>?_) (fun h396=>?_)
      ·
       replace hm:=ite_t hm (of_decide_eq_true h396)
       refine c_skip<|d_then<|c_seq<|c_block<|c_seq<|c_region<|g_v rfl (r_field (n:=4) Tryz.underlying30 rfl Tryz.sizeOf28 rfl rfl)<|g_v rfl (r_load (tag:=100010) rfl rfl rfl Tryz.isAgg28)<|g_v rfl r_move ?_
       replace hm:=bnd hm
       obtain ⟨x397,hx397,hm⟩:=hm
       refine g_know _ (fun W hS=>cl_at (p:=(Sta.mk w0 M H R φ).ok) (sz:=2) (fun _=>rfl) (by decide) (ok_pre (H1:=[_]) (R1:=[]) hS (fun W h=>h)) fp0_3 hx397) ?_
       rintro ⟨ad398,hA400,f399⟩
       refine g_v rfl (r_ix Tryz.underlying28 Tryz.sizeOf48 rfl hA400 rfl hx397)<|g_v rfl (r_ldA rfl Tryz.isAgg48 Tryz.sizeOf48 (fun W hS=>(f399 W (ok_pre (H1:=[_]) (R1:=[]) hS (fun W h=>h))).take 2) rfl) ?_
       refine g_e rfl (e_alloc 100100 Tryz.zeroValue48) (fun g401 _=>?_)
       refine g_storeL (tag:=100100) rfl rfl rfl rfl Tryz.sizeOf48 rfl rfl<|g_nil<|d_then ?_
       refine c_flat [(1,Vp g1),(9,Vi i298),(10,Vp g401)] ⟨rfl,rfl,rfl,trivial⟩ (fun u=>?_)
       refine c_sta ⟨w0,M,(100100,g401,.cells #[Vi x397.fEpoch,Vs x397.fZone] 48 (0,0))::(100010,g1,.cells #[.slice Ap0_0 p0.fRing.length cp0_0,.slice Ap0_1 p0.fHints.length cp0_1,.slice Ap0_2 p0.fAnchors.length cp0_2,Vi p0.fEpoch,.slice Ap0_3 p0.fFlushes.length cp0_3] 30 (0,0))::H,R,φ⟩ (fun _ h=>h)<|c_seq<|c_region<|g_v rfl (r_field (n:=1) Tryz.underlying48 rfl Tryz.sizeOf9 rfl rfl)<|g_v rfl (r_load (tag:=100100) rfl rfl rfl Tryz.isAgg9) ?_
       replace hm:=bnd hm
       obtain ⟨x402,hx403,hm⟩:=hm
       refine g_cn ⟨w0,M,_,_,φ⟩ (fun _ h=>h) Tryz.call80 rfl rfl (c_ref13_name x397.fZone _ hx403) (fun _ _=>?_)
       refine g_v rfl r_assign<|g_nil<|d_then<|c_seq<|c_seq<|ga_start (n:=38) ⟨w0,M,(100100,g401,.cells #[Vi x397.fEpoch,Vs x397.fZone] 48 (0,0))::(100010,g1,.cells #[.slice Ap0_0 p0.fRing.length cp0_0,.slice Ap0_1 p0.fHints.length cp0_1,.slice Ap0_2 p0.fAnchors.length cp0_2,Vi p0.fEpoch,.slice Ap0_3 p0.fFlushes.length cp0_3] 30 (0,0))::H,R,φ⟩ [] #[false,false,false,false,false,false,false,false,false,false,false,false,false,false,false,false,false,false,false,false,false,false,false,false,false,false,false,false,false,false,false,false,false,false,false,false,false,false] (fun W h=>h.phi (fun W hφ=>hφ)) mixed rfl rfl<|ga_r (i:=0) (bz 38 1) rfl (by kernel_rfl) (by decide) rfl (r_move)<|ga_r (i:=1) (bz 38 3) rfl (by kernel_rfl) (by decide) rfl (r_not rfl)<|ga_r (i:=2) (bz 38 7) rfl (by kernel_rfl) (by decide) rfl (r_move) ?_
       refine ga_if (t:=151) rfl (fun h428=>?_) (fun h428=>?_)
       ·
        have h428' : x402 = false:=by revert h428; cases x402 <;> simp
        replace hm:=ite_f hm (bool_nt h428')
        refine ga_no (i:=3) (bz 38 15) rfl (by kernel_rfl) (fun _ _ _ _ h=>h) rfl rfl rfl rfl rfl h428<|ga_no (i:=4) (bz 38 31) rfl (by kernel_rfl) (fun _ _ _ _ h=>h) rfl rfl rfl rfl rfl h428<|ga_no (i:=5) (bz 38 63) rfl (by kernel_rfl) (fun _ _ _ _ h=>h) rfl rfl rfl rfl rfl h428<|ga_no (i:=6) (bz 38 127) rfl (by kernel_rfl) (fun _ _ _ _ h=>h) rfl rfl rfl rfl rfl h428<|ga_no (i:=7) (bz 38 255) rfl (by kernel_rfl) (fun _ _ _ _ h=>h) rfl rfl rfl rfl rfl h428<|ga_no (i:=8) (bz 38 511) rfl (by kernel_rfl) (fun _ _ _ _ h=>h) rfl rfl rfl rfl rfl h428<|ga_r (i:=9) (bz 38 1023) rfl (by kernel_rfl) (by decide) rfl (r_pick1 rfl h428)<|ga_r (i:=10) (bz 38 2047) rfl (by kernel_rfl) (by decide) rfl (r_move)<|ga_no (i:=11) (bz 38 4095) rfl (by kernel_rfl) (fun _ _ _ _ h=>h) rfl rfl rfl rfl rfl rfl<|ga_no (i:=12) (bz 38 8191) rfl (by kernel_rfl) (fun _ _ _ _ h=>h) rfl rfl rfl rfl rfl rfl ?_
        refine ga_no (i:=13) (bz 38 16383) rfl (by kernel_rfl) (fun _ _ _ _ h=>h) rfl rfl rfl rfl rfl rfl<|ga_r (i:=14) (bz 38 32767) rfl (by kernel_rfl) (by decide) rfl (r_pick1 rfl rfl)<|ga_r (i:=15) (bz 38 65535) rfl (by kernel_rfl) (by decide) rfl (r_move)<|ga_no (i:=16) (bz 38 131071) rfl (by kernel_rfl) (fun _ _ _ _ h=>h) rfl rfl rfl rfl rfl rfl<|ga_no (i:=17) (bz 38 262143) rfl (by kernel_rfl) (fun _ _ _ _ h=>h) rfl rfl rfl rfl rfl rfl<|ga_no (i:=18) (bz 38 524287) rfl (by kernel_rfl) (fun _ _ _ _ h=>h) rfl rfl rfl rfl rfl rfl<|ga_no (i:=19) (bz 38 1048575) rfl (by kernel_rfl) (fun _ _ _ _ h=>h) rfl rfl rfl rfl rfl rfl<|ga_no (i:=20) (bz 38 2097151) rfl (by kernel_rfl) (fun _ _ _ _ h=>h) rfl rfl rfl rfl rfl rfl<|ga_r (i:=21) (bz 38 4194303) rfl (by kernel_rfl) (by decide) rfl (r_pick1 rfl rfl)<|ga_r (i:=22) (bz 38 8388607) rfl (by kernel_rfl) (by decide) rfl (r_move) ?_
        refine ga_no (i:=23) (bz 38 16777215) rfl (by kernel_rfl) (fun _ _ _ _ h=>h) rfl rfl rfl rfl rfl rfl<|ga_no (i:=24) (bz 38 33554431) rfl (by kernel_rfl) (fun _ _ _ _ h=>h) rfl rfl rfl rfl rfl rfl<|ga_no (i:=25) (bz 38 67108863) rfl (by kernel_rfl) (fun _ _ _ _ h=>h) rfl rfl rfl rfl rfl rfl<|ga_nu (i:=26) (bz 38 134217727) rfl (by kernel_rfl) (fun _ _ _ _ h=>h) rfl rfl rfl rfl rfl<|ga_nu (i:=27) (bz 38 268435455) rfl (by kernel_rfl) (fun _ _ _ _ h=>h) rfl rfl rfl rfl rfl<|ga_nu (i:=28) (bz 38 536870911) rfl (by kernel_rfl) (fun _ _ _ _ h=>h) rfl rfl rfl rfl rfl<|ga_nu (i:=29) (bz 38 1073741823) rfl (by kernel_rfl) (fun _ _ _ _ h=>h) rfl rfl rfl rfl rfl<|ga_nu (i:=30) (bz 38 2147483647) rfl (by kernel_rfl) (fun _ _ _ _ h=>h) rfl rfl rfl rfl rfl<|ga_nu (i:=31) (bz 38 4294967295) rfl (by kernel_rfl) (fun _ _ _ _ h=>h) rfl rfl rfl rfl rfl<|ga_nu (i:=32) (bz 38 8589934591) rfl (by kernel_rfl) (fun _ _ _ _ h=>h) rfl rfl rfl rfl rfl ?_
        refine ga_nu (i:=33) (bz 38 17179869183) rfl (by kernel_rfl) (fun _ _ _ _ h=>h) rfl rfl rfl rfl rfl<|ga_nu (i:=34) (bz 38 34359738367) rfl (by kernel_rfl) (fun _ _ _ _ h=>h) rfl rfl rfl rfl rfl<|ga_nu (i:=35) (bz 38 68719476735) rfl (by kernel_rfl) (fun _ _ _ _ h=>h) rfl rfl rfl rfl rfl<|ga_no (i:=36) (bz 38 137438953471) rfl (by kernel_rfl) (fun _ _ _ _ h=>h) rfl rfl rfl rfl rfl rfl<|ga_r (i:=37) (bz 38 274877906943) rfl (by kernel_rfl) (by decide) rfl (r_pick1 rfl rfl)<|ga_done (by kernel_rfl)<|d_then ?_
        refine c_flat [(1,Vp g1),(9,Vi i298),(10,Vp g401),(186,.bool true)] ⟨rfl,rfl,rfl,rfl,trivial⟩ (fun u=>?_)
        refine c_cond1 rfl rfl<|c_seq<|c_region<|g_v rfl r_assign<|g_nil<|d_then<|c_ret<|d_ret_then<|d_ret_block<|d_ret_then ?_
        refine d_ret_then<|d_ret_block<|d_ret_then<|d_ret_then ?_
        replace hm:=nx_out (C:=(fun e : Unit ⊕ Bool=>Sum.elim (fun e=>m_ref13_Right_j4) (fun x=>some x) e = some r)) hm hnx5 hr5
        replace hm : some false = some r:=hm
        cases hm
        exact d_retC () Tryz.results20 (res_tmp (res_nil rfl)) trivial (fun W h=>ok_pre (H1:=[_,_]) (R1:=[]) h (fun W hφ=>hφ)) (.inr rfl)
       have h428' : x402 = true:=by revert h428; cases x402 <;> simp
       replace hm:=ite_t hm h428'
       refine ga_do (i:=3) (bz 38 15) rfl (by kernel_rfl) (fun _ _ _ _ h=>h) rfl rfl rfl rfl rfl h428 (r_field (n:=1) Tryz.underlying48 rfl Tryz.sizeOf9 rfl rfl)<|ga_do (i:=4) (bz 38 31) rfl (by kernel_rfl) (fun _ _ _ _ h=>h) rfl rfl rfl rfl rfl h428 (r_load (tag:=100100) rfl rfl rfl Tryz.isAgg9)<|ga_do (i:=6) (bz 38 95) rfl (by kernel_rfl) (fun _ _ _ _ h=>h) rfl rfl rfl rfl rfl h428 (r_field (n:=1) Tryz.underlying48 rfl Tryz.sizeOf9 rfl rfl)<|ga_do (i:=7) (bz 38 223) rfl (by kernel_rfl) (fun _ _ _ _ h=>h) rfl rfl rfl rfl rfl h428 (r_load (tag:=100100) rfl rfl rfl Tryz.isAgg9) ?_
       replace hm:=bnd hm
       obtain ⟨x429,hx430,hm⟩:=hm
       refine ga_cnG (first:=#[]) (i:=5) (bz 38 255) rfl (by kernel_rfl) (by decide) rfl rfl rfl rfl h428  ⟨w0,M,_,_,φ⟩ (fun _ h=>h) Tryz.call42 rfl rfl rfl (c_ref03_Lower x397.fZone _ hx430) (fun _ W _ h=>h.phi (fun W hφ=>hφ)) (fun _ _=>?_)
       refine ga_rG (i:=8) (bz 38 511) rfl (by kernel_rfl) (by decide) rfl rfl rfl rfl rfl h428 (r_neqT rfl rfl)<|ga_r (i:=9) (bz 38 1023) rfl (by kernel_rfl) (by decide) rfl (r_pick0 rfl h428)<|ga_r (i:=10) (bz 38 2047) rfl (by kernel_rfl) (by decide) rfl (r_move) ?_
       refine ga_if (t:=159) rfl (fun h431=>?_) (fun h431=>?_)
       ·
        have h431' : (decide (x429 = x397.fZone)) = false:=by revert h431; cases (decide (x429 = x397.fZone)) <;> simp
        replace hm:=ite_f hm (of_decide_eq_false h431')
        refine ga_no (i:=11) (bz 38 4095) rfl (by kernel_rfl) (fun _ _ _ _ h=>h) rfl rfl rfl rfl rfl h431<|ga_no (i:=12) (bz 38 8191) rfl (by kernel_rfl) (fun _ _ _ _ h=>h) rfl rfl rfl rfl rfl h431<|ga_no (i:=13) (bz 38 16383) rfl (by kernel_rfl) (fun _ _ _ _ h=>h) rfl rfl rfl rfl rfl h431<|ga_r (i:=14) (bz 38 32767) rfl (by kernel_rfl) (by decide) rfl (r_pick1 rfl h431)<|ga_r (i:=15) (bz 38 65535) rfl (by kernel_rfl) (by decide) rfl (r_move)<|ga_no (i:=16) (bz 38 131071) rfl (by kernel_rfl) (fun _ _ _ _ h=>h) rfl rfl rfl rfl rfl rfl<|ga_no (i:=17) (bz 38 262143) rfl (by kernel_rfl) (fun _ _ _ _ h=>h) rfl rfl rfl rfl rfl rfl<|ga_no (i:=18) (bz 38 524287) rfl (by kernel_rfl) (fun _ _ _ _ h=>h) rfl rfl rfl rfl rfl rfl<|ga_no (i:=19) (bz 38 1048575) rfl (by kernel_rfl) (fun _ _ _ _ h=>h) rfl rfl rfl rfl rfl rfl<|ga_no (i:=20) (bz 38 2097151) rfl (by kernel_rfl) (fun _ _ _ _ h=>h) rfl rfl rfl rfl rfl rfl ?_
        refine ga_r (i:=21) (bz 38 4194303) rfl (by kernel_rfl) (by decide) rfl (r_pick1 rfl rfl)<|ga_r (i:=22) (bz 38 8388607) rfl (by kernel_rfl) (by decide) rfl (r_move)<|ga_no (i:=23) (bz 38 16777215) rfl (by kernel_rfl) (fun _ _ _ _ h=>h) rfl rfl rfl rfl rfl rfl<|ga_no (i:=24) (bz 38 33554431) rfl (by kernel_rfl) (fun _ _ _ _ h=>h) rfl rfl rfl rfl rfl rfl<|ga_no (i:=25) (bz 38 67108863) rfl (by kernel_rfl) (fun _ _ _ _ h=>h) rfl rfl rfl rfl rfl rfl<|ga_nu (i:=26) (bz 38 134217727) rfl (by kernel_rfl) (fun _ _ _ _ h=>h) rfl rfl rfl rfl rfl<|ga_nu (i:=27) (bz 38 268435455) rfl (by kernel_rfl) (fun _ _ _ _ h=>h) rfl rfl rfl rfl rfl<|ga_nu (i:=28) (bz 38 536870911) rfl (by kernel_rfl) (fun _ _ _ _ h=>h) rfl rfl rfl rfl rfl<|ga_nu (i:=29) (bz 38 1073741823) rfl (by kernel_rfl) (fun _ _ _ _ h=>h) rfl rfl rfl rfl rfl<|ga_nu (i:=30) (bz 38 2147483647) rfl (by kernel_rfl) (fun _ _ _ _ h=>h) rfl rfl rfl rfl rfl ?_
        refine ga_nu (i:=31) (bz 38 4294967295) rfl (by kernel_rfl) (fun _ _ _ _ h=>h) rfl rfl rfl rfl rfl<|ga_nu (i:=32) (bz 38 8589934591) rfl (by kernel_rfl) (fun _ _ _ _ h=>h) rfl rfl rfl rfl rfl<|ga_nu (i:=33) (bz 38 17179869183) rfl (by kernel_rfl) (fun _ _ _ _ h=>h) rfl rfl rfl rfl rfl<|ga_nu (i:=34) (bz 38 34359738367) rfl (by kernel_rfl) (fun _ _ _ _ h=>h) rfl rfl rfl rfl rfl<|ga_nu (i:=35) (bz 38 68719476735) rfl (by kernel_rfl) (fun _ _ _ _ h=>h) rfl rfl rfl rfl rfl<|ga_no (i:=36) (bz 38 137438953471) rfl (by kernel_rfl) (fun _ _ _ _ h=>h) rfl rfl rfl rfl rfl rfl<|ga_r (i:=37) (bz 38 274877906943) rfl (by kernel_rfl) (by decide) rfl (r_pick1 rfl rfl)<|ga_done (by kernel_rfl)<|d_then ?_
        refine c_flat [(1,Vp g1),(9,Vi i298),(10,Vp g401),(186,.bool true)] ⟨rfl,rfl,rfl,rfl,trivial⟩ (fun u=>?_)
        refine c_cond1 rfl rfl<|c_seq<|c_region<|g_v rfl r_assign<|g_nil<|d_then<|c_ret<|d_ret_then<|d_ret_block<|d_ret_then ?_
        refine d_ret_then<|d_ret_block<|d_ret_then<|d_ret_then ?_
        replace hm:=nx_out (C:=(fun e : Unit ⊕ Bool=>Sum.elim (fun e=>m_ref13_Right_j4) (fun x=>some x) e = some r)) hm hnx5 hr5
        replace hm : some false = some r:=hm
        cases hm
        exact d_retC () Tryz.results20 (res_tmp (res_nil rfl)) trivial (fun W h=>ok_pre (H1:=[_,_]) (R1:=[]) h (fun W hφ=>hφ)) (.inr rfl)
       have h431' : (decide (x429 = x397.fZone)) = true:=by revert h431; cases (decide (x429 = x397.fZone)) <;> simp
       replace hm:=ite_t hm (of_decide_eq_true h431')
       refine ga_rG (i:=11) (bz 38 4095) rfl (by kernel_rfl) (by decide) rfl rfl rfl rfl rfl h431 (r_field (n:=0) Tryz.underlying48 rfl Tryz.sizeOf3 rfl rfl)<|ga_rG (i:=12) (bz 38 8191) rfl (by kernel_rfl) (by decide) rfl rfl rfl rfl rfl h431 (r_load (tag:=100100) rfl rfl rfl Tryz.isAgg3)<|ga_rG (i:=13) (bz 38 16383) rfl (by kernel_rfl) (by decide) rfl rfl rfl rfl rfl h431 (r_lss rfl rfl)<|ga_r (i:=14) (bz 38 32767) rfl (by kernel_rfl) (by decide) rfl (r_pick0 rfl h431)<|ga_r (i:=15) (bz 38 65535) rfl (by kernel_rfl) (by decide) rfl (r_move) ?_
       refine ga_if (t:=164) rfl (fun h432=>?_) (fun h432=>?_)
       ·
        replace hm:=ite_t hm (of_decide_eq_true h432)
        refine ga_no (i:=16) (bz 38 131071) rfl (by kernel_rfl) (fun _ _ _ _ h=>h) rfl rfl rfl rfl rfl h432<|ga_no (i:=17) (bz 38 262143) rfl (by kernel_rfl) (fun _ _ _ _ h=>h) rfl rfl rfl rfl rfl h432<|ga_no (i:=18) (bz 38 524287) rfl (by kernel_rfl) (fun _ _ _ _ h=>h) rfl rfl rfl rfl rfl h432<|ga_no (i:=19) (bz 38 1048575) rfl (by kernel_rfl) (fun _ _ _ _ h=>h) rfl rfl rfl rfl rfl h432<|ga_no (i:=20) (bz 38 2097151) rfl (by kernel_rfl) (fun _ _ _ _ h=>h) rfl rfl rfl rfl rfl h432<|ga_r (i:=21) (bz 38 4194303) rfl (by kernel_rfl) (by decide) rfl (r_pick1 rfl h432)<|ga_r (i:=22) (bz 38 8388607) rfl (by kernel_rfl) (by decide) rfl (r_move)<|ga_no (i:=23) (bz 38 16777215) rfl (by kernel_rfl) (fun _ _ _ _ h=>h) rfl rfl rfl rfl rfl rfl<|ga_no (i:=24) (bz 38 33554431) rfl (by kernel_rfl) (fun _ _ _ _ h=>h) rfl rfl rfl rfl rfl rfl<|ga_no (i:=25) (bz 38 67108863) rfl (by kernel_rfl) (fun _ _ _ _ h=>h) rfl rfl rfl rfl rfl rfl ?_
        refine ga_nu (i:=26) (bz 38 134217727) rfl (by kernel_rfl) (fun _ _ _ _ h=>h) rfl rfl rfl rfl rfl<|ga_nu (i:=27) (bz 38 268435455) rfl (by kernel_rfl) (fun _ _ _ _ h=>h) rfl rfl rfl rfl rfl<|ga_nu (i:=28) (bz 38 536870911) rfl (by kernel_rfl) (fun _ _ _ _ h=>h) rfl rfl rfl rfl rfl<|ga_nu (i:=29) (bz 38 1073741823) rfl (by kernel_rfl) (fun _ _ _ _ h=>h) rfl rfl rfl rfl rfl<|ga_nu (i:=30) (bz 38 2147483647) rfl (by kernel_rfl) (fun _ _ _ _ h=>h) rfl rfl rfl rfl rfl<|ga_nu (i:=31) (bz 38 4294967295) rfl (by kernel_rfl) (fun _ _ _ _ h=>h) rfl rfl rfl rfl rfl<|ga_nu (i:=32) (bz 38 8589934591) rfl (by kernel_rfl) (fun _ _ _ _ h=>h) rfl rfl rfl rfl rfl<|ga_nu (i:=33) (bz 38 17179869183) rfl (by kernel_rfl) (fun _ _ _ _ h=>h) rfl rfl rfl rfl rfl<|ga_nu (i:=34) (bz 38 34359738367) rfl (by kernel_rfl) (fun _ _ _ _ h=>h) rfl rfl rfl rfl rfl<|ga_nu (i:=35) (bz 38 68719476735) rfl (by kernel_rfl) (fun _ _ _ _ h=>h) rfl rfl rfl rfl rfl ?_
        refine ga_no (i:=36) (bz 38 137438953471) rfl (by kernel_rfl) (fun _ _ _ _ h=>h) rfl rfl rfl rfl rfl rfl<|ga_r (i:=37) (bz 38 274877906943) rfl (by kernel_rfl) (by decide) rfl (r_pick1 rfl rfl)<|ga_done (by kernel_rfl)<|d_then ?_
        refine c_flat [(1,Vp g1),(9,Vi i298),(10,Vp g401),(186,.bool true)] ⟨rfl,rfl,rfl,rfl,trivial⟩ (fun u=>?_)
        refine c_cond1 rfl rfl<|c_seq<|c_region<|g_v rfl r_assign<|g_nil<|d_then<|c_ret<|d_ret_then<|d_ret_block<|d_ret_then ?_
        refine d_ret_then<|d_ret_block<|d_ret_then<|d_ret_then ?_
        replace hm:=nx_out (C:=(fun e : Unit ⊕ Bool=>Sum.elim (fun e=>m_ref13_Right_j4) (fun x=>some x) e = some r)) hm hnx5 hr5
        replace hm : some false = some r:=hm
        cases hm
        exact d_retC () Tryz.results20 (res_tmp (res_nil rfl)) trivial (fun W h=>ok_pre (H1:=[_,_]) (R1:=[]) h (fun W hφ=>hφ)) (.inr rfl)
       replace hm:=ite_f hm (of_decide_eq_false h432)
       refine ga_do (i:=16) (bz 38 131071) rfl (by kernel_rfl) (fun _ _ _ _ h=>h) rfl rfl rfl rfl rfl h432 (r_field (n:=0) Tryz.underlying48 rfl Tryz.sizeOf3 rfl rfl)<|ga_do (i:=17) (bz 38 262143) rfl (by kernel_rfl) (fun _ _ _ _ h=>h) rfl rfl rfl rfl rfl h432 (r_load (tag:=100100) rfl rfl rfl Tryz.isAgg3)<|ga_rG (i:=18) (bz 38 524287) rfl (by kernel_rfl) (by decide) rfl rfl rfl rfl rfl h432 (r_field (n:=3) Tryz.underlying30 rfl Tryz.sizeOf3 rfl rfl)<|ga_rG (i:=19) (bz 38 1048575) rfl (by kernel_rfl) (by decide) rfl rfl rfl rfl rfl h432 (r_load (tag:=100010) rfl rfl rfl Tryz.isAgg3)<|ga_rG (i:=20) (bz 38 2097151) rfl (by kernel_rfl) (by decide) rfl rfl rfl rfl rfl h432 (r_gtr rfl rfl)<|ga_r (i:=21) (bz 38 4194303) rfl (by kernel_rfl) (by decide) rfl (r_pick0 rfl h432)<|ga_r (i:=22) (bz 38 8388607) rfl (by kernel_rfl) (by decide) rfl (r_move) ?_
       refine ga_if (t:=171) rfl (fun h433=>?_) (fun h433=>?_)
       ·
        replace hm:=ite_t hm (of_decide_eq_true h433)
        refine ga_no (i:=23) (bz 38 16777215) rfl (by kernel_rfl) (fun _ _ _ _ h=>h) rfl rfl rfl rfl rfl h433<|ga_no (i:=24) (bz 38 33554431) rfl (by kernel_rfl) (fun _ _ _ _ h=>h) rfl rfl rfl rfl rfl h433<|ga_no (i:=25) (bz 38 67108863) rfl (by kernel_rfl) (fun _ _ _ _ h=>h) rfl rfl rfl rfl rfl h433<|ga_nu (i:=26) (bz 38 134217727) rfl (by kernel_rfl) (fun _ _ _ _ h=>h) rfl rfl rfl rfl rfl<|ga_nu (i:=27) (bz 38 268435455) rfl (by kernel_rfl) (fun _ _ _ _ h=>h) rfl rfl rfl rfl rfl<|ga_nu (i:=28) (bz 38 536870911) rfl (by kernel_rfl) (fun _ _ _ _ h=>h) rfl rfl rfl rfl rfl<|ga_nu (i:=29) (bz 38 1073741823) rfl (by kernel_rfl) (fun _ _ _ _ h=>h) rfl rfl rfl rfl rfl<|ga_nu (i:=30) (bz 38 2147483647) rfl (by kernel_rfl) (fun _ _ _ _ h=>h) rfl rfl rfl rfl rfl<|ga_nu (i:=31) (bz 38 4294967295) rfl (by kernel_rfl) (fun _ _ _ _ h=>h) rfl rfl rfl rfl rfl<|ga_nu (i:=32) (bz 38 8589934591) rfl (by kernel_rfl) (fun _ _ _ _ h=>h) rfl rfl rfl rfl rfl ?_
        refine ga_nu (i:=33) (bz 38 17179869183) rfl (by kernel_rfl) (fun _ _ _ _ h=>h) rfl rfl rfl rfl rfl<|ga_nu (i:=34) (bz 38 34359738367) rfl (by kernel_rfl) (fun _ _ _ _ h=>h) rfl rfl rfl rfl rfl<|ga_nu (i:=35) (bz 38 68719476735) rfl (by kernel_rfl) (fun _ _ _ _ h=>h) rfl rfl rfl rfl rfl<|ga_no (i:=36) (bz 38 137438953471) rfl (by kernel_rfl) (fun _ _ _ _ h=>h) rfl rfl rfl rfl rfl h433<|ga_r (i:=37) (bz 38 274877906943) rfl (by kernel_rfl) (by decide) rfl (r_pick1 rfl h433)<|ga_done (by kernel_rfl)<|d_then ?_
        refine c_flat [(1,Vp g1),(9,Vi i298),(10,Vp g401),(186,.bool true)] ⟨rfl,rfl,rfl,rfl,trivial⟩ (fun u=>?_)
        refine c_cond1 rfl rfl<|c_seq<|c_region<|g_v rfl r_assign<|g_nil<|d_then<|c_ret<|d_ret_then<|d_ret_block<|d_ret_then ?_
        refine d_ret_then<|d_ret_block<|d_ret_then<|d_ret_then ?_
        replace hm:=nx_out (C:=(fun e : Unit ⊕ Bool=>Sum.elim (fun e=>m_ref13_Right_j4) (fun x=>some x) e = some r)) hm hnx5 hr5
        replace hm : some false = some r:=hm
        cases hm
        exact d_retC () Tryz.results20 (res_tmp (res_nil rfl)) trivial (fun W h=>ok_pre (H1:=[_,_]) (R1:=[]) h (fun W hφ=>hφ)) (.inr rfl)
       replace hm:=ite_f hm (of_decide_eq_false h433)
       refine ga_rG (i:=23) (bz 38 16777215) rfl (by kernel_rfl) (by decide) rfl rfl rfl rfl rfl h433 (r_move)<|ga_rG (i:=24) (bz 38 33554431) rfl (by kernel_rfl) (by decide) rfl rfl rfl rfl rfl h433 (r_gtr rfl rfl)<|ga_rG (i:=25) (bz 38 67108863) rfl (by kernel_rfl) (by decide) rfl rfl rfl rfl rfl h433 (r_move) ?_
       refine ga_if (t:=174) rfl (fun h434=>?_) (fun h434=>?_)
       ·
        replace hm:=ite_t hm (of_decide_eq_true h434)
        refine ga_do (i:=26) (bz 38 134217727) rfl (by kernel_rfl) (fun _ _ _ _ h=>h) rfl rfl rfl rfl rfl h434 (r_field (n:=0) Tryz.underlying48 rfl Tryz.sizeOf3 rfl rfl)<|ga_do (i:=27) (bz 38 268435455) rfl (by kernel_rfl) (fun _ _ _ _ h=>h) rfl rfl rfl rfl rfl h434 (r_load (tag:=100100) rfl rfl rfl Tryz.isAgg3)<|ga_do (i:=28) (bz 38 536870911) rfl (by kernel_rfl) (fun _ _ _ _ h=>h) rfl rfl rfl rfl rfl h434 (r_field (n:=4) Tryz.underlying30 rfl Tryz.sizeOf28 rfl rfl)<|ga_do (i:=29) (bz 38 1073741823) rfl (by kernel_rfl) (fun _ _ _ _ h=>h) rfl rfl rfl rfl rfl h434 (r_load (tag:=100010) rfl rfl rfl Tryz.isAgg28)<|ga_rG (i:=30) (bz 38 2147483647) rfl (by kernel_rfl) (by decide) rfl rfl rfl rfl rfl h434 (r_move)<|ga_rG (i:=31) (bz 38 4294967295) rfl (by kernel_rfl) (by decide) rfl rfl rfl rfl rfl h434 (r_sub rfl rfl rfl) ?_
        replace hm:=bnd hm
        obtain ⟨x435,hx435,hm⟩:=hm
        refine ga_know _ (fun W hS=>cl_at (p:=(Sta.mk w0 M H R φ).ok) (sz:=2) (fun _=>rfl) (by decide) (ok_pre (H1:=[_,_]) (R1:=[]) hS (fun W h=>h)) fp0_3 hx435) ?_
        rintro ⟨ad436,hA438,f437⟩
        refine ga_rG (i:=32) (bz 38 8589934591) rfl (by kernel_rfl) (by decide) rfl rfl rfl rfl rfl h434 (r_ix Tryz.underlying28 Tryz.sizeOf48 rfl hA438 rfl hx435) ?_
        have f439:=fun (W : World) (h : (Sta.mk w0 M H R φ).ok W)=>Cl.drop (f437 W h) 0
        refine ga_rG (i:=33) (bz 38 17179869183) rfl (by kernel_rfl) (by decide) rfl rfl rfl rfl rfl h434 (r_fieldF Tryz.underlying48 rfl Tryz.sizeOf3 rfl)<|ga_rG (i:=34) (bz 38 34359738367) rfl (by kernel_rfl) (by decide) rfl rfl rfl rfl rfl h434 (r_ld rfl Tryz.isAgg3 (fun W hS=>Cl.head (f439 W (ok_pre (H1:=[_,_]) (R1:=[]) hS (fun W h=>h)))))<|ga_rG (i:=35) (bz 38 68719476735) rfl (by kernel_rfl) (by decide) rfl rfl rfl rfl rfl h434 (r_leq rfl rfl)<|ga_rG (i:=36) (bz 38 137438953471) rfl (by kernel_rfl) (by decide) rfl rfl rfl rfl rfl h433 (r_pick1 rfl h434)<|ga_r (i:=37) (bz 38 274877906943) rfl (by kernel_rfl) (by decide) rfl (r_pick0 rfl h433)<|ga_done (by kernel_rfl)<|d_then ?_
        refine c_flat [(1,Vp g1),(9,Vi i298),(10,Vp g401),(186,.bool (decide (x397.fEpoch ≤ x435.fEpoch)))] ⟨rfl,rfl,rfl,rfl,trivial⟩ (fun u=>?_)
        refine c_cond rfl (fun h440=>?_) (fun h440=>?_)
        ·
         replace hm:=ite_t hm (of_decide_eq_true h440)
         refine c_seq<|c_region<|g_v rfl r_assign<|g_nil<|d_then<|c_ret<|d_ret_then<|d_ret_block<|d_ret_then<|d_ret_then ?_
         refine d_ret_block<|d_ret_then<|d_ret_then ?_
         replace hm:=nx_out (C:=(fun e : Unit ⊕ Bool=>Sum.elim (fun e=>m_ref13_Right_j4) (fun x=>some x) e = some r)) hm hnx5 hr5
         replace hm : some false = some r:=hm
         cases hm
         exact d_retC () Tryz.results20 (res_tmp (res_nil rfl)) trivial (fun W h=>ok_pre (H1:=[_,_]) (R1:=[]) h (fun W hφ=>hφ)) (.inr rfl)
        replace hm:=ite_f hm (of_decide_eq_false h440)
        refine c_skip<|d_then<|c_seq<|c_region<|g_v rfl r_assign<|g_nil<|d_then ?_
        refine c_cut (ι:=Unit) [1,9] (fun _=>[]) (fun _=>⟨w0,M,(100010,g1,.cells #[.slice Ap0_0 p0.fRing.length cp0_0,.slice Ap0_1 p0.fHints.length cp0_1,.slice Ap0_2 p0.fAnchors.length cp0_2,Vi p0.fEpoch,.slice Ap0_3 p0.fFlushes.length cp0_3] 30 (0,0))::H,R,φ⟩) (fun _=>m_ref13_Right_j6 i298 = some o5) ?_ (fun _ u hm=>?_)
        ·
         refine c_block ?_
         replace hm:=bnd hm
         obtain ⟨out7,hl7,hr7⟩:=hm
         obtain ⟨n539',hl7⟩:=loop_lp hl7
         refine c_loopU (ι:=Nat×Int) [1,9,10,12] (fun ⟨n539,i514⟩=>[(12,Vi i514)]) (fun ⟨n539,i514⟩=>⟨w0,M,(100100,g401,.cells #[Vi x397.fEpoch,Vs x397.fZone] 48 (0,0))::(100010,g1,.cells #[.slice Ap0_0 p0.fRing.length cp0_0,.slice Ap0_1 p0.fHints.length cp0_1,.slice Ap0_2 p0.fAnchors.length cp0_2,Vi p0.fEpoch,.slice Ap0_3 p0.fFlushes.length cp0_3] 30 (0,0))::H,R,φ⟩) (fun ⟨n539,i514⟩=>Lp (fun s=>m_ref13_Right_s7 i298 p0 x397 s) n539 i514 out7) (fun ⟨n539,i514⟩=>n539) (n539',0) hl7 ⟨rfl,rfl,rfl,rfl,trivial⟩ (fun W h=>h.phi (fun W hφ=>hφ)) (fun ⟨n539,i514⟩ u hlp=>?_)
         obtain ⟨o7,hm,hnx7⟩:=lp_step hlp
         clear hlp
         replace hm : m_ref13_Right_s7 i298 p0 x397 i514 = some o7:=hm
         unfold m_ref13_Right_s7 at hm
         refine c_flat [(1,Vp g1),(9,Vi i298),(10,Vp g401),(12,Vi i514)] ⟨rfl,rfl,rfl,rfl,trivial⟩ (fun u=>?_)
         refine c_seq<|c_seq<|c_region<|g_v rfl r_move<|g_v rfl r_move<|g_v rfl (r_lss rfl rfl)<|g_nil<|d_then ?_
         refine c_cond rfl (fun h540=>?_) (fun h540=>?_)
         ·
          replace hm:=ite_t hm (of_decide_eq_true h540)
          refine c_skip<|d_then<|c_seq<|c_block<|c_seq<|ga_start (n:=10) ⟨w0,M,(100100,g401,.cells #[Vi x397.fEpoch,Vs x397.fZone] 48 (0,0))::(100010,g1,.cells #[.slice Ap0_0 p0.fRing.length cp0_0,.slice Ap0_1 p0.fHints.length cp0_1,.slice Ap0_2 p0.fAnchors.length cp0_2,Vi p0.fEpoch,.slice Ap0_3 p0.fFlushes.length cp0_3] 30 (0,0))::H,R,φ⟩ [] #[false,false,false,false,false,false,false,false,false,false] (fun W h=>h.phi (fun W hφ=>hφ)) mixed rfl rfl<|ga_v (i:=0) (bz 10 1) rfl (by kernel_rfl) (fun _ _ _ _ h=>h) rfl (r_field (n:=4) Tryz.underlying30 rfl Tryz.sizeOf28 rfl rfl)<|ga_v (i:=1) (bz 10 3) rfl (by kernel_rfl) (fun _ _ _ _ h=>h) rfl (r_load (tag:=100010) rfl rfl rfl Tryz.isAgg28)<|ga_v (i:=2) (bz 10 7) rfl (by kernel_rfl) (fun _ _ _ _ h=>h) rfl (r_move) ?_
          replace hm:=bnd hm
          obtain ⟨x555,hx555,hm⟩:=hm
          refine ga_know _ (fun W hS=>cl_at (p:=(Sta.mk w0 M H R φ).ok) (sz:=2) (fun _=>rfl) (by decide) (ok_pre (H1:=[_,_]) (R1:=[]) hS (fun W h=>h)) fp0_3 hx555) ?_
          rintro ⟨ad556,hA558,f557⟩
          refine ga_v (i:=3) (bz 10 15) rfl (by kernel_rfl) (fun _ _ _ _ h=>h) rfl (r_ix Tryz.underlying28 Tryz.sizeOf48 rfl hA558 rfl hx555) ?_
          have f559:=fun (W : World) (h : (Sta.mk w0 M H R φ).ok W)=>Cl.drop (f557 W h) 1
          refine ga_v (i:=4) (bz 10 31) rfl (by kernel_rfl) (fun _ _ _ _ h=>h) rfl (r_fieldF Tryz.underlying48 rfl Tryz.sizeOf9 rfl)<|ga_v (i:=5) (bz 10 63) rfl (by kernel_rfl) (fun _ _ _ _ h=>h) rfl (r_ld rfl Tryz.isAgg9 (fun W hS=>Cl.head (f559 W (ok_pre (H1:=[_,_]) (R1:=[]) hS (fun W h=>h)))))<|ga_r (i:=6) (bz 10 127) rfl (by kernel_rfl) (by decide) rfl (r_field (n:=1) Tryz.underlying48 rfl Tryz.sizeOf9 rfl rfl)<|ga_r (i:=7) (bz 10 255) rfl (by kernel_rfl) (by decide) rfl (r_load (tag:=100100) rfl rfl rfl Tryz.isAgg9) ?_
          replace hm:=bnd hm
          obtain ⟨x560,hx561,hm⟩:=hm
          refine ga_cn (first:=#[]) (i:=8) (bz 10 511) rfl (by kernel_rfl) (by decide)  ⟨w0,M,_,_,φ⟩ (fun _ h=>h) Tryz.call43 rfl rfl rfl (c_ref03_Under x555.fZone x397.fZone _ hx561) (fun _ W _ h=>h.phi (fun W hφ=>hφ)) (fun _ _=>?_)
          refine ga_r (i:=9) (bz 10 1023) rfl (by kernel_rfl) (by decide) rfl (r_assign)<|ga_done (by kernel_rfl)<|d_then ?_
          refine c_flat [(1,Vp g1),(9,Vi i298),(10,Vp g401),(12,Vi i514),(13,.bool x560)] ⟨rfl,rfl,rfl,rfl,rfl,trivial⟩ (fun u=>?_)
          refine c_seq<|c_region<|g_v rfl r_move<|g_nil<|d_then ?_
          refine c_cond rfl (fun h562=>?_) (fun h562=>?_)
          ·
           replace hm:=ite_t hm h562
           refine c_seq<|c_region<|g_v rfl r_assign<|g_nil<|d_then<|c_ret<|d_ret_block<|d_ret_then<|d_ret_then<|d_ret_block ?_
           refine d_ret_then<|d_ret_block<|d_ret_then<|d_ret_then<|d_ret_block<|d_ret_then<|d_ret_then ?_
           replace hm:=nx_out (C:=(fun e : Unit ⊕ Bool=>Sum.elim (fun e=>m_ref13_Right_j6 i298) (fun x=>some (.inr (.inr x))) e = some o5)) hm hnx7 hr7
           replace hm : some (.inr (.inr false)) = some o5:=hm
           replace hm:=nx_out (C:=(fun e : Unit ⊕ Bool=>Sum.elim (fun e=>m_ref13_Right_j4) (fun x=>some x) e = some r)) hm hnx5 hr5
           replace hm : some false = some r:=hm
           cases hm
           exact d_retC () Tryz.results20 (res_tmp (res_nil rfl)) trivial (fun W h=>ok_pre (H1:=[_,_]) (R1:=[]) h (fun W hφ=>hφ)) (.inr rfl)
          replace hm:=ite_f hm (bool_nt h562)
          refine c_skip<|d_normal_block<|d_then<|c_region<|g_v rfl r_move<|g_v rfl (r_add rfl rfl rfl)<|g_v rfl r_assign<|g_nil ?_
          obtain ⟨n563,hn563,hlp⟩:=nx_inl hm hnx7
          exact d_round (n563,w64 (i514 + 1)) hlp hn563 ⟨rfl,rfl,rfl,rfl,trivial⟩ (fun W h=>h.phi (fun W hφ=>hφ))
         replace hm:=ite_f hm (of_decide_eq_false h540)
         refine c_exit<|d_exit_then<|d_exit_then<|d_exit_block ?_
         replace hm:=nx_out (C:=(fun e : Unit ⊕ Bool=>Sum.elim (fun e=>m_ref13_Right_j6 i298) (fun x=>some (.inr (.inr x))) e = some o5)) hm hnx7 hr7
         exact d_round () hm Nat.zero_lt_one ⟨rfl,rfl,trivial⟩ (fun W h=>(h.dropH (t:=100100) rfl).phi (fun W hφ=>hφ))
        unfold m_ref13_Right_j6 at hm
        refine d_flat [(1,Vp g1),(9,Vi i298)] ⟨rfl,rfl,trivial⟩ (fun u=>?_)
        refine d_sta ⟨w0,M,(100010,g1,.cells #[.slice Ap0_0 p0.fRing.length cp0_0,.slice Ap0_1 p0.fHints.length cp0_1,.slice Ap0_2 p0.fAnchors.length cp0_2,Vi p0.fEpoch,.slice Ap0_3 p0.fFlushes.length cp0_3] 30 (0,0))::H,R,φ⟩ (fun _ h=>h)<|d_normal_block<|d_then<|c_region<|g_v rfl r_move<|g_v rfl (r_add rfl rfl rfl)<|g_v rfl r_assign<|g_nil ?_
        obtain ⟨n490,hn490,hlp⟩:=nx_inl hm hnx5
        exact d_round (n490,w64 (i298 + 1)) hlp hn490 ⟨rfl,rfl,trivial⟩ (fun W h=>h.phi (fun W hφ=>hφ))
       replace hm:=ite_f hm (of_decide_eq_false h434)
       refine ga_no (i:=26) (bz 38 134217727) rfl (by kernel_rfl) (fun _ _ _ _ h=>h) rfl rfl rfl rfl rfl h434<|ga_no (i:=27) (bz 38 268435455) rfl (by kernel_rfl) (fun _ _ _ _ h=>h) rfl rfl rfl rfl rfl h434<|ga_no (i:=28) (bz 38 536870911) rfl (by kernel_rfl) (fun _ _ _ _ h=>h) rfl rfl rfl rfl rfl h434<|ga_no (i:=29) (bz 38 1073741823) rfl (by kernel_rfl) (fun _ _ _ _ h=>h) rfl rfl rfl rfl rfl h434<|ga_no (i:=30) (bz 38 2147483647) rfl (by kernel_rfl) (fun _ _ _ _ h=>h) rfl rfl rfl rfl rfl h434<|ga_no (i:=31) (bz 38 4294967295) rfl (by kernel_rfl) (fun _ _ _ _ h=>h) rfl rfl rfl rfl rfl h434<|ga_no (i:=32) (bz 38 8589934591) rfl (by kernel_rfl) (fun _ _ _ _ h=>h) rfl rfl rfl rfl rfl h434<|ga_no (i:=33) (bz 38 17179869183) rfl (by kernel_rfl) (fun _ _ _ _ h=>h) rfl rfl rfl rfl rfl h434<|ga_no (i:=34) (bz 38 34359738367) rfl (by kernel_rfl) (fun _ _ _ _ h=>h) rfl rfl rfl rfl rfl h434<|ga_no (i:=35) (bz 38 68719476735) rfl (by kernel_rfl) (fun _ _ _ _ h=>h) rfl rfl rfl rfl rfl h434 ?_
       refine ga_rG (i:=36) (bz 38 137438953471) rfl (by kernel_rfl) (by decide) rfl rfl rfl rfl rfl h433 (r_pick0 rfl h434)<|ga_r (i:=37) (bz 38 274877906943) rfl (by kernel_rfl) (by decide) rfl (r_pick0 rfl h433)<|ga_done (by kernel_rfl)<|d_then ?_
       refine c_flat [(1,Vp g1),(9,Vi i298),(10,Vp g401),(186,.bool false)] ⟨rfl,rfl,rfl,rfl,trivial⟩ (fun u=>?_)
       refine c_cond0 rfl rfl<|c_skip<|d_then<|c_seq<|c_region<|g_v rfl r_assign<|g_nil<|d_then ?_
       refine c_cut (ι:=Unit) [1,9] (fun _=>[]) (fun _=>⟨w0,M,(100010,g1,.cells #[.slice Ap0_0 p0.fRing.length cp0_0,.slice Ap0_1 p0.fHints.length cp0_1,.slice Ap0_2 p0.fAnchors.length cp0_2,Vi p0.fEpoch,.slice Ap0_3 p0.fFlushes.length cp0_3] 30 (0,0))::H,R,φ⟩) (fun _=>m_ref13_Right_j8 i298 = some o5) ?_ (fun _ u hm=>?_)
       ·
        refine c_block ?_
        replace hm:=bnd hm
        obtain ⟨out9,hl9,hr9⟩:=hm
        obtain ⟨n566',hl9⟩:=loop_lp hl9
        refine c_loopU (ι:=Nat) [1,9,10,12] (fun n566=>[]) (fun n566=>⟨w0,M,(100100,g401,.cells #[Vi x397.fEpoch,Vs x397.fZone] 48 (0,0))::(100010,g1,.cells #[.slice Ap0_0 p0.fRing.length cp0_0,.slice Ap0_1 p0.fHints.length cp0_1,.slice Ap0_2 p0.fAnchors.length cp0_2,Vi p0.fEpoch,.slice Ap0_3 p0.fFlushes.length cp0_3] 30 (0,0))::H,R,φ⟩) (fun n566=>Lp (fun _ : Unit=>m_ref13_Right_s9) n566 () out9) (fun n566=>n566) n566' hl9 ⟨rfl,rfl,rfl,rfl,trivial⟩ (fun W h=>h.phi (fun W hφ=>hφ)) (fun n566 u hlp=>?_)
        obtain ⟨o9,hm,hnx9⟩:=lp_step hlp
        clear hlp
        replace hm : m_ref13_Right_s9 = some o9:=hm
        unfold m_ref13_Right_s9 at hm
        refine c_flat [(1,Vp g1),(9,Vi i298),(10,Vp g401),(12,Vi 0)] ⟨rfl,rfl,rfl,rfl,trivial⟩ (fun u=>?_)
        refine c_seq<|c_seq<|c_region<|g_v rfl r_move<|g_v rfl r_move<|g_v rfl (r_lss rfl rfl)<|g_nil<|d_then<|c_cond0 rfl h434<|c_exit ?_
        refine d_exit_then<|d_exit_then<|d_exit_block ?_
        replace hm:=nx_out (C:=(fun e : Unit ⊕ Bool=>Sum.elim (fun e=>m_ref13_Right_j8 i298) (fun x=>some (.inr (.inr x))) e = some o5)) hm hnx9 hr9
        exact d_round () hm Nat.zero_lt_one ⟨rfl,rfl,trivial⟩ (fun W h=>(h.dropH (t:=100100) rfl).phi (fun W hφ=>hφ))
       unfold m_ref13_Right_j8 at hm
       refine d_flat [(1,Vp g1),(9,Vi i298)] ⟨rfl,rfl,trivial⟩ (fun u=>?_)
       refine d_sta ⟨w0,M,(100010,g1,.cells #[.slice Ap0_0 p0.fRing.length cp0_0,.slice Ap0_1 p0.fHints.length cp0_1,.slice Ap0_2 p0.fAnchors.length cp0_2,Vi p0.fEpoch,.slice Ap0_3 p0.fFlushes.length cp0_3] 30 (0,0))::H,R,φ⟩ (fun _ h=>h)<|d_normal_block<|d_then<|c_region<|g_v rfl r_move<|g_v rfl (r_add rfl rfl rfl)<|g_v rfl r_assign<|g_nil ?_
       obtain ⟨n565,hn565,hlp⟩:=nx_inl hm hnx5
       exact d_round (n565,w64 (i298 + 1)) hlp hn565 ⟨rfl,rfl,trivial⟩ (fun W h=>h.phi (fun W hφ=>hφ))
      replace hm:=ite_f hm (of_decide_eq_false h396)
      refine c_exit<|d_exit_then<|d_exit_then<|d_exit_block ?_
      replace hm:=nx_out (C:=(fun e : Unit ⊕ Bool=>Sum.elim (fun e=>m_ref13_Right_j4) (fun x=>some x) e = some r)) hm hnx5 hr5
      exact d_round () hm Nat.zero_lt_one trivial (fun W h=>(h.dropH (t:=100010) rfl).phi (fun W hφ=>hφ))
     unfold m_ref13_Right_j4 at hm
     refine d_flat [] trivial (fun u=>?_)
     refine d_sta ⟨w0,M,H,R,φ⟩ (fun _ h=>h)<|d_then<|c_seq<|c_region<|g_v rfl r_assign<|g_nil<|d_then<|c_ret ?_
     cases hm
     exact d_retC () Tryz.results20 (res_tmp (res_nil rfl)) trivial (fun W h=>ok_pre (H1:=[]) (R1:=[]) h (fun W hφ=>hφ)) (.inr rfl)
    replace hm:=ite_t hm (of_decide_eq_true h5)
    iterate 3 refine g_no rfl rfl rfl rfl rfl h5 ?_
    refine g_v rfl (r_pick1 rfl h5)<|g_nil<|d_then ?_
    refine c_flat [(1,Vp g1),(39,.bool true)] ⟨rfl,rfl,trivial⟩ (fun u=>?_)
    refine c_cond1 rfl rfl<|c_seq<|c_region<|g_v rfl r_assign<|g_nil<|d_then<|c_ret<|d_ret_then ?_
    cases hm
    exact d_retC () Tryz.results20 (res_tmp (res_nil rfl)) trivial (fun W h=>ok_pre (H1:=[_]) (R1:=[]) h (fun W hφ=>hφ)) (.inr rfl)
   replace hm:=ite_t hm (of_decide_eq_true h4)
   refine g_no rfl rfl rfl rfl rfl h4<|g_no rfl rfl rfl rfl rfl h4<|g_v rfl (r_pick1 rfl h4)<|g_v rfl r_move ?_
   iterate 4 refine g_no rfl rfl rfl rfl rfl rfl ?_
   refine g_v rfl (r_pick1 rfl rfl)<|g_nil<|d_then ?_
   refine c_flat [(1,Vp g1),(39,.bool true)] ⟨rfl,rfl,trivial⟩ (fun u=>?_)
   refine c_cond1 rfl rfl<|c_seq<|c_region<|g_v rfl r_assign<|g_nil<|d_then<|c_ret<|d_ret_then ?_
   cases hm
   exact d_retC () Tryz.results20 (res_tmp (res_nil rfl)) trivial (fun W h=>ok_pre (H1:=[_]) (R1:=[]) h (fun W hφ=>hφ)) (.inr rfl)
  replace hm:=ite_t hm (of_decide_eq_true h3)
  refine g_no rfl rfl rfl rfl rfl h3<|g_no rfl rfl rfl rfl rfl h3<|g_v rfl (r_pick1 rfl h3)<|g_v rfl r_move ?_
  iterate 3 refine g_no rfl rfl rfl rfl rfl rfl ?_
  refine g_v rfl (r_pick1 rfl rfl)<|g_v rfl r_move ?_
  iterate 4 refine g_no rfl rfl rfl rfl rfl rfl ?_
  refine g_v rfl (r_pick1 rfl rfl)<|g_nil<|d_then ?_
  refine c_flat [(1,Vp g1),(39,.bool true)] ⟨rfl,rfl,trivial⟩ (fun u=>?_)
  refine c_cond1 rfl rfl<|c_seq<|c_region<|g_v rfl r_assign<|g_nil<|d_then<|c_ret<|d_ret_then ?_
  cases hm
  exact d_retC () Tryz.results20 (res_tmp (res_nil rfl)) trivial (fun W h=>ok_pre (H1:=[_]) (R1:=[]) h (fun W hφ=>hφ)) (.inr rfl)
 replace hm:=ite_t hm (of_decide_eq_true h2)
 iterate 3 refine g_no rfl rfl rfl rfl rfl h2 ?_
 refine g_v rfl (r_pick1 rfl h2)<|g_v rfl r_move ?_
 iterate 3 refine g_no rfl rfl rfl rfl rfl rfl ?_
 refine g_v rfl (r_pick1 rfl rfl)<|g_v rfl r_move ?_
 iterate 3 refine g_no rfl rfl rfl rfl rfl rfl ?_
 refine g_v rfl (r_pick1 rfl rfl)<|g_v rfl r_move ?_
 iterate 4 refine g_no rfl rfl rfl rfl rfl rfl ?_
 refine g_v rfl (r_pick1 rfl rfl)<|g_nil<|d_then ?_
 refine c_flat [(1,Vp g1),(39,.bool true)] ⟨rfl,rfl,trivial⟩ (fun u=>?_)
 refine c_cond1 rfl rfl<|c_seq<|c_region<|g_v rfl r_assign<|g_nil<|d_then<|c_ret<|d_ret_then ?_
 cases hm
 exact d_retC () Tryz.results20 (res_tmp (res_nil rfl)) trivial (fun W h=>ok_pre (H1:=[_]) (R1:=[]) h (fun W hφ=>hφ)) (.inr rfl)
structure Gref04_Place where
  fName : ByteArray
  fAt : Int
  deriving DecidableEq
def Gref04_Place.enc (e : Gref04_Place) : List Value:=[.string e.fName,.int .i64 e.fAt]
structure Gref04_Packer where
  fB : ByteArray
  fL : List Gref04_Place
  deriving DecidableEq
theorem bld101_26  : ∀ W,(Instr.build 101 #[]).run Tryz.prog W = .ok (.agg #[Ve,V0]) W:=fun _=>by kernel_rfl
noncomputable def m_ref04_Packer_Number_j1 (o0 : Gref04_Packer) (s29 : ByteArray) : Option Gref04_Packer:=
  some (⟨s29,o0.fL⟩ : Gref04_Packer)
noncomputable def m_ref04_Packer_Number_s2 (p1 : Int) (i43 : Int) (s44 : ByteArray) : Option ((Int×ByteArray) ⊕ ByteArray):=
  if 0 ≤ i43 then
    (shOk (IntKind.u64.wrap (w64 (8 * i43)))).bind fun u65=>
    (sadd s44 (strOfNums [IntKind.u8.wrap (shrI .i64 p1 (IntKind.u64.wrap (w64 (8 * i43))))])).bind fun s67=>
    some (.inl (w64 (i43 - 1),s67))
  else
    some (.inr s44)
noncomputable def m_ref04_Packer_Number (p1 : Int) (p2 : Int) (o0 : Gref04_Packer) : Option Gref04_Packer:=
  (loop (fun s=>m_ref04_Packer_Number_s2 p1 s.1 s.2) (w64 (p2 - 1),o0.fB)).bind fun e=>m_ref04_Packer_Number_j1 o0 e
theorem c_ref04_Packer_Number {w0 : World} {M : Nat→Prop} {H : List (Nat×Nat×Obj)} {R : List (Nat×Row)} {φ : World→Prop} (p1 : Int) (p2 : Int) (go0 : Nat) (o0 : Gref04_Packer) (Ao0_0 : Option Addr) (co0_0 : Nat) (hco0_0 : o0.fL.length ≤ co0_0) (r : Gref04_Packer) (hm : m_ref04_Packer_Number p1 p2 o0 = some r) :
    Cn Tryz.prog 75 #[Vp go0,Vi p1,Vi p2] ⟨w0,M,(1000,go0,.cells #[Vs o0.fB,.slice Ao0_0 o0.fL.length co0_0] 101 (0,0))::H,(1000,⟨.slice Ao0_0 o0.fL.length co0_0,170,2,o0.fL.length,o0.fL.flatMap Gref04_Place.enc⟩)::R,φ⟩ (fun x : Unit=>.tuple #[]) (fun x=>True) (fun x=>⟨w0,M,(1000,go0,.cells #[Vs r.fB,.slice Ao0_0 o0.fL.length co0_0] 101 (0,0))::H,(1000,⟨.slice Ao0_0 o0.fL.length co0_0,170,2,o0.fL.length,o0.fL.flatMap Gref04_Place.enc⟩)::R,φ⟩):=by
 unfold m_ref04_Packer_Number at hm
 refine cn_intro (fn:=Tryz.f75) (N:=29) Tryz.func75 rfl Tryz.ntmps75 rfl<|c_seq<|c_region<|g_v rfl r_move<|g_v rfl (r_sub rfl rfl rfl)<|g_v rfl r_assign<|g_nil<|d_then ?_
 refine c_cut (ι:=ByteArray) [] (fun s29=>[]) (fun s29=>⟨w0,M,(1000,go0,.cells #[Vs s29,.slice Ao0_0 o0.fL.length co0_0] 101 (0,0))::H,(1000,⟨.slice Ao0_0 o0.fL.length co0_0,170,2,o0.fL.length,o0.fL.flatMap Gref04_Place.enc⟩)::R,φ⟩) (fun s29=>m_ref04_Packer_Number_j1 o0 s29 = some r) ?_ (fun s29 u hm=>?_)
 ·
  refine c_block ?_
  replace hm:=bnd hm
  obtain ⟨out2,hl2,hr2⟩:=hm
  obtain ⟨n57',hl2⟩:=loop_lp hl2
  refine c_loopU (ι:=Nat×Int×ByteArray) [0,1,6] (fun ⟨n57,i43,s44⟩=>[(6,Vi i43)]) (fun ⟨n57,i43,s44⟩=>⟨w0,M,(1000,go0,.cells #[Vs s44,.slice Ao0_0 o0.fL.length co0_0] 101 (0,0))::H,(1000,⟨.slice Ao0_0 o0.fL.length co0_0,170,2,o0.fL.length,o0.fL.flatMap Gref04_Place.enc⟩)::R,φ⟩) (fun ⟨n57,i43,s44⟩=>Lp (fun s=>m_ref04_Packer_Number_s2 p1 s.1 s.2) n57 (i43,s44) out2) (fun ⟨n57,i43,s44⟩=>n57) (n57',w64 (p2 - 1),o0.fB) hl2 ⟨rfl,rfl,rfl,trivial⟩ (fun W h=>h.phi (fun W hφ=>hφ)) (fun ⟨n57,i43,s44⟩ u hlp=>?_)
  obtain ⟨o2,hm,hnx2⟩:=lp_step hlp
  clear hlp
  replace hm : m_ref04_Packer_Number_s2 p1 i43 s44 = some o2:=hm
  unfold m_ref04_Packer_Number_s2 at hm
  refine c_flat [(0,Vp go0),(1,Vi p1),(6,Vi i43)] ⟨rfl,rfl,rfl,trivial⟩ (fun u=>?_)
  refine c_sta ⟨w0,M,(1000,go0,.cells #[Vs s44,.slice Ao0_0 o0.fL.length co0_0] 101 (0,0))::H,(1000,⟨.slice Ao0_0 o0.fL.length co0_0,170,2,o0.fL.length,o0.fL.flatMap Gref04_Place.enc⟩)::R,φ⟩ (fun _ h=>h)<|c_seq<|c_seq<|c_region<|g_v rfl r_move<|g_v rfl (r_geq rfl rfl)<|g_nil<|d_then ?_
  refine c_cond rfl (fun h58=>?_) (fun h58=>?_)
  ·
   replace hm:=ite_t hm (of_decide_eq_true h58)
   refine c_skip<|d_then<|c_seq<|c_block<|ga_start (n:=17) ⟨w0,M,(1000,go0,.cells #[Vs s44,.slice Ao0_0 o0.fL.length co0_0] 101 (0,0))::H,(1000,⟨.slice Ao0_0 o0.fL.length co0_0,170,2,o0.fL.length,o0.fL.flatMap Gref04_Place.enc⟩)::R,φ⟩ [16] #[false,false,false,false,false,false,false,false,false,false,false,false,false,false,false,false,false] (fun W h=>h.phi (fun W hφ=>hφ)) mixed rfl rfl<|ga_v (i:=0) (bz 17 1) rfl (by kernel_rfl) (fun _ _ _ _ h=>h) rfl (r_move)<|ga_v (i:=1) (bz 17 3) rfl (by kernel_rfl) (fun _ _ _ _ h=>h) rfl (r_move)<|ga_v (i:=2) (bz 17 7) rfl (by kernel_rfl) (fun _ _ _ _ h=>h) rfl (r_nilck rfl)<|ga_v (i:=3) (bz 17 15) rfl (by kernel_rfl) (fun _ _ _ _ h=>h) rfl (r_field (n:=0) Tryz.underlying101 rfl Tryz.sizeOf9 rfl rfl)<|ga_v (i:=4) (bz 17 31) rfl (by kernel_rfl) (fun _ _ _ _ h=>h) rfl (r_load (tag:=1000) rfl rfl rfl Tryz.isAgg9) ?_
   refine ga_v (i:=5) (bz 17 63) rfl (by kernel_rfl) (fun _ _ _ _ h=>h) rfl (r_move)<|ga_r (i:=6) (bz 17 127) rfl (by kernel_rfl) (by decide) rfl (r_move)<|ga_r (i:=7) (bz 17 255) rfl (by kernel_rfl) (by decide) rfl (r_mul rfl rfl rfl)<|ga_r (i:=8) (bz 17 511) rfl (by kernel_rfl) (by decide) rfl (r_conv Tryz.underlying3 Tryz.underlying108 rfl rfl) ?_
   replace hm:=bnd hm
   obtain ⟨u65,hu65,hm⟩:=hm
   refine ga_r (i:=9) (bz 17 1023) rfl (by kernel_rfl) (by decide) rfl (r_shrV rfl rfl hu65)<|ga_r (i:=10) (bz 17 2047) rfl (by kernel_rfl) (by decide) rfl (r_conv Tryz.underlying3 Tryz.underlying5 rfl rfl) ?_
   refine ga_e (i:=11) (bz 17 4095) rfl (by kernel_rfl) (by decide) rfl  (e_lit (tag:=100240) (l:=[IntKind.u8.wrap (shrI .i64 p1 (IntKind.u64.wrap (w64 (8 * i43))))]) (enc:=(fun x : Int=>[Value.int .u8 x])) (sz:=1) rfl Tryz.underlying70 (lit5_6 _) rfl rfl (fun _=>rfl)) (fun g66 W _ h=>(h.dropR (t:=100240) rfl).phi (fun W hφ=>hφ)) (fun g66 _=>?_)
   refine ga_r (i:=12) (bz 17 8191) rfl (by kernel_rfl) (by decide) rfl (r_textE Tryz.underlying70 Tryz.underlying5 Tryz.underlying9 rfl (fun W hS=>rowCl (tag:=100240) rfl W hS)) ?_
   replace hm:=bnd hm
   obtain ⟨s67,hs67,hm⟩:=hm
   refine ga_r (i:=13) (bz 17 16383) rfl (by kernel_rfl) (by decide) rfl (r_addT rfl rfl hs67)<|ga_r (i:=14) (bz 17 32767) rfl (by kernel_rfl) (by decide) rfl (r_nilck rfl)<|ga_r (i:=15) (bz 17 65535) rfl (by kernel_rfl) (by decide) rfl (r_field (n:=0) Tryz.underlying101 rfl Tryz.sizeOf9 rfl rfl)<|ga_lastL (i:=16) (tag:=1000) (bz 17 131071) rfl (by kernel_rfl) (by decide) rfl rfl rfl rfl Tryz.sizeOf9 rfl rfl<|gz_done (by kernel_rfl)<|d_normal_block<|d_then ?_
   refine c_flat [(0,Vp go0),(1,Vi p1),(6,Vi i43)] ⟨rfl,rfl,rfl,trivial⟩ (fun u=>?_)
   refine c_sta ⟨w0,M,(1000,go0,.cells #[Vs s67,.slice Ao0_0 o0.fL.length co0_0] 101 (0,0))::H,(100240,⟨.slice (some ⟨g66,0,none⟩) [IntKind.u8.wrap (shrI .i64 p1 (IntKind.u64.wrap (w64 (8 * i43))))].length 1,5,1,[IntKind.u8.wrap (shrI .i64 p1 (IntKind.u64.wrap (w64 (8 * i43))))].length,[IntKind.u8.wrap (shrI .i64 p1 (IntKind.u64.wrap (w64 (8 * i43))))].flatMap (fun x : Int=>[Value.int .u8 x])⟩)::(1000,⟨.slice Ao0_0 o0.fL.length co0_0,170,2,o0.fL.length,o0.fL.flatMap Gref04_Place.enc⟩)::R,φ⟩ (fun _ h=>h)<|c_region<|g_v rfl r_move<|g_v rfl (r_sub rfl rfl rfl)<|g_v rfl r_assign<|g_nil ?_
   obtain ⟨n68,hn68,hlp⟩:=nx_inl hm hnx2
   exact d_round (n68,w64 (i43 - 1),s67) hlp hn68 ⟨rfl,rfl,rfl,trivial⟩ (fun W h=>(h.dropR (t:=100240) rfl).phi (fun W hφ=>hφ))
  replace hm:=ite_f hm (of_decide_eq_false h58)
  refine c_exit<|d_exit_then<|d_exit_then<|d_exit_block ?_
  replace hm:=nx_out (C:=(fun e : ByteArray=>m_ref04_Packer_Number_j1 o0 e = some r)) hm hnx2 hr2
  exact d_round s44 hm Nat.zero_lt_one trivial (fun W h=>h.phi (fun W hφ=>hφ))
 unfold m_ref04_Packer_Number_j1 at hm
 refine d_flat [] trivial (fun u=>?_)
 refine d_sta ⟨w0,M,(1000,go0,.cells #[Vs s29,.slice Ao0_0 o0.fL.length co0_0] 101 (0,0))::H,(1000,⟨.slice Ao0_0 o0.fL.length co0_0,170,2,o0.fL.length,o0.fL.flatMap Gref04_Place.enc⟩)::R,φ⟩ (fun _ h=>h) ?_
 cases hm
 exact d_retC () Tryz.results75 (res_nil rfl) trivial (fun W h=>h.phi (fun W hφ=>hφ)) (.inl rfl)
end Go.Proofs.YthpjodfjdnnckaaGreat
