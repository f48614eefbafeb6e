import Derived.Test.YthpjodfjdnnckaaGreatWCSA
set_option maxRecDepth 100000
set_option maxHeartbeats 4000000
set_option linter.unusedVariables false
set_option linter.unusedSimpArgs false
namespace Go.Proofs.YthpjodfjdnnckaaGreat
open Go.RowKit Go.Proofs.YthpjodfjdnnckaaGreatW.PrintLast
noncomputable def m_law13_awake  : Option Bool:=
  (m_conf_Bytes_k1 3 (⟨#[]⟩ : ByteArray) (⟨#[]⟩ : ByteArray) (⟨#[]⟩ : ByteArray) ([] : List ByteArray)).bind fun (z4 : ByteArray×Int)=>
  (m_conf_Bytes_k5 0 (⟨#[]⟩ : ByteArray) (⟨#[]⟩ : ByteArray) (⟨#[1,97,0]⟩ : ByteArray) ([] : List ByteArray)).bind fun (z8 : ByteArray×Int)=>
  (m_conf_Apply_k5 (⟨([] : List Int),([] : List ByteArray),([] : List GAnchor),0,([] : List GFlush)⟩ : GConf) 0 (⟨#[]⟩ : ByteArray) (⟨#[]⟩ : ByteArray) (⟨#[1,97,0]⟩ : ByteArray) ([] : List ByteArray)).bind fun (z25 : GConf×Int)=>
  (m_conf_Apply_k5 z25.1 0 (⟨#[]⟩ : ByteArray) (⟨#[]⟩ : ByteArray) (⟨#[0]⟩ : ByteArray) ([] : List ByteArray)).bind fun (z43 : GConf×Int)=>
  if z4.1 = (⟨#[1,3]⟩ : ByteArray) then
    if z4.2 = 0 then
      if z8.1 = (⟨#[5,1,97,0]⟩ : ByteArray) then
        if z8.2 = 0 then
          if z25.2 = 0 then
            if z43.2 = 0 then
              if z43.1.fEpoch = 2 then
                if (z43.1.fFlushes.length : Int) = 1 then
                  (m_conf_Floor z25.1 (⟨#[1,120,1,97,0]⟩ : ByteArray)).bind fun x53=>
                  if x53 = 1 then
                    (m_conf_Floor z25.1 (⟨#[1,98,0]⟩ : ByteArray)).bind fun x56=>
                    some (decide (x56 = 0))
                  else
                    some false
                else
                  some false
              else
                some false
            else
              some false
          else
            some false
        else
          some false
      else
        some false
    else
      some false
  else
    some false
theorem c_law13_awake {w0 : World} {M : Nat→Prop} {H : List (Nat×Nat×Obj)} {R : List (Nat×Row)} {φ : World→Prop}  (r : Bool) (hm : m_law13_awake = some r) :
    Cn Tryz.prog 5 #[] ⟨w0,M,H,R,φ⟩ (fun x : Unit=>.bool r) (fun x=>True) (fun x=>⟨w0,M,H,R,φ⟩):=by
 unfold m_law13_awake at hm
 refine cn_intro (fn:=Tryz.f5) (N:=74) Tryz.func5 rfl Tryz.ntmps5 rfl<|c_seq<|c_region<|g_v rfl r_assign<|g_nil<|d_then<|c_seq<|c_region<|g_v rfl (r_build _ rfl (bld32_0 _ _)) ?_
 replace hm:=bnd hm
 obtain ⟨⟨x1,x2⟩,hx3,hm⟩:=hm
 refine g_cn ⟨w0,M,_,_,φ⟩ (fun _ h=>h) Tryz.call21 rfl rfl (c_conf_Bytes_k1 3 (⟨#[]⟩ : ByteArray) (⟨#[]⟩ : ByteArray) (⟨#[]⟩ : ByteArray) ([] : List ByteArray) none 0 (Nat.le_refl 0) (fun W _=>Cl.nil _ _) _ hx3) (fun _ _=>?_)
 refine g_v rfl r_move<|g_v rfl (r_extract rfl rfl)<|g_v rfl (r_extract rfl rfl)<|g_v rfl r_assign<|g_v rfl r_assign<|g_nil<|d_then<|c_seq<|c_region<|g_v rfl (r_build _ rfl (bld32_5 _ _)) ?_
 replace hm:=bnd hm
 obtain ⟨⟨x5,x6⟩,hx7,hm⟩:=hm
 refine g_cn ⟨w0,M,_,_,φ⟩ (fun _ h=>h) Tryz.call21 rfl rfl (c_conf_Bytes_k5 0 (⟨#[]⟩ : ByteArray) (⟨#[]⟩ : ByteArray) (⟨#[1,97,0]⟩ : ByteArray) ([] : List ByteArray) none 0 (Nat.le_refl 0) (fun W _=>Cl.nil _ _) _ hx7) (fun _ _=>?_)
 refine g_v rfl r_move<|g_v rfl (r_extract rfl rfl)<|g_v rfl (r_extract rfl rfl)<|g_v rfl r_assign<|g_v rfl r_assign<|g_nil<|d_then ?_
 refine c_flat [(1,.string x1),(2,.int .i64 x2),(3,.string x5),(4,.int .i64 x6)] ⟨rfl,rfl,rfl,rfl,trivial⟩ (fun u=>?_)
 refine c_sta ⟨w0,M,H,R,φ⟩ (fun _ h=>h)<|c_seq<|c_region<|g_v rfl (r_build _ rfl (bld30_9))<|g_v rfl (r_build _ rfl (bld32_5 _ _)) ?_
 replace hm:=bnd hm
 obtain ⟨⟨x9,x10⟩,hx11,hm⟩:=hm
 refine g_cn ⟨w0,M,_,_,φ⟩ (fun _ h=>h) Tryz.call10 rfl rfl (c_conf_Apply_k5 (⟨([] : List Int),([] : List ByteArray),([] : List GAnchor),0,([] : List GFlush)⟩ : GConf) none 0 (Nat.le_refl 0) (fun W _=>Cl.nil _ _) none 0 (Nat.le_refl 0) (fun W _=>Cl.nil _ _) none 0 (Nat.le_refl 0) (fun W _=>Cl.nil _ _) none 0 (Nat.le_refl 0) (fun W _=>Cl.nil _ _) 0 (⟨#[]⟩ : ByteArray) (⟨#[]⟩ : ByteArray) (⟨#[1,97,0]⟩ : ByteArray) ([] : List ByteArray) none 0 (Nat.le_refl 0) (fun W _=>Cl.nil _ _) _ hx11) (fun ⟨A12,c13,A15,c16,A18,c19,A21,c22⟩ ⟨hc13,hc16,hc19,hc22⟩=>?_)
 refine g_abs (fun φ24 q24'=>?_)
 have q24 : ∀ W,φ24 W→φ W:=fun W h=>(q24' W h).1
 have f14:=fun (W : World) (h : φ24 W)=>(q24' W h).2.1
 have f17:=fun (W : World) (h : φ24 W)=>(q24' W h).2.2.1
 have f20:=fun (W : World) (h : φ24 W)=>(q24' W h).2.2.2.1
 have f23:=fun (W : World) (h : φ24 W)=>(q24' W h).2.2.2.2
 refine g_v rfl r_move<|g_v rfl (r_extract rfl rfl)<|g_v rfl (r_extract rfl rfl) ?_
 refine g_e rfl (e_alloc 100050 Tryz.zeroValue30) (fun g26 _=>?_)
 refine g_storeL (tag:=100050) rfl rfl rfl rfl Tryz.sizeOf30 rfl rfl<|g_v rfl r_assign<|g_nil<|d_then ?_
 refine c_flat [(1,.string x1),(2,.int .i64 x2),(3,.string x5),(4,.int .i64 x6),(5,.pointer (some ⟨g26,0,none⟩)),(6,.int .i64 x10)] ⟨rfl,rfl,rfl,rfl,rfl,rfl,trivial⟩ (fun u=>?_)
 refine c_sta ⟨w0,M,(100050,g26,.cells #[.slice A12 x9.fRing.length c13,.slice A15 x9.fHints.length c16,.slice A18 x9.fAnchors.length c19,.int .i64 x9.fEpoch,.slice A21 x9.fFlushes.length c22] 30 (0,0))::H,R,φ24⟩ (fun _ h=>h)<|c_seq<|c_region<|g_v rfl (r_loadA (tag:=100050) rfl rfl Tryz.isAgg30 Tryz.sizeOf30 rfl rfl)<|g_v rfl (r_build _ rfl (bld32_5 _ _)) ?_
 replace hm:=bnd hm
 obtain ⟨⟨x27,x28⟩,hx29,hm⟩:=hm
 refine g_cn ⟨w0,M,_,_,φ24⟩ (fun _ h=>h) Tryz.call10 rfl rfl (c_conf_Apply_k5 x9 A12 c13 hc13 (fun W h=>f14 W h) A15 c16 hc16 (fun W h=>f17 W h) A18 c19 hc19 (fun W h=>f20 W h) A21 c22 hc22 (fun W h=>f23 W h) 0 (⟨#[]⟩ : ByteArray) (⟨#[]⟩ : ByteArray) (⟨#[0]⟩ : ByteArray) ([] : List ByteArray) none 0 (Nat.le_refl 0) (fun W _=>Cl.nil _ _) _ hx29) (fun ⟨A30,c31,A33,c34,A36,c37,A39,c40⟩ ⟨hc31,hc34,hc37,hc40⟩=>?_)
 refine g_abs (fun φ42 q42'=>?_)
 have q42 : ∀ W,φ42 W→φ24 W:=fun W h=>(q42' W h).1
 have f32:=fun (W : World) (h : φ42 W)=>(q42' W h).2.1
 have f35:=fun (W : World) (h : φ42 W)=>(q42' W h).2.2.1
 have f38:=fun (W : World) (h : φ42 W)=>(q42' W h).2.2.2.1
 have f41:=fun (W : World) (h : φ42 W)=>(q42' W h).2.2.2.2
 refine g_v rfl r_move<|g_v rfl (r_extract rfl rfl)<|g_v rfl (r_extract rfl rfl) ?_
 refine g_e rfl (e_alloc 100070 Tryz.zeroValue30) (fun g44 _=>?_)
 refine g_storeL (tag:=100070) rfl rfl rfl rfl Tryz.sizeOf30 rfl rfl<|g_v rfl r_assign<|g_nil<|d_then ?_
 refine c_flat [(1,.string x1),(2,.int .i64 x2),(3,.string x5),(4,.int .i64 x6),(5,.pointer (some ⟨g26,0,none⟩)),(6,.int .i64 x10),(7,.pointer (some ⟨g44,0,none⟩)),(8,.int .i64 x28)] ⟨rfl,rfl,rfl,rfl,rfl,rfl,rfl,rfl,trivial⟩ (fun u=>?_)
 refine c_sta ⟨w0,M,(100070,g44,.cells #[.slice A30 x27.fRing.length c31,.slice A33 x27.fHints.length c34,.slice A36 x27.fAnchors.length c37,.int .i64 x27.fEpoch,.slice A39 x27.fFlushes.length c40] 30 (0,0))::(100050,g26,.cells #[.slice A12 x9.fRing.length c13,.slice A15 x9.fHints.length c16,.slice A18 x9.fAnchors.length c19,.int .i64 x9.fEpoch,.slice A21 x9.fFlushes.length c22] 30 (0,0))::H,R,φ42⟩ (fun _ h=>h)<|c_seq<|c_region<|g_v rfl r_move<|g_v rfl (r_eqlT rfl rfl)<|g_v rfl r_move ?_
 refine g_if rfl rfl rfl rfl rfl (fun h45=>?_) (fun h45=>?_)
 ·
  replace hm:=ite_t hm (of_decide_eq_true h45)
  refine g_v rfl r_move<|g_do rfl rfl rfl rfl rfl h45<|g_v rfl (r_eql rfl rfl)<|g_v rfl (r_pick1 rfl h45)<|g_v rfl r_move ?_
  refine g_if rfl rfl rfl rfl rfl (fun h46=>?_) (fun h46=>?_)
  ·
   replace hm:=ite_t hm (of_decide_eq_true h46)
   refine g_v rfl r_move<|g_do rfl rfl rfl rfl rfl h46<|g_v rfl (r_eqlT rfl rfl)<|g_v rfl (r_pick1 rfl h46)<|g_v rfl r_move ?_
   refine g_if rfl rfl rfl rfl rfl (fun h47=>?_) (fun h47=>?_)
   ·
    replace hm:=ite_t hm (of_decide_eq_true h47)
    refine g_v rfl r_move<|g_do rfl rfl rfl rfl rfl h47<|g_v rfl (r_eql rfl rfl)<|g_v rfl (r_pick1 rfl h47)<|g_v rfl r_move ?_
    refine g_if rfl rfl rfl rfl rfl (fun h48=>?_) (fun h48=>?_)
    ·
     replace hm:=ite_t hm (of_decide_eq_true h48)
     refine g_v rfl r_move<|g_do rfl rfl rfl rfl rfl h48<|g_v rfl (r_eql rfl rfl)<|g_v rfl (r_pick1 rfl h48)<|g_v rfl r_move ?_
     refine g_if rfl rfl rfl rfl rfl (fun h49=>?_) (fun h49=>?_)
     ·
      replace hm:=ite_t hm (of_decide_eq_true h49)
      refine g_v rfl r_move<|g_do rfl rfl rfl rfl rfl h49<|g_v rfl (r_eql rfl rfl)<|g_v rfl (r_pick1 rfl h49)<|g_v rfl r_move ?_
      refine g_if rfl rfl rfl rfl rfl (fun h50=>?_) (fun h50=>?_)
      ·
       replace hm:=ite_t hm (of_decide_eq_true h50)
       refine g_v rfl (r_field (n:=3) Tryz.underlying30 rfl Tryz.sizeOf3 rfl rfl)<|g_do rfl rfl rfl rfl rfl h50<|g_v rfl (r_load (tag:=100070) rfl rfl rfl Tryz.isAgg3)<|g_do rfl rfl rfl rfl rfl h50<|g_v rfl (r_eql rfl rfl)<|g_v rfl (r_pick1 rfl h50)<|g_v rfl r_move ?_
       refine g_if rfl rfl rfl rfl rfl (fun h51=>?_) (fun h51=>?_)
       ·
        replace hm:=ite_t hm (of_decide_eq_true h51)
        refine g_v rfl (r_field (n:=4) Tryz.underlying30 rfl Tryz.sizeOf28 rfl rfl)<|g_do rfl rfl rfl rfl rfl h51<|g_v rfl (r_load (tag:=100070) rfl rfl rfl Tryz.isAgg28)<|g_do rfl rfl rfl rfl rfl h51<|g_v rfl (r_lenL Tryz.underlying28 rfl)<|g_do rfl rfl rfl rfl rfl h51<|g_v rfl (r_eql rfl rfl)<|g_v rfl (r_pick1 rfl h51)<|g_v rfl r_move ?_
        refine g_if rfl rfl rfl rfl rfl (fun h52=>?_) (fun h52=>?_)
        ·
         replace hm:=ite_t hm (of_decide_eq_true h52)
         refine g_v rfl (r_loadA (tag:=100050) rfl rfl Tryz.isAgg30 Tryz.sizeOf30 rfl rfl)<|g_do rfl rfl rfl rfl rfl h52 ?_
         replace hm:=bnd hm
         obtain ⟨x53,hx54,hm⟩:=hm
         refine g_cn ⟨w0,M,_,_,φ42⟩ (fun _ h=>h) Tryz.call9 rfl rfl (c_conf_Floor x9 A12 c13 hc13 (fun W hS=>f14 W (q42 _ hS.now)) A15 c16 hc16 (fun W hS=>f17 W (q42 _ hS.now)) A18 c19 hc19 (fun W hS=>f20 W (q42 _ hS.now)) A21 c22 hc22 (fun W hS=>f23 W (q42 _ hS.now)) (⟨#[1,120,1,97,0]⟩ : ByteArray) _ hx54) (fun _ _=>?_)
         refine g_do rfl rfl rfl rfl rfl h52<|g_v rfl (r_eql rfl rfl)<|g_v rfl (r_pick1 rfl h52)<|g_v rfl r_move ?_
         refine g_if rfl rfl rfl rfl rfl (fun h55=>?_) (fun h55=>?_)
         ·
          replace hm:=ite_t hm (of_decide_eq_true h55)
          refine g_v rfl (r_loadA (tag:=100050) rfl rfl Tryz.isAgg30 Tryz.sizeOf30 rfl rfl)<|g_do rfl rfl rfl rfl rfl h55 ?_
          replace hm:=bnd hm
          obtain ⟨x56,hx57,hm⟩:=hm
          refine g_cn ⟨w0,M,_,_,φ42⟩ (fun _ h=>h) Tryz.call9 rfl rfl (c_conf_Floor x9 A12 c13 hc13 (fun W hS=>f14 W (q42 _ hS.now)) A15 c16 hc16 (fun W hS=>f17 W (q42 _ hS.now)) A18 c19 hc19 (fun W hS=>f20 W (q42 _ hS.now)) A21 c22 hc22 (fun W hS=>f23 W (q42 _ hS.now)) (⟨#[1,98,0]⟩ : ByteArray) _ hx57) (fun _ _=>?_)
          refine g_do rfl rfl rfl rfl rfl h55<|g_v rfl (r_eql rfl rfl)<|g_v rfl (r_pick1 rfl h55)<|g_v rfl r_assign<|g_nil<|d_then ?_
          refine c_flat [(0,.bool (decide (x56 = 0)))] ⟨rfl,trivial⟩ (fun u=>?_)
          refine c_ret ?_
          cases hm
          exact d_retC () Tryz.results5 (res_tmp (res_nil rfl)) trivial (fun W h=>ok_pre (H1:=[_,_]) (R1:=[]) h (fun W hφ=>(q24 _ (q42 _ hφ)))) (.inr rfl)
         replace hm:=ite_f hm (of_decide_eq_false h55)
         refine g_no rfl rfl rfl rfl rfl h55<|g_no rfl rfl rfl rfl rfl h55<|g_v rfl (r_pick0 rfl h55)<|g_v rfl r_assign<|g_nil<|d_then ?_
         refine c_flat [(0,.bool false)] ⟨rfl,trivial⟩ (fun u=>?_)
         refine c_ret ?_
         cases hm
         exact d_retC () Tryz.results5 (res_tmp (res_nil rfl)) trivial (fun W h=>ok_pre (H1:=[_,_]) (R1:=[]) h (fun W hφ=>(q24 _ (q42 _ hφ)))) (.inr rfl)
        replace hm:=ite_f hm (of_decide_eq_false h52)
        refine g_no rfl rfl rfl rfl rfl h52<|g_no rfl rfl rfl rfl rfl h52<|g_v rfl (r_pick0 rfl h52)<|g_v rfl r_move ?_
        iterate 3 refine g_no rfl rfl rfl rfl rfl rfl ?_
        refine g_v rfl (r_pick0 rfl rfl)<|g_v rfl r_assign<|g_nil<|d_then ?_
        refine c_flat [(0,.bool false)] ⟨rfl,trivial⟩ (fun u=>?_)
        refine c_ret ?_
        cases hm
        exact d_retC () Tryz.results5 (res_tmp (res_nil rfl)) trivial (fun W h=>ok_pre (H1:=[_,_]) (R1:=[]) h (fun W hφ=>(q24 _ (q42 _ hφ)))) (.inr rfl)
       replace hm:=ite_f hm (of_decide_eq_false h51)
       iterate 3 refine g_no rfl rfl rfl rfl rfl h51 ?_
       refine g_v rfl (r_pick0 rfl h51)<|g_v rfl r_move ?_
       iterate 3 refine g_no rfl rfl rfl rfl rfl rfl ?_
       refine g_v rfl (r_pick0 rfl rfl)<|g_v rfl r_move ?_
       iterate 3 refine g_no rfl rfl rfl rfl rfl rfl ?_
       refine g_v rfl (r_pick0 rfl rfl)<|g_v rfl r_assign<|g_nil<|d_then ?_
       refine c_flat [(0,.bool false)] ⟨rfl,trivial⟩ (fun u=>?_)
       refine c_ret ?_
       cases hm
       exact d_retC () Tryz.results5 (res_tmp (res_nil rfl)) trivial (fun W h=>ok_pre (H1:=[_,_]) (R1:=[]) h (fun W hφ=>(q24 _ (q42 _ hφ)))) (.inr rfl)
      replace hm:=ite_f hm (of_decide_eq_false h50)
      refine g_no rfl rfl rfl rfl rfl h50<|g_no rfl rfl rfl rfl rfl h50<|g_v rfl (r_pick0 rfl h50)<|g_v rfl r_move ?_
      iterate 4 refine g_no rfl rfl rfl rfl rfl rfl ?_
      refine g_v rfl (r_pick0 rfl rfl)<|g_v rfl r_move ?_
      iterate 3 refine g_no rfl rfl rfl rfl rfl rfl ?_
      refine g_v rfl (r_pick0 rfl rfl)<|g_v rfl r_move ?_
      iterate 3 refine g_no rfl rfl rfl rfl rfl rfl ?_
      refine g_v rfl (r_pick0 rfl rfl)<|g_v rfl r_assign<|g_nil<|d_then ?_
      refine c_flat [(0,.bool false)] ⟨rfl,trivial⟩ (fun u=>?_)
      refine c_ret ?_
      cases hm
      exact d_retC () Tryz.results5 (res_tmp (res_nil rfl)) trivial (fun W h=>ok_pre (H1:=[_,_]) (R1:=[]) h (fun W hφ=>(q24 _ (q42 _ hφ)))) (.inr rfl)
     replace hm:=ite_f hm (of_decide_eq_false h49)
     refine g_no rfl rfl rfl rfl rfl h49<|g_v rfl (r_pick0 rfl h49)<|g_v rfl r_move ?_
     iterate 3 refine g_no rfl rfl rfl rfl rfl rfl ?_
     refine g_v rfl (r_pick0 rfl rfl)<|g_v rfl r_move ?_
     iterate 4 refine g_no rfl rfl rfl rfl rfl rfl ?_
     refine g_v rfl (r_pick0 rfl rfl)<|g_v rfl r_move ?_
     iterate 3 refine g_no rfl rfl rfl rfl rfl rfl ?_
     refine g_v rfl (r_pick0 rfl rfl)<|g_v rfl r_move ?_
     iterate 3 refine g_no rfl rfl rfl rfl rfl rfl ?_
     refine g_v rfl (r_pick0 rfl rfl)<|g_v rfl r_assign<|g_nil<|d_then ?_
     refine c_flat [(0,.bool false)] ⟨rfl,trivial⟩ (fun u=>?_)
     refine c_ret ?_
     cases hm
     exact d_retC () Tryz.results5 (res_tmp (res_nil rfl)) trivial (fun W h=>ok_pre (H1:=[_,_]) (R1:=[]) h (fun W hφ=>(q24 _ (q42 _ hφ)))) (.inr rfl)
    replace hm:=ite_f hm (of_decide_eq_false h48)
    refine g_no rfl rfl rfl rfl rfl h48<|g_v rfl (r_pick0 rfl h48)<|g_v rfl r_move<|g_no rfl rfl rfl rfl rfl rfl<|g_no rfl rfl rfl rfl rfl rfl<|g_v rfl (r_pick0 rfl rfl)<|g_v rfl r_move ?_
    iterate 3 refine g_no rfl rfl rfl rfl rfl rfl ?_
    refine g_v rfl (r_pick0 rfl rfl)<|g_v rfl r_move ?_
    iterate 4 refine g_no rfl rfl rfl rfl rfl rfl ?_
    refine g_v rfl (r_pick0 rfl rfl)<|g_v rfl r_move ?_
    iterate 3 refine g_no rfl rfl rfl rfl rfl rfl ?_
    refine g_v rfl (r_pick0 rfl rfl)<|g_v rfl r_move ?_
    iterate 3 refine g_no rfl rfl rfl rfl rfl rfl ?_
    refine g_v rfl (r_pick0 rfl rfl)<|g_v rfl r_assign<|g_nil<|d_then ?_
    refine c_flat [(0,.bool false)] ⟨rfl,trivial⟩ (fun u=>?_)
    refine c_ret ?_
    cases hm
    exact d_retC () Tryz.results5 (res_tmp (res_nil rfl)) trivial (fun W h=>ok_pre (H1:=[_,_]) (R1:=[]) h (fun W hφ=>(q24 _ (q42 _ hφ)))) (.inr rfl)
   replace hm:=ite_f hm (of_decide_eq_false h47)
   refine g_no rfl rfl rfl rfl rfl h47<|g_v rfl (r_pick0 rfl h47)<|g_v rfl r_move<|g_no rfl rfl rfl rfl rfl rfl<|g_no rfl rfl rfl rfl rfl rfl<|g_v rfl (r_pick0 rfl rfl)<|g_v rfl r_move<|g_no rfl rfl rfl rfl rfl rfl<|g_no rfl rfl rfl rfl rfl rfl<|g_v rfl (r_pick0 rfl rfl) ?_
   refine g_v rfl r_move ?_
   iterate 3 refine g_no rfl rfl rfl rfl rfl rfl ?_
   refine g_v rfl (r_pick0 rfl rfl)<|g_v rfl r_move ?_
   iterate 4 refine g_no rfl rfl rfl rfl rfl rfl ?_
   refine g_v rfl (r_pick0 rfl rfl)<|g_v rfl r_move ?_
   iterate 3 refine g_no rfl rfl rfl rfl rfl rfl ?_
   refine g_v rfl (r_pick0 rfl rfl)<|g_v rfl r_move ?_
   iterate 3 refine g_no rfl rfl rfl rfl rfl rfl ?_
   refine g_v rfl (r_pick0 rfl rfl)<|g_v rfl r_assign<|g_nil<|d_then ?_
   refine c_flat [(0,.bool false)] ⟨rfl,trivial⟩ (fun u=>?_)
   refine c_ret ?_
   cases hm
   exact d_retC () Tryz.results5 (res_tmp (res_nil rfl)) trivial (fun W h=>ok_pre (H1:=[_,_]) (R1:=[]) h (fun W hφ=>(q24 _ (q42 _ hφ)))) (.inr rfl)
  replace hm:=ite_f hm (of_decide_eq_false h46)
  refine g_no rfl rfl rfl rfl rfl h46<|g_v rfl (r_pick0 rfl h46)<|g_v rfl r_move<|g_no rfl rfl rfl rfl rfl rfl<|g_no rfl rfl rfl rfl rfl rfl<|g_v rfl (r_pick0 rfl rfl)<|g_v rfl r_move<|g_no rfl rfl rfl rfl rfl rfl<|g_no rfl rfl rfl rfl rfl rfl<|g_v rfl (r_pick0 rfl rfl) ?_
  refine g_v rfl r_move<|g_no rfl rfl rfl rfl rfl rfl<|g_no rfl rfl rfl rfl rfl rfl<|g_v rfl (r_pick0 rfl rfl)<|g_v rfl r_move ?_
  iterate 3 refine g_no rfl rfl rfl rfl rfl rfl ?_
  refine g_v rfl (r_pick0 rfl rfl)<|g_v rfl r_move ?_
  iterate 4 refine g_no rfl rfl rfl rfl rfl rfl ?_
  refine g_v rfl (r_pick0 rfl rfl)<|g_v rfl r_move ?_
  iterate 3 refine g_no rfl rfl rfl rfl rfl rfl ?_
  refine g_v rfl (r_pick0 rfl rfl)<|g_v rfl r_move ?_
  iterate 3 refine g_no rfl rfl rfl rfl rfl rfl ?_
  refine g_v rfl (r_pick0 rfl rfl)<|g_v rfl r_assign<|g_nil<|d_then ?_
  refine c_flat [(0,.bool false)] ⟨rfl,trivial⟩ (fun u=>?_)
  refine c_ret ?_
  cases hm
  exact d_retC () Tryz.results5 (res_tmp (res_nil rfl)) trivial (fun W h=>ok_pre (H1:=[_,_]) (R1:=[]) h (fun W hφ=>(q24 _ (q42 _ hφ)))) (.inr rfl)
 replace hm:=ite_f hm (of_decide_eq_false h45)
 refine g_no rfl rfl rfl rfl rfl h45<|g_v rfl (r_pick0 rfl h45)<|g_v rfl r_move<|g_no rfl rfl rfl rfl rfl rfl<|g_no rfl rfl rfl rfl rfl rfl<|g_v rfl (r_pick0 rfl rfl)<|g_v rfl r_move<|g_no rfl rfl rfl rfl rfl rfl<|g_no rfl rfl rfl rfl rfl rfl<|g_v rfl (r_pick0 rfl rfl) ?_
 refine g_v rfl r_move<|g_no rfl rfl rfl rfl rfl rfl<|g_no rfl rfl rfl rfl rfl rfl<|g_v rfl (r_pick0 rfl rfl)<|g_v rfl r_move<|g_no rfl rfl rfl rfl rfl rfl<|g_no rfl rfl rfl rfl rfl rfl<|g_v rfl (r_pick0 rfl rfl)<|g_v rfl r_move ?_
 iterate 3 refine g_no rfl rfl rfl rfl rfl rfl ?_
 refine g_v rfl (r_pick0 rfl rfl)<|g_v rfl r_move ?_
 iterate 4 refine g_no rfl rfl rfl rfl rfl rfl ?_
 refine g_v rfl (r_pick0 rfl rfl)<|g_v rfl r_move ?_
 iterate 3 refine g_no rfl rfl rfl rfl rfl rfl ?_
 refine g_v rfl (r_pick0 rfl rfl)<|g_v rfl r_move ?_
 iterate 3 refine g_no rfl rfl rfl rfl rfl rfl ?_
 refine g_v rfl (r_pick0 rfl rfl)<|g_v rfl r_assign<|g_nil<|d_then ?_
 refine c_flat [(0,.bool false)] ⟨rfl,trivial⟩ (fun u=>?_)
 refine c_ret ?_
 cases hm
 exact d_retC () Tryz.results5 (res_tmp (res_nil rfl)) trivial (fun W h=>ok_pre (H1:=[_,_]) (R1:=[]) h (fun W hφ=>(q24 _ (q42 _ hφ)))) (.inr rfl)
theorem bld30_20 (z0 : Int) : ∀ W,(Instr.build 30 #[(3,.int .i64 z0)]).run Tryz.prog W = .ok (.agg #[.slice none 0 0,.slice none 0 0,.slice none 0 0,.int .i64 z0,.slice none 0 0]) W:=fun _=>by kernel_rfl
theorem lit3_21 (z0 : Int) : Tryz.prog.builtSlice 3 1 [(0,.int .i64 z0)] = some #[.int .i64 z0]:=by kernel_rfl
noncomputable def m_law13_short (p0 : ByteArray) (p1 : Int) : Option ByteArray:=
  if p1 < (p0.size : Int) then
    (scutHi p0 p1).bind fun s2=>
    some s2
  else
    some p0
theorem c_law13_short {w0 : World} {M : Nat→Prop} {H : List (Nat×Nat×Obj)} {R : List (Nat×Row)} {φ : World→Prop} (p0 : ByteArray) (p1 : Int) (r : ByteArray) (hm : m_law13_short p0 p1 = some r) :
    Cn Tryz.prog 6 #[.string p0,.int .i64 p1] ⟨w0,M,H,R,φ⟩ (fun x : Unit=>.string r) (fun x=>True) (fun x=>⟨w0,M,H,R,φ⟩):=by
 unfold m_law13_short at hm
 refine cn_intro (fn:=Tryz.f6) (N:=13) Tryz.func6 rfl Tryz.ntmps6 rfl<|c_seq<|c_region<|g_v rfl r_assign<|g_nil<|d_then<|c_seq<|c_seq<|c_region<|g_v rfl r_move ?_
 refine g_v rfl (r_len Tryz.underlying9 rfl)<|g_v rfl r_move<|g_v rfl (r_gtr rfl rfl)<|g_nil<|d_then ?_
 refine c_cond rfl (fun h1=>?_) (fun h1=>?_)
 ·
  replace hm:=ite_t hm (of_decide_eq_true h1)
  refine c_seq<|c_region<|g_v rfl r_move<|g_v rfl r_move ?_
  replace hm:=bnd hm
  obtain ⟨s2,hs2,hm⟩:=hm
  refine g_v rfl (r_scutHi Tryz.underlying9 rfl rfl hs2)<|g_v rfl r_assign<|g_nil<|d_then ?_
  refine c_flat [(4,.string s2)] ⟨rfl,trivial⟩ (fun u=>?_)
  refine c_sta ⟨w0,M,H,R,φ⟩ (fun _ h=>h)<|c_ret<|d_ret_then ?_
  cases hm
  exact d_retC () Tryz.results6 (res_tmp (res_nil rfl)) trivial (fun W h=>ok_pre (H1:=[]) (R1:=[]) h (fun W hφ=>hφ)) (.inr rfl)
 replace hm:=ite_f hm (of_decide_eq_false h1)
 refine c_skip<|d_then<|c_seq<|c_region<|g_v rfl r_move<|g_v rfl r_assign<|g_nil<|d_then<|c_ret ?_
 cases hm
 exact d_retC () Tryz.results6 (res_tmp (res_nil rfl)) trivial (fun W h=>ok_pre (H1:=[]) (R1:=[]) h (fun W hφ=>hφ)) (.inr rfl)
theorem bld55_22 (z0 : ByteArray) (z1 : ByteArray) : ∀ W,(Instr.build 55 #[(0,.string z0),(1,.string z1)]).run Tryz.prog W = .ok (.agg #[.string z0,.string z1]) W:=fun _=>by kernel_rfl
theorem lit55_23 (z0 : ByteArray) (z1 : ByteArray) : Tryz.prog.builtSlice 55 1 [(0,.agg #[.string z0,.string z1])] = some #[.string z0,.string z1]:=by kernel_rfl
noncomputable def m_law13_tame_j4 (l158 : List Int) (l345 : List ByteArray) (l652 : List GAnchor) (p0 : GConf) (l929 : List GFlush) : Option GConf:=
  some (⟨l158,l345,l652,p0.fEpoch,l929⟩ : GConf)
noncomputable def m_law13_tame_s5 (p0 : GConf) (l993 : List GFlush) (i996 : Int) : Option (((List GFlush)×Int) ⊕ (List GFlush)):=
  if i996 < (p0.fFlushes.length : Int) then
    if i996 < 40 then
      (at_ p0.fFlushes i996).bind fun x1086=>
      (at_ p0.fFlushes i996).bind fun x1091=>
      (m_law13_short x1091.fZone 300).bind fun x1096=>
      (app 24 l993 [(⟨x1086.fEpoch,x1096⟩ : GFlush)]).bind fun l1099=>
      some (.inl (l1099,w64 (i996 + 1)))
    else
      some (.inr l993)
  else
    some (.inr l993)
noncomputable def m_law13_tame_j3 (p0 : GConf) (l158 : List Int) (l345 : List ByteArray) (l652 : List GAnchor) : Option GConf:=
  (loop (fun s=>m_law13_tame_s5 p0 s.1 s.2) (([] : List GFlush),0)).bind fun e=>m_law13_tame_j4 l158 l345 l652 p0 e
noncomputable def m_law13_tame_s6 (p0 : GConf) (l1162 : List GAnchor) (i1165 : Int) : Option (((List GAnchor)×Int) ⊕ (List GAnchor)):=
  if i1165 < (p0.fAnchors.length : Int) then
    if i1165 < 20 then
      (at_ p0.fAnchors i1165).bind fun x1265=>
      (at_ p0.fAnchors i1165).bind fun x1270=>
      (m_law13_short x1265.fName 300).bind fun x1275=>
      (m_law13_short x1270.fText 300).bind fun x1277=>
      (app 32 l1162 [(⟨x1275,x1277⟩ : GAnchor)]).bind fun l1280=>
      some (.inl (l1280,w64 (i1165 + 1)))
    else
      some (.inr l1162)
  else
    some (.inr l1162)
noncomputable def m_law13_tame_j2 (p0 : GConf) (l158 : List Int) (l345 : List ByteArray) : Option GConf:=
  (loop (fun s=>m_law13_tame_s6 p0 s.1 s.2) (([] : List GAnchor),0)).bind fun e=>m_law13_tame_j3 p0 l158 l345 e
noncomputable def m_law13_tame_s7 (p0 : GConf) (l1319 : List ByteArray) (i1322 : Int) : Option (((List ByteArray)×Int) ⊕ (List ByteArray)):=
  if i1322 < (p0.fHints.length : Int) then
    if i1322 < 20 then
      (at_ p0.fHints i1322).bind fun x1382=>
      (m_law13_short x1382 10).bind fun x1386=>
      (app 16 l1319 [x1386]).bind fun l1389=>
      some (.inl (l1389,w64 (i1322 + 1)))
    else
      some (.inr l1319)
  else
    some (.inr l1319)
noncomputable def m_law13_tame_j1 (p0 : GConf) (l158 : List Int) : Option GConf:=
  (loop (fun s=>m_law13_tame_s7 p0 s.1 s.2) (([] : List ByteArray),0)).bind fun e=>m_law13_tame_j2 p0 l158 e
noncomputable def m_law13_tame_s8 (p0 : GConf) (l1422 : List Int) (i1425 : Int) : Option (((List Int)×Int) ⊕ (List Int)):=
  if i1425 < (p0.fRing.length : Int) then
    if i1425 < 70 then
      (at_ p0.fRing i1425).bind fun x1475=>
      (app 8 l1422 [x1475]).bind fun l1480=>
      some (.inl (l1480,w64 (i1425 + 1)))
    else
      some (.inr l1422)
  else
    some (.inr l1422)
noncomputable def m_law13_tame (p0 : GConf) : Option GConf:=
  (loop (fun s=>m_law13_tame_s8 p0 s.1 s.2) (([] : List Int),0)).bind fun e=>m_law13_tame_j1 p0 e
theorem c_law13_tame {w0 : World} {M : Nat→Prop} {H : List (Nat×Nat×Obj)} {R : List (Nat×Row)} {φ : World→Prop} (p0 : GConf) (Ap0_0 : Option Addr) (cp0_0 : Nat) (hcp0_0 : p0.fRing.length ≤ cp0_0) (fp0_0 : ∀ W,(Sta.mk w0 M H R φ).ok W→Cl W Ap0_0 (p0.fRing.flatMap (fun x : Int=>[Value.int .i64 x]))) (Ap0_1 : Option Addr) (cp0_1 : Nat) (hcp0_1 : p0.fHints.length ≤ cp0_1) (fp0_1 : ∀ W,(Sta.mk w0 M H R φ).ok W→Cl W Ap0_1 (p0.fHints.flatMap (fun x : ByteArray=>[Value.string x]))) (Ap0_2 : Option Addr) (cp0_2 : Nat) (hcp0_2 : p0.fAnchors.length ≤ cp0_2) (fp0_2 : ∀ W,(Sta.mk w0 M H R φ).ok W→Cl W Ap0_2 (p0.fAnchors.flatMap GAnchor.enc)) (Ap0_3 : Option Addr) (cp0_3 : Nat) (hcp0_3 : p0.fFlushes.length ≤ cp0_3) (fp0_3 : ∀ W,(Sta.mk w0 M H R φ).ok W→Cl W Ap0_3 (p0.fFlushes.flatMap GFlush.enc)) (r : GConf) (hm : m_law13_tame p0 = some r) :
    Cn Tryz.prog 18 #[.agg #[.slice Ap0_0 p0.fRing.length cp0_0,.slice Ap0_1 p0.fHints.length cp0_1,.slice Ap0_2 p0.fAnchors.length cp0_2,.int .i64 p0.fEpoch,.slice Ap0_3 p0.fFlushes.length cp0_3]] ⟨w0,M,H,R,φ⟩ (fun x : Option Addr×Nat×Option Addr×Nat×Option Addr×Nat×Option Addr×Nat=>.agg #[.slice x.1 r.fRing.length x.2.1,.slice x.2.2.1 r.fHints.length x.2.2.2.1,.slice x.2.2.2.2.1 r.fAnchors.length x.2.2.2.2.2.1,.int .i64 r.fEpoch,.slice x.2.2.2.2.2.2.1 r.fFlushes.length x.2.2.2.2.2.2.2]) (fun x=>r.fRing.length ≤ x.2.1∧r.fHints.length ≤ x.2.2.2.1∧r.fAnchors.length ≤ x.2.2.2.2.2.1∧r.fFlushes.length ≤ x.2.2.2.2.2.2.2) (fun x=>⟨w0,M,H,R,fun W=>φ W∧Cl W x.1 (r.fRing.flatMap (fun x : Int=>[Value.int .i64 x]))∧Cl W x.2.2.1 (r.fHints.flatMap (fun x : ByteArray=>[Value.string x]))∧Cl W x.2.2.2.2.1 (r.fAnchors.flatMap GAnchor.enc)∧Cl W x.2.2.2.2.2.2.1 (r.fFlushes.flatMap GFlush.enc)⟩):=by
 unfold m_law13_tame at hm
 refine cn_intro (fn:=Tryz.f18) (N:=116) Tryz.func18 rfl Tryz.ntmps18 rfl<|c_seq<|c_region ?_
 refine g_e rfl (e_box 100010 rfl) (fun g1 _=>?_)
 refine g_e rfl (e_alloc 100020 Tryz.zeroValue30) (fun g2 _=>?_)
 refine g_nil<|d_then<|c_seq<|c_region<|g_v rfl (r_field (n:=3) Tryz.underlying30 rfl Tryz.sizeOf3 rfl rfl)<|g_v rfl (r_load (tag:=100010) rfl rfl rfl Tryz.isAgg3)<|g_v rfl (r_build _ rfl (bld30_20 _)) ?_
 refine g_e rfl (e_alloc 100030 Tryz.zeroValue30) (fun g3 _=>?_)
 refine g_storeL (tag:=100030) rfl rfl rfl rfl Tryz.sizeOf30 rfl rfl<|g_nil<|d_then<|c_seq<|c_sta _ (fun W h=>nilR h 15 3 1) ?_
 refine c_cut (ι:=(List Int)×Option Addr×Nat) [1,2,3] (fun ⟨l158,A159,c160⟩=>[]) (fun ⟨l158,A159,c160⟩=>⟨w0,M,(100030,g3,.cells #[.slice A159 l158.length c160,.slice none 0 0,.slice none 0 0,.int .i64 p0.fEpoch,.slice none 0 0] 30 (0,0))::(100020,g2,.cells #[.slice none 0 0,.slice none 0 0,.slice none 0 0,.int .i64 0,.slice none 0 0] 30 (0,0))::(100010,g1,.cells #[.slice Ap0_0 p0.fRing.length cp0_0,.slice Ap0_1 p0.fHints.length cp0_1,.slice Ap0_2 p0.fAnchors.length cp0_2,.int .i64 p0.fEpoch,.slice Ap0_3 p0.fFlushes.length cp0_3] 30 (0,0))::H,(15,⟨.slice A159 l158.length c160,3,1,l158.length,l158.flatMap (fun x : Int=>[Value.int .i64 x])⟩)::R,φ⟩) (fun ⟨l158,A159,c160⟩=>m_law13_tame_j1 p0 l158 = some r∧l158.length ≤ c160) ?_ (fun ⟨l158,A159,c160⟩ u ⟨hm,hc160⟩=>?_)
 ·
  refine c_seq<|c_region<|g_v rfl r_assign<|g_nil<|d_then<|c_block ?_
  replace hm:=bnd hm
  obtain ⟨out8,hl8,hr8⟩:=hm
  obtain ⟨n1456',hl8⟩:=loop_lp hl8
  refine c_loopU (ι:=Nat×(List Int)×Int×Option Addr×Nat) [1,2,3,4] (fun ⟨n1456,l1422,i1425,A1423,c1424⟩=>[(4,.int .i64 i1425)]) (fun ⟨n1456,l1422,i1425,A1423,c1424⟩=>⟨w0,M,(100030,g3,.cells #[.slice A1423 l1422.length c1424,.slice none 0 0,.slice none 0 0,.int .i64 p0.fEpoch,.slice none 0 0] 30 (0,0))::(100020,g2,.cells #[.slice none 0 0,.slice none 0 0,.slice none 0 0,.int .i64 0,.slice none 0 0] 30 (0,0))::(100010,g1,.cells #[.slice Ap0_0 p0.fRing.length cp0_0,.slice Ap0_1 p0.fHints.length cp0_1,.slice Ap0_2 p0.fAnchors.length cp0_2,.int .i64 p0.fEpoch,.slice Ap0_3 p0.fFlushes.length cp0_3] 30 (0,0))::H,(15,⟨.slice A1423 l1422.length c1424,3,1,l1422.length,l1422.flatMap (fun x : Int=>[Value.int .i64 x])⟩)::R,φ⟩) (fun ⟨n1456,l1422,i1425,A1423,c1424⟩=>Lp (fun s=>m_law13_tame_s8 p0 s.1 s.2) n1456 (l1422,i1425) out8∧l1422.length ≤ c1424) (fun ⟨n1456,l1422,i1425,A1423,c1424⟩=>n1456) (n1456',([] : List Int),0,none,0) ⟨hl8,(Nat.le_refl 0)⟩ ⟨rfl,rfl,rfl,rfl,trivial⟩ (fun W h=>h.phi (fun W hφ=>hφ)) (fun ⟨n1456,l1422,i1425,A1423,c1424⟩ u ⟨hlp,hc1424⟩=>?_)
  obtain ⟨o8,hm,hnx8⟩:=lp_step hlp
  clear hlp
  replace hm : m_law13_tame_s8 p0 l1422 i1425 = some o8:=hm
  unfold m_law13_tame_s8 at hm
  refine c_flat [(1,.pointer (some ⟨g1,0,none⟩)),(2,.pointer (some ⟨g2,0,none⟩)),(3,.pointer (some ⟨g3,0,none⟩)),(4,.int .i64 i1425)] ⟨rfl,rfl,rfl,rfl,trivial⟩ (fun u=>?_)
  refine c_sta ⟨w0,M,(100030,g3,.cells #[.slice A1423 l1422.length c1424,.slice none 0 0,.slice none 0 0,.int .i64 p0.fEpoch,.slice none 0 0] 30 (0,0))::(100020,g2,.cells #[.slice none 0 0,.slice none 0 0,.slice none 0 0,.int .i64 0,.slice none 0 0] 30 (0,0))::(100010,g1,.cells #[.slice Ap0_0 p0.fRing.length cp0_0,.slice Ap0_1 p0.fHints.length cp0_1,.slice Ap0_2 p0.fAnchors.length cp0_2,.int .i64 p0.fEpoch,.slice Ap0_3 p0.fFlushes.length cp0_3] 30 (0,0))::H,(15,⟨.slice A1423 l1422.length c1424,3,1,l1422.length,l1422.flatMap (fun x : Int=>[Value.int .i64 x])⟩)::R,φ⟩ (fun _ h=>h)<|c_seq<|c_seq<|c_region<|g_v rfl r_move<|g_v rfl (r_field (n:=0) Tryz.underlying30 rfl Tryz.sizeOf25 rfl rfl)<|g_v rfl (r_load (tag:=100010) rfl rfl rfl Tryz.isAgg25)<|g_v rfl (r_lenL Tryz.underlying25 rfl)<|g_v rfl (r_lss rfl rfl)<|g_v rfl r_move ?_
  refine g_if rfl rfl rfl rfl rfl (fun h1457=>?_) (fun h1457=>?_)
  ·
   replace hm:=ite_t hm (of_decide_eq_true h1457)
   refine g_v rfl r_move<|g_do rfl rfl rfl rfl rfl h1457<|g_v rfl (r_lss rfl rfl)<|g_v rfl (r_pick1 rfl h1457)<|g_nil<|d_then ?_
   refine c_flat [(1,.pointer (some ⟨g1,0,none⟩)),(2,.pointer (some ⟨g2,0,none⟩)),(3,.pointer (some ⟨g3,0,none⟩)),(4,.int .i64 i1425),(19,.bool (decide (i1425 < 70)))] ⟨rfl,rfl,rfl,rfl,rfl,trivial⟩ (fun u=>?_)
   refine c_cond rfl (fun h1458=>?_) (fun h1458=>?_)
   ·
    replace hm:=ite_t hm (of_decide_eq_true h1458)
    refine c_skip<|d_then<|c_seq<|c_block<|ga_start (n:=11) ⟨w0,M,(100030,g3,.cells #[.slice A1423 l1422.length c1424,.slice none 0 0,.slice none 0 0,.int .i64 p0.fEpoch,.slice none 0 0] 30 (0,0))::(100020,g2,.cells #[.slice none 0 0,.slice none 0 0,.slice none 0 0,.int .i64 0,.slice none 0 0] 30 (0,0))::(100010,g1,.cells #[.slice Ap0_0 p0.fRing.length cp0_0,.slice Ap0_1 p0.fHints.length cp0_1,.slice Ap0_2 p0.fAnchors.length cp0_2,.int .i64 p0.fEpoch,.slice Ap0_3 p0.fFlushes.length cp0_3] 30 (0,0))::H,R,φ⟩ [10] #[false,false,false,false,false,false,false,false,false,false,false] (fun W h=>(h.dropR (t:=15) rfl).phi (fun W hφ=>hφ)) mixed rfl rfl<|ga_v (i:=0) (bz 11 1) rfl (by kernel_rfl) (fun _ _ _ _ h=>h) rfl (r_field (n:=0) Tryz.underlying30 rfl Tryz.sizeOf25 rfl rfl)<|ga_v (i:=1) (bz 11 3) rfl (by kernel_rfl) (fun _ _ _ _ h=>h) rfl (r_load (tag:=100030) rfl rfl rfl Tryz.isAgg25)<|ga_v (i:=2) (bz 11 7) rfl (by kernel_rfl) (fun _ _ _ _ h=>h) rfl (r_field (n:=0) Tryz.underlying30 rfl Tryz.sizeOf25 rfl rfl)<|ga_v (i:=3) (bz 11 15) rfl (by kernel_rfl) (fun _ _ _ _ h=>h) rfl (r_load (tag:=100010) rfl rfl rfl Tryz.isAgg25)<|ga_r (i:=4) (bz 11 31) rfl (by kernel_rfl) (by decide) rfl (r_move) ?_
    replace hm:=bnd hm
    obtain ⟨x1475,hx1475,hm⟩:=hm
    refine ga_know _ (fun W hS=>cl_at (p:=(Sta.mk w0 M H R φ).ok) (sz:=1) (fun _=>rfl) (by decide) (ok_pre (H1:=[_,_,_]) (R1:=[_]) hS (fun W h=>h)) fp0_0 hx1475) ?_
    rintro ⟨ad1476,hA1478,f1477⟩
    refine ga_r (i:=5) (bz 11 63) rfl (by kernel_rfl) (by decide) rfl (r_ix Tryz.underlying25 Tryz.sizeOf3 rfl hA1478 rfl hx1475)<|ga_r (i:=6) (bz 11 127) rfl (by kernel_rfl) (by decide) rfl (r_ld rfl Tryz.isAgg3 (fun W hS=>Cl.head (f1477 W (ok_pre (H1:=[_,_,_]) (R1:=[_]) hS (fun W h=>h))))) ?_
    refine ga_e (i:=7) (bz 11 255) rfl (by kernel_rfl) (by decide) rfl  (e_lit (tag:=100290) (l:=[x1475]) (enc:=(fun x : Int=>[Value.int .i64 x])) (sz:=1) rfl Tryz.underlying25 (lit3_21 _) rfl rfl (fun _=>rfl)) (fun g1479 W _ h=>((h.dropR (t:=100290) rfl).dropR (t:=15) rfl).phi (fun W hφ=>hφ)) (fun g1479 _=>?_)
    replace hm:=bnd hm
    obtain ⟨l1480,hl1480,hm⟩:=hm
    refine ga_e (i:=8) (bz 11 511) rfl (by kernel_rfl) (by decide) rfl  (e_appR (enc:=(fun x : Int=>[Value.int .i64 x])) (l:=l1422) (l1:=[x1475]) (l2:=l1480) (tag:=15) Tryz.underlying25 inf3_11 rfl (by decide) (by decide) (fun _=>rfl) (fun _=>rfl) rfl hc1424 rfl rfl (fun W hS=>rowCl (tag:=100290) rfl W hS) hl1480) (fun ⟨A1481,c1482⟩ W hc1482 h=>((h.dropR (t:=100290) rfl).dropR (t:=15) rfl).phi (fun W hφ=>hφ)) (fun ⟨A1481,c1482⟩ hc1482=>?_)
    refine ga_r (i:=9) (bz 11 1023) rfl (by kernel_rfl) (by decide) rfl (r_field (n:=0) Tryz.underlying30 rfl Tryz.sizeOf25 rfl rfl)<|ga_lastL (i:=10) (tag:=100030) (bz 11 2047) rfl (by kernel_rfl) (by decide) rfl rfl rfl rfl Tryz.sizeOf25 rfl rfl<|gz_done (by kernel_rfl)<|d_normal_block<|d_then ?_
    refine c_flat [(1,.pointer (some ⟨g1,0,none⟩)),(2,.pointer (some ⟨g2,0,none⟩)),(3,.pointer (some ⟨g3,0,none⟩)),(4,.int .i64 i1425)] ⟨rfl,rfl,rfl,rfl,trivial⟩ (fun u=>?_)
    refine c_sta ⟨w0,M,(100030,g3,.cells #[.slice A1481 l1480.length c1482,.slice none 0 0,.slice none 0 0,.int .i64 p0.fEpoch,.slice none 0 0] 30 (0,0))::(100020,g2,.cells #[.slice none 0 0,.slice none 0 0,.slice none 0 0,.int .i64 0,.slice none 0 0] 30 (0,0))::(100010,g1,.cells #[.slice Ap0_0 p0.fRing.length cp0_0,.slice Ap0_1 p0.fHints.length cp0_1,.slice Ap0_2 p0.fAnchors.length cp0_2,.int .i64 p0.fEpoch,.slice Ap0_3 p0.fFlushes.length cp0_3] 30 (0,0))::H,(100290,⟨.slice (some ⟨g1479,0,none⟩) [x1475].length 1,3,1,[x1475].length,[x1475].flatMap (fun x : Int=>[Value.int .i64 x])⟩)::(15,⟨.slice A1481 l1480.length c1482,3,1,l1480.length,l1480.flatMap (fun x : Int=>[Value.int .i64 x])⟩)::R,φ⟩ (fun _ h=>h)<|c_region<|g_v rfl r_move<|g_v rfl (r_add rfl rfl rfl)<|g_v rfl r_assign<|g_nil ?_
    obtain ⟨n1483,hn1483,hlp⟩:=nx_inl hm hnx8
    exact d_round (n1483,l1480,w64 (i1425 + 1),A1481,c1482) ⟨hlp,hc1482⟩ hn1483 ⟨rfl,rfl,rfl,rfl,trivial⟩ (fun W h=>(h.dropR (t:=100290) rfl).phi (fun W hφ=>hφ))
   replace hm:=ite_f hm (of_decide_eq_false h1458)
   refine c_exit<|d_exit_then<|d_exit_then<|d_exit_block ?_
   replace hm:=nx_out (C:=(fun e : (List Int)=>m_law13_tame_j1 p0 e = some r)) hm hnx8 hr8
   exact d_round (l1422,A1423,c1424) ⟨hm,hc1424⟩ Nat.zero_lt_one ⟨rfl,rfl,rfl,trivial⟩ (fun W h=>h.phi (fun W hφ=>hφ))
  replace hm:=ite_f hm (of_decide_eq_false h1457)
  refine g_no rfl rfl rfl rfl rfl h1457<|g_v rfl (r_pick0 rfl h1457)<|g_nil<|d_then<|c_cond0 rfl rfl<|c_exit<|d_exit_then<|d_exit_then<|d_exit_block ?_
  replace hm:=nx_out (C:=(fun e : (List Int)=>m_law13_tame_j1 p0 e = some r)) hm hnx8 hr8
  exact d_round (l1422,A1423,c1424) ⟨hm,hc1424⟩ Nat.zero_lt_one ⟨rfl,rfl,rfl,trivial⟩ (fun W h=>h.phi (fun W hφ=>hφ))
 unfold m_law13_tame_j1 at hm
 refine d_flat [(1,.pointer (some ⟨g1,0,none⟩)),(2,.pointer (some ⟨g2,0,none⟩)),(3,.pointer (some ⟨g3,0,none⟩))] ⟨rfl,rfl,rfl,trivial⟩ (fun u=>?_)
 refine d_sta ⟨w0,M,(100030,g3,.cells #[.slice A159 l158.length c160,.slice none 0 0,.slice none 0 0,.int .i64 p0.fEpoch,.slice none 0 0] 30 (0,0))::(100020,g2,.cells #[.slice none 0 0,.slice none 0 0,.slice none 0 0,.int .i64 0,.slice none 0 0] 30 (0,0))::(100010,g1,.cells #[.slice Ap0_0 p0.fRing.length cp0_0,.slice Ap0_1 p0.fHints.length cp0_1,.slice Ap0_2 p0.fAnchors.length cp0_2,.int .i64 p0.fEpoch,.slice Ap0_3 p0.fFlushes.length cp0_3] 30 (0,0))::H,(15,⟨.slice A159 l158.length c160,3,1,l158.length,l158.flatMap (fun x : Int=>[Value.int .i64 x])⟩)::R,φ⟩ (fun _ h=>h)<|d_then<|c_seq<|c_sta _ (fun W h=>nilR h 20 9 1) ?_
 refine c_cut (ι:=(List ByteArray)×Option Addr×Nat) [1,2,3] (fun ⟨l345,A346,c347⟩=>[]) (fun ⟨l345,A346,c347⟩=>⟨w0,M,(100030,g3,.cells #[.slice A159 l158.length c160,.slice A346 l345.length c347,.slice none 0 0,.int .i64 p0.fEpoch,.slice none 0 0] 30 (0,0))::(100020,g2,.cells #[.slice none 0 0,.slice none 0 0,.slice none 0 0,.int .i64 0,.slice none 0 0] 30 (0,0))::(100010,g1,.cells #[.slice Ap0_0 p0.fRing.length cp0_0,.slice Ap0_1 p0.fHints.length cp0_1,.slice Ap0_2 p0.fAnchors.length cp0_2,.int .i64 p0.fEpoch,.slice Ap0_3 p0.fFlushes.length cp0_3] 30 (0,0))::H,(20,⟨.slice A346 l345.length c347,9,1,l345.length,l345.flatMap (fun x : ByteArray=>[Value.string x])⟩)::(15,⟨.slice A159 l158.length c160,3,1,l158.length,l158.flatMap (fun x : Int=>[Value.int .i64 x])⟩)::R,φ⟩) (fun ⟨l345,A346,c347⟩=>m_law13_tame_j2 p0 l158 l345 = some r∧l345.length ≤ c347) ?_ (fun ⟨l345,A346,c347⟩ u ⟨hm,hc347⟩=>?_)
 ·
  refine c_seq<|c_region<|g_v rfl r_assign<|g_nil<|d_then<|c_block ?_
  replace hm:=bnd hm
  obtain ⟨out7,hl7,hr7⟩:=hm
  obtain ⟨n1359',hl7⟩:=loop_lp hl7
  refine c_loopU (ι:=Nat×(List ByteArray)×Int×Option Addr×Nat) [1,2,3,5] (fun ⟨n1359,l1319,i1322,A1320,c1321⟩=>[(5,.int .i64 i1322)]) (fun ⟨n1359,l1319,i1322,A1320,c1321⟩=>⟨w0,M,(100030,g3,.cells #[.slice A159 l158.length c160,.slice A1320 l1319.length c1321,.slice none 0 0,.int .i64 p0.fEpoch,.slice none 0 0] 30 (0,0))::(100020,g2,.cells #[.slice none 0 0,.slice none 0 0,.slice none 0 0,.int .i64 0,.slice none 0 0] 30 (0,0))::(100010,g1,.cells #[.slice Ap0_0 p0.fRing.length cp0_0,.slice Ap0_1 p0.fHints.length cp0_1,.slice Ap0_2 p0.fAnchors.length cp0_2,.int .i64 p0.fEpoch,.slice Ap0_3 p0.fFlushes.length cp0_3] 30 (0,0))::H,(20,⟨.slice A1320 l1319.length c1321,9,1,l1319.length,l1319.flatMap (fun x : ByteArray=>[Value.string x])⟩)::(15,⟨.slice A159 l158.length c160,3,1,l158.length,l158.flatMap (fun x : Int=>[Value.int .i64 x])⟩)::R,φ⟩) (fun ⟨n1359,l1319,i1322,A1320,c1321⟩=>Lp (fun s=>m_law13_tame_s7 p0 s.1 s.2) n1359 (l1319,i1322) out7∧l1319.length ≤ c1321) (fun ⟨n1359,l1319,i1322,A1320,c1321⟩=>n1359) (n1359',([] : List ByteArray),0,none,0) ⟨hl7,(Nat.le_refl 0)⟩ ⟨rfl,rfl,rfl,rfl,trivial⟩ (fun W h=>h.phi (fun W hφ=>hφ)) (fun ⟨n1359,l1319,i1322,A1320,c1321⟩ u ⟨hlp,hc1321⟩=>?_)
  obtain ⟨o7,hm,hnx7⟩:=lp_step hlp
  clear hlp
  replace hm : m_law13_tame_s7 p0 l1319 i1322 = some o7:=hm
  unfold m_law13_tame_s7 at hm
  refine c_flat [(1,.pointer (some ⟨g1,0,none⟩)),(2,.pointer (some ⟨g2,0,none⟩)),(3,.pointer (some ⟨g3,0,none⟩)),(5,.int .i64 i1322)] ⟨rfl,rfl,rfl,rfl,trivial⟩ (fun u=>?_)
  refine c_sta ⟨w0,M,(100030,g3,.cells #[.slice A159 l158.length c160,.slice A1320 l1319.length c1321,.slice none 0 0,.int .i64 p0.fEpoch,.slice none 0 0] 30 (0,0))::(100020,g2,.cells #[.slice none 0 0,.slice none 0 0,.slice none 0 0,.int .i64 0,.slice none 0 0] 30 (0,0))::(100010,g1,.cells #[.slice Ap0_0 p0.fRing.length cp0_0,.slice Ap0_1 p0.fHints.length cp0_1,.slice Ap0_2 p0.fAnchors.length cp0_2,.int .i64 p0.fEpoch,.slice Ap0_3 p0.fFlushes.length cp0_3] 30 (0,0))::H,(20,⟨.slice A1320 l1319.length c1321,9,1,l1319.length,l1319.flatMap (fun x : ByteArray=>[Value.string x])⟩)::(15,⟨.slice A159 l158.length c160,3,1,l158.length,l158.flatMap (fun x : Int=>[Value.int .i64 x])⟩)::R,φ⟩ (fun _ h=>h)<|c_seq<|c_seq<|c_region<|g_v rfl r_move<|g_v rfl (r_field (n:=1) Tryz.underlying30 rfl Tryz.sizeOf26 rfl rfl)<|g_v rfl (r_load (tag:=100010) rfl rfl rfl Tryz.isAgg26)<|g_v rfl (r_lenL Tryz.underlying26 rfl)<|g_v rfl (r_lss rfl rfl)<|g_v rfl r_move ?_
  refine g_if rfl rfl rfl rfl rfl (fun h1360=>?_) (fun h1360=>?_)
  ·
   replace hm:=ite_t hm (of_decide_eq_true h1360)
   refine g_v rfl r_move<|g_do rfl rfl rfl rfl rfl h1360<|g_v rfl (r_lss rfl rfl)<|g_v rfl (r_pick1 rfl h1360)<|g_nil<|d_then ?_
   refine c_flat [(1,.pointer (some ⟨g1,0,none⟩)),(2,.pointer (some ⟨g2,0,none⟩)),(3,.pointer (some ⟨g3,0,none⟩)),(5,.int .i64 i1322),(40,.bool (decide (i1322 < 20)))] ⟨rfl,rfl,rfl,rfl,rfl,trivial⟩ (fun u=>?_)
   refine c_cond rfl (fun h1361=>?_) (fun h1361=>?_)
   ·
    replace hm:=ite_t hm (of_decide_eq_true h1361)
    refine c_skip<|d_then<|c_seq<|c_block<|ga_start (n:=12) ⟨w0,M,(100030,g3,.cells #[.slice A159 l158.length c160,.slice A1320 l1319.length c1321,.slice none 0 0,.int .i64 p0.fEpoch,.slice none 0 0] 30 (0,0))::(100020,g2,.cells #[.slice none 0 0,.slice none 0 0,.slice none 0 0,.int .i64 0,.slice none 0 0] 30 (0,0))::(100010,g1,.cells #[.slice Ap0_0 p0.fRing.length cp0_0,.slice Ap0_1 p0.fHints.length cp0_1,.slice Ap0_2 p0.fAnchors.length cp0_2,.int .i64 p0.fEpoch,.slice Ap0_3 p0.fFlushes.length cp0_3] 30 (0,0))::H,(15,⟨.slice A159 l158.length c160,3,1,l158.length,l158.flatMap (fun x : Int=>[Value.int .i64 x])⟩)::R,φ⟩ [11] #[false,false,false,false,false,false,false,false,false,false,false,false] (fun W h=>(h.dropR (t:=20) rfl).phi (fun W hφ=>hφ)) mixed rfl rfl<|ga_v (i:=0) (bz 12 1) rfl (by kernel_rfl) (fun _ _ _ _ h=>h) rfl (r_field (n:=1) Tryz.underlying30 rfl Tryz.sizeOf26 rfl rfl)<|ga_v (i:=1) (bz 12 3) rfl (by kernel_rfl) (fun _ _ _ _ h=>h) rfl (r_load (tag:=100030) rfl rfl rfl Tryz.isAgg26)<|ga_v (i:=2) (bz 12 7) rfl (by kernel_rfl) (fun _ _ _ _ h=>h) rfl (r_field (n:=1) Tryz.underlying30 rfl Tryz.sizeOf26 rfl rfl)<|ga_v (i:=3) (bz 12 15) rfl (by kernel_rfl) (fun _ _ _ _ h=>h) rfl (r_load (tag:=100010) rfl rfl rfl Tryz.isAgg26)<|ga_r (i:=4) (bz 12 31) rfl (by kernel_rfl) (by decide) rfl (r_move) ?_
    replace hm:=bnd hm
    obtain ⟨x1382,hx1382,hm⟩:=hm
    refine ga_know _ (fun W hS=>cl_at (p:=(Sta.mk w0 M H R φ).ok) (sz:=1) (fun _=>rfl) (by decide) (ok_pre (H1:=[_,_,_]) (R1:=[_,_]) hS (fun W h=>h)) fp0_1 hx1382) ?_
    rintro ⟨ad1383,hA1385,f1384⟩
    refine ga_r (i:=5) (bz 12 63) rfl (by kernel_rfl) (by decide) rfl (r_ix Tryz.underlying26 Tryz.sizeOf9 rfl hA1385 rfl hx1382)<|ga_r (i:=6) (bz 12 127) rfl (by kernel_rfl) (by decide) rfl (r_ld rfl Tryz.isAgg9 (fun W hS=>Cl.head (f1384 W (ok_pre (H1:=[_,_,_]) (R1:=[_,_]) hS (fun W h=>h))))) ?_
    replace hm:=bnd hm
    obtain ⟨x1386,hx1387,hm⟩:=hm
    refine ga_cn (first:=#[]) (i:=7) (bz 12 255) rfl (by kernel_rfl) (by decide)  ⟨w0,M,_,_,φ⟩ (fun _ h=>h) Tryz.call6 rfl rfl rfl (c_law13_short x1382 10 _ hx1387) (fun _ W _ h=>(h.dropR (t:=20) rfl).phi (fun W hφ=>hφ)) (fun _ _=>?_)
    refine ga_e (i:=8) (bz 12 511) rfl (by kernel_rfl) (by decide) rfl  (e_lit (tag:=100510) (l:=[x1386]) (enc:=(fun x : ByteArray=>[Value.string x])) (sz:=1) rfl Tryz.underlying26 (lit9_6 _) rfl rfl (fun _=>rfl)) (fun g1388 W _ h=>((h.dropR (t:=100510) rfl).dropR (t:=20) rfl).phi (fun W hφ=>hφ)) (fun g1388 _=>?_)
    replace hm:=bnd hm
    obtain ⟨l1389,hl1389,hm⟩:=hm
    refine ga_e (i:=9) (bz 12 1023) rfl (by kernel_rfl) (by decide) rfl  (e_appR (enc:=(fun x : ByteArray=>[Value.string x])) (l:=l1319) (l1:=[x1386]) (l2:=l1389) (tag:=20) Tryz.underlying26 inf9_7 rfl (by decide) (by decide) (fun _=>rfl) (fun _=>rfl) rfl hc1321 rfl rfl (fun W hS=>rowCl (tag:=100510) rfl W hS) hl1389) (fun ⟨A1390,c1391⟩ W hc1391 h=>((h.dropR (t:=100510) rfl).dropR (t:=20) rfl).phi (fun W hφ=>hφ)) (fun ⟨A1390,c1391⟩ hc1391=>?_)
    refine ga_r (i:=10) (bz 12 2047) rfl (by kernel_rfl) (by decide) rfl (r_field (n:=1) Tryz.underlying30 rfl Tryz.sizeOf26 rfl rfl)<|ga_lastL (i:=11) (tag:=100030) (bz 12 4095) rfl (by kernel_rfl) (by decide) rfl rfl rfl rfl Tryz.sizeOf26 rfl rfl<|gz_done (by kernel_rfl)<|d_normal_block<|d_then ?_
    refine c_flat [(1,.pointer (some ⟨g1,0,none⟩)),(2,.pointer (some ⟨g2,0,none⟩)),(3,.pointer (some ⟨g3,0,none⟩)),(5,.int .i64 i1322)] ⟨rfl,rfl,rfl,rfl,trivial⟩ (fun u=>?_)
    refine c_sta ⟨w0,M,(100030,g3,.cells #[.slice A159 l158.length c160,.slice A1390 l1389.length c1391,.slice none 0 0,.int .i64 p0.fEpoch,.slice none 0 0] 30 (0,0))::(100020,g2,.cells #[.slice none 0 0,.slice none 0 0,.slice none 0 0,.int .i64 0,.slice none 0 0] 30 (0,0))::(100010,g1,.cells #[.slice Ap0_0 p0.fRing.length cp0_0,.slice Ap0_1 p0.fHints.length cp0_1,.slice Ap0_2 p0.fAnchors.length cp0_2,.int .i64 p0.fEpoch,.slice Ap0_3 p0.fFlushes.length cp0_3] 30 (0,0))::H,(100510,⟨.slice (some ⟨g1388,0,none⟩) [x1386].length 1,9,1,[x1386].length,[x1386].flatMap (fun x : ByteArray=>[Value.string x])⟩)::(20,⟨.slice A1390 l1389.length c1391,9,1,l1389.length,l1389.flatMap (fun x : ByteArray=>[Value.string x])⟩)::(15,⟨.slice A159 l158.length c160,3,1,l158.length,l158.flatMap (fun x : Int=>[Value.int .i64 x])⟩)::R,φ⟩ (fun _ h=>h)<|c_region<|g_v rfl r_move<|g_v rfl (r_add rfl rfl rfl)<|g_v rfl r_assign<|g_nil ?_
    obtain ⟨n1392,hn1392,hlp⟩:=nx_inl hm hnx7
    exact d_round (n1392,l1389,w64 (i1322 + 1),A1390,c1391) ⟨hlp,hc1391⟩ hn1392 ⟨rfl,rfl,rfl,rfl,trivial⟩ (fun W h=>(h.dropR (t:=100510) rfl).phi (fun W hφ=>hφ))
   replace hm:=ite_f hm (of_decide_eq_false h1361)
   refine c_exit<|d_exit_then<|d_exit_then<|d_exit_block ?_
   replace hm:=nx_out (C:=(fun e : (List ByteArray)=>m_law13_tame_j2 p0 l158 e = some r)) hm hnx7 hr7
   exact d_round (l1319,A1320,c1321) ⟨hm,hc1321⟩ Nat.zero_lt_one ⟨rfl,rfl,rfl,trivial⟩ (fun W h=>h.phi (fun W hφ=>hφ))
  replace hm:=ite_f hm (of_decide_eq_false h1360)
  refine g_no rfl rfl rfl rfl rfl h1360<|g_v rfl (r_pick0 rfl h1360)<|g_nil<|d_then<|c_cond0 rfl rfl<|c_exit<|d_exit_then<|d_exit_then<|d_exit_block ?_
  replace hm:=nx_out (C:=(fun e : (List ByteArray)=>m_law13_tame_j2 p0 l158 e = some r)) hm hnx7 hr7
  exact d_round (l1319,A1320,c1321) ⟨hm,hc1321⟩ Nat.zero_lt_one ⟨rfl,rfl,rfl,trivial⟩ (fun W h=>h.phi (fun W hφ=>hφ))
 unfold m_law13_tame_j2 at hm
 refine d_flat [(1,.pointer (some ⟨g1,0,none⟩)),(2,.pointer (some ⟨g2,0,none⟩)),(3,.pointer (some ⟨g3,0,none⟩))] ⟨rfl,rfl,rfl,trivial⟩ (fun u=>?_)
 refine d_sta ⟨w0,M,(100030,g3,.cells #[.slice A159 l158.length c160,.slice A346 l345.length c347,.slice none 0 0,.int .i64 p0.fEpoch,.slice none 0 0] 30 (0,0))::(100020,g2,.cells #[.slice none 0 0,.slice none 0 0,.slice none 0 0,.int .i64 0,.slice none 0 0] 30 (0,0))::(100010,g1,.cells #[.slice Ap0_0 p0.fRing.length cp0_0,.slice Ap0_1 p0.fHints.length cp0_1,.slice Ap0_2 p0.fAnchors.length cp0_2,.int .i64 p0.fEpoch,.slice Ap0_3 p0.fFlushes.length cp0_3] 30 (0,0))::H,(20,⟨.slice A346 l345.length c347,9,1,l345.length,l345.flatMap (fun x : ByteArray=>[Value.string x])⟩)::(15,⟨.slice A159 l158.length c160,3,1,l158.length,l158.flatMap (fun x : Int=>[Value.int .i64 x])⟩)::R,φ⟩ (fun _ h=>h)<|d_then<|c_seq<|c_sta _ (fun W h=>nilR h 25 55 2) ?_
 refine c_cut (ι:=(List GAnchor)×Option Addr×Nat) [1,2,3] (fun ⟨l652,A653,c654⟩=>[]) (fun ⟨l652,A653,c654⟩=>⟨w0,M,(100030,g3,.cells #[.slice A159 l158.length c160,.slice A346 l345.length c347,.slice A653 l652.length c654,.int .i64 p0.fEpoch,.slice none 0 0] 30 (0,0))::(100020,g2,.cells #[.slice none 0 0,.slice none 0 0,.slice none 0 0,.int .i64 0,.slice none 0 0] 30 (0,0))::(100010,g1,.cells #[.slice Ap0_0 p0.fRing.length cp0_0,.slice Ap0_1 p0.fHints.length cp0_1,.slice Ap0_2 p0.fAnchors.length cp0_2,.int .i64 p0.fEpoch,.slice Ap0_3 p0.fFlushes.length cp0_3] 30 (0,0))::H,(25,⟨.slice A653 l652.length c654,55,2,l652.length,l652.flatMap GAnchor.enc⟩)::(20,⟨.slice A346 l345.length c347,9,1,l345.length,l345.flatMap (fun x : ByteArray=>[Value.string x])⟩)::(15,⟨.slice A159 l158.length c160,3,1,l158.length,l158.flatMap (fun x : Int=>[Value.int .i64 x])⟩)::R,φ⟩) (fun ⟨l652,A653,c654⟩=>m_law13_tame_j3 p0 l158 l345 l652 = some r∧l652.length ≤ c654) ?_ (fun ⟨l652,A653,c654⟩ u ⟨hm,hc654⟩=>?_)
 ·
  refine c_seq<|c_region<|g_v rfl r_assign<|g_nil<|d_then<|c_block ?_
  replace hm:=bnd hm
  obtain ⟨out6,hl6,hr6⟩:=hm
  obtain ⟨n1226',hl6⟩:=loop_lp hl6
  refine c_loopU (ι:=Nat×(List GAnchor)×Int×Option Addr×Nat) [1,2,3,6] (fun ⟨n1226,l1162,i1165,A1163,c1164⟩=>[(6,.int .i64 i1165)]) (fun ⟨n1226,l1162,i1165,A1163,c1164⟩=>⟨w0,M,(100030,g3,.cells #[.slice A159 l158.length c160,.slice A346 l345.length c347,.slice A1163 l1162.length c1164,.int .i64 p0.fEpoch,.slice none 0 0] 30 (0,0))::(100020,g2,.cells #[.slice none 0 0,.slice none 0 0,.slice none 0 0,.int .i64 0,.slice none 0 0] 30 (0,0))::(100010,g1,.cells #[.slice Ap0_0 p0.fRing.length cp0_0,.slice Ap0_1 p0.fHints.length cp0_1,.slice Ap0_2 p0.fAnchors.length cp0_2,.int .i64 p0.fEpoch,.slice Ap0_3 p0.fFlushes.length cp0_3] 30 (0,0))::H,(25,⟨.slice A1163 l1162.length c1164,55,2,l1162.length,l1162.flatMap GAnchor.enc⟩)::(20,⟨.slice A346 l345.length c347,9,1,l345.length,l345.flatMap (fun x : ByteArray=>[Value.string x])⟩)::(15,⟨.slice A159 l158.length c160,3,1,l158.length,l158.flatMap (fun x : Int=>[Value.int .i64 x])⟩)::R,φ⟩) (fun ⟨n1226,l1162,i1165,A1163,c1164⟩=>Lp (fun s=>m_law13_tame_s6 p0 s.1 s.2) n1226 (l1162,i1165) out6∧l1162.length ≤ c1164) (fun ⟨n1226,l1162,i1165,A1163,c1164⟩=>n1226) (n1226',([] : List GAnchor),0,none,0) ⟨hl6,(Nat.le_refl 0)⟩ ⟨rfl,rfl,rfl,rfl,trivial⟩ (fun W h=>h.phi (fun W hφ=>hφ)) (fun ⟨n1226,l1162,i1165,A1163,c1164⟩ u ⟨hlp,hc1164⟩=>?_)
  obtain ⟨o6,hm,hnx6⟩:=lp_step hlp
  clear hlp
  replace hm : m_law13_tame_s6 p0 l1162 i1165 = some o6:=hm
  unfold m_law13_tame_s6 at hm
  refine c_flat [(1,.pointer (some ⟨g1,0,none⟩)),(2,.pointer (some ⟨g2,0,none⟩)),(3,.pointer (some ⟨g3,0,none⟩)),(6,.int .i64 i1165)] ⟨rfl,rfl,rfl,rfl,trivial⟩ (fun u=>?_)
  refine c_sta ⟨w0,M,(100030,g3,.cells #[.slice A159 l158.length c160,.slice A346 l345.length c347,.slice A1163 l1162.length c1164,.int .i64 p0.fEpoch,.slice none 0 0] 30 (0,0))::(100020,g2,.cells #[.slice none 0 0,.slice none 0 0,.slice none 0 0,.int .i64 0,.slice none 0 0] 30 (0,0))::(100010,g1,.cells #[.slice Ap0_0 p0.fRing.length cp0_0,.slice Ap0_1 p0.fHints.length cp0_1,.slice Ap0_2 p0.fAnchors.length cp0_2,.int .i64 p0.fEpoch,.slice Ap0_3 p0.fFlushes.length cp0_3] 30 (0,0))::H,(25,⟨.slice A1163 l1162.length c1164,55,2,l1162.length,l1162.flatMap GAnchor.enc⟩)::(20,⟨.slice A346 l345.length c347,9,1,l345.length,l345.flatMap (fun x : ByteArray=>[Value.string x])⟩)::(15,⟨.slice A159 l158.length c160,3,1,l158.length,l158.flatMap (fun x : Int=>[Value.int .i64 x])⟩)::R,φ⟩ (fun _ h=>h)<|c_seq<|c_seq<|c_region<|g_v rfl r_move<|g_v rfl (r_field (n:=2) Tryz.underlying30 rfl Tryz.sizeOf27 rfl rfl)<|g_v rfl (r_load (tag:=100010) rfl rfl rfl Tryz.isAgg27)<|g_v rfl (r_lenL Tryz.underlying27 rfl)<|g_v rfl (r_lss rfl rfl)<|g_v rfl r_move ?_
  refine g_if rfl rfl rfl rfl rfl (fun h1227=>?_) (fun h1227=>?_)
  ·
   replace hm:=ite_t hm (of_decide_eq_true h1227)
   refine g_v rfl r_move<|g_do rfl rfl rfl rfl rfl h1227<|g_v rfl (r_lss rfl rfl)<|g_v rfl (r_pick1 rfl h1227)<|g_nil<|d_then ?_
   refine c_flat [(1,.pointer (some ⟨g1,0,none⟩)),(2,.pointer (some ⟨g2,0,none⟩)),(3,.pointer (some ⟨g3,0,none⟩)),(6,.int .i64 i1165),(62,.bool (decide (i1165 < 20)))] ⟨rfl,rfl,rfl,rfl,rfl,trivial⟩ (fun u=>?_)
   refine c_cond rfl (fun h1228=>?_) (fun h1228=>?_)
   ·
    replace hm:=ite_t hm (of_decide_eq_true h1228)
    refine c_skip<|d_then<|c_seq<|c_block<|ga_start (n:=21) ⟨w0,M,(100030,g3,.cells #[.slice A159 l158.length c160,.slice A346 l345.length c347,.slice A1163 l1162.length c1164,.int .i64 p0.fEpoch,.slice none 0 0] 30 (0,0))::(100020,g2,.cells #[.slice none 0 0,.slice none 0 0,.slice none 0 0,.int .i64 0,.slice none 0 0] 30 (0,0))::(100010,g1,.cells #[.slice Ap0_0 p0.fRing.length cp0_0,.slice Ap0_1 p0.fHints.length cp0_1,.slice Ap0_2 p0.fAnchors.length cp0_2,.int .i64 p0.fEpoch,.slice Ap0_3 p0.fFlushes.length cp0_3] 30 (0,0))::H,(20,⟨.slice A346 l345.length c347,9,1,l345.length,l345.flatMap (fun x : ByteArray=>[Value.string x])⟩)::(15,⟨.slice A159 l158.length c160,3,1,l158.length,l158.flatMap (fun x : Int=>[Value.int .i64 x])⟩)::R,φ⟩ [20] #[false,false,false,false,false,false,false,false,false,false,false,false,false,false,false,false,false,false,false,false,false] (fun W h=>(h.dropR (t:=25) rfl).phi (fun W hφ=>hφ)) mixed rfl rfl<|ga_v (i:=0) (bz 21 1) rfl (by kernel_rfl) (fun _ _ _ _ h=>h) rfl (r_field (n:=2) Tryz.underlying30 rfl Tryz.sizeOf27 rfl rfl)<|ga_v (i:=1) (bz 21 3) rfl (by kernel_rfl) (fun _ _ _ _ h=>h) rfl (r_load (tag:=100030) rfl rfl rfl Tryz.isAgg27)<|ga_v (i:=2) (bz 21 7) rfl (by kernel_rfl) (fun _ _ _ _ h=>h) rfl (r_field (n:=2) Tryz.underlying30 rfl Tryz.sizeOf27 rfl rfl)<|ga_v (i:=3) (bz 21 15) rfl (by kernel_rfl) (fun _ _ _ _ h=>h) rfl (r_load (tag:=100010) rfl rfl rfl Tryz.isAgg27)<|ga_v (i:=4) (bz 21 31) rfl (by kernel_rfl) (fun _ _ _ _ h=>h) rfl (r_move) ?_
    replace hm:=bnd hm
    obtain ⟨x1265,hx1265,hm⟩:=hm
    refine ga_know _ (fun W hS=>cl_at (p:=(Sta.mk w0 M H R φ).ok) (sz:=2) (fun _=>rfl) (by decide) (ok_pre (H1:=[_,_,_]) (R1:=[_,_,_]) hS (fun W h=>h)) fp0_2 hx1265) ?_
    rintro ⟨ad1266,hA1268,f1267⟩
    refine ga_v (i:=5) (bz 21 63) rfl (by kernel_rfl) (fun _ _ _ _ h=>h) rfl (r_ix Tryz.underlying27 Tryz.sizeOf55 rfl hA1268 rfl hx1265) ?_
    have f1269:=fun (W : World) (h : (Sta.mk w0 M H R φ).ok W)=>Cl.drop (f1267 W h) 0
    refine ga_v (i:=6) (bz 21 127) rfl (by kernel_rfl) (fun _ _ _ _ h=>h) rfl (r_fieldF Tryz.underlying55 rfl Tryz.sizeOf9 rfl)<|ga_v (i:=7) (bz 21 255) rfl (by kernel_rfl) (fun _ _ _ _ h=>h) rfl (r_ld rfl Tryz.isAgg9 (fun W hS=>Cl.head (f1269 W (ok_pre (H1:=[_,_,_]) (R1:=[_,_]) hS (fun W h=>h)))))<|ga_v (i:=9) (bz 21 767) rfl (by kernel_rfl) (fun _ _ _ _ h=>h) rfl (r_field (n:=2) Tryz.underlying30 rfl Tryz.sizeOf27 rfl rfl)<|ga_v (i:=10) (bz 21 1791) rfl (by kernel_rfl) (fun _ _ _ _ h=>h) rfl (r_load (tag:=100010) rfl rfl rfl Tryz.isAgg27)<|ga_v (i:=11) (bz 21 3839) rfl (by kernel_rfl) (fun _ _ _ _ h=>h) rfl (r_move) ?_
    replace hm:=bnd hm
    obtain ⟨x1270,hx1270,hm⟩:=hm
    refine ga_know _ (fun W hS=>cl_at (p:=(Sta.mk w0 M H R φ).ok) (sz:=2) (fun _=>rfl) (by decide) (ok_pre (H1:=[_,_,_]) (R1:=[_,_,_]) hS (fun W h=>h)) fp0_2 hx1270) ?_
    rintro ⟨ad1271,hA1273,f1272⟩
    refine ga_v (i:=12) (bz 21 7935) rfl (by kernel_rfl) (fun _ _ _ _ h=>h) rfl (r_ix Tryz.underlying27 Tryz.sizeOf55 rfl hA1273 rfl hx1270) ?_
    have f1274:=fun (W : World) (h : (Sta.mk w0 M H R φ).ok W)=>Cl.drop (f1272 W h) 1
    refine ga_v (i:=13) (bz 21 16127) rfl (by kernel_rfl) (fun _ _ _ _ h=>h) rfl (r_fieldF Tryz.underlying55 rfl Tryz.sizeOf9 rfl)<|ga_v (i:=14) (bz 21 32511) rfl (by kernel_rfl) (fun _ _ _ _ h=>h) rfl (r_ld rfl Tryz.isAgg9 (fun W hS=>Cl.head (f1274 W (ok_pre (H1:=[_,_,_]) (R1:=[_,_]) hS (fun W h=>h))))) ?_
    replace hm:=bnd hm
    obtain ⟨x1275,hx1276,hm⟩:=hm
    refine ga_cn (first:=#[]) (i:=8) (bz 21 32767) rfl (by kernel_rfl) (by decide)  ⟨w0,M,_,_,φ⟩ (fun _ h=>h) Tryz.call6 rfl rfl rfl (c_law13_short x1265.fName 300 _ hx1276) (fun _ W _ h=>(h.dropR (t:=25) rfl).phi (fun W hφ=>hφ)) (fun _ _=>?_)
    replace hm:=bnd hm
    obtain ⟨x1277,hx1278,hm⟩:=hm
    refine ga_cn (first:=#[]) (i:=15) (bz 21 65535) rfl (by kernel_rfl) (by decide)  ⟨w0,M,_,_,φ⟩ (fun _ h=>h) Tryz.call6 rfl rfl rfl (c_law13_short x1270.fText 300 _ hx1278) (fun _ W _ h=>(h.dropR (t:=25) rfl).phi (fun W hφ=>hφ)) (fun _ _=>?_)
    refine ga_r (i:=16) (bz 21 131071) rfl (by kernel_rfl) (by decide) rfl (r_build _ rfl (bld55_22 _ _)) ?_
    refine ga_e (i:=17) (bz 21 262143) rfl (by kernel_rfl) (by decide) rfl  (e_lit (tag:=100820) (l:=[(⟨x1275,x1277⟩ : GAnchor)]) (enc:=GAnchor.enc) (sz:=2) rfl Tryz.underlying27 (lit55_23 _ _) rfl rfl (fun _=>rfl)) (fun g1279 W _ h=>((h.dropR (t:=100820) rfl).dropR (t:=25) rfl).phi (fun W hφ=>hφ)) (fun g1279 _=>?_)
    replace hm:=bnd hm
    obtain ⟨l1280,hl1280,hm⟩:=hm
    refine ga_e (i:=18) (bz 21 524287) rfl (by kernel_rfl) (by decide) rfl  (e_appR (enc:=GAnchor.enc) (l:=l1162) (l1:=[(⟨x1275,x1277⟩ : GAnchor)]) (l2:=l1280) (tag:=25) Tryz.underlying27 inf55_14 rfl (by decide) (by decide) (fun _=>rfl) (fun _=>rfl) rfl hc1164 rfl rfl (fun W hS=>rowCl (tag:=100820) rfl W hS) hl1280) (fun ⟨A1281,c1282⟩ W hc1282 h=>((h.dropR (t:=100820) rfl).dropR (t:=25) rfl).phi (fun W hφ=>hφ)) (fun ⟨A1281,c1282⟩ hc1282=>?_)
    refine ga_r (i:=19) (bz 21 1048575) rfl (by kernel_rfl) (by decide) rfl (r_field (n:=2) Tryz.underlying30 rfl Tryz.sizeOf27 rfl rfl)<|ga_lastL (i:=20) (tag:=100030) (bz 21 2097151) rfl (by kernel_rfl) (by decide) rfl rfl rfl rfl Tryz.sizeOf27 rfl rfl<|gz_done (by kernel_rfl)<|d_normal_block<|d_then ?_
    refine c_flat [(1,.pointer (some ⟨g1,0,none⟩)),(2,.pointer (some ⟨g2,0,none⟩)),(3,.pointer (some ⟨g3,0,none⟩)),(6,.int .i64 i1165)] ⟨rfl,rfl,rfl,rfl,trivial⟩ (fun u=>?_)
    refine c_sta ⟨w0,M,(100030,g3,.cells #[.slice A159 l158.length c160,.slice A346 l345.length c347,.slice A1281 l1280.length c1282,.int .i64 p0.fEpoch,.slice none 0 0] 30 (0,0))::(100020,g2,.cells #[.slice none 0 0,.slice none 0 0,.slice none 0 0,.int .i64 0,.slice none 0 0] 30 (0,0))::(100010,g1,.cells #[.slice Ap0_0 p0.fRing.length cp0_0,.slice Ap0_1 p0.fHints.length cp0_1,.slice Ap0_2 p0.fAnchors.length cp0_2,.int .i64 p0.fEpoch,.slice Ap0_3 p0.fFlushes.length cp0_3] 30 (0,0))::H,(100820,⟨.slice (some ⟨g1279,0,none⟩) [(⟨x1275,x1277⟩ : GAnchor)].length 1,55,2,[(⟨x1275,x1277⟩ : GAnchor)].length,[(⟨x1275,x1277⟩ : GAnchor)].flatMap GAnchor.enc⟩)::(25,⟨.slice A1281 l1280.length c1282,55,2,l1280.length,l1280.flatMap GAnchor.enc⟩)::(20,⟨.slice A346 l345.length c347,9,1,l345.length,l345.flatMap (fun x : ByteArray=>[Value.string x])⟩)::(15,⟨.slice A159 l158.length c160,3,1,l158.length,l158.flatMap (fun x : Int=>[Value.int .i64 x])⟩)::R,φ⟩ (fun _ h=>h)<|c_region<|g_v rfl r_move<|g_v rfl (r_add rfl rfl rfl)<|g_v rfl r_assign<|g_nil ?_
    obtain ⟨n1283,hn1283,hlp⟩:=nx_inl hm hnx6
    exact d_round (n1283,l1280,w64 (i1165 + 1),A1281,c1282) ⟨hlp,hc1282⟩ hn1283 ⟨rfl,rfl,rfl,rfl,trivial⟩ (fun W h=>(h.dropR (t:=100820) rfl).phi (fun W hφ=>hφ))
   replace hm:=ite_f hm (of_decide_eq_false h1228)
   refine c_exit<|d_exit_then<|d_exit_then<|d_exit_block ?_
   replace hm:=nx_out (C:=(fun e : (List GAnchor)=>m_law13_tame_j3 p0 l158 l345 e = some r)) hm hnx6 hr6
   exact d_round (l1162,A1163,c1164) ⟨hm,hc1164⟩ Nat.zero_lt_one ⟨rfl,rfl,rfl,trivial⟩ (fun W h=>h.phi (fun W hφ=>hφ))
  replace hm:=ite_f hm (of_decide_eq_false h1227)
  refine g_no rfl rfl rfl rfl rfl h1227<|g_v rfl (r_pick0 rfl h1227)<|g_nil<|d_then<|c_cond0 rfl rfl<|c_exit<|d_exit_then<|d_exit_then<|d_exit_block ?_
  replace hm:=nx_out (C:=(fun e : (List GAnchor)=>m_law13_tame_j3 p0 l158 l345 e = some r)) hm hnx6 hr6
  exact d_round (l1162,A1163,c1164) ⟨hm,hc1164⟩ Nat.zero_lt_one ⟨rfl,rfl,rfl,trivial⟩ (fun W h=>h.phi (fun W hφ=>hφ))
 unfold m_law13_tame_j3 at hm
 refine d_flat [(1,.pointer (some ⟨g1,0,none⟩)),(2,.pointer (some ⟨g2,0,none⟩)),(3,.pointer (some ⟨g3,0,none⟩))] ⟨rfl,rfl,rfl,trivial⟩ (fun u=>?_)
 refine d_sta ⟨w0,M,(100030,g3,.cells #[.slice A159 l158.length c160,.slice A346 l345.length c347,.slice A653 l652.length c654,.int .i64 p0.fEpoch,.slice none 0 0] 30 (0,0))::(100020,g2,.cells #[.slice none 0 0,.slice none 0 0,.slice none 0 0,.int .i64 0,.slice none 0 0] 30 (0,0))::(100010,g1,.cells #[.slice Ap0_0 p0.fRing.length cp0_0,.slice Ap0_1 p0.fHints.length cp0_1,.slice Ap0_2 p0.fAnchors.length cp0_2,.int .i64 p0.fEpoch,.slice Ap0_3 p0.fFlushes.length cp0_3] 30 (0,0))::H,(25,⟨.slice A653 l652.length c654,55,2,l652.length,l652.flatMap GAnchor.enc⟩)::(20,⟨.slice A346 l345.length c347,9,1,l345.length,l345.flatMap (fun x : ByteArray=>[Value.string x])⟩)::(15,⟨.slice A159 l158.length c160,3,1,l158.length,l158.flatMap (fun x : Int=>[Value.int .i64 x])⟩)::R,φ⟩ (fun _ h=>h)<|d_then<|c_seq<|c_sta _ (fun W h=>nilR h 30 48 2) ?_
 refine c_cut (ι:=(List GFlush)×Option Addr×Nat) [2,3] (fun ⟨l929,A930,c931⟩=>[]) (fun ⟨l929,A930,c931⟩=>⟨w0,M,(100030,g3,.cells #[.slice A159 l158.length c160,.slice A346 l345.length c347,.slice A653 l652.length c654,.int .i64 p0.fEpoch,.slice A930 l929.length c931] 30 (0,0))::(100020,g2,.cells #[.slice none 0 0,.slice none 0 0,.slice none 0 0,.int .i64 0,.slice none 0 0] 30 (0,0))::H,(30,⟨.slice A930 l929.length c931,48,2,l929.length,l929.flatMap GFlush.enc⟩)::(25,⟨.slice A653 l652.length c654,55,2,l652.length,l652.flatMap GAnchor.enc⟩)::(20,⟨.slice A346 l345.length c347,9,1,l345.length,l345.flatMap (fun x : ByteArray=>[Value.string x])⟩)::(15,⟨.slice A159 l158.length c160,3,1,l158.length,l158.flatMap (fun x : Int=>[Value.int .i64 x])⟩)::R,φ⟩) (fun ⟨l929,A930,c931⟩=>m_law13_tame_j4 l158 l345 l652 p0 l929 = some r∧l929.length ≤ c931) ?_ (fun ⟨l929,A930,c931⟩ u ⟨hm,hc931⟩=>?_)
 ·
  refine c_seq<|c_region<|g_v rfl r_assign<|g_nil<|d_then<|c_block ?_
  replace hm:=bnd hm
  obtain ⟨out5,hl5,hr5⟩:=hm
  obtain ⟨n1051',hl5⟩:=loop_lp hl5
  refine c_loopU (ι:=Nat×(List GFlush)×Int×Option Addr×Nat) [1,2,3,7] (fun ⟨n1051,l993,i996,A994,c995⟩=>[(7,.int .i64 i996)]) (fun ⟨n1051,l993,i996,A994,c995⟩=>⟨w0,M,(100030,g3,.cells #[.slice A159 l158.length c160,.slice A346 l345.length c347,.slice A653 l652.length c654,.int .i64 p0.fEpoch,.slice A994 l993.length c995] 30 (0,0))::(100020,g2,.cells #[.slice none 0 0,.slice none 0 0,.slice none 0 0,.int .i64 0,.slice none 0 0] 30 (0,0))::(100010,g1,.cells #[.slice Ap0_0 p0.fRing.length cp0_0,.slice Ap0_1 p0.fHints.length cp0_1,.slice Ap0_2 p0.fAnchors.length cp0_2,.int .i64 p0.fEpoch,.slice Ap0_3 p0.fFlushes.length cp0_3] 30 (0,0))::H,(30,⟨.slice A994 l993.length c995,48,2,l993.length,l993.flatMap GFlush.enc⟩)::(25,⟨.slice A653 l652.length c654,55,2,l652.length,l652.flatMap GAnchor.enc⟩)::(20,⟨.slice A346 l345.length c347,9,1,l345.length,l345.flatMap (fun x : ByteArray=>[Value.string x])⟩)::(15,⟨.slice A159 l158.length c160,3,1,l158.length,l158.flatMap (fun x : Int=>[Value.int .i64 x])⟩)::R,φ⟩) (fun ⟨n1051,l993,i996,A994,c995⟩=>Lp (fun s=>m_law13_tame_s5 p0 s.1 s.2) n1051 (l993,i996) out5∧l993.length ≤ c995) (fun ⟨n1051,l993,i996,A994,c995⟩=>n1051) (n1051',([] : List GFlush),0,none,0) ⟨hl5,(Nat.le_refl 0)⟩ ⟨rfl,rfl,rfl,rfl,trivial⟩ (fun W h=>h.phi (fun W hφ=>hφ)) (fun ⟨n1051,l993,i996,A994,c995⟩ u ⟨hlp,hc995⟩=>?_)
  obtain ⟨o5,hm,hnx5⟩:=lp_step hlp
  clear hlp
  replace hm : m_law13_tame_s5 p0 l993 i996 = some o5:=hm
  unfold m_law13_tame_s5 at hm
  refine c_flat [(1,.pointer (some ⟨g1,0,none⟩)),(2,.pointer (some ⟨g2,0,none⟩)),(3,.pointer (some ⟨g3,0,none⟩)),(7,.int .i64 i996)] ⟨rfl,rfl,rfl,rfl,trivial⟩ (fun u=>?_)
  refine c_sta ⟨w0,M,(100030,g3,.cells #[.slice A159 l158.length c160,.slice A346 l345.length c347,.slice A653 l652.length c654,.int .i64 p0.fEpoch,.slice A994 l993.length c995] 30 (0,0))::(100020,g2,.cells #[.slice none 0 0,.slice none 0 0,.slice none 0 0,.int .i64 0,.slice none 0 0] 30 (0,0))::(100010,g1,.cells #[.slice Ap0_0 p0.fRing.length cp0_0,.slice Ap0_1 p0.fHints.length cp0_1,.slice Ap0_2 p0.fAnchors.length cp0_2,.int .i64 p0.fEpoch,.slice Ap0_3 p0.fFlushes.length cp0_3] 30 (0,0))::H,(30,⟨.slice A994 l993.length c995,48,2,l993.length,l993.flatMap GFlush.enc⟩)::(25,⟨.slice A653 l652.length c654,55,2,l652.length,l652.flatMap GAnchor.enc⟩)::(20,⟨.slice A346 l345.length c347,9,1,l345.length,l345.flatMap (fun x : ByteArray=>[Value.string x])⟩)::(15,⟨.slice A159 l158.length c160,3,1,l158.length,l158.flatMap (fun x : Int=>[Value.int .i64 x])⟩)::R,φ⟩ (fun _ h=>h)<|c_seq<|c_seq<|c_region<|g_v rfl r_move<|g_v rfl (r_field (n:=4) Tryz.underlying30 rfl Tryz.sizeOf28 rfl rfl)<|g_v rfl (r_load (tag:=100010) rfl rfl rfl Tryz.isAgg28)<|g_v rfl (r_lenL Tryz.underlying28 rfl)<|g_v rfl (r_lss rfl rfl)<|g_v rfl r_move ?_
  refine g_if rfl rfl rfl rfl rfl (fun h1052=>?_) (fun h1052=>?_)
  ·
   replace hm:=ite_t hm (of_decide_eq_true h1052)
   refine g_v rfl r_move<|g_do rfl rfl rfl rfl rfl h1052<|g_v rfl (r_lss rfl rfl)<|g_v rfl (r_pick1 rfl h1052)<|g_nil<|d_then ?_
   refine c_flat [(1,.pointer (some ⟨g1,0,none⟩)),(2,.pointer (some ⟨g2,0,none⟩)),(3,.pointer (some ⟨g3,0,none⟩)),(7,.int .i64 i996),(93,.bool (decide (i996 < 40)))] ⟨rfl,rfl,rfl,rfl,rfl,trivial⟩ (fun u=>?_)
   refine c_cond rfl (fun h1053=>?_) (fun h1053=>?_)
   ·
    replace hm:=ite_t hm (of_decide_eq_true h1053)
    refine c_skip<|d_then<|c_seq<|c_block<|ga_start (n:=20) ⟨w0,M,(100030,g3,.cells #[.slice A159 l158.length c160,.slice A346 l345.length c347,.slice A653 l652.length c654,.int .i64 p0.fEpoch,.slice A994 l993.length c995] 30 (0,0))::(100020,g2,.cells #[.slice none 0 0,.slice none 0 0,.slice none 0 0,.int .i64 0,.slice none 0 0] 30 (0,0))::(100010,g1,.cells #[.slice Ap0_0 p0.fRing.length cp0_0,.slice Ap0_1 p0.fHints.length cp0_1,.slice Ap0_2 p0.fAnchors.length cp0_2,.int .i64 p0.fEpoch,.slice Ap0_3 p0.fFlushes.length cp0_3] 30 (0,0))::H,(25,⟨.slice A653 l652.length c654,55,2,l652.length,l652.flatMap GAnchor.enc⟩)::(20,⟨.slice A346 l345.length c347,9,1,l345.length,l345.flatMap (fun x : ByteArray=>[Value.string x])⟩)::(15,⟨.slice A159 l158.length c160,3,1,l158.length,l158.flatMap (fun x : Int=>[Value.int .i64 x])⟩)::R,φ⟩ [19] #[false,false,false,false,false,false,false,false,false,false,false,false,false,false,false,false,false,false,false,false] (fun W h=>(h.dropR (t:=30) rfl).phi (fun W hφ=>hφ)) mixed rfl rfl<|ga_v (i:=0) (bz 20 1) rfl (by kernel_rfl) (fun _ _ _ _ h=>h) rfl (r_field (n:=4) Tryz.underlying30 rfl Tryz.sizeOf28 rfl rfl)<|ga_v (i:=1) (bz 20 3) rfl (by kernel_rfl) (fun _ _ _ _ h=>h) rfl (r_load (tag:=100030) rfl rfl rfl Tryz.isAgg28)<|ga_v (i:=2) (bz 20 7) rfl (by kernel_rfl) (fun _ _ _ _ h=>h) rfl (r_field (n:=4) Tryz.underlying30 rfl Tryz.sizeOf28 rfl rfl)<|ga_v (i:=3) (bz 20 15) rfl (by kernel_rfl) (fun _ _ _ _ h=>h) rfl (r_load (tag:=100010) rfl rfl rfl Tryz.isAgg28)<|ga_v (i:=4) (bz 20 31) rfl (by kernel_rfl) (fun _ _ _ _ h=>h) rfl (r_move) ?_
    replace hm:=bnd hm
    obtain ⟨x1086,hx1086,hm⟩:=hm
    refine ga_know _ (fun W hS=>cl_at (p:=(Sta.mk w0 M H R φ).ok) (sz:=2) (fun _=>rfl) (by decide) (ok_pre (H1:=[_,_,_]) (R1:=[_,_,_,_]) hS (fun W h=>h)) fp0_3 hx1086) ?_
    rintro ⟨ad1087,hA1089,f1088⟩
    refine ga_v (i:=5) (bz 20 63) rfl (by kernel_rfl) (fun _ _ _ _ h=>h) rfl (r_ix Tryz.underlying28 Tryz.sizeOf48 rfl hA1089 rfl hx1086) ?_
    have f1090:=fun (W : World) (h : (Sta.mk w0 M H R φ).ok W)=>Cl.drop (f1088 W h) 0
    refine ga_v (i:=6) (bz 20 127) rfl (by kernel_rfl) (fun _ _ _ _ h=>h) rfl (r_fieldF Tryz.underlying48 rfl Tryz.sizeOf3 rfl)<|ga_v (i:=7) (bz 20 255) rfl (by kernel_rfl) (fun _ _ _ _ h=>h) rfl (r_ld rfl Tryz.isAgg3 (fun W hS=>Cl.head (f1090 W (ok_pre (H1:=[_,_,_]) (R1:=[_,_,_]) hS (fun W h=>h)))))<|ga_v (i:=8) (bz 20 511) rfl (by kernel_rfl) (fun _ _ _ _ h=>h) rfl (r_field (n:=4) Tryz.underlying30 rfl Tryz.sizeOf28 rfl rfl)<|ga_v (i:=9) (bz 20 1023) rfl (by kernel_rfl) (fun _ _ _ _ h=>h) rfl (r_load (tag:=100010) rfl rfl rfl Tryz.isAgg28)<|ga_r (i:=10) (bz 20 2047) rfl (by kernel_rfl) (by decide) rfl (r_move) ?_
    replace hm:=bnd hm
    obtain ⟨x1091,hx1091,hm⟩:=hm
    refine ga_know _ (fun W hS=>cl_at (p:=(Sta.mk w0 M H R φ).ok) (sz:=2) (fun _=>rfl) (by decide) (ok_pre (H1:=[_,_,_]) (R1:=[_,_,_,_]) hS (fun W h=>h)) fp0_3 hx1091) ?_
    rintro ⟨ad1092,hA1094,f1093⟩
    refine ga_r (i:=11) (bz 20 4095) rfl (by kernel_rfl) (by decide) rfl (r_ix Tryz.underlying28 Tryz.sizeOf48 rfl hA1094 rfl hx1091) ?_
    have f1095:=fun (W : World) (h : (Sta.mk w0 M H R φ).ok W)=>Cl.drop (f1093 W h) 1
    refine ga_r (i:=12) (bz 20 8191) rfl (by kernel_rfl) (by decide) rfl (r_fieldF Tryz.underlying48 rfl Tryz.sizeOf9 rfl)<|ga_r (i:=13) (bz 20 16383) rfl (by kernel_rfl) (by decide) rfl (r_ld rfl Tryz.isAgg9 (fun W hS=>Cl.head (f1095 W (ok_pre (H1:=[_,_,_]) (R1:=[_,_,_,_]) hS (fun W h=>h))))) ?_
    replace hm:=bnd hm
    obtain ⟨x1096,hx1097,hm⟩:=hm
    refine ga_cn (first:=#[]) (i:=14) (bz 20 32767) rfl (by kernel_rfl) (by decide)  ⟨w0,M,_,_,φ⟩ (fun _ h=>h) Tryz.call6 rfl rfl rfl (c_law13_short x1091.fZone 300 _ hx1097) (fun _ W _ h=>(h.dropR (t:=30) rfl).phi (fun W hφ=>hφ)) (fun _ _=>?_)
    refine ga_r (i:=15) (bz 20 65535) rfl (by kernel_rfl) (by decide) rfl (r_build _ rfl (bld48_18 _ _)) ?_
    refine ga_e (i:=16) (bz 20 131071) rfl (by kernel_rfl) (by decide) rfl  (e_lit (tag:=101120) (l:=[(⟨x1086.fEpoch,x1096⟩ : GFlush)]) (enc:=GFlush.enc) (sz:=2) rfl Tryz.underlying28 (lit48_19 _ _) rfl rfl (fun _=>rfl)) (fun g1098 W _ h=>((h.dropR (t:=101120) rfl).dropR (t:=30) rfl).phi (fun W hφ=>hφ)) (fun g1098 _=>?_)
    replace hm:=bnd hm
    obtain ⟨l1099,hl1099,hm⟩:=hm
    refine ga_e (i:=17) (bz 20 262143) rfl (by kernel_rfl) (by decide) rfl  (e_appR (enc:=GFlush.enc) (l:=l993) (l1:=[(⟨x1086.fEpoch,x1096⟩ : GFlush)]) (l2:=l1099) (tag:=30) Tryz.underlying28 inf48_16 rfl (by decide) (by decide) (fun _=>rfl) (fun _=>rfl) rfl hc995 rfl rfl (fun W hS=>rowCl (tag:=101120) rfl W hS) hl1099) (fun ⟨A1100,c1101⟩ W hc1101 h=>((h.dropR (t:=101120) rfl).dropR (t:=30) rfl).phi (fun W hφ=>hφ)) (fun ⟨A1100,c1101⟩ hc1101=>?_)
    refine ga_r (i:=18) (bz 20 524287) rfl (by kernel_rfl) (by decide) rfl (r_field (n:=4) Tryz.underlying30 rfl Tryz.sizeOf28 rfl rfl)<|ga_lastL (i:=19) (tag:=100030) (bz 20 1048575) rfl (by kernel_rfl) (by decide) rfl rfl rfl rfl Tryz.sizeOf28 rfl rfl<|gz_done (by kernel_rfl)<|d_normal_block<|d_then ?_
    refine c_flat [(1,.pointer (some ⟨g1,0,none⟩)),(2,.pointer (some ⟨g2,0,none⟩)),(3,.pointer (some ⟨g3,0,none⟩)),(7,.int .i64 i996)] ⟨rfl,rfl,rfl,rfl,trivial⟩ (fun u=>?_)
    refine c_sta ⟨w0,M,(100030,g3,.cells #[.slice A159 l158.length c160,.slice A346 l345.length c347,.slice A653 l652.length c654,.int .i64 p0.fEpoch,.slice A1100 l1099.length c1101] 30 (0,0))::(100020,g2,.cells #[.slice none 0 0,.slice none 0 0,.slice none 0 0,.int .i64 0,.slice none 0 0] 30 (0,0))::(100010,g1,.cells #[.slice Ap0_0 p0.fRing.length cp0_0,.slice Ap0_1 p0.fHints.length cp0_1,.slice Ap0_2 p0.fAnchors.length cp0_2,.int .i64 p0.fEpoch,.slice Ap0_3 p0.fFlushes.length cp0_3] 30 (0,0))::H,(101120,⟨.slice (some ⟨g1098,0,none⟩) [(⟨x1086.fEpoch,x1096⟩ : GFlush)].length 1,48,2,[(⟨x1086.fEpoch,x1096⟩ : GFlush)].length,[(⟨x1086.fEpoch,x1096⟩ : GFlush)].flatMap GFlush.enc⟩)::(30,⟨.slice A1100 l1099.length c1101,48,2,l1099.length,l1099.flatMap GFlush.enc⟩)::(25,⟨.slice A653 l652.length c654,55,2,l652.length,l652.flatMap GAnchor.enc⟩)::(20,⟨.slice A346 l345.length c347,9,1,l345.length,l345.flatMap (fun x : ByteArray=>[Value.string x])⟩)::(15,⟨.slice A159 l158.length c160,3,1,l158.length,l158.flatMap (fun x : Int=>[Value.int .i64 x])⟩)::R,φ⟩ (fun _ h=>h)<|c_region<|g_v rfl r_move<|g_v rfl (r_add rfl rfl rfl)<|g_v rfl r_assign<|g_nil ?_
    obtain ⟨n1102,hn1102,hlp⟩:=nx_inl hm hnx5
    exact d_round (n1102,l1099,w64 (i996 + 1),A1100,c1101) ⟨hlp,hc1101⟩ hn1102 ⟨rfl,rfl,rfl,rfl,trivial⟩ (fun W h=>(h.dropR (t:=101120) rfl).phi (fun W hφ=>hφ))
   replace hm:=ite_f hm (of_decide_eq_false h1053)
   refine c_exit<|d_exit_then<|d_exit_then<|d_exit_block ?_
   replace hm:=nx_out (C:=(fun e : (List GFlush)=>m_law13_tame_j4 l158 l345 l652 p0 e = some r)) hm hnx5 hr5
   exact d_round (l993,A994,c995) ⟨hm,hc995⟩ Nat.zero_lt_one ⟨rfl,rfl,trivial⟩ (fun W h=>(h.dropH (t:=100010) rfl).phi (fun W hφ=>hφ))
  replace hm:=ite_f hm (of_decide_eq_false h1052)
  refine g_no rfl rfl rfl rfl rfl h1052<|g_v rfl (r_pick0 rfl h1052)<|g_nil<|d_then<|c_cond0 rfl rfl<|c_exit<|d_exit_then<|d_exit_then<|d_exit_block ?_
  replace hm:=nx_out (C:=(fun e : (List GFlush)=>m_law13_tame_j4 l158 l345 l652 p0 e = some r)) hm hnx5 hr5
  exact d_round (l993,A994,c995) ⟨hm,hc995⟩ Nat.zero_lt_one ⟨rfl,rfl,trivial⟩ (fun W h=>(h.dropH (t:=100010) rfl).phi (fun W hφ=>hφ))
 unfold m_law13_tame_j4 at hm
 refine d_flat [(2,.pointer (some ⟨g2,0,none⟩)),(3,.pointer (some ⟨g3,0,none⟩))] ⟨rfl,rfl,trivial⟩ (fun u=>?_)
 refine d_sta ⟨w0,M,(100030,g3,.cells #[.slice A159 l158.length c160,.slice A346 l345.length c347,.slice A653 l652.length c654,.int .i64 p0.fEpoch,.slice A930 l929.length c931] 30 (0,0))::(100020,g2,.cells #[.slice none 0 0,.slice none 0 0,.slice none 0 0,.int .i64 0,.slice none 0 0] 30 (0,0))::H,(30,⟨.slice A930 l929.length c931,48,2,l929.length,l929.flatMap GFlush.enc⟩)::(25,⟨.slice A653 l652.length c654,55,2,l652.length,l652.flatMap GAnchor.enc⟩)::(20,⟨.slice A346 l345.length c347,9,1,l345.length,l345.flatMap (fun x : ByteArray=>[Value.string x])⟩)::(15,⟨.slice A159 l158.length c160,3,1,l158.length,l158.flatMap (fun x : Int=>[Value.int .i64 x])⟩)::R,φ⟩ (fun _ h=>h)<|d_then<|c_seq<|c_region<|g_v rfl (r_loadA (tag:=100030) rfl rfl Tryz.isAgg30 Tryz.sizeOf30 rfl rfl)<|g_storeL (tag:=100020) rfl rfl rfl rfl Tryz.sizeOf30 rfl rfl<|g_nil<|d_then<|c_ret ?_
 cases hm
 refine d_shut (tag:=15) rfl (fun φ932 q932'=>?_)
 have q932 : ∀ W,φ932 W→φ W:=fun W h=>(q932' W h).1
 have f933:=fun (W : World) (h : φ932 W)=>(q932' W h).2
 refine d_shut (tag:=20) rfl (fun φ934 q934'=>?_)
 have q934 : ∀ W,φ934 W→φ932 W:=fun W h=>(q934' W h).1
 have f935:=fun (W : World) (h : φ934 W)=>(q934' W h).2
 refine d_shut (tag:=25) rfl (fun φ936 q936'=>?_)
 have q936 : ∀ W,φ936 W→φ934 W:=fun W h=>(q936' W h).1
 have f937:=fun (W : World) (h : φ936 W)=>(q936' W h).2
 refine d_shut (tag:=30) rfl (fun φ938 q938'=>?_)
 have q938 : ∀ W,φ938 W→φ936 W:=fun W h=>(q938' W h).1
 have f939:=fun (W : World) (h : φ938 W)=>(q938' W h).2
 exact d_retC (A159,c160,A346,c347,A653,c654,A930,c931) Tryz.results18 (res_agg (tag:=100020) rfl rfl Tryz.isAgg30 Tryz.sizeOf30 (res_nil rfl)) ⟨hc160,hc347,hc654,hc931⟩ (fun W h=>ok_pre (H1:=[_,_]) (R1:=[]) h (fun W hφ=>⟨(q932 _ (q934 _ (q936 _ (q938 _ hφ)))),(fun W h=>f933 W (q934 _ (q936 _ (q938 _ h)))) W hφ,(fun W h=>f935 W (q936 _ (q938 _ h))) W hφ,(fun W h=>f937 W (q938 _ h)) W hφ,(fun W h=>f939 W h) W hφ⟩)) (.inr rfl)
structure Gconf_reader where
  fs : ByteArray
  fbad : Bool
  deriving DecidableEq
def Gconf_reader.enc (e : Gconf_reader) : List Value:=[.string e.fs,.bool e.fbad]
theorem bld89_24 (z0 : ByteArray) : ∀ W,(Instr.build 89 #[(0,.string z0)]).run Tryz.prog W = .ok (.agg #[.string z0,.bool false]) W:=fun _=>by kernel_rfl
noncomputable def m_pack_Raw (p0 : ByteArray) (p1 : Int) (p2 : Int) : Option (ByteArray×Int×Int):=
  if p1 < 0 then
    some ((⟨#[]⟩ : ByteArray),0,10)
  else
    if p2 < 0 then
      some ((⟨#[]⟩ : ByteArray),0,10)
    else
      if (p0.size : Int) < p1 then
        some ((⟨#[]⟩ : ByteArray),0,10)
      else
        if w64 ((p0.size : Int) - p1) < p2 then
          some ((⟨#[]⟩ : ByteArray),0,10)
        else
          (scutMid p0 p1 (w64 (p1 + p2))).bind fun s5=>
          some (s5,w64 (p1 + p2),0)
theorem c_pack_Raw {w0 : World} {M : Nat→Prop} {H : List (Nat×Nat×Obj)} {R : List (Nat×Row)} {φ : World→Prop} (p0 : ByteArray) (p1 : Int) (p2 : Int) (r : ByteArray×Int×Int) (hm : m_pack_Raw p0 p1 p2 = some r) :
    Cn Tryz.prog 100 #[.string p0,.int .i64 p1,.int .i64 p2] ⟨w0,M,H,R,φ⟩ (fun x : Unit=>.tuple #[.string r.1,.int .i64 r.2.1,.int .i64 r.2.2]) (fun x=>True) (fun x=>⟨w0,M,H,R,φ⟩):=by
 unfold m_pack_Raw at hm
 refine cn_intro (fn:=Tryz.f100) (N:=38) Tryz.func100 rfl Tryz.ntmps100 rfl<|c_seq<|c_region ?_
 iterate 3 refine g_v rfl r_assign ?_
 refine g_nil<|d_then<|c_seq<|c_seq<|c_region<|g_v rfl r_move<|g_v rfl (r_lss rfl rfl)<|g_v rfl r_move ?_
 refine g_if rfl rfl rfl rfl rfl (fun h1=>?_) (fun h1=>?_)
 ·
  replace hm:=ite_f hm (of_decide_eq_false h1)
  refine g_v rfl r_move<|g_do rfl rfl rfl rfl rfl h1<|g_v rfl (r_lss rfl rfl)<|g_v rfl (r_pick0 rfl h1)<|g_v rfl r_move ?_
  refine g_if rfl rfl rfl rfl rfl (fun h2=>?_) (fun h2=>?_)
  ·
   replace hm:=ite_f hm (of_decide_eq_false h2)
   refine g_v rfl r_move<|g_do rfl rfl rfl rfl rfl h2<|g_v rfl r_move<|g_do rfl rfl rfl rfl rfl h2<|g_v rfl (r_len Tryz.underlying9 rfl)<|g_do rfl rfl rfl rfl rfl h2<|g_v rfl (r_gtr rfl rfl)<|g_v rfl (r_pick0 rfl h2)<|g_v rfl r_move ?_
   refine g_if rfl rfl rfl rfl rfl (fun h3=>?_) (fun h3=>?_)
   ·
    replace hm:=ite_f hm (of_decide_eq_false h3)
    refine g_v rfl r_move<|g_do rfl rfl rfl rfl rfl h3<|g_v rfl r_move<|g_do rfl rfl rfl rfl rfl h3<|g_v rfl (r_len Tryz.underlying9 rfl)<|g_do rfl rfl rfl rfl rfl h3<|g_v rfl r_move<|g_do rfl rfl rfl rfl rfl h3<|g_v rfl (r_sub rfl rfl rfl)<|g_do rfl rfl rfl rfl rfl h3 ?_
    refine g_v rfl (r_gtr rfl rfl)<|g_v rfl (r_pick0 rfl h3)<|g_nil<|d_then ?_
    refine c_flat [(0,.string p0),(1,.int .i64 p1),(2,.int .i64 p2),(28,.bool (decide (w64 ((p0.size : Int) - p1) < p2)))] ⟨rfl,rfl,rfl,rfl,trivial⟩ (fun u=>?_)
    refine c_sta ⟨w0,M,H,R,φ⟩ (fun _ h=>h) ?_
    refine c_cond rfl (fun h4=>?_) (fun h4=>?_)
    ·
     replace hm:=ite_t hm (of_decide_eq_true h4)
     refine c_seq<|c_region ?_
     iterate 3 refine g_v rfl r_assign ?_
     refine g_nil<|d_then<|c_ret<|d_ret_then ?_
     cases hm
     exact d_retC () Tryz.results100 (res_tmp (res_tmp (res_tmp (res_nil rfl)))) trivial (fun W h=>ok_pre (H1:=[]) (R1:=[]) h (fun W hφ=>hφ)) (.inr rfl)
    replace hm:=ite_f hm (of_decide_eq_false h4)
    refine c_skip<|d_then<|c_seq<|c_region ?_
    iterate 4 refine g_v rfl r_move ?_
    refine g_v rfl (r_add rfl rfl rfl) ?_
    replace hm:=bnd hm
    obtain ⟨s5,hs5,hm⟩:=hm
    refine g_v rfl (r_scutMid Tryz.underlying9 rfl rfl rfl hs5)<|g_v rfl r_move<|g_v rfl r_move<|g_v rfl (r_add rfl rfl rfl) ?_
    iterate 3 refine g_v rfl r_assign ?_
    refine g_nil<|d_then ?_
    refine c_flat [(6,.string s5),(7,.int .i64 (w64 (p1 + p2))),(8,.int .i64 0)] ⟨rfl,rfl,rfl,trivial⟩ (fun u=>?_)
    refine c_ret ?_
    cases hm
    exact d_retC () Tryz.results100 (res_tmp (res_tmp (res_tmp (res_nil rfl)))) trivial (fun W h=>ok_pre (H1:=[]) (R1:=[]) h (fun W hφ=>hφ)) (.inr rfl)
   replace hm:=ite_t hm (of_decide_eq_true h3)
   iterate 5 refine g_no rfl rfl rfl rfl rfl h3 ?_
   refine g_v rfl (r_pick1 rfl h3)<|g_nil<|d_then ?_
   refine c_flat [(0,.string p0),(1,.int .i64 p1),(2,.int .i64 p2),(28,.bool true)] ⟨rfl,rfl,rfl,rfl,trivial⟩ (fun u=>?_)
   refine c_sta ⟨w0,M,H,R,φ⟩ (fun _ h=>h)<|c_cond1 rfl rfl<|c_seq<|c_region ?_
   iterate 3 refine g_v rfl r_assign ?_
   refine g_nil<|d_then<|c_ret<|d_ret_then ?_
   cases hm
   exact d_retC () Tryz.results100 (res_tmp (res_tmp (res_tmp (res_nil rfl)))) trivial (fun W h=>ok_pre (H1:=[]) (R1:=[]) h (fun W hφ=>hφ)) (.inr rfl)
  replace hm:=ite_t hm (of_decide_eq_true h2)
  iterate 3 refine g_no rfl rfl rfl rfl rfl h2 ?_
  refine g_v rfl (r_pick1 rfl h2)<|g_v rfl r_move ?_
  iterate 6 refine g_no rfl rfl rfl rfl rfl rfl ?_
  refine g_v rfl (r_pick1 rfl rfl)<|g_nil<|d_then ?_
  refine c_flat [(0,.string p0),(1,.int .i64 p1),(2,.int .i64 p2),(28,.bool true)] ⟨rfl,rfl,rfl,rfl,trivial⟩ (fun u=>?_)
  refine c_sta ⟨w0,M,H,R,φ⟩ (fun _ h=>h)<|c_cond1 rfl rfl<|c_seq<|c_region ?_
  iterate 3 refine g_v rfl r_assign ?_
  refine g_nil<|d_then<|c_ret<|d_ret_then ?_
  cases hm
  exact d_retC () Tryz.results100 (res_tmp (res_tmp (res_tmp (res_nil rfl)))) trivial (fun W h=>ok_pre (H1:=[]) (R1:=[]) h (fun W hφ=>hφ)) (.inr rfl)
 replace hm:=ite_t hm (of_decide_eq_true h1)
 refine g_no rfl rfl rfl rfl rfl h1<|g_v rfl (r_pick1 rfl h1)<|g_v rfl r_move ?_
 iterate 4 refine g_no rfl rfl rfl rfl rfl rfl ?_
 refine g_v rfl (r_pick1 rfl rfl)<|g_v rfl r_move ?_
 iterate 6 refine g_no rfl rfl rfl rfl rfl rfl ?_
 refine g_v rfl (r_pick1 rfl rfl)<|g_nil<|d_then ?_
 refine c_flat [(0,.string p0),(1,.int .i64 p1),(2,.int .i64 p2),(28,.bool true)] ⟨rfl,rfl,rfl,rfl,trivial⟩ (fun u=>?_)
 refine c_sta ⟨w0,M,H,R,φ⟩ (fun _ h=>h)<|c_cond1 rfl rfl<|c_seq<|c_region ?_
 iterate 3 refine g_v rfl r_assign ?_
 refine g_nil<|d_then<|c_ret<|d_ret_then ?_
 cases hm
 exact d_retC () Tryz.results100 (res_tmp (res_tmp (res_tmp (res_nil rfl)))) trivial (fun W h=>ok_pre (H1:=[]) (R1:=[]) h (fun W hφ=>hφ)) (.inr rfl)
noncomputable def m_conf_reader_take_j1 (o0 : Gconf_reader) (x2 : Int) (x1 : ByteArray) (b7 : Bool) : Option (ByteArray×Gconf_reader):=
  (scutLo o0.fs x2).bind fun s8=>
  some (x1,(⟨s8,b7⟩ : Gconf_reader))
noncomputable def m_conf_reader_take (p1 : Int) (o0 : Gconf_reader) : Option (ByteArray×Gconf_reader):=
  (m_pack_Raw o0.fs 0 p1).bind fun (z5 : ByteArray×Int×Int)=>
  if o0.fbad = true then
    m_conf_reader_take_j1 o0 z5.2.1 z5.1 true
  else
    m_conf_reader_take_j1 o0 z5.2.1 z5.1 (decide (z5.2.2 ≠ 0))
theorem c_conf_reader_take {w0 : World} {M : Nat→Prop} {H : List (Nat×Nat×Obj)} {R : List (Nat×Row)} {φ : World→Prop} (p1 : Int) (go0 : Nat) (o0 : Gconf_reader) (r : ByteArray×Gconf_reader) (hm : m_conf_reader_take p1 o0 = some r) :
    Cn Tryz.prog 69 #[.pointer (some ⟨go0,0,none⟩),.int .i64 p1] ⟨w0,M,(1000,go0,.cells #[.string o0.fs,.bool o0.fbad] 89 (0,0))::H,R,φ⟩ (fun x : Unit=>.string r.1) (fun x=>True) (fun x=>⟨w0,M,(1000,go0,.cells #[.string r.2.fs,.bool r.2.fbad] 89 (0,0))::H,R,φ⟩):=by
 unfold m_conf_reader_take at hm
 refine cn_intro (fn:=Tryz.f69) (N:=39) Tryz.func69 rfl Tryz.ntmps69 rfl<|c_seq<|c_region<|g_v rfl r_assign<|g_nil<|d_then<|c_seq<|c_region<|g_v rfl r_move<|g_v rfl (r_nilck rfl) ?_
 refine g_v rfl (r_field (n:=0) Tryz.underlying89 rfl Tryz.sizeOf9 rfl rfl)<|g_v rfl (r_load (tag:=1000) rfl rfl rfl Tryz.isAgg9)<|g_v rfl r_move ?_
 replace hm:=bnd hm
 obtain ⟨⟨x1,x2,x3⟩,hx4,hm⟩:=hm
 refine g_cn ⟨w0,M,_,_,φ⟩ (fun _ h=>h) Tryz.call100 rfl rfl (c_pack_Raw o0.fs 0 p1 _ hx4) (fun _ _=>?_)
 refine g_v rfl r_move ?_
 iterate 3 refine g_v rfl (r_extract rfl rfl) ?_
 iterate 3 refine g_v rfl r_assign ?_
 refine g_nil<|d_then ?_
 refine c_flat [(0,.pointer (some ⟨go0,0,none⟩)),(5,.string x1),(6,.int .i64 x2),(7,.int .i64 x3)] ⟨rfl,rfl,rfl,rfl,trivial⟩ (fun u=>?_)
 refine c_sta ⟨w0,M,(1000,go0,.cells #[.string o0.fs,.bool o0.fbad] 89 (0,0))::H,R,φ⟩ (fun _ h=>h)<|c_seq ?_
 refine c_cut (ι:=Bool) [0,5,6] (fun b7=>[]) (fun b7=>⟨w0,M,(1000,go0,.cells #[.string o0.fs,.bool b7] 89 (0,0))::H,R,φ⟩) (fun b7=>m_conf_reader_take_j1 o0 x2 x1 b7 = some r) ?_ (fun b7 u hm=>?_)
 ·
  refine c_region<|g_v rfl r_move<|g_v rfl r_move<|g_v rfl (r_nilck rfl)<|g_v rfl (r_field (n:=1) Tryz.underlying89 rfl Tryz.sizeOf4 rfl rfl)<|g_v rfl (r_load (tag:=1000) rfl rfl rfl Tryz.isAgg4)<|g_v rfl r_move ?_
  refine g_if rfl rfl rfl rfl rfl (fun h9=>?_) (fun h9=>?_)
  ·
   replace hm:=ite_f hm (bool_nt h9)
   refine g_v rfl r_move<|g_do rfl rfl rfl rfl rfl h9<|g_v rfl (r_neq rfl rfl)<|g_v rfl (r_pick0 rfl h9)<|g_v rfl (r_nilck rfl)<|g_v rfl (r_field (n:=1) Tryz.underlying89 rfl Tryz.sizeOf4 rfl rfl)<|g_storeL (tag:=1000) rfl rfl rfl rfl Tryz.sizeOf4 rfl rfl<|g_nil ?_
   exact d_round (decide (x3 ≠ 0)) hm Nat.zero_lt_one ⟨rfl,rfl,rfl,trivial⟩ (fun W h=>h.phi (fun W hφ=>hφ))
  replace hm:=ite_t hm h9
  refine g_no rfl rfl rfl rfl rfl h9<|g_v rfl (r_pick1 rfl h9)<|g_v rfl (r_nilck rfl)<|g_v rfl (r_field (n:=1) Tryz.underlying89 rfl Tryz.sizeOf4 rfl rfl)<|g_storeL (tag:=1000) rfl rfl rfl rfl Tryz.sizeOf4 rfl rfl<|g_nil ?_
  exact d_round true hm Nat.zero_lt_one ⟨rfl,rfl,rfl,trivial⟩ (fun W h=>h.phi (fun W hφ=>hφ))
 unfold m_conf_reader_take_j1 at hm
 refine d_flat [(0,.pointer (some ⟨go0,0,none⟩)),(5,.string x1),(6,.int .i64 x2)] ⟨rfl,rfl,rfl,trivial⟩ (fun u=>?_)
 refine d_sta ⟨w0,M,(1000,go0,.cells #[.string o0.fs,.bool b7] 89 (0,0))::H,R,φ⟩ (fun _ h=>h)<|d_then<|c_seq<|c_region<|g_v rfl r_move<|g_v rfl r_move<|g_v rfl (r_nilck rfl)<|g_v rfl (r_field (n:=0) Tryz.underlying89 rfl Tryz.sizeOf9 rfl rfl)<|g_v rfl (r_load (tag:=1000) rfl rfl rfl Tryz.isAgg9)<|g_v rfl r_move ?_
 replace hm:=bnd hm
 obtain ⟨s8,hs8,hm⟩:=hm
 refine g_v rfl (r_scutLo Tryz.underlying9 rfl rfl hs8)<|g_v rfl (r_nilck rfl)<|g_v rfl (r_field (n:=0) Tryz.underlying89 rfl Tryz.sizeOf9 rfl rfl)<|g_storeL (tag:=1000) rfl rfl rfl rfl Tryz.sizeOf9 rfl rfl<|g_nil<|d_then ?_
 refine c_flat [(5,.string x1)] ⟨rfl,trivial⟩ (fun u=>?_)
 refine c_sta ⟨w0,M,(1000,go0,.cells #[.string s8,.bool b7] 89 (0,0))::H,R,φ⟩ (fun _ h=>h)<|c_seq<|c_region<|g_v rfl r_move<|g_v rfl r_assign<|g_nil<|d_then<|c_ret ?_
 cases hm
 exact d_retC () Tryz.results69 (res_tmp (res_nil rfl)) trivial (fun W h=>h.phi (fun W hφ=>hφ)) (.inr rfl)
noncomputable def m_conf_reader_number_j2 (i26 : Int) (x2 : Gconf_reader) (b28 : Bool) : Option (Int×Gconf_reader):=
  some (w64 (min i26 4611686018427387904),(⟨x2.fs,b28⟩ : Gconf_reader))
noncomputable def m_conf_reader_number_j1 (x2 : Gconf_reader) (i26 : Int) : Option (Int×Gconf_reader):=
  if x2.fbad = true then
    m_conf_reader_number_j2 i26 x2 true
  else
    m_conf_reader_number_j2 i26 x2 (decide (4611686018427387904 < i26))
noncomputable def m_conf_reader_number_s3 (x1 : ByteArray) (i37 : Int) (i38 : Int) : Option ((Int×Int) ⊕ Int):=
  if i38 < ((bytesI x1).length : Int) then
    (at_ (bytesI x1) i38).bind fun x48=>
    some (.inl (orI .u64 (IntKind.u64.wrap (i37 * 256)) (IntKind.u64.wrap x48),w64 (i38 + 1)))
  else
    some (.inr i37)
noncomputable def m_conf_reader_number (p1 : Int) (o0 : Gconf_reader) : Option (Int×Gconf_reader):=
  (m_conf_reader_take p1 o0).bind fun (z4 : ByteArray×Gconf_reader)=>
  (loop (fun s=>m_conf_reader_number_s3 z4.1 s.1 s.2) (0,0)).bind fun e=>m_conf_reader_number_j1 z4.2 e
theorem c_conf_reader_number {w0 : World} {M : Nat→Prop} {H : List (Nat×Nat×Obj)} {R : List (Nat×Row)} {φ : World→Prop} (p1 : Int) (go0 : Nat) (o0 : Gconf_reader) (r : Int×Gconf_reader) (hm : m_conf_reader_number p1 o0 = some r) :
    Cn Tryz.prog 66 #[.pointer (some ⟨go0,0,none⟩),.int .i64 p1] ⟨w0,M,(1000,go0,.cells #[.string o0.fs,.bool o0.fbad] 89 (0,0))::H,R,φ⟩ (fun x : Unit=>.int .i64 r.1) (fun x=>True) (fun x=>⟨w0,M,(1000,go0,.cells #[.string r.2.fs,.bool r.2.fbad] 89 (0,0))::H,R,φ⟩):=by
 unfold m_conf_reader_number at hm
 refine cn_intro (fn:=Tryz.f66) (N:=37) Tryz.func66 rfl Tryz.ntmps66 rfl<|c_seq<|c_region<|g_v rfl r_assign<|g_nil<|d_then<|c_seq<|c_region<|g_v rfl r_assign<|g_nil ?_
 refine d_then<|c_seq<|c_seq<|c_region<|g_v rfl r_move<|g_v rfl r_move ?_
 replace hm:=bnd hm
 obtain ⟨⟨x1,x2⟩,hx3,hm⟩:=hm
 refine g_cn ⟨w0,M,(1000,go0,.cells #[.string o0.fs,.bool o0.fbad] 89 (0,0))::H,R,φ⟩ (fun W h=>(ok_front (t:=1000) (t':=1000) h rfl)) Tryz.call69 rfl rfl (c_conf_reader_take p1 go0 o0 _ hx3) (fun _ _=>?_)
 refine g_sta _ (fun W h=>(ok_front (t:=1000) (t':=1000) h rfl)) ?_
 refine g_bytes rfl Tryz.underlying9 Tryz.underlying70 Tryz.underlying5 rfl (fun A5 c6 hc6 φ7 q7'=>?_)
 have q7 : ∀ W,φ7 W→φ W:=fun W h=>(q7' W h).1
 have f8:=fun (W : World) (h : φ7 W)=>(q7' W h).2
 refine g_v rfl (r_lenL Tryz.underlying70 rfl)<|g_v rfl r_move<|g_nil<|d_then ?_
 refine c_cut (ι:=Int) [0,5] (fun i26=>[(5,.int .u64 i26)]) (fun i26=>⟨w0,M,(1000,go0,.cells #[.string x2.fs,.bool x2.fbad] 89 (0,0))::H,R,φ7⟩) (fun i26=>m_conf_reader_number_j1 x2 i26 = some r) ?_ (fun i26 u hm=>?_)
 ·
  refine c_block ?_
  replace hm:=bnd hm
  obtain ⟨out3,hl3,hr3⟩:=hm
  obtain ⟨n46',hl3⟩:=loop_lp hl3
  refine c_loopU (ι:=Nat×Int×Int) [0,5,11,12,13] (fun ⟨n46,i37,i38⟩=>[(5,.int .u64 i37),(13,.int .i64 i38)]) (fun ⟨n46,i37,i38⟩=>⟨w0,M,(1000,go0,.cells #[.string x2.fs,.bool x2.fbad] 89 (0,0))::H,R,φ7⟩) (fun ⟨n46,i37,i38⟩=>Lp (fun s=>m_conf_reader_number_s3 x1 s.1 s.2) n46 (i37,i38) out3) (fun ⟨n46,i37,i38⟩=>n46) (n46',0,0) hl3 ⟨rfl,rfl,rfl,rfl,rfl,trivial⟩ (fun W h=>h.phi (fun W hφ=>hφ)) (fun ⟨n46,i37,i38⟩ u hlp=>?_)
  obtain ⟨o3,hm,hnx3⟩:=lp_step hlp
  clear hlp
  replace hm : m_conf_reader_number_s3 x1 i37 i38 = some o3:=hm
  unfold m_conf_reader_number_s3 at hm
  refine c_flat [(0,.pointer (some ⟨go0,0,none⟩)),(5,.int .u64 i37),(11,.slice A5 (bytesI x1).length c6),(12,.int .i64 ((bytesI x1).length : Int)),(13,.int .i64 i38)] ⟨rfl,rfl,rfl,rfl,rfl,trivial⟩ (fun u=>?_)
  refine c_sta ⟨w0,M,(1000,go0,.cells #[.string x2.fs,.bool x2.fbad] 89 (0,0))::H,R,φ7⟩ (fun _ h=>h)<|c_seq<|c_region<|g_v rfl (r_lss rfl rfl)<|g_nil<|d_then<|c_seq ?_
  refine c_cond rfl (fun h47=>?_) (fun h47=>?_)
  ·
   replace hm:=ite_t hm (of_decide_eq_true h47)
   refine c_skip<|d_then<|c_seq<|c_block<|c_seq<|c_region ?_
   replace hm:=bnd hm
   obtain ⟨x48,hx48,hm⟩:=hm
   refine g_know _ (fun W hS=>cl_at (p:=φ7) (sz:=1) (fun _=>rfl) (by decide) hS.now f8 hx48) ?_
   rintro ⟨ad49,hA51,f50⟩
   refine g_v rfl (r_ix Tryz.underlying70 Tryz.sizeOf5 rfl hA51 rfl hx48)<|g_v rfl (r_ld rfl Tryz.isAgg5 (fun W hS=>Cl.head (f50 W hS.now)))<|g_v rfl r_assign<|g_nil<|d_then<|c_region<|g_v rfl r_move<|g_v rfl (r_shl (n:=256) rfl rfl (by decide) (by decide) (by decide))<|g_v rfl r_move<|g_v rfl (r_conv Tryz.underlying5 Tryz.underlying124 rfl rfl) ?_
   refine g_v rfl (r_bits_or rfl rfl)<|g_v rfl r_assign<|g_nil<|d_normal_block<|d_then ?_
   refine c_flat [(0,.pointer (some ⟨go0,0,none⟩)),(5,.int .u64 (orI .u64 (IntKind.u64.wrap (i37 * 256)) (IntKind.u64.wrap x48))),(11,.slice A5 (bytesI x1).length c6),(12,.int .i64 ((bytesI x1).length : Int)),(13,.int .i64 i38)] ⟨rfl,rfl,rfl,rfl,rfl,trivial⟩ (fun u=>?_)
   refine c_region<|g_v rfl (r_add rfl rfl rfl)<|g_v rfl r_move<|g_nil ?_
   obtain ⟨n52,hn52,hlp⟩:=nx_inl hm hnx3
   exact d_round (n52,orI .u64 (IntKind.u64.wrap (i37 * 256)) (IntKind.u64.wrap x48),w64 (i38 + 1)) hlp hn52 ⟨rfl,rfl,rfl,rfl,rfl,trivial⟩ (fun W h=>h.phi (fun W hφ=>hφ))
  replace hm:=ite_f hm (of_decide_eq_false h47)
  refine c_exit<|d_exit_then<|d_exit_then<|d_exit_block ?_
  replace hm:=nx_out (C:=(fun e : Int=>m_conf_reader_number_j1 x2 e = some r)) hm hnx3 hr3
  exact d_round i37 hm Nat.zero_lt_one ⟨rfl,rfl,trivial⟩ (fun W h=>h.phi (fun W hφ=>hφ))
 unfold m_conf_reader_number_j1 at hm
 refine d_flat [(0,.pointer (some ⟨go0,0,none⟩)),(5,.int .u64 i26)] ⟨rfl,rfl,trivial⟩ (fun u=>?_)
 refine d_sta ⟨w0,M,(1000,go0,.cells #[.string x2.fs,.bool x2.fbad] 89 (0,0))::H,R,φ7⟩ (fun _ h=>h)<|d_then<|c_seq ?_
 refine c_cut (ι:=Bool) [5] (fun b28=>[]) (fun b28=>⟨w0,M,(1000,go0,.cells #[.string x2.fs,.bool b28] 89 (0,0))::H,R,φ7⟩) (fun b28=>m_conf_reader_number_j2 i26 x2 b28 = some r) ?_ (fun b28 u hm=>?_)
 ·
  refine c_region<|g_v rfl r_move<|g_v rfl r_move<|g_v rfl (r_nilck rfl)<|g_v rfl (r_field (n:=1) Tryz.underlying89 rfl Tryz.sizeOf4 rfl rfl)<|g_v rfl (r_load (tag:=1000) rfl rfl rfl Tryz.isAgg4)<|g_v rfl r_move ?_
  refine g_if rfl rfl rfl rfl rfl (fun h29=>?_) (fun h29=>?_)
  ·
   replace hm:=ite_f hm (bool_nt h29)
   refine g_v rfl r_move<|g_do rfl rfl rfl rfl rfl h29<|g_v rfl (r_gtr rfl rfl)<|g_v rfl (r_pick0 rfl h29)<|g_v rfl (r_nilck rfl)<|g_v rfl (r_field (n:=1) Tryz.underlying89 rfl Tryz.sizeOf4 rfl rfl)<|g_storeL (tag:=1000) rfl rfl rfl rfl Tryz.sizeOf4 rfl rfl<|g_nil ?_
   exact d_round (decide (4611686018427387904 < i26)) hm Nat.zero_lt_one ⟨rfl,trivial⟩ (fun W h=>h.phi (fun W hφ=>hφ))
  replace hm:=ite_t hm h29
  refine g_no rfl rfl rfl rfl rfl h29<|g_v rfl (r_pick1 rfl h29)<|g_v rfl (r_nilck rfl)<|g_v rfl (r_field (n:=1) Tryz.underlying89 rfl Tryz.sizeOf4 rfl rfl)<|g_storeL (tag:=1000) rfl rfl rfl rfl Tryz.sizeOf4 rfl rfl<|g_nil ?_
  exact d_round true hm Nat.zero_lt_one ⟨rfl,trivial⟩ (fun W h=>h.phi (fun W hφ=>hφ))
 unfold m_conf_reader_number_j2 at hm
 refine d_flat [(5,.int .u64 i26)] ⟨rfl,trivial⟩ (fun u=>?_)
 refine d_sta ⟨w0,M,(1000,go0,.cells #[.string x2.fs,.bool b28] 89 (0,0))::H,R,φ7⟩ (fun _ h=>h)<|d_then<|c_seq<|c_region<|g_v rfl r_move<|g_v rfl (r_min rfl rfl)<|g_v rfl (r_conv Tryz.underlying124 Tryz.underlying3 rfl rfl)<|g_v rfl r_assign<|g_nil<|d_then ?_
 refine c_ret ?_
 cases hm
 exact d_retC () Tryz.results66 (res_tmp (res_nil rfl)) trivial (fun W h=>h.phi (fun W hφ=>(q7 _ hφ))) (.inr rfl)
noncomputable def m_conf_Load_c1 (o1 : Gconf_reader) : Option (Int×Gconf_reader):=
  (m_conf_reader_number 1 o1).bind fun (z4 : Int×Gconf_reader)=>
  some (z4.1,z4.2)
theorem c_conf_Load_c1 {w0 : World} {M : Nat→Prop} {H : List (Nat×Nat×Obj)} {R : List (Nat×Row)} {φ : World→Prop} (go0 : Nat) (go1 : Nat) (o1 : Gconf_reader) (r : Int×Gconf_reader) (hm : m_conf_Load_c1 o1 = some r) :
    Cn Tryz.prog 65 #[.pointer (some ⟨go0,0,none⟩)] ⟨w0,M,(1000,go0,.cells #[.pointer (some ⟨go1,0,none⟩)] 87 (0,0))::(1001,go1,.cells #[.string o1.fs,.bool o1.fbad] 89 (0,0))::H,R,φ⟩ (fun x : Unit=>.int .i64 r.1) (fun x=>True) (fun x=>⟨w0,M,(1000,go0,.cells #[.pointer (some ⟨go1,0,none⟩)] 87 (0,0))::(1001,go1,.cells #[.string r.2.fs,.bool r.2.fbad] 89 (0,0))::H,R,φ⟩):=by
 unfold m_conf_Load_c1 at hm
 refine cn_intro (fn:=Tryz.f65) (N:=4) Tryz.func65 rfl Tryz.ntmps65 rfl<|c_seq<|c_region<|g_v rfl r_assign<|g_nil<|d_then<|c_seq<|c_region<|g_v rfl (r_load (tag:=1000) rfl rfl rfl Tryz.isAgg87) ?_
 replace hm:=bnd hm
 obtain ⟨⟨x1,x2⟩,hx3,hm⟩:=hm
 refine g_cn ⟨w0,M,(1000,go1,.cells #[.string o1.fs,.bool o1.fbad] 89 (0,0))::(1000,go0,.cells #[.pointer (some ⟨go1,0,none⟩)] 87 (0,0))::H,R,φ⟩ (fun W h=>(ok_front (t:=1001) (t':=1000) h rfl)) Tryz.call66 rfl rfl (c_conf_reader_number 1 go1 o1 _ hx3) (fun _ _=>?_)
 refine g_sta _ (fun W h=>(ok_front (t:=1000) (t':=1001) h rfl))<|g_v rfl r_assign<|g_nil<|d_then<|c_ret ?_
 cases hm
 exact d_retC () Tryz.results65 (res_tmp (res_nil rfl)) trivial (fun W h=>(ok_front (t:=1000) (t':=1000) (ok_front (t:=1001) (t':=1001) h rfl) rfl).phi (fun W hφ=>hφ)) (.inr rfl)
noncomputable def m_conf_list_64_j1  (l93 : List Int) (s96 : ByteArray) (b97 : Bool) : Option ((List Int)×Gconf_reader):=
  some (l93,(⟨s96,b97⟩ : Gconf_reader))
noncomputable def m_conf_list_64_s2 (x1 : Int) (l114 : List Int) (i117 : Int) (s118 : ByteArray) (b119 : Bool) : Option (((List Int)×Int×ByteArray×Bool) ⊕ (((List Int)×ByteArray×Bool) ⊕ ((List Int)×Gconf_reader))):=
  if i117 < x1 then
    if b119 = true then
      some (.inr (.inr (([] : List Int),(⟨s118,b119⟩ : Gconf_reader))))
    else
      (m_conf_Load_c1 (⟨s118,b119⟩ : Gconf_reader)).bind fun (z142 : Int×Gconf_reader)=>
      (app 8 l114 [z142.1]).bind fun l144=>
      some (.inl (l144,w64 (i117 + 1),z142.2.fs,z142.2.fbad))
  else
    some (.inr (.inl (l114,s118,b119)))
noncomputable def m_conf_list_64 (o0 : Gconf_reader) : Option ((List Int)×Gconf_reader):=
  (m_conf_reader_number 1 o0).bind fun (z4 : Int×Gconf_reader)=>
  (loop (fun s=>m_conf_list_64_s2 z4.1 s.1 s.2.1 s.2.2.1 s.2.2.2) (([] : List Int),0,z4.2.fs,z4.2.fbad)).bind fun e=>Sum.elim (fun e=>m_conf_list_64_j1 e.1 e.2.1 e.2.2) (fun x=>some x) e
theorem c_conf_list_64 {w0 : World} {M : Nat→Prop} {H : List (Nat×Nat×Obj)} {R : List (Nat×Row)} {φ : World→Prop} (go0 : Nat) (o0 : Gconf_reader) (go1 : Nat) (r : (List Int)×Gconf_reader) (hm : m_conf_list_64 o0 = some r) :
    Cn Tryz.prog 64 #[.pointer (some ⟨go0,0,none⟩),.func (.func 65) #[] #[.pointer (some ⟨go1,0,none⟩)]] ⟨w0,M,(1000,go0,.cells #[.string o0.fs,.bool o0.fbad] 89 (0,0))::(1001,go1,.cells #[.pointer (some ⟨go0,0,none⟩)] 87 (0,0))::H,R,φ⟩ (fun x : Option Addr×Nat=>.slice x.1 r.1.length x.2) (fun x=>r.1.length ≤ x.2) (fun x=>⟨w0,M,(1000,go0,.cells #[.string r.2.fs,.bool r.2.fbad] 89 (0,0))::(1001,go1,.cells #[.pointer (some ⟨go0,0,none⟩)] 87 (0,0))::H,(2000,⟨.slice x.1 r.1.length x.2,3,1,r.1.length,r.1.flatMap (fun x : Int=>[Value.int .i64 x])⟩)::R,φ⟩):=by
 unfold m_conf_list_64 at hm
 refine cn_intro (fn:=Tryz.f64) (N:=21) Tryz.func64 rfl Tryz.ntmps64 rfl<|c_seq<|c_region<|g_v rfl r_assign<|g_nil<|d_then<|c_seq<|c_region<|g_v rfl r_assign<|g_nil ?_
 refine d_then<|c_seq<|c_seq<|c_region<|g_v rfl r_move ?_
 replace hm:=bnd hm
 obtain ⟨⟨x1,x2⟩,hx3,hm⟩:=hm
 refine g_cn ⟨w0,M,(1000,go0,.cells #[.string o0.fs,.bool o0.fbad] 89 (0,0))::(1001,go1,.cells #[.pointer (some ⟨go0,0,none⟩)] 87 (0,0))::H,R,φ⟩ (fun W h=>(ok_front (t:=1000) (t':=1000) h rfl)) Tryz.call66 rfl rfl (c_conf_reader_number 1 go0 o0 _ hx3) (fun _ _=>?_)
 refine g_sta _ (fun W h=>(ok_front (t:=1000) (t':=1000) h rfl))<|g_v rfl r_move<|g_nil<|d_then<|c_sta _ (fun W h=>nilR h 16 3 1) ?_
 refine c_cut (ι:=(List Int)×ByteArray×Bool×Option Addr×Nat) [5] (fun ⟨l93,s96,b97,A94,c95⟩=>[(5,.slice A94 l93.length c95)]) (fun ⟨l93,s96,b97,A94,c95⟩=>⟨w0,M,(1000,go0,.cells #[.string s96,.bool b97] 89 (0,0))::(1001,go1,.cells #[.pointer (some ⟨go0,0,none⟩)] 87 (0,0))::H,(16,⟨.slice A94 l93.length c95,3,1,l93.length,l93.flatMap (fun x : Int=>[Value.int .i64 x])⟩)::R,φ⟩) (fun ⟨l93,s96,b97,A94,c95⟩=>m_conf_list_64_j1 l93 s96 b97 = some r∧l93.length ≤ c95) ?_ (fun ⟨l93,s96,b97,A94,c95⟩ u ⟨hm,hc95⟩=>?_)
 ·
  refine c_block ?_
  replace hm:=bnd hm
  obtain ⟨out2,hl2,hr2⟩:=hm
  obtain ⟨n136',hl2⟩:=loop_lp hl2
  refine c_loopU (ι:=Nat×(List Int)×Int×ByteArray×Bool×Option Addr×Nat) [0,1,5,7,8] (fun ⟨n136,l114,i117,s118,b119,A115,c116⟩=>[(5,.slice A115 l114.length c116),(8,.int .i64 i117)]) (fun ⟨n136,l114,i117,s118,b119,A115,c116⟩=>⟨w0,M,(1000,go0,.cells #[.string s118,.bool b119] 89 (0,0))::(1001,go1,.cells #[.pointer (some ⟨go0,0,none⟩)] 87 (0,0))::H,(16,⟨.slice A115 l114.length c116,3,1,l114.length,l114.flatMap (fun x : Int=>[Value.int .i64 x])⟩)::R,φ⟩) (fun ⟨n136,l114,i117,s118,b119,A115,c116⟩=>Lp (fun s=>m_conf_list_64_s2 x1 s.1 s.2.1 s.2.2.1 s.2.2.2) n136 (l114,i117,s118,b119) out2∧l114.length ≤ c116) (fun ⟨n136,l114,i117,s118,b119,A115,c116⟩=>n136) (n136',([] : List Int),0,x2.fs,x2.fbad,none,0) ⟨hl2,(Nat.le_refl 0)⟩ ⟨rfl,rfl,rfl,rfl,rfl,trivial⟩ (fun W h=>h.phi (fun W hφ=>hφ)) (fun ⟨n136,l114,i117,s118,b119,A115,c116⟩ u ⟨hlp,hc116⟩=>?_)
  obtain ⟨o2,hm,hnx2⟩:=lp_step hlp
  clear hlp
  replace hm : m_conf_list_64_s2 x1 l114 i117 s118 b119 = some o2:=hm
  unfold m_conf_list_64_s2 at hm
  refine c_flat [(0,.pointer (some ⟨go0,0,none⟩)),(1,.func (.func 65) #[] #[.pointer (some ⟨go1,0,none⟩)]),(5,.slice A115 l114.length c116),(7,.int .i64 x1),(8,.int .i64 i117)] ⟨rfl,rfl,rfl,rfl,rfl,trivial⟩ (fun u=>?_)
  refine c_sta ⟨w0,M,(1000,go0,.cells #[.string s118,.bool b119] 89 (0,0))::(1001,go1,.cells #[.pointer (some ⟨go0,0,none⟩)] 87 (0,0))::H,(16,⟨.slice A115 l114.length c116,3,1,l114.length,l114.flatMap (fun x : Int=>[Value.int .i64 x])⟩)::R,φ⟩ (fun _ h=>h)<|c_seq<|c_region<|g_v rfl (r_lss rfl rfl)<|g_nil<|d_then<|c_seq ?_
  refine c_cond rfl (fun h137=>?_) (fun h137=>?_)
  ·
   replace hm:=ite_t hm (of_decide_eq_true h137)
   refine c_skip<|d_then<|c_seq<|c_block<|c_seq<|c_seq<|c_region<|g_v rfl r_move<|g_v rfl (r_nilck rfl)<|g_v rfl (r_field (n:=1) Tryz.underlying89 rfl Tryz.sizeOf4 rfl rfl) ?_
   refine g_v rfl (r_load (tag:=1000) rfl rfl rfl Tryz.isAgg4)<|g_nil<|d_then ?_
   refine c_cond rfl (fun h138=>?_) (fun h138=>?_)
   ·
    replace hm:=ite_t hm h138
    refine c_seq<|c_region<|g_v rfl r_assign<|g_nil<|d_then<|c_ret<|d_ret_then<|d_ret_block<|d_ret_then<|d_ret_then ?_
    refine d_ret_block<|d_ret_then<|d_ret_then ?_
    replace hm:=nx_out (C:=(fun e : ((List Int)×ByteArray×Bool) ⊕ ((List Int)×Gconf_reader)=>Sum.elim (fun e=>m_conf_list_64_j1 e.1 e.2.1 e.2.2) (fun x=>some x) e = some r)) hm hnx2 hr2
    replace hm : some (([] : List Int),(⟨s118,b119⟩ : Gconf_reader)) = some r:=hm
    cases hm
    refine d_sta _ (fun W h=>nilR h 21 3 1)<|d_sta _ (fun W h=>ok_frontR (t:=21) (t':=2000) h rfl) ?_
    exact d_retC (none,0) Tryz.results64 (res_tmp (res_nil rfl)) (Nat.le_refl 0) (fun W h=>(h.dropR (t:=16) rfl).phi (fun W hφ=>hφ)) (.inr rfl)
   replace hm:=ite_f hm (bool_nt h138)
   refine c_skip<|d_then<|c_region<|g_v rfl r_move<|g_v rfl r_move ?_
   replace hm:=bnd hm
   obtain ⟨⟨x139,x140⟩,hx141,hm⟩:=hm
   refine g_cnv ⟨w0,M,(1000,go1,.cells #[.pointer (some ⟨go0,0,none⟩)] 87 (0,0))::(1001,go0,.cells #[.string s118,.bool b119] 89 (0,0))::H,(16,⟨.slice A115 l114.length c116,3,1,l114.length,l114.flatMap (fun x : Int=>[Value.int .i64 x])⟩)::R,φ⟩ (fun W h=>(ok_front (t:=9001) (t':=1000) (ok_front (t:=9000) (t':=1001) (ok_front (t:=1001) (t':=9001) (ok_front (t:=1000) (t':=9000) h rfl) rfl) rfl) rfl)) Tryz.call65 rfl rfl rfl (c_conf_Load_c1 go1 go0 (⟨s118,b119⟩ : Gconf_reader) _ hx141) (fun _ _=>?_)
   refine g_sta _ (fun W h=>(ok_front (t:=9001) (t':=1001) (ok_front (t:=9000) (t':=1000) (ok_front (t:=1000) (t':=9001) (ok_front (t:=1001) (t':=9000) h rfl) rfl) rfl) rfl)) ?_
   refine g_e rfl (e_lit (tag:=100170) (l:=[x139]) (enc:=(fun x : Int=>[Value.int .i64 x])) (sz:=1) rfl Tryz.underlying25 (lit3_21 _) rfl rfl (fun _=>rfl)) (fun g143 _=>?_)
   replace hm:=bnd hm
   obtain ⟨l144,hl144,hm⟩:=hm
   refine g_e rfl (e_appR (enc:=(fun x : Int=>[Value.int .i64 x])) (l:=l114) (l1:=[x139]) (l2:=l144) (tag:=16) Tryz.underlying25 inf3_11 rfl (by decide) (by decide) (fun _=>rfl) (fun _=>rfl) rfl hc116 rfl rfl (fun W hS=>rowCl (tag:=100170) rfl W hS) hl144) (fun ⟨A145,c146⟩ hc146=>?_)
   refine g_v rfl r_assign<|g_nil<|d_normal_block<|d_then ?_
   refine c_flat [(0,.pointer (some ⟨go0,0,none⟩)),(1,.func (.func 65) #[] #[.pointer (some ⟨go1,0,none⟩)]),(5,.slice A145 l144.length c146),(7,.int .i64 x1),(8,.int .i64 i117)] ⟨rfl,rfl,rfl,rfl,rfl,trivial⟩ (fun u=>?_)
   refine c_sta ⟨w0,M,(1001,go1,.cells #[.pointer (some ⟨go0,0,none⟩)] 87 (0,0))::(1000,go0,.cells #[.string x140.fs,.bool x140.fbad] 89 (0,0))::H,(100170,⟨.slice (some ⟨g143,0,none⟩) [x139].length 1,3,1,[x139].length,[x139].flatMap (fun x : Int=>[Value.int .i64 x])⟩)::(16,⟨.slice A145 l144.length c146,3,1,l144.length,l144.flatMap (fun x : Int=>[Value.int .i64 x])⟩)::R,φ⟩ (fun _ h=>h)<|c_region<|g_v rfl (r_add rfl rfl rfl)<|g_v rfl r_move<|g_nil ?_
   obtain ⟨n147,hn147,hlp⟩:=nx_inl hm hnx2
   exact d_round (n147,l144,w64 (i117 + 1),x140.fs,x140.fbad,A145,c146) ⟨hlp,hc146⟩ hn147 ⟨rfl,rfl,rfl,rfl,rfl,trivial⟩ (fun W h=>(ok_front (t:=1000) (t':=1000) (ok_front (t:=1001) (t':=1001) (h.dropR (t:=100170) rfl) rfl) rfl).phi (fun W hφ=>hφ))
  replace hm:=ite_f hm (of_decide_eq_false h137)
  refine c_exit<|d_exit_then<|d_exit_then<|d_exit_block ?_
  replace hm:=nx_out (C:=(fun e : ((List Int)×ByteArray×Bool) ⊕ ((List Int)×Gconf_reader)=>Sum.elim (fun e=>m_conf_list_64_j1 e.1 e.2.1 e.2.2) (fun x=>some x) e = some r)) hm hnx2 hr2
  exact d_round (l114,s118,b119,A115,c116) ⟨hm,hc116⟩ Nat.zero_lt_one ⟨rfl,trivial⟩ (fun W h=>h.phi (fun W hφ=>hφ))
 unfold m_conf_list_64_j1 at hm
 refine d_flat [(5,.slice A94 l93.length c95)] ⟨rfl,trivial⟩ (fun u=>?_)
 refine d_sta ⟨w0,M,(1000,go0,.cells #[.string s96,.bool b97] 89 (0,0))::(1001,go1,.cells #[.pointer (some ⟨go0,0,none⟩)] 87 (0,0))::H,(16,⟨.slice A94 l93.length c95,3,1,l93.length,l93.flatMap (fun x : Int=>[Value.int .i64 x])⟩)::R,φ⟩ (fun _ h=>h)<|d_then<|c_seq<|c_region<|g_v rfl r_move<|g_v rfl r_assign<|g_nil<|d_then<|c_ret ?_
 cases hm
 refine d_sta _ (fun W h=>ok_frontR (t:=16) (t':=2000) h rfl) ?_
 exact d_retC (A94,c95) Tryz.results64 (res_tmp (res_nil rfl)) hc95 (fun W h=>h.phi (fun W hφ=>hφ)) (.inr rfl)
noncomputable def m_conf_Load_c2 (o1 : Gconf_reader) : Option (ByteArray×Gconf_reader):=
  (m_conf_reader_take 4 o1).bind fun (z4 : ByteArray×Gconf_reader)=>
  some (z4.1,z4.2)
theorem c_conf_Load_c2 {w0 : World} {M : Nat→Prop} {H : List (Nat×Nat×Obj)} {R : List (Nat×Row)} {φ : World→Prop} (go0 : Nat) (go1 : Nat) (o1 : Gconf_reader) (r : ByteArray×Gconf_reader) (hm : m_conf_Load_c2 o1 = some r) :
    Cn Tryz.prog 68 #[.pointer (some ⟨go0,0,none⟩)] ⟨w0,M,(1000,go0,.cells #[.pointer (some ⟨go1,0,none⟩)] 87 (0,0))::(1001,go1,.cells #[.string o1.fs,.bool o1.fbad] 89 (0,0))::H,R,φ⟩ (fun x : Unit=>.string r.1) (fun x=>True) (fun x=>⟨w0,M,(1000,go0,.cells #[.pointer (some ⟨go1,0,none⟩)] 87 (0,0))::(1001,go1,.cells #[.string r.2.fs,.bool r.2.fbad] 89 (0,0))::H,R,φ⟩):=by
 unfold m_conf_Load_c2 at hm
 refine cn_intro (fn:=Tryz.f68) (N:=4) Tryz.func68 rfl Tryz.ntmps68 rfl<|c_seq<|c_region<|g_v rfl r_assign<|g_nil<|d_then<|c_seq<|c_region<|g_v rfl (r_load (tag:=1000) rfl rfl rfl Tryz.isAgg87) ?_
 replace hm:=bnd hm
 obtain ⟨⟨x1,x2⟩,hx3,hm⟩:=hm
 refine g_cn ⟨w0,M,(1000,go1,.cells #[.string o1.fs,.bool o1.fbad] 89 (0,0))::(1000,go0,.cells #[.pointer (some ⟨go1,0,none⟩)] 87 (0,0))::H,R,φ⟩ (fun W h=>(ok_front (t:=1001) (t':=1000) h rfl)) Tryz.call69 rfl rfl (c_conf_reader_take 4 go1 o1 _ hx3) (fun _ _=>?_)
 refine g_sta _ (fun W h=>(ok_front (t:=1000) (t':=1001) h rfl))<|g_v rfl r_assign<|g_nil<|d_then<|c_ret ?_
 cases hm
 exact d_retC () Tryz.results68 (res_tmp (res_nil rfl)) trivial (fun W h=>(ok_front (t:=1000) (t':=1000) (ok_front (t:=1001) (t':=1001) h rfl) rfl).phi (fun W hφ=>hφ)) (.inr rfl)
noncomputable def m_conf_list_67_j1  (l93 : List ByteArray) (s96 : ByteArray) (b97 : Bool) : Option ((List ByteArray)×Gconf_reader):=
  some (l93,(⟨s96,b97⟩ : Gconf_reader))
noncomputable def m_conf_list_67_s2 (x1 : Int) (l114 : List ByteArray) (i117 : Int) (s118 : ByteArray) (b119 : Bool) : Option (((List ByteArray)×Int×ByteArray×Bool) ⊕ (((List ByteArray)×ByteArray×Bool) ⊕ ((List ByteArray)×Gconf_reader))):=
  if i117 < x1 then
    if b119 = true then
      some (.inr (.inr (([] : List ByteArray),(⟨s118,b119⟩ : Gconf_reader))))
    else
      (m_conf_Load_c2 (⟨s118,b119⟩ : Gconf_reader)).bind fun (z142 : ByteArray×Gconf_reader)=>
      (app 16 l114 [z142.1]).bind fun l144=>
      some (.inl (l144,w64 (i117 + 1),z142.2.fs,z142.2.fbad))
  else
    some (.inr (.inl (l114,s118,b119)))
noncomputable def m_conf_list_67 (o0 : Gconf_reader) : Option ((List ByteArray)×Gconf_reader):=
  (m_conf_reader_number 1 o0).bind fun (z4 : Int×Gconf_reader)=>
  (loop (fun s=>m_conf_list_67_s2 z4.1 s.1 s.2.1 s.2.2.1 s.2.2.2) (([] : List ByteArray),0,z4.2.fs,z4.2.fbad)).bind fun e=>Sum.elim (fun e=>m_conf_list_67_j1 e.1 e.2.1 e.2.2) (fun x=>some x) e
theorem c_conf_list_67 {w0 : World} {M : Nat→Prop} {H : List (Nat×Nat×Obj)} {R : List (Nat×Row)} {φ : World→Prop} (go0 : Nat) (o0 : Gconf_reader) (go1 : Nat) (r : (List ByteArray)×Gconf_reader) (hm : m_conf_list_67 o0 = some r) :
    Cn Tryz.prog 67 #[.pointer (some ⟨go0,0,none⟩),.func (.func 68) #[] #[.pointer (some ⟨go1,0,none⟩)]] ⟨w0,M,(1000,go0,.cells #[.string o0.fs,.bool o0.fbad] 89 (0,0))::(1001,go1,.cells #[.pointer (some ⟨go0,0,none⟩)] 87 (0,0))::H,R,φ⟩ (fun x : Option Addr×Nat=>.slice x.1 r.1.length x.2) (fun x=>r.1.length ≤ x.2) (fun x=>⟨w0,M,(1000,go0,.cells #[.string r.2.fs,.bool r.2.fbad] 89 (0,0))::(1001,go1,.cells #[.pointer (some ⟨go0,0,none⟩)] 87 (0,0))::H,(2000,⟨.slice x.1 r.1.length x.2,9,1,r.1.length,r.1.flatMap (fun x : ByteArray=>[Value.string x])⟩)::R,φ⟩):=by
 unfold m_conf_list_67 at hm
 refine cn_intro (fn:=Tryz.f67) (N:=21) Tryz.func67 rfl Tryz.ntmps67 rfl<|c_seq<|c_region<|g_v rfl r_assign<|g_nil<|d_then<|c_seq<|c_region<|g_v rfl r_assign<|g_nil ?_
 refine d_then<|c_seq<|c_seq<|c_region<|g_v rfl r_move ?_
 replace hm:=bnd hm
 obtain ⟨⟨x1,x2⟩,hx3,hm⟩:=hm
 refine g_cn ⟨w0,M,(1000,go0,.cells #[.string o0.fs,.bool o0.fbad] 89 (0,0))::(1001,go1,.cells #[.pointer (some ⟨go0,0,none⟩)] 87 (0,0))::H,R,φ⟩ (fun W h=>(ok_front (t:=1000) (t':=1000) h rfl)) Tryz.call66 rfl rfl (c_conf_reader_number 1 go0 o0 _ hx3) (fun _ _=>?_)
 refine g_sta _ (fun W h=>(ok_front (t:=1000) (t':=1000) h rfl))<|g_v rfl r_move<|g_nil<|d_then<|c_sta _ (fun W h=>nilR h 16 9 1) ?_
 refine c_cut (ι:=(List ByteArray)×ByteArray×Bool×Option Addr×Nat) [5] (fun ⟨l93,s96,b97,A94,c95⟩=>[(5,.slice A94 l93.length c95)]) (fun ⟨l93,s96,b97,A94,c95⟩=>⟨w0,M,(1000,go0,.cells #[.string s96,.bool b97] 89 (0,0))::(1001,go1,.cells #[.pointer (some ⟨go0,0,none⟩)] 87 (0,0))::H,(16,⟨.slice A94 l93.length c95,9,1,l93.length,l93.flatMap (fun x : ByteArray=>[Value.string x])⟩)::R,φ⟩) (fun ⟨l93,s96,b97,A94,c95⟩=>m_conf_list_67_j1 l93 s96 b97 = some r∧l93.length ≤ c95) ?_ (fun ⟨l93,s96,b97,A94,c95⟩ u ⟨hm,hc95⟩=>?_)
 ·
  refine c_block ?_
  replace hm:=bnd hm
  obtain ⟨out2,hl2,hr2⟩:=hm
  obtain ⟨n136',hl2⟩:=loop_lp hl2
  refine c_loopU (ι:=Nat×(List ByteArray)×Int×ByteArray×Bool×Option Addr×Nat) [0,1,5,7,8] (fun ⟨n136,l114,i117,s118,b119,A115,c116⟩=>[(5,.slice A115 l114.length c116),(8,.int .i64 i117)]) (fun ⟨n136,l114,i117,s118,b119,A115,c116⟩=>⟨w0,M,(1000,go0,.cells #[.string s118,.bool b119] 89 (0,0))::(1001,go1,.cells #[.pointer (some ⟨go0,0,none⟩)] 87 (0,0))::H,(16,⟨.slice A115 l114.length c116,9,1,l114.length,l114.flatMap (fun x : ByteArray=>[Value.string x])⟩)::R,φ⟩) (fun ⟨n136,l114,i117,s118,b119,A115,c116⟩=>Lp (fun s=>m_conf_list_67_s2 x1 s.1 s.2.1 s.2.2.1 s.2.2.2) n136 (l114,i117,s118,b119) out2∧l114.length ≤ c116) (fun ⟨n136,l114,i117,s118,b119,A115,c116⟩=>n136) (n136',([] : List ByteArray),0,x2.fs,x2.fbad,none,0) ⟨hl2,(Nat.le_refl 0)⟩ ⟨rfl,rfl,rfl,rfl,rfl,trivial⟩ (fun W h=>h.phi (fun W hφ=>hφ)) (fun ⟨n136,l114,i117,s118,b119,A115,c116⟩ u ⟨hlp,hc116⟩=>?_)
  obtain ⟨o2,hm,hnx2⟩:=lp_step hlp
  clear hlp
  replace hm : m_conf_list_67_s2 x1 l114 i117 s118 b119 = some o2:=hm
  unfold m_conf_list_67_s2 at hm
  refine c_flat [(0,.pointer (some ⟨go0,0,none⟩)),(1,.func (.func 68) #[] #[.pointer (some ⟨go1,0,none⟩)]),(5,.slice A115 l114.length c116),(7,.int .i64 x1),(8,.int .i64 i117)] ⟨rfl,rfl,rfl,rfl,rfl,trivial⟩ (fun u=>?_)
  refine c_sta ⟨w0,M,(1000,go0,.cells #[.string s118,.bool b119] 89 (0,0))::(1001,go1,.cells #[.pointer (some ⟨go0,0,none⟩)] 87 (0,0))::H,(16,⟨.slice A115 l114.length c116,9,1,l114.length,l114.flatMap (fun x : ByteArray=>[Value.string x])⟩)::R,φ⟩ (fun _ h=>h)<|c_seq<|c_region<|g_v rfl (r_lss rfl rfl)<|g_nil<|d_then<|c_seq ?_
  refine c_cond rfl (fun h137=>?_) (fun h137=>?_)
  ·
   replace hm:=ite_t hm (of_decide_eq_true h137)
   refine c_skip<|d_then<|c_seq<|c_block<|c_seq<|c_seq<|c_region<|g_v rfl r_move<|g_v rfl (r_nilck rfl)<|g_v rfl (r_field (n:=1) Tryz.underlying89 rfl Tryz.sizeOf4 rfl rfl) ?_
   refine g_v rfl (r_load (tag:=1000) rfl rfl rfl Tryz.isAgg4)<|g_nil<|d_then ?_
   refine c_cond rfl (fun h138=>?_) (fun h138=>?_)
   ·
    replace hm:=ite_t hm h138
    refine c_seq<|c_region<|g_v rfl r_assign<|g_nil<|d_then<|c_ret<|d_ret_then<|d_ret_block<|d_ret_then<|d_ret_then ?_
    refine d_ret_block<|d_ret_then<|d_ret_then ?_
    replace hm:=nx_out (C:=(fun e : ((List ByteArray)×ByteArray×Bool) ⊕ ((List ByteArray)×Gconf_reader)=>Sum.elim (fun e=>m_conf_list_67_j1 e.1 e.2.1 e.2.2) (fun x=>some x) e = some r)) hm hnx2 hr2
    replace hm : some (([] : List ByteArray),(⟨s118,b119⟩ : Gconf_reader)) = some r:=hm
    cases hm
    refine d_sta _ (fun W h=>nilR h 21 9 1)<|d_sta _ (fun W h=>ok_frontR (t:=21) (t':=2000) h rfl) ?_
    exact d_retC (none,0) Tryz.results67 (res_tmp (res_nil rfl)) (Nat.le_refl 0) (fun W h=>(h.dropR (t:=16) rfl).phi (fun W hφ=>hφ)) (.inr rfl)
   replace hm:=ite_f hm (bool_nt h138)
   refine c_skip<|d_then<|c_region<|g_v rfl r_move<|g_v rfl r_move ?_
   replace hm:=bnd hm
   obtain ⟨⟨x139,x140⟩,hx141,hm⟩:=hm
   refine g_cnv ⟨w0,M,(1000,go1,.cells #[.pointer (some ⟨go0,0,none⟩)] 87 (0,0))::(1001,go0,.cells #[.string s118,.bool b119] 89 (0,0))::H,(16,⟨.slice A115 l114.length c116,9,1,l114.length,l114.flatMap (fun x : ByteArray=>[Value.string x])⟩)::R,φ⟩ (fun W h=>(ok_front (t:=9001) (t':=1000) (ok_front (t:=9000) (t':=1001) (ok_front (t:=1001) (t':=9001) (ok_front (t:=1000) (t':=9000) h rfl) rfl) rfl) rfl)) Tryz.call68 rfl rfl rfl (c_conf_Load_c2 go1 go0 (⟨s118,b119⟩ : Gconf_reader) _ hx141) (fun _ _=>?_)
   refine g_sta _ (fun W h=>(ok_front (t:=9001) (t':=1001) (ok_front (t:=9000) (t':=1000) (ok_front (t:=1000) (t':=9001) (ok_front (t:=1001) (t':=9000) h rfl) rfl) rfl) rfl)) ?_
   refine g_e rfl (e_lit (tag:=100170) (l:=[x139]) (enc:=(fun x : ByteArray=>[Value.string x])) (sz:=1) rfl Tryz.underlying26 (lit9_6 _) rfl rfl (fun _=>rfl)) (fun g143 _=>?_)
   replace hm:=bnd hm
   obtain ⟨l144,hl144,hm⟩:=hm
   refine g_e rfl (e_appR (enc:=(fun x : ByteArray=>[Value.string x])) (l:=l114) (l1:=[x139]) (l2:=l144) (tag:=16) Tryz.underlying26 inf9_7 rfl (by decide) (by decide) (fun _=>rfl) (fun _=>rfl) rfl hc116 rfl rfl (fun W hS=>rowCl (tag:=100170) rfl W hS) hl144) (fun ⟨A145,c146⟩ hc146=>?_)
   refine g_v rfl r_assign<|g_nil<|d_normal_block<|d_then ?_
   refine c_flat [(0,.pointer (some ⟨go0,0,none⟩)),(1,.func (.func 68) #[] #[.pointer (some ⟨go1,0,none⟩)]),(5,.slice A145 l144.length c146),(7,.int .i64 x1),(8,.int .i64 i117)] ⟨rfl,rfl,rfl,rfl,rfl,trivial⟩ (fun u=>?_)
   refine c_sta ⟨w0,M,(1001,go1,.cells #[.pointer (some ⟨go0,0,none⟩)] 87 (0,0))::(1000,go0,.cells #[.string x140.fs,.bool x140.fbad] 89 (0,0))::H,(100170,⟨.slice (some ⟨g143,0,none⟩) [x139].length 1,9,1,[x139].length,[x139].flatMap (fun x : ByteArray=>[Value.string x])⟩)::(16,⟨.slice A145 l144.length c146,9,1,l144.length,l144.flatMap (fun x : ByteArray=>[Value.string x])⟩)::R,φ⟩ (fun _ h=>h)<|c_region<|g_v rfl (r_add rfl rfl rfl)<|g_v rfl r_move<|g_nil ?_
   obtain ⟨n147,hn147,hlp⟩:=nx_inl hm hnx2
   exact d_round (n147,l144,w64 (i117 + 1),x140.fs,x140.fbad,A145,c146) ⟨hlp,hc146⟩ hn147 ⟨rfl,rfl,rfl,rfl,rfl,trivial⟩ (fun W h=>(ok_front (t:=1000) (t':=1000) (ok_front (t:=1001) (t':=1001) (h.dropR (t:=100170) rfl) rfl) rfl).phi (fun W hφ=>hφ))
  replace hm:=ite_f hm (of_decide_eq_false h137)
  refine c_exit<|d_exit_then<|d_exit_then<|d_exit_block ?_
  replace hm:=nx_out (C:=(fun e : ((List ByteArray)×ByteArray×Bool) ⊕ ((List ByteArray)×Gconf_reader)=>Sum.elim (fun e=>m_conf_list_67_j1 e.1 e.2.1 e.2.2) (fun x=>some x) e = some r)) hm hnx2 hr2
  exact d_round (l114,s118,b119,A115,c116) ⟨hm,hc116⟩ Nat.zero_lt_one ⟨rfl,trivial⟩ (fun W h=>h.phi (fun W hφ=>hφ))
 unfold m_conf_list_67_j1 at hm
 refine d_flat [(5,.slice A94 l93.length c95)] ⟨rfl,trivial⟩ (fun u=>?_)
 refine d_sta ⟨w0,M,(1000,go0,.cells #[.string s96,.bool b97] 89 (0,0))::(1001,go1,.cells #[.pointer (some ⟨go0,0,none⟩)] 87 (0,0))::H,(16,⟨.slice A94 l93.length c95,9,1,l93.length,l93.flatMap (fun x : ByteArray=>[Value.string x])⟩)::R,φ⟩ (fun _ h=>h)<|d_then<|c_seq<|c_region<|g_v rfl r_move<|g_v rfl r_assign<|g_nil<|d_then<|c_ret ?_
 cases hm
 refine d_sta _ (fun W h=>ok_frontR (t:=16) (t':=2000) h rfl) ?_
 exact d_retC (A94,c95) Tryz.results67 (res_tmp (res_nil rfl)) hc95 (fun W h=>h.phi (fun W hφ=>hφ)) (.inr rfl)
noncomputable def m_conf_reader_name_j2 (x14 : ByteArray) (x15 : Gconf_reader) (b21 : Bool) : Option (ByteArray×Gconf_reader):=
  some (x14,(⟨x15.fs,b21⟩ : Gconf_reader))
noncomputable def m_conf_reader_name_j1 (o0 : Gconf_reader) (i13 : Int) : Option (ByteArray×Gconf_reader):=
  (m_conf_reader_take (min (w64 (i13 + 1)) (o0.fs.size : Int)) o0).bind fun (z17 : ByteArray×Gconf_reader)=>
  if z17.2.fbad = true then
    m_conf_reader_name_j2 z17.1 z17.2 true
  else
    (m_conf_named z17.1).bind fun x23=>
    m_conf_reader_name_j2 z17.1 z17.2 (!x23)
noncomputable def m_conf_reader_name_s3 (o0 : Gconf_reader) (i30 : Int) : Option (Int ⊕ Int):=
  if i30 < (o0.fs.size : Int) then
    (sat_ o0.fs i30).bind fun b38=>
    if b38 ≠ 0 then
      (sat_ o0.fs i30).bind fun b40=>
      some (.inl (w64 (i30 + (w64 (1 + (w64 b40))))))
    else
      some (.inr i30)
  else
    some (.inr i30)
noncomputable def m_conf_reader_name (o0 : Gconf_reader) : Option (ByteArray×Gconf_reader):=
  (loop (fun s=>m_conf_reader_name_s3 o0 s) 0).bind fun e=>m_conf_reader_name_j1 o0 e
theorem c_conf_reader_name {w0 : World} {M : Nat→Prop} {H : List (Nat×Nat×Obj)} {R : List (Nat×Row)} {φ : World→Prop} (go0 : Nat) (o0 : Gconf_reader) (r : ByteArray×Gconf_reader) (hm : m_conf_reader_name o0 = some r) :
    Cn Tryz.prog 72 #[.pointer (some ⟨go0,0,none⟩)] ⟨w0,M,(1000,go0,.cells #[.string o0.fs,.bool o0.fbad] 89 (0,0))::H,R,φ⟩ (fun x : Unit=>.string r.1) (fun x=>True) (fun x=>⟨w0,M,(1000,go0,.cells #[.string r.2.fs,.bool r.2.fbad] 89 (0,0))::H,R,φ⟩):=by
 unfold m_conf_reader_name at hm
 refine cn_intro (fn:=Tryz.f72) (N:=54) Tryz.func72 rfl Tryz.ntmps72 rfl<|c_seq<|c_region<|g_v rfl r_assign<|g_nil<|d_then<|c_seq<|c_region<|g_v rfl r_assign<|g_nil ?_
 refine d_then<|c_seq ?_
 refine c_cut (ι:=Int) [0,3] (fun i13=>[(3,.int .i64 i13)]) (fun i13=>⟨w0,M,(1000,go0,.cells #[.string o0.fs,.bool o0.fbad] 89 (0,0))::H,R,φ⟩) (fun i13=>m_conf_reader_name_j1 o0 i13 = some r) ?_ (fun i13 u hm=>?_)
 ·
  refine c_block ?_
  replace hm:=bnd hm
  obtain ⟨out3,hl3,hr3⟩:=hm
  obtain ⟨n36',hl3⟩:=loop_lp hl3
  refine c_loopU (ι:=Nat×Int) [0,3] (fun ⟨n36,i30⟩=>[(3,.int .i64 i30)]) (fun ⟨n36,i30⟩=>⟨w0,M,(1000,go0,.cells #[.string o0.fs,.bool o0.fbad] 89 (0,0))::H,R,φ⟩) (fun ⟨n36,i30⟩=>Lp (fun s=>m_conf_reader_name_s3 o0 s) n36 i30 out3) (fun ⟨n36,i30⟩=>n36) (n36',0) hl3 ⟨rfl,rfl,trivial⟩ (fun W h=>h.phi (fun W hφ=>hφ)) (fun ⟨n36,i30⟩ u hlp=>?_)
  obtain ⟨o3,hm,hnx3⟩:=lp_step hlp
  clear hlp
  replace hm : m_conf_reader_name_s3 o0 i30 = some o3:=hm
  unfold m_conf_reader_name_s3 at hm
  refine c_flat [(0,.pointer (some ⟨go0,0,none⟩)),(3,.int .i64 i30)] ⟨rfl,rfl,trivial⟩ (fun u=>?_)
  refine c_sta ⟨w0,M,(1000,go0,.cells #[.string o0.fs,.bool o0.fbad] 89 (0,0))::H,R,φ⟩ (fun _ h=>h)<|c_seq<|c_seq<|c_region<|g_v rfl r_move<|g_v rfl r_move<|g_v rfl (r_nilck rfl)<|g_v rfl (r_field (n:=0) Tryz.underlying89 rfl Tryz.sizeOf9 rfl rfl)<|g_v rfl (r_load (tag:=1000) rfl rfl rfl Tryz.isAgg9)<|g_v rfl (r_len Tryz.underlying9 rfl) ?_
  refine g_v rfl (r_lss rfl rfl)<|g_v rfl r_move ?_
  refine g_if rfl rfl rfl rfl rfl (fun h37=>?_) (fun h37=>?_)
  ·
   replace hm:=ite_t hm (of_decide_eq_true h37)
   refine g_v rfl r_move<|g_do rfl rfl rfl rfl rfl h37<|g_v rfl (r_nilck rfl)<|g_do rfl rfl rfl rfl rfl h37<|g_v rfl (r_field (n:=0) Tryz.underlying89 rfl Tryz.sizeOf9 rfl rfl)<|g_do rfl rfl rfl rfl rfl h37<|g_v rfl (r_load (tag:=1000) rfl rfl rfl Tryz.isAgg9)<|g_do rfl rfl rfl rfl rfl h37<|g_v rfl r_move<|g_do rfl rfl rfl rfl rfl h37 ?_
   replace hm:=bnd hm
   obtain ⟨b38,hb38,hm⟩:=hm
   refine g_v rfl (r_sat Tryz.underlying9 rfl rfl hb38)<|g_do rfl rfl rfl rfl rfl h37<|g_v rfl (r_neq rfl rfl)<|g_v rfl (r_pick1 rfl h37)<|g_nil<|d_then ?_
   refine c_flat [(0,.pointer (some ⟨go0,0,none⟩)),(3,.int .i64 i30),(20,.bool (decide (b38 ≠ 0)))] ⟨rfl,rfl,rfl,trivial⟩ (fun u=>?_)
   refine c_cond rfl (fun h39=>?_) (fun h39=>?_)
   ·
    replace hm:=ite_t hm (of_decide_eq_true h39)
    refine c_skip<|d_then<|c_block<|c_region<|g_v rfl r_move<|g_v rfl r_move<|g_v rfl (r_nilck rfl)<|g_v rfl (r_field (n:=0) Tryz.underlying89 rfl Tryz.sizeOf9 rfl rfl)<|g_v rfl (r_load (tag:=1000) rfl rfl rfl Tryz.isAgg9)<|g_v rfl r_move ?_
    replace hm:=bnd hm
    obtain ⟨b40,hb40,hm⟩:=hm
    refine g_v rfl (r_sat Tryz.underlying9 rfl rfl hb40)<|g_v rfl (r_conv Tryz.underlying5 Tryz.underlying3 rfl rfl)<|g_v rfl (r_add rfl rfl rfl)<|g_v rfl (r_add rfl rfl rfl)<|g_v rfl r_assign<|g_nil<|d_normal_block ?_
    obtain ⟨n41,hn41,hlp⟩:=nx_inl hm hnx3
    exact d_round (n41,w64 (i30 + (w64 (1 + (w64 b40))))) hlp hn41 ⟨rfl,rfl,trivial⟩ (fun W h=>h.phi (fun W hφ=>hφ))
   replace hm:=ite_f hm (of_decide_eq_false h39)
   refine c_exit<|d_exit_then<|d_exit_then<|d_exit_block ?_
   replace hm:=nx_out (C:=(fun e : Int=>m_conf_reader_name_j1 o0 e = some r)) hm hnx3 hr3
   exact d_round i30 hm Nat.zero_lt_one ⟨rfl,rfl,trivial⟩ (fun W h=>h.phi (fun W hφ=>hφ))
  replace hm:=ite_f hm (of_decide_eq_false h37)
  iterate 6 refine g_no rfl rfl rfl rfl rfl h37 ?_
  refine g_v rfl (r_pick0 rfl h37)<|g_nil<|d_then ?_
  refine c_flat [(0,.pointer (some ⟨go0,0,none⟩)),(3,.int .i64 i30),(20,.bool false)] ⟨rfl,rfl,rfl,trivial⟩ (fun u=>?_)
  refine c_cond0 rfl rfl<|c_exit<|d_exit_then<|d_exit_then<|d_exit_block ?_
  replace hm:=nx_out (C:=(fun e : Int=>m_conf_reader_name_j1 o0 e = some r)) hm hnx3 hr3
  exact d_round i30 hm Nat.zero_lt_one ⟨rfl,rfl,trivial⟩ (fun W h=>h.phi (fun W hφ=>hφ))
 unfold m_conf_reader_name_j1 at hm
 refine d_flat [(0,.pointer (some ⟨go0,0,none⟩)),(3,.int .i64 i13)] ⟨rfl,rfl,trivial⟩ (fun u=>?_)
 refine d_sta ⟨w0,M,(1000,go0,.cells #[.string o0.fs,.bool o0.fbad] 89 (0,0))::H,R,φ⟩ (fun _ h=>h)<|d_then<|c_seq<|c_region<|g_v rfl r_move<|g_v rfl r_move<|g_v rfl (r_add rfl rfl rfl)<|g_v rfl r_move<|g_v rfl (r_nilck rfl)<|g_v rfl (r_field (n:=0) Tryz.underlying89 rfl Tryz.sizeOf9 rfl rfl) ?_
 refine g_v rfl (r_load (tag:=1000) rfl rfl rfl Tryz.isAgg9)<|g_v rfl (r_len Tryz.underlying9 rfl)<|g_v rfl (r_min rfl rfl) ?_
 replace hm:=bnd hm
 obtain ⟨⟨x14,x15⟩,hx16,hm⟩:=hm
 refine g_cn ⟨w0,M,(1000,go0,.cells #[.string o0.fs,.bool o0.fbad] 89 (0,0))::H,R,φ⟩ (fun W h=>(ok_front (t:=1000) (t':=1000) h rfl)) Tryz.call69 rfl rfl (c_conf_reader_take (min (w64 (i13 + 1)) (o0.fs.size : Int)) go0 o0 _ hx16) (fun _ _=>?_)
 refine g_sta _ (fun W h=>(ok_front (t:=1000) (t':=1000) h rfl))<|g_v rfl r_assign<|g_nil<|d_then ?_
 refine c_flat [(0,.pointer (some ⟨go0,0,none⟩)),(4,.string x14)] ⟨rfl,rfl,trivial⟩ (fun u=>?_)
 refine c_sta ⟨w0,M,(1000,go0,.cells #[.string x15.fs,.bool x15.fbad] 89 (0,0))::H,R,φ⟩ (fun _ h=>h)<|c_seq ?_
 refine c_cut (ι:=Bool) [4] (fun b21=>[]) (fun b21=>⟨w0,M,(1000,go0,.cells #[.string x15.fs,.bool b21] 89 (0,0))::H,R,φ⟩) (fun b21=>m_conf_reader_name_j2 x14 x15 b21 = some r) ?_ (fun b21 u hm=>?_)
 ·
  refine c_region<|g_v rfl r_move<|g_v rfl r_move<|g_v rfl (r_nilck rfl)<|g_v rfl (r_field (n:=1) Tryz.underlying89 rfl Tryz.sizeOf4 rfl rfl)<|g_v rfl (r_load (tag:=1000) rfl rfl rfl Tryz.isAgg4)<|g_v rfl r_move ?_
  refine g_if rfl rfl rfl rfl rfl (fun h22=>?_) (fun h22=>?_)
  ·
   replace hm:=ite_f hm (bool_nt h22)
   refine g_v rfl r_move<|g_do rfl rfl rfl rfl rfl h22 ?_
   replace hm:=bnd hm
   obtain ⟨x23,hx24,hm⟩:=hm
   refine g_cn ⟨w0,M,_,_,φ⟩ (fun _ h=>h) Tryz.call53 rfl rfl (c_conf_named x14 _ hx24) (fun _ _=>?_)
   refine g_do rfl rfl rfl rfl rfl h22<|g_v rfl (r_not rfl)<|g_v rfl (r_pick0 rfl h22)<|g_v rfl (r_nilck rfl)<|g_v rfl (r_field (n:=1) Tryz.underlying89 rfl Tryz.sizeOf4 rfl rfl)<|g_storeL (tag:=1000) rfl rfl rfl rfl Tryz.sizeOf4 rfl rfl<|g_nil ?_
   exact d_round (!x23) hm Nat.zero_lt_one ⟨rfl,trivial⟩ (fun W h=>h.phi (fun W hφ=>hφ))
  replace hm:=ite_t hm h22
  refine g_no rfl rfl rfl rfl rfl h22<|g_no rfl rfl rfl rfl rfl h22<|g_v rfl (r_pick1 rfl h22)<|g_v rfl (r_nilck rfl)<|g_v rfl (r_field (n:=1) Tryz.underlying89 rfl Tryz.sizeOf4 rfl rfl)<|g_storeL (tag:=1000) rfl rfl rfl rfl Tryz.sizeOf4 rfl rfl<|g_nil ?_
  exact d_round true hm Nat.zero_lt_one ⟨rfl,trivial⟩ (fun W h=>h.phi (fun W hφ=>hφ))
 unfold m_conf_reader_name_j2 at hm
 refine d_flat [(4,.string x14)] ⟨rfl,trivial⟩ (fun u=>?_)
 refine d_sta ⟨w0,M,(1000,go0,.cells #[.string x15.fs,.bool b21] 89 (0,0))::H,R,φ⟩ (fun _ h=>h)<|d_then<|c_seq<|c_region<|g_v rfl r_move<|g_v rfl r_assign<|g_nil<|d_then<|c_ret ?_
 cases hm
 exact d_retC () Tryz.results72 (res_tmp (res_nil rfl)) trivial (fun W h=>h.phi (fun W hφ=>hφ)) (.inr rfl)
noncomputable def m_conf_Load_c3 (o1 : Gconf_reader) : Option (GAnchor×Gconf_reader):=
  (m_conf_reader_name o1).bind fun (z5 : ByteArray×Gconf_reader)=>
  (m_conf_reader_number 1 z5.2).bind fun (z25 : Int×Gconf_reader)=>
  (m_conf_reader_take z25.1 z25.2).bind fun (z29 : ByteArray×Gconf_reader)=>
  some ((⟨z5.1,z29.1⟩ : GAnchor),z29.2)
theorem c_conf_Load_c3 {w0 : World} {M : Nat→Prop} {H : List (Nat×Nat×Obj)} {R : List (Nat×Row)} {φ : World→Prop} (go0 : Nat) (go1 : Nat) (o1 : Gconf_reader) (r : GAnchor×Gconf_reader) (hm : m_conf_Load_c3 o1 = some r) :
    Cn Tryz.prog 71 #[.pointer (some ⟨go0,0,none⟩)] ⟨w0,M,(1000,go0,.cells #[.pointer (some ⟨go1,0,none⟩)] 87 (0,0))::(1001,go1,.cells #[.string o1.fs,.bool o1.fbad] 89 (0,0))::H,R,φ⟩ (fun x : Unit=>.agg #[.string r.1.fName,.string r.1.fText]) (fun x=>True) (fun x=>⟨w0,M,(1000,go0,.cells #[.pointer (some ⟨go1,0,none⟩)] 87 (0,0))::(1001,go1,.cells #[.string r.2.fs,.bool r.2.fbad] 89 (0,0))::H,R,φ⟩):=by
 unfold m_conf_Load_c3 at hm
 refine cn_intro (fn:=Tryz.f71) (N:=11) Tryz.func71 rfl Tryz.ntmps71 rfl<|c_seq<|c_region ?_
 refine g_e rfl (e_alloc 100010 Tryz.zeroValue55) (fun g1 _=>?_)
 refine g_nil<|d_then<|c_seq<|c_region<|g_v rfl (r_load (tag:=1000) rfl rfl rfl Tryz.isAgg87) ?_
 replace hm:=bnd hm
 obtain ⟨⟨x2,x3⟩,hx4,hm⟩:=hm
 refine g_cn ⟨w0,M,(1000,go1,.cells #[.string o1.fs,.bool o1.fbad] 89 (0,0))::(100010,g1,.cells #[.string (⟨#[]⟩ : ByteArray),.string (⟨#[]⟩ : ByteArray)] 55 (0,0))::(1000,go0,.cells #[.pointer (some ⟨go1,0,none⟩)] 87 (0,0))::H,R,φ⟩ (fun W h=>(ok_front (t:=1001) (t':=1000) h rfl)) Tryz.call72 rfl rfl (c_conf_reader_name go1 o1 _ hx4) (fun _ _=>?_)
 refine g_sta _ (fun W h=>(ok_front (t:=1000) (t':=1001) h rfl))<|g_v rfl r_assign<|g_nil<|d_then<|c_seq<|ga_start (n:=7) ⟨w0,M,(100010,g1,.cells #[.string (⟨#[]⟩ : ByteArray),.string (⟨#[]⟩ : ByteArray)] 55 (0,0))::(1000,go0,.cells #[.pointer (some ⟨go1,0,none⟩)] 87 (0,0))::H,R,φ⟩ [6] #[false,false,false,false,false,false,false] (fun W h=>(h.dropH (t:=1001) rfl).phi (fun W hφ=>hφ)) mixed rfl rfl<|ga_v (i:=0) (bz 7 1) rfl (by kernel_rfl) (fun _ _ _ _ h=>h) rfl (r_move)<|ga_v (i:=1) (bz 7 3) rfl (by kernel_rfl) (fun _ _ _ _ h=>h) rfl (r_load (tag:=1000) rfl rfl rfl Tryz.isAgg87)<|ga_r (i:=2) (bz 7 7) rfl (by kernel_rfl) (by decide) rfl (r_load (tag:=1000) rfl rfl rfl Tryz.isAgg87) ?_
 replace hm:=bnd hm
 obtain ⟨⟨x22,x23⟩,hx24,hm⟩:=hm
 refine ga_cn (first:=#[]) (i:=3) (bz 7 15) rfl (by kernel_rfl) (by decide)  ⟨w0,M,(1000,go1,.cells #[.string x3.fs,.bool x3.fbad] 89 (0,0))::(100010,g1,.cells #[.string (⟨#[]⟩ : ByteArray),.string (⟨#[]⟩ : ByteArray)] 55 (0,0))::(1000,go0,.cells #[.pointer (some ⟨go1,0,none⟩)] 87 (0,0))::H,R,φ⟩ (fun W h=>(ok_front (t:=1001) (t':=1000) h rfl)) Tryz.call66 rfl rfl rfl (c_conf_reader_number 1 go1 x3 _ hx24) (fun _ W _ h=>((ok_front (t:=1000) (t':=1001) h rfl).dropH (t:=1001) rfl).phi (fun W hφ=>hφ)) (fun _ _=>?_)
 refine ga_sta _ (fun W h=>(ok_front (t:=1000) (t':=1001) h rfl)) ?_
 replace hm:=bnd hm
 obtain ⟨⟨x26,x27⟩,hx28,hm⟩:=hm
 refine ga_cn (first:=#[]) (i:=4) (bz 7 31) rfl (by kernel_rfl) (by decide)  ⟨w0,M,(1000,go1,.cells #[.string x23.fs,.bool x23.fbad] 89 (0,0))::(100010,g1,.cells #[.string (⟨#[]⟩ : ByteArray),.string (⟨#[]⟩ : ByteArray)] 55 (0,0))::(1000,go0,.cells #[.pointer (some ⟨go1,0,none⟩)] 87 (0,0))::H,R,φ⟩ (fun W h=>(ok_front (t:=1001) (t':=1000) h rfl)) Tryz.call69 rfl rfl rfl (c_conf_reader_take x22 go1 x23 _ hx28) (fun _ W _ h=>((ok_front (t:=1000) (t':=1001) h rfl).dropH (t:=1001) rfl).phi (fun W hφ=>hφ)) (fun _ _=>?_)
 refine ga_sta _ (fun W h=>(ok_front (t:=1000) (t':=1001) h rfl))<|ga_r (i:=5) (bz 7 63) rfl (by kernel_rfl) (by decide) rfl (r_build _ rfl (bld55_22 _ _))<|ga_lastL (i:=6) (tag:=100010) (bz 7 127) rfl (by kernel_rfl) (by decide) rfl rfl rfl rfl Tryz.sizeOf55 rfl rfl<|gz_done (by kernel_rfl)<|d_then ?_
 refine c_flat [(1,.pointer (some ⟨g1,0,none⟩))] ⟨rfl,trivial⟩ (fun u=>?_)
 refine c_sta ⟨w0,M,(1001,go1,.cells #[.string x27.fs,.bool x27.fbad] 89 (0,0))::(100010,g1,.cells #[.string x2,.string x26] 55 (0,0))::(1000,go0,.cells #[.pointer (some ⟨go1,0,none⟩)] 87 (0,0))::H,R,φ⟩ (fun _ h=>h)<|c_ret ?_
 cases hm
 exact d_retC () Tryz.results71 (res_agg (tag:=100010) rfl rfl Tryz.isAgg55 Tryz.sizeOf55 (res_nil rfl)) trivial (fun W h=>(ok_front (t:=1000) (t':=1000) (ok_front (t:=1001) (t':=1001) (h.dropH (t:=100010) rfl) rfl) rfl).phi (fun W hφ=>hφ)) (.inr rfl)
noncomputable def m_conf_list_70_j1  (l93 : List GAnchor) (s96 : ByteArray) (b97 : Bool) : Option ((List GAnchor)×Gconf_reader):=
  some (l93,(⟨s96,b97⟩ : Gconf_reader))
noncomputable def m_conf_list_70_s2 (x1 : Int) (l114 : List GAnchor) (i117 : Int) (s118 : ByteArray) (b119 : Bool) : Option (((List GAnchor)×Int×ByteArray×Bool) ⊕ (((List GAnchor)×ByteArray×Bool) ⊕ ((List GAnchor)×Gconf_reader))):=
  if i117 < x1 then
    if b119 = true then
      some (.inr (.inr (([] : List GAnchor),(⟨s118,b119⟩ : Gconf_reader))))
    else
      (m_conf_Load_c3 (⟨s118,b119⟩ : Gconf_reader)).bind fun (z142 : GAnchor×Gconf_reader)=>
      (app 32 l114 [z142.1]).bind fun l144=>
      some (.inl (l144,w64 (i117 + 1),z142.2.fs,z142.2.fbad))
  else
    some (.inr (.inl (l114,s118,b119)))
noncomputable def m_conf_list_70 (o0 : Gconf_reader) : Option ((List GAnchor)×Gconf_reader):=
  (m_conf_reader_number 1 o0).bind fun (z4 : Int×Gconf_reader)=>
  (loop (fun s=>m_conf_list_70_s2 z4.1 s.1 s.2.1 s.2.2.1 s.2.2.2) (([] : List GAnchor),0,z4.2.fs,z4.2.fbad)).bind fun e=>Sum.elim (fun e=>m_conf_list_70_j1 e.1 e.2.1 e.2.2) (fun x=>some x) e
theorem c_conf_list_70 {w0 : World} {M : Nat→Prop} {H : List (Nat×Nat×Obj)} {R : List (Nat×Row)} {φ : World→Prop} (go0 : Nat) (o0 : Gconf_reader) (go1 : Nat) (r : (List GAnchor)×Gconf_reader) (hm : m_conf_list_70 o0 = some r) :
    Cn Tryz.prog 70 #[.pointer (some ⟨go0,0,none⟩),.func (.func 71) #[] #[.pointer (some ⟨go1,0,none⟩)]] ⟨w0,M,(1000,go0,.cells #[.string o0.fs,.bool o0.fbad] 89 (0,0))::(1001,go1,.cells #[.pointer (some ⟨go0,0,none⟩)] 87 (0,0))::H,R,φ⟩ (fun x : Option Addr×Nat=>.slice x.1 r.1.length x.2) (fun x=>r.1.length ≤ x.2) (fun x=>⟨w0,M,(1000,go0,.cells #[.string r.2.fs,.bool r.2.fbad] 89 (0,0))::(1001,go1,.cells #[.pointer (some ⟨go0,0,none⟩)] 87 (0,0))::H,(2000,⟨.slice x.1 r.1.length x.2,55,2,r.1.length,r.1.flatMap GAnchor.enc⟩)::R,φ⟩):=by
 unfold m_conf_list_70 at hm
 refine cn_intro (fn:=Tryz.f70) (N:=21) Tryz.func70 rfl Tryz.ntmps70 rfl<|c_seq<|c_region<|g_v rfl r_assign<|g_nil<|d_then<|c_seq<|c_region<|g_v rfl r_assign<|g_nil ?_
 refine d_then<|c_seq<|c_seq<|c_region<|g_v rfl r_move ?_
 replace hm:=bnd hm
 obtain ⟨⟨x1,x2⟩,hx3,hm⟩:=hm
 refine g_cn ⟨w0,M,(1000,go0,.cells #[.string o0.fs,.bool o0.fbad] 89 (0,0))::(1001,go1,.cells #[.pointer (some ⟨go0,0,none⟩)] 87 (0,0))::H,R,φ⟩ (fun W h=>(ok_front (t:=1000) (t':=1000) h rfl)) Tryz.call66 rfl rfl (c_conf_reader_number 1 go0 o0 _ hx3) (fun _ _=>?_)
 refine g_sta _ (fun W h=>(ok_front (t:=1000) (t':=1000) h rfl))<|g_v rfl r_move<|g_nil<|d_then<|c_sta _ (fun W h=>nilR h 16 55 2) ?_
 refine c_cut (ι:=(List GAnchor)×ByteArray×Bool×Option Addr×Nat) [5] (fun ⟨l93,s96,b97,A94,c95⟩=>[(5,.slice A94 l93.length c95)]) (fun ⟨l93,s96,b97,A94,c95⟩=>⟨w0,M,(1000,go0,.cells #[.string s96,.bool b97] 89 (0,0))::(1001,go1,.cells #[.pointer (some ⟨go0,0,none⟩)] 87 (0,0))::H,(16,⟨.slice A94 l93.length c95,55,2,l93.length,l93.flatMap GAnchor.enc⟩)::R,φ⟩) (fun ⟨l93,s96,b97,A94,c95⟩=>m_conf_list_70_j1 l93 s96 b97 = some r∧l93.length ≤ c95) ?_ (fun ⟨l93,s96,b97,A94,c95⟩ u ⟨hm,hc95⟩=>?_)
 ·
  refine c_block ?_
  replace hm:=bnd hm
  obtain ⟨out2,hl2,hr2⟩:=hm
  obtain ⟨n136',hl2⟩:=loop_lp hl2
  refine c_loopU (ι:=Nat×(List GAnchor)×Int×ByteArray×Bool×Option Addr×Nat) [0,1,5,7,8] (fun ⟨n136,l114,i117,s118,b119,A115,c116⟩=>[(5,.slice A115 l114.length c116),(8,.int .i64 i117)]) (fun ⟨n136,l114,i117,s118,b119,A115,c116⟩=>⟨w0,M,(1000,go0,.cells #[.string s118,.bool b119] 89 (0,0))::(1001,go1,.cells #[.pointer (some ⟨go0,0,none⟩)] 87 (0,0))::H,(16,⟨.slice A115 l114.length c116,55,2,l114.length,l114.flatMap GAnchor.enc⟩)::R,φ⟩) (fun ⟨n136,l114,i117,s118,b119,A115,c116⟩=>Lp (fun s=>m_conf_list_70_s2 x1 s.1 s.2.1 s.2.2.1 s.2.2.2) n136 (l114,i117,s118,b119) out2∧l114.length ≤ c116) (fun ⟨n136,l114,i117,s118,b119,A115,c116⟩=>n136) (n136',([] : List GAnchor),0,x2.fs,x2.fbad,none,0) ⟨hl2,(Nat.le_refl 0)⟩ ⟨rfl,rfl,rfl,rfl,rfl,trivial⟩ (fun W h=>h.phi (fun W hφ=>hφ)) (fun ⟨n136,l114,i117,s118,b119,A115,c116⟩ u ⟨hlp,hc116⟩=>?_)
  obtain ⟨o2,hm,hnx2⟩:=lp_step hlp
  clear hlp
  replace hm : m_conf_list_70_s2 x1 l114 i117 s118 b119 = some o2:=hm
  unfold m_conf_list_70_s2 at hm
  refine c_flat [(0,.pointer (some ⟨go0,0,none⟩)),(1,.func (.func 71) #[] #[.pointer (some ⟨go1,0,none⟩)]),(5,.slice A115 l114.length c116),(7,.int .i64 x1),(8,.int .i64 i117)] ⟨rfl,rfl,rfl,rfl,rfl,trivial⟩ (fun u=>?_)
  refine c_sta ⟨w0,M,(1000,go0,.cells #[.string s118,.bool b119] 89 (0,0))::(1001,go1,.cells #[.pointer (some ⟨go0,0,none⟩)] 87 (0,0))::H,(16,⟨.slice A115 l114.length c116,55,2,l114.length,l114.flatMap GAnchor.enc⟩)::R,φ⟩ (fun _ h=>h)<|c_seq<|c_region<|g_v rfl (r_lss rfl rfl)<|g_nil<|d_then<|c_seq ?_
  refine c_cond rfl (fun h137=>?_) (fun h137=>?_)
  ·
   replace hm:=ite_t hm (of_decide_eq_true h137)
   refine c_skip<|d_then<|c_seq<|c_block<|c_seq<|c_seq<|c_region<|g_v rfl r_move<|g_v rfl (r_nilck rfl)<|g_v rfl (r_field (n:=1) Tryz.underlying89 rfl Tryz.sizeOf4 rfl rfl) ?_
   refine g_v rfl (r_load (tag:=1000) rfl rfl rfl Tryz.isAgg4)<|g_nil<|d_then ?_
   refine c_cond rfl (fun h138=>?_) (fun h138=>?_)
   ·
    replace hm:=ite_t hm h138
    refine c_seq<|c_region<|g_v rfl r_assign<|g_nil<|d_then<|c_ret<|d_ret_then<|d_ret_block<|d_ret_then<|d_ret_then ?_
    refine d_ret_block<|d_ret_then<|d_ret_then ?_
    replace hm:=nx_out (C:=(fun e : ((List GAnchor)×ByteArray×Bool) ⊕ ((List GAnchor)×Gconf_reader)=>Sum.elim (fun e=>m_conf_list_70_j1 e.1 e.2.1 e.2.2) (fun x=>some x) e = some r)) hm hnx2 hr2
    replace hm : some (([] : List GAnchor),(⟨s118,b119⟩ : Gconf_reader)) = some r:=hm
    cases hm
    refine d_sta _ (fun W h=>nilR h 21 55 2)<|d_sta _ (fun W h=>ok_frontR (t:=21) (t':=2000) h rfl) ?_
    exact d_retC (none,0) Tryz.results70 (res_tmp (res_nil rfl)) (Nat.le_refl 0) (fun W h=>(h.dropR (t:=16) rfl).phi (fun W hφ=>hφ)) (.inr rfl)
   replace hm:=ite_f hm (bool_nt h138)
   refine c_skip<|d_then<|c_region<|g_v rfl r_move<|g_v rfl r_move ?_
   replace hm:=bnd hm
   obtain ⟨⟨x139,x140⟩,hx141,hm⟩:=hm
   refine g_cnv ⟨w0,M,(1000,go1,.cells #[.pointer (some ⟨go0,0,none⟩)] 87 (0,0))::(1001,go0,.cells #[.string s118,.bool b119] 89 (0,0))::H,(16,⟨.slice A115 l114.length c116,55,2,l114.length,l114.flatMap GAnchor.enc⟩)::R,φ⟩ (fun W h=>(ok_front (t:=9001) (t':=1000) (ok_front (t:=9000) (t':=1001) (ok_front (t:=1001) (t':=9001) (ok_front (t:=1000) (t':=9000) h rfl) rfl) rfl) rfl)) Tryz.call71 rfl rfl rfl (c_conf_Load_c3 go1 go0 (⟨s118,b119⟩ : Gconf_reader) _ hx141) (fun _ _=>?_)
   refine g_sta _ (fun W h=>(ok_front (t:=9001) (t':=1001) (ok_front (t:=9000) (t':=1000) (ok_front (t:=1000) (t':=9001) (ok_front (t:=1001) (t':=9000) h rfl) rfl) rfl) rfl)) ?_
   refine g_e rfl (e_lit (tag:=100170) (l:=[x139]) (enc:=GAnchor.enc) (sz:=2) rfl Tryz.underlying27 (lit55_23 _ _) rfl rfl (fun _=>rfl)) (fun g143 _=>?_)
   replace hm:=bnd hm
   obtain ⟨l144,hl144,hm⟩:=hm
   refine g_e rfl (e_appR (enc:=GAnchor.enc) (l:=l114) (l1:=[x139]) (l2:=l144) (tag:=16) Tryz.underlying27 inf55_14 rfl (by decide) (by decide) (fun _=>rfl) (fun _=>rfl) rfl hc116 rfl rfl (fun W hS=>rowCl (tag:=100170) rfl W hS) hl144) (fun ⟨A145,c146⟩ hc146=>?_)
   refine g_v rfl r_assign<|g_nil<|d_normal_block<|d_then ?_
   refine c_flat [(0,.pointer (some ⟨go0,0,none⟩)),(1,.func (.func 71) #[] #[.pointer (some ⟨go1,0,none⟩)]),(5,.slice A145 l144.length c146),(7,.int .i64 x1),(8,.int .i64 i117)] ⟨rfl,rfl,rfl,rfl,rfl,trivial⟩ (fun u=>?_)
   refine c_sta ⟨w0,M,(1001,go1,.cells #[.pointer (some ⟨go0,0,none⟩)] 87 (0,0))::(1000,go0,.cells #[.string x140.fs,.bool x140.fbad] 89 (0,0))::H,(100170,⟨.slice (some ⟨g143,0,none⟩) [x139].length 1,55,2,[x139].length,[x139].flatMap GAnchor.enc⟩)::(16,⟨.slice A145 l144.length c146,55,2,l144.length,l144.flatMap GAnchor.enc⟩)::R,φ⟩ (fun _ h=>h)<|c_region<|g_v rfl (r_add rfl rfl rfl)<|g_v rfl r_move<|g_nil ?_
   obtain ⟨n147,hn147,hlp⟩:=nx_inl hm hnx2
   exact d_round (n147,l144,w64 (i117 + 1),x140.fs,x140.fbad,A145,c146) ⟨hlp,hc146⟩ hn147 ⟨rfl,rfl,rfl,rfl,rfl,trivial⟩ (fun W h=>(ok_front (t:=1000) (t':=1000) (ok_front (t:=1001) (t':=1001) (h.dropR (t:=100170) rfl) rfl) rfl).phi (fun W hφ=>hφ))
  replace hm:=ite_f hm (of_decide_eq_false h137)
  refine c_exit<|d_exit_then<|d_exit_then<|d_exit_block ?_
  replace hm:=nx_out (C:=(fun e : ((List GAnchor)×ByteArray×Bool) ⊕ ((List GAnchor)×Gconf_reader)=>Sum.elim (fun e=>m_conf_list_70_j1 e.1 e.2.1 e.2.2) (fun x=>some x) e = some r)) hm hnx2 hr2
  exact d_round (l114,s118,b119,A115,c116) ⟨hm,hc116⟩ Nat.zero_lt_one ⟨rfl,trivial⟩ (fun W h=>h.phi (fun W hφ=>hφ))
 unfold m_conf_list_70_j1 at hm
 refine d_flat [(5,.slice A94 l93.length c95)] ⟨rfl,trivial⟩ (fun u=>?_)
 refine d_sta ⟨w0,M,(1000,go0,.cells #[.string s96,.bool b97] 89 (0,0))::(1001,go1,.cells #[.pointer (some ⟨go0,0,none⟩)] 87 (0,0))::H,(16,⟨.slice A94 l93.length c95,55,2,l93.length,l93.flatMap GAnchor.enc⟩)::R,φ⟩ (fun _ h=>h)<|d_then<|c_seq<|c_region<|g_v rfl r_move<|g_v rfl r_assign<|g_nil<|d_then<|c_ret ?_
 cases hm
 refine d_sta _ (fun W h=>ok_frontR (t:=16) (t':=2000) h rfl) ?_
 exact d_retC (A94,c95) Tryz.results70 (res_tmp (res_nil rfl)) hc95 (fun W h=>h.phi (fun W hφ=>hφ)) (.inr rfl)
noncomputable def m_conf_Load_c4 (o1 : Gconf_reader) : Option (GFlush×Gconf_reader):=
  (m_conf_reader_number 8 o1).bind fun (z5 : Int×Gconf_reader)=>
  (m_conf_reader_name z5.2).bind fun (z9 : ByteArray×Gconf_reader)=>
  some ((⟨z5.1,z9.1⟩ : GFlush),z9.2)
theorem c_conf_Load_c4 {w0 : World} {M : Nat→Prop} {H : List (Nat×Nat×Obj)} {R : List (Nat×Row)} {φ : World→Prop} (go0 : Nat) (go1 : Nat) (o1 : Gconf_reader) (r : GFlush×Gconf_reader) (hm : m_conf_Load_c4 o1 = some r) :
    Cn Tryz.prog 74 #[.pointer (some ⟨go0,0,none⟩)] ⟨w0,M,(1000,go0,.cells #[.pointer (some ⟨go1,0,none⟩)] 87 (0,0))::(1001,go1,.cells #[.string o1.fs,.bool o1.fbad] 89 (0,0))::H,R,φ⟩ (fun x : Unit=>.agg #[.int .i64 r.1.fEpoch,.string r.1.fZone]) (fun x=>True) (fun x=>⟨w0,M,(1000,go0,.cells #[.pointer (some ⟨go1,0,none⟩)] 87 (0,0))::(1001,go1,.cells #[.string r.2.fs,.bool r.2.fbad] 89 (0,0))::H,R,φ⟩):=by
 unfold m_conf_Load_c4 at hm
 refine cn_intro (fn:=Tryz.f74) (N:=9) Tryz.func74 rfl Tryz.ntmps74 rfl<|c_seq<|c_region ?_
 refine g_e rfl (e_alloc 100010 Tryz.zeroValue48) (fun g1 _=>?_)
 refine g_nil<|d_then<|c_seq<|c_region<|g_v rfl (r_load (tag:=1000) rfl rfl rfl Tryz.isAgg87) ?_
 replace hm:=bnd hm
 obtain ⟨⟨x2,x3⟩,hx4,hm⟩:=hm
 refine g_cn ⟨w0,M,(1000,go1,.cells #[.string o1.fs,.bool o1.fbad] 89 (0,0))::(100010,g1,.cells #[.int .i64 0,.string (⟨#[]⟩ : ByteArray)] 48 (0,0))::(1000,go0,.cells #[.pointer (some ⟨go1,0,none⟩)] 87 (0,0))::H,R,φ⟩ (fun W h=>(ok_front (t:=1001) (t':=1000) h rfl)) Tryz.call66 rfl rfl (c_conf_reader_number 8 go1 o1 _ hx4) (fun _ _=>?_)
 refine g_sta _ (fun W h=>(ok_front (t:=1000) (t':=1001) h rfl))<|g_v rfl r_assign<|g_nil<|d_then<|c_seq<|c_region<|g_v rfl r_move<|g_v rfl (r_load (tag:=1000) rfl rfl rfl Tryz.isAgg87) ?_
 replace hm:=bnd hm
 obtain ⟨⟨x6,x7⟩,hx8,hm⟩:=hm
 refine g_cn ⟨w0,M,(1000,go1,.cells #[.string x3.fs,.bool x3.fbad] 89 (0,0))::(100010,g1,.cells #[.int .i64 0,.string (⟨#[]⟩ : ByteArray)] 48 (0,0))::(1000,go0,.cells #[.pointer (some ⟨go1,0,none⟩)] 87 (0,0))::H,R,φ⟩ (fun W h=>(ok_front (t:=1001) (t':=1000) h rfl)) Tryz.call72 rfl rfl (c_conf_reader_name go1 x3 _ hx8) (fun _ _=>?_)
 refine g_sta _ (fun W h=>(ok_front (t:=1000) (t':=1001) h rfl))<|g_v rfl (r_build _ rfl (bld48_18 _ _))<|g_storeL (tag:=100010) rfl rfl rfl rfl Tryz.sizeOf48 rfl rfl<|g_nil<|d_then ?_
 refine c_flat [(1,.pointer (some ⟨g1,0,none⟩))] ⟨rfl,trivial⟩ (fun u=>?_)
 refine c_sta ⟨w0,M,(1001,go1,.cells #[.string x7.fs,.bool x7.fbad] 89 (0,0))::(100010,g1,.cells #[.int .i64 x2,.string x6] 48 (0,0))::(1000,go0,.cells #[.pointer (some ⟨go1,0,none⟩)] 87 (0,0))::H,R,φ⟩ (fun _ h=>h)<|c_ret ?_
 cases hm
 exact d_retC () Tryz.results74 (res_agg (tag:=100010) rfl rfl Tryz.isAgg48 Tryz.sizeOf48 (res_nil rfl)) trivial (fun W h=>(ok_front (t:=1000) (t':=1000) (ok_front (t:=1001) (t':=1001) (h.dropH (t:=100010) rfl) rfl) rfl).phi (fun W hφ=>hφ)) (.inr rfl)
noncomputable def m_conf_list_73_j1  (l93 : List GFlush) (s96 : ByteArray) (b97 : Bool) : Option ((List GFlush)×Gconf_reader):=
  some (l93,(⟨s96,b97⟩ : Gconf_reader))
noncomputable def m_conf_list_73_s2 (x1 : Int) (l114 : List GFlush) (i117 : Int) (s118 : ByteArray) (b119 : Bool) : Option (((List GFlush)×Int×ByteArray×Bool) ⊕ (((List GFlush)×ByteArray×Bool) ⊕ ((List GFlush)×Gconf_reader))):=
  if i117 < x1 then
    if b119 = true then
      some (.inr (.inr (([] : List GFlush),(⟨s118,b119⟩ : Gconf_reader))))
    else
      (m_conf_Load_c4 (⟨s118,b119⟩ : Gconf_reader)).bind fun (z142 : GFlush×Gconf_reader)=>
      (app 24 l114 [z142.1]).bind fun l144=>
      some (.inl (l144,w64 (i117 + 1),z142.2.fs,z142.2.fbad))
  else
    some (.inr (.inl (l114,s118,b119)))
noncomputable def m_conf_list_73 (o0 : Gconf_reader) : Option ((List GFlush)×Gconf_reader):=
  (m_conf_reader_number 1 o0).bind fun (z4 : Int×Gconf_reader)=>
  (loop (fun s=>m_conf_list_73_s2 z4.1 s.1 s.2.1 s.2.2.1 s.2.2.2) (([] : List GFlush),0,z4.2.fs,z4.2.fbad)).bind fun e=>Sum.elim (fun e=>m_conf_list_73_j1 e.1 e.2.1 e.2.2) (fun x=>some x) e
theorem c_conf_list_73 {w0 : World} {M : Nat→Prop} {H : List (Nat×Nat×Obj)} {R : List (Nat×Row)} {φ : World→Prop} (go0 : Nat) (o0 : Gconf_reader) (go1 : Nat) (r : (List GFlush)×Gconf_reader) (hm : m_conf_list_73 o0 = some r) :
    Cn Tryz.prog 73 #[.pointer (some ⟨go0,0,none⟩),.func (.func 74) #[] #[.pointer (some ⟨go1,0,none⟩)]] ⟨w0,M,(1000,go0,.cells #[.string o0.fs,.bool o0.fbad] 89 (0,0))::(1001,go1,.cells #[.pointer (some ⟨go0,0,none⟩)] 87 (0,0))::H,R,φ⟩ (fun x : Option Addr×Nat=>.slice x.1 r.1.length x.2) (fun x=>r.1.length ≤ x.2) (fun x=>⟨w0,M,(1000,go0,.cells #[.string r.2.fs,.bool r.2.fbad] 89 (0,0))::(1001,go1,.cells #[.pointer (some ⟨go0,0,none⟩)] 87 (0,0))::H,(2000,⟨.slice x.1 r.1.length x.2,48,2,r.1.length,r.1.flatMap GFlush.enc⟩)::R,φ⟩):=by
 unfold m_conf_list_73 at hm
 refine cn_intro (fn:=Tryz.f73) (N:=21) Tryz.func73 rfl Tryz.ntmps73 rfl<|c_seq<|c_region<|g_v rfl r_assign<|g_nil<|d_then<|c_seq<|c_region<|g_v rfl r_assign<|g_nil ?_
 refine d_then<|c_seq<|c_seq<|c_region<|g_v rfl r_move ?_
 replace hm:=bnd hm
 obtain ⟨⟨x1,x2⟩,hx3,hm⟩:=hm
 refine g_cn ⟨w0,M,(1000,go0,.cells #[.string o0.fs,.bool o0.fbad] 89 (0,0))::(1001,go1,.cells #[.pointer (some ⟨go0,0,none⟩)] 87 (0,0))::H,R,φ⟩ (fun W h=>(ok_front (t:=1000) (t':=1000) h rfl)) Tryz.call66 rfl rfl (c_conf_reader_number 1 go0 o0 _ hx3) (fun _ _=>?_)
 refine g_sta _ (fun W h=>(ok_front (t:=1000) (t':=1000) h rfl))<|g_v rfl r_move<|g_nil<|d_then<|c_sta _ (fun W h=>nilR h 16 48 2) ?_
 refine c_cut (ι:=(List GFlush)×ByteArray×Bool×Option Addr×Nat) [5] (fun ⟨l93,s96,b97,A94,c95⟩=>[(5,.slice A94 l93.length c95)]) (fun ⟨l93,s96,b97,A94,c95⟩=>⟨w0,M,(1000,go0,.cells #[.string s96,.bool b97] 89 (0,0))::(1001,go1,.cells #[.pointer (some ⟨go0,0,none⟩)] 87 (0,0))::H,(16,⟨.slice A94 l93.length c95,48,2,l93.length,l93.flatMap GFlush.enc⟩)::R,φ⟩) (fun ⟨l93,s96,b97,A94,c95⟩=>m_conf_list_73_j1 l93 s96 b97 = some r∧l93.length ≤ c95) ?_ (fun ⟨l93,s96,b97,A94,c95⟩ u ⟨hm,hc95⟩=>?_)
 ·
  refine c_block ?_
  replace hm:=bnd hm
  obtain ⟨out2,hl2,hr2⟩:=hm
  obtain ⟨n136',hl2⟩:=loop_lp hl2
  refine c_loopU (ι:=Nat×(List GFlush)×Int×ByteArray×Bool×Option Addr×Nat) [0,1,5,7,8] (fun ⟨n136,l114,i117,s118,b119,A115,c116⟩=>[(5,.slice A115 l114.length c116),(8,.int .i64 i117)]) (fun ⟨n136,l114,i117,s118,b119,A115,c116⟩=>⟨w0,M,(1000,go0,.cells #[.string s118,.bool b119] 89 (0,0))::(1001,go1,.cells #[.pointer (some ⟨go0,0,none⟩)] 87 (0,0))::H,(16,⟨.slice A115 l114.length c116,48,2,l114.length,l114.flatMap GFlush.enc⟩)::R,φ⟩) (fun ⟨n136,l114,i117,s118,b119,A115,c116⟩=>Lp (fun s=>m_conf_list_73_s2 x1 s.1 s.2.1 s.2.2.1 s.2.2.2) n136 (l114,i117,s118,b119) out2∧l114.length ≤ c116) (fun ⟨n136,l114,i117,s118,b119,A115,c116⟩=>n136) (n136',([] : List GFlush),0,x2.fs,x2.fbad,none,0) ⟨hl2,(Nat.le_refl 0)⟩ ⟨rfl,rfl,rfl,rfl,rfl,trivial⟩ (fun W h=>h.phi (fun W hφ=>hφ)) (fun ⟨n136,l114,i117,s118,b119,A115,c116⟩ u ⟨hlp,hc116⟩=>?_)
  obtain ⟨o2,hm,hnx2⟩:=lp_step hlp
  clear hlp
  replace hm : m_conf_list_73_s2 x1 l114 i117 s118 b119 = some o2:=hm
  unfold m_conf_list_73_s2 at hm
  refine c_flat [(0,.pointer (some ⟨go0,0,none⟩)),(1,.func (.func 74) #[] #[.pointer (some ⟨go1,0,none⟩)]),(5,.slice A115 l114.length c116),(7,.int .i64 x1),(8,.int .i64 i117)] ⟨rfl,rfl,rfl,rfl,rfl,trivial⟩ (fun u=>?_)
  refine c_sta ⟨w0,M,(1000,go0,.cells #[.string s118,.bool b119] 89 (0,0))::(1001,go1,.cells #[.pointer (some ⟨go0,0,none⟩)] 87 (0,0))::H,(16,⟨.slice A115 l114.length c116,48,2,l114.length,l114.flatMap GFlush.enc⟩)::R,φ⟩ (fun _ h=>h)<|c_seq<|c_region<|g_v rfl (r_lss rfl rfl)<|g_nil<|d_then<|c_seq ?_
  refine c_cond rfl (fun h137=>?_) (fun h137=>?_)
  ·
   replace hm:=ite_t hm (of_decide_eq_true h137)
   refine c_skip<|d_then<|c_seq<|c_block<|c_seq<|c_seq<|c_region<|g_v rfl r_move<|g_v rfl (r_nilck rfl)<|g_v rfl (r_field (n:=1) Tryz.underlying89 rfl Tryz.sizeOf4 rfl rfl) ?_
   refine g_v rfl (r_load (tag:=1000) rfl rfl rfl Tryz.isAgg4)<|g_nil<|d_then ?_
   refine c_cond rfl (fun h138=>?_) (fun h138=>?_)
   ·
    replace hm:=ite_t hm h138
    refine c_seq<|c_region<|g_v rfl r_assign<|g_nil<|d_then<|c_ret<|d_ret_then<|d_ret_block<|d_ret_then<|d_ret_then ?_
    refine d_ret_block<|d_ret_then<|d_ret_then ?_
    replace hm:=nx_out (C:=(fun e : ((List GFlush)×ByteArray×Bool) ⊕ ((List GFlush)×Gconf_reader)=>Sum.elim (fun e=>m_conf_list_73_j1 e.1 e.2.1 e.2.2) (fun x=>some x) e = some r)) hm hnx2 hr2
    replace hm : some (([] : List GFlush),(⟨s118,b119⟩ : Gconf_reader)) = some r:=hm
    cases hm
    refine d_sta _ (fun W h=>nilR h 21 48 2)<|d_sta _ (fun W h=>ok_frontR (t:=21) (t':=2000) h rfl) ?_
    exact d_retC (none,0) Tryz.results73 (res_tmp (res_nil rfl)) (Nat.le_refl 0) (fun W h=>(h.dropR (t:=16) rfl).phi (fun W hφ=>hφ)) (.inr rfl)
   replace hm:=ite_f hm (bool_nt h138)
   refine c_skip<|d_then<|c_region<|g_v rfl r_move<|g_v rfl r_move ?_
   replace hm:=bnd hm
   obtain ⟨⟨x139,x140⟩,hx141,hm⟩:=hm
   refine g_cnv ⟨w0,M,(1000,go1,.cells #[.pointer (some ⟨go0,0,none⟩)] 87 (0,0))::(1001,go0,.cells #[.string s118,.bool b119] 89 (0,0))::H,(16,⟨.slice A115 l114.length c116,48,2,l114.length,l114.flatMap GFlush.enc⟩)::R,φ⟩ (fun W h=>(ok_front (t:=9001) (t':=1000) (ok_front (t:=9000) (t':=1001) (ok_front (t:=1001) (t':=9001) (ok_front (t:=1000) (t':=9000) h rfl) rfl) rfl) rfl)) Tryz.call74 rfl rfl rfl (c_conf_Load_c4 go1 go0 (⟨s118,b119⟩ : Gconf_reader) _ hx141) (fun _ _=>?_)
   refine g_sta _ (fun W h=>(ok_front (t:=9001) (t':=1001) (ok_front (t:=9000) (t':=1000) (ok_front (t:=1000) (t':=9001) (ok_front (t:=1001) (t':=9000) h rfl) rfl) rfl) rfl)) ?_
   refine g_e rfl (e_lit (tag:=100170) (l:=[x139]) (enc:=GFlush.enc) (sz:=2) rfl Tryz.underlying28 (lit48_19 _ _) rfl rfl (fun _=>rfl)) (fun g143 _=>?_)
   replace hm:=bnd hm
   obtain ⟨l144,hl144,hm⟩:=hm
   refine g_e rfl (e_appR (enc:=GFlush.enc) (l:=l114) (l1:=[x139]) (l2:=l144) (tag:=16) Tryz.underlying28 inf48_16 rfl (by decide) (by decide) (fun _=>rfl) (fun _=>rfl) rfl hc116 rfl rfl (fun W hS=>rowCl (tag:=100170) rfl W hS) hl144) (fun ⟨A145,c146⟩ hc146=>?_)
   refine g_v rfl r_assign<|g_nil<|d_normal_block<|d_then ?_
   refine c_flat [(0,.pointer (some ⟨go0,0,none⟩)),(1,.func (.func 74) #[] #[.pointer (some ⟨go1,0,none⟩)]),(5,.slice A145 l144.length c146),(7,.int .i64 x1),(8,.int .i64 i117)] ⟨rfl,rfl,rfl,rfl,rfl,trivial⟩ (fun u=>?_)
   refine c_sta ⟨w0,M,(1001,go1,.cells #[.pointer (some ⟨go0,0,none⟩)] 87 (0,0))::(1000,go0,.cells #[.string x140.fs,.bool x140.fbad] 89 (0,0))::H,(100170,⟨.slice (some ⟨g143,0,none⟩) [x139].length 1,48,2,[x139].length,[x139].flatMap GFlush.enc⟩)::(16,⟨.slice A145 l144.length c146,48,2,l144.length,l144.flatMap GFlush.enc⟩)::R,φ⟩ (fun _ h=>h)<|c_region<|g_v rfl (r_add rfl rfl rfl)<|g_v rfl r_move<|g_nil ?_
   obtain ⟨n147,hn147,hlp⟩:=nx_inl hm hnx2
   exact d_round (n147,l144,w64 (i117 + 1),x140.fs,x140.fbad,A145,c146) ⟨hlp,hc146⟩ hn147 ⟨rfl,rfl,rfl,rfl,rfl,trivial⟩ (fun W h=>(ok_front (t:=1000) (t':=1000) (ok_front (t:=1001) (t':=1001) (h.dropR (t:=100170) rfl) rfl) rfl).phi (fun W hφ=>hφ))
  replace hm:=ite_f hm (of_decide_eq_false h137)
  refine c_exit<|d_exit_then<|d_exit_then<|d_exit_block ?_
  replace hm:=nx_out (C:=(fun e : ((List GFlush)×ByteArray×Bool) ⊕ ((List GFlush)×Gconf_reader)=>Sum.elim (fun e=>m_conf_list_73_j1 e.1 e.2.1 e.2.2) (fun x=>some x) e = some r)) hm hnx2 hr2
  exact d_round (l114,s118,b119,A115,c116) ⟨hm,hc116⟩ Nat.zero_lt_one ⟨rfl,trivial⟩ (fun W h=>h.phi (fun W hφ=>hφ))
 unfold m_conf_list_73_j1 at hm
 refine d_flat [(5,.slice A94 l93.length c95)] ⟨rfl,trivial⟩ (fun u=>?_)
 refine d_sta ⟨w0,M,(1000,go0,.cells #[.string s96,.bool b97] 89 (0,0))::(1001,go1,.cells #[.pointer (some ⟨go0,0,none⟩)] 87 (0,0))::H,(16,⟨.slice A94 l93.length c95,48,2,l93.length,l93.flatMap GFlush.enc⟩)::R,φ⟩ (fun _ h=>h)<|d_then<|c_seq<|c_region<|g_v rfl r_move<|g_v rfl r_assign<|g_nil<|d_then<|c_ret ?_
 cases hm
 refine d_sta _ (fun W h=>ok_frontR (t:=16) (t':=2000) h rfl) ?_
 exact d_retC (A94,c95) Tryz.results73 (res_tmp (res_nil rfl)) hc95 (fun W h=>h.phi (fun W hφ=>hφ)) (.inr rfl)
noncomputable def m_conf_Right_c1 (p0 : Int) : Option Int:=
  some p0
theorem c_conf_Right_c1 {w0 : World} {M : Nat→Prop} {H : List (Nat×Nat×Obj)} {R : List (Nat×Row)} {φ : World→Prop} (p0 : Int) (r : Int) (hm : m_conf_Right_c1 p0 = some r) :
    Cn Tryz.prog 44 #[.int .i64 p0] ⟨w0,M,H,R,φ⟩ (fun x : Unit=>.int .i64 r) (fun x=>True) (fun x=>⟨w0,M,H,R,φ⟩):=by
 unfold m_conf_Right_c1 at hm
 refine cn_intro (fn:=Tryz.f44) (N:=4) Tryz.func44 rfl Tryz.ntmps44 rfl<|c_seq<|c_region<|g_v rfl r_assign<|g_nil<|d_then<|c_seq<|c_region<|g_v rfl r_move<|g_v rfl r_assign ?_
 refine g_nil<|d_then<|c_ret ?_
 cases hm
 exact d_retC () Tryz.results44 (res_tmp (res_nil rfl)) trivial (fun W h=>ok_pre (H1:=[]) (R1:=[]) h (fun W hφ=>hφ)) (.inr rfl)
noncomputable def m_conf_all_45_j1 (p0 : List Int) (p1 : Int) : Option Bool:=
  some (decide ((p0.length : Int) ≤ p1))
noncomputable def m_conf_all_45_s2 (p0 : List Int) (i76 : Int) : Option (Int ⊕ (Unit ⊕ Bool)):=
  if i76 < (p0.length : Int) then
    (at_ p0 i76).bind fun x122=>
    (m_conf_node x122).bind fun x150=>
    if x150 = true then
      if 0 < i76 then
        (at_ p0 (w64 (i76 - 1))).bind fun x154=>
        (m_conf_Right_c1 x122).bind fun x158=>
        (m_conf_Right_c1 x154).bind fun x160=>
        if x158 ≤ x160 then
          some (.inr (.inr false))
        else
          some (.inl (w64 (i76 + 1)))
      else
        some (.inl (w64 (i76 + 1)))
    else
      some (.inr (.inr false))
  else
    some (.inr (.inl ()))
noncomputable def m_conf_all_45 (p0 : List Int) (p1 : Int) : Option Bool:=
  (loop (fun s=>m_conf_all_45_s2 p0 s) 0).bind fun e=>Sum.elim (fun e=>m_conf_all_45_j1 p0 p1) (fun x=>some x) e
theorem c_conf_all_45 {w0 : World} {M : Nat→Prop} {H : List (Nat×Nat×Obj)} {R : List (Nat×Row)} {φ : World→Prop} (p0 : List Int) (Ap0_0 : Option Addr) (cp0_0 : Nat) (hcp0_0 : p0.length ≤ cp0_0) (fp0_0 : ∀ W,(Sta.mk w0 M H R φ).ok W→Cl W Ap0_0 (p0.flatMap (fun x : Int=>[Value.int .i64 x]))) (p1 : Int) (r : Bool) (hm : m_conf_all_45 p0 p1 = some r) :
    Cn Tryz.prog 45 #[.slice Ap0_0 p0.length cp0_0,.int .i64 p1,.func (.func 44) #[] #[],.func (.func 46) #[] #[]] ⟨w0,M,H,R,φ⟩ (fun x : Unit=>.bool r) (fun x=>True) (fun x=>⟨w0,M,H,R,φ⟩):=by
 unfold m_conf_all_45 at hm
 refine cn_intro (fn:=Tryz.f45) (N:=44) Tryz.func45 rfl Tryz.ntmps45 rfl<|c_seq<|c_region<|g_v rfl r_assign<|g_nil<|d_then<|c_seq<|c_seq<|c_region<|g_v rfl r_move ?_
 refine g_v rfl (r_lenL Tryz.underlying25 rfl)<|g_v rfl r_move<|g_nil<|d_then ?_
 refine c_cut (ι:=Unit) [0,1] (fun _=>[]) (fun _=>⟨w0,M,H,R,φ⟩) (fun _=>m_conf_all_45_j1 p0 p1 = some r) ?_ (fun _ u hm=>?_)
 ·
  refine c_block ?_
  replace hm:=bnd hm
  obtain ⟨out2,hl2,hr2⟩:=hm
  obtain ⟨n120',hl2⟩:=loop_lp hl2
  refine c_loopU (ι:=Nat×Int) [0,1,2,3,11,12,13] (fun ⟨n120,i76⟩=>[(13,.int .i64 i76)]) (fun ⟨n120,i76⟩=>⟨w0,M,H,R,φ⟩) (fun ⟨n120,i76⟩=>Lp (fun s=>m_conf_all_45_s2 p0 s) n120 i76 out2) (fun ⟨n120,i76⟩=>n120) (n120',0) hl2 ⟨rfl,rfl,rfl,rfl,rfl,rfl,rfl,trivial⟩ (fun W h=>h.phi (fun W hφ=>hφ)) (fun ⟨n120,i76⟩ u hlp=>?_)
  obtain ⟨o2,hm,hnx2⟩:=lp_step hlp
  clear hlp
  replace hm : m_conf_all_45_s2 p0 i76 = some o2:=hm
  unfold m_conf_all_45_s2 at hm
  refine c_flat [(0,.slice Ap0_0 p0.length cp0_0),(1,.int .i64 p1),(2,.func (.func 44) #[] #[]),(3,.func (.func 46) #[] #[]),(11,.slice Ap0_0 p0.length cp0_0),(12,.int .i64 (p0.length : Int)),(13,.int .i64 i76)] ⟨rfl,rfl,rfl,rfl,rfl,rfl,rfl,trivial⟩ (fun u=>?_)
  refine c_sta ⟨w0,M,H,R,φ⟩ (fun _ h=>h)<|c_seq<|c_region<|g_v rfl (r_lss rfl rfl)<|g_nil<|d_then<|c_seq ?_
  refine c_cond rfl (fun h121=>?_) (fun h121=>?_)
  ·
   replace hm:=ite_t hm (of_decide_eq_true h121)
   refine c_skip<|d_then<|c_seq<|c_block<|c_seq<|c_region<|g_v rfl r_move ?_
   replace hm:=bnd hm
   obtain ⟨x122,hx122,hm⟩:=hm
   refine g_know _ (fun W hS=>cl_at (p:=(Sta.mk w0 M H R φ).ok) (sz:=1) (fun _=>rfl) (by decide) (ok_pre (H1:=[]) (R1:=[]) hS (fun W h=>h)) fp0_0 hx122) ?_
   rintro ⟨ad123,hA125,f124⟩
   refine g_v rfl (r_ix Tryz.underlying25 Tryz.sizeOf3 rfl hA125 rfl hx122)<|g_v rfl (r_ld rfl Tryz.isAgg3 (fun W hS=>Cl.head (f124 W (ok_pre (H1:=[]) (R1:=[]) hS (fun W h=>h)))))<|g_v rfl r_assign<|g_v rfl r_assign<|g_nil<|d_then<|c_seq<|ga_start (n:=21) ⟨w0,M,H,R,φ⟩ [] #[false,false,false,false,false,false,false,false,false,false,false,false,false,false,false,false,false,false,false,false,false] (fun W h=>h.phi (fun W hφ=>hφ)) mixed rfl rfl<|ga_v (i:=0) (bz 21 1) rfl (by kernel_rfl) (fun _ _ _ _ h=>h) rfl (r_move)<|ga_r (i:=1) (bz 21 3) rfl (by kernel_rfl) (by decide) rfl (r_move) ?_
   replace hm:=bnd hm
   obtain ⟨x150,hx151,hm⟩:=hm
   refine ga_cn (first:=#[]) (i:=2) (bz 21 7) rfl (by kernel_rfl) (by decide)  ⟨w0,M,_,_,φ⟩ (fun _ h=>h) Tryz.call46 rfl rfl rfl (c_conf_node x122 _ hx151) (fun _ W _ h=>h.phi (fun W hφ=>hφ)) (fun _ _=>?_)
   refine ga_r (i:=3) (bz 21 15) rfl (by kernel_rfl) (by decide) rfl (r_not rfl)<|ga_r (i:=4) (bz 21 31) rfl (by kernel_rfl) (by decide) rfl (r_move) ?_
   refine ga_if (t:=22) rfl (fun h152=>?_) (fun h152=>?_)
   ·
    have h152' : x150 = false:=by revert h152; cases x150 <;> simp
    replace hm:=ite_f hm (bool_nt h152')
    refine ga_no (i:=5) (bz 21 63) rfl (by kernel_rfl) (fun _ _ _ _ h=>h) rfl rfl rfl rfl rfl h152<|ga_no (i:=6) (bz 21 127) rfl (by kernel_rfl) (fun _ _ _ _ h=>h) rfl rfl rfl rfl rfl h152<|ga_no (i:=7) (bz 21 255) rfl (by kernel_rfl) (fun _ _ _ _ h=>h) rfl rfl rfl rfl rfl h152<|ga_nu (i:=8) (bz 21 511) rfl (by kernel_rfl) (fun _ _ _ _ h=>h) rfl rfl rfl rfl rfl<|ga_nu (i:=9) (bz 21 1023) rfl (by kernel_rfl) (fun _ _ _ _ h=>h) rfl rfl rfl rfl rfl<|ga_nu (i:=10) (bz 21 2047) rfl (by kernel_rfl) (fun _ _ _ _ h=>h) rfl rfl rfl rfl rfl<|ga_nu (i:=11) (bz 21 4095) rfl (by kernel_rfl) (fun _ _ _ _ h=>h) rfl rfl rfl rfl rfl<|ga_nu (i:=12) (bz 21 8191) rfl (by kernel_rfl) (fun _ _ _ _ h=>h) rfl rfl rfl rfl rfl<|ga_nu (i:=13) (bz 21 16383) rfl (by kernel_rfl) (fun _ _ _ _ h=>h) rfl rfl rfl rfl rfl<|ga_nu (i:=14) (bz 21 32767) rfl (by kernel_rfl) (fun _ _ _ _ h=>h) rfl rfl rfl rfl rfl ?_
    refine ga_nu (i:=15) (bz 21 65535) rfl (by kernel_rfl) (fun _ _ _ _ h=>h) rfl rfl rfl rfl rfl<|ga_nu (i:=16) (bz 21 131071) rfl (by kernel_rfl) (fun _ _ _ _ h=>h) rfl rfl rfl rfl rfl<|ga_nu (i:=17) (bz 21 262143) rfl (by kernel_rfl) (fun _ _ _ _ h=>h) rfl rfl rfl rfl rfl<|ga_nu (i:=18) (bz 21 524287) rfl (by kernel_rfl) (fun _ _ _ _ h=>h) rfl rfl rfl rfl rfl<|ga_no (i:=19) (bz 21 1048575) rfl (by kernel_rfl) (fun _ _ _ _ h=>h) rfl rfl rfl rfl rfl h152<|ga_r (i:=20) (bz 21 2097151) rfl (by kernel_rfl) (by decide) rfl (r_pick1 rfl h152)<|ga_done (by kernel_rfl)<|d_then ?_
    refine c_flat [(0,.slice Ap0_0 p0.length cp0_0),(1,.int .i64 p1),(2,.func (.func 44) #[] #[]),(3,.func (.func 46) #[] #[]),(11,.slice Ap0_0 p0.length cp0_0),(12,.int .i64 (p0.length : Int)),(13,.int .i64 i76),(38,.bool true)] ⟨rfl,rfl,rfl,rfl,rfl,rfl,rfl,rfl,trivial⟩ (fun u=>?_)
    refine c_cond1 rfl rfl<|c_seq<|c_region<|g_v rfl r_assign<|g_nil<|d_then<|c_ret<|d_ret_block<|d_ret_then<|d_ret_then ?_
    refine d_ret_block<|d_ret_then<|d_ret_then ?_
    replace hm:=nx_out (C:=(fun e : Unit ⊕ Bool=>Sum.elim (fun e=>m_conf_all_45_j1 p0 p1) (fun x=>some x) e = some r)) hm hnx2 hr2
    replace hm : some false = some r:=hm
    cases hm
    exact d_retC () Tryz.results45 (res_tmp (res_nil rfl)) trivial (fun W h=>ok_pre (H1:=[]) (R1:=[]) h (fun W hφ=>hφ)) (.inr rfl)
   have h152' : x150 = true:=by revert h152; cases x150 <;> simp
   replace hm:=ite_t hm h152'
   refine ga_rG (i:=5) (bz 21 63) rfl (by kernel_rfl) (by decide) rfl rfl rfl rfl rfl h152 (r_move)<|ga_rG (i:=6) (bz 21 127) rfl (by kernel_rfl) (by decide) rfl rfl rfl rfl rfl h152 (r_gtr rfl rfl)<|ga_rG (i:=7) (bz 21 255) rfl (by kernel_rfl) (by decide) rfl rfl rfl rfl rfl h152 (r_move) ?_
   refine ga_if (t:=25) rfl (fun h153=>?_) (fun h153=>?_)
   ·
    replace hm:=ite_t hm (of_decide_eq_true h153)
    refine ga_do (i:=8) (bz 21 511) rfl (by kernel_rfl) (fun _ _ _ _ h=>h) rfl rfl rfl rfl rfl h153 (r_move)<|ga_do (i:=9) (bz 21 1023) rfl (by kernel_rfl) (fun _ _ _ _ h=>h) rfl rfl rfl rfl rfl h153 (r_move)<|ga_do (i:=11) (bz 21 3071) rfl (by kernel_rfl) (fun _ _ _ _ h=>h) rfl rfl rfl rfl rfl h153 (r_move)<|ga_do (i:=12) (bz 21 7167) rfl (by kernel_rfl) (fun _ _ _ _ h=>h) rfl rfl rfl rfl rfl h153 (r_move)<|ga_do (i:=13) (bz 21 15359) rfl (by kernel_rfl) (fun _ _ _ _ h=>h) rfl rfl rfl rfl rfl h153 (r_move)<|ga_do (i:=14) (bz 21 31743) rfl (by kernel_rfl) (fun _ _ _ _ h=>h) rfl rfl rfl rfl rfl h153 (r_sub rfl rfl rfl) ?_
    replace hm:=bnd hm
    obtain ⟨x154,hx154,hm⟩:=hm
    refine ga_know _ (fun W hS=>cl_at (p:=(Sta.mk w0 M H R φ).ok) (sz:=1) (fun _=>rfl) (by decide) (ok_pre (H1:=[]) (R1:=[]) hS (fun W h=>h)) fp0_0 hx154) ?_
    rintro ⟨ad155,hA157,f156⟩
    refine ga_do (i:=15) (bz 21 64511) rfl (by kernel_rfl) (fun _ _ _ _ h=>h) rfl rfl rfl rfl rfl h153 (r_ix Tryz.underlying25 Tryz.sizeOf3 rfl hA157 rfl hx154)<|ga_do (i:=16) (bz 21 130047) rfl (by kernel_rfl) (fun _ _ _ _ h=>h) rfl rfl rfl rfl rfl h153 (r_ld rfl Tryz.isAgg3 (fun W hS=>Cl.head (f156 W (ok_pre (H1:=[]) (R1:=[]) hS (fun W h=>h))))) ?_
    replace hm:=bnd hm
    obtain ⟨x158,hx159,hm⟩:=hm
    refine ga_cnG (first:=#[]) (i:=10) (bz 21 131071) rfl (by kernel_rfl) (by decide) rfl rfl rfl rfl h153  ⟨w0,M,_,_,φ⟩ (fun _ h=>h) Tryz.call44 rfl rfl rfl (c_conf_Right_c1 x122 _ hx159) (fun _ W _ h=>h.phi (fun W hφ=>hφ)) (fun _ _=>?_)
    replace hm:=bnd hm
    obtain ⟨x160,hx161,hm⟩:=hm
    refine ga_cnG (first:=#[]) (i:=17) (bz 21 262143) rfl (by kernel_rfl) (by decide) rfl rfl rfl rfl h153  ⟨w0,M,_,_,φ⟩ (fun _ h=>h) Tryz.call44 rfl rfl rfl (c_conf_Right_c1 x154 _ hx161) (fun _ W _ h=>h.phi (fun W hφ=>hφ)) (fun _ _=>?_)
    refine ga_rG (i:=18) (bz 21 524287) rfl (by kernel_rfl) (by decide) rfl rfl rfl rfl rfl h153 (r_leq rfl rfl)<|ga_rG (i:=19) (bz 21 1048575) rfl (by kernel_rfl) (by decide) rfl rfl rfl rfl rfl h152 (r_pick1 rfl h153)<|ga_r (i:=20) (bz 21 2097151) rfl (by kernel_rfl) (by decide) rfl (r_pick0 rfl h152)<|ga_done (by kernel_rfl)<|d_then ?_
    refine c_flat [(0,.slice Ap0_0 p0.length cp0_0),(1,.int .i64 p1),(2,.func (.func 44) #[] #[]),(3,.func (.func 46) #[] #[]),(11,.slice Ap0_0 p0.length cp0_0),(12,.int .i64 (p0.length : Int)),(13,.int .i64 i76),(38,.bool (decide (x158 ≤ x160)))] ⟨rfl,rfl,rfl,rfl,rfl,rfl,rfl,rfl,trivial⟩ (fun u=>?_)
    refine c_cond rfl (fun h162=>?_) (fun h162=>?_)
    ·
     replace hm:=ite_t hm (of_decide_eq_true h162)
     refine c_seq<|c_region<|g_v rfl r_assign<|g_nil<|d_then<|c_ret<|d_ret_block<|d_ret_then<|d_ret_then<|d_ret_block ?_
     refine d_ret_then<|d_ret_then ?_
     replace hm:=nx_out (C:=(fun e : Unit ⊕ Bool=>Sum.elim (fun e=>m_conf_all_45_j1 p0 p1) (fun x=>some x) e = some r)) hm hnx2 hr2
     replace hm : some false = some r:=hm
     cases hm
     exact d_retC () Tryz.results45 (res_tmp (res_nil rfl)) trivial (fun W h=>ok_pre (H1:=[]) (R1:=[]) h (fun W hφ=>hφ)) (.inr rfl)
    replace hm:=ite_f hm (of_decide_eq_false h162)
    refine c_skip<|d_normal_block<|d_then<|c_region<|g_v rfl (r_add rfl rfl rfl)<|g_v rfl r_move<|g_nil ?_
    obtain ⟨n163,hn163,hlp⟩:=nx_inl hm hnx2
    exact d_round (n163,w64 (i76 + 1)) hlp hn163 ⟨rfl,rfl,rfl,rfl,rfl,rfl,rfl,trivial⟩ (fun W h=>h.phi (fun W hφ=>hφ))
   replace hm:=ite_f hm (of_decide_eq_false h153)
   refine ga_no (i:=8) (bz 21 511) rfl (by kernel_rfl) (fun _ _ _ _ h=>h) rfl rfl rfl rfl rfl h153<|ga_no (i:=9) (bz 21 1023) rfl (by kernel_rfl) (fun _ _ _ _ h=>h) rfl rfl rfl rfl rfl h153<|ga_no (i:=10) (bz 21 2047) rfl (by kernel_rfl) (fun _ _ _ _ h=>h) rfl rfl rfl rfl rfl h153<|ga_no (i:=11) (bz 21 4095) rfl (by kernel_rfl) (fun _ _ _ _ h=>h) rfl rfl rfl rfl rfl h153<|ga_no (i:=12) (bz 21 8191) rfl (by kernel_rfl) (fun _ _ _ _ h=>h) rfl rfl rfl rfl rfl h153<|ga_no (i:=13) (bz 21 16383) rfl (by kernel_rfl) (fun _ _ _ _ h=>h) rfl rfl rfl rfl rfl h153<|ga_no (i:=14) (bz 21 32767) rfl (by kernel_rfl) (fun _ _ _ _ h=>h) rfl rfl rfl rfl rfl h153<|ga_no (i:=15) (bz 21 65535) rfl (by kernel_rfl) (fun _ _ _ _ h=>h) rfl rfl rfl rfl rfl h153<|ga_no (i:=16) (bz 21 131071) rfl (by kernel_rfl) (fun _ _ _ _ h=>h) rfl rfl rfl rfl rfl h153<|ga_no (i:=17) (bz 21 262143) rfl (by kernel_rfl) (fun _ _ _ _ h=>h) rfl rfl rfl rfl rfl h153 ?_
   refine ga_no (i:=18) (bz 21 524287) rfl (by kernel_rfl) (fun _ _ _ _ h=>h) rfl rfl rfl rfl rfl h153<|ga_rG (i:=19) (bz 21 1048575) rfl (by kernel_rfl) (by decide) rfl rfl rfl rfl rfl h152 (r_pick0 rfl h153)<|ga_r (i:=20) (bz 21 2097151) rfl (by kernel_rfl) (by decide) rfl (r_pick0 rfl h152)<|ga_done (by kernel_rfl)<|d_then ?_
   refine c_flat [(0,.slice Ap0_0 p0.length cp0_0),(1,.int .i64 p1),(2,.func (.func 44) #[] #[]),(3,.func (.func 46) #[] #[]),(11,.slice Ap0_0 p0.length cp0_0),(12,.int .i64 (p0.length : Int)),(13,.int .i64 i76),(38,.bool false)] ⟨rfl,rfl,rfl,rfl,rfl,rfl,rfl,rfl,trivial⟩ (fun u=>?_)
   refine c_cond0 rfl rfl<|c_skip<|d_normal_block<|d_then<|c_region<|g_v rfl (r_add rfl rfl rfl)<|g_v rfl r_move<|g_nil ?_
   obtain ⟨n164,hn164,hlp⟩:=nx_inl hm hnx2
   exact d_round (n164,w64 (i76 + 1)) hlp hn164 ⟨rfl,rfl,rfl,rfl,rfl,rfl,rfl,trivial⟩ (fun W h=>h.phi (fun W hφ=>hφ))
  replace hm:=ite_f hm (of_decide_eq_false h121)
  refine c_exit<|d_exit_then<|d_exit_then<|d_exit_block ?_
  replace hm:=nx_out (C:=(fun e : Unit ⊕ Bool=>Sum.elim (fun e=>m_conf_all_45_j1 p0 p1) (fun x=>some x) e = some r)) hm hnx2 hr2
  exact d_round () hm Nat.zero_lt_one ⟨rfl,rfl,trivial⟩ (fun W h=>h.phi (fun W hφ=>hφ))
 unfold m_conf_all_45_j1 at hm
 refine d_flat [(0,.slice Ap0_0 p0.length cp0_0),(1,.int .i64 p1)] ⟨rfl,rfl,trivial⟩ (fun u=>?_)
 refine d_sta ⟨w0,M,H,R,φ⟩ (fun _ h=>h)<|d_then<|c_seq<|c_region<|g_v rfl r_move<|g_v rfl (r_lenL Tryz.underlying25 rfl)<|g_v rfl r_move<|g_v rfl (r_leq rfl rfl)<|g_v rfl r_assign<|g_nil ?_
 refine d_then<|c_ret ?_
 cases hm
 exact d_retC () Tryz.results45 (res_tmp (res_nil rfl)) trivial (fun W h=>ok_pre (H1:=[]) (R1:=[]) h (fun W hφ=>hφ)) (.inr rfl)
noncomputable def m_conf_hint (p0 : ByteArray) : Option Bool:=
  some (decide ((p0.size : Int) = 4))
theorem c_conf_hint {w0 : World} {M : Nat→Prop} {H : List (Nat×Nat×Obj)} {R : List (Nat×Row)} {φ : World→Prop} (p0 : ByteArray) (r : Bool) (hm : m_conf_hint p0 = some r) :
    Cn Tryz.prog 49 #[.string p0] ⟨w0,M,H,R,φ⟩ (fun x : Unit=>.bool r) (fun x=>True) (fun x=>⟨w0,M,H,R,φ⟩):=by
 unfold m_conf_hint at hm
 refine cn_intro (fn:=Tryz.f49) (N:=6) Tryz.func49 rfl Tryz.ntmps49 rfl<|c_seq<|c_region<|g_v rfl r_assign<|g_nil<|d_then<|c_seq<|c_region<|g_v rfl r_move<|g_v rfl (r_len Tryz.underlying9 rfl) ?_
 refine g_v rfl (r_eql rfl rfl)<|g_v rfl r_assign<|g_nil<|d_then<|c_ret ?_
 cases hm
 exact d_retC () Tryz.results49 (res_tmp (res_nil rfl)) trivial (fun W h=>ok_pre (H1:=[]) (R1:=[]) h (fun W hφ=>hφ)) (.inr rfl)
noncomputable def m_conf_Right_c2 (p0 : ByteArray) : Option Bool:=
  (m_conf_hint p0).bind fun x1=>
  some (!x1)
theorem c_conf_Right_c2 {w0 : World} {M : Nat→Prop} {H : List (Nat×Nat×Obj)} {R : List (Nat×Row)} {φ : World→Prop} (p0 : ByteArray) (r : Bool) (hm : m_conf_Right_c2 p0 = some r) :
    Cn Tryz.prog 48 #[.string p0] ⟨w0,M,H,R,φ⟩ (fun x : Unit=>.bool r) (fun x=>True) (fun x=>⟨w0,M,H,R,φ⟩):=by
 unfold m_conf_Right_c2 at hm
 refine cn_intro (fn:=Tryz.f48) (N:=6) Tryz.func48 rfl Tryz.ntmps48 rfl<|c_seq<|c_region<|g_v rfl r_assign<|g_nil<|d_then<|c_seq<|c_region<|g_v rfl r_move ?_
 replace hm:=bnd hm
 obtain ⟨x1,hx2,hm⟩:=hm
 refine g_cn ⟨w0,M,_,_,φ⟩ (fun _ h=>h) Tryz.call49 rfl rfl (c_conf_hint p0 _ hx2) (fun _ _=>?_)
 refine g_v rfl (r_not rfl)<|g_v rfl r_assign<|g_nil<|d_then<|c_ret ?_
 cases hm
 exact d_retC () Tryz.results48 (res_tmp (res_nil rfl)) trivial (fun W h=>ok_pre (H1:=[]) (R1:=[]) h (fun W hφ=>hφ)) (.inr rfl)
noncomputable def m_slices_IndexFunc_97_2_j1  : Option Int:=
  some (-1)
noncomputable def m_slices_IndexFunc_97_2_s2 (p0 : List ByteArray) (i30 : Int) : Option (Int ⊕ (Unit ⊕ Int)):=
  if i30 < (p0.length : Int) then
    (at_ p0 i30).bind fun x42=>
    (m_conf_Right_c2 x42).bind fun x46=>
    if x46 = true then
      some (.inr (.inr i30))
    else
      some (.inl (w64 (i30 + 1)))
  else
    some (.inr (.inl ()))
noncomputable def m_slices_IndexFunc_97_2 (p0 : List ByteArray) : Option Int:=
  (loop (fun s=>m_slices_IndexFunc_97_2_s2 p0 s) 0).bind fun e=>Sum.elim (fun e=>m_slices_IndexFunc_97_2_j1) (fun x=>some x) e
theorem c_slices_IndexFunc_97_2 {w0 : World} {M : Nat→Prop} {H : List (Nat×Nat×Obj)} {R : List (Nat×Row)} {φ : World→Prop} (p0 : List ByteArray) (Ap0_0 : Option Addr) (cp0_0 : Nat) (hcp0_0 : p0.length ≤ cp0_0) (fp0_0 : ∀ W,(Sta.mk w0 M H R φ).ok W→Cl W Ap0_0 (p0.flatMap (fun x : ByteArray=>[Value.string x]))) (r : Int) (hm : m_slices_IndexFunc_97_2 p0 = some r) :
    Cn Tryz.prog 97 #[.slice Ap0_0 p0.length cp0_0,.func (.func 48) #[] #[]] ⟨w0,M,H,R,φ⟩ (fun x : Unit=>.int .i64 r) (fun x=>True) (fun x=>⟨w0,M,H,R,φ⟩):=by
 unfold m_slices_IndexFunc_97_2 at hm
 refine cn_intro (fn:=Tryz.f97) (N:=19) Tryz.func97 rfl Tryz.ntmps97 rfl<|c_seq<|c_region<|g_v rfl r_assign<|g_nil<|d_then<|c_seq<|c_seq<|c_region<|g_v rfl r_move ?_
 refine g_v rfl (r_lenL Tryz.underlying26 rfl)<|g_v rfl r_move<|g_nil<|d_then ?_
 refine c_cut (ι:=Unit) [] (fun _=>[]) (fun _=>⟨w0,M,H,R,φ⟩) (fun _=>m_slices_IndexFunc_97_2_j1 = some r) ?_ (fun _ u hm=>?_)
 ·
  refine c_block ?_
  replace hm:=bnd hm
  obtain ⟨out2,hl2,hr2⟩:=hm
  obtain ⟨n40',hl2⟩:=loop_lp hl2
  refine c_loopU (ι:=Nat×Int) [0,1,7,8] (fun ⟨n40,i30⟩=>[(8,.int .i64 i30)]) (fun ⟨n40,i30⟩=>⟨w0,M,H,R,φ⟩) (fun ⟨n40,i30⟩=>Lp (fun s=>m_slices_IndexFunc_97_2_s2 p0 s) n40 i30 out2) (fun ⟨n40,i30⟩=>n40) (n40',0) hl2 ⟨rfl,rfl,rfl,rfl,trivial⟩ (fun W h=>h.phi (fun W hφ=>hφ)) (fun ⟨n40,i30⟩ u hlp=>?_)
  obtain ⟨o2,hm,hnx2⟩:=lp_step hlp
  clear hlp
  replace hm : m_slices_IndexFunc_97_2_s2 p0 i30 = some o2:=hm
  unfold m_slices_IndexFunc_97_2_s2 at hm
  refine c_flat [(0,.slice Ap0_0 p0.length cp0_0),(1,.func (.func 48) #[] #[]),(7,.int .i64 (p0.length : Int)),(8,.int .i64 i30)] ⟨rfl,rfl,rfl,rfl,trivial⟩ (fun u=>?_)
  refine c_sta ⟨w0,M,H,R,φ⟩ (fun _ h=>h)<|c_seq<|c_region<|g_v rfl (r_lss rfl rfl)<|g_nil<|d_then<|c_seq ?_
  refine c_cond rfl (fun h41=>?_) (fun h41=>?_)
  ·
   replace hm:=ite_t hm (of_decide_eq_true h41)
   refine c_skip<|d_then<|c_seq<|c_block<|c_seq<|c_region<|g_v rfl r_move<|g_v rfl r_assign<|g_nil<|d_then ?_
   refine c_seq<|c_region ?_
   iterate 3 refine g_v rfl r_move ?_
   replace hm:=bnd hm
   obtain ⟨x42,hx42,hm⟩:=hm
   refine g_know _ (fun W hS=>cl_at (p:=(Sta.mk w0 M H R φ).ok) (sz:=1) (fun _=>rfl) (by decide) (ok_pre (H1:=[]) (R1:=[]) hS (fun W h=>h)) fp0_0 hx42) ?_
   rintro ⟨ad43,hA45,f44⟩
   refine g_v rfl (r_ix Tryz.underlying26 Tryz.sizeOf9 rfl hA45 rfl hx42)<|g_v rfl (r_ld rfl Tryz.isAgg9 (fun W hS=>Cl.head (f44 W (ok_pre (H1:=[]) (R1:=[]) hS (fun W h=>h))))) ?_
   replace hm:=bnd hm
   obtain ⟨x46,hx47,hm⟩:=hm
   refine g_cnv ⟨w0,M,_,_,φ⟩ (fun _ h=>h) Tryz.call48 rfl rfl rfl (c_conf_Right_c2 x42 _ hx47) (fun _ _=>?_)
   refine g_nil<|d_then ?_
   refine c_flat [(0,.slice Ap0_0 p0.length cp0_0),(1,.func (.func 48) #[] #[]),(5,.int .i64 i30),(7,.int .i64 (p0.length : Int)),(8,.int .i64 i30),(16,.bool x46)] ⟨rfl,rfl,rfl,rfl,rfl,rfl,trivial⟩ (fun u=>?_)
   refine c_cond rfl (fun h48=>?_) (fun h48=>?_)
   ·
    replace hm:=ite_t hm h48
    refine c_seq<|c_region<|g_v rfl r_move<|g_v rfl r_assign<|g_nil<|d_then<|c_ret<|d_ret_block<|d_ret_then<|d_ret_then ?_
    refine d_ret_block<|d_ret_then<|d_ret_then ?_
    replace hm:=nx_out (C:=(fun e : Unit ⊕ Int=>Sum.elim (fun e=>m_slices_IndexFunc_97_2_j1) (fun x=>some x) e = some r)) hm hnx2 hr2
    replace hm : some i30 = some r:=hm
    cases hm
    exact d_retC () Tryz.results97 (res_tmp (res_nil rfl)) trivial (fun W h=>ok_pre (H1:=[]) (R1:=[]) h (fun W hφ=>hφ)) (.inr rfl)
   replace hm:=ite_f hm (bool_nt h48)
   refine c_skip<|d_normal_block<|d_then<|c_region<|g_v rfl (r_add rfl rfl rfl)<|g_v rfl r_move<|g_nil ?_
   obtain ⟨n49,hn49,hlp⟩:=nx_inl hm hnx2
   exact d_round (n49,w64 (i30 + 1)) hlp hn49 ⟨rfl,rfl,rfl,rfl,trivial⟩ (fun W h=>h.phi (fun W hφ=>hφ))
  replace hm:=ite_f hm (of_decide_eq_false h41)
  refine c_exit<|d_exit_then<|d_exit_then<|d_exit_block ?_
  replace hm:=nx_out (C:=(fun e : Unit ⊕ Int=>Sum.elim (fun e=>m_slices_IndexFunc_97_2_j1) (fun x=>some x) e = some r)) hm hnx2 hr2
  exact d_round () hm Nat.zero_lt_one trivial (fun W h=>h.phi (fun W hφ=>hφ))
 unfold m_slices_IndexFunc_97_2_j1 at hm
 refine d_flat [] trivial (fun u=>?_)
 refine d_sta ⟨w0,M,H,R,φ⟩ (fun _ h=>h)<|d_then<|c_seq<|c_region<|g_v rfl r_assign<|g_nil<|d_then<|c_ret ?_
 cases hm
 exact d_retC () Tryz.results97 (res_tmp (res_nil rfl)) trivial (fun W h=>ok_pre (H1:=[]) (R1:=[]) h (fun W hφ=>hφ)) (.inr rfl)
noncomputable def m_slices_ContainsFunc_47_2 (p0 : List ByteArray) : Option Bool:=
  (m_slices_IndexFunc_97_2 p0).bind fun x1=>
  some (decide (0 ≤ x1))
theorem c_slices_ContainsFunc_47_2 {w0 : World} {M : Nat→Prop} {H : List (Nat×Nat×Obj)} {R : List (Nat×Row)} {φ : World→Prop} (p0 : List ByteArray) (Ap0_0 : Option Addr) (cp0_0 : Nat) (hcp0_0 : p0.length ≤ cp0_0) (fp0_0 : ∀ W,(Sta.mk w0 M H R φ).ok W→Cl W Ap0_0 (p0.flatMap (fun x : ByteArray=>[Value.string x]))) (r : Bool) (hm : m_slices_ContainsFunc_47_2 p0 = some r) :
    Cn Tryz.prog 47 #[.slice Ap0_0 p0.length cp0_0,.func (.func 48) #[] #[]] ⟨w0,M,H,R,φ⟩ (fun x : Unit=>.bool r) (fun x=>True) (fun x=>⟨w0,M,H,R,φ⟩):=by
 unfold m_slices_ContainsFunc_47_2 at hm
 refine cn_intro (fn:=Tryz.f47) (N:=9) Tryz.func47 rfl Tryz.ntmps47 rfl<|c_seq<|c_region<|g_v rfl r_assign<|g_nil<|d_then<|c_seq<|c_region<|g_v rfl r_move<|g_v rfl r_move ?_
 replace hm:=bnd hm
 obtain ⟨x1,hx2,hm⟩:=hm
 refine g_cn ⟨w0,M,_,_,φ⟩ (fun _ h=>h) Tryz.call97 rfl rfl (c_slices_IndexFunc_97_2 p0 Ap0_0 cp0_0 hcp0_0 (fun W hS=>fp0_0 W (ok_pre (H1:=[]) (R1:=[]) hS (fun W h=>h))) _ hx2) (fun _ _=>?_)
 refine g_v rfl (r_geq rfl rfl)<|g_v rfl r_assign<|g_nil<|d_then<|c_ret ?_
 cases hm
 exact d_retC () Tryz.results47 (res_tmp (res_nil rfl)) trivial (fun W h=>ok_pre (H1:=[]) (R1:=[]) h (fun W hφ=>hφ)) (.inr rfl)
noncomputable def m_conf_Right_c4 (p0 : GAnchor) : Option Bool:=
  (m_conf_named p0.fName).bind fun x2=>
  if x2 = true then
    if p0.fText = (⟨#[]⟩ : ByteArray) then
      some false
    else
      some (decide ((p0.fText.size : Int) ≤ 200))
  else
    some false
theorem c_conf_Right_c4 {w0 : World} {M : Nat→Prop} {H : List (Nat×Nat×Obj)} {R : List (Nat×Row)} {φ : World→Prop} (p0 : GAnchor) (r : Bool) (hm : m_conf_Right_c4 p0 = some r) :
    Cn Tryz.prog 52 #[.agg #[.string p0.fName,.string p0.fText]] ⟨w0,M,H,R,φ⟩ (fun x : Unit=>.bool r) (fun x=>True) (fun x=>⟨w0,M,H,R,φ⟩):=by
 unfold m_conf_Right_c4 at hm
 refine cn_intro (fn:=Tryz.f52) (N:=17) Tryz.func52 rfl Tryz.ntmps52 rfl<|c_seq<|c_region ?_
 refine g_e rfl (e_box 100010 rfl) (fun g1 _=>?_)
 refine g_v rfl r_assign<|g_nil<|d_then<|c_seq<|c_region<|g_v rfl (r_field (n:=0) Tryz.underlying55 rfl Tryz.sizeOf9 rfl rfl)<|g_v rfl (r_load (tag:=100010) rfl rfl rfl Tryz.isAgg9) ?_
 replace hm:=bnd hm
 obtain ⟨x2,hx3,hm⟩:=hm
 refine g_cn ⟨w0,M,_,_,φ⟩ (fun _ h=>h) Tryz.call53 rfl rfl (c_conf_named p0.fName _ hx3) (fun _ _=>?_)
 refine g_v rfl r_move ?_
 refine g_if rfl rfl rfl rfl rfl (fun h4=>?_) (fun h4=>?_)
 ·
  replace hm:=ite_t hm h4
  refine g_v rfl (r_field (n:=1) Tryz.underlying55 rfl Tryz.sizeOf9 rfl rfl)<|g_do rfl rfl rfl rfl rfl h4<|g_v rfl (r_load (tag:=100010) rfl rfl rfl Tryz.isAgg9)<|g_do rfl rfl rfl rfl rfl h4<|g_v rfl (r_neqT rfl rfl)<|g_v rfl (r_pick1 rfl h4)<|g_v rfl r_move ?_
  refine g_if rfl rfl rfl rfl rfl (fun h5=>?_) (fun h5=>?_)
  ·
   have h5' : (decide (p0.fText = (⟨#[]⟩ : ByteArray))) = false:=by revert h5; cases (decide (p0.fText = (⟨#[]⟩ : ByteArray))) <;> simp
   replace hm:=ite_f hm (of_decide_eq_false h5')
   refine g_v rfl (r_field (n:=1) Tryz.underlying55 rfl Tryz.sizeOf9 rfl rfl)<|g_do rfl rfl rfl rfl rfl h5<|g_v rfl (r_load (tag:=100010) rfl rfl rfl Tryz.isAgg9)<|g_do rfl rfl rfl rfl rfl h5<|g_v rfl (r_len Tryz.underlying9 rfl)<|g_do rfl rfl rfl rfl rfl h5<|g_v rfl (r_leq rfl rfl)<|g_v rfl (r_pick1 rfl h5)<|g_v rfl r_assign<|g_nil ?_
   refine d_then ?_
   refine c_flat [(2,.bool (decide ((p0.fText.size : Int) ≤ 200)))] ⟨rfl,trivial⟩ (fun u=>?_)
   refine c_sta ⟨w0,M,(100010,g1,.cells #[.string p0.fName,.string p0.fText] 55 (0,0))::H,R,φ⟩ (fun _ h=>h)<|c_ret ?_
   cases hm
   exact d_retC () Tryz.results52 (res_tmp (res_nil rfl)) trivial (fun W h=>ok_pre (H1:=[_]) (R1:=[]) h (fun W hφ=>hφ)) (.inr rfl)
  have h5' : (decide (p0.fText = (⟨#[]⟩ : ByteArray))) = true:=by revert h5; cases (decide (p0.fText = (⟨#[]⟩ : ByteArray))) <;> simp
  replace hm:=ite_t hm (of_decide_eq_true h5')
  iterate 3 refine g_no rfl rfl rfl rfl rfl h5 ?_
  refine g_v rfl (r_pick0 rfl h5)<|g_v rfl r_assign<|g_nil<|d_then ?_
  refine c_flat [(2,.bool false)] ⟨rfl,trivial⟩ (fun u=>?_)
  refine c_sta ⟨w0,M,(100010,g1,.cells #[.string p0.fName,.string p0.fText] 55 (0,0))::H,R,φ⟩ (fun _ h=>h)<|c_ret ?_
  cases hm
  exact d_retC () Tryz.results52 (res_tmp (res_nil rfl)) trivial (fun W h=>ok_pre (H1:=[_]) (R1:=[]) h (fun W hφ=>hφ)) (.inr rfl)
 replace hm:=ite_f hm (bool_nt h4)
 refine g_no rfl rfl rfl rfl rfl h4<|g_no rfl rfl rfl rfl rfl h4<|g_v rfl (r_pick0 rfl h4)<|g_v rfl r_move ?_
 iterate 4 refine g_no rfl rfl rfl rfl rfl rfl ?_
 refine g_v rfl (r_pick0 rfl rfl)<|g_v rfl r_assign<|g_nil<|d_then ?_
 refine c_flat [(2,.bool false)] ⟨rfl,trivial⟩ (fun u=>?_)
 refine c_sta ⟨w0,M,(100010,g1,.cells #[.string p0.fName,.string p0.fText] 55 (0,0))::H,R,φ⟩ (fun _ h=>h)<|c_ret ?_
 cases hm
 exact d_retC () Tryz.results52 (res_tmp (res_nil rfl)) trivial (fun W h=>ok_pre (H1:=[_]) (R1:=[]) h (fun W hφ=>hφ)) (.inr rfl)
noncomputable def m_conf_Right_c3 (p0 : GAnchor) : Option ByteArray:=
  (m_name_Lower p0.fName).bind fun x2=>
  some x2
theorem c_conf_Right_c3 {w0 : World} {M : Nat→Prop} {H : List (Nat×Nat×Obj)} {R : List (Nat×Row)} {φ : World→Prop} (p0 : GAnchor) (r : ByteArray) (hm : m_conf_Right_c3 p0 = some r) :
    Cn Tryz.prog 51 #[.agg #[.string p0.fName,.string p0.fText]] ⟨w0,M,H,R,φ⟩ (fun x : Unit=>.string r) (fun x=>True) (fun x=>⟨w0,M,H,R,φ⟩):=by
 unfold m_conf_Right_c3 at hm
 refine cn_intro (fn:=Tryz.f51) (N:=6) Tryz.func51 rfl Tryz.ntmps51 rfl<|c_seq<|c_region ?_
 refine g_e rfl (e_box 100010 rfl) (fun g1 _=>?_)
 refine g_v rfl r_assign<|g_nil<|d_then<|c_seq<|c_region<|g_v rfl (r_field (n:=0) Tryz.underlying55 rfl Tryz.sizeOf9 rfl rfl)<|g_v rfl (r_load (tag:=100010) rfl rfl rfl Tryz.isAgg9) ?_
 replace hm:=bnd hm
 obtain ⟨x2,hx3,hm⟩:=hm
 refine g_cn ⟨w0,M,_,_,φ⟩ (fun _ h=>h) Tryz.call37 rfl rfl (c_name_Lower p0.fName _ hx3) (fun _ _=>?_)
 refine g_v rfl r_assign<|g_nil<|d_then<|c_ret ?_
 cases hm
 exact d_retC () Tryz.results51 (res_tmp (res_nil rfl)) trivial (fun W h=>ok_pre (H1:=[_]) (R1:=[]) h (fun W hφ=>hφ)) (.inr rfl)
noncomputable def m_conf_all_50_j1 (p0 : List GAnchor) (p1 : Int) : Option Bool:=
  some (decide ((p0.length : Int) ≤ p1))
noncomputable def m_conf_all_50_s2 (p0 : List GAnchor) (i79 : Int) : Option (Int ⊕ (Unit ⊕ Bool)):=
  if i79 < (p0.length : Int) then
    (at_ p0 i79).bind fun x126=>
    (m_conf_Right_c4 x126).bind fun x155=>
    if x155 = true then
      if 0 < i79 then
        (at_ p0 (w64 (i79 - 1))).bind fun x159=>
        (m_conf_Right_c3 x126).bind fun x163=>
        (m_conf_Right_c3 x159).bind fun x165=>
        if (sless x163 x165 || decide (x163 = x165)) = true then
          some (.inr (.inr false))
        else
          some (.inl (w64 (i79 + 1)))
      else
        some (.inl (w64 (i79 + 1)))
    else
      some (.inr (.inr false))
  else
    some (.inr (.inl ()))
noncomputable def m_conf_all_50 (p0 : List GAnchor) (p1 : Int) : Option Bool:=
  (loop (fun s=>m_conf_all_50_s2 p0 s) 0).bind fun e=>Sum.elim (fun e=>m_conf_all_50_j1 p0 p1) (fun x=>some x) e
theorem c_conf_all_50 {w0 : World} {M : Nat→Prop} {H : List (Nat×Nat×Obj)} {R : List (Nat×Row)} {φ : World→Prop} (p0 : List GAnchor) (Ap0_0 : Option Addr) (cp0_0 : Nat) (hcp0_0 : p0.length ≤ cp0_0) (fp0_0 : ∀ W,(Sta.mk w0 M H R φ).ok W→Cl W Ap0_0 (p0.flatMap GAnchor.enc)) (p1 : Int) (r : Bool) (hm : m_conf_all_50 p0 p1 = some r) :
    Cn Tryz.prog 50 #[.slice Ap0_0 p0.length cp0_0,.int .i64 p1,.func (.func 51) #[] #[],.func (.func 52) #[] #[]] ⟨w0,M,H,R,φ⟩ (fun x : Unit=>.bool r) (fun x=>True) (fun x=>⟨w0,M,H,R,φ⟩):=by
 unfold m_conf_all_50 at hm
 refine cn_intro (fn:=Tryz.f50) (N:=44) Tryz.func50 rfl Tryz.ntmps50 rfl<|c_seq<|c_region<|g_v rfl r_assign<|g_nil<|d_then<|c_seq<|c_seq<|c_region<|g_v rfl r_move ?_
 refine g_v rfl (r_lenL Tryz.underlying27 rfl)<|g_v rfl r_move<|g_nil<|d_then ?_
 refine c_cut (ι:=Unit) [0,1] (fun _=>[]) (fun _=>⟨w0,M,H,R,φ⟩) (fun _=>m_conf_all_50_j1 p0 p1 = some r) ?_ (fun _ u hm=>?_)
 ·
  refine c_block ?_
  replace hm:=bnd hm
  obtain ⟨out2,hl2,hr2⟩:=hm
  obtain ⟨n124',hl2⟩:=loop_lp hl2
  refine c_loopU (ι:=Nat×Int) [0,1,2,3,11,12,13] (fun ⟨n124,i79⟩=>[(13,.int .i64 i79)]) (fun ⟨n124,i79⟩=>⟨w0,M,H,R,φ⟩) (fun ⟨n124,i79⟩=>Lp (fun s=>m_conf_all_50_s2 p0 s) n124 i79 out2) (fun ⟨n124,i79⟩=>n124) (n124',0) hl2 ⟨rfl,rfl,rfl,rfl,rfl,rfl,rfl,trivial⟩ (fun W h=>h.phi (fun W hφ=>hφ)) (fun ⟨n124,i79⟩ u hlp=>?_)
  obtain ⟨o2,hm,hnx2⟩:=lp_step hlp
  clear hlp
  replace hm : m_conf_all_50_s2 p0 i79 = some o2:=hm
  unfold m_conf_all_50_s2 at hm
  refine c_flat [(0,.slice Ap0_0 p0.length cp0_0),(1,.int .i64 p1),(2,.func (.func 51) #[] #[]),(3,.func (.func 52) #[] #[]),(11,.slice Ap0_0 p0.length cp0_0),(12,.int .i64 (p0.length : Int)),(13,.int .i64 i79)] ⟨rfl,rfl,rfl,rfl,rfl,rfl,rfl,trivial⟩ (fun u=>?_)
  refine c_sta ⟨w0,M,H,R,φ⟩ (fun _ h=>h)<|c_seq<|c_region<|g_v rfl (r_lss rfl rfl)<|g_nil<|d_then<|c_seq ?_
  refine c_cond rfl (fun h125=>?_) (fun h125=>?_)
  ·
   replace hm:=ite_t hm (of_decide_eq_true h125)
   refine c_skip<|d_then<|c_seq<|c_block<|c_seq<|c_region<|g_v rfl r_move ?_
   replace hm:=bnd hm
   obtain ⟨x126,hx126,hm⟩:=hm
   refine g_know _ (fun W hS=>cl_at (p:=(Sta.mk w0 M H R φ).ok) (sz:=2) (fun _=>rfl) (by decide) (ok_pre (H1:=[]) (R1:=[]) hS (fun W h=>h)) fp0_0 hx126) ?_
   rintro ⟨ad127,hA129,f128⟩
   refine g_v rfl (r_ix Tryz.underlying27 Tryz.sizeOf55 rfl hA129 rfl hx126)<|g_v rfl (r_ldA rfl Tryz.isAgg55 Tryz.sizeOf55 (fun W hS=>(f128 W (ok_pre (H1:=[]) (R1:=[]) hS (fun W h=>h))).take 2) rfl) ?_
   refine g_e rfl (e_alloc 100100 Tryz.zeroValue55) (fun g130 _=>?_)
   refine g_v rfl r_assign<|g_storeL (tag:=100100) rfl rfl rfl rfl Tryz.sizeOf55 rfl rfl<|g_nil<|d_then<|c_seq<|ga_start (n:=21) ⟨w0,M,(100100,g130,.cells #[.string x126.fName,.string x126.fText] 55 (0,0))::H,R,φ⟩ [] #[false,false,false,false,false,false,false,false,false,false,false,false,false,false,false,false,false,false,false,false,false] (fun W h=>h.phi (fun W hφ=>hφ)) mixed rfl rfl<|ga_v (i:=0) (bz 21 1) rfl (by kernel_rfl) (fun _ _ _ _ h=>h) rfl (r_move)<|ga_r (i:=1) (bz 21 3) rfl (by kernel_rfl) (by decide) rfl (r_loadA (tag:=100100) rfl rfl Tryz.isAgg55 Tryz.sizeOf55 rfl rfl) ?_
   replace hm:=bnd hm
   obtain ⟨x155,hx156,hm⟩:=hm
   refine ga_cn (first:=#[]) (i:=2) (bz 21 7) rfl (by kernel_rfl) (by decide)  ⟨w0,M,_,_,φ⟩ (fun _ h=>h) Tryz.call52 rfl rfl rfl (c_conf_Right_c4 x126 _ hx156) (fun _ W _ h=>h.phi (fun W hφ=>hφ)) (fun _ _=>?_)
   refine ga_r (i:=3) (bz 21 15) rfl (by kernel_rfl) (by decide) rfl (r_not rfl)<|ga_r (i:=4) (bz 21 31) rfl (by kernel_rfl) (by decide) rfl (r_move) ?_
   refine ga_if (t:=22) rfl (fun h157=>?_) (fun h157=>?_)
   ·
    have h157' : x155 = false:=by revert h157; cases x155 <;> simp
    replace hm:=ite_f hm (bool_nt h157')
    refine ga_no (i:=5) (bz 21 63) rfl (by kernel_rfl) (fun _ _ _ _ h=>h) rfl rfl rfl rfl rfl h157<|ga_no (i:=6) (bz 21 127) rfl (by kernel_rfl) (fun _ _ _ _ h=>h) rfl rfl rfl rfl rfl h157<|ga_no (i:=7) (bz 21 255) rfl (by kernel_rfl) (fun _ _ _ _ h=>h) rfl rfl rfl rfl rfl h157<|ga_nu (i:=8) (bz 21 511) rfl (by kernel_rfl) (fun _ _ _ _ h=>h) rfl rfl rfl rfl rfl<|ga_nu (i:=9) (bz 21 1023) rfl (by kernel_rfl) (fun _ _ _ _ h=>h) rfl rfl rfl rfl rfl<|ga_nu (i:=10) (bz 21 2047) rfl (by kernel_rfl) (fun _ _ _ _ h=>h) rfl rfl rfl rfl rfl<|ga_nu (i:=11) (bz 21 4095) rfl (by kernel_rfl) (fun _ _ _ _ h=>h) rfl rfl rfl rfl rfl<|ga_nu (i:=12) (bz 21 8191) rfl (by kernel_rfl) (fun _ _ _ _ h=>h) rfl rfl rfl rfl rfl<|ga_nu (i:=13) (bz 21 16383) rfl (by kernel_rfl) (fun _ _ _ _ h=>h) rfl rfl rfl rfl rfl<|ga_nu (i:=14) (bz 21 32767) rfl (by kernel_rfl) (fun _ _ _ _ h=>h) rfl rfl rfl rfl rfl ?_
    refine ga_nu (i:=15) (bz 21 65535) rfl (by kernel_rfl) (fun _ _ _ _ h=>h) rfl rfl rfl rfl rfl<|ga_nu (i:=16) (bz 21 131071) rfl (by kernel_rfl) (fun _ _ _ _ h=>h) rfl rfl rfl rfl rfl<|ga_nu (i:=17) (bz 21 262143) rfl (by kernel_rfl) (fun _ _ _ _ h=>h) rfl rfl rfl rfl rfl<|ga_nu (i:=18) (bz 21 524287) rfl (by kernel_rfl) (fun _ _ _ _ h=>h) rfl rfl rfl rfl rfl<|ga_no (i:=19) (bz 21 1048575) rfl (by kernel_rfl) (fun _ _ _ _ h=>h) rfl rfl rfl rfl rfl h157<|ga_r (i:=20) (bz 21 2097151) rfl (by kernel_rfl) (by decide) rfl (r_pick1 rfl h157)<|ga_done (by kernel_rfl)<|d_then ?_
    refine c_flat [(0,.slice Ap0_0 p0.length cp0_0),(1,.int .i64 p1),(2,.func (.func 51) #[] #[]),(3,.func (.func 52) #[] #[]),(11,.slice Ap0_0 p0.length cp0_0),(12,.int .i64 (p0.length : Int)),(13,.int .i64 i79),(38,.bool true)] ⟨rfl,rfl,rfl,rfl,rfl,rfl,rfl,rfl,trivial⟩ (fun u=>?_)
    refine c_sta ⟨w0,M,(100100,g130,.cells #[.string x126.fName,.string x126.fText] 55 (0,0))::H,R,φ⟩ (fun _ h=>h)<|c_cond1 rfl rfl<|c_seq<|c_region<|g_v rfl r_assign<|g_nil<|d_then<|c_ret<|d_ret_block<|d_ret_then ?_
    refine d_ret_then<|d_ret_block<|d_ret_then<|d_ret_then ?_
    replace hm:=nx_out (C:=(fun e : Unit ⊕ Bool=>Sum.elim (fun e=>m_conf_all_50_j1 p0 p1) (fun x=>some x) e = some r)) hm hnx2 hr2
    replace hm : some false = some r:=hm
    cases hm
    exact d_retC () Tryz.results50 (res_tmp (res_nil rfl)) trivial (fun W h=>ok_pre (H1:=[_]) (R1:=[]) h (fun W hφ=>hφ)) (.inr rfl)
   have h157' : x155 = true:=by revert h157; cases x155 <;> simp
   replace hm:=ite_t hm h157'
   refine ga_rG (i:=5) (bz 21 63) rfl (by kernel_rfl) (by decide) rfl rfl rfl rfl rfl h157 (r_move)<|ga_rG (i:=6) (bz 21 127) rfl (by kernel_rfl) (by decide) rfl rfl rfl rfl rfl h157 (r_gtr rfl rfl)<|ga_rG (i:=7) (bz 21 255) rfl (by kernel_rfl) (by decide) rfl rfl rfl rfl rfl h157 (r_move) ?_
   refine ga_if (t:=25) rfl (fun h158=>?_) (fun h158=>?_)
   ·
    replace hm:=ite_t hm (of_decide_eq_true h158)
    refine ga_do (i:=8) (bz 21 511) rfl (by kernel_rfl) (fun _ _ _ _ h=>h) rfl rfl rfl rfl rfl h158 (r_move)<|ga_do (i:=9) (bz 21 1023) rfl (by kernel_rfl) (fun _ _ _ _ h=>h) rfl rfl rfl rfl rfl h158 (r_loadA (tag:=100100) rfl rfl Tryz.isAgg55 Tryz.sizeOf55 rfl rfl)<|ga_do (i:=11) (bz 21 3071) rfl (by kernel_rfl) (fun _ _ _ _ h=>h) rfl rfl rfl rfl rfl h158 (r_move)<|ga_do (i:=12) (bz 21 7167) rfl (by kernel_rfl) (fun _ _ _ _ h=>h) rfl rfl rfl rfl rfl h158 (r_move)<|ga_do (i:=13) (bz 21 15359) rfl (by kernel_rfl) (fun _ _ _ _ h=>h) rfl rfl rfl rfl rfl h158 (r_move)<|ga_do (i:=14) (bz 21 31743) rfl (by kernel_rfl) (fun _ _ _ _ h=>h) rfl rfl rfl rfl rfl h158 (r_sub rfl rfl rfl) ?_
    replace hm:=bnd hm
    obtain ⟨x159,hx159,hm⟩:=hm
    refine ga_know _ (fun W hS=>cl_at (p:=(Sta.mk w0 M H R φ).ok) (sz:=2) (fun _=>rfl) (by decide) (ok_pre (H1:=[_]) (R1:=[]) hS (fun W h=>h)) fp0_0 hx159) ?_
    rintro ⟨ad160,hA162,f161⟩
    refine ga_do (i:=15) (bz 21 64511) rfl (by kernel_rfl) (fun _ _ _ _ h=>h) rfl rfl rfl rfl rfl h158 (r_ix Tryz.underlying27 Tryz.sizeOf55 rfl hA162 rfl hx159)<|ga_do (i:=16) (bz 21 130047) rfl (by kernel_rfl) (fun _ _ _ _ h=>h) rfl rfl rfl rfl rfl h158 (r_ldA rfl Tryz.isAgg55 Tryz.sizeOf55 (fun W hS=>(f161 W (ok_pre (H1:=[_]) (R1:=[]) hS (fun W h=>h))).take 2) rfl) ?_
    replace hm:=bnd hm
    obtain ⟨x163,hx164,hm⟩:=hm
    refine ga_cnG (first:=#[]) (i:=10) (bz 21 131071) rfl (by kernel_rfl) (by decide) rfl rfl rfl rfl h158  ⟨w0,M,_,_,φ⟩ (fun _ h=>h) Tryz.call51 rfl rfl rfl (c_conf_Right_c3 x126 _ hx164) (fun _ W _ h=>h.phi (fun W hφ=>hφ)) (fun _ _=>?_)
    replace hm:=bnd hm
    obtain ⟨x165,hx166,hm⟩:=hm
    refine ga_cnG (first:=#[]) (i:=17) (bz 21 262143) rfl (by kernel_rfl) (by decide) rfl rfl rfl rfl h158  ⟨w0,M,_,_,φ⟩ (fun _ h=>h) Tryz.call51 rfl rfl rfl (c_conf_Right_c3 x159 _ hx166) (fun _ W _ h=>h.phi (fun W hφ=>hφ)) (fun _ _=>?_)
    refine ga_rG (i:=18) (bz 21 524287) rfl (by kernel_rfl) (by decide) rfl rfl rfl rfl rfl h158 (r_leqT rfl rfl)<|ga_rG (i:=19) (bz 21 1048575) rfl (by kernel_rfl) (by decide) rfl rfl rfl rfl rfl h157 (r_pick1 rfl h158)<|ga_r (i:=20) (bz 21 2097151) rfl (by kernel_rfl) (by decide) rfl (r_pick0 rfl h157)<|ga_done (by kernel_rfl)<|d_then ?_
    refine c_flat [(0,.slice Ap0_0 p0.length cp0_0),(1,.int .i64 p1),(2,.func (.func 51) #[] #[]),(3,.func (.func 52) #[] #[]),(11,.slice Ap0_0 p0.length cp0_0),(12,.int .i64 (p0.length : Int)),(13,.int .i64 i79),(38,.bool (sless x163 x165 || decide (x163 = x165)))] ⟨rfl,rfl,rfl,rfl,rfl,rfl,rfl,rfl,trivial⟩ (fun u=>?_)
    refine c_sta ⟨w0,M,(100100,g130,.cells #[.string x126.fName,.string x126.fText] 55 (0,0))::H,R,φ⟩ (fun _ h=>h) ?_
    refine c_cond rfl (fun h167=>?_) (fun h167=>?_)
    ·
     replace hm:=ite_t hm h167
     refine c_seq<|c_region<|g_v rfl r_assign<|g_nil<|d_then<|c_ret<|d_ret_block<|d_ret_then<|d_ret_then<|d_ret_block ?_
     refine d_ret_then<|d_ret_then ?_
     replace hm:=nx_out (C:=(fun e : Unit ⊕ Bool=>Sum.elim (fun e=>m_conf_all_50_j1 p0 p1) (fun x=>some x) e = some r)) hm hnx2 hr2
     replace hm : some false = some r:=hm
     cases hm
     exact d_retC () Tryz.results50 (res_tmp (res_nil rfl)) trivial (fun W h=>ok_pre (H1:=[_]) (R1:=[]) h (fun W hφ=>hφ)) (.inr rfl)
    replace hm:=ite_f hm (bool_nt h167)
    refine c_skip<|d_normal_block<|d_then<|c_region<|g_v rfl (r_add rfl rfl rfl)<|g_v rfl r_move<|g_nil ?_
    obtain ⟨n168,hn168,hlp⟩:=nx_inl hm hnx2
    exact d_round (n168,w64 (i79 + 1)) hlp hn168 ⟨rfl,rfl,rfl,rfl,rfl,rfl,rfl,trivial⟩ (fun W h=>(h.dropH (t:=100100) rfl).phi (fun W hφ=>hφ))
   replace hm:=ite_f hm (of_decide_eq_false h158)
   refine ga_no (i:=8) (bz 21 511) rfl (by kernel_rfl) (fun _ _ _ _ h=>h) rfl rfl rfl rfl rfl h158<|ga_no (i:=9) (bz 21 1023) rfl (by kernel_rfl) (fun _ _ _ _ h=>h) rfl rfl rfl rfl rfl h158<|ga_no (i:=10) (bz 21 2047) rfl (by kernel_rfl) (fun _ _ _ _ h=>h) rfl rfl rfl rfl rfl h158<|ga_no (i:=11) (bz 21 4095) rfl (by kernel_rfl) (fun _ _ _ _ h=>h) rfl rfl rfl rfl rfl h158<|ga_no (i:=12) (bz 21 8191) rfl (by kernel_rfl) (fun _ _ _ _ h=>h) rfl rfl rfl rfl rfl h158<|ga_no (i:=13) (bz 21 16383) rfl (by kernel_rfl) (fun _ _ _ _ h=>h) rfl rfl rfl rfl rfl h158<|ga_no (i:=14) (bz 21 32767) rfl (by kernel_rfl) (fun _ _ _ _ h=>h) rfl rfl rfl rfl rfl h158<|ga_no (i:=15) (bz 21 65535) rfl (by kernel_rfl) (fun _ _ _ _ h=>h) rfl rfl rfl rfl rfl h158<|ga_no (i:=16) (bz 21 131071) rfl (by kernel_rfl) (fun _ _ _ _ h=>h) rfl rfl rfl rfl rfl h158<|ga_no (i:=17) (bz 21 262143) rfl (by kernel_rfl) (fun _ _ _ _ h=>h) rfl rfl rfl rfl rfl h158 ?_
   refine ga_no (i:=18) (bz 21 524287) rfl (by kernel_rfl) (fun _ _ _ _ h=>h) rfl rfl rfl rfl rfl h158<|ga_rG (i:=19) (bz 21 1048575) rfl (by kernel_rfl) (by decide) rfl rfl rfl rfl rfl h157 (r_pick0 rfl h158)<|ga_r (i:=20) (bz 21 2097151) rfl (by kernel_rfl) (by decide) rfl (r_pick0 rfl h157)<|ga_done (by kernel_rfl)<|d_then ?_
   refine c_flat [(0,.slice Ap0_0 p0.length cp0_0),(1,.int .i64 p1),(2,.func (.func 51) #[] #[]),(3,.func (.func 52) #[] #[]),(11,.slice Ap0_0 p0.length cp0_0),(12,.int .i64 (p0.length : Int)),(13,.int .i64 i79),(38,.bool false)] ⟨rfl,rfl,rfl,rfl,rfl,rfl,rfl,rfl,trivial⟩ (fun u=>?_)
   refine c_sta ⟨w0,M,(100100,g130,.cells #[.string x126.fName,.string x126.fText] 55 (0,0))::H,R,φ⟩ (fun _ h=>h)<|c_cond0 rfl rfl<|c_skip<|d_normal_block<|d_then<|c_region<|g_v rfl (r_add rfl rfl rfl)<|g_v rfl r_move<|g_nil ?_
   obtain ⟨n169,hn169,hlp⟩:=nx_inl hm hnx2
   exact d_round (n169,w64 (i79 + 1)) hlp hn169 ⟨rfl,rfl,rfl,rfl,rfl,rfl,rfl,trivial⟩ (fun W h=>(h.dropH (t:=100100) rfl).phi (fun W hφ=>hφ))
  replace hm:=ite_f hm (of_decide_eq_false h125)
  refine c_exit<|d_exit_then<|d_exit_then<|d_exit_block ?_
  replace hm:=nx_out (C:=(fun e : Unit ⊕ Bool=>Sum.elim (fun e=>m_conf_all_50_j1 p0 p1) (fun x=>some x) e = some r)) hm hnx2 hr2
  exact d_round () hm Nat.zero_lt_one ⟨rfl,rfl,trivial⟩ (fun W h=>h.phi (fun W hφ=>hφ))
 unfold m_conf_all_50_j1 at hm
 refine d_flat [(0,.slice Ap0_0 p0.length cp0_0),(1,.int .i64 p1)] ⟨rfl,rfl,trivial⟩ (fun u=>?_)
 refine d_sta ⟨w0,M,H,R,φ⟩ (fun _ h=>h)<|d_then<|c_seq<|c_region<|g_v rfl r_move<|g_v rfl (r_lenL Tryz.underlying27 rfl)<|g_v rfl r_move<|g_v rfl (r_leq rfl rfl)<|g_v rfl r_assign<|g_nil ?_
 refine d_then<|c_ret ?_
 cases hm
 exact d_retC () Tryz.results50 (res_tmp (res_nil rfl)) trivial (fun W h=>ok_pre (H1:=[]) (R1:=[]) h (fun W hφ=>hφ)) (.inr rfl)
noncomputable def m_conf_Right_c6 (p0 : GFlush) (o0 : GConf) : Option Bool:=
  (m_conf_named p0.fZone).bind fun x16=>
  if x16 = true then
    (m_name_Lower p0.fZone).bind fun x19=>
    if x19 = p0.fZone then
      if 1 ≤ p0.fEpoch then
        some (decide (p0.fEpoch ≤ o0.fEpoch))
      else
        some false
    else
      some false
  else
    some false
theorem c_conf_Right_c6 {w0 : World} {M : Nat→Prop} {H : List (Nat×Nat×Obj)} {R : List (Nat×Row)} {φ : World→Prop} (p0 : GFlush) (go0 : Nat) (o0 : GConf) (Ao0_0 : Option Addr) (co0_0 : Nat) (hco0_0 : o0.fRing.length ≤ co0_0) (fo0_0 : ∀ W,φ W→Cl W Ao0_0 (o0.fRing.flatMap (fun x : Int=>[Value.int .i64 x]))) (Ao0_1 : Option Addr) (co0_1 : Nat) (hco0_1 : o0.fHints.length ≤ co0_1) (fo0_1 : ∀ W,φ W→Cl W Ao0_1 (o0.fHints.flatMap (fun x : ByteArray=>[Value.string x]))) (Ao0_2 : Option Addr) (co0_2 : Nat) (hco0_2 : o0.fAnchors.length ≤ co0_2) (fo0_2 : ∀ W,φ W→Cl W Ao0_2 (o0.fAnchors.flatMap GAnchor.enc)) (Ao0_3 : Option Addr) (co0_3 : Nat) (hco0_3 : o0.fFlushes.length ≤ co0_3) (fo0_3 : ∀ W,φ W→Cl W Ao0_3 (o0.fFlushes.flatMap GFlush.enc)) (r : Bool) (hm : m_conf_Right_c6 p0 o0 = some r) :
    Cn Tryz.prog 56 #[.agg #[.int .i64 p0.fEpoch,.string p0.fZone],.pointer (some ⟨go0,0,none⟩)] ⟨w0,M,(1000,go0,.cells #[.slice Ao0_0 o0.fRing.length co0_0,.slice Ao0_1 o0.fHints.length co0_1,.slice Ao0_2 o0.fAnchors.length co0_2,.int .i64 o0.fEpoch,.slice Ao0_3 o0.fFlushes.length co0_3] 30 (0,0))::H,R,φ⟩ (fun x : Unit=>.bool r) (fun x=>True) (fun x=>⟨w0,M,(1000,go0,.cells #[.slice Ao0_0 o0.fRing.length co0_0,.slice Ao0_1 o0.fHints.length co0_1,.slice Ao0_2 o0.fAnchors.length co0_2,.int .i64 o0.fEpoch,.slice Ao0_3 o0.fFlushes.length co0_3] 30 (0,0))::H,R,φ⟩):=by
 unfold m_conf_Right_c6 at hm
 refine cn_intro (fn:=Tryz.f56) (N:=27) Tryz.func56 rfl Tryz.ntmps56 rfl<|c_seq<|c_region ?_
 refine g_e rfl (e_box 100020 rfl) (fun g1 _=>?_)
 refine g_v rfl r_assign<|g_nil<|d_then<|c_seq<|ga_start (n:=24) ⟨w0,M,(100020,g1,.cells #[.int .i64 p0.fEpoch,.string p0.fZone] 48 (0,0))::(1000,go0,.cells #[.slice Ao0_0 o0.fRing.length co0_0,.slice Ao0_1 o0.fHints.length co0_1,.slice Ao0_2 o0.fAnchors.length co0_2,.int .i64 o0.fEpoch,.slice Ao0_3 o0.fFlushes.length co0_3] 30 (0,0))::H,R,φ⟩ [] #[false,false,false,false,false,false,false,false,false,false,false,false,false,false,false,false,false,false,false,false,false,false,false,false] (fun W h=>h.phi (fun W hφ=>hφ)) mixed rfl rfl<|ga_r (i:=0) (bz 24 1) rfl (by kernel_rfl) (by decide) rfl (r_field (n:=1) Tryz.underlying48 rfl Tryz.sizeOf9 rfl rfl)<|ga_r (i:=1) (bz 24 3) rfl (by kernel_rfl) (by decide) rfl (r_load (tag:=100020) rfl rfl rfl Tryz.isAgg9) ?_
 replace hm:=bnd hm
 obtain ⟨x16,hx17,hm⟩:=hm
 refine ga_cn (first:=#[]) (i:=2) (bz 24 7) rfl (by kernel_rfl) (by decide)  ⟨w0,M,_,_,φ⟩ (fun _ h=>h) Tryz.call53 rfl rfl rfl (c_conf_named p0.fZone _ hx17) (fun _ W _ h=>h.phi (fun W hφ=>hφ)) (fun _ _=>?_)
 refine ga_r (i:=3) (bz 24 15) rfl (by kernel_rfl) (by decide) rfl (r_move) ?_
 refine ga_if (t:=7) rfl (fun h18=>?_) (fun h18=>?_)
 ·
  replace hm:=ite_t hm h18
  refine ga_do (i:=4) (bz 24 31) rfl (by kernel_rfl) (fun _ _ _ _ h=>h) rfl rfl rfl rfl rfl h18 (r_field (n:=1) Tryz.underlying48 rfl Tryz.sizeOf9 rfl rfl)<|ga_do (i:=5) (bz 24 63) rfl (by kernel_rfl) (fun _ _ _ _ h=>h) rfl rfl rfl rfl rfl h18 (r_load (tag:=100020) rfl rfl rfl Tryz.isAgg9)<|ga_do (i:=7) (bz 24 191) rfl (by kernel_rfl) (fun _ _ _ _ h=>h) rfl rfl rfl rfl rfl h18 (r_field (n:=1) Tryz.underlying48 rfl Tryz.sizeOf9 rfl rfl)<|ga_do (i:=8) (bz 24 447) rfl (by kernel_rfl) (fun _ _ _ _ h=>h) rfl rfl rfl rfl rfl h18 (r_load (tag:=100020) rfl rfl rfl Tryz.isAgg9) ?_
  replace hm:=bnd hm
  obtain ⟨x19,hx20,hm⟩:=hm
  refine ga_cnG (first:=#[]) (i:=6) (bz 24 511) rfl (by kernel_rfl) (by decide) rfl rfl rfl rfl h18  ⟨w0,M,_,_,φ⟩ (fun _ h=>h) Tryz.call37 rfl rfl rfl (c_name_Lower p0.fZone _ hx20) (fun _ W _ h=>h.phi (fun W hφ=>hφ)) (fun _ _=>?_)
  refine ga_rG (i:=9) (bz 24 1023) rfl (by kernel_rfl) (by decide) rfl rfl rfl rfl rfl h18 (r_eqlT rfl rfl)<|ga_r (i:=10) (bz 24 2047) rfl (by kernel_rfl) (by decide) rfl (r_pick1 rfl h18)<|ga_r (i:=11) (bz 24 4095) rfl (by kernel_rfl) (by decide) rfl (r_move) ?_
  refine ga_if (t:=15) rfl (fun h21=>?_) (fun h21=>?_)
  ·
   replace hm:=ite_t hm (of_decide_eq_true h21)
   refine ga_rG (i:=12) (bz 24 8191) rfl (by kernel_rfl) (by decide) rfl rfl rfl rfl rfl h21 (r_field (n:=0) Tryz.underlying48 rfl Tryz.sizeOf3 rfl rfl)<|ga_rG (i:=13) (bz 24 16383) rfl (by kernel_rfl) (by decide) rfl rfl rfl rfl rfl h21 (r_load (tag:=100020) rfl rfl rfl Tryz.isAgg3)<|ga_rG (i:=14) (bz 24 32767) rfl (by kernel_rfl) (by decide) rfl rfl rfl rfl rfl h21 (r_geq rfl rfl)<|ga_r (i:=15) (bz 24 65535) rfl (by kernel_rfl) (by decide) rfl (r_pick1 rfl h21)<|ga_r (i:=16) (bz 24 131071) rfl (by kernel_rfl) (by decide) rfl (r_move) ?_
   refine ga_if (t:=20) rfl (fun h22=>?_) (fun h22=>?_)
   ·
    replace hm:=ite_t hm (of_decide_eq_true h22)
    refine ga_do (i:=17) (bz 24 262143) rfl (by kernel_rfl) (fun _ _ _ _ h=>h) rfl rfl rfl rfl rfl h22 (r_field (n:=0) Tryz.underlying48 rfl Tryz.sizeOf3 rfl rfl)<|ga_do (i:=18) (bz 24 524287) rfl (by kernel_rfl) (fun _ _ _ _ h=>h) rfl rfl rfl rfl rfl h22 (r_load (tag:=100020) rfl rfl rfl Tryz.isAgg3)<|ga_rG (i:=19) (bz 24 1048575) rfl (by kernel_rfl) (by decide) rfl rfl rfl rfl rfl h22 (r_field (n:=3) Tryz.underlying30 rfl Tryz.sizeOf3 rfl rfl)<|ga_rG (i:=20) (bz 24 2097151) rfl (by kernel_rfl) (by decide) rfl rfl rfl rfl rfl h22 (r_load (tag:=1000) rfl rfl rfl Tryz.isAgg3)<|ga_rG (i:=21) (bz 24 4194303) rfl (by kernel_rfl) (by decide) rfl rfl rfl rfl rfl h22 (r_leq rfl rfl)<|ga_r (i:=22) (bz 24 8388607) rfl (by kernel_rfl) (by decide) rfl (r_pick1 rfl h22)<|ga_r (i:=23) (bz 24 16777215) rfl (by kernel_rfl) (by decide) rfl (r_assign)<|ga_done (by kernel_rfl)<|d_then ?_
    refine c_flat [(3,.bool (decide (p0.fEpoch ≤ o0.fEpoch)))] ⟨rfl,trivial⟩ (fun u=>?_)
    refine c_sta ⟨w0,M,(100020,g1,.cells #[.int .i64 p0.fEpoch,.string p0.fZone] 48 (0,0))::(1000,go0,.cells #[.slice Ao0_0 o0.fRing.length co0_0,.slice Ao0_1 o0.fHints.length co0_1,.slice Ao0_2 o0.fAnchors.length co0_2,.int .i64 o0.fEpoch,.slice Ao0_3 o0.fFlushes.length co0_3] 30 (0,0))::H,R,φ⟩ (fun _ h=>h)<|c_ret ?_
    cases hm
    exact d_retC () Tryz.results56 (res_tmp (res_nil rfl)) trivial (fun W h=>(h.dropH (t:=100020) rfl).phi (fun W hφ=>hφ)) (.inr rfl)
   replace hm:=ite_f hm (of_decide_eq_false h22)
   refine ga_no (i:=17) (bz 24 262143) rfl (by kernel_rfl) (fun _ _ _ _ h=>h) rfl rfl rfl rfl rfl h22<|ga_no (i:=18) (bz 24 524287) rfl (by kernel_rfl) (fun _ _ _ _ h=>h) rfl rfl rfl rfl rfl h22<|ga_no (i:=19) (bz 24 1048575) rfl (by kernel_rfl) (fun _ _ _ _ h=>h) rfl rfl rfl rfl rfl h22<|ga_no (i:=20) (bz 24 2097151) rfl (by kernel_rfl) (fun _ _ _ _ h=>h) rfl rfl rfl rfl rfl h22<|ga_no (i:=21) (bz 24 4194303) rfl (by kernel_rfl) (fun _ _ _ _ h=>h) rfl rfl rfl rfl rfl h22<|ga_r (i:=22) (bz 24 8388607) rfl (by kernel_rfl) (by decide) rfl (r_pick0 rfl h22)<|ga_r (i:=23) (bz 24 16777215) rfl (by kernel_rfl) (by decide) rfl (r_assign)<|ga_done (by kernel_rfl)<|d_then ?_
   refine c_flat [(3,.bool false)] ⟨rfl,trivial⟩ (fun u=>?_)
   refine c_sta ⟨w0,M,(100020,g1,.cells #[.int .i64 p0.fEpoch,.string p0.fZone] 48 (0,0))::(1000,go0,.cells #[.slice Ao0_0 o0.fRing.length co0_0,.slice Ao0_1 o0.fHints.length co0_1,.slice Ao0_2 o0.fAnchors.length co0_2,.int .i64 o0.fEpoch,.slice Ao0_3 o0.fFlushes.length co0_3] 30 (0,0))::H,R,φ⟩ (fun _ h=>h)<|c_ret ?_
   cases hm
   exact d_retC () Tryz.results56 (res_tmp (res_nil rfl)) trivial (fun W h=>(h.dropH (t:=100020) rfl).phi (fun W hφ=>hφ)) (.inr rfl)
  replace hm:=ite_f hm (of_decide_eq_false h21)
  refine ga_no (i:=12) (bz 24 8191) rfl (by kernel_rfl) (fun _ _ _ _ h=>h) rfl rfl rfl rfl rfl h21<|ga_no (i:=13) (bz 24 16383) rfl (by kernel_rfl) (fun _ _ _ _ h=>h) rfl rfl rfl rfl rfl h21<|ga_no (i:=14) (bz 24 32767) rfl (by kernel_rfl) (fun _ _ _ _ h=>h) rfl rfl rfl rfl rfl h21<|ga_r (i:=15) (bz 24 65535) rfl (by kernel_rfl) (by decide) rfl (r_pick0 rfl h21)<|ga_r (i:=16) (bz 24 131071) rfl (by kernel_rfl) (by decide) rfl (r_move)<|ga_no (i:=17) (bz 24 262143) rfl (by kernel_rfl) (fun _ _ _ _ h=>h) rfl rfl rfl rfl rfl rfl<|ga_no (i:=18) (bz 24 524287) rfl (by kernel_rfl) (fun _ _ _ _ h=>h) rfl rfl rfl rfl rfl rfl<|ga_no (i:=19) (bz 24 1048575) rfl (by kernel_rfl) (fun _ _ _ _ h=>h) rfl rfl rfl rfl rfl rfl<|ga_no (i:=20) (bz 24 2097151) rfl (by kernel_rfl) (fun _ _ _ _ h=>h) rfl rfl rfl rfl rfl rfl<|ga_no (i:=21) (bz 24 4194303) rfl (by kernel_rfl) (fun _ _ _ _ h=>h) rfl rfl rfl rfl rfl rfl ?_
  refine ga_r (i:=22) (bz 24 8388607) rfl (by kernel_rfl) (by decide) rfl (r_pick0 rfl rfl)<|ga_r (i:=23) (bz 24 16777215) rfl (by kernel_rfl) (by decide) rfl (r_assign)<|ga_done (by kernel_rfl)<|d_then ?_
  refine c_flat [(3,.bool false)] ⟨rfl,trivial⟩ (fun u=>?_)
  refine c_sta ⟨w0,M,(100020,g1,.cells #[.int .i64 p0.fEpoch,.string p0.fZone] 48 (0,0))::(1000,go0,.cells #[.slice Ao0_0 o0.fRing.length co0_0,.slice Ao0_1 o0.fHints.length co0_1,.slice Ao0_2 o0.fAnchors.length co0_2,.int .i64 o0.fEpoch,.slice Ao0_3 o0.fFlushes.length co0_3] 30 (0,0))::H,R,φ⟩ (fun _ h=>h)<|c_ret ?_
  cases hm
  exact d_retC () Tryz.results56 (res_tmp (res_nil rfl)) trivial (fun W h=>(h.dropH (t:=100020) rfl).phi (fun W hφ=>hφ)) (.inr rfl)
 replace hm:=ite_f hm (bool_nt h18)
 refine ga_no (i:=4) (bz 24 31) rfl (by kernel_rfl) (fun _ _ _ _ h=>h) rfl rfl rfl rfl rfl h18<|ga_no (i:=5) (bz 24 63) rfl (by kernel_rfl) (fun _ _ _ _ h=>h) rfl rfl rfl rfl rfl h18<|ga_no (i:=6) (bz 24 127) rfl (by kernel_rfl) (fun _ _ _ _ h=>h) rfl rfl rfl rfl rfl h18<|ga_no (i:=7) (bz 24 255) rfl (by kernel_rfl) (fun _ _ _ _ h=>h) rfl rfl rfl rfl rfl h18<|ga_no (i:=8) (bz 24 511) rfl (by kernel_rfl) (fun _ _ _ _ h=>h) rfl rfl rfl rfl rfl h18<|ga_no (i:=9) (bz 24 1023) rfl (by kernel_rfl) (fun _ _ _ _ h=>h) rfl rfl rfl rfl rfl h18<|ga_r (i:=10) (bz 24 2047) rfl (by kernel_rfl) (by decide) rfl (r_pick0 rfl h18)<|ga_r (i:=11) (bz 24 4095) rfl (by kernel_rfl) (by decide) rfl (r_move)<|ga_no (i:=12) (bz 24 8191) rfl (by kernel_rfl) (fun _ _ _ _ h=>h) rfl rfl rfl rfl rfl rfl<|ga_no (i:=13) (bz 24 16383) rfl (by kernel_rfl) (fun _ _ _ _ h=>h) rfl rfl rfl rfl rfl rfl ?_
 refine ga_no (i:=14) (bz 24 32767) rfl (by kernel_rfl) (fun _ _ _ _ h=>h) rfl rfl rfl rfl rfl rfl<|ga_r (i:=15) (bz 24 65535) rfl (by kernel_rfl) (by decide) rfl (r_pick0 rfl rfl)<|ga_r (i:=16) (bz 24 131071) rfl (by kernel_rfl) (by decide) rfl (r_move)<|ga_no (i:=17) (bz 24 262143) rfl (by kernel_rfl) (fun _ _ _ _ h=>h) rfl rfl rfl rfl rfl rfl<|ga_no (i:=18) (bz 24 524287) rfl (by kernel_rfl) (fun _ _ _ _ h=>h) rfl rfl rfl rfl rfl rfl<|ga_no (i:=19) (bz 24 1048575) rfl (by kernel_rfl) (fun _ _ _ _ h=>h) rfl rfl rfl rfl rfl rfl<|ga_no (i:=20) (bz 24 2097151) rfl (by kernel_rfl) (fun _ _ _ _ h=>h) rfl rfl rfl rfl rfl rfl<|ga_no (i:=21) (bz 24 4194303) rfl (by kernel_rfl) (fun _ _ _ _ h=>h) rfl rfl rfl rfl rfl rfl<|ga_r (i:=22) (bz 24 8388607) rfl (by kernel_rfl) (by decide) rfl (r_pick0 rfl rfl)<|ga_r (i:=23) (bz 24 16777215) rfl (by kernel_rfl) (by decide) rfl (r_assign) ?_
 refine ga_done (by kernel_rfl)<|d_then ?_
 refine c_flat [(3,.bool false)] ⟨rfl,trivial⟩ (fun u=>?_)
 refine c_sta ⟨w0,M,(100020,g1,.cells #[.int .i64 p0.fEpoch,.string p0.fZone] 48 (0,0))::(1000,go0,.cells #[.slice Ao0_0 o0.fRing.length co0_0,.slice Ao0_1 o0.fHints.length co0_1,.slice Ao0_2 o0.fAnchors.length co0_2,.int .i64 o0.fEpoch,.slice Ao0_3 o0.fFlushes.length co0_3] 30 (0,0))::H,R,φ⟩ (fun _ h=>h)<|c_ret ?_
 cases hm
 exact d_retC () Tryz.results56 (res_tmp (res_nil rfl)) trivial (fun W h=>(h.dropH (t:=100020) rfl).phi (fun W hφ=>hφ)) (.inr rfl)
noncomputable def m_conf_Right_c5 (p0 : GFlush) : Option Int:=
  some p0.fEpoch
theorem c_conf_Right_c5 {w0 : World} {M : Nat→Prop} {H : List (Nat×Nat×Obj)} {R : List (Nat×Row)} {φ : World→Prop} (p0 : GFlush) (r : Int) (hm : m_conf_Right_c5 p0 = some r) :
    Cn Tryz.prog 55 #[.agg #[.int .i64 p0.fEpoch,.string p0.fZone]] ⟨w0,M,H,R,φ⟩ (fun x : Unit=>.int .i64 r) (fun x=>True) (fun x=>⟨w0,M,H,R,φ⟩):=by
 unfold m_conf_Right_c5 at hm
 refine cn_intro (fn:=Tryz.f55) (N:=5) Tryz.func55 rfl Tryz.ntmps55 rfl<|c_seq<|c_region ?_
 refine g_e rfl (e_box 100010 rfl) (fun g1 _=>?_)
 refine g_v rfl r_assign<|g_nil<|d_then<|c_seq<|c_region<|g_v rfl (r_field (n:=0) Tryz.underlying48 rfl Tryz.sizeOf3 rfl rfl)<|g_v rfl (r_load (tag:=100010) rfl rfl rfl Tryz.isAgg3)<|g_v rfl r_assign<|g_nil<|d_then ?_
 refine c_ret ?_
 cases hm
 exact d_retC () Tryz.results55 (res_tmp (res_nil rfl)) trivial (fun W h=>ok_pre (H1:=[_]) (R1:=[]) h (fun W hφ=>hφ)) (.inr rfl)
noncomputable def m_conf_all_54_j1 (p0 : List GFlush) (p1 : Int) : Option Bool:=
  some (decide ((p0.length : Int) ≤ p1))
noncomputable def m_conf_all_54_s2 (p0 : List GFlush) (o0 : GConf) (i79 : Int) : Option (Int ⊕ (Unit ⊕ Bool)):=
  if i79 < (p0.length : Int) then
    (at_ p0 i79).bind fun x126=>
    (m_conf_Right_c6 x126 o0).bind fun x155=>
    if x155 = true then
      if 0 < i79 then
        (at_ p0 (w64 (i79 - 1))).bind fun x159=>
        (m_conf_Right_c5 x126).bind fun x163=>
        (m_conf_Right_c5 x159).bind fun x165=>
        if x163 ≤ x165 then
          some (.inr (.inr false))
        else
          some (.inl (w64 (i79 + 1)))
      else
        some (.inl (w64 (i79 + 1)))
    else
      some (.inr (.inr false))
  else
    some (.inr (.inl ()))
noncomputable def m_conf_all_54 (p0 : List GFlush) (p1 : Int) (o0 : GConf) : Option Bool:=
  (loop (fun s=>m_conf_all_54_s2 p0 o0 s) 0).bind fun e=>Sum.elim (fun e=>m_conf_all_54_j1 p0 p1) (fun x=>some x) e
theorem c_conf_all_54 {w0 : World} {M : Nat→Prop} {H : List (Nat×Nat×Obj)} {R : List (Nat×Row)} {φ : World→Prop} (p0 : List GFlush) (Ap0_0 : Option Addr) (cp0_0 : Nat) (hcp0_0 : p0.length ≤ cp0_0) (fp0_0 : ∀ W,(Sta.mk w0 M H R φ).ok W→Cl W Ap0_0 (p0.flatMap GFlush.enc)) (p1 : Int) (go0 : Nat) (o0 : GConf) (Ao0_0 : Option Addr) (co0_0 : Nat) (hco0_0 : o0.fRing.length ≤ co0_0) (fo0_0 : ∀ W,φ W→Cl W Ao0_0 (o0.fRing.flatMap (fun x : Int=>[Value.int .i64 x]))) (Ao0_1 : Option Addr) (co0_1 : Nat) (hco0_1 : o0.fHints.length ≤ co0_1) (fo0_1 : ∀ W,φ W→Cl W Ao0_1 (o0.fHints.flatMap (fun x : ByteArray=>[Value.string x]))) (Ao0_2 : Option Addr) (co0_2 : Nat) (hco0_2 : o0.fAnchors.length ≤ co0_2) (fo0_2 : ∀ W,φ W→Cl W Ao0_2 (o0.fAnchors.flatMap GAnchor.enc)) (Ao0_3 : Option Addr) (co0_3 : Nat) (hco0_3 : o0.fFlushes.length ≤ co0_3) (fo0_3 : ∀ W,φ W→Cl W Ao0_3 (o0.fFlushes.flatMap GFlush.enc)) (r : Bool) (hm : m_conf_all_54 p0 p1 o0 = some r) :
    Cn Tryz.prog 54 #[.slice Ap0_0 p0.length cp0_0,.int .i64 p1,.func (.func 55) #[] #[],.func (.func 56) #[] #[.pointer (some ⟨go0,0,none⟩)]] ⟨w0,M,(1000,go0,.cells #[.slice Ao0_0 o0.fRing.length co0_0,.slice Ao0_1 o0.fHints.length co0_1,.slice Ao0_2 o0.fAnchors.length co0_2,.int .i64 o0.fEpoch,.slice Ao0_3 o0.fFlushes.length co0_3] 30 (0,0))::H,R,φ⟩ (fun x : Unit=>.bool r) (fun x=>True) (fun x=>⟨w0,M,(1000,go0,.cells #[.slice Ao0_0 o0.fRing.length co0_0,.slice Ao0_1 o0.fHints.length co0_1,.slice Ao0_2 o0.fAnchors.length co0_2,.int .i64 o0.fEpoch,.slice Ao0_3 o0.fFlushes.length co0_3] 30 (0,0))::H,R,φ⟩):=by
 unfold m_conf_all_54 at hm
 refine cn_intro (fn:=Tryz.f54) (N:=44) Tryz.func54 rfl Tryz.ntmps54 rfl<|c_seq<|c_region<|g_v rfl r_assign<|g_nil<|d_then<|c_seq<|c_seq<|c_region<|g_v rfl r_move ?_
 refine g_v rfl (r_lenL Tryz.underlying28 rfl)<|g_v rfl r_move<|g_nil<|d_then ?_
 refine c_cut (ι:=Unit) [0,1] (fun _=>[]) (fun _=>⟨w0,M,(1000,go0,.cells #[.slice Ao0_0 o0.fRing.length co0_0,.slice Ao0_1 o0.fHints.length co0_1,.slice Ao0_2 o0.fAnchors.length co0_2,.int .i64 o0.fEpoch,.slice Ao0_3 o0.fFlushes.length co0_3] 30 (0,0))::H,R,φ⟩) (fun _=>m_conf_all_54_j1 p0 p1 = some r) ?_ (fun _ u hm=>?_)
 ·
  refine c_block ?_
  replace hm:=bnd hm
  obtain ⟨out2,hl2,hr2⟩:=hm
  obtain ⟨n124',hl2⟩:=loop_lp hl2
  refine c_loopU (ι:=Nat×Int) [0,1,2,3,11,12,13] (fun ⟨n124,i79⟩=>[(13,.int .i64 i79)]) (fun ⟨n124,i79⟩=>⟨w0,M,(1000,go0,.cells #[.slice Ao0_0 o0.fRing.length co0_0,.slice Ao0_1 o0.fHints.length co0_1,.slice Ao0_2 o0.fAnchors.length co0_2,.int .i64 o0.fEpoch,.slice Ao0_3 o0.fFlushes.length co0_3] 30 (0,0))::H,R,φ⟩) (fun ⟨n124,i79⟩=>Lp (fun s=>m_conf_all_54_s2 p0 o0 s) n124 i79 out2) (fun ⟨n124,i79⟩=>n124) (n124',0) hl2 ⟨rfl,rfl,rfl,rfl,rfl,rfl,rfl,trivial⟩ (fun W h=>h.phi (fun W hφ=>hφ)) (fun ⟨n124,i79⟩ u hlp=>?_)
  obtain ⟨o2,hm,hnx2⟩:=lp_step hlp
  clear hlp
  replace hm : m_conf_all_54_s2 p0 o0 i79 = some o2:=hm
  unfold m_conf_all_54_s2 at hm
  refine c_flat [(0,.slice Ap0_0 p0.length cp0_0),(1,.int .i64 p1),(2,.func (.func 55) #[] #[]),(3,.func (.func 56) #[] #[.pointer (some ⟨go0,0,none⟩)]),(11,.slice Ap0_0 p0.length cp0_0),(12,.int .i64 (p0.length : Int)),(13,.int .i64 i79)] ⟨rfl,rfl,rfl,rfl,rfl,rfl,rfl,trivial⟩ (fun u=>?_)
  refine c_sta ⟨w0,M,(1000,go0,.cells #[.slice Ao0_0 o0.fRing.length co0_0,.slice Ao0_1 o0.fHints.length co0_1,.slice Ao0_2 o0.fAnchors.length co0_2,.int .i64 o0.fEpoch,.slice Ao0_3 o0.fFlushes.length co0_3] 30 (0,0))::H,R,φ⟩ (fun _ h=>h)<|c_seq<|c_region<|g_v rfl (r_lss rfl rfl)<|g_nil<|d_then<|c_seq ?_
  refine c_cond rfl (fun h125=>?_) (fun h125=>?_)
  ·
   replace hm:=ite_t hm (of_decide_eq_true h125)
   refine c_skip<|d_then<|c_seq<|c_block<|c_seq<|c_region<|g_v rfl r_move ?_
   replace hm:=bnd hm
   obtain ⟨x126,hx126,hm⟩:=hm
   refine g_know _ (fun W hS=>cl_at (p:=(Sta.mk w0 M H R φ).ok) (sz:=2) (fun _=>rfl) (by decide) (ok_pre (H1:=[_]) (R1:=[]) hS (fun W h=>h)) fp0_0 hx126) ?_
   rintro ⟨ad127,hA129,f128⟩
   refine g_v rfl (r_ix Tryz.underlying28 Tryz.sizeOf48 rfl hA129 rfl hx126)<|g_v rfl (r_ldA rfl Tryz.isAgg48 Tryz.sizeOf48 (fun W hS=>(f128 W (ok_pre (H1:=[_]) (R1:=[]) hS (fun W h=>h))).take 2) rfl) ?_
   refine g_e rfl (e_alloc 100100 Tryz.zeroValue48) (fun g130 _=>?_)
   refine g_v rfl r_assign<|g_storeL (tag:=100100) rfl rfl rfl rfl Tryz.sizeOf48 rfl rfl<|g_nil<|d_then<|c_seq<|ga_start (n:=21) ⟨w0,M,(100100,g130,.cells #[.int .i64 x126.fEpoch,.string x126.fZone] 48 (0,0))::(1000,go0,.cells #[.slice Ao0_0 o0.fRing.length co0_0,.slice Ao0_1 o0.fHints.length co0_1,.slice Ao0_2 o0.fAnchors.length co0_2,.int .i64 o0.fEpoch,.slice Ao0_3 o0.fFlushes.length co0_3] 30 (0,0))::H,R,φ⟩ [] #[false,false,false,false,false,false,false,false,false,false,false,false,false,false,false,false,false,false,false,false,false] (fun W h=>h.phi (fun W hφ=>hφ)) mixed rfl rfl<|ga_v (i:=0) (bz 21 1) rfl (by kernel_rfl) (fun _ _ _ _ h=>h) rfl (r_move)<|ga_r (i:=1) (bz 21 3) rfl (by kernel_rfl) (by decide) rfl (r_loadA (tag:=100100) rfl rfl Tryz.isAgg48 Tryz.sizeOf48 rfl rfl) ?_
   replace hm:=bnd hm
   obtain ⟨x155,hx156,hm⟩:=hm
   refine ga_cn (first:=#[]) (i:=2) (bz 21 7) rfl (by kernel_rfl) (by decide)  ⟨w0,M,(1000,go0,.cells #[.slice Ao0_0 o0.fRing.length co0_0,.slice Ao0_1 o0.fHints.length co0_1,.slice Ao0_2 o0.fAnchors.length co0_2,.int .i64 o0.fEpoch,.slice Ao0_3 o0.fFlushes.length co0_3] 30 (0,0))::(100100,g130,.cells #[.int .i64 x126.fEpoch,.string x126.fZone] 48 (0,0))::H,R,φ⟩ (fun W h=>(ok_front (t:=1000) (t':=1000) h rfl)) Tryz.call56 rfl rfl rfl (c_conf_Right_c6 x126 go0 o0 Ao0_0 co0_0 hco0_0 (fun W h=>fo0_0 W h) Ao0_1 co0_1 hco0_1 (fun W h=>fo0_1 W h) Ao0_2 co0_2 hco0_2 (fun W h=>fo0_2 W h) Ao0_3 co0_3 hco0_3 (fun W h=>fo0_3 W h) _ hx156) (fun _ W _ h=>(ok_front (t:=100100) (t':=100100) (ok_front (t:=1000) (t':=1000) (ok_front (t:=1000) (t':=1000) h rfl) rfl) rfl).phi (fun W hφ=>hφ)) (fun _ _=>?_)
   refine ga_sta _ (fun W h=>(ok_front (t:=1000) (t':=1000) h rfl))<|ga_r (i:=3) (bz 21 15) rfl (by kernel_rfl) (by decide) rfl (r_not rfl)<|ga_r (i:=4) (bz 21 31) rfl (by kernel_rfl) (by decide) rfl (r_move) ?_
   refine ga_if (t:=22) rfl (fun h157=>?_) (fun h157=>?_)
   ·
    have h157' : x155 = false:=by revert h157; cases x155 <;> simp
    replace hm:=ite_f hm (bool_nt h157')
    refine ga_no (i:=5) (bz 21 63) rfl (by kernel_rfl) (fun _ _ _ _ h=>h) rfl rfl rfl rfl rfl h157<|ga_no (i:=6) (bz 21 127) rfl (by kernel_rfl) (fun _ _ _ _ h=>h) rfl rfl rfl rfl rfl h157<|ga_no (i:=7) (bz 21 255) rfl (by kernel_rfl) (fun _ _ _ _ h=>h) rfl rfl rfl rfl rfl h157<|ga_nu (i:=8) (bz 21 511) rfl (by kernel_rfl) (fun _ _ _ _ h=>h) rfl rfl rfl rfl rfl<|ga_nu (i:=9) (bz 21 1023) rfl (by kernel_rfl) (fun _ _ _ _ h=>h) rfl rfl rfl rfl rfl<|ga_nu (i:=10) (bz 21 2047) rfl (by kernel_rfl) (fun _ _ _ _ h=>h) rfl rfl rfl rfl rfl<|ga_nu (i:=11) (bz 21 4095) rfl (by kernel_rfl) (fun _ _ _ _ h=>h) rfl rfl rfl rfl rfl<|ga_nu (i:=12) (bz 21 8191) rfl (by kernel_rfl) (fun _ _ _ _ h=>h) rfl rfl rfl rfl rfl<|ga_nu (i:=13) (bz 21 16383) rfl (by kernel_rfl) (fun _ _ _ _ h=>h) rfl rfl rfl rfl rfl<|ga_nu (i:=14) (bz 21 32767) rfl (by kernel_rfl) (fun _ _ _ _ h=>h) rfl rfl rfl rfl rfl ?_
    refine ga_nu (i:=15) (bz 21 65535) rfl (by kernel_rfl) (fun _ _ _ _ h=>h) rfl rfl rfl rfl rfl<|ga_nu (i:=16) (bz 21 131071) rfl (by kernel_rfl) (fun _ _ _ _ h=>h) rfl rfl rfl rfl rfl<|ga_nu (i:=17) (bz 21 262143) rfl (by kernel_rfl) (fun _ _ _ _ h=>h) rfl rfl rfl rfl rfl<|ga_nu (i:=18) (bz 21 524287) rfl (by kernel_rfl) (fun _ _ _ _ h=>h) rfl rfl rfl rfl rfl<|ga_no (i:=19) (bz 21 1048575) rfl (by kernel_rfl) (fun _ _ _ _ h=>h) rfl rfl rfl rfl rfl h157<|ga_r (i:=20) (bz 21 2097151) rfl (by kernel_rfl) (by decide) rfl (r_pick1 rfl h157)<|ga_done (by kernel_rfl)<|d_then ?_
    refine c_flat [(0,.slice Ap0_0 p0.length cp0_0),(1,.int .i64 p1),(2,.func (.func 55) #[] #[]),(3,.func (.func 56) #[] #[.pointer (some ⟨go0,0,none⟩)]),(11,.slice Ap0_0 p0.length cp0_0),(12,.int .i64 (p0.length : Int)),(13,.int .i64 i79),(38,.bool true)] ⟨rfl,rfl,rfl,rfl,rfl,rfl,rfl,rfl,trivial⟩ (fun u=>?_)
    refine c_sta ⟨w0,M,(1000,go0,.cells #[.slice Ao0_0 o0.fRing.length co0_0,.slice Ao0_1 o0.fHints.length co0_1,.slice Ao0_2 o0.fAnchors.length co0_2,.int .i64 o0.fEpoch,.slice Ao0_3 o0.fFlushes.length co0_3] 30 (0,0))::(100100,g130,.cells #[.int .i64 x126.fEpoch,.string x126.fZone] 48 (0,0))::H,R,φ⟩ (fun _ h=>h)<|c_cond1 rfl rfl<|c_seq<|c_region<|g_v rfl r_assign<|g_nil<|d_then<|c_ret<|d_ret_block<|d_ret_then ?_
    refine d_ret_then<|d_ret_block<|d_ret_then<|d_ret_then ?_
    replace hm:=nx_out (C:=(fun e : Unit ⊕ Bool=>Sum.elim (fun e=>m_conf_all_54_j1 p0 p1) (fun x=>some x) e = some r)) hm hnx2 hr2
    replace hm : some false = some r:=hm
    cases hm
    exact d_retC () Tryz.results54 (res_tmp (res_nil rfl)) trivial (fun W h=>(h.dropH (t:=100100) rfl).phi (fun W hφ=>hφ)) (.inr rfl)
   have h157' : x155 = true:=by revert h157; cases x155 <;> simp
   replace hm:=ite_t hm h157'
   refine ga_rG (i:=5) (bz 21 63) rfl (by kernel_rfl) (by decide) rfl rfl rfl rfl rfl h157 (r_move)<|ga_rG (i:=6) (bz 21 127) rfl (by kernel_rfl) (by decide) rfl rfl rfl rfl rfl h157 (r_gtr rfl rfl)<|ga_rG (i:=7) (bz 21 255) rfl (by kernel_rfl) (by decide) rfl rfl rfl rfl rfl h157 (r_move) ?_
   refine ga_if (t:=25) rfl (fun h158=>?_) (fun h158=>?_)
   ·
    replace hm:=ite_t hm (of_decide_eq_true h158)
    refine ga_do (i:=8) (bz 21 511) rfl (by kernel_rfl) (fun _ _ _ _ h=>h) rfl rfl rfl rfl rfl h158 (r_move)<|ga_do (i:=9) (bz 21 1023) rfl (by kernel_rfl) (fun _ _ _ _ h=>h) rfl rfl rfl rfl rfl h158 (r_loadA (tag:=100100) rfl rfl Tryz.isAgg48 Tryz.sizeOf48 rfl rfl)<|ga_do (i:=11) (bz 21 3071) rfl (by kernel_rfl) (fun _ _ _ _ h=>h) rfl rfl rfl rfl rfl h158 (r_move)<|ga_do (i:=12) (bz 21 7167) rfl (by kernel_rfl) (fun _ _ _ _ h=>h) rfl rfl rfl rfl rfl h158 (r_move)<|ga_do (i:=13) (bz 21 15359) rfl (by kernel_rfl) (fun _ _ _ _ h=>h) rfl rfl rfl rfl rfl h158 (r_move)<|ga_do (i:=14) (bz 21 31743) rfl (by kernel_rfl) (fun _ _ _ _ h=>h) rfl rfl rfl rfl rfl h158 (r_sub rfl rfl rfl) ?_
    replace hm:=bnd hm
    obtain ⟨x159,hx159,hm⟩:=hm
    refine ga_know _ (fun W hS=>cl_at (p:=(Sta.mk w0 M H R φ).ok) (sz:=2) (fun _=>rfl) (by decide) (ok_pre (H1:=[_,_]) (R1:=[]) hS (fun W h=>h)) fp0_0 hx159) ?_
    rintro ⟨ad160,hA162,f161⟩
    refine ga_do (i:=15) (bz 21 64511) rfl (by kernel_rfl) (fun _ _ _ _ h=>h) rfl rfl rfl rfl rfl h158 (r_ix Tryz.underlying28 Tryz.sizeOf48 rfl hA162 rfl hx159)<|ga_do (i:=16) (bz 21 130047) rfl (by kernel_rfl) (fun _ _ _ _ h=>h) rfl rfl rfl rfl rfl h158 (r_ldA rfl Tryz.isAgg48 Tryz.sizeOf48 (fun W hS=>(f161 W (ok_pre (H1:=[_,_]) (R1:=[]) hS (fun W h=>h))).take 2) rfl) ?_
    replace hm:=bnd hm
    obtain ⟨x163,hx164,hm⟩:=hm
    refine ga_cnG (first:=#[]) (i:=10) (bz 21 131071) rfl (by kernel_rfl) (by decide) rfl rfl rfl rfl h158  ⟨w0,M,_,_,φ⟩ (fun _ h=>h) Tryz.call55 rfl rfl rfl (c_conf_Right_c5 x126 _ hx164) (fun _ W _ h=>(ok_front (t:=100100) (t':=100100) (ok_front (t:=1000) (t':=1000) h rfl) rfl).phi (fun W hφ=>hφ)) (fun _ _=>?_)
    replace hm:=bnd hm
    obtain ⟨x165,hx166,hm⟩:=hm
    refine ga_cnG (first:=#[]) (i:=17) (bz 21 262143) rfl (by kernel_rfl) (by decide) rfl rfl rfl rfl h158  ⟨w0,M,_,_,φ⟩ (fun _ h=>h) Tryz.call55 rfl rfl rfl (c_conf_Right_c5 x159 _ hx166) (fun _ W _ h=>(ok_front (t:=100100) (t':=100100) (ok_front (t:=1000) (t':=1000) h rfl) rfl).phi (fun W hφ=>hφ)) (fun _ _=>?_)
    refine ga_rG (i:=18) (bz 21 524287) rfl (by kernel_rfl) (by decide) rfl rfl rfl rfl rfl h158 (r_leq rfl rfl)<|ga_rG (i:=19) (bz 21 1048575) rfl (by kernel_rfl) (by decide) rfl rfl rfl rfl rfl h157 (r_pick1 rfl h158)<|ga_r (i:=20) (bz 21 2097151) rfl (by kernel_rfl) (by decide) rfl (r_pick0 rfl h157)<|ga_done (by kernel_rfl)<|d_then ?_
    refine c_flat [(0,.slice Ap0_0 p0.length cp0_0),(1,.int .i64 p1),(2,.func (.func 55) #[] #[]),(3,.func (.func 56) #[] #[.pointer (some ⟨go0,0,none⟩)]),(11,.slice Ap0_0 p0.length cp0_0),(12,.int .i64 (p0.length : Int)),(13,.int .i64 i79),(38,.bool (decide (x163 ≤ x165)))] ⟨rfl,rfl,rfl,rfl,rfl,rfl,rfl,rfl,trivial⟩ (fun u=>?_)
    refine c_sta ⟨w0,M,(1000,go0,.cells #[.slice Ao0_0 o0.fRing.length co0_0,.slice Ao0_1 o0.fHints.length co0_1,.slice Ao0_2 o0.fAnchors.length co0_2,.int .i64 o0.fEpoch,.slice Ao0_3 o0.fFlushes.length co0_3] 30 (0,0))::(100100,g130,.cells #[.int .i64 x126.fEpoch,.string x126.fZone] 48 (0,0))::H,R,φ⟩ (fun _ h=>h) ?_
    refine c_cond rfl (fun h167=>?_) (fun h167=>?_)
    ·
     replace hm:=ite_t hm (of_decide_eq_true h167)
     refine c_seq<|c_region<|g_v rfl r_assign<|g_nil<|d_then<|c_ret<|d_ret_block<|d_ret_then<|d_ret_then<|d_ret_block ?_
     refine d_ret_then<|d_ret_then ?_
     replace hm:=nx_out (C:=(fun e : Unit ⊕ Bool=>Sum.elim (fun e=>m_conf_all_54_j1 p0 p1) (fun x=>some x) e = some r)) hm hnx2 hr2
     replace hm : some false = some r:=hm
     cases hm
     exact d_retC () Tryz.results54 (res_tmp (res_nil rfl)) trivial (fun W h=>(h.dropH (t:=100100) rfl).phi (fun W hφ=>hφ)) (.inr rfl)
    replace hm:=ite_f hm (of_decide_eq_false h167)
    refine c_skip<|d_normal_block<|d_then<|c_region<|g_v rfl (r_add rfl rfl rfl)<|g_v rfl r_move<|g_nil ?_
    obtain ⟨n168,hn168,hlp⟩:=nx_inl hm hnx2
    exact d_round (n168,w64 (i79 + 1)) hlp hn168 ⟨rfl,rfl,rfl,rfl,rfl,rfl,rfl,trivial⟩ (fun W h=>(h.dropH (t:=100100) rfl).phi (fun W hφ=>hφ))
   replace hm:=ite_f hm (of_decide_eq_false h158)
   refine ga_no (i:=8) (bz 21 511) rfl (by kernel_rfl) (fun _ _ _ _ h=>h) rfl rfl rfl rfl rfl h158<|ga_no (i:=9) (bz 21 1023) rfl (by kernel_rfl) (fun _ _ _ _ h=>h) rfl rfl rfl rfl rfl h158<|ga_no (i:=10) (bz 21 2047) rfl (by kernel_rfl) (fun _ _ _ _ h=>h) rfl rfl rfl rfl rfl h158<|ga_no (i:=11) (bz 21 4095) rfl (by kernel_rfl) (fun _ _ _ _ h=>h) rfl rfl rfl rfl rfl h158<|ga_no (i:=12) (bz 21 8191) rfl (by kernel_rfl) (fun _ _ _ _ h=>h) rfl rfl rfl rfl rfl h158<|ga_no (i:=13) (bz 21 16383) rfl (by kernel_rfl) (fun _ _ _ _ h=>h) rfl rfl rfl rfl rfl h158<|ga_no (i:=14) (bz 21 32767) rfl (by kernel_rfl) (fun _ _ _ _ h=>h) rfl rfl rfl rfl rfl h158<|ga_no (i:=15) (bz 21 65535) rfl (by kernel_rfl) (fun _ _ _ _ h=>h) rfl rfl rfl rfl rfl h158<|ga_no (i:=16) (bz 21 131071) rfl (by kernel_rfl) (fun _ _ _ _ h=>h) rfl rfl rfl rfl rfl h158<|ga_no (i:=17) (bz 21 262143) rfl (by kernel_rfl) (fun _ _ _ _ h=>h) rfl rfl rfl rfl rfl h158 ?_
   refine ga_no (i:=18) (bz 21 524287) rfl (by kernel_rfl) (fun _ _ _ _ h=>h) rfl rfl rfl rfl rfl h158<|ga_rG (i:=19) (bz 21 1048575) rfl (by kernel_rfl) (by decide) rfl rfl rfl rfl rfl h157 (r_pick0 rfl h158)<|ga_r (i:=20) (bz 21 2097151) rfl (by kernel_rfl) (by decide) rfl (r_pick0 rfl h157)<|ga_done (by kernel_rfl)<|d_then ?_
   refine c_flat [(0,.slice Ap0_0 p0.length cp0_0),(1,.int .i64 p1),(2,.func (.func 55) #[] #[]),(3,.func (.func 56) #[] #[.pointer (some ⟨go0,0,none⟩)]),(11,.slice Ap0_0 p0.length cp0_0),(12,.int .i64 (p0.length : Int)),(13,.int .i64 i79),(38,.bool false)] ⟨rfl,rfl,rfl,rfl,rfl,rfl,rfl,rfl,trivial⟩ (fun u=>?_)
   refine c_sta ⟨w0,M,(1000,go0,.cells #[.slice Ao0_0 o0.fRing.length co0_0,.slice Ao0_1 o0.fHints.length co0_1,.slice Ao0_2 o0.fAnchors.length co0_2,.int .i64 o0.fEpoch,.slice Ao0_3 o0.fFlushes.length co0_3] 30 (0,0))::(100100,g130,.cells #[.int .i64 x126.fEpoch,.string x126.fZone] 48 (0,0))::H,R,φ⟩ (fun _ h=>h)<|c_cond0 rfl rfl<|c_skip<|d_normal_block<|d_then<|c_region<|g_v rfl (r_add rfl rfl rfl)<|g_v rfl r_move<|g_nil ?_
   obtain ⟨n169,hn169,hlp⟩:=nx_inl hm hnx2
   exact d_round (n169,w64 (i79 + 1)) hlp hn169 ⟨rfl,rfl,rfl,rfl,rfl,rfl,rfl,trivial⟩ (fun W h=>(h.dropH (t:=100100) rfl).phi (fun W hφ=>hφ))
  replace hm:=ite_f hm (of_decide_eq_false h125)
  refine c_exit<|d_exit_then<|d_exit_then<|d_exit_block ?_
  replace hm:=nx_out (C:=(fun e : Unit ⊕ Bool=>Sum.elim (fun e=>m_conf_all_54_j1 p0 p1) (fun x=>some x) e = some r)) hm hnx2 hr2
  exact d_round () hm Nat.zero_lt_one ⟨rfl,rfl,trivial⟩ (fun W h=>h.phi (fun W hφ=>hφ))
 unfold m_conf_all_54_j1 at hm
 refine d_flat [(0,.slice Ap0_0 p0.length cp0_0),(1,.int .i64 p1)] ⟨rfl,rfl,trivial⟩ (fun u=>?_)
 refine d_sta ⟨w0,M,(1000,go0,.cells #[.slice Ao0_0 o0.fRing.length co0_0,.slice Ao0_1 o0.fHints.length co0_1,.slice Ao0_2 o0.fAnchors.length co0_2,.int .i64 o0.fEpoch,.slice Ao0_3 o0.fFlushes.length co0_3] 30 (0,0))::H,R,φ⟩ (fun _ h=>h)<|d_then<|c_seq<|c_region<|g_v rfl r_move<|g_v rfl (r_lenL Tryz.underlying28 rfl)<|g_v rfl r_move<|g_v rfl (r_leq rfl rfl)<|g_v rfl r_assign<|g_nil ?_
 refine d_then<|c_ret ?_
 cases hm
 exact d_retC () Tryz.results54 (res_tmp (res_nil rfl)) trivial (fun W h=>h.phi (fun W hφ=>hφ)) (.inr rfl)
noncomputable def m_conf_Right_c7 (p0 : GFlush) (o0 : GFlush) : Option Bool:=
  (m_name_Under p0.fZone o0.fZone).bind fun x2=>
  some x2
theorem c_conf_Right_c7 {w0 : World} {M : Nat→Prop} {H : List (Nat×Nat×Obj)} {R : List (Nat×Row)} {φ : World→Prop} (p0 : GFlush) (go0 : Nat) (o0 : GFlush) (r : Bool) (hm : m_conf_Right_c7 p0 o0 = some r) :
    Cn Tryz.prog 58 #[.agg #[.int .i64 p0.fEpoch,.string p0.fZone],.pointer (some ⟨go0,0,none⟩)] ⟨w0,M,(1000,go0,.cells #[.int .i64 o0.fEpoch,.string o0.fZone] 48 (0,0))::H,R,φ⟩ (fun x : Unit=>.bool r) (fun x=>True) (fun x=>⟨w0,M,(1000,go0,.cells #[.int .i64 o0.fEpoch,.string o0.fZone] 48 (0,0))::H,R,φ⟩):=by
 unfold m_conf_Right_c7 at hm
 refine cn_intro (fn:=Tryz.f58) (N:=9) Tryz.func58 rfl Tryz.ntmps58 rfl<|c_seq<|c_region ?_
 refine g_e rfl (e_box 100020 rfl) (fun g1 _=>?_)
 refine g_v rfl r_assign<|g_nil<|d_then<|c_seq<|c_region<|g_v rfl (r_field (n:=1) Tryz.underlying48 rfl Tryz.sizeOf9 rfl rfl)<|g_v rfl (r_load (tag:=100020) rfl rfl rfl Tryz.isAgg9)<|g_v rfl (r_field (n:=1) Tryz.underlying48 rfl Tryz.sizeOf9 rfl rfl)<|g_v rfl (r_load (tag:=1000) rfl rfl rfl Tryz.isAgg9) ?_
 replace hm:=bnd hm
 obtain ⟨x2,hx3,hm⟩:=hm
 refine g_cn ⟨w0,M,_,_,φ⟩ (fun _ h=>h) Tryz.call22 rfl rfl (c_name_Under p0.fZone o0.fZone _ hx3) (fun _ _=>?_)
 refine g_v rfl r_assign<|g_nil<|d_then<|c_ret ?_
 cases hm
 exact d_retC () Tryz.results58 (res_tmp (res_nil rfl)) trivial (fun W h=>(h.dropH (t:=100020) rfl).phi (fun W hφ=>hφ)) (.inr rfl)
noncomputable def m_slices_IndexFunc_94_2_j1  : Option Int:=
  some (-1)
noncomputable def m_slices_IndexFunc_94_2_s2 (p0 : List GFlush) (o0 : GFlush) (i30 : Int) : Option (Int ⊕ (Unit ⊕ Int)):=
  if i30 < (p0.length : Int) then
    (at_ p0 i30).bind fun x42=>
    (m_conf_Right_c7 x42 o0).bind fun x46=>
    if x46 = true then
      some (.inr (.inr i30))
    else
      some (.inl (w64 (i30 + 1)))
  else
    some (.inr (.inl ()))
noncomputable def m_slices_IndexFunc_94_2 (p0 : List GFlush) (o0 : GFlush) : Option Int:=
  (loop (fun s=>m_slices_IndexFunc_94_2_s2 p0 o0 s) 0).bind fun e=>Sum.elim (fun e=>m_slices_IndexFunc_94_2_j1) (fun x=>some x) e
theorem c_slices_IndexFunc_94_2 {w0 : World} {M : Nat→Prop} {H : List (Nat×Nat×Obj)} {R : List (Nat×Row)} {φ : World→Prop} (p0 : List GFlush) (Ap0_0 : Option Addr) (cp0_0 : Nat) (hcp0_0 : p0.length ≤ cp0_0) (fp0_0 : ∀ W,(Sta.mk w0 M H R φ).ok W→Cl W Ap0_0 (p0.flatMap GFlush.enc)) (go0 : Nat) (o0 : GFlush) (r : Int) (hm : m_slices_IndexFunc_94_2 p0 o0 = some r) :
    Cn Tryz.prog 94 #[.slice Ap0_0 p0.length cp0_0,.func (.func 58) #[] #[.pointer (some ⟨go0,0,none⟩)]] ⟨w0,M,(1000,go0,.cells #[.int .i64 o0.fEpoch,.string o0.fZone] 48 (0,0))::H,R,φ⟩ (fun x : Unit=>.int .i64 r) (fun x=>True) (fun x=>⟨w0,M,(1000,go0,.cells #[.int .i64 o0.fEpoch,.string o0.fZone] 48 (0,0))::H,R,φ⟩):=by
 unfold m_slices_IndexFunc_94_2 at hm
 refine cn_intro (fn:=Tryz.f94) (N:=19) Tryz.func94 rfl Tryz.ntmps94 rfl<|c_seq<|c_region<|g_v rfl r_assign<|g_nil<|d_then<|c_seq<|c_seq<|c_region<|g_v rfl r_move ?_
 refine g_v rfl (r_lenL Tryz.underlying28 rfl)<|g_v rfl r_move<|g_nil<|d_then ?_
 refine c_cut (ι:=Unit) [] (fun _=>[]) (fun _=>⟨w0,M,(1000,go0,.cells #[.int .i64 o0.fEpoch,.string o0.fZone] 48 (0,0))::H,R,φ⟩) (fun _=>m_slices_IndexFunc_94_2_j1 = some r) ?_ (fun _ u hm=>?_)
 ·
  refine c_block ?_
  replace hm:=bnd hm
  obtain ⟨out2,hl2,hr2⟩:=hm
  obtain ⟨n40',hl2⟩:=loop_lp hl2
  refine c_loopU (ι:=Nat×Int) [0,1,7,8] (fun ⟨n40,i30⟩=>[(8,.int .i64 i30)]) (fun ⟨n40,i30⟩=>⟨w0,M,(1000,go0,.cells #[.int .i64 o0.fEpoch,.string o0.fZone] 48 (0,0))::H,R,φ⟩) (fun ⟨n40,i30⟩=>Lp (fun s=>m_slices_IndexFunc_94_2_s2 p0 o0 s) n40 i30 out2) (fun ⟨n40,i30⟩=>n40) (n40',0) hl2 ⟨rfl,rfl,rfl,rfl,trivial⟩ (fun W h=>h.phi (fun W hφ=>hφ)) (fun ⟨n40,i30⟩ u hlp=>?_)
  obtain ⟨o2,hm,hnx2⟩:=lp_step hlp
  clear hlp
  replace hm : m_slices_IndexFunc_94_2_s2 p0 o0 i30 = some o2:=hm
  unfold m_slices_IndexFunc_94_2_s2 at hm
  refine c_flat [(0,.slice Ap0_0 p0.length cp0_0),(1,.func (.func 58) #[] #[.pointer (some ⟨go0,0,none⟩)]),(7,.int .i64 (p0.length : Int)),(8,.int .i64 i30)] ⟨rfl,rfl,rfl,rfl,trivial⟩ (fun u=>?_)
  refine c_sta ⟨w0,M,(1000,go0,.cells #[.int .i64 o0.fEpoch,.string o0.fZone] 48 (0,0))::H,R,φ⟩ (fun _ h=>h)<|c_seq<|c_region<|g_v rfl (r_lss rfl rfl)<|g_nil<|d_then<|c_seq ?_
  refine c_cond rfl (fun h41=>?_) (fun h41=>?_)
  ·
   replace hm:=ite_t hm (of_decide_eq_true h41)
   refine c_skip<|d_then<|c_seq<|c_block<|c_seq<|c_region<|g_v rfl r_move<|g_v rfl r_assign<|g_nil<|d_then ?_
   refine c_seq<|c_region ?_
   iterate 3 refine g_v rfl r_move ?_
   replace hm:=bnd hm
   obtain ⟨x42,hx42,hm⟩:=hm
   refine g_know _ (fun W hS=>cl_at (p:=(Sta.mk w0 M H R φ).ok) (sz:=2) (fun _=>rfl) (by decide) (ok_pre (H1:=[_]) (R1:=[]) hS (fun W h=>h)) fp0_0 hx42) ?_
   rintro ⟨ad43,hA45,f44⟩
   refine g_v rfl (r_ix Tryz.underlying28 Tryz.sizeOf48 rfl hA45 rfl hx42)<|g_v rfl (r_ldA rfl Tryz.isAgg48 Tryz.sizeOf48 (fun W hS=>(f44 W (ok_pre (H1:=[_]) (R1:=[]) hS (fun W h=>h))).take 2) rfl) ?_
   replace hm:=bnd hm
   obtain ⟨x46,hx47,hm⟩:=hm
   refine g_cnv ⟨w0,M,(1000,go0,.cells #[.int .i64 o0.fEpoch,.string o0.fZone] 48 (0,0))::H,R,φ⟩ (fun W h=>(ok_front (t:=1000) (t':=1000) h rfl)) Tryz.call58 rfl rfl rfl (c_conf_Right_c7 x42 go0 o0 _ hx47) (fun _ _=>?_)
   refine g_sta _ (fun W h=>(ok_front (t:=1000) (t':=1000) h rfl))<|g_nil<|d_then ?_
   refine c_flat [(0,.slice Ap0_0 p0.length cp0_0),(1,.func (.func 58) #[] #[.pointer (some ⟨go0,0,none⟩)]),(5,.int .i64 i30),(7,.int .i64 (p0.length : Int)),(8,.int .i64 i30),(16,.bool x46)] ⟨rfl,rfl,rfl,rfl,rfl,rfl,trivial⟩ (fun u=>?_)
   refine c_cond rfl (fun h48=>?_) (fun h48=>?_)
   ·
    replace hm:=ite_t hm h48
    refine c_seq<|c_region<|g_v rfl r_move<|g_v rfl r_assign<|g_nil<|d_then<|c_ret<|d_ret_block<|d_ret_then<|d_ret_then ?_
    refine d_ret_block<|d_ret_then<|d_ret_then ?_
    replace hm:=nx_out (C:=(fun e : Unit ⊕ Int=>Sum.elim (fun e=>m_slices_IndexFunc_94_2_j1) (fun x=>some x) e = some r)) hm hnx2 hr2
    replace hm : some i30 = some r:=hm
    cases hm
    exact d_retC () Tryz.results94 (res_tmp (res_nil rfl)) trivial (fun W h=>h.phi (fun W hφ=>hφ)) (.inr rfl)
   replace hm:=ite_f hm (bool_nt h48)
   refine c_skip<|d_normal_block<|d_then<|c_region<|g_v rfl (r_add rfl rfl rfl)<|g_v rfl r_move<|g_nil ?_
   obtain ⟨n49,hn49,hlp⟩:=nx_inl hm hnx2
   exact d_round (n49,w64 (i30 + 1)) hlp hn49 ⟨rfl,rfl,rfl,rfl,trivial⟩ (fun W h=>h.phi (fun W hφ=>hφ))
  replace hm:=ite_f hm (of_decide_eq_false h41)
  refine c_exit<|d_exit_then<|d_exit_then<|d_exit_block ?_
  replace hm:=nx_out (C:=(fun e : Unit ⊕ Int=>Sum.elim (fun e=>m_slices_IndexFunc_94_2_j1) (fun x=>some x) e = some r)) hm hnx2 hr2
  exact d_round () hm Nat.zero_lt_one trivial (fun W h=>h.phi (fun W hφ=>hφ))
 unfold m_slices_IndexFunc_94_2_j1 at hm
 refine d_flat [] trivial (fun u=>?_)
 refine d_sta ⟨w0,M,(1000,go0,.cells #[.int .i64 o0.fEpoch,.string o0.fZone] 48 (0,0))::H,R,φ⟩ (fun _ h=>h)<|d_then<|c_seq<|c_region<|g_v rfl r_assign<|g_nil<|d_then<|c_ret ?_
 cases hm
 exact d_retC () Tryz.results94 (res_tmp (res_nil rfl)) trivial (fun W h=>h.phi (fun W hφ=>hφ)) (.inr rfl)
noncomputable def m_slices_ContainsFunc_57 (p0 : List GFlush) (o0 : GFlush) : Option Bool:=
  (m_slices_IndexFunc_94_2 p0 o0).bind fun x1=>
  some (decide (0 ≤ x1))
theorem c_slices_ContainsFunc_57 {w0 : World} {M : Nat→Prop} {H : List (Nat×Nat×Obj)} {R : List (Nat×Row)} {φ : World→Prop} (p0 : List GFlush) (Ap0_0 : Option Addr) (cp0_0 : Nat) (hcp0_0 : p0.length ≤ cp0_0) (fp0_0 : ∀ W,(Sta.mk w0 M H R φ).ok W→Cl W Ap0_0 (p0.flatMap GFlush.enc)) (go0 : Nat) (o0 : GFlush) (r : Bool) (hm : m_slices_ContainsFunc_57 p0 o0 = some r) :
    Cn Tryz.prog 57 #[.slice Ap0_0 p0.length cp0_0,.func (.func 58) #[] #[.pointer (some ⟨go0,0,none⟩)]] ⟨w0,M,(1000,go0,.cells #[.int .i64 o0.fEpoch,.string o0.fZone] 48 (0,0))::H,R,φ⟩ (fun x : Unit=>.bool r) (fun x=>True) (fun x=>⟨w0,M,(1000,go0,.cells #[.int .i64 o0.fEpoch,.string o0.fZone] 48 (0,0))::H,R,φ⟩):=by
 unfold m_slices_ContainsFunc_57 at hm
 refine cn_intro (fn:=Tryz.f57) (N:=9) Tryz.func57 rfl Tryz.ntmps57 rfl<|c_seq<|c_region<|g_v rfl r_assign<|g_nil<|d_then<|c_seq<|c_region<|g_v rfl r_move<|g_v rfl r_move ?_
 replace hm:=bnd hm
 obtain ⟨x1,hx2,hm⟩:=hm
 refine g_cn ⟨w0,M,(1000,go0,.cells #[.int .i64 o0.fEpoch,.string o0.fZone] 48 (0,0))::H,R,φ⟩ (fun W h=>(ok_front (t:=1000) (t':=1000) h rfl)) Tryz.call94 rfl rfl (c_slices_IndexFunc_94_2 p0 Ap0_0 cp0_0 hcp0_0 (fun W hS=>fp0_0 W (ok_pre (H1:=[]) (R1:=[]) hS (fun W h=>h))) go0 o0 _ hx2) (fun _ _=>?_)
 refine g_sta _ (fun W h=>(ok_front (t:=1000) (t':=1000) h rfl))<|g_v rfl (r_geq rfl rfl)<|g_v rfl r_assign<|g_nil<|d_then<|c_ret ?_
 cases hm
 exact d_retC () Tryz.results57 (res_tmp (res_nil rfl)) trivial (fun W h=>h.phi (fun W hφ=>hφ)) (.inr rfl)
noncomputable def m_conf_Right_j2  : Option Bool:=
  some true
noncomputable def m_conf_Right_s3 (p0 : GConf) (i56 : Int) : Option (Int ⊕ (Unit ⊕ Bool)):=
  if i56 < (p0.fFlushes.length : Int) then
    (at_ p0.fFlushes i56).bind fun x71=>
    (cutHi p0.fFlushes i56).bind fun l77=>
    (m_slices_ContainsFunc_57 l77 x71).bind fun x78=>
    if x78 = true then
      some (.inr (.inr false))
    else
      some (.inl (w64 (i56 + 1)))
  else
    some (.inr (.inl ()))
noncomputable def m_conf_Right_j1 (p0 : GConf) (b14 : Bool) : Option Bool:=
  if b14 = true then
    if p0.fEpoch < 0 then
      some false
    else
      if 1099511627776 < p0.fEpoch then
        some false
      else
        (loop (fun s=>m_conf_Right_s3 p0 s) 0).bind fun e=>Sum.elim (fun e=>m_conf_Right_j2) (fun x=>some x) e
  else
    some false
noncomputable def m_conf_Right (p0 : GConf) : Option Bool:=
  (m_conf_all_45 p0.fRing 64).bind fun x82=>
  if x82 = true then
    if (p0.fHints.length : Int) ≤ 13 then
      (m_slices_ContainsFunc_47_2 p0.fHints).bind fun x86=>
      if x86 = true then
        m_conf_Right_j1 p0 false
      else
        (m_conf_all_50 p0.fAnchors 16).bind fun x89=>
        if x89 = true then
          (m_conf_all_54 p0.fFlushes 32 p0).bind fun x92=>
          m_conf_Right_j1 p0 x92
        else
          m_conf_Right_j1 p0 false
    else
      m_conf_Right_j1 p0 false
  else
    m_conf_Right_j1 p0 false
theorem c_conf_Right {w0 : World} {M : Nat→Prop} {H : List (Nat×Nat×Obj)} {R : List (Nat×Row)} {φ : World→Prop} (p0 : GConf) (Ap0_0 : Option Addr) (cp0_0 : Nat) (hcp0_0 : p0.fRing.length ≤ cp0_0) (fp0_0 : ∀ W,φ W→Cl W Ap0_0 (p0.fRing.flatMap (fun x : Int=>[Value.int .i64 x]))) (Ap0_1 : Option Addr) (cp0_1 : Nat) (hcp0_1 : p0.fHints.length ≤ cp0_1) (fp0_1 : ∀ W,φ W→Cl W Ap0_1 (p0.fHints.flatMap (fun x : ByteArray=>[Value.string x]))) (Ap0_2 : Option Addr) (cp0_2 : Nat) (hcp0_2 : p0.fAnchors.length ≤ cp0_2) (fp0_2 : ∀ W,φ W→Cl W Ap0_2 (p0.fAnchors.flatMap GAnchor.enc)) (Ap0_3 : Option Addr) (cp0_3 : Nat) (hcp0_3 : p0.fFlushes.length ≤ cp0_3) (fp0_3 : ∀ W,φ W→Cl W Ap0_3 (p0.fFlushes.flatMap GFlush.enc)) (r : Bool) (hm : m_conf_Right p0 = some r) :
    Cn Tryz.prog 13 #[.agg #[.slice Ap0_0 p0.fRing.length cp0_0,.slice Ap0_1 p0.fHints.length cp0_1,.slice Ap0_2 p0.fAnchors.length cp0_2,.int .i64 p0.fEpoch,.slice Ap0_3 p0.fFlushes.length cp0_3]] ⟨w0,M,H,R,φ⟩ (fun x : Unit=>.bool r) (fun x=>True) (fun x=>⟨w0,M,H,R,φ⟩):=by
 unfold m_conf_Right at hm
 refine cn_intro (fn:=Tryz.f13) (N:=61) Tryz.func13 rfl Tryz.ntmps13 rfl<|c_seq<|c_region ?_
 refine g_e rfl (e_box 100010 rfl) (fun g1 _=>?_)
 refine g_v rfl r_assign<|g_nil<|d_then<|c_seq<|c_region<|g_v rfl r_assign<|g_nil<|d_then<|c_seq ?_
 refine c_cut (ι:=Bool) [1,4] (fun b14=>[(4,.bool b14)]) (fun b14=>⟨w0,M,(100010,g1,.cells #[.slice Ap0_0 p0.fRing.length cp0_0,.slice Ap0_1 p0.fHints.length cp0_1,.slice Ap0_2 p0.fAnchors.length cp0_2,.int .i64 p0.fEpoch,.slice Ap0_3 p0.fFlushes.length cp0_3] 30 (0,0))::H,R,φ⟩) (fun b14=>m_conf_Right_j1 p0 b14 = some r) ?_ (fun b14 u hm=>?_)
 ·
  refine c_region<|g_v rfl (r_field (n:=0) Tryz.underlying30 rfl Tryz.sizeOf25 rfl rfl)<|g_v rfl (r_load (tag:=100010) rfl rfl rfl Tryz.isAgg25)<|g_v rfl r_move ?_
  replace hm:=bnd hm
  obtain ⟨x82,hx83,hm⟩:=hm
  refine g_cn ⟨w0,M,_,_,φ⟩ (fun _ h=>h) Tryz.call45 rfl rfl (c_conf_all_45 p0.fRing Ap0_0 cp0_0 hcp0_0 (fun W hS=>fp0_0 W hS.now) 64 _ hx83) (fun _ _=>?_)
  refine g_v rfl r_move<|g_sta ⟨w0,M,(100010,g1,.cells #[.slice Ap0_0 p0.fRing.length cp0_0,.slice Ap0_1 p0.fHints.length cp0_1,.slice Ap0_2 p0.fAnchors.length cp0_2,.int .i64 p0.fEpoch,.slice Ap0_3 p0.fFlushes.length cp0_3] 30 (0,0))::H,R,φ⟩ (fun _ h=>h) ?_
  refine g_if rfl rfl rfl rfl rfl (fun h84=>?_) (fun h84=>?_)
  ·
   replace hm:=ite_t hm h84
   refine g_v rfl (r_field (n:=1) Tryz.underlying30 rfl Tryz.sizeOf26 rfl rfl)<|g_do rfl rfl rfl rfl rfl h84<|g_v rfl (r_load (tag:=100010) rfl rfl rfl Tryz.isAgg26)<|g_do rfl rfl rfl rfl rfl h84<|g_v rfl (r_lenL Tryz.underlying26 rfl)<|g_do rfl rfl rfl rfl rfl h84<|g_v rfl (r_leq rfl rfl)<|g_v rfl (r_pick1 rfl h84)<|g_v rfl r_move ?_
   refine g_if rfl rfl rfl rfl rfl (fun h85=>?_) (fun h85=>?_)
   ·
    replace hm:=ite_t hm (of_decide_eq_true h85)
    refine g_v rfl (r_field (n:=1) Tryz.underlying30 rfl Tryz.sizeOf26 rfl rfl)<|g_do rfl rfl rfl rfl rfl h85<|g_v rfl (r_load (tag:=100010) rfl rfl rfl Tryz.isAgg26)<|g_do rfl rfl rfl rfl rfl h85 ?_
    replace hm:=bnd hm
    obtain ⟨x86,hx87,hm⟩:=hm
    refine g_cn ⟨w0,M,_,_,φ⟩ (fun _ h=>h) Tryz.call47 rfl rfl (c_slices_ContainsFunc_47_2 p0.fHints Ap0_1 cp0_1 hcp0_1 (fun W hS=>fp0_1 W hS.now) _ hx87) (fun _ _=>?_)
    refine g_do rfl rfl rfl rfl rfl h85<|g_v rfl (r_not rfl)<|g_v rfl (r_pick1 rfl h85)<|g_v rfl r_move ?_
    refine g_if rfl rfl rfl rfl rfl (fun h88=>?_) (fun h88=>?_)
    ·
     have h88' : x86 = false:=by revert h88; cases x86 <;> simp
     replace hm:=ite_f hm (bool_nt h88')
     refine g_v rfl (r_field (n:=2) Tryz.underlying30 rfl Tryz.sizeOf27 rfl rfl)<|g_do rfl rfl rfl rfl rfl h88<|g_v rfl (r_load (tag:=100010) rfl rfl rfl Tryz.isAgg27)<|g_do rfl rfl rfl rfl rfl h88 ?_
     replace hm:=bnd hm
     obtain ⟨x89,hx90,hm⟩:=hm
     refine g_cn ⟨w0,M,_,_,φ⟩ (fun _ h=>h) Tryz.call50 rfl rfl (c_conf_all_50 p0.fAnchors Ap0_2 cp0_2 hcp0_2 (fun W hS=>fp0_2 W hS.now) 16 _ hx90) (fun _ _=>?_)
     refine g_v rfl (r_pick1 rfl h88)<|g_v rfl r_move ?_
     refine g_if rfl rfl rfl rfl rfl (fun h91=>?_) (fun h91=>?_)
     ·
      replace hm:=ite_t hm h91
      refine g_v rfl (r_field (n:=4) Tryz.underlying30 rfl Tryz.sizeOf28 rfl rfl)<|g_do rfl rfl rfl rfl rfl h91<|g_v rfl (r_load (tag:=100010) rfl rfl rfl Tryz.isAgg28)<|g_do rfl rfl rfl rfl rfl h91<|g_v rfl (r_mkf rfl)<|g_do rfl rfl rfl rfl rfl h91 ?_
      replace hm:=bnd hm
      obtain ⟨x92,hx93,hm⟩:=hm
      refine g_cn ⟨w0,M,(1000,g1,.cells #[.slice Ap0_0 p0.fRing.length cp0_0,.slice Ap0_1 p0.fHints.length cp0_1,.slice Ap0_2 p0.fAnchors.length cp0_2,.int .i64 p0.fEpoch,.slice Ap0_3 p0.fFlushes.length cp0_3] 30 (0,0))::H,R,φ⟩ (fun W h=>(ok_front (t:=100010) (t':=1000) h rfl)) Tryz.call54 rfl rfl (c_conf_all_54 p0.fFlushes Ap0_3 cp0_3 hcp0_3 (fun W hS=>fp0_3 W hS.now) 32 g1 p0 Ap0_0 cp0_0 hcp0_0 (fun W h=>fp0_0 W h) Ap0_1 cp0_1 hcp0_1 (fun W h=>fp0_1 W h) Ap0_2 cp0_2 hcp0_2 (fun W h=>fp0_2 W h) Ap0_3 cp0_3 hcp0_3 (fun W h=>fp0_3 W h) _ hx93) (fun _ _=>?_)
      refine g_sta _ (fun W h=>(ok_front (t:=1000) (t':=100010) h rfl))<|g_v rfl (r_pick1 rfl h91)<|g_v rfl r_assign<|g_nil ?_
      exact d_round x92 hm Nat.zero_lt_one ⟨rfl,rfl,trivial⟩ (fun W h=>h.phi (fun W hφ=>hφ))
     replace hm:=ite_f hm (bool_nt h91)
     iterate 3 refine g_no rfl rfl rfl rfl rfl h91 ?_
     refine g_v rfl (r_pick0 rfl h91)<|g_v rfl r_assign<|g_nil ?_
     exact d_round false hm Nat.zero_lt_one ⟨rfl,rfl,trivial⟩ (fun W h=>h.phi (fun W hφ=>hφ))
    have h88' : x86 = true:=by revert h88; cases x86 <;> simp
    replace hm:=ite_t hm h88'
    refine g_no rfl rfl rfl rfl rfl h88<|g_no rfl rfl rfl rfl rfl h88<|g_v rfl (r_pick0 rfl h88)<|g_v rfl r_move ?_
    iterate 4 refine g_no rfl rfl rfl rfl rfl rfl ?_
    refine g_v rfl (r_pick0 rfl rfl)<|g_v rfl r_assign<|g_nil ?_
    exact d_round false hm Nat.zero_lt_one ⟨rfl,rfl,trivial⟩ (fun W h=>h.phi (fun W hφ=>hφ))
   replace hm:=ite_f hm (of_decide_eq_false h85)
   iterate 3 refine g_no rfl rfl rfl rfl rfl h85 ?_
   refine g_v rfl (r_pick0 rfl h85)<|g_v rfl r_move ?_
   iterate 3 refine g_no rfl rfl rfl rfl rfl rfl ?_
   refine g_v rfl (r_pick0 rfl rfl)<|g_v rfl r_move ?_
   iterate 4 refine g_no rfl rfl rfl rfl rfl rfl ?_
   refine g_v rfl (r_pick0 rfl rfl)<|g_v rfl r_assign<|g_nil ?_
   exact d_round false hm Nat.zero_lt_one ⟨rfl,rfl,trivial⟩ (fun W h=>h.phi (fun W hφ=>hφ))
  replace hm:=ite_f hm (bool_nt h84)
  iterate 3 refine g_no rfl rfl rfl rfl rfl h84 ?_
  refine g_v rfl (r_pick0 rfl h84)<|g_v rfl r_move ?_
  iterate 4 refine g_no rfl rfl rfl rfl rfl rfl ?_
  refine g_v rfl (r_pick0 rfl rfl)<|g_v rfl r_move ?_
  iterate 3 refine g_no rfl rfl rfl rfl rfl rfl ?_
  refine g_v rfl (r_pick0 rfl rfl)<|g_v rfl r_move ?_
  iterate 4 refine g_no rfl rfl rfl rfl rfl rfl ?_
  refine g_v rfl (r_pick0 rfl rfl)<|g_v rfl r_assign<|g_nil ?_
  exact d_round false hm Nat.zero_lt_one ⟨rfl,rfl,trivial⟩ (fun W h=>h.phi (fun W hφ=>hφ))
 unfold m_conf_Right_j1 at hm
 refine d_flat [(1,.pointer (some ⟨g1,0,none⟩)),(4,.bool b14)] ⟨rfl,rfl,trivial⟩ (fun u=>?_)
 refine d_sta ⟨w0,M,(100010,g1,.cells #[.slice Ap0_0 p0.fRing.length cp0_0,.slice Ap0_1 p0.fHints.length cp0_1,.slice Ap0_2 p0.fAnchors.length cp0_2,.int .i64 p0.fEpoch,.slice Ap0_3 p0.fFlushes.length cp0_3] 30 (0,0))::H,R,φ⟩ (fun _ h=>h)<|d_then<|c_seq<|c_seq<|c_region<|g_v rfl r_move<|g_v rfl (r_not rfl)<|g_v rfl r_move ?_
 refine g_if rfl rfl rfl rfl rfl (fun h15=>?_) (fun h15=>?_)
 ·
  have h15' : b14 = true:=by revert h15; cases b14 <;> simp
  replace hm:=ite_t hm h15'
  refine g_v rfl (r_field (n:=3) Tryz.underlying30 rfl Tryz.sizeOf3 rfl rfl)<|g_do rfl rfl rfl rfl rfl h15<|g_v rfl (r_load (tag:=100010) rfl rfl rfl Tryz.isAgg3)<|g_do rfl rfl rfl rfl rfl h15<|g_v rfl (r_lss rfl rfl)<|g_v rfl (r_pick0 rfl h15)<|g_v rfl r_move ?_
  refine g_if rfl rfl rfl rfl rfl (fun h16=>?_) (fun h16=>?_)
  ·
   replace hm:=ite_f hm (of_decide_eq_false h16)
   refine g_v rfl (r_field (n:=3) Tryz.underlying30 rfl Tryz.sizeOf3 rfl rfl)<|g_do rfl rfl rfl rfl rfl h16<|g_v rfl (r_load (tag:=100010) rfl rfl rfl Tryz.isAgg3)<|g_do rfl rfl rfl rfl rfl h16<|g_v rfl (r_gtr rfl rfl)<|g_v rfl (r_pick0 rfl h16)<|g_nil<|d_then ?_
   refine c_flat [(1,.pointer (some ⟨g1,0,none⟩)),(45,.bool (decide (1099511627776 < p0.fEpoch)))] ⟨rfl,rfl,trivial⟩ (fun u=>?_)
   refine c_cond rfl (fun h17=>?_) (fun h17=>?_)
   ·
    replace hm:=ite_t hm (of_decide_eq_true h17)
    refine c_seq<|c_region<|g_v rfl r_assign<|g_nil<|d_then<|c_ret<|d_ret_then ?_
    cases hm
    exact d_retC () Tryz.results13 (res_tmp (res_nil rfl)) trivial (fun W h=>ok_pre (H1:=[_]) (R1:=[]) h (fun W hφ=>hφ)) (.inr rfl)
   replace hm:=ite_f hm (of_decide_eq_false h17)
   refine c_skip<|d_then<|c_seq<|c_seq<|c_region<|g_v rfl (r_field (n:=4) Tryz.underlying30 rfl Tryz.sizeOf28 rfl rfl)<|g_v rfl (r_load (tag:=100010) rfl rfl rfl Tryz.isAgg28)<|g_v rfl (r_lenL Tryz.underlying28 rfl)<|g_v rfl r_move<|g_nil ?_
   refine d_then ?_
   refine c_cut (ι:=Unit) [] (fun _=>[]) (fun _=>⟨w0,M,H,R,φ⟩) (fun _=>m_conf_Right_j2 = some r) ?_ (fun _ u hm=>?_)
   ·
    refine c_block ?_
    replace hm:=bnd hm
    obtain ⟨out3,hl3,hr3⟩:=hm
    obtain ⟨n69',hl3⟩:=loop_lp hl3
    refine c_loopU (ι:=Nat×Int) [1,47,48,49] (fun ⟨n69,i56⟩=>[(49,.int .i64 i56)]) (fun ⟨n69,i56⟩=>⟨w0,M,(100010,g1,.cells #[.slice Ap0_0 p0.fRing.length cp0_0,.slice Ap0_1 p0.fHints.length cp0_1,.slice Ap0_2 p0.fAnchors.length cp0_2,.int .i64 p0.fEpoch,.slice Ap0_3 p0.fFlushes.length cp0_3] 30 (0,0))::H,R,φ⟩) (fun ⟨n69,i56⟩=>Lp (fun s=>m_conf_Right_s3 p0 s) n69 i56 out3) (fun ⟨n69,i56⟩=>n69) (n69',0) hl3 ⟨rfl,rfl,rfl,rfl,trivial⟩ (fun W h=>h.phi (fun W hφ=>hφ)) (fun ⟨n69,i56⟩ u hlp=>?_)
    obtain ⟨o3,hm,hnx3⟩:=lp_step hlp
    clear hlp
    replace hm : m_conf_Right_s3 p0 i56 = some o3:=hm
    unfold m_conf_Right_s3 at hm
    refine c_flat [(1,.pointer (some ⟨g1,0,none⟩)),(47,.slice Ap0_3 p0.fFlushes.length cp0_3),(48,.int .i64 (p0.fFlushes.length : Int)),(49,.int .i64 i56)] ⟨rfl,rfl,rfl,rfl,trivial⟩ (fun u=>?_)
    refine c_seq<|c_region<|g_v rfl (r_lss rfl rfl)<|g_nil<|d_then<|c_seq ?_
    refine c_cond rfl (fun h70=>?_) (fun h70=>?_)
    ·
     replace hm:=ite_t hm (of_decide_eq_true h70)
     refine c_skip<|d_then<|c_seq<|c_block<|c_seq<|c_region<|g_v rfl r_move ?_
     replace hm:=bnd hm
     obtain ⟨x71,hx71,hm⟩:=hm
     refine g_know _ (fun W hS=>cl_at (p:=φ) (sz:=2) (fun _=>rfl) (by decide) hS.now fp0_3 hx71) ?_
     rintro ⟨ad72,hA74,f73⟩
     refine g_v rfl (r_ix Tryz.underlying28 Tryz.sizeOf48 rfl hA74 rfl hx71)<|g_v rfl (r_ldA rfl Tryz.isAgg48 Tryz.sizeOf48 (fun W hS=>(f73 W hS.now).take 2) rfl) ?_
     refine g_e rfl (e_alloc 100060 Tryz.zeroValue48) (fun g75 _=>?_)
     refine g_v rfl r_assign<|g_storeL (tag:=100060) rfl rfl rfl rfl Tryz.sizeOf48 rfl rfl<|g_nil<|d_then<|c_seq<|c_region<|g_v rfl (r_field (n:=4) Tryz.underlying30 rfl Tryz.sizeOf28 rfl rfl)<|g_v rfl (r_load (tag:=100010) rfl rfl rfl Tryz.isAgg28)<|g_v rfl r_move ?_
     replace hm:=bnd hm
     obtain ⟨l77,hl77,hm⟩:=hm
     have f76:=fun (W : World) (h : φ W)=>cl_cutHi (enc:=GFlush.enc) (sz:=2) (fun _=>rfl) hl77 (fp0_3 W h)
     refine g_v rfl (r_lcutHi Tryz.underlying28 Tryz.sizeOf48 rfl hcp0_3 rfl hl77)<|g_v rfl (r_mkf rfl) ?_
     replace hm:=bnd hm
     obtain ⟨x78,hx79,hm⟩:=hm
     refine g_cn ⟨w0,M,(1000,g75,.cells #[.int .i64 x71.fEpoch,.string x71.fZone] 48 (0,0))::(100010,g1,.cells #[.slice Ap0_0 p0.fRing.length cp0_0,.slice Ap0_1 p0.fHints.length cp0_1,.slice Ap0_2 p0.fAnchors.length cp0_2,.int .i64 p0.fEpoch,.slice Ap0_3 p0.fFlushes.length cp0_3] 30 (0,0))::H,R,φ⟩ (fun W h=>(ok_front (t:=100060) (t':=1000) h rfl)) Tryz.call57 rfl rfl (c_slices_ContainsFunc_57 l77 Ap0_3 cp0_3 (cutHi_len hcp0_3 hl77) (fun W hS=>f76 W hS.now) g75 x71 _ hx79) (fun _ _=>?_)
     refine g_sta _ (fun W h=>(ok_front (t:=1000) (t':=100060) h rfl))<|g_nil<|d_then ?_
     refine c_flat [(1,.pointer (some ⟨g1,0,none⟩)),(47,.slice Ap0_3 p0.fFlushes.length cp0_3),(48,.int .i64 (p0.fFlushes.length : Int)),(49,.int .i64 i56),(59,.bool x78)] ⟨rfl,rfl,rfl,rfl,rfl,trivial⟩ (fun u=>?_)
     refine c_sta ⟨w0,M,(100060,g75,.cells #[.int .i64 x71.fEpoch,.string x71.fZone] 48 (0,0))::(100010,g1,.cells #[.slice Ap0_0 p0.fRing.length cp0_0,.slice Ap0_1 p0.fHints.length cp0_1,.slice Ap0_2 p0.fAnchors.length cp0_2,.int .i64 p0.fEpoch,.slice Ap0_3 p0.fFlushes.length cp0_3] 30 (0,0))::H,R,φ⟩ (fun _ h=>h) ?_
     refine c_cond rfl (fun h80=>?_) (fun h80=>?_)
     ·
      replace hm:=ite_t hm h80
      refine c_seq<|c_region<|g_v rfl r_assign<|g_nil<|d_then<|c_ret<|d_ret_block<|d_ret_then<|d_ret_then<|d_ret_block ?_
      refine d_ret_then<|d_ret_then ?_
      replace hm:=nx_out (C:=(fun e : Unit ⊕ Bool=>Sum.elim (fun e=>m_conf_Right_j2) (fun x=>some x) e = some r)) hm hnx3 hr3
      replace hm : some false = some r:=hm
      cases hm
      exact d_retC () Tryz.results13 (res_tmp (res_nil rfl)) trivial (fun W h=>ok_pre (H1:=[_,_]) (R1:=[]) h (fun W hφ=>hφ)) (.inr rfl)
     replace hm:=ite_f hm (bool_nt h80)
     refine c_skip<|d_normal_block<|d_then<|c_region<|g_v rfl (r_add rfl rfl rfl)<|g_v rfl r_move<|g_nil ?_
     obtain ⟨n81,hn81,hlp⟩:=nx_inl hm hnx3
     exact d_round (n81,w64 (i56 + 1)) hlp hn81 ⟨rfl,rfl,rfl,rfl,trivial⟩ (fun W h=>(h.dropH (t:=100060) rfl).phi (fun W hφ=>hφ))
    replace hm:=ite_f hm (of_decide_eq_false h70)
    refine c_exit<|d_exit_then<|d_exit_then<|d_exit_block ?_
    replace hm:=nx_out (C:=(fun e : Unit ⊕ Bool=>Sum.elim (fun e=>m_conf_Right_j2) (fun x=>some x) e = some r)) hm hnx3 hr3
    exact d_round () hm Nat.zero_lt_one trivial (fun W h=>(h.dropH (t:=100010) rfl).phi (fun W hφ=>hφ))
   unfold m_conf_Right_j2 at hm
   refine d_flat [] trivial (fun u=>?_)
   refine d_sta ⟨w0,M,H,R,φ⟩ (fun _ h=>h)<|d_then<|c_seq<|c_region<|g_v rfl r_assign<|g_nil<|d_then<|c_ret ?_
   cases hm
   exact d_retC () Tryz.results13 (res_tmp (res_nil rfl)) trivial (fun W h=>ok_pre (H1:=[]) (R1:=[]) h (fun W hφ=>hφ)) (.inr rfl)
  replace hm:=ite_t hm (of_decide_eq_true h16)
  refine g_no rfl rfl rfl rfl rfl h16<|g_no rfl rfl rfl rfl rfl h16<|g_v rfl (r_pick1 rfl h16)<|g_nil<|d_then ?_
  refine c_flat [(1,.pointer (some ⟨g1,0,none⟩)),(45,.bool true)] ⟨rfl,rfl,trivial⟩ (fun u=>?_)
  refine c_cond1 rfl rfl<|c_seq<|c_region<|g_v rfl r_assign<|g_nil<|d_then<|c_ret<|d_ret_then ?_
  cases hm
  exact d_retC () Tryz.results13 (res_tmp (res_nil rfl)) trivial (fun W h=>ok_pre (H1:=[_]) (R1:=[]) h (fun W hφ=>hφ)) (.inr rfl)
 have h15' : b14 = false:=by revert h15; cases b14 <;> simp
 replace hm:=ite_f hm (bool_nt h15')
 refine g_no rfl rfl rfl rfl rfl h15<|g_no rfl rfl rfl rfl rfl h15<|g_v rfl (r_pick1 rfl h15)<|g_v rfl r_move ?_
 iterate 3 refine g_no rfl rfl rfl rfl rfl rfl ?_
 refine g_v rfl (r_pick1 rfl rfl)<|g_nil<|d_then<|c_cond1 rfl rfl<|c_seq<|c_region<|g_v rfl r_assign<|g_nil<|d_then<|c_ret ?_
 refine d_ret_then ?_
 cases hm
 exact d_retC () Tryz.results13 (res_tmp (res_nil rfl)) trivial (fun W h=>ok_pre (H1:=[_]) (R1:=[]) h (fun W hφ=>hφ)) (.inr rfl)
end Go.Proofs.YthpjodfjdnnckaaGreat
