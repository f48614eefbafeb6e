import Derived.Test.YthpjodfjdnnckaaWCNA
set_option maxRecDepth 100000
set_option maxHeartbeats 4000000
set_option linter.unusedVariables false
set_option linter.unusedSimpArgs false
namespace Go.Proofs.Ythpjodfjdnnckaa
open Go.RowKit Go.Proofs.YthpjodfjdnnckaaW.PrintLast
noncomputable def m_law13_awake  : Option Bool:=
  (m_conf_Bytes_k1 3 (⟨#[]⟩ : ByteArray) (⟨#[]⟩ : ByteArray) (⟨#[]⟩ : ByteArray) ([] : List ByteArray)).bind fun (z4 : ByteArray×Int)=>
  (m_conf_Bytes_k5 0 (⟨#[]⟩ : ByteArray) (⟨#[]⟩ : ByteArray) (⟨#[1,97,0]⟩ : ByteArray) ([] : List ByteArray)).bind fun (z8 : ByteArray×Int)=>
  (m_conf_Apply_k5 (⟨([] : List Int),([] : List ByteArray),([] : List GAnchor),0,([] : List GFlush)⟩ : GConf) 0 (⟨#[]⟩ : ByteArray) (⟨#[]⟩ : ByteArray) (⟨#[1,97,0]⟩ : ByteArray) ([] : List ByteArray)).bind fun (z25 : GConf×Int)=>
  (m_conf_Apply_k5 z25.1 0 (⟨#[]⟩ : ByteArray) (⟨#[]⟩ : ByteArray) (⟨#[0]⟩ : ByteArray) ([] : List ByteArray)).bind fun (z43 : GConf×Int)=>
  if z4.1 = (⟨#[1,3]⟩ : ByteArray) then
    if z4.2 = 0 then
      if z8.1 = (⟨#[5,1,97,0]⟩ : ByteArray) then
        if z8.2 = 0 then
          if z25.2 = 0 then
            if z43.2 = 0 then
              if z43.1.fEpoch = 2 then
                if (z43.1.fFlushes.length : Int) = 1 then
                  (m_conf_Floor z25.1 (⟨#[1,120,1,97,0]⟩ : ByteArray)).bind fun x53=>
                  if x53 = 1 then
                    (m_conf_Floor z25.1 (⟨#[1,98,0]⟩ : ByteArray)).bind fun x56=>
                    some (decide (x56 = 0))
                  else
                    some false
                else
                  some false
              else
                some false
            else
              some false
          else
            some false
        else
          some false
      else
        some false
    else
      some false
  else
    some false
theorem c_law13_awake {w0 : World} {M : Nat→Prop} {H : List (Nat×Nat×Obj)} {R : List (Nat×Row)} {φ : World→Prop}  (r : Bool) (hm : m_law13_awake = some r) :
    Cn Try.prog 7 #[] ⟨w0,M,H,R,φ⟩ (fun x : Unit=>.bool r) (fun x=>True) (fun x=>⟨w0,M,H,R,φ⟩):=by
 unfold m_law13_awake at hm
 refine cn_intro (fn:=Try.f7) (N:=74) Try.func7 rfl Try.ntmps7 rfl<|c_seq<|c_region<|g_v rfl r_assign<|g_nil<|d_then<|c_seq<|c_region<|g_v rfl (r_build _ rfl (bld35_0 _ _)) ?_
 replace hm:=bnd hm
 obtain ⟨⟨x1,x2⟩,hx3,hm⟩:=hm
 refine g_cn ⟨w0,M,_,_,φ⟩ (fun _ h=>h) Try.call15 rfl rfl (c_conf_Bytes_k1 3 (⟨#[]⟩ : ByteArray) (⟨#[]⟩ : ByteArray) (⟨#[]⟩ : ByteArray) ([] : List ByteArray) none 0 (Nat.le_refl 0) (fun W _=>Cl.nil _ _) _ hx3) (fun _ _=>?_)
 refine g_v rfl r_move<|g_v rfl (r_extract rfl rfl)<|g_v rfl (r_extract rfl rfl)<|g_v rfl r_assign<|g_v rfl r_assign<|g_nil<|d_then<|c_seq<|c_region<|g_v rfl (r_build _ rfl (bld35_5 _ _)) ?_
 replace hm:=bnd hm
 obtain ⟨⟨x5,x6⟩,hx7,hm⟩:=hm
 refine g_cn ⟨w0,M,_,_,φ⟩ (fun _ h=>h) Try.call15 rfl rfl (c_conf_Bytes_k5 0 (⟨#[]⟩ : ByteArray) (⟨#[]⟩ : ByteArray) (⟨#[1,97,0]⟩ : ByteArray) ([] : List ByteArray) none 0 (Nat.le_refl 0) (fun W _=>Cl.nil _ _) _ hx7) (fun _ _=>?_)
 refine g_v rfl r_move<|g_v rfl (r_extract rfl rfl)<|g_v rfl (r_extract rfl rfl)<|g_v rfl r_assign<|g_v rfl r_assign<|g_nil<|d_then ?_
 refine c_flat [(1,.string x1),(2,.int .i64 x2),(3,.string x5),(4,.int .i64 x6)] ⟨rfl,rfl,rfl,rfl,trivial⟩ (fun u=>?_)
 refine c_sta ⟨w0,M,H,R,φ⟩ (fun _ h=>h)<|c_seq<|c_region<|g_v rfl (r_build _ rfl (bld29_9))<|g_v rfl (r_build _ rfl (bld35_5 _ _)) ?_
 replace hm:=bnd hm
 obtain ⟨⟨x9,x10⟩,hx11,hm⟩:=hm
 refine g_cn ⟨w0,M,_,_,φ⟩ (fun _ h=>h) Try.call10 rfl rfl (c_conf_Apply_k5 (⟨([] : List Int),([] : List ByteArray),([] : List GAnchor),0,([] : List GFlush)⟩ : GConf) none 0 (Nat.le_refl 0) (fun W _=>Cl.nil _ _) none 0 (Nat.le_refl 0) (fun W _=>Cl.nil _ _) none 0 (Nat.le_refl 0) (fun W _=>Cl.nil _ _) none 0 (Nat.le_refl 0) (fun W _=>Cl.nil _ _) 0 (⟨#[]⟩ : ByteArray) (⟨#[]⟩ : ByteArray) (⟨#[1,97,0]⟩ : ByteArray) ([] : List ByteArray) none 0 (Nat.le_refl 0) (fun W _=>Cl.nil _ _) _ hx11) (fun ⟨A12,c13,A15,c16,A18,c19,A21,c22⟩ ⟨hc13,hc16,hc19,hc22⟩=>?_)
 refine g_abs (fun φ24 q24'=>?_)
 have q24 : ∀ W,φ24 W→φ W:=fun W h=>(q24' W h).1
 have f14:=fun (W : World) (h : φ24 W)=>(q24' W h).2.1
 have f17:=fun (W : World) (h : φ24 W)=>(q24' W h).2.2.1
 have f20:=fun (W : World) (h : φ24 W)=>(q24' W h).2.2.2.1
 have f23:=fun (W : World) (h : φ24 W)=>(q24' W h).2.2.2.2
 refine g_v rfl r_move<|g_v rfl (r_extract rfl rfl)<|g_v rfl (r_extract rfl rfl) ?_
 refine g_e rfl (e_alloc 100050 Try.zeroValue29) (fun g26 _=>?_)
 refine g_storeL (tag:=100050) rfl rfl rfl rfl Try.sizeOf29 rfl rfl<|g_v rfl r_assign<|g_nil<|d_then ?_
 refine c_flat [(1,.string x1),(2,.int .i64 x2),(3,.string x5),(4,.int .i64 x6),(5,.pointer (some ⟨g26,0,none⟩)),(6,.int .i64 x10)] ⟨rfl,rfl,rfl,rfl,rfl,rfl,trivial⟩ (fun u=>?_)
 refine c_sta ⟨w0,M,(100050,g26,.cells #[.slice A12 x9.fRing.length c13,.slice A15 x9.fHints.length c16,.slice A18 x9.fAnchors.length c19,.int .i64 x9.fEpoch,.slice A21 x9.fFlushes.length c22] 29 (0,0))::H,R,φ24⟩ (fun _ h=>h)<|c_seq<|c_region<|g_v rfl (r_loadA (tag:=100050) rfl rfl Try.isAgg29 Try.sizeOf29 rfl rfl)<|g_v rfl (r_build _ rfl (bld35_5 _ _)) ?_
 replace hm:=bnd hm
 obtain ⟨⟨x27,x28⟩,hx29,hm⟩:=hm
 refine g_cn ⟨w0,M,_,_,φ24⟩ (fun _ h=>h) Try.call10 rfl rfl (c_conf_Apply_k5 x9 A12 c13 hc13 (fun W h=>f14 W h) A15 c16 hc16 (fun W h=>f17 W h) A18 c19 hc19 (fun W h=>f20 W h) A21 c22 hc22 (fun W h=>f23 W h) 0 (⟨#[]⟩ : ByteArray) (⟨#[]⟩ : ByteArray) (⟨#[0]⟩ : ByteArray) ([] : List ByteArray) none 0 (Nat.le_refl 0) (fun W _=>Cl.nil _ _) _ hx29) (fun ⟨A30,c31,A33,c34,A36,c37,A39,c40⟩ ⟨hc31,hc34,hc37,hc40⟩=>?_)
 refine g_abs (fun φ42 q42'=>?_)
 have q42 : ∀ W,φ42 W→φ24 W:=fun W h=>(q42' W h).1
 have f32:=fun (W : World) (h : φ42 W)=>(q42' W h).2.1
 have f35:=fun (W : World) (h : φ42 W)=>(q42' W h).2.2.1
 have f38:=fun (W : World) (h : φ42 W)=>(q42' W h).2.2.2.1
 have f41:=fun (W : World) (h : φ42 W)=>(q42' W h).2.2.2.2
 refine g_v rfl r_move<|g_v rfl (r_extract rfl rfl)<|g_v rfl (r_extract rfl rfl) ?_
 refine g_e rfl (e_alloc 100070 Try.zeroValue29) (fun g44 _=>?_)
 refine g_storeL (tag:=100070) rfl rfl rfl rfl Try.sizeOf29 rfl rfl<|g_v rfl r_assign<|g_nil<|d_then ?_
 refine c_flat [(1,.string x1),(2,.int .i64 x2),(3,.string x5),(4,.int .i64 x6),(5,.pointer (some ⟨g26,0,none⟩)),(6,.int .i64 x10),(7,.pointer (some ⟨g44,0,none⟩)),(8,.int .i64 x28)] ⟨rfl,rfl,rfl,rfl,rfl,rfl,rfl,rfl,trivial⟩ (fun u=>?_)
 refine c_sta ⟨w0,M,(100070,g44,.cells #[.slice A30 x27.fRing.length c31,.slice A33 x27.fHints.length c34,.slice A36 x27.fAnchors.length c37,.int .i64 x27.fEpoch,.slice A39 x27.fFlushes.length c40] 29 (0,0))::(100050,g26,.cells #[.slice A12 x9.fRing.length c13,.slice A15 x9.fHints.length c16,.slice A18 x9.fAnchors.length c19,.int .i64 x9.fEpoch,.slice A21 x9.fFlushes.length c22] 29 (0,0))::H,R,φ42⟩ (fun _ h=>h)<|c_seq<|c_region<|g_v rfl r_move<|g_v rfl (r_eqlT rfl rfl)<|g_v rfl r_move ?_
 refine g_if rfl rfl rfl rfl rfl (fun h45=>?_) (fun h45=>?_)
 ·
  replace hm:=ite_t hm (of_decide_eq_true h45)
  refine g_v rfl r_move<|g_do rfl rfl rfl rfl rfl h45<|g_v rfl (r_eql rfl rfl)<|g_v rfl (r_pick1 rfl h45)<|g_v rfl r_move ?_
  refine g_if rfl rfl rfl rfl rfl (fun h46=>?_) (fun h46=>?_)
  ·
   replace hm:=ite_t hm (of_decide_eq_true h46)
   refine g_v rfl r_move<|g_do rfl rfl rfl rfl rfl h46<|g_v rfl (r_eqlT rfl rfl)<|g_v rfl (r_pick1 rfl h46)<|g_v rfl r_move ?_
   refine g_if rfl rfl rfl rfl rfl (fun h47=>?_) (fun h47=>?_)
   ·
    replace hm:=ite_t hm (of_decide_eq_true h47)
    refine g_v rfl r_move<|g_do rfl rfl rfl rfl rfl h47<|g_v rfl (r_eql rfl rfl)<|g_v rfl (r_pick1 rfl h47)<|g_v rfl r_move ?_
    refine g_if rfl rfl rfl rfl rfl (fun h48=>?_) (fun h48=>?_)
    ·
     replace hm:=ite_t hm (of_decide_eq_true h48)
     refine g_v rfl r_move<|g_do rfl rfl rfl rfl rfl h48<|g_v rfl (r_eql rfl rfl)<|g_v rfl (r_pick1 rfl h48)<|g_v rfl r_move ?_
     refine g_if rfl rfl rfl rfl rfl (fun h49=>?_) (fun h49=>?_)
     ·
      replace hm:=ite_t hm (of_decide_eq_true h49)
      refine g_v rfl r_move<|g_do rfl rfl rfl rfl rfl h49<|g_v rfl (r_eql rfl rfl)<|g_v rfl (r_pick1 rfl h49)<|g_v rfl r_move ?_
      refine g_if rfl rfl rfl rfl rfl (fun h50=>?_) (fun h50=>?_)
      ·
       replace hm:=ite_t hm (of_decide_eq_true h50)
       refine g_v rfl (r_field (n:=3) Try.underlying29 rfl Try.sizeOf3 rfl rfl)<|g_do rfl rfl rfl rfl rfl h50<|g_v rfl (r_load (tag:=100070) rfl rfl rfl Try.isAgg3)<|g_do rfl rfl rfl rfl rfl h50<|g_v rfl (r_eql rfl rfl)<|g_v rfl (r_pick1 rfl h50)<|g_v rfl r_move ?_
       refine g_if rfl rfl rfl rfl rfl (fun h51=>?_) (fun h51=>?_)
       ·
        replace hm:=ite_t hm (of_decide_eq_true h51)
        refine g_v rfl (r_field (n:=4) Try.underlying29 rfl Try.sizeOf27 rfl rfl)<|g_do rfl rfl rfl rfl rfl h51<|g_v rfl (r_load (tag:=100070) rfl rfl rfl Try.isAgg27)<|g_do rfl rfl rfl rfl rfl h51<|g_v rfl (r_lenL Try.underlying27 rfl)<|g_do rfl rfl rfl rfl rfl h51<|g_v rfl (r_eql rfl rfl)<|g_v rfl (r_pick1 rfl h51)<|g_v rfl r_move ?_
        refine g_if rfl rfl rfl rfl rfl (fun h52=>?_) (fun h52=>?_)
        ·
         replace hm:=ite_t hm (of_decide_eq_true h52)
         refine g_v rfl (r_loadA (tag:=100050) rfl rfl Try.isAgg29 Try.sizeOf29 rfl rfl)<|g_do rfl rfl rfl rfl rfl h52 ?_
         replace hm:=bnd hm
         obtain ⟨x53,hx54,hm⟩:=hm
         refine g_cn ⟨w0,M,_,_,φ42⟩ (fun _ h=>h) Try.call9 rfl rfl (c_conf_Floor x9 A12 c13 hc13 (fun W hS=>f14 W (q42 _ hS.now)) A15 c16 hc16 (fun W hS=>f17 W (q42 _ hS.now)) A18 c19 hc19 (fun W hS=>f20 W (q42 _ hS.now)) A21 c22 hc22 (fun W hS=>f23 W (q42 _ hS.now)) (⟨#[1,120,1,97,0]⟩ : ByteArray) _ hx54) (fun _ _=>?_)
         refine g_do rfl rfl rfl rfl rfl h52<|g_v rfl (r_eql rfl rfl)<|g_v rfl (r_pick1 rfl h52)<|g_v rfl r_move ?_
         refine g_if rfl rfl rfl rfl rfl (fun h55=>?_) (fun h55=>?_)
         ·
          replace hm:=ite_t hm (of_decide_eq_true h55)
          refine g_v rfl (r_loadA (tag:=100050) rfl rfl Try.isAgg29 Try.sizeOf29 rfl rfl)<|g_do rfl rfl rfl rfl rfl h55 ?_
          replace hm:=bnd hm
          obtain ⟨x56,hx57,hm⟩:=hm
          refine g_cn ⟨w0,M,_,_,φ42⟩ (fun _ h=>h) Try.call9 rfl rfl (c_conf_Floor x9 A12 c13 hc13 (fun W hS=>f14 W (q42 _ hS.now)) A15 c16 hc16 (fun W hS=>f17 W (q42 _ hS.now)) A18 c19 hc19 (fun W hS=>f20 W (q42 _ hS.now)) A21 c22 hc22 (fun W hS=>f23 W (q42 _ hS.now)) (⟨#[1,98,0]⟩ : ByteArray) _ hx57) (fun _ _=>?_)
          refine g_do rfl rfl rfl rfl rfl h55<|g_v rfl (r_eql rfl rfl)<|g_v rfl (r_pick1 rfl h55)<|g_v rfl r_assign<|g_nil<|d_then ?_
          refine c_flat [(0,.bool (decide (x56 = 0)))] ⟨rfl,trivial⟩ (fun u=>?_)
          refine c_ret ?_
          cases hm
          exact d_retC () Try.results7 (res_tmp (res_nil rfl)) trivial (fun W h=>ok_pre (H1:=[_,_]) (R1:=[]) h (fun W hφ=>(q24 _ (q42 _ hφ)))) (.inr rfl)
         replace hm:=ite_f hm (of_decide_eq_false h55)
         refine g_no rfl rfl rfl rfl rfl h55<|g_no rfl rfl rfl rfl rfl h55<|g_v rfl (r_pick0 rfl h55)<|g_v rfl r_assign<|g_nil<|d_then ?_
         refine c_flat [(0,.bool false)] ⟨rfl,trivial⟩ (fun u=>?_)
         refine c_ret ?_
         cases hm
         exact d_retC () Try.results7 (res_tmp (res_nil rfl)) trivial (fun W h=>ok_pre (H1:=[_,_]) (R1:=[]) h (fun W hφ=>(q24 _ (q42 _ hφ)))) (.inr rfl)
        replace hm:=ite_f hm (of_decide_eq_false h52)
        refine g_no rfl rfl rfl rfl rfl h52<|g_no rfl rfl rfl rfl rfl h52<|g_v rfl (r_pick0 rfl h52)<|g_v rfl r_move ?_
        iterate 3 refine g_no rfl rfl rfl rfl rfl rfl ?_
        refine g_v rfl (r_pick0 rfl rfl)<|g_v rfl r_assign<|g_nil<|d_then ?_
        refine c_flat [(0,.bool false)] ⟨rfl,trivial⟩ (fun u=>?_)
        refine c_ret ?_
        cases hm
        exact d_retC () Try.results7 (res_tmp (res_nil rfl)) trivial (fun W h=>ok_pre (H1:=[_,_]) (R1:=[]) h (fun W hφ=>(q24 _ (q42 _ hφ)))) (.inr rfl)
       replace hm:=ite_f hm (of_decide_eq_false h51)
       iterate 3 refine g_no rfl rfl rfl rfl rfl h51 ?_
       refine g_v rfl (r_pick0 rfl h51)<|g_v rfl r_move ?_
       iterate 3 refine g_no rfl rfl rfl rfl rfl rfl ?_
       refine g_v rfl (r_pick0 rfl rfl)<|g_v rfl r_move ?_
       iterate 3 refine g_no rfl rfl rfl rfl rfl rfl ?_
       refine g_v rfl (r_pick0 rfl rfl)<|g_v rfl r_assign<|g_nil<|d_then ?_
       refine c_flat [(0,.bool false)] ⟨rfl,trivial⟩ (fun u=>?_)
       refine c_ret ?_
       cases hm
       exact d_retC () Try.results7 (res_tmp (res_nil rfl)) trivial (fun W h=>ok_pre (H1:=[_,_]) (R1:=[]) h (fun W hφ=>(q24 _ (q42 _ hφ)))) (.inr rfl)
      replace hm:=ite_f hm (of_decide_eq_false h50)
      refine g_no rfl rfl rfl rfl rfl h50<|g_no rfl rfl rfl rfl rfl h50<|g_v rfl (r_pick0 rfl h50)<|g_v rfl r_move ?_
      iterate 4 refine g_no rfl rfl rfl rfl rfl rfl ?_
      refine g_v rfl (r_pick0 rfl rfl)<|g_v rfl r_move ?_
      iterate 3 refine g_no rfl rfl rfl rfl rfl rfl ?_
      refine g_v rfl (r_pick0 rfl rfl)<|g_v rfl r_move ?_
      iterate 3 refine g_no rfl rfl rfl rfl rfl rfl ?_
      refine g_v rfl (r_pick0 rfl rfl)<|g_v rfl r_assign<|g_nil<|d_then ?_
      refine c_flat [(0,.bool false)] ⟨rfl,trivial⟩ (fun u=>?_)
      refine c_ret ?_
      cases hm
      exact d_retC () Try.results7 (res_tmp (res_nil rfl)) trivial (fun W h=>ok_pre (H1:=[_,_]) (R1:=[]) h (fun W hφ=>(q24 _ (q42 _ hφ)))) (.inr rfl)
     replace hm:=ite_f hm (of_decide_eq_false h49)
     refine g_no rfl rfl rfl rfl rfl h49<|g_v rfl (r_pick0 rfl h49)<|g_v rfl r_move ?_
     iterate 3 refine g_no rfl rfl rfl rfl rfl rfl ?_
     refine g_v rfl (r_pick0 rfl rfl)<|g_v rfl r_move ?_
     iterate 4 refine g_no rfl rfl rfl rfl rfl rfl ?_
     refine g_v rfl (r_pick0 rfl rfl)<|g_v rfl r_move ?_
     iterate 3 refine g_no rfl rfl rfl rfl rfl rfl ?_
     refine g_v rfl (r_pick0 rfl rfl)<|g_v rfl r_move ?_
     iterate 3 refine g_no rfl rfl rfl rfl rfl rfl ?_
     refine g_v rfl (r_pick0 rfl rfl)<|g_v rfl r_assign<|g_nil<|d_then ?_
     refine c_flat [(0,.bool false)] ⟨rfl,trivial⟩ (fun u=>?_)
     refine c_ret ?_
     cases hm
     exact d_retC () Try.results7 (res_tmp (res_nil rfl)) trivial (fun W h=>ok_pre (H1:=[_,_]) (R1:=[]) h (fun W hφ=>(q24 _ (q42 _ hφ)))) (.inr rfl)
    replace hm:=ite_f hm (of_decide_eq_false h48)
    refine g_no rfl rfl rfl rfl rfl h48<|g_v rfl (r_pick0 rfl h48)<|g_v rfl r_move<|g_no rfl rfl rfl rfl rfl rfl<|g_no rfl rfl rfl rfl rfl rfl<|g_v rfl (r_pick0 rfl rfl)<|g_v rfl r_move ?_
    iterate 3 refine g_no rfl rfl rfl rfl rfl rfl ?_
    refine g_v rfl (r_pick0 rfl rfl)<|g_v rfl r_move ?_
    iterate 4 refine g_no rfl rfl rfl rfl rfl rfl ?_
    refine g_v rfl (r_pick0 rfl rfl)<|g_v rfl r_move ?_
    iterate 3 refine g_no rfl rfl rfl rfl rfl rfl ?_
    refine g_v rfl (r_pick0 rfl rfl)<|g_v rfl r_move ?_
    iterate 3 refine g_no rfl rfl rfl rfl rfl rfl ?_
    refine g_v rfl (r_pick0 rfl rfl)<|g_v rfl r_assign<|g_nil<|d_then ?_
    refine c_flat [(0,.bool false)] ⟨rfl,trivial⟩ (fun u=>?_)
    refine c_ret ?_
    cases hm
    exact d_retC () Try.results7 (res_tmp (res_nil rfl)) trivial (fun W h=>ok_pre (H1:=[_,_]) (R1:=[]) h (fun W hφ=>(q24 _ (q42 _ hφ)))) (.inr rfl)
   replace hm:=ite_f hm (of_decide_eq_false h47)
   refine g_no rfl rfl rfl rfl rfl h47<|g_v rfl (r_pick0 rfl h47)<|g_v rfl r_move<|g_no rfl rfl rfl rfl rfl rfl<|g_no rfl rfl rfl rfl rfl rfl<|g_v rfl (r_pick0 rfl rfl)<|g_v rfl r_move<|g_no rfl rfl rfl rfl rfl rfl<|g_no rfl rfl rfl rfl rfl rfl<|g_v rfl (r_pick0 rfl rfl) ?_
   refine g_v rfl r_move ?_
   iterate 3 refine g_no rfl rfl rfl rfl rfl rfl ?_
   refine g_v rfl (r_pick0 rfl rfl)<|g_v rfl r_move ?_
   iterate 4 refine g_no rfl rfl rfl rfl rfl rfl ?_
   refine g_v rfl (r_pick0 rfl rfl)<|g_v rfl r_move ?_
   iterate 3 refine g_no rfl rfl rfl rfl rfl rfl ?_
   refine g_v rfl (r_pick0 rfl rfl)<|g_v rfl r_move ?_
   iterate 3 refine g_no rfl rfl rfl rfl rfl rfl ?_
   refine g_v rfl (r_pick0 rfl rfl)<|g_v rfl r_assign<|g_nil<|d_then ?_
   refine c_flat [(0,.bool false)] ⟨rfl,trivial⟩ (fun u=>?_)
   refine c_ret ?_
   cases hm
   exact d_retC () Try.results7 (res_tmp (res_nil rfl)) trivial (fun W h=>ok_pre (H1:=[_,_]) (R1:=[]) h (fun W hφ=>(q24 _ (q42 _ hφ)))) (.inr rfl)
  replace hm:=ite_f hm (of_decide_eq_false h46)
  refine g_no rfl rfl rfl rfl rfl h46<|g_v rfl (r_pick0 rfl h46)<|g_v rfl r_move<|g_no rfl rfl rfl rfl rfl rfl<|g_no rfl rfl rfl rfl rfl rfl<|g_v rfl (r_pick0 rfl rfl)<|g_v rfl r_move<|g_no rfl rfl rfl rfl rfl rfl<|g_no rfl rfl rfl rfl rfl rfl<|g_v rfl (r_pick0 rfl rfl) ?_
  refine g_v rfl r_move<|g_no rfl rfl rfl rfl rfl rfl<|g_no rfl rfl rfl rfl rfl rfl<|g_v rfl (r_pick0 rfl rfl)<|g_v rfl r_move ?_
  iterate 3 refine g_no rfl rfl rfl rfl rfl rfl ?_
  refine g_v rfl (r_pick0 rfl rfl)<|g_v rfl r_move ?_
  iterate 4 refine g_no rfl rfl rfl rfl rfl rfl ?_
  refine g_v rfl (r_pick0 rfl rfl)<|g_v rfl r_move ?_
  iterate 3 refine g_no rfl rfl rfl rfl rfl rfl ?_
  refine g_v rfl (r_pick0 rfl rfl)<|g_v rfl r_move ?_
  iterate 3 refine g_no rfl rfl rfl rfl rfl rfl ?_
  refine g_v rfl (r_pick0 rfl rfl)<|g_v rfl r_assign<|g_nil<|d_then ?_
  refine c_flat [(0,.bool false)] ⟨rfl,trivial⟩ (fun u=>?_)
  refine c_ret ?_
  cases hm
  exact d_retC () Try.results7 (res_tmp (res_nil rfl)) trivial (fun W h=>ok_pre (H1:=[_,_]) (R1:=[]) h (fun W hφ=>(q24 _ (q42 _ hφ)))) (.inr rfl)
 replace hm:=ite_f hm (of_decide_eq_false h45)
 refine g_no rfl rfl rfl rfl rfl h45<|g_v rfl (r_pick0 rfl h45)<|g_v rfl r_move<|g_no rfl rfl rfl rfl rfl rfl<|g_no rfl rfl rfl rfl rfl rfl<|g_v rfl (r_pick0 rfl rfl)<|g_v rfl r_move<|g_no rfl rfl rfl rfl rfl rfl<|g_no rfl rfl rfl rfl rfl rfl<|g_v rfl (r_pick0 rfl rfl) ?_
 refine g_v rfl r_move<|g_no rfl rfl rfl rfl rfl rfl<|g_no rfl rfl rfl rfl rfl rfl<|g_v rfl (r_pick0 rfl rfl)<|g_v rfl r_move<|g_no rfl rfl rfl rfl rfl rfl<|g_no rfl rfl rfl rfl rfl rfl<|g_v rfl (r_pick0 rfl rfl)<|g_v rfl r_move ?_
 iterate 3 refine g_no rfl rfl rfl rfl rfl rfl ?_
 refine g_v rfl (r_pick0 rfl rfl)<|g_v rfl r_move ?_
 iterate 4 refine g_no rfl rfl rfl rfl rfl rfl ?_
 refine g_v rfl (r_pick0 rfl rfl)<|g_v rfl r_move ?_
 iterate 3 refine g_no rfl rfl rfl rfl rfl rfl ?_
 refine g_v rfl (r_pick0 rfl rfl)<|g_v rfl r_move ?_
 iterate 3 refine g_no rfl rfl rfl rfl rfl rfl ?_
 refine g_v rfl (r_pick0 rfl rfl)<|g_v rfl r_assign<|g_nil<|d_then ?_
 refine c_flat [(0,.bool false)] ⟨rfl,trivial⟩ (fun u=>?_)
 refine c_ret ?_
 cases hm
 exact d_retC () Try.results7 (res_tmp (res_nil rfl)) trivial (fun W h=>ok_pre (H1:=[_,_]) (R1:=[]) h (fun W hφ=>(q24 _ (q42 _ hφ)))) (.inr rfl)
noncomputable def m_law13_short (p0 : ByteArray) (p1 : Int) : Option ByteArray:=
  if p1 < (p0.size : Int) then
    (scutHi p0 p1).bind fun s2=>
    some s2
  else
    some p0
theorem c_law13_short {w0 : World} {M : Nat→Prop} {H : List (Nat×Nat×Obj)} {R : List (Nat×Row)} {φ : World→Prop} (p0 : ByteArray) (p1 : Int) (r : ByteArray) (hm : m_law13_short p0 p1 = some r) :
    Cn Try.prog 8 #[.string p0,.int .i64 p1] ⟨w0,M,H,R,φ⟩ (fun x : Unit=>.string r) (fun x=>True) (fun x=>⟨w0,M,H,R,φ⟩):=by
 unfold m_law13_short at hm
 refine cn_intro (fn:=Try.f8) (N:=13) Try.func8 rfl Try.ntmps8 rfl<|c_seq<|c_region<|g_v rfl r_assign<|g_nil<|d_then<|c_seq<|c_seq<|c_region<|g_v rfl r_move ?_
 refine g_v rfl (r_len Try.underlying9 rfl)<|g_v rfl r_move<|g_v rfl (r_gtr rfl rfl)<|g_nil<|d_then ?_
 refine c_cond rfl (fun h1=>?_) (fun h1=>?_)
 ·
  replace hm:=ite_t hm (of_decide_eq_true h1)
  refine c_seq<|c_region<|g_v rfl r_move<|g_v rfl r_move ?_
  replace hm:=bnd hm
  obtain ⟨s2,hs2,hm⟩:=hm
  refine g_v rfl (r_scutHi Try.underlying9 rfl rfl hs2)<|g_v rfl r_assign<|g_nil<|d_then ?_
  refine c_flat [(4,.string s2)] ⟨rfl,trivial⟩ (fun u=>?_)
  refine c_sta ⟨w0,M,H,R,φ⟩ (fun _ h=>h)<|c_ret<|d_ret_then ?_
  cases hm
  exact d_retC () Try.results8 (res_tmp (res_nil rfl)) trivial (fun W h=>ok_pre (H1:=[]) (R1:=[]) h (fun W hφ=>hφ)) (.inr rfl)
 replace hm:=ite_f hm (of_decide_eq_false h1)
 refine c_skip<|d_then<|c_seq<|c_region<|g_v rfl r_move<|g_v rfl r_assign<|g_nil<|d_then<|c_ret ?_
 cases hm
 exact d_retC () Try.results8 (res_tmp (res_nil rfl)) trivial (fun W h=>ok_pre (H1:=[]) (R1:=[]) h (fun W hφ=>hφ)) (.inr rfl)
theorem bld43_20 (z0 : ByteArray) (z1 : ByteArray) : ∀ W,(Instr.build 43 #[(0,.string z0),(1,.string z1)]).run Try.prog W = .ok (.agg #[.string z0,.string z1]) W:=fun _=>by kernel_rfl
theorem bld35_21 (z0 : Int) (z1 : ByteArray) (z2 : ByteArray) : ∀ W,(Instr.build 35 #[(0,.int .i64 z0),(2,.string z1),(3,.string z2)]).run Try.prog W = .ok (.agg #[.int .i64 z0,.int .i64 0,.string z1,.string z2,.string (⟨#[]⟩ : ByteArray),.slice none 0 0]) W:=fun _=>by kernel_rfl
noncomputable def m_conf_Check_k4_j2  (b20 : Bool) : Option Int:=
  if b20 = true then
    some 0
  else
    some 1
noncomputable def m_conf_Check_k4_j3 (p0_fNode : Int) (p0_fName : ByteArray) (p0_fText : ByteArray) (p0_fZone : ByteArray) (p0_fHints : List ByteArray) (b3 : Bool) : Option Int:=
  if 4 = 2 then
    (m_conf_node p0_fNode).bind fun x23=>
    if x23 = true then
      (m_conf_none [p0_fName,p0_fText,p0_fZone]).bind fun x27=>
      if x27 = true then
        m_conf_Check_k4_j2 (decide ((p0_fHints.length : Int) = 0))
      else
        m_conf_Check_k4_j2 false
    else
      m_conf_Check_k4_j2 false
  else
    if b3 = true then
      (m_conf_named p0_fName).bind fun x31=>
      if x31 = true then
        if (p0_fText.size : Int) ≤ 200 then
          (m_conf_none [p0_fZone]).bind fun x36=>
          m_conf_Check_k4_j2 x36
        else
          m_conf_Check_k4_j2 false
      else
        m_conf_Check_k4_j2 false
    else
      m_conf_Check_k4_j2 false
noncomputable def m_conf_Check_k4_j1 (p0_fNode : Int) (p0_fName : ByteArray) (p0_fText : ByteArray) (p0_fZone : ByteArray) (p0_fHints : List ByteArray) (b3 : Bool) : Option Int:=
  m_conf_Check_k4_j3 p0_fNode p0_fName p0_fText p0_fZone p0_fHints b3
noncomputable def m_conf_Check_k4 (p0_fNode : Int) (p0_fName : ByteArray) (p0_fText : ByteArray) (p0_fZone : ByteArray) (p0_fHints : List ByteArray) : Option Int:=
  if p0_fNode = 0 then
    m_conf_Check_k4_j1 p0_fNode p0_fName p0_fText p0_fZone p0_fHints (decide ((p0_fHints.length : Int) = 0))
  else
    m_conf_Check_k4_j1 p0_fNode p0_fName p0_fText p0_fZone p0_fHints false
theorem c_conf_Check_k4 {w0 : World} {M : Nat→Prop} {H : List (Nat×Nat×Obj)} {R : List (Nat×Row)} {φ : World→Prop} (p0_fNode : Int) (p0_fName : ByteArray) (p0_fText : ByteArray) (p0_fZone : ByteArray) (p0_fHints : List ByteArray) (Ap0_fHints_0 : Option Addr) (cp0_fHints_0 : Nat) (hcp0_fHints_0 : p0_fHints.length ≤ cp0_fHints_0) (fp0_fHints_0 : ∀ W,(Sta.mk w0 M H R φ).ok W→Cl W Ap0_fHints_0 (p0_fHints.flatMap (fun x : ByteArray=>[Value.string x]))) (r : Int) (hm : m_conf_Check_k4 p0_fNode p0_fName p0_fText p0_fZone p0_fHints = some r) :
    Cn Try.prog 20 #[.agg #[.int .i64 4,.int .i64 p0_fNode,.string p0_fName,.string p0_fText,.string p0_fZone,.slice Ap0_fHints_0 p0_fHints.length cp0_fHints_0]] ⟨w0,M,H,R,φ⟩ (fun x : Unit=>.int .i64 r) (fun x=>True) (fun x=>⟨w0,M,H,R,φ⟩):=by
 unfold m_conf_Check_k4 at hm
 refine cn_intro (fn:=Try.f20) (N:=109) Try.func20 rfl Try.ntmps20 rfl<|c_seq<|c_region ?_
 refine g_e rfl (e_box 100010 rfl) (fun g1 _=>?_)
 refine g_v rfl r_assign<|g_nil<|d_then<|c_seq<|c_region<|g_v rfl r_assign<|g_nil<|d_then<|c_seq ?_
 refine c_cut (ι:=Bool) [1,3,4] (fun b3=>[(4,.bool b3)]) (fun b3=>⟨w0,M,(100010,g1,.cells #[.int .i64 4,.int .i64 p0_fNode,.string p0_fName,.string p0_fText,.string p0_fZone,.slice Ap0_fHints_0 p0_fHints.length cp0_fHints_0] 35 (0,0))::H,R,φ⟩) (fun b3=>m_conf_Check_k4_j1 p0_fNode p0_fName p0_fText p0_fZone p0_fHints b3 = some r) ?_ (fun b3 u hm=>?_)
 ·
  refine c_region<|g_v rfl (r_field (n:=1) Try.underlying35 rfl Try.sizeOf3 rfl rfl)<|g_v rfl (r_load (tag:=100010) rfl rfl rfl Try.isAgg3)<|g_v rfl (r_eql rfl rfl)<|g_v rfl r_move<|g_sta ⟨w0,M,(100010,g1,.cells #[.int .i64 4,.int .i64 p0_fNode,.string p0_fName,.string p0_fText,.string p0_fZone,.slice Ap0_fHints_0 p0_fHints.length cp0_fHints_0] 35 (0,0))::H,R,φ⟩ (fun _ h=>h) ?_
  refine g_if rfl rfl rfl rfl rfl (fun h38=>?_) (fun h38=>?_)
  ·
   replace hm:=ite_t hm (of_decide_eq_true h38)
   refine g_v rfl (r_field (n:=5) Try.underlying35 rfl Try.sizeOf22 rfl rfl)<|g_do rfl rfl rfl rfl rfl h38<|g_v rfl (r_load (tag:=100010) rfl rfl rfl Try.isAgg22)<|g_do rfl rfl rfl rfl rfl h38<|g_v rfl (r_lenL Try.underlying22 rfl)<|g_do rfl rfl rfl rfl rfl h38<|g_v rfl (r_eql rfl rfl)<|g_v rfl (r_pick1 rfl h38)<|g_v rfl r_assign<|g_nil ?_
   exact d_round (decide ((p0_fHints.length : Int) = 0)) hm Nat.zero_lt_one ⟨rfl,rfl,rfl,trivial⟩ (fun W h=>h.phi (fun W hφ=>hφ))
  replace hm:=ite_f hm (of_decide_eq_false h38)
  iterate 3 refine g_no rfl rfl rfl rfl rfl h38 ?_
  refine g_v rfl (r_pick0 rfl h38)<|g_v rfl r_assign<|g_nil ?_
  exact d_round false hm Nat.zero_lt_one ⟨rfl,rfl,rfl,trivial⟩ (fun W h=>h.phi (fun W hφ=>hφ))
 unfold m_conf_Check_k4_j1 at hm
 refine d_flat [(1,.pointer (some ⟨g1,0,none⟩)),(3,.bool false),(4,.bool b3)] ⟨rfl,rfl,rfl,trivial⟩ (fun u=>?_)
 refine d_sta ⟨w0,M,(100010,g1,.cells #[.int .i64 4,.int .i64 p0_fNode,.string p0_fName,.string p0_fText,.string p0_fZone,.slice Ap0_fHints_0 p0_fHints.length cp0_fHints_0] 35 (0,0))::H,R,φ⟩ (fun _ h=>h)<|d_then<|c_seq ?_
 refine c_cut (ι:=Bool) [3] (fun b20=>[(3,.bool b20)]) (fun b20=>⟨w0,M,H,R,φ⟩) (fun b20=>m_conf_Check_k4_j2 b20 = some r) ?_ (fun b20 u hm=>?_)
 ·
  refine c_seq<|c_region<|g_v rfl (r_field (n:=0) Try.underlying35 rfl Try.sizeOf3 rfl rfl)<|g_v rfl (r_load (tag:=100010) rfl rfl rfl Try.isAgg3)<|g_nil<|d_then<|c_block<|c_seq ?_
  refine c_cut (ι:=Unit) [1,3,4,15,16] (fun _=>[(16,.bool (decide (4 = 2)))]) (fun _=>⟨w0,M,(100010,g1,.cells #[.int .i64 4,.int .i64 p0_fNode,.string p0_fName,.string p0_fText,.string p0_fZone,.slice Ap0_fHints_0 p0_fHints.length cp0_fHints_0] 35 (0,0))::H,R,φ⟩) (fun _=>m_conf_Check_k4_j3 p0_fNode p0_fName p0_fText p0_fZone p0_fHints b3 = some r) ?_ (fun _ u hm=>?_)
  ·
   refine c_seq<|c_region<|g_v rfl (r_eql rfl rfl)<|g_v rfl r_assign<|g_nil<|d_then<|c_cond0 rfl (by decide)<|c_region<|g_v rfl (r_eql rfl rfl)<|g_v rfl r_assign ?_
   refine g_nil ?_
   exact d_round () hm Nat.zero_lt_one ⟨rfl,rfl,rfl,rfl,rfl,trivial⟩ (fun W h=>h.phi (fun W hφ=>hφ))
  unfold m_conf_Check_k4_j3 at hm
  refine d_flat [(1,.pointer (some ⟨g1,0,none⟩)),(3,.bool false),(4,.bool b3),(15,.int .i64 4),(16,.bool (decide (4 = 2)))] ⟨rfl,rfl,rfl,rfl,rfl,trivial⟩ (fun u=>?_)
  refine d_then ?_
  refine c_cond rfl (fun h22=>?_) (fun h22=>?_)
  ·
   replace hm:=ite_t hm (of_decide_eq_true h22)
   refine c_region<|g_v rfl (r_field (n:=1) Try.underlying35 rfl Try.sizeOf3 rfl rfl)<|g_v rfl (r_load (tag:=100010) rfl rfl rfl Try.isAgg3) ?_
   replace hm:=bnd hm
   obtain ⟨x23,hx24,hm⟩:=hm
   refine g_cn ⟨w0,M,_,_,φ⟩ (fun _ h=>h) Try.call51 rfl rfl (c_conf_node p0_fNode _ hx24) (fun _ _=>?_)
   refine g_v rfl r_move ?_
   refine g_if rfl rfl rfl rfl rfl (fun h25=>?_) (fun h25=>?_)
   ·
    replace hm:=ite_t hm h25
    refine g_v rfl (r_field (n:=2) Try.underlying35 rfl Try.sizeOf9 rfl rfl)<|g_do rfl rfl rfl rfl rfl h25<|g_v rfl (r_load (tag:=100010) rfl rfl rfl Try.isAgg9)<|g_do rfl rfl rfl rfl rfl h25<|g_v rfl (r_field (n:=3) Try.underlying35 rfl Try.sizeOf9 rfl rfl)<|g_do rfl rfl rfl rfl rfl h25<|g_v rfl (r_load (tag:=100010) rfl rfl rfl Try.isAgg9)<|g_do rfl rfl rfl rfl rfl h25<|g_v rfl (r_field (n:=4) Try.underlying35 rfl Try.sizeOf9 rfl rfl)<|g_do rfl rfl rfl rfl rfl h25 ?_
    refine g_v rfl (r_load (tag:=100010) rfl rfl rfl Try.isAgg9)<|g_do rfl rfl rfl rfl rfl h25 ?_
    refine g_e rfl (e_lit (tag:=100290) (l:=[p0_fName,p0_fText,p0_fZone]) (enc:=(fun x : ByteArray=>[Value.string x])) (sz:=1) rfl Try.underlying22 (lit9_1 _ _ _) rfl rfl (fun _=>rfl)) (fun g26 _=>?_)
    refine g_do rfl rfl rfl rfl rfl h25 ?_
    replace hm:=bnd hm
    obtain ⟨x27,hx28,hm⟩:=hm
    refine g_cn ⟨w0,M,_,_,φ⟩ (fun _ h=>h) Try.call52 rfl rfl (c_conf_none [p0_fName,p0_fText,p0_fZone] (some ⟨g26,0,none⟩) 3 (Nat.le_refl _) (fun W hS=>rowCl (tag:=100290) rfl W hS) _ hx28) (fun _ _=>?_)
    refine g_v rfl (r_pick1 rfl h25)<|g_v rfl r_move<|g_sta ⟨w0,M,(100010,g1,.cells #[.int .i64 4,.int .i64 p0_fNode,.string p0_fName,.string p0_fText,.string p0_fZone,.slice Ap0_fHints_0 p0_fHints.length cp0_fHints_0] 35 (0,0))::H,(100290,⟨.slice (some ⟨g26,0,none⟩) [p0_fName,p0_fText,p0_fZone].length 3,9,1,[p0_fName,p0_fText,p0_fZone].length,[p0_fName,p0_fText,p0_fZone].flatMap (fun x : ByteArray=>[Value.string x])⟩)::R,φ⟩ (fun _ h=>h) ?_
    refine g_if rfl rfl rfl rfl rfl (fun h29=>?_) (fun h29=>?_)
    ·
     replace hm:=ite_t hm h29
     refine g_v rfl (r_field (n:=5) Try.underlying35 rfl Try.sizeOf22 rfl rfl)<|g_do rfl rfl rfl rfl rfl h29<|g_v rfl (r_load (tag:=100010) rfl rfl rfl Try.isAgg22)<|g_do rfl rfl rfl rfl rfl h29<|g_v rfl (r_lenL Try.underlying22 rfl)<|g_do rfl rfl rfl rfl rfl h29<|g_v rfl (r_eql rfl rfl)<|g_v rfl (r_pick1 rfl h29)<|g_v rfl r_assign<|g_nil ?_
     refine d_normal_block ?_
     exact d_round (decide ((p0_fHints.length : Int) = 0)) hm Nat.zero_lt_one ⟨rfl,trivial⟩ (fun W h=>((h.dropR (t:=100290) rfl).dropH (t:=100010) rfl).phi (fun W hφ=>hφ))
    replace hm:=ite_f hm (bool_nt h29)
    iterate 3 refine g_no rfl rfl rfl rfl rfl h29 ?_
    refine g_v rfl (r_pick0 rfl h29)<|g_v rfl r_assign<|g_nil<|d_normal_block ?_
    exact d_round false hm Nat.zero_lt_one ⟨rfl,trivial⟩ (fun W h=>((h.dropR (t:=100290) rfl).dropH (t:=100010) rfl).phi (fun W hφ=>hφ))
   replace hm:=ite_f hm (bool_nt h25)
   iterate 7 refine g_no rfl rfl rfl rfl rfl h25 ?_
   refine g_v rfl (r_pick0 rfl h25)<|g_v rfl r_move ?_
   iterate 4 refine g_no rfl rfl rfl rfl rfl rfl ?_
   refine g_v rfl (r_pick0 rfl rfl)<|g_v rfl r_assign<|g_nil<|d_normal_block ?_
   exact d_round false hm Nat.zero_lt_one ⟨rfl,trivial⟩ (fun W h=>(h.dropH (t:=100010) rfl).phi (fun W hφ=>hφ))
  replace hm:=ite_f hm (of_decide_eq_false h22)
  refine c_seq<|c_region<|g_v rfl (r_eql rfl rfl)<|g_v rfl r_assign<|g_nil<|d_then<|c_cond0 rfl (by decide)<|c_seq<|c_region<|g_v rfl (r_eql rfl rfl) ?_
  refine g_v rfl r_assign<|g_nil<|d_then<|c_cond1 rfl (by decide)<|c_region<|g_v rfl r_move<|g_v rfl r_move ?_
  refine g_if rfl rfl rfl rfl rfl (fun h30=>?_) (fun h30=>?_)
  ·
   replace hm:=ite_t hm h30
   refine g_v rfl (r_field (n:=2) Try.underlying35 rfl Try.sizeOf9 rfl rfl)<|g_do rfl rfl rfl rfl rfl h30<|g_v rfl (r_load (tag:=100010) rfl rfl rfl Try.isAgg9)<|g_do rfl rfl rfl rfl rfl h30 ?_
   replace hm:=bnd hm
   obtain ⟨x31,hx32,hm⟩:=hm
   refine g_cn ⟨w0,M,_,_,φ⟩ (fun _ h=>h) Try.call56 rfl rfl (c_conf_named p0_fName _ hx32) (fun _ _=>?_)
   refine g_v rfl (r_pick1 rfl h30)<|g_v rfl r_move ?_
   refine g_if rfl rfl rfl rfl rfl (fun h33=>?_) (fun h33=>?_)
   ·
    replace hm:=ite_t hm h33
    refine g_v rfl (r_field (n:=3) Try.underlying35 rfl Try.sizeOf9 rfl rfl)<|g_do rfl rfl rfl rfl rfl h33<|g_v rfl (r_load (tag:=100010) rfl rfl rfl Try.isAgg9)<|g_do rfl rfl rfl rfl rfl h33<|g_v rfl (r_len Try.underlying9 rfl)<|g_do rfl rfl rfl rfl rfl h33<|g_v rfl (r_leq rfl rfl)<|g_v rfl (r_pick1 rfl h33)<|g_v rfl r_move ?_
    refine g_if rfl rfl rfl rfl rfl (fun h34=>?_) (fun h34=>?_)
    ·
     replace hm:=ite_t hm (of_decide_eq_true h34)
     refine g_v rfl (r_field (n:=4) Try.underlying35 rfl Try.sizeOf9 rfl rfl)<|g_do rfl rfl rfl rfl rfl h34<|g_v rfl (r_load (tag:=100010) rfl rfl rfl Try.isAgg9)<|g_do rfl rfl rfl rfl rfl h34 ?_
     refine g_e rfl (e_lit (tag:=100880) (l:=[p0_fZone]) (enc:=(fun x : ByteArray=>[Value.string x])) (sz:=1) rfl Try.underlying22 (lit9_6 _) rfl rfl (fun _=>rfl)) (fun g35 _=>?_)
     refine g_do rfl rfl rfl rfl rfl h34 ?_
     replace hm:=bnd hm
     obtain ⟨x36,hx37,hm⟩:=hm
     refine g_cn ⟨w0,M,_,_,φ⟩ (fun _ h=>h) Try.call52 rfl rfl (c_conf_none [p0_fZone] (some ⟨g35,0,none⟩) 1 (Nat.le_refl _) (fun W hS=>rowCl (tag:=100880) rfl W hS) _ hx37) (fun _ _=>?_)
     refine g_v rfl (r_pick1 rfl h34)<|g_v rfl r_assign<|g_nil<|d_normal_block ?_
     exact d_round x36 hm Nat.zero_lt_one ⟨rfl,trivial⟩ (fun W h=>((h.dropR (t:=100880) rfl).dropH (t:=100010) rfl).phi (fun W hφ=>hφ))
    replace hm:=ite_f hm (of_decide_eq_false h34)
    iterate 3 refine g_no rfl rfl rfl rfl rfl h34 ?_
    refine g_v rfl (r_pick0 rfl h34)<|g_v rfl r_assign<|g_nil<|d_normal_block ?_
    exact d_round false hm Nat.zero_lt_one ⟨rfl,trivial⟩ (fun W h=>(h.dropH (t:=100010) rfl).phi (fun W hφ=>hφ))
   replace hm:=ite_f hm (bool_nt h33)
   iterate 3 refine g_no rfl rfl rfl rfl rfl h33 ?_
   refine g_v rfl (r_pick0 rfl h33)<|g_v rfl r_move ?_
   iterate 4 refine g_no rfl rfl rfl rfl rfl rfl ?_
   refine g_v rfl (r_pick0 rfl rfl)<|g_v rfl r_assign<|g_nil<|d_normal_block ?_
   exact d_round false hm Nat.zero_lt_one ⟨rfl,trivial⟩ (fun W h=>(h.dropH (t:=100010) rfl).phi (fun W hφ=>hφ))
  replace hm:=ite_f hm (bool_nt h30)
  refine g_no rfl rfl rfl rfl rfl h30<|g_no rfl rfl rfl rfl rfl h30<|g_v rfl (r_pick0 rfl h30)<|g_v rfl r_move ?_
  iterate 4 refine g_no rfl rfl rfl rfl rfl rfl ?_
  refine g_v rfl (r_pick0 rfl rfl)<|g_v rfl r_move ?_
  iterate 4 refine g_no rfl rfl rfl rfl rfl rfl ?_
  refine g_v rfl (r_pick0 rfl rfl)<|g_v rfl r_assign<|g_nil<|d_normal_block ?_
  exact d_round false hm Nat.zero_lt_one ⟨rfl,trivial⟩ (fun W h=>(h.dropH (t:=100010) rfl).phi (fun W hφ=>hφ))
 unfold m_conf_Check_k4_j2 at hm
 refine d_flat [(3,.bool b20)] ⟨rfl,trivial⟩ (fun u=>?_)
 refine d_sta ⟨w0,M,H,R,φ⟩ (fun _ h=>h)<|d_then<|c_seq<|c_seq<|c_region<|g_v rfl r_move<|g_v rfl (r_not rfl)<|g_nil<|d_then ?_
 refine c_cond rfl (fun h21=>?_) (fun h21=>?_)
 ·
  have h21' : b20 = false:=by revert h21; cases b20 <;> simp
  replace hm:=ite_f hm (bool_nt h21')
  refine c_seq<|c_region<|g_v rfl r_assign<|g_nil<|d_then<|c_ret<|d_ret_then ?_
  cases hm
  exact d_retC () Try.results20 (res_tmp (res_nil rfl)) trivial (fun W h=>ok_pre (H1:=[]) (R1:=[]) h (fun W hφ=>hφ)) (.inr rfl)
 have h21' : b20 = true:=by revert h21; cases b20 <;> simp
 replace hm:=ite_t hm h21'
 refine c_skip<|d_then<|c_seq<|c_region<|g_v rfl r_assign<|g_nil<|d_then<|c_ret ?_
 cases hm
 exact d_retC () Try.results20 (res_tmp (res_nil rfl)) trivial (fun W h=>ok_pre (H1:=[]) (R1:=[]) h (fun W hφ=>hφ)) (.inr rfl)
structure GOrder where
  fKind : Int
  fNode : Int
  fName : ByteArray
  fText : ByteArray
  fZone : ByteArray
  fHints : List ByteArray
  deriving DecidableEq
noncomputable def m_name_Same (p0 : ByteArray) (p1 : ByteArray) : Option Bool:=
  (m_name_Check p0).bind fun x1=>
  if x1 = 0 then
    (m_name_Lower p0).bind fun x4=>
    (m_name_Lower p1).bind fun x6=>
    some (decide (x4 = x6))
  else
    some false
theorem c_name_Same {w0 : World} {M : Nat→Prop} {H : List (Nat×Nat×Obj)} {R : List (Nat×Row)} {φ : World→Prop} (p0 : ByteArray) (p1 : ByteArray) (r : Bool) (hm : m_name_Same p0 p1 = some r) :
    Cn Try.prog 32 #[.string p0,.string p1] ⟨w0,M,H,R,φ⟩ (fun x : Unit=>.bool r) (fun x=>True) (fun x=>⟨w0,M,H,R,φ⟩):=by
 unfold m_name_Same at hm
 refine cn_intro (fn:=Try.f32) (N:=15) Try.func32 rfl Try.ntmps32 rfl<|c_seq<|c_region<|g_v rfl r_assign<|g_nil<|d_then<|c_seq<|c_region<|g_v rfl r_move ?_
 replace hm:=bnd hm
 obtain ⟨x1,hx2,hm⟩:=hm
 refine g_cn ⟨w0,M,_,_,φ⟩ (fun _ h=>h) Try.call66 rfl rfl (c_name_Check p0 _ hx2) (fun _ _=>?_)
 refine g_v rfl (r_eql rfl rfl)<|g_v rfl r_move ?_
 refine g_if rfl rfl rfl rfl rfl (fun h3=>?_) (fun h3=>?_)
 ·
  replace hm:=ite_t hm (of_decide_eq_true h3)
  refine g_v rfl r_move<|g_do rfl rfl rfl rfl rfl h3 ?_
  replace hm:=bnd hm
  obtain ⟨x4,hx5,hm⟩:=hm
  refine g_cn ⟨w0,M,_,_,φ⟩ (fun _ h=>h) Try.call36 rfl rfl (c_name_Lower p0 _ hx5) (fun _ _=>?_)
  refine g_do rfl rfl rfl rfl rfl h3<|g_v rfl r_move<|g_do rfl rfl rfl rfl rfl h3 ?_
  replace hm:=bnd hm
  obtain ⟨x6,hx7,hm⟩:=hm
  refine g_cn ⟨w0,M,_,_,φ⟩ (fun _ h=>h) Try.call36 rfl rfl (c_name_Lower p1 _ hx7) (fun _ _=>?_)
  refine g_do rfl rfl rfl rfl rfl h3<|g_v rfl (r_eqlT rfl rfl)<|g_v rfl (r_pick1 rfl h3)<|g_v rfl r_assign<|g_nil<|d_then ?_
  refine c_flat [(4,.bool (decide (x4 = x6)))] ⟨rfl,trivial⟩ (fun u=>?_)
  refine c_sta ⟨w0,M,H,R,φ⟩ (fun _ h=>h)<|c_ret ?_
  cases hm
  exact d_retC () Try.results32 (res_tmp (res_nil rfl)) trivial (fun W h=>ok_pre (H1:=[]) (R1:=[]) h (fun W hφ=>hφ)) (.inr rfl)
 replace hm:=ite_f hm (of_decide_eq_false h3)
 iterate 4 refine g_no rfl rfl rfl rfl rfl h3 ?_
 refine g_v rfl (r_pick0 rfl h3)<|g_v rfl r_assign<|g_nil<|d_then<|c_ret ?_
 cases hm
 exact d_retC () Try.results32 (res_tmp (res_nil rfl)) trivial (fun W h=>ok_pre (H1:=[]) (R1:=[]) h (fun W hφ=>hφ)) (.inr rfl)
noncomputable def m_conf_Apply_c1 (p0 : GAnchor) (o0 : GOrder) : Option Bool:=
  (m_name_Same p0.fName o0.fName).bind fun x2=>
  some x2
theorem c_conf_Apply_c1 {w0 : World} {M : Nat→Prop} {H : List (Nat×Nat×Obj)} {R : List (Nat×Row)} {φ : World→Prop} (p0 : GAnchor) (go0 : Nat) (o0 : GOrder) (Ao0_0 : Option Addr) (co0_0 : Nat) (hco0_0 : o0.fHints.length ≤ co0_0) (fo0_0 : ∀ W,φ W→Cl W Ao0_0 (o0.fHints.flatMap (fun x : ByteArray=>[Value.string x]))) (r : Bool) (hm : m_conf_Apply_c1 p0 o0 = some r) :
    Cn Try.prog 31 #[.agg #[.string p0.fName,.string p0.fText],.pointer (some ⟨go0,0,none⟩)] ⟨w0,M,(1000,go0,.cells #[.int .i64 o0.fKind,.int .i64 o0.fNode,.string o0.fName,.string o0.fText,.string o0.fZone,.slice Ao0_0 o0.fHints.length co0_0] 35 (0,0))::H,R,φ⟩ (fun x : Unit=>.bool r) (fun x=>True) (fun x=>⟨w0,M,(1000,go0,.cells #[.int .i64 o0.fKind,.int .i64 o0.fNode,.string o0.fName,.string o0.fText,.string o0.fZone,.slice Ao0_0 o0.fHints.length co0_0] 35 (0,0))::H,R,φ⟩):=by
 unfold m_conf_Apply_c1 at hm
 refine cn_intro (fn:=Try.f31) (N:=9) Try.func31 rfl Try.ntmps31 rfl<|c_seq<|c_region ?_
 refine g_e rfl (e_box 100020 rfl) (fun g1 _=>?_)
 refine g_v rfl r_assign<|g_nil<|d_then<|c_seq<|c_region<|g_v rfl (r_field (n:=0) Try.underlying43 rfl Try.sizeOf9 rfl rfl)<|g_v rfl (r_load (tag:=100020) rfl rfl rfl Try.isAgg9)<|g_v rfl (r_field (n:=2) Try.underlying35 rfl Try.sizeOf9 rfl rfl)<|g_v rfl (r_load (tag:=1000) rfl rfl rfl Try.isAgg9) ?_
 replace hm:=bnd hm
 obtain ⟨x2,hx3,hm⟩:=hm
 refine g_cn ⟨w0,M,_,_,φ⟩ (fun _ h=>h) Try.call32 rfl rfl (c_name_Same p0.fName o0.fName _ hx3) (fun _ _=>?_)
 refine g_v rfl r_assign<|g_nil<|d_then<|c_ret ?_
 cases hm
 exact d_retC () Try.results31 (res_tmp (res_nil rfl)) trivial (fun W h=>(h.dropH (t:=100020) rfl).phi (fun W hφ=>hφ)) (.inr rfl)
noncomputable def m_slices_IndexFunc_65_j1  : Option Int:=
  some (-1)
noncomputable def m_slices_IndexFunc_65_s2 (p0 : List GAnchor) (o0 : GOrder) (i30 : Int) : Option (Int ⊕ (Unit ⊕ Int)):=
  if i30 < (p0.length : Int) then
    (at_ p0 i30).bind fun x42=>
    (m_conf_Apply_c1 x42 o0).bind fun x46=>
    if x46 = true then
      some (.inr (.inr i30))
    else
      some (.inl (w64 (i30 + 1)))
  else
    some (.inr (.inl ()))
noncomputable def m_slices_IndexFunc_65 (p0 : List GAnchor) (o0 : GOrder) : Option Int:=
  (loop (fun s=>m_slices_IndexFunc_65_s2 p0 o0 s) 0).bind fun e=>Sum.elim (fun e=>m_slices_IndexFunc_65_j1) (fun x=>some x) e
theorem c_slices_IndexFunc_65 {w0 : World} {M : Nat→Prop} {H : List (Nat×Nat×Obj)} {R : List (Nat×Row)} {φ : World→Prop} (p0 : List GAnchor) (Ap0_0 : Option Addr) (cp0_0 : Nat) (hcp0_0 : p0.length ≤ cp0_0) (fp0_0 : ∀ W,(Sta.mk w0 M H R φ).ok W→Cl W Ap0_0 (p0.flatMap GAnchor.enc)) (go0 : Nat) (o0 : GOrder) (Ao0_0 : Option Addr) (co0_0 : Nat) (hco0_0 : o0.fHints.length ≤ co0_0) (fo0_0 : ∀ W,φ W→Cl W Ao0_0 (o0.fHints.flatMap (fun x : ByteArray=>[Value.string x]))) (r : Int) (hm : m_slices_IndexFunc_65 p0 o0 = some r) :
    Cn Try.prog 65 #[.slice Ap0_0 p0.length cp0_0,.func (.func 31) #[] #[.pointer (some ⟨go0,0,none⟩)]] ⟨w0,M,(1000,go0,.cells #[.int .i64 o0.fKind,.int .i64 o0.fNode,.string o0.fName,.string o0.fText,.string o0.fZone,.slice Ao0_0 o0.fHints.length co0_0] 35 (0,0))::H,R,φ⟩ (fun x : Unit=>.int .i64 r) (fun x=>True) (fun x=>⟨w0,M,(1000,go0,.cells #[.int .i64 o0.fKind,.int .i64 o0.fNode,.string o0.fName,.string o0.fText,.string o0.fZone,.slice Ao0_0 o0.fHints.length co0_0] 35 (0,0))::H,R,φ⟩):=by
 unfold m_slices_IndexFunc_65 at hm
 refine cn_intro (fn:=Try.f65) (N:=19) Try.func65 rfl Try.ntmps65 rfl<|c_seq<|c_region<|g_v rfl r_assign<|g_nil<|d_then<|c_seq<|c_seq<|c_region<|g_v rfl r_move ?_
 refine g_v rfl (r_lenL Try.underlying26 rfl)<|g_v rfl r_move<|g_nil<|d_then ?_
 refine c_cut (ι:=Unit) [] (fun _=>[]) (fun _=>⟨w0,M,(1000,go0,.cells #[.int .i64 o0.fKind,.int .i64 o0.fNode,.string o0.fName,.string o0.fText,.string o0.fZone,.slice Ao0_0 o0.fHints.length co0_0] 35 (0,0))::H,R,φ⟩) (fun _=>m_slices_IndexFunc_65_j1 = some r) ?_ (fun _ u hm=>?_)
 ·
  refine c_block ?_
  replace hm:=bnd hm
  obtain ⟨out2,hl2,hr2⟩:=hm
  obtain ⟨n40',hl2⟩:=loop_lp hl2
  refine c_loopU (ι:=Nat×Int) [0,1,7,8] (fun ⟨n40,i30⟩=>[(8,.int .i64 i30)]) (fun ⟨n40,i30⟩=>⟨w0,M,(1000,go0,.cells #[.int .i64 o0.fKind,.int .i64 o0.fNode,.string o0.fName,.string o0.fText,.string o0.fZone,.slice Ao0_0 o0.fHints.length co0_0] 35 (0,0))::H,R,φ⟩) (fun ⟨n40,i30⟩=>Lp (fun s=>m_slices_IndexFunc_65_s2 p0 o0 s) n40 i30 out2) (fun ⟨n40,i30⟩=>n40) (n40',0) hl2 ⟨rfl,rfl,rfl,rfl,trivial⟩ (fun W h=>h.phi (fun W hφ=>hφ)) (fun ⟨n40,i30⟩ u hlp=>?_)
  obtain ⟨o2,hm,hnx2⟩:=lp_step hlp
  clear hlp
  replace hm : m_slices_IndexFunc_65_s2 p0 o0 i30 = some o2:=hm
  unfold m_slices_IndexFunc_65_s2 at hm
  refine c_flat [(0,.slice Ap0_0 p0.length cp0_0),(1,.func (.func 31) #[] #[.pointer (some ⟨go0,0,none⟩)]),(7,.int .i64 (p0.length : Int)),(8,.int .i64 i30)] ⟨rfl,rfl,rfl,rfl,trivial⟩ (fun u=>?_)
  refine c_sta ⟨w0,M,(1000,go0,.cells #[.int .i64 o0.fKind,.int .i64 o0.fNode,.string o0.fName,.string o0.fText,.string o0.fZone,.slice Ao0_0 o0.fHints.length co0_0] 35 (0,0))::H,R,φ⟩ (fun _ h=>h)<|c_seq<|c_region<|g_v rfl (r_lss rfl rfl)<|g_nil<|d_then<|c_seq ?_
  refine c_cond rfl (fun h41=>?_) (fun h41=>?_)
  ·
   replace hm:=ite_t hm (of_decide_eq_true h41)
   refine c_skip<|d_then<|c_seq<|c_block<|c_seq<|c_region<|g_v rfl r_move<|g_v rfl r_assign<|g_nil<|d_then ?_
   refine c_seq<|c_region ?_
   iterate 3 refine g_v rfl r_move ?_
   replace hm:=bnd hm
   obtain ⟨x42,hx42,hm⟩:=hm
   refine g_know _ (fun W hS=>cl_at (p:=(Sta.mk w0 M H R φ).ok) (sz:=2) (fun _=>rfl) (by decide) (ok_pre (H1:=[_]) (R1:=[]) hS (fun W h=>h)) fp0_0 hx42) ?_
   rintro ⟨ad43,hA45,f44⟩
   refine g_v rfl (r_ix Try.underlying26 Try.sizeOf43 rfl hA45 rfl hx42)<|g_v rfl (r_ldA rfl Try.isAgg43 Try.sizeOf43 (fun W hS=>(f44 W (ok_pre (H1:=[_]) (R1:=[]) hS (fun W h=>h))).take 2) rfl) ?_
   replace hm:=bnd hm
   obtain ⟨x46,hx47,hm⟩:=hm
   refine g_cnv ⟨w0,M,(1000,go0,.cells #[.int .i64 o0.fKind,.int .i64 o0.fNode,.string o0.fName,.string o0.fText,.string o0.fZone,.slice Ao0_0 o0.fHints.length co0_0] 35 (0,0))::H,R,φ⟩ (fun W h=>(ok_front (t:=1000) (t':=1000) h rfl)) Try.call31 rfl rfl rfl (c_conf_Apply_c1 x42 go0 o0 Ao0_0 co0_0 hco0_0 (fun W h=>fo0_0 W h) _ hx47) (fun _ _=>?_)
   refine g_sta _ (fun W h=>(ok_front (t:=1000) (t':=1000) h rfl))<|g_nil<|d_then ?_
   refine c_flat [(0,.slice Ap0_0 p0.length cp0_0),(1,.func (.func 31) #[] #[.pointer (some ⟨go0,0,none⟩)]),(5,.int .i64 i30),(7,.int .i64 (p0.length : Int)),(8,.int .i64 i30),(16,.bool x46)] ⟨rfl,rfl,rfl,rfl,rfl,rfl,trivial⟩ (fun u=>?_)
   refine c_cond rfl (fun h48=>?_) (fun h48=>?_)
   ·
    replace hm:=ite_t hm h48
    refine c_seq<|c_region<|g_v rfl r_move<|g_v rfl r_assign<|g_nil<|d_then<|c_ret<|d_ret_block<|d_ret_then<|d_ret_then ?_
    refine d_ret_block<|d_ret_then<|d_ret_then ?_
    replace hm:=nx_out (C:=(fun e : Unit ⊕ Int=>Sum.elim (fun e=>m_slices_IndexFunc_65_j1) (fun x=>some x) e = some r)) hm hnx2 hr2
    replace hm : some i30 = some r:=hm
    cases hm
    exact d_retC () Try.results65 (res_tmp (res_nil rfl)) trivial (fun W h=>h.phi (fun W hφ=>hφ)) (.inr rfl)
   replace hm:=ite_f hm (bool_nt h48)
   refine c_skip<|d_normal_block<|d_then<|c_region<|g_v rfl (r_add rfl rfl rfl)<|g_v rfl r_move<|g_nil ?_
   obtain ⟨n49,hn49,hlp⟩:=nx_inl hm hnx2
   exact d_round (n49,w64 (i30 + 1)) hlp hn49 ⟨rfl,rfl,rfl,rfl,trivial⟩ (fun W h=>h.phi (fun W hφ=>hφ))
  replace hm:=ite_f hm (of_decide_eq_false h41)
  refine c_exit<|d_exit_then<|d_exit_then<|d_exit_block ?_
  replace hm:=nx_out (C:=(fun e : Unit ⊕ Int=>Sum.elim (fun e=>m_slices_IndexFunc_65_j1) (fun x=>some x) e = some r)) hm hnx2 hr2
  exact d_round () hm Nat.zero_lt_one trivial (fun W h=>h.phi (fun W hφ=>hφ))
 unfold m_slices_IndexFunc_65_j1 at hm
 refine d_flat [] trivial (fun u=>?_)
 refine d_sta ⟨w0,M,(1000,go0,.cells #[.int .i64 o0.fKind,.int .i64 o0.fNode,.string o0.fName,.string o0.fText,.string o0.fZone,.slice Ao0_0 o0.fHints.length co0_0] 35 (0,0))::H,R,φ⟩ (fun _ h=>h)<|d_then<|c_seq<|c_region<|g_v rfl r_assign<|g_nil<|d_then<|c_ret ?_
 cases hm
 exact d_retC () Try.results65 (res_tmp (res_nil rfl)) trivial (fun W h=>h.phi (fun W hφ=>hφ)) (.inr rfl)
noncomputable def m_slices_DeleteFunc_30_j1  (l53 : List GAnchor) (i56 : Int) : Option (List GAnchor):=
  (cutLo l53 i56).bind fun l57=>
  (cutHi l53 i56).bind fun l58=>
  some l58
noncomputable def m_slices_DeleteFunc_30_s2 (o0 : GOrder) (l81 : List GAnchor) (i84 : Int) (i85 : Int) : Option (((List GAnchor)×Int×Int) ⊕ ((List GAnchor)×Int)):=
  if i85 < (l81.length : Int) then
    (at_ l81 i85).bind fun x109=>
    (m_conf_Apply_c1 x109 o0).bind fun x114=>
    if x114 = true then
      some (.inl (l81,i84,w64 (i85 + 1)))
    else
      (at_ l81 i84).bind fun x117=>
      (setAt l81 i84 x109).bind fun l121=>
      some (.inl (l121,w64 (i84 + 1),w64 (i85 + 1)))
  else
    some (.inr (l81,i84))
noncomputable def m_slices_DeleteFunc_30 (p0 : List GAnchor) (o0 : GOrder) : Option (List GAnchor):=
  (m_slices_IndexFunc_65 p0 o0).bind fun x1=>
  if x1 = (-1) then
    some p0
  else
    (loop (fun s=>m_slices_DeleteFunc_30_s2 o0 s.1 s.2.1 s.2.2) (p0,x1,w64 (x1 + 1))).bind fun e=>m_slices_DeleteFunc_30_j1 e.1 e.2
theorem c_slices_DeleteFunc_30 {w0 : World} {M : Nat→Prop} {H : List (Nat×Nat×Obj)} {R : List (Nat×Row)} {φ : World→Prop} (p0 : List GAnchor) (Ap0_0 : Option Addr) (cp0_0 : Nat) (hcp0_0 : p0.length ≤ cp0_0) (go0 : Nat) (o0 : GOrder) (Ao0_0 : Option Addr) (co0_0 : Nat) (hco0_0 : o0.fHints.length ≤ co0_0) (fo0_0 : ∀ W,φ W→Cl W Ao0_0 (o0.fHints.flatMap (fun x : ByteArray=>[Value.string x]))) (r : (List GAnchor)) (hm : m_slices_DeleteFunc_30 p0 o0 = some r) :
    Cn Try.prog 30 #[.slice Ap0_0 p0.length cp0_0,.func (.func 31) #[] #[.pointer (some ⟨go0,0,none⟩)]] ⟨w0,M,(1000,go0,.cells #[.int .i64 o0.fKind,.int .i64 o0.fNode,.string o0.fName,.string o0.fText,.string o0.fZone,.slice Ao0_0 o0.fHints.length co0_0] 35 (0,0))::H,(1000,⟨.slice Ap0_0 p0.length cp0_0,43,2,p0.length,p0.flatMap GAnchor.enc⟩)::R,φ⟩ (fun x : Option Addr×Nat=>.slice x.1 r.length x.2) (fun x=>r.length ≤ x.2) (fun x=>⟨w0,M,(1000,go0,.cells #[.int .i64 o0.fKind,.int .i64 o0.fNode,.string o0.fName,.string o0.fText,.string o0.fZone,.slice Ao0_0 o0.fHints.length co0_0] 35 (0,0))::H,(2000,⟨.slice x.1 r.length x.2,43,2,r.length,r.flatMap GAnchor.enc⟩)::R,φ⟩):=by
 unfold m_slices_DeleteFunc_30 at hm
 refine cn_intro (fn:=Try.f30) (N:=42) Try.func30 rfl Try.ntmps30 rfl<|c_seq<|c_region<|g_v rfl r_assign<|g_nil<|d_then<|c_seq<|c_region<|g_v rfl r_move<|g_v rfl r_move ?_
 replace hm:=bnd hm
 obtain ⟨x1,hx2,hm⟩:=hm
 refine g_cn ⟨w0,M,(1000,go0,.cells #[.int .i64 o0.fKind,.int .i64 o0.fNode,.string o0.fName,.string o0.fText,.string o0.fZone,.slice Ao0_0 o0.fHints.length co0_0] 35 (0,0))::H,(1000,⟨.slice Ap0_0 p0.length cp0_0,43,2,p0.length,p0.flatMap GAnchor.enc⟩)::R,φ⟩ (fun W h=>(ok_front (t:=1000) (t':=1000) h rfl)) Try.call65 rfl rfl (c_slices_IndexFunc_65 p0 Ap0_0 cp0_0 hcp0_0 (fun W hS=>rowCl (tag:=1000) rfl W hS) go0 o0 Ao0_0 co0_0 hco0_0 (fun W h=>fo0_0 W h) _ hx2) (fun _ _=>?_)
 refine g_sta _ (fun W h=>(ok_front (t:=1000) (t':=1000) h rfl))<|g_v rfl r_assign<|g_nil<|d_then<|c_seq<|c_seq<|c_region<|g_v rfl r_move<|g_v rfl (r_eql rfl rfl)<|g_nil ?_
 refine d_then<|c_sta ⟨w0,M,(1000,go0,.cells #[.int .i64 o0.fKind,.int .i64 o0.fNode,.string o0.fName,.string o0.fText,.string o0.fZone,.slice Ao0_0 o0.fHints.length co0_0] 35 (0,0))::H,(1000,⟨.slice Ap0_0 p0.length cp0_0,43,2,p0.length,p0.flatMap GAnchor.enc⟩)::R,φ⟩ (fun _ h=>h) ?_
 refine c_cond rfl (fun h3=>?_) (fun h3=>?_)
 ·
  replace hm:=ite_t hm (of_decide_eq_true h3)
  refine c_seq<|c_region<|g_v rfl r_move<|g_v rfl r_assign<|g_nil<|d_then ?_
  refine c_flat [(4,.slice Ap0_0 p0.length cp0_0)] ⟨rfl,trivial⟩ (fun u=>?_)
  refine c_ret<|d_ret_then ?_
  cases hm
  refine d_sta _ (fun W h=>ok_frontR (t:=1000) (t':=2000) h rfl) ?_
  exact d_retC (Ap0_0,cp0_0) Try.results30 (res_tmp (res_nil rfl)) hcp0_0 (fun W h=>h.phi (fun W hφ=>hφ)) (.inr rfl)
 replace hm:=ite_f hm (of_decide_eq_false h3)
 refine c_skip<|d_then<|c_seq<|c_seq<|c_region<|g_v rfl r_move<|g_v rfl (r_add rfl rfl rfl)<|g_v rfl r_assign<|g_nil<|d_then ?_
 refine c_flat [(0,.slice Ap0_0 p0.length cp0_0),(1,.func (.func 31) #[] #[.pointer (some ⟨go0,0,none⟩)]),(5,.int .i64 x1),(6,.int .i64 (w64 (x1 + 1)))] ⟨rfl,rfl,rfl,rfl,trivial⟩ (fun u=>?_)
 refine c_cut (ι:=(List GAnchor)×Int) [0,5] (fun ⟨l53,i56⟩=>[(0,.slice Ap0_0 l53.length cp0_0),(5,.int .i64 i56)]) (fun ⟨l53,i56⟩=>⟨w0,M,(1000,go0,.cells #[.int .i64 o0.fKind,.int .i64 o0.fNode,.string o0.fName,.string o0.fText,.string o0.fZone,.slice Ao0_0 o0.fHints.length co0_0] 35 (0,0))::H,(1000,⟨.slice Ap0_0 l53.length cp0_0,43,2,l53.length,l53.flatMap GAnchor.enc⟩)::R,φ⟩) (fun ⟨l53,i56⟩=>m_slices_DeleteFunc_30_j1 l53 i56 = some r∧(l53.length ≤ cp0_0∧l53.length = p0.length)) ?_ (fun ⟨l53,i56⟩ u ⟨hm,hl53⟩=>?_)
 ·
  refine c_block ?_
  replace hm:=bnd hm
  obtain ⟨out2,hl2,hr2⟩:=hm
  obtain ⟨n107',hl2⟩:=loop_lp hl2
  refine c_loopU (ι:=Nat×(List GAnchor)×Int×Int) [0,1,5,6] (fun ⟨n107,l81,i84,i85⟩=>[(0,.slice Ap0_0 l81.length cp0_0),(5,.int .i64 i84),(6,.int .i64 i85)]) (fun ⟨n107,l81,i84,i85⟩=>⟨w0,M,(1000,go0,.cells #[.int .i64 o0.fKind,.int .i64 o0.fNode,.string o0.fName,.string o0.fText,.string o0.fZone,.slice Ao0_0 o0.fHints.length co0_0] 35 (0,0))::H,(1000,⟨.slice Ap0_0 l81.length cp0_0,43,2,l81.length,l81.flatMap GAnchor.enc⟩)::R,φ⟩) (fun ⟨n107,l81,i84,i85⟩=>Lp (fun s=>m_slices_DeleteFunc_30_s2 o0 s.1 s.2.1 s.2.2) n107 (l81,i84,i85) out2∧(l81.length ≤ cp0_0∧l81.length = p0.length)) (fun ⟨n107,l81,i84,i85⟩=>n107) (n107',p0,x1,w64 (x1 + 1)) ⟨hl2,⟨hcp0_0,rfl⟩⟩ ⟨rfl,rfl,rfl,rfl,trivial⟩ (fun W h=>h.phi (fun W hφ=>hφ)) (fun ⟨n107,l81,i84,i85⟩ u ⟨hlp,hl81⟩=>?_)
  obtain ⟨o2,hm,hnx2⟩:=lp_step hlp
  clear hlp
  replace hm : m_slices_DeleteFunc_30_s2 o0 l81 i84 i85 = some o2:=hm
  unfold m_slices_DeleteFunc_30_s2 at hm
  refine c_flat [(0,.slice Ap0_0 l81.length cp0_0),(1,.func (.func 31) #[] #[.pointer (some ⟨go0,0,none⟩)]),(5,.int .i64 i84),(6,.int .i64 i85)] ⟨rfl,rfl,rfl,rfl,trivial⟩ (fun u=>?_)
  refine c_sta ⟨w0,M,(1000,go0,.cells #[.int .i64 o0.fKind,.int .i64 o0.fNode,.string o0.fName,.string o0.fText,.string o0.fZone,.slice Ao0_0 o0.fHints.length co0_0] 35 (0,0))::H,(1000,⟨.slice Ap0_0 l81.length cp0_0,43,2,l81.length,l81.flatMap GAnchor.enc⟩)::R,φ⟩ (fun _ h=>h)<|c_seq<|c_seq<|c_region<|g_v rfl r_move<|g_v rfl r_move<|g_v rfl (r_lenL Try.underlying26 rfl)<|g_v rfl (r_lss rfl rfl)<|g_nil<|d_then ?_
  refine c_cond rfl (fun h108=>?_) (fun h108=>?_)
  ·
   replace hm:=ite_t hm (of_decide_eq_true h108)
   refine c_skip<|d_then<|c_seq<|c_block<|c_seq<|c_region<|g_v rfl r_move<|g_v rfl r_move ?_
   replace hm:=bnd hm
   obtain ⟨x109,hx109,hm⟩:=hm
   refine g_know _ (fun W hS=>cl_at (p:=(Sta.ok ⟨w0,M,(1000,go0,.cells #[.int .i64 o0.fKind,.int .i64 o0.fNode,.string o0.fName,.string o0.fText,.string o0.fZone,.slice Ao0_0 o0.fHints.length co0_0] 35 (0,0))::H,(1000,⟨.slice Ap0_0 l81.length cp0_0,43,2,l81.length,l81.flatMap GAnchor.enc⟩)::R,φ⟩)) (sz:=2) (fun _=>rfl) (by decide) hS (fun W hS=>rowCl (S:=⟨w0,M,(1000,go0,.cells #[.int .i64 o0.fKind,.int .i64 o0.fNode,.string o0.fName,.string o0.fText,.string o0.fZone,.slice Ao0_0 o0.fHints.length co0_0] 35 (0,0))::H,(1000,⟨.slice Ap0_0 l81.length cp0_0,43,2,l81.length,l81.flatMap GAnchor.enc⟩)::R,φ⟩) (tag:=1000) rfl W hS) hx109) ?_
   rintro ⟨ad110,hA112,f111⟩
   refine g_v rfl (r_ix Try.underlying26 Try.sizeOf43 rfl hA112 rfl hx109)<|g_v rfl (r_ldA rfl Try.isAgg43 Try.sizeOf43 (fun W hS=>(f111 W hS).take 2) rfl) ?_
   refine g_e rfl (e_alloc 100070 Try.zeroValue43) (fun g113 _=>?_)
   refine g_storeL (tag:=100070) rfl rfl rfl rfl Try.sizeOf43 rfl rfl<|g_nil<|d_then ?_
   refine c_flat [(0,.slice Ap0_0 l81.length cp0_0),(1,.func (.func 31) #[] #[.pointer (some ⟨go0,0,none⟩)]),(5,.int .i64 i84),(6,.int .i64 i85),(7,.pointer (some ⟨g113,0,none⟩))] ⟨rfl,rfl,rfl,rfl,rfl,trivial⟩ (fun u=>?_)
   refine c_sta ⟨w0,M,(100070,g113,.cells #[.string x109.fName,.string x109.fText] 43 (0,0))::(1000,go0,.cells #[.int .i64 o0.fKind,.int .i64 o0.fNode,.string o0.fName,.string o0.fText,.string o0.fZone,.slice Ao0_0 o0.fHints.length co0_0] 35 (0,0))::H,(1000,⟨.slice Ap0_0 l81.length cp0_0,43,2,l81.length,l81.flatMap GAnchor.enc⟩)::R,φ⟩ (fun _ h=>h)<|c_seq<|c_region<|g_v rfl r_move<|g_v rfl (r_loadA (tag:=100070) rfl rfl Try.isAgg43 Try.sizeOf43 rfl rfl) ?_
   replace hm:=bnd hm
   obtain ⟨x114,hx115,hm⟩:=hm
   refine g_cnv ⟨w0,M,(1000,go0,.cells #[.int .i64 o0.fKind,.int .i64 o0.fNode,.string o0.fName,.string o0.fText,.string o0.fZone,.slice Ao0_0 o0.fHints.length co0_0] 35 (0,0))::(100070,g113,.cells #[.string x109.fName,.string x109.fText] 43 (0,0))::H,(1000,⟨.slice Ap0_0 l81.length cp0_0,43,2,l81.length,l81.flatMap GAnchor.enc⟩)::R,φ⟩ (fun W h=>(ok_front (t:=1000) (t':=1000) h rfl)) Try.call31 rfl rfl rfl (c_conf_Apply_c1 x109 go0 o0 Ao0_0 co0_0 hco0_0 (fun W h=>fo0_0 W h) _ hx115) (fun _ _=>?_)
   refine g_sta _ (fun W h=>(ok_front (t:=1000) (t':=1000) h rfl))<|g_v rfl (r_not rfl)<|g_nil<|d_then<|c_sta ⟨w0,M,(1000,go0,.cells #[.int .i64 o0.fKind,.int .i64 o0.fNode,.string o0.fName,.string o0.fText,.string o0.fZone,.slice Ao0_0 o0.fHints.length co0_0] 35 (0,0))::(100070,g113,.cells #[.string x109.fName,.string x109.fText] 43 (0,0))::H,(1000,⟨.slice Ap0_0 l81.length cp0_0,43,2,l81.length,l81.flatMap GAnchor.enc⟩)::R,φ⟩ (fun _ h=>h) ?_
   refine c_cond rfl (fun h116=>?_) (fun h116=>?_)
   ·
    have h116' : x114 = false:=by revert h116; cases x114 <;> simp
    replace hm:=ite_f hm (bool_nt h116')
    refine c_seq<|c_region<|g_v rfl r_move<|g_v rfl r_move<|g_v rfl (r_loadA (tag:=100070) rfl rfl Try.isAgg43 Try.sizeOf43 rfl rfl) ?_
    replace hm:=bnd hm
    obtain ⟨x117,hx117,hm⟩:=hm
    refine g_know _ (fun W hS=>cl_at (p:=(Sta.ok ⟨w0,M,(1000,go0,.cells #[.int .i64 o0.fKind,.int .i64 o0.fNode,.string o0.fName,.string o0.fText,.string o0.fZone,.slice Ao0_0 o0.fHints.length co0_0] 35 (0,0))::(100070,g113,.cells #[.string x109.fName,.string x109.fText] 43 (0,0))::H,(1000,⟨.slice Ap0_0 l81.length cp0_0,43,2,l81.length,l81.flatMap GAnchor.enc⟩)::R,φ⟩)) (sz:=2) (fun _=>rfl) (by decide) hS (fun W hS=>rowCl (S:=⟨w0,M,(1000,go0,.cells #[.int .i64 o0.fKind,.int .i64 o0.fNode,.string o0.fName,.string o0.fText,.string o0.fZone,.slice Ao0_0 o0.fHints.length co0_0] 35 (0,0))::(100070,g113,.cells #[.string x109.fName,.string x109.fText] 43 (0,0))::H,(1000,⟨.slice Ap0_0 l81.length cp0_0,43,2,l81.length,l81.flatMap GAnchor.enc⟩)::R,φ⟩) (tag:=1000) rfl W hS) hx117) ?_
    rintro ⟨ad118,hA120,f119⟩
    refine g_v rfl (r_ix Try.underlying26 Try.sizeOf43 rfl hA120 rfl hx117) ?_
    replace hm:=bnd hm
    obtain ⟨l121,hl121,hm⟩:=hm
    refine g_stR (tag:=1000) (enc:=GAnchor.enc) (l:=l81) (off:=0) (vs:=[.string x109.fName,.string x109.fText]) (add0 rfl) hA120 rfl rfl hx117 hl121 rfl (Nat.le_of_ble_eq_true rfl) (fun _=>rfl) rfl rfl Try.sizeOf43 ?_
    rw [show l81.length = l121.length from (setAt_lenE hl121).symm]
    have hv123:=setAt_at hl121
    have f122:=cl_at2 (p:=(Sta.ok ⟨w0,M,(1000,go0,.cells #[.int .i64 o0.fKind,.int .i64 o0.fNode,.string o0.fName,.string o0.fText,.string o0.fZone,.slice Ao0_0 o0.fHints.length co0_0] 35 (0,0))::(100070,g113,.cells #[.string x109.fName,.string x109.fText] 43 (0,0))::H,(1000,⟨.slice Ap0_0 l121.length cp0_0,43,2,l121.length,l121.flatMap GAnchor.enc⟩)::R,φ⟩)) (enc:=GAnchor.enc) (sz:=2) (fun _=>rfl) hA120 (fun W hS=>rowCl (S:=⟨w0,M,(1000,go0,.cells #[.int .i64 o0.fKind,.int .i64 o0.fNode,.string o0.fName,.string o0.fText,.string o0.fZone,.slice Ao0_0 o0.fHints.length co0_0] 35 (0,0))::(100070,g113,.cells #[.string x109.fName,.string x109.fText] 43 (0,0))::H,(1000,⟨.slice Ap0_0 l121.length cp0_0,43,2,l121.length,l121.flatMap GAnchor.enc⟩)::R,φ⟩) (tag:=1000) rfl W hS) hv123
    refine g_nil<|d_then ?_
    refine c_flat [(0,.slice Ap0_0 l121.length cp0_0),(1,.func (.func 31) #[] #[.pointer (some ⟨go0,0,none⟩)]),(5,.int .i64 i84),(6,.int .i64 i85)] ⟨rfl,rfl,rfl,rfl,trivial⟩ (fun u=>?_)
    refine c_sta ⟨w0,M,(1000,go0,.cells #[.int .i64 o0.fKind,.int .i64 o0.fNode,.string o0.fName,.string o0.fText,.string o0.fZone,.slice Ao0_0 o0.fHints.length co0_0] 35 (0,0))::(100070,g113,.cells #[.string x109.fName,.string x109.fText] 43 (0,0))::H,(1000,⟨.slice Ap0_0 l121.length cp0_0,43,2,l121.length,l121.flatMap GAnchor.enc⟩)::R,φ⟩ (fun _ h=>h)<|c_region<|g_v rfl r_move<|g_v rfl (r_add rfl rfl rfl)<|g_v rfl r_assign<|g_nil<|d_normal_block<|d_then<|c_region<|g_v rfl r_move ?_
    refine g_v rfl (r_add rfl rfl rfl)<|g_v rfl r_assign<|g_nil ?_
    obtain ⟨n124,hn124,hlp⟩:=nx_inl hm hnx2
    exact d_round (n124,l121,w64 (i84 + 1),w64 (i85 + 1)) ⟨hlp,⟨(setAt_len hl81.1 hl121),((setAt_lenE hl121).trans hl81.2)⟩⟩ hn124 ⟨rfl,rfl,rfl,rfl,trivial⟩ (fun W h=>(h.dropH (t:=100070) rfl).phi (fun W hφ=>hφ))
   have h116' : x114 = true:=by revert h116; cases x114 <;> simp
   replace hm:=ite_t hm h116'
   refine c_skip<|d_normal_block<|d_then<|c_region<|g_v rfl r_move<|g_v rfl (r_add rfl rfl rfl)<|g_v rfl r_assign<|g_nil ?_
   obtain ⟨n125,hn125,hlp⟩:=nx_inl hm hnx2
   exact d_round (n125,l81,i84,w64 (i85 + 1)) ⟨hlp,⟨hl81.1,hl81.2⟩⟩ hn125 ⟨rfl,rfl,rfl,rfl,trivial⟩ (fun W h=>(h.dropH (t:=100070) rfl).phi (fun W hφ=>hφ))
  replace hm:=ite_f hm (of_decide_eq_false h108)
  refine c_exit<|d_exit_then<|d_exit_then<|d_exit_block ?_
  replace hm:=nx_out (C:=(fun e : (List GAnchor)×Int=>m_slices_DeleteFunc_30_j1 e.1 e.2 = some r)) hm hnx2 hr2
  exact d_round (l81,i84) ⟨hm,⟨hl81.1,hl81.2⟩⟩ Nat.zero_lt_one ⟨rfl,rfl,trivial⟩ (fun W h=>h.phi (fun W hφ=>hφ))
 unfold m_slices_DeleteFunc_30_j1 at hm
 refine d_flat [(0,.slice Ap0_0 l53.length cp0_0),(5,.int .i64 i56)] ⟨rfl,rfl,trivial⟩ (fun u=>?_)
 refine d_sta ⟨w0,M,(1000,go0,.cells #[.int .i64 o0.fKind,.int .i64 o0.fNode,.string o0.fName,.string o0.fText,.string o0.fZone,.slice Ao0_0 o0.fHints.length co0_0] 35 (0,0))::H,(1000,⟨.slice Ap0_0 l53.length cp0_0,43,2,l53.length,l53.flatMap GAnchor.enc⟩)::R,φ⟩ (fun _ h=>h)<|d_then<|c_seq<|c_region<|g_v rfl r_move<|g_v rfl r_move ?_
 replace hm:=bnd hm
 obtain ⟨l57,hl57,hm⟩:=hm
 refine g_v rfl (r_lcutLo Try.underlying26 Try.sizeOf43 rfl hl53.1 rfl hl57) ?_
 replace hm:=bnd hm
 obtain ⟨l58,hl58,hm⟩:=hm
 refine g_sta _ (fun W h=>row_cut (tag:=1000) (enc:=GAnchor.enc) (fun _=>rfl) rfl hl58 h)<|g_e0 (e_clearLo (tag:=1000) (enc:=GAnchor.enc) Try.underlying26 Try.zeroValue43 rfl rfl hl58 hl57 rfl hl53.1 rfl)<|g_nil<|d_then<|c_seq<|c_region<|g_v rfl r_move<|g_v rfl r_move<|g_v rfl (r_lcutHi Try.underlying26 Try.sizeOf43 rfl hl53.1 rfl hl58)<|g_v rfl r_assign ?_
 refine g_nil<|d_then<|c_ret ?_
 cases hm
 refine d_sta _ (fun W h=>ok_frontR (t:=1000) (t':=2000) h rfl) ?_
 exact d_retC (Ap0_0,cp0_0) Try.results30 (res_tmp (res_nil rfl)) (cutHi_len hl53.1 hl58) (fun W h=>h.phi (fun W hφ=>hφ)) (.inr rfl)
theorem lit43_22 (z0 : ByteArray) (z1 : ByteArray) : Try.prog.builtSlice 43 1 [(0,.agg #[.string z0,.string z1])] = some #[.string z0,.string z1]:=by kernel_rfl
noncomputable def m_cmp_isNaN_69 (p0 : ByteArray) : Option Bool:=
  some (!(decide (p0 = p0)))
theorem c_cmp_isNaN_69 {w0 : World} {M : Nat→Prop} {H : List (Nat×Nat×Obj)} {R : List (Nat×Row)} {φ : World→Prop} (p0 : ByteArray) (r : Bool) (hm : m_cmp_isNaN_69 p0 = some r) :
    Cn Try.prog 69 #[.string p0] ⟨w0,M,H,R,φ⟩ (fun x : Unit=>.bool r) (fun x=>True) (fun x=>⟨w0,M,H,R,φ⟩):=by
 unfold m_cmp_isNaN_69 at hm
 refine cn_intro (fn:=Try.f69) (N:=6) Try.func69 rfl Try.ntmps69 rfl<|c_seq<|c_region<|g_v rfl r_assign<|g_nil<|d_then<|c_seq<|c_region<|g_v rfl r_move<|g_v rfl r_move ?_
 refine g_v rfl (r_neqT rfl rfl)<|g_v rfl r_assign<|g_nil<|d_then<|c_ret ?_
 cases hm
 exact d_retC () Try.results69 (res_tmp (res_nil rfl)) trivial (fun W h=>ok_pre (H1:=[]) (R1:=[]) h (fun W hφ=>hφ)) (.inr rfl)
noncomputable def m_cmp_Compare_35 (p0 : ByteArray) (p1 : ByteArray) : Option Int:=
  (m_cmp_isNaN_69 p0).bind fun x1=>
  (m_cmp_isNaN_69 p1).bind fun x3=>
  if x1 = true then
    if x3 = true then
      some 0
    else
      some (-1)
  else
    if x3 = true then
      some 1
    else
      if (sless p0 p1) = true then
        some (-1)
      else
        if (!(sless p0 p1 || decide (p0 = p1))) = true then
          some 1
        else
          some 0
theorem c_cmp_Compare_35 {w0 : World} {M : Nat→Prop} {H : List (Nat×Nat×Obj)} {R : List (Nat×Row)} {φ : World→Prop} (p0 : ByteArray) (p1 : ByteArray) (r : Int) (hm : m_cmp_Compare_35 p0 p1 = some r) :
    Cn Try.prog 35 #[.string p0,.string p1] ⟨w0,M,H,R,φ⟩ (fun x : Unit=>.int .i64 r) (fun x=>True) (fun x=>⟨w0,M,H,R,φ⟩):=by
 unfold m_cmp_Compare_35 at hm
 refine cn_intro (fn:=Try.f35) (N:=20) Try.func35 rfl Try.ntmps35 rfl<|c_seq<|c_region<|g_v rfl r_assign<|g_nil<|d_then<|c_seq<|c_region<|g_v rfl r_move ?_
 replace hm:=bnd hm
 obtain ⟨x1,hx2,hm⟩:=hm
 refine g_cn ⟨w0,M,_,_,φ⟩ (fun _ h=>h) Try.call69 rfl rfl (c_cmp_isNaN_69 p0 _ hx2) (fun _ _=>?_)
 refine g_v rfl r_assign<|g_nil<|d_then<|c_seq<|c_region<|g_v rfl r_move ?_
 replace hm:=bnd hm
 obtain ⟨x3,hx4,hm⟩:=hm
 refine g_cn ⟨w0,M,_,_,φ⟩ (fun _ h=>h) Try.call69 rfl rfl (c_cmp_isNaN_69 p1 _ hx4) (fun _ _=>?_)
 refine g_v rfl r_assign<|g_nil<|d_then<|c_seq<|c_seq<|c_region<|g_v rfl r_move<|g_nil<|d_then ?_
 refine c_cond rfl (fun h5=>?_) (fun h5=>?_)
 ·
  replace hm:=ite_t hm h5
  refine c_seq<|c_seq<|c_region<|g_v rfl r_move<|g_nil<|d_then ?_
  refine c_flat [(12,.bool x3)] ⟨rfl,trivial⟩ (fun u=>?_)
  refine c_sta ⟨w0,M,H,R,φ⟩ (fun _ h=>h) ?_
  refine c_cond rfl (fun h6=>?_) (fun h6=>?_)
  ·
   replace hm:=ite_t hm h6
   refine c_seq<|c_region<|g_v rfl r_assign<|g_nil<|d_then<|c_ret<|d_ret_then<|d_ret_then ?_
   cases hm
   exact d_retC () Try.results35 (res_tmp (res_nil rfl)) trivial (fun W h=>ok_pre (H1:=[]) (R1:=[]) h (fun W hφ=>hφ)) (.inr rfl)
  replace hm:=ite_f hm (bool_nt h6)
  refine c_skip<|d_then<|c_seq<|c_region<|g_v rfl r_assign<|g_nil<|d_then<|c_ret<|d_ret_then ?_
  cases hm
  exact d_retC () Try.results35 (res_tmp (res_nil rfl)) trivial (fun W h=>ok_pre (H1:=[]) (R1:=[]) h (fun W hφ=>hφ)) (.inr rfl)
 replace hm:=ite_f hm (bool_nt h5)
 refine c_skip<|d_then<|c_seq<|c_seq<|c_region<|g_v rfl r_move<|g_nil<|d_then ?_
 refine c_flat [(0,.string p0),(1,.string p1),(13,.bool x3)] ⟨rfl,rfl,rfl,trivial⟩ (fun u=>?_)
 refine c_sta ⟨w0,M,H,R,φ⟩ (fun _ h=>h) ?_
 refine c_cond rfl (fun h7=>?_) (fun h7=>?_)
 ·
  replace hm:=ite_t hm h7
  refine c_seq<|c_region<|g_v rfl r_assign<|g_nil<|d_then<|c_ret<|d_ret_then ?_
  cases hm
  exact d_retC () Try.results35 (res_tmp (res_nil rfl)) trivial (fun W h=>ok_pre (H1:=[]) (R1:=[]) h (fun W hφ=>hφ)) (.inr rfl)
 replace hm:=ite_f hm (bool_nt h7)
 refine c_skip<|d_then<|c_seq<|c_seq<|c_region<|g_v rfl r_move<|g_v rfl r_move<|g_v rfl (r_lssT rfl rfl)<|g_nil<|d_then ?_
 refine c_cond rfl (fun h8=>?_) (fun h8=>?_)
 ·
  replace hm:=ite_t hm h8
  refine c_seq<|c_region<|g_v rfl r_assign<|g_nil<|d_then<|c_ret<|d_ret_then ?_
  cases hm
  exact d_retC () Try.results35 (res_tmp (res_nil rfl)) trivial (fun W h=>ok_pre (H1:=[]) (R1:=[]) h (fun W hφ=>hφ)) (.inr rfl)
 replace hm:=ite_f hm (bool_nt h8)
 refine c_skip<|d_then<|c_seq<|c_seq<|c_region<|g_v rfl r_move<|g_v rfl r_move<|g_v rfl (r_gtrT rfl rfl)<|g_nil<|d_then ?_
 refine c_cond rfl (fun h9=>?_) (fun h9=>?_)
 ·
  replace hm:=ite_t hm h9
  refine c_seq<|c_region<|g_v rfl r_assign<|g_nil<|d_then<|c_ret<|d_ret_then ?_
  cases hm
  exact d_retC () Try.results35 (res_tmp (res_nil rfl)) trivial (fun W h=>ok_pre (H1:=[]) (R1:=[]) h (fun W hφ=>hφ)) (.inr rfl)
 replace hm:=ite_f hm (bool_nt h9)
 refine c_skip<|d_then<|c_seq<|c_region<|g_v rfl r_assign<|g_nil<|d_then<|c_ret ?_
 cases hm
 exact d_retC () Try.results35 (res_tmp (res_nil rfl)) trivial (fun W h=>ok_pre (H1:=[]) (R1:=[]) h (fun W hφ=>hφ)) (.inr rfl)
noncomputable def m_conf_Apply_c2 (p0 : GAnchor) (p1 : GAnchor) : Option Int:=
  (m_name_Lower p0.fName).bind fun x15=>
  (m_name_Lower p1.fName).bind fun x17=>
  (m_cmp_Compare_35 x15 x17).bind fun x19=>
  some x19
theorem c_conf_Apply_c2 {w0 : World} {M : Nat→Prop} {H : List (Nat×Nat×Obj)} {R : List (Nat×Row)} {φ : World→Prop} (p0 : GAnchor) (p1 : GAnchor) (r : Int) (hm : m_conf_Apply_c2 p0 p1 = some r) :
    Cn Try.prog 34 #[.agg #[.string p0.fName,.string p0.fText],.agg #[.string p1.fName,.string p1.fText]] ⟨w0,M,H,R,φ⟩ (fun x : Unit=>.int .i64 r) (fun x=>True) (fun x=>⟨w0,M,H,R,φ⟩):=by
 unfold m_conf_Apply_c2 at hm
 refine cn_intro (fn:=Try.f34) (N:=12) Try.func34 rfl Try.ntmps34 rfl<|c_seq<|c_region ?_
 refine g_e rfl (e_box 100020 rfl) (fun g1 _=>?_)
 refine g_e rfl (e_box 100030 rfl) (fun g2 _=>?_)
 refine g_v rfl r_assign<|g_nil<|d_then<|c_seq<|ga_start (n:=8) ⟨w0,M,(100030,g2,.cells #[.string p1.fName,.string p1.fText] 43 (0,0))::(100020,g1,.cells #[.string p0.fName,.string p0.fText] 43 (0,0))::H,R,φ⟩ [] #[false,false,false,false,false,false,false,false] (fun W h=>h.phi (fun W hφ=>hφ)) mixed rfl rfl<|ga_v (i:=0) (bz 8 1) rfl (by kernel_rfl) (fun _ _ _ _ h=>h) rfl (r_field (n:=0) Try.underlying43 rfl Try.sizeOf9 rfl rfl)<|ga_v (i:=1) (bz 8 3) rfl (by kernel_rfl) (fun _ _ _ _ h=>h) rfl (r_load (tag:=100020) rfl rfl rfl Try.isAgg9)<|ga_v (i:=3) (bz 8 11) rfl (by kernel_rfl) (fun _ _ _ _ h=>h) rfl (r_field (n:=0) Try.underlying43 rfl Try.sizeOf9 rfl rfl)<|ga_v (i:=4) (bz 8 27) rfl (by kernel_rfl) (fun _ _ _ _ h=>h) rfl (r_load (tag:=100030) rfl rfl rfl Try.isAgg9) ?_
 replace hm:=bnd hm
 obtain ⟨x15,hx16,hm⟩:=hm
 refine ga_cn (first:=#[]) (i:=2) (bz 8 31) rfl (by kernel_rfl) (by decide)  ⟨w0,M,_,_,φ⟩ (fun _ h=>h) Try.call36 rfl rfl rfl (c_name_Lower p0.fName _ hx16) (fun _ W _ h=>h.phi (fun W hφ=>hφ)) (fun _ _=>?_)
 replace hm:=bnd hm
 obtain ⟨x17,hx18,hm⟩:=hm
 refine ga_cn (first:=#[]) (i:=5) (bz 8 63) rfl (by kernel_rfl) (by decide)  ⟨w0,M,_,_,φ⟩ (fun _ h=>h) Try.call36 rfl rfl rfl (c_name_Lower p1.fName _ hx18) (fun _ W _ h=>h.phi (fun W hφ=>hφ)) (fun _ _=>?_)
 replace hm:=bnd hm
 obtain ⟨x19,hx20,hm⟩:=hm
 refine ga_cn (first:=#[]) (i:=6) (bz 8 127) rfl (by kernel_rfl) (by decide)  ⟨w0,M,_,_,φ⟩ (fun _ h=>h) Try.call35 rfl rfl rfl (c_cmp_Compare_35 x15 x17 _ hx20) (fun _ W _ h=>h.phi (fun W hφ=>hφ)) (fun _ _=>?_)
 refine ga_r (i:=7) (bz 8 255) rfl (by kernel_rfl) (by decide) rfl (r_assign)<|ga_done (by kernel_rfl)<|d_then ?_
 refine c_flat [(4,.int .i64 x19)] ⟨rfl,trivial⟩ (fun u=>?_)
 refine c_sta ⟨w0,M,(100030,g2,.cells #[.string p1.fName,.string p1.fText] 43 (0,0))::(100020,g1,.cells #[.string p0.fName,.string p0.fText] 43 (0,0))::H,R,φ⟩ (fun _ h=>h)<|c_ret ?_
 cases hm
 exact d_retC () Try.results34 (res_tmp (res_nil rfl)) trivial (fun W h=>ok_pre (H1:=[_,_]) (R1:=[]) h (fun W hφ=>hφ)) (.inr rfl)
noncomputable def m_slices_SortFunc_33 (p0 : List GAnchor) : Option (List GAnchor):=sortM (fun x y=>m_conf_Apply_c2 x y) p0
theorem c_slices_SortFunc_33 {w0 : World} {M : Nat→Prop} {H : List (Nat×Nat×Obj)} {R : List (Nat×Row)} {φ : World→Prop} (p0 : List GAnchor) (Ap0_0 : Option Addr) (cp0_0 : Nat) (hcp0_0 : p0.length ≤ cp0_0) (r : List GAnchor) (hm : m_slices_SortFunc_33 p0 = some r) :
    Cn Try.prog 33 #[.slice Ap0_0 p0.length cp0_0,.func (.func 34) #[] #[]] ⟨w0,M,H,(1000,⟨.slice Ap0_0 p0.length cp0_0,43,2,p0.length,p0.flatMap GAnchor.enc⟩)::R,φ⟩ (fun x : Unit=>.tuple #[]) (fun x=>r.length = p0.length) (fun x=>⟨w0,M,H,(1000,⟨.slice Ap0_0 r.length cp0_0,43,2,r.length,r.flatMap GAnchor.enc⟩)::R,φ⟩):=
  cn_sortF laySortF rfl rfl (by decide) Try.isAgg43 Try.sizeOf43 (fun _=>rfl) (fun _=>one1_mem rfl) Try.call34 (fun W x y r h=>c_conf_Apply_c2 x y r h) hm
noncomputable def m_conf_Apply_k4_j2 (l348 : List Int) (l351 : List ByteArray) (p0 : GConf) (l357 : List GFlush) (l381 : List GAnchor) : Option (GConf×Int):=
  some ((⟨l348,l351,l381,p0.fEpoch,l357⟩ : GConf),0)
noncomputable def m_conf_Apply_k4_j3 (p0 : GConf) (l348 : List Int) (l351 : List ByteArray) (l357 : List GFlush) (l402 : List GAnchor) : Option (GConf×Int):=
  if 16 < (l402.length : Int) then
    some (p0,15)
  else
    (m_slices_SortFunc_33 l402).bind fun x406=>
    m_conf_Apply_k4_j2 l348 l351 p0 l357 x406
noncomputable def m_conf_Apply_k4_j1 (p1_fNode : Int) (p1_fName : ByteArray) (p1_fText : ByteArray) (p1_fZone : ByteArray) (p1_fHints : List ByteArray) (p0 : GConf) (l348 : List Int) (l351 : List ByteArray) (l354 : List GAnchor) (l357 : List GFlush) : Option (GConf×Int):=
  (m_slices_BinarySearch_27 l348 p1_fNode).bind fun (z363 : Int×Bool)=>
  (m_slices_DeleteFunc_30 l354 (⟨4,p1_fNode,p1_fName,p1_fText,p1_fZone,p1_fHints⟩ : GOrder)).bind fun x392=>
  if p1_fText = (⟨#[]⟩ : ByteArray) then
    m_conf_Apply_k4_j3 p0 l348 l351 l357 x392
  else
    (app 32 x392 [(⟨p1_fName,p1_fText⟩ : GAnchor)]).bind fun l411=>
    m_conf_Apply_k4_j3 p0 l348 l351 l357 l411
noncomputable def m_conf_Apply_k4 (p0 : GConf) (p1_fNode : Int) (p1_fName : ByteArray) (p1_fText : ByteArray) (p1_fZone : ByteArray) (p1_fHints : List ByteArray) : Option (GConf×Int):=
  (m_conf_Check_k4 p1_fNode p1_fName p1_fText p1_fZone p1_fHints).bind fun x4=>
  if x4 ≠ 0 then
    some (p0,x4)
  else
    (m_slices_Clone_23 p0.fRing).bind fun x550=>
    (m_slices_Clone_24 p0.fHints).bind fun x556=>
    (m_slices_Clone_25 p0.fAnchors).bind fun x561=>
    (m_slices_Clone_26 p0.fFlushes).bind fun x566=>
    m_conf_Apply_k4_j1 p1_fNode p1_fName p1_fText p1_fZone p1_fHints p0 x550 x556 x561 x566
theorem c_conf_Apply_k4 {w0 : World} {M : Nat→Prop} {H : List (Nat×Nat×Obj)} {R : List (Nat×Row)} {φ : World→Prop} (p0 : GConf) (Ap0_0 : Option Addr) (cp0_0 : Nat) (hcp0_0 : p0.fRing.length ≤ cp0_0) (fp0_0 : ∀ W,φ W→Cl W Ap0_0 (p0.fRing.flatMap (fun x : Int=>[Value.int .i64 x]))) (Ap0_1 : Option Addr) (cp0_1 : Nat) (hcp0_1 : p0.fHints.length ≤ cp0_1) (fp0_1 : ∀ W,φ W→Cl W Ap0_1 (p0.fHints.flatMap (fun x : ByteArray=>[Value.string x]))) (Ap0_2 : Option Addr) (cp0_2 : Nat) (hcp0_2 : p0.fAnchors.length ≤ cp0_2) (fp0_2 : ∀ W,φ W→Cl W Ap0_2 (p0.fAnchors.flatMap GAnchor.enc)) (Ap0_3 : Option Addr) (cp0_3 : Nat) (hcp0_3 : p0.fFlushes.length ≤ cp0_3) (fp0_3 : ∀ W,φ W→Cl W Ap0_3 (p0.fFlushes.flatMap GFlush.enc)) (p1_fNode : Int) (p1_fName : ByteArray) (p1_fText : ByteArray) (p1_fZone : ByteArray) (p1_fHints : List ByteArray) (Ap1_fHints_0 : Option Addr) (cp1_fHints_0 : Nat) (hcp1_fHints_0 : p1_fHints.length ≤ cp1_fHints_0) (fp1_fHints_0 : ∀ W,φ W→Cl W Ap1_fHints_0 (p1_fHints.flatMap (fun x : ByteArray=>[Value.string x]))) (r : GConf×Int) (hm : m_conf_Apply_k4 p0 p1_fNode p1_fName p1_fText p1_fZone p1_fHints = some r) :
    Cn Try.prog 10 #[.agg #[.slice Ap0_0 p0.fRing.length cp0_0,.slice Ap0_1 p0.fHints.length cp0_1,.slice Ap0_2 p0.fAnchors.length cp0_2,.int .i64 p0.fEpoch,.slice Ap0_3 p0.fFlushes.length cp0_3],.agg #[.int .i64 4,.int .i64 p1_fNode,.string p1_fName,.string p1_fText,.string p1_fZone,.slice Ap1_fHints_0 p1_fHints.length cp1_fHints_0]] ⟨w0,M,H,R,φ⟩ (fun x : Option Addr×Nat×Option Addr×Nat×Option Addr×Nat×Option Addr×Nat=>.tuple #[.agg #[.slice x.1 r.1.fRing.length x.2.1,.slice x.2.2.1 r.1.fHints.length x.2.2.2.1,.slice x.2.2.2.2.1 r.1.fAnchors.length x.2.2.2.2.2.1,.int .i64 r.1.fEpoch,.slice x.2.2.2.2.2.2.1 r.1.fFlushes.length x.2.2.2.2.2.2.2],.int .i64 r.2]) (fun x=>r.1.fRing.length ≤ x.2.1∧r.1.fHints.length ≤ x.2.2.2.1∧r.1.fAnchors.length ≤ x.2.2.2.2.2.1∧r.1.fFlushes.length ≤ x.2.2.2.2.2.2.2) (fun x=>⟨w0,M,H,R,fun W=>φ W∧Cl W x.1 (r.1.fRing.flatMap (fun x : Int=>[Value.int .i64 x]))∧Cl W x.2.2.1 (r.1.fHints.flatMap (fun x : ByteArray=>[Value.string x]))∧Cl W x.2.2.2.2.1 (r.1.fAnchors.flatMap GAnchor.enc)∧Cl W x.2.2.2.2.2.2.1 (r.1.fFlushes.flatMap GFlush.enc)⟩):=by
 unfold m_conf_Apply_k4 at hm
 refine cn_intro (fn:=Try.f10) (N:=133) Try.func10 rfl Try.ntmps10 rfl<|c_seq<|c_region ?_
 refine g_e rfl (e_box 100020 rfl) (fun g1 _=>?_)
 refine g_e rfl (e_box 100030 rfl) (fun g2 _=>?_)
 refine g_e rfl (e_alloc 100040 Try.zeroValue29) (fun g3 _=>?_)
 refine g_v rfl r_assign<|g_nil<|d_then<|c_seq<|c_region<|g_v rfl (r_loadA (tag:=100030) rfl rfl Try.isAgg35 Try.sizeOf35 rfl rfl) ?_
 replace hm:=bnd hm
 obtain ⟨x4,hx5,hm⟩:=hm
 refine g_cn ⟨w0,M,_,_,φ⟩ (fun _ h=>h) Try.call20 rfl rfl (c_conf_Check_k4 p1_fNode p1_fName p1_fText p1_fZone p1_fHints Ap1_fHints_0 cp1_fHints_0 hcp1_fHints_0 (fun W hS=>fp1_fHints_0 W hS.now) _ hx5) (fun _ _=>?_)
 refine g_v rfl r_assign<|g_nil<|d_then<|c_seq<|c_seq<|c_region<|g_v rfl r_move<|g_v rfl (r_neq rfl rfl)<|g_nil<|d_then ?_
 refine c_flat [(2,.pointer (some ⟨g1,0,none⟩)),(3,.pointer (some ⟨g2,0,none⟩)),(4,.pointer (some ⟨g3,0,none⟩)),(6,.int .i64 x4),(14,.bool (decide (x4 ≠ 0)))] ⟨rfl,rfl,rfl,rfl,rfl,trivial⟩ (fun u=>?_)
 refine c_sta ⟨w0,M,(100040,g3,.cells #[.slice none 0 0,.slice none 0 0,.slice none 0 0,.int .i64 0,.slice none 0 0] 29 (0,0))::(100030,g2,.cells #[.int .i64 4,.int .i64 p1_fNode,.string p1_fName,.string p1_fText,.string p1_fZone,.slice Ap1_fHints_0 p1_fHints.length cp1_fHints_0] 35 (0,0))::(100020,g1,.cells #[.slice Ap0_0 p0.fRing.length cp0_0,.slice Ap0_1 p0.fHints.length cp0_1,.slice Ap0_2 p0.fAnchors.length cp0_2,.int .i64 p0.fEpoch,.slice Ap0_3 p0.fFlushes.length cp0_3] 29 (0,0))::H,R,φ⟩ (fun _ h=>h) ?_
 refine c_cond rfl (fun h6=>?_) (fun h6=>?_)
 ·
  replace hm:=ite_t hm (of_decide_eq_true h6)
  refine c_seq<|c_region<|g_v rfl (r_loadA (tag:=100020) rfl rfl Try.isAgg29 Try.sizeOf29 rfl rfl)<|g_v rfl r_move<|g_storeL (tag:=100040) rfl rfl rfl rfl Try.sizeOf29 rfl rfl<|g_v rfl r_assign<|g_nil<|d_then<|c_ret<|d_ret_then ?_
  cases hm
  exact d_retC (Ap0_0,cp0_0,Ap0_1,cp0_1,Ap0_2,cp0_2,Ap0_3,cp0_3) Try.results10 (res_agg (tag:=100040) rfl rfl Try.isAgg29 Try.sizeOf29 (res_tmp (res_nil rfl))) ⟨hcp0_0,hcp0_1,hcp0_2,hcp0_3⟩ (fun W h=>ok_pre (H1:=[_,_,_]) (R1:=[]) h (fun W hφ=>⟨hφ,(fun W h=>fp0_0 W h) W hφ,(fun W h=>fp0_1 W h) W hφ,(fun W h=>fp0_2 W h) W hφ,(fun W h=>fp0_3 W h) W hφ⟩)) (.inr rfl)
 replace hm:=ite_f hm (of_decide_eq_false h6)
 refine c_skip<|d_then<|c_seq ?_
 refine c_cut (ι:=(List Int)×(List ByteArray)×(List GAnchor)×(List GFlush)×Nat×Option Addr×Nat×Option Addr×Nat×Option Addr×Nat×Option Addr×Nat) [2,3,4,7] (fun ⟨l348,l351,l354,l357,g347,A349,c350,A352,c353,A355,c356,A358,c359⟩=>[(7,.pointer (some ⟨g347,0,none⟩))]) (fun ⟨l348,l351,l354,l357,g347,A349,c350,A352,c353,A355,c356,A358,c359⟩=>⟨w0,M,(100070,g347,.cells #[.slice A349 l348.length c350,.slice A352 l351.length c353,.slice A355 l354.length c356,.int .i64 p0.fEpoch,.slice A358 l357.length c359] 29 (0,0))::(100040,g3,.cells #[.slice none 0 0,.slice none 0 0,.slice none 0 0,.int .i64 0,.slice none 0 0] 29 (0,0))::(100030,g2,.cells #[.int .i64 4,.int .i64 p1_fNode,.string p1_fName,.string p1_fText,.string p1_fZone,.slice Ap1_fHints_0 p1_fHints.length cp1_fHints_0] 35 (0,0))::(100020,g1,.cells #[.slice Ap0_0 p0.fRing.length cp0_0,.slice Ap0_1 p0.fHints.length cp0_1,.slice Ap0_2 p0.fAnchors.length cp0_2,.int .i64 p0.fEpoch,.slice Ap0_3 p0.fFlushes.length cp0_3] 29 (0,0))::H,(100190,⟨.slice A349 l348.length c350,3,1,l348.length,l348.flatMap (fun x : Int=>[Value.int .i64 x])⟩)::(100220,⟨.slice A352 l351.length c353,9,1,l351.length,l351.flatMap (fun x : ByteArray=>[Value.string x])⟩)::(100250,⟨.slice A355 l354.length c356,43,2,l354.length,l354.flatMap GAnchor.enc⟩)::(100300,⟨.slice A358 l357.length c359,54,2,l357.length,l357.flatMap GFlush.enc⟩)::R,φ⟩) (fun ⟨l348,l351,l354,l357,g347,A349,c350,A352,c353,A355,c356,A358,c359⟩=>m_conf_Apply_k4_j1 p1_fNode p1_fName p1_fText p1_fZone p1_fHints p0 l348 l351 l354 l357 = some r∧l348.length ≤ c350∧l351.length ≤ c353∧l354.length ≤ c356∧l357.length ≤ c359) ?_ (fun ⟨l348,l351,l354,l357,g347,A349,c350,A352,c353,A355,c356,A358,c359⟩ u ⟨hm,hc350,hc353,hc356,hc359⟩=>?_)
 ·
  refine ga_start (n:=17) ⟨w0,M,(100040,g3,.cells #[.slice none 0 0,.slice none 0 0,.slice none 0 0,.int .i64 0,.slice none 0 0] 29 (0,0))::(100030,g2,.cells #[.int .i64 4,.int .i64 p1_fNode,.string p1_fName,.string p1_fText,.string p1_fZone,.slice Ap1_fHints_0 p1_fHints.length cp1_fHints_0] 35 (0,0))::(100020,g1,.cells #[.slice Ap0_0 p0.fRing.length cp0_0,.slice Ap0_1 p0.fHints.length cp0_1,.slice Ap0_2 p0.fAnchors.length cp0_2,.int .i64 p0.fEpoch,.slice Ap0_3 p0.fFlushes.length cp0_3] 29 (0,0))::H,R,φ⟩ [16] #[false,false,false,false,false,false,false,false,false,false,false,false,false,false,false,false,false] (fun W h=>h.phi (fun W hφ=>hφ)) mixed rfl rfl<|ga_v (i:=0) (bz 17 1) rfl (by kernel_rfl) (fun _ _ _ _ h=>h) rfl (r_field (n:=0) Try.underlying29 rfl Try.sizeOf25 rfl rfl)<|ga_v (i:=1) (bz 17 3) rfl (by kernel_rfl) (fun _ _ _ _ h=>h) rfl (r_load (tag:=100020) rfl rfl rfl Try.isAgg25)<|ga_v (i:=3) (bz 17 11) rfl (by kernel_rfl) (fun _ _ _ _ h=>h) rfl (r_field (n:=1) Try.underlying29 rfl Try.sizeOf22 rfl rfl)<|ga_v (i:=4) (bz 17 27) rfl (by kernel_rfl) (fun _ _ _ _ h=>h) rfl (r_load (tag:=100020) rfl rfl rfl Try.isAgg22)<|ga_v (i:=6) (bz 17 91) rfl (by kernel_rfl) (fun _ _ _ _ h=>h) rfl (r_field (n:=2) Try.underlying29 rfl Try.sizeOf26 rfl rfl)<|ga_v (i:=7) (bz 17 219) rfl (by kernel_rfl) (fun _ _ _ _ h=>h) rfl (r_load (tag:=100020) rfl rfl rfl Try.isAgg26)<|ga_v (i:=9) (bz 17 731) rfl (by kernel_rfl) (fun _ _ _ _ h=>h) rfl (r_field (n:=3) Try.underlying29 rfl Try.sizeOf3 rfl rfl)<|ga_v (i:=10) (bz 17 1755) rfl (by kernel_rfl) (fun _ _ _ _ h=>h) rfl (r_load (tag:=100020) rfl rfl rfl Try.isAgg3)<|ga_v (i:=11) (bz 17 3803) rfl (by kernel_rfl) (fun _ _ _ _ h=>h) rfl (r_field (n:=4) Try.underlying29 rfl Try.sizeOf27 rfl rfl) ?_
  refine ga_v (i:=12) (bz 17 7899) rfl (by kernel_rfl) (fun _ _ _ _ h=>h) rfl (r_load (tag:=100020) rfl rfl rfl Try.isAgg27) ?_
  replace hm:=bnd hm
  obtain ⟨x550,hx551,hm⟩:=hm
  refine ga_two (i:=2) (j:=15) (bz 17 7903) (bz 17 40667) rfl rfl (by kernel_rfl) (by decide) (by decide) ?_ ?_
  ·
   refine ex_cn (first:=#[]) ⟨w0,M,_,_,φ⟩ (fun _ h=>h) Try.call23 rfl rfl rfl (c_slices_Clone_23 p0.fRing Ap0_0 cp0_0 hcp0_0 (fun W hS=>fp0_0 W hS.now) _ hx551) (fun ⟨A553,c554⟩ W hc554 h=>((ok_frontR (t:=2000) (t':=100190) h rfl).dropR (t:=100190) rfl).phi (fun W hφ=>hφ)) (fun ⟨A553,c554⟩ hc554=>?_)
   refine ga_sta _ (fun W h=>(ok_frontR (t:=2000) (t':=100190) h rfl)) ?_
   replace hm:=bnd hm
   obtain ⟨x556,hx557,hm⟩:=hm
   refine ga_two (i:=5) (j:=15) (bz 17 7935) (bz 17 40671) rfl rfl (by kernel_rfl) (by decide) (by decide) ?_ ?_
   ·
    refine ex_cn (first:=#[]) ⟨w0,M,_,_,φ⟩ (fun _ h=>h) Try.call24 rfl rfl rfl (c_slices_Clone_24 p0.fHints Ap0_1 cp0_1 hcp0_1 (fun W hS=>fp0_1 W hS.now) _ hx557) (fun ⟨A558,c559⟩ W hc559 h=>(((ok_frontR (t:=2000) (t':=100220) h rfl).dropR (t:=100220) rfl).dropR (t:=100190) rfl).phi (fun W hφ=>hφ)) (fun ⟨A558,c559⟩ hc559=>?_)
    refine ga_sta _ (fun W h=>(ok_frontR (t:=2000) (t':=100220) h rfl)) ?_
    replace hm:=bnd hm
    obtain ⟨x561,hx562,hm⟩:=hm
    refine ga_two (i:=8) (j:=15) (bz 17 8191) (bz 17 40703) rfl rfl (by kernel_rfl) (by decide) (by decide) ?_ ?_
    ·
     refine ex_cn (first:=#[]) ⟨w0,M,_,_,φ⟩ (fun _ h=>h) Try.call25 rfl rfl rfl (c_slices_Clone_25 p0.fAnchors Ap0_2 cp0_2 hcp0_2 (fun W hS=>fp0_2 W hS.now) _ hx562) (fun ⟨A563,c564⟩ W hc564 h=>((((ok_frontR (t:=2000) (t':=100250) h rfl).dropR (t:=100250) rfl).dropR (t:=100220) rfl).dropR (t:=100190) rfl).phi (fun W hφ=>hφ)) (fun ⟨A563,c564⟩ hc564=>?_)
     refine ga_sta _ (fun W h=>(ok_frontR (t:=2000) (t':=100250) h rfl)) ?_
     replace hm:=bnd hm
     obtain ⟨x566,hx567,hm⟩:=hm
     refine ga_two (i:=13) (j:=15) (bz 17 16383) (bz 17 40959) rfl rfl (by kernel_rfl) (by decide) (by decide) ?_ ?_
     ·
      refine ex_cn (first:=#[]) ⟨w0,M,_,_,φ⟩ (fun _ h=>h) Try.call26 rfl rfl rfl (c_slices_Clone_26 p0.fFlushes Ap0_3 cp0_3 hcp0_3 (fun W hS=>fp0_3 W hS.now) _ hx567) (fun ⟨A568,c569⟩ W hc569 h=>(((((ok_frontR (t:=2000) (t':=100300) h rfl).dropR (t:=100300) rfl).dropR (t:=100250) rfl).dropR (t:=100220) rfl).dropR (t:=100190) rfl).phi (fun W hφ=>hφ)) (fun ⟨A568,c569⟩ hc569=>?_)
      refine ga_sta _ (fun W h=>(ok_frontR (t:=2000) (t':=100300) h rfl))<|ga_v (i:=14) (bz 17 32767) rfl (by kernel_rfl) (fun _ _ _ _ h=>h) rfl (r_build _ rfl (bld29_17 _ _ _ _ _ _ _ _ _ _ _ _ _)) ?_
      refine ga_e (i:=15) (bz 17 65535) rfl (by kernel_rfl) (by decide) rfl  (e_alloc 100070 Try.zeroValue29) (fun g571 W _ h=>(((((h.dropR (t:=100300) rfl).dropR (t:=100250) rfl).dropR (t:=100220) rfl).dropR (t:=100190) rfl).dropH (t:=100070) rfl).phi (fun W hφ=>hφ)) (fun g571 _=>?_)
      refine ga_lastL (i:=16) (tag:=100070) (bz 17 131071) rfl (by kernel_rfl) (by decide) rfl rfl rfl rfl Try.sizeOf29 rfl rfl<|gz_done (by kernel_rfl) ?_
      exact d_round (x550,x556,x561,x566,g571,A553,c554,A558,c559,A563,c564,A568,c569) ⟨hm,hc554,hc559,hc564,hc569⟩ Nat.zero_lt_one ⟨rfl,rfl,rfl,rfl,trivial⟩ (fun W h=>(ok_frontR (t:=100190) (t':=100190) (ok_frontR (t:=100220) (t':=100220) (ok_frontR (t:=100250) (t':=100250) (ok_frontR (t:=100300) (t':=100300) h rfl) rfl) rfl) rfl).phi (fun W hφ=>hφ))
     refine ex_e rfl (e_alloc 100070 Try.zeroValue29) (fun g572 W _ h=>((((h.dropR (t:=100250) rfl).dropR (t:=100220) rfl).dropR (t:=100190) rfl).dropH (t:=100070) rfl).phi (fun W hφ=>hφ)) (fun g572 _=>?_)
     refine ga_cn (first:=#[]) (i:=13) (bz 17 49151) rfl (by kernel_rfl) (by decide)  ⟨w0,M,_,_,φ⟩ (fun _ h=>h) Try.call26 rfl rfl rfl (c_slices_Clone_26 p0.fFlushes Ap0_3 cp0_3 hcp0_3 (fun W hS=>fp0_3 W hS.now) _ hx567) (fun ⟨A573,c574⟩ W hc574 h=>((((((ok_frontR (t:=2000) (t':=100300) h rfl).dropR (t:=100300) rfl).dropR (t:=100250) rfl).dropR (t:=100220) rfl).dropR (t:=100190) rfl).dropH (t:=100070) rfl).phi (fun W hφ=>hφ)) (fun ⟨A573,c574⟩ hc574=>?_)
     refine ga_sta _ (fun W h=>(ok_frontR (t:=2000) (t':=100300) h rfl))<|ga_r (i:=14) (bz 17 65535) rfl (by kernel_rfl) (by decide) rfl (r_build _ rfl (bld29_17 _ _ _ _ _ _ _ _ _ _ _ _ _))<|ga_lastL (i:=16) (tag:=100070) (bz 17 131071) rfl (by kernel_rfl) (by decide) rfl rfl rfl rfl Try.sizeOf29 rfl rfl<|gz_done (by kernel_rfl) ?_
     exact d_round (x550,x556,x561,x566,g572,A553,c554,A558,c559,A563,c564,A573,c574) ⟨hm,hc554,hc559,hc564,hc574⟩ Nat.zero_lt_one ⟨rfl,rfl,rfl,rfl,trivial⟩ (fun W h=>(ok_frontR (t:=100190) (t':=100190) (ok_frontR (t:=100220) (t':=100220) (ok_frontR (t:=100250) (t':=100250) (ok_frontR (t:=100300) (t':=100300) h rfl) rfl) rfl) rfl).phi (fun W hφ=>hφ))
    refine ex_e rfl (e_alloc 100070 Try.zeroValue29) (fun g576 W _ h=>(((h.dropR (t:=100220) rfl).dropR (t:=100190) rfl).dropH (t:=100070) rfl).phi (fun W hφ=>hφ)) (fun g576 _=>?_)
    refine ga_cn (first:=#[]) (i:=8) (bz 17 40959) rfl (by kernel_rfl) (by decide)  ⟨w0,M,_,_,φ⟩ (fun _ h=>h) Try.call25 rfl rfl rfl (c_slices_Clone_25 p0.fAnchors Ap0_2 cp0_2 hcp0_2 (fun W hS=>fp0_2 W hS.now) _ hx562) (fun ⟨A577,c578⟩ W hc578 h=>(((((ok_frontR (t:=2000) (t':=100250) h rfl).dropR (t:=100250) rfl).dropR (t:=100220) rfl).dropR (t:=100190) rfl).dropH (t:=100070) rfl).phi (fun W hφ=>hφ)) (fun ⟨A577,c578⟩ hc578=>?_)
    refine ga_sta _ (fun W h=>(ok_frontR (t:=2000) (t':=100250) h rfl)) ?_
    replace hm:=bnd hm
    obtain ⟨x580,hx581,hm⟩:=hm
    refine ga_cn (first:=#[]) (i:=13) (bz 17 49151) rfl (by kernel_rfl) (by decide)  ⟨w0,M,_,_,φ⟩ (fun _ h=>h) Try.call26 rfl rfl rfl (c_slices_Clone_26 p0.fFlushes Ap0_3 cp0_3 hcp0_3 (fun W hS=>fp0_3 W hS.now) _ hx581) (fun ⟨A582,c583⟩ W hc583 h=>((((((ok_frontR (t:=2000) (t':=100300) h rfl).dropR (t:=100300) rfl).dropR (t:=100250) rfl).dropR (t:=100220) rfl).dropR (t:=100190) rfl).dropH (t:=100070) rfl).phi (fun W hφ=>hφ)) (fun ⟨A582,c583⟩ hc583=>?_)
    refine ga_sta _ (fun W h=>(ok_frontR (t:=2000) (t':=100300) h rfl))<|ga_r (i:=14) (bz 17 65535) rfl (by kernel_rfl) (by decide) rfl (r_build _ rfl (bld29_17 _ _ _ _ _ _ _ _ _ _ _ _ _))<|ga_lastL (i:=16) (tag:=100070) (bz 17 131071) rfl (by kernel_rfl) (by decide) rfl rfl rfl rfl Try.sizeOf29 rfl rfl<|gz_done (by kernel_rfl) ?_
    exact d_round (x550,x556,x561,x580,g576,A553,c554,A558,c559,A577,c578,A582,c583) ⟨hm,hc554,hc559,hc578,hc583⟩ Nat.zero_lt_one ⟨rfl,rfl,rfl,rfl,trivial⟩ (fun W h=>(ok_frontR (t:=100190) (t':=100190) (ok_frontR (t:=100220) (t':=100220) (ok_frontR (t:=100250) (t':=100250) (ok_frontR (t:=100300) (t':=100300) h rfl) rfl) rfl) rfl).phi (fun W hφ=>hφ))
   refine ex_e rfl (e_alloc 100070 Try.zeroValue29) (fun g585 W _ h=>((h.dropR (t:=100190) rfl).dropH (t:=100070) rfl).phi (fun W hφ=>hφ)) (fun g585 _=>?_)
   refine ga_cn (first:=#[]) (i:=5) (bz 17 40703) rfl (by kernel_rfl) (by decide)  ⟨w0,M,_,_,φ⟩ (fun _ h=>h) Try.call24 rfl rfl rfl (c_slices_Clone_24 p0.fHints Ap0_1 cp0_1 hcp0_1 (fun W hS=>fp0_1 W hS.now) _ hx557) (fun ⟨A586,c587⟩ W hc587 h=>((((ok_frontR (t:=2000) (t':=100220) h rfl).dropR (t:=100220) rfl).dropR (t:=100190) rfl).dropH (t:=100070) rfl).phi (fun W hφ=>hφ)) (fun ⟨A586,c587⟩ hc587=>?_)
   refine ga_sta _ (fun W h=>(ok_frontR (t:=2000) (t':=100220) h rfl)) ?_
   replace hm:=bnd hm
   obtain ⟨x589,hx590,hm⟩:=hm
   refine ga_cn (first:=#[]) (i:=8) (bz 17 40959) rfl (by kernel_rfl) (by decide)  ⟨w0,M,_,_,φ⟩ (fun _ h=>h) Try.call25 rfl rfl rfl (c_slices_Clone_25 p0.fAnchors Ap0_2 cp0_2 hcp0_2 (fun W hS=>fp0_2 W hS.now) _ hx590) (fun ⟨A591,c592⟩ W hc592 h=>(((((ok_frontR (t:=2000) (t':=100250) h rfl).dropR (t:=100250) rfl).dropR (t:=100220) rfl).dropR (t:=100190) rfl).dropH (t:=100070) rfl).phi (fun W hφ=>hφ)) (fun ⟨A591,c592⟩ hc592=>?_)
   refine ga_sta _ (fun W h=>(ok_frontR (t:=2000) (t':=100250) h rfl)) ?_
   replace hm:=bnd hm
   obtain ⟨x594,hx595,hm⟩:=hm
   refine ga_cn (first:=#[]) (i:=13) (bz 17 49151) rfl (by kernel_rfl) (by decide)  ⟨w0,M,_,_,φ⟩ (fun _ h=>h) Try.call26 rfl rfl rfl (c_slices_Clone_26 p0.fFlushes Ap0_3 cp0_3 hcp0_3 (fun W hS=>fp0_3 W hS.now) _ hx595) (fun ⟨A596,c597⟩ W hc597 h=>((((((ok_frontR (t:=2000) (t':=100300) h rfl).dropR (t:=100300) rfl).dropR (t:=100250) rfl).dropR (t:=100220) rfl).dropR (t:=100190) rfl).dropH (t:=100070) rfl).phi (fun W hφ=>hφ)) (fun ⟨A596,c597⟩ hc597=>?_)
   refine ga_sta _ (fun W h=>(ok_frontR (t:=2000) (t':=100300) h rfl))<|ga_r (i:=14) (bz 17 65535) rfl (by kernel_rfl) (by decide) rfl (r_build _ rfl (bld29_17 _ _ _ _ _ _ _ _ _ _ _ _ _))<|ga_lastL (i:=16) (tag:=100070) (bz 17 131071) rfl (by kernel_rfl) (by decide) rfl rfl rfl rfl Try.sizeOf29 rfl rfl<|gz_done (by kernel_rfl) ?_
   exact d_round (x550,x556,x589,x594,g585,A553,c554,A586,c587,A591,c592,A596,c597) ⟨hm,hc554,hc587,hc592,hc597⟩ Nat.zero_lt_one ⟨rfl,rfl,rfl,rfl,trivial⟩ (fun W h=>(ok_frontR (t:=100190) (t':=100190) (ok_frontR (t:=100220) (t':=100220) (ok_frontR (t:=100250) (t':=100250) (ok_frontR (t:=100300) (t':=100300) h rfl) rfl) rfl) rfl).phi (fun W hφ=>hφ))
  refine ex_e rfl (e_alloc 100070 Try.zeroValue29) (fun g599 W _ h=>(h.dropH (t:=100070) rfl).phi (fun W hφ=>hφ)) (fun g599 _=>?_)
  refine ga_cn (first:=#[]) (i:=2) (bz 17 40671) rfl (by kernel_rfl) (by decide)  ⟨w0,M,_,_,φ⟩ (fun _ h=>h) Try.call23 rfl rfl rfl (c_slices_Clone_23 p0.fRing Ap0_0 cp0_0 hcp0_0 (fun W hS=>fp0_0 W hS.now) _ hx551) (fun ⟨A600,c601⟩ W hc601 h=>(((ok_frontR (t:=2000) (t':=100190) h rfl).dropR (t:=100190) rfl).dropH (t:=100070) rfl).phi (fun W hφ=>hφ)) (fun ⟨A600,c601⟩ hc601=>?_)
  refine ga_sta _ (fun W h=>(ok_frontR (t:=2000) (t':=100190) h rfl)) ?_
  replace hm:=bnd hm
  obtain ⟨x603,hx604,hm⟩:=hm
  refine ga_cn (first:=#[]) (i:=5) (bz 17 40703) rfl (by kernel_rfl) (by decide)  ⟨w0,M,_,_,φ⟩ (fun _ h=>h) Try.call24 rfl rfl rfl (c_slices_Clone_24 p0.fHints Ap0_1 cp0_1 hcp0_1 (fun W hS=>fp0_1 W hS.now) _ hx604) (fun ⟨A605,c606⟩ W hc606 h=>((((ok_frontR (t:=2000) (t':=100220) h rfl).dropR (t:=100220) rfl).dropR (t:=100190) rfl).dropH (t:=100070) rfl).phi (fun W hφ=>hφ)) (fun ⟨A605,c606⟩ hc606=>?_)
  refine ga_sta _ (fun W h=>(ok_frontR (t:=2000) (t':=100220) h rfl)) ?_
  replace hm:=bnd hm
  obtain ⟨x608,hx609,hm⟩:=hm
  refine ga_cn (first:=#[]) (i:=8) (bz 17 40959) rfl (by kernel_rfl) (by decide)  ⟨w0,M,_,_,φ⟩ (fun _ h=>h) Try.call25 rfl rfl rfl (c_slices_Clone_25 p0.fAnchors Ap0_2 cp0_2 hcp0_2 (fun W hS=>fp0_2 W hS.now) _ hx609) (fun ⟨A610,c611⟩ W hc611 h=>(((((ok_frontR (t:=2000) (t':=100250) h rfl).dropR (t:=100250) rfl).dropR (t:=100220) rfl).dropR (t:=100190) rfl).dropH (t:=100070) rfl).phi (fun W hφ=>hφ)) (fun ⟨A610,c611⟩ hc611=>?_)
  refine ga_sta _ (fun W h=>(ok_frontR (t:=2000) (t':=100250) h rfl)) ?_
  replace hm:=bnd hm
  obtain ⟨x613,hx614,hm⟩:=hm
  refine ga_cn (first:=#[]) (i:=13) (bz 17 49151) rfl (by kernel_rfl) (by decide)  ⟨w0,M,_,_,φ⟩ (fun _ h=>h) Try.call26 rfl rfl rfl (c_slices_Clone_26 p0.fFlushes Ap0_3 cp0_3 hcp0_3 (fun W hS=>fp0_3 W hS.now) _ hx614) (fun ⟨A615,c616⟩ W hc616 h=>((((((ok_frontR (t:=2000) (t':=100300) h rfl).dropR (t:=100300) rfl).dropR (t:=100250) rfl).dropR (t:=100220) rfl).dropR (t:=100190) rfl).dropH (t:=100070) rfl).phi (fun W hφ=>hφ)) (fun ⟨A615,c616⟩ hc616=>?_)
  refine ga_sta _ (fun W h=>(ok_frontR (t:=2000) (t':=100300) h rfl))<|ga_r (i:=14) (bz 17 65535) rfl (by kernel_rfl) (by decide) rfl (r_build _ rfl (bld29_17 _ _ _ _ _ _ _ _ _ _ _ _ _))<|ga_lastL (i:=16) (tag:=100070) (bz 17 131071) rfl (by kernel_rfl) (by decide) rfl rfl rfl rfl Try.sizeOf29 rfl rfl<|gz_done (by kernel_rfl) ?_
  exact d_round (x550,x603,x608,x613,g599,A600,c601,A605,c606,A610,c611,A615,c616) ⟨hm,hc601,hc606,hc611,hc616⟩ Nat.zero_lt_one ⟨rfl,rfl,rfl,rfl,trivial⟩ (fun W h=>(ok_frontR (t:=100190) (t':=100190) (ok_frontR (t:=100220) (t':=100220) (ok_frontR (t:=100250) (t':=100250) (ok_frontR (t:=100300) (t':=100300) h rfl) rfl) rfl) rfl).phi (fun W hφ=>hφ))
 unfold m_conf_Apply_k4_j1 at hm
 refine d_flat [(2,.pointer (some ⟨g1,0,none⟩)),(3,.pointer (some ⟨g2,0,none⟩)),(4,.pointer (some ⟨g3,0,none⟩)),(7,.pointer (some ⟨g347,0,none⟩))] ⟨rfl,rfl,rfl,rfl,trivial⟩ (fun u=>?_)
 refine d_sta ⟨w0,M,(100070,g347,.cells #[.slice A349 l348.length c350,.slice A352 l351.length c353,.slice A355 l354.length c356,.int .i64 p0.fEpoch,.slice A358 l357.length c359] 29 (0,0))::(100040,g3,.cells #[.slice none 0 0,.slice none 0 0,.slice none 0 0,.int .i64 0,.slice none 0 0] 29 (0,0))::(100030,g2,.cells #[.int .i64 4,.int .i64 p1_fNode,.string p1_fName,.string p1_fText,.string p1_fZone,.slice Ap1_fHints_0 p1_fHints.length cp1_fHints_0] 35 (0,0))::(100020,g1,.cells #[.slice Ap0_0 p0.fRing.length cp0_0,.slice Ap0_1 p0.fHints.length cp0_1,.slice Ap0_2 p0.fAnchors.length cp0_2,.int .i64 p0.fEpoch,.slice Ap0_3 p0.fFlushes.length cp0_3] 29 (0,0))::H,(100190,⟨.slice A349 l348.length c350,3,1,l348.length,l348.flatMap (fun x : Int=>[Value.int .i64 x])⟩)::(100220,⟨.slice A352 l351.length c353,9,1,l351.length,l351.flatMap (fun x : ByteArray=>[Value.string x])⟩)::(100250,⟨.slice A355 l354.length c356,43,2,l354.length,l354.flatMap GAnchor.enc⟩)::(100300,⟨.slice A358 l357.length c359,54,2,l357.length,l357.flatMap GFlush.enc⟩)::R,φ⟩ (fun _ h=>h)<|d_then<|c_seq<|c_region<|g_v rfl (r_field (n:=0) Try.underlying29 rfl Try.sizeOf25 rfl rfl)<|g_v rfl (r_load (tag:=100070) rfl rfl rfl Try.isAgg25)<|g_v rfl (r_field (n:=1) Try.underlying35 rfl Try.sizeOf3 rfl rfl)<|g_v rfl (r_load (tag:=100030) rfl rfl rfl Try.isAgg3) ?_
 replace hm:=bnd hm
 obtain ⟨⟨x360,x361⟩,hx362,hm⟩:=hm
 refine g_cn ⟨w0,M,_,_,φ⟩ (fun _ h=>h) Try.call27 rfl rfl (c_slices_BinarySearch_27 l348 A349 c350 hc350 (fun W hS=>rowCl (tag:=100190) rfl W hS) p1_fNode _ hx362) (fun _ _=>?_)
 refine g_v rfl r_move<|g_v rfl (r_extract rfl rfl)<|g_v rfl (r_extract rfl rfl)<|g_v rfl r_assign<|g_v rfl r_assign<|g_nil<|d_then ?_
 refine c_flat [(2,.pointer (some ⟨g1,0,none⟩)),(3,.pointer (some ⟨g2,0,none⟩)),(4,.pointer (some ⟨g3,0,none⟩)),(7,.pointer (some ⟨g347,0,none⟩)),(8,.int .i64 x360),(9,.bool x361)] ⟨rfl,rfl,rfl,rfl,rfl,rfl,trivial⟩ (fun u=>?_)
 refine c_seq ?_
 refine c_cut (ι:=(List GAnchor)×Option Addr×Nat) [4,7] (fun ⟨l381,A382,c383⟩=>[]) (fun ⟨l381,A382,c383⟩=>⟨w0,M,(100070,g347,.cells #[.slice A349 l348.length c350,.slice A352 l351.length c353,.slice A382 l381.length c383,.int .i64 p0.fEpoch,.slice A358 l357.length c359] 29 (0,0))::(100040,g3,.cells #[.slice none 0 0,.slice none 0 0,.slice none 0 0,.int .i64 0,.slice none 0 0] 29 (0,0))::H,(100190,⟨.slice A349 l348.length c350,3,1,l348.length,l348.flatMap (fun x : Int=>[Value.int .i64 x])⟩)::(100220,⟨.slice A352 l351.length c353,9,1,l351.length,l351.flatMap (fun x : ByteArray=>[Value.string x])⟩)::(100250,⟨.slice A382 l381.length c383,43,2,l381.length,l381.flatMap GAnchor.enc⟩)::(100300,⟨.slice A358 l357.length c359,54,2,l357.length,l357.flatMap GFlush.enc⟩)::R,φ⟩) (fun ⟨l381,A382,c383⟩=>m_conf_Apply_k4_j2 l348 l351 p0 l357 l381 = some r∧l381.length ≤ c383) ?_ (fun ⟨l381,A382,c383⟩ u ⟨hm,hc383⟩=>?_)
 ·
  refine c_seq<|c_region<|g_v rfl (r_field (n:=0) Try.underlying35 rfl Try.sizeOf3 rfl rfl)<|g_v rfl (r_load (tag:=100030) rfl rfl rfl Try.isAgg3)<|g_nil<|d_then<|c_block<|c_seq<|c_region<|g_v rfl (r_eql rfl rfl) ?_
  refine g_v rfl r_assign<|g_nil<|d_then<|c_cond0 rfl (by decide)<|c_seq<|c_region<|g_v rfl (r_eql rfl rfl)<|g_v rfl r_assign<|g_nil<|d_then ?_
  refine c_cond0 rfl (by decide)<|c_seq<|c_region<|g_v rfl (r_eql rfl rfl)<|g_v rfl r_assign<|g_nil<|d_then<|c_cond0 rfl (by decide)<|c_seq<|c_region ?_
  refine g_v rfl (r_eql rfl rfl)<|g_v rfl r_assign<|g_nil<|d_then ?_
  refine c_flat [(2,.pointer (some ⟨g1,0,none⟩)),(3,.pointer (some ⟨g2,0,none⟩)),(4,.pointer (some ⟨g3,0,none⟩)),(7,.pointer (some ⟨g347,0,none⟩)),(41,.int .i64 4),(72,.bool (decide (4 = 4)))] ⟨rfl,rfl,rfl,rfl,rfl,rfl,trivial⟩ (fun u=>?_)
  refine c_cond1 rfl (by decide)<|c_seq<|c_region<|g_v rfl (r_field (n:=2) Try.underlying29 rfl Try.sizeOf26 rfl rfl)<|g_v rfl (r_load (tag:=100070) rfl rfl rfl Try.isAgg26)<|g_v rfl (r_mkf rfl) ?_
  replace hm:=bnd hm
  obtain ⟨x392,hx393,hm⟩:=hm
  refine g_cn ⟨w0,M,(1000,g2,.cells #[.int .i64 4,.int .i64 p1_fNode,.string p1_fName,.string p1_fText,.string p1_fZone,.slice Ap1_fHints_0 p1_fHints.length cp1_fHints_0] 35 (0,0))::(100070,g347,.cells #[.slice A349 l348.length c350,.slice A352 l351.length c353,.slice A355 l354.length c356,.int .i64 p0.fEpoch,.slice A358 l357.length c359] 29 (0,0))::(100040,g3,.cells #[.slice none 0 0,.slice none 0 0,.slice none 0 0,.int .i64 0,.slice none 0 0] 29 (0,0))::(100020,g1,.cells #[.slice Ap0_0 p0.fRing.length cp0_0,.slice Ap0_1 p0.fHints.length cp0_1,.slice Ap0_2 p0.fAnchors.length cp0_2,.int .i64 p0.fEpoch,.slice Ap0_3 p0.fFlushes.length cp0_3] 29 (0,0))::H,(1000,⟨.slice A355 l354.length c356,43,2,l354.length,l354.flatMap GAnchor.enc⟩)::(100190,⟨.slice A349 l348.length c350,3,1,l348.length,l348.flatMap (fun x : Int=>[Value.int .i64 x])⟩)::(100220,⟨.slice A352 l351.length c353,9,1,l351.length,l351.flatMap (fun x : ByteArray=>[Value.string x])⟩)::(100300,⟨.slice A358 l357.length c359,54,2,l357.length,l357.flatMap GFlush.enc⟩)::R,φ⟩ (fun W h=>(ok_front (t:=100030) (t':=1000) (ok_frontR (t:=100250) (t':=1000) h rfl) rfl)) Try.call30 rfl rfl (c_slices_DeleteFunc_30 l354 A355 c356 hc356 g2 (⟨4,p1_fNode,p1_fName,p1_fText,p1_fZone,p1_fHints⟩ : GOrder) Ap1_fHints_0 cp1_fHints_0 hcp1_fHints_0 (fun W h=>fp1_fHints_0 W h) _ hx393) (fun ⟨A394,c395⟩ hc395=>?_)
  refine g_sta _ (fun W h=>(ok_frontR (t:=2000) (t':=100250) (ok_front (t:=1000) (t':=100030) h rfl) rfl))<|g_v rfl (r_field (n:=2) Try.underlying29 rfl Try.sizeOf26 rfl rfl)<|g_storeL (tag:=100070) rfl rfl rfl rfl Try.sizeOf26 rfl rfl<|g_nil<|d_then<|c_seq ?_
  refine c_cut (ι:=(List GAnchor)×Option Addr×Nat) [2,4,7] (fun ⟨l402,A403,c404⟩=>[]) (fun ⟨l402,A403,c404⟩=>⟨w0,M,(100070,g347,.cells #[.slice A349 l348.length c350,.slice A352 l351.length c353,.slice A403 l402.length c404,.int .i64 p0.fEpoch,.slice A358 l357.length c359] 29 (0,0))::(100040,g3,.cells #[.slice none 0 0,.slice none 0 0,.slice none 0 0,.int .i64 0,.slice none 0 0] 29 (0,0))::(100020,g1,.cells #[.slice Ap0_0 p0.fRing.length cp0_0,.slice Ap0_1 p0.fHints.length cp0_1,.slice Ap0_2 p0.fAnchors.length cp0_2,.int .i64 p0.fEpoch,.slice Ap0_3 p0.fFlushes.length cp0_3] 29 (0,0))::H,(100250,⟨.slice A403 l402.length c404,43,2,l402.length,l402.flatMap GAnchor.enc⟩)::(100190,⟨.slice A349 l348.length c350,3,1,l348.length,l348.flatMap (fun x : Int=>[Value.int .i64 x])⟩)::(100220,⟨.slice A352 l351.length c353,9,1,l351.length,l351.flatMap (fun x : ByteArray=>[Value.string x])⟩)::(100300,⟨.slice A358 l357.length c359,54,2,l357.length,l357.flatMap GFlush.enc⟩)::R,φ⟩) (fun ⟨l402,A403,c404⟩=>m_conf_Apply_k4_j3 p0 l348 l351 l357 l402 = some r∧l402.length ≤ c404) ?_ (fun ⟨l402,A403,c404⟩ u ⟨hm,hc404⟩=>?_)
  ·
   refine c_seq<|c_region<|g_v rfl (r_field (n:=3) Try.underlying35 rfl Try.sizeOf9 rfl rfl)<|g_v rfl (r_load (tag:=100030) rfl rfl rfl Try.isAgg9)<|g_v rfl (r_neqT rfl rfl)<|g_nil<|d_then ?_
   refine c_flat [(2,.pointer (some ⟨g1,0,none⟩)),(3,.pointer (some ⟨g2,0,none⟩)),(4,.pointer (some ⟨g3,0,none⟩)),(7,.pointer (some ⟨g347,0,none⟩)),(81,.bool (!(decide (p1_fText = (⟨#[]⟩ : ByteArray)))))] ⟨rfl,rfl,rfl,rfl,rfl,trivial⟩ (fun u=>?_)
   refine c_sta ⟨w0,M,(100030,g2,.cells #[.int .i64 4,.int .i64 p1_fNode,.string p1_fName,.string p1_fText,.string p1_fZone,.slice Ap1_fHints_0 p1_fHints.length cp1_fHints_0] 35 (0,0))::(100070,g347,.cells #[.slice A349 l348.length c350,.slice A352 l351.length c353,.slice A394 x392.length c395,.int .i64 p0.fEpoch,.slice A358 l357.length c359] 29 (0,0))::(100040,g3,.cells #[.slice none 0 0,.slice none 0 0,.slice none 0 0,.int .i64 0,.slice none 0 0] 29 (0,0))::(100020,g1,.cells #[.slice Ap0_0 p0.fRing.length cp0_0,.slice Ap0_1 p0.fHints.length cp0_1,.slice Ap0_2 p0.fAnchors.length cp0_2,.int .i64 p0.fEpoch,.slice Ap0_3 p0.fFlushes.length cp0_3] 29 (0,0))::H,(100250,⟨.slice A394 x392.length c395,43,2,x392.length,x392.flatMap GAnchor.enc⟩)::(100190,⟨.slice A349 l348.length c350,3,1,l348.length,l348.flatMap (fun x : Int=>[Value.int .i64 x])⟩)::(100220,⟨.slice A352 l351.length c353,9,1,l351.length,l351.flatMap (fun x : ByteArray=>[Value.string x])⟩)::(100300,⟨.slice A358 l357.length c359,54,2,l357.length,l357.flatMap GFlush.enc⟩)::R,φ⟩ (fun _ h=>h) ?_
   refine c_cond rfl (fun h409=>?_) (fun h409=>?_)
   ·
    have h409' : (decide (p1_fText = (⟨#[]⟩ : ByteArray))) = false:=by revert h409; cases (decide (p1_fText = (⟨#[]⟩ : ByteArray))) <;> simp
    replace hm:=ite_f hm (of_decide_eq_false h409')
    refine c_region<|g_v rfl (r_field (n:=2) Try.underlying29 rfl Try.sizeOf26 rfl rfl)<|g_v rfl (r_load (tag:=100070) rfl rfl rfl Try.isAgg26)<|g_v rfl (r_field (n:=2) Try.underlying35 rfl Try.sizeOf9 rfl rfl)<|g_v rfl (r_load (tag:=100030) rfl rfl rfl Try.isAgg9)<|g_v rfl (r_field (n:=3) Try.underlying35 rfl Try.sizeOf9 rfl rfl)<|g_v rfl (r_load (tag:=100030) rfl rfl rfl Try.isAgg9)<|g_v rfl (r_build _ rfl (bld43_20 _ _)) ?_
    refine g_e rfl (e_lit (tag:=100890) (l:=[(⟨p1_fName,p1_fText⟩ : GAnchor)]) (enc:=GAnchor.enc) (sz:=2) rfl Try.underlying26 (lit43_22 _ _) rfl rfl (fun _=>rfl)) (fun g410 _=>?_)
    replace hm:=bnd hm
    obtain ⟨l411,hl411,hm⟩:=hm
    refine g_e rfl (e_appR (enc:=GAnchor.enc) (l:=x392) (l1:=[(⟨p1_fName,p1_fText⟩ : GAnchor)]) (l2:=l411) (tag:=100250) Try.underlying26 inf43_14 rfl (by decide) (by decide) (fun _=>rfl) (fun _=>rfl) rfl hc395 rfl rfl (fun W hS=>rowCl (tag:=100890) rfl W hS) hl411) (fun ⟨A412,c413⟩ hc413=>?_)
    refine g_v rfl (r_field (n:=2) Try.underlying29 rfl Try.sizeOf26 rfl rfl)<|g_storeL (tag:=100070) rfl rfl rfl rfl Try.sizeOf26 rfl rfl<|g_nil ?_
    exact d_round (l411,A412,c413) ⟨hm,hc413⟩ Nat.zero_lt_one ⟨rfl,rfl,rfl,trivial⟩ (fun W h=>((h.dropR (t:=100890) rfl).dropH (t:=100030) rfl).phi (fun W hφ=>hφ))
   have h409' : (decide (p1_fText = (⟨#[]⟩ : ByteArray))) = true:=by revert h409; cases (decide (p1_fText = (⟨#[]⟩ : ByteArray))) <;> simp
   replace hm:=ite_t hm (of_decide_eq_true h409')
   refine c_skip ?_
   exact d_round (x392,A394,c395) ⟨hm,hc395⟩ Nat.zero_lt_one ⟨rfl,rfl,rfl,trivial⟩ (fun W h=>(h.dropH (t:=100030) rfl).phi (fun W hφ=>hφ))
  unfold m_conf_Apply_k4_j3 at hm
  refine d_flat [(2,.pointer (some ⟨g1,0,none⟩)),(4,.pointer (some ⟨g3,0,none⟩)),(7,.pointer (some ⟨g347,0,none⟩))] ⟨rfl,rfl,rfl,trivial⟩ (fun u=>?_)
  refine d_sta ⟨w0,M,(100070,g347,.cells #[.slice A349 l348.length c350,.slice A352 l351.length c353,.slice A403 l402.length c404,.int .i64 p0.fEpoch,.slice A358 l357.length c359] 29 (0,0))::(100040,g3,.cells #[.slice none 0 0,.slice none 0 0,.slice none 0 0,.int .i64 0,.slice none 0 0] 29 (0,0))::(100020,g1,.cells #[.slice Ap0_0 p0.fRing.length cp0_0,.slice Ap0_1 p0.fHints.length cp0_1,.slice Ap0_2 p0.fAnchors.length cp0_2,.int .i64 p0.fEpoch,.slice Ap0_3 p0.fFlushes.length cp0_3] 29 (0,0))::H,(100250,⟨.slice A403 l402.length c404,43,2,l402.length,l402.flatMap GAnchor.enc⟩)::(100190,⟨.slice A349 l348.length c350,3,1,l348.length,l348.flatMap (fun x : Int=>[Value.int .i64 x])⟩)::(100220,⟨.slice A352 l351.length c353,9,1,l351.length,l351.flatMap (fun x : ByteArray=>[Value.string x])⟩)::(100300,⟨.slice A358 l357.length c359,54,2,l357.length,l357.flatMap GFlush.enc⟩)::R,φ⟩ (fun _ h=>h)<|d_then<|c_seq<|c_seq<|c_region<|g_v rfl (r_field (n:=2) Try.underlying29 rfl Try.sizeOf26 rfl rfl)<|g_v rfl (r_load (tag:=100070) rfl rfl rfl Try.isAgg26)<|g_v rfl (r_lenL Try.underlying26 rfl)<|g_v rfl (r_gtr rfl rfl)<|g_nil ?_
  refine d_then ?_
  refine c_cond rfl (fun h405=>?_) (fun h405=>?_)
  ·
   replace hm:=ite_t hm (of_decide_eq_true h405)
   refine c_seq<|c_region<|g_v rfl (r_loadA (tag:=100020) rfl rfl Try.isAgg29 Try.sizeOf29 rfl rfl)<|g_storeL (tag:=100040) rfl rfl rfl rfl Try.sizeOf29 rfl rfl<|g_v rfl r_assign<|g_nil<|d_then<|c_ret<|d_ret_then<|d_ret_block ?_
   refine d_ret_then<|d_ret_then ?_
   cases hm
   exact d_retC (Ap0_0,cp0_0,Ap0_1,cp0_1,Ap0_2,cp0_2,Ap0_3,cp0_3) Try.results10 (res_agg (tag:=100040) rfl rfl Try.isAgg29 Try.sizeOf29 (res_tmp (res_nil rfl))) ⟨hcp0_0,hcp0_1,hcp0_2,hcp0_3⟩ (fun W h=>ok_pre (H1:=[_,_,_]) (R1:=[_,_,_,_]) h (fun W hφ=>⟨hφ,(fun W h=>fp0_0 W h) W hφ,(fun W h=>fp0_1 W h) W hφ,(fun W h=>fp0_2 W h) W hφ,(fun W h=>fp0_3 W h) W hφ⟩)) (.inr rfl)
  replace hm:=ite_f hm (of_decide_eq_false h405)
  refine c_skip<|d_then<|c_region<|g_v rfl (r_field (n:=2) Try.underlying29 rfl Try.sizeOf26 rfl rfl)<|g_v rfl (r_load (tag:=100070) rfl rfl rfl Try.isAgg26) ?_
  replace hm:=bnd hm
  obtain ⟨x406,hx407,hm⟩:=hm
  refine g_cn ⟨w0,M,(100070,g347,.cells #[.slice A349 l348.length c350,.slice A352 l351.length c353,.slice A403 l402.length c404,.int .i64 p0.fEpoch,.slice A358 l357.length c359] 29 (0,0))::(100040,g3,.cells #[.slice none 0 0,.slice none 0 0,.slice none 0 0,.int .i64 0,.slice none 0 0] 29 (0,0))::(100020,g1,.cells #[.slice Ap0_0 p0.fRing.length cp0_0,.slice Ap0_1 p0.fHints.length cp0_1,.slice Ap0_2 p0.fAnchors.length cp0_2,.int .i64 p0.fEpoch,.slice Ap0_3 p0.fFlushes.length cp0_3] 29 (0,0))::H,(1000,⟨.slice A403 l402.length c404,43,2,l402.length,l402.flatMap GAnchor.enc⟩)::(100190,⟨.slice A349 l348.length c350,3,1,l348.length,l348.flatMap (fun x : Int=>[Value.int .i64 x])⟩)::(100220,⟨.slice A352 l351.length c353,9,1,l351.length,l351.flatMap (fun x : ByteArray=>[Value.string x])⟩)::(100300,⟨.slice A358 l357.length c359,54,2,l357.length,l357.flatMap GFlush.enc⟩)::R,φ⟩ (fun W h=>(ok_frontR (t:=100250) (t':=1000) h rfl)) Try.call33 rfl rfl (c_slices_SortFunc_33 l402 A403 c404 hc404 _ hx407) (fun _ hp408=>?_)
  refine g_sta _ (fun W h=>(ok_frontR (t:=1000) (t':=100250) h rfl)) ?_
  rw [show l402.length = x406.length from hp408.symm]
  refine g_nil<|d_normal_block ?_
  exact d_round (x406,A403,c404) ⟨hm,(Nat.le_trans (Nat.le_of_eq hp408) hc404)⟩ Nat.zero_lt_one ⟨rfl,rfl,trivial⟩ (fun W h=>(ok_frontR (t:=100190) (t':=100190) (ok_frontR (t:=100220) (t':=100220) (ok_frontR (t:=100250) (t':=100250) (ok_frontR (t:=100300) (t':=100300) (h.dropH (t:=100020) rfl) rfl) rfl) rfl) rfl).phi (fun W hφ=>hφ))
 unfold m_conf_Apply_k4_j2 at hm
 refine d_flat [(4,.pointer (some ⟨g3,0,none⟩)),(7,.pointer (some ⟨g347,0,none⟩))] ⟨rfl,rfl,trivial⟩ (fun u=>?_)
 refine d_sta ⟨w0,M,(100070,g347,.cells #[.slice A349 l348.length c350,.slice A352 l351.length c353,.slice A382 l381.length c383,.int .i64 p0.fEpoch,.slice A358 l357.length c359] 29 (0,0))::(100040,g3,.cells #[.slice none 0 0,.slice none 0 0,.slice none 0 0,.int .i64 0,.slice none 0 0] 29 (0,0))::H,(100190,⟨.slice A349 l348.length c350,3,1,l348.length,l348.flatMap (fun x : Int=>[Value.int .i64 x])⟩)::(100220,⟨.slice A352 l351.length c353,9,1,l351.length,l351.flatMap (fun x : ByteArray=>[Value.string x])⟩)::(100250,⟨.slice A382 l381.length c383,43,2,l381.length,l381.flatMap GAnchor.enc⟩)::(100300,⟨.slice A358 l357.length c359,54,2,l357.length,l357.flatMap GFlush.enc⟩)::R,φ⟩ (fun _ h=>h)<|d_then<|c_seq<|c_region<|g_v rfl (r_loadA (tag:=100070) rfl rfl Try.isAgg29 Try.sizeOf29 rfl rfl)<|g_storeL (tag:=100040) rfl rfl rfl rfl Try.sizeOf29 rfl rfl<|g_v rfl r_assign<|g_nil<|d_then<|c_ret ?_
 cases hm
 refine d_shut (tag:=100190) rfl (fun φ384 q384'=>?_)
 have q384 : ∀ W,φ384 W→φ W:=fun W h=>(q384' W h).1
 have f385:=fun (W : World) (h : φ384 W)=>(q384' W h).2
 refine d_shut (tag:=100220) rfl (fun φ386 q386'=>?_)
 have q386 : ∀ W,φ386 W→φ384 W:=fun W h=>(q386' W h).1
 have f387:=fun (W : World) (h : φ386 W)=>(q386' W h).2
 refine d_shut (tag:=100250) rfl (fun φ388 q388'=>?_)
 have q388 : ∀ W,φ388 W→φ386 W:=fun W h=>(q388' W h).1
 have f389:=fun (W : World) (h : φ388 W)=>(q388' W h).2
 refine d_shut (tag:=100300) rfl (fun φ390 q390'=>?_)
 have q390 : ∀ W,φ390 W→φ388 W:=fun W h=>(q390' W h).1
 have f391:=fun (W : World) (h : φ390 W)=>(q390' W h).2
 exact d_retC (A349,c350,A352,c353,A382,c383,A358,c359) Try.results10 (res_agg (tag:=100040) rfl rfl Try.isAgg29 Try.sizeOf29 (res_tmp (res_nil rfl))) ⟨hc350,hc353,hc383,hc359⟩ (fun W h=>ok_pre (H1:=[_,_]) (R1:=[]) h (fun W hφ=>⟨(q384 _ (q386 _ (q388 _ (q390 _ hφ)))),(fun W h=>f385 W (q386 _ (q388 _ (q390 _ h)))) W hφ,(fun W h=>f387 W (q388 _ (q390 _ h))) W hφ,(fun W h=>f389 W (q390 _ h)) W hφ,(fun W h=>f391 W h) W hφ⟩)) (.inr rfl)
noncomputable def m_ref03_row_j1 (p0 : ByteArray) (l82 : List ByteArray) (i85 : Int) : Option ((List ByteArray)×Bool):=
  some (l82,decide (i85 = w64 ((p0.size : Int) - 1)))
noncomputable def m_ref03_row_s2 (p0 : ByteArray) (l101 : List ByteArray) (i104 : Int) : Option (((List ByteArray)×Int) ⊕ (((List ByteArray)×Int) ⊕ ((List ByteArray)×Bool))):=
  if i104 < (p0.size : Int) then
    (sat_ p0 i104).bind fun b122=>
    if b122 ≠ 0 then
      (sat_ p0 i104).bind fun b124=>
      if 63 < w64 b124 then
        some (.inr (.inr (([] : List ByteArray),false)))
      else
        if (p0.size : Int) < w64 ((w64 (i104 + 1)) + (w64 b124)) then
          some (.inr (.inr (([] : List ByteArray),false)))
        else
          (scutMid p0 (w64 (i104 + 1)) (w64 ((w64 (i104 + 1)) + (w64 b124)))).bind fun s127=>
          (app 16 l101 [s127]).bind fun l129=>
          some (.inl (l129,w64 ((w64 (i104 + 1)) + (w64 b124))))
    else
      some (.inr (.inl (l101,i104)))
  else
    some (.inr (.inl (l101,i104)))
noncomputable def m_ref03_row (p0 : ByteArray) : Option ((List ByteArray)×Bool):=
  (loop (fun s=>m_ref03_row_s2 p0 s.1 s.2) (([] : List ByteArray),0)).bind fun e=>Sum.elim (fun e=>m_ref03_row_j1 p0 e.1 e.2) (fun x=>some x) e
theorem c_ref03_row {w0 : World} {M : Nat→Prop} {H : List (Nat×Nat×Obj)} {R : List (Nat×Row)} {φ : World→Prop} (p0 : ByteArray) (r : (List ByteArray)×Bool) (hm : m_ref03_row p0 = some r) :
    Cn Try.prog 39 #[.string p0] ⟨w0,M,H,R,φ⟩ (fun x : Option Addr×Nat=>.tuple #[.slice x.1 r.1.length x.2,.bool r.2]) (fun x=>r.1.length ≤ x.2) (fun x=>⟨w0,M,H,(2000,⟨.slice x.1 r.1.length x.2,9,1,r.1.length,r.1.flatMap (fun x : ByteArray=>[Value.string x])⟩)::R,φ⟩):=by
 unfold m_ref03_row at hm
 refine cn_intro (fn:=Try.f39) (N:=53) Try.func39 rfl Try.ntmps39 rfl<|c_seq<|c_region<|g_v rfl r_assign<|g_v rfl r_assign<|g_nil<|d_then<|c_seq<|c_region<|g_v rfl r_assign ?_
 refine g_nil<|d_then<|c_seq<|c_region<|g_v rfl r_assign<|g_nil<|d_then<|c_seq<|c_sta _ (fun W h=>nilR h 19 9 1) ?_
 refine c_cut (ι:=(List ByteArray)×Int×Option Addr×Nat) [0,4,5] (fun ⟨l82,i85,A83,c84⟩=>[(4,.slice A83 l82.length c84),(5,.int .i64 i85)]) (fun ⟨l82,i85,A83,c84⟩=>⟨w0,M,H,(19,⟨.slice A83 l82.length c84,9,1,l82.length,l82.flatMap (fun x : ByteArray=>[Value.string x])⟩)::R,φ⟩) (fun ⟨l82,i85,A83,c84⟩=>m_ref03_row_j1 p0 l82 i85 = some r∧l82.length ≤ c84) ?_ (fun ⟨l82,i85,A83,c84⟩ u ⟨hm,hc84⟩=>?_)
 ·
  refine c_block ?_
  replace hm:=bnd hm
  obtain ⟨out2,hl2,hr2⟩:=hm
  obtain ⟨n120',hl2⟩:=loop_lp hl2
  refine c_loopU (ι:=Nat×(List ByteArray)×Int×Option Addr×Nat) [0,4,5] (fun ⟨n120,l101,i104,A102,c103⟩=>[(4,.slice A102 l101.length c103),(5,.int .i64 i104)]) (fun ⟨n120,l101,i104,A102,c103⟩=>⟨w0,M,H,(19,⟨.slice A102 l101.length c103,9,1,l101.length,l101.flatMap (fun x : ByteArray=>[Value.string x])⟩)::R,φ⟩) (fun ⟨n120,l101,i104,A102,c103⟩=>Lp (fun s=>m_ref03_row_s2 p0 s.1 s.2) n120 (l101,i104) out2∧l101.length ≤ c103) (fun ⟨n120,l101,i104,A102,c103⟩=>n120) (n120',([] : List ByteArray),0,none,0) ⟨hl2,(Nat.le_refl 0)⟩ ⟨rfl,rfl,rfl,trivial⟩ (fun W h=>h.phi (fun W hφ=>hφ)) (fun ⟨n120,l101,i104,A102,c103⟩ u ⟨hlp,hc103⟩=>?_)
  obtain ⟨o2,hm,hnx2⟩:=lp_step hlp
  clear hlp
  replace hm : m_ref03_row_s2 p0 l101 i104 = some o2:=hm
  unfold m_ref03_row_s2 at hm
  refine c_flat [(0,.string p0),(4,.slice A102 l101.length c103),(5,.int .i64 i104)] ⟨rfl,rfl,rfl,trivial⟩ (fun u=>?_)
  refine c_sta ⟨w0,M,H,(19,⟨.slice A102 l101.length c103,9,1,l101.length,l101.flatMap (fun x : ByteArray=>[Value.string x])⟩)::R,φ⟩ (fun _ h=>h)<|c_seq<|c_seq<|c_region<|g_v rfl r_move<|g_v rfl r_move<|g_v rfl (r_len Try.underlying9 rfl)<|g_v rfl (r_lss rfl rfl)<|g_v rfl r_move ?_
  refine g_if rfl rfl rfl rfl rfl (fun h121=>?_) (fun h121=>?_)
  ·
   replace hm:=ite_t hm (of_decide_eq_true h121)
   refine g_v rfl r_move<|g_do rfl rfl rfl rfl rfl h121<|g_v rfl r_move<|g_do rfl rfl rfl rfl rfl h121 ?_
   replace hm:=bnd hm
   obtain ⟨b122,hb122,hm⟩:=hm
   refine g_v rfl (r_sat Try.underlying9 rfl rfl hb122)<|g_do rfl rfl rfl rfl rfl h121<|g_v rfl (r_neq rfl rfl)<|g_v rfl (r_pick1 rfl h121)<|g_nil<|d_then ?_
   refine c_flat [(0,.string p0),(4,.slice A102 l101.length c103),(5,.int .i64 i104),(16,.bool (decide (b122 ≠ 0)))] ⟨rfl,rfl,rfl,rfl,trivial⟩ (fun u=>?_)
   refine c_cond rfl (fun h123=>?_) (fun h123=>?_)
   ·
    replace hm:=ite_t hm (of_decide_eq_true h123)
    refine c_skip<|d_then<|c_block<|c_seq<|c_region<|g_v rfl r_move<|g_v rfl r_move ?_
    replace hm:=bnd hm
    obtain ⟨b124,hb124,hm⟩:=hm
    refine g_v rfl (r_sat Try.underlying9 rfl rfl hb124)<|g_v rfl (r_conv Try.underlying5 Try.underlying3 rfl rfl)<|g_v rfl r_assign<|g_nil<|d_then<|c_seq<|c_seq<|c_region<|g_v rfl r_move<|g_v rfl (r_gtr rfl rfl) ?_
    refine g_v rfl r_move ?_
    refine g_if rfl rfl rfl rfl rfl (fun h125=>?_) (fun h125=>?_)
    ·
     replace hm:=ite_f hm (of_decide_eq_false h125)
     refine g_v rfl r_move<|g_do rfl rfl rfl rfl rfl h125<|g_v rfl (r_add rfl rfl rfl)<|g_do rfl rfl rfl rfl rfl h125<|g_v rfl r_move<|g_do rfl rfl rfl rfl rfl h125<|g_v rfl (r_add rfl rfl rfl)<|g_do rfl rfl rfl rfl rfl h125<|g_v rfl r_move<|g_do rfl rfl rfl rfl rfl h125 ?_
     refine g_v rfl (r_len Try.underlying9 rfl)<|g_do rfl rfl rfl rfl rfl h125<|g_v rfl (r_gtr rfl rfl)<|g_v rfl (r_pick0 rfl h125)<|g_nil<|d_then ?_
     refine c_flat [(0,.string p0),(4,.slice A102 l101.length c103),(5,.int .i64 i104),(6,.int .i64 (w64 b124)),(31,.bool (decide ((p0.size : Int) < w64 ((w64 (i104 + 1)) + (w64 b124)))))] ⟨rfl,rfl,rfl,rfl,rfl,trivial⟩ (fun u=>?_)
     refine c_cond rfl (fun h126=>?_) (fun h126=>?_)
     ·
      replace hm:=ite_t hm (of_decide_eq_true h126)
      refine c_seq<|c_region<|g_v rfl r_assign<|g_v rfl r_assign<|g_nil<|d_then<|c_ret<|d_ret_then<|d_ret_block<|d_ret_then ?_
      refine d_ret_block<|d_ret_then<|d_ret_then ?_
      replace hm:=nx_out (C:=(fun e : ((List ByteArray)×Int) ⊕ ((List ByteArray)×Bool)=>Sum.elim (fun e=>m_ref03_row_j1 p0 e.1 e.2) (fun x=>some x) e = some r)) hm hnx2 hr2
      replace hm : some (([] : List ByteArray),false) = some r:=hm
      cases hm
      refine d_sta _ (fun W h=>nilR h 28 9 1)<|d_sta _ (fun W h=>ok_frontR (t:=28) (t':=2000) h rfl) ?_
      exact d_retC (none,0) Try.results39 (res_tmp (res_tmp (res_nil rfl))) (Nat.le_refl 0) (fun W h=>(h.dropR (t:=19) rfl).phi (fun W hφ=>hφ)) (.inr rfl)
     replace hm:=ite_f hm (of_decide_eq_false h126)
     refine c_skip<|d_then<|c_seq<|c_region ?_
     iterate 3 refine g_v rfl r_move ?_
     refine g_v rfl (r_add rfl rfl rfl)<|g_v rfl r_move<|g_v rfl (r_add rfl rfl rfl)<|g_v rfl r_move<|g_v rfl (r_add rfl rfl rfl) ?_
     replace hm:=bnd hm
     obtain ⟨s127,hs127,hm⟩:=hm
     refine g_v rfl (r_scutMid Try.underlying9 rfl rfl rfl hs127) ?_
     refine g_e rfl (e_lit (tag:=100410) (l:=[s127]) (enc:=(fun x : ByteArray=>[Value.string x])) (sz:=1) rfl Try.underlying22 (lit9_6 _) rfl rfl (fun _=>rfl)) (fun g128 _=>?_)
     replace hm:=bnd hm
     obtain ⟨l129,hl129,hm⟩:=hm
     refine g_e rfl (e_appR (enc:=(fun x : ByteArray=>[Value.string x])) (l:=l101) (l1:=[s127]) (l2:=l129) (tag:=19) Try.underlying22 inf9_7 rfl (by decide) (by decide) (fun _=>rfl) (fun _=>rfl) rfl hc103 rfl rfl (fun W hS=>rowCl (tag:=100410) rfl W hS) hl129) (fun ⟨A130,c131⟩ hc131=>?_)
     refine g_v rfl r_assign<|g_nil<|d_then ?_
     refine c_flat [(0,.string p0),(4,.slice A130 l129.length c131),(5,.int .i64 i104),(6,.int .i64 (w64 b124))] ⟨rfl,rfl,rfl,rfl,trivial⟩ (fun u=>?_)
     refine c_sta ⟨w0,M,H,(100410,⟨.slice (some ⟨g128,0,none⟩) [s127].length 1,9,1,[s127].length,[s127].flatMap (fun x : ByteArray=>[Value.string x])⟩)::(19,⟨.slice A130 l129.length c131,9,1,l129.length,l129.flatMap (fun x : ByteArray=>[Value.string x])⟩)::R,φ⟩ (fun _ h=>h)<|c_region<|g_v rfl r_move<|g_v rfl (r_add rfl rfl rfl)<|g_v rfl r_move<|g_v rfl (r_add rfl rfl rfl)<|g_v rfl r_assign<|g_nil<|d_normal_block ?_
     obtain ⟨n132,hn132,hlp⟩:=nx_inl hm hnx2
     exact d_round (n132,l129,w64 ((w64 (i104 + 1)) + (w64 b124)),A130,c131) ⟨hlp,hc131⟩ hn132 ⟨rfl,rfl,rfl,trivial⟩ (fun W h=>(h.dropR (t:=100410) rfl).phi (fun W hφ=>hφ))
    replace hm:=ite_t hm (of_decide_eq_true h125)
    iterate 6 refine g_no rfl rfl rfl rfl rfl h125 ?_
    refine g_v rfl (r_pick1 rfl h125)<|g_nil<|d_then ?_
    refine c_flat [(0,.string p0),(4,.slice A102 l101.length c103),(5,.int .i64 i104),(6,.int .i64 (w64 b124)),(31,.bool true)] ⟨rfl,rfl,rfl,rfl,rfl,trivial⟩ (fun u=>?_)
    refine c_cond1 rfl rfl<|c_seq<|c_region<|g_v rfl r_assign<|g_v rfl r_assign<|g_nil<|d_then<|c_ret<|d_ret_then<|d_ret_block ?_
    refine d_ret_then<|d_ret_block<|d_ret_then<|d_ret_then ?_
    replace hm:=nx_out (C:=(fun e : ((List ByteArray)×Int) ⊕ ((List ByteArray)×Bool)=>Sum.elim (fun e=>m_ref03_row_j1 p0 e.1 e.2) (fun x=>some x) e = some r)) hm hnx2 hr2
    replace hm : some (([] : List ByteArray),false) = some r:=hm
    cases hm
    refine d_sta _ (fun W h=>nilR h 29 9 1)<|d_sta _ (fun W h=>ok_frontR (t:=29) (t':=2000) h rfl) ?_
    exact d_retC (none,0) Try.results39 (res_tmp (res_tmp (res_nil rfl))) (Nat.le_refl 0) (fun W h=>(h.dropR (t:=19) rfl).phi (fun W hφ=>hφ)) (.inr rfl)
   replace hm:=ite_f hm (of_decide_eq_false h123)
   refine c_exit<|d_exit_then<|d_exit_then<|d_exit_block ?_
   replace hm:=nx_out (C:=(fun e : ((List ByteArray)×Int) ⊕ ((List ByteArray)×Bool)=>Sum.elim (fun e=>m_ref03_row_j1 p0 e.1 e.2) (fun x=>some x) e = some r)) hm hnx2 hr2
   exact d_round (l101,i104,A102,c103) ⟨hm,hc103⟩ Nat.zero_lt_one ⟨rfl,rfl,rfl,trivial⟩ (fun W h=>h.phi (fun W hφ=>hφ))
  replace hm:=ite_f hm (of_decide_eq_false h121)
  iterate 3 refine g_no rfl rfl rfl rfl rfl h121 ?_
  refine g_v rfl (r_pick0 rfl h121)<|g_nil<|d_then<|c_cond0 rfl rfl<|c_exit<|d_exit_then<|d_exit_then<|d_exit_block ?_
  replace hm:=nx_out (C:=(fun e : ((List ByteArray)×Int) ⊕ ((List ByteArray)×Bool)=>Sum.elim (fun e=>m_ref03_row_j1 p0 e.1 e.2) (fun x=>some x) e = some r)) hm hnx2 hr2
  exact d_round (l101,i104,A102,c103) ⟨hm,hc103⟩ Nat.zero_lt_one ⟨rfl,rfl,rfl,trivial⟩ (fun W h=>h.phi (fun W hφ=>hφ))
 unfold m_ref03_row_j1 at hm
 refine d_flat [(0,.string p0),(4,.slice A83 l82.length c84),(5,.int .i64 i85)] ⟨rfl,rfl,rfl,trivial⟩ (fun u=>?_)
 refine d_sta ⟨w0,M,H,(19,⟨.slice A83 l82.length c84,9,1,l82.length,l82.flatMap (fun x : ByteArray=>[Value.string x])⟩)::R,φ⟩ (fun _ h=>h)<|d_then<|c_seq<|c_region ?_
 iterate 3 refine g_v rfl r_move ?_
 refine g_v rfl (r_len Try.underlying9 rfl)<|g_v rfl (r_sub rfl rfl rfl)<|g_v rfl (r_eql rfl rfl)<|g_v rfl r_assign<|g_v rfl r_assign<|g_nil<|d_then<|c_ret ?_
 cases hm
 refine d_sta _ (fun W h=>ok_frontR (t:=19) (t':=2000) h rfl) ?_
 exact d_retC (A83,c84) Try.results39 (res_tmp (res_tmp (res_nil rfl))) hc84 (fun W h=>h.phi (fun W hφ=>hφ)) (.inr rfl)
noncomputable def m_ref03_Check (p0 : ByteArray) : Option Int:=
  (m_ref03_row p0).bind fun (z7 : (List ByteArray)×Bool)=>
  if z7.2 = true then
    if 255 < (p0.size : Int) then
      some 11
    else
      some 0
  else
    some 10
theorem c_ref03_Check {w0 : World} {M : Nat→Prop} {H : List (Nat×Nat×Obj)} {R : List (Nat×Row)} {φ : World→Prop} (p0 : ByteArray) (r : Int) (hm : m_ref03_Check p0 = some r) :
    Cn Try.prog 11 #[.string p0] ⟨w0,M,H,R,φ⟩ (fun x : Unit=>.int .i64 r) (fun x=>True) (fun x=>⟨w0,M,H,R,φ⟩):=by
 unfold m_ref03_Check at hm
 refine cn_intro (fn:=Try.f11) (N:=15) Try.func11 rfl Try.ntmps11 rfl<|c_seq<|c_region<|g_v rfl r_assign<|g_nil<|d_then<|c_seq<|c_region<|g_v rfl r_move ?_
 replace hm:=bnd hm
 obtain ⟨⟨x1,x2⟩,hx3,hm⟩:=hm
 refine g_cn ⟨w0,M,_,_,φ⟩ (fun _ h=>h) Try.call39 rfl rfl (c_ref03_row p0 _ hx3) (fun ⟨A4,c5⟩ hc5=>?_)
 refine g_sta _ (fun W h=>(ok_frontR (t:=2000) (t':=100070) h rfl))<|g_v rfl r_move<|g_v rfl (r_extract rfl rfl)<|g_v rfl (r_extract rfl rfl)<|g_v rfl r_assign<|g_v rfl r_assign<|g_nil<|d_then<|c_seq<|c_seq ?_
 refine c_region<|g_v rfl r_move<|g_v rfl (r_not rfl)<|g_nil<|d_then ?_
 refine c_flat [(0,.string p0),(11,.bool (!x2))] ⟨rfl,rfl,trivial⟩ (fun u=>?_)
 refine c_sta ⟨w0,M,H,(100070,⟨.slice A4 x1.length c5,9,1,x1.length,x1.flatMap (fun x : ByteArray=>[Value.string x])⟩)::R,φ⟩ (fun _ h=>h) ?_
 refine c_cond rfl (fun h8=>?_) (fun h8=>?_)
 ·
  have h8' : x2 = false:=by revert h8; cases x2 <;> simp
  replace hm:=ite_f hm (bool_nt h8')
  refine c_seq<|c_region<|g_v rfl r_assign<|g_nil<|d_then<|c_ret<|d_ret_then ?_
  cases hm
  exact d_retC () Try.results11 (res_tmp (res_nil rfl)) trivial (fun W h=>ok_pre (H1:=[]) (R1:=[_]) h (fun W hφ=>hφ)) (.inr rfl)
 have h8' : x2 = true:=by revert h8; cases x2 <;> simp
 replace hm:=ite_t hm h8'
 refine c_skip<|d_then<|c_seq<|c_seq<|c_region<|g_v rfl r_move<|g_v rfl (r_len Try.underlying9 rfl)<|g_v rfl (r_gtr rfl rfl)<|g_nil<|d_then ?_
 refine c_cond rfl (fun h9=>?_) (fun h9=>?_)
 ·
  replace hm:=ite_t hm (of_decide_eq_true h9)
  refine c_seq<|c_region<|g_v rfl r_assign<|g_nil<|d_then<|c_ret<|d_ret_then ?_
  cases hm
  exact d_retC () Try.results11 (res_tmp (res_nil rfl)) trivial (fun W h=>ok_pre (H1:=[]) (R1:=[_]) h (fun W hφ=>hφ)) (.inr rfl)
 replace hm:=ite_f hm (of_decide_eq_false h9)
 refine c_skip<|d_then<|c_seq<|c_region<|g_v rfl r_assign<|g_nil<|d_then<|c_ret ?_
 cases hm
 exact d_retC () Try.results11 (res_tmp (res_nil rfl)) trivial (fun W h=>ok_pre (H1:=[]) (R1:=[_]) h (fun W hφ=>hφ)) (.inr rfl)
noncomputable def m_ref03_Labels (p0 : ByteArray) : Option ((List ByteArray)×Int):=
  (m_ref03_Check p0).bind fun x1=>
  if x1 ≠ 0 then
    some (([] : List ByteArray),x1)
  else
    (m_ref03_row p0).bind fun (z10 : (List ByteArray)×Bool)=>
    some (z10.1,0)
theorem c_ref03_Labels {w0 : World} {M : Nat→Prop} {H : List (Nat×Nat×Obj)} {R : List (Nat×Row)} {φ : World→Prop} (p0 : ByteArray) (r : (List ByteArray)×Int) (hm : m_ref03_Labels p0 = some r) :
    Cn Try.prog 71 #[.string p0] ⟨w0,M,H,R,φ⟩ (fun x : Option Addr×Nat=>.tuple #[.slice x.1 r.1.length x.2,.int .i64 r.2]) (fun x=>r.1.length ≤ x.2) (fun x=>⟨w0,M,H,(2000,⟨.slice x.1 r.1.length x.2,9,1,r.1.length,r.1.flatMap (fun x : ByteArray=>[Value.string x])⟩)::R,φ⟩):=by
 unfold m_ref03_Labels at hm
 refine cn_intro (fn:=Try.f71) (N:=18) Try.func71 rfl Try.ntmps71 rfl<|c_seq<|c_region<|g_v rfl r_assign<|g_v rfl r_assign<|g_nil<|d_then<|c_seq<|c_region<|g_v rfl r_move ?_
 replace hm:=bnd hm
 obtain ⟨x1,hx2,hm⟩:=hm
 refine g_cn ⟨w0,M,_,_,φ⟩ (fun _ h=>h) Try.call11 rfl rfl (c_ref03_Check p0 _ hx2) (fun _ _=>?_)
 refine g_v rfl r_assign<|g_nil<|d_then<|c_seq<|c_seq<|c_region<|g_v rfl r_move<|g_v rfl (r_neq rfl rfl)<|g_nil<|d_then ?_
 refine c_cond rfl (fun h3=>?_) (fun h3=>?_)
 ·
  replace hm:=ite_t hm (of_decide_eq_true h3)
  refine c_seq<|c_region<|g_v rfl r_move<|g_v rfl r_assign<|g_v rfl r_assign<|g_nil<|d_then ?_
  refine c_flat [(2,.slice none 0 0),(3,.int .i64 x1)] ⟨rfl,rfl,trivial⟩ (fun u=>?_)
  refine c_sta ⟨w0,M,H,R,φ⟩ (fun _ h=>h)<|c_ret<|d_ret_then ?_
  cases hm
  refine d_sta _ (fun W h=>nilR h 11 9 1)<|d_sta _ (fun W h=>ok_frontR (t:=11) (t':=2000) h rfl) ?_
  exact d_retC (none,0) Try.results71 (res_tmp (res_tmp (res_nil rfl))) (Nat.le_refl 0) (fun W h=>h.phi (fun W hφ=>hφ)) (.inr rfl)
 replace hm:=ite_f hm (of_decide_eq_false h3)
 refine c_skip<|d_then<|c_seq<|c_region<|g_v rfl r_move ?_
 replace hm:=bnd hm
 obtain ⟨⟨x4,x5⟩,hx6,hm⟩:=hm
 refine g_cn ⟨w0,M,_,_,φ⟩ (fun _ h=>h) Try.call39 rfl rfl (c_ref03_row p0 _ hx6) (fun ⟨A7,c8⟩ hc8=>?_)
 refine g_sta _ (fun W h=>(ok_frontR (t:=2000) (t':=100140) h rfl))<|g_v rfl r_move<|g_v rfl (r_extract rfl rfl)<|g_v rfl (r_extract rfl rfl)<|g_v rfl r_assign<|g_v rfl r_assign<|g_nil<|d_then ?_
 refine c_flat [(5,.slice A7 x4.length c8)] ⟨rfl,trivial⟩ (fun u=>?_)
 refine c_sta ⟨w0,M,H,(100140,⟨.slice A7 x4.length c8,9,1,x4.length,x4.flatMap (fun x : ByteArray=>[Value.string x])⟩)::R,φ⟩ (fun _ h=>h)<|c_seq<|c_region<|g_v rfl r_move<|g_v rfl r_assign<|g_v rfl r_assign<|g_nil<|d_then<|c_ret ?_
 cases hm
 refine d_sta _ (fun W h=>ok_frontR (t:=100140) (t':=2000) h rfl) ?_
 exact d_retC (A7,c8) Try.results71 (res_tmp (res_tmp (res_nil rfl))) hc8 (fun W h=>h.phi (fun W hφ=>hφ)) (.inr rfl)
noncomputable def m_ref03_Lower_j1  (l55 : List Int) : Option ByteArray:=
  some (strOfNums l55)
noncomputable def m_ref03_Lower_s2 (p0 : ByteArray) (l78 : List Int) (i79 : Int) : Option (((List Int)×Int) ⊕ (List Int)):=
  if i79 < (((bytesI p0).length) : Int) then
    (at_ l78 i79).bind fun x104=>
    if 65 ≤ x104 then
      (at_ l78 i79).bind fun x109=>
      if x109 ≤ 90 then
        (at_ l78 i79).bind fun x114=>
        (at_ l78 i79).bind fun x118=>
        (setAt l78 i79 (IntKind.u8.wrap (x114 + 32))).bind fun l122=>
        some (.inl (l122,w64 (i79 + 1)))
      else
        some (.inl (l78,w64 (i79 + 1)))
    else
      some (.inl (l78,w64 (i79 + 1)))
  else
    some (.inr l78)
noncomputable def m_ref03_Lower (p0 : ByteArray) : Option ByteArray:=
  (loop (fun s=>m_ref03_Lower_s2 p0 s.1 s.2) ((bytesI p0),0)).bind fun e=>m_ref03_Lower_j1 e
theorem c_ref03_Lower {w0 : World} {M : Nat→Prop} {H : List (Nat×Nat×Obj)} {R : List (Nat×Row)} {φ : World→Prop} (p0 : ByteArray) (r : ByteArray) (hm : m_ref03_Lower p0 = some r) :
    Cn Try.prog 72 #[.string p0] ⟨w0,M,H,R,φ⟩ (fun x : Unit=>.string r) (fun x=>True) (fun x=>⟨w0,M,H,R,φ⟩):=by
 unfold m_ref03_Lower at hm
 refine cn_intro (fn:=Try.f72) (N:=35) Try.func72 rfl Try.ntmps72 rfl<|c_seq<|c_region<|g_v rfl r_assign<|g_nil<|d_then<|c_seq<|c_region<|g_v rfl r_move ?_
 refine g_e rfl (e_bytesH 100060 Try.underlying9 Try.underlying79 Try.underlying5 rfl) (fun ⟨g5,c6,T7⟩ hc6=>?_)
 refine g_v rfl r_assign<|g_nil<|d_then<|c_seq<|c_seq<|c_region<|g_v rfl r_assign<|g_nil<|d_then ?_
 refine c_cut (ι:=(List Int)) [3] (fun l55=>[(3,.slice (some ⟨g5,0,none⟩) ((bytesI p0).length) c6)]) (fun l55=>⟨w0,M,(100060,g5,rowO l55 T7 5)::H,R,φ⟩) (fun l55=>m_ref03_Lower_j1 l55 = some r∧l55.length = (bytesI p0).length) ?_ (fun l55 u ⟨hm,hl55⟩=>?_)
 ·
  refine c_block ?_
  replace hm:=bnd hm
  obtain ⟨out2,hl2,hr2⟩:=hm
  obtain ⟨n102',hl2⟩:=loop_lp hl2
  refine c_loopU (ι:=Nat×(List Int)×Int) [3,4] (fun ⟨n102,l78,i79⟩=>[(3,.slice (some ⟨g5,0,none⟩) ((bytesI p0).length) c6),(4,.int .i64 i79)]) (fun ⟨n102,l78,i79⟩=>⟨w0,M,(100060,g5,rowO l78 T7 5)::H,R,φ⟩) (fun ⟨n102,l78,i79⟩=>Lp (fun s=>m_ref03_Lower_s2 p0 s.1 s.2) n102 (l78,i79) out2∧l78.length = (bytesI p0).length) (fun ⟨n102,l78,i79⟩=>n102) (n102',(bytesI p0),0) ⟨hl2,rfl⟩ ⟨rfl,rfl,trivial⟩ (fun W h=>h.phi (fun W hφ=>hφ)) (fun ⟨n102,l78,i79⟩ u ⟨hlp,hl78⟩=>?_)
  obtain ⟨o2,hm,hnx2⟩:=lp_step hlp
  clear hlp
  replace hm : m_ref03_Lower_s2 p0 l78 i79 = some o2:=hm
  unfold m_ref03_Lower_s2 at hm
  refine c_flat [(3,.slice (some ⟨g5,0,none⟩) ((bytesI p0).length) c6),(4,.int .i64 i79)] ⟨rfl,rfl,trivial⟩ (fun u=>?_)
  refine c_sta ⟨w0,M,(100060,g5,rowO l78 T7 5)::H,R,φ⟩ (fun _ h=>h)<|c_seq<|c_seq<|c_region<|g_v rfl r_move<|g_v rfl r_move<|g_v rfl (r_lenL Try.underlying79 rfl)<|g_v rfl (r_lss rfl rfl)<|g_nil<|d_then ?_
  refine c_cond rfl (fun h103=>?_) (fun h103=>?_)
  ·
   replace hm:=ite_t hm (of_decide_eq_true h103)
   refine c_skip<|d_then<|c_seq<|c_block<|c_seq<|c_region<|g_v rfl r_move<|g_v rfl r_move ?_
   replace hm:=bnd hm
   obtain ⟨x104,hx104,hm⟩:=hm
   refine g_know _ (fun W hS=>cl_at (p:=(Sta.ok ⟨w0,M,(100060,g5,rowO l78 T7 5)::H,R,φ⟩)) (sz:=1) (fun _=>rfl) (by decide) hS (hrowCl (S:=⟨w0,M,(100060,g5,rowO l78 T7 5)::H,R,φ⟩) (tag:=100060) rfl) hx104) ?_
   rintro ⟨ad105,hA107,f106⟩
   refine g_v rfl (r_ixN hl78 Try.underlying79 Try.sizeOf5 rfl hA107 rfl hx104)<|g_v rfl (r_ld rfl Try.isAgg5 (fun W hS=>Cl.head (f106 W hS)))<|g_v rfl (r_geq rfl rfl)<|g_v rfl r_move ?_
   refine g_if rfl rfl rfl rfl rfl (fun h108=>?_) (fun h108=>?_)
   ·
    replace hm:=ite_t hm (of_decide_eq_true h108)
    refine g_v rfl r_move<|g_do rfl rfl rfl rfl rfl h108<|g_v rfl r_move<|g_do rfl rfl rfl rfl rfl h108 ?_
    replace hm:=bnd hm
    obtain ⟨x109,hx109,hm⟩:=hm
    refine g_know _ (fun W hS=>cl_at (p:=(Sta.ok ⟨w0,M,(100060,g5,rowO l78 T7 5)::H,R,φ⟩)) (sz:=1) (fun _=>rfl) (by decide) hS (hrowCl (S:=⟨w0,M,(100060,g5,rowO l78 T7 5)::H,R,φ⟩) (tag:=100060) rfl) hx109) ?_
    rintro ⟨ad110,hA112,f111⟩
    refine g_v rfl (r_ixN hl78 Try.underlying79 Try.sizeOf5 rfl hA112 rfl hx109)<|g_do rfl rfl rfl rfl rfl h108<|g_v rfl (r_ld rfl Try.isAgg5 (fun W hS=>Cl.head (f111 W hS)))<|g_do rfl rfl rfl rfl rfl h108<|g_v rfl (r_leq rfl rfl)<|g_v rfl (r_pick1 rfl h108)<|g_nil<|d_then ?_
    refine c_flat [(3,.slice (some ⟨g5,0,none⟩) ((bytesI p0).length) c6),(4,.int .i64 i79),(24,.bool (decide (x109 ≤ 90)))] ⟨rfl,rfl,rfl,trivial⟩ (fun u=>?_)
    refine c_cond rfl (fun h113=>?_) (fun h113=>?_)
    ·
     replace hm:=ite_t hm (of_decide_eq_true h113)
     refine c_region ?_
     iterate 4 refine g_v rfl r_move ?_
     replace hm:=bnd hm
     obtain ⟨x114,hx114,hm⟩:=hm
     refine g_know _ (fun W hS=>cl_at (p:=(Sta.ok ⟨w0,M,(100060,g5,rowO l78 T7 5)::H,R,φ⟩)) (sz:=1) (fun _=>rfl) (by decide) hS (hrowCl (S:=⟨w0,M,(100060,g5,rowO l78 T7 5)::H,R,φ⟩) (tag:=100060) rfl) hx114) ?_
     rintro ⟨ad115,hA117,f116⟩
     refine g_v rfl (r_ixN hl78 Try.underlying79 Try.sizeOf5 rfl hA117 rfl hx114)<|g_v rfl (r_ld rfl Try.isAgg5 (fun W hS=>Cl.head (f116 W hS)))<|g_v rfl (r_add rfl rfl rfl) ?_
     replace hm:=bnd hm
     obtain ⟨x118,hx118,hm⟩:=hm
     refine g_know _ (fun W hS=>cl_at (p:=(Sta.ok ⟨w0,M,(100060,g5,rowO l78 T7 5)::H,R,φ⟩)) (sz:=1) (fun _=>rfl) (by decide) hS (hrowCl (S:=⟨w0,M,(100060,g5,rowO l78 T7 5)::H,R,φ⟩) (tag:=100060) rfl) hx118) ?_
     rintro ⟨ad119,hA121,f120⟩
     refine g_v rfl (r_ixN hl78 Try.underlying79 Try.sizeOf5 rfl hA121 rfl hx118) ?_
     replace hm:=bnd hm
     obtain ⟨l122,hl122,hm⟩:=hm
     refine g_stH (tag:=100060) (l:=l78) rfl rfl hA121 rfl hl122 rfl Try.sizeOf5<|g_nil<|d_normal_block<|d_then ?_
     refine c_flat [(3,.slice (some ⟨g5,0,none⟩) ((bytesI p0).length) c6),(4,.int .i64 i79)] ⟨rfl,rfl,trivial⟩ (fun u=>?_)
     refine c_sta ⟨w0,M,(100060,g5,rowO l122 T7 5)::H,R,φ⟩ (fun _ h=>h)<|c_region<|g_v rfl r_move<|g_v rfl (r_add rfl rfl rfl)<|g_v rfl r_assign<|g_nil ?_
     obtain ⟨n123,hn123,hlp⟩:=nx_inl hm hnx2
     exact d_round (n123,l122,w64 (i79 + 1)) ⟨hlp,((setAt_lenE hl122).trans hl78)⟩ hn123 ⟨rfl,rfl,trivial⟩ (fun W h=>h.phi (fun W hφ=>hφ))
    replace hm:=ite_f hm (of_decide_eq_false h113)
    refine c_skip<|d_normal_block<|d_then<|c_region<|g_v rfl r_move<|g_v rfl (r_add rfl rfl rfl)<|g_v rfl r_assign<|g_nil ?_
    obtain ⟨n124,hn124,hlp⟩:=nx_inl hm hnx2
    exact d_round (n124,l78,w64 (i79 + 1)) ⟨hlp,hl78⟩ hn124 ⟨rfl,rfl,trivial⟩ (fun W h=>h.phi (fun W hφ=>hφ))
   replace hm:=ite_f hm (of_decide_eq_false h108)
   iterate 4 refine g_no rfl rfl rfl rfl rfl h108 ?_
   refine g_v rfl (r_pick0 rfl h108)<|g_nil<|d_then ?_
   refine c_flat [(3,.slice (some ⟨g5,0,none⟩) ((bytesI p0).length) c6),(4,.int .i64 i79),(24,.bool false)] ⟨rfl,rfl,rfl,trivial⟩ (fun u=>?_)
   refine c_cond0 rfl rfl<|c_skip<|d_normal_block<|d_then<|c_region<|g_v rfl r_move<|g_v rfl (r_add rfl rfl rfl)<|g_v rfl r_assign<|g_nil ?_
   obtain ⟨n125,hn125,hlp⟩:=nx_inl hm hnx2
   exact d_round (n125,l78,w64 (i79 + 1)) ⟨hlp,hl78⟩ hn125 ⟨rfl,rfl,trivial⟩ (fun W h=>h.phi (fun W hφ=>hφ))
  replace hm:=ite_f hm (of_decide_eq_false h103)
  refine c_exit<|d_exit_then<|d_exit_then<|d_exit_block ?_
  replace hm:=nx_out (C:=(fun e : (List Int)=>m_ref03_Lower_j1 e = some r)) hm hnx2 hr2
  exact d_round l78 ⟨hm,hl78⟩ Nat.zero_lt_one ⟨rfl,trivial⟩ (fun W h=>h.phi (fun W hφ=>hφ))
 unfold m_ref03_Lower_j1 at hm
 refine d_flat [(3,.slice (some ⟨g5,0,none⟩) ((bytesI p0).length) c6)] ⟨rfl,trivial⟩ (fun u=>?_)
 refine d_sta ⟨w0,M,(100060,g5,rowO l55 T7 5)::H,R,φ⟩ (fun _ h=>h)<|d_then<|c_seq<|c_region<|g_v rfl r_move<|g_v rfl (r_textN hl55 Try.underlying79 Try.underlying5 Try.underlying9 rfl (hrowCl (tag:=100060) rfl))<|g_v rfl r_assign<|g_nil<|d_then<|c_ret ?_
 cases hm
 exact d_retC () Try.results72 (res_tmp (res_nil rfl)) trivial (fun W h=>ok_pre (H1:=[_]) (R1:=[]) h (fun W hφ=>hφ)) (.inr rfl)
noncomputable def m_ref03_Shared_j1  (i107 : Int) : Option Int:=
  some i107
noncomputable def m_ref03_Shared_s2 (x1 : List ByteArray) (x8 : List ByteArray) (i152 : Int) : Option (Int ⊕ Int):=
  if i152 < (x1.length : Int) then
    if i152 < (x8.length : Int) then
      (at_ x1 (w64 ((w64 ((x1.length : Int) - 1)) - i152))).bind fun x228=>
      (at_ x8 (w64 ((w64 ((x8.length : Int) - 1)) - i152))).bind fun x232=>
      (m_ref03_Lower x228).bind fun x236=>
      (m_ref03_Lower x232).bind fun x238=>
      if x236 = x238 then
        some (.inl (w64 (i152 + 1)))
      else
        some (.inr i152)
    else
      some (.inr i152)
  else
    some (.inr i152)
noncomputable def m_ref03_Shared (p0 : ByteArray) (p1 : ByteArray) : Option Int:=
  (m_ref03_Labels p0).bind fun (z7 : (List ByteArray)×Int)=>
  (m_ref03_Labels p1).bind fun (z14 : (List ByteArray)×Int)=>
  if z7.2 ≠ 0 then
    some (-1)
  else
    if z14.2 ≠ 0 then
      some (-1)
    else
      (loop (fun s=>m_ref03_Shared_s2 z7.1 z14.1 s) 0).bind fun e=>m_ref03_Shared_j1 e
theorem c_ref03_Shared {w0 : World} {M : Nat→Prop} {H : List (Nat×Nat×Obj)} {R : List (Nat×Row)} {φ : World→Prop} (p0 : ByteArray) (p1 : ByteArray) (r : Int) (hm : m_ref03_Shared p0 p1 = some r) :
    Cn Try.prog 40 #[.string p0,.string p1] ⟨w0,M,H,R,φ⟩ (fun x : Unit=>.int .i64 r) (fun x=>True) (fun x=>⟨w0,M,H,R,φ⟩):=by
 unfold m_ref03_Shared at hm
 refine cn_intro (fn:=Try.f40) (N:=60) Try.func40 rfl Try.ntmps40 rfl<|c_seq<|c_region<|g_v rfl r_assign<|g_nil<|d_then<|c_seq<|c_region<|g_v rfl r_move ?_
 replace hm:=bnd hm
 obtain ⟨⟨x1,x2⟩,hx3,hm⟩:=hm
 refine g_cn ⟨w0,M,_,_,φ⟩ (fun _ h=>h) Try.call71 rfl rfl (c_ref03_Labels p0 _ hx3) (fun ⟨A4,c5⟩ hc5=>?_)
 refine g_sta _ (fun W h=>(ok_frontR (t:=2000) (t':=100120) h rfl))<|g_v rfl r_move<|g_v rfl (r_extract rfl rfl)<|g_v rfl (r_extract rfl rfl)<|g_v rfl r_assign<|g_v rfl r_assign<|g_nil<|d_then<|c_seq<|c_region ?_
 refine g_v rfl r_move ?_
 replace hm:=bnd hm
 obtain ⟨⟨x8,x9⟩,hx10,hm⟩:=hm
 refine g_cn ⟨w0,M,_,_,φ⟩ (fun _ h=>h) Try.call71 rfl rfl (c_ref03_Labels p1 _ hx10) (fun ⟨A11,c12⟩ hc12=>?_)
 refine g_sta _ (fun W h=>(ok_frontR (t:=2000) (t':=100170) h rfl))<|g_v rfl r_move<|g_v rfl (r_extract rfl rfl)<|g_v rfl (r_extract rfl rfl)<|g_v rfl r_assign<|g_v rfl r_assign<|g_nil<|d_then ?_
 refine c_flat [(5,.slice A4 x1.length c5),(6,.int .i64 x2),(7,.slice A11 x8.length c12),(8,.int .i64 x9)] ⟨rfl,rfl,rfl,rfl,trivial⟩ (fun u=>?_)
 refine c_sta ⟨w0,M,H,(100170,⟨.slice A11 x8.length c12,9,1,x8.length,x8.flatMap (fun x : ByteArray=>[Value.string x])⟩)::(100120,⟨.slice A4 x1.length c5,9,1,x1.length,x1.flatMap (fun x : ByteArray=>[Value.string x])⟩)::R,φ⟩ (fun _ h=>h)<|c_seq<|c_seq<|c_region<|g_v rfl r_move<|g_v rfl (r_neq rfl rfl)<|g_v rfl r_move ?_
 refine g_if rfl rfl rfl rfl rfl (fun h15=>?_) (fun h15=>?_)
 ·
  replace hm:=ite_f hm (of_decide_eq_false h15)
  refine g_v rfl r_move<|g_do rfl rfl rfl rfl rfl h15<|g_v rfl (r_neq rfl rfl)<|g_v rfl (r_pick0 rfl h15)<|g_nil<|d_then ?_
  refine c_cond rfl (fun h16=>?_) (fun h16=>?_)
  ·
   replace hm:=ite_t hm (of_decide_eq_true h16)
   refine c_seq<|c_region<|g_v rfl r_assign<|g_nil<|d_then<|c_ret<|d_ret_then ?_
   cases hm
   exact d_retC () Try.results40 (res_tmp (res_nil rfl)) trivial (fun W h=>ok_pre (H1:=[]) (R1:=[_,_]) h (fun W hφ=>hφ)) (.inr rfl)
  replace hm:=ite_f hm (of_decide_eq_false h16)
  refine c_skip<|d_then<|c_seq<|c_region<|g_v rfl r_assign<|g_nil<|d_then<|c_seq ?_
  refine c_cut (ι:=Int) [9] (fun i107=>[(9,.int .i64 i107)]) (fun i107=>⟨w0,M,H,R,φ⟩) (fun i107=>m_ref03_Shared_j1 i107 = some r) ?_ (fun i107 u hm=>?_)
  ·
   refine c_block ?_
   replace hm:=bnd hm
   obtain ⟨out2,hl2,hr2⟩:=hm
   obtain ⟨n197',hl2⟩:=loop_lp hl2
   refine c_loopU (ι:=Nat×Int) [5,7,9] (fun ⟨n197,i152⟩=>[(9,.int .i64 i152)]) (fun ⟨n197,i152⟩=>⟨w0,M,H,(100170,⟨.slice A11 x8.length c12,9,1,x8.length,x8.flatMap (fun x : ByteArray=>[Value.string x])⟩)::(100120,⟨.slice A4 x1.length c5,9,1,x1.length,x1.flatMap (fun x : ByteArray=>[Value.string x])⟩)::R,φ⟩) (fun ⟨n197,i152⟩=>Lp (fun s=>m_ref03_Shared_s2 x1 x8 s) n197 i152 out2) (fun ⟨n197,i152⟩=>n197) (n197',0) hl2 ⟨rfl,rfl,rfl,trivial⟩ (fun W h=>h.phi (fun W hφ=>hφ)) (fun ⟨n197,i152⟩ u hlp=>?_)
   obtain ⟨o2,hm,hnx2⟩:=lp_step hlp
   clear hlp
   replace hm : m_ref03_Shared_s2 x1 x8 i152 = some o2:=hm
   unfold m_ref03_Shared_s2 at hm
   refine c_flat [(5,.slice A4 x1.length c5),(7,.slice A11 x8.length c12),(9,.int .i64 i152)] ⟨rfl,rfl,rfl,trivial⟩ (fun u=>?_)
   refine c_seq<|c_seq<|ga_start (n:=31) ⟨w0,M,H,(100170,⟨.slice A11 x8.length c12,9,1,x8.length,x8.flatMap (fun x : ByteArray=>[Value.string x])⟩)::(100120,⟨.slice A4 x1.length c5,9,1,x1.length,x1.flatMap (fun x : ByteArray=>[Value.string x])⟩)::R,φ⟩ [] #[false,false,false,false,false,false,false,false,false,false,false,false,false,false,false,false,false,false,false,false,false,false,false,false,false,false,false,false,false,false,false] (fun W h=>h.phi (fun W hφ=>hφ)) mixed rfl rfl<|ga_v (i:=0) (bz 31 1) rfl (by kernel_rfl) (fun _ _ _ _ h=>h) rfl (r_move)<|ga_r (i:=1) (bz 31 3) rfl (by kernel_rfl) (by decide) rfl (r_move)<|ga_r (i:=2) (bz 31 7) rfl (by kernel_rfl) (by decide) rfl (r_lenL Try.underlying22 rfl)<|ga_r (i:=3) (bz 31 15) rfl (by kernel_rfl) (by decide) rfl (r_lss rfl rfl)<|ga_r (i:=4) (bz 31 31) rfl (by kernel_rfl) (by decide) rfl (r_move) ?_
   refine ga_if (t:=30) rfl (fun h226=>?_) (fun h226=>?_)
   ·
    replace hm:=ite_t hm (of_decide_eq_true h226)
    refine ga_do (i:=5) (bz 31 63) rfl (by kernel_rfl) (fun _ _ _ _ h=>h) rfl rfl rfl rfl rfl h226 (r_move)<|ga_rG (i:=6) (bz 31 127) rfl (by kernel_rfl) (by decide) rfl rfl rfl rfl rfl h226 (r_move)<|ga_rG (i:=7) (bz 31 255) rfl (by kernel_rfl) (by decide) rfl rfl rfl rfl rfl h226 (r_lenL Try.underlying22 rfl)<|ga_rG (i:=8) (bz 31 511) rfl (by kernel_rfl) (by decide) rfl rfl rfl rfl rfl h226 (r_lss rfl rfl)<|ga_r (i:=9) (bz 31 1023) rfl (by kernel_rfl) (by decide) rfl (r_pick1 rfl h226)<|ga_r (i:=10) (bz 31 2047) rfl (by kernel_rfl) (by decide) rfl (r_move) ?_
    refine ga_if (t:=36) rfl (fun h227=>?_) (fun h227=>?_)
    ·
     replace hm:=ite_t hm (of_decide_eq_true h227)
     refine ga_do (i:=11) (bz 31 4095) rfl (by kernel_rfl) (fun _ _ _ _ h=>h) rfl rfl rfl rfl rfl h227 (r_move)<|ga_do (i:=12) (bz 31 8191) rfl (by kernel_rfl) (fun _ _ _ _ h=>h) rfl rfl rfl rfl rfl h227 (r_move)<|ga_do (i:=13) (bz 31 16383) rfl (by kernel_rfl) (fun _ _ _ _ h=>h) rfl rfl rfl rfl rfl h227 (r_lenL Try.underlying22 rfl)<|ga_do (i:=14) (bz 31 32767) rfl (by kernel_rfl) (fun _ _ _ _ h=>h) rfl rfl rfl rfl rfl h227 (r_sub rfl rfl rfl)<|ga_do (i:=15) (bz 31 65535) rfl (by kernel_rfl) (fun _ _ _ _ h=>h) rfl rfl rfl rfl rfl h227 (r_move)<|ga_do (i:=16) (bz 31 131071) rfl (by kernel_rfl) (fun _ _ _ _ h=>h) rfl rfl rfl rfl rfl h227 (r_sub rfl rfl rfl) ?_
     replace hm:=bnd hm
     obtain ⟨x228,hx228,hm⟩:=hm
     refine ga_know _ (fun W hS=>cl_at (p:=(Sta.ok ⟨w0,M,H,(100170,⟨.slice A11 x8.length c12,9,1,x8.length,x8.flatMap (fun x : ByteArray=>[Value.string x])⟩)::(100120,⟨.slice A4 x1.length c5,9,1,x1.length,x1.flatMap (fun x : ByteArray=>[Value.string x])⟩)::R,φ⟩)) (sz:=1) (fun _=>rfl) (by decide) (hS.phi (fun W hφ=>hφ)) (fun W hS=>rowCl (S:=⟨w0,M,H,(100170,⟨.slice A11 x8.length c12,9,1,x8.length,x8.flatMap (fun x : ByteArray=>[Value.string x])⟩)::(100120,⟨.slice A4 x1.length c5,9,1,x1.length,x1.flatMap (fun x : ByteArray=>[Value.string x])⟩)::R,φ⟩) (tag:=100120) rfl W hS) hx228) ?_
     rintro ⟨ad229,hA231,f230⟩
     refine ga_do (i:=17) (bz 31 262143) rfl (by kernel_rfl) (fun _ _ _ _ h=>h) rfl rfl rfl rfl rfl h227 (r_ix Try.underlying22 Try.sizeOf9 rfl hA231 rfl hx228)<|ga_do (i:=18) (bz 31 524287) rfl (by kernel_rfl) (fun _ _ _ _ h=>h) rfl rfl rfl rfl rfl h227 (r_ld rfl Try.isAgg9 (fun W hS=>Cl.head (f230 W hS)))<|ga_do (i:=20) (bz 31 1572863) rfl (by kernel_rfl) (fun _ _ _ _ h=>h) rfl rfl rfl rfl rfl h227 (r_move)<|ga_do (i:=21) (bz 31 3670015) rfl (by kernel_rfl) (fun _ _ _ _ h=>h) rfl rfl rfl rfl rfl h227 (r_move)<|ga_do (i:=22) (bz 31 7864319) rfl (by kernel_rfl) (fun _ _ _ _ h=>h) rfl rfl rfl rfl rfl h227 (r_lenL Try.underlying22 rfl)<|ga_do (i:=23) (bz 31 16252927) rfl (by kernel_rfl) (fun _ _ _ _ h=>h) rfl rfl rfl rfl rfl h227 (r_sub rfl rfl rfl)<|ga_do (i:=24) (bz 31 33030143) rfl (by kernel_rfl) (fun _ _ _ _ h=>h) rfl rfl rfl rfl rfl h227 (r_move)<|ga_do (i:=25) (bz 31 66584575) rfl (by kernel_rfl) (fun _ _ _ _ h=>h) rfl rfl rfl rfl rfl h227 (r_sub rfl rfl rfl) ?_
     replace hm:=bnd hm
     obtain ⟨x232,hx232,hm⟩:=hm
     refine ga_know _ (fun W hS=>cl_at (p:=(Sta.ok ⟨w0,M,H,(100170,⟨.slice A11 x8.length c12,9,1,x8.length,x8.flatMap (fun x : ByteArray=>[Value.string x])⟩)::(100120,⟨.slice A4 x1.length c5,9,1,x1.length,x1.flatMap (fun x : ByteArray=>[Value.string x])⟩)::R,φ⟩)) (sz:=1) (fun _=>rfl) (by decide) (hS.phi (fun W hφ=>hφ)) (fun W hS=>rowCl (S:=⟨w0,M,H,(100170,⟨.slice A11 x8.length c12,9,1,x8.length,x8.flatMap (fun x : ByteArray=>[Value.string x])⟩)::(100120,⟨.slice A4 x1.length c5,9,1,x1.length,x1.flatMap (fun x : ByteArray=>[Value.string x])⟩)::R,φ⟩) (tag:=100170) rfl W hS) hx232) ?_
     rintro ⟨ad233,hA235,f234⟩
     refine ga_do (i:=26) (bz 31 133693439) rfl (by kernel_rfl) (fun _ _ _ _ h=>h) rfl rfl rfl rfl rfl h227 (r_ix Try.underlying22 Try.sizeOf9 rfl hA235 rfl hx232)<|ga_do (i:=27) (bz 31 267911167) rfl (by kernel_rfl) (fun _ _ _ _ h=>h) rfl rfl rfl rfl rfl h227 (r_ld rfl Try.isAgg9 (fun W hS=>Cl.head (f234 W hS))) ?_
     replace hm:=bnd hm
     obtain ⟨x236,hx237,hm⟩:=hm
     refine ga_cnG (first:=#[]) (i:=19) (bz 31 268435455) rfl (by kernel_rfl) (by decide) rfl rfl rfl rfl h227  ⟨w0,M,_,_,φ⟩ (fun _ h=>h) Try.call72 rfl rfl rfl (c_ref03_Lower x228 _ hx237) (fun _ W _ h=>h.phi (fun W hφ=>hφ)) (fun _ _=>?_)
     replace hm:=bnd hm
     obtain ⟨x238,hx239,hm⟩:=hm
     refine ga_cnG (first:=#[]) (i:=28) (bz 31 536870911) rfl (by kernel_rfl) (by decide) rfl rfl rfl rfl h227  ⟨w0,M,_,_,φ⟩ (fun _ h=>h) Try.call72 rfl rfl rfl (c_ref03_Lower x232 _ hx239) (fun _ W _ h=>h.phi (fun W hφ=>hφ)) (fun _ _=>?_)
     refine ga_rG (i:=29) (bz 31 1073741823) rfl (by kernel_rfl) (by decide) rfl rfl rfl rfl rfl h227 (r_eqlT rfl rfl)<|ga_r (i:=30) (bz 31 2147483647) rfl (by kernel_rfl) (by decide) rfl (r_pick1 rfl h227)<|ga_done (by kernel_rfl)<|d_then ?_
     refine c_flat [(5,.slice A4 x1.length c5),(7,.slice A11 x8.length c12),(9,.int .i64 i152),(56,.bool (decide (x236 = x238)))] ⟨rfl,rfl,rfl,rfl,trivial⟩ (fun u=>?_)
     refine c_cond rfl (fun h240=>?_) (fun h240=>?_)
     ·
      replace hm:=ite_t hm (of_decide_eq_true h240)
      refine c_skip<|d_then<|c_block<|c_region<|g_v rfl r_move<|g_v rfl (r_add rfl rfl rfl)<|g_v rfl r_assign<|g_nil<|d_normal_block ?_
      obtain ⟨n241,hn241,hlp⟩:=nx_inl hm hnx2
      exact d_round (n241,w64 (i152 + 1)) hlp hn241 ⟨rfl,rfl,rfl,trivial⟩ (fun W h=>h.phi (fun W hφ=>hφ))
     replace hm:=ite_f hm (of_decide_eq_false h240)
     refine c_exit<|d_exit_then<|d_exit_then<|d_exit_block ?_
     replace hm:=nx_out (C:=(fun e : Int=>m_ref03_Shared_j1 e = some r)) hm hnx2 hr2
     exact d_round i152 hm Nat.zero_lt_one ⟨rfl,trivial⟩ (fun W h=>((h.dropR (t:=100170) rfl).dropR (t:=100120) rfl).phi (fun W hφ=>hφ))
    replace hm:=ite_f hm (of_decide_eq_false h227)
    refine ga_no (i:=11) (bz 31 4095) rfl (by kernel_rfl) (fun _ _ _ _ h=>h) rfl rfl rfl rfl rfl h227<|ga_no (i:=12) (bz 31 8191) rfl (by kernel_rfl) (fun _ _ _ _ h=>h) rfl rfl rfl rfl rfl h227<|ga_no (i:=13) (bz 31 16383) rfl (by kernel_rfl) (fun _ _ _ _ h=>h) rfl rfl rfl rfl rfl h227<|ga_no (i:=14) (bz 31 32767) rfl (by kernel_rfl) (fun _ _ _ _ h=>h) rfl rfl rfl rfl rfl h227<|ga_no (i:=15) (bz 31 65535) rfl (by kernel_rfl) (fun _ _ _ _ h=>h) rfl rfl rfl rfl rfl h227<|ga_no (i:=16) (bz 31 131071) rfl (by kernel_rfl) (fun _ _ _ _ h=>h) rfl rfl rfl rfl rfl h227<|ga_no (i:=17) (bz 31 262143) rfl (by kernel_rfl) (fun _ _ _ _ h=>h) rfl rfl rfl rfl rfl h227<|ga_no (i:=18) (bz 31 524287) rfl (by kernel_rfl) (fun _ _ _ _ h=>h) rfl rfl rfl rfl rfl h227<|ga_no (i:=19) (bz 31 1048575) rfl (by kernel_rfl) (fun _ _ _ _ h=>h) rfl rfl rfl rfl rfl h227<|ga_no (i:=20) (bz 31 2097151) rfl (by kernel_rfl) (fun _ _ _ _ h=>h) rfl rfl rfl rfl rfl h227 ?_
    refine ga_no (i:=21) (bz 31 4194303) rfl (by kernel_rfl) (fun _ _ _ _ h=>h) rfl rfl rfl rfl rfl h227<|ga_no (i:=22) (bz 31 8388607) rfl (by kernel_rfl) (fun _ _ _ _ h=>h) rfl rfl rfl rfl rfl h227<|ga_no (i:=23) (bz 31 16777215) rfl (by kernel_rfl) (fun _ _ _ _ h=>h) rfl rfl rfl rfl rfl h227<|ga_no (i:=24) (bz 31 33554431) rfl (by kernel_rfl) (fun _ _ _ _ h=>h) rfl rfl rfl rfl rfl h227<|ga_no (i:=25) (bz 31 67108863) rfl (by kernel_rfl) (fun _ _ _ _ h=>h) rfl rfl rfl rfl rfl h227<|ga_no (i:=26) (bz 31 134217727) rfl (by kernel_rfl) (fun _ _ _ _ h=>h) rfl rfl rfl rfl rfl h227<|ga_no (i:=27) (bz 31 268435455) rfl (by kernel_rfl) (fun _ _ _ _ h=>h) rfl rfl rfl rfl rfl h227<|ga_no (i:=28) (bz 31 536870911) rfl (by kernel_rfl) (fun _ _ _ _ h=>h) rfl rfl rfl rfl rfl h227<|ga_no (i:=29) (bz 31 1073741823) rfl (by kernel_rfl) (fun _ _ _ _ h=>h) rfl rfl rfl rfl rfl h227<|ga_r (i:=30) (bz 31 2147483647) rfl (by kernel_rfl) (by decide) rfl (r_pick0 rfl h227) ?_
    refine ga_done (by kernel_rfl)<|d_then ?_
    refine c_flat [(5,.slice A4 x1.length c5),(7,.slice A11 x8.length c12),(9,.int .i64 i152),(56,.bool false)] ⟨rfl,rfl,rfl,rfl,trivial⟩ (fun u=>?_)
    refine c_cond0 rfl rfl<|c_exit<|d_exit_then<|d_exit_then<|d_exit_block ?_
    replace hm:=nx_out (C:=(fun e : Int=>m_ref03_Shared_j1 e = some r)) hm hnx2 hr2
    exact d_round i152 hm Nat.zero_lt_one ⟨rfl,trivial⟩ (fun W h=>((h.dropR (t:=100170) rfl).dropR (t:=100120) rfl).phi (fun W hφ=>hφ))
   replace hm:=ite_f hm (of_decide_eq_false h226)
   refine ga_no (i:=5) (bz 31 63) rfl (by kernel_rfl) (fun _ _ _ _ h=>h) rfl rfl rfl rfl rfl h226<|ga_no (i:=6) (bz 31 127) rfl (by kernel_rfl) (fun _ _ _ _ h=>h) rfl rfl rfl rfl rfl h226<|ga_no (i:=7) (bz 31 255) rfl (by kernel_rfl) (fun _ _ _ _ h=>h) rfl rfl rfl rfl rfl h226<|ga_no (i:=8) (bz 31 511) rfl (by kernel_rfl) (fun _ _ _ _ h=>h) rfl rfl rfl rfl rfl h226<|ga_r (i:=9) (bz 31 1023) rfl (by kernel_rfl) (by decide) rfl (r_pick0 rfl h226)<|ga_r (i:=10) (bz 31 2047) rfl (by kernel_rfl) (by decide) rfl (r_move)<|ga_no (i:=11) (bz 31 4095) rfl (by kernel_rfl) (fun _ _ _ _ h=>h) rfl rfl rfl rfl rfl rfl<|ga_no (i:=12) (bz 31 8191) rfl (by kernel_rfl) (fun _ _ _ _ h=>h) rfl rfl rfl rfl rfl rfl<|ga_no (i:=13) (bz 31 16383) rfl (by kernel_rfl) (fun _ _ _ _ h=>h) rfl rfl rfl rfl rfl rfl<|ga_no (i:=14) (bz 31 32767) rfl (by kernel_rfl) (fun _ _ _ _ h=>h) rfl rfl rfl rfl rfl rfl ?_
   refine ga_no (i:=15) (bz 31 65535) rfl (by kernel_rfl) (fun _ _ _ _ h=>h) rfl rfl rfl rfl rfl rfl<|ga_no (i:=16) (bz 31 131071) rfl (by kernel_rfl) (fun _ _ _ _ h=>h) rfl rfl rfl rfl rfl rfl<|ga_no (i:=17) (bz 31 262143) rfl (by kernel_rfl) (fun _ _ _ _ h=>h) rfl rfl rfl rfl rfl rfl<|ga_no (i:=18) (bz 31 524287) rfl (by kernel_rfl) (fun _ _ _ _ h=>h) rfl rfl rfl rfl rfl rfl<|ga_no (i:=19) (bz 31 1048575) rfl (by kernel_rfl) (fun _ _ _ _ h=>h) rfl rfl rfl rfl rfl rfl<|ga_no (i:=20) (bz 31 2097151) rfl (by kernel_rfl) (fun _ _ _ _ h=>h) rfl rfl rfl rfl rfl rfl<|ga_no (i:=21) (bz 31 4194303) rfl (by kernel_rfl) (fun _ _ _ _ h=>h) rfl rfl rfl rfl rfl rfl<|ga_no (i:=22) (bz 31 8388607) rfl (by kernel_rfl) (fun _ _ _ _ h=>h) rfl rfl rfl rfl rfl rfl<|ga_no (i:=23) (bz 31 16777215) rfl (by kernel_rfl) (fun _ _ _ _ h=>h) rfl rfl rfl rfl rfl rfl<|ga_no (i:=24) (bz 31 33554431) rfl (by kernel_rfl) (fun _ _ _ _ h=>h) rfl rfl rfl rfl rfl rfl ?_
   refine ga_no (i:=25) (bz 31 67108863) rfl (by kernel_rfl) (fun _ _ _ _ h=>h) rfl rfl rfl rfl rfl rfl<|ga_no (i:=26) (bz 31 134217727) rfl (by kernel_rfl) (fun _ _ _ _ h=>h) rfl rfl rfl rfl rfl rfl<|ga_no (i:=27) (bz 31 268435455) rfl (by kernel_rfl) (fun _ _ _ _ h=>h) rfl rfl rfl rfl rfl rfl<|ga_no (i:=28) (bz 31 536870911) rfl (by kernel_rfl) (fun _ _ _ _ h=>h) rfl rfl rfl rfl rfl rfl<|ga_no (i:=29) (bz 31 1073741823) rfl (by kernel_rfl) (fun _ _ _ _ h=>h) rfl rfl rfl rfl rfl rfl<|ga_r (i:=30) (bz 31 2147483647) rfl (by kernel_rfl) (by decide) rfl (r_pick0 rfl rfl)<|ga_done (by kernel_rfl)<|d_then<|c_cond0 rfl rfl<|c_exit ?_
   refine d_exit_then<|d_exit_then<|d_exit_block ?_
   replace hm:=nx_out (C:=(fun e : Int=>m_ref03_Shared_j1 e = some r)) hm hnx2 hr2
   exact d_round i152 hm Nat.zero_lt_one ⟨rfl,trivial⟩ (fun W h=>((h.dropR (t:=100170) rfl).dropR (t:=100120) rfl).phi (fun W hφ=>hφ))
  unfold m_ref03_Shared_j1 at hm
  refine d_flat [(9,.int .i64 i107)] ⟨rfl,trivial⟩ (fun u=>?_)
  refine d_sta ⟨w0,M,H,R,φ⟩ (fun _ h=>h)<|d_then<|c_seq<|c_region<|g_v rfl r_move<|g_v rfl r_assign<|g_nil<|d_then<|c_ret ?_
  cases hm
  exact d_retC () Try.results40 (res_tmp (res_nil rfl)) trivial (fun W h=>ok_pre (H1:=[]) (R1:=[]) h (fun W hφ=>hφ)) (.inr rfl)
 replace hm:=ite_t hm (of_decide_eq_true h15)
 refine g_no rfl rfl rfl rfl rfl h15<|g_v rfl (r_pick1 rfl h15)<|g_nil<|d_then<|c_cond1 rfl rfl<|c_seq<|c_region<|g_v rfl r_assign<|g_nil<|d_then ?_
 refine c_ret<|d_ret_then ?_
 cases hm
 exact d_retC () Try.results40 (res_tmp (res_nil rfl)) trivial (fun W h=>ok_pre (H1:=[]) (R1:=[_,_]) h (fun W hφ=>hφ)) (.inr rfl)
noncomputable def m_ref03_Depth (p0 : ByteArray) : Option Int:=
  (m_ref03_Labels p0).bind fun (z7 : (List ByteArray)×Int)=>
  if z7.2 ≠ 0 then
    some (-1)
  else
    some (z7.1.length : Int)
theorem c_ref03_Depth {w0 : World} {M : Nat→Prop} {H : List (Nat×Nat×Obj)} {R : List (Nat×Row)} {φ : World→Prop} (p0 : ByteArray) (r : Int) (hm : m_ref03_Depth p0 = some r) :
    Cn Try.prog 41 #[.string p0] ⟨w0,M,H,R,φ⟩ (fun x : Unit=>.int .i64 r) (fun x=>True) (fun x=>⟨w0,M,H,R,φ⟩):=by
 unfold m_ref03_Depth at hm
 refine cn_intro (fn:=Try.f41) (N:=14) Try.func41 rfl Try.ntmps41 rfl<|c_seq<|c_region<|g_v rfl r_assign<|g_nil<|d_then<|c_seq<|c_region<|g_v rfl r_move ?_
 replace hm:=bnd hm
 obtain ⟨⟨x1,x2⟩,hx3,hm⟩:=hm
 refine g_cn ⟨w0,M,_,_,φ⟩ (fun _ h=>h) Try.call71 rfl rfl (c_ref03_Labels p0 _ hx3) (fun ⟨A4,c5⟩ hc5=>?_)
 refine g_sta _ (fun W h=>(ok_frontR (t:=2000) (t':=100070) h rfl))<|g_v rfl r_move<|g_v rfl (r_extract rfl rfl)<|g_v rfl (r_extract rfl rfl)<|g_v rfl r_assign<|g_v rfl r_assign<|g_nil<|d_then<|c_seq<|c_seq ?_
 refine c_region<|g_v rfl r_move<|g_v rfl (r_neq rfl rfl)<|g_nil<|d_then ?_
 refine c_flat [(3,.slice A4 x1.length c5),(11,.bool (decide (x2 ≠ 0)))] ⟨rfl,rfl,trivial⟩ (fun u=>?_)
 refine c_sta ⟨w0,M,H,(100070,⟨.slice A4 x1.length c5,9,1,x1.length,x1.flatMap (fun x : ByteArray=>[Value.string x])⟩)::R,φ⟩ (fun _ h=>h) ?_
 refine c_cond rfl (fun h8=>?_) (fun h8=>?_)
 ·
  replace hm:=ite_t hm (of_decide_eq_true h8)
  refine c_seq<|c_region<|g_v rfl r_assign<|g_nil<|d_then<|c_ret<|d_ret_then ?_
  cases hm
  exact d_retC () Try.results41 (res_tmp (res_nil rfl)) trivial (fun W h=>ok_pre (H1:=[]) (R1:=[_]) h (fun W hφ=>hφ)) (.inr rfl)
 replace hm:=ite_f hm (of_decide_eq_false h8)
 refine c_skip<|d_then<|c_seq<|c_region<|g_v rfl r_move<|g_v rfl (r_lenL Try.underlying22 rfl)<|g_v rfl r_assign<|g_nil<|d_then<|c_ret ?_
 cases hm
 exact d_retC () Try.results41 (res_tmp (res_nil rfl)) trivial (fun W h=>ok_pre (H1:=[]) (R1:=[_]) h (fun W hφ=>hφ)) (.inr rfl)
noncomputable def m_ref03_Same (p0 : ByteArray) (p1 : ByteArray) : Option Bool:=
  (m_ref03_Shared p0 p1).bind fun x1=>
  if 0 ≤ x1 then
    (m_ref03_Depth p0).bind fun x4=>
    if x1 = x4 then
      (m_ref03_Depth p1).bind fun x7=>
      some (decide (x1 = x7))
    else
      some false
  else
    some false
theorem c_ref03_Same {w0 : World} {M : Nat→Prop} {H : List (Nat×Nat×Obj)} {R : List (Nat×Row)} {φ : World→Prop} (p0 : ByteArray) (p1 : ByteArray) (r : Bool) (hm : m_ref03_Same p0 p1 = some r) :
    Cn Try.prog 13 #[.string p0,.string p1] ⟨w0,M,H,R,φ⟩ (fun x : Unit=>.bool r) (fun x=>True) (fun x=>⟨w0,M,H,R,φ⟩):=by
 unfold m_ref03_Same at hm
 refine cn_intro (fn:=Try.f13) (N:=23) Try.func13 rfl Try.ntmps13 rfl<|c_seq<|c_region<|g_v rfl r_assign<|g_nil<|d_then<|c_seq<|c_region<|g_v rfl r_move<|g_v rfl r_move ?_
 replace hm:=bnd hm
 obtain ⟨x1,hx2,hm⟩:=hm
 refine g_cn ⟨w0,M,_,_,φ⟩ (fun _ h=>h) Try.call40 rfl rfl (c_ref03_Shared p0 p1 _ hx2) (fun _ _=>?_)
 refine g_v rfl r_assign<|g_nil<|d_then<|c_seq<|c_region<|g_v rfl r_move<|g_v rfl (r_geq rfl rfl)<|g_v rfl r_move ?_
 refine g_if rfl rfl rfl rfl rfl (fun h3=>?_) (fun h3=>?_)
 ·
  replace hm:=ite_t hm (of_decide_eq_true h3)
  refine g_v rfl r_move<|g_do rfl rfl rfl rfl rfl h3<|g_v rfl r_move<|g_do rfl rfl rfl rfl rfl h3 ?_
  replace hm:=bnd hm
  obtain ⟨x4,hx5,hm⟩:=hm
  refine g_cn ⟨w0,M,_,_,φ⟩ (fun _ h=>h) Try.call41 rfl rfl (c_ref03_Depth p0 _ hx5) (fun _ _=>?_)
  refine g_do rfl rfl rfl rfl rfl h3<|g_v rfl (r_eql rfl rfl)<|g_v rfl (r_pick1 rfl h3)<|g_v rfl r_move ?_
  refine g_if rfl rfl rfl rfl rfl (fun h6=>?_) (fun h6=>?_)
  ·
   replace hm:=ite_t hm (of_decide_eq_true h6)
   refine g_v rfl r_move<|g_do rfl rfl rfl rfl rfl h6<|g_v rfl r_move<|g_do rfl rfl rfl rfl rfl h6 ?_
   replace hm:=bnd hm
   obtain ⟨x7,hx8,hm⟩:=hm
   refine g_cn ⟨w0,M,_,_,φ⟩ (fun _ h=>h) Try.call41 rfl rfl (c_ref03_Depth p1 _ hx8) (fun _ _=>?_)
   refine g_do rfl rfl rfl rfl rfl h6<|g_v rfl (r_eql rfl rfl)<|g_v rfl (r_pick1 rfl h6)<|g_v rfl r_assign<|g_nil<|d_then ?_
   refine c_flat [(4,.bool (decide (x1 = x7)))] ⟨rfl,trivial⟩ (fun u=>?_)
   refine c_sta ⟨w0,M,H,R,φ⟩ (fun _ h=>h)<|c_ret ?_
   cases hm
   exact d_retC () Try.results13 (res_tmp (res_nil rfl)) trivial (fun W h=>ok_pre (H1:=[]) (R1:=[]) h (fun W hφ=>hφ)) (.inr rfl)
  replace hm:=ite_f hm (of_decide_eq_false h6)
  iterate 3 refine g_no rfl rfl rfl rfl rfl h6 ?_
  refine g_v rfl (r_pick0 rfl h6)<|g_v rfl r_assign<|g_nil<|d_then ?_
  refine c_flat [(4,.bool false)] ⟨rfl,trivial⟩ (fun u=>?_)
  refine c_sta ⟨w0,M,H,R,φ⟩ (fun _ h=>h)<|c_ret ?_
  cases hm
  exact d_retC () Try.results13 (res_tmp (res_nil rfl)) trivial (fun W h=>ok_pre (H1:=[]) (R1:=[]) h (fun W hφ=>hφ)) (.inr rfl)
 replace hm:=ite_f hm (of_decide_eq_false h3)
 iterate 3 refine g_no rfl rfl rfl rfl rfl h3 ?_
 refine g_v rfl (r_pick0 rfl h3)<|g_v rfl r_move ?_
 iterate 4 refine g_no rfl rfl rfl rfl rfl rfl ?_
 refine g_v rfl (r_pick0 rfl rfl)<|g_v rfl r_assign<|g_nil<|d_then ?_
 refine c_flat [(4,.bool false)] ⟨rfl,trivial⟩ (fun u=>?_)
 refine c_sta ⟨w0,M,H,R,φ⟩ (fun _ h=>h)<|c_ret ?_
 cases hm
 exact d_retC () Try.results13 (res_tmp (res_nil rfl)) trivial (fun W h=>ok_pre (H1:=[]) (R1:=[]) h (fun W hφ=>hφ)) (.inr rfl)
noncomputable def m_law13_ConfAnchors_j1 (x1 : Bool) : Option Bool:=
  some x1
noncomputable def m_law13_ConfAnchors_j8 (i843 : Int) (x1242 : GConf) : Option ((Int×(List Int)×(List ByteArray)×(List GAnchor)×Int×(List GFlush)) ⊕ (Unit ⊕ Bool)):=
  some (.inl (w64 (i843 + 1),x1242.fRing,x1242.fHints,x1242.fAnchors,x1242.fEpoch,x1242.fFlushes))
noncomputable def m_law13_ConfAnchors_j7 (b1320 : Bool) (i843 : Int) (x1242 : GConf) (s1241 : ByteArray) (s1391 : ByteArray) : Option ((Int×(List Int)×(List ByteArray)×(List GAnchor)×Int×(List GFlush)) ⊕ (Unit ⊕ Bool)):=
  if b1320 = true then
    m_law13_ConfAnchors_j8 i843 x1242
  else
    if s1391 = s1241 then
      m_law13_ConfAnchors_j8 i843 x1242
    else
      some (.inr (.inr false))
noncomputable def m_law13_ConfAnchors_s9 (x1242 : GConf) (s1240 : ByteArray) (s1428 : ByteArray) (i1429 : Int) : Option ((ByteArray×Int) ⊕ ByteArray):=
  if i1429 < (x1242.fAnchors.length : Int) then
    (at_ x1242.fAnchors i1429).bind fun x1477=>
    (m_ref03_Same x1477.fName s1240).bind fun x1482=>
    if x1482 = true then
      (at_ x1242.fAnchors i1429).bind fun x1485=>
      (sadd s1428 x1485.fText).bind fun s1490=>
      some (.inl (s1490,w64 (i1429 + 1)))
    else
      some (.inl (s1428,w64 (i1429 + 1)))
  else
    some (.inr s1428)
noncomputable def m_law13_ConfAnchors_j6 (x1242 : GConf) (s1240 : ByteArray) (b1320 : Bool) (i843 : Int) (s1241 : ByteArray) : Option ((Int×(List Int)×(List ByteArray)×(List GAnchor)×Int×(List GFlush)) ⊕ (Unit ⊕ Bool)):=
  (loop (fun s=>m_law13_ConfAnchors_s9 x1242 s1240 s.1 s.2) ((⟨#[]⟩ : ByteArray),0)).bind fun e=>m_law13_ConfAnchors_j7 b1320 i843 x1242 s1241 e
noncomputable def m_law13_ConfAnchors_j5 (x1243 : Int) (x1242 : GConf) (s1240 : ByteArray) (i843 : Int) (s1241 : ByteArray) (b1320 : Bool) : Option ((Int×(List Int)×(List ByteArray)×(List GAnchor)×Int×(List GFlush)) ⊕ (Unit ⊕ Bool)):=
  if (!((decide (x1243 = 15)) == b1320)) = true then
    some (.inr (.inr false))
  else
    if b1320 = true then
      if 16 < (x1242.fAnchors.length : Int) then
        some (.inr (.inr false))
      else
        m_law13_ConfAnchors_j6 x1242 s1240 b1320 i843 s1241
    else
      if x1243 ≠ 0 then
        some (.inr (.inr false))
      else
        if 16 < (x1242.fAnchors.length : Int) then
          some (.inr (.inr false))
        else
          m_law13_ConfAnchors_j6 x1242 s1240 b1320 i843 s1241
noncomputable def m_law13_ConfAnchors_j4 (l852 : List GAnchor) (x1243 : Int) (x1242 : GConf) (s1240 : ByteArray) (i843 : Int) (s1241 : ByteArray) (b1317 : Bool) : Option ((Int×(List Int)×(List ByteArray)×(List GAnchor)×Int×(List GFlush)) ⊕ (Unit ⊕ Bool)):=
  if (l852.length : Int) = 16 then
    if b1317 = true then
      m_law13_ConfAnchors_j5 x1243 x1242 s1240 i843 s1241 false
    else
      m_law13_ConfAnchors_j5 x1243 x1242 s1240 i843 s1241 (!(decide (s1241 = (⟨#[]⟩ : ByteArray))))
  else
    m_law13_ConfAnchors_j5 x1243 x1242 s1240 i843 s1241 false
noncomputable def m_law13_ConfAnchors_s10 (l852 : List GAnchor) (s1240 : ByteArray) (b1524 : Bool) (i1525 : Int) : Option ((Bool×Int) ⊕ Bool):=
  if i1525 < (l852.length : Int) then
    (at_ l852 i1525).bind fun x1567=>
    (m_ref03_Same x1567.fName s1240).bind fun x1572=>
    if b1524 = true then
      some (.inl (true,w64 (i1525 + 1)))
    else
      some (.inl (x1572,w64 (i1525 + 1)))
  else
    some (.inr b1524)
noncomputable def m_law13_ConfAnchors_j3 (l844 : List Int) (l848 : List ByteArray) (l852 : List GAnchor) (i856 : Int) (l857 : List GFlush) (i843 : Int) (s1240 : ByteArray) (s1241 : ByteArray) : Option ((Int×(List Int)×(List ByteArray)×(List GAnchor)×Int×(List GFlush)) ⊕ (Unit ⊕ Bool)):=
  (m_conf_Apply_k4 (⟨l844,l848,l852,i856,l857⟩ : GConf) 0 s1240 s1241 (⟨#[]⟩ : ByteArray) ([] : List ByteArray)).bind fun (z1258 : GConf×Int)=>
  (m_ref03_Check s1240).bind fun x1260=>
  if x1260 ≠ 0 then
    if z1258.2 ≠ 1 then
      some (.inr (.inr false))
    else
      some (.inl (w64 (i843 + 1),l844,l848,l852,i856,l857))
  else
    (loop (fun s=>m_law13_ConfAnchors_s10 l852 s1240 s.1 s.2) (false,0)).bind fun e=>m_law13_ConfAnchors_j4 l852 z1258.2 z1258.1 s1240 i843 s1241 e
noncomputable def m_law13_ConfAnchors_s2 (p0 : List GAnchor) (i843 : Int) (l844 : List Int) (l848 : List ByteArray) (l852 : List GAnchor) (i856 : Int) (l857 : List GFlush) : Option ((Int×(List Int)×(List ByteArray)×(List GAnchor)×Int×(List GFlush)) ⊕ (Unit ⊕ Bool)):=
  if i843 < (p0.length : Int) then
    if i843 < 60 then
      (at_ p0 i843).bind fun x1617=>
      (at_ p0 i843).bind fun x1622=>
      (m_law13_short x1617.fName 60).bind fun x1627=>
      (m_law13_short x1622.fText 60).bind fun x1630=>
      m_law13_ConfAnchors_j3 l844 l848 l852 i856 l857 i843 x1627 x1630
    else
      some (.inr (.inl ()))
  else
    some (.inr (.inl ()))
noncomputable def m_law13_ConfAnchors (p0 : List GAnchor) : Option Bool:=
  (m_law13_awake).bind fun x1=>
  (loop (fun s=>m_law13_ConfAnchors_s2 p0 s.1 s.2.1 s.2.2.1 s.2.2.2.1 s.2.2.2.2.1 s.2.2.2.2.2) (0,([] : List Int),([] : List ByteArray),([] : List GAnchor),0,([] : List GFlush))).bind fun e=>Sum.elim (fun e=>m_law13_ConfAnchors_j1 x1) (fun x=>some x) e
theorem c_law13_ConfAnchors {w0 : World} {M : Nat→Prop} {H : List (Nat×Nat×Obj)} {R : List (Nat×Row)} {φ : World→Prop} (p0 : List GAnchor) (Ap0_0 : Option Addr) (cp0_0 : Nat) (hcp0_0 : p0.length ≤ cp0_0) (fp0_0 : ∀ W,(Sta.mk w0 M H R φ).ok W→Cl W Ap0_0 (p0.flatMap GAnchor.enc)) (r : Bool) (hm : m_law13_ConfAnchors p0 = some r) :
    Cn Try.prog 5 #[.slice Ap0_0 p0.length cp0_0] ⟨w0,M,H,R,φ⟩ (fun x : Unit=>.bool r) (fun x=>True) (fun x=>⟨w0,M,H,R,φ⟩):=by
 unfold m_law13_ConfAnchors at hm
 refine cn_intro (fn:=Try.f5) (N:=142) Try.func5 rfl Try.ntmps5 rfl<|c_seq<|c_region<|g_v rfl r_assign<|g_nil<|d_then<|c_seq<|c_region ?_
 replace hm:=bnd hm
 obtain ⟨x1,hx2,hm⟩:=hm
 refine g_cn ⟨w0,M,_,_,φ⟩ (fun _ h=>h) Try.call7 rfl rfl (c_law13_awake  _ hx2) (fun _ _=>?_)
 refine g_v rfl r_assign<|g_nil<|d_then<|c_seq<|c_region ?_
 refine g_e rfl (e_alloc 100040 Try.zeroValue29) (fun g3 _=>?_)
 refine g_nil<|d_then<|c_seq ?_
 refine c_cut (ι:=Unit) [3] (fun _=>[]) (fun _=>⟨w0,M,H,R,φ⟩) (fun _=>m_law13_ConfAnchors_j1 x1 = some r) ?_ (fun _ u hm=>?_)
 ·
  refine c_seq<|c_region<|g_v rfl r_assign<|g_nil<|d_then<|c_block ?_
  replace hm:=bnd hm
  obtain ⟨out2,hl2,hr2⟩:=hm
  obtain ⟨n1135',hl2⟩:=loop_lp hl2
  refine c_loopU (ι:=Nat×Int×(List Int)×(List ByteArray)×(List GAnchor)×Int×(List GFlush)×Option Addr×Nat×Option Addr×Nat×Option Addr×Nat×Option Addr×Nat) [0,3,4,5] (fun ⟨n1135,i843,l844,l848,l852,i856,l857,A845,c846,A849,c850,A853,c854,A858,c859⟩=>[(5,.int .i64 i843)]) (fun ⟨n1135,i843,l844,l848,l852,i856,l857,A845,c846,A849,c850,A853,c854,A858,c859⟩=>⟨w0,M,(100040,g3,.cells #[.slice A845 l844.length c846,.slice A849 l848.length c850,.slice A853 l852.length c854,.int .i64 i856,.slice A858 l857.length c859] 29 (0,0))::H,R,fun W=>φ W∧Cl W A845 (l844.flatMap (fun x : Int=>[Value.int .i64 x]))∧Cl W A849 (l848.flatMap (fun x : ByteArray=>[Value.string x]))∧Cl W A853 (l852.flatMap GAnchor.enc)∧Cl W A858 (l857.flatMap GFlush.enc)⟩) (fun ⟨n1135,i843,l844,l848,l852,i856,l857,A845,c846,A849,c850,A853,c854,A858,c859⟩=>Lp (fun s=>m_law13_ConfAnchors_s2 p0 s.1 s.2.1 s.2.2.1 s.2.2.2.1 s.2.2.2.2.1 s.2.2.2.2.2) n1135 (i843,l844,l848,l852,i856,l857) out2∧l844.length ≤ c846∧l848.length ≤ c850∧l852.length ≤ c854∧l857.length ≤ c859) (fun ⟨n1135,i843,l844,l848,l852,i856,l857,A845,c846,A849,c850,A853,c854,A858,c859⟩=>n1135) (n1135',0,([] : List Int),([] : List ByteArray),([] : List GAnchor),0,([] : List GFlush),none,0,none,0,none,0,none,0) ⟨hl2,(Nat.le_refl 0),(Nat.le_refl 0),(Nat.le_refl 0),(Nat.le_refl 0)⟩ ⟨rfl,rfl,rfl,rfl,trivial⟩ (fun W h=>h.phi (fun W hφ=>⟨hφ,(fun W _=>Cl.nil _ _) W hφ,(fun W _=>Cl.nil _ _) W hφ,(fun W _=>Cl.nil _ _) W hφ,(fun W _=>Cl.nil _ _) W hφ⟩)) (fun ⟨n1135,i843,l844,l848,l852,i856,l857,A845,c846,A849,c850,A853,c854,A858,c859⟩ u ⟨hlp,hc846,hc850,hc854,hc859⟩=>?_)
  obtain ⟨o2,hm,hnx2⟩:=lp_step hlp
  clear hlp
  replace hm : m_law13_ConfAnchors_s2 p0 i843 l844 l848 l852 i856 l857 = some o2:=hm
  unfold m_law13_ConfAnchors_s2 at hm
  refine c_abs (fun φ1136 q1136'=>?_)
  have q1136 : ∀ W,φ1136 W→φ W:=fun W h=>(q1136' W h).1
  have f847:=fun (W : World) (h : φ1136 W)=>(q1136' W h).2.1
  have f851:=fun (W : World) (h : φ1136 W)=>(q1136' W h).2.2.1
  have f855:=fun (W : World) (h : φ1136 W)=>(q1136' W h).2.2.2.1
  have f860:=fun (W : World) (h : φ1136 W)=>(q1136' W h).2.2.2.2
  refine c_flat [(0,.slice Ap0_0 p0.length cp0_0),(3,.bool x1),(4,.pointer (some ⟨g3,0,none⟩)),(5,.int .i64 i843)] ⟨rfl,rfl,rfl,rfl,trivial⟩ (fun u=>?_)
  refine c_sta ⟨w0,M,(100040,g3,.cells #[.slice A845 l844.length c846,.slice A849 l848.length c850,.slice A853 l852.length c854,.int .i64 i856,.slice A858 l857.length c859] 29 (0,0))::H,R,φ1136⟩ (fun _ h=>h)<|c_seq<|c_seq<|c_region<|g_v rfl r_move<|g_v rfl r_move<|g_v rfl (r_lenL Try.underlying26 rfl)<|g_v rfl (r_lss rfl rfl)<|g_v rfl r_move ?_
  refine g_if rfl rfl rfl rfl rfl (fun h1137=>?_) (fun h1137=>?_)
  ·
   replace hm:=ite_t hm (of_decide_eq_true h1137)
   refine g_v rfl r_move<|g_do rfl rfl rfl rfl rfl h1137<|g_v rfl (r_lss rfl rfl)<|g_v rfl (r_pick1 rfl h1137)<|g_nil<|d_then ?_
   refine c_cond rfl (fun h1138=>?_) (fun h1138=>?_)
   ·
    replace hm:=ite_t hm (of_decide_eq_true h1138)
    refine c_skip<|d_then<|c_seq<|c_block<|c_seq ?_
    refine c_cut (ι:=ByteArray×ByteArray×Nat) [0,3,4,5,6] (fun ⟨s1240,s1241,g1239⟩=>[(6,.pointer (some ⟨g1239,0,none⟩))]) (fun ⟨s1240,s1241,g1239⟩=>⟨w0,M,(100060,g1239,.cells #[.string s1240,.string s1241] 43 (0,0))::(100040,g3,.cells #[.slice A845 l844.length c846,.slice A849 l848.length c850,.slice A853 l852.length c854,.int .i64 i856,.slice A858 l857.length c859] 29 (0,0))::H,R,φ1136⟩) (fun ⟨s1240,s1241,g1239⟩=>m_law13_ConfAnchors_j3 l844 l848 l852 i856 l857 i843 s1240 s1241 = some o2) ?_ (fun ⟨s1240,s1241,g1239⟩ u hm=>?_)
    ·
     refine ga_start (n:=15) ⟨w0,M,(100040,g3,.cells #[.slice A845 l844.length c846,.slice A849 l848.length c850,.slice A853 l852.length c854,.int .i64 i856,.slice A858 l857.length c859] 29 (0,0))::H,R,φ1136⟩ [14] #[false,false,false,false,false,false,false,false,false,false,false,false,false,false,false] (fun W h=>h.phi (fun W hφ=>hφ)) mixed rfl rfl<|ga_v (i:=0) (bz 15 1) rfl (by kernel_rfl) (fun _ _ _ _ h=>h) rfl (r_move)<|ga_v (i:=1) (bz 15 3) rfl (by kernel_rfl) (fun _ _ _ _ h=>h) rfl (r_move) ?_
     replace hm:=bnd hm
     obtain ⟨x1617,hx1617,hm⟩:=hm
     refine ga_know _ (fun W hS=>cl_at (p:=(Sta.mk w0 M H R φ).ok) (sz:=2) (fun _=>rfl) (by decide) (ok_pre (H1:=[_]) (R1:=[]) hS (fun W h=>(q1136 _ h))) fp0_0 hx1617) ?_
     rintro ⟨ad1618,hA1620,f1619⟩
     refine ga_v (i:=2) (bz 15 7) rfl (by kernel_rfl) (fun _ _ _ _ h=>h) rfl (r_ix Try.underlying26 Try.sizeOf43 rfl hA1620 rfl hx1617) ?_
     have f1621:=fun (W : World) (h : (Sta.mk w0 M H R φ).ok W)=>Cl.drop (f1619 W h) 0
     refine ga_v (i:=3) (bz 15 15) rfl (by kernel_rfl) (fun _ _ _ _ h=>h) rfl (r_fieldF Try.underlying43 rfl Try.sizeOf9 rfl)<|ga_v (i:=4) (bz 15 31) rfl (by kernel_rfl) (fun _ _ _ _ h=>h) rfl (r_ld rfl Try.isAgg9 (fun W hS=>Cl.head (f1621 W (ok_pre (H1:=[_]) (R1:=[]) hS (fun W h=>(q1136 _ h))))))<|ga_v (i:=6) (bz 15 95) rfl (by kernel_rfl) (fun _ _ _ _ h=>h) rfl (r_move)<|ga_v (i:=7) (bz 15 223) rfl (by kernel_rfl) (fun _ _ _ _ h=>h) rfl (r_move) ?_
     replace hm:=bnd hm
     obtain ⟨x1622,hx1622,hm⟩:=hm
     refine ga_know _ (fun W hS=>cl_at (p:=(Sta.mk w0 M H R φ).ok) (sz:=2) (fun _=>rfl) (by decide) (ok_pre (H1:=[_]) (R1:=[]) hS (fun W h=>(q1136 _ h))) fp0_0 hx1622) ?_
     rintro ⟨ad1623,hA1625,f1624⟩
     refine ga_v (i:=8) (bz 15 479) rfl (by kernel_rfl) (fun _ _ _ _ h=>h) rfl (r_ix Try.underlying26 Try.sizeOf43 rfl hA1625 rfl hx1622) ?_
     have f1626:=fun (W : World) (h : (Sta.mk w0 M H R φ).ok W)=>Cl.drop (f1624 W h) 1
     refine ga_v (i:=9) (bz 15 991) rfl (by kernel_rfl) (fun _ _ _ _ h=>h) rfl (r_fieldF Try.underlying43 rfl Try.sizeOf9 rfl)<|ga_v (i:=10) (bz 15 2015) rfl (by kernel_rfl) (fun _ _ _ _ h=>h) rfl (r_ld rfl Try.isAgg9 (fun W hS=>Cl.head (f1626 W (ok_pre (H1:=[_]) (R1:=[]) hS (fun W h=>(q1136 _ h)))))) ?_
     replace hm:=bnd hm
     obtain ⟨x1627,hx1628,hm⟩:=hm
     refine ga_two (i:=5) (j:=13) (bz 15 2047) (bz 15 10207) rfl rfl (by kernel_rfl) (by decide) (by decide) ?_ ?_
     ·
      refine ex_cn (first:=#[]) ⟨w0,M,_,_,φ1136⟩ (fun _ h=>h) Try.call8 rfl rfl rfl (c_law13_short x1617.fName 60 _ hx1628) (fun _ W _ h=>h.phi (fun W hφ=>hφ)) (fun _ _=>?_)
      replace hm:=bnd hm
      obtain ⟨x1630,hx1631,hm⟩:=hm
      refine ga_two (i:=11) (j:=13) (bz 15 4095) (bz 15 10239) rfl rfl (by kernel_rfl) (by decide) (by decide) ?_ ?_
      ·
       refine ex_cn (first:=#[]) ⟨w0,M,_,_,φ1136⟩ (fun _ h=>h) Try.call8 rfl rfl rfl (c_law13_short x1622.fText 60 _ hx1631) (fun _ W _ h=>h.phi (fun W hφ=>hφ)) (fun _ _=>?_)
       refine ga_v (i:=12) (bz 15 8191) rfl (by kernel_rfl) (fun _ _ _ _ h=>h) rfl (r_build _ rfl (bld43_20 _ _)) ?_
       refine ga_e (i:=13) (bz 15 16383) rfl (by kernel_rfl) (by decide) rfl  (e_alloc 100060 Try.zeroValue43) (fun g1632 W _ h=>(h.dropH (t:=100060) rfl).phi (fun W hφ=>hφ)) (fun g1632 _=>?_)
       refine ga_lastL (i:=14) (tag:=100060) (bz 15 32767) rfl (by kernel_rfl) (by decide) rfl rfl rfl rfl Try.sizeOf43 rfl rfl<|gz_done (by kernel_rfl) ?_
       exact d_round (x1627,x1630,g1632) hm Nat.zero_lt_one ⟨rfl,rfl,rfl,rfl,rfl,trivial⟩ (fun W h=>h.phi (fun W hφ=>hφ))
      refine ex_e rfl (e_alloc 100060 Try.zeroValue43) (fun g1633 W _ h=>(h.dropH (t:=100060) rfl).phi (fun W hφ=>hφ)) (fun g1633 _=>?_)
      refine ga_cn (first:=#[]) (i:=11) (bz 15 12287) rfl (by kernel_rfl) (by decide)  ⟨w0,M,_,_,φ1136⟩ (fun _ h=>h) Try.call8 rfl rfl rfl (c_law13_short x1622.fText 60 _ hx1631) (fun _ W _ h=>(h.dropH (t:=100060) rfl).phi (fun W hφ=>hφ)) (fun _ _=>?_)
      refine ga_r (i:=12) (bz 15 16383) rfl (by kernel_rfl) (by decide) rfl (r_build _ rfl (bld43_20 _ _))<|ga_lastL (i:=14) (tag:=100060) (bz 15 32767) rfl (by kernel_rfl) (by decide) rfl rfl rfl rfl Try.sizeOf43 rfl rfl<|gz_done (by kernel_rfl) ?_
      exact d_round (x1627,x1630,g1633) hm Nat.zero_lt_one ⟨rfl,rfl,rfl,rfl,rfl,trivial⟩ (fun W h=>h.phi (fun W hφ=>hφ))
     refine ex_e rfl (e_alloc 100060 Try.zeroValue43) (fun g1634 W _ h=>(h.dropH (t:=100060) rfl).phi (fun W hφ=>hφ)) (fun g1634 _=>?_)
     refine ga_cn (first:=#[]) (i:=5) (bz 15 10239) rfl (by kernel_rfl) (by decide)  ⟨w0,M,_,_,φ1136⟩ (fun _ h=>h) Try.call8 rfl rfl rfl (c_law13_short x1617.fName 60 _ hx1628) (fun _ W _ h=>(h.dropH (t:=100060) rfl).phi (fun W hφ=>hφ)) (fun _ _=>?_)
     replace hm:=bnd hm
     obtain ⟨x1635,hx1636,hm⟩:=hm
     refine ga_cn (first:=#[]) (i:=11) (bz 15 12287) rfl (by kernel_rfl) (by decide)  ⟨w0,M,_,_,φ1136⟩ (fun _ h=>h) Try.call8 rfl rfl rfl (c_law13_short x1622.fText 60 _ hx1636) (fun _ W _ h=>(h.dropH (t:=100060) rfl).phi (fun W hφ=>hφ)) (fun _ _=>?_)
     refine ga_r (i:=12) (bz 15 16383) rfl (by kernel_rfl) (by decide) rfl (r_build _ rfl (bld43_20 _ _))<|ga_lastL (i:=14) (tag:=100060) (bz 15 32767) rfl (by kernel_rfl) (by decide) rfl rfl rfl rfl Try.sizeOf43 rfl rfl<|gz_done (by kernel_rfl) ?_
     exact d_round (x1627,x1635,g1634) hm Nat.zero_lt_one ⟨rfl,rfl,rfl,rfl,rfl,trivial⟩ (fun W h=>h.phi (fun W hφ=>hφ))
    unfold m_law13_ConfAnchors_j3 at hm
    refine d_flat [(0,.slice Ap0_0 p0.length cp0_0),(3,.bool x1),(4,.pointer (some ⟨g3,0,none⟩)),(5,.int .i64 i843),(6,.pointer (some ⟨g1239,0,none⟩))] ⟨rfl,rfl,rfl,rfl,rfl,trivial⟩ (fun u=>?_)
    refine d_sta ⟨w0,M,(100060,g1239,.cells #[.string s1240,.string s1241] 43 (0,0))::(100040,g3,.cells #[.slice A845 l844.length c846,.slice A849 l848.length c850,.slice A853 l852.length c854,.int .i64 i856,.slice A858 l857.length c859] 29 (0,0))::H,R,φ1136⟩ (fun _ h=>h)<|d_then<|c_seq<|c_region<|g_v rfl (r_loadA (tag:=100040) rfl rfl Try.isAgg29 Try.sizeOf29 rfl rfl)<|g_v rfl (r_field (n:=0) Try.underlying43 rfl Try.sizeOf9 rfl rfl)<|g_v rfl (r_load (tag:=100060) rfl rfl rfl Try.isAgg9)<|g_v rfl (r_field (n:=1) Try.underlying43 rfl Try.sizeOf9 rfl rfl)<|g_v rfl (r_load (tag:=100060) rfl rfl rfl Try.isAgg9)<|g_v rfl (r_build _ rfl (bld35_21 _ _ _)) ?_
    replace hm:=bnd hm
    obtain ⟨⟨x1242,x1243⟩,hx1244,hm⟩:=hm
    refine g_cn ⟨w0,M,_,_,φ1136⟩ (fun _ h=>h) Try.call10 rfl rfl (c_conf_Apply_k4 (⟨l844,l848,l852,i856,l857⟩ : GConf) A845 c846 hc846 (fun W h=>f847 W h) A849 c850 hc850 (fun W h=>f851 W h) A853 c854 hc854 (fun W h=>f855 W h) A858 c859 hc859 (fun W h=>f860 W h) 0 s1240 s1241 (⟨#[]⟩ : ByteArray) ([] : List ByteArray) none 0 (Nat.le_refl 0) (fun W _=>Cl.nil _ _) _ hx1244) (fun ⟨A1245,c1246,A1248,c1249,A1251,c1252,A1254,c1255⟩ ⟨hc1246,hc1249,hc1252,hc1255⟩=>?_)
    refine g_abs (fun φ1257 q1257'=>?_)
    have q1257 : ∀ W,φ1257 W→φ1136 W:=fun W h=>(q1257' W h).1
    have f1247:=fun (W : World) (h : φ1257 W)=>(q1257' W h).2.1
    have f1250:=fun (W : World) (h : φ1257 W)=>(q1257' W h).2.2.1
    have f1253:=fun (W : World) (h : φ1257 W)=>(q1257' W h).2.2.2.1
    have f1256:=fun (W : World) (h : φ1257 W)=>(q1257' W h).2.2.2.2
    refine g_v rfl r_move<|g_v rfl (r_extract rfl rfl)<|g_v rfl (r_extract rfl rfl) ?_
    refine g_e rfl (e_alloc 100070 Try.zeroValue29) (fun g1259 _=>?_)
    refine g_storeL (tag:=100070) rfl rfl rfl rfl Try.sizeOf29 rfl rfl<|g_v rfl r_assign<|g_nil<|d_then ?_
    refine c_flat [(0,.slice Ap0_0 p0.length cp0_0),(3,.bool x1),(4,.pointer (some ⟨g3,0,none⟩)),(5,.int .i64 i843),(6,.pointer (some ⟨g1239,0,none⟩)),(7,.pointer (some ⟨g1259,0,none⟩)),(8,.int .i64 x1243)] ⟨rfl,rfl,rfl,rfl,rfl,rfl,rfl,trivial⟩ (fun u=>?_)
    refine c_sta ⟨w0,M,(100070,g1259,.cells #[.slice A1245 x1242.fRing.length c1246,.slice A1248 x1242.fHints.length c1249,.slice A1251 x1242.fAnchors.length c1252,.int .i64 x1242.fEpoch,.slice A1254 x1242.fFlushes.length c1255] 29 (0,0))::(100060,g1239,.cells #[.string s1240,.string s1241] 43 (0,0))::(100040,g3,.cells #[.slice A845 l844.length c846,.slice A849 l848.length c850,.slice A853 l852.length c854,.int .i64 i856,.slice A858 l857.length c859] 29 (0,0))::H,R,φ1257⟩ (fun _ h=>h)<|c_seq<|c_seq<|c_region<|g_v rfl (r_field (n:=0) Try.underlying43 rfl Try.sizeOf9 rfl rfl)<|g_v rfl (r_load (tag:=100060) rfl rfl rfl Try.isAgg9) ?_
    replace hm:=bnd hm
    obtain ⟨x1260,hx1261,hm⟩:=hm
    refine g_cn ⟨w0,M,_,_,φ1257⟩ (fun _ h=>h) Try.call11 rfl rfl (c_ref03_Check s1240 _ hx1261) (fun _ _=>?_)
    refine g_v rfl (r_neq rfl rfl)<|g_nil<|d_then ?_
    refine c_cond rfl (fun h1262=>?_) (fun h1262=>?_)
    ·
     replace hm:=ite_t hm (of_decide_eq_true h1262)
     refine c_seq<|c_seq<|c_region<|g_v rfl r_move<|g_v rfl (r_neq rfl rfl)<|g_nil<|d_then ?_
     refine c_cond rfl (fun h1263=>?_) (fun h1263=>?_)
     ·
      replace hm:=ite_t hm (of_decide_eq_true h1263)
      refine c_seq<|c_region<|g_v rfl r_assign<|g_nil<|d_then<|c_ret<|d_ret_then<|d_ret_then<|d_ret_block<|d_ret_then ?_
      refine d_ret_then<|d_ret_block<|d_ret_then<|d_ret_then ?_
      replace hm:=nx_out (C:=(fun e : Unit ⊕ Bool=>Sum.elim (fun e=>m_law13_ConfAnchors_j1 x1) (fun x=>some x) e = some r)) hm hnx2 hr2
      replace hm : some false = some r:=hm
      cases hm
      exact d_retC () Try.results5 (res_tmp (res_nil rfl)) trivial (fun W h=>ok_pre (H1:=[_,_,_]) (R1:=[]) h (fun W hφ=>(q1136 _ (q1257 _ hφ)))) (.inr rfl)
     replace hm:=ite_f hm (of_decide_eq_false h1263)
     refine c_skip<|d_then<|c_exit<|d_exit_then<|d_exit_block<|d_then<|c_region<|g_v rfl r_move<|g_v rfl (r_add rfl rfl rfl)<|g_v rfl r_assign ?_
     refine g_nil ?_
     obtain ⟨n1264,hn1264,hlp⟩:=nx_inl hm hnx2
     exact d_round (n1264,w64 (i843 + 1),l844,l848,l852,i856,l857,A845,c846,A849,c850,A853,c854,A858,c859) ⟨hlp,hc846,hc850,hc854,hc859⟩ hn1264 ⟨rfl,rfl,rfl,rfl,trivial⟩ (fun W h=>((h.dropH (t:=100070) rfl).dropH (t:=100060) rfl).phi (fun W hφ=>⟨(q1136 _ (q1257 _ hφ)),(fun W h=>f847 W (q1257 _ h)) W hφ,(fun W h=>f851 W (q1257 _ h)) W hφ,(fun W h=>f855 W (q1257 _ h)) W hφ,(fun W h=>f860 W (q1257 _ h)) W hφ⟩))
    replace hm:=ite_f hm (of_decide_eq_false h1262)
    refine c_skip<|d_then<|c_seq<|c_region<|g_v rfl r_assign<|g_nil<|d_then<|c_seq<|c_seq<|c_region ?_
    refine g_v rfl r_assign<|g_nil<|d_then ?_
    refine c_cut (ι:=Bool) [0,3,4,5,6,7,8,9] (fun b1317=>[(9,.bool b1317)]) (fun b1317=>⟨w0,M,(100070,g1259,.cells #[.slice A1245 x1242.fRing.length c1246,.slice A1248 x1242.fHints.length c1249,.slice A1251 x1242.fAnchors.length c1252,.int .i64 x1242.fEpoch,.slice A1254 x1242.fFlushes.length c1255] 29 (0,0))::(100060,g1239,.cells #[.string s1240,.string s1241] 43 (0,0))::(100040,g3,.cells #[.slice A845 l844.length c846,.slice A849 l848.length c850,.slice A853 l852.length c854,.int .i64 i856,.slice A858 l857.length c859] 29 (0,0))::H,R,φ1257⟩) (fun b1317=>m_law13_ConfAnchors_j4 l852 x1243 x1242 s1240 i843 s1241 b1317 = some o2) ?_ (fun b1317 u hm=>?_)
    ·
     refine c_block ?_
     replace hm:=bnd hm
     obtain ⟨out10,hl10,hr10⟩:=hm
     obtain ⟨n1551',hl10⟩:=loop_lp hl10
     refine c_loopU (ι:=Nat×Bool×Int) [0,3,4,5,6,7,8,9,10] (fun ⟨n1551,b1524,i1525⟩=>[(9,.bool b1524),(10,.int .i64 i1525)]) (fun ⟨n1551,b1524,i1525⟩=>⟨w0,M,(100070,g1259,.cells #[.slice A1245 x1242.fRing.length c1246,.slice A1248 x1242.fHints.length c1249,.slice A1251 x1242.fAnchors.length c1252,.int .i64 x1242.fEpoch,.slice A1254 x1242.fFlushes.length c1255] 29 (0,0))::(100060,g1239,.cells #[.string s1240,.string s1241] 43 (0,0))::(100040,g3,.cells #[.slice A845 l844.length c846,.slice A849 l848.length c850,.slice A853 l852.length c854,.int .i64 i856,.slice A858 l857.length c859] 29 (0,0))::H,R,φ1257⟩) (fun ⟨n1551,b1524,i1525⟩=>Lp (fun s=>m_law13_ConfAnchors_s10 l852 s1240 s.1 s.2) n1551 (b1524,i1525) out10) (fun ⟨n1551,b1524,i1525⟩=>n1551) (n1551',false,0) hl10 ⟨rfl,rfl,rfl,rfl,rfl,rfl,rfl,rfl,rfl,trivial⟩ (fun W h=>h.phi (fun W hφ=>hφ)) (fun ⟨n1551,b1524,i1525⟩ u hlp=>?_)
     obtain ⟨o10,hm,hnx10⟩:=lp_step hlp
     clear hlp
     replace hm : m_law13_ConfAnchors_s10 l852 s1240 b1524 i1525 = some o10:=hm
     unfold m_law13_ConfAnchors_s10 at hm
     refine c_flat [(0,.slice Ap0_0 p0.length cp0_0),(3,.bool x1),(4,.pointer (some ⟨g3,0,none⟩)),(5,.int .i64 i843),(6,.pointer (some ⟨g1239,0,none⟩)),(7,.pointer (some ⟨g1259,0,none⟩)),(8,.int .i64 x1243),(9,.bool b1524),(10,.int .i64 i1525)] ⟨rfl,rfl,rfl,rfl,rfl,rfl,rfl,rfl,rfl,trivial⟩ (fun u=>?_)
     refine c_seq<|c_seq<|c_region<|g_v rfl r_move<|g_v rfl (r_field (n:=2) Try.underlying29 rfl Try.sizeOf26 rfl rfl)<|g_v rfl (r_load (tag:=100040) rfl rfl rfl Try.isAgg26)<|g_v rfl (r_lenL Try.underlying26 rfl)<|g_v rfl (r_lss rfl rfl)<|g_nil<|d_then ?_
     refine c_cond rfl (fun h1552=>?_) (fun h1552=>?_)
     ·
      replace hm:=ite_t hm (of_decide_eq_true h1552)
      refine c_skip<|d_then<|c_seq<|c_block<|c_seq<|ga_start (n:=10) ⟨w0,M,(100070,g1259,.cells #[.slice A1245 x1242.fRing.length c1246,.slice A1248 x1242.fHints.length c1249,.slice A1251 x1242.fAnchors.length c1252,.int .i64 x1242.fEpoch,.slice A1254 x1242.fFlushes.length c1255] 29 (0,0))::(100060,g1239,.cells #[.string s1240,.string s1241] 43 (0,0))::(100040,g3,.cells #[.slice A845 l844.length c846,.slice A849 l848.length c850,.slice A853 l852.length c854,.int .i64 i856,.slice A858 l857.length c859] 29 (0,0))::H,R,φ1257⟩ [] #[false,false,false,false,false,false,false,false,false,false] (fun W h=>h.phi (fun W hφ=>hφ)) mixed rfl rfl<|ga_v (i:=0) (bz 10 1) rfl (by kernel_rfl) (fun _ _ _ _ h=>h) rfl (r_field (n:=2) Try.underlying29 rfl Try.sizeOf26 rfl rfl)<|ga_v (i:=1) (bz 10 3) rfl (by kernel_rfl) (fun _ _ _ _ h=>h) rfl (r_load (tag:=100040) rfl rfl rfl Try.isAgg26)<|ga_v (i:=2) (bz 10 7) rfl (by kernel_rfl) (fun _ _ _ _ h=>h) rfl (r_move) ?_
      replace hm:=bnd hm
      obtain ⟨x1567,hx1567,hm⟩:=hm
      refine ga_know _ (fun W hS=>cl_at (p:=φ1136) (sz:=2) (fun _=>rfl) (by decide) (q1257 _ hS.now) f855 hx1567) ?_
      rintro ⟨ad1568,hA1570,f1569⟩
      refine ga_v (i:=3) (bz 10 15) rfl (by kernel_rfl) (fun _ _ _ _ h=>h) rfl (r_ix Try.underlying26 Try.sizeOf43 rfl hA1570 rfl hx1567) ?_
      have f1571:=fun (W : World) (h : φ1136 W)=>Cl.drop (f1569 W h) 0
      refine ga_v (i:=4) (bz 10 31) rfl (by kernel_rfl) (fun _ _ _ _ h=>h) rfl (r_fieldF Try.underlying43 rfl Try.sizeOf9 rfl)<|ga_v (i:=5) (bz 10 63) rfl (by kernel_rfl) (fun _ _ _ _ h=>h) rfl (r_ld rfl Try.isAgg9 (fun W hS=>Cl.head (f1571 W (q1257 _ hS.now))))<|ga_r (i:=6) (bz 10 127) rfl (by kernel_rfl) (by decide) rfl (r_field (n:=0) Try.underlying43 rfl Try.sizeOf9 rfl rfl)<|ga_r (i:=7) (bz 10 255) rfl (by kernel_rfl) (by decide) rfl (r_load (tag:=100060) rfl rfl rfl Try.isAgg9) ?_
      replace hm:=bnd hm
      obtain ⟨x1572,hx1573,hm⟩:=hm
      refine ga_cn (first:=#[]) (i:=8) (bz 10 511) rfl (by kernel_rfl) (by decide)  ⟨w0,M,_,_,φ1257⟩ (fun _ h=>h) Try.call13 rfl rfl rfl (c_ref03_Same x1567.fName s1240 _ hx1573) (fun _ W _ h=>h.phi (fun W hφ=>hφ)) (fun _ _=>?_)
      refine ga_r (i:=9) (bz 10 1023) rfl (by kernel_rfl) (by decide) rfl (r_assign)<|ga_done (by kernel_rfl)<|d_then ?_
      refine c_flat [(0,.slice Ap0_0 p0.length cp0_0),(3,.bool x1),(4,.pointer (some ⟨g3,0,none⟩)),(5,.int .i64 i843),(6,.pointer (some ⟨g1239,0,none⟩)),(7,.pointer (some ⟨g1259,0,none⟩)),(8,.int .i64 x1243),(9,.bool b1524),(10,.int .i64 i1525),(11,.bool x1572)] ⟨rfl,rfl,rfl,rfl,rfl,rfl,rfl,rfl,rfl,rfl,trivial⟩ (fun u=>?_)
      refine c_region<|g_v rfl r_move<|g_v rfl r_move ?_
      refine g_if rfl rfl rfl rfl rfl (fun h1574=>?_) (fun h1574=>?_)
      ·
       replace hm:=ite_f hm (bool_nt h1574)
       refine g_v rfl r_move<|g_v rfl (r_pick0 rfl h1574)<|g_v rfl r_assign<|g_nil<|d_normal_block<|d_then<|c_region<|g_v rfl r_move<|g_v rfl (r_add rfl rfl rfl)<|g_v rfl r_assign ?_
       refine g_nil ?_
       obtain ⟨n1575,hn1575,hlp⟩:=nx_inl hm hnx10
       exact d_round (n1575,x1572,w64 (i1525 + 1)) hlp hn1575 ⟨rfl,rfl,rfl,rfl,rfl,rfl,rfl,rfl,rfl,trivial⟩ (fun W h=>h.phi (fun W hφ=>hφ))
      replace hm:=ite_t hm h1574
      refine g_v rfl (r_pick1 rfl h1574)<|g_v rfl r_assign<|g_nil<|d_normal_block<|d_then<|c_region<|g_v rfl r_move<|g_v rfl (r_add rfl rfl rfl)<|g_v rfl r_assign<|g_nil ?_
      obtain ⟨n1576,hn1576,hlp⟩:=nx_inl hm hnx10
      exact d_round (n1576,true,w64 (i1525 + 1)) hlp hn1576 ⟨rfl,rfl,rfl,rfl,rfl,rfl,rfl,rfl,rfl,trivial⟩ (fun W h=>h.phi (fun W hφ=>hφ))
     replace hm:=ite_f hm (of_decide_eq_false h1552)
     refine c_exit<|d_exit_then<|d_exit_then<|d_exit_block ?_
     replace hm:=nx_out (C:=(fun e : Bool=>m_law13_ConfAnchors_j4 l852 x1243 x1242 s1240 i843 s1241 e = some o2)) hm hnx10 hr10
     exact d_round b1524 hm Nat.zero_lt_one ⟨rfl,rfl,rfl,rfl,rfl,rfl,rfl,rfl,trivial⟩ (fun W h=>h.phi (fun W hφ=>hφ))
    unfold m_law13_ConfAnchors_j4 at hm
    refine d_flat [(0,.slice Ap0_0 p0.length cp0_0),(3,.bool x1),(4,.pointer (some ⟨g3,0,none⟩)),(5,.int .i64 i843),(6,.pointer (some ⟨g1239,0,none⟩)),(7,.pointer (some ⟨g1259,0,none⟩)),(8,.int .i64 x1243),(9,.bool b1317)] ⟨rfl,rfl,rfl,rfl,rfl,rfl,rfl,rfl,trivial⟩ (fun u=>?_)
    refine d_then<|c_seq ?_
    refine c_cut (ι:=Bool) [0,3,4,5,6,7,8,12] (fun b1320=>[(12,.bool b1320)]) (fun b1320=>⟨w0,M,(100070,g1259,.cells #[.slice A1245 x1242.fRing.length c1246,.slice A1248 x1242.fHints.length c1249,.slice A1251 x1242.fAnchors.length c1252,.int .i64 x1242.fEpoch,.slice A1254 x1242.fFlushes.length c1255] 29 (0,0))::(100060,g1239,.cells #[.string s1240,.string s1241] 43 (0,0))::(100040,g3,.cells #[.slice A845 l844.length c846,.slice A849 l848.length c850,.slice A853 l852.length c854,.int .i64 i856,.slice A858 l857.length c859] 29 (0,0))::H,R,φ1257⟩) (fun b1320=>m_law13_ConfAnchors_j5 x1243 x1242 s1240 i843 s1241 b1320 = some o2) ?_ (fun b1320 u hm=>?_)
    ·
     refine c_region<|g_v rfl (r_field (n:=2) Try.underlying29 rfl Try.sizeOf26 rfl rfl)<|g_v rfl (r_load (tag:=100040) rfl rfl rfl Try.isAgg26)<|g_v rfl (r_lenL Try.underlying26 rfl)<|g_v rfl (r_eql rfl rfl)<|g_v rfl r_move ?_
     refine g_if rfl rfl rfl rfl rfl (fun h1498=>?_) (fun h1498=>?_)
     ·
      replace hm:=ite_t hm (of_decide_eq_true h1498)
      refine g_v rfl r_move<|g_do rfl rfl rfl rfl rfl h1498<|g_v rfl (r_not rfl)<|g_v rfl (r_pick1 rfl h1498)<|g_v rfl r_move ?_
      refine g_if rfl rfl rfl rfl rfl (fun h1499=>?_) (fun h1499=>?_)
      ·
       have h1499' : b1317 = false:=by revert h1499; cases b1317 <;> simp
       replace hm:=ite_f hm (bool_nt h1499')
       refine g_v rfl (r_field (n:=1) Try.underlying43 rfl Try.sizeOf9 rfl rfl)<|g_do rfl rfl rfl rfl rfl h1499<|g_v rfl (r_load (tag:=100060) rfl rfl rfl Try.isAgg9)<|g_do rfl rfl rfl rfl rfl h1499<|g_v rfl (r_neqT rfl rfl)<|g_v rfl (r_pick1 rfl h1499)<|g_v rfl r_assign<|g_nil ?_
       exact d_round (!(decide (s1241 = (⟨#[]⟩ : ByteArray)))) hm Nat.zero_lt_one ⟨rfl,rfl,rfl,rfl,rfl,rfl,rfl,rfl,trivial⟩ (fun W h=>h.phi (fun W hφ=>hφ))
      have h1499' : b1317 = true:=by revert h1499; cases b1317 <;> simp
      replace hm:=ite_t hm h1499'
      refine g_no rfl rfl rfl rfl rfl h1499<|g_no rfl rfl rfl rfl rfl h1499<|g_v rfl (r_pick0 rfl h1499)<|g_v rfl r_assign<|g_nil ?_
      exact d_round false hm Nat.zero_lt_one ⟨rfl,rfl,rfl,rfl,rfl,rfl,rfl,rfl,trivial⟩ (fun W h=>h.phi (fun W hφ=>hφ))
     replace hm:=ite_f hm (of_decide_eq_false h1498)
     refine g_no rfl rfl rfl rfl rfl h1498<|g_v rfl (r_pick0 rfl h1498)<|g_v rfl r_move ?_
     iterate 3 refine g_no rfl rfl rfl rfl rfl rfl ?_
     refine g_v rfl (r_pick0 rfl rfl)<|g_v rfl r_assign<|g_nil ?_
     exact d_round false hm Nat.zero_lt_one ⟨rfl,rfl,rfl,rfl,rfl,rfl,rfl,rfl,trivial⟩ (fun W h=>h.phi (fun W hφ=>hφ))
    unfold m_law13_ConfAnchors_j5 at hm
    refine d_flat [(0,.slice Ap0_0 p0.length cp0_0),(3,.bool x1),(4,.pointer (some ⟨g3,0,none⟩)),(5,.int .i64 i843),(6,.pointer (some ⟨g1239,0,none⟩)),(7,.pointer (some ⟨g1259,0,none⟩)),(8,.int .i64 x1243),(12,.bool b1320)] ⟨rfl,rfl,rfl,rfl,rfl,rfl,rfl,rfl,trivial⟩ (fun u=>?_)
    refine d_then<|c_seq ?_
    refine c_cut (ι:=Unit) [0,3,4,5,6,7,12] (fun _=>[]) (fun _=>⟨w0,M,(100070,g1259,.cells #[.slice A1245 x1242.fRing.length c1246,.slice A1248 x1242.fHints.length c1249,.slice A1251 x1242.fAnchors.length c1252,.int .i64 x1242.fEpoch,.slice A1254 x1242.fFlushes.length c1255] 29 (0,0))::(100060,g1239,.cells #[.string s1240,.string s1241] 43 (0,0))::(100040,g3,.cells #[.slice A845 l844.length c846,.slice A849 l848.length c850,.slice A853 l852.length c854,.int .i64 i856,.slice A858 l857.length c859] 29 (0,0))::H,R,φ1257⟩) (fun _=>m_law13_ConfAnchors_j6 x1242 s1240 b1320 i843 s1241 = some o2) ?_ (fun _ u hm=>?_)
    ·
     refine c_seq<|c_region<|g_v rfl r_move<|g_v rfl (r_eql rfl rfl)<|g_v rfl r_move<|g_v rfl (r_neqBo Try.underlying4 rfl rfl)<|g_v rfl r_move ?_
     refine g_if rfl rfl rfl rfl rfl (fun h1493=>?_) (fun h1493=>?_)
     ·
      replace hm:=ite_f hm (bool_nt h1493)
      refine g_v rfl r_move<|g_do rfl rfl rfl rfl rfl h1493<|g_v rfl (r_not rfl)<|g_do rfl rfl rfl rfl rfl h1493<|g_v rfl r_move ?_
      refine g_if rfl rfl rfl rfl rfl (fun h1494=>?_) (fun h1494=>?_)
      ·
       have h1494' : b1320 = false:=by revert h1494; cases b1320 <;> simp
       replace hm:=ite_f hm (bool_nt h1494')
       refine g_v rfl r_move<|g_do rfl rfl rfl rfl rfl h1494<|g_v rfl (r_neq rfl rfl)<|g_do rfl rfl rfl rfl rfl h1493<|g_v rfl (r_pick1 rfl h1494)<|g_v rfl (r_pick0 rfl h1493)<|g_v rfl r_move ?_
       refine g_if rfl rfl rfl rfl rfl (fun h1495=>?_) (fun h1495=>?_)
       ·
        replace hm:=ite_f hm (of_decide_eq_false h1495)
        refine g_v rfl (r_field (n:=2) Try.underlying29 rfl Try.sizeOf26 rfl rfl)<|g_do rfl rfl rfl rfl rfl h1495<|g_v rfl (r_load (tag:=100070) rfl rfl rfl Try.isAgg26)<|g_do rfl rfl rfl rfl rfl h1495<|g_v rfl (r_lenL Try.underlying26 rfl)<|g_do rfl rfl rfl rfl rfl h1495<|g_v rfl (r_gtr rfl rfl)<|g_v rfl (r_pick0 rfl h1495)<|g_nil<|d_then ?_
        refine c_flat [(0,.slice Ap0_0 p0.length cp0_0),(3,.bool x1),(4,.pointer (some ⟨g3,0,none⟩)),(5,.int .i64 i843),(6,.pointer (some ⟨g1239,0,none⟩)),(7,.pointer (some ⟨g1259,0,none⟩)),(12,.bool b1320),(106,.bool (decide (16 < (x1242.fAnchors.length : Int))))] ⟨rfl,rfl,rfl,rfl,rfl,rfl,rfl,rfl,trivial⟩ (fun u=>?_)
        refine c_cond rfl (fun h1496=>?_) (fun h1496=>?_)
        ·
         replace hm:=ite_t hm (of_decide_eq_true h1496)
         refine c_seq<|c_region<|g_v rfl r_assign<|g_nil<|d_then<|c_ret<|d_ret_then<|d_ret_then<|d_ret_block<|d_ret_then ?_
         refine d_ret_then<|d_ret_block<|d_ret_then<|d_ret_then ?_
         replace hm:=nx_out (C:=(fun e : Unit ⊕ Bool=>Sum.elim (fun e=>m_law13_ConfAnchors_j1 x1) (fun x=>some x) e = some r)) hm hnx2 hr2
         replace hm : some false = some r:=hm
         cases hm
         exact d_retC () Try.results5 (res_tmp (res_nil rfl)) trivial (fun W h=>ok_pre (H1:=[_,_,_]) (R1:=[]) h (fun W hφ=>(q1136 _ (q1257 _ hφ)))) (.inr rfl)
        replace hm:=ite_f hm (of_decide_eq_false h1496)
        refine c_skip ?_
        exact d_round () hm Nat.zero_lt_one ⟨rfl,rfl,rfl,rfl,rfl,rfl,rfl,trivial⟩ (fun W h=>h.phi (fun W hφ=>hφ))
       replace hm:=ite_t hm (of_decide_eq_true h1495)
       iterate 3 refine g_no rfl rfl rfl rfl rfl h1495 ?_
       refine g_v rfl (r_pick1 rfl h1495)<|g_nil<|d_then ?_
       refine c_flat [(0,.slice Ap0_0 p0.length cp0_0),(3,.bool x1),(4,.pointer (some ⟨g3,0,none⟩)),(5,.int .i64 i843),(6,.pointer (some ⟨g1239,0,none⟩)),(7,.pointer (some ⟨g1259,0,none⟩)),(12,.bool b1320),(106,.bool true)] ⟨rfl,rfl,rfl,rfl,rfl,rfl,rfl,rfl,trivial⟩ (fun u=>?_)
       refine c_cond1 rfl rfl<|c_seq<|c_region<|g_v rfl r_assign<|g_nil<|d_then<|c_ret<|d_ret_then<|d_ret_then<|d_ret_block ?_
       refine d_ret_then<|d_ret_then<|d_ret_block<|d_ret_then<|d_ret_then ?_
       replace hm:=nx_out (C:=(fun e : Unit ⊕ Bool=>Sum.elim (fun e=>m_law13_ConfAnchors_j1 x1) (fun x=>some x) e = some r)) hm hnx2 hr2
       replace hm : some false = some r:=hm
       cases hm
       exact d_retC () Try.results5 (res_tmp (res_nil rfl)) trivial (fun W h=>ok_pre (H1:=[_,_,_]) (R1:=[]) h (fun W hφ=>(q1136 _ (q1257 _ hφ)))) (.inr rfl)
      have h1494' : b1320 = true:=by revert h1494; cases b1320 <;> simp
      replace hm:=ite_t hm h1494'
      refine g_no rfl rfl rfl rfl rfl h1494<|g_do rfl rfl rfl rfl rfl h1493<|g_v rfl (r_pick0 rfl h1494)<|g_v rfl (r_pick0 rfl h1493)<|g_v rfl r_move<|g_do rfl rfl rfl rfl rfl rfl<|g_v rfl (r_field (n:=2) Try.underlying29 rfl Try.sizeOf26 rfl rfl)<|g_do rfl rfl rfl rfl rfl rfl<|g_v rfl (r_load (tag:=100070) rfl rfl rfl Try.isAgg26)<|g_do rfl rfl rfl rfl rfl rfl ?_
      refine g_v rfl (r_lenL Try.underlying26 rfl)<|g_do rfl rfl rfl rfl rfl rfl<|g_v rfl (r_gtr rfl rfl)<|g_v rfl (r_pick0 rfl rfl)<|g_nil<|d_then ?_
      refine c_flat [(0,.slice Ap0_0 p0.length cp0_0),(3,.bool x1),(4,.pointer (some ⟨g3,0,none⟩)),(5,.int .i64 i843),(6,.pointer (some ⟨g1239,0,none⟩)),(7,.pointer (some ⟨g1259,0,none⟩)),(12,.bool b1320),(106,.bool (decide (16 < (x1242.fAnchors.length : Int))))] ⟨rfl,rfl,rfl,rfl,rfl,rfl,rfl,rfl,trivial⟩ (fun u=>?_)
      refine c_cond rfl (fun h1497=>?_) (fun h1497=>?_)
      ·
       replace hm:=ite_t hm (of_decide_eq_true h1497)
       refine c_seq<|c_region<|g_v rfl r_assign<|g_nil<|d_then<|c_ret<|d_ret_then<|d_ret_then<|d_ret_block<|d_ret_then ?_
       refine d_ret_then<|d_ret_block<|d_ret_then<|d_ret_then ?_
       replace hm:=nx_out (C:=(fun e : Unit ⊕ Bool=>Sum.elim (fun e=>m_law13_ConfAnchors_j1 x1) (fun x=>some x) e = some r)) hm hnx2 hr2
       replace hm : some false = some r:=hm
       cases hm
       exact d_retC () Try.results5 (res_tmp (res_nil rfl)) trivial (fun W h=>ok_pre (H1:=[_,_,_]) (R1:=[]) h (fun W hφ=>(q1136 _ (q1257 _ hφ)))) (.inr rfl)
      replace hm:=ite_f hm (of_decide_eq_false h1497)
      refine c_skip ?_
      exact d_round () hm Nat.zero_lt_one ⟨rfl,rfl,rfl,rfl,rfl,rfl,rfl,trivial⟩ (fun W h=>h.phi (fun W hφ=>hφ))
     replace hm:=ite_t hm h1493
     refine g_no rfl rfl rfl rfl rfl h1493<|g_no rfl rfl rfl rfl rfl h1493<|g_nu rfl rfl rfl rfl rfl<|g_nu rfl rfl rfl rfl rfl<|g_no rfl rfl rfl rfl rfl h1493<|g_v rfl (r_pick1 rfl h1493)<|g_v rfl r_move ?_
     iterate 4 refine g_no rfl rfl rfl rfl rfl rfl ?_
     refine g_v rfl (r_pick1 rfl rfl)<|g_nil<|d_then<|c_cond1 rfl rfl<|c_seq<|c_region<|g_v rfl r_assign<|g_nil<|d_then ?_
     refine c_flat [(2,.bool false)] ⟨rfl,trivial⟩ (fun u=>?_)
     refine c_ret<|d_ret_then<|d_ret_then<|d_ret_block<|d_ret_then<|d_ret_then<|d_ret_block<|d_ret_then<|d_ret_then ?_
     replace hm:=nx_out (C:=(fun e : Unit ⊕ Bool=>Sum.elim (fun e=>m_law13_ConfAnchors_j1 x1) (fun x=>some x) e = some r)) hm hnx2 hr2
     replace hm : some false = some r:=hm
     cases hm
     exact d_retC () Try.results5 (res_tmp (res_nil rfl)) trivial (fun W h=>ok_pre (H1:=[_,_,_]) (R1:=[]) h (fun W hφ=>(q1136 _ (q1257 _ hφ)))) (.inr rfl)
    unfold m_law13_ConfAnchors_j6 at hm
    refine d_flat [(0,.slice Ap0_0 p0.length cp0_0),(3,.bool x1),(4,.pointer (some ⟨g3,0,none⟩)),(5,.int .i64 i843),(6,.pointer (some ⟨g1239,0,none⟩)),(7,.pointer (some ⟨g1259,0,none⟩)),(12,.bool b1320)] ⟨rfl,rfl,rfl,rfl,rfl,rfl,rfl,trivial⟩ (fun u=>?_)
    refine d_then<|c_seq<|c_region<|g_v rfl r_assign<|g_nil<|d_then<|c_seq<|c_seq<|c_region<|g_v rfl r_assign ?_
    refine g_nil<|d_then ?_
    refine c_cut (ι:=ByteArray) [0,3,4,5,6,7,12,13] (fun s1391=>[(13,.string s1391)]) (fun s1391=>⟨w0,M,(100070,g1259,.cells #[.slice A1245 x1242.fRing.length c1246,.slice A1248 x1242.fHints.length c1249,.slice A1251 x1242.fAnchors.length c1252,.int .i64 x1242.fEpoch,.slice A1254 x1242.fFlushes.length c1255] 29 (0,0))::(100060,g1239,.cells #[.string s1240,.string s1241] 43 (0,0))::(100040,g3,.cells #[.slice A845 l844.length c846,.slice A849 l848.length c850,.slice A853 l852.length c854,.int .i64 i856,.slice A858 l857.length c859] 29 (0,0))::H,R,φ1257⟩) (fun s1391=>m_law13_ConfAnchors_j7 b1320 i843 x1242 s1241 s1391 = some o2) ?_ (fun s1391 u hm=>?_)
    ·
     refine c_block ?_
     replace hm:=bnd hm
     obtain ⟨out9,hl9,hr9⟩:=hm
     obtain ⟨n1461',hl9⟩:=loop_lp hl9
     refine c_loopU (ι:=Nat×ByteArray×Int) [0,3,4,5,6,7,12,13,14] (fun ⟨n1461,s1428,i1429⟩=>[(13,.string s1428),(14,.int .i64 i1429)]) (fun ⟨n1461,s1428,i1429⟩=>⟨w0,M,(100070,g1259,.cells #[.slice A1245 x1242.fRing.length c1246,.slice A1248 x1242.fHints.length c1249,.slice A1251 x1242.fAnchors.length c1252,.int .i64 x1242.fEpoch,.slice A1254 x1242.fFlushes.length c1255] 29 (0,0))::(100060,g1239,.cells #[.string s1240,.string s1241] 43 (0,0))::(100040,g3,.cells #[.slice A845 l844.length c846,.slice A849 l848.length c850,.slice A853 l852.length c854,.int .i64 i856,.slice A858 l857.length c859] 29 (0,0))::H,R,φ1257⟩) (fun ⟨n1461,s1428,i1429⟩=>Lp (fun s=>m_law13_ConfAnchors_s9 x1242 s1240 s.1 s.2) n1461 (s1428,i1429) out9) (fun ⟨n1461,s1428,i1429⟩=>n1461) (n1461',(⟨#[]⟩ : ByteArray),0) hl9 ⟨rfl,rfl,rfl,rfl,rfl,rfl,rfl,rfl,rfl,trivial⟩ (fun W h=>h.phi (fun W hφ=>hφ)) (fun ⟨n1461,s1428,i1429⟩ u hlp=>?_)
     obtain ⟨o9,hm,hnx9⟩:=lp_step hlp
     clear hlp
     replace hm : m_law13_ConfAnchors_s9 x1242 s1240 s1428 i1429 = some o9:=hm
     unfold m_law13_ConfAnchors_s9 at hm
     refine c_flat [(0,.slice Ap0_0 p0.length cp0_0),(3,.bool x1),(4,.pointer (some ⟨g3,0,none⟩)),(5,.int .i64 i843),(6,.pointer (some ⟨g1239,0,none⟩)),(7,.pointer (some ⟨g1259,0,none⟩)),(12,.bool b1320),(13,.string s1428),(14,.int .i64 i1429)] ⟨rfl,rfl,rfl,rfl,rfl,rfl,rfl,rfl,rfl,trivial⟩ (fun u=>?_)
     refine c_seq<|c_seq<|c_region<|g_v rfl r_move<|g_v rfl (r_field (n:=2) Try.underlying29 rfl Try.sizeOf26 rfl rfl)<|g_v rfl (r_load (tag:=100070) rfl rfl rfl Try.isAgg26)<|g_v rfl (r_lenL Try.underlying26 rfl)<|g_v rfl (r_lss rfl rfl)<|g_nil<|d_then ?_
     refine c_cond rfl (fun h1462=>?_) (fun h1462=>?_)
     ·
      replace hm:=ite_t hm (of_decide_eq_true h1462)
      refine c_skip<|d_then<|c_seq<|c_block<|c_seq<|ga_start (n:=10) ⟨w0,M,(100070,g1259,.cells #[.slice A1245 x1242.fRing.length c1246,.slice A1248 x1242.fHints.length c1249,.slice A1251 x1242.fAnchors.length c1252,.int .i64 x1242.fEpoch,.slice A1254 x1242.fFlushes.length c1255] 29 (0,0))::(100060,g1239,.cells #[.string s1240,.string s1241] 43 (0,0))::(100040,g3,.cells #[.slice A845 l844.length c846,.slice A849 l848.length c850,.slice A853 l852.length c854,.int .i64 i856,.slice A858 l857.length c859] 29 (0,0))::H,R,φ1257⟩ [] #[false,false,false,false,false,false,false,false,false,false] (fun W h=>h.phi (fun W hφ=>hφ)) mixed rfl rfl<|ga_v (i:=0) (bz 10 1) rfl (by kernel_rfl) (fun _ _ _ _ h=>h) rfl (r_field (n:=2) Try.underlying29 rfl Try.sizeOf26 rfl rfl)<|ga_v (i:=1) (bz 10 3) rfl (by kernel_rfl) (fun _ _ _ _ h=>h) rfl (r_load (tag:=100070) rfl rfl rfl Try.isAgg26)<|ga_v (i:=2) (bz 10 7) rfl (by kernel_rfl) (fun _ _ _ _ h=>h) rfl (r_move) ?_
      replace hm:=bnd hm
      obtain ⟨x1477,hx1477,hm⟩:=hm
      refine ga_know _ (fun W hS=>cl_at (p:=φ1257) (sz:=2) (fun _=>rfl) (by decide) hS.now f1253 hx1477) ?_
      rintro ⟨ad1478,hA1480,f1479⟩
      refine ga_v (i:=3) (bz 10 15) rfl (by kernel_rfl) (fun _ _ _ _ h=>h) rfl (r_ix Try.underlying26 Try.sizeOf43 rfl hA1480 rfl hx1477) ?_
      have f1481:=fun (W : World) (h : φ1257 W)=>Cl.drop (f1479 W h) 0
      refine ga_v (i:=4) (bz 10 31) rfl (by kernel_rfl) (fun _ _ _ _ h=>h) rfl (r_fieldF Try.underlying43 rfl Try.sizeOf9 rfl)<|ga_v (i:=5) (bz 10 63) rfl (by kernel_rfl) (fun _ _ _ _ h=>h) rfl (r_ld rfl Try.isAgg9 (fun W hS=>Cl.head (f1481 W hS.now)))<|ga_r (i:=6) (bz 10 127) rfl (by kernel_rfl) (by decide) rfl (r_field (n:=0) Try.underlying43 rfl Try.sizeOf9 rfl rfl)<|ga_r (i:=7) (bz 10 255) rfl (by kernel_rfl) (by decide) rfl (r_load (tag:=100060) rfl rfl rfl Try.isAgg9) ?_
      replace hm:=bnd hm
      obtain ⟨x1482,hx1483,hm⟩:=hm
      refine ga_cn (first:=#[]) (i:=8) (bz 10 511) rfl (by kernel_rfl) (by decide)  ⟨w0,M,_,_,φ1257⟩ (fun _ h=>h) Try.call13 rfl rfl rfl (c_ref03_Same x1477.fName s1240 _ hx1483) (fun _ W _ h=>h.phi (fun W hφ=>hφ)) (fun _ _=>?_)
      refine ga_r (i:=9) (bz 10 1023) rfl (by kernel_rfl) (by decide) rfl (r_assign)<|ga_done (by kernel_rfl)<|d_then ?_
      refine c_flat [(0,.slice Ap0_0 p0.length cp0_0),(3,.bool x1),(4,.pointer (some ⟨g3,0,none⟩)),(5,.int .i64 i843),(6,.pointer (some ⟨g1239,0,none⟩)),(7,.pointer (some ⟨g1259,0,none⟩)),(12,.bool b1320),(13,.string s1428),(14,.int .i64 i1429),(15,.bool x1482)] ⟨rfl,rfl,rfl,rfl,rfl,rfl,rfl,rfl,rfl,rfl,trivial⟩ (fun u=>?_)
      refine c_seq<|c_region<|g_v rfl r_move<|g_nil<|d_then ?_
      refine c_cond rfl (fun h1484=>?_) (fun h1484=>?_)
      ·
       replace hm:=ite_t hm h1484
       refine c_region<|g_v rfl r_move<|g_v rfl (r_field (n:=2) Try.underlying29 rfl Try.sizeOf26 rfl rfl)<|g_v rfl (r_load (tag:=100070) rfl rfl rfl Try.isAgg26)<|g_v rfl r_move ?_
       replace hm:=bnd hm
       obtain ⟨x1485,hx1485,hm⟩:=hm
       refine g_know _ (fun W hS=>cl_at (p:=φ1257) (sz:=2) (fun _=>rfl) (by decide) hS.now f1253 hx1485) ?_
       rintro ⟨ad1486,hA1488,f1487⟩
       refine g_v rfl (r_ix Try.underlying26 Try.sizeOf43 rfl hA1488 rfl hx1485) ?_
       have f1489:=fun (W : World) (h : φ1257 W)=>Cl.drop (f1487 W h) 1
       refine g_v rfl (r_fieldF Try.underlying43 rfl Try.sizeOf9 rfl)<|g_v rfl (r_ld rfl Try.isAgg9 (fun W hS=>Cl.head (f1489 W hS.now))) ?_
       replace hm:=bnd hm
       obtain ⟨s1490,hs1490,hm⟩:=hm
       refine g_v rfl (r_addT rfl rfl hs1490)<|g_v rfl r_assign<|g_nil<|d_normal_block<|d_then ?_
       refine c_flat [(0,.slice Ap0_0 p0.length cp0_0),(3,.bool x1),(4,.pointer (some ⟨g3,0,none⟩)),(5,.int .i64 i843),(6,.pointer (some ⟨g1239,0,none⟩)),(7,.pointer (some ⟨g1259,0,none⟩)),(12,.bool b1320),(13,.string s1490),(14,.int .i64 i1429)] ⟨rfl,rfl,rfl,rfl,rfl,rfl,rfl,rfl,rfl,trivial⟩ (fun u=>?_)
       refine c_region<|g_v rfl r_move<|g_v rfl (r_add rfl rfl rfl)<|g_v rfl r_assign<|g_nil ?_
       obtain ⟨n1491,hn1491,hlp⟩:=nx_inl hm hnx9
       exact d_round (n1491,s1490,w64 (i1429 + 1)) hlp hn1491 ⟨rfl,rfl,rfl,rfl,rfl,rfl,rfl,rfl,rfl,trivial⟩ (fun W h=>h.phi (fun W hφ=>hφ))
      replace hm:=ite_f hm (bool_nt h1484)
      refine c_skip<|d_normal_block<|d_then<|c_region<|g_v rfl r_move<|g_v rfl (r_add rfl rfl rfl)<|g_v rfl r_assign<|g_nil ?_
      obtain ⟨n1492,hn1492,hlp⟩:=nx_inl hm hnx9
      exact d_round (n1492,s1428,w64 (i1429 + 1)) hlp hn1492 ⟨rfl,rfl,rfl,rfl,rfl,rfl,rfl,rfl,rfl,trivial⟩ (fun W h=>h.phi (fun W hφ=>hφ))
     replace hm:=ite_f hm (of_decide_eq_false h1462)
     refine c_exit<|d_exit_then<|d_exit_then<|d_exit_block ?_
     replace hm:=nx_out (C:=(fun e : ByteArray=>m_law13_ConfAnchors_j7 b1320 i843 x1242 s1241 e = some o2)) hm hnx9 hr9
     exact d_round s1428 hm Nat.zero_lt_one ⟨rfl,rfl,rfl,rfl,rfl,rfl,rfl,rfl,trivial⟩ (fun W h=>h.phi (fun W hφ=>hφ))
    unfold m_law13_ConfAnchors_j7 at hm
    refine d_flat [(0,.slice Ap0_0 p0.length cp0_0),(3,.bool x1),(4,.pointer (some ⟨g3,0,none⟩)),(5,.int .i64 i843),(6,.pointer (some ⟨g1239,0,none⟩)),(7,.pointer (some ⟨g1259,0,none⟩)),(12,.bool b1320),(13,.string s1391)] ⟨rfl,rfl,rfl,rfl,rfl,rfl,rfl,rfl,trivial⟩ (fun u=>?_)
    refine d_then<|c_seq ?_
    refine c_cut (ι:=Unit) [0,3,4,5,7] (fun _=>[]) (fun _=>⟨w0,M,(100070,g1259,.cells #[.slice A1245 x1242.fRing.length c1246,.slice A1248 x1242.fHints.length c1249,.slice A1251 x1242.fAnchors.length c1252,.int .i64 x1242.fEpoch,.slice A1254 x1242.fFlushes.length c1255] 29 (0,0))::(100040,g3,.cells #[.slice A845 l844.length c846,.slice A849 l848.length c850,.slice A853 l852.length c854,.int .i64 i856,.slice A858 l857.length c859] 29 (0,0))::H,R,φ1257⟩) (fun _=>m_law13_ConfAnchors_j8 i843 x1242 = some o2) ?_ (fun _ u hm=>?_)
    ·
     refine c_seq<|c_region<|g_v rfl r_move<|g_v rfl (r_not rfl)<|g_v rfl r_move ?_
     refine g_if rfl rfl rfl rfl rfl (fun h1395=>?_) (fun h1395=>?_)
     ·
      have h1395' : b1320 = false:=by revert h1395; cases b1320 <;> simp
      replace hm:=ite_f hm (bool_nt h1395')
      refine g_v rfl r_move<|g_do rfl rfl rfl rfl rfl h1395<|g_v rfl (r_field (n:=1) Try.underlying43 rfl Try.sizeOf9 rfl rfl)<|g_do rfl rfl rfl rfl rfl h1395<|g_v rfl (r_load (tag:=100060) rfl rfl rfl Try.isAgg9)<|g_do rfl rfl rfl rfl rfl h1395<|g_v rfl (r_neqT rfl rfl)<|g_v rfl (r_pick1 rfl h1395)<|g_nil<|d_then ?_
      refine c_cond rfl (fun h1396=>?_) (fun h1396=>?_)
      ·
       have h1396' : (decide (s1391 = s1241)) = false:=by revert h1396; cases (decide (s1391 = s1241)) <;> simp
       replace hm:=ite_f hm (of_decide_eq_false h1396')
       refine c_seq<|c_region<|g_v rfl r_assign<|g_nil<|d_then ?_
       refine c_flat [(2,.bool false)] ⟨rfl,trivial⟩ (fun u=>?_)
       refine c_ret<|d_ret_then<|d_ret_then<|d_ret_block<|d_ret_then<|d_ret_then<|d_ret_block<|d_ret_then<|d_ret_then ?_
       replace hm:=nx_out (C:=(fun e : Unit ⊕ Bool=>Sum.elim (fun e=>m_law13_ConfAnchors_j1 x1) (fun x=>some x) e = some r)) hm hnx2 hr2
       replace hm : some false = some r:=hm
       cases hm
       exact d_retC () Try.results5 (res_tmp (res_nil rfl)) trivial (fun W h=>ok_pre (H1:=[_,_,_]) (R1:=[]) h (fun W hφ=>(q1136 _ (q1257 _ hφ)))) (.inr rfl)
      have h1396' : (decide (s1391 = s1241)) = true:=by revert h1396; cases (decide (s1391 = s1241)) <;> simp
      replace hm:=ite_t hm (of_decide_eq_true h1396')
      refine c_skip ?_
      exact d_round () hm Nat.zero_lt_one ⟨rfl,rfl,rfl,rfl,rfl,trivial⟩ (fun W h=>(h.dropH (t:=100060) rfl).phi (fun W hφ=>hφ))
     have h1395' : b1320 = true:=by revert h1395; cases b1320 <;> simp
     replace hm:=ite_t hm h1395'
     iterate 3 refine g_no rfl rfl rfl rfl rfl h1395 ?_
     refine g_v rfl (r_pick0 rfl h1395)<|g_nil<|d_then<|c_cond0 rfl rfl<|c_skip ?_
     exact d_round () hm Nat.zero_lt_one ⟨rfl,rfl,rfl,rfl,rfl,trivial⟩ (fun W h=>(h.dropH (t:=100060) rfl).phi (fun W hφ=>hφ))
    unfold m_law13_ConfAnchors_j8 at hm
    refine d_flat [(0,.slice Ap0_0 p0.length cp0_0),(3,.bool x1),(4,.pointer (some ⟨g3,0,none⟩)),(5,.int .i64 i843),(7,.pointer (some ⟨g1259,0,none⟩))] ⟨rfl,rfl,rfl,rfl,rfl,trivial⟩ (fun u=>?_)
    refine d_sta ⟨w0,M,(100070,g1259,.cells #[.slice A1245 x1242.fRing.length c1246,.slice A1248 x1242.fHints.length c1249,.slice A1251 x1242.fAnchors.length c1252,.int .i64 x1242.fEpoch,.slice A1254 x1242.fFlushes.length c1255] 29 (0,0))::(100040,g3,.cells #[.slice A845 l844.length c846,.slice A849 l848.length c850,.slice A853 l852.length c854,.int .i64 i856,.slice A858 l857.length c859] 29 (0,0))::H,R,φ1257⟩ (fun _ h=>h)<|d_then<|c_region<|g_v rfl (r_loadA (tag:=100070) rfl rfl Try.isAgg29 Try.sizeOf29 rfl rfl)<|g_storeL (tag:=100040) rfl rfl rfl rfl Try.sizeOf29 rfl rfl<|g_nil<|d_normal_block<|d_then<|c_region<|g_v rfl r_move ?_
    refine g_v rfl (r_add rfl rfl rfl)<|g_v rfl r_assign<|g_nil ?_
    obtain ⟨n1394,hn1394,hlp⟩:=nx_inl hm hnx2
    exact d_round (n1394,w64 (i843 + 1),x1242.fRing,x1242.fHints,x1242.fAnchors,x1242.fEpoch,x1242.fFlushes,A1245,c1246,A1248,c1249,A1251,c1252,A1254,c1255) ⟨hlp,hc1246,hc1249,hc1252,hc1255⟩ hn1394 ⟨rfl,rfl,rfl,rfl,trivial⟩ (fun W h=>(h.dropH (t:=100070) rfl).phi (fun W hφ=>⟨(q1136 _ (q1257 _ hφ)),(fun W h=>f1247 W h) W hφ,(fun W h=>f1250 W h) W hφ,(fun W h=>f1253 W h) W hφ,(fun W h=>f1256 W h) W hφ⟩))
   replace hm:=ite_f hm (of_decide_eq_false h1138)
   refine c_exit<|d_exit_then<|d_exit_then<|d_exit_block ?_
   replace hm:=nx_out (C:=(fun e : Unit ⊕ Bool=>Sum.elim (fun e=>m_law13_ConfAnchors_j1 x1) (fun x=>some x) e = some r)) hm hnx2 hr2
   exact d_round () hm Nat.zero_lt_one ⟨rfl,trivial⟩ (fun W h=>(h.dropH (t:=100040) rfl).phi (fun W hφ=>(q1136 _ hφ)))
  replace hm:=ite_f hm (of_decide_eq_false h1137)
  refine g_no rfl rfl rfl rfl rfl h1137<|g_v rfl (r_pick0 rfl h1137)<|g_nil<|d_then<|c_cond0 rfl rfl<|c_exit<|d_exit_then<|d_exit_then<|d_exit_block ?_
  replace hm:=nx_out (C:=(fun e : Unit ⊕ Bool=>Sum.elim (fun e=>m_law13_ConfAnchors_j1 x1) (fun x=>some x) e = some r)) hm hnx2 hr2
  exact d_round () hm Nat.zero_lt_one ⟨rfl,trivial⟩ (fun W h=>(h.dropH (t:=100040) rfl).phi (fun W hφ=>(q1136 _ hφ)))
 unfold m_law13_ConfAnchors_j1 at hm
 refine d_flat [(3,.bool x1)] ⟨rfl,trivial⟩ (fun u=>?_)
 refine d_sta ⟨w0,M,H,R,φ⟩ (fun _ h=>h)<|d_then<|c_seq<|c_region<|g_v rfl r_move<|g_v rfl r_assign<|g_nil<|d_then<|c_ret ?_
 cases hm
 exact d_retC () Try.results5 (res_tmp (res_nil rfl)) trivial (fun W h=>ok_pre (H1:=[]) (R1:=[]) h (fun W hφ=>hφ)) (.inr rfl)
end Go.Proofs.Ythpjodfjdnnckaa
