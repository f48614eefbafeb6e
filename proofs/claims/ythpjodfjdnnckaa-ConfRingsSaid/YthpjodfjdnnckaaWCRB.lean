import Derived.Test.YthpjodfjdnnckaaWCRA
set_option maxRecDepth 100000
set_option maxHeartbeats 4000000
set_option linter.unusedVariables false
set_option linter.unusedSimpArgs false
namespace Go.Proofs.Ythpjodfjdnnckaa
open Go.RowKit Go.Proofs.YthpjodfjdnnckaaW.PrintLast
noncomputable def m_law13_awake  : Option Bool:=
  (m_conf_Bytes_k1 3 (⟨#[]⟩ : ByteArray) (⟨#[]⟩ : ByteArray) (⟨#[]⟩ : ByteArray) ([] : List ByteArray)).bind fun (z4 : ByteArray×Int)=>
  (m_conf_Bytes_k5 0 (⟨#[]⟩ : ByteArray) (⟨#[]⟩ : ByteArray) (⟨#[1,97,0]⟩ : ByteArray) ([] : List ByteArray)).bind fun (z8 : ByteArray×Int)=>
  (m_conf_Apply_k5 (⟨([] : List Int),([] : List ByteArray),([] : List GAnchor),0,([] : List GFlush)⟩ : GConf) 0 (⟨#[]⟩ : ByteArray) (⟨#[]⟩ : ByteArray) (⟨#[1,97,0]⟩ : ByteArray) ([] : List ByteArray)).bind fun (z25 : GConf×Int)=>
  (m_conf_Apply_k5 z25.1 0 (⟨#[]⟩ : ByteArray) (⟨#[]⟩ : ByteArray) (⟨#[0]⟩ : ByteArray) ([] : List ByteArray)).bind fun (z43 : GConf×Int)=>
  if z4.1 = (⟨#[1,3]⟩ : ByteArray) then
    if z4.2 = 0 then
      if z8.1 = (⟨#[5,1,97,0]⟩ : ByteArray) then
        if z8.2 = 0 then
          if z25.2 = 0 then
            if z43.2 = 0 then
              if z43.1.fEpoch = 2 then
                if (z43.1.fFlushes.length : Int) = 1 then
                  (m_conf_Floor z25.1 (⟨#[1,120,1,97,0]⟩ : ByteArray)).bind fun x53=>
                  if x53 = 1 then
                    (m_conf_Floor z25.1 (⟨#[1,98,0]⟩ : ByteArray)).bind fun x56=>
                    some (decide (x56 = 0))
                  else
                    some false
                else
                  some false
              else
                some false
            else
              some false
          else
            some false
        else
          some false
      else
        some false
    else
      some false
  else
    some false
theorem c_law13_awake {w0 : World} {M : Nat→Prop} {H : List (Nat×Nat×Obj)} {R : List (Nat×Row)} {φ : World→Prop}  (r : Bool) (hm : m_law13_awake = some r) :
    Cn Try.prog 7 #[] ⟨w0,M,H,R,φ⟩ (fun x : Unit=>.bool r) (fun x=>True) (fun x=>⟨w0,M,H,R,φ⟩):=by
 unfold m_law13_awake at hm
 refine cn_intro (fn:=Try.f7) (N:=74) Try.func7 rfl Try.ntmps7 rfl<|c_seq<|c_region<|g_v rfl r_assign<|g_nil<|d_then<|c_seq<|c_region<|g_v rfl (r_build _ rfl (bld35_0 _ _)) ?_
 replace hm:=bnd hm
 obtain ⟨⟨x1,x2⟩,hx3,hm⟩:=hm
 refine g_cn ⟨w0,M,_,_,φ⟩ (fun _ h=>h) Try.call15 rfl rfl (c_conf_Bytes_k1 3 (⟨#[]⟩ : ByteArray) (⟨#[]⟩ : ByteArray) (⟨#[]⟩ : ByteArray) ([] : List ByteArray) none 0 (Nat.le_refl 0) (fun W _=>Cl.nil _ _) _ hx3) (fun _ _=>?_)
 refine g_v rfl r_move<|g_v rfl (r_extract rfl rfl)<|g_v rfl (r_extract rfl rfl)<|g_v rfl r_assign<|g_v rfl r_assign<|g_nil<|d_then<|c_seq<|c_region<|g_v rfl (r_build _ rfl (bld35_5 _ _)) ?_
 replace hm:=bnd hm
 obtain ⟨⟨x5,x6⟩,hx7,hm⟩:=hm
 refine g_cn ⟨w0,M,_,_,φ⟩ (fun _ h=>h) Try.call15 rfl rfl (c_conf_Bytes_k5 0 (⟨#[]⟩ : ByteArray) (⟨#[]⟩ : ByteArray) (⟨#[1,97,0]⟩ : ByteArray) ([] : List ByteArray) none 0 (Nat.le_refl 0) (fun W _=>Cl.nil _ _) _ hx7) (fun _ _=>?_)
 refine g_v rfl r_move<|g_v rfl (r_extract rfl rfl)<|g_v rfl (r_extract rfl rfl)<|g_v rfl r_assign<|g_v rfl r_assign<|g_nil<|d_then ?_
 refine c_flat [(1,.string x1),(2,.int .i64 x2),(3,.string x5),(4,.int .i64 x6)] ⟨rfl,rfl,rfl,rfl,trivial⟩ (fun u=>?_)
 refine c_sta ⟨w0,M,H,R,φ⟩ (fun _ h=>h)<|c_seq<|c_region<|g_v rfl (r_build _ rfl (bld29_9))<|g_v rfl (r_build _ rfl (bld35_5 _ _)) ?_
 replace hm:=bnd hm
 obtain ⟨⟨x9,x10⟩,hx11,hm⟩:=hm
 refine g_cn ⟨w0,M,_,_,φ⟩ (fun _ h=>h) Try.call10 rfl rfl (c_conf_Apply_k5 (⟨([] : List Int),([] : List ByteArray),([] : List GAnchor),0,([] : List GFlush)⟩ : GConf) none 0 (Nat.le_refl 0) (fun W _=>Cl.nil _ _) none 0 (Nat.le_refl 0) (fun W _=>Cl.nil _ _) none 0 (Nat.le_refl 0) (fun W _=>Cl.nil _ _) none 0 (Nat.le_refl 0) (fun W _=>Cl.nil _ _) 0 (⟨#[]⟩ : ByteArray) (⟨#[]⟩ : ByteArray) (⟨#[1,97,0]⟩ : ByteArray) ([] : List ByteArray) none 0 (Nat.le_refl 0) (fun W _=>Cl.nil _ _) _ hx11) (fun ⟨A12,c13,A15,c16,A18,c19,A21,c22⟩ ⟨hc13,hc16,hc19,hc22⟩=>?_)
 refine g_abs (fun φ24 q24'=>?_)
 have q24 : ∀ W,φ24 W→φ W:=fun W h=>(q24' W h).1
 have f14:=fun (W : World) (h : φ24 W)=>(q24' W h).2.1
 have f17:=fun (W : World) (h : φ24 W)=>(q24' W h).2.2.1
 have f20:=fun (W : World) (h : φ24 W)=>(q24' W h).2.2.2.1
 have f23:=fun (W : World) (h : φ24 W)=>(q24' W h).2.2.2.2
 refine g_v rfl r_move<|g_v rfl (r_extract rfl rfl)<|g_v rfl (r_extract rfl rfl) ?_
 refine g_e rfl (e_alloc 100050 Try.zeroValue29) (fun g26 _=>?_)
 refine g_storeL (tag:=100050) rfl rfl rfl rfl Try.sizeOf29 rfl rfl<|g_v rfl r_assign<|g_nil<|d_then ?_
 refine c_flat [(1,.string x1),(2,.int .i64 x2),(3,.string x5),(4,.int .i64 x6),(5,.pointer (some ⟨g26,0,none⟩)),(6,.int .i64 x10)] ⟨rfl,rfl,rfl,rfl,rfl,rfl,trivial⟩ (fun u=>?_)
 refine c_sta ⟨w0,M,(100050,g26,.cells #[.slice A12 x9.fRing.length c13,.slice A15 x9.fHints.length c16,.slice A18 x9.fAnchors.length c19,.int .i64 x9.fEpoch,.slice A21 x9.fFlushes.length c22] 29 (0,0))::H,R,φ24⟩ (fun _ h=>h)<|c_seq<|c_region<|g_v rfl (r_loadA (tag:=100050) rfl rfl Try.isAgg29 Try.sizeOf29 rfl rfl)<|g_v rfl (r_build _ rfl (bld35_5 _ _)) ?_
 replace hm:=bnd hm
 obtain ⟨⟨x27,x28⟩,hx29,hm⟩:=hm
 refine g_cn ⟨w0,M,_,_,φ24⟩ (fun _ h=>h) Try.call10 rfl rfl (c_conf_Apply_k5 x9 A12 c13 hc13 (fun W h=>f14 W h) A15 c16 hc16 (fun W h=>f17 W h) A18 c19 hc19 (fun W h=>f20 W h) A21 c22 hc22 (fun W h=>f23 W h) 0 (⟨#[]⟩ : ByteArray) (⟨#[]⟩ : ByteArray) (⟨#[0]⟩ : ByteArray) ([] : List ByteArray) none 0 (Nat.le_refl 0) (fun W _=>Cl.nil _ _) _ hx29) (fun ⟨A30,c31,A33,c34,A36,c37,A39,c40⟩ ⟨hc31,hc34,hc37,hc40⟩=>?_)
 refine g_abs (fun φ42 q42'=>?_)
 have q42 : ∀ W,φ42 W→φ24 W:=fun W h=>(q42' W h).1
 have f32:=fun (W : World) (h : φ42 W)=>(q42' W h).2.1
 have f35:=fun (W : World) (h : φ42 W)=>(q42' W h).2.2.1
 have f38:=fun (W : World) (h : φ42 W)=>(q42' W h).2.2.2.1
 have f41:=fun (W : World) (h : φ42 W)=>(q42' W h).2.2.2.2
 refine g_v rfl r_move<|g_v rfl (r_extract rfl rfl)<|g_v rfl (r_extract rfl rfl) ?_
 refine g_e rfl (e_alloc 100070 Try.zeroValue29) (fun g44 _=>?_)
 refine g_storeL (tag:=100070) rfl rfl rfl rfl Try.sizeOf29 rfl rfl<|g_v rfl r_assign<|g_nil<|d_then ?_
 refine c_flat [(1,.string x1),(2,.int .i64 x2),(3,.string x5),(4,.int .i64 x6),(5,.pointer (some ⟨g26,0,none⟩)),(6,.int .i64 x10),(7,.pointer (some ⟨g44,0,none⟩)),(8,.int .i64 x28)] ⟨rfl,rfl,rfl,rfl,rfl,rfl,rfl,rfl,trivial⟩ (fun u=>?_)
 refine c_sta ⟨w0,M,(100070,g44,.cells #[.slice A30 x27.fRing.length c31,.slice A33 x27.fHints.length c34,.slice A36 x27.fAnchors.length c37,.int .i64 x27.fEpoch,.slice A39 x27.fFlushes.length c40] 29 (0,0))::(100050,g26,.cells #[.slice A12 x9.fRing.length c13,.slice A15 x9.fHints.length c16,.slice A18 x9.fAnchors.length c19,.int .i64 x9.fEpoch,.slice A21 x9.fFlushes.length c22] 29 (0,0))::H,R,φ42⟩ (fun _ h=>h)<|c_seq<|c_region<|g_v rfl r_move<|g_v rfl (r_eqlT rfl rfl)<|g_v rfl r_move ?_
 refine g_if rfl rfl rfl rfl rfl (fun h45=>?_) (fun h45=>?_)
 ·
  replace hm:=ite_t hm (of_decide_eq_true h45)
  refine g_v rfl r_move<|g_do rfl rfl rfl rfl rfl h45<|g_v rfl (r_eql rfl rfl)<|g_v rfl (r_pick1 rfl h45)<|g_v rfl r_move ?_
  refine g_if rfl rfl rfl rfl rfl (fun h46=>?_) (fun h46=>?_)
  ·
   replace hm:=ite_t hm (of_decide_eq_true h46)
   refine g_v rfl r_move<|g_do rfl rfl rfl rfl rfl h46<|g_v rfl (r_eqlT rfl rfl)<|g_v rfl (r_pick1 rfl h46)<|g_v rfl r_move ?_
   refine g_if rfl rfl rfl rfl rfl (fun h47=>?_) (fun h47=>?_)
   ·
    replace hm:=ite_t hm (of_decide_eq_true h47)
    refine g_v rfl r_move<|g_do rfl rfl rfl rfl rfl h47<|g_v rfl (r_eql rfl rfl)<|g_v rfl (r_pick1 rfl h47)<|g_v rfl r_move ?_
    refine g_if rfl rfl rfl rfl rfl (fun h48=>?_) (fun h48=>?_)
    ·
     replace hm:=ite_t hm (of_decide_eq_true h48)
     refine g_v rfl r_move<|g_do rfl rfl rfl rfl rfl h48<|g_v rfl (r_eql rfl rfl)<|g_v rfl (r_pick1 rfl h48)<|g_v rfl r_move ?_
     refine g_if rfl rfl rfl rfl rfl (fun h49=>?_) (fun h49=>?_)
     ·
      replace hm:=ite_t hm (of_decide_eq_true h49)
      refine g_v rfl r_move<|g_do rfl rfl rfl rfl rfl h49<|g_v rfl (r_eql rfl rfl)<|g_v rfl (r_pick1 rfl h49)<|g_v rfl r_move ?_
      refine g_if rfl rfl rfl rfl rfl (fun h50=>?_) (fun h50=>?_)
      ·
       replace hm:=ite_t hm (of_decide_eq_true h50)
       refine g_v rfl (r_field (n:=3) Try.underlying29 rfl Try.sizeOf3 rfl rfl)<|g_do rfl rfl rfl rfl rfl h50<|g_v rfl (r_load (tag:=100070) rfl rfl rfl Try.isAgg3)<|g_do rfl rfl rfl rfl rfl h50<|g_v rfl (r_eql rfl rfl)<|g_v rfl (r_pick1 rfl h50)<|g_v rfl r_move ?_
       refine g_if rfl rfl rfl rfl rfl (fun h51=>?_) (fun h51=>?_)
       ·
        replace hm:=ite_t hm (of_decide_eq_true h51)
        refine g_v rfl (r_field (n:=4) Try.underlying29 rfl Try.sizeOf27 rfl rfl)<|g_do rfl rfl rfl rfl rfl h51<|g_v rfl (r_load (tag:=100070) rfl rfl rfl Try.isAgg27)<|g_do rfl rfl rfl rfl rfl h51<|g_v rfl (r_lenL Try.underlying27 rfl)<|g_do rfl rfl rfl rfl rfl h51<|g_v rfl (r_eql rfl rfl)<|g_v rfl (r_pick1 rfl h51)<|g_v rfl r_move ?_
        refine g_if rfl rfl rfl rfl rfl (fun h52=>?_) (fun h52=>?_)
        ·
         replace hm:=ite_t hm (of_decide_eq_true h52)
         refine g_v rfl (r_loadA (tag:=100050) rfl rfl Try.isAgg29 Try.sizeOf29 rfl rfl)<|g_do rfl rfl rfl rfl rfl h52 ?_
         replace hm:=bnd hm
         obtain ⟨x53,hx54,hm⟩:=hm
         refine g_cn ⟨w0,M,_,_,φ42⟩ (fun _ h=>h) Try.call9 rfl rfl (c_conf_Floor x9 A12 c13 hc13 (fun W hS=>f14 W (q42 _ hS.now)) A15 c16 hc16 (fun W hS=>f17 W (q42 _ hS.now)) A18 c19 hc19 (fun W hS=>f20 W (q42 _ hS.now)) A21 c22 hc22 (fun W hS=>f23 W (q42 _ hS.now)) (⟨#[1,120,1,97,0]⟩ : ByteArray) _ hx54) (fun _ _=>?_)
         refine g_do rfl rfl rfl rfl rfl h52<|g_v rfl (r_eql rfl rfl)<|g_v rfl (r_pick1 rfl h52)<|g_v rfl r_move ?_
         refine g_if rfl rfl rfl rfl rfl (fun h55=>?_) (fun h55=>?_)
         ·
          replace hm:=ite_t hm (of_decide_eq_true h55)
          refine g_v rfl (r_loadA (tag:=100050) rfl rfl Try.isAgg29 Try.sizeOf29 rfl rfl)<|g_do rfl rfl rfl rfl rfl h55 ?_
          replace hm:=bnd hm
          obtain ⟨x56,hx57,hm⟩:=hm
          refine g_cn ⟨w0,M,_,_,φ42⟩ (fun _ h=>h) Try.call9 rfl rfl (c_conf_Floor x9 A12 c13 hc13 (fun W hS=>f14 W (q42 _ hS.now)) A15 c16 hc16 (fun W hS=>f17 W (q42 _ hS.now)) A18 c19 hc19 (fun W hS=>f20 W (q42 _ hS.now)) A21 c22 hc22 (fun W hS=>f23 W (q42 _ hS.now)) (⟨#[1,98,0]⟩ : ByteArray) _ hx57) (fun _ _=>?_)
          refine g_do rfl rfl rfl rfl rfl h55<|g_v rfl (r_eql rfl rfl)<|g_v rfl (r_pick1 rfl h55)<|g_v rfl r_assign<|g_nil<|d_then ?_
          refine c_flat [(0,.bool (decide (x56 = 0)))] ⟨rfl,trivial⟩ (fun u=>?_)
          refine c_ret ?_
          cases hm
          exact d_retC () Try.results7 (res_tmp (res_nil rfl)) trivial (fun W h=>ok_pre (H1:=[_,_]) (R1:=[]) h (fun W hφ=>(q24 _ (q42 _ hφ)))) (.inr rfl)
         replace hm:=ite_f hm (of_decide_eq_false h55)
         refine g_no rfl rfl rfl rfl rfl h55<|g_no rfl rfl rfl rfl rfl h55<|g_v rfl (r_pick0 rfl h55)<|g_v rfl r_assign<|g_nil<|d_then ?_
         refine c_flat [(0,.bool false)] ⟨rfl,trivial⟩ (fun u=>?_)
         refine c_ret ?_
         cases hm
         exact d_retC () Try.results7 (res_tmp (res_nil rfl)) trivial (fun W h=>ok_pre (H1:=[_,_]) (R1:=[]) h (fun W hφ=>(q24 _ (q42 _ hφ)))) (.inr rfl)
        replace hm:=ite_f hm (of_decide_eq_false h52)
        refine g_no rfl rfl rfl rfl rfl h52<|g_no rfl rfl rfl rfl rfl h52<|g_v rfl (r_pick0 rfl h52)<|g_v rfl r_move ?_
        iterate 3 refine g_no rfl rfl rfl rfl rfl rfl ?_
        refine g_v rfl (r_pick0 rfl rfl)<|g_v rfl r_assign<|g_nil<|d_then ?_
        refine c_flat [(0,.bool false)] ⟨rfl,trivial⟩ (fun u=>?_)
        refine c_ret ?_
        cases hm
        exact d_retC () Try.results7 (res_tmp (res_nil rfl)) trivial (fun W h=>ok_pre (H1:=[_,_]) (R1:=[]) h (fun W hφ=>(q24 _ (q42 _ hφ)))) (.inr rfl)
       replace hm:=ite_f hm (of_decide_eq_false h51)
       iterate 3 refine g_no rfl rfl rfl rfl rfl h51 ?_
       refine g_v rfl (r_pick0 rfl h51)<|g_v rfl r_move ?_
       iterate 3 refine g_no rfl rfl rfl rfl rfl rfl ?_
       refine g_v rfl (r_pick0 rfl rfl)<|g_v rfl r_move ?_
       iterate 3 refine g_no rfl rfl rfl rfl rfl rfl ?_
       refine g_v rfl (r_pick0 rfl rfl)<|g_v rfl r_assign<|g_nil<|d_then ?_
       refine c_flat [(0,.bool false)] ⟨rfl,trivial⟩ (fun u=>?_)
       refine c_ret ?_
       cases hm
       exact d_retC () Try.results7 (res_tmp (res_nil rfl)) trivial (fun W h=>ok_pre (H1:=[_,_]) (R1:=[]) h (fun W hφ=>(q24 _ (q42 _ hφ)))) (.inr rfl)
      replace hm:=ite_f hm (of_decide_eq_false h50)
      refine g_no rfl rfl rfl rfl rfl h50<|g_no rfl rfl rfl rfl rfl h50<|g_v rfl (r_pick0 rfl h50)<|g_v rfl r_move ?_
      iterate 4 refine g_no rfl rfl rfl rfl rfl rfl ?_
      refine g_v rfl (r_pick0 rfl rfl)<|g_v rfl r_move ?_
      iterate 3 refine g_no rfl rfl rfl rfl rfl rfl ?_
      refine g_v rfl (r_pick0 rfl rfl)<|g_v rfl r_move ?_
      iterate 3 refine g_no rfl rfl rfl rfl rfl rfl ?_
      refine g_v rfl (r_pick0 rfl rfl)<|g_v rfl r_assign<|g_nil<|d_then ?_
      refine c_flat [(0,.bool false)] ⟨rfl,trivial⟩ (fun u=>?_)
      refine c_ret ?_
      cases hm
      exact d_retC () Try.results7 (res_tmp (res_nil rfl)) trivial (fun W h=>ok_pre (H1:=[_,_]) (R1:=[]) h (fun W hφ=>(q24 _ (q42 _ hφ)))) (.inr rfl)
     replace hm:=ite_f hm (of_decide_eq_false h49)
     refine g_no rfl rfl rfl rfl rfl h49<|g_v rfl (r_pick0 rfl h49)<|g_v rfl r_move ?_
     iterate 3 refine g_no rfl rfl rfl rfl rfl rfl ?_
     refine g_v rfl (r_pick0 rfl rfl)<|g_v rfl r_move ?_
     iterate 4 refine g_no rfl rfl rfl rfl rfl rfl ?_
     refine g_v rfl (r_pick0 rfl rfl)<|g_v rfl r_move ?_
     iterate 3 refine g_no rfl rfl rfl rfl rfl rfl ?_
     refine g_v rfl (r_pick0 rfl rfl)<|g_v rfl r_move ?_
     iterate 3 refine g_no rfl rfl rfl rfl rfl rfl ?_
     refine g_v rfl (r_pick0 rfl rfl)<|g_v rfl r_assign<|g_nil<|d_then ?_
     refine c_flat [(0,.bool false)] ⟨rfl,trivial⟩ (fun u=>?_)
     refine c_ret ?_
     cases hm
     exact d_retC () Try.results7 (res_tmp (res_nil rfl)) trivial (fun W h=>ok_pre (H1:=[_,_]) (R1:=[]) h (fun W hφ=>(q24 _ (q42 _ hφ)))) (.inr rfl)
    replace hm:=ite_f hm (of_decide_eq_false h48)
    refine g_no rfl rfl rfl rfl rfl h48<|g_v rfl (r_pick0 rfl h48)<|g_v rfl r_move<|g_no rfl rfl rfl rfl rfl rfl<|g_no rfl rfl rfl rfl rfl rfl<|g_v rfl (r_pick0 rfl rfl)<|g_v rfl r_move ?_
    iterate 3 refine g_no rfl rfl rfl rfl rfl rfl ?_
    refine g_v rfl (r_pick0 rfl rfl)<|g_v rfl r_move ?_
    iterate 4 refine g_no rfl rfl rfl rfl rfl rfl ?_
    refine g_v rfl (r_pick0 rfl rfl)<|g_v rfl r_move ?_
    iterate 3 refine g_no rfl rfl rfl rfl rfl rfl ?_
    refine g_v rfl (r_pick0 rfl rfl)<|g_v rfl r_move ?_
    iterate 3 refine g_no rfl rfl rfl rfl rfl rfl ?_
    refine g_v rfl (r_pick0 rfl rfl)<|g_v rfl r_assign<|g_nil<|d_then ?_
    refine c_flat [(0,.bool false)] ⟨rfl,trivial⟩ (fun u=>?_)
    refine c_ret ?_
    cases hm
    exact d_retC () Try.results7 (res_tmp (res_nil rfl)) trivial (fun W h=>ok_pre (H1:=[_,_]) (R1:=[]) h (fun W hφ=>(q24 _ (q42 _ hφ)))) (.inr rfl)
   replace hm:=ite_f hm (of_decide_eq_false h47)
   refine g_no rfl rfl rfl rfl rfl h47<|g_v rfl (r_pick0 rfl h47)<|g_v rfl r_move<|g_no rfl rfl rfl rfl rfl rfl<|g_no rfl rfl rfl rfl rfl rfl<|g_v rfl (r_pick0 rfl rfl)<|g_v rfl r_move<|g_no rfl rfl rfl rfl rfl rfl<|g_no rfl rfl rfl rfl rfl rfl<|g_v rfl (r_pick0 rfl rfl) ?_
   refine g_v rfl r_move ?_
   iterate 3 refine g_no rfl rfl rfl rfl rfl rfl ?_
   refine g_v rfl (r_pick0 rfl rfl)<|g_v rfl r_move ?_
   iterate 4 refine g_no rfl rfl rfl rfl rfl rfl ?_
   refine g_v rfl (r_pick0 rfl rfl)<|g_v rfl r_move ?_
   iterate 3 refine g_no rfl rfl rfl rfl rfl rfl ?_
   refine g_v rfl (r_pick0 rfl rfl)<|g_v rfl r_move ?_
   iterate 3 refine g_no rfl rfl rfl rfl rfl rfl ?_
   refine g_v rfl (r_pick0 rfl rfl)<|g_v rfl r_assign<|g_nil<|d_then ?_
   refine c_flat [(0,.bool false)] ⟨rfl,trivial⟩ (fun u=>?_)
   refine c_ret ?_
   cases hm
   exact d_retC () Try.results7 (res_tmp (res_nil rfl)) trivial (fun W h=>ok_pre (H1:=[_,_]) (R1:=[]) h (fun W hφ=>(q24 _ (q42 _ hφ)))) (.inr rfl)
  replace hm:=ite_f hm (of_decide_eq_false h46)
  refine g_no rfl rfl rfl rfl rfl h46<|g_v rfl (r_pick0 rfl h46)<|g_v rfl r_move<|g_no rfl rfl rfl rfl rfl rfl<|g_no rfl rfl rfl rfl rfl rfl<|g_v rfl (r_pick0 rfl rfl)<|g_v rfl r_move<|g_no rfl rfl rfl rfl rfl rfl<|g_no rfl rfl rfl rfl rfl rfl<|g_v rfl (r_pick0 rfl rfl) ?_
  refine g_v rfl r_move<|g_no rfl rfl rfl rfl rfl rfl<|g_no rfl rfl rfl rfl rfl rfl<|g_v rfl (r_pick0 rfl rfl)<|g_v rfl r_move ?_
  iterate 3 refine g_no rfl rfl rfl rfl rfl rfl ?_
  refine g_v rfl (r_pick0 rfl rfl)<|g_v rfl r_move ?_
  iterate 4 refine g_no rfl rfl rfl rfl rfl rfl ?_
  refine g_v rfl (r_pick0 rfl rfl)<|g_v rfl r_move ?_
  iterate 3 refine g_no rfl rfl rfl rfl rfl rfl ?_
  refine g_v rfl (r_pick0 rfl rfl)<|g_v rfl r_move ?_
  iterate 3 refine g_no rfl rfl rfl rfl rfl rfl ?_
  refine g_v rfl (r_pick0 rfl rfl)<|g_v rfl r_assign<|g_nil<|d_then ?_
  refine c_flat [(0,.bool false)] ⟨rfl,trivial⟩ (fun u=>?_)
  refine c_ret ?_
  cases hm
  exact d_retC () Try.results7 (res_tmp (res_nil rfl)) trivial (fun W h=>ok_pre (H1:=[_,_]) (R1:=[]) h (fun W hφ=>(q24 _ (q42 _ hφ)))) (.inr rfl)
 replace hm:=ite_f hm (of_decide_eq_false h45)
 refine g_no rfl rfl rfl rfl rfl h45<|g_v rfl (r_pick0 rfl h45)<|g_v rfl r_move<|g_no rfl rfl rfl rfl rfl rfl<|g_no rfl rfl rfl rfl rfl rfl<|g_v rfl (r_pick0 rfl rfl)<|g_v rfl r_move<|g_no rfl rfl rfl rfl rfl rfl<|g_no rfl rfl rfl rfl rfl rfl<|g_v rfl (r_pick0 rfl rfl) ?_
 refine g_v rfl r_move<|g_no rfl rfl rfl rfl rfl rfl<|g_no rfl rfl rfl rfl rfl rfl<|g_v rfl (r_pick0 rfl rfl)<|g_v rfl r_move<|g_no rfl rfl rfl rfl rfl rfl<|g_no rfl rfl rfl rfl rfl rfl<|g_v rfl (r_pick0 rfl rfl)<|g_v rfl r_move ?_
 iterate 3 refine g_no rfl rfl rfl rfl rfl rfl ?_
 refine g_v rfl (r_pick0 rfl rfl)<|g_v rfl r_move ?_
 iterate 4 refine g_no rfl rfl rfl rfl rfl rfl ?_
 refine g_v rfl (r_pick0 rfl rfl)<|g_v rfl r_move ?_
 iterate 3 refine g_no rfl rfl rfl rfl rfl rfl ?_
 refine g_v rfl (r_pick0 rfl rfl)<|g_v rfl r_move ?_
 iterate 3 refine g_no rfl rfl rfl rfl rfl rfl ?_
 refine g_v rfl (r_pick0 rfl rfl)<|g_v rfl r_assign<|g_nil<|d_then ?_
 refine c_flat [(0,.bool false)] ⟨rfl,trivial⟩ (fun u=>?_)
 refine c_ret ?_
 cases hm
 exact d_retC () Try.results7 (res_tmp (res_nil rfl)) trivial (fun W h=>ok_pre (H1:=[_,_]) (R1:=[]) h (fun W hφ=>(q24 _ (q42 _ hφ)))) (.inr rfl)
noncomputable def m_conf_Check_k2_j2  (b12 : Bool) : Option Int:=
  if b12 = true then
    some 0
  else
    some 1
noncomputable def m_conf_Check_k2_j3 (p0_fNode : Int) (p0_fName : ByteArray) (p0_fText : ByteArray) (p0_fZone : ByteArray) (p0_fHints : List ByteArray) : Option Int:=
  if 2 = 2 then
    (m_conf_node p0_fNode).bind fun x15=>
    if x15 = true then
      (m_conf_none [p0_fName,p0_fText,p0_fZone]).bind fun x19=>
      if x19 = true then
        m_conf_Check_k2_j2 (decide ((p0_fHints.length : Int) = 0))
      else
        m_conf_Check_k2_j2 false
    else
      m_conf_Check_k2_j2 false
  else
    m_conf_Check_k2_j2 false
noncomputable def m_conf_Check_k2_j1 (p0_fNode : Int) (p0_fName : ByteArray) (p0_fText : ByteArray) (p0_fZone : ByteArray) (p0_fHints : List ByteArray) (b3 : Bool) : Option Int:=
  m_conf_Check_k2_j3 p0_fNode p0_fName p0_fText p0_fZone p0_fHints
noncomputable def m_conf_Check_k2 (p0_fNode : Int) (p0_fName : ByteArray) (p0_fText : ByteArray) (p0_fZone : ByteArray) (p0_fHints : List ByteArray) : Option Int:=
  if p0_fNode = 0 then
    m_conf_Check_k2_j1 p0_fNode p0_fName p0_fText p0_fZone p0_fHints (decide ((p0_fHints.length : Int) = 0))
  else
    m_conf_Check_k2_j1 p0_fNode p0_fName p0_fText p0_fZone p0_fHints false
theorem c_conf_Check_k2 {w0 : World} {M : Nat→Prop} {H : List (Nat×Nat×Obj)} {R : List (Nat×Row)} {φ : World→Prop} (p0_fNode : Int) (p0_fName : ByteArray) (p0_fText : ByteArray) (p0_fZone : ByteArray) (p0_fHints : List ByteArray) (Ap0_fHints_0 : Option Addr) (cp0_fHints_0 : Nat) (hcp0_fHints_0 : p0_fHints.length ≤ cp0_fHints_0) (fp0_fHints_0 : ∀ W,(Sta.mk w0 M H R φ).ok W→Cl W Ap0_fHints_0 (p0_fHints.flatMap (fun x : ByteArray=>[Value.string x]))) (r : Int) (hm : m_conf_Check_k2 p0_fNode p0_fName p0_fText p0_fZone p0_fHints = some r) :
    Cn Try.prog 20 #[.agg #[.int .i64 2,.int .i64 p0_fNode,.string p0_fName,.string p0_fText,.string p0_fZone,.slice Ap0_fHints_0 p0_fHints.length cp0_fHints_0]] ⟨w0,M,H,R,φ⟩ (fun x : Unit=>.int .i64 r) (fun x=>True) (fun x=>⟨w0,M,H,R,φ⟩):=by
 unfold m_conf_Check_k2 at hm
 refine cn_intro (fn:=Try.f20) (N:=109) Try.func20 rfl Try.ntmps20 rfl<|c_seq<|c_region ?_
 refine g_e rfl (e_box 100010 rfl) (fun g1 _=>?_)
 refine g_v rfl r_assign<|g_nil<|d_then<|c_seq<|c_region<|g_v rfl r_assign<|g_nil<|d_then<|c_seq ?_
 refine c_cut (ι:=Bool) [1,3,4] (fun b3=>[(4,.bool b3)]) (fun b3=>⟨w0,M,(100010,g1,.cells #[.int .i64 2,.int .i64 p0_fNode,.string p0_fName,.string p0_fText,.string p0_fZone,.slice Ap0_fHints_0 p0_fHints.length cp0_fHints_0] 35 (0,0))::H,R,φ⟩) (fun b3=>m_conf_Check_k2_j1 p0_fNode p0_fName p0_fText p0_fZone p0_fHints b3 = some r) ?_ (fun b3 u hm=>?_)
 ·
  refine c_region<|g_v rfl (r_field (n:=1) Try.underlying35 rfl Try.sizeOf3 rfl rfl)<|g_v rfl (r_load (tag:=100010) rfl rfl rfl Try.isAgg3)<|g_v rfl (r_eql rfl rfl)<|g_v rfl r_move<|g_sta ⟨w0,M,(100010,g1,.cells #[.int .i64 2,.int .i64 p0_fNode,.string p0_fName,.string p0_fText,.string p0_fZone,.slice Ap0_fHints_0 p0_fHints.length cp0_fHints_0] 35 (0,0))::H,R,φ⟩ (fun _ h=>h) ?_
  refine g_if rfl rfl rfl rfl rfl (fun h22=>?_) (fun h22=>?_)
  ·
   replace hm:=ite_t hm (of_decide_eq_true h22)
   refine g_v rfl (r_field (n:=5) Try.underlying35 rfl Try.sizeOf22 rfl rfl)<|g_do rfl rfl rfl rfl rfl h22<|g_v rfl (r_load (tag:=100010) rfl rfl rfl Try.isAgg22)<|g_do rfl rfl rfl rfl rfl h22<|g_v rfl (r_lenL Try.underlying22 rfl)<|g_do rfl rfl rfl rfl rfl h22<|g_v rfl (r_eql rfl rfl)<|g_v rfl (r_pick1 rfl h22)<|g_v rfl r_assign<|g_nil ?_
   exact d_round (decide ((p0_fHints.length : Int) = 0)) hm Nat.zero_lt_one ⟨rfl,rfl,rfl,trivial⟩ (fun W h=>h.phi (fun W hφ=>hφ))
  replace hm:=ite_f hm (of_decide_eq_false h22)
  iterate 3 refine g_no rfl rfl rfl rfl rfl h22 ?_
  refine g_v rfl (r_pick0 rfl h22)<|g_v rfl r_assign<|g_nil ?_
  exact d_round false hm Nat.zero_lt_one ⟨rfl,rfl,rfl,trivial⟩ (fun W h=>h.phi (fun W hφ=>hφ))
 unfold m_conf_Check_k2_j1 at hm
 refine d_flat [(1,.pointer (some ⟨g1,0,none⟩)),(3,.bool false),(4,.bool b3)] ⟨rfl,rfl,rfl,trivial⟩ (fun u=>?_)
 refine d_sta ⟨w0,M,(100010,g1,.cells #[.int .i64 2,.int .i64 p0_fNode,.string p0_fName,.string p0_fText,.string p0_fZone,.slice Ap0_fHints_0 p0_fHints.length cp0_fHints_0] 35 (0,0))::H,R,φ⟩ (fun _ h=>h)<|d_then<|c_seq ?_
 refine c_cut (ι:=Bool) [3] (fun b12=>[(3,.bool b12)]) (fun b12=>⟨w0,M,H,R,φ⟩) (fun b12=>m_conf_Check_k2_j2 b12 = some r) ?_ (fun b12 u hm=>?_)
 ·
  refine c_seq<|c_region<|g_v rfl (r_field (n:=0) Try.underlying35 rfl Try.sizeOf3 rfl rfl)<|g_v rfl (r_load (tag:=100010) rfl rfl rfl Try.isAgg3)<|g_nil<|d_then<|c_block<|c_seq ?_
  refine c_cut (ι:=Unit) [1,3,4,15,16] (fun _=>[(16,.bool (decide (2 = 2)))]) (fun _=>⟨w0,M,(100010,g1,.cells #[.int .i64 2,.int .i64 p0_fNode,.string p0_fName,.string p0_fText,.string p0_fZone,.slice Ap0_fHints_0 p0_fHints.length cp0_fHints_0] 35 (0,0))::H,R,φ⟩) (fun _=>m_conf_Check_k2_j3 p0_fNode p0_fName p0_fText p0_fZone p0_fHints = some r) ?_ (fun _ u hm=>?_)
  ·
   refine c_seq<|c_region<|g_v rfl (r_eql rfl rfl)<|g_v rfl r_assign<|g_nil<|d_then<|c_cond0 rfl (by decide)<|c_region<|g_v rfl (r_eql rfl rfl)<|g_v rfl r_assign ?_
   refine g_nil ?_
   exact d_round () hm Nat.zero_lt_one ⟨rfl,rfl,rfl,rfl,rfl,trivial⟩ (fun W h=>h.phi (fun W hφ=>hφ))
  unfold m_conf_Check_k2_j3 at hm
  refine d_flat [(1,.pointer (some ⟨g1,0,none⟩)),(3,.bool false),(4,.bool b3),(15,.int .i64 2),(16,.bool (decide (2 = 2)))] ⟨rfl,rfl,rfl,rfl,rfl,trivial⟩ (fun u=>?_)
  refine d_then ?_
  refine c_cond rfl (fun h14=>?_) (fun h14=>?_)
  ·
   replace hm:=ite_t hm (of_decide_eq_true h14)
   refine c_region<|g_v rfl (r_field (n:=1) Try.underlying35 rfl Try.sizeOf3 rfl rfl)<|g_v rfl (r_load (tag:=100010) rfl rfl rfl Try.isAgg3) ?_
   replace hm:=bnd hm
   obtain ⟨x15,hx16,hm⟩:=hm
   refine g_cn ⟨w0,M,_,_,φ⟩ (fun _ h=>h) Try.call51 rfl rfl (c_conf_node p0_fNode _ hx16) (fun _ _=>?_)
   refine g_v rfl r_move ?_
   refine g_if rfl rfl rfl rfl rfl (fun h17=>?_) (fun h17=>?_)
   ·
    replace hm:=ite_t hm h17
    refine g_v rfl (r_field (n:=2) Try.underlying35 rfl Try.sizeOf9 rfl rfl)<|g_do rfl rfl rfl rfl rfl h17<|g_v rfl (r_load (tag:=100010) rfl rfl rfl Try.isAgg9)<|g_do rfl rfl rfl rfl rfl h17<|g_v rfl (r_field (n:=3) Try.underlying35 rfl Try.sizeOf9 rfl rfl)<|g_do rfl rfl rfl rfl rfl h17<|g_v rfl (r_load (tag:=100010) rfl rfl rfl Try.isAgg9)<|g_do rfl rfl rfl rfl rfl h17<|g_v rfl (r_field (n:=4) Try.underlying35 rfl Try.sizeOf9 rfl rfl)<|g_do rfl rfl rfl rfl rfl h17 ?_
    refine g_v rfl (r_load (tag:=100010) rfl rfl rfl Try.isAgg9)<|g_do rfl rfl rfl rfl rfl h17 ?_
    refine g_e rfl (e_lit (tag:=100290) (l:=[p0_fName,p0_fText,p0_fZone]) (enc:=(fun x : ByteArray=>[Value.string x])) (sz:=1) rfl Try.underlying22 (lit9_1 _ _ _) rfl rfl (fun _=>rfl)) (fun g18 _=>?_)
    refine g_do rfl rfl rfl rfl rfl h17 ?_
    replace hm:=bnd hm
    obtain ⟨x19,hx20,hm⟩:=hm
    refine g_cn ⟨w0,M,_,_,φ⟩ (fun _ h=>h) Try.call52 rfl rfl (c_conf_none [p0_fName,p0_fText,p0_fZone] (some ⟨g18,0,none⟩) 3 (Nat.le_refl _) (fun W hS=>rowCl (tag:=100290) rfl W hS) _ hx20) (fun _ _=>?_)
    refine g_v rfl (r_pick1 rfl h17)<|g_v rfl r_move<|g_sta ⟨w0,M,(100010,g1,.cells #[.int .i64 2,.int .i64 p0_fNode,.string p0_fName,.string p0_fText,.string p0_fZone,.slice Ap0_fHints_0 p0_fHints.length cp0_fHints_0] 35 (0,0))::H,(100290,⟨.slice (some ⟨g18,0,none⟩) [p0_fName,p0_fText,p0_fZone].length 3,9,1,[p0_fName,p0_fText,p0_fZone].length,[p0_fName,p0_fText,p0_fZone].flatMap (fun x : ByteArray=>[Value.string x])⟩)::R,φ⟩ (fun _ h=>h) ?_
    refine g_if rfl rfl rfl rfl rfl (fun h21=>?_) (fun h21=>?_)
    ·
     replace hm:=ite_t hm h21
     refine g_v rfl (r_field (n:=5) Try.underlying35 rfl Try.sizeOf22 rfl rfl)<|g_do rfl rfl rfl rfl rfl h21<|g_v rfl (r_load (tag:=100010) rfl rfl rfl Try.isAgg22)<|g_do rfl rfl rfl rfl rfl h21<|g_v rfl (r_lenL Try.underlying22 rfl)<|g_do rfl rfl rfl rfl rfl h21<|g_v rfl (r_eql rfl rfl)<|g_v rfl (r_pick1 rfl h21)<|g_v rfl r_assign<|g_nil ?_
     refine d_normal_block ?_
     exact d_round (decide ((p0_fHints.length : Int) = 0)) hm Nat.zero_lt_one ⟨rfl,trivial⟩ (fun W h=>((h.dropR (t:=100290) rfl).dropH (t:=100010) rfl).phi (fun W hφ=>hφ))
    replace hm:=ite_f hm (bool_nt h21)
    iterate 3 refine g_no rfl rfl rfl rfl rfl h21 ?_
    refine g_v rfl (r_pick0 rfl h21)<|g_v rfl r_assign<|g_nil<|d_normal_block ?_
    exact d_round false hm Nat.zero_lt_one ⟨rfl,trivial⟩ (fun W h=>((h.dropR (t:=100290) rfl).dropH (t:=100010) rfl).phi (fun W hφ=>hφ))
   replace hm:=ite_f hm (bool_nt h17)
   iterate 7 refine g_no rfl rfl rfl rfl rfl h17 ?_
   refine g_v rfl (r_pick0 rfl h17)<|g_v rfl r_move ?_
   iterate 4 refine g_no rfl rfl rfl rfl rfl rfl ?_
   refine g_v rfl (r_pick0 rfl rfl)<|g_v rfl r_assign<|g_nil<|d_normal_block ?_
   exact d_round false hm Nat.zero_lt_one ⟨rfl,trivial⟩ (fun W h=>(h.dropH (t:=100010) rfl).phi (fun W hφ=>hφ))
  replace hm:=ite_f hm (of_decide_eq_false h14)
  refine c_seq<|c_region<|g_v rfl (r_eql rfl rfl)<|g_v rfl r_assign<|g_nil<|d_then<|c_cond0 rfl (by decide)<|c_seq<|c_region<|g_v rfl (r_eql rfl rfl) ?_
  refine g_v rfl r_assign<|g_nil<|d_then<|c_cond0 rfl (by decide)<|c_seq<|c_region<|g_v rfl (r_eql rfl rfl)<|g_v rfl r_assign<|g_nil<|d_then ?_
  refine c_cond0 rfl (by decide)<|c_skip<|d_normal_block ?_
  exact d_round false hm Nat.zero_lt_one ⟨rfl,trivial⟩ (fun W h=>(h.dropH (t:=100010) rfl).phi (fun W hφ=>hφ))
 unfold m_conf_Check_k2_j2 at hm
 refine d_flat [(3,.bool b12)] ⟨rfl,trivial⟩ (fun u=>?_)
 refine d_sta ⟨w0,M,H,R,φ⟩ (fun _ h=>h)<|d_then<|c_seq<|c_seq<|c_region<|g_v rfl r_move<|g_v rfl (r_not rfl)<|g_nil<|d_then ?_
 refine c_cond rfl (fun h13=>?_) (fun h13=>?_)
 ·
  have h13' : b12 = false:=by revert h13; cases b12 <;> simp
  replace hm:=ite_f hm (bool_nt h13')
  refine c_seq<|c_region<|g_v rfl r_assign<|g_nil<|d_then<|c_ret<|d_ret_then ?_
  cases hm
  exact d_retC () Try.results20 (res_tmp (res_nil rfl)) trivial (fun W h=>ok_pre (H1:=[]) (R1:=[]) h (fun W hφ=>hφ)) (.inr rfl)
 have h13' : b12 = true:=by revert h13; cases b12 <;> simp
 replace hm:=ite_t hm h13'
 refine c_skip<|d_then<|c_seq<|c_region<|g_v rfl r_assign<|g_nil<|d_then<|c_ret ?_
 cases hm
 exact d_retC () Try.results20 (res_tmp (res_nil rfl)) trivial (fun W h=>ok_pre (H1:=[]) (R1:=[]) h (fun W hφ=>hφ)) (.inr rfl)
noncomputable def m_slices_Delete_29 (p0 : List Int) (p1 : Int) (p2 : Int) : Option (List Int):=
  (cutMid p0 p1 p2).bind fun l1=>
  if p1 = p2 then
    some p0
  else
    (cutHi p0 p1).bind fun l7=>
    (cutLo p0 p2).bind fun l8=>
    some (l7++l8)
theorem c_slices_Delete_29 {w0 : World} {M : Nat→Prop} {H : List (Nat×Nat×Obj)} {R : List (Nat×Row)} {φ : World→Prop} (p0 : List Int) (Ap0_0 : Option Addr) (cp0_0 : Nat) (hcp0_0 : p0.length ≤ cp0_0) (p1 : Int) (p2 : Int) (r : (List Int)) (hm : m_slices_Delete_29 p0 p1 p2 = some r) :
    Cn Try.prog 29 #[.slice Ap0_0 p0.length cp0_0,.int .i64 p1,.int .i64 p2] ⟨w0,M,H,(1000,⟨.slice Ap0_0 p0.length cp0_0,3,1,p0.length,p0.flatMap (fun x : Int=>[Value.int .i64 x])⟩)::R,φ⟩ (fun x : Option Addr×Nat=>.slice x.1 r.length x.2) (fun x=>r.length ≤ x.2) (fun x=>⟨w0,M,H,(2000,⟨.slice x.1 r.length x.2,3,1,r.length,r.flatMap (fun x : Int=>[Value.int .i64 x])⟩)::R,φ⟩):=by
 unfold m_slices_Delete_29 at hm
 refine cn_intro (fn:=Try.f29) (N:=33) Try.func29 rfl Try.ntmps29 rfl<|c_seq<|c_region<|g_v rfl r_assign<|g_nil<|d_then<|c_seq<|c_region ?_
 iterate 4 refine g_v rfl r_move ?_
 refine g_v rfl (r_lenL Try.underlying25 rfl) ?_
 replace hm:=bnd hm
 obtain ⟨l1,hl1,hm⟩:=hm
 refine g_v rfl (r_lcutMidF Try.underlying25 Try.sizeOf3 rfl hcp0_0 rfl rfl rfl rfl hl1)<|g_nil<|d_then<|c_seq<|c_seq<|c_region<|g_v rfl r_move<|g_v rfl r_move<|g_v rfl (r_eql rfl rfl)<|g_nil ?_
 refine d_then ?_
 refine c_flat [(0,.slice Ap0_0 p0.length cp0_0),(1,.int .i64 p1),(2,.int .i64 p2),(16,.bool (decide (p1 = p2)))] ⟨rfl,rfl,rfl,rfl,trivial⟩ (fun u=>?_)
 refine c_sta ⟨w0,M,H,(1000,⟨.slice Ap0_0 p0.length cp0_0,3,1,p0.length,p0.flatMap (fun x : Int=>[Value.int .i64 x])⟩)::R,φ⟩ (fun _ h=>h) ?_
 refine c_cond rfl (fun h2=>?_) (fun h2=>?_)
 ·
  replace hm:=ite_t hm (of_decide_eq_true h2)
  refine c_seq<|c_region<|g_v rfl r_move<|g_v rfl r_assign<|g_nil<|d_then<|c_ret<|d_ret_then ?_
  cases hm
  refine d_sta _ (fun W h=>ok_frontR (t:=1000) (t':=2000) h rfl) ?_
  exact d_retC (Ap0_0,cp0_0) Try.results29 (res_tmp (res_nil rfl)) hcp0_0 (fun W h=>h.phi (fun W hφ=>hφ)) (.inr rfl)
 replace hm:=ite_f hm (of_decide_eq_false h2)
 refine c_skip<|d_then<|c_seq<|c_region<|g_v rfl r_move<|g_v rfl (r_lenL Try.underlying25 rfl)<|g_v rfl r_assign<|g_nil<|d_then<|c_seq ?_
 refine ga_start (n:=8) ⟨w0,M,H,R,φ⟩ [] #[false,false,false,false,false,false,false,false] (fun W h=>(h.dropR (t:=1000) rfl).phi (fun W hφ=>hφ)) mixed rfl rfl<|ga_v (i:=0) (bz 8 1) rfl (by kernel_rfl) (fun _ _ _ _ h=>h) rfl (r_move)<|ga_v (i:=1) (bz 8 3) rfl (by kernel_rfl) (fun _ _ _ _ h=>h) rfl (r_move) ?_
 replace hm:=bnd hm
 obtain ⟨l7,hl7,hm⟩:=hm
 refine ga_v (i:=2) (bz 8 7) rfl (by kernel_rfl) (fun _ _ _ _ h=>h) rfl (r_lcutHi Try.underlying25 Try.sizeOf3 rfl hcp0_0 rfl hl7)<|ga_v (i:=3) (bz 8 15) rfl (by kernel_rfl) (fun _ _ _ _ h=>h) rfl (r_move)<|ga_r (i:=4) (bz 8 31) rfl (by kernel_rfl) (by decide) rfl (r_move) ?_
 replace hm:=bnd hm
 obtain ⟨l8,hl8,hm⟩:=hm
 refine ga_r (i:=5) (bz 8 63) rfl (by kernel_rfl) (by decide) rfl (r_lcutLo Try.underlying25 Try.sizeOf3 rfl hcp0_0 rfl hl8) ?_
 refine ga_e (i:=6) (bz 8 127) rfl (by kernel_rfl) (by decide) rfl  (e_appSelf (tag:=1000) (enc:=(fun x : Int=>[Value.int .i64 x])) Try.underlying25 inf3_11 (by decide) (fun _=>rfl) (fun _=>rfl) rfl hl7 rfl hl8 (cutMid_le hl1) hcp0_0 rfl) (fun _ W _ h=>(h.dropR (t:=1000) rfl).phi (fun W hφ=>hφ)) (fun _ _=>?_)
 refine ga_r (i:=7) (bz 8 255) rfl (by kernel_rfl) (by decide) rfl (r_assign)<|ga_done (by kernel_rfl)<|d_then ?_
 refine c_flat [(0,.slice Ap0_0 (l7++l8).length cp0_0),(7,.int .i64 (p0.length : Int))] ⟨rfl,rfl,trivial⟩ (fun u=>?_)
 refine c_sta ⟨w0,M,H,(1000,⟨.slice Ap0_0 (l7++l8).length cp0_0,3,1,(l7++l8).length,(l7++l8).flatMap (fun x : Int=>[Value.int .i64 x])⟩)::R,φ⟩ (fun _ h=>h)<|c_seq<|c_region<|g_v rfl r_move<|g_v rfl r_move<|g_v rfl (r_lenL Try.underlying25 rfl)<|g_v rfl r_move<|g_v rfl (r_lcutUp (n:=p0.length) Try.underlying25 Try.sizeOf3 rfl rfl rfl (self_len hl7 hl8 (cutMid_le hl1)) hcp0_0)<|g_e0 (e_clearT (tag:=1000) (enc:=(fun x : Int=>[Value.int .i64 x])) (l:=(l7++l8)) Try.underlying25 Try.zeroValue3 rfl rfl rfl (Nat.le_trans (Nat.le_of_eq (Nat.add_sub_cancel' (self_len hl7 hl8 (cutMid_le hl1)))) hcp0_0) rfl)<|g_nil ?_
 refine d_then<|c_seq<|c_region<|g_v rfl r_move<|g_v rfl r_assign<|g_nil<|d_then<|c_ret ?_
 cases hm
 refine d_sta _ (fun W h=>ok_frontR (t:=1000) (t':=2000) h rfl) ?_
 exact d_retC (Ap0_0,cp0_0) Try.results29 (res_tmp (res_nil rfl)) (Nat.le_trans (self_len hl7 hl8 (cutMid_le hl1)) hcp0_0) (fun W h=>h.phi (fun W hφ=>hφ)) (.inr rfl)
noncomputable def m_conf_Apply_k2_j2 (l351 : List ByteArray) (l354 : List GAnchor) (p0 : GConf) (l357 : List GFlush) (l370 : List Int) : Option (GConf×Int):=
  some ((⟨l370,l351,l354,p0.fEpoch,l357⟩ : GConf),0)
noncomputable def m_conf_Apply_k2_j1 (p1_fNode : Int) (p0 : GConf) (l348 : List Int) (l351 : List ByteArray) (l354 : List GAnchor) (l357 : List GFlush) : Option (GConf×Int):=
  (m_slices_BinarySearch_27 l348 p1_fNode).bind fun (z363 : Int×Bool)=>
  if z363.2 = true then
    (m_slices_Delete_29 l348 z363.1 (w64 (z363.1 + 1))).bind fun x382=>
    m_conf_Apply_k2_j2 l351 l354 p0 l357 x382
  else
    some (p0,13)
noncomputable def m_conf_Apply_k2 (p0 : GConf) (p1_fNode : Int) (p1_fName : ByteArray) (p1_fText : ByteArray) (p1_fZone : ByteArray) (p1_fHints : List ByteArray) : Option (GConf×Int):=
  (m_conf_Check_k2 p1_fNode p1_fName p1_fText p1_fZone p1_fHints).bind fun x4=>
  if x4 ≠ 0 then
    some (p0,x4)
  else
    (m_slices_Clone_23 p0.fRing).bind fun x523=>
    (m_slices_Clone_24 p0.fHints).bind fun x529=>
    (m_slices_Clone_25 p0.fAnchors).bind fun x534=>
    (m_slices_Clone_26 p0.fFlushes).bind fun x539=>
    m_conf_Apply_k2_j1 p1_fNode p0 x523 x529 x534 x539
theorem c_conf_Apply_k2 {w0 : World} {M : Nat→Prop} {H : List (Nat×Nat×Obj)} {R : List (Nat×Row)} {φ : World→Prop} (p0 : GConf) (Ap0_0 : Option Addr) (cp0_0 : Nat) (hcp0_0 : p0.fRing.length ≤ cp0_0) (fp0_0 : ∀ W,φ W→Cl W Ap0_0 (p0.fRing.flatMap (fun x : Int=>[Value.int .i64 x]))) (Ap0_1 : Option Addr) (cp0_1 : Nat) (hcp0_1 : p0.fHints.length ≤ cp0_1) (fp0_1 : ∀ W,φ W→Cl W Ap0_1 (p0.fHints.flatMap (fun x : ByteArray=>[Value.string x]))) (Ap0_2 : Option Addr) (cp0_2 : Nat) (hcp0_2 : p0.fAnchors.length ≤ cp0_2) (fp0_2 : ∀ W,φ W→Cl W Ap0_2 (p0.fAnchors.flatMap GAnchor.enc)) (Ap0_3 : Option Addr) (cp0_3 : Nat) (hcp0_3 : p0.fFlushes.length ≤ cp0_3) (fp0_3 : ∀ W,φ W→Cl W Ap0_3 (p0.fFlushes.flatMap GFlush.enc)) (p1_fNode : Int) (p1_fName : ByteArray) (p1_fText : ByteArray) (p1_fZone : ByteArray) (p1_fHints : List ByteArray) (Ap1_fHints_0 : Option Addr) (cp1_fHints_0 : Nat) (hcp1_fHints_0 : p1_fHints.length ≤ cp1_fHints_0) (fp1_fHints_0 : ∀ W,(Sta.mk w0 M H R φ).ok W→Cl W Ap1_fHints_0 (p1_fHints.flatMap (fun x : ByteArray=>[Value.string x]))) (r : GConf×Int) (hm : m_conf_Apply_k2 p0 p1_fNode p1_fName p1_fText p1_fZone p1_fHints = some r) :
    Cn Try.prog 10 #[.agg #[.slice Ap0_0 p0.fRing.length cp0_0,.slice Ap0_1 p0.fHints.length cp0_1,.slice Ap0_2 p0.fAnchors.length cp0_2,.int .i64 p0.fEpoch,.slice Ap0_3 p0.fFlushes.length cp0_3],.agg #[.int .i64 2,.int .i64 p1_fNode,.string p1_fName,.string p1_fText,.string p1_fZone,.slice Ap1_fHints_0 p1_fHints.length cp1_fHints_0]] ⟨w0,M,H,R,φ⟩ (fun x : Option Addr×Nat×Option Addr×Nat×Option Addr×Nat×Option Addr×Nat=>.tuple #[.agg #[.slice x.1 r.1.fRing.length x.2.1,.slice x.2.2.1 r.1.fHints.length x.2.2.2.1,.slice x.2.2.2.2.1 r.1.fAnchors.length x.2.2.2.2.2.1,.int .i64 r.1.fEpoch,.slice x.2.2.2.2.2.2.1 r.1.fFlushes.length x.2.2.2.2.2.2.2],.int .i64 r.2]) (fun x=>r.1.fRing.length ≤ x.2.1∧r.1.fHints.length ≤ x.2.2.2.1∧r.1.fAnchors.length ≤ x.2.2.2.2.2.1∧r.1.fFlushes.length ≤ x.2.2.2.2.2.2.2) (fun x=>⟨w0,M,H,R,fun W=>φ W∧Cl W x.1 (r.1.fRing.flatMap (fun x : Int=>[Value.int .i64 x]))∧Cl W x.2.2.1 (r.1.fHints.flatMap (fun x : ByteArray=>[Value.string x]))∧Cl W x.2.2.2.2.1 (r.1.fAnchors.flatMap GAnchor.enc)∧Cl W x.2.2.2.2.2.2.1 (r.1.fFlushes.flatMap GFlush.enc)⟩):=by
 unfold m_conf_Apply_k2 at hm
 refine cn_intro (fn:=Try.f10) (N:=133) Try.func10 rfl Try.ntmps10 rfl<|c_seq<|c_region ?_
 refine g_e rfl (e_box 100020 rfl) (fun g1 _=>?_)
 refine g_e rfl (e_box 100030 rfl) (fun g2 _=>?_)
 refine g_e rfl (e_alloc 100040 Try.zeroValue29) (fun g3 _=>?_)
 refine g_v rfl r_assign<|g_nil<|d_then<|c_seq<|c_region<|g_v rfl (r_loadA (tag:=100030) rfl rfl Try.isAgg35 Try.sizeOf35 rfl rfl) ?_
 replace hm:=bnd hm
 obtain ⟨x4,hx5,hm⟩:=hm
 refine g_cn ⟨w0,M,_,_,φ⟩ (fun _ h=>h) Try.call20 rfl rfl (c_conf_Check_k2 p1_fNode p1_fName p1_fText p1_fZone p1_fHints Ap1_fHints_0 cp1_fHints_0 hcp1_fHints_0 (fun W hS=>fp1_fHints_0 W (ok_pre (H1:=[_,_,_]) (R1:=[]) hS (fun W h=>h))) _ hx5) (fun _ _=>?_)
 refine g_v rfl r_assign<|g_nil<|d_then<|c_seq<|c_seq<|c_region<|g_v rfl r_move<|g_v rfl (r_neq rfl rfl)<|g_nil<|d_then ?_
 refine c_flat [(2,.pointer (some ⟨g1,0,none⟩)),(3,.pointer (some ⟨g2,0,none⟩)),(4,.pointer (some ⟨g3,0,none⟩)),(6,.int .i64 x4),(14,.bool (decide (x4 ≠ 0)))] ⟨rfl,rfl,rfl,rfl,rfl,trivial⟩ (fun u=>?_)
 refine c_sta ⟨w0,M,(100040,g3,.cells #[.slice none 0 0,.slice none 0 0,.slice none 0 0,.int .i64 0,.slice none 0 0] 29 (0,0))::(100030,g2,.cells #[.int .i64 2,.int .i64 p1_fNode,.string p1_fName,.string p1_fText,.string p1_fZone,.slice Ap1_fHints_0 p1_fHints.length cp1_fHints_0] 35 (0,0))::(100020,g1,.cells #[.slice Ap0_0 p0.fRing.length cp0_0,.slice Ap0_1 p0.fHints.length cp0_1,.slice Ap0_2 p0.fAnchors.length cp0_2,.int .i64 p0.fEpoch,.slice Ap0_3 p0.fFlushes.length cp0_3] 29 (0,0))::H,R,φ⟩ (fun _ h=>h) ?_
 refine c_cond rfl (fun h6=>?_) (fun h6=>?_)
 ·
  replace hm:=ite_t hm (of_decide_eq_true h6)
  refine c_seq<|c_region<|g_v rfl (r_loadA (tag:=100020) rfl rfl Try.isAgg29 Try.sizeOf29 rfl rfl)<|g_v rfl r_move<|g_storeL (tag:=100040) rfl rfl rfl rfl Try.sizeOf29 rfl rfl<|g_v rfl r_assign<|g_nil<|d_then<|c_ret<|d_ret_then ?_
  cases hm
  exact d_retC (Ap0_0,cp0_0,Ap0_1,cp0_1,Ap0_2,cp0_2,Ap0_3,cp0_3) Try.results10 (res_agg (tag:=100040) rfl rfl Try.isAgg29 Try.sizeOf29 (res_tmp (res_nil rfl))) ⟨hcp0_0,hcp0_1,hcp0_2,hcp0_3⟩ (fun W h=>ok_pre (H1:=[_,_,_]) (R1:=[]) h (fun W hφ=>⟨hφ,(fun W h=>fp0_0 W h) W hφ,(fun W h=>fp0_1 W h) W hφ,(fun W h=>fp0_2 W h) W hφ,(fun W h=>fp0_3 W h) W hφ⟩)) (.inr rfl)
 replace hm:=ite_f hm (of_decide_eq_false h6)
 refine c_skip<|d_then<|c_seq ?_
 refine c_cut (ι:=(List Int)×(List ByteArray)×(List GAnchor)×(List GFlush)×Nat×Option Addr×Nat×Option Addr×Nat×Option Addr×Nat×Option Addr×Nat) [2,3,4,7] (fun ⟨l348,l351,l354,l357,g347,A349,c350,A352,c353,A355,c356,A358,c359⟩=>[(7,.pointer (some ⟨g347,0,none⟩))]) (fun ⟨l348,l351,l354,l357,g347,A349,c350,A352,c353,A355,c356,A358,c359⟩=>⟨w0,M,(100070,g347,.cells #[.slice A349 l348.length c350,.slice A352 l351.length c353,.slice A355 l354.length c356,.int .i64 p0.fEpoch,.slice A358 l357.length c359] 29 (0,0))::(100040,g3,.cells #[.slice none 0 0,.slice none 0 0,.slice none 0 0,.int .i64 0,.slice none 0 0] 29 (0,0))::(100030,g2,.cells #[.int .i64 2,.int .i64 p1_fNode,.string p1_fName,.string p1_fText,.string p1_fZone,.slice Ap1_fHints_0 p1_fHints.length cp1_fHints_0] 35 (0,0))::(100020,g1,.cells #[.slice Ap0_0 p0.fRing.length cp0_0,.slice Ap0_1 p0.fHints.length cp0_1,.slice Ap0_2 p0.fAnchors.length cp0_2,.int .i64 p0.fEpoch,.slice Ap0_3 p0.fFlushes.length cp0_3] 29 (0,0))::H,(100190,⟨.slice A349 l348.length c350,3,1,l348.length,l348.flatMap (fun x : Int=>[Value.int .i64 x])⟩)::(100220,⟨.slice A352 l351.length c353,9,1,l351.length,l351.flatMap (fun x : ByteArray=>[Value.string x])⟩)::(100250,⟨.slice A355 l354.length c356,43,2,l354.length,l354.flatMap GAnchor.enc⟩)::(100300,⟨.slice A358 l357.length c359,54,2,l357.length,l357.flatMap GFlush.enc⟩)::R,φ⟩) (fun ⟨l348,l351,l354,l357,g347,A349,c350,A352,c353,A355,c356,A358,c359⟩=>m_conf_Apply_k2_j1 p1_fNode p0 l348 l351 l354 l357 = some r∧l348.length ≤ c350∧l351.length ≤ c353∧l354.length ≤ c356∧l357.length ≤ c359) ?_ (fun ⟨l348,l351,l354,l357,g347,A349,c350,A352,c353,A355,c356,A358,c359⟩ u ⟨hm,hc350,hc353,hc356,hc359⟩=>?_)
 ·
  refine ga_start (n:=17) ⟨w0,M,(100040,g3,.cells #[.slice none 0 0,.slice none 0 0,.slice none 0 0,.int .i64 0,.slice none 0 0] 29 (0,0))::(100030,g2,.cells #[.int .i64 2,.int .i64 p1_fNode,.string p1_fName,.string p1_fText,.string p1_fZone,.slice Ap1_fHints_0 p1_fHints.length cp1_fHints_0] 35 (0,0))::(100020,g1,.cells #[.slice Ap0_0 p0.fRing.length cp0_0,.slice Ap0_1 p0.fHints.length cp0_1,.slice Ap0_2 p0.fAnchors.length cp0_2,.int .i64 p0.fEpoch,.slice Ap0_3 p0.fFlushes.length cp0_3] 29 (0,0))::H,R,φ⟩ [16] #[false,false,false,false,false,false,false,false,false,false,false,false,false,false,false,false,false] (fun W h=>h.phi (fun W hφ=>hφ)) mixed rfl rfl<|ga_v (i:=0) (bz 17 1) rfl (by kernel_rfl) (fun _ _ _ _ h=>h) rfl (r_field (n:=0) Try.underlying29 rfl Try.sizeOf25 rfl rfl)<|ga_v (i:=1) (bz 17 3) rfl (by kernel_rfl) (fun _ _ _ _ h=>h) rfl (r_load (tag:=100020) rfl rfl rfl Try.isAgg25)<|ga_v (i:=3) (bz 17 11) rfl (by kernel_rfl) (fun _ _ _ _ h=>h) rfl (r_field (n:=1) Try.underlying29 rfl Try.sizeOf22 rfl rfl)<|ga_v (i:=4) (bz 17 27) rfl (by kernel_rfl) (fun _ _ _ _ h=>h) rfl (r_load (tag:=100020) rfl rfl rfl Try.isAgg22)<|ga_v (i:=6) (bz 17 91) rfl (by kernel_rfl) (fun _ _ _ _ h=>h) rfl (r_field (n:=2) Try.underlying29 rfl Try.sizeOf26 rfl rfl)<|ga_v (i:=7) (bz 17 219) rfl (by kernel_rfl) (fun _ _ _ _ h=>h) rfl (r_load (tag:=100020) rfl rfl rfl Try.isAgg26)<|ga_v (i:=9) (bz 17 731) rfl (by kernel_rfl) (fun _ _ _ _ h=>h) rfl (r_field (n:=3) Try.underlying29 rfl Try.sizeOf3 rfl rfl)<|ga_v (i:=10) (bz 17 1755) rfl (by kernel_rfl) (fun _ _ _ _ h=>h) rfl (r_load (tag:=100020) rfl rfl rfl Try.isAgg3)<|ga_v (i:=11) (bz 17 3803) rfl (by kernel_rfl) (fun _ _ _ _ h=>h) rfl (r_field (n:=4) Try.underlying29 rfl Try.sizeOf27 rfl rfl) ?_
  refine ga_v (i:=12) (bz 17 7899) rfl (by kernel_rfl) (fun _ _ _ _ h=>h) rfl (r_load (tag:=100020) rfl rfl rfl Try.isAgg27) ?_
  replace hm:=bnd hm
  obtain ⟨x523,hx524,hm⟩:=hm
  refine ga_two (i:=2) (j:=15) (bz 17 7903) (bz 17 40667) rfl rfl (by kernel_rfl) (by decide) (by decide) ?_ ?_
  ·
   refine ex_cn (first:=#[]) ⟨w0,M,_,_,φ⟩ (fun _ h=>h) Try.call23 rfl rfl rfl (c_slices_Clone_23 p0.fRing Ap0_0 cp0_0 hcp0_0 (fun W hS=>fp0_0 W hS.now) _ hx524) (fun ⟨A526,c527⟩ W hc527 h=>((ok_frontR (t:=2000) (t':=100190) h rfl).dropR (t:=100190) rfl).phi (fun W hφ=>hφ)) (fun ⟨A526,c527⟩ hc527=>?_)
   refine ga_sta _ (fun W h=>(ok_frontR (t:=2000) (t':=100190) h rfl)) ?_
   replace hm:=bnd hm
   obtain ⟨x529,hx530,hm⟩:=hm
   refine ga_two (i:=5) (j:=15) (bz 17 7935) (bz 17 40671) rfl rfl (by kernel_rfl) (by decide) (by decide) ?_ ?_
   ·
    refine ex_cn (first:=#[]) ⟨w0,M,_,_,φ⟩ (fun _ h=>h) Try.call24 rfl rfl rfl (c_slices_Clone_24 p0.fHints Ap0_1 cp0_1 hcp0_1 (fun W hS=>fp0_1 W hS.now) _ hx530) (fun ⟨A531,c532⟩ W hc532 h=>(((ok_frontR (t:=2000) (t':=100220) h rfl).dropR (t:=100220) rfl).dropR (t:=100190) rfl).phi (fun W hφ=>hφ)) (fun ⟨A531,c532⟩ hc532=>?_)
    refine ga_sta _ (fun W h=>(ok_frontR (t:=2000) (t':=100220) h rfl)) ?_
    replace hm:=bnd hm
    obtain ⟨x534,hx535,hm⟩:=hm
    refine ga_two (i:=8) (j:=15) (bz 17 8191) (bz 17 40703) rfl rfl (by kernel_rfl) (by decide) (by decide) ?_ ?_
    ·
     refine ex_cn (first:=#[]) ⟨w0,M,_,_,φ⟩ (fun _ h=>h) Try.call25 rfl rfl rfl (c_slices_Clone_25 p0.fAnchors Ap0_2 cp0_2 hcp0_2 (fun W hS=>fp0_2 W hS.now) _ hx535) (fun ⟨A536,c537⟩ W hc537 h=>((((ok_frontR (t:=2000) (t':=100250) h rfl).dropR (t:=100250) rfl).dropR (t:=100220) rfl).dropR (t:=100190) rfl).phi (fun W hφ=>hφ)) (fun ⟨A536,c537⟩ hc537=>?_)
     refine ga_sta _ (fun W h=>(ok_frontR (t:=2000) (t':=100250) h rfl)) ?_
     replace hm:=bnd hm
     obtain ⟨x539,hx540,hm⟩:=hm
     refine ga_two (i:=13) (j:=15) (bz 17 16383) (bz 17 40959) rfl rfl (by kernel_rfl) (by decide) (by decide) ?_ ?_
     ·
      refine ex_cn (first:=#[]) ⟨w0,M,_,_,φ⟩ (fun _ h=>h) Try.call26 rfl rfl rfl (c_slices_Clone_26 p0.fFlushes Ap0_3 cp0_3 hcp0_3 (fun W hS=>fp0_3 W hS.now) _ hx540) (fun ⟨A541,c542⟩ W hc542 h=>(((((ok_frontR (t:=2000) (t':=100300) h rfl).dropR (t:=100300) rfl).dropR (t:=100250) rfl).dropR (t:=100220) rfl).dropR (t:=100190) rfl).phi (fun W hφ=>hφ)) (fun ⟨A541,c542⟩ hc542=>?_)
      refine ga_sta _ (fun W h=>(ok_frontR (t:=2000) (t':=100300) h rfl))<|ga_v (i:=14) (bz 17 32767) rfl (by kernel_rfl) (fun _ _ _ _ h=>h) rfl (r_build _ rfl (bld29_17 _ _ _ _ _ _ _ _ _ _ _ _ _)) ?_
      refine ga_e (i:=15) (bz 17 65535) rfl (by kernel_rfl) (by decide) rfl  (e_alloc 100070 Try.zeroValue29) (fun g544 W _ h=>(((((h.dropR (t:=100300) rfl).dropR (t:=100250) rfl).dropR (t:=100220) rfl).dropR (t:=100190) rfl).dropH (t:=100070) rfl).phi (fun W hφ=>hφ)) (fun g544 _=>?_)
      refine ga_lastL (i:=16) (tag:=100070) (bz 17 131071) rfl (by kernel_rfl) (by decide) rfl rfl rfl rfl Try.sizeOf29 rfl rfl<|gz_done (by kernel_rfl) ?_
      exact d_round (x523,x529,x534,x539,g544,A526,c527,A531,c532,A536,c537,A541,c542) ⟨hm,hc527,hc532,hc537,hc542⟩ Nat.zero_lt_one ⟨rfl,rfl,rfl,rfl,trivial⟩ (fun W h=>(ok_frontR (t:=100190) (t':=100190) (ok_frontR (t:=100220) (t':=100220) (ok_frontR (t:=100250) (t':=100250) (ok_frontR (t:=100300) (t':=100300) h rfl) rfl) rfl) rfl).phi (fun W hφ=>hφ))
     refine ex_e rfl (e_alloc 100070 Try.zeroValue29) (fun g545 W _ h=>((((h.dropR (t:=100250) rfl).dropR (t:=100220) rfl).dropR (t:=100190) rfl).dropH (t:=100070) rfl).phi (fun W hφ=>hφ)) (fun g545 _=>?_)
     refine ga_cn (first:=#[]) (i:=13) (bz 17 49151) rfl (by kernel_rfl) (by decide)  ⟨w0,M,_,_,φ⟩ (fun _ h=>h) Try.call26 rfl rfl rfl (c_slices_Clone_26 p0.fFlushes Ap0_3 cp0_3 hcp0_3 (fun W hS=>fp0_3 W hS.now) _ hx540) (fun ⟨A546,c547⟩ W hc547 h=>((((((ok_frontR (t:=2000) (t':=100300) h rfl).dropR (t:=100300) rfl).dropR (t:=100250) rfl).dropR (t:=100220) rfl).dropR (t:=100190) rfl).dropH (t:=100070) rfl).phi (fun W hφ=>hφ)) (fun ⟨A546,c547⟩ hc547=>?_)
     refine ga_sta _ (fun W h=>(ok_frontR (t:=2000) (t':=100300) h rfl))<|ga_r (i:=14) (bz 17 65535) rfl (by kernel_rfl) (by decide) rfl (r_build _ rfl (bld29_17 _ _ _ _ _ _ _ _ _ _ _ _ _))<|ga_lastL (i:=16) (tag:=100070) (bz 17 131071) rfl (by kernel_rfl) (by decide) rfl rfl rfl rfl Try.sizeOf29 rfl rfl<|gz_done (by kernel_rfl) ?_
     exact d_round (x523,x529,x534,x539,g545,A526,c527,A531,c532,A536,c537,A546,c547) ⟨hm,hc527,hc532,hc537,hc547⟩ Nat.zero_lt_one ⟨rfl,rfl,rfl,rfl,trivial⟩ (fun W h=>(ok_frontR (t:=100190) (t':=100190) (ok_frontR (t:=100220) (t':=100220) (ok_frontR (t:=100250) (t':=100250) (ok_frontR (t:=100300) (t':=100300) h rfl) rfl) rfl) rfl).phi (fun W hφ=>hφ))
    refine ex_e rfl (e_alloc 100070 Try.zeroValue29) (fun g549 W _ h=>(((h.dropR (t:=100220) rfl).dropR (t:=100190) rfl).dropH (t:=100070) rfl).phi (fun W hφ=>hφ)) (fun g549 _=>?_)
    refine ga_cn (first:=#[]) (i:=8) (bz 17 40959) rfl (by kernel_rfl) (by decide)  ⟨w0,M,_,_,φ⟩ (fun _ h=>h) Try.call25 rfl rfl rfl (c_slices_Clone_25 p0.fAnchors Ap0_2 cp0_2 hcp0_2 (fun W hS=>fp0_2 W hS.now) _ hx535) (fun ⟨A550,c551⟩ W hc551 h=>(((((ok_frontR (t:=2000) (t':=100250) h rfl).dropR (t:=100250) rfl).dropR (t:=100220) rfl).dropR (t:=100190) rfl).dropH (t:=100070) rfl).phi (fun W hφ=>hφ)) (fun ⟨A550,c551⟩ hc551=>?_)
    refine ga_sta _ (fun W h=>(ok_frontR (t:=2000) (t':=100250) h rfl)) ?_
    replace hm:=bnd hm
    obtain ⟨x553,hx554,hm⟩:=hm
    refine ga_cn (first:=#[]) (i:=13) (bz 17 49151) rfl (by kernel_rfl) (by decide)  ⟨w0,M,_,_,φ⟩ (fun _ h=>h) Try.call26 rfl rfl rfl (c_slices_Clone_26 p0.fFlushes Ap0_3 cp0_3 hcp0_3 (fun W hS=>fp0_3 W hS.now) _ hx554) (fun ⟨A555,c556⟩ W hc556 h=>((((((ok_frontR (t:=2000) (t':=100300) h rfl).dropR (t:=100300) rfl).dropR (t:=100250) rfl).dropR (t:=100220) rfl).dropR (t:=100190) rfl).dropH (t:=100070) rfl).phi (fun W hφ=>hφ)) (fun ⟨A555,c556⟩ hc556=>?_)
    refine ga_sta _ (fun W h=>(ok_frontR (t:=2000) (t':=100300) h rfl))<|ga_r (i:=14) (bz 17 65535) rfl (by kernel_rfl) (by decide) rfl (r_build _ rfl (bld29_17 _ _ _ _ _ _ _ _ _ _ _ _ _))<|ga_lastL (i:=16) (tag:=100070) (bz 17 131071) rfl (by kernel_rfl) (by decide) rfl rfl rfl rfl Try.sizeOf29 rfl rfl<|gz_done (by kernel_rfl) ?_
    exact d_round (x523,x529,x534,x553,g549,A526,c527,A531,c532,A550,c551,A555,c556) ⟨hm,hc527,hc532,hc551,hc556⟩ Nat.zero_lt_one ⟨rfl,rfl,rfl,rfl,trivial⟩ (fun W h=>(ok_frontR (t:=100190) (t':=100190) (ok_frontR (t:=100220) (t':=100220) (ok_frontR (t:=100250) (t':=100250) (ok_frontR (t:=100300) (t':=100300) h rfl) rfl) rfl) rfl).phi (fun W hφ=>hφ))
   refine ex_e rfl (e_alloc 100070 Try.zeroValue29) (fun g558 W _ h=>((h.dropR (t:=100190) rfl).dropH (t:=100070) rfl).phi (fun W hφ=>hφ)) (fun g558 _=>?_)
   refine ga_cn (first:=#[]) (i:=5) (bz 17 40703) rfl (by kernel_rfl) (by decide)  ⟨w0,M,_,_,φ⟩ (fun _ h=>h) Try.call24 rfl rfl rfl (c_slices_Clone_24 p0.fHints Ap0_1 cp0_1 hcp0_1 (fun W hS=>fp0_1 W hS.now) _ hx530) (fun ⟨A559,c560⟩ W hc560 h=>((((ok_frontR (t:=2000) (t':=100220) h rfl).dropR (t:=100220) rfl).dropR (t:=100190) rfl).dropH (t:=100070) rfl).phi (fun W hφ=>hφ)) (fun ⟨A559,c560⟩ hc560=>?_)
   refine ga_sta _ (fun W h=>(ok_frontR (t:=2000) (t':=100220) h rfl)) ?_
   replace hm:=bnd hm
   obtain ⟨x562,hx563,hm⟩:=hm
   refine ga_cn (first:=#[]) (i:=8) (bz 17 40959) rfl (by kernel_rfl) (by decide)  ⟨w0,M,_,_,φ⟩ (fun _ h=>h) Try.call25 rfl rfl rfl (c_slices_Clone_25 p0.fAnchors Ap0_2 cp0_2 hcp0_2 (fun W hS=>fp0_2 W hS.now) _ hx563) (fun ⟨A564,c565⟩ W hc565 h=>(((((ok_frontR (t:=2000) (t':=100250) h rfl).dropR (t:=100250) rfl).dropR (t:=100220) rfl).dropR (t:=100190) rfl).dropH (t:=100070) rfl).phi (fun W hφ=>hφ)) (fun ⟨A564,c565⟩ hc565=>?_)
   refine ga_sta _ (fun W h=>(ok_frontR (t:=2000) (t':=100250) h rfl)) ?_
   replace hm:=bnd hm
   obtain ⟨x567,hx568,hm⟩:=hm
   refine ga_cn (first:=#[]) (i:=13) (bz 17 49151) rfl (by kernel_rfl) (by decide)  ⟨w0,M,_,_,φ⟩ (fun _ h=>h) Try.call26 rfl rfl rfl (c_slices_Clone_26 p0.fFlushes Ap0_3 cp0_3 hcp0_3 (fun W hS=>fp0_3 W hS.now) _ hx568) (fun ⟨A569,c570⟩ W hc570 h=>((((((ok_frontR (t:=2000) (t':=100300) h rfl).dropR (t:=100300) rfl).dropR (t:=100250) rfl).dropR (t:=100220) rfl).dropR (t:=100190) rfl).dropH (t:=100070) rfl).phi (fun W hφ=>hφ)) (fun ⟨A569,c570⟩ hc570=>?_)
   refine ga_sta _ (fun W h=>(ok_frontR (t:=2000) (t':=100300) h rfl))<|ga_r (i:=14) (bz 17 65535) rfl (by kernel_rfl) (by decide) rfl (r_build _ rfl (bld29_17 _ _ _ _ _ _ _ _ _ _ _ _ _))<|ga_lastL (i:=16) (tag:=100070) (bz 17 131071) rfl (by kernel_rfl) (by decide) rfl rfl rfl rfl Try.sizeOf29 rfl rfl<|gz_done (by kernel_rfl) ?_
   exact d_round (x523,x529,x562,x567,g558,A526,c527,A559,c560,A564,c565,A569,c570) ⟨hm,hc527,hc560,hc565,hc570⟩ Nat.zero_lt_one ⟨rfl,rfl,rfl,rfl,trivial⟩ (fun W h=>(ok_frontR (t:=100190) (t':=100190) (ok_frontR (t:=100220) (t':=100220) (ok_frontR (t:=100250) (t':=100250) (ok_frontR (t:=100300) (t':=100300) h rfl) rfl) rfl) rfl).phi (fun W hφ=>hφ))
  refine ex_e rfl (e_alloc 100070 Try.zeroValue29) (fun g572 W _ h=>(h.dropH (t:=100070) rfl).phi (fun W hφ=>hφ)) (fun g572 _=>?_)
  refine ga_cn (first:=#[]) (i:=2) (bz 17 40671) rfl (by kernel_rfl) (by decide)  ⟨w0,M,_,_,φ⟩ (fun _ h=>h) Try.call23 rfl rfl rfl (c_slices_Clone_23 p0.fRing Ap0_0 cp0_0 hcp0_0 (fun W hS=>fp0_0 W hS.now) _ hx524) (fun ⟨A573,c574⟩ W hc574 h=>(((ok_frontR (t:=2000) (t':=100190) h rfl).dropR (t:=100190) rfl).dropH (t:=100070) rfl).phi (fun W hφ=>hφ)) (fun ⟨A573,c574⟩ hc574=>?_)
  refine ga_sta _ (fun W h=>(ok_frontR (t:=2000) (t':=100190) h rfl)) ?_
  replace hm:=bnd hm
  obtain ⟨x576,hx577,hm⟩:=hm
  refine ga_cn (first:=#[]) (i:=5) (bz 17 40703) rfl (by kernel_rfl) (by decide)  ⟨w0,M,_,_,φ⟩ (fun _ h=>h) Try.call24 rfl rfl rfl (c_slices_Clone_24 p0.fHints Ap0_1 cp0_1 hcp0_1 (fun W hS=>fp0_1 W hS.now) _ hx577) (fun ⟨A578,c579⟩ W hc579 h=>((((ok_frontR (t:=2000) (t':=100220) h rfl).dropR (t:=100220) rfl).dropR (t:=100190) rfl).dropH (t:=100070) rfl).phi (fun W hφ=>hφ)) (fun ⟨A578,c579⟩ hc579=>?_)
  refine ga_sta _ (fun W h=>(ok_frontR (t:=2000) (t':=100220) h rfl)) ?_
  replace hm:=bnd hm
  obtain ⟨x581,hx582,hm⟩:=hm
  refine ga_cn (first:=#[]) (i:=8) (bz 17 40959) rfl (by kernel_rfl) (by decide)  ⟨w0,M,_,_,φ⟩ (fun _ h=>h) Try.call25 rfl rfl rfl (c_slices_Clone_25 p0.fAnchors Ap0_2 cp0_2 hcp0_2 (fun W hS=>fp0_2 W hS.now) _ hx582) (fun ⟨A583,c584⟩ W hc584 h=>(((((ok_frontR (t:=2000) (t':=100250) h rfl).dropR (t:=100250) rfl).dropR (t:=100220) rfl).dropR (t:=100190) rfl).dropH (t:=100070) rfl).phi (fun W hφ=>hφ)) (fun ⟨A583,c584⟩ hc584=>?_)
  refine ga_sta _ (fun W h=>(ok_frontR (t:=2000) (t':=100250) h rfl)) ?_
  replace hm:=bnd hm
  obtain ⟨x586,hx587,hm⟩:=hm
  refine ga_cn (first:=#[]) (i:=13) (bz 17 49151) rfl (by kernel_rfl) (by decide)  ⟨w0,M,_,_,φ⟩ (fun _ h=>h) Try.call26 rfl rfl rfl (c_slices_Clone_26 p0.fFlushes Ap0_3 cp0_3 hcp0_3 (fun W hS=>fp0_3 W hS.now) _ hx587) (fun ⟨A588,c589⟩ W hc589 h=>((((((ok_frontR (t:=2000) (t':=100300) h rfl).dropR (t:=100300) rfl).dropR (t:=100250) rfl).dropR (t:=100220) rfl).dropR (t:=100190) rfl).dropH (t:=100070) rfl).phi (fun W hφ=>hφ)) (fun ⟨A588,c589⟩ hc589=>?_)
  refine ga_sta _ (fun W h=>(ok_frontR (t:=2000) (t':=100300) h rfl))<|ga_r (i:=14) (bz 17 65535) rfl (by kernel_rfl) (by decide) rfl (r_build _ rfl (bld29_17 _ _ _ _ _ _ _ _ _ _ _ _ _))<|ga_lastL (i:=16) (tag:=100070) (bz 17 131071) rfl (by kernel_rfl) (by decide) rfl rfl rfl rfl Try.sizeOf29 rfl rfl<|gz_done (by kernel_rfl) ?_
  exact d_round (x523,x576,x581,x586,g572,A573,c574,A578,c579,A583,c584,A588,c589) ⟨hm,hc574,hc579,hc584,hc589⟩ Nat.zero_lt_one ⟨rfl,rfl,rfl,rfl,trivial⟩ (fun W h=>(ok_frontR (t:=100190) (t':=100190) (ok_frontR (t:=100220) (t':=100220) (ok_frontR (t:=100250) (t':=100250) (ok_frontR (t:=100300) (t':=100300) h rfl) rfl) rfl) rfl).phi (fun W hφ=>hφ))
 unfold m_conf_Apply_k2_j1 at hm
 refine d_flat [(2,.pointer (some ⟨g1,0,none⟩)),(3,.pointer (some ⟨g2,0,none⟩)),(4,.pointer (some ⟨g3,0,none⟩)),(7,.pointer (some ⟨g347,0,none⟩))] ⟨rfl,rfl,rfl,rfl,trivial⟩ (fun u=>?_)
 refine d_sta ⟨w0,M,(100070,g347,.cells #[.slice A349 l348.length c350,.slice A352 l351.length c353,.slice A355 l354.length c356,.int .i64 p0.fEpoch,.slice A358 l357.length c359] 29 (0,0))::(100040,g3,.cells #[.slice none 0 0,.slice none 0 0,.slice none 0 0,.int .i64 0,.slice none 0 0] 29 (0,0))::(100030,g2,.cells #[.int .i64 2,.int .i64 p1_fNode,.string p1_fName,.string p1_fText,.string p1_fZone,.slice Ap1_fHints_0 p1_fHints.length cp1_fHints_0] 35 (0,0))::(100020,g1,.cells #[.slice Ap0_0 p0.fRing.length cp0_0,.slice Ap0_1 p0.fHints.length cp0_1,.slice Ap0_2 p0.fAnchors.length cp0_2,.int .i64 p0.fEpoch,.slice Ap0_3 p0.fFlushes.length cp0_3] 29 (0,0))::H,(100190,⟨.slice A349 l348.length c350,3,1,l348.length,l348.flatMap (fun x : Int=>[Value.int .i64 x])⟩)::(100220,⟨.slice A352 l351.length c353,9,1,l351.length,l351.flatMap (fun x : ByteArray=>[Value.string x])⟩)::(100250,⟨.slice A355 l354.length c356,43,2,l354.length,l354.flatMap GAnchor.enc⟩)::(100300,⟨.slice A358 l357.length c359,54,2,l357.length,l357.flatMap GFlush.enc⟩)::R,φ⟩ (fun _ h=>h)<|d_then<|c_seq<|c_region<|g_v rfl (r_field (n:=0) Try.underlying29 rfl Try.sizeOf25 rfl rfl)<|g_v rfl (r_load (tag:=100070) rfl rfl rfl Try.isAgg25)<|g_v rfl (r_field (n:=1) Try.underlying35 rfl Try.sizeOf3 rfl rfl)<|g_v rfl (r_load (tag:=100030) rfl rfl rfl Try.isAgg3) ?_
 replace hm:=bnd hm
 obtain ⟨⟨x360,x361⟩,hx362,hm⟩:=hm
 refine g_cn ⟨w0,M,_,_,φ⟩ (fun _ h=>h) Try.call27 rfl rfl (c_slices_BinarySearch_27 l348 A349 c350 hc350 (fun W hS=>rowCl (tag:=100190) rfl W hS) p1_fNode _ hx362) (fun _ _=>?_)
 refine g_v rfl r_move<|g_v rfl (r_extract rfl rfl)<|g_v rfl (r_extract rfl rfl)<|g_v rfl r_assign<|g_v rfl r_assign<|g_nil<|d_then ?_
 refine c_flat [(2,.pointer (some ⟨g1,0,none⟩)),(3,.pointer (some ⟨g2,0,none⟩)),(4,.pointer (some ⟨g3,0,none⟩)),(7,.pointer (some ⟨g347,0,none⟩)),(8,.int .i64 x360),(9,.bool x361)] ⟨rfl,rfl,rfl,rfl,rfl,rfl,trivial⟩ (fun u=>?_)
 refine c_seq ?_
 refine c_cut (ι:=(List Int)×Option Addr×Nat) [4,7] (fun ⟨l370,A371,c372⟩=>[]) (fun ⟨l370,A371,c372⟩=>⟨w0,M,(100070,g347,.cells #[.slice A371 l370.length c372,.slice A352 l351.length c353,.slice A355 l354.length c356,.int .i64 p0.fEpoch,.slice A358 l357.length c359] 29 (0,0))::(100040,g3,.cells #[.slice none 0 0,.slice none 0 0,.slice none 0 0,.int .i64 0,.slice none 0 0] 29 (0,0))::H,(100190,⟨.slice A371 l370.length c372,3,1,l370.length,l370.flatMap (fun x : Int=>[Value.int .i64 x])⟩)::(100220,⟨.slice A352 l351.length c353,9,1,l351.length,l351.flatMap (fun x : ByteArray=>[Value.string x])⟩)::(100250,⟨.slice A355 l354.length c356,43,2,l354.length,l354.flatMap GAnchor.enc⟩)::(100300,⟨.slice A358 l357.length c359,54,2,l357.length,l357.flatMap GFlush.enc⟩)::R,φ⟩) (fun ⟨l370,A371,c372⟩=>m_conf_Apply_k2_j2 l351 l354 p0 l357 l370 = some r∧l370.length ≤ c372) ?_ (fun ⟨l370,A371,c372⟩ u ⟨hm,hc372⟩=>?_)
 ·
  refine c_seq<|c_region<|g_v rfl (r_field (n:=0) Try.underlying35 rfl Try.sizeOf3 rfl rfl)<|g_v rfl (r_load (tag:=100030) rfl rfl rfl Try.isAgg3)<|g_nil<|d_then<|c_block<|c_seq<|c_region<|g_v rfl (r_eql rfl rfl) ?_
  refine g_v rfl r_assign<|g_nil<|d_then<|c_cond0 rfl (by decide)<|c_seq<|c_region<|g_v rfl (r_eql rfl rfl)<|g_v rfl r_assign<|g_nil<|d_then ?_
  refine c_cond1 rfl (by decide)<|c_seq<|c_seq<|c_region<|g_v rfl r_move<|g_v rfl (r_not rfl)<|g_nil<|d_then ?_
  refine c_cond rfl (fun h381=>?_) (fun h381=>?_)
  ·
   have h381' : x361 = false:=by revert h381; cases x361 <;> simp
   replace hm:=ite_f hm (bool_nt h381')
   refine c_seq<|c_region<|g_v rfl (r_loadA (tag:=100020) rfl rfl Try.isAgg29 Try.sizeOf29 rfl rfl)<|g_storeL (tag:=100040) rfl rfl rfl rfl Try.sizeOf29 rfl rfl<|g_v rfl r_assign<|g_nil<|d_then ?_
   refine c_flat [(4,.pointer (some ⟨g3,0,none⟩)),(5,.int .i64 13)] ⟨rfl,rfl,trivial⟩ (fun u=>?_)
   refine c_sta ⟨w0,M,(100070,g347,.cells #[.slice A349 l348.length c350,.slice A352 l351.length c353,.slice A355 l354.length c356,.int .i64 p0.fEpoch,.slice A358 l357.length c359] 29 (0,0))::(100040,g3,.cells #[.slice Ap0_0 p0.fRing.length cp0_0,.slice Ap0_1 p0.fHints.length cp0_1,.slice Ap0_2 p0.fAnchors.length cp0_2,.int .i64 p0.fEpoch,.slice Ap0_3 p0.fFlushes.length cp0_3] 29 (0,0))::(100030,g2,.cells #[.int .i64 2,.int .i64 p1_fNode,.string p1_fName,.string p1_fText,.string p1_fZone,.slice Ap1_fHints_0 p1_fHints.length cp1_fHints_0] 35 (0,0))::(100020,g1,.cells #[.slice Ap0_0 p0.fRing.length cp0_0,.slice Ap0_1 p0.fHints.length cp0_1,.slice Ap0_2 p0.fAnchors.length cp0_2,.int .i64 p0.fEpoch,.slice Ap0_3 p0.fFlushes.length cp0_3] 29 (0,0))::H,(100190,⟨.slice A349 l348.length c350,3,1,l348.length,l348.flatMap (fun x : Int=>[Value.int .i64 x])⟩)::(100220,⟨.slice A352 l351.length c353,9,1,l351.length,l351.flatMap (fun x : ByteArray=>[Value.string x])⟩)::(100250,⟨.slice A355 l354.length c356,43,2,l354.length,l354.flatMap GAnchor.enc⟩)::(100300,⟨.slice A358 l357.length c359,54,2,l357.length,l357.flatMap GFlush.enc⟩)::R,φ⟩ (fun _ h=>h)<|c_ret<|d_ret_then<|d_ret_block<|d_ret_then<|d_ret_then ?_
   cases hm
   exact d_retC (Ap0_0,cp0_0,Ap0_1,cp0_1,Ap0_2,cp0_2,Ap0_3,cp0_3) Try.results10 (res_agg (tag:=100040) rfl rfl Try.isAgg29 Try.sizeOf29 (res_tmp (res_nil rfl))) ⟨hcp0_0,hcp0_1,hcp0_2,hcp0_3⟩ (fun W h=>ok_pre (H1:=[_,_,_,_]) (R1:=[_,_,_,_]) h (fun W hφ=>⟨hφ,(fun W h=>fp0_0 W h) W hφ,(fun W h=>fp0_1 W h) W hφ,(fun W h=>fp0_2 W h) W hφ,(fun W h=>fp0_3 W h) W hφ⟩)) (.inr rfl)
  have h381' : x361 = true:=by revert h381; cases x361 <;> simp
  replace hm:=ite_t hm h381'
  refine c_skip<|d_then<|c_region<|g_v rfl (r_field (n:=0) Try.underlying29 rfl Try.sizeOf25 rfl rfl)<|g_v rfl (r_load (tag:=100070) rfl rfl rfl Try.isAgg25)<|g_v rfl r_move<|g_v rfl r_move<|g_v rfl (r_add rfl rfl rfl) ?_
  replace hm:=bnd hm
  obtain ⟨x382,hx383,hm⟩:=hm
  refine g_cn ⟨w0,M,(100070,g347,.cells #[.slice A349 l348.length c350,.slice A352 l351.length c353,.slice A355 l354.length c356,.int .i64 p0.fEpoch,.slice A358 l357.length c359] 29 (0,0))::(100040,g3,.cells #[.slice none 0 0,.slice none 0 0,.slice none 0 0,.int .i64 0,.slice none 0 0] 29 (0,0))::(100030,g2,.cells #[.int .i64 2,.int .i64 p1_fNode,.string p1_fName,.string p1_fText,.string p1_fZone,.slice Ap1_fHints_0 p1_fHints.length cp1_fHints_0] 35 (0,0))::(100020,g1,.cells #[.slice Ap0_0 p0.fRing.length cp0_0,.slice Ap0_1 p0.fHints.length cp0_1,.slice Ap0_2 p0.fAnchors.length cp0_2,.int .i64 p0.fEpoch,.slice Ap0_3 p0.fFlushes.length cp0_3] 29 (0,0))::H,(1000,⟨.slice A349 l348.length c350,3,1,l348.length,l348.flatMap (fun x : Int=>[Value.int .i64 x])⟩)::(100220,⟨.slice A352 l351.length c353,9,1,l351.length,l351.flatMap (fun x : ByteArray=>[Value.string x])⟩)::(100250,⟨.slice A355 l354.length c356,43,2,l354.length,l354.flatMap GAnchor.enc⟩)::(100300,⟨.slice A358 l357.length c359,54,2,l357.length,l357.flatMap GFlush.enc⟩)::R,φ⟩ (fun W h=>(ok_frontR (t:=100190) (t':=1000) h rfl)) Try.call29 rfl rfl (c_slices_Delete_29 l348 A349 c350 hc350 x360 (w64 (x360 + 1)) _ hx383) (fun ⟨A384,c385⟩ hc385=>?_)
  refine g_sta _ (fun W h=>(ok_frontR (t:=2000) (t':=100190) h rfl))<|g_v rfl (r_field (n:=0) Try.underlying29 rfl Try.sizeOf25 rfl rfl)<|g_storeL (tag:=100070) rfl rfl rfl rfl Try.sizeOf25 rfl rfl<|g_nil<|d_normal_block ?_
  exact d_round (x382,A384,c385) ⟨hm,hc385⟩ Nat.zero_lt_one ⟨rfl,rfl,trivial⟩ (fun W h=>((h.dropH (t:=100030) rfl).dropH (t:=100020) rfl).phi (fun W hφ=>hφ))
 unfold m_conf_Apply_k2_j2 at hm
 refine d_flat [(4,.pointer (some ⟨g3,0,none⟩)),(7,.pointer (some ⟨g347,0,none⟩))] ⟨rfl,rfl,trivial⟩ (fun u=>?_)
 refine d_sta ⟨w0,M,(100070,g347,.cells #[.slice A371 l370.length c372,.slice A352 l351.length c353,.slice A355 l354.length c356,.int .i64 p0.fEpoch,.slice A358 l357.length c359] 29 (0,0))::(100040,g3,.cells #[.slice none 0 0,.slice none 0 0,.slice none 0 0,.int .i64 0,.slice none 0 0] 29 (0,0))::H,(100190,⟨.slice A371 l370.length c372,3,1,l370.length,l370.flatMap (fun x : Int=>[Value.int .i64 x])⟩)::(100220,⟨.slice A352 l351.length c353,9,1,l351.length,l351.flatMap (fun x : ByteArray=>[Value.string x])⟩)::(100250,⟨.slice A355 l354.length c356,43,2,l354.length,l354.flatMap GAnchor.enc⟩)::(100300,⟨.slice A358 l357.length c359,54,2,l357.length,l357.flatMap GFlush.enc⟩)::R,φ⟩ (fun _ h=>h)<|d_then<|c_seq<|c_region<|g_v rfl (r_loadA (tag:=100070) rfl rfl Try.isAgg29 Try.sizeOf29 rfl rfl)<|g_storeL (tag:=100040) rfl rfl rfl rfl Try.sizeOf29 rfl rfl<|g_v rfl r_assign<|g_nil<|d_then<|c_ret ?_
 cases hm
 refine d_shut (tag:=100190) rfl (fun φ373 q373'=>?_)
 have q373 : ∀ W,φ373 W→φ W:=fun W h=>(q373' W h).1
 have f374:=fun (W : World) (h : φ373 W)=>(q373' W h).2
 refine d_shut (tag:=100220) rfl (fun φ375 q375'=>?_)
 have q375 : ∀ W,φ375 W→φ373 W:=fun W h=>(q375' W h).1
 have f376:=fun (W : World) (h : φ375 W)=>(q375' W h).2
 refine d_shut (tag:=100250) rfl (fun φ377 q377'=>?_)
 have q377 : ∀ W,φ377 W→φ375 W:=fun W h=>(q377' W h).1
 have f378:=fun (W : World) (h : φ377 W)=>(q377' W h).2
 refine d_shut (tag:=100300) rfl (fun φ379 q379'=>?_)
 have q379 : ∀ W,φ379 W→φ377 W:=fun W h=>(q379' W h).1
 have f380:=fun (W : World) (h : φ379 W)=>(q379' W h).2
 exact d_retC (A371,c372,A352,c353,A355,c356,A358,c359) Try.results10 (res_agg (tag:=100040) rfl rfl Try.isAgg29 Try.sizeOf29 (res_tmp (res_nil rfl))) ⟨hc372,hc353,hc356,hc359⟩ (fun W h=>ok_pre (H1:=[_,_]) (R1:=[]) h (fun W hφ=>⟨(q373 _ (q375 _ (q377 _ (q379 _ hφ)))),(fun W h=>f374 W (q375 _ (q377 _ (q379 _ h)))) W hφ,(fun W h=>f376 W (q377 _ (q379 _ h))) W hφ,(fun W h=>f378 W (q379 _ h)) W hφ,(fun W h=>f380 W h) W hφ⟩)) (.inr rfl)
theorem lit3_20 (z0 : Int) : Try.prog.builtSlice 3 1 [(0,.int .i64 z0)] = some #[.int .i64 z0]:=by kernel_rfl
noncomputable def m_conf_Apply_k1_j2 (l351 : List ByteArray) (l354 : List GAnchor) (p0 : GConf) (l357 : List GFlush) (l371 : List Int) : Option (GConf×Int):=
  some ((⟨l371,l351,l354,p0.fEpoch,l357⟩ : GConf),0)
noncomputable def m_conf_Apply_k1_j1 (p1_fNode : Int) (p0 : GConf) (l348 : List Int) (l351 : List ByteArray) (l354 : List GAnchor) (l357 : List GFlush) : Option (GConf×Int):=
  (m_slices_BinarySearch_27 l348 p1_fNode).bind fun (z363 : Int×Bool)=>
  if z363.2 = true then
    some (p0,13)
  else
    (m_slices_Insert_28 l348 z363.1 [p1_fNode]).bind fun x384=>
    m_conf_Apply_k1_j2 l351 l354 p0 l357 x384
noncomputable def m_conf_Apply_k1 (p0 : GConf) (p1_fNode : Int) (p1_fName : ByteArray) (p1_fText : ByteArray) (p1_fZone : ByteArray) (p1_fHints : List ByteArray) : Option (GConf×Int):=
  (m_conf_Check_k1 p1_fNode p1_fName p1_fText p1_fZone p1_fHints).bind fun x4=>
  if x4 ≠ 0 then
    some (p0,x4)
  else
    (m_slices_Clone_23 p0.fRing).bind fun x525=>
    (m_slices_Clone_24 p0.fHints).bind fun x531=>
    (m_slices_Clone_25 p0.fAnchors).bind fun x536=>
    (m_slices_Clone_26 p0.fFlushes).bind fun x541=>
    m_conf_Apply_k1_j1 p1_fNode p0 x525 x531 x536 x541
theorem c_conf_Apply_k1 {w0 : World} {M : Nat→Prop} {H : List (Nat×Nat×Obj)} {R : List (Nat×Row)} {φ : World→Prop} (p0 : GConf) (Ap0_0 : Option Addr) (cp0_0 : Nat) (hcp0_0 : p0.fRing.length ≤ cp0_0) (fp0_0 : ∀ W,φ W→Cl W Ap0_0 (p0.fRing.flatMap (fun x : Int=>[Value.int .i64 x]))) (Ap0_1 : Option Addr) (cp0_1 : Nat) (hcp0_1 : p0.fHints.length ≤ cp0_1) (fp0_1 : ∀ W,φ W→Cl W Ap0_1 (p0.fHints.flatMap (fun x : ByteArray=>[Value.string x]))) (Ap0_2 : Option Addr) (cp0_2 : Nat) (hcp0_2 : p0.fAnchors.length ≤ cp0_2) (fp0_2 : ∀ W,φ W→Cl W Ap0_2 (p0.fAnchors.flatMap GAnchor.enc)) (Ap0_3 : Option Addr) (cp0_3 : Nat) (hcp0_3 : p0.fFlushes.length ≤ cp0_3) (fp0_3 : ∀ W,φ W→Cl W Ap0_3 (p0.fFlushes.flatMap GFlush.enc)) (p1_fNode : Int) (p1_fName : ByteArray) (p1_fText : ByteArray) (p1_fZone : ByteArray) (p1_fHints : List ByteArray) (Ap1_fHints_0 : Option Addr) (cp1_fHints_0 : Nat) (hcp1_fHints_0 : p1_fHints.length ≤ cp1_fHints_0) (fp1_fHints_0 : ∀ W,(Sta.mk w0 M H R φ).ok W→Cl W Ap1_fHints_0 (p1_fHints.flatMap (fun x : ByteArray=>[Value.string x]))) (r : GConf×Int) (hm : m_conf_Apply_k1 p0 p1_fNode p1_fName p1_fText p1_fZone p1_fHints = some r) :
    Cn Try.prog 10 #[.agg #[.slice Ap0_0 p0.fRing.length cp0_0,.slice Ap0_1 p0.fHints.length cp0_1,.slice Ap0_2 p0.fAnchors.length cp0_2,.int .i64 p0.fEpoch,.slice Ap0_3 p0.fFlushes.length cp0_3],.agg #[.int .i64 1,.int .i64 p1_fNode,.string p1_fName,.string p1_fText,.string p1_fZone,.slice Ap1_fHints_0 p1_fHints.length cp1_fHints_0]] ⟨w0,M,H,R,φ⟩ (fun x : Option Addr×Nat×Option Addr×Nat×Option Addr×Nat×Option Addr×Nat=>.tuple #[.agg #[.slice x.1 r.1.fRing.length x.2.1,.slice x.2.2.1 r.1.fHints.length x.2.2.2.1,.slice x.2.2.2.2.1 r.1.fAnchors.length x.2.2.2.2.2.1,.int .i64 r.1.fEpoch,.slice x.2.2.2.2.2.2.1 r.1.fFlushes.length x.2.2.2.2.2.2.2],.int .i64 r.2]) (fun x=>r.1.fRing.length ≤ x.2.1∧r.1.fHints.length ≤ x.2.2.2.1∧r.1.fAnchors.length ≤ x.2.2.2.2.2.1∧r.1.fFlushes.length ≤ x.2.2.2.2.2.2.2) (fun x=>⟨w0,M,H,R,fun W=>φ W∧Cl W x.1 (r.1.fRing.flatMap (fun x : Int=>[Value.int .i64 x]))∧Cl W x.2.2.1 (r.1.fHints.flatMap (fun x : ByteArray=>[Value.string x]))∧Cl W x.2.2.2.2.1 (r.1.fAnchors.flatMap GAnchor.enc)∧Cl W x.2.2.2.2.2.2.1 (r.1.fFlushes.flatMap GFlush.enc)⟩):=by
 unfold m_conf_Apply_k1 at hm
 refine cn_intro (fn:=Try.f10) (N:=133) Try.func10 rfl Try.ntmps10 rfl<|c_seq<|c_region ?_
 refine g_e rfl (e_box 100020 rfl) (fun g1 _=>?_)
 refine g_e rfl (e_box 100030 rfl) (fun g2 _=>?_)
 refine g_e rfl (e_alloc 100040 Try.zeroValue29) (fun g3 _=>?_)
 refine g_v rfl r_assign<|g_nil<|d_then<|c_seq<|c_region<|g_v rfl (r_loadA (tag:=100030) rfl rfl Try.isAgg35 Try.sizeOf35 rfl rfl) ?_
 replace hm:=bnd hm
 obtain ⟨x4,hx5,hm⟩:=hm
 refine g_cn ⟨w0,M,_,_,φ⟩ (fun _ h=>h) Try.call20 rfl rfl (c_conf_Check_k1 p1_fNode p1_fName p1_fText p1_fZone p1_fHints Ap1_fHints_0 cp1_fHints_0 hcp1_fHints_0 (fun W hS=>fp1_fHints_0 W (ok_pre (H1:=[_,_,_]) (R1:=[]) hS (fun W h=>h))) _ hx5) (fun _ _=>?_)
 refine g_v rfl r_assign<|g_nil<|d_then<|c_seq<|c_seq<|c_region<|g_v rfl r_move<|g_v rfl (r_neq rfl rfl)<|g_nil<|d_then ?_
 refine c_flat [(2,.pointer (some ⟨g1,0,none⟩)),(3,.pointer (some ⟨g2,0,none⟩)),(4,.pointer (some ⟨g3,0,none⟩)),(6,.int .i64 x4),(14,.bool (decide (x4 ≠ 0)))] ⟨rfl,rfl,rfl,rfl,rfl,trivial⟩ (fun u=>?_)
 refine c_sta ⟨w0,M,(100040,g3,.cells #[.slice none 0 0,.slice none 0 0,.slice none 0 0,.int .i64 0,.slice none 0 0] 29 (0,0))::(100030,g2,.cells #[.int .i64 1,.int .i64 p1_fNode,.string p1_fName,.string p1_fText,.string p1_fZone,.slice Ap1_fHints_0 p1_fHints.length cp1_fHints_0] 35 (0,0))::(100020,g1,.cells #[.slice Ap0_0 p0.fRing.length cp0_0,.slice Ap0_1 p0.fHints.length cp0_1,.slice Ap0_2 p0.fAnchors.length cp0_2,.int .i64 p0.fEpoch,.slice Ap0_3 p0.fFlushes.length cp0_3] 29 (0,0))::H,R,φ⟩ (fun _ h=>h) ?_
 refine c_cond rfl (fun h6=>?_) (fun h6=>?_)
 ·
  replace hm:=ite_t hm (of_decide_eq_true h6)
  refine c_seq<|c_region<|g_v rfl (r_loadA (tag:=100020) rfl rfl Try.isAgg29 Try.sizeOf29 rfl rfl)<|g_v rfl r_move<|g_storeL (tag:=100040) rfl rfl rfl rfl Try.sizeOf29 rfl rfl<|g_v rfl r_assign<|g_nil<|d_then<|c_ret<|d_ret_then ?_
  cases hm
  exact d_retC (Ap0_0,cp0_0,Ap0_1,cp0_1,Ap0_2,cp0_2,Ap0_3,cp0_3) Try.results10 (res_agg (tag:=100040) rfl rfl Try.isAgg29 Try.sizeOf29 (res_tmp (res_nil rfl))) ⟨hcp0_0,hcp0_1,hcp0_2,hcp0_3⟩ (fun W h=>ok_pre (H1:=[_,_,_]) (R1:=[]) h (fun W hφ=>⟨hφ,(fun W h=>fp0_0 W h) W hφ,(fun W h=>fp0_1 W h) W hφ,(fun W h=>fp0_2 W h) W hφ,(fun W h=>fp0_3 W h) W hφ⟩)) (.inr rfl)
 replace hm:=ite_f hm (of_decide_eq_false h6)
 refine c_skip<|d_then<|c_seq ?_
 refine c_cut (ι:=(List Int)×(List ByteArray)×(List GAnchor)×(List GFlush)×Nat×Option Addr×Nat×Option Addr×Nat×Option Addr×Nat×Option Addr×Nat) [2,3,4,7] (fun ⟨l348,l351,l354,l357,g347,A349,c350,A352,c353,A355,c356,A358,c359⟩=>[(7,.pointer (some ⟨g347,0,none⟩))]) (fun ⟨l348,l351,l354,l357,g347,A349,c350,A352,c353,A355,c356,A358,c359⟩=>⟨w0,M,(100070,g347,.cells #[.slice A349 l348.length c350,.slice A352 l351.length c353,.slice A355 l354.length c356,.int .i64 p0.fEpoch,.slice A358 l357.length c359] 29 (0,0))::(100040,g3,.cells #[.slice none 0 0,.slice none 0 0,.slice none 0 0,.int .i64 0,.slice none 0 0] 29 (0,0))::(100030,g2,.cells #[.int .i64 1,.int .i64 p1_fNode,.string p1_fName,.string p1_fText,.string p1_fZone,.slice Ap1_fHints_0 p1_fHints.length cp1_fHints_0] 35 (0,0))::(100020,g1,.cells #[.slice Ap0_0 p0.fRing.length cp0_0,.slice Ap0_1 p0.fHints.length cp0_1,.slice Ap0_2 p0.fAnchors.length cp0_2,.int .i64 p0.fEpoch,.slice Ap0_3 p0.fFlushes.length cp0_3] 29 (0,0))::H,(100190,⟨.slice A349 l348.length c350,3,1,l348.length,l348.flatMap (fun x : Int=>[Value.int .i64 x])⟩)::(100220,⟨.slice A352 l351.length c353,9,1,l351.length,l351.flatMap (fun x : ByteArray=>[Value.string x])⟩)::(100250,⟨.slice A355 l354.length c356,43,2,l354.length,l354.flatMap GAnchor.enc⟩)::(100300,⟨.slice A358 l357.length c359,54,2,l357.length,l357.flatMap GFlush.enc⟩)::R,φ⟩) (fun ⟨l348,l351,l354,l357,g347,A349,c350,A352,c353,A355,c356,A358,c359⟩=>m_conf_Apply_k1_j1 p1_fNode p0 l348 l351 l354 l357 = some r∧l348.length ≤ c350∧l351.length ≤ c353∧l354.length ≤ c356∧l357.length ≤ c359) ?_ (fun ⟨l348,l351,l354,l357,g347,A349,c350,A352,c353,A355,c356,A358,c359⟩ u ⟨hm,hc350,hc353,hc356,hc359⟩=>?_)
 ·
  refine ga_start (n:=17) ⟨w0,M,(100040,g3,.cells #[.slice none 0 0,.slice none 0 0,.slice none 0 0,.int .i64 0,.slice none 0 0] 29 (0,0))::(100030,g2,.cells #[.int .i64 1,.int .i64 p1_fNode,.string p1_fName,.string p1_fText,.string p1_fZone,.slice Ap1_fHints_0 p1_fHints.length cp1_fHints_0] 35 (0,0))::(100020,g1,.cells #[.slice Ap0_0 p0.fRing.length cp0_0,.slice Ap0_1 p0.fHints.length cp0_1,.slice Ap0_2 p0.fAnchors.length cp0_2,.int .i64 p0.fEpoch,.slice Ap0_3 p0.fFlushes.length cp0_3] 29 (0,0))::H,R,φ⟩ [16] #[false,false,false,false,false,false,false,false,false,false,false,false,false,false,false,false,false] (fun W h=>h.phi (fun W hφ=>hφ)) mixed rfl rfl<|ga_v (i:=0) (bz 17 1) rfl (by kernel_rfl) (fun _ _ _ _ h=>h) rfl (r_field (n:=0) Try.underlying29 rfl Try.sizeOf25 rfl rfl)<|ga_v (i:=1) (bz 17 3) rfl (by kernel_rfl) (fun _ _ _ _ h=>h) rfl (r_load (tag:=100020) rfl rfl rfl Try.isAgg25)<|ga_v (i:=3) (bz 17 11) rfl (by kernel_rfl) (fun _ _ _ _ h=>h) rfl (r_field (n:=1) Try.underlying29 rfl Try.sizeOf22 rfl rfl)<|ga_v (i:=4) (bz 17 27) rfl (by kernel_rfl) (fun _ _ _ _ h=>h) rfl (r_load (tag:=100020) rfl rfl rfl Try.isAgg22)<|ga_v (i:=6) (bz 17 91) rfl (by kernel_rfl) (fun _ _ _ _ h=>h) rfl (r_field (n:=2) Try.underlying29 rfl Try.sizeOf26 rfl rfl)<|ga_v (i:=7) (bz 17 219) rfl (by kernel_rfl) (fun _ _ _ _ h=>h) rfl (r_load (tag:=100020) rfl rfl rfl Try.isAgg26)<|ga_v (i:=9) (bz 17 731) rfl (by kernel_rfl) (fun _ _ _ _ h=>h) rfl (r_field (n:=3) Try.underlying29 rfl Try.sizeOf3 rfl rfl)<|ga_v (i:=10) (bz 17 1755) rfl (by kernel_rfl) (fun _ _ _ _ h=>h) rfl (r_load (tag:=100020) rfl rfl rfl Try.isAgg3)<|ga_v (i:=11) (bz 17 3803) rfl (by kernel_rfl) (fun _ _ _ _ h=>h) rfl (r_field (n:=4) Try.underlying29 rfl Try.sizeOf27 rfl rfl) ?_
  refine ga_v (i:=12) (bz 17 7899) rfl (by kernel_rfl) (fun _ _ _ _ h=>h) rfl (r_load (tag:=100020) rfl rfl rfl Try.isAgg27) ?_
  replace hm:=bnd hm
  obtain ⟨x525,hx526,hm⟩:=hm
  refine ga_two (i:=2) (j:=15) (bz 17 7903) (bz 17 40667) rfl rfl (by kernel_rfl) (by decide) (by decide) ?_ ?_
  ·
   refine ex_cn (first:=#[]) ⟨w0,M,_,_,φ⟩ (fun _ h=>h) Try.call23 rfl rfl rfl (c_slices_Clone_23 p0.fRing Ap0_0 cp0_0 hcp0_0 (fun W hS=>fp0_0 W hS.now) _ hx526) (fun ⟨A528,c529⟩ W hc529 h=>((ok_frontR (t:=2000) (t':=100190) h rfl).dropR (t:=100190) rfl).phi (fun W hφ=>hφ)) (fun ⟨A528,c529⟩ hc529=>?_)
   refine ga_sta _ (fun W h=>(ok_frontR (t:=2000) (t':=100190) h rfl)) ?_
   replace hm:=bnd hm
   obtain ⟨x531,hx532,hm⟩:=hm
   refine ga_two (i:=5) (j:=15) (bz 17 7935) (bz 17 40671) rfl rfl (by kernel_rfl) (by decide) (by decide) ?_ ?_
   ·
    refine ex_cn (first:=#[]) ⟨w0,M,_,_,φ⟩ (fun _ h=>h) Try.call24 rfl rfl rfl (c_slices_Clone_24 p0.fHints Ap0_1 cp0_1 hcp0_1 (fun W hS=>fp0_1 W hS.now) _ hx532) (fun ⟨A533,c534⟩ W hc534 h=>(((ok_frontR (t:=2000) (t':=100220) h rfl).dropR (t:=100220) rfl).dropR (t:=100190) rfl).phi (fun W hφ=>hφ)) (fun ⟨A533,c534⟩ hc534=>?_)
    refine ga_sta _ (fun W h=>(ok_frontR (t:=2000) (t':=100220) h rfl)) ?_
    replace hm:=bnd hm
    obtain ⟨x536,hx537,hm⟩:=hm
    refine ga_two (i:=8) (j:=15) (bz 17 8191) (bz 17 40703) rfl rfl (by kernel_rfl) (by decide) (by decide) ?_ ?_
    ·
     refine ex_cn (first:=#[]) ⟨w0,M,_,_,φ⟩ (fun _ h=>h) Try.call25 rfl rfl rfl (c_slices_Clone_25 p0.fAnchors Ap0_2 cp0_2 hcp0_2 (fun W hS=>fp0_2 W hS.now) _ hx537) (fun ⟨A538,c539⟩ W hc539 h=>((((ok_frontR (t:=2000) (t':=100250) h rfl).dropR (t:=100250) rfl).dropR (t:=100220) rfl).dropR (t:=100190) rfl).phi (fun W hφ=>hφ)) (fun ⟨A538,c539⟩ hc539=>?_)
     refine ga_sta _ (fun W h=>(ok_frontR (t:=2000) (t':=100250) h rfl)) ?_
     replace hm:=bnd hm
     obtain ⟨x541,hx542,hm⟩:=hm
     refine ga_two (i:=13) (j:=15) (bz 17 16383) (bz 17 40959) rfl rfl (by kernel_rfl) (by decide) (by decide) ?_ ?_
     ·
      refine ex_cn (first:=#[]) ⟨w0,M,_,_,φ⟩ (fun _ h=>h) Try.call26 rfl rfl rfl (c_slices_Clone_26 p0.fFlushes Ap0_3 cp0_3 hcp0_3 (fun W hS=>fp0_3 W hS.now) _ hx542) (fun ⟨A543,c544⟩ W hc544 h=>(((((ok_frontR (t:=2000) (t':=100300) h rfl).dropR (t:=100300) rfl).dropR (t:=100250) rfl).dropR (t:=100220) rfl).dropR (t:=100190) rfl).phi (fun W hφ=>hφ)) (fun ⟨A543,c544⟩ hc544=>?_)
      refine ga_sta _ (fun W h=>(ok_frontR (t:=2000) (t':=100300) h rfl))<|ga_v (i:=14) (bz 17 32767) rfl (by kernel_rfl) (fun _ _ _ _ h=>h) rfl (r_build _ rfl (bld29_17 _ _ _ _ _ _ _ _ _ _ _ _ _)) ?_
      refine ga_e (i:=15) (bz 17 65535) rfl (by kernel_rfl) (by decide) rfl  (e_alloc 100070 Try.zeroValue29) (fun g546 W _ h=>(((((h.dropR (t:=100300) rfl).dropR (t:=100250) rfl).dropR (t:=100220) rfl).dropR (t:=100190) rfl).dropH (t:=100070) rfl).phi (fun W hφ=>hφ)) (fun g546 _=>?_)
      refine ga_lastL (i:=16) (tag:=100070) (bz 17 131071) rfl (by kernel_rfl) (by decide) rfl rfl rfl rfl Try.sizeOf29 rfl rfl<|gz_done (by kernel_rfl) ?_
      exact d_round (x525,x531,x536,x541,g546,A528,c529,A533,c534,A538,c539,A543,c544) ⟨hm,hc529,hc534,hc539,hc544⟩ Nat.zero_lt_one ⟨rfl,rfl,rfl,rfl,trivial⟩ (fun W h=>(ok_frontR (t:=100190) (t':=100190) (ok_frontR (t:=100220) (t':=100220) (ok_frontR (t:=100250) (t':=100250) (ok_frontR (t:=100300) (t':=100300) h rfl) rfl) rfl) rfl).phi (fun W hφ=>hφ))
     refine ex_e rfl (e_alloc 100070 Try.zeroValue29) (fun g547 W _ h=>((((h.dropR (t:=100250) rfl).dropR (t:=100220) rfl).dropR (t:=100190) rfl).dropH (t:=100070) rfl).phi (fun W hφ=>hφ)) (fun g547 _=>?_)
     refine ga_cn (first:=#[]) (i:=13) (bz 17 49151) rfl (by kernel_rfl) (by decide)  ⟨w0,M,_,_,φ⟩ (fun _ h=>h) Try.call26 rfl rfl rfl (c_slices_Clone_26 p0.fFlushes Ap0_3 cp0_3 hcp0_3 (fun W hS=>fp0_3 W hS.now) _ hx542) (fun ⟨A548,c549⟩ W hc549 h=>((((((ok_frontR (t:=2000) (t':=100300) h rfl).dropR (t:=100300) rfl).dropR (t:=100250) rfl).dropR (t:=100220) rfl).dropR (t:=100190) rfl).dropH (t:=100070) rfl).phi (fun W hφ=>hφ)) (fun ⟨A548,c549⟩ hc549=>?_)
     refine ga_sta _ (fun W h=>(ok_frontR (t:=2000) (t':=100300) h rfl))<|ga_r (i:=14) (bz 17 65535) rfl (by kernel_rfl) (by decide) rfl (r_build _ rfl (bld29_17 _ _ _ _ _ _ _ _ _ _ _ _ _))<|ga_lastL (i:=16) (tag:=100070) (bz 17 131071) rfl (by kernel_rfl) (by decide) rfl rfl rfl rfl Try.sizeOf29 rfl rfl<|gz_done (by kernel_rfl) ?_
     exact d_round (x525,x531,x536,x541,g547,A528,c529,A533,c534,A538,c539,A548,c549) ⟨hm,hc529,hc534,hc539,hc549⟩ Nat.zero_lt_one ⟨rfl,rfl,rfl,rfl,trivial⟩ (fun W h=>(ok_frontR (t:=100190) (t':=100190) (ok_frontR (t:=100220) (t':=100220) (ok_frontR (t:=100250) (t':=100250) (ok_frontR (t:=100300) (t':=100300) h rfl) rfl) rfl) rfl).phi (fun W hφ=>hφ))
    refine ex_e rfl (e_alloc 100070 Try.zeroValue29) (fun g551 W _ h=>(((h.dropR (t:=100220) rfl).dropR (t:=100190) rfl).dropH (t:=100070) rfl).phi (fun W hφ=>hφ)) (fun g551 _=>?_)
    refine ga_cn (first:=#[]) (i:=8) (bz 17 40959) rfl (by kernel_rfl) (by decide)  ⟨w0,M,_,_,φ⟩ (fun _ h=>h) Try.call25 rfl rfl rfl (c_slices_Clone_25 p0.fAnchors Ap0_2 cp0_2 hcp0_2 (fun W hS=>fp0_2 W hS.now) _ hx537) (fun ⟨A552,c553⟩ W hc553 h=>(((((ok_frontR (t:=2000) (t':=100250) h rfl).dropR (t:=100250) rfl).dropR (t:=100220) rfl).dropR (t:=100190) rfl).dropH (t:=100070) rfl).phi (fun W hφ=>hφ)) (fun ⟨A552,c553⟩ hc553=>?_)
    refine ga_sta _ (fun W h=>(ok_frontR (t:=2000) (t':=100250) h rfl)) ?_
    replace hm:=bnd hm
    obtain ⟨x555,hx556,hm⟩:=hm
    refine ga_cn (first:=#[]) (i:=13) (bz 17 49151) rfl (by kernel_rfl) (by decide)  ⟨w0,M,_,_,φ⟩ (fun _ h=>h) Try.call26 rfl rfl rfl (c_slices_Clone_26 p0.fFlushes Ap0_3 cp0_3 hcp0_3 (fun W hS=>fp0_3 W hS.now) _ hx556) (fun ⟨A557,c558⟩ W hc558 h=>((((((ok_frontR (t:=2000) (t':=100300) h rfl).dropR (t:=100300) rfl).dropR (t:=100250) rfl).dropR (t:=100220) rfl).dropR (t:=100190) rfl).dropH (t:=100070) rfl).phi (fun W hφ=>hφ)) (fun ⟨A557,c558⟩ hc558=>?_)
    refine ga_sta _ (fun W h=>(ok_frontR (t:=2000) (t':=100300) h rfl))<|ga_r (i:=14) (bz 17 65535) rfl (by kernel_rfl) (by decide) rfl (r_build _ rfl (bld29_17 _ _ _ _ _ _ _ _ _ _ _ _ _))<|ga_lastL (i:=16) (tag:=100070) (bz 17 131071) rfl (by kernel_rfl) (by decide) rfl rfl rfl rfl Try.sizeOf29 rfl rfl<|gz_done (by kernel_rfl) ?_
    exact d_round (x525,x531,x536,x555,g551,A528,c529,A533,c534,A552,c553,A557,c558) ⟨hm,hc529,hc534,hc553,hc558⟩ Nat.zero_lt_one ⟨rfl,rfl,rfl,rfl,trivial⟩ (fun W h=>(ok_frontR (t:=100190) (t':=100190) (ok_frontR (t:=100220) (t':=100220) (ok_frontR (t:=100250) (t':=100250) (ok_frontR (t:=100300) (t':=100300) h rfl) rfl) rfl) rfl).phi (fun W hφ=>hφ))
   refine ex_e rfl (e_alloc 100070 Try.zeroValue29) (fun g560 W _ h=>((h.dropR (t:=100190) rfl).dropH (t:=100070) rfl).phi (fun W hφ=>hφ)) (fun g560 _=>?_)
   refine ga_cn (first:=#[]) (i:=5) (bz 17 40703) rfl (by kernel_rfl) (by decide)  ⟨w0,M,_,_,φ⟩ (fun _ h=>h) Try.call24 rfl rfl rfl (c_slices_Clone_24 p0.fHints Ap0_1 cp0_1 hcp0_1 (fun W hS=>fp0_1 W hS.now) _ hx532) (fun ⟨A561,c562⟩ W hc562 h=>((((ok_frontR (t:=2000) (t':=100220) h rfl).dropR (t:=100220) rfl).dropR (t:=100190) rfl).dropH (t:=100070) rfl).phi (fun W hφ=>hφ)) (fun ⟨A561,c562⟩ hc562=>?_)
   refine ga_sta _ (fun W h=>(ok_frontR (t:=2000) (t':=100220) h rfl)) ?_
   replace hm:=bnd hm
   obtain ⟨x564,hx565,hm⟩:=hm
   refine ga_cn (first:=#[]) (i:=8) (bz 17 40959) rfl (by kernel_rfl) (by decide)  ⟨w0,M,_,_,φ⟩ (fun _ h=>h) Try.call25 rfl rfl rfl (c_slices_Clone_25 p0.fAnchors Ap0_2 cp0_2 hcp0_2 (fun W hS=>fp0_2 W hS.now) _ hx565) (fun ⟨A566,c567⟩ W hc567 h=>(((((ok_frontR (t:=2000) (t':=100250) h rfl).dropR (t:=100250) rfl).dropR (t:=100220) rfl).dropR (t:=100190) rfl).dropH (t:=100070) rfl).phi (fun W hφ=>hφ)) (fun ⟨A566,c567⟩ hc567=>?_)
   refine ga_sta _ (fun W h=>(ok_frontR (t:=2000) (t':=100250) h rfl)) ?_
   replace hm:=bnd hm
   obtain ⟨x569,hx570,hm⟩:=hm
   refine ga_cn (first:=#[]) (i:=13) (bz 17 49151) rfl (by kernel_rfl) (by decide)  ⟨w0,M,_,_,φ⟩ (fun _ h=>h) Try.call26 rfl rfl rfl (c_slices_Clone_26 p0.fFlushes Ap0_3 cp0_3 hcp0_3 (fun W hS=>fp0_3 W hS.now) _ hx570) (fun ⟨A571,c572⟩ W hc572 h=>((((((ok_frontR (t:=2000) (t':=100300) h rfl).dropR (t:=100300) rfl).dropR (t:=100250) rfl).dropR (t:=100220) rfl).dropR (t:=100190) rfl).dropH (t:=100070) rfl).phi (fun W hφ=>hφ)) (fun ⟨A571,c572⟩ hc572=>?_)
   refine ga_sta _ (fun W h=>(ok_frontR (t:=2000) (t':=100300) h rfl))<|ga_r (i:=14) (bz 17 65535) rfl (by kernel_rfl) (by decide) rfl (r_build _ rfl (bld29_17 _ _ _ _ _ _ _ _ _ _ _ _ _))<|ga_lastL (i:=16) (tag:=100070) (bz 17 131071) rfl (by kernel_rfl) (by decide) rfl rfl rfl rfl Try.sizeOf29 rfl rfl<|gz_done (by kernel_rfl) ?_
   exact d_round (x525,x531,x564,x569,g560,A528,c529,A561,c562,A566,c567,A571,c572) ⟨hm,hc529,hc562,hc567,hc572⟩ Nat.zero_lt_one ⟨rfl,rfl,rfl,rfl,trivial⟩ (fun W h=>(ok_frontR (t:=100190) (t':=100190) (ok_frontR (t:=100220) (t':=100220) (ok_frontR (t:=100250) (t':=100250) (ok_frontR (t:=100300) (t':=100300) h rfl) rfl) rfl) rfl).phi (fun W hφ=>hφ))
  refine ex_e rfl (e_alloc 100070 Try.zeroValue29) (fun g574 W _ h=>(h.dropH (t:=100070) rfl).phi (fun W hφ=>hφ)) (fun g574 _=>?_)
  refine ga_cn (first:=#[]) (i:=2) (bz 17 40671) rfl (by kernel_rfl) (by decide)  ⟨w0,M,_,_,φ⟩ (fun _ h=>h) Try.call23 rfl rfl rfl (c_slices_Clone_23 p0.fRing Ap0_0 cp0_0 hcp0_0 (fun W hS=>fp0_0 W hS.now) _ hx526) (fun ⟨A575,c576⟩ W hc576 h=>(((ok_frontR (t:=2000) (t':=100190) h rfl).dropR (t:=100190) rfl).dropH (t:=100070) rfl).phi (fun W hφ=>hφ)) (fun ⟨A575,c576⟩ hc576=>?_)
  refine ga_sta _ (fun W h=>(ok_frontR (t:=2000) (t':=100190) h rfl)) ?_
  replace hm:=bnd hm
  obtain ⟨x578,hx579,hm⟩:=hm
  refine ga_cn (first:=#[]) (i:=5) (bz 17 40703) rfl (by kernel_rfl) (by decide)  ⟨w0,M,_,_,φ⟩ (fun _ h=>h) Try.call24 rfl rfl rfl (c_slices_Clone_24 p0.fHints Ap0_1 cp0_1 hcp0_1 (fun W hS=>fp0_1 W hS.now) _ hx579) (fun ⟨A580,c581⟩ W hc581 h=>((((ok_frontR (t:=2000) (t':=100220) h rfl).dropR (t:=100220) rfl).dropR (t:=100190) rfl).dropH (t:=100070) rfl).phi (fun W hφ=>hφ)) (fun ⟨A580,c581⟩ hc581=>?_)
  refine ga_sta _ (fun W h=>(ok_frontR (t:=2000) (t':=100220) h rfl)) ?_
  replace hm:=bnd hm
  obtain ⟨x583,hx584,hm⟩:=hm
  refine ga_cn (first:=#[]) (i:=8) (bz 17 40959) rfl (by kernel_rfl) (by decide)  ⟨w0,M,_,_,φ⟩ (fun _ h=>h) Try.call25 rfl rfl rfl (c_slices_Clone_25 p0.fAnchors Ap0_2 cp0_2 hcp0_2 (fun W hS=>fp0_2 W hS.now) _ hx584) (fun ⟨A585,c586⟩ W hc586 h=>(((((ok_frontR (t:=2000) (t':=100250) h rfl).dropR (t:=100250) rfl).dropR (t:=100220) rfl).dropR (t:=100190) rfl).dropH (t:=100070) rfl).phi (fun W hφ=>hφ)) (fun ⟨A585,c586⟩ hc586=>?_)
  refine ga_sta _ (fun W h=>(ok_frontR (t:=2000) (t':=100250) h rfl)) ?_
  replace hm:=bnd hm
  obtain ⟨x588,hx589,hm⟩:=hm
  refine ga_cn (first:=#[]) (i:=13) (bz 17 49151) rfl (by kernel_rfl) (by decide)  ⟨w0,M,_,_,φ⟩ (fun _ h=>h) Try.call26 rfl rfl rfl (c_slices_Clone_26 p0.fFlushes Ap0_3 cp0_3 hcp0_3 (fun W hS=>fp0_3 W hS.now) _ hx589) (fun ⟨A590,c591⟩ W hc591 h=>((((((ok_frontR (t:=2000) (t':=100300) h rfl).dropR (t:=100300) rfl).dropR (t:=100250) rfl).dropR (t:=100220) rfl).dropR (t:=100190) rfl).dropH (t:=100070) rfl).phi (fun W hφ=>hφ)) (fun ⟨A590,c591⟩ hc591=>?_)
  refine ga_sta _ (fun W h=>(ok_frontR (t:=2000) (t':=100300) h rfl))<|ga_r (i:=14) (bz 17 65535) rfl (by kernel_rfl) (by decide) rfl (r_build _ rfl (bld29_17 _ _ _ _ _ _ _ _ _ _ _ _ _))<|ga_lastL (i:=16) (tag:=100070) (bz 17 131071) rfl (by kernel_rfl) (by decide) rfl rfl rfl rfl Try.sizeOf29 rfl rfl<|gz_done (by kernel_rfl) ?_
  exact d_round (x525,x578,x583,x588,g574,A575,c576,A580,c581,A585,c586,A590,c591) ⟨hm,hc576,hc581,hc586,hc591⟩ Nat.zero_lt_one ⟨rfl,rfl,rfl,rfl,trivial⟩ (fun W h=>(ok_frontR (t:=100190) (t':=100190) (ok_frontR (t:=100220) (t':=100220) (ok_frontR (t:=100250) (t':=100250) (ok_frontR (t:=100300) (t':=100300) h rfl) rfl) rfl) rfl).phi (fun W hφ=>hφ))
 unfold m_conf_Apply_k1_j1 at hm
 refine d_flat [(2,.pointer (some ⟨g1,0,none⟩)),(3,.pointer (some ⟨g2,0,none⟩)),(4,.pointer (some ⟨g3,0,none⟩)),(7,.pointer (some ⟨g347,0,none⟩))] ⟨rfl,rfl,rfl,rfl,trivial⟩ (fun u=>?_)
 refine d_sta ⟨w0,M,(100070,g347,.cells #[.slice A349 l348.length c350,.slice A352 l351.length c353,.slice A355 l354.length c356,.int .i64 p0.fEpoch,.slice A358 l357.length c359] 29 (0,0))::(100040,g3,.cells #[.slice none 0 0,.slice none 0 0,.slice none 0 0,.int .i64 0,.slice none 0 0] 29 (0,0))::(100030,g2,.cells #[.int .i64 1,.int .i64 p1_fNode,.string p1_fName,.string p1_fText,.string p1_fZone,.slice Ap1_fHints_0 p1_fHints.length cp1_fHints_0] 35 (0,0))::(100020,g1,.cells #[.slice Ap0_0 p0.fRing.length cp0_0,.slice Ap0_1 p0.fHints.length cp0_1,.slice Ap0_2 p0.fAnchors.length cp0_2,.int .i64 p0.fEpoch,.slice Ap0_3 p0.fFlushes.length cp0_3] 29 (0,0))::H,(100190,⟨.slice A349 l348.length c350,3,1,l348.length,l348.flatMap (fun x : Int=>[Value.int .i64 x])⟩)::(100220,⟨.slice A352 l351.length c353,9,1,l351.length,l351.flatMap (fun x : ByteArray=>[Value.string x])⟩)::(100250,⟨.slice A355 l354.length c356,43,2,l354.length,l354.flatMap GAnchor.enc⟩)::(100300,⟨.slice A358 l357.length c359,54,2,l357.length,l357.flatMap GFlush.enc⟩)::R,φ⟩ (fun _ h=>h)<|d_then<|c_seq<|c_region<|g_v rfl (r_field (n:=0) Try.underlying29 rfl Try.sizeOf25 rfl rfl)<|g_v rfl (r_load (tag:=100070) rfl rfl rfl Try.isAgg25)<|g_v rfl (r_field (n:=1) Try.underlying35 rfl Try.sizeOf3 rfl rfl)<|g_v rfl (r_load (tag:=100030) rfl rfl rfl Try.isAgg3) ?_
 replace hm:=bnd hm
 obtain ⟨⟨x360,x361⟩,hx362,hm⟩:=hm
 refine g_cn ⟨w0,M,_,_,φ⟩ (fun _ h=>h) Try.call27 rfl rfl (c_slices_BinarySearch_27 l348 A349 c350 hc350 (fun W hS=>rowCl (tag:=100190) rfl W hS) p1_fNode _ hx362) (fun _ _=>?_)
 refine g_v rfl r_move<|g_v rfl (r_extract rfl rfl)<|g_v rfl (r_extract rfl rfl)<|g_v rfl r_assign<|g_v rfl r_assign<|g_nil<|d_then ?_
 refine c_flat [(2,.pointer (some ⟨g1,0,none⟩)),(3,.pointer (some ⟨g2,0,none⟩)),(4,.pointer (some ⟨g3,0,none⟩)),(7,.pointer (some ⟨g347,0,none⟩)),(8,.int .i64 x360),(9,.bool x361)] ⟨rfl,rfl,rfl,rfl,rfl,rfl,trivial⟩ (fun u=>?_)
 refine c_seq ?_
 refine c_cut (ι:=(List Int)×Option Addr×Nat) [4,7] (fun ⟨l371,A372,c373⟩=>[]) (fun ⟨l371,A372,c373⟩=>⟨w0,M,(100070,g347,.cells #[.slice A372 l371.length c373,.slice A352 l351.length c353,.slice A355 l354.length c356,.int .i64 p0.fEpoch,.slice A358 l357.length c359] 29 (0,0))::(100040,g3,.cells #[.slice none 0 0,.slice none 0 0,.slice none 0 0,.int .i64 0,.slice none 0 0] 29 (0,0))::H,(100190,⟨.slice A372 l371.length c373,3,1,l371.length,l371.flatMap (fun x : Int=>[Value.int .i64 x])⟩)::(100220,⟨.slice A352 l351.length c353,9,1,l351.length,l351.flatMap (fun x : ByteArray=>[Value.string x])⟩)::(100250,⟨.slice A355 l354.length c356,43,2,l354.length,l354.flatMap GAnchor.enc⟩)::(100300,⟨.slice A358 l357.length c359,54,2,l357.length,l357.flatMap GFlush.enc⟩)::R,φ⟩) (fun ⟨l371,A372,c373⟩=>m_conf_Apply_k1_j2 l351 l354 p0 l357 l371 = some r∧l371.length ≤ c373) ?_ (fun ⟨l371,A372,c373⟩ u ⟨hm,hc373⟩=>?_)
 ·
  refine c_seq<|c_region<|g_v rfl (r_field (n:=0) Try.underlying35 rfl Try.sizeOf3 rfl rfl)<|g_v rfl (r_load (tag:=100030) rfl rfl rfl Try.isAgg3)<|g_nil<|d_then<|c_block<|c_seq<|c_region<|g_v rfl (r_eql rfl rfl) ?_
  refine g_v rfl r_assign<|g_nil<|d_then<|c_cond1 rfl (by decide)<|c_seq<|c_seq<|c_region<|g_v rfl r_move<|g_nil<|d_then ?_
  refine c_cond rfl (fun h382=>?_) (fun h382=>?_)
  ·
   replace hm:=ite_t hm h382
   refine c_seq<|c_region<|g_v rfl (r_loadA (tag:=100020) rfl rfl Try.isAgg29 Try.sizeOf29 rfl rfl)<|g_storeL (tag:=100040) rfl rfl rfl rfl Try.sizeOf29 rfl rfl<|g_v rfl r_assign<|g_nil<|d_then<|c_ret<|d_ret_then<|d_ret_block ?_
   refine d_ret_then<|d_ret_then ?_
   cases hm
   exact d_retC (Ap0_0,cp0_0,Ap0_1,cp0_1,Ap0_2,cp0_2,Ap0_3,cp0_3) Try.results10 (res_agg (tag:=100040) rfl rfl Try.isAgg29 Try.sizeOf29 (res_tmp (res_nil rfl))) ⟨hcp0_0,hcp0_1,hcp0_2,hcp0_3⟩ (fun W h=>ok_pre (H1:=[_,_,_,_]) (R1:=[_,_,_,_]) h (fun W hφ=>⟨hφ,(fun W h=>fp0_0 W h) W hφ,(fun W h=>fp0_1 W h) W hφ,(fun W h=>fp0_2 W h) W hφ,(fun W h=>fp0_3 W h) W hφ⟩)) (.inr rfl)
  replace hm:=ite_f hm (bool_nt h382)
  refine c_skip<|d_then<|c_region<|g_v rfl (r_field (n:=0) Try.underlying29 rfl Try.sizeOf25 rfl rfl)<|g_v rfl (r_load (tag:=100070) rfl rfl rfl Try.isAgg25)<|g_v rfl r_move<|g_v rfl (r_field (n:=1) Try.underlying35 rfl Try.sizeOf3 rfl rfl)<|g_v rfl (r_load (tag:=100030) rfl rfl rfl Try.isAgg3) ?_
  refine g_e rfl (e_lit (tag:=100510) (l:=[p1_fNode]) (enc:=(fun x : Int=>[Value.int .i64 x])) (sz:=1) rfl Try.underlying25 (lit3_20 _) rfl rfl (fun _=>rfl)) (fun g383 _=>?_)
  replace hm:=bnd hm
  obtain ⟨x384,hx385,hm⟩:=hm
  refine g_cn ⟨w0,M,(100070,g347,.cells #[.slice A349 l348.length c350,.slice A352 l351.length c353,.slice A355 l354.length c356,.int .i64 p0.fEpoch,.slice A358 l357.length c359] 29 (0,0))::(100040,g3,.cells #[.slice none 0 0,.slice none 0 0,.slice none 0 0,.int .i64 0,.slice none 0 0] 29 (0,0))::(100030,g2,.cells #[.int .i64 1,.int .i64 p1_fNode,.string p1_fName,.string p1_fText,.string p1_fZone,.slice Ap1_fHints_0 p1_fHints.length cp1_fHints_0] 35 (0,0))::(100020,g1,.cells #[.slice Ap0_0 p0.fRing.length cp0_0,.slice Ap0_1 p0.fHints.length cp0_1,.slice Ap0_2 p0.fAnchors.length cp0_2,.int .i64 p0.fEpoch,.slice Ap0_3 p0.fFlushes.length cp0_3] 29 (0,0))::H,(1000,⟨.slice A349 l348.length c350,3,1,l348.length,l348.flatMap (fun x : Int=>[Value.int .i64 x])⟩)::(1001,⟨.slice (some ⟨g383,0,none⟩) [p1_fNode].length 1,3,1,[p1_fNode].length,[p1_fNode].flatMap (fun x : Int=>[Value.int .i64 x])⟩)::(100220,⟨.slice A352 l351.length c353,9,1,l351.length,l351.flatMap (fun x : ByteArray=>[Value.string x])⟩)::(100250,⟨.slice A355 l354.length c356,43,2,l354.length,l354.flatMap GAnchor.enc⟩)::(100300,⟨.slice A358 l357.length c359,54,2,l357.length,l357.flatMap GFlush.enc⟩)::R,φ⟩ (fun W h=>(ok_frontR (t:=100190) (t':=1000) (ok_frontR (t:=100510) (t':=1001) h rfl) rfl)) Try.call28 rfl rfl (c_slices_Insert_28 l348 A349 c350 hc350 x360 [p1_fNode] (some ⟨g383,0,none⟩) 1 (Nat.le_refl _) _ hx385) (fun ⟨A386,c387⟩ hc387=>?_)
  refine g_sta _ (fun W h=>(ok_frontR (t:=2000) (t':=100190) h rfl))<|g_v rfl (r_field (n:=0) Try.underlying29 rfl Try.sizeOf25 rfl rfl)<|g_storeL (tag:=100070) rfl rfl rfl rfl Try.sizeOf25 rfl rfl<|g_nil<|d_normal_block ?_
  exact d_round (x384,A386,c387) ⟨hm,hc387⟩ Nat.zero_lt_one ⟨rfl,rfl,trivial⟩ (fun W h=>((h.dropH (t:=100030) rfl).dropH (t:=100020) rfl).phi (fun W hφ=>hφ))
 unfold m_conf_Apply_k1_j2 at hm
 refine d_flat [(4,.pointer (some ⟨g3,0,none⟩)),(7,.pointer (some ⟨g347,0,none⟩))] ⟨rfl,rfl,trivial⟩ (fun u=>?_)
 refine d_sta ⟨w0,M,(100070,g347,.cells #[.slice A372 l371.length c373,.slice A352 l351.length c353,.slice A355 l354.length c356,.int .i64 p0.fEpoch,.slice A358 l357.length c359] 29 (0,0))::(100040,g3,.cells #[.slice none 0 0,.slice none 0 0,.slice none 0 0,.int .i64 0,.slice none 0 0] 29 (0,0))::H,(100190,⟨.slice A372 l371.length c373,3,1,l371.length,l371.flatMap (fun x : Int=>[Value.int .i64 x])⟩)::(100220,⟨.slice A352 l351.length c353,9,1,l351.length,l351.flatMap (fun x : ByteArray=>[Value.string x])⟩)::(100250,⟨.slice A355 l354.length c356,43,2,l354.length,l354.flatMap GAnchor.enc⟩)::(100300,⟨.slice A358 l357.length c359,54,2,l357.length,l357.flatMap GFlush.enc⟩)::R,φ⟩ (fun _ h=>h)<|d_then<|c_seq<|c_region<|g_v rfl (r_loadA (tag:=100070) rfl rfl Try.isAgg29 Try.sizeOf29 rfl rfl)<|g_storeL (tag:=100040) rfl rfl rfl rfl Try.sizeOf29 rfl rfl<|g_v rfl r_assign<|g_nil<|d_then<|c_ret ?_
 cases hm
 refine d_shut (tag:=100190) rfl (fun φ374 q374'=>?_)
 have q374 : ∀ W,φ374 W→φ W:=fun W h=>(q374' W h).1
 have f375:=fun (W : World) (h : φ374 W)=>(q374' W h).2
 refine d_shut (tag:=100220) rfl (fun φ376 q376'=>?_)
 have q376 : ∀ W,φ376 W→φ374 W:=fun W h=>(q376' W h).1
 have f377:=fun (W : World) (h : φ376 W)=>(q376' W h).2
 refine d_shut (tag:=100250) rfl (fun φ378 q378'=>?_)
 have q378 : ∀ W,φ378 W→φ376 W:=fun W h=>(q378' W h).1
 have f379:=fun (W : World) (h : φ378 W)=>(q378' W h).2
 refine d_shut (tag:=100300) rfl (fun φ380 q380'=>?_)
 have q380 : ∀ W,φ380 W→φ378 W:=fun W h=>(q380' W h).1
 have f381:=fun (W : World) (h : φ380 W)=>(q380' W h).2
 exact d_retC (A372,c373,A352,c353,A355,c356,A358,c359) Try.results10 (res_agg (tag:=100040) rfl rfl Try.isAgg29 Try.sizeOf29 (res_tmp (res_nil rfl))) ⟨hc373,hc353,hc356,hc359⟩ (fun W h=>ok_pre (H1:=[_,_]) (R1:=[]) h (fun W hφ=>⟨(q374 _ (q376 _ (q378 _ (q380 _ hφ)))),(fun W h=>f375 W (q376 _ (q378 _ (q380 _ h)))) W hφ,(fun W h=>f377 W (q378 _ (q380 _ h))) W hφ,(fun W h=>f379 W (q380 _ h)) W hφ,(fun W h=>f381 W h) W hφ⟩)) (.inr rfl)
noncomputable def m_law13_ConfRings_j1 (x1 : Bool) : Option Bool:=
  some x1
noncomputable def m_law13_ConfRings_j6 (x957 : GConf) (i692 : Int) (l990 : List Bool) (i1016 : Int) : Option ((Int×(List Bool)×(List Int)×(List ByteArray)×(List GAnchor)×Int×(List GFlush)) ⊕ (Unit ⊕ Bool)):=
  if i1016 ≠ (x957.fRing.length : Int) then
    some (.inr (.inr false))
  else
    some (.inl (w64 (i692 + 1),l990,x957.fRing,x957.fHints,x957.fAnchors,x957.fEpoch,x957.fFlushes))
noncomputable def m_law13_ConfRings_s7 (l990 : List Bool) (x957 : GConf) (i1029 : Int) (i1030 : Int) : Option ((Int×Int) ⊕ (Int ⊕ Bool)):=
  if i1030 < 64 then
    (aix 64 i1030).bind fun a1045=>
    (l990[(0 + a1045 * 1)]?).bind fun x1046=>
    if x1046 = true then
      if (x957.fRing.length : Int) ≤ i1029 then
        some (.inr (.inr false))
      else
        (at_ x957.fRing i1029).bind fun x1049=>
        if x1049 ≠ i1030 then
          some (.inr (.inr false))
        else
          some (.inl (w64 (i1029 + 1),w64 (i1030 + 1)))
    else
      some (.inl (i1029,w64 (i1030 + 1)))
  else
    some (.inr (.inl i1029))
noncomputable def m_law13_ConfRings_j5 (x957 : GConf) (i692 : Int) (l990 : List Bool) : Option ((Int×(List Bool)×(List Int)×(List ByteArray)×(List GAnchor)×Int×(List GFlush)) ⊕ (Unit ⊕ Bool)):=
  (loop (fun s=>m_law13_ConfRings_s7 l990 x957 s.1 s.2) (0,0)).bind fun e=>Sum.elim (fun e=>m_law13_ConfRings_j6 x957 i692 l990 e) (fun x=>some (.inr (.inr x))) e
noncomputable def m_law13_ConfRings_j4 (x958 : Int) (l693 : List Bool) (x957 : GConf) (i692 : Int) (i984 : Int) : Option ((Int×(List Bool)×(List Int)×(List ByteArray)×(List GAnchor)×Int×(List GFlush)) ⊕ (Unit ⊕ Bool)):=
  if x958 = 0 then
    (aix 64 i984).bind fun a1057=>
    (l693[(0 + a1057 * 1)]?).bind fun x1058=>
    (aix 64 i984).bind fun a1059=>
    (setN l693 (0 + a1059 * 1) (!x1058)).bind fun l1060=>
    m_law13_ConfRings_j5 x957 i692 l1060
  else
    m_law13_ConfRings_j5 x957 i692 l693
noncomputable def m_law13_ConfRings_j10 (x1068 : GConf) (i692 : Int) (l1101 : List Bool) (i1127 : Int) : Option ((Int×(List Bool)×(List Int)×(List ByteArray)×(List GAnchor)×Int×(List GFlush)) ⊕ (Unit ⊕ Bool)):=
  if i1127 ≠ (x1068.fRing.length : Int) then
    some (.inr (.inr false))
  else
    some (.inl (w64 (i692 + 1),l1101,x1068.fRing,x1068.fHints,x1068.fAnchors,x1068.fEpoch,x1068.fFlushes))
noncomputable def m_law13_ConfRings_s11 (l1101 : List Bool) (x1068 : GConf) (i1140 : Int) (i1141 : Int) : Option ((Int×Int) ⊕ (Int ⊕ Bool)):=
  if i1141 < 64 then
    (aix 64 i1141).bind fun a1156=>
    (l1101[(0 + a1156 * 1)]?).bind fun x1157=>
    if x1157 = true then
      if (x1068.fRing.length : Int) ≤ i1140 then
        some (.inr (.inr false))
      else
        (at_ x1068.fRing i1140).bind fun x1160=>
        if x1160 ≠ i1141 then
          some (.inr (.inr false))
        else
          some (.inl (w64 (i1140 + 1),w64 (i1141 + 1)))
    else
      some (.inl (i1140,w64 (i1141 + 1)))
  else
    some (.inr (.inl i1140))
noncomputable def m_law13_ConfRings_j9 (x1068 : GConf) (i692 : Int) (l1101 : List Bool) : Option ((Int×(List Bool)×(List Int)×(List ByteArray)×(List GAnchor)×Int×(List GFlush)) ⊕ (Unit ⊕ Bool)):=
  (loop (fun s=>m_law13_ConfRings_s11 l1101 x1068 s.1 s.2) (0,0)).bind fun e=>Sum.elim (fun e=>m_law13_ConfRings_j10 x1068 i692 l1101 e) (fun x=>some (.inr (.inr x))) e
noncomputable def m_law13_ConfRings_j8 (x1069 : Int) (l693 : List Bool) (x1068 : GConf) (i692 : Int) (i1095 : Int) : Option ((Int×(List Bool)×(List Int)×(List ByteArray)×(List GAnchor)×Int×(List GFlush)) ⊕ (Unit ⊕ Bool)):=
  if x1069 = 0 then
    (aix 64 i1095).bind fun a1168=>
    (l693[(0 + a1168 * 1)]?).bind fun x1169=>
    (aix 64 i1095).bind fun a1170=>
    (setN l693 (0 + a1170 * 1) (!x1169)).bind fun l1171=>
    m_law13_ConfRings_j9 x1068 i692 l1171
  else
    m_law13_ConfRings_j9 x1068 i692 l693
noncomputable def m_law13_ConfRings_j14 (x1179 : GConf) (i692 : Int) (l1212 : List Bool) (i1238 : Int) : Option ((Int×(List Bool)×(List Int)×(List ByteArray)×(List GAnchor)×Int×(List GFlush)) ⊕ (Unit ⊕ Bool)):=
  if i1238 ≠ (x1179.fRing.length : Int) then
    some (.inr (.inr false))
  else
    some (.inl (w64 (i692 + 1),l1212,x1179.fRing,x1179.fHints,x1179.fAnchors,x1179.fEpoch,x1179.fFlushes))
noncomputable def m_law13_ConfRings_s15 (l1212 : List Bool) (x1179 : GConf) (i1251 : Int) (i1252 : Int) : Option ((Int×Int) ⊕ (Int ⊕ Bool)):=
  if i1252 < 64 then
    (aix 64 i1252).bind fun a1267=>
    (l1212[(0 + a1267 * 1)]?).bind fun x1268=>
    if x1268 = true then
      if (x1179.fRing.length : Int) ≤ i1251 then
        some (.inr (.inr false))
      else
        (at_ x1179.fRing i1251).bind fun x1271=>
        if x1271 ≠ i1252 then
          some (.inr (.inr false))
        else
          some (.inl (w64 (i1251 + 1),w64 (i1252 + 1)))
    else
      some (.inl (i1251,w64 (i1252 + 1)))
  else
    some (.inr (.inl i1251))
noncomputable def m_law13_ConfRings_j13 (x1179 : GConf) (i692 : Int) (l1212 : List Bool) : Option ((Int×(List Bool)×(List Int)×(List ByteArray)×(List GAnchor)×Int×(List GFlush)) ⊕ (Unit ⊕ Bool)):=
  (loop (fun s=>m_law13_ConfRings_s15 l1212 x1179 s.1 s.2) (0,0)).bind fun e=>Sum.elim (fun e=>m_law13_ConfRings_j14 x1179 i692 l1212 e) (fun x=>some (.inr (.inr x))) e
noncomputable def m_law13_ConfRings_j12 (x1180 : Int) (l693 : List Bool) (x1179 : GConf) (i692 : Int) (i1206 : Int) : Option ((Int×(List Bool)×(List Int)×(List ByteArray)×(List GAnchor)×Int×(List GFlush)) ⊕ (Unit ⊕ Bool)):=
  if x1180 = 0 then
    (aix 64 i1206).bind fun a1279=>
    (l693[(0 + a1279 * 1)]?).bind fun x1280=>
    (aix 64 i1206).bind fun a1281=>
    (setN l693 (0 + a1281 * 1) (!x1280)).bind fun l1282=>
    m_law13_ConfRings_j13 x1179 i692 l1282
  else
    m_law13_ConfRings_j13 x1179 i692 l693
noncomputable def m_law13_ConfRings_j3 (i692 : Int) (p1 : List Bool) (l694 : List Int) (l698 : List ByteArray) (l702 : List GAnchor) (i706 : Int) (l707 : List GFlush) (l693 : List Bool) (i943 : Int) : Option ((Int×(List Bool)×(List Int)×(List ByteArray)×(List GAnchor)×Int×(List GFlush)) ⊕ (Unit ⊕ Bool)):=
  if i692 < (p1.length : Int) then
    (at_ p1 i692).bind fun x951=>
    if x951 = true then
      (m_conf_Apply_k2 (⟨l694,l698,l702,i706,l707⟩ : GConf) (w64 (i943 - 2)) (⟨#[]⟩ : ByteArray) (⟨#[]⟩ : ByteArray) (⟨#[]⟩ : ByteArray) ([] : List ByteArray)).bind fun (z973 : GConf×Int)=>
      if w64 (i943 - 2) < 0 then
        if z973.2 ≠ 1 then
          some (.inr (.inr false))
        else
          some (.inl (w64 (i692 + 1),l693,l694,l698,l702,i706,l707))
      else
        if 63 < w64 (i943 - 2) then
          if z973.2 ≠ 1 then
            some (.inr (.inr false))
          else
            some (.inl (w64 (i692 + 1),l693,l694,l698,l702,i706,l707))
        else
          (aix 64 (w64 (i943 - 2))).bind fun a1061=>
          (l693[(0 + a1061 * 1)]?).bind fun x1062=>
          if (!((decide (z973.2 = 0)) == (x1062 == (decide (2 = 2))))) = true then
            some (.inr (.inr false))
          else
            if z973.2 ≠ 0 then
              if z973.2 ≠ 13 then
                some (.inr (.inr false))
              else
                m_law13_ConfRings_j4 z973.2 l693 z973.1 i692 (w64 (i943 - 2))
            else
              m_law13_ConfRings_j4 z973.2 l693 z973.1 i692 (w64 (i943 - 2))
    else
      (m_conf_Apply_k1 (⟨l694,l698,l702,i706,l707⟩ : GConf) (w64 (i943 - 2)) (⟨#[]⟩ : ByteArray) (⟨#[]⟩ : ByteArray) (⟨#[]⟩ : ByteArray) ([] : List ByteArray)).bind fun (z1084 : GConf×Int)=>
      if w64 (i943 - 2) < 0 then
        if z1084.2 ≠ 1 then
          some (.inr (.inr false))
        else
          some (.inl (w64 (i692 + 1),l693,l694,l698,l702,i706,l707))
      else
        if 63 < w64 (i943 - 2) then
          if z1084.2 ≠ 1 then
            some (.inr (.inr false))
          else
            some (.inl (w64 (i692 + 1),l693,l694,l698,l702,i706,l707))
        else
          (aix 64 (w64 (i943 - 2))).bind fun a1172=>
          (l693[(0 + a1172 * 1)]?).bind fun x1173=>
          if (!((decide (z1084.2 = 0)) == (x1173 == (decide (1 = 2))))) = true then
            some (.inr (.inr false))
          else
            if z1084.2 ≠ 0 then
              if z1084.2 ≠ 13 then
                some (.inr (.inr false))
              else
                m_law13_ConfRings_j8 z1084.2 l693 z1084.1 i692 (w64 (i943 - 2))
            else
              m_law13_ConfRings_j8 z1084.2 l693 z1084.1 i692 (w64 (i943 - 2))
  else
    (m_conf_Apply_k1 (⟨l694,l698,l702,i706,l707⟩ : GConf) (w64 (i943 - 2)) (⟨#[]⟩ : ByteArray) (⟨#[]⟩ : ByteArray) (⟨#[]⟩ : ByteArray) ([] : List ByteArray)).bind fun (z1195 : GConf×Int)=>
    if w64 (i943 - 2) < 0 then
      if z1195.2 ≠ 1 then
        some (.inr (.inr false))
      else
        some (.inl (w64 (i692 + 1),l693,l694,l698,l702,i706,l707))
    else
      if 63 < w64 (i943 - 2) then
        if z1195.2 ≠ 1 then
          some (.inr (.inr false))
        else
          some (.inl (w64 (i692 + 1),l693,l694,l698,l702,i706,l707))
      else
        (aix 64 (w64 (i943 - 2))).bind fun a1283=>
        (l693[(0 + a1283 * 1)]?).bind fun x1284=>
        if (!((decide (z1195.2 = 0)) == (x1284 == (decide (1 = 2))))) = true then
          some (.inr (.inr false))
        else
          if z1195.2 ≠ 0 then
            if z1195.2 ≠ 13 then
              some (.inr (.inr false))
            else
              m_law13_ConfRings_j12 z1195.2 l693 z1195.1 i692 (w64 (i943 - 2))
          else
            m_law13_ConfRings_j12 z1195.2 l693 z1195.1 i692 (w64 (i943 - 2))
noncomputable def m_law13_ConfRings_s2 (p0 : List Int) (p1 : List Bool) (i692 : Int) (l693 : List Bool) (l694 : List Int) (l698 : List ByteArray) (l702 : List GAnchor) (i706 : Int) (l707 : List GFlush) : Option ((Int×(List Bool)×(List Int)×(List ByteArray)×(List GAnchor)×Int×(List GFlush)) ⊕ (Unit ⊕ Bool)):=
  if i692 < (p0.length : Int) then
    if i692 < 100 then
      (at_ p0 i692).bind fun x938=>
      if x938.tmod 68 < 0 then
        m_law13_ConfRings_j3 i692 p1 l694 l698 l702 i706 l707 l693 (w64 (0 - x938.tmod 68))
      else
        m_law13_ConfRings_j3 i692 p1 l694 l698 l702 i706 l707 l693 (x938.tmod 68)
    else
      some (.inr (.inl ()))
  else
    some (.inr (.inl ()))
noncomputable def m_law13_ConfRings (p0 : List Int) (p1 : List Bool) : Option Bool:=
  (m_law13_awake).bind fun x1=>
  (loop (fun s=>m_law13_ConfRings_s2 p0 p1 s.1 s.2.1 s.2.2.1 s.2.2.2.1 s.2.2.2.2.1 s.2.2.2.2.2.1 s.2.2.2.2.2.2) (0,(List.replicate 64 false),([] : List Int),([] : List ByteArray),([] : List GAnchor),0,([] : List GFlush))).bind fun e=>Sum.elim (fun e=>m_law13_ConfRings_j1 x1) (fun x=>some x) e
theorem c_law13_ConfRings {w0 : World} {M : Nat→Prop} {H : List (Nat×Nat×Obj)} {R : List (Nat×Row)} {φ : World→Prop} (p0 : List Int) (Ap0_0 : Option Addr) (cp0_0 : Nat) (hcp0_0 : p0.length ≤ cp0_0) (fp0_0 : ∀ W,(Sta.mk w0 M H R φ).ok W→Cl W Ap0_0 (p0.flatMap (fun x : Int=>[Value.int .i64 x]))) (p1 : List Bool) (Ap1_0 : Option Addr) (cp1_0 : Nat) (hcp1_0 : p1.length ≤ cp1_0) (fp1_0 : ∀ W,(Sta.mk w0 M H R φ).ok W→Cl W Ap1_0 (p1.flatMap (fun x : Bool=>[Value.bool x]))) (r : Bool) (hm : m_law13_ConfRings p0 p1 = some r) :
    Cn Try.prog 4 #[.slice Ap0_0 p0.length cp0_0,.slice Ap1_0 p1.length cp1_0] ⟨w0,M,H,R,φ⟩ (fun x : Unit=>.bool r) (fun x=>True) (fun x=>⟨w0,M,H,R,φ⟩):=by
 unfold m_law13_ConfRings at hm
 refine cn_intro (fn:=Try.f4) (N:=118) Try.func4 rfl Try.ntmps4 rfl<|c_seq<|c_region<|g_v rfl r_assign<|g_nil<|d_then<|c_seq<|c_region ?_
 replace hm:=bnd hm
 obtain ⟨x1,hx2,hm⟩:=hm
 refine g_cn ⟨w0,M,_,_,φ⟩ (fun _ h=>h) Try.call7 rfl rfl (c_law13_awake  _ hx2) (fun _ _=>?_)
 refine g_v rfl r_assign<|g_nil<|d_then<|c_seq<|c_region ?_
 refine g_e rfl (e_alloc 100060 Try.zeroValue29) (fun g3 _=>?_)
 refine g_nil<|d_then<|c_seq<|c_region ?_
 refine g_e rfl (e_alloc 100070 Try.zeroValue40) (fun g4 _=>?_)
 refine g_sta ⟨w0,M,(100070,g4,.cells ((List.replicate 64 false).map (fun x : Bool=>Value.bool x)).toArray 40 (0,0))::(100060,g3,.cells #[.slice none 0 0,.slice none 0 0,.slice none 0 0,.int .i64 0,.slice none 0 0] 29 (0,0))::H,R,φ⟩ (fun _ h=>blk_eq (by kernel_rfl) h)<|g_nil<|d_then<|c_seq ?_
 refine c_cut (ι:=Unit) [5] (fun _=>[]) (fun _=>⟨w0,M,H,R,φ⟩) (fun _=>m_law13_ConfRings_j1 x1 = some r) ?_ (fun _ u hm=>?_)
 ·
  refine c_seq<|c_region<|g_v rfl r_assign<|g_nil<|d_then<|c_block ?_
  replace hm:=bnd hm
  obtain ⟨out2,hl2,hr2⟩:=hm
  obtain ⟨n934',hl2⟩:=loop_lp hl2
  refine c_loopU (ι:=Nat×Int×(List Bool)×(List Int)×(List ByteArray)×(List GAnchor)×Int×(List GFlush)×Option Addr×Nat×Option Addr×Nat×Option Addr×Nat×Option Addr×Nat) [0,1,5,6,7,8] (fun ⟨n934,i692,l693,l694,l698,l702,i706,l707,A695,c696,A699,c700,A703,c704,A708,c709⟩=>[(8,.int .i64 i692)]) (fun ⟨n934,i692,l693,l694,l698,l702,i706,l707,A695,c696,A699,c700,A703,c704,A708,c709⟩=>⟨w0,M,(100070,g4,.cells (l693.map (fun x : Bool=>Value.bool x)).toArray 40 (0,0))::(100060,g3,.cells #[.slice A695 l694.length c696,.slice A699 l698.length c700,.slice A703 l702.length c704,.int .i64 i706,.slice A708 l707.length c709] 29 (0,0))::H,R,fun W=>φ W∧Cl W A695 (l694.flatMap (fun x : Int=>[Value.int .i64 x]))∧Cl W A699 (l698.flatMap (fun x : ByteArray=>[Value.string x]))∧Cl W A703 (l702.flatMap GAnchor.enc)∧Cl W A708 (l707.flatMap GFlush.enc)⟩) (fun ⟨n934,i692,l693,l694,l698,l702,i706,l707,A695,c696,A699,c700,A703,c704,A708,c709⟩=>Lp (fun s=>m_law13_ConfRings_s2 p0 p1 s.1 s.2.1 s.2.2.1 s.2.2.2.1 s.2.2.2.2.1 s.2.2.2.2.2.1 s.2.2.2.2.2.2) n934 (i692,l693,l694,l698,l702,i706,l707) out2∧l694.length ≤ c696∧l698.length ≤ c700∧l702.length ≤ c704∧l707.length ≤ c709) (fun ⟨n934,i692,l693,l694,l698,l702,i706,l707,A695,c696,A699,c700,A703,c704,A708,c709⟩=>n934) (n934',0,(List.replicate 64 false),([] : List Int),([] : List ByteArray),([] : List GAnchor),0,([] : List GFlush),none,0,none,0,none,0,none,0) ⟨hl2,(Nat.le_refl 0),(Nat.le_refl 0),(Nat.le_refl 0),(Nat.le_refl 0)⟩ ⟨rfl,rfl,rfl,rfl,rfl,rfl,trivial⟩ (fun W h=>h.phi (fun W hφ=>⟨hφ,(fun W _=>Cl.nil _ _) W hφ,(fun W _=>Cl.nil _ _) W hφ,(fun W _=>Cl.nil _ _) W hφ,(fun W _=>Cl.nil _ _) W hφ⟩)) (fun ⟨n934,i692,l693,l694,l698,l702,i706,l707,A695,c696,A699,c700,A703,c704,A708,c709⟩ u ⟨hlp,hc696,hc700,hc704,hc709⟩=>?_)
  obtain ⟨o2,hm,hnx2⟩:=lp_step hlp
  clear hlp
  replace hm : m_law13_ConfRings_s2 p0 p1 i692 l693 l694 l698 l702 i706 l707 = some o2:=hm
  unfold m_law13_ConfRings_s2 at hm
  refine c_abs (fun φ935 q935'=>?_)
  have q935 : ∀ W,φ935 W→φ W:=fun W h=>(q935' W h).1
  have f697:=fun (W : World) (h : φ935 W)=>(q935' W h).2.1
  have f701:=fun (W : World) (h : φ935 W)=>(q935' W h).2.2.1
  have f705:=fun (W : World) (h : φ935 W)=>(q935' W h).2.2.2.1
  have f710:=fun (W : World) (h : φ935 W)=>(q935' W h).2.2.2.2
  refine c_flat [(0,.slice Ap0_0 p0.length cp0_0),(1,.slice Ap1_0 p1.length cp1_0),(5,.bool x1),(6,.pointer (some ⟨g3,0,none⟩)),(7,.pointer (some ⟨g4,0,none⟩)),(8,.int .i64 i692)] ⟨rfl,rfl,rfl,rfl,rfl,rfl,trivial⟩ (fun u=>?_)
  refine c_sta ⟨w0,M,(100070,g4,.cells (l693.map (fun x : Bool=>Value.bool x)).toArray 40 (0,0))::(100060,g3,.cells #[.slice A695 l694.length c696,.slice A699 l698.length c700,.slice A703 l702.length c704,.int .i64 i706,.slice A708 l707.length c709] 29 (0,0))::H,R,φ935⟩ (fun _ h=>h)<|c_seq<|c_seq<|c_region<|g_v rfl r_move<|g_v rfl r_move<|g_v rfl (r_lenL Try.underlying25 rfl)<|g_v rfl (r_lss rfl rfl)<|g_v rfl r_move ?_
  refine g_if rfl rfl rfl rfl rfl (fun h936=>?_) (fun h936=>?_)
  ·
   replace hm:=ite_t hm (of_decide_eq_true h936)
   refine g_v rfl r_move<|g_do rfl rfl rfl rfl rfl h936<|g_v rfl (r_lss rfl rfl)<|g_v rfl (r_pick1 rfl h936)<|g_nil<|d_then ?_
   refine c_cond rfl (fun h937=>?_) (fun h937=>?_)
   ·
    replace hm:=ite_t hm (of_decide_eq_true h937)
    refine c_skip<|d_then<|c_seq<|c_block<|c_seq<|c_region<|g_v rfl r_move<|g_v rfl r_move ?_
    replace hm:=bnd hm
    obtain ⟨x938,hx938,hm⟩:=hm
    refine g_know _ (fun W hS=>cl_at (p:=(Sta.mk w0 M H R φ).ok) (sz:=1) (fun _=>rfl) (by decide) (ok_pre (H1:=[_,_]) (R1:=[]) hS (fun W h=>(q935 _ h))) fp0_0 hx938) ?_
    rintro ⟨ad939,hA941,f940⟩
    refine g_v rfl (r_ix Try.underlying25 Try.sizeOf3 rfl hA941 rfl hx938)<|g_v rfl (r_ld rfl Try.isAgg3 (fun W hS=>Cl.head (f940 W (ok_pre (H1:=[_,_]) (R1:=[]) hS (fun W h=>(q935 _ h))))))<|g_v rfl (r_rem rfl rfl (by decide) rfl)<|g_v rfl r_assign<|g_nil<|d_then ?_
    refine c_flat [(0,.slice Ap0_0 p0.length cp0_0),(1,.slice Ap1_0 p1.length cp1_0),(5,.bool x1),(6,.pointer (some ⟨g3,0,none⟩)),(7,.pointer (some ⟨g4,0,none⟩)),(8,.int .i64 i692),(9,.int .i64 (x938.tmod 68))] ⟨rfl,rfl,rfl,rfl,rfl,rfl,rfl,trivial⟩ (fun u=>?_)
    refine c_seq ?_
    refine c_cut (ι:=Int) [0,1,5,6,7,8,9] (fun i943=>[(9,.int .i64 i943)]) (fun i943=>⟨w0,M,(100070,g4,.cells (l693.map (fun x : Bool=>Value.bool x)).toArray 40 (0,0))::(100060,g3,.cells #[.slice A695 l694.length c696,.slice A699 l698.length c700,.slice A703 l702.length c704,.int .i64 i706,.slice A708 l707.length c709] 29 (0,0))::H,R,φ935⟩) (fun i943=>m_law13_ConfRings_j3 i692 p1 l694 l698 l702 i706 l707 l693 i943 = some o2) ?_ (fun i943 u hm=>?_)
    ·
     refine c_seq<|c_region<|g_v rfl r_move<|g_v rfl (r_lss rfl rfl)<|g_nil<|d_then ?_
     refine c_cond rfl (fun h1290=>?_) (fun h1290=>?_)
     ·
      replace hm:=ite_t hm (of_decide_eq_true h1290)
      refine c_region<|g_v rfl r_move<|g_v rfl (r_neg rfl rfl)<|g_v rfl r_assign<|g_nil ?_
      exact d_round (w64 (0 - x938.tmod 68)) hm Nat.zero_lt_one ⟨rfl,rfl,rfl,rfl,rfl,rfl,rfl,trivial⟩ (fun W h=>h.phi (fun W hφ=>hφ))
     replace hm:=ite_f hm (of_decide_eq_false h1290)
     refine c_skip ?_
     exact d_round (x938.tmod 68) hm Nat.zero_lt_one ⟨rfl,rfl,rfl,rfl,rfl,rfl,rfl,trivial⟩ (fun W h=>h.phi (fun W hφ=>hφ))
    unfold m_law13_ConfRings_j3 at hm
    refine d_flat [(0,.slice Ap0_0 p0.length cp0_0),(1,.slice Ap1_0 p1.length cp1_0),(5,.bool x1),(6,.pointer (some ⟨g3,0,none⟩)),(7,.pointer (some ⟨g4,0,none⟩)),(8,.int .i64 i692),(9,.int .i64 i943)] ⟨rfl,rfl,rfl,rfl,rfl,rfl,rfl,trivial⟩ (fun u=>?_)
    refine d_then<|c_seq<|c_region<|g_v rfl r_move<|g_v rfl (r_sub rfl rfl rfl)<|g_v rfl r_assign<|g_nil<|d_then<|c_seq<|c_region ?_
    refine g_v rfl r_assign<|g_nil<|d_then<|c_seq<|c_seq<|c_region<|g_v rfl r_move<|g_v rfl r_move<|g_v rfl (r_lenL Try.underlying39 rfl)<|g_v rfl (r_lss rfl rfl) ?_
    refine g_v rfl r_move ?_
    refine g_if rfl rfl rfl rfl rfl (fun h950=>?_) (fun h950=>?_)
    ·
     replace hm:=ite_t hm (of_decide_eq_true h950)
     refine g_v rfl r_move<|g_do rfl rfl rfl rfl rfl h950<|g_v rfl r_move<|g_do rfl rfl rfl rfl rfl h950 ?_
     replace hm:=bnd hm
     obtain ⟨x951,hx951,hm⟩:=hm
     refine g_know _ (fun W hS=>cl_at (p:=(Sta.mk w0 M H R φ).ok) (sz:=1) (fun _=>rfl) (by decide) (ok_pre (H1:=[_,_]) (R1:=[]) hS (fun W h=>(q935 _ h))) fp1_0 hx951) ?_
     rintro ⟨ad952,hA954,f953⟩
     refine g_v rfl (r_ix Try.underlying39 Try.sizeOf4 rfl hA954 rfl hx951)<|g_do rfl rfl rfl rfl rfl h950<|g_v rfl (r_ld rfl Try.isAgg4 (fun W hS=>Cl.head (f953 W (ok_pre (H1:=[_,_]) (R1:=[]) hS (fun W h=>(q935 _ h))))))<|g_v rfl (r_pick1 rfl h950)<|g_nil<|d_then ?_
     refine c_flat [(0,.slice Ap0_0 p0.length cp0_0),(1,.slice Ap1_0 p1.length cp1_0),(5,.bool x1),(6,.pointer (some ⟨g3,0,none⟩)),(7,.pointer (some ⟨g4,0,none⟩)),(8,.int .i64 i692),(9,.int .i64 (w64 (i943 - 2))),(10,.int .i64 1),(46,.bool x951)] ⟨rfl,rfl,rfl,rfl,rfl,rfl,rfl,rfl,rfl,trivial⟩ (fun u=>?_)
     refine c_cond rfl (fun h956=>?_) (fun h956=>?_)
     ·
      replace hm:=ite_t hm h956
      refine c_region<|g_v rfl r_assign<|g_nil<|d_then<|c_seq<|c_region<|g_v rfl (r_loadA (tag:=100060) rfl rfl Try.isAgg29 Try.sizeOf29 rfl rfl)<|g_v rfl r_move<|g_v rfl r_move<|g_v rfl (r_build _ rfl (bld35_0 _ _)) ?_
      replace hm:=bnd hm
      obtain ⟨⟨x957,x958⟩,hx959,hm⟩:=hm
      refine g_cn ⟨w0,M,_,_,φ935⟩ (fun _ h=>h) Try.call10 rfl rfl (c_conf_Apply_k2 (⟨l694,l698,l702,i706,l707⟩ : GConf) A695 c696 hc696 (fun W h=>f697 W h) A699 c700 hc700 (fun W h=>f701 W h) A703 c704 hc704 (fun W h=>f705 W h) A708 c709 hc709 (fun W h=>f710 W h) (w64 (i943 - 2)) (⟨#[]⟩ : ByteArray) (⟨#[]⟩ : ByteArray) (⟨#[]⟩ : ByteArray) ([] : List ByteArray) none 0 (Nat.le_refl 0) (fun W _=>Cl.nil _ _) _ hx959) (fun ⟨A960,c961,A963,c964,A966,c967,A969,c970⟩ ⟨hc961,hc964,hc967,hc970⟩=>?_)
      refine g_abs (fun φ972 q972'=>?_)
      have q972 : ∀ W,φ972 W→φ935 W:=fun W h=>(q972' W h).1
      have f962:=fun (W : World) (h : φ972 W)=>(q972' W h).2.1
      have f965:=fun (W : World) (h : φ972 W)=>(q972' W h).2.2.1
      have f968:=fun (W : World) (h : φ972 W)=>(q972' W h).2.2.2.1
      have f971:=fun (W : World) (h : φ972 W)=>(q972' W h).2.2.2.2
      refine g_v rfl r_move<|g_v rfl (r_extract rfl rfl)<|g_v rfl (r_extract rfl rfl) ?_
      refine g_e rfl (e_alloc 100110 Try.zeroValue29) (fun g974 _=>?_)
      refine g_storeL (tag:=100110) rfl rfl rfl rfl Try.sizeOf29 rfl rfl<|g_v rfl r_assign<|g_nil<|d_then ?_
      refine c_flat [(0,.slice Ap0_0 p0.length cp0_0),(1,.slice Ap1_0 p1.length cp1_0),(5,.bool x1),(6,.pointer (some ⟨g3,0,none⟩)),(7,.pointer (some ⟨g4,0,none⟩)),(8,.int .i64 i692),(9,.int .i64 (w64 (i943 - 2))),(10,.int .i64 2),(11,.pointer (some ⟨g974,0,none⟩)),(12,.int .i64 x958)] ⟨rfl,rfl,rfl,rfl,rfl,rfl,rfl,rfl,rfl,rfl,trivial⟩ (fun u=>?_)
      refine c_sta ⟨w0,M,(100110,g974,.cells #[.slice A960 x957.fRing.length c961,.slice A963 x957.fHints.length c964,.slice A966 x957.fAnchors.length c967,.int .i64 x957.fEpoch,.slice A969 x957.fFlushes.length c970] 29 (0,0))::(100070,g4,.cells (l693.map (fun x : Bool=>Value.bool x)).toArray 40 (0,0))::(100060,g3,.cells #[.slice A695 l694.length c696,.slice A699 l698.length c700,.slice A703 l702.length c704,.int .i64 i706,.slice A708 l707.length c709] 29 (0,0))::H,R,φ972⟩ (fun _ h=>h)<|c_seq<|c_seq<|c_region<|g_v rfl r_move<|g_v rfl (r_lss rfl rfl)<|g_v rfl r_move ?_
      refine g_if rfl rfl rfl rfl rfl (fun h975=>?_) (fun h975=>?_)
      ·
       replace hm:=ite_f hm (of_decide_eq_false h975)
       refine g_v rfl r_move<|g_do rfl rfl rfl rfl rfl h975<|g_v rfl (r_gtr rfl rfl)<|g_v rfl (r_pick0 rfl h975)<|g_nil<|d_then ?_
       refine c_cond rfl (fun h976=>?_) (fun h976=>?_)
       ·
        replace hm:=ite_t hm (of_decide_eq_true h976)
        refine c_seq<|c_seq<|c_region<|g_v rfl r_move<|g_v rfl (r_neq rfl rfl)<|g_nil<|d_then ?_
        refine c_cond rfl (fun h977=>?_) (fun h977=>?_)
        ·
         replace hm:=ite_t hm (of_decide_eq_true h977)
         refine c_seq<|c_region<|g_v rfl r_assign<|g_nil<|d_then ?_
         refine c_flat [(4,.bool false)] ⟨rfl,trivial⟩ (fun u=>?_)
         refine c_ret<|d_ret_then<|d_ret_then<|d_ret_block<|d_ret_then<|d_ret_then<|d_ret_block<|d_ret_then<|d_ret_then ?_
         replace hm:=nx_out (C:=(fun e : Unit ⊕ Bool=>Sum.elim (fun e=>m_law13_ConfRings_j1 x1) (fun x=>some x) e = some r)) hm hnx2 hr2
         replace hm : some false = some r:=hm
         cases hm
         exact d_retC () Try.results4 (res_tmp (res_nil rfl)) trivial (fun W h=>ok_pre (H1:=[_,_,_]) (R1:=[]) h (fun W hφ=>(q935 _ (q972 _ hφ)))) (.inr rfl)
        replace hm:=ite_f hm (of_decide_eq_false h977)
        refine c_skip<|d_then<|c_exit<|d_exit_then<|d_exit_block<|d_then<|c_region<|g_v rfl r_move<|g_v rfl (r_add rfl rfl rfl)<|g_v rfl r_assign ?_
        refine g_nil ?_
        obtain ⟨n978,hn978,hlp⟩:=nx_inl hm hnx2
        exact d_round (n978,w64 (i692 + 1),l693,l694,l698,l702,i706,l707,A695,c696,A699,c700,A703,c704,A708,c709) ⟨hlp,hc696,hc700,hc704,hc709⟩ hn978 ⟨rfl,rfl,rfl,rfl,rfl,rfl,trivial⟩ (fun W h=>(h.dropH (t:=100110) rfl).phi (fun W hφ=>⟨(q935 _ (q972 _ hφ)),(fun W h=>f697 W (q972 _ h)) W hφ,(fun W h=>f701 W (q972 _ h)) W hφ,(fun W h=>f705 W (q972 _ h)) W hφ,(fun W h=>f710 W (q972 _ h)) W hφ⟩))
       replace hm:=ite_f hm (of_decide_eq_false h976)
       refine c_skip<|d_then<|c_seq ?_
       refine c_cut (ι:=Int) [0,1,5,6,7,8,9,11,12] (fun i984=>[(9,.int .i64 i984)]) (fun i984=>⟨w0,M,(100110,g974,.cells #[.slice A960 x957.fRing.length c961,.slice A963 x957.fHints.length c964,.slice A966 x957.fAnchors.length c967,.int .i64 x957.fEpoch,.slice A969 x957.fFlushes.length c970] 29 (0,0))::(100070,g4,.cells (l693.map (fun x : Bool=>Value.bool x)).toArray 40 (0,0))::(100060,g3,.cells #[.slice A695 l694.length c696,.slice A699 l698.length c700,.slice A703 l702.length c704,.int .i64 i706,.slice A708 l707.length c709] 29 (0,0))::H,R,φ972⟩) (fun i984=>m_law13_ConfRings_j4 x958 l693 x957 i692 i984 = some o2) ?_ (fun i984 u hm=>?_)
       ·
        refine c_seq<|c_region<|g_v rfl r_move<|g_v rfl (r_eql rfl rfl)<|g_v rfl r_move ?_
        replace hm:=bnd hm
        obtain ⟨a1061,ha1061,hm⟩:=hm
        refine g_v rfl (r_aix Try.underlying40 Try.sizeOf4 rfl rfl ha1061 rfl) ?_
        replace hm:=bnd hm
        obtain ⟨x1062,hx1062,hm⟩:=hm
        refine g_v rfl (r_ldL (tag:=100070) (f:=(fun x : Bool=>Value.bool x)) rfl rfl Try.isAgg4 hx1062)<|g_v rfl r_move<|g_v rfl (r_eql rfl rfl)<|g_v rfl (r_eqlBo Try.underlying4 rfl rfl)<|g_v rfl (r_neqBo Try.underlying4 rfl rfl)<|g_v rfl r_move ?_
        refine g_if rfl rfl rfl rfl rfl (fun h1063=>?_) (fun h1063=>?_)
        ·
         replace hm:=ite_f hm (bool_nt h1063)
         refine g_v rfl r_move<|g_do rfl rfl rfl rfl rfl h1063<|g_v rfl (r_neq rfl rfl)<|g_do rfl rfl rfl rfl rfl h1063<|g_v rfl r_move ?_
         refine g_if rfl rfl rfl rfl rfl (fun h1064=>?_) (fun h1064=>?_)
         ·
          replace hm:=ite_t hm (of_decide_eq_true h1064)
          refine g_v rfl r_move<|g_do rfl rfl rfl rfl rfl h1064<|g_v rfl (r_neq rfl rfl)<|g_do rfl rfl rfl rfl rfl h1063<|g_v rfl (r_pick1 rfl h1064)<|g_v rfl (r_pick0 rfl h1063)<|g_nil<|d_then ?_
          refine c_flat [(0,.slice Ap0_0 p0.length cp0_0),(1,.slice Ap1_0 p1.length cp1_0),(5,.bool x1),(6,.pointer (some ⟨g3,0,none⟩)),(7,.pointer (some ⟨g4,0,none⟩)),(8,.int .i64 i692),(9,.int .i64 (w64 (i943 - 2))),(11,.pointer (some ⟨g974,0,none⟩)),(12,.int .i64 x958),(79,.bool (decide (x958 ≠ 13)))] ⟨rfl,rfl,rfl,rfl,rfl,rfl,rfl,rfl,rfl,rfl,trivial⟩ (fun u=>?_)
          refine c_cond rfl (fun h1065=>?_) (fun h1065=>?_)
          ·
           replace hm:=ite_t hm (of_decide_eq_true h1065)
           refine c_seq<|c_region<|g_v rfl r_assign<|g_nil<|d_then<|c_ret<|d_ret_then<|d_ret_then<|d_ret_block<|d_ret_then ?_
           refine d_ret_then<|d_ret_block<|d_ret_then<|d_ret_then ?_
           replace hm:=nx_out (C:=(fun e : Unit ⊕ Bool=>Sum.elim (fun e=>m_law13_ConfRings_j1 x1) (fun x=>some x) e = some r)) hm hnx2 hr2
           replace hm : some false = some r:=hm
           cases hm
           exact d_retC () Try.results4 (res_tmp (res_nil rfl)) trivial (fun W h=>ok_pre (H1:=[_,_,_]) (R1:=[]) h (fun W hφ=>(q935 _ (q972 _ hφ)))) (.inr rfl)
          replace hm:=ite_f hm (of_decide_eq_false h1065)
          refine c_skip ?_
          exact d_round (w64 (i943 - 2)) hm Nat.zero_lt_one ⟨rfl,rfl,rfl,rfl,rfl,rfl,rfl,rfl,rfl,trivial⟩ (fun W h=>h.phi (fun W hφ=>hφ))
         replace hm:=ite_f hm (of_decide_eq_false h1064)
         refine g_no rfl rfl rfl rfl rfl h1064<|g_do rfl rfl rfl rfl rfl h1063<|g_v rfl (r_pick0 rfl h1064)<|g_v rfl (r_pick0 rfl h1063)<|g_nil<|d_then ?_
         refine c_flat [(0,.slice Ap0_0 p0.length cp0_0),(1,.slice Ap1_0 p1.length cp1_0),(5,.bool x1),(6,.pointer (some ⟨g3,0,none⟩)),(7,.pointer (some ⟨g4,0,none⟩)),(8,.int .i64 i692),(9,.int .i64 (w64 (i943 - 2))),(11,.pointer (some ⟨g974,0,none⟩)),(12,.int .i64 x958),(79,.bool false)] ⟨rfl,rfl,rfl,rfl,rfl,rfl,rfl,rfl,rfl,rfl,trivial⟩ (fun u=>?_)
         refine c_cond0 rfl rfl<|c_skip ?_
         exact d_round (w64 (i943 - 2)) hm Nat.zero_lt_one ⟨rfl,rfl,rfl,rfl,rfl,rfl,rfl,rfl,rfl,trivial⟩ (fun W h=>h.phi (fun W hφ=>hφ))
        replace hm:=ite_t hm h1063
        refine g_no rfl rfl rfl rfl rfl h1063<|g_no rfl rfl rfl rfl rfl h1063<|g_nu rfl rfl rfl rfl rfl<|g_nu rfl rfl rfl rfl rfl<|g_no rfl rfl rfl rfl rfl h1063<|g_v rfl (r_pick1 rfl h1063)<|g_nil<|d_then ?_
        refine c_flat [(0,.slice Ap0_0 p0.length cp0_0),(1,.slice Ap1_0 p1.length cp1_0),(5,.bool x1),(6,.pointer (some ⟨g3,0,none⟩)),(7,.pointer (some ⟨g4,0,none⟩)),(8,.int .i64 i692),(9,.int .i64 (w64 (i943 - 2))),(11,.pointer (some ⟨g974,0,none⟩)),(12,.int .i64 x958),(79,.bool true)] ⟨rfl,rfl,rfl,rfl,rfl,rfl,rfl,rfl,rfl,rfl,trivial⟩ (fun u=>?_)
        refine c_cond1 rfl rfl<|c_seq<|c_region<|g_v rfl r_assign<|g_nil<|d_then<|c_ret<|d_ret_then<|d_ret_then<|d_ret_block ?_
        refine d_ret_then<|d_ret_then<|d_ret_block<|d_ret_then<|d_ret_then ?_
        replace hm:=nx_out (C:=(fun e : Unit ⊕ Bool=>Sum.elim (fun e=>m_law13_ConfRings_j1 x1) (fun x=>some x) e = some r)) hm hnx2 hr2
        replace hm : some false = some r:=hm
        cases hm
        exact d_retC () Try.results4 (res_tmp (res_nil rfl)) trivial (fun W h=>ok_pre (H1:=[_,_,_]) (R1:=[]) h (fun W hφ=>(q935 _ (q972 _ hφ)))) (.inr rfl)
       unfold m_law13_ConfRings_j4 at hm
       refine d_flat [(0,.slice Ap0_0 p0.length cp0_0),(1,.slice Ap1_0 p1.length cp1_0),(5,.bool x1),(6,.pointer (some ⟨g3,0,none⟩)),(7,.pointer (some ⟨g4,0,none⟩)),(8,.int .i64 i692),(9,.int .i64 i984),(11,.pointer (some ⟨g974,0,none⟩)),(12,.int .i64 x958)] ⟨rfl,rfl,rfl,rfl,rfl,rfl,rfl,rfl,rfl,trivial⟩ (fun u=>?_)
       refine d_then<|c_seq ?_
       refine c_cut (ι:=(List Bool)) [0,1,5,6,7,8,11] (fun l990=>[]) (fun l990=>⟨w0,M,(100110,g974,.cells #[.slice A960 x957.fRing.length c961,.slice A963 x957.fHints.length c964,.slice A966 x957.fAnchors.length c967,.int .i64 x957.fEpoch,.slice A969 x957.fFlushes.length c970] 29 (0,0))::(100070,g4,.cells (l990.map (fun x : Bool=>Value.bool x)).toArray 40 (0,0))::(100060,g3,.cells #[.slice A695 l694.length c696,.slice A699 l698.length c700,.slice A703 l702.length c704,.int .i64 i706,.slice A708 l707.length c709] 29 (0,0))::H,R,φ972⟩) (fun l990=>m_law13_ConfRings_j5 x957 i692 l990 = some o2) ?_ (fun l990 u hm=>?_)
       ·
        refine c_seq<|c_region<|g_v rfl r_move<|g_v rfl (r_eql rfl rfl)<|g_nil<|d_then ?_
        refine c_cond rfl (fun h1056=>?_) (fun h1056=>?_)
        ·
         replace hm:=ite_t hm (of_decide_eq_true h1056)
         refine c_region<|g_v rfl r_move<|g_v rfl r_move ?_
         replace hm:=bnd hm
         obtain ⟨a1057,ha1057,hm⟩:=hm
         refine g_v rfl (r_aix Try.underlying40 Try.sizeOf4 rfl rfl ha1057 rfl) ?_
         replace hm:=bnd hm
         obtain ⟨x1058,hx1058,hm⟩:=hm
         refine g_v rfl (r_ldL (tag:=100070) (f:=(fun x : Bool=>Value.bool x)) rfl rfl Try.isAgg4 hx1058)<|g_v rfl (r_not rfl) ?_
         replace hm:=bnd hm
         obtain ⟨a1059,ha1059,hm⟩:=hm
         refine g_v rfl (r_aix Try.underlying40 Try.sizeOf4 rfl rfl ha1059 rfl) ?_
         replace hm:=bnd hm
         obtain ⟨l1060,hl1060,hm⟩:=hm
         refine g_s (e_stL (tag:=100070) (f:=(fun x : Bool=>Value.bool x)) (v:=!x1058) rfl rfl rfl rfl rfl Try.sizeOf4 rfl hl1060)<|g_nil ?_
         exact d_round l1060 hm Nat.zero_lt_one ⟨rfl,rfl,rfl,rfl,rfl,rfl,rfl,trivial⟩ (fun W h=>h.phi (fun W hφ=>hφ))
        replace hm:=ite_f hm (of_decide_eq_false h1056)
        refine c_skip ?_
        exact d_round l693 hm Nat.zero_lt_one ⟨rfl,rfl,rfl,rfl,rfl,rfl,rfl,trivial⟩ (fun W h=>h.phi (fun W hφ=>hφ))
       unfold m_law13_ConfRings_j5 at hm
       refine d_flat [(0,.slice Ap0_0 p0.length cp0_0),(1,.slice Ap1_0 p1.length cp1_0),(5,.bool x1),(6,.pointer (some ⟨g3,0,none⟩)),(7,.pointer (some ⟨g4,0,none⟩)),(8,.int .i64 i692),(11,.pointer (some ⟨g974,0,none⟩))] ⟨rfl,rfl,rfl,rfl,rfl,rfl,rfl,trivial⟩ (fun u=>?_)
       refine d_sta ⟨w0,M,(100110,g974,.cells #[.slice A960 x957.fRing.length c961,.slice A963 x957.fHints.length c964,.slice A966 x957.fAnchors.length c967,.int .i64 x957.fEpoch,.slice A969 x957.fFlushes.length c970] 29 (0,0))::(100070,g4,.cells (l990.map (fun x : Bool=>Value.bool x)).toArray 40 (0,0))::(100060,g3,.cells #[.slice A695 l694.length c696,.slice A699 l698.length c700,.slice A703 l702.length c704,.int .i64 i706,.slice A708 l707.length c709] 29 (0,0))::H,R,φ972⟩ (fun _ h=>h)<|d_then<|c_seq<|c_region<|g_v rfl (r_loadA (tag:=100110) rfl rfl Try.isAgg29 Try.sizeOf29 rfl rfl)<|g_storeL (tag:=100060) rfl rfl rfl rfl Try.sizeOf29 rfl rfl<|g_nil<|d_then<|c_seq<|c_region ?_
       refine g_v rfl r_assign<|g_nil<|d_then<|c_seq<|c_seq<|c_region<|g_v rfl r_assign<|g_nil<|d_then ?_
       refine c_cut (ι:=Int) [0,1,5,6,7,8,13] (fun i1016=>[(13,.int .i64 i1016)]) (fun i1016=>⟨w0,M,(100070,g4,.cells (l990.map (fun x : Bool=>Value.bool x)).toArray 40 (0,0))::(100060,g3,.cells #[.slice A960 x957.fRing.length c961,.slice A963 x957.fHints.length c964,.slice A966 x957.fAnchors.length c967,.int .i64 x957.fEpoch,.slice A969 x957.fFlushes.length c970] 29 (0,0))::H,R,φ972⟩) (fun i1016=>m_law13_ConfRings_j6 x957 i692 l990 i1016 = some o2) ?_ (fun i1016 u hm=>?_)
       ·
        refine c_block ?_
        replace hm:=bnd hm
        obtain ⟨out7,hl7,hr7⟩:=hm
        obtain ⟨n1043',hl7⟩:=loop_lp hl7
        refine c_loopU (ι:=Nat×Int×Int) [0,1,5,6,7,8,13,14] (fun ⟨n1043,i1029,i1030⟩=>[(13,.int .i64 i1029),(14,.int .i64 i1030)]) (fun ⟨n1043,i1029,i1030⟩=>⟨w0,M,(100070,g4,.cells (l990.map (fun x : Bool=>Value.bool x)).toArray 40 (0,0))::(100060,g3,.cells #[.slice A960 x957.fRing.length c961,.slice A963 x957.fHints.length c964,.slice A966 x957.fAnchors.length c967,.int .i64 x957.fEpoch,.slice A969 x957.fFlushes.length c970] 29 (0,0))::H,R,φ972⟩) (fun ⟨n1043,i1029,i1030⟩=>Lp (fun s=>m_law13_ConfRings_s7 l990 x957 s.1 s.2) n1043 (i1029,i1030) out7) (fun ⟨n1043,i1029,i1030⟩=>n1043) (n1043',0,0) hl7 ⟨rfl,rfl,rfl,rfl,rfl,rfl,rfl,rfl,trivial⟩ (fun W h=>(h.dropH (t:=100110) rfl).phi (fun W hφ=>hφ)) (fun ⟨n1043,i1029,i1030⟩ u hlp=>?_)
        obtain ⟨o7,hm,hnx7⟩:=lp_step hlp
        clear hlp
        replace hm : m_law13_ConfRings_s7 l990 x957 i1029 i1030 = some o7:=hm
        unfold m_law13_ConfRings_s7 at hm
        refine c_flat [(0,.slice Ap0_0 p0.length cp0_0),(1,.slice Ap1_0 p1.length cp1_0),(5,.bool x1),(6,.pointer (some ⟨g3,0,none⟩)),(7,.pointer (some ⟨g4,0,none⟩)),(8,.int .i64 i692),(13,.int .i64 i1029),(14,.int .i64 i1030)] ⟨rfl,rfl,rfl,rfl,rfl,rfl,rfl,rfl,trivial⟩ (fun u=>?_)
        refine c_sta ⟨w0,M,(100070,g4,.cells (l990.map (fun x : Bool=>Value.bool x)).toArray 40 (0,0))::(100060,g3,.cells #[.slice A960 x957.fRing.length c961,.slice A963 x957.fHints.length c964,.slice A966 x957.fAnchors.length c967,.int .i64 x957.fEpoch,.slice A969 x957.fFlushes.length c970] 29 (0,0))::H,R,φ972⟩ (fun _ h=>h)<|c_seq<|c_seq<|c_region<|g_v rfl r_move<|g_v rfl (r_lss rfl rfl)<|g_nil<|d_then ?_
        refine c_cond rfl (fun h1044=>?_) (fun h1044=>?_)
        ·
         replace hm:=ite_t hm (of_decide_eq_true h1044)
         refine c_skip<|d_then<|c_seq<|c_block<|c_seq<|c_region<|g_v rfl r_move ?_
         replace hm:=bnd hm
         obtain ⟨a1045,ha1045,hm⟩:=hm
         refine g_v rfl (r_aix Try.underlying40 Try.sizeOf4 rfl rfl ha1045 rfl) ?_
         replace hm:=bnd hm
         obtain ⟨x1046,hx1046,hm⟩:=hm
         refine g_v rfl (r_ldL (tag:=100070) (f:=(fun x : Bool=>Value.bool x)) rfl rfl Try.isAgg4 hx1046)<|g_nil<|d_then ?_
         refine c_cond rfl (fun h1047=>?_) (fun h1047=>?_)
         ·
          replace hm:=ite_t hm h1047
          refine c_seq<|c_seq<|c_region<|g_v rfl r_move<|g_v rfl (r_field (n:=0) Try.underlying29 rfl Try.sizeOf25 rfl rfl)<|g_v rfl (r_load (tag:=100060) rfl rfl rfl Try.isAgg25)<|g_v rfl (r_lenL Try.underlying25 rfl)<|g_v rfl (r_geq rfl rfl)<|g_v rfl r_move ?_
          refine g_if rfl rfl rfl rfl rfl (fun h1048=>?_) (fun h1048=>?_)
          ·
           replace hm:=ite_f hm (of_decide_eq_false h1048)
           refine g_v rfl (r_field (n:=0) Try.underlying29 rfl Try.sizeOf25 rfl rfl)<|g_do rfl rfl rfl rfl rfl h1048<|g_v rfl (r_load (tag:=100060) rfl rfl rfl Try.isAgg25)<|g_do rfl rfl rfl rfl rfl h1048<|g_v rfl r_move<|g_do rfl rfl rfl rfl rfl h1048 ?_
           replace hm:=bnd hm
           obtain ⟨x1049,hx1049,hm⟩:=hm
           refine g_know _ (fun W hS=>cl_at (p:=φ972) (sz:=1) (fun _=>rfl) (by decide) hS.now f962 hx1049) ?_
           rintro ⟨ad1050,hA1052,f1051⟩
           refine g_v rfl (r_ix Try.underlying25 Try.sizeOf3 rfl hA1052 rfl hx1049)<|g_do rfl rfl rfl rfl rfl h1048<|g_v rfl (r_ld rfl Try.isAgg3 (fun W hS=>Cl.head (f1051 W hS.now)))<|g_do rfl rfl rfl rfl rfl h1048<|g_v rfl r_move<|g_do rfl rfl rfl rfl rfl h1048<|g_v rfl (r_neq rfl rfl)<|g_v rfl (r_pick0 rfl h1048)<|g_nil<|d_then ?_
           refine c_flat [(0,.slice Ap0_0 p0.length cp0_0),(1,.slice Ap1_0 p1.length cp1_0),(5,.bool x1),(6,.pointer (some ⟨g3,0,none⟩)),(7,.pointer (some ⟨g4,0,none⟩)),(8,.int .i64 i692),(13,.int .i64 i1029),(14,.int .i64 i1030),(109,.bool (decide (x1049 ≠ i1030)))] ⟨rfl,rfl,rfl,rfl,rfl,rfl,rfl,rfl,rfl,trivial⟩ (fun u=>?_)
           refine c_cond rfl (fun h1053=>?_) (fun h1053=>?_)
           ·
            replace hm:=ite_t hm (of_decide_eq_true h1053)
            refine c_seq<|c_region<|g_v rfl r_assign<|g_nil<|d_then<|c_ret<|d_ret_then<|d_ret_block<|d_ret_then<|d_ret_then ?_
            refine d_ret_block<|d_ret_then<|d_ret_then<|d_ret_block<|d_ret_then<|d_ret_then<|d_ret_block<|d_ret_then<|d_ret_then ?_
            replace hm:=nx_out (C:=(fun e : Int ⊕ Bool=>Sum.elim (fun e=>m_law13_ConfRings_j6 x957 i692 l990 e) (fun x=>some (.inr (.inr x))) e = some o2)) hm hnx7 hr7
            replace hm : some (.inr (.inr false)) = some o2:=hm
            replace hm:=nx_out (C:=(fun e : Unit ⊕ Bool=>Sum.elim (fun e=>m_law13_ConfRings_j1 x1) (fun x=>some x) e = some r)) hm hnx2 hr2
            replace hm : some false = some r:=hm
            cases hm
            exact d_retC () Try.results4 (res_tmp (res_nil rfl)) trivial (fun W h=>ok_pre (H1:=[_,_]) (R1:=[]) h (fun W hφ=>(q935 _ (q972 _ hφ)))) (.inr rfl)
           replace hm:=ite_f hm (of_decide_eq_false h1053)
           refine c_skip<|d_then<|c_region<|g_v rfl r_move<|g_v rfl (r_add rfl rfl rfl)<|g_v rfl r_assign<|g_nil<|d_normal_block<|d_then<|c_region ?_
           refine g_v rfl r_move<|g_v rfl (r_add rfl rfl rfl)<|g_v rfl r_assign<|g_nil ?_
           obtain ⟨n1054,hn1054,hlp⟩:=nx_inl hm hnx7
           exact d_round (n1054,w64 (i1029 + 1),w64 (i1030 + 1)) hlp hn1054 ⟨rfl,rfl,rfl,rfl,rfl,rfl,rfl,rfl,trivial⟩ (fun W h=>h.phi (fun W hφ=>hφ))
          replace hm:=ite_t hm (of_decide_eq_true h1048)
          iterate 6 refine g_no rfl rfl rfl rfl rfl h1048 ?_
          refine g_v rfl (r_pick1 rfl h1048)<|g_nil<|d_then ?_
          refine c_flat [(0,.slice Ap0_0 p0.length cp0_0),(1,.slice Ap1_0 p1.length cp1_0),(5,.bool x1),(6,.pointer (some ⟨g3,0,none⟩)),(7,.pointer (some ⟨g4,0,none⟩)),(8,.int .i64 i692),(13,.int .i64 i1029),(14,.int .i64 i1030),(109,.bool true)] ⟨rfl,rfl,rfl,rfl,rfl,rfl,rfl,rfl,rfl,trivial⟩ (fun u=>?_)
          refine c_cond1 rfl rfl<|c_seq<|c_region<|g_v rfl r_assign<|g_nil<|d_then<|c_ret<|d_ret_then<|d_ret_block<|d_ret_then ?_
          refine d_ret_then<|d_ret_block<|d_ret_then<|d_ret_then<|d_ret_block<|d_ret_then<|d_ret_then<|d_ret_block<|d_ret_then<|d_ret_then ?_
          replace hm:=nx_out (C:=(fun e : Int ⊕ Bool=>Sum.elim (fun e=>m_law13_ConfRings_j6 x957 i692 l990 e) (fun x=>some (.inr (.inr x))) e = some o2)) hm hnx7 hr7
          replace hm : some (.inr (.inr false)) = some o2:=hm
          replace hm:=nx_out (C:=(fun e : Unit ⊕ Bool=>Sum.elim (fun e=>m_law13_ConfRings_j1 x1) (fun x=>some x) e = some r)) hm hnx2 hr2
          replace hm : some false = some r:=hm
          cases hm
          exact d_retC () Try.results4 (res_tmp (res_nil rfl)) trivial (fun W h=>ok_pre (H1:=[_,_]) (R1:=[]) h (fun W hφ=>(q935 _ (q972 _ hφ)))) (.inr rfl)
         replace hm:=ite_f hm (bool_nt h1047)
         refine c_skip<|d_normal_block<|d_then<|c_region<|g_v rfl r_move<|g_v rfl (r_add rfl rfl rfl)<|g_v rfl r_assign<|g_nil ?_
         obtain ⟨n1055,hn1055,hlp⟩:=nx_inl hm hnx7
         exact d_round (n1055,i1029,w64 (i1030 + 1)) hlp hn1055 ⟨rfl,rfl,rfl,rfl,rfl,rfl,rfl,rfl,trivial⟩ (fun W h=>h.phi (fun W hφ=>hφ))
        replace hm:=ite_f hm (of_decide_eq_false h1044)
        refine c_exit<|d_exit_then<|d_exit_then<|d_exit_block ?_
        replace hm:=nx_out (C:=(fun e : Int ⊕ Bool=>Sum.elim (fun e=>m_law13_ConfRings_j6 x957 i692 l990 e) (fun x=>some (.inr (.inr x))) e = some o2)) hm hnx7 hr7
        exact d_round i1029 hm Nat.zero_lt_one ⟨rfl,rfl,rfl,rfl,rfl,rfl,rfl,trivial⟩ (fun W h=>h.phi (fun W hφ=>hφ))
       unfold m_law13_ConfRings_j6 at hm
       refine d_flat [(0,.slice Ap0_0 p0.length cp0_0),(1,.slice Ap1_0 p1.length cp1_0),(5,.bool x1),(6,.pointer (some ⟨g3,0,none⟩)),(7,.pointer (some ⟨g4,0,none⟩)),(8,.int .i64 i692),(13,.int .i64 i1016)] ⟨rfl,rfl,rfl,rfl,rfl,rfl,rfl,trivial⟩ (fun u=>?_)
       refine d_sta ⟨w0,M,(100070,g4,.cells (l990.map (fun x : Bool=>Value.bool x)).toArray 40 (0,0))::(100060,g3,.cells #[.slice A960 x957.fRing.length c961,.slice A963 x957.fHints.length c964,.slice A966 x957.fAnchors.length c967,.int .i64 x957.fEpoch,.slice A969 x957.fFlushes.length c970] 29 (0,0))::H,R,φ972⟩ (fun _ h=>h)<|d_then<|c_seq<|c_region<|g_v rfl r_move<|g_v rfl (r_field (n:=0) Try.underlying29 rfl Try.sizeOf25 rfl rfl)<|g_v rfl (r_load (tag:=100060) rfl rfl rfl Try.isAgg25)<|g_v rfl (r_lenL Try.underlying25 rfl)<|g_v rfl (r_neq rfl rfl)<|g_nil ?_
       refine d_then ?_
       refine c_cond rfl (fun h1017=>?_) (fun h1017=>?_)
       ·
        replace hm:=ite_t hm (of_decide_eq_true h1017)
        refine c_seq<|c_region<|g_v rfl r_assign<|g_nil<|d_then<|c_ret<|d_ret_block<|d_ret_then<|d_ret_then<|d_ret_block ?_
        refine d_ret_then<|d_ret_then ?_
        replace hm:=nx_out (C:=(fun e : Unit ⊕ Bool=>Sum.elim (fun e=>m_law13_ConfRings_j1 x1) (fun x=>some x) e = some r)) hm hnx2 hr2
        replace hm : some false = some r:=hm
        cases hm
        exact d_retC () Try.results4 (res_tmp (res_nil rfl)) trivial (fun W h=>ok_pre (H1:=[_,_]) (R1:=[]) h (fun W hφ=>(q935 _ (q972 _ hφ)))) (.inr rfl)
       replace hm:=ite_f hm (of_decide_eq_false h1017)
       refine c_skip<|d_normal_block<|d_then<|c_region<|g_v rfl r_move<|g_v rfl (r_add rfl rfl rfl)<|g_v rfl r_assign<|g_nil ?_
       obtain ⟨n1018,hn1018,hlp⟩:=nx_inl hm hnx2
       exact d_round (n1018,w64 (i692 + 1),l990,x957.fRing,x957.fHints,x957.fAnchors,x957.fEpoch,x957.fFlushes,A960,c961,A963,c964,A966,c967,A969,c970) ⟨hlp,hc961,hc964,hc967,hc970⟩ hn1018 ⟨rfl,rfl,rfl,rfl,rfl,rfl,trivial⟩ (fun W h=>h.phi (fun W hφ=>⟨(q935 _ (q972 _ hφ)),(fun W h=>f962 W h) W hφ,(fun W h=>f965 W h) W hφ,(fun W h=>f968 W h) W hφ,(fun W h=>f971 W h) W hφ⟩))
      replace hm:=ite_t hm (of_decide_eq_true h975)
      refine g_no rfl rfl rfl rfl rfl h975<|g_v rfl (r_pick1 rfl h975)<|g_nil<|d_then<|c_cond1 rfl rfl<|c_seq<|c_seq<|c_region<|g_v rfl r_move<|g_v rfl (r_neq rfl rfl) ?_
      refine g_nil<|d_then ?_
      refine c_cond rfl (fun h1066=>?_) (fun h1066=>?_)
      ·
       replace hm:=ite_t hm (of_decide_eq_true h1066)
       refine c_seq<|c_region<|g_v rfl r_assign<|g_nil<|d_then<|c_ret<|d_ret_then<|d_ret_then<|d_ret_block<|d_ret_then ?_
       refine d_ret_then<|d_ret_block<|d_ret_then<|d_ret_then ?_
       replace hm:=nx_out (C:=(fun e : Unit ⊕ Bool=>Sum.elim (fun e=>m_law13_ConfRings_j1 x1) (fun x=>some x) e = some r)) hm hnx2 hr2
       replace hm : some false = some r:=hm
       cases hm
       exact d_retC () Try.results4 (res_tmp (res_nil rfl)) trivial (fun W h=>ok_pre (H1:=[_,_,_]) (R1:=[]) h (fun W hφ=>(q935 _ (q972 _ hφ)))) (.inr rfl)
      replace hm:=ite_f hm (of_decide_eq_false h1066)
      refine c_skip<|d_then<|c_exit<|d_exit_then<|d_exit_block<|d_then<|c_region<|g_v rfl r_move<|g_v rfl (r_add rfl rfl rfl)<|g_v rfl r_assign ?_
      refine g_nil ?_
      obtain ⟨n1067,hn1067,hlp⟩:=nx_inl hm hnx2
      exact d_round (n1067,w64 (i692 + 1),l693,l694,l698,l702,i706,l707,A695,c696,A699,c700,A703,c704,A708,c709) ⟨hlp,hc696,hc700,hc704,hc709⟩ hn1067 ⟨rfl,rfl,rfl,rfl,rfl,rfl,trivial⟩ (fun W h=>(h.dropH (t:=100110) rfl).phi (fun W hφ=>⟨(q935 _ (q972 _ hφ)),(fun W h=>f697 W (q972 _ h)) W hφ,(fun W h=>f701 W (q972 _ h)) W hφ,(fun W h=>f705 W (q972 _ h)) W hφ,(fun W h=>f710 W (q972 _ h)) W hφ⟩))
     replace hm:=ite_f hm (bool_nt h956)
     refine c_skip<|d_then<|c_seq<|c_region<|g_v rfl (r_loadA (tag:=100060) rfl rfl Try.isAgg29 Try.sizeOf29 rfl rfl)<|g_v rfl r_move<|g_v rfl r_move<|g_v rfl (r_build _ rfl (bld35_0 _ _)) ?_
     replace hm:=bnd hm
     obtain ⟨⟨x1068,x1069⟩,hx1070,hm⟩:=hm
     refine g_cn ⟨w0,M,_,_,φ935⟩ (fun _ h=>h) Try.call10 rfl rfl (c_conf_Apply_k1 (⟨l694,l698,l702,i706,l707⟩ : GConf) A695 c696 hc696 (fun W h=>f697 W h) A699 c700 hc700 (fun W h=>f701 W h) A703 c704 hc704 (fun W h=>f705 W h) A708 c709 hc709 (fun W h=>f710 W h) (w64 (i943 - 2)) (⟨#[]⟩ : ByteArray) (⟨#[]⟩ : ByteArray) (⟨#[]⟩ : ByteArray) ([] : List ByteArray) none 0 (Nat.le_refl 0) (fun W _=>Cl.nil _ _) _ hx1070) (fun ⟨A1071,c1072,A1074,c1075,A1077,c1078,A1080,c1081⟩ ⟨hc1072,hc1075,hc1078,hc1081⟩=>?_)
     refine g_abs (fun φ1083 q1083'=>?_)
     have q1083 : ∀ W,φ1083 W→φ935 W:=fun W h=>(q1083' W h).1
     have f1073:=fun (W : World) (h : φ1083 W)=>(q1083' W h).2.1
     have f1076:=fun (W : World) (h : φ1083 W)=>(q1083' W h).2.2.1
     have f1079:=fun (W : World) (h : φ1083 W)=>(q1083' W h).2.2.2.1
     have f1082:=fun (W : World) (h : φ1083 W)=>(q1083' W h).2.2.2.2
     refine g_v rfl r_move<|g_v rfl (r_extract rfl rfl)<|g_v rfl (r_extract rfl rfl) ?_
     refine g_e rfl (e_alloc 100110 Try.zeroValue29) (fun g1085 _=>?_)
     refine g_storeL (tag:=100110) rfl rfl rfl rfl Try.sizeOf29 rfl rfl<|g_v rfl r_assign<|g_nil<|d_then ?_
     refine c_flat [(0,.slice Ap0_0 p0.length cp0_0),(1,.slice Ap1_0 p1.length cp1_0),(5,.bool x1),(6,.pointer (some ⟨g3,0,none⟩)),(7,.pointer (some ⟨g4,0,none⟩)),(8,.int .i64 i692),(9,.int .i64 (w64 (i943 - 2))),(10,.int .i64 1),(11,.pointer (some ⟨g1085,0,none⟩)),(12,.int .i64 x1069)] ⟨rfl,rfl,rfl,rfl,rfl,rfl,rfl,rfl,rfl,rfl,trivial⟩ (fun u=>?_)
     refine c_sta ⟨w0,M,(100110,g1085,.cells #[.slice A1071 x1068.fRing.length c1072,.slice A1074 x1068.fHints.length c1075,.slice A1077 x1068.fAnchors.length c1078,.int .i64 x1068.fEpoch,.slice A1080 x1068.fFlushes.length c1081] 29 (0,0))::(100070,g4,.cells (l693.map (fun x : Bool=>Value.bool x)).toArray 40 (0,0))::(100060,g3,.cells #[.slice A695 l694.length c696,.slice A699 l698.length c700,.slice A703 l702.length c704,.int .i64 i706,.slice A708 l707.length c709] 29 (0,0))::H,R,φ1083⟩ (fun _ h=>h)<|c_seq<|c_seq<|c_region<|g_v rfl r_move<|g_v rfl (r_lss rfl rfl)<|g_v rfl r_move ?_
     refine g_if rfl rfl rfl rfl rfl (fun h1086=>?_) (fun h1086=>?_)
     ·
      replace hm:=ite_f hm (of_decide_eq_false h1086)
      refine g_v rfl r_move<|g_do rfl rfl rfl rfl rfl h1086<|g_v rfl (r_gtr rfl rfl)<|g_v rfl (r_pick0 rfl h1086)<|g_nil<|d_then ?_
      refine c_cond rfl (fun h1087=>?_) (fun h1087=>?_)
      ·
       replace hm:=ite_t hm (of_decide_eq_true h1087)
       refine c_seq<|c_seq<|c_region<|g_v rfl r_move<|g_v rfl (r_neq rfl rfl)<|g_nil<|d_then ?_
       refine c_cond rfl (fun h1088=>?_) (fun h1088=>?_)
       ·
        replace hm:=ite_t hm (of_decide_eq_true h1088)
        refine c_seq<|c_region<|g_v rfl r_assign<|g_nil<|d_then ?_
        refine c_flat [(4,.bool false)] ⟨rfl,trivial⟩ (fun u=>?_)
        refine c_ret<|d_ret_then<|d_ret_then<|d_ret_block<|d_ret_then<|d_ret_then<|d_ret_block<|d_ret_then<|d_ret_then ?_
        replace hm:=nx_out (C:=(fun e : Unit ⊕ Bool=>Sum.elim (fun e=>m_law13_ConfRings_j1 x1) (fun x=>some x) e = some r)) hm hnx2 hr2
        replace hm : some false = some r:=hm
        cases hm
        exact d_retC () Try.results4 (res_tmp (res_nil rfl)) trivial (fun W h=>ok_pre (H1:=[_,_,_]) (R1:=[]) h (fun W hφ=>(q935 _ (q1083 _ hφ)))) (.inr rfl)
       replace hm:=ite_f hm (of_decide_eq_false h1088)
       refine c_skip<|d_then<|c_exit<|d_exit_then<|d_exit_block<|d_then<|c_region<|g_v rfl r_move<|g_v rfl (r_add rfl rfl rfl)<|g_v rfl r_assign ?_
       refine g_nil ?_
       obtain ⟨n1089,hn1089,hlp⟩:=nx_inl hm hnx2
       exact d_round (n1089,w64 (i692 + 1),l693,l694,l698,l702,i706,l707,A695,c696,A699,c700,A703,c704,A708,c709) ⟨hlp,hc696,hc700,hc704,hc709⟩ hn1089 ⟨rfl,rfl,rfl,rfl,rfl,rfl,trivial⟩ (fun W h=>(h.dropH (t:=100110) rfl).phi (fun W hφ=>⟨(q935 _ (q1083 _ hφ)),(fun W h=>f697 W (q1083 _ h)) W hφ,(fun W h=>f701 W (q1083 _ h)) W hφ,(fun W h=>f705 W (q1083 _ h)) W hφ,(fun W h=>f710 W (q1083 _ h)) W hφ⟩))
      replace hm:=ite_f hm (of_decide_eq_false h1087)
      refine c_skip<|d_then<|c_seq ?_
      refine c_cut (ι:=Int) [0,1,5,6,7,8,9,11,12] (fun i1095=>[(9,.int .i64 i1095)]) (fun i1095=>⟨w0,M,(100110,g1085,.cells #[.slice A1071 x1068.fRing.length c1072,.slice A1074 x1068.fHints.length c1075,.slice A1077 x1068.fAnchors.length c1078,.int .i64 x1068.fEpoch,.slice A1080 x1068.fFlushes.length c1081] 29 (0,0))::(100070,g4,.cells (l693.map (fun x : Bool=>Value.bool x)).toArray 40 (0,0))::(100060,g3,.cells #[.slice A695 l694.length c696,.slice A699 l698.length c700,.slice A703 l702.length c704,.int .i64 i706,.slice A708 l707.length c709] 29 (0,0))::H,R,φ1083⟩) (fun i1095=>m_law13_ConfRings_j8 x1069 l693 x1068 i692 i1095 = some o2) ?_ (fun i1095 u hm=>?_)
      ·
       refine c_seq<|c_region<|g_v rfl r_move<|g_v rfl (r_eql rfl rfl)<|g_v rfl r_move ?_
       replace hm:=bnd hm
       obtain ⟨a1172,ha1172,hm⟩:=hm
       refine g_v rfl (r_aix Try.underlying40 Try.sizeOf4 rfl rfl ha1172 rfl) ?_
       replace hm:=bnd hm
       obtain ⟨x1173,hx1173,hm⟩:=hm
       refine g_v rfl (r_ldL (tag:=100070) (f:=(fun x : Bool=>Value.bool x)) rfl rfl Try.isAgg4 hx1173)<|g_v rfl r_move<|g_v rfl (r_eql rfl rfl)<|g_v rfl (r_eqlBo Try.underlying4 rfl rfl)<|g_v rfl (r_neqBo Try.underlying4 rfl rfl)<|g_v rfl r_move ?_
       refine g_if rfl rfl rfl rfl rfl (fun h1174=>?_) (fun h1174=>?_)
       ·
        replace hm:=ite_f hm (bool_nt h1174)
        refine g_v rfl r_move<|g_do rfl rfl rfl rfl rfl h1174<|g_v rfl (r_neq rfl rfl)<|g_do rfl rfl rfl rfl rfl h1174<|g_v rfl r_move ?_
        refine g_if rfl rfl rfl rfl rfl (fun h1175=>?_) (fun h1175=>?_)
        ·
         replace hm:=ite_t hm (of_decide_eq_true h1175)
         refine g_v rfl r_move<|g_do rfl rfl rfl rfl rfl h1175<|g_v rfl (r_neq rfl rfl)<|g_do rfl rfl rfl rfl rfl h1174<|g_v rfl (r_pick1 rfl h1175)<|g_v rfl (r_pick0 rfl h1174)<|g_nil<|d_then ?_
         refine c_flat [(0,.slice Ap0_0 p0.length cp0_0),(1,.slice Ap1_0 p1.length cp1_0),(5,.bool x1),(6,.pointer (some ⟨g3,0,none⟩)),(7,.pointer (some ⟨g4,0,none⟩)),(8,.int .i64 i692),(9,.int .i64 (w64 (i943 - 2))),(11,.pointer (some ⟨g1085,0,none⟩)),(12,.int .i64 x1069),(79,.bool (decide (x1069 ≠ 13)))] ⟨rfl,rfl,rfl,rfl,rfl,rfl,rfl,rfl,rfl,rfl,trivial⟩ (fun u=>?_)
         refine c_cond rfl (fun h1176=>?_) (fun h1176=>?_)
         ·
          replace hm:=ite_t hm (of_decide_eq_true h1176)
          refine c_seq<|c_region<|g_v rfl r_assign<|g_nil<|d_then<|c_ret<|d_ret_then<|d_ret_then<|d_ret_block<|d_ret_then ?_
          refine d_ret_then<|d_ret_block<|d_ret_then<|d_ret_then ?_
          replace hm:=nx_out (C:=(fun e : Unit ⊕ Bool=>Sum.elim (fun e=>m_law13_ConfRings_j1 x1) (fun x=>some x) e = some r)) hm hnx2 hr2
          replace hm : some false = some r:=hm
          cases hm
          exact d_retC () Try.results4 (res_tmp (res_nil rfl)) trivial (fun W h=>ok_pre (H1:=[_,_,_]) (R1:=[]) h (fun W hφ=>(q935 _ (q1083 _ hφ)))) (.inr rfl)
         replace hm:=ite_f hm (of_decide_eq_false h1176)
         refine c_skip ?_
         exact d_round (w64 (i943 - 2)) hm Nat.zero_lt_one ⟨rfl,rfl,rfl,rfl,rfl,rfl,rfl,rfl,rfl,trivial⟩ (fun W h=>h.phi (fun W hφ=>hφ))
        replace hm:=ite_f hm (of_decide_eq_false h1175)
        refine g_no rfl rfl rfl rfl rfl h1175<|g_do rfl rfl rfl rfl rfl h1174<|g_v rfl (r_pick0 rfl h1175)<|g_v rfl (r_pick0 rfl h1174)<|g_nil<|d_then ?_
        refine c_flat [(0,.slice Ap0_0 p0.length cp0_0),(1,.slice Ap1_0 p1.length cp1_0),(5,.bool x1),(6,.pointer (some ⟨g3,0,none⟩)),(7,.pointer (some ⟨g4,0,none⟩)),(8,.int .i64 i692),(9,.int .i64 (w64 (i943 - 2))),(11,.pointer (some ⟨g1085,0,none⟩)),(12,.int .i64 x1069),(79,.bool false)] ⟨rfl,rfl,rfl,rfl,rfl,rfl,rfl,rfl,rfl,rfl,trivial⟩ (fun u=>?_)
        refine c_cond0 rfl rfl<|c_skip ?_
        exact d_round (w64 (i943 - 2)) hm Nat.zero_lt_one ⟨rfl,rfl,rfl,rfl,rfl,rfl,rfl,rfl,rfl,trivial⟩ (fun W h=>h.phi (fun W hφ=>hφ))
       replace hm:=ite_t hm h1174
       refine g_no rfl rfl rfl rfl rfl h1174<|g_no rfl rfl rfl rfl rfl h1174<|g_nu rfl rfl rfl rfl rfl<|g_nu rfl rfl rfl rfl rfl<|g_no rfl rfl rfl rfl rfl h1174<|g_v rfl (r_pick1 rfl h1174)<|g_nil<|d_then ?_
       refine c_flat [(0,.slice Ap0_0 p0.length cp0_0),(1,.slice Ap1_0 p1.length cp1_0),(5,.bool x1),(6,.pointer (some ⟨g3,0,none⟩)),(7,.pointer (some ⟨g4,0,none⟩)),(8,.int .i64 i692),(9,.int .i64 (w64 (i943 - 2))),(11,.pointer (some ⟨g1085,0,none⟩)),(12,.int .i64 x1069),(79,.bool true)] ⟨rfl,rfl,rfl,rfl,rfl,rfl,rfl,rfl,rfl,rfl,trivial⟩ (fun u=>?_)
       refine c_cond1 rfl rfl<|c_seq<|c_region<|g_v rfl r_assign<|g_nil<|d_then<|c_ret<|d_ret_then<|d_ret_then<|d_ret_block ?_
       refine d_ret_then<|d_ret_then<|d_ret_block<|d_ret_then<|d_ret_then ?_
       replace hm:=nx_out (C:=(fun e : Unit ⊕ Bool=>Sum.elim (fun e=>m_law13_ConfRings_j1 x1) (fun x=>some x) e = some r)) hm hnx2 hr2
       replace hm : some false = some r:=hm
       cases hm
       exact d_retC () Try.results4 (res_tmp (res_nil rfl)) trivial (fun W h=>ok_pre (H1:=[_,_,_]) (R1:=[]) h (fun W hφ=>(q935 _ (q1083 _ hφ)))) (.inr rfl)
      unfold m_law13_ConfRings_j8 at hm
      refine d_flat [(0,.slice Ap0_0 p0.length cp0_0),(1,.slice Ap1_0 p1.length cp1_0),(5,.bool x1),(6,.pointer (some ⟨g3,0,none⟩)),(7,.pointer (some ⟨g4,0,none⟩)),(8,.int .i64 i692),(9,.int .i64 i1095),(11,.pointer (some ⟨g1085,0,none⟩)),(12,.int .i64 x1069)] ⟨rfl,rfl,rfl,rfl,rfl,rfl,rfl,rfl,rfl,trivial⟩ (fun u=>?_)
      refine d_then<|c_seq ?_
      refine c_cut (ι:=(List Bool)) [0,1,5,6,7,8,11] (fun l1101=>[]) (fun l1101=>⟨w0,M,(100110,g1085,.cells #[.slice A1071 x1068.fRing.length c1072,.slice A1074 x1068.fHints.length c1075,.slice A1077 x1068.fAnchors.length c1078,.int .i64 x1068.fEpoch,.slice A1080 x1068.fFlushes.length c1081] 29 (0,0))::(100070,g4,.cells (l1101.map (fun x : Bool=>Value.bool x)).toArray 40 (0,0))::(100060,g3,.cells #[.slice A695 l694.length c696,.slice A699 l698.length c700,.slice A703 l702.length c704,.int .i64 i706,.slice A708 l707.length c709] 29 (0,0))::H,R,φ1083⟩) (fun l1101=>m_law13_ConfRings_j9 x1068 i692 l1101 = some o2) ?_ (fun l1101 u hm=>?_)
      ·
       refine c_seq<|c_region<|g_v rfl r_move<|g_v rfl (r_eql rfl rfl)<|g_nil<|d_then ?_
       refine c_cond rfl (fun h1167=>?_) (fun h1167=>?_)
       ·
        replace hm:=ite_t hm (of_decide_eq_true h1167)
        refine c_region<|g_v rfl r_move<|g_v rfl r_move ?_
        replace hm:=bnd hm
        obtain ⟨a1168,ha1168,hm⟩:=hm
        refine g_v rfl (r_aix Try.underlying40 Try.sizeOf4 rfl rfl ha1168 rfl) ?_
        replace hm:=bnd hm
        obtain ⟨x1169,hx1169,hm⟩:=hm
        refine g_v rfl (r_ldL (tag:=100070) (f:=(fun x : Bool=>Value.bool x)) rfl rfl Try.isAgg4 hx1169)<|g_v rfl (r_not rfl) ?_
        replace hm:=bnd hm
        obtain ⟨a1170,ha1170,hm⟩:=hm
        refine g_v rfl (r_aix Try.underlying40 Try.sizeOf4 rfl rfl ha1170 rfl) ?_
        replace hm:=bnd hm
        obtain ⟨l1171,hl1171,hm⟩:=hm
        refine g_s (e_stL (tag:=100070) (f:=(fun x : Bool=>Value.bool x)) (v:=!x1169) rfl rfl rfl rfl rfl Try.sizeOf4 rfl hl1171)<|g_nil ?_
        exact d_round l1171 hm Nat.zero_lt_one ⟨rfl,rfl,rfl,rfl,rfl,rfl,rfl,trivial⟩ (fun W h=>h.phi (fun W hφ=>hφ))
       replace hm:=ite_f hm (of_decide_eq_false h1167)
       refine c_skip ?_
       exact d_round l693 hm Nat.zero_lt_one ⟨rfl,rfl,rfl,rfl,rfl,rfl,rfl,trivial⟩ (fun W h=>h.phi (fun W hφ=>hφ))
      unfold m_law13_ConfRings_j9 at hm
      refine d_flat [(0,.slice Ap0_0 p0.length cp0_0),(1,.slice Ap1_0 p1.length cp1_0),(5,.bool x1),(6,.pointer (some ⟨g3,0,none⟩)),(7,.pointer (some ⟨g4,0,none⟩)),(8,.int .i64 i692),(11,.pointer (some ⟨g1085,0,none⟩))] ⟨rfl,rfl,rfl,rfl,rfl,rfl,rfl,trivial⟩ (fun u=>?_)
      refine d_sta ⟨w0,M,(100110,g1085,.cells #[.slice A1071 x1068.fRing.length c1072,.slice A1074 x1068.fHints.length c1075,.slice A1077 x1068.fAnchors.length c1078,.int .i64 x1068.fEpoch,.slice A1080 x1068.fFlushes.length c1081] 29 (0,0))::(100070,g4,.cells (l1101.map (fun x : Bool=>Value.bool x)).toArray 40 (0,0))::(100060,g3,.cells #[.slice A695 l694.length c696,.slice A699 l698.length c700,.slice A703 l702.length c704,.int .i64 i706,.slice A708 l707.length c709] 29 (0,0))::H,R,φ1083⟩ (fun _ h=>h)<|d_then<|c_seq<|c_region<|g_v rfl (r_loadA (tag:=100110) rfl rfl Try.isAgg29 Try.sizeOf29 rfl rfl)<|g_storeL (tag:=100060) rfl rfl rfl rfl Try.sizeOf29 rfl rfl<|g_nil<|d_then<|c_seq<|c_region ?_
      refine g_v rfl r_assign<|g_nil<|d_then<|c_seq<|c_seq<|c_region<|g_v rfl r_assign<|g_nil<|d_then ?_
      refine c_cut (ι:=Int) [0,1,5,6,7,8,13] (fun i1127=>[(13,.int .i64 i1127)]) (fun i1127=>⟨w0,M,(100070,g4,.cells (l1101.map (fun x : Bool=>Value.bool x)).toArray 40 (0,0))::(100060,g3,.cells #[.slice A1071 x1068.fRing.length c1072,.slice A1074 x1068.fHints.length c1075,.slice A1077 x1068.fAnchors.length c1078,.int .i64 x1068.fEpoch,.slice A1080 x1068.fFlushes.length c1081] 29 (0,0))::H,R,φ1083⟩) (fun i1127=>m_law13_ConfRings_j10 x1068 i692 l1101 i1127 = some o2) ?_ (fun i1127 u hm=>?_)
      ·
       refine c_block ?_
       replace hm:=bnd hm
       obtain ⟨out11,hl11,hr11⟩:=hm
       obtain ⟨n1154',hl11⟩:=loop_lp hl11
       refine c_loopU (ι:=Nat×Int×Int) [0,1,5,6,7,8,13,14] (fun ⟨n1154,i1140,i1141⟩=>[(13,.int .i64 i1140),(14,.int .i64 i1141)]) (fun ⟨n1154,i1140,i1141⟩=>⟨w0,M,(100070,g4,.cells (l1101.map (fun x : Bool=>Value.bool x)).toArray 40 (0,0))::(100060,g3,.cells #[.slice A1071 x1068.fRing.length c1072,.slice A1074 x1068.fHints.length c1075,.slice A1077 x1068.fAnchors.length c1078,.int .i64 x1068.fEpoch,.slice A1080 x1068.fFlushes.length c1081] 29 (0,0))::H,R,φ1083⟩) (fun ⟨n1154,i1140,i1141⟩=>Lp (fun s=>m_law13_ConfRings_s11 l1101 x1068 s.1 s.2) n1154 (i1140,i1141) out11) (fun ⟨n1154,i1140,i1141⟩=>n1154) (n1154',0,0) hl11 ⟨rfl,rfl,rfl,rfl,rfl,rfl,rfl,rfl,trivial⟩ (fun W h=>(h.dropH (t:=100110) rfl).phi (fun W hφ=>hφ)) (fun ⟨n1154,i1140,i1141⟩ u hlp=>?_)
       obtain ⟨o11,hm,hnx11⟩:=lp_step hlp
       clear hlp
       replace hm : m_law13_ConfRings_s11 l1101 x1068 i1140 i1141 = some o11:=hm
       unfold m_law13_ConfRings_s11 at hm
       refine c_flat [(0,.slice Ap0_0 p0.length cp0_0),(1,.slice Ap1_0 p1.length cp1_0),(5,.bool x1),(6,.pointer (some ⟨g3,0,none⟩)),(7,.pointer (some ⟨g4,0,none⟩)),(8,.int .i64 i692),(13,.int .i64 i1140),(14,.int .i64 i1141)] ⟨rfl,rfl,rfl,rfl,rfl,rfl,rfl,rfl,trivial⟩ (fun u=>?_)
       refine c_sta ⟨w0,M,(100070,g4,.cells (l1101.map (fun x : Bool=>Value.bool x)).toArray 40 (0,0))::(100060,g3,.cells #[.slice A1071 x1068.fRing.length c1072,.slice A1074 x1068.fHints.length c1075,.slice A1077 x1068.fAnchors.length c1078,.int .i64 x1068.fEpoch,.slice A1080 x1068.fFlushes.length c1081] 29 (0,0))::H,R,φ1083⟩ (fun _ h=>h)<|c_seq<|c_seq<|c_region<|g_v rfl r_move<|g_v rfl (r_lss rfl rfl)<|g_nil<|d_then ?_
       refine c_cond rfl (fun h1155=>?_) (fun h1155=>?_)
       ·
        replace hm:=ite_t hm (of_decide_eq_true h1155)
        refine c_skip<|d_then<|c_seq<|c_block<|c_seq<|c_region<|g_v rfl r_move ?_
        replace hm:=bnd hm
        obtain ⟨a1156,ha1156,hm⟩:=hm
        refine g_v rfl (r_aix Try.underlying40 Try.sizeOf4 rfl rfl ha1156 rfl) ?_
        replace hm:=bnd hm
        obtain ⟨x1157,hx1157,hm⟩:=hm
        refine g_v rfl (r_ldL (tag:=100070) (f:=(fun x : Bool=>Value.bool x)) rfl rfl Try.isAgg4 hx1157)<|g_nil<|d_then ?_
        refine c_cond rfl (fun h1158=>?_) (fun h1158=>?_)
        ·
         replace hm:=ite_t hm h1158
         refine c_seq<|c_seq<|c_region<|g_v rfl r_move<|g_v rfl (r_field (n:=0) Try.underlying29 rfl Try.sizeOf25 rfl rfl)<|g_v rfl (r_load (tag:=100060) rfl rfl rfl Try.isAgg25)<|g_v rfl (r_lenL Try.underlying25 rfl)<|g_v rfl (r_geq rfl rfl)<|g_v rfl r_move ?_
         refine g_if rfl rfl rfl rfl rfl (fun h1159=>?_) (fun h1159=>?_)
         ·
          replace hm:=ite_f hm (of_decide_eq_false h1159)
          refine g_v rfl (r_field (n:=0) Try.underlying29 rfl Try.sizeOf25 rfl rfl)<|g_do rfl rfl rfl rfl rfl h1159<|g_v rfl (r_load (tag:=100060) rfl rfl rfl Try.isAgg25)<|g_do rfl rfl rfl rfl rfl h1159<|g_v rfl r_move<|g_do rfl rfl rfl rfl rfl h1159 ?_
          replace hm:=bnd hm
          obtain ⟨x1160,hx1160,hm⟩:=hm
          refine g_know _ (fun W hS=>cl_at (p:=φ1083) (sz:=1) (fun _=>rfl) (by decide) hS.now f1073 hx1160) ?_
          rintro ⟨ad1161,hA1163,f1162⟩
          refine g_v rfl (r_ix Try.underlying25 Try.sizeOf3 rfl hA1163 rfl hx1160)<|g_do rfl rfl rfl rfl rfl h1159<|g_v rfl (r_ld rfl Try.isAgg3 (fun W hS=>Cl.head (f1162 W hS.now)))<|g_do rfl rfl rfl rfl rfl h1159<|g_v rfl r_move<|g_do rfl rfl rfl rfl rfl h1159<|g_v rfl (r_neq rfl rfl)<|g_v rfl (r_pick0 rfl h1159)<|g_nil<|d_then ?_
          refine c_flat [(0,.slice Ap0_0 p0.length cp0_0),(1,.slice Ap1_0 p1.length cp1_0),(5,.bool x1),(6,.pointer (some ⟨g3,0,none⟩)),(7,.pointer (some ⟨g4,0,none⟩)),(8,.int .i64 i692),(13,.int .i64 i1140),(14,.int .i64 i1141),(109,.bool (decide (x1160 ≠ i1141)))] ⟨rfl,rfl,rfl,rfl,rfl,rfl,rfl,rfl,rfl,trivial⟩ (fun u=>?_)
          refine c_cond rfl (fun h1164=>?_) (fun h1164=>?_)
          ·
           replace hm:=ite_t hm (of_decide_eq_true h1164)
           refine c_seq<|c_region<|g_v rfl r_assign<|g_nil<|d_then<|c_ret<|d_ret_then<|d_ret_block<|d_ret_then<|d_ret_then ?_
           refine d_ret_block<|d_ret_then<|d_ret_then<|d_ret_block<|d_ret_then<|d_ret_then<|d_ret_block<|d_ret_then<|d_ret_then ?_
           replace hm:=nx_out (C:=(fun e : Int ⊕ Bool=>Sum.elim (fun e=>m_law13_ConfRings_j10 x1068 i692 l1101 e) (fun x=>some (.inr (.inr x))) e = some o2)) hm hnx11 hr11
           replace hm : some (.inr (.inr false)) = some o2:=hm
           replace hm:=nx_out (C:=(fun e : Unit ⊕ Bool=>Sum.elim (fun e=>m_law13_ConfRings_j1 x1) (fun x=>some x) e = some r)) hm hnx2 hr2
           replace hm : some false = some r:=hm
           cases hm
           exact d_retC () Try.results4 (res_tmp (res_nil rfl)) trivial (fun W h=>ok_pre (H1:=[_,_]) (R1:=[]) h (fun W hφ=>(q935 _ (q1083 _ hφ)))) (.inr rfl)
          replace hm:=ite_f hm (of_decide_eq_false h1164)
          refine c_skip<|d_then<|c_region<|g_v rfl r_move<|g_v rfl (r_add rfl rfl rfl)<|g_v rfl r_assign<|g_nil<|d_normal_block<|d_then<|c_region ?_
          refine g_v rfl r_move<|g_v rfl (r_add rfl rfl rfl)<|g_v rfl r_assign<|g_nil ?_
          obtain ⟨n1165,hn1165,hlp⟩:=nx_inl hm hnx11
          exact d_round (n1165,w64 (i1140 + 1),w64 (i1141 + 1)) hlp hn1165 ⟨rfl,rfl,rfl,rfl,rfl,rfl,rfl,rfl,trivial⟩ (fun W h=>h.phi (fun W hφ=>hφ))
         replace hm:=ite_t hm (of_decide_eq_true h1159)
         iterate 6 refine g_no rfl rfl rfl rfl rfl h1159 ?_
         refine g_v rfl (r_pick1 rfl h1159)<|g_nil<|d_then ?_
         refine c_flat [(0,.slice Ap0_0 p0.length cp0_0),(1,.slice Ap1_0 p1.length cp1_0),(5,.bool x1),(6,.pointer (some ⟨g3,0,none⟩)),(7,.pointer (some ⟨g4,0,none⟩)),(8,.int .i64 i692),(13,.int .i64 i1140),(14,.int .i64 i1141),(109,.bool true)] ⟨rfl,rfl,rfl,rfl,rfl,rfl,rfl,rfl,rfl,trivial⟩ (fun u=>?_)
         refine c_cond1 rfl rfl<|c_seq<|c_region<|g_v rfl r_assign<|g_nil<|d_then<|c_ret<|d_ret_then<|d_ret_block<|d_ret_then ?_
         refine d_ret_then<|d_ret_block<|d_ret_then<|d_ret_then<|d_ret_block<|d_ret_then<|d_ret_then<|d_ret_block<|d_ret_then<|d_ret_then ?_
         replace hm:=nx_out (C:=(fun e : Int ⊕ Bool=>Sum.elim (fun e=>m_law13_ConfRings_j10 x1068 i692 l1101 e) (fun x=>some (.inr (.inr x))) e = some o2)) hm hnx11 hr11
         replace hm : some (.inr (.inr false)) = some o2:=hm
         replace hm:=nx_out (C:=(fun e : Unit ⊕ Bool=>Sum.elim (fun e=>m_law13_ConfRings_j1 x1) (fun x=>some x) e = some r)) hm hnx2 hr2
         replace hm : some false = some r:=hm
         cases hm
         exact d_retC () Try.results4 (res_tmp (res_nil rfl)) trivial (fun W h=>ok_pre (H1:=[_,_]) (R1:=[]) h (fun W hφ=>(q935 _ (q1083 _ hφ)))) (.inr rfl)
        replace hm:=ite_f hm (bool_nt h1158)
        refine c_skip<|d_normal_block<|d_then<|c_region<|g_v rfl r_move<|g_v rfl (r_add rfl rfl rfl)<|g_v rfl r_assign<|g_nil ?_
        obtain ⟨n1166,hn1166,hlp⟩:=nx_inl hm hnx11
        exact d_round (n1166,i1140,w64 (i1141 + 1)) hlp hn1166 ⟨rfl,rfl,rfl,rfl,rfl,rfl,rfl,rfl,trivial⟩ (fun W h=>h.phi (fun W hφ=>hφ))
       replace hm:=ite_f hm (of_decide_eq_false h1155)
       refine c_exit<|d_exit_then<|d_exit_then<|d_exit_block ?_
       replace hm:=nx_out (C:=(fun e : Int ⊕ Bool=>Sum.elim (fun e=>m_law13_ConfRings_j10 x1068 i692 l1101 e) (fun x=>some (.inr (.inr x))) e = some o2)) hm hnx11 hr11
       exact d_round i1140 hm Nat.zero_lt_one ⟨rfl,rfl,rfl,rfl,rfl,rfl,rfl,trivial⟩ (fun W h=>h.phi (fun W hφ=>hφ))
      unfold m_law13_ConfRings_j10 at hm
      refine d_flat [(0,.slice Ap0_0 p0.length cp0_0),(1,.slice Ap1_0 p1.length cp1_0),(5,.bool x1),(6,.pointer (some ⟨g3,0,none⟩)),(7,.pointer (some ⟨g4,0,none⟩)),(8,.int .i64 i692),(13,.int .i64 i1127)] ⟨rfl,rfl,rfl,rfl,rfl,rfl,rfl,trivial⟩ (fun u=>?_)
      refine d_sta ⟨w0,M,(100070,g4,.cells (l1101.map (fun x : Bool=>Value.bool x)).toArray 40 (0,0))::(100060,g3,.cells #[.slice A1071 x1068.fRing.length c1072,.slice A1074 x1068.fHints.length c1075,.slice A1077 x1068.fAnchors.length c1078,.int .i64 x1068.fEpoch,.slice A1080 x1068.fFlushes.length c1081] 29 (0,0))::H,R,φ1083⟩ (fun _ h=>h)<|d_then<|c_seq<|c_region<|g_v rfl r_move<|g_v rfl (r_field (n:=0) Try.underlying29 rfl Try.sizeOf25 rfl rfl)<|g_v rfl (r_load (tag:=100060) rfl rfl rfl Try.isAgg25)<|g_v rfl (r_lenL Try.underlying25 rfl)<|g_v rfl (r_neq rfl rfl)<|g_nil ?_
      refine d_then ?_
      refine c_cond rfl (fun h1128=>?_) (fun h1128=>?_)
      ·
       replace hm:=ite_t hm (of_decide_eq_true h1128)
       refine c_seq<|c_region<|g_v rfl r_assign<|g_nil<|d_then<|c_ret<|d_ret_block<|d_ret_then<|d_ret_then<|d_ret_block ?_
       refine d_ret_then<|d_ret_then ?_
       replace hm:=nx_out (C:=(fun e : Unit ⊕ Bool=>Sum.elim (fun e=>m_law13_ConfRings_j1 x1) (fun x=>some x) e = some r)) hm hnx2 hr2
       replace hm : some false = some r:=hm
       cases hm
       exact d_retC () Try.results4 (res_tmp (res_nil rfl)) trivial (fun W h=>ok_pre (H1:=[_,_]) (R1:=[]) h (fun W hφ=>(q935 _ (q1083 _ hφ)))) (.inr rfl)
      replace hm:=ite_f hm (of_decide_eq_false h1128)
      refine c_skip<|d_normal_block<|d_then<|c_region<|g_v rfl r_move<|g_v rfl (r_add rfl rfl rfl)<|g_v rfl r_assign<|g_nil ?_
      obtain ⟨n1129,hn1129,hlp⟩:=nx_inl hm hnx2
      exact d_round (n1129,w64 (i692 + 1),l1101,x1068.fRing,x1068.fHints,x1068.fAnchors,x1068.fEpoch,x1068.fFlushes,A1071,c1072,A1074,c1075,A1077,c1078,A1080,c1081) ⟨hlp,hc1072,hc1075,hc1078,hc1081⟩ hn1129 ⟨rfl,rfl,rfl,rfl,rfl,rfl,trivial⟩ (fun W h=>h.phi (fun W hφ=>⟨(q935 _ (q1083 _ hφ)),(fun W h=>f1073 W h) W hφ,(fun W h=>f1076 W h) W hφ,(fun W h=>f1079 W h) W hφ,(fun W h=>f1082 W h) W hφ⟩))
     replace hm:=ite_t hm (of_decide_eq_true h1086)
     refine g_no rfl rfl rfl rfl rfl h1086<|g_v rfl (r_pick1 rfl h1086)<|g_nil<|d_then<|c_cond1 rfl rfl<|c_seq<|c_seq<|c_region<|g_v rfl r_move<|g_v rfl (r_neq rfl rfl) ?_
     refine g_nil<|d_then ?_
     refine c_cond rfl (fun h1177=>?_) (fun h1177=>?_)
     ·
      replace hm:=ite_t hm (of_decide_eq_true h1177)
      refine c_seq<|c_region<|g_v rfl r_assign<|g_nil<|d_then<|c_ret<|d_ret_then<|d_ret_then<|d_ret_block<|d_ret_then ?_
      refine d_ret_then<|d_ret_block<|d_ret_then<|d_ret_then ?_
      replace hm:=nx_out (C:=(fun e : Unit ⊕ Bool=>Sum.elim (fun e=>m_law13_ConfRings_j1 x1) (fun x=>some x) e = some r)) hm hnx2 hr2
      replace hm : some false = some r:=hm
      cases hm
      exact d_retC () Try.results4 (res_tmp (res_nil rfl)) trivial (fun W h=>ok_pre (H1:=[_,_,_]) (R1:=[]) h (fun W hφ=>(q935 _ (q1083 _ hφ)))) (.inr rfl)
     replace hm:=ite_f hm (of_decide_eq_false h1177)
     refine c_skip<|d_then<|c_exit<|d_exit_then<|d_exit_block<|d_then<|c_region<|g_v rfl r_move<|g_v rfl (r_add rfl rfl rfl)<|g_v rfl r_assign ?_
     refine g_nil ?_
     obtain ⟨n1178,hn1178,hlp⟩:=nx_inl hm hnx2
     exact d_round (n1178,w64 (i692 + 1),l693,l694,l698,l702,i706,l707,A695,c696,A699,c700,A703,c704,A708,c709) ⟨hlp,hc696,hc700,hc704,hc709⟩ hn1178 ⟨rfl,rfl,rfl,rfl,rfl,rfl,trivial⟩ (fun W h=>(h.dropH (t:=100110) rfl).phi (fun W hφ=>⟨(q935 _ (q1083 _ hφ)),(fun W h=>f697 W (q1083 _ h)) W hφ,(fun W h=>f701 W (q1083 _ h)) W hφ,(fun W h=>f705 W (q1083 _ h)) W hφ,(fun W h=>f710 W (q1083 _ h)) W hφ⟩))
    replace hm:=ite_f hm (of_decide_eq_false h950)
    iterate 3 refine g_no rfl rfl rfl rfl rfl h950 ?_
    refine g_v rfl (r_pick0 rfl h950)<|g_nil<|d_then ?_
    refine c_flat [(0,.slice Ap0_0 p0.length cp0_0),(1,.slice Ap1_0 p1.length cp1_0),(5,.bool x1),(6,.pointer (some ⟨g3,0,none⟩)),(7,.pointer (some ⟨g4,0,none⟩)),(8,.int .i64 i692),(9,.int .i64 (w64 (i943 - 2))),(10,.int .i64 1),(46,.bool false)] ⟨rfl,rfl,rfl,rfl,rfl,rfl,rfl,rfl,rfl,trivial⟩ (fun u=>?_)
    refine c_cond0 rfl rfl<|c_skip<|d_then<|c_seq<|c_region<|g_v rfl (r_loadA (tag:=100060) rfl rfl Try.isAgg29 Try.sizeOf29 rfl rfl)<|g_v rfl r_move<|g_v rfl r_move<|g_v rfl (r_build _ rfl (bld35_0 _ _)) ?_
    replace hm:=bnd hm
    obtain ⟨⟨x1179,x1180⟩,hx1181,hm⟩:=hm
    refine g_cn ⟨w0,M,_,_,φ935⟩ (fun _ h=>h) Try.call10 rfl rfl (c_conf_Apply_k1 (⟨l694,l698,l702,i706,l707⟩ : GConf) A695 c696 hc696 (fun W h=>f697 W h) A699 c700 hc700 (fun W h=>f701 W h) A703 c704 hc704 (fun W h=>f705 W h) A708 c709 hc709 (fun W h=>f710 W h) (w64 (i943 - 2)) (⟨#[]⟩ : ByteArray) (⟨#[]⟩ : ByteArray) (⟨#[]⟩ : ByteArray) ([] : List ByteArray) none 0 (Nat.le_refl 0) (fun W _=>Cl.nil _ _) _ hx1181) (fun ⟨A1182,c1183,A1185,c1186,A1188,c1189,A1191,c1192⟩ ⟨hc1183,hc1186,hc1189,hc1192⟩=>?_)
    refine g_abs (fun φ1194 q1194'=>?_)
    have q1194 : ∀ W,φ1194 W→φ935 W:=fun W h=>(q1194' W h).1
    have f1184:=fun (W : World) (h : φ1194 W)=>(q1194' W h).2.1
    have f1187:=fun (W : World) (h : φ1194 W)=>(q1194' W h).2.2.1
    have f1190:=fun (W : World) (h : φ1194 W)=>(q1194' W h).2.2.2.1
    have f1193:=fun (W : World) (h : φ1194 W)=>(q1194' W h).2.2.2.2
    refine g_v rfl r_move<|g_v rfl (r_extract rfl rfl)<|g_v rfl (r_extract rfl rfl) ?_
    refine g_e rfl (e_alloc 100110 Try.zeroValue29) (fun g1196 _=>?_)
    refine g_storeL (tag:=100110) rfl rfl rfl rfl Try.sizeOf29 rfl rfl<|g_v rfl r_assign<|g_nil<|d_then ?_
    refine c_flat [(0,.slice Ap0_0 p0.length cp0_0),(1,.slice Ap1_0 p1.length cp1_0),(5,.bool x1),(6,.pointer (some ⟨g3,0,none⟩)),(7,.pointer (some ⟨g4,0,none⟩)),(8,.int .i64 i692),(9,.int .i64 (w64 (i943 - 2))),(10,.int .i64 1),(11,.pointer (some ⟨g1196,0,none⟩)),(12,.int .i64 x1180)] ⟨rfl,rfl,rfl,rfl,rfl,rfl,rfl,rfl,rfl,rfl,trivial⟩ (fun u=>?_)
    refine c_sta ⟨w0,M,(100110,g1196,.cells #[.slice A1182 x1179.fRing.length c1183,.slice A1185 x1179.fHints.length c1186,.slice A1188 x1179.fAnchors.length c1189,.int .i64 x1179.fEpoch,.slice A1191 x1179.fFlushes.length c1192] 29 (0,0))::(100070,g4,.cells (l693.map (fun x : Bool=>Value.bool x)).toArray 40 (0,0))::(100060,g3,.cells #[.slice A695 l694.length c696,.slice A699 l698.length c700,.slice A703 l702.length c704,.int .i64 i706,.slice A708 l707.length c709] 29 (0,0))::H,R,φ1194⟩ (fun _ h=>h)<|c_seq<|c_seq<|c_region<|g_v rfl r_move<|g_v rfl (r_lss rfl rfl)<|g_v rfl r_move ?_
    refine g_if rfl rfl rfl rfl rfl (fun h1197=>?_) (fun h1197=>?_)
    ·
     replace hm:=ite_f hm (of_decide_eq_false h1197)
     refine g_v rfl r_move<|g_do rfl rfl rfl rfl rfl h1197<|g_v rfl (r_gtr rfl rfl)<|g_v rfl (r_pick0 rfl h1197)<|g_nil<|d_then ?_
     refine c_cond rfl (fun h1198=>?_) (fun h1198=>?_)
     ·
      replace hm:=ite_t hm (of_decide_eq_true h1198)
      refine c_seq<|c_seq<|c_region<|g_v rfl r_move<|g_v rfl (r_neq rfl rfl)<|g_nil<|d_then ?_
      refine c_cond rfl (fun h1199=>?_) (fun h1199=>?_)
      ·
       replace hm:=ite_t hm (of_decide_eq_true h1199)
       refine c_seq<|c_region<|g_v rfl r_assign<|g_nil<|d_then ?_
       refine c_flat [(4,.bool false)] ⟨rfl,trivial⟩ (fun u=>?_)
       refine c_ret<|d_ret_then<|d_ret_then<|d_ret_block<|d_ret_then<|d_ret_then<|d_ret_block<|d_ret_then<|d_ret_then ?_
       replace hm:=nx_out (C:=(fun e : Unit ⊕ Bool=>Sum.elim (fun e=>m_law13_ConfRings_j1 x1) (fun x=>some x) e = some r)) hm hnx2 hr2
       replace hm : some false = some r:=hm
       cases hm
       exact d_retC () Try.results4 (res_tmp (res_nil rfl)) trivial (fun W h=>ok_pre (H1:=[_,_,_]) (R1:=[]) h (fun W hφ=>(q935 _ (q1194 _ hφ)))) (.inr rfl)
      replace hm:=ite_f hm (of_decide_eq_false h1199)
      refine c_skip<|d_then<|c_exit<|d_exit_then<|d_exit_block<|d_then<|c_region<|g_v rfl r_move<|g_v rfl (r_add rfl rfl rfl)<|g_v rfl r_assign ?_
      refine g_nil ?_
      obtain ⟨n1200,hn1200,hlp⟩:=nx_inl hm hnx2
      exact d_round (n1200,w64 (i692 + 1),l693,l694,l698,l702,i706,l707,A695,c696,A699,c700,A703,c704,A708,c709) ⟨hlp,hc696,hc700,hc704,hc709⟩ hn1200 ⟨rfl,rfl,rfl,rfl,rfl,rfl,trivial⟩ (fun W h=>(h.dropH (t:=100110) rfl).phi (fun W hφ=>⟨(q935 _ (q1194 _ hφ)),(fun W h=>f697 W (q1194 _ h)) W hφ,(fun W h=>f701 W (q1194 _ h)) W hφ,(fun W h=>f705 W (q1194 _ h)) W hφ,(fun W h=>f710 W (q1194 _ h)) W hφ⟩))
     replace hm:=ite_f hm (of_decide_eq_false h1198)
     refine c_skip<|d_then<|c_seq ?_
     refine c_cut (ι:=Int) [0,1,5,6,7,8,9,11,12] (fun i1206=>[(9,.int .i64 i1206)]) (fun i1206=>⟨w0,M,(100110,g1196,.cells #[.slice A1182 x1179.fRing.length c1183,.slice A1185 x1179.fHints.length c1186,.slice A1188 x1179.fAnchors.length c1189,.int .i64 x1179.fEpoch,.slice A1191 x1179.fFlushes.length c1192] 29 (0,0))::(100070,g4,.cells (l693.map (fun x : Bool=>Value.bool x)).toArray 40 (0,0))::(100060,g3,.cells #[.slice A695 l694.length c696,.slice A699 l698.length c700,.slice A703 l702.length c704,.int .i64 i706,.slice A708 l707.length c709] 29 (0,0))::H,R,φ1194⟩) (fun i1206=>m_law13_ConfRings_j12 x1180 l693 x1179 i692 i1206 = some o2) ?_ (fun i1206 u hm=>?_)
     ·
      refine c_seq<|c_region<|g_v rfl r_move<|g_v rfl (r_eql rfl rfl)<|g_v rfl r_move ?_
      replace hm:=bnd hm
      obtain ⟨a1283,ha1283,hm⟩:=hm
      refine g_v rfl (r_aix Try.underlying40 Try.sizeOf4 rfl rfl ha1283 rfl) ?_
      replace hm:=bnd hm
      obtain ⟨x1284,hx1284,hm⟩:=hm
      refine g_v rfl (r_ldL (tag:=100070) (f:=(fun x : Bool=>Value.bool x)) rfl rfl Try.isAgg4 hx1284)<|g_v rfl r_move<|g_v rfl (r_eql rfl rfl)<|g_v rfl (r_eqlBo Try.underlying4 rfl rfl)<|g_v rfl (r_neqBo Try.underlying4 rfl rfl)<|g_v rfl r_move ?_
      refine g_if rfl rfl rfl rfl rfl (fun h1285=>?_) (fun h1285=>?_)
      ·
       replace hm:=ite_f hm (bool_nt h1285)
       refine g_v rfl r_move<|g_do rfl rfl rfl rfl rfl h1285<|g_v rfl (r_neq rfl rfl)<|g_do rfl rfl rfl rfl rfl h1285<|g_v rfl r_move ?_
       refine g_if rfl rfl rfl rfl rfl (fun h1286=>?_) (fun h1286=>?_)
       ·
        replace hm:=ite_t hm (of_decide_eq_true h1286)
        refine g_v rfl r_move<|g_do rfl rfl rfl rfl rfl h1286<|g_v rfl (r_neq rfl rfl)<|g_do rfl rfl rfl rfl rfl h1285<|g_v rfl (r_pick1 rfl h1286)<|g_v rfl (r_pick0 rfl h1285)<|g_nil<|d_then ?_
        refine c_flat [(0,.slice Ap0_0 p0.length cp0_0),(1,.slice Ap1_0 p1.length cp1_0),(5,.bool x1),(6,.pointer (some ⟨g3,0,none⟩)),(7,.pointer (some ⟨g4,0,none⟩)),(8,.int .i64 i692),(9,.int .i64 (w64 (i943 - 2))),(11,.pointer (some ⟨g1196,0,none⟩)),(12,.int .i64 x1180),(79,.bool (decide (x1180 ≠ 13)))] ⟨rfl,rfl,rfl,rfl,rfl,rfl,rfl,rfl,rfl,rfl,trivial⟩ (fun u=>?_)
        refine c_cond rfl (fun h1287=>?_) (fun h1287=>?_)
        ·
         replace hm:=ite_t hm (of_decide_eq_true h1287)
         refine c_seq<|c_region<|g_v rfl r_assign<|g_nil<|d_then<|c_ret<|d_ret_then<|d_ret_then<|d_ret_block<|d_ret_then ?_
         refine d_ret_then<|d_ret_block<|d_ret_then<|d_ret_then ?_
         replace hm:=nx_out (C:=(fun e : Unit ⊕ Bool=>Sum.elim (fun e=>m_law13_ConfRings_j1 x1) (fun x=>some x) e = some r)) hm hnx2 hr2
         replace hm : some false = some r:=hm
         cases hm
         exact d_retC () Try.results4 (res_tmp (res_nil rfl)) trivial (fun W h=>ok_pre (H1:=[_,_,_]) (R1:=[]) h (fun W hφ=>(q935 _ (q1194 _ hφ)))) (.inr rfl)
        replace hm:=ite_f hm (of_decide_eq_false h1287)
        refine c_skip ?_
        exact d_round (w64 (i943 - 2)) hm Nat.zero_lt_one ⟨rfl,rfl,rfl,rfl,rfl,rfl,rfl,rfl,rfl,trivial⟩ (fun W h=>h.phi (fun W hφ=>hφ))
       replace hm:=ite_f hm (of_decide_eq_false h1286)
       refine g_no rfl rfl rfl rfl rfl h1286<|g_do rfl rfl rfl rfl rfl h1285<|g_v rfl (r_pick0 rfl h1286)<|g_v rfl (r_pick0 rfl h1285)<|g_nil<|d_then ?_
       refine c_flat [(0,.slice Ap0_0 p0.length cp0_0),(1,.slice Ap1_0 p1.length cp1_0),(5,.bool x1),(6,.pointer (some ⟨g3,0,none⟩)),(7,.pointer (some ⟨g4,0,none⟩)),(8,.int .i64 i692),(9,.int .i64 (w64 (i943 - 2))),(11,.pointer (some ⟨g1196,0,none⟩)),(12,.int .i64 x1180),(79,.bool false)] ⟨rfl,rfl,rfl,rfl,rfl,rfl,rfl,rfl,rfl,rfl,trivial⟩ (fun u=>?_)
       refine c_cond0 rfl rfl<|c_skip ?_
       exact d_round (w64 (i943 - 2)) hm Nat.zero_lt_one ⟨rfl,rfl,rfl,rfl,rfl,rfl,rfl,rfl,rfl,trivial⟩ (fun W h=>h.phi (fun W hφ=>hφ))
      replace hm:=ite_t hm h1285
      refine g_no rfl rfl rfl rfl rfl h1285<|g_no rfl rfl rfl rfl rfl h1285<|g_nu rfl rfl rfl rfl rfl<|g_nu rfl rfl rfl rfl rfl<|g_no rfl rfl rfl rfl rfl h1285<|g_v rfl (r_pick1 rfl h1285)<|g_nil<|d_then ?_
      refine c_flat [(0,.slice Ap0_0 p0.length cp0_0),(1,.slice Ap1_0 p1.length cp1_0),(5,.bool x1),(6,.pointer (some ⟨g3,0,none⟩)),(7,.pointer (some ⟨g4,0,none⟩)),(8,.int .i64 i692),(9,.int .i64 (w64 (i943 - 2))),(11,.pointer (some ⟨g1196,0,none⟩)),(12,.int .i64 x1180),(79,.bool true)] ⟨rfl,rfl,rfl,rfl,rfl,rfl,rfl,rfl,rfl,rfl,trivial⟩ (fun u=>?_)
      refine c_cond1 rfl rfl<|c_seq<|c_region<|g_v rfl r_assign<|g_nil<|d_then<|c_ret<|d_ret_then<|d_ret_then<|d_ret_block ?_
      refine d_ret_then<|d_ret_then<|d_ret_block<|d_ret_then<|d_ret_then ?_
      replace hm:=nx_out (C:=(fun e : Unit ⊕ Bool=>Sum.elim (fun e=>m_law13_ConfRings_j1 x1) (fun x=>some x) e = some r)) hm hnx2 hr2
      replace hm : some false = some r:=hm
      cases hm
      exact d_retC () Try.results4 (res_tmp (res_nil rfl)) trivial (fun W h=>ok_pre (H1:=[_,_,_]) (R1:=[]) h (fun W hφ=>(q935 _ (q1194 _ hφ)))) (.inr rfl)
     unfold m_law13_ConfRings_j12 at hm
     refine d_flat [(0,.slice Ap0_0 p0.length cp0_0),(1,.slice Ap1_0 p1.length cp1_0),(5,.bool x1),(6,.pointer (some ⟨g3,0,none⟩)),(7,.pointer (some ⟨g4,0,none⟩)),(8,.int .i64 i692),(9,.int .i64 i1206),(11,.pointer (some ⟨g1196,0,none⟩)),(12,.int .i64 x1180)] ⟨rfl,rfl,rfl,rfl,rfl,rfl,rfl,rfl,rfl,trivial⟩ (fun u=>?_)
     refine d_then<|c_seq ?_
     refine c_cut (ι:=(List Bool)) [0,1,5,6,7,8,11] (fun l1212=>[]) (fun l1212=>⟨w0,M,(100110,g1196,.cells #[.slice A1182 x1179.fRing.length c1183,.slice A1185 x1179.fHints.length c1186,.slice A1188 x1179.fAnchors.length c1189,.int .i64 x1179.fEpoch,.slice A1191 x1179.fFlushes.length c1192] 29 (0,0))::(100070,g4,.cells (l1212.map (fun x : Bool=>Value.bool x)).toArray 40 (0,0))::(100060,g3,.cells #[.slice A695 l694.length c696,.slice A699 l698.length c700,.slice A703 l702.length c704,.int .i64 i706,.slice A708 l707.length c709] 29 (0,0))::H,R,φ1194⟩) (fun l1212=>m_law13_ConfRings_j13 x1179 i692 l1212 = some o2) ?_ (fun l1212 u hm=>?_)
     ·
      refine c_seq<|c_region<|g_v rfl r_move<|g_v rfl (r_eql rfl rfl)<|g_nil<|d_then ?_
      refine c_cond rfl (fun h1278=>?_) (fun h1278=>?_)
      ·
       replace hm:=ite_t hm (of_decide_eq_true h1278)
       refine c_region<|g_v rfl r_move<|g_v rfl r_move ?_
       replace hm:=bnd hm
       obtain ⟨a1279,ha1279,hm⟩:=hm
       refine g_v rfl (r_aix Try.underlying40 Try.sizeOf4 rfl rfl ha1279 rfl) ?_
       replace hm:=bnd hm
       obtain ⟨x1280,hx1280,hm⟩:=hm
       refine g_v rfl (r_ldL (tag:=100070) (f:=(fun x : Bool=>Value.bool x)) rfl rfl Try.isAgg4 hx1280)<|g_v rfl (r_not rfl) ?_
       replace hm:=bnd hm
       obtain ⟨a1281,ha1281,hm⟩:=hm
       refine g_v rfl (r_aix Try.underlying40 Try.sizeOf4 rfl rfl ha1281 rfl) ?_
       replace hm:=bnd hm
       obtain ⟨l1282,hl1282,hm⟩:=hm
       refine g_s (e_stL (tag:=100070) (f:=(fun x : Bool=>Value.bool x)) (v:=!x1280) rfl rfl rfl rfl rfl Try.sizeOf4 rfl hl1282)<|g_nil ?_
       exact d_round l1282 hm Nat.zero_lt_one ⟨rfl,rfl,rfl,rfl,rfl,rfl,rfl,trivial⟩ (fun W h=>h.phi (fun W hφ=>hφ))
      replace hm:=ite_f hm (of_decide_eq_false h1278)
      refine c_skip ?_
      exact d_round l693 hm Nat.zero_lt_one ⟨rfl,rfl,rfl,rfl,rfl,rfl,rfl,trivial⟩ (fun W h=>h.phi (fun W hφ=>hφ))
     unfold m_law13_ConfRings_j13 at hm
     refine d_flat [(0,.slice Ap0_0 p0.length cp0_0),(1,.slice Ap1_0 p1.length cp1_0),(5,.bool x1),(6,.pointer (some ⟨g3,0,none⟩)),(7,.pointer (some ⟨g4,0,none⟩)),(8,.int .i64 i692),(11,.pointer (some ⟨g1196,0,none⟩))] ⟨rfl,rfl,rfl,rfl,rfl,rfl,rfl,trivial⟩ (fun u=>?_)
     refine d_sta ⟨w0,M,(100110,g1196,.cells #[.slice A1182 x1179.fRing.length c1183,.slice A1185 x1179.fHints.length c1186,.slice A1188 x1179.fAnchors.length c1189,.int .i64 x1179.fEpoch,.slice A1191 x1179.fFlushes.length c1192] 29 (0,0))::(100070,g4,.cells (l1212.map (fun x : Bool=>Value.bool x)).toArray 40 (0,0))::(100060,g3,.cells #[.slice A695 l694.length c696,.slice A699 l698.length c700,.slice A703 l702.length c704,.int .i64 i706,.slice A708 l707.length c709] 29 (0,0))::H,R,φ1194⟩ (fun _ h=>h)<|d_then<|c_seq<|c_region<|g_v rfl (r_loadA (tag:=100110) rfl rfl Try.isAgg29 Try.sizeOf29 rfl rfl)<|g_storeL (tag:=100060) rfl rfl rfl rfl Try.sizeOf29 rfl rfl<|g_nil<|d_then<|c_seq<|c_region ?_
     refine g_v rfl r_assign<|g_nil<|d_then<|c_seq<|c_seq<|c_region<|g_v rfl r_assign<|g_nil<|d_then ?_
     refine c_cut (ι:=Int) [0,1,5,6,7,8,13] (fun i1238=>[(13,.int .i64 i1238)]) (fun i1238=>⟨w0,M,(100070,g4,.cells (l1212.map (fun x : Bool=>Value.bool x)).toArray 40 (0,0))::(100060,g3,.cells #[.slice A1182 x1179.fRing.length c1183,.slice A1185 x1179.fHints.length c1186,.slice A1188 x1179.fAnchors.length c1189,.int .i64 x1179.fEpoch,.slice A1191 x1179.fFlushes.length c1192] 29 (0,0))::H,R,φ1194⟩) (fun i1238=>m_law13_ConfRings_j14 x1179 i692 l1212 i1238 = some o2) ?_ (fun i1238 u hm=>?_)
     ·
      refine c_block ?_
      replace hm:=bnd hm
      obtain ⟨out15,hl15,hr15⟩:=hm
      obtain ⟨n1265',hl15⟩:=loop_lp hl15
      refine c_loopU (ι:=Nat×Int×Int) [0,1,5,6,7,8,13,14] (fun ⟨n1265,i1251,i1252⟩=>[(13,.int .i64 i1251),(14,.int .i64 i1252)]) (fun ⟨n1265,i1251,i1252⟩=>⟨w0,M,(100070,g4,.cells (l1212.map (fun x : Bool=>Value.bool x)).toArray 40 (0,0))::(100060,g3,.cells #[.slice A1182 x1179.fRing.length c1183,.slice A1185 x1179.fHints.length c1186,.slice A1188 x1179.fAnchors.length c1189,.int .i64 x1179.fEpoch,.slice A1191 x1179.fFlushes.length c1192] 29 (0,0))::H,R,φ1194⟩) (fun ⟨n1265,i1251,i1252⟩=>Lp (fun s=>m_law13_ConfRings_s15 l1212 x1179 s.1 s.2) n1265 (i1251,i1252) out15) (fun ⟨n1265,i1251,i1252⟩=>n1265) (n1265',0,0) hl15 ⟨rfl,rfl,rfl,rfl,rfl,rfl,rfl,rfl,trivial⟩ (fun W h=>(h.dropH (t:=100110) rfl).phi (fun W hφ=>hφ)) (fun ⟨n1265,i1251,i1252⟩ u hlp=>?_)
      obtain ⟨o15,hm,hnx15⟩:=lp_step hlp
      clear hlp
      replace hm : m_law13_ConfRings_s15 l1212 x1179 i1251 i1252 = some o15:=hm
      unfold m_law13_ConfRings_s15 at hm
      refine c_flat [(0,.slice Ap0_0 p0.length cp0_0),(1,.slice Ap1_0 p1.length cp1_0),(5,.bool x1),(6,.pointer (some ⟨g3,0,none⟩)),(7,.pointer (some ⟨g4,0,none⟩)),(8,.int .i64 i692),(13,.int .i64 i1251),(14,.int .i64 i1252)] ⟨rfl,rfl,rfl,rfl,rfl,rfl,rfl,rfl,trivial⟩ (fun u=>?_)
      refine c_sta ⟨w0,M,(100070,g4,.cells (l1212.map (fun x : Bool=>Value.bool x)).toArray 40 (0,0))::(100060,g3,.cells #[.slice A1182 x1179.fRing.length c1183,.slice A1185 x1179.fHints.length c1186,.slice A1188 x1179.fAnchors.length c1189,.int .i64 x1179.fEpoch,.slice A1191 x1179.fFlushes.length c1192] 29 (0,0))::H,R,φ1194⟩ (fun _ h=>h)<|c_seq<|c_seq<|c_region<|g_v rfl r_move<|g_v rfl (r_lss rfl rfl)<|g_nil<|d_then ?_
      refine c_cond rfl (fun h1266=>?_) (fun h1266=>?_)
      ·
       replace hm:=ite_t hm (of_decide_eq_true h1266)
       refine c_skip<|d_then<|c_seq<|c_block<|c_seq<|c_region<|g_v rfl r_move ?_
       replace hm:=bnd hm
       obtain ⟨a1267,ha1267,hm⟩:=hm
       refine g_v rfl (r_aix Try.underlying40 Try.sizeOf4 rfl rfl ha1267 rfl) ?_
       replace hm:=bnd hm
       obtain ⟨x1268,hx1268,hm⟩:=hm
       refine g_v rfl (r_ldL (tag:=100070) (f:=(fun x : Bool=>Value.bool x)) rfl rfl Try.isAgg4 hx1268)<|g_nil<|d_then ?_
       refine c_cond rfl (fun h1269=>?_) (fun h1269=>?_)
       ·
        replace hm:=ite_t hm h1269
        refine c_seq<|c_seq<|c_region<|g_v rfl r_move<|g_v rfl (r_field (n:=0) Try.underlying29 rfl Try.sizeOf25 rfl rfl)<|g_v rfl (r_load (tag:=100060) rfl rfl rfl Try.isAgg25)<|g_v rfl (r_lenL Try.underlying25 rfl)<|g_v rfl (r_geq rfl rfl)<|g_v rfl r_move ?_
        refine g_if rfl rfl rfl rfl rfl (fun h1270=>?_) (fun h1270=>?_)
        ·
         replace hm:=ite_f hm (of_decide_eq_false h1270)
         refine g_v rfl (r_field (n:=0) Try.underlying29 rfl Try.sizeOf25 rfl rfl)<|g_do rfl rfl rfl rfl rfl h1270<|g_v rfl (r_load (tag:=100060) rfl rfl rfl Try.isAgg25)<|g_do rfl rfl rfl rfl rfl h1270<|g_v rfl r_move<|g_do rfl rfl rfl rfl rfl h1270 ?_
         replace hm:=bnd hm
         obtain ⟨x1271,hx1271,hm⟩:=hm
         refine g_know _ (fun W hS=>cl_at (p:=φ1194) (sz:=1) (fun _=>rfl) (by decide) hS.now f1184 hx1271) ?_
         rintro ⟨ad1272,hA1274,f1273⟩
         refine g_v rfl (r_ix Try.underlying25 Try.sizeOf3 rfl hA1274 rfl hx1271)<|g_do rfl rfl rfl rfl rfl h1270<|g_v rfl (r_ld rfl Try.isAgg3 (fun W hS=>Cl.head (f1273 W hS.now)))<|g_do rfl rfl rfl rfl rfl h1270<|g_v rfl r_move<|g_do rfl rfl rfl rfl rfl h1270<|g_v rfl (r_neq rfl rfl)<|g_v rfl (r_pick0 rfl h1270)<|g_nil<|d_then ?_
         refine c_flat [(0,.slice Ap0_0 p0.length cp0_0),(1,.slice Ap1_0 p1.length cp1_0),(5,.bool x1),(6,.pointer (some ⟨g3,0,none⟩)),(7,.pointer (some ⟨g4,0,none⟩)),(8,.int .i64 i692),(13,.int .i64 i1251),(14,.int .i64 i1252),(109,.bool (decide (x1271 ≠ i1252)))] ⟨rfl,rfl,rfl,rfl,rfl,rfl,rfl,rfl,rfl,trivial⟩ (fun u=>?_)
         refine c_cond rfl (fun h1275=>?_) (fun h1275=>?_)
         ·
          replace hm:=ite_t hm (of_decide_eq_true h1275)
          refine c_seq<|c_region<|g_v rfl r_assign<|g_nil<|d_then<|c_ret<|d_ret_then<|d_ret_block<|d_ret_then<|d_ret_then ?_
          refine d_ret_block<|d_ret_then<|d_ret_then<|d_ret_block<|d_ret_then<|d_ret_then<|d_ret_block<|d_ret_then<|d_ret_then ?_
          replace hm:=nx_out (C:=(fun e : Int ⊕ Bool=>Sum.elim (fun e=>m_law13_ConfRings_j14 x1179 i692 l1212 e) (fun x=>some (.inr (.inr x))) e = some o2)) hm hnx15 hr15
          replace hm : some (.inr (.inr false)) = some o2:=hm
          replace hm:=nx_out (C:=(fun e : Unit ⊕ Bool=>Sum.elim (fun e=>m_law13_ConfRings_j1 x1) (fun x=>some x) e = some r)) hm hnx2 hr2
          replace hm : some false = some r:=hm
          cases hm
          exact d_retC () Try.results4 (res_tmp (res_nil rfl)) trivial (fun W h=>ok_pre (H1:=[_,_]) (R1:=[]) h (fun W hφ=>(q935 _ (q1194 _ hφ)))) (.inr rfl)
         replace hm:=ite_f hm (of_decide_eq_false h1275)
         refine c_skip<|d_then<|c_region<|g_v rfl r_move<|g_v rfl (r_add rfl rfl rfl)<|g_v rfl r_assign<|g_nil<|d_normal_block<|d_then<|c_region ?_
         refine g_v rfl r_move<|g_v rfl (r_add rfl rfl rfl)<|g_v rfl r_assign<|g_nil ?_
         obtain ⟨n1276,hn1276,hlp⟩:=nx_inl hm hnx15
         exact d_round (n1276,w64 (i1251 + 1),w64 (i1252 + 1)) hlp hn1276 ⟨rfl,rfl,rfl,rfl,rfl,rfl,rfl,rfl,trivial⟩ (fun W h=>h.phi (fun W hφ=>hφ))
        replace hm:=ite_t hm (of_decide_eq_true h1270)
        iterate 6 refine g_no rfl rfl rfl rfl rfl h1270 ?_
        refine g_v rfl (r_pick1 rfl h1270)<|g_nil<|d_then ?_
        refine c_flat [(0,.slice Ap0_0 p0.length cp0_0),(1,.slice Ap1_0 p1.length cp1_0),(5,.bool x1),(6,.pointer (some ⟨g3,0,none⟩)),(7,.pointer (some ⟨g4,0,none⟩)),(8,.int .i64 i692),(13,.int .i64 i1251),(14,.int .i64 i1252),(109,.bool true)] ⟨rfl,rfl,rfl,rfl,rfl,rfl,rfl,rfl,rfl,trivial⟩ (fun u=>?_)
        refine c_cond1 rfl rfl<|c_seq<|c_region<|g_v rfl r_assign<|g_nil<|d_then<|c_ret<|d_ret_then<|d_ret_block<|d_ret_then ?_
        refine d_ret_then<|d_ret_block<|d_ret_then<|d_ret_then<|d_ret_block<|d_ret_then<|d_ret_then<|d_ret_block<|d_ret_then<|d_ret_then ?_
        replace hm:=nx_out (C:=(fun e : Int ⊕ Bool=>Sum.elim (fun e=>m_law13_ConfRings_j14 x1179 i692 l1212 e) (fun x=>some (.inr (.inr x))) e = some o2)) hm hnx15 hr15
        replace hm : some (.inr (.inr false)) = some o2:=hm
        replace hm:=nx_out (C:=(fun e : Unit ⊕ Bool=>Sum.elim (fun e=>m_law13_ConfRings_j1 x1) (fun x=>some x) e = some r)) hm hnx2 hr2
        replace hm : some false = some r:=hm
        cases hm
        exact d_retC () Try.results4 (res_tmp (res_nil rfl)) trivial (fun W h=>ok_pre (H1:=[_,_]) (R1:=[]) h (fun W hφ=>(q935 _ (q1194 _ hφ)))) (.inr rfl)
       replace hm:=ite_f hm (bool_nt h1269)
       refine c_skip<|d_normal_block<|d_then<|c_region<|g_v rfl r_move<|g_v rfl (r_add rfl rfl rfl)<|g_v rfl r_assign<|g_nil ?_
       obtain ⟨n1277,hn1277,hlp⟩:=nx_inl hm hnx15
       exact d_round (n1277,i1251,w64 (i1252 + 1)) hlp hn1277 ⟨rfl,rfl,rfl,rfl,rfl,rfl,rfl,rfl,trivial⟩ (fun W h=>h.phi (fun W hφ=>hφ))
      replace hm:=ite_f hm (of_decide_eq_false h1266)
      refine c_exit<|d_exit_then<|d_exit_then<|d_exit_block ?_
      replace hm:=nx_out (C:=(fun e : Int ⊕ Bool=>Sum.elim (fun e=>m_law13_ConfRings_j14 x1179 i692 l1212 e) (fun x=>some (.inr (.inr x))) e = some o2)) hm hnx15 hr15
      exact d_round i1251 hm Nat.zero_lt_one ⟨rfl,rfl,rfl,rfl,rfl,rfl,rfl,trivial⟩ (fun W h=>h.phi (fun W hφ=>hφ))
     unfold m_law13_ConfRings_j14 at hm
     refine d_flat [(0,.slice Ap0_0 p0.length cp0_0),(1,.slice Ap1_0 p1.length cp1_0),(5,.bool x1),(6,.pointer (some ⟨g3,0,none⟩)),(7,.pointer (some ⟨g4,0,none⟩)),(8,.int .i64 i692),(13,.int .i64 i1238)] ⟨rfl,rfl,rfl,rfl,rfl,rfl,rfl,trivial⟩ (fun u=>?_)
     refine d_sta ⟨w0,M,(100070,g4,.cells (l1212.map (fun x : Bool=>Value.bool x)).toArray 40 (0,0))::(100060,g3,.cells #[.slice A1182 x1179.fRing.length c1183,.slice A1185 x1179.fHints.length c1186,.slice A1188 x1179.fAnchors.length c1189,.int .i64 x1179.fEpoch,.slice A1191 x1179.fFlushes.length c1192] 29 (0,0))::H,R,φ1194⟩ (fun _ h=>h)<|d_then<|c_seq<|c_region<|g_v rfl r_move<|g_v rfl (r_field (n:=0) Try.underlying29 rfl Try.sizeOf25 rfl rfl)<|g_v rfl (r_load (tag:=100060) rfl rfl rfl Try.isAgg25)<|g_v rfl (r_lenL Try.underlying25 rfl)<|g_v rfl (r_neq rfl rfl)<|g_nil ?_
     refine d_then ?_
     refine c_cond rfl (fun h1239=>?_) (fun h1239=>?_)
     ·
      replace hm:=ite_t hm (of_decide_eq_true h1239)
      refine c_seq<|c_region<|g_v rfl r_assign<|g_nil<|d_then<|c_ret<|d_ret_block<|d_ret_then<|d_ret_then<|d_ret_block ?_
      refine d_ret_then<|d_ret_then ?_
      replace hm:=nx_out (C:=(fun e : Unit ⊕ Bool=>Sum.elim (fun e=>m_law13_ConfRings_j1 x1) (fun x=>some x) e = some r)) hm hnx2 hr2
      replace hm : some false = some r:=hm
      cases hm
      exact d_retC () Try.results4 (res_tmp (res_nil rfl)) trivial (fun W h=>ok_pre (H1:=[_,_]) (R1:=[]) h (fun W hφ=>(q935 _ (q1194 _ hφ)))) (.inr rfl)
     replace hm:=ite_f hm (of_decide_eq_false h1239)
     refine c_skip<|d_normal_block<|d_then<|c_region<|g_v rfl r_move<|g_v rfl (r_add rfl rfl rfl)<|g_v rfl r_assign<|g_nil ?_
     obtain ⟨n1240,hn1240,hlp⟩:=nx_inl hm hnx2
     exact d_round (n1240,w64 (i692 + 1),l1212,x1179.fRing,x1179.fHints,x1179.fAnchors,x1179.fEpoch,x1179.fFlushes,A1182,c1183,A1185,c1186,A1188,c1189,A1191,c1192) ⟨hlp,hc1183,hc1186,hc1189,hc1192⟩ hn1240 ⟨rfl,rfl,rfl,rfl,rfl,rfl,trivial⟩ (fun W h=>h.phi (fun W hφ=>⟨(q935 _ (q1194 _ hφ)),(fun W h=>f1184 W h) W hφ,(fun W h=>f1187 W h) W hφ,(fun W h=>f1190 W h) W hφ,(fun W h=>f1193 W h) W hφ⟩))
    replace hm:=ite_t hm (of_decide_eq_true h1197)
    refine g_no rfl rfl rfl rfl rfl h1197<|g_v rfl (r_pick1 rfl h1197)<|g_nil<|d_then<|c_cond1 rfl rfl<|c_seq<|c_seq<|c_region<|g_v rfl r_move<|g_v rfl (r_neq rfl rfl) ?_
    refine g_nil<|d_then ?_
    refine c_cond rfl (fun h1288=>?_) (fun h1288=>?_)
    ·
     replace hm:=ite_t hm (of_decide_eq_true h1288)
     refine c_seq<|c_region<|g_v rfl r_assign<|g_nil<|d_then<|c_ret<|d_ret_then<|d_ret_then<|d_ret_block<|d_ret_then ?_
     refine d_ret_then<|d_ret_block<|d_ret_then<|d_ret_then ?_
     replace hm:=nx_out (C:=(fun e : Unit ⊕ Bool=>Sum.elim (fun e=>m_law13_ConfRings_j1 x1) (fun x=>some x) e = some r)) hm hnx2 hr2
     replace hm : some false = some r:=hm
     cases hm
     exact d_retC () Try.results4 (res_tmp (res_nil rfl)) trivial (fun W h=>ok_pre (H1:=[_,_,_]) (R1:=[]) h (fun W hφ=>(q935 _ (q1194 _ hφ)))) (.inr rfl)
    replace hm:=ite_f hm (of_decide_eq_false h1288)
    refine c_skip<|d_then<|c_exit<|d_exit_then<|d_exit_block<|d_then<|c_region<|g_v rfl r_move<|g_v rfl (r_add rfl rfl rfl)<|g_v rfl r_assign ?_
    refine g_nil ?_
    obtain ⟨n1289,hn1289,hlp⟩:=nx_inl hm hnx2
    exact d_round (n1289,w64 (i692 + 1),l693,l694,l698,l702,i706,l707,A695,c696,A699,c700,A703,c704,A708,c709) ⟨hlp,hc696,hc700,hc704,hc709⟩ hn1289 ⟨rfl,rfl,rfl,rfl,rfl,rfl,trivial⟩ (fun W h=>(h.dropH (t:=100110) rfl).phi (fun W hφ=>⟨(q935 _ (q1194 _ hφ)),(fun W h=>f697 W (q1194 _ h)) W hφ,(fun W h=>f701 W (q1194 _ h)) W hφ,(fun W h=>f705 W (q1194 _ h)) W hφ,(fun W h=>f710 W (q1194 _ h)) W hφ⟩))
   replace hm:=ite_f hm (of_decide_eq_false h937)
   refine c_exit<|d_exit_then<|d_exit_then<|d_exit_block ?_
   replace hm:=nx_out (C:=(fun e : Unit ⊕ Bool=>Sum.elim (fun e=>m_law13_ConfRings_j1 x1) (fun x=>some x) e = some r)) hm hnx2 hr2
   exact d_round () hm Nat.zero_lt_one ⟨rfl,trivial⟩ (fun W h=>((h.dropH (t:=100070) rfl).dropH (t:=100060) rfl).phi (fun W hφ=>(q935 _ hφ)))
  replace hm:=ite_f hm (of_decide_eq_false h936)
  refine g_no rfl rfl rfl rfl rfl h936<|g_v rfl (r_pick0 rfl h936)<|g_nil<|d_then<|c_cond0 rfl rfl<|c_exit<|d_exit_then<|d_exit_then<|d_exit_block ?_
  replace hm:=nx_out (C:=(fun e : Unit ⊕ Bool=>Sum.elim (fun e=>m_law13_ConfRings_j1 x1) (fun x=>some x) e = some r)) hm hnx2 hr2
  exact d_round () hm Nat.zero_lt_one ⟨rfl,trivial⟩ (fun W h=>((h.dropH (t:=100070) rfl).dropH (t:=100060) rfl).phi (fun W hφ=>(q935 _ hφ)))
 unfold m_law13_ConfRings_j1 at hm
 refine d_flat [(5,.bool x1)] ⟨rfl,trivial⟩ (fun u=>?_)
 refine d_sta ⟨w0,M,H,R,φ⟩ (fun _ h=>h)<|d_then<|c_seq<|c_region<|g_v rfl r_move<|g_v rfl r_assign<|g_nil<|d_then<|c_ret ?_
 cases hm
 exact d_retC () Try.results4 (res_tmp (res_nil rfl)) trivial (fun W h=>ok_pre (H1:=[]) (R1:=[]) h (fun W hφ=>hφ)) (.inr rfl)
end Go.Proofs.Ythpjodfjdnnckaa
