import Derived.Test.YtbaobjcaeaofaaaWPAC
set_option maxRecDepth 100000
set_option maxHeartbeats 4000000
set_option linter.unusedVariables false
set_option linter.unusedSimpArgs false
namespace Go.Proofs.Ytbaobjcaeaofaaa
open Go.RowKit Go.Proofs.YtbaobjcaeaofaaaW.PrintLast
noncomputable def m_ref12_Check_j2  : Option Int:=
  some 0
noncomputable def m_ref12_Check_j1 (p0 : GNote) : Option Int:=
  (m_ref11_Right p0.fVoters).bind fun x61=>
  if x61 = true then
    m_ref12_Check_j2
  else
    if 0 < (p0.fVoters.length : Int) then
      some 1
    else
      if p0.fKind = 4 then
        some 1
      else
        m_ref12_Check_j2
noncomputable def m_ref12_Check_s3 (p0 : GNote) (i87 : Int) : Option (Int ⊕ (Unit ⊕ Int)):=
  if i87 < (p0.fEntries.length : Int) then
    (at_ p0.fEntries i87).bind fun x118=>
    if p0.fTerm < x118.fTerm then
      some (.inr (.inr 1))
    else
      some (.inl (w64 (i87 + 1)))
  else
    some (.inr (.inl ()))
noncomputable def m_ref12_Check (p0 : GNote) : Option Int:=
  if p0.fKind < 1 then
    some 1
  else
    if 5 < p0.fKind then
      some 1
    else
      if p0.fFrom < 0 then
        some 1
      else
        if 63 < p0.fFrom then
          some 1
        else
          if p0.fTo < 0 then
            some 1
          else
            if 63 < p0.fTo then
              some 1
            else
              if p0.fFrom = p0.fTo then
                some 1
              else
                if p0.fTerm < 1 then
                  some 1
                else
                  if 1099511627776 < p0.fTerm then
                    some 1
                  else
                    if p0.fIndex < 0 then
                      some 1
                    else
                      if 1099511627776 < p0.fIndex then
                        some 1
                      else
                        if p0.fLogTerm < 0 then
                          some 1
                        else
                          if p0.fTerm < p0.fLogTerm then
                            some 1
                          else
                            if p0.fCommit < 0 then
                              some 1
                            else
                              if 1099511627776 < p0.fCommit then
                                some 1
                              else
                                if 16 < (p0.fEntries.length : Int) then
                                  some 1
                                else
                                  if w64 (1099511627776 - (p0.fEntries.length : Int)) < p0.fIndex then
                                    some 1
                                  else
                                    if 50000 < (p0.fSnap.size : Int) then
                                      some 1
                                    else
                                      (m_ref11_Check (⟨p0.fIndex,p0.fLogTerm,p0.fEntries⟩ : GLog)).bind fun x20=>
                                      if x20 ≠ 0 then
                                        some 1
                                      else
                                        (loop (fun s=>m_ref12_Check_s3 p0 s) 0).bind fun e=>Sum.elim (fun e=>m_ref12_Check_j1 p0) (fun x=>some x) e
theorem c_ref12_Check {w0 : World} {M : Nat→Prop} {H : List (Nat×Nat×Obj)} {R : List (Nat×Row)} {φ : World→Prop} (p0 : GNote) (Ap0_0 : Option Addr) (cp0_0 : Nat) (hcp0_0 : p0.fEntries.length ≤ cp0_0) (fp0_0 : ∀ W,(Sta.mk w0 M H R φ).ok W→Cl W Ap0_0 (p0.fEntries.flatMap GEntry.enc)) (Ap0_1 : Option Addr) (cp0_1 : Nat) (hcp0_1 : p0.fVoters.length ≤ cp0_1) (fp0_1 : ∀ W,(Sta.mk w0 M H R φ).ok W→Cl W Ap0_1 (p0.fVoters.flatMap (fun x : Int=>[Value.int .i64 x]))) (r : Int) (hm : m_ref12_Check p0 = some r) :
    Cn Try.prog 49 #[.agg #[.int .i64 p0.fKind,.int .i64 p0.fFrom,.int .i64 p0.fTo,.int .i64 p0.fTerm,.int .i64 p0.fIndex,.int .i64 p0.fLogTerm,.int .i64 p0.fCommit,.bool p0.fGood,.slice Ap0_0 p0.fEntries.length cp0_0,.slice Ap0_1 p0.fVoters.length cp0_1,.string p0.fSnap]] ⟨w0,M,H,R,φ⟩ (fun x : Unit=>.int .i64 r) (fun x=>True) (fun x=>⟨w0,M,H,R,φ⟩):=by
 unfold m_ref12_Check at hm
 refine cn_intro (fn:=Try.f49) (N:=149) Try.func49 rfl Try.ntmps49 rfl<|c_seq<|c_region ?_
 refine g_e rfl (e_box 100010 rfl) (fun g1 _=>?_)
 refine g_v rfl r_assign<|g_nil<|d_then<|c_seq<|c_region<|g_v rfl r_assign<|g_nil<|d_then<|c_seq<|c_seq ?_
 refine c_region<|g_v rfl (r_field (n:=0) Try.underlying29 rfl Try.sizeOf3 rfl rfl)<|g_v rfl (r_load (tag:=100010) rfl rfl rfl Try.isAgg3)<|g_v rfl (r_lss rfl rfl)<|g_v rfl r_move<|g_sta ⟨w0,M,(100010,g1,.cells #[.int .i64 p0.fKind,.int .i64 p0.fFrom,.int .i64 p0.fTo,.int .i64 p0.fTerm,.int .i64 p0.fIndex,.int .i64 p0.fLogTerm,.int .i64 p0.fCommit,.bool p0.fGood,.slice Ap0_0 p0.fEntries.length cp0_0,.slice Ap0_1 p0.fVoters.length cp0_1,.string p0.fSnap] 29 (0,0))::H,R,φ⟩ (fun _ h=>h) ?_
 refine g_if rfl rfl rfl rfl rfl (fun h2=>?_) (fun h2=>?_)
 ·
  replace hm:=ite_f hm (of_decide_eq_false h2)
  refine g_v rfl (r_field (n:=0) Try.underlying29 rfl Try.sizeOf3 rfl rfl)<|g_do rfl rfl rfl rfl rfl h2<|g_v rfl (r_load (tag:=100010) rfl rfl rfl Try.isAgg3)<|g_do rfl rfl rfl rfl rfl h2<|g_v rfl (r_gtr rfl rfl)<|g_v rfl (r_pick0 rfl h2)<|g_v rfl r_move ?_
  refine g_if rfl rfl rfl rfl rfl (fun h3=>?_) (fun h3=>?_)
  ·
   replace hm:=ite_f hm (of_decide_eq_false h3)
   refine g_v rfl (r_field (n:=1) Try.underlying29 rfl Try.sizeOf3 rfl rfl)<|g_do rfl rfl rfl rfl rfl h3<|g_v rfl (r_load (tag:=100010) rfl rfl rfl Try.isAgg3)<|g_do rfl rfl rfl rfl rfl h3<|g_v rfl (r_lss rfl rfl)<|g_v rfl (r_pick0 rfl h3)<|g_v rfl r_move ?_
   refine g_if rfl rfl rfl rfl rfl (fun h4=>?_) (fun h4=>?_)
   ·
    replace hm:=ite_f hm (of_decide_eq_false h4)
    refine g_v rfl (r_field (n:=1) Try.underlying29 rfl Try.sizeOf3 rfl rfl)<|g_do rfl rfl rfl rfl rfl h4<|g_v rfl (r_load (tag:=100010) rfl rfl rfl Try.isAgg3)<|g_do rfl rfl rfl rfl rfl h4<|g_v rfl (r_gtr rfl rfl)<|g_v rfl (r_pick0 rfl h4)<|g_v rfl r_move ?_
    refine g_if rfl rfl rfl rfl rfl (fun h5=>?_) (fun h5=>?_)
    ·
     replace hm:=ite_f hm (of_decide_eq_false h5)
     refine g_v rfl (r_field (n:=2) Try.underlying29 rfl Try.sizeOf3 rfl rfl)<|g_do rfl rfl rfl rfl rfl h5<|g_v rfl (r_load (tag:=100010) rfl rfl rfl Try.isAgg3)<|g_do rfl rfl rfl rfl rfl h5<|g_v rfl (r_lss rfl rfl)<|g_v rfl (r_pick0 rfl h5)<|g_v rfl r_move ?_
     refine g_if rfl rfl rfl rfl rfl (fun h6=>?_) (fun h6=>?_)
     ·
      replace hm:=ite_f hm (of_decide_eq_false h6)
      refine g_v rfl (r_field (n:=2) Try.underlying29 rfl Try.sizeOf3 rfl rfl)<|g_do rfl rfl rfl rfl rfl h6<|g_v rfl (r_load (tag:=100010) rfl rfl rfl Try.isAgg3)<|g_do rfl rfl rfl rfl rfl h6<|g_v rfl (r_gtr rfl rfl)<|g_v rfl (r_pick0 rfl h6)<|g_v rfl r_move ?_
      refine g_if rfl rfl rfl rfl rfl (fun h7=>?_) (fun h7=>?_)
      ·
       replace hm:=ite_f hm (of_decide_eq_false h7)
       refine g_v rfl (r_field (n:=1) Try.underlying29 rfl Try.sizeOf3 rfl rfl)<|g_do rfl rfl rfl rfl rfl h7<|g_v rfl (r_load (tag:=100010) rfl rfl rfl Try.isAgg3)<|g_do rfl rfl rfl rfl rfl h7<|g_v rfl (r_field (n:=2) Try.underlying29 rfl Try.sizeOf3 rfl rfl)<|g_do rfl rfl rfl rfl rfl h7<|g_v rfl (r_load (tag:=100010) rfl rfl rfl Try.isAgg3)<|g_do rfl rfl rfl rfl rfl h7<|g_v rfl (r_eql rfl rfl)<|g_v rfl (r_pick0 rfl h7) ?_
       refine g_v rfl r_move ?_
       refine g_if rfl rfl rfl rfl rfl (fun h8=>?_) (fun h8=>?_)
       ·
        replace hm:=ite_f hm (of_decide_eq_false h8)
        refine g_v rfl (r_field (n:=3) Try.underlying29 rfl Try.sizeOf3 rfl rfl)<|g_do rfl rfl rfl rfl rfl h8<|g_v rfl (r_load (tag:=100010) rfl rfl rfl Try.isAgg3)<|g_do rfl rfl rfl rfl rfl h8<|g_v rfl (r_lss rfl rfl)<|g_v rfl (r_pick0 rfl h8)<|g_v rfl r_move ?_
        refine g_if rfl rfl rfl rfl rfl (fun h9=>?_) (fun h9=>?_)
        ·
         replace hm:=ite_f hm (of_decide_eq_false h9)
         refine g_v rfl (r_field (n:=3) Try.underlying29 rfl Try.sizeOf3 rfl rfl)<|g_do rfl rfl rfl rfl rfl h9<|g_v rfl (r_load (tag:=100010) rfl rfl rfl Try.isAgg3)<|g_do rfl rfl rfl rfl rfl h9<|g_v rfl r_move<|g_do rfl rfl rfl rfl rfl h9<|g_v rfl (r_gtr rfl rfl)<|g_v rfl (r_pick0 rfl h9)<|g_v rfl r_move ?_
         refine g_if rfl rfl rfl rfl rfl (fun h10=>?_) (fun h10=>?_)
         ·
          replace hm:=ite_f hm (of_decide_eq_false h10)
          refine g_v rfl (r_field (n:=4) Try.underlying29 rfl Try.sizeOf3 rfl rfl)<|g_do rfl rfl rfl rfl rfl h10<|g_v rfl (r_load (tag:=100010) rfl rfl rfl Try.isAgg3)<|g_do rfl rfl rfl rfl rfl h10<|g_v rfl (r_lss rfl rfl)<|g_v rfl (r_pick0 rfl h10)<|g_v rfl r_move ?_
          refine g_if rfl rfl rfl rfl rfl (fun h11=>?_) (fun h11=>?_)
          ·
           replace hm:=ite_f hm (of_decide_eq_false h11)
           refine g_v rfl (r_field (n:=4) Try.underlying29 rfl Try.sizeOf3 rfl rfl)<|g_do rfl rfl rfl rfl rfl h11<|g_v rfl (r_load (tag:=100010) rfl rfl rfl Try.isAgg3)<|g_do rfl rfl rfl rfl rfl h11<|g_v rfl r_move<|g_do rfl rfl rfl rfl rfl h11<|g_v rfl (r_gtr rfl rfl)<|g_v rfl (r_pick0 rfl h11)<|g_v rfl r_move ?_
           refine g_if rfl rfl rfl rfl rfl (fun h12=>?_) (fun h12=>?_)
           ·
            replace hm:=ite_f hm (of_decide_eq_false h12)
            refine g_v rfl (r_field (n:=5) Try.underlying29 rfl Try.sizeOf3 rfl rfl)<|g_do rfl rfl rfl rfl rfl h12<|g_v rfl (r_load (tag:=100010) rfl rfl rfl Try.isAgg3)<|g_do rfl rfl rfl rfl rfl h12<|g_v rfl (r_lss rfl rfl)<|g_v rfl (r_pick0 rfl h12)<|g_v rfl r_move ?_
            refine g_if rfl rfl rfl rfl rfl (fun h13=>?_) (fun h13=>?_)
            ·
             replace hm:=ite_f hm (of_decide_eq_false h13)
             refine g_v rfl (r_field (n:=5) Try.underlying29 rfl Try.sizeOf3 rfl rfl)<|g_do rfl rfl rfl rfl rfl h13<|g_v rfl (r_load (tag:=100010) rfl rfl rfl Try.isAgg3)<|g_do rfl rfl rfl rfl rfl h13<|g_v rfl (r_field (n:=3) Try.underlying29 rfl Try.sizeOf3 rfl rfl)<|g_do rfl rfl rfl rfl rfl h13<|g_v rfl (r_load (tag:=100010) rfl rfl rfl Try.isAgg3)<|g_do rfl rfl rfl rfl rfl h13<|g_v rfl (r_gtr rfl rfl)<|g_v rfl (r_pick0 rfl h13) ?_
             refine g_v rfl r_move ?_
             refine g_if rfl rfl rfl rfl rfl (fun h14=>?_) (fun h14=>?_)
             ·
              replace hm:=ite_f hm (of_decide_eq_false h14)
              refine g_v rfl (r_field (n:=6) Try.underlying29 rfl Try.sizeOf3 rfl rfl)<|g_do rfl rfl rfl rfl rfl h14<|g_v rfl (r_load (tag:=100010) rfl rfl rfl Try.isAgg3)<|g_do rfl rfl rfl rfl rfl h14<|g_v rfl (r_lss rfl rfl)<|g_v rfl (r_pick0 rfl h14)<|g_v rfl r_move ?_
              refine g_if rfl rfl rfl rfl rfl (fun h15=>?_) (fun h15=>?_)
              ·
               replace hm:=ite_f hm (of_decide_eq_false h15)
               refine g_v rfl (r_field (n:=6) Try.underlying29 rfl Try.sizeOf3 rfl rfl)<|g_do rfl rfl rfl rfl rfl h15<|g_v rfl (r_load (tag:=100010) rfl rfl rfl Try.isAgg3)<|g_do rfl rfl rfl rfl rfl h15<|g_v rfl r_move<|g_do rfl rfl rfl rfl rfl h15<|g_v rfl (r_gtr rfl rfl)<|g_v rfl (r_pick0 rfl h15)<|g_v rfl r_move ?_
               refine g_if rfl rfl rfl rfl rfl (fun h16=>?_) (fun h16=>?_)
               ·
                replace hm:=ite_f hm (of_decide_eq_false h16)
                refine g_v rfl (r_field (n:=8) Try.underlying29 rfl Try.sizeOf26 rfl rfl)<|g_do rfl rfl rfl rfl rfl h16<|g_v rfl (r_load (tag:=100010) rfl rfl rfl Try.isAgg26)<|g_do rfl rfl rfl rfl rfl h16<|g_v rfl (r_lenL Try.underlying26 rfl)<|g_do rfl rfl rfl rfl rfl h16<|g_v rfl (r_gtr rfl rfl)<|g_v rfl (r_pick0 rfl h16)<|g_v rfl r_move ?_
                refine g_if rfl rfl rfl rfl rfl (fun h17=>?_) (fun h17=>?_)
                ·
                 replace hm:=ite_f hm (of_decide_eq_false h17)
                 refine g_v rfl (r_field (n:=4) Try.underlying29 rfl Try.sizeOf3 rfl rfl)<|g_do rfl rfl rfl rfl rfl h17<|g_v rfl (r_load (tag:=100010) rfl rfl rfl Try.isAgg3)<|g_do rfl rfl rfl rfl rfl h17<|g_v rfl r_move<|g_do rfl rfl rfl rfl rfl h17<|g_v rfl (r_field (n:=8) Try.underlying29 rfl Try.sizeOf26 rfl rfl)<|g_do rfl rfl rfl rfl rfl h17<|g_v rfl (r_load (tag:=100010) rfl rfl rfl Try.isAgg26)<|g_do rfl rfl rfl rfl rfl h17 ?_
                 refine g_v rfl (r_lenL Try.underlying26 rfl)<|g_do rfl rfl rfl rfl rfl h17<|g_v rfl (r_sub rfl rfl rfl)<|g_do rfl rfl rfl rfl rfl h17<|g_v rfl (r_gtr rfl rfl)<|g_v rfl (r_pick0 rfl h17)<|g_v rfl r_move ?_
                 refine g_if rfl rfl rfl rfl rfl (fun h18=>?_) (fun h18=>?_)
                 ·
                  replace hm:=ite_f hm (of_decide_eq_false h18)
                  refine g_v rfl (r_field (n:=10) Try.underlying29 rfl Try.sizeOf9 rfl rfl)<|g_do rfl rfl rfl rfl rfl h18<|g_v rfl (r_load (tag:=100010) rfl rfl rfl Try.isAgg9)<|g_do rfl rfl rfl rfl rfl h18<|g_v rfl (r_len Try.underlying9 rfl)<|g_do rfl rfl rfl rfl rfl h18<|g_v rfl (r_gtr rfl rfl)<|g_v rfl (r_pick0 rfl h18)<|g_nil<|d_then ?_
                  refine c_flat [(1,.pointer (some ⟨g1,0,none⟩)),(107,.bool (decide (50000 < (p0.fSnap.size : Int))))] ⟨rfl,rfl,trivial⟩ (fun u=>?_)
                  refine c_cond rfl (fun h19=>?_) (fun h19=>?_)
                  ·
                   replace hm:=ite_t hm (of_decide_eq_true h19)
                   refine c_seq<|c_region<|g_v rfl r_assign<|g_nil<|d_then<|c_ret<|d_ret_then ?_
                   cases hm
                   exact d_retC () Try.results49 (res_tmp (res_nil rfl)) trivial (fun W h=>ok_pre (H1:=[_]) (R1:=[]) h (fun W hφ=>hφ)) (.inr rfl)
                  replace hm:=ite_f hm (of_decide_eq_false h19)
                  refine c_skip<|d_then<|c_seq<|c_seq<|c_region<|g_v rfl (r_field (n:=4) Try.underlying29 rfl Try.sizeOf3 rfl rfl)<|g_v rfl (r_load (tag:=100010) rfl rfl rfl Try.isAgg3)<|g_v rfl (r_field (n:=5) Try.underlying29 rfl Try.sizeOf3 rfl rfl)<|g_v rfl (r_load (tag:=100010) rfl rfl rfl Try.isAgg3)<|g_v rfl (r_field (n:=8) Try.underlying29 rfl Try.sizeOf26 rfl rfl) ?_
                  refine g_v rfl (r_load (tag:=100010) rfl rfl rfl Try.isAgg26)<|g_v rfl (r_build _ rfl (bld103_10 _ _ _ _ _)) ?_
                  replace hm:=bnd hm
                  obtain ⟨x20,hx21,hm⟩:=hm
                  refine g_cn ⟨w0,M,_,_,φ⟩ (fun _ h=>h) Try.call81 rfl rfl (c_ref11_Check (⟨p0.fIndex,p0.fLogTerm,p0.fEntries⟩ : GLog) Ap0_0 cp0_0 hcp0_0 (fun W hS=>fp0_0 W (ok_pre (H1:=[_]) (R1:=[]) hS (fun W h=>h))) _ hx21) (fun _ _=>?_)
                  refine g_v rfl (r_neq rfl rfl)<|g_nil<|d_then ?_
                  refine c_flat [(1,.pointer (some ⟨g1,0,none⟩)),(116,.bool (decide (x20 ≠ 0)))] ⟨rfl,rfl,trivial⟩ (fun u=>?_)
                  refine c_cond rfl (fun h22=>?_) (fun h22=>?_)
                  ·
                   replace hm:=ite_t hm (of_decide_eq_true h22)
                   refine c_seq<|c_region<|g_v rfl r_assign<|g_nil<|d_then<|c_ret<|d_ret_then ?_
                   cases hm
                   exact d_retC () Try.results49 (res_tmp (res_nil rfl)) trivial (fun W h=>ok_pre (H1:=[_]) (R1:=[]) h (fun W hφ=>hφ)) (.inr rfl)
                  replace hm:=ite_f hm (of_decide_eq_false h22)
                  refine c_skip<|d_then<|c_seq<|c_seq<|c_region<|g_v rfl r_assign<|g_nil<|d_then ?_
                  refine c_cut (ι:=Unit) [1] (fun _=>[]) (fun _=>⟨w0,M,(100010,g1,.cells #[.int .i64 p0.fKind,.int .i64 p0.fFrom,.int .i64 p0.fTo,.int .i64 p0.fTerm,.int .i64 p0.fIndex,.int .i64 p0.fLogTerm,.int .i64 p0.fCommit,.bool p0.fGood,.slice Ap0_0 p0.fEntries.length cp0_0,.slice Ap0_1 p0.fVoters.length cp0_1,.string p0.fSnap] 29 (0,0))::H,R,φ⟩) (fun _=>m_ref12_Check_j1 p0 = some r) ?_ (fun _ u hm=>?_)
                  ·
                   refine c_block ?_
                   replace hm:=bnd hm
                   obtain ⟨out3,hl3,hr3⟩:=hm
                   obtain ⟨n106',hl3⟩:=loop_lp hl3
                   refine c_loopU (ι:=Nat×Int) [1,4] (fun ⟨n106,i87⟩=>[(4,.int .i64 i87)]) (fun ⟨n106,i87⟩=>⟨w0,M,(100010,g1,.cells #[.int .i64 p0.fKind,.int .i64 p0.fFrom,.int .i64 p0.fTo,.int .i64 p0.fTerm,.int .i64 p0.fIndex,.int .i64 p0.fLogTerm,.int .i64 p0.fCommit,.bool p0.fGood,.slice Ap0_0 p0.fEntries.length cp0_0,.slice Ap0_1 p0.fVoters.length cp0_1,.string p0.fSnap] 29 (0,0))::H,R,φ⟩) (fun ⟨n106,i87⟩=>Lp (fun s=>m_ref12_Check_s3 p0 s) n106 i87 out3) (fun ⟨n106,i87⟩=>n106) (n106',0) hl3 ⟨rfl,rfl,trivial⟩ (fun W h=>h.phi (fun W hφ=>hφ)) (fun ⟨n106,i87⟩ u hlp=>?_)
                   obtain ⟨o3,hm,hnx3⟩:=lp_step hlp
                   clear hlp
                   replace hm : m_ref12_Check_s3 p0 i87 = some o3:=hm
                   unfold m_ref12_Check_s3 at hm
                   refine c_flat [(1,.pointer (some ⟨g1,0,none⟩)),(4,.int .i64 i87)] ⟨rfl,rfl,trivial⟩ (fun u=>?_)
                   refine c_seq<|c_seq<|c_region<|g_v rfl r_move<|g_v rfl (r_field (n:=8) Try.underlying29 rfl Try.sizeOf26 rfl rfl)<|g_v rfl (r_load (tag:=100010) rfl rfl rfl Try.isAgg26)<|g_v rfl (r_lenL Try.underlying26 rfl)<|g_v rfl (r_lss rfl rfl)<|g_nil<|d_then ?_
                   refine c_cond rfl (fun h107=>?_) (fun h107=>?_)
                   ·
                    replace hm:=ite_t hm (of_decide_eq_true h107)
                    refine c_skip<|d_then<|c_seq<|c_block<|c_seq<|ga_start (n:=9) ⟨w0,M,(100010,g1,.cells #[.int .i64 p0.fKind,.int .i64 p0.fFrom,.int .i64 p0.fTo,.int .i64 p0.fTerm,.int .i64 p0.fIndex,.int .i64 p0.fLogTerm,.int .i64 p0.fCommit,.bool p0.fGood,.slice Ap0_0 p0.fEntries.length cp0_0,.slice Ap0_1 p0.fVoters.length cp0_1,.string p0.fSnap] 29 (0,0))::H,R,φ⟩ [] #[false,false,false,false,false,false,false,false,false] (fun W h=>h.phi (fun W hφ=>hφ)) mixed rfl rfl<|ga_v (i:=0) (bz 9 1) rfl (by kernel_rfl) (fun _ _ _ _ h=>h) rfl (r_field (n:=8) Try.underlying29 rfl Try.sizeOf26 rfl rfl)<|ga_v (i:=1) (bz 9 3) rfl (by kernel_rfl) (fun _ _ _ _ h=>h) rfl (r_load (tag:=100010) rfl rfl rfl Try.isAgg26)<|ga_v (i:=2) (bz 9 7) rfl (by kernel_rfl) (fun _ _ _ _ h=>h) rfl (r_move) ?_
                    replace hm:=bnd hm
                    obtain ⟨x118,hx118,hm⟩:=hm
                    refine ga_know _ (fun W hS=>cl_at (p:=(Sta.mk w0 M H R φ).ok) (sz:=3) (fun _=>rfl) (by decide) (ok_pre (H1:=[_]) (R1:=[]) hS (fun W h=>h)) fp0_0 hx118) ?_
                    rintro ⟨ad119,hA121,f120⟩
                    refine ga_v (i:=3) (bz 9 15) rfl (by kernel_rfl) (fun _ _ _ _ h=>h) rfl (r_ix Try.underlying26 Try.sizeOf56 rfl hA121 rfl hx118) ?_
                    have f122:=fun (W : World) (h : (Sta.mk w0 M H R φ).ok W)=>Cl.drop (f120 W h) 0
                    refine ga_v (i:=4) (bz 9 31) rfl (by kernel_rfl) (fun _ _ _ _ h=>h) rfl (r_fieldF Try.underlying56 rfl Try.sizeOf3 rfl)<|ga_v (i:=5) (bz 9 63) rfl (by kernel_rfl) (fun _ _ _ _ h=>h) rfl (r_ld rfl Try.isAgg3 (fun W hS=>Cl.head (f122 W (ok_pre (H1:=[_]) (R1:=[]) hS (fun W h=>h)))))<|ga_r (i:=6) (bz 9 127) rfl (by kernel_rfl) (by decide) rfl (r_field (n:=3) Try.underlying29 rfl Try.sizeOf3 rfl rfl)<|ga_r (i:=7) (bz 9 255) rfl (by kernel_rfl) (by decide) rfl (r_load (tag:=100010) rfl rfl rfl Try.isAgg3)<|ga_r (i:=8) (bz 9 511) rfl (by kernel_rfl) (by decide) rfl (r_gtr rfl rfl)<|ga_done (by kernel_rfl)<|d_then ?_
                    refine c_flat [(1,.pointer (some ⟨g1,0,none⟩)),(4,.int .i64 i87),(132,.bool (decide (p0.fTerm < x118.fTerm)))] ⟨rfl,rfl,rfl,trivial⟩ (fun u=>?_)
                    refine c_cond rfl (fun h123=>?_) (fun h123=>?_)
                    ·
                     replace hm:=ite_t hm (of_decide_eq_true h123)
                     refine c_seq<|c_region<|g_v rfl r_assign<|g_nil<|d_then<|c_ret<|d_ret_block<|d_ret_then<|d_ret_then<|d_ret_block ?_
                     refine d_ret_then<|d_ret_then ?_
                     replace hm:=nx_out (C:=(fun e : Unit ⊕ Int=>Sum.elim (fun e=>m_ref12_Check_j1 p0) (fun x=>some x) e = some r)) hm hnx3 hr3
                     replace hm : some 1 = some r:=hm
                     cases hm
                     exact d_retC () Try.results49 (res_tmp (res_nil rfl)) trivial (fun W h=>ok_pre (H1:=[_]) (R1:=[]) h (fun W hφ=>hφ)) (.inr rfl)
                    replace hm:=ite_f hm (of_decide_eq_false h123)
                    refine c_skip<|d_normal_block<|d_then<|c_region<|g_v rfl r_move<|g_v rfl (r_add rfl rfl rfl)<|g_v rfl r_assign<|g_nil ?_
                    obtain ⟨n124,hn124,hlp⟩:=nx_inl hm hnx3
                    exact d_round (n124,w64 (i87 + 1)) hlp hn124 ⟨rfl,rfl,trivial⟩ (fun W h=>h.phi (fun W hφ=>hφ))
                   replace hm:=ite_f hm (of_decide_eq_false h107)
                   refine c_exit<|d_exit_then<|d_exit_then<|d_exit_block ?_
                   replace hm:=nx_out (C:=(fun e : Unit ⊕ Int=>Sum.elim (fun e=>m_ref12_Check_j1 p0) (fun x=>some x) e = some r)) hm hnx3 hr3
                   exact d_round () hm Nat.zero_lt_one ⟨rfl,trivial⟩ (fun W h=>h.phi (fun W hφ=>hφ))
                  unfold m_ref12_Check_j1 at hm
                  refine d_flat [(1,.pointer (some ⟨g1,0,none⟩))] ⟨rfl,trivial⟩ (fun u=>?_)
                  refine d_then<|c_seq<|c_region<|g_v rfl (r_field (n:=9) Try.underlying29 rfl Try.sizeOf27 rfl rfl)<|g_v rfl (r_load (tag:=100010) rfl rfl rfl Try.isAgg27) ?_
                  replace hm:=bnd hm
                  obtain ⟨x61,hx62,hm⟩:=hm
                  refine g_cn ⟨w0,M,_,_,φ⟩ (fun _ h=>h) Try.call82 rfl rfl (c_ref11_Right p0.fVoters Ap0_1 cp0_1 hcp0_1 (fun W hS=>fp0_1 W (ok_pre (H1:=[_]) (R1:=[]) hS (fun W h=>h))) _ hx62) (fun _ _=>?_)
                  refine g_v rfl r_assign<|g_nil<|d_then<|c_seq ?_
                  refine c_cut (ι:=Unit) [] (fun _=>[]) (fun _=>⟨w0,M,H,R,φ⟩) (fun _=>m_ref12_Check_j2 = some r) ?_ (fun _ u hm=>?_)
                  ·
                   refine c_seq<|c_region<|g_v rfl r_move<|g_v rfl (r_not rfl)<|g_v rfl r_move ?_
                   refine g_if rfl rfl rfl rfl rfl (fun h66=>?_) (fun h66=>?_)
                   ·
                    have h66' : x61 = false:=by revert h66; cases x61 <;> simp
                    replace hm:=ite_f hm (bool_nt h66')
                    refine g_v rfl (r_field (n:=9) Try.underlying29 rfl Try.sizeOf27 rfl rfl)<|g_do rfl rfl rfl rfl rfl h66<|g_v rfl (r_load (tag:=100010) rfl rfl rfl Try.isAgg27)<|g_do rfl rfl rfl rfl rfl h66<|g_v rfl (r_lenL Try.underlying27 rfl)<|g_do rfl rfl rfl rfl rfl h66<|g_v rfl (r_gtr rfl rfl)<|g_do rfl rfl rfl rfl rfl h66<|g_v rfl r_move ?_
                    refine g_if rfl rfl rfl rfl rfl (fun h67=>?_) (fun h67=>?_)
                    ·
                     replace hm:=ite_f hm (of_decide_eq_false h67)
                     refine g_v rfl (r_field (n:=0) Try.underlying29 rfl Try.sizeOf3 rfl rfl)<|g_do rfl rfl rfl rfl rfl h67<|g_v rfl (r_load (tag:=100010) rfl rfl rfl Try.isAgg3)<|g_do rfl rfl rfl rfl rfl h67<|g_v rfl (r_eql rfl rfl)<|g_do rfl rfl rfl rfl rfl h66<|g_v rfl (r_pick0 rfl h67)<|g_v rfl (r_pick1 rfl h66)<|g_nil<|d_then ?_
                     refine c_flat [(148,.bool (decide (p0.fKind = 4)))] ⟨rfl,trivial⟩ (fun u=>?_)
                     refine c_cond rfl (fun h68=>?_) (fun h68=>?_)
                     ·
                      replace hm:=ite_t hm (of_decide_eq_true h68)
                      refine c_seq<|c_region<|g_v rfl r_assign<|g_nil<|d_then<|c_ret<|d_ret_then<|d_ret_then ?_
                      cases hm
                      exact d_retC () Try.results49 (res_tmp (res_nil rfl)) trivial (fun W h=>ok_pre (H1:=[_]) (R1:=[]) h (fun W hφ=>hφ)) (.inr rfl)
                     replace hm:=ite_f hm (of_decide_eq_false h68)
                     refine c_skip ?_
                     exact d_round () hm Nat.zero_lt_one trivial (fun W h=>(h.dropH (t:=100010) rfl).phi (fun W hφ=>hφ))
                    replace hm:=ite_t hm (of_decide_eq_true h67)
                    refine g_no rfl rfl rfl rfl rfl h67<|g_no rfl rfl rfl rfl rfl h67<|g_do rfl rfl rfl rfl rfl h66<|g_v rfl (r_pick1 rfl h67)<|g_v rfl (r_pick1 rfl h66)<|g_nil<|d_then ?_
                    refine c_flat [(148,.bool true)] ⟨rfl,trivial⟩ (fun u=>?_)
                    refine c_cond1 rfl rfl<|c_seq<|c_region<|g_v rfl r_assign<|g_nil<|d_then<|c_ret<|d_ret_then<|d_ret_then ?_
                    cases hm
                    exact d_retC () Try.results49 (res_tmp (res_nil rfl)) trivial (fun W h=>ok_pre (H1:=[_]) (R1:=[]) h (fun W hφ=>hφ)) (.inr rfl)
                   have h66' : x61 = true:=by revert h66; cases x61 <;> simp
                   replace hm:=ite_t hm h66'
                   iterate 4 refine g_no rfl rfl rfl rfl rfl h66 ?_
                   iterate 3 refine g_nu rfl rfl rfl rfl rfl ?_
                   refine g_no rfl rfl rfl rfl rfl h66<|g_v rfl (r_pick0 rfl h66)<|g_nil<|d_then<|c_cond0 rfl rfl<|c_skip ?_
                   exact d_round () hm Nat.zero_lt_one trivial (fun W h=>(h.dropH (t:=100010) rfl).phi (fun W hφ=>hφ))
                  unfold m_ref12_Check_j2 at hm
                  refine d_flat [] trivial (fun u=>?_)
                  refine d_sta ⟨w0,M,H,R,φ⟩ (fun _ h=>h)<|d_then<|c_seq<|c_region<|g_v rfl r_assign<|g_nil<|d_then<|c_ret ?_
                  cases hm
                  exact d_retC () Try.results49 (res_tmp (res_nil rfl)) trivial (fun W h=>ok_pre (H1:=[]) (R1:=[]) h (fun W hφ=>hφ)) (.inr rfl)
                 replace hm:=ite_t hm (of_decide_eq_true h18)
                 iterate 3 refine g_no rfl rfl rfl rfl rfl h18 ?_
                 refine g_v rfl (r_pick1 rfl h18)<|g_nil<|d_then ?_
                 refine c_flat [(1,.pointer (some ⟨g1,0,none⟩)),(107,.bool true)] ⟨rfl,rfl,trivial⟩ (fun u=>?_)
                 refine c_cond1 rfl rfl<|c_seq<|c_region<|g_v rfl r_assign<|g_nil<|d_then<|c_ret<|d_ret_then ?_
                 cases hm
                 exact d_retC () Try.results49 (res_tmp (res_nil rfl)) trivial (fun W h=>ok_pre (H1:=[_]) (R1:=[]) h (fun W hφ=>hφ)) (.inr rfl)
                replace hm:=ite_t hm (of_decide_eq_true h17)
                iterate 7 refine g_no rfl rfl rfl rfl rfl h17 ?_
                refine g_v rfl (r_pick1 rfl h17)<|g_v rfl r_move ?_
                iterate 4 refine g_no rfl rfl rfl rfl rfl rfl ?_
                refine g_v rfl (r_pick1 rfl rfl)<|g_nil<|d_then ?_
                refine c_flat [(1,.pointer (some ⟨g1,0,none⟩)),(107,.bool true)] ⟨rfl,rfl,trivial⟩ (fun u=>?_)
                refine c_cond1 rfl rfl<|c_seq<|c_region<|g_v rfl r_assign<|g_nil<|d_then<|c_ret<|d_ret_then ?_
                cases hm
                exact d_retC () Try.results49 (res_tmp (res_nil rfl)) trivial (fun W h=>ok_pre (H1:=[_]) (R1:=[]) h (fun W hφ=>hφ)) (.inr rfl)
               replace hm:=ite_t hm (of_decide_eq_true h16)
               iterate 3 refine g_no rfl rfl rfl rfl rfl h16 ?_
               refine g_v rfl (r_pick1 rfl h16)<|g_v rfl r_move ?_
               iterate 8 refine g_no rfl rfl rfl rfl rfl rfl ?_
               refine g_v rfl (r_pick1 rfl rfl)<|g_v rfl r_move ?_
               iterate 4 refine g_no rfl rfl rfl rfl rfl rfl ?_
               refine g_v rfl (r_pick1 rfl rfl)<|g_nil<|d_then ?_
               refine c_flat [(1,.pointer (some ⟨g1,0,none⟩)),(107,.bool true)] ⟨rfl,rfl,trivial⟩ (fun u=>?_)
               refine c_cond1 rfl rfl<|c_seq<|c_region<|g_v rfl r_assign<|g_nil<|d_then<|c_ret<|d_ret_then ?_
               cases hm
               exact d_retC () Try.results49 (res_tmp (res_nil rfl)) trivial (fun W h=>ok_pre (H1:=[_]) (R1:=[]) h (fun W hφ=>hφ)) (.inr rfl)
              replace hm:=ite_t hm (of_decide_eq_true h15)
              iterate 3 refine g_no rfl rfl rfl rfl rfl h15 ?_
              refine g_v rfl (r_pick1 rfl h15)<|g_v rfl r_move ?_
              iterate 4 refine g_no rfl rfl rfl rfl rfl rfl ?_
              refine g_v rfl (r_pick1 rfl rfl)<|g_v rfl r_move ?_
              iterate 8 refine g_no rfl rfl rfl rfl rfl rfl ?_
              refine g_v rfl (r_pick1 rfl rfl)<|g_v rfl r_move ?_
              iterate 4 refine g_no rfl rfl rfl rfl rfl rfl ?_
              refine g_v rfl (r_pick1 rfl rfl)<|g_nil<|d_then ?_
              refine c_flat [(1,.pointer (some ⟨g1,0,none⟩)),(107,.bool true)] ⟨rfl,rfl,trivial⟩ (fun u=>?_)
              refine c_cond1 rfl rfl<|c_seq<|c_region<|g_v rfl r_assign<|g_nil<|d_then<|c_ret<|d_ret_then ?_
              cases hm
              exact d_retC () Try.results49 (res_tmp (res_nil rfl)) trivial (fun W h=>ok_pre (H1:=[_]) (R1:=[]) h (fun W hφ=>hφ)) (.inr rfl)
             replace hm:=ite_t hm (of_decide_eq_true h14)
             refine g_no rfl rfl rfl rfl rfl h14<|g_no rfl rfl rfl rfl rfl h14<|g_v rfl (r_pick1 rfl h14)<|g_v rfl r_move ?_
             iterate 4 refine g_no rfl rfl rfl rfl rfl rfl ?_
             refine g_v rfl (r_pick1 rfl rfl)<|g_v rfl r_move ?_
             iterate 4 refine g_no rfl rfl rfl rfl rfl rfl ?_
             refine g_v rfl (r_pick1 rfl rfl)<|g_v rfl r_move ?_
             iterate 8 refine g_no rfl rfl rfl rfl rfl rfl ?_
             refine g_v rfl (r_pick1 rfl rfl)<|g_v rfl r_move ?_
             iterate 4 refine g_no rfl rfl rfl rfl rfl rfl ?_
             refine g_v rfl (r_pick1 rfl rfl)<|g_nil<|d_then ?_
             refine c_flat [(1,.pointer (some ⟨g1,0,none⟩)),(107,.bool true)] ⟨rfl,rfl,trivial⟩ (fun u=>?_)
             refine c_cond1 rfl rfl<|c_seq<|c_region<|g_v rfl r_assign<|g_nil<|d_then<|c_ret<|d_ret_then ?_
             cases hm
             exact d_retC () Try.results49 (res_tmp (res_nil rfl)) trivial (fun W h=>ok_pre (H1:=[_]) (R1:=[]) h (fun W hφ=>hφ)) (.inr rfl)
            replace hm:=ite_t hm (of_decide_eq_true h13)
            iterate 4 refine g_no rfl rfl rfl rfl rfl h13 ?_
            refine g_v rfl (r_pick1 rfl h13)<|g_v rfl r_move ?_
            iterate 3 refine g_no rfl rfl rfl rfl rfl rfl ?_
            refine g_v rfl (r_pick1 rfl rfl)<|g_v rfl r_move ?_
            iterate 4 refine g_no rfl rfl rfl rfl rfl rfl ?_
            refine g_v rfl (r_pick1 rfl rfl)<|g_v rfl r_move ?_
            iterate 4 refine g_no rfl rfl rfl rfl rfl rfl ?_
            refine g_v rfl (r_pick1 rfl rfl)<|g_v rfl r_move ?_
            iterate 8 refine g_no rfl rfl rfl rfl rfl rfl ?_
            refine g_v rfl (r_pick1 rfl rfl)<|g_v rfl r_move ?_
            iterate 4 refine g_no rfl rfl rfl rfl rfl rfl ?_
            refine g_v rfl (r_pick1 rfl rfl)<|g_nil<|d_then ?_
            refine c_flat [(1,.pointer (some ⟨g1,0,none⟩)),(107,.bool true)] ⟨rfl,rfl,trivial⟩ (fun u=>?_)
            refine c_cond1 rfl rfl<|c_seq<|c_region<|g_v rfl r_assign<|g_nil<|d_then<|c_ret<|d_ret_then ?_
            cases hm
            exact d_retC () Try.results49 (res_tmp (res_nil rfl)) trivial (fun W h=>ok_pre (H1:=[_]) (R1:=[]) h (fun W hφ=>hφ)) (.inr rfl)
           replace hm:=ite_t hm (of_decide_eq_true h12)
           refine g_no rfl rfl rfl rfl rfl h12<|g_no rfl rfl rfl rfl rfl h12<|g_v rfl (r_pick1 rfl h12)<|g_v rfl r_move ?_
           iterate 5 refine g_no rfl rfl rfl rfl rfl rfl ?_
           refine g_v rfl (r_pick1 rfl rfl)<|g_v rfl r_move ?_
           iterate 3 refine g_no rfl rfl rfl rfl rfl rfl ?_
           refine g_v rfl (r_pick1 rfl rfl)<|g_v rfl r_move ?_
           iterate 4 refine g_no rfl rfl rfl rfl rfl rfl ?_
           refine g_v rfl (r_pick1 rfl rfl)<|g_v rfl r_move ?_
           iterate 4 refine g_no rfl rfl rfl rfl rfl rfl ?_
           refine g_v rfl (r_pick1 rfl rfl)<|g_v rfl r_move ?_
           iterate 8 refine g_no rfl rfl rfl rfl rfl rfl ?_
           refine g_v rfl (r_pick1 rfl rfl)<|g_v rfl r_move ?_
           iterate 4 refine g_no rfl rfl rfl rfl rfl rfl ?_
           refine g_v rfl (r_pick1 rfl rfl)<|g_nil<|d_then ?_
           refine c_flat [(1,.pointer (some ⟨g1,0,none⟩)),(107,.bool true)] ⟨rfl,rfl,trivial⟩ (fun u=>?_)
           refine c_cond1 rfl rfl<|c_seq<|c_region<|g_v rfl r_assign<|g_nil<|d_then<|c_ret<|d_ret_then ?_
           cases hm
           exact d_retC () Try.results49 (res_tmp (res_nil rfl)) trivial (fun W h=>ok_pre (H1:=[_]) (R1:=[]) h (fun W hφ=>hφ)) (.inr rfl)
          replace hm:=ite_t hm (of_decide_eq_true h11)
          iterate 3 refine g_no rfl rfl rfl rfl rfl h11 ?_
          refine g_v rfl (r_pick1 rfl h11)<|g_v rfl r_move ?_
          iterate 3 refine g_no rfl rfl rfl rfl rfl rfl ?_
          refine g_v rfl (r_pick1 rfl rfl)<|g_v rfl r_move ?_
          iterate 5 refine g_no rfl rfl rfl rfl rfl rfl ?_
          refine g_v rfl (r_pick1 rfl rfl)<|g_v rfl r_move ?_
          iterate 3 refine g_no rfl rfl rfl rfl rfl rfl ?_
          refine g_v rfl (r_pick1 rfl rfl)<|g_v rfl r_move ?_
          iterate 4 refine g_no rfl rfl rfl rfl rfl rfl ?_
          refine g_v rfl (r_pick1 rfl rfl)<|g_v rfl r_move ?_
          iterate 4 refine g_no rfl rfl rfl rfl rfl rfl ?_
          refine g_v rfl (r_pick1 rfl rfl)<|g_v rfl r_move ?_
          iterate 8 refine g_no rfl rfl rfl rfl rfl rfl ?_
          refine g_v rfl (r_pick1 rfl rfl)<|g_v rfl r_move ?_
          iterate 4 refine g_no rfl rfl rfl rfl rfl rfl ?_
          refine g_v rfl (r_pick1 rfl rfl)<|g_nil<|d_then ?_
          refine c_flat [(1,.pointer (some ⟨g1,0,none⟩)),(107,.bool true)] ⟨rfl,rfl,trivial⟩ (fun u=>?_)
          refine c_cond1 rfl rfl<|c_seq<|c_region<|g_v rfl r_assign<|g_nil<|d_then<|c_ret<|d_ret_then ?_
          cases hm
          exact d_retC () Try.results49 (res_tmp (res_nil rfl)) trivial (fun W h=>ok_pre (H1:=[_]) (R1:=[]) h (fun W hφ=>hφ)) (.inr rfl)
         replace hm:=ite_t hm (of_decide_eq_true h10)
         refine g_no rfl rfl rfl rfl rfl h10<|g_no rfl rfl rfl rfl rfl h10<|g_v rfl (r_pick1 rfl h10)<|g_v rfl r_move ?_
         iterate 4 refine g_no rfl rfl rfl rfl rfl rfl ?_
         refine g_v rfl (r_pick1 rfl rfl)<|g_v rfl r_move ?_
         iterate 3 refine g_no rfl rfl rfl rfl rfl rfl ?_
         refine g_v rfl (r_pick1 rfl rfl)<|g_v rfl r_move ?_
         iterate 5 refine g_no rfl rfl rfl rfl rfl rfl ?_
         refine g_v rfl (r_pick1 rfl rfl)<|g_v rfl r_move ?_
         iterate 3 refine g_no rfl rfl rfl rfl rfl rfl ?_
         refine g_v rfl (r_pick1 rfl rfl)<|g_v rfl r_move ?_
         iterate 4 refine g_no rfl rfl rfl rfl rfl rfl ?_
         refine g_v rfl (r_pick1 rfl rfl)<|g_v rfl r_move ?_
         iterate 4 refine g_no rfl rfl rfl rfl rfl rfl ?_
         refine g_v rfl (r_pick1 rfl rfl)<|g_v rfl r_move ?_
         iterate 8 refine g_no rfl rfl rfl rfl rfl rfl ?_
         refine g_v rfl (r_pick1 rfl rfl)<|g_v rfl r_move ?_
         iterate 4 refine g_no rfl rfl rfl rfl rfl rfl ?_
         refine g_v rfl (r_pick1 rfl rfl)<|g_nil<|d_then ?_
         refine c_flat [(1,.pointer (some ⟨g1,0,none⟩)),(107,.bool true)] ⟨rfl,rfl,trivial⟩ (fun u=>?_)
         refine c_cond1 rfl rfl<|c_seq<|c_region<|g_v rfl r_assign<|g_nil<|d_then<|c_ret<|d_ret_then ?_
         cases hm
         exact d_retC () Try.results49 (res_tmp (res_nil rfl)) trivial (fun W h=>ok_pre (H1:=[_]) (R1:=[]) h (fun W hφ=>hφ)) (.inr rfl)
        replace hm:=ite_t hm (of_decide_eq_true h9)
        iterate 3 refine g_no rfl rfl rfl rfl rfl h9 ?_
        refine g_v rfl (r_pick1 rfl h9)<|g_v rfl r_move ?_
        iterate 3 refine g_no rfl rfl rfl rfl rfl rfl ?_
        refine g_v rfl (r_pick1 rfl rfl)<|g_v rfl r_move ?_
        iterate 4 refine g_no rfl rfl rfl rfl rfl rfl ?_
        refine g_v rfl (r_pick1 rfl rfl)<|g_v rfl r_move ?_
        iterate 3 refine g_no rfl rfl rfl rfl rfl rfl ?_
        refine g_v rfl (r_pick1 rfl rfl)<|g_v rfl r_move ?_
        iterate 5 refine g_no rfl rfl rfl rfl rfl rfl ?_
        refine g_v rfl (r_pick1 rfl rfl)<|g_v rfl r_move ?_
        iterate 3 refine g_no rfl rfl rfl rfl rfl rfl ?_
        refine g_v rfl (r_pick1 rfl rfl)<|g_v rfl r_move ?_
        iterate 4 refine g_no rfl rfl rfl rfl rfl rfl ?_
        refine g_v rfl (r_pick1 rfl rfl)<|g_v rfl r_move ?_
        iterate 4 refine g_no rfl rfl rfl rfl rfl rfl ?_
        refine g_v rfl (r_pick1 rfl rfl)<|g_v rfl r_move ?_
        iterate 8 refine g_no rfl rfl rfl rfl rfl rfl ?_
        refine g_v rfl (r_pick1 rfl rfl)<|g_v rfl r_move ?_
        iterate 4 refine g_no rfl rfl rfl rfl rfl rfl ?_
        refine g_v rfl (r_pick1 rfl rfl)<|g_nil<|d_then ?_
        refine c_flat [(1,.pointer (some ⟨g1,0,none⟩)),(107,.bool true)] ⟨rfl,rfl,trivial⟩ (fun u=>?_)
        refine c_cond1 rfl rfl<|c_seq<|c_region<|g_v rfl r_assign<|g_nil<|d_then<|c_ret<|d_ret_then ?_
        cases hm
        exact d_retC () Try.results49 (res_tmp (res_nil rfl)) trivial (fun W h=>ok_pre (H1:=[_]) (R1:=[]) h (fun W hφ=>hφ)) (.inr rfl)
       replace hm:=ite_t hm (of_decide_eq_true h8)
       refine g_no rfl rfl rfl rfl rfl h8<|g_no rfl rfl rfl rfl rfl h8<|g_v rfl (r_pick1 rfl h8)<|g_v rfl r_move ?_
       iterate 4 refine g_no rfl rfl rfl rfl rfl rfl ?_
       refine g_v rfl (r_pick1 rfl rfl)<|g_v rfl r_move ?_
       iterate 3 refine g_no rfl rfl rfl rfl rfl rfl ?_
       refine g_v rfl (r_pick1 rfl rfl)<|g_v rfl r_move ?_
       iterate 4 refine g_no rfl rfl rfl rfl rfl rfl ?_
       refine g_v rfl (r_pick1 rfl rfl)<|g_v rfl r_move ?_
       iterate 3 refine g_no rfl rfl rfl rfl rfl rfl ?_
       refine g_v rfl (r_pick1 rfl rfl)<|g_v rfl r_move ?_
       iterate 5 refine g_no rfl rfl rfl rfl rfl rfl ?_
       refine g_v rfl (r_pick1 rfl rfl)<|g_v rfl r_move ?_
       iterate 3 refine g_no rfl rfl rfl rfl rfl rfl ?_
       refine g_v rfl (r_pick1 rfl rfl)<|g_v rfl r_move ?_
       iterate 4 refine g_no rfl rfl rfl rfl rfl rfl ?_
       refine g_v rfl (r_pick1 rfl rfl)<|g_v rfl r_move ?_
       iterate 4 refine g_no rfl rfl rfl rfl rfl rfl ?_
       refine g_v rfl (r_pick1 rfl rfl)<|g_v rfl r_move ?_
       iterate 8 refine g_no rfl rfl rfl rfl rfl rfl ?_
       refine g_v rfl (r_pick1 rfl rfl)<|g_v rfl r_move ?_
       iterate 4 refine g_no rfl rfl rfl rfl rfl rfl ?_
       refine g_v rfl (r_pick1 rfl rfl)<|g_nil<|d_then ?_
       refine c_flat [(1,.pointer (some ⟨g1,0,none⟩)),(107,.bool true)] ⟨rfl,rfl,trivial⟩ (fun u=>?_)
       refine c_cond1 rfl rfl<|c_seq<|c_region<|g_v rfl r_assign<|g_nil<|d_then<|c_ret<|d_ret_then ?_
       cases hm
       exact d_retC () Try.results49 (res_tmp (res_nil rfl)) trivial (fun W h=>ok_pre (H1:=[_]) (R1:=[]) h (fun W hφ=>hφ)) (.inr rfl)
      replace hm:=ite_t hm (of_decide_eq_true h7)
      iterate 4 refine g_no rfl rfl rfl rfl rfl h7 ?_
      refine g_v rfl (r_pick1 rfl h7)<|g_v rfl r_move ?_
      iterate 3 refine g_no rfl rfl rfl rfl rfl rfl ?_
      refine g_v rfl (r_pick1 rfl rfl)<|g_v rfl r_move ?_
      iterate 4 refine g_no rfl rfl rfl rfl rfl rfl ?_
      refine g_v rfl (r_pick1 rfl rfl)<|g_v rfl r_move ?_
      iterate 3 refine g_no rfl rfl rfl rfl rfl rfl ?_
      refine g_v rfl (r_pick1 rfl rfl)<|g_v rfl r_move ?_
      iterate 4 refine g_no rfl rfl rfl rfl rfl rfl ?_
      refine g_v rfl (r_pick1 rfl rfl)<|g_v rfl r_move ?_
      iterate 3 refine g_no rfl rfl rfl rfl rfl rfl ?_
      refine g_v rfl (r_pick1 rfl rfl)<|g_v rfl r_move ?_
      iterate 5 refine g_no rfl rfl rfl rfl rfl rfl ?_
      refine g_v rfl (r_pick1 rfl rfl)<|g_v rfl r_move ?_
      iterate 3 refine g_no rfl rfl rfl rfl rfl rfl ?_
      refine g_v rfl (r_pick1 rfl rfl)<|g_v rfl r_move ?_
      iterate 4 refine g_no rfl rfl rfl rfl rfl rfl ?_
      refine g_v rfl (r_pick1 rfl rfl)<|g_v rfl r_move ?_
      iterate 4 refine g_no rfl rfl rfl rfl rfl rfl ?_
      refine g_v rfl (r_pick1 rfl rfl)<|g_v rfl r_move ?_
      iterate 8 refine g_no rfl rfl rfl rfl rfl rfl ?_
      refine g_v rfl (r_pick1 rfl rfl)<|g_v rfl r_move ?_
      iterate 4 refine g_no rfl rfl rfl rfl rfl rfl ?_
      refine g_v rfl (r_pick1 rfl rfl)<|g_nil<|d_then ?_
      refine c_flat [(1,.pointer (some ⟨g1,0,none⟩)),(107,.bool true)] ⟨rfl,rfl,trivial⟩ (fun u=>?_)
      refine c_cond1 rfl rfl<|c_seq<|c_region<|g_v rfl r_assign<|g_nil<|d_then<|c_ret<|d_ret_then ?_
      cases hm
      exact d_retC () Try.results49 (res_tmp (res_nil rfl)) trivial (fun W h=>ok_pre (H1:=[_]) (R1:=[]) h (fun W hφ=>hφ)) (.inr rfl)
     replace hm:=ite_t hm (of_decide_eq_true h6)
     refine g_no rfl rfl rfl rfl rfl h6<|g_no rfl rfl rfl rfl rfl h6<|g_v rfl (r_pick1 rfl h6)<|g_v rfl r_move ?_
     iterate 5 refine g_no rfl rfl rfl rfl rfl rfl ?_
     refine g_v rfl (r_pick1 rfl rfl)<|g_v rfl r_move ?_
     iterate 3 refine g_no rfl rfl rfl rfl rfl rfl ?_
     refine g_v rfl (r_pick1 rfl rfl)<|g_v rfl r_move ?_
     iterate 4 refine g_no rfl rfl rfl rfl rfl rfl ?_
     refine g_v rfl (r_pick1 rfl rfl)<|g_v rfl r_move ?_
     iterate 3 refine g_no rfl rfl rfl rfl rfl rfl ?_
     refine g_v rfl (r_pick1 rfl rfl)<|g_v rfl r_move ?_
     iterate 4 refine g_no rfl rfl rfl rfl rfl rfl ?_
     refine g_v rfl (r_pick1 rfl rfl)<|g_v rfl r_move ?_
     iterate 3 refine g_no rfl rfl rfl rfl rfl rfl ?_
     refine g_v rfl (r_pick1 rfl rfl)<|g_v rfl r_move ?_
     iterate 5 refine g_no rfl rfl rfl rfl rfl rfl ?_
     refine g_v rfl (r_pick1 rfl rfl)<|g_v rfl r_move ?_
     iterate 3 refine g_no rfl rfl rfl rfl rfl rfl ?_
     refine g_v rfl (r_pick1 rfl rfl)<|g_v rfl r_move ?_
     iterate 4 refine g_no rfl rfl rfl rfl rfl rfl ?_
     refine g_v rfl (r_pick1 rfl rfl)<|g_v rfl r_move ?_
     iterate 4 refine g_no rfl rfl rfl rfl rfl rfl ?_
     refine g_v rfl (r_pick1 rfl rfl)<|g_v rfl r_move ?_
     iterate 8 refine g_no rfl rfl rfl rfl rfl rfl ?_
     refine g_v rfl (r_pick1 rfl rfl)<|g_v rfl r_move ?_
     iterate 4 refine g_no rfl rfl rfl rfl rfl rfl ?_
     refine g_v rfl (r_pick1 rfl rfl)<|g_nil<|d_then ?_
     refine c_flat [(1,.pointer (some ⟨g1,0,none⟩)),(107,.bool true)] ⟨rfl,rfl,trivial⟩ (fun u=>?_)
     refine c_cond1 rfl rfl<|c_seq<|c_region<|g_v rfl r_assign<|g_nil<|d_then<|c_ret<|d_ret_then ?_
     cases hm
     exact d_retC () Try.results49 (res_tmp (res_nil rfl)) trivial (fun W h=>ok_pre (H1:=[_]) (R1:=[]) h (fun W hφ=>hφ)) (.inr rfl)
    replace hm:=ite_t hm (of_decide_eq_true h5)
    refine g_no rfl rfl rfl rfl rfl h5<|g_no rfl rfl rfl rfl rfl h5<|g_v rfl (r_pick1 rfl h5)<|g_v rfl r_move ?_
    iterate 3 refine g_no rfl rfl rfl rfl rfl rfl ?_
    refine g_v rfl (r_pick1 rfl rfl)<|g_v rfl r_move ?_
    iterate 5 refine g_no rfl rfl rfl rfl rfl rfl ?_
    refine g_v rfl (r_pick1 rfl rfl)<|g_v rfl r_move ?_
    iterate 3 refine g_no rfl rfl rfl rfl rfl rfl ?_
    refine g_v rfl (r_pick1 rfl rfl)<|g_v rfl r_move ?_
    iterate 4 refine g_no rfl rfl rfl rfl rfl rfl ?_
    refine g_v rfl (r_pick1 rfl rfl)<|g_v rfl r_move ?_
    iterate 3 refine g_no rfl rfl rfl rfl rfl rfl ?_
    refine g_v rfl (r_pick1 rfl rfl)<|g_v rfl r_move ?_
    iterate 4 refine g_no rfl rfl rfl rfl rfl rfl ?_
    refine g_v rfl (r_pick1 rfl rfl)<|g_v rfl r_move ?_
    iterate 3 refine g_no rfl rfl rfl rfl rfl rfl ?_
    refine g_v rfl (r_pick1 rfl rfl)<|g_v rfl r_move ?_
    iterate 5 refine g_no rfl rfl rfl rfl rfl rfl ?_
    refine g_v rfl (r_pick1 rfl rfl)<|g_v rfl r_move ?_
    iterate 3 refine g_no rfl rfl rfl rfl rfl rfl ?_
    refine g_v rfl (r_pick1 rfl rfl)<|g_v rfl r_move ?_
    iterate 4 refine g_no rfl rfl rfl rfl rfl rfl ?_
    refine g_v rfl (r_pick1 rfl rfl)<|g_v rfl r_move ?_
    iterate 4 refine g_no rfl rfl rfl rfl rfl rfl ?_
    refine g_v rfl (r_pick1 rfl rfl)<|g_v rfl r_move ?_
    iterate 8 refine g_no rfl rfl rfl rfl rfl rfl ?_
    refine g_v rfl (r_pick1 rfl rfl)<|g_v rfl r_move ?_
    iterate 4 refine g_no rfl rfl rfl rfl rfl rfl ?_
    refine g_v rfl (r_pick1 rfl rfl)<|g_nil<|d_then ?_
    refine c_flat [(1,.pointer (some ⟨g1,0,none⟩)),(107,.bool true)] ⟨rfl,rfl,trivial⟩ (fun u=>?_)
    refine c_cond1 rfl rfl<|c_seq<|c_region<|g_v rfl r_assign<|g_nil<|d_then<|c_ret<|d_ret_then ?_
    cases hm
    exact d_retC () Try.results49 (res_tmp (res_nil rfl)) trivial (fun W h=>ok_pre (H1:=[_]) (R1:=[]) h (fun W hφ=>hφ)) (.inr rfl)
   replace hm:=ite_t hm (of_decide_eq_true h4)
   refine g_no rfl rfl rfl rfl rfl h4<|g_no rfl rfl rfl rfl rfl h4<|g_v rfl (r_pick1 rfl h4)<|g_v rfl r_move ?_
   iterate 3 refine g_no rfl rfl rfl rfl rfl rfl ?_
   refine g_v rfl (r_pick1 rfl rfl)<|g_v rfl r_move ?_
   iterate 3 refine g_no rfl rfl rfl rfl rfl rfl ?_
   refine g_v rfl (r_pick1 rfl rfl)<|g_v rfl r_move ?_
   iterate 5 refine g_no rfl rfl rfl rfl rfl rfl ?_
   refine g_v rfl (r_pick1 rfl rfl)<|g_v rfl r_move ?_
   iterate 3 refine g_no rfl rfl rfl rfl rfl rfl ?_
   refine g_v rfl (r_pick1 rfl rfl)<|g_v rfl r_move ?_
   iterate 4 refine g_no rfl rfl rfl rfl rfl rfl ?_
   refine g_v rfl (r_pick1 rfl rfl)<|g_v rfl r_move ?_
   iterate 3 refine g_no rfl rfl rfl rfl rfl rfl ?_
   refine g_v rfl (r_pick1 rfl rfl)<|g_v rfl r_move ?_
   iterate 4 refine g_no rfl rfl rfl rfl rfl rfl ?_
   refine g_v rfl (r_pick1 rfl rfl)<|g_v rfl r_move ?_
   iterate 3 refine g_no rfl rfl rfl rfl rfl rfl ?_
   refine g_v rfl (r_pick1 rfl rfl)<|g_v rfl r_move ?_
   iterate 5 refine g_no rfl rfl rfl rfl rfl rfl ?_
   refine g_v rfl (r_pick1 rfl rfl)<|g_v rfl r_move ?_
   iterate 3 refine g_no rfl rfl rfl rfl rfl rfl ?_
   refine g_v rfl (r_pick1 rfl rfl)<|g_v rfl r_move ?_
   iterate 4 refine g_no rfl rfl rfl rfl rfl rfl ?_
   refine g_v rfl (r_pick1 rfl rfl)<|g_v rfl r_move ?_
   iterate 4 refine g_no rfl rfl rfl rfl rfl rfl ?_
   refine g_v rfl (r_pick1 rfl rfl)<|g_v rfl r_move ?_
   iterate 8 refine g_no rfl rfl rfl rfl rfl rfl ?_
   refine g_v rfl (r_pick1 rfl rfl)<|g_v rfl r_move ?_
   iterate 4 refine g_no rfl rfl rfl rfl rfl rfl ?_
   refine g_v rfl (r_pick1 rfl rfl)<|g_nil<|d_then ?_
   refine c_flat [(1,.pointer (some ⟨g1,0,none⟩)),(107,.bool true)] ⟨rfl,rfl,trivial⟩ (fun u=>?_)
   refine c_cond1 rfl rfl<|c_seq<|c_region<|g_v rfl r_assign<|g_nil<|d_then<|c_ret<|d_ret_then ?_
   cases hm
   exact d_retC () Try.results49 (res_tmp (res_nil rfl)) trivial (fun W h=>ok_pre (H1:=[_]) (R1:=[]) h (fun W hφ=>hφ)) (.inr rfl)
  replace hm:=ite_t hm (of_decide_eq_true h3)
  refine g_no rfl rfl rfl rfl rfl h3<|g_no rfl rfl rfl rfl rfl h3<|g_v rfl (r_pick1 rfl h3)<|g_v rfl r_move ?_
  iterate 3 refine g_no rfl rfl rfl rfl rfl rfl ?_
  refine g_v rfl (r_pick1 rfl rfl)<|g_v rfl r_move ?_
  iterate 3 refine g_no rfl rfl rfl rfl rfl rfl ?_
  refine g_v rfl (r_pick1 rfl rfl)<|g_v rfl r_move ?_
  iterate 3 refine g_no rfl rfl rfl rfl rfl rfl ?_
  refine g_v rfl (r_pick1 rfl rfl)<|g_v rfl r_move ?_
  iterate 5 refine g_no rfl rfl rfl rfl rfl rfl ?_
  refine g_v rfl (r_pick1 rfl rfl)<|g_v rfl r_move ?_
  iterate 3 refine g_no rfl rfl rfl rfl rfl rfl ?_
  refine g_v rfl (r_pick1 rfl rfl)<|g_v rfl r_move ?_
  iterate 4 refine g_no rfl rfl rfl rfl rfl rfl ?_
  refine g_v rfl (r_pick1 rfl rfl)<|g_v rfl r_move ?_
  iterate 3 refine g_no rfl rfl rfl rfl rfl rfl ?_
  refine g_v rfl (r_pick1 rfl rfl)<|g_v rfl r_move ?_
  iterate 4 refine g_no rfl rfl rfl rfl rfl rfl ?_
  refine g_v rfl (r_pick1 rfl rfl)<|g_v rfl r_move ?_
  iterate 3 refine g_no rfl rfl rfl rfl rfl rfl ?_
  refine g_v rfl (r_pick1 rfl rfl)<|g_v rfl r_move ?_
  iterate 5 refine g_no rfl rfl rfl rfl rfl rfl ?_
  refine g_v rfl (r_pick1 rfl rfl)<|g_v rfl r_move ?_
  iterate 3 refine g_no rfl rfl rfl rfl rfl rfl ?_
  refine g_v rfl (r_pick1 rfl rfl)<|g_v rfl r_move ?_
  iterate 4 refine g_no rfl rfl rfl rfl rfl rfl ?_
  refine g_v rfl (r_pick1 rfl rfl)<|g_v rfl r_move ?_
  iterate 4 refine g_no rfl rfl rfl rfl rfl rfl ?_
  refine g_v rfl (r_pick1 rfl rfl)<|g_v rfl r_move ?_
  iterate 8 refine g_no rfl rfl rfl rfl rfl rfl ?_
  refine g_v rfl (r_pick1 rfl rfl)<|g_v rfl r_move ?_
  iterate 4 refine g_no rfl rfl rfl rfl rfl rfl ?_
  refine g_v rfl (r_pick1 rfl rfl)<|g_nil<|d_then ?_
  refine c_flat [(1,.pointer (some ⟨g1,0,none⟩)),(107,.bool true)] ⟨rfl,rfl,trivial⟩ (fun u=>?_)
  refine c_cond1 rfl rfl<|c_seq<|c_region<|g_v rfl r_assign<|g_nil<|d_then<|c_ret<|d_ret_then ?_
  cases hm
  exact d_retC () Try.results49 (res_tmp (res_nil rfl)) trivial (fun W h=>ok_pre (H1:=[_]) (R1:=[]) h (fun W hφ=>hφ)) (.inr rfl)
 replace hm:=ite_t hm (of_decide_eq_true h2)
 refine g_no rfl rfl rfl rfl rfl h2<|g_no rfl rfl rfl rfl rfl h2<|g_v rfl (r_pick1 rfl h2)<|g_v rfl r_move ?_
 iterate 3 refine g_no rfl rfl rfl rfl rfl rfl ?_
 refine g_v rfl (r_pick1 rfl rfl)<|g_v rfl r_move ?_
 iterate 3 refine g_no rfl rfl rfl rfl rfl rfl ?_
 refine g_v rfl (r_pick1 rfl rfl)<|g_v rfl r_move ?_
 iterate 3 refine g_no rfl rfl rfl rfl rfl rfl ?_
 refine g_v rfl (r_pick1 rfl rfl)<|g_v rfl r_move ?_
 iterate 3 refine g_no rfl rfl rfl rfl rfl rfl ?_
 refine g_v rfl (r_pick1 rfl rfl)<|g_v rfl r_move ?_
 iterate 5 refine g_no rfl rfl rfl rfl rfl rfl ?_
 refine g_v rfl (r_pick1 rfl rfl)<|g_v rfl r_move ?_
 iterate 3 refine g_no rfl rfl rfl rfl rfl rfl ?_
 refine g_v rfl (r_pick1 rfl rfl)<|g_v rfl r_move ?_
 iterate 4 refine g_no rfl rfl rfl rfl rfl rfl ?_
 refine g_v rfl (r_pick1 rfl rfl)<|g_v rfl r_move ?_
 iterate 3 refine g_no rfl rfl rfl rfl rfl rfl ?_
 refine g_v rfl (r_pick1 rfl rfl)<|g_v rfl r_move ?_
 iterate 4 refine g_no rfl rfl rfl rfl rfl rfl ?_
 refine g_v rfl (r_pick1 rfl rfl)<|g_v rfl r_move ?_
 iterate 3 refine g_no rfl rfl rfl rfl rfl rfl ?_
 refine g_v rfl (r_pick1 rfl rfl)<|g_v rfl r_move ?_
 iterate 5 refine g_no rfl rfl rfl rfl rfl rfl ?_
 refine g_v rfl (r_pick1 rfl rfl)<|g_v rfl r_move ?_
 iterate 3 refine g_no rfl rfl rfl rfl rfl rfl ?_
 refine g_v rfl (r_pick1 rfl rfl)<|g_v rfl r_move ?_
 iterate 4 refine g_no rfl rfl rfl rfl rfl rfl ?_
 refine g_v rfl (r_pick1 rfl rfl)<|g_v rfl r_move ?_
 iterate 4 refine g_no rfl rfl rfl rfl rfl rfl ?_
 refine g_v rfl (r_pick1 rfl rfl)<|g_v rfl r_move ?_
 iterate 8 refine g_no rfl rfl rfl rfl rfl rfl ?_
 refine g_v rfl (r_pick1 rfl rfl)<|g_v rfl r_move ?_
 iterate 4 refine g_no rfl rfl rfl rfl rfl rfl ?_
 refine g_v rfl (r_pick1 rfl rfl)<|g_nil<|d_then ?_
 refine c_flat [(1,.pointer (some ⟨g1,0,none⟩)),(107,.bool true)] ⟨rfl,rfl,trivial⟩ (fun u=>?_)
 refine c_cond1 rfl rfl<|c_seq<|c_region<|g_v rfl r_assign<|g_nil<|d_then<|c_ret<|d_ret_then ?_
 cases hm
 exact d_retC () Try.results49 (res_tmp (res_nil rfl)) trivial (fun W h=>ok_pre (H1:=[_]) (R1:=[]) h (fun W hφ=>hφ)) (.inr rfl)
noncomputable def m_ref03_Labels (p0 : ByteArray) : Option ((List ByteArray)×Int):=
  (m_ref03_Check p0).bind fun x1=>
  if x1 ≠ 0 then
    some (([] : List ByteArray),x1)
  else
    (m_ref03_row p0).bind fun (z10 : (List ByteArray)×Bool)=>
    some (z10.1,0)
theorem c_ref03_Labels {w0 : World} {M : Nat→Prop} {H : List (Nat×Nat×Obj)} {R : List (Nat×Row)} {φ : World→Prop} (p0 : ByteArray) (r : (List ByteArray)×Int) (hm : m_ref03_Labels p0 = some r) :
    Cn Try.prog 108 #[.string p0] ⟨w0,M,H,R,φ⟩ (fun x : Option Addr×Nat=>.tuple #[.slice x.1 r.1.length x.2,.int .i64 r.2]) (fun x=>r.1.length ≤ x.2) (fun x=>⟨w0,M,H,(2000,⟨.slice x.1 r.1.length x.2,9,1,r.1.length,r.1.flatMap (fun x : ByteArray=>[Value.string x])⟩)::R,φ⟩):=by
 unfold m_ref03_Labels at hm
 refine cn_intro (fn:=Try.f108) (N:=18) Try.func108 rfl Try.ntmps108 rfl<|c_seq<|c_region<|g_v rfl r_assign<|g_v rfl r_assign<|g_nil<|d_then<|c_seq<|c_region<|g_v rfl r_move ?_
 replace hm:=bnd hm
 obtain ⟨x1,hx2,hm⟩:=hm
 refine g_cn ⟨w0,M,_,_,φ⟩ (fun _ h=>h) Try.call47 rfl rfl (c_ref03_Check p0 _ hx2) (fun _ _=>?_)
 refine g_v rfl r_assign<|g_nil<|d_then<|c_seq<|c_seq<|c_region<|g_v rfl r_move<|g_v rfl (r_neq rfl rfl)<|g_nil<|d_then ?_
 refine c_cond rfl (fun h3=>?_) (fun h3=>?_)
 ·
  replace hm:=ite_t hm (of_decide_eq_true h3)
  refine c_seq<|c_region<|g_v rfl r_move<|g_v rfl r_assign<|g_v rfl r_assign<|g_nil<|d_then ?_
  refine c_flat [(2,.slice none 0 0),(3,.int .i64 x1)] ⟨rfl,rfl,trivial⟩ (fun u=>?_)
  refine c_sta ⟨w0,M,H,R,φ⟩ (fun _ h=>h)<|c_ret<|d_ret_then ?_
  cases hm
  refine d_sta _ (fun W h=>nilR h 11 9 1)<|d_sta _ (fun W h=>ok_frontR (t:=11) (t':=2000) h rfl) ?_
  exact d_retC (none,0) Try.results108 (res_tmp (res_tmp (res_nil rfl))) (Nat.le_refl 0) (fun W h=>h.phi (fun W hφ=>hφ)) (.inr rfl)
 replace hm:=ite_f hm (of_decide_eq_false h3)
 refine c_skip<|d_then<|c_seq<|c_region<|g_v rfl r_move ?_
 replace hm:=bnd hm
 obtain ⟨⟨x4,x5⟩,hx6,hm⟩:=hm
 refine g_cn ⟨w0,M,_,_,φ⟩ (fun _ h=>h) Try.call78 rfl rfl (c_ref03_row p0 _ hx6) (fun ⟨A7,c8⟩ hc8=>?_)
 refine g_sta _ (fun W h=>(ok_frontR (t:=2000) (t':=100140) h rfl))<|g_v rfl r_move<|g_v rfl (r_extract rfl rfl)<|g_v rfl (r_extract rfl rfl)<|g_v rfl r_assign<|g_v rfl r_assign<|g_nil<|d_then ?_
 refine c_flat [(5,.slice A7 x4.length c8)] ⟨rfl,trivial⟩ (fun u=>?_)
 refine c_sta ⟨w0,M,H,(100140,⟨.slice A7 x4.length c8,9,1,x4.length,x4.flatMap (fun x : ByteArray=>[Value.string x])⟩)::R,φ⟩ (fun _ h=>h)<|c_seq<|c_region<|g_v rfl r_move<|g_v rfl r_assign<|g_v rfl r_assign<|g_nil<|d_then<|c_ret ?_
 cases hm
 refine d_sta _ (fun W h=>ok_frontR (t:=100140) (t':=2000) h rfl) ?_
 exact d_retC (A7,c8) Try.results108 (res_tmp (res_tmp (res_nil rfl))) hc8 (fun W h=>h.phi (fun W hφ=>hφ)) (.inr rfl)
noncomputable def m_ref03_Lower_j1  (l55 : List Int) : Option ByteArray:=
  some (strOfNums l55)
noncomputable def m_ref03_Lower_s2 (p0 : ByteArray) (l78 : List Int) (i79 : Int) : Option (((List Int)×Int) ⊕ (List Int)):=
  if i79 < (((bytesI p0).length) : Int) then
    (at_ l78 i79).bind fun x104=>
    if 65 ≤ x104 then
      (at_ l78 i79).bind fun x109=>
      if x109 ≤ 90 then
        (at_ l78 i79).bind fun x114=>
        (at_ l78 i79).bind fun x118=>
        (setAt l78 i79 (IntKind.u8.wrap (x114 + 32))).bind fun l122=>
        some (.inl (l122,w64 (i79 + 1)))
      else
        some (.inl (l78,w64 (i79 + 1)))
    else
      some (.inl (l78,w64 (i79 + 1)))
  else
    some (.inr l78)
noncomputable def m_ref03_Lower (p0 : ByteArray) : Option ByteArray:=
  (loop (fun s=>m_ref03_Lower_s2 p0 s.1 s.2) ((bytesI p0),0)).bind fun e=>m_ref03_Lower_j1 e
theorem c_ref03_Lower {w0 : World} {M : Nat→Prop} {H : List (Nat×Nat×Obj)} {R : List (Nat×Row)} {φ : World→Prop} (p0 : ByteArray) (r : ByteArray) (hm : m_ref03_Lower p0 = some r) :
    Cn Try.prog 109 #[.string p0] ⟨w0,M,H,R,φ⟩ (fun x : Unit=>.string r) (fun x=>True) (fun x=>⟨w0,M,H,R,φ⟩):=by
 unfold m_ref03_Lower at hm
 refine cn_intro (fn:=Try.f109) (N:=35) Try.func109 rfl Try.ntmps109 rfl<|c_seq<|c_region<|g_v rfl r_assign<|g_nil<|d_then<|c_seq<|c_region<|g_v rfl r_move ?_
 refine g_e rfl (e_bytesH 100060 Try.underlying9 Try.underlying91 Try.underlying5 rfl) (fun ⟨g5,c6,T7⟩ hc6=>?_)
 refine g_v rfl r_assign<|g_nil<|d_then<|c_seq<|c_seq<|c_region<|g_v rfl r_assign<|g_nil<|d_then ?_
 refine c_cut (ι:=(List Int)) [3] (fun l55=>[(3,.slice (some ⟨g5,0,none⟩) ((bytesI p0).length) c6)]) (fun l55=>⟨w0,M,(100060,g5,rowO l55 T7 5)::H,R,φ⟩) (fun l55=>m_ref03_Lower_j1 l55 = some r∧l55.length = (bytesI p0).length) ?_ (fun l55 u ⟨hm,hl55⟩=>?_)
 ·
  refine c_block ?_
  replace hm:=bnd hm
  obtain ⟨out2,hl2,hr2⟩:=hm
  obtain ⟨n102',hl2⟩:=loop_lp hl2
  refine c_loopU (ι:=Nat×(List Int)×Int) [3,4] (fun ⟨n102,l78,i79⟩=>[(3,.slice (some ⟨g5,0,none⟩) ((bytesI p0).length) c6),(4,.int .i64 i79)]) (fun ⟨n102,l78,i79⟩=>⟨w0,M,(100060,g5,rowO l78 T7 5)::H,R,φ⟩) (fun ⟨n102,l78,i79⟩=>Lp (fun s=>m_ref03_Lower_s2 p0 s.1 s.2) n102 (l78,i79) out2∧l78.length = (bytesI p0).length) (fun ⟨n102,l78,i79⟩=>n102) (n102',(bytesI p0),0) ⟨hl2,rfl⟩ ⟨rfl,rfl,trivial⟩ (fun W h=>h.phi (fun W hφ=>hφ)) (fun ⟨n102,l78,i79⟩ u ⟨hlp,hl78⟩=>?_)
  obtain ⟨o2,hm,hnx2⟩:=lp_step hlp
  clear hlp
  replace hm : m_ref03_Lower_s2 p0 l78 i79 = some o2:=hm
  unfold m_ref03_Lower_s2 at hm
  refine c_flat [(3,.slice (some ⟨g5,0,none⟩) ((bytesI p0).length) c6),(4,.int .i64 i79)] ⟨rfl,rfl,trivial⟩ (fun u=>?_)
  refine c_sta ⟨w0,M,(100060,g5,rowO l78 T7 5)::H,R,φ⟩ (fun _ h=>h)<|c_seq<|c_seq<|c_region<|g_v rfl r_move<|g_v rfl r_move<|g_v rfl (r_lenL Try.underlying91 rfl)<|g_v rfl (r_lss rfl rfl)<|g_nil<|d_then ?_
  refine c_cond rfl (fun h103=>?_) (fun h103=>?_)
  ·
   replace hm:=ite_t hm (of_decide_eq_true h103)
   refine c_skip<|d_then<|c_seq<|c_block<|c_seq<|c_region<|g_v rfl r_move<|g_v rfl r_move ?_
   replace hm:=bnd hm
   obtain ⟨x104,hx104,hm⟩:=hm
   refine g_know _ (fun W hS=>cl_at (p:=(Sta.ok ⟨w0,M,(100060,g5,rowO l78 T7 5)::H,R,φ⟩)) (sz:=1) (fun _=>rfl) (by decide) hS (hrowCl (S:=⟨w0,M,(100060,g5,rowO l78 T7 5)::H,R,φ⟩) (tag:=100060) rfl) hx104) ?_
   rintro ⟨ad105,hA107,f106⟩
   refine g_v rfl (r_ixN hl78 Try.underlying91 Try.sizeOf5 rfl hA107 rfl hx104)<|g_v rfl (r_ld rfl Try.isAgg5 (fun W hS=>Cl.head (f106 W hS)))<|g_v rfl (r_geq rfl rfl)<|g_v rfl r_move ?_
   refine g_if rfl rfl rfl rfl rfl (fun h108=>?_) (fun h108=>?_)
   ·
    replace hm:=ite_t hm (of_decide_eq_true h108)
    refine g_v rfl r_move<|g_do rfl rfl rfl rfl rfl h108<|g_v rfl r_move<|g_do rfl rfl rfl rfl rfl h108 ?_
    replace hm:=bnd hm
    obtain ⟨x109,hx109,hm⟩:=hm
    refine g_know _ (fun W hS=>cl_at (p:=(Sta.ok ⟨w0,M,(100060,g5,rowO l78 T7 5)::H,R,φ⟩)) (sz:=1) (fun _=>rfl) (by decide) hS (hrowCl (S:=⟨w0,M,(100060,g5,rowO l78 T7 5)::H,R,φ⟩) (tag:=100060) rfl) hx109) ?_
    rintro ⟨ad110,hA112,f111⟩
    refine g_v rfl (r_ixN hl78 Try.underlying91 Try.sizeOf5 rfl hA112 rfl hx109)<|g_do rfl rfl rfl rfl rfl h108<|g_v rfl (r_ld rfl Try.isAgg5 (fun W hS=>Cl.head (f111 W hS)))<|g_do rfl rfl rfl rfl rfl h108<|g_v rfl (r_leq rfl rfl)<|g_v rfl (r_pick1 rfl h108)<|g_nil<|d_then ?_
    refine c_flat [(3,.slice (some ⟨g5,0,none⟩) ((bytesI p0).length) c6),(4,.int .i64 i79),(24,.bool (decide (x109 ≤ 90)))] ⟨rfl,rfl,rfl,trivial⟩ (fun u=>?_)
    refine c_cond rfl (fun h113=>?_) (fun h113=>?_)
    ·
     replace hm:=ite_t hm (of_decide_eq_true h113)
     refine c_region ?_
     iterate 4 refine g_v rfl r_move ?_
     replace hm:=bnd hm
     obtain ⟨x114,hx114,hm⟩:=hm
     refine g_know _ (fun W hS=>cl_at (p:=(Sta.ok ⟨w0,M,(100060,g5,rowO l78 T7 5)::H,R,φ⟩)) (sz:=1) (fun _=>rfl) (by decide) hS (hrowCl (S:=⟨w0,M,(100060,g5,rowO l78 T7 5)::H,R,φ⟩) (tag:=100060) rfl) hx114) ?_
     rintro ⟨ad115,hA117,f116⟩
     refine g_v rfl (r_ixN hl78 Try.underlying91 Try.sizeOf5 rfl hA117 rfl hx114)<|g_v rfl (r_ld rfl Try.isAgg5 (fun W hS=>Cl.head (f116 W hS)))<|g_v rfl (r_add rfl rfl rfl) ?_
     replace hm:=bnd hm
     obtain ⟨x118,hx118,hm⟩:=hm
     refine g_know _ (fun W hS=>cl_at (p:=(Sta.ok ⟨w0,M,(100060,g5,rowO l78 T7 5)::H,R,φ⟩)) (sz:=1) (fun _=>rfl) (by decide) hS (hrowCl (S:=⟨w0,M,(100060,g5,rowO l78 T7 5)::H,R,φ⟩) (tag:=100060) rfl) hx118) ?_
     rintro ⟨ad119,hA121,f120⟩
     refine g_v rfl (r_ixN hl78 Try.underlying91 Try.sizeOf5 rfl hA121 rfl hx118) ?_
     replace hm:=bnd hm
     obtain ⟨l122,hl122,hm⟩:=hm
     refine g_stH (tag:=100060) (l:=l78) rfl rfl hA121 rfl hl122 rfl Try.sizeOf5<|g_nil<|d_normal_block<|d_then ?_
     refine c_flat [(3,.slice (some ⟨g5,0,none⟩) ((bytesI p0).length) c6),(4,.int .i64 i79)] ⟨rfl,rfl,trivial⟩ (fun u=>?_)
     refine c_sta ⟨w0,M,(100060,g5,rowO l122 T7 5)::H,R,φ⟩ (fun _ h=>h)<|c_region<|g_v rfl r_move<|g_v rfl (r_add rfl rfl rfl)<|g_v rfl r_assign<|g_nil ?_
     obtain ⟨n123,hn123,hlp⟩:=nx_inl hm hnx2
     exact d_round (n123,l122,w64 (i79 + 1)) ⟨hlp,((setAt_lenE hl122).trans hl78)⟩ hn123 ⟨rfl,rfl,trivial⟩ (fun W h=>h.phi (fun W hφ=>hφ))
    replace hm:=ite_f hm (of_decide_eq_false h113)
    refine c_skip<|d_normal_block<|d_then<|c_region<|g_v rfl r_move<|g_v rfl (r_add rfl rfl rfl)<|g_v rfl r_assign<|g_nil ?_
    obtain ⟨n124,hn124,hlp⟩:=nx_inl hm hnx2
    exact d_round (n124,l78,w64 (i79 + 1)) ⟨hlp,hl78⟩ hn124 ⟨rfl,rfl,trivial⟩ (fun W h=>h.phi (fun W hφ=>hφ))
   replace hm:=ite_f hm (of_decide_eq_false h108)
   iterate 4 refine g_no rfl rfl rfl rfl rfl h108 ?_
   refine g_v rfl (r_pick0 rfl h108)<|g_nil<|d_then ?_
   refine c_flat [(3,.slice (some ⟨g5,0,none⟩) ((bytesI p0).length) c6),(4,.int .i64 i79),(24,.bool false)] ⟨rfl,rfl,rfl,trivial⟩ (fun u=>?_)
   refine c_cond0 rfl rfl<|c_skip<|d_normal_block<|d_then<|c_region<|g_v rfl r_move<|g_v rfl (r_add rfl rfl rfl)<|g_v rfl r_assign<|g_nil ?_
   obtain ⟨n125,hn125,hlp⟩:=nx_inl hm hnx2
   exact d_round (n125,l78,w64 (i79 + 1)) ⟨hlp,hl78⟩ hn125 ⟨rfl,rfl,trivial⟩ (fun W h=>h.phi (fun W hφ=>hφ))
  replace hm:=ite_f hm (of_decide_eq_false h103)
  refine c_exit<|d_exit_then<|d_exit_then<|d_exit_block ?_
  replace hm:=nx_out (C:=(fun e : (List Int)=>m_ref03_Lower_j1 e = some r)) hm hnx2 hr2
  exact d_round l78 ⟨hm,hl78⟩ Nat.zero_lt_one ⟨rfl,trivial⟩ (fun W h=>h.phi (fun W hφ=>hφ))
 unfold m_ref03_Lower_j1 at hm
 refine d_flat [(3,.slice (some ⟨g5,0,none⟩) ((bytesI p0).length) c6)] ⟨rfl,trivial⟩ (fun u=>?_)
 refine d_sta ⟨w0,M,(100060,g5,rowO l55 T7 5)::H,R,φ⟩ (fun _ h=>h)<|d_then<|c_seq<|c_region<|g_v rfl r_move<|g_v rfl (r_textN hl55 Try.underlying91 Try.underlying5 Try.underlying9 rfl (hrowCl (tag:=100060) rfl))<|g_v rfl r_assign<|g_nil<|d_then<|c_ret ?_
 cases hm
 exact d_retC () Try.results109 (res_tmp (res_nil rfl)) trivial (fun W h=>ok_pre (H1:=[_]) (R1:=[]) h (fun W hφ=>hφ)) (.inr rfl)
noncomputable def m_ref03_Shared_j1  (i107 : Int) : Option Int:=
  some i107
noncomputable def m_ref03_Shared_s2 (x1 : List ByteArray) (x8 : List ByteArray) (i152 : Int) : Option (Int ⊕ Int):=
  if i152 < (x1.length : Int) then
    if i152 < (x8.length : Int) then
      (at_ x1 (w64 ((w64 ((x1.length : Int) - 1)) - i152))).bind fun x228=>
      (at_ x8 (w64 ((w64 ((x8.length : Int) - 1)) - i152))).bind fun x232=>
      (m_ref03_Lower x228).bind fun x236=>
      (m_ref03_Lower x232).bind fun x238=>
      if x236 = x238 then
        some (.inl (w64 (i152 + 1)))
      else
        some (.inr i152)
    else
      some (.inr i152)
  else
    some (.inr i152)
noncomputable def m_ref03_Shared (p0 : ByteArray) (p1 : ByteArray) : Option Int:=
  (m_ref03_Labels p0).bind fun (z7 : (List ByteArray)×Int)=>
  (m_ref03_Labels p1).bind fun (z14 : (List ByteArray)×Int)=>
  if z7.2 ≠ 0 then
    some (-1)
  else
    if z14.2 ≠ 0 then
      some (-1)
    else
      (loop (fun s=>m_ref03_Shared_s2 z7.1 z14.1 s) 0).bind fun e=>m_ref03_Shared_j1 e
theorem c_ref03_Shared {w0 : World} {M : Nat→Prop} {H : List (Nat×Nat×Obj)} {R : List (Nat×Row)} {φ : World→Prop} (p0 : ByteArray) (p1 : ByteArray) (r : Int) (hm : m_ref03_Shared p0 p1 = some r) :
    Cn Try.prog 95 #[.string p0,.string p1] ⟨w0,M,H,R,φ⟩ (fun x : Unit=>.int .i64 r) (fun x=>True) (fun x=>⟨w0,M,H,R,φ⟩):=by
 unfold m_ref03_Shared at hm
 refine cn_intro (fn:=Try.f95) (N:=60) Try.func95 rfl Try.ntmps95 rfl<|c_seq<|c_region<|g_v rfl r_assign<|g_nil<|d_then<|c_seq<|c_region<|g_v rfl r_move ?_
 replace hm:=bnd hm
 obtain ⟨⟨x1,x2⟩,hx3,hm⟩:=hm
 refine g_cn ⟨w0,M,_,_,φ⟩ (fun _ h=>h) Try.call108 rfl rfl (c_ref03_Labels p0 _ hx3) (fun ⟨A4,c5⟩ hc5=>?_)
 refine g_sta _ (fun W h=>(ok_frontR (t:=2000) (t':=100120) h rfl))<|g_v rfl r_move<|g_v rfl (r_extract rfl rfl)<|g_v rfl (r_extract rfl rfl)<|g_v rfl r_assign<|g_v rfl r_assign<|g_nil<|d_then<|c_seq<|c_region ?_
 refine g_v rfl r_move ?_
 replace hm:=bnd hm
 obtain ⟨⟨x8,x9⟩,hx10,hm⟩:=hm
 refine g_cn ⟨w0,M,_,_,φ⟩ (fun _ h=>h) Try.call108 rfl rfl (c_ref03_Labels p1 _ hx10) (fun ⟨A11,c12⟩ hc12=>?_)
 refine g_sta _ (fun W h=>(ok_frontR (t:=2000) (t':=100170) h rfl))<|g_v rfl r_move<|g_v rfl (r_extract rfl rfl)<|g_v rfl (r_extract rfl rfl)<|g_v rfl r_assign<|g_v rfl r_assign<|g_nil<|d_then ?_
 refine c_flat [(5,.slice A4 x1.length c5),(6,.int .i64 x2),(7,.slice A11 x8.length c12),(8,.int .i64 x9)] ⟨rfl,rfl,rfl,rfl,trivial⟩ (fun u=>?_)
 refine c_sta ⟨w0,M,H,(100170,⟨.slice A11 x8.length c12,9,1,x8.length,x8.flatMap (fun x : ByteArray=>[Value.string x])⟩)::(100120,⟨.slice A4 x1.length c5,9,1,x1.length,x1.flatMap (fun x : ByteArray=>[Value.string x])⟩)::R,φ⟩ (fun _ h=>h)<|c_seq<|c_seq<|c_region<|g_v rfl r_move<|g_v rfl (r_neq rfl rfl)<|g_v rfl r_move ?_
 refine g_if rfl rfl rfl rfl rfl (fun h15=>?_) (fun h15=>?_)
 ·
  replace hm:=ite_f hm (of_decide_eq_false h15)
  refine g_v rfl r_move<|g_do rfl rfl rfl rfl rfl h15<|g_v rfl (r_neq rfl rfl)<|g_v rfl (r_pick0 rfl h15)<|g_nil<|d_then ?_
  refine c_cond rfl (fun h16=>?_) (fun h16=>?_)
  ·
   replace hm:=ite_t hm (of_decide_eq_true h16)
   refine c_seq<|c_region<|g_v rfl r_assign<|g_nil<|d_then<|c_ret<|d_ret_then ?_
   cases hm
   exact d_retC () Try.results95 (res_tmp (res_nil rfl)) trivial (fun W h=>ok_pre (H1:=[]) (R1:=[_,_]) h (fun W hφ=>hφ)) (.inr rfl)
  replace hm:=ite_f hm (of_decide_eq_false h16)
  refine c_skip<|d_then<|c_seq<|c_region<|g_v rfl r_assign<|g_nil<|d_then<|c_seq ?_
  refine c_cut (ι:=Int) [9] (fun i107=>[(9,.int .i64 i107)]) (fun i107=>⟨w0,M,H,R,φ⟩) (fun i107=>m_ref03_Shared_j1 i107 = some r) ?_ (fun i107 u hm=>?_)
  ·
   refine c_block ?_
   replace hm:=bnd hm
   obtain ⟨out2,hl2,hr2⟩:=hm
   obtain ⟨n197',hl2⟩:=loop_lp hl2
   refine c_loopU (ι:=Nat×Int) [5,7,9] (fun ⟨n197,i152⟩=>[(9,.int .i64 i152)]) (fun ⟨n197,i152⟩=>⟨w0,M,H,(100170,⟨.slice A11 x8.length c12,9,1,x8.length,x8.flatMap (fun x : ByteArray=>[Value.string x])⟩)::(100120,⟨.slice A4 x1.length c5,9,1,x1.length,x1.flatMap (fun x : ByteArray=>[Value.string x])⟩)::R,φ⟩) (fun ⟨n197,i152⟩=>Lp (fun s=>m_ref03_Shared_s2 x1 x8 s) n197 i152 out2) (fun ⟨n197,i152⟩=>n197) (n197',0) hl2 ⟨rfl,rfl,rfl,trivial⟩ (fun W h=>h.phi (fun W hφ=>hφ)) (fun ⟨n197,i152⟩ u hlp=>?_)
   obtain ⟨o2,hm,hnx2⟩:=lp_step hlp
   clear hlp
   replace hm : m_ref03_Shared_s2 x1 x8 i152 = some o2:=hm
   unfold m_ref03_Shared_s2 at hm
   refine c_flat [(5,.slice A4 x1.length c5),(7,.slice A11 x8.length c12),(9,.int .i64 i152)] ⟨rfl,rfl,rfl,trivial⟩ (fun u=>?_)
   refine c_seq<|c_seq<|ga_start (n:=31) ⟨w0,M,H,(100170,⟨.slice A11 x8.length c12,9,1,x8.length,x8.flatMap (fun x : ByteArray=>[Value.string x])⟩)::(100120,⟨.slice A4 x1.length c5,9,1,x1.length,x1.flatMap (fun x : ByteArray=>[Value.string x])⟩)::R,φ⟩ [] #[false,false,false,false,false,false,false,false,false,false,false,false,false,false,false,false,false,false,false,false,false,false,false,false,false,false,false,false,false,false,false] (fun W h=>h.phi (fun W hφ=>hφ)) mixed rfl rfl<|ga_v (i:=0) (bz 31 1) rfl (by kernel_rfl) (fun _ _ _ _ h=>h) rfl (r_move)<|ga_r (i:=1) (bz 31 3) rfl (by kernel_rfl) (by decide) rfl (r_move)<|ga_r (i:=2) (bz 31 7) rfl (by kernel_rfl) (by decide) rfl (r_lenL Try.underlying125 rfl)<|ga_r (i:=3) (bz 31 15) rfl (by kernel_rfl) (by decide) rfl (r_lss rfl rfl)<|ga_r (i:=4) (bz 31 31) rfl (by kernel_rfl) (by decide) rfl (r_move) ?_
   refine ga_if (t:=30) rfl (fun h226=>?_) (fun h226=>?_)
   ·
    replace hm:=ite_t hm (of_decide_eq_true h226)
    refine ga_do (i:=5) (bz 31 63) rfl (by kernel_rfl) (fun _ _ _ _ h=>h) rfl rfl rfl rfl rfl h226 (r_move)<|ga_rG (i:=6) (bz 31 127) rfl (by kernel_rfl) (by decide) rfl rfl rfl rfl rfl h226 (r_move)<|ga_rG (i:=7) (bz 31 255) rfl (by kernel_rfl) (by decide) rfl rfl rfl rfl rfl h226 (r_lenL Try.underlying125 rfl)<|ga_rG (i:=8) (bz 31 511) rfl (by kernel_rfl) (by decide) rfl rfl rfl rfl rfl h226 (r_lss rfl rfl)<|ga_r (i:=9) (bz 31 1023) rfl (by kernel_rfl) (by decide) rfl (r_pick1 rfl h226)<|ga_r (i:=10) (bz 31 2047) rfl (by kernel_rfl) (by decide) rfl (r_move) ?_
    refine ga_if (t:=36) rfl (fun h227=>?_) (fun h227=>?_)
    ·
     replace hm:=ite_t hm (of_decide_eq_true h227)
     refine ga_do (i:=11) (bz 31 4095) rfl (by kernel_rfl) (fun _ _ _ _ h=>h) rfl rfl rfl rfl rfl h227 (r_move)<|ga_do (i:=12) (bz 31 8191) rfl (by kernel_rfl) (fun _ _ _ _ h=>h) rfl rfl rfl rfl rfl h227 (r_move)<|ga_do (i:=13) (bz 31 16383) rfl (by kernel_rfl) (fun _ _ _ _ h=>h) rfl rfl rfl rfl rfl h227 (r_lenL Try.underlying125 rfl)<|ga_do (i:=14) (bz 31 32767) rfl (by kernel_rfl) (fun _ _ _ _ h=>h) rfl rfl rfl rfl rfl h227 (r_sub rfl rfl rfl)<|ga_do (i:=15) (bz 31 65535) rfl (by kernel_rfl) (fun _ _ _ _ h=>h) rfl rfl rfl rfl rfl h227 (r_move)<|ga_do (i:=16) (bz 31 131071) rfl (by kernel_rfl) (fun _ _ _ _ h=>h) rfl rfl rfl rfl rfl h227 (r_sub rfl rfl rfl) ?_
     replace hm:=bnd hm
     obtain ⟨x228,hx228,hm⟩:=hm
     refine ga_know _ (fun W hS=>cl_at (p:=(Sta.ok ⟨w0,M,H,(100170,⟨.slice A11 x8.length c12,9,1,x8.length,x8.flatMap (fun x : ByteArray=>[Value.string x])⟩)::(100120,⟨.slice A4 x1.length c5,9,1,x1.length,x1.flatMap (fun x : ByteArray=>[Value.string x])⟩)::R,φ⟩)) (sz:=1) (fun _=>rfl) (by decide) (hS.phi (fun W hφ=>hφ)) (fun W hS=>rowCl (S:=⟨w0,M,H,(100170,⟨.slice A11 x8.length c12,9,1,x8.length,x8.flatMap (fun x : ByteArray=>[Value.string x])⟩)::(100120,⟨.slice A4 x1.length c5,9,1,x1.length,x1.flatMap (fun x : ByteArray=>[Value.string x])⟩)::R,φ⟩) (tag:=100120) rfl W hS) hx228) ?_
     rintro ⟨ad229,hA231,f230⟩
     refine ga_do (i:=17) (bz 31 262143) rfl (by kernel_rfl) (fun _ _ _ _ h=>h) rfl rfl rfl rfl rfl h227 (r_ix Try.underlying125 Try.sizeOf9 rfl hA231 rfl hx228)<|ga_do (i:=18) (bz 31 524287) rfl (by kernel_rfl) (fun _ _ _ _ h=>h) rfl rfl rfl rfl rfl h227 (r_ld rfl Try.isAgg9 (fun W hS=>Cl.head (f230 W hS)))<|ga_do (i:=20) (bz 31 1572863) rfl (by kernel_rfl) (fun _ _ _ _ h=>h) rfl rfl rfl rfl rfl h227 (r_move)<|ga_do (i:=21) (bz 31 3670015) rfl (by kernel_rfl) (fun _ _ _ _ h=>h) rfl rfl rfl rfl rfl h227 (r_move)<|ga_do (i:=22) (bz 31 7864319) rfl (by kernel_rfl) (fun _ _ _ _ h=>h) rfl rfl rfl rfl rfl h227 (r_lenL Try.underlying125 rfl)<|ga_do (i:=23) (bz 31 16252927) rfl (by kernel_rfl) (fun _ _ _ _ h=>h) rfl rfl rfl rfl rfl h227 (r_sub rfl rfl rfl)<|ga_do (i:=24) (bz 31 33030143) rfl (by kernel_rfl) (fun _ _ _ _ h=>h) rfl rfl rfl rfl rfl h227 (r_move)<|ga_do (i:=25) (bz 31 66584575) rfl (by kernel_rfl) (fun _ _ _ _ h=>h) rfl rfl rfl rfl rfl h227 (r_sub rfl rfl rfl) ?_
     replace hm:=bnd hm
     obtain ⟨x232,hx232,hm⟩:=hm
     refine ga_know _ (fun W hS=>cl_at (p:=(Sta.ok ⟨w0,M,H,(100170,⟨.slice A11 x8.length c12,9,1,x8.length,x8.flatMap (fun x : ByteArray=>[Value.string x])⟩)::(100120,⟨.slice A4 x1.length c5,9,1,x1.length,x1.flatMap (fun x : ByteArray=>[Value.string x])⟩)::R,φ⟩)) (sz:=1) (fun _=>rfl) (by decide) (hS.phi (fun W hφ=>hφ)) (fun W hS=>rowCl (S:=⟨w0,M,H,(100170,⟨.slice A11 x8.length c12,9,1,x8.length,x8.flatMap (fun x : ByteArray=>[Value.string x])⟩)::(100120,⟨.slice A4 x1.length c5,9,1,x1.length,x1.flatMap (fun x : ByteArray=>[Value.string x])⟩)::R,φ⟩) (tag:=100170) rfl W hS) hx232) ?_
     rintro ⟨ad233,hA235,f234⟩
     refine ga_do (i:=26) (bz 31 133693439) rfl (by kernel_rfl) (fun _ _ _ _ h=>h) rfl rfl rfl rfl rfl h227 (r_ix Try.underlying125 Try.sizeOf9 rfl hA235 rfl hx232)<|ga_do (i:=27) (bz 31 267911167) rfl (by kernel_rfl) (fun _ _ _ _ h=>h) rfl rfl rfl rfl rfl h227 (r_ld rfl Try.isAgg9 (fun W hS=>Cl.head (f234 W hS))) ?_
     replace hm:=bnd hm
     obtain ⟨x236,hx237,hm⟩:=hm
     refine ga_cnG (first:=#[]) (i:=19) (bz 31 268435455) rfl (by kernel_rfl) (by decide) rfl rfl rfl rfl h227  ⟨w0,M,_,_,φ⟩ (fun _ h=>h) Try.call109 rfl rfl rfl (c_ref03_Lower x228 _ hx237) (fun _ W _ h=>h.phi (fun W hφ=>hφ)) (fun _ _=>?_)
     replace hm:=bnd hm
     obtain ⟨x238,hx239,hm⟩:=hm
     refine ga_cnG (first:=#[]) (i:=28) (bz 31 536870911) rfl (by kernel_rfl) (by decide) rfl rfl rfl rfl h227  ⟨w0,M,_,_,φ⟩ (fun _ h=>h) Try.call109 rfl rfl rfl (c_ref03_Lower x232 _ hx239) (fun _ W _ h=>h.phi (fun W hφ=>hφ)) (fun _ _=>?_)
     refine ga_rG (i:=29) (bz 31 1073741823) rfl (by kernel_rfl) (by decide) rfl rfl rfl rfl rfl h227 (r_eqlT rfl rfl)<|ga_r (i:=30) (bz 31 2147483647) rfl (by kernel_rfl) (by decide) rfl (r_pick1 rfl h227)<|ga_done (by kernel_rfl)<|d_then ?_
     refine c_flat [(5,.slice A4 x1.length c5),(7,.slice A11 x8.length c12),(9,.int .i64 i152),(56,.bool (decide (x236 = x238)))] ⟨rfl,rfl,rfl,rfl,trivial⟩ (fun u=>?_)
     refine c_cond rfl (fun h240=>?_) (fun h240=>?_)
     ·
      replace hm:=ite_t hm (of_decide_eq_true h240)
      refine c_skip<|d_then<|c_block<|c_region<|g_v rfl r_move<|g_v rfl (r_add rfl rfl rfl)<|g_v rfl r_assign<|g_nil<|d_normal_block ?_
      obtain ⟨n241,hn241,hlp⟩:=nx_inl hm hnx2
      exact d_round (n241,w64 (i152 + 1)) hlp hn241 ⟨rfl,rfl,rfl,trivial⟩ (fun W h=>h.phi (fun W hφ=>hφ))
     replace hm:=ite_f hm (of_decide_eq_false h240)
     refine c_exit<|d_exit_then<|d_exit_then<|d_exit_block ?_
     replace hm:=nx_out (C:=(fun e : Int=>m_ref03_Shared_j1 e = some r)) hm hnx2 hr2
     exact d_round i152 hm Nat.zero_lt_one ⟨rfl,trivial⟩ (fun W h=>((h.dropR (t:=100170) rfl).dropR (t:=100120) rfl).phi (fun W hφ=>hφ))
    replace hm:=ite_f hm (of_decide_eq_false h227)
    refine ga_no (i:=11) (bz 31 4095) rfl (by kernel_rfl) (fun _ _ _ _ h=>h) rfl rfl rfl rfl rfl h227<|ga_no (i:=12) (bz 31 8191) rfl (by kernel_rfl) (fun _ _ _ _ h=>h) rfl rfl rfl rfl rfl h227<|ga_no (i:=13) (bz 31 16383) rfl (by kernel_rfl) (fun _ _ _ _ h=>h) rfl rfl rfl rfl rfl h227<|ga_no (i:=14) (bz 31 32767) rfl (by kernel_rfl) (fun _ _ _ _ h=>h) rfl rfl rfl rfl rfl h227<|ga_no (i:=15) (bz 31 65535) rfl (by kernel_rfl) (fun _ _ _ _ h=>h) rfl rfl rfl rfl rfl h227<|ga_no (i:=16) (bz 31 131071) rfl (by kernel_rfl) (fun _ _ _ _ h=>h) rfl rfl rfl rfl rfl h227<|ga_no (i:=17) (bz 31 262143) rfl (by kernel_rfl) (fun _ _ _ _ h=>h) rfl rfl rfl rfl rfl h227<|ga_no (i:=18) (bz 31 524287) rfl (by kernel_rfl) (fun _ _ _ _ h=>h) rfl rfl rfl rfl rfl h227<|ga_no (i:=19) (bz 31 1048575) rfl (by kernel_rfl) (fun _ _ _ _ h=>h) rfl rfl rfl rfl rfl h227<|ga_no (i:=20) (bz 31 2097151) rfl (by kernel_rfl) (fun _ _ _ _ h=>h) rfl rfl rfl rfl rfl h227 ?_
    refine ga_no (i:=21) (bz 31 4194303) rfl (by kernel_rfl) (fun _ _ _ _ h=>h) rfl rfl rfl rfl rfl h227<|ga_no (i:=22) (bz 31 8388607) rfl (by kernel_rfl) (fun _ _ _ _ h=>h) rfl rfl rfl rfl rfl h227<|ga_no (i:=23) (bz 31 16777215) rfl (by kernel_rfl) (fun _ _ _ _ h=>h) rfl rfl rfl rfl rfl h227<|ga_no (i:=24) (bz 31 33554431) rfl (by kernel_rfl) (fun _ _ _ _ h=>h) rfl rfl rfl rfl rfl h227<|ga_no (i:=25) (bz 31 67108863) rfl (by kernel_rfl) (fun _ _ _ _ h=>h) rfl rfl rfl rfl rfl h227<|ga_no (i:=26) (bz 31 134217727) rfl (by kernel_rfl) (fun _ _ _ _ h=>h) rfl rfl rfl rfl rfl h227<|ga_no (i:=27) (bz 31 268435455) rfl (by kernel_rfl) (fun _ _ _ _ h=>h) rfl rfl rfl rfl rfl h227<|ga_no (i:=28) (bz 31 536870911) rfl (by kernel_rfl) (fun _ _ _ _ h=>h) rfl rfl rfl rfl rfl h227<|ga_no (i:=29) (bz 31 1073741823) rfl (by kernel_rfl) (fun _ _ _ _ h=>h) rfl rfl rfl rfl rfl h227<|ga_r (i:=30) (bz 31 2147483647) rfl (by kernel_rfl) (by decide) rfl (r_pick0 rfl h227) ?_
    refine ga_done (by kernel_rfl)<|d_then ?_
    refine c_flat [(5,.slice A4 x1.length c5),(7,.slice A11 x8.length c12),(9,.int .i64 i152),(56,.bool false)] ⟨rfl,rfl,rfl,rfl,trivial⟩ (fun u=>?_)
    refine c_cond0 rfl rfl<|c_exit<|d_exit_then<|d_exit_then<|d_exit_block ?_
    replace hm:=nx_out (C:=(fun e : Int=>m_ref03_Shared_j1 e = some r)) hm hnx2 hr2
    exact d_round i152 hm Nat.zero_lt_one ⟨rfl,trivial⟩ (fun W h=>((h.dropR (t:=100170) rfl).dropR (t:=100120) rfl).phi (fun W hφ=>hφ))
   replace hm:=ite_f hm (of_decide_eq_false h226)
   refine ga_no (i:=5) (bz 31 63) rfl (by kernel_rfl) (fun _ _ _ _ h=>h) rfl rfl rfl rfl rfl h226<|ga_no (i:=6) (bz 31 127) rfl (by kernel_rfl) (fun _ _ _ _ h=>h) rfl rfl rfl rfl rfl h226<|ga_no (i:=7) (bz 31 255) rfl (by kernel_rfl) (fun _ _ _ _ h=>h) rfl rfl rfl rfl rfl h226<|ga_no (i:=8) (bz 31 511) rfl (by kernel_rfl) (fun _ _ _ _ h=>h) rfl rfl rfl rfl rfl h226<|ga_r (i:=9) (bz 31 1023) rfl (by kernel_rfl) (by decide) rfl (r_pick0 rfl h226)<|ga_r (i:=10) (bz 31 2047) rfl (by kernel_rfl) (by decide) rfl (r_move)<|ga_no (i:=11) (bz 31 4095) rfl (by kernel_rfl) (fun _ _ _ _ h=>h) rfl rfl rfl rfl rfl rfl<|ga_no (i:=12) (bz 31 8191) rfl (by kernel_rfl) (fun _ _ _ _ h=>h) rfl rfl rfl rfl rfl rfl<|ga_no (i:=13) (bz 31 16383) rfl (by kernel_rfl) (fun _ _ _ _ h=>h) rfl rfl rfl rfl rfl rfl<|ga_no (i:=14) (bz 31 32767) rfl (by kernel_rfl) (fun _ _ _ _ h=>h) rfl rfl rfl rfl rfl rfl ?_
   refine ga_no (i:=15) (bz 31 65535) rfl (by kernel_rfl) (fun _ _ _ _ h=>h) rfl rfl rfl rfl rfl rfl<|ga_no (i:=16) (bz 31 131071) rfl (by kernel_rfl) (fun _ _ _ _ h=>h) rfl rfl rfl rfl rfl rfl<|ga_no (i:=17) (bz 31 262143) rfl (by kernel_rfl) (fun _ _ _ _ h=>h) rfl rfl rfl rfl rfl rfl<|ga_no (i:=18) (bz 31 524287) rfl (by kernel_rfl) (fun _ _ _ _ h=>h) rfl rfl rfl rfl rfl rfl<|ga_no (i:=19) (bz 31 1048575) rfl (by kernel_rfl) (fun _ _ _ _ h=>h) rfl rfl rfl rfl rfl rfl<|ga_no (i:=20) (bz 31 2097151) rfl (by kernel_rfl) (fun _ _ _ _ h=>h) rfl rfl rfl rfl rfl rfl<|ga_no (i:=21) (bz 31 4194303) rfl (by kernel_rfl) (fun _ _ _ _ h=>h) rfl rfl rfl rfl rfl rfl<|ga_no (i:=22) (bz 31 8388607) rfl (by kernel_rfl) (fun _ _ _ _ h=>h) rfl rfl rfl rfl rfl rfl<|ga_no (i:=23) (bz 31 16777215) rfl (by kernel_rfl) (fun _ _ _ _ h=>h) rfl rfl rfl rfl rfl rfl<|ga_no (i:=24) (bz 31 33554431) rfl (by kernel_rfl) (fun _ _ _ _ h=>h) rfl rfl rfl rfl rfl rfl ?_
   refine ga_no (i:=25) (bz 31 67108863) rfl (by kernel_rfl) (fun _ _ _ _ h=>h) rfl rfl rfl rfl rfl rfl<|ga_no (i:=26) (bz 31 134217727) rfl (by kernel_rfl) (fun _ _ _ _ h=>h) rfl rfl rfl rfl rfl rfl<|ga_no (i:=27) (bz 31 268435455) rfl (by kernel_rfl) (fun _ _ _ _ h=>h) rfl rfl rfl rfl rfl rfl<|ga_no (i:=28) (bz 31 536870911) rfl (by kernel_rfl) (fun _ _ _ _ h=>h) rfl rfl rfl rfl rfl rfl<|ga_no (i:=29) (bz 31 1073741823) rfl (by kernel_rfl) (fun _ _ _ _ h=>h) rfl rfl rfl rfl rfl rfl<|ga_r (i:=30) (bz 31 2147483647) rfl (by kernel_rfl) (by decide) rfl (r_pick0 rfl rfl)<|ga_done (by kernel_rfl)<|d_then<|c_cond0 rfl rfl<|c_exit ?_
   refine d_exit_then<|d_exit_then<|d_exit_block ?_
   replace hm:=nx_out (C:=(fun e : Int=>m_ref03_Shared_j1 e = some r)) hm hnx2 hr2
   exact d_round i152 hm Nat.zero_lt_one ⟨rfl,trivial⟩ (fun W h=>((h.dropR (t:=100170) rfl).dropR (t:=100120) rfl).phi (fun W hφ=>hφ))
  unfold m_ref03_Shared_j1 at hm
  refine d_flat [(9,.int .i64 i107)] ⟨rfl,trivial⟩ (fun u=>?_)
  refine d_sta ⟨w0,M,H,R,φ⟩ (fun _ h=>h)<|d_then<|c_seq<|c_region<|g_v rfl r_move<|g_v rfl r_assign<|g_nil<|d_then<|c_ret ?_
  cases hm
  exact d_retC () Try.results95 (res_tmp (res_nil rfl)) trivial (fun W h=>ok_pre (H1:=[]) (R1:=[]) h (fun W hφ=>hφ)) (.inr rfl)
 replace hm:=ite_t hm (of_decide_eq_true h15)
 refine g_no rfl rfl rfl rfl rfl h15<|g_v rfl (r_pick1 rfl h15)<|g_nil<|d_then<|c_cond1 rfl rfl<|c_seq<|c_region<|g_v rfl r_assign<|g_nil<|d_then ?_
 refine c_ret<|d_ret_then ?_
 cases hm
 exact d_retC () Try.results95 (res_tmp (res_nil rfl)) trivial (fun W h=>ok_pre (H1:=[]) (R1:=[_,_]) h (fun W hφ=>hφ)) (.inr rfl)
noncomputable def m_ref03_Depth (p0 : ByteArray) : Option Int:=
  (m_ref03_Labels p0).bind fun (z7 : (List ByteArray)×Int)=>
  if z7.2 ≠ 0 then
    some (-1)
  else
    some (z7.1.length : Int)
theorem c_ref03_Depth {w0 : World} {M : Nat→Prop} {H : List (Nat×Nat×Obj)} {R : List (Nat×Row)} {φ : World→Prop} (p0 : ByteArray) (r : Int) (hm : m_ref03_Depth p0 = some r) :
    Cn Try.prog 96 #[.string p0] ⟨w0,M,H,R,φ⟩ (fun x : Unit=>.int .i64 r) (fun x=>True) (fun x=>⟨w0,M,H,R,φ⟩):=by
 unfold m_ref03_Depth at hm
 refine cn_intro (fn:=Try.f96) (N:=14) Try.func96 rfl Try.ntmps96 rfl<|c_seq<|c_region<|g_v rfl r_assign<|g_nil<|d_then<|c_seq<|c_region<|g_v rfl r_move ?_
 replace hm:=bnd hm
 obtain ⟨⟨x1,x2⟩,hx3,hm⟩:=hm
 refine g_cn ⟨w0,M,_,_,φ⟩ (fun _ h=>h) Try.call108 rfl rfl (c_ref03_Labels p0 _ hx3) (fun ⟨A4,c5⟩ hc5=>?_)
 refine g_sta _ (fun W h=>(ok_frontR (t:=2000) (t':=100070) h rfl))<|g_v rfl r_move<|g_v rfl (r_extract rfl rfl)<|g_v rfl (r_extract rfl rfl)<|g_v rfl r_assign<|g_v rfl r_assign<|g_nil<|d_then<|c_seq<|c_seq ?_
 refine c_region<|g_v rfl r_move<|g_v rfl (r_neq rfl rfl)<|g_nil<|d_then ?_
 refine c_flat [(3,.slice A4 x1.length c5),(11,.bool (decide (x2 ≠ 0)))] ⟨rfl,rfl,trivial⟩ (fun u=>?_)
 refine c_sta ⟨w0,M,H,(100070,⟨.slice A4 x1.length c5,9,1,x1.length,x1.flatMap (fun x : ByteArray=>[Value.string x])⟩)::R,φ⟩ (fun _ h=>h) ?_
 refine c_cond rfl (fun h8=>?_) (fun h8=>?_)
 ·
  replace hm:=ite_t hm (of_decide_eq_true h8)
  refine c_seq<|c_region<|g_v rfl r_assign<|g_nil<|d_then<|c_ret<|d_ret_then ?_
  cases hm
  exact d_retC () Try.results96 (res_tmp (res_nil rfl)) trivial (fun W h=>ok_pre (H1:=[]) (R1:=[_]) h (fun W hφ=>hφ)) (.inr rfl)
 replace hm:=ite_f hm (of_decide_eq_false h8)
 refine c_skip<|d_then<|c_seq<|c_region<|g_v rfl r_move<|g_v rfl (r_lenL Try.underlying125 rfl)<|g_v rfl r_assign<|g_nil<|d_then<|c_ret ?_
 cases hm
 exact d_retC () Try.results96 (res_tmp (res_nil rfl)) trivial (fun W h=>ok_pre (H1:=[]) (R1:=[_]) h (fun W hφ=>hφ)) (.inr rfl)
noncomputable def m_ref03_Same (p0 : ByteArray) (p1 : ByteArray) : Option Bool:=
  (m_ref03_Shared p0 p1).bind fun x1=>
  if 0 ≤ x1 then
    (m_ref03_Depth p0).bind fun x4=>
    if x1 = x4 then
      (m_ref03_Depth p1).bind fun x7=>
      some (decide (x1 = x7))
    else
      some false
  else
    some false
theorem c_ref03_Same {w0 : World} {M : Nat→Prop} {H : List (Nat×Nat×Obj)} {R : List (Nat×Row)} {φ : World→Prop} (p0 : ByteArray) (p1 : ByteArray) (r : Bool) (hm : m_ref03_Same p0 p1 = some r) :
    Cn Try.prog 79 #[.string p0,.string p1] ⟨w0,M,H,R,φ⟩ (fun x : Unit=>.bool r) (fun x=>True) (fun x=>⟨w0,M,H,R,φ⟩):=by
 unfold m_ref03_Same at hm
 refine cn_intro (fn:=Try.f79) (N:=23) Try.func79 rfl Try.ntmps79 rfl<|c_seq<|c_region<|g_v rfl r_assign<|g_nil<|d_then<|c_seq<|c_region<|g_v rfl r_move<|g_v rfl r_move ?_
 replace hm:=bnd hm
 obtain ⟨x1,hx2,hm⟩:=hm
 refine g_cn ⟨w0,M,_,_,φ⟩ (fun _ h=>h) Try.call95 rfl rfl (c_ref03_Shared p0 p1 _ hx2) (fun _ _=>?_)
 refine g_v rfl r_assign<|g_nil<|d_then<|c_seq<|c_region<|g_v rfl r_move<|g_v rfl (r_geq rfl rfl)<|g_v rfl r_move ?_
 refine g_if rfl rfl rfl rfl rfl (fun h3=>?_) (fun h3=>?_)
 ·
  replace hm:=ite_t hm (of_decide_eq_true h3)
  refine g_v rfl r_move<|g_do rfl rfl rfl rfl rfl h3<|g_v rfl r_move<|g_do rfl rfl rfl rfl rfl h3 ?_
  replace hm:=bnd hm
  obtain ⟨x4,hx5,hm⟩:=hm
  refine g_cn ⟨w0,M,_,_,φ⟩ (fun _ h=>h) Try.call96 rfl rfl (c_ref03_Depth p0 _ hx5) (fun _ _=>?_)
  refine g_do rfl rfl rfl rfl rfl h3<|g_v rfl (r_eql rfl rfl)<|g_v rfl (r_pick1 rfl h3)<|g_v rfl r_move ?_
  refine g_if rfl rfl rfl rfl rfl (fun h6=>?_) (fun h6=>?_)
  ·
   replace hm:=ite_t hm (of_decide_eq_true h6)
   refine g_v rfl r_move<|g_do rfl rfl rfl rfl rfl h6<|g_v rfl r_move<|g_do rfl rfl rfl rfl rfl h6 ?_
   replace hm:=bnd hm
   obtain ⟨x7,hx8,hm⟩:=hm
   refine g_cn ⟨w0,M,_,_,φ⟩ (fun _ h=>h) Try.call96 rfl rfl (c_ref03_Depth p1 _ hx8) (fun _ _=>?_)
   refine g_do rfl rfl rfl rfl rfl h6<|g_v rfl (r_eql rfl rfl)<|g_v rfl (r_pick1 rfl h6)<|g_v rfl r_assign<|g_nil<|d_then ?_
   refine c_flat [(4,.bool (decide (x1 = x7)))] ⟨rfl,trivial⟩ (fun u=>?_)
   refine c_sta ⟨w0,M,H,R,φ⟩ (fun _ h=>h)<|c_ret ?_
   cases hm
   exact d_retC () Try.results79 (res_tmp (res_nil rfl)) trivial (fun W h=>ok_pre (H1:=[]) (R1:=[]) h (fun W hφ=>hφ)) (.inr rfl)
  replace hm:=ite_f hm (of_decide_eq_false h6)
  iterate 3 refine g_no rfl rfl rfl rfl rfl h6 ?_
  refine g_v rfl (r_pick0 rfl h6)<|g_v rfl r_assign<|g_nil<|d_then ?_
  refine c_flat [(4,.bool false)] ⟨rfl,trivial⟩ (fun u=>?_)
  refine c_sta ⟨w0,M,H,R,φ⟩ (fun _ h=>h)<|c_ret ?_
  cases hm
  exact d_retC () Try.results79 (res_tmp (res_nil rfl)) trivial (fun W h=>ok_pre (H1:=[]) (R1:=[]) h (fun W hφ=>hφ)) (.inr rfl)
 replace hm:=ite_f hm (of_decide_eq_false h3)
 iterate 3 refine g_no rfl rfl rfl rfl rfl h3 ?_
 refine g_v rfl (r_pick0 rfl h3)<|g_v rfl r_move ?_
 iterate 4 refine g_no rfl rfl rfl rfl rfl rfl ?_
 refine g_v rfl (r_pick0 rfl rfl)<|g_v rfl r_assign<|g_nil<|d_then ?_
 refine c_flat [(4,.bool false)] ⟨rfl,trivial⟩ (fun u=>?_)
 refine c_sta ⟨w0,M,H,R,φ⟩ (fun _ h=>h)<|c_ret ?_
 cases hm
 exact d_retC () Try.results79 (res_tmp (res_nil rfl)) trivial (fun W h=>ok_pre (H1:=[]) (R1:=[]) h (fun W hφ=>hφ)) (.inr rfl)
noncomputable def m_ref05_head_j1 (p0 : Int) (b3 : Bool) : Option (Int×Int×Int×Bool):=
  if b3 = true then
    some (0,1,0,true)
  else
    if p0 = 15 then
      some (2,1,0,true)
    else
      if p0 = 6 then
        some (0,2,20,true)
      else
        some (0,0,0,false)
noncomputable def m_ref05_head (p0 : Int) : Option (Int×Int×Int×Bool):=
  if p0 = 2 then
    m_ref05_head_j1 p0 (decide (p0 = 2))
  else
    if p0 = 5 then
      m_ref05_head_j1 p0 (decide (p0 = 5))
    else
      m_ref05_head_j1 p0 (decide (p0 = 12))
theorem c_ref05_head {w0 : World} {M : Nat→Prop} {H : List (Nat×Nat×Obj)} {R : List (Nat×Row)} {φ : World→Prop} (p0 : Int) (r : Int×Int×Int×Bool) (hm : m_ref05_head p0 = some r) :
    Cn Try.prog 110 #[.int .u16 p0] ⟨w0,M,H,R,φ⟩ (fun x : Unit=>.tuple #[.int .i64 r.1,.int .i64 r.2.1,.int .i64 r.2.2.1,.bool r.2.2.2]) (fun x=>True) (fun x=>⟨w0,M,H,R,φ⟩):=by
 unfold m_ref05_head at hm
 refine cn_intro (fn:=Try.f110) (N:=15) Try.func110 rfl Try.ntmps110 rfl<|c_seq<|c_region ?_
 iterate 4 refine g_v rfl r_assign ?_
 refine g_nil<|d_then<|c_seq<|c_seq<|c_region<|g_v rfl r_move<|g_nil<|d_then<|c_block<|c_seq ?_
 refine c_cut (ι:=Bool) [6,7] (fun b3=>[(7,.bool b3)]) (fun b3=>⟨w0,M,H,R,φ⟩) (fun b3=>m_ref05_head_j1 p0 b3 = some r) ?_ (fun b3 u hm=>?_)
 ·
  refine c_seq<|c_region<|g_v rfl (r_eql rfl rfl)<|g_v rfl r_assign<|g_nil<|d_then ?_
  refine c_cond rfl (fun h7=>?_) (fun h7=>?_)
  ·
   replace hm:=ite_t hm (of_decide_eq_true h7)
   refine c_skip ?_
   exact d_round (decide (p0 = 2)) hm Nat.zero_lt_one ⟨rfl,rfl,trivial⟩ (fun W h=>h.phi (fun W hφ=>hφ))
  replace hm:=ite_f hm (of_decide_eq_false h7)
  refine c_seq<|c_region<|g_v rfl (r_eql rfl rfl)<|g_v rfl r_assign<|g_nil<|d_then ?_
  refine c_flat [(6,.int .u16 p0),(7,.bool (decide (p0 = 5)))] ⟨rfl,rfl,trivial⟩ (fun u=>?_)
  refine c_sta ⟨w0,M,H,R,φ⟩ (fun _ h=>h) ?_
  refine c_cond rfl (fun h8=>?_) (fun h8=>?_)
  ·
   replace hm:=ite_t hm (of_decide_eq_true h8)
   refine c_skip ?_
   exact d_round (decide (p0 = 5)) hm Nat.zero_lt_one ⟨rfl,rfl,trivial⟩ (fun W h=>h.phi (fun W hφ=>hφ))
  replace hm:=ite_f hm (of_decide_eq_false h8)
  refine c_region<|g_v rfl (r_eql rfl rfl)<|g_v rfl r_assign<|g_nil ?_
  exact d_round (decide (p0 = 12)) hm Nat.zero_lt_one ⟨rfl,rfl,trivial⟩ (fun W h=>h.phi (fun W hφ=>hφ))
 unfold m_ref05_head_j1 at hm
 refine d_flat [(6,.int .u16 p0),(7,.bool b3)] ⟨rfl,rfl,trivial⟩ (fun u=>?_)
 refine d_sta ⟨w0,M,H,R,φ⟩ (fun _ h=>h)<|d_then ?_
 refine c_cond rfl (fun h4=>?_) (fun h4=>?_)
 ·
  replace hm:=ite_t hm h4
  refine c_seq<|c_region ?_
  iterate 4 refine g_v rfl r_assign ?_
  refine g_nil<|d_then<|c_ret<|d_ret_block<|d_ret_then ?_
  cases hm
  exact d_retC () Try.results110 (res_tmp (res_tmp (res_tmp (res_tmp (res_nil rfl))))) trivial (fun W h=>ok_pre (H1:=[]) (R1:=[]) h (fun W hφ=>hφ)) (.inr rfl)
 replace hm:=ite_f hm (bool_nt h4)
 refine c_seq<|c_region<|g_v rfl (r_eql rfl rfl)<|g_v rfl r_assign<|g_nil<|d_then ?_
 refine c_cond rfl (fun h5=>?_) (fun h5=>?_)
 ·
  replace hm:=ite_t hm (of_decide_eq_true h5)
  refine c_seq<|c_region ?_
  iterate 4 refine g_v rfl r_assign ?_
  refine g_nil<|d_then<|c_ret<|d_ret_block<|d_ret_then ?_
  cases hm
  exact d_retC () Try.results110 (res_tmp (res_tmp (res_tmp (res_tmp (res_nil rfl))))) trivial (fun W h=>ok_pre (H1:=[]) (R1:=[]) h (fun W hφ=>hφ)) (.inr rfl)
 replace hm:=ite_f hm (of_decide_eq_false h5)
 refine c_seq<|c_region<|g_v rfl (r_eql rfl rfl)<|g_v rfl r_assign<|g_nil<|d_then ?_
 refine c_cond rfl (fun h6=>?_) (fun h6=>?_)
 ·
  replace hm:=ite_t hm (of_decide_eq_true h6)
  refine c_seq<|c_region ?_
  iterate 4 refine g_v rfl r_assign ?_
  refine g_nil<|d_then<|c_ret<|d_ret_block<|d_ret_then ?_
  cases hm
  exact d_retC () Try.results110 (res_tmp (res_tmp (res_tmp (res_tmp (res_nil rfl))))) trivial (fun W h=>ok_pre (H1:=[]) (R1:=[]) h (fun W hφ=>hφ)) (.inr rfl)
 replace hm:=ite_f hm (of_decide_eq_false h6)
 refine c_skip<|d_normal_block<|d_then<|c_seq<|c_region ?_
 iterate 4 refine g_v rfl r_assign ?_
 refine g_nil<|d_then<|c_ret ?_
 cases hm
 exact d_retC () Try.results110 (res_tmp (res_tmp (res_tmp (res_tmp (res_nil rfl))))) trivial (fun W h=>ok_pre (H1:=[]) (R1:=[]) h (fun W hφ=>hφ)) (.inr rfl)
noncomputable def m_ref05_first_j1 (p0 : ByteArray) (i13 : Int) : Option (ByteArray×ByteArray×Bool):=
  if (p0.size : Int) ≤ i13 then
    some ((⟨#[]⟩ : ByteArray),(⟨#[]⟩ : ByteArray),false)
  else
    (scutHi p0 (w64 (i13 + 1))).bind fun s15=>
    (m_ref03_Check s15).bind fun x16=>
    if x16 ≠ 0 then
      some ((⟨#[]⟩ : ByteArray),(⟨#[]⟩ : ByteArray),false)
    else
      (scutHi p0 (w64 (i13 + 1))).bind fun s23=>
      (scutLo p0 (w64 (i13 + 1))).bind fun s24=>
      some (s23,s24,true)
noncomputable def m_ref05_first_s2 (p0 : ByteArray) (i30 : Int) : Option (Int ⊕ Int):=
  if i30 < (p0.size : Int) then
    (sat_ p0 i30).bind fun b38=>
    if b38 ≠ 0 then
      (sat_ p0 i30).bind fun b40=>
      some (.inl (w64 ((w64 (i30 + 1)) + (w64 b40))))
    else
      some (.inr i30)
  else
    some (.inr i30)
noncomputable def m_ref05_first (p0 : ByteArray) : Option (ByteArray×ByteArray×Bool):=
  (loop (fun s=>m_ref05_first_s2 p0 s) 0).bind fun e=>m_ref05_first_j1 p0 e
theorem c_ref05_first {w0 : World} {M : Nat→Prop} {H : List (Nat×Nat×Obj)} {R : List (Nat×Row)} {φ : World→Prop} (p0 : ByteArray) (r : ByteArray×ByteArray×Bool) (hm : m_ref05_first p0 = some r) :
    Cn Try.prog 115 #[.string p0] ⟨w0,M,H,R,φ⟩ (fun x : Unit=>.tuple #[.string r.1,.string r.2.1,.bool r.2.2]) (fun x=>True) (fun x=>⟨w0,M,H,R,φ⟩):=by
 unfold m_ref05_first at hm
 refine cn_intro (fn:=Try.f115) (N:=43) Try.func115 rfl Try.ntmps115 rfl<|c_seq<|c_region ?_
 iterate 3 refine g_v rfl r_assign ?_
 refine g_nil<|d_then<|c_seq<|c_region<|g_v rfl r_assign<|g_nil<|d_then<|c_seq ?_
 refine c_cut (ι:=Int) [0,5] (fun i13=>[(5,.int .i64 i13)]) (fun i13=>⟨w0,M,H,R,φ⟩) (fun i13=>m_ref05_first_j1 p0 i13 = some r) ?_ (fun i13 u hm=>?_)
 ·
  refine c_block ?_
  replace hm:=bnd hm
  obtain ⟨out2,hl2,hr2⟩:=hm
  obtain ⟨n36',hl2⟩:=loop_lp hl2
  refine c_loopU (ι:=Nat×Int) [0,5] (fun ⟨n36,i30⟩=>[(5,.int .i64 i30)]) (fun ⟨n36,i30⟩=>⟨w0,M,H,R,φ⟩) (fun ⟨n36,i30⟩=>Lp (fun s=>m_ref05_first_s2 p0 s) n36 i30 out2) (fun ⟨n36,i30⟩=>n36) (n36',0) hl2 ⟨rfl,rfl,trivial⟩ (fun W h=>h.phi (fun W hφ=>hφ)) (fun ⟨n36,i30⟩ u hlp=>?_)
  obtain ⟨o2,hm,hnx2⟩:=lp_step hlp
  clear hlp
  replace hm : m_ref05_first_s2 p0 i30 = some o2:=hm
  unfold m_ref05_first_s2 at hm
  refine c_flat [(0,.string p0),(5,.int .i64 i30)] ⟨rfl,rfl,trivial⟩ (fun u=>?_)
  refine c_sta ⟨w0,M,H,R,φ⟩ (fun _ h=>h)<|c_seq<|c_seq<|c_region<|g_v rfl r_move<|g_v rfl r_move<|g_v rfl (r_len Try.underlying9 rfl)<|g_v rfl (r_lss rfl rfl)<|g_v rfl r_move ?_
  refine g_if rfl rfl rfl rfl rfl (fun h37=>?_) (fun h37=>?_)
  ·
   replace hm:=ite_t hm (of_decide_eq_true h37)
   refine g_v rfl r_move<|g_do rfl rfl rfl rfl rfl h37<|g_v rfl r_move<|g_do rfl rfl rfl rfl rfl h37 ?_
   replace hm:=bnd hm
   obtain ⟨b38,hb38,hm⟩:=hm
   refine g_v rfl (r_sat Try.underlying9 rfl rfl hb38)<|g_do rfl rfl rfl rfl rfl h37<|g_v rfl (r_neq rfl rfl)<|g_v rfl (r_pick1 rfl h37)<|g_nil<|d_then ?_
   refine c_flat [(0,.string p0),(5,.int .i64 i30),(15,.bool (decide (b38 ≠ 0)))] ⟨rfl,rfl,rfl,trivial⟩ (fun u=>?_)
   refine c_cond rfl (fun h39=>?_) (fun h39=>?_)
   ·
    replace hm:=ite_t hm (of_decide_eq_true h39)
    refine c_skip<|d_then<|c_block<|c_region<|g_v rfl r_move<|g_v rfl (r_add rfl rfl rfl)<|g_v rfl r_move<|g_v rfl r_move ?_
    replace hm:=bnd hm
    obtain ⟨b40,hb40,hm⟩:=hm
    refine g_v rfl (r_sat Try.underlying9 rfl rfl hb40)<|g_v rfl (r_conv Try.underlying5 Try.underlying3 rfl rfl)<|g_v rfl (r_add rfl rfl rfl)<|g_v rfl r_assign<|g_nil<|d_normal_block ?_
    obtain ⟨n41,hn41,hlp⟩:=nx_inl hm hnx2
    exact d_round (n41,w64 ((w64 (i30 + 1)) + (w64 b40))) hlp hn41 ⟨rfl,rfl,trivial⟩ (fun W h=>h.phi (fun W hφ=>hφ))
   replace hm:=ite_f hm (of_decide_eq_false h39)
   refine c_exit<|d_exit_then<|d_exit_then<|d_exit_block ?_
   replace hm:=nx_out (C:=(fun e : Int=>m_ref05_first_j1 p0 e = some r)) hm hnx2 hr2
   exact d_round i30 hm Nat.zero_lt_one ⟨rfl,rfl,trivial⟩ (fun W h=>h.phi (fun W hφ=>hφ))
  replace hm:=ite_f hm (of_decide_eq_false h37)
  iterate 3 refine g_no rfl rfl rfl rfl rfl h37 ?_
  refine g_v rfl (r_pick0 rfl h37)<|g_nil<|d_then<|c_cond0 rfl rfl<|c_exit<|d_exit_then<|d_exit_then<|d_exit_block ?_
  replace hm:=nx_out (C:=(fun e : Int=>m_ref05_first_j1 p0 e = some r)) hm hnx2 hr2
  exact d_round i30 hm Nat.zero_lt_one ⟨rfl,rfl,trivial⟩ (fun W h=>h.phi (fun W hφ=>hφ))
 unfold m_ref05_first_j1 at hm
 refine d_flat [(0,.string p0),(5,.int .i64 i13)] ⟨rfl,rfl,trivial⟩ (fun u=>?_)
 refine d_sta ⟨w0,M,H,R,φ⟩ (fun _ h=>h)<|d_then<|c_seq<|c_seq<|c_region<|g_v rfl r_move<|g_v rfl r_move<|g_v rfl (r_len Try.underlying9 rfl)<|g_v rfl (r_geq rfl rfl)<|g_v rfl r_move ?_
 refine g_if rfl rfl rfl rfl rfl (fun h14=>?_) (fun h14=>?_)
 ·
  replace hm:=ite_f hm (of_decide_eq_false h14)
  refine g_v rfl r_move<|g_do rfl rfl rfl rfl rfl h14<|g_v rfl r_move<|g_do rfl rfl rfl rfl rfl h14<|g_v rfl (r_add rfl rfl rfl)<|g_do rfl rfl rfl rfl rfl h14 ?_
  replace hm:=bnd hm
  obtain ⟨s15,hs15,hm⟩:=hm
  refine g_v rfl (r_scutHi Try.underlying9 rfl rfl hs15)<|g_do rfl rfl rfl rfl rfl h14 ?_
  replace hm:=bnd hm
  obtain ⟨x16,hx17,hm⟩:=hm
  refine g_cn ⟨w0,M,_,_,φ⟩ (fun _ h=>h) Try.call47 rfl rfl (c_ref03_Check s15 _ hx17) (fun _ _=>?_)
  refine g_do rfl rfl rfl rfl rfl h14<|g_v rfl (r_neq rfl rfl)<|g_v rfl (r_pick0 rfl h14)<|g_nil<|d_then ?_
  refine c_flat [(0,.string p0),(5,.int .i64 i13),(34,.bool (decide (x16 ≠ 0)))] ⟨rfl,rfl,rfl,trivial⟩ (fun u=>?_)
  refine c_cond rfl (fun h18=>?_) (fun h18=>?_)
  ·
   replace hm:=ite_t hm (of_decide_eq_true h18)
   refine c_seq<|c_region ?_
   iterate 3 refine g_v rfl r_assign ?_
   refine g_nil<|d_then<|c_ret<|d_ret_then ?_
   cases hm
   exact d_retC () Try.results115 (res_tmp (res_tmp (res_tmp (res_nil rfl)))) trivial (fun W h=>ok_pre (H1:=[]) (R1:=[]) h (fun W hφ=>hφ)) (.inr rfl)
  replace hm:=ite_f hm (of_decide_eq_false h18)
  refine c_skip<|d_then<|c_seq<|ga_start (n:=11) ⟨w0,M,H,R,φ⟩ [] #[false,false,false,false,false,false,false,false,false,false,false] (fun W h=>h.phi (fun W hφ=>hφ)) mixed rfl rfl<|ga_v (i:=0) (bz 11 1) rfl (by kernel_rfl) (fun _ _ _ _ h=>h) rfl (r_move)<|ga_v (i:=1) (bz 11 3) rfl (by kernel_rfl) (fun _ _ _ _ h=>h) rfl (r_move)<|ga_v (i:=2) (bz 11 7) rfl (by kernel_rfl) (fun _ _ _ _ h=>h) rfl (r_add rfl rfl rfl) ?_
  replace hm:=bnd hm
  obtain ⟨s23,hs23,hm⟩:=hm
  refine ga_v (i:=3) (bz 11 15) rfl (by kernel_rfl) (fun _ _ _ _ h=>h) rfl (r_scutHi Try.underlying9 rfl rfl hs23)<|ga_v (i:=4) (bz 11 31) rfl (by kernel_rfl) (fun _ _ _ _ h=>h) rfl (r_move)<|ga_v (i:=5) (bz 11 63) rfl (by kernel_rfl) (fun _ _ _ _ h=>h) rfl (r_move)<|ga_v (i:=6) (bz 11 127) rfl (by kernel_rfl) (fun _ _ _ _ h=>h) rfl (r_add rfl rfl rfl) ?_
  replace hm:=bnd hm
  obtain ⟨s24,hs24,hm⟩:=hm
  refine ga_v (i:=7) (bz 11 255) rfl (by kernel_rfl) (fun _ _ _ _ h=>h) rfl (r_scutLo Try.underlying9 rfl rfl hs24)<|ga_r (i:=8) (bz 11 511) rfl (by kernel_rfl) (by decide) rfl (r_assign)<|ga_r (i:=9) (bz 11 1023) rfl (by kernel_rfl) (by decide) rfl (r_assign)<|ga_r (i:=10) (bz 11 2047) rfl (by kernel_rfl) (by decide) rfl (r_assign)<|ga_done (by kernel_rfl)<|d_then ?_
  refine c_flat [(2,.string s23),(3,.string s24),(4,.bool true)] ⟨rfl,rfl,rfl,trivial⟩ (fun u=>?_)
  refine c_ret ?_
  cases hm
  exact d_retC () Try.results115 (res_tmp (res_tmp (res_tmp (res_nil rfl)))) trivial (fun W h=>ok_pre (H1:=[]) (R1:=[]) h (fun W hφ=>hφ)) (.inr rfl)
 replace hm:=ite_t hm (of_decide_eq_true h14)
 iterate 5 refine g_no rfl rfl rfl rfl rfl h14 ?_
 refine g_v rfl (r_pick1 rfl h14)<|g_nil<|d_then<|c_cond1 rfl rfl<|c_seq<|c_region ?_
 iterate 3 refine g_v rfl r_assign ?_
 refine g_nil<|d_then ?_
 refine c_flat [(2,.string (⟨#[]⟩ : ByteArray)),(3,.string (⟨#[]⟩ : ByteArray)),(4,.bool false)] ⟨rfl,rfl,rfl,trivial⟩ (fun u=>?_)
 refine c_ret<|d_ret_then ?_
 cases hm
 exact d_retC () Try.results115 (res_tmp (res_tmp (res_tmp (res_nil rfl)))) trivial (fun W h=>ok_pre (H1:=[]) (R1:=[]) h (fun W hφ=>hφ)) (.inr rfl)
noncomputable def m_ref05_Names_j1 (p1 : ByteArray) (x1 : Int) (x3 : Int) (l99 : List ByteArray) (s102 : ByteArray) : Option (ByteArray×(List ByteArray)×ByteArray×Bool):=
  (scutHi p1 x1).bind fun s103=>
  some (s103,l99,s102,decide ((s102.size : Int) = x3))
noncomputable def m_ref05_Names_s2 (x2 : Int) (l120 : List ByteArray) (s123 : ByteArray) (i124 : Int) : Option (((List ByteArray)×ByteArray×Int) ⊕ (((List ByteArray)×ByteArray) ⊕ (ByteArray×(List ByteArray)×ByteArray×Bool))):=
  if i124 < x2 then
    (m_ref05_first s123).bind fun (z147 : ByteArray×ByteArray×Bool)=>
    if z147.2.2 = true then
      (app 16 l120 [z147.1]).bind fun l150=>
      some (.inl (l150,z147.2.1,w64 (i124 + 1)))
    else
      some (.inr (.inr ((⟨#[]⟩ : ByteArray),([] : List ByteArray),(⟨#[]⟩ : ByteArray),false)))
  else
    some (.inr (.inl (l120,s123)))
noncomputable def m_ref05_Names (p0 : Int) (p1 : ByteArray) : Option (ByteArray×(List ByteArray)×ByteArray×Bool):=
  (m_ref05_head p0).bind fun (z6 : Int×Int×Int×Bool)=>
  if z6.2.2.2 = true then
    if (p1.size : Int) < z6.1 then
      some ((⟨#[]⟩ : ByteArray),([] : List ByteArray),(⟨#[]⟩ : ByteArray),false)
    else
      (scutLo p1 z6.1).bind fun s9=>
      (loop (fun s=>m_ref05_Names_s2 z6.2.1 s.1 s.2.1 s.2.2) (([] : List ByteArray),s9,0)).bind fun e=>Sum.elim (fun e=>m_ref05_Names_j1 p1 z6.1 z6.2.2.1 e.1 e.2) (fun x=>some x) e
  else
    some ((⟨#[]⟩ : ByteArray),([] : List ByteArray),(⟨#[]⟩ : ByteArray),false)
theorem c_ref05_Names {w0 : World} {M : Nat→Prop} {H : List (Nat×Nat×Obj)} {R : List (Nat×Row)} {φ : World→Prop} (p0 : Int) (p1 : ByteArray) (r : ByteArray×(List ByteArray)×ByteArray×Bool) (hm : m_ref05_Names p0 p1 = some r) :
    Cn Try.prog 111 #[.int .u16 p0,.string p1] ⟨w0,M,H,R,φ⟩ (fun x : Option Addr×Nat=>.tuple #[.string r.1,.slice x.1 r.2.1.length x.2,.string r.2.2.1,.bool r.2.2.2]) (fun x=>r.2.1.length ≤ x.2) (fun x=>⟨w0,M,H,(2000,⟨.slice x.1 r.2.1.length x.2,9,1,r.2.1.length,r.2.1.flatMap (fun x : ByteArray=>[Value.string x])⟩)::R,φ⟩):=by
 unfold m_ref05_Names at hm
 refine cn_intro (fn:=Try.f111) (N:=63) Try.func111 rfl Try.ntmps111 rfl<|c_seq<|c_region ?_
 iterate 4 refine g_v rfl r_assign ?_
 refine g_nil<|d_then<|c_seq<|c_region<|g_v rfl r_move ?_
 replace hm:=bnd hm
 obtain ⟨⟨x1,x2,x3,x4⟩,hx5,hm⟩:=hm
 refine g_cn ⟨w0,M,_,_,φ⟩ (fun _ h=>h) Try.call110 rfl rfl (c_ref05_head p0 _ hx5) (fun _ _=>?_)
 refine g_v rfl r_move ?_
 iterate 4 refine g_v rfl (r_extract rfl rfl) ?_
 iterate 4 refine g_v rfl r_assign ?_
 refine g_nil<|d_then ?_
 refine c_flat [(1,.string p1),(8,.int .i64 x1),(9,.int .i64 x2),(10,.int .i64 x3),(11,.bool x4)] ⟨rfl,rfl,rfl,rfl,rfl,trivial⟩ (fun u=>?_)
 refine c_sta ⟨w0,M,H,R,φ⟩ (fun _ h=>h)<|c_seq<|c_seq<|c_region<|g_v rfl r_move<|g_v rfl (r_not rfl)<|g_v rfl r_move ?_
 refine g_if rfl rfl rfl rfl rfl (fun h7=>?_) (fun h7=>?_)
 ·
  have h7' : x4 = true:=by revert h7; cases x4 <;> simp
  replace hm:=ite_t hm h7'
  refine g_v rfl r_move<|g_do rfl rfl rfl rfl rfl h7<|g_v rfl (r_len Try.underlying9 rfl)<|g_do rfl rfl rfl rfl rfl h7<|g_v rfl r_move<|g_do rfl rfl rfl rfl rfl h7<|g_v rfl (r_lss rfl rfl)<|g_v rfl (r_pick0 rfl h7)<|g_nil<|d_then ?_
  refine c_cond rfl (fun h8=>?_) (fun h8=>?_)
  ·
   replace hm:=ite_t hm (of_decide_eq_true h8)
   refine c_seq<|c_region ?_
   iterate 4 refine g_v rfl r_assign ?_
   refine g_nil<|d_then ?_
   refine c_flat [(4,.string (⟨#[]⟩ : ByteArray)),(5,.slice none 0 0),(6,.string (⟨#[]⟩ : ByteArray)),(7,.bool false)] ⟨rfl,rfl,rfl,rfl,trivial⟩ (fun u=>?_)
   refine c_ret<|d_ret_then ?_
   cases hm
   refine d_sta _ (fun W h=>nilR h 11 9 1)<|d_sta _ (fun W h=>ok_frontR (t:=11) (t':=2000) h rfl) ?_
   exact d_retC (none,0) Try.results111 (res_tmp (res_tmp (res_tmp (res_tmp (res_nil rfl))))) (Nat.le_refl 0) (fun W h=>h.phi (fun W hφ=>hφ)) (.inr rfl)
  replace hm:=ite_f hm (of_decide_eq_false h8)
  refine c_skip<|d_then<|c_seq<|c_region<|g_v rfl r_move<|g_v rfl r_move ?_
  replace hm:=bnd hm
  obtain ⟨s9,hs9,hm⟩:=hm
  refine g_v rfl (r_scutLo Try.underlying9 rfl rfl hs9)<|g_v rfl r_assign<|g_nil<|d_then ?_
  refine c_flat [(1,.string p1),(8,.int .i64 x1),(9,.int .i64 x2),(10,.int .i64 x3),(12,.string s9)] ⟨rfl,rfl,rfl,rfl,rfl,trivial⟩ (fun u=>?_)
  refine c_seq<|c_region<|g_v rfl r_assign<|g_nil<|d_then<|c_seq<|c_seq<|c_region<|g_v rfl r_assign<|g_nil ?_
  refine d_then<|c_sta _ (fun W h=>nilR h 17 9 1) ?_
  refine c_cut (ι:=(List ByteArray)×ByteArray×Option Addr×Nat) [1,8,10,12,13] (fun ⟨l99,s102,A100,c101⟩=>[(12,.string s102),(13,.slice A100 l99.length c101)]) (fun ⟨l99,s102,A100,c101⟩=>⟨w0,M,H,(17,⟨.slice A100 l99.length c101,9,1,l99.length,l99.flatMap (fun x : ByteArray=>[Value.string x])⟩)::R,φ⟩) (fun ⟨l99,s102,A100,c101⟩=>m_ref05_Names_j1 p1 x1 x3 l99 s102 = some r∧l99.length ≤ c101) ?_ (fun ⟨l99,s102,A100,c101⟩ u ⟨hm,hc101⟩=>?_)
  ·
   refine c_block ?_
   replace hm:=bnd hm
   obtain ⟨out2,hl2,hr2⟩:=hm
   obtain ⟨n141',hl2⟩:=loop_lp hl2
   refine c_loopU (ι:=Nat×(List ByteArray)×ByteArray×Int×Option Addr×Nat) [1,8,9,10,12,13,14] (fun ⟨n141,l120,s123,i124,A121,c122⟩=>[(12,.string s123),(13,.slice A121 l120.length c122),(14,.int .i64 i124)]) (fun ⟨n141,l120,s123,i124,A121,c122⟩=>⟨w0,M,H,(17,⟨.slice A121 l120.length c122,9,1,l120.length,l120.flatMap (fun x : ByteArray=>[Value.string x])⟩)::R,φ⟩) (fun ⟨n141,l120,s123,i124,A121,c122⟩=>Lp (fun s=>m_ref05_Names_s2 x2 s.1 s.2.1 s.2.2) n141 (l120,s123,i124) out2∧l120.length ≤ c122) (fun ⟨n141,l120,s123,i124,A121,c122⟩=>n141) (n141',([] : List ByteArray),s9,0,none,0) ⟨hl2,(Nat.le_refl 0)⟩ ⟨rfl,rfl,rfl,rfl,rfl,rfl,rfl,trivial⟩ (fun W h=>h.phi (fun W hφ=>hφ)) (fun ⟨n141,l120,s123,i124,A121,c122⟩ u ⟨hlp,hc122⟩=>?_)
   obtain ⟨o2,hm,hnx2⟩:=lp_step hlp
   clear hlp
   replace hm : m_ref05_Names_s2 x2 l120 s123 i124 = some o2:=hm
   unfold m_ref05_Names_s2 at hm
   refine c_flat [(1,.string p1),(8,.int .i64 x1),(9,.int .i64 x2),(10,.int .i64 x3),(12,.string s123),(13,.slice A121 l120.length c122),(14,.int .i64 i124)] ⟨rfl,rfl,rfl,rfl,rfl,rfl,rfl,trivial⟩ (fun u=>?_)
   refine c_sta ⟨w0,M,H,(17,⟨.slice A121 l120.length c122,9,1,l120.length,l120.flatMap (fun x : ByteArray=>[Value.string x])⟩)::R,φ⟩ (fun _ h=>h)<|c_seq<|c_seq<|c_region<|g_v rfl r_move<|g_v rfl r_move<|g_v rfl (r_lss rfl rfl)<|g_nil<|d_then ?_
   refine c_cond rfl (fun h142=>?_) (fun h142=>?_)
   ·
    replace hm:=ite_t hm (of_decide_eq_true h142)
    refine c_skip<|d_then<|c_seq<|c_block<|c_seq<|c_region<|g_v rfl r_move ?_
    replace hm:=bnd hm
    obtain ⟨⟨x143,x144,x145⟩,hx146,hm⟩:=hm
    refine g_cn ⟨w0,M,_,_,φ⟩ (fun _ h=>h) Try.call115 rfl rfl (c_ref05_first s123 _ hx146) (fun _ _=>?_)
    refine g_v rfl r_move ?_
    iterate 3 refine g_v rfl (r_extract rfl rfl) ?_
    iterate 3 refine g_v rfl r_assign ?_
    refine g_nil<|d_then ?_
    refine c_flat [(1,.string p1),(8,.int .i64 x1),(9,.int .i64 x2),(10,.int .i64 x3),(13,.slice A121 l120.length c122),(14,.int .i64 i124),(15,.string x143),(16,.string x144),(17,.bool x145)] ⟨rfl,rfl,rfl,rfl,rfl,rfl,rfl,rfl,rfl,trivial⟩ (fun u=>?_)
    refine c_seq<|c_seq<|c_region<|g_v rfl r_move<|g_v rfl (r_not rfl)<|g_nil<|d_then ?_
    refine c_cond rfl (fun h148=>?_) (fun h148=>?_)
    ·
     have h148' : x145 = false:=by revert h148; cases x145 <;> simp
     replace hm:=ite_f hm (bool_nt h148')
     refine c_seq<|c_region ?_
     iterate 4 refine g_v rfl r_assign ?_
     refine g_nil<|d_then<|c_ret<|d_ret_then<|d_ret_block<|d_ret_then<|d_ret_then<|d_ret_block<|d_ret_then<|d_ret_then ?_
     replace hm:=nx_out (C:=(fun e : ((List ByteArray)×ByteArray) ⊕ (ByteArray×(List ByteArray)×ByteArray×Bool)=>Sum.elim (fun e=>m_ref05_Names_j1 p1 x1 x3 e.1 e.2) (fun x=>some x) e = some r)) hm hnx2 hr2
     replace hm : some ((⟨#[]⟩ : ByteArray),([] : List ByteArray),(⟨#[]⟩ : ByteArray),false) = some r:=hm
     cases hm
     refine d_sta _ (fun W h=>nilR h 22 9 1)<|d_sta _ (fun W h=>ok_frontR (t:=22) (t':=2000) h rfl) ?_
     exact d_retC (none,0) Try.results111 (res_tmp (res_tmp (res_tmp (res_tmp (res_nil rfl))))) (Nat.le_refl 0) (fun W h=>(h.dropR (t:=17) rfl).phi (fun W hφ=>hφ)) (.inr rfl)
    have h148' : x145 = true:=by revert h148; cases x145 <;> simp
    replace hm:=ite_t hm h148'
    refine c_skip<|d_then<|c_seq<|c_region<|g_v rfl r_move<|g_v rfl r_move ?_
    refine g_e rfl (e_lit (tag:=100510) (l:=[x143]) (enc:=(fun x : ByteArray=>[Value.string x])) (sz:=1) rfl Try.underlying125 (lit9_4 _) rfl rfl (fun _=>rfl)) (fun g149 _=>?_)
    replace hm:=bnd hm
    obtain ⟨l150,hl150,hm⟩:=hm
    refine g_e rfl (e_appR (enc:=(fun x : ByteArray=>[Value.string x])) (l:=l120) (l1:=[x143]) (l2:=l150) (tag:=17) Try.underlying125 inf9_5 rfl (by decide) (by decide) (fun _=>rfl) (fun _=>rfl) rfl hc122 rfl rfl (fun W hS=>rowCl (tag:=100510) rfl W hS) hl150) (fun ⟨A151,c152⟩ hc152=>?_)
    refine g_v rfl r_assign<|g_nil<|d_then<|c_region<|g_v rfl r_move<|g_v rfl r_assign<|g_nil<|d_normal_block<|d_then ?_
    refine c_flat [(1,.string p1),(8,.int .i64 x1),(9,.int .i64 x2),(10,.int .i64 x3),(12,.string x144),(13,.slice A151 l150.length c152),(14,.int .i64 i124)] ⟨rfl,rfl,rfl,rfl,rfl,rfl,rfl,trivial⟩ (fun u=>?_)
    refine c_sta ⟨w0,M,H,(100510,⟨.slice (some ⟨g149,0,none⟩) [x143].length 1,9,1,[x143].length,[x143].flatMap (fun x : ByteArray=>[Value.string x])⟩)::(17,⟨.slice A151 l150.length c152,9,1,l150.length,l150.flatMap (fun x : ByteArray=>[Value.string x])⟩)::R,φ⟩ (fun _ h=>h)<|c_region<|g_v rfl r_move<|g_v rfl (r_add rfl rfl rfl)<|g_v rfl r_assign<|g_nil ?_
    obtain ⟨n153,hn153,hlp⟩:=nx_inl hm hnx2
    exact d_round (n153,l150,x144,w64 (i124 + 1),A151,c152) ⟨hlp,hc152⟩ hn153 ⟨rfl,rfl,rfl,rfl,rfl,rfl,rfl,trivial⟩ (fun W h=>(h.dropR (t:=100510) rfl).phi (fun W hφ=>hφ))
   replace hm:=ite_f hm (of_decide_eq_false h142)
   refine c_exit<|d_exit_then<|d_exit_then<|d_exit_block ?_
   replace hm:=nx_out (C:=(fun e : ((List ByteArray)×ByteArray) ⊕ (ByteArray×(List ByteArray)×ByteArray×Bool)=>Sum.elim (fun e=>m_ref05_Names_j1 p1 x1 x3 e.1 e.2) (fun x=>some x) e = some r)) hm hnx2 hr2
   exact d_round (l120,s123,A121,c122) ⟨hm,hc122⟩ Nat.zero_lt_one ⟨rfl,rfl,rfl,rfl,rfl,trivial⟩ (fun W h=>h.phi (fun W hφ=>hφ))
  unfold m_ref05_Names_j1 at hm
  refine d_flat [(1,.string p1),(8,.int .i64 x1),(10,.int .i64 x3),(12,.string s102),(13,.slice A100 l99.length c101)] ⟨rfl,rfl,rfl,rfl,rfl,trivial⟩ (fun u=>?_)
  refine d_sta ⟨w0,M,H,(17,⟨.slice A100 l99.length c101,9,1,l99.length,l99.flatMap (fun x : ByteArray=>[Value.string x])⟩)::R,φ⟩ (fun _ h=>h)<|d_then<|c_seq<|c_region<|g_v rfl r_move<|g_v rfl r_move ?_
  replace hm:=bnd hm
  obtain ⟨s103,hs103,hm⟩:=hm
  refine g_v rfl (r_scutHi Try.underlying9 rfl rfl hs103) ?_
  iterate 3 refine g_v rfl r_move ?_
  refine g_v rfl (r_len Try.underlying9 rfl)<|g_v rfl r_move<|g_v rfl (r_eql rfl rfl) ?_
  iterate 4 refine g_v rfl r_assign ?_
  refine g_nil<|d_then ?_
  refine c_flat [(4,.string s103),(5,.slice A100 l99.length c101),(6,.string s102),(7,.bool (decide ((s102.size : Int) = x3)))] ⟨rfl,rfl,rfl,rfl,trivial⟩ (fun u=>?_)
  refine c_ret ?_
  cases hm
  refine d_sta _ (fun W h=>ok_frontR (t:=17) (t':=2000) h rfl) ?_
  exact d_retC (A100,c101) Try.results111 (res_tmp (res_tmp (res_tmp (res_tmp (res_nil rfl))))) hc101 (fun W h=>h.phi (fun W hφ=>hφ)) (.inr rfl)
 have h7' : x4 = false:=by revert h7; cases x4 <;> simp
 replace hm:=ite_f hm (bool_nt h7')
 iterate 3 refine g_no rfl rfl rfl rfl rfl h7 ?_
 refine g_v rfl (r_pick1 rfl h7)<|g_nil<|d_then<|c_cond1 rfl rfl<|c_seq<|c_region ?_
 iterate 4 refine g_v rfl r_assign ?_
 refine g_nil<|d_then<|c_ret<|d_ret_then ?_
 cases hm
 refine d_sta _ (fun W h=>nilR h 23 9 1)<|d_sta _ (fun W h=>ok_frontR (t:=23) (t':=2000) h rfl) ?_
 exact d_retC (none,0) Try.results111 (res_tmp (res_tmp (res_tmp (res_tmp (res_nil rfl))))) (Nat.le_refl 0) (fun W h=>h.phi (fun W hφ=>hφ)) (.inr rfl)
noncomputable def m_ref05_Right_j1 (p1 : ByteArray) (i28 : Int) : Option Bool:=
  if i28 = (p1.size : Int) then
    some (decide (0 < i28))
  else
    some false
noncomputable def m_ref05_Right_s2 (p1 : ByteArray) (i33 : Int) : Option (Int ⊕ Int):=
  if i33 < (p1.size : Int) then
    (sat_ p1 i33).bind fun b39=>
    some (.inl (w64 ((w64 (i33 + 1)) + (w64 b39))))
  else
    some (.inr i33)
noncomputable def m_ref05_Right (p0 : Int) (p1 : ByteArray) : Option Bool:=
  (m_ref05_head p0).bind fun (z6 : Int×Int×Int×Bool)=>
  if z6.2.2.2 = true then
    (m_ref05_Names p0 p1).bind fun (z16 : ByteArray×(List ByteArray)×ByteArray×Bool)=>
    some z16.2.2.2
  else
    if p0 = 1 then
      some (decide ((p1.size : Int) = 4))
    else
      if p0 = 28 then
        some (decide ((p1.size : Int) = 16))
      else
        if p0 = 16 then
          (loop (fun s=>m_ref05_Right_s2 p1 s) 0).bind fun e=>m_ref05_Right_j1 p1 e
        else
          some true
theorem c_ref05_Right {w0 : World} {M : Nat→Prop} {H : List (Nat×Nat×Obj)} {R : List (Nat×Row)} {φ : World→Prop} (p0 : Int) (p1 : ByteArray) (r : Bool) (hm : m_ref05_Right p0 p1 = some r) :
    Cn Try.prog 97 #[.int .u16 p0,.string p1] ⟨w0,M,H,R,φ⟩ (fun x : Unit=>.bool r) (fun x=>True) (fun x=>⟨w0,M,H,R,φ⟩):=by
 unfold m_ref05_Right at hm
 refine cn_intro (fn:=Try.f97) (N:=63) Try.func97 rfl Try.ntmps97 rfl<|c_seq<|c_region<|g_v rfl r_assign<|g_nil<|d_then<|c_seq<|c_region<|g_v rfl r_move ?_
 replace hm:=bnd hm
 obtain ⟨⟨x1,x2,x3,x4⟩,hx5,hm⟩:=hm
 refine g_cn ⟨w0,M,_,_,φ⟩ (fun _ h=>h) Try.call110 rfl rfl (c_ref05_head p0 _ hx5) (fun _ _=>?_)
 refine g_v rfl r_move ?_
 iterate 4 refine g_v rfl (r_extract rfl rfl) ?_
 iterate 4 refine g_v rfl r_assign ?_
 refine g_nil<|d_then ?_
 refine c_flat [(0,.int .u16 p0),(1,.string p1),(8,.bool x4)] ⟨rfl,rfl,rfl,trivial⟩ (fun u=>?_)
 refine c_sta ⟨w0,M,H,R,φ⟩ (fun _ h=>h)<|c_seq<|c_seq<|c_region<|g_v rfl r_move<|g_nil<|d_then ?_
 refine c_cond rfl (fun h7=>?_) (fun h7=>?_)
 ·
  replace hm:=ite_t hm h7
  refine c_seq<|c_region<|g_v rfl r_move<|g_v rfl r_move ?_
  replace hm:=bnd hm
  obtain ⟨⟨x8,x9,x10,x11⟩,hx12,hm⟩:=hm
  refine g_cn ⟨w0,M,_,_,φ⟩ (fun _ h=>h) Try.call111 rfl rfl (c_ref05_Names p0 p1 _ hx12) (fun ⟨A13,c14⟩ hc14=>?_)
  refine g_sta _ (fun W h=>(ok_frontR (t:=2000) (t':=100250) h rfl))<|g_v rfl r_move ?_
  iterate 4 refine g_v rfl (r_extract rfl rfl) ?_
  iterate 4 refine g_v rfl r_assign ?_
  refine g_nil<|d_then ?_
  refine c_flat [(12,.bool x11)] ⟨rfl,trivial⟩ (fun u=>?_)
  refine c_sta ⟨w0,M,H,(100250,⟨.slice A13 x9.length c14,9,1,x9.length,x9.flatMap (fun x : ByteArray=>[Value.string x])⟩)::R,φ⟩ (fun _ h=>h)<|c_seq<|c_region<|g_v rfl r_move<|g_v rfl r_assign<|g_nil<|d_then<|c_ret<|d_ret_then ?_
  cases hm
  exact d_retC () Try.results97 (res_tmp (res_nil rfl)) trivial (fun W h=>ok_pre (H1:=[]) (R1:=[_]) h (fun W hφ=>hφ)) (.inr rfl)
 replace hm:=ite_f hm (bool_nt h7)
 refine c_skip<|d_then<|c_seq<|c_seq<|c_region<|g_v rfl r_move<|g_nil<|d_then<|c_block<|c_seq ?_
 refine c_region<|g_v rfl (r_eql rfl rfl)<|g_v rfl r_assign<|g_nil<|d_then ?_
 refine c_cond rfl (fun h17=>?_) (fun h17=>?_)
 ·
  replace hm:=ite_t hm (of_decide_eq_true h17)
  refine c_seq<|c_region<|g_v rfl r_move<|g_v rfl (r_len Try.underlying9 rfl)<|g_v rfl (r_eql rfl rfl)<|g_v rfl r_assign<|g_nil<|d_then<|c_ret<|d_ret_block ?_
  refine d_ret_then ?_
  cases hm
  exact d_retC () Try.results97 (res_tmp (res_nil rfl)) trivial (fun W h=>ok_pre (H1:=[]) (R1:=[]) h (fun W hφ=>hφ)) (.inr rfl)
 replace hm:=ite_f hm (of_decide_eq_false h17)
 refine c_seq<|c_region<|g_v rfl (r_eql rfl rfl)<|g_v rfl r_assign<|g_nil<|d_then ?_
 refine c_cond rfl (fun h18=>?_) (fun h18=>?_)
 ·
  replace hm:=ite_t hm (of_decide_eq_true h18)
  refine c_seq<|c_region<|g_v rfl r_move<|g_v rfl (r_len Try.underlying9 rfl)<|g_v rfl (r_eql rfl rfl)<|g_v rfl r_assign<|g_nil<|d_then ?_
  refine c_flat [(4,.bool (decide ((p1.size : Int) = 16)))] ⟨rfl,trivial⟩ (fun u=>?_)
  refine c_ret<|d_ret_block<|d_ret_then ?_
  cases hm
  exact d_retC () Try.results97 (res_tmp (res_nil rfl)) trivial (fun W h=>ok_pre (H1:=[]) (R1:=[]) h (fun W hφ=>hφ)) (.inr rfl)
 replace hm:=ite_f hm (of_decide_eq_false h18)
 refine c_seq<|c_region<|g_v rfl (r_eql rfl rfl)<|g_v rfl r_assign<|g_nil<|d_then ?_
 refine c_cond rfl (fun h19=>?_) (fun h19=>?_)
 ·
  replace hm:=ite_t hm (of_decide_eq_true h19)
  refine c_seq<|c_region<|g_v rfl r_assign<|g_nil<|d_then ?_
  refine c_flat [(1,.string p1),(13,.int .i64 0)] ⟨rfl,rfl,trivial⟩ (fun u=>?_)
  refine c_seq ?_
  refine c_cut (ι:=Int) [1,13] (fun i28=>[(13,.int .i64 i28)]) (fun i28=>⟨w0,M,H,R,φ⟩) (fun i28=>m_ref05_Right_j1 p1 i28 = some r) ?_ (fun i28 u hm=>?_)
  ·
   refine c_block ?_
   replace hm:=bnd hm
   obtain ⟨out2,hl2,hr2⟩:=hm
   obtain ⟨n37',hl2⟩:=loop_lp hl2
   refine c_loopU (ι:=Nat×Int) [1,13] (fun ⟨n37,i33⟩=>[(13,.int .i64 i33)]) (fun ⟨n37,i33⟩=>⟨w0,M,H,R,φ⟩) (fun ⟨n37,i33⟩=>Lp (fun s=>m_ref05_Right_s2 p1 s) n37 i33 out2) (fun ⟨n37,i33⟩=>n37) (n37',0) hl2 ⟨rfl,rfl,trivial⟩ (fun W h=>h.phi (fun W hφ=>hφ)) (fun ⟨n37,i33⟩ u hlp=>?_)
   obtain ⟨o2,hm,hnx2⟩:=lp_step hlp
   clear hlp
   replace hm : m_ref05_Right_s2 p1 i33 = some o2:=hm
   unfold m_ref05_Right_s2 at hm
   refine c_flat [(1,.string p1),(13,.int .i64 i33)] ⟨rfl,rfl,trivial⟩ (fun u=>?_)
   refine c_seq<|c_seq<|c_region<|g_v rfl r_move<|g_v rfl r_move<|g_v rfl (r_len Try.underlying9 rfl)<|g_v rfl (r_lss rfl rfl)<|g_nil<|d_then ?_
   refine c_cond rfl (fun h38=>?_) (fun h38=>?_)
   ·
    replace hm:=ite_t hm (of_decide_eq_true h38)
    refine c_skip<|d_then<|c_block<|c_region<|g_v rfl r_move<|g_v rfl (r_add rfl rfl rfl)<|g_v rfl r_move<|g_v rfl r_move ?_
    replace hm:=bnd hm
    obtain ⟨b39,hb39,hm⟩:=hm
    refine g_v rfl (r_sat Try.underlying9 rfl rfl hb39)<|g_v rfl (r_conv Try.underlying5 Try.underlying3 rfl rfl)<|g_v rfl (r_add rfl rfl rfl)<|g_v rfl r_assign<|g_nil<|d_normal_block ?_
    obtain ⟨n40,hn40,hlp⟩:=nx_inl hm hnx2
    exact d_round (n40,w64 ((w64 (i33 + 1)) + (w64 b39))) hlp hn40 ⟨rfl,rfl,trivial⟩ (fun W h=>h.phi (fun W hφ=>hφ))
   replace hm:=ite_f hm (of_decide_eq_false h38)
   refine c_exit<|d_exit_then<|d_exit_then<|d_exit_block ?_
   replace hm:=nx_out (C:=(fun e : Int=>m_ref05_Right_j1 p1 e = some r)) hm hnx2 hr2
   exact d_round i33 hm Nat.zero_lt_one ⟨rfl,rfl,trivial⟩ (fun W h=>h.phi (fun W hφ=>hφ))
  unfold m_ref05_Right_j1 at hm
  refine d_flat [(1,.string p1),(13,.int .i64 i28)] ⟨rfl,rfl,trivial⟩ (fun u=>?_)
  refine d_then<|c_seq<|c_region<|g_v rfl r_move<|g_v rfl r_move<|g_v rfl (r_len Try.underlying9 rfl)<|g_v rfl (r_eql rfl rfl)<|g_v rfl r_move ?_
  refine g_if rfl rfl rfl rfl rfl (fun h29=>?_) (fun h29=>?_)
  ·
   replace hm:=ite_t hm (of_decide_eq_true h29)
   refine g_v rfl r_move<|g_do rfl rfl rfl rfl rfl h29<|g_v rfl (r_gtr rfl rfl)<|g_v rfl (r_pick1 rfl h29)<|g_v rfl r_assign<|g_nil<|d_then ?_
   refine c_flat [(4,.bool (decide (0 < i28)))] ⟨rfl,trivial⟩ (fun u=>?_)
   refine c_ret<|d_ret_block<|d_ret_then ?_
   cases hm
   exact d_retC () Try.results97 (res_tmp (res_nil rfl)) trivial (fun W h=>ok_pre (H1:=[]) (R1:=[]) h (fun W hφ=>hφ)) (.inr rfl)
  replace hm:=ite_f hm (of_decide_eq_false h29)
  refine g_no rfl rfl rfl rfl rfl h29<|g_v rfl (r_pick0 rfl h29)<|g_v rfl r_assign<|g_nil<|d_then<|c_ret<|d_ret_block<|d_ret_then ?_
  cases hm
  exact d_retC () Try.results97 (res_tmp (res_nil rfl)) trivial (fun W h=>ok_pre (H1:=[]) (R1:=[]) h (fun W hφ=>hφ)) (.inr rfl)
 replace hm:=ite_f hm (of_decide_eq_false h19)
 refine c_skip<|d_normal_block<|d_then<|c_seq<|c_region<|g_v rfl r_assign<|g_nil<|d_then ?_
 refine c_flat [(4,.bool true)] ⟨rfl,trivial⟩ (fun u=>?_)
 refine c_ret ?_
 cases hm
 exact d_retC () Try.results97 (res_tmp (res_nil rfl)) trivial (fun W h=>ok_pre (H1:=[]) (R1:=[]) h (fun W hφ=>hφ)) (.inr rfl)
noncomputable def m_ref05_Check (p0 : GRR) : Option Int:=
  (m_ref03_Check p0.fName).bind fun x2=>
  if x2 ≠ 0 then
    some x2
  else
    if 2000 < (p0.fData.size : Int) then
      some 11
    else
      (m_ref05_Right p0.fType p0.fData).bind fun x6=>
      if x6 = true then
        some 0
      else
        some 10
theorem c_ref05_Check {w0 : World} {M : Nat→Prop} {H : List (Nat×Nat×Obj)} {R : List (Nat×Row)} {φ : World→Prop} (p0 : GRR) (r : Int) (hm : m_ref05_Check p0 = some r) :
    Cn Try.prog 80 #[.agg #[.string p0.fName,.int .u16 p0.fType,.int .u16 p0.fClass,.int .u32 p0.fTTL,.string p0.fData]] ⟨w0,M,H,R,φ⟩ (fun x : Unit=>.int .i64 r) (fun x=>True) (fun x=>⟨w0,M,H,R,φ⟩):=by
 unfold m_ref05_Check at hm
 refine cn_intro (fn:=Try.f80) (N:=22) Try.func80 rfl Try.ntmps80 rfl<|c_seq<|c_region ?_
 refine g_e rfl (e_box 100010 rfl) (fun g1 _=>?_)
 refine g_v rfl r_assign<|g_nil<|d_then<|c_seq<|c_region<|g_v rfl (r_field (n:=0) Try.underlying54 rfl Try.sizeOf9 rfl rfl)<|g_v rfl (r_load (tag:=100010) rfl rfl rfl Try.isAgg9) ?_
 replace hm:=bnd hm
 obtain ⟨x2,hx3,hm⟩:=hm
 refine g_cn ⟨w0,M,_,_,φ⟩ (fun _ h=>h) Try.call47 rfl rfl (c_ref03_Check p0.fName _ hx3) (fun _ _=>?_)
 refine g_v rfl r_assign<|g_nil<|d_then<|c_seq<|c_seq<|c_region<|g_v rfl r_move<|g_v rfl (r_neq rfl rfl)<|g_nil<|d_then ?_
 refine c_sta ⟨w0,M,(100010,g1,.cells #[.string p0.fName,.int .u16 p0.fType,.int .u16 p0.fClass,.int .u32 p0.fTTL,.string p0.fData] 54 (0,0))::H,R,φ⟩ (fun _ h=>h) ?_
 refine c_cond rfl (fun h4=>?_) (fun h4=>?_)
 ·
  replace hm:=ite_t hm (of_decide_eq_true h4)
  refine c_seq<|c_region<|g_v rfl r_move<|g_v rfl r_assign<|g_nil<|d_then ?_
  refine c_flat [(2,.int .i64 x2)] ⟨rfl,trivial⟩ (fun u=>?_)
  refine c_ret<|d_ret_then ?_
  cases hm
  exact d_retC () Try.results80 (res_tmp (res_nil rfl)) trivial (fun W h=>ok_pre (H1:=[_]) (R1:=[]) h (fun W hφ=>hφ)) (.inr rfl)
 replace hm:=ite_f hm (of_decide_eq_false h4)
 refine c_skip<|d_then<|c_seq<|c_seq<|c_region<|g_v rfl (r_field (n:=4) Try.underlying54 rfl Try.sizeOf9 rfl rfl)<|g_v rfl (r_load (tag:=100010) rfl rfl rfl Try.isAgg9)<|g_v rfl (r_len Try.underlying9 rfl)<|g_v rfl (r_gtr rfl rfl)<|g_nil ?_
 refine d_then ?_
 refine c_flat [(1,.pointer (some ⟨g1,0,none⟩)),(14,.bool (decide (2000 < (p0.fData.size : Int))))] ⟨rfl,rfl,trivial⟩ (fun u=>?_)
 refine c_cond rfl (fun h5=>?_) (fun h5=>?_)
 ·
  replace hm:=ite_t hm (of_decide_eq_true h5)
  refine c_seq<|c_region<|g_v rfl r_assign<|g_nil<|d_then<|c_ret<|d_ret_then ?_
  cases hm
  exact d_retC () Try.results80 (res_tmp (res_nil rfl)) trivial (fun W h=>ok_pre (H1:=[_]) (R1:=[]) h (fun W hφ=>hφ)) (.inr rfl)
 replace hm:=ite_f hm (of_decide_eq_false h5)
 refine c_skip<|d_then<|c_seq<|c_region<|g_v rfl (r_field (n:=1) Try.underlying54 rfl Try.sizeOf22 rfl rfl)<|g_v rfl (r_load (tag:=100010) rfl rfl rfl Try.isAgg22)<|g_v rfl (r_field (n:=4) Try.underlying54 rfl Try.sizeOf9 rfl rfl)<|g_v rfl (r_load (tag:=100010) rfl rfl rfl Try.isAgg9) ?_
 replace hm:=bnd hm
 obtain ⟨x6,hx7,hm⟩:=hm
 refine g_cn ⟨w0,M,_,_,φ⟩ (fun _ h=>h) Try.call97 rfl rfl (c_ref05_Right p0.fType p0.fData _ hx7) (fun _ _=>?_)
 refine g_v rfl r_assign<|g_nil<|d_then<|c_seq<|c_seq<|c_region<|g_v rfl r_move<|g_v rfl (r_not rfl)<|g_nil<|d_then ?_
 refine c_cond rfl (fun h8=>?_) (fun h8=>?_)
 ·
  have h8' : x6 = false:=by revert h8; cases x6 <;> simp
  replace hm:=ite_f hm (bool_nt h8')
  refine c_seq<|c_region<|g_v rfl r_assign<|g_nil<|d_then ?_
  refine c_flat [(2,.int .i64 10)] ⟨rfl,trivial⟩ (fun u=>?_)
  refine c_ret<|d_ret_then ?_
  cases hm
  exact d_retC () Try.results80 (res_tmp (res_nil rfl)) trivial (fun W h=>ok_pre (H1:=[_]) (R1:=[]) h (fun W hφ=>hφ)) (.inr rfl)
 have h8' : x6 = true:=by revert h8; cases x6 <;> simp
 replace hm:=ite_t hm h8'
 refine c_skip<|d_then<|c_seq<|c_region<|g_v rfl r_assign<|g_nil<|d_then ?_
 refine c_flat [(2,.int .i64 0)] ⟨rfl,trivial⟩ (fun u=>?_)
 refine c_ret ?_
 cases hm
 exact d_retC () Try.results80 (res_tmp (res_nil rfl)) trivial (fun W h=>ok_pre (H1:=[_]) (R1:=[]) h (fun W hφ=>hφ)) (.inr rfl)
noncomputable def m_ref16_Check_j3  : Option Int:=
  some 0
noncomputable def m_ref16_Check_s4 (p0 : GCached) (i82 : Int) : Option (Int ⊕ (Unit ⊕ Int)):=
  if i82 < (p0.fRecords.length : Int) then
    (at_ p0.fRecords i82).bind fun x105=>
    (m_ref03_Same x105.fName p0.fName).bind fun x110=>
    (m_ref05_Check x105).bind fun x112=>
    if x112 ≠ 0 then
      some (.inr (.inr 1))
    else
      if x105.fClass ≠ p0.fClass then
        some (.inr (.inr 1))
      else
        if p0.fKind = 1 then
          if x110 = true then
            if x105.fType ≠ p0.fType then
              some (.inr (.inr 1))
            else
              if p0.fKind ≠ 1 then
                if x105.fType ≠ 6 then
                  some (.inr (.inr 1))
                else
                  some (.inl (w64 (i82 + 1)))
              else
                some (.inl (w64 (i82 + 1)))
          else
            some (.inr (.inr 1))
        else
          if p0.fKind ≠ 1 then
            if x105.fType ≠ 6 then
              some (.inr (.inr 1))
            else
              some (.inl (w64 (i82 + 1)))
          else
            some (.inl (w64 (i82 + 1)))
  else
    some (.inr (.inl ()))
noncomputable def m_ref16_Check_j2 (p0 : GCached) : Option Int:=
  (loop (fun s=>m_ref16_Check_s4 p0 s) 0).bind fun e=>Sum.elim (fun e=>m_ref16_Check_j3) (fun x=>some x) e
noncomputable def m_ref16_Check_j1 (p0 : GCached) (i15 : Int) : Option Int:=
  if p0.fKind = 3 then
    if p0.fType ≠ 0 then
      some 1
    else
      if i15 < (p0.fRecords.length : Int) then
        some 1
      else
        m_ref16_Check_j2 p0
  else
    if i15 < (p0.fRecords.length : Int) then
      some 1
    else
      m_ref16_Check_j2 p0
noncomputable def m_ref16_Check (p0 : GCached) : Option Int:=
  if p0.fKind < 1 then
    some 1
  else
    if 3 < p0.fKind then
      some 1
    else
      (m_ref03_Check p0.fName).bind fun x4=>
      if x4 ≠ 0 then
        some 1
      else
        if p0.fUntil < 0 then
          some 1
        else
          if 1125899906842624 < p0.fUntil then
            some 1
          else
            if p0.fRank < 1 then
              some 1
            else
              if 4 < p0.fRank then
                some 1
              else
                if p0.fEpoch < 0 then
                  some 1
                else
                  if 1099511627776 < p0.fEpoch then
                    some 1
                  else
                    if p0.fKind = 1 then
                      if (p0.fRecords.length : Int) = 0 then
                        some 1
                      else
                        m_ref16_Check_j1 p0 64
                    else
                      m_ref16_Check_j1 p0 1
theorem c_ref16_Check {w0 : World} {M : Nat→Prop} {H : List (Nat×Nat×Obj)} {R : List (Nat×Row)} {φ : World→Prop} (p0 : GCached) (Ap0_0 : Option Addr) (cp0_0 : Nat) (hcp0_0 : p0.fRecords.length ≤ cp0_0) (fp0_0 : ∀ W,(Sta.mk w0 M H R φ).ok W→Cl W Ap0_0 (p0.fRecords.flatMap GRR.enc)) (r : Int) (hm : m_ref16_Check p0 = some r) :
    Cn Try.prog 48 #[.agg #[.int .i64 p0.fKind,.string p0.fName,.int .u16 p0.fType,.int .u16 p0.fClass,.slice Ap0_0 p0.fRecords.length cp0_0,.int .i64 p0.fUntil,.int .i64 p0.fRank,.int .i64 p0.fEpoch,.int .i64 p0.fSource]] ⟨w0,M,H,R,φ⟩ (fun x : Unit=>.int .i64 r) (fun x=>True) (fun x=>⟨w0,M,H,R,φ⟩):=by
 unfold m_ref16_Check at hm
 refine cn_intro (fn:=Try.f48) (N:=126) Try.func48 rfl Try.ntmps48 rfl<|c_seq<|c_region ?_
 refine g_e rfl (e_box 100010 rfl) (fun g1 _=>?_)
 refine g_v rfl r_assign<|g_nil<|d_then<|c_seq<|c_seq<|c_region<|g_v rfl (r_field (n:=0) Try.underlying41 rfl Try.sizeOf3 rfl rfl)<|g_v rfl (r_load (tag:=100010) rfl rfl rfl Try.isAgg3)<|g_v rfl (r_lss rfl rfl)<|g_v rfl r_move ?_
 refine g_sta ⟨w0,M,(100010,g1,.cells #[.int .i64 p0.fKind,.string p0.fName,.int .u16 p0.fType,.int .u16 p0.fClass,.slice Ap0_0 p0.fRecords.length cp0_0,.int .i64 p0.fUntil,.int .i64 p0.fRank,.int .i64 p0.fEpoch,.int .i64 p0.fSource] 41 (0,0))::H,R,φ⟩ (fun _ h=>h) ?_
 refine g_if rfl rfl rfl rfl rfl (fun h2=>?_) (fun h2=>?_)
 ·
  replace hm:=ite_f hm (of_decide_eq_false h2)
  refine g_v rfl (r_field (n:=0) Try.underlying41 rfl Try.sizeOf3 rfl rfl)<|g_do rfl rfl rfl rfl rfl h2<|g_v rfl (r_load (tag:=100010) rfl rfl rfl Try.isAgg3)<|g_do rfl rfl rfl rfl rfl h2<|g_v rfl (r_gtr rfl rfl)<|g_v rfl (r_pick0 rfl h2)<|g_v rfl r_move ?_
  refine g_if rfl rfl rfl rfl rfl (fun h3=>?_) (fun h3=>?_)
  ·
   replace hm:=ite_f hm (of_decide_eq_false h3)
   refine g_v rfl (r_field (n:=1) Try.underlying41 rfl Try.sizeOf9 rfl rfl)<|g_do rfl rfl rfl rfl rfl h3<|g_v rfl (r_load (tag:=100010) rfl rfl rfl Try.isAgg9)<|g_do rfl rfl rfl rfl rfl h3 ?_
   replace hm:=bnd hm
   obtain ⟨x4,hx5,hm⟩:=hm
   refine g_cn ⟨w0,M,_,_,φ⟩ (fun _ h=>h) Try.call47 rfl rfl (c_ref03_Check p0.fName _ hx5) (fun _ _=>?_)
   refine g_do rfl rfl rfl rfl rfl h3<|g_v rfl (r_neq rfl rfl)<|g_v rfl (r_pick0 rfl h3)<|g_v rfl r_move ?_
   refine g_if rfl rfl rfl rfl rfl (fun h6=>?_) (fun h6=>?_)
   ·
    replace hm:=ite_f hm (of_decide_eq_false h6)
    refine g_v rfl (r_field (n:=5) Try.underlying41 rfl Try.sizeOf3 rfl rfl)<|g_do rfl rfl rfl rfl rfl h6<|g_v rfl (r_load (tag:=100010) rfl rfl rfl Try.isAgg3)<|g_do rfl rfl rfl rfl rfl h6<|g_v rfl (r_lss rfl rfl)<|g_v rfl (r_pick0 rfl h6)<|g_v rfl r_move ?_
    refine g_if rfl rfl rfl rfl rfl (fun h7=>?_) (fun h7=>?_)
    ·
     replace hm:=ite_f hm (of_decide_eq_false h7)
     refine g_v rfl (r_field (n:=5) Try.underlying41 rfl Try.sizeOf3 rfl rfl)<|g_do rfl rfl rfl rfl rfl h7<|g_v rfl (r_load (tag:=100010) rfl rfl rfl Try.isAgg3)<|g_do rfl rfl rfl rfl rfl h7<|g_v rfl (r_gtr rfl rfl)<|g_v rfl (r_pick0 rfl h7)<|g_v rfl r_move ?_
     refine g_if rfl rfl rfl rfl rfl (fun h8=>?_) (fun h8=>?_)
     ·
      replace hm:=ite_f hm (of_decide_eq_false h8)
      refine g_v rfl (r_field (n:=6) Try.underlying41 rfl Try.sizeOf3 rfl rfl)<|g_do rfl rfl rfl rfl rfl h8<|g_v rfl (r_load (tag:=100010) rfl rfl rfl Try.isAgg3)<|g_do rfl rfl rfl rfl rfl h8<|g_v rfl (r_lss rfl rfl)<|g_v rfl (r_pick0 rfl h8)<|g_v rfl r_move ?_
      refine g_if rfl rfl rfl rfl rfl (fun h9=>?_) (fun h9=>?_)
      ·
       replace hm:=ite_f hm (of_decide_eq_false h9)
       refine g_v rfl (r_field (n:=6) Try.underlying41 rfl Try.sizeOf3 rfl rfl)<|g_do rfl rfl rfl rfl rfl h9<|g_v rfl (r_load (tag:=100010) rfl rfl rfl Try.isAgg3)<|g_do rfl rfl rfl rfl rfl h9<|g_v rfl (r_gtr rfl rfl)<|g_v rfl (r_pick0 rfl h9)<|g_v rfl r_move ?_
       refine g_if rfl rfl rfl rfl rfl (fun h10=>?_) (fun h10=>?_)
       ·
        replace hm:=ite_f hm (of_decide_eq_false h10)
        refine g_v rfl (r_field (n:=7) Try.underlying41 rfl Try.sizeOf3 rfl rfl)<|g_do rfl rfl rfl rfl rfl h10<|g_v rfl (r_load (tag:=100010) rfl rfl rfl Try.isAgg3)<|g_do rfl rfl rfl rfl rfl h10<|g_v rfl (r_lss rfl rfl)<|g_v rfl (r_pick0 rfl h10)<|g_v rfl r_move ?_
        refine g_if rfl rfl rfl rfl rfl (fun h11=>?_) (fun h11=>?_)
        ·
         replace hm:=ite_f hm (of_decide_eq_false h11)
         refine g_v rfl (r_field (n:=7) Try.underlying41 rfl Try.sizeOf3 rfl rfl)<|g_do rfl rfl rfl rfl rfl h11<|g_v rfl (r_load (tag:=100010) rfl rfl rfl Try.isAgg3)<|g_do rfl rfl rfl rfl rfl h11<|g_v rfl (r_gtr rfl rfl)<|g_v rfl (r_pick0 rfl h11)<|g_nil<|d_then ?_
         refine c_flat [(1,.pointer (some ⟨g1,0,none⟩)),(50,.bool (decide (1099511627776 < p0.fEpoch)))] ⟨rfl,rfl,trivial⟩ (fun u=>?_)
         refine c_cond rfl (fun h12=>?_) (fun h12=>?_)
         ·
          replace hm:=ite_t hm (of_decide_eq_true h12)
          refine c_seq<|c_region<|g_v rfl r_assign<|g_nil<|d_then<|c_ret<|d_ret_then ?_
          cases hm
          exact d_retC () Try.results48 (res_tmp (res_nil rfl)) trivial (fun W h=>ok_pre (H1:=[_]) (R1:=[]) h (fun W hφ=>hφ)) (.inr rfl)
         replace hm:=ite_f hm (of_decide_eq_false h12)
         refine c_skip<|d_then<|c_seq<|c_region<|g_v rfl r_assign<|g_nil<|d_then<|c_seq ?_
         refine c_cut (ι:=Int) [1,3] (fun i15=>[(3,.int .i64 i15)]) (fun i15=>⟨w0,M,(100010,g1,.cells #[.int .i64 p0.fKind,.string p0.fName,.int .u16 p0.fType,.int .u16 p0.fClass,.slice Ap0_0 p0.fRecords.length cp0_0,.int .i64 p0.fUntil,.int .i64 p0.fRank,.int .i64 p0.fEpoch,.int .i64 p0.fSource] 41 (0,0))::H,R,φ⟩) (fun i15=>m_ref16_Check_j1 p0 i15 = some r) ?_ (fun i15 u hm=>?_)
         ·
          refine c_seq<|c_region<|g_v rfl (r_field (n:=0) Try.underlying41 rfl Try.sizeOf3 rfl rfl)<|g_v rfl (r_load (tag:=100010) rfl rfl rfl Try.isAgg3)<|g_v rfl (r_eql rfl rfl)<|g_nil<|d_then ?_
          refine c_cond rfl (fun h131=>?_) (fun h131=>?_)
          ·
           replace hm:=ite_t hm (of_decide_eq_true h131)
           refine c_seq<|c_region<|g_v rfl r_assign<|g_nil<|d_then<|c_seq<|c_region<|g_v rfl (r_field (n:=4) Try.underlying41 rfl Try.sizeOf39 rfl rfl)<|g_v rfl (r_load (tag:=100010) rfl rfl rfl Try.isAgg39)<|g_v rfl (r_lenL Try.underlying39 rfl) ?_
           refine g_v rfl (r_eql rfl rfl)<|g_nil<|d_then ?_
           refine c_flat [(1,.pointer (some ⟨g1,0,none⟩)),(3,.int .i64 64),(57,.bool (decide ((p0.fRecords.length : Int) = 0)))] ⟨rfl,rfl,rfl,trivial⟩ (fun u=>?_)
           refine c_cond rfl (fun h132=>?_) (fun h132=>?_)
           ·
            replace hm:=ite_t hm (of_decide_eq_true h132)
            refine c_seq<|c_region<|g_v rfl r_assign<|g_nil<|d_then<|c_ret<|d_ret_then<|d_ret_then ?_
            cases hm
            exact d_retC () Try.results48 (res_tmp (res_nil rfl)) trivial (fun W h=>ok_pre (H1:=[_]) (R1:=[]) h (fun W hφ=>hφ)) (.inr rfl)
           replace hm:=ite_f hm (of_decide_eq_false h132)
           refine c_skip ?_
           exact d_round 64 hm Nat.zero_lt_one ⟨rfl,rfl,trivial⟩ (fun W h=>h.phi (fun W hφ=>hφ))
          replace hm:=ite_f hm (of_decide_eq_false h131)
          refine c_skip ?_
          exact d_round 1 hm Nat.zero_lt_one ⟨rfl,rfl,trivial⟩ (fun W h=>h.phi (fun W hφ=>hφ))
         unfold m_ref16_Check_j1 at hm
         refine d_flat [(1,.pointer (some ⟨g1,0,none⟩)),(3,.int .i64 i15)] ⟨rfl,rfl,trivial⟩ (fun u=>?_)
         refine d_then<|c_seq ?_
         refine c_cut (ι:=Unit) [1] (fun _=>[]) (fun _=>⟨w0,M,(100010,g1,.cells #[.int .i64 p0.fKind,.string p0.fName,.int .u16 p0.fType,.int .u16 p0.fClass,.slice Ap0_0 p0.fRecords.length cp0_0,.int .i64 p0.fUntil,.int .i64 p0.fRank,.int .i64 p0.fEpoch,.int .i64 p0.fSource] 41 (0,0))::H,R,φ⟩) (fun _=>m_ref16_Check_j2 p0 = some r) ?_ (fun _ u hm=>?_)
         ·
          refine c_seq<|c_region<|g_v rfl (r_field (n:=0) Try.underlying41 rfl Try.sizeOf3 rfl rfl)<|g_v rfl (r_load (tag:=100010) rfl rfl rfl Try.isAgg3)<|g_v rfl (r_eql rfl rfl)<|g_v rfl r_move ?_
          refine g_if rfl rfl rfl rfl rfl (fun h127=>?_) (fun h127=>?_)
          ·
           replace hm:=ite_t hm (of_decide_eq_true h127)
           refine g_v rfl (r_field (n:=2) Try.underlying41 rfl Try.sizeOf22 rfl rfl)<|g_do rfl rfl rfl rfl rfl h127<|g_v rfl (r_load (tag:=100010) rfl rfl rfl Try.isAgg22)<|g_do rfl rfl rfl rfl rfl h127<|g_v rfl (r_neq rfl rfl)<|g_v rfl (r_pick1 rfl h127)<|g_v rfl r_move ?_
           refine g_if rfl rfl rfl rfl rfl (fun h128=>?_) (fun h128=>?_)
           ·
            replace hm:=ite_f hm (of_decide_eq_false h128)
            refine g_v rfl (r_field (n:=4) Try.underlying41 rfl Try.sizeOf39 rfl rfl)<|g_do rfl rfl rfl rfl rfl h128<|g_v rfl (r_load (tag:=100010) rfl rfl rfl Try.isAgg39)<|g_do rfl rfl rfl rfl rfl h128<|g_v rfl (r_lenL Try.underlying39 rfl)<|g_do rfl rfl rfl rfl rfl h128<|g_v rfl r_move<|g_do rfl rfl rfl rfl rfl h128<|g_v rfl (r_gtr rfl rfl)<|g_v rfl (r_pick0 rfl h128) ?_
            refine g_nil<|d_then ?_
            refine c_flat [(1,.pointer (some ⟨g1,0,none⟩)),(72,.bool (decide (i15 < (p0.fRecords.length : Int))))] ⟨rfl,rfl,trivial⟩ (fun u=>?_)
            refine c_cond rfl (fun h129=>?_) (fun h129=>?_)
            ·
             replace hm:=ite_t hm (of_decide_eq_true h129)
             refine c_seq<|c_region<|g_v rfl r_assign<|g_nil<|d_then<|c_ret<|d_ret_then<|d_ret_then ?_
             cases hm
             exact d_retC () Try.results48 (res_tmp (res_nil rfl)) trivial (fun W h=>ok_pre (H1:=[_]) (R1:=[]) h (fun W hφ=>hφ)) (.inr rfl)
            replace hm:=ite_f hm (of_decide_eq_false h129)
            refine c_skip ?_
            exact d_round () hm Nat.zero_lt_one ⟨rfl,trivial⟩ (fun W h=>h.phi (fun W hφ=>hφ))
           replace hm:=ite_t hm (of_decide_eq_true h128)
           iterate 4 refine g_no rfl rfl rfl rfl rfl h128 ?_
           refine g_v rfl (r_pick1 rfl h128)<|g_nil<|d_then ?_
           refine c_flat [(1,.pointer (some ⟨g1,0,none⟩)),(72,.bool true)] ⟨rfl,rfl,trivial⟩ (fun u=>?_)
           refine c_cond1 rfl rfl<|c_seq<|c_region<|g_v rfl r_assign<|g_nil<|d_then<|c_ret<|d_ret_then<|d_ret_then ?_
           cases hm
           exact d_retC () Try.results48 (res_tmp (res_nil rfl)) trivial (fun W h=>ok_pre (H1:=[_]) (R1:=[]) h (fun W hφ=>hφ)) (.inr rfl)
          replace hm:=ite_f hm (of_decide_eq_false h127)
          refine g_no rfl rfl rfl rfl rfl h127<|g_no rfl rfl rfl rfl rfl h127<|g_v rfl (r_pick0 rfl h127)<|g_v rfl r_move<|g_do rfl rfl rfl rfl rfl rfl<|g_v rfl (r_field (n:=4) Try.underlying41 rfl Try.sizeOf39 rfl rfl)<|g_do rfl rfl rfl rfl rfl rfl<|g_v rfl (r_load (tag:=100010) rfl rfl rfl Try.isAgg39)<|g_do rfl rfl rfl rfl rfl rfl<|g_v rfl (r_lenL Try.underlying39 rfl) ?_
          refine g_do rfl rfl rfl rfl rfl rfl<|g_v rfl r_move<|g_do rfl rfl rfl rfl rfl rfl<|g_v rfl (r_gtr rfl rfl)<|g_v rfl (r_pick0 rfl rfl)<|g_nil<|d_then ?_
          refine c_flat [(1,.pointer (some ⟨g1,0,none⟩)),(72,.bool (decide (i15 < (p0.fRecords.length : Int))))] ⟨rfl,rfl,trivial⟩ (fun u=>?_)
          refine c_cond rfl (fun h130=>?_) (fun h130=>?_)
          ·
           replace hm:=ite_t hm (of_decide_eq_true h130)
           refine c_seq<|c_region<|g_v rfl r_assign<|g_nil<|d_then<|c_ret<|d_ret_then<|d_ret_then ?_
           cases hm
           exact d_retC () Try.results48 (res_tmp (res_nil rfl)) trivial (fun W h=>ok_pre (H1:=[_]) (R1:=[]) h (fun W hφ=>hφ)) (.inr rfl)
          replace hm:=ite_f hm (of_decide_eq_false h130)
          refine c_skip ?_
          exact d_round () hm Nat.zero_lt_one ⟨rfl,trivial⟩ (fun W h=>h.phi (fun W hφ=>hφ))
         unfold m_ref16_Check_j2 at hm
         refine d_flat [(1,.pointer (some ⟨g1,0,none⟩))] ⟨rfl,trivial⟩ (fun u=>?_)
         refine d_then<|c_seq<|c_seq<|c_region<|g_v rfl r_assign<|g_nil<|d_then ?_
         refine c_cut (ι:=Unit) [] (fun _=>[]) (fun _=>⟨w0,M,H,R,φ⟩) (fun _=>m_ref16_Check_j3 = some r) ?_ (fun _ u hm=>?_)
         ·
          refine c_block ?_
          replace hm:=bnd hm
          obtain ⟨out4,hl4,hr4⟩:=hm
          obtain ⟨n103',hl4⟩:=loop_lp hl4
          refine c_loopU (ι:=Nat×Int) [1,4] (fun ⟨n103,i82⟩=>[(4,.int .i64 i82)]) (fun ⟨n103,i82⟩=>⟨w0,M,(100010,g1,.cells #[.int .i64 p0.fKind,.string p0.fName,.int .u16 p0.fType,.int .u16 p0.fClass,.slice Ap0_0 p0.fRecords.length cp0_0,.int .i64 p0.fUntil,.int .i64 p0.fRank,.int .i64 p0.fEpoch,.int .i64 p0.fSource] 41 (0,0))::H,R,φ⟩) (fun ⟨n103,i82⟩=>Lp (fun s=>m_ref16_Check_s4 p0 s) n103 i82 out4) (fun ⟨n103,i82⟩=>n103) (n103',0) hl4 ⟨rfl,rfl,trivial⟩ (fun W h=>h.phi (fun W hφ=>hφ)) (fun ⟨n103,i82⟩ u hlp=>?_)
          obtain ⟨o4,hm,hnx4⟩:=lp_step hlp
          clear hlp
          replace hm : m_ref16_Check_s4 p0 i82 = some o4:=hm
          unfold m_ref16_Check_s4 at hm
          refine c_flat [(1,.pointer (some ⟨g1,0,none⟩)),(4,.int .i64 i82)] ⟨rfl,rfl,trivial⟩ (fun u=>?_)
          refine c_seq<|c_seq<|c_region<|g_v rfl r_move<|g_v rfl (r_field (n:=4) Try.underlying41 rfl Try.sizeOf39 rfl rfl)<|g_v rfl (r_load (tag:=100010) rfl rfl rfl Try.isAgg39)<|g_v rfl (r_lenL Try.underlying39 rfl)<|g_v rfl (r_lss rfl rfl)<|g_nil<|d_then ?_
          refine c_cond rfl (fun h104=>?_) (fun h104=>?_)
          ·
           replace hm:=ite_t hm (of_decide_eq_true h104)
           refine c_skip<|d_then<|c_seq<|c_block<|c_seq<|c_region<|g_v rfl (r_field (n:=4) Try.underlying41 rfl Try.sizeOf39 rfl rfl)<|g_v rfl (r_load (tag:=100010) rfl rfl rfl Try.isAgg39)<|g_v rfl r_move ?_
           replace hm:=bnd hm
           obtain ⟨x105,hx105,hm⟩:=hm
           refine g_know _ (fun W hS=>cl_at (p:=(Sta.mk w0 M H R φ).ok) (sz:=5) (fun _=>rfl) (by decide) (ok_pre (H1:=[_]) (R1:=[]) hS (fun W h=>h)) fp0_0 hx105) ?_
           rintro ⟨ad106,hA108,f107⟩
           refine g_v rfl (r_ix Try.underlying39 Try.sizeOf54 rfl hA108 rfl hx105)<|g_v rfl (r_ldA rfl Try.isAgg54 Try.sizeOf54 (fun W hS=>(f107 W (ok_pre (H1:=[_]) (R1:=[]) hS (fun W h=>h))).take 5) rfl) ?_
           refine g_e rfl (e_alloc 100050 Try.zeroValue54) (fun g109 _=>?_)
           refine g_storeL (tag:=100050) rfl rfl rfl rfl Try.sizeOf54 rfl rfl<|g_nil<|d_then ?_
           refine c_flat [(1,.pointer (some ⟨g1,0,none⟩)),(4,.int .i64 i82),(5,.pointer (some ⟨g109,0,none⟩))] ⟨rfl,rfl,rfl,trivial⟩ (fun u=>?_)
           refine c_sta ⟨w0,M,(100050,g109,.cells #[.string x105.fName,.int .u16 x105.fType,.int .u16 x105.fClass,.int .u32 x105.fTTL,.string x105.fData] 54 (0,0))::(100010,g1,.cells #[.int .i64 p0.fKind,.string p0.fName,.int .u16 p0.fType,.int .u16 p0.fClass,.slice Ap0_0 p0.fRecords.length cp0_0,.int .i64 p0.fUntil,.int .i64 p0.fRank,.int .i64 p0.fEpoch,.int .i64 p0.fSource] 41 (0,0))::H,R,φ⟩ (fun _ h=>h)<|c_seq<|c_region<|g_v rfl (r_field (n:=0) Try.underlying54 rfl Try.sizeOf9 rfl rfl)<|g_v rfl (r_load (tag:=100050) rfl rfl rfl Try.isAgg9)<|g_v rfl (r_field (n:=1) Try.underlying41 rfl Try.sizeOf9 rfl rfl)<|g_v rfl (r_load (tag:=100010) rfl rfl rfl Try.isAgg9) ?_
           replace hm:=bnd hm
           obtain ⟨x110,hx111,hm⟩:=hm
           refine g_cn ⟨w0,M,_,_,φ⟩ (fun _ h=>h) Try.call79 rfl rfl (c_ref03_Same x105.fName p0.fName _ hx111) (fun _ _=>?_)
           refine g_v rfl r_assign<|g_nil<|d_then<|c_seq<|c_region<|g_v rfl (r_loadA (tag:=100050) rfl rfl Try.isAgg54 Try.sizeOf54 rfl rfl) ?_
           replace hm:=bnd hm
           obtain ⟨x112,hx113,hm⟩:=hm
           refine g_cn ⟨w0,M,_,_,φ⟩ (fun _ h=>h) Try.call80 rfl rfl (c_ref05_Check x105 _ hx113) (fun _ _=>?_)
           refine g_v rfl (r_neq rfl rfl)<|g_v rfl r_move ?_
           refine g_if rfl rfl rfl rfl rfl (fun h114=>?_) (fun h114=>?_)
           ·
            replace hm:=ite_f hm (of_decide_eq_false h114)
            refine g_v rfl (r_field (n:=2) Try.underlying54 rfl Try.sizeOf22 rfl rfl)<|g_do rfl rfl rfl rfl rfl h114<|g_v rfl (r_load (tag:=100050) rfl rfl rfl Try.isAgg22)<|g_do rfl rfl rfl rfl rfl h114<|g_v rfl (r_field (n:=3) Try.underlying41 rfl Try.sizeOf22 rfl rfl)<|g_do rfl rfl rfl rfl rfl h114<|g_v rfl (r_load (tag:=100010) rfl rfl rfl Try.isAgg22)<|g_do rfl rfl rfl rfl rfl h114<|g_v rfl (r_neq rfl rfl)<|g_v rfl (r_pick0 rfl h114) ?_
            refine g_v rfl r_move ?_
            refine g_if rfl rfl rfl rfl rfl (fun h115=>?_) (fun h115=>?_)
            ·
             replace hm:=ite_f hm (of_decide_eq_false h115)
             refine g_v rfl (r_field (n:=0) Try.underlying41 rfl Try.sizeOf3 rfl rfl)<|g_do rfl rfl rfl rfl rfl h115<|g_v rfl (r_load (tag:=100010) rfl rfl rfl Try.isAgg3)<|g_do rfl rfl rfl rfl rfl h115<|g_v rfl (r_eql rfl rfl)<|g_do rfl rfl rfl rfl rfl h115<|g_v rfl r_move ?_
             refine g_if rfl rfl rfl rfl rfl (fun h116=>?_) (fun h116=>?_)
             ·
              replace hm:=ite_t hm (of_decide_eq_true h116)
              refine g_v rfl r_move<|g_do rfl rfl rfl rfl rfl h116<|g_v rfl (r_not rfl)<|g_do rfl rfl rfl rfl rfl h116<|g_v rfl r_move ?_
              refine g_if rfl rfl rfl rfl rfl (fun h117=>?_) (fun h117=>?_)
              ·
               have h117' : x110 = true:=by revert h117; cases x110 <;> simp
               replace hm:=ite_t hm h117'
               refine g_v rfl (r_field (n:=1) Try.underlying54 rfl Try.sizeOf22 rfl rfl)<|g_do rfl rfl rfl rfl rfl h117<|g_v rfl (r_load (tag:=100050) rfl rfl rfl Try.isAgg22)<|g_do rfl rfl rfl rfl rfl h117<|g_v rfl (r_field (n:=2) Try.underlying41 rfl Try.sizeOf22 rfl rfl)<|g_do rfl rfl rfl rfl rfl h117<|g_v rfl (r_load (tag:=100010) rfl rfl rfl Try.isAgg22)<|g_do rfl rfl rfl rfl rfl h117<|g_v rfl (r_neq rfl rfl)<|g_do rfl rfl rfl rfl rfl h116 ?_
               refine g_v rfl (r_pick0 rfl h117)<|g_do rfl rfl rfl rfl rfl h115<|g_v rfl (r_pick1 rfl h116)<|g_v rfl (r_pick0 rfl h115)<|g_v rfl r_move ?_
               refine g_if rfl rfl rfl rfl rfl (fun h118=>?_) (fun h118=>?_)
               ·
                replace hm:=ite_f hm (of_decide_eq_false h118)
                refine g_v rfl (r_field (n:=0) Try.underlying41 rfl Try.sizeOf3 rfl rfl)<|g_do rfl rfl rfl rfl rfl h118<|g_v rfl (r_load (tag:=100010) rfl rfl rfl Try.isAgg3)<|g_do rfl rfl rfl rfl rfl h118<|g_v rfl (r_neq rfl rfl)<|g_do rfl rfl rfl rfl rfl h118<|g_v rfl r_move ?_
                refine g_if rfl rfl rfl rfl rfl (fun h119=>?_) (fun h119=>?_)
                ·
                 replace hm:=ite_t hm (of_decide_eq_true h119)
                 refine g_v rfl (r_field (n:=1) Try.underlying54 rfl Try.sizeOf22 rfl rfl)<|g_do rfl rfl rfl rfl rfl h119<|g_v rfl (r_load (tag:=100050) rfl rfl rfl Try.isAgg22)<|g_do rfl rfl rfl rfl rfl h119<|g_v rfl (r_neq rfl rfl)<|g_do rfl rfl rfl rfl rfl h118<|g_v rfl (r_pick1 rfl h119)<|g_v rfl (r_pick0 rfl h118)<|g_nil<|d_then ?_
                 refine c_flat [(1,.pointer (some ⟨g1,0,none⟩)),(4,.int .i64 i82),(125,.bool (decide (x105.fType ≠ 6)))] ⟨rfl,rfl,rfl,trivial⟩ (fun u=>?_)
                 refine c_cond rfl (fun h120=>?_) (fun h120=>?_)
                 ·
                  replace hm:=ite_t hm (of_decide_eq_true h120)
                  refine c_seq<|c_region<|g_v rfl r_assign<|g_nil<|d_then<|c_ret<|d_ret_block<|d_ret_then<|d_ret_then<|d_ret_block ?_
                  refine d_ret_then<|d_ret_then ?_
                  replace hm:=nx_out (C:=(fun e : Unit ⊕ Int=>Sum.elim (fun e=>m_ref16_Check_j3) (fun x=>some x) e = some r)) hm hnx4 hr4
                  replace hm : some 1 = some r:=hm
                  cases hm
                  exact d_retC () Try.results48 (res_tmp (res_nil rfl)) trivial (fun W h=>ok_pre (H1:=[_,_]) (R1:=[]) h (fun W hφ=>hφ)) (.inr rfl)
                 replace hm:=ite_f hm (of_decide_eq_false h120)
                 refine c_skip<|d_normal_block<|d_then<|c_region<|g_v rfl r_move<|g_v rfl (r_add rfl rfl rfl)<|g_v rfl r_assign<|g_nil ?_
                 obtain ⟨n121,hn121,hlp⟩:=nx_inl hm hnx4
                 exact d_round (n121,w64 (i82 + 1)) hlp hn121 ⟨rfl,rfl,trivial⟩ (fun W h=>(h.dropH (t:=100050) rfl).phi (fun W hφ=>hφ))
                replace hm:=ite_f hm (of_decide_eq_false h119)
                refine g_no rfl rfl rfl rfl rfl h119<|g_no rfl rfl rfl rfl rfl h119<|g_do rfl rfl rfl rfl rfl h118<|g_v rfl (r_pick0 rfl h119)<|g_v rfl (r_pick0 rfl h118)<|g_nil<|d_then ?_
                refine c_flat [(1,.pointer (some ⟨g1,0,none⟩)),(4,.int .i64 i82),(125,.bool false)] ⟨rfl,rfl,rfl,trivial⟩ (fun u=>?_)
                refine c_cond0 rfl rfl<|c_skip<|d_normal_block<|d_then<|c_region<|g_v rfl r_move<|g_v rfl (r_add rfl rfl rfl)<|g_v rfl r_assign<|g_nil ?_
                obtain ⟨n122,hn122,hlp⟩:=nx_inl hm hnx4
                exact d_round (n122,w64 (i82 + 1)) hlp hn122 ⟨rfl,rfl,trivial⟩ (fun W h=>(h.dropH (t:=100050) rfl).phi (fun W hφ=>hφ))
               replace hm:=ite_t hm (of_decide_eq_true h118)
               iterate 3 refine g_no rfl rfl rfl rfl rfl h118 ?_
               iterate 3 refine g_nu rfl rfl rfl rfl rfl ?_
               refine g_no rfl rfl rfl rfl rfl h118<|g_v rfl (r_pick1 rfl h118)<|g_nil<|d_then ?_
               refine c_flat [(1,.pointer (some ⟨g1,0,none⟩)),(4,.int .i64 i82),(125,.bool true)] ⟨rfl,rfl,rfl,trivial⟩ (fun u=>?_)
               refine c_cond1 rfl rfl<|c_seq<|c_region<|g_v rfl r_assign<|g_nil<|d_then<|c_ret<|d_ret_block<|d_ret_then<|d_ret_then ?_
               refine d_ret_block<|d_ret_then<|d_ret_then ?_
               replace hm:=nx_out (C:=(fun e : Unit ⊕ Int=>Sum.elim (fun e=>m_ref16_Check_j3) (fun x=>some x) e = some r)) hm hnx4 hr4
               replace hm : some 1 = some r:=hm
               cases hm
               exact d_retC () Try.results48 (res_tmp (res_nil rfl)) trivial (fun W h=>ok_pre (H1:=[_,_]) (R1:=[]) h (fun W hφ=>hφ)) (.inr rfl)
              have h117' : x110 = false:=by revert h117; cases x110 <;> simp
              replace hm:=ite_f hm (bool_nt h117')
              iterate 4 refine g_no rfl rfl rfl rfl rfl h117 ?_
              refine g_do rfl rfl rfl rfl rfl h116<|g_v rfl (r_pick1 rfl h117)<|g_do rfl rfl rfl rfl rfl h115<|g_v rfl (r_pick1 rfl h116)<|g_v rfl (r_pick0 rfl h115)<|g_v rfl r_move ?_
              iterate 4 refine g_no rfl rfl rfl rfl rfl rfl ?_
              iterate 3 refine g_nu rfl rfl rfl rfl rfl ?_
              refine g_no rfl rfl rfl rfl rfl rfl<|g_v rfl (r_pick1 rfl rfl)<|g_nil<|d_then ?_
              refine c_flat [(1,.pointer (some ⟨g1,0,none⟩)),(4,.int .i64 i82),(125,.bool true)] ⟨rfl,rfl,rfl,trivial⟩ (fun u=>?_)
              refine c_cond1 rfl rfl<|c_seq<|c_region<|g_v rfl r_assign<|g_nil<|d_then<|c_ret<|d_ret_block<|d_ret_then<|d_ret_then ?_
              refine d_ret_block<|d_ret_then<|d_ret_then ?_
              replace hm:=nx_out (C:=(fun e : Unit ⊕ Int=>Sum.elim (fun e=>m_ref16_Check_j3) (fun x=>some x) e = some r)) hm hnx4 hr4
              replace hm : some 1 = some r:=hm
              cases hm
              exact d_retC () Try.results48 (res_tmp (res_nil rfl)) trivial (fun W h=>ok_pre (H1:=[_,_]) (R1:=[]) h (fun W hφ=>hφ)) (.inr rfl)
             replace hm:=ite_f hm (of_decide_eq_false h116)
             refine g_no rfl rfl rfl rfl rfl h116<|g_no rfl rfl rfl rfl rfl h116 ?_
             iterate 5 refine g_nu rfl rfl rfl rfl rfl ?_
             refine g_no rfl rfl rfl rfl rfl h116<|g_do rfl rfl rfl rfl rfl h115<|g_v rfl (r_pick0 rfl h116)<|g_v rfl (r_pick0 rfl h115)<|g_v rfl r_move<|g_do rfl rfl rfl rfl rfl rfl<|g_v rfl (r_field (n:=0) Try.underlying41 rfl Try.sizeOf3 rfl rfl)<|g_do rfl rfl rfl rfl rfl rfl<|g_v rfl (r_load (tag:=100010) rfl rfl rfl Try.isAgg3)<|g_do rfl rfl rfl rfl rfl rfl ?_
             refine g_v rfl (r_neq rfl rfl)<|g_do rfl rfl rfl rfl rfl rfl<|g_v rfl r_move ?_
             refine g_if rfl rfl rfl rfl rfl (fun h123=>?_) (fun h123=>?_)
             ·
              replace hm:=ite_t hm (of_decide_eq_true h123)
              refine g_v rfl (r_field (n:=1) Try.underlying54 rfl Try.sizeOf22 rfl rfl)<|g_do rfl rfl rfl rfl rfl h123<|g_v rfl (r_load (tag:=100050) rfl rfl rfl Try.isAgg22)<|g_do rfl rfl rfl rfl rfl h123<|g_v rfl (r_neq rfl rfl)<|g_do rfl rfl rfl rfl rfl rfl<|g_v rfl (r_pick1 rfl h123)<|g_v rfl (r_pick0 rfl rfl)<|g_nil<|d_then ?_
              refine c_flat [(1,.pointer (some ⟨g1,0,none⟩)),(4,.int .i64 i82),(125,.bool (decide (x105.fType ≠ 6)))] ⟨rfl,rfl,rfl,trivial⟩ (fun u=>?_)
              refine c_cond rfl (fun h124=>?_) (fun h124=>?_)
              ·
               replace hm:=ite_t hm (of_decide_eq_true h124)
               refine c_seq<|c_region<|g_v rfl r_assign<|g_nil<|d_then<|c_ret<|d_ret_block<|d_ret_then<|d_ret_then<|d_ret_block ?_
               refine d_ret_then<|d_ret_then ?_
               replace hm:=nx_out (C:=(fun e : Unit ⊕ Int=>Sum.elim (fun e=>m_ref16_Check_j3) (fun x=>some x) e = some r)) hm hnx4 hr4
               replace hm : some 1 = some r:=hm
               cases hm
               exact d_retC () Try.results48 (res_tmp (res_nil rfl)) trivial (fun W h=>ok_pre (H1:=[_,_]) (R1:=[]) h (fun W hφ=>hφ)) (.inr rfl)
              replace hm:=ite_f hm (of_decide_eq_false h124)
              refine c_skip<|d_normal_block<|d_then<|c_region<|g_v rfl r_move<|g_v rfl (r_add rfl rfl rfl)<|g_v rfl r_assign<|g_nil ?_
              obtain ⟨n125,hn125,hlp⟩:=nx_inl hm hnx4
              exact d_round (n125,w64 (i82 + 1)) hlp hn125 ⟨rfl,rfl,trivial⟩ (fun W h=>(h.dropH (t:=100050) rfl).phi (fun W hφ=>hφ))
             replace hm:=ite_f hm (of_decide_eq_false h123)
             refine g_no rfl rfl rfl rfl rfl h123<|g_no rfl rfl rfl rfl rfl h123<|g_do rfl rfl rfl rfl rfl rfl<|g_v rfl (r_pick0 rfl h123)<|g_v rfl (r_pick0 rfl rfl)<|g_nil<|d_then ?_
             refine c_flat [(1,.pointer (some ⟨g1,0,none⟩)),(4,.int .i64 i82),(125,.bool false)] ⟨rfl,rfl,rfl,trivial⟩ (fun u=>?_)
             refine c_cond0 rfl rfl<|c_skip<|d_normal_block<|d_then<|c_region<|g_v rfl r_move<|g_v rfl (r_add rfl rfl rfl)<|g_v rfl r_assign<|g_nil ?_
             obtain ⟨n126,hn126,hlp⟩:=nx_inl hm hnx4
             exact d_round (n126,w64 (i82 + 1)) hlp hn126 ⟨rfl,rfl,trivial⟩ (fun W h=>(h.dropH (t:=100050) rfl).phi (fun W hφ=>hφ))
            replace hm:=ite_t hm (of_decide_eq_true h115)
            iterate 3 refine g_no rfl rfl rfl rfl rfl h115 ?_
            iterate 9 refine g_nu rfl rfl rfl rfl rfl ?_
            refine g_no rfl rfl rfl rfl rfl h115<|g_v rfl (r_pick1 rfl h115)<|g_v rfl r_move ?_
            iterate 4 refine g_no rfl rfl rfl rfl rfl rfl ?_
            iterate 3 refine g_nu rfl rfl rfl rfl rfl ?_
            refine g_no rfl rfl rfl rfl rfl rfl<|g_v rfl (r_pick1 rfl rfl)<|g_nil<|d_then ?_
            refine c_flat [(1,.pointer (some ⟨g1,0,none⟩)),(4,.int .i64 i82),(125,.bool true)] ⟨rfl,rfl,rfl,trivial⟩ (fun u=>?_)
            refine c_cond1 rfl rfl<|c_seq<|c_region<|g_v rfl r_assign<|g_nil<|d_then<|c_ret<|d_ret_block<|d_ret_then<|d_ret_then ?_
            refine d_ret_block<|d_ret_then<|d_ret_then ?_
            replace hm:=nx_out (C:=(fun e : Unit ⊕ Int=>Sum.elim (fun e=>m_ref16_Check_j3) (fun x=>some x) e = some r)) hm hnx4 hr4
            replace hm : some 1 = some r:=hm
            cases hm
            exact d_retC () Try.results48 (res_tmp (res_nil rfl)) trivial (fun W h=>ok_pre (H1:=[_,_]) (R1:=[]) h (fun W hφ=>hφ)) (.inr rfl)
           replace hm:=ite_t hm (of_decide_eq_true h114)
           iterate 4 refine g_no rfl rfl rfl rfl rfl h114 ?_
           refine g_v rfl (r_pick1 rfl h114)<|g_v rfl r_move ?_
           iterate 4 refine g_no rfl rfl rfl rfl rfl rfl ?_
           iterate 9 refine g_nu rfl rfl rfl rfl rfl ?_
           refine g_no rfl rfl rfl rfl rfl rfl<|g_v rfl (r_pick1 rfl rfl)<|g_v rfl r_move ?_
           iterate 4 refine g_no rfl rfl rfl rfl rfl rfl ?_
           iterate 3 refine g_nu rfl rfl rfl rfl rfl ?_
           refine g_no rfl rfl rfl rfl rfl rfl<|g_v rfl (r_pick1 rfl rfl)<|g_nil<|d_then ?_
           refine c_flat [(1,.pointer (some ⟨g1,0,none⟩)),(4,.int .i64 i82),(125,.bool true)] ⟨rfl,rfl,rfl,trivial⟩ (fun u=>?_)
           refine c_cond1 rfl rfl<|c_seq<|c_region<|g_v rfl r_assign<|g_nil<|d_then<|c_ret<|d_ret_block<|d_ret_then<|d_ret_then ?_
           refine d_ret_block<|d_ret_then<|d_ret_then ?_
           replace hm:=nx_out (C:=(fun e : Unit ⊕ Int=>Sum.elim (fun e=>m_ref16_Check_j3) (fun x=>some x) e = some r)) hm hnx4 hr4
           replace hm : some 1 = some r:=hm
           cases hm
           exact d_retC () Try.results48 (res_tmp (res_nil rfl)) trivial (fun W h=>ok_pre (H1:=[_,_]) (R1:=[]) h (fun W hφ=>hφ)) (.inr rfl)
          replace hm:=ite_f hm (of_decide_eq_false h104)
          refine c_exit<|d_exit_then<|d_exit_then<|d_exit_block ?_
          replace hm:=nx_out (C:=(fun e : Unit ⊕ Int=>Sum.elim (fun e=>m_ref16_Check_j3) (fun x=>some x) e = some r)) hm hnx4 hr4
          exact d_round () hm Nat.zero_lt_one trivial (fun W h=>(h.dropH (t:=100010) rfl).phi (fun W hφ=>hφ))
         unfold m_ref16_Check_j3 at hm
         refine d_flat [] trivial (fun u=>?_)
         refine d_sta ⟨w0,M,H,R,φ⟩ (fun _ h=>h)<|d_then<|c_seq<|c_region<|g_v rfl r_assign<|g_nil<|d_then<|c_ret ?_
         cases hm
         exact d_retC () Try.results48 (res_tmp (res_nil rfl)) trivial (fun W h=>ok_pre (H1:=[]) (R1:=[]) h (fun W hφ=>hφ)) (.inr rfl)
        replace hm:=ite_t hm (of_decide_eq_true h11)
        refine g_no rfl rfl rfl rfl rfl h11<|g_no rfl rfl rfl rfl rfl h11<|g_v rfl (r_pick1 rfl h11)<|g_nil<|d_then ?_
        refine c_flat [(1,.pointer (some ⟨g1,0,none⟩)),(50,.bool true)] ⟨rfl,rfl,trivial⟩ (fun u=>?_)
        refine c_cond1 rfl rfl<|c_seq<|c_region<|g_v rfl r_assign<|g_nil<|d_then<|c_ret<|d_ret_then ?_
        cases hm
        exact d_retC () Try.results48 (res_tmp (res_nil rfl)) trivial (fun W h=>ok_pre (H1:=[_]) (R1:=[]) h (fun W hφ=>hφ)) (.inr rfl)
       replace hm:=ite_t hm (of_decide_eq_true h10)
       refine g_no rfl rfl rfl rfl rfl h10<|g_no rfl rfl rfl rfl rfl h10<|g_v rfl (r_pick1 rfl h10)<|g_v rfl r_move ?_
       iterate 3 refine g_no rfl rfl rfl rfl rfl rfl ?_
       refine g_v rfl (r_pick1 rfl rfl)<|g_nil<|d_then ?_
       refine c_flat [(1,.pointer (some ⟨g1,0,none⟩)),(50,.bool true)] ⟨rfl,rfl,trivial⟩ (fun u=>?_)
       refine c_cond1 rfl rfl<|c_seq<|c_region<|g_v rfl r_assign<|g_nil<|d_then<|c_ret<|d_ret_then ?_
       cases hm
       exact d_retC () Try.results48 (res_tmp (res_nil rfl)) trivial (fun W h=>ok_pre (H1:=[_]) (R1:=[]) h (fun W hφ=>hφ)) (.inr rfl)
      replace hm:=ite_t hm (of_decide_eq_true h9)
      refine g_no rfl rfl rfl rfl rfl h9<|g_no rfl rfl rfl rfl rfl h9<|g_v rfl (r_pick1 rfl h9)<|g_v rfl r_move ?_
      iterate 3 refine g_no rfl rfl rfl rfl rfl rfl ?_
      refine g_v rfl (r_pick1 rfl rfl)<|g_v rfl r_move ?_
      iterate 3 refine g_no rfl rfl rfl rfl rfl rfl ?_
      refine g_v rfl (r_pick1 rfl rfl)<|g_nil<|d_then ?_
      refine c_flat [(1,.pointer (some ⟨g1,0,none⟩)),(50,.bool true)] ⟨rfl,rfl,trivial⟩ (fun u=>?_)
      refine c_cond1 rfl rfl<|c_seq<|c_region<|g_v rfl r_assign<|g_nil<|d_then<|c_ret<|d_ret_then ?_
      cases hm
      exact d_retC () Try.results48 (res_tmp (res_nil rfl)) trivial (fun W h=>ok_pre (H1:=[_]) (R1:=[]) h (fun W hφ=>hφ)) (.inr rfl)
     replace hm:=ite_t hm (of_decide_eq_true h8)
     refine g_no rfl rfl rfl rfl rfl h8<|g_no rfl rfl rfl rfl rfl h8<|g_v rfl (r_pick1 rfl h8)<|g_v rfl r_move ?_
     iterate 3 refine g_no rfl rfl rfl rfl rfl rfl ?_
     refine g_v rfl (r_pick1 rfl rfl)<|g_v rfl r_move ?_
     iterate 3 refine g_no rfl rfl rfl rfl rfl rfl ?_
     refine g_v rfl (r_pick1 rfl rfl)<|g_v rfl r_move ?_
     iterate 3 refine g_no rfl rfl rfl rfl rfl rfl ?_
     refine g_v rfl (r_pick1 rfl rfl)<|g_nil<|d_then ?_
     refine c_flat [(1,.pointer (some ⟨g1,0,none⟩)),(50,.bool true)] ⟨rfl,rfl,trivial⟩ (fun u=>?_)
     refine c_cond1 rfl rfl<|c_seq<|c_region<|g_v rfl r_assign<|g_nil<|d_then<|c_ret<|d_ret_then ?_
     cases hm
     exact d_retC () Try.results48 (res_tmp (res_nil rfl)) trivial (fun W h=>ok_pre (H1:=[_]) (R1:=[]) h (fun W hφ=>hφ)) (.inr rfl)
    replace hm:=ite_t hm (of_decide_eq_true h7)
    refine g_no rfl rfl rfl rfl rfl h7<|g_no rfl rfl rfl rfl rfl h7<|g_v rfl (r_pick1 rfl h7)<|g_v rfl r_move ?_
    iterate 3 refine g_no rfl rfl rfl rfl rfl rfl ?_
    refine g_v rfl (r_pick1 rfl rfl)<|g_v rfl r_move ?_
    iterate 3 refine g_no rfl rfl rfl rfl rfl rfl ?_
    refine g_v rfl (r_pick1 rfl rfl)<|g_v rfl r_move ?_
    iterate 3 refine g_no rfl rfl rfl rfl rfl rfl ?_
    refine g_v rfl (r_pick1 rfl rfl)<|g_v rfl r_move ?_
    iterate 3 refine g_no rfl rfl rfl rfl rfl rfl ?_
    refine g_v rfl (r_pick1 rfl rfl)<|g_nil<|d_then ?_
    refine c_flat [(1,.pointer (some ⟨g1,0,none⟩)),(50,.bool true)] ⟨rfl,rfl,trivial⟩ (fun u=>?_)
    refine c_cond1 rfl rfl<|c_seq<|c_region<|g_v rfl r_assign<|g_nil<|d_then<|c_ret<|d_ret_then ?_
    cases hm
    exact d_retC () Try.results48 (res_tmp (res_nil rfl)) trivial (fun W h=>ok_pre (H1:=[_]) (R1:=[]) h (fun W hφ=>hφ)) (.inr rfl)
   replace hm:=ite_t hm (of_decide_eq_true h6)
   refine g_no rfl rfl rfl rfl rfl h6<|g_no rfl rfl rfl rfl rfl h6<|g_v rfl (r_pick1 rfl h6)<|g_v rfl r_move ?_
   iterate 3 refine g_no rfl rfl rfl rfl rfl rfl ?_
   refine g_v rfl (r_pick1 rfl rfl)<|g_v rfl r_move ?_
   iterate 3 refine g_no rfl rfl rfl rfl rfl rfl ?_
   refine g_v rfl (r_pick1 rfl rfl)<|g_v rfl r_move ?_
   iterate 3 refine g_no rfl rfl rfl rfl rfl rfl ?_
   refine g_v rfl (r_pick1 rfl rfl)<|g_v rfl r_move ?_
   iterate 3 refine g_no rfl rfl rfl rfl rfl rfl ?_
   refine g_v rfl (r_pick1 rfl rfl)<|g_v rfl r_move ?_
   iterate 3 refine g_no rfl rfl rfl rfl rfl rfl ?_
   refine g_v rfl (r_pick1 rfl rfl)<|g_nil<|d_then ?_
   refine c_flat [(1,.pointer (some ⟨g1,0,none⟩)),(50,.bool true)] ⟨rfl,rfl,trivial⟩ (fun u=>?_)
   refine c_cond1 rfl rfl<|c_seq<|c_region<|g_v rfl r_assign<|g_nil<|d_then<|c_ret<|d_ret_then ?_
   cases hm
   exact d_retC () Try.results48 (res_tmp (res_nil rfl)) trivial (fun W h=>ok_pre (H1:=[_]) (R1:=[]) h (fun W hφ=>hφ)) (.inr rfl)
  replace hm:=ite_t hm (of_decide_eq_true h3)
  iterate 3 refine g_no rfl rfl rfl rfl rfl h3 ?_
  refine g_v rfl (r_pick1 rfl h3)<|g_v rfl r_move ?_
  iterate 3 refine g_no rfl rfl rfl rfl rfl rfl ?_
  refine g_v rfl (r_pick1 rfl rfl)<|g_v rfl r_move ?_
  iterate 3 refine g_no rfl rfl rfl rfl rfl rfl ?_
  refine g_v rfl (r_pick1 rfl rfl)<|g_v rfl r_move ?_
  iterate 3 refine g_no rfl rfl rfl rfl rfl rfl ?_
  refine g_v rfl (r_pick1 rfl rfl)<|g_v rfl r_move ?_
  iterate 3 refine g_no rfl rfl rfl rfl rfl rfl ?_
  refine g_v rfl (r_pick1 rfl rfl)<|g_v rfl r_move ?_
  iterate 3 refine g_no rfl rfl rfl rfl rfl rfl ?_
  refine g_v rfl (r_pick1 rfl rfl)<|g_v rfl r_move ?_
  iterate 3 refine g_no rfl rfl rfl rfl rfl rfl ?_
  refine g_v rfl (r_pick1 rfl rfl)<|g_nil<|d_then ?_
  refine c_flat [(1,.pointer (some ⟨g1,0,none⟩)),(50,.bool true)] ⟨rfl,rfl,trivial⟩ (fun u=>?_)
  refine c_cond1 rfl rfl<|c_seq<|c_region<|g_v rfl r_assign<|g_nil<|d_then<|c_ret<|d_ret_then ?_
  cases hm
  exact d_retC () Try.results48 (res_tmp (res_nil rfl)) trivial (fun W h=>ok_pre (H1:=[_]) (R1:=[]) h (fun W hφ=>hφ)) (.inr rfl)
 replace hm:=ite_t hm (of_decide_eq_true h2)
 refine g_no rfl rfl rfl rfl rfl h2<|g_no rfl rfl rfl rfl rfl h2<|g_v rfl (r_pick1 rfl h2)<|g_v rfl r_move ?_
 iterate 4 refine g_no rfl rfl rfl rfl rfl rfl ?_
 refine g_v rfl (r_pick1 rfl rfl)<|g_v rfl r_move ?_
 iterate 3 refine g_no rfl rfl rfl rfl rfl rfl ?_
 refine g_v rfl (r_pick1 rfl rfl)<|g_v rfl r_move ?_
 iterate 3 refine g_no rfl rfl rfl rfl rfl rfl ?_
 refine g_v rfl (r_pick1 rfl rfl)<|g_v rfl r_move ?_
 iterate 3 refine g_no rfl rfl rfl rfl rfl rfl ?_
 refine g_v rfl (r_pick1 rfl rfl)<|g_v rfl r_move ?_
 iterate 3 refine g_no rfl rfl rfl rfl rfl rfl ?_
 refine g_v rfl (r_pick1 rfl rfl)<|g_v rfl r_move ?_
 iterate 3 refine g_no rfl rfl rfl rfl rfl rfl ?_
 refine g_v rfl (r_pick1 rfl rfl)<|g_v rfl r_move ?_
 iterate 3 refine g_no rfl rfl rfl rfl rfl rfl ?_
 refine g_v rfl (r_pick1 rfl rfl)<|g_nil<|d_then ?_
 refine c_flat [(1,.pointer (some ⟨g1,0,none⟩)),(50,.bool true)] ⟨rfl,rfl,trivial⟩ (fun u=>?_)
 refine c_cond1 rfl rfl<|c_seq<|c_region<|g_v rfl r_assign<|g_nil<|d_then<|c_ret<|d_ret_then ?_
 cases hm
 exact d_retC () Try.results48 (res_tmp (res_nil rfl)) trivial (fun W h=>ok_pre (H1:=[_]) (R1:=[]) h (fun W hφ=>hφ)) (.inr rfl)
noncomputable def m_ref20_Check_j4  : Option Int:=
  some 0
noncomputable def m_ref20_Check_s6 (p0 : GLetter) (i11677 : Int) : Option (Int ⊕ (Unit ⊕ Int)):=
  if i11677 < (p0.fEntries.length : Int) then
    (at_ p0.fEntries i11677).bind fun x11797=>
    (m_ref16_Check x11797).bind fun x11806=>
    if x11806 ≠ 0 then
      some (.inr (.inr 1))
    else
      (at_ p0.fEntries i11677).bind fun x11820=>
      if x11820.fSource < 0 then
        some (.inr (.inr 1))
      else
        (at_ p0.fEntries i11677).bind fun x11831=>
        if 4611686018427387904 < x11831.fSource then
          some (.inr (.inr 1))
        else
          some (.inl (w64 (i11677 + 1)))
  else
    some (.inr (.inl ()))
noncomputable def m_ref20_Check_j5 (p0 : GLetter) : Option Int:=
  (loop (fun s=>m_ref20_Check_s6 p0 s) 0).bind fun e=>Sum.elim (fun e=>m_ref20_Check_j4) (fun x=>some x) e
noncomputable def m_ref20_Check_j7  : Option Int:=
  some 0
noncomputable def m_ref20_Check_s9 (p0 : GLetter) (i12134 : Int) : Option (Int ⊕ (Unit ⊕ Int)):=
  if i12134 < (p0.fEntries.length : Int) then
    (at_ p0.fEntries i12134).bind fun x12254=>
    (m_ref16_Check x12254).bind fun x12263=>
    if x12263 ≠ 0 then
      some (.inr (.inr 1))
    else
      (at_ p0.fEntries i12134).bind fun x12277=>
      if x12277.fSource < 0 then
        some (.inr (.inr 1))
      else
        (at_ p0.fEntries i12134).bind fun x12288=>
        if 4611686018427387904 < x12288.fSource then
          some (.inr (.inr 1))
        else
          some (.inl (w64 (i12134 + 1)))
  else
    some (.inr (.inl ()))
noncomputable def m_ref20_Check_j8 (p0 : GLetter) : Option Int:=
  (loop (fun s=>m_ref20_Check_s9 p0 s) 0).bind fun e=>Sum.elim (fun e=>m_ref20_Check_j7) (fun x=>some x) e
noncomputable def m_ref20_Check_j3 (p0 : GLetter) : Option Int:=
  if p0.fKind ≠ 5 then
    if p0.fText = (⟨#[]⟩ : ByteArray) then
      if p0.fKind = 1 then
        (m_ref03_Check p0.fQuestion.fName).bind fun x11584=>
        if x11584 ≠ 0 then
          some 1
        else
          m_ref20_Check_j4
      else
        if p0.fKind = 2 then
          if 40 < (p0.fEntries.length : Int) then
            some 1
          else
            if 0 < (p0.fEntries.length : Int) then
              if p0.fGood = true then
                m_ref20_Check_j5 p0
              else
                some 1
            else
              m_ref20_Check_j5 p0
        else
          if p0.fKind = 3 then
            (m_ref12_Check p0.fNote).bind fun x11851=>
            if x11851 ≠ 0 then
              some 1
            else
              m_ref20_Check_j4
          else
            if p0.fKind = 5 then
              if 8000 < (p0.fText.size : Int) then
                some 1
              else
                m_ref20_Check_j4
            else
              m_ref20_Check_j4
    else
      some 1
  else
    if p0.fKind = 1 then
      (m_ref03_Check p0.fQuestion.fName).bind fun x12041=>
      if x12041 ≠ 0 then
        some 1
      else
        m_ref20_Check_j7
    else
      if p0.fKind = 2 then
        if 40 < (p0.fEntries.length : Int) then
          some 1
        else
          if 0 < (p0.fEntries.length : Int) then
            if p0.fGood = true then
              m_ref20_Check_j8 p0
            else
              some 1
          else
            m_ref20_Check_j8 p0
      else
        if p0.fKind = 3 then
          (m_ref12_Check p0.fNote).bind fun x12308=>
          if x12308 ≠ 0 then
            some 1
          else
            m_ref20_Check_j7
        else
          if p0.fKind = 5 then
            if 8000 < (p0.fText.size : Int) then
              some 1
            else
              m_ref20_Check_j7
          else
            m_ref20_Check_j7
noncomputable def m_ref20_Check_j2 (p0 : GLetter) (x2 : Bool) : Option Int:=
  if p0.fKind ≠ 3 then
    if x2 = true then
      m_ref20_Check_j3 p0
    else
      some 1
  else
    m_ref20_Check_j3 p0
noncomputable def m_ref20_Check_j1 (p0 : GLetter) (x2 : Bool) : Option Int:=
  if p0.fKind ≠ 2 then
    if p0.fGood = true then
      some 1
    else
      if 0 < (p0.fEntries.length : Int) then
        some 1
      else
        m_ref20_Check_j2 p0 x2
  else
    m_ref20_Check_j2 p0 x2
noncomputable def m_ref20_Check (p0 : GLetter) : Option Int:=
  (m_ref20_none p0.fNote).bind fun x2=>
  if p0.fKind < 1 then
    some 1
  else
    if 5 < p0.fKind then
      some 1
    else
      if p0.fSerial < 0 then
        some 1
      else
        if 1099511627776 < p0.fSerial then
          some 1
        else
          if p0.fEpoch < 0 then
            some 1
          else
            if 1099511627776 < p0.fEpoch then
              some 1
            else
              if p0.fKind ≠ 1 then
                if p0.fQuestion = (⟨(⟨#[]⟩ : ByteArray),0,0⟩ : GQuestion) then
                  m_ref20_Check_j1 p0 x2
                else
                  some 1
              else
                m_ref20_Check_j1 p0 x2
theorem c_ref20_Check {w0 : World} {M : Nat→Prop} {H : List (Nat×Nat×Obj)} {R : List (Nat×Row)} {φ : World→Prop} (p0 : GLetter) (Ap0_0 : Option Addr) (cp0_0 : Nat) (psp0_0 : List GCachedP) (hcp0_0 : (DOk GCached.capP p0.fEntries psp0_0∧p0.fEntries.length ≤ cp0_0)) (fp0_0 : ∀ W,(Sta.mk w0 M H R φ).ok W→Cl W Ap0_0 ((p0.fEntries.zip psp0_0).flatMap GCached.encP)) (fop0_0 : ∀ W,(Sta.mk w0 M H R φ).ok W→DOwn GCached.ownP p0.fEntries psp0_0 W) (Ap0_1 : Option Addr) (cp0_1 : Nat) (hcp0_1 : p0.fNote.fEntries.length ≤ cp0_1) (fp0_1 : ∀ W,(Sta.mk w0 M H R φ).ok W→Cl W Ap0_1 (p0.fNote.fEntries.flatMap GEntry.enc)) (Ap0_2 : Option Addr) (cp0_2 : Nat) (hcp0_2 : p0.fNote.fVoters.length ≤ cp0_2) (fp0_2 : ∀ W,(Sta.mk w0 M H R φ).ok W→Cl W Ap0_2 (p0.fNote.fVoters.flatMap (fun x : Int=>[Value.int .i64 x]))) (r : Int) (hm : m_ref20_Check p0 = some r) :
    Cn Try.prog 21 #[.agg #[.int .i64 p0.fKind,.int .i64 p0.fSerial,.int .i64 p0.fEpoch,.string p0.fQuestion.fName,.int .u16 p0.fQuestion.fType,.int .u16 p0.fQuestion.fClass,.bool p0.fGood,.slice Ap0_0 p0.fEntries.length cp0_0,.int .i64 p0.fNote.fKind,.int .i64 p0.fNote.fFrom,.int .i64 p0.fNote.fTo,.int .i64 p0.fNote.fTerm,.int .i64 p0.fNote.fIndex,.int .i64 p0.fNote.fLogTerm,.int .i64 p0.fNote.fCommit,.bool p0.fNote.fGood,.slice Ap0_1 p0.fNote.fEntries.length cp0_1,.slice Ap0_2 p0.fNote.fVoters.length cp0_2,.string p0.fNote.fSnap,.string p0.fText]] ⟨w0,M,H,R,φ⟩ (fun x : Unit=>.int .i64 r) (fun x=>True) (fun x=>⟨w0,M,H,R,φ⟩):=by
 unfold m_ref20_Check at hm
 refine cn_intro (fn:=Try.f21) (N:=154) Try.func21 rfl Try.ntmps21 rfl<|c_seq<|c_region ?_
 refine g_e rfl (e_box 100010 rfl) (fun g1 _=>?_)
 refine g_v rfl r_assign<|g_nil<|d_then<|c_seq<|c_region<|g_v rfl r_assign<|g_nil<|d_then<|c_seq<|c_region ?_
 refine g_v rfl (r_field (n:=8) Try.underlying31 rfl Try.sizeOf29 rfl rfl)<|g_v rfl (r_loadA (tag:=100010) rfl rfl Try.isAgg29 Try.sizeOf29 rfl rfl) ?_
 replace hm:=bnd hm
 obtain ⟨x2,hx3,hm⟩:=hm
 refine g_cn ⟨w0,M,_,_,φ⟩ (fun _ h=>h) Try.call46 rfl rfl (c_ref20_none p0.fNote Ap0_1 cp0_1 hcp0_1 (fun W hS=>fp0_1 W (ok_pre (H1:=[_]) (R1:=[]) hS (fun W h=>h))) Ap0_2 cp0_2 hcp0_2 (fun W hS=>fp0_2 W (ok_pre (H1:=[_]) (R1:=[]) hS (fun W h=>h))) _ hx3) (fun _ _=>?_)
 refine g_v rfl r_assign<|g_nil<|d_then<|c_seq<|c_seq<|c_region<|g_v rfl (r_field (n:=0) Try.underlying31 rfl Try.sizeOf3 rfl rfl)<|g_v rfl (r_load (tag:=100010) rfl rfl rfl Try.isAgg3)<|g_v rfl (r_lss rfl rfl)<|g_v rfl r_move ?_
 refine g_sta ⟨w0,M,(100010,g1,.cells #[.int .i64 p0.fKind,.int .i64 p0.fSerial,.int .i64 p0.fEpoch,.string p0.fQuestion.fName,.int .u16 p0.fQuestion.fType,.int .u16 p0.fQuestion.fClass,.bool p0.fGood,.slice Ap0_0 p0.fEntries.length cp0_0,.int .i64 p0.fNote.fKind,.int .i64 p0.fNote.fFrom,.int .i64 p0.fNote.fTo,.int .i64 p0.fNote.fTerm,.int .i64 p0.fNote.fIndex,.int .i64 p0.fNote.fLogTerm,.int .i64 p0.fNote.fCommit,.bool p0.fNote.fGood,.slice Ap0_1 p0.fNote.fEntries.length cp0_1,.slice Ap0_2 p0.fNote.fVoters.length cp0_2,.string p0.fNote.fSnap,.string p0.fText] 31 (0,0))::H,R,φ⟩ (fun _ h=>h) ?_
 refine g_case (t:=12) rfl (fun h19=>?_) (fun h19=>?_)
 ·
  replace hm:=ite_t hm (of_decide_eq_true h19)
  iterate 3 refine g_no rfl rfl rfl rfl rfl h19 ?_
  refine g_v rfl (r_pick1 rfl h19)<|g_v rfl r_move ?_
  iterate 3 refine g_no rfl rfl rfl rfl rfl rfl ?_
  refine g_v rfl (r_pick1 rfl rfl)<|g_v rfl r_move ?_
  iterate 4 refine g_no rfl rfl rfl rfl rfl rfl ?_
  refine g_v rfl (r_pick1 rfl rfl)<|g_v rfl r_move ?_
  iterate 3 refine g_no rfl rfl rfl rfl rfl rfl ?_
  refine g_v rfl (r_pick1 rfl rfl)<|g_v rfl r_move ?_
  iterate 4 refine g_no rfl rfl rfl rfl rfl rfl ?_
  refine g_v rfl (r_pick1 rfl rfl)<|g_v rfl r_move ?_
  iterate 4 refine g_no rfl rfl rfl rfl rfl rfl ?_
  iterate 4 refine g_nu rfl rfl rfl rfl rfl ?_
  refine g_no rfl rfl rfl rfl rfl rfl<|g_v rfl (r_pick1 rfl rfl)<|g_v rfl r_move ?_
  iterate 4 refine g_no rfl rfl rfl rfl rfl rfl ?_
  iterate 8 refine g_nu rfl rfl rfl rfl rfl ?_
  refine g_no rfl rfl rfl rfl rfl rfl<|g_v rfl (r_pick1 rfl rfl)<|g_v rfl r_move ?_
  iterate 4 refine g_no rfl rfl rfl rfl rfl rfl ?_
  refine g_nu rfl rfl rfl rfl rfl<|g_nu rfl rfl rfl rfl rfl<|g_no rfl rfl rfl rfl rfl rfl<|g_v rfl (r_pick1 rfl rfl)<|g_v rfl r_move ?_
  iterate 4 refine g_no rfl rfl rfl rfl rfl rfl ?_
  iterate 3 refine g_nu rfl rfl rfl rfl rfl ?_
  refine g_no rfl rfl rfl rfl rfl rfl<|g_v rfl (r_pick1 rfl rfl)<|g_nil<|d_then ?_
  refine c_flat [(1,.pointer (some ⟨g1,0,none⟩)),(83,.bool true)] ⟨rfl,rfl,trivial⟩ (fun u=>?_)
  refine c_cond1 rfl rfl<|c_seq<|c_region<|g_v rfl r_assign<|g_nil<|d_then<|c_ret<|d_ret_then ?_
  cases hm
  exact d_retC () Try.results21 (res_tmp (res_nil rfl)) trivial (fun W h=>ok_pre (H1:=[_]) (R1:=[]) h (fun W hφ=>hφ)) (.inr rfl)
 replace hm:=ite_f hm (of_decide_eq_false h19)
 refine g_do rfl rfl rfl rfl rfl h19<|g_v rfl (r_field (n:=0) Try.underlying31 rfl Try.sizeOf3 rfl rfl)<|g_do rfl rfl rfl rfl rfl h19<|g_v rfl (r_load (tag:=100010) rfl rfl rfl Try.isAgg3)<|g_do rfl rfl rfl rfl rfl h19<|g_v rfl (r_gtr rfl rfl)<|g_v rfl (r_pick0 rfl h19)<|g_v rfl r_move ?_
 refine g_case (t:=17) rfl (fun h35=>?_) (fun h35=>?_)
 ·
  replace hm:=ite_t hm (of_decide_eq_true h35)
  iterate 3 refine g_no rfl rfl rfl rfl rfl h35 ?_
  refine g_v rfl (r_pick1 rfl h35)<|g_v rfl r_move ?_
  iterate 4 refine g_no rfl rfl rfl rfl rfl rfl ?_
  refine g_v rfl (r_pick1 rfl rfl)<|g_v rfl r_move ?_
  iterate 3 refine g_no rfl rfl rfl rfl rfl rfl ?_
  refine g_v rfl (r_pick1 rfl rfl)<|g_v rfl r_move ?_
  iterate 4 refine g_no rfl rfl rfl rfl rfl rfl ?_
  refine g_v rfl (r_pick1 rfl rfl)<|g_v rfl r_move ?_
  iterate 4 refine g_no rfl rfl rfl rfl rfl rfl ?_
  iterate 4 refine g_nu rfl rfl rfl rfl rfl ?_
  refine g_no rfl rfl rfl rfl rfl rfl<|g_v rfl (r_pick1 rfl rfl)<|g_v rfl r_move ?_
  iterate 4 refine g_no rfl rfl rfl rfl rfl rfl ?_
  iterate 8 refine g_nu rfl rfl rfl rfl rfl ?_
  refine g_no rfl rfl rfl rfl rfl rfl<|g_v rfl (r_pick1 rfl rfl)<|g_v rfl r_move ?_
  iterate 4 refine g_no rfl rfl rfl rfl rfl rfl ?_
  refine g_nu rfl rfl rfl rfl rfl<|g_nu rfl rfl rfl rfl rfl<|g_no rfl rfl rfl rfl rfl rfl<|g_v rfl (r_pick1 rfl rfl)<|g_v rfl r_move ?_
  iterate 4 refine g_no rfl rfl rfl rfl rfl rfl ?_
  iterate 3 refine g_nu rfl rfl rfl rfl rfl ?_
  refine g_no rfl rfl rfl rfl rfl rfl<|g_v rfl (r_pick1 rfl rfl)<|g_nil<|d_then ?_
  refine c_flat [(1,.pointer (some ⟨g1,0,none⟩)),(83,.bool true)] ⟨rfl,rfl,trivial⟩ (fun u=>?_)
  refine c_cond1 rfl rfl<|c_seq<|c_region<|g_v rfl r_assign<|g_nil<|d_then<|c_ret<|d_ret_then ?_
  cases hm
  exact d_retC () Try.results21 (res_tmp (res_nil rfl)) trivial (fun W h=>ok_pre (H1:=[_]) (R1:=[]) h (fun W hφ=>hφ)) (.inr rfl)
 replace hm:=ite_f hm (of_decide_eq_false h35)
 refine g_do rfl rfl rfl rfl rfl h35<|g_v rfl (r_field (n:=1) Try.underlying31 rfl Try.sizeOf3 rfl rfl)<|g_do rfl rfl rfl rfl rfl h35<|g_v rfl (r_load (tag:=100010) rfl rfl rfl Try.isAgg3)<|g_do rfl rfl rfl rfl rfl h35<|g_v rfl (r_lss rfl rfl)<|g_v rfl (r_pick0 rfl h35)<|g_v rfl r_move ?_
 refine g_case (t:=22) rfl (fun h3951=>?_) (fun h3951=>?_)
 ·
  replace hm:=ite_t hm (of_decide_eq_true h3951)
  iterate 4 refine g_no rfl rfl rfl rfl rfl h3951 ?_
  refine g_v rfl (r_pick1 rfl h3951)<|g_v rfl r_move ?_
  iterate 3 refine g_no rfl rfl rfl rfl rfl rfl ?_
  refine g_v rfl (r_pick1 rfl rfl)<|g_v rfl r_move ?_
  iterate 4 refine g_no rfl rfl rfl rfl rfl rfl ?_
  refine g_v rfl (r_pick1 rfl rfl)<|g_v rfl r_move ?_
  iterate 4 refine g_no rfl rfl rfl rfl rfl rfl ?_
  iterate 4 refine g_nu rfl rfl rfl rfl rfl ?_
  refine g_no rfl rfl rfl rfl rfl rfl<|g_v rfl (r_pick1 rfl rfl)<|g_v rfl r_move ?_
  iterate 4 refine g_no rfl rfl rfl rfl rfl rfl ?_
  iterate 8 refine g_nu rfl rfl rfl rfl rfl ?_
  refine g_no rfl rfl rfl rfl rfl rfl<|g_v rfl (r_pick1 rfl rfl)<|g_v rfl r_move ?_
  iterate 4 refine g_no rfl rfl rfl rfl rfl rfl ?_
  refine g_nu rfl rfl rfl rfl rfl<|g_nu rfl rfl rfl rfl rfl<|g_no rfl rfl rfl rfl rfl rfl<|g_v rfl (r_pick1 rfl rfl)<|g_v rfl r_move ?_
  iterate 4 refine g_no rfl rfl rfl rfl rfl rfl ?_
  iterate 3 refine g_nu rfl rfl rfl rfl rfl ?_
  refine g_no rfl rfl rfl rfl rfl rfl<|g_v rfl (r_pick1 rfl rfl)<|g_nil<|d_then ?_
  refine c_flat [(1,.pointer (some ⟨g1,0,none⟩)),(83,.bool true)] ⟨rfl,rfl,trivial⟩ (fun u=>?_)
  refine c_cond1 rfl rfl<|c_seq<|c_region<|g_v rfl r_assign<|g_nil<|d_then<|c_ret<|d_ret_then ?_
  cases hm
  exact d_retC () Try.results21 (res_tmp (res_nil rfl)) trivial (fun W h=>ok_pre (H1:=[_]) (R1:=[]) h (fun W hφ=>hφ)) (.inr rfl)
 replace hm:=ite_f hm (of_decide_eq_false h3951)
 refine g_join 28 (ι:=Unit) [1,4,50] (fun _=>[(50,.bool false)]) (fun _=>⟨w0,M,(100010,g1,.cells #[.int .i64 p0.fKind,.int .i64 p0.fSerial,.int .i64 p0.fEpoch,.string p0.fQuestion.fName,.int .u16 p0.fQuestion.fType,.int .u16 p0.fQuestion.fClass,.bool p0.fGood,.slice Ap0_0 p0.fEntries.length cp0_0,.int .i64 p0.fNote.fKind,.int .i64 p0.fNote.fFrom,.int .i64 p0.fNote.fTo,.int .i64 p0.fNote.fTerm,.int .i64 p0.fNote.fIndex,.int .i64 p0.fNote.fLogTerm,.int .i64 p0.fNote.fCommit,.bool p0.fNote.fGood,.slice Ap0_1 p0.fNote.fEntries.length cp0_1,.slice Ap0_2 p0.fNote.fVoters.length cp0_2,.string p0.fNote.fSnap,.string p0.fText] 31 (0,0))::H,R,φ⟩) (fun _=>m_ref20_Check_j1 p0 x2 = some r) (fun hj1=>?_) (fun _ u hm=>?_)
 ·
  refine g_do rfl rfl rfl rfl rfl h3951<|g_v rfl (r_field (n:=1) Try.underlying31 rfl Try.sizeOf3 rfl rfl)<|g_do rfl rfl rfl rfl rfl h3951<|g_v rfl (r_load (tag:=100010) rfl rfl rfl Try.isAgg3)<|g_do rfl rfl rfl rfl rfl h3951<|g_v rfl r_move<|g_do rfl rfl rfl rfl rfl h3951<|g_v rfl (r_gtr rfl rfl)<|g_v rfl (r_pick0 rfl h3951)<|g_v rfl r_move ?_
  refine g_if rfl rfl rfl rfl rfl (fun h12318=>?_) (fun h12318=>?_)
  ·
   replace hm:=ite_f hm (of_decide_eq_false h12318)
   refine g_v rfl (r_field (n:=2) Try.underlying31 rfl Try.sizeOf3 rfl rfl)<|g_do rfl rfl rfl rfl rfl h12318<|g_v rfl (r_load (tag:=100010) rfl rfl rfl Try.isAgg3)<|g_do rfl rfl rfl rfl rfl h12318<|g_v rfl (r_lss rfl rfl)<|g_v rfl (r_pick0 rfl h12318)<|g_v rfl r_move ?_
   refine g_if rfl rfl rfl rfl rfl (fun h12319=>?_) (fun h12319=>?_)
   ·
    replace hm:=ite_f hm (of_decide_eq_false h12319)
    refine g_v rfl (r_field (n:=2) Try.underlying31 rfl Try.sizeOf3 rfl rfl)<|g_do rfl rfl rfl rfl rfl h12319<|g_v rfl (r_load (tag:=100010) rfl rfl rfl Try.isAgg3)<|g_do rfl rfl rfl rfl rfl h12319<|g_v rfl r_move<|g_do rfl rfl rfl rfl rfl h12319<|g_v rfl (r_gtr rfl rfl)<|g_v rfl (r_pick0 rfl h12319)<|g_v rfl r_move ?_
    refine g_if rfl rfl rfl rfl rfl (fun h12320=>?_) (fun h12320=>?_)
    ·
     replace hm:=ite_f hm (of_decide_eq_false h12320)
     refine g_v rfl (r_field (n:=0) Try.underlying31 rfl Try.sizeOf3 rfl rfl)<|g_do rfl rfl rfl rfl rfl h12320<|g_v rfl (r_load (tag:=100010) rfl rfl rfl Try.isAgg3)<|g_do rfl rfl rfl rfl rfl h12320<|g_v rfl (r_neq rfl rfl)<|g_do rfl rfl rfl rfl rfl h12320<|g_v rfl r_move ?_
     refine g_if rfl rfl rfl rfl rfl (fun h12321=>?_) (fun h12321=>?_)
     ·
      replace hm:=ite_t hm (of_decide_eq_true h12321)
      refine g_v rfl (r_field (n:=3) Try.underlying31 rfl Try.sizeOf24 rfl rfl)<|g_do rfl rfl rfl rfl rfl h12321<|g_v rfl (r_loadA (tag:=100010) rfl rfl Try.isAgg24 Try.sizeOf24 rfl rfl)<|g_do rfl rfl rfl rfl rfl h12321<|g_v rfl (r_build _ rfl (bld24_1))<|g_do rfl rfl rfl rfl rfl h12321<|g_v rfl (r_neqA rfl rfl eqg24 (eqq24 p0.fQuestion (⟨(⟨#[]⟩ : ByteArray),0,0⟩ : GQuestion)))<|g_do rfl rfl rfl rfl rfl h12320<|g_v rfl (r_pick1 rfl h12321)<|g_v rfl (r_pick0 rfl h12320) ?_
      refine g_v rfl r_move ?_
      refine g_case (t:=50) rfl (fun h12322=>?_) (fun h12322=>?_)
      ·
       have h12322' : (decide (p0.fQuestion = (⟨(⟨#[]⟩ : ByteArray),0,0⟩ : GQuestion))) = false:=by revert h12322; cases (decide (p0.fQuestion = (⟨(⟨#[]⟩ : ByteArray),0,0⟩ : GQuestion))) <;> simp
       replace hm:=ite_f hm (of_decide_eq_false h12322')
       iterate 4 refine g_no rfl rfl rfl rfl rfl h12322 ?_
       iterate 8 refine g_nu rfl rfl rfl rfl rfl ?_
       refine g_no rfl rfl rfl rfl rfl h12322<|g_v rfl (r_pick1 rfl h12322)<|g_v rfl r_move ?_
       iterate 4 refine g_no rfl rfl rfl rfl rfl rfl ?_
       refine g_nu rfl rfl rfl rfl rfl<|g_nu rfl rfl rfl rfl rfl<|g_no rfl rfl rfl rfl rfl rfl<|g_v rfl (r_pick1 rfl rfl)<|g_v rfl r_move ?_
       iterate 4 refine g_no rfl rfl rfl rfl rfl rfl ?_
       iterate 3 refine g_nu rfl rfl rfl rfl rfl ?_
       refine g_no rfl rfl rfl rfl rfl rfl<|g_v rfl (r_pick1 rfl rfl)<|g_nil<|d_then ?_
       refine c_flat [(1,.pointer (some ⟨g1,0,none⟩)),(83,.bool true)] ⟨rfl,rfl,trivial⟩ (fun u=>?_)
       refine c_cond1 rfl rfl<|c_seq<|c_region<|g_v rfl r_assign<|g_nil<|d_then<|c_ret<|d_ret_then ?_
       cases hm
       exact d_retC () Try.results21 (res_tmp (res_nil rfl)) trivial (fun W h=>ok_pre (H1:=[_]) (R1:=[]) h (fun W hφ=>hφ)) (.inr rfl)
      have h12322' : (decide (p0.fQuestion = (⟨(⟨#[]⟩ : ByteArray),0,0⟩ : GQuestion))) = true:=by revert h12322; cases (decide (p0.fQuestion = (⟨(⟨#[]⟩ : ByteArray),0,0⟩ : GQuestion))) <;> simp
      replace hm:=ite_t hm (of_decide_eq_true h12322')
      exact hj1 () hm ⟨rfl,rfl,(congrArg Value.bool h12322),trivial⟩ (fun W h=>h.phi (fun W hφ=>hφ))
     replace hm:=ite_f hm (of_decide_eq_false h12321)
     iterate 3 refine g_no rfl rfl rfl rfl rfl h12321 ?_
     refine g_do rfl rfl rfl rfl rfl h12320<|g_v rfl (r_pick0 rfl h12321)<|g_v rfl (r_pick0 rfl h12320)<|g_v rfl r_move ?_
     exact hj1 () hm ⟨rfl,rfl,rfl,trivial⟩ (fun W h=>h.phi (fun W hφ=>hφ))
    replace hm:=ite_t hm (of_decide_eq_true h12320)
    iterate 3 refine g_no rfl rfl rfl rfl rfl h12320 ?_
    iterate 4 refine g_nu rfl rfl rfl rfl rfl ?_
    refine g_no rfl rfl rfl rfl rfl h12320<|g_v rfl (r_pick1 rfl h12320)<|g_v rfl r_move ?_
    iterate 4 refine g_no rfl rfl rfl rfl rfl rfl ?_
    iterate 8 refine g_nu rfl rfl rfl rfl rfl ?_
    refine g_no rfl rfl rfl rfl rfl rfl<|g_v rfl (r_pick1 rfl rfl)<|g_v rfl r_move ?_
    iterate 4 refine g_no rfl rfl rfl rfl rfl rfl ?_
    refine g_nu rfl rfl rfl rfl rfl<|g_nu rfl rfl rfl rfl rfl<|g_no rfl rfl rfl rfl rfl rfl<|g_v rfl (r_pick1 rfl rfl)<|g_v rfl r_move ?_
    iterate 4 refine g_no rfl rfl rfl rfl rfl rfl ?_
    iterate 3 refine g_nu rfl rfl rfl rfl rfl ?_
    refine g_no rfl rfl rfl rfl rfl rfl<|g_v rfl (r_pick1 rfl rfl)<|g_nil<|d_then ?_
    refine c_flat [(1,.pointer (some ⟨g1,0,none⟩)),(83,.bool true)] ⟨rfl,rfl,trivial⟩ (fun u=>?_)
    refine c_cond1 rfl rfl<|c_seq<|c_region<|g_v rfl r_assign<|g_nil<|d_then<|c_ret<|d_ret_then ?_
    cases hm
    exact d_retC () Try.results21 (res_tmp (res_nil rfl)) trivial (fun W h=>ok_pre (H1:=[_]) (R1:=[]) h (fun W hφ=>hφ)) (.inr rfl)
   replace hm:=ite_t hm (of_decide_eq_true h12319)
   iterate 3 refine g_no rfl rfl rfl rfl rfl h12319 ?_
   refine g_v rfl (r_pick1 rfl h12319)<|g_v rfl r_move ?_
   iterate 4 refine g_no rfl rfl rfl rfl rfl rfl ?_
   iterate 4 refine g_nu rfl rfl rfl rfl rfl ?_
   refine g_no rfl rfl rfl rfl rfl rfl<|g_v rfl (r_pick1 rfl rfl)<|g_v rfl r_move ?_
   iterate 4 refine g_no rfl rfl rfl rfl rfl rfl ?_
   iterate 8 refine g_nu rfl rfl rfl rfl rfl ?_
   refine g_no rfl rfl rfl rfl rfl rfl<|g_v rfl (r_pick1 rfl rfl)<|g_v rfl r_move ?_
   iterate 4 refine g_no rfl rfl rfl rfl rfl rfl ?_
   refine g_nu rfl rfl rfl rfl rfl<|g_nu rfl rfl rfl rfl rfl<|g_no rfl rfl rfl rfl rfl rfl<|g_v rfl (r_pick1 rfl rfl)<|g_v rfl r_move ?_
   iterate 4 refine g_no rfl rfl rfl rfl rfl rfl ?_
   iterate 3 refine g_nu rfl rfl rfl rfl rfl ?_
   refine g_no rfl rfl rfl rfl rfl rfl<|g_v rfl (r_pick1 rfl rfl)<|g_nil<|d_then ?_
   refine c_flat [(1,.pointer (some ⟨g1,0,none⟩)),(83,.bool true)] ⟨rfl,rfl,trivial⟩ (fun u=>?_)
   refine c_cond1 rfl rfl<|c_seq<|c_region<|g_v rfl r_assign<|g_nil<|d_then<|c_ret<|d_ret_then ?_
   cases hm
   exact d_retC () Try.results21 (res_tmp (res_nil rfl)) trivial (fun W h=>ok_pre (H1:=[_]) (R1:=[]) h (fun W hφ=>hφ)) (.inr rfl)
  replace hm:=ite_t hm (of_decide_eq_true h12318)
  refine g_no rfl rfl rfl rfl rfl h12318<|g_no rfl rfl rfl rfl rfl h12318<|g_v rfl (r_pick1 rfl h12318)<|g_v rfl r_move ?_
  iterate 4 refine g_no rfl rfl rfl rfl rfl rfl ?_
  refine g_v rfl (r_pick1 rfl rfl)<|g_v rfl r_move ?_
  iterate 4 refine g_no rfl rfl rfl rfl rfl rfl ?_
  iterate 4 refine g_nu rfl rfl rfl rfl rfl ?_
  refine g_no rfl rfl rfl rfl rfl rfl<|g_v rfl (r_pick1 rfl rfl)<|g_v rfl r_move ?_
  iterate 4 refine g_no rfl rfl rfl rfl rfl rfl ?_
  iterate 8 refine g_nu rfl rfl rfl rfl rfl ?_
  refine g_no rfl rfl rfl rfl rfl rfl<|g_v rfl (r_pick1 rfl rfl)<|g_v rfl r_move ?_
  iterate 4 refine g_no rfl rfl rfl rfl rfl rfl ?_
  refine g_nu rfl rfl rfl rfl rfl<|g_nu rfl rfl rfl rfl rfl<|g_no rfl rfl rfl rfl rfl rfl<|g_v rfl (r_pick1 rfl rfl)<|g_v rfl r_move ?_
  iterate 4 refine g_no rfl rfl rfl rfl rfl rfl ?_
  iterate 3 refine g_nu rfl rfl rfl rfl rfl ?_
  refine g_no rfl rfl rfl rfl rfl rfl<|g_v rfl (r_pick1 rfl rfl)<|g_nil<|d_then ?_
  refine c_flat [(1,.pointer (some ⟨g1,0,none⟩)),(83,.bool true)] ⟨rfl,rfl,trivial⟩ (fun u=>?_)
  refine c_cond1 rfl rfl<|c_seq<|c_region<|g_v rfl r_assign<|g_nil<|d_then<|c_ret<|d_ret_then ?_
  cases hm
  exact d_retC () Try.results21 (res_tmp (res_nil rfl)) trivial (fun W h=>ok_pre (H1:=[_]) (R1:=[]) h (fun W hφ=>hφ)) (.inr rfl)
 unfold m_ref20_Check_j1 at hm
 refine g_flat [(1,.pointer (some ⟨g1,0,none⟩)),(4,.bool x2),(50,.bool false)] ⟨rfl,rfl,rfl,trivial⟩ (fun u=>?_)
 refine g_join 15 (ι:=Unit) [1,4,65] (fun _=>[(65,.bool false)]) (fun _=>⟨w0,M,(100010,g1,.cells #[.int .i64 p0.fKind,.int .i64 p0.fSerial,.int .i64 p0.fEpoch,.string p0.fQuestion.fName,.int .u16 p0.fQuestion.fType,.int .u16 p0.fQuestion.fClass,.bool p0.fGood,.slice Ap0_0 p0.fEntries.length cp0_0,.int .i64 p0.fNote.fKind,.int .i64 p0.fNote.fFrom,.int .i64 p0.fNote.fTo,.int .i64 p0.fNote.fTerm,.int .i64 p0.fNote.fIndex,.int .i64 p0.fNote.fLogTerm,.int .i64 p0.fNote.fCommit,.bool p0.fNote.fGood,.slice Ap0_1 p0.fNote.fEntries.length cp0_1,.slice Ap0_2 p0.fNote.fVoters.length cp0_2,.string p0.fNote.fSnap,.string p0.fText] 31 (0,0))::H,R,φ⟩) (fun _=>m_ref20_Check_j2 p0 x2 = some r) (fun hj2=>?_) (fun _ u hm=>?_)
 ·
  refine g_do rfl rfl rfl rfl rfl rfl<|g_v rfl (r_field (n:=0) Try.underlying31 rfl Try.sizeOf3 rfl rfl)<|g_do rfl rfl rfl rfl rfl rfl<|g_v rfl (r_load (tag:=100010) rfl rfl rfl Try.isAgg3)<|g_do rfl rfl rfl rfl rfl rfl<|g_v rfl (r_neq rfl rfl)<|g_do rfl rfl rfl rfl rfl rfl<|g_v rfl r_move ?_
  refine g_if rfl rfl rfl rfl rfl (fun h12315=>?_) (fun h12315=>?_)
  ·
   replace hm:=ite_t hm (of_decide_eq_true h12315)
   refine g_v rfl (r_field (n:=6) Try.underlying31 rfl Try.sizeOf4 rfl rfl)<|g_do rfl rfl rfl rfl rfl h12315<|g_v rfl (r_load (tag:=100010) rfl rfl rfl Try.isAgg4)<|g_do rfl rfl rfl rfl rfl h12315<|g_v rfl r_move ?_
   refine g_if rfl rfl rfl rfl rfl (fun h12316=>?_) (fun h12316=>?_)
   ·
    replace hm:=ite_f hm (bool_nt h12316)
    refine g_v rfl (r_field (n:=7) Try.underlying31 rfl Try.sizeOf25 rfl rfl)<|g_do rfl rfl rfl rfl rfl h12316<|g_v rfl (r_load (tag:=100010) rfl rfl rfl Try.isAgg25)<|g_do rfl rfl rfl rfl rfl h12316<|g_v rfl (r_lenL Try.underlying25 rfl)<|g_do rfl rfl rfl rfl rfl h12316<|g_v rfl (r_gtr rfl rfl)<|g_do rfl rfl rfl rfl rfl h12315<|g_v rfl (r_pick0 rfl h12316)<|g_do rfl rfl rfl rfl rfl rfl ?_
    refine g_v rfl (r_pick1 rfl h12315)<|g_v rfl (r_pick0 rfl rfl)<|g_v rfl r_move ?_
    refine g_case (t:=65) rfl (fun h12317=>?_) (fun h12317=>?_)
    ·
     replace hm:=ite_t hm (of_decide_eq_true h12317)
     iterate 4 refine g_no rfl rfl rfl rfl rfl h12317 ?_
     refine g_nu rfl rfl rfl rfl rfl<|g_nu rfl rfl rfl rfl rfl<|g_no rfl rfl rfl rfl rfl h12317<|g_v rfl (r_pick1 rfl h12317)<|g_v rfl r_move ?_
     iterate 4 refine g_no rfl rfl rfl rfl rfl rfl ?_
     iterate 3 refine g_nu rfl rfl rfl rfl rfl ?_
     refine g_no rfl rfl rfl rfl rfl rfl<|g_v rfl (r_pick1 rfl rfl)<|g_nil<|d_then ?_
     refine c_flat [(1,.pointer (some ⟨g1,0,none⟩)),(83,.bool true)] ⟨rfl,rfl,trivial⟩ (fun u=>?_)
     refine c_cond1 rfl rfl<|c_seq<|c_region<|g_v rfl r_assign<|g_nil<|d_then<|c_ret<|d_ret_then ?_
     cases hm
     exact d_retC () Try.results21 (res_tmp (res_nil rfl)) trivial (fun W h=>ok_pre (H1:=[_]) (R1:=[]) h (fun W hφ=>hφ)) (.inr rfl)
    replace hm:=ite_f hm (of_decide_eq_false h12317)
    exact hj2 () hm ⟨rfl,rfl,(congrArg Value.bool h12317),trivial⟩ (fun W h=>h.phi (fun W hφ=>hφ))
   replace hm:=ite_t hm h12316
   iterate 3 refine g_no rfl rfl rfl rfl rfl h12316 ?_
   refine g_do rfl rfl rfl rfl rfl h12315<|g_v rfl (r_pick1 rfl h12316)<|g_do rfl rfl rfl rfl rfl rfl<|g_v rfl (r_pick1 rfl h12315)<|g_v rfl (r_pick0 rfl rfl)<|g_v rfl r_move ?_
   iterate 4 refine g_no rfl rfl rfl rfl rfl rfl ?_
   refine g_nu rfl rfl rfl rfl rfl<|g_nu rfl rfl rfl rfl rfl<|g_no rfl rfl rfl rfl rfl rfl<|g_v rfl (r_pick1 rfl rfl)<|g_v rfl r_move ?_
   iterate 4 refine g_no rfl rfl rfl rfl rfl rfl ?_
   iterate 3 refine g_nu rfl rfl rfl rfl rfl ?_
   refine g_no rfl rfl rfl rfl rfl rfl<|g_v rfl (r_pick1 rfl rfl)<|g_nil<|d_then ?_
   refine c_flat [(1,.pointer (some ⟨g1,0,none⟩)),(83,.bool true)] ⟨rfl,rfl,trivial⟩ (fun u=>?_)
   refine c_cond1 rfl rfl<|c_seq<|c_region<|g_v rfl r_assign<|g_nil<|d_then<|c_ret<|d_ret_then ?_
   cases hm
   exact d_retC () Try.results21 (res_tmp (res_nil rfl)) trivial (fun W h=>ok_pre (H1:=[_]) (R1:=[]) h (fun W hφ=>hφ)) (.inr rfl)
  replace hm:=ite_f hm (of_decide_eq_false h12315)
  refine g_no rfl rfl rfl rfl rfl h12315<|g_no rfl rfl rfl rfl rfl h12315 ?_
  iterate 4 refine g_nu rfl rfl rfl rfl rfl ?_
  refine g_no rfl rfl rfl rfl rfl h12315<|g_do rfl rfl rfl rfl rfl rfl<|g_v rfl (r_pick0 rfl h12315)<|g_v rfl (r_pick0 rfl rfl)<|g_v rfl r_move ?_
  exact hj2 () hm ⟨rfl,rfl,rfl,trivial⟩ (fun W h=>h.phi (fun W hφ=>hφ))
 unfold m_ref20_Check_j2 at hm
 refine g_flat [(1,.pointer (some ⟨g1,0,none⟩)),(4,.bool x2),(65,.bool false)] ⟨rfl,rfl,rfl,trivial⟩ (fun u=>?_)
 refine g_join 9 (ι:=Unit) [1,74] (fun _=>[(74,.bool false)]) (fun _=>⟨w0,M,(100010,g1,.cells #[.int .i64 p0.fKind,.int .i64 p0.fSerial,.int .i64 p0.fEpoch,.string p0.fQuestion.fName,.int .u16 p0.fQuestion.fType,.int .u16 p0.fQuestion.fClass,.bool p0.fGood,.slice Ap0_0 p0.fEntries.length cp0_0,.int .i64 p0.fNote.fKind,.int .i64 p0.fNote.fFrom,.int .i64 p0.fNote.fTo,.int .i64 p0.fNote.fTerm,.int .i64 p0.fNote.fIndex,.int .i64 p0.fNote.fLogTerm,.int .i64 p0.fNote.fCommit,.bool p0.fNote.fGood,.slice Ap0_1 p0.fNote.fEntries.length cp0_1,.slice Ap0_2 p0.fNote.fVoters.length cp0_2,.string p0.fNote.fSnap,.string p0.fText] 31 (0,0))::H,R,φ⟩) (fun _=>m_ref20_Check_j3 p0 = some r) (fun hj3=>?_) (fun _ u hm=>?_)
 ·
  refine g_do rfl rfl rfl rfl rfl rfl<|g_v rfl (r_field (n:=0) Try.underlying31 rfl Try.sizeOf3 rfl rfl)<|g_do rfl rfl rfl rfl rfl rfl<|g_v rfl (r_load (tag:=100010) rfl rfl rfl Try.isAgg3)<|g_do rfl rfl rfl rfl rfl rfl<|g_v rfl (r_neq rfl rfl)<|g_do rfl rfl rfl rfl rfl rfl<|g_v rfl r_move ?_
  refine g_if rfl rfl rfl rfl rfl (fun h12313=>?_) (fun h12313=>?_)
  ·
   replace hm:=ite_t hm (of_decide_eq_true h12313)
   refine g_v rfl r_move<|g_do rfl rfl rfl rfl rfl h12313<|g_v rfl (r_not rfl)<|g_do rfl rfl rfl rfl rfl rfl<|g_v rfl (r_pick1 rfl h12313)<|g_v rfl (r_pick0 rfl rfl)<|g_v rfl r_move ?_
   refine g_case (t:=74) rfl (fun h12314=>?_) (fun h12314=>?_)
   ·
    have h12314' : x2 = false:=by revert h12314; cases x2 <;> simp
    replace hm:=ite_f hm (bool_nt h12314')
    iterate 4 refine g_no rfl rfl rfl rfl rfl h12314 ?_
    iterate 3 refine g_nu rfl rfl rfl rfl rfl ?_
    refine g_no rfl rfl rfl rfl rfl h12314<|g_v rfl (r_pick1 rfl h12314)<|g_nil<|d_then ?_
    refine c_flat [(1,.pointer (some ⟨g1,0,none⟩)),(83,.bool true)] ⟨rfl,rfl,trivial⟩ (fun u=>?_)
    refine c_cond1 rfl rfl<|c_seq<|c_region<|g_v rfl r_assign<|g_nil<|d_then<|c_ret<|d_ret_then ?_
    cases hm
    exact d_retC () Try.results21 (res_tmp (res_nil rfl)) trivial (fun W h=>ok_pre (H1:=[_]) (R1:=[]) h (fun W hφ=>hφ)) (.inr rfl)
   have h12314' : x2 = true:=by revert h12314; cases x2 <;> simp
   replace hm:=ite_t hm h12314'
   exact hj3 () hm ⟨rfl,(congrArg Value.bool h12314),trivial⟩ (fun W h=>h.phi (fun W hφ=>hφ))
  replace hm:=ite_f hm (of_decide_eq_false h12313)
  refine g_no rfl rfl rfl rfl rfl h12313<|g_do rfl rfl rfl rfl rfl rfl<|g_v rfl (r_pick0 rfl h12313)<|g_v rfl (r_pick0 rfl rfl)<|g_v rfl r_move ?_
  exact hj3 () hm ⟨rfl,rfl,trivial⟩ (fun W h=>h.phi (fun W hφ=>hφ))
 unfold m_ref20_Check_j3 at hm
 refine g_flat [(1,.pointer (some ⟨g1,0,none⟩)),(74,.bool false)] ⟨rfl,rfl,trivial⟩ (fun u=>?_)
 refine g_do rfl rfl rfl rfl rfl rfl<|g_v rfl (r_field (n:=0) Try.underlying31 rfl Try.sizeOf3 rfl rfl)<|g_do rfl rfl rfl rfl rfl rfl<|g_v rfl (r_load (tag:=100010) rfl rfl rfl Try.isAgg3)<|g_do rfl rfl rfl rfl rfl rfl<|g_v rfl (r_neq rfl rfl)<|g_do rfl rfl rfl rfl rfl rfl<|g_v rfl r_move ?_
 refine g_case (t:=78) rfl (fun h11397=>?_) (fun h11397=>?_)
 ·
  replace hm:=ite_t hm (of_decide_eq_true h11397)
  refine g_do rfl rfl rfl rfl rfl h11397<|g_v rfl (r_field (n:=19) Try.underlying31 rfl Try.sizeOf9 rfl rfl)<|g_do rfl rfl rfl rfl rfl h11397<|g_v rfl (r_load (tag:=100010) rfl rfl rfl Try.isAgg9)<|g_do rfl rfl rfl rfl rfl h11397<|g_v rfl (r_neqT rfl rfl)<|g_do rfl rfl rfl rfl rfl rfl<|g_v rfl (r_pick1 rfl h11397)<|g_v rfl (r_pick0 rfl rfl)<|g_nil ?_
  refine d_then ?_
  refine c_flat [(1,.pointer (some ⟨g1,0,none⟩)),(83,.bool (!(decide (p0.fText = (⟨#[]⟩ : ByteArray)))))] ⟨rfl,rfl,trivial⟩ (fun u=>?_)
  refine c_cond rfl (fun h11398=>?_) (fun h11398=>?_)
  ·
   have h11398' : (decide (p0.fText = (⟨#[]⟩ : ByteArray))) = false:=by revert h11398; cases (decide (p0.fText = (⟨#[]⟩ : ByteArray))) <;> simp
   replace hm:=ite_f hm (of_decide_eq_false h11398')
   refine c_seq<|c_region<|g_v rfl r_assign<|g_nil<|d_then<|c_ret<|d_ret_then ?_
   cases hm
   exact d_retC () Try.results21 (res_tmp (res_nil rfl)) trivial (fun W h=>ok_pre (H1:=[_]) (R1:=[]) h (fun W hφ=>hφ)) (.inr rfl)
  have h11398' : (decide (p0.fText = (⟨#[]⟩ : ByteArray))) = true:=by revert h11398; cases (decide (p0.fText = (⟨#[]⟩ : ByteArray))) <;> simp
  replace hm:=ite_t hm (of_decide_eq_true h11398')
  refine c_skip<|d_then<|c_seq ?_
  refine c_cut (ι:=Unit) [] (fun _=>[]) (fun _=>⟨w0,M,H,R,φ⟩) (fun _=>m_ref20_Check_j4 = some r) ?_ (fun _ u hm=>?_)
  ·
   refine c_seq<|c_region<|g_v rfl (r_field (n:=0) Try.underlying31 rfl Try.sizeOf3 rfl rfl)<|g_v rfl (r_load (tag:=100010) rfl rfl rfl Try.isAgg3)<|g_nil<|d_then<|c_block<|c_seq<|c_region<|g_v rfl (r_eql rfl rfl) ?_
   refine g_v rfl r_assign<|g_nil<|d_then ?_
   refine c_cond rfl (fun h11583=>?_) (fun h11583=>?_)
   ·
    replace hm:=ite_t hm (of_decide_eq_true h11583)
    refine c_seq<|c_region<|g_v rfl (r_field (n:=3) Try.underlying31 rfl Try.sizeOf24 rfl rfl)<|g_v rfl (r_field (n:=3) Try.underlying24 rfl Try.sizeOf9 rfl rfl)<|g_v rfl (r_load (tag:=100010) rfl rfl rfl Try.isAgg9) ?_
    replace hm:=bnd hm
    obtain ⟨x11584,hx11585,hm⟩:=hm
    refine g_cn ⟨w0,M,_,_,φ⟩ (fun _ h=>h) Try.call47 rfl rfl (c_ref03_Check p0.fQuestion.fName _ hx11585) (fun _ _=>?_)
    refine g_v rfl (r_neq rfl rfl)<|g_nil<|d_then ?_
    refine c_flat [(92,.bool (decide (x11584 ≠ 0)))] ⟨rfl,trivial⟩ (fun u=>?_)
    refine c_cond rfl (fun h11586=>?_) (fun h11586=>?_)
    ·
     replace hm:=ite_t hm (of_decide_eq_true h11586)
     refine c_seq<|c_region<|g_v rfl r_assign<|g_nil<|d_then<|c_ret<|d_ret_block<|d_ret_then<|d_ret_then ?_
     cases hm
     exact d_retC () Try.results21 (res_tmp (res_nil rfl)) trivial (fun W h=>ok_pre (H1:=[_]) (R1:=[]) h (fun W hφ=>hφ)) (.inr rfl)
    replace hm:=ite_f hm (of_decide_eq_false h11586)
    refine c_skip<|d_normal_block ?_
    exact d_round () hm Nat.zero_lt_one trivial (fun W h=>(h.dropH (t:=100010) rfl).phi (fun W hφ=>hφ))
   replace hm:=ite_f hm (of_decide_eq_false h11583)
   refine c_seq<|c_region<|g_v rfl (r_eql rfl rfl)<|g_v rfl r_assign<|g_nil<|d_then ?_
   refine c_cond rfl (fun h11587=>?_) (fun h11587=>?_)
   ·
    replace hm:=ite_t hm (of_decide_eq_true h11587)
    refine c_seq ?_
    refine c_cut (ι:=Unit) [1] (fun _=>[]) (fun _=>⟨w0,M,(100010,g1,.cells #[.int .i64 p0.fKind,.int .i64 p0.fSerial,.int .i64 p0.fEpoch,.string p0.fQuestion.fName,.int .u16 p0.fQuestion.fType,.int .u16 p0.fQuestion.fClass,.bool p0.fGood,.slice Ap0_0 p0.fEntries.length cp0_0,.int .i64 p0.fNote.fKind,.int .i64 p0.fNote.fFrom,.int .i64 p0.fNote.fTo,.int .i64 p0.fNote.fTerm,.int .i64 p0.fNote.fIndex,.int .i64 p0.fNote.fLogTerm,.int .i64 p0.fNote.fCommit,.bool p0.fNote.fGood,.slice Ap0_1 p0.fNote.fEntries.length cp0_1,.slice Ap0_2 p0.fNote.fVoters.length cp0_2,.string p0.fNote.fSnap,.string p0.fText] 31 (0,0))::H,R,φ⟩) (fun _=>m_ref20_Check_j5 p0 = some r) ?_ (fun _ u hm=>?_)
    ·
     refine c_seq<|c_region<|g_v rfl (r_field (n:=7) Try.underlying31 rfl Try.sizeOf25 rfl rfl)<|g_v rfl (r_load (tag:=100010) rfl rfl rfl Try.isAgg25)<|g_v rfl (r_lenL Try.underlying25 rfl)<|g_v rfl (r_gtr rfl rfl)<|g_v rfl r_move ?_
     refine g_case (t:=99) rfl (fun h11846=>?_) (fun h11846=>?_)
     ·
      replace hm:=ite_t hm (of_decide_eq_true h11846)
      iterate 5 refine g_no rfl rfl rfl rfl rfl h11846 ?_
      iterate 3 refine g_nu rfl rfl rfl rfl rfl ?_
      refine g_no rfl rfl rfl rfl rfl h11846<|g_v rfl (r_pick1 rfl h11846)<|g_nil<|d_then ?_
      refine c_flat [(1,.pointer (some ⟨g1,0,none⟩)),(109,.bool true)] ⟨rfl,rfl,trivial⟩ (fun u=>?_)
      refine c_cond1 rfl rfl<|c_seq<|c_region<|g_v rfl r_assign<|g_nil<|d_then<|c_ret<|d_ret_then<|d_ret_then<|d_ret_block ?_
      refine d_ret_then<|d_ret_then ?_
      cases hm
      exact d_retC () Try.results21 (res_tmp (res_nil rfl)) trivial (fun W h=>ok_pre (H1:=[_]) (R1:=[]) h (fun W hφ=>hφ)) (.inr rfl)
     replace hm:=ite_f hm (of_decide_eq_false h11846)
     refine g_do rfl rfl rfl rfl rfl h11846<|g_v rfl (r_field (n:=7) Try.underlying31 rfl Try.sizeOf25 rfl rfl)<|g_do rfl rfl rfl rfl rfl h11846<|g_v rfl (r_load (tag:=100010) rfl rfl rfl Try.isAgg25)<|g_do rfl rfl rfl rfl rfl h11846<|g_v rfl (r_lenL Try.underlying25 rfl)<|g_do rfl rfl rfl rfl rfl h11846<|g_v rfl (r_gtr rfl rfl)<|g_do rfl rfl rfl rfl rfl h11846<|g_v rfl r_move ?_
     refine g_case (t:=104) rfl (fun h11848=>?_) (fun h11848=>?_)
     ·
      replace hm:=ite_t hm (of_decide_eq_true h11848)
      refine g_do rfl rfl rfl rfl rfl h11848<|g_v rfl (r_field (n:=6) Try.underlying31 rfl Try.sizeOf4 rfl rfl)<|g_do rfl rfl rfl rfl rfl h11848<|g_v rfl (r_load (tag:=100010) rfl rfl rfl Try.isAgg4)<|g_do rfl rfl rfl rfl rfl h11848<|g_v rfl (r_not rfl)<|g_do rfl rfl rfl rfl rfl h11846<|g_v rfl (r_pick1 rfl h11848)<|g_v rfl (r_pick0 rfl h11846)<|g_nil ?_
      refine d_then ?_
      refine c_flat [(1,.pointer (some ⟨g1,0,none⟩)),(109,.bool (!p0.fGood))] ⟨rfl,rfl,trivial⟩ (fun u=>?_)
      refine c_cond rfl (fun h11849=>?_) (fun h11849=>?_)
      ·
       have h11849' : p0.fGood = false:=by revert h11849; cases p0.fGood <;> simp
       replace hm:=ite_f hm (bool_nt h11849')
       refine c_seq<|c_region<|g_v rfl r_assign<|g_nil<|d_then<|c_ret<|d_ret_then<|d_ret_then<|d_ret_block<|d_ret_then ?_
       refine d_ret_then ?_
       cases hm
       exact d_retC () Try.results21 (res_tmp (res_nil rfl)) trivial (fun W h=>ok_pre (H1:=[_]) (R1:=[]) h (fun W hφ=>hφ)) (.inr rfl)
      have h11849' : p0.fGood = true:=by revert h11849; cases p0.fGood <;> simp
      replace hm:=ite_t hm h11849'
      refine c_skip ?_
      exact d_round () hm Nat.zero_lt_one ⟨rfl,trivial⟩ (fun W h=>h.phi (fun W hφ=>hφ))
     replace hm:=ite_f hm (of_decide_eq_false h11848)
     iterate 3 refine g_no rfl rfl rfl rfl rfl h11848 ?_
     refine g_do rfl rfl rfl rfl rfl h11846<|g_v rfl (r_pick0 rfl h11848)<|g_v rfl (r_pick0 rfl h11846)<|g_nil<|d_then ?_
     refine c_flat [(1,.pointer (some ⟨g1,0,none⟩)),(109,.bool false)] ⟨rfl,rfl,trivial⟩ (fun u=>?_)
     refine c_cond0 rfl rfl<|c_skip ?_
     exact d_round () hm Nat.zero_lt_one ⟨rfl,trivial⟩ (fun W h=>h.phi (fun W hφ=>hφ))
    unfold m_ref20_Check_j5 at hm
    refine d_flat [(1,.pointer (some ⟨g1,0,none⟩))] ⟨rfl,trivial⟩ (fun u=>?_)
    refine d_then<|c_seq<|c_region<|g_v rfl r_assign<|g_nil<|d_then<|c_block ?_
    replace hm:=bnd hm
    obtain ⟨out6,hl6,hr6⟩:=hm
    obtain ⟨n11760',hl6⟩:=loop_lp hl6
    refine c_loopU (ι:=Nat×Int) [1,5] (fun ⟨n11760,i11677⟩=>[(5,.int .i64 i11677)]) (fun ⟨n11760,i11677⟩=>⟨w0,M,(100010,g1,.cells #[.int .i64 p0.fKind,.int .i64 p0.fSerial,.int .i64 p0.fEpoch,.string p0.fQuestion.fName,.int .u16 p0.fQuestion.fType,.int .u16 p0.fQuestion.fClass,.bool p0.fGood,.slice Ap0_0 p0.fEntries.length cp0_0,.int .i64 p0.fNote.fKind,.int .i64 p0.fNote.fFrom,.int .i64 p0.fNote.fTo,.int .i64 p0.fNote.fTerm,.int .i64 p0.fNote.fIndex,.int .i64 p0.fNote.fLogTerm,.int .i64 p0.fNote.fCommit,.bool p0.fNote.fGood,.slice Ap0_1 p0.fNote.fEntries.length cp0_1,.slice Ap0_2 p0.fNote.fVoters.length cp0_2,.string p0.fNote.fSnap,.string p0.fText] 31 (0,0))::H,R,φ⟩) (fun ⟨n11760,i11677⟩=>Lp (fun s=>m_ref20_Check_s6 p0 s) n11760 i11677 out6) (fun ⟨n11760,i11677⟩=>n11760) (n11760',0) hl6 ⟨rfl,rfl,trivial⟩ (fun W h=>h.phi (fun W hφ=>hφ)) (fun ⟨n11760,i11677⟩ u hlp=>?_)
    obtain ⟨o6,hm,hnx6⟩:=lp_step hlp
    clear hlp
    replace hm : m_ref20_Check_s6 p0 i11677 = some o6:=hm
    unfold m_ref20_Check_s6 at hm
    refine c_flat [(1,.pointer (some ⟨g1,0,none⟩)),(5,.int .i64 i11677)] ⟨rfl,rfl,trivial⟩ (fun u=>?_)
    refine c_seq<|c_seq<|c_region<|g_v rfl r_move<|g_v rfl (r_field (n:=7) Try.underlying31 rfl Try.sizeOf25 rfl rfl)<|g_v rfl (r_load (tag:=100010) rfl rfl rfl Try.isAgg25)<|g_v rfl (r_lenL Try.underlying25 rfl)<|g_v rfl (r_lss rfl rfl)<|g_nil<|d_then ?_
    refine c_cond rfl (fun h11761=>?_) (fun h11761=>?_)
    ·
     replace hm:=ite_t hm (of_decide_eq_true h11761)
     refine c_skip<|d_then<|c_seq<|c_block<|c_seq<|c_region<|g_v rfl (r_field (n:=7) Try.underlying31 rfl Try.sizeOf25 rfl rfl)<|g_v rfl (r_load (tag:=100010) rfl rfl rfl Try.isAgg25)<|g_v rfl r_move ?_
     replace hm:=bnd hm
     obtain ⟨x11797,hx11797,hm⟩:=hm
     obtain ⟨pp11801,hv11802,hz11803,hcp11804⟩:=DOk.at_ hcp0_0.1 hx11797
     refine g_know _ (fun W hS=>cl_at (p:=(Sta.mk w0 M H R φ).ok) (sz:=9) (fun _=>rfl) (by decide) (ok_pre (H1:=[_]) (R1:=[]) hS (fun W h=>h)) fp0_0 hv11802) ?_
     rintro ⟨ad11798,hA11800,f11799⟩
     have f11805:=fun (W : World) (h : (Sta.mk w0 M H R φ).ok W)=>(fop0_0 W h _ hz11803)
     refine g_v rfl (r_ix Try.underlying25 Try.sizeOf41 rfl hA11800 rfl hx11797)<|g_v rfl (r_ldA rfl Try.isAgg41 Try.sizeOf41 (fun W hS=>(f11799 W (ok_pre (H1:=[_]) (R1:=[]) hS (fun W h=>h))).take 9) rfl) ?_
     replace hm:=bnd hm
     obtain ⟨x11806,hx11807,hm⟩:=hm
     refine g_cn ⟨w0,M,_,_,φ⟩ (fun _ h=>h) Try.call48 rfl rfl (c_ref16_Check x11797 pp11801.pA0 pp11801.pC0 hcp11804 (fun W hS=>f11805 W (ok_pre (H1:=[_]) (R1:=[]) hS (fun W h=>h))) _ hx11807) (fun _ _=>?_)
     refine g_v rfl (r_neq rfl rfl)<|g_v rfl r_move ?_
     refine g_case (t:=124) rfl (fun h11808=>?_) (fun h11808=>?_)
     ·
      replace hm:=ite_t hm (of_decide_eq_true h11808)
      iterate 7 refine g_no rfl rfl rfl rfl rfl h11808 ?_
      refine g_v rfl (r_pick1 rfl h11808)<|g_v rfl r_move ?_
      iterate 7 refine g_no rfl rfl rfl rfl rfl rfl ?_
      refine g_v rfl (r_pick1 rfl rfl)<|g_nil<|d_then ?_
      refine c_flat [(1,.pointer (some ⟨g1,0,none⟩)),(5,.int .i64 i11677),(141,.bool true)] ⟨rfl,rfl,rfl,trivial⟩ (fun u=>?_)
      refine c_cond1 rfl rfl<|c_seq<|c_region<|g_v rfl r_assign<|g_nil<|d_then<|c_ret<|d_ret_block<|d_ret_then<|d_ret_then ?_
      refine d_ret_block<|d_ret_block<|d_ret_then<|d_ret_then ?_
      replace hm:=nx_out (C:=(fun e : Unit ⊕ Int=>Sum.elim (fun e=>m_ref20_Check_j4) (fun x=>some x) e = some r)) hm hnx6 hr6
      replace hm : some 1 = some r:=hm
      cases hm
      exact d_retC () Try.results21 (res_tmp (res_nil rfl)) trivial (fun W h=>ok_pre (H1:=[_]) (R1:=[]) h (fun W hφ=>hφ)) (.inr rfl)
     replace hm:=ite_f hm (of_decide_eq_false h11808)
     refine g_do rfl rfl rfl rfl rfl h11808<|g_v rfl (r_field (n:=7) Try.underlying31 rfl Try.sizeOf25 rfl rfl)<|g_do rfl rfl rfl rfl rfl h11808<|g_v rfl (r_load (tag:=100010) rfl rfl rfl Try.isAgg25)<|g_do rfl rfl rfl rfl rfl h11808<|g_v rfl r_move<|g_do rfl rfl rfl rfl rfl h11808 ?_
     replace hm:=bnd hm
     obtain ⟨x11820,hx11820,hm⟩:=hm
     obtain ⟨pp11824,hv11825,hz11826,hcp11827⟩:=DOk.at_ hcp0_0.1 hx11820
     refine g_know _ (fun W hS=>cl_at (p:=(Sta.mk w0 M H R φ).ok) (sz:=9) (fun _=>rfl) (by decide) (ok_pre (H1:=[_]) (R1:=[]) hS (fun W h=>h)) fp0_0 hv11825) ?_
     rintro ⟨ad11821,hA11823,f11822⟩
     have f11828:=fun (W : World) (h : (Sta.mk w0 M H R φ).ok W)=>(fop0_0 W h _ hz11826)
     refine g_v rfl (r_ix Try.underlying25 Try.sizeOf41 rfl hA11823 rfl hx11820)<|g_do rfl rfl rfl rfl rfl h11808 ?_
     have f11829:=fun (W : World) (h : (Sta.mk w0 M H R φ).ok W)=>Cl.drop (f11822 W h) 8
     refine g_v rfl (r_fieldF Try.underlying41 rfl Try.sizeOf3 rfl)<|g_do rfl rfl rfl rfl rfl h11808<|g_v rfl (r_ld rfl Try.isAgg3 (fun W hS=>Cl.head (f11829 W (ok_pre (H1:=[_]) (R1:=[]) hS (fun W h=>h)))))<|g_do rfl rfl rfl rfl rfl h11808<|g_v rfl (r_lss rfl rfl)<|g_v rfl (r_pick0 rfl h11808)<|g_v rfl r_move ?_
     refine g_case (t:=133) rfl (fun h11830=>?_) (fun h11830=>?_)
     ·
      replace hm:=ite_t hm (of_decide_eq_true h11830)
      iterate 7 refine g_no rfl rfl rfl rfl rfl h11830 ?_
      refine g_v rfl (r_pick1 rfl h11830)<|g_nil<|d_then ?_
      refine c_flat [(1,.pointer (some ⟨g1,0,none⟩)),(5,.int .i64 i11677),(141,.bool true)] ⟨rfl,rfl,rfl,trivial⟩ (fun u=>?_)
      refine c_cond1 rfl rfl<|c_seq<|c_region<|g_v rfl r_assign<|g_nil<|d_then<|c_ret<|d_ret_block<|d_ret_then<|d_ret_then ?_
      refine d_ret_block<|d_ret_block<|d_ret_then<|d_ret_then ?_
      replace hm:=nx_out (C:=(fun e : Unit ⊕ Int=>Sum.elim (fun e=>m_ref20_Check_j4) (fun x=>some x) e = some r)) hm hnx6 hr6
      replace hm : some 1 = some r:=hm
      cases hm
      exact d_retC () Try.results21 (res_tmp (res_nil rfl)) trivial (fun W h=>ok_pre (H1:=[_]) (R1:=[]) h (fun W hφ=>hφ)) (.inr rfl)
     replace hm:=ite_f hm (of_decide_eq_false h11830)
     refine g_do rfl rfl rfl rfl rfl h11830<|g_v rfl (r_field (n:=7) Try.underlying31 rfl Try.sizeOf25 rfl rfl)<|g_do rfl rfl rfl rfl rfl h11830<|g_v rfl (r_load (tag:=100010) rfl rfl rfl Try.isAgg25)<|g_do rfl rfl rfl rfl rfl h11830<|g_v rfl r_move<|g_do rfl rfl rfl rfl rfl h11830 ?_
     replace hm:=bnd hm
     obtain ⟨x11831,hx11831,hm⟩:=hm
     obtain ⟨pp11835,hv11836,hz11837,hcp11838⟩:=DOk.at_ hcp0_0.1 hx11831
     refine g_know _ (fun W hS=>cl_at (p:=(Sta.mk w0 M H R φ).ok) (sz:=9) (fun _=>rfl) (by decide) (ok_pre (H1:=[_]) (R1:=[]) hS (fun W h=>h)) fp0_0 hv11836) ?_
     rintro ⟨ad11832,hA11834,f11833⟩
     have f11839:=fun (W : World) (h : (Sta.mk w0 M H R φ).ok W)=>(fop0_0 W h _ hz11837)
     refine g_v rfl (r_ix Try.underlying25 Try.sizeOf41 rfl hA11834 rfl hx11831)<|g_do rfl rfl rfl rfl rfl h11830 ?_
     have f11840:=fun (W : World) (h : (Sta.mk w0 M H R φ).ok W)=>Cl.drop (f11833 W h) 8
     refine g_v rfl (r_fieldF Try.underlying41 rfl Try.sizeOf3 rfl)<|g_do rfl rfl rfl rfl rfl h11830<|g_v rfl (r_ld rfl Try.isAgg3 (fun W hS=>Cl.head (f11840 W (ok_pre (H1:=[_]) (R1:=[]) hS (fun W h=>h)))))<|g_do rfl rfl rfl rfl rfl h11830<|g_v rfl (r_gtr rfl rfl)<|g_v rfl (r_pick0 rfl h11830)<|g_nil<|d_then ?_
     refine c_flat [(1,.pointer (some ⟨g1,0,none⟩)),(5,.int .i64 i11677),(141,.bool (decide (4611686018427387904 < x11831.fSource)))] ⟨rfl,rfl,rfl,trivial⟩ (fun u=>?_)
     refine c_cond rfl (fun h11841=>?_) (fun h11841=>?_)
     ·
      replace hm:=ite_t hm (of_decide_eq_true h11841)
      refine c_seq<|c_region<|g_v rfl r_assign<|g_nil<|d_then<|c_ret<|d_ret_block<|d_ret_then<|d_ret_then<|d_ret_block ?_
      refine d_ret_block<|d_ret_then<|d_ret_then ?_
      replace hm:=nx_out (C:=(fun e : Unit ⊕ Int=>Sum.elim (fun e=>m_ref20_Check_j4) (fun x=>some x) e = some r)) hm hnx6 hr6
      replace hm : some 1 = some r:=hm
      cases hm
      exact d_retC () Try.results21 (res_tmp (res_nil rfl)) trivial (fun W h=>ok_pre (H1:=[_]) (R1:=[]) h (fun W hφ=>hφ)) (.inr rfl)
     replace hm:=ite_f hm (of_decide_eq_false h11841)
     refine c_skip<|d_normal_block<|d_then<|c_region<|g_v rfl r_move<|g_v rfl (r_add rfl rfl rfl)<|g_v rfl r_assign<|g_nil ?_
     obtain ⟨n11842,hn11842,hlp⟩:=nx_inl hm hnx6
     exact d_round (n11842,w64 (i11677 + 1)) hlp hn11842 ⟨rfl,rfl,trivial⟩ (fun W h=>h.phi (fun W hφ=>hφ))
    replace hm:=ite_f hm (of_decide_eq_false h11761)
    refine c_exit<|d_exit_then<|d_exit_then<|d_exit_block<|d_normal_block ?_
    replace hm:=nx_out (C:=(fun e : Unit ⊕ Int=>Sum.elim (fun e=>m_ref20_Check_j4) (fun x=>some x) e = some r)) hm hnx6 hr6
    exact d_round () hm Nat.zero_lt_one trivial (fun W h=>(h.dropH (t:=100010) rfl).phi (fun W hφ=>hφ))
   replace hm:=ite_f hm (of_decide_eq_false h11587)
   refine c_seq<|c_region<|g_v rfl (r_eql rfl rfl)<|g_v rfl r_assign<|g_nil<|d_then ?_
   refine c_cond rfl (fun h11850=>?_) (fun h11850=>?_)
   ·
    replace hm:=ite_t hm (of_decide_eq_true h11850)
    refine c_seq<|c_region<|g_v rfl (r_field (n:=8) Try.underlying31 rfl Try.sizeOf29 rfl rfl)<|g_v rfl (r_loadA (tag:=100010) rfl rfl Try.isAgg29 Try.sizeOf29 rfl rfl) ?_
    replace hm:=bnd hm
    obtain ⟨x11851,hx11852,hm⟩:=hm
    refine g_cn ⟨w0,M,_,_,φ⟩ (fun _ h=>h) Try.call49 rfl rfl (c_ref12_Check p0.fNote Ap0_1 cp0_1 hcp0_1 (fun W hS=>fp0_1 W (ok_pre (H1:=[_]) (R1:=[]) hS (fun W h=>h))) Ap0_2 cp0_2 hcp0_2 (fun W hS=>fp0_2 W (ok_pre (H1:=[_]) (R1:=[]) hS (fun W h=>h))) _ hx11852) (fun _ _=>?_)
    refine g_v rfl (r_neq rfl rfl)<|g_nil<|d_then ?_
    refine c_flat [(147,.bool (decide (x11851 ≠ 0)))] ⟨rfl,trivial⟩ (fun u=>?_)
    refine c_cond rfl (fun h11853=>?_) (fun h11853=>?_)
    ·
     replace hm:=ite_t hm (of_decide_eq_true h11853)
     refine c_seq<|c_region<|g_v rfl r_assign<|g_nil<|d_then<|c_ret<|d_ret_block<|d_ret_then<|d_ret_then ?_
     cases hm
     exact d_retC () Try.results21 (res_tmp (res_nil rfl)) trivial (fun W h=>ok_pre (H1:=[_]) (R1:=[]) h (fun W hφ=>hφ)) (.inr rfl)
    replace hm:=ite_f hm (of_decide_eq_false h11853)
    refine c_skip<|d_normal_block ?_
    exact d_round () hm Nat.zero_lt_one trivial (fun W h=>(h.dropH (t:=100010) rfl).phi (fun W hφ=>hφ))
   replace hm:=ite_f hm (of_decide_eq_false h11850)
   refine c_seq<|c_region<|g_v rfl (r_eql rfl rfl)<|g_v rfl r_assign<|g_nil<|d_then ?_
   refine c_flat [(1,.pointer (some ⟨g1,0,none⟩)),(148,.bool (decide (p0.fKind = 5)))] ⟨rfl,rfl,trivial⟩ (fun u=>?_)
   refine c_cond rfl (fun h11854=>?_) (fun h11854=>?_)
   ·
    replace hm:=ite_t hm (of_decide_eq_true h11854)
    refine c_seq<|c_region<|g_v rfl (r_field (n:=19) Try.underlying31 rfl Try.sizeOf9 rfl rfl)<|g_v rfl (r_load (tag:=100010) rfl rfl rfl Try.isAgg9)<|g_v rfl (r_len Try.underlying9 rfl)<|g_v rfl (r_gtr rfl rfl)<|g_nil<|d_then ?_
    refine c_cond rfl (fun h11855=>?_) (fun h11855=>?_)
    ·
     replace hm:=ite_t hm (of_decide_eq_true h11855)
     refine c_seq<|c_region<|g_v rfl r_assign<|g_nil<|d_then<|c_ret<|d_ret_block<|d_ret_then<|d_ret_then ?_
     cases hm
     exact d_retC () Try.results21 (res_tmp (res_nil rfl)) trivial (fun W h=>ok_pre (H1:=[_]) (R1:=[]) h (fun W hφ=>hφ)) (.inr rfl)
    replace hm:=ite_f hm (of_decide_eq_false h11855)
    refine c_skip<|d_normal_block ?_
    exact d_round () hm Nat.zero_lt_one trivial (fun W h=>(h.dropH (t:=100010) rfl).phi (fun W hφ=>hφ))
   replace hm:=ite_f hm (of_decide_eq_false h11854)
   refine c_skip<|d_normal_block ?_
   exact d_round () hm Nat.zero_lt_one trivial (fun W h=>(h.dropH (t:=100010) rfl).phi (fun W hφ=>hφ))
  unfold m_ref20_Check_j4 at hm
  refine d_flat [] trivial (fun u=>?_)
  refine d_sta ⟨w0,M,H,R,φ⟩ (fun _ h=>h)<|d_then<|c_seq<|c_region<|g_v rfl r_assign<|g_nil<|d_then<|c_ret ?_
  cases hm
  exact d_retC () Try.results21 (res_tmp (res_nil rfl)) trivial (fun W h=>ok_pre (H1:=[]) (R1:=[]) h (fun W hφ=>hφ)) (.inr rfl)
 replace hm:=ite_f hm (of_decide_eq_false h11397)
 iterate 3 refine g_no rfl rfl rfl rfl rfl h11397 ?_
 refine g_do rfl rfl rfl rfl rfl rfl<|g_v rfl (r_pick0 rfl h11397)<|g_v rfl (r_pick0 rfl rfl)<|g_nil<|d_then<|c_cond0 rfl rfl<|c_skip<|d_then<|c_seq ?_
 refine c_cut (ι:=Unit) [] (fun _=>[]) (fun _=>⟨w0,M,H,R,φ⟩) (fun _=>m_ref20_Check_j7 = some r) ?_ (fun _ u hm=>?_)
 ·
  refine c_seq<|c_region<|g_v rfl (r_field (n:=0) Try.underlying31 rfl Try.sizeOf3 rfl rfl)<|g_v rfl (r_load (tag:=100010) rfl rfl rfl Try.isAgg3)<|g_nil<|d_then<|c_block<|c_seq<|c_region<|g_v rfl (r_eql rfl rfl) ?_
  refine g_v rfl r_assign<|g_nil<|d_then ?_
  refine c_flat [(1,.pointer (some ⟨g1,0,none⟩)),(85,.int .i64 p0.fKind),(86,.bool (decide (p0.fKind = 1)))] ⟨rfl,rfl,rfl,trivial⟩ (fun u=>?_)
  refine c_cond rfl (fun h12040=>?_) (fun h12040=>?_)
  ·
   replace hm:=ite_t hm (of_decide_eq_true h12040)
   refine c_seq<|c_region<|g_v rfl (r_field (n:=3) Try.underlying31 rfl Try.sizeOf24 rfl rfl)<|g_v rfl (r_field (n:=3) Try.underlying24 rfl Try.sizeOf9 rfl rfl)<|g_v rfl (r_load (tag:=100010) rfl rfl rfl Try.isAgg9) ?_
   replace hm:=bnd hm
   obtain ⟨x12041,hx12042,hm⟩:=hm
   refine g_cn ⟨w0,M,_,_,φ⟩ (fun _ h=>h) Try.call47 rfl rfl (c_ref03_Check p0.fQuestion.fName _ hx12042) (fun _ _=>?_)
   refine g_v rfl (r_neq rfl rfl)<|g_nil<|d_then ?_
   refine c_cond rfl (fun h12043=>?_) (fun h12043=>?_)
   ·
    replace hm:=ite_t hm (of_decide_eq_true h12043)
    refine c_seq<|c_region<|g_v rfl r_assign<|g_nil<|d_then<|c_ret<|d_ret_block<|d_ret_then<|d_ret_then ?_
    cases hm
    exact d_retC () Try.results21 (res_tmp (res_nil rfl)) trivial (fun W h=>ok_pre (H1:=[_]) (R1:=[]) h (fun W hφ=>hφ)) (.inr rfl)
   replace hm:=ite_f hm (of_decide_eq_false h12043)
   refine c_skip<|d_normal_block ?_
   exact d_round () hm Nat.zero_lt_one trivial (fun W h=>(h.dropH (t:=100010) rfl).phi (fun W hφ=>hφ))
  replace hm:=ite_f hm (of_decide_eq_false h12040)
  refine c_seq<|c_region<|g_v rfl (r_eql rfl rfl)<|g_v rfl r_assign<|g_nil<|d_then ?_
  refine c_cond rfl (fun h12044=>?_) (fun h12044=>?_)
  ·
   replace hm:=ite_t hm (of_decide_eq_true h12044)
   refine c_seq ?_
   refine c_cut (ι:=Unit) [1] (fun _=>[]) (fun _=>⟨w0,M,(100010,g1,.cells #[.int .i64 p0.fKind,.int .i64 p0.fSerial,.int .i64 p0.fEpoch,.string p0.fQuestion.fName,.int .u16 p0.fQuestion.fType,.int .u16 p0.fQuestion.fClass,.bool p0.fGood,.slice Ap0_0 p0.fEntries.length cp0_0,.int .i64 p0.fNote.fKind,.int .i64 p0.fNote.fFrom,.int .i64 p0.fNote.fTo,.int .i64 p0.fNote.fTerm,.int .i64 p0.fNote.fIndex,.int .i64 p0.fNote.fLogTerm,.int .i64 p0.fNote.fCommit,.bool p0.fNote.fGood,.slice Ap0_1 p0.fNote.fEntries.length cp0_1,.slice Ap0_2 p0.fNote.fVoters.length cp0_2,.string p0.fNote.fSnap,.string p0.fText] 31 (0,0))::H,R,φ⟩) (fun _=>m_ref20_Check_j8 p0 = some r) ?_ (fun _ u hm=>?_)
   ·
    refine c_seq<|c_region<|g_v rfl (r_field (n:=7) Try.underlying31 rfl Try.sizeOf25 rfl rfl)<|g_v rfl (r_load (tag:=100010) rfl rfl rfl Try.isAgg25)<|g_v rfl (r_lenL Try.underlying25 rfl)<|g_v rfl (r_gtr rfl rfl)<|g_v rfl r_move ?_
    refine g_case (t:=99) rfl (fun h12303=>?_) (fun h12303=>?_)
    ·
     replace hm:=ite_t hm (of_decide_eq_true h12303)
     iterate 5 refine g_no rfl rfl rfl rfl rfl h12303 ?_
     iterate 3 refine g_nu rfl rfl rfl rfl rfl ?_
     refine g_no rfl rfl rfl rfl rfl h12303<|g_v rfl (r_pick1 rfl h12303)<|g_nil<|d_then<|c_cond1 rfl rfl<|c_seq<|c_region<|g_v rfl r_assign<|g_nil<|d_then ?_
     refine c_flat [(2,.int .i64 1)] ⟨rfl,trivial⟩ (fun u=>?_)
     refine c_ret<|d_ret_then<|d_ret_then<|d_ret_block<|d_ret_then<|d_ret_then ?_
     cases hm
     exact d_retC () Try.results21 (res_tmp (res_nil rfl)) trivial (fun W h=>ok_pre (H1:=[_]) (R1:=[]) h (fun W hφ=>hφ)) (.inr rfl)
    replace hm:=ite_f hm (of_decide_eq_false h12303)
    refine g_do rfl rfl rfl rfl rfl h12303<|g_v rfl (r_field (n:=7) Try.underlying31 rfl Try.sizeOf25 rfl rfl)<|g_do rfl rfl rfl rfl rfl h12303<|g_v rfl (r_load (tag:=100010) rfl rfl rfl Try.isAgg25)<|g_do rfl rfl rfl rfl rfl h12303<|g_v rfl (r_lenL Try.underlying25 rfl)<|g_do rfl rfl rfl rfl rfl h12303<|g_v rfl (r_gtr rfl rfl)<|g_do rfl rfl rfl rfl rfl h12303<|g_v rfl r_move ?_
    refine g_case (t:=104) rfl (fun h12305=>?_) (fun h12305=>?_)
    ·
     replace hm:=ite_t hm (of_decide_eq_true h12305)
     refine g_do rfl rfl rfl rfl rfl h12305<|g_v rfl (r_field (n:=6) Try.underlying31 rfl Try.sizeOf4 rfl rfl)<|g_do rfl rfl rfl rfl rfl h12305<|g_v rfl (r_load (tag:=100010) rfl rfl rfl Try.isAgg4)<|g_do rfl rfl rfl rfl rfl h12305<|g_v rfl (r_not rfl)<|g_do rfl rfl rfl rfl rfl h12303<|g_v rfl (r_pick1 rfl h12305)<|g_v rfl (r_pick0 rfl h12303)<|g_nil ?_
     refine d_then ?_
     refine c_flat [(1,.pointer (some ⟨g1,0,none⟩)),(109,.bool (!p0.fGood))] ⟨rfl,rfl,trivial⟩ (fun u=>?_)
     refine c_cond rfl (fun h12306=>?_) (fun h12306=>?_)
     ·
      have h12306' : p0.fGood = false:=by revert h12306; cases p0.fGood <;> simp
      replace hm:=ite_f hm (bool_nt h12306')
      refine c_seq<|c_region<|g_v rfl r_assign<|g_nil<|d_then<|c_ret<|d_ret_then<|d_ret_then<|d_ret_block<|d_ret_then ?_
      refine d_ret_then ?_
      cases hm
      exact d_retC () Try.results21 (res_tmp (res_nil rfl)) trivial (fun W h=>ok_pre (H1:=[_]) (R1:=[]) h (fun W hφ=>hφ)) (.inr rfl)
     have h12306' : p0.fGood = true:=by revert h12306; cases p0.fGood <;> simp
     replace hm:=ite_t hm h12306'
     refine c_skip ?_
     exact d_round () hm Nat.zero_lt_one ⟨rfl,trivial⟩ (fun W h=>h.phi (fun W hφ=>hφ))
    replace hm:=ite_f hm (of_decide_eq_false h12305)
    iterate 3 refine g_no rfl rfl rfl rfl rfl h12305 ?_
    refine g_do rfl rfl rfl rfl rfl h12303<|g_v rfl (r_pick0 rfl h12305)<|g_v rfl (r_pick0 rfl h12303)<|g_nil<|d_then ?_
    refine c_flat [(1,.pointer (some ⟨g1,0,none⟩)),(109,.bool false)] ⟨rfl,rfl,trivial⟩ (fun u=>?_)
    refine c_cond0 rfl rfl<|c_skip ?_
    exact d_round () hm Nat.zero_lt_one ⟨rfl,trivial⟩ (fun W h=>h.phi (fun W hφ=>hφ))
   unfold m_ref20_Check_j8 at hm
   refine d_flat [(1,.pointer (some ⟨g1,0,none⟩))] ⟨rfl,trivial⟩ (fun u=>?_)
   refine d_then<|c_seq<|c_region<|g_v rfl r_assign<|g_nil<|d_then<|c_block ?_
   replace hm:=bnd hm
   obtain ⟨out9,hl9,hr9⟩:=hm
   obtain ⟨n12217',hl9⟩:=loop_lp hl9
   refine c_loopU (ι:=Nat×Int) [1,5] (fun ⟨n12217,i12134⟩=>[(5,.int .i64 i12134)]) (fun ⟨n12217,i12134⟩=>⟨w0,M,(100010,g1,.cells #[.int .i64 p0.fKind,.int .i64 p0.fSerial,.int .i64 p0.fEpoch,.string p0.fQuestion.fName,.int .u16 p0.fQuestion.fType,.int .u16 p0.fQuestion.fClass,.bool p0.fGood,.slice Ap0_0 p0.fEntries.length cp0_0,.int .i64 p0.fNote.fKind,.int .i64 p0.fNote.fFrom,.int .i64 p0.fNote.fTo,.int .i64 p0.fNote.fTerm,.int .i64 p0.fNote.fIndex,.int .i64 p0.fNote.fLogTerm,.int .i64 p0.fNote.fCommit,.bool p0.fNote.fGood,.slice Ap0_1 p0.fNote.fEntries.length cp0_1,.slice Ap0_2 p0.fNote.fVoters.length cp0_2,.string p0.fNote.fSnap,.string p0.fText] 31 (0,0))::H,R,φ⟩) (fun ⟨n12217,i12134⟩=>Lp (fun s=>m_ref20_Check_s9 p0 s) n12217 i12134 out9) (fun ⟨n12217,i12134⟩=>n12217) (n12217',0) hl9 ⟨rfl,rfl,trivial⟩ (fun W h=>h.phi (fun W hφ=>hφ)) (fun ⟨n12217,i12134⟩ u hlp=>?_)
   obtain ⟨o9,hm,hnx9⟩:=lp_step hlp
   clear hlp
   replace hm : m_ref20_Check_s9 p0 i12134 = some o9:=hm
   unfold m_ref20_Check_s9 at hm
   refine c_flat [(1,.pointer (some ⟨g1,0,none⟩)),(5,.int .i64 i12134)] ⟨rfl,rfl,trivial⟩ (fun u=>?_)
   refine c_seq<|c_seq<|c_region<|g_v rfl r_move<|g_v rfl (r_field (n:=7) Try.underlying31 rfl Try.sizeOf25 rfl rfl)<|g_v rfl (r_load (tag:=100010) rfl rfl rfl Try.isAgg25)<|g_v rfl (r_lenL Try.underlying25 rfl)<|g_v rfl (r_lss rfl rfl)<|g_nil<|d_then ?_
   refine c_cond rfl (fun h12218=>?_) (fun h12218=>?_)
   ·
    replace hm:=ite_t hm (of_decide_eq_true h12218)
    refine c_skip<|d_then<|c_seq<|c_block<|c_seq<|c_region<|g_v rfl (r_field (n:=7) Try.underlying31 rfl Try.sizeOf25 rfl rfl)<|g_v rfl (r_load (tag:=100010) rfl rfl rfl Try.isAgg25)<|g_v rfl r_move ?_
    replace hm:=bnd hm
    obtain ⟨x12254,hx12254,hm⟩:=hm
    obtain ⟨pp12258,hv12259,hz12260,hcp12261⟩:=DOk.at_ hcp0_0.1 hx12254
    refine g_know _ (fun W hS=>cl_at (p:=(Sta.mk w0 M H R φ).ok) (sz:=9) (fun _=>rfl) (by decide) (ok_pre (H1:=[_]) (R1:=[]) hS (fun W h=>h)) fp0_0 hv12259) ?_
    rintro ⟨ad12255,hA12257,f12256⟩
    have f12262:=fun (W : World) (h : (Sta.mk w0 M H R φ).ok W)=>(fop0_0 W h _ hz12260)
    refine g_v rfl (r_ix Try.underlying25 Try.sizeOf41 rfl hA12257 rfl hx12254)<|g_v rfl (r_ldA rfl Try.isAgg41 Try.sizeOf41 (fun W hS=>(f12256 W (ok_pre (H1:=[_]) (R1:=[]) hS (fun W h=>h))).take 9) rfl) ?_
    replace hm:=bnd hm
    obtain ⟨x12263,hx12264,hm⟩:=hm
    refine g_cn ⟨w0,M,_,_,φ⟩ (fun _ h=>h) Try.call48 rfl rfl (c_ref16_Check x12254 pp12258.pA0 pp12258.pC0 hcp12261 (fun W hS=>f12262 W (ok_pre (H1:=[_]) (R1:=[]) hS (fun W h=>h))) _ hx12264) (fun _ _=>?_)
    refine g_v rfl (r_neq rfl rfl)<|g_v rfl r_move ?_
    refine g_case (t:=124) rfl (fun h12265=>?_) (fun h12265=>?_)
    ·
     replace hm:=ite_t hm (of_decide_eq_true h12265)
     iterate 7 refine g_no rfl rfl rfl rfl rfl h12265 ?_
     refine g_v rfl (r_pick1 rfl h12265)<|g_v rfl r_move ?_
     iterate 7 refine g_no rfl rfl rfl rfl rfl rfl ?_
     refine g_v rfl (r_pick1 rfl rfl)<|g_nil<|d_then ?_
     refine c_flat [(1,.pointer (some ⟨g1,0,none⟩)),(5,.int .i64 i12134),(141,.bool true)] ⟨rfl,rfl,rfl,trivial⟩ (fun u=>?_)
     refine c_cond1 rfl rfl<|c_seq<|c_region<|g_v rfl r_assign<|g_nil<|d_then<|c_ret<|d_ret_block<|d_ret_then<|d_ret_then ?_
     refine d_ret_block<|d_ret_block<|d_ret_then<|d_ret_then ?_
     replace hm:=nx_out (C:=(fun e : Unit ⊕ Int=>Sum.elim (fun e=>m_ref20_Check_j7) (fun x=>some x) e = some r)) hm hnx9 hr9
     replace hm : some 1 = some r:=hm
     cases hm
     exact d_retC () Try.results21 (res_tmp (res_nil rfl)) trivial (fun W h=>ok_pre (H1:=[_]) (R1:=[]) h (fun W hφ=>hφ)) (.inr rfl)
    replace hm:=ite_f hm (of_decide_eq_false h12265)
    refine g_do rfl rfl rfl rfl rfl h12265<|g_v rfl (r_field (n:=7) Try.underlying31 rfl Try.sizeOf25 rfl rfl)<|g_do rfl rfl rfl rfl rfl h12265<|g_v rfl (r_load (tag:=100010) rfl rfl rfl Try.isAgg25)<|g_do rfl rfl rfl rfl rfl h12265<|g_v rfl r_move<|g_do rfl rfl rfl rfl rfl h12265 ?_
    replace hm:=bnd hm
    obtain ⟨x12277,hx12277,hm⟩:=hm
    obtain ⟨pp12281,hv12282,hz12283,hcp12284⟩:=DOk.at_ hcp0_0.1 hx12277
    refine g_know _ (fun W hS=>cl_at (p:=(Sta.mk w0 M H R φ).ok) (sz:=9) (fun _=>rfl) (by decide) (ok_pre (H1:=[_]) (R1:=[]) hS (fun W h=>h)) fp0_0 hv12282) ?_
    rintro ⟨ad12278,hA12280,f12279⟩
    have f12285:=fun (W : World) (h : (Sta.mk w0 M H R φ).ok W)=>(fop0_0 W h _ hz12283)
    refine g_v rfl (r_ix Try.underlying25 Try.sizeOf41 rfl hA12280 rfl hx12277)<|g_do rfl rfl rfl rfl rfl h12265 ?_
    have f12286:=fun (W : World) (h : (Sta.mk w0 M H R φ).ok W)=>Cl.drop (f12279 W h) 8
    refine g_v rfl (r_fieldF Try.underlying41 rfl Try.sizeOf3 rfl)<|g_do rfl rfl rfl rfl rfl h12265<|g_v rfl (r_ld rfl Try.isAgg3 (fun W hS=>Cl.head (f12286 W (ok_pre (H1:=[_]) (R1:=[]) hS (fun W h=>h)))))<|g_do rfl rfl rfl rfl rfl h12265<|g_v rfl (r_lss rfl rfl)<|g_v rfl (r_pick0 rfl h12265)<|g_v rfl r_move ?_
    refine g_case (t:=133) rfl (fun h12287=>?_) (fun h12287=>?_)
    ·
     replace hm:=ite_t hm (of_decide_eq_true h12287)
     iterate 7 refine g_no rfl rfl rfl rfl rfl h12287 ?_
     refine g_v rfl (r_pick1 rfl h12287)<|g_nil<|d_then ?_
     refine c_flat [(1,.pointer (some ⟨g1,0,none⟩)),(5,.int .i64 i12134),(141,.bool true)] ⟨rfl,rfl,rfl,trivial⟩ (fun u=>?_)
     refine c_cond1 rfl rfl<|c_seq<|c_region<|g_v rfl r_assign<|g_nil<|d_then<|c_ret<|d_ret_block<|d_ret_then<|d_ret_then ?_
     refine d_ret_block<|d_ret_block<|d_ret_then<|d_ret_then ?_
     replace hm:=nx_out (C:=(fun e : Unit ⊕ Int=>Sum.elim (fun e=>m_ref20_Check_j7) (fun x=>some x) e = some r)) hm hnx9 hr9
     replace hm : some 1 = some r:=hm
     cases hm
     exact d_retC () Try.results21 (res_tmp (res_nil rfl)) trivial (fun W h=>ok_pre (H1:=[_]) (R1:=[]) h (fun W hφ=>hφ)) (.inr rfl)
    replace hm:=ite_f hm (of_decide_eq_false h12287)
    refine g_do rfl rfl rfl rfl rfl h12287<|g_v rfl (r_field (n:=7) Try.underlying31 rfl Try.sizeOf25 rfl rfl)<|g_do rfl rfl rfl rfl rfl h12287<|g_v rfl (r_load (tag:=100010) rfl rfl rfl Try.isAgg25)<|g_do rfl rfl rfl rfl rfl h12287<|g_v rfl r_move<|g_do rfl rfl rfl rfl rfl h12287 ?_
    replace hm:=bnd hm
    obtain ⟨x12288,hx12288,hm⟩:=hm
    obtain ⟨pp12292,hv12293,hz12294,hcp12295⟩:=DOk.at_ hcp0_0.1 hx12288
    refine g_know _ (fun W hS=>cl_at (p:=(Sta.mk w0 M H R φ).ok) (sz:=9) (fun _=>rfl) (by decide) (ok_pre (H1:=[_]) (R1:=[]) hS (fun W h=>h)) fp0_0 hv12293) ?_
    rintro ⟨ad12289,hA12291,f12290⟩
    have f12296:=fun (W : World) (h : (Sta.mk w0 M H R φ).ok W)=>(fop0_0 W h _ hz12294)
    refine g_v rfl (r_ix Try.underlying25 Try.sizeOf41 rfl hA12291 rfl hx12288)<|g_do rfl rfl rfl rfl rfl h12287 ?_
    have f12297:=fun (W : World) (h : (Sta.mk w0 M H R φ).ok W)=>Cl.drop (f12290 W h) 8
    refine g_v rfl (r_fieldF Try.underlying41 rfl Try.sizeOf3 rfl)<|g_do rfl rfl rfl rfl rfl h12287<|g_v rfl (r_ld rfl Try.isAgg3 (fun W hS=>Cl.head (f12297 W (ok_pre (H1:=[_]) (R1:=[]) hS (fun W h=>h)))))<|g_do rfl rfl rfl rfl rfl h12287<|g_v rfl (r_gtr rfl rfl)<|g_v rfl (r_pick0 rfl h12287)<|g_nil<|d_then ?_
    refine c_flat [(1,.pointer (some ⟨g1,0,none⟩)),(5,.int .i64 i12134),(141,.bool (decide (4611686018427387904 < x12288.fSource)))] ⟨rfl,rfl,rfl,trivial⟩ (fun u=>?_)
    refine c_cond rfl (fun h12298=>?_) (fun h12298=>?_)
    ·
     replace hm:=ite_t hm (of_decide_eq_true h12298)
     refine c_seq<|c_region<|g_v rfl r_assign<|g_nil<|d_then<|c_ret<|d_ret_block<|d_ret_then<|d_ret_then<|d_ret_block ?_
     refine d_ret_block<|d_ret_then<|d_ret_then ?_
     replace hm:=nx_out (C:=(fun e : Unit ⊕ Int=>Sum.elim (fun e=>m_ref20_Check_j7) (fun x=>some x) e = some r)) hm hnx9 hr9
     replace hm : some 1 = some r:=hm
     cases hm
     exact d_retC () Try.results21 (res_tmp (res_nil rfl)) trivial (fun W h=>ok_pre (H1:=[_]) (R1:=[]) h (fun W hφ=>hφ)) (.inr rfl)
    replace hm:=ite_f hm (of_decide_eq_false h12298)
    refine c_skip<|d_normal_block<|d_then<|c_region<|g_v rfl r_move<|g_v rfl (r_add rfl rfl rfl)<|g_v rfl r_assign<|g_nil ?_
    obtain ⟨n12299,hn12299,hlp⟩:=nx_inl hm hnx9
    exact d_round (n12299,w64 (i12134 + 1)) hlp hn12299 ⟨rfl,rfl,trivial⟩ (fun W h=>h.phi (fun W hφ=>hφ))
   replace hm:=ite_f hm (of_decide_eq_false h12218)
   refine c_exit<|d_exit_then<|d_exit_then<|d_exit_block<|d_normal_block ?_
   replace hm:=nx_out (C:=(fun e : Unit ⊕ Int=>Sum.elim (fun e=>m_ref20_Check_j7) (fun x=>some x) e = some r)) hm hnx9 hr9
   exact d_round () hm Nat.zero_lt_one trivial (fun W h=>(h.dropH (t:=100010) rfl).phi (fun W hφ=>hφ))
  replace hm:=ite_f hm (of_decide_eq_false h12044)
  refine c_seq<|c_region<|g_v rfl (r_eql rfl rfl)<|g_v rfl r_assign<|g_nil<|d_then ?_
  refine c_cond rfl (fun h12307=>?_) (fun h12307=>?_)
  ·
   replace hm:=ite_t hm (of_decide_eq_true h12307)
   refine c_seq<|c_region<|g_v rfl (r_field (n:=8) Try.underlying31 rfl Try.sizeOf29 rfl rfl)<|g_v rfl (r_loadA (tag:=100010) rfl rfl Try.isAgg29 Try.sizeOf29 rfl rfl) ?_
   replace hm:=bnd hm
   obtain ⟨x12308,hx12309,hm⟩:=hm
   refine g_cn ⟨w0,M,_,_,φ⟩ (fun _ h=>h) Try.call49 rfl rfl (c_ref12_Check p0.fNote Ap0_1 cp0_1 hcp0_1 (fun W hS=>fp0_1 W (ok_pre (H1:=[_]) (R1:=[]) hS (fun W h=>h))) Ap0_2 cp0_2 hcp0_2 (fun W hS=>fp0_2 W (ok_pre (H1:=[_]) (R1:=[]) hS (fun W h=>h))) _ hx12309) (fun _ _=>?_)
   refine g_v rfl (r_neq rfl rfl)<|g_nil<|d_then ?_
   refine c_cond rfl (fun h12310=>?_) (fun h12310=>?_)
   ·
    replace hm:=ite_t hm (of_decide_eq_true h12310)
    refine c_seq<|c_region<|g_v rfl r_assign<|g_nil<|d_then ?_
    refine c_flat [(2,.int .i64 1)] ⟨rfl,trivial⟩ (fun u=>?_)
    refine c_ret<|d_ret_block<|d_ret_then<|d_ret_then ?_
    cases hm
    exact d_retC () Try.results21 (res_tmp (res_nil rfl)) trivial (fun W h=>ok_pre (H1:=[_]) (R1:=[]) h (fun W hφ=>hφ)) (.inr rfl)
   replace hm:=ite_f hm (of_decide_eq_false h12310)
   refine c_skip<|d_normal_block ?_
   exact d_round () hm Nat.zero_lt_one trivial (fun W h=>(h.dropH (t:=100010) rfl).phi (fun W hφ=>hφ))
  replace hm:=ite_f hm (of_decide_eq_false h12307)
  refine c_seq<|c_region<|g_v rfl (r_eql rfl rfl)<|g_v rfl r_assign<|g_nil<|d_then ?_
  refine c_cond rfl (fun h12311=>?_) (fun h12311=>?_)
  ·
   replace hm:=ite_t hm (of_decide_eq_true h12311)
   refine c_seq<|c_region<|g_v rfl (r_field (n:=19) Try.underlying31 rfl Try.sizeOf9 rfl rfl)<|g_v rfl (r_load (tag:=100010) rfl rfl rfl Try.isAgg9)<|g_v rfl (r_len Try.underlying9 rfl)<|g_v rfl (r_gtr rfl rfl)<|g_nil<|d_then ?_
   refine c_flat [(153,.bool (decide (8000 < (p0.fText.size : Int))))] ⟨rfl,trivial⟩ (fun u=>?_)
   refine c_cond rfl (fun h12312=>?_) (fun h12312=>?_)
   ·
    replace hm:=ite_t hm (of_decide_eq_true h12312)
    refine c_seq<|c_region<|g_v rfl r_assign<|g_nil<|d_then<|c_ret<|d_ret_block<|d_ret_then<|d_ret_then ?_
    cases hm
    exact d_retC () Try.results21 (res_tmp (res_nil rfl)) trivial (fun W h=>ok_pre (H1:=[_]) (R1:=[]) h (fun W hφ=>hφ)) (.inr rfl)
   replace hm:=ite_f hm (of_decide_eq_false h12312)
   refine c_skip<|d_normal_block ?_
   exact d_round () hm Nat.zero_lt_one trivial (fun W h=>(h.dropH (t:=100010) rfl).phi (fun W hφ=>hφ))
  replace hm:=ite_f hm (of_decide_eq_false h12311)
  refine c_skip<|d_normal_block ?_
  exact d_round () hm Nat.zero_lt_one trivial (fun W h=>(h.dropH (t:=100010) rfl).phi (fun W hφ=>hφ))
 unfold m_ref20_Check_j7 at hm
 refine d_flat [] trivial (fun u=>?_)
 refine d_sta ⟨w0,M,H,R,φ⟩ (fun _ h=>h)<|d_then<|c_seq<|c_region<|g_v rfl r_assign<|g_nil<|d_then<|c_ret ?_
 cases hm
 exact d_retC () Try.results21 (res_tmp (res_nil rfl)) trivial (fun W h=>ok_pre (H1:=[]) (R1:=[]) h (fun W hφ=>hφ)) (.inr rfl)
noncomputable def m_ref20_clock (p0 : Int) : Option Int:=
  if p0 < 0 then
    some 0
  else
    if 1125899906842624 < p0 then
      some 1125899906842624
    else
      some p0
theorem c_ref20_clock {w0 : World} {M : Nat→Prop} {H : List (Nat×Nat×Obj)} {R : List (Nat×Row)} {φ : World→Prop} (p0 : Int) (r : Int) (hm : m_ref20_clock p0 = some r) :
    Cn Try.prog 22 #[.int .i64 p0] ⟨w0,M,H,R,φ⟩ (fun x : Unit=>.int .i64 r) (fun x=>True) (fun x=>⟨w0,M,H,R,φ⟩):=by
 unfold m_ref20_clock at hm
 refine cn_intro (fn:=Try.f22) (N:=8) Try.func22 rfl Try.ntmps22 rfl<|c_seq<|c_region<|g_v rfl r_assign<|g_nil<|d_then<|c_seq<|c_seq<|c_region<|g_v rfl r_move ?_
 refine g_v rfl (r_lss rfl rfl)<|g_nil<|d_then ?_
 refine c_cond rfl (fun h1=>?_) (fun h1=>?_)
 ·
  replace hm:=ite_t hm (of_decide_eq_true h1)
  refine c_seq<|c_region<|g_v rfl r_assign<|g_nil<|d_then<|c_ret<|d_ret_then ?_
  cases hm
  exact d_retC () Try.results22 (res_tmp (res_nil rfl)) trivial (fun W h=>ok_pre (H1:=[]) (R1:=[]) h (fun W hφ=>hφ)) (.inr rfl)
 replace hm:=ite_f hm (of_decide_eq_false h1)
 refine c_skip<|d_then<|c_seq<|c_seq<|c_region<|g_v rfl r_move<|g_v rfl (r_gtr rfl rfl)<|g_nil<|d_then ?_
 refine c_cond rfl (fun h2=>?_) (fun h2=>?_)
 ·
  replace hm:=ite_t hm (of_decide_eq_true h2)
  refine c_seq<|c_region<|g_v rfl r_assign<|g_nil<|d_then<|c_ret<|d_ret_then ?_
  cases hm
  exact d_retC () Try.results22 (res_tmp (res_nil rfl)) trivial (fun W h=>ok_pre (H1:=[]) (R1:=[]) h (fun W hφ=>hφ)) (.inr rfl)
 replace hm:=ite_f hm (of_decide_eq_false h2)
 refine c_skip<|d_then<|c_seq<|c_region<|g_v rfl r_move<|g_v rfl r_assign<|g_nil<|d_then<|c_ret ?_
 cases hm
 exact d_retC () Try.results22 (res_tmp (res_nil rfl)) trivial (fun W h=>ok_pre (H1:=[]) (R1:=[]) h (fun W hφ=>hφ)) (.inr rfl)
end Go.Proofs.Ytbaobjcaeaofaaa
