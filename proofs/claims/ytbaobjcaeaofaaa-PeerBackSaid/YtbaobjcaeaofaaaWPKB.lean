import Derived.Test.YtbaobjcaeaofaaaWPKA
set_option maxRecDepth 100000
set_option maxHeartbeats 4000000
set_option linter.unusedVariables false
set_option linter.unusedSimpArgs false
namespace Go.Proofs.Ytbaobjcaeaofaaa
open Go.RowKit Go.Proofs.YtbaobjcaeaofaaaW.PrintLast
noncomputable def m_peer_may_j3 (p0 : GLetter) : Option Bool:=
  if p0.fKind ≠ 5 then
    if p0.fText = (⟨#[]⟩ : ByteArray) then
      if p0.fKind = 1 then
        (m_name_Check p0.fQuestion.fName).bind fun x1010=>
        some (decide (x1010 = 0))
      else
        if p0.fKind = 2 then
          (m_slices_ContainsFunc_74 p0.fEntries).bind fun x1013=>
          if x1013 = true then
            some false
          else
            if (p0.fEntries.length : Int) ≤ 40 then
              if p0.fGood = true then
                some true
              else
                some (decide ((p0.fEntries.length : Int) = 0))
            else
              some false
        else
          if p0.fKind = 3 then
            (m_raft_Check p0.fNote).bind fun x1029=>
            some (decide (x1029 = 0))
          else
            if p0.fKind = 5 then
              some (decide ((p0.fText.size : Int) ≤ 8000))
            else
              some (decide (p0.fKind = 4))
    else
      some false
  else
    if p0.fKind = 1 then
      (m_name_Check p0.fQuestion.fName).bind fun x1033=>
      some (decide (x1033 = 0))
    else
      if p0.fKind = 2 then
        (m_slices_ContainsFunc_74 p0.fEntries).bind fun x1036=>
        if x1036 = true then
          some false
        else
          if (p0.fEntries.length : Int) ≤ 40 then
            if p0.fGood = true then
              some true
            else
              some (decide ((p0.fEntries.length : Int) = 0))
          else
            some false
      else
        if p0.fKind = 3 then
          (m_raft_Check p0.fNote).bind fun x1052=>
          some (decide (x1052 = 0))
        else
          if p0.fKind = 5 then
            some (decide ((p0.fText.size : Int) ≤ 8000))
          else
            some (decide (p0.fKind = 4))
noncomputable def m_peer_may_j2 (p0 : GLetter) : Option Bool:=
  if p0.fKind ≠ 3 then
    (m_peer_nothing p0.fNote).bind fun x1056=>
    if x1056 = true then
      m_peer_may_j3 p0
    else
      some false
  else
    m_peer_may_j3 p0
noncomputable def m_peer_may_j1 (p0 : GLetter) : Option Bool:=
  if p0.fKind ≠ 2 then
    if p0.fGood = true then
      some false
    else
      if 0 < (p0.fEntries.length : Int) then
        some false
      else
        m_peer_may_j2 p0
  else
    m_peer_may_j2 p0
noncomputable def m_peer_may (p0 : GLetter) : Option Bool:=
  if p0.fKind ≠ 1 then
    if p0.fQuestion = (⟨(⟨#[]⟩ : ByteArray),0,0⟩ : GQuestion) then
      m_peer_may_j1 p0
    else
      some false
  else
    m_peer_may_j1 p0
theorem c_peer_may {w0 : World} {M : Nat→Prop} {H : List (Nat×Nat×Obj)} {R : List (Nat×Row)} {φ : World→Prop} (p0 : GLetter) (Ap0_0 : Option Addr) (cp0_0 : Nat) (psp0_0 : List GCachedP) (hcp0_0 : (DOk GCached.capP p0.fEntries psp0_0∧p0.fEntries.length ≤ cp0_0)) (fp0_0 : ∀ W,φ W→Cl W Ap0_0 ((p0.fEntries.zip psp0_0).flatMap GCached.encP)) (fop0_0 : ∀ W,φ W→DOwn GCached.ownP p0.fEntries psp0_0 W) (Ap0_1 : Option Addr) (cp0_1 : Nat) (hcp0_1 : p0.fNote.fEntries.length ≤ cp0_1) (fp0_1 : ∀ W,(Sta.mk w0 M H R φ).ok W→Cl W Ap0_1 (p0.fNote.fEntries.flatMap GEntry.enc)) (Ap0_2 : Option Addr) (cp0_2 : Nat) (hcp0_2 : p0.fNote.fVoters.length ≤ cp0_2) (fp0_2 : ∀ W,(Sta.mk w0 M H R φ).ok W→Cl W Ap0_2 (p0.fNote.fVoters.flatMap (fun x : Int=>[Value.int .i64 x]))) (r : Bool) (hm : m_peer_may p0 = some r) :
    Cn Try.prog 45 #[.agg #[Vi p0.fKind,Vi p0.fSerial,Vi p0.fEpoch,Vs p0.fQuestion.fName,Vu p0.fQuestion.fType,Vu p0.fQuestion.fClass,.bool p0.fGood,.slice Ap0_0 p0.fEntries.length cp0_0,Vi p0.fNote.fKind,Vi p0.fNote.fFrom,Vi p0.fNote.fTo,Vi p0.fNote.fTerm,Vi p0.fNote.fIndex,Vi p0.fNote.fLogTerm,Vi p0.fNote.fCommit,.bool p0.fNote.fGood,.slice Ap0_1 p0.fNote.fEntries.length cp0_1,.slice Ap0_2 p0.fNote.fVoters.length cp0_2,Vs p0.fNote.fSnap,Vs p0.fText]] ⟨w0,M,H,R,φ⟩ (fun x : Unit=>.bool r) (fun x=>True) (fun x=>⟨w0,M,H,R,φ⟩):=by
 unfold m_peer_may at hm
 refine cn_intro (fn:=Try.f45) (N:=96) Try.func45 rfl Try.ntmps45 rfl<|c_seq<|c_region ?_
 refine g_e rfl (e_box 100010 rfl) (fun g1 _=>?_)
 refine g_v rfl r_assign<|g_nil<|d_then<|c_seq<|c_seq<|c_region ?_
 refine g_join 10 (ι:=Unit) [1,13] (fun _=>[(13,.bool false)]) (fun _=>⟨w0,M,(100010,g1,.cells #[Vi p0.fKind,Vi p0.fSerial,Vi p0.fEpoch,Vs p0.fQuestion.fName,Vu p0.fQuestion.fType,Vu p0.fQuestion.fClass,.bool p0.fGood,.slice Ap0_0 p0.fEntries.length cp0_0,Vi p0.fNote.fKind,Vi p0.fNote.fFrom,Vi p0.fNote.fTo,Vi p0.fNote.fTerm,Vi p0.fNote.fIndex,Vi p0.fNote.fLogTerm,Vi p0.fNote.fCommit,.bool p0.fNote.fGood,.slice Ap0_1 p0.fNote.fEntries.length cp0_1,.slice Ap0_2 p0.fNote.fVoters.length cp0_2,Vs p0.fNote.fSnap,Vs p0.fText] 31 (0,0))::H,R,φ⟩) (fun _=>m_peer_may_j1 p0 = some r) (fun hj1=>?_) (fun _ u hm=>?_)
 ·
  refine g_v rfl (r_field (n:=0) Try.underlying31 rfl Try.sizeOf3 rfl rfl)<|g_v rfl (r_load (tag:=100010) rfl rfl rfl Try.isAgg3)<|g_v rfl (r_neq rfl rfl)<|g_v rfl r_move<|g_sta ⟨w0,M,(100010,g1,.cells #[Vi p0.fKind,Vi p0.fSerial,Vi p0.fEpoch,Vs p0.fQuestion.fName,Vu p0.fQuestion.fType,Vu p0.fQuestion.fClass,.bool p0.fGood,.slice Ap0_0 p0.fEntries.length cp0_0,Vi p0.fNote.fKind,Vi p0.fNote.fFrom,Vi p0.fNote.fTo,Vi p0.fNote.fTerm,Vi p0.fNote.fIndex,Vi p0.fNote.fLogTerm,Vi p0.fNote.fCommit,.bool p0.fNote.fGood,.slice Ap0_1 p0.fNote.fEntries.length cp0_1,.slice Ap0_2 p0.fNote.fVoters.length cp0_2,Vs p0.fNote.fSnap,Vs p0.fText] 31 (0,0))::H,R,φ⟩ (fun _ h=>h) ?_
  refine g_if rfl rfl rfl rfl rfl (fun h1062=>?_) (fun h1062=>?_)
  ·
   replace hm:=ite_t hm (of_decide_eq_true h1062)
   refine g_v rfl (r_field (n:=3) Try.underlying31 rfl Try.sizeOf24 rfl rfl)<|g_do rfl rfl rfl rfl rfl h1062<|g_v rfl (r_loadA (tag:=100010) rfl rfl Try.isAgg24 Try.sizeOf24 rfl rfl)<|g_do rfl rfl rfl rfl rfl h1062<|g_v rfl (r_build _ rfl (bld24_1))<|g_do rfl rfl rfl rfl rfl h1062<|g_v rfl (r_neqA rfl rfl eqg24 (eqq24 p0.fQuestion (⟨eB,0,0⟩ : GQuestion)))<|g_v rfl (r_pick1 rfl h1062)<|g_v rfl r_move ?_
   refine g_case (t:=13) rfl (fun h1063=>?_) (fun h1063=>?_)
   ·
    have h1063' : (decide (p0.fQuestion = (⟨eB,0,0⟩ : GQuestion))) = false:=by revert h1063; cases (decide (p0.fQuestion = (⟨eB,0,0⟩ : GQuestion))) <;> simp
    replace hm:=ite_f hm (of_decide_eq_false h1063')
    iterate 4 refine g_no rfl rfl rfl rfl rfl h1063 ?_
    iterate 8 refine g_nu rfl rfl rfl rfl rfl ?_
    refine g_no rfl rfl rfl rfl rfl h1063<|g_v rfl (r_pick1 rfl h1063)<|g_v rfl r_move ?_
    iterate 4 refine g_no rfl rfl rfl rfl rfl rfl ?_
    iterate 4 refine g_nu rfl rfl rfl rfl rfl ?_
    refine g_no rfl rfl rfl rfl rfl rfl<|g_v rfl (r_pick1 rfl rfl)<|g_v rfl r_move ?_
    iterate 4 refine g_no rfl rfl rfl rfl rfl rfl ?_
    iterate 3 refine g_nu rfl rfl rfl rfl rfl ?_
    refine g_no rfl rfl rfl rfl rfl rfl<|g_v rfl (r_pick1 rfl rfl)<|g_nil<|d_then ?_
    refine c_flat [(1,Vp g1),(48,.bool true)] ⟨rfl,rfl,trivial⟩ (fun u=>?_)
    refine c_cond1 rfl rfl<|c_seq<|c_region<|g_v rfl r_assign<|g_nil<|d_then<|c_ret<|d_ret_then ?_
    cases hm
    exact d_retC () Try.results45 (res_tmp (res_nil rfl)) trivial (fun W h=>ok_pre (H1:=[_]) (R1:=[]) h (fun W hφ=>hφ)) (.inr rfl)
   have h1063' : (decide (p0.fQuestion = (⟨eB,0,0⟩ : GQuestion))) = true:=by revert h1063; cases (decide (p0.fQuestion = (⟨eB,0,0⟩ : GQuestion))) <;> simp
   replace hm:=ite_t hm (of_decide_eq_true h1063')
   exact hj1 () hm ⟨rfl,(congrArg Value.bool h1063),trivial⟩ (fun W h=>h.phi (fun W hφ=>hφ))
  replace hm:=ite_f hm (of_decide_eq_false h1062)
  iterate 3 refine g_no rfl rfl rfl rfl rfl h1062 ?_
  refine g_v rfl (r_pick0 rfl h1062)<|g_v rfl r_move ?_
  exact hj1 () hm ⟨rfl,rfl,trivial⟩ (fun W h=>h.phi (fun W hφ=>hφ))
 unfold m_peer_may_j1 at hm
 refine g_flat [(1,Vp g1),(13,.bool false)] ⟨rfl,rfl,trivial⟩ (fun u=>?_)
 refine g_sta ⟨w0,M,(100010,g1,.cells #[Vi p0.fKind,Vi p0.fSerial,Vi p0.fEpoch,Vs p0.fQuestion.fName,Vu p0.fQuestion.fType,Vu p0.fQuestion.fClass,.bool p0.fGood,.slice Ap0_0 p0.fEntries.length cp0_0,Vi p0.fNote.fKind,Vi p0.fNote.fFrom,Vi p0.fNote.fTo,Vi p0.fNote.fTerm,Vi p0.fNote.fIndex,Vi p0.fNote.fLogTerm,Vi p0.fNote.fCommit,.bool p0.fNote.fGood,.slice Ap0_1 p0.fNote.fEntries.length cp0_1,.slice Ap0_2 p0.fNote.fVoters.length cp0_2,Vs p0.fNote.fSnap,Vs p0.fText] 31 (0,0))::H,R,φ⟩ (fun _ h=>h) ?_
 refine g_join 15 (ι:=Unit) [1,28] (fun _=>[(28,.bool false)]) (fun _=>⟨w0,M,(100010,g1,.cells #[Vi p0.fKind,Vi p0.fSerial,Vi p0.fEpoch,Vs p0.fQuestion.fName,Vu p0.fQuestion.fType,Vu p0.fQuestion.fClass,.bool p0.fGood,.slice Ap0_0 p0.fEntries.length cp0_0,Vi p0.fNote.fKind,Vi p0.fNote.fFrom,Vi p0.fNote.fTo,Vi p0.fNote.fTerm,Vi p0.fNote.fIndex,Vi p0.fNote.fLogTerm,Vi p0.fNote.fCommit,.bool p0.fNote.fGood,.slice Ap0_1 p0.fNote.fEntries.length cp0_1,.slice Ap0_2 p0.fNote.fVoters.length cp0_2,Vs p0.fNote.fSnap,Vs p0.fText] 31 (0,0))::H,R,φ⟩) (fun _=>m_peer_may_j2 p0 = some r) (fun hj2=>?_) (fun _ u hm=>?_)
 ·
  refine g_do rfl rfl rfl rfl rfl rfl<|g_v rfl (r_field (n:=0) Try.underlying31 rfl Try.sizeOf3 rfl rfl)<|g_do rfl rfl rfl rfl rfl rfl<|g_v rfl (r_load (tag:=100010) rfl rfl rfl Try.isAgg3)<|g_do rfl rfl rfl rfl rfl rfl<|g_v rfl (r_neq rfl rfl)<|g_do rfl rfl rfl rfl rfl rfl<|g_v rfl r_move ?_
  refine g_if rfl rfl rfl rfl rfl (fun h1059=>?_) (fun h1059=>?_)
  ·
   replace hm:=ite_t hm (of_decide_eq_true h1059)
   refine g_v rfl (r_field (n:=6) Try.underlying31 rfl Try.sizeOf4 rfl rfl)<|g_do rfl rfl rfl rfl rfl h1059<|g_v rfl (r_load (tag:=100010) rfl rfl rfl Try.isAgg4)<|g_do rfl rfl rfl rfl rfl h1059<|g_v rfl r_move ?_
   refine g_if rfl rfl rfl rfl rfl (fun h1060=>?_) (fun h1060=>?_)
   ·
    replace hm:=ite_f hm (bool_nt h1060)
    refine g_v rfl (r_field (n:=7) Try.underlying31 rfl Try.sizeOf25 rfl rfl)<|g_do rfl rfl rfl rfl rfl h1060<|g_v rfl (r_load (tag:=100010) rfl rfl rfl Try.isAgg25)<|g_do rfl rfl rfl rfl rfl h1060<|g_v rfl (r_lenL Try.underlying25 rfl)<|g_do rfl rfl rfl rfl rfl h1060<|g_v rfl (r_gtr rfl rfl)<|g_do rfl rfl rfl rfl rfl h1059<|g_v rfl (r_pick0 rfl h1060)<|g_do rfl rfl rfl rfl rfl rfl ?_
    refine g_v rfl (r_pick1 rfl h1059)<|g_v rfl (r_pick0 rfl rfl)<|g_v rfl r_move ?_
    refine g_case (t:=28) rfl (fun h1061=>?_) (fun h1061=>?_)
    ·
     replace hm:=ite_t hm (of_decide_eq_true h1061)
     iterate 4 refine g_no rfl rfl rfl rfl rfl h1061 ?_
     iterate 4 refine g_nu rfl rfl rfl rfl rfl ?_
     refine g_no rfl rfl rfl rfl rfl h1061<|g_v rfl (r_pick1 rfl h1061)<|g_v rfl r_move ?_
     iterate 4 refine g_no rfl rfl rfl rfl rfl rfl ?_
     iterate 3 refine g_nu rfl rfl rfl rfl rfl ?_
     refine g_no rfl rfl rfl rfl rfl rfl<|g_v rfl (r_pick1 rfl rfl)<|g_nil<|d_then ?_
     refine c_flat [(1,Vp g1),(48,.bool true)] ⟨rfl,rfl,trivial⟩ (fun u=>?_)
     refine c_cond1 rfl rfl<|c_seq<|c_region<|g_v rfl r_assign<|g_nil<|d_then<|c_ret<|d_ret_then ?_
     cases hm
     exact d_retC () Try.results45 (res_tmp (res_nil rfl)) trivial (fun W h=>ok_pre (H1:=[_]) (R1:=[]) h (fun W hφ=>hφ)) (.inr rfl)
    replace hm:=ite_f hm (of_decide_eq_false h1061)
    exact hj2 () hm ⟨rfl,(congrArg Value.bool h1061),trivial⟩ (fun W h=>h.phi (fun W hφ=>hφ))
   replace hm:=ite_t hm h1060
   iterate 3 refine g_no rfl rfl rfl rfl rfl h1060 ?_
   refine g_do rfl rfl rfl rfl rfl h1059<|g_v rfl (r_pick1 rfl h1060)<|g_do rfl rfl rfl rfl rfl rfl<|g_v rfl (r_pick1 rfl h1059)<|g_v rfl (r_pick0 rfl rfl)<|g_v rfl r_move ?_
   iterate 4 refine g_no rfl rfl rfl rfl rfl rfl ?_
   iterate 4 refine g_nu rfl rfl rfl rfl rfl ?_
   refine g_no rfl rfl rfl rfl rfl rfl<|g_v rfl (r_pick1 rfl rfl)<|g_v rfl r_move ?_
   iterate 4 refine g_no rfl rfl rfl rfl rfl rfl ?_
   iterate 3 refine g_nu rfl rfl rfl rfl rfl ?_
   refine g_no rfl rfl rfl rfl rfl rfl<|g_v rfl (r_pick1 rfl rfl)<|g_nil<|d_then ?_
   refine c_flat [(1,Vp g1),(48,.bool true)] ⟨rfl,rfl,trivial⟩ (fun u=>?_)
   refine c_cond1 rfl rfl<|c_seq<|c_region<|g_v rfl r_assign<|g_nil<|d_then<|c_ret<|d_ret_then ?_
   cases hm
   exact d_retC () Try.results45 (res_tmp (res_nil rfl)) trivial (fun W h=>ok_pre (H1:=[_]) (R1:=[]) h (fun W hφ=>hφ)) (.inr rfl)
  replace hm:=ite_f hm (of_decide_eq_false h1059)
  refine g_no rfl rfl rfl rfl rfl h1059<|g_no rfl rfl rfl rfl rfl h1059 ?_
  iterate 4 refine g_nu rfl rfl rfl rfl rfl ?_
  refine g_no rfl rfl rfl rfl rfl h1059<|g_do rfl rfl rfl rfl rfl rfl<|g_v rfl (r_pick0 rfl h1059)<|g_v rfl (r_pick0 rfl rfl)<|g_v rfl r_move ?_
  exact hj2 () hm ⟨rfl,rfl,trivial⟩ (fun W h=>h.phi (fun W hφ=>hφ))
 unfold m_peer_may_j2 at hm
 refine g_flat [(1,Vp g1),(28,.bool false)] ⟨rfl,rfl,trivial⟩ (fun u=>?_)
 refine g_join 11 (ι:=Unit) [1,39] (fun _=>[(39,.bool false)]) (fun _=>⟨w0,M,(100010,g1,.cells #[Vi p0.fKind,Vi p0.fSerial,Vi p0.fEpoch,Vs p0.fQuestion.fName,Vu p0.fQuestion.fType,Vu p0.fQuestion.fClass,.bool p0.fGood,.slice Ap0_0 p0.fEntries.length cp0_0,Vi p0.fNote.fKind,Vi p0.fNote.fFrom,Vi p0.fNote.fTo,Vi p0.fNote.fTerm,Vi p0.fNote.fIndex,Vi p0.fNote.fLogTerm,Vi p0.fNote.fCommit,.bool p0.fNote.fGood,.slice Ap0_1 p0.fNote.fEntries.length cp0_1,.slice Ap0_2 p0.fNote.fVoters.length cp0_2,Vs p0.fNote.fSnap,Vs p0.fText] 31 (0,0))::H,R,φ⟩) (fun _=>m_peer_may_j3 p0 = some r) (fun hj3=>?_) (fun _ u hm=>?_)
 ·
  refine g_do rfl rfl rfl rfl rfl rfl<|g_v rfl (r_field (n:=0) Try.underlying31 rfl Try.sizeOf3 rfl rfl)<|g_do rfl rfl rfl rfl rfl rfl<|g_v rfl (r_load (tag:=100010) rfl rfl rfl Try.isAgg3)<|g_do rfl rfl rfl rfl rfl rfl<|g_v rfl (r_neq rfl rfl)<|g_do rfl rfl rfl rfl rfl rfl<|g_v rfl r_move ?_
  refine g_if rfl rfl rfl rfl rfl (fun h1055=>?_) (fun h1055=>?_)
  ·
   replace hm:=ite_t hm (of_decide_eq_true h1055)
   refine g_v rfl (r_field (n:=8) Try.underlying31 rfl Try.sizeOf29 rfl rfl)<|g_do rfl rfl rfl rfl rfl h1055<|g_v rfl (r_loadA (tag:=100010) rfl rfl Try.isAgg29 Try.sizeOf29 rfl rfl)<|g_do rfl rfl rfl rfl rfl h1055 ?_
   replace hm:=bnd hm
   obtain ⟨x1056,hx1057,hm⟩:=hm
   refine g_cn ⟨w0,M,_,_,φ⟩ (fun _ h=>h) Try.call73 rfl rfl (c_peer_nothing p0.fNote Ap0_1 cp0_1 hcp0_1 (fun W hS=>fp0_1 W (ok_pre (H1:=[_]) (R1:=[]) hS (fun W h=>h))) Ap0_2 cp0_2 hcp0_2 (fun W hS=>fp0_2 W (ok_pre (H1:=[_]) (R1:=[]) hS (fun W h=>h))) _ hx1057) (fun _ _=>?_)
   refine g_do rfl rfl rfl rfl rfl h1055<|g_v rfl (r_not rfl)<|g_do rfl rfl rfl rfl rfl rfl<|g_v rfl (r_pick1 rfl h1055)<|g_v rfl (r_pick0 rfl rfl)<|g_v rfl r_move ?_
   refine g_case (t:=39) rfl (fun h1058=>?_) (fun h1058=>?_)
   ·
    have h1058' : x1056 = false:=by revert h1058; cases x1056 <;> simp
    replace hm:=ite_f hm (bool_nt h1058')
    iterate 4 refine g_no rfl rfl rfl rfl rfl h1058 ?_
    iterate 3 refine g_nu rfl rfl rfl rfl rfl ?_
    refine g_no rfl rfl rfl rfl rfl h1058<|g_v rfl (r_pick1 rfl h1058)<|g_nil<|d_then ?_
    refine c_flat [(1,Vp g1),(48,.bool true)] ⟨rfl,rfl,trivial⟩ (fun u=>?_)
    refine c_cond1 rfl rfl<|c_seq<|c_region<|g_v rfl r_assign<|g_nil<|d_then<|c_ret<|d_ret_then ?_
    cases hm
    exact d_retC () Try.results45 (res_tmp (res_nil rfl)) trivial (fun W h=>ok_pre (H1:=[_]) (R1:=[]) h (fun W hφ=>hφ)) (.inr rfl)
   have h1058' : x1056 = true:=by revert h1058; cases x1056 <;> simp
   replace hm:=ite_t hm h1058'
   exact hj3 () hm ⟨rfl,(congrArg Value.bool h1058),trivial⟩ (fun W h=>h.phi (fun W hφ=>hφ))
  replace hm:=ite_f hm (of_decide_eq_false h1055)
  iterate 3 refine g_no rfl rfl rfl rfl rfl h1055 ?_
  refine g_do rfl rfl rfl rfl rfl rfl<|g_v rfl (r_pick0 rfl h1055)<|g_v rfl (r_pick0 rfl rfl)<|g_v rfl r_move ?_
  exact hj3 () hm ⟨rfl,rfl,trivial⟩ (fun W h=>h.phi (fun W hφ=>hφ))
 unfold m_peer_may_j3 at hm
 refine g_flat [(1,Vp g1),(39,.bool false)] ⟨rfl,rfl,trivial⟩ (fun u=>?_)
 refine g_do rfl rfl rfl rfl rfl rfl<|g_v rfl (r_field (n:=0) Try.underlying31 rfl Try.sizeOf3 rfl rfl)<|g_do rfl rfl rfl rfl rfl rfl<|g_v rfl (r_load (tag:=100010) rfl rfl rfl Try.isAgg3)<|g_do rfl rfl rfl rfl rfl rfl<|g_v rfl (r_neq rfl rfl)<|g_do rfl rfl rfl rfl rfl rfl<|g_v rfl r_move ?_
 refine g_case (t:=43) rfl (fun h1007=>?_) (fun h1007=>?_)
 ·
  replace hm:=ite_t hm (of_decide_eq_true h1007)
  refine g_do rfl rfl rfl rfl rfl h1007<|g_v rfl (r_field (n:=19) Try.underlying31 rfl Try.sizeOf9 rfl rfl)<|g_do rfl rfl rfl rfl rfl h1007<|g_v rfl (r_load (tag:=100010) rfl rfl rfl Try.isAgg9)<|g_do rfl rfl rfl rfl rfl h1007<|g_v rfl (r_neqT rfl rfl)<|g_do rfl rfl rfl rfl rfl rfl<|g_v rfl (r_pick1 rfl h1007)<|g_v rfl (r_pick0 rfl rfl)<|g_nil ?_
  refine d_then ?_
  refine c_flat [(1,Vp g1),(48,.bool (!(decide (p0.fText = eB))))] ⟨rfl,rfl,trivial⟩ (fun u=>?_)
  refine c_cond rfl (fun h1008=>?_) (fun h1008=>?_)
  ·
   have h1008' : (decide (p0.fText = eB)) = false:=by revert h1008; cases (decide (p0.fText = eB)) <;> simp
   replace hm:=ite_f hm (of_decide_eq_false h1008')
   refine c_seq<|c_region<|g_v rfl r_assign<|g_nil<|d_then<|c_ret<|d_ret_then ?_
   cases hm
   exact d_retC () Try.results45 (res_tmp (res_nil rfl)) trivial (fun W h=>ok_pre (H1:=[_]) (R1:=[]) h (fun W hφ=>hφ)) (.inr rfl)
  have h1008' : (decide (p0.fText = eB)) = true:=by revert h1008; cases (decide (p0.fText = eB)) <;> simp
  replace hm:=ite_t hm (of_decide_eq_true h1008')
  refine c_skip<|d_then<|c_seq<|c_seq<|c_region<|g_v rfl (r_field (n:=0) Try.underlying31 rfl Try.sizeOf3 rfl rfl)<|g_v rfl (r_load (tag:=100010) rfl rfl rfl Try.isAgg3)<|g_nil<|d_then<|c_block ?_
  refine c_seq<|c_region<|g_v rfl (r_eql rfl rfl)<|g_v rfl r_assign<|g_nil<|d_then ?_
  refine c_cond rfl (fun h1009=>?_) (fun h1009=>?_)
  ·
   replace hm:=ite_t hm (of_decide_eq_true h1009)
   refine c_seq<|c_region<|g_v rfl (r_field (n:=3) Try.underlying31 rfl Try.sizeOf24 rfl rfl)<|g_v rfl (r_field (n:=3) Try.underlying24 rfl Try.sizeOf9 rfl rfl)<|g_v rfl (r_load (tag:=100010) rfl rfl rfl Try.isAgg9) ?_
   replace hm:=bnd hm
   obtain ⟨x1010,hx1011,hm⟩:=hm
   refine g_cn ⟨w0,M,_,_,φ⟩ (fun _ h=>h) Try.call52 rfl rfl (c_name_Check p0.fQuestion.fName _ hx1011) (fun _ _=>?_)
   refine g_v rfl (r_eql rfl rfl)<|g_v rfl r_assign<|g_nil<|d_then ?_
   refine c_flat [(2,.bool (decide (x1010 = 0)))] ⟨rfl,trivial⟩ (fun u=>?_)
   refine c_ret<|d_ret_block<|d_ret_then ?_
   cases hm
   exact d_retC () Try.results45 (res_tmp (res_nil rfl)) trivial (fun W h=>ok_pre (H1:=[_]) (R1:=[]) h (fun W hφ=>hφ)) (.inr rfl)
  replace hm:=ite_f hm (of_decide_eq_false h1009)
  refine c_seq<|c_region<|g_v rfl (r_eql rfl rfl)<|g_v rfl r_assign<|g_nil<|d_then ?_
  refine c_cond rfl (fun h1012=>?_) (fun h1012=>?_)
  ·
   replace hm:=ite_t hm (of_decide_eq_true h1012)
   refine c_seq<|c_region<|g_v rfl (r_field (n:=7) Try.underlying31 rfl Try.sizeOf25 rfl rfl)<|g_v rfl (r_load (tag:=100010) rfl rfl rfl Try.isAgg25) ?_
   replace hm:=bnd hm
   obtain ⟨x1013,hx1014,hm⟩:=hm
   refine g_cn ⟨w0,M,_,_,φ⟩ (fun _ h=>h) Try.call74 rfl rfl (c_slices_ContainsFunc_74 p0.fEntries Ap0_0 cp0_0 psp0_0 ⟨hcp0_0.1,hcp0_0.2⟩ (fun W h=>fp0_0 W h) (fun W h=>(fop0_0 W h)) _ hx1014) (fun _ _=>?_)
   refine g_v rfl r_assign<|g_nil<|d_then ?_
   refine c_flat [(1,Vp g1),(3,.bool x1013)] ⟨rfl,rfl,trivial⟩ (fun u=>?_)
   refine c_seq<|c_region<|g_v rfl r_move<|g_v rfl (r_not rfl)<|g_v rfl r_move ?_
   refine g_case (t:=65) rfl (fun h1021=>?_) (fun h1021=>?_)
   ·
    have h1021' : x1013 = false:=by revert h1021; cases x1013 <;> simp
    replace hm:=ite_f hm (bool_nt h1021')
    refine g_do rfl rfl rfl rfl rfl h1021<|g_v rfl (r_field (n:=7) Try.underlying31 rfl Try.sizeOf25 rfl rfl)<|g_do rfl rfl rfl rfl rfl h1021<|g_v rfl (r_load (tag:=100010) rfl rfl rfl Try.isAgg25)<|g_do rfl rfl rfl rfl rfl h1021<|g_v rfl (r_lenL Try.underlying25 rfl)<|g_do rfl rfl rfl rfl rfl h1021<|g_v rfl (r_leq rfl rfl)<|g_v rfl (r_pick1 rfl h1021)<|g_v rfl r_move ?_
    refine g_case (t:=71) rfl (fun h1025=>?_) (fun h1025=>?_)
    ·
     replace hm:=ite_t hm (of_decide_eq_true h1025)
     refine g_do rfl rfl rfl rfl rfl h1025<|g_v rfl (r_field (n:=6) Try.underlying31 rfl Try.sizeOf4 rfl rfl)<|g_do rfl rfl rfl rfl rfl h1025<|g_v rfl (r_load (tag:=100010) rfl rfl rfl Try.isAgg4)<|g_do rfl rfl rfl rfl rfl h1025<|g_v rfl r_move ?_
     refine g_case (t:=74) rfl (fun h1027=>?_) (fun h1027=>?_)
     ·
      replace hm:=ite_t hm h1027
      iterate 4 refine g_no rfl rfl rfl rfl rfl h1027 ?_
      refine g_do rfl rfl rfl rfl rfl h1025<|g_v rfl (r_pick1 rfl h1027)<|g_v rfl (r_pick1 rfl h1025)<|g_v rfl r_assign<|g_nil<|d_then ?_
      refine c_flat [(2,.bool true)] ⟨rfl,trivial⟩ (fun u=>?_)
      refine c_ret<|d_ret_block<|d_ret_then ?_
      cases hm
      exact d_retC () Try.results45 (res_tmp (res_nil rfl)) trivial (fun W h=>ok_pre (H1:=[_]) (R1:=[]) h (fun W hφ=>hφ)) (.inr rfl)
     replace hm:=ite_f hm (bool_nt h1027)
     refine g_do rfl rfl rfl rfl rfl h1027<|g_v rfl (r_field (n:=7) Try.underlying31 rfl Try.sizeOf25 rfl rfl)<|g_do rfl rfl rfl rfl rfl h1027<|g_v rfl (r_load (tag:=100010) rfl rfl rfl Try.isAgg25)<|g_do rfl rfl rfl rfl rfl h1027<|g_v rfl (r_lenL Try.underlying25 rfl)<|g_do rfl rfl rfl rfl rfl h1027<|g_v rfl (r_eql rfl rfl)<|g_do rfl rfl rfl rfl rfl h1025<|g_v rfl (r_pick0 rfl h1027) ?_
     refine g_v rfl (r_pick1 rfl h1025)<|g_v rfl r_assign<|g_nil<|d_then ?_
     refine c_flat [(2,.bool (decide ((p0.fEntries.length : Int) = 0)))] ⟨rfl,trivial⟩ (fun u=>?_)
     refine c_ret<|d_ret_block<|d_ret_then ?_
     cases hm
     exact d_retC () Try.results45 (res_tmp (res_nil rfl)) trivial (fun W h=>ok_pre (H1:=[_]) (R1:=[]) h (fun W hφ=>hφ)) (.inr rfl)
    replace hm:=ite_f hm (of_decide_eq_false h1025)
    iterate 3 refine g_no rfl rfl rfl rfl rfl h1025 ?_
    iterate 4 refine g_nu rfl rfl rfl rfl rfl ?_
    refine g_no rfl rfl rfl rfl rfl h1025<|g_v rfl (r_pick0 rfl h1025)<|g_v rfl r_assign<|g_nil<|d_then ?_
    refine c_flat [(2,.bool false)] ⟨rfl,trivial⟩ (fun u=>?_)
    refine c_ret<|d_ret_block<|d_ret_then ?_
    cases hm
    exact d_retC () Try.results45 (res_tmp (res_nil rfl)) trivial (fun W h=>ok_pre (H1:=[_]) (R1:=[]) h (fun W hφ=>hφ)) (.inr rfl)
   have h1021' : x1013 = true:=by revert h1021; cases x1013 <;> simp
   replace hm:=ite_t hm h1021'
   iterate 4 refine g_no rfl rfl rfl rfl rfl h1021 ?_
   refine g_v rfl (r_pick0 rfl h1021)<|g_v rfl r_move ?_
   iterate 3 refine g_no rfl rfl rfl rfl rfl rfl ?_
   iterate 4 refine g_nu rfl rfl rfl rfl rfl ?_
   refine g_no rfl rfl rfl rfl rfl rfl<|g_v rfl (r_pick0 rfl rfl)<|g_v rfl r_assign<|g_nil<|d_then<|c_ret<|d_ret_block<|d_ret_then ?_
   cases hm
   exact d_retC () Try.results45 (res_tmp (res_nil rfl)) trivial (fun W h=>ok_pre (H1:=[_]) (R1:=[]) h (fun W hφ=>hφ)) (.inr rfl)
  replace hm:=ite_f hm (of_decide_eq_false h1012)
  refine c_seq<|c_region<|g_v rfl (r_eql rfl rfl)<|g_v rfl r_assign<|g_nil<|d_then ?_
  refine c_cond rfl (fun h1028=>?_) (fun h1028=>?_)
  ·
   replace hm:=ite_t hm (of_decide_eq_true h1028)
   refine c_seq<|c_region<|g_v rfl (r_field (n:=8) Try.underlying31 rfl Try.sizeOf29 rfl rfl)<|g_v rfl (r_loadA (tag:=100010) rfl rfl Try.isAgg29 Try.sizeOf29 rfl rfl) ?_
   replace hm:=bnd hm
   obtain ⟨x1029,hx1030,hm⟩:=hm
   refine g_cn ⟨w0,M,_,_,φ⟩ (fun _ h=>h) Try.call77 rfl rfl (c_raft_Check p0.fNote Ap0_1 cp0_1 hcp0_1 (fun W hS=>fp0_1 W (ok_pre (H1:=[_]) (R1:=[]) hS (fun W h=>h))) Ap0_2 cp0_2 hcp0_2 (fun W hS=>fp0_2 W (ok_pre (H1:=[_]) (R1:=[]) hS (fun W h=>h))) _ hx1030) (fun _ _=>?_)
   refine g_v rfl (r_eql rfl rfl)<|g_v rfl r_assign<|g_nil<|d_then ?_
   refine c_flat [(2,.bool (decide (x1029 = 0)))] ⟨rfl,trivial⟩ (fun u=>?_)
   refine c_ret<|d_ret_block<|d_ret_then ?_
   cases hm
   exact d_retC () Try.results45 (res_tmp (res_nil rfl)) trivial (fun W h=>ok_pre (H1:=[_]) (R1:=[]) h (fun W hφ=>hφ)) (.inr rfl)
  replace hm:=ite_f hm (of_decide_eq_false h1028)
  refine c_seq<|c_region<|g_v rfl (r_eql rfl rfl)<|g_v rfl r_assign<|g_nil<|d_then ?_
  refine c_flat [(1,Vp g1),(87,.bool (decide (p0.fKind = 5)))] ⟨rfl,rfl,trivial⟩ (fun u=>?_)
  refine c_cond rfl (fun h1031=>?_) (fun h1031=>?_)
  ·
   replace hm:=ite_t hm (of_decide_eq_true h1031)
   refine c_seq<|c_region<|g_v rfl (r_field (n:=19) Try.underlying31 rfl Try.sizeOf9 rfl rfl)<|g_v rfl (r_load (tag:=100010) rfl rfl rfl Try.isAgg9)<|g_v rfl (r_len Try.underlying9 rfl)<|g_v rfl (r_leq rfl rfl)<|g_v rfl r_assign<|g_nil<|d_then<|c_ret ?_
   refine d_ret_block<|d_ret_then ?_
   cases hm
   exact d_retC () Try.results45 (res_tmp (res_nil rfl)) trivial (fun W h=>ok_pre (H1:=[_]) (R1:=[]) h (fun W hφ=>hφ)) (.inr rfl)
  replace hm:=ite_f hm (of_decide_eq_false h1031)
  refine c_skip<|d_normal_block<|d_then<|c_seq<|c_region<|g_v rfl (r_field (n:=0) Try.underlying31 rfl Try.sizeOf3 rfl rfl)<|g_v rfl (r_load (tag:=100010) rfl rfl rfl Try.isAgg3)<|g_v rfl (r_eql rfl rfl)<|g_v rfl r_assign<|g_nil ?_
  refine d_then<|c_ret ?_
  cases hm
  exact d_retC () Try.results45 (res_tmp (res_nil rfl)) trivial (fun W h=>ok_pre (H1:=[_]) (R1:=[]) h (fun W hφ=>hφ)) (.inr rfl)
 replace hm:=ite_f hm (of_decide_eq_false h1007)
 iterate 3 refine g_no rfl rfl rfl rfl rfl h1007 ?_
 refine g_do rfl rfl rfl rfl rfl rfl<|g_v rfl (r_pick0 rfl h1007)<|g_v rfl (r_pick0 rfl rfl)<|g_nil<|d_then<|c_cond0 rfl rfl<|c_skip<|d_then<|c_seq<|c_seq ?_
 refine c_region<|g_v rfl (r_field (n:=0) Try.underlying31 rfl Try.sizeOf3 rfl rfl)<|g_v rfl (r_load (tag:=100010) rfl rfl rfl Try.isAgg3)<|g_nil<|d_then<|c_block<|c_seq<|c_region<|g_v rfl (r_eql rfl rfl)<|g_v rfl r_assign ?_
 refine g_nil<|d_then ?_
 refine c_flat [(1,Vp g1),(50,Vi p0.fKind),(51,.bool (decide (p0.fKind = 1)))] ⟨rfl,rfl,rfl,trivial⟩ (fun u=>?_)
 refine c_cond rfl (fun h1032=>?_) (fun h1032=>?_)
 ·
  replace hm:=ite_t hm (of_decide_eq_true h1032)
  refine c_seq<|c_region<|g_v rfl (r_field (n:=3) Try.underlying31 rfl Try.sizeOf24 rfl rfl)<|g_v rfl (r_field (n:=3) Try.underlying24 rfl Try.sizeOf9 rfl rfl)<|g_v rfl (r_load (tag:=100010) rfl rfl rfl Try.isAgg9) ?_
  replace hm:=bnd hm
  obtain ⟨x1033,hx1034,hm⟩:=hm
  refine g_cn ⟨w0,M,_,_,φ⟩ (fun _ h=>h) Try.call52 rfl rfl (c_name_Check p0.fQuestion.fName _ hx1034) (fun _ _=>?_)
  refine g_v rfl (r_eql rfl rfl)<|g_v rfl r_assign<|g_nil<|d_then<|c_ret<|d_ret_block<|d_ret_then ?_
  cases hm
  exact d_retC () Try.results45 (res_tmp (res_nil rfl)) trivial (fun W h=>ok_pre (H1:=[_]) (R1:=[]) h (fun W hφ=>hφ)) (.inr rfl)
 replace hm:=ite_f hm (of_decide_eq_false h1032)
 refine c_seq<|c_region<|g_v rfl (r_eql rfl rfl)<|g_v rfl r_assign<|g_nil<|d_then ?_
 refine c_cond rfl (fun h1035=>?_) (fun h1035=>?_)
 ·
  replace hm:=ite_t hm (of_decide_eq_true h1035)
  refine c_seq<|c_region<|g_v rfl (r_field (n:=7) Try.underlying31 rfl Try.sizeOf25 rfl rfl)<|g_v rfl (r_load (tag:=100010) rfl rfl rfl Try.isAgg25) ?_
  replace hm:=bnd hm
  obtain ⟨x1036,hx1037,hm⟩:=hm
  refine g_cn ⟨w0,M,_,_,φ⟩ (fun _ h=>h) Try.call74 rfl rfl (c_slices_ContainsFunc_74 p0.fEntries Ap0_0 cp0_0 psp0_0 ⟨hcp0_0.1,hcp0_0.2⟩ (fun W h=>fp0_0 W h) (fun W h=>(fop0_0 W h)) _ hx1037) (fun _ _=>?_)
  refine g_v rfl r_assign<|g_nil<|d_then<|c_seq<|c_region<|g_v rfl r_move<|g_v rfl (r_not rfl)<|g_v rfl r_move ?_
  refine g_case (t:=65) rfl (fun h1044=>?_) (fun h1044=>?_)
  ·
   have h1044' : x1036 = false:=by revert h1044; cases x1036 <;> simp
   replace hm:=ite_f hm (bool_nt h1044')
   refine g_do rfl rfl rfl rfl rfl h1044<|g_v rfl (r_field (n:=7) Try.underlying31 rfl Try.sizeOf25 rfl rfl)<|g_do rfl rfl rfl rfl rfl h1044<|g_v rfl (r_load (tag:=100010) rfl rfl rfl Try.isAgg25)<|g_do rfl rfl rfl rfl rfl h1044<|g_v rfl (r_lenL Try.underlying25 rfl)<|g_do rfl rfl rfl rfl rfl h1044<|g_v rfl (r_leq rfl rfl)<|g_v rfl (r_pick1 rfl h1044)<|g_v rfl r_move ?_
   refine g_case (t:=71) rfl (fun h1048=>?_) (fun h1048=>?_)
   ·
    replace hm:=ite_t hm (of_decide_eq_true h1048)
    refine g_do rfl rfl rfl rfl rfl h1048<|g_v rfl (r_field (n:=6) Try.underlying31 rfl Try.sizeOf4 rfl rfl)<|g_do rfl rfl rfl rfl rfl h1048<|g_v rfl (r_load (tag:=100010) rfl rfl rfl Try.isAgg4)<|g_do rfl rfl rfl rfl rfl h1048<|g_v rfl r_move ?_
    refine g_case (t:=74) rfl (fun h1050=>?_) (fun h1050=>?_)
    ·
     replace hm:=ite_t hm h1050
     iterate 4 refine g_no rfl rfl rfl rfl rfl h1050 ?_
     refine g_do rfl rfl rfl rfl rfl h1048<|g_v rfl (r_pick1 rfl h1050)<|g_v rfl (r_pick1 rfl h1048)<|g_v rfl r_assign<|g_nil<|d_then ?_
     refine c_flat [(2,.bool true)] ⟨rfl,trivial⟩ (fun u=>?_)
     refine c_ret<|d_ret_block<|d_ret_then ?_
     cases hm
     exact d_retC () Try.results45 (res_tmp (res_nil rfl)) trivial (fun W h=>ok_pre (H1:=[_]) (R1:=[]) h (fun W hφ=>hφ)) (.inr rfl)
    replace hm:=ite_f hm (bool_nt h1050)
    refine g_do rfl rfl rfl rfl rfl h1050<|g_v rfl (r_field (n:=7) Try.underlying31 rfl Try.sizeOf25 rfl rfl)<|g_do rfl rfl rfl rfl rfl h1050<|g_v rfl (r_load (tag:=100010) rfl rfl rfl Try.isAgg25)<|g_do rfl rfl rfl rfl rfl h1050<|g_v rfl (r_lenL Try.underlying25 rfl)<|g_do rfl rfl rfl rfl rfl h1050<|g_v rfl (r_eql rfl rfl)<|g_do rfl rfl rfl rfl rfl h1048<|g_v rfl (r_pick0 rfl h1050) ?_
    refine g_v rfl (r_pick1 rfl h1048)<|g_v rfl r_assign<|g_nil<|d_then ?_
    refine c_flat [(2,.bool (decide ((p0.fEntries.length : Int) = 0)))] ⟨rfl,trivial⟩ (fun u=>?_)
    refine c_ret<|d_ret_block<|d_ret_then ?_
    cases hm
    exact d_retC () Try.results45 (res_tmp (res_nil rfl)) trivial (fun W h=>ok_pre (H1:=[_]) (R1:=[]) h (fun W hφ=>hφ)) (.inr rfl)
   replace hm:=ite_f hm (of_decide_eq_false h1048)
   iterate 3 refine g_no rfl rfl rfl rfl rfl h1048 ?_
   iterate 4 refine g_nu rfl rfl rfl rfl rfl ?_
   refine g_no rfl rfl rfl rfl rfl h1048<|g_v rfl (r_pick0 rfl h1048)<|g_v rfl r_assign<|g_nil<|d_then ?_
   refine c_flat [(2,.bool false)] ⟨rfl,trivial⟩ (fun u=>?_)
   refine c_ret<|d_ret_block<|d_ret_then ?_
   cases hm
   exact d_retC () Try.results45 (res_tmp (res_nil rfl)) trivial (fun W h=>ok_pre (H1:=[_]) (R1:=[]) h (fun W hφ=>hφ)) (.inr rfl)
  have h1044' : x1036 = true:=by revert h1044; cases x1036 <;> simp
  replace hm:=ite_t hm h1044'
  iterate 4 refine g_no rfl rfl rfl rfl rfl h1044 ?_
  refine g_v rfl (r_pick0 rfl h1044)<|g_v rfl r_move ?_
  iterate 3 refine g_no rfl rfl rfl rfl rfl rfl ?_
  iterate 4 refine g_nu rfl rfl rfl rfl rfl ?_
  refine g_no rfl rfl rfl rfl rfl rfl<|g_v rfl (r_pick0 rfl rfl)<|g_v rfl r_assign<|g_nil<|d_then ?_
  refine c_flat [(2,.bool false)] ⟨rfl,trivial⟩ (fun u=>?_)
  refine c_ret<|d_ret_block<|d_ret_then ?_
  cases hm
  exact d_retC () Try.results45 (res_tmp (res_nil rfl)) trivial (fun W h=>ok_pre (H1:=[_]) (R1:=[]) h (fun W hφ=>hφ)) (.inr rfl)
 replace hm:=ite_f hm (of_decide_eq_false h1035)
 refine c_seq<|c_region<|g_v rfl (r_eql rfl rfl)<|g_v rfl r_assign<|g_nil<|d_then ?_
 refine c_cond rfl (fun h1051=>?_) (fun h1051=>?_)
 ·
  replace hm:=ite_t hm (of_decide_eq_true h1051)
  refine c_seq<|c_region<|g_v rfl (r_field (n:=8) Try.underlying31 rfl Try.sizeOf29 rfl rfl)<|g_v rfl (r_loadA (tag:=100010) rfl rfl Try.isAgg29 Try.sizeOf29 rfl rfl) ?_
  replace hm:=bnd hm
  obtain ⟨x1052,hx1053,hm⟩:=hm
  refine g_cn ⟨w0,M,_,_,φ⟩ (fun _ h=>h) Try.call77 rfl rfl (c_raft_Check p0.fNote Ap0_1 cp0_1 hcp0_1 (fun W hS=>fp0_1 W (ok_pre (H1:=[_]) (R1:=[]) hS (fun W h=>h))) Ap0_2 cp0_2 hcp0_2 (fun W hS=>fp0_2 W (ok_pre (H1:=[_]) (R1:=[]) hS (fun W h=>h))) _ hx1053) (fun _ _=>?_)
  refine g_v rfl (r_eql rfl rfl)<|g_v rfl r_assign<|g_nil<|d_then ?_
  refine c_flat [(2,.bool (decide (x1052 = 0)))] ⟨rfl,trivial⟩ (fun u=>?_)
  refine c_ret<|d_ret_block<|d_ret_then ?_
  cases hm
  exact d_retC () Try.results45 (res_tmp (res_nil rfl)) trivial (fun W h=>ok_pre (H1:=[_]) (R1:=[]) h (fun W hφ=>hφ)) (.inr rfl)
 replace hm:=ite_f hm (of_decide_eq_false h1051)
 refine c_seq<|c_region<|g_v rfl (r_eql rfl rfl)<|g_v rfl r_assign<|g_nil<|d_then ?_
 refine c_cond rfl (fun h1054=>?_) (fun h1054=>?_)
 ·
  replace hm:=ite_t hm (of_decide_eq_true h1054)
  refine c_seq<|c_region<|g_v rfl (r_field (n:=19) Try.underlying31 rfl Try.sizeOf9 rfl rfl)<|g_v rfl (r_load (tag:=100010) rfl rfl rfl Try.isAgg9)<|g_v rfl (r_len Try.underlying9 rfl)<|g_v rfl (r_leq rfl rfl)<|g_v rfl r_assign<|g_nil<|d_then ?_
  refine c_flat [(2,.bool (decide ((p0.fText.size : Int) ≤ 8000)))] ⟨rfl,trivial⟩ (fun u=>?_)
  refine c_ret<|d_ret_block<|d_ret_then ?_
  cases hm
  exact d_retC () Try.results45 (res_tmp (res_nil rfl)) trivial (fun W h=>ok_pre (H1:=[_]) (R1:=[]) h (fun W hφ=>hφ)) (.inr rfl)
 replace hm:=ite_f hm (of_decide_eq_false h1054)
 refine c_skip<|d_normal_block<|d_then<|c_seq<|c_region<|g_v rfl (r_field (n:=0) Try.underlying31 rfl Try.sizeOf3 rfl rfl)<|g_v rfl (r_load (tag:=100010) rfl rfl rfl Try.isAgg3)<|g_v rfl (r_eql rfl rfl)<|g_v rfl r_assign<|g_nil ?_
 refine d_then ?_
 refine c_flat [(2,.bool (decide (p0.fKind = 4)))] ⟨rfl,trivial⟩ (fun u=>?_)
 refine c_ret ?_
 cases hm
 exact d_retC () Try.results45 (res_tmp (res_nil rfl)) trivial (fun W h=>ok_pre (H1:=[_]) (R1:=[]) h (fun W hφ=>hφ)) (.inr rfl)
noncomputable def m_peer_Check (p0 : GLetter) : Option Int:=
  if (min p0.fSerial p0.fEpoch) < 0 then
    some 1
  else
    if 1099511627776 < (max p0.fSerial p0.fEpoch) then
      some 1
    else
      (m_peer_may p0).bind fun x4=>
      if x4 = true then
        some 0
      else
        some 1
theorem c_peer_Check {w0 : World} {M : Nat→Prop} {H : List (Nat×Nat×Obj)} {R : List (Nat×Row)} {φ : World→Prop} (p0 : GLetter) (Ap0_0 : Option Addr) (cp0_0 : Nat) (psp0_0 : List GCachedP) (hcp0_0 : (DOk GCached.capP p0.fEntries psp0_0∧p0.fEntries.length ≤ cp0_0)) (fp0_0 : ∀ W,φ W→Cl W Ap0_0 ((p0.fEntries.zip psp0_0).flatMap GCached.encP)) (fop0_0 : ∀ W,φ W→DOwn GCached.ownP p0.fEntries psp0_0 W) (Ap0_1 : Option Addr) (cp0_1 : Nat) (hcp0_1 : p0.fNote.fEntries.length ≤ cp0_1) (fp0_1 : ∀ W,(Sta.mk w0 M H R φ).ok W→Cl W Ap0_1 (p0.fNote.fEntries.flatMap GEntry.enc)) (Ap0_2 : Option Addr) (cp0_2 : Nat) (hcp0_2 : p0.fNote.fVoters.length ≤ cp0_2) (fp0_2 : ∀ W,(Sta.mk w0 M H R φ).ok W→Cl W Ap0_2 (p0.fNote.fVoters.flatMap (fun x : Int=>[Value.int .i64 x]))) (r : Int) (hm : m_peer_Check p0 = some r) :
    Cn Try.prog 18 #[.agg #[Vi p0.fKind,Vi p0.fSerial,Vi p0.fEpoch,Vs p0.fQuestion.fName,Vu p0.fQuestion.fType,Vu p0.fQuestion.fClass,.bool p0.fGood,.slice Ap0_0 p0.fEntries.length cp0_0,Vi p0.fNote.fKind,Vi p0.fNote.fFrom,Vi p0.fNote.fTo,Vi p0.fNote.fTerm,Vi p0.fNote.fIndex,Vi p0.fNote.fLogTerm,Vi p0.fNote.fCommit,.bool p0.fNote.fGood,.slice Ap0_1 p0.fNote.fEntries.length cp0_1,.slice Ap0_2 p0.fNote.fVoters.length cp0_2,Vs p0.fNote.fSnap,Vs p0.fText]] ⟨w0,M,H,R,φ⟩ (fun x : Unit=>Vi r) (fun x=>True) (fun x=>⟨w0,M,H,R,φ⟩):=by
 unfold m_peer_Check at hm
 refine cn_intro (fn:=Try.f18) (N:=22) Try.func18 rfl Try.ntmps18 rfl<|c_seq<|c_region ?_
 refine g_e rfl (e_box 100010 rfl) (fun g1 _=>?_)
 refine g_v rfl r_assign<|g_nil<|d_then<|c_seq<|c_seq<|c_region<|g_v rfl (r_field (n:=1) Try.underlying31 rfl Try.sizeOf3 rfl rfl)<|g_v rfl (r_load (tag:=100010) rfl rfl rfl Try.isAgg3)<|g_v rfl (r_field (n:=2) Try.underlying31 rfl Try.sizeOf3 rfl rfl)<|g_v rfl (r_load (tag:=100010) rfl rfl rfl Try.isAgg3) ?_
 refine g_v rfl (r_min rfl rfl)<|g_v rfl (r_lss rfl rfl)<|g_v rfl r_move<|g_sta ⟨w0,M,(100010,g1,.cells #[Vi p0.fKind,Vi p0.fSerial,Vi p0.fEpoch,Vs p0.fQuestion.fName,Vu p0.fQuestion.fType,Vu p0.fQuestion.fClass,.bool p0.fGood,.slice Ap0_0 p0.fEntries.length cp0_0,Vi p0.fNote.fKind,Vi p0.fNote.fFrom,Vi p0.fNote.fTo,Vi p0.fNote.fTerm,Vi p0.fNote.fIndex,Vi p0.fNote.fLogTerm,Vi p0.fNote.fCommit,.bool p0.fNote.fGood,.slice Ap0_1 p0.fNote.fEntries.length cp0_1,.slice Ap0_2 p0.fNote.fVoters.length cp0_2,Vs p0.fNote.fSnap,Vs p0.fText] 31 (0,0))::H,R,φ⟩ (fun _ h=>h) ?_
 refine g_if rfl rfl rfl rfl rfl (fun h2=>?_) (fun h2=>?_)
 ·
  replace hm:=ite_f hm (of_decide_eq_false h2)
  refine g_v rfl (r_field (n:=1) Try.underlying31 rfl Try.sizeOf3 rfl rfl)<|g_do rfl rfl rfl rfl rfl h2<|g_v rfl (r_load (tag:=100010) rfl rfl rfl Try.isAgg3)<|g_do rfl rfl rfl rfl rfl h2<|g_v rfl (r_field (n:=2) Try.underlying31 rfl Try.sizeOf3 rfl rfl)<|g_do rfl rfl rfl rfl rfl h2<|g_v rfl (r_load (tag:=100010) rfl rfl rfl Try.isAgg3)<|g_do rfl rfl rfl rfl rfl h2<|g_v rfl (r_max rfl rfl)<|g_do rfl rfl rfl rfl rfl h2 ?_
  refine g_v rfl (r_gtr rfl rfl)<|g_v rfl (r_pick0 rfl h2)<|g_v rfl r_move ?_
  refine g_if rfl rfl rfl rfl rfl (fun h3=>?_) (fun h3=>?_)
  ·
   replace hm:=ite_f hm (of_decide_eq_false h3)
   refine g_v rfl (r_loadA (tag:=100010) rfl rfl Try.isAgg31 Try.sizeOf31 rfl rfl)<|g_do rfl rfl rfl rfl rfl h3 ?_
   replace hm:=bnd hm
   obtain ⟨x4,hx5,hm⟩:=hm
   refine g_cn ⟨w0,M,_,_,φ⟩ (fun _ h=>h) Try.call45 rfl rfl (c_peer_may p0 Ap0_0 cp0_0 psp0_0 ⟨hcp0_0.1,hcp0_0.2⟩ (fun W h=>fp0_0 W h) (fun W h=>(fop0_0 W h)) Ap0_1 cp0_1 hcp0_1 (fun W hS=>fp0_1 W (ok_pre (H1:=[_]) (R1:=[]) hS (fun W h=>h))) Ap0_2 cp0_2 hcp0_2 (fun W hS=>fp0_2 W (ok_pre (H1:=[_]) (R1:=[]) hS (fun W h=>h))) _ hx5) (fun _ _=>?_)
   refine g_do rfl rfl rfl rfl rfl h3<|g_v rfl (r_not rfl)<|g_v rfl (r_pick0 rfl h3)<|g_nil<|d_then ?_
   refine c_flat [(21,.bool (!x4))] ⟨rfl,trivial⟩ (fun u=>?_)
   refine c_cond rfl (fun h6=>?_) (fun h6=>?_)
   ·
    have h6' : x4 = false:=by revert h6; cases x4 <;> simp
    replace hm:=ite_f hm (bool_nt h6')
    refine c_seq<|c_region<|g_v rfl r_assign<|g_nil<|d_then<|c_ret<|d_ret_then ?_
    cases hm
    exact d_retC () Try.results18 (res_tmp (res_nil rfl)) trivial (fun W h=>ok_pre (H1:=[_]) (R1:=[]) h (fun W hφ=>hφ)) (.inr rfl)
   have h6' : x4 = true:=by revert h6; cases x4 <;> simp
   replace hm:=ite_t hm h6'
   refine c_skip<|d_then<|c_seq<|c_region<|g_v rfl r_assign<|g_nil<|d_then<|c_ret ?_
   cases hm
   exact d_retC () Try.results18 (res_tmp (res_nil rfl)) trivial (fun W h=>ok_pre (H1:=[_]) (R1:=[]) h (fun W hφ=>hφ)) (.inr rfl)
  replace hm:=ite_t hm (of_decide_eq_true h3)
  refine g_no rfl rfl rfl rfl rfl h3<|g_no rfl rfl rfl rfl rfl h3<|g_v rfl (r_pick1 rfl h3)<|g_nil<|d_then ?_
  refine c_flat [(21,.bool true)] ⟨rfl,trivial⟩ (fun u=>?_)
  refine c_cond1 rfl rfl<|c_seq<|c_region<|g_v rfl r_assign<|g_nil<|d_then<|c_ret<|d_ret_then ?_
  cases hm
  exact d_retC () Try.results18 (res_tmp (res_nil rfl)) trivial (fun W h=>ok_pre (H1:=[_]) (R1:=[]) h (fun W hφ=>hφ)) (.inr rfl)
 replace hm:=ite_t hm (of_decide_eq_true h2)
 iterate 5 refine g_no rfl rfl rfl rfl rfl h2 ?_
 refine g_v rfl (r_pick1 rfl h2)<|g_v rfl r_move ?_
 iterate 3 refine g_no rfl rfl rfl rfl rfl rfl ?_
 refine g_v rfl (r_pick1 rfl rfl)<|g_nil<|d_then ?_
 refine c_flat [(21,.bool true)] ⟨rfl,trivial⟩ (fun u=>?_)
 refine c_cond1 rfl rfl<|c_seq<|c_region<|g_v rfl r_assign<|g_nil<|d_then<|c_ret<|d_ret_then ?_
 cases hm
 exact d_retC () Try.results18 (res_tmp (res_nil rfl)) trivial (fun W h=>ok_pre (H1:=[_]) (R1:=[]) h (fun W hφ=>hφ)) (.inr rfl)
structure Gpack_Packer where
  fb : List Int
  fplaces : List (ByteArray×Int)
  deriving DecidableEq
theorem bld94_13  : ∀ W,(Instr.build 94 #[]).run Try.prog W = .ok (.agg #[V0,.map none]) W:=fun _=>by kernel_rfl
noncomputable def m_pack_New  : Option Gpack_Packer:=
  some (⟨([] : List Int),([] : List (ByteArray×Int))⟩ : Gpack_Packer)
theorem c_pack_New {w0 : World} {M : Nat→Prop} {H : List (Nat×Nat×Obj)} {R : List (Nat×Row)} {φ : World→Prop}  (r : Gpack_Packer) (hm : m_pack_New = some r) :
    Cn Try.prog 23 #[] ⟨w0,M,H,R,φ⟩ (fun x : Option Addr×Nat×Option Addr×Nat×Nat=>.pointer (some ⟨x.2.2.2.2,0,none⟩)) (fun x=>r.fb.length ≤ x.2.1∧True) (fun x=>⟨w0,M,(3000,x.2.2.2.2,.cells #[.slice x.1 r.fb.length x.2.1,mapV x.2.2.1] 94 (0,0))::H,(2000,⟨.slice x.1 r.fb.length x.2.1,5,1,r.fb.length,r.fb.flatMap (fun x : Int=>[Value.int .u8 x])⟩)::(2001,⟨mapV x.2.2.1,92,2,r.fplaces.length,r.fplaces.flatMap (mcell (fun x : ByteArray=>Value.string x) (fun x : Int=>Value.int .i64 x))⟩)::R,φ⟩):=by
 unfold m_pack_New at hm
 refine cn_intro (fn:=Try.f23) (N:=3) Try.func23 rfl Try.ntmps23 rfl<|c_seq<|c_region<|g_v rfl r_assign<|g_nil<|d_then<|c_seq<|c_region<|g_v rfl (r_build _ rfl (bld94_13)) ?_
 refine g_e rfl (e_box 100020 rfl) (fun g1 _=>?_)
 refine g_v rfl r_assign<|g_nil<|d_then<|c_ret ?_
 cases hm
 refine d_sta _ (fun W h=>nilR h 11 5 1)<|d_sta _ (fun W h=>nilM h 12 92)<|d_sta _ (fun W h=>ok_frontR (t:=12) (t':=2001) h rfl)<|d_sta _ (fun W h=>ok_frontR (t:=11) (t':=2000) h rfl)<|d_sta _ (fun W h=>ok_front (t:=100020) (t':=3000) h rfl) ?_
 exact d_retC (none,0,none,0,g1) Try.results23 (res_tmp (res_nil rfl)) ⟨(Nat.le_refl 0),trivial⟩ (fun W h=>h.phi (fun W hφ=>hφ)) (.inr rfl)
theorem bld63_14 (z0 : Nat) : ∀ W,(Instr.build 63 #[(0,Vp z0)]).run Try.prog W = .ok (.agg #[Vp z0]) W:=fun _=>by kernel_rfl
theorem lit5_15 (z0 : Int) : Try.prog.builtSlice 5 1 [(0,.int .u8 z0)] = some #[.int .u8 z0]:=by kernel_rfl
theorem inf5_16  : (Try.prog.info? 5).map (fun i=>(i.zero,i.size,i.bytes)) = some (some (.int .u8 0),1,1):=by kernel_rfl
noncomputable def m_pack_Packer_put (p1 : List Int) (o0 : Gpack_Packer) : Option Gpack_Packer:=
  (app 1 o0.fb p1).bind fun l1=>
  some (⟨l1,o0.fplaces⟩ : Gpack_Packer)
theorem c_pack_Packer_put {w0 : World} {M : Nat→Prop} {H : List (Nat×Nat×Obj)} {R : List (Nat×Row)} {φ : World→Prop} (p1 : List Int) (Ap1_0 : Option Addr) (cp1_0 : Nat) (hcp1_0 : p1.length ≤ cp1_0) (fp1_0 : ∀ W,(Sta.mk w0 M H R φ).ok W→Cl W Ap1_0 (p1.flatMap (fun x : Int=>[Value.int .u8 x]))) (go0 : Nat) (o0 : Gpack_Packer) (Ao0_0 : Option Addr) (co0_0 : Nat) (hco0_0 : o0.fb.length ≤ co0_0) (Ao0_1 : Option Addr) (co0_1 : Nat) (hco0_1 : True) (r : Gpack_Packer) (hm : m_pack_Packer_put p1 o0 = some r) :
    Cn Try.prog 50 #[Vp go0,.slice Ap1_0 p1.length cp1_0] ⟨w0,M,(1000,go0,.cells #[.slice Ao0_0 o0.fb.length co0_0,mapV Ao0_1] 94 (0,0))::H,(1000,⟨.slice Ao0_0 o0.fb.length co0_0,5,1,o0.fb.length,o0.fb.flatMap (fun x : Int=>[Value.int .u8 x])⟩)::(1001,⟨mapV Ao0_1,92,2,o0.fplaces.length,o0.fplaces.flatMap (mcell (fun x : ByteArray=>Value.string x) (fun x : Int=>Value.int .i64 x))⟩)::R,φ⟩ (fun x : Option Addr×Nat=>.tuple #[]) (fun x=>r.fb.length ≤ x.2) (fun x=>⟨w0,M,(1000,go0,.cells #[.slice x.1 r.fb.length x.2,mapV Ao0_1] 94 (0,0))::H,(2000,⟨.slice x.1 r.fb.length x.2,5,1,r.fb.length,r.fb.flatMap (fun x : Int=>[Value.int .u8 x])⟩)::(1001,⟨mapV Ao0_1,92,2,o0.fplaces.length,o0.fplaces.flatMap (mcell (fun x : ByteArray=>Value.string x) (fun x : Int=>Value.int .i64 x))⟩)::R,φ⟩):=by
 unfold m_pack_Packer_put at hm
 refine cn_intro (fn:=Try.f50) (N:=15) Try.func50 rfl Try.ntmps50 rfl<|c_seq<|c_region<|g_v rfl r_move<|g_v rfl (r_neqP1 Try.underlying60 rfl rfl)<|g_nil<|d_then<|c_cond1 rfl rfl<|c_region<|g_v rfl r_move ?_
 refine g_v rfl r_move<|g_v rfl (r_nilck rfl)<|g_v rfl (r_field (n:=0) Try.underlying94 rfl Try.sizeOf91 rfl rfl)<|g_v rfl (r_load (tag:=1000) rfl rfl rfl Try.isAgg91)<|g_v rfl r_move ?_
 replace hm:=bnd hm
 obtain ⟨l1,hl1,hm⟩:=hm
 refine g_e rfl (e_appR (enc:=(fun x : Int=>[Value.int .u8 x])) (l:=o0.fb) (l1:=p1) (l2:=l1) (tag:=1000) Try.underlying91 inf5_16 rfl (by decide) (by decide) (fun _=>rfl) (fun _=>rfl) rfl hco0_0 rfl rfl (fun W hS=>fp1_0 W (ok_pre (H1:=[_]) (R1:=[_,_]) hS (fun W h=>h))) hl1) (fun ⟨A2,c3⟩ hc3=>?_)
 refine g_v rfl (r_nilck rfl)<|g_v rfl (r_field (n:=0) Try.underlying94 rfl Try.sizeOf91 rfl rfl)<|g_storeL (tag:=1000) rfl rfl rfl rfl Try.sizeOf91 rfl rfl<|g_nil ?_
 cases hm
 refine d_sta _ (fun W h=>ok_frontR (t:=1000) (t':=2000) h rfl) ?_
 exact d_retC (A2,c3) Try.results50 (res_nil rfl) hc3 (fun W h=>h.phi (fun W hφ=>hφ)) (.inl rfl)
noncomputable def m_pack_Packer_Byte (p1 : Int) (o0 : Gpack_Packer) : Option Gpack_Packer:=
  (m_pack_Packer_put [p1] o0).bind fun x2=>
  some (⟨x2.fb,o0.fplaces⟩ : Gpack_Packer)
theorem c_pack_Packer_Byte {w0 : World} {M : Nat→Prop} {H : List (Nat×Nat×Obj)} {R : List (Nat×Row)} {φ : World→Prop} (p1 : Int) (go0 : Nat) (o0 : Gpack_Packer) (Ao0_0 : Option Addr) (co0_0 : Nat) (hco0_0 : o0.fb.length ≤ co0_0) (Ao0_1 : Option Addr) (co0_1 : Nat) (hco0_1 : True) (r : Gpack_Packer) (hm : m_pack_Packer_Byte p1 o0 = some r) :
    Cn Try.prog 24 #[Vp go0,.int .u8 p1] ⟨w0,M,(1000,go0,.cells #[.slice Ao0_0 o0.fb.length co0_0,mapV Ao0_1] 94 (0,0))::H,(1000,⟨.slice Ao0_0 o0.fb.length co0_0,5,1,o0.fb.length,o0.fb.flatMap (fun x : Int=>[Value.int .u8 x])⟩)::(1001,⟨mapV Ao0_1,92,2,o0.fplaces.length,o0.fplaces.flatMap (mcell (fun x : ByteArray=>Value.string x) (fun x : Int=>Value.int .i64 x))⟩)::R,φ⟩ (fun x : Option Addr×Nat=>.tuple #[]) (fun x=>r.fb.length ≤ x.2) (fun x=>⟨w0,M,(1000,go0,.cells #[.slice x.1 r.fb.length x.2,mapV Ao0_1] 94 (0,0))::H,(2000,⟨.slice x.1 r.fb.length x.2,5,1,r.fb.length,r.fb.flatMap (fun x : Int=>[Value.int .u8 x])⟩)::(1001,⟨mapV Ao0_1,92,2,o0.fplaces.length,o0.fplaces.flatMap (mcell (fun x : ByteArray=>Value.string x) (fun x : Int=>Value.int .i64 x))⟩)::R,φ⟩):=by
 unfold m_pack_Packer_Byte at hm
 refine cn_intro (fn:=Try.f24) (N:=8) Try.func24 rfl Try.ntmps24 rfl<|c_region<|g_v rfl r_move<|g_v rfl r_move ?_
 refine g_e rfl (e_lit (tag:=100060) (l:=[p1]) (enc:=(fun x : Int=>[Value.int .u8 x])) (sz:=1) rfl Try.underlying91 (lit5_15 _) rfl rfl (fun _=>rfl)) (fun g1 _=>?_)
 replace hm:=bnd hm
 obtain ⟨x2,hx3,hm⟩:=hm
 refine g_cn ⟨w0,M,(1000,go0,.cells #[.slice Ao0_0 o0.fb.length co0_0,mapV Ao0_1] 94 (0,0))::H,(1000,⟨.slice Ao0_0 o0.fb.length co0_0,5,1,o0.fb.length,o0.fb.flatMap (fun x : Int=>[Value.int .u8 x])⟩)::(1001,⟨mapV Ao0_1,92,2,o0.fplaces.length,o0.fplaces.flatMap (mcell (fun x : ByteArray=>Value.string x) (fun x : Int=>Value.int .i64 x))⟩)::(100060,⟨.slice (some ⟨g1,0,none⟩) [p1].length 1,5,1,[p1].length,[p1].flatMap (fun x : Int=>[Value.int .u8 x])⟩)::R,φ⟩ (fun W h=>(ok_front (t:=1000) (t':=1000) (ok_frontR (t:=1000) (t':=1000) (ok_frontR (t:=1001) (t':=1001) h rfl) rfl) rfl)) Try.call50 rfl rfl (c_pack_Packer_put [p1] (some ⟨g1,0,none⟩) 1 (Nat.le_refl _) (fun W hS=>rowCl (tag:=100060) rfl W hS) go0 o0 Ao0_0 co0_0 hco0_0 Ao0_1 co0_1 trivial _ hx3) (fun ⟨A4,c5⟩ hc5=>?_)
 refine g_sta _ (fun W h=>(ok_frontR (t:=2000) (t':=1000) (ok_frontR (t:=1001) (t':=1001) (ok_front (t:=1000) (t':=1000) h rfl) rfl) rfl))<|g_nil ?_
 cases hm
 refine d_sta _ (fun W h=>ok_frontR (t:=1000) (t':=2000) h rfl) ?_
 exact d_retC (A4,c5) Try.results24 (res_nil rfl) hc5 (fun W h=>(h.dropR (t:=100060) rfl).phi (fun W hφ=>hφ)) (.inl rfl)
theorem lit3_17 (z0 : Int) (z1 : Int) : Try.prog.builtSlice 3 2 [(0,Vi z0),(1,Vi z1)] = some #[Vi z0,Vi z1]:=by kernel_rfl
theorem lit5_18 (z0 : Int) (z1 : Int) (z2 : Int) (z3 : Int) : Try.prog.builtSlice 5 4 [(0,.int .u8 z0),(1,.int .u8 z1),(2,.int .u8 z2),(3,.int .u8 z3)] = some #[.int .u8 z0,.int .u8 z1,.int .u8 z2,.int .u8 z3]:=by kernel_rfl
noncomputable def m_pack_Packer_Long (p1 : Int) (o0 : Gpack_Packer) : Option Gpack_Packer:=
  (m_pack_Packer_put [IntKind.u8.wrap (p1 / 16777216),IntKind.u8.wrap (p1 / 65536),IntKind.u8.wrap (p1 / 256),IntKind.u8.wrap p1] o0).bind fun x2=>
  some (⟨x2.fb,o0.fplaces⟩ : Gpack_Packer)
theorem c_pack_Packer_Long {w0 : World} {M : Nat→Prop} {H : List (Nat×Nat×Obj)} {R : List (Nat×Row)} {φ : World→Prop} (p1 : Int) (go0 : Nat) (o0 : Gpack_Packer) (Ao0_0 : Option Addr) (co0_0 : Nat) (hco0_0 : o0.fb.length ≤ co0_0) (Ao0_1 : Option Addr) (co0_1 : Nat) (hco0_1 : True) (r : Gpack_Packer) (hm : m_pack_Packer_Long p1 o0 = some r) :
    Cn Try.prog 51 #[Vp go0,.int .u32 p1] ⟨w0,M,(1000,go0,.cells #[.slice Ao0_0 o0.fb.length co0_0,mapV Ao0_1] 94 (0,0))::H,(1000,⟨.slice Ao0_0 o0.fb.length co0_0,5,1,o0.fb.length,o0.fb.flatMap (fun x : Int=>[Value.int .u8 x])⟩)::(1001,⟨mapV Ao0_1,92,2,o0.fplaces.length,o0.fplaces.flatMap (mcell (fun x : ByteArray=>Value.string x) (fun x : Int=>Value.int .i64 x))⟩)::R,φ⟩ (fun x : Option Addr×Nat=>.tuple #[]) (fun x=>r.fb.length ≤ x.2) (fun x=>⟨w0,M,(1000,go0,.cells #[.slice x.1 r.fb.length x.2,mapV Ao0_1] 94 (0,0))::H,(2000,⟨.slice x.1 r.fb.length x.2,5,1,r.fb.length,r.fb.flatMap (fun x : Int=>[Value.int .u8 x])⟩)::(1001,⟨mapV Ao0_1,92,2,o0.fplaces.length,o0.fplaces.flatMap (mcell (fun x : ByteArray=>Value.string x) (fun x : Int=>Value.int .i64 x))⟩)::R,φ⟩):=by
 unfold m_pack_Packer_Long at hm
 refine cn_intro (fn:=Try.f51) (N:=18) Try.func51 rfl Try.ntmps51 rfl<|c_region<|g_v rfl r_move<|g_v rfl r_move<|g_v rfl (r_shr (n:=16777216) rfl rfl (by decide) (by decide) (by decide))<|g_v rfl (r_conv Try.underlying52 Try.underlying5 rfl rfl)<|g_v rfl r_move<|g_v rfl (r_shr (n:=65536) rfl rfl (by decide) (by decide) (by decide))<|g_v rfl (r_conv Try.underlying52 Try.underlying5 rfl rfl)<|g_v rfl r_move ?_
 refine g_v rfl (r_shr (n:=256) rfl rfl (by decide) (by decide) (by decide))<|g_v rfl (r_conv Try.underlying52 Try.underlying5 rfl rfl)<|g_v rfl r_move<|g_v rfl (r_conv Try.underlying52 Try.underlying5 rfl rfl) ?_
 refine g_e rfl (e_lit (tag:=100160) (l:=[IntKind.u8.wrap (p1 / 16777216),IntKind.u8.wrap (p1 / 65536),IntKind.u8.wrap (p1 / 256),IntKind.u8.wrap p1]) (enc:=(fun x : Int=>[Value.int .u8 x])) (sz:=1) rfl Try.underlying91 (lit5_18 _ _ _ _) rfl rfl (fun _=>rfl)) (fun g1 _=>?_)
 replace hm:=bnd hm
 obtain ⟨x2,hx3,hm⟩:=hm
 refine g_cn ⟨w0,M,(1000,go0,.cells #[.slice Ao0_0 o0.fb.length co0_0,mapV Ao0_1] 94 (0,0))::H,(1000,⟨.slice Ao0_0 o0.fb.length co0_0,5,1,o0.fb.length,o0.fb.flatMap (fun x : Int=>[Value.int .u8 x])⟩)::(1001,⟨mapV Ao0_1,92,2,o0.fplaces.length,o0.fplaces.flatMap (mcell (fun x : ByteArray=>Value.string x) (fun x : Int=>Value.int .i64 x))⟩)::(100160,⟨.slice (some ⟨g1,0,none⟩) [IntKind.u8.wrap (p1 / 16777216),IntKind.u8.wrap (p1 / 65536),IntKind.u8.wrap (p1 / 256),IntKind.u8.wrap p1].length 4,5,1,[IntKind.u8.wrap (p1 / 16777216),IntKind.u8.wrap (p1 / 65536),IntKind.u8.wrap (p1 / 256),IntKind.u8.wrap p1].length,[IntKind.u8.wrap (p1 / 16777216),IntKind.u8.wrap (p1 / 65536),IntKind.u8.wrap (p1 / 256),IntKind.u8.wrap p1].flatMap (fun x : Int=>[Value.int .u8 x])⟩)::R,φ⟩ (fun W h=>(ok_front (t:=1000) (t':=1000) (ok_frontR (t:=1000) (t':=1000) (ok_frontR (t:=1001) (t':=1001) h rfl) rfl) rfl)) Try.call50 rfl rfl (c_pack_Packer_put [IntKind.u8.wrap (p1 / 16777216),IntKind.u8.wrap (p1 / 65536),IntKind.u8.wrap (p1 / 256),IntKind.u8.wrap p1] (some ⟨g1,0,none⟩) 4 (Nat.le_refl _) (fun W hS=>rowCl (tag:=100160) rfl W hS) go0 o0 Ao0_0 co0_0 hco0_0 Ao0_1 co0_1 trivial _ hx3) (fun ⟨A4,c5⟩ hc5=>?_)
 refine g_sta _ (fun W h=>(ok_frontR (t:=2000) (t':=1000) (ok_frontR (t:=1001) (t':=1001) (ok_front (t:=1000) (t':=1000) h rfl) rfl) rfl))<|g_nil ?_
 cases hm
 refine d_sta _ (fun W h=>ok_frontR (t:=1000) (t':=2000) h rfl) ?_
 exact d_retC (A4,c5) Try.results51 (res_nil rfl) hc5 (fun W h=>(h.dropR (t:=100160) rfl).phi (fun W hφ=>hφ)) (.inl rfl)
noncomputable def m_peer_writer_eight_j1 (o0 : Gpack_Packer) (l45 : List Int) : Option Gpack_Packer:=
  some (⟨l45,o0.fplaces⟩ : Gpack_Packer)
noncomputable def m_peer_writer_eight_s2 (p1 : List Int) (o0 : Gpack_Packer) (l67 : List Int) (i70 : Int) : Option (((List Int)×Int) ⊕ (List Int)):=
  if i70 < (p1.length : Int) then
    (at_ p1 i70).bind fun x92=>
    (m_pack_Packer_Long (IntKind.u32.wrap (x92 / 4294967296)) (⟨l67,o0.fplaces⟩ : Gpack_Packer)).bind fun x96=>
    (m_pack_Packer_Long (IntKind.u32.wrap x92) (⟨x96.fb,o0.fplaces⟩ : Gpack_Packer)).bind fun x101=>
    some (.inl (x101.fb,w64 (i70 + 1)))
  else
    some (.inr l67)
noncomputable def m_peer_writer_eight (p1 : List Int) (o0 : Gpack_Packer) : Option Gpack_Packer:=
  (loop (fun s=>m_peer_writer_eight_s2 p1 o0 s.1 s.2) (o0.fb,0)).bind fun e=>m_peer_writer_eight_j1 o0 e
theorem c_peer_writer_eight {w0 : World} {M : Nat→Prop} {H : List (Nat×Nat×Obj)} {R : List (Nat×Row)} {φ : World→Prop} (p1 : List Int) (Ap1_0 : Option Addr) (cp1_0 : Nat) (hcp1_0 : p1.length ≤ cp1_0) (fp1_0 : ∀ W,(Sta.mk w0 M H R φ).ok W→Cl W Ap1_0 (p1.flatMap (fun x : Int=>[Value.int .i64 x]))) (go0 : Nat) (o0 : Gpack_Packer) (Ao0_0 : Option Addr) (co0_0 : Nat) (hco0_0 : o0.fb.length ≤ co0_0) (Ao0_1 : Option Addr) (co0_1 : Nat) (hco0_1 : True) (r : Gpack_Packer) (hm : m_peer_writer_eight p1 o0 = some r) :
    Cn Try.prog 25 #[.agg #[Vp go0],.slice Ap1_0 p1.length cp1_0] ⟨w0,M,(1000,go0,.cells #[.slice Ao0_0 o0.fb.length co0_0,mapV Ao0_1] 94 (0,0))::H,(1000,⟨.slice Ao0_0 o0.fb.length co0_0,5,1,o0.fb.length,o0.fb.flatMap (fun x : Int=>[Value.int .u8 x])⟩)::(1001,⟨mapV Ao0_1,92,2,o0.fplaces.length,o0.fplaces.flatMap (mcell (fun x : ByteArray=>Value.string x) (fun x : Int=>Value.int .i64 x))⟩)::R,φ⟩ (fun x : Option Addr×Nat=>.tuple #[]) (fun x=>r.fb.length ≤ x.2) (fun x=>⟨w0,M,(1000,go0,.cells #[.slice x.1 r.fb.length x.2,mapV Ao0_1] 94 (0,0))::H,(2000,⟨.slice x.1 r.fb.length x.2,5,1,r.fb.length,r.fb.flatMap (fun x : Int=>[Value.int .u8 x])⟩)::(1001,⟨mapV Ao0_1,92,2,o0.fplaces.length,o0.fplaces.flatMap (mcell (fun x : ByteArray=>Value.string x) (fun x : Int=>Value.int .i64 x))⟩)::R,φ⟩):=by
 unfold m_peer_writer_eight at hm
 refine cn_intro (fn:=Try.f25) (N:=24) Try.func25 rfl Try.ntmps25 rfl<|c_seq<|c_region ?_
 refine g_e rfl (e_box 100020 rfl) (fun g1 _=>?_)
 refine g_nil<|d_then<|c_seq<|c_region<|g_v rfl r_move<|g_v rfl (r_lenL Try.underlying27 rfl)<|g_v rfl r_move<|g_nil<|d_then ?_
 refine c_cut (ι:=(List Int)×Option Addr×Nat) [] (fun ⟨l45,A46,c47⟩=>[]) (fun ⟨l45,A46,c47⟩=>⟨w0,M,(1000,go0,.cells #[.slice A46 l45.length c47,mapV Ao0_1] 94 (0,0))::H,(1000,⟨.slice A46 l45.length c47,5,1,l45.length,l45.flatMap (fun x : Int=>[Value.int .u8 x])⟩)::(1001,⟨mapV Ao0_1,92,2,o0.fplaces.length,o0.fplaces.flatMap (mcell (fun x : ByteArray=>Value.string x) (fun x : Int=>Value.int .i64 x))⟩)::R,φ⟩) (fun ⟨l45,A46,c47⟩=>m_peer_writer_eight_j1 o0 l45 = some r∧l45.length ≤ c47) ?_ (fun ⟨l45,A46,c47⟩ u ⟨hm,hc47⟩=>?_)
 ·
  refine c_block ?_
  replace hm:=bnd hm
  obtain ⟨out2,hl2,hr2⟩:=hm
  obtain ⟨n90',hl2⟩:=loop_lp hl2
  refine c_loopU (ι:=Nat×(List Int)×Int×Option Addr×Nat) [2,6,7,8] (fun ⟨n90,l67,i70,A68,c69⟩=>[(8,Vi i70)]) (fun ⟨n90,l67,i70,A68,c69⟩=>⟨w0,M,(100020,g1,.cells #[Vp go0] 63 (0,0))::(1000,go0,.cells #[.slice A68 l67.length c69,mapV Ao0_1] 94 (0,0))::H,(1000,⟨.slice A68 l67.length c69,5,1,l67.length,l67.flatMap (fun x : Int=>[Value.int .u8 x])⟩)::(1001,⟨mapV Ao0_1,92,2,o0.fplaces.length,o0.fplaces.flatMap (mcell (fun x : ByteArray=>Value.string x) (fun x : Int=>Value.int .i64 x))⟩)::R,φ⟩) (fun ⟨n90,l67,i70,A68,c69⟩=>Lp (fun s=>m_peer_writer_eight_s2 p1 o0 s.1 s.2) n90 (l67,i70) out2∧l67.length ≤ c69) (fun ⟨n90,l67,i70,A68,c69⟩=>n90) (n90',o0.fb,0,Ao0_0,co0_0) ⟨hl2,hco0_0⟩ ⟨rfl,rfl,rfl,rfl,trivial⟩ (fun W h=>h.phi (fun W hφ=>hφ)) (fun ⟨n90,l67,i70,A68,c69⟩ u ⟨hlp,hc69⟩=>?_)
  obtain ⟨o2,hm,hnx2⟩:=lp_step hlp
  clear hlp
  replace hm : m_peer_writer_eight_s2 p1 o0 l67 i70 = some o2:=hm
  unfold m_peer_writer_eight_s2 at hm
  refine c_flat [(2,Vp g1),(6,.slice Ap1_0 p1.length cp1_0),(7,Vi (p1.length : Int)),(8,Vi i70)] ⟨rfl,rfl,rfl,rfl,trivial⟩ (fun u=>?_)
  refine c_sta ⟨w0,M,(100020,g1,.cells #[Vp go0] 63 (0,0))::(1000,go0,.cells #[.slice A68 l67.length c69,mapV Ao0_1] 94 (0,0))::H,(1000,⟨.slice A68 l67.length c69,5,1,l67.length,l67.flatMap (fun x : Int=>[Value.int .u8 x])⟩)::(1001,⟨mapV Ao0_1,92,2,o0.fplaces.length,o0.fplaces.flatMap (mcell (fun x : ByteArray=>Value.string x) (fun x : Int=>Value.int .i64 x))⟩)::R,φ⟩ (fun _ h=>h)<|c_seq<|c_region<|g_v rfl (r_lss rfl rfl)<|g_nil<|d_then<|c_seq ?_
  refine c_cond rfl (fun h91=>?_) (fun h91=>?_)
  ·
   replace hm:=ite_t hm (of_decide_eq_true h91)
   refine c_skip<|d_then<|c_seq<|c_block<|c_seq<|c_region ?_
   replace hm:=bnd hm
   obtain ⟨x92,hx92,hm⟩:=hm
   refine g_know _ (fun W hS=>cl_at (p:=(Sta.mk w0 M H R φ).ok) (sz:=1) (fun _=>rfl) (by decide) (ok_pre (H1:=[_,_]) (R1:=[_,_]) hS (fun W h=>h)) fp1_0 hx92) ?_
   rintro ⟨ad93,hA95,f94⟩
   refine g_v rfl (r_ix Try.underlying27 Try.sizeOf3 rfl hA95 rfl hx92)<|g_v rfl (r_ld rfl Try.isAgg3 (fun W hS=>Cl.head (f94 W (ok_pre (H1:=[_,_]) (R1:=[_,_]) hS (fun W h=>h)))))<|g_v rfl r_assign<|g_nil<|d_then<|c_seq<|c_region<|g_v rfl (r_field (n:=0) Try.underlying63 rfl Try.sizeOf60 rfl rfl)<|g_v rfl (r_load (tag:=100020) rfl rfl rfl Try.isAgg60)<|g_v rfl r_move ?_
   refine g_v rfl (r_shr (n:=4294967296) rfl rfl (by decide) (by decide) (by decide))<|g_v rfl (r_conv Try.underlying3 Try.underlying52 rfl rfl) ?_
   replace hm:=bnd hm
   obtain ⟨x96,hx97,hm⟩:=hm
   refine g_cn ⟨w0,M,(1000,go0,.cells #[.slice A68 l67.length c69,mapV Ao0_1] 94 (0,0))::(100020,g1,.cells #[Vp go0] 63 (0,0))::H,(1000,⟨.slice A68 l67.length c69,5,1,l67.length,l67.flatMap (fun x : Int=>[Value.int .u8 x])⟩)::(1001,⟨mapV Ao0_1,92,2,o0.fplaces.length,o0.fplaces.flatMap (mcell (fun x : ByteArray=>Value.string x) (fun x : Int=>Value.int .i64 x))⟩)::R,φ⟩ (fun W h=>(ok_front (t:=1000) (t':=1000) (ok_frontR (t:=1000) (t':=1000) (ok_frontR (t:=1001) (t':=1001) h rfl) rfl) rfl)) Try.call51 rfl rfl (c_pack_Packer_Long (IntKind.u32.wrap (x92 / 4294967296)) go0 (⟨l67,o0.fplaces⟩ : Gpack_Packer) A68 c69 hc69 Ao0_1 co0_1 trivial _ hx97) (fun ⟨A98,c99⟩ hc99=>?_)
   refine g_sta _ (fun W h=>(ok_frontR (t:=2000) (t':=1000) (ok_frontR (t:=1001) (t':=1001) (ok_front (t:=1000) (t':=1000) h rfl) rfl) rfl))<|g_nil<|d_then ?_
   refine c_flat [(2,Vp g1),(5,Vi x92),(6,.slice Ap1_0 p1.length cp1_0),(7,Vi (p1.length : Int)),(8,Vi i70)] ⟨rfl,rfl,rfl,rfl,rfl,trivial⟩ (fun u=>?_)
   refine c_sta ⟨w0,M,(1000,go0,.cells #[.slice A98 x96.fb.length c99,mapV Ao0_1] 94 (0,0))::(100020,g1,.cells #[Vp go0] 63 (0,0))::H,(1000,⟨.slice A98 x96.fb.length c99,5,1,x96.fb.length,x96.fb.flatMap (fun x : Int=>[Value.int .u8 x])⟩)::(1001,⟨mapV Ao0_1,92,2,o0.fplaces.length,o0.fplaces.flatMap (mcell (fun x : ByteArray=>Value.string x) (fun x : Int=>Value.int .i64 x))⟩)::R,φ⟩ (fun _ h=>h)<|c_region<|g_v rfl (r_field (n:=0) Try.underlying63 rfl Try.sizeOf60 rfl rfl)<|g_v rfl (r_load (tag:=100020) rfl rfl rfl Try.isAgg60)<|g_v rfl r_move<|g_v rfl (r_conv Try.underlying3 Try.underlying52 rfl rfl) ?_
   replace hm:=bnd hm
   obtain ⟨x101,hx102,hm⟩:=hm
   refine g_cn ⟨w0,M,(1000,go0,.cells #[.slice A98 x96.fb.length c99,mapV Ao0_1] 94 (0,0))::(100020,g1,.cells #[Vp go0] 63 (0,0))::H,(1000,⟨.slice A98 x96.fb.length c99,5,1,x96.fb.length,x96.fb.flatMap (fun x : Int=>[Value.int .u8 x])⟩)::(1001,⟨mapV Ao0_1,92,2,o0.fplaces.length,o0.fplaces.flatMap (mcell (fun x : ByteArray=>Value.string x) (fun x : Int=>Value.int .i64 x))⟩)::R,φ⟩ (fun W h=>(ok_front (t:=1000) (t':=1000) (ok_frontR (t:=1000) (t':=1000) (ok_frontR (t:=1001) (t':=1001) h rfl) rfl) rfl)) Try.call51 rfl rfl (c_pack_Packer_Long (IntKind.u32.wrap x92) go0 (⟨x96.fb,o0.fplaces⟩ : Gpack_Packer) A98 c99 hc99 Ao0_1 co0_1 trivial _ hx102) (fun ⟨A103,c104⟩ hc104=>?_)
   refine g_sta _ (fun W h=>(ok_frontR (t:=2000) (t':=1000) (ok_frontR (t:=1001) (t':=1001) (ok_front (t:=1000) (t':=1000) h rfl) rfl) rfl))<|g_nil<|d_normal_block<|d_then<|c_region<|g_v rfl (r_add rfl rfl rfl)<|g_v rfl r_move<|g_nil ?_
   obtain ⟨n106,hn106,hlp⟩:=nx_inl hm hnx2
   exact d_round (n106,x101.fb,w64 (i70 + 1),A103,c104) ⟨hlp,hc104⟩ hn106 ⟨rfl,rfl,rfl,rfl,trivial⟩ (fun W h=>(ok_front (t:=100020) (t':=100020) (ok_front (t:=1000) (t':=1000) h rfl) rfl).phi (fun W hφ=>hφ))
  replace hm:=ite_f hm (of_decide_eq_false h91)
  refine c_exit<|d_exit_then<|d_exit_then<|d_exit_block ?_
  replace hm:=nx_out (C:=(fun e : (List Int)=>m_peer_writer_eight_j1 o0 e = some r)) hm hnx2 hr2
  exact d_round (l67,A68,c69) ⟨hm,hc69⟩ Nat.zero_lt_one trivial (fun W h=>(h.dropH (t:=100020) rfl).phi (fun W hφ=>hφ))
 unfold m_peer_writer_eight_j1 at hm
 refine d_flat [] trivial (fun u=>?_)
 refine d_sta ⟨w0,M,(1000,go0,.cells #[.slice A46 l45.length c47,mapV Ao0_1] 94 (0,0))::H,(1000,⟨.slice A46 l45.length c47,5,1,l45.length,l45.flatMap (fun x : Int=>[Value.int .u8 x])⟩)::(1001,⟨mapV Ao0_1,92,2,o0.fplaces.length,o0.fplaces.flatMap (mcell (fun x : ByteArray=>Value.string x) (fun x : Int=>Value.int .i64 x))⟩)::R,φ⟩ (fun _ h=>h) ?_
 cases hm
 refine d_sta _ (fun W h=>ok_frontR (t:=1000) (t':=2000) h rfl) ?_
 exact d_retC (A46,c47) Try.results25 (res_nil rfl) hc47 (fun W h=>h.phi (fun W hφ=>hφ)) (.inl rfl)
theorem mapT92_19  : MapTy Try.prog 92 9 3 (fun x : ByteArray=>Value.string x) (fun x : Int=>Value.int .i64 x) (fun x : ByteArray=>decide (x.size ≤ 9223372036854775807)) 0:=⟨Try.underlying92,Go.Maps.string_keyed Try.underlying9,fun k hk=>⟨_,Go.WideMaps.keyOf_string_mk Try.underlying9 (of_decide_eq_true hk)⟩,fun a b h=>Value.string.inj h,fun _=>Try.zeroValue3 _⟩
theorem lit5_20 (z0 : Int) (z1 : Int) : Try.prog.builtSlice 5 2 [(0,.int .u8 z0),(1,.int .u8 z1)] = some #[.int .u8 z0,.int .u8 z1]:=by kernel_rfl
noncomputable def m_pack_Packer_Word (p1 : Int) (o0 : Gpack_Packer) : Option Gpack_Packer:=
  (m_pack_Packer_put [IntKind.u8.wrap (p1 / 256),IntKind.u8.wrap p1] o0).bind fun x2=>
  some (⟨x2.fb,o0.fplaces⟩ : Gpack_Packer)
theorem c_pack_Packer_Word {w0 : World} {M : Nat→Prop} {H : List (Nat×Nat×Obj)} {R : List (Nat×Row)} {φ : World→Prop} (p1 : Int) (go0 : Nat) (o0 : Gpack_Packer) (Ao0_0 : Option Addr) (co0_0 : Nat) (hco0_0 : o0.fb.length ≤ co0_0) (Ao0_1 : Option Addr) (co0_1 : Nat) (hco0_1 : True) (r : Gpack_Packer) (hm : m_pack_Packer_Word p1 o0 = some r) :
    Cn Try.prog 27 #[Vp go0,Vu p1] ⟨w0,M,(1000,go0,.cells #[.slice Ao0_0 o0.fb.length co0_0,mapV Ao0_1] 94 (0,0))::H,(1000,⟨.slice Ao0_0 o0.fb.length co0_0,5,1,o0.fb.length,o0.fb.flatMap (fun x : Int=>[Value.int .u8 x])⟩)::(1001,⟨mapV Ao0_1,92,2,o0.fplaces.length,o0.fplaces.flatMap (mcell (fun x : ByteArray=>Value.string x) (fun x : Int=>Value.int .i64 x))⟩)::R,φ⟩ (fun x : Option Addr×Nat=>.tuple #[]) (fun x=>r.fb.length ≤ x.2) (fun x=>⟨w0,M,(1000,go0,.cells #[.slice x.1 r.fb.length x.2,mapV Ao0_1] 94 (0,0))::H,(2000,⟨.slice x.1 r.fb.length x.2,5,1,r.fb.length,r.fb.flatMap (fun x : Int=>[Value.int .u8 x])⟩)::(1001,⟨mapV Ao0_1,92,2,o0.fplaces.length,o0.fplaces.flatMap (mcell (fun x : ByteArray=>Value.string x) (fun x : Int=>Value.int .i64 x))⟩)::R,φ⟩):=by
 unfold m_pack_Packer_Word at hm
 refine cn_intro (fn:=Try.f27) (N:=12) Try.func27 rfl Try.ntmps27 rfl<|c_region<|g_v rfl r_move<|g_v rfl r_move<|g_v rfl (r_shr (n:=256) rfl rfl (by decide) (by decide) (by decide))<|g_v rfl (r_conv Try.underlying22 Try.underlying5 rfl rfl)<|g_v rfl r_move<|g_v rfl (r_conv Try.underlying22 Try.underlying5 rfl rfl) ?_
 refine g_e rfl (e_lit (tag:=100100) (l:=[IntKind.u8.wrap (p1 / 256),IntKind.u8.wrap p1]) (enc:=(fun x : Int=>[Value.int .u8 x])) (sz:=1) rfl Try.underlying91 (lit5_20 _ _) rfl rfl (fun _=>rfl)) (fun g1 _=>?_)
 replace hm:=bnd hm
 obtain ⟨x2,hx3,hm⟩:=hm
 refine g_cn ⟨w0,M,(1000,go0,.cells #[.slice Ao0_0 o0.fb.length co0_0,mapV Ao0_1] 94 (0,0))::H,(1000,⟨.slice Ao0_0 o0.fb.length co0_0,5,1,o0.fb.length,o0.fb.flatMap (fun x : Int=>[Value.int .u8 x])⟩)::(1001,⟨mapV Ao0_1,92,2,o0.fplaces.length,o0.fplaces.flatMap (mcell (fun x : ByteArray=>Value.string x) (fun x : Int=>Value.int .i64 x))⟩)::(100100,⟨.slice (some ⟨g1,0,none⟩) [IntKind.u8.wrap (p1 / 256),IntKind.u8.wrap p1].length 2,5,1,[IntKind.u8.wrap (p1 / 256),IntKind.u8.wrap p1].length,[IntKind.u8.wrap (p1 / 256),IntKind.u8.wrap p1].flatMap (fun x : Int=>[Value.int .u8 x])⟩)::R,φ⟩ (fun W h=>(ok_front (t:=1000) (t':=1000) (ok_frontR (t:=1000) (t':=1000) (ok_frontR (t:=1001) (t':=1001) h rfl) rfl) rfl)) Try.call50 rfl rfl (c_pack_Packer_put [IntKind.u8.wrap (p1 / 256),IntKind.u8.wrap p1] (some ⟨g1,0,none⟩) 2 (Nat.le_refl _) (fun W hS=>rowCl (tag:=100100) rfl W hS) go0 o0 Ao0_0 co0_0 hco0_0 Ao0_1 co0_1 trivial _ hx3) (fun ⟨A4,c5⟩ hc5=>?_)
 refine g_sta _ (fun W h=>(ok_frontR (t:=2000) (t':=1000) (ok_frontR (t:=1001) (t':=1001) (ok_front (t:=1000) (t':=1000) h rfl) rfl) rfl))<|g_nil ?_
 cases hm
 refine d_sta _ (fun W h=>ok_frontR (t:=1000) (t':=2000) h rfl) ?_
 exact d_retC (A4,c5) Try.results27 (res_nil rfl) hc5 (fun W h=>(h.dropR (t:=100100) rfl).phi (fun W hφ=>hφ)) (.inl rfl)
noncomputable def m_pack_Packer_Raw (p1 : ByteArray) (o0 : Gpack_Packer) : Option Gpack_Packer:=
  (m_pack_Packer_put (bytesI p1) o0).bind fun x5=>
  some (⟨x5.fb,o0.fplaces⟩ : Gpack_Packer)
theorem c_pack_Packer_Raw {w0 : World} {M : Nat→Prop} {H : List (Nat×Nat×Obj)} {R : List (Nat×Row)} {φ : World→Prop} (p1 : ByteArray) (go0 : Nat) (o0 : Gpack_Packer) (Ao0_0 : Option Addr) (co0_0 : Nat) (hco0_0 : o0.fb.length ≤ co0_0) (Ao0_1 : Option Addr) (co0_1 : Nat) (hco0_1 : True) (r : Gpack_Packer) (hm : m_pack_Packer_Raw p1 o0 = some r) :
    Cn Try.prog 31 #[Vp go0,Vs p1] ⟨w0,M,(1000,go0,.cells #[.slice Ao0_0 o0.fb.length co0_0,mapV Ao0_1] 94 (0,0))::H,(1000,⟨.slice Ao0_0 o0.fb.length co0_0,5,1,o0.fb.length,o0.fb.flatMap (fun x : Int=>[Value.int .u8 x])⟩)::(1001,⟨mapV Ao0_1,92,2,o0.fplaces.length,o0.fplaces.flatMap (mcell (fun x : ByteArray=>Value.string x) (fun x : Int=>Value.int .i64 x))⟩)::R,φ⟩ (fun x : Option Addr×Nat=>.tuple #[]) (fun x=>r.fb.length ≤ x.2) (fun x=>⟨w0,M,(1000,go0,.cells #[.slice x.1 r.fb.length x.2,mapV Ao0_1] 94 (0,0))::H,(2000,⟨.slice x.1 r.fb.length x.2,5,1,r.fb.length,r.fb.flatMap (fun x : Int=>[Value.int .u8 x])⟩)::(1001,⟨mapV Ao0_1,92,2,o0.fplaces.length,o0.fplaces.flatMap (mcell (fun x : ByteArray=>Value.string x) (fun x : Int=>Value.int .i64 x))⟩)::R,φ⟩):=by
 unfold m_pack_Packer_Raw at hm
 refine cn_intro (fn:=Try.f31) (N:=8) Try.func31 rfl Try.ntmps31 rfl<|c_region<|g_v rfl r_move<|g_v rfl r_move ?_
 refine g_bytes rfl Try.underlying9 Try.underlying91 Try.underlying5 rfl (fun A1 c2 hc2 φ3 q3'=>?_)
 have q3 : ∀ W,φ3 W→φ W:=fun W h=>(q3' W h).1
 have f4:=fun (W : World) (h : φ3 W)=>(q3' W h).2
 replace hm:=bnd hm
 obtain ⟨x5,hx6,hm⟩:=hm
 refine g_cn ⟨w0,M,(1000,go0,.cells #[.slice Ao0_0 o0.fb.length co0_0,mapV Ao0_1] 94 (0,0))::H,(1000,⟨.slice Ao0_0 o0.fb.length co0_0,5,1,o0.fb.length,o0.fb.flatMap (fun x : Int=>[Value.int .u8 x])⟩)::(1001,⟨mapV Ao0_1,92,2,o0.fplaces.length,o0.fplaces.flatMap (mcell (fun x : ByteArray=>Value.string x) (fun x : Int=>Value.int .i64 x))⟩)::R,φ3⟩ (fun W h=>(ok_front (t:=1000) (t':=1000) (ok_frontR (t:=1000) (t':=1000) (ok_frontR (t:=1001) (t':=1001) h rfl) rfl) rfl)) Try.call50 rfl rfl (c_pack_Packer_put (bytesI p1) A1 c2 hc2 (fun W hS=>f4 W hS.now) go0 o0 Ao0_0 co0_0 hco0_0 Ao0_1 co0_1 trivial _ hx6) (fun ⟨A7,c8⟩ hc8=>?_)
 refine g_sta _ (fun W h=>(ok_frontR (t:=2000) (t':=1000) (ok_frontR (t:=1001) (t':=1001) (ok_front (t:=1000) (t':=1000) h rfl) rfl) rfl))<|g_nil ?_
 cases hm
 refine d_sta _ (fun W h=>ok_frontR (t:=1000) (t':=2000) h rfl) ?_
 exact d_retC (A7,c8) Try.results31 (res_nil rfl) hc8 (fun W h=>h.phi (fun W hφ=>(q3 _ hφ))) (.inl rfl)
noncomputable def m_pack_Packer_Name_j1  (l88 : List Int) (l91 : List (ByteArray×Int)) : Option (Int×Gpack_Packer):=
  (m_pack_Packer_Byte 0 (⟨l88,l91⟩ : Gpack_Packer)).bind fun x94=>
  some (0,(⟨x94.fb,l91⟩ : Gpack_Packer))
noncomputable def m_pack_Packer_Name_j4 (s143 : ByteArray) (l137 : List Int) (l203 : List (ByteArray×Int)) : Option (((List Int)×(List (ByteArray×Int))×ByteArray) ⊕ (((List Int)×(List (ByteArray×Int))) ⊕ (Int×Gpack_Packer))):=
  (sat_ s143 0).bind fun b206=>
  (scutHi s143 (w64 (1 + (w64 b206)))).bind fun s207=>
  (m_pack_Packer_Raw s207 (⟨l137,l203⟩ : Gpack_Packer)).bind fun x208=>
  (scutLo s143 (w64 (1 + (w64 b206)))).bind fun s213=>
  some (.inl (x208.fb,l203,s213))
noncomputable def m_pack_Packer_Name_j5 (s143 : ByteArray) (l137 : List Int) (l220 : List (ByteArray×Int)) : Option (((List Int)×(List (ByteArray×Int))×ByteArray) ⊕ (((List Int)×(List (ByteArray×Int))) ⊕ (Int×Gpack_Packer))):=
  (mput (fun x : ByteArray=>decide (x.size ≤ 9223372036854775807)) l220 s143 (l137.length : Int)).bind fun l225=>
  m_pack_Packer_Name_j4 s143 l137 l225
noncomputable def m_pack_Packer_Name_j3 (x184 : Int×Bool) (s143 : ByteArray) (l137 : List Int) (l140 : List (ByteArray×Int)) : Option (((List Int)×(List (ByteArray×Int))×ByteArray) ⊕ (((List Int)×(List (ByteArray×Int))) ⊕ (Int×Gpack_Packer))):=
  if x184.2 = true then
    m_pack_Packer_Name_j4 s143 l137 l140
  else
    if (l137.length : Int) < 16384 then
      m_pack_Packer_Name_j5 s143 l137 l140
    else
      m_pack_Packer_Name_j4 s143 l137 l140
noncomputable def m_pack_Packer_Name_s2 (p2 : Bool) (l137 : List Int) (l140 : List (ByteArray×Int)) (s143 : ByteArray) : Option (((List Int)×(List (ByteArray×Int))×ByteArray) ⊕ (((List Int)×(List (ByteArray×Int))) ⊕ (Int×Gpack_Packer))):=
  if 1 < (s143.size : Int) then
    (mget (fun x : ByteArray=>decide (x.size ≤ 9223372036854775807)) 0 l140 s143).bind fun x184=>
    if x184.2 = true then
      if p2 = true then
        (m_pack_Packer_Word (orI .u16 49152 (IntKind.u16.wrap x184.1)) (⟨l137,l140⟩ : Gpack_Packer)).bind fun x231=>
        some (.inr (.inr (0,(⟨x231.fb,l140⟩ : Gpack_Packer))))
      else
        m_pack_Packer_Name_j3 x184 s143 l137 l140
    else
      m_pack_Packer_Name_j3 x184 s143 l137 l140
  else
    some (.inr (.inl (l137,l140)))
noncomputable def m_pack_Packer_Name (p1 : ByteArray) (p2 : Bool) (o0 : Gpack_Packer) : Option (Int×Gpack_Packer):=
  (m_name_Check p1).bind fun x1=>
  if x1 ≠ 0 then
    some (x1,o0)
  else
    (loop (fun s=>m_pack_Packer_Name_s2 p2 s.1 s.2.1 s.2.2) (o0.fb,o0.fplaces,p1)).bind fun e=>Sum.elim (fun e=>m_pack_Packer_Name_j1 e.1 e.2) (fun x=>some x) e
theorem c_pack_Packer_Name {w0 : World} {M : Nat→Prop} {H : List (Nat×Nat×Obj)} {R : List (Nat×Row)} {φ : World→Prop} (p1 : ByteArray) (p2 : Bool) (go0 : Nat) (o0 : Gpack_Packer) (Ao0_0 : Option Addr) (co0_0 : Nat) (hco0_0 : o0.fb.length ≤ co0_0) (Ao0_1 : Option Addr) (co0_1 : Nat) (hco0_1 : True) (r : Int×Gpack_Packer) (hm : m_pack_Packer_Name p1 p2 o0 = some r) :
    Cn Try.prog 26 #[Vp go0,Vs p1,.bool p2] ⟨w0,M,(1000,go0,.cells #[.slice Ao0_0 o0.fb.length co0_0,mapV Ao0_1] 94 (0,0))::H,(1000,⟨.slice Ao0_0 o0.fb.length co0_0,5,1,o0.fb.length,o0.fb.flatMap (fun x : Int=>[Value.int .u8 x])⟩)::(1001,⟨mapV Ao0_1,92,2,o0.fplaces.length,o0.fplaces.flatMap (mcell (fun x : ByteArray=>Value.string x) (fun x : Int=>Value.int .i64 x))⟩)::R,φ⟩ (fun x : Option Addr×Nat×Option Addr×Nat=>Vi r.1) (fun x=>r.2.fb.length ≤ x.2.1∧True) (fun x=>⟨w0,M,(1000,go0,.cells #[.slice x.1 r.2.fb.length x.2.1,mapV x.2.2.1] 94 (0,0))::H,(2000,⟨.slice x.1 r.2.fb.length x.2.1,5,1,r.2.fb.length,r.2.fb.flatMap (fun x : Int=>[Value.int .u8 x])⟩)::(2001,⟨mapV x.2.2.1,92,2,r.2.fplaces.length,r.2.fplaces.flatMap (mcell (fun x : ByteArray=>Value.string x) (fun x : Int=>Value.int .i64 x))⟩)::R,φ⟩):=by
 unfold m_pack_Packer_Name at hm
 refine cn_intro (fn:=Try.f26) (N:=82) Try.func26 rfl Try.ntmps26 rfl<|c_seq<|c_region<|g_v rfl r_assign<|g_nil<|d_then<|c_seq<|c_seq<|c_region<|g_v rfl r_move ?_
 refine g_v rfl (r_eqlP1 Try.underlying60 rfl rfl)<|g_nil<|d_then<|c_cond0 rfl rfl<|c_skip<|d_then<|c_seq<|c_region<|g_v rfl r_move ?_
 replace hm:=bnd hm
 obtain ⟨x1,hx2,hm⟩:=hm
 refine g_cn ⟨w0,M,_,_,φ⟩ (fun _ h=>h) Try.call52 rfl rfl (c_name_Check p1 _ hx2) (fun _ _=>?_)
 refine g_v rfl r_assign<|g_nil<|d_then<|c_seq<|c_seq<|c_region<|g_v rfl r_move<|g_v rfl (r_neq rfl rfl)<|g_nil<|d_then ?_
 refine c_sta ⟨w0,M,(1000,go0,.cells #[.slice Ao0_0 o0.fb.length co0_0,mapV Ao0_1] 94 (0,0))::H,(1000,⟨.slice Ao0_0 o0.fb.length co0_0,5,1,o0.fb.length,o0.fb.flatMap (fun x : Int=>[Value.int .u8 x])⟩)::(1001,⟨mapV Ao0_1,92,2,o0.fplaces.length,o0.fplaces.flatMap (mcell (fun x : ByteArray=>Value.string x) (fun x : Int=>Value.int .i64 x))⟩)::R,φ⟩ (fun _ h=>h) ?_
 refine c_cond rfl (fun h3=>?_) (fun h3=>?_)
 ·
  replace hm:=ite_t hm (of_decide_eq_true h3)
  refine c_seq<|c_region<|g_v rfl r_move<|g_v rfl r_assign<|g_nil<|d_then ?_
  refine c_flat [(6,Vi x1)] ⟨rfl,trivial⟩ (fun u=>?_)
  refine c_ret<|d_ret_then ?_
  cases hm
  refine d_sta _ (fun W h=>ok_frontR (t:=1001) (t':=2001) h rfl)<|d_sta _ (fun W h=>ok_frontR (t:=1000) (t':=2000) h rfl) ?_
  exact d_retC (Ao0_0,co0_0,Ao0_1,co0_1) Try.results26 (res_tmp (res_nil rfl)) ⟨hco0_0,hco0_1⟩ (fun W h=>h.phi (fun W hφ=>hφ)) (.inr rfl)
 replace hm:=ite_f hm (of_decide_eq_false h3)
 refine c_skip<|d_then<|c_seq ?_
 refine c_cut (ι:=(List Int)×(List (ByteArray×Int))×Option Addr×Nat×Option Addr×Nat) [0] (fun ⟨l88,l91,A89,c90,A92,c93⟩=>[]) (fun ⟨l88,l91,A89,c90,A92,c93⟩=>⟨w0,M,(1000,go0,.cells #[.slice A89 l88.length c90,mapV A92] 94 (0,0))::H,(1000,⟨.slice A89 l88.length c90,5,1,l88.length,l88.flatMap (fun x : Int=>[Value.int .u8 x])⟩)::(1001,⟨mapV A92,92,2,l91.length,l91.flatMap (mcell (fun x : ByteArray=>Value.string x) (fun x : Int=>Value.int .i64 x))⟩)::R,φ⟩) (fun ⟨l88,l91,A89,c90,A92,c93⟩=>m_pack_Packer_Name_j1 l88 l91 = some r∧l88.length ≤ c90∧True) ?_ (fun ⟨l88,l91,A89,c90,A92,c93⟩ u ⟨hm,hc90,hc93⟩=>?_)
 ·
  refine c_block ?_
  replace hm:=bnd hm
  obtain ⟨out2,hl2,hr2⟩:=hm
  obtain ⟨n182',hl2⟩:=loop_lp hl2
  refine c_loopU (ι:=Nat×(List Int)×(List (ByteArray×Int))×ByteArray×Option Addr×Nat×Option Addr×Nat) [0,1,2] (fun ⟨n182,l137,l140,s143,A138,c139,A141,c142⟩=>[(1,Vs s143)]) (fun ⟨n182,l137,l140,s143,A138,c139,A141,c142⟩=>⟨w0,M,(1000,go0,.cells #[.slice A138 l137.length c139,mapV A141] 94 (0,0))::H,(1000,⟨.slice A138 l137.length c139,5,1,l137.length,l137.flatMap (fun x : Int=>[Value.int .u8 x])⟩)::(1001,⟨mapV A141,92,2,l140.length,l140.flatMap (mcell (fun x : ByteArray=>Value.string x) (fun x : Int=>Value.int .i64 x))⟩)::R,φ⟩) (fun ⟨n182,l137,l140,s143,A138,c139,A141,c142⟩=>Lp (fun s=>m_pack_Packer_Name_s2 p2 s.1 s.2.1 s.2.2) n182 (l137,l140,s143) out2∧l137.length ≤ c139∧True) (fun ⟨n182,l137,l140,s143,A138,c139,A141,c142⟩=>n182) (n182',o0.fb,o0.fplaces,p1,Ao0_0,co0_0,Ao0_1,co0_1) ⟨hl2,hco0_0,trivial⟩ ⟨rfl,rfl,rfl,trivial⟩ (fun W h=>h.phi (fun W hφ=>hφ)) (fun ⟨n182,l137,l140,s143,A138,c139,A141,c142⟩ u ⟨hlp,hc139,hc142⟩=>?_)
  obtain ⟨o2,hm,hnx2⟩:=lp_step hlp
  clear hlp
  replace hm : m_pack_Packer_Name_s2 p2 l137 l140 s143 = some o2:=hm
  unfold m_pack_Packer_Name_s2 at hm
  refine c_flat [(0,Vp go0),(1,Vs s143),(2,.bool p2)] ⟨rfl,rfl,rfl,trivial⟩ (fun u=>?_)
  refine c_sta ⟨w0,M,(1000,go0,.cells #[.slice A138 l137.length c139,mapV A141] 94 (0,0))::H,(1000,⟨.slice A138 l137.length c139,5,1,l137.length,l137.flatMap (fun x : Int=>[Value.int .u8 x])⟩)::(1001,⟨mapV A141,92,2,l140.length,l140.flatMap (mcell (fun x : ByteArray=>Value.string x) (fun x : Int=>Value.int .i64 x))⟩)::R,φ⟩ (fun _ h=>h)<|c_seq<|c_seq<|c_region<|g_v rfl r_move<|g_v rfl (r_len Try.underlying9 rfl)<|g_v rfl (r_gtr rfl rfl)<|g_nil<|d_then ?_
  refine c_cond rfl (fun h183=>?_) (fun h183=>?_)
  ·
   replace hm:=ite_t hm (of_decide_eq_true h183)
   refine c_skip<|d_then<|c_block<|c_seq<|c_region<|g_v rfl r_move<|g_v rfl (r_nilck rfl)<|g_v rfl (r_field (n:=1) Try.underlying94 rfl Try.sizeOf92 rfl rfl)<|g_v rfl (r_load (tag:=1000) rfl rfl rfl Try.isAgg92)<|g_v rfl r_move ?_
   replace hm:=bnd hm
   obtain ⟨x184,hx184,hm⟩:=hm
   refine g_v rfl (r_mget (tag:=1001) (n:=l140.length) (l:=l140) mapT92_19 rfl rfl rfl hx184)<|g_v rfl r_move<|g_v rfl (r_extract rfl rfl)<|g_v rfl (r_extract rfl rfl)<|g_v rfl r_assign<|g_v rfl r_assign<|g_nil<|d_then ?_
   refine c_flat [(0,Vp go0),(1,Vs s143),(2,.bool p2),(8,Vi x184.1),(9,.bool x184.2)] ⟨rfl,rfl,rfl,rfl,rfl,trivial⟩ (fun u=>?_)
   refine c_seq ?_
   refine c_cut (ι:=Unit) [0,1,2,9] (fun _=>[]) (fun _=>⟨w0,M,(1000,go0,.cells #[.slice A138 l137.length c139,mapV A141] 94 (0,0))::H,(1000,⟨.slice A138 l137.length c139,5,1,l137.length,l137.flatMap (fun x : Int=>[Value.int .u8 x])⟩)::(1001,⟨mapV A141,92,2,l140.length,l140.flatMap (mcell (fun x : ByteArray=>Value.string x) (fun x : Int=>Value.int .i64 x))⟩)::R,φ⟩) (fun _=>m_pack_Packer_Name_j3 x184 s143 l137 l140 = some o2) ?_ (fun _ u hm=>?_)
   ·
    refine c_seq<|c_region<|g_v rfl r_move<|g_v rfl r_move ?_
    refine g_if rfl rfl rfl rfl rfl (fun h229=>?_) (fun h229=>?_)
    ·
     replace hm:=ite_t hm h229
     refine g_v rfl r_move<|g_v rfl (r_pick1 rfl h229)<|g_nil<|d_then ?_
     refine c_cond rfl (fun h230=>?_) (fun h230=>?_)
     ·
      replace hm:=ite_t hm h230
      refine c_seq<|c_region<|g_v rfl r_move<|g_v rfl r_move<|g_v rfl (r_conv Try.underlying3 Try.underlying22 rfl rfl)<|g_v rfl (r_bits_or rfl rfl) ?_
      replace hm:=bnd hm
      obtain ⟨x231,hx232,hm⟩:=hm
      refine g_cn ⟨w0,M,(1000,go0,.cells #[.slice A138 l137.length c139,mapV A141] 94 (0,0))::H,(1000,⟨.slice A138 l137.length c139,5,1,l137.length,l137.flatMap (fun x : Int=>[Value.int .u8 x])⟩)::(1001,⟨mapV A141,92,2,l140.length,l140.flatMap (mcell (fun x : ByteArray=>Value.string x) (fun x : Int=>Value.int .i64 x))⟩)::R,φ⟩ (fun W h=>(ok_front (t:=1000) (t':=1000) (ok_frontR (t:=1000) (t':=1000) (ok_frontR (t:=1001) (t':=1001) h rfl) rfl) rfl)) Try.call27 rfl rfl (c_pack_Packer_Word (orI .u16 49152 (IntKind.u16.wrap x184.1)) go0 (⟨l137,l140⟩ : Gpack_Packer) A138 c139 hc139 A141 c142 trivial _ hx232) (fun ⟨A233,c234⟩ hc234=>?_)
      refine g_sta _ (fun W h=>(ok_frontR (t:=2000) (t':=1000) (ok_frontR (t:=1001) (t':=1001) (ok_front (t:=1000) (t':=1000) h rfl) rfl) rfl))<|g_nil<|d_then ?_
      refine c_flat [] trivial (fun u=>?_)
      refine c_sta ⟨w0,M,(1000,go0,.cells #[.slice A233 x231.fb.length c234,mapV A141] 94 (0,0))::H,(1000,⟨.slice A233 x231.fb.length c234,5,1,x231.fb.length,x231.fb.flatMap (fun x : Int=>[Value.int .u8 x])⟩)::(1001,⟨mapV A141,92,2,l140.length,l140.flatMap (mcell (fun x : ByteArray=>Value.string x) (fun x : Int=>Value.int .i64 x))⟩)::R,φ⟩ (fun _ h=>h)<|c_seq<|c_region<|g_v rfl r_assign<|g_nil<|d_then<|c_ret<|d_ret_then<|d_ret_then<|d_ret_block ?_
      refine d_ret_then<|d_ret_block<|d_ret_then<|d_ret_then ?_
      replace hm:=nx_out (C:=(fun e : ((List Int)×(List (ByteArray×Int))) ⊕ (Int×Gpack_Packer)=>Sum.elim (fun e=>m_pack_Packer_Name_j1 e.1 e.2) (fun x=>some x) e = some r)) hm hnx2 hr2
      replace hm : some (0,(⟨x231.fb,l140⟩ : Gpack_Packer)) = some r:=hm
      cases hm
      refine d_sta _ (fun W h=>ok_frontR (t:=1001) (t':=2001) h rfl)<|d_sta _ (fun W h=>ok_frontR (t:=1000) (t':=2000) h rfl) ?_
      exact d_retC (A233,c234,A141,c142) Try.results26 (res_tmp (res_nil rfl)) ⟨hc234,hc142⟩ (fun W h=>h.phi (fun W hφ=>hφ)) (.inr rfl)
     replace hm:=ite_f hm (bool_nt h230)
     refine c_skip ?_
     exact d_round () hm Nat.zero_lt_one ⟨rfl,rfl,rfl,rfl,trivial⟩ (fun W h=>h.phi (fun W hφ=>hφ))
    replace hm:=ite_f hm (bool_nt h229)
    refine g_v rfl (r_pick0 rfl h229)<|g_nil<|d_then<|c_cond0 rfl rfl<|c_skip ?_
    exact d_round () hm Nat.zero_lt_one ⟨rfl,rfl,rfl,rfl,trivial⟩ (fun W h=>h.phi (fun W hφ=>hφ))
   unfold m_pack_Packer_Name_j3 at hm
   refine d_flat [(0,Vp go0),(1,Vs s143),(2,.bool p2),(9,.bool x184.2)] ⟨rfl,rfl,rfl,rfl,trivial⟩ (fun u=>?_)
   refine d_then<|c_seq ?_
   refine c_cut (ι:=(List (ByteArray×Int))×Option Addr×Nat) [0,1,2] (fun ⟨l203,A204,c205⟩=>[]) (fun ⟨l203,A204,c205⟩=>⟨w0,M,(1000,go0,.cells #[.slice A138 l137.length c139,mapV A204] 94 (0,0))::H,(1000,⟨.slice A138 l137.length c139,5,1,l137.length,l137.flatMap (fun x : Int=>[Value.int .u8 x])⟩)::(1001,⟨mapV A204,92,2,l203.length,l203.flatMap (mcell (fun x : ByteArray=>Value.string x) (fun x : Int=>Value.int .i64 x))⟩)::R,φ⟩) (fun ⟨l203,A204,c205⟩=>m_pack_Packer_Name_j4 s143 l137 l203 = some o2∧True) ?_ (fun ⟨l203,A204,c205⟩ u ⟨hm,hc205⟩=>?_)
   ·
    refine c_seq<|c_region<|g_v rfl r_move<|g_v rfl (r_not rfl)<|g_v rfl r_move ?_
    refine g_if rfl rfl rfl rfl rfl (fun h215=>?_) (fun h215=>?_)
    ·
     have h215' : x184.2 = false:=by revert h215; cases x184.2 <;> simp
     replace hm:=ite_f hm (bool_nt h215')
     refine g_v rfl r_move<|g_do rfl rfl rfl rfl rfl h215<|g_v rfl (r_nilck rfl)<|g_do rfl rfl rfl rfl rfl h215<|g_v rfl (r_field (n:=0) Try.underlying94 rfl Try.sizeOf91 rfl rfl)<|g_do rfl rfl rfl rfl rfl h215<|g_v rfl (r_load (tag:=1000) rfl rfl rfl Try.isAgg91)<|g_do rfl rfl rfl rfl rfl h215<|g_v rfl (r_lenL Try.underlying91 rfl)<|g_do rfl rfl rfl rfl rfl h215 ?_
     refine g_v rfl (r_lss rfl rfl)<|g_v rfl (r_pick1 rfl h215)<|g_nil<|d_then ?_
     refine c_flat [(0,Vp go0),(1,Vs s143),(2,.bool p2),(48,.bool (decide ((l137.length : Int) < 16384)))] ⟨rfl,rfl,rfl,rfl,trivial⟩ (fun u=>?_)
     refine c_cond rfl (fun h216=>?_) (fun h216=>?_)
     ·
      replace hm:=ite_t hm (of_decide_eq_true h216)
      refine c_seq ?_
      refine c_cut (ι:=(List (ByteArray×Int))×Option Addr×Nat) [0,1,2] (fun ⟨l220,A221,c222⟩=>[]) (fun ⟨l220,A221,c222⟩=>⟨w0,M,(1000,go0,.cells #[.slice A138 l137.length c139,mapV A221] 94 (0,0))::H,(1000,⟨.slice A138 l137.length c139,5,1,l137.length,l137.flatMap (fun x : Int=>[Value.int .u8 x])⟩)::(1001,⟨mapV A221,92,2,l220.length,l220.flatMap (mcell (fun x : ByteArray=>Value.string x) (fun x : Int=>Value.int .i64 x))⟩)::R,φ⟩) (fun ⟨l220,A221,c222⟩=>m_pack_Packer_Name_j5 s143 l137 l220 = some o2∧A221.isSome = true) ?_ (fun ⟨l220,A221,c222⟩ u ⟨hm,hc222⟩=>?_)
      ·
       refine c_seq<|c_region<|g_v rfl r_move<|g_v rfl (r_nilck rfl)<|g_v rfl (r_field (n:=1) Try.underlying94 rfl Try.sizeOf92 rfl rfl)<|g_v rfl (r_load (tag:=1000) rfl rfl rfl Try.isAgg92)<|g_v rfl (r_isNilM Try.underlying92 rfl rfl)<|g_nil<|d_then ?_
       refine c_cond rfl (fun h226=>?_) (fun h226=>?_)
       ·
        refine c_know (l140 = []) (fun W hS=>nil_map (tag:=1001) hS rfl h226) (fun hl227=>?_)
        obtain rfl:=Option.isNone_iff_eq_none.1 h226
        refine c_sta _ (fun W h=>Sta.ok.dropR (t:=1001) h rfl)<|c_region<|g_v rfl r_move ?_
        refine g_e rfl (e_mmake (kenc:=(fun x : ByteArray=>Value.string x)) (venc:=(fun x : Int=>Value.int .i64 x)) 1001 92 hl227) (fun g228 _=>?_)
        refine g_v rfl (r_nilck rfl)<|g_v rfl (r_field (n:=1) Try.underlying94 rfl Try.sizeOf92 rfl rfl)<|g_storeL (tag:=1000) rfl rfl rfl rfl Try.sizeOf92 rfl rfl<|g_nil ?_
        exact d_round (l140,some ⟨g228,0,none⟩,0) ⟨hm,rfl⟩ Nat.zero_lt_one ⟨rfl,rfl,rfl,trivial⟩ (fun W h=>(ok_frontR (t:=1000) (t':=1000) (ok_frontR (t:=1001) (t':=1001) h rfl) rfl).phi (fun W hφ=>hφ))
       refine c_skip ?_
       exact d_round (l140,A141,c142) ⟨hm,(some_of_no h226)⟩ Nat.zero_lt_one ⟨rfl,rfl,rfl,trivial⟩ (fun W h=>h.phi (fun W hφ=>hφ))
      unfold m_pack_Packer_Name_j5 at hm
      refine d_flat [(0,Vp go0),(1,Vs s143),(2,.bool p2)] ⟨rfl,rfl,rfl,trivial⟩ (fun u=>?_)
      refine d_sta ⟨w0,M,(1000,go0,.cells #[.slice A138 l137.length c139,mapV A221] 94 (0,0))::H,(1000,⟨.slice A138 l137.length c139,5,1,l137.length,l137.flatMap (fun x : Int=>[Value.int .u8 x])⟩)::(1001,⟨mapV A221,92,2,l220.length,l220.flatMap (mcell (fun x : ByteArray=>Value.string x) (fun x : Int=>Value.int .i64 x))⟩)::R,φ⟩ (fun _ h=>h)<|d_then<|ga_start (n:=11) ⟨w0,M,(1000,go0,.cells #[.slice A138 l137.length c139,mapV A221] 94 (0,0))::H,(1000,⟨.slice A138 l137.length c139,5,1,l137.length,l137.flatMap (fun x : Int=>[Value.int .u8 x])⟩)::R,φ⟩ [10] #[false,false,false,false,false,false,false,false,false,false,false] (fun W h=>(h.dropR (t:=1001) rfl).phi (fun W hφ=>hφ)) mixed rfl rfl<|ga_v (i:=0) (bz 11 1) rfl (by kernel_rfl) (fun _ _ _ _ h=>h) rfl (r_move)<|ga_v (i:=1) (bz 11 3) rfl (by kernel_rfl) (fun _ _ _ _ h=>h) rfl (r_nilck rfl)<|ga_v (i:=2) (bz 11 7) rfl (by kernel_rfl) (fun _ _ _ _ h=>h) rfl (r_field (n:=1) Try.underlying94 rfl Try.sizeOf92 rfl rfl)<|ga_v (i:=3) (bz 11 15) rfl (by kernel_rfl) (fun _ _ _ _ h=>h) rfl (r_load (tag:=1000) rfl rfl rfl Try.isAgg92)<|ga_v (i:=4) (bz 11 31) rfl (by kernel_rfl) (fun _ _ _ _ h=>h) rfl (r_move)<|ga_r (i:=5) (bz 11 63) rfl (by kernel_rfl) (by decide) rfl (r_move)<|ga_r (i:=6) (bz 11 127) rfl (by kernel_rfl) (by decide) rfl (r_nilck rfl) ?_
      refine ga_r (i:=7) (bz 11 255) rfl (by kernel_rfl) (by decide) rfl (r_field (n:=0) Try.underlying94 rfl Try.sizeOf91 rfl rfl)<|ga_r (i:=8) (bz 11 511) rfl (by kernel_rfl) (by decide) rfl (r_load (tag:=1000) rfl rfl rfl Try.isAgg91)<|ga_r (i:=9) (bz 11 1023) rfl (by kernel_rfl) (by decide) rfl (r_lenL Try.underlying91 rfl) ?_
      replace hm:=bnd hm
      obtain ⟨l225,hl225,hm⟩:=hm
      refine ga_sL (i:=10) (bz 11 2047) rfl (by kernel_rfl) (by decide) (e_mput (tag:=1001) (l:=l220) mapT92_19 rfl rfl rfl hc222 rfl hl225)<|gz_done (by kernel_rfl) ?_
      exact d_round (l225,A221,c222) ⟨hm,trivial⟩ Nat.zero_lt_one ⟨rfl,rfl,rfl,trivial⟩ (fun W h=>h.phi (fun W hφ=>hφ))
     replace hm:=ite_f hm (of_decide_eq_false h216)
     refine c_skip ?_
     exact d_round (l140,A141,c142) ⟨hm,trivial⟩ Nat.zero_lt_one ⟨rfl,rfl,rfl,trivial⟩ (fun W h=>h.phi (fun W hφ=>hφ))
    have h215' : x184.2 = true:=by revert h215; cases x184.2 <;> simp
    replace hm:=ite_t hm h215'
    iterate 5 refine g_no rfl rfl rfl rfl rfl h215 ?_
    refine g_v rfl (r_pick0 rfl h215)<|g_nil<|d_then<|c_cond0 rfl rfl<|c_skip ?_
    exact d_round (l140,A141,c142) ⟨hm,trivial⟩ Nat.zero_lt_one ⟨rfl,rfl,rfl,trivial⟩ (fun W h=>h.phi (fun W hφ=>hφ))
   unfold m_pack_Packer_Name_j4 at hm
   refine d_flat [(0,Vp go0),(1,Vs s143),(2,.bool p2)] ⟨rfl,rfl,rfl,trivial⟩ (fun u=>?_)
   refine d_sta ⟨w0,M,(1000,go0,.cells #[.slice A138 l137.length c139,mapV A204] 94 (0,0))::H,(1000,⟨.slice A138 l137.length c139,5,1,l137.length,l137.flatMap (fun x : Int=>[Value.int .u8 x])⟩)::(1001,⟨mapV A204,92,2,l203.length,l203.flatMap (mcell (fun x : ByteArray=>Value.string x) (fun x : Int=>Value.int .i64 x))⟩)::R,φ⟩ (fun _ h=>h)<|d_then<|c_seq<|c_region<|g_v rfl r_move ?_
   replace hm:=bnd hm
   obtain ⟨b206,hb206,hm⟩:=hm
   refine g_v rfl (r_sat Try.underlying9 rfl rfl hb206)<|g_v rfl (r_conv Try.underlying5 Try.underlying3 rfl rfl)<|g_v rfl (r_add rfl rfl rfl)<|g_v rfl r_assign<|g_nil<|d_then<|c_seq<|c_region ?_
   iterate 3 refine g_v rfl r_move ?_
   replace hm:=bnd hm
   obtain ⟨s207,hs207,hm⟩:=hm
   refine g_v rfl (r_scutHi Try.underlying9 rfl rfl hs207) ?_
   replace hm:=bnd hm
   obtain ⟨x208,hx209,hm⟩:=hm
   refine g_cn ⟨w0,M,(1000,go0,.cells #[.slice A138 l137.length c139,mapV A204] 94 (0,0))::H,(1000,⟨.slice A138 l137.length c139,5,1,l137.length,l137.flatMap (fun x : Int=>[Value.int .u8 x])⟩)::(1001,⟨mapV A204,92,2,l203.length,l203.flatMap (mcell (fun x : ByteArray=>Value.string x) (fun x : Int=>Value.int .i64 x))⟩)::R,φ⟩ (fun W h=>(ok_front (t:=1000) (t':=1000) (ok_frontR (t:=1000) (t':=1000) (ok_frontR (t:=1001) (t':=1001) h rfl) rfl) rfl)) Try.call31 rfl rfl (c_pack_Packer_Raw s207 go0 (⟨l137,l203⟩ : Gpack_Packer) A138 c139 hc139 A204 c205 trivial _ hx209) (fun ⟨A210,c211⟩ hc211=>?_)
   refine g_sta _ (fun W h=>(ok_frontR (t:=2000) (t':=1000) (ok_frontR (t:=1001) (t':=1001) (ok_front (t:=1000) (t':=1000) h rfl) rfl) rfl))<|g_nil<|d_then ?_
   refine c_flat [(0,Vp go0),(1,Vs s143),(2,.bool p2),(10,Vi (w64 (1 + (w64 b206))))] ⟨rfl,rfl,rfl,rfl,trivial⟩ (fun u=>?_)
   refine c_sta ⟨w0,M,(1000,go0,.cells #[.slice A210 x208.fb.length c211,mapV A204] 94 (0,0))::H,(1000,⟨.slice A210 x208.fb.length c211,5,1,x208.fb.length,x208.fb.flatMap (fun x : Int=>[Value.int .u8 x])⟩)::(1001,⟨mapV A204,92,2,l203.length,l203.flatMap (mcell (fun x : ByteArray=>Value.string x) (fun x : Int=>Value.int .i64 x))⟩)::R,φ⟩ (fun _ h=>h)<|c_region<|g_v rfl r_move<|g_v rfl r_move ?_
   replace hm:=bnd hm
   obtain ⟨s213,hs213,hm⟩:=hm
   refine g_v rfl (r_scutLo Try.underlying9 rfl rfl hs213)<|g_v rfl r_assign<|g_nil<|d_normal_block ?_
   obtain ⟨n214,hn214,hlp⟩:=nx_inl hm hnx2
   exact d_round (n214,x208.fb,l203,s213,A210,c211,A204,c205) ⟨hlp,hc211,trivial⟩ hn214 ⟨rfl,rfl,rfl,trivial⟩ (fun W h=>h.phi (fun W hφ=>hφ))
  replace hm:=ite_f hm (of_decide_eq_false h183)
  refine c_exit<|d_exit_then<|d_exit_then<|d_exit_block ?_
  replace hm:=nx_out (C:=(fun e : ((List Int)×(List (ByteArray×Int))) ⊕ (Int×Gpack_Packer)=>Sum.elim (fun e=>m_pack_Packer_Name_j1 e.1 e.2) (fun x=>some x) e = some r)) hm hnx2 hr2
  exact d_round (l137,l140,A138,c139,A141,c142) ⟨hm,hc139,trivial⟩ Nat.zero_lt_one ⟨rfl,trivial⟩ (fun W h=>h.phi (fun W hφ=>hφ))
 unfold m_pack_Packer_Name_j1 at hm
 refine d_flat [(0,Vp go0)] ⟨rfl,trivial⟩ (fun u=>?_)
 refine d_sta ⟨w0,M,(1000,go0,.cells #[.slice A89 l88.length c90,mapV A92] 94 (0,0))::H,(1000,⟨.slice A89 l88.length c90,5,1,l88.length,l88.flatMap (fun x : Int=>[Value.int .u8 x])⟩)::(1001,⟨mapV A92,92,2,l91.length,l91.flatMap (mcell (fun x : ByteArray=>Value.string x) (fun x : Int=>Value.int .i64 x))⟩)::R,φ⟩ (fun _ h=>h)<|d_then<|c_seq<|c_region<|g_v rfl r_move ?_
 replace hm:=bnd hm
 obtain ⟨x94,hx95,hm⟩:=hm
 refine g_cn ⟨w0,M,(1000,go0,.cells #[.slice A89 l88.length c90,mapV A92] 94 (0,0))::H,(1000,⟨.slice A89 l88.length c90,5,1,l88.length,l88.flatMap (fun x : Int=>[Value.int .u8 x])⟩)::(1001,⟨mapV A92,92,2,l91.length,l91.flatMap (mcell (fun x : ByteArray=>Value.string x) (fun x : Int=>Value.int .i64 x))⟩)::R,φ⟩ (fun W h=>(ok_front (t:=1000) (t':=1000) (ok_frontR (t:=1000) (t':=1000) (ok_frontR (t:=1001) (t':=1001) h rfl) rfl) rfl)) Try.call24 rfl rfl (c_pack_Packer_Byte 0 go0 (⟨l88,l91⟩ : Gpack_Packer) A89 c90 hc90 A92 c93 trivial _ hx95) (fun ⟨A96,c97⟩ hc97=>?_)
 refine g_sta _ (fun W h=>(ok_frontR (t:=2000) (t':=1000) (ok_frontR (t:=1001) (t':=1001) (ok_front (t:=1000) (t':=1000) h rfl) rfl) rfl))<|g_nil<|d_then<|c_seq<|c_region<|g_v rfl r_assign<|g_nil<|d_then<|c_ret ?_
 cases hm
 refine d_sta _ (fun W h=>ok_frontR (t:=1001) (t':=2001) h rfl)<|d_sta _ (fun W h=>ok_frontR (t:=1000) (t':=2000) h rfl) ?_
 exact d_retC (A96,c97,A92,c93) Try.results26 (res_tmp (res_nil rfl)) ⟨hc97,hc93⟩ (fun W h=>h.phi (fun W hφ=>hφ)) (.inr rfl)
noncomputable def m_peer_writer_bit_j1 (o0 : Gpack_Packer) (i3 : Int) : Option Gpack_Packer:=
  (m_pack_Packer_Byte i3 o0).bind fun x4=>
  some (⟨x4.fb,o0.fplaces⟩ : Gpack_Packer)
noncomputable def m_peer_writer_bit (p1 : Bool) (o0 : Gpack_Packer) : Option Gpack_Packer:=
  if p1 = true then
    m_peer_writer_bit_j1 o0 1
  else
    m_peer_writer_bit_j1 o0 0
theorem c_peer_writer_bit {w0 : World} {M : Nat→Prop} {H : List (Nat×Nat×Obj)} {R : List (Nat×Row)} {φ : World→Prop} (p1 : Bool) (go0 : Nat) (o0 : Gpack_Packer) (Ao0_0 : Option Addr) (co0_0 : Nat) (hco0_0 : o0.fb.length ≤ co0_0) (Ao0_1 : Option Addr) (co0_1 : Nat) (hco0_1 : True) (r : Gpack_Packer) (hm : m_peer_writer_bit p1 o0 = some r) :
    Cn Try.prog 28 #[.agg #[Vp go0],.bool p1] ⟨w0,M,(1000,go0,.cells #[.slice Ao0_0 o0.fb.length co0_0,mapV Ao0_1] 94 (0,0))::H,(1000,⟨.slice Ao0_0 o0.fb.length co0_0,5,1,o0.fb.length,o0.fb.flatMap (fun x : Int=>[Value.int .u8 x])⟩)::(1001,⟨mapV Ao0_1,92,2,o0.fplaces.length,o0.fplaces.flatMap (mcell (fun x : ByteArray=>Value.string x) (fun x : Int=>Value.int .i64 x))⟩)::R,φ⟩ (fun x : Option Addr×Nat=>.tuple #[]) (fun x=>r.fb.length ≤ x.2) (fun x=>⟨w0,M,(1000,go0,.cells #[.slice x.1 r.fb.length x.2,mapV Ao0_1] 94 (0,0))::H,(2000,⟨.slice x.1 r.fb.length x.2,5,1,r.fb.length,r.fb.flatMap (fun x : Int=>[Value.int .u8 x])⟩)::(1001,⟨mapV Ao0_1,92,2,o0.fplaces.length,o0.fplaces.flatMap (mcell (fun x : ByteArray=>Value.string x) (fun x : Int=>Value.int .i64 x))⟩)::R,φ⟩):=by
 unfold m_peer_writer_bit at hm
 refine cn_intro (fn:=Try.f28) (N:=10) Try.func28 rfl Try.ntmps28 rfl<|c_seq<|c_region ?_
 refine g_e rfl (e_box 100020 rfl) (fun g1 _=>?_)
 refine g_nil<|d_then<|c_seq<|c_region<|g_v rfl r_assign<|g_nil<|d_then<|c_seq ?_
 refine c_cut (ι:=Int) [2,4] (fun i3=>[(4,.int .u8 i3)]) (fun i3=>⟨w0,M,(100020,g1,.cells #[Vp go0] 63 (0,0))::(1000,go0,.cells #[.slice Ao0_0 o0.fb.length co0_0,mapV Ao0_1] 94 (0,0))::H,(1000,⟨.slice Ao0_0 o0.fb.length co0_0,5,1,o0.fb.length,o0.fb.flatMap (fun x : Int=>[Value.int .u8 x])⟩)::(1001,⟨mapV Ao0_1,92,2,o0.fplaces.length,o0.fplaces.flatMap (mcell (fun x : ByteArray=>Value.string x) (fun x : Int=>Value.int .i64 x))⟩)::R,φ⟩) (fun i3=>m_peer_writer_bit_j1 o0 i3 = some r) ?_ (fun i3 u hm=>?_)
 ·
  refine c_seq<|c_region<|g_v rfl r_move<|g_nil<|d_then<|c_sta ⟨w0,M,(100020,g1,.cells #[Vp go0] 63 (0,0))::(1000,go0,.cells #[.slice Ao0_0 o0.fb.length co0_0,mapV Ao0_1] 94 (0,0))::H,(1000,⟨.slice Ao0_0 o0.fb.length co0_0,5,1,o0.fb.length,o0.fb.flatMap (fun x : Int=>[Value.int .u8 x])⟩)::(1001,⟨mapV Ao0_1,92,2,o0.fplaces.length,o0.fplaces.flatMap (mcell (fun x : ByteArray=>Value.string x) (fun x : Int=>Value.int .i64 x))⟩)::R,φ⟩ (fun _ h=>h) ?_
  refine c_cond rfl (fun h9=>?_) (fun h9=>?_)
  ·
   replace hm:=ite_t hm h9
   refine c_region<|g_v rfl r_assign<|g_nil ?_
   exact d_round 1 hm Nat.zero_lt_one ⟨rfl,rfl,trivial⟩ (fun W h=>h.phi (fun W hφ=>hφ))
  replace hm:=ite_f hm (bool_nt h9)
  refine c_skip ?_
  exact d_round 0 hm Nat.zero_lt_one ⟨rfl,rfl,trivial⟩ (fun W h=>h.phi (fun W hφ=>hφ))
 unfold m_peer_writer_bit_j1 at hm
 refine d_flat [(2,Vp g1),(4,.int .u8 i3)] ⟨rfl,rfl,trivial⟩ (fun u=>?_)
 refine d_sta ⟨w0,M,(100020,g1,.cells #[Vp go0] 63 (0,0))::(1000,go0,.cells #[.slice Ao0_0 o0.fb.length co0_0,mapV Ao0_1] 94 (0,0))::H,(1000,⟨.slice Ao0_0 o0.fb.length co0_0,5,1,o0.fb.length,o0.fb.flatMap (fun x : Int=>[Value.int .u8 x])⟩)::(1001,⟨mapV Ao0_1,92,2,o0.fplaces.length,o0.fplaces.flatMap (mcell (fun x : ByteArray=>Value.string x) (fun x : Int=>Value.int .i64 x))⟩)::R,φ⟩ (fun _ h=>h)<|d_then<|c_region<|g_v rfl (r_field (n:=0) Try.underlying63 rfl Try.sizeOf60 rfl rfl)<|g_v rfl (r_load (tag:=100020) rfl rfl rfl Try.isAgg60)<|g_v rfl r_move ?_
 replace hm:=bnd hm
 obtain ⟨x4,hx5,hm⟩:=hm
 refine g_cn ⟨w0,M,(1000,go0,.cells #[.slice Ao0_0 o0.fb.length co0_0,mapV Ao0_1] 94 (0,0))::(100020,g1,.cells #[Vp go0] 63 (0,0))::H,(1000,⟨.slice Ao0_0 o0.fb.length co0_0,5,1,o0.fb.length,o0.fb.flatMap (fun x : Int=>[Value.int .u8 x])⟩)::(1001,⟨mapV Ao0_1,92,2,o0.fplaces.length,o0.fplaces.flatMap (mcell (fun x : ByteArray=>Value.string x) (fun x : Int=>Value.int .i64 x))⟩)::R,φ⟩ (fun W h=>(ok_front (t:=1000) (t':=1000) (ok_frontR (t:=1000) (t':=1000) (ok_frontR (t:=1001) (t':=1001) h rfl) rfl) rfl)) Try.call24 rfl rfl (c_pack_Packer_Byte i3 go0 o0 Ao0_0 co0_0 hco0_0 Ao0_1 co0_1 trivial _ hx5) (fun ⟨A6,c7⟩ hc7=>?_)
 refine g_sta _ (fun W h=>(ok_frontR (t:=2000) (t':=1000) (ok_frontR (t:=1001) (t':=1001) (ok_front (t:=1000) (t':=1000) h rfl) rfl) rfl))<|g_nil ?_
 cases hm
 refine d_sta _ (fun W h=>ok_frontR (t:=1000) (t':=2000) h rfl) ?_
 exact d_retC (A6,c7) Try.results28 (res_nil rfl) hc7 (fun W h=>(h.dropH (t:=100020) rfl).phi (fun W hφ=>hφ)) (.inl rfl)
noncomputable def m_pack_Packer_Len (o0 : Gpack_Packer) : Option Int:=
  some (o0.fb.length : Int)
theorem c_pack_Packer_Len {w0 : World} {M : Nat→Prop} {H : List (Nat×Nat×Obj)} {R : List (Nat×Row)} {φ : World→Prop} (go0 : Nat) (o0 : Gpack_Packer) (Ao0_0 : Option Addr) (co0_0 : Nat) (hco0_0 : o0.fb.length ≤ co0_0) (Ao0_1 : Option Addr) (co0_1 : Nat) (hco0_1 : True) (r : Int) (hm : m_pack_Packer_Len o0 = some r) :
    Cn Try.prog 32 #[Vp go0] ⟨w0,M,(1000,go0,.cells #[.slice Ao0_0 o0.fb.length co0_0,mapV Ao0_1] 94 (0,0))::H,(1000,⟨.slice Ao0_0 o0.fb.length co0_0,5,1,o0.fb.length,o0.fb.flatMap (fun x : Int=>[Value.int .u8 x])⟩)::(1001,⟨mapV Ao0_1,92,2,o0.fplaces.length,o0.fplaces.flatMap (mcell (fun x : ByteArray=>Value.string x) (fun x : Int=>Value.int .i64 x))⟩)::R,φ⟩ (fun x : Unit=>Vi r) (fun x=>True) (fun x=>⟨w0,M,(1000,go0,.cells #[.slice Ao0_0 o0.fb.length co0_0,mapV Ao0_1] 94 (0,0))::H,(1000,⟨.slice Ao0_0 o0.fb.length co0_0,5,1,o0.fb.length,o0.fb.flatMap (fun x : Int=>[Value.int .u8 x])⟩)::(1001,⟨mapV Ao0_1,92,2,o0.fplaces.length,o0.fplaces.flatMap (mcell (fun x : ByteArray=>Value.string x) (fun x : Int=>Value.int .i64 x))⟩)::R,φ⟩):=by
 unfold m_pack_Packer_Len at hm
 refine cn_intro (fn:=Try.f32) (N:=10) Try.func32 rfl Try.ntmps32 rfl<|c_seq<|c_region<|g_v rfl r_assign<|g_nil<|d_then<|c_seq<|c_seq<|c_region<|g_v rfl r_move ?_
 refine g_v rfl (r_eqlP1 Try.underlying60 rfl rfl)<|g_nil<|d_then<|c_cond0 rfl rfl<|c_skip<|d_then<|c_seq<|c_region<|g_v rfl r_move<|g_v rfl (r_nilck rfl) ?_
 refine g_v rfl (r_field (n:=0) Try.underlying94 rfl Try.sizeOf91 rfl rfl)<|g_v rfl (r_load (tag:=1000) rfl rfl rfl Try.isAgg91)<|g_v rfl (r_lenL Try.underlying91 rfl)<|g_v rfl r_assign<|g_nil<|d_then ?_
 refine c_flat [(2,Vi (o0.fb.length : Int))] ⟨rfl,trivial⟩ (fun u=>?_)
 refine c_sta ⟨w0,M,(1000,go0,.cells #[.slice Ao0_0 o0.fb.length co0_0,mapV Ao0_1] 94 (0,0))::H,(1000,⟨.slice Ao0_0 o0.fb.length co0_0,5,1,o0.fb.length,o0.fb.flatMap (fun x : Int=>[Value.int .u8 x])⟩)::(1001,⟨mapV Ao0_1,92,2,o0.fplaces.length,o0.fplaces.flatMap (mcell (fun x : ByteArray=>Value.string x) (fun x : Int=>Value.int .i64 x))⟩)::R,φ⟩ (fun _ h=>h)<|c_ret ?_
 cases hm
 exact d_retC () Try.results32 (res_tmp (res_nil rfl)) trivial (fun W h=>h.phi (fun W hφ=>hφ)) (.inr rfl)
noncomputable def m_pack_Packer_Patch (p1 : Int) (p2 : Int) (o0 : Gpack_Packer) : Option (Int×Gpack_Packer):=
  if p1 < 0 then
    some (1,o0)
  else
    if w64 ((o0.fb.length : Int) - 2) < p1 then
      some (1,o0)
    else
      (at_ o0.fb p1).bind fun x31=>
      (setAt o0.fb p1 (IntKind.u8.wrap (p2 / 256))).bind fun l35=>
      (at_ l35 (w64 (p1 + 1))).bind fun x38=>
      (setAt l35 (w64 (p1 + 1)) (IntKind.u8.wrap p2)).bind fun l42=>
      some (0,(⟨l42,o0.fplaces⟩ : Gpack_Packer))
theorem c_pack_Packer_Patch {w0 : World} {M : Nat→Prop} {H : List (Nat×Nat×Obj)} {R : List (Nat×Row)} {φ : World→Prop} (p1 : Int) (p2 : Int) (go0 : Nat) (o0 : Gpack_Packer) (Ao0_0 : Option Addr) (co0_0 : Nat) (hco0_0 : o0.fb.length ≤ co0_0) (Ao0_1 : Option Addr) (co0_1 : Nat) (hco0_1 : True) (r : Int×Gpack_Packer) (hm : m_pack_Packer_Patch p1 p2 o0 = some r) :
    Cn Try.prog 87 #[Vp go0,Vi p1,Vu p2] ⟨w0,M,(1000,go0,.cells #[.slice Ao0_0 o0.fb.length co0_0,mapV Ao0_1] 94 (0,0))::H,(1000,⟨.slice Ao0_0 o0.fb.length co0_0,5,1,o0.fb.length,o0.fb.flatMap (fun x : Int=>[Value.int .u8 x])⟩)::(1001,⟨mapV Ao0_1,92,2,o0.fplaces.length,o0.fplaces.flatMap (mcell (fun x : ByteArray=>Value.string x) (fun x : Int=>Value.int .i64 x))⟩)::R,φ⟩ (fun x : Option Addr×Nat=>Vi r.1) (fun x=>r.2.fb.length ≤ x.2) (fun x=>⟨w0,M,(1000,go0,.cells #[.slice x.1 r.2.fb.length x.2,mapV Ao0_1] 94 (0,0))::H,(2000,⟨.slice x.1 r.2.fb.length x.2,5,1,r.2.fb.length,r.2.fb.flatMap (fun x : Int=>[Value.int .u8 x])⟩)::(1001,⟨mapV Ao0_1,92,2,o0.fplaces.length,o0.fplaces.flatMap (mcell (fun x : ByteArray=>Value.string x) (fun x : Int=>Value.int .i64 x))⟩)::R,φ⟩):=by
 unfold m_pack_Packer_Patch at hm
 refine cn_intro (fn:=Try.f87) (N:=41) Try.func87 rfl Try.ntmps87 rfl<|c_seq<|c_region<|g_v rfl r_assign<|g_nil<|d_then<|c_seq<|c_seq<|c_region<|g_v rfl r_move ?_
 refine g_v rfl (r_eqlP1 Try.underlying60 rfl rfl)<|g_v rfl r_move<|g_do rfl rfl rfl rfl rfl rfl<|g_v rfl r_move<|g_do rfl rfl rfl rfl rfl rfl<|g_v rfl (r_lss rfl rfl)<|g_v rfl (r_pick0 rfl rfl)<|g_v rfl r_move<|g_sta ⟨w0,M,(1000,go0,.cells #[.slice Ao0_0 o0.fb.length co0_0,mapV Ao0_1] 94 (0,0))::H,(1000,⟨.slice Ao0_0 o0.fb.length co0_0,5,1,o0.fb.length,o0.fb.flatMap (fun x : Int=>[Value.int .u8 x])⟩)::(1001,⟨mapV Ao0_1,92,2,o0.fplaces.length,o0.fplaces.flatMap (mcell (fun x : ByteArray=>Value.string x) (fun x : Int=>Value.int .i64 x))⟩)::R,φ⟩ (fun _ h=>h) ?_
 refine g_if rfl rfl rfl rfl rfl (fun h1=>?_) (fun h1=>?_)
 ·
  replace hm:=ite_f hm (of_decide_eq_false h1)
  refine g_v rfl r_move<|g_do rfl rfl rfl rfl rfl h1<|g_v rfl r_move<|g_do rfl rfl rfl rfl rfl h1<|g_v rfl (r_nilck rfl)<|g_do rfl rfl rfl rfl rfl h1<|g_v rfl (r_field (n:=0) Try.underlying94 rfl Try.sizeOf91 rfl rfl)<|g_do rfl rfl rfl rfl rfl h1<|g_v rfl (r_load (tag:=1000) rfl rfl rfl Try.isAgg91)<|g_do rfl rfl rfl rfl rfl h1 ?_
  refine g_v rfl (r_lenL Try.underlying91 rfl)<|g_do rfl rfl rfl rfl rfl h1<|g_v rfl (r_sub rfl rfl rfl)<|g_do rfl rfl rfl rfl rfl h1<|g_v rfl (r_gtr rfl rfl)<|g_v rfl (r_pick0 rfl h1)<|g_nil<|d_then ?_
  refine c_flat [(0,Vp go0),(1,Vi p1),(2,Vu p2),(22,.bool (decide (w64 ((o0.fb.length : Int) - 2) < p1)))] ⟨rfl,rfl,rfl,rfl,trivial⟩ (fun u=>?_)
  refine c_cond rfl (fun h2=>?_) (fun h2=>?_)
  ·
   replace hm:=ite_t hm (of_decide_eq_true h2)
   refine c_seq<|c_region<|g_v rfl r_assign<|g_nil<|d_then<|c_ret<|d_ret_then ?_
   cases hm
   refine d_sta _ (fun W h=>ok_frontR (t:=1000) (t':=2000) h rfl) ?_
   exact d_retC (Ao0_0,co0_0) Try.results87 (res_tmp (res_nil rfl)) hco0_0 (fun W h=>h.phi (fun W hφ=>hφ)) (.inr rfl)
  replace hm:=ite_f hm (of_decide_eq_false h2)
  refine c_skip<|d_then<|c_seq<|ga_start (n:=20) ⟨w0,M,(1000,go0,.cells #[.slice Ao0_0 o0.fb.length co0_0,mapV Ao0_1] 94 (0,0))::H,(1001,⟨mapV Ao0_1,92,2,o0.fplaces.length,o0.fplaces.flatMap (mcell (fun x : ByteArray=>Value.string x) (fun x : Int=>Value.int .i64 x))⟩)::R,φ⟩ [] #[false,false,false,false,false,false,false,false,false,false,false,false,false,false,false,false,false,false,false,false] (fun W h=>(h.dropR (t:=1000) rfl).phi (fun W hφ=>hφ)) mixed rfl rfl<|ga_v (i:=0) (bz 20 1) rfl (by kernel_rfl) (fun _ _ _ _ h=>h) rfl (r_move)<|ga_v (i:=1) (bz 20 3) rfl (by kernel_rfl) (fun _ _ _ _ h=>h) rfl (r_nilck rfl)<|ga_v (i:=2) (bz 20 7) rfl (by kernel_rfl) (fun _ _ _ _ h=>h) rfl (r_field (n:=0) Try.underlying94 rfl Try.sizeOf91 rfl rfl)<|ga_v (i:=3) (bz 20 15) rfl (by kernel_rfl) (fun _ _ _ _ h=>h) rfl (r_load (tag:=1000) rfl rfl rfl Try.isAgg91)<|ga_v (i:=4) (bz 20 31) rfl (by kernel_rfl) (fun _ _ _ _ h=>h) rfl (r_move)<|ga_v (i:=5) (bz 20 63) rfl (by kernel_rfl) (fun _ _ _ _ h=>h) rfl (r_move) ?_
  refine ga_v (i:=6) (bz 20 127) rfl (by kernel_rfl) (fun _ _ _ _ h=>h) rfl (r_nilck rfl)<|ga_v (i:=7) (bz 20 255) rfl (by kernel_rfl) (fun _ _ _ _ h=>h) rfl (r_field (n:=0) Try.underlying94 rfl Try.sizeOf91 rfl rfl)<|ga_v (i:=8) (bz 20 511) rfl (by kernel_rfl) (fun _ _ _ _ h=>h) rfl (r_load (tag:=1000) rfl rfl rfl Try.isAgg91)<|ga_v (i:=9) (bz 20 1023) rfl (by kernel_rfl) (fun _ _ _ _ h=>h) rfl (r_move)<|ga_v (i:=10) (bz 20 2047) rfl (by kernel_rfl) (fun _ _ _ _ h=>h) rfl (r_add rfl rfl rfl)<|ga_v (i:=11) (bz 20 4095) rfl (by kernel_rfl) (fun _ _ _ _ h=>h) rfl (r_move)<|ga_v (i:=12) (bz 20 8191) rfl (by kernel_rfl) (fun _ _ _ _ h=>h) rfl (r_shr (n:=256) rfl rfl (by decide) (by decide) (by decide))<|ga_v (i:=13) (bz 20 16383) rfl (by kernel_rfl) (fun _ _ _ _ h=>h) rfl (r_conv Try.underlying22 Try.underlying5 rfl rfl)<|ga_v (i:=14) (bz 20 32767) rfl (by kernel_rfl) (fun _ _ _ _ h=>h) rfl (r_move)<|ga_v (i:=15) (bz 20 65535) rfl (by kernel_rfl) (fun _ _ _ _ h=>h) rfl (r_conv Try.underlying22 Try.underlying5 rfl rfl) ?_
  replace hm:=bnd hm
  obtain ⟨x31,hx31,hm⟩:=hm
  refine ga_know _ (fun W hS=>cl_at (p:=(Sta.ok ⟨w0,M,(1000,go0,.cells #[.slice Ao0_0 o0.fb.length co0_0,mapV Ao0_1] 94 (0,0))::H,(1000,⟨.slice Ao0_0 o0.fb.length co0_0,5,1,o0.fb.length,o0.fb.flatMap (fun x : Int=>[Value.int .u8 x])⟩)::(1001,⟨mapV Ao0_1,92,2,o0.fplaces.length,o0.fplaces.flatMap (mcell (fun x : ByteArray=>Value.string x) (fun x : Int=>Value.int .i64 x))⟩)::R,φ⟩)) (sz:=1) (fun _=>rfl) (by decide) hS (fun W hS=>rowCl (S:=⟨w0,M,(1000,go0,.cells #[.slice Ao0_0 o0.fb.length co0_0,mapV Ao0_1] 94 (0,0))::H,(1000,⟨.slice Ao0_0 o0.fb.length co0_0,5,1,o0.fb.length,o0.fb.flatMap (fun x : Int=>[Value.int .u8 x])⟩)::(1001,⟨mapV Ao0_1,92,2,o0.fplaces.length,o0.fplaces.flatMap (mcell (fun x : ByteArray=>Value.string x) (fun x : Int=>Value.int .i64 x))⟩)::R,φ⟩) (tag:=1000) rfl W hS) hx31) ?_
  rintro ⟨ad32,hA34,f33⟩
  refine ga_r (i:=16) (bz 20 131071) rfl (by kernel_rfl) (by decide) rfl (r_ix Try.underlying91 Try.sizeOf5 rfl hA34 rfl hx31) ?_
  replace hm:=bnd hm
  obtain ⟨l35,hl35,hm⟩:=hm
  refine ga_s (i:=17) (bz 20 262143) rfl (by kernel_rfl) (by decide) (e_stR (tag:=1000) (enc:=(fun x : Int=>[Value.int .u8 x])) (l:=o0.fb) (off:=0) (vs:=[.int .u8 (IntKind.u8.wrap (p2 / 256))]) (add0 rfl) hA34 rfl rfl hx31 hl35 rfl (Nat.le_of_ble_eq_true rfl) (fun _=>rfl) rfl rfl Try.sizeOf5) (fun W h=>(h.dropR (t:=1000) rfl).phi (fun W hφ=>hφ)) ?_
  rw [show o0.fb.length = l35.length from (setAt_lenE hl35).symm]
  have hv37:=setAt_at hl35
  have f36:=cl_at2 (p:=(Sta.ok ⟨w0,M,(1000,go0,.cells #[.slice Ao0_0 l35.length co0_0,mapV Ao0_1] 94 (0,0))::H,(1000,⟨.slice Ao0_0 l35.length co0_0,5,1,l35.length,l35.flatMap (fun x : Int=>[Value.int .u8 x])⟩)::(1001,⟨mapV Ao0_1,92,2,o0.fplaces.length,o0.fplaces.flatMap (mcell (fun x : ByteArray=>Value.string x) (fun x : Int=>Value.int .i64 x))⟩)::R,φ⟩)) (enc:=(fun x : Int=>[Value.int .u8 x])) (sz:=1) (fun _=>rfl) hA34 (fun W hS=>rowCl (S:=⟨w0,M,(1000,go0,.cells #[.slice Ao0_0 l35.length co0_0,mapV Ao0_1] 94 (0,0))::H,(1000,⟨.slice Ao0_0 l35.length co0_0,5,1,l35.length,l35.flatMap (fun x : Int=>[Value.int .u8 x])⟩)::(1001,⟨mapV Ao0_1,92,2,o0.fplaces.length,o0.fplaces.flatMap (mcell (fun x : ByteArray=>Value.string x) (fun x : Int=>Value.int .i64 x))⟩)::R,φ⟩) (tag:=1000) rfl W hS) hv37
  replace hm:=bnd hm
  obtain ⟨x38,hx38,hm⟩:=hm
  refine ga_know _ (fun W hS=>cl_at (p:=(Sta.ok ⟨w0,M,(1000,go0,.cells #[.slice Ao0_0 l35.length co0_0,mapV Ao0_1] 94 (0,0))::H,(1000,⟨.slice Ao0_0 l35.length co0_0,5,1,l35.length,l35.flatMap (fun x : Int=>[Value.int .u8 x])⟩)::(1001,⟨mapV Ao0_1,92,2,o0.fplaces.length,o0.fplaces.flatMap (mcell (fun x : ByteArray=>Value.string x) (fun x : Int=>Value.int .i64 x))⟩)::R,φ⟩)) (sz:=1) (fun _=>rfl) (by decide) hS (fun W hS=>rowCl (S:=⟨w0,M,(1000,go0,.cells #[.slice Ao0_0 l35.length co0_0,mapV Ao0_1] 94 (0,0))::H,(1000,⟨.slice Ao0_0 l35.length co0_0,5,1,l35.length,l35.flatMap (fun x : Int=>[Value.int .u8 x])⟩)::(1001,⟨mapV Ao0_1,92,2,o0.fplaces.length,o0.fplaces.flatMap (mcell (fun x : ByteArray=>Value.string x) (fun x : Int=>Value.int .i64 x))⟩)::R,φ⟩) (tag:=1000) rfl W hS) hx38) ?_
  rintro ⟨ad39,hA41,f40⟩
  refine ga_r (i:=18) (bz 20 524287) rfl (by kernel_rfl) (by decide) rfl (r_ix Try.underlying91 Try.sizeOf5 rfl hA41 rfl hx38) ?_
  replace hm:=bnd hm
  obtain ⟨l42,hl42,hm⟩:=hm
  refine ga_s (i:=19) (bz 20 1048575) rfl (by kernel_rfl) (by decide) (e_stR (tag:=1000) (enc:=(fun x : Int=>[Value.int .u8 x])) (l:=l35) (off:=0) (vs:=[.int .u8 (IntKind.u8.wrap p2)]) (add0 rfl) hA41 rfl rfl hx38 hl42 rfl (Nat.le_of_ble_eq_true rfl) (fun _=>rfl) rfl rfl Try.sizeOf5) (fun W h=>(h.dropR (t:=1000) rfl).phi (fun W hφ=>hφ)) ?_
  rw [show l35.length = l42.length from (setAt_lenE hl42).symm]
  have hv44:=setAt_at hl42
  have f43:=cl_at2 (p:=(Sta.ok ⟨w0,M,(1000,go0,.cells #[.slice Ao0_0 l42.length co0_0,mapV Ao0_1] 94 (0,0))::H,(1000,⟨.slice Ao0_0 l42.length co0_0,5,1,l42.length,l42.flatMap (fun x : Int=>[Value.int .u8 x])⟩)::(1001,⟨mapV Ao0_1,92,2,o0.fplaces.length,o0.fplaces.flatMap (mcell (fun x : ByteArray=>Value.string x) (fun x : Int=>Value.int .i64 x))⟩)::R,φ⟩)) (enc:=(fun x : Int=>[Value.int .u8 x])) (sz:=1) (fun _=>rfl) hA41 (fun W hS=>rowCl (S:=⟨w0,M,(1000,go0,.cells #[.slice Ao0_0 l42.length co0_0,mapV Ao0_1] 94 (0,0))::H,(1000,⟨.slice Ao0_0 l42.length co0_0,5,1,l42.length,l42.flatMap (fun x : Int=>[Value.int .u8 x])⟩)::(1001,⟨mapV Ao0_1,92,2,o0.fplaces.length,o0.fplaces.flatMap (mcell (fun x : ByteArray=>Value.string x) (fun x : Int=>Value.int .i64 x))⟩)::R,φ⟩) (tag:=1000) rfl W hS) hv44
  refine ga_done (by kernel_rfl)<|d_then ?_
  refine c_flat [] trivial (fun u=>?_)
  refine c_sta ⟨w0,M,(1000,go0,.cells #[.slice Ao0_0 l42.length co0_0,mapV Ao0_1] 94 (0,0))::H,(1000,⟨.slice Ao0_0 l42.length co0_0,5,1,l42.length,l42.flatMap (fun x : Int=>[Value.int .u8 x])⟩)::(1001,⟨mapV Ao0_1,92,2,o0.fplaces.length,o0.fplaces.flatMap (mcell (fun x : ByteArray=>Value.string x) (fun x : Int=>Value.int .i64 x))⟩)::R,φ⟩ (fun _ h=>h)<|c_seq<|c_region<|g_v rfl r_assign<|g_nil<|d_then<|c_ret ?_
  cases hm
  refine d_sta _ (fun W h=>ok_frontR (t:=1000) (t':=2000) h rfl) ?_
  exact d_retC (Ao0_0,co0_0) Try.results87 (res_tmp (res_nil rfl)) (setAt_len (setAt_len hco0_0 hl35) hl42) (fun W h=>h.phi (fun W hφ=>hφ)) (.inr rfl)
 replace hm:=ite_t hm (of_decide_eq_true h1)
 iterate 7 refine g_no rfl rfl rfl rfl rfl h1 ?_
 refine g_v rfl (r_pick1 rfl h1)<|g_nil<|d_then ?_
 refine c_flat [(0,Vp go0),(1,Vi p1),(2,Vu p2),(22,.bool true)] ⟨rfl,rfl,rfl,rfl,trivial⟩ (fun u=>?_)
 refine c_cond1 rfl rfl<|c_seq<|c_region<|g_v rfl r_assign<|g_nil<|d_then<|c_ret<|d_ret_then ?_
 cases hm
 refine d_sta _ (fun W h=>ok_frontR (t:=1000) (t':=2000) h rfl) ?_
 exact d_retC (Ao0_0,co0_0) Try.results87 (res_tmp (res_nil rfl)) hco0_0 (fun W h=>h.phi (fun W hφ=>hφ)) (.inr rfl)
noncomputable def m_record_Put_j1 (x30 : Int) (l123 : List Int) (l126 : List (ByteArray×Int)) : Option (Int×Gpack_Packer):=
  (m_pack_Packer_Len (⟨l123,l126⟩ : Gpack_Packer)).bind fun x129=>
  (m_pack_Packer_Patch x30 (IntKind.u16.wrap (w64 ((w64 (x129 - x30)) - 2))) (⟨l123,l126⟩ : Gpack_Packer)).bind fun (z137 : Int×Gpack_Packer)=>
  some (z137.1,(⟨z137.2.fb,l126⟩ : Gpack_Packer))
noncomputable def m_record_Put_j2 (x139 : Grecord_parts) (x30 : Int) (l205 : List Int) (l208 : List (ByteArray×Int)) : Option (Int×Gpack_Packer):=
  (m_pack_Packer_Raw x139.fbehind (⟨l205,l208⟩ : Gpack_Packer)).bind fun x211=>
  m_record_Put_j1 x30 x211.fb l208
noncomputable def m_record_Put_s3 (x139 : Grecord_parts) (l238 : List Int) (l241 : List (ByteArray×Int)) (i244 : Int) : Option (((List Int)×(List (ByteArray×Int))×Int) ⊕ ((List Int)×(List (ByteArray×Int)))):=
  if i244 < (x139.fnames.length : Int) then
    (at_ x139.fnames i244).bind fun x269=>
    (m_pack_Packer_Name x269 true (⟨l238,l241⟩ : Gpack_Packer)).bind fun (z282 : Int×Gpack_Packer)=>
    some (.inl (z282.2.fb,z282.2.fplaces,w64 (i244 + 1)))
  else
    some (.inr (l238,l241))
noncomputable def m_record_Put (p1 : GRR) (o0 : Gpack_Packer) : Option (Int×Gpack_Packer):=
  (m_record_Check p1).bind fun x2=>
  if x2 ≠ 0 then
    some (x2,o0)
  else
    (m_pack_Packer_Name p1.fName true o0).bind fun (z14 : Int×Gpack_Packer)=>
    (m_pack_Packer_Word p1.fType z14.2).bind fun x15=>
    (m_pack_Packer_Word p1.fClass (⟨x15.fb,z14.2.fplaces⟩ : Gpack_Packer)).bind fun x20=>
    (m_pack_Packer_Long p1.fTTL (⟨x20.fb,z14.2.fplaces⟩ : Gpack_Packer)).bind fun x25=>
    (m_pack_Packer_Len (⟨x25.fb,z14.2.fplaces⟩ : Gpack_Packer)).bind fun x30=>
    (m_pack_Packer_Word 0 (⟨x25.fb,z14.2.fplaces⟩ : Gpack_Packer)).bind fun x32=>
    (m_record_shapeOf p1.fType).bind fun x37=>
    if 0 < x37.fnames then
      (m_record_shape_cut x37 p1.fData).bind fun (z146 : Grecord_parts×Bool)=>
      (m_pack_Packer_Raw z146.1.fahead (⟨x32.fb,z14.2.fplaces⟩ : Gpack_Packer)).bind fun x148=>
      (loop (fun s=>m_record_Put_s3 z146.1 s.1 s.2.1 s.2.2) (x148.fb,z14.2.fplaces,0)).bind fun e=>m_record_Put_j2 z146.1 x30 e.1 e.2
    else
      (m_pack_Packer_Raw p1.fData (⟨x32.fb,z14.2.fplaces⟩ : Gpack_Packer)).bind fun x284=>
      m_record_Put_j1 x30 x284.fb z14.2.fplaces
theorem c_record_Put {w0 : World} {M : Nat→Prop} {H : List (Nat×Nat×Obj)} {R : List (Nat×Row)} {φ : World→Prop} (p1 : GRR) (go0 : Nat) (o0 : Gpack_Packer) (Ao0_0 : Option Addr) (co0_0 : Nat) (hco0_0 : o0.fb.length ≤ co0_0) (Ao0_1 : Option Addr) (co0_1 : Nat) (hco0_1 : True) (r : Int×Gpack_Packer) (hm : m_record_Put p1 o0 = some r) :
    Cn Try.prog 53 #[Vp go0,.agg #[Vs p1.fName,Vu p1.fType,Vu p1.fClass,.int .u32 p1.fTTL,Vs p1.fData]] ⟨w0,M,(1000,go0,.cells #[.slice Ao0_0 o0.fb.length co0_0,mapV Ao0_1] 94 (0,0))::H,(1000,⟨.slice Ao0_0 o0.fb.length co0_0,5,1,o0.fb.length,o0.fb.flatMap (fun x : Int=>[Value.int .u8 x])⟩)::(1001,⟨mapV Ao0_1,92,2,o0.fplaces.length,o0.fplaces.flatMap (mcell (fun x : ByteArray=>Value.string x) (fun x : Int=>Value.int .i64 x))⟩)::R,φ⟩ (fun x : Option Addr×Nat×Option Addr×Nat=>Vi r.1) (fun x=>r.2.fb.length ≤ x.2.1∧True) (fun x=>⟨w0,M,(1000,go0,.cells #[.slice x.1 r.2.fb.length x.2.1,mapV x.2.2.1] 94 (0,0))::H,(2000,⟨.slice x.1 r.2.fb.length x.2.1,5,1,r.2.fb.length,r.2.fb.flatMap (fun x : Int=>[Value.int .u8 x])⟩)::(2001,⟨mapV x.2.2.1,92,2,r.2.fplaces.length,r.2.fplaces.flatMap (mcell (fun x : ByteArray=>Value.string x) (fun x : Int=>Value.int .i64 x))⟩)::R,φ⟩):=by
 unfold m_record_Put at hm
 refine cn_intro (fn:=Try.f53) (N:=84) Try.func53 rfl Try.ntmps53 rfl<|c_seq<|c_region ?_
 refine g_e rfl (e_box 100030 rfl) (fun g1 _=>?_)
 refine g_v rfl r_assign<|g_nil<|d_then<|c_seq<|c_seq<|c_region<|g_v rfl r_move<|g_v rfl (r_eqlP1 Try.underlying60 rfl rfl)<|g_nil<|d_then ?_
 refine c_cond0 rfl rfl<|c_skip<|d_then<|c_seq<|c_region<|g_v rfl (r_loadA (tag:=100030) rfl rfl Try.isAgg54 Try.sizeOf54 rfl rfl) ?_
 replace hm:=bnd hm
 obtain ⟨x2,hx3,hm⟩:=hm
 refine g_cn ⟨w0,M,_,_,φ⟩ (fun _ h=>h) Try.call84 rfl rfl (c_record_Check p1 _ hx3) (fun _ _=>?_)
 refine g_v rfl r_assign<|g_nil<|d_then<|c_seq<|c_seq<|c_region<|g_v rfl r_move<|g_v rfl (r_neq rfl rfl)<|g_nil<|d_then ?_
 refine c_flat [(0,Vp go0),(3,Vp g1),(5,Vi x2),(17,.bool (decide (x2 ≠ 0)))] ⟨rfl,rfl,rfl,rfl,trivial⟩ (fun u=>?_)
 refine c_sta ⟨w0,M,(100030,g1,.cells #[Vs p1.fName,Vu p1.fType,Vu p1.fClass,.int .u32 p1.fTTL,Vs p1.fData] 54 (0,0))::(1000,go0,.cells #[.slice Ao0_0 o0.fb.length co0_0,mapV Ao0_1] 94 (0,0))::H,(1000,⟨.slice Ao0_0 o0.fb.length co0_0,5,1,o0.fb.length,o0.fb.flatMap (fun x : Int=>[Value.int .u8 x])⟩)::(1001,⟨mapV Ao0_1,92,2,o0.fplaces.length,o0.fplaces.flatMap (mcell (fun x : ByteArray=>Value.string x) (fun x : Int=>Value.int .i64 x))⟩)::R,φ⟩ (fun _ h=>h) ?_
 refine c_cond rfl (fun h4=>?_) (fun h4=>?_)
 ·
  replace hm:=ite_t hm (of_decide_eq_true h4)
  refine c_seq<|c_region<|g_v rfl r_move<|g_v rfl r_assign<|g_nil<|d_then<|c_ret<|d_ret_then ?_
  cases hm
  refine d_sta _ (fun W h=>ok_frontR (t:=1001) (t':=2001) h rfl)<|d_sta _ (fun W h=>ok_frontR (t:=1000) (t':=2000) h rfl) ?_
  exact d_retC (Ao0_0,co0_0,Ao0_1,co0_1) Try.results53 (res_tmp (res_nil rfl)) ⟨hco0_0,hco0_1⟩ (fun W h=>(h.dropH (t:=100030) rfl).phi (fun W hφ=>hφ)) (.inr rfl)
 replace hm:=ite_f hm (of_decide_eq_false h4)
 refine c_skip<|d_then<|c_seq<|c_region<|g_v rfl r_move<|g_v rfl (r_field (n:=0) Try.underlying54 rfl Try.sizeOf9 rfl rfl)<|g_v rfl (r_load (tag:=100030) rfl rfl rfl Try.isAgg9) ?_
 replace hm:=bnd hm
 obtain ⟨⟨x5,x6⟩,hx7,hm⟩:=hm
 refine g_cn ⟨w0,M,(1000,go0,.cells #[.slice Ao0_0 o0.fb.length co0_0,mapV Ao0_1] 94 (0,0))::(100030,g1,.cells #[Vs p1.fName,Vu p1.fType,Vu p1.fClass,.int .u32 p1.fTTL,Vs p1.fData] 54 (0,0))::H,(1000,⟨.slice Ao0_0 o0.fb.length co0_0,5,1,o0.fb.length,o0.fb.flatMap (fun x : Int=>[Value.int .u8 x])⟩)::(1001,⟨mapV Ao0_1,92,2,o0.fplaces.length,o0.fplaces.flatMap (mcell (fun x : ByteArray=>Value.string x) (fun x : Int=>Value.int .i64 x))⟩)::R,φ⟩ (fun W h=>(ok_front (t:=1000) (t':=1000) (ok_frontR (t:=1000) (t':=1000) (ok_frontR (t:=1001) (t':=1001) h rfl) rfl) rfl)) Try.call26 rfl rfl (c_pack_Packer_Name p1.fName true go0 o0 Ao0_0 co0_0 hco0_0 Ao0_1 co0_1 trivial _ hx7) (fun ⟨A8,c9,A11,c12⟩ ⟨hc9,hc12⟩=>?_)
 refine g_sta _ (fun W h=>(ok_frontR (t:=2000) (t':=1000) (ok_frontR (t:=2001) (t':=1001) (ok_front (t:=1000) (t':=1000) h rfl) rfl) rfl))<|g_nil<|d_then<|c_seq<|c_region<|g_v rfl r_move<|g_v rfl (r_field (n:=1) Try.underlying54 rfl Try.sizeOf22 rfl rfl)<|g_v rfl (r_load (tag:=100030) rfl rfl rfl Try.isAgg22) ?_
 replace hm:=bnd hm
 obtain ⟨x15,hx16,hm⟩:=hm
 refine g_cn ⟨w0,M,(1000,go0,.cells #[.slice A8 x6.fb.length c9,mapV A11] 94 (0,0))::(100030,g1,.cells #[Vs p1.fName,Vu p1.fType,Vu p1.fClass,.int .u32 p1.fTTL,Vs p1.fData] 54 (0,0))::H,(1000,⟨.slice A8 x6.fb.length c9,5,1,x6.fb.length,x6.fb.flatMap (fun x : Int=>[Value.int .u8 x])⟩)::(1001,⟨mapV A11,92,2,x6.fplaces.length,x6.fplaces.flatMap (mcell (fun x : ByteArray=>Value.string x) (fun x : Int=>Value.int .i64 x))⟩)::R,φ⟩ (fun W h=>(ok_front (t:=1000) (t':=1000) (ok_frontR (t:=1000) (t':=1000) (ok_frontR (t:=1001) (t':=1001) h rfl) rfl) rfl)) Try.call27 rfl rfl (c_pack_Packer_Word p1.fType go0 x6 A8 c9 hc9 A11 c12 trivial _ hx16) (fun ⟨A17,c18⟩ hc18=>?_)
 refine g_sta _ (fun W h=>(ok_frontR (t:=2000) (t':=1000) (ok_frontR (t:=1001) (t':=1001) (ok_front (t:=1000) (t':=1000) h rfl) rfl) rfl))<|g_nil<|d_then<|c_seq<|c_region<|g_v rfl r_move<|g_v rfl (r_field (n:=2) Try.underlying54 rfl Try.sizeOf22 rfl rfl)<|g_v rfl (r_load (tag:=100030) rfl rfl rfl Try.isAgg22) ?_
 replace hm:=bnd hm
 obtain ⟨x20,hx21,hm⟩:=hm
 refine g_cn ⟨w0,M,(1000,go0,.cells #[.slice A17 x15.fb.length c18,mapV A11] 94 (0,0))::(100030,g1,.cells #[Vs p1.fName,Vu p1.fType,Vu p1.fClass,.int .u32 p1.fTTL,Vs p1.fData] 54 (0,0))::H,(1000,⟨.slice A17 x15.fb.length c18,5,1,x15.fb.length,x15.fb.flatMap (fun x : Int=>[Value.int .u8 x])⟩)::(1001,⟨mapV A11,92,2,x6.fplaces.length,x6.fplaces.flatMap (mcell (fun x : ByteArray=>Value.string x) (fun x : Int=>Value.int .i64 x))⟩)::R,φ⟩ (fun W h=>(ok_front (t:=1000) (t':=1000) (ok_frontR (t:=1000) (t':=1000) (ok_frontR (t:=1001) (t':=1001) h rfl) rfl) rfl)) Try.call27 rfl rfl (c_pack_Packer_Word p1.fClass go0 (⟨x15.fb,x6.fplaces⟩ : Gpack_Packer) A17 c18 hc18 A11 c12 trivial _ hx21) (fun ⟨A22,c23⟩ hc23=>?_)
 refine g_sta _ (fun W h=>(ok_frontR (t:=2000) (t':=1000) (ok_frontR (t:=1001) (t':=1001) (ok_front (t:=1000) (t':=1000) h rfl) rfl) rfl))<|g_nil<|d_then ?_
 refine c_flat [(0,Vp go0),(3,Vp g1)] ⟨rfl,rfl,trivial⟩ (fun u=>?_)
 refine c_sta ⟨w0,M,(1000,go0,.cells #[.slice A22 x20.fb.length c23,mapV A11] 94 (0,0))::(100030,g1,.cells #[Vs p1.fName,Vu p1.fType,Vu p1.fClass,.int .u32 p1.fTTL,Vs p1.fData] 54 (0,0))::H,(1000,⟨.slice A22 x20.fb.length c23,5,1,x20.fb.length,x20.fb.flatMap (fun x : Int=>[Value.int .u8 x])⟩)::(1001,⟨mapV A11,92,2,x6.fplaces.length,x6.fplaces.flatMap (mcell (fun x : ByteArray=>Value.string x) (fun x : Int=>Value.int .i64 x))⟩)::R,φ⟩ (fun _ h=>h)<|c_seq<|c_region<|g_v rfl r_move<|g_v rfl (r_field (n:=3) Try.underlying54 rfl Try.sizeOf52 rfl rfl)<|g_v rfl (r_load (tag:=100030) rfl rfl rfl Try.isAgg52) ?_
 replace hm:=bnd hm
 obtain ⟨x25,hx26,hm⟩:=hm
 refine g_cn ⟨w0,M,(1000,go0,.cells #[.slice A22 x20.fb.length c23,mapV A11] 94 (0,0))::(100030,g1,.cells #[Vs p1.fName,Vu p1.fType,Vu p1.fClass,.int .u32 p1.fTTL,Vs p1.fData] 54 (0,0))::H,(1000,⟨.slice A22 x20.fb.length c23,5,1,x20.fb.length,x20.fb.flatMap (fun x : Int=>[Value.int .u8 x])⟩)::(1001,⟨mapV A11,92,2,x6.fplaces.length,x6.fplaces.flatMap (mcell (fun x : ByteArray=>Value.string x) (fun x : Int=>Value.int .i64 x))⟩)::R,φ⟩ (fun W h=>(ok_front (t:=1000) (t':=1000) (ok_frontR (t:=1000) (t':=1000) (ok_frontR (t:=1001) (t':=1001) h rfl) rfl) rfl)) Try.call51 rfl rfl (c_pack_Packer_Long p1.fTTL go0 (⟨x20.fb,x6.fplaces⟩ : Gpack_Packer) A22 c23 hc23 A11 c12 trivial _ hx26) (fun ⟨A27,c28⟩ hc28=>?_)
 refine g_sta _ (fun W h=>(ok_frontR (t:=2000) (t':=1000) (ok_frontR (t:=1001) (t':=1001) (ok_front (t:=1000) (t':=1000) h rfl) rfl) rfl))<|g_nil<|d_then<|c_seq<|c_region<|g_v rfl r_move ?_
 replace hm:=bnd hm
 obtain ⟨x30,hx31,hm⟩:=hm
 refine g_cn ⟨w0,M,(1000,go0,.cells #[.slice A27 x25.fb.length c28,mapV A11] 94 (0,0))::(100030,g1,.cells #[Vs p1.fName,Vu p1.fType,Vu p1.fClass,.int .u32 p1.fTTL,Vs p1.fData] 54 (0,0))::H,(1000,⟨.slice A27 x25.fb.length c28,5,1,x25.fb.length,x25.fb.flatMap (fun x : Int=>[Value.int .u8 x])⟩)::(1001,⟨mapV A11,92,2,x6.fplaces.length,x6.fplaces.flatMap (mcell (fun x : ByteArray=>Value.string x) (fun x : Int=>Value.int .i64 x))⟩)::R,φ⟩ (fun W h=>(ok_front (t:=1000) (t':=1000) (ok_frontR (t:=1000) (t':=1000) (ok_frontR (t:=1001) (t':=1001) h rfl) rfl) rfl)) Try.call32 rfl rfl (c_pack_Packer_Len go0 (⟨x25.fb,x6.fplaces⟩ : Gpack_Packer) A27 c28 hc28 A11 c12 trivial _ hx31) (fun _ _=>?_)
 refine g_sta _ (fun W h=>(ok_frontR (t:=1000) (t':=1000) (ok_frontR (t:=1001) (t':=1001) (ok_front (t:=1000) (t':=1000) h rfl) rfl) rfl))<|g_v rfl r_assign<|g_nil<|d_then<|c_seq<|c_region<|g_v rfl r_move ?_
 replace hm:=bnd hm
 obtain ⟨x32,hx33,hm⟩:=hm
 refine g_cn ⟨w0,M,(1000,go0,.cells #[.slice A27 x25.fb.length c28,mapV A11] 94 (0,0))::(100030,g1,.cells #[Vs p1.fName,Vu p1.fType,Vu p1.fClass,.int .u32 p1.fTTL,Vs p1.fData] 54 (0,0))::H,(1000,⟨.slice A27 x25.fb.length c28,5,1,x25.fb.length,x25.fb.flatMap (fun x : Int=>[Value.int .u8 x])⟩)::(1001,⟨mapV A11,92,2,x6.fplaces.length,x6.fplaces.flatMap (mcell (fun x : ByteArray=>Value.string x) (fun x : Int=>Value.int .i64 x))⟩)::R,φ⟩ (fun W h=>(ok_front (t:=1000) (t':=1000) (ok_frontR (t:=1000) (t':=1000) (ok_frontR (t:=1001) (t':=1001) h rfl) rfl) rfl)) Try.call27 rfl rfl (c_pack_Packer_Word 0 go0 (⟨x25.fb,x6.fplaces⟩ : Gpack_Packer) A27 c28 hc28 A11 c12 trivial _ hx33) (fun ⟨A34,c35⟩ hc35=>?_)
 refine g_sta _ (fun W h=>(ok_frontR (t:=2000) (t':=1000) (ok_frontR (t:=1001) (t':=1001) (ok_front (t:=1000) (t':=1000) h rfl) rfl) rfl))<|g_nil<|d_then ?_
 refine c_flat [(0,Vp go0),(3,Vp g1),(6,Vi x30)] ⟨rfl,rfl,rfl,trivial⟩ (fun u=>?_)
 refine c_sta ⟨w0,M,(1000,go0,.cells #[.slice A34 x32.fb.length c35,mapV A11] 94 (0,0))::(100030,g1,.cells #[Vs p1.fName,Vu p1.fType,Vu p1.fClass,.int .u32 p1.fTTL,Vs p1.fData] 54 (0,0))::H,(1000,⟨.slice A34 x32.fb.length c35,5,1,x32.fb.length,x32.fb.flatMap (fun x : Int=>[Value.int .u8 x])⟩)::(1001,⟨mapV A11,92,2,x6.fplaces.length,x6.fplaces.flatMap (mcell (fun x : ByteArray=>Value.string x) (fun x : Int=>Value.int .i64 x))⟩)::R,φ⟩ (fun _ h=>h)<|c_seq<|c_region<|g_v rfl (r_field (n:=1) Try.underlying54 rfl Try.sizeOf22 rfl rfl)<|g_v rfl (r_load (tag:=100030) rfl rfl rfl Try.isAgg22) ?_
 replace hm:=bnd hm
 obtain ⟨x37,hx38,hm⟩:=hm
 refine g_cn ⟨w0,M,_,_,φ⟩ (fun _ h=>h) Try.call85 rfl rfl (c_record_shapeOf p1.fType _ hx38) (fun _ _=>?_)
 refine g_e rfl (e_alloc 100070 Try.zeroValue135) (fun g39 _=>?_)
 refine g_storeL (tag:=100070) rfl rfl rfl rfl Try.sizeOf135 rfl rfl<|g_nil<|d_then<|c_seq ?_
 refine c_cut (ι:=(List Int)×(List (ByteArray×Int))×Option Addr×Nat×Option Addr×Nat) [0,6] (fun ⟨l123,l126,A124,c125,A127,c128⟩=>[]) (fun ⟨l123,l126,A124,c125,A127,c128⟩=>⟨w0,M,(1000,go0,.cells #[.slice A124 l123.length c125,mapV A127] 94 (0,0))::H,(1000,⟨.slice A124 l123.length c125,5,1,l123.length,l123.flatMap (fun x : Int=>[Value.int .u8 x])⟩)::(1001,⟨mapV A127,92,2,l126.length,l126.flatMap (mcell (fun x : ByteArray=>Value.string x) (fun x : Int=>Value.int .i64 x))⟩)::R,φ⟩) (fun ⟨l123,l126,A124,c125,A127,c128⟩=>m_record_Put_j1 x30 l123 l126 = some r∧l123.length ≤ c125∧True) ?_ (fun ⟨l123,l126,A124,c125,A127,c128⟩ u ⟨hm,hc125,hc128⟩=>?_)
 ·
  refine c_seq<|c_region<|g_v rfl (r_field (n:=1) Try.underlying135 rfl Try.sizeOf3 rfl rfl)<|g_v rfl (r_load (tag:=100070) rfl rfl rfl Try.isAgg3)<|g_v rfl (r_gtr rfl rfl)<|g_nil<|d_then<|c_sta ⟨w0,M,(100070,g39,.cells #[Vi x37.fahead,Vi x37.fnames,Vi x37.fbehind] 135 (0,0))::(1000,go0,.cells #[.slice A34 x32.fb.length c35,mapV A11] 94 (0,0))::(100030,g1,.cells #[Vs p1.fName,Vu p1.fType,Vu p1.fClass,.int .u32 p1.fTTL,Vs p1.fData] 54 (0,0))::H,(1000,⟨.slice A34 x32.fb.length c35,5,1,x32.fb.length,x32.fb.flatMap (fun x : Int=>[Value.int .u8 x])⟩)::(1001,⟨mapV A11,92,2,x6.fplaces.length,x6.fplaces.flatMap (mcell (fun x : ByteArray=>Value.string x) (fun x : Int=>Value.int .i64 x))⟩)::R,φ⟩ (fun _ h=>h) ?_
  refine c_cond rfl (fun h138=>?_) (fun h138=>?_)
  ·
   replace hm:=ite_t hm (of_decide_eq_true h138)
   refine c_seq<|c_region<|g_v rfl (r_loadA (tag:=100070) rfl rfl Try.isAgg135 Try.sizeOf135 rfl rfl)<|g_v rfl (r_field (n:=4) Try.underlying54 rfl Try.sizeOf9 rfl rfl)<|g_v rfl (r_load (tag:=100030) rfl rfl rfl Try.isAgg9) ?_
   replace hm:=bnd hm
   obtain ⟨⟨x139,x140⟩,hx141,hm⟩:=hm
   refine g_cn ⟨w0,M,_,_,φ⟩ (fun _ h=>h) Try.call86 rfl rfl (c_record_shape_cut x37 p1.fData _ hx141) (fun ⟨A142,c143⟩ hc143=>?_)
   refine g_abs (fun φ145 q145'=>?_)
   have q145 : ∀ W,φ145 W→φ W:=fun W h=>(q145' W h).1
   have f144:=fun (W : World) (h : φ145 W)=>(q145' W h).2
   refine g_v rfl r_move<|g_v rfl (r_extract rfl rfl)<|g_v rfl (r_extract rfl rfl) ?_
   refine g_e rfl (e_alloc 100080 Try.zeroValue138) (fun g147 _=>?_)
   refine g_storeL (tag:=100080) rfl rfl rfl rfl Try.sizeOf138 rfl rfl<|g_v rfl r_assign<|g_nil<|d_then ?_
   refine c_flat [(0,Vp go0),(6,Vi x30),(8,Vp g147)] ⟨rfl,rfl,rfl,trivial⟩ (fun u=>?_)
   refine c_sta ⟨w0,M,(100080,g147,.cells #[Vs x139.fahead,Vs x139.fbehind,.slice A142 x139.fnames.length c143] 138 (0,0))::(100070,g39,.cells #[Vi x37.fahead,Vi x37.fnames,Vi x37.fbehind] 135 (0,0))::(1000,go0,.cells #[.slice A34 x32.fb.length c35,mapV A11] 94 (0,0))::(100030,g1,.cells #[Vs p1.fName,Vu p1.fType,Vu p1.fClass,.int .u32 p1.fTTL,Vs p1.fData] 54 (0,0))::H,(1000,⟨.slice A34 x32.fb.length c35,5,1,x32.fb.length,x32.fb.flatMap (fun x : Int=>[Value.int .u8 x])⟩)::(1001,⟨mapV A11,92,2,x6.fplaces.length,x6.fplaces.flatMap (mcell (fun x : ByteArray=>Value.string x) (fun x : Int=>Value.int .i64 x))⟩)::R,φ145⟩ (fun _ h=>h)<|c_seq<|c_region<|g_v rfl r_move<|g_v rfl (r_field (n:=0) Try.underlying138 rfl Try.sizeOf9 rfl rfl)<|g_v rfl (r_load (tag:=100080) rfl rfl rfl Try.isAgg9) ?_
   replace hm:=bnd hm
   obtain ⟨x148,hx149,hm⟩:=hm
   refine g_cn ⟨w0,M,(1000,go0,.cells #[.slice A34 x32.fb.length c35,mapV A11] 94 (0,0))::(100080,g147,.cells #[Vs x139.fahead,Vs x139.fbehind,.slice A142 x139.fnames.length c143] 138 (0,0))::(100070,g39,.cells #[Vi x37.fahead,Vi x37.fnames,Vi x37.fbehind] 135 (0,0))::(100030,g1,.cells #[Vs p1.fName,Vu p1.fType,Vu p1.fClass,.int .u32 p1.fTTL,Vs p1.fData] 54 (0,0))::H,(1000,⟨.slice A34 x32.fb.length c35,5,1,x32.fb.length,x32.fb.flatMap (fun x : Int=>[Value.int .u8 x])⟩)::(1001,⟨mapV A11,92,2,x6.fplaces.length,x6.fplaces.flatMap (mcell (fun x : ByteArray=>Value.string x) (fun x : Int=>Value.int .i64 x))⟩)::R,φ145⟩ (fun W h=>(ok_front (t:=1000) (t':=1000) (ok_frontR (t:=1000) (t':=1000) (ok_frontR (t:=1001) (t':=1001) h rfl) rfl) rfl)) Try.call31 rfl rfl (c_pack_Packer_Raw x139.fahead go0 (⟨x32.fb,x6.fplaces⟩ : Gpack_Packer) A34 c35 hc35 A11 c12 trivial _ hx149) (fun ⟨A150,c151⟩ hc151=>?_)
   refine g_sta _ (fun W h=>(ok_frontR (t:=2000) (t':=1000) (ok_frontR (t:=1001) (t':=1001) (ok_front (t:=1000) (t':=1000) h rfl) rfl) rfl))<|g_nil<|d_then<|c_seq<|c_seq<|c_region<|g_v rfl (r_field (n:=2) Try.underlying138 rfl Try.sizeOf125 rfl rfl)<|g_v rfl (r_load (tag:=100080) rfl rfl rfl Try.isAgg125)<|g_v rfl (r_lenL Try.underlying125 rfl)<|g_v rfl r_move ?_
   refine g_nil<|d_then ?_
   refine c_cut (ι:=(List Int)×(List (ByteArray×Int))×Option Addr×Nat×Option Addr×Nat) [0,6,8] (fun ⟨l205,l208,A206,c207,A209,c210⟩=>[]) (fun ⟨l205,l208,A206,c207,A209,c210⟩=>⟨w0,M,(1000,go0,.cells #[.slice A206 l205.length c207,mapV A209] 94 (0,0))::(100080,g147,.cells #[Vs x139.fahead,Vs x139.fbehind,.slice A142 x139.fnames.length c143] 138 (0,0))::H,(1000,⟨.slice A206 l205.length c207,5,1,l205.length,l205.flatMap (fun x : Int=>[Value.int .u8 x])⟩)::(1001,⟨mapV A209,92,2,l208.length,l208.flatMap (mcell (fun x : ByteArray=>Value.string x) (fun x : Int=>Value.int .i64 x))⟩)::R,φ145⟩) (fun ⟨l205,l208,A206,c207,A209,c210⟩=>m_record_Put_j2 x139 x30 l205 l208 = some r∧l205.length ≤ c207∧True) ?_ (fun ⟨l205,l208,A206,c207,A209,c210⟩ u ⟨hm,hc207,hc210⟩=>?_)
   ·
    refine c_block ?_
    replace hm:=bnd hm
    obtain ⟨out3,hl3,hr3⟩:=hm
    obtain ⟨n267',hl3⟩:=loop_lp hl3
    refine c_loopU (ι:=Nat×(List Int)×(List (ByteArray×Int))×Int×Option Addr×Nat×Option Addr×Nat) [0,6,8,57,58,59] (fun ⟨n267,l238,l241,i244,A239,c240,A242,c243⟩=>[(59,Vi i244)]) (fun ⟨n267,l238,l241,i244,A239,c240,A242,c243⟩=>⟨w0,M,(1000,go0,.cells #[.slice A239 l238.length c240,mapV A242] 94 (0,0))::(100080,g147,.cells #[Vs x139.fahead,Vs x139.fbehind,.slice A142 x139.fnames.length c143] 138 (0,0))::H,(1000,⟨.slice A239 l238.length c240,5,1,l238.length,l238.flatMap (fun x : Int=>[Value.int .u8 x])⟩)::(1001,⟨mapV A242,92,2,l241.length,l241.flatMap (mcell (fun x : ByteArray=>Value.string x) (fun x : Int=>Value.int .i64 x))⟩)::R,φ145⟩) (fun ⟨n267,l238,l241,i244,A239,c240,A242,c243⟩=>Lp (fun s=>m_record_Put_s3 x139 s.1 s.2.1 s.2.2) n267 (l238,l241,i244) out3∧l238.length ≤ c240∧True) (fun ⟨n267,l238,l241,i244,A239,c240,A242,c243⟩=>n267) (n267',x148.fb,x6.fplaces,0,A150,c151,A11,c12) ⟨hl3,hc151,trivial⟩ ⟨rfl,rfl,rfl,rfl,rfl,rfl,trivial⟩ (fun W h=>((h.dropH (t:=100070) rfl).dropH (t:=100030) rfl).phi (fun W hφ=>hφ)) (fun ⟨n267,l238,l241,i244,A239,c240,A242,c243⟩ u ⟨hlp,hc240,hc243⟩=>?_)
    obtain ⟨o3,hm,hnx3⟩:=lp_step hlp
    clear hlp
    replace hm : m_record_Put_s3 x139 l238 l241 i244 = some o3:=hm
    unfold m_record_Put_s3 at hm
    refine c_flat [(0,Vp go0),(6,Vi x30),(8,Vp g147),(57,.slice A142 x139.fnames.length c143),(58,Vi (x139.fnames.length : Int)),(59,Vi i244)] ⟨rfl,rfl,rfl,rfl,rfl,rfl,trivial⟩ (fun u=>?_)
    refine c_sta ⟨w0,M,(1000,go0,.cells #[.slice A239 l238.length c240,mapV A242] 94 (0,0))::(100080,g147,.cells #[Vs x139.fahead,Vs x139.fbehind,.slice A142 x139.fnames.length c143] 138 (0,0))::H,(1000,⟨.slice A239 l238.length c240,5,1,l238.length,l238.flatMap (fun x : Int=>[Value.int .u8 x])⟩)::(1001,⟨mapV A242,92,2,l241.length,l241.flatMap (mcell (fun x : ByteArray=>Value.string x) (fun x : Int=>Value.int .i64 x))⟩)::R,φ145⟩ (fun _ h=>h)<|c_seq<|c_region<|g_v rfl (r_lss rfl rfl)<|g_nil<|d_then<|c_seq ?_
    refine c_cond rfl (fun h268=>?_) (fun h268=>?_)
    ·
     replace hm:=ite_t hm (of_decide_eq_true h268)
     refine c_skip<|d_then<|c_seq<|c_block<|c_seq<|c_region ?_
     replace hm:=bnd hm
     obtain ⟨x269,hx269,hm⟩:=hm
     refine g_know _ (fun W hS=>cl_at (p:=φ145) (sz:=1) (fun _=>rfl) (by decide) hS.now f144 hx269) ?_
     rintro ⟨ad270,hA272,f271⟩
     refine g_v rfl (r_ix Try.underlying125 Try.sizeOf9 rfl hA272 rfl hx269)<|g_v rfl (r_ld rfl Try.isAgg9 (fun W hS=>Cl.head (f271 W hS.now)))<|g_v rfl r_assign<|g_nil<|d_then<|c_region<|g_v rfl r_move<|g_v rfl r_move ?_
     replace hm:=bnd hm
     obtain ⟨⟨x273,x274⟩,hx275,hm⟩:=hm
     refine g_cn ⟨w0,M,(1000,go0,.cells #[.slice A239 l238.length c240,mapV A242] 94 (0,0))::(100080,g147,.cells #[Vs x139.fahead,Vs x139.fbehind,.slice A142 x139.fnames.length c143] 138 (0,0))::H,(1000,⟨.slice A239 l238.length c240,5,1,l238.length,l238.flatMap (fun x : Int=>[Value.int .u8 x])⟩)::(1001,⟨mapV A242,92,2,l241.length,l241.flatMap (mcell (fun x : ByteArray=>Value.string x) (fun x : Int=>Value.int .i64 x))⟩)::R,φ145⟩ (fun W h=>(ok_front (t:=1000) (t':=1000) (ok_frontR (t:=1000) (t':=1000) (ok_frontR (t:=1001) (t':=1001) h rfl) rfl) rfl)) Try.call26 rfl rfl (c_pack_Packer_Name x269 true go0 (⟨l238,l241⟩ : Gpack_Packer) A239 c240 hc240 A242 c243 trivial _ hx275) (fun ⟨A276,c277,A279,c280⟩ ⟨hc277,hc280⟩=>?_)
     refine g_sta _ (fun W h=>(ok_frontR (t:=2000) (t':=1000) (ok_frontR (t:=2001) (t':=1001) (ok_front (t:=1000) (t':=1000) h rfl) rfl) rfl))<|g_nil<|d_normal_block<|d_then<|c_region<|g_v rfl (r_add rfl rfl rfl)<|g_v rfl r_move<|g_nil ?_
     obtain ⟨n283,hn283,hlp⟩:=nx_inl hm hnx3
     exact d_round (n283,x274.fb,x274.fplaces,w64 (i244 + 1),A276,c277,A279,c280) ⟨hlp,hc277,trivial⟩ hn283 ⟨rfl,rfl,rfl,rfl,rfl,rfl,trivial⟩ (fun W h=>h.phi (fun W hφ=>hφ))
    replace hm:=ite_f hm (of_decide_eq_false h268)
    refine c_exit<|d_exit_then<|d_exit_then<|d_exit_block ?_
    replace hm:=nx_out (C:=(fun e : (List Int)×(List (ByteArray×Int))=>m_record_Put_j2 x139 x30 e.1 e.2 = some r)) hm hnx3 hr3
    exact d_round (l238,l241,A239,c240,A242,c243) ⟨hm,hc240,trivial⟩ Nat.zero_lt_one ⟨rfl,rfl,rfl,trivial⟩ (fun W h=>h.phi (fun W hφ=>hφ))
   unfold m_record_Put_j2 at hm
   refine d_flat [(0,Vp go0),(6,Vi x30),(8,Vp g147)] ⟨rfl,rfl,rfl,trivial⟩ (fun u=>?_)
   refine d_sta ⟨w0,M,(1000,go0,.cells #[.slice A206 l205.length c207,mapV A209] 94 (0,0))::(100080,g147,.cells #[Vs x139.fahead,Vs x139.fbehind,.slice A142 x139.fnames.length c143] 138 (0,0))::H,(1000,⟨.slice A206 l205.length c207,5,1,l205.length,l205.flatMap (fun x : Int=>[Value.int .u8 x])⟩)::(1001,⟨mapV A209,92,2,l208.length,l208.flatMap (mcell (fun x : ByteArray=>Value.string x) (fun x : Int=>Value.int .i64 x))⟩)::R,φ145⟩ (fun _ h=>h)<|d_then<|c_region<|g_v rfl r_move<|g_v rfl (r_field (n:=1) Try.underlying138 rfl Try.sizeOf9 rfl rfl)<|g_v rfl (r_load (tag:=100080) rfl rfl rfl Try.isAgg9) ?_
   replace hm:=bnd hm
   obtain ⟨x211,hx212,hm⟩:=hm
   refine g_cn ⟨w0,M,(1000,go0,.cells #[.slice A206 l205.length c207,mapV A209] 94 (0,0))::(100080,g147,.cells #[Vs x139.fahead,Vs x139.fbehind,.slice A142 x139.fnames.length c143] 138 (0,0))::H,(1000,⟨.slice A206 l205.length c207,5,1,l205.length,l205.flatMap (fun x : Int=>[Value.int .u8 x])⟩)::(1001,⟨mapV A209,92,2,l208.length,l208.flatMap (mcell (fun x : ByteArray=>Value.string x) (fun x : Int=>Value.int .i64 x))⟩)::R,φ145⟩ (fun W h=>(ok_front (t:=1000) (t':=1000) (ok_frontR (t:=1000) (t':=1000) (ok_frontR (t:=1001) (t':=1001) h rfl) rfl) rfl)) Try.call31 rfl rfl (c_pack_Packer_Raw x139.fbehind go0 (⟨l205,l208⟩ : Gpack_Packer) A206 c207 hc207 A209 c210 trivial _ hx212) (fun ⟨A213,c214⟩ hc214=>?_)
   refine g_sta _ (fun W h=>(ok_frontR (t:=2000) (t':=1000) (ok_frontR (t:=1001) (t':=1001) (ok_front (t:=1000) (t':=1000) h rfl) rfl) rfl))<|g_nil ?_
   exact d_round (x211.fb,l208,A213,c214,A209,c210) ⟨hm,hc214,trivial⟩ Nat.zero_lt_one ⟨rfl,rfl,trivial⟩ (fun W h=>(h.dropH (t:=100080) rfl).phi (fun W hφ=>(q145 _ hφ)))
  replace hm:=ite_f hm (of_decide_eq_false h138)
  refine c_region<|g_v rfl r_move<|g_v rfl (r_field (n:=4) Try.underlying54 rfl Try.sizeOf9 rfl rfl)<|g_v rfl (r_load (tag:=100030) rfl rfl rfl Try.isAgg9) ?_
  replace hm:=bnd hm
  obtain ⟨x284,hx285,hm⟩:=hm
  refine g_cn ⟨w0,M,(1000,go0,.cells #[.slice A34 x32.fb.length c35,mapV A11] 94 (0,0))::(100070,g39,.cells #[Vi x37.fahead,Vi x37.fnames,Vi x37.fbehind] 135 (0,0))::(100030,g1,.cells #[Vs p1.fName,Vu p1.fType,Vu p1.fClass,.int .u32 p1.fTTL,Vs p1.fData] 54 (0,0))::H,(1000,⟨.slice A34 x32.fb.length c35,5,1,x32.fb.length,x32.fb.flatMap (fun x : Int=>[Value.int .u8 x])⟩)::(1001,⟨mapV A11,92,2,x6.fplaces.length,x6.fplaces.flatMap (mcell (fun x : ByteArray=>Value.string x) (fun x : Int=>Value.int .i64 x))⟩)::R,φ⟩ (fun W h=>(ok_front (t:=1000) (t':=1000) (ok_frontR (t:=1000) (t':=1000) (ok_frontR (t:=1001) (t':=1001) h rfl) rfl) rfl)) Try.call31 rfl rfl (c_pack_Packer_Raw p1.fData go0 (⟨x32.fb,x6.fplaces⟩ : Gpack_Packer) A34 c35 hc35 A11 c12 trivial _ hx285) (fun ⟨A286,c287⟩ hc287=>?_)
  refine g_sta _ (fun W h=>(ok_frontR (t:=2000) (t':=1000) (ok_frontR (t:=1001) (t':=1001) (ok_front (t:=1000) (t':=1000) h rfl) rfl) rfl))<|g_nil ?_
  exact d_round (x284.fb,x6.fplaces,A286,c287,A11,c12) ⟨hm,hc287,trivial⟩ Nat.zero_lt_one ⟨rfl,rfl,trivial⟩ (fun W h=>((h.dropH (t:=100070) rfl).dropH (t:=100030) rfl).phi (fun W hφ=>hφ))
 unfold m_record_Put_j1 at hm
 refine d_flat [(0,Vp go0),(6,Vi x30)] ⟨rfl,rfl,trivial⟩ (fun u=>?_)
 refine d_sta ⟨w0,M,(1000,go0,.cells #[.slice A124 l123.length c125,mapV A127] 94 (0,0))::H,(1000,⟨.slice A124 l123.length c125,5,1,l123.length,l123.flatMap (fun x : Int=>[Value.int .u8 x])⟩)::(1001,⟨mapV A127,92,2,l126.length,l126.flatMap (mcell (fun x : ByteArray=>Value.string x) (fun x : Int=>Value.int .i64 x))⟩)::R,φ⟩ (fun _ h=>h)<|d_then<|c_seq<|c_region ?_
 iterate 3 refine g_v rfl r_move ?_
 replace hm:=bnd hm
 obtain ⟨x129,hx130,hm⟩:=hm
 refine g_cn ⟨w0,M,(1000,go0,.cells #[.slice A124 l123.length c125,mapV A127] 94 (0,0))::H,(1000,⟨.slice A124 l123.length c125,5,1,l123.length,l123.flatMap (fun x : Int=>[Value.int .u8 x])⟩)::(1001,⟨mapV A127,92,2,l126.length,l126.flatMap (mcell (fun x : ByteArray=>Value.string x) (fun x : Int=>Value.int .i64 x))⟩)::R,φ⟩ (fun W h=>(ok_front (t:=1000) (t':=1000) (ok_frontR (t:=1000) (t':=1000) (ok_frontR (t:=1001) (t':=1001) h rfl) rfl) rfl)) Try.call32 rfl rfl (c_pack_Packer_Len go0 (⟨l123,l126⟩ : Gpack_Packer) A124 c125 hc125 A127 c128 trivial _ hx130) (fun _ _=>?_)
 refine g_sta _ (fun W h=>(ok_frontR (t:=1000) (t':=1000) (ok_frontR (t:=1001) (t':=1001) (ok_front (t:=1000) (t':=1000) h rfl) rfl) rfl))<|g_v rfl r_move<|g_v rfl (r_sub rfl rfl rfl)<|g_v rfl (r_sub rfl rfl rfl)<|g_v rfl (r_conv Try.underlying3 Try.underlying22 rfl rfl) ?_
 replace hm:=bnd hm
 obtain ⟨⟨x131,x132⟩,hx133,hm⟩:=hm
 refine g_cn ⟨w0,M,(1000,go0,.cells #[.slice A124 l123.length c125,mapV A127] 94 (0,0))::H,(1000,⟨.slice A124 l123.length c125,5,1,l123.length,l123.flatMap (fun x : Int=>[Value.int .u8 x])⟩)::(1001,⟨mapV A127,92,2,l126.length,l126.flatMap (mcell (fun x : ByteArray=>Value.string x) (fun x : Int=>Value.int .i64 x))⟩)::R,φ⟩ (fun W h=>(ok_front (t:=1000) (t':=1000) (ok_frontR (t:=1000) (t':=1000) (ok_frontR (t:=1001) (t':=1001) h rfl) rfl) rfl)) Try.call87 rfl rfl (c_pack_Packer_Patch x30 (IntKind.u16.wrap (w64 ((w64 (x129 - x30)) - 2))) go0 (⟨l123,l126⟩ : Gpack_Packer) A124 c125 hc125 A127 c128 trivial _ hx133) (fun ⟨A134,c135⟩ hc135=>?_)
 refine g_sta _ (fun W h=>(ok_frontR (t:=2000) (t':=1000) (ok_frontR (t:=1001) (t':=1001) (ok_front (t:=1000) (t':=1000) h rfl) rfl) rfl))<|g_v rfl r_assign<|g_nil<|d_then ?_
 refine c_flat [(4,Vi x131)] ⟨rfl,trivial⟩ (fun u=>?_)
 refine c_sta ⟨w0,M,(1000,go0,.cells #[.slice A134 x132.fb.length c135,mapV A127] 94 (0,0))::H,(1000,⟨.slice A134 x132.fb.length c135,5,1,x132.fb.length,x132.fb.flatMap (fun x : Int=>[Value.int .u8 x])⟩)::(1001,⟨mapV A127,92,2,l126.length,l126.flatMap (mcell (fun x : ByteArray=>Value.string x) (fun x : Int=>Value.int .i64 x))⟩)::R,φ⟩ (fun _ h=>h)<|c_ret ?_
 cases hm
 refine d_sta _ (fun W h=>ok_frontR (t:=1001) (t':=2001) h rfl)<|d_sta _ (fun W h=>ok_frontR (t:=1000) (t':=2000) h rfl) ?_
 exact d_retC (A134,c135,A127,c128) Try.results53 (res_tmp (res_nil rfl)) ⟨hc135,hc128⟩ (fun W h=>h.phi (fun W hφ=>hφ)) (.inr rfl)
noncomputable def m_peer_writer_entries_j1  (l265 : List Int) (l268 : List (ByteArray×Int)) : Option Gpack_Packer:=
  some (⟨l265,l268⟩ : Gpack_Packer)
noncomputable def m_peer_writer_entries_j3 (i402 : Int) (l641 : List Int) (l644 : List (ByteArray×Int)) : Option (((List Int)×(List (ByteArray×Int))×Int) ⊕ ((List Int)×(List (ByteArray×Int)))):=
  some (.inl (l641,l644,w64 (i402 + 1)))
noncomputable def m_peer_writer_entries_s4 (x530 : GCached) (l671 : List Int) (l674 : List (ByteArray×Int)) (i677 : Int) : Option (((List Int)×(List (ByteArray×Int))×Int) ⊕ ((List Int)×(List (ByteArray×Int)))):=
  if i677 < (x530.fRecords.length : Int) then
    (at_ x530.fRecords i677).bind fun x703=>
    (m_record_Put x703 (⟨l671,l674⟩ : Gpack_Packer)).bind fun (z717 : Int×Gpack_Packer)=>
    some (.inl (z717.2.fb,z717.2.fplaces,w64 (i677 + 1)))
  else
    some (.inr (l671,l674))
noncomputable def m_peer_writer_entries_s2 (p1 : List GCached) (l396 : List Int) (l399 : List (ByteArray×Int)) (i402 : Int) : Option (((List Int)×(List (ByteArray×Int))×Int) ⊕ ((List Int)×(List (ByteArray×Int)))):=
  if i402 < (p1.length : Int) then
    (at_ p1 i402).bind fun x530=>
    (m_pack_Packer_Byte (IntKind.u8.wrap x530.fKind) (⟨l396,l399⟩ : Gpack_Packer)).bind fun x540=>
    (m_pack_Packer_Name x530.fName false (⟨x540.fb,l399⟩ : Gpack_Packer)).bind fun (z554 : Int×Gpack_Packer)=>
    (m_pack_Packer_Word x530.fType z554.2).bind fun x555=>
    (m_pack_Packer_Word x530.fClass (⟨x555.fb,z554.2.fplaces⟩ : Gpack_Packer)).bind fun x560=>
    (m_peer_writer_eight [x530.fUntil] (⟨x560.fb,z554.2.fplaces⟩ : Gpack_Packer)).bind fun x566=>
    (m_pack_Packer_Byte (IntKind.u8.wrap x530.fRank) (⟨x566.fb,z554.2.fplaces⟩ : Gpack_Packer)).bind fun x571=>
    (m_peer_writer_eight [x530.fEpoch,x530.fSource] (⟨x571.fb,z554.2.fplaces⟩ : Gpack_Packer)).bind fun x577=>
    (m_pack_Packer_Byte (IntKind.u8.wrap (x530.fRecords.length : Int)) (⟨x577.fb,z554.2.fplaces⟩ : Gpack_Packer)).bind fun x582=>
    (loop (fun s=>m_peer_writer_entries_s4 x530 s.1 s.2.1 s.2.2) (x582.fb,z554.2.fplaces,0)).bind fun e=>m_peer_writer_entries_j3 i402 e.1 e.2
  else
    some (.inr (l396,l399))
noncomputable def m_peer_writer_entries (p1 : List GCached) (o0 : Gpack_Packer) : Option Gpack_Packer:=
  (m_pack_Packer_Byte (IntKind.u8.wrap (p1.length : Int)) o0).bind fun x2=>
  (loop (fun s=>m_peer_writer_entries_s2 p1 s.1 s.2.1 s.2.2) (x2.fb,o0.fplaces,0)).bind fun e=>m_peer_writer_entries_j1 e.1 e.2
theorem c_peer_writer_entries {w0 : World} {M : Nat→Prop} {H : List (Nat×Nat×Obj)} {R : List (Nat×Row)} {φ : World→Prop} (p1 : List GCached) (Ap1_0 : Option Addr) (cp1_0 : Nat) (psp1_0 : List GCachedP) (hcp1_0 : (DOk GCached.capP p1 psp1_0∧p1.length ≤ cp1_0)) (fp1_0 : ∀ W,(Sta.mk w0 M H R φ).ok W→Cl W Ap1_0 ((p1.zip psp1_0).flatMap GCached.encP)) (fop1_0 : ∀ W,(Sta.mk w0 M H R φ).ok W→DOwn GCached.ownP p1 psp1_0 W) (go0 : Nat) (o0 : Gpack_Packer) (Ao0_0 : Option Addr) (co0_0 : Nat) (hco0_0 : o0.fb.length ≤ co0_0) (Ao0_1 : Option Addr) (co0_1 : Nat) (hco0_1 : True) (r : Gpack_Packer) (hm : m_peer_writer_entries p1 o0 = some r) :
    Cn Try.prog 29 #[.agg #[Vp go0],.slice Ap1_0 p1.length cp1_0] ⟨w0,M,(1000,go0,.cells #[.slice Ao0_0 o0.fb.length co0_0,mapV Ao0_1] 94 (0,0))::H,(1000,⟨.slice Ao0_0 o0.fb.length co0_0,5,1,o0.fb.length,o0.fb.flatMap (fun x : Int=>[Value.int .u8 x])⟩)::(1001,⟨mapV Ao0_1,92,2,o0.fplaces.length,o0.fplaces.flatMap (mcell (fun x : ByteArray=>Value.string x) (fun x : Int=>Value.int .i64 x))⟩)::R,φ⟩ (fun x : Option Addr×Nat×Option Addr×Nat=>.tuple #[]) (fun x=>r.fb.length ≤ x.2.1∧True) (fun x=>⟨w0,M,(1000,go0,.cells #[.slice x.1 r.fb.length x.2.1,mapV x.2.2.1] 94 (0,0))::H,(2000,⟨.slice x.1 r.fb.length x.2.1,5,1,r.fb.length,r.fb.flatMap (fun x : Int=>[Value.int .u8 x])⟩)::(2001,⟨mapV x.2.2.1,92,2,r.fplaces.length,r.fplaces.flatMap (mcell (fun x : ByteArray=>Value.string x) (fun x : Int=>Value.int .i64 x))⟩)::R,φ⟩):=by
 unfold m_peer_writer_entries at hm
 refine cn_intro (fn:=Try.f29) (N:=79) Try.func29 rfl Try.ntmps29 rfl<|c_seq<|c_region ?_
 refine g_e rfl (e_box 100020 rfl) (fun g1 _=>?_)
 refine g_nil<|d_then<|c_seq<|c_region<|g_v rfl (r_field (n:=0) Try.underlying63 rfl Try.sizeOf60 rfl rfl)<|g_v rfl (r_load (tag:=100020) rfl rfl rfl Try.isAgg60)<|g_v rfl r_move<|g_v rfl (r_lenL Try.underlying25 rfl)<|g_v rfl (r_conv Try.underlying3 Try.underlying5 rfl rfl) ?_
 replace hm:=bnd hm
 obtain ⟨x2,hx3,hm⟩:=hm
 refine g_cn ⟨w0,M,(1000,go0,.cells #[.slice Ao0_0 o0.fb.length co0_0,mapV Ao0_1] 94 (0,0))::(100020,g1,.cells #[Vp go0] 63 (0,0))::H,(1000,⟨.slice Ao0_0 o0.fb.length co0_0,5,1,o0.fb.length,o0.fb.flatMap (fun x : Int=>[Value.int .u8 x])⟩)::(1001,⟨mapV Ao0_1,92,2,o0.fplaces.length,o0.fplaces.flatMap (mcell (fun x : ByteArray=>Value.string x) (fun x : Int=>Value.int .i64 x))⟩)::R,φ⟩ (fun W h=>(ok_front (t:=1000) (t':=1000) (ok_frontR (t:=1000) (t':=1000) (ok_frontR (t:=1001) (t':=1001) h rfl) rfl) rfl)) Try.call24 rfl rfl (c_pack_Packer_Byte (IntKind.u8.wrap (p1.length : Int)) go0 o0 Ao0_0 co0_0 hco0_0 Ao0_1 co0_1 trivial _ hx3) (fun ⟨A4,c5⟩ hc5=>?_)
 refine g_sta _ (fun W h=>(ok_frontR (t:=2000) (t':=1000) (ok_frontR (t:=1001) (t':=1001) (ok_front (t:=1000) (t':=1000) h rfl) rfl) rfl))<|g_nil<|d_then<|c_seq<|c_region<|g_v rfl r_move<|g_v rfl (r_lenL Try.underlying25 rfl)<|g_v rfl r_move<|g_nil<|d_then ?_
 refine c_flat [(2,Vp g1),(14,.slice Ap1_0 p1.length cp1_0),(15,Vi (p1.length : Int)),(16,Vi 0)] ⟨rfl,rfl,rfl,rfl,trivial⟩ (fun u=>?_)
 refine c_sta ⟨w0,M,(1000,go0,.cells #[.slice A4 x2.fb.length c5,mapV Ao0_1] 94 (0,0))::(100020,g1,.cells #[Vp go0] 63 (0,0))::H,(1000,⟨.slice A4 x2.fb.length c5,5,1,x2.fb.length,x2.fb.flatMap (fun x : Int=>[Value.int .u8 x])⟩)::(1001,⟨mapV Ao0_1,92,2,o0.fplaces.length,o0.fplaces.flatMap (mcell (fun x : ByteArray=>Value.string x) (fun x : Int=>Value.int .i64 x))⟩)::R,φ⟩ (fun _ h=>h) ?_
 refine c_cut (ι:=(List Int)×(List (ByteArray×Int))×Option Addr×Nat×Option Addr×Nat) [] (fun ⟨l265,l268,A266,c267,A269,c270⟩=>[]) (fun ⟨l265,l268,A266,c267,A269,c270⟩=>⟨w0,M,(1000,go0,.cells #[.slice A266 l265.length c267,mapV A269] 94 (0,0))::H,(1000,⟨.slice A266 l265.length c267,5,1,l265.length,l265.flatMap (fun x : Int=>[Value.int .u8 x])⟩)::(1001,⟨mapV A269,92,2,l268.length,l268.flatMap (mcell (fun x : ByteArray=>Value.string x) (fun x : Int=>Value.int .i64 x))⟩)::R,φ⟩) (fun ⟨l265,l268,A266,c267,A269,c270⟩=>m_peer_writer_entries_j1 l265 l268 = some r∧l265.length ≤ c267∧True) ?_ (fun ⟨l265,l268,A266,c267,A269,c270⟩ u ⟨hm,hc267,hc270⟩=>?_)
 ·
  refine c_block ?_
  replace hm:=bnd hm
  obtain ⟨out2,hl2,hr2⟩:=hm
  obtain ⟨n528',hl2⟩:=loop_lp hl2
  refine c_loopU (ι:=Nat×(List Int)×(List (ByteArray×Int))×Int×Option Addr×Nat×Option Addr×Nat) [2,14,15,16] (fun ⟨n528,l396,l399,i402,A397,c398,A400,c401⟩=>[(16,Vi i402)]) (fun ⟨n528,l396,l399,i402,A397,c398,A400,c401⟩=>⟨w0,M,(1000,go0,.cells #[.slice A397 l396.length c398,mapV A400] 94 (0,0))::(100020,g1,.cells #[Vp go0] 63 (0,0))::H,(1000,⟨.slice A397 l396.length c398,5,1,l396.length,l396.flatMap (fun x : Int=>[Value.int .u8 x])⟩)::(1001,⟨mapV A400,92,2,l399.length,l399.flatMap (mcell (fun x : ByteArray=>Value.string x) (fun x : Int=>Value.int .i64 x))⟩)::R,φ⟩) (fun ⟨n528,l396,l399,i402,A397,c398,A400,c401⟩=>Lp (fun s=>m_peer_writer_entries_s2 p1 s.1 s.2.1 s.2.2) n528 (l396,l399,i402) out2∧l396.length ≤ c398∧True) (fun ⟨n528,l396,l399,i402,A397,c398,A400,c401⟩=>n528) (n528',x2.fb,o0.fplaces,0,A4,c5,Ao0_1,co0_1) ⟨hl2,hc5,trivial⟩ ⟨rfl,rfl,rfl,rfl,trivial⟩ (fun W h=>h.phi (fun W hφ=>hφ)) (fun ⟨n528,l396,l399,i402,A397,c398,A400,c401⟩ u ⟨hlp,hc398,hc401⟩=>?_)
  obtain ⟨o2,hm,hnx2⟩:=lp_step hlp
  clear hlp
  replace hm : m_peer_writer_entries_s2 p1 l396 l399 i402 = some o2:=hm
  unfold m_peer_writer_entries_s2 at hm
  refine c_flat [(2,Vp g1),(14,.slice Ap1_0 p1.length cp1_0),(15,Vi (p1.length : Int)),(16,Vi i402)] ⟨rfl,rfl,rfl,rfl,trivial⟩ (fun u=>?_)
  refine c_sta ⟨w0,M,(1000,go0,.cells #[.slice A397 l396.length c398,mapV A400] 94 (0,0))::(100020,g1,.cells #[Vp go0] 63 (0,0))::H,(1000,⟨.slice A397 l396.length c398,5,1,l396.length,l396.flatMap (fun x : Int=>[Value.int .u8 x])⟩)::(1001,⟨mapV A400,92,2,l399.length,l399.flatMap (mcell (fun x : ByteArray=>Value.string x) (fun x : Int=>Value.int .i64 x))⟩)::R,φ⟩ (fun _ h=>h)<|c_seq<|c_region<|g_v rfl (r_lss rfl rfl)<|g_nil<|d_then<|c_seq ?_
  refine c_cond rfl (fun h529=>?_) (fun h529=>?_)
  ·
   replace hm:=ite_t hm (of_decide_eq_true h529)
   refine c_skip<|d_then<|c_seq<|c_block<|c_seq<|c_region ?_
   replace hm:=bnd hm
   obtain ⟨x530,hx530,hm⟩:=hm
   obtain ⟨pp534,hv535,hz536,hcp537⟩:=DOk.at_ hcp1_0.1 hx530
   refine g_know _ (fun W hS=>cl_at (p:=(Sta.mk w0 M H R φ).ok) (sz:=9) (fun _=>rfl) (by decide) (ok_pre (H1:=[_,_]) (R1:=[_,_]) hS (fun W h=>h)) fp1_0 hv535) ?_
   rintro ⟨ad531,hA533,f532⟩
   have f538:=fun (W : World) (h : (Sta.mk w0 M H R φ).ok W)=>(fop1_0 W h _ hz536)
   refine g_v rfl (r_ix Try.underlying25 Try.sizeOf41 rfl hA533 rfl hx530)<|g_v rfl (r_ldA rfl Try.isAgg41 Try.sizeOf41 (fun W hS=>(f532 W (ok_pre (H1:=[_,_]) (R1:=[_,_]) hS (fun W h=>h))).take 9) rfl) ?_
   refine g_e rfl (e_alloc 100050 Try.zeroValue41) (fun g539 _=>?_)
   refine g_storeL (tag:=100050) rfl rfl rfl rfl Try.sizeOf41 rfl rfl<|g_nil<|d_then<|c_seq<|c_region<|g_v rfl (r_field (n:=0) Try.underlying63 rfl Try.sizeOf60 rfl rfl)<|g_v rfl (r_load (tag:=100020) rfl rfl rfl Try.isAgg60)<|g_v rfl (r_field (n:=0) Try.underlying41 rfl Try.sizeOf3 rfl rfl)<|g_v rfl (r_load (tag:=100050) rfl rfl rfl Try.isAgg3)<|g_v rfl (r_conv Try.underlying3 Try.underlying5 rfl rfl) ?_
   replace hm:=bnd hm
   obtain ⟨x540,hx541,hm⟩:=hm
   refine g_cn ⟨w0,M,(1000,go0,.cells #[.slice A397 l396.length c398,mapV A400] 94 (0,0))::(100050,g539,.cells #[Vi x530.fKind,Vs x530.fName,Vu x530.fType,Vu x530.fClass,.slice pp534.pA0 x530.fRecords.length pp534.pC0,Vi x530.fUntil,Vi x530.fRank,Vi x530.fEpoch,Vi x530.fSource] 41 (0,0))::(100020,g1,.cells #[Vp go0] 63 (0,0))::H,(1000,⟨.slice A397 l396.length c398,5,1,l396.length,l396.flatMap (fun x : Int=>[Value.int .u8 x])⟩)::(1001,⟨mapV A400,92,2,l399.length,l399.flatMap (mcell (fun x : ByteArray=>Value.string x) (fun x : Int=>Value.int .i64 x))⟩)::R,φ⟩ (fun W h=>(ok_front (t:=1000) (t':=1000) (ok_frontR (t:=1000) (t':=1000) (ok_frontR (t:=1001) (t':=1001) h rfl) rfl) rfl)) Try.call24 rfl rfl (c_pack_Packer_Byte (IntKind.u8.wrap x530.fKind) go0 (⟨l396,l399⟩ : Gpack_Packer) A397 c398 hc398 A400 c401 trivial _ hx541) (fun ⟨A542,c543⟩ hc543=>?_)
   refine g_sta _ (fun W h=>(ok_frontR (t:=2000) (t':=1000) (ok_frontR (t:=1001) (t':=1001) (ok_front (t:=1000) (t':=1000) h rfl) rfl) rfl))<|g_nil<|d_then ?_
   refine c_flat [(2,Vp g1),(5,Vp g539),(14,.slice Ap1_0 p1.length cp1_0),(15,Vi (p1.length : Int)),(16,Vi i402)] ⟨rfl,rfl,rfl,rfl,rfl,trivial⟩ (fun u=>?_)
   refine c_sta ⟨w0,M,(1000,go0,.cells #[.slice A542 x540.fb.length c543,mapV A400] 94 (0,0))::(100050,g539,.cells #[Vi x530.fKind,Vs x530.fName,Vu x530.fType,Vu x530.fClass,.slice pp534.pA0 x530.fRecords.length pp534.pC0,Vi x530.fUntil,Vi x530.fRank,Vi x530.fEpoch,Vi x530.fSource] 41 (0,0))::(100020,g1,.cells #[Vp go0] 63 (0,0))::H,(1000,⟨.slice A542 x540.fb.length c543,5,1,x540.fb.length,x540.fb.flatMap (fun x : Int=>[Value.int .u8 x])⟩)::(1001,⟨mapV A400,92,2,l399.length,l399.flatMap (mcell (fun x : ByteArray=>Value.string x) (fun x : Int=>Value.int .i64 x))⟩)::R,φ⟩ (fun _ h=>h)<|c_seq<|c_region<|g_v rfl (r_field (n:=0) Try.underlying63 rfl Try.sizeOf60 rfl rfl)<|g_v rfl (r_load (tag:=100020) rfl rfl rfl Try.isAgg60)<|g_v rfl (r_field (n:=1) Try.underlying41 rfl Try.sizeOf9 rfl rfl)<|g_v rfl (r_load (tag:=100050) rfl rfl rfl Try.isAgg9) ?_
   replace hm:=bnd hm
   obtain ⟨⟨x545,x546⟩,hx547,hm⟩:=hm
   refine g_cn ⟨w0,M,(1000,go0,.cells #[.slice A542 x540.fb.length c543,mapV A400] 94 (0,0))::(100050,g539,.cells #[Vi x530.fKind,Vs x530.fName,Vu x530.fType,Vu x530.fClass,.slice pp534.pA0 x530.fRecords.length pp534.pC0,Vi x530.fUntil,Vi x530.fRank,Vi x530.fEpoch,Vi x530.fSource] 41 (0,0))::(100020,g1,.cells #[Vp go0] 63 (0,0))::H,(1000,⟨.slice A542 x540.fb.length c543,5,1,x540.fb.length,x540.fb.flatMap (fun x : Int=>[Value.int .u8 x])⟩)::(1001,⟨mapV A400,92,2,l399.length,l399.flatMap (mcell (fun x : ByteArray=>Value.string x) (fun x : Int=>Value.int .i64 x))⟩)::R,φ⟩ (fun W h=>(ok_front (t:=1000) (t':=1000) (ok_frontR (t:=1000) (t':=1000) (ok_frontR (t:=1001) (t':=1001) h rfl) rfl) rfl)) Try.call26 rfl rfl (c_pack_Packer_Name x530.fName false go0 (⟨x540.fb,l399⟩ : Gpack_Packer) A542 c543 hc543 A400 c401 trivial _ hx547) (fun ⟨A548,c549,A551,c552⟩ ⟨hc549,hc552⟩=>?_)
   refine g_sta _ (fun W h=>(ok_frontR (t:=2000) (t':=1000) (ok_frontR (t:=2001) (t':=1001) (ok_front (t:=1000) (t':=1000) h rfl) rfl) rfl))<|g_nil<|d_then<|c_seq<|c_region<|g_v rfl (r_field (n:=0) Try.underlying63 rfl Try.sizeOf60 rfl rfl)<|g_v rfl (r_load (tag:=100020) rfl rfl rfl Try.isAgg60)<|g_v rfl (r_field (n:=2) Try.underlying41 rfl Try.sizeOf22 rfl rfl)<|g_v rfl (r_load (tag:=100050) rfl rfl rfl Try.isAgg22) ?_
   replace hm:=bnd hm
   obtain ⟨x555,hx556,hm⟩:=hm
   refine g_cn ⟨w0,M,(1000,go0,.cells #[.slice A548 x546.fb.length c549,mapV A551] 94 (0,0))::(100050,g539,.cells #[Vi x530.fKind,Vs x530.fName,Vu x530.fType,Vu x530.fClass,.slice pp534.pA0 x530.fRecords.length pp534.pC0,Vi x530.fUntil,Vi x530.fRank,Vi x530.fEpoch,Vi x530.fSource] 41 (0,0))::(100020,g1,.cells #[Vp go0] 63 (0,0))::H,(1000,⟨.slice A548 x546.fb.length c549,5,1,x546.fb.length,x546.fb.flatMap (fun x : Int=>[Value.int .u8 x])⟩)::(1001,⟨mapV A551,92,2,x546.fplaces.length,x546.fplaces.flatMap (mcell (fun x : ByteArray=>Value.string x) (fun x : Int=>Value.int .i64 x))⟩)::R,φ⟩ (fun W h=>(ok_front (t:=1000) (t':=1000) (ok_frontR (t:=1000) (t':=1000) (ok_frontR (t:=1001) (t':=1001) h rfl) rfl) rfl)) Try.call27 rfl rfl (c_pack_Packer_Word x530.fType go0 x546 A548 c549 hc549 A551 c552 trivial _ hx556) (fun ⟨A557,c558⟩ hc558=>?_)
   refine g_sta _ (fun W h=>(ok_frontR (t:=2000) (t':=1000) (ok_frontR (t:=1001) (t':=1001) (ok_front (t:=1000) (t':=1000) h rfl) rfl) rfl))<|g_nil<|d_then ?_
   refine c_flat [(2,Vp g1),(5,Vp g539),(14,.slice Ap1_0 p1.length cp1_0),(15,Vi (p1.length : Int)),(16,Vi i402)] ⟨rfl,rfl,rfl,rfl,rfl,trivial⟩ (fun u=>?_)
   refine c_sta ⟨w0,M,(1000,go0,.cells #[.slice A557 x555.fb.length c558,mapV A551] 94 (0,0))::(100050,g539,.cells #[Vi x530.fKind,Vs x530.fName,Vu x530.fType,Vu x530.fClass,.slice pp534.pA0 x530.fRecords.length pp534.pC0,Vi x530.fUntil,Vi x530.fRank,Vi x530.fEpoch,Vi x530.fSource] 41 (0,0))::(100020,g1,.cells #[Vp go0] 63 (0,0))::H,(1000,⟨.slice A557 x555.fb.length c558,5,1,x555.fb.length,x555.fb.flatMap (fun x : Int=>[Value.int .u8 x])⟩)::(1001,⟨mapV A551,92,2,x546.fplaces.length,x546.fplaces.flatMap (mcell (fun x : ByteArray=>Value.string x) (fun x : Int=>Value.int .i64 x))⟩)::R,φ⟩ (fun _ h=>h)<|c_seq<|c_region<|g_v rfl (r_field (n:=0) Try.underlying63 rfl Try.sizeOf60 rfl rfl)<|g_v rfl (r_load (tag:=100020) rfl rfl rfl Try.isAgg60)<|g_v rfl (r_field (n:=3) Try.underlying41 rfl Try.sizeOf22 rfl rfl)<|g_v rfl (r_load (tag:=100050) rfl rfl rfl Try.isAgg22) ?_
   replace hm:=bnd hm
   obtain ⟨x560,hx561,hm⟩:=hm
   refine g_cn ⟨w0,M,(1000,go0,.cells #[.slice A557 x555.fb.length c558,mapV A551] 94 (0,0))::(100050,g539,.cells #[Vi x530.fKind,Vs x530.fName,Vu x530.fType,Vu x530.fClass,.slice pp534.pA0 x530.fRecords.length pp534.pC0,Vi x530.fUntil,Vi x530.fRank,Vi x530.fEpoch,Vi x530.fSource] 41 (0,0))::(100020,g1,.cells #[Vp go0] 63 (0,0))::H,(1000,⟨.slice A557 x555.fb.length c558,5,1,x555.fb.length,x555.fb.flatMap (fun x : Int=>[Value.int .u8 x])⟩)::(1001,⟨mapV A551,92,2,x546.fplaces.length,x546.fplaces.flatMap (mcell (fun x : ByteArray=>Value.string x) (fun x : Int=>Value.int .i64 x))⟩)::R,φ⟩ (fun W h=>(ok_front (t:=1000) (t':=1000) (ok_frontR (t:=1000) (t':=1000) (ok_frontR (t:=1001) (t':=1001) h rfl) rfl) rfl)) Try.call27 rfl rfl (c_pack_Packer_Word x530.fClass go0 (⟨x555.fb,x546.fplaces⟩ : Gpack_Packer) A557 c558 hc558 A551 c552 trivial _ hx561) (fun ⟨A562,c563⟩ hc563=>?_)
   refine g_sta _ (fun W h=>(ok_frontR (t:=2000) (t':=1000) (ok_frontR (t:=1001) (t':=1001) (ok_front (t:=1000) (t':=1000) h rfl) rfl) rfl))<|g_nil<|d_then<|c_seq<|c_region<|g_v rfl (r_loadA (tag:=100020) rfl rfl Try.isAgg63 Try.sizeOf63 rfl rfl)<|g_v rfl (r_field (n:=5) Try.underlying41 rfl Try.sizeOf3 rfl rfl)<|g_v rfl (r_load (tag:=100050) rfl rfl rfl Try.isAgg3) ?_
   refine g_e rfl (e_lit (tag:=100440) (l:=[x530.fUntil]) (enc:=(fun x : Int=>[Value.int .i64 x])) (sz:=1) rfl Try.underlying27 (lit3_11 _) rfl rfl (fun _=>rfl)) (fun g565 _=>?_)
   replace hm:=bnd hm
   obtain ⟨x566,hx567,hm⟩:=hm
   refine g_cn ⟨w0,M,(1000,go0,.cells #[.slice A562 x560.fb.length c563,mapV A551] 94 (0,0))::(100050,g539,.cells #[Vi x530.fKind,Vs x530.fName,Vu x530.fType,Vu x530.fClass,.slice pp534.pA0 x530.fRecords.length pp534.pC0,Vi x530.fUntil,Vi x530.fRank,Vi x530.fEpoch,Vi x530.fSource] 41 (0,0))::(100020,g1,.cells #[Vp go0] 63 (0,0))::H,(1000,⟨.slice A562 x560.fb.length c563,5,1,x560.fb.length,x560.fb.flatMap (fun x : Int=>[Value.int .u8 x])⟩)::(1001,⟨mapV A551,92,2,x546.fplaces.length,x546.fplaces.flatMap (mcell (fun x : ByteArray=>Value.string x) (fun x : Int=>Value.int .i64 x))⟩)::(100440,⟨.slice (some ⟨g565,0,none⟩) [x530.fUntil].length 1,3,1,[x530.fUntil].length,[x530.fUntil].flatMap (fun x : Int=>[Value.int .i64 x])⟩)::R,φ⟩ (fun W h=>(ok_front (t:=1000) (t':=1000) (ok_frontR (t:=1000) (t':=1000) (ok_frontR (t:=1001) (t':=1001) h rfl) rfl) rfl)) Try.call25 rfl rfl (c_peer_writer_eight [x530.fUntil] (some ⟨g565,0,none⟩) 1 (Nat.le_refl _) (fun W hS=>rowCl (tag:=100440) rfl W hS) go0 (⟨x560.fb,x546.fplaces⟩ : Gpack_Packer) A562 c563 hc563 A551 c552 trivial _ hx567) (fun ⟨A568,c569⟩ hc569=>?_)
   refine g_sta _ (fun W h=>(ok_frontR (t:=2000) (t':=1000) (ok_frontR (t:=1001) (t':=1001) (ok_front (t:=1000) (t':=1000) h rfl) rfl) rfl))<|g_nil<|d_then ?_
   refine c_flat [(2,Vp g1),(5,Vp g539),(14,.slice Ap1_0 p1.length cp1_0),(15,Vi (p1.length : Int)),(16,Vi i402)] ⟨rfl,rfl,rfl,rfl,rfl,trivial⟩ (fun u=>?_)
   refine c_sta ⟨w0,M,(1000,go0,.cells #[.slice A568 x566.fb.length c569,mapV A551] 94 (0,0))::(100050,g539,.cells #[Vi x530.fKind,Vs x530.fName,Vu x530.fType,Vu x530.fClass,.slice pp534.pA0 x530.fRecords.length pp534.pC0,Vi x530.fUntil,Vi x530.fRank,Vi x530.fEpoch,Vi x530.fSource] 41 (0,0))::(100020,g1,.cells #[Vp go0] 63 (0,0))::H,(1000,⟨.slice A568 x566.fb.length c569,5,1,x566.fb.length,x566.fb.flatMap (fun x : Int=>[Value.int .u8 x])⟩)::(1001,⟨mapV A551,92,2,x546.fplaces.length,x546.fplaces.flatMap (mcell (fun x : ByteArray=>Value.string x) (fun x : Int=>Value.int .i64 x))⟩)::(100440,⟨.slice (some ⟨g565,0,none⟩) [x530.fUntil].length 1,3,1,[x530.fUntil].length,[x530.fUntil].flatMap (fun x : Int=>[Value.int .i64 x])⟩)::R,φ⟩ (fun _ h=>h)<|c_seq<|c_region<|g_v rfl (r_field (n:=0) Try.underlying63 rfl Try.sizeOf60 rfl rfl)<|g_v rfl (r_load (tag:=100020) rfl rfl rfl Try.isAgg60)<|g_v rfl (r_field (n:=6) Try.underlying41 rfl Try.sizeOf3 rfl rfl)<|g_v rfl (r_load (tag:=100050) rfl rfl rfl Try.isAgg3)<|g_v rfl (r_conv Try.underlying3 Try.underlying5 rfl rfl) ?_
   replace hm:=bnd hm
   obtain ⟨x571,hx572,hm⟩:=hm
   refine g_cn ⟨w0,M,(1000,go0,.cells #[.slice A568 x566.fb.length c569,mapV A551] 94 (0,0))::(100050,g539,.cells #[Vi x530.fKind,Vs x530.fName,Vu x530.fType,Vu x530.fClass,.slice pp534.pA0 x530.fRecords.length pp534.pC0,Vi x530.fUntil,Vi x530.fRank,Vi x530.fEpoch,Vi x530.fSource] 41 (0,0))::(100020,g1,.cells #[Vp go0] 63 (0,0))::H,(1000,⟨.slice A568 x566.fb.length c569,5,1,x566.fb.length,x566.fb.flatMap (fun x : Int=>[Value.int .u8 x])⟩)::(1001,⟨mapV A551,92,2,x546.fplaces.length,x546.fplaces.flatMap (mcell (fun x : ByteArray=>Value.string x) (fun x : Int=>Value.int .i64 x))⟩)::(100440,⟨.slice (some ⟨g565,0,none⟩) [x530.fUntil].length 1,3,1,[x530.fUntil].length,[x530.fUntil].flatMap (fun x : Int=>[Value.int .i64 x])⟩)::R,φ⟩ (fun W h=>(ok_front (t:=1000) (t':=1000) (ok_frontR (t:=1000) (t':=1000) (ok_frontR (t:=1001) (t':=1001) h rfl) rfl) rfl)) Try.call24 rfl rfl (c_pack_Packer_Byte (IntKind.u8.wrap x530.fRank) go0 (⟨x566.fb,x546.fplaces⟩ : Gpack_Packer) A568 c569 hc569 A551 c552 trivial _ hx572) (fun ⟨A573,c574⟩ hc574=>?_)
   refine g_sta _ (fun W h=>(ok_frontR (t:=2000) (t':=1000) (ok_frontR (t:=1001) (t':=1001) (ok_front (t:=1000) (t':=1000) h rfl) rfl) rfl))<|g_nil<|d_then<|c_seq<|c_region<|g_v rfl (r_loadA (tag:=100020) rfl rfl Try.isAgg63 Try.sizeOf63 rfl rfl)<|g_v rfl (r_field (n:=7) Try.underlying41 rfl Try.sizeOf3 rfl rfl)<|g_v rfl (r_load (tag:=100050) rfl rfl rfl Try.isAgg3)<|g_v rfl (r_field (n:=8) Try.underlying41 rfl Try.sizeOf3 rfl rfl)<|g_v rfl (r_load (tag:=100050) rfl rfl rfl Try.isAgg3) ?_
   refine g_e rfl (e_lit (tag:=100570) (l:=[x530.fEpoch,x530.fSource]) (enc:=(fun x : Int=>[Value.int .i64 x])) (sz:=1) rfl Try.underlying27 (lit3_17 _ _) rfl rfl (fun _=>rfl)) (fun g576 _=>?_)
   replace hm:=bnd hm
   obtain ⟨x577,hx578,hm⟩:=hm
   refine g_cn ⟨w0,M,(1000,go0,.cells #[.slice A573 x571.fb.length c574,mapV A551] 94 (0,0))::(100050,g539,.cells #[Vi x530.fKind,Vs x530.fName,Vu x530.fType,Vu x530.fClass,.slice pp534.pA0 x530.fRecords.length pp534.pC0,Vi x530.fUntil,Vi x530.fRank,Vi x530.fEpoch,Vi x530.fSource] 41 (0,0))::(100020,g1,.cells #[Vp go0] 63 (0,0))::H,(1000,⟨.slice A573 x571.fb.length c574,5,1,x571.fb.length,x571.fb.flatMap (fun x : Int=>[Value.int .u8 x])⟩)::(1001,⟨mapV A551,92,2,x546.fplaces.length,x546.fplaces.flatMap (mcell (fun x : ByteArray=>Value.string x) (fun x : Int=>Value.int .i64 x))⟩)::(100570,⟨.slice (some ⟨g576,0,none⟩) [x530.fEpoch,x530.fSource].length 2,3,1,[x530.fEpoch,x530.fSource].length,[x530.fEpoch,x530.fSource].flatMap (fun x : Int=>[Value.int .i64 x])⟩)::(100440,⟨.slice (some ⟨g565,0,none⟩) [x530.fUntil].length 1,3,1,[x530.fUntil].length,[x530.fUntil].flatMap (fun x : Int=>[Value.int .i64 x])⟩)::R,φ⟩ (fun W h=>(ok_front (t:=1000) (t':=1000) (ok_frontR (t:=1000) (t':=1000) (ok_frontR (t:=1001) (t':=1001) h rfl) rfl) rfl)) Try.call25 rfl rfl (c_peer_writer_eight [x530.fEpoch,x530.fSource] (some ⟨g576,0,none⟩) 2 (Nat.le_refl _) (fun W hS=>rowCl (tag:=100570) rfl W hS) go0 (⟨x571.fb,x546.fplaces⟩ : Gpack_Packer) A573 c574 hc574 A551 c552 trivial _ hx578) (fun ⟨A579,c580⟩ hc580=>?_)
   refine g_sta _ (fun W h=>(ok_frontR (t:=2000) (t':=1000) (ok_frontR (t:=1001) (t':=1001) (ok_front (t:=1000) (t':=1000) h rfl) rfl) rfl))<|g_nil<|d_then ?_
   refine c_flat [(2,Vp g1),(5,Vp g539),(14,.slice Ap1_0 p1.length cp1_0),(15,Vi (p1.length : Int)),(16,Vi i402)] ⟨rfl,rfl,rfl,rfl,rfl,trivial⟩ (fun u=>?_)
   refine c_sta ⟨w0,M,(1000,go0,.cells #[.slice A579 x577.fb.length c580,mapV A551] 94 (0,0))::(100050,g539,.cells #[Vi x530.fKind,Vs x530.fName,Vu x530.fType,Vu x530.fClass,.slice pp534.pA0 x530.fRecords.length pp534.pC0,Vi x530.fUntil,Vi x530.fRank,Vi x530.fEpoch,Vi x530.fSource] 41 (0,0))::(100020,g1,.cells #[Vp go0] 63 (0,0))::H,(1000,⟨.slice A579 x577.fb.length c580,5,1,x577.fb.length,x577.fb.flatMap (fun x : Int=>[Value.int .u8 x])⟩)::(1001,⟨mapV A551,92,2,x546.fplaces.length,x546.fplaces.flatMap (mcell (fun x : ByteArray=>Value.string x) (fun x : Int=>Value.int .i64 x))⟩)::(100570,⟨.slice (some ⟨g576,0,none⟩) [x530.fEpoch,x530.fSource].length 2,3,1,[x530.fEpoch,x530.fSource].length,[x530.fEpoch,x530.fSource].flatMap (fun x : Int=>[Value.int .i64 x])⟩)::(100440,⟨.slice (some ⟨g565,0,none⟩) [x530.fUntil].length 1,3,1,[x530.fUntil].length,[x530.fUntil].flatMap (fun x : Int=>[Value.int .i64 x])⟩)::R,φ⟩ (fun _ h=>h)<|c_seq<|c_region<|g_v rfl (r_field (n:=0) Try.underlying63 rfl Try.sizeOf60 rfl rfl)<|g_v rfl (r_load (tag:=100020) rfl rfl rfl Try.isAgg60)<|g_v rfl (r_field (n:=4) Try.underlying41 rfl Try.sizeOf39 rfl rfl)<|g_v rfl (r_load (tag:=100050) rfl rfl rfl Try.isAgg39)<|g_v rfl (r_lenL Try.underlying39 rfl)<|g_v rfl (r_conv Try.underlying3 Try.underlying5 rfl rfl) ?_
   replace hm:=bnd hm
   obtain ⟨x582,hx583,hm⟩:=hm
   refine g_cn ⟨w0,M,(1000,go0,.cells #[.slice A579 x577.fb.length c580,mapV A551] 94 (0,0))::(100050,g539,.cells #[Vi x530.fKind,Vs x530.fName,Vu x530.fType,Vu x530.fClass,.slice pp534.pA0 x530.fRecords.length pp534.pC0,Vi x530.fUntil,Vi x530.fRank,Vi x530.fEpoch,Vi x530.fSource] 41 (0,0))::(100020,g1,.cells #[Vp go0] 63 (0,0))::H,(1000,⟨.slice A579 x577.fb.length c580,5,1,x577.fb.length,x577.fb.flatMap (fun x : Int=>[Value.int .u8 x])⟩)::(1001,⟨mapV A551,92,2,x546.fplaces.length,x546.fplaces.flatMap (mcell (fun x : ByteArray=>Value.string x) (fun x : Int=>Value.int .i64 x))⟩)::(100570,⟨.slice (some ⟨g576,0,none⟩) [x530.fEpoch,x530.fSource].length 2,3,1,[x530.fEpoch,x530.fSource].length,[x530.fEpoch,x530.fSource].flatMap (fun x : Int=>[Value.int .i64 x])⟩)::(100440,⟨.slice (some ⟨g565,0,none⟩) [x530.fUntil].length 1,3,1,[x530.fUntil].length,[x530.fUntil].flatMap (fun x : Int=>[Value.int .i64 x])⟩)::R,φ⟩ (fun W h=>(ok_front (t:=1000) (t':=1000) (ok_frontR (t:=1000) (t':=1000) (ok_frontR (t:=1001) (t':=1001) h rfl) rfl) rfl)) Try.call24 rfl rfl (c_pack_Packer_Byte (IntKind.u8.wrap (x530.fRecords.length : Int)) go0 (⟨x577.fb,x546.fplaces⟩ : Gpack_Packer) A579 c580 hc580 A551 c552 trivial _ hx583) (fun ⟨A584,c585⟩ hc585=>?_)
   refine g_sta _ (fun W h=>(ok_frontR (t:=2000) (t':=1000) (ok_frontR (t:=1001) (t':=1001) (ok_front (t:=1000) (t':=1000) h rfl) rfl) rfl))<|g_nil<|d_then<|c_seq<|c_region<|g_v rfl (r_field (n:=4) Try.underlying41 rfl Try.sizeOf39 rfl rfl)<|g_v rfl (r_load (tag:=100050) rfl rfl rfl Try.isAgg39)<|g_v rfl (r_lenL Try.underlying39 rfl)<|g_v rfl r_move<|g_nil ?_
   refine d_then ?_
   refine c_flat [(2,Vp g1),(14,.slice Ap1_0 p1.length cp1_0),(15,Vi (p1.length : Int)),(16,Vi i402),(67,.slice pp534.pA0 x530.fRecords.length pp534.pC0),(68,Vi (x530.fRecords.length : Int)),(69,Vi 0)] ⟨rfl,rfl,rfl,rfl,rfl,rfl,rfl,trivial⟩ (fun u=>?_)
   refine c_sta ⟨w0,M,(1000,go0,.cells #[.slice A584 x582.fb.length c585,mapV A551] 94 (0,0))::(100050,g539,.cells #[Vi x530.fKind,Vs x530.fName,Vu x530.fType,Vu x530.fClass,.slice pp534.pA0 x530.fRecords.length pp534.pC0,Vi x530.fUntil,Vi x530.fRank,Vi x530.fEpoch,Vi x530.fSource] 41 (0,0))::(100020,g1,.cells #[Vp go0] 63 (0,0))::H,(1000,⟨.slice A584 x582.fb.length c585,5,1,x582.fb.length,x582.fb.flatMap (fun x : Int=>[Value.int .u8 x])⟩)::(1001,⟨mapV A551,92,2,x546.fplaces.length,x546.fplaces.flatMap (mcell (fun x : ByteArray=>Value.string x) (fun x : Int=>Value.int .i64 x))⟩)::(100570,⟨.slice (some ⟨g576,0,none⟩) [x530.fEpoch,x530.fSource].length 2,3,1,[x530.fEpoch,x530.fSource].length,[x530.fEpoch,x530.fSource].flatMap (fun x : Int=>[Value.int .i64 x])⟩)::(100440,⟨.slice (some ⟨g565,0,none⟩) [x530.fUntil].length 1,3,1,[x530.fUntil].length,[x530.fUntil].flatMap (fun x : Int=>[Value.int .i64 x])⟩)::R,φ⟩ (fun _ h=>h) ?_
   refine c_cut (ι:=(List Int)×(List (ByteArray×Int))×Option Addr×Nat×Option Addr×Nat) [2,14,15,16] (fun ⟨l641,l644,A642,c643,A645,c646⟩=>[]) (fun ⟨l641,l644,A642,c643,A645,c646⟩=>⟨w0,M,(1000,go0,.cells #[.slice A642 l641.length c643,mapV A645] 94 (0,0))::(100020,g1,.cells #[Vp go0] 63 (0,0))::H,(1000,⟨.slice A642 l641.length c643,5,1,l641.length,l641.flatMap (fun x : Int=>[Value.int .u8 x])⟩)::(1001,⟨mapV A645,92,2,l644.length,l644.flatMap (mcell (fun x : ByteArray=>Value.string x) (fun x : Int=>Value.int .i64 x))⟩)::R,φ⟩) (fun ⟨l641,l644,A642,c643,A645,c646⟩=>m_peer_writer_entries_j3 i402 l641 l644 = some o2∧l641.length ≤ c643∧True) ?_ (fun ⟨l641,l644,A642,c643,A645,c646⟩ u ⟨hm,hc643,hc646⟩=>?_)
   ·
    refine c_block ?_
    replace hm:=bnd hm
    obtain ⟨out4,hl4,hr4⟩:=hm
    obtain ⟨n701',hl4⟩:=loop_lp hl4
    refine c_loopU (ι:=Nat×(List Int)×(List (ByteArray×Int))×Int×Option Addr×Nat×Option Addr×Nat) [2,14,15,16,67,68,69] (fun ⟨n701,l671,l674,i677,A672,c673,A675,c676⟩=>[(69,Vi i677)]) (fun ⟨n701,l671,l674,i677,A672,c673,A675,c676⟩=>⟨w0,M,(1000,go0,.cells #[.slice A672 l671.length c673,mapV A675] 94 (0,0))::(100020,g1,.cells #[Vp go0] 63 (0,0))::H,(1000,⟨.slice A672 l671.length c673,5,1,l671.length,l671.flatMap (fun x : Int=>[Value.int .u8 x])⟩)::(1001,⟨mapV A675,92,2,l674.length,l674.flatMap (mcell (fun x : ByteArray=>Value.string x) (fun x : Int=>Value.int .i64 x))⟩)::R,φ⟩) (fun ⟨n701,l671,l674,i677,A672,c673,A675,c676⟩=>Lp (fun s=>m_peer_writer_entries_s4 x530 s.1 s.2.1 s.2.2) n701 (l671,l674,i677) out4∧l671.length ≤ c673∧True) (fun ⟨n701,l671,l674,i677,A672,c673,A675,c676⟩=>n701) (n701',x582.fb,x546.fplaces,0,A584,c585,A551,c552) ⟨hl4,hc585,trivial⟩ ⟨rfl,rfl,rfl,rfl,rfl,rfl,rfl,trivial⟩ (fun W h=>(((h.dropR (t:=100570) rfl).dropR (t:=100440) rfl).dropH (t:=100050) rfl).phi (fun W hφ=>hφ)) (fun ⟨n701,l671,l674,i677,A672,c673,A675,c676⟩ u ⟨hlp,hc673,hc676⟩=>?_)
    obtain ⟨o4,hm,hnx4⟩:=lp_step hlp
    clear hlp
    replace hm : m_peer_writer_entries_s4 x530 l671 l674 i677 = some o4:=hm
    unfold m_peer_writer_entries_s4 at hm
    refine c_flat [(2,Vp g1),(14,.slice Ap1_0 p1.length cp1_0),(15,Vi (p1.length : Int)),(16,Vi i402),(67,.slice pp534.pA0 x530.fRecords.length pp534.pC0),(68,Vi (x530.fRecords.length : Int)),(69,Vi i677)] ⟨rfl,rfl,rfl,rfl,rfl,rfl,rfl,trivial⟩ (fun u=>?_)
    refine c_sta ⟨w0,M,(1000,go0,.cells #[.slice A672 l671.length c673,mapV A675] 94 (0,0))::(100020,g1,.cells #[Vp go0] 63 (0,0))::H,(1000,⟨.slice A672 l671.length c673,5,1,l671.length,l671.flatMap (fun x : Int=>[Value.int .u8 x])⟩)::(1001,⟨mapV A675,92,2,l674.length,l674.flatMap (mcell (fun x : ByteArray=>Value.string x) (fun x : Int=>Value.int .i64 x))⟩)::R,φ⟩ (fun _ h=>h)<|c_seq<|c_region<|g_v rfl (r_lss rfl rfl)<|g_nil<|d_then<|c_seq ?_
    refine c_cond rfl (fun h702=>?_) (fun h702=>?_)
    ·
     replace hm:=ite_t hm (of_decide_eq_true h702)
     refine c_skip<|d_then<|c_seq<|c_block<|c_seq<|c_region ?_
     replace hm:=bnd hm
     obtain ⟨x703,hx703,hm⟩:=hm
     refine g_know _ (fun W hS=>cl_at (p:=(Sta.mk w0 M H R φ).ok) (sz:=5) (fun _=>rfl) (by decide) (ok_pre (H1:=[_,_]) (R1:=[_,_]) hS (fun W h=>h)) f538 hx703) ?_
     rintro ⟨ad704,hA706,f705⟩
     refine g_v rfl (r_ix Try.underlying39 Try.sizeOf54 rfl hA706 rfl hx703)<|g_v rfl (r_ldA rfl Try.isAgg54 Try.sizeOf54 (fun W hS=>(f705 W (ok_pre (H1:=[_,_]) (R1:=[_,_]) hS (fun W h=>h))).take 5) rfl) ?_
     refine g_e rfl (e_alloc 100070 Try.zeroValue54) (fun g707 _=>?_)
     refine g_storeL (tag:=100070) rfl rfl rfl rfl Try.sizeOf54 rfl rfl<|g_nil<|d_then<|c_region<|g_v rfl (r_field (n:=0) Try.underlying63 rfl Try.sizeOf60 rfl rfl)<|g_v rfl (r_load (tag:=100020) rfl rfl rfl Try.isAgg60)<|g_v rfl (r_loadA (tag:=100070) rfl rfl Try.isAgg54 Try.sizeOf54 rfl rfl) ?_
     replace hm:=bnd hm
     obtain ⟨⟨x708,x709⟩,hx710,hm⟩:=hm
     refine g_cn ⟨w0,M,(1000,go0,.cells #[.slice A672 l671.length c673,mapV A675] 94 (0,0))::(100070,g707,.cells #[Vs x703.fName,Vu x703.fType,Vu x703.fClass,.int .u32 x703.fTTL,Vs x703.fData] 54 (0,0))::(100020,g1,.cells #[Vp go0] 63 (0,0))::H,(1000,⟨.slice A672 l671.length c673,5,1,l671.length,l671.flatMap (fun x : Int=>[Value.int .u8 x])⟩)::(1001,⟨mapV A675,92,2,l674.length,l674.flatMap (mcell (fun x : ByteArray=>Value.string x) (fun x : Int=>Value.int .i64 x))⟩)::R,φ⟩ (fun W h=>(ok_front (t:=1000) (t':=1000) (ok_frontR (t:=1000) (t':=1000) (ok_frontR (t:=1001) (t':=1001) h rfl) rfl) rfl)) Try.call53 rfl rfl (c_record_Put x703 go0 (⟨l671,l674⟩ : Gpack_Packer) A672 c673 hc673 A675 c676 trivial _ hx710) (fun ⟨A711,c712,A714,c715⟩ ⟨hc712,hc715⟩=>?_)
     refine g_sta _ (fun W h=>(ok_frontR (t:=2000) (t':=1000) (ok_frontR (t:=2001) (t':=1001) (ok_front (t:=1000) (t':=1000) h rfl) rfl) rfl))<|g_nil<|d_normal_block<|d_then ?_
     refine c_flat [(2,Vp g1),(14,.slice Ap1_0 p1.length cp1_0),(15,Vi (p1.length : Int)),(16,Vi i402),(67,.slice pp534.pA0 x530.fRecords.length pp534.pC0),(68,Vi (x530.fRecords.length : Int)),(69,Vi i677)] ⟨rfl,rfl,rfl,rfl,rfl,rfl,rfl,trivial⟩ (fun u=>?_)
     refine c_sta ⟨w0,M,(1000,go0,.cells #[.slice A711 x709.fb.length c712,mapV A714] 94 (0,0))::(100070,g707,.cells #[Vs x703.fName,Vu x703.fType,Vu x703.fClass,.int .u32 x703.fTTL,Vs x703.fData] 54 (0,0))::(100020,g1,.cells #[Vp go0] 63 (0,0))::H,(1000,⟨.slice A711 x709.fb.length c712,5,1,x709.fb.length,x709.fb.flatMap (fun x : Int=>[Value.int .u8 x])⟩)::(1001,⟨mapV A714,92,2,x709.fplaces.length,x709.fplaces.flatMap (mcell (fun x : ByteArray=>Value.string x) (fun x : Int=>Value.int .i64 x))⟩)::R,φ⟩ (fun _ h=>h)<|c_region<|g_v rfl (r_add rfl rfl rfl)<|g_v rfl r_move<|g_nil ?_
     obtain ⟨n718,hn718,hlp⟩:=nx_inl hm hnx4
     exact d_round (n718,x709.fb,x709.fplaces,w64 (i677 + 1),A711,c712,A714,c715) ⟨hlp,hc712,trivial⟩ hn718 ⟨rfl,rfl,rfl,rfl,rfl,rfl,rfl,trivial⟩ (fun W h=>(h.dropH (t:=100070) rfl).phi (fun W hφ=>hφ))
    replace hm:=ite_f hm (of_decide_eq_false h702)
    refine c_exit<|d_exit_then<|d_exit_then<|d_exit_block ?_
    replace hm:=nx_out (C:=(fun e : (List Int)×(List (ByteArray×Int))=>m_peer_writer_entries_j3 i402 e.1 e.2 = some o2)) hm hnx4 hr4
    exact d_round (l671,l674,A672,c673,A675,c676) ⟨hm,hc673,trivial⟩ Nat.zero_lt_one ⟨rfl,rfl,rfl,rfl,trivial⟩ (fun W h=>h.phi (fun W hφ=>hφ))
   unfold m_peer_writer_entries_j3 at hm
   refine d_flat [(2,Vp g1),(14,.slice Ap1_0 p1.length cp1_0),(15,Vi (p1.length : Int)),(16,Vi i402)] ⟨rfl,rfl,rfl,rfl,trivial⟩ (fun u=>?_)
   refine d_sta ⟨w0,M,(1000,go0,.cells #[.slice A642 l641.length c643,mapV A645] 94 (0,0))::(100020,g1,.cells #[Vp go0] 63 (0,0))::H,(1000,⟨.slice A642 l641.length c643,5,1,l641.length,l641.flatMap (fun x : Int=>[Value.int .u8 x])⟩)::(1001,⟨mapV A645,92,2,l644.length,l644.flatMap (mcell (fun x : ByteArray=>Value.string x) (fun x : Int=>Value.int .i64 x))⟩)::R,φ⟩ (fun _ h=>h)<|d_normal_block<|d_then<|c_region<|g_v rfl (r_add rfl rfl rfl)<|g_v rfl r_move<|g_nil ?_
   obtain ⟨n647,hn647,hlp⟩:=nx_inl hm hnx2
   exact d_round (n647,l641,l644,w64 (i402 + 1),A642,c643,A645,c646) ⟨hlp,hc643,trivial⟩ hn647 ⟨rfl,rfl,rfl,rfl,trivial⟩ (fun W h=>h.phi (fun W hφ=>hφ))
  replace hm:=ite_f hm (of_decide_eq_false h529)
  refine c_exit<|d_exit_then<|d_exit_then<|d_exit_block ?_
  replace hm:=nx_out (C:=(fun e : (List Int)×(List (ByteArray×Int))=>m_peer_writer_entries_j1 e.1 e.2 = some r)) hm hnx2 hr2
  exact d_round (l396,l399,A397,c398,A400,c401) ⟨hm,hc398,trivial⟩ Nat.zero_lt_one trivial (fun W h=>(h.dropH (t:=100020) rfl).phi (fun W hφ=>hφ))
 unfold m_peer_writer_entries_j1 at hm
 refine d_flat [] trivial (fun u=>?_)
 refine d_sta ⟨w0,M,(1000,go0,.cells #[.slice A266 l265.length c267,mapV A269] 94 (0,0))::H,(1000,⟨.slice A266 l265.length c267,5,1,l265.length,l265.flatMap (fun x : Int=>[Value.int .u8 x])⟩)::(1001,⟨mapV A269,92,2,l268.length,l268.flatMap (mcell (fun x : ByteArray=>Value.string x) (fun x : Int=>Value.int .i64 x))⟩)::R,φ⟩ (fun _ h=>h) ?_
 cases hm
 refine d_sta _ (fun W h=>ok_frontR (t:=1001) (t':=2001) h rfl)<|d_sta _ (fun W h=>ok_frontR (t:=1000) (t':=2000) h rfl) ?_
 exact d_retC (A266,c267,A269,c270) Try.results29 (res_nil rfl) ⟨hc267,hc270⟩ (fun W h=>h.phi (fun W hφ=>hφ)) (.inl rfl)
theorem bld32_21 (z0 : Int) (z1 : Int) (z2 : Int) : ∀ W,(Instr.build 32 #[(0,Vi z0),(1,Vi z1),(2,Vi z2)]).run Try.prog W = .ok (.agg #[Vi z0,Vi z1,Vi z2]) W:=fun _=>by kernel_rfl
theorem lit3_22 (z0 : Int) (z1 : Int) (z2 : Int) (z3 : Int) : Try.prog.builtSlice 3 4 [(0,Vi z0),(1,Vi z1),(2,Vi z2),(3,Vi z3)] = some #[Vi z0,Vi z1,Vi z2,Vi z3]:=by kernel_rfl
noncomputable def m_plog_Data_j1  (l40 : List Int) : Option ByteArray:=
  some (strOfNums l40)
noncomputable def m_plog_Data_s2 (p0 : List Int) (l59 : List Int) (i62 : Int) : Option (((List Int)×Int) ⊕ (List Int)):=
  if i62 < (p0.length : Int) then
    (at_ p0 i62).bind fun x81=>
    (at_ l59 i62).bind fun x85=>
    (setAt l59 i62 (IntKind.u8.wrap x81)).bind fun l89=>
    some (.inl (l89,w64 (i62 + 1)))
  else
    some (.inr l59)
noncomputable def m_plog_Data (p0 : List Int) : Option ByteArray:=
  (mkL 1 (p0.length : Int) 0).bind fun l1=>
  (loop (fun s=>m_plog_Data_s2 p0 s.1 s.2) (l1,0)).bind fun e=>m_plog_Data_j1 e
theorem c_plog_Data {w0 : World} {M : Nat→Prop} {H : List (Nat×Nat×Obj)} {R : List (Nat×Row)} {φ : World→Prop} (p0 : List Int) (Ap0_0 : Option Addr) (cp0_0 : Nat) (hcp0_0 : p0.length ≤ cp0_0) (fp0_0 : ∀ W,(Sta.mk w0 M H R φ).ok W→Cl W Ap0_0 (p0.flatMap (fun x : Int=>[Value.int .i64 x]))) (r : ByteArray) (hm : m_plog_Data p0 = some r) :
    Cn Try.prog 54 #[.slice Ap0_0 p0.length cp0_0] ⟨w0,M,H,R,φ⟩ (fun x : Unit=>Vs r) (fun x=>True) (fun x=>⟨w0,M,H,R,φ⟩):=by
 unfold m_plog_Data at hm
 refine cn_intro (fn:=Try.f54) (N:=24) Try.func54 rfl Try.ntmps54 rfl<|c_seq<|c_region<|g_v rfl r_assign<|g_nil<|d_then<|c_seq<|c_region<|g_v rfl r_move<|g_v rfl (r_lenL Try.underlying27 rfl) ?_
 replace hm:=bnd hm
 obtain ⟨l1,hl1,hm⟩:=hm
 refine g_e rfl (e_make (tag:=11) (enc:=(fun x : Int=>[Value.int .u8 x])) Try.underlying91 inf5_16 rfl rfl rfl rfl hl1) (fun g2 _=>?_)
 refine g_v rfl r_assign<|g_nil<|d_then<|c_seq<|c_seq<|c_region<|g_v rfl r_move<|g_v rfl (r_lenL Try.underlying27 rfl)<|g_v rfl r_move<|g_nil ?_
 refine d_then ?_
 refine c_cut (ι:=(List Int)×Option Addr×Nat) [3] (fun ⟨l40,A41,c42⟩=>[(3,.slice A41 l40.length c42)]) (fun ⟨l40,A41,c42⟩=>⟨w0,M,H,(11,⟨.slice A41 l40.length c42,5,1,l40.length,l40.flatMap (fun x : Int=>[Value.int .u8 x])⟩)::R,φ⟩) (fun ⟨l40,A41,c42⟩=>m_plog_Data_j1 l40 = some r∧l40.length ≤ c42) ?_ (fun ⟨l40,A41,c42⟩ u ⟨hm,hc42⟩=>?_)
 ·
  refine c_block ?_
  replace hm:=bnd hm
  obtain ⟨out2,hl2,hr2⟩:=hm
  obtain ⟨n79',hl2⟩:=loop_lp hl2
  refine c_loopU (ι:=Nat×(List Int)×Int×Option Addr×Nat) [3,9,10,11] (fun ⟨n79,l59,i62,A60,c61⟩=>[(3,.slice A60 l59.length c61),(11,Vi i62)]) (fun ⟨n79,l59,i62,A60,c61⟩=>⟨w0,M,H,(11,⟨.slice A60 l59.length c61,5,1,l59.length,l59.flatMap (fun x : Int=>[Value.int .u8 x])⟩)::R,φ⟩) (fun ⟨n79,l59,i62,A60,c61⟩=>Lp (fun s=>m_plog_Data_s2 p0 s.1 s.2) n79 (l59,i62) out2∧l59.length ≤ c61) (fun ⟨n79,l59,i62,A60,c61⟩=>n79) (n79',l1,0,some ⟨g2,0,none⟩,l1.length) ⟨hl2,(Nat.le_refl _)⟩ ⟨rfl,rfl,rfl,rfl,trivial⟩ (fun W h=>h.phi (fun W hφ=>hφ)) (fun ⟨n79,l59,i62,A60,c61⟩ u ⟨hlp,hc61⟩=>?_)
  obtain ⟨o2,hm,hnx2⟩:=lp_step hlp
  clear hlp
  replace hm : m_plog_Data_s2 p0 l59 i62 = some o2:=hm
  unfold m_plog_Data_s2 at hm
  refine c_flat [(3,.slice A60 l59.length c61),(9,.slice Ap0_0 p0.length cp0_0),(10,Vi (p0.length : Int)),(11,Vi i62)] ⟨rfl,rfl,rfl,rfl,trivial⟩ (fun u=>?_)
  refine c_sta ⟨w0,M,H,(11,⟨.slice A60 l59.length c61,5,1,l59.length,l59.flatMap (fun x : Int=>[Value.int .u8 x])⟩)::R,φ⟩ (fun _ h=>h)<|c_seq<|c_region<|g_v rfl (r_lss rfl rfl)<|g_nil<|d_then<|c_seq ?_
  refine c_cond rfl (fun h80=>?_) (fun h80=>?_)
  ·
   replace hm:=ite_t hm (of_decide_eq_true h80)
   refine c_skip<|d_then<|c_seq<|c_block<|c_seq<|c_region<|g_v rfl r_move ?_
   replace hm:=bnd hm
   obtain ⟨x81,hx81,hm⟩:=hm
   refine g_know _ (fun W hS=>cl_at (p:=(Sta.mk w0 M H R φ).ok) (sz:=1) (fun _=>rfl) (by decide) (ok_pre (H1:=[]) (R1:=[_]) hS (fun W h=>h)) fp0_0 hx81) ?_
   rintro ⟨ad82,hA84,f83⟩
   refine g_v rfl (r_ix Try.underlying27 Try.sizeOf3 rfl hA84 rfl hx81)<|g_v rfl (r_ld rfl Try.isAgg3 (fun W hS=>Cl.head (f83 W (ok_pre (H1:=[]) (R1:=[_]) hS (fun W h=>h)))))<|g_v rfl r_assign<|g_v rfl r_assign<|g_nil<|d_then<|c_region ?_
   iterate 3 refine g_v rfl r_move ?_
   refine g_v rfl (r_conv Try.underlying3 Try.underlying5 rfl rfl) ?_
   replace hm:=bnd hm
   obtain ⟨x85,hx85,hm⟩:=hm
   refine g_know _ (fun W hS=>cl_at (p:=(Sta.ok ⟨w0,M,H,(11,⟨.slice A60 l59.length c61,5,1,l59.length,l59.flatMap (fun x : Int=>[Value.int .u8 x])⟩)::R,φ⟩)) (sz:=1) (fun _=>rfl) (by decide) hS (fun W hS=>rowCl (S:=⟨w0,M,H,(11,⟨.slice A60 l59.length c61,5,1,l59.length,l59.flatMap (fun x : Int=>[Value.int .u8 x])⟩)::R,φ⟩) (tag:=11) rfl W hS) hx85) ?_
   rintro ⟨ad86,hA88,f87⟩
   refine g_v rfl (r_ix Try.underlying91 Try.sizeOf5 rfl hA88 rfl hx85) ?_
   replace hm:=bnd hm
   obtain ⟨l89,hl89,hm⟩:=hm
   refine g_stR (tag:=11) (enc:=(fun x : Int=>[Value.int .u8 x])) (l:=l59) (off:=0) (vs:=[.int .u8 (IntKind.u8.wrap x81)]) (add0 rfl) hA88 rfl rfl hx85 hl89 rfl (Nat.le_of_ble_eq_true rfl) (fun _=>rfl) rfl rfl Try.sizeOf5 ?_
   rw [show l59.length = l89.length from (setAt_lenE hl89).symm]
   have hv91:=setAt_at hl89
   have f90:=cl_at2 (p:=(Sta.ok ⟨w0,M,H,(11,⟨.slice A60 l89.length c61,5,1,l89.length,l89.flatMap (fun x : Int=>[Value.int .u8 x])⟩)::R,φ⟩)) (enc:=(fun x : Int=>[Value.int .u8 x])) (sz:=1) (fun _=>rfl) hA88 (fun W hS=>rowCl (S:=⟨w0,M,H,(11,⟨.slice A60 l89.length c61,5,1,l89.length,l89.flatMap (fun x : Int=>[Value.int .u8 x])⟩)::R,φ⟩) (tag:=11) rfl W hS) hv91
   refine g_nil<|d_normal_block<|d_then ?_
   refine c_flat [(3,.slice A60 l89.length c61),(9,.slice Ap0_0 p0.length cp0_0),(10,Vi (p0.length : Int)),(11,Vi i62)] ⟨rfl,rfl,rfl,rfl,trivial⟩ (fun u=>?_)
   refine c_sta ⟨w0,M,H,(11,⟨.slice A60 l89.length c61,5,1,l89.length,l89.flatMap (fun x : Int=>[Value.int .u8 x])⟩)::R,φ⟩ (fun _ h=>h)<|c_region<|g_v rfl (r_add rfl rfl rfl)<|g_v rfl r_move<|g_nil ?_
   obtain ⟨n92,hn92,hlp⟩:=nx_inl hm hnx2
   exact d_round (n92,l89,w64 (i62 + 1),A60,c61) ⟨hlp,(setAt_len hc61 hl89)⟩ hn92 ⟨rfl,rfl,rfl,rfl,trivial⟩ (fun W h=>h.phi (fun W hφ=>hφ))
  replace hm:=ite_f hm (of_decide_eq_false h80)
  refine c_exit<|d_exit_then<|d_exit_then<|d_exit_block ?_
  replace hm:=nx_out (C:=(fun e : (List Int)=>m_plog_Data_j1 e = some r)) hm hnx2 hr2
  exact d_round (l59,A60,c61) ⟨hm,hc61⟩ Nat.zero_lt_one ⟨rfl,trivial⟩ (fun W h=>h.phi (fun W hφ=>hφ))
 unfold m_plog_Data_j1 at hm
 refine d_flat [(3,.slice A41 l40.length c42)] ⟨rfl,trivial⟩ (fun u=>?_)
 refine d_sta ⟨w0,M,H,(11,⟨.slice A41 l40.length c42,5,1,l40.length,l40.flatMap (fun x : Int=>[Value.int .u8 x])⟩)::R,φ⟩ (fun _ h=>h)<|d_then<|c_seq<|c_region<|g_v rfl r_move<|g_v rfl (r_textE Try.underlying91 Try.underlying5 Try.underlying9 rfl (fun W hS=>rowCl (tag:=11) rfl W hS))<|g_v rfl r_assign<|g_nil<|d_then<|c_ret ?_
 cases hm
 exact d_retC () Try.results54 (res_tmp (res_nil rfl)) trivial (fun W h=>ok_pre (H1:=[]) (R1:=[_]) h (fun W hφ=>hφ)) (.inr rfl)
noncomputable def m_peer_writer_note_j1 (p1 : GNote) (o0 : Gpack_Packer) (l127 : List Int) : Option Gpack_Packer:=
  (m_pack_Packer_Long (IntKind.u32.wrap (p1.fSnap.size : Int)) (⟨l127,o0.fplaces⟩ : Gpack_Packer)).bind fun x130=>
  (m_pack_Packer_Raw p1.fSnap (⟨x130.fb,o0.fplaces⟩ : Gpack_Packer)).bind fun x135=>
  some (⟨x135.fb,o0.fplaces⟩ : Gpack_Packer)
noncomputable def m_peer_writer_note_s2 (p1 : GNote) (o0 : Gpack_Packer) (l171 : List Int) (i174 : Int) : Option (((List Int)×Int) ⊕ (List Int)):=
  if i174 < (p1.fEntries.length : Int) then
    (at_ p1.fEntries i174).bind fun x208=>
    (m_peer_writer_eight [x208.fTerm] (⟨l171,o0.fplaces⟩ : Gpack_Packer)).bind fun x214=>
    (m_pack_Packer_Byte (IntKind.u8.wrap x208.fKind) (⟨x214.fb,o0.fplaces⟩ : Gpack_Packer)).bind fun x219=>
    (m_pack_Packer_Word (IntKind.u16.wrap (x208.fData.size : Int)) (⟨x219.fb,o0.fplaces⟩ : Gpack_Packer)).bind fun x224=>
    (m_pack_Packer_Raw x208.fData (⟨x224.fb,o0.fplaces⟩ : Gpack_Packer)).bind fun x229=>
    some (.inl (x229.fb,w64 (i174 + 1)))
  else
    some (.inr l171)
noncomputable def m_peer_writer_note (p1 : GNote) (o0 : Gpack_Packer) : Option Gpack_Packer:=
  (m_pack_Packer_Byte (IntKind.u8.wrap p1.fKind) o0).bind fun x3=>
  (m_pack_Packer_Byte (IntKind.u8.wrap p1.fFrom) (⟨x3.fb,o0.fplaces⟩ : Gpack_Packer)).bind fun x8=>
  (m_pack_Packer_Byte (IntKind.u8.wrap p1.fTo) (⟨x8.fb,o0.fplaces⟩ : Gpack_Packer)).bind fun x13=>
  (m_peer_writer_eight [p1.fTerm,p1.fIndex,p1.fLogTerm,p1.fCommit] (⟨x13.fb,o0.fplaces⟩ : Gpack_Packer)).bind fun x19=>
  (m_peer_writer_bit p1.fGood (⟨x19.fb,o0.fplaces⟩ : Gpack_Packer)).bind fun x24=>
  (m_pack_Packer_Byte (IntKind.u8.wrap (p1.fVoters.length : Int)) (⟨x24.fb,o0.fplaces⟩ : Gpack_Packer)).bind fun x29=>
  (m_plog_Data p1.fVoters).bind fun x48=>
  (m_pack_Packer_Raw x48 (⟨x29.fb,o0.fplaces⟩ : Gpack_Packer)).bind fun x50=>
  (m_pack_Packer_Byte (IntKind.u8.wrap (p1.fEntries.length : Int)) (⟨x50.fb,o0.fplaces⟩ : Gpack_Packer)).bind fun x55=>
  (loop (fun s=>m_peer_writer_note_s2 p1 o0 s.1 s.2) (x55.fb,0)).bind fun e=>m_peer_writer_note_j1 p1 o0 e
theorem c_peer_writer_note {w0 : World} {M : Nat→Prop} {H : List (Nat×Nat×Obj)} {R : List (Nat×Row)} {φ : World→Prop} (p1 : GNote) (Ap1_0 : Option Addr) (cp1_0 : Nat) (hcp1_0 : p1.fEntries.length ≤ cp1_0) (fp1_0 : ∀ W,(Sta.mk w0 M H R φ).ok W→Cl W Ap1_0 (p1.fEntries.flatMap GEntry.enc)) (Ap1_1 : Option Addr) (cp1_1 : Nat) (hcp1_1 : p1.fVoters.length ≤ cp1_1) (fp1_1 : ∀ W,(Sta.mk w0 M H R φ).ok W→Cl W Ap1_1 (p1.fVoters.flatMap (fun x : Int=>[Value.int .i64 x]))) (go0 : Nat) (o0 : Gpack_Packer) (Ao0_0 : Option Addr) (co0_0 : Nat) (hco0_0 : o0.fb.length ≤ co0_0) (Ao0_1 : Option Addr) (co0_1 : Nat) (hco0_1 : True) (r : Gpack_Packer) (hm : m_peer_writer_note p1 o0 = some r) :
    Cn Try.prog 30 #[.agg #[Vp go0],.agg #[Vi p1.fKind,Vi p1.fFrom,Vi p1.fTo,Vi p1.fTerm,Vi p1.fIndex,Vi p1.fLogTerm,Vi p1.fCommit,.bool p1.fGood,.slice Ap1_0 p1.fEntries.length cp1_0,.slice Ap1_1 p1.fVoters.length cp1_1,Vs p1.fSnap]] ⟨w0,M,(1000,go0,.cells #[.slice Ao0_0 o0.fb.length co0_0,mapV Ao0_1] 94 (0,0))::H,(1000,⟨.slice Ao0_0 o0.fb.length co0_0,5,1,o0.fb.length,o0.fb.flatMap (fun x : Int=>[Value.int .u8 x])⟩)::(1001,⟨mapV Ao0_1,92,2,o0.fplaces.length,o0.fplaces.flatMap (mcell (fun x : ByteArray=>Value.string x) (fun x : Int=>Value.int .i64 x))⟩)::R,φ⟩ (fun x : Option Addr×Nat=>.tuple #[]) (fun x=>r.fb.length ≤ x.2) (fun x=>⟨w0,M,(1000,go0,.cells #[.slice x.1 r.fb.length x.2,mapV Ao0_1] 94 (0,0))::H,(2000,⟨.slice x.1 r.fb.length x.2,5,1,r.fb.length,r.fb.flatMap (fun x : Int=>[Value.int .u8 x])⟩)::(1001,⟨mapV Ao0_1,92,2,o0.fplaces.length,o0.fplaces.flatMap (mcell (fun x : ByteArray=>Value.string x) (fun x : Int=>Value.int .i64 x))⟩)::R,φ⟩):=by
 unfold m_peer_writer_note at hm
 refine cn_intro (fn:=Try.f30) (N:=102) Try.func30 rfl Try.ntmps30 rfl<|c_seq<|c_region ?_
 refine g_e rfl (e_box 100020 rfl) (fun g1 _=>?_)
 refine g_e rfl (e_box 100030 rfl) (fun g2 _=>?_)
 refine g_nil<|d_then<|c_seq<|c_seq<|c_region<|g_v rfl (r_field (n:=0) Try.underlying29 rfl Try.sizeOf3 rfl rfl)<|g_v rfl (r_load (tag:=100030) rfl rfl rfl Try.isAgg3)<|g_v rfl (r_field (n:=1) Try.underlying29 rfl Try.sizeOf3 rfl rfl)<|g_v rfl (r_load (tag:=100030) rfl rfl rfl Try.isAgg3)<|g_v rfl (r_field (n:=2) Try.underlying29 rfl Try.sizeOf3 rfl rfl) ?_
 refine g_v rfl (r_load (tag:=100030) rfl rfl rfl Try.isAgg3)<|g_v rfl (r_build _ rfl (bld32_21 _ _ _))<|g_v rfl r_move<|g_nil<|d_then ?_
 refine c_flat [(2,Vp g1),(3,Vp g2),(14,.agg #[Vi p1.fKind,Vi p1.fFrom,Vi p1.fTo]),(15,Vi 0)] ⟨rfl,rfl,rfl,rfl,trivial⟩ (fun u=>?_)
 refine c_sta ⟨w0,M,(100030,g2,.cells #[Vi p1.fKind,Vi p1.fFrom,Vi p1.fTo,Vi p1.fTerm,Vi p1.fIndex,Vi p1.fLogTerm,Vi p1.fCommit,.bool p1.fGood,.slice Ap1_0 p1.fEntries.length cp1_0,.slice Ap1_1 p1.fVoters.length cp1_1,Vs p1.fSnap] 29 (0,0))::(100020,g1,.cells #[Vp go0] 63 (0,0))::(1000,go0,.cells #[.slice Ao0_0 o0.fb.length co0_0,mapV Ao0_1] 94 (0,0))::H,(1000,⟨.slice Ao0_0 o0.fb.length co0_0,5,1,o0.fb.length,o0.fb.flatMap (fun x : Int=>[Value.int .u8 x])⟩)::(1001,⟨mapV Ao0_1,92,2,o0.fplaces.length,o0.fplaces.flatMap (mcell (fun x : ByteArray=>Value.string x) (fun x : Int=>Value.int .i64 x))⟩)::R,φ⟩ (fun _ h=>h)<|c_block<|c_rounds 64<|c_seq<|c_region<|g_v rfl (r_lss rfl rfl)<|g_nil<|d_then<|c_seq<|c_cond1 rfl (by decide) ?_
 refine c_skip<|d_then<|c_seq<|c_block<|c_seq<|c_region<|g_v rfl (r_indexA Try.underlying32 Try.sizeOf3 Try.isAgg3 rfl rfl rfl rfl)<|g_v rfl r_assign<|g_nil<|d_then ?_
 refine c_region<|g_v rfl (r_field (n:=0) Try.underlying63 rfl Try.sizeOf60 rfl rfl)<|g_v rfl (r_load (tag:=100020) rfl rfl rfl Try.isAgg60)<|g_v rfl r_move<|g_v rfl (r_conv Try.underlying3 Try.underlying5 rfl rfl) ?_
 replace hm:=bnd hm
 obtain ⟨x3,hx4,hm⟩:=hm
 refine g_cn ⟨w0,M,(1000,go0,.cells #[.slice Ao0_0 o0.fb.length co0_0,mapV Ao0_1] 94 (0,0))::(100030,g2,.cells #[Vi p1.fKind,Vi p1.fFrom,Vi p1.fTo,Vi p1.fTerm,Vi p1.fIndex,Vi p1.fLogTerm,Vi p1.fCommit,.bool p1.fGood,.slice Ap1_0 p1.fEntries.length cp1_0,.slice Ap1_1 p1.fVoters.length cp1_1,Vs p1.fSnap] 29 (0,0))::(100020,g1,.cells #[Vp go0] 63 (0,0))::H,(1000,⟨.slice Ao0_0 o0.fb.length co0_0,5,1,o0.fb.length,o0.fb.flatMap (fun x : Int=>[Value.int .u8 x])⟩)::(1001,⟨mapV Ao0_1,92,2,o0.fplaces.length,o0.fplaces.flatMap (mcell (fun x : ByteArray=>Value.string x) (fun x : Int=>Value.int .i64 x))⟩)::R,φ⟩ (fun W h=>(ok_front (t:=1000) (t':=1000) (ok_frontR (t:=1000) (t':=1000) (ok_frontR (t:=1001) (t':=1001) h rfl) rfl) rfl)) Try.call24 rfl rfl (c_pack_Packer_Byte (IntKind.u8.wrap p1.fKind) go0 o0 Ao0_0 co0_0 hco0_0 Ao0_1 co0_1 trivial _ hx4) (fun ⟨A5,c6⟩ hc6=>?_)
 refine g_sta _ (fun W h=>(ok_frontR (t:=2000) (t':=1000) (ok_frontR (t:=1001) (t':=1001) (ok_front (t:=1000) (t':=1000) h rfl) rfl) rfl))<|g_nil<|d_normal_block<|d_then<|c_region<|g_v rfl (r_add rfl rfl (show IntKind.i64.wrap (0 + 1) = 1 by decide))<|g_v rfl r_move<|g_nil<|d_rounds ?_
 refine c_flat [(2,Vp g1),(3,Vp g2),(14,.agg #[Vi p1.fKind,Vi p1.fFrom,Vi p1.fTo]),(15,Vi 1)] ⟨rfl,rfl,rfl,rfl,trivial⟩ (fun u=>?_)
 refine c_sta ⟨w0,M,(1000,go0,.cells #[.slice A5 x3.fb.length c6,mapV Ao0_1] 94 (0,0))::(100030,g2,.cells #[Vi p1.fKind,Vi p1.fFrom,Vi p1.fTo,Vi p1.fTerm,Vi p1.fIndex,Vi p1.fLogTerm,Vi p1.fCommit,.bool p1.fGood,.slice Ap1_0 p1.fEntries.length cp1_0,.slice Ap1_1 p1.fVoters.length cp1_1,Vs p1.fSnap] 29 (0,0))::(100020,g1,.cells #[Vp go0] 63 (0,0))::H,(1000,⟨.slice A5 x3.fb.length c6,5,1,x3.fb.length,x3.fb.flatMap (fun x : Int=>[Value.int .u8 x])⟩)::(1001,⟨mapV Ao0_1,92,2,o0.fplaces.length,o0.fplaces.flatMap (mcell (fun x : ByteArray=>Value.string x) (fun x : Int=>Value.int .i64 x))⟩)::R,φ⟩ (fun _ h=>h)<|c_seq<|c_region<|g_v rfl (r_lss rfl rfl)<|g_nil<|d_then<|c_seq<|c_cond1 rfl (by decide)<|c_skip<|d_then ?_
 refine c_seq<|c_block<|c_seq<|c_region<|g_v rfl (r_indexA Try.underlying32 Try.sizeOf3 Try.isAgg3 rfl rfl rfl rfl)<|g_v rfl r_assign<|g_nil<|d_then<|c_region<|g_v rfl (r_field (n:=0) Try.underlying63 rfl Try.sizeOf60 rfl rfl) ?_
 refine g_v rfl (r_load (tag:=100020) rfl rfl rfl Try.isAgg60)<|g_v rfl r_move<|g_v rfl (r_conv Try.underlying3 Try.underlying5 rfl rfl) ?_
 replace hm:=bnd hm
 obtain ⟨x8,hx9,hm⟩:=hm
 refine g_cn ⟨w0,M,(1000,go0,.cells #[.slice A5 x3.fb.length c6,mapV Ao0_1] 94 (0,0))::(100030,g2,.cells #[Vi p1.fKind,Vi p1.fFrom,Vi p1.fTo,Vi p1.fTerm,Vi p1.fIndex,Vi p1.fLogTerm,Vi p1.fCommit,.bool p1.fGood,.slice Ap1_0 p1.fEntries.length cp1_0,.slice Ap1_1 p1.fVoters.length cp1_1,Vs p1.fSnap] 29 (0,0))::(100020,g1,.cells #[Vp go0] 63 (0,0))::H,(1000,⟨.slice A5 x3.fb.length c6,5,1,x3.fb.length,x3.fb.flatMap (fun x : Int=>[Value.int .u8 x])⟩)::(1001,⟨mapV Ao0_1,92,2,o0.fplaces.length,o0.fplaces.flatMap (mcell (fun x : ByteArray=>Value.string x) (fun x : Int=>Value.int .i64 x))⟩)::R,φ⟩ (fun W h=>(ok_front (t:=1000) (t':=1000) (ok_frontR (t:=1000) (t':=1000) (ok_frontR (t:=1001) (t':=1001) h rfl) rfl) rfl)) Try.call24 rfl rfl (c_pack_Packer_Byte (IntKind.u8.wrap p1.fFrom) go0 (⟨x3.fb,o0.fplaces⟩ : Gpack_Packer) A5 c6 hc6 Ao0_1 co0_1 trivial _ hx9) (fun ⟨A10,c11⟩ hc11=>?_)
 refine g_sta _ (fun W h=>(ok_frontR (t:=2000) (t':=1000) (ok_frontR (t:=1001) (t':=1001) (ok_front (t:=1000) (t':=1000) h rfl) rfl) rfl))<|g_nil<|d_normal_block<|d_then<|c_region<|g_v rfl (r_add rfl rfl (show IntKind.i64.wrap (1 + 1) = 2 by decide))<|g_v rfl r_move<|g_nil<|d_rounds ?_
 refine c_flat [(2,Vp g1),(3,Vp g2),(14,.agg #[Vi p1.fKind,Vi p1.fFrom,Vi p1.fTo]),(15,Vi 2)] ⟨rfl,rfl,rfl,rfl,trivial⟩ (fun u=>?_)
 refine c_sta ⟨w0,M,(1000,go0,.cells #[.slice A10 x8.fb.length c11,mapV Ao0_1] 94 (0,0))::(100030,g2,.cells #[Vi p1.fKind,Vi p1.fFrom,Vi p1.fTo,Vi p1.fTerm,Vi p1.fIndex,Vi p1.fLogTerm,Vi p1.fCommit,.bool p1.fGood,.slice Ap1_0 p1.fEntries.length cp1_0,.slice Ap1_1 p1.fVoters.length cp1_1,Vs p1.fSnap] 29 (0,0))::(100020,g1,.cells #[Vp go0] 63 (0,0))::H,(1000,⟨.slice A10 x8.fb.length c11,5,1,x8.fb.length,x8.fb.flatMap (fun x : Int=>[Value.int .u8 x])⟩)::(1001,⟨mapV Ao0_1,92,2,o0.fplaces.length,o0.fplaces.flatMap (mcell (fun x : ByteArray=>Value.string x) (fun x : Int=>Value.int .i64 x))⟩)::R,φ⟩ (fun _ h=>h)<|c_seq<|c_region<|g_v rfl (r_lss rfl rfl)<|g_nil<|d_then<|c_seq<|c_cond1 rfl (by decide)<|c_skip<|d_then ?_
 refine c_seq<|c_block<|c_seq<|c_region<|g_v rfl (r_indexA Try.underlying32 Try.sizeOf3 Try.isAgg3 rfl rfl rfl rfl)<|g_v rfl r_assign<|g_nil<|d_then<|c_region<|g_v rfl (r_field (n:=0) Try.underlying63 rfl Try.sizeOf60 rfl rfl) ?_
 refine g_v rfl (r_load (tag:=100020) rfl rfl rfl Try.isAgg60)<|g_v rfl r_move<|g_v rfl (r_conv Try.underlying3 Try.underlying5 rfl rfl) ?_
 replace hm:=bnd hm
 obtain ⟨x13,hx14,hm⟩:=hm
 refine g_cn ⟨w0,M,(1000,go0,.cells #[.slice A10 x8.fb.length c11,mapV Ao0_1] 94 (0,0))::(100030,g2,.cells #[Vi p1.fKind,Vi p1.fFrom,Vi p1.fTo,Vi p1.fTerm,Vi p1.fIndex,Vi p1.fLogTerm,Vi p1.fCommit,.bool p1.fGood,.slice Ap1_0 p1.fEntries.length cp1_0,.slice Ap1_1 p1.fVoters.length cp1_1,Vs p1.fSnap] 29 (0,0))::(100020,g1,.cells #[Vp go0] 63 (0,0))::H,(1000,⟨.slice A10 x8.fb.length c11,5,1,x8.fb.length,x8.fb.flatMap (fun x : Int=>[Value.int .u8 x])⟩)::(1001,⟨mapV Ao0_1,92,2,o0.fplaces.length,o0.fplaces.flatMap (mcell (fun x : ByteArray=>Value.string x) (fun x : Int=>Value.int .i64 x))⟩)::R,φ⟩ (fun W h=>(ok_front (t:=1000) (t':=1000) (ok_frontR (t:=1000) (t':=1000) (ok_frontR (t:=1001) (t':=1001) h rfl) rfl) rfl)) Try.call24 rfl rfl (c_pack_Packer_Byte (IntKind.u8.wrap p1.fTo) go0 (⟨x8.fb,o0.fplaces⟩ : Gpack_Packer) A10 c11 hc11 Ao0_1 co0_1 trivial _ hx14) (fun ⟨A15,c16⟩ hc16=>?_)
 refine g_sta _ (fun W h=>(ok_frontR (t:=2000) (t':=1000) (ok_frontR (t:=1001) (t':=1001) (ok_front (t:=1000) (t':=1000) h rfl) rfl) rfl))<|g_nil<|d_normal_block<|d_then<|c_region<|g_v rfl (r_add rfl rfl (show IntKind.i64.wrap (2 + 1) = 3 by decide))<|g_v rfl r_move<|g_nil<|d_rounds ?_
 refine c_flat [(2,Vp g1),(3,Vp g2),(14,.agg #[Vi p1.fKind,Vi p1.fFrom,Vi p1.fTo]),(15,Vi 3)] ⟨rfl,rfl,rfl,rfl,trivial⟩ (fun u=>?_)
 refine c_sta ⟨w0,M,(1000,go0,.cells #[.slice A15 x13.fb.length c16,mapV Ao0_1] 94 (0,0))::(100030,g2,.cells #[Vi p1.fKind,Vi p1.fFrom,Vi p1.fTo,Vi p1.fTerm,Vi p1.fIndex,Vi p1.fLogTerm,Vi p1.fCommit,.bool p1.fGood,.slice Ap1_0 p1.fEntries.length cp1_0,.slice Ap1_1 p1.fVoters.length cp1_1,Vs p1.fSnap] 29 (0,0))::(100020,g1,.cells #[Vp go0] 63 (0,0))::H,(1000,⟨.slice A15 x13.fb.length c16,5,1,x13.fb.length,x13.fb.flatMap (fun x : Int=>[Value.int .u8 x])⟩)::(1001,⟨mapV Ao0_1,92,2,o0.fplaces.length,o0.fplaces.flatMap (mcell (fun x : ByteArray=>Value.string x) (fun x : Int=>Value.int .i64 x))⟩)::R,φ⟩ (fun _ h=>h)<|c_seq<|c_region<|g_v rfl (r_lss rfl rfl)<|g_nil<|d_then<|c_seq<|c_cond0 rfl (by decide)<|c_exit<|d_exit_then ?_
 refine d_exit_then<|d_exit_block<|d_then<|c_seq<|c_region<|g_v rfl (r_loadA (tag:=100020) rfl rfl Try.isAgg63 Try.sizeOf63 rfl rfl)<|g_v rfl (r_field (n:=3) Try.underlying29 rfl Try.sizeOf3 rfl rfl)<|g_v rfl (r_load (tag:=100030) rfl rfl rfl Try.isAgg3)<|g_v rfl (r_field (n:=4) Try.underlying29 rfl Try.sizeOf3 rfl rfl)<|g_v rfl (r_load (tag:=100030) rfl rfl rfl Try.isAgg3) ?_
 refine g_v rfl (r_field (n:=5) Try.underlying29 rfl Try.sizeOf3 rfl rfl)<|g_v rfl (r_load (tag:=100030) rfl rfl rfl Try.isAgg3)<|g_v rfl (r_field (n:=6) Try.underlying29 rfl Try.sizeOf3 rfl rfl)<|g_v rfl (r_load (tag:=100030) rfl rfl rfl Try.isAgg3) ?_
 refine g_e rfl (e_lit (tag:=100330) (l:=[p1.fTerm,p1.fIndex,p1.fLogTerm,p1.fCommit]) (enc:=(fun x : Int=>[Value.int .i64 x])) (sz:=1) rfl Try.underlying27 (lit3_22 _ _ _ _) rfl rfl (fun _=>rfl)) (fun g18 _=>?_)
 replace hm:=bnd hm
 obtain ⟨x19,hx20,hm⟩:=hm
 refine g_cn ⟨w0,M,(1000,go0,.cells #[.slice A15 x13.fb.length c16,mapV Ao0_1] 94 (0,0))::(100030,g2,.cells #[Vi p1.fKind,Vi p1.fFrom,Vi p1.fTo,Vi p1.fTerm,Vi p1.fIndex,Vi p1.fLogTerm,Vi p1.fCommit,.bool p1.fGood,.slice Ap1_0 p1.fEntries.length cp1_0,.slice Ap1_1 p1.fVoters.length cp1_1,Vs p1.fSnap] 29 (0,0))::(100020,g1,.cells #[Vp go0] 63 (0,0))::H,(1000,⟨.slice A15 x13.fb.length c16,5,1,x13.fb.length,x13.fb.flatMap (fun x : Int=>[Value.int .u8 x])⟩)::(1001,⟨mapV Ao0_1,92,2,o0.fplaces.length,o0.fplaces.flatMap (mcell (fun x : ByteArray=>Value.string x) (fun x : Int=>Value.int .i64 x))⟩)::(100330,⟨.slice (some ⟨g18,0,none⟩) [p1.fTerm,p1.fIndex,p1.fLogTerm,p1.fCommit].length 4,3,1,[p1.fTerm,p1.fIndex,p1.fLogTerm,p1.fCommit].length,[p1.fTerm,p1.fIndex,p1.fLogTerm,p1.fCommit].flatMap (fun x : Int=>[Value.int .i64 x])⟩)::R,φ⟩ (fun W h=>(ok_front (t:=1000) (t':=1000) (ok_frontR (t:=1000) (t':=1000) (ok_frontR (t:=1001) (t':=1001) h rfl) rfl) rfl)) Try.call25 rfl rfl (c_peer_writer_eight [p1.fTerm,p1.fIndex,p1.fLogTerm,p1.fCommit] (some ⟨g18,0,none⟩) 4 (Nat.le_refl _) (fun W hS=>rowCl (tag:=100330) rfl W hS) go0 (⟨x13.fb,o0.fplaces⟩ : Gpack_Packer) A15 c16 hc16 Ao0_1 co0_1 trivial _ hx20) (fun ⟨A21,c22⟩ hc22=>?_)
 refine g_sta _ (fun W h=>(ok_frontR (t:=2000) (t':=1000) (ok_frontR (t:=1001) (t':=1001) (ok_front (t:=1000) (t':=1000) h rfl) rfl) rfl))<|g_nil<|d_then ?_
 refine c_flat [(2,Vp g1),(3,Vp g2)] ⟨rfl,rfl,trivial⟩ (fun u=>?_)
 refine c_sta ⟨w0,M,(1000,go0,.cells #[.slice A21 x19.fb.length c22,mapV Ao0_1] 94 (0,0))::(100030,g2,.cells #[Vi p1.fKind,Vi p1.fFrom,Vi p1.fTo,Vi p1.fTerm,Vi p1.fIndex,Vi p1.fLogTerm,Vi p1.fCommit,.bool p1.fGood,.slice Ap1_0 p1.fEntries.length cp1_0,.slice Ap1_1 p1.fVoters.length cp1_1,Vs p1.fSnap] 29 (0,0))::(100020,g1,.cells #[Vp go0] 63 (0,0))::H,(1000,⟨.slice A21 x19.fb.length c22,5,1,x19.fb.length,x19.fb.flatMap (fun x : Int=>[Value.int .u8 x])⟩)::(1001,⟨mapV Ao0_1,92,2,o0.fplaces.length,o0.fplaces.flatMap (mcell (fun x : ByteArray=>Value.string x) (fun x : Int=>Value.int .i64 x))⟩)::(100330,⟨.slice (some ⟨g18,0,none⟩) [p1.fTerm,p1.fIndex,p1.fLogTerm,p1.fCommit].length 4,3,1,[p1.fTerm,p1.fIndex,p1.fLogTerm,p1.fCommit].length,[p1.fTerm,p1.fIndex,p1.fLogTerm,p1.fCommit].flatMap (fun x : Int=>[Value.int .i64 x])⟩)::R,φ⟩ (fun _ h=>h)<|c_seq<|c_region<|g_v rfl (r_loadA (tag:=100020) rfl rfl Try.isAgg63 Try.sizeOf63 rfl rfl)<|g_v rfl (r_field (n:=7) Try.underlying29 rfl Try.sizeOf4 rfl rfl)<|g_v rfl (r_load (tag:=100030) rfl rfl rfl Try.isAgg4) ?_
 replace hm:=bnd hm
 obtain ⟨x24,hx25,hm⟩:=hm
 refine g_cn ⟨w0,M,(1000,go0,.cells #[.slice A21 x19.fb.length c22,mapV Ao0_1] 94 (0,0))::(100030,g2,.cells #[Vi p1.fKind,Vi p1.fFrom,Vi p1.fTo,Vi p1.fTerm,Vi p1.fIndex,Vi p1.fLogTerm,Vi p1.fCommit,.bool p1.fGood,.slice Ap1_0 p1.fEntries.length cp1_0,.slice Ap1_1 p1.fVoters.length cp1_1,Vs p1.fSnap] 29 (0,0))::(100020,g1,.cells #[Vp go0] 63 (0,0))::H,(1000,⟨.slice A21 x19.fb.length c22,5,1,x19.fb.length,x19.fb.flatMap (fun x : Int=>[Value.int .u8 x])⟩)::(1001,⟨mapV Ao0_1,92,2,o0.fplaces.length,o0.fplaces.flatMap (mcell (fun x : ByteArray=>Value.string x) (fun x : Int=>Value.int .i64 x))⟩)::(100330,⟨.slice (some ⟨g18,0,none⟩) [p1.fTerm,p1.fIndex,p1.fLogTerm,p1.fCommit].length 4,3,1,[p1.fTerm,p1.fIndex,p1.fLogTerm,p1.fCommit].length,[p1.fTerm,p1.fIndex,p1.fLogTerm,p1.fCommit].flatMap (fun x : Int=>[Value.int .i64 x])⟩)::R,φ⟩ (fun W h=>(ok_front (t:=1000) (t':=1000) (ok_frontR (t:=1000) (t':=1000) (ok_frontR (t:=1001) (t':=1001) h rfl) rfl) rfl)) Try.call28 rfl rfl (c_peer_writer_bit p1.fGood go0 (⟨x19.fb,o0.fplaces⟩ : Gpack_Packer) A21 c22 hc22 Ao0_1 co0_1 trivial _ hx25) (fun ⟨A26,c27⟩ hc27=>?_)
 refine g_sta _ (fun W h=>(ok_frontR (t:=2000) (t':=1000) (ok_frontR (t:=1001) (t':=1001) (ok_front (t:=1000) (t':=1000) h rfl) rfl) rfl))<|g_nil<|d_then<|c_seq<|c_region<|g_v rfl (r_field (n:=0) Try.underlying63 rfl Try.sizeOf60 rfl rfl)<|g_v rfl (r_load (tag:=100020) rfl rfl rfl Try.isAgg60)<|g_v rfl (r_field (n:=9) Try.underlying29 rfl Try.sizeOf27 rfl rfl)<|g_v rfl (r_load (tag:=100030) rfl rfl rfl Try.isAgg27)<|g_v rfl (r_lenL Try.underlying27 rfl) ?_
 refine g_v rfl (r_conv Try.underlying3 Try.underlying5 rfl rfl) ?_
 replace hm:=bnd hm
 obtain ⟨x29,hx30,hm⟩:=hm
 refine g_cn ⟨w0,M,(1000,go0,.cells #[.slice A26 x24.fb.length c27,mapV Ao0_1] 94 (0,0))::(100030,g2,.cells #[Vi p1.fKind,Vi p1.fFrom,Vi p1.fTo,Vi p1.fTerm,Vi p1.fIndex,Vi p1.fLogTerm,Vi p1.fCommit,.bool p1.fGood,.slice Ap1_0 p1.fEntries.length cp1_0,.slice Ap1_1 p1.fVoters.length cp1_1,Vs p1.fSnap] 29 (0,0))::(100020,g1,.cells #[Vp go0] 63 (0,0))::H,(1000,⟨.slice A26 x24.fb.length c27,5,1,x24.fb.length,x24.fb.flatMap (fun x : Int=>[Value.int .u8 x])⟩)::(1001,⟨mapV Ao0_1,92,2,o0.fplaces.length,o0.fplaces.flatMap (mcell (fun x : ByteArray=>Value.string x) (fun x : Int=>Value.int .i64 x))⟩)::(100330,⟨.slice (some ⟨g18,0,none⟩) [p1.fTerm,p1.fIndex,p1.fLogTerm,p1.fCommit].length 4,3,1,[p1.fTerm,p1.fIndex,p1.fLogTerm,p1.fCommit].length,[p1.fTerm,p1.fIndex,p1.fLogTerm,p1.fCommit].flatMap (fun x : Int=>[Value.int .i64 x])⟩)::R,φ⟩ (fun W h=>(ok_front (t:=1000) (t':=1000) (ok_frontR (t:=1000) (t':=1000) (ok_frontR (t:=1001) (t':=1001) h rfl) rfl) rfl)) Try.call24 rfl rfl (c_pack_Packer_Byte (IntKind.u8.wrap (p1.fVoters.length : Int)) go0 (⟨x24.fb,o0.fplaces⟩ : Gpack_Packer) A26 c27 hc27 Ao0_1 co0_1 trivial _ hx30) (fun ⟨A31,c32⟩ hc32=>?_)
 refine g_sta _ (fun W h=>(ok_frontR (t:=2000) (t':=1000) (ok_frontR (t:=1001) (t':=1001) (ok_front (t:=1000) (t':=1000) h rfl) rfl) rfl))<|g_nil<|d_then ?_
 refine c_flat [(2,Vp g1),(3,Vp g2)] ⟨rfl,rfl,trivial⟩ (fun u=>?_)
 refine c_sta ⟨w0,M,(1000,go0,.cells #[.slice A31 x29.fb.length c32,mapV Ao0_1] 94 (0,0))::(100030,g2,.cells #[Vi p1.fKind,Vi p1.fFrom,Vi p1.fTo,Vi p1.fTerm,Vi p1.fIndex,Vi p1.fLogTerm,Vi p1.fCommit,.bool p1.fGood,.slice Ap1_0 p1.fEntries.length cp1_0,.slice Ap1_1 p1.fVoters.length cp1_1,Vs p1.fSnap] 29 (0,0))::(100020,g1,.cells #[Vp go0] 63 (0,0))::H,(1000,⟨.slice A31 x29.fb.length c32,5,1,x29.fb.length,x29.fb.flatMap (fun x : Int=>[Value.int .u8 x])⟩)::(1001,⟨mapV Ao0_1,92,2,o0.fplaces.length,o0.fplaces.flatMap (mcell (fun x : ByteArray=>Value.string x) (fun x : Int=>Value.int .i64 x))⟩)::(100330,⟨.slice (some ⟨g18,0,none⟩) [p1.fTerm,p1.fIndex,p1.fLogTerm,p1.fCommit].length 4,3,1,[p1.fTerm,p1.fIndex,p1.fLogTerm,p1.fCommit].length,[p1.fTerm,p1.fIndex,p1.fLogTerm,p1.fCommit].flatMap (fun x : Int=>[Value.int .i64 x])⟩)::R,φ⟩ (fun _ h=>h)<|c_seq<|ga_start (n:=6) ⟨w0,M,(100030,g2,.cells #[Vi p1.fKind,Vi p1.fFrom,Vi p1.fTo,Vi p1.fTerm,Vi p1.fIndex,Vi p1.fLogTerm,Vi p1.fCommit,.bool p1.fGood,.slice Ap1_0 p1.fEntries.length cp1_0,.slice Ap1_1 p1.fVoters.length cp1_1,Vs p1.fSnap] 29 (0,0))::(100020,g1,.cells #[Vp go0] 63 (0,0))::H,(100330,⟨.slice (some ⟨g18,0,none⟩) [p1.fTerm,p1.fIndex,p1.fLogTerm,p1.fCommit].length 4,3,1,[p1.fTerm,p1.fIndex,p1.fLogTerm,p1.fCommit].length,[p1.fTerm,p1.fIndex,p1.fLogTerm,p1.fCommit].flatMap (fun x : Int=>[Value.int .i64 x])⟩)::R,φ⟩ [] #[false,false,false,false,false,false] (fun W h=>(((h.dropR (t:=1000) rfl).dropR (t:=1001) rfl).dropH (t:=1000) rfl).phi (fun W hφ=>hφ)) mixed rfl rfl<|ga_v (i:=0) (bz 6 1) rfl (by kernel_rfl) (fun _ _ _ _ h=>h) rfl (r_field (n:=0) Try.underlying63 rfl Try.sizeOf60 rfl rfl)<|ga_v (i:=1) (bz 6 3) rfl (by kernel_rfl) (fun _ _ _ _ h=>h) rfl (r_load (tag:=100020) rfl rfl rfl Try.isAgg60)<|ga_r (i:=2) (bz 6 7) rfl (by kernel_rfl) (by decide) rfl (r_field (n:=9) Try.underlying29 rfl Try.sizeOf27 rfl rfl)<|ga_r (i:=3) (bz 6 15) rfl (by kernel_rfl) (by decide) rfl (r_load (tag:=100030) rfl rfl rfl Try.isAgg27) ?_
 replace hm:=bnd hm
 obtain ⟨x48,hx49,hm⟩:=hm
 refine ga_cn (first:=#[]) (i:=4) (bz 6 31) rfl (by kernel_rfl) (by decide)  ⟨w0,M,_,_,φ⟩ (fun _ h=>h) Try.call54 rfl rfl rfl (c_plog_Data p1.fVoters Ap1_1 cp1_1 hcp1_1 (fun W hS=>fp1_1 W (ok_pre (H1:=[_,_,_]) (R1:=[_,_,_]) hS (fun W h=>h))) _ hx49) (fun _ W _ h=>(((h.dropR (t:=1000) rfl).dropR (t:=1001) rfl).dropH (t:=1000) rfl).phi (fun W hφ=>hφ)) (fun _ _=>?_)
 replace hm:=bnd hm
 obtain ⟨x50,hx51,hm⟩:=hm
 refine ga_cn (first:=#[]) (i:=5) (bz 6 63) rfl (by kernel_rfl) (by decide)  ⟨w0,M,(1000,go0,.cells #[.slice A31 x29.fb.length c32,mapV Ao0_1] 94 (0,0))::(100030,g2,.cells #[Vi p1.fKind,Vi p1.fFrom,Vi p1.fTo,Vi p1.fTerm,Vi p1.fIndex,Vi p1.fLogTerm,Vi p1.fCommit,.bool p1.fGood,.slice Ap1_0 p1.fEntries.length cp1_0,.slice Ap1_1 p1.fVoters.length cp1_1,Vs p1.fSnap] 29 (0,0))::(100020,g1,.cells #[Vp go0] 63 (0,0))::H,(1000,⟨.slice A31 x29.fb.length c32,5,1,x29.fb.length,x29.fb.flatMap (fun x : Int=>[Value.int .u8 x])⟩)::(1001,⟨mapV Ao0_1,92,2,o0.fplaces.length,o0.fplaces.flatMap (mcell (fun x : ByteArray=>Value.string x) (fun x : Int=>Value.int .i64 x))⟩)::(100330,⟨.slice (some ⟨g18,0,none⟩) [p1.fTerm,p1.fIndex,p1.fLogTerm,p1.fCommit].length 4,3,1,[p1.fTerm,p1.fIndex,p1.fLogTerm,p1.fCommit].length,[p1.fTerm,p1.fIndex,p1.fLogTerm,p1.fCommit].flatMap (fun x : Int=>[Value.int .i64 x])⟩)::R,φ⟩ (fun W h=>(ok_front (t:=1000) (t':=1000) (ok_frontR (t:=1000) (t':=1000) (ok_frontR (t:=1001) (t':=1001) h rfl) rfl) rfl)) Try.call31 rfl rfl rfl (c_pack_Packer_Raw x48 go0 (⟨x29.fb,o0.fplaces⟩ : Gpack_Packer) A31 c32 hc32 Ao0_1 co0_1 trivial _ hx51) (fun ⟨A52,c53⟩ W hc53 h=>((((ok_frontR (t:=2000) (t':=1000) (ok_frontR (t:=1001) (t':=1001) (ok_front (t:=1000) (t':=1000) h rfl) rfl) rfl).dropR (t:=1000) rfl).dropR (t:=1001) rfl).dropH (t:=1000) rfl).phi (fun W hφ=>hφ)) (fun ⟨A52,c53⟩ hc53=>?_)
 refine ga_sta _ (fun W h=>(ok_frontR (t:=2000) (t':=1000) (ok_frontR (t:=1001) (t':=1001) (ok_front (t:=1000) (t':=1000) h rfl) rfl) rfl))<|ga_done (by kernel_rfl)<|d_then<|c_seq<|c_region<|g_v rfl (r_field (n:=0) Try.underlying63 rfl Try.sizeOf60 rfl rfl)<|g_v rfl (r_load (tag:=100020) rfl rfl rfl Try.isAgg60)<|g_v rfl (r_field (n:=8) Try.underlying29 rfl Try.sizeOf26 rfl rfl)<|g_v rfl (r_load (tag:=100030) rfl rfl rfl Try.isAgg26)<|g_v rfl (r_lenL Try.underlying26 rfl) ?_
 refine g_v rfl (r_conv Try.underlying3 Try.underlying5 rfl rfl) ?_
 replace hm:=bnd hm
 obtain ⟨x55,hx56,hm⟩:=hm
 refine g_cn ⟨w0,M,(1000,go0,.cells #[.slice A52 x50.fb.length c53,mapV Ao0_1] 94 (0,0))::(100030,g2,.cells #[Vi p1.fKind,Vi p1.fFrom,Vi p1.fTo,Vi p1.fTerm,Vi p1.fIndex,Vi p1.fLogTerm,Vi p1.fCommit,.bool p1.fGood,.slice Ap1_0 p1.fEntries.length cp1_0,.slice Ap1_1 p1.fVoters.length cp1_1,Vs p1.fSnap] 29 (0,0))::(100020,g1,.cells #[Vp go0] 63 (0,0))::H,(1000,⟨.slice A52 x50.fb.length c53,5,1,x50.fb.length,x50.fb.flatMap (fun x : Int=>[Value.int .u8 x])⟩)::(1001,⟨mapV Ao0_1,92,2,o0.fplaces.length,o0.fplaces.flatMap (mcell (fun x : ByteArray=>Value.string x) (fun x : Int=>Value.int .i64 x))⟩)::(100330,⟨.slice (some ⟨g18,0,none⟩) [p1.fTerm,p1.fIndex,p1.fLogTerm,p1.fCommit].length 4,3,1,[p1.fTerm,p1.fIndex,p1.fLogTerm,p1.fCommit].length,[p1.fTerm,p1.fIndex,p1.fLogTerm,p1.fCommit].flatMap (fun x : Int=>[Value.int .i64 x])⟩)::R,φ⟩ (fun W h=>(ok_front (t:=1000) (t':=1000) (ok_frontR (t:=1000) (t':=1000) (ok_frontR (t:=1001) (t':=1001) h rfl) rfl) rfl)) Try.call24 rfl rfl (c_pack_Packer_Byte (IntKind.u8.wrap (p1.fEntries.length : Int)) go0 (⟨x50.fb,o0.fplaces⟩ : Gpack_Packer) A52 c53 hc53 Ao0_1 co0_1 trivial _ hx56) (fun ⟨A57,c58⟩ hc58=>?_)
 refine g_sta _ (fun W h=>(ok_frontR (t:=2000) (t':=1000) (ok_frontR (t:=1001) (t':=1001) (ok_front (t:=1000) (t':=1000) h rfl) rfl) rfl))<|g_nil<|d_then ?_
 refine c_flat [(2,Vp g1),(3,Vp g2)] ⟨rfl,rfl,trivial⟩ (fun u=>?_)
 refine c_sta ⟨w0,M,(1000,go0,.cells #[.slice A57 x55.fb.length c58,mapV Ao0_1] 94 (0,0))::(100030,g2,.cells #[Vi p1.fKind,Vi p1.fFrom,Vi p1.fTo,Vi p1.fTerm,Vi p1.fIndex,Vi p1.fLogTerm,Vi p1.fCommit,.bool p1.fGood,.slice Ap1_0 p1.fEntries.length cp1_0,.slice Ap1_1 p1.fVoters.length cp1_1,Vs p1.fSnap] 29 (0,0))::(100020,g1,.cells #[Vp go0] 63 (0,0))::H,(1000,⟨.slice A57 x55.fb.length c58,5,1,x55.fb.length,x55.fb.flatMap (fun x : Int=>[Value.int .u8 x])⟩)::(1001,⟨mapV Ao0_1,92,2,o0.fplaces.length,o0.fplaces.flatMap (mcell (fun x : ByteArray=>Value.string x) (fun x : Int=>Value.int .i64 x))⟩)::(100330,⟨.slice (some ⟨g18,0,none⟩) [p1.fTerm,p1.fIndex,p1.fLogTerm,p1.fCommit].length 4,3,1,[p1.fTerm,p1.fIndex,p1.fLogTerm,p1.fCommit].length,[p1.fTerm,p1.fIndex,p1.fLogTerm,p1.fCommit].flatMap (fun x : Int=>[Value.int .i64 x])⟩)::R,φ⟩ (fun _ h=>h)<|c_seq<|c_seq<|c_region<|g_v rfl (r_field (n:=8) Try.underlying29 rfl Try.sizeOf26 rfl rfl)<|g_v rfl (r_load (tag:=100030) rfl rfl rfl Try.isAgg26)<|g_v rfl (r_lenL Try.underlying26 rfl)<|g_v rfl r_move<|g_nil<|d_then ?_
 refine c_cut (ι:=(List Int)×Option Addr×Nat) [2,3] (fun ⟨l127,A128,c129⟩=>[]) (fun ⟨l127,A128,c129⟩=>⟨w0,M,(1000,go0,.cells #[.slice A128 l127.length c129,mapV Ao0_1] 94 (0,0))::(100030,g2,.cells #[Vi p1.fKind,Vi p1.fFrom,Vi p1.fTo,Vi p1.fTerm,Vi p1.fIndex,Vi p1.fLogTerm,Vi p1.fCommit,.bool p1.fGood,.slice Ap1_0 p1.fEntries.length cp1_0,.slice Ap1_1 p1.fVoters.length cp1_1,Vs p1.fSnap] 29 (0,0))::(100020,g1,.cells #[Vp go0] 63 (0,0))::H,(1000,⟨.slice A128 l127.length c129,5,1,l127.length,l127.flatMap (fun x : Int=>[Value.int .u8 x])⟩)::(1001,⟨mapV Ao0_1,92,2,o0.fplaces.length,o0.fplaces.flatMap (mcell (fun x : ByteArray=>Value.string x) (fun x : Int=>Value.int .i64 x))⟩)::R,φ⟩) (fun ⟨l127,A128,c129⟩=>m_peer_writer_note_j1 p1 o0 l127 = some r∧l127.length ≤ c129) ?_ (fun ⟨l127,A128,c129⟩ u ⟨hm,hc129⟩=>?_)
 ·
  refine c_block ?_
  replace hm:=bnd hm
  obtain ⟨out2,hl2,hr2⟩:=hm
  obtain ⟨n206',hl2⟩:=loop_lp hl2
  refine c_loopU (ι:=Nat×(List Int)×Int×Option Addr×Nat) [2,3,60,61,62] (fun ⟨n206,l171,i174,A172,c173⟩=>[(62,Vi i174)]) (fun ⟨n206,l171,i174,A172,c173⟩=>⟨w0,M,(1000,go0,.cells #[.slice A172 l171.length c173,mapV Ao0_1] 94 (0,0))::(100030,g2,.cells #[Vi p1.fKind,Vi p1.fFrom,Vi p1.fTo,Vi p1.fTerm,Vi p1.fIndex,Vi p1.fLogTerm,Vi p1.fCommit,.bool p1.fGood,.slice Ap1_0 p1.fEntries.length cp1_0,.slice Ap1_1 p1.fVoters.length cp1_1,Vs p1.fSnap] 29 (0,0))::(100020,g1,.cells #[Vp go0] 63 (0,0))::H,(1000,⟨.slice A172 l171.length c173,5,1,l171.length,l171.flatMap (fun x : Int=>[Value.int .u8 x])⟩)::(1001,⟨mapV Ao0_1,92,2,o0.fplaces.length,o0.fplaces.flatMap (mcell (fun x : ByteArray=>Value.string x) (fun x : Int=>Value.int .i64 x))⟩)::R,φ⟩) (fun ⟨n206,l171,i174,A172,c173⟩=>Lp (fun s=>m_peer_writer_note_s2 p1 o0 s.1 s.2) n206 (l171,i174) out2∧l171.length ≤ c173) (fun ⟨n206,l171,i174,A172,c173⟩=>n206) (n206',x55.fb,0,A57,c58) ⟨hl2,hc58⟩ ⟨rfl,rfl,rfl,rfl,rfl,trivial⟩ (fun W h=>(h.dropR (t:=100330) rfl).phi (fun W hφ=>hφ)) (fun ⟨n206,l171,i174,A172,c173⟩ u ⟨hlp,hc173⟩=>?_)
  obtain ⟨o2,hm,hnx2⟩:=lp_step hlp
  clear hlp
  replace hm : m_peer_writer_note_s2 p1 o0 l171 i174 = some o2:=hm
  unfold m_peer_writer_note_s2 at hm
  refine c_flat [(2,Vp g1),(3,Vp g2),(60,.slice Ap1_0 p1.fEntries.length cp1_0),(61,Vi (p1.fEntries.length : Int)),(62,Vi i174)] ⟨rfl,rfl,rfl,rfl,rfl,trivial⟩ (fun u=>?_)
  refine c_sta ⟨w0,M,(1000,go0,.cells #[.slice A172 l171.length c173,mapV Ao0_1] 94 (0,0))::(100030,g2,.cells #[Vi p1.fKind,Vi p1.fFrom,Vi p1.fTo,Vi p1.fTerm,Vi p1.fIndex,Vi p1.fLogTerm,Vi p1.fCommit,.bool p1.fGood,.slice Ap1_0 p1.fEntries.length cp1_0,.slice Ap1_1 p1.fVoters.length cp1_1,Vs p1.fSnap] 29 (0,0))::(100020,g1,.cells #[Vp go0] 63 (0,0))::H,(1000,⟨.slice A172 l171.length c173,5,1,l171.length,l171.flatMap (fun x : Int=>[Value.int .u8 x])⟩)::(1001,⟨mapV Ao0_1,92,2,o0.fplaces.length,o0.fplaces.flatMap (mcell (fun x : ByteArray=>Value.string x) (fun x : Int=>Value.int .i64 x))⟩)::R,φ⟩ (fun _ h=>h)<|c_seq<|c_region<|g_v rfl (r_lss rfl rfl)<|g_nil<|d_then<|c_seq ?_
  refine c_cond rfl (fun h207=>?_) (fun h207=>?_)
  ·
   replace hm:=ite_t hm (of_decide_eq_true h207)
   refine c_skip<|d_then<|c_seq<|c_block<|c_seq<|c_region ?_
   replace hm:=bnd hm
   obtain ⟨x208,hx208,hm⟩:=hm
   refine g_know _ (fun W hS=>cl_at (p:=(Sta.mk w0 M H R φ).ok) (sz:=3) (fun _=>rfl) (by decide) (ok_pre (H1:=[_,_,_]) (R1:=[_,_]) hS (fun W h=>h)) fp1_0 hx208) ?_
   rintro ⟨ad209,hA211,f210⟩
   refine g_v rfl (r_ix Try.underlying26 Try.sizeOf56 rfl hA211 rfl hx208)<|g_v rfl (r_ldA rfl Try.isAgg56 Try.sizeOf56 (fun W hS=>(f210 W (ok_pre (H1:=[_,_,_]) (R1:=[_,_]) hS (fun W h=>h))).take 3) rfl) ?_
   refine g_e rfl (e_alloc 100070 Try.zeroValue56) (fun g212 _=>?_)
   refine g_storeL (tag:=100070) rfl rfl rfl rfl Try.sizeOf56 rfl rfl<|g_nil<|d_then<|c_seq<|c_region<|g_v rfl (r_loadA (tag:=100020) rfl rfl Try.isAgg63 Try.sizeOf63 rfl rfl)<|g_v rfl (r_field (n:=0) Try.underlying56 rfl Try.sizeOf3 rfl rfl)<|g_v rfl (r_load (tag:=100070) rfl rfl rfl Try.isAgg3) ?_
   refine g_e rfl (e_lit (tag:=100690) (l:=[x208.fTerm]) (enc:=(fun x : Int=>[Value.int .i64 x])) (sz:=1) rfl Try.underlying27 (lit3_11 _) rfl rfl (fun _=>rfl)) (fun g213 _=>?_)
   replace hm:=bnd hm
   obtain ⟨x214,hx215,hm⟩:=hm
   refine g_cn ⟨w0,M,(1000,go0,.cells #[.slice A172 l171.length c173,mapV Ao0_1] 94 (0,0))::(100070,g212,.cells #[Vi x208.fTerm,Vi x208.fKind,Vs x208.fData] 56 (0,0))::(100030,g2,.cells #[Vi p1.fKind,Vi p1.fFrom,Vi p1.fTo,Vi p1.fTerm,Vi p1.fIndex,Vi p1.fLogTerm,Vi p1.fCommit,.bool p1.fGood,.slice Ap1_0 p1.fEntries.length cp1_0,.slice Ap1_1 p1.fVoters.length cp1_1,Vs p1.fSnap] 29 (0,0))::(100020,g1,.cells #[Vp go0] 63 (0,0))::H,(1000,⟨.slice A172 l171.length c173,5,1,l171.length,l171.flatMap (fun x : Int=>[Value.int .u8 x])⟩)::(1001,⟨mapV Ao0_1,92,2,o0.fplaces.length,o0.fplaces.flatMap (mcell (fun x : ByteArray=>Value.string x) (fun x : Int=>Value.int .i64 x))⟩)::(100690,⟨.slice (some ⟨g213,0,none⟩) [x208.fTerm].length 1,3,1,[x208.fTerm].length,[x208.fTerm].flatMap (fun x : Int=>[Value.int .i64 x])⟩)::R,φ⟩ (fun W h=>(ok_front (t:=1000) (t':=1000) (ok_frontR (t:=1000) (t':=1000) (ok_frontR (t:=1001) (t':=1001) h rfl) rfl) rfl)) Try.call25 rfl rfl (c_peer_writer_eight [x208.fTerm] (some ⟨g213,0,none⟩) 1 (Nat.le_refl _) (fun W hS=>rowCl (tag:=100690) rfl W hS) go0 (⟨l171,o0.fplaces⟩ : Gpack_Packer) A172 c173 hc173 Ao0_1 co0_1 trivial _ hx215) (fun ⟨A216,c217⟩ hc217=>?_)
   refine g_sta _ (fun W h=>(ok_frontR (t:=2000) (t':=1000) (ok_frontR (t:=1001) (t':=1001) (ok_front (t:=1000) (t':=1000) h rfl) rfl) rfl))<|g_nil<|d_then ?_
   refine c_flat [(2,Vp g1),(3,Vp g2),(7,Vp g212),(60,.slice Ap1_0 p1.fEntries.length cp1_0),(61,Vi (p1.fEntries.length : Int)),(62,Vi i174)] ⟨rfl,rfl,rfl,rfl,rfl,rfl,trivial⟩ (fun u=>?_)
   refine c_sta ⟨w0,M,(1000,go0,.cells #[.slice A216 x214.fb.length c217,mapV Ao0_1] 94 (0,0))::(100070,g212,.cells #[Vi x208.fTerm,Vi x208.fKind,Vs x208.fData] 56 (0,0))::(100030,g2,.cells #[Vi p1.fKind,Vi p1.fFrom,Vi p1.fTo,Vi p1.fTerm,Vi p1.fIndex,Vi p1.fLogTerm,Vi p1.fCommit,.bool p1.fGood,.slice Ap1_0 p1.fEntries.length cp1_0,.slice Ap1_1 p1.fVoters.length cp1_1,Vs p1.fSnap] 29 (0,0))::(100020,g1,.cells #[Vp go0] 63 (0,0))::H,(1000,⟨.slice A216 x214.fb.length c217,5,1,x214.fb.length,x214.fb.flatMap (fun x : Int=>[Value.int .u8 x])⟩)::(1001,⟨mapV Ao0_1,92,2,o0.fplaces.length,o0.fplaces.flatMap (mcell (fun x : ByteArray=>Value.string x) (fun x : Int=>Value.int .i64 x))⟩)::(100690,⟨.slice (some ⟨g213,0,none⟩) [x208.fTerm].length 1,3,1,[x208.fTerm].length,[x208.fTerm].flatMap (fun x : Int=>[Value.int .i64 x])⟩)::R,φ⟩ (fun _ h=>h)<|c_seq<|c_region<|g_v rfl (r_field (n:=0) Try.underlying63 rfl Try.sizeOf60 rfl rfl)<|g_v rfl (r_load (tag:=100020) rfl rfl rfl Try.isAgg60)<|g_v rfl (r_field (n:=1) Try.underlying56 rfl Try.sizeOf3 rfl rfl)<|g_v rfl (r_load (tag:=100070) rfl rfl rfl Try.isAgg3)<|g_v rfl (r_conv Try.underlying3 Try.underlying5 rfl rfl) ?_
   replace hm:=bnd hm
   obtain ⟨x219,hx220,hm⟩:=hm
   refine g_cn ⟨w0,M,(1000,go0,.cells #[.slice A216 x214.fb.length c217,mapV Ao0_1] 94 (0,0))::(100070,g212,.cells #[Vi x208.fTerm,Vi x208.fKind,Vs x208.fData] 56 (0,0))::(100030,g2,.cells #[Vi p1.fKind,Vi p1.fFrom,Vi p1.fTo,Vi p1.fTerm,Vi p1.fIndex,Vi p1.fLogTerm,Vi p1.fCommit,.bool p1.fGood,.slice Ap1_0 p1.fEntries.length cp1_0,.slice Ap1_1 p1.fVoters.length cp1_1,Vs p1.fSnap] 29 (0,0))::(100020,g1,.cells #[Vp go0] 63 (0,0))::H,(1000,⟨.slice A216 x214.fb.length c217,5,1,x214.fb.length,x214.fb.flatMap (fun x : Int=>[Value.int .u8 x])⟩)::(1001,⟨mapV Ao0_1,92,2,o0.fplaces.length,o0.fplaces.flatMap (mcell (fun x : ByteArray=>Value.string x) (fun x : Int=>Value.int .i64 x))⟩)::(100690,⟨.slice (some ⟨g213,0,none⟩) [x208.fTerm].length 1,3,1,[x208.fTerm].length,[x208.fTerm].flatMap (fun x : Int=>[Value.int .i64 x])⟩)::R,φ⟩ (fun W h=>(ok_front (t:=1000) (t':=1000) (ok_frontR (t:=1000) (t':=1000) (ok_frontR (t:=1001) (t':=1001) h rfl) rfl) rfl)) Try.call24 rfl rfl (c_pack_Packer_Byte (IntKind.u8.wrap x208.fKind) go0 (⟨x214.fb,o0.fplaces⟩ : Gpack_Packer) A216 c217 hc217 Ao0_1 co0_1 trivial _ hx220) (fun ⟨A221,c222⟩ hc222=>?_)
   refine g_sta _ (fun W h=>(ok_frontR (t:=2000) (t':=1000) (ok_frontR (t:=1001) (t':=1001) (ok_front (t:=1000) (t':=1000) h rfl) rfl) rfl))<|g_nil<|d_then<|c_seq<|c_region<|g_v rfl (r_field (n:=0) Try.underlying63 rfl Try.sizeOf60 rfl rfl)<|g_v rfl (r_load (tag:=100020) rfl rfl rfl Try.isAgg60)<|g_v rfl (r_field (n:=2) Try.underlying56 rfl Try.sizeOf9 rfl rfl)<|g_v rfl (r_load (tag:=100070) rfl rfl rfl Try.isAgg9)<|g_v rfl (r_len Try.underlying9 rfl) ?_
   refine g_v rfl (r_conv Try.underlying3 Try.underlying22 rfl rfl) ?_
   replace hm:=bnd hm
   obtain ⟨x224,hx225,hm⟩:=hm
   refine g_cn ⟨w0,M,(1000,go0,.cells #[.slice A221 x219.fb.length c222,mapV Ao0_1] 94 (0,0))::(100070,g212,.cells #[Vi x208.fTerm,Vi x208.fKind,Vs x208.fData] 56 (0,0))::(100030,g2,.cells #[Vi p1.fKind,Vi p1.fFrom,Vi p1.fTo,Vi p1.fTerm,Vi p1.fIndex,Vi p1.fLogTerm,Vi p1.fCommit,.bool p1.fGood,.slice Ap1_0 p1.fEntries.length cp1_0,.slice Ap1_1 p1.fVoters.length cp1_1,Vs p1.fSnap] 29 (0,0))::(100020,g1,.cells #[Vp go0] 63 (0,0))::H,(1000,⟨.slice A221 x219.fb.length c222,5,1,x219.fb.length,x219.fb.flatMap (fun x : Int=>[Value.int .u8 x])⟩)::(1001,⟨mapV Ao0_1,92,2,o0.fplaces.length,o0.fplaces.flatMap (mcell (fun x : ByteArray=>Value.string x) (fun x : Int=>Value.int .i64 x))⟩)::(100690,⟨.slice (some ⟨g213,0,none⟩) [x208.fTerm].length 1,3,1,[x208.fTerm].length,[x208.fTerm].flatMap (fun x : Int=>[Value.int .i64 x])⟩)::R,φ⟩ (fun W h=>(ok_front (t:=1000) (t':=1000) (ok_frontR (t:=1000) (t':=1000) (ok_frontR (t:=1001) (t':=1001) h rfl) rfl) rfl)) Try.call27 rfl rfl (c_pack_Packer_Word (IntKind.u16.wrap (x208.fData.size : Int)) go0 (⟨x219.fb,o0.fplaces⟩ : Gpack_Packer) A221 c222 hc222 Ao0_1 co0_1 trivial _ hx225) (fun ⟨A226,c227⟩ hc227=>?_)
   refine g_sta _ (fun W h=>(ok_frontR (t:=2000) (t':=1000) (ok_frontR (t:=1001) (t':=1001) (ok_front (t:=1000) (t':=1000) h rfl) rfl) rfl))<|g_nil<|d_then ?_
   refine c_flat [(2,Vp g1),(3,Vp g2),(7,Vp g212),(60,.slice Ap1_0 p1.fEntries.length cp1_0),(61,Vi (p1.fEntries.length : Int)),(62,Vi i174)] ⟨rfl,rfl,rfl,rfl,rfl,rfl,trivial⟩ (fun u=>?_)
   refine c_sta ⟨w0,M,(1000,go0,.cells #[.slice A226 x224.fb.length c227,mapV Ao0_1] 94 (0,0))::(100070,g212,.cells #[Vi x208.fTerm,Vi x208.fKind,Vs x208.fData] 56 (0,0))::(100030,g2,.cells #[Vi p1.fKind,Vi p1.fFrom,Vi p1.fTo,Vi p1.fTerm,Vi p1.fIndex,Vi p1.fLogTerm,Vi p1.fCommit,.bool p1.fGood,.slice Ap1_0 p1.fEntries.length cp1_0,.slice Ap1_1 p1.fVoters.length cp1_1,Vs p1.fSnap] 29 (0,0))::(100020,g1,.cells #[Vp go0] 63 (0,0))::H,(1000,⟨.slice A226 x224.fb.length c227,5,1,x224.fb.length,x224.fb.flatMap (fun x : Int=>[Value.int .u8 x])⟩)::(1001,⟨mapV Ao0_1,92,2,o0.fplaces.length,o0.fplaces.flatMap (mcell (fun x : ByteArray=>Value.string x) (fun x : Int=>Value.int .i64 x))⟩)::(100690,⟨.slice (some ⟨g213,0,none⟩) [x208.fTerm].length 1,3,1,[x208.fTerm].length,[x208.fTerm].flatMap (fun x : Int=>[Value.int .i64 x])⟩)::R,φ⟩ (fun _ h=>h)<|c_region<|g_v rfl (r_field (n:=0) Try.underlying63 rfl Try.sizeOf60 rfl rfl)<|g_v rfl (r_load (tag:=100020) rfl rfl rfl Try.isAgg60)<|g_v rfl (r_field (n:=2) Try.underlying56 rfl Try.sizeOf9 rfl rfl)<|g_v rfl (r_load (tag:=100070) rfl rfl rfl Try.isAgg9) ?_
   replace hm:=bnd hm
   obtain ⟨x229,hx230,hm⟩:=hm
   refine g_cn ⟨w0,M,(1000,go0,.cells #[.slice A226 x224.fb.length c227,mapV Ao0_1] 94 (0,0))::(100070,g212,.cells #[Vi x208.fTerm,Vi x208.fKind,Vs x208.fData] 56 (0,0))::(100030,g2,.cells #[Vi p1.fKind,Vi p1.fFrom,Vi p1.fTo,Vi p1.fTerm,Vi p1.fIndex,Vi p1.fLogTerm,Vi p1.fCommit,.bool p1.fGood,.slice Ap1_0 p1.fEntries.length cp1_0,.slice Ap1_1 p1.fVoters.length cp1_1,Vs p1.fSnap] 29 (0,0))::(100020,g1,.cells #[Vp go0] 63 (0,0))::H,(1000,⟨.slice A226 x224.fb.length c227,5,1,x224.fb.length,x224.fb.flatMap (fun x : Int=>[Value.int .u8 x])⟩)::(1001,⟨mapV Ao0_1,92,2,o0.fplaces.length,o0.fplaces.flatMap (mcell (fun x : ByteArray=>Value.string x) (fun x : Int=>Value.int .i64 x))⟩)::(100690,⟨.slice (some ⟨g213,0,none⟩) [x208.fTerm].length 1,3,1,[x208.fTerm].length,[x208.fTerm].flatMap (fun x : Int=>[Value.int .i64 x])⟩)::R,φ⟩ (fun W h=>(ok_front (t:=1000) (t':=1000) (ok_frontR (t:=1000) (t':=1000) (ok_frontR (t:=1001) (t':=1001) h rfl) rfl) rfl)) Try.call31 rfl rfl (c_pack_Packer_Raw x208.fData go0 (⟨x224.fb,o0.fplaces⟩ : Gpack_Packer) A226 c227 hc227 Ao0_1 co0_1 trivial _ hx230) (fun ⟨A231,c232⟩ hc232=>?_)
   refine g_sta _ (fun W h=>(ok_frontR (t:=2000) (t':=1000) (ok_frontR (t:=1001) (t':=1001) (ok_front (t:=1000) (t':=1000) h rfl) rfl) rfl))<|g_nil<|d_normal_block<|d_then<|c_region<|g_v rfl (r_add rfl rfl rfl)<|g_v rfl r_move<|g_nil ?_
   obtain ⟨n234,hn234,hlp⟩:=nx_inl hm hnx2
   exact d_round (n234,x229.fb,w64 (i174 + 1),A231,c232) ⟨hlp,hc232⟩ hn234 ⟨rfl,rfl,rfl,rfl,rfl,trivial⟩ (fun W h=>((h.dropR (t:=100690) rfl).dropH (t:=100070) rfl).phi (fun W hφ=>hφ))
  replace hm:=ite_f hm (of_decide_eq_false h207)
  refine c_exit<|d_exit_then<|d_exit_then<|d_exit_block ?_
  replace hm:=nx_out (C:=(fun e : (List Int)=>m_peer_writer_note_j1 p1 o0 e = some r)) hm hnx2 hr2
  exact d_round (l171,A172,c173) ⟨hm,hc173⟩ Nat.zero_lt_one ⟨rfl,rfl,trivial⟩ (fun W h=>h.phi (fun W hφ=>hφ))
 unfold m_peer_writer_note_j1 at hm
 refine d_flat [(2,Vp g1),(3,Vp g2)] ⟨rfl,rfl,trivial⟩ (fun u=>?_)
 refine d_sta ⟨w0,M,(1000,go0,.cells #[.slice A128 l127.length c129,mapV Ao0_1] 94 (0,0))::(100030,g2,.cells #[Vi p1.fKind,Vi p1.fFrom,Vi p1.fTo,Vi p1.fTerm,Vi p1.fIndex,Vi p1.fLogTerm,Vi p1.fCommit,.bool p1.fGood,.slice Ap1_0 p1.fEntries.length cp1_0,.slice Ap1_1 p1.fVoters.length cp1_1,Vs p1.fSnap] 29 (0,0))::(100020,g1,.cells #[Vp go0] 63 (0,0))::H,(1000,⟨.slice A128 l127.length c129,5,1,l127.length,l127.flatMap (fun x : Int=>[Value.int .u8 x])⟩)::(1001,⟨mapV Ao0_1,92,2,o0.fplaces.length,o0.fplaces.flatMap (mcell (fun x : ByteArray=>Value.string x) (fun x : Int=>Value.int .i64 x))⟩)::R,φ⟩ (fun _ h=>h)<|d_then<|c_seq<|c_region<|g_v rfl (r_field (n:=0) Try.underlying63 rfl Try.sizeOf60 rfl rfl)<|g_v rfl (r_load (tag:=100020) rfl rfl rfl Try.isAgg60)<|g_v rfl (r_field (n:=10) Try.underlying29 rfl Try.sizeOf9 rfl rfl)<|g_v rfl (r_load (tag:=100030) rfl rfl rfl Try.isAgg9)<|g_v rfl (r_len Try.underlying9 rfl)<|g_v rfl (r_conv Try.underlying3 Try.underlying52 rfl rfl) ?_
 replace hm:=bnd hm
 obtain ⟨x130,hx131,hm⟩:=hm
 refine g_cn ⟨w0,M,(1000,go0,.cells #[.slice A128 l127.length c129,mapV Ao0_1] 94 (0,0))::(100030,g2,.cells #[Vi p1.fKind,Vi p1.fFrom,Vi p1.fTo,Vi p1.fTerm,Vi p1.fIndex,Vi p1.fLogTerm,Vi p1.fCommit,.bool p1.fGood,.slice Ap1_0 p1.fEntries.length cp1_0,.slice Ap1_1 p1.fVoters.length cp1_1,Vs p1.fSnap] 29 (0,0))::(100020,g1,.cells #[Vp go0] 63 (0,0))::H,(1000,⟨.slice A128 l127.length c129,5,1,l127.length,l127.flatMap (fun x : Int=>[Value.int .u8 x])⟩)::(1001,⟨mapV Ao0_1,92,2,o0.fplaces.length,o0.fplaces.flatMap (mcell (fun x : ByteArray=>Value.string x) (fun x : Int=>Value.int .i64 x))⟩)::R,φ⟩ (fun W h=>(ok_front (t:=1000) (t':=1000) (ok_frontR (t:=1000) (t':=1000) (ok_frontR (t:=1001) (t':=1001) h rfl) rfl) rfl)) Try.call51 rfl rfl (c_pack_Packer_Long (IntKind.u32.wrap (p1.fSnap.size : Int)) go0 (⟨l127,o0.fplaces⟩ : Gpack_Packer) A128 c129 hc129 Ao0_1 co0_1 trivial _ hx131) (fun ⟨A132,c133⟩ hc133=>?_)
 refine g_sta _ (fun W h=>(ok_frontR (t:=2000) (t':=1000) (ok_frontR (t:=1001) (t':=1001) (ok_front (t:=1000) (t':=1000) h rfl) rfl) rfl))<|g_nil<|d_then<|c_region<|g_v rfl (r_field (n:=0) Try.underlying63 rfl Try.sizeOf60 rfl rfl)<|g_v rfl (r_load (tag:=100020) rfl rfl rfl Try.isAgg60)<|g_v rfl (r_field (n:=10) Try.underlying29 rfl Try.sizeOf9 rfl rfl)<|g_v rfl (r_load (tag:=100030) rfl rfl rfl Try.isAgg9) ?_
 replace hm:=bnd hm
 obtain ⟨x135,hx136,hm⟩:=hm
 refine g_cn ⟨w0,M,(1000,go0,.cells #[.slice A132 x130.fb.length c133,mapV Ao0_1] 94 (0,0))::(100030,g2,.cells #[Vi p1.fKind,Vi p1.fFrom,Vi p1.fTo,Vi p1.fTerm,Vi p1.fIndex,Vi p1.fLogTerm,Vi p1.fCommit,.bool p1.fGood,.slice Ap1_0 p1.fEntries.length cp1_0,.slice Ap1_1 p1.fVoters.length cp1_1,Vs p1.fSnap] 29 (0,0))::(100020,g1,.cells #[Vp go0] 63 (0,0))::H,(1000,⟨.slice A132 x130.fb.length c133,5,1,x130.fb.length,x130.fb.flatMap (fun x : Int=>[Value.int .u8 x])⟩)::(1001,⟨mapV Ao0_1,92,2,o0.fplaces.length,o0.fplaces.flatMap (mcell (fun x : ByteArray=>Value.string x) (fun x : Int=>Value.int .i64 x))⟩)::R,φ⟩ (fun W h=>(ok_front (t:=1000) (t':=1000) (ok_frontR (t:=1000) (t':=1000) (ok_frontR (t:=1001) (t':=1001) h rfl) rfl) rfl)) Try.call31 rfl rfl (c_pack_Packer_Raw p1.fSnap go0 (⟨x130.fb,o0.fplaces⟩ : Gpack_Packer) A132 c133 hc133 Ao0_1 co0_1 trivial _ hx136) (fun ⟨A137,c138⟩ hc138=>?_)
 refine g_sta _ (fun W h=>(ok_frontR (t:=2000) (t':=1000) (ok_frontR (t:=1001) (t':=1001) (ok_front (t:=1000) (t':=1000) h rfl) rfl) rfl))<|g_nil ?_
 cases hm
 refine d_sta _ (fun W h=>ok_frontR (t:=1000) (t':=2000) h rfl) ?_
 exact d_retC (A137,c138) Try.results30 (res_nil rfl) hc138 (fun W h=>((h.dropH (t:=100030) rfl).dropH (t:=100020) rfl).phi (fun W hφ=>hφ)) (.inl rfl)
noncomputable def m_pack_Packer_Bytes (o0 : Gpack_Packer) : Option ByteArray:=
  some (strOfNums o0.fb)
theorem c_pack_Packer_Bytes {w0 : World} {M : Nat→Prop} {H : List (Nat×Nat×Obj)} {R : List (Nat×Row)} {φ : World→Prop} (go0 : Nat) (o0 : Gpack_Packer) (Ao0_0 : Option Addr) (co0_0 : Nat) (hco0_0 : o0.fb.length ≤ co0_0) (Ao0_1 : Option Addr) (co0_1 : Nat) (hco0_1 : True) (r : ByteArray) (hm : m_pack_Packer_Bytes o0 = some r) :
    Cn Try.prog 33 #[Vp go0] ⟨w0,M,(1000,go0,.cells #[.slice Ao0_0 o0.fb.length co0_0,mapV Ao0_1] 94 (0,0))::H,(1000,⟨.slice Ao0_0 o0.fb.length co0_0,5,1,o0.fb.length,o0.fb.flatMap (fun x : Int=>[Value.int .u8 x])⟩)::(1001,⟨mapV Ao0_1,92,2,o0.fplaces.length,o0.fplaces.flatMap (mcell (fun x : ByteArray=>Value.string x) (fun x : Int=>Value.int .i64 x))⟩)::R,φ⟩ (fun x : Unit=>Vs r) (fun x=>True) (fun x=>⟨w0,M,(1000,go0,.cells #[.slice Ao0_0 o0.fb.length co0_0,mapV Ao0_1] 94 (0,0))::H,(1000,⟨.slice Ao0_0 o0.fb.length co0_0,5,1,o0.fb.length,o0.fb.flatMap (fun x : Int=>[Value.int .u8 x])⟩)::(1001,⟨mapV Ao0_1,92,2,o0.fplaces.length,o0.fplaces.flatMap (mcell (fun x : ByteArray=>Value.string x) (fun x : Int=>Value.int .i64 x))⟩)::R,φ⟩):=by
 unfold m_pack_Packer_Bytes at hm
 refine cn_intro (fn:=Try.f33) (N:=10) Try.func33 rfl Try.ntmps33 rfl<|c_seq<|c_region<|g_v rfl r_assign<|g_nil<|d_then<|c_seq<|c_seq<|c_region<|g_v rfl r_move ?_
 refine g_v rfl (r_eqlP1 Try.underlying60 rfl rfl)<|g_nil<|d_then<|c_cond0 rfl rfl<|c_skip<|d_then<|c_seq<|c_region<|g_v rfl r_move<|g_v rfl (r_nilck rfl) ?_
 refine g_v rfl (r_field (n:=0) Try.underlying94 rfl Try.sizeOf91 rfl rfl)<|g_v rfl (r_load (tag:=1000) rfl rfl rfl Try.isAgg91)<|g_v rfl (r_textE Try.underlying91 Try.underlying5 Try.underlying9 rfl (fun W hS=>rowCl (tag:=1000) rfl W hS))<|g_v rfl r_assign<|g_nil<|d_then ?_
 refine c_flat [(2,Vs (strOfNums o0.fb))] ⟨rfl,trivial⟩ (fun u=>?_)
 refine c_sta ⟨w0,M,(1000,go0,.cells #[.slice Ao0_0 o0.fb.length co0_0,mapV Ao0_1] 94 (0,0))::H,(1000,⟨.slice Ao0_0 o0.fb.length co0_0,5,1,o0.fb.length,o0.fb.flatMap (fun x : Int=>[Value.int .u8 x])⟩)::(1001,⟨mapV Ao0_1,92,2,o0.fplaces.length,o0.fplaces.flatMap (mcell (fun x : ByteArray=>Value.string x) (fun x : Int=>Value.int .i64 x))⟩)::R,φ⟩ (fun _ h=>h)<|c_ret ?_
 cases hm
 exact d_retC () Try.results33 (res_tmp (res_nil rfl)) trivial (fun W h=>h.phi (fun W hφ=>hφ)) (.inr rfl)
end Go.Proofs.Ytbaobjcaeaofaaa
