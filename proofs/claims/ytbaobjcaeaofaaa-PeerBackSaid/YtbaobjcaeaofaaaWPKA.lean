import Derived.Test.YtbaobjcaeaofaaaQL
import Derived.Test.YtbaobjcaeaofaaaSV
import Derived.Test.YtbaobjcaeaofaaaSL
import Derived.Test.YtbaobjcaeaofaaaSH
import Derived.Test.YtbaobjcaeaofaaaSE
import Derived.Test.YtbaobjcaeaofaaaRG
set_option maxRecDepth 100000
set_option maxHeartbeats 4000000
set_option linter.unusedVariables false
set_option linter.unusedSimpArgs false
namespace Go.Proofs.Ytbaobjcaeaofaaa
open Go.RowKit Go.Proofs.YtbaobjcaeaofaaaW.PrintLast
abbrev Vi (x : Int) : Value := .int .i64 x
abbrev Vu (x : Int) : Value := .int .u16 x
abbrev Vs (x : ByteArray) : Value := .string x
abbrev Vp (g : Nat) : Value := .pointer (some ⟨g, 0, none⟩)
abbrev V0 : Value := .slice none 0 0
abbrev Ve : Value := .string ⟨#[]⟩
abbrev eB : ByteArray := ⟨#[]⟩
structure GQuestion where
  fName : ByteArray
  fType : Int
  fClass : Int
  deriving DecidableEq
def GQuestion.enc (e : GQuestion) : List Value:=[.string e.fName,.int .u16 e.fType,.int .u16 e.fClass]
structure GRR where
  fName : ByteArray
  fType : Int
  fClass : Int
  fTTL : Int
  fData : ByteArray
  deriving DecidableEq
def GRR.enc (e : GRR) : List Value:=[.string e.fName,.int .u16 e.fType,.int .u16 e.fClass,.int .u32 e.fTTL,.string e.fData]
structure GCached where
  fKind : Int
  fName : ByteArray
  fType : Int
  fClass : Int
  fRecords : List GRR
  fUntil : Int
  fRank : Int
  fEpoch : Int
  fSource : Int
  deriving DecidableEq
structure GEntry where
  fTerm : Int
  fKind : Int
  fData : ByteArray
  deriving DecidableEq
def GEntry.enc (e : GEntry) : List Value:=[.int .i64 e.fTerm,.int .i64 e.fKind,.string e.fData]
structure GNote where
  fKind : Int
  fFrom : Int
  fTo : Int
  fTerm : Int
  fIndex : Int
  fLogTerm : Int
  fCommit : Int
  fGood : Bool
  fEntries : List GEntry
  fVoters : List Int
  fSnap : ByteArray
  deriving DecidableEq
structure GLetter where
  fKind : Int
  fSerial : Int
  fEpoch : Int
  fQuestion : GQuestion
  fGood : Bool
  fEntries : List GCached
  fNote : GNote
  fText : ByteArray
  deriving DecidableEq
structure GCachedP where
  pA0 : Option Addr
  pC0 : Nat
def GCached.encP (z : GCached×GCachedP) : List Value:=[.int .i64 z.1.fKind,.string z.1.fName,.int .u16 z.1.fType,.int .u16 z.1.fClass,.slice z.2.pA0 z.1.fRecords.length z.2.pC0,.int .i64 z.1.fUntil,.int .i64 z.1.fRank,.int .i64 z.1.fEpoch,.int .i64 z.1.fSource]
abbrev GCached.capP (z : GCached×GCachedP) : Prop:=z.1.fRecords.length ≤ z.2.pC0
abbrev GCached.ownP (W : World) (z : GCached×GCachedP) : Prop:=Cl W z.2.pA0 (z.1.fRecords.flatMap GRR.enc)
structure Garray147 where
  a0 : Int
  a1 : Int
  a2 : Int
  a3 : Int
  a4 : Int
  a5 : Int
  a6 : Int
  deriving DecidableEq
def Garray147.enc (e : Garray147) : List Value:=[.int .i64 e.a0,.int .i64 e.a1,.int .i64 e.a2,.int .i64 e.a3,.int .i64 e.a4,.int .i64 e.a5,.int .i64 e.a6]
theorem bld31_0 (z0 : Int) (z1 : Int) (z2 : Int) : ∀ W,(Instr.build 31 #[(0,Vi z0),(1,Vi z1),(2,Vi z2)]).run Try.prog W = .ok (.agg #[Vi z0,Vi z1,Vi z2,Ve,Vu 0,Vu 0,.bool false,V0,Vi 0,Vi 0,Vi 0,Vi 0,Vi 0,Vi 0,Vi 0,.bool false,V0,V0,Ve,Ve]) W:=fun _=>by kernel_rfl
theorem bld24_1  : ∀ W,(Instr.build 24 #[]).run Try.prog W = .ok (.agg #[Ve,Vu 0,Vu 0]) W:=fun _=>by kernel_rfl
theorem eqq24 (a b : GQuestion) : ∀ d W,(Op.equalIn (d + 5) 24 (.agg #[Vs a.fName,Vu a.fType,Vu a.fClass]) (.agg #[Vs b.fName,Vu b.fType,Vu b.fClass])).run Try.prog W = .ok (decide (a = b)) W:=by
  intro d W
  have h:=eqs_of (d:=d + 4) (xs:=#[Vs a.fName,Vu a.fType,Vu a.fClass]) (ys:=#[Vs b.fName,Vu b.fType,Vu b.fClass]) (w:=W) Try.underlying24 (by kernel_rfl) (eqs_cons (a:=Vs a.fName) (b:=Vs b.fName) rfl (by kernel_rfl) (by kernel_rfl) (eqs_str Try.underlying9) (eqs_cons (a:=Vu a.fType) (b:=Vu b.fType) rfl (by kernel_rfl) (by kernel_rfl) (eqs_int Try.underlying22) (eqs_cons (a:=Vu a.fClass) (b:=Vu b.fClass) rfl (by kernel_rfl) (by kernel_rfl) (eqs_int Try.underlying22) eqs_nil)))
  refine h.trans ?_
  congr 1
  cases a; cases b
  simp only [GQuestion.mk.injEq,Bool.and_true]
  simp only [Bool.decide_and]
theorem eqg24 : Try.prog.eqGuardType Try.prog.depth 24 = false:=by kernel_rfl
theorem bld147_2 (z0 : Int) (z1 : Int) (z2 : Int) (z3 : Int) (z4 : Int) (z5 : Int) (z6 : Int) : ∀ W,(Instr.build 147 #[(0,Vi z0),(1,Vi z1),(2,Vi z2),(3,Vi z3),(4,Vi z4),(5,Vi z5),(6,Vi z6)]).run Try.prog W = .ok (.agg #[Vi z0,Vi z1,Vi z2,Vi z3,Vi z4,Vi z5,Vi z6]) W:=fun _=>by kernel_rfl
theorem bld147_3  : ∀ W,(Instr.build 147 #[]).run Try.prog W = .ok (.agg #[Vi 0,Vi 0,Vi 0,Vi 0,Vi 0,Vi 0,Vi 0]) W:=fun _=>by kernel_rfl
theorem eqq147 (a b : Garray147) : ∀ d W,(Op.equalIn (d + 5) 147 (.agg #[Vi a.a0,Vi a.a1,Vi a.a2,Vi a.a3,Vi a.a4,Vi a.a5,Vi a.a6]) (.agg #[Vi b.a0,Vi b.a1,Vi b.a2,Vi b.a3,Vi b.a4,Vi b.a5,Vi b.a6])).run Try.prog W = .ok (decide (a = b)) W:=by
  intro d W
  have h:=eqa_of (d:=d + 4) (n:=7) (xs:=#[Vi a.a0,Vi a.a1,Vi a.a2,Vi a.a3,Vi a.a4,Vi a.a5,Vi a.a6]) (ys:=#[Vi b.a0,Vi b.a1,Vi b.a2,Vi b.a3,Vi b.a4,Vi b.a5,Vi b.a6]) (w:=W) Try.underlying147 (by kernel_rfl) (eqi_cons (a:=Vi a.a0) (b:=Vi b.a0) (by kernel_rfl) (by kernel_rfl) (eqs_int Try.underlying3) (eqi_cons (a:=Vi a.a1) (b:=Vi b.a1) (by kernel_rfl) (by kernel_rfl) (eqs_int Try.underlying3) (eqi_cons (a:=Vi a.a2) (b:=Vi b.a2) (by kernel_rfl) (by kernel_rfl) (eqs_int Try.underlying3) (eqi_cons (a:=Vi a.a3) (b:=Vi b.a3) (by kernel_rfl) (by kernel_rfl) (eqs_int Try.underlying3) (eqi_cons (a:=Vi a.a4) (b:=Vi b.a4) (by kernel_rfl) (by kernel_rfl) (eqs_int Try.underlying3) (eqi_cons (a:=Vi a.a5) (b:=Vi b.a5) (by kernel_rfl) (by kernel_rfl) (eqs_int Try.underlying3) (eqi_cons (a:=Vi a.a6) (b:=Vi b.a6) (by kernel_rfl) (by kernel_rfl) (eqs_int Try.underlying3) eqi_nil)))))))
  refine h.trans ?_
  congr 1
  cases a; cases b
  simp only [Garray147.mk.injEq,Bool.and_true]
  simp only [Bool.decide_and]
theorem eqg147 : Try.prog.eqGuardType Try.prog.depth 147 = false:=by kernel_rfl
noncomputable def m_peer_nothing (p0 : GNote) : Option Bool:=
  if (⟨p0.fKind,p0.fFrom,p0.fTo,p0.fTerm,p0.fIndex,p0.fLogTerm,p0.fCommit⟩ : Garray147) = (⟨0,0,0,0,0,0,0⟩ : Garray147) then
    if p0.fGood = true then
      some false
    else
      some (decide (w64 ((w64 ((p0.fEntries.length : Int) + (p0.fVoters.length : Int))) + (p0.fSnap.size : Int)) = 0))
  else
    some false
theorem c_peer_nothing {w0 : World} {M : Nat→Prop} {H : List (Nat×Nat×Obj)} {R : List (Nat×Row)} {φ : World→Prop} (p0 : GNote) (Ap0_0 : Option Addr) (cp0_0 : Nat) (hcp0_0 : p0.fEntries.length ≤ cp0_0) (fp0_0 : ∀ W,(Sta.mk w0 M H R φ).ok W→Cl W Ap0_0 (p0.fEntries.flatMap GEntry.enc)) (Ap0_1 : Option Addr) (cp0_1 : Nat) (hcp0_1 : p0.fVoters.length ≤ cp0_1) (fp0_1 : ∀ W,(Sta.mk w0 M H R φ).ok W→Cl W Ap0_1 (p0.fVoters.flatMap (fun x : Int=>[Value.int .i64 x]))) (r : Bool) (hm : m_peer_nothing p0 = some r) :
    Cn Try.prog 73 #[.agg #[Vi p0.fKind,Vi p0.fFrom,Vi p0.fTo,Vi p0.fTerm,Vi p0.fIndex,Vi p0.fLogTerm,Vi p0.fCommit,.bool p0.fGood,.slice Ap0_0 p0.fEntries.length cp0_0,.slice Ap0_1 p0.fVoters.length cp0_1,Vs p0.fSnap]] ⟨w0,M,H,R,φ⟩ (fun x : Unit=>.bool r) (fun x=>True) (fun x=>⟨w0,M,H,R,φ⟩):=by
 unfold m_peer_nothing at hm
 refine cn_intro (fn:=Try.f73) (N:=39) Try.func73 rfl Try.ntmps73 rfl<|c_seq<|c_region ?_
 refine g_e rfl (e_box 100010 rfl) (fun g1 _=>?_)
 refine g_v rfl r_assign<|g_nil<|d_then<|c_seq<|c_region<|g_v rfl (r_field (n:=0) Try.underlying29 rfl Try.sizeOf3 rfl rfl)<|g_v rfl (r_load (tag:=100010) rfl rfl rfl Try.isAgg3)<|g_v rfl (r_field (n:=1) Try.underlying29 rfl Try.sizeOf3 rfl rfl)<|g_v rfl (r_load (tag:=100010) rfl rfl rfl Try.isAgg3)<|g_v rfl (r_field (n:=2) Try.underlying29 rfl Try.sizeOf3 rfl rfl) ?_
 refine g_v rfl (r_load (tag:=100010) rfl rfl rfl Try.isAgg3)<|g_v rfl (r_field (n:=3) Try.underlying29 rfl Try.sizeOf3 rfl rfl)<|g_v rfl (r_load (tag:=100010) rfl rfl rfl Try.isAgg3)<|g_v rfl (r_field (n:=4) Try.underlying29 rfl Try.sizeOf3 rfl rfl)<|g_v rfl (r_load (tag:=100010) rfl rfl rfl Try.isAgg3)<|g_v rfl (r_field (n:=5) Try.underlying29 rfl Try.sizeOf3 rfl rfl)<|g_v rfl (r_load (tag:=100010) rfl rfl rfl Try.isAgg3)<|g_v rfl (r_field (n:=6) Try.underlying29 rfl Try.sizeOf3 rfl rfl)<|g_v rfl (r_load (tag:=100010) rfl rfl rfl Try.isAgg3)<|g_v rfl (r_build _ rfl (bld147_2 _ _ _ _ _ _ _)) ?_
 refine g_v rfl (r_build _ rfl (bld147_3))<|g_v rfl (r_eqlA rfl rfl eqg147 (eqq147 (⟨p0.fKind,p0.fFrom,p0.fTo,p0.fTerm,p0.fIndex,p0.fLogTerm,p0.fCommit⟩ : Garray147) (⟨0,0,0,0,0,0,0⟩ : Garray147)))<|g_v rfl r_move<|g_sta ⟨w0,M,(100010,g1,.cells #[Vi p0.fKind,Vi p0.fFrom,Vi p0.fTo,Vi p0.fTerm,Vi p0.fIndex,Vi p0.fLogTerm,Vi p0.fCommit,.bool p0.fGood,.slice Ap0_0 p0.fEntries.length cp0_0,.slice Ap0_1 p0.fVoters.length cp0_1,Vs p0.fSnap] 29 (0,0))::H,R,φ⟩ (fun _ h=>h) ?_
 refine g_if rfl rfl rfl rfl rfl (fun h2=>?_) (fun h2=>?_)
 ·
  replace hm:=ite_t hm (of_decide_eq_true h2)
  refine g_v rfl (r_field (n:=7) Try.underlying29 rfl Try.sizeOf4 rfl rfl)<|g_do rfl rfl rfl rfl rfl h2<|g_v rfl (r_load (tag:=100010) rfl rfl rfl Try.isAgg4)<|g_do rfl rfl rfl rfl rfl h2<|g_v rfl (r_not rfl)<|g_v rfl (r_pick1 rfl h2)<|g_v rfl r_move ?_
  refine g_if rfl rfl rfl rfl rfl (fun h3=>?_) (fun h3=>?_)
  ·
   have h3' : p0.fGood = false:=by revert h3; cases p0.fGood <;> simp
   replace hm:=ite_f hm (bool_nt h3')
   refine g_v rfl (r_field (n:=8) Try.underlying29 rfl Try.sizeOf26 rfl rfl)<|g_do rfl rfl rfl rfl rfl h3<|g_v rfl (r_load (tag:=100010) rfl rfl rfl Try.isAgg26)<|g_do rfl rfl rfl rfl rfl h3<|g_v rfl (r_lenL Try.underlying26 rfl)<|g_do rfl rfl rfl rfl rfl h3<|g_v rfl (r_field (n:=9) Try.underlying29 rfl Try.sizeOf27 rfl rfl)<|g_do rfl rfl rfl rfl rfl h3<|g_v rfl (r_load (tag:=100010) rfl rfl rfl Try.isAgg27)<|g_do rfl rfl rfl rfl rfl h3 ?_
   refine g_v rfl (r_lenL Try.underlying27 rfl)<|g_do rfl rfl rfl rfl rfl h3<|g_v rfl (r_add rfl rfl rfl)<|g_do rfl rfl rfl rfl rfl h3<|g_v rfl (r_field (n:=10) Try.underlying29 rfl Try.sizeOf9 rfl rfl)<|g_do rfl rfl rfl rfl rfl h3<|g_v rfl (r_load (tag:=100010) rfl rfl rfl Try.isAgg9)<|g_do rfl rfl rfl rfl rfl h3<|g_v rfl (r_len Try.underlying9 rfl)<|g_do rfl rfl rfl rfl rfl h3 ?_
   refine g_v rfl (r_add rfl rfl rfl)<|g_do rfl rfl rfl rfl rfl h3<|g_v rfl (r_eql rfl rfl)<|g_v rfl (r_pick1 rfl h3)<|g_v rfl r_assign<|g_nil<|d_then ?_
   refine c_flat [(2,.bool (decide (w64 ((w64 ((p0.fEntries.length : Int) + (p0.fVoters.length : Int))) + (p0.fSnap.size : Int)) = 0)))] ⟨rfl,trivial⟩ (fun u=>?_)
   refine c_ret ?_
   cases hm
   exact d_retC () Try.results73 (res_tmp (res_nil rfl)) trivial (fun W h=>ok_pre (H1:=[_]) (R1:=[]) h (fun W hφ=>hφ)) (.inr rfl)
  have h3' : p0.fGood = true:=by revert h3; cases p0.fGood <;> simp
  replace hm:=ite_t hm h3'
  iterate 11 refine g_no rfl rfl rfl rfl rfl h3 ?_
  refine g_v rfl (r_pick0 rfl h3)<|g_v rfl r_assign<|g_nil<|d_then ?_
  refine c_flat [(2,.bool false)] ⟨rfl,trivial⟩ (fun u=>?_)
  refine c_ret ?_
  cases hm
  exact d_retC () Try.results73 (res_tmp (res_nil rfl)) trivial (fun W h=>ok_pre (H1:=[_]) (R1:=[]) h (fun W hφ=>hφ)) (.inr rfl)
 replace hm:=ite_f hm (of_decide_eq_false h2)
 refine g_no rfl rfl rfl rfl rfl h2<|g_no rfl rfl rfl rfl rfl h2<|g_v rfl (r_pick0 rfl h2)<|g_v rfl r_move ?_
 iterate 12 refine g_no rfl rfl rfl rfl rfl rfl ?_
 refine g_v rfl (r_pick0 rfl rfl)<|g_v rfl r_assign<|g_nil<|d_then ?_
 refine c_flat [(2,.bool false)] ⟨rfl,trivial⟩ (fun u=>?_)
 refine c_ret ?_
 cases hm
 exact d_retC () Try.results73 (res_tmp (res_nil rfl)) trivial (fun W h=>ok_pre (H1:=[_]) (R1:=[]) h (fun W hφ=>hφ)) (.inr rfl)
theorem lit9_4 (z0 : ByteArray) : Try.prog.builtSlice 9 1 [(0,Vs z0)] = some #[Vs z0]:=by kernel_rfl
theorem inf9_5  : (Try.prog.info? 9).map (fun i=>(i.zero,i.size,i.bytes)) = some (some (Ve),1,16):=by kernel_rfl
noncomputable def m_name_Labels (p0 : ByteArray) : Option ((List ByteArray)×Int):=
  (eachM p0).bind fun _=>
  if (eachP p0).2 ≠ w64 ((p0.size : Int) - 1) then
    some (([] : List ByteArray),10)
  else
    if (eachP p0).2 < 0 then
      some (([] : List ByteArray),10)
    else
      if 255 < (p0.size : Int) then
        some (([] : List ByteArray),11)
      else
        some (((eachP p0).1.map Prod.snd),0)
theorem c_name_Labels {w0 : World} {M : Nat→Prop} {H : List (Nat×Nat×Obj)} {R : List (Nat×Row)} {φ : World→Prop} (p0 : ByteArray) (r : (List ByteArray)×Int) (hm : m_name_Labels p0 = some r) :
    Cn Try.prog 83 #[Vs p0] ⟨w0,M,H,R,φ⟩ (fun x : Option Addr×Nat=>.tuple #[.slice x.1 r.1.length x.2,Vi r.2]) (fun x=>r.1.length ≤ x.2) (fun x=>⟨w0,M,H,(2000,⟨.slice x.1 r.1.length x.2,9,1,r.1.length,r.1.flatMap (fun x : ByteArray=>[Value.string x])⟩)::R,φ⟩):=by
 unfold m_name_Labels at hm
 refine cn_introM (fn:=Try.f83) (N:=31) Try.func83 rfl Try.ntmps83 rfl<|c_seq<|c_region<|g_v rfl r_assign<|g_v rfl r_assign<|g_nil<|d_then<|c_seq<|c_region ?_
 refine g_e rfl (e_alloc 100040 Try.zeroValue125) (fun g1 _=>?_)
 refine g_nil<|d_then<|c_seq<|c_region ?_
 refine g_e rfl (e_alloc 100050 Try.zeroValue3) (fun g2 _=>?_)
 refine g_storeL (tag:=100050) rfl rfl rfl rfl Try.sizeOf3 rfl rfl<|g_nil<|d_then<|c_seq<|c_seq<|c_region<|g_v rfl r_move ?_
 refine g_cn ⟨w0,M,_,_,φ⟩ (fun _ h=>h) Try.call99 rfl rfl (c_each p0 g2) (fun ⟨g3,g4⟩ _=>?_)
 refine g_sta _ (fun W h=>ok_front (t:=3000) (t':=100095) (ok_front (t:=3001) (t':=100096) h rfl) rfl)<|g_nil<|d_then<|c_block<|c_sta _ (fun W h=>nilR (ok_front (t:=100050) (t':=0) (ok_front (t:=100095) (t':=1) (ok_front (t:=100096) (t':=2) (ok_front (t:=100040) (t':=3) h rfl) rfl) rfl) rfl) 4 9 1) ?_
 replace hm:=bnd hm
 obtain ⟨_,hz8,hm⟩:=hm
 replace hz8:=(eachM_some hz8).1
 refine c_collect Prod.snd (fun x : ByteArray=>Value.string x) rfl rfl hz8 (.inl rfl) (.inl ⟨rfl,fun _=>rfl⟩) Try.underlying125 inf9_5 rfl (by decide) (by decide) (fun _=>lit9_4 _) (fun _=>rfl) Try.sizeOf125 Try.isAgg125 rfl rfl rfl (fun A6 c7 g5 hc7=>?_)
 refine d_sta _ (fun W h=>(ok_front (t:=0) (t':=100050) (ok_front (t:=1) (t':=100095) (ok_front (t:=2) (t':=100096) (ok_front (t:=3) (t':=100040) h rfl) rfl) rfl) rfl))<|d_normal_block<|d_then<|c_seq<|c_block<|c_seq<|c_region<|g_v rfl (r_load (tag:=100050) rfl rfl rfl Try.isAgg3)<|g_v rfl r_move<|g_v rfl (r_len Try.underlying9 rfl) ?_
 refine g_v rfl (r_sub rfl rfl rfl)<|g_v rfl (r_neq rfl rfl)<|g_v rfl r_move<|g_sta ⟨w0,M,(100050,g2,.cells #[Vi ((eachP p0).2)] 3 (0,0))::(100095,g3,.cells #[Vp g2] 157 (0,0))::(100096,g4,.cells #[Vs p0] 9 (0,0))::(100040,g1,.cells #[.slice A6 ((eachP p0).1.map Prod.snd).length c7] 125 (0,0))::(5,g5,.deferred (some []))::H,(4,⟨.slice A6 ((eachP p0).1.map Prod.snd).length c7,9,1,((eachP p0).1.map Prod.snd).length,((eachP p0).1.map Prod.snd).flatMap (fun x : ByteArray=>[Value.string x])⟩)::R,φ⟩ (fun _ h=>h) ?_
 refine g_if rfl rfl rfl rfl rfl (fun h9=>?_) (fun h9=>?_)
 ·
  replace hm:=ite_f hm (of_decide_eq_false h9)
  refine g_v rfl (r_load (tag:=100050) rfl rfl rfl Try.isAgg3)<|g_do rfl rfl rfl rfl rfl h9<|g_v rfl (r_lss rfl rfl)<|g_v rfl (r_pick0 rfl h9)<|g_v rfl r_assign<|g_nil<|d_then ?_
  refine c_flat [(0,Vs p0),(4,Vp g1),(16,.bool (decide ((eachP p0).2 < 0)))] ⟨rfl,rfl,rfl,trivial⟩ (fun u=>?_)
  refine c_cond rfl (fun h10=>?_) (fun h10=>?_)
  ·
   replace hm:=ite_t hm (of_decide_eq_true h10)
   refine c_seq<|c_region<|g_v rfl r_assign<|g_v rfl r_assign<|g_nil<|d_then<|c_ret<|d_ret_block<|d_ret_then ?_
   cases hm
   refine d_sta _ (fun W h=>nilR h 11 9 1)<|d_sta _ (fun W h=>ok_frontR (t:=11) (t':=2000) h rfl) ?_
   exact d_retM (tD:=5) (none,0) Try.results83 (res_tmp (res_tmp (res_nil rfl))) (Nat.le_refl 0) rfl (by simp) (fun W h=>(((((h.dropR (t:=4) rfl).dropH (t:=100050) rfl).dropH (t:=100095) rfl).dropH (t:=100096) rfl).dropH (t:=100040) rfl).phi (fun W hφ=>hφ)) (.inr rfl)
  replace hm:=ite_f hm (of_decide_eq_false h10)
  refine c_seq<|c_region<|g_v rfl r_move<|g_v rfl (r_len Try.underlying9 rfl)<|g_v rfl (r_gtr rfl rfl)<|g_v rfl r_assign<|g_nil<|d_then ?_
  refine c_cond rfl (fun h11=>?_) (fun h11=>?_)
  ·
   replace hm:=ite_t hm (of_decide_eq_true h11)
   refine c_seq<|c_region<|g_v rfl r_assign<|g_v rfl r_assign<|g_nil<|d_then<|c_ret<|d_ret_block<|d_ret_then ?_
   cases hm
   refine d_sta _ (fun W h=>nilR h 12 9 1)<|d_sta _ (fun W h=>ok_frontR (t:=12) (t':=2000) h rfl) ?_
   exact d_retM (tD:=5) (none,0) Try.results83 (res_tmp (res_tmp (res_nil rfl))) (Nat.le_refl 0) rfl (by simp) (fun W h=>(((((h.dropR (t:=4) rfl).dropH (t:=100050) rfl).dropH (t:=100095) rfl).dropH (t:=100096) rfl).dropH (t:=100040) rfl).phi (fun W hφ=>hφ)) (.inr rfl)
  replace hm:=ite_f hm (of_decide_eq_false h11)
  refine c_skip<|d_normal_block<|d_then<|c_seq<|c_region<|g_v rfl (r_load (tag:=100040) rfl rfl rfl Try.isAgg125)<|g_v rfl r_assign<|g_v rfl r_assign<|g_nil<|d_then ?_
  refine c_ret ?_
  cases hm
  refine d_sta _ (fun W h=>ok_frontR (t:=4) (t':=2000) h rfl) ?_
  exact d_retM (tD:=5) (A6,c7) Try.results83 (res_tmp (res_tmp (res_nil rfl))) hc7 rfl (by simp) (fun W h=>((((h.dropH (t:=100050) rfl).dropH (t:=100095) rfl).dropH (t:=100096) rfl).dropH (t:=100040) rfl).phi (fun W hφ=>hφ)) (.inr rfl)
 replace hm:=ite_t hm (of_decide_eq_true h9)
 refine g_no rfl rfl rfl rfl rfl h9<|g_v rfl (r_pick1 rfl h9)<|g_v rfl r_assign<|g_nil<|d_then ?_
 refine c_flat [(0,Vs p0),(4,Vp g1),(16,.bool true)] ⟨rfl,rfl,rfl,trivial⟩ (fun u=>?_)
 refine c_cond1 rfl rfl<|c_seq<|c_region<|g_v rfl r_assign<|g_v rfl r_assign<|g_nil<|d_then<|c_ret<|d_ret_block<|d_ret_then ?_
 cases hm
 refine d_sta _ (fun W h=>nilR h 13 9 1)<|d_sta _ (fun W h=>ok_frontR (t:=13) (t':=2000) h rfl) ?_
 exact d_retM (tD:=5) (none,0) Try.results83 (res_tmp (res_tmp (res_nil rfl))) (Nat.le_refl 0) rfl (by simp) (fun W h=>(((((h.dropR (t:=4) rfl).dropH (t:=100050) rfl).dropH (t:=100095) rfl).dropH (t:=100096) rfl).dropH (t:=100040) rfl).phi (fun W hφ=>hφ)) (.inr rfl)
noncomputable def m_name_Check (p0 : ByteArray) : Option Int:=
  (m_name_Labels p0).bind fun (z7 : (List ByteArray)×Int)=>
  some z7.2
theorem c_name_Check {w0 : World} {M : Nat→Prop} {H : List (Nat×Nat×Obj)} {R : List (Nat×Row)} {φ : World→Prop} (p0 : ByteArray) (r : Int) (hm : m_name_Check p0 = some r) :
    Cn Try.prog 52 #[Vs p0] ⟨w0,M,H,R,φ⟩ (fun x : Unit=>Vi r) (fun x=>True) (fun x=>⟨w0,M,H,R,φ⟩):=by
 unfold m_name_Check at hm
 refine cn_intro (fn:=Try.f52) (N:=11) Try.func52 rfl Try.ntmps52 rfl<|c_seq<|c_region<|g_v rfl r_assign<|g_nil<|d_then<|c_seq<|c_region<|g_v rfl r_move ?_
 replace hm:=bnd hm
 obtain ⟨⟨x1,x2⟩,hx3,hm⟩:=hm
 refine g_cn ⟨w0,M,_,_,φ⟩ (fun _ h=>h) Try.call83 rfl rfl (c_name_Labels p0 _ hx3) (fun ⟨A4,c5⟩ hc5=>?_)
 refine g_sta _ (fun W h=>(ok_frontR (t:=2000) (t':=100070) h rfl))<|g_v rfl r_move<|g_v rfl (r_extract rfl rfl)<|g_v rfl (r_extract rfl rfl)<|g_v rfl r_assign<|g_v rfl r_assign<|g_nil<|d_then<|c_seq<|c_region ?_
 refine g_v rfl r_move<|g_v rfl r_assign<|g_nil<|d_then ?_
 refine c_flat [(2,Vi x2)] ⟨rfl,trivial⟩ (fun u=>?_)
 refine c_sta ⟨w0,M,H,(100070,⟨.slice A4 x1.length c5,9,1,x1.length,x1.flatMap (fun x : ByteArray=>[Value.string x])⟩)::R,φ⟩ (fun _ h=>h)<|c_ret ?_
 cases hm
 exact d_retC () Try.results52 (res_tmp (res_nil rfl)) trivial (fun W h=>ok_pre (H1:=[]) (R1:=[_]) h (fun W hφ=>hφ)) (.inr rfl)
noncomputable def m_cache_within_102 (p0 : Int) (p1 : Int) (p2 : Int) : Option Bool:=
  if p1 ≤ p0 then
    some (decide (p0 ≤ p2))
  else
    some false
theorem c_cache_within_102 {w0 : World} {M : Nat→Prop} {H : List (Nat×Nat×Obj)} {R : List (Nat×Row)} {φ : World→Prop} (p0 : Int) (p1 : Int) (p2 : Int) (r : Bool) (hm : m_cache_within_102 p0 p1 p2 = some r) :
    Cn Try.prog 102 #[Vi p0,Vi p1,Vi p2] ⟨w0,M,H,R,φ⟩ (fun x : Unit=>.bool r) (fun x=>True) (fun x=>⟨w0,M,H,R,φ⟩):=by
 unfold m_cache_within_102 at hm
 refine cn_intro (fn:=Try.f102) (N:=15) Try.func102 rfl Try.ntmps102 rfl<|c_seq<|c_region<|g_v rfl r_assign<|g_nil<|d_then<|c_seq<|c_region<|g_v rfl r_move<|g_v rfl r_move ?_
 refine g_v rfl (r_geq rfl rfl)<|g_v rfl r_move ?_
 refine g_if rfl rfl rfl rfl rfl (fun h1=>?_) (fun h1=>?_)
 ·
  replace hm:=ite_t hm (of_decide_eq_true h1)
  refine g_v rfl r_move<|g_do rfl rfl rfl rfl rfl h1<|g_v rfl r_move<|g_do rfl rfl rfl rfl rfl h1<|g_v rfl (r_leq rfl rfl)<|g_v rfl (r_pick1 rfl h1)<|g_v rfl r_assign<|g_nil<|d_then ?_
  refine c_flat [(6,.bool (decide (p0 ≤ p2)))] ⟨rfl,trivial⟩ (fun u=>?_)
  refine c_sta ⟨w0,M,H,R,φ⟩ (fun _ h=>h)<|c_ret ?_
  cases hm
  exact d_retC () Try.results102 (res_tmp (res_nil rfl)) trivial (fun W h=>ok_pre (H1:=[]) (R1:=[]) h (fun W hφ=>hφ)) (.inr rfl)
 replace hm:=ite_f hm (of_decide_eq_false h1)
 refine g_no rfl rfl rfl rfl rfl h1<|g_no rfl rfl rfl rfl rfl h1<|g_v rfl (r_pick0 rfl h1)<|g_v rfl r_assign<|g_nil<|d_then<|c_ret ?_
 cases hm
 exact d_retC () Try.results102 (res_tmp (res_nil rfl)) trivial (fun W h=>ok_pre (H1:=[]) (R1:=[]) h (fun W hφ=>hφ)) (.inr rfl)
noncomputable def m_name_Lower_j1  (l55 : List Int) : Option ByteArray:=
  some (strOfNums l55)
noncomputable def m_name_Lower_s2 (p0 : ByteArray) (l78 : List Int) (i79 : Int) : Option (((List Int)×Int) ⊕ (List Int)):=
  if i79 < (((bytesI p0).length) : Int) then
    (at_ l78 i79).bind fun x104=>
    if 65 ≤ x104 then
      (at_ l78 i79).bind fun x109=>
      if x109 ≤ 90 then
        (at_ l78 i79).bind fun x114=>
        (at_ l78 i79).bind fun x118=>
        (setAt l78 i79 (orI .u8 x114 32)).bind fun l122=>
        some (.inl (l122,w64 (i79 + 1)))
      else
        some (.inl (l78,w64 (i79 + 1)))
    else
      some (.inl (l78,w64 (i79 + 1)))
  else
    some (.inr l78)
noncomputable def m_name_Lower (p0 : ByteArray) : Option ByteArray:=
  (loop (fun s=>m_name_Lower_s2 p0 s.1 s.2) ((bytesI p0),0)).bind fun e=>m_name_Lower_j1 e
theorem c_name_Lower {w0 : World} {M : Nat→Prop} {H : List (Nat×Nat×Obj)} {R : List (Nat×Row)} {φ : World→Prop} (p0 : ByteArray) (r : ByteArray) (hm : m_name_Lower p0 = some r) :
    Cn Try.prog 113 #[Vs p0] ⟨w0,M,H,R,φ⟩ (fun x : Unit=>Vs r) (fun x=>True) (fun x=>⟨w0,M,H,R,φ⟩):=by
 unfold m_name_Lower at hm
 refine cn_intro (fn:=Try.f113) (N:=33) Try.func113 rfl Try.ntmps113 rfl<|c_seq<|c_region<|g_v rfl r_assign<|g_nil<|d_then<|c_seq<|c_region<|g_v rfl r_move ?_
 refine g_e rfl (e_bytesH 100060 Try.underlying9 Try.underlying91 Try.underlying5 rfl) (fun ⟨g5,c6,T7⟩ hc6=>?_)
 refine g_v rfl r_assign<|g_nil<|d_then<|c_seq<|c_seq<|c_region<|g_v rfl r_move<|g_v rfl (r_lenL Try.underlying91 rfl)<|g_v rfl r_move<|g_nil ?_
 refine d_then ?_
 refine c_cut (ι:=(List Int)) [3] (fun l55=>[(3,.slice (some ⟨g5,0,none⟩) ((bytesI p0).length) c6)]) (fun l55=>⟨w0,M,(100060,g5,rowO l55 T7 5)::H,R,φ⟩) (fun l55=>m_name_Lower_j1 l55 = some r∧l55.length = (bytesI p0).length) ?_ (fun l55 u ⟨hm,hl55⟩=>?_)
 ·
  refine c_block ?_
  replace hm:=bnd hm
  obtain ⟨out2,hl2,hr2⟩:=hm
  obtain ⟨n102',hl2⟩:=loop_lp hl2
  refine c_loopU (ι:=Nat×(List Int)×Int) [3,8,9] (fun ⟨n102,l78,i79⟩=>[(3,.slice (some ⟨g5,0,none⟩) ((bytesI p0).length) c6),(9,Vi i79)]) (fun ⟨n102,l78,i79⟩=>⟨w0,M,(100060,g5,rowO l78 T7 5)::H,R,φ⟩) (fun ⟨n102,l78,i79⟩=>Lp (fun s=>m_name_Lower_s2 p0 s.1 s.2) n102 (l78,i79) out2∧l78.length = (bytesI p0).length) (fun ⟨n102,l78,i79⟩=>n102) (n102',(bytesI p0),0) ⟨hl2,rfl⟩ ⟨rfl,rfl,rfl,trivial⟩ (fun W h=>h.phi (fun W hφ=>hφ)) (fun ⟨n102,l78,i79⟩ u ⟨hlp,hl78⟩=>?_)
  obtain ⟨o2,hm,hnx2⟩:=lp_step hlp
  clear hlp
  replace hm : m_name_Lower_s2 p0 l78 i79 = some o2:=hm
  unfold m_name_Lower_s2 at hm
  refine c_flat [(3,.slice (some ⟨g5,0,none⟩) ((bytesI p0).length) c6),(8,Vi (((bytesI p0).length) : Int)),(9,Vi i79)] ⟨rfl,rfl,rfl,trivial⟩ (fun u=>?_)
  refine c_sta ⟨w0,M,(100060,g5,rowO l78 T7 5)::H,R,φ⟩ (fun _ h=>h)<|c_seq<|c_region<|g_v rfl (r_lss rfl rfl)<|g_nil<|d_then<|c_seq ?_
  refine c_cond rfl (fun h103=>?_) (fun h103=>?_)
  ·
   replace hm:=ite_t hm (of_decide_eq_true h103)
   refine c_skip<|d_then<|c_seq<|c_block<|c_seq<|c_region<|g_v rfl r_move<|g_v rfl r_assign<|g_nil<|d_then ?_
   refine c_seq<|c_region<|g_v rfl r_move<|g_v rfl r_move ?_
   replace hm:=bnd hm
   obtain ⟨x104,hx104,hm⟩:=hm
   refine g_know _ (fun W hS=>cl_at (p:=(Sta.ok ⟨w0,M,(100060,g5,rowO l78 T7 5)::H,R,φ⟩)) (sz:=1) (fun _=>rfl) (by decide) hS (hrowCl (S:=⟨w0,M,(100060,g5,rowO l78 T7 5)::H,R,φ⟩) (tag:=100060) rfl) hx104) ?_
   rintro ⟨ad105,hA107,f106⟩
   refine g_v rfl (r_ixN hl78 Try.underlying91 Try.sizeOf5 rfl hA107 rfl hx104)<|g_v rfl (r_ld rfl Try.isAgg5 (fun W hS=>Cl.head (f106 W hS)))<|g_v rfl (r_geq rfl rfl)<|g_v rfl r_move ?_
   refine g_if rfl rfl rfl rfl rfl (fun h108=>?_) (fun h108=>?_)
   ·
    replace hm:=ite_t hm (of_decide_eq_true h108)
    refine g_v rfl r_move<|g_do rfl rfl rfl rfl rfl h108<|g_v rfl r_move<|g_do rfl rfl rfl rfl rfl h108 ?_
    replace hm:=bnd hm
    obtain ⟨x109,hx109,hm⟩:=hm
    refine g_know _ (fun W hS=>cl_at (p:=(Sta.ok ⟨w0,M,(100060,g5,rowO l78 T7 5)::H,R,φ⟩)) (sz:=1) (fun _=>rfl) (by decide) hS (hrowCl (S:=⟨w0,M,(100060,g5,rowO l78 T7 5)::H,R,φ⟩) (tag:=100060) rfl) hx109) ?_
    rintro ⟨ad110,hA112,f111⟩
    refine g_v rfl (r_ixN hl78 Try.underlying91 Try.sizeOf5 rfl hA112 rfl hx109)<|g_do rfl rfl rfl rfl rfl h108<|g_v rfl (r_ld rfl Try.isAgg5 (fun W hS=>Cl.head (f111 W hS)))<|g_do rfl rfl rfl rfl rfl h108<|g_v rfl (r_leq rfl rfl)<|g_v rfl (r_pick1 rfl h108)<|g_nil<|d_then ?_
    refine c_flat [(3,.slice (some ⟨g5,0,none⟩) ((bytesI p0).length) c6),(4,Vi i79),(8,Vi (((bytesI p0).length) : Int)),(9,Vi i79),(23,.bool (decide (x109 ≤ 90)))] ⟨rfl,rfl,rfl,rfl,rfl,trivial⟩ (fun u=>?_)
    refine c_cond rfl (fun h113=>?_) (fun h113=>?_)
    ·
     replace hm:=ite_t hm (of_decide_eq_true h113)
     refine c_region<|g_v rfl r_move<|g_v rfl r_move ?_
     replace hm:=bnd hm
     obtain ⟨x114,hx114,hm⟩:=hm
     refine g_know _ (fun W hS=>cl_at (p:=(Sta.ok ⟨w0,M,(100060,g5,rowO l78 T7 5)::H,R,φ⟩)) (sz:=1) (fun _=>rfl) (by decide) hS (hrowCl (S:=⟨w0,M,(100060,g5,rowO l78 T7 5)::H,R,φ⟩) (tag:=100060) rfl) hx114) ?_
     rintro ⟨ad115,hA117,f116⟩
     refine g_v rfl (r_ixN hl78 Try.underlying91 Try.sizeOf5 rfl hA117 rfl hx114)<|g_v rfl (r_ld rfl Try.isAgg5 (fun W hS=>Cl.head (f116 W hS)))<|g_v rfl (r_bits_or rfl rfl) ?_
     replace hm:=bnd hm
     obtain ⟨x118,hx118,hm⟩:=hm
     refine g_know _ (fun W hS=>cl_at (p:=(Sta.ok ⟨w0,M,(100060,g5,rowO l78 T7 5)::H,R,φ⟩)) (sz:=1) (fun _=>rfl) (by decide) hS (hrowCl (S:=⟨w0,M,(100060,g5,rowO l78 T7 5)::H,R,φ⟩) (tag:=100060) rfl) hx118) ?_
     rintro ⟨ad119,hA121,f120⟩
     refine g_v rfl (r_ixN hl78 Try.underlying91 Try.sizeOf5 rfl hA121 rfl hx118) ?_
     replace hm:=bnd hm
     obtain ⟨l122,hl122,hm⟩:=hm
     refine g_stH (tag:=100060) (l:=l78) rfl rfl hA121 rfl hl122 rfl Try.sizeOf5<|g_nil<|d_normal_block<|d_then<|c_region<|g_v rfl (r_add rfl rfl rfl)<|g_v rfl r_move<|g_nil ?_
     obtain ⟨n123,hn123,hlp⟩:=nx_inl hm hnx2
     exact d_round (n123,l122,w64 (i79 + 1)) ⟨hlp,((setAt_lenE hl122).trans hl78)⟩ hn123 ⟨rfl,rfl,rfl,trivial⟩ (fun W h=>h.phi (fun W hφ=>hφ))
    replace hm:=ite_f hm (of_decide_eq_false h113)
    refine c_skip<|d_normal_block<|d_then<|c_region<|g_v rfl (r_add rfl rfl rfl)<|g_v rfl r_move<|g_nil ?_
    obtain ⟨n124,hn124,hlp⟩:=nx_inl hm hnx2
    exact d_round (n124,l78,w64 (i79 + 1)) ⟨hlp,hl78⟩ hn124 ⟨rfl,rfl,rfl,trivial⟩ (fun W h=>h.phi (fun W hφ=>hφ))
   replace hm:=ite_f hm (of_decide_eq_false h108)
   iterate 4 refine g_no rfl rfl rfl rfl rfl h108 ?_
   refine g_v rfl (r_pick0 rfl h108)<|g_nil<|d_then ?_
   refine c_flat [(3,.slice (some ⟨g5,0,none⟩) ((bytesI p0).length) c6),(4,Vi i79),(8,Vi (((bytesI p0).length) : Int)),(9,Vi i79),(23,.bool false)] ⟨rfl,rfl,rfl,rfl,rfl,trivial⟩ (fun u=>?_)
   refine c_cond0 rfl rfl<|c_skip<|d_normal_block<|d_then<|c_region<|g_v rfl (r_add rfl rfl rfl)<|g_v rfl r_move<|g_nil ?_
   obtain ⟨n125,hn125,hlp⟩:=nx_inl hm hnx2
   exact d_round (n125,l78,w64 (i79 + 1)) ⟨hlp,hl78⟩ hn125 ⟨rfl,rfl,rfl,trivial⟩ (fun W h=>h.phi (fun W hφ=>hφ))
  replace hm:=ite_f hm (of_decide_eq_false h103)
  refine c_exit<|d_exit_then<|d_exit_then<|d_exit_block ?_
  replace hm:=nx_out (C:=(fun e : (List Int)=>m_name_Lower_j1 e = some r)) hm hnx2 hr2
  exact d_round l78 ⟨hm,hl78⟩ Nat.zero_lt_one ⟨rfl,trivial⟩ (fun W h=>h.phi (fun W hφ=>hφ))
 unfold m_name_Lower_j1 at hm
 refine d_flat [(3,.slice (some ⟨g5,0,none⟩) ((bytesI p0).length) c6)] ⟨rfl,trivial⟩ (fun u=>?_)
 refine d_sta ⟨w0,M,(100060,g5,rowO l55 T7 5)::H,R,φ⟩ (fun _ h=>h)<|d_then<|c_seq<|c_region<|g_v rfl r_move<|g_v rfl (r_textN hl55 Try.underlying91 Try.underlying5 Try.underlying9 rfl (hrowCl (tag:=100060) rfl))<|g_v rfl r_assign<|g_nil<|d_then<|c_ret ?_
 cases hm
 exact d_retC () Try.results113 (res_tmp (res_nil rfl)) trivial (fun W h=>ok_pre (H1:=[_]) (R1:=[]) h (fun W hφ=>hφ)) (.inr rfl)
noncomputable def m_name_Same (p0 : ByteArray) (p1 : ByteArray) : Option Bool:=
  (m_name_Check p0).bind fun x1=>
  if x1 = 0 then
    (m_name_Lower p0).bind fun x4=>
    (m_name_Lower p1).bind fun x6=>
    some (decide (x4 = x6))
  else
    some false
theorem c_name_Same {w0 : World} {M : Nat→Prop} {H : List (Nat×Nat×Obj)} {R : List (Nat×Row)} {φ : World→Prop} (p0 : ByteArray) (p1 : ByteArray) (r : Bool) (hm : m_name_Same p0 p1 = some r) :
    Cn Try.prog 105 #[Vs p0,Vs p1] ⟨w0,M,H,R,φ⟩ (fun x : Unit=>.bool r) (fun x=>True) (fun x=>⟨w0,M,H,R,φ⟩):=by
 unfold m_name_Same at hm
 refine cn_intro (fn:=Try.f105) (N:=15) Try.func105 rfl Try.ntmps105 rfl<|c_seq<|c_region<|g_v rfl r_assign<|g_nil<|d_then<|c_seq<|c_region<|g_v rfl r_move ?_
 replace hm:=bnd hm
 obtain ⟨x1,hx2,hm⟩:=hm
 refine g_cn ⟨w0,M,_,_,φ⟩ (fun _ h=>h) Try.call52 rfl rfl (c_name_Check p0 _ hx2) (fun _ _=>?_)
 refine g_v rfl (r_eql rfl rfl)<|g_v rfl r_move ?_
 refine g_if rfl rfl rfl rfl rfl (fun h3=>?_) (fun h3=>?_)
 ·
  replace hm:=ite_t hm (of_decide_eq_true h3)
  refine g_v rfl r_move<|g_do rfl rfl rfl rfl rfl h3 ?_
  replace hm:=bnd hm
  obtain ⟨x4,hx5,hm⟩:=hm
  refine g_cn ⟨w0,M,_,_,φ⟩ (fun _ h=>h) Try.call113 rfl rfl (c_name_Lower p0 _ hx5) (fun _ _=>?_)
  refine g_do rfl rfl rfl rfl rfl h3<|g_v rfl r_move<|g_do rfl rfl rfl rfl rfl h3 ?_
  replace hm:=bnd hm
  obtain ⟨x6,hx7,hm⟩:=hm
  refine g_cn ⟨w0,M,_,_,φ⟩ (fun _ h=>h) Try.call113 rfl rfl (c_name_Lower p1 _ hx7) (fun _ _=>?_)
  refine g_do rfl rfl rfl rfl rfl h3<|g_v rfl (r_eqlT rfl rfl)<|g_v rfl (r_pick1 rfl h3)<|g_v rfl r_assign<|g_nil<|d_then ?_
  refine c_flat [(4,.bool (decide (x4 = x6)))] ⟨rfl,trivial⟩ (fun u=>?_)
  refine c_sta ⟨w0,M,H,R,φ⟩ (fun _ h=>h)<|c_ret ?_
  cases hm
  exact d_retC () Try.results105 (res_tmp (res_nil rfl)) trivial (fun W h=>ok_pre (H1:=[]) (R1:=[]) h (fun W hφ=>hφ)) (.inr rfl)
 replace hm:=ite_f hm (of_decide_eq_false h3)
 iterate 4 refine g_no rfl rfl rfl rfl rfl h3 ?_
 refine g_v rfl (r_pick0 rfl h3)<|g_v rfl r_assign<|g_nil<|d_then<|c_ret ?_
 cases hm
 exact d_retC () Try.results105 (res_tmp (res_nil rfl)) trivial (fun W h=>ok_pre (H1:=[]) (R1:=[]) h (fun W hφ=>hφ)) (.inr rfl)
noncomputable def m_cache_Check_c2 (p0 : GRR) (o0 : GCached) : Option Bool:=
  if p0.fType = o0.fType then
    (m_name_Same p0.fName o0.fName).bind fun x3=>
    some x3
  else
    some false
theorem c_cache_Check_c2 {w0 : World} {M : Nat→Prop} {H : List (Nat×Nat×Obj)} {R : List (Nat×Row)} {φ : World→Prop} (p0 : GRR) (go0 : Nat) (o0 : GCached) (Ao0_0 : Option Addr) (co0_0 : Nat) (hco0_0 : o0.fRecords.length ≤ co0_0) (fo0_0 : ∀ W,φ W→Cl W Ao0_0 (o0.fRecords.flatMap GRR.enc)) (r : Bool) (hm : m_cache_Check_c2 p0 o0 = some r) :
    Cn Try.prog 104 #[.agg #[Vs p0.fName,Vu p0.fType,Vu p0.fClass,.int .u32 p0.fTTL,Vs p0.fData],Vp go0] ⟨w0,M,(1000,go0,.cells #[Vi o0.fKind,Vs o0.fName,Vu o0.fType,Vu o0.fClass,.slice Ao0_0 o0.fRecords.length co0_0,Vi o0.fUntil,Vi o0.fRank,Vi o0.fEpoch,Vi o0.fSource] 41 (0,0))::H,R,φ⟩ (fun x : Unit=>.bool r) (fun x=>True) (fun x=>⟨w0,M,(1000,go0,.cells #[Vi o0.fKind,Vs o0.fName,Vu o0.fType,Vu o0.fClass,.slice Ao0_0 o0.fRecords.length co0_0,Vi o0.fUntil,Vi o0.fRank,Vi o0.fEpoch,Vi o0.fSource] 41 (0,0))::H,R,φ⟩):=by
 unfold m_cache_Check_c2 at hm
 refine cn_intro (fn:=Try.f104) (N:=16) Try.func104 rfl Try.ntmps104 rfl<|c_seq<|c_region ?_
 refine g_e rfl (e_box 100020 rfl) (fun g1 _=>?_)
 refine g_v rfl r_assign<|g_nil<|d_then<|c_seq<|c_region<|g_v rfl (r_field (n:=1) Try.underlying54 rfl Try.sizeOf22 rfl rfl)<|g_v rfl (r_load (tag:=100020) rfl rfl rfl Try.isAgg22)<|g_v rfl (r_field (n:=2) Try.underlying41 rfl Try.sizeOf22 rfl rfl)<|g_v rfl (r_load (tag:=1000) rfl rfl rfl Try.isAgg22)<|g_v rfl (r_eql rfl rfl) ?_
 refine g_v rfl r_move<|g_sta ⟨w0,M,(100020,g1,.cells #[Vs p0.fName,Vu p0.fType,Vu p0.fClass,.int .u32 p0.fTTL,Vs p0.fData] 54 (0,0))::(1000,go0,.cells #[Vi o0.fKind,Vs o0.fName,Vu o0.fType,Vu o0.fClass,.slice Ao0_0 o0.fRecords.length co0_0,Vi o0.fUntil,Vi o0.fRank,Vi o0.fEpoch,Vi o0.fSource] 41 (0,0))::H,R,φ⟩ (fun _ h=>h) ?_
 refine g_if rfl rfl rfl rfl rfl (fun h2=>?_) (fun h2=>?_)
 ·
  replace hm:=ite_t hm (of_decide_eq_true h2)
  refine g_v rfl (r_field (n:=0) Try.underlying54 rfl Try.sizeOf9 rfl rfl)<|g_do rfl rfl rfl rfl rfl h2<|g_v rfl (r_load (tag:=100020) rfl rfl rfl Try.isAgg9)<|g_do rfl rfl rfl rfl rfl h2<|g_v rfl (r_field (n:=1) Try.underlying41 rfl Try.sizeOf9 rfl rfl)<|g_do rfl rfl rfl rfl rfl h2<|g_v rfl (r_load (tag:=1000) rfl rfl rfl Try.isAgg9)<|g_do rfl rfl rfl rfl rfl h2 ?_
  replace hm:=bnd hm
  obtain ⟨x3,hx4,hm⟩:=hm
  refine g_cn ⟨w0,M,_,_,φ⟩ (fun _ h=>h) Try.call105 rfl rfl (c_name_Same p0.fName o0.fName _ hx4) (fun _ _=>?_)
  refine g_v rfl (r_pick1 rfl h2)<|g_v rfl r_assign<|g_nil<|d_then ?_
  refine c_flat [(3,.bool x3)] ⟨rfl,trivial⟩ (fun u=>?_)
  refine c_ret ?_
  cases hm
  exact d_retC () Try.results104 (res_tmp (res_nil rfl)) trivial (fun W h=>(h.dropH (t:=100020) rfl).phi (fun W hφ=>hφ)) (.inr rfl)
 replace hm:=ite_f hm (of_decide_eq_false h2)
 iterate 4 refine g_no rfl rfl rfl rfl rfl h2 ?_
 refine g_v rfl (r_pick0 rfl h2)<|g_v rfl r_assign<|g_nil<|d_then ?_
 refine c_flat [(3,.bool false)] ⟨rfl,trivial⟩ (fun u=>?_)
 refine c_ret ?_
 cases hm
 exact d_retC () Try.results104 (res_tmp (res_nil rfl)) trivial (fun W h=>(h.dropH (t:=100020) rfl).phi (fun W hφ=>hφ)) (.inr rfl)
structure Grecord_shape where
  fahead : Int
  fnames : Int
  fbehind : Int
  deriving DecidableEq
def Grecord_shape.enc (e : Grecord_shape) : List Value:=[.int .i64 e.fahead,.int .i64 e.fnames,.int .i64 e.fbehind]
theorem bld135_6 (z0 : Int) (z1 : Int) (z2 : Int) : ∀ W,(Instr.build 135 #[(0,Vi z0),(1,Vi z1),(2,Vi z2)]).run Try.prog W = .ok (.agg #[Vi z0,Vi z1,Vi z2]) W:=fun _=>by kernel_rfl
theorem bld135_7  : ∀ W,(Instr.build 135 #[]).run Try.prog W = .ok (.agg #[Vi 0,Vi 0,Vi 0]) W:=fun _=>by kernel_rfl
noncomputable def m_record_shapeOf_j1 (p0 : Int) (b4 : Bool) : Option Grecord_shape:=
  if b4 = true then
    some (⟨0,1,0⟩ : Grecord_shape)
  else
    if p0 = 15 then
      some (⟨2,1,0⟩ : Grecord_shape)
    else
      if p0 = 6 then
        some (⟨0,2,20⟩ : Grecord_shape)
      else
        some (⟨0,0,0⟩ : Grecord_shape)
noncomputable def m_record_shapeOf (p0 : Int) : Option Grecord_shape:=
  if p0 = 2 then
    m_record_shapeOf_j1 p0 (decide (p0 = 2))
  else
    if p0 = 5 then
      m_record_shapeOf_j1 p0 (decide (p0 = 5))
    else
      m_record_shapeOf_j1 p0 (decide (p0 = 12))
theorem c_record_shapeOf {w0 : World} {M : Nat→Prop} {H : List (Nat×Nat×Obj)} {R : List (Nat×Row)} {φ : World→Prop} (p0 : Int) (r : Grecord_shape) (hm : m_record_shapeOf p0 = some r) :
    Cn Try.prog 85 #[Vu p0] ⟨w0,M,H,R,φ⟩ (fun x : Unit=>.agg #[Vi r.fahead,Vi r.fnames,Vi r.fbehind]) (fun x=>True) (fun x=>⟨w0,M,H,R,φ⟩):=by
 unfold m_record_shapeOf at hm
 refine cn_intro (fn:=Try.f85) (N:=16) Try.func85 rfl Try.ntmps85 rfl<|c_seq<|c_region ?_
 refine g_e rfl (e_alloc 100020 Try.zeroValue135) (fun g1 _=>?_)
 refine g_nil<|d_then<|c_seq<|c_seq<|c_region<|g_v rfl r_move<|g_nil<|d_then<|c_block<|c_seq ?_
 refine c_cut (ι:=Bool) [2,3,4] (fun b4=>[(4,.bool b4)]) (fun b4=>⟨w0,M,(100020,g1,.cells #[Vi 0,Vi 0,Vi 0] 135 (0,0))::H,R,φ⟩) (fun b4=>m_record_shapeOf_j1 p0 b4 = some r) ?_ (fun b4 u hm=>?_)
 ·
  refine c_seq<|c_region<|g_v rfl (r_eql rfl rfl)<|g_v rfl r_assign<|g_nil<|d_then ?_
  refine c_cond rfl (fun h8=>?_) (fun h8=>?_)
  ·
   replace hm:=ite_t hm (of_decide_eq_true h8)
   refine c_skip ?_
   exact d_round (decide (p0 = 2)) hm Nat.zero_lt_one ⟨rfl,rfl,rfl,trivial⟩ (fun W h=>h.phi (fun W hφ=>hφ))
  replace hm:=ite_f hm (of_decide_eq_false h8)
  refine c_seq<|c_region<|g_v rfl (r_eql rfl rfl)<|g_v rfl r_assign<|g_nil<|d_then ?_
  refine c_cond rfl (fun h9=>?_) (fun h9=>?_)
  ·
   replace hm:=ite_t hm (of_decide_eq_true h9)
   refine c_skip ?_
   exact d_round (decide (p0 = 5)) hm Nat.zero_lt_one ⟨rfl,rfl,rfl,trivial⟩ (fun W h=>h.phi (fun W hφ=>hφ))
  replace hm:=ite_f hm (of_decide_eq_false h9)
  refine c_region<|g_v rfl (r_eql rfl rfl)<|g_v rfl r_assign<|g_nil ?_
  exact d_round (decide (p0 = 12)) hm Nat.zero_lt_one ⟨rfl,rfl,rfl,trivial⟩ (fun W h=>h.phi (fun W hφ=>hφ))
 unfold m_record_shapeOf_j1 at hm
 refine d_flat [(2,Vp g1),(3,Vu p0),(4,.bool b4)] ⟨rfl,rfl,rfl,trivial⟩ (fun u=>?_)
 refine d_sta ⟨w0,M,(100020,g1,.cells #[Vi 0,Vi 0,Vi 0] 135 (0,0))::H,R,φ⟩ (fun _ h=>h)<|d_then ?_
 refine c_cond rfl (fun h5=>?_) (fun h5=>?_)
 ·
  replace hm:=ite_t hm h5
  refine c_seq<|c_region<|g_v rfl (r_build _ rfl (bld135_6 _ _ _))<|g_storeL (tag:=100020) rfl rfl rfl rfl Try.sizeOf135 rfl rfl<|g_nil<|d_then<|c_ret<|d_ret_block<|d_ret_then ?_
  cases hm
  exact d_retC () Try.results85 (res_agg (tag:=100020) rfl rfl Try.isAgg135 Try.sizeOf135 (res_nil rfl)) trivial (fun W h=>ok_pre (H1:=[_]) (R1:=[]) h (fun W hφ=>hφ)) (.inr rfl)
 replace hm:=ite_f hm (bool_nt h5)
 refine c_seq<|c_region<|g_v rfl (r_eql rfl rfl)<|g_v rfl r_assign<|g_nil<|d_then ?_
 refine c_cond rfl (fun h6=>?_) (fun h6=>?_)
 ·
  replace hm:=ite_t hm (of_decide_eq_true h6)
  refine c_seq<|c_region<|g_v rfl (r_build _ rfl (bld135_6 _ _ _))<|g_storeL (tag:=100020) rfl rfl rfl rfl Try.sizeOf135 rfl rfl<|g_nil<|d_then<|c_ret<|d_ret_block<|d_ret_then ?_
  cases hm
  exact d_retC () Try.results85 (res_agg (tag:=100020) rfl rfl Try.isAgg135 Try.sizeOf135 (res_nil rfl)) trivial (fun W h=>ok_pre (H1:=[_]) (R1:=[]) h (fun W hφ=>hφ)) (.inr rfl)
 replace hm:=ite_f hm (of_decide_eq_false h6)
 refine c_seq<|c_region<|g_v rfl (r_eql rfl rfl)<|g_v rfl r_assign<|g_nil<|d_then ?_
 refine c_cond rfl (fun h7=>?_) (fun h7=>?_)
 ·
  replace hm:=ite_t hm (of_decide_eq_true h7)
  refine c_seq<|c_region<|g_v rfl (r_build _ rfl (bld135_6 _ _ _))<|g_storeL (tag:=100020) rfl rfl rfl rfl Try.sizeOf135 rfl rfl<|g_nil<|d_then<|c_ret<|d_ret_block<|d_ret_then ?_
  cases hm
  exact d_retC () Try.results85 (res_agg (tag:=100020) rfl rfl Try.isAgg135 Try.sizeOf135 (res_nil rfl)) trivial (fun W h=>ok_pre (H1:=[_]) (R1:=[]) h (fun W hφ=>hφ)) (.inr rfl)
 replace hm:=ite_f hm (of_decide_eq_false h7)
 refine c_skip<|d_normal_block<|d_then<|c_seq<|c_region<|g_v rfl (r_build _ rfl (bld135_7))<|g_storeL (tag:=100020) rfl rfl rfl rfl Try.sizeOf135 rfl rfl<|g_nil<|d_then<|c_ret ?_
 cases hm
 exact d_retC () Try.results85 (res_agg (tag:=100020) rfl rfl Try.isAgg135 Try.sizeOf135 (res_nil rfl)) trivial (fun W h=>ok_pre (H1:=[_]) (R1:=[]) h (fun W hφ=>hφ)) (.inr rfl)
structure Grecord_parts where
  fahead : ByteArray
  fbehind : ByteArray
  fnames : List ByteArray
  deriving DecidableEq
theorem bld138_8  : ∀ W,(Instr.build 138 #[]).run Try.prog W = .ok (.agg #[Ve,Ve,V0]) W:=fun _=>by kernel_rfl
theorem bld138_9 (z0 : ByteArray) : ∀ W,(Instr.build 138 #[(0,Vs z0)]).run Try.prog W = .ok (.agg #[Vs z0,Ve,V0]) W:=fun _=>by kernel_rfl
noncomputable def m_record_shape_cut_c1_j1 (o0 : ByteArray) (o1 : Grecord_parts) (i13 : Int) : Option (Bool×ByteArray×Grecord_parts):=
  if (o0.size : Int) ≤ i13 then
    some (false,o0,o1)
  else
    (scutHi o0 (w64 (i13 + 1))).bind fun s15=>
    (m_name_Check s15).bind fun x16=>
    if x16 ≠ 0 then
      some (false,o0,o1)
    else
      (scutHi o0 (w64 (i13 + 1))).bind fun s29=>
      (app 16 o1.fnames [s29]).bind fun l31=>
      (scutLo o0 (w64 (i13 + 1))).bind fun s34=>
      some (true,s34,(⟨o1.fahead,o1.fbehind,l31⟩ : Grecord_parts))
noncomputable def m_record_shape_cut_c1_s2 (o0 : ByteArray) (i40 : Int) : Option (Int ⊕ Int):=
  if i40 < (o0.size : Int) then
    (sat_ o0 i40).bind fun b48=>
    if b48 ≠ 0 then
      (sat_ o0 i40).bind fun b50=>
      some (.inl (w64 (i40 + (w64 (1 + (w64 b50))))))
    else
      some (.inr i40)
  else
    some (.inr i40)
noncomputable def m_record_shape_cut_c1 (o0 : ByteArray) (o1 : Grecord_parts) : Option (Bool×ByteArray×Grecord_parts):=
  (loop (fun s=>m_record_shape_cut_c1_s2 o0 s) 0).bind fun e=>m_record_shape_cut_c1_j1 o0 o1 e
theorem c_record_shape_cut_c1 {w0 : World} {M : Nat→Prop} {H : List (Nat×Nat×Obj)} {R : List (Nat×Row)} {φ : World→Prop} (go0 : Nat) (o0 : ByteArray) (go1 : Nat) (o1 : Grecord_parts) (Ao1_0 : Option Addr) (co1_0 : Nat) (hco1_0 : o1.fnames.length ≤ co1_0) (r : Bool×ByteArray×Grecord_parts) (hm : m_record_shape_cut_c1 o0 o1 = some r) :
    Cn Try.prog 101 #[Vp go0,Vp go1] ⟨w0,M,(1000,go0,.cells #[Vs o0] 9 (0,0))::(1001,go1,.cells #[Vs o1.fahead,Vs o1.fbehind,.slice Ao1_0 o1.fnames.length co1_0] 138 (0,0))::H,(1000,⟨.slice Ao1_0 o1.fnames.length co1_0,9,1,o1.fnames.length,o1.fnames.flatMap (fun x : ByteArray=>[Value.string x])⟩)::R,φ⟩ (fun x : Option Addr×Nat=>.bool r.1) (fun x=>r.2.2.fnames.length ≤ x.2) (fun x=>⟨w0,M,(1000,go0,.cells #[Vs r.2.1] 9 (0,0))::(1001,go1,.cells #[Vs o1.fahead,Vs o1.fbehind,.slice x.1 r.2.2.fnames.length x.2] 138 (0,0))::H,(2000,⟨.slice x.1 r.2.2.fnames.length x.2,9,1,r.2.2.fnames.length,r.2.2.fnames.flatMap (fun x : ByteArray=>[Value.string x])⟩)::R,φ⟩):=by
 unfold m_record_shape_cut_c1 at hm
 refine cn_intro (fn:=Try.f101) (N:=46) Try.func101 rfl Try.ntmps101 rfl<|c_seq<|c_region<|g_v rfl r_assign<|g_nil<|d_then<|c_seq<|c_region<|g_v rfl r_assign<|g_nil ?_
 refine d_then<|c_seq ?_
 refine c_cut (ι:=Int) [0,1,3] (fun i13=>[(3,Vi i13)]) (fun i13=>⟨w0,M,(1000,go0,.cells #[Vs o0] 9 (0,0))::(1001,go1,.cells #[Vs o1.fahead,Vs o1.fbehind,.slice Ao1_0 o1.fnames.length co1_0] 138 (0,0))::H,(1000,⟨.slice Ao1_0 o1.fnames.length co1_0,9,1,o1.fnames.length,o1.fnames.flatMap (fun x : ByteArray=>[Value.string x])⟩)::R,φ⟩) (fun i13=>m_record_shape_cut_c1_j1 o0 o1 i13 = some r) ?_ (fun i13 u hm=>?_)
 ·
  refine c_block ?_
  replace hm:=bnd hm
  obtain ⟨out2,hl2,hr2⟩:=hm
  obtain ⟨n46',hl2⟩:=loop_lp hl2
  refine c_loopU (ι:=Nat×Int) [0,1,3] (fun ⟨n46,i40⟩=>[(3,Vi i40)]) (fun ⟨n46,i40⟩=>⟨w0,M,(1000,go0,.cells #[Vs o0] 9 (0,0))::(1001,go1,.cells #[Vs o1.fahead,Vs o1.fbehind,.slice Ao1_0 o1.fnames.length co1_0] 138 (0,0))::H,(1000,⟨.slice Ao1_0 o1.fnames.length co1_0,9,1,o1.fnames.length,o1.fnames.flatMap (fun x : ByteArray=>[Value.string x])⟩)::R,φ⟩) (fun ⟨n46,i40⟩=>Lp (fun s=>m_record_shape_cut_c1_s2 o0 s) n46 i40 out2) (fun ⟨n46,i40⟩=>n46) (n46',0) hl2 ⟨rfl,rfl,rfl,trivial⟩ (fun W h=>h.phi (fun W hφ=>hφ)) (fun ⟨n46,i40⟩ u hlp=>?_)
  obtain ⟨o2,hm,hnx2⟩:=lp_step hlp
  clear hlp
  replace hm : m_record_shape_cut_c1_s2 o0 i40 = some o2:=hm
  unfold m_record_shape_cut_c1_s2 at hm
  refine c_flat [(0,Vp go0),(1,Vp go1),(3,Vi i40)] ⟨rfl,rfl,rfl,trivial⟩ (fun u=>?_)
  refine c_sta ⟨w0,M,(1000,go0,.cells #[Vs o0] 9 (0,0))::(1001,go1,.cells #[Vs o1.fahead,Vs o1.fbehind,.slice Ao1_0 o1.fnames.length co1_0] 138 (0,0))::H,(1000,⟨.slice Ao1_0 o1.fnames.length co1_0,9,1,o1.fnames.length,o1.fnames.flatMap (fun x : ByteArray=>[Value.string x])⟩)::R,φ⟩ (fun _ h=>h)<|c_seq<|c_seq<|c_region<|g_v rfl r_move<|g_v rfl (r_load (tag:=1000) rfl rfl rfl Try.isAgg9)<|g_v rfl (r_len Try.underlying9 rfl)<|g_v rfl (r_lss rfl rfl)<|g_v rfl r_move ?_
  refine g_if rfl rfl rfl rfl rfl (fun h47=>?_) (fun h47=>?_)
  ·
   replace hm:=ite_t hm (of_decide_eq_true h47)
   refine g_v rfl (r_load (tag:=1000) rfl rfl rfl Try.isAgg9)<|g_do rfl rfl rfl rfl rfl h47<|g_v rfl r_move<|g_do rfl rfl rfl rfl rfl h47 ?_
   replace hm:=bnd hm
   obtain ⟨b48,hb48,hm⟩:=hm
   refine g_v rfl (r_sat Try.underlying9 rfl rfl hb48)<|g_do rfl rfl rfl rfl rfl h47<|g_v rfl (r_neq rfl rfl)<|g_v rfl (r_pick1 rfl h47)<|g_nil<|d_then ?_
   refine c_flat [(0,Vp go0),(1,Vp go1),(3,Vi i40),(13,.bool (decide (b48 ≠ 0)))] ⟨rfl,rfl,rfl,rfl,trivial⟩ (fun u=>?_)
   refine c_cond rfl (fun h49=>?_) (fun h49=>?_)
   ·
    replace hm:=ite_t hm (of_decide_eq_true h49)
    refine c_skip<|d_then<|c_block<|c_region<|g_v rfl r_move<|g_v rfl (r_load (tag:=1000) rfl rfl rfl Try.isAgg9)<|g_v rfl r_move ?_
    replace hm:=bnd hm
    obtain ⟨b50,hb50,hm⟩:=hm
    refine g_v rfl (r_sat Try.underlying9 rfl rfl hb50)<|g_v rfl (r_conv Try.underlying5 Try.underlying3 rfl rfl)<|g_v rfl (r_add rfl rfl rfl)<|g_v rfl (r_add rfl rfl rfl)<|g_v rfl r_assign<|g_nil<|d_normal_block ?_
    obtain ⟨n51,hn51,hlp⟩:=nx_inl hm hnx2
    exact d_round (n51,w64 (i40 + (w64 (1 + (w64 b50))))) hlp hn51 ⟨rfl,rfl,rfl,trivial⟩ (fun W h=>h.phi (fun W hφ=>hφ))
   replace hm:=ite_f hm (of_decide_eq_false h49)
   refine c_exit<|d_exit_then<|d_exit_then<|d_exit_block ?_
   replace hm:=nx_out (C:=(fun e : Int=>m_record_shape_cut_c1_j1 o0 o1 e = some r)) hm hnx2 hr2
   exact d_round i40 hm Nat.zero_lt_one ⟨rfl,rfl,rfl,trivial⟩ (fun W h=>h.phi (fun W hφ=>hφ))
  replace hm:=ite_f hm (of_decide_eq_false h47)
  iterate 3 refine g_no rfl rfl rfl rfl rfl h47 ?_
  refine g_v rfl (r_pick0 rfl h47)<|g_nil<|d_then<|c_cond0 rfl rfl<|c_exit<|d_exit_then<|d_exit_then<|d_exit_block ?_
  replace hm:=nx_out (C:=(fun e : Int=>m_record_shape_cut_c1_j1 o0 o1 e = some r)) hm hnx2 hr2
  exact d_round i40 hm Nat.zero_lt_one ⟨rfl,rfl,rfl,trivial⟩ (fun W h=>h.phi (fun W hφ=>hφ))
 unfold m_record_shape_cut_c1_j1 at hm
 refine d_flat [(0,Vp go0),(1,Vp go1),(3,Vi i13)] ⟨rfl,rfl,rfl,trivial⟩ (fun u=>?_)
 refine d_sta ⟨w0,M,(1000,go0,.cells #[Vs o0] 9 (0,0))::(1001,go1,.cells #[Vs o1.fahead,Vs o1.fbehind,.slice Ao1_0 o1.fnames.length co1_0] 138 (0,0))::H,(1000,⟨.slice Ao1_0 o1.fnames.length co1_0,9,1,o1.fnames.length,o1.fnames.flatMap (fun x : ByteArray=>[Value.string x])⟩)::R,φ⟩ (fun _ h=>h)<|d_then<|c_seq<|c_seq<|c_region<|g_v rfl r_move<|g_v rfl (r_load (tag:=1000) rfl rfl rfl Try.isAgg9)<|g_v rfl (r_len Try.underlying9 rfl)<|g_v rfl (r_geq rfl rfl)<|g_v rfl r_move ?_
 refine g_if rfl rfl rfl rfl rfl (fun h14=>?_) (fun h14=>?_)
 ·
  replace hm:=ite_f hm (of_decide_eq_false h14)
  refine g_v rfl (r_load (tag:=1000) rfl rfl rfl Try.isAgg9)<|g_do rfl rfl rfl rfl rfl h14<|g_v rfl r_move<|g_do rfl rfl rfl rfl rfl h14<|g_v rfl (r_add rfl rfl rfl)<|g_do rfl rfl rfl rfl rfl h14 ?_
  replace hm:=bnd hm
  obtain ⟨s15,hs15,hm⟩:=hm
  refine g_v rfl (r_scutHi Try.underlying9 rfl rfl hs15)<|g_do rfl rfl rfl rfl rfl h14 ?_
  replace hm:=bnd hm
  obtain ⟨x16,hx17,hm⟩:=hm
  refine g_cn ⟨w0,M,_,_,φ⟩ (fun _ h=>h) Try.call52 rfl rfl (c_name_Check s15 _ hx17) (fun _ _=>?_)
  refine g_do rfl rfl rfl rfl rfl h14<|g_v rfl (r_neq rfl rfl)<|g_v rfl (r_pick0 rfl h14)<|g_nil<|d_then ?_
  refine c_flat [(0,Vp go0),(1,Vp go1),(3,Vi i13),(32,.bool (decide (x16 ≠ 0)))] ⟨rfl,rfl,rfl,rfl,trivial⟩ (fun u=>?_)
  refine c_cond rfl (fun h18=>?_) (fun h18=>?_)
  ·
   replace hm:=ite_t hm (of_decide_eq_true h18)
   refine c_seq<|c_region<|g_v rfl r_assign<|g_nil<|d_then<|c_ret<|d_ret_then ?_
   cases hm
   refine d_sta _ (fun W h=>ok_frontR (t:=1000) (t':=2000) h rfl) ?_
   exact d_retC (Ao1_0,co1_0) Try.results101 (res_tmp (res_nil rfl)) hco1_0 (fun W h=>h.phi (fun W hφ=>hφ)) (.inr rfl)
  replace hm:=ite_f hm (of_decide_eq_false h18)
  refine c_skip<|d_then<|c_seq<|ga_start (n:=10) ⟨w0,M,(1000,go0,.cells #[Vs o0] 9 (0,0))::(1001,go1,.cells #[Vs o1.fahead,Vs o1.fbehind,.slice Ao1_0 o1.fnames.length co1_0] 138 (0,0))::H,R,φ⟩ [9] #[false,false,false,false,false,false,false,false,false,false] (fun W h=>(h.dropR (t:=1000) rfl).phi (fun W hφ=>hφ)) mixed rfl rfl<|ga_v (i:=0) (bz 10 1) rfl (by kernel_rfl) (fun _ _ _ _ h=>h) rfl (r_field (n:=2) Try.underlying138 rfl Try.sizeOf125 rfl rfl)<|ga_v (i:=1) (bz 10 3) rfl (by kernel_rfl) (fun _ _ _ _ h=>h) rfl (r_load (tag:=1001) rfl rfl rfl Try.isAgg125)<|ga_v (i:=2) (bz 10 7) rfl (by kernel_rfl) (fun _ _ _ _ h=>h) rfl (r_load (tag:=1000) rfl rfl rfl Try.isAgg9)<|ga_r (i:=3) (bz 10 15) rfl (by kernel_rfl) (by decide) rfl (r_move)<|ga_r (i:=4) (bz 10 31) rfl (by kernel_rfl) (by decide) rfl (r_add rfl rfl rfl) ?_
  replace hm:=bnd hm
  obtain ⟨s29,hs29,hm⟩:=hm
  refine ga_r (i:=5) (bz 10 63) rfl (by kernel_rfl) (by decide) rfl (r_scutHi Try.underlying9 rfl rfl hs29) ?_
  refine ga_e (i:=6) (bz 10 127) rfl (by kernel_rfl) (by decide) rfl  (e_lit (tag:=100390) (l:=[s29]) (enc:=(fun x : ByteArray=>[Value.string x])) (sz:=1) rfl Try.underlying125 (lit9_4 _) rfl rfl (fun _=>rfl)) (fun g30 W _ h=>((h.dropR (t:=100390) rfl).dropR (t:=1000) rfl).phi (fun W hφ=>hφ)) (fun g30 _=>?_)
  replace hm:=bnd hm
  obtain ⟨l31,hl31,hm⟩:=hm
  refine ga_e (i:=7) (bz 10 255) rfl (by kernel_rfl) (by decide) rfl  (e_appR (enc:=(fun x : ByteArray=>[Value.string x])) (l:=o1.fnames) (l1:=[s29]) (l2:=l31) (tag:=1000) Try.underlying125 inf9_5 rfl (by decide) (by decide) (fun _=>rfl) (fun _=>rfl) rfl hco1_0 rfl rfl (fun W hS=>rowCl (tag:=100390) rfl W hS) hl31) (fun ⟨A32,c33⟩ W hc33 h=>((h.dropR (t:=100390) rfl).dropR (t:=1000) rfl).phi (fun W hφ=>hφ)) (fun ⟨A32,c33⟩ hc33=>?_)
  refine ga_r (i:=8) (bz 10 511) rfl (by kernel_rfl) (by decide) rfl (r_field (n:=2) Try.underlying138 rfl Try.sizeOf125 rfl rfl)<|ga_lastL (i:=9) (tag:=1001) (bz 10 1023) rfl (by kernel_rfl) (by decide) rfl rfl rfl rfl Try.sizeOf125 rfl rfl<|gz_done (by kernel_rfl)<|d_then ?_
  refine c_flat [(0,Vp go0),(3,Vi i13)] ⟨rfl,rfl,trivial⟩ (fun u=>?_)
  refine c_sta ⟨w0,M,(1000,go0,.cells #[Vs o0] 9 (0,0))::(1001,go1,.cells #[Vs o1.fahead,Vs o1.fbehind,.slice A32 l31.length c33] 138 (0,0))::H,(100390,⟨.slice (some ⟨g30,0,none⟩) [s29].length 1,9,1,[s29].length,[s29].flatMap (fun x : ByteArray=>[Value.string x])⟩)::(1000,⟨.slice A32 l31.length c33,9,1,l31.length,l31.flatMap (fun x : ByteArray=>[Value.string x])⟩)::R,φ⟩ (fun _ h=>h)<|c_seq<|c_region<|g_v rfl (r_load (tag:=1000) rfl rfl rfl Try.isAgg9)<|g_v rfl r_move<|g_v rfl (r_add rfl rfl rfl) ?_
  replace hm:=bnd hm
  obtain ⟨s34,hs34,hm⟩:=hm
  refine g_v rfl (r_scutLo Try.underlying9 rfl rfl hs34)<|g_storeL (tag:=1000) rfl rfl rfl rfl Try.sizeOf9 rfl rfl<|g_nil<|d_then<|c_seq<|c_region<|g_v rfl r_assign<|g_nil<|d_then<|c_ret ?_
  cases hm
  refine d_sta _ (fun W h=>ok_frontR (t:=1000) (t':=2000) h rfl) ?_
  exact d_retC (A32,c33) Try.results101 (res_tmp (res_nil rfl)) hc33 (fun W h=>(h.dropR (t:=100390) rfl).phi (fun W hφ=>hφ)) (.inr rfl)
 replace hm:=ite_t hm (of_decide_eq_true h14)
 iterate 5 refine g_no rfl rfl rfl rfl rfl h14 ?_
 refine g_v rfl (r_pick1 rfl h14)<|g_nil<|d_then<|c_cond1 rfl rfl<|c_seq<|c_region<|g_v rfl r_assign<|g_nil<|d_then<|c_ret ?_
 refine d_ret_then ?_
 cases hm
 refine d_sta _ (fun W h=>ok_frontR (t:=1000) (t':=2000) h rfl) ?_
 exact d_retC (Ao1_0,co1_0) Try.results101 (res_tmp (res_nil rfl)) hco1_0 (fun W h=>h.phi (fun W hφ=>hφ)) (.inr rfl)
noncomputable def m_record_shape_cut_j1 (s4 : ByteArray) (p0 : Grecord_shape) (l93 : List ByteArray) (s96 : ByteArray) : Option (Grecord_parts×Bool):=
  some ((⟨s4,s96,l93⟩ : Grecord_parts),decide ((s96.size : Int) = p0.fbehind))
noncomputable def m_record_shape_cut_s2 (p0 : Grecord_shape) (s4 : ByteArray) (l114 : List ByteArray) (i117 : Int) (s118 : ByteArray) : Option (((List ByteArray)×Int×ByteArray) ⊕ (((List ByteArray)×ByteArray) ⊕ (Grecord_parts×Bool))):=
  if i117 < p0.fnames then
    (m_record_shape_cut_c1 s118 (⟨s4,(⟨#[]⟩ : ByteArray),l114⟩ : Grecord_parts)).bind fun (z143 : Bool×ByteArray×Grecord_parts)=>
    if z143.1 = true then
      some (.inl (z143.2.2.fnames,w64 (i117 + 1),z143.2.1))
    else
      some (.inr (.inr ((⟨(⟨#[]⟩ : ByteArray),(⟨#[]⟩ : ByteArray),([] : List ByteArray)⟩ : Grecord_parts),false)))
  else
    some (.inr (.inl (l114,s118)))
noncomputable def m_record_shape_cut (p0 : Grecord_shape) (p1 : ByteArray) : Option (Grecord_parts×Bool):=
  if (p1.size : Int) < p0.fahead then
    some ((⟨(⟨#[]⟩ : ByteArray),(⟨#[]⟩ : ByteArray),([] : List ByteArray)⟩ : Grecord_parts),false)
  else
    (scutHi p1 p0.fahead).bind fun s4=>
    (scutLo p1 p0.fahead).bind fun s6=>
    (loop (fun s=>m_record_shape_cut_s2 p0 s4 s.1 s.2.1 s.2.2) (([] : List ByteArray),0,s6)).bind fun e=>Sum.elim (fun e=>m_record_shape_cut_j1 s4 p0 e.1 e.2) (fun x=>some x) e
theorem c_record_shape_cut {w0 : World} {M : Nat→Prop} {H : List (Nat×Nat×Obj)} {R : List (Nat×Row)} {φ : World→Prop} (p0 : Grecord_shape) (p1 : ByteArray) (r : Grecord_parts×Bool) (hm : m_record_shape_cut p0 p1 = some r) :
    Cn Try.prog 86 #[.agg #[Vi p0.fahead,Vi p0.fnames,Vi p0.fbehind],Vs p1] ⟨w0,M,H,R,φ⟩ (fun x : Option Addr×Nat=>.tuple #[.agg #[Vs r.1.fahead,Vs r.1.fbehind,.slice x.1 r.1.fnames.length x.2],.bool r.2]) (fun x=>r.1.fnames.length ≤ x.2) (fun x=>⟨w0,M,H,R,fun W=>φ W∧Cl W x.1 (r.1.fnames.flatMap (fun x : ByteArray=>[Value.string x]))⟩):=by
 unfold m_record_shape_cut at hm
 refine cn_intro (fn:=Try.f86) (N:=42) Try.func86 rfl Try.ntmps86 rfl<|c_seq<|c_region ?_
 refine g_e rfl (e_box 100020 rfl) (fun g1 _=>?_)
 refine g_e rfl (e_alloc 100040 Try.zeroValue138) (fun g2 _=>?_)
 refine g_v rfl r_assign<|g_nil<|d_then<|c_seq<|c_seq<|c_region<|g_v rfl r_move<|g_v rfl (r_len Try.underlying9 rfl)<|g_v rfl (r_field (n:=0) Try.underlying135 rfl Try.sizeOf3 rfl rfl)<|g_v rfl (r_load (tag:=100020) rfl rfl rfl Try.isAgg3) ?_
 refine g_v rfl (r_lss rfl rfl)<|g_nil<|d_then<|c_sta ⟨w0,M,(100040,g2,.cells #[Ve,Ve,V0] 138 (0,0))::(100020,g1,.cells #[Vi p0.fahead,Vi p0.fnames,Vi p0.fbehind] 135 (0,0))::H,R,φ⟩ (fun _ h=>h) ?_
 refine c_cond rfl (fun h3=>?_) (fun h3=>?_)
 ·
  replace hm:=ite_t hm (of_decide_eq_true h3)
  refine c_seq<|c_region<|g_v rfl (r_build _ rfl (bld138_8))<|g_storeL (tag:=100040) rfl rfl rfl rfl Try.sizeOf138 rfl rfl<|g_v rfl r_assign<|g_nil<|d_then ?_
  refine c_flat [(4,Vp g2),(5,.bool false)] ⟨rfl,rfl,trivial⟩ (fun u=>?_)
  refine c_ret<|d_ret_then ?_
  cases hm
  exact d_retC (none,0) Try.results86 (res_agg (tag:=100040) rfl rfl Try.isAgg138 Try.sizeOf138 (res_tmp (res_nil rfl))) (Nat.le_refl 0) (fun W h=>ok_pre (H1:=[_,_]) (R1:=[]) h (fun W hφ=>⟨hφ,(fun W _=>Cl.nil _ _) W hφ⟩)) (.inr rfl)
 replace hm:=ite_f hm (of_decide_eq_false h3)
 refine c_skip<|d_then<|c_seq<|c_region<|g_v rfl r_move<|g_v rfl (r_field (n:=0) Try.underlying135 rfl Try.sizeOf3 rfl rfl)<|g_v rfl (r_load (tag:=100020) rfl rfl rfl Try.isAgg3) ?_
 replace hm:=bnd hm
 obtain ⟨s4,hs4,hm⟩:=hm
 refine g_v rfl (r_scutHi Try.underlying9 rfl rfl hs4)<|g_v rfl (r_build _ rfl (bld138_9 _)) ?_
 refine g_e rfl (e_alloc 100060 Try.zeroValue138) (fun g5 _=>?_)
 refine g_storeL (tag:=100060) rfl rfl rfl rfl Try.sizeOf138 rfl rfl<|g_nil<|d_then ?_
 refine c_flat [(1,Vs p1),(2,Vp g1),(4,Vp g2),(6,Vp g5)] ⟨rfl,rfl,rfl,rfl,trivial⟩ (fun u=>?_)
 refine c_sta ⟨w0,M,(100060,g5,.cells #[Vs s4,Ve,V0] 138 (0,0))::(100040,g2,.cells #[Ve,Ve,V0] 138 (0,0))::(100020,g1,.cells #[Vi p0.fahead,Vi p0.fnames,Vi p0.fbehind] 135 (0,0))::H,R,φ⟩ (fun _ h=>h)<|c_seq<|c_region<|g_v rfl r_move<|g_v rfl (r_field (n:=0) Try.underlying135 rfl Try.sizeOf3 rfl rfl)<|g_v rfl (r_load (tag:=100020) rfl rfl rfl Try.isAgg3) ?_
 replace hm:=bnd hm
 obtain ⟨s6,hs6,hm⟩:=hm
 refine g_v rfl (r_scutLo Try.underlying9 rfl rfl hs6) ?_
 refine g_e rfl (e_alloc 100070 Try.zeroValue9) (fun g7 _=>?_)
 refine g_storeL (tag:=100070) rfl rfl rfl rfl Try.sizeOf9 rfl rfl<|g_nil<|d_then<|c_seq<|c_region<|g_v rfl (r_mkf rfl)<|g_v rfl r_assign<|g_nil<|d_then<|c_seq ?_
 refine c_seq<|c_region<|g_v rfl (r_field (n:=1) Try.underlying135 rfl Try.sizeOf3 rfl rfl)<|g_v rfl (r_load (tag:=100020) rfl rfl rfl Try.isAgg3)<|g_v rfl r_move<|g_nil<|d_then ?_
 refine c_flat [(2,Vp g1),(4,Vp g2),(6,Vp g5),(7,Vp g7),(8,.func (.func 101) #[] #[Vp g7,Vp g5]),(26,Vi p0.fnames),(27,Vi 0)] ⟨rfl,rfl,rfl,rfl,rfl,rfl,rfl,trivial⟩ (fun u=>?_)
 refine c_sta ⟨w0,M,(100070,g7,.cells #[Vs s6] 9 (0,0))::(100060,g5,.cells #[Vs s4,Ve,V0] 138 (0,0))::(100040,g2,.cells #[Ve,Ve,V0] 138 (0,0))::(100020,g1,.cells #[Vi p0.fahead,Vi p0.fnames,Vi p0.fbehind] 135 (0,0))::H,R,φ⟩ (fun _ h=>h)<|c_sta _ (fun W h=>nilR h 13 9 1) ?_
 refine c_cut (ι:=(List ByteArray)×ByteArray×Option Addr×Nat) [2,4,6,7] (fun ⟨l93,s96,A94,c95⟩=>[]) (fun ⟨l93,s96,A94,c95⟩=>⟨w0,M,(100070,g7,.cells #[Vs s96] 9 (0,0))::(100060,g5,.cells #[Vs s4,Ve,.slice A94 l93.length c95] 138 (0,0))::(100040,g2,.cells #[Ve,Ve,V0] 138 (0,0))::(100020,g1,.cells #[Vi p0.fahead,Vi p0.fnames,Vi p0.fbehind] 135 (0,0))::H,(13,⟨.slice A94 l93.length c95,9,1,l93.length,l93.flatMap (fun x : ByteArray=>[Value.string x])⟩)::R,φ⟩) (fun ⟨l93,s96,A94,c95⟩=>m_record_shape_cut_j1 s4 p0 l93 s96 = some r∧l93.length ≤ c95) ?_ (fun ⟨l93,s96,A94,c95⟩ u ⟨hm,hc95⟩=>?_)
 ·
  refine c_block ?_
  replace hm:=bnd hm
  obtain ⟨out2,hl2,hr2⟩:=hm
  obtain ⟨n134',hl2⟩:=loop_lp hl2
  refine c_loopU (ι:=Nat×(List ByteArray)×Int×ByteArray×Option Addr×Nat) [2,4,6,7,8,26,27] (fun ⟨n134,l114,i117,s118,A115,c116⟩=>[(27,Vi i117)]) (fun ⟨n134,l114,i117,s118,A115,c116⟩=>⟨w0,M,(100070,g7,.cells #[Vs s118] 9 (0,0))::(100060,g5,.cells #[Vs s4,Ve,.slice A115 l114.length c116] 138 (0,0))::(100040,g2,.cells #[Ve,Ve,V0] 138 (0,0))::(100020,g1,.cells #[Vi p0.fahead,Vi p0.fnames,Vi p0.fbehind] 135 (0,0))::H,(13,⟨.slice A115 l114.length c116,9,1,l114.length,l114.flatMap (fun x : ByteArray=>[Value.string x])⟩)::R,φ⟩) (fun ⟨n134,l114,i117,s118,A115,c116⟩=>Lp (fun s=>m_record_shape_cut_s2 p0 s4 s.1 s.2.1 s.2.2) n134 (l114,i117,s118) out2∧l114.length ≤ c116) (fun ⟨n134,l114,i117,s118,A115,c116⟩=>n134) (n134',([] : List ByteArray),0,s6,none,0) ⟨hl2,(Nat.le_refl 0)⟩ ⟨rfl,rfl,rfl,rfl,rfl,rfl,rfl,trivial⟩ (fun W h=>h.phi (fun W hφ=>hφ)) (fun ⟨n134,l114,i117,s118,A115,c116⟩ u ⟨hlp,hc116⟩=>?_)
  obtain ⟨o2,hm,hnx2⟩:=lp_step hlp
  clear hlp
  replace hm : m_record_shape_cut_s2 p0 s4 l114 i117 s118 = some o2:=hm
  unfold m_record_shape_cut_s2 at hm
  refine c_flat [(2,Vp g1),(4,Vp g2),(6,Vp g5),(7,Vp g7),(8,.func (.func 101) #[] #[Vp g7,Vp g5]),(26,Vi p0.fnames),(27,Vi i117)] ⟨rfl,rfl,rfl,rfl,rfl,rfl,rfl,trivial⟩ (fun u=>?_)
  refine c_sta ⟨w0,M,(100070,g7,.cells #[Vs s118] 9 (0,0))::(100060,g5,.cells #[Vs s4,Ve,.slice A115 l114.length c116] 138 (0,0))::(100040,g2,.cells #[Ve,Ve,V0] 138 (0,0))::(100020,g1,.cells #[Vi p0.fahead,Vi p0.fnames,Vi p0.fbehind] 135 (0,0))::H,(13,⟨.slice A115 l114.length c116,9,1,l114.length,l114.flatMap (fun x : ByteArray=>[Value.string x])⟩)::R,φ⟩ (fun _ h=>h)<|c_seq<|c_region<|g_v rfl (r_lss rfl rfl)<|g_nil<|d_then<|c_seq ?_
  refine c_cond rfl (fun h135=>?_) (fun h135=>?_)
  ·
   replace hm:=ite_t hm (of_decide_eq_true h135)
   refine c_skip<|d_then<|c_seq<|c_block<|c_seq<|c_region<|g_v rfl r_move ?_
   replace hm:=bnd hm
   obtain ⟨⟨x136,x137,x138⟩,hx139,hm⟩:=hm
   refine g_cnv ⟨w0,M,(1000,g7,.cells #[Vs s118] 9 (0,0))::(1001,g5,.cells #[Vs s4,Ve,.slice A115 l114.length c116] 138 (0,0))::(100040,g2,.cells #[Ve,Ve,V0] 138 (0,0))::(100020,g1,.cells #[Vi p0.fahead,Vi p0.fnames,Vi p0.fbehind] 135 (0,0))::H,(1000,⟨.slice A115 l114.length c116,9,1,l114.length,l114.flatMap (fun x : ByteArray=>[Value.string x])⟩)::R,φ⟩ (fun W h=>(ok_front (t:=100070) (t':=1000) (ok_front (t:=100060) (t':=1001) (ok_frontR (t:=13) (t':=1000) h rfl) rfl) rfl)) Try.call101 rfl rfl rfl (c_record_shape_cut_c1 g7 s118 g5 (⟨s4,eB,l114⟩ : Grecord_parts) A115 c116 hc116 _ hx139) (fun ⟨A140,c141⟩ hc141=>?_)
   refine g_sta _ (fun W h=>(ok_frontR (t:=2000) (t':=13) (ok_front (t:=1000) (t':=100070) (ok_front (t:=1001) (t':=100060) h rfl) rfl) rfl))<|g_v rfl (r_not rfl)<|g_nil<|d_then<|c_sta ⟨w0,M,(100070,g7,.cells #[Vs x137] 9 (0,0))::(100060,g5,.cells #[Vs s4,Ve,.slice A140 x138.fnames.length c141] 138 (0,0))::(100040,g2,.cells #[Ve,Ve,V0] 138 (0,0))::(100020,g1,.cells #[Vi p0.fahead,Vi p0.fnames,Vi p0.fbehind] 135 (0,0))::H,(13,⟨.slice A140 x138.fnames.length c141,9,1,x138.fnames.length,x138.fnames.flatMap (fun x : ByteArray=>[Value.string x])⟩)::R,φ⟩ (fun _ h=>h) ?_
   refine c_cond rfl (fun h144=>?_) (fun h144=>?_)
   ·
    have h144' : x136 = false:=by revert h144; cases x136 <;> simp
    replace hm:=ite_f hm (bool_nt h144')
    refine c_seq<|c_region<|g_v rfl (r_build _ rfl (bld138_8))<|g_storeL (tag:=100040) rfl rfl rfl rfl Try.sizeOf138 rfl rfl<|g_v rfl r_assign<|g_nil<|d_then<|c_ret<|d_ret_block<|d_ret_then ?_
    refine d_ret_then<|d_ret_block<|d_ret_then<|d_ret_then ?_
    replace hm:=nx_out (C:=(fun e : ((List ByteArray)×ByteArray) ⊕ (Grecord_parts×Bool)=>Sum.elim (fun e=>m_record_shape_cut_j1 s4 p0 e.1 e.2) (fun x=>some x) e = some r)) hm hnx2 hr2
    replace hm : some ((⟨eB,eB,([] : List ByteArray)⟩ : Grecord_parts),false) = some r:=hm
    cases hm
    exact d_retC (none,0) Try.results86 (res_agg (tag:=100040) rfl rfl Try.isAgg138 Try.sizeOf138 (res_tmp (res_nil rfl))) (Nat.le_refl 0) (fun W h=>ok_pre (H1:=[_,_,_,_]) (R1:=[_]) h (fun W hφ=>⟨hφ,(fun W _=>Cl.nil _ _) W hφ⟩)) (.inr rfl)
   have h144' : x136 = true:=by revert h144; cases x136 <;> simp
   replace hm:=ite_t hm h144'
   refine c_skip<|d_normal_block<|d_then<|c_region<|g_v rfl (r_add rfl rfl rfl)<|g_v rfl r_move<|g_nil ?_
   obtain ⟨n145,hn145,hlp⟩:=nx_inl hm hnx2
   exact d_round (n145,x138.fnames,w64 (i117 + 1),x137,A140,c141) ⟨hlp,hc141⟩ hn145 ⟨rfl,rfl,rfl,rfl,rfl,rfl,rfl,trivial⟩ (fun W h=>h.phi (fun W hφ=>hφ))
  replace hm:=ite_f hm (of_decide_eq_false h135)
  refine c_exit<|d_exit_then<|d_exit_then<|d_exit_block ?_
  replace hm:=nx_out (C:=(fun e : ((List ByteArray)×ByteArray) ⊕ (Grecord_parts×Bool)=>Sum.elim (fun e=>m_record_shape_cut_j1 s4 p0 e.1 e.2) (fun x=>some x) e = some r)) hm hnx2 hr2
  exact d_round (l114,s118,A115,c116) ⟨hm,hc116⟩ Nat.zero_lt_one ⟨rfl,rfl,rfl,rfl,trivial⟩ (fun W h=>h.phi (fun W hφ=>hφ))
 unfold m_record_shape_cut_j1 at hm
 refine d_flat [(2,Vp g1),(4,Vp g2),(6,Vp g5),(7,Vp g7)] ⟨rfl,rfl,rfl,rfl,trivial⟩ (fun u=>?_)
 refine d_sta ⟨w0,M,(100070,g7,.cells #[Vs s96] 9 (0,0))::(100060,g5,.cells #[Vs s4,Ve,.slice A94 l93.length c95] 138 (0,0))::(100040,g2,.cells #[Ve,Ve,V0] 138 (0,0))::(100020,g1,.cells #[Vi p0.fahead,Vi p0.fnames,Vi p0.fbehind] 135 (0,0))::H,(13,⟨.slice A94 l93.length c95,9,1,l93.length,l93.flatMap (fun x : ByteArray=>[Value.string x])⟩)::R,φ⟩ (fun _ h=>h)<|d_then<|c_seq<|c_region<|g_v rfl (r_load (tag:=100070) rfl rfl rfl Try.isAgg9)<|g_v rfl (r_field (n:=1) Try.underlying138 rfl Try.sizeOf9 rfl rfl)<|g_storeL (tag:=100060) rfl rfl rfl rfl Try.sizeOf9 rfl rfl<|g_nil<|d_then<|c_seq ?_
 refine ga_start (n:=8) ⟨w0,M,(100070,g7,.cells #[Vs s96] 9 (0,0))::(100060,g5,.cells #[Vs s4,Vs s96,.slice A94 l93.length c95] 138 (0,0))::(100020,g1,.cells #[Vi p0.fahead,Vi p0.fnames,Vi p0.fbehind] 135 (0,0))::H,(13,⟨.slice A94 l93.length c95,9,1,l93.length,l93.flatMap (fun x : ByteArray=>[Value.string x])⟩)::R,φ⟩ [] #[false,false,false,false,false,false,false,false] (fun W h=>(h.dropH (t:=100040) rfl).phi (fun W hφ=>hφ)) mixed rfl rfl<|ga_v (i:=0) (bz 8 1) rfl (by kernel_rfl) (fun _ _ _ _ h=>h) rfl (r_loadA (tag:=100060) rfl rfl Try.isAgg138 Try.sizeOf138 rfl rfl)<|ga_v (i:=1) (bz 8 3) rfl (by kernel_rfl) (fun _ _ _ _ h=>h) rfl (r_load (tag:=100070) rfl rfl rfl Try.isAgg9)<|ga_v (i:=2) (bz 8 7) rfl (by kernel_rfl) (fun _ _ _ _ h=>h) rfl (r_len Try.underlying9 rfl)<|ga_v (i:=3) (bz 8 15) rfl (by kernel_rfl) (fun _ _ _ _ h=>h) rfl (r_field (n:=2) Try.underlying135 rfl Try.sizeOf3 rfl rfl)<|ga_v (i:=4) (bz 8 31) rfl (by kernel_rfl) (fun _ _ _ _ h=>h) rfl (r_load (tag:=100020) rfl rfl rfl Try.isAgg3)<|ga_v (i:=5) (bz 8 63) rfl (by kernel_rfl) (fun _ _ _ _ h=>h) rfl (r_eql rfl rfl)<|ga_storeN (i:=6) (tag:=100040) (bz 8 127) rfl (by kernel_rfl) (by decide) rfl rfl rfl rfl Try.sizeOf138 rfl rfl (fun W h=>(h.dropH (t:=100040) rfl).phi (fun W hφ=>hφ))<|ga_r (i:=7) (bz 8 255) rfl (by kernel_rfl) (by decide) rfl (r_assign)<|ga_done (by kernel_rfl) ?_
 refine d_then ?_
 refine c_flat [(4,Vp g2),(5,.bool (decide ((s96.size : Int) = p0.fbehind)))] ⟨rfl,rfl,trivial⟩ (fun u=>?_)
 refine c_sta ⟨w0,M,(100070,g7,.cells #[Vs s96] 9 (0,0))::(100060,g5,.cells #[Vs s4,Vs s96,.slice A94 l93.length c95] 138 (0,0))::(100040,g2,.cells #[Vs s4,Vs s96,.slice A94 l93.length c95] 138 (0,0))::(100020,g1,.cells #[Vi p0.fahead,Vi p0.fnames,Vi p0.fbehind] 135 (0,0))::H,(13,⟨.slice A94 l93.length c95,9,1,l93.length,l93.flatMap (fun x : ByteArray=>[Value.string x])⟩)::R,φ⟩ (fun _ h=>h)<|c_ret ?_
 cases hm
 refine d_shut (tag:=13) rfl (fun φ97 q97'=>?_)
 have q97 : ∀ W,φ97 W→φ W:=fun W h=>(q97' W h).1
 have f98:=fun (W : World) (h : φ97 W)=>(q97' W h).2
 exact d_retC (A94,c95) Try.results86 (res_agg (tag:=100040) rfl rfl Try.isAgg138 Try.sizeOf138 (res_tmp (res_nil rfl))) hc95 (fun W h=>ok_pre (H1:=[_,_,_,_]) (R1:=[]) h (fun W hφ=>⟨(q97 _ hφ),(fun W h=>f98 W h) W hφ⟩)) (.inr rfl)
theorem eqq135 (a b : Grecord_shape) : ∀ d W,(Op.equalIn (d + 5) 135 (.agg #[Vi a.fahead,Vi a.fnames,Vi a.fbehind]) (.agg #[Vi b.fahead,Vi b.fnames,Vi b.fbehind])).run Try.prog W = .ok (decide (a = b)) W:=by
  intro d W
  have h:=eqs_of (d:=d + 4) (xs:=#[Vi a.fahead,Vi a.fnames,Vi a.fbehind]) (ys:=#[Vi b.fahead,Vi b.fnames,Vi b.fbehind]) (w:=W) Try.underlying135 (by kernel_rfl) (eqs_cons (a:=Vi a.fahead) (b:=Vi b.fahead) rfl (by kernel_rfl) (by kernel_rfl) (eqs_int Try.underlying3) (eqs_cons (a:=Vi a.fnames) (b:=Vi b.fnames) rfl (by kernel_rfl) (by kernel_rfl) (eqs_int Try.underlying3) (eqs_cons (a:=Vi a.fbehind) (b:=Vi b.fbehind) rfl (by kernel_rfl) (by kernel_rfl) (eqs_int Try.underlying3) eqs_nil)))
  refine h.trans ?_
  congr 1
  cases a; cases b
  simp only [Grecord_shape.mk.injEq,Bool.and_true]
  simp only [Bool.decide_and]
theorem eqg135 : Try.prog.eqGuardType Try.prog.depth 135 = false:=by kernel_rfl
noncomputable def m_record_right_j1 (p1 : ByteArray) (i12 : Int) : Option Bool:=
  if i12 = (p1.size : Int) then
    some (!(decide (p1 = (⟨#[]⟩ : ByteArray))))
  else
    some false
noncomputable def m_record_right_s2 (p1 : ByteArray) (i17 : Int) : Option (Int ⊕ Int):=
  if i17 < (p1.size : Int) then
    (sat_ p1 i17).bind fun b23=>
    some (.inl (w64 (i17 + (w64 (1 + (w64 b23))))))
  else
    some (.inr i17)
noncomputable def m_record_right (p0 : Int) (p1 : ByteArray) : Option Bool:=
  if p0 = 1 then
    some (decide ((p1.size : Int) = 4))
  else
    if p0 = 28 then
      some (decide ((p1.size : Int) = 16))
    else
      if p0 = 16 then
        (loop (fun s=>m_record_right_s2 p1 s) 0).bind fun e=>m_record_right_j1 p1 e
      else
        (m_record_shapeOf p0).bind fun x25=>
        (m_record_shape_cut x25 p1).bind fun (z34 : Grecord_parts×Bool)=>
        if z34.2 = true then
          some true
        else
          (m_record_shapeOf p0).bind fun x37=>
          some (decide (x37 = (⟨0,0,0⟩ : Grecord_shape)))
theorem c_record_right {w0 : World} {M : Nat→Prop} {H : List (Nat×Nat×Obj)} {R : List (Nat×Row)} {φ : World→Prop} (p0 : Int) (p1 : ByteArray) (r : Bool) (hm : m_record_right p0 p1 = some r) :
    Cn Try.prog 100 #[Vu p0,Vs p1] ⟨w0,M,H,R,φ⟩ (fun x : Unit=>.bool r) (fun x=>True) (fun x=>⟨w0,M,H,R,φ⟩):=by
 unfold m_record_right at hm
 refine cn_intro (fn:=Try.f100) (N:=57) Try.func100 rfl Try.ntmps100 rfl<|c_seq<|c_region<|g_v rfl r_assign<|g_nil<|d_then<|c_seq<|c_seq<|c_region<|g_v rfl r_move ?_
 refine g_nil<|d_then<|c_block<|c_seq<|c_region<|g_v rfl (r_eql rfl rfl)<|g_v rfl r_assign<|g_nil<|d_then ?_
 refine c_cond rfl (fun h1=>?_) (fun h1=>?_)
 ·
  replace hm:=ite_t hm (of_decide_eq_true h1)
  refine c_seq<|c_region<|g_v rfl r_move<|g_v rfl (r_len Try.underlying9 rfl)<|g_v rfl (r_eql rfl rfl)<|g_v rfl r_assign<|g_nil<|d_then<|c_ret<|d_ret_block ?_
  refine d_ret_then ?_
  cases hm
  exact d_retC () Try.results100 (res_tmp (res_nil rfl)) trivial (fun W h=>ok_pre (H1:=[]) (R1:=[]) h (fun W hφ=>hφ)) (.inr rfl)
 replace hm:=ite_f hm (of_decide_eq_false h1)
 refine c_seq<|c_region<|g_v rfl (r_eql rfl rfl)<|g_v rfl r_assign<|g_nil<|d_then ?_
 refine c_cond rfl (fun h2=>?_) (fun h2=>?_)
 ·
  replace hm:=ite_t hm (of_decide_eq_true h2)
  refine c_seq<|c_region<|g_v rfl r_move<|g_v rfl (r_len Try.underlying9 rfl)<|g_v rfl (r_eql rfl rfl)<|g_v rfl r_assign<|g_nil<|d_then ?_
  refine c_flat [(4,.bool (decide ((p1.size : Int) = 16)))] ⟨rfl,trivial⟩ (fun u=>?_)
  refine c_sta ⟨w0,M,H,R,φ⟩ (fun _ h=>h)<|c_ret<|d_ret_block<|d_ret_then ?_
  cases hm
  exact d_retC () Try.results100 (res_tmp (res_nil rfl)) trivial (fun W h=>ok_pre (H1:=[]) (R1:=[]) h (fun W hφ=>hφ)) (.inr rfl)
 replace hm:=ite_f hm (of_decide_eq_false h2)
 refine c_seq<|c_region<|g_v rfl (r_eql rfl rfl)<|g_v rfl r_assign<|g_nil<|d_then ?_
 refine c_cond rfl (fun h3=>?_) (fun h3=>?_)
 ·
  replace hm:=ite_t hm (of_decide_eq_true h3)
  refine c_seq<|c_region<|g_v rfl r_assign<|g_nil<|d_then ?_
  refine c_flat [(1,Vs p1),(5,Vi 0)] ⟨rfl,rfl,trivial⟩ (fun u=>?_)
  refine c_sta ⟨w0,M,H,R,φ⟩ (fun _ h=>h)<|c_seq ?_
  refine c_cut (ι:=Int) [1,5] (fun i12=>[(5,Vi i12)]) (fun i12=>⟨w0,M,H,R,φ⟩) (fun i12=>m_record_right_j1 p1 i12 = some r) ?_ (fun i12 u hm=>?_)
  ·
   refine c_block ?_
   replace hm:=bnd hm
   obtain ⟨out2,hl2,hr2⟩:=hm
   obtain ⟨n21',hl2⟩:=loop_lp hl2
   refine c_loopU (ι:=Nat×Int) [1,5] (fun ⟨n21,i17⟩=>[(5,Vi i17)]) (fun ⟨n21,i17⟩=>⟨w0,M,H,R,φ⟩) (fun ⟨n21,i17⟩=>Lp (fun s=>m_record_right_s2 p1 s) n21 i17 out2) (fun ⟨n21,i17⟩=>n21) (n21',0) hl2 ⟨rfl,rfl,trivial⟩ (fun W h=>h.phi (fun W hφ=>hφ)) (fun ⟨n21,i17⟩ u hlp=>?_)
   obtain ⟨o2,hm,hnx2⟩:=lp_step hlp
   clear hlp
   replace hm : m_record_right_s2 p1 i17 = some o2:=hm
   unfold m_record_right_s2 at hm
   refine c_flat [(1,Vs p1),(5,Vi i17)] ⟨rfl,rfl,trivial⟩ (fun u=>?_)
   refine c_seq<|c_seq<|c_region<|g_v rfl r_move<|g_v rfl r_move<|g_v rfl (r_len Try.underlying9 rfl)<|g_v rfl (r_lss rfl rfl)<|g_nil<|d_then ?_
   refine c_cond rfl (fun h22=>?_) (fun h22=>?_)
   ·
    replace hm:=ite_t hm (of_decide_eq_true h22)
    refine c_skip<|d_then<|c_block<|c_region ?_
    iterate 3 refine g_v rfl r_move ?_
    replace hm:=bnd hm
    obtain ⟨b23,hb23,hm⟩:=hm
    refine g_v rfl (r_sat Try.underlying9 rfl rfl hb23)<|g_v rfl (r_conv Try.underlying5 Try.underlying3 rfl rfl)<|g_v rfl (r_add rfl rfl rfl)<|g_v rfl (r_add rfl rfl rfl)<|g_v rfl r_assign<|g_nil<|d_normal_block ?_
    obtain ⟨n24,hn24,hlp⟩:=nx_inl hm hnx2
    exact d_round (n24,w64 (i17 + (w64 (1 + (w64 b23))))) hlp hn24 ⟨rfl,rfl,trivial⟩ (fun W h=>h.phi (fun W hφ=>hφ))
   replace hm:=ite_f hm (of_decide_eq_false h22)
   refine c_exit<|d_exit_then<|d_exit_then<|d_exit_block ?_
   replace hm:=nx_out (C:=(fun e : Int=>m_record_right_j1 p1 e = some r)) hm hnx2 hr2
   exact d_round i17 hm Nat.zero_lt_one ⟨rfl,rfl,trivial⟩ (fun W h=>h.phi (fun W hφ=>hφ))
  unfold m_record_right_j1 at hm
  refine d_flat [(1,Vs p1),(5,Vi i12)] ⟨rfl,rfl,trivial⟩ (fun u=>?_)
  refine d_then<|c_seq<|c_region<|g_v rfl r_move<|g_v rfl r_move<|g_v rfl (r_len Try.underlying9 rfl)<|g_v rfl (r_eql rfl rfl)<|g_v rfl r_move ?_
  refine g_if rfl rfl rfl rfl rfl (fun h13=>?_) (fun h13=>?_)
  ·
   replace hm:=ite_t hm (of_decide_eq_true h13)
   refine g_v rfl r_move<|g_do rfl rfl rfl rfl rfl h13<|g_v rfl (r_neqT rfl rfl)<|g_v rfl (r_pick1 rfl h13)<|g_v rfl r_assign<|g_nil<|d_then ?_
   refine c_flat [(4,.bool (!(decide (p1 = eB))))] ⟨rfl,trivial⟩ (fun u=>?_)
   refine c_ret<|d_ret_block<|d_ret_then ?_
   cases hm
   exact d_retC () Try.results100 (res_tmp (res_nil rfl)) trivial (fun W h=>ok_pre (H1:=[]) (R1:=[]) h (fun W hφ=>hφ)) (.inr rfl)
  replace hm:=ite_f hm (of_decide_eq_false h13)
  refine g_no rfl rfl rfl rfl rfl h13<|g_v rfl (r_pick0 rfl h13)<|g_v rfl r_assign<|g_nil<|d_then<|c_ret<|d_ret_block<|d_ret_then ?_
  cases hm
  exact d_retC () Try.results100 (res_tmp (res_nil rfl)) trivial (fun W h=>ok_pre (H1:=[]) (R1:=[]) h (fun W hφ=>hφ)) (.inr rfl)
 replace hm:=ite_f hm (of_decide_eq_false h3)
 refine c_skip<|d_normal_block<|d_then<|c_seq<|c_region<|g_v rfl r_move ?_
 replace hm:=bnd hm
 obtain ⟨x25,hx26,hm⟩:=hm
 refine g_cn ⟨w0,M,_,_,φ⟩ (fun _ h=>h) Try.call85 rfl rfl (c_record_shapeOf p0 _ hx26) (fun _ _=>?_)
 refine g_v rfl (r_mkf rfl)<|g_v rfl r_assign<|g_nil<|d_then ?_
 refine c_flat [(0,Vu p0),(1,Vs p1),(6,.func (.func 86) #[.agg #[Vi x25.fahead,Vi x25.fnames,Vi x25.fbehind]] #[])] ⟨rfl,rfl,rfl,trivial⟩ (fun u=>?_)
 refine c_sta ⟨w0,M,H,R,φ⟩ (fun _ h=>h)<|c_seq<|c_region<|g_v rfl r_move<|g_v rfl r_move ?_
 replace hm:=bnd hm
 obtain ⟨⟨x27,x28⟩,hx29,hm⟩:=hm
 refine g_cnv ⟨w0,M,_,_,φ⟩ (fun _ h=>h) Try.call86 rfl rfl rfl (c_record_shape_cut x25 p1 _ hx29) (fun ⟨A30,c31⟩ hc31=>?_)
 refine g_abs (fun φ33 q33'=>?_)
 have q33 : ∀ W,φ33 W→φ W:=fun W h=>(q33' W h).1
 have f32:=fun (W : World) (h : φ33 W)=>(q33' W h).2
 refine g_v rfl r_move<|g_v rfl (r_extract rfl rfl)<|g_v rfl (r_extract rfl rfl) ?_
 refine g_e rfl (e_alloc 100070 Try.zeroValue138) (fun g35 _=>?_)
 refine g_storeL (tag:=100070) rfl rfl rfl rfl Try.sizeOf138 rfl rfl<|g_v rfl r_assign<|g_nil<|d_then ?_
 refine c_flat [(0,Vu p0),(8,.bool x28)] ⟨rfl,rfl,trivial⟩ (fun u=>?_)
 refine c_sta ⟨w0,M,(100070,g35,.cells #[Vs x27.fahead,Vs x27.fbehind,.slice A30 x27.fnames.length c31] 138 (0,0))::H,R,φ33⟩ (fun _ h=>h)<|c_seq<|c_region<|g_v rfl r_move<|g_v rfl r_move ?_
 refine g_if rfl rfl rfl rfl rfl (fun h36=>?_) (fun h36=>?_)
 ·
  replace hm:=ite_f hm (bool_nt h36)
  refine g_v rfl r_move<|g_do rfl rfl rfl rfl rfl h36 ?_
  replace hm:=bnd hm
  obtain ⟨x37,hx38,hm⟩:=hm
  refine g_cn ⟨w0,M,_,_,φ33⟩ (fun _ h=>h) Try.call85 rfl rfl (c_record_shapeOf p0 _ hx38) (fun _ _=>?_)
  refine g_do rfl rfl rfl rfl rfl h36<|g_v rfl (r_build _ rfl (bld135_7))<|g_do rfl rfl rfl rfl rfl h36<|g_v rfl (r_eqlA rfl rfl eqg135 (eqq135 x37 (⟨0,0,0⟩ : Grecord_shape)))<|g_v rfl (r_pick0 rfl h36)<|g_v rfl r_assign<|g_nil<|d_then<|c_ret ?_
  cases hm
  exact d_retC () Try.results100 (res_tmp (res_nil rfl)) trivial (fun W h=>ok_pre (H1:=[_]) (R1:=[]) h (fun W hφ=>(q33 _ hφ))) (.inr rfl)
 replace hm:=ite_t hm h36
 iterate 3 refine g_no rfl rfl rfl rfl rfl h36 ?_
 refine g_v rfl (r_pick1 rfl h36)<|g_v rfl r_assign<|g_nil<|d_then<|c_ret ?_
 cases hm
 exact d_retC () Try.results100 (res_tmp (res_nil rfl)) trivial (fun W h=>ok_pre (H1:=[_]) (R1:=[]) h (fun W hφ=>(q33 _ hφ))) (.inr rfl)
noncomputable def m_record_Check (p0 : GRR) : Option Int:=
  (m_name_Check p0.fName).bind fun x2=>
  if x2 ≠ 0 then
    some x2
  else
    if 2000 < (p0.fData.size : Int) then
      some 11
    else
      (m_record_right p0.fType p0.fData).bind fun x6=>
      if x6 = true then
        some 0
      else
        some 10
theorem c_record_Check {w0 : World} {M : Nat→Prop} {H : List (Nat×Nat×Obj)} {R : List (Nat×Row)} {φ : World→Prop} (p0 : GRR) (r : Int) (hm : m_record_Check p0 = some r) :
    Cn Try.prog 84 #[.agg #[Vs p0.fName,Vu p0.fType,Vu p0.fClass,.int .u32 p0.fTTL,Vs p0.fData]] ⟨w0,M,H,R,φ⟩ (fun x : Unit=>Vi r) (fun x=>True) (fun x=>⟨w0,M,H,R,φ⟩):=by
 unfold m_record_Check at hm
 refine cn_intro (fn:=Try.f84) (N:=23) Try.func84 rfl Try.ntmps84 rfl<|c_seq<|c_region ?_
 refine g_e rfl (e_box 100010 rfl) (fun g1 _=>?_)
 refine g_v rfl r_assign<|g_nil<|d_then<|c_seq<|c_region<|g_v rfl (r_field (n:=0) Try.underlying54 rfl Try.sizeOf9 rfl rfl)<|g_v rfl (r_load (tag:=100010) rfl rfl rfl Try.isAgg9) ?_
 replace hm:=bnd hm
 obtain ⟨x2,hx3,hm⟩:=hm
 refine g_cn ⟨w0,M,_,_,φ⟩ (fun _ h=>h) Try.call52 rfl rfl (c_name_Check p0.fName _ hx3) (fun _ _=>?_)
 refine g_v rfl r_assign<|g_nil<|d_then<|c_seq<|c_block<|c_seq<|c_region<|g_v rfl r_move<|g_v rfl (r_neq rfl rfl)<|g_v rfl r_assign ?_
 refine g_nil<|d_then ?_
 refine c_flat [(1,Vp g1),(3,Vi x2),(7,.bool (decide (x2 ≠ 0)))] ⟨rfl,rfl,rfl,trivial⟩ (fun u=>?_)
 refine c_sta ⟨w0,M,(100010,g1,.cells #[Vs p0.fName,Vu p0.fType,Vu p0.fClass,.int .u32 p0.fTTL,Vs p0.fData] 54 (0,0))::H,R,φ⟩ (fun _ h=>h) ?_
 refine c_cond rfl (fun h4=>?_) (fun h4=>?_)
 ·
  replace hm:=ite_t hm (of_decide_eq_true h4)
  refine c_seq<|c_region<|g_v rfl r_move<|g_v rfl r_assign<|g_nil<|d_then<|c_ret<|d_ret_block<|d_ret_then ?_
  cases hm
  exact d_retC () Try.results84 (res_tmp (res_nil rfl)) trivial (fun W h=>ok_pre (H1:=[_]) (R1:=[]) h (fun W hφ=>hφ)) (.inr rfl)
 replace hm:=ite_f hm (of_decide_eq_false h4)
 refine c_seq<|c_region<|g_v rfl (r_field (n:=4) Try.underlying54 rfl Try.sizeOf9 rfl rfl)<|g_v rfl (r_load (tag:=100010) rfl rfl rfl Try.isAgg9)<|g_v rfl (r_len Try.underlying9 rfl)<|g_v rfl (r_gtr rfl rfl)<|g_v rfl r_assign<|g_nil<|d_then ?_
 refine c_cond rfl (fun h5=>?_) (fun h5=>?_)
 ·
  replace hm:=ite_t hm (of_decide_eq_true h5)
  refine c_seq<|c_region<|g_v rfl r_assign<|g_nil<|d_then<|c_ret<|d_ret_block<|d_ret_then ?_
  cases hm
  exact d_retC () Try.results84 (res_tmp (res_nil rfl)) trivial (fun W h=>ok_pre (H1:=[_]) (R1:=[]) h (fun W hφ=>hφ)) (.inr rfl)
 replace hm:=ite_f hm (of_decide_eq_false h5)
 refine c_seq<|c_region<|g_v rfl (r_field (n:=1) Try.underlying54 rfl Try.sizeOf22 rfl rfl)<|g_v rfl (r_load (tag:=100010) rfl rfl rfl Try.isAgg22)<|g_v rfl (r_field (n:=4) Try.underlying54 rfl Try.sizeOf9 rfl rfl)<|g_v rfl (r_load (tag:=100010) rfl rfl rfl Try.isAgg9) ?_
 replace hm:=bnd hm
 obtain ⟨x6,hx7,hm⟩:=hm
 refine g_cn ⟨w0,M,_,_,φ⟩ (fun _ h=>h) Try.call100 rfl rfl (c_record_right p0.fType p0.fData _ hx7) (fun _ _=>?_)
 refine g_v rfl (r_not rfl)<|g_v rfl r_assign<|g_nil<|d_then ?_
 refine c_flat [(16,.bool (!x6))] ⟨rfl,trivial⟩ (fun u=>?_)
 refine c_cond rfl (fun h8=>?_) (fun h8=>?_)
 ·
  have h8' : x6 = false:=by revert h8; cases x6 <;> simp
  replace hm:=ite_f hm (bool_nt h8')
  refine c_seq<|c_region<|g_v rfl r_assign<|g_nil<|d_then<|c_ret<|d_ret_block<|d_ret_then ?_
  cases hm
  exact d_retC () Try.results84 (res_tmp (res_nil rfl)) trivial (fun W h=>ok_pre (H1:=[_]) (R1:=[]) h (fun W hφ=>hφ)) (.inr rfl)
 have h8' : x6 = true:=by revert h8; cases x6 <;> simp
 replace hm:=ite_t hm h8'
 refine c_skip<|d_normal_block<|d_then<|c_seq<|c_region<|g_v rfl r_assign<|g_nil<|d_then<|c_ret ?_
 cases hm
 exact d_retC () Try.results84 (res_tmp (res_nil rfl)) trivial (fun W h=>ok_pre (H1:=[_]) (R1:=[]) h (fun W hφ=>hφ)) (.inr rfl)
noncomputable def m_cache_Check_c1 (p0 : GRR) : Option Bool:=
  some (decide (p0.fType = 6))
theorem c_cache_Check_c1 {w0 : World} {M : Nat→Prop} {H : List (Nat×Nat×Obj)} {R : List (Nat×Row)} {φ : World→Prop} (p0 : GRR) (r : Bool) (hm : m_cache_Check_c1 p0 = some r) :
    Cn Try.prog 103 #[.agg #[Vs p0.fName,Vu p0.fType,Vu p0.fClass,.int .u32 p0.fTTL,Vs p0.fData]] ⟨w0,M,H,R,φ⟩ (fun x : Unit=>.bool r) (fun x=>True) (fun x=>⟨w0,M,H,R,φ⟩):=by
 unfold m_cache_Check_c1 at hm
 refine cn_intro (fn:=Try.f103) (N:=6) Try.func103 rfl Try.ntmps103 rfl<|c_seq<|c_region ?_
 refine g_e rfl (e_box 100010 rfl) (fun g1 _=>?_)
 refine g_v rfl r_assign<|g_nil<|d_then<|c_seq<|c_region<|g_v rfl (r_field (n:=1) Try.underlying54 rfl Try.sizeOf22 rfl rfl)<|g_v rfl (r_load (tag:=100010) rfl rfl rfl Try.isAgg22)<|g_v rfl (r_eql rfl rfl)<|g_v rfl r_assign<|g_nil ?_
 refine d_then<|c_ret ?_
 cases hm
 exact d_retC () Try.results103 (res_tmp (res_nil rfl)) trivial (fun W h=>ok_pre (H1:=[_]) (R1:=[]) h (fun W hφ=>hφ)) (.inr rfl)
noncomputable def m_cache_Check_j2  : Option Int:=
  some 0
noncomputable def m_cache_Check_s3 (p0 : GCached) (i69 : Int) : Option (Int ⊕ (Unit ⊕ Int)):=
  if i69 < (p0.fRecords.length : Int) then
    (at_ p0.fRecords i69).bind fun x86=>
    if x86.fClass ≠ p0.fClass then
      some (.inr (.inr 1))
    else
      (m_cache_Check_c2 x86 p0).bind fun x92=>
      if x92 = true then
        (m_record_Check x86).bind fun x95=>
        if x95 ≠ 0 then
          some (.inr (.inr 1))
        else
          some (.inl (w64 (i69 + 1)))
      else
        some (.inr (.inr 1))
  else
    some (.inr (.inl ()))
noncomputable def m_cache_Check_j1 (p0 : GCached) : Option Int:=
  (loop (fun s=>m_cache_Check_s3 p0 s) 0).bind fun e=>Sum.elim (fun e=>m_cache_Check_j2) (fun x=>some x) e
noncomputable def m_cache_Check_j5  : Option Int:=
  some 0
noncomputable def m_cache_Check_s6 (p0 : GCached) (i153 : Int) : Option (Int ⊕ (Unit ⊕ Int)):=
  if i153 < (p0.fRecords.length : Int) then
    (at_ p0.fRecords i153).bind fun x170=>
    if x170.fClass ≠ p0.fClass then
      some (.inr (.inr 1))
    else
      (m_cache_Check_c1 x170).bind fun x176=>
      if x176 = true then
        (m_record_Check x170).bind fun x179=>
        if x179 ≠ 0 then
          some (.inr (.inr 1))
        else
          some (.inl (w64 (i153 + 1)))
      else
        some (.inr (.inr 1))
  else
    some (.inr (.inl ()))
noncomputable def m_cache_Check_j4 (p0 : GCached) : Option Int:=
  (loop (fun s=>m_cache_Check_s6 p0 s) 0).bind fun e=>Sum.elim (fun e=>m_cache_Check_j5) (fun x=>some x) e
noncomputable def m_cache_Check (p0 : GCached) : Option Int:=
  (m_cache_within_102 p0.fKind 1 3).bind fun x2=>
  if x2 = true then
    (m_name_Check p0.fName).bind fun x5=>
    if x5 ≠ 0 then
      some 1
    else
      (m_cache_within_102 p0.fUntil 0 1125899906842624).bind fun x8=>
      if x8 = true then
        (m_cache_within_102 p0.fRank 1 4).bind fun x11=>
        if x11 = true then
          (m_cache_within_102 p0.fEpoch 0 1099511627776).bind fun x14=>
          if x14 = true then
            if p0.fKind = 1 then
              (m_cache_within_102 (p0.fRecords.length : Int) 1 64).bind fun x99=>
              if x99 = true then
                if p0.fKind = 3 then
                  if p0.fType ≠ 0 then
                    some 1
                  else
                    m_cache_Check_j1 p0
                else
                  m_cache_Check_j1 p0
              else
                some 1
            else
              (m_cache_within_102 (p0.fRecords.length : Int) 0 1).bind fun x183=>
              if x183 = true then
                if p0.fKind = 3 then
                  if p0.fType ≠ 0 then
                    some 1
                  else
                    m_cache_Check_j4 p0
                else
                  m_cache_Check_j4 p0
              else
                some 1
          else
            some 1
        else
          some 1
      else
        some 1
  else
    some 1
theorem c_cache_Check {w0 : World} {M : Nat→Prop} {H : List (Nat×Nat×Obj)} {R : List (Nat×Row)} {φ : World→Prop} (p0 : GCached) (Ap0_0 : Option Addr) (cp0_0 : Nat) (hcp0_0 : p0.fRecords.length ≤ cp0_0) (fp0_0 : ∀ W,φ W→Cl W Ap0_0 (p0.fRecords.flatMap GRR.enc)) (r : Int) (hm : m_cache_Check p0 = some r) :
    Cn Try.prog 92 #[.agg #[Vi p0.fKind,Vs p0.fName,Vu p0.fType,Vu p0.fClass,.slice Ap0_0 p0.fRecords.length cp0_0,Vi p0.fUntil,Vi p0.fRank,Vi p0.fEpoch,Vi p0.fSource]] ⟨w0,M,H,R,φ⟩ (fun x : Unit=>Vi r) (fun x=>True) (fun x=>⟨w0,M,H,R,φ⟩):=by
 unfold m_cache_Check at hm
 refine cn_intro (fn:=Try.f92) (N:=81) Try.func92 rfl Try.ntmps92 rfl<|c_seq<|c_region ?_
 refine g_e rfl (e_box 100010 rfl) (fun g1 _=>?_)
 refine g_v rfl r_assign<|g_nil<|d_then<|c_seq<|c_seq<|c_region<|g_v rfl (r_field (n:=0) Try.underlying41 rfl Try.sizeOf3 rfl rfl)<|g_v rfl (r_load (tag:=100010) rfl rfl rfl Try.isAgg3) ?_
 replace hm:=bnd hm
 obtain ⟨x2,hx3,hm⟩:=hm
 refine g_cn ⟨w0,M,_,_,φ⟩ (fun _ h=>h) Try.call102 rfl rfl (c_cache_within_102 p0.fKind 1 3 _ hx3) (fun _ _=>?_)
 refine g_v rfl (r_not rfl)<|g_v rfl r_move<|g_sta ⟨w0,M,(100010,g1,.cells #[Vi p0.fKind,Vs p0.fName,Vu p0.fType,Vu p0.fClass,.slice Ap0_0 p0.fRecords.length cp0_0,Vi p0.fUntil,Vi p0.fRank,Vi p0.fEpoch,Vi p0.fSource] 41 (0,0))::H,R,φ⟩ (fun _ h=>h) ?_
 refine g_if rfl rfl rfl rfl rfl (fun h4=>?_) (fun h4=>?_)
 ·
  have h4' : x2 = true:=by revert h4; cases x2 <;> simp
  replace hm:=ite_t hm h4'
  refine g_v rfl (r_field (n:=1) Try.underlying41 rfl Try.sizeOf9 rfl rfl)<|g_do rfl rfl rfl rfl rfl h4<|g_v rfl (r_load (tag:=100010) rfl rfl rfl Try.isAgg9)<|g_do rfl rfl rfl rfl rfl h4 ?_
  replace hm:=bnd hm
  obtain ⟨x5,hx6,hm⟩:=hm
  refine g_cn ⟨w0,M,_,_,φ⟩ (fun _ h=>h) Try.call52 rfl rfl (c_name_Check p0.fName _ hx6) (fun _ _=>?_)
  refine g_do rfl rfl rfl rfl rfl h4<|g_v rfl (r_neq rfl rfl)<|g_v rfl (r_pick0 rfl h4)<|g_v rfl r_move ?_
  refine g_if rfl rfl rfl rfl rfl (fun h7=>?_) (fun h7=>?_)
  ·
   replace hm:=ite_f hm (of_decide_eq_false h7)
   refine g_v rfl (r_field (n:=5) Try.underlying41 rfl Try.sizeOf3 rfl rfl)<|g_do rfl rfl rfl rfl rfl h7<|g_v rfl (r_load (tag:=100010) rfl rfl rfl Try.isAgg3)<|g_do rfl rfl rfl rfl rfl h7 ?_
   replace hm:=bnd hm
   obtain ⟨x8,hx9,hm⟩:=hm
   refine g_cn ⟨w0,M,_,_,φ⟩ (fun _ h=>h) Try.call102 rfl rfl (c_cache_within_102 p0.fUntil 0 1125899906842624 _ hx9) (fun _ _=>?_)
   refine g_do rfl rfl rfl rfl rfl h7<|g_v rfl (r_not rfl)<|g_v rfl (r_pick0 rfl h7)<|g_v rfl r_move ?_
   refine g_if rfl rfl rfl rfl rfl (fun h10=>?_) (fun h10=>?_)
   ·
    have h10' : x8 = true:=by revert h10; cases x8 <;> simp
    replace hm:=ite_t hm h10'
    refine g_v rfl (r_field (n:=6) Try.underlying41 rfl Try.sizeOf3 rfl rfl)<|g_do rfl rfl rfl rfl rfl h10<|g_v rfl (r_load (tag:=100010) rfl rfl rfl Try.isAgg3)<|g_do rfl rfl rfl rfl rfl h10 ?_
    replace hm:=bnd hm
    obtain ⟨x11,hx12,hm⟩:=hm
    refine g_cn ⟨w0,M,_,_,φ⟩ (fun _ h=>h) Try.call102 rfl rfl (c_cache_within_102 p0.fRank 1 4 _ hx12) (fun _ _=>?_)
    refine g_do rfl rfl rfl rfl rfl h10<|g_v rfl (r_not rfl)<|g_v rfl (r_pick0 rfl h10)<|g_v rfl r_move ?_
    refine g_if rfl rfl rfl rfl rfl (fun h13=>?_) (fun h13=>?_)
    ·
     have h13' : x11 = true:=by revert h13; cases x11 <;> simp
     replace hm:=ite_t hm h13'
     refine g_v rfl (r_field (n:=7) Try.underlying41 rfl Try.sizeOf3 rfl rfl)<|g_do rfl rfl rfl rfl rfl h13<|g_v rfl (r_load (tag:=100010) rfl rfl rfl Try.isAgg3)<|g_do rfl rfl rfl rfl rfl h13 ?_
     replace hm:=bnd hm
     obtain ⟨x14,hx15,hm⟩:=hm
     refine g_cn ⟨w0,M,_,_,φ⟩ (fun _ h=>h) Try.call102 rfl rfl (c_cache_within_102 p0.fEpoch 0 1099511627776 _ hx15) (fun _ _=>?_)
     refine g_do rfl rfl rfl rfl rfl h13<|g_v rfl (r_not rfl)<|g_v rfl (r_pick0 rfl h13)<|g_nil<|d_then ?_
     refine c_flat [(1,Vp g1),(35,.bool (!x14))] ⟨rfl,rfl,trivial⟩ (fun u=>?_)
     refine c_cond rfl (fun h16=>?_) (fun h16=>?_)
     ·
      have h16' : x14 = false:=by revert h16; cases x14 <;> simp
      replace hm:=ite_f hm (bool_nt h16')
      refine c_seq<|c_region<|g_v rfl r_assign<|g_nil<|d_then<|c_ret<|d_ret_then ?_
      cases hm
      exact d_retC () Try.results92 (res_tmp (res_nil rfl)) trivial (fun W h=>ok_pre (H1:=[_]) (R1:=[]) h (fun W hφ=>hφ)) (.inr rfl)
     have h16' : x14 = true:=by revert h16; cases x14 <;> simp
     replace hm:=ite_t hm h16'
     refine c_skip<|d_then<|c_seq<|c_region<|g_v rfl r_assign<|g_nil<|d_then<|c_seq<|c_region<|g_v rfl r_assign ?_
     refine g_v rfl r_assign<|g_nil<|d_then<|c_seq<|c_seq<|c_region<|g_v rfl (r_field (n:=0) Try.underlying41 rfl Try.sizeOf3 rfl rfl)<|g_v rfl (r_load (tag:=100010) rfl rfl rfl Try.isAgg3)<|g_v rfl (r_eql rfl rfl)<|g_nil ?_
     refine d_then ?_
     refine c_cond rfl (fun h19=>?_) (fun h19=>?_)
     ·
      replace hm:=ite_t hm (of_decide_eq_true h19)
      refine c_seq<|c_region<|g_v rfl r_assign<|g_v rfl r_assign<|g_nil<|d_then<|c_region<|g_v rfl (r_mkf rfl)<|g_v rfl r_assign<|g_nil ?_
      refine d_then ?_
      refine c_flat [(1,Vp g1),(3,.func (.func 104) #[] #[Vp g1]),(4,Vi 1),(5,Vi 64)] ⟨rfl,rfl,rfl,rfl,trivial⟩ (fun u=>?_)
      refine c_seq ?_
      refine c_cut (ι:=Unit) [1,3] (fun _=>[]) (fun _=>⟨w0,M,(100010,g1,.cells #[Vi p0.fKind,Vs p0.fName,Vu p0.fType,Vu p0.fClass,.slice Ap0_0 p0.fRecords.length cp0_0,Vi p0.fUntil,Vi p0.fRank,Vi p0.fEpoch,Vi p0.fSource] 41 (0,0))::H,R,φ⟩) (fun _=>m_cache_Check_j1 p0 = some r) ?_ (fun _ u hm=>?_)
      ·
       refine c_seq<|c_region<|g_v rfl (r_field (n:=4) Try.underlying41 rfl Try.sizeOf39 rfl rfl)<|g_v rfl (r_load (tag:=100010) rfl rfl rfl Try.isAgg39)<|g_v rfl (r_lenL Try.underlying39 rfl)<|g_v rfl r_move<|g_v rfl r_move ?_
       replace hm:=bnd hm
       obtain ⟨x99,hx100,hm⟩:=hm
       refine g_cn ⟨w0,M,_,_,φ⟩ (fun _ h=>h) Try.call102 rfl rfl (c_cache_within_102 (p0.fRecords.length : Int) 1 64 _ hx100) (fun _ _=>?_)
       refine g_v rfl (r_not rfl)<|g_v rfl r_move ?_
       refine g_if rfl rfl rfl rfl rfl (fun h101=>?_) (fun h101=>?_)
       ·
        have h101' : x99 = true:=by revert h101; cases x99 <;> simp
        replace hm:=ite_t hm h101'
        refine g_v rfl (r_field (n:=0) Try.underlying41 rfl Try.sizeOf3 rfl rfl)<|g_do rfl rfl rfl rfl rfl h101<|g_v rfl (r_load (tag:=100010) rfl rfl rfl Try.isAgg3)<|g_do rfl rfl rfl rfl rfl h101<|g_v rfl (r_eql rfl rfl)<|g_do rfl rfl rfl rfl rfl h101<|g_v rfl r_move ?_
        refine g_if rfl rfl rfl rfl rfl (fun h102=>?_) (fun h102=>?_)
        ·
         replace hm:=ite_t hm (of_decide_eq_true h102)
         refine g_v rfl (r_field (n:=2) Try.underlying41 rfl Try.sizeOf22 rfl rfl)<|g_do rfl rfl rfl rfl rfl h102<|g_v rfl (r_load (tag:=100010) rfl rfl rfl Try.isAgg22)<|g_do rfl rfl rfl rfl rfl h102<|g_v rfl (r_neq rfl rfl)<|g_do rfl rfl rfl rfl rfl h101<|g_v rfl (r_pick1 rfl h102)<|g_v rfl (r_pick0 rfl h101)<|g_nil<|d_then ?_
         refine c_flat [(1,Vp g1),(3,.func (.func 104) #[] #[Vp g1]),(56,.bool (decide (p0.fType ≠ 0)))] ⟨rfl,rfl,rfl,trivial⟩ (fun u=>?_)
         refine c_cond rfl (fun h103=>?_) (fun h103=>?_)
         ·
          replace hm:=ite_t hm (of_decide_eq_true h103)
          refine c_seq<|c_region<|g_v rfl r_assign<|g_nil<|d_then<|c_ret<|d_ret_then<|d_ret_then ?_
          cases hm
          exact d_retC () Try.results92 (res_tmp (res_nil rfl)) trivial (fun W h=>ok_pre (H1:=[_]) (R1:=[]) h (fun W hφ=>hφ)) (.inr rfl)
         replace hm:=ite_f hm (of_decide_eq_false h103)
         refine c_skip ?_
         exact d_round () hm Nat.zero_lt_one ⟨rfl,rfl,trivial⟩ (fun W h=>h.phi (fun W hφ=>hφ))
        replace hm:=ite_f hm (of_decide_eq_false h102)
        refine g_no rfl rfl rfl rfl rfl h102<|g_no rfl rfl rfl rfl rfl h102<|g_do rfl rfl rfl rfl rfl h101<|g_v rfl (r_pick0 rfl h102)<|g_v rfl (r_pick0 rfl h101)<|g_nil<|d_then ?_
        refine c_flat [(1,Vp g1),(3,.func (.func 104) #[] #[Vp g1]),(56,.bool false)] ⟨rfl,rfl,rfl,trivial⟩ (fun u=>?_)
        refine c_cond0 rfl rfl<|c_skip ?_
        exact d_round () hm Nat.zero_lt_one ⟨rfl,rfl,trivial⟩ (fun W h=>h.phi (fun W hφ=>hφ))
       have h101' : x99 = false:=by revert h101; cases x99 <;> simp
       replace hm:=ite_f hm (bool_nt h101')
       iterate 3 refine g_no rfl rfl rfl rfl rfl h101 ?_
       iterate 3 refine g_nu rfl rfl rfl rfl rfl ?_
       refine g_no rfl rfl rfl rfl rfl h101<|g_v rfl (r_pick1 rfl h101)<|g_nil<|d_then ?_
       refine c_flat [(1,Vp g1),(3,.func (.func 104) #[] #[Vp g1]),(56,.bool true)] ⟨rfl,rfl,rfl,trivial⟩ (fun u=>?_)
       refine c_cond1 rfl rfl<|c_seq<|c_region<|g_v rfl r_assign<|g_nil<|d_then<|c_ret<|d_ret_then<|d_ret_then ?_
       cases hm
       exact d_retC () Try.results92 (res_tmp (res_nil rfl)) trivial (fun W h=>ok_pre (H1:=[_]) (R1:=[]) h (fun W hφ=>hφ)) (.inr rfl)
      unfold m_cache_Check_j1 at hm
      refine d_flat [(1,Vp g1),(3,.func (.func 104) #[] #[Vp g1])] ⟨rfl,rfl,trivial⟩ (fun u=>?_)
      refine d_then<|c_seq<|c_seq<|c_region<|g_v rfl (r_field (n:=4) Try.underlying41 rfl Try.sizeOf39 rfl rfl)<|g_v rfl (r_load (tag:=100010) rfl rfl rfl Try.isAgg39)<|g_v rfl (r_lenL Try.underlying39 rfl)<|g_v rfl r_move<|g_nil<|d_then ?_
      refine c_cut (ι:=Unit) [] (fun _=>[]) (fun _=>⟨w0,M,H,R,φ⟩) (fun _=>m_cache_Check_j2 = some r) ?_ (fun _ u hm=>?_)
      ·
       refine c_block ?_
       replace hm:=bnd hm
       obtain ⟨out3,hl3,hr3⟩:=hm
       obtain ⟨n84',hl3⟩:=loop_lp hl3
       refine c_loopU (ι:=Nat×Int) [1,3,58,59,60] (fun ⟨n84,i69⟩=>[(60,Vi i69)]) (fun ⟨n84,i69⟩=>⟨w0,M,(100010,g1,.cells #[Vi p0.fKind,Vs p0.fName,Vu p0.fType,Vu p0.fClass,.slice Ap0_0 p0.fRecords.length cp0_0,Vi p0.fUntil,Vi p0.fRank,Vi p0.fEpoch,Vi p0.fSource] 41 (0,0))::H,R,φ⟩) (fun ⟨n84,i69⟩=>Lp (fun s=>m_cache_Check_s3 p0 s) n84 i69 out3) (fun ⟨n84,i69⟩=>n84) (n84',0) hl3 ⟨rfl,rfl,rfl,rfl,rfl,trivial⟩ (fun W h=>h.phi (fun W hφ=>hφ)) (fun ⟨n84,i69⟩ u hlp=>?_)
       obtain ⟨o3,hm,hnx3⟩:=lp_step hlp
       clear hlp
       replace hm : m_cache_Check_s3 p0 i69 = some o3:=hm
       unfold m_cache_Check_s3 at hm
       refine c_flat [(1,Vp g1),(3,.func (.func 104) #[] #[Vp g1]),(58,.slice Ap0_0 p0.fRecords.length cp0_0),(59,Vi (p0.fRecords.length : Int)),(60,Vi i69)] ⟨rfl,rfl,rfl,rfl,rfl,trivial⟩ (fun u=>?_)
       refine c_seq<|c_region<|g_v rfl (r_lss rfl rfl)<|g_nil<|d_then<|c_seq ?_
       refine c_cond rfl (fun h85=>?_) (fun h85=>?_)
       ·
        replace hm:=ite_t hm (of_decide_eq_true h85)
        refine c_skip<|d_then<|c_seq<|c_block<|c_seq<|c_region ?_
        replace hm:=bnd hm
        obtain ⟨x86,hx86,hm⟩:=hm
        refine g_know _ (fun W hS=>cl_at (p:=φ) (sz:=5) (fun _=>rfl) (by decide) hS.now fp0_0 hx86) ?_
        rintro ⟨ad87,hA89,f88⟩
        refine g_v rfl (r_ix Try.underlying39 Try.sizeOf54 rfl hA89 rfl hx86)<|g_v rfl (r_ldA rfl Try.isAgg54 Try.sizeOf54 (fun W hS=>(f88 W hS.now).take 5) rfl) ?_
        refine g_e rfl (e_alloc 100070 Try.zeroValue54) (fun g90 _=>?_)
        refine g_storeL (tag:=100070) rfl rfl rfl rfl Try.sizeOf54 rfl rfl<|g_nil<|d_then<|c_seq<|c_region<|g_v rfl (r_field (n:=2) Try.underlying54 rfl Try.sizeOf22 rfl rfl)<|g_v rfl (r_load (tag:=100070) rfl rfl rfl Try.isAgg22)<|g_v rfl (r_field (n:=3) Try.underlying41 rfl Try.sizeOf22 rfl rfl)<|g_v rfl (r_load (tag:=100010) rfl rfl rfl Try.isAgg22)<|g_v rfl (r_neq rfl rfl) ?_
        refine g_v rfl r_move<|g_sta ⟨w0,M,(100070,g90,.cells #[Vs x86.fName,Vu x86.fType,Vu x86.fClass,.int .u32 x86.fTTL,Vs x86.fData] 54 (0,0))::(100010,g1,.cells #[Vi p0.fKind,Vs p0.fName,Vu p0.fType,Vu p0.fClass,.slice Ap0_0 p0.fRecords.length cp0_0,Vi p0.fUntil,Vi p0.fRank,Vi p0.fEpoch,Vi p0.fSource] 41 (0,0))::H,R,φ⟩ (fun _ h=>h) ?_
        refine g_if rfl rfl rfl rfl rfl (fun h91=>?_) (fun h91=>?_)
        ·
         replace hm:=ite_f hm (of_decide_eq_false h91)
         refine g_v rfl r_move<|g_do rfl rfl rfl rfl rfl h91<|g_v rfl (r_loadA (tag:=100070) rfl rfl Try.isAgg54 Try.sizeOf54 rfl rfl)<|g_do rfl rfl rfl rfl rfl h91 ?_
         replace hm:=bnd hm
         obtain ⟨x92,hx93,hm⟩:=hm
         refine g_cnv ⟨w0,M,(1000,g1,.cells #[Vi p0.fKind,Vs p0.fName,Vu p0.fType,Vu p0.fClass,.slice Ap0_0 p0.fRecords.length cp0_0,Vi p0.fUntil,Vi p0.fRank,Vi p0.fEpoch,Vi p0.fSource] 41 (0,0))::(100070,g90,.cells #[Vs x86.fName,Vu x86.fType,Vu x86.fClass,.int .u32 x86.fTTL,Vs x86.fData] 54 (0,0))::H,R,φ⟩ (fun W h=>(ok_front (t:=100010) (t':=1000) h rfl)) Try.call104 rfl rfl rfl (c_cache_Check_c2 x86 g1 p0 Ap0_0 cp0_0 hcp0_0 (fun W h=>fp0_0 W h) _ hx93) (fun _ _=>?_)
         refine g_sta _ (fun W h=>(ok_front (t:=1000) (t':=100010) h rfl))<|g_do rfl rfl rfl rfl rfl h91<|g_v rfl (r_not rfl)<|g_v rfl (r_pick0 rfl h91)<|g_v rfl r_move<|g_sta ⟨w0,M,(100010,g1,.cells #[Vi p0.fKind,Vs p0.fName,Vu p0.fType,Vu p0.fClass,.slice Ap0_0 p0.fRecords.length cp0_0,Vi p0.fUntil,Vi p0.fRank,Vi p0.fEpoch,Vi p0.fSource] 41 (0,0))::(100070,g90,.cells #[Vs x86.fName,Vu x86.fType,Vu x86.fClass,.int .u32 x86.fTTL,Vs x86.fData] 54 (0,0))::H,R,φ⟩ (fun _ h=>h) ?_
         refine g_if rfl rfl rfl rfl rfl (fun h94=>?_) (fun h94=>?_)
         ·
          have h94' : x92 = true:=by revert h94; cases x92 <;> simp
          replace hm:=ite_t hm h94'
          refine g_v rfl (r_loadA (tag:=100070) rfl rfl Try.isAgg54 Try.sizeOf54 rfl rfl)<|g_do rfl rfl rfl rfl rfl h94 ?_
          replace hm:=bnd hm
          obtain ⟨x95,hx96,hm⟩:=hm
          refine g_cn ⟨w0,M,_,_,φ⟩ (fun _ h=>h) Try.call84 rfl rfl (c_record_Check x86 _ hx96) (fun _ _=>?_)
          refine g_do rfl rfl rfl rfl rfl h94<|g_v rfl (r_neq rfl rfl)<|g_v rfl (r_pick0 rfl h94)<|g_nil<|d_then ?_
          refine c_flat [(1,Vp g1),(3,.func (.func 104) #[] #[Vp g1]),(58,.slice Ap0_0 p0.fRecords.length cp0_0),(59,Vi (p0.fRecords.length : Int)),(60,Vi i69),(79,.bool (decide (x95 ≠ 0)))] ⟨rfl,rfl,rfl,rfl,rfl,rfl,trivial⟩ (fun u=>?_)
          refine c_cond rfl (fun h97=>?_) (fun h97=>?_)
          ·
           replace hm:=ite_t hm (of_decide_eq_true h97)
           refine c_seq<|c_region<|g_v rfl r_assign<|g_nil<|d_then<|c_ret<|d_ret_block<|d_ret_then<|d_ret_then<|d_ret_block ?_
           refine d_ret_then<|d_ret_then ?_
           replace hm:=nx_out (C:=(fun e : Unit ⊕ Int=>Sum.elim (fun e=>m_cache_Check_j2) (fun x=>some x) e = some r)) hm hnx3 hr3
           replace hm : some 1 = some r:=hm
           cases hm
           exact d_retC () Try.results92 (res_tmp (res_nil rfl)) trivial (fun W h=>ok_pre (H1:=[_,_]) (R1:=[]) h (fun W hφ=>hφ)) (.inr rfl)
          replace hm:=ite_f hm (of_decide_eq_false h97)
          refine c_skip<|d_normal_block<|d_then<|c_region<|g_v rfl (r_add rfl rfl rfl)<|g_v rfl r_move<|g_nil ?_
          obtain ⟨n98,hn98,hlp⟩:=nx_inl hm hnx3
          exact d_round (n98,w64 (i69 + 1)) hlp hn98 ⟨rfl,rfl,rfl,rfl,rfl,trivial⟩ (fun W h=>(h.dropH (t:=100070) rfl).phi (fun W hφ=>hφ))
         have h94' : x92 = false:=by revert h94; cases x92 <;> simp
         replace hm:=ite_f hm (bool_nt h94')
         refine g_no rfl rfl rfl rfl rfl h94<|g_no rfl rfl rfl rfl rfl h94<|g_v rfl (r_pick1 rfl h94)<|g_nil<|d_then ?_
         refine c_flat [(1,Vp g1),(3,.func (.func 104) #[] #[Vp g1]),(58,.slice Ap0_0 p0.fRecords.length cp0_0),(59,Vi (p0.fRecords.length : Int)),(60,Vi i69),(79,.bool true)] ⟨rfl,rfl,rfl,rfl,rfl,rfl,trivial⟩ (fun u=>?_)
         refine c_cond1 rfl rfl<|c_seq<|c_region<|g_v rfl r_assign<|g_nil<|d_then<|c_ret<|d_ret_block<|d_ret_then<|d_ret_then ?_
         refine d_ret_block<|d_ret_then<|d_ret_then ?_
         replace hm:=nx_out (C:=(fun e : Unit ⊕ Int=>Sum.elim (fun e=>m_cache_Check_j2) (fun x=>some x) e = some r)) hm hnx3 hr3
         replace hm : some 1 = some r:=hm
         cases hm
         exact d_retC () Try.results92 (res_tmp (res_nil rfl)) trivial (fun W h=>ok_pre (H1:=[_,_]) (R1:=[]) h (fun W hφ=>hφ)) (.inr rfl)
        replace hm:=ite_t hm (of_decide_eq_true h91)
        iterate 3 refine g_no rfl rfl rfl rfl rfl h91 ?_
        refine g_v rfl (r_pick1 rfl h91)<|g_v rfl r_move ?_
        iterate 3 refine g_no rfl rfl rfl rfl rfl rfl ?_
        refine g_v rfl (r_pick1 rfl rfl)<|g_nil<|d_then ?_
        refine c_flat [(1,Vp g1),(3,.func (.func 104) #[] #[Vp g1]),(58,.slice Ap0_0 p0.fRecords.length cp0_0),(59,Vi (p0.fRecords.length : Int)),(60,Vi i69),(79,.bool true)] ⟨rfl,rfl,rfl,rfl,rfl,rfl,trivial⟩ (fun u=>?_)
        refine c_cond1 rfl rfl<|c_seq<|c_region<|g_v rfl r_assign<|g_nil<|d_then<|c_ret<|d_ret_block<|d_ret_then<|d_ret_then ?_
        refine d_ret_block<|d_ret_then<|d_ret_then ?_
        replace hm:=nx_out (C:=(fun e : Unit ⊕ Int=>Sum.elim (fun e=>m_cache_Check_j2) (fun x=>some x) e = some r)) hm hnx3 hr3
        replace hm : some 1 = some r:=hm
        cases hm
        exact d_retC () Try.results92 (res_tmp (res_nil rfl)) trivial (fun W h=>ok_pre (H1:=[_,_]) (R1:=[]) h (fun W hφ=>hφ)) (.inr rfl)
       replace hm:=ite_f hm (of_decide_eq_false h85)
       refine c_exit<|d_exit_then<|d_exit_then<|d_exit_block ?_
       replace hm:=nx_out (C:=(fun e : Unit ⊕ Int=>Sum.elim (fun e=>m_cache_Check_j2) (fun x=>some x) e = some r)) hm hnx3 hr3
       exact d_round () hm Nat.zero_lt_one trivial (fun W h=>(h.dropH (t:=100010) rfl).phi (fun W hφ=>hφ))
      unfold m_cache_Check_j2 at hm
      refine d_flat [] trivial (fun u=>?_)
      refine d_sta ⟨w0,M,H,R,φ⟩ (fun _ h=>h)<|d_then<|c_seq<|c_region<|g_v rfl r_assign<|g_nil<|d_then<|c_ret ?_
      cases hm
      exact d_retC () Try.results92 (res_tmp (res_nil rfl)) trivial (fun W h=>ok_pre (H1:=[]) (R1:=[]) h (fun W hφ=>hφ)) (.inr rfl)
     replace hm:=ite_f hm (of_decide_eq_false h19)
     refine c_skip<|d_then<|c_seq ?_
     refine c_cut (ι:=Unit) [1,3] (fun _=>[]) (fun _=>⟨w0,M,(100010,g1,.cells #[Vi p0.fKind,Vs p0.fName,Vu p0.fType,Vu p0.fClass,.slice Ap0_0 p0.fRecords.length cp0_0,Vi p0.fUntil,Vi p0.fRank,Vi p0.fEpoch,Vi p0.fSource] 41 (0,0))::H,R,φ⟩) (fun _=>m_cache_Check_j4 p0 = some r) ?_ (fun _ u hm=>?_)
     ·
      refine c_seq<|c_region<|g_v rfl (r_field (n:=4) Try.underlying41 rfl Try.sizeOf39 rfl rfl)<|g_v rfl (r_load (tag:=100010) rfl rfl rfl Try.isAgg39)<|g_v rfl (r_lenL Try.underlying39 rfl)<|g_v rfl r_move<|g_v rfl r_move ?_
      replace hm:=bnd hm
      obtain ⟨x183,hx184,hm⟩:=hm
      refine g_cn ⟨w0,M,_,_,φ⟩ (fun _ h=>h) Try.call102 rfl rfl (c_cache_within_102 (p0.fRecords.length : Int) 0 1 _ hx184) (fun _ _=>?_)
      refine g_v rfl (r_not rfl)<|g_v rfl r_move ?_
      refine g_if rfl rfl rfl rfl rfl (fun h185=>?_) (fun h185=>?_)
      ·
       have h185' : x183 = true:=by revert h185; cases x183 <;> simp
       replace hm:=ite_t hm h185'
       refine g_v rfl (r_field (n:=0) Try.underlying41 rfl Try.sizeOf3 rfl rfl)<|g_do rfl rfl rfl rfl rfl h185<|g_v rfl (r_load (tag:=100010) rfl rfl rfl Try.isAgg3)<|g_do rfl rfl rfl rfl rfl h185<|g_v rfl (r_eql rfl rfl)<|g_do rfl rfl rfl rfl rfl h185<|g_v rfl r_move ?_
       refine g_if rfl rfl rfl rfl rfl (fun h186=>?_) (fun h186=>?_)
       ·
        replace hm:=ite_t hm (of_decide_eq_true h186)
        refine g_v rfl (r_field (n:=2) Try.underlying41 rfl Try.sizeOf22 rfl rfl)<|g_do rfl rfl rfl rfl rfl h186<|g_v rfl (r_load (tag:=100010) rfl rfl rfl Try.isAgg22)<|g_do rfl rfl rfl rfl rfl h186<|g_v rfl (r_neq rfl rfl)<|g_do rfl rfl rfl rfl rfl h185<|g_v rfl (r_pick1 rfl h186)<|g_v rfl (r_pick0 rfl h185)<|g_nil<|d_then ?_
        refine c_flat [(1,Vp g1),(3,.func (.func 103) #[] #[]),(56,.bool (decide (p0.fType ≠ 0)))] ⟨rfl,rfl,rfl,trivial⟩ (fun u=>?_)
        refine c_cond rfl (fun h187=>?_) (fun h187=>?_)
        ·
         replace hm:=ite_t hm (of_decide_eq_true h187)
         refine c_seq<|c_region<|g_v rfl r_assign<|g_nil<|d_then<|c_ret<|d_ret_then<|d_ret_then ?_
         cases hm
         exact d_retC () Try.results92 (res_tmp (res_nil rfl)) trivial (fun W h=>ok_pre (H1:=[_]) (R1:=[]) h (fun W hφ=>hφ)) (.inr rfl)
        replace hm:=ite_f hm (of_decide_eq_false h187)
        refine c_skip ?_
        exact d_round () hm Nat.zero_lt_one ⟨rfl,rfl,trivial⟩ (fun W h=>h.phi (fun W hφ=>hφ))
       replace hm:=ite_f hm (of_decide_eq_false h186)
       refine g_no rfl rfl rfl rfl rfl h186<|g_no rfl rfl rfl rfl rfl h186<|g_do rfl rfl rfl rfl rfl h185<|g_v rfl (r_pick0 rfl h186)<|g_v rfl (r_pick0 rfl h185)<|g_nil<|d_then ?_
       refine c_flat [(1,Vp g1),(3,.func (.func 103) #[] #[]),(56,.bool false)] ⟨rfl,rfl,rfl,trivial⟩ (fun u=>?_)
       refine c_cond0 rfl rfl<|c_skip ?_
       exact d_round () hm Nat.zero_lt_one ⟨rfl,rfl,trivial⟩ (fun W h=>h.phi (fun W hφ=>hφ))
      have h185' : x183 = false:=by revert h185; cases x183 <;> simp
      replace hm:=ite_f hm (bool_nt h185')
      iterate 3 refine g_no rfl rfl rfl rfl rfl h185 ?_
      iterate 3 refine g_nu rfl rfl rfl rfl rfl ?_
      refine g_no rfl rfl rfl rfl rfl h185<|g_v rfl (r_pick1 rfl h185)<|g_nil<|d_then ?_
      refine c_flat [(1,Vp g1),(3,.func (.func 103) #[] #[]),(56,.bool true)] ⟨rfl,rfl,rfl,trivial⟩ (fun u=>?_)
      refine c_cond1 rfl rfl<|c_seq<|c_region<|g_v rfl r_assign<|g_nil<|d_then<|c_ret<|d_ret_then<|d_ret_then ?_
      cases hm
      exact d_retC () Try.results92 (res_tmp (res_nil rfl)) trivial (fun W h=>ok_pre (H1:=[_]) (R1:=[]) h (fun W hφ=>hφ)) (.inr rfl)
     unfold m_cache_Check_j4 at hm
     refine d_flat [(1,Vp g1),(3,.func (.func 103) #[] #[])] ⟨rfl,rfl,trivial⟩ (fun u=>?_)
     refine d_then<|c_seq<|c_seq<|c_region<|g_v rfl (r_field (n:=4) Try.underlying41 rfl Try.sizeOf39 rfl rfl)<|g_v rfl (r_load (tag:=100010) rfl rfl rfl Try.isAgg39)<|g_v rfl (r_lenL Try.underlying39 rfl)<|g_v rfl r_move<|g_nil<|d_then ?_
     refine c_cut (ι:=Unit) [] (fun _=>[]) (fun _=>⟨w0,M,H,R,φ⟩) (fun _=>m_cache_Check_j5 = some r) ?_ (fun _ u hm=>?_)
     ·
      refine c_block ?_
      replace hm:=bnd hm
      obtain ⟨out6,hl6,hr6⟩:=hm
      obtain ⟨n168',hl6⟩:=loop_lp hl6
      refine c_loopU (ι:=Nat×Int) [1,3,58,59,60] (fun ⟨n168,i153⟩=>[(60,Vi i153)]) (fun ⟨n168,i153⟩=>⟨w0,M,(100010,g1,.cells #[Vi p0.fKind,Vs p0.fName,Vu p0.fType,Vu p0.fClass,.slice Ap0_0 p0.fRecords.length cp0_0,Vi p0.fUntil,Vi p0.fRank,Vi p0.fEpoch,Vi p0.fSource] 41 (0,0))::H,R,φ⟩) (fun ⟨n168,i153⟩=>Lp (fun s=>m_cache_Check_s6 p0 s) n168 i153 out6) (fun ⟨n168,i153⟩=>n168) (n168',0) hl6 ⟨rfl,rfl,rfl,rfl,rfl,trivial⟩ (fun W h=>h.phi (fun W hφ=>hφ)) (fun ⟨n168,i153⟩ u hlp=>?_)
      obtain ⟨o6,hm,hnx6⟩:=lp_step hlp
      clear hlp
      replace hm : m_cache_Check_s6 p0 i153 = some o6:=hm
      unfold m_cache_Check_s6 at hm
      refine c_flat [(1,Vp g1),(3,.func (.func 103) #[] #[]),(58,.slice Ap0_0 p0.fRecords.length cp0_0),(59,Vi (p0.fRecords.length : Int)),(60,Vi i153)] ⟨rfl,rfl,rfl,rfl,rfl,trivial⟩ (fun u=>?_)
      refine c_seq<|c_region<|g_v rfl (r_lss rfl rfl)<|g_nil<|d_then<|c_seq ?_
      refine c_cond rfl (fun h169=>?_) (fun h169=>?_)
      ·
       replace hm:=ite_t hm (of_decide_eq_true h169)
       refine c_skip<|d_then<|c_seq<|c_block<|c_seq<|c_region ?_
       replace hm:=bnd hm
       obtain ⟨x170,hx170,hm⟩:=hm
       refine g_know _ (fun W hS=>cl_at (p:=φ) (sz:=5) (fun _=>rfl) (by decide) hS.now fp0_0 hx170) ?_
       rintro ⟨ad171,hA173,f172⟩
       refine g_v rfl (r_ix Try.underlying39 Try.sizeOf54 rfl hA173 rfl hx170)<|g_v rfl (r_ldA rfl Try.isAgg54 Try.sizeOf54 (fun W hS=>(f172 W hS.now).take 5) rfl) ?_
       refine g_e rfl (e_alloc 100070 Try.zeroValue54) (fun g174 _=>?_)
       refine g_storeL (tag:=100070) rfl rfl rfl rfl Try.sizeOf54 rfl rfl<|g_nil<|d_then<|c_seq<|c_region<|g_v rfl (r_field (n:=2) Try.underlying54 rfl Try.sizeOf22 rfl rfl)<|g_v rfl (r_load (tag:=100070) rfl rfl rfl Try.isAgg22)<|g_v rfl (r_field (n:=3) Try.underlying41 rfl Try.sizeOf22 rfl rfl)<|g_v rfl (r_load (tag:=100010) rfl rfl rfl Try.isAgg22)<|g_v rfl (r_neq rfl rfl) ?_
       refine g_v rfl r_move<|g_sta ⟨w0,M,(100070,g174,.cells #[Vs x170.fName,Vu x170.fType,Vu x170.fClass,.int .u32 x170.fTTL,Vs x170.fData] 54 (0,0))::(100010,g1,.cells #[Vi p0.fKind,Vs p0.fName,Vu p0.fType,Vu p0.fClass,.slice Ap0_0 p0.fRecords.length cp0_0,Vi p0.fUntil,Vi p0.fRank,Vi p0.fEpoch,Vi p0.fSource] 41 (0,0))::H,R,φ⟩ (fun _ h=>h) ?_
       refine g_if rfl rfl rfl rfl rfl (fun h175=>?_) (fun h175=>?_)
       ·
        replace hm:=ite_f hm (of_decide_eq_false h175)
        refine g_v rfl r_move<|g_do rfl rfl rfl rfl rfl h175<|g_v rfl (r_loadA (tag:=100070) rfl rfl Try.isAgg54 Try.sizeOf54 rfl rfl)<|g_do rfl rfl rfl rfl rfl h175 ?_
        replace hm:=bnd hm
        obtain ⟨x176,hx177,hm⟩:=hm
        refine g_cnv ⟨w0,M,_,_,φ⟩ (fun _ h=>h) Try.call103 rfl rfl rfl (c_cache_Check_c1 x170 _ hx177) (fun _ _=>?_)
        refine g_do rfl rfl rfl rfl rfl h175<|g_v rfl (r_not rfl)<|g_v rfl (r_pick0 rfl h175)<|g_v rfl r_move ?_
        refine g_if rfl rfl rfl rfl rfl (fun h178=>?_) (fun h178=>?_)
        ·
         have h178' : x176 = true:=by revert h178; cases x176 <;> simp
         replace hm:=ite_t hm h178'
         refine g_v rfl (r_loadA (tag:=100070) rfl rfl Try.isAgg54 Try.sizeOf54 rfl rfl)<|g_do rfl rfl rfl rfl rfl h178 ?_
         replace hm:=bnd hm
         obtain ⟨x179,hx180,hm⟩:=hm
         refine g_cn ⟨w0,M,_,_,φ⟩ (fun _ h=>h) Try.call84 rfl rfl (c_record_Check x170 _ hx180) (fun _ _=>?_)
         refine g_do rfl rfl rfl rfl rfl h178<|g_v rfl (r_neq rfl rfl)<|g_v rfl (r_pick0 rfl h178)<|g_nil<|d_then ?_
         refine c_flat [(1,Vp g1),(3,.func (.func 103) #[] #[]),(58,.slice Ap0_0 p0.fRecords.length cp0_0),(59,Vi (p0.fRecords.length : Int)),(60,Vi i153),(79,.bool (decide (x179 ≠ 0)))] ⟨rfl,rfl,rfl,rfl,rfl,rfl,trivial⟩ (fun u=>?_)
         refine c_cond rfl (fun h181=>?_) (fun h181=>?_)
         ·
          replace hm:=ite_t hm (of_decide_eq_true h181)
          refine c_seq<|c_region<|g_v rfl r_assign<|g_nil<|d_then<|c_ret<|d_ret_block<|d_ret_then<|d_ret_then<|d_ret_block ?_
          refine d_ret_then<|d_ret_then ?_
          replace hm:=nx_out (C:=(fun e : Unit ⊕ Int=>Sum.elim (fun e=>m_cache_Check_j5) (fun x=>some x) e = some r)) hm hnx6 hr6
          replace hm : some 1 = some r:=hm
          cases hm
          exact d_retC () Try.results92 (res_tmp (res_nil rfl)) trivial (fun W h=>ok_pre (H1:=[_,_]) (R1:=[]) h (fun W hφ=>hφ)) (.inr rfl)
         replace hm:=ite_f hm (of_decide_eq_false h181)
         refine c_skip<|d_normal_block<|d_then<|c_region<|g_v rfl (r_add rfl rfl rfl)<|g_v rfl r_move<|g_nil ?_
         obtain ⟨n182,hn182,hlp⟩:=nx_inl hm hnx6
         exact d_round (n182,w64 (i153 + 1)) hlp hn182 ⟨rfl,rfl,rfl,rfl,rfl,trivial⟩ (fun W h=>(h.dropH (t:=100070) rfl).phi (fun W hφ=>hφ))
        have h178' : x176 = false:=by revert h178; cases x176 <;> simp
        replace hm:=ite_f hm (bool_nt h178')
        refine g_no rfl rfl rfl rfl rfl h178<|g_no rfl rfl rfl rfl rfl h178<|g_v rfl (r_pick1 rfl h178)<|g_nil<|d_then ?_
        refine c_flat [(1,Vp g1),(3,.func (.func 103) #[] #[]),(58,.slice Ap0_0 p0.fRecords.length cp0_0),(59,Vi (p0.fRecords.length : Int)),(60,Vi i153),(79,.bool true)] ⟨rfl,rfl,rfl,rfl,rfl,rfl,trivial⟩ (fun u=>?_)
        refine c_cond1 rfl rfl<|c_seq<|c_region<|g_v rfl r_assign<|g_nil<|d_then<|c_ret<|d_ret_block<|d_ret_then<|d_ret_then ?_
        refine d_ret_block<|d_ret_then<|d_ret_then ?_
        replace hm:=nx_out (C:=(fun e : Unit ⊕ Int=>Sum.elim (fun e=>m_cache_Check_j5) (fun x=>some x) e = some r)) hm hnx6 hr6
        replace hm : some 1 = some r:=hm
        cases hm
        exact d_retC () Try.results92 (res_tmp (res_nil rfl)) trivial (fun W h=>ok_pre (H1:=[_,_]) (R1:=[]) h (fun W hφ=>hφ)) (.inr rfl)
       replace hm:=ite_t hm (of_decide_eq_true h175)
       iterate 3 refine g_no rfl rfl rfl rfl rfl h175 ?_
       refine g_v rfl (r_pick1 rfl h175)<|g_v rfl r_move ?_
       iterate 3 refine g_no rfl rfl rfl rfl rfl rfl ?_
       refine g_v rfl (r_pick1 rfl rfl)<|g_nil<|d_then ?_
       refine c_flat [(1,Vp g1),(3,.func (.func 103) #[] #[]),(58,.slice Ap0_0 p0.fRecords.length cp0_0),(59,Vi (p0.fRecords.length : Int)),(60,Vi i153),(79,.bool true)] ⟨rfl,rfl,rfl,rfl,rfl,rfl,trivial⟩ (fun u=>?_)
       refine c_cond1 rfl rfl<|c_seq<|c_region<|g_v rfl r_assign<|g_nil<|d_then<|c_ret<|d_ret_block<|d_ret_then<|d_ret_then ?_
       refine d_ret_block<|d_ret_then<|d_ret_then ?_
       replace hm:=nx_out (C:=(fun e : Unit ⊕ Int=>Sum.elim (fun e=>m_cache_Check_j5) (fun x=>some x) e = some r)) hm hnx6 hr6
       replace hm : some 1 = some r:=hm
       cases hm
       exact d_retC () Try.results92 (res_tmp (res_nil rfl)) trivial (fun W h=>ok_pre (H1:=[_,_]) (R1:=[]) h (fun W hφ=>hφ)) (.inr rfl)
      replace hm:=ite_f hm (of_decide_eq_false h169)
      refine c_exit<|d_exit_then<|d_exit_then<|d_exit_block ?_
      replace hm:=nx_out (C:=(fun e : Unit ⊕ Int=>Sum.elim (fun e=>m_cache_Check_j5) (fun x=>some x) e = some r)) hm hnx6 hr6
      exact d_round () hm Nat.zero_lt_one trivial (fun W h=>(h.dropH (t:=100010) rfl).phi (fun W hφ=>hφ))
     unfold m_cache_Check_j5 at hm
     refine d_flat [] trivial (fun u=>?_)
     refine d_sta ⟨w0,M,H,R,φ⟩ (fun _ h=>h)<|d_then<|c_seq<|c_region<|g_v rfl r_assign<|g_nil<|d_then<|c_ret ?_
     cases hm
     exact d_retC () Try.results92 (res_tmp (res_nil rfl)) trivial (fun W h=>ok_pre (H1:=[]) (R1:=[]) h (fun W hφ=>hφ)) (.inr rfl)
    have h13' : x11 = false:=by revert h13; cases x11 <;> simp
    replace hm:=ite_f hm (bool_nt h13')
    iterate 3 refine g_no rfl rfl rfl rfl rfl h13 ?_
    refine g_v rfl (r_pick1 rfl h13)<|g_nil<|d_then ?_
    refine c_flat [(1,Vp g1),(35,.bool true)] ⟨rfl,rfl,trivial⟩ (fun u=>?_)
    refine c_cond1 rfl rfl<|c_seq<|c_region<|g_v rfl r_assign<|g_nil<|d_then<|c_ret<|d_ret_then ?_
    cases hm
    exact d_retC () Try.results92 (res_tmp (res_nil rfl)) trivial (fun W h=>ok_pre (H1:=[_]) (R1:=[]) h (fun W hφ=>hφ)) (.inr rfl)
   have h10' : x8 = false:=by revert h10; cases x8 <;> simp
   replace hm:=ite_f hm (bool_nt h10')
   iterate 3 refine g_no rfl rfl rfl rfl rfl h10 ?_
   refine g_v rfl (r_pick1 rfl h10)<|g_v rfl r_move ?_
   iterate 4 refine g_no rfl rfl rfl rfl rfl rfl ?_
   refine g_v rfl (r_pick1 rfl rfl)<|g_nil<|d_then ?_
   refine c_flat [(1,Vp g1),(35,.bool true)] ⟨rfl,rfl,trivial⟩ (fun u=>?_)
   refine c_cond1 rfl rfl<|c_seq<|c_region<|g_v rfl r_assign<|g_nil<|d_then<|c_ret<|d_ret_then ?_
   cases hm
   exact d_retC () Try.results92 (res_tmp (res_nil rfl)) trivial (fun W h=>ok_pre (H1:=[_]) (R1:=[]) h (fun W hφ=>hφ)) (.inr rfl)
  replace hm:=ite_t hm (of_decide_eq_true h7)
  iterate 3 refine g_no rfl rfl rfl rfl rfl h7 ?_
  refine g_v rfl (r_pick1 rfl h7)<|g_v rfl r_move ?_
  iterate 4 refine g_no rfl rfl rfl rfl rfl rfl ?_
  refine g_v rfl (r_pick1 rfl rfl)<|g_v rfl r_move ?_
  iterate 4 refine g_no rfl rfl rfl rfl rfl rfl ?_
  refine g_v rfl (r_pick1 rfl rfl)<|g_nil<|d_then ?_
  refine c_flat [(1,Vp g1),(35,.bool true)] ⟨rfl,rfl,trivial⟩ (fun u=>?_)
  refine c_cond1 rfl rfl<|c_seq<|c_region<|g_v rfl r_assign<|g_nil<|d_then<|c_ret<|d_ret_then ?_
  cases hm
  exact d_retC () Try.results92 (res_tmp (res_nil rfl)) trivial (fun W h=>ok_pre (H1:=[_]) (R1:=[]) h (fun W hφ=>hφ)) (.inr rfl)
 have h4' : x2 = false:=by revert h4; cases x2 <;> simp
 replace hm:=ite_f hm (bool_nt h4')
 iterate 3 refine g_no rfl rfl rfl rfl rfl h4 ?_
 refine g_v rfl (r_pick1 rfl h4)<|g_v rfl r_move ?_
 iterate 4 refine g_no rfl rfl rfl rfl rfl rfl ?_
 refine g_v rfl (r_pick1 rfl rfl)<|g_v rfl r_move ?_
 iterate 4 refine g_no rfl rfl rfl rfl rfl rfl ?_
 refine g_v rfl (r_pick1 rfl rfl)<|g_v rfl r_move ?_
 iterate 4 refine g_no rfl rfl rfl rfl rfl rfl ?_
 refine g_v rfl (r_pick1 rfl rfl)<|g_nil<|d_then ?_
 refine c_flat [(1,Vp g1),(35,.bool true)] ⟨rfl,rfl,trivial⟩ (fun u=>?_)
 refine c_cond1 rfl rfl<|c_seq<|c_region<|g_v rfl r_assign<|g_nil<|d_then<|c_ret<|d_ret_then ?_
 cases hm
 exact d_retC () Try.results92 (res_tmp (res_nil rfl)) trivial (fun W h=>ok_pre (H1:=[_]) (R1:=[]) h (fun W hφ=>hφ)) (.inr rfl)
noncomputable def m_peer_entry (p0 : GCached) : Option Bool:=
  (m_cache_Check p0).bind fun x2=>
  if x2 = 0 then
    if 0 ≤ p0.fSource then
      some (decide (p0.fSource ≤ 4611686018427387904))
    else
      some false
  else
    some false
theorem c_peer_entry {w0 : World} {M : Nat→Prop} {H : List (Nat×Nat×Obj)} {R : List (Nat×Row)} {φ : World→Prop} (p0 : GCached) (Ap0_0 : Option Addr) (cp0_0 : Nat) (hcp0_0 : p0.fRecords.length ≤ cp0_0) (fp0_0 : ∀ W,φ W→Cl W Ap0_0 (p0.fRecords.flatMap GRR.enc)) (r : Bool) (hm : m_peer_entry p0 = some r) :
    Cn Try.prog 76 #[.agg #[Vi p0.fKind,Vs p0.fName,Vu p0.fType,Vu p0.fClass,.slice Ap0_0 p0.fRecords.length cp0_0,Vi p0.fUntil,Vi p0.fRank,Vi p0.fEpoch,Vi p0.fSource]] ⟨w0,M,H,R,φ⟩ (fun x : Unit=>.bool r) (fun x=>True) (fun x=>⟨w0,M,H,R,φ⟩):=by
 unfold m_peer_entry at hm
 refine cn_intro (fn:=Try.f76) (N:=16) Try.func76 rfl Try.ntmps76 rfl<|c_seq<|c_region ?_
 refine g_e rfl (e_box 100010 rfl) (fun g1 _=>?_)
 refine g_v rfl r_assign<|g_nil<|d_then<|c_seq<|c_region<|g_v rfl (r_loadA (tag:=100010) rfl rfl Try.isAgg41 Try.sizeOf41 rfl rfl) ?_
 replace hm:=bnd hm
 obtain ⟨x2,hx3,hm⟩:=hm
 refine g_cn ⟨w0,M,_,_,φ⟩ (fun _ h=>h) Try.call92 rfl rfl (c_cache_Check p0 Ap0_0 cp0_0 hcp0_0 (fun W h=>fp0_0 W h) _ hx3) (fun _ _=>?_)
 refine g_v rfl (r_eql rfl rfl)<|g_v rfl r_move<|g_sta ⟨w0,M,(100010,g1,.cells #[Vi p0.fKind,Vs p0.fName,Vu p0.fType,Vu p0.fClass,.slice Ap0_0 p0.fRecords.length cp0_0,Vi p0.fUntil,Vi p0.fRank,Vi p0.fEpoch,Vi p0.fSource] 41 (0,0))::H,R,φ⟩ (fun _ h=>h) ?_
 refine g_if rfl rfl rfl rfl rfl (fun h4=>?_) (fun h4=>?_)
 ·
  replace hm:=ite_t hm (of_decide_eq_true h4)
  refine g_v rfl (r_field (n:=8) Try.underlying41 rfl Try.sizeOf3 rfl rfl)<|g_do rfl rfl rfl rfl rfl h4<|g_v rfl (r_load (tag:=100010) rfl rfl rfl Try.isAgg3)<|g_do rfl rfl rfl rfl rfl h4<|g_v rfl (r_geq rfl rfl)<|g_v rfl (r_pick1 rfl h4)<|g_v rfl r_move ?_
  refine g_if rfl rfl rfl rfl rfl (fun h5=>?_) (fun h5=>?_)
  ·
   replace hm:=ite_t hm (of_decide_eq_true h5)
   refine g_v rfl (r_field (n:=8) Try.underlying41 rfl Try.sizeOf3 rfl rfl)<|g_do rfl rfl rfl rfl rfl h5<|g_v rfl (r_load (tag:=100010) rfl rfl rfl Try.isAgg3)<|g_do rfl rfl rfl rfl rfl h5<|g_v rfl (r_leq rfl rfl)<|g_v rfl (r_pick1 rfl h5)<|g_v rfl r_assign<|g_nil<|d_then ?_
   refine c_flat [(2,.bool (decide (p0.fSource ≤ 4611686018427387904)))] ⟨rfl,trivial⟩ (fun u=>?_)
   refine c_ret ?_
   cases hm
   exact d_retC () Try.results76 (res_tmp (res_nil rfl)) trivial (fun W h=>ok_pre (H1:=[_]) (R1:=[]) h (fun W hφ=>hφ)) (.inr rfl)
  replace hm:=ite_f hm (of_decide_eq_false h5)
  refine g_no rfl rfl rfl rfl rfl h5<|g_no rfl rfl rfl rfl rfl h5<|g_v rfl (r_pick0 rfl h5)<|g_v rfl r_assign<|g_nil<|d_then ?_
  refine c_flat [(2,.bool false)] ⟨rfl,trivial⟩ (fun u=>?_)
  refine c_ret ?_
  cases hm
  exact d_retC () Try.results76 (res_tmp (res_nil rfl)) trivial (fun W h=>ok_pre (H1:=[_]) (R1:=[]) h (fun W hφ=>hφ)) (.inr rfl)
 replace hm:=ite_f hm (of_decide_eq_false h4)
 refine g_no rfl rfl rfl rfl rfl h4<|g_no rfl rfl rfl rfl rfl h4<|g_v rfl (r_pick0 rfl h4)<|g_v rfl r_move ?_
 iterate 3 refine g_no rfl rfl rfl rfl rfl rfl ?_
 refine g_v rfl (r_pick0 rfl rfl)<|g_v rfl r_assign<|g_nil<|d_then ?_
 refine c_flat [(2,.bool false)] ⟨rfl,trivial⟩ (fun u=>?_)
 refine c_ret ?_
 cases hm
 exact d_retC () Try.results76 (res_tmp (res_nil rfl)) trivial (fun W h=>ok_pre (H1:=[_]) (R1:=[]) h (fun W hφ=>hφ)) (.inr rfl)
noncomputable def m_peer_may_c1 (p0 : GCached) : Option Bool:=
  (m_peer_entry p0).bind fun x2=>
  some (!x2)
theorem c_peer_may_c1 {w0 : World} {M : Nat→Prop} {H : List (Nat×Nat×Obj)} {R : List (Nat×Row)} {φ : World→Prop} (p0 : GCached) (Ap0_0 : Option Addr) (cp0_0 : Nat) (hcp0_0 : p0.fRecords.length ≤ cp0_0) (fp0_0 : ∀ W,φ W→Cl W Ap0_0 (p0.fRecords.flatMap GRR.enc)) (r : Bool) (hm : m_peer_may_c1 p0 = some r) :
    Cn Try.prog 75 #[.agg #[Vi p0.fKind,Vs p0.fName,Vu p0.fType,Vu p0.fClass,.slice Ap0_0 p0.fRecords.length cp0_0,Vi p0.fUntil,Vi p0.fRank,Vi p0.fEpoch,Vi p0.fSource]] ⟨w0,M,H,R,φ⟩ (fun x : Unit=>.bool r) (fun x=>True) (fun x=>⟨w0,M,H,R,φ⟩):=by
 unfold m_peer_may_c1 at hm
 refine cn_intro (fn:=Try.f75) (N:=6) Try.func75 rfl Try.ntmps75 rfl<|c_seq<|c_region ?_
 refine g_e rfl (e_box 100010 rfl) (fun g1 _=>?_)
 refine g_v rfl r_assign<|g_nil<|d_then<|c_seq<|c_region<|g_v rfl (r_loadA (tag:=100010) rfl rfl Try.isAgg41 Try.sizeOf41 rfl rfl) ?_
 replace hm:=bnd hm
 obtain ⟨x2,hx3,hm⟩:=hm
 refine g_cn ⟨w0,M,_,_,φ⟩ (fun _ h=>h) Try.call76 rfl rfl (c_peer_entry p0 Ap0_0 cp0_0 hcp0_0 (fun W h=>fp0_0 W h) _ hx3) (fun _ _=>?_)
 refine g_v rfl (r_not rfl)<|g_v rfl r_assign<|g_nil<|d_then<|c_ret ?_
 cases hm
 exact d_retC () Try.results75 (res_tmp (res_nil rfl)) trivial (fun W h=>ok_pre (H1:=[_]) (R1:=[]) h (fun W hφ=>hφ)) (.inr rfl)
noncomputable def m_slices_IndexFunc_91_j1  : Option Int:=
  some (-1)
noncomputable def m_slices_IndexFunc_91_s2 (p0 : List GCached) (i45 : Int) : Option (Int ⊕ (Unit ⊕ Int)):=
  if i45 < (p0.length : Int) then
    (at_ p0 i45).bind fun x62=>
    (m_peer_may_c1 x62).bind fun x71=>
    if x71 = true then
      some (.inr (.inr i45))
    else
      some (.inl (w64 (i45 + 1)))
  else
    some (.inr (.inl ()))
noncomputable def m_slices_IndexFunc_91 (p0 : List GCached) : Option Int:=
  (loop (fun s=>m_slices_IndexFunc_91_s2 p0 s) 0).bind fun e=>Sum.elim (fun e=>m_slices_IndexFunc_91_j1) (fun x=>some x) e
theorem c_slices_IndexFunc_91 {w0 : World} {M : Nat→Prop} {H : List (Nat×Nat×Obj)} {R : List (Nat×Row)} {φ : World→Prop} (p0 : List GCached) (Ap0_0 : Option Addr) (cp0_0 : Nat) (psp0_0 : List GCachedP) (hcp0_0 : (DOk GCached.capP p0 psp0_0∧p0.length ≤ cp0_0)) (fp0_0 : ∀ W,φ W→Cl W Ap0_0 ((p0.zip psp0_0).flatMap GCached.encP)) (fop0_0 : ∀ W,φ W→DOwn GCached.ownP p0 psp0_0 W) (r : Int) (hm : m_slices_IndexFunc_91 p0 = some r) :
    Cn Try.prog 91 #[.slice Ap0_0 p0.length cp0_0,.func (.func 75) #[] #[]] ⟨w0,M,H,R,φ⟩ (fun x : Unit=>Vi r) (fun x=>True) (fun x=>⟨w0,M,H,R,φ⟩):=by
 unfold m_slices_IndexFunc_91 at hm
 refine cn_intro (fn:=Try.f91) (N:=19) Try.func91 rfl Try.ntmps91 rfl<|c_seq<|c_region<|g_v rfl r_assign<|g_nil<|d_then<|c_seq<|c_seq<|c_region<|g_v rfl r_move ?_
 refine g_v rfl (r_lenL Try.underlying25 rfl)<|g_v rfl r_move<|g_nil<|d_then ?_
 refine c_cut (ι:=Unit) [] (fun _=>[]) (fun _=>⟨w0,M,H,R,φ⟩) (fun _=>m_slices_IndexFunc_91_j1 = some r) ?_ (fun _ u hm=>?_)
 ·
  refine c_block ?_
  replace hm:=bnd hm
  obtain ⟨out2,hl2,hr2⟩:=hm
  obtain ⟨n60',hl2⟩:=loop_lp hl2
  refine c_loopU (ι:=Nat×Int) [0,1,7,8] (fun ⟨n60,i45⟩=>[(8,Vi i45)]) (fun ⟨n60,i45⟩=>⟨w0,M,H,R,φ⟩) (fun ⟨n60,i45⟩=>Lp (fun s=>m_slices_IndexFunc_91_s2 p0 s) n60 i45 out2) (fun ⟨n60,i45⟩=>n60) (n60',0) hl2 ⟨rfl,rfl,rfl,rfl,trivial⟩ (fun W h=>h.phi (fun W hφ=>hφ)) (fun ⟨n60,i45⟩ u hlp=>?_)
  obtain ⟨o2,hm,hnx2⟩:=lp_step hlp
  clear hlp
  replace hm : m_slices_IndexFunc_91_s2 p0 i45 = some o2:=hm
  unfold m_slices_IndexFunc_91_s2 at hm
  refine c_flat [(0,.slice Ap0_0 p0.length cp0_0),(1,.func (.func 75) #[] #[]),(7,Vi (p0.length : Int)),(8,Vi i45)] ⟨rfl,rfl,rfl,rfl,trivial⟩ (fun u=>?_)
  refine c_sta ⟨w0,M,H,R,φ⟩ (fun _ h=>h)<|c_seq<|c_region<|g_v rfl (r_lss rfl rfl)<|g_nil<|d_then<|c_seq ?_
  refine c_cond rfl (fun h61=>?_) (fun h61=>?_)
  ·
   replace hm:=ite_t hm (of_decide_eq_true h61)
   refine c_skip<|d_then<|c_seq<|c_block<|c_seq<|c_region<|g_v rfl r_move<|g_v rfl r_assign<|g_nil<|d_then ?_
   refine c_seq<|c_region ?_
   iterate 3 refine g_v rfl r_move ?_
   replace hm:=bnd hm
   obtain ⟨x62,hx62,hm⟩:=hm
   obtain ⟨pp66,hv67,hz68,hcp69⟩:=DOk.at_ hcp0_0.1 hx62
   refine g_know _ (fun W hS=>cl_at (p:=φ) (sz:=9) (fun _=>rfl) (by decide) hS.now fp0_0 hv67) ?_
   rintro ⟨ad63,hA65,f64⟩
   have f70:=fun (W : World) (h : φ W)=>(fop0_0 W h _ hz68)
   refine g_v rfl (r_ix Try.underlying25 Try.sizeOf41 rfl hA65 rfl hx62)<|g_v rfl (r_ldA rfl Try.isAgg41 Try.sizeOf41 (fun W hS=>(f64 W hS.now).take 9) rfl) ?_
   replace hm:=bnd hm
   obtain ⟨x71,hx72,hm⟩:=hm
   refine g_cnv ⟨w0,M,_,_,φ⟩ (fun _ h=>h) Try.call75 rfl rfl rfl (c_peer_may_c1 x62 pp66.pA0 pp66.pC0 hcp69 (fun W h=>f70 W h) _ hx72) (fun _ _=>?_)
   refine g_nil<|d_then ?_
   refine c_flat [(0,.slice Ap0_0 p0.length cp0_0),(1,.func (.func 75) #[] #[]),(5,Vi i45),(7,Vi (p0.length : Int)),(8,Vi i45),(16,.bool x71)] ⟨rfl,rfl,rfl,rfl,rfl,rfl,trivial⟩ (fun u=>?_)
   refine c_cond rfl (fun h73=>?_) (fun h73=>?_)
   ·
    replace hm:=ite_t hm h73
    refine c_seq<|c_region<|g_v rfl r_move<|g_v rfl r_assign<|g_nil<|d_then<|c_ret<|d_ret_block<|d_ret_then<|d_ret_then ?_
    refine d_ret_block<|d_ret_then<|d_ret_then ?_
    replace hm:=nx_out (C:=(fun e : Unit ⊕ Int=>Sum.elim (fun e=>m_slices_IndexFunc_91_j1) (fun x=>some x) e = some r)) hm hnx2 hr2
    replace hm : some i45 = some r:=hm
    cases hm
    exact d_retC () Try.results91 (res_tmp (res_nil rfl)) trivial (fun W h=>ok_pre (H1:=[]) (R1:=[]) h (fun W hφ=>hφ)) (.inr rfl)
   replace hm:=ite_f hm (bool_nt h73)
   refine c_skip<|d_normal_block<|d_then<|c_region<|g_v rfl (r_add rfl rfl rfl)<|g_v rfl r_move<|g_nil ?_
   obtain ⟨n74,hn74,hlp⟩:=nx_inl hm hnx2
   exact d_round (n74,w64 (i45 + 1)) hlp hn74 ⟨rfl,rfl,rfl,rfl,trivial⟩ (fun W h=>h.phi (fun W hφ=>hφ))
  replace hm:=ite_f hm (of_decide_eq_false h61)
  refine c_exit<|d_exit_then<|d_exit_then<|d_exit_block ?_
  replace hm:=nx_out (C:=(fun e : Unit ⊕ Int=>Sum.elim (fun e=>m_slices_IndexFunc_91_j1) (fun x=>some x) e = some r)) hm hnx2 hr2
  exact d_round () hm Nat.zero_lt_one trivial (fun W h=>h.phi (fun W hφ=>hφ))
 unfold m_slices_IndexFunc_91_j1 at hm
 refine d_flat [] trivial (fun u=>?_)
 refine d_sta ⟨w0,M,H,R,φ⟩ (fun _ h=>h)<|d_then<|c_seq<|c_region<|g_v rfl r_assign<|g_nil<|d_then<|c_ret ?_
 cases hm
 exact d_retC () Try.results91 (res_tmp (res_nil rfl)) trivial (fun W h=>ok_pre (H1:=[]) (R1:=[]) h (fun W hφ=>hφ)) (.inr rfl)
noncomputable def m_slices_ContainsFunc_74 (p0 : List GCached) : Option Bool:=
  (m_slices_IndexFunc_91 p0).bind fun x1=>
  some (decide (0 ≤ x1))
theorem c_slices_ContainsFunc_74 {w0 : World} {M : Nat→Prop} {H : List (Nat×Nat×Obj)} {R : List (Nat×Row)} {φ : World→Prop} (p0 : List GCached) (Ap0_0 : Option Addr) (cp0_0 : Nat) (psp0_0 : List GCachedP) (hcp0_0 : (DOk GCached.capP p0 psp0_0∧p0.length ≤ cp0_0)) (fp0_0 : ∀ W,φ W→Cl W Ap0_0 ((p0.zip psp0_0).flatMap GCached.encP)) (fop0_0 : ∀ W,φ W→DOwn GCached.ownP p0 psp0_0 W) (r : Bool) (hm : m_slices_ContainsFunc_74 p0 = some r) :
    Cn Try.prog 74 #[.slice Ap0_0 p0.length cp0_0,.func (.func 75) #[] #[]] ⟨w0,M,H,R,φ⟩ (fun x : Unit=>.bool r) (fun x=>True) (fun x=>⟨w0,M,H,R,φ⟩):=by
 unfold m_slices_ContainsFunc_74 at hm
 refine cn_intro (fn:=Try.f74) (N:=9) Try.func74 rfl Try.ntmps74 rfl<|c_seq<|c_region<|g_v rfl r_assign<|g_nil<|d_then<|c_seq<|c_region<|g_v rfl r_move<|g_v rfl r_move ?_
 replace hm:=bnd hm
 obtain ⟨x1,hx2,hm⟩:=hm
 refine g_cn ⟨w0,M,_,_,φ⟩ (fun _ h=>h) Try.call91 rfl rfl (c_slices_IndexFunc_91 p0 Ap0_0 cp0_0 psp0_0 ⟨hcp0_0.1,hcp0_0.2⟩ (fun W h=>fp0_0 W h) (fun W h=>(fop0_0 W h)) _ hx2) (fun _ _=>?_)
 refine g_v rfl (r_geq rfl rfl)<|g_v rfl r_assign<|g_nil<|d_then<|c_ret ?_
 cases hm
 exact d_retC () Try.results74 (res_tmp (res_nil rfl)) trivial (fun W h=>ok_pre (H1:=[]) (R1:=[]) h (fun W hφ=>hφ)) (.inr rfl)
noncomputable def m_raft_node (p0 : Int) : Option Bool:=
  if 0 ≤ p0 then
    some (decide (p0 < 64))
  else
    some false
theorem c_raft_node {w0 : World} {M : Nat→Prop} {H : List (Nat×Nat×Obj)} {R : List (Nat×Row)} {φ : World→Prop} (p0 : Int) (r : Bool) (hm : m_raft_node p0 = some r) :
    Cn Try.prog 93 #[Vi p0] ⟨w0,M,H,R,φ⟩ (fun x : Unit=>.bool r) (fun x=>True) (fun x=>⟨w0,M,H,R,φ⟩):=by
 unfold m_raft_node at hm
 refine cn_intro (fn:=Try.f93) (N:=9) Try.func93 rfl Try.ntmps93 rfl<|c_seq<|c_region<|g_v rfl r_assign<|g_nil<|d_then<|c_seq<|c_region<|g_v rfl r_move<|g_v rfl (r_geq rfl rfl) ?_
 refine g_v rfl r_move ?_
 refine g_if rfl rfl rfl rfl rfl (fun h1=>?_) (fun h1=>?_)
 ·
  replace hm:=ite_t hm (of_decide_eq_true h1)
  refine g_v rfl r_move<|g_do rfl rfl rfl rfl rfl h1<|g_v rfl (r_lss rfl rfl)<|g_v rfl (r_pick1 rfl h1)<|g_v rfl r_assign<|g_nil<|d_then<|c_ret ?_
  cases hm
  exact d_retC () Try.results93 (res_tmp (res_nil rfl)) trivial (fun W h=>ok_pre (H1:=[]) (R1:=[]) h (fun W hφ=>hφ)) (.inr rfl)
 replace hm:=ite_f hm (of_decide_eq_false h1)
 refine g_no rfl rfl rfl rfl rfl h1<|g_v rfl (r_pick0 rfl h1)<|g_v rfl r_assign<|g_nil<|d_then<|c_ret ?_
 cases hm
 exact d_retC () Try.results93 (res_tmp (res_nil rfl)) trivial (fun W h=>ok_pre (H1:=[]) (R1:=[]) h (fun W hφ=>hφ)) (.inr rfl)
structure GLog where
  fBase : Int
  fBaseTerm : Int
  fEntries : List GEntry
  deriving DecidableEq
theorem bld103_10 (z0 : Int) (z1 : Int) (zA2 : Option Addr) (zn2 : Nat) (zc2 : Nat) : ∀ W,(Instr.build 103 #[(0,Vi z0),(1,Vi z1),(2,.slice zA2 zn2 zc2)]).run Try.prog W = .ok (.agg #[Vi z0,Vi z1,.slice zA2 zn2 zc2]) W:=fun _=>by kernel_rfl
noncomputable def m_plog_within (p0 : Int) : Option Bool:=
  if 0 ≤ p0 then
    some (decide (p0 ≤ 1099511627776))
  else
    some false
theorem c_plog_within {w0 : World} {M : Nat→Prop} {H : List (Nat×Nat×Obj)} {R : List (Nat×Row)} {φ : World→Prop} (p0 : Int) (r : Bool) (hm : m_plog_within p0 = some r) :
    Cn Try.prog 106 #[Vi p0] ⟨w0,M,H,R,φ⟩ (fun x : Unit=>.bool r) (fun x=>True) (fun x=>⟨w0,M,H,R,φ⟩):=by
 unfold m_plog_within at hm
 refine cn_intro (fn:=Try.f106) (N:=9) Try.func106 rfl Try.ntmps106 rfl<|c_seq<|c_region<|g_v rfl r_assign<|g_nil<|d_then<|c_seq<|c_region<|g_v rfl r_move<|g_v rfl (r_geq rfl rfl) ?_
 refine g_v rfl r_move ?_
 refine g_if rfl rfl rfl rfl rfl (fun h1=>?_) (fun h1=>?_)
 ·
  replace hm:=ite_t hm (of_decide_eq_true h1)
  refine g_v rfl r_move<|g_do rfl rfl rfl rfl rfl h1<|g_v rfl (r_leq rfl rfl)<|g_v rfl (r_pick1 rfl h1)<|g_v rfl r_assign<|g_nil<|d_then<|c_ret ?_
  cases hm
  exact d_retC () Try.results106 (res_tmp (res_nil rfl)) trivial (fun W h=>ok_pre (H1:=[]) (R1:=[]) h (fun W hφ=>hφ)) (.inr rfl)
 replace hm:=ite_f hm (of_decide_eq_false h1)
 refine g_no rfl rfl rfl rfl rfl h1<|g_v rfl (r_pick0 rfl h1)<|g_v rfl r_assign<|g_nil<|d_then<|c_ret ?_
 cases hm
 exact d_retC () Try.results106 (res_tmp (res_nil rfl)) trivial (fun W h=>ok_pre (H1:=[]) (R1:=[]) h (fun W hφ=>hφ)) (.inr rfl)
theorem lit3_11 (z0 : Int) : Try.prog.builtSlice 3 1 [(0,Vi z0)] = some #[Vi z0]:=by kernel_rfl
theorem inf3_12  : (Try.prog.info? 3).map (fun i=>(i.zero,i.size,i.bytes)) = some (some (Vi 0),1,8):=by kernel_rfl
noncomputable def m_plog_rising_j1 (p0 : List Int) : Option Bool:=
  some (decide (0 < (p0.length : Int)))
noncomputable def m_plog_rising_s2 (p0 : List Int) (i33 : Int) : Option (Int ⊕ (Unit ⊕ Bool)):=
  if i33 < (p0.length : Int) then
    (at_ p0 i33).bind fun x50=>
    if x50 < 0 then
      some (.inr (.inr false))
    else
      if 64 ≤ x50 then
        some (.inr (.inr false))
      else
        if 0 < i33 then
          (at_ p0 (w64 (i33 - 1))).bind fun x57=>
          if x50 ≤ x57 then
            some (.inr (.inr false))
          else
            some (.inl (w64 (i33 + 1)))
        else
          some (.inl (w64 (i33 + 1)))
  else
    some (.inr (.inl ()))
noncomputable def m_plog_rising (p0 : List Int) : Option Bool:=
  (loop (fun s=>m_plog_rising_s2 p0 s) 0).bind fun e=>Sum.elim (fun e=>m_plog_rising_j1 p0) (fun x=>some x) e
theorem c_plog_rising {w0 : World} {M : Nat→Prop} {H : List (Nat×Nat×Obj)} {R : List (Nat×Row)} {φ : World→Prop} (p0 : List Int) (Ap0_0 : Option Addr) (cp0_0 : Nat) (hcp0_0 : p0.length ≤ cp0_0) (fp0_0 : ∀ W,(Sta.mk w0 M H R φ).ok W→Cl W Ap0_0 (p0.flatMap (fun x : Int=>[Value.int .i64 x]))) (r : Bool) (hm : m_plog_rising p0 = some r) :
    Cn Try.prog 114 #[.slice Ap0_0 p0.length cp0_0] ⟨w0,M,H,R,φ⟩ (fun x : Unit=>.bool r) (fun x=>True) (fun x=>⟨w0,M,H,R,φ⟩):=by
 unfold m_plog_rising at hm
 refine cn_intro (fn:=Try.f114) (N:=35) Try.func114 rfl Try.ntmps114 rfl<|c_seq<|c_region<|g_v rfl r_assign<|g_nil<|d_then<|c_seq<|c_seq<|c_region<|g_v rfl r_move ?_
 refine g_v rfl (r_lenL Try.underlying27 rfl)<|g_v rfl r_move<|g_nil<|d_then ?_
 refine c_cut (ι:=Unit) [0] (fun _=>[]) (fun _=>⟨w0,M,H,R,φ⟩) (fun _=>m_plog_rising_j1 p0 = some r) ?_ (fun _ u hm=>?_)
 ·
  refine c_block ?_
  replace hm:=bnd hm
  obtain ⟨out2,hl2,hr2⟩:=hm
  obtain ⟨n48',hl2⟩:=loop_lp hl2
  refine c_loopU (ι:=Nat×Int) [0,5,6,7] (fun ⟨n48,i33⟩=>[(7,Vi i33)]) (fun ⟨n48,i33⟩=>⟨w0,M,H,R,φ⟩) (fun ⟨n48,i33⟩=>Lp (fun s=>m_plog_rising_s2 p0 s) n48 i33 out2) (fun ⟨n48,i33⟩=>n48) (n48',0) hl2 ⟨rfl,rfl,rfl,rfl,trivial⟩ (fun W h=>h.phi (fun W hφ=>hφ)) (fun ⟨n48,i33⟩ u hlp=>?_)
  obtain ⟨o2,hm,hnx2⟩:=lp_step hlp
  clear hlp
  replace hm : m_plog_rising_s2 p0 i33 = some o2:=hm
  unfold m_plog_rising_s2 at hm
  refine c_flat [(0,.slice Ap0_0 p0.length cp0_0),(5,.slice Ap0_0 p0.length cp0_0),(6,Vi (p0.length : Int)),(7,Vi i33)] ⟨rfl,rfl,rfl,rfl,trivial⟩ (fun u=>?_)
  refine c_sta ⟨w0,M,H,R,φ⟩ (fun _ h=>h)<|c_seq<|c_region<|g_v rfl (r_lss rfl rfl)<|g_nil<|d_then<|c_seq ?_
  refine c_cond rfl (fun h49=>?_) (fun h49=>?_)
  ·
   replace hm:=ite_t hm (of_decide_eq_true h49)
   refine c_skip<|d_then<|c_seq<|c_block<|c_seq<|c_region<|g_v rfl r_move ?_
   replace hm:=bnd hm
   obtain ⟨x50,hx50,hm⟩:=hm
   refine g_know _ (fun W hS=>cl_at (p:=(Sta.mk w0 M H R φ).ok) (sz:=1) (fun _=>rfl) (by decide) (ok_pre (H1:=[]) (R1:=[]) hS (fun W h=>h)) fp0_0 hx50) ?_
   rintro ⟨ad51,hA53,f52⟩
   refine g_v rfl (r_ix Try.underlying27 Try.sizeOf3 rfl hA53 rfl hx50)<|g_v rfl (r_ld rfl Try.isAgg3 (fun W hS=>Cl.head (f52 W (ok_pre (H1:=[]) (R1:=[]) hS (fun W h=>h)))))<|g_v rfl r_assign<|g_v rfl r_assign<|g_nil<|d_then<|c_seq<|c_region<|g_v rfl r_move<|g_v rfl (r_lss rfl rfl) ?_
   refine g_v rfl r_move ?_
   refine g_if rfl rfl rfl rfl rfl (fun h54=>?_) (fun h54=>?_)
   ·
    replace hm:=ite_f hm (of_decide_eq_false h54)
    refine g_v rfl r_move<|g_do rfl rfl rfl rfl rfl h54<|g_v rfl (r_geq rfl rfl)<|g_v rfl (r_pick0 rfl h54)<|g_v rfl r_move ?_
    refine g_if rfl rfl rfl rfl rfl (fun h55=>?_) (fun h55=>?_)
    ·
     replace hm:=ite_f hm (of_decide_eq_false h55)
     refine g_v rfl r_move<|g_do rfl rfl rfl rfl rfl h55<|g_v rfl (r_gtr rfl rfl)<|g_do rfl rfl rfl rfl rfl h55<|g_v rfl r_move ?_
     refine g_if rfl rfl rfl rfl rfl (fun h56=>?_) (fun h56=>?_)
     ·
      replace hm:=ite_t hm (of_decide_eq_true h56)
      refine g_v rfl r_move<|g_do rfl rfl rfl rfl rfl h56<|g_v rfl r_move<|g_do rfl rfl rfl rfl rfl h56<|g_v rfl r_move<|g_do rfl rfl rfl rfl rfl h56<|g_v rfl (r_sub rfl rfl rfl)<|g_do rfl rfl rfl rfl rfl h56 ?_
      replace hm:=bnd hm
      obtain ⟨x57,hx57,hm⟩:=hm
      refine g_know _ (fun W hS=>cl_at (p:=(Sta.mk w0 M H R φ).ok) (sz:=1) (fun _=>rfl) (by decide) (ok_pre (H1:=[]) (R1:=[]) hS (fun W h=>h)) fp0_0 hx57) ?_
      rintro ⟨ad58,hA60,f59⟩
      refine g_v rfl (r_ix Try.underlying27 Try.sizeOf3 rfl hA60 rfl hx57)<|g_do rfl rfl rfl rfl rfl h56<|g_v rfl (r_ld rfl Try.isAgg3 (fun W hS=>Cl.head (f59 W (ok_pre (H1:=[]) (R1:=[]) hS (fun W h=>h)))))<|g_do rfl rfl rfl rfl rfl h56<|g_v rfl (r_leq rfl rfl)<|g_do rfl rfl rfl rfl rfl h55<|g_v rfl (r_pick1 rfl h56)<|g_v rfl (r_pick0 rfl h55)<|g_nil<|d_then ?_
      refine c_flat [(0,.slice Ap0_0 p0.length cp0_0),(5,.slice Ap0_0 p0.length cp0_0),(6,Vi (p0.length : Int)),(7,Vi i33),(30,.bool (decide (x50 ≤ x57)))] ⟨rfl,rfl,rfl,rfl,rfl,trivial⟩ (fun u=>?_)
      refine c_cond rfl (fun h61=>?_) (fun h61=>?_)
      ·
       replace hm:=ite_t hm (of_decide_eq_true h61)
       refine c_seq<|c_region<|g_v rfl r_assign<|g_nil<|d_then<|c_ret<|d_ret_block<|d_ret_then<|d_ret_then<|d_ret_block ?_
       refine d_ret_then<|d_ret_then ?_
       replace hm:=nx_out (C:=(fun e : Unit ⊕ Bool=>Sum.elim (fun e=>m_plog_rising_j1 p0) (fun x=>some x) e = some r)) hm hnx2 hr2
       replace hm : some false = some r:=hm
       cases hm
       exact d_retC () Try.results114 (res_tmp (res_nil rfl)) trivial (fun W h=>ok_pre (H1:=[]) (R1:=[]) h (fun W hφ=>hφ)) (.inr rfl)
      replace hm:=ite_f hm (of_decide_eq_false h61)
      refine c_skip<|d_normal_block<|d_then<|c_region<|g_v rfl (r_add rfl rfl rfl)<|g_v rfl r_move<|g_nil ?_
      obtain ⟨n62,hn62,hlp⟩:=nx_inl hm hnx2
      exact d_round (n62,w64 (i33 + 1)) hlp hn62 ⟨rfl,rfl,rfl,rfl,trivial⟩ (fun W h=>h.phi (fun W hφ=>hφ))
     replace hm:=ite_f hm (of_decide_eq_false h56)
     iterate 6 refine g_no rfl rfl rfl rfl rfl h56 ?_
     refine g_do rfl rfl rfl rfl rfl h55<|g_v rfl (r_pick0 rfl h56)<|g_v rfl (r_pick0 rfl h55)<|g_nil<|d_then ?_
     refine c_flat [(0,.slice Ap0_0 p0.length cp0_0),(5,.slice Ap0_0 p0.length cp0_0),(6,Vi (p0.length : Int)),(7,Vi i33),(30,.bool false)] ⟨rfl,rfl,rfl,rfl,rfl,trivial⟩ (fun u=>?_)
     refine c_cond0 rfl rfl<|c_skip<|d_normal_block<|d_then<|c_region<|g_v rfl (r_add rfl rfl rfl)<|g_v rfl r_move<|g_nil ?_
     obtain ⟨n63,hn63,hlp⟩:=nx_inl hm hnx2
     exact d_round (n63,w64 (i33 + 1)) hlp hn63 ⟨rfl,rfl,rfl,rfl,trivial⟩ (fun W h=>h.phi (fun W hφ=>hφ))
    replace hm:=ite_t hm (of_decide_eq_true h55)
    refine g_no rfl rfl rfl rfl rfl h55<|g_no rfl rfl rfl rfl rfl h55 ?_
    iterate 7 refine g_nu rfl rfl rfl rfl rfl ?_
    refine g_no rfl rfl rfl rfl rfl h55<|g_v rfl (r_pick1 rfl h55)<|g_nil<|d_then ?_
    refine c_flat [(0,.slice Ap0_0 p0.length cp0_0),(5,.slice Ap0_0 p0.length cp0_0),(6,Vi (p0.length : Int)),(7,Vi i33),(30,.bool true)] ⟨rfl,rfl,rfl,rfl,rfl,trivial⟩ (fun u=>?_)
    refine c_cond1 rfl rfl<|c_seq<|c_region<|g_v rfl r_assign<|g_nil<|d_then<|c_ret<|d_ret_block<|d_ret_then<|d_ret_then ?_
    refine d_ret_block<|d_ret_then<|d_ret_then ?_
    replace hm:=nx_out (C:=(fun e : Unit ⊕ Bool=>Sum.elim (fun e=>m_plog_rising_j1 p0) (fun x=>some x) e = some r)) hm hnx2 hr2
    replace hm : some false = some r:=hm
    cases hm
    exact d_retC () Try.results114 (res_tmp (res_nil rfl)) trivial (fun W h=>ok_pre (H1:=[]) (R1:=[]) h (fun W hφ=>hφ)) (.inr rfl)
   replace hm:=ite_t hm (of_decide_eq_true h54)
   refine g_no rfl rfl rfl rfl rfl h54<|g_v rfl (r_pick1 rfl h54)<|g_v rfl r_move ?_
   iterate 3 refine g_no rfl rfl rfl rfl rfl rfl ?_
   iterate 7 refine g_nu rfl rfl rfl rfl rfl ?_
   refine g_no rfl rfl rfl rfl rfl rfl<|g_v rfl (r_pick1 rfl rfl)<|g_nil<|d_then ?_
   refine c_flat [(0,.slice Ap0_0 p0.length cp0_0),(5,.slice Ap0_0 p0.length cp0_0),(6,Vi (p0.length : Int)),(7,Vi i33),(30,.bool true)] ⟨rfl,rfl,rfl,rfl,rfl,trivial⟩ (fun u=>?_)
   refine c_cond1 rfl rfl<|c_seq<|c_region<|g_v rfl r_assign<|g_nil<|d_then<|c_ret<|d_ret_block<|d_ret_then<|d_ret_then ?_
   refine d_ret_block<|d_ret_then<|d_ret_then ?_
   replace hm:=nx_out (C:=(fun e : Unit ⊕ Bool=>Sum.elim (fun e=>m_plog_rising_j1 p0) (fun x=>some x) e = some r)) hm hnx2 hr2
   replace hm : some false = some r:=hm
   cases hm
   exact d_retC () Try.results114 (res_tmp (res_nil rfl)) trivial (fun W h=>ok_pre (H1:=[]) (R1:=[]) h (fun W hφ=>hφ)) (.inr rfl)
  replace hm:=ite_f hm (of_decide_eq_false h49)
  refine c_exit<|d_exit_then<|d_exit_then<|d_exit_block ?_
  replace hm:=nx_out (C:=(fun e : Unit ⊕ Bool=>Sum.elim (fun e=>m_plog_rising_j1 p0) (fun x=>some x) e = some r)) hm hnx2 hr2
  exact d_round () hm Nat.zero_lt_one ⟨rfl,trivial⟩ (fun W h=>h.phi (fun W hφ=>hφ))
 unfold m_plog_rising_j1 at hm
 refine d_flat [(0,.slice Ap0_0 p0.length cp0_0)] ⟨rfl,trivial⟩ (fun u=>?_)
 refine d_sta ⟨w0,M,H,R,φ⟩ (fun _ h=>h)<|d_then<|c_seq<|c_region<|g_v rfl r_move<|g_v rfl (r_lenL Try.underlying27 rfl)<|g_v rfl (r_gtr rfl rfl)<|g_v rfl r_assign<|g_nil<|d_then ?_
 refine c_ret ?_
 cases hm
 exact d_retC () Try.results114 (res_tmp (res_nil rfl)) trivial (fun W h=>ok_pre (H1:=[]) (R1:=[]) h (fun W hφ=>hφ)) (.inr rfl)
noncomputable def m_plog_List_j1  (l57 : List Int) : Option ((List Int)×Bool):=
  (m_plog_rising l57).bind fun x60=>
  if x60 = true then
    some (l57,true)
  else
    some (([] : List Int),false)
noncomputable def m_plog_List_s2 (p0 : ByteArray) (l73 : List Int) (i76 : Int) : Option (((List Int)×Int) ⊕ (List Int)):=
  if i76 < (p0.size : Int) then
    (sat_ p0 i76).bind fun b89=>
    (app 8 l73 [w64 b89]).bind fun l91=>
    some (.inl (l91,w64 (i76 + 1)))
  else
    some (.inr l73)
noncomputable def m_plog_List (p0 : ByteArray) : Option ((List Int)×Bool):=
  (loop (fun s=>m_plog_List_s2 p0 s.1 s.2) (([] : List Int),0)).bind fun e=>m_plog_List_j1 e
theorem c_plog_List {w0 : World} {M : Nat→Prop} {H : List (Nat×Nat×Obj)} {R : List (Nat×Row)} {φ : World→Prop} (p0 : ByteArray) (r : (List Int)×Bool) (hm : m_plog_List p0 = some r) :
    Cn Try.prog 107 #[Vs p0] ⟨w0,M,H,R,φ⟩ (fun x : Option Addr×Nat=>.tuple #[.slice x.1 r.1.length x.2,.bool r.2]) (fun x=>r.1.length ≤ x.2) (fun x=>⟨w0,M,H,(2000,⟨.slice x.1 r.1.length x.2,3,1,r.1.length,r.1.flatMap (fun x : Int=>[Value.int .i64 x])⟩)::R,φ⟩):=by
 unfold m_plog_List at hm
 refine cn_intro (fn:=Try.f107) (N:=23) Try.func107 rfl Try.ntmps107 rfl<|c_seq<|c_region<|g_v rfl r_assign<|g_v rfl r_assign<|g_nil<|d_then<|c_seq<|c_region<|g_v rfl r_assign ?_
 refine g_nil<|d_then<|c_seq<|c_seq<|c_region<|g_v rfl r_move<|g_v rfl (r_len Try.underlying9 rfl)<|g_v rfl r_move<|g_nil<|d_then ?_
 refine c_sta _ (fun W h=>nilR h 13 3 1) ?_
 refine c_cut (ι:=(List Int)×Option Addr×Nat) [4] (fun ⟨l57,A58,c59⟩=>[(4,.slice A58 l57.length c59)]) (fun ⟨l57,A58,c59⟩=>⟨w0,M,H,(13,⟨.slice A58 l57.length c59,3,1,l57.length,l57.flatMap (fun x : Int=>[Value.int .i64 x])⟩)::R,φ⟩) (fun ⟨l57,A58,c59⟩=>m_plog_List_j1 l57 = some r∧l57.length ≤ c59) ?_ (fun ⟨l57,A58,c59⟩ u ⟨hm,hc59⟩=>?_)
 ·
  refine c_block ?_
  replace hm:=bnd hm
  obtain ⟨out2,hl2,hr2⟩:=hm
  obtain ⟨n87',hl2⟩:=loop_lp hl2
  refine c_loopU (ι:=Nat×(List Int)×Int×Option Addr×Nat) [0,4,7,8] (fun ⟨n87,l73,i76,A74,c75⟩=>[(4,.slice A74 l73.length c75),(8,Vi i76)]) (fun ⟨n87,l73,i76,A74,c75⟩=>⟨w0,M,H,(13,⟨.slice A74 l73.length c75,3,1,l73.length,l73.flatMap (fun x : Int=>[Value.int .i64 x])⟩)::R,φ⟩) (fun ⟨n87,l73,i76,A74,c75⟩=>Lp (fun s=>m_plog_List_s2 p0 s.1 s.2) n87 (l73,i76) out2∧l73.length ≤ c75) (fun ⟨n87,l73,i76,A74,c75⟩=>n87) (n87',([] : List Int),0,none,0) ⟨hl2,(Nat.le_refl 0)⟩ ⟨rfl,rfl,rfl,rfl,trivial⟩ (fun W h=>h.phi (fun W hφ=>hφ)) (fun ⟨n87,l73,i76,A74,c75⟩ u ⟨hlp,hc75⟩=>?_)
  obtain ⟨o2,hm,hnx2⟩:=lp_step hlp
  clear hlp
  replace hm : m_plog_List_s2 p0 l73 i76 = some o2:=hm
  unfold m_plog_List_s2 at hm
  refine c_flat [(0,Vs p0),(4,.slice A74 l73.length c75),(7,Vi (p0.size : Int)),(8,Vi i76)] ⟨rfl,rfl,rfl,rfl,trivial⟩ (fun u=>?_)
  refine c_sta ⟨w0,M,H,(13,⟨.slice A74 l73.length c75,3,1,l73.length,l73.flatMap (fun x : Int=>[Value.int .i64 x])⟩)::R,φ⟩ (fun _ h=>h)<|c_seq<|c_region<|g_v rfl (r_lss rfl rfl)<|g_nil<|d_then<|c_seq ?_
  refine c_cond rfl (fun h88=>?_) (fun h88=>?_)
  ·
   replace hm:=ite_t hm (of_decide_eq_true h88)
   refine c_skip<|d_then<|c_seq<|c_block<|c_seq<|c_region<|g_v rfl r_move<|g_v rfl r_assign<|g_nil<|d_then ?_
   refine c_region ?_
   iterate 3 refine g_v rfl r_move ?_
   replace hm:=bnd hm
   obtain ⟨b89,hb89,hm⟩:=hm
   refine g_v rfl (r_sat Try.underlying9 rfl rfl hb89)<|g_v rfl (r_conv Try.underlying5 Try.underlying3 rfl rfl) ?_
   refine g_e rfl (e_lit (tag:=100160) (l:=[w64 b89]) (enc:=(fun x : Int=>[Value.int .i64 x])) (sz:=1) rfl Try.underlying27 (lit3_11 _) rfl rfl (fun _=>rfl)) (fun g90 _=>?_)
   replace hm:=bnd hm
   obtain ⟨l91,hl91,hm⟩:=hm
   refine g_e rfl (e_appR (enc:=(fun x : Int=>[Value.int .i64 x])) (l:=l73) (l1:=[w64 b89]) (l2:=l91) (tag:=13) Try.underlying27 inf3_12 rfl (by decide) (by decide) (fun _=>rfl) (fun _=>rfl) rfl hc75 rfl rfl (fun W hS=>rowCl (tag:=100160) rfl W hS) hl91) (fun ⟨A92,c93⟩ hc93=>?_)
   refine g_v rfl r_assign<|g_nil<|d_normal_block<|d_then ?_
   refine c_flat [(0,Vs p0),(4,.slice A92 l91.length c93),(7,Vi (p0.size : Int)),(8,Vi i76)] ⟨rfl,rfl,rfl,rfl,trivial⟩ (fun u=>?_)
   refine c_sta ⟨w0,M,H,(100160,⟨.slice (some ⟨g90,0,none⟩) [w64 b89].length 1,3,1,[w64 b89].length,[w64 b89].flatMap (fun x : Int=>[Value.int .i64 x])⟩)::(13,⟨.slice A92 l91.length c93,3,1,l91.length,l91.flatMap (fun x : Int=>[Value.int .i64 x])⟩)::R,φ⟩ (fun _ h=>h)<|c_region<|g_v rfl (r_add rfl rfl rfl)<|g_v rfl r_move<|g_nil ?_
   obtain ⟨n94,hn94,hlp⟩:=nx_inl hm hnx2
   exact d_round (n94,l91,w64 (i76 + 1),A92,c93) ⟨hlp,hc93⟩ hn94 ⟨rfl,rfl,rfl,rfl,trivial⟩ (fun W h=>(h.dropR (t:=100160) rfl).phi (fun W hφ=>hφ))
  replace hm:=ite_f hm (of_decide_eq_false h88)
  refine c_exit<|d_exit_then<|d_exit_then<|d_exit_block ?_
  replace hm:=nx_out (C:=(fun e : (List Int)=>m_plog_List_j1 e = some r)) hm hnx2 hr2
  exact d_round (l73,A74,c75) ⟨hm,hc75⟩ Nat.zero_lt_one ⟨rfl,trivial⟩ (fun W h=>h.phi (fun W hφ=>hφ))
 unfold m_plog_List_j1 at hm
 refine d_flat [(4,.slice A58 l57.length c59)] ⟨rfl,trivial⟩ (fun u=>?_)
 refine d_sta ⟨w0,M,H,(13,⟨.slice A58 l57.length c59,3,1,l57.length,l57.flatMap (fun x : Int=>[Value.int .i64 x])⟩)::R,φ⟩ (fun _ h=>h)<|d_then<|c_seq<|c_seq<|c_region<|g_v rfl r_move ?_
 replace hm:=bnd hm
 obtain ⟨x60,hx61,hm⟩:=hm
 refine g_cn ⟨w0,M,_,_,φ⟩ (fun _ h=>h) Try.call114 rfl rfl (c_plog_rising l57 A58 c59 hc59 (fun W hS=>rowCl (tag:=13) rfl W hS) _ hx61) (fun _ _=>?_)
 refine g_v rfl (r_not rfl)<|g_nil<|d_then ?_
 refine c_cond rfl (fun h62=>?_) (fun h62=>?_)
 ·
  have h62' : x60 = false:=by revert h62; cases x60 <;> simp
  replace hm:=ite_f hm (bool_nt h62')
  refine c_seq<|c_region<|g_v rfl r_assign<|g_v rfl r_assign<|g_nil<|d_then<|c_ret<|d_ret_then ?_
  cases hm
  refine d_sta _ (fun W h=>nilR h 14 3 1)<|d_sta _ (fun W h=>ok_frontR (t:=14) (t':=2000) h rfl) ?_
  exact d_retC (none,0) Try.results107 (res_tmp (res_tmp (res_nil rfl))) (Nat.le_refl 0) (fun W h=>(h.dropR (t:=13) rfl).phi (fun W hφ=>hφ)) (.inr rfl)
 have h62' : x60 = true:=by revert h62; cases x60 <;> simp
 replace hm:=ite_t hm h62'
 refine c_skip<|d_then<|c_seq<|c_region<|g_v rfl r_move<|g_v rfl r_assign<|g_v rfl r_assign<|g_nil<|d_then<|c_ret ?_
 cases hm
 refine d_sta _ (fun W h=>ok_frontR (t:=13) (t':=2000) h rfl) ?_
 exact d_retC (A58,c59) Try.results107 (res_tmp (res_tmp (res_nil rfl))) hc59 (fun W h=>h.phi (fun W hφ=>hφ)) (.inr rfl)
noncomputable def m_plog_Check_j1  : Option Int:=
  some 0
noncomputable def m_plog_Check_s2 (p0 : GLog) (i84 : Int) (i85 : Int) : Option ((Int×Int) ⊕ (Unit ⊕ Int)):=
  if i85 < (p0.fEntries.length : Int) then
    (at_ p0.fEntries i85).bind fun x112=>
    if x112.fTerm < i84 then
      some (.inr (.inr 1))
    else
      (m_plog_within x112.fTerm).bind fun x118=>
      if x118 = true then
        if x112.fKind < 0 then
          some (.inr (.inr 1))
        else
          if 2 < x112.fKind then
            some (.inr (.inr 1))
          else
            if 8000 < (x112.fData.size : Int) then
              some (.inr (.inr 1))
            else
              (m_plog_List x112.fData).bind fun (z130 : (List Int)×Bool)=>
              if x112.fKind = 1 then
                if z130.2 = true then
                  some (.inl (x112.fTerm,w64 (i85 + 1)))
                else
                  some (.inr (.inr 1))
              else
                some (.inl (x112.fTerm,w64 (i85 + 1)))
      else
        some (.inr (.inr 1))
  else
    some (.inr (.inl ()))
noncomputable def m_plog_Check (p0 : GLog) : Option Int:=
  (m_plog_within p0.fBase).bind fun x2=>
  if x2 = true then
    (m_plog_within p0.fBaseTerm).bind fun x5=>
    if x5 = true then
      if 100000 < (p0.fEntries.length : Int) then
        some 1
      else
        (loop (fun s=>m_plog_Check_s2 p0 s.1 s.2) (p0.fBaseTerm,0)).bind fun e=>Sum.elim (fun e=>m_plog_Check_j1) (fun x=>some x) e
    else
      some 1
  else
    some 1
theorem c_plog_Check {w0 : World} {M : Nat→Prop} {H : List (Nat×Nat×Obj)} {R : List (Nat×Row)} {φ : World→Prop} (p0 : GLog) (Ap0_0 : Option Addr) (cp0_0 : Nat) (hcp0_0 : p0.fEntries.length ≤ cp0_0) (fp0_0 : ∀ W,(Sta.mk w0 M H R φ).ok W→Cl W Ap0_0 (p0.fEntries.flatMap GEntry.enc)) (r : Int) (hm : m_plog_Check p0 = some r) :
    Cn Try.prog 94 #[.agg #[Vi p0.fBase,Vi p0.fBaseTerm,.slice Ap0_0 p0.fEntries.length cp0_0]] ⟨w0,M,H,R,φ⟩ (fun x : Unit=>Vi r) (fun x=>True) (fun x=>⟨w0,M,H,R,φ⟩):=by
 unfold m_plog_Check at hm
 refine cn_intro (fn:=Try.f94) (N:=75) Try.func94 rfl Try.ntmps94 rfl<|c_seq<|c_region ?_
 refine g_e rfl (e_box 100010 rfl) (fun g1 _=>?_)
 refine g_v rfl r_assign<|g_nil<|d_then<|c_seq<|c_seq<|c_region<|g_v rfl (r_field (n:=0) Try.underlying103 rfl Try.sizeOf3 rfl rfl)<|g_v rfl (r_load (tag:=100010) rfl rfl rfl Try.isAgg3) ?_
 replace hm:=bnd hm
 obtain ⟨x2,hx3,hm⟩:=hm
 refine g_cn ⟨w0,M,_,_,φ⟩ (fun _ h=>h) Try.call106 rfl rfl (c_plog_within p0.fBase _ hx3) (fun _ _=>?_)
 refine g_v rfl (r_not rfl)<|g_v rfl r_move<|g_sta ⟨w0,M,(100010,g1,.cells #[Vi p0.fBase,Vi p0.fBaseTerm,.slice Ap0_0 p0.fEntries.length cp0_0] 103 (0,0))::H,R,φ⟩ (fun _ h=>h) ?_
 refine g_if rfl rfl rfl rfl rfl (fun h4=>?_) (fun h4=>?_)
 ·
  have h4' : x2 = true:=by revert h4; cases x2 <;> simp
  replace hm:=ite_t hm h4'
  refine g_v rfl (r_field (n:=1) Try.underlying103 rfl Try.sizeOf3 rfl rfl)<|g_do rfl rfl rfl rfl rfl h4<|g_v rfl (r_load (tag:=100010) rfl rfl rfl Try.isAgg3)<|g_do rfl rfl rfl rfl rfl h4 ?_
  replace hm:=bnd hm
  obtain ⟨x5,hx6,hm⟩:=hm
  refine g_cn ⟨w0,M,_,_,φ⟩ (fun _ h=>h) Try.call106 rfl rfl (c_plog_within p0.fBaseTerm _ hx6) (fun _ _=>?_)
  refine g_do rfl rfl rfl rfl rfl h4<|g_v rfl (r_not rfl)<|g_v rfl (r_pick0 rfl h4)<|g_v rfl r_move ?_
  refine g_if rfl rfl rfl rfl rfl (fun h7=>?_) (fun h7=>?_)
  ·
   have h7' : x5 = true:=by revert h7; cases x5 <;> simp
   replace hm:=ite_t hm h7'
   refine g_v rfl (r_field (n:=2) Try.underlying103 rfl Try.sizeOf26 rfl rfl)<|g_do rfl rfl rfl rfl rfl h7<|g_v rfl (r_load (tag:=100010) rfl rfl rfl Try.isAgg26)<|g_do rfl rfl rfl rfl rfl h7<|g_v rfl (r_lenL Try.underlying26 rfl)<|g_do rfl rfl rfl rfl rfl h7<|g_v rfl (r_gtr rfl rfl)<|g_v rfl (r_pick0 rfl h7)<|g_nil<|d_then ?_
   refine c_flat [(1,Vp g1),(23,.bool (decide (100000 < (p0.fEntries.length : Int))))] ⟨rfl,rfl,trivial⟩ (fun u=>?_)
   refine c_cond rfl (fun h8=>?_) (fun h8=>?_)
   ·
    replace hm:=ite_t hm (of_decide_eq_true h8)
    refine c_seq<|c_region<|g_v rfl r_assign<|g_nil<|d_then<|c_ret<|d_ret_then ?_
    cases hm
    exact d_retC () Try.results94 (res_tmp (res_nil rfl)) trivial (fun W h=>ok_pre (H1:=[_]) (R1:=[]) h (fun W hφ=>hφ)) (.inr rfl)
   replace hm:=ite_f hm (of_decide_eq_false h8)
   refine c_skip<|d_then<|c_seq<|c_region<|g_v rfl (r_field (n:=1) Try.underlying103 rfl Try.sizeOf3 rfl rfl)<|g_v rfl (r_load (tag:=100010) rfl rfl rfl Try.isAgg3)<|g_v rfl r_assign<|g_nil<|d_then<|c_seq ?_
   refine c_seq<|c_region<|g_v rfl (r_field (n:=2) Try.underlying103 rfl Try.sizeOf26 rfl rfl)<|g_v rfl (r_load (tag:=100010) rfl rfl rfl Try.isAgg26)<|g_v rfl (r_lenL Try.underlying26 rfl)<|g_v rfl r_move<|g_nil<|d_then ?_
   refine c_cut (ι:=Unit) [] (fun _=>[]) (fun _=>⟨w0,M,H,R,φ⟩) (fun _=>m_plog_Check_j1 = some r) ?_ (fun _ u hm=>?_)
   ·
    refine c_block ?_
    replace hm:=bnd hm
    obtain ⟨out2,hl2,hr2⟩:=hm
    obtain ⟨n110',hl2⟩:=loop_lp hl2
    refine c_loopU (ι:=Nat×Int×Int) [3,27,28,29] (fun ⟨n110,i84,i85⟩=>[(3,Vi i84),(29,Vi i85)]) (fun ⟨n110,i84,i85⟩=>⟨w0,M,H,R,φ⟩) (fun ⟨n110,i84,i85⟩=>Lp (fun s=>m_plog_Check_s2 p0 s.1 s.2) n110 (i84,i85) out2) (fun ⟨n110,i84,i85⟩=>n110) (n110',p0.fBaseTerm,0) hl2 ⟨rfl,rfl,rfl,rfl,trivial⟩ (fun W h=>(h.dropH (t:=100010) rfl).phi (fun W hφ=>hφ)) (fun ⟨n110,i84,i85⟩ u hlp=>?_)
    obtain ⟨o2,hm,hnx2⟩:=lp_step hlp
    clear hlp
    replace hm : m_plog_Check_s2 p0 i84 i85 = some o2:=hm
    unfold m_plog_Check_s2 at hm
    refine c_flat [(3,Vi i84),(27,.slice Ap0_0 p0.fEntries.length cp0_0),(28,Vi (p0.fEntries.length : Int)),(29,Vi i85)] ⟨rfl,rfl,rfl,rfl,trivial⟩ (fun u=>?_)
    refine c_sta ⟨w0,M,H,R,φ⟩ (fun _ h=>h)<|c_seq<|c_region<|g_v rfl (r_lss rfl rfl)<|g_nil<|d_then<|c_seq ?_
    refine c_cond rfl (fun h111=>?_) (fun h111=>?_)
    ·
     replace hm:=ite_t hm (of_decide_eq_true h111)
     refine c_skip<|d_then<|c_seq<|c_block<|c_seq<|c_region ?_
     replace hm:=bnd hm
     obtain ⟨x112,hx112,hm⟩:=hm
     refine g_know _ (fun W hS=>cl_at (p:=(Sta.mk w0 M H R φ).ok) (sz:=3) (fun _=>rfl) (by decide) (ok_pre (H1:=[]) (R1:=[]) hS (fun W h=>h)) fp0_0 hx112) ?_
     rintro ⟨ad113,hA115,f114⟩
     refine g_v rfl (r_ix Try.underlying26 Try.sizeOf56 rfl hA115 rfl hx112)<|g_v rfl (r_ldA rfl Try.isAgg56 Try.sizeOf56 (fun W hS=>(f114 W (ok_pre (H1:=[]) (R1:=[]) hS (fun W h=>h))).take 3) rfl) ?_
     refine g_e rfl (e_alloc 100050 Try.zeroValue56) (fun g116 _=>?_)
     refine g_storeL (tag:=100050) rfl rfl rfl rfl Try.sizeOf56 rfl rfl<|g_nil<|d_then<|c_seq<|c_seq<|c_region<|g_v rfl (r_field (n:=0) Try.underlying56 rfl Try.sizeOf3 rfl rfl)<|g_v rfl (r_load (tag:=100050) rfl rfl rfl Try.isAgg3)<|g_v rfl r_move<|g_v rfl (r_lss rfl rfl) ?_
     refine g_v rfl r_move ?_
     refine g_if rfl rfl rfl rfl rfl (fun h117=>?_) (fun h117=>?_)
     ·
      replace hm:=ite_f hm (of_decide_eq_false h117)
      refine g_v rfl (r_field (n:=0) Try.underlying56 rfl Try.sizeOf3 rfl rfl)<|g_do rfl rfl rfl rfl rfl h117<|g_v rfl (r_load (tag:=100050) rfl rfl rfl Try.isAgg3)<|g_do rfl rfl rfl rfl rfl h117 ?_
      replace hm:=bnd hm
      obtain ⟨x118,hx119,hm⟩:=hm
      refine g_cn ⟨w0,M,_,_,φ⟩ (fun _ h=>h) Try.call106 rfl rfl (c_plog_within x112.fTerm _ hx119) (fun _ _=>?_)
      refine g_do rfl rfl rfl rfl rfl h117<|g_v rfl (r_not rfl)<|g_v rfl (r_pick0 rfl h117)<|g_v rfl r_move ?_
      refine g_if rfl rfl rfl rfl rfl (fun h120=>?_) (fun h120=>?_)
      ·
       have h120' : x118 = true:=by revert h120; cases x118 <;> simp
       replace hm:=ite_t hm h120'
       refine g_v rfl (r_field (n:=1) Try.underlying56 rfl Try.sizeOf3 rfl rfl)<|g_do rfl rfl rfl rfl rfl h120<|g_v rfl (r_load (tag:=100050) rfl rfl rfl Try.isAgg3)<|g_do rfl rfl rfl rfl rfl h120<|g_v rfl (r_lss rfl rfl)<|g_v rfl (r_pick0 rfl h120)<|g_v rfl r_move ?_
       refine g_if rfl rfl rfl rfl rfl (fun h121=>?_) (fun h121=>?_)
       ·
        replace hm:=ite_f hm (of_decide_eq_false h121)
        refine g_v rfl (r_field (n:=1) Try.underlying56 rfl Try.sizeOf3 rfl rfl)<|g_do rfl rfl rfl rfl rfl h121<|g_v rfl (r_load (tag:=100050) rfl rfl rfl Try.isAgg3)<|g_do rfl rfl rfl rfl rfl h121<|g_v rfl (r_gtr rfl rfl)<|g_v rfl (r_pick0 rfl h121)<|g_v rfl r_move ?_
        refine g_if rfl rfl rfl rfl rfl (fun h122=>?_) (fun h122=>?_)
        ·
         replace hm:=ite_f hm (of_decide_eq_false h122)
         refine g_v rfl (r_field (n:=2) Try.underlying56 rfl Try.sizeOf9 rfl rfl)<|g_do rfl rfl rfl rfl rfl h122<|g_v rfl (r_load (tag:=100050) rfl rfl rfl Try.isAgg9)<|g_do rfl rfl rfl rfl rfl h122<|g_v rfl (r_len Try.underlying9 rfl)<|g_do rfl rfl rfl rfl rfl h122<|g_v rfl (r_gtr rfl rfl)<|g_v rfl (r_pick0 rfl h122)<|g_nil<|d_then ?_
         refine c_flat [(5,Vp g116),(27,.slice Ap0_0 p0.fEntries.length cp0_0),(28,Vi (p0.fEntries.length : Int)),(29,Vi i85),(58,.bool (decide (8000 < (x112.fData.size : Int))))] ⟨rfl,rfl,rfl,rfl,rfl,trivial⟩ (fun u=>?_)
         refine c_sta ⟨w0,M,(100050,g116,.cells #[Vi x112.fTerm,Vi x112.fKind,Vs x112.fData] 56 (0,0))::H,R,φ⟩ (fun _ h=>h) ?_
         refine c_cond rfl (fun h123=>?_) (fun h123=>?_)
         ·
          replace hm:=ite_t hm (of_decide_eq_true h123)
          refine c_seq<|c_region<|g_v rfl r_assign<|g_nil<|d_then<|c_ret<|d_ret_then<|d_ret_block<|d_ret_then<|d_ret_then ?_
          refine d_ret_block<|d_ret_then<|d_ret_then ?_
          replace hm:=nx_out (C:=(fun e : Unit ⊕ Int=>Sum.elim (fun e=>m_plog_Check_j1) (fun x=>some x) e = some r)) hm hnx2 hr2
          replace hm : some 1 = some r:=hm
          cases hm
          exact d_retC () Try.results94 (res_tmp (res_nil rfl)) trivial (fun W h=>ok_pre (H1:=[_]) (R1:=[]) h (fun W hφ=>hφ)) (.inr rfl)
         replace hm:=ite_f hm (of_decide_eq_false h123)
         refine c_skip<|d_then<|c_seq<|c_region<|g_v rfl (r_field (n:=2) Try.underlying56 rfl Try.sizeOf9 rfl rfl)<|g_v rfl (r_load (tag:=100050) rfl rfl rfl Try.isAgg9) ?_
         replace hm:=bnd hm
         obtain ⟨⟨x124,x125⟩,hx126,hm⟩:=hm
         refine g_cn ⟨w0,M,_,_,φ⟩ (fun _ h=>h) Try.call107 rfl rfl (c_plog_List x112.fData _ hx126) (fun ⟨A127,c128⟩ hc128=>?_)
         refine g_sta _ (fun W h=>(ok_frontR (t:=2000) (t':=100620) h rfl))<|g_v rfl r_move<|g_v rfl (r_extract rfl rfl)<|g_v rfl (r_extract rfl rfl)<|g_v rfl r_assign<|g_v rfl r_assign<|g_nil<|d_then<|c_seq<|c_seq ?_
         refine c_region<|g_v rfl (r_field (n:=1) Try.underlying56 rfl Try.sizeOf3 rfl rfl)<|g_v rfl (r_load (tag:=100050) rfl rfl rfl Try.isAgg3)<|g_v rfl (r_eql rfl rfl)<|g_v rfl r_move<|g_sta ⟨w0,M,(100050,g116,.cells #[Vi x112.fTerm,Vi x112.fKind,Vs x112.fData] 56 (0,0))::H,(100620,⟨.slice A127 x124.length c128,3,1,x124.length,x124.flatMap (fun x : Int=>[Value.int .i64 x])⟩)::R,φ⟩ (fun _ h=>h) ?_
         refine g_if rfl rfl rfl rfl rfl (fun h131=>?_) (fun h131=>?_)
         ·
          replace hm:=ite_t hm (of_decide_eq_true h131)
          refine g_v rfl r_move<|g_do rfl rfl rfl rfl rfl h131<|g_v rfl (r_not rfl)<|g_v rfl (r_pick1 rfl h131)<|g_nil<|d_then ?_
          refine c_flat [(5,Vp g116),(27,.slice Ap0_0 p0.fEntries.length cp0_0),(28,Vi (p0.fEntries.length : Int)),(29,Vi i85),(71,.bool (!x125))] ⟨rfl,rfl,rfl,rfl,rfl,trivial⟩ (fun u=>?_)
          refine c_cond rfl (fun h132=>?_) (fun h132=>?_)
          ·
           have h132' : x125 = false:=by revert h132; cases x125 <;> simp
           replace hm:=ite_f hm (bool_nt h132')
           refine c_seq<|c_region<|g_v rfl r_assign<|g_nil<|d_then<|c_ret<|d_ret_then<|d_ret_block<|d_ret_then<|d_ret_then ?_
           refine d_ret_block<|d_ret_then<|d_ret_then ?_
           replace hm:=nx_out (C:=(fun e : Unit ⊕ Int=>Sum.elim (fun e=>m_plog_Check_j1) (fun x=>some x) e = some r)) hm hnx2 hr2
           replace hm : some 1 = some r:=hm
           cases hm
           exact d_retC () Try.results94 (res_tmp (res_nil rfl)) trivial (fun W h=>ok_pre (H1:=[_]) (R1:=[_]) h (fun W hφ=>hφ)) (.inr rfl)
          have h132' : x125 = true:=by revert h132; cases x125 <;> simp
          replace hm:=ite_t hm h132'
          refine c_skip<|d_then<|c_region<|g_v rfl (r_field (n:=0) Try.underlying56 rfl Try.sizeOf3 rfl rfl)<|g_v rfl (r_load (tag:=100050) rfl rfl rfl Try.isAgg3)<|g_v rfl r_assign<|g_nil<|d_normal_block<|d_then<|c_region ?_
          refine g_v rfl (r_add rfl rfl rfl)<|g_v rfl r_move<|g_nil ?_
          obtain ⟨n133,hn133,hlp⟩:=nx_inl hm hnx2
          exact d_round (n133,x112.fTerm,w64 (i85 + 1)) hlp hn133 ⟨rfl,rfl,rfl,rfl,trivial⟩ (fun W h=>((h.dropR (t:=100620) rfl).dropH (t:=100050) rfl).phi (fun W hφ=>hφ))
         replace hm:=ite_f hm (of_decide_eq_false h131)
         refine g_no rfl rfl rfl rfl rfl h131<|g_v rfl (r_pick0 rfl h131)<|g_nil<|d_then ?_
         refine c_flat [(5,Vp g116),(27,.slice Ap0_0 p0.fEntries.length cp0_0),(28,Vi (p0.fEntries.length : Int)),(29,Vi i85),(71,.bool false)] ⟨rfl,rfl,rfl,rfl,rfl,trivial⟩ (fun u=>?_)
         refine c_cond0 rfl rfl<|c_skip<|d_then<|c_region<|g_v rfl (r_field (n:=0) Try.underlying56 rfl Try.sizeOf3 rfl rfl)<|g_v rfl (r_load (tag:=100050) rfl rfl rfl Try.isAgg3)<|g_v rfl r_assign<|g_nil<|d_normal_block<|d_then ?_
         refine c_region<|g_v rfl (r_add rfl rfl rfl)<|g_v rfl r_move<|g_nil ?_
         obtain ⟨n134,hn134,hlp⟩:=nx_inl hm hnx2
         exact d_round (n134,x112.fTerm,w64 (i85 + 1)) hlp hn134 ⟨rfl,rfl,rfl,rfl,trivial⟩ (fun W h=>((h.dropR (t:=100620) rfl).dropH (t:=100050) rfl).phi (fun W hφ=>hφ))
        replace hm:=ite_t hm (of_decide_eq_true h122)
        iterate 3 refine g_no rfl rfl rfl rfl rfl h122 ?_
        refine g_v rfl (r_pick1 rfl h122)<|g_nil<|d_then ?_
        refine c_flat [(5,Vp g116),(27,.slice Ap0_0 p0.fEntries.length cp0_0),(28,Vi (p0.fEntries.length : Int)),(29,Vi i85),(58,.bool true)] ⟨rfl,rfl,rfl,rfl,rfl,trivial⟩ (fun u=>?_)
        refine c_sta ⟨w0,M,(100050,g116,.cells #[Vi x112.fTerm,Vi x112.fKind,Vs x112.fData] 56 (0,0))::H,R,φ⟩ (fun _ h=>h)<|c_cond1 rfl rfl<|c_seq<|c_region<|g_v rfl r_assign<|g_nil<|d_then<|c_ret<|d_ret_then<|d_ret_block ?_
        refine d_ret_then<|d_ret_then<|d_ret_block<|d_ret_then<|d_ret_then ?_
        replace hm:=nx_out (C:=(fun e : Unit ⊕ Int=>Sum.elim (fun e=>m_plog_Check_j1) (fun x=>some x) e = some r)) hm hnx2 hr2
        replace hm : some 1 = some r:=hm
        cases hm
        exact d_retC () Try.results94 (res_tmp (res_nil rfl)) trivial (fun W h=>ok_pre (H1:=[_]) (R1:=[]) h (fun W hφ=>hφ)) (.inr rfl)
       replace hm:=ite_t hm (of_decide_eq_true h121)
       refine g_no rfl rfl rfl rfl rfl h121<|g_no rfl rfl rfl rfl rfl h121<|g_v rfl (r_pick1 rfl h121)<|g_v rfl r_move ?_
       iterate 4 refine g_no rfl rfl rfl rfl rfl rfl ?_
       refine g_v rfl (r_pick1 rfl rfl)<|g_nil<|d_then ?_
       refine c_flat [(5,Vp g116),(27,.slice Ap0_0 p0.fEntries.length cp0_0),(28,Vi (p0.fEntries.length : Int)),(29,Vi i85),(58,.bool true)] ⟨rfl,rfl,rfl,rfl,rfl,trivial⟩ (fun u=>?_)
       refine c_sta ⟨w0,M,(100050,g116,.cells #[Vi x112.fTerm,Vi x112.fKind,Vs x112.fData] 56 (0,0))::H,R,φ⟩ (fun _ h=>h)<|c_cond1 rfl rfl<|c_seq<|c_region<|g_v rfl r_assign<|g_nil<|d_then<|c_ret<|d_ret_then<|d_ret_block ?_
       refine d_ret_then<|d_ret_then<|d_ret_block<|d_ret_then<|d_ret_then ?_
       replace hm:=nx_out (C:=(fun e : Unit ⊕ Int=>Sum.elim (fun e=>m_plog_Check_j1) (fun x=>some x) e = some r)) hm hnx2 hr2
       replace hm : some 1 = some r:=hm
       cases hm
       exact d_retC () Try.results94 (res_tmp (res_nil rfl)) trivial (fun W h=>ok_pre (H1:=[_]) (R1:=[]) h (fun W hφ=>hφ)) (.inr rfl)
      have h120' : x118 = false:=by revert h120; cases x118 <;> simp
      replace hm:=ite_f hm (bool_nt h120')
      refine g_no rfl rfl rfl rfl rfl h120<|g_no rfl rfl rfl rfl rfl h120<|g_v rfl (r_pick1 rfl h120)<|g_v rfl r_move ?_
      iterate 3 refine g_no rfl rfl rfl rfl rfl rfl ?_
      refine g_v rfl (r_pick1 rfl rfl)<|g_v rfl r_move ?_
      iterate 4 refine g_no rfl rfl rfl rfl rfl rfl ?_
      refine g_v rfl (r_pick1 rfl rfl)<|g_nil<|d_then ?_
      refine c_flat [(5,Vp g116),(27,.slice Ap0_0 p0.fEntries.length cp0_0),(28,Vi (p0.fEntries.length : Int)),(29,Vi i85),(58,.bool true)] ⟨rfl,rfl,rfl,rfl,rfl,trivial⟩ (fun u=>?_)
      refine c_sta ⟨w0,M,(100050,g116,.cells #[Vi x112.fTerm,Vi x112.fKind,Vs x112.fData] 56 (0,0))::H,R,φ⟩ (fun _ h=>h)<|c_cond1 rfl rfl<|c_seq<|c_region<|g_v rfl r_assign<|g_nil<|d_then<|c_ret<|d_ret_then<|d_ret_block ?_
      refine d_ret_then<|d_ret_then<|d_ret_block<|d_ret_then<|d_ret_then ?_
      replace hm:=nx_out (C:=(fun e : Unit ⊕ Int=>Sum.elim (fun e=>m_plog_Check_j1) (fun x=>some x) e = some r)) hm hnx2 hr2
      replace hm : some 1 = some r:=hm
      cases hm
      exact d_retC () Try.results94 (res_tmp (res_nil rfl)) trivial (fun W h=>ok_pre (H1:=[_]) (R1:=[]) h (fun W hφ=>hφ)) (.inr rfl)
     replace hm:=ite_t hm (of_decide_eq_true h117)
     iterate 3 refine g_no rfl rfl rfl rfl rfl h117 ?_
     refine g_v rfl (r_pick1 rfl h117)<|g_v rfl r_move ?_
     iterate 3 refine g_no rfl rfl rfl rfl rfl rfl ?_
     refine g_v rfl (r_pick1 rfl rfl)<|g_v rfl r_move ?_
     iterate 3 refine g_no rfl rfl rfl rfl rfl rfl ?_
     refine g_v rfl (r_pick1 rfl rfl)<|g_v rfl r_move ?_
     iterate 4 refine g_no rfl rfl rfl rfl rfl rfl ?_
     refine g_v rfl (r_pick1 rfl rfl)<|g_nil<|d_then ?_
     refine c_flat [(5,Vp g116),(27,.slice Ap0_0 p0.fEntries.length cp0_0),(28,Vi (p0.fEntries.length : Int)),(29,Vi i85),(58,.bool true)] ⟨rfl,rfl,rfl,rfl,rfl,trivial⟩ (fun u=>?_)
     refine c_sta ⟨w0,M,(100050,g116,.cells #[Vi x112.fTerm,Vi x112.fKind,Vs x112.fData] 56 (0,0))::H,R,φ⟩ (fun _ h=>h)<|c_cond1 rfl rfl<|c_seq<|c_region<|g_v rfl r_assign<|g_nil<|d_then<|c_ret<|d_ret_then<|d_ret_block ?_
     refine d_ret_then<|d_ret_then<|d_ret_block<|d_ret_then<|d_ret_then ?_
     replace hm:=nx_out (C:=(fun e : Unit ⊕ Int=>Sum.elim (fun e=>m_plog_Check_j1) (fun x=>some x) e = some r)) hm hnx2 hr2
     replace hm : some 1 = some r:=hm
     cases hm
     exact d_retC () Try.results94 (res_tmp (res_nil rfl)) trivial (fun W h=>ok_pre (H1:=[_]) (R1:=[]) h (fun W hφ=>hφ)) (.inr rfl)
    replace hm:=ite_f hm (of_decide_eq_false h111)
    refine c_exit<|d_exit_then<|d_exit_then<|d_exit_block ?_
    replace hm:=nx_out (C:=(fun e : Unit ⊕ Int=>Sum.elim (fun e=>m_plog_Check_j1) (fun x=>some x) e = some r)) hm hnx2 hr2
    exact d_round () hm Nat.zero_lt_one trivial (fun W h=>h.phi (fun W hφ=>hφ))
   unfold m_plog_Check_j1 at hm
   refine d_flat [] trivial (fun u=>?_)
   refine d_sta ⟨w0,M,H,R,φ⟩ (fun _ h=>h)<|d_then<|c_seq<|c_region<|g_v rfl r_assign<|g_nil<|d_then<|c_ret ?_
   cases hm
   exact d_retC () Try.results94 (res_tmp (res_nil rfl)) trivial (fun W h=>ok_pre (H1:=[]) (R1:=[]) h (fun W hφ=>hφ)) (.inr rfl)
  have h7' : x5 = false:=by revert h7; cases x5 <;> simp
  replace hm:=ite_f hm (bool_nt h7')
  iterate 3 refine g_no rfl rfl rfl rfl rfl h7 ?_
  refine g_v rfl (r_pick1 rfl h7)<|g_nil<|d_then ?_
  refine c_flat [(1,Vp g1),(23,.bool true)] ⟨rfl,rfl,trivial⟩ (fun u=>?_)
  refine c_cond1 rfl rfl<|c_seq<|c_region<|g_v rfl r_assign<|g_nil<|d_then<|c_ret<|d_ret_then ?_
  cases hm
  exact d_retC () Try.results94 (res_tmp (res_nil rfl)) trivial (fun W h=>ok_pre (H1:=[_]) (R1:=[]) h (fun W hφ=>hφ)) (.inr rfl)
 have h4' : x2 = false:=by revert h4; cases x2 <;> simp
 replace hm:=ite_f hm (bool_nt h4')
 iterate 3 refine g_no rfl rfl rfl rfl rfl h4 ?_
 refine g_v rfl (r_pick1 rfl h4)<|g_v rfl r_move ?_
 iterate 4 refine g_no rfl rfl rfl rfl rfl rfl ?_
 refine g_v rfl (r_pick1 rfl rfl)<|g_nil<|d_then ?_
 refine c_flat [(1,Vp g1),(23,.bool true)] ⟨rfl,rfl,trivial⟩ (fun u=>?_)
 refine c_cond1 rfl rfl<|c_seq<|c_region<|g_v rfl r_assign<|g_nil<|d_then<|c_ret<|d_ret_then ?_
 cases hm
 exact d_retC () Try.results94 (res_tmp (res_nil rfl)) trivial (fun W h=>ok_pre (H1:=[_]) (R1:=[]) h (fun W hφ=>hφ)) (.inr rfl)
noncomputable def m_raft_Check_j2 (p0 : GNote) : Option Int:=
  if (p0.fVoters.length : Int) = 0 then
    some 1
  else
    some 0
noncomputable def m_raft_Check_s3 (p0 : GNote) (i84 : Int) : Option (Int ⊕ (Unit ⊕ Int)):=
  if i84 < (p0.fVoters.length : Int) then
    (at_ p0.fVoters i84).bind fun x102=>
    (m_raft_node x102).bind fun x106=>
    if x106 = true then
      if 0 < i84 then
        (at_ p0.fVoters (w64 (i84 - 1))).bind fun x110=>
        if x102 ≤ x110 then
          some (.inr (.inr 1))
        else
          some (.inl (w64 (i84 + 1)))
      else
        some (.inl (w64 (i84 + 1)))
    else
      some (.inr (.inr 1))
  else
    some (.inr (.inl ()))
noncomputable def m_raft_Check_j1 (p0 : GNote) : Option Int:=
  (loop (fun s=>m_raft_Check_s3 p0 s) 0).bind fun e=>Sum.elim (fun e=>m_raft_Check_j2 p0) (fun x=>some x) e
noncomputable def m_raft_Check (p0 : GNote) : Option Int:=
  if p0.fKind < 1 then
    some 1
  else
    if 5 < p0.fKind then
      some 1
    else
      (m_raft_node p0.fFrom).bind fun x4=>
      if x4 = true then
        (m_raft_node p0.fTo).bind fun x7=>
        if x7 = true then
          if p0.fFrom = p0.fTo then
            some 1
          else
            if p0.fTerm < 1 then
              some 1
            else
              if 1099511627776 < p0.fTerm then
                some 1
              else
                if p0.fIndex < 0 then
                  some 1
                else
                  if 1099511627776 < p0.fIndex then
                    some 1
                  else
                    if p0.fCommit < 0 then
                      some 1
                    else
                      if 1099511627776 < p0.fCommit then
                        some 1
                      else
                        if p0.fLogTerm < 0 then
                          some 1
                        else
                          if p0.fTerm < p0.fLogTerm then
                            some 1
                          else
                            if 16 < (p0.fEntries.length : Int) then
                              some 1
                            else
                              if w64 (1099511627776 - (p0.fEntries.length : Int)) < p0.fIndex then
                                some 1
                              else
                                if 50000 < (p0.fSnap.size : Int) then
                                  some 1
                                else
                                  (m_plog_Check (⟨p0.fIndex,p0.fLogTerm,p0.fEntries⟩ : GLog)).bind fun x118=>
                                  if x118 ≠ 0 then
                                    some 1
                                  else
                                    if 0 < (p0.fEntries.length : Int) then
                                      (at_ p0.fEntries (w64 ((p0.fEntries.length : Int) - 1))).bind fun x134=>
                                      if p0.fTerm < x134.fTerm then
                                        some 1
                                      else
                                        if (p0.fVoters.length : Int) = 0 then
                                          if p0.fKind ≠ 4 then
                                            some 0
                                          else
                                            m_raft_Check_j1 p0
                                        else
                                          m_raft_Check_j1 p0
                                    else
                                      if (p0.fVoters.length : Int) = 0 then
                                        if p0.fKind ≠ 4 then
                                          some 0
                                        else
                                          m_raft_Check_j1 p0
                                      else
                                        m_raft_Check_j1 p0
        else
          some 1
      else
        some 1
theorem c_raft_Check {w0 : World} {M : Nat→Prop} {H : List (Nat×Nat×Obj)} {R : List (Nat×Row)} {φ : World→Prop} (p0 : GNote) (Ap0_0 : Option Addr) (cp0_0 : Nat) (hcp0_0 : p0.fEntries.length ≤ cp0_0) (fp0_0 : ∀ W,(Sta.mk w0 M H R φ).ok W→Cl W Ap0_0 (p0.fEntries.flatMap GEntry.enc)) (Ap0_1 : Option Addr) (cp0_1 : Nat) (hcp0_1 : p0.fVoters.length ≤ cp0_1) (fp0_1 : ∀ W,(Sta.mk w0 M H R φ).ok W→Cl W Ap0_1 (p0.fVoters.flatMap (fun x : Int=>[Value.int .i64 x]))) (r : Int) (hm : m_raft_Check p0 = some r) :
    Cn Try.prog 77 #[.agg #[Vi p0.fKind,Vi p0.fFrom,Vi p0.fTo,Vi p0.fTerm,Vi p0.fIndex,Vi p0.fLogTerm,Vi p0.fCommit,.bool p0.fGood,.slice Ap0_0 p0.fEntries.length cp0_0,.slice Ap0_1 p0.fVoters.length cp0_1,Vs p0.fSnap]] ⟨w0,M,H,R,φ⟩ (fun x : Unit=>Vi r) (fun x=>True) (fun x=>⟨w0,M,H,R,φ⟩):=by
 unfold m_raft_Check at hm
 refine cn_intro (fn:=Try.f77) (N:=163) Try.func77 rfl Try.ntmps77 rfl<|c_seq<|c_region ?_
 refine g_e rfl (e_box 100010 rfl) (fun g1 _=>?_)
 refine g_v rfl r_assign<|g_nil<|d_then<|c_seq<|c_block<|c_seq<|c_region<|g_v rfl (r_field (n:=0) Try.underlying29 rfl Try.sizeOf3 rfl rfl)<|g_v rfl (r_load (tag:=100010) rfl rfl rfl Try.isAgg3)<|g_v rfl (r_lss rfl rfl) ?_
 refine g_v rfl r_move<|g_sta ⟨w0,M,(100010,g1,.cells #[Vi p0.fKind,Vi p0.fFrom,Vi p0.fTo,Vi p0.fTerm,Vi p0.fIndex,Vi p0.fLogTerm,Vi p0.fCommit,.bool p0.fGood,.slice Ap0_0 p0.fEntries.length cp0_0,.slice Ap0_1 p0.fVoters.length cp0_1,Vs p0.fSnap] 29 (0,0))::H,R,φ⟩ (fun _ h=>h) ?_
 refine g_if rfl rfl rfl rfl rfl (fun h2=>?_) (fun h2=>?_)
 ·
  replace hm:=ite_f hm (of_decide_eq_false h2)
  refine g_v rfl (r_field (n:=0) Try.underlying29 rfl Try.sizeOf3 rfl rfl)<|g_do rfl rfl rfl rfl rfl h2<|g_v rfl (r_load (tag:=100010) rfl rfl rfl Try.isAgg3)<|g_do rfl rfl rfl rfl rfl h2<|g_v rfl (r_gtr rfl rfl)<|g_v rfl (r_pick0 rfl h2)<|g_v rfl r_move ?_
  refine g_if rfl rfl rfl rfl rfl (fun h3=>?_) (fun h3=>?_)
  ·
   replace hm:=ite_f hm (of_decide_eq_false h3)
   refine g_v rfl (r_field (n:=1) Try.underlying29 rfl Try.sizeOf3 rfl rfl)<|g_do rfl rfl rfl rfl rfl h3<|g_v rfl (r_load (tag:=100010) rfl rfl rfl Try.isAgg3)<|g_do rfl rfl rfl rfl rfl h3 ?_
   replace hm:=bnd hm
   obtain ⟨x4,hx5,hm⟩:=hm
   refine g_cn ⟨w0,M,_,_,φ⟩ (fun _ h=>h) Try.call93 rfl rfl (c_raft_node p0.fFrom _ hx5) (fun _ _=>?_)
   refine g_do rfl rfl rfl rfl rfl h3<|g_v rfl (r_not rfl)<|g_v rfl (r_pick0 rfl h3)<|g_v rfl r_move ?_
   refine g_if rfl rfl rfl rfl rfl (fun h6=>?_) (fun h6=>?_)
   ·
    have h6' : x4 = true:=by revert h6; cases x4 <;> simp
    replace hm:=ite_t hm h6'
    refine g_v rfl (r_field (n:=2) Try.underlying29 rfl Try.sizeOf3 rfl rfl)<|g_do rfl rfl rfl rfl rfl h6<|g_v rfl (r_load (tag:=100010) rfl rfl rfl Try.isAgg3)<|g_do rfl rfl rfl rfl rfl h6 ?_
    replace hm:=bnd hm
    obtain ⟨x7,hx8,hm⟩:=hm
    refine g_cn ⟨w0,M,_,_,φ⟩ (fun _ h=>h) Try.call93 rfl rfl (c_raft_node p0.fTo _ hx8) (fun _ _=>?_)
    refine g_do rfl rfl rfl rfl rfl h6<|g_v rfl (r_not rfl)<|g_v rfl (r_pick0 rfl h6)<|g_v rfl r_move ?_
    refine g_if rfl rfl rfl rfl rfl (fun h9=>?_) (fun h9=>?_)
    ·
     have h9' : x7 = true:=by revert h9; cases x7 <;> simp
     replace hm:=ite_t hm h9'
     refine g_v rfl (r_field (n:=1) Try.underlying29 rfl Try.sizeOf3 rfl rfl)<|g_do rfl rfl rfl rfl rfl h9<|g_v rfl (r_load (tag:=100010) rfl rfl rfl Try.isAgg3)<|g_do rfl rfl rfl rfl rfl h9<|g_v rfl (r_field (n:=2) Try.underlying29 rfl Try.sizeOf3 rfl rfl)<|g_do rfl rfl rfl rfl rfl h9<|g_v rfl (r_load (tag:=100010) rfl rfl rfl Try.isAgg3)<|g_do rfl rfl rfl rfl rfl h9<|g_v rfl (r_eql rfl rfl)<|g_v rfl (r_pick0 rfl h9) ?_
     refine g_v rfl r_assign<|g_nil<|d_then ?_
     refine c_flat [(1,Vp g1),(5,.bool (decide (p0.fFrom = p0.fTo)))] ⟨rfl,rfl,trivial⟩ (fun u=>?_)
     refine c_cond rfl (fun h10=>?_) (fun h10=>?_)
     ·
      replace hm:=ite_t hm (of_decide_eq_true h10)
      refine c_seq<|c_region<|g_v rfl r_assign<|g_nil<|d_then<|c_ret<|d_ret_block<|d_ret_then ?_
      cases hm
      exact d_retC () Try.results77 (res_tmp (res_nil rfl)) trivial (fun W h=>ok_pre (H1:=[_]) (R1:=[]) h (fun W hφ=>hφ)) (.inr rfl)
     replace hm:=ite_f hm (of_decide_eq_false h10)
     refine c_seq<|c_region<|g_v rfl (r_field (n:=3) Try.underlying29 rfl Try.sizeOf3 rfl rfl)<|g_v rfl (r_load (tag:=100010) rfl rfl rfl Try.isAgg3)<|g_v rfl (r_lss rfl rfl)<|g_v rfl r_move ?_
     refine g_if rfl rfl rfl rfl rfl (fun h11=>?_) (fun h11=>?_)
     ·
      replace hm:=ite_f hm (of_decide_eq_false h11)
      refine g_v rfl (r_field (n:=3) Try.underlying29 rfl Try.sizeOf3 rfl rfl)<|g_do rfl rfl rfl rfl rfl h11<|g_v rfl (r_load (tag:=100010) rfl rfl rfl Try.isAgg3)<|g_do rfl rfl rfl rfl rfl h11<|g_v rfl (r_gtr rfl rfl)<|g_v rfl (r_pick0 rfl h11)<|g_v rfl r_move ?_
      refine g_if rfl rfl rfl rfl rfl (fun h12=>?_) (fun h12=>?_)
      ·
       replace hm:=ite_f hm (of_decide_eq_false h12)
       refine g_v rfl (r_field (n:=4) Try.underlying29 rfl Try.sizeOf3 rfl rfl)<|g_do rfl rfl rfl rfl rfl h12<|g_v rfl (r_load (tag:=100010) rfl rfl rfl Try.isAgg3)<|g_do rfl rfl rfl rfl rfl h12<|g_v rfl (r_lss rfl rfl)<|g_v rfl (r_pick0 rfl h12)<|g_v rfl r_move ?_
       refine g_if rfl rfl rfl rfl rfl (fun h13=>?_) (fun h13=>?_)
       ·
        replace hm:=ite_f hm (of_decide_eq_false h13)
        refine g_v rfl (r_field (n:=4) Try.underlying29 rfl Try.sizeOf3 rfl rfl)<|g_do rfl rfl rfl rfl rfl h13<|g_v rfl (r_load (tag:=100010) rfl rfl rfl Try.isAgg3)<|g_do rfl rfl rfl rfl rfl h13<|g_v rfl (r_gtr rfl rfl)<|g_v rfl (r_pick0 rfl h13)<|g_v rfl r_move ?_
        refine g_if rfl rfl rfl rfl rfl (fun h14=>?_) (fun h14=>?_)
        ·
         replace hm:=ite_f hm (of_decide_eq_false h14)
         refine g_v rfl (r_field (n:=6) Try.underlying29 rfl Try.sizeOf3 rfl rfl)<|g_do rfl rfl rfl rfl rfl h14<|g_v rfl (r_load (tag:=100010) rfl rfl rfl Try.isAgg3)<|g_do rfl rfl rfl rfl rfl h14<|g_v rfl (r_lss rfl rfl)<|g_v rfl (r_pick0 rfl h14)<|g_v rfl r_move ?_
         refine g_if rfl rfl rfl rfl rfl (fun h15=>?_) (fun h15=>?_)
         ·
          replace hm:=ite_f hm (of_decide_eq_false h15)
          refine g_v rfl (r_field (n:=6) Try.underlying29 rfl Try.sizeOf3 rfl rfl)<|g_do rfl rfl rfl rfl rfl h15<|g_v rfl (r_load (tag:=100010) rfl rfl rfl Try.isAgg3)<|g_do rfl rfl rfl rfl rfl h15<|g_v rfl (r_gtr rfl rfl)<|g_v rfl (r_pick0 rfl h15)<|g_v rfl r_assign<|g_nil<|d_then ?_
          refine c_flat [(1,Vp g1),(33,.bool (decide (1099511627776 < p0.fCommit)))] ⟨rfl,rfl,trivial⟩ (fun u=>?_)
          refine c_cond rfl (fun h16=>?_) (fun h16=>?_)
          ·
           replace hm:=ite_t hm (of_decide_eq_true h16)
           refine c_seq<|c_region<|g_v rfl r_assign<|g_nil<|d_then<|c_ret<|d_ret_block<|d_ret_then ?_
           cases hm
           exact d_retC () Try.results77 (res_tmp (res_nil rfl)) trivial (fun W h=>ok_pre (H1:=[_]) (R1:=[]) h (fun W hφ=>hφ)) (.inr rfl)
          replace hm:=ite_f hm (of_decide_eq_false h16)
          refine c_seq<|c_region<|g_v rfl (r_field (n:=5) Try.underlying29 rfl Try.sizeOf3 rfl rfl)<|g_v rfl (r_load (tag:=100010) rfl rfl rfl Try.isAgg3)<|g_v rfl (r_lss rfl rfl)<|g_v rfl r_move ?_
          refine g_if rfl rfl rfl rfl rfl (fun h17=>?_) (fun h17=>?_)
          ·
           replace hm:=ite_f hm (of_decide_eq_false h17)
           refine g_v rfl (r_field (n:=5) Try.underlying29 rfl Try.sizeOf3 rfl rfl)<|g_do rfl rfl rfl rfl rfl h17<|g_v rfl (r_load (tag:=100010) rfl rfl rfl Try.isAgg3)<|g_do rfl rfl rfl rfl rfl h17<|g_v rfl (r_field (n:=3) Try.underlying29 rfl Try.sizeOf3 rfl rfl)<|g_do rfl rfl rfl rfl rfl h17<|g_v rfl (r_load (tag:=100010) rfl rfl rfl Try.isAgg3)<|g_do rfl rfl rfl rfl rfl h17<|g_v rfl (r_gtr rfl rfl)<|g_v rfl (r_pick0 rfl h17) ?_
           refine g_v rfl r_move ?_
           refine g_if rfl rfl rfl rfl rfl (fun h18=>?_) (fun h18=>?_)
           ·
            replace hm:=ite_f hm (of_decide_eq_false h18)
            refine g_v rfl (r_field (n:=8) Try.underlying29 rfl Try.sizeOf26 rfl rfl)<|g_do rfl rfl rfl rfl rfl h18<|g_v rfl (r_load (tag:=100010) rfl rfl rfl Try.isAgg26)<|g_do rfl rfl rfl rfl rfl h18<|g_v rfl (r_lenL Try.underlying26 rfl)<|g_do rfl rfl rfl rfl rfl h18<|g_v rfl (r_gtr rfl rfl)<|g_v rfl (r_pick0 rfl h18)<|g_v rfl r_move ?_
            refine g_if rfl rfl rfl rfl rfl (fun h19=>?_) (fun h19=>?_)
            ·
             replace hm:=ite_f hm (of_decide_eq_false h19)
             refine g_v rfl (r_field (n:=4) Try.underlying29 rfl Try.sizeOf3 rfl rfl)<|g_do rfl rfl rfl rfl rfl h19<|g_v rfl (r_load (tag:=100010) rfl rfl rfl Try.isAgg3)<|g_do rfl rfl rfl rfl rfl h19<|g_v rfl (r_field (n:=8) Try.underlying29 rfl Try.sizeOf26 rfl rfl)<|g_do rfl rfl rfl rfl rfl h19<|g_v rfl (r_load (tag:=100010) rfl rfl rfl Try.isAgg26)<|g_do rfl rfl rfl rfl rfl h19<|g_v rfl (r_lenL Try.underlying26 rfl)<|g_do rfl rfl rfl rfl rfl h19 ?_
             refine g_v rfl (r_sub rfl rfl rfl)<|g_do rfl rfl rfl rfl rfl h19<|g_v rfl (r_gtr rfl rfl)<|g_v rfl (r_pick0 rfl h19)<|g_v rfl r_move ?_
             refine g_if rfl rfl rfl rfl rfl (fun h20=>?_) (fun h20=>?_)
             ·
              replace hm:=ite_f hm (of_decide_eq_false h20)
              refine g_v rfl (r_field (n:=10) Try.underlying29 rfl Try.sizeOf9 rfl rfl)<|g_do rfl rfl rfl rfl rfl h20<|g_v rfl (r_load (tag:=100010) rfl rfl rfl Try.isAgg9)<|g_do rfl rfl rfl rfl rfl h20<|g_v rfl (r_len Try.underlying9 rfl)<|g_do rfl rfl rfl rfl rfl h20<|g_v rfl (r_gtr rfl rfl)<|g_v rfl (r_pick0 rfl h20)<|g_v rfl r_assign<|g_nil ?_
              refine d_then ?_
              refine c_flat [(1,Vp g1),(62,.bool (decide (50000 < (p0.fSnap.size : Int))))] ⟨rfl,rfl,trivial⟩ (fun u=>?_)
              refine c_cut (ι:=Unit) [1] (fun _=>[]) (fun _=>⟨w0,M,(100010,g1,.cells #[Vi p0.fKind,Vi p0.fFrom,Vi p0.fTo,Vi p0.fTerm,Vi p0.fIndex,Vi p0.fLogTerm,Vi p0.fCommit,.bool p0.fGood,.slice Ap0_0 p0.fEntries.length cp0_0,.slice Ap0_1 p0.fVoters.length cp0_1,Vs p0.fSnap] 29 (0,0))::H,R,φ⟩) (fun _=>m_raft_Check_j1 p0 = some r) ?_ (fun _ u hm=>?_)
              ·
               refine c_cond rfl (fun h117=>?_) (fun h117=>?_)
               ·
                replace hm:=ite_t hm (of_decide_eq_true h117)
                refine c_seq<|c_region<|g_v rfl r_assign<|g_nil<|d_then<|c_ret<|d_ret_then<|d_ret_block<|d_ret_then ?_
                cases hm
                exact d_retC () Try.results77 (res_tmp (res_nil rfl)) trivial (fun W h=>ok_pre (H1:=[_]) (R1:=[]) h (fun W hφ=>hφ)) (.inr rfl)
               replace hm:=ite_f hm (of_decide_eq_false h117)
               refine c_seq<|c_region<|g_v rfl (r_field (n:=4) Try.underlying29 rfl Try.sizeOf3 rfl rfl)<|g_v rfl (r_load (tag:=100010) rfl rfl rfl Try.isAgg3)<|g_v rfl (r_field (n:=5) Try.underlying29 rfl Try.sizeOf3 rfl rfl)<|g_v rfl (r_load (tag:=100010) rfl rfl rfl Try.isAgg3)<|g_v rfl (r_field (n:=8) Try.underlying29 rfl Try.sizeOf26 rfl rfl)<|g_v rfl (r_load (tag:=100010) rfl rfl rfl Try.isAgg26)<|g_v rfl (r_build _ rfl (bld103_10 _ _ _ _ _)) ?_
               replace hm:=bnd hm
               obtain ⟨x118,hx119,hm⟩:=hm
               refine g_cn ⟨w0,M,_,_,φ⟩ (fun _ h=>h) Try.call94 rfl rfl (c_plog_Check (⟨p0.fIndex,p0.fLogTerm,p0.fEntries⟩ : GLog) Ap0_0 cp0_0 hcp0_0 (fun W hS=>fp0_0 W (ok_pre (H1:=[_]) (R1:=[]) hS (fun W h=>h))) _ hx119) (fun _ _=>?_)
               refine g_v rfl (r_neq rfl rfl)<|g_v rfl r_assign<|g_nil<|d_then ?_
               refine c_flat [(1,Vp g1),(94,.bool (decide (x118 ≠ 0)))] ⟨rfl,rfl,trivial⟩ (fun u=>?_)
               refine c_cond rfl (fun h120=>?_) (fun h120=>?_)
               ·
                replace hm:=ite_t hm (of_decide_eq_true h120)
                refine c_seq<|c_region<|g_v rfl r_assign<|g_nil<|d_then<|c_ret<|d_ret_then<|d_ret_block<|d_ret_then ?_
                cases hm
                exact d_retC () Try.results77 (res_tmp (res_nil rfl)) trivial (fun W h=>ok_pre (H1:=[_]) (R1:=[]) h (fun W hφ=>hφ)) (.inr rfl)
               replace hm:=ite_f hm (of_decide_eq_false h120)
               refine c_seq<|ga_start (n:=19) ⟨w0,M,(100010,g1,.cells #[Vi p0.fKind,Vi p0.fFrom,Vi p0.fTo,Vi p0.fTerm,Vi p0.fIndex,Vi p0.fLogTerm,Vi p0.fCommit,.bool p0.fGood,.slice Ap0_0 p0.fEntries.length cp0_0,.slice Ap0_1 p0.fVoters.length cp0_1,Vs p0.fSnap] 29 (0,0))::H,R,φ⟩ [] #[false,false,false,false,false,false,false,false,false,false,false,false,false,false,false,false,false,false,false] (fun W h=>h.phi (fun W hφ=>hφ)) mixed rfl rfl<|ga_r (i:=0) (bz 19 1) rfl (by kernel_rfl) (by decide) rfl (r_field (n:=8) Try.underlying29 rfl Try.sizeOf26 rfl rfl)<|ga_r (i:=1) (bz 19 3) rfl (by kernel_rfl) (by decide) rfl (r_load (tag:=100010) rfl rfl rfl Try.isAgg26)<|ga_r (i:=2) (bz 19 7) rfl (by kernel_rfl) (by decide) rfl (r_lenL Try.underlying26 rfl)<|ga_r (i:=3) (bz 19 15) rfl (by kernel_rfl) (by decide) rfl (r_gtr rfl rfl)<|ga_r (i:=4) (bz 19 31) rfl (by kernel_rfl) (by decide) rfl (r_move) ?_
               refine ga_if (t:=109) rfl (fun h133=>?_) (fun h133=>?_)
               ·
                replace hm:=ite_t hm (of_decide_eq_true h133)
                refine ga_do (i:=5) (bz 19 63) rfl (by kernel_rfl) (fun _ _ _ _ h=>h) rfl rfl rfl rfl rfl h133 (r_field (n:=8) Try.underlying29 rfl Try.sizeOf26 rfl rfl)<|ga_do (i:=6) (bz 19 127) rfl (by kernel_rfl) (fun _ _ _ _ h=>h) rfl rfl rfl rfl rfl h133 (r_load (tag:=100010) rfl rfl rfl Try.isAgg26)<|ga_do (i:=7) (bz 19 255) rfl (by kernel_rfl) (fun _ _ _ _ h=>h) rfl rfl rfl rfl rfl h133 (r_field (n:=8) Try.underlying29 rfl Try.sizeOf26 rfl rfl)<|ga_do (i:=8) (bz 19 511) rfl (by kernel_rfl) (fun _ _ _ _ h=>h) rfl rfl rfl rfl rfl h133 (r_load (tag:=100010) rfl rfl rfl Try.isAgg26)<|ga_do (i:=9) (bz 19 1023) rfl (by kernel_rfl) (fun _ _ _ _ h=>h) rfl rfl rfl rfl rfl h133 (r_lenL Try.underlying26 rfl)<|ga_do (i:=10) (bz 19 2047) rfl (by kernel_rfl) (fun _ _ _ _ h=>h) rfl rfl rfl rfl rfl h133 (r_sub rfl rfl rfl) ?_
                replace hm:=bnd hm
                obtain ⟨x134,hx134,hm⟩:=hm
                refine ga_know _ (fun W hS=>cl_at (p:=(Sta.mk w0 M H R φ).ok) (sz:=3) (fun _=>rfl) (by decide) (ok_pre (H1:=[_]) (R1:=[]) hS (fun W h=>h)) fp0_0 hx134) ?_
                rintro ⟨ad135,hA137,f136⟩
                refine ga_do (i:=11) (bz 19 4095) rfl (by kernel_rfl) (fun _ _ _ _ h=>h) rfl rfl rfl rfl rfl h133 (r_ix Try.underlying26 Try.sizeOf56 rfl hA137 rfl hx134) ?_
                have f138:=fun (W : World) (h : (Sta.mk w0 M H R φ).ok W)=>Cl.drop (f136 W h) 0
                refine ga_do (i:=12) (bz 19 8191) rfl (by kernel_rfl) (fun _ _ _ _ h=>h) rfl rfl rfl rfl rfl h133 (r_fieldF Try.underlying56 rfl Try.sizeOf3 rfl)<|ga_do (i:=13) (bz 19 16383) rfl (by kernel_rfl) (fun _ _ _ _ h=>h) rfl rfl rfl rfl rfl h133 (r_ld rfl Try.isAgg3 (fun W hS=>Cl.head (f138 W (ok_pre (H1:=[_]) (R1:=[]) hS (fun W h=>h)))))<|ga_rG (i:=14) (bz 19 32767) rfl (by kernel_rfl) (by decide) rfl rfl rfl rfl rfl h133 (r_field (n:=3) Try.underlying29 rfl Try.sizeOf3 rfl rfl)<|ga_rG (i:=15) (bz 19 65535) rfl (by kernel_rfl) (by decide) rfl rfl rfl rfl rfl h133 (r_load (tag:=100010) rfl rfl rfl Try.isAgg3)<|ga_rG (i:=16) (bz 19 131071) rfl (by kernel_rfl) (by decide) rfl rfl rfl rfl rfl h133 (r_gtr rfl rfl)<|ga_r (i:=17) (bz 19 262143) rfl (by kernel_rfl) (by decide) rfl (r_pick1 rfl h133)<|ga_r (i:=18) (bz 19 524287) rfl (by kernel_rfl) (by decide) rfl (r_assign)<|ga_done (by kernel_rfl)<|d_then ?_
                refine c_flat [(1,Vp g1),(104,.bool (decide (p0.fTerm < x134.fTerm)))] ⟨rfl,rfl,trivial⟩ (fun u=>?_)
                refine c_cond rfl (fun h139=>?_) (fun h139=>?_)
                ·
                 replace hm:=ite_t hm (of_decide_eq_true h139)
                 refine c_seq<|c_region<|g_v rfl r_assign<|g_nil<|d_then<|c_ret<|d_ret_then<|d_ret_block<|d_ret_then ?_
                 cases hm
                 exact d_retC () Try.results77 (res_tmp (res_nil rfl)) trivial (fun W h=>ok_pre (H1:=[_]) (R1:=[]) h (fun W hφ=>hφ)) (.inr rfl)
                replace hm:=ite_f hm (of_decide_eq_false h139)
                refine c_seq<|c_region<|g_v rfl (r_field (n:=9) Try.underlying29 rfl Try.sizeOf27 rfl rfl)<|g_v rfl (r_load (tag:=100010) rfl rfl rfl Try.isAgg27)<|g_v rfl (r_lenL Try.underlying27 rfl)<|g_v rfl (r_eql rfl rfl)<|g_v rfl r_move ?_
                refine g_if rfl rfl rfl rfl rfl (fun h140=>?_) (fun h140=>?_)
                ·
                 replace hm:=ite_t hm (of_decide_eq_true h140)
                 refine g_v rfl (r_field (n:=0) Try.underlying29 rfl Try.sizeOf3 rfl rfl)<|g_do rfl rfl rfl rfl rfl h140<|g_v rfl (r_load (tag:=100010) rfl rfl rfl Try.isAgg3)<|g_do rfl rfl rfl rfl rfl h140<|g_v rfl (r_neq rfl rfl)<|g_v rfl (r_pick1 rfl h140)<|g_v rfl r_assign<|g_nil<|d_then ?_
                 refine c_flat [(1,Vp g1),(123,.bool (decide (p0.fKind ≠ 4)))] ⟨rfl,rfl,trivial⟩ (fun u=>?_)
                 refine c_cond rfl (fun h141=>?_) (fun h141=>?_)
                 ·
                  replace hm:=ite_t hm (of_decide_eq_true h141)
                  refine c_seq<|c_region<|g_v rfl r_assign<|g_nil<|d_then<|c_ret<|d_ret_then<|d_ret_block<|d_ret_then ?_
                  cases hm
                  exact d_retC () Try.results77 (res_tmp (res_nil rfl)) trivial (fun W h=>ok_pre (H1:=[_]) (R1:=[]) h (fun W hφ=>hφ)) (.inr rfl)
                 replace hm:=ite_f hm (of_decide_eq_false h141)
                 refine c_skip ?_
                 exact d_round () hm Nat.zero_lt_one ⟨rfl,trivial⟩ (fun W h=>h.phi (fun W hφ=>hφ))
                replace hm:=ite_f hm (of_decide_eq_false h140)
                refine g_no rfl rfl rfl rfl rfl h140<|g_no rfl rfl rfl rfl rfl h140<|g_v rfl (r_pick0 rfl h140)<|g_v rfl r_assign<|g_nil<|d_then<|c_cond0 rfl rfl<|c_skip ?_
                exact d_round () hm Nat.zero_lt_one ⟨rfl,trivial⟩ (fun W h=>h.phi (fun W hφ=>hφ))
               replace hm:=ite_f hm (of_decide_eq_false h133)
               refine ga_no (i:=5) (bz 19 63) rfl (by kernel_rfl) (fun _ _ _ _ h=>h) rfl rfl rfl rfl rfl h133<|ga_no (i:=6) (bz 19 127) rfl (by kernel_rfl) (fun _ _ _ _ h=>h) rfl rfl rfl rfl rfl h133<|ga_no (i:=7) (bz 19 255) rfl (by kernel_rfl) (fun _ _ _ _ h=>h) rfl rfl rfl rfl rfl h133<|ga_no (i:=8) (bz 19 511) rfl (by kernel_rfl) (fun _ _ _ _ h=>h) rfl rfl rfl rfl rfl h133<|ga_no (i:=9) (bz 19 1023) rfl (by kernel_rfl) (fun _ _ _ _ h=>h) rfl rfl rfl rfl rfl h133<|ga_no (i:=10) (bz 19 2047) rfl (by kernel_rfl) (fun _ _ _ _ h=>h) rfl rfl rfl rfl rfl h133<|ga_no (i:=11) (bz 19 4095) rfl (by kernel_rfl) (fun _ _ _ _ h=>h) rfl rfl rfl rfl rfl h133<|ga_no (i:=12) (bz 19 8191) rfl (by kernel_rfl) (fun _ _ _ _ h=>h) rfl rfl rfl rfl rfl h133<|ga_no (i:=13) (bz 19 16383) rfl (by kernel_rfl) (fun _ _ _ _ h=>h) rfl rfl rfl rfl rfl h133<|ga_no (i:=14) (bz 19 32767) rfl (by kernel_rfl) (fun _ _ _ _ h=>h) rfl rfl rfl rfl rfl h133 ?_
               refine ga_no (i:=15) (bz 19 65535) rfl (by kernel_rfl) (fun _ _ _ _ h=>h) rfl rfl rfl rfl rfl h133<|ga_no (i:=16) (bz 19 131071) rfl (by kernel_rfl) (fun _ _ _ _ h=>h) rfl rfl rfl rfl rfl h133<|ga_r (i:=17) (bz 19 262143) rfl (by kernel_rfl) (by decide) rfl (r_pick0 rfl h133)<|ga_r (i:=18) (bz 19 524287) rfl (by kernel_rfl) (by decide) rfl (r_assign)<|ga_done (by kernel_rfl)<|d_then<|c_cond0 rfl rfl<|c_seq<|c_region<|g_v rfl (r_field (n:=9) Try.underlying29 rfl Try.sizeOf27 rfl rfl) ?_
               refine g_v rfl (r_load (tag:=100010) rfl rfl rfl Try.isAgg27)<|g_v rfl (r_lenL Try.underlying27 rfl)<|g_v rfl (r_eql rfl rfl)<|g_v rfl r_move ?_
               refine g_if rfl rfl rfl rfl rfl (fun h142=>?_) (fun h142=>?_)
               ·
                replace hm:=ite_t hm (of_decide_eq_true h142)
                refine g_v rfl (r_field (n:=0) Try.underlying29 rfl Try.sizeOf3 rfl rfl)<|g_do rfl rfl rfl rfl rfl h142<|g_v rfl (r_load (tag:=100010) rfl rfl rfl Try.isAgg3)<|g_do rfl rfl rfl rfl rfl h142<|g_v rfl (r_neq rfl rfl)<|g_v rfl (r_pick1 rfl h142)<|g_v rfl r_assign<|g_nil<|d_then ?_
                refine c_flat [(1,Vp g1),(123,.bool (decide (p0.fKind ≠ 4)))] ⟨rfl,rfl,trivial⟩ (fun u=>?_)
                refine c_cond rfl (fun h143=>?_) (fun h143=>?_)
                ·
                 replace hm:=ite_t hm (of_decide_eq_true h143)
                 refine c_seq<|c_region<|g_v rfl r_assign<|g_nil<|d_then<|c_ret<|d_ret_then<|d_ret_block<|d_ret_then ?_
                 cases hm
                 exact d_retC () Try.results77 (res_tmp (res_nil rfl)) trivial (fun W h=>ok_pre (H1:=[_]) (R1:=[]) h (fun W hφ=>hφ)) (.inr rfl)
                replace hm:=ite_f hm (of_decide_eq_false h143)
                refine c_skip ?_
                exact d_round () hm Nat.zero_lt_one ⟨rfl,trivial⟩ (fun W h=>h.phi (fun W hφ=>hφ))
               replace hm:=ite_f hm (of_decide_eq_false h142)
               refine g_no rfl rfl rfl rfl rfl h142<|g_no rfl rfl rfl rfl rfl h142<|g_v rfl (r_pick0 rfl h142)<|g_v rfl r_assign<|g_nil<|d_then ?_
               refine c_flat [(1,Vp g1),(123,.bool false)] ⟨rfl,rfl,trivial⟩ (fun u=>?_)
               refine c_cond0 rfl rfl<|c_skip ?_
               exact d_round () hm Nat.zero_lt_one ⟨rfl,trivial⟩ (fun W h=>h.phi (fun W hφ=>hφ))
              unfold m_raft_Check_j1 at hm
              refine d_flat [(1,Vp g1)] ⟨rfl,trivial⟩ (fun u=>?_)
              refine d_normal_block<|d_then<|c_seq<|c_seq<|c_region<|g_v rfl (r_field (n:=9) Try.underlying29 rfl Try.sizeOf27 rfl rfl)<|g_v rfl (r_load (tag:=100010) rfl rfl rfl Try.isAgg27)<|g_v rfl (r_lenL Try.underlying27 rfl)<|g_v rfl r_move<|g_nil ?_
              refine d_then ?_
              refine c_cut (ι:=Unit) [1] (fun _=>[]) (fun _=>⟨w0,M,(100010,g1,.cells #[Vi p0.fKind,Vi p0.fFrom,Vi p0.fTo,Vi p0.fTerm,Vi p0.fIndex,Vi p0.fLogTerm,Vi p0.fCommit,.bool p0.fGood,.slice Ap0_0 p0.fEntries.length cp0_0,.slice Ap0_1 p0.fVoters.length cp0_1,Vs p0.fSnap] 29 (0,0))::H,R,φ⟩) (fun _=>m_raft_Check_j2 p0 = some r) ?_ (fun _ u hm=>?_)
              ·
               refine c_block ?_
               replace hm:=bnd hm
               obtain ⟨out3,hl3,hr3⟩:=hm
               obtain ⟨n100',hl3⟩:=loop_lp hl3
               refine c_loopU (ι:=Nat×Int) [1,134,135,136] (fun ⟨n100,i84⟩=>[(136,Vi i84)]) (fun ⟨n100,i84⟩=>⟨w0,M,(100010,g1,.cells #[Vi p0.fKind,Vi p0.fFrom,Vi p0.fTo,Vi p0.fTerm,Vi p0.fIndex,Vi p0.fLogTerm,Vi p0.fCommit,.bool p0.fGood,.slice Ap0_0 p0.fEntries.length cp0_0,.slice Ap0_1 p0.fVoters.length cp0_1,Vs p0.fSnap] 29 (0,0))::H,R,φ⟩) (fun ⟨n100,i84⟩=>Lp (fun s=>m_raft_Check_s3 p0 s) n100 i84 out3) (fun ⟨n100,i84⟩=>n100) (n100',0) hl3 ⟨rfl,rfl,rfl,rfl,trivial⟩ (fun W h=>h.phi (fun W hφ=>hφ)) (fun ⟨n100,i84⟩ u hlp=>?_)
               obtain ⟨o3,hm,hnx3⟩:=lp_step hlp
               clear hlp
               replace hm : m_raft_Check_s3 p0 i84 = some o3:=hm
               unfold m_raft_Check_s3 at hm
               refine c_flat [(1,Vp g1),(134,.slice Ap0_1 p0.fVoters.length cp0_1),(135,Vi (p0.fVoters.length : Int)),(136,Vi i84)] ⟨rfl,rfl,rfl,rfl,trivial⟩ (fun u=>?_)
               refine c_seq<|c_region<|g_v rfl (r_lss rfl rfl)<|g_nil<|d_then<|c_seq ?_
               refine c_cond rfl (fun h101=>?_) (fun h101=>?_)
               ·
                replace hm:=ite_t hm (of_decide_eq_true h101)
                refine c_skip<|d_then<|c_seq<|c_block<|c_seq<|c_region<|g_v rfl r_move ?_
                replace hm:=bnd hm
                obtain ⟨x102,hx102,hm⟩:=hm
                refine g_know _ (fun W hS=>cl_at (p:=(Sta.mk w0 M H R φ).ok) (sz:=1) (fun _=>rfl) (by decide) (ok_pre (H1:=[_]) (R1:=[]) hS (fun W h=>h)) fp0_1 hx102) ?_
                rintro ⟨ad103,hA105,f104⟩
                refine g_v rfl (r_ix Try.underlying27 Try.sizeOf3 rfl hA105 rfl hx102)<|g_v rfl (r_ld rfl Try.isAgg3 (fun W hS=>Cl.head (f104 W (ok_pre (H1:=[_]) (R1:=[]) hS (fun W h=>h)))))<|g_v rfl r_assign<|g_v rfl r_assign<|g_nil<|d_then<|c_seq<|c_region<|g_v rfl r_move ?_
                replace hm:=bnd hm
                obtain ⟨x106,hx107,hm⟩:=hm
                refine g_cn ⟨w0,M,_,_,φ⟩ (fun _ h=>h) Try.call93 rfl rfl (c_raft_node x102 _ hx107) (fun _ _=>?_)
                refine g_v rfl (r_not rfl)<|g_v rfl r_move ?_
                refine g_if rfl rfl rfl rfl rfl (fun h108=>?_) (fun h108=>?_)
                ·
                 have h108' : x106 = true:=by revert h108; cases x106 <;> simp
                 replace hm:=ite_t hm h108'
                 refine g_v rfl r_move<|g_do rfl rfl rfl rfl rfl h108<|g_v rfl (r_gtr rfl rfl)<|g_do rfl rfl rfl rfl rfl h108<|g_v rfl r_move ?_
                 refine g_if rfl rfl rfl rfl rfl (fun h109=>?_) (fun h109=>?_)
                 ·
                  replace hm:=ite_t hm (of_decide_eq_true h109)
                  refine g_v rfl r_move<|g_do rfl rfl rfl rfl rfl h109<|g_v rfl (r_field (n:=9) Try.underlying29 rfl Try.sizeOf27 rfl rfl)<|g_do rfl rfl rfl rfl rfl h109<|g_v rfl (r_load (tag:=100010) rfl rfl rfl Try.isAgg27)<|g_do rfl rfl rfl rfl rfl h109<|g_v rfl r_move<|g_do rfl rfl rfl rfl rfl h109<|g_v rfl (r_sub rfl rfl rfl)<|g_do rfl rfl rfl rfl rfl h109 ?_
                  replace hm:=bnd hm
                  obtain ⟨x110,hx110,hm⟩:=hm
                  refine g_know _ (fun W hS=>cl_at (p:=(Sta.mk w0 M H R φ).ok) (sz:=1) (fun _=>rfl) (by decide) (ok_pre (H1:=[_]) (R1:=[]) hS (fun W h=>h)) fp0_1 hx110) ?_
                  rintro ⟨ad111,hA113,f112⟩
                  refine g_v rfl (r_ix Try.underlying27 Try.sizeOf3 rfl hA113 rfl hx110)<|g_do rfl rfl rfl rfl rfl h109<|g_v rfl (r_ld rfl Try.isAgg3 (fun W hS=>Cl.head (f112 W (ok_pre (H1:=[_]) (R1:=[]) hS (fun W h=>h)))))<|g_do rfl rfl rfl rfl rfl h109<|g_v rfl (r_leq rfl rfl)<|g_do rfl rfl rfl rfl rfl h108<|g_v rfl (r_pick1 rfl h109)<|g_v rfl (r_pick0 rfl h108)<|g_nil<|d_then ?_
                  refine c_flat [(1,Vp g1),(134,.slice Ap0_1 p0.fVoters.length cp0_1),(135,Vi (p0.fVoters.length : Int)),(136,Vi i84),(157,.bool (decide (x102 ≤ x110)))] ⟨rfl,rfl,rfl,rfl,rfl,trivial⟩ (fun u=>?_)
                  refine c_cond rfl (fun h114=>?_) (fun h114=>?_)
                  ·
                   replace hm:=ite_t hm (of_decide_eq_true h114)
                   refine c_seq<|c_region<|g_v rfl r_assign<|g_nil<|d_then<|c_ret<|d_ret_block<|d_ret_then<|d_ret_then<|d_ret_block ?_
                   refine d_ret_then<|d_ret_then ?_
                   replace hm:=nx_out (C:=(fun e : Unit ⊕ Int=>Sum.elim (fun e=>m_raft_Check_j2 p0) (fun x=>some x) e = some r)) hm hnx3 hr3
                   replace hm : some 1 = some r:=hm
                   cases hm
                   exact d_retC () Try.results77 (res_tmp (res_nil rfl)) trivial (fun W h=>ok_pre (H1:=[_]) (R1:=[]) h (fun W hφ=>hφ)) (.inr rfl)
                  replace hm:=ite_f hm (of_decide_eq_false h114)
                  refine c_skip<|d_normal_block<|d_then<|c_region<|g_v rfl (r_add rfl rfl rfl)<|g_v rfl r_move<|g_nil ?_
                  obtain ⟨n115,hn115,hlp⟩:=nx_inl hm hnx3
                  exact d_round (n115,w64 (i84 + 1)) hlp hn115 ⟨rfl,rfl,rfl,rfl,trivial⟩ (fun W h=>h.phi (fun W hφ=>hφ))
                 replace hm:=ite_f hm (of_decide_eq_false h109)
                 iterate 7 refine g_no rfl rfl rfl rfl rfl h109 ?_
                 refine g_do rfl rfl rfl rfl rfl h108<|g_v rfl (r_pick0 rfl h109)<|g_v rfl (r_pick0 rfl h108)<|g_nil<|d_then ?_
                 refine c_flat [(1,Vp g1),(134,.slice Ap0_1 p0.fVoters.length cp0_1),(135,Vi (p0.fVoters.length : Int)),(136,Vi i84),(157,.bool false)] ⟨rfl,rfl,rfl,rfl,rfl,trivial⟩ (fun u=>?_)
                 refine c_cond0 rfl rfl<|c_skip<|d_normal_block<|d_then<|c_region<|g_v rfl (r_add rfl rfl rfl)<|g_v rfl r_move<|g_nil ?_
                 obtain ⟨n116,hn116,hlp⟩:=nx_inl hm hnx3
                 exact d_round (n116,w64 (i84 + 1)) hlp hn116 ⟨rfl,rfl,rfl,rfl,trivial⟩ (fun W h=>h.phi (fun W hφ=>hφ))
                have h108' : x106 = false:=by revert h108; cases x106 <;> simp
                replace hm:=ite_f hm (bool_nt h108')
                refine g_no rfl rfl rfl rfl rfl h108<|g_no rfl rfl rfl rfl rfl h108 ?_
                iterate 8 refine g_nu rfl rfl rfl rfl rfl ?_
                refine g_no rfl rfl rfl rfl rfl h108<|g_v rfl (r_pick1 rfl h108)<|g_nil<|d_then ?_
                refine c_flat [(1,Vp g1),(134,.slice Ap0_1 p0.fVoters.length cp0_1),(135,Vi (p0.fVoters.length : Int)),(136,Vi i84),(157,.bool true)] ⟨rfl,rfl,rfl,rfl,rfl,trivial⟩ (fun u=>?_)
                refine c_cond1 rfl rfl<|c_seq<|c_region<|g_v rfl r_assign<|g_nil<|d_then<|c_ret<|d_ret_block<|d_ret_then<|d_ret_then ?_
                refine d_ret_block<|d_ret_then<|d_ret_then ?_
                replace hm:=nx_out (C:=(fun e : Unit ⊕ Int=>Sum.elim (fun e=>m_raft_Check_j2 p0) (fun x=>some x) e = some r)) hm hnx3 hr3
                replace hm : some 1 = some r:=hm
                cases hm
                exact d_retC () Try.results77 (res_tmp (res_nil rfl)) trivial (fun W h=>ok_pre (H1:=[_]) (R1:=[]) h (fun W hφ=>hφ)) (.inr rfl)
               replace hm:=ite_f hm (of_decide_eq_false h101)
               refine c_exit<|d_exit_then<|d_exit_then<|d_exit_block ?_
               replace hm:=nx_out (C:=(fun e : Unit ⊕ Int=>Sum.elim (fun e=>m_raft_Check_j2 p0) (fun x=>some x) e = some r)) hm hnx3 hr3
               exact d_round () hm Nat.zero_lt_one ⟨rfl,trivial⟩ (fun W h=>h.phi (fun W hφ=>hφ))
              unfold m_raft_Check_j2 at hm
              refine d_flat [(1,Vp g1)] ⟨rfl,trivial⟩ (fun u=>?_)
              refine d_then<|c_seq<|c_seq<|c_region<|g_v rfl (r_field (n:=9) Try.underlying29 rfl Try.sizeOf27 rfl rfl)<|g_v rfl (r_load (tag:=100010) rfl rfl rfl Try.isAgg27)<|g_v rfl (r_lenL Try.underlying27 rfl)<|g_v rfl (r_eql rfl rfl)<|g_nil<|d_then ?_
              refine c_cond rfl (fun h74=>?_) (fun h74=>?_)
              ·
               replace hm:=ite_t hm (of_decide_eq_true h74)
               refine c_seq<|c_region<|g_v rfl r_assign<|g_nil<|d_then<|c_ret<|d_ret_then ?_
               cases hm
               exact d_retC () Try.results77 (res_tmp (res_nil rfl)) trivial (fun W h=>ok_pre (H1:=[_]) (R1:=[]) h (fun W hφ=>hφ)) (.inr rfl)
              replace hm:=ite_f hm (of_decide_eq_false h74)
              refine c_skip<|d_then<|c_seq<|c_region<|g_v rfl r_assign<|g_nil<|d_then<|c_ret ?_
              cases hm
              exact d_retC () Try.results77 (res_tmp (res_nil rfl)) trivial (fun W h=>ok_pre (H1:=[_]) (R1:=[]) h (fun W hφ=>hφ)) (.inr rfl)
             replace hm:=ite_t hm (of_decide_eq_true h20)
             iterate 3 refine g_no rfl rfl rfl rfl rfl h20 ?_
             refine g_v rfl (r_pick1 rfl h20)<|g_v rfl r_assign<|g_nil<|d_then ?_
             refine c_flat [(1,Vp g1),(62,.bool true)] ⟨rfl,rfl,trivial⟩ (fun u=>?_)
             refine c_cond1 rfl rfl<|c_seq<|c_region<|g_v rfl r_assign<|g_nil<|d_then<|c_ret<|d_ret_block<|d_ret_then ?_
             cases hm
             exact d_retC () Try.results77 (res_tmp (res_nil rfl)) trivial (fun W h=>ok_pre (H1:=[_]) (R1:=[]) h (fun W hφ=>hφ)) (.inr rfl)
            replace hm:=ite_t hm (of_decide_eq_true h19)
            iterate 6 refine g_no rfl rfl rfl rfl rfl h19 ?_
            refine g_v rfl (r_pick1 rfl h19)<|g_v rfl r_move ?_
            iterate 4 refine g_no rfl rfl rfl rfl rfl rfl ?_
            refine g_v rfl (r_pick1 rfl rfl)<|g_v rfl r_assign<|g_nil<|d_then ?_
            refine c_flat [(1,Vp g1),(62,.bool true)] ⟨rfl,rfl,trivial⟩ (fun u=>?_)
            refine c_cond1 rfl rfl<|c_seq<|c_region<|g_v rfl r_assign<|g_nil<|d_then<|c_ret<|d_ret_block<|d_ret_then ?_
            cases hm
            exact d_retC () Try.results77 (res_tmp (res_nil rfl)) trivial (fun W h=>ok_pre (H1:=[_]) (R1:=[]) h (fun W hφ=>hφ)) (.inr rfl)
           replace hm:=ite_t hm (of_decide_eq_true h18)
           iterate 3 refine g_no rfl rfl rfl rfl rfl h18 ?_
           refine g_v rfl (r_pick1 rfl h18)<|g_v rfl r_move ?_
           iterate 7 refine g_no rfl rfl rfl rfl rfl rfl ?_
           refine g_v rfl (r_pick1 rfl rfl)<|g_v rfl r_move ?_
           iterate 4 refine g_no rfl rfl rfl rfl rfl rfl ?_
           refine g_v rfl (r_pick1 rfl rfl)<|g_v rfl r_assign<|g_nil<|d_then ?_
           refine c_flat [(1,Vp g1),(62,.bool true)] ⟨rfl,rfl,trivial⟩ (fun u=>?_)
           refine c_cond1 rfl rfl<|c_seq<|c_region<|g_v rfl r_assign<|g_nil<|d_then<|c_ret<|d_ret_block<|d_ret_then ?_
           cases hm
           exact d_retC () Try.results77 (res_tmp (res_nil rfl)) trivial (fun W h=>ok_pre (H1:=[_]) (R1:=[]) h (fun W hφ=>hφ)) (.inr rfl)
          replace hm:=ite_t hm (of_decide_eq_true h17)
          iterate 4 refine g_no rfl rfl rfl rfl rfl h17 ?_
          refine g_v rfl (r_pick1 rfl h17)<|g_v rfl r_move ?_
          iterate 4 refine g_no rfl rfl rfl rfl rfl rfl ?_
          refine g_v rfl (r_pick1 rfl rfl)<|g_v rfl r_move ?_
          iterate 7 refine g_no rfl rfl rfl rfl rfl rfl ?_
          refine g_v rfl (r_pick1 rfl rfl)<|g_v rfl r_move ?_
          iterate 4 refine g_no rfl rfl rfl rfl rfl rfl ?_
          refine g_v rfl (r_pick1 rfl rfl)<|g_v rfl r_assign<|g_nil<|d_then ?_
          refine c_flat [(1,Vp g1),(62,.bool true)] ⟨rfl,rfl,trivial⟩ (fun u=>?_)
          refine c_cond1 rfl rfl<|c_seq<|c_region<|g_v rfl r_assign<|g_nil<|d_then<|c_ret<|d_ret_block<|d_ret_then ?_
          cases hm
          exact d_retC () Try.results77 (res_tmp (res_nil rfl)) trivial (fun W h=>ok_pre (H1:=[_]) (R1:=[]) h (fun W hφ=>hφ)) (.inr rfl)
         replace hm:=ite_t hm (of_decide_eq_true h15)
         refine g_no rfl rfl rfl rfl rfl h15<|g_no rfl rfl rfl rfl rfl h15<|g_v rfl (r_pick1 rfl h15)<|g_v rfl r_assign<|g_nil<|d_then ?_
         refine c_flat [(1,Vp g1),(33,.bool true)] ⟨rfl,rfl,trivial⟩ (fun u=>?_)
         refine c_cond1 rfl rfl<|c_seq<|c_region<|g_v rfl r_assign<|g_nil<|d_then<|c_ret<|d_ret_block<|d_ret_then ?_
         cases hm
         exact d_retC () Try.results77 (res_tmp (res_nil rfl)) trivial (fun W h=>ok_pre (H1:=[_]) (R1:=[]) h (fun W hφ=>hφ)) (.inr rfl)
        replace hm:=ite_t hm (of_decide_eq_true h14)
        refine g_no rfl rfl rfl rfl rfl h14<|g_no rfl rfl rfl rfl rfl h14<|g_v rfl (r_pick1 rfl h14)<|g_v rfl r_move ?_
        iterate 3 refine g_no rfl rfl rfl rfl rfl rfl ?_
        refine g_v rfl (r_pick1 rfl rfl)<|g_v rfl r_assign<|g_nil<|d_then ?_
        refine c_flat [(1,Vp g1),(33,.bool true)] ⟨rfl,rfl,trivial⟩ (fun u=>?_)
        refine c_cond1 rfl rfl<|c_seq<|c_region<|g_v rfl r_assign<|g_nil<|d_then<|c_ret<|d_ret_block<|d_ret_then ?_
        cases hm
        exact d_retC () Try.results77 (res_tmp (res_nil rfl)) trivial (fun W h=>ok_pre (H1:=[_]) (R1:=[]) h (fun W hφ=>hφ)) (.inr rfl)
       replace hm:=ite_t hm (of_decide_eq_true h13)
       refine g_no rfl rfl rfl rfl rfl h13<|g_no rfl rfl rfl rfl rfl h13<|g_v rfl (r_pick1 rfl h13)<|g_v rfl r_move ?_
       iterate 3 refine g_no rfl rfl rfl rfl rfl rfl ?_
       refine g_v rfl (r_pick1 rfl rfl)<|g_v rfl r_move ?_
       iterate 3 refine g_no rfl rfl rfl rfl rfl rfl ?_
       refine g_v rfl (r_pick1 rfl rfl)<|g_v rfl r_assign<|g_nil<|d_then ?_
       refine c_flat [(1,Vp g1),(33,.bool true)] ⟨rfl,rfl,trivial⟩ (fun u=>?_)
       refine c_cond1 rfl rfl<|c_seq<|c_region<|g_v rfl r_assign<|g_nil<|d_then<|c_ret<|d_ret_block<|d_ret_then ?_
       cases hm
       exact d_retC () Try.results77 (res_tmp (res_nil rfl)) trivial (fun W h=>ok_pre (H1:=[_]) (R1:=[]) h (fun W hφ=>hφ)) (.inr rfl)
      replace hm:=ite_t hm (of_decide_eq_true h12)
      refine g_no rfl rfl rfl rfl rfl h12<|g_no rfl rfl rfl rfl rfl h12<|g_v rfl (r_pick1 rfl h12)<|g_v rfl r_move ?_
      iterate 3 refine g_no rfl rfl rfl rfl rfl rfl ?_
      refine g_v rfl (r_pick1 rfl rfl)<|g_v rfl r_move ?_
      iterate 3 refine g_no rfl rfl rfl rfl rfl rfl ?_
      refine g_v rfl (r_pick1 rfl rfl)<|g_v rfl r_move ?_
      iterate 3 refine g_no rfl rfl rfl rfl rfl rfl ?_
      refine g_v rfl (r_pick1 rfl rfl)<|g_v rfl r_assign<|g_nil<|d_then ?_
      refine c_flat [(1,Vp g1),(33,.bool true)] ⟨rfl,rfl,trivial⟩ (fun u=>?_)
      refine c_cond1 rfl rfl<|c_seq<|c_region<|g_v rfl r_assign<|g_nil<|d_then<|c_ret<|d_ret_block<|d_ret_then ?_
      cases hm
      exact d_retC () Try.results77 (res_tmp (res_nil rfl)) trivial (fun W h=>ok_pre (H1:=[_]) (R1:=[]) h (fun W hφ=>hφ)) (.inr rfl)
     replace hm:=ite_t hm (of_decide_eq_true h11)
     refine g_no rfl rfl rfl rfl rfl h11<|g_no rfl rfl rfl rfl rfl h11<|g_v rfl (r_pick1 rfl h11)<|g_v rfl r_move ?_
     iterate 3 refine g_no rfl rfl rfl rfl rfl rfl ?_
     refine g_v rfl (r_pick1 rfl rfl)<|g_v rfl r_move ?_
     iterate 3 refine g_no rfl rfl rfl rfl rfl rfl ?_
     refine g_v rfl (r_pick1 rfl rfl)<|g_v rfl r_move ?_
     iterate 3 refine g_no rfl rfl rfl rfl rfl rfl ?_
     refine g_v rfl (r_pick1 rfl rfl)<|g_v rfl r_move ?_
     iterate 3 refine g_no rfl rfl rfl rfl rfl rfl ?_
     refine g_v rfl (r_pick1 rfl rfl)<|g_v rfl r_assign<|g_nil<|d_then ?_
     refine c_flat [(1,Vp g1),(33,.bool true)] ⟨rfl,rfl,trivial⟩ (fun u=>?_)
     refine c_cond1 rfl rfl<|c_seq<|c_region<|g_v rfl r_assign<|g_nil<|d_then<|c_ret<|d_ret_block<|d_ret_then ?_
     cases hm
     exact d_retC () Try.results77 (res_tmp (res_nil rfl)) trivial (fun W h=>ok_pre (H1:=[_]) (R1:=[]) h (fun W hφ=>hφ)) (.inr rfl)
    have h9' : x7 = false:=by revert h9; cases x7 <;> simp
    replace hm:=ite_f hm (bool_nt h9')
    iterate 4 refine g_no rfl rfl rfl rfl rfl h9 ?_
    refine g_v rfl (r_pick1 rfl h9)<|g_v rfl r_assign<|g_nil<|d_then ?_
    refine c_flat [(1,Vp g1),(5,.bool true)] ⟨rfl,rfl,trivial⟩ (fun u=>?_)
    refine c_cond1 rfl rfl<|c_seq<|c_region<|g_v rfl r_assign<|g_nil<|d_then<|c_ret<|d_ret_block<|d_ret_then ?_
    cases hm
    exact d_retC () Try.results77 (res_tmp (res_nil rfl)) trivial (fun W h=>ok_pre (H1:=[_]) (R1:=[]) h (fun W hφ=>hφ)) (.inr rfl)
   have h6' : x4 = false:=by revert h6; cases x4 <;> simp
   replace hm:=ite_f hm (bool_nt h6')
   iterate 3 refine g_no rfl rfl rfl rfl rfl h6 ?_
   refine g_v rfl (r_pick1 rfl h6)<|g_v rfl r_move ?_
   iterate 5 refine g_no rfl rfl rfl rfl rfl rfl ?_
   refine g_v rfl (r_pick1 rfl rfl)<|g_v rfl r_assign<|g_nil<|d_then ?_
   refine c_flat [(1,Vp g1),(5,.bool true)] ⟨rfl,rfl,trivial⟩ (fun u=>?_)
   refine c_cond1 rfl rfl<|c_seq<|c_region<|g_v rfl r_assign<|g_nil<|d_then<|c_ret<|d_ret_block<|d_ret_then ?_
   cases hm
   exact d_retC () Try.results77 (res_tmp (res_nil rfl)) trivial (fun W h=>ok_pre (H1:=[_]) (R1:=[]) h (fun W hφ=>hφ)) (.inr rfl)
  replace hm:=ite_t hm (of_decide_eq_true h3)
  iterate 3 refine g_no rfl rfl rfl rfl rfl h3 ?_
  refine g_v rfl (r_pick1 rfl h3)<|g_v rfl r_move ?_
  iterate 4 refine g_no rfl rfl rfl rfl rfl rfl ?_
  refine g_v rfl (r_pick1 rfl rfl)<|g_v rfl r_move ?_
  iterate 5 refine g_no rfl rfl rfl rfl rfl rfl ?_
  refine g_v rfl (r_pick1 rfl rfl)<|g_v rfl r_assign<|g_nil<|d_then ?_
  refine c_flat [(1,Vp g1),(5,.bool true)] ⟨rfl,rfl,trivial⟩ (fun u=>?_)
  refine c_cond1 rfl rfl<|c_seq<|c_region<|g_v rfl r_assign<|g_nil<|d_then<|c_ret<|d_ret_block<|d_ret_then ?_
  cases hm
  exact d_retC () Try.results77 (res_tmp (res_nil rfl)) trivial (fun W h=>ok_pre (H1:=[_]) (R1:=[]) h (fun W hφ=>hφ)) (.inr rfl)
 replace hm:=ite_t hm (of_decide_eq_true h2)
 refine g_no rfl rfl rfl rfl rfl h2<|g_no rfl rfl rfl rfl rfl h2<|g_v rfl (r_pick1 rfl h2)<|g_v rfl r_move ?_
 iterate 4 refine g_no rfl rfl rfl rfl rfl rfl ?_
 refine g_v rfl (r_pick1 rfl rfl)<|g_v rfl r_move ?_
 iterate 4 refine g_no rfl rfl rfl rfl rfl rfl ?_
 refine g_v rfl (r_pick1 rfl rfl)<|g_v rfl r_move ?_
 iterate 5 refine g_no rfl rfl rfl rfl rfl rfl ?_
 refine g_v rfl (r_pick1 rfl rfl)<|g_v rfl r_assign<|g_nil<|d_then ?_
 refine c_flat [(1,Vp g1),(5,.bool true)] ⟨rfl,rfl,trivial⟩ (fun u=>?_)
 refine c_cond1 rfl rfl<|c_seq<|c_region<|g_v rfl r_assign<|g_nil<|d_then<|c_ret<|d_ret_block<|d_ret_then ?_
 cases hm
 exact d_retC () Try.results77 (res_tmp (res_nil rfl)) trivial (fun W h=>ok_pre (H1:=[_]) (R1:=[]) h (fun W hφ=>hφ)) (.inr rfl)
end Go.Proofs.Ytbaobjcaeaofaaa
