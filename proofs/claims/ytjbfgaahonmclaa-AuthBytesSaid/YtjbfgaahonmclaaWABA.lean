import Derived.Test.YtjbfgaahonmclaaQL
import Derived.Test.YtjbfgaahonmclaaSV
import Derived.Test.YtjbfgaahonmclaaSL
import Derived.Test.YtjbfgaahonmclaaSH
import Derived.Test.YtjbfgaahonmclaaSE
import Derived.Test.YtjbfgaahonmclaaRG
set_option maxRecDepth 100000
set_option maxHeartbeats 4000000
set_option linter.unusedVariables false
set_option linter.unusedSimpArgs false
namespace Go.Proofs.Ytjbfgaahonmclaa
open Go.RowKit Go.Proofs.YtjbfgaahonmclaaW.PrintLast
structure GRR where
  fName : ByteArray
  fType : Int
  fClass : Int
  fTTL : Int
  fData : ByteArray
  deriving DecidableEq
def GRR.enc (e : GRR) : List Value:=[.string e.fName,.int .u16 e.fType,.int .u16 e.fClass,.int .u32 e.fTTL,.string e.fData]
structure GZone where
  fApex : ByteArray
  fRecords : List GRR
  deriving DecidableEq
structure GZoneP where
  pA0 : Option Addr
  pC0 : Nat
def GZone.encP (z : GZone×GZoneP) : List Value:=[.string z.1.fApex,.slice z.2.pA0 z.1.fRecords.length z.2.pC0]
abbrev GZone.capP (z : GZone×GZoneP) : Prop:=z.1.fRecords.length ≤ z.2.pC0
abbrev GZone.ownP (W : World) (z : GZone×GZoneP) : Prop:=Cl W z.2.pA0 (z.1.fRecords.flatMap GRR.enc)
structure GQuestion where
  fName : ByteArray
  fType : Int
  fClass : Int
  deriving DecidableEq
def GQuestion.enc (e : GQuestion) : List Value:=[.string e.fName,.int .u16 e.fType,.int .u16 e.fClass]
structure GMessage where
  fID : Int
  fResponse : Bool
  fAuthoritative : Bool
  fTruncated : Bool
  fDesired : Bool
  fAvailable : Bool
  fOpcode : Int
  fCode : Int
  fQuestions : List GQuestion
  fAnswers : List GRR
  fAuthorities : List GRR
  fExtras : List GRR
  deriving DecidableEq
theorem inf5_0  : (Try.prog.info? 5).map (fun i=>(i.zero,i.size,i.bytes)) = some (some (.int .u8 0),1,1):=by kernel_rfl
theorem bld42_1 (z0 : ByteArray) (z1 : Int) (z2 : Int) (z3 : Int) (z4 : ByteArray) : ∀ W,(Instr.build 42 #[(0,.string z0),(1,.int .u16 z1),(2,.int .u16 z2),(3,.int .u32 z3),(4,.string z4)]).run Try.prog W = .ok (.agg #[.string z0,.int .u16 z1,.int .u16 z2,.int .u32 z3,.string z4]) W:=fun _=>by kernel_rfl
theorem lit42_2 (z0 : ByteArray) (z1 : Int) (z2 : Int) (z3 : Int) (z4 : ByteArray) (z5 : ByteArray) (z6 : Int) (z7 : Int) (z8 : Int) (z9 : ByteArray) (z10 : ByteArray) (z11 : Int) (z12 : Int) (z13 : Int) (z14 : ByteArray) (z15 : ByteArray) (z16 : Int) (z17 : Int) (z18 : Int) (z19 : ByteArray) (z20 : ByteArray) (z21 : Int) (z22 : Int) (z23 : Int) (z24 : ByteArray) : Try.prog.builtSlice 42 5 [(0,.agg #[.string z0,.int .u16 z1,.int .u16 z2,.int .u32 z3,.string z4]),(1,.agg #[.string z5,.int .u16 z6,.int .u16 z7,.int .u32 z8,.string z9]),(2,.agg #[.string z10,.int .u16 z11,.int .u16 z12,.int .u32 z13,.string z14]),(3,.agg #[.string z15,.int .u16 z16,.int .u16 z17,.int .u32 z18,.string z19]),(4,.agg #[.string z20,.int .u16 z21,.int .u16 z22,.int .u32 z23,.string z24])] = some #[.string z0,.int .u16 z1,.int .u16 z2,.int .u32 z3,.string z4,.string z5,.int .u16 z6,.int .u16 z7,.int .u32 z8,.string z9,.string z10,.int .u16 z11,.int .u16 z12,.int .u32 z13,.string z14,.string z15,.int .u16 z16,.int .u16 z17,.int .u32 z18,.string z19,.string z20,.int .u16 z21,.int .u16 z22,.int .u32 z23,.string z24]:=by kernel_rfl
theorem bld33_3 (z0 : ByteArray) (zA1 : Option Addr) (zn1 : Nat) (zc1 : Nat) : ∀ W,(Instr.build 33 #[(0,.string z0),(1,.slice zA1 zn1 zc1)]).run Try.prog W = .ok (.agg #[.string z0,.slice zA1 zn1 zc1]) W:=fun _=>by kernel_rfl
noncomputable def m_law18_example  : Option GZone:=
  (sadd (⟨#[1,97,0]⟩ : ByteArray) (⟨#[1,97,0]⟩ : ByteArray)).bind fun s2=>
  (mkL 1 20 0).bind fun l3=>
  (sadd s2 (strOfNums l3)).bind fun s5=>
  (sadd (⟨#[2,110,115]⟩ : ByteArray) (⟨#[1,97,0]⟩ : ByteArray)).bind fun s6=>
  (sadd (⟨#[3,119,119,119]⟩ : ByteArray) (⟨#[1,97,0]⟩ : ByteArray)).bind fun s7=>
  (sadd (⟨#[1,98]⟩ : ByteArray) (⟨#[1,97,0]⟩ : ByteArray)).bind fun s8=>
  (sadd (⟨#[2,110,115,1,98]⟩ : ByteArray) (⟨#[1,97,0]⟩ : ByteArray)).bind fun s9=>
  (sadd (⟨#[2,110,115,1,98]⟩ : ByteArray) (⟨#[1,97,0]⟩ : ByteArray)).bind fun s10=>
  some (⟨(⟨#[1,97,0]⟩ : ByteArray),[(⟨(⟨#[1,97,0]⟩ : ByteArray),6,1,60,s5⟩ : GRR),(⟨(⟨#[1,97,0]⟩ : ByteArray),2,1,60,s6⟩ : GRR),(⟨s7,1,1,60,(⟨#[1,2,3,4]⟩ : ByteArray)⟩ : GRR),(⟨s8,2,1,60,s9⟩ : GRR),(⟨s10,1,1,60,(⟨#[5,6,7,8]⟩ : ByteArray)⟩ : GRR)]⟩ : GZone)
theorem c_law18_example {w0 : World} {M : Nat→Prop} {H : List (Nat×Nat×Obj)} {R : List (Nat×Row)} {φ : World→Prop}  (r : GZone) (hm : m_law18_example = some r) :
    Cn Try.prog 10 #[] ⟨w0,M,H,R,φ⟩ (fun x : Option Addr×Nat=>.agg #[.string r.fApex,.slice x.1 r.fRecords.length x.2]) (fun x=>r.fRecords.length ≤ x.2) (fun x=>⟨w0,M,H,R,fun W=>φ W∧Cl W x.1 (r.fRecords.flatMap GRR.enc)⟩):=by
 unfold m_law18_example at hm
 refine cn_intro (fn:=Try.f10) (N:=28) Try.func10 rfl Try.ntmps10 rfl<|c_seq<|c_region ?_
 refine g_e rfl (e_alloc 100000 Try.zeroValue33) (fun g1 _=>?_)
 refine g_nil<|d_then<|c_seq<|c_region<|g_v rfl r_assign<|g_nil<|d_then<|c_seq<|c_region ?_
 iterate 4 refine g_v rfl r_move ?_
 replace hm:=bnd hm
 obtain ⟨s2,hs2,hm⟩:=hm
 refine g_v rfl (r_addT rfl rfl hs2) ?_
 replace hm:=bnd hm
 obtain ⟨l3,hl3,hm⟩:=hm
 refine g_e rfl (e_make (tag:=11) (enc:=(fun x : Int=>[Value.int .u8 x])) Try.underlying66 inf5_0 rfl rfl rfl rfl hl3) (fun g4 _=>?_)
 refine g_v rfl (r_textE Try.underlying66 Try.underlying5 Try.underlying9 rfl (fun W hS=>rowCl (tag:=11) rfl W hS)) ?_
 replace hm:=bnd hm
 obtain ⟨s5,hs5,hm⟩:=hm
 refine g_v rfl (r_addT rfl rfl hs5)<|g_v rfl (r_build _ rfl (bld42_1 _ _ _ _ _))<|g_v rfl r_move<|g_v rfl r_move ?_
 replace hm:=bnd hm
 obtain ⟨s6,hs6,hm⟩:=hm
 refine g_v rfl (r_addT rfl rfl hs6)<|g_v rfl (r_build _ rfl (bld42_1 _ _ _ _ _))<|g_v rfl r_move ?_
 replace hm:=bnd hm
 obtain ⟨s7,hs7,hm⟩:=hm
 refine g_v rfl (r_addT rfl rfl hs7)<|g_v rfl (r_build _ rfl (bld42_1 _ _ _ _ _))<|g_v rfl r_move ?_
 replace hm:=bnd hm
 obtain ⟨s8,hs8,hm⟩:=hm
 refine g_v rfl (r_addT rfl rfl hs8)<|g_v rfl r_move ?_
 replace hm:=bnd hm
 obtain ⟨s9,hs9,hm⟩:=hm
 refine g_v rfl (r_addT rfl rfl hs9)<|g_v rfl (r_build _ rfl (bld42_1 _ _ _ _ _))<|g_v rfl r_move ?_
 replace hm:=bnd hm
 obtain ⟨s10,hs10,hm⟩:=hm
 refine g_v rfl (r_addT rfl rfl hs10)<|g_v rfl (r_build _ rfl (bld42_1 _ _ _ _ _)) ?_
 refine g_e rfl (e_lit (tag:=100260) (l:=[(⟨(⟨#[1,97,0]⟩ : ByteArray),6,1,60,s5⟩ : GRR),(⟨(⟨#[1,97,0]⟩ : ByteArray),2,1,60,s6⟩ : GRR),(⟨s7,1,1,60,(⟨#[1,2,3,4]⟩ : ByteArray)⟩ : GRR),(⟨s8,2,1,60,s9⟩ : GRR),(⟨s10,1,1,60,(⟨#[5,6,7,8]⟩ : ByteArray)⟩ : GRR)]) (enc:=GRR.enc) (sz:=5) rfl Try.underlying24 (lit42_2 _ _ _ _ _ _ _ _ _ _ _ _ _ _ _ _ _ _ _ _ _ _ _ _ _) rfl rfl (fun _=>rfl)) (fun g11 _=>?_)
 refine g_v rfl (r_build _ rfl (bld33_3 _ _ _ _))<|g_storeL (tag:=100000) rfl rfl rfl rfl Try.sizeOf33 rfl rfl<|g_nil<|d_then ?_
 refine c_flat [(0,.pointer (some ⟨g1,0,none⟩))] ⟨rfl,trivial⟩ (fun u=>?_)
 refine c_sta ⟨w0,M,(100000,g1,.cells #[.string (⟨#[1,97,0]⟩ : ByteArray),.slice (some ⟨g11,0,none⟩) ([(⟨(⟨#[1,97,0]⟩ : ByteArray),6,1,60,s5⟩ : GRR),(⟨(⟨#[1,97,0]⟩ : ByteArray),2,1,60,s6⟩ : GRR),(⟨s7,1,1,60,(⟨#[1,2,3,4]⟩ : ByteArray)⟩ : GRR),(⟨s8,2,1,60,s9⟩ : GRR),(⟨s10,1,1,60,(⟨#[5,6,7,8]⟩ : ByteArray)⟩ : GRR)]).length 5] 33 (0,0))::H,(100260,⟨.slice (some ⟨g11,0,none⟩) ([(⟨(⟨#[1,97,0]⟩ : ByteArray),6,1,60,s5⟩ : GRR),(⟨(⟨#[1,97,0]⟩ : ByteArray),2,1,60,s6⟩ : GRR),(⟨s7,1,1,60,(⟨#[1,2,3,4]⟩ : ByteArray)⟩ : GRR),(⟨s8,2,1,60,s9⟩ : GRR),(⟨s10,1,1,60,(⟨#[5,6,7,8]⟩ : ByteArray)⟩ : GRR)]).length 5,42,5,([(⟨(⟨#[1,97,0]⟩ : ByteArray),6,1,60,s5⟩ : GRR),(⟨(⟨#[1,97,0]⟩ : ByteArray),2,1,60,s6⟩ : GRR),(⟨s7,1,1,60,(⟨#[1,2,3,4]⟩ : ByteArray)⟩ : GRR),(⟨s8,2,1,60,s9⟩ : GRR),(⟨s10,1,1,60,(⟨#[5,6,7,8]⟩ : ByteArray)⟩ : GRR)]).length,([(⟨(⟨#[1,97,0]⟩ : ByteArray),6,1,60,s5⟩ : GRR),(⟨(⟨#[1,97,0]⟩ : ByteArray),2,1,60,s6⟩ : GRR),(⟨s7,1,1,60,(⟨#[1,2,3,4]⟩ : ByteArray)⟩ : GRR),(⟨s8,2,1,60,s9⟩ : GRR),(⟨s10,1,1,60,(⟨#[5,6,7,8]⟩ : ByteArray)⟩ : GRR)]).flatMap GRR.enc⟩)::(11,⟨.slice (some ⟨g4,0,none⟩) l3.length l3.length,5,1,l3.length,l3.flatMap (fun x : Int=>[Value.int .u8 x])⟩)::R,φ⟩ (fun _ h=>h)<|c_ret ?_
 cases hm
 refine d_shut (tag:=100260) rfl (fun φ12 q12'=>?_)
 have q12 : ∀ W,φ12 W→φ W:=fun W h=>(q12' W h).1
 have f13:=fun (W : World) (h : φ12 W)=>(q12' W h).2
 exact d_retC (some ⟨g11,0,none⟩,5) Try.results10 (res_agg (tag:=100000) rfl rfl Try.isAgg33 Try.sizeOf33 (res_nil rfl)) (Nat.le_refl _) (fun W h=>ok_pre (H1:=[_]) (R1:=[_]) h (fun W hφ=>⟨(q12 _ hφ),(fun W h=>f13 W h) W hφ⟩)) (.inr rfl)
theorem lit33_4 (z0 : ByteArray) (zAz1 : Option Addr) (znz1 : Nat) (zcz1 : Nat) : Try.prog.builtSlice 33 1 [(0,.agg #[.string z0,.slice zAz1 znz1 zcz1])] = some #[.string z0,.slice zAz1 znz1 zcz1]:=by kernel_rfl
theorem bld29_5 (z0 : ByteArray) (z1 : Int) (z2 : Int) : ∀ W,(Instr.build 29 #[(0,.string z0),(1,.int .u16 z1),(2,.int .u16 z2)]).run Try.prog W = .ok (.agg #[.string z0,.int .u16 z1,.int .u16 z2]) W:=fun _=>by kernel_rfl
theorem lit29_6 (z0 : ByteArray) (z1 : Int) (z2 : Int) : Try.prog.builtSlice 29 1 [(0,.agg #[.string z0,.int .u16 z1,.int .u16 z2])] = some #[.string z0,.int .u16 z1,.int .u16 z2]:=by kernel_rfl
theorem bld26_7 (z0 : Int) (zA1 : Option Addr) (zn1 : Nat) (zc1 : Nat) : ∀ W,(Instr.build 26 #[(0,.int .u16 z0),(8,.slice zA1 zn1 zc1)]).run Try.prog W = .ok (.agg #[.int .u16 z0,.bool false,.bool false,.bool false,.bool false,.bool false,.int .i64 0,.int .i64 0,.slice zA1 zn1 zc1,.slice none 0 0,.slice none 0 0,.slice none 0 0]) W:=fun _=>by kernel_rfl
noncomputable def m_message_Query (p0 : Int) (p1 : GQuestion) : Option GMessage:=
  some (⟨p0,false,false,false,false,false,0,0,[p1],([] : List GRR),([] : List GRR),([] : List GRR)⟩ : GMessage)
theorem c_message_Query {w0 : World} {M : Nat→Prop} {H : List (Nat×Nat×Obj)} {R : List (Nat×Row)} {φ : World→Prop} (p0 : Int) (p1 : GQuestion) (r : GMessage) (hm : m_message_Query p0 p1 = some r) :
    Cn Try.prog 13 #[.int .u16 p0,.agg #[.string p1.fName,.int .u16 p1.fType,.int .u16 p1.fClass]] ⟨w0,M,H,R,φ⟩ (fun x : Option Addr×Nat×Option Addr×Nat×Option Addr×Nat×Option Addr×Nat=>.agg #[.int .u16 r.fID,.bool r.fResponse,.bool r.fAuthoritative,.bool r.fTruncated,.bool r.fDesired,.bool r.fAvailable,.int .i64 r.fOpcode,.int .i64 r.fCode,.slice x.1 r.fQuestions.length x.2.1,.slice x.2.2.1 r.fAnswers.length x.2.2.2.1,.slice x.2.2.2.2.1 r.fAuthorities.length x.2.2.2.2.2.1,.slice x.2.2.2.2.2.2.1 r.fExtras.length x.2.2.2.2.2.2.2]) (fun x=>r.fQuestions.length ≤ x.2.1∧r.fAnswers.length ≤ x.2.2.2.1∧r.fAuthorities.length ≤ x.2.2.2.2.2.1∧r.fExtras.length ≤ x.2.2.2.2.2.2.2) (fun x=>⟨w0,M,H,R,fun W=>φ W∧Cl W x.1 (r.fQuestions.flatMap GQuestion.enc)∧Cl W x.2.2.1 (r.fAnswers.flatMap GRR.enc)∧Cl W x.2.2.2.2.1 (r.fAuthorities.flatMap GRR.enc)∧Cl W x.2.2.2.2.2.2.1 (r.fExtras.flatMap GRR.enc)⟩):=by
 unfold m_message_Query at hm
 refine cn_intro (fn:=Try.f13) (N:=9) Try.func13 rfl Try.ntmps13 rfl<|c_seq<|c_region ?_
 refine g_e rfl (e_box 100030 rfl) (fun g1 _=>?_)
 refine g_e rfl (e_alloc 100040 Try.zeroValue26) (fun g2 _=>?_)
 refine g_nil<|d_then<|c_seq<|c_region<|g_v rfl r_move<|g_v rfl (r_loadA (tag:=100030) rfl rfl Try.isAgg29 Try.sizeOf29 rfl rfl) ?_
 refine g_e rfl (e_lit (tag:=100070) (l:=[p1]) (enc:=GQuestion.enc) (sz:=3) rfl Try.underlying23 (lit29_6 _ _ _) rfl rfl (fun _=>rfl)) (fun g3 _=>?_)
 refine g_v rfl (r_build _ rfl (bld26_7 _ _ _ _))<|g_storeL (tag:=100040) rfl rfl rfl rfl Try.sizeOf26 rfl rfl<|g_nil<|d_then<|c_ret ?_
 cases hm
 refine d_shut (tag:=100070) rfl (fun φ4 q4'=>?_)
 have q4 : ∀ W,φ4 W→φ W:=fun W h=>(q4' W h).1
 have f5:=fun (W : World) (h : φ4 W)=>(q4' W h).2
 exact d_retC (some ⟨g3,0,none⟩,1,none,0,none,0,none,0) Try.results13 (res_agg (tag:=100040) rfl rfl Try.isAgg26 Try.sizeOf26 (res_nil rfl)) ⟨(Nat.le_refl _),(Nat.le_refl 0),(Nat.le_refl 0),(Nat.le_refl 0)⟩ (fun W h=>ok_pre (H1:=[_,_]) (R1:=[]) h (fun W hφ=>⟨(q4 _ hφ),(fun W h=>f5 W h) W hφ,(fun W _=>Cl.nil _ _) W hφ,(fun W _=>Cl.nil _ _) W hφ,(fun W _=>Cl.nil _ _) W hφ⟩)) (.inr rfl)
theorem inf29_8  : (Try.prog.info? 29).map (fun i=>(i.zero,i.size,i.bytes)) = some (some (.agg #[.string (⟨#[]⟩ : ByteArray),.int .u16 0,.int .u16 0]),3,24):=by kernel_rfl
theorem bld26_9 (z0 : Int) (z1 : Bool) (z2 : Int) (z3 : Bool) (z4 : Bool) (z5 : Int) (zA6 : Option Addr) (zn6 : Nat) (zc6 : Nat) : ∀ W,(Instr.build 26 #[(0,.int .u16 z0),(1,.bool z1),(6,.int .i64 z2),(4,.bool z3),(5,.bool z4),(7,.int .i64 z5),(8,.slice zA6 zn6 zc6)]).run Try.prog W = .ok (.agg #[.int .u16 z0,.bool z1,.bool false,.bool false,.bool z3,.bool z4,.int .i64 z2,.int .i64 z5,.slice zA6 zn6 zc6,.slice none 0 0,.slice none 0 0,.slice none 0 0]) W:=fun _=>by kernel_rfl
noncomputable def m_message_Reply (p0 : GMessage) (p1 : Int) : Option GMessage:=
  (app 24 ([] : List GQuestion) p0.fQuestions).bind fun l9=>
  some (⟨p0.fID,true,false,false,p0.fDesired,true,p0.fOpcode,p1,l9,([] : List GRR),([] : List GRR),([] : List GRR)⟩ : GMessage)
theorem c_message_Reply {w0 : World} {M : Nat→Prop} {H : List (Nat×Nat×Obj)} {R : List (Nat×Row)} {φ : World→Prop} (p0 : GMessage) (Ap0_0 : Option Addr) (cp0_0 : Nat) (hcp0_0 : p0.fQuestions.length ≤ cp0_0) (fp0_0 : ∀ W,(Sta.mk w0 M H R φ).ok W→Cl W Ap0_0 (p0.fQuestions.flatMap GQuestion.enc)) (Ap0_1 : Option Addr) (cp0_1 : Nat) (hcp0_1 : p0.fAnswers.length ≤ cp0_1) (fp0_1 : ∀ W,(Sta.mk w0 M H R φ).ok W→Cl W Ap0_1 (p0.fAnswers.flatMap GRR.enc)) (Ap0_2 : Option Addr) (cp0_2 : Nat) (hcp0_2 : p0.fAuthorities.length ≤ cp0_2) (fp0_2 : ∀ W,(Sta.mk w0 M H R φ).ok W→Cl W Ap0_2 (p0.fAuthorities.flatMap GRR.enc)) (Ap0_3 : Option Addr) (cp0_3 : Nat) (hcp0_3 : p0.fExtras.length ≤ cp0_3) (fp0_3 : ∀ W,(Sta.mk w0 M H R φ).ok W→Cl W Ap0_3 (p0.fExtras.flatMap GRR.enc)) (p1 : Int) (r : GMessage) (hm : m_message_Reply p0 p1 = some r) :
    Cn Try.prog 54 #[.agg #[.int .u16 p0.fID,.bool p0.fResponse,.bool p0.fAuthoritative,.bool p0.fTruncated,.bool p0.fDesired,.bool p0.fAvailable,.int .i64 p0.fOpcode,.int .i64 p0.fCode,.slice Ap0_0 p0.fQuestions.length cp0_0,.slice Ap0_1 p0.fAnswers.length cp0_1,.slice Ap0_2 p0.fAuthorities.length cp0_2,.slice Ap0_3 p0.fExtras.length cp0_3],.int .i64 p1] ⟨w0,M,H,R,φ⟩ (fun x : Option Addr×Nat×Option Addr×Nat×Option Addr×Nat×Option Addr×Nat=>.agg #[.int .u16 r.fID,.bool r.fResponse,.bool r.fAuthoritative,.bool r.fTruncated,.bool r.fDesired,.bool r.fAvailable,.int .i64 r.fOpcode,.int .i64 r.fCode,.slice x.1 r.fQuestions.length x.2.1,.slice x.2.2.1 r.fAnswers.length x.2.2.2.1,.slice x.2.2.2.2.1 r.fAuthorities.length x.2.2.2.2.2.1,.slice x.2.2.2.2.2.2.1 r.fExtras.length x.2.2.2.2.2.2.2]) (fun x=>r.fQuestions.length ≤ x.2.1∧r.fAnswers.length ≤ x.2.2.2.1∧r.fAuthorities.length ≤ x.2.2.2.2.2.1∧r.fExtras.length ≤ x.2.2.2.2.2.2.2) (fun x=>⟨w0,M,H,(2003,⟨.slice x.2.2.2.2.2.2.1 r.fExtras.length x.2.2.2.2.2.2.2,42,5,r.fExtras.length,r.fExtras.flatMap GRR.enc⟩)::R,fun W=>φ W∧Cl W x.1 (r.fQuestions.flatMap GQuestion.enc)∧Cl W x.2.2.1 (r.fAnswers.flatMap GRR.enc)∧Cl W x.2.2.2.2.1 (r.fAuthorities.flatMap GRR.enc)⟩):=by
 unfold m_message_Reply at hm
 refine cn_intro (fn:=Try.f54) (N:=16) Try.func54 rfl Try.ntmps54 rfl<|c_seq<|c_region ?_
 refine g_e rfl (e_box 100020 rfl) (fun g1 _=>?_)
 refine g_e rfl (e_alloc 100040 Try.zeroValue26) (fun g2 _=>?_)
 refine g_nil<|d_then<|c_seq<|ga_start (n:=12) ⟨w0,M,(100040,g2,.cells #[.int .u16 0,.bool false,.bool false,.bool false,.bool false,.bool false,.int .i64 0,.int .i64 0,.slice none 0 0,.slice none 0 0,.slice none 0 0,.slice none 0 0] 26 (0,0))::(100020,g1,.cells #[.int .u16 p0.fID,.bool p0.fResponse,.bool p0.fAuthoritative,.bool p0.fTruncated,.bool p0.fDesired,.bool p0.fAvailable,.int .i64 p0.fOpcode,.int .i64 p0.fCode,.slice Ap0_0 p0.fQuestions.length cp0_0,.slice Ap0_1 p0.fAnswers.length cp0_1,.slice Ap0_2 p0.fAuthorities.length cp0_2,.slice Ap0_3 p0.fExtras.length cp0_3] 26 (0,0))::H,R,φ⟩ [11] #[false,false,false,false,false,false,false,false,false,false,false,false] (fun W h=>h.phi (fun W hφ=>hφ)) mixed rfl rfl<|ga_v (i:=0) (bz 12 1) rfl (by kernel_rfl) (fun _ _ _ _ h=>h) rfl (r_field (n:=0) Try.underlying26 rfl Try.sizeOf22 rfl rfl)<|ga_v (i:=1) (bz 12 3) rfl (by kernel_rfl) (fun _ _ _ _ h=>h) rfl (r_load (tag:=100020) rfl rfl rfl Try.isAgg22)<|ga_v (i:=2) (bz 12 7) rfl (by kernel_rfl) (fun _ _ _ _ h=>h) rfl (r_field (n:=6) Try.underlying26 rfl Try.sizeOf3 rfl rfl)<|ga_v (i:=3) (bz 12 15) rfl (by kernel_rfl) (fun _ _ _ _ h=>h) rfl (r_load (tag:=100020) rfl rfl rfl Try.isAgg3)<|ga_v (i:=4) (bz 12 31) rfl (by kernel_rfl) (fun _ _ _ _ h=>h) rfl (r_field (n:=4) Try.underlying26 rfl Try.sizeOf4 rfl rfl)<|ga_v (i:=5) (bz 12 63) rfl (by kernel_rfl) (fun _ _ _ _ h=>h) rfl (r_load (tag:=100020) rfl rfl rfl Try.isAgg4) ?_
 refine ga_v (i:=6) (bz 12 127) rfl (by kernel_rfl) (fun _ _ _ _ h=>h) rfl (r_move)<|ga_r (i:=7) (bz 12 255) rfl (by kernel_rfl) (by decide) rfl (r_field (n:=8) Try.underlying26 rfl Try.sizeOf23 rfl rfl)<|ga_r (i:=8) (bz 12 511) rfl (by kernel_rfl) (by decide) rfl (r_load (tag:=100020) rfl rfl rfl Try.isAgg23)<|ga_sta _ (fun W h=>nilR h 13 29 3) ?_
 replace hm:=bnd hm
 obtain ⟨l9,hl9,hm⟩:=hm
 refine ga_e (i:=9) (bz 12 1023) rfl (by kernel_rfl) (by decide) rfl  (e_appR (enc:=GQuestion.enc) (l:=[]) (l1:=p0.fQuestions) (l2:=l9) (tag:=13) Try.underlying23 inf29_8 rfl (by decide) (by decide) (fun _=>rfl) (fun _=>rfl) rfl (Nat.le_refl 0) rfl rfl (fun W hS=>fp0_0 W (ok_pre (H1:=[_,_]) (R1:=[_]) hS (fun W h=>h))) hl9) (fun ⟨A10,c11⟩ W hc11 h=>(h.dropR (t:=13) rfl).phi (fun W hφ=>hφ)) (fun ⟨A10,c11⟩ hc11=>?_)
 refine ga_r (i:=10) (bz 12 2047) rfl (by kernel_rfl) (by decide) rfl (r_build _ rfl (bld26_9 _ _ _ _ _ _ _ _ _))<|ga_lastL (i:=11) (tag:=100040) (bz 12 4095) rfl (by kernel_rfl) (by decide) rfl rfl rfl rfl Try.sizeOf26 rfl rfl<|gz_done (by kernel_rfl)<|d_then ?_
 refine c_flat [(4,.pointer (some ⟨g2,0,none⟩))] ⟨rfl,trivial⟩ (fun u=>?_)
 refine c_sta ⟨w0,M,(100040,g2,.cells #[.int .u16 p0.fID,.bool true,.bool false,.bool false,.bool p0.fDesired,.bool true,.int .i64 p0.fOpcode,.int .i64 p1,.slice A10 l9.length c11,.slice none 0 0,.slice none 0 0,.slice none 0 0] 26 (0,0))::(100020,g1,.cells #[.int .u16 p0.fID,.bool p0.fResponse,.bool p0.fAuthoritative,.bool p0.fTruncated,.bool p0.fDesired,.bool p0.fAvailable,.int .i64 p0.fOpcode,.int .i64 p0.fCode,.slice Ap0_0 p0.fQuestions.length cp0_0,.slice Ap0_1 p0.fAnswers.length cp0_1,.slice Ap0_2 p0.fAuthorities.length cp0_2,.slice Ap0_3 p0.fExtras.length cp0_3] 26 (0,0))::H,(13,⟨.slice A10 l9.length c11,29,3,l9.length,l9.flatMap GQuestion.enc⟩)::R,φ⟩ (fun _ h=>h)<|c_ret ?_
 cases hm
 refine d_sta _ (fun W h=>nilR h 14 42 5) ?_
 refine d_shut (tag:=13) rfl (fun φ12 q12'=>?_)
 have q12 : ∀ W,φ12 W→φ W:=fun W h=>(q12' W h).1
 have f13:=fun (W : World) (h : φ12 W)=>(q12' W h).2
 refine d_sta _ (fun W h=>ok_frontR (t:=14) (t':=2003) h rfl) ?_
 exact d_retC (A10,c11,none,0,none,0,none,0) Try.results54 (res_agg (tag:=100040) rfl rfl Try.isAgg26 Try.sizeOf26 (res_nil rfl)) ⟨hc11,(Nat.le_refl 0),(Nat.le_refl 0),(Nat.le_refl 0)⟩ (fun W h=>((h.dropH (t:=100040) rfl).dropH (t:=100020) rfl).phi (fun W hφ=>⟨(q12 _ hφ),(fun W h=>f13 W h) W hφ,(fun W _=>Cl.nil _ _) W hφ,(fun W _=>Cl.nil _ _) W hφ⟩)) (.inr rfl)
noncomputable def m_auth_reply (p0 : GMessage) (p1 : Int) : Option GMessage:=
  (m_message_Reply p0 p1).bind fun x3=>
  some (⟨x3.fID,x3.fResponse,x3.fAuthoritative,x3.fTruncated,x3.fDesired,false,x3.fOpcode,x3.fCode,x3.fQuestions,x3.fAnswers,x3.fAuthorities,x3.fExtras⟩ : GMessage)
theorem c_auth_reply {w0 : World} {M : Nat→Prop} {H : List (Nat×Nat×Obj)} {R : List (Nat×Row)} {φ : World→Prop} (p0 : GMessage) (Ap0_0 : Option Addr) (cp0_0 : Nat) (hcp0_0 : p0.fQuestions.length ≤ cp0_0) (fp0_0 : ∀ W,(Sta.mk w0 M H R φ).ok W→Cl W Ap0_0 (p0.fQuestions.flatMap GQuestion.enc)) (Ap0_1 : Option Addr) (cp0_1 : Nat) (hcp0_1 : p0.fAnswers.length ≤ cp0_1) (fp0_1 : ∀ W,(Sta.mk w0 M H R φ).ok W→Cl W Ap0_1 (p0.fAnswers.flatMap GRR.enc)) (Ap0_2 : Option Addr) (cp0_2 : Nat) (hcp0_2 : p0.fAuthorities.length ≤ cp0_2) (fp0_2 : ∀ W,(Sta.mk w0 M H R φ).ok W→Cl W Ap0_2 (p0.fAuthorities.flatMap GRR.enc)) (Ap0_3 : Option Addr) (cp0_3 : Nat) (hcp0_3 : p0.fExtras.length ≤ cp0_3) (fp0_3 : ∀ W,(Sta.mk w0 M H R φ).ok W→Cl W Ap0_3 (p0.fExtras.flatMap GRR.enc)) (p1 : Int) (r : GMessage) (hm : m_auth_reply p0 p1 = some r) :
    Cn Try.prog 25 #[.agg #[.int .u16 p0.fID,.bool p0.fResponse,.bool p0.fAuthoritative,.bool p0.fTruncated,.bool p0.fDesired,.bool p0.fAvailable,.int .i64 p0.fOpcode,.int .i64 p0.fCode,.slice Ap0_0 p0.fQuestions.length cp0_0,.slice Ap0_1 p0.fAnswers.length cp0_1,.slice Ap0_2 p0.fAuthorities.length cp0_2,.slice Ap0_3 p0.fExtras.length cp0_3],.int .i64 p1] ⟨w0,M,H,R,φ⟩ (fun x : Option Addr×Nat×Option Addr×Nat×Option Addr×Nat×Option Addr×Nat=>.agg #[.int .u16 r.fID,.bool r.fResponse,.bool r.fAuthoritative,.bool r.fTruncated,.bool r.fDesired,.bool r.fAvailable,.int .i64 r.fOpcode,.int .i64 r.fCode,.slice x.1 r.fQuestions.length x.2.1,.slice x.2.2.1 r.fAnswers.length x.2.2.2.1,.slice x.2.2.2.2.1 r.fAuthorities.length x.2.2.2.2.2.1,.slice x.2.2.2.2.2.2.1 r.fExtras.length x.2.2.2.2.2.2.2]) (fun x=>r.fQuestions.length ≤ x.2.1∧r.fAnswers.length ≤ x.2.2.2.1∧r.fAuthorities.length ≤ x.2.2.2.2.2.1∧r.fExtras.length ≤ x.2.2.2.2.2.2.2) (fun x=>⟨w0,M,H,(2003,⟨.slice x.2.2.2.2.2.2.1 r.fExtras.length x.2.2.2.2.2.2.2,42,5,r.fExtras.length,r.fExtras.flatMap GRR.enc⟩)::R,fun W=>φ W∧Cl W x.1 (r.fQuestions.flatMap GQuestion.enc)∧Cl W x.2.2.1 (r.fAnswers.flatMap GRR.enc)∧Cl W x.2.2.2.2.1 (r.fAuthorities.flatMap GRR.enc)⟩):=by
 unfold m_auth_reply at hm
 refine cn_intro (fn:=Try.f25) (N:=11) Try.func25 rfl Try.ntmps25 rfl<|c_seq<|c_region ?_
 refine g_e rfl (e_box 100020 rfl) (fun g1 _=>?_)
 refine g_e rfl (e_alloc 100040 Try.zeroValue26) (fun g2 _=>?_)
 refine g_nil<|d_then<|c_seq<|c_region<|g_v rfl (r_loadA (tag:=100020) rfl rfl Try.isAgg26 Try.sizeOf26 rfl rfl)<|g_v rfl r_move ?_
 replace hm:=bnd hm
 obtain ⟨x3,hx4,hm⟩:=hm
 refine g_cn ⟨w0,M,_,_,φ⟩ (fun _ h=>h) Try.call54 rfl rfl (c_message_Reply p0 Ap0_0 cp0_0 hcp0_0 (fun W hS=>fp0_0 W (ok_pre (H1:=[_,_]) (R1:=[]) hS (fun W h=>h))) Ap0_1 cp0_1 hcp0_1 (fun W hS=>fp0_1 W (ok_pre (H1:=[_,_]) (R1:=[]) hS (fun W h=>h))) Ap0_2 cp0_2 hcp0_2 (fun W hS=>fp0_2 W (ok_pre (H1:=[_,_]) (R1:=[]) hS (fun W h=>h))) Ap0_3 cp0_3 hcp0_3 (fun W hS=>fp0_3 W (ok_pre (H1:=[_,_]) (R1:=[]) hS (fun W h=>h))) p1 _ hx4) (fun ⟨A5,c6,A8,c9,A11,c12,A14,c15⟩ ⟨hc6,hc9,hc12,hc15⟩=>?_)
 refine g_sta _ (fun W h=>(ok_frontR (t:=2003) (t':=100083) h rfl)) ?_
 refine g_abs (fun φ17 q17'=>?_)
 have q17 : ∀ W,φ17 W→φ W:=fun W h=>(q17' W h).1
 have f7:=fun (W : World) (h : φ17 W)=>(q17' W h).2.1
 have f10:=fun (W : World) (h : φ17 W)=>(q17' W h).2.2.1
 have f13:=fun (W : World) (h : φ17 W)=>(q17' W h).2.2.2
 refine g_e rfl (e_alloc 100050 Try.zeroValue26) (fun g18 _=>?_)
 refine g_storeL (tag:=100050) rfl rfl rfl rfl Try.sizeOf26 rfl rfl<|g_nil<|d_then<|c_seq<|c_region<|g_v rfl (r_field (n:=5) Try.underlying26 rfl Try.sizeOf4 rfl rfl)<|g_storeL (tag:=100050) rfl rfl rfl rfl Try.sizeOf4 rfl rfl<|g_nil<|d_then ?_
 refine c_flat [(4,.pointer (some ⟨g2,0,none⟩)),(5,.pointer (some ⟨g18,0,none⟩))] ⟨rfl,rfl,trivial⟩ (fun u=>?_)
 refine c_sta ⟨w0,M,(100050,g18,.cells #[.int .u16 x3.fID,.bool x3.fResponse,.bool x3.fAuthoritative,.bool x3.fTruncated,.bool x3.fDesired,.bool false,.int .i64 x3.fOpcode,.int .i64 x3.fCode,.slice A5 x3.fQuestions.length c6,.slice A8 x3.fAnswers.length c9,.slice A11 x3.fAuthorities.length c12,.slice A14 x3.fExtras.length c15] 26 (0,0))::(100040,g2,.cells #[.int .u16 0,.bool false,.bool false,.bool false,.bool false,.bool false,.int .i64 0,.int .i64 0,.slice none 0 0,.slice none 0 0,.slice none 0 0,.slice none 0 0] 26 (0,0))::(100020,g1,.cells #[.int .u16 p0.fID,.bool p0.fResponse,.bool p0.fAuthoritative,.bool p0.fTruncated,.bool p0.fDesired,.bool p0.fAvailable,.int .i64 p0.fOpcode,.int .i64 p0.fCode,.slice Ap0_0 p0.fQuestions.length cp0_0,.slice Ap0_1 p0.fAnswers.length cp0_1,.slice Ap0_2 p0.fAuthorities.length cp0_2,.slice Ap0_3 p0.fExtras.length cp0_3] 26 (0,0))::H,(100083,⟨.slice A14 x3.fExtras.length c15,42,5,x3.fExtras.length,x3.fExtras.flatMap GRR.enc⟩)::R,φ17⟩ (fun _ h=>h)<|c_seq<|c_region<|g_v rfl (r_loadA (tag:=100050) rfl rfl Try.isAgg26 Try.sizeOf26 rfl rfl)<|g_storeL (tag:=100040) rfl rfl rfl rfl Try.sizeOf26 rfl rfl<|g_nil<|d_then<|c_ret ?_
 cases hm
 refine d_sta _ (fun W h=>ok_frontR (t:=100083) (t':=2003) h rfl) ?_
 exact d_retC (A5,c6,A8,c9,A11,c12,A14,c15) Try.results25 (res_agg (tag:=100040) rfl rfl Try.isAgg26 Try.sizeOf26 (res_nil rfl)) ⟨hc6,hc9,hc12,hc15⟩ (fun W h=>(((h.dropH (t:=100050) rfl).dropH (t:=100040) rfl).dropH (t:=100020) rfl).phi (fun W hφ=>⟨(q17 _ hφ),(fun W h=>f7 W h) W hφ,(fun W h=>f10 W h) W hφ,(fun W h=>f13 W h) W hφ⟩)) (.inr rfl)
theorem lit9_10 (z0 : ByteArray) : Try.prog.builtSlice 9 1 [(0,.string z0)] = some #[.string z0]:=by kernel_rfl
theorem inf9_11  : (Try.prog.info? 9).map (fun i=>(i.zero,i.size,i.bytes)) = some (some (.string (⟨#[]⟩ : ByteArray)),1,16):=by kernel_rfl
noncomputable def m_name_Labels (p0 : ByteArray) : Option ((List ByteArray)×Int):=
  (eachM p0).bind fun _=>
  if (eachP p0).2 ≠ w64 ((p0.size : Int) - 1) then
    some (([] : List ByteArray),10)
  else
    if (eachP p0).2 < 0 then
      some (([] : List ByteArray),10)
    else
      if 255 < (p0.size : Int) then
        some (([] : List ByteArray),11)
      else
        some (((eachP p0).1.map Prod.snd),0)
theorem c_name_Labels {w0 : World} {M : Nat→Prop} {H : List (Nat×Nat×Obj)} {R : List (Nat×Row)} {φ : World→Prop} (p0 : ByteArray) (r : (List ByteArray)×Int) (hm : m_name_Labels p0 = some r) :
    Cn Try.prog 63 #[.string p0] ⟨w0,M,H,R,φ⟩ (fun x : Option Addr×Nat=>.tuple #[.slice x.1 r.1.length x.2,.int .i64 r.2]) (fun x=>r.1.length ≤ x.2) (fun x=>⟨w0,M,H,(2000,⟨.slice x.1 r.1.length x.2,9,1,r.1.length,r.1.flatMap (fun x : ByteArray=>[Value.string x])⟩)::R,φ⟩):=by
 unfold m_name_Labels at hm
 refine cn_introM (fn:=Try.f63) (N:=31) Try.func63 rfl Try.ntmps63 rfl<|c_seq<|c_region<|g_v rfl r_assign<|g_v rfl r_assign<|g_nil<|d_then<|c_seq<|c_region ?_
 refine g_e rfl (e_alloc 100040 Try.zeroValue73) (fun g1 _=>?_)
 refine g_nil<|d_then<|c_seq<|c_region ?_
 refine g_e rfl (e_alloc 100050 Try.zeroValue3) (fun g2 _=>?_)
 refine g_storeL (tag:=100050) rfl rfl rfl rfl Try.sizeOf3 rfl rfl<|g_nil<|d_then<|c_seq<|c_seq<|c_region<|g_v rfl r_move ?_
 refine g_cn ⟨w0,M,_,_,φ⟩ (fun _ h=>h) Try.call66 rfl rfl (c_each p0 g2) (fun ⟨g3,g4⟩ _=>?_)
 refine g_sta _ (fun W h=>ok_front (t:=3000) (t':=100095) (ok_front (t:=3001) (t':=100096) h rfl) rfl)<|g_nil<|d_then<|c_block<|c_sta _ (fun W h=>nilR (ok_front (t:=100050) (t':=0) (ok_front (t:=100095) (t':=1) (ok_front (t:=100096) (t':=2) (ok_front (t:=100040) (t':=3) h rfl) rfl) rfl) rfl) 4 9 1) ?_
 replace hm:=bnd hm
 obtain ⟨_,hz8,hm⟩:=hm
 replace hz8:=(eachM_some hz8).1
 refine c_collect Prod.snd (fun x : ByteArray=>Value.string x) rfl rfl hz8 (.inl rfl) (.inl ⟨rfl,fun _=>rfl⟩) Try.underlying73 inf9_11 rfl (by decide) (by decide) (fun _=>lit9_10 _) (fun _=>rfl) Try.sizeOf73 Try.isAgg73 rfl rfl rfl (fun A6 c7 g5 hc7=>?_)
 refine d_sta _ (fun W h=>(ok_front (t:=0) (t':=100050) (ok_front (t:=1) (t':=100095) (ok_front (t:=2) (t':=100096) (ok_front (t:=3) (t':=100040) h rfl) rfl) rfl) rfl))<|d_normal_block<|d_then<|c_seq<|c_block<|c_seq<|c_region<|g_v rfl (r_load (tag:=100050) rfl rfl rfl Try.isAgg3)<|g_v rfl r_move<|g_v rfl (r_len Try.underlying9 rfl) ?_
 refine g_v rfl (r_sub rfl rfl rfl)<|g_v rfl (r_neq rfl rfl)<|g_v rfl r_move<|g_sta ⟨w0,M,(100050,g2,.cells #[.int .i64 ((eachP p0).2)] 3 (0,0))::(100095,g3,.cells #[.pointer (some ⟨g2,0,none⟩)] 111 (0,0))::(100096,g4,.cells #[.string p0] 9 (0,0))::(100040,g1,.cells #[.slice A6 ((eachP p0).1.map Prod.snd).length c7] 73 (0,0))::(5,g5,.deferred (some []))::H,(4,⟨.slice A6 ((eachP p0).1.map Prod.snd).length c7,9,1,((eachP p0).1.map Prod.snd).length,((eachP p0).1.map Prod.snd).flatMap (fun x : ByteArray=>[Value.string x])⟩)::R,φ⟩ (fun _ h=>h) ?_
 refine g_if rfl rfl rfl rfl rfl (fun h9=>?_) (fun h9=>?_)
 ·
  replace hm:=ite_f hm (of_decide_eq_false h9)
  refine g_v rfl (r_load (tag:=100050) rfl rfl rfl Try.isAgg3)<|g_do rfl rfl rfl rfl rfl h9<|g_v rfl (r_lss rfl rfl)<|g_v rfl (r_pick0 rfl h9)<|g_v rfl r_assign<|g_nil<|d_then ?_
  refine c_flat [(0,.string p0),(4,.pointer (some ⟨g1,0,none⟩)),(16,.bool (decide ((eachP p0).2 < 0)))] ⟨rfl,rfl,rfl,trivial⟩ (fun u=>?_)
  refine c_cond rfl (fun h10=>?_) (fun h10=>?_)
  ·
   replace hm:=ite_t hm (of_decide_eq_true h10)
   refine c_seq<|c_region<|g_v rfl r_assign<|g_v rfl r_assign<|g_nil<|d_then<|c_ret<|d_ret_block<|d_ret_then ?_
   cases hm
   refine d_sta _ (fun W h=>nilR h 11 9 1)<|d_sta _ (fun W h=>ok_frontR (t:=11) (t':=2000) h rfl) ?_
   exact d_retM (tD:=5) (none,0) Try.results63 (res_tmp (res_tmp (res_nil rfl))) (Nat.le_refl 0) rfl (by simp) (fun W h=>(((((h.dropR (t:=4) rfl).dropH (t:=100050) rfl).dropH (t:=100095) rfl).dropH (t:=100096) rfl).dropH (t:=100040) rfl).phi (fun W hφ=>hφ)) (.inr rfl)
  replace hm:=ite_f hm (of_decide_eq_false h10)
  refine c_seq<|c_region<|g_v rfl r_move<|g_v rfl (r_len Try.underlying9 rfl)<|g_v rfl (r_gtr rfl rfl)<|g_v rfl r_assign<|g_nil<|d_then ?_
  refine c_cond rfl (fun h11=>?_) (fun h11=>?_)
  ·
   replace hm:=ite_t hm (of_decide_eq_true h11)
   refine c_seq<|c_region<|g_v rfl r_assign<|g_v rfl r_assign<|g_nil<|d_then<|c_ret<|d_ret_block<|d_ret_then ?_
   cases hm
   refine d_sta _ (fun W h=>nilR h 12 9 1)<|d_sta _ (fun W h=>ok_frontR (t:=12) (t':=2000) h rfl) ?_
   exact d_retM (tD:=5) (none,0) Try.results63 (res_tmp (res_tmp (res_nil rfl))) (Nat.le_refl 0) rfl (by simp) (fun W h=>(((((h.dropR (t:=4) rfl).dropH (t:=100050) rfl).dropH (t:=100095) rfl).dropH (t:=100096) rfl).dropH (t:=100040) rfl).phi (fun W hφ=>hφ)) (.inr rfl)
  replace hm:=ite_f hm (of_decide_eq_false h11)
  refine c_skip<|d_normal_block<|d_then<|c_seq<|c_region<|g_v rfl (r_load (tag:=100040) rfl rfl rfl Try.isAgg73)<|g_v rfl r_assign<|g_v rfl r_assign<|g_nil<|d_then ?_
  refine c_ret ?_
  cases hm
  refine d_sta _ (fun W h=>ok_frontR (t:=4) (t':=2000) h rfl) ?_
  exact d_retM (tD:=5) (A6,c7) Try.results63 (res_tmp (res_tmp (res_nil rfl))) hc7 rfl (by simp) (fun W h=>((((h.dropH (t:=100050) rfl).dropH (t:=100095) rfl).dropH (t:=100096) rfl).dropH (t:=100040) rfl).phi (fun W hφ=>hφ)) (.inr rfl)
 replace hm:=ite_t hm (of_decide_eq_true h9)
 refine g_no rfl rfl rfl rfl rfl h9<|g_v rfl (r_pick1 rfl h9)<|g_v rfl r_assign<|g_nil<|d_then ?_
 refine c_flat [(0,.string p0),(4,.pointer (some ⟨g1,0,none⟩)),(16,.bool true)] ⟨rfl,rfl,rfl,trivial⟩ (fun u=>?_)
 refine c_cond1 rfl rfl<|c_seq<|c_region<|g_v rfl r_assign<|g_v rfl r_assign<|g_nil<|d_then<|c_ret<|d_ret_block<|d_ret_then ?_
 cases hm
 refine d_sta _ (fun W h=>nilR h 13 9 1)<|d_sta _ (fun W h=>ok_frontR (t:=13) (t':=2000) h rfl) ?_
 exact d_retM (tD:=5) (none,0) Try.results63 (res_tmp (res_tmp (res_nil rfl))) (Nat.le_refl 0) rfl (by simp) (fun W h=>(((((h.dropR (t:=4) rfl).dropH (t:=100050) rfl).dropH (t:=100095) rfl).dropH (t:=100096) rfl).dropH (t:=100040) rfl).phi (fun W hφ=>hφ)) (.inr rfl)
noncomputable def m_name_Depth (p0 : ByteArray) : Option Int:=
  (m_name_Labels p0).bind fun (z7 : (List ByteArray)×Int)=>
  if z7.2 ≠ 0 then
    some (-1)
  else
    some (z7.1.length : Int)
theorem c_name_Depth {w0 : World} {M : Nat→Prop} {H : List (Nat×Nat×Obj)} {R : List (Nat×Row)} {φ : World→Prop} (p0 : ByteArray) (r : Int) (hm : m_name_Depth p0 = some r) :
    Cn Try.prog 36 #[.string p0] ⟨w0,M,H,R,φ⟩ (fun x : Unit=>.int .i64 r) (fun x=>True) (fun x=>⟨w0,M,H,R,φ⟩):=by
 unfold m_name_Depth at hm
 refine cn_intro (fn:=Try.f36) (N:=14) Try.func36 rfl Try.ntmps36 rfl<|c_seq<|c_region<|g_v rfl r_assign<|g_nil<|d_then<|c_seq<|c_region<|g_v rfl r_move ?_
 replace hm:=bnd hm
 obtain ⟨⟨x1,x2⟩,hx3,hm⟩:=hm
 refine g_cn ⟨w0,M,_,_,φ⟩ (fun _ h=>h) Try.call63 rfl rfl (c_name_Labels p0 _ hx3) (fun ⟨A4,c5⟩ hc5=>?_)
 refine g_sta _ (fun W h=>(ok_frontR (t:=2000) (t':=100070) h rfl))<|g_v rfl r_move<|g_v rfl (r_extract rfl rfl)<|g_v rfl (r_extract rfl rfl)<|g_v rfl r_assign<|g_v rfl r_assign<|g_nil<|d_then<|c_seq<|c_seq ?_
 refine c_region<|g_v rfl r_move<|g_v rfl (r_neq rfl rfl)<|g_nil<|d_then ?_
 refine c_flat [(3,.slice A4 x1.length c5),(11,.bool (decide (x2 ≠ 0)))] ⟨rfl,rfl,trivial⟩ (fun u=>?_)
 refine c_sta ⟨w0,M,H,(100070,⟨.slice A4 x1.length c5,9,1,x1.length,x1.flatMap (fun x : ByteArray=>[Value.string x])⟩)::R,φ⟩ (fun _ h=>h) ?_
 refine c_cond rfl (fun h8=>?_) (fun h8=>?_)
 ·
  replace hm:=ite_t hm (of_decide_eq_true h8)
  refine c_seq<|c_region<|g_v rfl r_assign<|g_nil<|d_then<|c_ret<|d_ret_then ?_
  cases hm
  exact d_retC () Try.results36 (res_tmp (res_nil rfl)) trivial (fun W h=>ok_pre (H1:=[]) (R1:=[_]) h (fun W hφ=>hφ)) (.inr rfl)
 replace hm:=ite_f hm (of_decide_eq_false h8)
 refine c_skip<|d_then<|c_seq<|c_region<|g_v rfl r_move<|g_v rfl (r_lenL Try.underlying73 rfl)<|g_v rfl r_assign<|g_nil<|d_then<|c_ret ?_
 cases hm
 exact d_retC () Try.results36 (res_tmp (res_nil rfl)) trivial (fun W h=>ok_pre (H1:=[]) (R1:=[_]) h (fun W hφ=>hφ)) (.inr rfl)
noncomputable def m_name_Lower_j1  (l55 : List Int) : Option ByteArray:=
  some (strOfNums l55)
noncomputable def m_name_Lower_s2 (p0 : ByteArray) (l78 : List Int) (i79 : Int) : Option (((List Int)×Int) ⊕ (List Int)):=
  if i79 < (((bytesI p0).length) : Int) then
    (at_ l78 i79).bind fun x104=>
    if 65 ≤ x104 then
      (at_ l78 i79).bind fun x109=>
      if x109 ≤ 90 then
        (at_ l78 i79).bind fun x114=>
        (at_ l78 i79).bind fun x118=>
        (setAt l78 i79 (orI .u8 x114 32)).bind fun l122=>
        some (.inl (l122,w64 (i79 + 1)))
      else
        some (.inl (l78,w64 (i79 + 1)))
    else
      some (.inl (l78,w64 (i79 + 1)))
  else
    some (.inr l78)
noncomputable def m_name_Lower (p0 : ByteArray) : Option ByteArray:=
  (loop (fun s=>m_name_Lower_s2 p0 s.1 s.2) ((bytesI p0),0)).bind fun e=>m_name_Lower_j1 e
theorem c_name_Lower {w0 : World} {M : Nat→Prop} {H : List (Nat×Nat×Obj)} {R : List (Nat×Row)} {φ : World→Prop} (p0 : ByteArray) (r : ByteArray) (hm : m_name_Lower p0 = some r) :
    Cn Try.prog 80 #[.string p0] ⟨w0,M,H,R,φ⟩ (fun x : Unit=>.string r) (fun x=>True) (fun x=>⟨w0,M,H,R,φ⟩):=by
 unfold m_name_Lower at hm
 refine cn_intro (fn:=Try.f80) (N:=33) Try.func80 rfl Try.ntmps80 rfl<|c_seq<|c_region<|g_v rfl r_assign<|g_nil<|d_then<|c_seq<|c_region<|g_v rfl r_move ?_
 refine g_e rfl (e_bytesH 100060 Try.underlying9 Try.underlying66 Try.underlying5 rfl) (fun ⟨g5,c6,T7⟩ hc6=>?_)
 refine g_v rfl r_assign<|g_nil<|d_then<|c_seq<|c_seq<|c_region<|g_v rfl r_move<|g_v rfl (r_lenL Try.underlying66 rfl)<|g_v rfl r_move<|g_nil ?_
 refine d_then ?_
 refine c_cut (ι:=(List Int)) [3] (fun l55=>[(3,.slice (some ⟨g5,0,none⟩) ((bytesI p0).length) c6)]) (fun l55=>⟨w0,M,(100060,g5,rowO l55 T7 5)::H,R,φ⟩) (fun l55=>m_name_Lower_j1 l55 = some r∧l55.length = (bytesI p0).length) ?_ (fun l55 u ⟨hm,hl55⟩=>?_)
 ·
  refine c_block ?_
  replace hm:=bnd hm
  obtain ⟨out2,hl2,hr2⟩:=hm
  obtain ⟨n102',hl2⟩:=loop_lp hl2
  refine c_loopU (ι:=Nat×(List Int)×Int) [3,8,9] (fun ⟨n102,l78,i79⟩=>[(3,.slice (some ⟨g5,0,none⟩) ((bytesI p0).length) c6),(9,.int .i64 i79)]) (fun ⟨n102,l78,i79⟩=>⟨w0,M,(100060,g5,rowO l78 T7 5)::H,R,φ⟩) (fun ⟨n102,l78,i79⟩=>Lp (fun s=>m_name_Lower_s2 p0 s.1 s.2) n102 (l78,i79) out2∧l78.length = (bytesI p0).length) (fun ⟨n102,l78,i79⟩=>n102) (n102',(bytesI p0),0) ⟨hl2,rfl⟩ ⟨rfl,rfl,rfl,trivial⟩ (fun W h=>h.phi (fun W hφ=>hφ)) (fun ⟨n102,l78,i79⟩ u ⟨hlp,hl78⟩=>?_)
  obtain ⟨o2,hm,hnx2⟩:=lp_step hlp
  clear hlp
  replace hm : m_name_Lower_s2 p0 l78 i79 = some o2:=hm
  unfold m_name_Lower_s2 at hm
  refine c_flat [(3,.slice (some ⟨g5,0,none⟩) ((bytesI p0).length) c6),(8,.int .i64 (((bytesI p0).length) : Int)),(9,.int .i64 i79)] ⟨rfl,rfl,rfl,trivial⟩ (fun u=>?_)
  refine c_sta ⟨w0,M,(100060,g5,rowO l78 T7 5)::H,R,φ⟩ (fun _ h=>h)<|c_seq<|c_region<|g_v rfl (r_lss rfl rfl)<|g_nil<|d_then<|c_seq ?_
  refine c_cond rfl (fun h103=>?_) (fun h103=>?_)
  ·
   replace hm:=ite_t hm (of_decide_eq_true h103)
   refine c_skip<|d_then<|c_seq<|c_block<|c_seq<|c_region<|g_v rfl r_move<|g_v rfl r_assign<|g_nil<|d_then ?_
   refine c_seq<|c_region<|g_v rfl r_move<|g_v rfl r_move ?_
   replace hm:=bnd hm
   obtain ⟨x104,hx104,hm⟩:=hm
   refine g_know _ (fun W hS=>cl_at (p:=(Sta.ok ⟨w0,M,(100060,g5,rowO l78 T7 5)::H,R,φ⟩)) (sz:=1) (fun _=>rfl) (by decide) hS (hrowCl (S:=⟨w0,M,(100060,g5,rowO l78 T7 5)::H,R,φ⟩) (tag:=100060) rfl) hx104) ?_
   rintro ⟨ad105,hA107,f106⟩
   refine g_v rfl (r_ixN hl78 Try.underlying66 Try.sizeOf5 rfl hA107 rfl hx104)<|g_v rfl (r_ld rfl Try.isAgg5 (fun W hS=>Cl.head (f106 W hS)))<|g_v rfl (r_geq rfl rfl)<|g_v rfl r_move ?_
   refine g_if rfl rfl rfl rfl rfl (fun h108=>?_) (fun h108=>?_)
   ·
    replace hm:=ite_t hm (of_decide_eq_true h108)
    refine g_v rfl r_move<|g_do rfl rfl rfl rfl rfl h108<|g_v rfl r_move<|g_do rfl rfl rfl rfl rfl h108 ?_
    replace hm:=bnd hm
    obtain ⟨x109,hx109,hm⟩:=hm
    refine g_know _ (fun W hS=>cl_at (p:=(Sta.ok ⟨w0,M,(100060,g5,rowO l78 T7 5)::H,R,φ⟩)) (sz:=1) (fun _=>rfl) (by decide) hS (hrowCl (S:=⟨w0,M,(100060,g5,rowO l78 T7 5)::H,R,φ⟩) (tag:=100060) rfl) hx109) ?_
    rintro ⟨ad110,hA112,f111⟩
    refine g_v rfl (r_ixN hl78 Try.underlying66 Try.sizeOf5 rfl hA112 rfl hx109)<|g_do rfl rfl rfl rfl rfl h108<|g_v rfl (r_ld rfl Try.isAgg5 (fun W hS=>Cl.head (f111 W hS)))<|g_do rfl rfl rfl rfl rfl h108<|g_v rfl (r_leq rfl rfl)<|g_v rfl (r_pick1 rfl h108)<|g_nil<|d_then ?_
    refine c_flat [(3,.slice (some ⟨g5,0,none⟩) ((bytesI p0).length) c6),(4,.int .i64 i79),(8,.int .i64 (((bytesI p0).length) : Int)),(9,.int .i64 i79),(23,.bool (decide (x109 ≤ 90)))] ⟨rfl,rfl,rfl,rfl,rfl,trivial⟩ (fun u=>?_)
    refine c_cond rfl (fun h113=>?_) (fun h113=>?_)
    ·
     replace hm:=ite_t hm (of_decide_eq_true h113)
     refine c_region<|g_v rfl r_move<|g_v rfl r_move ?_
     replace hm:=bnd hm
     obtain ⟨x114,hx114,hm⟩:=hm
     refine g_know _ (fun W hS=>cl_at (p:=(Sta.ok ⟨w0,M,(100060,g5,rowO l78 T7 5)::H,R,φ⟩)) (sz:=1) (fun _=>rfl) (by decide) hS (hrowCl (S:=⟨w0,M,(100060,g5,rowO l78 T7 5)::H,R,φ⟩) (tag:=100060) rfl) hx114) ?_
     rintro ⟨ad115,hA117,f116⟩
     refine g_v rfl (r_ixN hl78 Try.underlying66 Try.sizeOf5 rfl hA117 rfl hx114)<|g_v rfl (r_ld rfl Try.isAgg5 (fun W hS=>Cl.head (f116 W hS)))<|g_v rfl (r_bits_or rfl rfl) ?_
     replace hm:=bnd hm
     obtain ⟨x118,hx118,hm⟩:=hm
     refine g_know _ (fun W hS=>cl_at (p:=(Sta.ok ⟨w0,M,(100060,g5,rowO l78 T7 5)::H,R,φ⟩)) (sz:=1) (fun _=>rfl) (by decide) hS (hrowCl (S:=⟨w0,M,(100060,g5,rowO l78 T7 5)::H,R,φ⟩) (tag:=100060) rfl) hx118) ?_
     rintro ⟨ad119,hA121,f120⟩
     refine g_v rfl (r_ixN hl78 Try.underlying66 Try.sizeOf5 rfl hA121 rfl hx118) ?_
     replace hm:=bnd hm
     obtain ⟨l122,hl122,hm⟩:=hm
     refine g_stH (tag:=100060) (l:=l78) rfl rfl hA121 rfl hl122 rfl Try.sizeOf5<|g_nil<|d_normal_block<|d_then<|c_region<|g_v rfl (r_add rfl rfl rfl)<|g_v rfl r_move<|g_nil ?_
     obtain ⟨n123,hn123,hlp⟩:=nx_inl hm hnx2
     exact d_round (n123,l122,w64 (i79 + 1)) ⟨hlp,((setAt_lenE hl122).trans hl78)⟩ hn123 ⟨rfl,rfl,rfl,trivial⟩ (fun W h=>h.phi (fun W hφ=>hφ))
    replace hm:=ite_f hm (of_decide_eq_false h113)
    refine c_skip<|d_normal_block<|d_then<|c_region<|g_v rfl (r_add rfl rfl rfl)<|g_v rfl r_move<|g_nil ?_
    obtain ⟨n124,hn124,hlp⟩:=nx_inl hm hnx2
    exact d_round (n124,l78,w64 (i79 + 1)) ⟨hlp,hl78⟩ hn124 ⟨rfl,rfl,rfl,trivial⟩ (fun W h=>h.phi (fun W hφ=>hφ))
   replace hm:=ite_f hm (of_decide_eq_false h108)
   iterate 4 refine g_no rfl rfl rfl rfl rfl h108 ?_
   refine g_v rfl (r_pick0 rfl h108)<|g_nil<|d_then ?_
   refine c_flat [(3,.slice (some ⟨g5,0,none⟩) ((bytesI p0).length) c6),(4,.int .i64 i79),(8,.int .i64 (((bytesI p0).length) : Int)),(9,.int .i64 i79),(23,.bool false)] ⟨rfl,rfl,rfl,rfl,rfl,trivial⟩ (fun u=>?_)
   refine c_cond0 rfl rfl<|c_skip<|d_normal_block<|d_then<|c_region<|g_v rfl (r_add rfl rfl rfl)<|g_v rfl r_move<|g_nil ?_
   obtain ⟨n125,hn125,hlp⟩:=nx_inl hm hnx2
   exact d_round (n125,l78,w64 (i79 + 1)) ⟨hlp,hl78⟩ hn125 ⟨rfl,rfl,rfl,trivial⟩ (fun W h=>h.phi (fun W hφ=>hφ))
  replace hm:=ite_f hm (of_decide_eq_false h103)
  refine c_exit<|d_exit_then<|d_exit_then<|d_exit_block ?_
  replace hm:=nx_out (C:=(fun e : (List Int)=>m_name_Lower_j1 e = some r)) hm hnx2 hr2
  exact d_round l78 ⟨hm,hl78⟩ Nat.zero_lt_one ⟨rfl,trivial⟩ (fun W h=>h.phi (fun W hφ=>hφ))
 unfold m_name_Lower_j1 at hm
 refine d_flat [(3,.slice (some ⟨g5,0,none⟩) ((bytesI p0).length) c6)] ⟨rfl,trivial⟩ (fun u=>?_)
 refine d_sta ⟨w0,M,(100060,g5,rowO l55 T7 5)::H,R,φ⟩ (fun _ h=>h)<|d_then<|c_seq<|c_region<|g_v rfl r_move<|g_v rfl (r_textN hl55 Try.underlying66 Try.underlying5 Try.underlying9 rfl (hrowCl (tag:=100060) rfl))<|g_v rfl r_assign<|g_nil<|d_then<|c_ret ?_
 cases hm
 exact d_retC () Try.results80 (res_tmp (res_nil rfl)) trivial (fun W h=>ok_pre (H1:=[_]) (R1:=[]) h (fun W hφ=>hφ)) (.inr rfl)
noncomputable def m_slices_Reverse_101_j1  (l152 : List ByteArray) : Option (List ByteArray):=
  some l152
noncomputable def m_slices_Reverse_101_s2  (l228 : List ByteArray) (i231 : Int) (i232 : Int) : Option (((List ByteArray)×Int×Int) ⊕ (List ByteArray)):=
  if i231 < i232 then
    (at_ l228 i232).bind fun x351=>
    (at_ l228 i231).bind fun x355=>
    (at_ l228 i231).bind fun x359=>
    (setAt l228 i231 x351).bind fun l363=>
    (at_ l363 i232).bind fun x366=>
    (setAt l363 i232 x355).bind fun l370=>
    some (.inl (l370,w64 (i231 + 1),w64 (i232 - 1)))
  else
    some (.inr l228)
noncomputable def m_slices_Reverse_101 (p0 : List ByteArray) : Option (List ByteArray):=
  (loop (fun s=>m_slices_Reverse_101_s2 s.1 s.2.1 s.2.2) (p0,0,w64 ((p0.length : Int) - 1))).bind fun e=>m_slices_Reverse_101_j1 e
theorem c_slices_Reverse_101 {w0 : World} {M : Nat→Prop} {H : List (Nat×Nat×Obj)} {R : List (Nat×Row)} {φ : World→Prop} (p0 : List ByteArray) (Ap0_0 : Option Addr) (cp0_0 : Nat) (hcp0_0 : p0.length ≤ cp0_0) (r : (List ByteArray)) (hm : m_slices_Reverse_101 p0 = some r) :
    Cn Try.prog 101 #[.slice Ap0_0 p0.length cp0_0] ⟨w0,M,H,(1000,⟨.slice Ap0_0 p0.length cp0_0,9,1,p0.length,p0.flatMap (fun x : ByteArray=>[Value.string x])⟩)::R,φ⟩ (fun x : Unit=>.tuple #[]) (fun x=>r.length = p0.length) (fun x=>⟨w0,M,H,(1000,⟨.slice Ap0_0 r.length cp0_0,9,1,r.length,r.flatMap (fun x : ByteArray=>[Value.string x])⟩)::R,φ⟩):=by
 unfold m_slices_Reverse_101 at hm
 refine cn_intro (fn:=Try.f101) (N:=28) Try.func101 rfl Try.ntmps101 rfl<|c_seq<|c_region<|g_v rfl r_move<|g_v rfl (r_lenL Try.underlying73 rfl)<|g_v rfl (r_sub rfl rfl rfl)<|g_v rfl r_assign<|g_v rfl r_assign<|g_nil<|d_then ?_
 refine c_cut (ι:=(List ByteArray)) [] (fun l152=>[]) (fun l152=>⟨w0,M,H,(1000,⟨.slice Ap0_0 l152.length cp0_0,9,1,l152.length,l152.flatMap (fun x : ByteArray=>[Value.string x])⟩)::R,φ⟩) (fun l152=>m_slices_Reverse_101_j1 l152 = some r∧(l152.length ≤ cp0_0∧l152.length = p0.length)) ?_ (fun l152 u ⟨hm,hl152⟩=>?_)
 ·
  refine c_block ?_
  replace hm:=bnd hm
  obtain ⟨out2,hl2,hr2⟩:=hm
  obtain ⟨n305',hl2⟩:=loop_lp hl2
  refine c_loopU (ι:=Nat×(List ByteArray)×Int×Int) [0,2,3] (fun ⟨n305,l228,i231,i232⟩=>[(0,.slice Ap0_0 l228.length cp0_0),(2,.int .i64 i231),(3,.int .i64 i232)]) (fun ⟨n305,l228,i231,i232⟩=>⟨w0,M,H,(1000,⟨.slice Ap0_0 l228.length cp0_0,9,1,l228.length,l228.flatMap (fun x : ByteArray=>[Value.string x])⟩)::R,φ⟩) (fun ⟨n305,l228,i231,i232⟩=>Lp (fun s=>m_slices_Reverse_101_s2 s.1 s.2.1 s.2.2) n305 (l228,i231,i232) out2∧(l228.length ≤ cp0_0∧l228.length = p0.length)) (fun ⟨n305,l228,i231,i232⟩=>n305) (n305',p0,0,w64 ((p0.length : Int) - 1)) ⟨hl2,⟨hcp0_0,rfl⟩⟩ ⟨rfl,rfl,rfl,trivial⟩ (fun W h=>h.phi (fun W hφ=>hφ)) (fun ⟨n305,l228,i231,i232⟩ u ⟨hlp,hl228⟩=>?_)
  obtain ⟨o2,hm,hnx2⟩:=lp_step hlp
  clear hlp
  replace hm : m_slices_Reverse_101_s2 l228 i231 i232 = some o2:=hm
  unfold m_slices_Reverse_101_s2 at hm
  refine c_flat [(0,.slice Ap0_0 l228.length cp0_0),(2,.int .i64 i231),(3,.int .i64 i232)] ⟨rfl,rfl,rfl,trivial⟩ (fun u=>?_)
  refine c_sta ⟨w0,M,H,(1000,⟨.slice Ap0_0 l228.length cp0_0,9,1,l228.length,l228.flatMap (fun x : ByteArray=>[Value.string x])⟩)::R,φ⟩ (fun _ h=>h)<|c_seq<|c_seq<|c_region<|g_v rfl r_move<|g_v rfl r_move<|g_v rfl (r_lss rfl rfl)<|g_nil<|d_then ?_
  refine c_cond rfl (fun h306=>?_) (fun h306=>?_)
  ·
   replace hm:=ite_t hm (of_decide_eq_true h306)
   refine c_skip<|d_then<|c_seq<|c_block<|ga_start (n:=16) ⟨w0,M,H,(1000,⟨.slice Ap0_0 l228.length cp0_0,9,1,l228.length,l228.flatMap (fun x : ByteArray=>[Value.string x])⟩)::R,φ⟩ [13,15,14] #[false,false,false,false,false,false,false,false,false,false,false,false,false,false,false,false] (fun W h=>h.phi (fun W hφ=>hφ)) mixed rfl rfl<|ga_v (i:=0) (bz 16 1) rfl (by kernel_rfl) (fun _ _ _ _ h=>h) rfl (r_move)<|ga_v (i:=1) (bz 16 3) rfl (by kernel_rfl) (fun _ _ _ _ h=>h) rfl (r_move)<|ga_p (i:=2) (bz 16 7) rfl (.inl rfl) (by kernel_rfl) (fun _ _ _ _ h=>h) rfl<|ga_p (i:=3) (bz 16 15) rfl (.inl rfl) (by kernel_rfl) (fun _ _ _ _ h=>h) rfl<|ga_v (i:=4) (bz 16 31) rfl (by kernel_rfl) (fun _ _ _ _ h=>h) rfl (r_move) ?_
   refine ga_v (i:=5) (bz 16 63) rfl (by kernel_rfl) (fun _ _ _ _ h=>h) rfl (r_move) ?_
   replace hm:=bnd hm
   obtain ⟨x351,hx351,hm⟩:=hm
   refine ga_know _ (fun W hS=>cl_at (p:=(Sta.ok ⟨w0,M,H,(1000,⟨.slice Ap0_0 l228.length cp0_0,9,1,l228.length,l228.flatMap (fun x : ByteArray=>[Value.string x])⟩)::R,φ⟩)) (sz:=1) (fun _=>rfl) (by decide) (hS.phi (fun W hφ=>hφ)) (fun W hS=>rowCl (S:=⟨w0,M,H,(1000,⟨.slice Ap0_0 l228.length cp0_0,9,1,l228.length,l228.flatMap (fun x : ByteArray=>[Value.string x])⟩)::R,φ⟩) (tag:=1000) rfl W hS) hx351) ?_
   rintro ⟨ad352,hA354,f353⟩
   refine ga_v (i:=6) (bz 16 127) rfl (by kernel_rfl) (fun _ _ _ _ h=>h) rfl (r_ix Try.underlying73 Try.sizeOf9 rfl hA354 rfl hx351)<|ga_v (i:=7) (bz 16 255) rfl (by kernel_rfl) (fun _ _ _ _ h=>h) rfl (r_ld rfl Try.isAgg9 (fun W hS=>Cl.head (f353 W hS)))<|ga_v (i:=8) (bz 16 511) rfl (by kernel_rfl) (fun _ _ _ _ h=>h) rfl (r_move)<|ga_r (i:=9) (bz 16 1023) rfl (by kernel_rfl) (by decide) rfl (r_move) ?_
   replace hm:=bnd hm
   obtain ⟨x355,hx355,hm⟩:=hm
   refine ga_know _ (fun W hS=>cl_at (p:=(Sta.ok ⟨w0,M,H,(1000,⟨.slice Ap0_0 l228.length cp0_0,9,1,l228.length,l228.flatMap (fun x : ByteArray=>[Value.string x])⟩)::R,φ⟩)) (sz:=1) (fun _=>rfl) (by decide) hS (fun W hS=>rowCl (S:=⟨w0,M,H,(1000,⟨.slice Ap0_0 l228.length cp0_0,9,1,l228.length,l228.flatMap (fun x : ByteArray=>[Value.string x])⟩)::R,φ⟩) (tag:=1000) rfl W hS) hx355) ?_
   rintro ⟨ad356,hA358,f357⟩
   refine ga_r (i:=10) (bz 16 2047) rfl (by kernel_rfl) (by decide) rfl (r_ix Try.underlying73 Try.sizeOf9 rfl hA358 rfl hx355)<|ga_r (i:=11) (bz 16 4095) rfl (by kernel_rfl) (by decide) rfl (r_ld rfl Try.isAgg9 (fun W hS=>Cl.head (f357 W hS))) ?_
   replace hm:=bnd hm
   obtain ⟨x359,hx359,hm⟩:=hm
   refine ga_know _ (fun W hS=>cl_at (p:=(Sta.ok ⟨w0,M,H,(1000,⟨.slice Ap0_0 l228.length cp0_0,9,1,l228.length,l228.flatMap (fun x : ByteArray=>[Value.string x])⟩)::R,φ⟩)) (sz:=1) (fun _=>rfl) (by decide) hS (fun W hS=>rowCl (S:=⟨w0,M,H,(1000,⟨.slice Ap0_0 l228.length cp0_0,9,1,l228.length,l228.flatMap (fun x : ByteArray=>[Value.string x])⟩)::R,φ⟩) (tag:=1000) rfl W hS) hx359) ?_
   rintro ⟨ad360,hA362,f361⟩
   refine ga_r (i:=12) (bz 16 8191) rfl (by kernel_rfl) (by decide) rfl (r_ix Try.underlying73 Try.sizeOf9 rfl hA362 rfl hx359) ?_
   replace hm:=bnd hm
   obtain ⟨l363,hl363,hm⟩:=hm
   refine ga_sL (i:=13) (bz 16 16383) rfl (by kernel_rfl) (by decide) (e_stR (tag:=1000) (enc:=(fun x : ByteArray=>[Value.string x])) (l:=l228) (off:=0) (vs:=[.string x351]) (add0 rfl) hA362 rfl rfl hx359 hl363 rfl (Nat.le_of_ble_eq_true rfl) (fun _=>rfl) rfl rfl Try.sizeOf9) ?_
   rw [show l228.length = l363.length from (setAt_lenE hl363).symm]
   have hv365:=setAt_at hl363
   have f364:=cl_at2 (p:=(Sta.ok ⟨w0,M,H,(1000,⟨.slice Ap0_0 l363.length cp0_0,9,1,l363.length,l363.flatMap (fun x : ByteArray=>[Value.string x])⟩)::R,φ⟩)) (enc:=(fun x : ByteArray=>[Value.string x])) (sz:=1) (fun _=>rfl) hA362 (fun W hS=>rowCl (S:=⟨w0,M,H,(1000,⟨.slice Ap0_0 l363.length cp0_0,9,1,l363.length,l363.flatMap (fun x : ByteArray=>[Value.string x])⟩)::R,φ⟩) (tag:=1000) rfl W hS) hv365
   replace hm:=bnd hm
   obtain ⟨x366,hx366,hm⟩:=hm
   refine gz_know _ (fun W hS=>cl_at (p:=(Sta.ok ⟨w0,M,H,(1000,⟨.slice Ap0_0 l363.length cp0_0,9,1,l363.length,l363.flatMap (fun x : ByteArray=>[Value.string x])⟩)::R,φ⟩)) (sz:=1) (fun _=>rfl) (by decide) hS (fun W hS=>rowCl (S:=⟨w0,M,H,(1000,⟨.slice Ap0_0 l363.length cp0_0,9,1,l363.length,l363.flatMap (fun x : ByteArray=>[Value.string x])⟩)::R,φ⟩) (tag:=1000) rfl W hS) hx366) ?_
   rintro ⟨ad367,hA369,f368⟩
   refine gz_v (i:=14) (bz 16 32767) rfl (by kernel_rfl) (by decide) rfl (r_ix Try.underlying73 Try.sizeOf9 rfl hA369 rfl hx366) ?_
   replace hm:=bnd hm
   obtain ⟨l370,hl370,hm⟩:=hm
   refine gz_sL (i:=15) (bz 16 65535) rfl (by kernel_rfl) (by decide) (e_stR (tag:=1000) (enc:=(fun x : ByteArray=>[Value.string x])) (l:=l363) (off:=0) (vs:=[.string x355]) (add0 rfl) hA369 rfl rfl hx366 hl370 rfl (Nat.le_of_ble_eq_true rfl) (fun _=>rfl) rfl rfl Try.sizeOf9) ?_
   rw [show l363.length = l370.length from (setAt_lenE hl370).symm]
   have hv372:=setAt_at hl370
   have f371:=cl_at2 (p:=(Sta.ok ⟨w0,M,H,(1000,⟨.slice Ap0_0 l370.length cp0_0,9,1,l370.length,l370.flatMap (fun x : ByteArray=>[Value.string x])⟩)::R,φ⟩)) (enc:=(fun x : ByteArray=>[Value.string x])) (sz:=1) (fun _=>rfl) hA369 (fun W hS=>rowCl (S:=⟨w0,M,H,(1000,⟨.slice Ap0_0 l370.length cp0_0,9,1,l370.length,l370.flatMap (fun x : ByteArray=>[Value.string x])⟩)::R,φ⟩) (tag:=1000) rfl W hS) hv372
   refine gz_done (by kernel_rfl)<|d_normal_block<|d_then ?_
   refine c_flat [(0,.slice Ap0_0 l370.length cp0_0),(2,.int .i64 i231),(3,.int .i64 i232)] ⟨rfl,rfl,rfl,trivial⟩ (fun u=>?_)
   refine c_sta ⟨w0,M,H,(1000,⟨.slice Ap0_0 l370.length cp0_0,9,1,l370.length,l370.flatMap (fun x : ByteArray=>[Value.string x])⟩)::R,φ⟩ (fun _ h=>h)<|c_region<|g_v rfl r_move<|g_v rfl (r_add rfl rfl rfl)<|g_v rfl r_move<|g_v rfl (r_sub rfl rfl rfl)<|g_v rfl r_assign<|g_v rfl r_assign<|g_nil ?_
   obtain ⟨n373,hn373,hlp⟩:=nx_inl hm hnx2
   exact d_round (n373,l370,w64 (i231 + 1),w64 (i232 - 1)) ⟨hlp,⟨(setAt_len (setAt_len hl228.1 hl363) hl370),((setAt_lenE hl370).trans ((setAt_lenE hl363).trans hl228.2))⟩⟩ hn373 ⟨rfl,rfl,rfl,trivial⟩ (fun W h=>h.phi (fun W hφ=>hφ))
  replace hm:=ite_f hm (of_decide_eq_false h306)
  refine c_exit<|d_exit_then<|d_exit_then<|d_exit_block ?_
  replace hm:=nx_out (C:=(fun e : (List ByteArray)=>m_slices_Reverse_101_j1 e = some r)) hm hnx2 hr2
  exact d_round l228 ⟨hm,⟨hl228.1,hl228.2⟩⟩ Nat.zero_lt_one trivial (fun W h=>h.phi (fun W hφ=>hφ))
 unfold m_slices_Reverse_101_j1 at hm
 refine d_flat [] trivial (fun u=>?_)
 refine d_sta ⟨w0,M,H,(1000,⟨.slice Ap0_0 l152.length cp0_0,9,1,l152.length,l152.flatMap (fun x : ByteArray=>[Value.string x])⟩)::R,φ⟩ (fun _ h=>h) ?_
 cases hm
 exact d_retC () Try.results101 (res_nil rfl) hl152.2 (fun W h=>h.phi (fun W hφ=>hφ)) (.inl rfl)
noncomputable def m_name_two (p0 : ByteArray) (p1 : ByteArray) : Option ((List ByteArray)×(List ByteArray)×Bool):=
  (m_name_Lower p0).bind fun x1=>
  (m_name_Labels x1).bind fun (z9 : (List ByteArray)×Int)=>
  (m_name_Lower p1).bind fun x10=>
  (m_name_Labels x10).bind fun (z18 : (List ByteArray)×Int)=>
  (m_slices_Reverse_101 z9.1).bind fun x19=>
  (m_slices_Reverse_101 z18.1).bind fun x22=>
  if z9.2 = 0 then
    some (x19,x22,decide (z18.2 = 0))
  else
    some (x19,x22,false)
theorem c_name_two {w0 : World} {M : Nat→Prop} {H : List (Nat×Nat×Obj)} {R : List (Nat×Row)} {φ : World→Prop} (p0 : ByteArray) (p1 : ByteArray) (r : (List ByteArray)×(List ByteArray)×Bool) (hm : m_name_two p0 p1 = some r) :
    Cn Try.prog 83 #[.string p0,.string p1] ⟨w0,M,H,R,φ⟩ (fun x : Option Addr×Nat×Option Addr×Nat=>.tuple #[.slice x.1 r.1.length x.2.1,.slice x.2.2.1 r.2.1.length x.2.2.2,.bool r.2.2]) (fun x=>r.1.length ≤ x.2.1∧r.2.1.length ≤ x.2.2.2) (fun x=>⟨w0,M,H,(2000,⟨.slice x.1 r.1.length x.2.1,9,1,r.1.length,r.1.flatMap (fun x : ByteArray=>[Value.string x])⟩)::(2001,⟨.slice x.2.2.1 r.2.1.length x.2.2.2,9,1,r.2.1.length,r.2.1.flatMap (fun x : ByteArray=>[Value.string x])⟩)::R,φ⟩):=by
 unfold m_name_two at hm
 refine cn_intro (fn:=Try.f83) (N:=35) Try.func83 rfl Try.ntmps83 rfl<|c_seq<|c_region ?_
 iterate 3 refine g_v rfl r_assign ?_
 refine g_nil<|d_then<|c_seq<|c_region<|g_v rfl r_move ?_
 replace hm:=bnd hm
 obtain ⟨x1,hx2,hm⟩:=hm
 refine g_cn ⟨w0,M,_,_,φ⟩ (fun _ h=>h) Try.call80 rfl rfl (c_name_Lower p0 _ hx2) (fun _ _=>?_)
 replace hm:=bnd hm
 obtain ⟨⟨x3,x4⟩,hx5,hm⟩:=hm
 refine g_cn ⟨w0,M,_,_,φ⟩ (fun _ h=>h) Try.call63 rfl rfl (c_name_Labels x1 _ hx5) (fun ⟨A6,c7⟩ hc7=>?_)
 refine g_sta _ (fun W h=>(ok_frontR (t:=2000) (t':=100140) h rfl))<|g_v rfl r_move<|g_v rfl (r_extract rfl rfl)<|g_v rfl (r_extract rfl rfl)<|g_v rfl r_assign<|g_v rfl r_assign<|g_nil<|d_then ?_
 refine c_flat [(1,.string p1),(7,.slice A6 x3.length c7),(8,.int .i64 x4)] ⟨rfl,rfl,rfl,trivial⟩ (fun u=>?_)
 refine c_sta ⟨w0,M,H,(100140,⟨.slice A6 x3.length c7,9,1,x3.length,x3.flatMap (fun x : ByteArray=>[Value.string x])⟩)::R,φ⟩ (fun _ h=>h)<|c_seq<|c_region<|g_v rfl r_move ?_
 replace hm:=bnd hm
 obtain ⟨x10,hx11,hm⟩:=hm
 refine g_cn ⟨w0,M,_,_,φ⟩ (fun _ h=>h) Try.call80 rfl rfl (c_name_Lower p1 _ hx11) (fun _ _=>?_)
 replace hm:=bnd hm
 obtain ⟨⟨x12,x13⟩,hx14,hm⟩:=hm
 refine g_cn ⟨w0,M,_,_,φ⟩ (fun _ h=>h) Try.call63 rfl rfl (c_name_Labels x10 _ hx14) (fun ⟨A15,c16⟩ hc16=>?_)
 refine g_sta _ (fun W h=>(ok_frontR (t:=2000) (t':=100200) h rfl))<|g_v rfl r_move<|g_v rfl (r_extract rfl rfl)<|g_v rfl (r_extract rfl rfl)<|g_v rfl r_assign<|g_v rfl r_assign<|g_nil<|d_then<|c_seq<|c_region ?_
 refine g_v rfl r_move ?_
 replace hm:=bnd hm
 obtain ⟨x19,hx20,hm⟩:=hm
 refine g_cn ⟨w0,M,H,(1000,⟨.slice A6 x3.length c7,9,1,x3.length,x3.flatMap (fun x : ByteArray=>[Value.string x])⟩)::(100200,⟨.slice A15 x12.length c16,9,1,x12.length,x12.flatMap (fun x : ByteArray=>[Value.string x])⟩)::R,φ⟩ (fun W h=>(ok_frontR (t:=100140) (t':=1000) h rfl)) Try.call101 rfl rfl (c_slices_Reverse_101 x3 A6 c7 hc7 _ hx20) (fun _ hp21=>?_)
 refine g_sta _ (fun W h=>(ok_frontR (t:=1000) (t':=100140) h rfl)) ?_
 rw [show x3.length = x19.length from hp21.symm]
 refine g_nil<|d_then ?_
 refine c_flat [(7,.slice A6 x19.length c7),(8,.int .i64 x4),(9,.slice A15 x12.length c16),(10,.int .i64 x13)] ⟨rfl,rfl,rfl,rfl,trivial⟩ (fun u=>?_)
 refine c_sta ⟨w0,M,H,(100140,⟨.slice A6 x19.length c7,9,1,x19.length,x19.flatMap (fun x : ByteArray=>[Value.string x])⟩)::(100200,⟨.slice A15 x12.length c16,9,1,x12.length,x12.flatMap (fun x : ByteArray=>[Value.string x])⟩)::R,φ⟩ (fun _ h=>h)<|c_seq<|c_region<|g_v rfl r_move ?_
 replace hm:=bnd hm
 obtain ⟨x22,hx23,hm⟩:=hm
 refine g_cn ⟨w0,M,H,(1000,⟨.slice A15 x12.length c16,9,1,x12.length,x12.flatMap (fun x : ByteArray=>[Value.string x])⟩)::(100140,⟨.slice A6 x19.length c7,9,1,x19.length,x19.flatMap (fun x : ByteArray=>[Value.string x])⟩)::R,φ⟩ (fun W h=>(ok_frontR (t:=100200) (t':=1000) h rfl)) Try.call101 rfl rfl (c_slices_Reverse_101 x12 A15 c16 hc16 _ hx23) (fun _ hp24=>?_)
 refine g_sta _ (fun W h=>(ok_frontR (t:=1000) (t':=100200) h rfl)) ?_
 rw [show x12.length = x22.length from hp24.symm]
 refine g_nil<|d_then<|c_seq<|c_region ?_
 iterate 3 refine g_v rfl r_move ?_
 refine g_v rfl (r_eql rfl rfl)<|g_v rfl r_move<|g_sta ⟨w0,M,H,(100200,⟨.slice A15 x22.length c16,9,1,x22.length,x22.flatMap (fun x : ByteArray=>[Value.string x])⟩)::(100140,⟨.slice A6 x19.length c7,9,1,x19.length,x19.flatMap (fun x : ByteArray=>[Value.string x])⟩)::R,φ⟩ (fun _ h=>h) ?_
 refine g_if rfl rfl rfl rfl rfl (fun h25=>?_) (fun h25=>?_)
 ·
  replace hm:=ite_t hm (of_decide_eq_true h25)
  refine g_v rfl r_move<|g_do rfl rfl rfl rfl rfl h25<|g_v rfl (r_eql rfl rfl)<|g_v rfl (r_pick1 rfl h25) ?_
  iterate 3 refine g_v rfl r_assign ?_
  refine g_nil<|d_then ?_
  refine c_flat [(4,.slice A6 x19.length c7),(5,.slice A15 x22.length c16),(6,.bool (decide (x13 = 0)))] ⟨rfl,rfl,rfl,trivial⟩ (fun u=>?_)
  refine c_ret ?_
  cases hm
  refine d_sta _ (fun W h=>ok_frontR (t:=100200) (t':=2001) h rfl)<|d_sta _ (fun W h=>ok_frontR (t:=100140) (t':=2000) h rfl) ?_
  exact d_retC (A6,c7,A15,c16) Try.results83 (res_tmp (res_tmp (res_tmp (res_nil rfl)))) ⟨(Nat.le_trans (Nat.le_of_eq hp21) hc7),(Nat.le_trans (Nat.le_of_eq hp24) hc16)⟩ (fun W h=>h.phi (fun W hφ=>hφ)) (.inr rfl)
 replace hm:=ite_f hm (of_decide_eq_false h25)
 refine g_no rfl rfl rfl rfl rfl h25<|g_v rfl (r_pick0 rfl h25) ?_
 iterate 3 refine g_v rfl r_assign ?_
 refine g_nil<|d_then ?_
 refine c_flat [(4,.slice A6 x19.length c7),(5,.slice A15 x22.length c16),(6,.bool false)] ⟨rfl,rfl,rfl,trivial⟩ (fun u=>?_)
 refine c_ret ?_
 cases hm
 refine d_sta _ (fun W h=>ok_frontR (t:=100200) (t':=2001) h rfl)<|d_sta _ (fun W h=>ok_frontR (t:=100140) (t':=2000) h rfl) ?_
 exact d_retC (A6,c7,A15,c16) Try.results83 (res_tmp (res_tmp (res_tmp (res_nil rfl)))) ⟨(Nat.le_trans (Nat.le_of_eq hp21) hc7),(Nat.le_trans (Nat.le_of_eq hp24) hc16)⟩ (fun W h=>h.phi (fun W hφ=>hφ)) (.inr rfl)
noncomputable def m_name_Shared_c1 (p0 : Int) (o0 : List ByteArray) (o1 : List ByteArray) : Option Bool:=
  if p0 < (o0.length : Int) then
    if p0 < (o1.length : Int) then
      (at_ o0 p0).bind fun x23=>
      (at_ o1 p0).bind fun x27=>
      some (decide (x23 = x27))
    else
      some false
  else
    some false
theorem c_name_Shared_c1 {w0 : World} {M : Nat→Prop} {H : List (Nat×Nat×Obj)} {R : List (Nat×Row)} {φ : World→Prop} (p0 : Int) (go0 : Nat) (o0 : List ByteArray) (Ao0_0 : Option Addr) (co0_0 : Nat) (hco0_0 : o0.length ≤ co0_0) (go1 : Nat) (o1 : List ByteArray) (Ao1_0 : Option Addr) (co1_0 : Nat) (hco1_0 : o1.length ≤ co1_0) (r : Bool) (hm : m_name_Shared_c1 p0 o0 o1 = some r) :
    Cn Try.prog 84 #[.int .i64 p0,.pointer (some ⟨go0,0,none⟩),.pointer (some ⟨go1,0,none⟩)] ⟨w0,M,(1000,go0,.cells #[.slice Ao0_0 o0.length co0_0] 73 (0,0))::(1001,go1,.cells #[.slice Ao1_0 o1.length co1_0] 73 (0,0))::H,(1000,⟨.slice Ao0_0 o0.length co0_0,9,1,o0.length,o0.flatMap (fun x : ByteArray=>[Value.string x])⟩)::(1001,⟨.slice Ao1_0 o1.length co1_0,9,1,o1.length,o1.flatMap (fun x : ByteArray=>[Value.string x])⟩)::R,φ⟩ (fun x : Unit=>.bool r) (fun x=>True) (fun x=>⟨w0,M,(1000,go0,.cells #[.slice Ao0_0 o0.length co0_0] 73 (0,0))::(1001,go1,.cells #[.slice Ao1_0 o1.length co1_0] 73 (0,0))::H,(1000,⟨.slice Ao0_0 o0.length co0_0,9,1,o0.length,o0.flatMap (fun x : ByteArray=>[Value.string x])⟩)::(1001,⟨.slice Ao1_0 o1.length co1_0,9,1,o1.length,o1.flatMap (fun x : ByteArray=>[Value.string x])⟩)::R,φ⟩):=by
 unfold m_name_Shared_c1 at hm
 refine cn_intro (fn:=Try.f84) (N:=26) Try.func84 rfl Try.ntmps84 rfl<|c_seq<|c_region<|g_v rfl r_assign<|g_nil<|d_then<|c_seq<|ga_start (n:=22) ⟨w0,M,(1000,go0,.cells #[.slice Ao0_0 o0.length co0_0] 73 (0,0))::(1001,go1,.cells #[.slice Ao1_0 o1.length co1_0] 73 (0,0))::H,(1000,⟨.slice Ao0_0 o0.length co0_0,9,1,o0.length,o0.flatMap (fun x : ByteArray=>[Value.string x])⟩)::(1001,⟨.slice Ao1_0 o1.length co1_0,9,1,o1.length,o1.flatMap (fun x : ByteArray=>[Value.string x])⟩)::R,φ⟩ [] #[false,false,false,false,false,false,false,false,false,false,false,false,false,false,false,false,false,false,false,false,false,false] (fun W h=>h.phi (fun W hφ=>hφ)) mixed rfl rfl<|ga_v (i:=0) (bz 22 1) rfl (by kernel_rfl) (fun _ _ _ _ h=>h) rfl (r_move)<|ga_r (i:=1) (bz 22 3) rfl (by kernel_rfl) (by decide) rfl (r_load (tag:=1000) rfl rfl rfl Try.isAgg73) ?_
 refine ga_r (i:=2) (bz 22 7) rfl (by kernel_rfl) (by decide) rfl (r_lenL Try.underlying73 rfl)<|ga_r (i:=3) (bz 22 15) rfl (by kernel_rfl) (by decide) rfl (r_lss rfl rfl)<|ga_r (i:=4) (bz 22 31) rfl (by kernel_rfl) (by decide) rfl (r_move) ?_
 refine ga_if (t:=9) rfl (fun h21=>?_) (fun h21=>?_)
 ·
  replace hm:=ite_t hm (of_decide_eq_true h21)
  refine ga_do (i:=5) (bz 22 63) rfl (by kernel_rfl) (fun _ _ _ _ h=>h) rfl rfl rfl rfl rfl h21 (r_move)<|ga_rG (i:=6) (bz 22 127) rfl (by kernel_rfl) (by decide) rfl rfl rfl rfl rfl h21 (r_load (tag:=1001) rfl rfl rfl Try.isAgg73)<|ga_rG (i:=7) (bz 22 255) rfl (by kernel_rfl) (by decide) rfl rfl rfl rfl rfl h21 (r_lenL Try.underlying73 rfl)<|ga_rG (i:=8) (bz 22 511) rfl (by kernel_rfl) (by decide) rfl rfl rfl rfl rfl h21 (r_lss rfl rfl)<|ga_r (i:=9) (bz 22 1023) rfl (by kernel_rfl) (by decide) rfl (r_pick1 rfl h21)<|ga_r (i:=10) (bz 22 2047) rfl (by kernel_rfl) (by decide) rfl (r_move) ?_
  refine ga_if (t:=15) rfl (fun h22=>?_) (fun h22=>?_)
  ·
   replace hm:=ite_t hm (of_decide_eq_true h22)
   refine ga_do (i:=11) (bz 22 4095) rfl (by kernel_rfl) (fun _ _ _ _ h=>h) rfl rfl rfl rfl rfl h22 (r_load (tag:=1000) rfl rfl rfl Try.isAgg73)<|ga_do (i:=12) (bz 22 8191) rfl (by kernel_rfl) (fun _ _ _ _ h=>h) rfl rfl rfl rfl rfl h22 (r_move) ?_
   replace hm:=bnd hm
   obtain ⟨x23,hx23,hm⟩:=hm
   refine ga_know _ (fun W hS=>cl_at (p:=(Sta.ok ⟨w0,M,(1000,go0,.cells #[.slice Ao0_0 o0.length co0_0] 73 (0,0))::(1001,go1,.cells #[.slice Ao1_0 o1.length co1_0] 73 (0,0))::H,(1000,⟨.slice Ao0_0 o0.length co0_0,9,1,o0.length,o0.flatMap (fun x : ByteArray=>[Value.string x])⟩)::(1001,⟨.slice Ao1_0 o1.length co1_0,9,1,o1.length,o1.flatMap (fun x : ByteArray=>[Value.string x])⟩)::R,φ⟩)) (sz:=1) (fun _=>rfl) (by decide) (hS.phi (fun W hφ=>hφ)) (fun W hS=>rowCl (S:=⟨w0,M,(1000,go0,.cells #[.slice Ao0_0 o0.length co0_0] 73 (0,0))::(1001,go1,.cells #[.slice Ao1_0 o1.length co1_0] 73 (0,0))::H,(1000,⟨.slice Ao0_0 o0.length co0_0,9,1,o0.length,o0.flatMap (fun x : ByteArray=>[Value.string x])⟩)::(1001,⟨.slice Ao1_0 o1.length co1_0,9,1,o1.length,o1.flatMap (fun x : ByteArray=>[Value.string x])⟩)::R,φ⟩) (tag:=1000) rfl W hS) hx23) ?_
   rintro ⟨ad24,hA26,f25⟩
   refine ga_do (i:=13) (bz 22 16383) rfl (by kernel_rfl) (fun _ _ _ _ h=>h) rfl rfl rfl rfl rfl h22 (r_ix Try.underlying73 Try.sizeOf9 rfl hA26 rfl hx23)<|ga_do (i:=14) (bz 22 32767) rfl (by kernel_rfl) (fun _ _ _ _ h=>h) rfl rfl rfl rfl rfl h22 (r_ld rfl Try.isAgg9 (fun W hS=>Cl.head (f25 W hS)))<|ga_do (i:=15) (bz 22 65535) rfl (by kernel_rfl) (fun _ _ _ _ h=>h) rfl rfl rfl rfl rfl h22 (r_load (tag:=1001) rfl rfl rfl Try.isAgg73)<|ga_rG (i:=16) (bz 22 131071) rfl (by kernel_rfl) (by decide) rfl rfl rfl rfl rfl h22 (r_move) ?_
   replace hm:=bnd hm
   obtain ⟨x27,hx27,hm⟩:=hm
   refine ga_know _ (fun W hS=>cl_at (p:=(Sta.ok ⟨w0,M,(1000,go0,.cells #[.slice Ao0_0 o0.length co0_0] 73 (0,0))::(1001,go1,.cells #[.slice Ao1_0 o1.length co1_0] 73 (0,0))::H,(1000,⟨.slice Ao0_0 o0.length co0_0,9,1,o0.length,o0.flatMap (fun x : ByteArray=>[Value.string x])⟩)::(1001,⟨.slice Ao1_0 o1.length co1_0,9,1,o1.length,o1.flatMap (fun x : ByteArray=>[Value.string x])⟩)::R,φ⟩)) (sz:=1) (fun _=>rfl) (by decide) hS (fun W hS=>rowCl (S:=⟨w0,M,(1000,go0,.cells #[.slice Ao0_0 o0.length co0_0] 73 (0,0))::(1001,go1,.cells #[.slice Ao1_0 o1.length co1_0] 73 (0,0))::H,(1000,⟨.slice Ao0_0 o0.length co0_0,9,1,o0.length,o0.flatMap (fun x : ByteArray=>[Value.string x])⟩)::(1001,⟨.slice Ao1_0 o1.length co1_0,9,1,o1.length,o1.flatMap (fun x : ByteArray=>[Value.string x])⟩)::R,φ⟩) (tag:=1001) rfl W hS) hx27) ?_
   rintro ⟨ad28,hA30,f29⟩
   refine ga_rG (i:=17) (bz 22 262143) rfl (by kernel_rfl) (by decide) rfl rfl rfl rfl rfl h22 (r_ix Try.underlying73 Try.sizeOf9 rfl hA30 rfl hx27)<|ga_rG (i:=18) (bz 22 524287) rfl (by kernel_rfl) (by decide) rfl rfl rfl rfl rfl h22 (r_ld rfl Try.isAgg9 (fun W hS=>Cl.head (f29 W hS)))<|ga_rG (i:=19) (bz 22 1048575) rfl (by kernel_rfl) (by decide) rfl rfl rfl rfl rfl h22 (r_eqlT rfl rfl)<|ga_r (i:=20) (bz 22 2097151) rfl (by kernel_rfl) (by decide) rfl (r_pick1 rfl h22)<|ga_r (i:=21) (bz 22 4194303) rfl (by kernel_rfl) (by decide) rfl (r_assign)<|ga_done (by kernel_rfl)<|d_then ?_
   refine c_flat [(4,.bool (decide (x23 = x27)))] ⟨rfl,trivial⟩ (fun u=>?_)
   refine c_sta ⟨w0,M,(1000,go0,.cells #[.slice Ao0_0 o0.length co0_0] 73 (0,0))::(1001,go1,.cells #[.slice Ao1_0 o1.length co1_0] 73 (0,0))::H,(1000,⟨.slice Ao0_0 o0.length co0_0,9,1,o0.length,o0.flatMap (fun x : ByteArray=>[Value.string x])⟩)::(1001,⟨.slice Ao1_0 o1.length co1_0,9,1,o1.length,o1.flatMap (fun x : ByteArray=>[Value.string x])⟩)::R,φ⟩ (fun _ h=>h)<|c_ret ?_
   cases hm
   exact d_retC () Try.results84 (res_tmp (res_nil rfl)) trivial (fun W h=>h.phi (fun W hφ=>hφ)) (.inr rfl)
  replace hm:=ite_f hm (of_decide_eq_false h22)
  refine ga_no (i:=11) (bz 22 4095) rfl (by kernel_rfl) (fun _ _ _ _ h=>h) rfl rfl rfl rfl rfl h22<|ga_no (i:=12) (bz 22 8191) rfl (by kernel_rfl) (fun _ _ _ _ h=>h) rfl rfl rfl rfl rfl h22<|ga_no (i:=13) (bz 22 16383) rfl (by kernel_rfl) (fun _ _ _ _ h=>h) rfl rfl rfl rfl rfl h22<|ga_no (i:=14) (bz 22 32767) rfl (by kernel_rfl) (fun _ _ _ _ h=>h) rfl rfl rfl rfl rfl h22<|ga_no (i:=15) (bz 22 65535) rfl (by kernel_rfl) (fun _ _ _ _ h=>h) rfl rfl rfl rfl rfl h22<|ga_no (i:=16) (bz 22 131071) rfl (by kernel_rfl) (fun _ _ _ _ h=>h) rfl rfl rfl rfl rfl h22<|ga_no (i:=17) (bz 22 262143) rfl (by kernel_rfl) (fun _ _ _ _ h=>h) rfl rfl rfl rfl rfl h22<|ga_no (i:=18) (bz 22 524287) rfl (by kernel_rfl) (fun _ _ _ _ h=>h) rfl rfl rfl rfl rfl h22<|ga_no (i:=19) (bz 22 1048575) rfl (by kernel_rfl) (fun _ _ _ _ h=>h) rfl rfl rfl rfl rfl h22<|ga_r (i:=20) (bz 22 2097151) rfl (by kernel_rfl) (by decide) rfl (r_pick0 rfl h22) ?_
  refine ga_r (i:=21) (bz 22 4194303) rfl (by kernel_rfl) (by decide) rfl (r_assign)<|ga_done (by kernel_rfl)<|d_then ?_
  refine c_flat [(4,.bool false)] ⟨rfl,trivial⟩ (fun u=>?_)
  refine c_sta ⟨w0,M,(1000,go0,.cells #[.slice Ao0_0 o0.length co0_0] 73 (0,0))::(1001,go1,.cells #[.slice Ao1_0 o1.length co1_0] 73 (0,0))::H,(1000,⟨.slice Ao0_0 o0.length co0_0,9,1,o0.length,o0.flatMap (fun x : ByteArray=>[Value.string x])⟩)::(1001,⟨.slice Ao1_0 o1.length co1_0,9,1,o1.length,o1.flatMap (fun x : ByteArray=>[Value.string x])⟩)::R,φ⟩ (fun _ h=>h)<|c_ret ?_
  cases hm
  exact d_retC () Try.results84 (res_tmp (res_nil rfl)) trivial (fun W h=>h.phi (fun W hφ=>hφ)) (.inr rfl)
 replace hm:=ite_f hm (of_decide_eq_false h21)
 refine ga_no (i:=5) (bz 22 63) rfl (by kernel_rfl) (fun _ _ _ _ h=>h) rfl rfl rfl rfl rfl h21<|ga_no (i:=6) (bz 22 127) rfl (by kernel_rfl) (fun _ _ _ _ h=>h) rfl rfl rfl rfl rfl h21<|ga_no (i:=7) (bz 22 255) rfl (by kernel_rfl) (fun _ _ _ _ h=>h) rfl rfl rfl rfl rfl h21<|ga_no (i:=8) (bz 22 511) rfl (by kernel_rfl) (fun _ _ _ _ h=>h) rfl rfl rfl rfl rfl h21<|ga_r (i:=9) (bz 22 1023) rfl (by kernel_rfl) (by decide) rfl (r_pick0 rfl h21)<|ga_r (i:=10) (bz 22 2047) rfl (by kernel_rfl) (by decide) rfl (r_move)<|ga_no (i:=11) (bz 22 4095) rfl (by kernel_rfl) (fun _ _ _ _ h=>h) rfl rfl rfl rfl rfl rfl<|ga_no (i:=12) (bz 22 8191) rfl (by kernel_rfl) (fun _ _ _ _ h=>h) rfl rfl rfl rfl rfl rfl<|ga_no (i:=13) (bz 22 16383) rfl (by kernel_rfl) (fun _ _ _ _ h=>h) rfl rfl rfl rfl rfl rfl<|ga_no (i:=14) (bz 22 32767) rfl (by kernel_rfl) (fun _ _ _ _ h=>h) rfl rfl rfl rfl rfl rfl ?_
 refine ga_no (i:=15) (bz 22 65535) rfl (by kernel_rfl) (fun _ _ _ _ h=>h) rfl rfl rfl rfl rfl rfl<|ga_no (i:=16) (bz 22 131071) rfl (by kernel_rfl) (fun _ _ _ _ h=>h) rfl rfl rfl rfl rfl rfl<|ga_no (i:=17) (bz 22 262143) rfl (by kernel_rfl) (fun _ _ _ _ h=>h) rfl rfl rfl rfl rfl rfl<|ga_no (i:=18) (bz 22 524287) rfl (by kernel_rfl) (fun _ _ _ _ h=>h) rfl rfl rfl rfl rfl rfl<|ga_no (i:=19) (bz 22 1048575) rfl (by kernel_rfl) (fun _ _ _ _ h=>h) rfl rfl rfl rfl rfl rfl<|ga_r (i:=20) (bz 22 2097151) rfl (by kernel_rfl) (by decide) rfl (r_pick0 rfl rfl)<|ga_r (i:=21) (bz 22 4194303) rfl (by kernel_rfl) (by decide) rfl (r_assign)<|ga_done (by kernel_rfl)<|d_then ?_
 refine c_flat [(4,.bool false)] ⟨rfl,trivial⟩ (fun u=>?_)
 refine c_sta ⟨w0,M,(1000,go0,.cells #[.slice Ao0_0 o0.length co0_0] 73 (0,0))::(1001,go1,.cells #[.slice Ao1_0 o1.length co1_0] 73 (0,0))::H,(1000,⟨.slice Ao0_0 o0.length co0_0,9,1,o0.length,o0.flatMap (fun x : ByteArray=>[Value.string x])⟩)::(1001,⟨.slice Ao1_0 o1.length co1_0,9,1,o1.length,o1.flatMap (fun x : ByteArray=>[Value.string x])⟩)::R,φ⟩ (fun _ h=>h)<|c_ret ?_
 cases hm
 exact d_retC () Try.results84 (res_tmp (res_nil rfl)) trivial (fun W h=>h.phi (fun W hφ=>hφ)) (.inr rfl)
noncomputable def m_name_Shared_j1  (i25 : Int) : Option Int:=
  some i25
noncomputable def m_name_Shared_s2 (x1 : List ByteArray) (x2 : List ByteArray) (i30 : Int) : Option (Int ⊕ Int):=
  (m_name_Shared_c1 i30 x1 x2).bind fun x36=>
  if x36 = true then
    some (.inl (w64 (i30 + 1)))
  else
    some (.inr i30)
noncomputable def m_name_Shared (p0 : ByteArray) (p1 : ByteArray) : Option Int:=
  (m_name_two p0 p1).bind fun (z11 : (List ByteArray)×(List ByteArray)×Bool)=>
  if z11.2.2 = true then
    (loop (fun s=>m_name_Shared_s2 z11.1 z11.2.1 s) 0).bind fun e=>m_name_Shared_j1 e
  else
    some (-1)
theorem c_name_Shared {w0 : World} {M : Nat→Prop} {H : List (Nat×Nat×Obj)} {R : List (Nat×Row)} {φ : World→Prop} (p0 : ByteArray) (p1 : ByteArray) (r : Int) (hm : m_name_Shared p0 p1 = some r) :
    Cn Try.prog 65 #[.string p0,.string p1] ⟨w0,M,H,R,φ⟩ (fun x : Unit=>.int .i64 r) (fun x=>True) (fun x=>⟨w0,M,H,R,φ⟩):=by
 unfold m_name_Shared at hm
 refine cn_intro (fn:=Try.f65) (N:=26) Try.func65 rfl Try.ntmps65 rfl<|c_seq<|c_region<|g_v rfl r_assign<|g_nil<|d_then<|c_seq<|c_region<|g_v rfl r_move<|g_v rfl r_move ?_
 replace hm:=bnd hm
 obtain ⟨⟨x1,x2,x3⟩,hx4,hm⟩:=hm
 refine g_cn ⟨w0,M,_,_,φ⟩ (fun _ h=>h) Try.call83 rfl rfl (c_name_two p0 p1 _ hx4) (fun ⟨A5,c6,A8,c9⟩ ⟨hc6,hc9⟩=>?_)
 refine g_sta _ (fun W h=>(ok_frontR (t:=2000) (t':=100130) (ok_frontR (t:=2001) (t':=100131) h rfl) rfl))<|g_v rfl r_move ?_
 iterate 3 refine g_v rfl (r_extract rfl rfl) ?_
 refine g_e rfl (e_alloc 100050 Try.zeroValue73) (fun g12 _=>?_)
 refine g_e rfl (e_alloc 100060 Try.zeroValue73) (fun g13 _=>?_)
 refine g_storeL (tag:=100050) rfl rfl rfl rfl Try.sizeOf73 rfl rfl<|g_storeL (tag:=100060) rfl rfl rfl rfl Try.sizeOf73 rfl rfl<|g_v rfl r_assign<|g_nil<|d_then ?_
 refine c_flat [(5,.pointer (some ⟨g12,0,none⟩)),(6,.pointer (some ⟨g13,0,none⟩)),(7,.bool x3)] ⟨rfl,rfl,rfl,trivial⟩ (fun u=>?_)
 refine c_sta ⟨w0,M,(100060,g13,.cells #[.slice A8 x2.length c9] 73 (0,0))::(100050,g12,.cells #[.slice A5 x1.length c6] 73 (0,0))::H,(100130,⟨.slice A5 x1.length c6,9,1,x1.length,x1.flatMap (fun x : ByteArray=>[Value.string x])⟩)::(100131,⟨.slice A8 x2.length c9,9,1,x2.length,x2.flatMap (fun x : ByteArray=>[Value.string x])⟩)::R,φ⟩ (fun _ h=>h)<|c_seq<|c_seq<|c_region<|g_v rfl r_move<|g_v rfl (r_not rfl)<|g_nil<|d_then ?_
 refine c_cond rfl (fun h14=>?_) (fun h14=>?_)
 ·
  have h14' : x3 = false:=by revert h14; cases x3 <;> simp
  replace hm:=ite_f hm (bool_nt h14')
  refine c_seq<|c_region<|g_v rfl r_assign<|g_nil<|d_then<|c_ret<|d_ret_then ?_
  cases hm
  exact d_retC () Try.results65 (res_tmp (res_nil rfl)) trivial (fun W h=>ok_pre (H1:=[_,_]) (R1:=[_,_]) h (fun W hφ=>hφ)) (.inr rfl)
 have h14' : x3 = true:=by revert h14; cases x3 <;> simp
 replace hm:=ite_t hm h14'
 refine c_skip<|d_then<|c_seq<|c_region<|g_v rfl (r_mkf rfl)<|g_v rfl r_assign<|g_nil<|d_then<|c_seq<|c_region ?_
 refine g_v rfl r_assign<|g_nil<|d_then<|c_seq ?_
 refine c_cut (ι:=Int) [9] (fun i25=>[(9,.int .i64 i25)]) (fun i25=>⟨w0,M,H,R,φ⟩) (fun i25=>m_name_Shared_j1 i25 = some r) ?_ (fun i25 u hm=>?_)
 ·
  refine c_block ?_
  replace hm:=bnd hm
  obtain ⟨out2,hl2,hr2⟩:=hm
  obtain ⟨n35',hl2⟩:=loop_lp hl2
  refine c_loopU (ι:=Nat×Int) [8,9] (fun ⟨n35,i30⟩=>[(9,.int .i64 i30)]) (fun ⟨n35,i30⟩=>⟨w0,M,(100060,g13,.cells #[.slice A8 x2.length c9] 73 (0,0))::(100050,g12,.cells #[.slice A5 x1.length c6] 73 (0,0))::H,(100130,⟨.slice A5 x1.length c6,9,1,x1.length,x1.flatMap (fun x : ByteArray=>[Value.string x])⟩)::(100131,⟨.slice A8 x2.length c9,9,1,x2.length,x2.flatMap (fun x : ByteArray=>[Value.string x])⟩)::R,φ⟩) (fun ⟨n35,i30⟩=>Lp (fun s=>m_name_Shared_s2 x1 x2 s) n35 i30 out2) (fun ⟨n35,i30⟩=>n35) (n35',0) hl2 ⟨rfl,rfl,trivial⟩ (fun W h=>h.phi (fun W hφ=>hφ)) (fun ⟨n35,i30⟩ u hlp=>?_)
  obtain ⟨o2,hm,hnx2⟩:=lp_step hlp
  clear hlp
  replace hm : m_name_Shared_s2 x1 x2 i30 = some o2:=hm
  unfold m_name_Shared_s2 at hm
  refine c_flat [(8,.func (.func 84) #[] #[.pointer (some ⟨g12,0,none⟩),.pointer (some ⟨g13,0,none⟩)]),(9,.int .i64 i30)] ⟨rfl,rfl,trivial⟩ (fun u=>?_)
  refine c_seq<|c_seq<|c_region<|g_v rfl r_move<|g_v rfl r_move ?_
  replace hm:=bnd hm
  obtain ⟨x36,hx37,hm⟩:=hm
  refine g_cnv ⟨w0,M,(1000,g12,.cells #[.slice A5 x1.length c6] 73 (0,0))::(1001,g13,.cells #[.slice A8 x2.length c9] 73 (0,0))::H,(1000,⟨.slice A5 x1.length c6,9,1,x1.length,x1.flatMap (fun x : ByteArray=>[Value.string x])⟩)::(1001,⟨.slice A8 x2.length c9,9,1,x2.length,x2.flatMap (fun x : ByteArray=>[Value.string x])⟩)::R,φ⟩ (fun W h=>(ok_front (t:=100050) (t':=1000) (ok_front (t:=100060) (t':=1001) (ok_frontR (t:=100130) (t':=1000) (ok_frontR (t:=100131) (t':=1001) h rfl) rfl) rfl) rfl)) Try.call84 rfl rfl rfl (c_name_Shared_c1 i30 g12 x1 A5 c6 hc6 g13 x2 A8 c9 hc9 _ hx37) (fun _ _=>?_)
  refine g_sta _ (fun W h=>(ok_frontR (t:=1000) (t':=100130) (ok_frontR (t:=1001) (t':=100131) (ok_front (t:=1000) (t':=100050) (ok_front (t:=1001) (t':=100060) h rfl) rfl) rfl) rfl))<|g_nil<|d_then<|c_sta ⟨w0,M,(100050,g12,.cells #[.slice A5 x1.length c6] 73 (0,0))::(100060,g13,.cells #[.slice A8 x2.length c9] 73 (0,0))::H,(100130,⟨.slice A5 x1.length c6,9,1,x1.length,x1.flatMap (fun x : ByteArray=>[Value.string x])⟩)::(100131,⟨.slice A8 x2.length c9,9,1,x2.length,x2.flatMap (fun x : ByteArray=>[Value.string x])⟩)::R,φ⟩ (fun _ h=>h) ?_
  refine c_cond rfl (fun h38=>?_) (fun h38=>?_)
  ·
   replace hm:=ite_t hm h38
   refine c_skip<|d_then<|c_block<|c_region<|g_v rfl r_move<|g_v rfl (r_add rfl rfl rfl)<|g_v rfl r_assign<|g_nil<|d_normal_block ?_
   obtain ⟨n39,hn39,hlp⟩:=nx_inl hm hnx2
   exact d_round (n39,w64 (i30 + 1)) hlp hn39 ⟨rfl,rfl,trivial⟩ (fun W h=>(ok_front (t:=100060) (t':=100060) (ok_front (t:=100050) (t':=100050) h rfl) rfl).phi (fun W hφ=>hφ))
  replace hm:=ite_f hm (bool_nt h38)
  refine c_exit<|d_exit_then<|d_exit_then<|d_exit_block ?_
  replace hm:=nx_out (C:=(fun e : Int=>m_name_Shared_j1 e = some r)) hm hnx2 hr2
  exact d_round i30 hm Nat.zero_lt_one ⟨rfl,trivial⟩ (fun W h=>((((h.dropR (t:=100130) rfl).dropR (t:=100131) rfl).dropH (t:=100050) rfl).dropH (t:=100060) rfl).phi (fun W hφ=>hφ))
 unfold m_name_Shared_j1 at hm
 refine d_flat [(9,.int .i64 i25)] ⟨rfl,trivial⟩ (fun u=>?_)
 refine d_sta ⟨w0,M,H,R,φ⟩ (fun _ h=>h)<|d_then<|c_seq<|c_region<|g_v rfl r_move<|g_v rfl r_assign<|g_nil<|d_then<|c_ret ?_
 cases hm
 exact d_retC () Try.results65 (res_tmp (res_nil rfl)) trivial (fun W h=>ok_pre (H1:=[]) (R1:=[]) h (fun W hφ=>hφ)) (.inr rfl)
noncomputable def m_name_Under (p0 : ByteArray) (p1 : ByteArray) : Option Bool:=
  (m_name_Depth p1).bind fun x1=>
  if 0 ≤ x1 then
    (m_name_Shared p0 p1).bind fun x4=>
    some (decide (x4 = x1))
  else
    some false
theorem c_name_Under {w0 : World} {M : Nat→Prop} {H : List (Nat×Nat×Obj)} {R : List (Nat×Row)} {φ : World→Prop} (p0 : ByteArray) (p1 : ByteArray) (r : Bool) (hm : m_name_Under p0 p1 = some r) :
    Cn Try.prog 35 #[.string p0,.string p1] ⟨w0,M,H,R,φ⟩ (fun x : Unit=>.bool r) (fun x=>True) (fun x=>⟨w0,M,H,R,φ⟩):=by
 unfold m_name_Under at hm
 refine cn_intro (fn:=Try.f35) (N:=17) Try.func35 rfl Try.ntmps35 rfl<|c_seq<|c_region<|g_v rfl r_assign<|g_nil<|d_then<|c_seq<|c_region<|g_v rfl r_move ?_
 replace hm:=bnd hm
 obtain ⟨x1,hx2,hm⟩:=hm
 refine g_cn ⟨w0,M,_,_,φ⟩ (fun _ h=>h) Try.call36 rfl rfl (c_name_Depth p1 _ hx2) (fun _ _=>?_)
 refine g_v rfl r_assign<|g_nil<|d_then<|c_seq<|c_region<|g_v rfl r_move<|g_v rfl (r_geq rfl rfl)<|g_v rfl r_move ?_
 refine g_if rfl rfl rfl rfl rfl (fun h3=>?_) (fun h3=>?_)
 ·
  replace hm:=ite_t hm (of_decide_eq_true h3)
  refine g_v rfl r_move<|g_do rfl rfl rfl rfl rfl h3<|g_v rfl r_move<|g_do rfl rfl rfl rfl rfl h3 ?_
  replace hm:=bnd hm
  obtain ⟨x4,hx5,hm⟩:=hm
  refine g_cn ⟨w0,M,_,_,φ⟩ (fun _ h=>h) Try.call65 rfl rfl (c_name_Shared p0 p1 _ hx5) (fun _ _=>?_)
  refine g_do rfl rfl rfl rfl rfl h3<|g_v rfl r_move<|g_do rfl rfl rfl rfl rfl h3<|g_v rfl (r_eql rfl rfl)<|g_v rfl (r_pick1 rfl h3)<|g_v rfl r_assign<|g_nil<|d_then ?_
  refine c_flat [(4,.bool (decide (x4 = x1)))] ⟨rfl,trivial⟩ (fun u=>?_)
  refine c_sta ⟨w0,M,H,R,φ⟩ (fun _ h=>h)<|c_ret ?_
  cases hm
  exact d_retC () Try.results35 (res_tmp (res_nil rfl)) trivial (fun W h=>ok_pre (H1:=[]) (R1:=[]) h (fun W hφ=>hφ)) (.inr rfl)
 replace hm:=ite_f hm (of_decide_eq_false h3)
 iterate 4 refine g_no rfl rfl rfl rfl rfl h3 ?_
 refine g_v rfl (r_pick0 rfl h3)<|g_v rfl r_assign<|g_nil<|d_then ?_
 refine c_flat [(4,.bool false)] ⟨rfl,trivial⟩ (fun u=>?_)
 refine c_sta ⟨w0,M,H,R,φ⟩ (fun _ h=>h)<|c_ret ?_
 cases hm
 exact d_retC () Try.results35 (res_tmp (res_nil rfl)) trivial (fun W h=>ok_pre (H1:=[]) (R1:=[]) h (fun W hφ=>hφ)) (.inr rfl)
noncomputable def m_name_Check (p0 : ByteArray) : Option Int:=
  (m_name_Labels p0).bind fun (z7 : (List ByteArray)×Int)=>
  some z7.2
theorem c_name_Check {w0 : World} {M : Nat→Prop} {H : List (Nat×Nat×Obj)} {R : List (Nat×Row)} {φ : World→Prop} (p0 : ByteArray) (r : Int) (hm : m_name_Check p0 = some r) :
    Cn Try.prog 31 #[.string p0] ⟨w0,M,H,R,φ⟩ (fun x : Unit=>.int .i64 r) (fun x=>True) (fun x=>⟨w0,M,H,R,φ⟩):=by
 unfold m_name_Check at hm
 refine cn_intro (fn:=Try.f31) (N:=11) Try.func31 rfl Try.ntmps31 rfl<|c_seq<|c_region<|g_v rfl r_assign<|g_nil<|d_then<|c_seq<|c_region<|g_v rfl r_move ?_
 replace hm:=bnd hm
 obtain ⟨⟨x1,x2⟩,hx3,hm⟩:=hm
 refine g_cn ⟨w0,M,_,_,φ⟩ (fun _ h=>h) Try.call63 rfl rfl (c_name_Labels p0 _ hx3) (fun ⟨A4,c5⟩ hc5=>?_)
 refine g_sta _ (fun W h=>(ok_frontR (t:=2000) (t':=100070) h rfl))<|g_v rfl r_move<|g_v rfl (r_extract rfl rfl)<|g_v rfl (r_extract rfl rfl)<|g_v rfl r_assign<|g_v rfl r_assign<|g_nil<|d_then<|c_seq<|c_region ?_
 refine g_v rfl r_move<|g_v rfl r_assign<|g_nil<|d_then ?_
 refine c_flat [(2,.int .i64 x2)] ⟨rfl,trivial⟩ (fun u=>?_)
 refine c_sta ⟨w0,M,H,(100070,⟨.slice A4 x1.length c5,9,1,x1.length,x1.flatMap (fun x : ByteArray=>[Value.string x])⟩)::R,φ⟩ (fun _ h=>h)<|c_ret ?_
 cases hm
 exact d_retC () Try.results31 (res_tmp (res_nil rfl)) trivial (fun W h=>ok_pre (H1:=[]) (R1:=[_]) h (fun W hφ=>hφ)) (.inr rfl)
structure Grecord_shape where
  fahead : Int
  fnames : Int
  fbehind : Int
  deriving DecidableEq
def Grecord_shape.enc (e : Grecord_shape) : List Value:=[.int .i64 e.fahead,.int .i64 e.fnames,.int .i64 e.fbehind]
theorem bld97_12 (z0 : Int) (z1 : Int) (z2 : Int) : ∀ W,(Instr.build 97 #[(0,.int .i64 z0),(1,.int .i64 z1),(2,.int .i64 z2)]).run Try.prog W = .ok (.agg #[.int .i64 z0,.int .i64 z1,.int .i64 z2]) W:=fun _=>by kernel_rfl
theorem bld97_13  : ∀ W,(Instr.build 97 #[]).run Try.prog W = .ok (.agg #[.int .i64 0,.int .i64 0,.int .i64 0]) W:=fun _=>by kernel_rfl
noncomputable def m_record_shapeOf_j1 (p0 : Int) (b4 : Bool) : Option Grecord_shape:=
  if b4 = true then
    some (⟨0,1,0⟩ : Grecord_shape)
  else
    if p0 = 15 then
      some (⟨2,1,0⟩ : Grecord_shape)
    else
      if p0 = 6 then
        some (⟨0,2,20⟩ : Grecord_shape)
      else
        some (⟨0,0,0⟩ : Grecord_shape)
noncomputable def m_record_shapeOf (p0 : Int) : Option Grecord_shape:=
  if p0 = 2 then
    m_record_shapeOf_j1 p0 (decide (p0 = 2))
  else
    if p0 = 5 then
      m_record_shapeOf_j1 p0 (decide (p0 = 5))
    else
      m_record_shapeOf_j1 p0 (decide (p0 = 12))
theorem c_record_shapeOf {w0 : World} {M : Nat→Prop} {H : List (Nat×Nat×Obj)} {R : List (Nat×Row)} {φ : World→Prop} (p0 : Int) (r : Grecord_shape) (hm : m_record_shapeOf p0 = some r) :
    Cn Try.prog 57 #[.int .u16 p0] ⟨w0,M,H,R,φ⟩ (fun x : Unit=>.agg #[.int .i64 r.fahead,.int .i64 r.fnames,.int .i64 r.fbehind]) (fun x=>True) (fun x=>⟨w0,M,H,R,φ⟩):=by
 unfold m_record_shapeOf at hm
 refine cn_intro (fn:=Try.f57) (N:=16) Try.func57 rfl Try.ntmps57 rfl<|c_seq<|c_region ?_
 refine g_e rfl (e_alloc 100020 Try.zeroValue97) (fun g1 _=>?_)
 refine g_nil<|d_then<|c_seq<|c_seq<|c_region<|g_v rfl r_move<|g_nil<|d_then<|c_block<|c_seq ?_
 refine c_cut (ι:=Bool) [2,3,4] (fun b4=>[(4,.bool b4)]) (fun b4=>⟨w0,M,(100020,g1,.cells #[.int .i64 0,.int .i64 0,.int .i64 0] 97 (0,0))::H,R,φ⟩) (fun b4=>m_record_shapeOf_j1 p0 b4 = some r) ?_ (fun b4 u hm=>?_)
 ·
  refine c_seq<|c_region<|g_v rfl (r_eql rfl rfl)<|g_v rfl r_assign<|g_nil<|d_then ?_
  refine c_cond rfl (fun h8=>?_) (fun h8=>?_)
  ·
   replace hm:=ite_t hm (of_decide_eq_true h8)
   refine c_skip ?_
   exact d_round (decide (p0 = 2)) hm Nat.zero_lt_one ⟨rfl,rfl,rfl,trivial⟩ (fun W h=>h.phi (fun W hφ=>hφ))
  replace hm:=ite_f hm (of_decide_eq_false h8)
  refine c_seq<|c_region<|g_v rfl (r_eql rfl rfl)<|g_v rfl r_assign<|g_nil<|d_then ?_
  refine c_cond rfl (fun h9=>?_) (fun h9=>?_)
  ·
   replace hm:=ite_t hm (of_decide_eq_true h9)
   refine c_skip ?_
   exact d_round (decide (p0 = 5)) hm Nat.zero_lt_one ⟨rfl,rfl,rfl,trivial⟩ (fun W h=>h.phi (fun W hφ=>hφ))
  replace hm:=ite_f hm (of_decide_eq_false h9)
  refine c_region<|g_v rfl (r_eql rfl rfl)<|g_v rfl r_assign<|g_nil ?_
  exact d_round (decide (p0 = 12)) hm Nat.zero_lt_one ⟨rfl,rfl,rfl,trivial⟩ (fun W h=>h.phi (fun W hφ=>hφ))
 unfold m_record_shapeOf_j1 at hm
 refine d_flat [(2,.pointer (some ⟨g1,0,none⟩)),(3,.int .u16 p0),(4,.bool b4)] ⟨rfl,rfl,rfl,trivial⟩ (fun u=>?_)
 refine d_sta ⟨w0,M,(100020,g1,.cells #[.int .i64 0,.int .i64 0,.int .i64 0] 97 (0,0))::H,R,φ⟩ (fun _ h=>h)<|d_then ?_
 refine c_cond rfl (fun h5=>?_) (fun h5=>?_)
 ·
  replace hm:=ite_t hm h5
  refine c_seq<|c_region<|g_v rfl (r_build _ rfl (bld97_12 _ _ _))<|g_storeL (tag:=100020) rfl rfl rfl rfl Try.sizeOf97 rfl rfl<|g_nil<|d_then<|c_ret<|d_ret_block<|d_ret_then ?_
  cases hm
  exact d_retC () Try.results57 (res_agg (tag:=100020) rfl rfl Try.isAgg97 Try.sizeOf97 (res_nil rfl)) trivial (fun W h=>ok_pre (H1:=[_]) (R1:=[]) h (fun W hφ=>hφ)) (.inr rfl)
 replace hm:=ite_f hm (bool_nt h5)
 refine c_seq<|c_region<|g_v rfl (r_eql rfl rfl)<|g_v rfl r_assign<|g_nil<|d_then ?_
 refine c_cond rfl (fun h6=>?_) (fun h6=>?_)
 ·
  replace hm:=ite_t hm (of_decide_eq_true h6)
  refine c_seq<|c_region<|g_v rfl (r_build _ rfl (bld97_12 _ _ _))<|g_storeL (tag:=100020) rfl rfl rfl rfl Try.sizeOf97 rfl rfl<|g_nil<|d_then<|c_ret<|d_ret_block<|d_ret_then ?_
  cases hm
  exact d_retC () Try.results57 (res_agg (tag:=100020) rfl rfl Try.isAgg97 Try.sizeOf97 (res_nil rfl)) trivial (fun W h=>ok_pre (H1:=[_]) (R1:=[]) h (fun W hφ=>hφ)) (.inr rfl)
 replace hm:=ite_f hm (of_decide_eq_false h6)
 refine c_seq<|c_region<|g_v rfl (r_eql rfl rfl)<|g_v rfl r_assign<|g_nil<|d_then ?_
 refine c_cond rfl (fun h7=>?_) (fun h7=>?_)
 ·
  replace hm:=ite_t hm (of_decide_eq_true h7)
  refine c_seq<|c_region<|g_v rfl (r_build _ rfl (bld97_12 _ _ _))<|g_storeL (tag:=100020) rfl rfl rfl rfl Try.sizeOf97 rfl rfl<|g_nil<|d_then<|c_ret<|d_ret_block<|d_ret_then ?_
  cases hm
  exact d_retC () Try.results57 (res_agg (tag:=100020) rfl rfl Try.isAgg97 Try.sizeOf97 (res_nil rfl)) trivial (fun W h=>ok_pre (H1:=[_]) (R1:=[]) h (fun W hφ=>hφ)) (.inr rfl)
 replace hm:=ite_f hm (of_decide_eq_false h7)
 refine c_skip<|d_normal_block<|d_then<|c_seq<|c_region<|g_v rfl (r_build _ rfl (bld97_13))<|g_storeL (tag:=100020) rfl rfl rfl rfl Try.sizeOf97 rfl rfl<|g_nil<|d_then<|c_ret ?_
 cases hm
 exact d_retC () Try.results57 (res_agg (tag:=100020) rfl rfl Try.isAgg97 Try.sizeOf97 (res_nil rfl)) trivial (fun W h=>ok_pre (H1:=[_]) (R1:=[]) h (fun W hφ=>hφ)) (.inr rfl)
structure Grecord_parts where
  fahead : ByteArray
  fbehind : ByteArray
  fnames : List ByteArray
  deriving DecidableEq
theorem bld100_14  : ∀ W,(Instr.build 100 #[]).run Try.prog W = .ok (.agg #[.string (⟨#[]⟩ : ByteArray),.string (⟨#[]⟩ : ByteArray),.slice none 0 0]) W:=fun _=>by kernel_rfl
theorem bld100_15 (z0 : ByteArray) : ∀ W,(Instr.build 100 #[(0,.string z0)]).run Try.prog W = .ok (.agg #[.string z0,.string (⟨#[]⟩ : ByteArray),.slice none 0 0]) W:=fun _=>by kernel_rfl
noncomputable def m_record_shape_cut_c1_j1 (o0 : ByteArray) (o1 : Grecord_parts) (i13 : Int) : Option (Bool×ByteArray×Grecord_parts):=
  if (o0.size : Int) ≤ i13 then
    some (false,o0,o1)
  else
    (scutHi o0 (w64 (i13 + 1))).bind fun s15=>
    (m_name_Check s15).bind fun x16=>
    if x16 ≠ 0 then
      some (false,o0,o1)
    else
      (scutHi o0 (w64 (i13 + 1))).bind fun s29=>
      (app 16 o1.fnames [s29]).bind fun l31=>
      (scutLo o0 (w64 (i13 + 1))).bind fun s34=>
      some (true,s34,(⟨o1.fahead,o1.fbehind,l31⟩ : Grecord_parts))
noncomputable def m_record_shape_cut_c1_s2 (o0 : ByteArray) (i40 : Int) : Option (Int ⊕ Int):=
  if i40 < (o0.size : Int) then
    (sat_ o0 i40).bind fun b48=>
    if b48 ≠ 0 then
      (sat_ o0 i40).bind fun b50=>
      some (.inl (w64 (i40 + (w64 (1 + (w64 b50))))))
    else
      some (.inr i40)
  else
    some (.inr i40)
noncomputable def m_record_shape_cut_c1 (o0 : ByteArray) (o1 : Grecord_parts) : Option (Bool×ByteArray×Grecord_parts):=
  (loop (fun s=>m_record_shape_cut_c1_s2 o0 s) 0).bind fun e=>m_record_shape_cut_c1_j1 o0 o1 e
theorem c_record_shape_cut_c1 {w0 : World} {M : Nat→Prop} {H : List (Nat×Nat×Obj)} {R : List (Nat×Row)} {φ : World→Prop} (go0 : Nat) (o0 : ByteArray) (go1 : Nat) (o1 : Grecord_parts) (Ao1_0 : Option Addr) (co1_0 : Nat) (hco1_0 : o1.fnames.length ≤ co1_0) (r : Bool×ByteArray×Grecord_parts) (hm : m_record_shape_cut_c1 o0 o1 = some r) :
    Cn Try.prog 81 #[.pointer (some ⟨go0,0,none⟩),.pointer (some ⟨go1,0,none⟩)] ⟨w0,M,(1000,go0,.cells #[.string o0] 9 (0,0))::(1001,go1,.cells #[.string o1.fahead,.string o1.fbehind,.slice Ao1_0 o1.fnames.length co1_0] 100 (0,0))::H,(1000,⟨.slice Ao1_0 o1.fnames.length co1_0,9,1,o1.fnames.length,o1.fnames.flatMap (fun x : ByteArray=>[Value.string x])⟩)::R,φ⟩ (fun x : Option Addr×Nat=>.bool r.1) (fun x=>r.2.2.fnames.length ≤ x.2) (fun x=>⟨w0,M,(1000,go0,.cells #[.string r.2.1] 9 (0,0))::(1001,go1,.cells #[.string o1.fahead,.string o1.fbehind,.slice x.1 r.2.2.fnames.length x.2] 100 (0,0))::H,(2000,⟨.slice x.1 r.2.2.fnames.length x.2,9,1,r.2.2.fnames.length,r.2.2.fnames.flatMap (fun x : ByteArray=>[Value.string x])⟩)::R,φ⟩):=by
 unfold m_record_shape_cut_c1 at hm
 refine cn_intro (fn:=Try.f81) (N:=46) Try.func81 rfl Try.ntmps81 rfl<|c_seq<|c_region<|g_v rfl r_assign<|g_nil<|d_then<|c_seq<|c_region<|g_v rfl r_assign<|g_nil ?_
 refine d_then<|c_seq ?_
 refine c_cut (ι:=Int) [0,1,3] (fun i13=>[(3,.int .i64 i13)]) (fun i13=>⟨w0,M,(1000,go0,.cells #[.string o0] 9 (0,0))::(1001,go1,.cells #[.string o1.fahead,.string o1.fbehind,.slice Ao1_0 o1.fnames.length co1_0] 100 (0,0))::H,(1000,⟨.slice Ao1_0 o1.fnames.length co1_0,9,1,o1.fnames.length,o1.fnames.flatMap (fun x : ByteArray=>[Value.string x])⟩)::R,φ⟩) (fun i13=>m_record_shape_cut_c1_j1 o0 o1 i13 = some r) ?_ (fun i13 u hm=>?_)
 ·
  refine c_block ?_
  replace hm:=bnd hm
  obtain ⟨out2,hl2,hr2⟩:=hm
  obtain ⟨n46',hl2⟩:=loop_lp hl2
  refine c_loopU (ι:=Nat×Int) [0,1,3] (fun ⟨n46,i40⟩=>[(3,.int .i64 i40)]) (fun ⟨n46,i40⟩=>⟨w0,M,(1000,go0,.cells #[.string o0] 9 (0,0))::(1001,go1,.cells #[.string o1.fahead,.string o1.fbehind,.slice Ao1_0 o1.fnames.length co1_0] 100 (0,0))::H,(1000,⟨.slice Ao1_0 o1.fnames.length co1_0,9,1,o1.fnames.length,o1.fnames.flatMap (fun x : ByteArray=>[Value.string x])⟩)::R,φ⟩) (fun ⟨n46,i40⟩=>Lp (fun s=>m_record_shape_cut_c1_s2 o0 s) n46 i40 out2) (fun ⟨n46,i40⟩=>n46) (n46',0) hl2 ⟨rfl,rfl,rfl,trivial⟩ (fun W h=>h.phi (fun W hφ=>hφ)) (fun ⟨n46,i40⟩ u hlp=>?_)
  obtain ⟨o2,hm,hnx2⟩:=lp_step hlp
  clear hlp
  replace hm : m_record_shape_cut_c1_s2 o0 i40 = some o2:=hm
  unfold m_record_shape_cut_c1_s2 at hm
  refine c_flat [(0,.pointer (some ⟨go0,0,none⟩)),(1,.pointer (some ⟨go1,0,none⟩)),(3,.int .i64 i40)] ⟨rfl,rfl,rfl,trivial⟩ (fun u=>?_)
  refine c_sta ⟨w0,M,(1000,go0,.cells #[.string o0] 9 (0,0))::(1001,go1,.cells #[.string o1.fahead,.string o1.fbehind,.slice Ao1_0 o1.fnames.length co1_0] 100 (0,0))::H,(1000,⟨.slice Ao1_0 o1.fnames.length co1_0,9,1,o1.fnames.length,o1.fnames.flatMap (fun x : ByteArray=>[Value.string x])⟩)::R,φ⟩ (fun _ h=>h)<|c_seq<|c_seq<|c_region<|g_v rfl r_move<|g_v rfl (r_load (tag:=1000) rfl rfl rfl Try.isAgg9)<|g_v rfl (r_len Try.underlying9 rfl)<|g_v rfl (r_lss rfl rfl)<|g_v rfl r_move ?_
  refine g_if rfl rfl rfl rfl rfl (fun h47=>?_) (fun h47=>?_)
  ·
   replace hm:=ite_t hm (of_decide_eq_true h47)
   refine g_v rfl (r_load (tag:=1000) rfl rfl rfl Try.isAgg9)<|g_do rfl rfl rfl rfl rfl h47<|g_v rfl r_move<|g_do rfl rfl rfl rfl rfl h47 ?_
   replace hm:=bnd hm
   obtain ⟨b48,hb48,hm⟩:=hm
   refine g_v rfl (r_sat Try.underlying9 rfl rfl hb48)<|g_do rfl rfl rfl rfl rfl h47<|g_v rfl (r_neq rfl rfl)<|g_v rfl (r_pick1 rfl h47)<|g_nil<|d_then ?_
   refine c_flat [(0,.pointer (some ⟨go0,0,none⟩)),(1,.pointer (some ⟨go1,0,none⟩)),(3,.int .i64 i40),(13,.bool (decide (b48 ≠ 0)))] ⟨rfl,rfl,rfl,rfl,trivial⟩ (fun u=>?_)
   refine c_cond rfl (fun h49=>?_) (fun h49=>?_)
   ·
    replace hm:=ite_t hm (of_decide_eq_true h49)
    refine c_skip<|d_then<|c_block<|c_region<|g_v rfl r_move<|g_v rfl (r_load (tag:=1000) rfl rfl rfl Try.isAgg9)<|g_v rfl r_move ?_
    replace hm:=bnd hm
    obtain ⟨b50,hb50,hm⟩:=hm
    refine g_v rfl (r_sat Try.underlying9 rfl rfl hb50)<|g_v rfl (r_conv Try.underlying5 Try.underlying3 rfl rfl)<|g_v rfl (r_add rfl rfl rfl)<|g_v rfl (r_add rfl rfl rfl)<|g_v rfl r_assign<|g_nil<|d_normal_block ?_
    obtain ⟨n51,hn51,hlp⟩:=nx_inl hm hnx2
    exact d_round (n51,w64 (i40 + (w64 (1 + (w64 b50))))) hlp hn51 ⟨rfl,rfl,rfl,trivial⟩ (fun W h=>h.phi (fun W hφ=>hφ))
   replace hm:=ite_f hm (of_decide_eq_false h49)
   refine c_exit<|d_exit_then<|d_exit_then<|d_exit_block ?_
   replace hm:=nx_out (C:=(fun e : Int=>m_record_shape_cut_c1_j1 o0 o1 e = some r)) hm hnx2 hr2
   exact d_round i40 hm Nat.zero_lt_one ⟨rfl,rfl,rfl,trivial⟩ (fun W h=>h.phi (fun W hφ=>hφ))
  replace hm:=ite_f hm (of_decide_eq_false h47)
  iterate 3 refine g_no rfl rfl rfl rfl rfl h47 ?_
  refine g_v rfl (r_pick0 rfl h47)<|g_nil<|d_then<|c_cond0 rfl rfl<|c_exit<|d_exit_then<|d_exit_then<|d_exit_block ?_
  replace hm:=nx_out (C:=(fun e : Int=>m_record_shape_cut_c1_j1 o0 o1 e = some r)) hm hnx2 hr2
  exact d_round i40 hm Nat.zero_lt_one ⟨rfl,rfl,rfl,trivial⟩ (fun W h=>h.phi (fun W hφ=>hφ))
 unfold m_record_shape_cut_c1_j1 at hm
 refine d_flat [(0,.pointer (some ⟨go0,0,none⟩)),(1,.pointer (some ⟨go1,0,none⟩)),(3,.int .i64 i13)] ⟨rfl,rfl,rfl,trivial⟩ (fun u=>?_)
 refine d_sta ⟨w0,M,(1000,go0,.cells #[.string o0] 9 (0,0))::(1001,go1,.cells #[.string o1.fahead,.string o1.fbehind,.slice Ao1_0 o1.fnames.length co1_0] 100 (0,0))::H,(1000,⟨.slice Ao1_0 o1.fnames.length co1_0,9,1,o1.fnames.length,o1.fnames.flatMap (fun x : ByteArray=>[Value.string x])⟩)::R,φ⟩ (fun _ h=>h)<|d_then<|c_seq<|c_seq<|c_region<|g_v rfl r_move<|g_v rfl (r_load (tag:=1000) rfl rfl rfl Try.isAgg9)<|g_v rfl (r_len Try.underlying9 rfl)<|g_v rfl (r_geq rfl rfl)<|g_v rfl r_move ?_
 refine g_if rfl rfl rfl rfl rfl (fun h14=>?_) (fun h14=>?_)
 ·
  replace hm:=ite_f hm (of_decide_eq_false h14)
  refine g_v rfl (r_load (tag:=1000) rfl rfl rfl Try.isAgg9)<|g_do rfl rfl rfl rfl rfl h14<|g_v rfl r_move<|g_do rfl rfl rfl rfl rfl h14<|g_v rfl (r_add rfl rfl rfl)<|g_do rfl rfl rfl rfl rfl h14 ?_
  replace hm:=bnd hm
  obtain ⟨s15,hs15,hm⟩:=hm
  refine g_v rfl (r_scutHi Try.underlying9 rfl rfl hs15)<|g_do rfl rfl rfl rfl rfl h14 ?_
  replace hm:=bnd hm
  obtain ⟨x16,hx17,hm⟩:=hm
  refine g_cn ⟨w0,M,_,_,φ⟩ (fun _ h=>h) Try.call31 rfl rfl (c_name_Check s15 _ hx17) (fun _ _=>?_)
  refine g_do rfl rfl rfl rfl rfl h14<|g_v rfl (r_neq rfl rfl)<|g_v rfl (r_pick0 rfl h14)<|g_nil<|d_then ?_
  refine c_flat [(0,.pointer (some ⟨go0,0,none⟩)),(1,.pointer (some ⟨go1,0,none⟩)),(3,.int .i64 i13),(32,.bool (decide (x16 ≠ 0)))] ⟨rfl,rfl,rfl,rfl,trivial⟩ (fun u=>?_)
  refine c_cond rfl (fun h18=>?_) (fun h18=>?_)
  ·
   replace hm:=ite_t hm (of_decide_eq_true h18)
   refine c_seq<|c_region<|g_v rfl r_assign<|g_nil<|d_then<|c_ret<|d_ret_then ?_
   cases hm
   refine d_sta _ (fun W h=>ok_frontR (t:=1000) (t':=2000) h rfl) ?_
   exact d_retC (Ao1_0,co1_0) Try.results81 (res_tmp (res_nil rfl)) hco1_0 (fun W h=>h.phi (fun W hφ=>hφ)) (.inr rfl)
  replace hm:=ite_f hm (of_decide_eq_false h18)
  refine c_skip<|d_then<|c_seq<|ga_start (n:=10) ⟨w0,M,(1000,go0,.cells #[.string o0] 9 (0,0))::(1001,go1,.cells #[.string o1.fahead,.string o1.fbehind,.slice Ao1_0 o1.fnames.length co1_0] 100 (0,0))::H,R,φ⟩ [9] #[false,false,false,false,false,false,false,false,false,false] (fun W h=>(h.dropR (t:=1000) rfl).phi (fun W hφ=>hφ)) mixed rfl rfl<|ga_v (i:=0) (bz 10 1) rfl (by kernel_rfl) (fun _ _ _ _ h=>h) rfl (r_field (n:=2) Try.underlying100 rfl Try.sizeOf73 rfl rfl)<|ga_v (i:=1) (bz 10 3) rfl (by kernel_rfl) (fun _ _ _ _ h=>h) rfl (r_load (tag:=1001) rfl rfl rfl Try.isAgg73)<|ga_v (i:=2) (bz 10 7) rfl (by kernel_rfl) (fun _ _ _ _ h=>h) rfl (r_load (tag:=1000) rfl rfl rfl Try.isAgg9)<|ga_r (i:=3) (bz 10 15) rfl (by kernel_rfl) (by decide) rfl (r_move)<|ga_r (i:=4) (bz 10 31) rfl (by kernel_rfl) (by decide) rfl (r_add rfl rfl rfl) ?_
  replace hm:=bnd hm
  obtain ⟨s29,hs29,hm⟩:=hm
  refine ga_r (i:=5) (bz 10 63) rfl (by kernel_rfl) (by decide) rfl (r_scutHi Try.underlying9 rfl rfl hs29) ?_
  refine ga_e (i:=6) (bz 10 127) rfl (by kernel_rfl) (by decide) rfl  (e_lit (tag:=100390) (l:=[s29]) (enc:=(fun x : ByteArray=>[Value.string x])) (sz:=1) rfl Try.underlying73 (lit9_10 _) rfl rfl (fun _=>rfl)) (fun g30 W _ h=>((h.dropR (t:=100390) rfl).dropR (t:=1000) rfl).phi (fun W hφ=>hφ)) (fun g30 _=>?_)
  replace hm:=bnd hm
  obtain ⟨l31,hl31,hm⟩:=hm
  refine ga_e (i:=7) (bz 10 255) rfl (by kernel_rfl) (by decide) rfl  (e_appR (enc:=(fun x : ByteArray=>[Value.string x])) (l:=o1.fnames) (l1:=[s29]) (l2:=l31) (tag:=1000) Try.underlying73 inf9_11 rfl (by decide) (by decide) (fun _=>rfl) (fun _=>rfl) rfl hco1_0 rfl rfl (fun W hS=>rowCl (tag:=100390) rfl W hS) hl31) (fun ⟨A32,c33⟩ W hc33 h=>((h.dropR (t:=100390) rfl).dropR (t:=1000) rfl).phi (fun W hφ=>hφ)) (fun ⟨A32,c33⟩ hc33=>?_)
  refine ga_r (i:=8) (bz 10 511) rfl (by kernel_rfl) (by decide) rfl (r_field (n:=2) Try.underlying100 rfl Try.sizeOf73 rfl rfl)<|ga_lastL (i:=9) (tag:=1001) (bz 10 1023) rfl (by kernel_rfl) (by decide) rfl rfl rfl rfl Try.sizeOf73 rfl rfl<|gz_done (by kernel_rfl)<|d_then ?_
  refine c_flat [(0,.pointer (some ⟨go0,0,none⟩)),(3,.int .i64 i13)] ⟨rfl,rfl,trivial⟩ (fun u=>?_)
  refine c_sta ⟨w0,M,(1000,go0,.cells #[.string o0] 9 (0,0))::(1001,go1,.cells #[.string o1.fahead,.string o1.fbehind,.slice A32 l31.length c33] 100 (0,0))::H,(100390,⟨.slice (some ⟨g30,0,none⟩) [s29].length 1,9,1,[s29].length,[s29].flatMap (fun x : ByteArray=>[Value.string x])⟩)::(1000,⟨.slice A32 l31.length c33,9,1,l31.length,l31.flatMap (fun x : ByteArray=>[Value.string x])⟩)::R,φ⟩ (fun _ h=>h)<|c_seq<|c_region<|g_v rfl (r_load (tag:=1000) rfl rfl rfl Try.isAgg9)<|g_v rfl r_move<|g_v rfl (r_add rfl rfl rfl) ?_
  replace hm:=bnd hm
  obtain ⟨s34,hs34,hm⟩:=hm
  refine g_v rfl (r_scutLo Try.underlying9 rfl rfl hs34)<|g_storeL (tag:=1000) rfl rfl rfl rfl Try.sizeOf9 rfl rfl<|g_nil<|d_then<|c_seq<|c_region<|g_v rfl r_assign<|g_nil<|d_then<|c_ret ?_
  cases hm
  refine d_sta _ (fun W h=>ok_frontR (t:=1000) (t':=2000) h rfl) ?_
  exact d_retC (A32,c33) Try.results81 (res_tmp (res_nil rfl)) hc33 (fun W h=>(h.dropR (t:=100390) rfl).phi (fun W hφ=>hφ)) (.inr rfl)
 replace hm:=ite_t hm (of_decide_eq_true h14)
 iterate 5 refine g_no rfl rfl rfl rfl rfl h14 ?_
 refine g_v rfl (r_pick1 rfl h14)<|g_nil<|d_then<|c_cond1 rfl rfl<|c_seq<|c_region<|g_v rfl r_assign<|g_nil<|d_then<|c_ret ?_
 refine d_ret_then ?_
 cases hm
 refine d_sta _ (fun W h=>ok_frontR (t:=1000) (t':=2000) h rfl) ?_
 exact d_retC (Ao1_0,co1_0) Try.results81 (res_tmp (res_nil rfl)) hco1_0 (fun W h=>h.phi (fun W hφ=>hφ)) (.inr rfl)
noncomputable def m_record_shape_cut_j1 (s4 : ByteArray) (p0 : Grecord_shape) (l93 : List ByteArray) (s96 : ByteArray) : Option (Grecord_parts×Bool):=
  some ((⟨s4,s96,l93⟩ : Grecord_parts),decide ((s96.size : Int) = p0.fbehind))
noncomputable def m_record_shape_cut_s2 (p0 : Grecord_shape) (s4 : ByteArray) (l114 : List ByteArray) (i117 : Int) (s118 : ByteArray) : Option (((List ByteArray)×Int×ByteArray) ⊕ (((List ByteArray)×ByteArray) ⊕ (Grecord_parts×Bool))):=
  if i117 < p0.fnames then
    (m_record_shape_cut_c1 s118 (⟨s4,(⟨#[]⟩ : ByteArray),l114⟩ : Grecord_parts)).bind fun (z143 : Bool×ByteArray×Grecord_parts)=>
    if z143.1 = true then
      some (.inl (z143.2.2.fnames,w64 (i117 + 1),z143.2.1))
    else
      some (.inr (.inr ((⟨(⟨#[]⟩ : ByteArray),(⟨#[]⟩ : ByteArray),([] : List ByteArray)⟩ : Grecord_parts),false)))
  else
    some (.inr (.inl (l114,s118)))
noncomputable def m_record_shape_cut (p0 : Grecord_shape) (p1 : ByteArray) : Option (Grecord_parts×Bool):=
  if (p1.size : Int) < p0.fahead then
    some ((⟨(⟨#[]⟩ : ByteArray),(⟨#[]⟩ : ByteArray),([] : List ByteArray)⟩ : Grecord_parts),false)
  else
    (scutHi p1 p0.fahead).bind fun s4=>
    (scutLo p1 p0.fahead).bind fun s6=>
    (loop (fun s=>m_record_shape_cut_s2 p0 s4 s.1 s.2.1 s.2.2) (([] : List ByteArray),0,s6)).bind fun e=>Sum.elim (fun e=>m_record_shape_cut_j1 s4 p0 e.1 e.2) (fun x=>some x) e
theorem c_record_shape_cut {w0 : World} {M : Nat→Prop} {H : List (Nat×Nat×Obj)} {R : List (Nat×Row)} {φ : World→Prop} (p0 : Grecord_shape) (p1 : ByteArray) (r : Grecord_parts×Bool) (hm : m_record_shape_cut p0 p1 = some r) :
    Cn Try.prog 58 #[.agg #[.int .i64 p0.fahead,.int .i64 p0.fnames,.int .i64 p0.fbehind],.string p1] ⟨w0,M,H,R,φ⟩ (fun x : Option Addr×Nat=>.tuple #[.agg #[.string r.1.fahead,.string r.1.fbehind,.slice x.1 r.1.fnames.length x.2],.bool r.2]) (fun x=>r.1.fnames.length ≤ x.2) (fun x=>⟨w0,M,H,R,fun W=>φ W∧Cl W x.1 (r.1.fnames.flatMap (fun x : ByteArray=>[Value.string x]))⟩):=by
 unfold m_record_shape_cut at hm
 refine cn_intro (fn:=Try.f58) (N:=42) Try.func58 rfl Try.ntmps58 rfl<|c_seq<|c_region ?_
 refine g_e rfl (e_box 100020 rfl) (fun g1 _=>?_)
 refine g_e rfl (e_alloc 100040 Try.zeroValue100) (fun g2 _=>?_)
 refine g_v rfl r_assign<|g_nil<|d_then<|c_seq<|c_seq<|c_region<|g_v rfl r_move<|g_v rfl (r_len Try.underlying9 rfl)<|g_v rfl (r_field (n:=0) Try.underlying97 rfl Try.sizeOf3 rfl rfl)<|g_v rfl (r_load (tag:=100020) rfl rfl rfl Try.isAgg3) ?_
 refine g_v rfl (r_lss rfl rfl)<|g_nil<|d_then<|c_sta ⟨w0,M,(100040,g2,.cells #[.string (⟨#[]⟩ : ByteArray),.string (⟨#[]⟩ : ByteArray),.slice none 0 0] 100 (0,0))::(100020,g1,.cells #[.int .i64 p0.fahead,.int .i64 p0.fnames,.int .i64 p0.fbehind] 97 (0,0))::H,R,φ⟩ (fun _ h=>h) ?_
 refine c_cond rfl (fun h3=>?_) (fun h3=>?_)
 ·
  replace hm:=ite_t hm (of_decide_eq_true h3)
  refine c_seq<|c_region<|g_v rfl (r_build _ rfl (bld100_14))<|g_storeL (tag:=100040) rfl rfl rfl rfl Try.sizeOf100 rfl rfl<|g_v rfl r_assign<|g_nil<|d_then ?_
  refine c_flat [(4,.pointer (some ⟨g2,0,none⟩)),(5,.bool false)] ⟨rfl,rfl,trivial⟩ (fun u=>?_)
  refine c_ret<|d_ret_then ?_
  cases hm
  exact d_retC (none,0) Try.results58 (res_agg (tag:=100040) rfl rfl Try.isAgg100 Try.sizeOf100 (res_tmp (res_nil rfl))) (Nat.le_refl 0) (fun W h=>ok_pre (H1:=[_,_]) (R1:=[]) h (fun W hφ=>⟨hφ,(fun W _=>Cl.nil _ _) W hφ⟩)) (.inr rfl)
 replace hm:=ite_f hm (of_decide_eq_false h3)
 refine c_skip<|d_then<|c_seq<|c_region<|g_v rfl r_move<|g_v rfl (r_field (n:=0) Try.underlying97 rfl Try.sizeOf3 rfl rfl)<|g_v rfl (r_load (tag:=100020) rfl rfl rfl Try.isAgg3) ?_
 replace hm:=bnd hm
 obtain ⟨s4,hs4,hm⟩:=hm
 refine g_v rfl (r_scutHi Try.underlying9 rfl rfl hs4)<|g_v rfl (r_build _ rfl (bld100_15 _)) ?_
 refine g_e rfl (e_alloc 100060 Try.zeroValue100) (fun g5 _=>?_)
 refine g_storeL (tag:=100060) rfl rfl rfl rfl Try.sizeOf100 rfl rfl<|g_nil<|d_then ?_
 refine c_flat [(1,.string p1),(2,.pointer (some ⟨g1,0,none⟩)),(4,.pointer (some ⟨g2,0,none⟩)),(6,.pointer (some ⟨g5,0,none⟩))] ⟨rfl,rfl,rfl,rfl,trivial⟩ (fun u=>?_)
 refine c_sta ⟨w0,M,(100060,g5,.cells #[.string s4,.string (⟨#[]⟩ : ByteArray),.slice none 0 0] 100 (0,0))::(100040,g2,.cells #[.string (⟨#[]⟩ : ByteArray),.string (⟨#[]⟩ : ByteArray),.slice none 0 0] 100 (0,0))::(100020,g1,.cells #[.int .i64 p0.fahead,.int .i64 p0.fnames,.int .i64 p0.fbehind] 97 (0,0))::H,R,φ⟩ (fun _ h=>h)<|c_seq<|c_region<|g_v rfl r_move<|g_v rfl (r_field (n:=0) Try.underlying97 rfl Try.sizeOf3 rfl rfl)<|g_v rfl (r_load (tag:=100020) rfl rfl rfl Try.isAgg3) ?_
 replace hm:=bnd hm
 obtain ⟨s6,hs6,hm⟩:=hm
 refine g_v rfl (r_scutLo Try.underlying9 rfl rfl hs6) ?_
 refine g_e rfl (e_alloc 100070 Try.zeroValue9) (fun g7 _=>?_)
 refine g_storeL (tag:=100070) rfl rfl rfl rfl Try.sizeOf9 rfl rfl<|g_nil<|d_then<|c_seq<|c_region<|g_v rfl (r_mkf rfl)<|g_v rfl r_assign<|g_nil<|d_then<|c_seq ?_
 refine c_seq<|c_region<|g_v rfl (r_field (n:=1) Try.underlying97 rfl Try.sizeOf3 rfl rfl)<|g_v rfl (r_load (tag:=100020) rfl rfl rfl Try.isAgg3)<|g_v rfl r_move<|g_nil<|d_then ?_
 refine c_flat [(2,.pointer (some ⟨g1,0,none⟩)),(4,.pointer (some ⟨g2,0,none⟩)),(6,.pointer (some ⟨g5,0,none⟩)),(7,.pointer (some ⟨g7,0,none⟩)),(8,.func (.func 81) #[] #[.pointer (some ⟨g7,0,none⟩),.pointer (some ⟨g5,0,none⟩)]),(26,.int .i64 p0.fnames),(27,.int .i64 0)] ⟨rfl,rfl,rfl,rfl,rfl,rfl,rfl,trivial⟩ (fun u=>?_)
 refine c_sta ⟨w0,M,(100070,g7,.cells #[.string s6] 9 (0,0))::(100060,g5,.cells #[.string s4,.string (⟨#[]⟩ : ByteArray),.slice none 0 0] 100 (0,0))::(100040,g2,.cells #[.string (⟨#[]⟩ : ByteArray),.string (⟨#[]⟩ : ByteArray),.slice none 0 0] 100 (0,0))::(100020,g1,.cells #[.int .i64 p0.fahead,.int .i64 p0.fnames,.int .i64 p0.fbehind] 97 (0,0))::H,R,φ⟩ (fun _ h=>h)<|c_sta _ (fun W h=>nilR h 13 9 1) ?_
 refine c_cut (ι:=(List ByteArray)×ByteArray×Option Addr×Nat) [2,4,6,7] (fun ⟨l93,s96,A94,c95⟩=>[]) (fun ⟨l93,s96,A94,c95⟩=>⟨w0,M,(100070,g7,.cells #[.string s96] 9 (0,0))::(100060,g5,.cells #[.string s4,.string (⟨#[]⟩ : ByteArray),.slice A94 l93.length c95] 100 (0,0))::(100040,g2,.cells #[.string (⟨#[]⟩ : ByteArray),.string (⟨#[]⟩ : ByteArray),.slice none 0 0] 100 (0,0))::(100020,g1,.cells #[.int .i64 p0.fahead,.int .i64 p0.fnames,.int .i64 p0.fbehind] 97 (0,0))::H,(13,⟨.slice A94 l93.length c95,9,1,l93.length,l93.flatMap (fun x : ByteArray=>[Value.string x])⟩)::R,φ⟩) (fun ⟨l93,s96,A94,c95⟩=>m_record_shape_cut_j1 s4 p0 l93 s96 = some r∧l93.length ≤ c95) ?_ (fun ⟨l93,s96,A94,c95⟩ u ⟨hm,hc95⟩=>?_)
 ·
  refine c_block ?_
  replace hm:=bnd hm
  obtain ⟨out2,hl2,hr2⟩:=hm
  obtain ⟨n134',hl2⟩:=loop_lp hl2
  refine c_loopU (ι:=Nat×(List ByteArray)×Int×ByteArray×Option Addr×Nat) [2,4,6,7,8,26,27] (fun ⟨n134,l114,i117,s118,A115,c116⟩=>[(27,.int .i64 i117)]) (fun ⟨n134,l114,i117,s118,A115,c116⟩=>⟨w0,M,(100070,g7,.cells #[.string s118] 9 (0,0))::(100060,g5,.cells #[.string s4,.string (⟨#[]⟩ : ByteArray),.slice A115 l114.length c116] 100 (0,0))::(100040,g2,.cells #[.string (⟨#[]⟩ : ByteArray),.string (⟨#[]⟩ : ByteArray),.slice none 0 0] 100 (0,0))::(100020,g1,.cells #[.int .i64 p0.fahead,.int .i64 p0.fnames,.int .i64 p0.fbehind] 97 (0,0))::H,(13,⟨.slice A115 l114.length c116,9,1,l114.length,l114.flatMap (fun x : ByteArray=>[Value.string x])⟩)::R,φ⟩) (fun ⟨n134,l114,i117,s118,A115,c116⟩=>Lp (fun s=>m_record_shape_cut_s2 p0 s4 s.1 s.2.1 s.2.2) n134 (l114,i117,s118) out2∧l114.length ≤ c116) (fun ⟨n134,l114,i117,s118,A115,c116⟩=>n134) (n134',([] : List ByteArray),0,s6,none,0) ⟨hl2,(Nat.le_refl 0)⟩ ⟨rfl,rfl,rfl,rfl,rfl,rfl,rfl,trivial⟩ (fun W h=>h.phi (fun W hφ=>hφ)) (fun ⟨n134,l114,i117,s118,A115,c116⟩ u ⟨hlp,hc116⟩=>?_)
  obtain ⟨o2,hm,hnx2⟩:=lp_step hlp
  clear hlp
  replace hm : m_record_shape_cut_s2 p0 s4 l114 i117 s118 = some o2:=hm
  unfold m_record_shape_cut_s2 at hm
  refine c_flat [(2,.pointer (some ⟨g1,0,none⟩)),(4,.pointer (some ⟨g2,0,none⟩)),(6,.pointer (some ⟨g5,0,none⟩)),(7,.pointer (some ⟨g7,0,none⟩)),(8,.func (.func 81) #[] #[.pointer (some ⟨g7,0,none⟩),.pointer (some ⟨g5,0,none⟩)]),(26,.int .i64 p0.fnames),(27,.int .i64 i117)] ⟨rfl,rfl,rfl,rfl,rfl,rfl,rfl,trivial⟩ (fun u=>?_)
  refine c_sta ⟨w0,M,(100070,g7,.cells #[.string s118] 9 (0,0))::(100060,g5,.cells #[.string s4,.string (⟨#[]⟩ : ByteArray),.slice A115 l114.length c116] 100 (0,0))::(100040,g2,.cells #[.string (⟨#[]⟩ : ByteArray),.string (⟨#[]⟩ : ByteArray),.slice none 0 0] 100 (0,0))::(100020,g1,.cells #[.int .i64 p0.fahead,.int .i64 p0.fnames,.int .i64 p0.fbehind] 97 (0,0))::H,(13,⟨.slice A115 l114.length c116,9,1,l114.length,l114.flatMap (fun x : ByteArray=>[Value.string x])⟩)::R,φ⟩ (fun _ h=>h)<|c_seq<|c_region<|g_v rfl (r_lss rfl rfl)<|g_nil<|d_then<|c_seq ?_
  refine c_cond rfl (fun h135=>?_) (fun h135=>?_)
  ·
   replace hm:=ite_t hm (of_decide_eq_true h135)
   refine c_skip<|d_then<|c_seq<|c_block<|c_seq<|c_region<|g_v rfl r_move ?_
   replace hm:=bnd hm
   obtain ⟨⟨x136,x137,x138⟩,hx139,hm⟩:=hm
   refine g_cnv ⟨w0,M,(1000,g7,.cells #[.string s118] 9 (0,0))::(1001,g5,.cells #[.string s4,.string (⟨#[]⟩ : ByteArray),.slice A115 l114.length c116] 100 (0,0))::(100040,g2,.cells #[.string (⟨#[]⟩ : ByteArray),.string (⟨#[]⟩ : ByteArray),.slice none 0 0] 100 (0,0))::(100020,g1,.cells #[.int .i64 p0.fahead,.int .i64 p0.fnames,.int .i64 p0.fbehind] 97 (0,0))::H,(1000,⟨.slice A115 l114.length c116,9,1,l114.length,l114.flatMap (fun x : ByteArray=>[Value.string x])⟩)::R,φ⟩ (fun W h=>(ok_front (t:=100070) (t':=1000) (ok_front (t:=100060) (t':=1001) (ok_frontR (t:=13) (t':=1000) h rfl) rfl) rfl)) Try.call81 rfl rfl rfl (c_record_shape_cut_c1 g7 s118 g5 (⟨s4,(⟨#[]⟩ : ByteArray),l114⟩ : Grecord_parts) A115 c116 hc116 _ hx139) (fun ⟨A140,c141⟩ hc141=>?_)
   refine g_sta _ (fun W h=>(ok_frontR (t:=2000) (t':=13) (ok_front (t:=1000) (t':=100070) (ok_front (t:=1001) (t':=100060) h rfl) rfl) rfl))<|g_v rfl (r_not rfl)<|g_nil<|d_then<|c_sta ⟨w0,M,(100070,g7,.cells #[.string x137] 9 (0,0))::(100060,g5,.cells #[.string s4,.string (⟨#[]⟩ : ByteArray),.slice A140 x138.fnames.length c141] 100 (0,0))::(100040,g2,.cells #[.string (⟨#[]⟩ : ByteArray),.string (⟨#[]⟩ : ByteArray),.slice none 0 0] 100 (0,0))::(100020,g1,.cells #[.int .i64 p0.fahead,.int .i64 p0.fnames,.int .i64 p0.fbehind] 97 (0,0))::H,(13,⟨.slice A140 x138.fnames.length c141,9,1,x138.fnames.length,x138.fnames.flatMap (fun x : ByteArray=>[Value.string x])⟩)::R,φ⟩ (fun _ h=>h) ?_
   refine c_cond rfl (fun h144=>?_) (fun h144=>?_)
   ·
    have h144' : x136 = false:=by revert h144; cases x136 <;> simp
    replace hm:=ite_f hm (bool_nt h144')
    refine c_seq<|c_region<|g_v rfl (r_build _ rfl (bld100_14))<|g_storeL (tag:=100040) rfl rfl rfl rfl Try.sizeOf100 rfl rfl<|g_v rfl r_assign<|g_nil<|d_then<|c_ret<|d_ret_block<|d_ret_then ?_
    refine d_ret_then<|d_ret_block<|d_ret_then<|d_ret_then ?_
    replace hm:=nx_out (C:=(fun e : ((List ByteArray)×ByteArray) ⊕ (Grecord_parts×Bool)=>Sum.elim (fun e=>m_record_shape_cut_j1 s4 p0 e.1 e.2) (fun x=>some x) e = some r)) hm hnx2 hr2
    replace hm : some ((⟨(⟨#[]⟩ : ByteArray),(⟨#[]⟩ : ByteArray),([] : List ByteArray)⟩ : Grecord_parts),false) = some r:=hm
    cases hm
    exact d_retC (none,0) Try.results58 (res_agg (tag:=100040) rfl rfl Try.isAgg100 Try.sizeOf100 (res_tmp (res_nil rfl))) (Nat.le_refl 0) (fun W h=>ok_pre (H1:=[_,_,_,_]) (R1:=[_]) h (fun W hφ=>⟨hφ,(fun W _=>Cl.nil _ _) W hφ⟩)) (.inr rfl)
   have h144' : x136 = true:=by revert h144; cases x136 <;> simp
   replace hm:=ite_t hm h144'
   refine c_skip<|d_normal_block<|d_then<|c_region<|g_v rfl (r_add rfl rfl rfl)<|g_v rfl r_move<|g_nil ?_
   obtain ⟨n145,hn145,hlp⟩:=nx_inl hm hnx2
   exact d_round (n145,x138.fnames,w64 (i117 + 1),x137,A140,c141) ⟨hlp,hc141⟩ hn145 ⟨rfl,rfl,rfl,rfl,rfl,rfl,rfl,trivial⟩ (fun W h=>h.phi (fun W hφ=>hφ))
  replace hm:=ite_f hm (of_decide_eq_false h135)
  refine c_exit<|d_exit_then<|d_exit_then<|d_exit_block ?_
  replace hm:=nx_out (C:=(fun e : ((List ByteArray)×ByteArray) ⊕ (Grecord_parts×Bool)=>Sum.elim (fun e=>m_record_shape_cut_j1 s4 p0 e.1 e.2) (fun x=>some x) e = some r)) hm hnx2 hr2
  exact d_round (l114,s118,A115,c116) ⟨hm,hc116⟩ Nat.zero_lt_one ⟨rfl,rfl,rfl,rfl,trivial⟩ (fun W h=>h.phi (fun W hφ=>hφ))
 unfold m_record_shape_cut_j1 at hm
 refine d_flat [(2,.pointer (some ⟨g1,0,none⟩)),(4,.pointer (some ⟨g2,0,none⟩)),(6,.pointer (some ⟨g5,0,none⟩)),(7,.pointer (some ⟨g7,0,none⟩))] ⟨rfl,rfl,rfl,rfl,trivial⟩ (fun u=>?_)
 refine d_sta ⟨w0,M,(100070,g7,.cells #[.string s96] 9 (0,0))::(100060,g5,.cells #[.string s4,.string (⟨#[]⟩ : ByteArray),.slice A94 l93.length c95] 100 (0,0))::(100040,g2,.cells #[.string (⟨#[]⟩ : ByteArray),.string (⟨#[]⟩ : ByteArray),.slice none 0 0] 100 (0,0))::(100020,g1,.cells #[.int .i64 p0.fahead,.int .i64 p0.fnames,.int .i64 p0.fbehind] 97 (0,0))::H,(13,⟨.slice A94 l93.length c95,9,1,l93.length,l93.flatMap (fun x : ByteArray=>[Value.string x])⟩)::R,φ⟩ (fun _ h=>h)<|d_then<|c_seq<|c_region<|g_v rfl (r_load (tag:=100070) rfl rfl rfl Try.isAgg9)<|g_v rfl (r_field (n:=1) Try.underlying100 rfl Try.sizeOf9 rfl rfl)<|g_storeL (tag:=100060) rfl rfl rfl rfl Try.sizeOf9 rfl rfl<|g_nil<|d_then<|c_seq ?_
 refine ga_start (n:=8) ⟨w0,M,(100070,g7,.cells #[.string s96] 9 (0,0))::(100060,g5,.cells #[.string s4,.string s96,.slice A94 l93.length c95] 100 (0,0))::(100020,g1,.cells #[.int .i64 p0.fahead,.int .i64 p0.fnames,.int .i64 p0.fbehind] 97 (0,0))::H,(13,⟨.slice A94 l93.length c95,9,1,l93.length,l93.flatMap (fun x : ByteArray=>[Value.string x])⟩)::R,φ⟩ [] #[false,false,false,false,false,false,false,false] (fun W h=>(h.dropH (t:=100040) rfl).phi (fun W hφ=>hφ)) mixed rfl rfl<|ga_v (i:=0) (bz 8 1) rfl (by kernel_rfl) (fun _ _ _ _ h=>h) rfl (r_loadA (tag:=100060) rfl rfl Try.isAgg100 Try.sizeOf100 rfl rfl)<|ga_v (i:=1) (bz 8 3) rfl (by kernel_rfl) (fun _ _ _ _ h=>h) rfl (r_load (tag:=100070) rfl rfl rfl Try.isAgg9)<|ga_v (i:=2) (bz 8 7) rfl (by kernel_rfl) (fun _ _ _ _ h=>h) rfl (r_len Try.underlying9 rfl)<|ga_v (i:=3) (bz 8 15) rfl (by kernel_rfl) (fun _ _ _ _ h=>h) rfl (r_field (n:=2) Try.underlying97 rfl Try.sizeOf3 rfl rfl)<|ga_v (i:=4) (bz 8 31) rfl (by kernel_rfl) (fun _ _ _ _ h=>h) rfl (r_load (tag:=100020) rfl rfl rfl Try.isAgg3)<|ga_v (i:=5) (bz 8 63) rfl (by kernel_rfl) (fun _ _ _ _ h=>h) rfl (r_eql rfl rfl)<|ga_storeN (i:=6) (tag:=100040) (bz 8 127) rfl (by kernel_rfl) (by decide) rfl rfl rfl rfl Try.sizeOf100 rfl rfl (fun W h=>(h.dropH (t:=100040) rfl).phi (fun W hφ=>hφ))<|ga_r (i:=7) (bz 8 255) rfl (by kernel_rfl) (by decide) rfl (r_assign)<|ga_done (by kernel_rfl) ?_
 refine d_then ?_
 refine c_flat [(4,.pointer (some ⟨g2,0,none⟩)),(5,.bool (decide ((s96.size : Int) = p0.fbehind)))] ⟨rfl,rfl,trivial⟩ (fun u=>?_)
 refine c_sta ⟨w0,M,(100070,g7,.cells #[.string s96] 9 (0,0))::(100060,g5,.cells #[.string s4,.string s96,.slice A94 l93.length c95] 100 (0,0))::(100040,g2,.cells #[.string s4,.string s96,.slice A94 l93.length c95] 100 (0,0))::(100020,g1,.cells #[.int .i64 p0.fahead,.int .i64 p0.fnames,.int .i64 p0.fbehind] 97 (0,0))::H,(13,⟨.slice A94 l93.length c95,9,1,l93.length,l93.flatMap (fun x : ByteArray=>[Value.string x])⟩)::R,φ⟩ (fun _ h=>h)<|c_ret ?_
 cases hm
 refine d_shut (tag:=13) rfl (fun φ97 q97'=>?_)
 have q97 : ∀ W,φ97 W→φ W:=fun W h=>(q97' W h).1
 have f98:=fun (W : World) (h : φ97 W)=>(q97' W h).2
 exact d_retC (A94,c95) Try.results58 (res_agg (tag:=100040) rfl rfl Try.isAgg100 Try.sizeOf100 (res_tmp (res_nil rfl))) hc95 (fun W h=>ok_pre (H1:=[_,_,_,_]) (R1:=[]) h (fun W hφ=>⟨(q97 _ hφ),(fun W h=>f98 W h) W hφ⟩)) (.inr rfl)
theorem eqq97 (a b : Grecord_shape) : ∀ d W,(Op.equalIn (d + 5) 97 (.agg #[.int .i64 a.fahead,.int .i64 a.fnames,.int .i64 a.fbehind]) (.agg #[.int .i64 b.fahead,.int .i64 b.fnames,.int .i64 b.fbehind])).run Try.prog W = .ok (decide (a = b)) W:=by
  intro d W
  have h:=eqs_of (d:=d + 4) (xs:=#[.int .i64 a.fahead,.int .i64 a.fnames,.int .i64 a.fbehind]) (ys:=#[.int .i64 b.fahead,.int .i64 b.fnames,.int .i64 b.fbehind]) (w:=W) Try.underlying97 (by kernel_rfl) (eqs_cons (a:=.int .i64 a.fahead) (b:=.int .i64 b.fahead) rfl (by kernel_rfl) (by kernel_rfl) (eqs_int Try.underlying3) (eqs_cons (a:=.int .i64 a.fnames) (b:=.int .i64 b.fnames) rfl (by kernel_rfl) (by kernel_rfl) (eqs_int Try.underlying3) (eqs_cons (a:=.int .i64 a.fbehind) (b:=.int .i64 b.fbehind) rfl (by kernel_rfl) (by kernel_rfl) (eqs_int Try.underlying3) eqs_nil)))
  refine h.trans ?_
  congr 1
  cases a; cases b
  simp only [Grecord_shape.mk.injEq,Bool.and_true]
  simp only [Bool.decide_and]
theorem eqg97 : Try.prog.eqGuardType Try.prog.depth 97 = false:=by kernel_rfl
noncomputable def m_record_right_j1 (p1 : ByteArray) (i12 : Int) : Option Bool:=
  if i12 = (p1.size : Int) then
    some (!(decide (p1 = (⟨#[]⟩ : ByteArray))))
  else
    some false
noncomputable def m_record_right_s2 (p1 : ByteArray) (i17 : Int) : Option (Int ⊕ Int):=
  if i17 < (p1.size : Int) then
    (sat_ p1 i17).bind fun b23=>
    some (.inl (w64 (i17 + (w64 (1 + (w64 b23))))))
  else
    some (.inr i17)
noncomputable def m_record_right (p0 : Int) (p1 : ByteArray) : Option Bool:=
  if p0 = 1 then
    some (decide ((p1.size : Int) = 4))
  else
    if p0 = 28 then
      some (decide ((p1.size : Int) = 16))
    else
      if p0 = 16 then
        (loop (fun s=>m_record_right_s2 p1 s) 0).bind fun e=>m_record_right_j1 p1 e
      else
        (m_record_shapeOf p0).bind fun x25=>
        (m_record_shape_cut x25 p1).bind fun (z34 : Grecord_parts×Bool)=>
        if z34.2 = true then
          some true
        else
          (m_record_shapeOf p0).bind fun x37=>
          some (decide (x37 = (⟨0,0,0⟩ : Grecord_shape)))
theorem c_record_right {w0 : World} {M : Nat→Prop} {H : List (Nat×Nat×Obj)} {R : List (Nat×Row)} {φ : World→Prop} (p0 : Int) (p1 : ByteArray) (r : Bool) (hm : m_record_right p0 p1 = some r) :
    Cn Try.prog 64 #[.int .u16 p0,.string p1] ⟨w0,M,H,R,φ⟩ (fun x : Unit=>.bool r) (fun x=>True) (fun x=>⟨w0,M,H,R,φ⟩):=by
 unfold m_record_right at hm
 refine cn_intro (fn:=Try.f64) (N:=57) Try.func64 rfl Try.ntmps64 rfl<|c_seq<|c_region<|g_v rfl r_assign<|g_nil<|d_then<|c_seq<|c_seq<|c_region<|g_v rfl r_move ?_
 refine g_nil<|d_then<|c_block<|c_seq<|c_region<|g_v rfl (r_eql rfl rfl)<|g_v rfl r_assign<|g_nil<|d_then ?_
 refine c_cond rfl (fun h1=>?_) (fun h1=>?_)
 ·
  replace hm:=ite_t hm (of_decide_eq_true h1)
  refine c_seq<|c_region<|g_v rfl r_move<|g_v rfl (r_len Try.underlying9 rfl)<|g_v rfl (r_eql rfl rfl)<|g_v rfl r_assign<|g_nil<|d_then<|c_ret<|d_ret_block ?_
  refine d_ret_then ?_
  cases hm
  exact d_retC () Try.results64 (res_tmp (res_nil rfl)) trivial (fun W h=>ok_pre (H1:=[]) (R1:=[]) h (fun W hφ=>hφ)) (.inr rfl)
 replace hm:=ite_f hm (of_decide_eq_false h1)
 refine c_seq<|c_region<|g_v rfl (r_eql rfl rfl)<|g_v rfl r_assign<|g_nil<|d_then ?_
 refine c_cond rfl (fun h2=>?_) (fun h2=>?_)
 ·
  replace hm:=ite_t hm (of_decide_eq_true h2)
  refine c_seq<|c_region<|g_v rfl r_move<|g_v rfl (r_len Try.underlying9 rfl)<|g_v rfl (r_eql rfl rfl)<|g_v rfl r_assign<|g_nil<|d_then ?_
  refine c_flat [(4,.bool (decide ((p1.size : Int) = 16)))] ⟨rfl,trivial⟩ (fun u=>?_)
  refine c_sta ⟨w0,M,H,R,φ⟩ (fun _ h=>h)<|c_ret<|d_ret_block<|d_ret_then ?_
  cases hm
  exact d_retC () Try.results64 (res_tmp (res_nil rfl)) trivial (fun W h=>ok_pre (H1:=[]) (R1:=[]) h (fun W hφ=>hφ)) (.inr rfl)
 replace hm:=ite_f hm (of_decide_eq_false h2)
 refine c_seq<|c_region<|g_v rfl (r_eql rfl rfl)<|g_v rfl r_assign<|g_nil<|d_then ?_
 refine c_cond rfl (fun h3=>?_) (fun h3=>?_)
 ·
  replace hm:=ite_t hm (of_decide_eq_true h3)
  refine c_seq<|c_region<|g_v rfl r_assign<|g_nil<|d_then ?_
  refine c_flat [(1,.string p1),(5,.int .i64 0)] ⟨rfl,rfl,trivial⟩ (fun u=>?_)
  refine c_sta ⟨w0,M,H,R,φ⟩ (fun _ h=>h)<|c_seq ?_
  refine c_cut (ι:=Int) [1,5] (fun i12=>[(5,.int .i64 i12)]) (fun i12=>⟨w0,M,H,R,φ⟩) (fun i12=>m_record_right_j1 p1 i12 = some r) ?_ (fun i12 u hm=>?_)
  ·
   refine c_block ?_
   replace hm:=bnd hm
   obtain ⟨out2,hl2,hr2⟩:=hm
   obtain ⟨n21',hl2⟩:=loop_lp hl2
   refine c_loopU (ι:=Nat×Int) [1,5] (fun ⟨n21,i17⟩=>[(5,.int .i64 i17)]) (fun ⟨n21,i17⟩=>⟨w0,M,H,R,φ⟩) (fun ⟨n21,i17⟩=>Lp (fun s=>m_record_right_s2 p1 s) n21 i17 out2) (fun ⟨n21,i17⟩=>n21) (n21',0) hl2 ⟨rfl,rfl,trivial⟩ (fun W h=>h.phi (fun W hφ=>hφ)) (fun ⟨n21,i17⟩ u hlp=>?_)
   obtain ⟨o2,hm,hnx2⟩:=lp_step hlp
   clear hlp
   replace hm : m_record_right_s2 p1 i17 = some o2:=hm
   unfold m_record_right_s2 at hm
   refine c_flat [(1,.string p1),(5,.int .i64 i17)] ⟨rfl,rfl,trivial⟩ (fun u=>?_)
   refine c_seq<|c_seq<|c_region<|g_v rfl r_move<|g_v rfl r_move<|g_v rfl (r_len Try.underlying9 rfl)<|g_v rfl (r_lss rfl rfl)<|g_nil<|d_then ?_
   refine c_cond rfl (fun h22=>?_) (fun h22=>?_)
   ·
    replace hm:=ite_t hm (of_decide_eq_true h22)
    refine c_skip<|d_then<|c_block<|c_region ?_
    iterate 3 refine g_v rfl r_move ?_
    replace hm:=bnd hm
    obtain ⟨b23,hb23,hm⟩:=hm
    refine g_v rfl (r_sat Try.underlying9 rfl rfl hb23)<|g_v rfl (r_conv Try.underlying5 Try.underlying3 rfl rfl)<|g_v rfl (r_add rfl rfl rfl)<|g_v rfl (r_add rfl rfl rfl)<|g_v rfl r_assign<|g_nil<|d_normal_block ?_
    obtain ⟨n24,hn24,hlp⟩:=nx_inl hm hnx2
    exact d_round (n24,w64 (i17 + (w64 (1 + (w64 b23))))) hlp hn24 ⟨rfl,rfl,trivial⟩ (fun W h=>h.phi (fun W hφ=>hφ))
   replace hm:=ite_f hm (of_decide_eq_false h22)
   refine c_exit<|d_exit_then<|d_exit_then<|d_exit_block ?_
   replace hm:=nx_out (C:=(fun e : Int=>m_record_right_j1 p1 e = some r)) hm hnx2 hr2
   exact d_round i17 hm Nat.zero_lt_one ⟨rfl,rfl,trivial⟩ (fun W h=>h.phi (fun W hφ=>hφ))
  unfold m_record_right_j1 at hm
  refine d_flat [(1,.string p1),(5,.int .i64 i12)] ⟨rfl,rfl,trivial⟩ (fun u=>?_)
  refine d_then<|c_seq<|c_region<|g_v rfl r_move<|g_v rfl r_move<|g_v rfl (r_len Try.underlying9 rfl)<|g_v rfl (r_eql rfl rfl)<|g_v rfl r_move ?_
  refine g_if rfl rfl rfl rfl rfl (fun h13=>?_) (fun h13=>?_)
  ·
   replace hm:=ite_t hm (of_decide_eq_true h13)
   refine g_v rfl r_move<|g_do rfl rfl rfl rfl rfl h13<|g_v rfl (r_neqT rfl rfl)<|g_v rfl (r_pick1 rfl h13)<|g_v rfl r_assign<|g_nil<|d_then ?_
   refine c_flat [(4,.bool (!(decide (p1 = (⟨#[]⟩ : ByteArray)))))] ⟨rfl,trivial⟩ (fun u=>?_)
   refine c_ret<|d_ret_block<|d_ret_then ?_
   cases hm
   exact d_retC () Try.results64 (res_tmp (res_nil rfl)) trivial (fun W h=>ok_pre (H1:=[]) (R1:=[]) h (fun W hφ=>hφ)) (.inr rfl)
  replace hm:=ite_f hm (of_decide_eq_false h13)
  refine g_no rfl rfl rfl rfl rfl h13<|g_v rfl (r_pick0 rfl h13)<|g_v rfl r_assign<|g_nil<|d_then<|c_ret<|d_ret_block<|d_ret_then ?_
  cases hm
  exact d_retC () Try.results64 (res_tmp (res_nil rfl)) trivial (fun W h=>ok_pre (H1:=[]) (R1:=[]) h (fun W hφ=>hφ)) (.inr rfl)
 replace hm:=ite_f hm (of_decide_eq_false h3)
 refine c_skip<|d_normal_block<|d_then<|c_seq<|c_region<|g_v rfl r_move ?_
 replace hm:=bnd hm
 obtain ⟨x25,hx26,hm⟩:=hm
 refine g_cn ⟨w0,M,_,_,φ⟩ (fun _ h=>h) Try.call57 rfl rfl (c_record_shapeOf p0 _ hx26) (fun _ _=>?_)
 refine g_v rfl (r_mkf rfl)<|g_v rfl r_assign<|g_nil<|d_then ?_
 refine c_flat [(0,.int .u16 p0),(1,.string p1),(6,.func (.func 58) #[.agg #[.int .i64 x25.fahead,.int .i64 x25.fnames,.int .i64 x25.fbehind]] #[])] ⟨rfl,rfl,rfl,trivial⟩ (fun u=>?_)
 refine c_sta ⟨w0,M,H,R,φ⟩ (fun _ h=>h)<|c_seq<|c_region<|g_v rfl r_move<|g_v rfl r_move ?_
 replace hm:=bnd hm
 obtain ⟨⟨x27,x28⟩,hx29,hm⟩:=hm
 refine g_cnv ⟨w0,M,_,_,φ⟩ (fun _ h=>h) Try.call58 rfl rfl rfl (c_record_shape_cut x25 p1 _ hx29) (fun ⟨A30,c31⟩ hc31=>?_)
 refine g_abs (fun φ33 q33'=>?_)
 have q33 : ∀ W,φ33 W→φ W:=fun W h=>(q33' W h).1
 have f32:=fun (W : World) (h : φ33 W)=>(q33' W h).2
 refine g_v rfl r_move<|g_v rfl (r_extract rfl rfl)<|g_v rfl (r_extract rfl rfl) ?_
 refine g_e rfl (e_alloc 100070 Try.zeroValue100) (fun g35 _=>?_)
 refine g_storeL (tag:=100070) rfl rfl rfl rfl Try.sizeOf100 rfl rfl<|g_v rfl r_assign<|g_nil<|d_then ?_
 refine c_flat [(0,.int .u16 p0),(8,.bool x28)] ⟨rfl,rfl,trivial⟩ (fun u=>?_)
 refine c_sta ⟨w0,M,(100070,g35,.cells #[.string x27.fahead,.string x27.fbehind,.slice A30 x27.fnames.length c31] 100 (0,0))::H,R,φ33⟩ (fun _ h=>h)<|c_seq<|c_region<|g_v rfl r_move<|g_v rfl r_move ?_
 refine g_if rfl rfl rfl rfl rfl (fun h36=>?_) (fun h36=>?_)
 ·
  replace hm:=ite_f hm (bool_nt h36)
  refine g_v rfl r_move<|g_do rfl rfl rfl rfl rfl h36 ?_
  replace hm:=bnd hm
  obtain ⟨x37,hx38,hm⟩:=hm
  refine g_cn ⟨w0,M,_,_,φ33⟩ (fun _ h=>h) Try.call57 rfl rfl (c_record_shapeOf p0 _ hx38) (fun _ _=>?_)
  refine g_do rfl rfl rfl rfl rfl h36<|g_v rfl (r_build _ rfl (bld97_13))<|g_do rfl rfl rfl rfl rfl h36<|g_v rfl (r_eqlA rfl rfl eqg97 (eqq97 x37 (⟨0,0,0⟩ : Grecord_shape)))<|g_v rfl (r_pick0 rfl h36)<|g_v rfl r_assign<|g_nil<|d_then<|c_ret ?_
  cases hm
  exact d_retC () Try.results64 (res_tmp (res_nil rfl)) trivial (fun W h=>ok_pre (H1:=[_]) (R1:=[]) h (fun W hφ=>(q33 _ hφ))) (.inr rfl)
 replace hm:=ite_t hm h36
 iterate 3 refine g_no rfl rfl rfl rfl rfl h36 ?_
 refine g_v rfl (r_pick1 rfl h36)<|g_v rfl r_assign<|g_nil<|d_then<|c_ret ?_
 cases hm
 exact d_retC () Try.results64 (res_tmp (res_nil rfl)) trivial (fun W h=>ok_pre (H1:=[_]) (R1:=[]) h (fun W hφ=>(q33 _ hφ))) (.inr rfl)
noncomputable def m_record_Check (p0 : GRR) : Option Int:=
  (m_name_Check p0.fName).bind fun x2=>
  if x2 ≠ 0 then
    some x2
  else
    if 2000 < (p0.fData.size : Int) then
      some 11
    else
      (m_record_right p0.fType p0.fData).bind fun x6=>
      if x6 = true then
        some 0
      else
        some 10
theorem c_record_Check {w0 : World} {M : Nat→Prop} {H : List (Nat×Nat×Obj)} {R : List (Nat×Row)} {φ : World→Prop} (p0 : GRR) (r : Int) (hm : m_record_Check p0 = some r) :
    Cn Try.prog 34 #[.agg #[.string p0.fName,.int .u16 p0.fType,.int .u16 p0.fClass,.int .u32 p0.fTTL,.string p0.fData]] ⟨w0,M,H,R,φ⟩ (fun x : Unit=>.int .i64 r) (fun x=>True) (fun x=>⟨w0,M,H,R,φ⟩):=by
 unfold m_record_Check at hm
 refine cn_intro (fn:=Try.f34) (N:=23) Try.func34 rfl Try.ntmps34 rfl<|c_seq<|c_region ?_
 refine g_e rfl (e_box 100010 rfl) (fun g1 _=>?_)
 refine g_v rfl r_assign<|g_nil<|d_then<|c_seq<|c_region<|g_v rfl (r_field (n:=0) Try.underlying42 rfl Try.sizeOf9 rfl rfl)<|g_v rfl (r_load (tag:=100010) rfl rfl rfl Try.isAgg9) ?_
 replace hm:=bnd hm
 obtain ⟨x2,hx3,hm⟩:=hm
 refine g_cn ⟨w0,M,_,_,φ⟩ (fun _ h=>h) Try.call31 rfl rfl (c_name_Check p0.fName _ hx3) (fun _ _=>?_)
 refine g_v rfl r_assign<|g_nil<|d_then<|c_seq<|c_block<|c_seq<|c_region<|g_v rfl r_move<|g_v rfl (r_neq rfl rfl)<|g_v rfl r_assign ?_
 refine g_nil<|d_then ?_
 refine c_flat [(1,.pointer (some ⟨g1,0,none⟩)),(3,.int .i64 x2),(7,.bool (decide (x2 ≠ 0)))] ⟨rfl,rfl,rfl,trivial⟩ (fun u=>?_)
 refine c_sta ⟨w0,M,(100010,g1,.cells #[.string p0.fName,.int .u16 p0.fType,.int .u16 p0.fClass,.int .u32 p0.fTTL,.string p0.fData] 42 (0,0))::H,R,φ⟩ (fun _ h=>h) ?_
 refine c_cond rfl (fun h4=>?_) (fun h4=>?_)
 ·
  replace hm:=ite_t hm (of_decide_eq_true h4)
  refine c_seq<|c_region<|g_v rfl r_move<|g_v rfl r_assign<|g_nil<|d_then<|c_ret<|d_ret_block<|d_ret_then ?_
  cases hm
  exact d_retC () Try.results34 (res_tmp (res_nil rfl)) trivial (fun W h=>ok_pre (H1:=[_]) (R1:=[]) h (fun W hφ=>hφ)) (.inr rfl)
 replace hm:=ite_f hm (of_decide_eq_false h4)
 refine c_seq<|c_region<|g_v rfl (r_field (n:=4) Try.underlying42 rfl Try.sizeOf9 rfl rfl)<|g_v rfl (r_load (tag:=100010) rfl rfl rfl Try.isAgg9)<|g_v rfl (r_len Try.underlying9 rfl)<|g_v rfl (r_gtr rfl rfl)<|g_v rfl r_assign<|g_nil<|d_then ?_
 refine c_cond rfl (fun h5=>?_) (fun h5=>?_)
 ·
  replace hm:=ite_t hm (of_decide_eq_true h5)
  refine c_seq<|c_region<|g_v rfl r_assign<|g_nil<|d_then<|c_ret<|d_ret_block<|d_ret_then ?_
  cases hm
  exact d_retC () Try.results34 (res_tmp (res_nil rfl)) trivial (fun W h=>ok_pre (H1:=[_]) (R1:=[]) h (fun W hφ=>hφ)) (.inr rfl)
 replace hm:=ite_f hm (of_decide_eq_false h5)
 refine c_seq<|c_region<|g_v rfl (r_field (n:=1) Try.underlying42 rfl Try.sizeOf22 rfl rfl)<|g_v rfl (r_load (tag:=100010) rfl rfl rfl Try.isAgg22)<|g_v rfl (r_field (n:=4) Try.underlying42 rfl Try.sizeOf9 rfl rfl)<|g_v rfl (r_load (tag:=100010) rfl rfl rfl Try.isAgg9) ?_
 replace hm:=bnd hm
 obtain ⟨x6,hx7,hm⟩:=hm
 refine g_cn ⟨w0,M,_,_,φ⟩ (fun _ h=>h) Try.call64 rfl rfl (c_record_right p0.fType p0.fData _ hx7) (fun _ _=>?_)
 refine g_v rfl (r_not rfl)<|g_v rfl r_assign<|g_nil<|d_then ?_
 refine c_flat [(16,.bool (!x6))] ⟨rfl,trivial⟩ (fun u=>?_)
 refine c_cond rfl (fun h8=>?_) (fun h8=>?_)
 ·
  have h8' : x6 = false:=by revert h8; cases x6 <;> simp
  replace hm:=ite_f hm (bool_nt h8')
  refine c_seq<|c_region<|g_v rfl r_assign<|g_nil<|d_then<|c_ret<|d_ret_block<|d_ret_then ?_
  cases hm
  exact d_retC () Try.results34 (res_tmp (res_nil rfl)) trivial (fun W h=>ok_pre (H1:=[_]) (R1:=[]) h (fun W hφ=>hφ)) (.inr rfl)
 have h8' : x6 = true:=by revert h8; cases x6 <;> simp
 replace hm:=ite_t hm h8'
 refine c_skip<|d_normal_block<|d_then<|c_seq<|c_region<|g_v rfl r_assign<|g_nil<|d_then<|c_ret ?_
 cases hm
 exact d_retC () Try.results34 (res_tmp (res_nil rfl)) trivial (fun W h=>ok_pre (H1:=[_]) (R1:=[]) h (fun W hφ=>hφ)) (.inr rfl)
noncomputable def m_auth_Check_c1 (p0 : GRR) (o0 : GZone) : Option Bool:=
  (m_record_Check p0).bind fun x2=>
  if x2 ≠ 0 then
    some true
  else
    if p0.fClass ≠ 1 then
      some true
    else
      (m_name_Under p0.fName o0.fApex).bind fun x6=>
      some (!x6)
theorem c_auth_Check_c1 {w0 : World} {M : Nat→Prop} {H : List (Nat×Nat×Obj)} {R : List (Nat×Row)} {φ : World→Prop} (p0 : GRR) (go0 : Nat) (o0 : GZone) (Ao0_0 : Option Addr) (co0_0 : Nat) (hco0_0 : o0.fRecords.length ≤ co0_0) (fo0_0 : ∀ W,φ W→Cl W Ao0_0 (o0.fRecords.flatMap GRR.enc)) (r : Bool) (hm : m_auth_Check_c1 p0 o0 = some r) :
    Cn Try.prog 33 #[.agg #[.string p0.fName,.int .u16 p0.fType,.int .u16 p0.fClass,.int .u32 p0.fTTL,.string p0.fData],.pointer (some ⟨go0,0,none⟩)] ⟨w0,M,(1000,go0,.cells #[.string o0.fApex,.slice Ao0_0 o0.fRecords.length co0_0] 33 (0,0))::H,R,φ⟩ (fun x : Unit=>.bool r) (fun x=>True) (fun x=>⟨w0,M,(1000,go0,.cells #[.string o0.fApex,.slice Ao0_0 o0.fRecords.length co0_0] 33 (0,0))::H,R,φ⟩):=by
 unfold m_auth_Check_c1 at hm
 refine cn_intro (fn:=Try.f33) (N:=20) Try.func33 rfl Try.ntmps33 rfl<|c_seq<|c_region ?_
 refine g_e rfl (e_box 100020 rfl) (fun g1 _=>?_)
 refine g_v rfl r_assign<|g_nil<|d_then<|c_seq<|c_region<|g_v rfl (r_loadA (tag:=100020) rfl rfl Try.isAgg42 Try.sizeOf42 rfl rfl) ?_
 replace hm:=bnd hm
 obtain ⟨x2,hx3,hm⟩:=hm
 refine g_cn ⟨w0,M,_,_,φ⟩ (fun _ h=>h) Try.call34 rfl rfl (c_record_Check p0 _ hx3) (fun _ _=>?_)
 refine g_v rfl (r_neq rfl rfl)<|g_v rfl r_move<|g_sta ⟨w0,M,(100020,g1,.cells #[.string p0.fName,.int .u16 p0.fType,.int .u16 p0.fClass,.int .u32 p0.fTTL,.string p0.fData] 42 (0,0))::(1000,go0,.cells #[.string o0.fApex,.slice Ao0_0 o0.fRecords.length co0_0] 33 (0,0))::H,R,φ⟩ (fun _ h=>h) ?_
 refine g_if rfl rfl rfl rfl rfl (fun h4=>?_) (fun h4=>?_)
 ·
  replace hm:=ite_f hm (of_decide_eq_false h4)
  refine g_v rfl (r_field (n:=2) Try.underlying42 rfl Try.sizeOf22 rfl rfl)<|g_do rfl rfl rfl rfl rfl h4<|g_v rfl (r_load (tag:=100020) rfl rfl rfl Try.isAgg22)<|g_do rfl rfl rfl rfl rfl h4<|g_v rfl (r_neq rfl rfl)<|g_v rfl (r_pick0 rfl h4)<|g_v rfl r_move ?_
  refine g_if rfl rfl rfl rfl rfl (fun h5=>?_) (fun h5=>?_)
  ·
   replace hm:=ite_f hm (of_decide_eq_false h5)
   refine g_v rfl (r_field (n:=0) Try.underlying42 rfl Try.sizeOf9 rfl rfl)<|g_do rfl rfl rfl rfl rfl h5<|g_v rfl (r_load (tag:=100020) rfl rfl rfl Try.isAgg9)<|g_do rfl rfl rfl rfl rfl h5<|g_v rfl (r_field (n:=0) Try.underlying33 rfl Try.sizeOf9 rfl rfl)<|g_do rfl rfl rfl rfl rfl h5<|g_v rfl (r_load (tag:=1000) rfl rfl rfl Try.isAgg9)<|g_do rfl rfl rfl rfl rfl h5 ?_
   replace hm:=bnd hm
   obtain ⟨x6,hx7,hm⟩:=hm
   refine g_cn ⟨w0,M,_,_,φ⟩ (fun _ h=>h) Try.call35 rfl rfl (c_name_Under p0.fName o0.fApex _ hx7) (fun _ _=>?_)
   refine g_do rfl rfl rfl rfl rfl h5<|g_v rfl (r_not rfl)<|g_v rfl (r_pick0 rfl h5)<|g_v rfl r_assign<|g_nil<|d_then ?_
   refine c_flat [(3,.bool (!x6))] ⟨rfl,trivial⟩ (fun u=>?_)
   refine c_ret ?_
   cases hm
   exact d_retC () Try.results33 (res_tmp (res_nil rfl)) trivial (fun W h=>(h.dropH (t:=100020) rfl).phi (fun W hφ=>hφ)) (.inr rfl)
  replace hm:=ite_t hm (of_decide_eq_true h5)
  iterate 5 refine g_no rfl rfl rfl rfl rfl h5 ?_
  refine g_v rfl (r_pick1 rfl h5)<|g_v rfl r_assign<|g_nil<|d_then ?_
  refine c_flat [(3,.bool true)] ⟨rfl,trivial⟩ (fun u=>?_)
  refine c_ret ?_
  cases hm
  exact d_retC () Try.results33 (res_tmp (res_nil rfl)) trivial (fun W h=>(h.dropH (t:=100020) rfl).phi (fun W hφ=>hφ)) (.inr rfl)
 replace hm:=ite_t hm (of_decide_eq_true h4)
 refine g_no rfl rfl rfl rfl rfl h4<|g_no rfl rfl rfl rfl rfl h4<|g_v rfl (r_pick1 rfl h4)<|g_v rfl r_move ?_
 iterate 6 refine g_no rfl rfl rfl rfl rfl rfl ?_
 refine g_v rfl (r_pick1 rfl rfl)<|g_v rfl r_assign<|g_nil<|d_then ?_
 refine c_flat [(3,.bool true)] ⟨rfl,trivial⟩ (fun u=>?_)
 refine c_ret ?_
 cases hm
 exact d_retC () Try.results33 (res_tmp (res_nil rfl)) trivial (fun W h=>(h.dropH (t:=100020) rfl).phi (fun W hφ=>hφ)) (.inr rfl)
theorem lit42_16 (z0 : ByteArray) (z1 : Int) (z2 : Int) (z3 : Int) (z4 : ByteArray) : Try.prog.builtSlice 42 1 [(0,.agg #[.string z0,.int .u16 z1,.int .u16 z2,.int .u32 z3,.string z4])] = some #[.string z0,.int .u16 z1,.int .u16 z2,.int .u32 z3,.string z4]:=by kernel_rfl
theorem inf42_17  : (Try.prog.info? 42).map (fun i=>(i.zero,i.size,i.bytes)) = some (some (.agg #[.string (⟨#[]⟩ : ByteArray),.int .u16 0,.int .u16 0,.int .u32 0,.string (⟨#[]⟩ : ByteArray)]),5,40):=by kernel_rfl
noncomputable def m_auth_some_32_j1  (l92 : List GRR) : Option (List GRR):=
  some l92
noncomputable def m_auth_some_32_s2 (p0 : List GRR) (o0 : GZone) (l112 : List GRR) (i115 : Int) : Option (((List GRR)×Int) ⊕ (List GRR)):=
  if i115 < (p0.length : Int) then
    (at_ p0 i115).bind fun x135=>
    (m_auth_Check_c1 x135 o0).bind fun x140=>
    if x140 = true then
      (app 40 l112 [x135]).bind fun l144=>
      some (.inl (l144,w64 (i115 + 1)))
    else
      some (.inl (l112,w64 (i115 + 1)))
  else
    some (.inr l112)
noncomputable def m_auth_some_32 (p0 : List GRR) (o0 : GZone) : Option (List GRR):=
  (loop (fun s=>m_auth_some_32_s2 p0 o0 s.1 s.2) (([] : List GRR),0)).bind fun e=>m_auth_some_32_j1 e
theorem c_auth_some_32 {w0 : World} {M : Nat→Prop} {H : List (Nat×Nat×Obj)} {R : List (Nat×Row)} {φ : World→Prop} (p0 : List GRR) (Ap0_0 : Option Addr) (cp0_0 : Nat) (hcp0_0 : p0.length ≤ cp0_0) (fp0_0 : ∀ W,(Sta.mk w0 M H R φ).ok W→Cl W Ap0_0 (p0.flatMap GRR.enc)) (go0 : Nat) (o0 : GZone) (Ao0_0 : Option Addr) (co0_0 : Nat) (hco0_0 : o0.fRecords.length ≤ co0_0) (fo0_0 : ∀ W,φ W→Cl W Ao0_0 (o0.fRecords.flatMap GRR.enc)) (r : (List GRR)) (hm : m_auth_some_32 p0 o0 = some r) :
    Cn Try.prog 32 #[.slice Ap0_0 p0.length cp0_0,.func (.func 33) #[] #[.pointer (some ⟨go0,0,none⟩)]] ⟨w0,M,(1000,go0,.cells #[.string o0.fApex,.slice Ao0_0 o0.fRecords.length co0_0] 33 (0,0))::H,R,φ⟩ (fun x : Option Addr×Nat=>.slice x.1 r.length x.2) (fun x=>r.length ≤ x.2) (fun x=>⟨w0,M,(1000,go0,.cells #[.string o0.fApex,.slice Ao0_0 o0.fRecords.length co0_0] 33 (0,0))::H,(2000,⟨.slice x.1 r.length x.2,42,5,r.length,r.flatMap GRR.enc⟩)::R,φ⟩):=by
 unfold m_auth_some_32 at hm
 refine cn_intro (fn:=Try.f32) (N:=23) Try.func32 rfl Try.ntmps32 rfl<|c_seq<|c_region<|g_v rfl r_assign<|g_nil<|d_then<|c_seq<|c_region<|g_v rfl r_assign<|g_nil ?_
 refine d_then<|c_seq<|c_seq<|c_region<|g_v rfl r_move<|g_v rfl (r_lenL Try.underlying24 rfl)<|g_v rfl r_move<|g_nil<|d_then<|c_sta _ (fun W h=>nilR h 13 42 5) ?_
 refine c_cut (ι:=(List GRR)×Option Addr×Nat) [5] (fun ⟨l92,A93,c94⟩=>[(5,.slice A93 l92.length c94)]) (fun ⟨l92,A93,c94⟩=>⟨w0,M,(1000,go0,.cells #[.string o0.fApex,.slice Ao0_0 o0.fRecords.length co0_0] 33 (0,0))::H,(13,⟨.slice A93 l92.length c94,42,5,l92.length,l92.flatMap GRR.enc⟩)::R,φ⟩) (fun ⟨l92,A93,c94⟩=>m_auth_some_32_j1 l92 = some r∧l92.length ≤ c94) ?_ (fun ⟨l92,A93,c94⟩ u ⟨hm,hc94⟩=>?_)
 ·
  refine c_block ?_
  replace hm:=bnd hm
  obtain ⟨out2,hl2,hr2⟩:=hm
  obtain ⟨n133',hl2⟩:=loop_lp hl2
  refine c_loopU (ι:=Nat×(List GRR)×Int×Option Addr×Nat) [1,5,8,9,10] (fun ⟨n133,l112,i115,A113,c114⟩=>[(5,.slice A113 l112.length c114),(10,.int .i64 i115)]) (fun ⟨n133,l112,i115,A113,c114⟩=>⟨w0,M,(1000,go0,.cells #[.string o0.fApex,.slice Ao0_0 o0.fRecords.length co0_0] 33 (0,0))::H,(13,⟨.slice A113 l112.length c114,42,5,l112.length,l112.flatMap GRR.enc⟩)::R,φ⟩) (fun ⟨n133,l112,i115,A113,c114⟩=>Lp (fun s=>m_auth_some_32_s2 p0 o0 s.1 s.2) n133 (l112,i115) out2∧l112.length ≤ c114) (fun ⟨n133,l112,i115,A113,c114⟩=>n133) (n133',([] : List GRR),0,none,0) ⟨hl2,(Nat.le_refl 0)⟩ ⟨rfl,rfl,rfl,rfl,rfl,trivial⟩ (fun W h=>h.phi (fun W hφ=>hφ)) (fun ⟨n133,l112,i115,A113,c114⟩ u ⟨hlp,hc114⟩=>?_)
  obtain ⟨o2,hm,hnx2⟩:=lp_step hlp
  clear hlp
  replace hm : m_auth_some_32_s2 p0 o0 l112 i115 = some o2:=hm
  unfold m_auth_some_32_s2 at hm
  refine c_flat [(1,.func (.func 33) #[] #[.pointer (some ⟨go0,0,none⟩)]),(5,.slice A113 l112.length c114),(8,.slice Ap0_0 p0.length cp0_0),(9,.int .i64 (p0.length : Int)),(10,.int .i64 i115)] ⟨rfl,rfl,rfl,rfl,rfl,trivial⟩ (fun u=>?_)
  refine c_sta ⟨w0,M,(1000,go0,.cells #[.string o0.fApex,.slice Ao0_0 o0.fRecords.length co0_0] 33 (0,0))::H,(13,⟨.slice A113 l112.length c114,42,5,l112.length,l112.flatMap GRR.enc⟩)::R,φ⟩ (fun _ h=>h)<|c_seq<|c_region<|g_v rfl (r_lss rfl rfl)<|g_nil<|d_then<|c_seq ?_
  refine c_cond rfl (fun h134=>?_) (fun h134=>?_)
  ·
   replace hm:=ite_t hm (of_decide_eq_true h134)
   refine c_skip<|d_then<|c_seq<|c_block<|c_seq<|c_region ?_
   replace hm:=bnd hm
   obtain ⟨x135,hx135,hm⟩:=hm
   refine g_know _ (fun W hS=>cl_at (p:=(Sta.mk w0 M H R φ).ok) (sz:=5) (fun _=>rfl) (by decide) (ok_pre (H1:=[_]) (R1:=[_]) hS (fun W h=>h)) fp0_0 hx135) ?_
   rintro ⟨ad136,hA138,f137⟩
   refine g_v rfl (r_ix Try.underlying24 Try.sizeOf42 rfl hA138 rfl hx135)<|g_v rfl (r_ldA rfl Try.isAgg42 Try.sizeOf42 (fun W hS=>(f137 W (ok_pre (H1:=[_]) (R1:=[_]) hS (fun W h=>h))).take 5) rfl) ?_
   refine g_e rfl (e_alloc 100070 Try.zeroValue42) (fun g139 _=>?_)
   refine g_storeL (tag:=100070) rfl rfl rfl rfl Try.sizeOf42 rfl rfl<|g_nil<|d_then<|c_seq<|c_region<|g_v rfl r_move<|g_v rfl (r_loadA (tag:=100070) rfl rfl Try.isAgg42 Try.sizeOf42 rfl rfl) ?_
   replace hm:=bnd hm
   obtain ⟨x140,hx141,hm⟩:=hm
   refine g_cnv ⟨w0,M,(1000,go0,.cells #[.string o0.fApex,.slice Ao0_0 o0.fRecords.length co0_0] 33 (0,0))::(100070,g139,.cells #[.string x135.fName,.int .u16 x135.fType,.int .u16 x135.fClass,.int .u32 x135.fTTL,.string x135.fData] 42 (0,0))::H,(13,⟨.slice A113 l112.length c114,42,5,l112.length,l112.flatMap GRR.enc⟩)::R,φ⟩ (fun W h=>(ok_front (t:=1000) (t':=1000) h rfl)) Try.call33 rfl rfl rfl (c_auth_Check_c1 x135 go0 o0 Ao0_0 co0_0 hco0_0 (fun W h=>fo0_0 W h) _ hx141) (fun _ _=>?_)
   refine g_sta _ (fun W h=>(ok_front (t:=1000) (t':=1000) h rfl))<|g_nil<|d_then<|c_sta ⟨w0,M,(1000,go0,.cells #[.string o0.fApex,.slice Ao0_0 o0.fRecords.length co0_0] 33 (0,0))::(100070,g139,.cells #[.string x135.fName,.int .u16 x135.fType,.int .u16 x135.fClass,.int .u32 x135.fTTL,.string x135.fData] 42 (0,0))::H,(13,⟨.slice A113 l112.length c114,42,5,l112.length,l112.flatMap GRR.enc⟩)::R,φ⟩ (fun _ h=>h) ?_
   refine c_cond rfl (fun h142=>?_) (fun h142=>?_)
   ·
    replace hm:=ite_t hm h142
    refine c_region<|g_v rfl r_move<|g_v rfl (r_loadA (tag:=100070) rfl rfl Try.isAgg42 Try.sizeOf42 rfl rfl) ?_
    refine g_e rfl (e_lit (tag:=100190) (l:=[x135]) (enc:=GRR.enc) (sz:=5) rfl Try.underlying24 (lit42_16 _ _ _ _ _) rfl rfl (fun _=>rfl)) (fun g143 _=>?_)
    replace hm:=bnd hm
    obtain ⟨l144,hl144,hm⟩:=hm
    refine g_e rfl (e_appR (enc:=GRR.enc) (l:=l112) (l1:=[x135]) (l2:=l144) (tag:=13) Try.underlying24 inf42_17 rfl (by decide) (by decide) (fun _=>rfl) (fun _=>rfl) rfl hc114 rfl rfl (fun W hS=>rowCl (tag:=100190) rfl W hS) hl144) (fun ⟨A145,c146⟩ hc146=>?_)
    refine g_v rfl r_assign<|g_nil<|d_normal_block<|d_then ?_
    refine c_flat [(1,.func (.func 33) #[] #[.pointer (some ⟨go0,0,none⟩)]),(5,.slice A145 l144.length c146),(8,.slice Ap0_0 p0.length cp0_0),(9,.int .i64 (p0.length : Int)),(10,.int .i64 i115)] ⟨rfl,rfl,rfl,rfl,rfl,trivial⟩ (fun u=>?_)
    refine c_sta ⟨w0,M,(1000,go0,.cells #[.string o0.fApex,.slice Ao0_0 o0.fRecords.length co0_0] 33 (0,0))::(100070,g139,.cells #[.string x135.fName,.int .u16 x135.fType,.int .u16 x135.fClass,.int .u32 x135.fTTL,.string x135.fData] 42 (0,0))::H,(100190,⟨.slice (some ⟨g143,0,none⟩) [x135].length 1,42,5,[x135].length,[x135].flatMap GRR.enc⟩)::(13,⟨.slice A145 l144.length c146,42,5,l144.length,l144.flatMap GRR.enc⟩)::R,φ⟩ (fun _ h=>h)<|c_region<|g_v rfl (r_add rfl rfl rfl)<|g_v rfl r_move<|g_nil ?_
    obtain ⟨n147,hn147,hlp⟩:=nx_inl hm hnx2
    exact d_round (n147,l144,w64 (i115 + 1),A145,c146) ⟨hlp,hc146⟩ hn147 ⟨rfl,rfl,rfl,rfl,rfl,trivial⟩ (fun W h=>((h.dropR (t:=100190) rfl).dropH (t:=100070) rfl).phi (fun W hφ=>hφ))
   replace hm:=ite_f hm (bool_nt h142)
   refine c_skip<|d_normal_block<|d_then<|c_region<|g_v rfl (r_add rfl rfl rfl)<|g_v rfl r_move<|g_nil ?_
   obtain ⟨n148,hn148,hlp⟩:=nx_inl hm hnx2
   exact d_round (n148,l112,w64 (i115 + 1),A113,c114) ⟨hlp,hc114⟩ hn148 ⟨rfl,rfl,rfl,rfl,rfl,trivial⟩ (fun W h=>(h.dropH (t:=100070) rfl).phi (fun W hφ=>hφ))
  replace hm:=ite_f hm (of_decide_eq_false h134)
  refine c_exit<|d_exit_then<|d_exit_then<|d_exit_block ?_
  replace hm:=nx_out (C:=(fun e : (List GRR)=>m_auth_some_32_j1 e = some r)) hm hnx2 hr2
  exact d_round (l112,A113,c114) ⟨hm,hc114⟩ Nat.zero_lt_one ⟨rfl,trivial⟩ (fun W h=>h.phi (fun W hφ=>hφ))
 unfold m_auth_some_32_j1 at hm
 refine d_flat [(5,.slice A93 l92.length c94)] ⟨rfl,trivial⟩ (fun u=>?_)
 refine d_sta ⟨w0,M,(1000,go0,.cells #[.string o0.fApex,.slice Ao0_0 o0.fRecords.length co0_0] 33 (0,0))::H,(13,⟨.slice A93 l92.length c94,42,5,l92.length,l92.flatMap GRR.enc⟩)::R,φ⟩ (fun _ h=>h)<|d_then<|c_seq<|c_region<|g_v rfl r_move<|g_v rfl r_assign<|g_nil<|d_then<|c_ret ?_
 cases hm
 refine d_sta _ (fun W h=>ok_frontR (t:=13) (t':=2000) h rfl) ?_
 exact d_retC (A93,c94) Try.results32 (res_tmp (res_nil rfl)) hc94 (fun W h=>h.phi (fun W hφ=>hφ)) (.inr rfl)
structure Gauth_zone where
  fZone : GZone
  deriving DecidableEq
theorem bld60_18 (z0 : ByteArray) (zA1 : Option Addr) (zn1 : Nat) (zc1 : Nat) : ∀ W,(Instr.build 60 #[(0,.agg #[.string z0,.slice zA1 zn1 zc1])]).run Try.prog W = .ok (.agg #[.string z0,.slice zA1 zn1 zc1]) W:=fun _=>by kernel_rfl
noncomputable def m_name_Same (p0 : ByteArray) (p1 : ByteArray) : Option Bool:=
  (m_name_Check p0).bind fun x1=>
  if x1 = 0 then
    (m_name_Lower p0).bind fun x4=>
    (m_name_Lower p1).bind fun x6=>
    some (decide (x4 = x6))
  else
    some false
theorem c_name_Same {w0 : World} {M : Nat→Prop} {H : List (Nat×Nat×Obj)} {R : List (Nat×Row)} {φ : World→Prop} (p0 : ByteArray) (p1 : ByteArray) (r : Bool) (hm : m_name_Same p0 p1 = some r) :
    Cn Try.prog 56 #[.string p0,.string p1] ⟨w0,M,H,R,φ⟩ (fun x : Unit=>.bool r) (fun x=>True) (fun x=>⟨w0,M,H,R,φ⟩):=by
 unfold m_name_Same at hm
 refine cn_intro (fn:=Try.f56) (N:=15) Try.func56 rfl Try.ntmps56 rfl<|c_seq<|c_region<|g_v rfl r_assign<|g_nil<|d_then<|c_seq<|c_region<|g_v rfl r_move ?_
 replace hm:=bnd hm
 obtain ⟨x1,hx2,hm⟩:=hm
 refine g_cn ⟨w0,M,_,_,φ⟩ (fun _ h=>h) Try.call31 rfl rfl (c_name_Check p0 _ hx2) (fun _ _=>?_)
 refine g_v rfl (r_eql rfl rfl)<|g_v rfl r_move ?_
 refine g_if rfl rfl rfl rfl rfl (fun h3=>?_) (fun h3=>?_)
 ·
  replace hm:=ite_t hm (of_decide_eq_true h3)
  refine g_v rfl r_move<|g_do rfl rfl rfl rfl rfl h3 ?_
  replace hm:=bnd hm
  obtain ⟨x4,hx5,hm⟩:=hm
  refine g_cn ⟨w0,M,_,_,φ⟩ (fun _ h=>h) Try.call80 rfl rfl (c_name_Lower p0 _ hx5) (fun _ _=>?_)
  refine g_do rfl rfl rfl rfl rfl h3<|g_v rfl r_move<|g_do rfl rfl rfl rfl rfl h3 ?_
  replace hm:=bnd hm
  obtain ⟨x6,hx7,hm⟩:=hm
  refine g_cn ⟨w0,M,_,_,φ⟩ (fun _ h=>h) Try.call80 rfl rfl (c_name_Lower p1 _ hx7) (fun _ _=>?_)
  refine g_do rfl rfl rfl rfl rfl h3<|g_v rfl (r_eqlT rfl rfl)<|g_v rfl (r_pick1 rfl h3)<|g_v rfl r_assign<|g_nil<|d_then ?_
  refine c_flat [(4,.bool (decide (x4 = x6)))] ⟨rfl,trivial⟩ (fun u=>?_)
  refine c_sta ⟨w0,M,H,R,φ⟩ (fun _ h=>h)<|c_ret ?_
  cases hm
  exact d_retC () Try.results56 (res_tmp (res_nil rfl)) trivial (fun W h=>ok_pre (H1:=[]) (R1:=[]) h (fun W hφ=>hφ)) (.inr rfl)
 replace hm:=ite_f hm (of_decide_eq_false h3)
 iterate 4 refine g_no rfl rfl rfl rfl rfl h3 ?_
 refine g_v rfl (r_pick0 rfl h3)<|g_v rfl r_assign<|g_nil<|d_then<|c_ret ?_
 cases hm
 exact d_retC () Try.results56 (res_tmp (res_nil rfl)) trivial (fun W h=>ok_pre (H1:=[]) (R1:=[]) h (fun W hφ=>hφ)) (.inr rfl)
noncomputable def m_auth_zone_of_c1 (p0 : GRR) (o0 : Int) (o1 : ByteArray) : Option Bool:=
  if p0.fType = o0 then
    (m_name_Same p0.fName o1).bind fun x3=>
    some x3
  else
    some false
theorem c_auth_zone_of_c1 {w0 : World} {M : Nat→Prop} {H : List (Nat×Nat×Obj)} {R : List (Nat×Row)} {φ : World→Prop} (p0 : GRR) (go0 : Nat) (o0 : Int) (go1 : Nat) (o1 : ByteArray) (r : Bool) (hm : m_auth_zone_of_c1 p0 o0 o1 = some r) :
    Cn Try.prog 55 #[.agg #[.string p0.fName,.int .u16 p0.fType,.int .u16 p0.fClass,.int .u32 p0.fTTL,.string p0.fData],.pointer (some ⟨go0,0,none⟩),.pointer (some ⟨go1,0,none⟩)] ⟨w0,M,(1000,go0,.cells #[.int .u16 o0] 22 (0,0))::(1001,go1,.cells #[.string o1] 9 (0,0))::H,R,φ⟩ (fun x : Unit=>.bool r) (fun x=>True) (fun x=>⟨w0,M,(1000,go0,.cells #[.int .u16 o0] 22 (0,0))::(1001,go1,.cells #[.string o1] 9 (0,0))::H,R,φ⟩):=by
 unfold m_auth_zone_of_c1 at hm
 refine cn_intro (fn:=Try.f55) (N:=15) Try.func55 rfl Try.ntmps55 rfl<|c_seq<|c_region ?_
 refine g_e rfl (e_box 100030 rfl) (fun g1 _=>?_)
 refine g_v rfl r_assign<|g_nil<|d_then<|c_seq<|c_region<|g_v rfl (r_field (n:=1) Try.underlying42 rfl Try.sizeOf22 rfl rfl)<|g_v rfl (r_load (tag:=100030) rfl rfl rfl Try.isAgg22)<|g_v rfl (r_load (tag:=1000) rfl rfl rfl Try.isAgg22)<|g_v rfl (r_eql rfl rfl)<|g_v rfl r_move ?_
 refine g_sta ⟨w0,M,(100030,g1,.cells #[.string p0.fName,.int .u16 p0.fType,.int .u16 p0.fClass,.int .u32 p0.fTTL,.string p0.fData] 42 (0,0))::(1000,go0,.cells #[.int .u16 o0] 22 (0,0))::(1001,go1,.cells #[.string o1] 9 (0,0))::H,R,φ⟩ (fun _ h=>h) ?_
 refine g_if rfl rfl rfl rfl rfl (fun h2=>?_) (fun h2=>?_)
 ·
  replace hm:=ite_t hm (of_decide_eq_true h2)
  refine g_v rfl (r_field (n:=0) Try.underlying42 rfl Try.sizeOf9 rfl rfl)<|g_do rfl rfl rfl rfl rfl h2<|g_v rfl (r_load (tag:=100030) rfl rfl rfl Try.isAgg9)<|g_do rfl rfl rfl rfl rfl h2<|g_v rfl (r_load (tag:=1001) rfl rfl rfl Try.isAgg9)<|g_do rfl rfl rfl rfl rfl h2 ?_
  replace hm:=bnd hm
  obtain ⟨x3,hx4,hm⟩:=hm
  refine g_cn ⟨w0,M,_,_,φ⟩ (fun _ h=>h) Try.call56 rfl rfl (c_name_Same p0.fName o1 _ hx4) (fun _ _=>?_)
  refine g_v rfl (r_pick1 rfl h2)<|g_v rfl r_assign<|g_nil<|d_then ?_
  refine c_flat [(4,.bool x3)] ⟨rfl,trivial⟩ (fun u=>?_)
  refine c_ret ?_
  cases hm
  exact d_retC () Try.results55 (res_tmp (res_nil rfl)) trivial (fun W h=>(h.dropH (t:=100030) rfl).phi (fun W hφ=>hφ)) (.inr rfl)
 replace hm:=ite_f hm (of_decide_eq_false h2)
 iterate 3 refine g_no rfl rfl rfl rfl rfl h2 ?_
 refine g_v rfl (r_pick0 rfl h2)<|g_v rfl r_assign<|g_nil<|d_then ?_
 refine c_flat [(4,.bool false)] ⟨rfl,trivial⟩ (fun u=>?_)
 refine c_ret ?_
 cases hm
 exact d_retC () Try.results55 (res_tmp (res_nil rfl)) trivial (fun W h=>(h.dropH (t:=100030) rfl).phi (fun W hφ=>hφ)) (.inr rfl)
noncomputable def m_auth_some_32_2_j1  (l92 : List GRR) : Option (List GRR):=
  some l92
noncomputable def m_auth_some_32_2_s2 (p0 : List GRR) (o0 : Int) (o1 : ByteArray) (l112 : List GRR) (i115 : Int) : Option (((List GRR)×Int) ⊕ (List GRR)):=
  if i115 < (p0.length : Int) then
    (at_ p0 i115).bind fun x135=>
    (m_auth_zone_of_c1 x135 o0 o1).bind fun x140=>
    if x140 = true then
      (app 40 l112 [x135]).bind fun l144=>
      some (.inl (l144,w64 (i115 + 1)))
    else
      some (.inl (l112,w64 (i115 + 1)))
  else
    some (.inr l112)
noncomputable def m_auth_some_32_2 (p0 : List GRR) (o0 : Int) (o1 : ByteArray) : Option (List GRR):=
  (loop (fun s=>m_auth_some_32_2_s2 p0 o0 o1 s.1 s.2) (([] : List GRR),0)).bind fun e=>m_auth_some_32_2_j1 e
theorem c_auth_some_32_2 {w0 : World} {M : Nat→Prop} {H : List (Nat×Nat×Obj)} {R : List (Nat×Row)} {φ : World→Prop} (p0 : List GRR) (Ap0_0 : Option Addr) (cp0_0 : Nat) (hcp0_0 : p0.length ≤ cp0_0) (fp0_0 : ∀ W,(Sta.mk w0 M H R φ).ok W→Cl W Ap0_0 (p0.flatMap GRR.enc)) (go0 : Nat) (o0 : Int) (go1 : Nat) (o1 : ByteArray) (r : (List GRR)) (hm : m_auth_some_32_2 p0 o0 o1 = some r) :
    Cn Try.prog 32 #[.slice Ap0_0 p0.length cp0_0,.func (.func 55) #[] #[.pointer (some ⟨go0,0,none⟩),.pointer (some ⟨go1,0,none⟩)]] ⟨w0,M,(1000,go0,.cells #[.int .u16 o0] 22 (0,0))::(1001,go1,.cells #[.string o1] 9 (0,0))::H,R,φ⟩ (fun x : Option Addr×Nat=>.slice x.1 r.length x.2) (fun x=>r.length ≤ x.2) (fun x=>⟨w0,M,(1000,go0,.cells #[.int .u16 o0] 22 (0,0))::(1001,go1,.cells #[.string o1] 9 (0,0))::H,(2000,⟨.slice x.1 r.length x.2,42,5,r.length,r.flatMap GRR.enc⟩)::R,φ⟩):=by
 unfold m_auth_some_32_2 at hm
 refine cn_intro (fn:=Try.f32) (N:=23) Try.func32 rfl Try.ntmps32 rfl<|c_seq<|c_region<|g_v rfl r_assign<|g_nil<|d_then<|c_seq<|c_region<|g_v rfl r_assign<|g_nil ?_
 refine d_then<|c_seq<|c_seq<|c_region<|g_v rfl r_move<|g_v rfl (r_lenL Try.underlying24 rfl)<|g_v rfl r_move<|g_nil<|d_then<|c_sta _ (fun W h=>nilR h 13 42 5) ?_
 refine c_cut (ι:=(List GRR)×Option Addr×Nat) [5] (fun ⟨l92,A93,c94⟩=>[(5,.slice A93 l92.length c94)]) (fun ⟨l92,A93,c94⟩=>⟨w0,M,(1000,go0,.cells #[.int .u16 o0] 22 (0,0))::(1001,go1,.cells #[.string o1] 9 (0,0))::H,(13,⟨.slice A93 l92.length c94,42,5,l92.length,l92.flatMap GRR.enc⟩)::R,φ⟩) (fun ⟨l92,A93,c94⟩=>m_auth_some_32_2_j1 l92 = some r∧l92.length ≤ c94) ?_ (fun ⟨l92,A93,c94⟩ u ⟨hm,hc94⟩=>?_)
 ·
  refine c_block ?_
  replace hm:=bnd hm
  obtain ⟨out2,hl2,hr2⟩:=hm
  obtain ⟨n133',hl2⟩:=loop_lp hl2
  refine c_loopU (ι:=Nat×(List GRR)×Int×Option Addr×Nat) [1,5,8,9,10] (fun ⟨n133,l112,i115,A113,c114⟩=>[(5,.slice A113 l112.length c114),(10,.int .i64 i115)]) (fun ⟨n133,l112,i115,A113,c114⟩=>⟨w0,M,(1000,go0,.cells #[.int .u16 o0] 22 (0,0))::(1001,go1,.cells #[.string o1] 9 (0,0))::H,(13,⟨.slice A113 l112.length c114,42,5,l112.length,l112.flatMap GRR.enc⟩)::R,φ⟩) (fun ⟨n133,l112,i115,A113,c114⟩=>Lp (fun s=>m_auth_some_32_2_s2 p0 o0 o1 s.1 s.2) n133 (l112,i115) out2∧l112.length ≤ c114) (fun ⟨n133,l112,i115,A113,c114⟩=>n133) (n133',([] : List GRR),0,none,0) ⟨hl2,(Nat.le_refl 0)⟩ ⟨rfl,rfl,rfl,rfl,rfl,trivial⟩ (fun W h=>h.phi (fun W hφ=>hφ)) (fun ⟨n133,l112,i115,A113,c114⟩ u ⟨hlp,hc114⟩=>?_)
  obtain ⟨o2,hm,hnx2⟩:=lp_step hlp
  clear hlp
  replace hm : m_auth_some_32_2_s2 p0 o0 o1 l112 i115 = some o2:=hm
  unfold m_auth_some_32_2_s2 at hm
  refine c_flat [(1,.func (.func 55) #[] #[.pointer (some ⟨go0,0,none⟩),.pointer (some ⟨go1,0,none⟩)]),(5,.slice A113 l112.length c114),(8,.slice Ap0_0 p0.length cp0_0),(9,.int .i64 (p0.length : Int)),(10,.int .i64 i115)] ⟨rfl,rfl,rfl,rfl,rfl,trivial⟩ (fun u=>?_)
  refine c_sta ⟨w0,M,(1000,go0,.cells #[.int .u16 o0] 22 (0,0))::(1001,go1,.cells #[.string o1] 9 (0,0))::H,(13,⟨.slice A113 l112.length c114,42,5,l112.length,l112.flatMap GRR.enc⟩)::R,φ⟩ (fun _ h=>h)<|c_seq<|c_region<|g_v rfl (r_lss rfl rfl)<|g_nil<|d_then<|c_seq ?_
  refine c_cond rfl (fun h134=>?_) (fun h134=>?_)
  ·
   replace hm:=ite_t hm (of_decide_eq_true h134)
   refine c_skip<|d_then<|c_seq<|c_block<|c_seq<|c_region ?_
   replace hm:=bnd hm
   obtain ⟨x135,hx135,hm⟩:=hm
   refine g_know _ (fun W hS=>cl_at (p:=(Sta.mk w0 M H R φ).ok) (sz:=5) (fun _=>rfl) (by decide) (ok_pre (H1:=[_,_]) (R1:=[_]) hS (fun W h=>h)) fp0_0 hx135) ?_
   rintro ⟨ad136,hA138,f137⟩
   refine g_v rfl (r_ix Try.underlying24 Try.sizeOf42 rfl hA138 rfl hx135)<|g_v rfl (r_ldA rfl Try.isAgg42 Try.sizeOf42 (fun W hS=>(f137 W (ok_pre (H1:=[_,_]) (R1:=[_]) hS (fun W h=>h))).take 5) rfl) ?_
   refine g_e rfl (e_alloc 100070 Try.zeroValue42) (fun g139 _=>?_)
   refine g_storeL (tag:=100070) rfl rfl rfl rfl Try.sizeOf42 rfl rfl<|g_nil<|d_then<|c_seq<|c_region<|g_v rfl r_move<|g_v rfl (r_loadA (tag:=100070) rfl rfl Try.isAgg42 Try.sizeOf42 rfl rfl) ?_
   replace hm:=bnd hm
   obtain ⟨x140,hx141,hm⟩:=hm
   refine g_cnv ⟨w0,M,(1000,go0,.cells #[.int .u16 o0] 22 (0,0))::(1001,go1,.cells #[.string o1] 9 (0,0))::(100070,g139,.cells #[.string x135.fName,.int .u16 x135.fType,.int .u16 x135.fClass,.int .u32 x135.fTTL,.string x135.fData] 42 (0,0))::H,(13,⟨.slice A113 l112.length c114,42,5,l112.length,l112.flatMap GRR.enc⟩)::R,φ⟩ (fun W h=>(ok_front (t:=1000) (t':=1000) (ok_front (t:=1001) (t':=1001) h rfl) rfl)) Try.call55 rfl rfl rfl (c_auth_zone_of_c1 x135 go0 o0 go1 o1 _ hx141) (fun _ _=>?_)
   refine g_sta _ (fun W h=>(ok_front (t:=1000) (t':=1000) (ok_front (t:=1001) (t':=1001) h rfl) rfl))<|g_nil<|d_then<|c_sta ⟨w0,M,(1000,go0,.cells #[.int .u16 o0] 22 (0,0))::(1001,go1,.cells #[.string o1] 9 (0,0))::(100070,g139,.cells #[.string x135.fName,.int .u16 x135.fType,.int .u16 x135.fClass,.int .u32 x135.fTTL,.string x135.fData] 42 (0,0))::H,(13,⟨.slice A113 l112.length c114,42,5,l112.length,l112.flatMap GRR.enc⟩)::R,φ⟩ (fun _ h=>h) ?_
   refine c_cond rfl (fun h142=>?_) (fun h142=>?_)
   ·
    replace hm:=ite_t hm h142
    refine c_region<|g_v rfl r_move<|g_v rfl (r_loadA (tag:=100070) rfl rfl Try.isAgg42 Try.sizeOf42 rfl rfl) ?_
    refine g_e rfl (e_lit (tag:=100190) (l:=[x135]) (enc:=GRR.enc) (sz:=5) rfl Try.underlying24 (lit42_16 _ _ _ _ _) rfl rfl (fun _=>rfl)) (fun g143 _=>?_)
    replace hm:=bnd hm
    obtain ⟨l144,hl144,hm⟩:=hm
    refine g_e rfl (e_appR (enc:=GRR.enc) (l:=l112) (l1:=[x135]) (l2:=l144) (tag:=13) Try.underlying24 inf42_17 rfl (by decide) (by decide) (fun _=>rfl) (fun _=>rfl) rfl hc114 rfl rfl (fun W hS=>rowCl (tag:=100190) rfl W hS) hl144) (fun ⟨A145,c146⟩ hc146=>?_)
    refine g_v rfl r_assign<|g_nil<|d_normal_block<|d_then ?_
    refine c_flat [(1,.func (.func 55) #[] #[.pointer (some ⟨go0,0,none⟩),.pointer (some ⟨go1,0,none⟩)]),(5,.slice A145 l144.length c146),(8,.slice Ap0_0 p0.length cp0_0),(9,.int .i64 (p0.length : Int)),(10,.int .i64 i115)] ⟨rfl,rfl,rfl,rfl,rfl,trivial⟩ (fun u=>?_)
    refine c_sta ⟨w0,M,(1000,go0,.cells #[.int .u16 o0] 22 (0,0))::(1001,go1,.cells #[.string o1] 9 (0,0))::(100070,g139,.cells #[.string x135.fName,.int .u16 x135.fType,.int .u16 x135.fClass,.int .u32 x135.fTTL,.string x135.fData] 42 (0,0))::H,(100190,⟨.slice (some ⟨g143,0,none⟩) [x135].length 1,42,5,[x135].length,[x135].flatMap GRR.enc⟩)::(13,⟨.slice A145 l144.length c146,42,5,l144.length,l144.flatMap GRR.enc⟩)::R,φ⟩ (fun _ h=>h)<|c_region<|g_v rfl (r_add rfl rfl rfl)<|g_v rfl r_move<|g_nil ?_
    obtain ⟨n147,hn147,hlp⟩:=nx_inl hm hnx2
    exact d_round (n147,l144,w64 (i115 + 1),A145,c146) ⟨hlp,hc146⟩ hn147 ⟨rfl,rfl,rfl,rfl,rfl,trivial⟩ (fun W h=>((h.dropR (t:=100190) rfl).dropH (t:=100070) rfl).phi (fun W hφ=>hφ))
   replace hm:=ite_f hm (bool_nt h142)
   refine c_skip<|d_normal_block<|d_then<|c_region<|g_v rfl (r_add rfl rfl rfl)<|g_v rfl r_move<|g_nil ?_
   obtain ⟨n148,hn148,hlp⟩:=nx_inl hm hnx2
   exact d_round (n148,l112,w64 (i115 + 1),A113,c114) ⟨hlp,hc114⟩ hn148 ⟨rfl,rfl,rfl,rfl,rfl,trivial⟩ (fun W h=>(h.dropH (t:=100070) rfl).phi (fun W hφ=>hφ))
  replace hm:=ite_f hm (of_decide_eq_false h134)
  refine c_exit<|d_exit_then<|d_exit_then<|d_exit_block ?_
  replace hm:=nx_out (C:=(fun e : (List GRR)=>m_auth_some_32_2_j1 e = some r)) hm hnx2 hr2
  exact d_round (l112,A113,c114) ⟨hm,hc114⟩ Nat.zero_lt_one ⟨rfl,trivial⟩ (fun W h=>h.phi (fun W hφ=>hφ))
 unfold m_auth_some_32_2_j1 at hm
 refine d_flat [(5,.slice A93 l92.length c94)] ⟨rfl,trivial⟩ (fun u=>?_)
 refine d_sta ⟨w0,M,(1000,go0,.cells #[.int .u16 o0] 22 (0,0))::(1001,go1,.cells #[.string o1] 9 (0,0))::H,(13,⟨.slice A93 l92.length c94,42,5,l92.length,l92.flatMap GRR.enc⟩)::R,φ⟩ (fun _ h=>h)<|d_then<|c_seq<|c_region<|g_v rfl r_move<|g_v rfl r_assign<|g_nil<|d_then<|c_ret ?_
 cases hm
 refine d_sta _ (fun W h=>ok_frontR (t:=13) (t':=2000) h rfl) ?_
 exact d_retC (A93,c94) Try.results32 (res_tmp (res_nil rfl)) hc94 (fun W h=>h.phi (fun W hφ=>hφ)) (.inr rfl)
noncomputable def m_auth_zone_of (p0 : Gauth_zone) (p1 : ByteArray) (p2 : Int) : Option (List GRR):=
  (m_auth_some_32_2 p0.fZone.fRecords p2 p1).bind fun x4=>
  some x4
theorem c_auth_zone_of {w0 : World} {M : Nat→Prop} {H : List (Nat×Nat×Obj)} {R : List (Nat×Row)} {φ : World→Prop} (p0 : Gauth_zone) (Ap0_0 : Option Addr) (cp0_0 : Nat) (hcp0_0 : p0.fZone.fRecords.length ≤ cp0_0) (fp0_0 : ∀ W,(Sta.mk w0 M H R φ).ok W→Cl W Ap0_0 (p0.fZone.fRecords.flatMap GRR.enc)) (p1 : ByteArray) (p2 : Int) (r : (List GRR)) (hm : m_auth_zone_of p0 p1 p2 = some r) :
    Cn Try.prog 26 #[.agg #[.string p0.fZone.fApex,.slice Ap0_0 p0.fZone.fRecords.length cp0_0],.string p1,.int .u16 p2] ⟨w0,M,H,R,φ⟩ (fun x : Option Addr×Nat=>.slice x.1 r.length x.2) (fun x=>r.length ≤ x.2) (fun x=>⟨w0,M,H,(2000,⟨.slice x.1 r.length x.2,42,5,r.length,r.flatMap GRR.enc⟩)::R,φ⟩):=by
 unfold m_auth_zone_of at hm
 refine cn_intro (fn:=Try.f26) (N:=12) Try.func26 rfl Try.ntmps26 rfl<|c_seq<|c_region ?_
 refine g_e rfl (e_box 100030 rfl) (fun g1 _=>?_)
 refine g_e rfl (e_box 100040 rfl) (fun g2 _=>?_)
 refine g_e rfl (e_box 100050 rfl) (fun g3 _=>?_)
 refine g_v rfl r_assign<|g_nil<|d_then<|c_seq<|c_region<|g_v rfl (r_field (n:=0) Try.underlying60 rfl Try.sizeOf33 rfl rfl)<|g_v rfl (r_field (n:=1) Try.underlying33 rfl Try.sizeOf24 rfl rfl)<|g_v rfl (r_load (tag:=100030) rfl rfl rfl Try.isAgg24)<|g_v rfl (r_mkf rfl) ?_
 replace hm:=bnd hm
 obtain ⟨x4,hx5,hm⟩:=hm
 refine g_cn ⟨w0,M,(1000,g3,.cells #[.int .u16 p2] 22 (0,0))::(1001,g2,.cells #[.string p1] 9 (0,0))::(100030,g1,.cells #[.string p0.fZone.fApex,.slice Ap0_0 p0.fZone.fRecords.length cp0_0] 60 (0,0))::H,R,φ⟩ (fun W h=>(ok_front (t:=100050) (t':=1000) (ok_front (t:=100040) (t':=1001) h rfl) rfl)) Try.call32 rfl rfl (c_auth_some_32_2 p0.fZone.fRecords Ap0_0 cp0_0 hcp0_0 (fun W hS=>fp0_0 W (ok_pre (H1:=[_]) (R1:=[]) hS (fun W h=>h))) g3 p2 g2 p1 _ hx5) (fun ⟨A6,c7⟩ hc7=>?_)
 refine g_sta _ (fun W h=>(ok_frontR (t:=2000) (t':=100110) (ok_front (t:=1000) (t':=100050) (ok_front (t:=1001) (t':=100040) h rfl) rfl) rfl))<|g_v rfl r_assign<|g_nil<|d_then ?_
 refine c_flat [(6,.slice A6 x4.length c7)] ⟨rfl,trivial⟩ (fun u=>?_)
 refine c_sta ⟨w0,M,(100050,g3,.cells #[.int .u16 p2] 22 (0,0))::(100040,g2,.cells #[.string p1] 9 (0,0))::(100030,g1,.cells #[.string p0.fZone.fApex,.slice Ap0_0 p0.fZone.fRecords.length cp0_0] 60 (0,0))::H,(100110,⟨.slice A6 x4.length c7,42,5,x4.length,x4.flatMap GRR.enc⟩)::R,φ⟩ (fun _ h=>h)<|c_ret ?_
 cases hm
 refine d_sta _ (fun W h=>ok_frontR (t:=100110) (t':=2000) h rfl) ?_
 exact d_retC (A6,c7) Try.results26 (res_tmp (res_nil rfl)) hc7 (fun W h=>(((h.dropH (t:=100050) rfl).dropH (t:=100040) rfl).dropH (t:=100030) rfl).phi (fun W hφ=>hφ)) (.inr rfl)
noncomputable def m_auth_Check (p0 : GZone) : Option Int:=
  (m_name_Check p0.fApex).bind fun x2=>
  if x2 ≠ 0 then
    some 1
  else
    if 500 < (p0.fRecords.length : Int) then
      some 1
    else
      (m_auth_some_32 p0.fRecords p0).bind fun x6=>
      if 0 < (x6.length : Int) then
        some 1
      else
        (m_auth_zone_of (⟨p0⟩ : Gauth_zone) p0.fApex 6).bind fun x12=>
        if (x12.length : Int) ≠ 1 then
          some 1
        else
          (m_auth_zone_of (⟨p0⟩ : Gauth_zone) p0.fApex 2).bind fun x18=>
          if (x18.length : Int) = 0 then
            some 1
          else
            some 0
theorem c_auth_Check {w0 : World} {M : Nat→Prop} {H : List (Nat×Nat×Obj)} {R : List (Nat×Row)} {φ : World→Prop} (p0 : GZone) (Ap0_0 : Option Addr) (cp0_0 : Nat) (hcp0_0 : p0.fRecords.length ≤ cp0_0) (fp0_0 : ∀ W,φ W→Cl W Ap0_0 (p0.fRecords.flatMap GRR.enc)) (r : Int) (hm : m_auth_Check p0 = some r) :
    Cn Try.prog 12 #[.agg #[.string p0.fApex,.slice Ap0_0 p0.fRecords.length cp0_0]] ⟨w0,M,H,R,φ⟩ (fun x : Unit=>.int .i64 r) (fun x=>True) (fun x=>⟨w0,M,H,R,φ⟩):=by
 unfold m_auth_Check at hm
 refine cn_intro (fn:=Try.f12) (N:=41) Try.func12 rfl Try.ntmps12 rfl<|c_seq<|c_region ?_
 refine g_e rfl (e_box 100010 rfl) (fun g1 _=>?_)
 refine g_v rfl r_assign<|g_nil<|d_then<|c_seq<|c_seq<|c_region<|g_v rfl (r_field (n:=0) Try.underlying33 rfl Try.sizeOf9 rfl rfl)<|g_v rfl (r_load (tag:=100010) rfl rfl rfl Try.isAgg9) ?_
 replace hm:=bnd hm
 obtain ⟨x2,hx3,hm⟩:=hm
 refine g_cn ⟨w0,M,_,_,φ⟩ (fun _ h=>h) Try.call31 rfl rfl (c_name_Check p0.fApex _ hx3) (fun _ _=>?_)
 refine g_v rfl (r_neq rfl rfl)<|g_v rfl r_move ?_
 refine g_if rfl rfl rfl rfl rfl (fun h4=>?_) (fun h4=>?_)
 ·
  replace hm:=ite_f hm (of_decide_eq_false h4)
  refine g_v rfl (r_field (n:=1) Try.underlying33 rfl Try.sizeOf24 rfl rfl)<|g_do rfl rfl rfl rfl rfl h4<|g_v rfl (r_load (tag:=100010) rfl rfl rfl Try.isAgg24)<|g_do rfl rfl rfl rfl rfl h4<|g_v rfl (r_lenL Try.underlying24 rfl)<|g_do rfl rfl rfl rfl rfl h4<|g_v rfl (r_gtr rfl rfl)<|g_v rfl (r_pick0 rfl h4)<|g_nil<|d_then ?_
  refine c_flat [(1,.pointer (some ⟨g1,0,none⟩)),(14,.bool (decide (500 < (p0.fRecords.length : Int))))] ⟨rfl,rfl,trivial⟩ (fun u=>?_)
  refine c_sta ⟨w0,M,(100010,g1,.cells #[.string p0.fApex,.slice Ap0_0 p0.fRecords.length cp0_0] 33 (0,0))::H,R,φ⟩ (fun _ h=>h) ?_
  refine c_cond rfl (fun h5=>?_) (fun h5=>?_)
  ·
   replace hm:=ite_t hm (of_decide_eq_true h5)
   refine c_seq<|c_region<|g_v rfl r_assign<|g_nil<|d_then<|c_ret<|d_ret_then ?_
   cases hm
   exact d_retC () Try.results12 (res_tmp (res_nil rfl)) trivial (fun W h=>ok_pre (H1:=[_]) (R1:=[]) h (fun W hφ=>hφ)) (.inr rfl)
  replace hm:=ite_f hm (of_decide_eq_false h5)
  refine c_skip<|d_then<|c_seq<|c_region<|g_v rfl (r_field (n:=1) Try.underlying33 rfl Try.sizeOf24 rfl rfl)<|g_v rfl (r_load (tag:=100010) rfl rfl rfl Try.isAgg24)<|g_v rfl (r_mkf rfl) ?_
  replace hm:=bnd hm
  obtain ⟨x6,hx7,hm⟩:=hm
  refine g_cn ⟨w0,M,(1000,g1,.cells #[.string p0.fApex,.slice Ap0_0 p0.fRecords.length cp0_0] 33 (0,0))::H,R,φ⟩ (fun W h=>(ok_front (t:=100010) (t':=1000) h rfl)) Try.call32 rfl rfl (c_auth_some_32 p0.fRecords Ap0_0 cp0_0 hcp0_0 (fun W hS=>fp0_0 W hS.now) g1 p0 Ap0_0 cp0_0 hcp0_0 (fun W h=>fp0_0 W h) _ hx7) (fun ⟨A8,c9⟩ hc9=>?_)
  refine g_sta _ (fun W h=>(ok_frontR (t:=2000) (t':=100180) (ok_front (t:=1000) (t':=100010) h rfl) rfl))<|g_v rfl r_assign<|g_nil<|d_then<|c_seq<|c_region<|g_v rfl (r_loadA (tag:=100010) rfl rfl Try.isAgg33 Try.sizeOf33 rfl rfl)<|g_v rfl (r_build _ rfl (bld60_18 _ _ _ _))<|g_v rfl (r_mkf rfl)<|g_v rfl r_assign ?_
  refine g_nil<|d_then ?_
  refine c_flat [(1,.pointer (some ⟨g1,0,none⟩)),(3,.slice A8 x6.length c9),(4,.func (.func 26) #[.agg #[.string p0.fApex,.slice Ap0_0 p0.fRecords.length cp0_0]] #[])] ⟨rfl,rfl,rfl,trivial⟩ (fun u=>?_)
  refine c_sta ⟨w0,M,(100010,g1,.cells #[.string p0.fApex,.slice Ap0_0 p0.fRecords.length cp0_0] 33 (0,0))::H,(100180,⟨.slice A8 x6.length c9,42,5,x6.length,x6.flatMap GRR.enc⟩)::R,φ⟩ (fun _ h=>h)<|c_seq<|c_seq<|c_region<|g_v rfl r_move<|g_v rfl (r_lenL Try.underlying24 rfl)<|g_v rfl (r_gtr rfl rfl)<|g_v rfl r_move ?_
  refine g_if rfl rfl rfl rfl rfl (fun h11=>?_) (fun h11=>?_)
  ·
   replace hm:=ite_f hm (of_decide_eq_false h11)
   refine g_v rfl r_move<|g_do rfl rfl rfl rfl rfl h11<|g_v rfl (r_field (n:=0) Try.underlying33 rfl Try.sizeOf9 rfl rfl)<|g_do rfl rfl rfl rfl rfl h11<|g_v rfl (r_load (tag:=100010) rfl rfl rfl Try.isAgg9)<|g_do rfl rfl rfl rfl rfl h11 ?_
   replace hm:=bnd hm
   obtain ⟨x12,hx13,hm⟩:=hm
   refine g_cnv ⟨w0,M,_,_,φ⟩ (fun _ h=>h) Try.call26 rfl rfl rfl (c_auth_zone_of (⟨p0⟩ : Gauth_zone) Ap0_0 cp0_0 hcp0_0 (fun W hS=>fp0_0 W hS.now) p0.fApex 6 _ hx13) (fun ⟨A14,c15⟩ hc15=>?_)
   refine g_sta _ (fun W h=>(ok_frontR (t:=2000) (t':=100290) h rfl))<|g_do rfl rfl rfl rfl rfl h11<|g_v rfl (r_lenL Try.underlying24 rfl)<|g_do rfl rfl rfl rfl rfl h11<|g_v rfl (r_neq rfl rfl)<|g_v rfl (r_pick0 rfl h11)<|g_v rfl r_move<|g_sta ⟨w0,M,(100010,g1,.cells #[.string p0.fApex,.slice Ap0_0 p0.fRecords.length cp0_0] 33 (0,0))::H,(100290,⟨.slice A14 x12.length c15,42,5,x12.length,x12.flatMap GRR.enc⟩)::(100180,⟨.slice A8 x6.length c9,42,5,x6.length,x6.flatMap GRR.enc⟩)::R,φ⟩ (fun _ h=>h) ?_
   refine g_if rfl rfl rfl rfl rfl (fun h17=>?_) (fun h17=>?_)
   ·
    replace hm:=ite_f hm (of_decide_eq_false h17)
    refine g_v rfl r_move<|g_do rfl rfl rfl rfl rfl h17<|g_v rfl (r_field (n:=0) Try.underlying33 rfl Try.sizeOf9 rfl rfl)<|g_do rfl rfl rfl rfl rfl h17<|g_v rfl (r_load (tag:=100010) rfl rfl rfl Try.isAgg9)<|g_do rfl rfl rfl rfl rfl h17 ?_
    replace hm:=bnd hm
    obtain ⟨x18,hx19,hm⟩:=hm
    refine g_cnv ⟨w0,M,_,_,φ⟩ (fun _ h=>h) Try.call26 rfl rfl rfl (c_auth_zone_of (⟨p0⟩ : Gauth_zone) Ap0_0 cp0_0 hcp0_0 (fun W hS=>fp0_0 W hS.now) p0.fApex 2 _ hx19) (fun ⟨A20,c21⟩ hc21=>?_)
    refine g_sta _ (fun W h=>(ok_frontR (t:=2000) (t':=100370) h rfl))<|g_do rfl rfl rfl rfl rfl h17<|g_v rfl (r_lenL Try.underlying24 rfl)<|g_do rfl rfl rfl rfl rfl h17<|g_v rfl (r_eql rfl rfl)<|g_v rfl (r_pick0 rfl h17)<|g_nil<|d_then ?_
    refine c_flat [(40,.bool (decide ((x18.length : Int) = 0)))] ⟨rfl,trivial⟩ (fun u=>?_)
    refine c_sta ⟨w0,M,(100010,g1,.cells #[.string p0.fApex,.slice Ap0_0 p0.fRecords.length cp0_0] 33 (0,0))::H,(100370,⟨.slice A20 x18.length c21,42,5,x18.length,x18.flatMap GRR.enc⟩)::(100290,⟨.slice A14 x12.length c15,42,5,x12.length,x12.flatMap GRR.enc⟩)::(100180,⟨.slice A8 x6.length c9,42,5,x6.length,x6.flatMap GRR.enc⟩)::R,φ⟩ (fun _ h=>h) ?_
    refine c_cond rfl (fun h23=>?_) (fun h23=>?_)
    ·
     replace hm:=ite_t hm (of_decide_eq_true h23)
     refine c_seq<|c_region<|g_v rfl r_assign<|g_nil<|d_then<|c_ret<|d_ret_then ?_
     cases hm
     exact d_retC () Try.results12 (res_tmp (res_nil rfl)) trivial (fun W h=>ok_pre (H1:=[_]) (R1:=[_,_,_]) h (fun W hφ=>hφ)) (.inr rfl)
    replace hm:=ite_f hm (of_decide_eq_false h23)
    refine c_skip<|d_then<|c_seq<|c_region<|g_v rfl r_assign<|g_nil<|d_then<|c_ret ?_
    cases hm
    exact d_retC () Try.results12 (res_tmp (res_nil rfl)) trivial (fun W h=>ok_pre (H1:=[_]) (R1:=[_,_,_]) h (fun W hφ=>hφ)) (.inr rfl)
   replace hm:=ite_t hm (of_decide_eq_true h17)
   iterate 5 refine g_no rfl rfl rfl rfl rfl h17 ?_
   refine g_v rfl (r_pick1 rfl h17)<|g_nil<|d_then ?_
   refine c_flat [(40,.bool true)] ⟨rfl,trivial⟩ (fun u=>?_)
   refine c_cond1 rfl rfl<|c_seq<|c_region<|g_v rfl r_assign<|g_nil<|d_then<|c_ret<|d_ret_then ?_
   cases hm
   exact d_retC () Try.results12 (res_tmp (res_nil rfl)) trivial (fun W h=>ok_pre (H1:=[_]) (R1:=[_,_]) h (fun W hφ=>hφ)) (.inr rfl)
  replace hm:=ite_t hm (of_decide_eq_true h11)
  iterate 5 refine g_no rfl rfl rfl rfl rfl h11 ?_
  refine g_v rfl (r_pick1 rfl h11)<|g_v rfl r_move ?_
  iterate 6 refine g_no rfl rfl rfl rfl rfl rfl ?_
  refine g_v rfl (r_pick1 rfl rfl)<|g_nil<|d_then<|c_cond1 rfl rfl<|c_seq<|c_region<|g_v rfl r_assign<|g_nil<|d_then<|c_ret ?_
  refine d_ret_then ?_
  cases hm
  exact d_retC () Try.results12 (res_tmp (res_nil rfl)) trivial (fun W h=>ok_pre (H1:=[_]) (R1:=[_]) h (fun W hφ=>hφ)) (.inr rfl)
 replace hm:=ite_t hm (of_decide_eq_true h4)
 iterate 3 refine g_no rfl rfl rfl rfl rfl h4 ?_
 refine g_v rfl (r_pick1 rfl h4)<|g_nil<|d_then<|c_cond1 rfl rfl<|c_seq<|c_region<|g_v rfl r_assign<|g_nil<|d_then ?_
 refine c_flat [(2,.int .i64 1)] ⟨rfl,trivial⟩ (fun u=>?_)
 refine c_sta ⟨w0,M,(100010,g1,.cells #[.string p0.fApex,.slice Ap0_0 p0.fRecords.length cp0_0] 33 (0,0))::H,R,φ⟩ (fun _ h=>h)<|c_ret<|d_ret_then ?_
 cases hm
 exact d_retC () Try.results12 (res_tmp (res_nil rfl)) trivial (fun W h=>ok_pre (H1:=[_]) (R1:=[]) h (fun W hφ=>hφ)) (.inr rfl)
noncomputable def m_auth_Find_j1  (i75 : Int) (i76 : Int) : Option (Int×Bool):=
  some (i75,decide (0 ≤ i76))
noncomputable def m_auth_Find_s2 (p0 : List GZone) (p1 : ByteArray) (i124 : Int) (i125 : Int) (i126 : Int) : Option ((Int×Int×Int) ⊕ (Int×Int)):=
  if i126 < (p0.length : Int) then
    (at_ p0 i126).bind fun x152=>
    (m_name_Depth x152.fApex).bind fun x162=>
    if i125 < x162 then
      (m_name_Under p1 x152.fApex).bind fun x165=>
      if x165 = true then
        (m_auth_Check x152).bind fun x168=>
        if x168 = 0 then
          some (.inl (i126,x162,w64 (i126 + 1)))
        else
          some (.inl (i124,i125,w64 (i126 + 1)))
      else
        some (.inl (i124,i125,w64 (i126 + 1)))
    else
      some (.inl (i124,i125,w64 (i126 + 1)))
  else
    some (.inr (i124,i125))
noncomputable def m_auth_Find (p0 : List GZone) (p1 : ByteArray) : Option (Int×Bool):=
  (loop (fun s=>m_auth_Find_s2 p0 p1 s.1 s.2.1 s.2.2) (0,(-1),0)).bind fun e=>m_auth_Find_j1 e.1 e.2
theorem c_auth_Find {w0 : World} {M : Nat→Prop} {H : List (Nat×Nat×Obj)} {R : List (Nat×Row)} {φ : World→Prop} (p0 : List GZone) (Ap0_0 : Option Addr) (cp0_0 : Nat) (psp0_0 : List GZoneP) (hcp0_0 : (DOk GZone.capP p0 psp0_0∧p0.length ≤ cp0_0)) (fp0_0 : ∀ W,φ W→Cl W Ap0_0 ((p0.zip psp0_0).flatMap GZone.encP)) (fop0_0 : ∀ W,φ W→DOwn GZone.ownP p0 psp0_0 W) (p1 : ByteArray) (r : Int×Bool) (hm : m_auth_Find p0 p1 = some r) :
    Cn Try.prog 16 #[.slice Ap0_0 p0.length cp0_0,.string p1] ⟨w0,M,H,R,φ⟩ (fun x : Unit=>.tuple #[.int .i64 r.1,.bool r.2]) (fun x=>True) (fun x=>⟨w0,M,H,R,φ⟩):=by
 unfold m_auth_Find at hm
 refine cn_intro (fn:=Try.f16) (N:=41) Try.func16 rfl Try.ntmps16 rfl<|c_seq<|c_region<|g_v rfl r_assign<|g_v rfl r_assign<|g_nil<|d_then<|c_seq<|c_region<|g_v rfl r_assign ?_
 refine g_v rfl r_assign<|g_nil<|d_then<|c_seq<|c_seq<|c_region<|g_v rfl r_move<|g_v rfl (r_lenL Try.underlying35 rfl)<|g_v rfl r_move<|g_nil ?_
 refine d_then ?_
 refine c_cut (ι:=Int×Int) [6,7] (fun ⟨i75,i76⟩=>[(6,.int .i64 i75),(7,.int .i64 i76)]) (fun ⟨i75,i76⟩=>⟨w0,M,H,R,φ⟩) (fun ⟨i75,i76⟩=>m_auth_Find_j1 i75 i76 = some r) ?_ (fun ⟨i75,i76⟩ u hm=>?_)
 ·
  refine c_block ?_
  replace hm:=bnd hm
  obtain ⟨out2,hl2,hr2⟩:=hm
  obtain ⟨n150',hl2⟩:=loop_lp hl2
  refine c_loopU (ι:=Nat×Int×Int×Int) [1,6,7,11,12,13] (fun ⟨n150,i124,i125,i126⟩=>[(6,.int .i64 i124),(7,.int .i64 i125),(13,.int .i64 i126)]) (fun ⟨n150,i124,i125,i126⟩=>⟨w0,M,H,R,φ⟩) (fun ⟨n150,i124,i125,i126⟩=>Lp (fun s=>m_auth_Find_s2 p0 p1 s.1 s.2.1 s.2.2) n150 (i124,i125,i126) out2) (fun ⟨n150,i124,i125,i126⟩=>n150) (n150',0,(-1),0) hl2 ⟨rfl,rfl,rfl,rfl,rfl,rfl,trivial⟩ (fun W h=>h.phi (fun W hφ=>hφ)) (fun ⟨n150,i124,i125,i126⟩ u hlp=>?_)
  obtain ⟨o2,hm,hnx2⟩:=lp_step hlp
  clear hlp
  replace hm : m_auth_Find_s2 p0 p1 i124 i125 i126 = some o2:=hm
  unfold m_auth_Find_s2 at hm
  refine c_flat [(1,.string p1),(6,.int .i64 i124),(7,.int .i64 i125),(11,.slice Ap0_0 p0.length cp0_0),(12,.int .i64 (p0.length : Int)),(13,.int .i64 i126)] ⟨rfl,rfl,rfl,rfl,rfl,rfl,trivial⟩ (fun u=>?_)
  refine c_sta ⟨w0,M,H,R,φ⟩ (fun _ h=>h)<|c_seq<|c_region<|g_v rfl (r_lss rfl rfl)<|g_nil<|d_then<|c_seq ?_
  refine c_cond rfl (fun h151=>?_) (fun h151=>?_)
  ·
   replace hm:=ite_t hm (of_decide_eq_true h151)
   refine c_skip<|d_then<|c_seq<|c_block<|c_seq<|c_region<|g_v rfl r_move ?_
   replace hm:=bnd hm
   obtain ⟨x152,hx152,hm⟩:=hm
   obtain ⟨pp156,hv157,hz158,hcp159⟩:=DOk.at_ hcp0_0.1 hx152
   refine g_know _ (fun W hS=>cl_at (p:=φ) (sz:=2) (fun _=>rfl) (by decide) hS.now fp0_0 hv157) ?_
   rintro ⟨ad153,hA155,f154⟩
   have f160:=fun (W : World) (h : φ W)=>(fop0_0 W h _ hz158)
   refine g_v rfl (r_ix Try.underlying35 Try.sizeOf33 rfl hA155 rfl hx152)<|g_v rfl (r_ldA rfl Try.isAgg33 Try.sizeOf33 (fun W hS=>(f154 W hS.now).take 2) rfl) ?_
   refine g_e rfl (e_alloc 100090 Try.zeroValue33) (fun g161 _=>?_)
   refine g_v rfl r_assign<|g_storeL (tag:=100090) rfl rfl rfl rfl Try.sizeOf33 rfl rfl<|g_nil<|d_then<|c_seq<|c_region<|g_v rfl (r_field (n:=0) Try.underlying33 rfl Try.sizeOf9 rfl rfl)<|g_v rfl (r_load (tag:=100090) rfl rfl rfl Try.isAgg9) ?_
   replace hm:=bnd hm
   obtain ⟨x162,hx163,hm⟩:=hm
   refine g_cn ⟨w0,M,_,_,φ⟩ (fun _ h=>h) Try.call36 rfl rfl (c_name_Depth x152.fApex _ hx163) (fun _ _=>?_)
   refine g_v rfl r_assign<|g_nil<|d_then ?_
   refine c_flat [(1,.string p1),(6,.int .i64 i124),(7,.int .i64 i125),(8,.int .i64 i126),(9,.pointer (some ⟨g161,0,none⟩)),(10,.int .i64 x162),(11,.slice Ap0_0 p0.length cp0_0),(12,.int .i64 (p0.length : Int)),(13,.int .i64 i126)] ⟨rfl,rfl,rfl,rfl,rfl,rfl,rfl,rfl,rfl,trivial⟩ (fun u=>?_)
   refine c_sta ⟨w0,M,(100090,g161,.cells #[.string x152.fApex,.slice pp156.pA0 x152.fRecords.length pp156.pC0] 33 (0,0))::H,R,φ⟩ (fun _ h=>h)<|c_seq<|c_region<|g_v rfl r_move<|g_v rfl r_move<|g_v rfl (r_gtr rfl rfl)<|g_v rfl r_move ?_
   refine g_if rfl rfl rfl rfl rfl (fun h164=>?_) (fun h164=>?_)
   ·
    replace hm:=ite_t hm (of_decide_eq_true h164)
    refine g_v rfl r_move<|g_do rfl rfl rfl rfl rfl h164<|g_v rfl (r_field (n:=0) Try.underlying33 rfl Try.sizeOf9 rfl rfl)<|g_do rfl rfl rfl rfl rfl h164<|g_v rfl (r_load (tag:=100090) rfl rfl rfl Try.isAgg9)<|g_do rfl rfl rfl rfl rfl h164 ?_
    replace hm:=bnd hm
    obtain ⟨x165,hx166,hm⟩:=hm
    refine g_cn ⟨w0,M,_,_,φ⟩ (fun _ h=>h) Try.call35 rfl rfl (c_name_Under p1 x152.fApex _ hx166) (fun _ _=>?_)
    refine g_v rfl (r_pick1 rfl h164)<|g_v rfl r_move ?_
    refine g_if rfl rfl rfl rfl rfl (fun h167=>?_) (fun h167=>?_)
    ·
     replace hm:=ite_t hm h167
     refine g_v rfl (r_loadA (tag:=100090) rfl rfl Try.isAgg33 Try.sizeOf33 rfl rfl)<|g_do rfl rfl rfl rfl rfl h167 ?_
     replace hm:=bnd hm
     obtain ⟨x168,hx169,hm⟩:=hm
     refine g_cn ⟨w0,M,_,_,φ⟩ (fun _ h=>h) Try.call12 rfl rfl (c_auth_Check x152 pp156.pA0 pp156.pC0 hcp159 (fun W h=>f160 W h) _ hx169) (fun _ _=>?_)
     refine g_do rfl rfl rfl rfl rfl h167<|g_v rfl (r_eql rfl rfl)<|g_v rfl (r_pick1 rfl h167)<|g_nil<|d_then ?_
     refine c_flat [(1,.string p1),(6,.int .i64 i124),(7,.int .i64 i125),(8,.int .i64 i126),(10,.int .i64 x162),(11,.slice Ap0_0 p0.length cp0_0),(12,.int .i64 (p0.length : Int)),(13,.int .i64 i126),(34,.bool (decide (x168 = 0)))] ⟨rfl,rfl,rfl,rfl,rfl,rfl,rfl,rfl,rfl,trivial⟩ (fun u=>?_)
     refine c_cond rfl (fun h170=>?_) (fun h170=>?_)
     ·
      replace hm:=ite_t hm (of_decide_eq_true h170)
      refine c_region<|g_v rfl r_move<|g_v rfl r_move<|g_v rfl r_assign<|g_v rfl r_assign<|g_nil<|d_normal_block<|d_then<|c_region<|g_v rfl (r_add rfl rfl rfl) ?_
      refine g_v rfl r_move<|g_nil ?_
      obtain ⟨n171,hn171,hlp⟩:=nx_inl hm hnx2
      exact d_round (n171,i126,x162,w64 (i126 + 1)) hlp hn171 ⟨rfl,rfl,rfl,rfl,rfl,rfl,trivial⟩ (fun W h=>(h.dropH (t:=100090) rfl).phi (fun W hφ=>hφ))
     replace hm:=ite_f hm (of_decide_eq_false h170)
     refine c_skip<|d_normal_block<|d_then<|c_region<|g_v rfl (r_add rfl rfl rfl)<|g_v rfl r_move<|g_nil ?_
     obtain ⟨n172,hn172,hlp⟩:=nx_inl hm hnx2
     exact d_round (n172,i124,i125,w64 (i126 + 1)) hlp hn172 ⟨rfl,rfl,rfl,rfl,rfl,rfl,trivial⟩ (fun W h=>(h.dropH (t:=100090) rfl).phi (fun W hφ=>hφ))
    replace hm:=ite_f hm (bool_nt h167)
    refine g_no rfl rfl rfl rfl rfl h167<|g_no rfl rfl rfl rfl rfl h167<|g_v rfl (r_pick0 rfl h167)<|g_nil<|d_then ?_
    refine c_flat [(1,.string p1),(6,.int .i64 i124),(7,.int .i64 i125),(8,.int .i64 i126),(10,.int .i64 x162),(11,.slice Ap0_0 p0.length cp0_0),(12,.int .i64 (p0.length : Int)),(13,.int .i64 i126),(34,.bool false)] ⟨rfl,rfl,rfl,rfl,rfl,rfl,rfl,rfl,rfl,trivial⟩ (fun u=>?_)
    refine c_cond0 rfl rfl<|c_skip<|d_normal_block<|d_then<|c_region<|g_v rfl (r_add rfl rfl rfl)<|g_v rfl r_move<|g_nil ?_
    obtain ⟨n173,hn173,hlp⟩:=nx_inl hm hnx2
    exact d_round (n173,i124,i125,w64 (i126 + 1)) hlp hn173 ⟨rfl,rfl,rfl,rfl,rfl,rfl,trivial⟩ (fun W h=>(h.dropH (t:=100090) rfl).phi (fun W hφ=>hφ))
   replace hm:=ite_f hm (of_decide_eq_false h164)
   iterate 3 refine g_no rfl rfl rfl rfl rfl h164 ?_
   refine g_v rfl (r_pick0 rfl h164)<|g_v rfl r_move ?_
   iterate 3 refine g_no rfl rfl rfl rfl rfl rfl ?_
   refine g_v rfl (r_pick0 rfl rfl)<|g_nil<|d_then<|c_cond0 rfl rfl<|c_skip<|d_normal_block<|d_then<|c_region<|g_v rfl (r_add rfl rfl rfl)<|g_v rfl r_move ?_
   refine g_nil ?_
   obtain ⟨n174,hn174,hlp⟩:=nx_inl hm hnx2
   exact d_round (n174,i124,i125,w64 (i126 + 1)) hlp hn174 ⟨rfl,rfl,rfl,rfl,rfl,rfl,trivial⟩ (fun W h=>(h.dropH (t:=100090) rfl).phi (fun W hφ=>hφ))
  replace hm:=ite_f hm (of_decide_eq_false h151)
  refine c_exit<|d_exit_then<|d_exit_then<|d_exit_block ?_
  replace hm:=nx_out (C:=(fun e : Int×Int=>m_auth_Find_j1 e.1 e.2 = some r)) hm hnx2 hr2
  exact d_round (i124,i125) hm Nat.zero_lt_one ⟨rfl,rfl,trivial⟩ (fun W h=>h.phi (fun W hφ=>hφ))
 unfold m_auth_Find_j1 at hm
 refine d_flat [(6,.int .i64 i75),(7,.int .i64 i76)] ⟨rfl,rfl,trivial⟩ (fun u=>?_)
 refine d_sta ⟨w0,M,H,R,φ⟩ (fun _ h=>h)<|d_then<|c_seq<|c_region<|g_v rfl r_move<|g_v rfl r_move<|g_v rfl (r_geq rfl rfl)<|g_v rfl r_assign<|g_v rfl r_assign<|g_nil ?_
 refine d_then<|c_ret ?_
 cases hm
 exact d_retC () Try.results16 (res_tmp (res_tmp (res_nil rfl))) trivial (fun W h=>ok_pre (H1:=[]) (R1:=[]) h (fun W hφ=>hφ)) (.inr rfl)
theorem lit3_19 (z0 : Int) : Try.prog.builtSlice 3 1 [(0,.int .i64 z0)] = some #[.int .i64 z0]:=by kernel_rfl
theorem inf3_20  : (Try.prog.info? 3).map (fun i=>(i.zero,i.size,i.bytes)) = some (some (.int .i64 0),1,8):=by kernel_rfl
noncomputable def m_name_Cut (p0 : ByteArray) (p1 : Int) : Option ByteArray:=
  (eachM p0).bind fun _=>
  (m_name_Check p0).bind fun x9=>
  if x9 ≠ 0 then
    some (⟨#[]⟩ : ByteArray)
  else
    if (((eachP p0).1.map Prod.fst).length : Int) ≤ p1 then
      some p0
    else
      if p1 < 1 then
        (scutLo p0 ((eachP p0).2)).bind fun s14=>
        some s14
      else
        (at_ ((eachP p0).1.map Prod.fst) (w64 ((((eachP p0).1.map Prod.fst).length : Int) - p1))).bind fun x15=>
        (scutLo p0 x15).bind fun s19=>
        some s19
theorem c_name_Cut {w0 : World} {M : Nat→Prop} {H : List (Nat×Nat×Obj)} {R : List (Nat×Row)} {φ : World→Prop} (p0 : ByteArray) (p1 : Int) (r : ByteArray) (hm : m_name_Cut p0 p1 = some r) :
    Cn Try.prog 37 #[.string p0,.int .i64 p1] ⟨w0,M,H,R,φ⟩ (fun x : Unit=>.string r) (fun x=>True) (fun x=>⟨w0,M,H,R,φ⟩):=by
 unfold m_name_Cut at hm
 refine cn_introM (fn:=Try.f37) (N:=41) Try.func37 rfl Try.ntmps37 rfl<|c_seq<|c_region<|g_v rfl r_assign<|g_nil<|d_then<|c_seq<|c_region ?_
 refine g_e rfl (e_alloc 100050 Try.zeroValue108) (fun g1 _=>?_)
 refine g_nil<|d_then<|c_seq<|c_region ?_
 refine g_e rfl (e_alloc 100060 Try.zeroValue3) (fun g2 _=>?_)
 refine g_storeL (tag:=100060) rfl rfl rfl rfl Try.sizeOf3 rfl rfl<|g_nil<|d_then<|c_seq<|c_seq<|c_region<|g_v rfl r_move ?_
 refine g_cn ⟨w0,M,_,_,φ⟩ (fun _ h=>h) Try.call66 rfl rfl (c_each p0 g2) (fun ⟨g3,g4⟩ _=>?_)
 refine g_sta _ (fun W h=>ok_front (t:=3000) (t':=100095) (ok_front (t:=3001) (t':=100096) h rfl) rfl)<|g_nil<|d_then<|c_block<|c_sta _ (fun W h=>nilR (ok_front (t:=100060) (t':=0) (ok_front (t:=100095) (t':=1) (ok_front (t:=100096) (t':=2) (ok_front (t:=100050) (t':=3) h rfl) rfl) rfl) rfl) 4 3 1) ?_
 replace hm:=bnd hm
 obtain ⟨_,hz8,hm⟩:=hm
 replace hz8:=(eachM_some hz8).1
 refine c_collect Prod.fst (fun x : Int=>Value.int .i64 x) rfl rfl hz8 (.inr rfl) (.inr ⟨rfl,fun _=>rfl⟩) Try.underlying108 inf3_20 rfl (by decide) (by decide) (fun _=>lit3_19 _) (fun _=>rfl) Try.sizeOf108 Try.isAgg108 rfl rfl rfl (fun A6 c7 g5 hc7=>?_)
 refine d_sta _ (fun W h=>(ok_front (t:=0) (t':=100060) (ok_front (t:=1) (t':=100095) (ok_front (t:=2) (t':=100096) (ok_front (t:=3) (t':=100050) h rfl) rfl) rfl) rfl))<|d_normal_block<|d_then<|c_seq<|c_block<|c_seq<|c_region<|g_v rfl r_move ?_
 replace hm:=bnd hm
 obtain ⟨x9,hx10,hm⟩:=hm
 refine g_cn ⟨w0,M,_,_,φ⟩ (fun _ h=>h) Try.call31 rfl rfl (c_name_Check p0 _ hx10) (fun _ _=>?_)
 refine g_v rfl (r_neq rfl rfl)<|g_v rfl r_assign<|g_nil<|d_then ?_
 refine c_flat [(0,.string p0),(1,.int .i64 p1),(5,.pointer (some ⟨g1,0,none⟩)),(6,.pointer (some ⟨g2,0,none⟩)),(16,.bool (decide (x9 ≠ 0)))] ⟨rfl,rfl,rfl,rfl,rfl,trivial⟩ (fun u=>?_)
 refine c_sta ⟨w0,M,(100060,g2,.cells #[.int .i64 ((eachP p0).2)] 3 (0,0))::(100095,g3,.cells #[.pointer (some ⟨g2,0,none⟩)] 111 (0,0))::(100096,g4,.cells #[.string p0] 9 (0,0))::(100050,g1,.cells #[.slice A6 ((eachP p0).1.map Prod.fst).length c7] 108 (0,0))::(5,g5,.deferred (some []))::H,(4,⟨.slice A6 ((eachP p0).1.map Prod.fst).length c7,3,1,((eachP p0).1.map Prod.fst).length,((eachP p0).1.map Prod.fst).flatMap (fun x : Int=>[Value.int .i64 x])⟩)::R,φ⟩ (fun _ h=>h) ?_
 refine c_cond rfl (fun h11=>?_) (fun h11=>?_)
 ·
  replace hm:=ite_t hm (of_decide_eq_true h11)
  refine c_seq<|c_region<|g_v rfl r_assign<|g_nil<|d_then<|c_ret<|d_ret_block<|d_ret_then ?_
  cases hm
  exact d_retM (tD:=5) () Try.results37 (res_tmp (res_nil rfl)) trivial rfl (by simp) (fun W h=>ok_pre (H1:=[_,_,_,_]) (R1:=[_]) h (fun W hφ=>hφ)) (.inr rfl)
 replace hm:=ite_f hm (of_decide_eq_false h11)
 refine c_seq<|c_region<|g_v rfl r_move<|g_v rfl (r_load (tag:=100050) rfl rfl rfl Try.isAgg108)<|g_v rfl (r_lenL Try.underlying108 rfl)<|g_v rfl (r_geq rfl rfl)<|g_v rfl r_assign<|g_nil<|d_then ?_
 refine c_cond rfl (fun h12=>?_) (fun h12=>?_)
 ·
  replace hm:=ite_t hm (of_decide_eq_true h12)
  refine c_seq<|c_region<|g_v rfl r_move<|g_v rfl r_assign<|g_nil<|d_then<|c_ret<|d_ret_block<|d_ret_then ?_
  cases hm
  exact d_retM (tD:=5) () Try.results37 (res_tmp (res_nil rfl)) trivial rfl (by simp) (fun W h=>ok_pre (H1:=[_,_,_,_]) (R1:=[_]) h (fun W hφ=>hφ)) (.inr rfl)
 replace hm:=ite_f hm (of_decide_eq_false h12)
 refine c_seq<|c_region<|g_v rfl r_move<|g_v rfl (r_lss rfl rfl)<|g_v rfl r_assign<|g_nil<|d_then ?_
 refine c_cond rfl (fun h13=>?_) (fun h13=>?_)
 ·
  replace hm:=ite_t hm (of_decide_eq_true h13)
  refine c_seq<|c_region<|g_v rfl r_move<|g_v rfl (r_load (tag:=100060) rfl rfl rfl Try.isAgg3) ?_
  replace hm:=bnd hm
  obtain ⟨s14,hs14,hm⟩:=hm
  refine g_v rfl (r_scutLo Try.underlying9 rfl rfl hs14)<|g_v rfl r_assign<|g_nil<|d_then ?_
  refine c_flat [(4,.string s14)] ⟨rfl,trivial⟩ (fun u=>?_)
  refine c_ret<|d_ret_block<|d_ret_then ?_
  cases hm
  exact d_retM (tD:=5) () Try.results37 (res_tmp (res_nil rfl)) trivial rfl (by simp) (fun W h=>ok_pre (H1:=[_,_,_,_]) (R1:=[_]) h (fun W hφ=>hφ)) (.inr rfl)
 replace hm:=ite_f hm (of_decide_eq_false h13)
 refine c_skip<|d_normal_block<|d_then<|c_seq<|c_region<|g_v rfl r_move<|g_v rfl (r_load (tag:=100050) rfl rfl rfl Try.isAgg108)<|g_v rfl (r_load (tag:=100050) rfl rfl rfl Try.isAgg108)<|g_v rfl (r_lenL Try.underlying108 rfl)<|g_v rfl r_move ?_
 refine g_v rfl (r_sub rfl rfl rfl) ?_
 replace hm:=bnd hm
 obtain ⟨x15,hx15,hm⟩:=hm
 refine g_know _ (fun W hS=>cl_at (p:=(Sta.ok ⟨w0,M,(100060,g2,.cells #[.int .i64 ((eachP p0).2)] 3 (0,0))::(100095,g3,.cells #[.pointer (some ⟨g2,0,none⟩)] 111 (0,0))::(100096,g4,.cells #[.string p0] 9 (0,0))::(100050,g1,.cells #[.slice A6 ((eachP p0).1.map Prod.fst).length c7] 108 (0,0))::(5,g5,.deferred (some []))::H,(4,⟨.slice A6 ((eachP p0).1.map Prod.fst).length c7,3,1,((eachP p0).1.map Prod.fst).length,((eachP p0).1.map Prod.fst).flatMap (fun x : Int=>[Value.int .i64 x])⟩)::R,φ⟩)) (sz:=1) (fun _=>rfl) (by decide) hS (fun W hS=>rowCl (S:=⟨w0,M,(100060,g2,.cells #[.int .i64 ((eachP p0).2)] 3 (0,0))::(100095,g3,.cells #[.pointer (some ⟨g2,0,none⟩)] 111 (0,0))::(100096,g4,.cells #[.string p0] 9 (0,0))::(100050,g1,.cells #[.slice A6 ((eachP p0).1.map Prod.fst).length c7] 108 (0,0))::(5,g5,.deferred (some []))::H,(4,⟨.slice A6 ((eachP p0).1.map Prod.fst).length c7,3,1,((eachP p0).1.map Prod.fst).length,((eachP p0).1.map Prod.fst).flatMap (fun x : Int=>[Value.int .i64 x])⟩)::R,φ⟩) (tag:=4) rfl W hS) hx15) ?_
 rintro ⟨ad16,hA18,f17⟩
 refine g_v rfl (r_ix Try.underlying108 Try.sizeOf3 rfl hA18 rfl hx15)<|g_v rfl (r_ld rfl Try.isAgg3 (fun W hS=>Cl.head (f17 W hS))) ?_
 replace hm:=bnd hm
 obtain ⟨s19,hs19,hm⟩:=hm
 refine g_v rfl (r_scutLo Try.underlying9 rfl rfl hs19)<|g_v rfl r_assign<|g_nil<|d_then ?_
 refine c_flat [(4,.string s19)] ⟨rfl,trivial⟩ (fun u=>?_)
 refine c_ret ?_
 cases hm
 exact d_retM (tD:=5) () Try.results37 (res_tmp (res_nil rfl)) trivial rfl (by simp) (fun W h=>ok_pre (H1:=[_,_,_,_]) (R1:=[_]) h (fun W hφ=>hφ)) (.inr rfl)
noncomputable def m_auth_Below_j1  : Option (ByteArray×Bool):=
  some ((⟨#[]⟩ : ByteArray),false)
noncomputable def m_auth_Below_s2 (p1 : ByteArray) (p0 : GZone) (i50 : Int) (i51 : Int) (i52 : Int) : Option ((Int×Int×Int) ⊕ (Unit ⊕ (ByteArray×Bool))):=
  if i52 < i51 then
    (m_name_Cut p1 (w64 (i50 + i52))).bind fun x67=>
    (m_auth_zone_of (⟨p0⟩ : Gauth_zone) x67 2).bind fun x69=>
    if 0 < (x69.length : Int) then
      some (.inr (.inr (x67,true)))
    else
      some (.inl (i50,i51,w64 (i52 + 1)))
  else
    some (.inr (.inl ()))
noncomputable def m_auth_Below (p0 : GZone) (p1 : ByteArray) : Option (ByteArray×Bool):=
  (m_name_Depth p0.fApex).bind fun x2=>
  (m_name_Depth p1).bind fun x4=>
  (loop (fun s=>m_auth_Below_s2 p1 p0 s.1 s.2.1 s.2.2) (w64 (x2 + 1),(max (w64 ((w64 (x4 - (w64 (x2 + 1)))) + 1)) 0),0)).bind fun e=>Sum.elim (fun e=>m_auth_Below_j1) (fun x=>some x) e
theorem c_auth_Below {w0 : World} {M : Nat→Prop} {H : List (Nat×Nat×Obj)} {R : List (Nat×Row)} {φ : World→Prop} (p0 : GZone) (Ap0_0 : Option Addr) (cp0_0 : Nat) (hcp0_0 : p0.fRecords.length ≤ cp0_0) (fp0_0 : ∀ W,(Sta.mk w0 M H R φ).ok W→Cl W Ap0_0 (p0.fRecords.flatMap GRR.enc)) (p1 : ByteArray) (r : ByteArray×Bool) (hm : m_auth_Below p0 p1 = some r) :
    Cn Try.prog 14 #[.agg #[.string p0.fApex,.slice Ap0_0 p0.fRecords.length cp0_0],.string p1] ⟨w0,M,H,R,φ⟩ (fun x : Unit=>.tuple #[.string r.1,.bool r.2]) (fun x=>True) (fun x=>⟨w0,M,H,R,φ⟩):=by
 unfold m_auth_Below at hm
 refine cn_intro (fn:=Try.f14) (N:=35) Try.func14 rfl Try.ntmps14 rfl<|c_seq<|c_region ?_
 refine g_e rfl (e_box 100020 rfl) (fun g1 _=>?_)
 refine g_v rfl r_assign<|g_v rfl r_assign<|g_nil<|d_then<|c_seq<|c_region<|g_v rfl (r_field (n:=0) Try.underlying33 rfl Try.sizeOf9 rfl rfl)<|g_v rfl (r_load (tag:=100020) rfl rfl rfl Try.isAgg9) ?_
 replace hm:=bnd hm
 obtain ⟨x2,hx3,hm⟩:=hm
 refine g_cn ⟨w0,M,_,_,φ⟩ (fun _ h=>h) Try.call36 rfl rfl (c_name_Depth p0.fApex _ hx3) (fun _ _=>?_)
 refine g_v rfl (r_add rfl rfl rfl)<|g_v rfl r_assign<|g_nil<|d_then<|c_seq<|c_seq<|c_region<|g_v rfl r_move ?_
 replace hm:=bnd hm
 obtain ⟨x4,hx5,hm⟩:=hm
 refine g_cn ⟨w0,M,_,_,φ⟩ (fun _ h=>h) Try.call36 rfl rfl (c_name_Depth p1 _ hx5) (fun _ _=>?_)
 refine g_v rfl r_move<|g_v rfl (r_sub rfl rfl rfl)<|g_v rfl (r_add rfl rfl rfl)<|g_v rfl (r_max rfl rfl)<|g_v rfl r_move<|g_nil<|d_then ?_
 refine c_flat [(1,.string p1),(2,.pointer (some ⟨g1,0,none⟩)),(6,.int .i64 (w64 (x2 + 1))),(18,.int .i64 (max (w64 ((w64 (x4 - (w64 (x2 + 1)))) + 1)) 0)),(19,.int .i64 0)] ⟨rfl,rfl,rfl,rfl,rfl,trivial⟩ (fun u=>?_)
 refine c_sta ⟨w0,M,(100020,g1,.cells #[.string p0.fApex,.slice Ap0_0 p0.fRecords.length cp0_0] 33 (0,0))::H,R,φ⟩ (fun _ h=>h) ?_
 refine c_cut (ι:=Unit) [] (fun _=>[]) (fun _=>⟨w0,M,H,R,φ⟩) (fun _=>m_auth_Below_j1 = some r) ?_ (fun _ u hm=>?_)
 ·
  refine c_block ?_
  replace hm:=bnd hm
  obtain ⟨out2,hl2,hr2⟩:=hm
  obtain ⟨n65',hl2⟩:=loop_lp hl2
  refine c_loopU (ι:=Nat×Int×Int×Int) [1,2,6,18,19] (fun ⟨n65,i50,i51,i52⟩=>[(6,.int .i64 i50),(18,.int .i64 i51),(19,.int .i64 i52)]) (fun ⟨n65,i50,i51,i52⟩=>⟨w0,M,(100020,g1,.cells #[.string p0.fApex,.slice Ap0_0 p0.fRecords.length cp0_0] 33 (0,0))::H,R,φ⟩) (fun ⟨n65,i50,i51,i52⟩=>Lp (fun s=>m_auth_Below_s2 p1 p0 s.1 s.2.1 s.2.2) n65 (i50,i51,i52) out2) (fun ⟨n65,i50,i51,i52⟩=>n65) (n65',w64 (x2 + 1),(max (w64 ((w64 (x4 - (w64 (x2 + 1)))) + 1)) 0),0) hl2 ⟨rfl,rfl,rfl,rfl,rfl,trivial⟩ (fun W h=>h.phi (fun W hφ=>hφ)) (fun ⟨n65,i50,i51,i52⟩ u hlp=>?_)
  obtain ⟨o2,hm,hnx2⟩:=lp_step hlp
  clear hlp
  replace hm : m_auth_Below_s2 p1 p0 i50 i51 i52 = some o2:=hm
  unfold m_auth_Below_s2 at hm
  refine c_flat [(1,.string p1),(2,.pointer (some ⟨g1,0,none⟩)),(6,.int .i64 i50),(18,.int .i64 i51),(19,.int .i64 i52)] ⟨rfl,rfl,rfl,rfl,rfl,trivial⟩ (fun u=>?_)
  refine c_seq<|c_region<|g_v rfl (r_lss rfl rfl)<|g_nil<|d_then<|c_seq ?_
  refine c_cond rfl (fun h66=>?_) (fun h66=>?_)
  ·
   replace hm:=ite_t hm (of_decide_eq_true h66)
   refine c_skip<|d_then<|c_seq<|c_block<|c_seq<|c_region<|g_v rfl r_move<|g_v rfl r_assign<|g_nil<|d_then ?_
   refine c_seq<|c_region ?_
   iterate 3 refine g_v rfl r_move ?_
   refine g_v rfl (r_add rfl rfl rfl) ?_
   replace hm:=bnd hm
   obtain ⟨x67,hx68,hm⟩:=hm
   refine g_cn ⟨w0,M,_,_,φ⟩ (fun _ h=>h) Try.call37 rfl rfl (c_name_Cut p1 (w64 (i50 + i52)) _ hx68) (fun _ _=>?_)
   refine g_v rfl r_assign<|g_nil<|d_then ?_
   refine c_flat [(1,.string p1),(2,.pointer (some ⟨g1,0,none⟩)),(6,.int .i64 i50),(8,.string x67),(18,.int .i64 i51),(19,.int .i64 i52)] ⟨rfl,rfl,rfl,rfl,rfl,rfl,trivial⟩ (fun u=>?_)
   refine c_seq<|c_region<|g_v rfl (r_loadA (tag:=100020) rfl rfl Try.isAgg33 Try.sizeOf33 rfl rfl)<|g_v rfl (r_build _ rfl (bld60_18 _ _ _ _))<|g_v rfl r_move ?_
   replace hm:=bnd hm
   obtain ⟨x69,hx70,hm⟩:=hm
   refine g_cn ⟨w0,M,_,_,φ⟩ (fun _ h=>h) Try.call26 rfl rfl (c_auth_zone_of (⟨p0⟩ : Gauth_zone) Ap0_0 cp0_0 hcp0_0 (fun W hS=>fp0_0 W (ok_pre (H1:=[_]) (R1:=[]) hS (fun W h=>h))) x67 2 _ hx70) (fun ⟨A71,c72⟩ hc72=>?_)
   refine g_sta _ (fun W h=>(ok_frontR (t:=2000) (t':=100300) h rfl))<|g_v rfl (r_lenL Try.underlying24 rfl)<|g_v rfl (r_gtr rfl rfl)<|g_nil<|d_then<|c_sta ⟨w0,M,(100020,g1,.cells #[.string p0.fApex,.slice Ap0_0 p0.fRecords.length cp0_0] 33 (0,0))::H,(100300,⟨.slice A71 x69.length c72,42,5,x69.length,x69.flatMap GRR.enc⟩)::R,φ⟩ (fun _ h=>h) ?_
   refine c_cond rfl (fun h74=>?_) (fun h74=>?_)
   ·
    replace hm:=ite_t hm (of_decide_eq_true h74)
    refine c_seq<|c_region<|g_v rfl r_move<|g_v rfl r_assign<|g_v rfl r_assign<|g_nil<|d_then ?_
    refine c_flat [(4,.string x67),(5,.bool true)] ⟨rfl,rfl,trivial⟩ (fun u=>?_)
    refine c_ret<|d_ret_block<|d_ret_then<|d_ret_then<|d_ret_block<|d_ret_then<|d_ret_then ?_
    replace hm:=nx_out (C:=(fun e : Unit ⊕ (ByteArray×Bool)=>Sum.elim (fun e=>m_auth_Below_j1) (fun x=>some x) e = some r)) hm hnx2 hr2
    replace hm : some (x67,true) = some r:=hm
    cases hm
    exact d_retC () Try.results14 (res_tmp (res_tmp (res_nil rfl))) trivial (fun W h=>ok_pre (H1:=[_]) (R1:=[_]) h (fun W hφ=>hφ)) (.inr rfl)
   replace hm:=ite_f hm (of_decide_eq_false h74)
   refine c_skip<|d_normal_block<|d_then<|c_region<|g_v rfl (r_add rfl rfl rfl)<|g_v rfl r_move<|g_nil ?_
   obtain ⟨n75,hn75,hlp⟩:=nx_inl hm hnx2
   exact d_round (n75,i50,i51,w64 (i52 + 1)) hlp hn75 ⟨rfl,rfl,rfl,rfl,rfl,trivial⟩ (fun W h=>(h.dropR (t:=100300) rfl).phi (fun W hφ=>hφ))
  replace hm:=ite_f hm (of_decide_eq_false h66)
  refine c_exit<|d_exit_then<|d_exit_then<|d_exit_block ?_
  replace hm:=nx_out (C:=(fun e : Unit ⊕ (ByteArray×Bool)=>Sum.elim (fun e=>m_auth_Below_j1) (fun x=>some x) e = some r)) hm hnx2 hr2
  exact d_round () hm Nat.zero_lt_one trivial (fun W h=>(h.dropH (t:=100020) rfl).phi (fun W hφ=>hφ))
 unfold m_auth_Below_j1 at hm
 refine d_flat [] trivial (fun u=>?_)
 refine d_sta ⟨w0,M,H,R,φ⟩ (fun _ h=>h)<|d_then<|c_seq<|c_region<|g_v rfl r_assign<|g_v rfl r_assign<|g_nil<|d_then<|c_ret ?_
 cases hm
 exact d_retC () Try.results14 (res_tmp (res_tmp (res_nil rfl))) trivial (fun W h=>ok_pre (H1:=[]) (R1:=[]) h (fun W hφ=>hφ)) (.inr rfl)
noncomputable def m_record_Target (p0 : GRR) : Option (ByteArray×Bool):=
  (m_record_shapeOf p0.fType).bind fun x2=>
  if x2.fnames = 0 then
    some ((⟨#[]⟩ : ByteArray),false)
  else
    (m_record_Check p0).bind fun x6=>
    if x6 ≠ 0 then
      some ((⟨#[]⟩ : ByteArray),false)
    else
      (m_record_shape_cut x2 p0.fData).bind fun (z16 : Grecord_parts×Bool)=>
      (at_ z16.1.fnames 0).bind fun x18=>
      some (x18,true)
theorem c_record_Target {w0 : World} {M : Nat→Prop} {H : List (Nat×Nat×Obj)} {R : List (Nat×Row)} {φ : World→Prop} (p0 : GRR) (r : ByteArray×Bool) (hm : m_record_Target p0 = some r) :
    Cn Try.prog 27 #[.agg #[.string p0.fName,.int .u16 p0.fType,.int .u16 p0.fClass,.int .u32 p0.fTTL,.string p0.fData]] ⟨w0,M,H,R,φ⟩ (fun x : Unit=>.tuple #[.string r.1,.bool r.2]) (fun x=>True) (fun x=>⟨w0,M,H,R,φ⟩):=by
 unfold m_record_Target at hm
 refine cn_intro (fn:=Try.f27) (N:=29) Try.func27 rfl Try.ntmps27 rfl<|c_seq<|c_region ?_
 refine g_e rfl (e_box 100010 rfl) (fun g1 _=>?_)
 refine g_v rfl r_assign<|g_v rfl r_assign<|g_nil<|d_then<|c_seq<|c_region<|g_v rfl (r_field (n:=1) Try.underlying42 rfl Try.sizeOf22 rfl rfl)<|g_v rfl (r_load (tag:=100010) rfl rfl rfl Try.isAgg22) ?_
 replace hm:=bnd hm
 obtain ⟨x2,hx3,hm⟩:=hm
 refine g_cn ⟨w0,M,_,_,φ⟩ (fun _ h=>h) Try.call57 rfl rfl (c_record_shapeOf p0.fType _ hx3) (fun _ _=>?_)
 refine g_e rfl (e_alloc 100040 Try.zeroValue97) (fun g4 _=>?_)
 refine g_storeL (tag:=100040) rfl rfl rfl rfl Try.sizeOf97 rfl rfl<|g_nil<|d_then<|c_seq<|c_seq<|c_region<|g_v rfl (r_field (n:=1) Try.underlying97 rfl Try.sizeOf3 rfl rfl)<|g_v rfl (r_load (tag:=100040) rfl rfl rfl Try.isAgg3)<|g_v rfl (r_eql rfl rfl)<|g_v rfl r_move ?_
 refine g_sta ⟨w0,M,(100040,g4,.cells #[.int .i64 x2.fahead,.int .i64 x2.fnames,.int .i64 x2.fbehind] 97 (0,0))::(100010,g1,.cells #[.string p0.fName,.int .u16 p0.fType,.int .u16 p0.fClass,.int .u32 p0.fTTL,.string p0.fData] 42 (0,0))::H,R,φ⟩ (fun _ h=>h) ?_
 refine g_if rfl rfl rfl rfl rfl (fun h5=>?_) (fun h5=>?_)
 ·
  replace hm:=ite_f hm (of_decide_eq_false h5)
  refine g_v rfl (r_loadA (tag:=100010) rfl rfl Try.isAgg42 Try.sizeOf42 rfl rfl)<|g_do rfl rfl rfl rfl rfl h5 ?_
  replace hm:=bnd hm
  obtain ⟨x6,hx7,hm⟩:=hm
  refine g_cn ⟨w0,M,_,_,φ⟩ (fun _ h=>h) Try.call34 rfl rfl (c_record_Check p0 _ hx7) (fun _ _=>?_)
  refine g_do rfl rfl rfl rfl rfl h5<|g_v rfl (r_neq rfl rfl)<|g_v rfl (r_pick0 rfl h5)<|g_nil<|d_then ?_
  refine c_flat [(1,.pointer (some ⟨g1,0,none⟩)),(4,.pointer (some ⟨g4,0,none⟩)),(17,.bool (decide (x6 ≠ 0)))] ⟨rfl,rfl,rfl,trivial⟩ (fun u=>?_)
  refine c_cond rfl (fun h8=>?_) (fun h8=>?_)
  ·
   replace hm:=ite_t hm (of_decide_eq_true h8)
   refine c_seq<|c_region<|g_v rfl r_assign<|g_v rfl r_assign<|g_nil<|d_then<|c_ret<|d_ret_then ?_
   cases hm
   exact d_retC () Try.results27 (res_tmp (res_tmp (res_nil rfl))) trivial (fun W h=>ok_pre (H1:=[_,_]) (R1:=[]) h (fun W hφ=>hφ)) (.inr rfl)
  replace hm:=ite_f hm (of_decide_eq_false h8)
  refine c_skip<|d_then<|c_seq<|c_region<|g_v rfl (r_loadA (tag:=100040) rfl rfl Try.isAgg97 Try.sizeOf97 rfl rfl)<|g_v rfl (r_field (n:=4) Try.underlying42 rfl Try.sizeOf9 rfl rfl)<|g_v rfl (r_load (tag:=100010) rfl rfl rfl Try.isAgg9) ?_
  replace hm:=bnd hm
  obtain ⟨⟨x9,x10⟩,hx11,hm⟩:=hm
  refine g_cn ⟨w0,M,_,_,φ⟩ (fun _ h=>h) Try.call58 rfl rfl (c_record_shape_cut x2 p0.fData _ hx11) (fun ⟨A12,c13⟩ hc13=>?_)
  refine g_abs (fun φ15 q15'=>?_)
  have q15 : ∀ W,φ15 W→φ W:=fun W h=>(q15' W h).1
  have f14:=fun (W : World) (h : φ15 W)=>(q15' W h).2
  refine g_v rfl r_move<|g_v rfl (r_extract rfl rfl)<|g_v rfl (r_extract rfl rfl) ?_
  refine g_e rfl (e_alloc 100050 Try.zeroValue100) (fun g17 _=>?_)
  refine g_storeL (tag:=100050) rfl rfl rfl rfl Try.sizeOf100 rfl rfl<|g_v rfl r_assign<|g_nil<|d_then ?_
  refine c_flat [(5,.pointer (some ⟨g17,0,none⟩))] ⟨rfl,trivial⟩ (fun u=>?_)
  refine c_sta ⟨w0,M,(100050,g17,.cells #[.string x9.fahead,.string x9.fbehind,.slice A12 x9.fnames.length c13] 100 (0,0))::(100040,g4,.cells #[.int .i64 x2.fahead,.int .i64 x2.fnames,.int .i64 x2.fbehind] 97 (0,0))::(100010,g1,.cells #[.string p0.fName,.int .u16 p0.fType,.int .u16 p0.fClass,.int .u32 p0.fTTL,.string p0.fData] 42 (0,0))::H,R,φ15⟩ (fun _ h=>h)<|c_seq<|c_region<|g_v rfl (r_field (n:=2) Try.underlying100 rfl Try.sizeOf73 rfl rfl)<|g_v rfl (r_load (tag:=100050) rfl rfl rfl Try.isAgg73) ?_
  replace hm:=bnd hm
  obtain ⟨x18,hx18,hm⟩:=hm
  refine g_know _ (fun W hS=>cl_at (p:=φ15) (sz:=1) (fun _=>rfl) (by decide) hS.now f14 hx18) ?_
  rintro ⟨ad19,hA21,f20⟩
  refine g_v rfl (r_ix Try.underlying73 Try.sizeOf9 rfl hA21 rfl hx18)<|g_v rfl (r_ld rfl Try.isAgg9 (fun W hS=>Cl.head (f20 W hS.now)))<|g_v rfl r_assign<|g_v rfl r_assign<|g_nil<|d_then<|c_ret ?_
  cases hm
  exact d_retC () Try.results27 (res_tmp (res_tmp (res_nil rfl))) trivial (fun W h=>ok_pre (H1:=[_,_,_]) (R1:=[]) h (fun W hφ=>(q15 _ hφ))) (.inr rfl)
 replace hm:=ite_t hm (of_decide_eq_true h5)
 refine g_no rfl rfl rfl rfl rfl h5<|g_no rfl rfl rfl rfl rfl h5<|g_v rfl (r_pick1 rfl h5)<|g_nil<|d_then ?_
 refine c_flat [(1,.pointer (some ⟨g1,0,none⟩)),(4,.pointer (some ⟨g4,0,none⟩)),(17,.bool true)] ⟨rfl,rfl,rfl,trivial⟩ (fun u=>?_)
 refine c_cond1 rfl rfl<|c_seq<|c_region<|g_v rfl r_assign<|g_v rfl r_assign<|g_nil<|d_then<|c_ret<|d_ret_then ?_
 cases hm
 exact d_retC () Try.results27 (res_tmp (res_tmp (res_nil rfl))) trivial (fun W h=>ok_pre (H1:=[_,_]) (R1:=[]) h (fun W hφ=>hφ)) (.inr rfl)
noncomputable def m_auth_zone_addresses_c1 (p0 : GRR) (o0 : ByteArray) : Option Bool:=
  if p0.fType = 1 then
    (m_name_Same p0.fName o0).bind fun x6=>
    some x6
  else
    if p0.fType = 28 then
      (m_name_Same p0.fName o0).bind fun x4=>
      some x4
    else
      some false
theorem c_auth_zone_addresses_c1 {w0 : World} {M : Nat→Prop} {H : List (Nat×Nat×Obj)} {R : List (Nat×Row)} {φ : World→Prop} (p0 : GRR) (go0 : Nat) (o0 : ByteArray) (r : Bool) (hm : m_auth_zone_addresses_c1 p0 o0 = some r) :
    Cn Try.prog 59 #[.agg #[.string p0.fName,.int .u16 p0.fType,.int .u16 p0.fClass,.int .u32 p0.fTTL,.string p0.fData],.pointer (some ⟨go0,0,none⟩)] ⟨w0,M,(1000,go0,.cells #[.string o0] 9 (0,0))::H,R,φ⟩ (fun x : Unit=>.bool r) (fun x=>True) (fun x=>⟨w0,M,(1000,go0,.cells #[.string o0] 9 (0,0))::H,R,φ⟩):=by
 unfold m_auth_zone_addresses_c1 at hm
 refine cn_intro (fn:=Try.f59) (N:=18) Try.func59 rfl Try.ntmps59 rfl<|c_seq<|c_region ?_
 refine g_e rfl (e_box 100020 rfl) (fun g1 _=>?_)
 refine g_v rfl r_assign<|g_nil<|d_then<|c_seq<|c_region<|g_v rfl (r_field (n:=1) Try.underlying42 rfl Try.sizeOf22 rfl rfl)<|g_v rfl (r_load (tag:=100020) rfl rfl rfl Try.isAgg22)<|g_v rfl (r_eql rfl rfl)<|g_v rfl r_move<|g_sta ⟨w0,M,(100020,g1,.cells #[.string p0.fName,.int .u16 p0.fType,.int .u16 p0.fClass,.int .u32 p0.fTTL,.string p0.fData] 42 (0,0))::(1000,go0,.cells #[.string o0] 9 (0,0))::H,R,φ⟩ (fun _ h=>h) ?_
 refine g_if rfl rfl rfl rfl rfl (fun h2=>?_) (fun h2=>?_)
 ·
  replace hm:=ite_f hm (of_decide_eq_false h2)
  refine g_v rfl (r_field (n:=1) Try.underlying42 rfl Try.sizeOf22 rfl rfl)<|g_do rfl rfl rfl rfl rfl h2<|g_v rfl (r_load (tag:=100020) rfl rfl rfl Try.isAgg22)<|g_do rfl rfl rfl rfl rfl h2<|g_v rfl (r_eql rfl rfl)<|g_v rfl (r_pick0 rfl h2)<|g_v rfl r_move ?_
  refine g_if rfl rfl rfl rfl rfl (fun h3=>?_) (fun h3=>?_)
  ·
   replace hm:=ite_t hm (of_decide_eq_true h3)
   refine g_v rfl (r_field (n:=0) Try.underlying42 rfl Try.sizeOf9 rfl rfl)<|g_do rfl rfl rfl rfl rfl h3<|g_v rfl (r_load (tag:=100020) rfl rfl rfl Try.isAgg9)<|g_do rfl rfl rfl rfl rfl h3<|g_v rfl (r_load (tag:=1000) rfl rfl rfl Try.isAgg9)<|g_do rfl rfl rfl rfl rfl h3 ?_
   replace hm:=bnd hm
   obtain ⟨x4,hx5,hm⟩:=hm
   refine g_cn ⟨w0,M,_,_,φ⟩ (fun _ h=>h) Try.call56 rfl rfl (c_name_Same p0.fName o0 _ hx5) (fun _ _=>?_)
   refine g_v rfl (r_pick1 rfl h3)<|g_v rfl r_assign<|g_nil<|d_then ?_
   refine c_flat [(3,.bool x4)] ⟨rfl,trivial⟩ (fun u=>?_)
   refine c_ret ?_
   cases hm
   exact d_retC () Try.results59 (res_tmp (res_nil rfl)) trivial (fun W h=>(h.dropH (t:=100020) rfl).phi (fun W hφ=>hφ)) (.inr rfl)
  replace hm:=ite_f hm (of_decide_eq_false h3)
  iterate 3 refine g_no rfl rfl rfl rfl rfl h3 ?_
  refine g_v rfl (r_pick0 rfl h3)<|g_v rfl r_assign<|g_nil<|d_then ?_
  refine c_flat [(3,.bool false)] ⟨rfl,trivial⟩ (fun u=>?_)
  refine c_ret ?_
  cases hm
  exact d_retC () Try.results59 (res_tmp (res_nil rfl)) trivial (fun W h=>(h.dropH (t:=100020) rfl).phi (fun W hφ=>hφ)) (.inr rfl)
 replace hm:=ite_t hm (of_decide_eq_true h2)
 refine g_no rfl rfl rfl rfl rfl h2<|g_no rfl rfl rfl rfl rfl h2<|g_v rfl (r_pick1 rfl h2)<|g_v rfl r_move<|g_do rfl rfl rfl rfl rfl rfl<|g_v rfl (r_field (n:=0) Try.underlying42 rfl Try.sizeOf9 rfl rfl)<|g_do rfl rfl rfl rfl rfl rfl<|g_v rfl (r_load (tag:=100020) rfl rfl rfl Try.isAgg9)<|g_do rfl rfl rfl rfl rfl rfl<|g_v rfl (r_load (tag:=1000) rfl rfl rfl Try.isAgg9) ?_
 refine g_do rfl rfl rfl rfl rfl rfl ?_
 replace hm:=bnd hm
 obtain ⟨x6,hx7,hm⟩:=hm
 refine g_cn ⟨w0,M,_,_,φ⟩ (fun _ h=>h) Try.call56 rfl rfl (c_name_Same p0.fName o0 _ hx7) (fun _ _=>?_)
 refine g_v rfl (r_pick1 rfl rfl)<|g_v rfl r_assign<|g_nil<|d_then ?_
 refine c_flat [(3,.bool x6)] ⟨rfl,trivial⟩ (fun u=>?_)
 refine c_ret ?_
 cases hm
 exact d_retC () Try.results59 (res_tmp (res_nil rfl)) trivial (fun W h=>(h.dropH (t:=100020) rfl).phi (fun W hφ=>hφ)) (.inr rfl)
noncomputable def m_auth_some_32_3_j1  (l92 : List GRR) : Option (List GRR):=
  some l92
noncomputable def m_auth_some_32_3_s2 (p0 : List GRR) (o0 : ByteArray) (l112 : List GRR) (i115 : Int) : Option (((List GRR)×Int) ⊕ (List GRR)):=
  if i115 < (p0.length : Int) then
    (at_ p0 i115).bind fun x135=>
    (m_auth_zone_addresses_c1 x135 o0).bind fun x140=>
    if x140 = true then
      (app 40 l112 [x135]).bind fun l144=>
      some (.inl (l144,w64 (i115 + 1)))
    else
      some (.inl (l112,w64 (i115 + 1)))
  else
    some (.inr l112)
noncomputable def m_auth_some_32_3 (p0 : List GRR) (o0 : ByteArray) : Option (List GRR):=
  (loop (fun s=>m_auth_some_32_3_s2 p0 o0 s.1 s.2) (([] : List GRR),0)).bind fun e=>m_auth_some_32_3_j1 e
theorem c_auth_some_32_3 {w0 : World} {M : Nat→Prop} {H : List (Nat×Nat×Obj)} {R : List (Nat×Row)} {φ : World→Prop} (p0 : List GRR) (Ap0_0 : Option Addr) (cp0_0 : Nat) (hcp0_0 : p0.length ≤ cp0_0) (fp0_0 : ∀ W,(Sta.mk w0 M H R φ).ok W→Cl W Ap0_0 (p0.flatMap GRR.enc)) (go0 : Nat) (o0 : ByteArray) (r : (List GRR)) (hm : m_auth_some_32_3 p0 o0 = some r) :
    Cn Try.prog 32 #[.slice Ap0_0 p0.length cp0_0,.func (.func 59) #[] #[.pointer (some ⟨go0,0,none⟩)]] ⟨w0,M,(1000,go0,.cells #[.string o0] 9 (0,0))::H,R,φ⟩ (fun x : Option Addr×Nat=>.slice x.1 r.length x.2) (fun x=>r.length ≤ x.2) (fun x=>⟨w0,M,(1000,go0,.cells #[.string o0] 9 (0,0))::H,(2000,⟨.slice x.1 r.length x.2,42,5,r.length,r.flatMap GRR.enc⟩)::R,φ⟩):=by
 unfold m_auth_some_32_3 at hm
 refine cn_intro (fn:=Try.f32) (N:=23) Try.func32 rfl Try.ntmps32 rfl<|c_seq<|c_region<|g_v rfl r_assign<|g_nil<|d_then<|c_seq<|c_region<|g_v rfl r_assign<|g_nil ?_
 refine d_then<|c_seq<|c_seq<|c_region<|g_v rfl r_move<|g_v rfl (r_lenL Try.underlying24 rfl)<|g_v rfl r_move<|g_nil<|d_then<|c_sta _ (fun W h=>nilR h 13 42 5) ?_
 refine c_cut (ι:=(List GRR)×Option Addr×Nat) [5] (fun ⟨l92,A93,c94⟩=>[(5,.slice A93 l92.length c94)]) (fun ⟨l92,A93,c94⟩=>⟨w0,M,(1000,go0,.cells #[.string o0] 9 (0,0))::H,(13,⟨.slice A93 l92.length c94,42,5,l92.length,l92.flatMap GRR.enc⟩)::R,φ⟩) (fun ⟨l92,A93,c94⟩=>m_auth_some_32_3_j1 l92 = some r∧l92.length ≤ c94) ?_ (fun ⟨l92,A93,c94⟩ u ⟨hm,hc94⟩=>?_)
 ·
  refine c_block ?_
  replace hm:=bnd hm
  obtain ⟨out2,hl2,hr2⟩:=hm
  obtain ⟨n133',hl2⟩:=loop_lp hl2
  refine c_loopU (ι:=Nat×(List GRR)×Int×Option Addr×Nat) [1,5,8,9,10] (fun ⟨n133,l112,i115,A113,c114⟩=>[(5,.slice A113 l112.length c114),(10,.int .i64 i115)]) (fun ⟨n133,l112,i115,A113,c114⟩=>⟨w0,M,(1000,go0,.cells #[.string o0] 9 (0,0))::H,(13,⟨.slice A113 l112.length c114,42,5,l112.length,l112.flatMap GRR.enc⟩)::R,φ⟩) (fun ⟨n133,l112,i115,A113,c114⟩=>Lp (fun s=>m_auth_some_32_3_s2 p0 o0 s.1 s.2) n133 (l112,i115) out2∧l112.length ≤ c114) (fun ⟨n133,l112,i115,A113,c114⟩=>n133) (n133',([] : List GRR),0,none,0) ⟨hl2,(Nat.le_refl 0)⟩ ⟨rfl,rfl,rfl,rfl,rfl,trivial⟩ (fun W h=>h.phi (fun W hφ=>hφ)) (fun ⟨n133,l112,i115,A113,c114⟩ u ⟨hlp,hc114⟩=>?_)
  obtain ⟨o2,hm,hnx2⟩:=lp_step hlp
  clear hlp
  replace hm : m_auth_some_32_3_s2 p0 o0 l112 i115 = some o2:=hm
  unfold m_auth_some_32_3_s2 at hm
  refine c_flat [(1,.func (.func 59) #[] #[.pointer (some ⟨go0,0,none⟩)]),(5,.slice A113 l112.length c114),(8,.slice Ap0_0 p0.length cp0_0),(9,.int .i64 (p0.length : Int)),(10,.int .i64 i115)] ⟨rfl,rfl,rfl,rfl,rfl,trivial⟩ (fun u=>?_)
  refine c_sta ⟨w0,M,(1000,go0,.cells #[.string o0] 9 (0,0))::H,(13,⟨.slice A113 l112.length c114,42,5,l112.length,l112.flatMap GRR.enc⟩)::R,φ⟩ (fun _ h=>h)<|c_seq<|c_region<|g_v rfl (r_lss rfl rfl)<|g_nil<|d_then<|c_seq ?_
  refine c_cond rfl (fun h134=>?_) (fun h134=>?_)
  ·
   replace hm:=ite_t hm (of_decide_eq_true h134)
   refine c_skip<|d_then<|c_seq<|c_block<|c_seq<|c_region ?_
   replace hm:=bnd hm
   obtain ⟨x135,hx135,hm⟩:=hm
   refine g_know _ (fun W hS=>cl_at (p:=(Sta.mk w0 M H R φ).ok) (sz:=5) (fun _=>rfl) (by decide) (ok_pre (H1:=[_]) (R1:=[_]) hS (fun W h=>h)) fp0_0 hx135) ?_
   rintro ⟨ad136,hA138,f137⟩
   refine g_v rfl (r_ix Try.underlying24 Try.sizeOf42 rfl hA138 rfl hx135)<|g_v rfl (r_ldA rfl Try.isAgg42 Try.sizeOf42 (fun W hS=>(f137 W (ok_pre (H1:=[_]) (R1:=[_]) hS (fun W h=>h))).take 5) rfl) ?_
   refine g_e rfl (e_alloc 100070 Try.zeroValue42) (fun g139 _=>?_)
   refine g_storeL (tag:=100070) rfl rfl rfl rfl Try.sizeOf42 rfl rfl<|g_nil<|d_then<|c_seq<|c_region<|g_v rfl r_move<|g_v rfl (r_loadA (tag:=100070) rfl rfl Try.isAgg42 Try.sizeOf42 rfl rfl) ?_
   replace hm:=bnd hm
   obtain ⟨x140,hx141,hm⟩:=hm
   refine g_cnv ⟨w0,M,(1000,go0,.cells #[.string o0] 9 (0,0))::(100070,g139,.cells #[.string x135.fName,.int .u16 x135.fType,.int .u16 x135.fClass,.int .u32 x135.fTTL,.string x135.fData] 42 (0,0))::H,(13,⟨.slice A113 l112.length c114,42,5,l112.length,l112.flatMap GRR.enc⟩)::R,φ⟩ (fun W h=>(ok_front (t:=1000) (t':=1000) h rfl)) Try.call59 rfl rfl rfl (c_auth_zone_addresses_c1 x135 go0 o0 _ hx141) (fun _ _=>?_)
   refine g_sta _ (fun W h=>(ok_front (t:=1000) (t':=1000) h rfl))<|g_nil<|d_then<|c_sta ⟨w0,M,(1000,go0,.cells #[.string o0] 9 (0,0))::(100070,g139,.cells #[.string x135.fName,.int .u16 x135.fType,.int .u16 x135.fClass,.int .u32 x135.fTTL,.string x135.fData] 42 (0,0))::H,(13,⟨.slice A113 l112.length c114,42,5,l112.length,l112.flatMap GRR.enc⟩)::R,φ⟩ (fun _ h=>h) ?_
   refine c_cond rfl (fun h142=>?_) (fun h142=>?_)
   ·
    replace hm:=ite_t hm h142
    refine c_region<|g_v rfl r_move<|g_v rfl (r_loadA (tag:=100070) rfl rfl Try.isAgg42 Try.sizeOf42 rfl rfl) ?_
    refine g_e rfl (e_lit (tag:=100190) (l:=[x135]) (enc:=GRR.enc) (sz:=5) rfl Try.underlying24 (lit42_16 _ _ _ _ _) rfl rfl (fun _=>rfl)) (fun g143 _=>?_)
    replace hm:=bnd hm
    obtain ⟨l144,hl144,hm⟩:=hm
    refine g_e rfl (e_appR (enc:=GRR.enc) (l:=l112) (l1:=[x135]) (l2:=l144) (tag:=13) Try.underlying24 inf42_17 rfl (by decide) (by decide) (fun _=>rfl) (fun _=>rfl) rfl hc114 rfl rfl (fun W hS=>rowCl (tag:=100190) rfl W hS) hl144) (fun ⟨A145,c146⟩ hc146=>?_)
    refine g_v rfl r_assign<|g_nil<|d_normal_block<|d_then ?_
    refine c_flat [(1,.func (.func 59) #[] #[.pointer (some ⟨go0,0,none⟩)]),(5,.slice A145 l144.length c146),(8,.slice Ap0_0 p0.length cp0_0),(9,.int .i64 (p0.length : Int)),(10,.int .i64 i115)] ⟨rfl,rfl,rfl,rfl,rfl,trivial⟩ (fun u=>?_)
    refine c_sta ⟨w0,M,(1000,go0,.cells #[.string o0] 9 (0,0))::(100070,g139,.cells #[.string x135.fName,.int .u16 x135.fType,.int .u16 x135.fClass,.int .u32 x135.fTTL,.string x135.fData] 42 (0,0))::H,(100190,⟨.slice (some ⟨g143,0,none⟩) [x135].length 1,42,5,[x135].length,[x135].flatMap GRR.enc⟩)::(13,⟨.slice A145 l144.length c146,42,5,l144.length,l144.flatMap GRR.enc⟩)::R,φ⟩ (fun _ h=>h)<|c_region<|g_v rfl (r_add rfl rfl rfl)<|g_v rfl r_move<|g_nil ?_
    obtain ⟨n147,hn147,hlp⟩:=nx_inl hm hnx2
    exact d_round (n147,l144,w64 (i115 + 1),A145,c146) ⟨hlp,hc146⟩ hn147 ⟨rfl,rfl,rfl,rfl,rfl,trivial⟩ (fun W h=>((h.dropR (t:=100190) rfl).dropH (t:=100070) rfl).phi (fun W hφ=>hφ))
   replace hm:=ite_f hm (bool_nt h142)
   refine c_skip<|d_normal_block<|d_then<|c_region<|g_v rfl (r_add rfl rfl rfl)<|g_v rfl r_move<|g_nil ?_
   obtain ⟨n148,hn148,hlp⟩:=nx_inl hm hnx2
   exact d_round (n148,l112,w64 (i115 + 1),A113,c114) ⟨hlp,hc114⟩ hn148 ⟨rfl,rfl,rfl,rfl,rfl,trivial⟩ (fun W h=>(h.dropH (t:=100070) rfl).phi (fun W hφ=>hφ))
  replace hm:=ite_f hm (of_decide_eq_false h134)
  refine c_exit<|d_exit_then<|d_exit_then<|d_exit_block ?_
  replace hm:=nx_out (C:=(fun e : (List GRR)=>m_auth_some_32_3_j1 e = some r)) hm hnx2 hr2
  exact d_round (l112,A113,c114) ⟨hm,hc114⟩ Nat.zero_lt_one ⟨rfl,trivial⟩ (fun W h=>h.phi (fun W hφ=>hφ))
 unfold m_auth_some_32_3_j1 at hm
 refine d_flat [(5,.slice A93 l92.length c94)] ⟨rfl,trivial⟩ (fun u=>?_)
 refine d_sta ⟨w0,M,(1000,go0,.cells #[.string o0] 9 (0,0))::H,(13,⟨.slice A93 l92.length c94,42,5,l92.length,l92.flatMap GRR.enc⟩)::R,φ⟩ (fun _ h=>h)<|d_then<|c_seq<|c_region<|g_v rfl r_move<|g_v rfl r_assign<|g_nil<|d_then<|c_ret ?_
 cases hm
 refine d_sta _ (fun W h=>ok_frontR (t:=13) (t':=2000) h rfl) ?_
 exact d_retC (A93,c94) Try.results32 (res_tmp (res_nil rfl)) hc94 (fun W h=>h.phi (fun W hφ=>hφ)) (.inr rfl)
noncomputable def m_auth_zone_addresses (p0 : Gauth_zone) (p1 : ByteArray) : Option (List GRR):=
  (m_auth_some_32_3 p0.fZone.fRecords p1).bind fun x3=>
  some x3
theorem c_auth_zone_addresses {w0 : World} {M : Nat→Prop} {H : List (Nat×Nat×Obj)} {R : List (Nat×Row)} {φ : World→Prop} (p0 : Gauth_zone) (Ap0_0 : Option Addr) (cp0_0 : Nat) (hcp0_0 : p0.fZone.fRecords.length ≤ cp0_0) (fp0_0 : ∀ W,(Sta.mk w0 M H R φ).ok W→Cl W Ap0_0 (p0.fZone.fRecords.flatMap GRR.enc)) (p1 : ByteArray) (r : (List GRR)) (hm : m_auth_zone_addresses p0 p1 = some r) :
    Cn Try.prog 28 #[.agg #[.string p0.fZone.fApex,.slice Ap0_0 p0.fZone.fRecords.length cp0_0],.string p1] ⟨w0,M,H,R,φ⟩ (fun x : Option Addr×Nat=>.slice x.1 r.length x.2) (fun x=>r.length ≤ x.2) (fun x=>⟨w0,M,H,(2000,⟨.slice x.1 r.length x.2,42,5,r.length,r.flatMap GRR.enc⟩)::R,φ⟩):=by
 unfold m_auth_zone_addresses at hm
 refine cn_intro (fn:=Try.f28) (N:=10) Try.func28 rfl Try.ntmps28 rfl<|c_seq<|c_region ?_
 refine g_e rfl (e_box 100020 rfl) (fun g1 _=>?_)
 refine g_e rfl (e_box 100030 rfl) (fun g2 _=>?_)
 refine g_v rfl r_assign<|g_nil<|d_then<|c_seq<|c_region<|g_v rfl (r_field (n:=0) Try.underlying60 rfl Try.sizeOf33 rfl rfl)<|g_v rfl (r_field (n:=1) Try.underlying33 rfl Try.sizeOf24 rfl rfl)<|g_v rfl (r_load (tag:=100020) rfl rfl rfl Try.isAgg24)<|g_v rfl (r_mkf rfl) ?_
 replace hm:=bnd hm
 obtain ⟨x3,hx4,hm⟩:=hm
 refine g_cn ⟨w0,M,(1000,g2,.cells #[.string p1] 9 (0,0))::(100020,g1,.cells #[.string p0.fZone.fApex,.slice Ap0_0 p0.fZone.fRecords.length cp0_0] 60 (0,0))::H,R,φ⟩ (fun W h=>(ok_front (t:=100030) (t':=1000) h rfl)) Try.call32 rfl rfl (c_auth_some_32_3 p0.fZone.fRecords Ap0_0 cp0_0 hcp0_0 (fun W hS=>fp0_0 W (ok_pre (H1:=[_]) (R1:=[]) hS (fun W h=>h))) g2 p1 _ hx4) (fun ⟨A5,c6⟩ hc6=>?_)
 refine g_sta _ (fun W h=>(ok_frontR (t:=2000) (t':=100090) (ok_front (t:=1000) (t':=100030) h rfl) rfl))<|g_v rfl r_assign<|g_nil<|d_then ?_
 refine c_flat [(4,.slice A5 x3.length c6)] ⟨rfl,trivial⟩ (fun u=>?_)
 refine c_sta ⟨w0,M,(100030,g2,.cells #[.string p1] 9 (0,0))::(100020,g1,.cells #[.string p0.fZone.fApex,.slice Ap0_0 p0.fZone.fRecords.length cp0_0] 60 (0,0))::H,(100090,⟨.slice A5 x3.length c6,42,5,x3.length,x3.flatMap GRR.enc⟩)::R,φ⟩ (fun _ h=>h)<|c_ret ?_
 cases hm
 refine d_sta _ (fun W h=>ok_frontR (t:=100090) (t':=2000) h rfl) ?_
 exact d_retC (A5,c6) Try.results28 (res_tmp (res_nil rfl)) hc6 (fun W h=>((h.dropH (t:=100030) rfl).dropH (t:=100020) rfl).phi (fun W hφ=>hφ)) (.inr rfl)
theorem eqq42 (a b : GRR) : ∀ d W,(Op.equalIn (d + 5) 42 (.agg #[.string a.fName,.int .u16 a.fType,.int .u16 a.fClass,.int .u32 a.fTTL,.string a.fData]) (.agg #[.string b.fName,.int .u16 b.fType,.int .u16 b.fClass,.int .u32 b.fTTL,.string b.fData])).run Try.prog W = .ok (decide (a = b)) W:=by
  intro d W
  have h:=eqs_of (d:=d + 4) (xs:=#[.string a.fName,.int .u16 a.fType,.int .u16 a.fClass,.int .u32 a.fTTL,.string a.fData]) (ys:=#[.string b.fName,.int .u16 b.fType,.int .u16 b.fClass,.int .u32 b.fTTL,.string b.fData]) (w:=W) Try.underlying42 (by kernel_rfl) (eqs_cons (a:=.string a.fName) (b:=.string b.fName) rfl (by kernel_rfl) (by kernel_rfl) (eqs_str Try.underlying9) (eqs_cons (a:=.int .u16 a.fType) (b:=.int .u16 b.fType) rfl (by kernel_rfl) (by kernel_rfl) (eqs_int Try.underlying22) (eqs_cons (a:=.int .u16 a.fClass) (b:=.int .u16 b.fClass) rfl (by kernel_rfl) (by kernel_rfl) (eqs_int Try.underlying22) (eqs_cons (a:=.int .u32 a.fTTL) (b:=.int .u32 b.fTTL) rfl (by kernel_rfl) (by kernel_rfl) (eqs_int Try.underlying40) (eqs_cons (a:=.string a.fData) (b:=.string b.fData) rfl (by kernel_rfl) (by kernel_rfl) (eqs_str Try.underlying9) eqs_nil)))))
  refine h.trans ?_
  congr 1
  cases a; cases b
  simp only [GRR.mk.injEq,Bool.and_true]
  simp only [Bool.decide_and]
theorem eqg42 : Try.prog.eqGuardType Try.prog.depth 42 = false:=by kernel_rfl
noncomputable def m_slices_Index_60_j1  : Option Int:=
  some (-1)
noncomputable def m_slices_Index_60_s2 (p0 : List GRR) (p1 : GRR) (i49 : Int) : Option (Int ⊕ (Unit ⊕ Int)):=
  if i49 < (p0.length : Int) then
    (at_ p0 i49).bind fun x75=>
    if p1 = x75 then
      some (.inr (.inr i49))
    else
      some (.inl (w64 (i49 + 1)))
  else
    some (.inr (.inl ()))
noncomputable def m_slices_Index_60 (p0 : List GRR) (p1 : GRR) : Option Int:=
  (loop (fun s=>m_slices_Index_60_s2 p0 p1 s) 0).bind fun e=>Sum.elim (fun e=>m_slices_Index_60_j1) (fun x=>some x) e
theorem c_slices_Index_60 {w0 : World} {M : Nat→Prop} {H : List (Nat×Nat×Obj)} {R : List (Nat×Row)} {φ : World→Prop} (p0 : List GRR) (Ap0_0 : Option Addr) (cp0_0 : Nat) (hcp0_0 : p0.length ≤ cp0_0) (fp0_0 : ∀ W,(Sta.mk w0 M H R φ).ok W→Cl W Ap0_0 (p0.flatMap GRR.enc)) (p1 : GRR) (r : Int) (hm : m_slices_Index_60 p0 p1 = some r) :
    Cn Try.prog 60 #[.slice Ap0_0 p0.length cp0_0,.agg #[.string p1.fName,.int .u16 p1.fType,.int .u16 p1.fClass,.int .u32 p1.fTTL,.string p1.fData]] ⟨w0,M,H,R,φ⟩ (fun x : Unit=>.int .i64 r) (fun x=>True) (fun x=>⟨w0,M,H,R,φ⟩):=by
 unfold m_slices_Index_60 at hm
 refine cn_intro (fn:=Try.f60) (N:=19) Try.func60 rfl Try.ntmps60 rfl<|c_seq<|c_region ?_
 refine g_e rfl (e_box 100030 rfl) (fun g1 _=>?_)
 refine g_v rfl r_assign<|g_nil<|d_then<|c_seq<|c_seq<|c_region<|g_v rfl r_move<|g_v rfl (r_lenL Try.underlying24 rfl)<|g_v rfl r_move<|g_nil ?_
 refine d_then ?_
 refine c_cut (ι:=Unit) [] (fun _=>[]) (fun _=>⟨w0,M,H,R,φ⟩) (fun _=>m_slices_Index_60_j1 = some r) ?_ (fun _ u hm=>?_)
 ·
  refine c_block ?_
  replace hm:=bnd hm
  obtain ⟨out2,hl2,hr2⟩:=hm
  obtain ⟨n65',hl2⟩:=loop_lp hl2
  refine c_loopU (ι:=Nat×Int) [0,3,7,8] (fun ⟨n65,i49⟩=>[(8,.int .i64 i49)]) (fun ⟨n65,i49⟩=>⟨w0,M,(100030,g1,.cells #[.string p1.fName,.int .u16 p1.fType,.int .u16 p1.fClass,.int .u32 p1.fTTL,.string p1.fData] 42 (0,0))::H,R,φ⟩) (fun ⟨n65,i49⟩=>Lp (fun s=>m_slices_Index_60_s2 p0 p1 s) n65 i49 out2) (fun ⟨n65,i49⟩=>n65) (n65',0) hl2 ⟨rfl,rfl,rfl,rfl,trivial⟩ (fun W h=>h.phi (fun W hφ=>hφ)) (fun ⟨n65,i49⟩ u hlp=>?_)
  obtain ⟨o2,hm,hnx2⟩:=lp_step hlp
  clear hlp
  replace hm : m_slices_Index_60_s2 p0 p1 i49 = some o2:=hm
  unfold m_slices_Index_60_s2 at hm
  refine c_flat [(0,.slice Ap0_0 p0.length cp0_0),(3,.pointer (some ⟨g1,0,none⟩)),(7,.int .i64 (p0.length : Int)),(8,.int .i64 i49)] ⟨rfl,rfl,rfl,rfl,trivial⟩ (fun u=>?_)
  refine c_sta ⟨w0,M,(100030,g1,.cells #[.string p1.fName,.int .u16 p1.fType,.int .u16 p1.fClass,.int .u32 p1.fTTL,.string p1.fData] 42 (0,0))::H,R,φ⟩ (fun _ h=>h)<|c_seq<|c_region<|g_v rfl (r_lss rfl rfl)<|g_nil<|d_then<|c_seq ?_
  refine c_cond rfl (fun h66=>?_) (fun h66=>?_)
  ·
   replace hm:=ite_t hm (of_decide_eq_true h66)
   refine c_skip<|d_then<|c_seq<|c_block<|c_seq<|c_region<|g_v rfl r_move<|g_v rfl r_assign<|g_nil<|d_then ?_
   refine c_seq<|ga_start (n:=6) ⟨w0,M,(100030,g1,.cells #[.string p1.fName,.int .u16 p1.fType,.int .u16 p1.fClass,.int .u32 p1.fTTL,.string p1.fData] 42 (0,0))::H,R,φ⟩ [] #[false,false,false,false,false,false] (fun W h=>h.phi (fun W hφ=>hφ)) mixed rfl rfl<|ga_v (i:=0) (bz 6 1) rfl (by kernel_rfl) (fun _ _ _ _ h=>h) rfl (r_loadA (tag:=100030) rfl rfl Try.isAgg42 Try.sizeOf42 rfl rfl)<|ga_v (i:=1) (bz 6 3) rfl (by kernel_rfl) (fun _ _ _ _ h=>h) rfl (r_move)<|ga_r (i:=2) (bz 6 7) rfl (by kernel_rfl) (by decide) rfl (r_move) ?_
   replace hm:=bnd hm
   obtain ⟨x75,hx75,hm⟩:=hm
   refine ga_know _ (fun W hS=>cl_at (p:=(Sta.mk w0 M H R φ).ok) (sz:=5) (fun _=>rfl) (by decide) (ok_pre (H1:=[_]) (R1:=[]) hS (fun W h=>h)) fp0_0 hx75) ?_
   rintro ⟨ad76,hA78,f77⟩
   refine ga_r (i:=3) (bz 6 15) rfl (by kernel_rfl) (by decide) rfl (r_ix Try.underlying24 Try.sizeOf42 rfl hA78 rfl hx75)<|ga_r (i:=4) (bz 6 31) rfl (by kernel_rfl) (by decide) rfl (r_ldA rfl Try.isAgg42 Try.sizeOf42 (fun W hS=>(f77 W (ok_pre (H1:=[_]) (R1:=[]) hS (fun W h=>h))).take 5) rfl)<|ga_r (i:=5) (bz 6 63) rfl (by kernel_rfl) (by decide) rfl (r_eqlA rfl rfl eqg42 (eqq42 p1 x75))<|ga_done (by kernel_rfl)<|d_then ?_
   refine c_flat [(0,.slice Ap0_0 p0.length cp0_0),(3,.pointer (some ⟨g1,0,none⟩)),(5,.int .i64 i49),(7,.int .i64 (p0.length : Int)),(8,.int .i64 i49),(16,.bool (decide (p1 = x75)))] ⟨rfl,rfl,rfl,rfl,rfl,rfl,trivial⟩ (fun u=>?_)
   refine c_cond rfl (fun h79=>?_) (fun h79=>?_)
   ·
    replace hm:=ite_t hm (of_decide_eq_true h79)
    refine c_seq<|c_region<|g_v rfl r_move<|g_v rfl r_assign<|g_nil<|d_then<|c_ret<|d_ret_block<|d_ret_then<|d_ret_then ?_
    refine d_ret_block<|d_ret_then<|d_ret_then ?_
    replace hm:=nx_out (C:=(fun e : Unit ⊕ Int=>Sum.elim (fun e=>m_slices_Index_60_j1) (fun x=>some x) e = some r)) hm hnx2 hr2
    replace hm : some i49 = some r:=hm
    cases hm
    exact d_retC () Try.results60 (res_tmp (res_nil rfl)) trivial (fun W h=>ok_pre (H1:=[_]) (R1:=[]) h (fun W hφ=>hφ)) (.inr rfl)
   replace hm:=ite_f hm (of_decide_eq_false h79)
   refine c_skip<|d_normal_block<|d_then<|c_region<|g_v rfl (r_add rfl rfl rfl)<|g_v rfl r_move<|g_nil ?_
   obtain ⟨n80,hn80,hlp⟩:=nx_inl hm hnx2
   exact d_round (n80,w64 (i49 + 1)) hlp hn80 ⟨rfl,rfl,rfl,rfl,trivial⟩ (fun W h=>h.phi (fun W hφ=>hφ))
  replace hm:=ite_f hm (of_decide_eq_false h66)
  refine c_exit<|d_exit_then<|d_exit_then<|d_exit_block ?_
  replace hm:=nx_out (C:=(fun e : Unit ⊕ Int=>Sum.elim (fun e=>m_slices_Index_60_j1) (fun x=>some x) e = some r)) hm hnx2 hr2
  exact d_round () hm Nat.zero_lt_one trivial (fun W h=>(h.dropH (t:=100030) rfl).phi (fun W hφ=>hφ))
 unfold m_slices_Index_60_j1 at hm
 refine d_flat [] trivial (fun u=>?_)
 refine d_sta ⟨w0,M,H,R,φ⟩ (fun _ h=>h)<|d_then<|c_seq<|c_region<|g_v rfl r_assign<|g_nil<|d_then<|c_ret ?_
 cases hm
 exact d_retC () Try.results60 (res_tmp (res_nil rfl)) trivial (fun W h=>ok_pre (H1:=[]) (R1:=[]) h (fun W hφ=>hφ)) (.inr rfl)
noncomputable def m_slices_Contains_29 (p0 : List GRR) (p1 : GRR) : Option Bool:=
  (m_slices_Index_60 p0 p1).bind fun x2=>
  some (decide (0 ≤ x2))
theorem c_slices_Contains_29 {w0 : World} {M : Nat→Prop} {H : List (Nat×Nat×Obj)} {R : List (Nat×Row)} {φ : World→Prop} (p0 : List GRR) (Ap0_0 : Option Addr) (cp0_0 : Nat) (hcp0_0 : p0.length ≤ cp0_0) (fp0_0 : ∀ W,(Sta.mk w0 M H R φ).ok W→Cl W Ap0_0 (p0.flatMap GRR.enc)) (p1 : GRR) (r : Bool) (hm : m_slices_Contains_29 p0 p1 = some r) :
    Cn Try.prog 29 #[.slice Ap0_0 p0.length cp0_0,.agg #[.string p1.fName,.int .u16 p1.fType,.int .u16 p1.fClass,.int .u32 p1.fTTL,.string p1.fData]] ⟨w0,M,H,R,φ⟩ (fun x : Unit=>.bool r) (fun x=>True) (fun x=>⟨w0,M,H,R,φ⟩):=by
 unfold m_slices_Contains_29 at hm
 refine cn_intro (fn:=Try.f29) (N:=9) Try.func29 rfl Try.ntmps29 rfl<|c_seq<|c_region ?_
 refine g_e rfl (e_box 100030 rfl) (fun g1 _=>?_)
 refine g_v rfl r_assign<|g_nil<|d_then<|c_seq<|c_region<|g_v rfl r_move<|g_v rfl (r_loadA (tag:=100030) rfl rfl Try.isAgg42 Try.sizeOf42 rfl rfl) ?_
 replace hm:=bnd hm
 obtain ⟨x2,hx3,hm⟩:=hm
 refine g_cn ⟨w0,M,_,_,φ⟩ (fun _ h=>h) Try.call60 rfl rfl (c_slices_Index_60 p0 Ap0_0 cp0_0 hcp0_0 (fun W hS=>fp0_0 W (ok_pre (H1:=[_]) (R1:=[]) hS (fun W h=>h))) p1 _ hx3) (fun _ _=>?_)
 refine g_v rfl (r_geq rfl rfl)<|g_v rfl r_assign<|g_nil<|d_then<|c_ret ?_
 cases hm
 exact d_retC () Try.results29 (res_tmp (res_nil rfl)) trivial (fun W h=>ok_pre (H1:=[_]) (R1:=[]) h (fun W hφ=>hφ)) (.inr rfl)
noncomputable def m_auth_There_c1 (p0 : GRR) (o0 : ByteArray) : Option Bool:=
  (m_name_Under p0.fName o0).bind fun x2=>
  some x2
theorem c_auth_There_c1 {w0 : World} {M : Nat→Prop} {H : List (Nat×Nat×Obj)} {R : List (Nat×Row)} {φ : World→Prop} (p0 : GRR) (go0 : Nat) (o0 : ByteArray) (r : Bool) (hm : m_auth_There_c1 p0 o0 = some r) :
    Cn Try.prog 62 #[.agg #[.string p0.fName,.int .u16 p0.fType,.int .u16 p0.fClass,.int .u32 p0.fTTL,.string p0.fData],.pointer (some ⟨go0,0,none⟩)] ⟨w0,M,(1000,go0,.cells #[.string o0] 9 (0,0))::H,R,φ⟩ (fun x : Unit=>.bool r) (fun x=>True) (fun x=>⟨w0,M,(1000,go0,.cells #[.string o0] 9 (0,0))::H,R,φ⟩):=by
 unfold m_auth_There_c1 at hm
 refine cn_intro (fn:=Try.f62) (N:=8) Try.func62 rfl Try.ntmps62 rfl<|c_seq<|c_region ?_
 refine g_e rfl (e_box 100020 rfl) (fun g1 _=>?_)
 refine g_v rfl r_assign<|g_nil<|d_then<|c_seq<|c_region<|g_v rfl (r_field (n:=0) Try.underlying42 rfl Try.sizeOf9 rfl rfl)<|g_v rfl (r_load (tag:=100020) rfl rfl rfl Try.isAgg9)<|g_v rfl (r_load (tag:=1000) rfl rfl rfl Try.isAgg9) ?_
 replace hm:=bnd hm
 obtain ⟨x2,hx3,hm⟩:=hm
 refine g_cn ⟨w0,M,_,_,φ⟩ (fun _ h=>h) Try.call35 rfl rfl (c_name_Under p0.fName o0 _ hx3) (fun _ _=>?_)
 refine g_v rfl r_assign<|g_nil<|d_then<|c_ret ?_
 cases hm
 exact d_retC () Try.results62 (res_tmp (res_nil rfl)) trivial (fun W h=>(h.dropH (t:=100020) rfl).phi (fun W hφ=>hφ)) (.inr rfl)
noncomputable def m_slices_IndexFunc_82_j1  : Option Int:=
  some (-1)
noncomputable def m_slices_IndexFunc_82_s2 (p0 : List GRR) (o0 : ByteArray) (i30 : Int) : Option (Int ⊕ (Unit ⊕ Int)):=
  if i30 < (p0.length : Int) then
    (at_ p0 i30).bind fun x42=>
    (m_auth_There_c1 x42 o0).bind fun x46=>
    if x46 = true then
      some (.inr (.inr i30))
    else
      some (.inl (w64 (i30 + 1)))
  else
    some (.inr (.inl ()))
noncomputable def m_slices_IndexFunc_82 (p0 : List GRR) (o0 : ByteArray) : Option Int:=
  (loop (fun s=>m_slices_IndexFunc_82_s2 p0 o0 s) 0).bind fun e=>Sum.elim (fun e=>m_slices_IndexFunc_82_j1) (fun x=>some x) e
theorem c_slices_IndexFunc_82 {w0 : World} {M : Nat→Prop} {H : List (Nat×Nat×Obj)} {R : List (Nat×Row)} {φ : World→Prop} (p0 : List GRR) (Ap0_0 : Option Addr) (cp0_0 : Nat) (hcp0_0 : p0.length ≤ cp0_0) (fp0_0 : ∀ W,(Sta.mk w0 M H R φ).ok W→Cl W Ap0_0 (p0.flatMap GRR.enc)) (go0 : Nat) (o0 : ByteArray) (r : Int) (hm : m_slices_IndexFunc_82 p0 o0 = some r) :
    Cn Try.prog 82 #[.slice Ap0_0 p0.length cp0_0,.func (.func 62) #[] #[.pointer (some ⟨go0,0,none⟩)]] ⟨w0,M,(1000,go0,.cells #[.string o0] 9 (0,0))::H,R,φ⟩ (fun x : Unit=>.int .i64 r) (fun x=>True) (fun x=>⟨w0,M,(1000,go0,.cells #[.string o0] 9 (0,0))::H,R,φ⟩):=by
 unfold m_slices_IndexFunc_82 at hm
 refine cn_intro (fn:=Try.f82) (N:=19) Try.func82 rfl Try.ntmps82 rfl<|c_seq<|c_region<|g_v rfl r_assign<|g_nil<|d_then<|c_seq<|c_seq<|c_region<|g_v rfl r_move ?_
 refine g_v rfl (r_lenL Try.underlying24 rfl)<|g_v rfl r_move<|g_nil<|d_then ?_
 refine c_cut (ι:=Unit) [] (fun _=>[]) (fun _=>⟨w0,M,(1000,go0,.cells #[.string o0] 9 (0,0))::H,R,φ⟩) (fun _=>m_slices_IndexFunc_82_j1 = some r) ?_ (fun _ u hm=>?_)
 ·
  refine c_block ?_
  replace hm:=bnd hm
  obtain ⟨out2,hl2,hr2⟩:=hm
  obtain ⟨n40',hl2⟩:=loop_lp hl2
  refine c_loopU (ι:=Nat×Int) [0,1,7,8] (fun ⟨n40,i30⟩=>[(8,.int .i64 i30)]) (fun ⟨n40,i30⟩=>⟨w0,M,(1000,go0,.cells #[.string o0] 9 (0,0))::H,R,φ⟩) (fun ⟨n40,i30⟩=>Lp (fun s=>m_slices_IndexFunc_82_s2 p0 o0 s) n40 i30 out2) (fun ⟨n40,i30⟩=>n40) (n40',0) hl2 ⟨rfl,rfl,rfl,rfl,trivial⟩ (fun W h=>h.phi (fun W hφ=>hφ)) (fun ⟨n40,i30⟩ u hlp=>?_)
  obtain ⟨o2,hm,hnx2⟩:=lp_step hlp
  clear hlp
  replace hm : m_slices_IndexFunc_82_s2 p0 o0 i30 = some o2:=hm
  unfold m_slices_IndexFunc_82_s2 at hm
  refine c_flat [(0,.slice Ap0_0 p0.length cp0_0),(1,.func (.func 62) #[] #[.pointer (some ⟨go0,0,none⟩)]),(7,.int .i64 (p0.length : Int)),(8,.int .i64 i30)] ⟨rfl,rfl,rfl,rfl,trivial⟩ (fun u=>?_)
  refine c_sta ⟨w0,M,(1000,go0,.cells #[.string o0] 9 (0,0))::H,R,φ⟩ (fun _ h=>h)<|c_seq<|c_region<|g_v rfl (r_lss rfl rfl)<|g_nil<|d_then<|c_seq ?_
  refine c_cond rfl (fun h41=>?_) (fun h41=>?_)
  ·
   replace hm:=ite_t hm (of_decide_eq_true h41)
   refine c_skip<|d_then<|c_seq<|c_block<|c_seq<|c_region<|g_v rfl r_move<|g_v rfl r_assign<|g_nil<|d_then ?_
   refine c_seq<|c_region ?_
   iterate 3 refine g_v rfl r_move ?_
   replace hm:=bnd hm
   obtain ⟨x42,hx42,hm⟩:=hm
   refine g_know _ (fun W hS=>cl_at (p:=(Sta.mk w0 M H R φ).ok) (sz:=5) (fun _=>rfl) (by decide) (ok_pre (H1:=[_]) (R1:=[]) hS (fun W h=>h)) fp0_0 hx42) ?_
   rintro ⟨ad43,hA45,f44⟩
   refine g_v rfl (r_ix Try.underlying24 Try.sizeOf42 rfl hA45 rfl hx42)<|g_v rfl (r_ldA rfl Try.isAgg42 Try.sizeOf42 (fun W hS=>(f44 W (ok_pre (H1:=[_]) (R1:=[]) hS (fun W h=>h))).take 5) rfl) ?_
   replace hm:=bnd hm
   obtain ⟨x46,hx47,hm⟩:=hm
   refine g_cnv ⟨w0,M,(1000,go0,.cells #[.string o0] 9 (0,0))::H,R,φ⟩ (fun W h=>(ok_front (t:=1000) (t':=1000) h rfl)) Try.call62 rfl rfl rfl (c_auth_There_c1 x42 go0 o0 _ hx47) (fun _ _=>?_)
   refine g_sta _ (fun W h=>(ok_front (t:=1000) (t':=1000) h rfl))<|g_nil<|d_then ?_
   refine c_flat [(0,.slice Ap0_0 p0.length cp0_0),(1,.func (.func 62) #[] #[.pointer (some ⟨go0,0,none⟩)]),(5,.int .i64 i30),(7,.int .i64 (p0.length : Int)),(8,.int .i64 i30),(16,.bool x46)] ⟨rfl,rfl,rfl,rfl,rfl,rfl,trivial⟩ (fun u=>?_)
   refine c_cond rfl (fun h48=>?_) (fun h48=>?_)
   ·
    replace hm:=ite_t hm h48
    refine c_seq<|c_region<|g_v rfl r_move<|g_v rfl r_assign<|g_nil<|d_then<|c_ret<|d_ret_block<|d_ret_then<|d_ret_then ?_
    refine d_ret_block<|d_ret_then<|d_ret_then ?_
    replace hm:=nx_out (C:=(fun e : Unit ⊕ Int=>Sum.elim (fun e=>m_slices_IndexFunc_82_j1) (fun x=>some x) e = some r)) hm hnx2 hr2
    replace hm : some i30 = some r:=hm
    cases hm
    exact d_retC () Try.results82 (res_tmp (res_nil rfl)) trivial (fun W h=>h.phi (fun W hφ=>hφ)) (.inr rfl)
   replace hm:=ite_f hm (bool_nt h48)
   refine c_skip<|d_normal_block<|d_then<|c_region<|g_v rfl (r_add rfl rfl rfl)<|g_v rfl r_move<|g_nil ?_
   obtain ⟨n49,hn49,hlp⟩:=nx_inl hm hnx2
   exact d_round (n49,w64 (i30 + 1)) hlp hn49 ⟨rfl,rfl,rfl,rfl,trivial⟩ (fun W h=>h.phi (fun W hφ=>hφ))
  replace hm:=ite_f hm (of_decide_eq_false h41)
  refine c_exit<|d_exit_then<|d_exit_then<|d_exit_block ?_
  replace hm:=nx_out (C:=(fun e : Unit ⊕ Int=>Sum.elim (fun e=>m_slices_IndexFunc_82_j1) (fun x=>some x) e = some r)) hm hnx2 hr2
  exact d_round () hm Nat.zero_lt_one trivial (fun W h=>h.phi (fun W hφ=>hφ))
 unfold m_slices_IndexFunc_82_j1 at hm
 refine d_flat [] trivial (fun u=>?_)
 refine d_sta ⟨w0,M,(1000,go0,.cells #[.string o0] 9 (0,0))::H,R,φ⟩ (fun _ h=>h)<|d_then<|c_seq<|c_region<|g_v rfl r_assign<|g_nil<|d_then<|c_ret ?_
 cases hm
 exact d_retC () Try.results82 (res_tmp (res_nil rfl)) trivial (fun W h=>h.phi (fun W hφ=>hφ)) (.inr rfl)
noncomputable def m_slices_ContainsFunc_61 (p0 : List GRR) (o0 : ByteArray) : Option Bool:=
  (m_slices_IndexFunc_82 p0 o0).bind fun x1=>
  some (decide (0 ≤ x1))
theorem c_slices_ContainsFunc_61 {w0 : World} {M : Nat→Prop} {H : List (Nat×Nat×Obj)} {R : List (Nat×Row)} {φ : World→Prop} (p0 : List GRR) (Ap0_0 : Option Addr) (cp0_0 : Nat) (hcp0_0 : p0.length ≤ cp0_0) (fp0_0 : ∀ W,(Sta.mk w0 M H R φ).ok W→Cl W Ap0_0 (p0.flatMap GRR.enc)) (go0 : Nat) (o0 : ByteArray) (r : Bool) (hm : m_slices_ContainsFunc_61 p0 o0 = some r) :
    Cn Try.prog 61 #[.slice Ap0_0 p0.length cp0_0,.func (.func 62) #[] #[.pointer (some ⟨go0,0,none⟩)]] ⟨w0,M,(1000,go0,.cells #[.string o0] 9 (0,0))::H,R,φ⟩ (fun x : Unit=>.bool r) (fun x=>True) (fun x=>⟨w0,M,(1000,go0,.cells #[.string o0] 9 (0,0))::H,R,φ⟩):=by
 unfold m_slices_ContainsFunc_61 at hm
 refine cn_intro (fn:=Try.f61) (N:=9) Try.func61 rfl Try.ntmps61 rfl<|c_seq<|c_region<|g_v rfl r_assign<|g_nil<|d_then<|c_seq<|c_region<|g_v rfl r_move<|g_v rfl r_move ?_
 replace hm:=bnd hm
 obtain ⟨x1,hx2,hm⟩:=hm
 refine g_cn ⟨w0,M,(1000,go0,.cells #[.string o0] 9 (0,0))::H,R,φ⟩ (fun W h=>(ok_front (t:=1000) (t':=1000) h rfl)) Try.call82 rfl rfl (c_slices_IndexFunc_82 p0 Ap0_0 cp0_0 hcp0_0 (fun W hS=>fp0_0 W (ok_pre (H1:=[]) (R1:=[]) hS (fun W h=>h))) go0 o0 _ hx2) (fun _ _=>?_)
 refine g_sta _ (fun W h=>(ok_front (t:=1000) (t':=1000) h rfl))<|g_v rfl (r_geq rfl rfl)<|g_v rfl r_assign<|g_nil<|d_then<|c_ret ?_
 cases hm
 exact d_retC () Try.results61 (res_tmp (res_nil rfl)) trivial (fun W h=>h.phi (fun W hφ=>hφ)) (.inr rfl)
noncomputable def m_auth_There (p0 : GZone) (p1 : ByteArray) : Option Bool:=
  (m_slices_ContainsFunc_61 p0.fRecords p1).bind fun x3=>
  some x3
theorem c_auth_There {w0 : World} {M : Nat→Prop} {H : List (Nat×Nat×Obj)} {R : List (Nat×Row)} {φ : World→Prop} (p0 : GZone) (Ap0_0 : Option Addr) (cp0_0 : Nat) (hcp0_0 : p0.fRecords.length ≤ cp0_0) (fp0_0 : ∀ W,(Sta.mk w0 M H R φ).ok W→Cl W Ap0_0 (p0.fRecords.flatMap GRR.enc)) (p1 : ByteArray) (r : Bool) (hm : m_auth_There p0 p1 = some r) :
    Cn Try.prog 30 #[.agg #[.string p0.fApex,.slice Ap0_0 p0.fRecords.length cp0_0],.string p1] ⟨w0,M,H,R,φ⟩ (fun x : Unit=>.bool r) (fun x=>True) (fun x=>⟨w0,M,H,R,φ⟩):=by
 unfold m_auth_There at hm
 refine cn_intro (fn:=Try.f30) (N:=9) Try.func30 rfl Try.ntmps30 rfl<|c_seq<|c_region ?_
 refine g_e rfl (e_box 100020 rfl) (fun g1 _=>?_)
 refine g_e rfl (e_box 100030 rfl) (fun g2 _=>?_)
 refine g_v rfl r_assign<|g_nil<|d_then<|c_seq<|c_region<|g_v rfl (r_field (n:=1) Try.underlying33 rfl Try.sizeOf24 rfl rfl)<|g_v rfl (r_load (tag:=100020) rfl rfl rfl Try.isAgg24)<|g_v rfl (r_mkf rfl) ?_
 replace hm:=bnd hm
 obtain ⟨x3,hx4,hm⟩:=hm
 refine g_cn ⟨w0,M,(1000,g2,.cells #[.string p1] 9 (0,0))::(100020,g1,.cells #[.string p0.fApex,.slice Ap0_0 p0.fRecords.length cp0_0] 33 (0,0))::H,R,φ⟩ (fun W h=>(ok_front (t:=100030) (t':=1000) h rfl)) Try.call61 rfl rfl (c_slices_ContainsFunc_61 p0.fRecords Ap0_0 cp0_0 hcp0_0 (fun W hS=>fp0_0 W (ok_pre (H1:=[_]) (R1:=[]) hS (fun W h=>h))) g2 p1 _ hx4) (fun _ _=>?_)
 refine g_sta _ (fun W h=>(ok_front (t:=1000) (t':=100030) h rfl))<|g_v rfl r_assign<|g_nil<|d_then<|c_ret ?_
 cases hm
 exact d_retC () Try.results30 (res_tmp (res_nil rfl)) trivial (fun W h=>ok_pre (H1:=[_,_]) (R1:=[]) h (fun W hφ=>hφ)) (.inr rfl)
end Go.Proofs.Ytjbfgaahonmclaa
