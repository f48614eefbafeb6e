/- Readings of a law's arguments, by their types (a program's text, own work). -/
import Derived.Test.YtbaobjcaeaofaaaRD
import Derived.Test.YtbaobjcaeaofaaaWPKE
set_option maxRecDepth 100000
set_option linter.unusedVariables false
set_option linter.unusedSimpArgs false
namespace Go.Proofs.Ytbaobjcaeaofaaa
open Go.ChangeShapes Go.WideShapes Go.ChangeAt Go.RowKit
theorem eC3 : Try.prog.cellsOf 3 = 1:=by kernel_rfl
theorem eC9 : Try.prog.cellsOf 9 = 1:=by kernel_rfl
theorem eC22 : Try.prog.cellsOf 22 = 1:=by kernel_rfl
def GQuestion.ok (e : GQuestion) : Prop:=e.fName.size ≤ 9223372036854775807∧(0 ≤ e.fType∧e.fType ≤ 65535)∧(0 ≤ e.fClass∧e.fClass ≤ 65535)
theorem rd24 {H : Type} {enc : TypeId×Value→H} {W : World} {b0 : Nat} {sp : Nat→Bool} {hd : Bool} {fuel : Nat} {cs : List Value} {x : DataW H×List MemPlace} (h : DataW.trod enc Try.prog W b0 sp hd fuel 24 cs = some x) : ∃ (m : GQuestion),cs = GQuestion.enc m∧m.ok:=by
  obtain ⟨xs,n,_,hxs,hl,hlen,hf⟩:=DataW.trod_struct Try.underlying24 h
  have hl : cs.length = 3:=hl.trans (by kernel_rfl)
  have hx : ∀ i,i < 3→∃ y,xs[i]? = some y:=fun i hi=>⟨_,List.getElem?_eq_getElem (by rw [hlen]; exact hi)⟩
  match cs,hl with
  | [z0,z1,z2],_=>
    obtain ⟨y0,g0⟩:=hx 0 (by decide)
    have k0 : DataW.trod enc Try.prog W b0 sp hd n 9 (List.take (Try.prog.cellsOf 9) (List.drop 0 [z0,z1,z2])) = some y0:=(hf 0 _ rfl).trans g0
    rw [eC9] at k0
    replace k0 : DataW.trod enc Try.prog W b0 sp hd n 9 [z0] = some y0:=k0
    obtain ⟨m0,q0,o0⟩:=rd_str Try.underlying9 k0
    obtain ⟨y1,g1⟩:=hx 1 (by decide)
    have k1 : DataW.trod enc Try.prog W b0 sp hd n 22 (List.take (Try.prog.cellsOf 22) (List.drop 1 [z0,z1,z2])) = some y1:=(hf 1 _ rfl).trans g1
    rw [eC22] at k1
    replace k1 : DataW.trod enc Try.prog W b0 sp hd n 22 [z1] = some y1:=k1
    obtain ⟨m1,q1,o1⟩:=rd_u16 Try.underlying22 k1
    obtain ⟨y2,g2⟩:=hx 2 (by decide)
    have k2 : DataW.trod enc Try.prog W b0 sp hd n 22 (List.take (Try.prog.cellsOf 22) (List.drop 2 [z0,z1,z2])) = some y2:=(hf 2 _ rfl).trans g2
    rw [eC22] at k2
    replace k2 : DataW.trod enc Try.prog W b0 sp hd n 22 [z2] = some y2:=k2
    obtain ⟨m2,q2,o2⟩:=rd_u16 Try.underlying22 k2
    simp only [List.cons.injEq,and_true] at q0
    subst q0
    simp only [List.cons.injEq,and_true] at q1
    subst q1
    simp only [List.cons.injEq,and_true] at q2
    subst q2
    exact ⟨⟨m0,m1,m2⟩,rfl,⟨o0,o1,o2⟩⟩
theorem eC24 : Try.prog.cellsOf 24 = 3:=by kernel_rfl
theorem eC4 : Try.prog.cellsOf 4 = 1:=by kernel_rfl
theorem eC52 : Try.prog.cellsOf 52 = 1:=by kernel_rfl
def GRR.ok (e : GRR) : Prop:=e.fName.size ≤ 9223372036854775807∧(0 ≤ e.fType∧e.fType ≤ 65535)∧(0 ≤ e.fClass∧e.fClass ≤ 65535)∧(0 ≤ e.fTTL∧e.fTTL ≤ 4294967295)∧e.fData.size ≤ 9223372036854775807
theorem rd54 {H : Type} {enc : TypeId×Value→H} {W : World} {b0 : Nat} {sp : Nat→Bool} {hd : Bool} {fuel : Nat} {cs : List Value} {x : DataW H×List MemPlace} (h : DataW.trod enc Try.prog W b0 sp hd fuel 54 cs = some x) : ∃ (m : GRR),cs = GRR.enc m∧m.ok:=by
  obtain ⟨xs,n,_,hxs,hl,hlen,hf⟩:=DataW.trod_struct Try.underlying54 h
  have hl : cs.length = 5:=hl.trans (by kernel_rfl)
  have hx : ∀ i,i < 5→∃ y,xs[i]? = some y:=fun i hi=>⟨_,List.getElem?_eq_getElem (by rw [hlen]; exact hi)⟩
  match cs,hl with
  | [z0,z1,z2,z3,z4],_=>
    obtain ⟨y0,g0⟩:=hx 0 (by decide)
    have k0 : DataW.trod enc Try.prog W b0 sp hd n 9 (List.take (Try.prog.cellsOf 9) (List.drop 0 [z0,z1,z2,z3,z4])) = some y0:=(hf 0 _ rfl).trans g0
    rw [eC9] at k0
    replace k0 : DataW.trod enc Try.prog W b0 sp hd n 9 [z0] = some y0:=k0
    obtain ⟨m0,q0,o0⟩:=rd_str Try.underlying9 k0
    obtain ⟨y1,g1⟩:=hx 1 (by decide)
    have k1 : DataW.trod enc Try.prog W b0 sp hd n 22 (List.take (Try.prog.cellsOf 22) (List.drop 1 [z0,z1,z2,z3,z4])) = some y1:=(hf 1 _ rfl).trans g1
    rw [eC22] at k1
    replace k1 : DataW.trod enc Try.prog W b0 sp hd n 22 [z1] = some y1:=k1
    obtain ⟨m1,q1,o1⟩:=rd_u16 Try.underlying22 k1
    obtain ⟨y2,g2⟩:=hx 2 (by decide)
    have k2 : DataW.trod enc Try.prog W b0 sp hd n 22 (List.take (Try.prog.cellsOf 22) (List.drop 2 [z0,z1,z2,z3,z4])) = some y2:=(hf 2 _ rfl).trans g2
    rw [eC22] at k2
    replace k2 : DataW.trod enc Try.prog W b0 sp hd n 22 [z2] = some y2:=k2
    obtain ⟨m2,q2,o2⟩:=rd_u16 Try.underlying22 k2
    obtain ⟨y3,g3⟩:=hx 3 (by decide)
    have k3 : DataW.trod enc Try.prog W b0 sp hd n 52 (List.take (Try.prog.cellsOf 52) (List.drop 3 [z0,z1,z2,z3,z4])) = some y3:=(hf 3 _ rfl).trans g3
    rw [eC52] at k3
    replace k3 : DataW.trod enc Try.prog W b0 sp hd n 52 [z3] = some y3:=k3
    obtain ⟨m3,q3,o3⟩:=rd_u32 Try.underlying52 k3
    obtain ⟨y4,g4⟩:=hx 4 (by decide)
    have k4 : DataW.trod enc Try.prog W b0 sp hd n 9 (List.take (Try.prog.cellsOf 9) (List.drop 4 [z0,z1,z2,z3,z4])) = some y4:=(hf 4 _ rfl).trans g4
    rw [eC9] at k4
    replace k4 : DataW.trod enc Try.prog W b0 sp hd n 9 [z4] = some y4:=k4
    obtain ⟨m4,q4,o4⟩:=rd_str Try.underlying9 k4
    simp only [List.cons.injEq,and_true] at q0
    subst q0
    simp only [List.cons.injEq,and_true] at q1
    subst q1
    simp only [List.cons.injEq,and_true] at q2
    subst q2
    simp only [List.cons.injEq,and_true] at q3
    subst q3
    simp only [List.cons.injEq,and_true] at q4
    subst q4
    exact ⟨⟨m0,m1,m2,m3,m4⟩,rfl,⟨o0,o1,o2,o3,o4⟩⟩
theorem eC54 : Try.prog.cellsOf 54 = 5:=by kernel_rfl
theorem eC39 : Try.prog.cellsOf 39 = 1:=by kernel_rfl
def GCached.ok (e : GCached) : Prop:=((-9223372036854775808) ≤ e.fKind∧e.fKind ≤ 9223372036854775807)∧e.fName.size ≤ 9223372036854775807∧(0 ≤ e.fType∧e.fType ≤ 65535)∧(0 ≤ e.fClass∧e.fClass ≤ 65535)∧(e.fRecords.length ≤ 9223372036854775807∧∀ a ∈ e.fRecords,GRR.ok a)∧((-9223372036854775808) ≤ e.fUntil∧e.fUntil ≤ 9223372036854775807)∧((-9223372036854775808) ≤ e.fRank∧e.fRank ≤ 9223372036854775807)∧((-9223372036854775808) ≤ e.fEpoch∧e.fEpoch ≤ 9223372036854775807)∧((-9223372036854775808) ≤ e.fSource∧e.fSource ≤ 9223372036854775807)
theorem rd41 {H : Type} {enc : TypeId×Value→H} {W : World} {b0 : Nat} {sp : Nat→Bool} {hd : Bool} {fuel : Nat} {cs : List Value} {x : DataW H×List MemPlace} (h : DataW.trod enc Try.prog W b0 sp hd fuel 41 cs = some x) : ∃ (m : GCached) (A0 : Option Addr) (c0 : Nat),cs = [.int .i64 m.fKind,.string m.fName,.int .u16 m.fType,.int .u16 m.fClass,.slice A0 m.fRecords.length c0,.int .i64 m.fUntil,.int .i64 m.fRank,.int .i64 m.fEpoch,.int .i64 m.fSource]∧m.ok∧m.fRecords.length ≤ c0∧Cl W A0 (m.fRecords.flatMap GRR.enc):=by
  obtain ⟨xs,n,_,hxs,hl,hlen,hf⟩:=DataW.trod_struct Try.underlying41 h
  have hl : cs.length = 9:=hl.trans (by kernel_rfl)
  have hx : ∀ i,i < 9→∃ y,xs[i]? = some y:=fun i hi=>⟨_,List.getElem?_eq_getElem (by rw [hlen]; exact hi)⟩
  match cs,hl with
  | [z0,z1,z2,z3,z4,z5,z6,z7,z8],_=>
    obtain ⟨y0,g0⟩:=hx 0 (by decide)
    have k0 : DataW.trod enc Try.prog W b0 sp hd n 3 (List.take (Try.prog.cellsOf 3) (List.drop 0 [z0,z1,z2,z3,z4,z5,z6,z7,z8])) = some y0:=(hf 0 _ rfl).trans g0
    rw [eC3] at k0
    replace k0 : DataW.trod enc Try.prog W b0 sp hd n 3 [z0] = some y0:=k0
    obtain ⟨m0,q0,o0⟩:=rd_i64 Try.underlying3 k0
    obtain ⟨y1,g1⟩:=hx 1 (by decide)
    have k1 : DataW.trod enc Try.prog W b0 sp hd n 9 (List.take (Try.prog.cellsOf 9) (List.drop 1 [z0,z1,z2,z3,z4,z5,z6,z7,z8])) = some y1:=(hf 1 _ rfl).trans g1
    rw [eC9] at k1
    replace k1 : DataW.trod enc Try.prog W b0 sp hd n 9 [z1] = some y1:=k1
    obtain ⟨m1,q1,o1⟩:=rd_str Try.underlying9 k1
    obtain ⟨y2,g2⟩:=hx 2 (by decide)
    have k2 : DataW.trod enc Try.prog W b0 sp hd n 22 (List.take (Try.prog.cellsOf 22) (List.drop 2 [z0,z1,z2,z3,z4,z5,z6,z7,z8])) = some y2:=(hf 2 _ rfl).trans g2
    rw [eC22] at k2
    replace k2 : DataW.trod enc Try.prog W b0 sp hd n 22 [z2] = some y2:=k2
    obtain ⟨m2,q2,o2⟩:=rd_u16 Try.underlying22 k2
    obtain ⟨y3,g3⟩:=hx 3 (by decide)
    have k3 : DataW.trod enc Try.prog W b0 sp hd n 22 (List.take (Try.prog.cellsOf 22) (List.drop 3 [z0,z1,z2,z3,z4,z5,z6,z7,z8])) = some y3:=(hf 3 _ rfl).trans g3
    rw [eC22] at k3
    replace k3 : DataW.trod enc Try.prog W b0 sp hd n 22 [z3] = some y3:=k3
    obtain ⟨m3,q3,o3⟩:=rd_u16 Try.underlying22 k3
    obtain ⟨y4,g4⟩:=hx 4 (by decide)
    have k4 : DataW.trod enc Try.prog W b0 sp hd n 39 (List.take (Try.prog.cellsOf 39) (List.drop 4 [z0,z1,z2,z3,z4,z5,z6,z7,z8])) = some y4:=(hf 4 _ rfl).trans g4
    rw [eC39] at k4
    replace k4 : DataW.trod enc Try.prog W b0 sp hd n 39 [z4] = some y4:=k4
    obtain ⟨m4,B0,d0,q4,o4,u0,f0⟩:=rd_slice (fun a=>GRR.ok a) Try.underlying39 eC54 (en:=GRR.enc) (fun _=>rfl) (fun _ _ _ h=>by obtain ⟨m,hm,ho⟩:=rd54 h; exact ⟨m,hm,ho⟩) k4
    obtain ⟨y5,g5⟩:=hx 5 (by decide)
    have k5 : DataW.trod enc Try.prog W b0 sp hd n 3 (List.take (Try.prog.cellsOf 3) (List.drop 5 [z0,z1,z2,z3,z4,z5,z6,z7,z8])) = some y5:=(hf 5 _ rfl).trans g5
    rw [eC3] at k5
    replace k5 : DataW.trod enc Try.prog W b0 sp hd n 3 [z5] = some y5:=k5
    obtain ⟨m5,q5,o5⟩:=rd_i64 Try.underlying3 k5
    obtain ⟨y6,g6⟩:=hx 6 (by decide)
    have k6 : DataW.trod enc Try.prog W b0 sp hd n 3 (List.take (Try.prog.cellsOf 3) (List.drop 6 [z0,z1,z2,z3,z4,z5,z6,z7,z8])) = some y6:=(hf 6 _ rfl).trans g6
    rw [eC3] at k6
    replace k6 : DataW.trod enc Try.prog W b0 sp hd n 3 [z6] = some y6:=k6
    obtain ⟨m6,q6,o6⟩:=rd_i64 Try.underlying3 k6
    obtain ⟨y7,g7⟩:=hx 7 (by decide)
    have k7 : DataW.trod enc Try.prog W b0 sp hd n 3 (List.take (Try.prog.cellsOf 3) (List.drop 7 [z0,z1,z2,z3,z4,z5,z6,z7,z8])) = some y7:=(hf 7 _ rfl).trans g7
    rw [eC3] at k7
    replace k7 : DataW.trod enc Try.prog W b0 sp hd n 3 [z7] = some y7:=k7
    obtain ⟨m7,q7,o7⟩:=rd_i64 Try.underlying3 k7
    obtain ⟨y8,g8⟩:=hx 8 (by decide)
    have k8 : DataW.trod enc Try.prog W b0 sp hd n 3 (List.take (Try.prog.cellsOf 3) (List.drop 8 [z0,z1,z2,z3,z4,z5,z6,z7,z8])) = some y8:=(hf 8 _ rfl).trans g8
    rw [eC3] at k8
    replace k8 : DataW.trod enc Try.prog W b0 sp hd n 3 [z8] = some y8:=k8
    obtain ⟨m8,q8,o8⟩:=rd_i64 Try.underlying3 k8
    simp only [List.cons.injEq,and_true] at q0
    subst q0
    simp only [List.cons.injEq,and_true] at q1
    subst q1
    simp only [List.cons.injEq,and_true] at q2
    subst q2
    simp only [List.cons.injEq,and_true] at q3
    subst q3
    simp only [List.cons.injEq,and_true] at q4
    subst q4
    simp only [List.cons.injEq,and_true] at q5
    subst q5
    simp only [List.cons.injEq,and_true] at q6
    subst q6
    simp only [List.cons.injEq,and_true] at q7
    subst q7
    simp only [List.cons.injEq,and_true] at q8
    subst q8
    exact ⟨⟨m0,m1,m2,m3,m4,m5,m6,m7,m8⟩,B0,d0,rfl,⟨o0,o1,o2,o3,o4,o5,o6,o7,o8⟩,u0,f0⟩
theorem eC41 : Try.prog.cellsOf 41 = 9:=by kernel_rfl
theorem GCached.agree {W W' : World} {z : GCached×GCachedP} (hW : ∀ k,k < W.heap.size→W'.heap[k]? = W.heap[k]?) (h : GCached.ownP W z) : GCached.ownP W' z:=h.agree hW
theorem eC25 : Try.prog.cellsOf 25 = 1:=by kernel_rfl
def GEntry.ok (e : GEntry) : Prop:=((-9223372036854775808) ≤ e.fTerm∧e.fTerm ≤ 9223372036854775807)∧((-9223372036854775808) ≤ e.fKind∧e.fKind ≤ 9223372036854775807)∧e.fData.size ≤ 9223372036854775807
theorem rd56 {H : Type} {enc : TypeId×Value→H} {W : World} {b0 : Nat} {sp : Nat→Bool} {hd : Bool} {fuel : Nat} {cs : List Value} {x : DataW H×List MemPlace} (h : DataW.trod enc Try.prog W b0 sp hd fuel 56 cs = some x) : ∃ (m : GEntry),cs = GEntry.enc m∧m.ok:=by
  obtain ⟨xs,n,_,hxs,hl,hlen,hf⟩:=DataW.trod_struct Try.underlying56 h
  have hl : cs.length = 3:=hl.trans (by kernel_rfl)
  have hx : ∀ i,i < 3→∃ y,xs[i]? = some y:=fun i hi=>⟨_,List.getElem?_eq_getElem (by rw [hlen]; exact hi)⟩
  match cs,hl with
  | [z0,z1,z2],_=>
    obtain ⟨y0,g0⟩:=hx 0 (by decide)
    have k0 : DataW.trod enc Try.prog W b0 sp hd n 3 (List.take (Try.prog.cellsOf 3) (List.drop 0 [z0,z1,z2])) = some y0:=(hf 0 _ rfl).trans g0
    rw [eC3] at k0
    replace k0 : DataW.trod enc Try.prog W b0 sp hd n 3 [z0] = some y0:=k0
    obtain ⟨m0,q0,o0⟩:=rd_i64 Try.underlying3 k0
    obtain ⟨y1,g1⟩:=hx 1 (by decide)
    have k1 : DataW.trod enc Try.prog W b0 sp hd n 3 (List.take (Try.prog.cellsOf 3) (List.drop 1 [z0,z1,z2])) = some y1:=(hf 1 _ rfl).trans g1
    rw [eC3] at k1
    replace k1 : DataW.trod enc Try.prog W b0 sp hd n 3 [z1] = some y1:=k1
    obtain ⟨m1,q1,o1⟩:=rd_i64 Try.underlying3 k1
    obtain ⟨y2,g2⟩:=hx 2 (by decide)
    have k2 : DataW.trod enc Try.prog W b0 sp hd n 9 (List.take (Try.prog.cellsOf 9) (List.drop 2 [z0,z1,z2])) = some y2:=(hf 2 _ rfl).trans g2
    rw [eC9] at k2
    replace k2 : DataW.trod enc Try.prog W b0 sp hd n 9 [z2] = some y2:=k2
    obtain ⟨m2,q2,o2⟩:=rd_str Try.underlying9 k2
    simp only [List.cons.injEq,and_true] at q0
    subst q0
    simp only [List.cons.injEq,and_true] at q1
    subst q1
    simp only [List.cons.injEq,and_true] at q2
    subst q2
    exact ⟨⟨m0,m1,m2⟩,rfl,⟨o0,o1,o2⟩⟩
theorem eC56 : Try.prog.cellsOf 56 = 3:=by kernel_rfl
theorem eC26 : Try.prog.cellsOf 26 = 1:=by kernel_rfl
theorem eC27 : Try.prog.cellsOf 27 = 1:=by kernel_rfl
def GNote.ok (e : GNote) : Prop:=((-9223372036854775808) ≤ e.fKind∧e.fKind ≤ 9223372036854775807)∧((-9223372036854775808) ≤ e.fFrom∧e.fFrom ≤ 9223372036854775807)∧((-9223372036854775808) ≤ e.fTo∧e.fTo ≤ 9223372036854775807)∧((-9223372036854775808) ≤ e.fTerm∧e.fTerm ≤ 9223372036854775807)∧((-9223372036854775808) ≤ e.fIndex∧e.fIndex ≤ 9223372036854775807)∧((-9223372036854775808) ≤ e.fLogTerm∧e.fLogTerm ≤ 9223372036854775807)∧((-9223372036854775808) ≤ e.fCommit∧e.fCommit ≤ 9223372036854775807)∧True∧(e.fEntries.length ≤ 9223372036854775807∧∀ a ∈ e.fEntries,GEntry.ok a)∧(e.fVoters.length ≤ 9223372036854775807∧∀ a ∈ e.fVoters,((-9223372036854775808) ≤ a∧a ≤ 9223372036854775807))∧e.fSnap.size ≤ 9223372036854775807
theorem rd29 {H : Type} {enc : TypeId×Value→H} {W : World} {b0 : Nat} {sp : Nat→Bool} {hd : Bool} {fuel : Nat} {cs : List Value} {x : DataW H×List MemPlace} (h : DataW.trod enc Try.prog W b0 sp hd fuel 29 cs = some x) : ∃ (m : GNote) (A0 : Option Addr) (c0 : Nat) (A1 : Option Addr) (c1 : Nat),cs = [.int .i64 m.fKind,.int .i64 m.fFrom,.int .i64 m.fTo,.int .i64 m.fTerm,.int .i64 m.fIndex,.int .i64 m.fLogTerm,.int .i64 m.fCommit,.bool m.fGood,.slice A0 m.fEntries.length c0,.slice A1 m.fVoters.length c1,.string m.fSnap]∧m.ok∧m.fEntries.length ≤ c0∧Cl W A0 (m.fEntries.flatMap GEntry.enc)∧m.fVoters.length ≤ c1∧Cl W A1 (m.fVoters.flatMap (fun x : Int=>[Value.int .i64 x])):=by
  obtain ⟨xs,n,_,hxs,hl,hlen,hf⟩:=DataW.trod_struct Try.underlying29 h
  have hl : cs.length = 11:=hl.trans (by kernel_rfl)
  have hx : ∀ i,i < 11→∃ y,xs[i]? = some y:=fun i hi=>⟨_,List.getElem?_eq_getElem (by rw [hlen]; exact hi)⟩
  match cs,hl with
  | [z0,z1,z2,z3,z4,z5,z6,z7,z8,z9,z10],_=>
    obtain ⟨y0,g0⟩:=hx 0 (by decide)
    have k0 : DataW.trod enc Try.prog W b0 sp hd n 3 (List.take (Try.prog.cellsOf 3) (List.drop 0 [z0,z1,z2,z3,z4,z5,z6,z7,z8,z9,z10])) = some y0:=(hf 0 _ rfl).trans g0
    rw [eC3] at k0
    replace k0 : DataW.trod enc Try.prog W b0 sp hd n 3 [z0] = some y0:=k0
    obtain ⟨m0,q0,o0⟩:=rd_i64 Try.underlying3 k0
    obtain ⟨y1,g1⟩:=hx 1 (by decide)
    have k1 : DataW.trod enc Try.prog W b0 sp hd n 3 (List.take (Try.prog.cellsOf 3) (List.drop 1 [z0,z1,z2,z3,z4,z5,z6,z7,z8,z9,z10])) = some y1:=(hf 1 _ rfl).trans g1
    rw [eC3] at k1
    replace k1 : DataW.trod enc Try.prog W b0 sp hd n 3 [z1] = some y1:=k1
    obtain ⟨m1,q1,o1⟩:=rd_i64 Try.underlying3 k1
    obtain ⟨y2,g2⟩:=hx 2 (by decide)
    have k2 : DataW.trod enc Try.prog W b0 sp hd n 3 (List.take (Try.prog.cellsOf 3) (List.drop 2 [z0,z1,z2,z3,z4,z5,z6,z7,z8,z9,z10])) = some y2:=(hf 2 _ rfl).trans g2
    rw [eC3] at k2
    replace k2 : DataW.trod enc Try.prog W b0 sp hd n 3 [z2] = some y2:=k2
    obtain ⟨m2,q2,o2⟩:=rd_i64 Try.underlying3 k2
    obtain ⟨y3,g3⟩:=hx 3 (by decide)
    have k3 : DataW.trod enc Try.prog W b0 sp hd n 3 (List.take (Try.prog.cellsOf 3) (List.drop 3 [z0,z1,z2,z3,z4,z5,z6,z7,z8,z9,z10])) = some y3:=(hf 3 _ rfl).trans g3
    rw [eC3] at k3
    replace k3 : DataW.trod enc Try.prog W b0 sp hd n 3 [z3] = some y3:=k3
    obtain ⟨m3,q3,o3⟩:=rd_i64 Try.underlying3 k3
    obtain ⟨y4,g4⟩:=hx 4 (by decide)
    have k4 : DataW.trod enc Try.prog W b0 sp hd n 3 (List.take (Try.prog.cellsOf 3) (List.drop 4 [z0,z1,z2,z3,z4,z5,z6,z7,z8,z9,z10])) = some y4:=(hf 4 _ rfl).trans g4
    rw [eC3] at k4
    replace k4 : DataW.trod enc Try.prog W b0 sp hd n 3 [z4] = some y4:=k4
    obtain ⟨m4,q4,o4⟩:=rd_i64 Try.underlying3 k4
    obtain ⟨y5,g5⟩:=hx 5 (by decide)
    have k5 : DataW.trod enc Try.prog W b0 sp hd n 3 (List.take (Try.prog.cellsOf 3) (List.drop 5 [z0,z1,z2,z3,z4,z5,z6,z7,z8,z9,z10])) = some y5:=(hf 5 _ rfl).trans g5
    rw [eC3] at k5
    replace k5 : DataW.trod enc Try.prog W b0 sp hd n 3 [z5] = some y5:=k5
    obtain ⟨m5,q5,o5⟩:=rd_i64 Try.underlying3 k5
    obtain ⟨y6,g6⟩:=hx 6 (by decide)
    have k6 : DataW.trod enc Try.prog W b0 sp hd n 3 (List.take (Try.prog.cellsOf 3) (List.drop 6 [z0,z1,z2,z3,z4,z5,z6,z7,z8,z9,z10])) = some y6:=(hf 6 _ rfl).trans g6
    rw [eC3] at k6
    replace k6 : DataW.trod enc Try.prog W b0 sp hd n 3 [z6] = some y6:=k6
    obtain ⟨m6,q6,o6⟩:=rd_i64 Try.underlying3 k6
    obtain ⟨y7,g7⟩:=hx 7 (by decide)
    have k7 : DataW.trod enc Try.prog W b0 sp hd n 4 (List.take (Try.prog.cellsOf 4) (List.drop 7 [z0,z1,z2,z3,z4,z5,z6,z7,z8,z9,z10])) = some y7:=(hf 7 _ rfl).trans g7
    rw [eC4] at k7
    replace k7 : DataW.trod enc Try.prog W b0 sp hd n 4 [z7] = some y7:=k7
    obtain ⟨m7,q7⟩:=rd_bool Try.underlying4 k7
    obtain ⟨y8,g8⟩:=hx 8 (by decide)
    have k8 : DataW.trod enc Try.prog W b0 sp hd n 26 (List.take (Try.prog.cellsOf 26) (List.drop 8 [z0,z1,z2,z3,z4,z5,z6,z7,z8,z9,z10])) = some y8:=(hf 8 _ rfl).trans g8
    rw [eC26] at k8
    replace k8 : DataW.trod enc Try.prog W b0 sp hd n 26 [z8] = some y8:=k8
    obtain ⟨m8,B0,d0,q8,o8,u0,f0⟩:=rd_slice (fun a=>GEntry.ok a) Try.underlying26 eC56 (en:=GEntry.enc) (fun _=>rfl) (fun _ _ _ h=>by obtain ⟨m,hm,ho⟩:=rd56 h; exact ⟨m,hm,ho⟩) k8
    obtain ⟨y9,g9⟩:=hx 9 (by decide)
    have k9 : DataW.trod enc Try.prog W b0 sp hd n 27 (List.take (Try.prog.cellsOf 27) (List.drop 9 [z0,z1,z2,z3,z4,z5,z6,z7,z8,z9,z10])) = some y9:=(hf 9 _ rfl).trans g9
    rw [eC27] at k9
    replace k9 : DataW.trod enc Try.prog W b0 sp hd n 27 [z9] = some y9:=k9
    obtain ⟨m9,B1,d1,q9,o9,u1,f1⟩:=rd_slice (fun a=>((-9223372036854775808) ≤ a∧a ≤ 9223372036854775807)) Try.underlying27 eC3 (en:=(fun x : Int=>[Value.int .i64 x])) (fun _=>rfl) (fun _ _ _ h=>rd_i64 Try.underlying3 h) k9
    obtain ⟨y10,g10⟩:=hx 10 (by decide)
    have k10 : DataW.trod enc Try.prog W b0 sp hd n 9 (List.take (Try.prog.cellsOf 9) (List.drop 10 [z0,z1,z2,z3,z4,z5,z6,z7,z8,z9,z10])) = some y10:=(hf 10 _ rfl).trans g10
    rw [eC9] at k10
    replace k10 : DataW.trod enc Try.prog W b0 sp hd n 9 [z10] = some y10:=k10
    obtain ⟨m10,q10,o10⟩:=rd_str Try.underlying9 k10
    simp only [List.cons.injEq,and_true] at q0
    subst q0
    simp only [List.cons.injEq,and_true] at q1
    subst q1
    simp only [List.cons.injEq,and_true] at q2
    subst q2
    simp only [List.cons.injEq,and_true] at q3
    subst q3
    simp only [List.cons.injEq,and_true] at q4
    subst q4
    simp only [List.cons.injEq,and_true] at q5
    subst q5
    simp only [List.cons.injEq,and_true] at q6
    subst q6
    simp only [List.cons.injEq,and_true] at q7
    subst q7
    simp only [List.cons.injEq,and_true] at q8
    subst q8
    simp only [List.cons.injEq,and_true] at q9
    subst q9
    simp only [List.cons.injEq,and_true] at q10
    subst q10
    exact ⟨⟨m0,m1,m2,m3,m4,m5,m6,m7,m8,m9,m10⟩,B0,d0,B1,d1,rfl,⟨o0,o1,o2,o3,o4,o5,o6,trivial,o8,o9,o10⟩,u0,f0,u1,f1⟩
theorem eC29 : Try.prog.cellsOf 29 = 11:=by kernel_rfl
def GLetter.ok (e : GLetter) : Prop:=((-9223372036854775808) ≤ e.fKind∧e.fKind ≤ 9223372036854775807)∧((-9223372036854775808) ≤ e.fSerial∧e.fSerial ≤ 9223372036854775807)∧((-9223372036854775808) ≤ e.fEpoch∧e.fEpoch ≤ 9223372036854775807)∧GQuestion.ok e.fQuestion∧True∧(e.fEntries.length ≤ 9223372036854775807∧∀ a ∈ e.fEntries,GCached.ok a)∧GNote.ok e.fNote∧e.fText.size ≤ 9223372036854775807
theorem rd31 {H : Type} {enc : TypeId×Value→H} {W : World} {b0 : Nat} {sp : Nat→Bool} {hd : Bool} {fuel : Nat} {cs : List Value} {x : DataW H×List MemPlace} (h : DataW.trod enc Try.prog W b0 sp hd fuel 31 cs = some x) : ∃ (m : GLetter) (A0 : Option Addr) (c0 : Nat) (P0 : List GCachedP) (A1 : Option Addr) (c1 : Nat) (A2 : Option Addr) (c2 : Nat),cs = [.int .i64 m.fKind,.int .i64 m.fSerial,.int .i64 m.fEpoch,.string m.fQuestion.fName,.int .u16 m.fQuestion.fType,.int .u16 m.fQuestion.fClass,.bool m.fGood,.slice A0 m.fEntries.length c0,.int .i64 m.fNote.fKind,.int .i64 m.fNote.fFrom,.int .i64 m.fNote.fTo,.int .i64 m.fNote.fTerm,.int .i64 m.fNote.fIndex,.int .i64 m.fNote.fLogTerm,.int .i64 m.fNote.fCommit,.bool m.fNote.fGood,.slice A1 m.fNote.fEntries.length c1,.slice A2 m.fNote.fVoters.length c2,.string m.fNote.fSnap,.string m.fText]∧m.ok∧(DOk GCached.capP m.fEntries P0∧m.fEntries.length ≤ c0)∧Cl W A0 ((m.fEntries.zip P0).flatMap GCached.encP)∧DOwn GCached.ownP m.fEntries P0 W∧m.fNote.fEntries.length ≤ c1∧Cl W A1 (m.fNote.fEntries.flatMap GEntry.enc)∧m.fNote.fVoters.length ≤ c2∧Cl W A2 (m.fNote.fVoters.flatMap (fun x : Int=>[Value.int .i64 x])):=by
  obtain ⟨xs,n,_,hxs,hl,hlen,hf⟩:=DataW.trod_struct Try.underlying31 h
  have hl : cs.length = 20:=hl.trans (by kernel_rfl)
  have hx : ∀ i,i < 8→∃ y,xs[i]? = some y:=fun i hi=>⟨_,List.getElem?_eq_getElem (by rw [hlen]; exact hi)⟩
  match cs,hl with
  | [z0,z1,z2,z3,z4,z5,z6,z7,z8,z9,z10,z11,z12,z13,z14,z15,z16,z17,z18,z19],_=>
    obtain ⟨y0,g0⟩:=hx 0 (by decide)
    have k0 : DataW.trod enc Try.prog W b0 sp hd n 3 (List.take (Try.prog.cellsOf 3) (List.drop 0 [z0,z1,z2,z3,z4,z5,z6,z7,z8,z9,z10,z11,z12,z13,z14,z15,z16,z17,z18,z19])) = some y0:=(hf 0 _ rfl).trans g0
    rw [eC3] at k0
    replace k0 : DataW.trod enc Try.prog W b0 sp hd n 3 [z0] = some y0:=k0
    obtain ⟨m0,q0,o0⟩:=rd_i64 Try.underlying3 k0
    obtain ⟨y1,g1⟩:=hx 1 (by decide)
    have k1 : DataW.trod enc Try.prog W b0 sp hd n 3 (List.take (Try.prog.cellsOf 3) (List.drop 1 [z0,z1,z2,z3,z4,z5,z6,z7,z8,z9,z10,z11,z12,z13,z14,z15,z16,z17,z18,z19])) = some y1:=(hf 1 _ rfl).trans g1
    rw [eC3] at k1
    replace k1 : DataW.trod enc Try.prog W b0 sp hd n 3 [z1] = some y1:=k1
    obtain ⟨m1,q1,o1⟩:=rd_i64 Try.underlying3 k1
    obtain ⟨y2,g2⟩:=hx 2 (by decide)
    have k2 : DataW.trod enc Try.prog W b0 sp hd n 3 (List.take (Try.prog.cellsOf 3) (List.drop 2 [z0,z1,z2,z3,z4,z5,z6,z7,z8,z9,z10,z11,z12,z13,z14,z15,z16,z17,z18,z19])) = some y2:=(hf 2 _ rfl).trans g2
    rw [eC3] at k2
    replace k2 : DataW.trod enc Try.prog W b0 sp hd n 3 [z2] = some y2:=k2
    obtain ⟨m2,q2,o2⟩:=rd_i64 Try.underlying3 k2
    obtain ⟨y3,g3⟩:=hx 3 (by decide)
    have k3 : DataW.trod enc Try.prog W b0 sp hd n 24 (List.take (Try.prog.cellsOf 24) (List.drop 3 [z0,z1,z2,z3,z4,z5,z6,z7,z8,z9,z10,z11,z12,z13,z14,z15,z16,z17,z18,z19])) = some y3:=(hf 3 _ rfl).trans g3
    rw [eC24] at k3
    replace k3 : DataW.trod enc Try.prog W b0 sp hd n 24 [z3,z4,z5] = some y3:=k3
    obtain ⟨m3,q3,o3⟩:=rd24 k3
    unfold GQuestion.enc at q3
    obtain ⟨y4,g4⟩:=hx 4 (by decide)
    have k4 : DataW.trod enc Try.prog W b0 sp hd n 4 (List.take (Try.prog.cellsOf 4) (List.drop 6 [z0,z1,z2,z3,z4,z5,z6,z7,z8,z9,z10,z11,z12,z13,z14,z15,z16,z17,z18,z19])) = some y4:=(hf 4 _ rfl).trans g4
    rw [eC4] at k4
    replace k4 : DataW.trod enc Try.prog W b0 sp hd n 4 [z6] = some y4:=k4
    obtain ⟨m4,q4⟩:=rd_bool Try.underlying4 k4
    obtain ⟨y5,g5⟩:=hx 5 (by decide)
    have k5 : DataW.trod enc Try.prog W b0 sp hd n 25 (List.take (Try.prog.cellsOf 25) (List.drop 7 [z0,z1,z2,z3,z4,z5,z6,z7,z8,z9,z10,z11,z12,z13,z14,z15,z16,z17,z18,z19])) = some y5:=(hf 5 _ rfl).trans g5
    rw [eC25] at k5
    replace k5 : DataW.trod enc Try.prog W b0 sp hd n 25 [z7] = some y5:=k5
    obtain ⟨m5,P0,B0,d0,q5,o5,u0,f0,w0⟩:=rd_split (rd_slice (fun a=>GCached.ok a.1∧GCached.capP a∧GCached.ownP W a) Try.underlying25 eC41 (en:=GCached.encP) (fun _=>rfl) (fun _ _ _ h=>by obtain ⟨m,A0,c0,hm,ho,u0,f0⟩:=rd41 h; exact ⟨(m,⟨A0,c0⟩),hm,ho,u0,f0⟩) k5)
    obtain ⟨y6,g6⟩:=hx 6 (by decide)
    have k6 : DataW.trod enc Try.prog W b0 sp hd n 29 (List.take (Try.prog.cellsOf 29) (List.drop 8 [z0,z1,z2,z3,z4,z5,z6,z7,z8,z9,z10,z11,z12,z13,z14,z15,z16,z17,z18,z19])) = some y6:=(hf 6 _ rfl).trans g6
    rw [eC29] at k6
    replace k6 : DataW.trod enc Try.prog W b0 sp hd n 29 [z8,z9,z10,z11,z12,z13,z14,z15,z16,z17,z18] = some y6:=k6
    obtain ⟨m6,B1,d1,B2,d2,q6,o6,u1,f1,u2,f2⟩:=rd29 k6
    obtain ⟨y7,g7⟩:=hx 7 (by decide)
    have k7 : DataW.trod enc Try.prog W b0 sp hd n 9 (List.take (Try.prog.cellsOf 9) (List.drop 19 [z0,z1,z2,z3,z4,z5,z6,z7,z8,z9,z10,z11,z12,z13,z14,z15,z16,z17,z18,z19])) = some y7:=(hf 7 _ rfl).trans g7
    rw [eC9] at k7
    replace k7 : DataW.trod enc Try.prog W b0 sp hd n 9 [z19] = some y7:=k7
    obtain ⟨m7,q7,o7⟩:=rd_str Try.underlying9 k7
    simp only [List.cons.injEq,and_true] at q0
    subst q0
    simp only [List.cons.injEq,and_true] at q1
    subst q1
    simp only [List.cons.injEq,and_true] at q2
    subst q2
    simp only [List.cons.injEq,and_true] at q3
    obtain ⟨rfl,rfl,rfl⟩:=q3
    simp only [List.cons.injEq,and_true] at q4
    subst q4
    simp only [List.cons.injEq,and_true] at q5
    subst q5
    simp only [List.cons.injEq,and_true] at q6
    obtain ⟨rfl,rfl,rfl,rfl,rfl,rfl,rfl,rfl,rfl,rfl,rfl⟩:=q6
    simp only [List.cons.injEq,and_true] at q7
    subst q7
    exact ⟨⟨m0,m1,m2,m3,m4,m5,m6,m7⟩,B0,d0,P0,B1,d1,B2,d2,rfl,⟨o0,o1,o2,o3,trivial,o5,o6,o7⟩,u0,f0,w0,u1,f1,u2,f2⟩
end Go.Proofs.Ytbaobjcaeaofaaa
