/- Readings of a law's arguments, by their types (a program's text, own work). -/
import Derived.Test.YthpjodfjdnnckaaGreatRD
import Derived.Test.YthpjodfjdnnckaaGreatWCYE
set_option maxRecDepth 100000
set_option linter.unusedVariables false
set_option linter.unusedSimpArgs false
namespace Go.Proofs.YthpjodfjdnnckaaGreat
open Go.ChangeShapes Go.WideShapes Go.ChangeAt Go.RowKit
theorem eC3 : Tryz.prog.cellsOf 3 = 1:=by kernel_rfl
theorem eC9 : Tryz.prog.cellsOf 9 = 1:=by kernel_rfl
theorem eC26 : Tryz.prog.cellsOf 26 = 1:=by kernel_rfl
def GOrder.ok (e : GOrder) : Prop:=((-9223372036854775808) ≤ e.fKind∧e.fKind ≤ 9223372036854775807)∧((-9223372036854775808) ≤ e.fNode∧e.fNode ≤ 9223372036854775807)∧e.fName.size ≤ 9223372036854775807∧e.fText.size ≤ 9223372036854775807∧e.fZone.size ≤ 9223372036854775807∧(e.fHints.length ≤ 9223372036854775807∧∀ a ∈ e.fHints,a.size ≤ 9223372036854775807)
theorem rd32 {H : Type} {enc : TypeId×Value→H} {W : World} {b0 : Nat} {sp : Nat→Bool} {hd : Bool} {fuel : Nat} {cs : List Value} {x : DataW H×List MemPlace} (h : DataW.trod enc Tryz.prog W b0 sp hd fuel 32 cs = some x) : ∃ (m : GOrder) (A0 : Option Addr) (c0 : Nat),cs = [.int .i64 m.fKind,.int .i64 m.fNode,.string m.fName,.string m.fText,.string m.fZone,.slice A0 m.fHints.length c0]∧m.ok∧m.fHints.length ≤ c0∧Cl W A0 (m.fHints.flatMap (fun x : ByteArray=>[Value.string x])):=by
  obtain ⟨xs,n,_,hxs,hl,hlen,hf⟩:=DataW.trod_struct Tryz.underlying32 h
  have hl : cs.length = 6:=hl.trans (by kernel_rfl)
  have hx : ∀ i,i < 6→∃ y,xs[i]? = some y:=fun i hi=>⟨_,List.getElem?_eq_getElem (by rw [hlen]; exact hi)⟩
  match cs,hl with
  | [z0,z1,z2,z3,z4,z5],_=>
    obtain ⟨y0,g0⟩:=hx 0 (by decide)
    have k0 : DataW.trod enc Tryz.prog W b0 sp hd n 3 (List.take (Tryz.prog.cellsOf 3) (List.drop 0 [z0,z1,z2,z3,z4,z5])) = some y0:=(hf 0 _ rfl).trans g0
    rw [eC3] at k0
    replace k0 : DataW.trod enc Tryz.prog W b0 sp hd n 3 [z0] = some y0:=k0
    obtain ⟨m0,q0,o0⟩:=rd_i64 Tryz.underlying3 k0
    obtain ⟨y1,g1⟩:=hx 1 (by decide)
    have k1 : DataW.trod enc Tryz.prog W b0 sp hd n 3 (List.take (Tryz.prog.cellsOf 3) (List.drop 1 [z0,z1,z2,z3,z4,z5])) = some y1:=(hf 1 _ rfl).trans g1
    rw [eC3] at k1
    replace k1 : DataW.trod enc Tryz.prog W b0 sp hd n 3 [z1] = some y1:=k1
    obtain ⟨m1,q1,o1⟩:=rd_i64 Tryz.underlying3 k1
    obtain ⟨y2,g2⟩:=hx 2 (by decide)
    have k2 : DataW.trod enc Tryz.prog W b0 sp hd n 9 (List.take (Tryz.prog.cellsOf 9) (List.drop 2 [z0,z1,z2,z3,z4,z5])) = some y2:=(hf 2 _ rfl).trans g2
    rw [eC9] at k2
    replace k2 : DataW.trod enc Tryz.prog W b0 sp hd n 9 [z2] = some y2:=k2
    obtain ⟨m2,q2,o2⟩:=rd_str Tryz.underlying9 k2
    obtain ⟨y3,g3⟩:=hx 3 (by decide)
    have k3 : DataW.trod enc Tryz.prog W b0 sp hd n 9 (List.take (Tryz.prog.cellsOf 9) (List.drop 3 [z0,z1,z2,z3,z4,z5])) = some y3:=(hf 3 _ rfl).trans g3
    rw [eC9] at k3
    replace k3 : DataW.trod enc Tryz.prog W b0 sp hd n 9 [z3] = some y3:=k3
    obtain ⟨m3,q3,o3⟩:=rd_str Tryz.underlying9 k3
    obtain ⟨y4,g4⟩:=hx 4 (by decide)
    have k4 : DataW.trod enc Tryz.prog W b0 sp hd n 9 (List.take (Tryz.prog.cellsOf 9) (List.drop 4 [z0,z1,z2,z3,z4,z5])) = some y4:=(hf 4 _ rfl).trans g4
    rw [eC9] at k4
    replace k4 : DataW.trod enc Tryz.prog W b0 sp hd n 9 [z4] = some y4:=k4
    obtain ⟨m4,q4,o4⟩:=rd_str Tryz.underlying9 k4
    obtain ⟨y5,g5⟩:=hx 5 (by decide)
    have k5 : DataW.trod enc Tryz.prog W b0 sp hd n 26 (List.take (Tryz.prog.cellsOf 26) (List.drop 5 [z0,z1,z2,z3,z4,z5])) = some y5:=(hf 5 _ rfl).trans g5
    rw [eC26] at k5
    replace k5 : DataW.trod enc Tryz.prog W b0 sp hd n 26 [z5] = some y5:=k5
    obtain ⟨m5,B0,d0,q5,o5,u0,f0⟩:=rd_slice (fun a=>a.size ≤ 9223372036854775807) Tryz.underlying26 eC9 (en:=(fun x : ByteArray=>[Value.string x])) (fun _=>rfl) (fun _ _ _ h=>rd_str Tryz.underlying9 h) k5
    simp only [List.cons.injEq,and_true] at q0
    subst q0
    simp only [List.cons.injEq,and_true] at q1
    subst q1
    simp only [List.cons.injEq,and_true] at q2
    subst q2
    simp only [List.cons.injEq,and_true] at q3
    subst q3
    simp only [List.cons.injEq,and_true] at q4
    subst q4
    simp only [List.cons.injEq,and_true] at q5
    subst q5
    exact ⟨⟨m0,m1,m2,m3,m4,m5⟩,B0,d0,rfl,⟨o0,o1,o2,o3,o4,o5⟩,u0,f0⟩
theorem eC32 : Tryz.prog.cellsOf 32 = 6:=by kernel_rfl
theorem GOrder.agree {W W' : World} {z : GOrder×GOrderP} (hW : ∀ k,k < W.heap.size→W'.heap[k]? = W.heap[k]?) (h : GOrder.ownP W z) : GOrder.ownP W' z:=h.agree hW
end Go.Proofs.YthpjodfjdnnckaaGreat
