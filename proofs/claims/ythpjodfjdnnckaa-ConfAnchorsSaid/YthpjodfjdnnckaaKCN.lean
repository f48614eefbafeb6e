/- Readings of a law's arguments, by their types (a program's text, own work). -/
import Derived.Test.YthpjodfjdnnckaaRD
import Derived.Test.YthpjodfjdnnckaaWCNB
set_option maxRecDepth 100000
set_option linter.unusedVariables false
set_option linter.unusedSimpArgs false
namespace Go.Proofs.Ythpjodfjdnnckaa
open Go.ChangeShapes Go.WideShapes Go.ChangeAt Go.RowKit
theorem eC9 : Try.prog.cellsOf 9 = 1:=by kernel_rfl
def GAnchor.ok (e : GAnchor) : Prop:=e.fName.size ≤ 9223372036854775807∧e.fText.size ≤ 9223372036854775807
theorem rd43 {H : Type} {enc : TypeId×Value→H} {W : World} {b0 : Nat} {sp : Nat→Bool} {hd : Bool} {fuel : Nat} {cs : List Value} {x : DataW H×List MemPlace} (h : DataW.trod enc Try.prog W b0 sp hd fuel 43 cs = some x) : ∃ (m : GAnchor),cs = GAnchor.enc m∧m.ok:=by
  obtain ⟨xs,n,_,hxs,hl,hlen,hf⟩:=DataW.trod_struct Try.underlying43 h
  have hl : cs.length = 2:=hl.trans (by kernel_rfl)
  have hx : ∀ i,i < 2→∃ y,xs[i]? = some y:=fun i hi=>⟨_,List.getElem?_eq_getElem (by rw [hlen]; exact hi)⟩
  match cs,hl with
  | [z0,z1],_=>
    obtain ⟨y0,g0⟩:=hx 0 (by decide)
    have k0 : DataW.trod enc Try.prog W b0 sp hd n 9 (List.take (Try.prog.cellsOf 9) (List.drop 0 [z0,z1])) = some y0:=(hf 0 _ rfl).trans g0
    rw [eC9] at k0
    replace k0 : DataW.trod enc Try.prog W b0 sp hd n 9 [z0] = some y0:=k0
    obtain ⟨m0,q0,o0⟩:=rd_str Try.underlying9 k0
    obtain ⟨y1,g1⟩:=hx 1 (by decide)
    have k1 : DataW.trod enc Try.prog W b0 sp hd n 9 (List.take (Try.prog.cellsOf 9) (List.drop 1 [z0,z1])) = some y1:=(hf 1 _ rfl).trans g1
    rw [eC9] at k1
    replace k1 : DataW.trod enc Try.prog W b0 sp hd n 9 [z1] = some y1:=k1
    obtain ⟨m1,q1,o1⟩:=rd_str Try.underlying9 k1
    simp only [List.cons.injEq,and_true] at q0
    subst q0
    simp only [List.cons.injEq,and_true] at q1
    subst q1
    exact ⟨⟨m0,m1⟩,rfl,⟨o0,o1⟩⟩
theorem eC43 : Try.prog.cellsOf 43 = 2:=by kernel_rfl
end Go.Proofs.Ythpjodfjdnnckaa
