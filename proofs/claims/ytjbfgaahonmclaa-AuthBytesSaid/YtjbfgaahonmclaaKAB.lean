/- Readings of a law's arguments, by their types (a program's text, own work). -/
import Derived.Test.YtjbfgaahonmclaaRD
import Derived.Test.YtjbfgaahonmclaaWABD
set_option maxRecDepth 100000
set_option linter.unusedVariables false
set_option linter.unusedSimpArgs false
namespace Go.Proofs.Ytjbfgaahonmclaa
open Go.ChangeShapes Go.WideShapes Go.ChangeAt Go.RowKit
theorem eC9 : Try.prog.cellsOf 9 = 1:=by kernel_rfl
theorem eC22 : Try.prog.cellsOf 22 = 1:=by kernel_rfl
theorem eC40 : Try.prog.cellsOf 40 = 1:=by kernel_rfl
def GRR.ok (e : GRR) : Prop:=e.fName.size ≤ 9223372036854775807∧(0 ≤ e.fType∧e.fType ≤ 65535)∧(0 ≤ e.fClass∧e.fClass ≤ 65535)∧(0 ≤ e.fTTL∧e.fTTL ≤ 4294967295)∧e.fData.size ≤ 9223372036854775807
theorem rd42 {H : Type} {enc : TypeId×Value→H} {W : World} {b0 : Nat} {sp : Nat→Bool} {hd : Bool} {fuel : Nat} {cs : List Value} {x : DataW H×List MemPlace} (h : DataW.trod enc Try.prog W b0 sp hd fuel 42 cs = some x) : ∃ (m : GRR),cs = GRR.enc m∧m.ok:=by
  obtain ⟨xs,n,_,hxs,hl,hlen,hf⟩:=DataW.trod_struct Try.underlying42 h
  have hl : cs.length = 5:=hl.trans (by kernel_rfl)
  have hx : ∀ i,i < 5→∃ y,xs[i]? = some y:=fun i hi=>⟨_,List.getElem?_eq_getElem (by rw [hlen]; exact hi)⟩
  match cs,hl with
  | [z0,z1,z2,z3,z4],_=>
    obtain ⟨y0,g0⟩:=hx 0 (by decide)
    have k0 : DataW.trod enc Try.prog W b0 sp hd n 9 (List.take (Try.prog.cellsOf 9) (List.drop 0 [z0,z1,z2,z3,z4])) = some y0:=(hf 0 _ rfl).trans g0
    rw [eC9] at k0
    replace k0 : DataW.trod enc Try.prog W b0 sp hd n 9 [z0] = some y0:=k0
    obtain ⟨m0,q0,o0⟩:=rd_str Try.underlying9 k0
    obtain ⟨y1,g1⟩:=hx 1 (by decide)
    have k1 : DataW.trod enc Try.prog W b0 sp hd n 22 (List.take (Try.prog.cellsOf 22) (List.drop 1 [z0,z1,z2,z3,z4])) = some y1:=(hf 1 _ rfl).trans g1
    rw [eC22] at k1
    replace k1 : DataW.trod enc Try.prog W b0 sp hd n 22 [z1] = some y1:=k1
    obtain ⟨m1,q1,o1⟩:=rd_u16 Try.underlying22 k1
    obtain ⟨y2,g2⟩:=hx 2 (by decide)
    have k2 : DataW.trod enc Try.prog W b0 sp hd n 22 (List.take (Try.prog.cellsOf 22) (List.drop 2 [z0,z1,z2,z3,z4])) = some y2:=(hf 2 _ rfl).trans g2
    rw [eC22] at k2
    replace k2 : DataW.trod enc Try.prog W b0 sp hd n 22 [z2] = some y2:=k2
    obtain ⟨m2,q2,o2⟩:=rd_u16 Try.underlying22 k2
    obtain ⟨y3,g3⟩:=hx 3 (by decide)
    have k3 : DataW.trod enc Try.prog W b0 sp hd n 40 (List.take (Try.prog.cellsOf 40) (List.drop 3 [z0,z1,z2,z3,z4])) = some y3:=(hf 3 _ rfl).trans g3
    rw [eC40] at k3
    replace k3 : DataW.trod enc Try.prog W b0 sp hd n 40 [z3] = some y3:=k3
    obtain ⟨m3,q3,o3⟩:=rd_u32 Try.underlying40 k3
    obtain ⟨y4,g4⟩:=hx 4 (by decide)
    have k4 : DataW.trod enc Try.prog W b0 sp hd n 9 (List.take (Try.prog.cellsOf 9) (List.drop 4 [z0,z1,z2,z3,z4])) = some y4:=(hf 4 _ rfl).trans g4
    rw [eC9] at k4
    replace k4 : DataW.trod enc Try.prog W b0 sp hd n 9 [z4] = some y4:=k4
    obtain ⟨m4,q4,o4⟩:=rd_str Try.underlying9 k4
    simp only [List.cons.injEq,and_true] at q0
    subst q0
    simp only [List.cons.injEq,and_true] at q1
    subst q1
    simp only [List.cons.injEq,and_true] at q2
    subst q2
    simp only [List.cons.injEq,and_true] at q3
    subst q3
    simp only [List.cons.injEq,and_true] at q4
    subst q4
    exact ⟨⟨m0,m1,m2,m3,m4⟩,rfl,⟨o0,o1,o2,o3,o4⟩⟩
theorem eC42 : Try.prog.cellsOf 42 = 5:=by kernel_rfl
theorem eC24 : Try.prog.cellsOf 24 = 1:=by kernel_rfl
def GZone.ok (e : GZone) : Prop:=e.fApex.size ≤ 9223372036854775807∧(e.fRecords.length ≤ 9223372036854775807∧∀ a ∈ e.fRecords,GRR.ok a)
theorem rd33 {H : Type} {enc : TypeId×Value→H} {W : World} {b0 : Nat} {sp : Nat→Bool} {hd : Bool} {fuel : Nat} {cs : List Value} {x : DataW H×List MemPlace} (h : DataW.trod enc Try.prog W b0 sp hd fuel 33 cs = some x) : ∃ (m : GZone) (A0 : Option Addr) (c0 : Nat),cs = [.string m.fApex,.slice A0 m.fRecords.length c0]∧m.ok∧m.fRecords.length ≤ c0∧Cl W A0 (m.fRecords.flatMap GRR.enc):=by
  obtain ⟨xs,n,_,hxs,hl,hlen,hf⟩:=DataW.trod_struct Try.underlying33 h
  have hl : cs.length = 2:=hl.trans (by kernel_rfl)
  have hx : ∀ i,i < 2→∃ y,xs[i]? = some y:=fun i hi=>⟨_,List.getElem?_eq_getElem (by rw [hlen]; exact hi)⟩
  match cs,hl with
  | [z0,z1],_=>
    obtain ⟨y0,g0⟩:=hx 0 (by decide)
    have k0 : DataW.trod enc Try.prog W b0 sp hd n 9 (List.take (Try.prog.cellsOf 9) (List.drop 0 [z0,z1])) = some y0:=(hf 0 _ rfl).trans g0
    rw [eC9] at k0
    replace k0 : DataW.trod enc Try.prog W b0 sp hd n 9 [z0] = some y0:=k0
    obtain ⟨m0,q0,o0⟩:=rd_str Try.underlying9 k0
    obtain ⟨y1,g1⟩:=hx 1 (by decide)
    have k1 : DataW.trod enc Try.prog W b0 sp hd n 24 (List.take (Try.prog.cellsOf 24) (List.drop 1 [z0,z1])) = some y1:=(hf 1 _ rfl).trans g1
    rw [eC24] at k1
    replace k1 : DataW.trod enc Try.prog W b0 sp hd n 24 [z1] = some y1:=k1
    obtain ⟨m1,B0,d0,q1,o1,u0,f0⟩:=rd_slice (fun a=>GRR.ok a) Try.underlying24 eC42 (en:=GRR.enc) (fun _=>rfl) (fun _ _ _ h=>by obtain ⟨m,hm,ho⟩:=rd42 h; exact ⟨m,hm,ho⟩) k1
    simp only [List.cons.injEq,and_true] at q0
    subst q0
    simp only [List.cons.injEq,and_true] at q1
    subst q1
    exact ⟨⟨m0,m1⟩,B0,d0,rfl,⟨o0,o1⟩,u0,f0⟩
theorem eC33 : Try.prog.cellsOf 33 = 2:=by kernel_rfl
theorem GZone.agree {W W' : World} {z : GZone×GZoneP} (hW : ∀ k,k < W.heap.size→W'.heap[k]? = W.heap[k]?) (h : GZone.ownP W z) : GZone.ownP W' z:=h.agree hW
end Go.Proofs.Ytjbfgaahonmclaa
