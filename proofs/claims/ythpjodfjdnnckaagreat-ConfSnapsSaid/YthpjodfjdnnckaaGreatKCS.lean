/- Readings of a law's arguments, by their types (a program's text, own work). -/
import Derived.Test.YthpjodfjdnnckaaGreatRD
import Derived.Test.YthpjodfjdnnckaaGreatWCSD
set_option maxRecDepth 100000
set_option linter.unusedVariables false
set_option linter.unusedSimpArgs false
namespace Go.Proofs.YthpjodfjdnnckaaGreat
open Go.ChangeShapes Go.WideShapes Go.ChangeAt Go.RowKit
theorem eC3 : Tryz.prog.cellsOf 3 = 1:=by kernel_rfl
theorem eC25 : Tryz.prog.cellsOf 25 = 1:=by kernel_rfl
theorem eC9 : Tryz.prog.cellsOf 9 = 1:=by kernel_rfl
theorem eC26 : Tryz.prog.cellsOf 26 = 1:=by kernel_rfl
def GAnchor.ok (e : GAnchor) : Prop:=e.fName.size ≤ 9223372036854775807∧e.fText.size ≤ 9223372036854775807
theorem rd55 {H : Type} {enc : TypeId×Value→H} {W : World} {b0 : Nat} {sp : Nat→Bool} {hd : Bool} {fuel : Nat} {cs : List Value} {x : DataW H×List MemPlace} (h : DataW.trod enc Tryz.prog W b0 sp hd fuel 55 cs = some x) : ∃ (m : GAnchor),cs = GAnchor.enc m∧m.ok:=by
  obtain ⟨xs,n,_,hxs,hl,hlen,hf⟩:=DataW.trod_struct Tryz.underlying55 h
  have hl : cs.length = 2:=hl.trans (by kernel_rfl)
  have hx : ∀ i,i < 2→∃ y,xs[i]? = some y:=fun i hi=>⟨_,List.getElem?_eq_getElem (by rw [hlen]; exact hi)⟩
  match cs,hl with
  | [z0,z1],_=>
    obtain ⟨y0,g0⟩:=hx 0 (by decide)
    have k0 : DataW.trod enc Tryz.prog W b0 sp hd n 9 (List.take (Tryz.prog.cellsOf 9) (List.drop 0 [z0,z1])) = some y0:=(hf 0 _ rfl).trans g0
    rw [eC9] at k0
    replace k0 : DataW.trod enc Tryz.prog W b0 sp hd n 9 [z0] = some y0:=k0
    obtain ⟨m0,q0,o0⟩:=rd_str Tryz.underlying9 k0
    obtain ⟨y1,g1⟩:=hx 1 (by decide)
    have k1 : DataW.trod enc Tryz.prog W b0 sp hd n 9 (List.take (Tryz.prog.cellsOf 9) (List.drop 1 [z0,z1])) = some y1:=(hf 1 _ rfl).trans g1
    rw [eC9] at k1
    replace k1 : DataW.trod enc Tryz.prog W b0 sp hd n 9 [z1] = some y1:=k1
    obtain ⟨m1,q1,o1⟩:=rd_str Tryz.underlying9 k1
    simp only [List.cons.injEq,and_true] at q0
    subst q0
    simp only [List.cons.injEq,and_true] at q1
    subst q1
    exact ⟨⟨m0,m1⟩,rfl,⟨o0,o1⟩⟩
theorem eC55 : Tryz.prog.cellsOf 55 = 2:=by kernel_rfl
theorem eC27 : Tryz.prog.cellsOf 27 = 1:=by kernel_rfl
def GFlush.ok (e : GFlush) : Prop:=((-9223372036854775808) ≤ e.fEpoch∧e.fEpoch ≤ 9223372036854775807)∧e.fZone.size ≤ 9223372036854775807
theorem rd48 {H : Type} {enc : TypeId×Value→H} {W : World} {b0 : Nat} {sp : Nat→Bool} {hd : Bool} {fuel : Nat} {cs : List Value} {x : DataW H×List MemPlace} (h : DataW.trod enc Tryz.prog W b0 sp hd fuel 48 cs = some x) : ∃ (m : GFlush),cs = GFlush.enc m∧m.ok:=by
  obtain ⟨xs,n,_,hxs,hl,hlen,hf⟩:=DataW.trod_struct Tryz.underlying48 h
  have hl : cs.length = 2:=hl.trans (by kernel_rfl)
  have hx : ∀ i,i < 2→∃ y,xs[i]? = some y:=fun i hi=>⟨_,List.getElem?_eq_getElem (by rw [hlen]; exact hi)⟩
  match cs,hl with
  | [z0,z1],_=>
    obtain ⟨y0,g0⟩:=hx 0 (by decide)
    have k0 : DataW.trod enc Tryz.prog W b0 sp hd n 3 (List.take (Tryz.prog.cellsOf 3) (List.drop 0 [z0,z1])) = some y0:=(hf 0 _ rfl).trans g0
    rw [eC3] at k0
    replace k0 : DataW.trod enc Tryz.prog W b0 sp hd n 3 [z0] = some y0:=k0
    obtain ⟨m0,q0,o0⟩:=rd_i64 Tryz.underlying3 k0
    obtain ⟨y1,g1⟩:=hx 1 (by decide)
    have k1 : DataW.trod enc Tryz.prog W b0 sp hd n 9 (List.take (Tryz.prog.cellsOf 9) (List.drop 1 [z0,z1])) = some y1:=(hf 1 _ rfl).trans g1
    rw [eC9] at k1
    replace k1 : DataW.trod enc Tryz.prog W b0 sp hd n 9 [z1] = some y1:=k1
    obtain ⟨m1,q1,o1⟩:=rd_str Tryz.underlying9 k1
    simp only [List.cons.injEq,and_true] at q0
    subst q0
    simp only [List.cons.injEq,and_true] at q1
    subst q1
    exact ⟨⟨m0,m1⟩,rfl,⟨o0,o1⟩⟩
theorem eC48 : Tryz.prog.cellsOf 48 = 2:=by kernel_rfl
theorem eC28 : Tryz.prog.cellsOf 28 = 1:=by kernel_rfl
def GConf.ok (e : GConf) : Prop:=(e.fRing.length ≤ 9223372036854775807∧∀ a ∈ e.fRing,((-9223372036854775808) ≤ a∧a ≤ 9223372036854775807))∧(e.fHints.length ≤ 9223372036854775807∧∀ a ∈ e.fHints,a.size ≤ 9223372036854775807)∧(e.fAnchors.length ≤ 9223372036854775807∧∀ a ∈ e.fAnchors,GAnchor.ok a)∧((-9223372036854775808) ≤ e.fEpoch∧e.fEpoch ≤ 9223372036854775807)∧(e.fFlushes.length ≤ 9223372036854775807∧∀ a ∈ e.fFlushes,GFlush.ok a)
theorem rd30 {H : Type} {enc : TypeId×Value→H} {W : World} {b0 : Nat} {sp : Nat→Bool} {hd : Bool} {fuel : Nat} {cs : List Value} {x : DataW H×List MemPlace} (h : DataW.trod enc Tryz.prog W b0 sp hd fuel 30 cs = some x) : ∃ (m : GConf) (A0 : Option Addr) (c0 : Nat) (A1 : Option Addr) (c1 : Nat) (A2 : Option Addr) (c2 : Nat) (A3 : Option Addr) (c3 : Nat),cs = [.slice A0 m.fRing.length c0,.slice A1 m.fHints.length c1,.slice A2 m.fAnchors.length c2,.int .i64 m.fEpoch,.slice A3 m.fFlushes.length c3]∧m.ok∧m.fRing.length ≤ c0∧Cl W A0 (m.fRing.flatMap (fun x : Int=>[Value.int .i64 x]))∧m.fHints.length ≤ c1∧Cl W A1 (m.fHints.flatMap (fun x : ByteArray=>[Value.string x]))∧m.fAnchors.length ≤ c2∧Cl W A2 (m.fAnchors.flatMap GAnchor.enc)∧m.fFlushes.length ≤ c3∧Cl W A3 (m.fFlushes.flatMap GFlush.enc):=by
  obtain ⟨xs,n,_,hxs,hl,hlen,hf⟩:=DataW.trod_struct Tryz.underlying30 h
  have hl : cs.length = 5:=hl.trans (by kernel_rfl)
  have hx : ∀ i,i < 5→∃ y,xs[i]? = some y:=fun i hi=>⟨_,List.getElem?_eq_getElem (by rw [hlen]; exact hi)⟩
  match cs,hl with
  | [z0,z1,z2,z3,z4],_=>
    obtain ⟨y0,g0⟩:=hx 0 (by decide)
    have k0 : DataW.trod enc Tryz.prog W b0 sp hd n 25 (List.take (Tryz.prog.cellsOf 25) (List.drop 0 [z0,z1,z2,z3,z4])) = some y0:=(hf 0 _ rfl).trans g0
    rw [eC25] at k0
    replace k0 : DataW.trod enc Tryz.prog W b0 sp hd n 25 [z0] = some y0:=k0
    obtain ⟨m0,B0,d0,q0,o0,u0,f0⟩:=rd_slice (fun a=>((-9223372036854775808) ≤ a∧a ≤ 9223372036854775807)) Tryz.underlying25 eC3 (en:=(fun x : Int=>[Value.int .i64 x])) (fun _=>rfl) (fun _ _ _ h=>rd_i64 Tryz.underlying3 h) k0
    obtain ⟨y1,g1⟩:=hx 1 (by decide)
    have k1 : DataW.trod enc Tryz.prog W b0 sp hd n 26 (List.take (Tryz.prog.cellsOf 26) (List.drop 1 [z0,z1,z2,z3,z4])) = some y1:=(hf 1 _ rfl).trans g1
    rw [eC26] at k1
    replace k1 : DataW.trod enc Tryz.prog W b0 sp hd n 26 [z1] = some y1:=k1
    obtain ⟨m1,B1,d1,q1,o1,u1,f1⟩:=rd_slice (fun a=>a.size ≤ 9223372036854775807) Tryz.underlying26 eC9 (en:=(fun x : ByteArray=>[Value.string x])) (fun _=>rfl) (fun _ _ _ h=>rd_str Tryz.underlying9 h) k1
    obtain ⟨y2,g2⟩:=hx 2 (by decide)
    have k2 : DataW.trod enc Tryz.prog W b0 sp hd n 27 (List.take (Tryz.prog.cellsOf 27) (List.drop 2 [z0,z1,z2,z3,z4])) = some y2:=(hf 2 _ rfl).trans g2
    rw [eC27] at k2
    replace k2 : DataW.trod enc Tryz.prog W b0 sp hd n 27 [z2] = some y2:=k2
    obtain ⟨m2,B2,d2,q2,o2,u2,f2⟩:=rd_slice (fun a=>GAnchor.ok a) Tryz.underlying27 eC55 (en:=GAnchor.enc) (fun _=>rfl) (fun _ _ _ h=>by obtain ⟨m,hm,ho⟩:=rd55 h; exact ⟨m,hm,ho⟩) k2
    obtain ⟨y3,g3⟩:=hx 3 (by decide)
    have k3 : DataW.trod enc Tryz.prog W b0 sp hd n 3 (List.take (Tryz.prog.cellsOf 3) (List.drop 3 [z0,z1,z2,z3,z4])) = some y3:=(hf 3 _ rfl).trans g3
    rw [eC3] at k3
    replace k3 : DataW.trod enc Tryz.prog W b0 sp hd n 3 [z3] = some y3:=k3
    obtain ⟨m3,q3,o3⟩:=rd_i64 Tryz.underlying3 k3
    obtain ⟨y4,g4⟩:=hx 4 (by decide)
    have k4 : DataW.trod enc Tryz.prog W b0 sp hd n 28 (List.take (Tryz.prog.cellsOf 28) (List.drop 4 [z0,z1,z2,z3,z4])) = some y4:=(hf 4 _ rfl).trans g4
    rw [eC28] at k4
    replace k4 : DataW.trod enc Tryz.prog W b0 sp hd n 28 [z4] = some y4:=k4
    obtain ⟨m4,B3,d3,q4,o4,u3,f3⟩:=rd_slice (fun a=>GFlush.ok a) Tryz.underlying28 eC48 (en:=GFlush.enc) (fun _=>rfl) (fun _ _ _ h=>by obtain ⟨m,hm,ho⟩:=rd48 h; exact ⟨m,hm,ho⟩) k4
    simp only [List.cons.injEq,and_true] at q0
    subst q0
    simp only [List.cons.injEq,and_true] at q1
    subst q1
    simp only [List.cons.injEq,and_true] at q2
    subst q2
    simp only [List.cons.injEq,and_true] at q3
    subst q3
    simp only [List.cons.injEq,and_true] at q4
    subst q4
    exact ⟨⟨m0,m1,m2,m3,m4⟩,B0,d0,B1,d1,B2,d2,B3,d3,rfl,⟨o0,o1,o2,o3,o4⟩,u0,f0,u1,f1,u2,f2,u3,f3⟩
end Go.Proofs.YthpjodfjdnnckaaGreat
