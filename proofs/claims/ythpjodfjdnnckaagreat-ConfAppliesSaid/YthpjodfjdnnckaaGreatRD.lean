/- Readings of arguments, as models (own work). -/
import Derived.Test.YthpjodfjdnnckaaGreatSX
import Derived.OpenShut
import Derived.ChangeOld
import Derived.ShutString
import Derived.Deep.Slices
import Derived.Deep.Strs
import Derived.Laws.IdiomArrays
import Derived.Lib.SmallJoins
import Derived.DataShut
set_option maxRecDepth 100000
set_option linter.unusedVariables false
set_option linter.unusedSimpArgs false
namespace Go.Proofs.YthpjodfjdnnckaaGreat
open Go.ChangeShapes Go.WideShapes Go.ChangeAt Go.RowKit
section
variable {H : Type} {enc : TypeId×Value→H} {P : Program} {W : World} {r : Reach} {base b0 : Nat} {sp : Nat→Bool} {hd : Bool} {v : Value} {d : DataW H} {p : List MemPlace} {t e : TypeId} {fuel : Nat} {cs : List Value} {x : DataW H×List MemPlace}
theorem Cl.app2 {A : Addr} {xs ys : List Value} (h : Cl W (some A) xs) (h2 : Cl W (some (A.add xs.length)) ys) : Cl W (some A) (xs++ys):=fun j u hj=>by
  refine ⟨_,rfl,?_⟩
  rcases Nat.lt_or_ge j xs.length with hl | hl
  · rw [List.getElem?_append_left hl] at hj
    exact h.cells j u hj
  · rw [List.getElem?_append_right hl] at hj
    have:=h2.cells _ u hj
    rwa [add_add,show xs.length + (j - xs.length) = j by omega] at this
theorem Cl.agree {W' : World} {A : Option Addr} {cs : List Value} (h : Cl W A cs) (hW : ∀ k,k < W.heap.size→W'.heap[k]? = W.heap[k]?) : Cl W' A cs:=fun j u hj=>by
  obtain ⟨ad,e,hc⟩:=h j u hj
  refine ⟨ad,e,?_⟩
  have hlt : (ad.add j).block < W.heap.size:=by
    by_cases hb : (ad.add j).block < W.heap.size
    · exact hb
    · simp [World.cell?,Array.getElem?_eq_none (Nat.le_of_not_lt hb)] at hc
  rw [World.cell?_of_block (hW _ hlt)]
  exact hc
theorem cl_range {α : Type} {en : α→List Value} {sz : Nat} (hsz : ∀ a,(en a).length = sz) {A : Addr} (E : Nat→α) : ∀ n,(∀ i,i < n→Cl W (some (A.add (i * sz))) (en (E i)))→Cl W (some A) (((List.range n).map E).flatMap en)
  | 0,_=>Cl.nil _ _
  | n + 1,h=>by
    rw [List.range_succ,List.map_append,List.flatMap_append]
    refine (cl_range hsz E n fun i hi=>h i (by omega)).app2 ?_
    rw [fm_length hsz,List.length_map,List.length_range]
    have:=h n (by omega)
    simpa using this
theorem rd_int {k : IntKind} (hu : P.underlying t = some (.int k)) (h : DataW.trod enc P W b0 sp hd fuel t cs = some x) : ∃ n,cs = [.int k n]∧k.min ≤ n∧n ≤ k.max:=by
  obtain ⟨n,h1,_,h2⟩:=DataW.trod_int hu h
  exact ⟨n,h1,(Lit.wf_int_iff k n).1 h2⟩
theorem rd_i64 (hu : P.underlying t = some (.int .i64)) (h : DataW.trod enc P W b0 sp hd fuel t cs = some x) : ∃ n,cs = [.int .i64 n]∧(-9223372036854775808) ≤ n∧n ≤ 9223372036854775807:=rd_int hu h
theorem rd_str (hu : P.underlying t = some .string) (h : DataW.trod enc P W b0 sp hd fuel t cs = some x) : ∃ s : ByteArray,cs = [.string s]∧s.size ≤ 9223372036854775807:=by
  obtain ⟨n,h1,_,h2⟩:=DataW.trod_string hu h
  exact ⟨n,h1,h2⟩
theorem rd_slice {α : Type} {en : α→List Value} (ok : α→Prop) {sz : Nat} (hu : P.underlying t = some (.slice e)) (hcell : P.cellsOf e = sz) (hsz : ∀ a,(en a).length = sz)
    (hel : ∀ fuel cs x,DataW.trod enc P W b0 sp hd fuel e cs = some x→∃ m,cs = en m∧ok m) (h : DataW.trod enc P W b0 sp hd fuel t cs = some x) :
    ∃ (l : List α) (A : Option Addr) (c : Nat),cs = [.slice A l.length c]∧(l.length ≤ 9223372036854775807∧∀ a ∈ l,ok a)∧l.length ≤ c∧Cl W A (l.flatMap en):=by
  rcases Go.Deep.open_slice hu h with ⟨h0,_⟩ | ⟨a,len,cap,m,k,D,Pl,hcs,_,hl,hcm,hm,_,hx⟩
  · exact ⟨[],none,0,h0,⟨Nat.zero_le _,fun a ha=>by cases ha⟩,Nat.le_refl _,Cl.nil _ _⟩
  · have hE : ∀ i,i < len→∃ b : α,Cl W (some (a.add (i * sz))) (en b)∧ok b:=fun i hi=>by
      obtain ⟨cs',h1,h2⟩:=hx i (by rw [hm]; split <;> omega)
      obtain ⟨b,rfl,hok⟩:=hel _ _ _ h2
      rw [hcell] at h1
      obtain ⟨_,h3,h4⟩:=World.cells?_some h1
      exact ⟨b,fun j u hj=>⟨_,rfl,by rw [h4 j (by have:=(List.getElem?_eq_some_iff.1 hj).1; rw [h3] at this; exact this)]; exact hj⟩,hok⟩
    by_cases h0 : len = 0
    · subst h0
      exact ⟨[],some a,cap,hcs,⟨Nat.zero_le _,fun a ha=>by cases ha⟩,Nat.zero_le _,Cl.nil _ _⟩
    · obtain ⟨b0,_⟩:=hE 0 (by omega)
      let E : Nat→α:=fun i=>if hi : i < len then Classical.choose (hE i hi) else b0
      have hEs : ∀ i,i < len→Cl W (some (a.add (i * sz))) (en (E i))∧ok (E i):=fun i hi=>by
        show Cl W (some (a.add (i * sz))) (en (if hi : i < len then Classical.choose (hE i hi) else b0))∧ok (if hi : i < len then Classical.choose (hE i hi) else b0)
        rw [dif_pos hi]; exact Classical.choose_spec (hE i hi)
      refine ⟨(List.range len).map E,some a,cap,by simpa using hcs,⟨by simp; exact Nat.le_trans hl hcm,fun b hb=>?_⟩,by simpa using hl,cl_range hsz E len fun i hi=>(hEs i hi).1⟩
      obtain ⟨i,hi,rfl⟩:=List.mem_map.1 hb
      exact (hEs i (List.mem_range.1 hi)).2
theorem con_top {ι : Type} {f : FuncId} {args : Array Value} {rv : ι→Value} {pure : ι→Prop} {φ : World→Prop} {S' : ι→Sta} (hF : ∀ W',(∀ k,k < W.heap.size→W'.heap[k]? = W.heap[k]?)→φ W') (hS' : ∀ x,(S' x).w0 = W) (h : Cn P f args ⟨W,fun _=>False,[],[],φ⟩ rv pure S') : Con P f args W (fun _=>False) rv pure (fun _ _=>True):=
  con_of_cn (fun _ h=>h.elim) ⟨fun _ h=>h.elim,fun W' hW=>hF W' fun k hk=>hW k hk (fun h=>h)⟩ hS' h
end
end Go.Proofs.YthpjodfjdnnckaaGreat
