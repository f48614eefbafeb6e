/-
  A small calculus for walks: regions that draw their order (own work, over the printed words).
-/
import Derived.Test.YtkmkpodioedlfaaDoorSP
import Derived.Test.YtkmkpodioedlfaaDoorWT
set_option linter.unusedVariables false
set_option linter.unusedSimpArgs false
namespace Go.Proofs.YtkmkpodioedlfaaDoor
open Go.RowKit Go.Proofs.YtkmkpodioedlfaaDoorW.PrintLast
/-- The first n bits of a number, as flags. -/
def bl : Nat → Nat → List Bool
  | 0, _ => []
  | n + 1, k => (k % 2 == 1) :: bl n (k / 2)
def bz (n k : Nat) : Array Bool := ⟨bl n k⟩
section
variable {P : Program} {ops : Array Oper} {Q : Exit → Act → World → Prop} {N : FS} {σ : Fr} {S Sh : Sta} {ds : List Nat} {fuel : Nat} {l : Array Bool}
def GA (P : Program) (ops : Array Oper) (Q : Exit → Act → World → Prop) (N : FS) (Sh : Sta) (ds : List Nat) (fuel : Nat) (l : Array Bool) (σ : Fr) (S : Sta) : Prop :=
  ∀ a W, Okf a σ N → S.ok W → Sh.ok W → wpAnyLast P .any ops Q Sh.ok ds fuel l a W
/-- The same, behind an operation of ds. -/
def GZ (P : Program) (ops : Array Oper) (Q : Exit → Act → World → Prop) (N : FS) (Sh : Sta) (ds : List Nat) (fuel : Nat) (l : Array Bool) (σ : Fr) (S : Sta) : Prop :=
  ∀ a W, Okf a σ N → S.ok W → wpAnyLast P .any ops Q Sh.ok ds fuel l a W
theorem ga_start {id n : Nat} (Sh : Sta) (ds : List Nat) (l : Array Bool) (hh : ∀ W, S.ok W → Sh.ok W) (hm : P.follows .mixedOrders = true) (hn : ops.size = n) (hl : Array.replicate n false = l) (h : GA P ops Q N Sh ds n l σ S) :
    CC P Q N (.region id ops true) σ S := fun a W ha hS => start_ l hm hn hl (hh _ hS.drew) fun hSh => h a _ ha hS.drew hSh
theorem ga_v {i d : Nat} {op : Op} {ty : TypeId} {pos : String} {af : Array Edge} {v : Value} (l' : Array Bool) (hi : ops[i]? = some ⟨some d, op, ty, pos, af, none⟩) (hc : takeB .any ops ds l l' i = true)
    (hQ : ∀ c a v w, Q (.panic c) (Act.put a (some d) v) w → Q (.panic c) a w) (hN : Nat.blt d N = true) (r : Rn P σ Sh op ty v) (h : GA P ops Q N Sh ds fuel l' (up σ d v) S) : GA P ops Q N Sh ds (fuel + 1) l σ S :=
  fun a W ha hS hSh => take_ (S := Sh.ok) l' hi rfl hc (fun c a w => hQ c a v w) (.inl ⟨by simp [Region.wanted], fun w hw => by rw [ha.ev]; exact r w hw⟩) hSh rfl (h _ W (ha.put hN) hS hSh)
theorem wanted_at {a : Act} {j t d : Nat} {b p : Bool} {oj : Oper} {op : Op} {ty : TypeId} {pos : String} {af : Array Edge} (ha : Okf a σ N) (hj : ops[j]? = some oj) (ht : oj.dst = some t) (htN : Nat.blt t N = true) (hv : σ t = .bool p) :
    Region.wanted ⟨some d, op, ty, pos, af, some (j, b)⟩ (yielded ops a.tmps) = (p == b) := by
  have hlt : t < a.tmps.size := by rw [ha.sz]; exact Nat.le_of_ble_eq_true htN
  have hat : a.tmps[t]? = some (.bool p) := by
    have := ha.at_ t
    rw [Array.getD_eq_getD_getElem?, Array.getElem?_eq_getElem hlt, hv] at this
    rw [Array.getElem?_eq_getElem hlt]
    exact congrArg some this
  have hy : yielded ops a.tmps j = some p := by simp [yielded, hj, ht, hat]
  simp [Region.wanted, hy]
theorem ga_do {i j d t : Nat} {b p : Bool} {oj : Oper} {op : Op} {ty : TypeId} {pos : String} {af : Array Edge} {v : Value} (l' : Array Bool) (hi : ops[i]? = some ⟨some d, op, ty, pos, af, some (j, b)⟩) (hc : takeB .any ops ds l l' i = true)
    (hQ : ∀ c a v w, Q (.panic c) (Act.put a (some d) v) w → Q (.panic c) a w) (hN : Nat.blt d N = true) (hj : ops[j]? = some oj) (ht : oj.dst = some t) (htN : Nat.blt t N = true) (hv : σ t = .bool p) (hp : p = b)
    (r : Rn P σ Sh op ty v) (h : GA P ops Q N Sh ds fuel l' (up σ d v) S) : GA P ops Q N Sh ds (fuel + 1) l σ S :=
  fun a W ha hS hSh => take_ (S := Sh.ok) l' hi rfl hc (fun c a w => hQ c a v w) (.inl ⟨by rw [wanted_at ha hj ht htN hv, hp]; cases b <;> rfl, fun w hw => by rw [ha.ev]; exact r w hw⟩) hSh rfl (h _ W (ha.put hN) hS hSh)
theorem ga_no {i j d t : Nat} {b p : Bool} {oj : Oper} {op : Op} {ty : TypeId} {pos : String} {af : Array Edge} (l' : Array Bool) (hi : ops[i]? = some ⟨some d, op, ty, pos, af, some (j, b)⟩) (hc : takeB .any ops ds l l' i = true)
    (hQ : ∀ c a v w, Q (.panic c) (Act.put a (some d) v) w → Q (.panic c) a w) (hN : Nat.blt d N = true) (hj : ops[j]? = some oj) (ht : oj.dst = some t) (htN : Nat.blt t N = true) (hv : σ t = .bool p) (hp : p = !b)
    (h : GA P ops Q N Sh ds fuel l' (up σ d undef) S) : GA P ops Q N Sh ds (fuel + 1) l σ S :=
  fun a W ha hS hSh => take_ (S := Sh.ok) l' hi rfl hc (fun c a w => hQ c a undef w) (.inr ⟨by rw [wanted_at ha hj ht htN hv, hp]; cases b <;> rfl, rfl⟩) hSh rfl (h _ W (ha.put hN) hS hSh)
/-- A guard that is not decided. -/
theorem ga_if {p : Bool} {t : Nat} (hv : σ t = .bool p) (h1 : p = true → GA P ops Q N Sh ds fuel l σ S) (h0 : p = false → GA P ops Q N Sh ds fuel l σ S) : GA P ops Q N Sh ds fuel l σ S := by
  cases p
  · exact h0 rfl
  · exact h1 rfl
/-- A copy, taken before what is not waited for. -/
theorem ga_p {i d : Nat} {op : Op} {x : Operand} {ty : TypeId} {pos : String} {af : Array Edge} (l' : Array Bool) (hi : ops[i]? = some ⟨some d, op, ty, pos, af, none⟩) (hop : op = .move x ∨ op = .assign x) (hc : anyB .any ops l l' i = true)
    (hQ : ∀ c a v w, Q (.panic c) (Act.put a (some d) v) w → Q (.panic c) a w) (hN : Nat.blt d N = true) (h : GA P ops Q N Sh ds fuel l' (up σ d (ev σ x)) S) : GA P ops Q N Sh ds (fuel + 1) l σ S :=
  fun a W ha hS hSh => pure_ (S := Sh.ok) l' hi rfl hc (fun c a w => hQ c a _ w) (.inl ⟨by simp [Region.wanted], fun w => by rw [ha.ev]; rcases hop with rfl | rfl <;> simp [execOp]⟩) rfl (h _ W (ha.put hN) hS hSh)
/-- A read behind the store, alone. -/
theorem gz_v {i d : Nat} {op : Op} {ty : TypeId} {pos : String} {af : Array Edge} {v : Value} (l' : Array Bool) (hi : ops[i]? = some ⟨some d, op, ty, pos, af, none⟩) (hc : readyB .any ops l l' i = true) (hd : i ∈ ds) (hN : Nat.blt d N = true)
    (r : Rn P σ S op ty v) (h : GZ P ops Q N Sh ds fuel l' (up σ d v) S) : GZ P ops Q N Sh ds (fuel + 1) l σ S := by
  intro a W ha hS
  refine last_ (S := Sh.ok) l' hi rfl hc hd fun K hK => ?_
  rw [if_pos (by simp [Region.wanted])]
  unfold Oper.wp
  have hrun : (execOp (ev σ) ⟨some d, op, ty, pos, af, none⟩).run P W = .ok (.value v) W := r W hS
  rw [ha.ev, hrun, Oper.upon_value]
  exact hK.out _ _ (h _ W (ha.put hN) hS)
theorem ga_done (hr : (Region.ready .any ops l == []) = true) (h : DD Q N .normal σ S) : GA P ops Q N Sh ds fuel l σ S := fun a W ha hS _ => done_ hr (h a W ha hS)
theorem gz_done (hr : (Region.ready .any ops l == []) = true) (h : DD Q N .normal σ S) : GZ P ops Q N Sh ds fuel l σ S := fun a W ha hS => done_ hr (h a W ha hS)
end
theorem mixed : Tryd.prog.follows .mixedOrders = true := by kernel_rfl
end Go.Proofs.YtkmkpodioedlfaaDoor
