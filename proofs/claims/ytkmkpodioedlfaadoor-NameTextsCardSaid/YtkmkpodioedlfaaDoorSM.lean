/- Maps of the call's own, as rows (own work): reads, stores, making. -/
import Derived.Test.YtkmkpodioedlfaaDoorSY
import Derived.Maps.Keyed
import Derived.Carry
set_option linter.unusedVariables false
set_option linter.unusedSimpArgs false
set_option linter.unusedSectionVars false
namespace Go.Proofs.YtkmkpodioedlfaaDoor
open Go.RowKit Go.Proofs.YtkmkpodioedlfaaDoorW.PrintLast
/-- May all keys of a map be, each once? -/
def okM {K V : Type} (ok : K → Bool) (l : List (K × V)) : Prop := (∀ e ∈ l, ok e.1 = true) ∧ (l.map (·.1)).Nodup
instance {K V : Type} [DecidableEq K] (ok : K → Bool) (l : List (K × V)) : Decidable (okM ok l) := by unfold okM; infer_instance
section
variable {K V : Type} [DecidableEq K] {ok : K → Bool} {z v : V} {l l2 : List (K × V)} {k : K} {kenc : K → Value} {venc : V → Value}
end
section
variable {P : Program} {ops : Array Oper} {Q : Exit → Act → World → Prop} {N : FS} {d : Nat} {rest : List Oper} {σ : Fr} {S Sh : Sta} {ty t kt et : TypeId} {pos : String} {af : Array Edge} {x y : Operand} {w0 : World} {M : Nat → Prop} {H : List (Nat × Nat × Obj)} {R : List (Nat × Row)} {φ : World → Prop} {ds : List Nat} {fuel i tag : Nat} {la : Array Bool}
  {K V : Type} [DecidableEq K] {kenc : K → Value} {venc : V → Value} {ok : K → Bool} {z v : V} {l l2 : List (K × V)} {k : K} {A : Option Addr} {e sz n n2 : Nat}
/-! ### What comes to no value -/
def Skp (P : Program) (σ : Fr) (S : Sta) (op : Op) (ty : TypeId) (S' : Sta) : Prop := ∀ W, S.ok W → ∃ W1, (execOp (ev σ) ⟨none, op, ty, "", #[], none⟩).run P W = .ok .skip W1 ∧ S'.ok W1
theorem ga_sL {op : Op} {S' : Sta} (l' : Array Bool) (hi : ops[i]? = some ⟨none, op, ty, pos, af, none⟩) (hc : readyB .any ops la l' i = true) (hd : i ∈ ds) (E : Skp P σ S op ty S')
    (h : GZ P ops Q N Sh ds fuel l' σ S') : GA P ops Q N Sh ds (fuel + 1) la σ S := by
  intro a W ha hS hSh
  refine last_ (S := Sh.ok) l' hi rfl hc hd fun K hK => ?_
  obtain ⟨W1, hrun, hS1⟩ := E W hS
  rw [if_pos (by simp [Region.wanted])]
  unfold Oper.wp
  have hrun' : (execOp (ev σ) ⟨none, op, ty, pos, af, none⟩).run P W = .ok .skip W1 := hrun
  rw [ha.ev, hrun', Oper.upon_skip]
  exact hK.out _ _ (h a _ ha hS1)
theorem gz_sL {op : Op} {S' : Sta} (l' : Array Bool) (hi : ops[i]? = some ⟨none, op, ty, pos, af, none⟩) (hc : readyB .any ops la l' i = true) (hd : i ∈ ds) (E : Skp P σ S op ty S')
    (h : GZ P ops Q N Sh ds fuel l' σ S') : GZ P ops Q N Sh ds (fuel + 1) la σ S := by
  intro a W ha hS
  refine last_ (S := Sh.ok) l' hi rfl hc hd fun K hK => ?_
  obtain ⟨W1, hrun, hS1⟩ := E W hS
  rw [if_pos (by simp [Region.wanted])]
  unfold Oper.wp
  have hrun' : (execOp (ev σ) ⟨none, op, ty, pos, af, none⟩).run P W = .ok .skip W1 := hrun
  rw [ha.ev, hrun', Oper.upon_skip]
  exact hK.out _ _ (h a _ ha hS1)
/-- A store into an own row, as an event. -/
theorem e_stR {α : Type} {enc : α → List Value} {l l' : List α} {i : Int} {v' : α} {A : Option Addr} {ad : Addr} {cc off sz tag e : Nat} {w : Value} {vs : List Value} {va : α}
    (hx : ev σ x = .pointer (some ((ad.add (i.toNat * sz)).add off))) (hA : A = some ad) (hy : ev σ y = w) (hvs : w.cells.toList = vs) (hat : at_ l i = some va) (hset : setAt l i v' = some l') (hev : enc v' = (enc va).take off ++ vs ++ (enc va).drop (off + vs.length)) (ho : off + vs.length ≤ sz) (hsz : ∀ a, (enc a).length = sz) (h1 : one1 vs = true)
    (hR : fR tag R = some ⟨.slice A l.length cc, e, sz, l.length, l.flatMap enc⟩) (hst : ∀ W, (sizeOf t).run P W = .ok vs.length W) :
    Skp P σ (Sta.mk w0 M H R φ) (.store t x y) ty ⟨w0, M, H, uR tag ⟨.slice A l'.length cc, e, sz, l'.length, l'.flatMap enc⟩ R, φ⟩ := stR_run hx hA hy hvs hat hset hev ho hsz h1 hR hst
theorem gz_know {l : Array Bool} (p : Prop) (hp : ∀ W, S.ok W → p) (h : p → GZ P ops Q N Sh ds fuel l σ S) : GZ P ops Q N Sh ds fuel l σ S := fun a W ha hS => h (hp W hS) a W ha hS
end
end Go.Proofs.YtkmkpodioedlfaaDoor
