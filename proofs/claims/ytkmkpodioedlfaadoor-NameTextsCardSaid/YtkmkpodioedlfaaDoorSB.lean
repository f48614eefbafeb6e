/- More operations: places of arrays, slice literals, rows made whole, and two ways through code: meeting again behind a branch, and rounds one by one. -/
import Derived.Test.YtkmkpodioedlfaaDoorSP
import Derived.LoopN
import Derived.Great.Walk
import Derived.Laws.OwnMore
set_option linter.unusedVariables false
set_option linter.unusedSimpArgs false
namespace Go.Proofs.YtkmkpodioedlfaaDoor
open Go.RowKit
section
variable {P : Program} {ops : Array Oper} {Q : Exit → Act → World → Prop} {N : FS} {d : Nat} {σ : Fr} {S : Sta} {rest : List Oper} {ty t : TypeId} {pos : String} {af : Array Edge} {x y : Operand} {k : IntKind}
theorem nilR {w0 : World} {M : Nat → Prop} {H : List (Nat × Nat × Obj)} {R : List (Nat × Row)} {φ : World → Prop} {W : World} (hS : (Sta.mk w0 M H R φ).ok W) (tag e sz : Nat) : (Sta.mk w0 M H ((tag, ⟨.slice none 0 0, e, sz, 0, []⟩) :: R) φ).ok W :=
  hS.newR (o' := ⟨.slice none 0 0, e, sz, 0, []⟩) (Below.refl _ _) (World.ownsRow_nil W _ e sz) (fun k hk => by simp [vblk, Value.ownBlock] at hk)
theorem rowOf {tag : Nat} {r : Row} {W : World} (hS : S.ok W) (hR : fR tag S.R = some r) : World.held W S.w0.heap.size r.e r.sz r.v r.n r.xs := by
  obtain ⟨l, m, h1, _, _⟩ := uR_split (o' := r) hR
  exact hS.rows (tag, r) (by rw [h1]; simp)
theorem rowCl {tag n c e sz : Nat} {A : Option Addr} {xs : List Value} (hR : fR tag S.R = some ⟨.slice A n c, e, sz, n, xs⟩) (W : World) (hS : S.ok W) : Cl W A xs := own_cl (rowOf hS hR) (fun _ _ => rfl)
/-- string(b). -/
theorem r_text {A : Option Addr} {n c : Nat} {t' e : TypeId} {xs : List Int} (hs : P.underlying t = some (.slice e)) (he : P.underlying e = some (.int .u8)) (hd : P.underlying t' = some .string) (hx : ev σ x = .slice A n c) (hl : xs.length = n) (hc : ∀ W, S.ok W → Cl W A (xs.map (Value.int .u8))) : Rn P σ S (.convert t t' x) ty (.string (strOfNums xs)) :=
  fun W hS => by
    have hcl := hc W hS
    cases A with
    | none =>
      have hx0 : xs = [] := by
        cases xs with
        | nil => rfl
        | cons a r => obtain ⟨_, e, _⟩ := hcl 0 (.int .u8 a) rfl; cases e
      subst hx0
      have := run_convert_bytes_nil (P := P) W t e hs he n c t' hd
      simp [execOp, hx, this, strOfNums, ByteArray.empty, ByteArray.emptyWithCapacity]
      rfl
    | some ad =>
      have hl' : (loadCells ad n).run P W = .ok (xs.map (Value.int .u8)).toArray W := by
        have := run_loadCells_list (P := P) W ad (xs.map (Value.int .u8)) hcl.cells
        simpa [hl] using this
      have hr : (convert t t' (.slice (some ad) n c)).run P W = .ok (.string (strOfNums xs)) W := by
        rw [run_convert_bytes_string W t t' e _ n c hs he hd, run_bytesToString W ad n c xs hl', foldl_push_bytes]
        simp [strOfNums, ByteArray.empty, ByteArray.emptyWithCapacity]
        rfl
      simp [execOp, hx, hr]
/-- What holds of the state, whatever the world is. -/
theorem c_know {c : Code} (p : Prop) (hp : ∀ W, S.ok W → p) (h : p → CC P Q N c σ S) : CC P Q N c σ S := fun a W ha hS => h (hp W hS) a W ha hS
theorem g_know (p : Prop) (hp : ∀ W, S.ok W → p) (h : p → G P ops Q N rest σ S) : G P ops Q N rest σ S := fun a W ha hS => h (hp W hS) a W ha hS
theorem d_know {e : Exit} (p : Prop) (hp : ∀ W, S.ok W → p) (h : p → DD Q N e σ S) : DD Q N e σ S := fun a W ha hS => h (hp W hS) a W ha hS
/-! ### Frames told anew, so that they stay short -/
def AllV (σ : Fr) : List (Nat × Value) → Prop
  | [] => True
  | (t, v) :: r => σ t = v ∧ AllV σ r
theorem up_self {σ : Fr} {d : Nat} {v : Value} (h : σ d = v) : up σ d v = σ := by
  funext t
  unfold up
  cases hb : Nat.beq t d
  · rfl
  · have := Nat.eq_of_beq_eq_true hb
    subst this
    exact h.symm
theorem upL_self {σ : Fr} : ∀ (us : List (Nat × Value)), AllV σ us → upL us σ = σ
  | [], _ => rfl
  | (d, v) :: r, h => by
    show upL r (up σ d v) = σ
    rw [up_self h.1]
    exact upL_self r h.2
theorem c_flat {c : Code} (us : List (Nat × Value)) (hs : AllV σ us) (h : ∀ u, CC P Q N c (upL us u) S) : CC P Q N c σ S := by
  have := h σ
  rwa [upL_self us hs] at this
theorem d_flat {e : Exit} (us : List (Nat × Value)) (hs : AllV σ us) (h : ∀ u, DD Q N e (upL us u) S) : DD Q N e σ S := by
  have := h σ
  rwa [upL_self us hs] at this
end
end Go.Proofs.YtkmkpodioedlfaaDoor
