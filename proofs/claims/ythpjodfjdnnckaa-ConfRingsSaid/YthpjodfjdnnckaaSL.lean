/- Arrays whose places are told at run time: a block of one's own as a list (own work). -/
import Derived.Test.YthpjodfjdnnckaaSM
import Derived.ChangeKeysEq
set_option linter.unusedVariables false
set_option linter.unusedSimpArgs false
namespace Go.Proofs.Ythpjodfjdnnckaa
open Go.RowKit
def aix (n : Nat) (i : Int) : Option Nat := if 0 ≤ i ∧ i < n then some i.toNat else none
def setN {α : Type} (l : List α) (p : Nat) (v : α) : Option (List α) := if p < l.length then some (l.set p v) else none
theorem aix_some {n : Nat} {i : Int} {a : Nat} (h : aix n i = some a) : 0 ≤ i ∧ i < n ∧ i.toNat = a := by
  unfold aix at h
  split at h
  · rename_i h0; injection h with h; exact ⟨h0.1, h0.2, h⟩
  · cases h
section
variable {P : Program} {ops : Array Oper} {Q : Exit → Act → World → Prop} {N : FS} {d : Nat} {rest : List Oper} {σ : Fr} {S Sh : Sta} {ty t : TypeId} {pos : String} {af : Array Edge} {x y : Operand} {w0 : World} {M : Nat → Prop} {H : List (Nat × Nat × Obj)} {R : List (Nat × Row)} {φ : World → Prop} {α : Type} {f : α → Value} {l l1 l2 : List α} {tag g off n p sz a : Nat} {e t0 : TypeId} {i : Int} {k : IntKind} {v u : α}
theorem r_aix {len : Nat} (hu : P.underlying t = some (.array len e)) (hs : ∀ W, (sizeOf e).run P W = .ok sz W) (hx : ev σ x = .pointer (some ⟨g, off, none⟩)) (hy : ev σ y = .int k i) (h : aix len i = some a) (hn : off + a * sz = n) : Rn P σ S (.indexAddr t x y) ty (.pointer (some ⟨g, n, none⟩)) := by
  obtain ⟨h0, h1, rfl⟩ := aix_some h
  exact r_elemH hu hs hx hy h0 h1 hn
theorem lcell {W : World} (hg : W.heap[g]? = some (.cells (l.map f).toArray t0 (0, 0))) (hv : l[p]? = some v) : W.cell? ⟨g, p, none⟩ = some (f v) := by
  simp only [World.cell?, hg]
  simp [hv]
theorem r_ldL (hx : ev σ x = .pointer (some ⟨g, p, none⟩)) (hH : fH tag S.H = some (g, .cells (l.map f).toArray t0 (0, 0))) (ha : ∀ W, (isAgg t).run P W = .ok false W) (hv : l[p]? = some v) : Rn P σ S (.load t x) ty (f v) :=
  fun W hS => by
    have hc := lcell (hS.has _ (fH_mem hH)).2 hv
    have ha' := ha W
    simp [execOp, Instr.loadAt, Instr.sureAddr, hx, loadVar, ha', load, Sem.run, hc]
theorem e_stL {w : Value} {vs : List Value} (hx : ev σ x = .pointer (some ⟨g, p, none⟩)) (hy : ev σ y = w) (hvs : w.cells.toList = vs) (hvm : vs = [f v]) (hH : fH tag H = some (g, .cells (l.map f).toArray t0 (0, 0))) (hsz : ∀ W, (sizeOf t).run P W = .ok 1 W) (h1 : one1 vs = true) (hset : setN l p v = some l1) :
    Skp P σ ⟨w0, M, H, R, φ⟩ (.store t x y) ty ⟨w0, M, uH tag (.cells (l1.map f).toArray t0 (0, 0)) H, R, φ⟩ := by
  intro W hS
  unfold setN at hset
  split at hset
  · rename_i hp
    injection hset with hset
    subst hset hvs
    have hl : w.cells.toList.length = w.cells.size := Array.length_toList
    have hl1 : w.cells.size = 1 := by rw [← hl, hvm]; rfl
    have hg := (hS.has _ (fH_mem hH)).2
    obtain ⟨h2, h3⟩ := setCells_heap g t0 (0, 0) w.cells.toList W (l.map f).toArray p hg
    have hr := run_store_blk (P := P) (t := t) (off := p) hg (by rw [hl1]; exact hsz) (by simp [hl1]; omega) (.inl (Nat.zero_le _)) (one1_all h1)
    refine ⟨W.setCells g p w.cells.toList, by simp [execOp, Instr.storeAt, Instr.sureAddr, hx, hy, hr], ?_⟩
    have e : putL (l.map f).toArray p w.cells.toList = ((l.set p v).map f).toArray := by
      rw [hvm]
      apply Array.ext'
      rw [putL_list [f v] (l.map f).toArray p (by simp; omega)]
      simp only [List.length_cons, List.length_nil, List.map_set]
      rw [List.set_eq_take_append_cons_drop, if_pos (by simpa using hp)]
      simp
    rw [← e]
    exact hS.upd hH h3 h2
  · cases hset
end
/-! Arrays held against each other. -/
section
variable {P : Program} {w0 : World} {M : Nat → Prop} {H : List (Nat × Nat × Obj)} {R : List (Nat × Row)} {φ : World → Prop}
theorem blk_eq {tag g : Nat} {o o' : Obj} {W : World} (ho : o = o') (h : (Sta.mk w0 M ((tag, g, o) :: H) R φ).ok W) : (Sta.mk w0 M ((tag, g, o') :: H) R φ).ok W := ho ▸ h
end
end Go.Proofs.Ythpjodfjdnnckaa
