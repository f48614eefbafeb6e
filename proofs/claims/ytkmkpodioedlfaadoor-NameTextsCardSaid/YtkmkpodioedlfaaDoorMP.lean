/-
  Plain words for models of Go functions: reads that may fail, appends with their bound, loops (own work).
-/
import Derived.Test.YtkmkpodioedlfaaDoorSO
set_option linter.unusedVariables false
set_option linter.unusedSimpArgs false
namespace Go.Proofs.YtkmkpodioedlfaaDoor
open Go.RowKit
theorem bnd {α β : Type} {o : Option α} {k : α → Option β} {r : β} (h : o.bind k = some r) : ∃ x, o = some x ∧ k x = some r := Option.bind_eq_some_iff.1 h
theorem ite_t {α : Type} {c : Prop} [Decidable c] {a b r : α} (h : (if c then a else b) = r) (hc : c) : a = r := (if_pos hc).symm.trans h
theorem ite_f {α : Type} {c : Prop} [Decidable c] {a b r : α} (h : (if c then a else b) = r) (hc : ¬ c) : b = r := (if_neg hc).symm.trans h
theorem bool_nt {b : Bool} (h : b = false) : ¬ (b = true) := by simp [h]
abbrev w64 (x : Int) : Int := IntKind.i64.wrap x
def at_ {α : Type} (l : List α) (i : Int) : Option α := if 0 ≤ i then l[i.toNat]? else none
def sat_ (s : ByteArray) (i : Int) : Option Int := if 0 ≤ i ∧ i < s.size then some (byteAt s i) else none
def cutHi {α : Type} (l : List α) (j : Int) : Option (List α) := if 0 ≤ j ∧ j ≤ l.length then some (l.take j.toNat) else none
def cutLo {α : Type} (l : List α) (i : Int) : Option (List α) := if 0 ≤ i ∧ i ≤ l.length then some (l.drop i.toNat) else none
def scutHi (s : ByteArray) (j : Int) : Option ByteArray := if 0 ≤ j ∧ j ≤ s.size then some (s.extract 0 j.toNat) else none
def scutLo (s : ByteArray) (i : Int) : Option ByteArray := if 0 ≤ i ∧ i ≤ s.size then some (s.extract i.toNat s.size) else none
def scutMid (s : ByteArray) (i j : Int) : Option ByteArray := if 0 ≤ i ∧ i ≤ j ∧ j ≤ s.size then some (s.extract i.toNat j.toNat) else none
/-- append: b bytes an element. -/
def app {α : Type} (b : Nat) (l m : List α) : Option (List α) := if (l.length + m.length) * b ≤ 140737488355328 then some (l ++ m) else none
def sadd (a b : ByteArray) : Option ByteArray := if a.size + b.size ≤ 9223372036854775807 then some (a ++ b) else none
def setAt {α : Type} (l : List α) (i : Int) (v : α) : Option (List α) := if 0 ≤ i ∧ i < l.length then some (l.set i.toNat v) else none
section
variable {α : Type} {l m r : List α} {i j : Int} {v : α} {s t : ByteArray} {b : Nat}
theorem at_some (h : at_ l i = some v) : 0 ≤ i ∧ i < l.length ∧ l[i.toNat]? = some v := by
  unfold at_ at h
  by_cases h0 : 0 ≤ i
  · rw [if_pos h0] at h
    have := (List.getElem?_eq_some_iff.1 h).1
    exact ⟨h0, by omega, h⟩
  · rw [if_neg h0] at h; cases h
theorem at_lo (h : at_ l i = some v) : 0 ≤ i := (at_some h).1
theorem at_hi (h : at_ l i = some v) : i < l.length := (at_some h).2.1
theorem at_nat {k : Nat} (h : k < l.length) : at_ l (k : Int) = some l[k] := by
  unfold at_; rw [if_pos (Int.natCast_nonneg k), Int.toNat_natCast, List.getElem?_eq_getElem h]
theorem sat_some {x : Int} (h : sat_ s i = some x) : 0 ≤ i ∧ i < s.size ∧ x = byteAt s i := by
  unfold sat_ at h
  split at h
  · rename_i h0; injection h with h; exact ⟨h0.1, h0.2, h.symm⟩
  · cases h
theorem sat_of (h0 : 0 ≤ i) (h1 : i < s.size) : sat_ s i = some (byteAt s i) := if_pos ⟨h0, h1⟩
theorem cutHi_some (h : cutHi l j = some r) : 0 ≤ j ∧ j ≤ l.length ∧ r = l.take j.toNat := by
  unfold cutHi at h
  split at h
  · rename_i h0; injection h with h; exact ⟨h0.1, h0.2, h.symm⟩
  · cases h
theorem cutLo_some (h : cutLo l i = some r) : 0 ≤ i ∧ i ≤ l.length ∧ r = l.drop i.toNat := by
  unfold cutLo at h
  split at h
  · rename_i h0; injection h with h; exact ⟨h0.1, h0.2, h.symm⟩
  · cases h
theorem scutHi_some (h : scutHi s j = some t) : 0 ≤ j ∧ j ≤ s.size ∧ t = s.extract 0 j.toNat := by
  unfold scutHi at h
  split at h
  · rename_i h0; injection h with h; exact ⟨h0.1, h0.2, h.symm⟩
  · cases h
theorem scutLo_some (h : scutLo s i = some t) : 0 ≤ i ∧ i ≤ s.size ∧ t = s.extract i.toNat s.size := by
  unfold scutLo at h
  split at h
  · rename_i h0; injection h with h; exact ⟨h0.1, h0.2, h.symm⟩
  · cases h
theorem scutMid_some (h : scutMid s i j = some t) : 0 ≤ i ∧ i ≤ j ∧ j ≤ s.size ∧ t = s.extract i.toNat j.toNat := by
  unfold scutMid at h
  split at h
  · rename_i h0; injection h with h; exact ⟨h0.1, h0.2.1, h0.2.2, h.symm⟩
  · cases h
theorem app_some (h : app b l m = some r) : (l.length + m.length) * b ≤ 140737488355328 ∧ r = l ++ m := by
  unfold app at h
  split at h
  · rename_i h0; injection h with h; exact ⟨h0, h.symm⟩
  · cases h
theorem app_of (h : (l.length + m.length) * b ≤ 140737488355328) : app b l m = some (l ++ m) := if_pos h
theorem sadd_some {s1 : ByteArray} (h : sadd s t = some s1) : s.size + t.size ≤ 9223372036854775807 ∧ s1 = s ++ t := by
  unfold sadd at h
  split at h
  · rename_i h0; injection h with h; exact ⟨h0, h.symm⟩
  · cases h
theorem sadd_of (h : s.size + t.size ≤ 9223372036854775807) : sadd s t = some (s ++ t) := if_pos h
theorem setAt_some (h : setAt l i v = some r) : 0 ≤ i ∧ i < l.length ∧ r = l.set i.toNat v := by
  unfold setAt at h
  split at h
  · rename_i h0; injection h with h; exact ⟨h0.1, h0.2, h.symm⟩
  · cases h
end
/-! ### Loops -/
section
variable {σ ρ : Type} {step : σ → Option (σ ⊕ ρ)}
inductive Lp (step : σ → Option (σ ⊕ ρ)) : Nat → σ → ρ → Prop
  | fin {s r} : step s = some (.inr r) → Lp step 0 s r
  | go {n s s' r} : step s = some (.inl s') → Lp step n s' r → Lp step (n + 1) s r
theorem Lp.det {n m : Nat} {s : σ} {r r' : ρ} (h : Lp step n s r) (h' : Lp step m s r') : r = r' := by
  induction h generalizing m with
  | fin h1 =>
    cases h' with
    | fin h2 => rw [h1] at h2; injection h2 with h2; injection h2
    | go h2 _ => rw [h1] at h2; injection h2 with h2; cases h2
  | go h1 _ ih =>
    cases h' with
    | fin h2 => rw [h1] at h2; injection h2 with h2; cases h2
    | go h2 h3 => rw [h1] at h2; injection h2 with h2; injection h2 with h2; subst h2; exact ih h3
def runN (step : σ → Option (σ ⊕ ρ)) : Nat → σ → Option ρ
  | 0, _ => none
  | n + 1, s => match step s with
    | none => none
    | some (.inr r) => some r
    | some (.inl s') => runN step n s'
theorem runN_lp : ∀ {n : Nat} {s : σ} {r : ρ}, runN step n s = some r → ∃ m, Lp step m s r := by
  intro n
  induction n with
  | zero => intro s r h; cases h
  | succ n ih =>
    intro s r h
    unfold runN at h
    split at h
    · cases h
    · rename_i r' h1
      injection h with h
      subst h
      exact ⟨0, .fin h1⟩
    · rename_i s' h1
      obtain ⟨m, hm⟩ := ih h
      exact ⟨m + 1, .go h1 hm⟩
open Classical in
noncomputable def loopC (step : σ → Option (σ ⊕ ρ)) (s : σ) : Option ρ := if h : ∃ r n, Lp step n s r then some h.choose else none
/-- What a loop comes to; some thousand rounds are there to be counted by the kernel. -/
noncomputable def loop (step : σ → Option (σ ⊕ ρ)) (s : σ) : Option ρ := match runN step 4000 s with
  | some r => some r
  | none => loopC step s
theorem Lp.loop {n : Nat} {s : σ} {r : ρ} (h : Lp step n s r) : loop step s = some r := by
  unfold Go.Proofs.YtkmkpodioedlfaaDoor.loop
  split
  · rename_i r' h1
    obtain ⟨m, hm⟩ := runN_lp h1
    rw [h.det hm]
  · have hx : ∃ r n, Lp step n s r := ⟨r, n, h⟩
    unfold loopC
    rw [dif_pos hx]
    obtain ⟨m, hm⟩ := hx.choose_spec
    rw [hm.det h]
theorem loop_lp {s : σ} {r : ρ} (h : loop step s = some r) : ∃ n, Lp step n s r := by
  unfold loop at h
  split at h
  · rename_i r' h1
    injection h with h
    subst h
    exact runN_lp h1
  · unfold loopC at h
    split at h
    · rename_i hx
      injection h with h
      obtain ⟨m, hm⟩ := hx.choose_spec
      exact ⟨m, h ▸ hm⟩
    · cases h
theorem loop_inr {s : σ} {r : ρ} (h : step s = some (.inr r)) : loop step s = some r := (Lp.fin h).loop
theorem loop_inl {s s' : σ} (h : step s = some (.inl s')) : loop step s = loop step s' := by
  cases h2 : loop step s' with
  | some r => obtain ⟨n, hn⟩ := loop_lp h2; exact (Lp.go h hn).loop
  | none =>
    cases h1 : loop step s with
    | none => rfl
    | some r =>
      obtain ⟨n, hn⟩ := loop_lp h1
      cases hn with
      | fin h3 => rw [h] at h3; injection h3 with h3; cases h3
      | go h3 h4 => rw [h] at h3; injection h3 with h3; injection h3 with h3; subst h3; rw [h4.loop] at h2; cases h2
/-- For a walk: a round of a loop that ends with out. -/
def Nx (step : σ → Option (σ ⊕ ρ)) (n : Nat) (out : ρ) : σ ⊕ ρ → Prop
  | .inl s' => ∃ n', n' < n ∧ Lp step n' s' out
  | .inr e => e = out
theorem lp_step {n : Nat} {s : σ} {out : ρ} (h : Lp step n s out) : ∃ o, step s = some o ∧ Nx step n out o := by
  cases h with
  | fin h1 => exact ⟨_, h1, rfl⟩
  | go h1 h2 => exact ⟨_, h1, _, Nat.lt_succ_self _, h2⟩
theorem nx_inl {n : Nat} {s : σ} {out : ρ} {o : σ ⊕ ρ} (h : some (.inl s) = some o) (hn : Nx step n out o) : ∃ n', n' < n ∧ Lp step n' s out := by
  injection h with h; subst h; exact hn
theorem nx_inr {n : Nat} {e out : ρ} {o : σ ⊕ ρ} (h : some (.inr e) = some o) (hn : Nx step n out o) : e = out := by
  injection h with h; subst h; exact hn
end
end Go.Proofs.YtkmkpodioedlfaaDoor
