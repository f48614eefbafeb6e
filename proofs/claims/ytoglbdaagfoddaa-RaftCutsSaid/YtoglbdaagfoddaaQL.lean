/- Plain words on models: loops unfolded, numbers that don't wrap (own work). -/
import Derived.Test.YtoglbdaagfoddaaSX
set_option linter.unusedVariables false
set_option linter.unusedSimpArgs false
namespace Go.Proofs.Ytoglbdaagfoddaa
open Go.RowKit
section
variable {σ ρ : Type} {step : σ → Option (σ ⊕ ρ)}
/-- Rounds numbered by what is left of a number. -/
theorem loop_to (n : Nat) (S : Nat → σ) (f : ρ) (h : ∀ k, k < n → step (S k) = some (.inl (S (k + 1))) ∨ step (S k) = some (.inr f)) (hn : step (S n) = some (.inr f)) : ∀ d k, k + d = n → loop step (S k) = some f
  | 0, k, hk => by subst hk; exact loop_inr hn
  | d + 1, k, hk => by
    rcases h k (by omega) with h1 | h1
    · rw [loop_inl h1]; exact loop_to n S f h hn d (k + 1) (by omega)
    · exact loop_inr h1
/-- From round 0 to round n, which is the last one. -/
theorem loop_run (n : Nat) (S : Nat → σ) (f : ρ) {s0 : σ} (h0 : s0 = S 0) (h : ∀ k, k < n → step (S k) = some (.inl (S (k + 1)))) (hn : step (S n) = some (.inr f)) : loop step s0 = some f := by
  subst h0
  exact loop_to n S f (fun k hk => .inl (h k hk)) hn n 0 (by omega)
end
theorem first_not {n : Nat} {p : Nat → Prop} (h : ¬ ∀ k, k < n → p k) : ∃ m, m < n ∧ ¬ p m ∧ ∀ k, k < m → p k := by
  have hb : ∃ k, k < n ∧ ¬ p k := by
    apply Classical.byContradiction; intro h'
    exact h fun k hk => Classical.byContradiction fun hn => h' ⟨k, hk, hn⟩
  obtain ⟨k, hk, hn⟩ := hb
  induction k using Nat.strongRecOn with
  | _ k ih =>
    by_cases h : ∀ j, j < k → p j
    · exact ⟨k, hk, hn, h⟩
    · have : ∃ j, j < k ∧ ¬ p j := Classical.byContradiction fun h' => h fun j hj => Classical.byContradiction fun hn' => h' ⟨j, hj, hn'⟩
      obtain ⟨j, hj, hjn⟩ := this
      exact ih j hj (by omega) hjn
theorem w64_id {x : Int} (h1 : -9223372036854775808 ≤ x) (h2 : x ≤ 9223372036854775807) : w64 x = x := IntWalk.i64_in x ⟨h1, h2⟩
end Go.Proofs.Ytoglbdaagfoddaa
