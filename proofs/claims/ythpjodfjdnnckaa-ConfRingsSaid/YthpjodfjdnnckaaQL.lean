/- Plain words on models: loops unfolded, numbers that don't wrap (own work). -/
import Derived.Test.YthpjodfjdnnckaaSX
set_option linter.unusedVariables false
set_option linter.unusedSimpArgs false
namespace Go.Proofs.Ythpjodfjdnnckaa
open Go.RowKit
section
variable {σ ρ : Type} {step : σ→Option (σ ⊕ ρ)}
/-- Rounds numbered by what is left of a number. -/
theorem loop_to (n : Nat) (S : Nat→σ) (f : ρ) (h : ∀ k,k < n→step (S k) = some (.inl (S (k + 1))) ∨ step (S k) = some (.inr f)) (hn : step (S n) = some (.inr f)) : ∀ d k,k + d = n→loop step (S k) = some f
  | 0,k,hk=>by subst hk; exact loop_inr hn
  | d + 1,k,hk=>by
    rcases h k (by omega) with h1 | h1
    · rw [loop_inl h1]; exact loop_to n S f h hn d (k + 1) (by omega)
    · exact loop_inr h1
/-- From round 0 to round n, which is the last one. -/
theorem loop_run (n : Nat) (S : Nat→σ) (f : ρ) {s0 : σ} (h0 : s0 = S 0) (h : ∀ k,k < n→step (S k) = some (.inl (S (k + 1)))) (hn : step (S n) = some (.inr f)) : loop step s0 = some f:=by
  subst h0
  exact loop_to n S f (fun k hk=>.inl (h k hk)) hn n 0 (by omega)
end
theorem w64_id {x : Int} (h1 : -9223372036854775808 ≤ x) (h2 : x ≤ 9223372036854775807) : w64 x = x:=IntWalk.i64_in x ⟨h1,h2⟩
theorem wrapu64 {x : Int} (h1 : 0 ≤ x) (h2 : x ≤ 18446744073709551615) : IntKind.u64.wrap x = x:=by
  simp only [IntKind.wrap,IntKind.bits,IntKind.signed]; simp; omega
theorem byteAt_lt (s : ByteArray) (i : Int) : 0 ≤ byteAt s i∧byteAt s i ≤ 255:=by
  unfold byteAt
  split
  · have:=UInt8.toNat_lt s[i.toNat]; omega
  · omega
end Go.Proofs.Ythpjodfjdnnckaa
