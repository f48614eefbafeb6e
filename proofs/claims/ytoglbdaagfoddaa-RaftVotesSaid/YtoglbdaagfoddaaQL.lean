/- Plain words on models: loops unfolded, numbers that don't wrap (own work). -/
import Derived.Test.YtoglbdaagfoddaaSX
set_option linter.unusedVariables false
set_option linter.unusedSimpArgs false
namespace Go.Proofs.Ytoglbdaagfoddaa
open Go.RowKit
section
variable {σ ρ : Type} {step : σ → Option (σ ⊕ ρ)}
end
theorem w64_id {x : Int} (h1 : -9223372036854775808 ≤ x) (h2 : x ≤ 9223372036854775807) : w64 x = x := IntWalk.i64_in x ⟨h1, h2⟩
end Go.Proofs.Ytoglbdaagfoddaa
