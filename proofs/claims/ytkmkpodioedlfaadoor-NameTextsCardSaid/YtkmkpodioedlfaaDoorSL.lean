/- Arrays whose places are told at run time: a block of one's own as a list (own work). -/
import Derived.Test.YtkmkpodioedlfaaDoorSM
import Derived.ChangeKeysEq
set_option linter.unusedVariables false
set_option linter.unusedSimpArgs false
namespace Go.Proofs.YtkmkpodioedlfaaDoor
open Go.RowKit
section
variable {P : Program} {ops : Array Oper} {Q : Exit → Act → World → Prop} {N : FS} {d : Nat} {rest : List Oper} {σ : Fr} {S Sh : Sta} {ty t : TypeId} {pos : String} {af : Array Edge} {x y : Operand} {w0 : World} {M : Nat → Prop} {H : List (Nat × Nat × Obj)} {R : List (Nat × Row)} {φ : World → Prop} {α : Type} {f : α → Value} {l l1 l2 : List α} {tag g off n p sz a : Nat} {e t0 : TypeId} {i : Int} {k : IntKind} {v u : α}
end
/-! Arrays held against each other. -/
section
variable {P : Program} {w0 : World} {M : Nat → Prop} {H : List (Nat × Nat × Obj)} {R : List (Nat × Row)} {φ : World → Prop}
end
end Go.Proofs.YtkmkpodioedlfaaDoor
