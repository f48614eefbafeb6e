/- Parts of a row of one's own: cut shorter, its own rest put behind its beginning, what lies behind it cleared (own work). -/
import Derived.Test.YtkmkpodioedlfaaDoorSM
import Derived.DeepKeys4
import Derived.DataShut
set_option linter.unusedVariables false
set_option linter.unusedSimpArgs false
namespace Go.Proofs.YtkmkpodioedlfaaDoor
open Go.RowKit
section
variable {P : Program} {ops : Array Oper} {Q : Exit → Act → World → Prop} {N : FS} {d : Nat} {rest : List Oper} {σ : Fr} {S Sh : Sta} {ty t : TypeId} {pos : String} {af : Array Edge} {x y : Operand} {w0 : World} {M : Nat → Prop} {H : List (Nat × Nat × Obj)} {R : List (Nat × Row)} {φ : World → Prop} {α : Type} {enc : α → List Value} {m l l1 l2 r : List α} {tag bytes cc sz n k : Nat} {A : Option Addr} {z : Value} {e : TypeId} {i j : Int} {kk kj : IntKind}
end
end Go.Proofs.YtkmkpodioedlfaaDoor
