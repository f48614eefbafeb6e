/-
  A store in a drawn region whose place nothing else there reads: it may come among the readings (own work).
-/
import Derived.Test.YtkmkpodioedlfaaDoorSX
set_option linter.unusedVariables false
set_option linter.unusedSimpArgs false
namespace Go.Proofs.YtkmkpodioedlfaaDoor
open Go.RowKit Go.Lib Go.Proofs.YtkmkpodioedlfaaDoorW.PrintLast
section
variable {P : Program} {ops : Array Oper} {Q : Exit → Act → World → Prop} {N : FS} {σ : Fr} {Sh : Sta} {ds : List Nat} {fuel : Nat} {l : Array Bool} {w0 : World} {M : Nat → Prop} {H : List (Nat × Nat × Obj)} {R : List (Nat × Row)} {φ : World → Prop} {i tag g off : Nat} {cl : List Value} {t0 t : TypeId} {x y : Operand} {v : Value} {vs : List Value} {ty : TypeId} {pos : String} {af : Array Edge}
end
end Go.Proofs.YtkmkpodioedlfaaDoor
