/- Words for regions that draw their order: lines that the kit's print tool writes for a claim, less two that need its other words. -/
import Derived.Test.YtkmkpodioedlfaaDoorWLast
/-! ### 50. A region's order in a table, made once a region: each step asks the table (numbers alone), not the operations -/
namespace Go.Proofs.YtkmkpodioedlfaaDoorW.PrintLast
section
variable {md : Region.Mode} {ops : Array Oper} {T : Bool × List (List Nat × List Nat)} {l l' li lj lk : Array Bool} {ds : List Nat} {i j k : Nat}
end
end Go.Proofs.YtkmkpodioedlfaaDoorW.PrintLast
