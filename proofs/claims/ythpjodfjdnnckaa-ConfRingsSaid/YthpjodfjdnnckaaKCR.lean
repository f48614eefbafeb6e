/- Readings of a law's arguments, by their types (a program's text, own work). -/
import Derived.Test.YthpjodfjdnnckaaRD
import Derived.Test.YthpjodfjdnnckaaWCRB
set_option maxRecDepth 100000
set_option linter.unusedVariables false
set_option linter.unusedSimpArgs false
namespace Go.Proofs.Ythpjodfjdnnckaa
open Go.ChangeShapes Go.WideShapes Go.ChangeAt Go.RowKit
theorem eC3 : Try.prog.cellsOf 3 = 1:=by kernel_rfl
theorem eC4 : Try.prog.cellsOf 4 = 1:=by kernel_rfl
end Go.Proofs.Ythpjodfjdnnckaa
