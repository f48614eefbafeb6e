/- Readings of a law's arguments, by their types (a program's text, own work). -/
import Derived.Test.YtoglbdaagfoddaaRD
import Derived.Test.YtoglbdaagfoddaaWROE
set_option maxRecDepth 100000
set_option linter.unusedVariables false
set_option linter.unusedSimpArgs false
namespace Go.Proofs.Ytoglbdaagfoddaa
open Go.ChangeShapes Go.WideShapes Go.ChangeAt Go.RowKit
theorem eC9 : Try.prog.cellsOf 9 = 1 := by kernel_rfl
end Go.Proofs.Ytoglbdaagfoddaa
