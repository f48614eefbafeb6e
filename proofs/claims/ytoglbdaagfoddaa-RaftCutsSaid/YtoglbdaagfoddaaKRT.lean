/- Readings of a law's arguments, by their types (a program's text, own work). -/
import Derived.Test.YtoglbdaagfoddaaRD
import Derived.Test.YtoglbdaagfoddaaWRTE
set_option maxRecDepth 100000
set_option linter.unusedVariables false
set_option linter.unusedSimpArgs false
namespace Go.Proofs.Ytoglbdaagfoddaa
open Go.ChangeShapes Go.WideShapes Go.ChangeAt Go.RowKit
end Go.Proofs.Ytoglbdaagfoddaa
