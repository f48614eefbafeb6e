/- Readings of a law's arguments, by their types (a program's text, own work). -/
import Derived.Test.YtkmkpodioedlfaaDoorRD
import Derived.Test.YtkmkpodioedlfaaDoorWNTB
set_option maxRecDepth 100000
set_option linter.unusedVariables false
set_option linter.unusedSimpArgs false
namespace Go.Proofs.YtkmkpodioedlfaaDoor
open Go.ChangeShapes Go.WideShapes Go.ChangeAt Go.RowKit
end Go.Proofs.YtkmkpodioedlfaaDoor
