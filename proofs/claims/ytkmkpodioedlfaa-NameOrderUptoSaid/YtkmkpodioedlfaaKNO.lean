/- Readings of a law's arguments, by their types (a program's text, own work). -/
import Derived.Test.YtkmkpodioedlfaaRD
import Derived.Test.YtkmkpodioedlfaaRU
import Derived.Test.YtkmkpodioedlfaaWNOA
set_option maxRecDepth 100000
set_option linter.unusedVariables false
set_option linter.unusedSimpArgs false
namespace Go.Proofs.Ytkmkpodioedlfaa
open Go.ChangeShapes Go.WideShapes Go.ChangeAt Go.RowKit
end Go.Proofs.Ytkmkpodioedlfaa
