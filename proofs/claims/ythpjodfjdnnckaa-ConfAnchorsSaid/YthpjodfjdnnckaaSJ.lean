/-
  The library's Insert, with a seat's numbers (printed by a program of the author's own).
-/
import Derived.Test.YthpjodfjdnnckaaSI
set_option linter.unusedVariables false
namespace Go.Proofs.Ythpjodfjdnnckaa
open Go.RowKit Go.Proofs
end Go.Proofs.Ythpjodfjdnnckaa
