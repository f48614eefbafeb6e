/-
  Contracts of the library's sort and compact at a row of numbers, out of the shelf's own ones (own work).
-/
import Derived.Test.YthpjodfjdnnckaaSM
import Derived.Shelf.SortG.Plain
import Derived.Shelf.SortG.SortNone
import Derived.Shelf.SlicesG.Cells
import Derived.Sort.OwnSortedInts
import Derived.Lib.OwnBridge
set_option linter.unusedVariables false
set_option linter.unusedSimpArgs false
namespace Go.Proofs.Ythpjodfjdnnckaa
open Go.RowKit Go.Lib Go.Sort
end Go.Proofs.Ythpjodfjdnnckaa
