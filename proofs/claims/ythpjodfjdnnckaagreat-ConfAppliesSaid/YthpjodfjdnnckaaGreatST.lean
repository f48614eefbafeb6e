/-
  Contracts of the library's sort and compact at a row of numbers, out of the shelf's own ones (own work).
-/
import Derived.Test.YthpjodfjdnnckaaGreatSM
import Derived.Shelf.SortG.Plain
import Derived.Shelf.SortG.SortNone
import Derived.Shelf.SlicesG.Cells
import Derived.Sort.OwnSortedInts
import Derived.Lib.OwnBridge
set_option linter.unusedVariables false
set_option linter.unusedSimpArgs false
namespace Go.Proofs.YthpjodfjdnnckaaGreat
open Go.RowKit Go.Lib Go.Sort
abbrev encZ : Int → List Value := fun x => [Value.int .i64 x]
theorem encZ_map (l : List Int) : l.flatMap encZ = l.map (Value.int .i64) := fm_map l
end Go.Proofs.YthpjodfjdnnckaaGreat
