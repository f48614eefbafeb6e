/-
  The library's Insert at a row of numbers of the call's own, out of the shelf's own contracts (own work).
-/
import Derived.Test.YthpjodfjdnnckaaST
import Derived.Shelf.Spec.SlicesInsertGrow
set_option linter.unusedVariables false
set_option linter.unusedSimpArgs false
namespace Go.Proofs.Ythpjodfjdnnckaa
open Go.RowKit Go.Lib
theorem But.new {g : Nat} {h : Option Nat} {W W1 W2 : World} (b : But h W W1) (hg : W.heap.size ≤ g) (b2 : But (some g) W1 W2) : But h W W2 :=
  ⟨b2.os.trans b.os, b2.tape.trans b.tape, b2.output.trans b.output, Nat.le_trans b.size b2.size, fun k hk hne => (b2.same k (Nat.lt_of_lt_of_le hk b.size) (fun e => by injection e with e; omega)).trans (b.same k hk hne), Nat.le_trans b.dr b2.dr⟩
end Go.Proofs.Ythpjodfjdnnckaa
