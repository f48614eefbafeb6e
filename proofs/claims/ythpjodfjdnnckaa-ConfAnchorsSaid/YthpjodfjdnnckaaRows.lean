/-
  No cell of these rows narrows 'for every input' (looked for: loops, veiled, ifaces, maps, wideKeys, modest, calm, conditions, laid).
  DERIVED. THE GIVEN ROWS OF THIS SEAT. 4 by the template 'for every input the law returns true; each argument reads behind the call as it read before'; 0 by the template 'total and deterministic' (their statements: YthpjodfjdnnckaaTotals.lean).
  GIVEN WITH THE SEED: the statements are not yours to turn. If you find one false, say at which input.
  Laid BY PROGRAM, IN A SANDBOX (cutbox-rows.mjs): the forced cells as the released guide's own fill.sh prints them over the translation 94592e21f22881a6… (all of the seat's roots in one cut). By AI agents, Wed Nov 11 2026. No macro, syntax, notation, axiom, sorry.
-/
import Derived.Test.YthpjodfjdnnckaaChecked
import GoSem.Claim
import GoSem.ClaimJoined
import GoSem.ClaimMapViews
import Derived.JoinedTies
import Derived.KernelRfl
namespace Go.Proofs.Ythpjodfjdnnckaa
/- THE CELL 'sum', in the pinned program and in every row, IS THE sha256 OF THE DUMP (.gsa) THAT YthpjodfjdnnckaaProg.lean LOADS. Nothing in Lean hashes anything: it is a label: what it is worth is what the hold of that sum in a sandbox is worth. -/
noncomputable def Try.pinned : Pinned := { name := "ythpjodfjdnnckaa", sum := "94592e21f22881a6492bae13a41257d3a60679aadbbcd8d9833db896d9051990", checked := Try.checked }
namespace Rows
def none {H : Type} : Left H := { results := [], args := [] }

/-- 'fingerpostlaw13.ConfFlushes': WHATEVER THE INPUT: true; the input reads as it did. -/
def confFlushesSpec : ChangeSpec := { name := "confFlushes", fn := fun _ => fun
  | [d1, d2, d3] => { results := [.lit (.bool true)], args := [d1, d2, d3] }
  | _ => none }
def confFlushesRow : OpenClaim := { program := "ythpjodfjdnnckaa", sum := "94592e21f22881a6492bae13a41257d3a60679aadbbcd8d9833db896d9051990", func := "fingerpost/fingerpostlaw13.ConfFlushes", spec := "confFlushes", inPlace := ["slices.overlaps[int]"], unfollowed := true, recurses := true, apart := false }
def ConfFlushesSaid : Prop := confFlushesRow.holds Try.pinned (OpenSpec.ofChange confFlushesSpec)

/-- ITS FALSE NEIGHBOUR: 'it returns false'. Refute it at one input. -/
def confFlushesWrong : ChangeSpec := { name := "confFlushes", fn := fun _ => fun
  | [d1, d2, d3] => { results := [.lit (.bool false)], args := [d1, d2, d3] }
  | _ => none }
def ConfFlushesWrongFalsely : Prop := confFlushesRow.holds Try.pinned (OpenSpec.ofChange confFlushesWrong)

/-- 'fingerpostlaw13.ConfRings': WHATEVER THE INPUT: true; the input reads as it did. -/
def confRingsSpec : ChangeSpec := { name := "confRings", fn := fun _ => fun
  | [d1, d2] => { results := [.lit (.bool true)], args := [d1, d2] }
  | _ => none }
def confRingsRow : OpenClaim := { program := "ythpjodfjdnnckaa", sum := "94592e21f22881a6492bae13a41257d3a60679aadbbcd8d9833db896d9051990", func := "fingerpost/fingerpostlaw13.ConfRings", spec := "confRings", inPlace := ["slices.overlaps[int]"], unfollowed := true, recurses := true, apart := false }
def ConfRingsSaid : Prop := confRingsRow.holds Try.pinned (OpenSpec.ofChange confRingsSpec)

/-- ITS FALSE NEIGHBOUR: 'it returns false'. Refute it at one input. -/
def confRingsWrong : ChangeSpec := { name := "confRings", fn := fun _ => fun
  | [d1, d2] => { results := [.lit (.bool false)], args := [d1, d2] }
  | _ => none }
def ConfRingsWrongFalsely : Prop := confRingsRow.holds Try.pinned (OpenSpec.ofChange confRingsWrong)

/-- 'fingerpostlaw13.ConfAnchors': WHATEVER THE INPUT: true; the input reads as it did. -/
def confAnchorsSpec : ChangeSpec := { name := "confAnchors", fn := fun _ => fun
  | [d] => { results := [.lit (.bool true)], args := [d] }
  | _ => none }
def confAnchorsRow : OpenClaim := { program := "ythpjodfjdnnckaa", sum := "94592e21f22881a6492bae13a41257d3a60679aadbbcd8d9833db896d9051990", func := "fingerpost/fingerpostlaw13.ConfAnchors", spec := "confAnchors", inPlace := ["slices.overlaps[int]"], unfollowed := true, recurses := true, apart := false }
def ConfAnchorsSaid : Prop := confAnchorsRow.holds Try.pinned (OpenSpec.ofChange confAnchorsSpec)

/-- ITS FALSE NEIGHBOUR: 'it returns false'. Refute it at one input. -/
def confAnchorsWrong : ChangeSpec := { name := "confAnchors", fn := fun _ => fun
  | [d] => { results := [.lit (.bool false)], args := [d] }
  | _ => none }
def ConfAnchorsWrongFalsely : Prop := confAnchorsRow.holds Try.pinned (OpenSpec.ofChange confAnchorsWrong)

/-- 'fingerpostlaw13.ConfOrders': WHATEVER THE INPUT: true; the input reads as it did. -/
def confOrdersSpec : ChangeSpec := { name := "confOrders", fn := fun _ => fun
  | [d1, d2] => { results := [.lit (.bool true)], args := [d1, d2] }
  | _ => none }
def confOrdersRow : OpenClaim := { program := "ythpjodfjdnnckaa", sum := "94592e21f22881a6492bae13a41257d3a60679aadbbcd8d9833db896d9051990", func := "fingerpost/fingerpostlaw13.ConfOrders", spec := "confOrders", inPlace := ["slices.overlaps[int]"], unfollowed := true, recurses := true, apart := false }
def ConfOrdersSaid : Prop := confOrdersRow.holds Try.pinned (OpenSpec.ofChange confOrdersSpec)

/-- ITS FALSE NEIGHBOUR: 'it returns false'. Refute it at one input. -/
def confOrdersWrong : ChangeSpec := { name := "confOrders", fn := fun _ => fun
  | [d1, d2] => { results := [.lit (.bool false)], args := [d1, d2] }
  | _ => none }
def ConfOrdersWrongFalsely : Prop := confOrdersRow.holds Try.pinned (OpenSpec.ofChange confOrdersWrong)

/- THE SECOND FORM. 'bulk': how many values and letters a reading holds, each counted each time it is reached (what is shared counts as often as it is met; a slice's spare places count too). A statement '..UptoSaid' is the law's where the arguments, and the package variables that the reading takes, are together of bulk at most 1048576: NARROWER than '..Said'. Prove '..Said' where nothing that the law and all that it calls make is longer than what came in: it says more and counts as full. Else prove '..UptoSaid'. A law counts once. -/
mutual
def uptoBulk {H : Type} : DataW H → Nat
  | .lit (.string bytes) => bytes.length + 1
  | .lit _ => 1
  | .nil => 1
  | .ptr d => uptoBulk d + 1
  | .slice elems spare => uptoBulkAll elems + uptoBulkAll spare + 1
  | .agg parts => uptoBulkAll parts + 1
  | .iface _ d => uptoBulk d + 1
  | .map entries => uptoBulkEntries entries + 1
  | .held _ => 1
def uptoBulkAll {H : Type} : List (DataW H) → Nat
  | [] => 0
  | d :: r => uptoBulk d + uptoBulkAll r
def uptoBulkEntries {H : Type} : List (Lit × DataW H) → Nat
  | [] => 0
  | x :: r => uptoBulkEntry x + uptoBulkEntries r
def uptoBulkEntry {H : Type} : Lit × DataW H → Nat
  | (.string bytes, d) => bytes.length + uptoBulk d + 1
  | (_, d) => uptoBulk d + 1
 end
def uptoSmall : (H : Type) → List (DataW H) → Bool := fun _ ds => decide (uptoBulkAll ds ≤ 1048576)
def OpenSpec.upto (s : _root_.Go.ChangeSpec) : _root_.Go.OpenSpec := { _root_.Go.OpenSpec.ofChange s with cond := some uptoSmall }

/-- 'fingerpostlaw13.ConfFlushes', WHERE WHAT IT READS IS OF BULK AT MOST 1048576: true; the input reads as it did. -/
def confFlushesUptoRow : OpenClaim := { program := "ythpjodfjdnnckaa", sum := "94592e21f22881a6492bae13a41257d3a60679aadbbcd8d9833db896d9051990", func := "fingerpost/fingerpostlaw13.ConfFlushes", spec := "confFlushes", inPlace := ["slices.overlaps[int]"], unfollowed := true, recurses := true, apart := false, narrowed := true }
def ConfFlushesUptoSaid : Prop := confFlushesUptoRow.holds Try.pinned (OpenSpec.upto confFlushesSpec)

/-- 'fingerpostlaw13.ConfRings', WHERE WHAT IT READS IS OF BULK AT MOST 1048576: true; the input reads as it did. -/
def confRingsUptoRow : OpenClaim := { program := "ythpjodfjdnnckaa", sum := "94592e21f22881a6492bae13a41257d3a60679aadbbcd8d9833db896d9051990", func := "fingerpost/fingerpostlaw13.ConfRings", spec := "confRings", inPlace := ["slices.overlaps[int]"], unfollowed := true, recurses := true, apart := false, narrowed := true }
def ConfRingsUptoSaid : Prop := confRingsUptoRow.holds Try.pinned (OpenSpec.upto confRingsSpec)

/-- 'fingerpostlaw13.ConfAnchors', WHERE WHAT IT READS IS OF BULK AT MOST 1048576: true; the input reads as it did. -/
def confAnchorsUptoRow : OpenClaim := { program := "ythpjodfjdnnckaa", sum := "94592e21f22881a6492bae13a41257d3a60679aadbbcd8d9833db896d9051990", func := "fingerpost/fingerpostlaw13.ConfAnchors", spec := "confAnchors", inPlace := ["slices.overlaps[int]"], unfollowed := true, recurses := true, apart := false, narrowed := true }
def ConfAnchorsUptoSaid : Prop := confAnchorsUptoRow.holds Try.pinned (OpenSpec.upto confAnchorsSpec)

/-- 'fingerpostlaw13.ConfOrders', WHERE WHAT IT READS IS OF BULK AT MOST 1048576: true; the input reads as it did. -/
def confOrdersUptoRow : OpenClaim := { program := "ythpjodfjdnnckaa", sum := "94592e21f22881a6492bae13a41257d3a60679aadbbcd8d9833db896d9051990", func := "fingerpost/fingerpostlaw13.ConfOrders", spec := "confOrders", inPlace := ["slices.overlaps[int]"], unfollowed := true, recurses := true, apart := false, narrowed := true }
def ConfOrdersUptoSaid : Prop := confOrdersUptoRow.holds Try.pinned (OpenSpec.upto confOrdersSpec)

end Rows
end Go.Proofs.Ythpjodfjdnnckaa
