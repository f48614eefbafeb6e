/-
  No cell of these rows narrows 'for every input' (looked for: loops, veiled, ifaces, maps, wideKeys, modest, calm, conditions, laid).
  DERIVED. THE GIVEN ROWS OF THIS SEAT. 6 by the template 'for every input the law returns true; each argument reads behind the call as it read before'; 0 by the template 'total and deterministic' (their statements: YtoglbdaagfoddaaTotals.lean).
  GIVEN WITH THE SEED: the statements are not yours to turn. If you find one false, say at which input.
  Laid BY PROGRAM, IN A SANDBOX (cutbox-rows.mjs): the forced cells as the released guide's own fill.sh prints them over the translation 0f0f512d4108c9ad… (all of the seat's roots in one cut). By AI agents, Wed Nov 11 2026. No macro, syntax, notation, axiom, sorry.
-/
import Derived.Test.YtoglbdaagfoddaaChecked
import GoSem.Claim
import GoSem.ClaimJoined
import GoSem.ClaimMapViews
import Derived.JoinedTies
import Derived.KernelRfl
namespace Go.Proofs.Ytoglbdaagfoddaa
/- THE CELL 'sum', in the pinned program and in every row, IS THE sha256 OF THE DUMP (.gsa) THAT YtoglbdaagfoddaaProg.lean LOADS. Nothing in Lean hashes anything: it is a label: what it is worth is what the hold of that sum in a sandbox is worth. -/
noncomputable def Try.pinned : Pinned := { name := "ytoglbdaagfoddaa", sum := "0f0f512d4108c9ad57662acb1a667954e8dbc7d3a0c7c9dad07923ceb4aedb6f", checked := Try.checked }
namespace Rows
def none {H : Type} : Left H := { results := [], args := [] }

/-- 'fingerpostlaw12.RaftNotes': WHATEVER THE INPUT: true; the input reads as it did. -/
def raftNotesSpec : ChangeSpec := { name := "raftNotes", fn := fun _ => fun
  | [d1, d2, d3] => { results := [.lit (.bool true)], args := [d1, d2, d3] }
  | _ => none }
def raftNotesRow : OpenClaim := { program := "ytoglbdaagfoddaa", sum := "0f0f512d4108c9ad57662acb1a667954e8dbc7d3a0c7c9dad07923ceb4aedb6f", func := "fingerpost/fingerpostlaw12.RaftNotes", spec := "raftNotes", unfollowed := true, recurses := true, apart := false }
def RaftNotesSaid : Prop := raftNotesRow.holds Try.pinned (OpenSpec.ofChange raftNotesSpec)

/-- ITS FALSE NEIGHBOUR: 'it returns false'. Refute it at one input. -/
def raftNotesWrong : ChangeSpec := { name := "raftNotes", fn := fun _ => fun
  | [d1, d2, d3] => { results := [.lit (.bool false)], args := [d1, d2, d3] }
  | _ => none }
def RaftNotesWrongFalsely : Prop := raftNotesRow.holds Try.pinned (OpenSpec.ofChange raftNotesWrong)

/-- 'fingerpostlaw12.RaftVotes': WHATEVER THE INPUT: true; the input reads as it did. -/
def raftVotesSpec : ChangeSpec := { name := "raftVotes", fn := fun _ => fun
  | [d1, d2] => { results := [.lit (.bool true)], args := [d1, d2] }
  | _ => none }
def raftVotesRow : OpenClaim := { program := "ytoglbdaagfoddaa", sum := "0f0f512d4108c9ad57662acb1a667954e8dbc7d3a0c7c9dad07923ceb4aedb6f", func := "fingerpost/fingerpostlaw12.RaftVotes", spec := "raftVotes", unfollowed := true, recurses := true, apart := false }
def RaftVotesSaid : Prop := raftVotesRow.holds Try.pinned (OpenSpec.ofChange raftVotesSpec)

/-- ITS FALSE NEIGHBOUR: 'it returns false'. Refute it at one input. -/
def raftVotesWrong : ChangeSpec := { name := "raftVotes", fn := fun _ => fun
  | [d1, d2] => { results := [.lit (.bool false)], args := [d1, d2] }
  | _ => none }
def RaftVotesWrongFalsely : Prop := raftVotesRow.holds Try.pinned (OpenSpec.ofChange raftVotesWrong)

/-- 'fingerpostlaw12.RaftAlone': WHATEVER THE INPUT: true; the input reads as it did. -/
def raftAloneSpec : ChangeSpec := { name := "raftAlone", fn := fun _ => fun
  | [d1, d2] => { results := [.lit (.bool true)], args := [d1, d2] }
  | _ => none }
def raftAloneRow : OpenClaim := { program := "ytoglbdaagfoddaa", sum := "0f0f512d4108c9ad57662acb1a667954e8dbc7d3a0c7c9dad07923ceb4aedb6f", func := "fingerpost/fingerpostlaw12.RaftAlone", spec := "raftAlone", unfollowed := true, recurses := true, apart := false }
def RaftAloneSaid : Prop := raftAloneRow.holds Try.pinned (OpenSpec.ofChange raftAloneSpec)

/-- ITS FALSE NEIGHBOUR: 'it returns false'. Refute it at one input. -/
def raftAloneWrong : ChangeSpec := { name := "raftAlone", fn := fun _ => fun
  | [d1, d2] => { results := [.lit (.bool false)], args := [d1, d2] }
  | _ => none }
def RaftAloneWrongFalsely : Prop := raftAloneRow.holds Try.pinned (OpenSpec.ofChange raftAloneWrong)

/-- 'fingerpostlaw12.RaftSafe': WHATEVER THE INPUT: true; the input reads as it did. -/
def raftSafeSpec : ChangeSpec := { name := "raftSafe", fn := fun _ => fun
  | [d1, d2, d3] => { results := [.lit (.bool true)], args := [d1, d2, d3] }
  | _ => none }
def raftSafeRow : OpenClaim := { program := "ytoglbdaagfoddaa", sum := "0f0f512d4108c9ad57662acb1a667954e8dbc7d3a0c7c9dad07923ceb4aedb6f", func := "fingerpost/fingerpostlaw12.RaftSafe", spec := "raftSafe", unfollowed := true, recurses := true, apart := false }
def RaftSafeSaid : Prop := raftSafeRow.holds Try.pinned (OpenSpec.ofChange raftSafeSpec)

/-- ITS FALSE NEIGHBOUR: 'it returns false'. Refute it at one input. -/
def raftSafeWrong : ChangeSpec := { name := "raftSafe", fn := fun _ => fun
  | [d1, d2, d3] => { results := [.lit (.bool false)], args := [d1, d2, d3] }
  | _ => none }
def RaftSafeWrongFalsely : Prop := raftSafeRow.holds Try.pinned (OpenSpec.ofChange raftSafeWrong)

/-- 'fingerpostlaw12.RaftEnds': WHATEVER THE INPUT: true; the input reads as it did. -/
def raftEndsSpec : ChangeSpec := { name := "raftEnds", fn := fun _ => fun
  | [d1, d2, d3] => { results := [.lit (.bool true)], args := [d1, d2, d3] }
  | _ => none }
def raftEndsRow : OpenClaim := { program := "ytoglbdaagfoddaa", sum := "0f0f512d4108c9ad57662acb1a667954e8dbc7d3a0c7c9dad07923ceb4aedb6f", func := "fingerpost/fingerpostlaw12.RaftEnds", spec := "raftEnds", unfollowed := true, recurses := true, apart := false }
def RaftEndsSaid : Prop := raftEndsRow.holds Try.pinned (OpenSpec.ofChange raftEndsSpec)

/-- ITS FALSE NEIGHBOUR: 'it returns false'. Refute it at one input. -/
def raftEndsWrong : ChangeSpec := { name := "raftEnds", fn := fun _ => fun
  | [d1, d2, d3] => { results := [.lit (.bool false)], args := [d1, d2, d3] }
  | _ => none }
def RaftEndsWrongFalsely : Prop := raftEndsRow.holds Try.pinned (OpenSpec.ofChange raftEndsWrong)

/-- 'fingerpostlaw12.RaftCuts': WHATEVER THE INPUT: true; the input reads as it did. -/
def raftCutsSpec : ChangeSpec := { name := "raftCuts", fn := fun _ => fun
  | [d1, d2, d3] => { results := [.lit (.bool true)], args := [d1, d2, d3] }
  | _ => none }
def raftCutsRow : OpenClaim := { program := "ytoglbdaagfoddaa", sum := "0f0f512d4108c9ad57662acb1a667954e8dbc7d3a0c7c9dad07923ceb4aedb6f", func := "fingerpost/fingerpostlaw12.RaftCuts", spec := "raftCuts", unfollowed := true, recurses := true, apart := false }
def RaftCutsSaid : Prop := raftCutsRow.holds Try.pinned (OpenSpec.ofChange raftCutsSpec)

/-- ITS FALSE NEIGHBOUR: 'it returns false'. Refute it at one input. -/
def raftCutsWrong : ChangeSpec := { name := "raftCuts", fn := fun _ => fun
  | [d1, d2, d3] => { results := [.lit (.bool false)], args := [d1, d2, d3] }
  | _ => none }
def RaftCutsWrongFalsely : Prop := raftCutsRow.holds Try.pinned (OpenSpec.ofChange raftCutsWrong)

/- THE SECOND FORM. 'bulk': how many values and letters a reading holds, each counted each time it is reached (what is shared counts as often as it is met; a slice's spare places count too). A statement '..UptoSaid' is the law's where the arguments, and the package variables that the reading takes, are together of bulk at most 1048576: NARROWER than '..Said'. Prove '..Said' where nothing that the law and all that it calls make is longer than what came in: it says more and counts as full. Else prove '..UptoSaid'. A law counts once. -/
mutual
def uptoBulk {H : Type} : DataW H → Nat
  | .lit (.string bytes) => bytes.length + 1
  | .lit _ => 1
  | .nil => 1
  | .ptr d => uptoBulk d + 1
  | .slice elems spare => uptoBulkAll elems + uptoBulkAll spare + 1
  | .agg parts => uptoBulkAll parts + 1
  | .iface _ d => uptoBulk d + 1
  | .map entries => uptoBulkEntries entries + 1
  | .held _ => 1
def uptoBulkAll {H : Type} : List (DataW H) → Nat
  | [] => 0
  | d :: r => uptoBulk d + uptoBulkAll r
def uptoBulkEntries {H : Type} : List (Lit × DataW H) → Nat
  | [] => 0
  | x :: r => uptoBulkEntry x + uptoBulkEntries r
def uptoBulkEntry {H : Type} : Lit × DataW H → Nat
  | (.string bytes, d) => bytes.length + uptoBulk d + 1
  | (_, d) => uptoBulk d + 1
 end
def uptoSmall : (H : Type) → List (DataW H) → Bool := fun _ ds => decide (uptoBulkAll ds ≤ 1048576)
def OpenSpec.upto (s : _root_.Go.ChangeSpec) : _root_.Go.OpenSpec := { _root_.Go.OpenSpec.ofChange s with cond := some uptoSmall }

/-- 'fingerpostlaw12.RaftNotes', WHERE WHAT IT READS IS OF BULK AT MOST 1048576: true; the input reads as it did. -/
def raftNotesUptoRow : OpenClaim := { program := "ytoglbdaagfoddaa", sum := "0f0f512d4108c9ad57662acb1a667954e8dbc7d3a0c7c9dad07923ceb4aedb6f", func := "fingerpost/fingerpostlaw12.RaftNotes", spec := "raftNotes", unfollowed := true, recurses := true, apart := false, narrowed := true }
def RaftNotesUptoSaid : Prop := raftNotesUptoRow.holds Try.pinned (OpenSpec.upto raftNotesSpec)

/-- 'fingerpostlaw12.RaftVotes', WHERE WHAT IT READS IS OF BULK AT MOST 1048576: true; the input reads as it did. -/
def raftVotesUptoRow : OpenClaim := { program := "ytoglbdaagfoddaa", sum := "0f0f512d4108c9ad57662acb1a667954e8dbc7d3a0c7c9dad07923ceb4aedb6f", func := "fingerpost/fingerpostlaw12.RaftVotes", spec := "raftVotes", unfollowed := true, recurses := true, apart := false, narrowed := true }
def RaftVotesUptoSaid : Prop := raftVotesUptoRow.holds Try.pinned (OpenSpec.upto raftVotesSpec)

/-- 'fingerpostlaw12.RaftAlone', WHERE WHAT IT READS IS OF BULK AT MOST 1048576: true; the input reads as it did. -/
def raftAloneUptoRow : OpenClaim := { program := "ytoglbdaagfoddaa", sum := "0f0f512d4108c9ad57662acb1a667954e8dbc7d3a0c7c9dad07923ceb4aedb6f", func := "fingerpost/fingerpostlaw12.RaftAlone", spec := "raftAlone", unfollowed := true, recurses := true, apart := false, narrowed := true }
def RaftAloneUptoSaid : Prop := raftAloneUptoRow.holds Try.pinned (OpenSpec.upto raftAloneSpec)

/-- 'fingerpostlaw12.RaftSafe', WHERE WHAT IT READS IS OF BULK AT MOST 1048576: true; the input reads as it did. -/
def raftSafeUptoRow : OpenClaim := { program := "ytoglbdaagfoddaa", sum := "0f0f512d4108c9ad57662acb1a667954e8dbc7d3a0c7c9dad07923ceb4aedb6f", func := "fingerpost/fingerpostlaw12.RaftSafe", spec := "raftSafe", unfollowed := true, recurses := true, apart := false, narrowed := true }
def RaftSafeUptoSaid : Prop := raftSafeUptoRow.holds Try.pinned (OpenSpec.upto raftSafeSpec)

/-- 'fingerpostlaw12.RaftEnds', WHERE WHAT IT READS IS OF BULK AT MOST 1048576: true; the input reads as it did. -/
def raftEndsUptoRow : OpenClaim := { program := "ytoglbdaagfoddaa", sum := "0f0f512d4108c9ad57662acb1a667954e8dbc7d3a0c7c9dad07923ceb4aedb6f", func := "fingerpost/fingerpostlaw12.RaftEnds", spec := "raftEnds", unfollowed := true, recurses := true, apart := false, narrowed := true }
def RaftEndsUptoSaid : Prop := raftEndsUptoRow.holds Try.pinned (OpenSpec.upto raftEndsSpec)

/-- 'fingerpostlaw12.RaftCuts', WHERE WHAT IT READS IS OF BULK AT MOST 1048576: true; the input reads as it did. -/
def raftCutsUptoRow : OpenClaim := { program := "ytoglbdaagfoddaa", sum := "0f0f512d4108c9ad57662acb1a667954e8dbc7d3a0c7c9dad07923ceb4aedb6f", func := "fingerpost/fingerpostlaw12.RaftCuts", spec := "raftCuts", unfollowed := true, recurses := true, apart := false, narrowed := true }
def RaftCutsUptoSaid : Prop := raftCutsUptoRow.holds Try.pinned (OpenSpec.upto raftCutsSpec)

end Rows
end Go.Proofs.Ytoglbdaagfoddaa
