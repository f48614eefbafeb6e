/-
  No cell of these rows narrows 'for every input' (looked for: loops, veiled, ifaces, maps, wideKeys, modest, calm, conditions, laid).
  DERIVED. THE GIVEN ROWS OF THIS SEAT. 13 by the template 'for every input the law returns true; each argument reads behind the call as it read before'; 0 by the template 'total and deterministic' (their statements: YtpdhdpefdgndeaaTotals.lean).
  GIVEN WITH THE SEED: the statements are not yours to turn. If you find one false, say at which input.
  Laid BY PROGRAM, IN A SANDBOX (cutbox-rows.mjs): the forced cells as the released guide's own fill.sh prints them over the translation cf25a97a70d2ba8b… (all of the seat's roots in one cut). By AI agents, Wed Nov 11 2026. No macro, syntax, notation, axiom, sorry.
-/
import Derived.Test.YtpdhdpefdgndeaaChecked
import GoSem.Claim
import GoSem.ClaimJoined
import GoSem.ClaimMapViews
import Derived.JoinedTies
import Derived.KernelRfl
namespace Go.Proofs.Ytpdhdpefdgndeaa
/- THE CELL 'sum', in the pinned program and in every row, IS THE sha256 OF THE DUMP (.gsa) THAT YtpdhdpefdgndeaaProg.lean LOADS. Nothing in Lean hashes anything: it is a label: what it is worth is what the hold of that sum in a sandbox is worth. -/
noncomputable def Try.pinned : Pinned := { name := "ytpdhdpefdgndeaa", sum := "cf25a97a70d2ba8b5f6f721d4875920265b28332398147bde57b9feb40f1a9d3", checked := Try.checked }
namespace Rows
def none {H : Type} : Left H := { results := [], args := [] }

/-- 'fingerpostlaw05.RecordReads': WHATEVER THE INPUT: true; the input reads as it did. -/
def recordReadsSpec : ChangeSpec := { name := "recordReads", fn := fun _ => fun
  | [d1, d2] => { results := [.lit (.bool true)], args := [d1, d2] }
  | _ => none }
def recordReadsRow : OpenClaim := { program := "ytpdhdpefdgndeaa", sum := "cf25a97a70d2ba8b5f6f721d4875920265b28332398147bde57b9feb40f1a9d3", func := "fingerpost/fingerpostlaw05.RecordReads", spec := "recordReads", unfollowed := true, recurses := true, apart := false }
def RecordReadsSaid : Prop := recordReadsRow.holds Try.pinned (OpenSpec.ofChange recordReadsSpec)

/-- ITS FALSE NEIGHBOUR: 'it returns false'. Refute it at one input. -/
def recordReadsWrong : ChangeSpec := { name := "recordReads", fn := fun _ => fun
  | [d1, d2] => { results := [.lit (.bool false)], args := [d1, d2] }
  | _ => none }
def RecordReadsWrongFalsely : Prop := recordReadsRow.holds Try.pinned (OpenSpec.ofChange recordReadsWrong)

/-- 'fingerpostlaw05.RecordWrites': WHATEVER THE INPUT: true; the input reads as it did. -/
def recordWritesSpec : ChangeSpec := { name := "recordWrites", fn := fun _ => fun
  | [d1, d2] => { results := [.lit (.bool true)], args := [d1, d2] }
  | _ => none }
def recordWritesRow : OpenClaim := { program := "ytpdhdpefdgndeaa", sum := "cf25a97a70d2ba8b5f6f721d4875920265b28332398147bde57b9feb40f1a9d3", func := "fingerpost/fingerpostlaw05.RecordWrites", spec := "recordWrites", unfollowed := true, recurses := true, apart := false }
def RecordWritesSaid : Prop := recordWritesRow.holds Try.pinned (OpenSpec.ofChange recordWritesSpec)

/-- ITS FALSE NEIGHBOUR: 'it returns false'. Refute it at one input. -/
def recordWritesWrong : ChangeSpec := { name := "recordWrites", fn := fun _ => fun
  | [d1, d2] => { results := [.lit (.bool false)], args := [d1, d2] }
  | _ => none }
def RecordWritesWrongFalsely : Prop := recordWritesRow.holds Try.pinned (OpenSpec.ofChange recordWritesWrong)

/-- 'fingerpostlaw05.RecordBack': WHATEVER THE INPUT: true; the input reads as it did. -/
def recordBackSpec : ChangeSpec := { name := "recordBack", fn := fun _ => fun
  | [d1, d2] => { results := [.lit (.bool true)], args := [d1, d2] }
  | _ => none }
def recordBackRow : OpenClaim := { program := "ytpdhdpefdgndeaa", sum := "cf25a97a70d2ba8b5f6f721d4875920265b28332398147bde57b9feb40f1a9d3", func := "fingerpost/fingerpostlaw05.RecordBack", spec := "recordBack", unfollowed := true, recurses := true, apart := false }
def RecordBackSaid : Prop := recordBackRow.holds Try.pinned (OpenSpec.ofChange recordBackSpec)

/-- ITS FALSE NEIGHBOUR: 'it returns false'. Refute it at one input. -/
def recordBackWrong : ChangeSpec := { name := "recordBack", fn := fun _ => fun
  | [d1, d2] => { results := [.lit (.bool false)], args := [d1, d2] }
  | _ => none }
def RecordBackWrongFalsely : Prop := recordBackRow.holds Try.pinned (OpenSpec.ofChange recordBackWrong)

/-- 'fingerpostlaw05.RecordNil': WHATEVER THE INPUT: true; the input reads as it did. -/
def recordNilSpec : ChangeSpec := { name := "recordNil", fn := fun _ => fun
  | [d] => { results := [.lit (.bool true)], args := [d] }
  | _ => none }
def recordNilRow : OpenClaim := { program := "ytpdhdpefdgndeaa", sum := "cf25a97a70d2ba8b5f6f721d4875920265b28332398147bde57b9feb40f1a9d3", func := "fingerpost/fingerpostlaw05.RecordNil", spec := "recordNil", unfollowed := true, recurses := true, apart := false }
def RecordNilSaid : Prop := recordNilRow.holds Try.pinned (OpenSpec.ofChange recordNilSpec)

/-- ITS FALSE NEIGHBOUR: 'it returns false'. Refute it at one input. -/
def recordNilWrong : ChangeSpec := { name := "recordNil", fn := fun _ => fun
  | [d] => { results := [.lit (.bool false)], args := [d] }
  | _ => none }
def RecordNilWrongFalsely : Prop := recordNilRow.holds Try.pinned (OpenSpec.ofChange recordNilWrong)

/-- 'fingerpostlaw05.RecordChecks': WHATEVER THE INPUT: true; the input reads as it did. -/
def recordChecksSpec : ChangeSpec := { name := "recordChecks", fn := fun _ => fun
  | [d1, d2] => { results := [.lit (.bool true)], args := [d1, d2] }
  | _ => none }
def recordChecksRow : OpenClaim := { program := "ytpdhdpefdgndeaa", sum := "cf25a97a70d2ba8b5f6f721d4875920265b28332398147bde57b9feb40f1a9d3", func := "fingerpost/fingerpostlaw05.RecordChecks", spec := "recordChecks", unfollowed := true, recurses := true, apart := false }
def RecordChecksSaid : Prop := recordChecksRow.holds Try.pinned (OpenSpec.ofChange recordChecksSpec)

/-- ITS FALSE NEIGHBOUR: 'it returns false'. Refute it at one input. -/
def recordChecksWrong : ChangeSpec := { name := "recordChecks", fn := fun _ => fun
  | [d1, d2] => { results := [.lit (.bool false)], args := [d1, d2] }
  | _ => none }
def RecordChecksWrongFalsely : Prop := recordChecksRow.holds Try.pinned (OpenSpec.ofChange recordChecksWrong)

/-- 'fingerpostlaw05.RecordAlike': WHATEVER THE INPUT: true; the input reads as it did. -/
def recordAlikeSpec : ChangeSpec := { name := "recordAlike", fn := fun _ => fun
  | [d1, d2] => { results := [.lit (.bool true)], args := [d1, d2] }
  | _ => none }
def recordAlikeRow : OpenClaim := { program := "ytpdhdpefdgndeaa", sum := "cf25a97a70d2ba8b5f6f721d4875920265b28332398147bde57b9feb40f1a9d3", func := "fingerpost/fingerpostlaw05.RecordAlike", spec := "recordAlike", unfollowed := true, recurses := true, apart := false }
def RecordAlikeSaid : Prop := recordAlikeRow.holds Try.pinned (OpenSpec.ofChange recordAlikeSpec)

/-- ITS FALSE NEIGHBOUR: 'it returns false'. Refute it at one input. -/
def recordAlikeWrong : ChangeSpec := { name := "recordAlike", fn := fun _ => fun
  | [d1, d2] => { results := [.lit (.bool false)], args := [d1, d2] }
  | _ => none }
def RecordAlikeWrongFalsely : Prop := recordAlikeRow.holds Try.pinned (OpenSpec.ofChange recordAlikeWrong)

/-- 'fingerpostlaw05.RecordSoas': WHATEVER THE INPUT: true; the input reads as it did. -/
def recordSoasSpec : ChangeSpec := { name := "recordSoas", fn := fun _ => fun
  | [d1, d2] => { results := [.lit (.bool true)], args := [d1, d2] }
  | _ => none }
def recordSoasRow : OpenClaim := { program := "ytpdhdpefdgndeaa", sum := "cf25a97a70d2ba8b5f6f721d4875920265b28332398147bde57b9feb40f1a9d3", func := "fingerpost/fingerpostlaw05.RecordSoas", spec := "recordSoas", unfollowed := true, recurses := true, apart := false }
def RecordSoasSaid : Prop := recordSoasRow.holds Try.pinned (OpenSpec.ofChange recordSoasSpec)

/-- ITS FALSE NEIGHBOUR: 'it returns false'. Refute it at one input. -/
def recordSoasWrong : ChangeSpec := { name := "recordSoas", fn := fun _ => fun
  | [d1, d2] => { results := [.lit (.bool false)], args := [d1, d2] }
  | _ => none }
def RecordSoasWrongFalsely : Prop := recordSoasRow.holds Try.pinned (OpenSpec.ofChange recordSoasWrong)

/-- 'fingerpostlaw06.MessageWrites': WHATEVER THE INPUT: true; the input reads as it did. -/
def messageWritesSpec : ChangeSpec := { name := "messageWrites", fn := fun _ => fun
  | [d] => { results := [.lit (.bool true)], args := [d] }
  | _ => none }
def messageWritesRow : OpenClaim := { program := "ytpdhdpefdgndeaa", sum := "cf25a97a70d2ba8b5f6f721d4875920265b28332398147bde57b9feb40f1a9d3", func := "fingerpost/fingerpostlaw06.MessageWrites", spec := "messageWrites", unfollowed := true, recurses := true, apart := false }
def MessageWritesSaid : Prop := messageWritesRow.holds Try.pinned (OpenSpec.ofChange messageWritesSpec)

/-- ITS FALSE NEIGHBOUR: 'it returns false'. Refute it at one input. -/
def messageWritesWrong : ChangeSpec := { name := "messageWrites", fn := fun _ => fun
  | [d] => { results := [.lit (.bool false)], args := [d] }
  | _ => none }
def MessageWritesWrongFalsely : Prop := messageWritesRow.holds Try.pinned (OpenSpec.ofChange messageWritesWrong)

/-- 'fingerpostlaw06.MessageReads': WHATEVER THE INPUT: true; the input reads as it did. -/
def messageReadsSpec : ChangeSpec := { name := "messageReads", fn := fun _ => fun
  | [d] => { results := [.lit (.bool true)], args := [d] }
  | _ => none }
def messageReadsRow : OpenClaim := { program := "ytpdhdpefdgndeaa", sum := "cf25a97a70d2ba8b5f6f721d4875920265b28332398147bde57b9feb40f1a9d3", func := "fingerpost/fingerpostlaw06.MessageReads", spec := "messageReads", unfollowed := true, recurses := true, apart := false }
def MessageReadsSaid : Prop := messageReadsRow.holds Try.pinned (OpenSpec.ofChange messageReadsSpec)

/-- ITS FALSE NEIGHBOUR: 'it returns false'. Refute it at one input. -/
def messageReadsWrong : ChangeSpec := { name := "messageReads", fn := fun _ => fun
  | [d] => { results := [.lit (.bool false)], args := [d] }
  | _ => none }
def MessageReadsWrongFalsely : Prop := messageReadsRow.holds Try.pinned (OpenSpec.ofChange messageReadsWrong)

/-- 'fingerpostlaw06.MessageBack': WHATEVER THE INPUT: true; the input reads as it did. -/
def messageBackSpec : ChangeSpec := { name := "messageBack", fn := fun _ => fun
  | [d1, d2] => { results := [.lit (.bool true)], args := [d1, d2] }
  | _ => none }
def messageBackRow : OpenClaim := { program := "ytpdhdpefdgndeaa", sum := "cf25a97a70d2ba8b5f6f721d4875920265b28332398147bde57b9feb40f1a9d3", func := "fingerpost/fingerpostlaw06.MessageBack", spec := "messageBack", unfollowed := true, recurses := true, apart := false }
def MessageBackSaid : Prop := messageBackRow.holds Try.pinned (OpenSpec.ofChange messageBackSpec)

/-- ITS FALSE NEIGHBOUR: 'it returns false'. Refute it at one input. -/
def messageBackWrong : ChangeSpec := { name := "messageBack", fn := fun _ => fun
  | [d1, d2] => { results := [.lit (.bool false)], args := [d1, d2] }
  | _ => none }
def MessageBackWrongFalsely : Prop := messageBackRow.holds Try.pinned (OpenSpec.ofChange messageBackWrong)

/-- 'fingerpostlaw06.MessageReplies': WHATEVER THE INPUT: true; the input reads as it did. -/
def messageRepliesSpec : ChangeSpec := { name := "messageReplies", fn := fun _ => fun
  | [d1, d2, d3] => { results := [.lit (.bool true)], args := [d1, d2, d3] }
  | _ => none }
def messageRepliesRow : OpenClaim := { program := "ytpdhdpefdgndeaa", sum := "cf25a97a70d2ba8b5f6f721d4875920265b28332398147bde57b9feb40f1a9d3", func := "fingerpost/fingerpostlaw06.MessageReplies", spec := "messageReplies", unfollowed := true, recurses := true, apart := false }
def MessageRepliesSaid : Prop := messageRepliesRow.holds Try.pinned (OpenSpec.ofChange messageRepliesSpec)

/-- ITS FALSE NEIGHBOUR: 'it returns false'. Refute it at one input. -/
def messageRepliesWrong : ChangeSpec := { name := "messageReplies", fn := fun _ => fun
  | [d1, d2, d3] => { results := [.lit (.bool false)], args := [d1, d2, d3] }
  | _ => none }
def MessageRepliesWrongFalsely : Prop := messageRepliesRow.holds Try.pinned (OpenSpec.ofChange messageRepliesWrong)

/-- 'fingerpostlaw06.MessageHeads': WHATEVER THE INPUT: true; the input reads as it did. -/
def messageHeadsSpec : ChangeSpec := { name := "messageHeads", fn := fun _ => fun
  | [d1, d2] => { results := [.lit (.bool true)], args := [d1, d2] }
  | _ => none }
def messageHeadsRow : OpenClaim := { program := "ytpdhdpefdgndeaa", sum := "cf25a97a70d2ba8b5f6f721d4875920265b28332398147bde57b9feb40f1a9d3", func := "fingerpost/fingerpostlaw06.MessageHeads", spec := "messageHeads", unfollowed := true, recurses := true, apart := false }
def MessageHeadsSaid : Prop := messageHeadsRow.holds Try.pinned (OpenSpec.ofChange messageHeadsSpec)

/-- ITS FALSE NEIGHBOUR: 'it returns false'. Refute it at one input. -/
def messageHeadsWrong : ChangeSpec := { name := "messageHeads", fn := fun _ => fun
  | [d1, d2] => { results := [.lit (.bool false)], args := [d1, d2] }
  | _ => none }
def MessageHeadsWrongFalsely : Prop := messageHeadsRow.holds Try.pinned (OpenSpec.ofChange messageHeadsWrong)

/-- 'fingerpostlaw06.MessageFits': WHATEVER THE INPUT: true; the input reads as it did. -/
def messageFitsSpec : ChangeSpec := { name := "messageFits", fn := fun _ => fun
  | [d1, d2] => { results := [.lit (.bool true)], args := [d1, d2] }
  | _ => none }
def messageFitsRow : OpenClaim := { program := "ytpdhdpefdgndeaa", sum := "cf25a97a70d2ba8b5f6f721d4875920265b28332398147bde57b9feb40f1a9d3", func := "fingerpost/fingerpostlaw06.MessageFits", spec := "messageFits", unfollowed := true, recurses := true, apart := false }
def MessageFitsSaid : Prop := messageFitsRow.holds Try.pinned (OpenSpec.ofChange messageFitsSpec)

/-- ITS FALSE NEIGHBOUR: 'it returns false'. Refute it at one input. -/
def messageFitsWrong : ChangeSpec := { name := "messageFits", fn := fun _ => fun
  | [d1, d2] => { results := [.lit (.bool false)], args := [d1, d2] }
  | _ => none }
def MessageFitsWrongFalsely : Prop := messageFitsRow.holds Try.pinned (OpenSpec.ofChange messageFitsWrong)

/- THE SECOND FORM. 'bulk': how many values and letters a reading holds, each counted each time it is reached (what is shared counts as often as it is met; a slice's spare places count too). A statement '..UptoSaid' is the law's where the arguments, and the package variables that the reading takes, are together of bulk at most 1048576: NARROWER than '..Said'. Prove '..Said' where nothing that the law and all that it calls make is longer than what came in: it says more and counts as full. Else prove '..UptoSaid'. A law counts once. -/
mutual
def uptoBulk {H : Type} : DataW H → Nat
  | .lit (.string bytes) => bytes.length + 1
  | .lit _ => 1
  | .nil => 1
  | .ptr d => uptoBulk d + 1
  | .slice elems spare => uptoBulkAll elems + uptoBulkAll spare + 1
  | .agg parts => uptoBulkAll parts + 1
  | .iface _ d => uptoBulk d + 1
  | .map entries => uptoBulkEntries entries + 1
  | .held _ => 1
def uptoBulkAll {H : Type} : List (DataW H) → Nat
  | [] => 0
  | d :: r => uptoBulk d + uptoBulkAll r
def uptoBulkEntries {H : Type} : List (Lit × DataW H) → Nat
  | [] => 0
  | x :: r => uptoBulkEntry x + uptoBulkEntries r
def uptoBulkEntry {H : Type} : Lit × DataW H → Nat
  | (.string bytes, d) => bytes.length + uptoBulk d + 1
  | (_, d) => uptoBulk d + 1
 end
def uptoSmall : (H : Type) → List (DataW H) → Bool := fun _ ds => decide (uptoBulkAll ds ≤ 1048576)
def OpenSpec.upto (s : _root_.Go.ChangeSpec) : _root_.Go.OpenSpec := { _root_.Go.OpenSpec.ofChange s with cond := some uptoSmall }

/-- 'fingerpostlaw05.RecordReads', WHERE WHAT IT READS IS OF BULK AT MOST 1048576: true; the input reads as it did. -/
def recordReadsUptoRow : OpenClaim := { program := "ytpdhdpefdgndeaa", sum := "cf25a97a70d2ba8b5f6f721d4875920265b28332398147bde57b9feb40f1a9d3", func := "fingerpost/fingerpostlaw05.RecordReads", spec := "recordReads", unfollowed := true, recurses := true, apart := false, narrowed := true }
def RecordReadsUptoSaid : Prop := recordReadsUptoRow.holds Try.pinned (OpenSpec.upto recordReadsSpec)

/-- 'fingerpostlaw05.RecordWrites', WHERE WHAT IT READS IS OF BULK AT MOST 1048576: true; the input reads as it did. -/
def recordWritesUptoRow : OpenClaim := { program := "ytpdhdpefdgndeaa", sum := "cf25a97a70d2ba8b5f6f721d4875920265b28332398147bde57b9feb40f1a9d3", func := "fingerpost/fingerpostlaw05.RecordWrites", spec := "recordWrites", unfollowed := true, recurses := true, apart := false, narrowed := true }
def RecordWritesUptoSaid : Prop := recordWritesUptoRow.holds Try.pinned (OpenSpec.upto recordWritesSpec)

/-- 'fingerpostlaw05.RecordBack', WHERE WHAT IT READS IS OF BULK AT MOST 1048576: true; the input reads as it did. -/
def recordBackUptoRow : OpenClaim := { program := "ytpdhdpefdgndeaa", sum := "cf25a97a70d2ba8b5f6f721d4875920265b28332398147bde57b9feb40f1a9d3", func := "fingerpost/fingerpostlaw05.RecordBack", spec := "recordBack", unfollowed := true, recurses := true, apart := false, narrowed := true }
def RecordBackUptoSaid : Prop := recordBackUptoRow.holds Try.pinned (OpenSpec.upto recordBackSpec)

/-- 'fingerpostlaw05.RecordNil', WHERE WHAT IT READS IS OF BULK AT MOST 1048576: true; the input reads as it did. -/
def recordNilUptoRow : OpenClaim := { program := "ytpdhdpefdgndeaa", sum := "cf25a97a70d2ba8b5f6f721d4875920265b28332398147bde57b9feb40f1a9d3", func := "fingerpost/fingerpostlaw05.RecordNil", spec := "recordNil", unfollowed := true, recurses := true, apart := false, narrowed := true }
def RecordNilUptoSaid : Prop := recordNilUptoRow.holds Try.pinned (OpenSpec.upto recordNilSpec)

/-- 'fingerpostlaw05.RecordChecks', WHERE WHAT IT READS IS OF BULK AT MOST 1048576: true; the input reads as it did. -/
def recordChecksUptoRow : OpenClaim := { program := "ytpdhdpefdgndeaa", sum := "cf25a97a70d2ba8b5f6f721d4875920265b28332398147bde57b9feb40f1a9d3", func := "fingerpost/fingerpostlaw05.RecordChecks", spec := "recordChecks", unfollowed := true, recurses := true, apart := false, narrowed := true }
def RecordChecksUptoSaid : Prop := recordChecksUptoRow.holds Try.pinned (OpenSpec.upto recordChecksSpec)

/-- 'fingerpostlaw05.RecordAlike', WHERE WHAT IT READS IS OF BULK AT MOST 1048576: true; the input reads as it did. -/
def recordAlikeUptoRow : OpenClaim := { program := "ytpdhdpefdgndeaa", sum := "cf25a97a70d2ba8b5f6f721d4875920265b28332398147bde57b9feb40f1a9d3", func := "fingerpost/fingerpostlaw05.RecordAlike", spec := "recordAlike", unfollowed := true, recurses := true, apart := false, narrowed := true }
def RecordAlikeUptoSaid : Prop := recordAlikeUptoRow.holds Try.pinned (OpenSpec.upto recordAlikeSpec)

/-- 'fingerpostlaw05.RecordSoas', WHERE WHAT IT READS IS OF BULK AT MOST 1048576: true; the input reads as it did. -/
def recordSoasUptoRow : OpenClaim := { program := "ytpdhdpefdgndeaa", sum := "cf25a97a70d2ba8b5f6f721d4875920265b28332398147bde57b9feb40f1a9d3", func := "fingerpost/fingerpostlaw05.RecordSoas", spec := "recordSoas", unfollowed := true, recurses := true, apart := false, narrowed := true }
def RecordSoasUptoSaid : Prop := recordSoasUptoRow.holds Try.pinned (OpenSpec.upto recordSoasSpec)

/-- 'fingerpostlaw06.MessageWrites', WHERE WHAT IT READS IS OF BULK AT MOST 1048576: true; the input reads as it did. -/
def messageWritesUptoRow : OpenClaim := { program := "ytpdhdpefdgndeaa", sum := "cf25a97a70d2ba8b5f6f721d4875920265b28332398147bde57b9feb40f1a9d3", func := "fingerpost/fingerpostlaw06.MessageWrites", spec := "messageWrites", unfollowed := true, recurses := true, apart := false, narrowed := true }
def MessageWritesUptoSaid : Prop := messageWritesUptoRow.holds Try.pinned (OpenSpec.upto messageWritesSpec)

/-- 'fingerpostlaw06.MessageReads', WHERE WHAT IT READS IS OF BULK AT MOST 1048576: true; the input reads as it did. -/
def messageReadsUptoRow : OpenClaim := { program := "ytpdhdpefdgndeaa", sum := "cf25a97a70d2ba8b5f6f721d4875920265b28332398147bde57b9feb40f1a9d3", func := "fingerpost/fingerpostlaw06.MessageReads", spec := "messageReads", unfollowed := true, recurses := true, apart := false, narrowed := true }
def MessageReadsUptoSaid : Prop := messageReadsUptoRow.holds Try.pinned (OpenSpec.upto messageReadsSpec)

/-- 'fingerpostlaw06.MessageBack', WHERE WHAT IT READS IS OF BULK AT MOST 1048576: true; the input reads as it did. -/
def messageBackUptoRow : OpenClaim := { program := "ytpdhdpefdgndeaa", sum := "cf25a97a70d2ba8b5f6f721d4875920265b28332398147bde57b9feb40f1a9d3", func := "fingerpost/fingerpostlaw06.MessageBack", spec := "messageBack", unfollowed := true, recurses := true, apart := false, narrowed := true }
def MessageBackUptoSaid : Prop := messageBackUptoRow.holds Try.pinned (OpenSpec.upto messageBackSpec)

/-- 'fingerpostlaw06.MessageReplies', WHERE WHAT IT READS IS OF BULK AT MOST 1048576: true; the input reads as it did. -/
def messageRepliesUptoRow : OpenClaim := { program := "ytpdhdpefdgndeaa", sum := "cf25a97a70d2ba8b5f6f721d4875920265b28332398147bde57b9feb40f1a9d3", func := "fingerpost/fingerpostlaw06.MessageReplies", spec := "messageReplies", unfollowed := true, recurses := true, apart := false, narrowed := true }
def MessageRepliesUptoSaid : Prop := messageRepliesUptoRow.holds Try.pinned (OpenSpec.upto messageRepliesSpec)

/-- 'fingerpostlaw06.MessageHeads', WHERE WHAT IT READS IS OF BULK AT MOST 1048576: true; the input reads as it did. -/
def messageHeadsUptoRow : OpenClaim := { program := "ytpdhdpefdgndeaa", sum := "cf25a97a70d2ba8b5f6f721d4875920265b28332398147bde57b9feb40f1a9d3", func := "fingerpost/fingerpostlaw06.MessageHeads", spec := "messageHeads", unfollowed := true, recurses := true, apart := false, narrowed := true }
def MessageHeadsUptoSaid : Prop := messageHeadsUptoRow.holds Try.pinned (OpenSpec.upto messageHeadsSpec)

/-- 'fingerpostlaw06.MessageFits', WHERE WHAT IT READS IS OF BULK AT MOST 1048576: true; the input reads as it did. -/
def messageFitsUptoRow : OpenClaim := { program := "ytpdhdpefdgndeaa", sum := "cf25a97a70d2ba8b5f6f721d4875920265b28332398147bde57b9feb40f1a9d3", func := "fingerpost/fingerpostlaw06.MessageFits", spec := "messageFits", unfollowed := true, recurses := true, apart := false, narrowed := true }
def MessageFitsUptoSaid : Prop := messageFitsUptoRow.holds Try.pinned (OpenSpec.upto messageFitsSpec)

end Rows
end Go.Proofs.Ytpdhdpefdgndeaa
