/-
  No cell of these rows narrows 'for every input' (looked for: loops, veiled, ifaces, maps, wideKeys, modest, calm, conditions, laid).
  DERIVED. THE GIVEN ROWS OF THIS SEAT. 12 by the template 'for every input the law returns true; each argument reads behind the call as it read before'; 0 by the template 'total and deterministic' (their statements: YtildknbbpkbkeaaTotals.lean).
  GIVEN WITH THE SEED: the statements are not yours to turn. If you find one false, say at which input.
  Laid BY PROGRAM, IN A SANDBOX (cutbox-rows.mjs): the forced cells as the released guide's own fill.sh prints them over the translation 430b97a75b8339a0… (all of the seat's roots in one cut). By AI agents, Wed Nov 11 2026. No macro, syntax, notation, axiom, sorry.
-/
import Derived.Test.YtildknbbpkbkeaaChecked
import GoSem.Claim
import GoSem.ClaimJoined
import GoSem.ClaimMapViews
import Derived.JoinedTies
import Derived.KernelRfl
namespace Go.Proofs.Ytildknbbpkbkeaa
/- THE CELL 'sum', in the pinned program and in every row, IS THE sha256 OF THE DUMP (.gsa) THAT YtildknbbpkbkeaaProg.lean LOADS. Nothing in Lean hashes anything: it is a label: what it is worth is what the hold of that sum in a sandbox is worth. -/
noncomputable def Try.pinned : Pinned := { name := "ytildknbbpkbkeaa", sum := "430b97a75b8339a002384a38b46e2aa957fe31906ee77a3bd31adb75c06c7d36", checked := Try.checked }
namespace Rows
def none {H : Type} : Left H := { results := [], args := [] }

/-- 'fingerpostlaw11.PlogNewer': WHATEVER THE INPUT: true; the input reads as it did. -/
def plogNewerSpec : ChangeSpec := { name := "plogNewer", fn := fun _ => fun
  | [d1, d2, d3] => { results := [.lit (.bool true)], args := [d1, d2, d3] }
  | _ => none }
def plogNewerRow : OpenClaim := { program := "ytildknbbpkbkeaa", sum := "430b97a75b8339a002384a38b46e2aa957fe31906ee77a3bd31adb75c06c7d36", func := "fingerpost/fingerpostlaw11.PlogNewer", spec := "plogNewer", apart := false }
def PlogNewerSaid : Prop := plogNewerRow.holds Try.pinned (OpenSpec.ofChange plogNewerSpec)

/-- ITS FALSE NEIGHBOUR: 'it returns false'. Refute it at one input. -/
def plogNewerWrong : ChangeSpec := { name := "plogNewer", fn := fun _ => fun
  | [d1, d2, d3] => { results := [.lit (.bool false)], args := [d1, d2, d3] }
  | _ => none }
def PlogNewerWrongFalsely : Prop := plogNewerRow.holds Try.pinned (OpenSpec.ofChange plogNewerWrong)

/-- 'fingerpostlaw11.PlogMatch': WHATEVER THE INPUT: true; the input reads as it did. -/
def plogMatchSpec : ChangeSpec := { name := "plogMatch", fn := fun _ => fun
  | [d1, d2, d3] => { results := [.lit (.bool true)], args := [d1, d2, d3] }
  | _ => none }
def plogMatchRow : OpenClaim := { program := "ytildknbbpkbkeaa", sum := "430b97a75b8339a002384a38b46e2aa957fe31906ee77a3bd31adb75c06c7d36", func := "fingerpost/fingerpostlaw11.PlogMatch", spec := "plogMatch", apart := false }
def PlogMatchSaid : Prop := plogMatchRow.holds Try.pinned (OpenSpec.ofChange plogMatchSpec)

/-- ITS FALSE NEIGHBOUR: 'it returns false'. Refute it at one input. -/
def plogMatchWrong : ChangeSpec := { name := "plogMatch", fn := fun _ => fun
  | [d1, d2, d3] => { results := [.lit (.bool false)], args := [d1, d2, d3] }
  | _ => none }
def PlogMatchWrongFalsely : Prop := plogMatchRow.holds Try.pinned (OpenSpec.ofChange plogMatchWrong)

/-- 'fingerpostlaw11.PlogVoters': WHATEVER THE INPUT: true; the input reads as it did. -/
def plogVotersSpec : ChangeSpec := { name := "plogVoters", fn := fun _ => fun
  | [d1, d2, d3] => { results := [.lit (.bool true)], args := [d1, d2, d3] }
  | _ => none }
def plogVotersRow : OpenClaim := { program := "ytildknbbpkbkeaa", sum := "430b97a75b8339a002384a38b46e2aa957fe31906ee77a3bd31adb75c06c7d36", func := "fingerpost/fingerpostlaw11.PlogVoters", spec := "plogVoters", apart := false }
def PlogVotersSaid : Prop := plogVotersRow.holds Try.pinned (OpenSpec.ofChange plogVotersSpec)

/-- ITS FALSE NEIGHBOUR: 'it returns false'. Refute it at one input. -/
def plogVotersWrong : ChangeSpec := { name := "plogVoters", fn := fun _ => fun
  | [d1, d2, d3] => { results := [.lit (.bool false)], args := [d1, d2, d3] }
  | _ => none }
def PlogVotersWrongFalsely : Prop := plogVotersRow.holds Try.pinned (OpenSpec.ofChange plogVotersWrong)

/-- 'fingerpostlaw11.PlogAsks': WHATEVER THE INPUT: true; the input reads as it did. -/
def plogAsksSpec : ChangeSpec := { name := "plogAsks", fn := fun _ => fun
  | [d1, d2, d3] => { results := [.lit (.bool true)], args := [d1, d2, d3] }
  | _ => none }
def plogAsksRow : OpenClaim := { program := "ytildknbbpkbkeaa", sum := "430b97a75b8339a002384a38b46e2aa957fe31906ee77a3bd31adb75c06c7d36", func := "fingerpost/fingerpostlaw11.PlogAsks", spec := "plogAsks", apart := false }
def PlogAsksSaid : Prop := plogAsksRow.holds Try.pinned (OpenSpec.ofChange plogAsksSpec)

/-- ITS FALSE NEIGHBOUR: 'it returns false'. Refute it at one input. -/
def plogAsksWrong : ChangeSpec := { name := "plogAsks", fn := fun _ => fun
  | [d1, d2, d3] => { results := [.lit (.bool false)], args := [d1, d2, d3] }
  | _ => none }
def PlogAsksWrongFalsely : Prop := plogAsksRow.holds Try.pinned (OpenSpec.ofChange plogAsksWrong)

/-- 'fingerpostlaw11.PlogSaves': WHATEVER THE INPUT: true; the input reads as it did. -/
def plogSavesSpec : ChangeSpec := { name := "plogSaves", fn := fun _ => fun
  | [d1, d2] => { results := [.lit (.bool true)], args := [d1, d2] }
  | _ => none }
def plogSavesRow : OpenClaim := { program := "ytildknbbpkbkeaa", sum := "430b97a75b8339a002384a38b46e2aa957fe31906ee77a3bd31adb75c06c7d36", func := "fingerpost/fingerpostlaw11.PlogSaves", spec := "plogSaves", apart := false }
def PlogSavesSaid : Prop := plogSavesRow.holds Try.pinned (OpenSpec.ofChange plogSavesSpec)

/-- ITS FALSE NEIGHBOUR: 'it returns false'. Refute it at one input. -/
def plogSavesWrong : ChangeSpec := { name := "plogSaves", fn := fun _ => fun
  | [d1, d2] => { results := [.lit (.bool false)], args := [d1, d2] }
  | _ => none }
def PlogSavesWrongFalsely : Prop := plogSavesRow.holds Try.pinned (OpenSpec.ofChange plogSavesWrong)

/-- 'fingerpostlaw04.PackNames': WHATEVER THE INPUT: true; the input reads as it did. -/
def packNamesSpec : ChangeSpec := { name := "packNames", fn := fun _ => fun
  | [d1, d2] => { results := [.lit (.bool true)], args := [d1, d2] }
  | _ => none }
def packNamesRow : OpenClaim := { program := "ytildknbbpkbkeaa", sum := "430b97a75b8339a002384a38b46e2aa957fe31906ee77a3bd31adb75c06c7d36", func := "fingerpost/fingerpostlaw04.PackNames", spec := "packNames", unfollowed := true, recurses := true, apart := false }
def PackNamesSaid : Prop := packNamesRow.holds Try.pinned (OpenSpec.ofChange packNamesSpec)

/-- ITS FALSE NEIGHBOUR: 'it returns false'. Refute it at one input. -/
def packNamesWrong : ChangeSpec := { name := "packNames", fn := fun _ => fun
  | [d1, d2] => { results := [.lit (.bool false)], args := [d1, d2] }
  | _ => none }
def PackNamesWrongFalsely : Prop := packNamesRow.holds Try.pinned (OpenSpec.ofChange packNamesWrong)

/-- 'fingerpostlaw04.PackReads': WHATEVER THE INPUT: true; the input reads as it did. -/
def packReadsSpec : ChangeSpec := { name := "packReads", fn := fun _ => fun
  | [d1, d2, d3] => { results := [.lit (.bool true)], args := [d1, d2, d3] }
  | _ => none }
def packReadsRow : OpenClaim := { program := "ytildknbbpkbkeaa", sum := "430b97a75b8339a002384a38b46e2aa957fe31906ee77a3bd31adb75c06c7d36", func := "fingerpost/fingerpostlaw04.PackReads", spec := "packReads", unfollowed := true, recurses := true, apart := false }
def PackReadsSaid : Prop := packReadsRow.holds Try.pinned (OpenSpec.ofChange packReadsSpec)

/-- ITS FALSE NEIGHBOUR: 'it returns false'. Refute it at one input. -/
def packReadsWrong : ChangeSpec := { name := "packReads", fn := fun _ => fun
  | [d1, d2, d3] => { results := [.lit (.bool false)], args := [d1, d2, d3] }
  | _ => none }
def PackReadsWrongFalsely : Prop := packReadsRow.holds Try.pinned (OpenSpec.ofChange packReadsWrong)

/-- 'fingerpostlaw04.PackBack': WHATEVER THE INPUT: true; the input reads as it did. -/
def packBackSpec : ChangeSpec := { name := "packBack", fn := fun _ => fun
  | [d] => { results := [.lit (.bool true)], args := [d] }
  | _ => none }
def packBackRow : OpenClaim := { program := "ytildknbbpkbkeaa", sum := "430b97a75b8339a002384a38b46e2aa957fe31906ee77a3bd31adb75c06c7d36", func := "fingerpost/fingerpostlaw04.PackBack", spec := "packBack", unfollowed := true, recurses := true, apart := false }
def PackBackSaid : Prop := packBackRow.holds Try.pinned (OpenSpec.ofChange packBackSpec)

/-- ITS FALSE NEIGHBOUR: 'it returns false'. Refute it at one input. -/
def packBackWrong : ChangeSpec := { name := "packBack", fn := fun _ => fun
  | [d] => { results := [.lit (.bool false)], args := [d] }
  | _ => none }
def PackBackWrongFalsely : Prop := packBackRow.holds Try.pinned (OpenSpec.ofChange packBackWrong)

/-- 'fingerpostlaw04.PackShort': WHATEVER THE INPUT: true; the input reads as it did. -/
def packShortSpec : ChangeSpec := { name := "packShort", fn := fun _ => fun
  | [d] => { results := [.lit (.bool true)], args := [d] }
  | _ => none }
def packShortRow : OpenClaim := { program := "ytildknbbpkbkeaa", sum := "430b97a75b8339a002384a38b46e2aa957fe31906ee77a3bd31adb75c06c7d36", func := "fingerpost/fingerpostlaw04.PackShort", spec := "packShort", unfollowed := true, recurses := true, apart := false }
def PackShortSaid : Prop := packShortRow.holds Try.pinned (OpenSpec.ofChange packShortSpec)

/-- ITS FALSE NEIGHBOUR: 'it returns false'. Refute it at one input. -/
def packShortWrong : ChangeSpec := { name := "packShort", fn := fun _ => fun
  | [d] => { results := [.lit (.bool false)], args := [d] }
  | _ => none }
def PackShortWrongFalsely : Prop := packShortRow.holds Try.pinned (OpenSpec.ofChange packShortWrong)

/-- 'fingerpostlaw04.PackPlays': WHATEVER THE INPUT: true; the input reads as it did. -/
def packPlaysSpec : ChangeSpec := { name := "packPlays", fn := fun _ => fun
  | [d1, d2] => { results := [.lit (.bool true)], args := [d1, d2] }
  | _ => none }
def packPlaysRow : OpenClaim := { program := "ytildknbbpkbkeaa", sum := "430b97a75b8339a002384a38b46e2aa957fe31906ee77a3bd31adb75c06c7d36", func := "fingerpost/fingerpostlaw04.PackPlays", spec := "packPlays", unfollowed := true, recurses := true, apart := false }
def PackPlaysSaid : Prop := packPlaysRow.holds Try.pinned (OpenSpec.ofChange packPlaysSpec)

/-- ITS FALSE NEIGHBOUR: 'it returns false'. Refute it at one input. -/
def packPlaysWrong : ChangeSpec := { name := "packPlays", fn := fun _ => fun
  | [d1, d2] => { results := [.lit (.bool false)], args := [d1, d2] }
  | _ => none }
def PackPlaysWrongFalsely : Prop := packPlaysRow.holds Try.pinned (OpenSpec.ofChange packPlaysWrong)

/-- 'fingerpostlaw04.PackNil': WHATEVER THE INPUT: true; the input reads as it did. -/
def packNilSpec : ChangeSpec := { name := "packNil", fn := fun _ => fun
  | [d] => { results := [.lit (.bool true)], args := [d] }
  | _ => none }
def packNilRow : OpenClaim := { program := "ytildknbbpkbkeaa", sum := "430b97a75b8339a002384a38b46e2aa957fe31906ee77a3bd31adb75c06c7d36", func := "fingerpost/fingerpostlaw04.PackNil", spec := "packNil", unfollowed := true, recurses := true, apart := false }
def PackNilSaid : Prop := packNilRow.holds Try.pinned (OpenSpec.ofChange packNilSpec)

/-- ITS FALSE NEIGHBOUR: 'it returns false'. Refute it at one input. -/
def packNilWrong : ChangeSpec := { name := "packNil", fn := fun _ => fun
  | [d] => { results := [.lit (.bool false)], args := [d] }
  | _ => none }
def PackNilWrongFalsely : Prop := packNilRow.holds Try.pinned (OpenSpec.ofChange packNilWrong)

/-- 'fingerpostlaw11.PlogLoads': WHATEVER THE INPUT: true; the input reads as it did. -/
def plogLoadsSpec : ChangeSpec := { name := "plogLoads", fn := fun _ => fun
  | [d] => { results := [.lit (.bool true)], args := [d] }
  | _ => none }
def plogLoadsRow : OpenClaim := { program := "ytildknbbpkbkeaa", sum := "430b97a75b8339a002384a38b46e2aa957fe31906ee77a3bd31adb75c06c7d36", func := "fingerpost/fingerpostlaw11.PlogLoads", spec := "plogLoads", unfollowed := true, recurses := true, apart := false }
def PlogLoadsSaid : Prop := plogLoadsRow.holds Try.pinned (OpenSpec.ofChange plogLoadsSpec)

/-- ITS FALSE NEIGHBOUR: 'it returns false'. Refute it at one input. -/
def plogLoadsWrong : ChangeSpec := { name := "plogLoads", fn := fun _ => fun
  | [d] => { results := [.lit (.bool false)], args := [d] }
  | _ => none }
def PlogLoadsWrongFalsely : Prop := plogLoadsRow.holds Try.pinned (OpenSpec.ofChange plogLoadsWrong)

/- THE SECOND FORM. 'bulk': how many values and letters a reading holds, each counted each time it is reached (what is shared counts as often as it is met; a slice's spare places count too). A statement '..UptoSaid' is the law's where the arguments, and the package variables that the reading takes, are together of bulk at most 1048576: NARROWER than '..Said'. Prove '..Said' where nothing that the law and all that it calls make is longer than what came in: it says more and counts as full. Else prove '..UptoSaid'. A law counts once. -/
mutual
def uptoBulk {H : Type} : DataW H → Nat
  | .lit (.string bytes) => bytes.length + 1
  | .lit _ => 1
  | .nil => 1
  | .ptr d => uptoBulk d + 1
  | .slice elems spare => uptoBulkAll elems + uptoBulkAll spare + 1
  | .agg parts => uptoBulkAll parts + 1
  | .iface _ d => uptoBulk d + 1
  | .map entries => uptoBulkEntries entries + 1
  | .held _ => 1
def uptoBulkAll {H : Type} : List (DataW H) → Nat
  | [] => 0
  | d :: r => uptoBulk d + uptoBulkAll r
def uptoBulkEntries {H : Type} : List (Lit × DataW H) → Nat
  | [] => 0
  | x :: r => uptoBulkEntry x + uptoBulkEntries r
def uptoBulkEntry {H : Type} : Lit × DataW H → Nat
  | (.string bytes, d) => bytes.length + uptoBulk d + 1
  | (_, d) => uptoBulk d + 1
 end
def uptoSmall : (H : Type) → List (DataW H) → Bool := fun _ ds => decide (uptoBulkAll ds ≤ 1048576)
def OpenSpec.upto (s : _root_.Go.ChangeSpec) : _root_.Go.OpenSpec := { _root_.Go.OpenSpec.ofChange s with cond := some uptoSmall }

/-- 'fingerpostlaw11.PlogNewer', WHERE WHAT IT READS IS OF BULK AT MOST 1048576: true; the input reads as it did. -/
def plogNewerUptoRow : OpenClaim := { program := "ytildknbbpkbkeaa", sum := "430b97a75b8339a002384a38b46e2aa957fe31906ee77a3bd31adb75c06c7d36", func := "fingerpost/fingerpostlaw11.PlogNewer", spec := "plogNewer", apart := false, narrowed := true }
def PlogNewerUptoSaid : Prop := plogNewerUptoRow.holds Try.pinned (OpenSpec.upto plogNewerSpec)

/-- 'fingerpostlaw11.PlogMatch', WHERE WHAT IT READS IS OF BULK AT MOST 1048576: true; the input reads as it did. -/
def plogMatchUptoRow : OpenClaim := { program := "ytildknbbpkbkeaa", sum := "430b97a75b8339a002384a38b46e2aa957fe31906ee77a3bd31adb75c06c7d36", func := "fingerpost/fingerpostlaw11.PlogMatch", spec := "plogMatch", apart := false, narrowed := true }
def PlogMatchUptoSaid : Prop := plogMatchUptoRow.holds Try.pinned (OpenSpec.upto plogMatchSpec)

/-- 'fingerpostlaw11.PlogVoters', WHERE WHAT IT READS IS OF BULK AT MOST 1048576: true; the input reads as it did. -/
def plogVotersUptoRow : OpenClaim := { program := "ytildknbbpkbkeaa", sum := "430b97a75b8339a002384a38b46e2aa957fe31906ee77a3bd31adb75c06c7d36", func := "fingerpost/fingerpostlaw11.PlogVoters", spec := "plogVoters", apart := false, narrowed := true }
def PlogVotersUptoSaid : Prop := plogVotersUptoRow.holds Try.pinned (OpenSpec.upto plogVotersSpec)

/-- 'fingerpostlaw11.PlogAsks', WHERE WHAT IT READS IS OF BULK AT MOST 1048576: true; the input reads as it did. -/
def plogAsksUptoRow : OpenClaim := { program := "ytildknbbpkbkeaa", sum := "430b97a75b8339a002384a38b46e2aa957fe31906ee77a3bd31adb75c06c7d36", func := "fingerpost/fingerpostlaw11.PlogAsks", spec := "plogAsks", apart := false, narrowed := true }
def PlogAsksUptoSaid : Prop := plogAsksUptoRow.holds Try.pinned (OpenSpec.upto plogAsksSpec)

/-- 'fingerpostlaw11.PlogSaves', WHERE WHAT IT READS IS OF BULK AT MOST 1048576: true; the input reads as it did. -/
def plogSavesUptoRow : OpenClaim := { program := "ytildknbbpkbkeaa", sum := "430b97a75b8339a002384a38b46e2aa957fe31906ee77a3bd31adb75c06c7d36", func := "fingerpost/fingerpostlaw11.PlogSaves", spec := "plogSaves", apart := false, narrowed := true }
def PlogSavesUptoSaid : Prop := plogSavesUptoRow.holds Try.pinned (OpenSpec.upto plogSavesSpec)

/-- 'fingerpostlaw04.PackNames', WHERE WHAT IT READS IS OF BULK AT MOST 1048576: true; the input reads as it did. -/
def packNamesUptoRow : OpenClaim := { program := "ytildknbbpkbkeaa", sum := "430b97a75b8339a002384a38b46e2aa957fe31906ee77a3bd31adb75c06c7d36", func := "fingerpost/fingerpostlaw04.PackNames", spec := "packNames", unfollowed := true, recurses := true, apart := false, narrowed := true }
def PackNamesUptoSaid : Prop := packNamesUptoRow.holds Try.pinned (OpenSpec.upto packNamesSpec)

/-- 'fingerpostlaw04.PackReads', WHERE WHAT IT READS IS OF BULK AT MOST 1048576: true; the input reads as it did. -/
def packReadsUptoRow : OpenClaim := { program := "ytildknbbpkbkeaa", sum := "430b97a75b8339a002384a38b46e2aa957fe31906ee77a3bd31adb75c06c7d36", func := "fingerpost/fingerpostlaw04.PackReads", spec := "packReads", unfollowed := true, recurses := true, apart := false, narrowed := true }
def PackReadsUptoSaid : Prop := packReadsUptoRow.holds Try.pinned (OpenSpec.upto packReadsSpec)

/-- 'fingerpostlaw04.PackBack', WHERE WHAT IT READS IS OF BULK AT MOST 1048576: true; the input reads as it did. -/
def packBackUptoRow : OpenClaim := { program := "ytildknbbpkbkeaa", sum := "430b97a75b8339a002384a38b46e2aa957fe31906ee77a3bd31adb75c06c7d36", func := "fingerpost/fingerpostlaw04.PackBack", spec := "packBack", unfollowed := true, recurses := true, apart := false, narrowed := true }
def PackBackUptoSaid : Prop := packBackUptoRow.holds Try.pinned (OpenSpec.upto packBackSpec)

/-- 'fingerpostlaw04.PackShort', WHERE WHAT IT READS IS OF BULK AT MOST 1048576: true; the input reads as it did. -/
def packShortUptoRow : OpenClaim := { program := "ytildknbbpkbkeaa", sum := "430b97a75b8339a002384a38b46e2aa957fe31906ee77a3bd31adb75c06c7d36", func := "fingerpost/fingerpostlaw04.PackShort", spec := "packShort", unfollowed := true, recurses := true, apart := false, narrowed := true }
def PackShortUptoSaid : Prop := packShortUptoRow.holds Try.pinned (OpenSpec.upto packShortSpec)

/-- 'fingerpostlaw04.PackPlays', WHERE WHAT IT READS IS OF BULK AT MOST 1048576: true; the input reads as it did. -/
def packPlaysUptoRow : OpenClaim := { program := "ytildknbbpkbkeaa", sum := "430b97a75b8339a002384a38b46e2aa957fe31906ee77a3bd31adb75c06c7d36", func := "fingerpost/fingerpostlaw04.PackPlays", spec := "packPlays", unfollowed := true, recurses := true, apart := false, narrowed := true }
def PackPlaysUptoSaid : Prop := packPlaysUptoRow.holds Try.pinned (OpenSpec.upto packPlaysSpec)

/-- 'fingerpostlaw04.PackNil', WHERE WHAT IT READS IS OF BULK AT MOST 1048576: true; the input reads as it did. -/
def packNilUptoRow : OpenClaim := { program := "ytildknbbpkbkeaa", sum := "430b97a75b8339a002384a38b46e2aa957fe31906ee77a3bd31adb75c06c7d36", func := "fingerpost/fingerpostlaw04.PackNil", spec := "packNil", unfollowed := true, recurses := true, apart := false, narrowed := true }
def PackNilUptoSaid : Prop := packNilUptoRow.holds Try.pinned (OpenSpec.upto packNilSpec)

/-- 'fingerpostlaw11.PlogLoads', WHERE WHAT IT READS IS OF BULK AT MOST 1048576: true; the input reads as it did. -/
def plogLoadsUptoRow : OpenClaim := { program := "ytildknbbpkbkeaa", sum := "430b97a75b8339a002384a38b46e2aa957fe31906ee77a3bd31adb75c06c7d36", func := "fingerpost/fingerpostlaw11.PlogLoads", spec := "plogLoads", unfollowed := true, recurses := true, apart := false, narrowed := true }
def PlogLoadsUptoSaid : Prop := plogLoadsUptoRow.holds Try.pinned (OpenSpec.upto plogLoadsSpec)

end Rows
end Go.Proofs.Ytildknbbpkbkeaa
