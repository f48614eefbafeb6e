/-
  No cell of these rows narrows 'for every input' (looked for: loops, veiled, ifaces, maps, wideKeys, modest, calm, conditions, laid).
  DERIVED. THE GIVEN ROWS OF THIS SEAT. 11 by the template 'for every input the law returns true; each argument reads behind the call as it read before'; 0 by the template 'total and deterministic' (their statements: YtdcfemndfnfedaaTotals.lean).
  GIVEN WITH THE SEED: the statements are not yours to turn. If you find one false, say at which input.
  Laid BY PROGRAM, IN A SANDBOX (cutbox-rows.mjs): the forced cells as the released guide's own fill.sh prints them over the translation bc55b05aa54e81af… (all of the seat's roots in one cut). By AI agents, Wed Nov 11 2026. No macro, syntax, notation, axiom, sorry.
-/
import Derived.Test.YtdcfemndfnfedaaChecked
import GoSem.Claim
import GoSem.ClaimJoined
import GoSem.ClaimMapViews
import Derived.JoinedTies
import Derived.KernelRfl
namespace Go.Proofs.Ytdcfemndfnfedaa
/- THE CELL 'sum', in the pinned program and in every row, IS THE sha256 OF THE DUMP (.gsa) THAT YtdcfemndfnfedaaProg.lean LOADS. Nothing in Lean hashes anything: it is a label: what it is worth is what the hold of that sum in a sandbox is worth. -/
noncomputable def Try.pinned : Pinned := { name := "ytdcfemndfnfedaa", sum := "bc55b05aa54e81af95bca1d2130fced7b8decb2a988b09670579fc81d039c4f0", checked := Try.checked }
namespace Rows
def none {H : Type} : Left H := { results := [], args := [] }

/-- 'fingerpostlaw04.PackNames': WHATEVER THE INPUT: true; the input reads as it did. -/
def packNamesSpec : ChangeSpec := { name := "packNames", fn := fun _ => fun
  | [d1, d2] => { results := [.lit (.bool true)], args := [d1, d2] }
  | _ => none }
def packNamesRow : OpenClaim := { program := "ytdcfemndfnfedaa", sum := "bc55b05aa54e81af95bca1d2130fced7b8decb2a988b09670579fc81d039c4f0", func := "fingerpost/fingerpostlaw04.PackNames", spec := "packNames", unfollowed := true, recurses := true, apart := false }
def PackNamesSaid : Prop := packNamesRow.holds Try.pinned (OpenSpec.ofChange packNamesSpec)

/-- ITS FALSE NEIGHBOUR: 'it returns false'. Refute it at one input. -/
def packNamesWrong : ChangeSpec := { name := "packNames", fn := fun _ => fun
  | [d1, d2] => { results := [.lit (.bool false)], args := [d1, d2] }
  | _ => none }
def PackNamesWrongFalsely : Prop := packNamesRow.holds Try.pinned (OpenSpec.ofChange packNamesWrong)

/-- 'fingerpostlaw04.PackReads': WHATEVER THE INPUT: true; the input reads as it did. -/
def packReadsSpec : ChangeSpec := { name := "packReads", fn := fun _ => fun
  | [d1, d2, d3] => { results := [.lit (.bool true)], args := [d1, d2, d3] }
  | _ => none }
def packReadsRow : OpenClaim := { program := "ytdcfemndfnfedaa", sum := "bc55b05aa54e81af95bca1d2130fced7b8decb2a988b09670579fc81d039c4f0", func := "fingerpost/fingerpostlaw04.PackReads", spec := "packReads", unfollowed := true, recurses := true, apart := false }
def PackReadsSaid : Prop := packReadsRow.holds Try.pinned (OpenSpec.ofChange packReadsSpec)

/-- ITS FALSE NEIGHBOUR: 'it returns false'. Refute it at one input. -/
def packReadsWrong : ChangeSpec := { name := "packReads", fn := fun _ => fun
  | [d1, d2, d3] => { results := [.lit (.bool false)], args := [d1, d2, d3] }
  | _ => none }
def PackReadsWrongFalsely : Prop := packReadsRow.holds Try.pinned (OpenSpec.ofChange packReadsWrong)

/-- 'fingerpostlaw04.PackBack': WHATEVER THE INPUT: true; the input reads as it did. -/
def packBackSpec : ChangeSpec := { name := "packBack", fn := fun _ => fun
  | [d] => { results := [.lit (.bool true)], args := [d] }
  | _ => none }
def packBackRow : OpenClaim := { program := "ytdcfemndfnfedaa", sum := "bc55b05aa54e81af95bca1d2130fced7b8decb2a988b09670579fc81d039c4f0", func := "fingerpost/fingerpostlaw04.PackBack", spec := "packBack", unfollowed := true, recurses := true, apart := false }
def PackBackSaid : Prop := packBackRow.holds Try.pinned (OpenSpec.ofChange packBackSpec)

/-- ITS FALSE NEIGHBOUR: 'it returns false'. Refute it at one input. -/
def packBackWrong : ChangeSpec := { name := "packBack", fn := fun _ => fun
  | [d] => { results := [.lit (.bool false)], args := [d] }
  | _ => none }
def PackBackWrongFalsely : Prop := packBackRow.holds Try.pinned (OpenSpec.ofChange packBackWrong)

/-- 'fingerpostlaw04.PackShort': WHATEVER THE INPUT: true; the input reads as it did. -/
def packShortSpec : ChangeSpec := { name := "packShort", fn := fun _ => fun
  | [d] => { results := [.lit (.bool true)], args := [d] }
  | _ => none }
def packShortRow : OpenClaim := { program := "ytdcfemndfnfedaa", sum := "bc55b05aa54e81af95bca1d2130fced7b8decb2a988b09670579fc81d039c4f0", func := "fingerpost/fingerpostlaw04.PackShort", spec := "packShort", unfollowed := true, recurses := true, apart := false }
def PackShortSaid : Prop := packShortRow.holds Try.pinned (OpenSpec.ofChange packShortSpec)

/-- ITS FALSE NEIGHBOUR: 'it returns false'. Refute it at one input. -/
def packShortWrong : ChangeSpec := { name := "packShort", fn := fun _ => fun
  | [d] => { results := [.lit (.bool false)], args := [d] }
  | _ => none }
def PackShortWrongFalsely : Prop := packShortRow.holds Try.pinned (OpenSpec.ofChange packShortWrong)

/-- 'fingerpostlaw04.PackPlays': WHATEVER THE INPUT: true; the input reads as it did. -/
def packPlaysSpec : ChangeSpec := { name := "packPlays", fn := fun _ => fun
  | [d1, d2] => { results := [.lit (.bool true)], args := [d1, d2] }
  | _ => none }
def packPlaysRow : OpenClaim := { program := "ytdcfemndfnfedaa", sum := "bc55b05aa54e81af95bca1d2130fced7b8decb2a988b09670579fc81d039c4f0", func := "fingerpost/fingerpostlaw04.PackPlays", spec := "packPlays", unfollowed := true, recurses := true, apart := false }
def PackPlaysSaid : Prop := packPlaysRow.holds Try.pinned (OpenSpec.ofChange packPlaysSpec)

/-- ITS FALSE NEIGHBOUR: 'it returns false'. Refute it at one input. -/
def packPlaysWrong : ChangeSpec := { name := "packPlays", fn := fun _ => fun
  | [d1, d2] => { results := [.lit (.bool false)], args := [d1, d2] }
  | _ => none }
def PackPlaysWrongFalsely : Prop := packPlaysRow.holds Try.pinned (OpenSpec.ofChange packPlaysWrong)

/-- 'fingerpostlaw04.PackNil': WHATEVER THE INPUT: true; the input reads as it did. -/
def packNilSpec : ChangeSpec := { name := "packNil", fn := fun _ => fun
  | [d] => { results := [.lit (.bool true)], args := [d] }
  | _ => none }
def packNilRow : OpenClaim := { program := "ytdcfemndfnfedaa", sum := "bc55b05aa54e81af95bca1d2130fced7b8decb2a988b09670579fc81d039c4f0", func := "fingerpost/fingerpostlaw04.PackNil", spec := "packNil", unfollowed := true, recurses := true, apart := false }
def PackNilSaid : Prop := packNilRow.holds Try.pinned (OpenSpec.ofChange packNilSpec)

/-- ITS FALSE NEIGHBOUR: 'it returns false'. Refute it at one input. -/
def packNilWrong : ChangeSpec := { name := "packNil", fn := fun _ => fun
  | [d] => { results := [.lit (.bool false)], args := [d] }
  | _ => none }
def PackNilWrongFalsely : Prop := packNilRow.holds Try.pinned (OpenSpec.ofChange packNilWrong)

/-- 'fingerpostlaw03.NameChecks': WHATEVER THE INPUT: true; the input reads as it did. -/
def nameChecksSpec : ChangeSpec := { name := "nameChecks", fn := fun _ => fun
  | [d1, d2] => { results := [.lit (.bool true)], args := [d1, d2] }
  | _ => none }
def nameChecksRow : OpenClaim := { program := "ytdcfemndfnfedaa", sum := "bc55b05aa54e81af95bca1d2130fced7b8decb2a988b09670579fc81d039c4f0", func := "fingerpost/fingerpostlaw03.NameChecks", spec := "nameChecks", inPlace := ["internal/abi.NoEscape"], unfollowed := true, recurses := true, apart := false }
def NameChecksSaid : Prop := nameChecksRow.holds Try.pinned (OpenSpec.ofChange nameChecksSpec)

/-- ITS FALSE NEIGHBOUR: 'it returns false'. Refute it at one input. -/
def nameChecksWrong : ChangeSpec := { name := "nameChecks", fn := fun _ => fun
  | [d1, d2] => { results := [.lit (.bool false)], args := [d1, d2] }
  | _ => none }
def NameChecksWrongFalsely : Prop := nameChecksRow.holds Try.pinned (OpenSpec.ofChange nameChecksWrong)

/-- 'fingerpostlaw03.NameBack': WHATEVER THE INPUT: true; the input reads as it did. -/
def nameBackSpec : ChangeSpec := { name := "nameBack", fn := fun _ => fun
  | [d] => { results := [.lit (.bool true)], args := [d] }
  | _ => none }
def nameBackRow : OpenClaim := { program := "ytdcfemndfnfedaa", sum := "bc55b05aa54e81af95bca1d2130fced7b8decb2a988b09670579fc81d039c4f0", func := "fingerpost/fingerpostlaw03.NameBack", spec := "nameBack", inPlace := ["internal/abi.NoEscape"], unfollowed := true, recurses := true, apart := false }
def NameBackSaid : Prop := nameBackRow.holds Try.pinned (OpenSpec.ofChange nameBackSpec)

/-- ITS FALSE NEIGHBOUR: 'it returns false'. Refute it at one input. -/
def nameBackWrong : ChangeSpec := { name := "nameBack", fn := fun _ => fun
  | [d] => { results := [.lit (.bool false)], args := [d] }
  | _ => none }
def NameBackWrongFalsely : Prop := nameBackRow.holds Try.pinned (OpenSpec.ofChange nameBackWrong)

/-- 'fingerpostlaw03.NameZones': WHATEVER THE INPUT: true; the input reads as it did. -/
def nameZonesSpec : ChangeSpec := { name := "nameZones", fn := fun _ => fun
  | [d1, d2, d3] => { results := [.lit (.bool true)], args := [d1, d2, d3] }
  | _ => none }
def nameZonesRow : OpenClaim := { program := "ytdcfemndfnfedaa", sum := "bc55b05aa54e81af95bca1d2130fced7b8decb2a988b09670579fc81d039c4f0", func := "fingerpost/fingerpostlaw03.NameZones", spec := "nameZones", inPlace := ["internal/abi.NoEscape"], unfollowed := true, recurses := true, apart := false }
def NameZonesSaid : Prop := nameZonesRow.holds Try.pinned (OpenSpec.ofChange nameZonesSpec)

/-- ITS FALSE NEIGHBOUR: 'it returns false'. Refute it at one input. -/
def nameZonesWrong : ChangeSpec := { name := "nameZones", fn := fun _ => fun
  | [d1, d2, d3] => { results := [.lit (.bool false)], args := [d1, d2, d3] }
  | _ => none }
def NameZonesWrongFalsely : Prop := nameZonesRow.holds Try.pinned (OpenSpec.ofChange nameZonesWrong)

/-- 'fingerpostlaw03.NameHolds': WHATEVER THE INPUT: true; the input reads as it did. -/
def nameHoldsSpec : ChangeSpec := { name := "nameHolds", fn := fun _ => fun
  | [d1, d2, d3] => { results := [.lit (.bool true)], args := [d1, d2, d3] }
  | _ => none }
def nameHoldsRow : OpenClaim := { program := "ytdcfemndfnfedaa", sum := "bc55b05aa54e81af95bca1d2130fced7b8decb2a988b09670579fc81d039c4f0", func := "fingerpost/fingerpostlaw03.NameHolds", spec := "nameHolds", inPlace := ["internal/abi.NoEscape"], unfollowed := true, recurses := true, apart := false }
def NameHoldsSaid : Prop := nameHoldsRow.holds Try.pinned (OpenSpec.ofChange nameHoldsSpec)

/-- ITS FALSE NEIGHBOUR: 'it returns false'. Refute it at one input. -/
def nameHoldsWrong : ChangeSpec := { name := "nameHolds", fn := fun _ => fun
  | [d1, d2, d3] => { results := [.lit (.bool false)], args := [d1, d2, d3] }
  | _ => none }
def NameHoldsWrongFalsely : Prop := nameHoldsRow.holds Try.pinned (OpenSpec.ofChange nameHoldsWrong)

/-- 'fingerpostlaw03.NameOrder': WHATEVER THE INPUT: true; the input reads as it did. -/
def nameOrderSpec : ChangeSpec := { name := "nameOrder", fn := fun _ => fun
  | [d1, d2, d3] => { results := [.lit (.bool true)], args := [d1, d2, d3] }
  | _ => none }
def nameOrderRow : OpenClaim := { program := "ytdcfemndfnfedaa", sum := "bc55b05aa54e81af95bca1d2130fced7b8decb2a988b09670579fc81d039c4f0", func := "fingerpost/fingerpostlaw03.NameOrder", spec := "nameOrder", inPlace := ["internal/abi.NoEscape"], unfollowed := true, recurses := true, apart := false }
def NameOrderSaid : Prop := nameOrderRow.holds Try.pinned (OpenSpec.ofChange nameOrderSpec)

/-- ITS FALSE NEIGHBOUR: 'it returns false'. Refute it at one input. -/
def nameOrderWrong : ChangeSpec := { name := "nameOrder", fn := fun _ => fun
  | [d1, d2, d3] => { results := [.lit (.bool false)], args := [d1, d2, d3] }
  | _ => none }
def NameOrderWrongFalsely : Prop := nameOrderRow.holds Try.pinned (OpenSpec.ofChange nameOrderWrong)

/- THE SECOND FORM. 'bulk': how many values and letters a reading holds, each counted each time it is reached (what is shared counts as often as it is met; a slice's spare places count too). A statement '..UptoSaid' is the law's where the arguments, and the package variables that the reading takes, are together of bulk at most 1048576: NARROWER than '..Said'. Prove '..Said' where nothing that the law and all that it calls make is longer than what came in: it says more and counts as full. Else prove '..UptoSaid'. A law counts once. -/
mutual
def uptoBulk {H : Type} : DataW H → Nat
  | .lit (.string bytes) => bytes.length + 1
  | .lit _ => 1
  | .nil => 1
  | .ptr d => uptoBulk d + 1
  | .slice elems spare => uptoBulkAll elems + uptoBulkAll spare + 1
  | .agg parts => uptoBulkAll parts + 1
  | .iface _ d => uptoBulk d + 1
  | .map entries => uptoBulkEntries entries + 1
  | .held _ => 1
def uptoBulkAll {H : Type} : List (DataW H) → Nat
  | [] => 0
  | d :: r => uptoBulk d + uptoBulkAll r
def uptoBulkEntries {H : Type} : List (Lit × DataW H) → Nat
  | [] => 0
  | x :: r => uptoBulkEntry x + uptoBulkEntries r
def uptoBulkEntry {H : Type} : Lit × DataW H → Nat
  | (.string bytes, d) => bytes.length + uptoBulk d + 1
  | (_, d) => uptoBulk d + 1
 end
def uptoSmall : (H : Type) → List (DataW H) → Bool := fun _ ds => decide (uptoBulkAll ds ≤ 1048576)
def OpenSpec.upto (s : _root_.Go.ChangeSpec) : _root_.Go.OpenSpec := { _root_.Go.OpenSpec.ofChange s with cond := some uptoSmall }

/-- 'fingerpostlaw04.PackNames', WHERE WHAT IT READS IS OF BULK AT MOST 1048576: true; the input reads as it did. -/
def packNamesUptoRow : OpenClaim := { program := "ytdcfemndfnfedaa", sum := "bc55b05aa54e81af95bca1d2130fced7b8decb2a988b09670579fc81d039c4f0", func := "fingerpost/fingerpostlaw04.PackNames", spec := "packNames", unfollowed := true, recurses := true, apart := false, narrowed := true }
def PackNamesUptoSaid : Prop := packNamesUptoRow.holds Try.pinned (OpenSpec.upto packNamesSpec)

/-- 'fingerpostlaw04.PackReads', WHERE WHAT IT READS IS OF BULK AT MOST 1048576: true; the input reads as it did. -/
def packReadsUptoRow : OpenClaim := { program := "ytdcfemndfnfedaa", sum := "bc55b05aa54e81af95bca1d2130fced7b8decb2a988b09670579fc81d039c4f0", func := "fingerpost/fingerpostlaw04.PackReads", spec := "packReads", unfollowed := true, recurses := true, apart := false, narrowed := true }
def PackReadsUptoSaid : Prop := packReadsUptoRow.holds Try.pinned (OpenSpec.upto packReadsSpec)

/-- 'fingerpostlaw04.PackBack', WHERE WHAT IT READS IS OF BULK AT MOST 1048576: true; the input reads as it did. -/
def packBackUptoRow : OpenClaim := { program := "ytdcfemndfnfedaa", sum := "bc55b05aa54e81af95bca1d2130fced7b8decb2a988b09670579fc81d039c4f0", func := "fingerpost/fingerpostlaw04.PackBack", spec := "packBack", unfollowed := true, recurses := true, apart := false, narrowed := true }
def PackBackUptoSaid : Prop := packBackUptoRow.holds Try.pinned (OpenSpec.upto packBackSpec)

/-- 'fingerpostlaw04.PackShort', WHERE WHAT IT READS IS OF BULK AT MOST 1048576: true; the input reads as it did. -/
def packShortUptoRow : OpenClaim := { program := "ytdcfemndfnfedaa", sum := "bc55b05aa54e81af95bca1d2130fced7b8decb2a988b09670579fc81d039c4f0", func := "fingerpost/fingerpostlaw04.PackShort", spec := "packShort", unfollowed := true, recurses := true, apart := false, narrowed := true }
def PackShortUptoSaid : Prop := packShortUptoRow.holds Try.pinned (OpenSpec.upto packShortSpec)

/-- 'fingerpostlaw04.PackPlays', WHERE WHAT IT READS IS OF BULK AT MOST 1048576: true; the input reads as it did. -/
def packPlaysUptoRow : OpenClaim := { program := "ytdcfemndfnfedaa", sum := "bc55b05aa54e81af95bca1d2130fced7b8decb2a988b09670579fc81d039c4f0", func := "fingerpost/fingerpostlaw04.PackPlays", spec := "packPlays", unfollowed := true, recurses := true, apart := false, narrowed := true }
def PackPlaysUptoSaid : Prop := packPlaysUptoRow.holds Try.pinned (OpenSpec.upto packPlaysSpec)

/-- 'fingerpostlaw04.PackNil', WHERE WHAT IT READS IS OF BULK AT MOST 1048576: true; the input reads as it did. -/
def packNilUptoRow : OpenClaim := { program := "ytdcfemndfnfedaa", sum := "bc55b05aa54e81af95bca1d2130fced7b8decb2a988b09670579fc81d039c4f0", func := "fingerpost/fingerpostlaw04.PackNil", spec := "packNil", unfollowed := true, recurses := true, apart := false, narrowed := true }
def PackNilUptoSaid : Prop := packNilUptoRow.holds Try.pinned (OpenSpec.upto packNilSpec)

/-- 'fingerpostlaw03.NameChecks', WHERE WHAT IT READS IS OF BULK AT MOST 1048576: true; the input reads as it did. -/
def nameChecksUptoRow : OpenClaim := { program := "ytdcfemndfnfedaa", sum := "bc55b05aa54e81af95bca1d2130fced7b8decb2a988b09670579fc81d039c4f0", func := "fingerpost/fingerpostlaw03.NameChecks", spec := "nameChecks", inPlace := ["internal/abi.NoEscape"], unfollowed := true, recurses := true, apart := false, narrowed := true }
def NameChecksUptoSaid : Prop := nameChecksUptoRow.holds Try.pinned (OpenSpec.upto nameChecksSpec)

/-- 'fingerpostlaw03.NameBack', WHERE WHAT IT READS IS OF BULK AT MOST 1048576: true; the input reads as it did. -/
def nameBackUptoRow : OpenClaim := { program := "ytdcfemndfnfedaa", sum := "bc55b05aa54e81af95bca1d2130fced7b8decb2a988b09670579fc81d039c4f0", func := "fingerpost/fingerpostlaw03.NameBack", spec := "nameBack", inPlace := ["internal/abi.NoEscape"], unfollowed := true, recurses := true, apart := false, narrowed := true }
def NameBackUptoSaid : Prop := nameBackUptoRow.holds Try.pinned (OpenSpec.upto nameBackSpec)

/-- 'fingerpostlaw03.NameZones', WHERE WHAT IT READS IS OF BULK AT MOST 1048576: true; the input reads as it did. -/
def nameZonesUptoRow : OpenClaim := { program := "ytdcfemndfnfedaa", sum := "bc55b05aa54e81af95bca1d2130fced7b8decb2a988b09670579fc81d039c4f0", func := "fingerpost/fingerpostlaw03.NameZones", spec := "nameZones", inPlace := ["internal/abi.NoEscape"], unfollowed := true, recurses := true, apart := false, narrowed := true }
def NameZonesUptoSaid : Prop := nameZonesUptoRow.holds Try.pinned (OpenSpec.upto nameZonesSpec)

/-- 'fingerpostlaw03.NameHolds', WHERE WHAT IT READS IS OF BULK AT MOST 1048576: true; the input reads as it did. -/
def nameHoldsUptoRow : OpenClaim := { program := "ytdcfemndfnfedaa", sum := "bc55b05aa54e81af95bca1d2130fced7b8decb2a988b09670579fc81d039c4f0", func := "fingerpost/fingerpostlaw03.NameHolds", spec := "nameHolds", inPlace := ["internal/abi.NoEscape"], unfollowed := true, recurses := true, apart := false, narrowed := true }
def NameHoldsUptoSaid : Prop := nameHoldsUptoRow.holds Try.pinned (OpenSpec.upto nameHoldsSpec)

/-- 'fingerpostlaw03.NameOrder', WHERE WHAT IT READS IS OF BULK AT MOST 1048576: true; the input reads as it did. -/
def nameOrderUptoRow : OpenClaim := { program := "ytdcfemndfnfedaa", sum := "bc55b05aa54e81af95bca1d2130fced7b8decb2a988b09670579fc81d039c4f0", func := "fingerpost/fingerpostlaw03.NameOrder", spec := "nameOrder", inPlace := ["internal/abi.NoEscape"], unfollowed := true, recurses := true, apart := false, narrowed := true }
def NameOrderUptoSaid : Prop := nameOrderUptoRow.holds Try.pinned (OpenSpec.upto nameOrderSpec)

end Rows
end Go.Proofs.Ytdcfemndfnfedaa
