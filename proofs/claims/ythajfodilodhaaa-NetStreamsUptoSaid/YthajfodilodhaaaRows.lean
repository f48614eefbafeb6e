/-
  No cell of these rows narrows 'for every input' (looked for: loops, veiled, ifaces, maps, wideKeys, modest, calm, conditions, laid).
  DERIVED. THE GIVEN ROWS OF THIS SEAT. 6 by the template 'for every input the law returns true; each argument reads behind the call as it read before'; 0 by the template 'total and deterministic' (their statements: YthajfodilodhaaaTotals.lean).
  GIVEN WITH THE SEED: the statements are not yours to turn. If you find one false, say at which input.
  Laid BY PROGRAM, IN A SANDBOX (cutbox-rows.mjs): the forced cells as the released guide's own fill.sh prints them over the translation 65d30ce5f90acfbd… (all of the seat's roots in one cut). By AI agents, Wed Nov 11 2026. No macro, syntax, notation, axiom, sorry.
-/
import Derived.Test.YthajfodilodhaaaChecked
import GoSem.Claim
import GoSem.ClaimJoined
import GoSem.ClaimMapViews
import Derived.JoinedTies
import Derived.KernelRfl
namespace Go.Proofs.Ythajfodilodhaaa
/- THE CELL 'sum', in the pinned program and in every row, IS THE sha256 OF THE DUMP (.gsa) THAT YthajfodilodhaaaProg.lean LOADS. Nothing in Lean hashes anything: it is a label: what it is worth is what the hold of that sum in a sandbox is worth. -/
noncomputable def Try.pinned : Pinned := { name := "ythajfodilodhaaa", sum := "65d30ce5f90acfbd353776539ee570392ed9f60871b4c6b908fab379fd7650ad", checked := Try.checked }
namespace Rows
def none {H : Type} : Left H := { results := [], args := [] }

/-- 'fingerpostlaw08.NetStreams': WHATEVER THE INPUT: true; the input reads as it did. -/
def netStreamsSpec : ChangeSpec := { name := "netStreams", fn := fun _ => fun
  | [d] => { results := [.lit (.bool true)], args := [d] }
  | _ => none }
def netStreamsRow : OpenClaim := { program := "ythajfodilodhaaa", sum := "65d30ce5f90acfbd353776539ee570392ed9f60871b4c6b908fab379fd7650ad", func := "fingerpost/fingerpostlaw08.NetStreams", spec := "netStreams", unfollowed := true, recurses := true, plainKeys := false, apart := false }
def NetStreamsSaid : Prop := netStreamsRow.holds Try.pinned (OpenSpec.ofChange netStreamsSpec)

/-- ITS FALSE NEIGHBOUR: 'it returns false'. Refute it at one input. -/
def netStreamsWrong : ChangeSpec := { name := "netStreams", fn := fun _ => fun
  | [d] => { results := [.lit (.bool false)], args := [d] }
  | _ => none }
def NetStreamsWrongFalsely : Prop := netStreamsRow.holds Try.pinned (OpenSpec.ofChange netStreamsWrong)

/-- 'fingerpostlaw08.NetFull': WHATEVER THE INPUT: true; the input reads as it did. -/
def netFullSpec : ChangeSpec := { name := "netFull", fn := fun _ => fun
  | [d1, d2] => { results := [.lit (.bool true)], args := [d1, d2] }
  | _ => none }
def netFullRow : OpenClaim := { program := "ythajfodilodhaaa", sum := "65d30ce5f90acfbd353776539ee570392ed9f60871b4c6b908fab379fd7650ad", func := "fingerpost/fingerpostlaw08.NetFull", spec := "netFull", unfollowed := true, recurses := true, plainKeys := false, apart := false }
def NetFullSaid : Prop := netFullRow.holds Try.pinned (OpenSpec.ofChange netFullSpec)

/-- ITS FALSE NEIGHBOUR: 'it returns false'. Refute it at one input. -/
def netFullWrong : ChangeSpec := { name := "netFull", fn := fun _ => fun
  | [d1, d2] => { results := [.lit (.bool false)], args := [d1, d2] }
  | _ => none }
def NetFullWrongFalsely : Prop := netFullRow.holds Try.pinned (OpenSpec.ofChange netFullWrong)

/-- 'fingerpostlaw08.NetDatagrams': WHATEVER THE INPUT: true; the input reads as it did. -/
def netDatagramsSpec : ChangeSpec := { name := "netDatagrams", fn := fun _ => fun
  | [d1, d2] => { results := [.lit (.bool true)], args := [d1, d2] }
  | _ => none }
def netDatagramsRow : OpenClaim := { program := "ythajfodilodhaaa", sum := "65d30ce5f90acfbd353776539ee570392ed9f60871b4c6b908fab379fd7650ad", func := "fingerpost/fingerpostlaw08.NetDatagrams", spec := "netDatagrams", unfollowed := true, recurses := true, plainKeys := false, apart := false }
def NetDatagramsSaid : Prop := netDatagramsRow.holds Try.pinned (OpenSpec.ofChange netDatagramsSpec)

/-- ITS FALSE NEIGHBOUR: 'it returns false'. Refute it at one input. -/
def netDatagramsWrong : ChangeSpec := { name := "netDatagrams", fn := fun _ => fun
  | [d1, d2] => { results := [.lit (.bool false)], args := [d1, d2] }
  | _ => none }
def NetDatagramsWrongFalsely : Prop := netDatagramsRow.holds Try.pinned (OpenSpec.ofChange netDatagramsWrong)

/-- 'fingerpostlaw08.NetLost': WHATEVER THE INPUT: true; the input reads as it did. -/
def netLostSpec : ChangeSpec := { name := "netLost", fn := fun _ => fun
  | [d1, d2] => { results := [.lit (.bool true)], args := [d1, d2] }
  | _ => none }
def netLostRow : OpenClaim := { program := "ythajfodilodhaaa", sum := "65d30ce5f90acfbd353776539ee570392ed9f60871b4c6b908fab379fd7650ad", func := "fingerpost/fingerpostlaw08.NetLost", spec := "netLost", unfollowed := true, recurses := true, plainKeys := false, apart := false }
def NetLostSaid : Prop := netLostRow.holds Try.pinned (OpenSpec.ofChange netLostSpec)

/-- ITS FALSE NEIGHBOUR: 'it returns false'. Refute it at one input. -/
def netLostWrong : ChangeSpec := { name := "netLost", fn := fun _ => fun
  | [d1, d2] => { results := [.lit (.bool false)], args := [d1, d2] }
  | _ => none }
def NetLostWrongFalsely : Prop := netLostRow.holds Try.pinned (OpenSpec.ofChange netLostWrong)

/-- 'fingerpostlaw08.NetPlays': WHATEVER THE INPUT: true; the input reads as it did. -/
def netPlaysSpec : ChangeSpec := { name := "netPlays", fn := fun _ => fun
  | [d] => { results := [.lit (.bool true)], args := [d] }
  | _ => none }
def netPlaysRow : OpenClaim := { program := "ythajfodilodhaaa", sum := "65d30ce5f90acfbd353776539ee570392ed9f60871b4c6b908fab379fd7650ad", func := "fingerpost/fingerpostlaw08.NetPlays", spec := "netPlays", unfollowed := true, recurses := true, plainKeys := false, apart := false }
def NetPlaysSaid : Prop := netPlaysRow.holds Try.pinned (OpenSpec.ofChange netPlaysSpec)

/-- ITS FALSE NEIGHBOUR: 'it returns false'. Refute it at one input. -/
def netPlaysWrong : ChangeSpec := { name := "netPlays", fn := fun _ => fun
  | [d] => { results := [.lit (.bool false)], args := [d] }
  | _ => none }
def NetPlaysWrongFalsely : Prop := netPlaysRow.holds Try.pinned (OpenSpec.ofChange netPlaysWrong)

/-- 'fingerpostlaw08.NetNil': WHATEVER THE INPUT: true; the input reads as it did. -/
def netNilSpec : ChangeSpec := { name := "netNil", fn := fun _ => fun
  | [d1, d2] => { results := [.lit (.bool true)], args := [d1, d2] }
  | _ => none }
def netNilRow : OpenClaim := { program := "ythajfodilodhaaa", sum := "65d30ce5f90acfbd353776539ee570392ed9f60871b4c6b908fab379fd7650ad", func := "fingerpost/fingerpostlaw08.NetNil", spec := "netNil", unfollowed := true, recurses := true, plainKeys := false, apart := false }
def NetNilSaid : Prop := netNilRow.holds Try.pinned (OpenSpec.ofChange netNilSpec)

/-- ITS FALSE NEIGHBOUR: 'it returns false'. Refute it at one input. -/
def netNilWrong : ChangeSpec := { name := "netNil", fn := fun _ => fun
  | [d1, d2] => { results := [.lit (.bool false)], args := [d1, d2] }
  | _ => none }
def NetNilWrongFalsely : Prop := netNilRow.holds Try.pinned (OpenSpec.ofChange netNilWrong)

/- THE SECOND FORM. 'bulk': how many values and letters a reading holds, each counted each time it is reached (what is shared counts as often as it is met; a slice's spare places count too). A statement '..UptoSaid' is the law's where the arguments, and the package variables that the reading takes, are together of bulk at most 1048576: NARROWER than '..Said'. Prove '..Said' where nothing that the law and all that it calls make is longer than what came in: it says more and counts as full. Else prove '..UptoSaid'. A law counts once. -/
mutual
def uptoBulk {H : Type} : DataW H → Nat
  | .lit (.string bytes) => bytes.length + 1
  | .lit _ => 1
  | .nil => 1
  | .ptr d => uptoBulk d + 1
  | .slice elems spare => uptoBulkAll elems + uptoBulkAll spare + 1
  | .agg parts => uptoBulkAll parts + 1
  | .iface _ d => uptoBulk d + 1
  | .map entries => uptoBulkEntries entries + 1
  | .held _ => 1
def uptoBulkAll {H : Type} : List (DataW H) → Nat
  | [] => 0
  | d :: r => uptoBulk d + uptoBulkAll r
def uptoBulkEntries {H : Type} : List (Lit × DataW H) → Nat
  | [] => 0
  | x :: r => uptoBulkEntry x + uptoBulkEntries r
def uptoBulkEntry {H : Type} : Lit × DataW H → Nat
  | (.string bytes, d) => bytes.length + uptoBulk d + 1
  | (_, d) => uptoBulk d + 1
 end
def uptoSmall : (H : Type) → List (DataW H) → Bool := fun _ ds => decide (uptoBulkAll ds ≤ 1048576)
def OpenSpec.upto (s : _root_.Go.ChangeSpec) : _root_.Go.OpenSpec := { _root_.Go.OpenSpec.ofChange s with cond := some uptoSmall }

/-- 'fingerpostlaw08.NetStreams', WHERE WHAT IT READS IS OF BULK AT MOST 1048576: true; the input reads as it did. -/
def netStreamsUptoRow : OpenClaim := { program := "ythajfodilodhaaa", sum := "65d30ce5f90acfbd353776539ee570392ed9f60871b4c6b908fab379fd7650ad", func := "fingerpost/fingerpostlaw08.NetStreams", spec := "netStreams", unfollowed := true, recurses := true, plainKeys := false, apart := false, narrowed := true }
def NetStreamsUptoSaid : Prop := netStreamsUptoRow.holds Try.pinned (OpenSpec.upto netStreamsSpec)

/-- 'fingerpostlaw08.NetFull', WHERE WHAT IT READS IS OF BULK AT MOST 1048576: true; the input reads as it did. -/
def netFullUptoRow : OpenClaim := { program := "ythajfodilodhaaa", sum := "65d30ce5f90acfbd353776539ee570392ed9f60871b4c6b908fab379fd7650ad", func := "fingerpost/fingerpostlaw08.NetFull", spec := "netFull", unfollowed := true, recurses := true, plainKeys := false, apart := false, narrowed := true }
def NetFullUptoSaid : Prop := netFullUptoRow.holds Try.pinned (OpenSpec.upto netFullSpec)

/-- 'fingerpostlaw08.NetDatagrams', WHERE WHAT IT READS IS OF BULK AT MOST 1048576: true; the input reads as it did. -/
def netDatagramsUptoRow : OpenClaim := { program := "ythajfodilodhaaa", sum := "65d30ce5f90acfbd353776539ee570392ed9f60871b4c6b908fab379fd7650ad", func := "fingerpost/fingerpostlaw08.NetDatagrams", spec := "netDatagrams", unfollowed := true, recurses := true, plainKeys := false, apart := false, narrowed := true }
def NetDatagramsUptoSaid : Prop := netDatagramsUptoRow.holds Try.pinned (OpenSpec.upto netDatagramsSpec)

/-- 'fingerpostlaw08.NetLost', WHERE WHAT IT READS IS OF BULK AT MOST 1048576: true; the input reads as it did. -/
def netLostUptoRow : OpenClaim := { program := "ythajfodilodhaaa", sum := "65d30ce5f90acfbd353776539ee570392ed9f60871b4c6b908fab379fd7650ad", func := "fingerpost/fingerpostlaw08.NetLost", spec := "netLost", unfollowed := true, recurses := true, plainKeys := false, apart := false, narrowed := true }
def NetLostUptoSaid : Prop := netLostUptoRow.holds Try.pinned (OpenSpec.upto netLostSpec)

/-- 'fingerpostlaw08.NetPlays', WHERE WHAT IT READS IS OF BULK AT MOST 1048576: true; the input reads as it did. -/
def netPlaysUptoRow : OpenClaim := { program := "ythajfodilodhaaa", sum := "65d30ce5f90acfbd353776539ee570392ed9f60871b4c6b908fab379fd7650ad", func := "fingerpost/fingerpostlaw08.NetPlays", spec := "netPlays", unfollowed := true, recurses := true, plainKeys := false, apart := false, narrowed := true }
def NetPlaysUptoSaid : Prop := netPlaysUptoRow.holds Try.pinned (OpenSpec.upto netPlaysSpec)

/-- 'fingerpostlaw08.NetNil', WHERE WHAT IT READS IS OF BULK AT MOST 1048576: true; the input reads as it did. -/
def netNilUptoRow : OpenClaim := { program := "ythajfodilodhaaa", sum := "65d30ce5f90acfbd353776539ee570392ed9f60871b4c6b908fab379fd7650ad", func := "fingerpost/fingerpostlaw08.NetNil", spec := "netNil", unfollowed := true, recurses := true, plainKeys := false, apart := false, narrowed := true }
def NetNilUptoSaid : Prop := netNilUptoRow.holds Try.pinned (OpenSpec.upto netNilSpec)

end Rows
end Go.Proofs.Ythajfodilodhaaa
