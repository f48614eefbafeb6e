/-
  No cell of these rows narrows 'for every input' (looked for: loops, veiled, ifaces, maps, wideKeys, modest, calm, conditions, laid).
  DERIVED. THE GIVEN ROWS OF THIS SEAT. 4 by the template 'for every input the law returns true; each argument reads behind the call as it read before'; 0 by the template 'total and deterministic' (their statements: YtjbfgaahonmclaaTotals.lean).
  GIVEN WITH THE SEED: the statements are not yours to turn. If you find one false, say at which input.
  Laid BY PROGRAM, IN A SANDBOX (cutbox-rows.mjs): the forced cells as the released guide's own fill.sh prints them over the translation 0be5366af6218d89… (all of the seat's roots in one cut). By AI agents, Wed Nov 11 2026. No macro, syntax, notation, axiom, sorry.
-/
import Derived.Test.YtjbfgaahonmclaaChecked
import GoSem.Claim
import GoSem.ClaimJoined
import GoSem.ClaimMapViews
import Derived.JoinedTies
import Derived.KernelRfl
namespace Go.Proofs.Ytjbfgaahonmclaa
/- THE CELL 'sum', in the pinned program and in every row, IS THE sha256 OF THE DUMP (.gsa) THAT YtjbfgaahonmclaaProg.lean LOADS. Nothing in Lean hashes anything: it is a label: what it is worth is what the hold of that sum in a sandbox is worth. -/
noncomputable def Try.pinned : Pinned := { name := "ytjbfgaahonmclaa", sum := "0be5366af6218d89819190c059be12805e7d11ceefff6e7cfbc6e70cb698d16e", checked := Try.checked }
namespace Rows
def none {H : Type} : Left H := { results := [], args := [] }

/-- 'fingerpostlaw18.AuthOdd': WHATEVER THE INPUT: true; the input reads as it did. -/
def authOddSpec : ChangeSpec := { name := "authOdd", fn := fun _ => fun
  | [d] => { results := [.lit (.bool true)], args := [d] }
  | _ => none }
def authOddRow : OpenClaim := { program := "ytjbfgaahonmclaa", sum := "0be5366af6218d89819190c059be12805e7d11ceefff6e7cfbc6e70cb698d16e", func := "fingerpost/fingerpostlaw18.AuthOdd", spec := "authOdd", unfollowed := true, recurses := true, apart := false }
def AuthOddSaid : Prop := authOddRow.holds Try.pinned (OpenSpec.ofChange authOddSpec)

/-- ITS FALSE NEIGHBOUR: 'it returns false'. Refute it at one input. -/
def authOddWrong : ChangeSpec := { name := "authOdd", fn := fun _ => fun
  | [d] => { results := [.lit (.bool false)], args := [d] }
  | _ => none }
def AuthOddWrongFalsely : Prop := authOddRow.holds Try.pinned (OpenSpec.ofChange authOddWrong)

/-- 'fingerpostlaw18.AuthParts': WHATEVER THE INPUT: true; the input reads as it did. -/
def authPartsSpec : ChangeSpec := { name := "authParts", fn := fun _ => fun
  | [d1, d2] => { results := [.lit (.bool true)], args := [d1, d2] }
  | _ => none }
def authPartsRow : OpenClaim := { program := "ytjbfgaahonmclaa", sum := "0be5366af6218d89819190c059be12805e7d11ceefff6e7cfbc6e70cb698d16e", func := "fingerpost/fingerpostlaw18.AuthParts", spec := "authParts", unfollowed := true, recurses := true, apart := false }
def AuthPartsSaid : Prop := authPartsRow.holds Try.pinned (OpenSpec.ofChange authPartsSpec)

/-- ITS FALSE NEIGHBOUR: 'it returns false'. Refute it at one input. -/
def authPartsWrong : ChangeSpec := { name := "authParts", fn := fun _ => fun
  | [d1, d2] => { results := [.lit (.bool false)], args := [d1, d2] }
  | _ => none }
def AuthPartsWrongFalsely : Prop := authPartsRow.holds Try.pinned (OpenSpec.ofChange authPartsWrong)

/-- 'fingerpostlaw18.AuthHonest': WHATEVER THE INPUT: true; the input reads as it did. -/
def authHonestSpec : ChangeSpec := { name := "authHonest", fn := fun _ => fun
  | [d1, d2, d3] => { results := [.lit (.bool true)], args := [d1, d2, d3] }
  | _ => none }
def authHonestRow : OpenClaim := { program := "ytjbfgaahonmclaa", sum := "0be5366af6218d89819190c059be12805e7d11ceefff6e7cfbc6e70cb698d16e", func := "fingerpost/fingerpostlaw18.AuthHonest", spec := "authHonest", unfollowed := true, recurses := true, apart := false }
def AuthHonestSaid : Prop := authHonestRow.holds Try.pinned (OpenSpec.ofChange authHonestSpec)

/-- ITS FALSE NEIGHBOUR: 'it returns false'. Refute it at one input. -/
def authHonestWrong : ChangeSpec := { name := "authHonest", fn := fun _ => fun
  | [d1, d2, d3] => { results := [.lit (.bool false)], args := [d1, d2, d3] }
  | _ => none }
def AuthHonestWrongFalsely : Prop := authHonestRow.holds Try.pinned (OpenSpec.ofChange authHonestWrong)

/-- 'fingerpostlaw18.AuthBytes': WHATEVER THE INPUT: true; the input reads as it did. -/
def authBytesSpec : ChangeSpec := { name := "authBytes", fn := fun _ => fun
  | [d1, d2] => { results := [.lit (.bool true)], args := [d1, d2] }
  | _ => none }
def authBytesRow : OpenClaim := { program := "ytjbfgaahonmclaa", sum := "0be5366af6218d89819190c059be12805e7d11ceefff6e7cfbc6e70cb698d16e", func := "fingerpost/fingerpostlaw18.AuthBytes", spec := "authBytes", unfollowed := true, recurses := true, apart := false }
def AuthBytesSaid : Prop := authBytesRow.holds Try.pinned (OpenSpec.ofChange authBytesSpec)

/-- ITS FALSE NEIGHBOUR: 'it returns false'. Refute it at one input. -/
def authBytesWrong : ChangeSpec := { name := "authBytes", fn := fun _ => fun
  | [d1, d2] => { results := [.lit (.bool false)], args := [d1, d2] }
  | _ => none }
def AuthBytesWrongFalsely : Prop := authBytesRow.holds Try.pinned (OpenSpec.ofChange authBytesWrong)

/- THE SECOND FORM. 'bulk': how many values and letters a reading holds, each counted each time it is reached (what is shared counts as often as it is met; a slice's spare places count too). A statement '..UptoSaid' is the law's where the arguments, and the package variables that the reading takes, are together of bulk at most 1048576: NARROWER than '..Said'. Prove '..Said' where nothing that the law and all that it calls make is longer than what came in: it says more and counts as full. Else prove '..UptoSaid'. A law counts once. -/
mutual
def uptoBulk {H : Type} : DataW H → Nat
  | .lit (.string bytes) => bytes.length + 1
  | .lit _ => 1
  | .nil => 1
  | .ptr d => uptoBulk d + 1
  | .slice elems spare => uptoBulkAll elems + uptoBulkAll spare + 1
  | .agg parts => uptoBulkAll parts + 1
  | .iface _ d => uptoBulk d + 1
  | .map entries => uptoBulkEntries entries + 1
  | .held _ => 1
def uptoBulkAll {H : Type} : List (DataW H) → Nat
  | [] => 0
  | d :: r => uptoBulk d + uptoBulkAll r
def uptoBulkEntries {H : Type} : List (Lit × DataW H) → Nat
  | [] => 0
  | x :: r => uptoBulkEntry x + uptoBulkEntries r
def uptoBulkEntry {H : Type} : Lit × DataW H → Nat
  | (.string bytes, d) => bytes.length + uptoBulk d + 1
  | (_, d) => uptoBulk d + 1
 end
def uptoSmall : (H : Type) → List (DataW H) → Bool := fun _ ds => decide (uptoBulkAll ds ≤ 1048576)
def OpenSpec.upto (s : _root_.Go.ChangeSpec) : _root_.Go.OpenSpec := { _root_.Go.OpenSpec.ofChange s with cond := some uptoSmall }

/-- 'fingerpostlaw18.AuthOdd', WHERE WHAT IT READS IS OF BULK AT MOST 1048576: true; the input reads as it did. -/
def authOddUptoRow : OpenClaim := { program := "ytjbfgaahonmclaa", sum := "0be5366af6218d89819190c059be12805e7d11ceefff6e7cfbc6e70cb698d16e", func := "fingerpost/fingerpostlaw18.AuthOdd", spec := "authOdd", unfollowed := true, recurses := true, apart := false, narrowed := true }
def AuthOddUptoSaid : Prop := authOddUptoRow.holds Try.pinned (OpenSpec.upto authOddSpec)

/-- 'fingerpostlaw18.AuthParts', WHERE WHAT IT READS IS OF BULK AT MOST 1048576: true; the input reads as it did. -/
def authPartsUptoRow : OpenClaim := { program := "ytjbfgaahonmclaa", sum := "0be5366af6218d89819190c059be12805e7d11ceefff6e7cfbc6e70cb698d16e", func := "fingerpost/fingerpostlaw18.AuthParts", spec := "authParts", unfollowed := true, recurses := true, apart := false, narrowed := true }
def AuthPartsUptoSaid : Prop := authPartsUptoRow.holds Try.pinned (OpenSpec.upto authPartsSpec)

/-- 'fingerpostlaw18.AuthHonest', WHERE WHAT IT READS IS OF BULK AT MOST 1048576: true; the input reads as it did. -/
def authHonestUptoRow : OpenClaim := { program := "ytjbfgaahonmclaa", sum := "0be5366af6218d89819190c059be12805e7d11ceefff6e7cfbc6e70cb698d16e", func := "fingerpost/fingerpostlaw18.AuthHonest", spec := "authHonest", unfollowed := true, recurses := true, apart := false, narrowed := true }
def AuthHonestUptoSaid : Prop := authHonestUptoRow.holds Try.pinned (OpenSpec.upto authHonestSpec)

/-- 'fingerpostlaw18.AuthBytes', WHERE WHAT IT READS IS OF BULK AT MOST 1048576: true; the input reads as it did. -/
def authBytesUptoRow : OpenClaim := { program := "ytjbfgaahonmclaa", sum := "0be5366af6218d89819190c059be12805e7d11ceefff6e7cfbc6e70cb698d16e", func := "fingerpost/fingerpostlaw18.AuthBytes", spec := "authBytes", unfollowed := true, recurses := true, apart := false, narrowed := true }
def AuthBytesUptoSaid : Prop := authBytesUptoRow.holds Try.pinned (OpenSpec.upto authBytesSpec)

end Rows
end Go.Proofs.Ytjbfgaahonmclaa
