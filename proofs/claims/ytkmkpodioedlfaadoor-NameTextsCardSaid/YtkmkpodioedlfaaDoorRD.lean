/- Readings of arguments, as models (own work). -/
import Derived.Test.YtkmkpodioedlfaaDoorSX
import Derived.OpenShut
import Derived.ChangeOld
import Derived.ShutString
import Derived.Deep.Slices
import Derived.Deep.Strs
import Derived.Laws.IdiomArrays
import Derived.Lib.SmallJoins
import Derived.DataShut
set_option maxRecDepth 100000
set_option linter.unusedVariables false
set_option linter.unusedSimpArgs false
namespace Go.Proofs.YtkmkpodioedlfaaDoor
open Go.ChangeShapes Go.WideShapes Go.ChangeAt Go.RowKit
section
variable {H : Type} {enc : TypeId × Value → H} {P : Program} {W : World} {r : Reach} {base b0 : Nat} {sp : Nat → Bool} {hd : Bool} {v : Value} {d : DataW H} {p : List MemPlace} {t e : TypeId} {fuel : Nat} {cs : List Value} {x : DataW H × List MemPlace}
theorem con_top {ι : Type} {f : FuncId} {args : Array Value} {rv : ι → Value} {pure : ι → Prop} {φ : World → Prop} {S' : ι → Sta} (hF : ∀ W', (∀ k, k < W.heap.size → W'.heap[k]? = W.heap[k]?) → φ W') (hS' : ∀ x, (S' x).w0 = W) (h : Cn P f args ⟨W, fun _ => False, [], [], φ⟩ rv pure S') : Con P f args W (fun _ => False) rv pure (fun _ _ => True) :=
  con_of_cn (fun _ h => h.elim) ⟨fun _ h => h.elim, fun W' hW => hF W' fun k hk => hW k hk (fun h => h)⟩ hS' h
end
end Go.Proofs.YtkmkpodioedlfaaDoor
