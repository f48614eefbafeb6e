/- The bytes of a text, in a block of the call's own, that may be written (own work). -/
import Derived.Test.YthajfodilodhaaaSM
set_option linter.unusedVariables false
set_option linter.unusedSimpArgs false
set_option linter.unusedSectionVars false
namespace Go.Proofs.Ythajfodilodhaaa
open Go.RowKit Go.Lib Go.Proofs.YthajfodilodhaaaW.PrintLast
section
variable {P : Program} {ops : Array Oper} {Q : Exit → Act → World → Prop} {N : FS} {d : Nat} {rest : List Oper} {σ : Fr} {S : Sta} {ty t u : TypeId} {pos : String} {af : Array Edge} {x y : Operand} {w0 : World} {M : Nat → Prop} {H : List (Nat × Nat × Obj)} {R : List (Nat × Row)} {φ : World → Prop} {tag g e : Nat} {l : List Int} {T : List Value}
end
section
variable {P : Program} {σ : Fr} {S : Sta} {ty t1 t2 t3 t4 : TypeId} {x y z u : Operand} {k : IntKind} {p q r o : Int}
end
section
variable {P : Program} {σ : Fr} {S : Sta} {ty t e : TypeId} {x y : Operand} {k : IntKind} {i : Int} {len sz : Nat} {cs : Array Value} {v : Value}
/-- An array's element at a known place. -/
theorem r_indexA (hu : P.underlying t = some (.array len e)) (hs : ∀ W, (sizeOf e).run P W = .ok sz W) (ha : ∀ W, (isAgg e).run P W = .ok false W) (hx : ev σ x = .agg cs) (hy : ev σ y = .int k i) (h0 : (decide (0 ≤ i ∧ i < len)) = true) (hv : cs[i.toNat * sz]? = some v) : Rn P σ S (.index t x y) ty v := fun W _ => by
  have h1 := of_decide_eq_true h0
  simp [execOp, Instr.index, asIntOf, run_underlying hu, hx, hy, h1, hs W, part, ha W, hv]
end
section
variable {P : Program} {ops : Array Oper} {Q : Exit → Act → World → Prop} {N : FS} {d : Nat} {σ : Fr} {S Sh : Sta} {ty : TypeId} {pos : String} {af : Array Edge} {ds : List Nat} {fuel : Nat} {op : Op}
end
end Go.Proofs.Ythajfodilodhaaa
