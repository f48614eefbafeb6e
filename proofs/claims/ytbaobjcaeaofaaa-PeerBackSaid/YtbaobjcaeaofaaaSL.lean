/- Arrays whose places are told at run time: a block of one's own as a list (own work). -/
import Derived.Test.YtbaobjcaeaofaaaSM
import Derived.ChangeKeysEq
set_option linter.unusedVariables false
set_option linter.unusedSimpArgs false
namespace Go.Proofs.Ytbaobjcaeaofaaa
open Go.RowKit
section
variable {P : Program} {ops : Array Oper} {Q : Exit → Act → World → Prop} {N : FS} {d : Nat} {rest : List Oper} {σ : Fr} {S Sh : Sta} {ty t : TypeId} {pos : String} {af : Array Edge} {x y : Operand} {w0 : World} {M : Nat → Prop} {H : List (Nat × Nat × Obj)} {R : List (Nat × Row)} {φ : World → Prop} {α : Type} {f : α → Value} {l l1 l2 : List α} {tag g off n p sz a : Nat} {e t0 : TypeId} {i : Int} {k : IntKind} {v u : α}
end
/-! Arrays held against each other. -/
section
variable {P : Program} {w0 : World} {M : Nat → Prop} {H : List (Nat × Nat × Obj)} {R : List (Nat × Row)} {φ : World → Prop}
theorem eqi_nil {d sz : Nat} {e : TypeId} {xs ys : Array Value} {w : World} : (Op.eqItems d e sz xs ys []).run P w = .ok true w := by simp [Op.eqItems]
theorem eqi_cons {d j : Nat} {e : TypeId} {xs ys : Array Value} {w : World} {js : List Nat} {a b : Value} {r s : Bool} (ha : (part e xs (j * P.cellsOf e)).run P w = .ok a w) (hb : (part e ys (j * P.cellsOf e)).run P w = .ok b w) (he : (Op.equalIn d e a b).run P w = .ok r w) (hr : (Op.eqItems d e (P.cellsOf e) xs ys js).run P w = .ok s w) :
    (Op.eqItems d e (P.cellsOf e) xs ys (j :: js)).run P w = .ok (r && s) w := by
  rw [Op.eqItems]
  simp only [Sem.run_bind, ha, hb, he, Result.andThen_ok]
  cases r
  · simp
  · simpa using hr
theorem eqa_of {d n : Nat} {xs ys : Array Value} {w : World} {r : Bool} {t e : TypeId} (hu : P.underlying t = some (.array n e)) (hi : (P.info? e).isSome = true) (h : (Op.eqItems d e (P.cellsOf e) xs ys (List.range n)).run P w = .ok r w) : (Op.equalIn (d + 1) t (.agg xs) (.agg ys)).run P w = .ok r w := by
  obtain ⟨i, hi⟩ := Option.isSome_iff_exists.1 hi
  rw [run_equalIn_array (P := P) w d xs ys hu hi]; exact h
end
end Go.Proofs.Ytbaobjcaeaofaaa
