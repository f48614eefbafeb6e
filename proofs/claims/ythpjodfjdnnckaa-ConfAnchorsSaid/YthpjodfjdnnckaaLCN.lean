/- The law ConfAnchors of the given program returns true for every input (no conditions), its arguments read as before, and nothing that was there is changed. -/
import Derived.Test.YthpjodfjdnnckaaRows
import Derived.Test.YthpjodfjdnnckaaKCN
import Derived.Test.YthpjodfjdnnckaaQCN
import Derived.WalkKit
import Derived.ProofKit
import Derived.OpenShut
import Derived.ShutString
import Derived.ChangeOld
import Derived.Below
import Derived.SizedLaws
import Derived.Carry
import Derived.Laws.IdiomArrays
import Derived.Lib.SmallJoins
set_option linter.unusedVariables false
set_option linter.unusedSimpArgs false
namespace Go.Proofs.Ythpjodfjdnnckaa.confAnchors
open Go.ChangeShapes Go.WideShapes Go.ChangeAt Go.RowKit
open Go.ChangeMaps (open_string shut_string)
theorem own : ownKnob Try.prog.godebug = none := by kernel_rfl
theorem laidOut : laidOutB Try.prog = true := by kernel_rfl
set_option maxRecDepth 100000
set_option maxRecDepth 100000 in
theorem lifted (os : Os) (started : os.Started) (H : Type) (enc : TypeId × Value → H) :
    ReturnsInHanded {} Try.checked os 5 .any (Rows.confAnchorsSpec.pre6 enc Try.prog Try.f5 Rows.confAnchorsRow.domain false) (Rows.confAnchorsSpec.post enc Try.prog Try.f5 false true false false) := by
  refine returnsInHanded_of_change_sized (C := Try.checked) own started (by kernel_rfl) Try.func5
    (ChangeSpec.witness6 (enc := enc) (C := Try.checked) false ⟨#[], #[.slice none 0 0], []⟩ 8 (by kernel_rfl) (by kernel_rfl) (by kernel_rfl) (by kernel_rfl)) ?_
  intro W base args ds gs before hval0 hW hcnd hsz0 _
  have hsz : (DataW.weightsEach Try.prog (Try.f5.params.toList ++ Rows.confAnchorsSpec.plain.varTypes Try.prog) (ds ++ gs)).all (· ≤ reachBytes) = true := hsz0
  have hval : ∀ (j : Nat) t v, Try.f5.params[j]? = some t → args[j]? = some v → Value.okWide Try.prog W .any base t v := hval0
  have hW' := hW
  obtain ⟨p, q, hA0, hV, rfl, hfz, hnd⟩ := hW
  have hA : DataW.TrodAll enc Try.prog W 0 (fun _ => true) true Try.f5.params.toList args.toList ds p := hA0
  rw [Try.params5] at hA hval hsz
  obtain ⟨v0, vs0, d0, ds0, p0, q0, hargs, rfl, rfl, h0, r0⟩ := trodAll_cons hA
  obtain ⟨rfl, rfl, rfl⟩ := trodAll_nil r0
  obtain rfl : args = #[v0] := by cases args; simp_all
  obtain ⟨rfl, rfl⟩ := trodVars_none hV
  have k0 := h0
  have lt0 : ∀ x ∈ p0, x.block < W.heap.size := by obtain ⟨m, hm⟩ := k0; exact DataW.trod_lt m _ _ _ hm
  obtain ⟨A_0, n_0, c_0, rfl⟩ := okWide_slice Try.underlying26 (hval 0 26 v0 rfl rfl)
  obtain ⟨fuel0, hf0⟩ := h0
  obtain ⟨xa0, B_0, d_0, q_0, hok0, hc0_0, hf0_0⟩ := rd_slice (fun a => GAnchor.ok a) Try.underlying26 eC43 (en := GAnchor.enc) (fun _ => rfl) (fun _ _ _ h => by obtain ⟨m, hm, ho⟩ := rd43 h; exact ⟨m, hm, ho⟩) hf0
  replace q_0 := List.cons.inj q_0
  replace q_0 := q_0.1
  injection q_0 with e1_0 e2_0 e3_0
  subst e1_0 e2_0 e3_0
  have hF0 : Fact W (fun _ => False) (fun _ => True) := ⟨fun _ h => h.elim, fun _ _ => trivial⟩
  refine (con_top (W := W) (φ := fun W' => Cl W' A_0 (xa0.flatMap GAnchor.enc) ∧ True) (fun W' hW => ⟨hf0_0.agree hW, trivial⟩) (fun _ => rfl) (c_law13_ConfAnchors (w0 := W) (M := fun _ => False) (H := []) (R := []) (φ := fun W' => Cl W' A_0 (xa0.flatMap GAnchor.enc) ∧ True) xa0 A_0 c_0 hc0_0 (fun W' hS => hS.now.1) true (q_ConfAnchors xa0 hok0))).mono fun e W' ⟨_, he, _, _, bel⟩ => ?_
  subst he
  exact ⟨_, rfl, _, _, _, [], _, [], hW', trodAll_mk1 (shut_bool Try.underlying4 _), (trodAll_cons_mk (Below.trod laidOut (by kernel_rfl) (of_decide_eq_true (by kernel_rfl)) k0 bel.rk lt0) trodAll_mk0), rfl, bel.rk.frame _, fun h => by cases h⟩
theorem over : Rows.confAnchorsRow.holds Try.pinned (OpenSpec.ofChange Rows.confAnchorsSpec) :=
  OpenClaim.holds_of_wide 5 Try.f5 rfl rfl rfl rfl rfl rfl rfl ⟨rfl, rfl, rfl, rfl, rfl⟩ rfl rfl rfl rfl rfl (by kernel_rfl) Try.func5 (by kernel_rfl)
    (of_decide_eq_true (by kernel_rfl)) (by unfold Func.isWrapper; first | (rw [if_pos (by decide +kernel)]; kernel_rfl) | (rw [if_neg (by decide +kernel)]; exact ⟨rfl, rfl⟩))
    (fun os started H enc _ => lifted os started H enc)
theorem proved : Rows.ConfAnchorsSaid := over
end Go.Proofs.Ythpjodfjdnnckaa.confAnchors
namespace Go.Proofs.Ythpjodfjdnnckaa
/-- The row, under a short name, for the claim. -/
theorem confAnchors_holds : Rows.ConfAnchorsSaid := confAnchors.proved
end Go.Proofs.Ythpjodfjdnnckaa
