/- The law ConfRings of the given program returns true for every input (no conditions), its arguments read as before, and nothing that was there is changed. -/
import Derived.Test.YthpjodfjdnnckaaRows
import Derived.Test.YthpjodfjdnnckaaKCR
import Derived.Test.YthpjodfjdnnckaaQCR
import Derived.WalkKit
import Derived.ProofKit
import Derived.OpenShut
import Derived.ShutString
import Derived.ChangeOld
import Derived.Below
import Derived.SizedLaws
import Derived.Carry
import Derived.Laws.IdiomArrays
import Derived.Lib.SmallJoins
set_option linter.unusedVariables false
set_option linter.unusedSimpArgs false
namespace Go.Proofs.Ythpjodfjdnnckaa.confRings
open Go.ChangeShapes Go.WideShapes Go.ChangeAt Go.RowKit
open Go.ChangeMaps (open_string shut_string)
theorem own : ownKnob Try.prog.godebug = none := by kernel_rfl
theorem laidOut : laidOutB Try.prog = true := by kernel_rfl
set_option maxRecDepth 100000
set_option maxRecDepth 100000 in
theorem lifted (os : Os) (started : os.Started) (H : Type) (enc : TypeId × Value → H) :
    ReturnsInHanded {} Try.checked os 4 .any (Rows.confRingsSpec.pre6 enc Try.prog Try.f4 Rows.confRingsRow.domain false) (Rows.confRingsSpec.post enc Try.prog Try.f4 false true false false) := by
  refine returnsInHanded_of_change_sized (C := Try.checked) own started (by kernel_rfl) Try.func4
    (ChangeSpec.witness6 (enc := enc) (C := Try.checked) false ⟨#[], #[.slice none 0 0, .slice none 0 0], []⟩ 8 (by kernel_rfl) (by kernel_rfl) (by kernel_rfl) (by kernel_rfl)) ?_
  intro W base args ds gs before hval0 hW hcnd hsz0 _
  have hsz : (DataW.weightsEach Try.prog (Try.f4.params.toList ++ Rows.confRingsSpec.plain.varTypes Try.prog) (ds ++ gs)).all (· ≤ reachBytes) = true := hsz0
  have hval : ∀ (j : Nat) t v, Try.f4.params[j]? = some t → args[j]? = some v → Value.okWide Try.prog W .any base t v := hval0
  have hW' := hW
  obtain ⟨p, q, hA0, hV, rfl, hfz, hnd⟩ := hW
  have hA : DataW.TrodAll enc Try.prog W 0 (fun _ => true) true Try.f4.params.toList args.toList ds p := hA0
  rw [Try.params4] at hA hval hsz
  obtain ⟨v0, vs0, d0, ds0, p0, q0, hargs, rfl, rfl, h0, r0⟩ := trodAll_cons hA
  obtain ⟨v1, vs1, d1, ds1, p1, q1, rfl, rfl, rfl, h1, r1⟩ := trodAll_cons r0
  obtain ⟨rfl, rfl, rfl⟩ := trodAll_nil r1
  obtain rfl : args = #[v0, v1] := by cases args; simp_all
  obtain ⟨rfl, rfl⟩ := trodVars_none hV
  have k0 := h0
  have lt0 : ∀ x ∈ p0, x.block < W.heap.size := by obtain ⟨m, hm⟩ := k0; exact DataW.trod_lt m _ _ _ hm
  obtain ⟨A_0, n_0, c_0, rfl⟩ := okWide_slice Try.underlying25 (hval 0 25 v0 rfl rfl)
  obtain ⟨fuel0, hf0⟩ := h0
  obtain ⟨xa0, B_0, d_0, q_0, hok0, hc0_0, hf0_0⟩ := rd_slice (fun a => ((-9223372036854775808) ≤ a ∧ a ≤ 9223372036854775807)) Try.underlying25 eC3 (en := (fun x : Int => [Value.int .i64 x])) (fun _ => rfl) (fun _ _ _ h => rd_i64 Try.underlying3 h) hf0
  replace q_0 := List.cons.inj q_0
  replace q_0 := q_0.1
  injection q_0 with e1_0 e2_0 e3_0
  subst e1_0 e2_0 e3_0
  have k1 := h1
  have lt1 : ∀ x ∈ p1, x.block < W.heap.size := by obtain ⟨m, hm⟩ := k1; exact DataW.trod_lt m _ _ _ hm
  obtain ⟨A_1, n_1, c_1, rfl⟩ := okWide_slice Try.underlying39 (hval 1 39 v1 rfl rfl)
  obtain ⟨fuel1, hf1⟩ := h1
  obtain ⟨xa1, B_1, d_1, q_1, hok1, hc1_0, hf1_0⟩ := rd_slice (fun a => True) Try.underlying39 eC4 (en := (fun x : Bool => [Value.bool x])) (fun _ => rfl) (fun _ _ _ h => by obtain ⟨b, hb⟩ := rd_bool Try.underlying4 h; exact ⟨b, hb, trivial⟩) hf1
  replace q_1 := List.cons.inj q_1
  replace q_1 := q_1.1
  injection q_1 with e1_1 e2_1 e3_1
  subst e1_1 e2_1 e3_1
  have hF0 : Fact W (fun _ => False) (fun _ => True) := ⟨fun _ h => h.elim, fun _ _ => trivial⟩
  refine (con_top (W := W) (φ := fun W' => Cl W' A_0 (xa0.flatMap (fun x : Int => [Value.int .i64 x])) ∧ Cl W' A_1 (xa1.flatMap (fun x : Bool => [Value.bool x])) ∧ True) (fun W' hW => ⟨hf0_0.agree hW, hf1_0.agree hW, trivial⟩) (fun _ => rfl) (c_law13_ConfRings (w0 := W) (M := fun _ => False) (H := []) (R := []) (φ := fun W' => Cl W' A_0 (xa0.flatMap (fun x : Int => [Value.int .i64 x])) ∧ Cl W' A_1 (xa1.flatMap (fun x : Bool => [Value.bool x])) ∧ True) xa0 A_0 c_0 hc0_0 (fun W' hS => hS.now.1) xa1 A_1 c_1 hc1_0 (fun W' hS => hS.now.2.1) true (q_ConfRings xa0 xa1 hok0 hok1))).mono fun e W' ⟨_, he, _, _, bel⟩ => ?_
  subst he
  exact ⟨_, rfl, _, _, _, [], _, [], hW', trodAll_mk1 (shut_bool Try.underlying4 _), (trodAll_cons_mk (Below.trod laidOut (by kernel_rfl) (of_decide_eq_true (by kernel_rfl)) k0 bel lt0) (trodAll_cons_mk (Below.trod laidOut (by kernel_rfl) (of_decide_eq_true (by kernel_rfl)) k1 bel lt1) trodAll_mk0)), rfl, bel.frame _, fun h => by cases h⟩
theorem over : Rows.confRingsRow.holds Try.pinned (OpenSpec.ofChange Rows.confRingsSpec) :=
  OpenClaim.holds_of_wide 4 Try.f4 rfl rfl rfl rfl rfl rfl rfl ⟨rfl, rfl, rfl, rfl, rfl⟩ rfl rfl rfl rfl rfl (by kernel_rfl) Try.func4 (by kernel_rfl)
    (of_decide_eq_true (by kernel_rfl)) (by unfold Func.isWrapper; first | (rw [if_pos (by decide +kernel)]; kernel_rfl) | (rw [if_neg (by decide +kernel)]; exact ⟨rfl, rfl⟩))
    (fun os started H enc _ => lifted os started H enc)
theorem proved : Rows.ConfRingsSaid := over
end Go.Proofs.Ythpjodfjdnnckaa.confRings
namespace Go.Proofs.Ythpjodfjdnnckaa
/-- The row, under a short name, for the claim. -/
theorem confRings_holds : Rows.ConfRingsSaid := confRings.proved
end Go.Proofs.Ythpjodfjdnnckaa
