/- The law ConfApplies of the given program returns true for every input (no conditions), its arguments read as before, and nothing that was there is changed. -/
import Derived.Test.YthpjodfjdnnckaaGreatRows
import Derived.Test.YthpjodfjdnnckaaGreatKCY
import Derived.Test.YthpjodfjdnnckaaGreatQCY
import Derived.WalkKit
import Derived.ProofKit
import Derived.OpenShut
import Derived.ShutString
import Derived.ChangeOld
import Derived.Below
import Derived.SizedLaws
import Derived.Carry
import Derived.Laws.IdiomArrays
import Derived.Lib.SmallJoins
set_option linter.unusedVariables false
set_option linter.unusedSimpArgs false
namespace Go.Proofs.YthpjodfjdnnckaaGreat.confApplies
open Go.ChangeShapes Go.WideShapes Go.ChangeAt Go.RowKit
open Go.ChangeMaps (open_string shut_string)
theorem own : ownKnob Tryz.prog.godebug = none := by kernel_rfl
theorem laidOut : laidOutB Tryz.prog = true := by kernel_rfl
set_option maxRecDepth 100000
set_option maxRecDepth 100000 in
theorem lifted (os : Os) (started : os.Started) (H : Type) (enc : TypeId × Value → H) :
    ReturnsInHanded {} Tryz.checked os 3 .any (Rows.confAppliesSpec.pre6 enc Tryz.prog Tryz.f3 Rows.confAppliesRow.domain false) (Rows.confAppliesSpec.post enc Tryz.prog Tryz.f3 false true false false) := by
  refine returnsInHanded_of_change_sized (C := Tryz.checked) own started (by kernel_rfl) Tryz.func3
    (ChangeSpec.witness6 (enc := enc) (C := Tryz.checked) false ⟨#[], #[.slice none 0 0, .string ByteArray.empty], []⟩ 8 (by kernel_rfl) (by kernel_rfl) (by kernel_rfl) (by kernel_rfl)) ?_
  intro W base args ds gs before hval0 hW hcnd hsz0 _
  have hsz : (DataW.weightsEach Tryz.prog (Tryz.f3.params.toList ++ Rows.confAppliesSpec.plain.varTypes Tryz.prog) (ds ++ gs)).all (· ≤ reachBytes) = true := hsz0
  have hval : ∀ (j : Nat) t v, Tryz.f3.params[j]? = some t → args[j]? = some v → Value.okWide Tryz.prog W .any base t v := hval0
  have hW' := hW
  obtain ⟨p, q, hA0, hV, rfl, hfz, hnd⟩ := hW
  have hA : DataW.TrodAll enc Tryz.prog W 0 (fun _ => true) true Tryz.f3.params.toList args.toList ds p := hA0
  rw [Tryz.params3] at hA hval hsz
  obtain ⟨v0, vs0, d0, ds0, p0, q0, hargs, rfl, rfl, h0, r0⟩ := trodAll_cons hA
  obtain ⟨v1, vs1, d1, ds1, p1, q1, rfl, rfl, rfl, h1, r1⟩ := trodAll_cons r0
  obtain ⟨rfl, rfl, rfl⟩ := trodAll_nil r1
  obtain rfl : args = #[v0, v1] := by cases args; simp_all
  obtain ⟨rfl, rfl⟩ := trodVars_none hV
  have k0 := h0
  have lt0 : ∀ x ∈ p0, x.block < W.heap.size := by obtain ⟨m, hm⟩ := k0; exact DataW.trod_lt m _ _ _ hm
  obtain ⟨A_0, n_0, c_0, rfl⟩ := okWide_slice Tryz.underlying22 (hval 0 22 v0 rfl rfl)
  obtain ⟨fuel0, hf0⟩ := h0
  obtain ⟨xa0, P_0, B_0, d_0, q_0, hok0, hc0_0, hf0_0, hw0_0⟩ := rd_split (rd_slice (fun a => GOrder.ok a.1 ∧ GOrder.capP a ∧ GOrder.ownP W a) Tryz.underlying22 eC32 (en := GOrder.encP) (fun _ => rfl) (fun _ _ _ h => by obtain ⟨m, A0, c0, hm, ho, u0, f0⟩ := rd32 h; exact ⟨(m, ⟨A0, c0⟩), hm, ho, u0, f0⟩) hf0)
  replace q_0 := List.cons.inj q_0
  replace q_0 := q_0.1
  injection q_0 with e1_0 e2_0 e3_0
  subst e1_0 e2_0 e3_0
  have k1 := h1
  have lt1 : ∀ x ∈ p1, x.block < W.heap.size := by obtain ⟨m, hm⟩ := k1; exact DataW.trod_lt m _ _ _ hm
  obtain ⟨xa1, rfl, rfl, rfl, hok1⟩ := open_string Tryz.underlying9 (hval 1 9 v1 rfl rfl) h1
  have hF0 : Fact W (fun _ => False) (fun _ => True) := ⟨fun _ h => h.elim, fun _ _ => trivial⟩
  refine (con_top (W := W) (φ := fun W' => Cl W' A_0 ((xa0.zip P_0).flatMap GOrder.encP) ∧ DOwn GOrder.ownP xa0 P_0 W' ∧ True) (fun W' hW => ⟨hf0_0.agree hW, fun z hz => GOrder.agree hW (hw0_0 z hz), trivial⟩) (fun _ => rfl) (c_law13_ConfApplies (w0 := W) (M := fun _ => False) (H := []) (R := []) (φ := fun W' => Cl W' A_0 ((xa0.zip P_0).flatMap GOrder.encP) ∧ DOwn GOrder.ownP xa0 P_0 W' ∧ True) xa0 A_0 c_0 P_0 hc0_0 (fun W' hS => hS.now.1) (fun W' hS => hS.now.2.1) xa1 true (q_ConfApplies xa0 xa1 hok0 hok1))).mono fun e W' ⟨_, he, _, _, bel⟩ => ?_
  subst he
  exact ⟨_, rfl, _, _, _, [], _, [], hW', trodAll_mk1 (shut_bool Tryz.underlying4 _), (trodAll_cons_mk (Below.trod laidOut (by kernel_rfl) (of_decide_eq_true (by kernel_rfl)) k0 bel.rk lt0) (trodAll_cons_mk (Below.trod laidOut (by kernel_rfl) (of_decide_eq_true (by kernel_rfl)) k1 bel.rk lt1) trodAll_mk0)), rfl, bel.rk.frame _, fun h => by cases h⟩
theorem over : Rows.confAppliesRow.holds Tryz.pinned (OpenSpec.ofChange Rows.confAppliesSpec) :=
  OpenClaim.holds_of_wide 3 Tryz.f3 rfl rfl rfl rfl rfl rfl rfl ⟨rfl, rfl, rfl, rfl, rfl⟩ rfl rfl rfl rfl rfl (by kernel_rfl) Tryz.func3 (by kernel_rfl)
    (of_decide_eq_true (by kernel_rfl)) (by unfold Func.isWrapper; first | (rw [if_pos (by decide +kernel)]; kernel_rfl) | (rw [if_neg (by decide +kernel)]; exact ⟨rfl, rfl⟩))
    (fun os started H enc _ => lifted os started H enc)
theorem proved : Rows.ConfAppliesSaid := over
end Go.Proofs.YthpjodfjdnnckaaGreat.confApplies
namespace Go.Proofs.YthpjodfjdnnckaaGreat
/-- The row, under a short name, for the claim. -/
theorem confApplies_holds : Rows.ConfAppliesSaid := confApplies.proved
end Go.Proofs.YthpjodfjdnnckaaGreat
