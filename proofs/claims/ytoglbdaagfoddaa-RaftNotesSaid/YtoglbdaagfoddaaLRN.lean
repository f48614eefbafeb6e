/- The law RaftNotes of the given program returns true for every input (no conditions), its arguments read as before, and nothing that was there is changed. -/
import Derived.Test.YtoglbdaagfoddaaRows
import Derived.Test.YtoglbdaagfoddaaKRN
import Derived.Test.YtoglbdaagfoddaaQRN
import Derived.WalkKit
import Derived.ProofKit
import Derived.OpenShut
import Derived.ShutString
import Derived.ChangeOld
import Derived.Below
import Derived.SizedLaws
import Derived.Carry
import Derived.Laws.IdiomArrays
import Derived.Lib.SmallJoins
set_option linter.unusedVariables false
set_option linter.unusedSimpArgs false
namespace Go.Proofs.Ytoglbdaagfoddaa.raftNotes
open Go.ChangeShapes Go.WideShapes Go.ChangeAt Go.RowKit
open Go.ChangeMaps (open_string shut_string)
theorem own : ownKnob Try.prog.godebug = none := by kernel_rfl
theorem laidOut : laidOutB Try.prog = true := by kernel_rfl
set_option maxRecDepth 100000
set_option maxRecDepth 100000 in
theorem lifted (os : Os) (started : os.Started) (H : Type) (enc : TypeId × Value → H) :
    ReturnsInHanded {} Try.checked os 3 .any (Rows.raftNotesSpec.pre6 enc Try.prog Try.f3 Rows.raftNotesRow.domain false) (Rows.raftNotesSpec.post enc Try.prog Try.f3 false true false false) := by
  refine returnsInHanded_of_change_sized (C := Try.checked) own started (by kernel_rfl) Try.func3
    (ChangeSpec.witness6 (enc := enc) (C := Try.checked) false ⟨#[], #[.agg #[.int .i64 0, .int .i64 0, .int .i64 0, .int .i64 0, .int .i64 0, .int .i64 0, .int .i64 0, .bool false, .slice none 0 0, .slice none 0 0, .string ByteArray.empty], .slice none 0 0, .slice none 0 0], []⟩ 8 (by kernel_rfl) (by kernel_rfl) (by kernel_rfl) (by kernel_rfl)) ?_
  intro W base args ds gs before hval0 hW hcnd hsz0 _
  have hsz : (DataW.weightsEach Try.prog (Try.f3.params.toList ++ Rows.raftNotesSpec.plain.varTypes Try.prog) (ds ++ gs)).all (· ≤ reachBytes) = true := hsz0
  have hval : ∀ (j : Nat) t v, Try.f3.params[j]? = some t → args[j]? = some v → Value.okWide Try.prog W .any base t v := hval0
  have hW' := hW
  obtain ⟨p, q, hA0, hV, rfl, hfz, hnd⟩ := hW
  have hA : DataW.TrodAll enc Try.prog W 0 (fun _ => true) true Try.f3.params.toList args.toList ds p := hA0
  rw [Try.params3] at hA hval hsz
  obtain ⟨v0, vs0, d0, ds0, p0, q0, hargs, rfl, rfl, h0, r0⟩ := trodAll_cons hA
  obtain ⟨v1, vs1, d1, ds1, p1, q1, rfl, rfl, rfl, h1, r1⟩ := trodAll_cons r0
  obtain ⟨v2, vs2, d2, ds2, p2, q2, rfl, rfl, rfl, h2, r2⟩ := trodAll_cons r1
  obtain ⟨rfl, rfl, rfl⟩ := trodAll_nil r2
  obtain rfl : args = #[v0, v1, v2] := by cases args; simp_all
  obtain ⟨rfl, rfl⟩ := trodVars_none hV
  have k0 := h0
  have lt0 : ∀ x ∈ p0, x.block < W.heap.size := by obtain ⟨m, hm⟩ := k0; exact DataW.trod_lt m _ _ _ hm
  obtain ⟨⟨cs0⟩, rfl, _⟩ := okWide_struct Try.underlying25 (hval 0 25 v0 rfl rfl)
  obtain ⟨fuel0, hf0⟩ := h0
  obtain ⟨xa0, B0_0, d0_0, B0_1, d0_1, hq0, hok0, hc0_0, hf0_0, hc0_1, hf0_1⟩ := rd25 hf0
  replace hq0 : cs0 = _ := hq0
  subst hq0
  have k1 := h1
  have lt1 : ∀ x ∈ p1, x.block < W.heap.size := by obtain ⟨m, hm⟩ := k1; exact DataW.trod_lt m _ _ _ hm
  obtain ⟨A_1, n_1, c_1, rfl⟩ := okWide_slice Try.underlying23 (hval 1 23 v1 rfl rfl)
  obtain ⟨fuel1, hf1⟩ := h1
  obtain ⟨xa1, B_1, d_1, q_1, hok1, hc1_0, hf1_0⟩ := rd_slice (fun a => ((-9223372036854775808) ≤ a ∧ a ≤ 9223372036854775807)) Try.underlying23 eC3 (en := (fun x : Int => [Value.int .i64 x])) (fun _ => rfl) (fun _ _ _ h => rd_i64 Try.underlying3 h) hf1
  replace q_1 := List.cons.inj q_1
  replace q_1 := q_1.1
  injection q_1 with e1_1 e2_1 e3_1
  subst e1_1 e2_1 e3_1
  have k2 := h2
  have lt2 : ∀ x ∈ p2, x.block < W.heap.size := by obtain ⟨m, hm⟩ := k2; exact DataW.trod_lt m _ _ _ hm
  obtain ⟨A_2, n_2, c_2, rfl⟩ := okWide_slice Try.underlying23 (hval 2 23 v2 rfl rfl)
  obtain ⟨fuel2, hf2⟩ := h2
  obtain ⟨xa2, B_2, d_2, q_2, hok2, hc2_0, hf2_0⟩ := rd_slice (fun a => ((-9223372036854775808) ≤ a ∧ a ≤ 9223372036854775807)) Try.underlying23 eC3 (en := (fun x : Int => [Value.int .i64 x])) (fun _ => rfl) (fun _ _ _ h => rd_i64 Try.underlying3 h) hf2
  replace q_2 := List.cons.inj q_2
  replace q_2 := q_2.1
  injection q_2 with e1_2 e2_2 e3_2
  subst e1_2 e2_2 e3_2
  have hF0 : Fact W (fun _ => False) (fun _ => True) := ⟨fun _ h => h.elim, fun _ _ => trivial⟩
  refine (con_top (W := W) (φ := fun W' => Cl W' B0_0 (xa0.fEntries.flatMap GEntry.enc) ∧ Cl W' B0_1 (xa0.fVoters.flatMap (fun x : Int => [Value.int .i64 x])) ∧ Cl W' A_1 (xa1.flatMap (fun x : Int => [Value.int .i64 x])) ∧ Cl W' A_2 (xa2.flatMap (fun x : Int => [Value.int .i64 x])) ∧ True) (fun W' hW => ⟨hf0_0.agree hW, hf0_1.agree hW, hf1_0.agree hW, hf2_0.agree hW, trivial⟩) (fun _ => rfl) (c_law12_RaftNotes (w0 := W) (M := fun _ => False) (H := []) (R := []) (φ := fun W' => Cl W' B0_0 (xa0.fEntries.flatMap GEntry.enc) ∧ Cl W' B0_1 (xa0.fVoters.flatMap (fun x : Int => [Value.int .i64 x])) ∧ Cl W' A_1 (xa1.flatMap (fun x : Int => [Value.int .i64 x])) ∧ Cl W' A_2 (xa2.flatMap (fun x : Int => [Value.int .i64 x])) ∧ True) xa0 B0_0 d0_0 hc0_0 (fun W' hS => hS.now.1) B0_1 d0_1 hc0_1 (fun W' h => h.2.1) xa1 A_1 c_1 hc1_0 (fun W' h => h.2.2.1) xa2 A_2 c_2 hc2_0 (fun W' h => h.2.2.2.1) true (q_RaftNotes xa0 xa1 xa2 hok0 hok1 hok2))).mono fun e W' ⟨_, he, _, _, bel⟩ => ?_
  subst he
  exact ⟨_, rfl, _, _, _, [], _, [], hW', trodAll_mk1 (shut_bool Try.underlying4 _), (trodAll_cons_mk (Below.trod laidOut (by kernel_rfl) (of_decide_eq_true (by kernel_rfl)) k0 bel lt0) (trodAll_cons_mk (Below.trod laidOut (by kernel_rfl) (of_decide_eq_true (by kernel_rfl)) k1 bel lt1) (trodAll_cons_mk (Below.trod laidOut (by kernel_rfl) (of_decide_eq_true (by kernel_rfl)) k2 bel lt2) trodAll_mk0))), rfl, bel.frame _, fun h => by cases h⟩
theorem over : Rows.raftNotesRow.holds Try.pinned (OpenSpec.ofChange Rows.raftNotesSpec) :=
  OpenClaim.holds_of_wide 3 Try.f3 rfl rfl rfl rfl rfl rfl rfl ⟨rfl, rfl, rfl, rfl, rfl⟩ rfl rfl rfl rfl rfl (by kernel_rfl) Try.func3 (by kernel_rfl)
    (of_decide_eq_true (by kernel_rfl)) (by unfold Func.isWrapper; first | (rw [if_pos (by decide +kernel)]; kernel_rfl) | (rw [if_neg (by decide +kernel)]; exact ⟨rfl, rfl⟩))
    (fun os started H enc _ => lifted os started H enc)
theorem proved : Rows.RaftNotesSaid := over
end Go.Proofs.Ytoglbdaagfoddaa.raftNotes
namespace Go.Proofs.Ytoglbdaagfoddaa
/-- The row, under a short name, for the claim. -/
theorem raftNotes_holds : Rows.RaftNotesSaid := raftNotes.proved
end Go.Proofs.Ytoglbdaagfoddaa
