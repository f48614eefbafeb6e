/- The law PeerOne of the given program returns true for every input (no conditions), its arguments read as before, and nothing that was there is changed. -/
import Derived.Test.YtbaobjcaeaofaaaRows
import Derived.Test.YtbaobjcaeaofaaaKPO
import Derived.Test.YtbaobjcaeaofaaaQPO
import Derived.WalkKit
import Derived.ProofKit
import Derived.OpenShut
import Derived.ShutString
import Derived.ChangeOld
import Derived.Below
import Derived.SizedLaws
import Derived.Carry
import Derived.Laws.IdiomArrays
import Derived.Lib.SmallJoins
set_option linter.unusedVariables false
set_option linter.unusedSimpArgs false
namespace Go.Proofs.Ytbaobjcaeaofaaa.peerOne
open Go.ChangeShapes Go.WideShapes Go.ChangeAt Go.RowKit
open Go.ChangeMaps (open_string shut_string)
theorem own : ownKnob Try.prog.godebug = none := by kernel_rfl
theorem laidOut : laidOutB Try.prog = true := by kernel_rfl
set_option maxRecDepth 100000
set_option maxRecDepth 100000 in
theorem lifted (os : Os) (started : os.Started) (H : Type) (enc : TypeId × Value → H) :
    ReturnsInHanded {} Try.checked os 5 .any (Rows.peerOneSpec.pre6 enc Try.prog Try.f5 Rows.peerOneRow.domain false) (Rows.peerOneSpec.post enc Try.prog Try.f5 false true false false) := by
  refine returnsInHanded_of_change_sized (C := Try.checked) own started (by kernel_rfl) Try.func5
    (ChangeSpec.witness6 (enc := enc) (C := Try.checked) false ⟨#[], #[.agg #[.int .i64 0, .int .i64 0, .int .i64 0, .string ByteArray.empty, .int .u16 0, .int .u16 0, .bool false, .slice none 0 0, .int .i64 0, .int .i64 0, .int .i64 0, .int .i64 0, .int .i64 0, .int .i64 0, .int .i64 0, .bool false, .slice none 0 0, .slice none 0 0, .string ByteArray.empty, .string ByteArray.empty], .agg #[.int .i64 0, .int .i64 0, .int .i64 0, .string ByteArray.empty, .int .u16 0, .int .u16 0, .bool false, .slice none 0 0, .int .i64 0, .int .i64 0, .int .i64 0, .int .i64 0, .int .i64 0, .int .i64 0, .int .i64 0, .bool false, .slice none 0 0, .slice none 0 0, .string ByteArray.empty, .string ByteArray.empty]], []⟩ 8 (by kernel_rfl) (by kernel_rfl) (by kernel_rfl) (by kernel_rfl)) ?_
  intro W base args ds gs before hval0 hW hcnd hsz0 _
  have hsz : (DataW.weightsEach Try.prog (Try.f5.params.toList ++ Rows.peerOneSpec.plain.varTypes Try.prog) (ds ++ gs)).all (· ≤ reachBytes) = true := hsz0
  have hval : ∀ (j : Nat) t v, Try.f5.params[j]? = some t → args[j]? = some v → Value.okWide Try.prog W .any base t v := hval0
  have hW' := hW
  obtain ⟨p, q, hA0, hV, rfl, hfz, hnd⟩ := hW
  have hA : DataW.TrodAll enc Try.prog W 0 (fun _ => true) true Try.f5.params.toList args.toList ds p := hA0
  rw [Try.params5] at hA hval hsz
  obtain ⟨v0, vs0, d0, ds0, p0, q0, hargs, rfl, rfl, h0, r0⟩ := trodAll_cons hA
  obtain ⟨v1, vs1, d1, ds1, p1, q1, rfl, rfl, rfl, h1, r1⟩ := trodAll_cons r0
  obtain ⟨rfl, rfl, rfl⟩ := trodAll_nil r1
  obtain rfl : args = #[v0, v1] := by cases args; simp_all
  obtain ⟨rfl, rfl⟩ := trodVars_none hV
  have k0 := h0
  have lt0 : ∀ x ∈ p0, x.block < W.heap.size := by obtain ⟨m, hm⟩ := k0; exact DataW.trod_lt m _ _ _ hm
  obtain ⟨⟨cs0⟩, rfl, _⟩ := okWide_struct Try.underlying31 (hval 0 31 v0 rfl rfl)
  obtain ⟨fuel0, hf0⟩ := h0
  obtain ⟨xa0, B0_0, d0_0, P0_0, B0_1, d0_1, B0_2, d0_2, hq0, hok0, hc0_0, hf0_0, hw0_0, hc0_1, hf0_1, hc0_2, hf0_2⟩ := rd31 hf0
  replace hq0 : cs0 = _ := hq0
  subst hq0
  have k1 := h1
  have lt1 : ∀ x ∈ p1, x.block < W.heap.size := by obtain ⟨m, hm⟩ := k1; exact DataW.trod_lt m _ _ _ hm
  obtain ⟨⟨cs1⟩, rfl, _⟩ := okWide_struct Try.underlying31 (hval 1 31 v1 rfl rfl)
  obtain ⟨fuel1, hf1⟩ := h1
  obtain ⟨xa1, B1_0, d1_0, P1_0, B1_1, d1_1, B1_2, d1_2, hq1, hok1, hc1_0, hf1_0, hw1_0, hc1_1, hf1_1, hc1_2, hf1_2⟩ := rd31 hf1
  replace hq1 : cs1 = _ := hq1
  subst hq1
  have hF0 : Fact W (fun _ => False) (fun _ => True) := ⟨fun _ h => h.elim, fun _ _ => trivial⟩
  refine (con_top (W := W) (φ := fun W' => Cl W' B0_0 ((xa0.fEntries.zip P0_0).flatMap GCached.encP) ∧ DOwn GCached.ownP xa0.fEntries P0_0 W' ∧ Cl W' B0_1 (xa0.fNote.fEntries.flatMap GEntry.enc) ∧ Cl W' B0_2 (xa0.fNote.fVoters.flatMap (fun x : Int => [Value.int .i64 x])) ∧ Cl W' B1_0 ((xa1.fEntries.zip P1_0).flatMap GCached.encP) ∧ DOwn GCached.ownP xa1.fEntries P1_0 W' ∧ Cl W' B1_1 (xa1.fNote.fEntries.flatMap GEntry.enc) ∧ Cl W' B1_2 (xa1.fNote.fVoters.flatMap (fun x : Int => [Value.int .i64 x])) ∧ True) (fun W' hW => ⟨hf0_0.agree hW, fun z hz => GCached.agree hW (hw0_0 z hz), hf0_1.agree hW, hf0_2.agree hW, hf1_0.agree hW, fun z hz => GCached.agree hW (hw1_0 z hz), hf1_1.agree hW, hf1_2.agree hW, trivial⟩) (fun _ => rfl) (c_law20_PeerOne (w0 := W) (M := fun _ => False) (H := []) (R := []) (φ := fun W' => Cl W' B0_0 ((xa0.fEntries.zip P0_0).flatMap GCached.encP) ∧ DOwn GCached.ownP xa0.fEntries P0_0 W' ∧ Cl W' B0_1 (xa0.fNote.fEntries.flatMap GEntry.enc) ∧ Cl W' B0_2 (xa0.fNote.fVoters.flatMap (fun x : Int => [Value.int .i64 x])) ∧ Cl W' B1_0 ((xa1.fEntries.zip P1_0).flatMap GCached.encP) ∧ DOwn GCached.ownP xa1.fEntries P1_0 W' ∧ Cl W' B1_1 (xa1.fNote.fEntries.flatMap GEntry.enc) ∧ Cl W' B1_2 (xa1.fNote.fVoters.flatMap (fun x : Int => [Value.int .i64 x])) ∧ True) xa0 B0_0 d0_0 P0_0 hc0_0 (fun W' hS => hS.now.1) (fun W' hS => hS.now.2.1) B0_1 d0_1 hc0_1 (fun W' hS => hS.now.2.2.1) B0_2 d0_2 hc0_2 (fun W' h => h.2.2.2.1) xa1 B1_0 d1_0 P1_0 hc1_0 (fun W' hS => hS.now.2.2.2.2.1) (fun W' hS => hS.now.2.2.2.2.2.1) B1_1 d1_1 hc1_1 (fun W' hS => hS.now.2.2.2.2.2.2.1) B1_2 d1_2 hc1_2 (fun W' h => h.2.2.2.2.2.2.2.1) true (q_PeerOne xa0 xa1 hok0 hok1))).mono fun e W' ⟨_, he, _, _, bel⟩ => ?_
  subst he
  exact ⟨_, rfl, _, _, _, [], _, [], hW', trodAll_mk1 (shut_bool Try.underlying4 _), (trodAll_cons_mk (Below.trod laidOut (by kernel_rfl) (of_decide_eq_true (by kernel_rfl)) k0 bel lt0) (trodAll_cons_mk (Below.trod laidOut (by kernel_rfl) (of_decide_eq_true (by kernel_rfl)) k1 bel lt1) trodAll_mk0)), rfl, bel.frame _, fun h => by cases h⟩
theorem over : Rows.peerOneRow.holds Try.pinned (OpenSpec.ofChange Rows.peerOneSpec) :=
  OpenClaim.holds_of_wide 5 Try.f5 rfl rfl rfl rfl rfl rfl rfl ⟨rfl, rfl, rfl, rfl, rfl⟩ rfl rfl rfl rfl rfl (by kernel_rfl) Try.func5 (by kernel_rfl)
    (of_decide_eq_true (by kernel_rfl)) (by unfold Func.isWrapper; first | (rw [if_pos (by decide +kernel)]; kernel_rfl) | (rw [if_neg (by decide +kernel)]; exact ⟨rfl, rfl⟩))
    (fun os started H enc _ => lifted os started H enc)
theorem proved : Rows.PeerOneSaid := over
end Go.Proofs.Ytbaobjcaeaofaaa.peerOne
namespace Go.Proofs.Ytbaobjcaeaofaaa
/-- The row, under a short name, for the claim. -/
theorem peerOne_holds : Rows.PeerOneSaid := peerOne.proved
end Go.Proofs.Ytbaobjcaeaofaaa
