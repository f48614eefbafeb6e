/- The law PeerBack of the given program returns true for every input (no conditions), its arguments read as before, and nothing that was there is changed. -/
import Derived.Test.YtbaobjcaeaofaaaRows
import Derived.Test.YtbaobjcaeaofaaaKPK
import Derived.Test.YtbaobjcaeaofaaaQPK
import Derived.WalkKit
import Derived.ProofKit
import Derived.OpenShut
import Derived.ShutString
import Derived.ChangeOld
import Derived.Below
import Derived.SizedLaws
import Derived.Carry
import Derived.Laws.IdiomArrays
import Derived.Lib.SmallJoins
set_option linter.unusedVariables false
set_option linter.unusedSimpArgs false
namespace Go.Proofs.Ytbaobjcaeaofaaa.peerBack
open Go.ChangeShapes Go.WideShapes Go.ChangeAt Go.RowKit
open Go.ChangeMaps (open_string shut_string)
theorem own : ownKnob Try.prog.godebug = none := by kernel_rfl
theorem laidOut : laidOutB Try.prog = true := by kernel_rfl
set_option maxRecDepth 100000
set_option maxRecDepth 100000 in
theorem lifted (os : Os) (started : os.Started) (H : Type) (enc : TypeId × Value → H) :
    ReturnsInHanded {} Try.checked os 6 .any (Rows.peerBackSpec.pre6 enc Try.prog Try.f6 Rows.peerBackRow.domain false) (Rows.peerBackSpec.post enc Try.prog Try.f6 false true false false) := by
  refine returnsInHanded_of_change_sized (C := Try.checked) own started (by kernel_rfl) Try.func6
    (ChangeSpec.witness6 (enc := enc) (C := Try.checked) false ⟨#[], #[.agg #[.int .i64 0, .int .i64 0, .int .i64 0, .string ByteArray.empty, .int .u16 0, .int .u16 0, .bool false, .slice none 0 0, .int .i64 0, .int .i64 0, .int .i64 0, .int .i64 0, .int .i64 0, .int .i64 0, .int .i64 0, .bool false, .slice none 0 0, .slice none 0 0, .string ByteArray.empty, .string ByteArray.empty], .string ByteArray.empty, .int .i64 0], []⟩ 8 (by kernel_rfl) (by kernel_rfl) (by kernel_rfl) (by kernel_rfl)) ?_
  intro W base args ds gs before hval0 hW hcnd hsz0 _
  have hsz : (DataW.weightsEach Try.prog (Try.f6.params.toList ++ Rows.peerBackSpec.plain.varTypes Try.prog) (ds ++ gs)).all (· ≤ reachBytes) = true := hsz0
  have hval : ∀ (j : Nat) t v, Try.f6.params[j]? = some t → args[j]? = some v → Value.okWide Try.prog W .any base t v := hval0
  have hW' := hW
  obtain ⟨p, q, hA0, hV, rfl, hfz, hnd⟩ := hW
  have hA : DataW.TrodAll enc Try.prog W 0 (fun _ => true) true Try.f6.params.toList args.toList ds p := hA0
  rw [Try.params6] at hA hval hsz
  obtain ⟨v0, vs0, d0, ds0, p0, q0, hargs, rfl, rfl, h0, r0⟩ := trodAll_cons hA
  obtain ⟨v1, vs1, d1, ds1, p1, q1, rfl, rfl, rfl, h1, r1⟩ := trodAll_cons r0
  obtain ⟨v2, vs2, d2, ds2, p2, q2, rfl, rfl, rfl, h2, r2⟩ := trodAll_cons r1
  obtain ⟨rfl, rfl, rfl⟩ := trodAll_nil r2
  obtain rfl : args = #[v0, v1, v2] := by cases args; simp_all
  obtain ⟨rfl, rfl⟩ := trodVars_none hV
  have k0 := h0
  have lt0 : ∀ x ∈ p0, x.block < W.heap.size := by obtain ⟨m, hm⟩ := k0; exact DataW.trod_lt m _ _ _ hm
  obtain ⟨⟨cs0⟩, rfl, _⟩ := okWide_struct Try.underlying31 (hval 0 31 v0 rfl rfl)
  obtain ⟨fuel0, hf0⟩ := h0
  obtain ⟨xa0, B0_0, d0_0, P0_0, B0_1, d0_1, B0_2, d0_2, hq0, hok0, hc0_0, hf0_0, hw0_0, hc0_1, hf0_1, hc0_2, hf0_2⟩ := rd31 hf0
  replace hq0 : cs0 = _ := hq0
  subst hq0
  have k1 := h1
  have lt1 : ∀ x ∈ p1, x.block < W.heap.size := by obtain ⟨m, hm⟩ := k1; exact DataW.trod_lt m _ _ _ hm
  obtain ⟨xa1, rfl, rfl, rfl, hok1⟩ := open_string Try.underlying9 (hval 1 9 v1 rfl rfl) h1
  have k2 := h2
  have lt2 : ∀ x ∈ p2, x.block < W.heap.size := by obtain ⟨m, hm⟩ := k2; exact DataW.trod_lt m _ _ _ hm
  obtain ⟨xa2, rfl, rfl, rfl, hw2⟩ := open_int Try.underlying3 (hval 2 3 v2 rfl rfl) h2
  have hok2 := (Lit.wf_int_iff .i64 xa2).1 hw2
  have hF0 : Fact W (fun _ => False) (fun _ => True) := ⟨fun _ h => h.elim, fun _ _ => trivial⟩
  refine (con_top (W := W) (φ := fun W' => Cl W' B0_0 ((xa0.fEntries.zip P0_0).flatMap GCached.encP) ∧ DOwn GCached.ownP xa0.fEntries P0_0 W' ∧ Cl W' B0_1 (xa0.fNote.fEntries.flatMap GEntry.enc) ∧ Cl W' B0_2 (xa0.fNote.fVoters.flatMap (fun x : Int => [Value.int .i64 x])) ∧ True) (fun W' hW => ⟨hf0_0.agree hW, fun z hz => GCached.agree hW (hw0_0 z hz), hf0_1.agree hW, hf0_2.agree hW, trivial⟩) (fun _ => rfl) (c_law20_PeerBack (w0 := W) (M := fun _ => False) (H := []) (R := []) (φ := fun W' => Cl W' B0_0 ((xa0.fEntries.zip P0_0).flatMap GCached.encP) ∧ DOwn GCached.ownP xa0.fEntries P0_0 W' ∧ Cl W' B0_1 (xa0.fNote.fEntries.flatMap GEntry.enc) ∧ Cl W' B0_2 (xa0.fNote.fVoters.flatMap (fun x : Int => [Value.int .i64 x])) ∧ True) xa0 B0_0 d0_0 P0_0 hc0_0 (fun W' hS => hS.now.1) (fun W' hS => hS.now.2.1) B0_1 d0_1 hc0_1 (fun W' hS => hS.now.2.2.1) B0_2 d0_2 hc0_2 (fun W' h => h.2.2.2.1) xa1 xa2 true (q_PeerBack xa0 xa1 xa2 hok0 hok1 hok2))).mono fun e W' ⟨_, he, _, _, bel⟩ => ?_
  subst he
  exact ⟨_, rfl, _, _, _, [], _, [], hW', trodAll_mk1 (shut_bool Try.underlying4 _), (trodAll_cons_mk (Below.trod laidOut (by kernel_rfl) (of_decide_eq_true (by kernel_rfl)) k0 bel lt0) (trodAll_cons_mk (Below.trod laidOut (by kernel_rfl) (of_decide_eq_true (by kernel_rfl)) k1 bel lt1) (trodAll_cons_mk (Below.trod laidOut (by kernel_rfl) (of_decide_eq_true (by kernel_rfl)) k2 bel lt2) trodAll_mk0))), rfl, bel.frame _, fun h => by cases h⟩
theorem over : Rows.peerBackRow.holds Try.pinned (OpenSpec.ofChange Rows.peerBackSpec) :=
  OpenClaim.holds_of_wide 6 Try.f6 rfl rfl rfl rfl rfl rfl rfl ⟨rfl, rfl, rfl, rfl, rfl⟩ rfl rfl rfl rfl rfl (by kernel_rfl) Try.func6 (by kernel_rfl)
    (of_decide_eq_true (by kernel_rfl)) (by unfold Func.isWrapper; first | (rw [if_pos (by decide +kernel)]; kernel_rfl) | (rw [if_neg (by decide +kernel)]; exact ⟨rfl, rfl⟩))
    (fun os started H enc _ => lifted os started H enc)
theorem proved : Rows.PeerBackSaid := over
end Go.Proofs.Ytbaobjcaeaofaaa.peerBack
namespace Go.Proofs.Ytbaobjcaeaofaaa
/-- The row, under a short name, for the claim. -/
theorem peerBack_holds : Rows.PeerBackSaid := peerBack.proved
end Go.Proofs.Ytbaobjcaeaofaaa
