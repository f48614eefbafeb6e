/- The law NetStreams of the given program returns true for every input whose reading is of bulk at most 1048576, its arguments read as before, and nothing that was there is changed. -/
import Derived.Test.YthajfodilodhaaaRows
import Derived.JoinedCond
import Derived.Deep.CondSized
import Derived.Test.YthajfodilodhaaaKDS
import Derived.Test.YthajfodilodhaaaQDS
import Derived.WalkKit
import Derived.ProofKit
import Derived.OpenShut
import Derived.ShutString
import Derived.ChangeOld
import Derived.Below
import Derived.SizedLaws
import Derived.Carry
import Derived.Laws.IdiomArrays
import Derived.Lib.SmallJoins
set_option linter.unusedVariables false
set_option linter.unusedSimpArgs false
namespace Go.Proofs.Ythajfodilodhaaa.netStreams
open Go.ChangeShapes Go.WideShapes Go.ChangeAt Go.RowKit
open Go.ChangeMaps (open_string shut_string)
theorem own : ownKnob Try.prog.godebug = none := by kernel_rfl
theorem laidOut : laidOutB Try.prog = true := by kernel_rfl
set_option maxRecDepth 100000
theorem wit (os : Os) {H : Type} (enc : TypeId × Value → H) : ∃ (w : World) (tape : Tape) (i : Input), w.os = os ∧ (w.forCall tape i).Shaped Try.checked.prog ∧ i.vars = [] ∧ Input.okWide Try.checked.prog (w.forCall tape i) .any w.heap.size 3 i ∧ (Rows.OpenSpec.upto Rows.netStreamsSpec).pre6 enc Try.checked.prog Try.f3 Rows.netStreamsUptoRow.domain false (w.forCall tape i).memory i.args ∧ ({} : Assume).holds Try.checked.prog (lone (Frame.enter Try.checked.prog 3 i.args .normal) [] (w.forCall tape i)) := by
  have hw : (DataW.whole enc Try.checked.prog (World.plainHolding Try.checked.prog os ⟨#[], #[.slice none 0 0], []⟩).memory Try.f3.params.toList (Rows.OpenSpec.upto Rows.netStreamsSpec).vars false #[.slice none 0 0].toList 8).map (fun x => Rows.uptoSmall H (x.1 ++ x.2.1)) = some true := by kernel_rfl
  obtain ⟨x, hx, hk⟩ := Option.map_eq_some_iff.1 hw
  exact OpenSpec.witness (s := (Rows.OpenSpec.upto Rows.netStreamsSpec)) (enc := enc) (C := Try.checked) rfl false ⟨#[], #[.slice none 0 0], []⟩ 8 (by kernel_rfl) (by kernel_rfl) (by kernel_rfl) hx (by kernel_rfl) hk
set_option maxRecDepth 100000 in
theorem lifted (os : Os) (started : os.Started) (H : Type) (enc : TypeId × Value → H) (F : Stop.Interp) :
    ReturnsInHanded {} Try.checked os 3 .any ((Rows.OpenSpec.upto Rows.netStreamsSpec).pre6 enc Try.prog Try.f3 Rows.netStreamsUptoRow.domain false) (((Rows.OpenSpec.upto Rows.netStreamsSpec).at F).post enc Try.prog Try.f3 false true false false) := by
  refine returnsInHanded_of_cond_sized (C := Try.checked) (s := (Rows.OpenSpec.upto Rows.netStreamsSpec)) (k := Rows.uptoSmall) rfl own started (by kernel_rfl) Try.func3 (wit os enc) ?_
  intro W base args ds gs before hval0 hW hcnd hsm hsz0 _
  have hval : ∀ (j : Nat) t v, Try.f3.params[j]? = some t → args[j]? = some v → Value.okWide Try.prog W .any base t v := hval0
  have hW' := hW
  obtain ⟨p, q, hA0, hV, rfl, hfz, hnd⟩ := hW
  have hA : DataW.TrodAll enc Try.prog W 0 (fun _ => true) true Try.f3.params.toList args.toList ds p := hA0
  rw [Try.params3] at hA hval
  obtain ⟨v0, vs0, d0, ds0, p0, q0, hargs, rfl, rfl, h0, r0⟩ := trodAll_cons hA
  obtain ⟨rfl, rfl, rfl⟩ := trodAll_nil r0
  obtain rfl : args = #[v0] := by cases args; simp_all
  obtain ⟨rfl, rfl⟩ := trodVars_none hV
  replace hsm : Rows.uptoBulkAll [d0] ≤ 1048576 := of_decide_eq_true hsm
  have hbk0 : Rows.uptoBulk d0 ≤ 1048576 := Nat.le_trans (bulk_mem (by simp)) hsm
  clear hsm hsz0
  have k0 := h0
  have lt0 : ∀ x ∈ p0, x.block < W.heap.size := by obtain ⟨m, hm⟩ := k0; exact DataW.trod_lt m _ _ _ hm
  obtain ⟨A_0, n_0, c_0, rfl⟩ := okWide_slice Try.underlying22 (hval 0 22 v0 rfl rfl)
  obtain ⟨fuel0, hf0⟩ := h0
  obtain ⟨xa0, B_0, d_0, q_0, hok0, hc0_0, hf0_0⟩ := rd_sliceU (fun a => Glaw08_Op.ok a) Try.underlying22 eC33 (en := Glaw08_Op.enc) (fun _ => rfl) (fun _ _ _ h hb => by obtain ⟨m, hm, ho⟩ := rd33 h hb; exact ⟨m, hm, ho⟩) hf0 hbk0
  replace q_0 := List.cons.inj q_0
  replace q_0 := q_0.1
  injection q_0 with e1_0 e2_0 e3_0
  subst e1_0 e2_0 e3_0
  have hF0 : Fact W (fun _ => False) (fun _ => True) := ⟨fun _ h => h.elim, fun _ _ => trivial⟩
  refine (con_top (W := W) (φ := fun W' => Cl W' A_0 (xa0.flatMap Glaw08_Op.enc) ∧ True) (fun W' hW => ⟨hf0_0.agree hW, trivial⟩) (fun _ => rfl) (c_law08_NetStreams (w0 := W) (M := fun _ => False) (H := []) (R := []) (φ := fun W' => Cl W' A_0 (xa0.flatMap Glaw08_Op.enc) ∧ True) xa0 A_0 c_0 hc0_0 (fun W' hS => hS.now.1) true (q_NetStreams xa0 hok0))).mono fun e W' ⟨_, he, _, _, bel⟩ => ?_
  subst he
  exact ⟨_, rfl, _, _, _, [], _, [], hW', trodAll_mk1 (shut_bool Try.underlying4 _), (trodAll_cons_mk (Below.trod laidOut (by kernel_rfl) (of_decide_eq_true (by kernel_rfl)) k0 bel lt0) trodAll_mk0), rfl, bel.frame _, fun h => by cases h⟩
theorem over : Rows.netStreamsUptoRow.holds Try.pinned (Rows.OpenSpec.upto Rows.netStreamsSpec) :=
  OpenClaim.holds_of_cond 3 Try.f3 rfl rfl rfl rfl rfl rfl rfl ⟨rfl, rfl, rfl, rfl, rfl⟩ rfl rfl rfl rfl rfl (by kernel_rfl) Try.func3 (by kernel_rfl)
    (of_decide_eq_true (by kernel_rfl)) (by unfold Func.isWrapper; first | (rw [if_pos (by decide +kernel)]; kernel_rfl) | (rw [if_neg (by decide +kernel)]; exact ⟨rfl, rfl⟩))
    (fun os started H enc _ F => lifted os started H enc F)
theorem proved : Rows.NetStreamsUptoSaid := over
end Go.Proofs.Ythajfodilodhaaa.netStreams
namespace Go.Proofs.Ythajfodilodhaaa
/-- The row, under a short name, for the claim. -/
theorem netStreams_holds : Rows.NetStreamsUptoSaid := netStreams.proved
end Go.Proofs.Ythajfodilodhaaa
