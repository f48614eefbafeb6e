/- The law NameOrder of the given program returns true for every input whose reading is of bulk at most 1048576, its arguments read as before, and nothing that was there is changed. -/
import Derived.Test.YtkmkpodioedlfaaRows
import Derived.JoinedCond
import Derived.Deep.CondSized
import Derived.Test.YtkmkpodioedlfaaKNO
import Derived.Test.YtkmkpodioedlfaaQNO
import Derived.WalkKit
import Derived.ProofKit
import Derived.OpenShut
import Derived.ShutString
import Derived.ChangeOld
import Derived.Below
import Derived.SizedLaws
import Derived.Carry
import Derived.Laws.IdiomArrays
import Derived.Lib.SmallJoins
set_option linter.unusedVariables false
set_option linter.unusedSimpArgs false
namespace Go.Proofs.Ytkmkpodioedlfaa.nameOrder
open Go.ChangeShapes Go.WideShapes Go.ChangeAt Go.RowKit
open Go.ChangeMaps (open_string shut_string)
theorem own : ownKnob Try.prog.godebug = none := by kernel_rfl
theorem laidOut : laidOutB Try.prog = true := by kernel_rfl
set_option maxRecDepth 100000
theorem wit (os : Os) {H : Type} (enc : TypeId × Value → H) : ∃ (w : World) (tape : Tape) (i : Input), w.os = os ∧ (w.forCall tape i).Shaped Try.checked.prog ∧ i.vars = [] ∧ Input.okWide Try.checked.prog (w.forCall tape i) .any w.heap.size 3 i ∧ (Rows.OpenSpec.upto Rows.nameOrderSpec).pre6 enc Try.checked.prog Try.f3 Rows.nameOrderUptoRow.domain false (w.forCall tape i).memory i.args ∧ ({} : Assume).holds Try.checked.prog (lone (Frame.enter Try.checked.prog 3 i.args .normal) [] (w.forCall tape i)) := by
  have hw : (DataW.whole enc Try.checked.prog (World.plainHolding Try.checked.prog os ⟨#[], #[.string ByteArray.empty, .string ByteArray.empty, .string ByteArray.empty], []⟩).memory Try.f3.params.toList (Rows.OpenSpec.upto Rows.nameOrderSpec).vars false #[.string ByteArray.empty, .string ByteArray.empty, .string ByteArray.empty].toList 8).map (fun x => Rows.uptoSmall H (x.1 ++ x.2.1)) = some true := by kernel_rfl
  obtain ⟨x, hx, hk⟩ := Option.map_eq_some_iff.1 hw
  exact OpenSpec.witness (s := (Rows.OpenSpec.upto Rows.nameOrderSpec)) (enc := enc) (C := Try.checked) rfl false ⟨#[], #[.string ByteArray.empty, .string ByteArray.empty, .string ByteArray.empty], []⟩ 8 (by kernel_rfl) (by kernel_rfl) (by kernel_rfl) hx (by kernel_rfl) hk
set_option maxRecDepth 100000 in
theorem lifted (os : Os) (started : os.Started) (H : Type) (enc : TypeId × Value → H) (F : Stop.Interp) :
    ReturnsInHanded {} Try.checked os 3 .any ((Rows.OpenSpec.upto Rows.nameOrderSpec).pre6 enc Try.prog Try.f3 Rows.nameOrderUptoRow.domain false) (((Rows.OpenSpec.upto Rows.nameOrderSpec).at F).post enc Try.prog Try.f3 false true false false) := by
  refine returnsInHanded_of_cond_sized (C := Try.checked) (s := (Rows.OpenSpec.upto Rows.nameOrderSpec)) (k := Rows.uptoSmall) rfl own started (by kernel_rfl) Try.func3 (wit os enc) ?_
  intro W base args ds gs before hval0 hW hcnd hsm hsz0 _
  have hval : ∀ (j : Nat) t v, Try.f3.params[j]? = some t → args[j]? = some v → Value.okWide Try.prog W .any base t v := hval0
  have hW' := hW
  obtain ⟨p, q, hA0, hV, rfl, hfz, hnd⟩ := hW
  have hA : DataW.TrodAll enc Try.prog W 0 (fun _ => true) true Try.f3.params.toList args.toList ds p := hA0
  rw [Try.params3] at hA hval
  obtain ⟨v0, vs0, d0, ds0, p0, q0, hargs, rfl, rfl, h0, r0⟩ := trodAll_cons hA
  obtain ⟨v1, vs1, d1, ds1, p1, q1, rfl, rfl, rfl, h1, r1⟩ := trodAll_cons r0
  obtain ⟨v2, vs2, d2, ds2, p2, q2, rfl, rfl, rfl, h2, r2⟩ := trodAll_cons r1
  obtain ⟨rfl, rfl, rfl⟩ := trodAll_nil r2
  obtain rfl : args = #[v0, v1, v2] := by cases args; simp_all
  obtain ⟨rfl, rfl⟩ := trodVars_none hV
  replace hsm : Rows.uptoBulkAll [d0, d1, d2] ≤ 1048576 := of_decide_eq_true hsm
  have hbk0 : Rows.uptoBulk d0 ≤ 1048576 := Nat.le_trans (bulk_mem (by simp)) hsm
  have hbk1 : Rows.uptoBulk d1 ≤ 1048576 := Nat.le_trans (bulk_mem (by simp)) hsm
  have hbk2 : Rows.uptoBulk d2 ≤ 1048576 := Nat.le_trans (bulk_mem (by simp)) hsm
  clear hsm hsz0
  have k0 := h0
  have lt0 : ∀ x ∈ p0, x.block < W.heap.size := by obtain ⟨m, hm⟩ := k0; exact DataW.trod_lt m _ _ _ hm
  obtain ⟨xa0, rfl, rfl, rfl, hok0⟩ := open_string Try.underlying9 (hval 0 9 v0 rfl rfl) h0
  replace hok0 : xa0.size ≤ 1048576 := by simp only [Rows.uptoBulk, Array.length_toList] at hbk0; exact Nat.le_trans (Nat.le_succ _) hbk0
  have k1 := h1
  have lt1 : ∀ x ∈ p1, x.block < W.heap.size := by obtain ⟨m, hm⟩ := k1; exact DataW.trod_lt m _ _ _ hm
  obtain ⟨xa1, rfl, rfl, rfl, hok1⟩ := open_string Try.underlying9 (hval 1 9 v1 rfl rfl) h1
  replace hok1 : xa1.size ≤ 1048576 := by simp only [Rows.uptoBulk, Array.length_toList] at hbk1; exact Nat.le_trans (Nat.le_succ _) hbk1
  have k2 := h2
  have lt2 : ∀ x ∈ p2, x.block < W.heap.size := by obtain ⟨m, hm⟩ := k2; exact DataW.trod_lt m _ _ _ hm
  obtain ⟨xa2, rfl, rfl, rfl, hok2⟩ := open_string Try.underlying9 (hval 2 9 v2 rfl rfl) h2
  replace hok2 : xa2.size ≤ 1048576 := by simp only [Rows.uptoBulk, Array.length_toList] at hbk2; exact Nat.le_trans (Nat.le_succ _) hbk2
  have hF0 : Fact W (fun _ => False) (fun _ => True) := ⟨fun _ h => h.elim, fun _ _ => trivial⟩
  refine (con_top (W := W) (φ := fun W' => True) (fun W' hW => trivial) (fun _ => rfl) (c_law03_NameOrder (w0 := W) (M := fun _ => False) (H := []) (R := []) (φ := fun W' => True) xa0 xa1 xa2 true (q_NameOrder xa0 xa1 xa2 hok0 hok1 hok2))).mono fun e W' ⟨_, he, _, _, bel⟩ => ?_
  subst he
  exact ⟨_, rfl, _, _, _, [], _, [], hW', trodAll_mk1 (shut_bool Try.underlying4 _), (trodAll_cons_mk (Below.trod laidOut (by kernel_rfl) (of_decide_eq_true (by kernel_rfl)) k0 bel lt0) (trodAll_cons_mk (Below.trod laidOut (by kernel_rfl) (of_decide_eq_true (by kernel_rfl)) k1 bel lt1) (trodAll_cons_mk (Below.trod laidOut (by kernel_rfl) (of_decide_eq_true (by kernel_rfl)) k2 bel lt2) trodAll_mk0))), rfl, bel.frame _, fun h => by cases h⟩
theorem over : Rows.nameOrderUptoRow.holds Try.pinned (Rows.OpenSpec.upto Rows.nameOrderSpec) :=
  OpenClaim.holds_of_cond 3 Try.f3 rfl rfl rfl rfl rfl rfl rfl ⟨rfl, rfl, rfl, rfl, rfl⟩ rfl rfl rfl rfl rfl (by kernel_rfl) Try.func3 (by kernel_rfl)
    (of_decide_eq_true (by kernel_rfl)) (by unfold Func.isWrapper; first | (rw [if_pos (by decide +kernel)]; kernel_rfl) | (rw [if_neg (by decide +kernel)]; exact ⟨rfl, rfl⟩))
    (fun os started H enc _ F => lifted os started H enc F)
theorem proved : Rows.NameOrderUptoSaid := over
end Go.Proofs.Ytkmkpodioedlfaa.nameOrder
namespace Go.Proofs.Ytkmkpodioedlfaa
/-- The row, under a short name, for the claim. -/
theorem nameOrder_holds : Rows.NameOrderUptoSaid := nameOrder.proved
end Go.Proofs.Ytkmkpodioedlfaa
