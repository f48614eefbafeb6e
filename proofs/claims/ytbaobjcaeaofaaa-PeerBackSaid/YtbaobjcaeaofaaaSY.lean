/-
  A store in a drawn region whose place nothing else there reads: it may come among the readings (own work).
-/
import Derived.Test.YtbaobjcaeaofaaaSX
set_option linter.unusedVariables false
set_option linter.unusedSimpArgs false
namespace Go.Proofs.Ytbaobjcaeaofaaa
open Go.RowKit Go.Lib Go.Proofs.YtbaobjcaeaofaaaW.PrintLast
section
variable {P : Program} {ops : Array Oper} {Q : Exit → Act → World → Prop} {N : FS} {σ : Fr} {Sh : Sta} {ds : List Nat} {fuel : Nat} {l : Array Bool} {w0 : World} {M : Nat → Prop} {H : List (Nat × Nat × Obj)} {R : List (Nat × Row)} {φ : World → Prop} {i tag g off : Nat} {cl : List Value} {t0 t : TypeId} {x y : Operand} {v : Value} {vs : List Value} {ty : TypeId} {pos : String} {af : Array Edge}
theorem ga_storeN (l' : Array Bool) (hi : ops[i]? = some ⟨none, .store t x y, ty, pos, af, none⟩) (hc : readyB .any ops l l' i = true) (hd : i ∉ ds)
    (hx : ev σ x = .pointer (some ⟨g, off, none⟩)) (hy : ev σ y = v) (hvs : v.cells.toList = vs) (hH : fH tag H = some (g, .cells cl.toArray t0 (0, 0))) (hsz : ∀ W, (sizeOf t).run P W = .ok vs.length W) (hb : Nat.ble (off + vs.length) cl.length = true) (h1 : one1 vs = true)
    (hSh : ∀ W, (Sta.mk w0 M (uH tag (.cells (spl cl off vs).toArray t0 (0, 0)) H) R φ).ok W → Sh.ok W)
    (h : GA P ops Q N Sh ds fuel l' σ ⟨w0, M, uH tag (.cells (spl cl off vs).toArray t0 (0, 0)) H, R, φ⟩) : GA P ops Q N Sh ds (fuel + 1) l σ (Sta.mk w0 M H R φ) := by
  intro a W ha hS hh
  have hb' : Nat.ble (off + vs.length) cl.toArray.size = true := by simpa using hb
  rw [← putL_spl _ _ _ (by simpa using hb)] at h hSh
  refine one_ (S := Sh.ok) l' hi rfl hc hd fun K hK => ?_
  subst hvs
  have hl : v.cells.toList.length = v.cells.size := Array.length_toList
  rw [hl] at hb'
  simp only [hl] at hsz
  have hg := (hS.has _ (fH_mem hH)).2
  obtain ⟨h2, h3⟩ := setCells_heap g t0 (0, 0) v.cells.toList W cl.toArray off hg
  have hr := run_store_blk (P := P) (t := t) hg hsz (Nat.le_of_ble_eq_true hb') (.inl (Nat.zero_le _)) (one1_all h1)
  rw [if_pos (by simp [Region.wanted])]
  unfold Oper.wp
  have hrun : (execOp (ev σ) ⟨none, .store t x y, ty, pos, af, none⟩).run P W = .ok .skip (W.setCells g off v.cells.toList) := by simp [execOp, Instr.storeAt, Instr.sureAddr, hx, hy, hr]
  rw [ha.ev, hrun, Oper.upon_skip]
  have hS1 := hS.upd hH h3 h2
  exact hK.out _ _ (hSh _ hS1) (fun hS2 => h a _ ha hS1 hS2)
end
end Go.Proofs.Ytbaobjcaeaofaaa
