/- The bytes of a text, in a block of the call's own, that may be written (own work). -/
import Derived.Test.YtkmkpodioedlfaaDoorSM
set_option linter.unusedVariables false
set_option linter.unusedSimpArgs false
set_option linter.unusedSectionVars false
namespace Go.Proofs.YtkmkpodioedlfaaDoor
open Go.RowKit Go.Lib Go.Proofs.YtkmkpodioedlfaaDoorW.PrintLast
abbrev encU (x : Int) : List Value := [Value.int .u8 x]
/-- A block of bytes, with what stands behind them. -/
def rowO (l : List Int) (T : List Value) (e : TypeId) : Obj := .cells (l.flatMap encU ++ T).toArray e (l.length + T.length, l.length + T.length + 1)
section
variable {P : Program} {ops : Array Oper} {Q : Exit → Act → World → Prop} {N : FS} {d : Nat} {rest : List Oper} {σ : Fr} {S : Sta} {ty t u : TypeId} {pos : String} {af : Array Edge} {x y : Operand} {w0 : World} {M : Nat → Prop} {H : List (Nat × Nat × Obj)} {R : List (Nat × Row)} {φ : World → Prop} {tag g e : Nat} {l : List Int} {T : List Value}
theorem encU_len (l : List Int) : (l.flatMap encU).length = l.length := by rw [fm_length (sz := 1) (fun _ => rfl), Nat.mul_one]
theorem hrowCl (hH : fH tag S.H = some (g, rowO l T e)) (W : World) (hS : S.ok W) : Cl W (some ⟨g, 0, none⟩) (l.flatMap encU) := by
  have hg := (hS.has _ (fH_mem hH)).2
  intro j v hj
  refine ⟨_, rfl, ?_⟩
  rw [add_g]
  have hlt := (List.getElem?_eq_some_iff.1 hj).1
  simp only [World.cell?, hg, rowO]
  rw [List.getElem?_toArray, List.getElem?_append_left hlt]
  exact hj
theorem e_bytesH (tag : Nat) {s : ByteArray} (ht : P.underlying t = some .string) (hu : P.underlying u = some (.slice e)) (he : P.underlying e = some (.int .u8)) (hx : ev σ x = .string s) :
    Evt P σ (Sta.mk w0 M H R φ) (.convert t u x) ty (fun z : Nat × Nat × List Value => .slice (some ⟨z.1, 0, none⟩) (bytesI s).length z.2.1) (fun z => (bytesI s).length ≤ z.2.1)
      (fun z => ⟨w0, M, (tag, z.1, rowO (bytesI s) z.2.2 e) :: H, R, φ⟩) := by
  intro W hS
  have hr := run_bytes_of_string (P := P) W t u e s ht hu he
  have hrow : bytesRow s (grownCap W s.size 0 e) = ((bytesI s).flatMap encU ++ List.replicate (grownCap W s.size 0 e - s.size) (Value.int .u8 0)).toArray := by
    rw [bytesI_cells]
    unfold bytesRow strCells
    apply Array.ext'
    simp
  have hobj : Obj.cells (bytesRow s (grownCap W s.size 0 e)) e ((bytesRow s (grownCap W s.size 0 e)).size, (bytesRow s (grownCap W s.size 0 e)).size + 1) = rowO (bytesI s) (List.replicate (grownCap W s.size 0 e - s.size) (Value.int .u8 0)) e := by
    rw [hrow]
    unfold rowO
    simp only [List.size_toArray, List.length_append, encU_len]
  refine ⟨(W.heap.size, grownCap W s.size 0 e, List.replicate (grownCap W s.size 0 e - s.size) (Value.int .u8 0)), W.drew.alloc (rowO (bytesI s) (List.replicate (grownCap W s.size 0 e - s.size) (Value.int .u8 0)) e), ?_, by rw [bytesI_length]; exact grownCap_ge _ _ _ _, ?_⟩
  · rw [← hobj, bytesI_length]
    simp [execOp, hx, hr]
  · exact hS.drew.alloc tag _
theorem r_ixN {k : IntKind} {i v : Int} {A : Option Addr} {n c : Nat} {ad : Addr} (hl : l.length = n) (hu : P.underlying t = some (.slice e)) (hs : ∀ W, (sizeOf e).run P W = .ok 1 W) (hx : ev σ x = .slice A n c) (hA : A = some ad) (hy : ev σ y = .int k i) (hat : at_ l i = some v) : Rn P σ S (.indexAddr t x y) ty (.pointer (some (ad.add (i.toNat * 1)))) := by
  subst hl
  exact r_ix hu hs hx hA hy hat
theorem r_textN {A : Option Addr} {n c : Nat} (hl : l.length = n) (hs : P.underlying t = some (.slice e)) (he : P.underlying e = some (.int .u8)) (hd : P.underlying u = some .string) (hx : ev σ x = .slice A n c) (hc : ∀ W, S.ok W → Cl W A (l.flatMap (fun x : Int => [Value.int .u8 x]))) : Rn P σ S (.convert t u x) ty (.string (strOfNums l)) := by
  subst hl
  exact r_textE hs he hd hx hc
/-- A byte is written. -/
theorem g_stH {l2 : List Int} {i v : Int} {ad : Addr} {A : Option Addr} (hx : ev σ x = .pointer (some (ad.add (i.toNat * 1)))) (hAg : A = some ⟨g, 0, none⟩) (hA : A = some ad) (hy : ev σ y = .int .u8 v) (hset : setAt l i v = some l2) (hH : fH tag H = some (g, rowO l T e)) (hst : ∀ W, (sizeOf t).run P W = .ok 1 W)
    (h : G P ops Q N rest σ ⟨w0, M, uH tag (rowO l2 T e) H, R, φ⟩) : G P ops Q N (⟨none, .store t x y, ty, pos, af, none⟩ :: rest) σ (Sta.mk w0 M H R φ) := by
  refine g_skip _ rfl rfl (fun W hS => ?_) h
  subst hAg
  injection hA with hA
  subst hA
  obtain ⟨h0, h2, rfl⟩ := setAt_some hset
  have hg := (hS.has _ (fH_mem hH)).2
  generalize hk : i.toNat = j at *
  rw [Nat.mul_one, add_g] at hx
  have hsz : ((l.flatMap encU ++ T).toArray).size = l.length + T.length := by rw [List.size_toArray, List.length_append, encU_len]
  have hr := run_store_blk (P := P) (t := t) (off := j) (v := .int .u8 v) hg (by exact hst) (by rw [hsz]; simp [Value.cells]; omega) (.inr (by simp [Value.cells]; omega)) (one1_all rfl)
  obtain ⟨hc1, hc2⟩ := setCells_heap g e (l.length + T.length, l.length + T.length + 1) [Value.int .u8 v] W (l.flatMap encU ++ T).toArray j hg
  refine ⟨W.setCells g j [Value.int .u8 v], by simp [execOp, Instr.storeAt, Instr.sureAddr, hx, hy, hr]; rfl, ?_⟩
  refine hS.upd hH hc2 ?_
  rw [hc1]
  unfold rowO
  rw [List.length_set]
  congr 2
  apply Array.ext'
  rw [putL_list _ _ _ (by rw [hsz]; simp; omega)]
  have hj : j < l.length := by omega
  have hlen := encU_len l
  have hset := fm_set (enc := encU) (sz := 1) (fun _ => rfl) l j v hj
  rw [Nat.mul_one] at hset
  rw [hset]
  simp only [List.length_singleton]
  rw [List.take_append_of_le_length (by omega), List.drop_append_of_le_length (by omega)]
  simp [encU]
end
section
variable {P : Program} {σ : Fr} {S : Sta} {ty t1 t2 t3 t4 : TypeId} {x y z u : Operand} {k : IntKind} {p q r o : Int}
end
section
variable {P : Program} {σ : Fr} {S : Sta} {ty t e : TypeId} {x y : Operand} {k : IntKind} {i : Int} {len sz : Nat} {cs : Array Value} {v : Value}
end
section
variable {P : Program} {ops : Array Oper} {Q : Exit → Act → World → Prop} {N : FS} {d : Nat} {σ : Fr} {S Sh : Sta} {ty : TypeId} {pos : String} {af : Array Edge} {ds : List Nat} {fuel : Nat} {op : Op}
end
end Go.Proofs.YtkmkpodioedlfaaDoor
