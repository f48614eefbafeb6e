/-
  A small calculus for walks, its operations, continued: stores, elements, cuts, appends (own work).
-/
import Derived.Test.YtkmkpodioedlfaaDoorSO
import Derived.Lib.AppendStr
set_option linter.unusedVariables false
set_option linter.unusedSimpArgs false
namespace Go.Proofs.YtkmkpodioedlfaaDoor
open Go.RowKit
/-! ### Runs -/
def putL (cs : Array Value) (off : Nat) : List Value → Array Value
  | [] => cs
  | v :: r => putL (cs.setIfInBounds off v) (off + 1) r
theorem putL_size (vs : List Value) : ∀ (cs : Array Value) (off : Nat), (putL cs off vs).size = cs.size := by
  induction vs with
  | nil => intro cs off; rfl
  | cons v r ih => intro cs off; unfold putL; rw [ih]; simp
theorem setCells_heap (g : Nat) (t : TypeId) (fr : Nat × Nat) (vs : List Value) : ∀ (W : World) (cs : Array Value) (off : Nat), W.heap[g]? = some (.cells cs t fr) → (W.setCells g off vs).heap[g]? = some (.cells (putL cs off vs) t fr) ∧ But (some g) W (W.setCells g off vs) := by
  induction vs with
  | nil => intro W cs off h; exact ⟨h, But.refl _ _⟩
  | cons v r ih =>
    intro W cs off h
    have h1 : (W.setCell ⟨g, off, none⟩ v).heap[g]? = some (.cells (cs.setIfInBounds off v) t fr) := by
      simp only [World.setCell, Array.getElem?_modify, h]
      simp
    obtain ⟨h2, h3⟩ := ih _ _ (off + 1) h1
    exact ⟨h2, (But.set W g off v).trans h3⟩
def one1 : List Value → Bool
  | [] => true
  | v :: r => v.oneCell' && one1 r
theorem one1_mem {l : List Value} (h : one1 l = true) : ∀ u ∈ l, u.oneCell' = true := by
  induction l with
  | nil => intro u hu; cases hu
  | cons v r ih =>
    simp only [one1, Bool.and_eq_true] at h
    intro u hu
    rcases List.mem_cons.1 hu with rfl | hu
    · exact h.1
    · exact ih h.2 u hu
theorem one1_all {v : Value} (h : one1 v.cells.toList = true) : v.cells.all (·.oneCell') = true := Array.all_eq_true_iff_forall_mem.2 fun u hu => one1_mem h u (by simpa using hu)
theorem run_store_blk {P : Program} {W : World} {g off : Nat} {cs : Array Value} {t0 t : TypeId} {fr : Nat × Nat} {v : Value} (hg : W.heap[g]? = some (.cells cs t0 fr)) (hsz : ∀ W, (sizeOf t).run P W = .ok v.cells.size W) (hb : off + v.cells.size ≤ cs.size) (hfr : fr.2 ≤ off ∨ off + v.cells.size ≤ fr.1)
    (h1 : v.cells.all (·.oneCell') = true) : (storeVar t ⟨g, off, none⟩ v).run P W = .ok () (W.setCells g off v.cells.toList) := by
  have := run_storeCells_cells (P := P) g off v.cells.toList 0 W (fun j hj => by
      simp only [Array.length_toList] at hj
      simp only [World.cell?, hg, Nat.add_zero]
      simp
      omega) (fun j hj => by
      simp only [Array.length_toList] at hj
      simp only [World.frozen?, hg, Nat.add_zero, Bool.and_eq_false_iff, decide_eq_false_iff_not]
      omega) (fun u hu => (Array.all_eq_true_iff_forall_mem.1 h1) u (by simpa using hu))
  simp only [Nat.add_zero] at this
  simp [storeVar, hsz W, this]
theorem run_append_own_at {P : Program} {w : World} (base : Nat) (t ty e : TypeId) (i : TypeInfo) (z : Value) (size bytes : Nat) (ht : P.underlying t = some (.slice e)) (hi : P.info? e = some i) (hz : i.zero = some z)
    (hsize : i.size = size) (hby : i.bytes = bytes) (hzs : z.cells.size = size) (hsz : 0 < size)
    (v : Value) (n : Nat) (xs : List Value) (hown : w.ownsRow base e size v n xs)
    (a : Addr) (m c : Nat) (news : List Value) (hl : news.length = m * size) (hnews : ∀ j u, news[j]? = some u → w.cell? (a.add j) = some u) (h1 : ∀ u ∈ news, u.oneCell' = true)
    (h63 : n + m ≤ maxLen) (hbytes : (n + m) * bytes ≤ 140737488355328) (hbase : base ≤ w.heap.size) :
    ∃ v' w', (Builtin.append_ #[t, t] ty #[v, .slice (some a) m c]).run P w = .ok v' w' ∧ w'.ownsRow base e size v' (n + m) (xs ++ news) ∧ w.grownBy w' v.ownBlock ∧ (∀ k, v'.ownBlock = some k → v.ownBlock = some k ∨ w.heap.size ≤ k) := by
  have weak : ∀ {w' : World} {v' : Value} {n xs}, w'.ownsRow w.heap.size e size v' n xs → w'.ownsRow base e size v' n xs := fun {w' v' n xs} h => ⟨h.1, h.2.imp id fun ⟨g, cap, cur, h1, h2, h3⟩ => ⟨g, cap, cur, h1, Nat.le_trans hbase h2, h3⟩⟩
  rcases hown.2 with ⟨rfl, rfl⟩ | ⟨g, cap, cur, rfl, hbg, hg, hnc, hcm, hcs, htake⟩
  · have hx : xs = [] := List.eq_nil_of_length_eq_zero (by simpa using hown.1)
    subst hx
    obtain ⟨v', w', hr, h2, h3, _⟩ := run_append_own (P := P) w w.heap.size t ty e i z size bytes ht hi hz hsize hby hzs hsz (.slice none 0 0) 0 [] (World.ownsRow_nil w _ e size) a m c news hl hnews h1 h63 hbytes (Nat.le_refl _)
    exact ⟨v', w', hr, weak h2, h3, fun k hk => .inr (own_lt h2 k hk).1⟩
  · by_cases hroom : n + m ≤ cap
    · obtain ⟨v', w', hr, h2, h3, _⟩ := run_append_own (P := P) w base t ty e i z size bytes ht hi hz hsize hby hzs hsz _ n xs hown a m c news hl hnews h1 h63 hbytes hbase
      have hfit : n * i.size + news.length ≤ cur.size := by rw [hl, hsize, hcs, ← Nat.add_mul]; exact Nat.mul_le_mul_right _ hroom
      have hr2 := run_append_room (P := P) w t ty e i ht hi g n cap cur hg a m c news (by rw [hl, hsize]) hnews h1 hroom hfit
      rw [hr] at hr2
      injection hr2 with hv hw
      exact ⟨v', w', hr, h2, h3, fun k hk => .inl (by rw [hv] at hk; exact hk)⟩
    · obtain ⟨v', w', hr, h2, h3⟩ := run_append_arg_grows (P := P) w t ty e i z size bytes ht hi hz hsize hby hzs hsz ⟨g, 0, none⟩ n cap xs hown.1 (hown.cells (g := g) rfl) a m c news hl hnews (by omega) h63 hbytes
      exact ⟨v', w', hr, weak h2, ⟨h3.os, h3.tape, h3.output, h3.size, fun k hk _ => h3.block k hk (by simp)⟩, fun k hk => .inr (own_lt h2 k hk).1⟩
section
variable {P : Program} {ops : Array Oper} {Q : Exit → Act → World → Prop} {N : FS} {rest : List Oper} {σ : Fr} {S : Sta}
  {d : Nat} {ty : TypeId} {pos : String} {af : Array Edge} {x y : Operand} {t t' : TypeId} {k : IntKind} {p q r : Int}
/-- One of the call's own blocks is written. -/
theorem g_store {w0 : World} {M : Nat → Prop} {H : List (Nat × Nat × Obj)} {R : List (Nat × Row)} {φ : World → Prop} {tag g off : Nat} {cs : Array Value} {t0 : TypeId} {fr : Nat × Nat} {v : Value} {vs : List Value} (hx : ev σ x = .pointer (some ⟨g, off, none⟩)) (hy : ev σ y = v) (hvs : v.cells.toList = vs) (hH : fH tag H = some (g, .cells cs t0 fr)) (hsz : ∀ W, (sizeOf t).run P W = .ok vs.length W) (hb : Nat.ble (off + vs.length) cs.size = true) (hfr : fr.2 ≤ off ∨ off + vs.length ≤ fr.1)
    (h1 : one1 vs = true)
    (h : G P ops Q N rest σ ⟨w0, M, uH tag (.cells (putL cs off vs) t0 fr) H, R, φ⟩) : G P ops Q N (⟨none, .store t x y, ty, pos, af, none⟩ :: rest) σ (Sta.mk w0 M H R φ) := by
  subst hvs
  have hl : v.cells.toList.length = v.cells.size := Array.length_toList
  rw [hl] at hb hfr
  simp only [hl] at hsz
  have h1 := one1_all h1
  exact g_skip _ rfl rfl (fun W hS => by
    have hg := (hS.has _ (fH_mem hH)).2
    obtain ⟨h2, h3⟩ := setCells_heap g t0 fr v.cells.toList W cs off hg
    have hr := run_store_blk (P := P) (t := t) hg hsz (Nat.le_of_ble_eq_true hb) hfr h1
    exact ⟨W.setCells g off v.cells.toList, by simp [execOp, Instr.storeAt, Instr.sureAddr, hx, hy, hr], hS.upd hH h3 h2⟩) h
/-- An element's address. -/
theorem r_elem {A : Option Addr} {ad : Addr} {n c sz : Nat} {i : Int} {e : TypeId} (hu : P.underlying t = some (.slice e)) (hs : ∀ W, (sizeOf e).run P W = .ok sz W) (hx : ev σ x = .slice A n c) (hA : A = some ad) (hy : ev σ y = .int k i) (h0 : 0 ≤ i) (h1 : i < n) : Rn P σ S (.indexAddr t x y) ty ((.pointer (some (ad.add (i.toNat * sz))))) :=
  fun W hS => by
    subst hA
    simp [execOp, Instr.indexAt, asIntOf, hx, hy, run_underlying hu, h0, h1, hs W]
theorem Cl.cutLo {W : World} {A : Option Addr} {cs : List Value} {c j sz : Nat} (h : Cl W A cs) (hl : cs.length ≤ c * sz) : Cl W (if c = j then A else A.map (·.add (j * sz))) (cs.drop (j * sz)) := by
  by_cases hcj : c = j
  · subst hcj
    rw [List.drop_eq_nil_of_le hl]
    exact Cl.nil _ _
  · rw [if_neg hcj]
    cases A with
    | none =>
      intro i u hu
      rw [List.getElem?_drop] at hu
      obtain ⟨ad, e, _⟩ := h _ _ hu
      cases e
    | some ad => exact h.drop _
/-- Cuts of a string. -/
theorem r_cutSHi {s : ByteArray} {j : Int} {hi : Operand} (hu : P.underlying t = some .string) (hx : ev σ x = .string s) (hh : ev σ hi = .int k j) (h0 : 0 ≤ j) (h1 : j ≤ s.size) : Rn P σ S (.slice t x none (some hi) none) ty ((.string (s.extract 0 j.toNat))) :=
  fun W hS => by
    simp [execOp, Instr.sliceAt, Instr.slice, Instr.sliceBounds, Instr.sliceBound, asIntOf, hx, hh, run_underlying hu, h0, h1]
theorem r_cutSLo {s : ByteArray} {j : Int} {lo : Operand} (hu : P.underlying t = some .string) (hx : ev σ x = .string s) (hh : ev σ lo = .int k j) (h0 : 0 ≤ j) (h1 : j ≤ s.size) : Rn P σ S (.slice t x (some lo) none none) ty ((.string (s.extract j.toNat s.size))) :=
  fun W hS => by
    simp [execOp, Instr.sliceAt, Instr.slice, Instr.sliceBounds, Instr.sliceBound, asIntOf, hx, hh, run_underlying hu, h0, h1]
theorem r_cutS {s : ByteArray} {i j : Int} {lo hi : Operand} {k' : IntKind} (hu : P.underlying t = some .string) (hx : ev σ x = .string s) (hlo : ev σ lo = .int k' i) (hh : ev σ hi = .int k j) (h0 : 0 ≤ i) (hij : i ≤ j) (h1 : j ≤ s.size) : Rn P σ S (.slice t x (some lo) (some hi) none) ty ((.string (s.extract i.toNat j.toNat))) :=
  fun W hS => by
    have h2 : 0 ≤ j := by omega
    have h3 : max j 0 = j := by omega
    have h4 : ¬ j < i := by omega
    simp [execOp, Instr.sliceAt, Instr.slice, Instr.sliceBounds, Instr.sliceBound, asIntOf, hx, hlo, hh, run_underlying hu, h0, h1, h2, h3, h4, hij]
/-- What the results come to, told of the frame and the call's own blocks. -/
def RTo (P : Program) (σ : Fr) (H : List (Nat × Nat × Obj)) : List ResultVar → List Value → Prop
  | [], [] => True
  | .tmp t :: rs, v :: vs => σ t = v ∧ RTo P σ H rs vs
  | .cell p ty :: rs, v :: vs => (∃ tag g cs t0 fr, σ p = .pointer (some ⟨g, 0, none⟩) ∧ fH tag H = some (g, .cells cs t0 fr) ∧
      (((∀ W, (isAgg ty).run P W = .ok true W) ∧ (∀ W, (sizeOf ty).run P W = .ok cs.size W) ∧ v = .agg cs) ∨ ((∀ W, (isAgg ty).run P W = .ok false W) ∧ cs[0]? = some v))) ∧ RTo P σ H rs vs
  | _, _ => False
def Res (P : Program) (σ : Fr) (H : List (Nat × Nat × Obj)) (rs : List ResultVar) (k : List Value → Prop) : Prop := ∃ vs, RTo P σ H rs vs ∧ k vs
theorem res_nil {H : List (Nat × Nat × Obj)} {k : List Value → Prop} (h : k []) : Res P σ H [] k := ⟨[], trivial, h⟩
theorem res_tmp {H : List (Nat × Nat × Obj)} {k : List Value → Prop} {t : Tmp} {rs : List ResultVar} (h : Res P σ H rs (fun vs => k (σ t :: vs))) : Res P σ H (.tmp t :: rs) k :=
  let ⟨vs, h1, h2⟩ := h
  ⟨σ t :: vs, ⟨rfl, h1⟩, h2⟩
theorem rto_runs {H : List (Nat × Nat × Obj)} {W : World} {a : Act} (ha : Okf a σ N) (hH : ∀ p ∈ H, W.heap[p.2.1]? = some p.2.2) : ∀ (rs : List ResultVar) (vs : List Value), RTo P σ H rs vs → RunsTo P a.tmps W rs vs := by
  intro rs
  induction rs with
  | nil => intro vs h; cases vs with
    | nil => trivial
    | cons v vs => exact h.elim
  | cons r rs ih =>
    intro vs h
    cases vs with
    | nil => cases r <;> exact h.elim
    | cons v vs =>
      cases r with
      | tmp t => exact ⟨(ha.at_ t).trans h.1, ih vs h.2⟩
      | cell p ty =>
        obtain ⟨⟨tag, g, cs, t0, fr, h1, h2, h3⟩, h4⟩ := h
        have hg := hH _ (fH_mem h2)
        refine ⟨⟨⟨g, 0, none⟩, (ha.at_ p).trans h1, ?_⟩, ih vs h4⟩
        rcases h3 with ⟨h5, h6, rfl⟩ | ⟨h5, h6⟩
        · have hlc := run_loadCells_list (P := P) W ⟨g, 0, none⟩ cs.toList (fun j u hu => by
            rw [add_g]
            simp only [World.cell?, hg]
            simpa using hu)
          simp only [Array.length_toList] at hlc
          simp [loadVar, h5 W, h6 W, hlc]
        · have hc : W.cell? ⟨g, 0, none⟩ = some v := by simp only [World.cell?, hg]; simpa using h6
          simp [loadVar, h5 W, load, Sem.run, hc]
end
end Go.Proofs.YtkmkpodioedlfaaDoor
