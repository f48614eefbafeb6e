/- Parts of a row of one's own: cut shorter, its own rest put behind its beginning, what lies behind it cleared (own work). -/
import Derived.Test.YthpjodfjdnnckaaGreatSM
import Derived.DeepKeys4
import Derived.DataShut
set_option linter.unusedVariables false
set_option linter.unusedSimpArgs false
namespace Go.Proofs.YthpjodfjdnnckaaGreat
open Go.RowKit
section
variable {P : Program} {ops : Array Oper} {Q : Exit → Act → World → Prop} {N : FS} {d : Nat} {rest : List Oper} {σ : Fr} {S Sh : Sta} {ty t : TypeId} {pos : String} {af : Array Edge} {x y : Operand} {w0 : World} {M : Nat → Prop} {H : List (Nat × Nat × Obj)} {R : List (Nat × Row)} {φ : World → Prop} {α : Type} {enc : α → List Value} {m l l1 l2 r : List α} {tag bytes cc sz n k : Nat} {A : Option Addr} {z : Value} {e : TypeId} {i j : Int} {kk kj : IntKind}
theorem own_take {w : World} {base : Nat} {xs : List Value} (h : w.ownsRow base e sz (.slice A n cc) n xs) (hk : k ≤ n) : w.ownsRow base e sz (.slice A k cc) k (xs.take (k * sz)) := by
  have hm : k * sz ≤ n * sz := Nat.mul_le_mul_right _ hk
  refine ⟨by rw [List.length_take, h.1]; omega, ?_⟩
  rcases h.2 with ⟨h1, h2⟩ | ⟨g, cap, cur, hv, hg, hh, h1, h2, h3, h4⟩
  · injection h1 with a b c
    subst a c
    exact .inl ⟨by rw [show k = 0 by omega], by omega⟩
  · injection hv with a b c
    subst a c
    exact .inr ⟨g, cc, cur, rfl, hg, hh, by omega, h2, h3, by rw [← h4, List.take_take, Nat.min_eq_left hm]⟩
/-- A row cut shorter. -/
theorem row_cut (hsz : ∀ a, (enc a).length = sz) (hR : fR tag R = some ⟨.slice A l.length cc, e, sz, l.length, l.flatMap enc⟩) (h : cutHi l j = some r) {W : World} (hS : (Sta.mk w0 M H R φ).ok W) :
    (Sta.mk w0 M H (uR tag ⟨.slice A r.length cc, e, sz, r.length, r.flatMap enc⟩ R) φ).ok W := by
  obtain ⟨h0, h1, rfl⟩ := cutHi_some h
  refine hS.updR hR (But.refl _ W) ?_ (fun k hk => .inl (by cases A <;> simp_all [vblk, Value.ownBlock]))
  have hrow := rowOf hS hR
  dsimp only at hrow
  have := own_take (k := (l.take j.toNat).length) hrow (by rw [List.length_take]; omega)
  rw [fm_take hsz] at this
  rwa [show l.take (l.take j.toNat).length = l.take j.toNat by rw [List.length_take, ← List.take_eq_take_min]] at this
/-- One's own rest behind one's own beginning. -/
theorem e_appSelf (ht : P.underlying t = some (.slice e)) (hinfo : (P.info? e).map (fun i => (i.zero, i.size, i.bytes)) = some (some z, sz, bytes)) (hs0 : 0 < sz) (hsz : ∀ a, (enc a).length = sz) (h1 : ∀ a, one1 (enc a) = true)
    (hx : ev σ x = .slice A l1.length cc) (hc1 : cutHi m i = some l1) (hy : ev σ y = .slice (if cc = j.toNat then A else A.map (·.add (j.toNat * sz))) l2.length (cc - j.toNat)) (hc2 : cutLo m j = some l2) (hij : i ≤ j) (hmc : m.length ≤ cc)
    (hR : fR tag R = some ⟨.slice A m.length cc, e, sz, m.length, m.flatMap enc⟩) :
    Evt P σ ⟨w0, M, H, R, φ⟩ (.call ⟨.builtin .append, #[x, y], #[t, t]⟩) ty (fun _ : Unit => .slice A (l1 ++ l2).length cc) (fun _ => True) (fun _ => ⟨w0, M, H, uR tag ⟨.slice A (l1 ++ l2).length cc, e, sz, (l1 ++ l2).length, (l1 ++ l2).flatMap enc⟩ R, φ⟩) := by
  intro W hS
  obtain ⟨i0, hi, hzz⟩ := Option.map_eq_some_iff.1 hinfo
  simp only [Prod.mk.injEq] at hzz
  obtain ⟨hz0, hz1, hz2⟩ := hzz
  have hrow := rowOf hS hR
  dsimp only at hrow
  obtain ⟨a0, a1, e1⟩ := cutHi_some hc1
  obtain ⟨b0, b1, e2⟩ := cutLo_some hc2
  have hl1 : l1.length = i.toNat := by rw [e1, List.length_take]; omega
  have hl2 : l2.length = m.length - j.toNat := by rw [e2, List.length_drop]
  have hown := own_take (k := l1.length) hrow (by omega)
  rcases Nat.eq_zero_or_pos l2.length with hm | hm
  · have hy0 : l2 = [] := List.eq_nil_of_length_eq_zero hm
    subst hy0
    rw [List.append_nil]
    have hsrc : Src P i0.size t (.slice (if cc = j.toNat then A else A.map (·.add (j.toNat * sz))) 0 (cc - j.toNat)) 0 [] W := by
      cases (if cc = j.toNat then A else A.map (·.add (j.toNat * sz))) with
      | none => exact Src.ofNil W ht _
      | some ad => exact Src.ofSlice W ht ad 0 _ [] (by simp) (by simp) (by simp)
    have hrun := run_append_nothing (P := P) W t t ty e i0 ht hi A l1.length cc (by omega) _ hsrc
    simp only [List.length_nil] at hy
    refine ⟨(), W, by simp [execOp, resolve, invoke, builtin, hx, hy, hrun], trivial, ?_⟩
    exact row_cut hsz hR hc1 hS
  · rcases hrow.2 with ⟨h2, h3⟩ | ⟨g, cap, cur, hv, hbg, hg, hnc, hcm, hcs, htake⟩
    · omega
    · injection hv with q1 q2 q3
      subst q1 q3
      have hyl := fm_length hsz l2
      have hne : cc ≠ j.toNat := by omega
      have hcl : Cl W (some (⟨g, 0, none⟩ : Addr)) (m.flatMap enc) := own_cl hrow (fun _ _ => rfl)
      have hcl2 := hcl.drop (j.toNat * sz)
      rw [fm_drop hsz, ← e2] at hcl2
      rw [if_neg hne] at hy
      have hfit : l1.length * i0.size + (l2.flatMap enc).length ≤ cur.size := by
        rw [hyl, hz1, hcs, ← Nat.add_mul]; exact Nat.mul_le_mul_right _ (by omega)
      have hr := run_append_room (P := P) W t ty e i0 ht hi g l1.length cc cur hg _ l2.length (cc - j.toNat) (l2.flatMap enc) (by rw [hyl, hz1]) hcl2.cells (fm_one h1 l2) (by omega) hfit
      obtain ⟨W1, hW1⟩ : ∃ W1, W1 = W.setRow g (cur.toList.take (l1.length * i0.size) ++ l2.flatMap enc ++ cur.toList.drop (l1.length * i0.size + (l2.flatMap enc).length)).toArray := ⟨_, rfl⟩
      rw [← hW1] at hr
      refine ⟨(), W1, by simp [execOp, resolve, invoke, builtin, hx, hy, hr, List.length_append], trivial, ?_⟩
      subst hW1
      refine hS.updR hR ⟨rfl, rfl, rfl, by simp, fun k _ hk => setRow_other W g k _ (fun e => hk (by simp [vblk, Value.ownBlock, e])), Nat.le_refl _⟩ ?_ (fun k hk => .inl hk)
      have hlen : ((l1 ++ l2).flatMap enc).length = (l1 ++ l2).length * sz := fm_length hsz _
      refine ⟨hlen, .inr ⟨g, cc, _, rfl, hbg, setRow_heap W g cur _ e _ hg, by show (l1 ++ l2).length ≤ cc; rw [List.length_append]; omega, hcm, ?_, ?_⟩⟩
      · simp only [List.size_toArray, List.length_append, List.length_take, List.length_drop, Array.length_toList]
        rw [hz1] at hfit ⊢
        omega
      · have e3 : cur.toList.take (l1.length * i0.size) = l1.flatMap enc := by
          have := hown.2
          rw [hz1, hl1, e1, ← fm_take hsz, ← htake, List.take_take, Nat.min_eq_left (Nat.mul_le_mul_right _ (by omega))]
        rw [e3, ← hlen, List.flatMap_append]
        simp only []
        rw [List.take_left]
/-- What lies behind a row is cleared. -/
theorem zeroCells_one (hz : ∀ u ∈ z.cells.toList, u.oneCell' = true) (q : Nat) : ∀ u ∈ (Builtin.zeroCells z.cells q).toList, u.oneCell' = true := by
  intro u hu
  simp only [Builtin.zeroCells, Array.toList_map, List.mem_map, Array.toList_range, List.mem_range] at hu
  obtain ⟨a, ha, rfl⟩ := hu
  have hp : 0 < z.cells.size := by
    rcases Nat.eq_zero_or_pos z.cells.size with h | h
    · rw [h] at ha; simp at ha
    · exact h
  have hlt := Nat.mod_lt a hp
  rw [getElem!_pos z.cells _ hlt]
  exact hz _ (Array.getElem_mem_toList hlt)
theorem e_clearT (ht : P.underlying t = some (.slice e)) (hzero : ∀ W, (zeroValue e).run P W = .ok z W) (hzs : z.cells.size = sz) (hz1 : one1 z.cells.toList = true)
    (hx : ev σ x = .slice (if cc = l.length then A else A.map (·.add (l.length * sz))) k (cc - l.length)) (hk : l.length + k ≤ cc) (hR : fR tag R = some ⟨.slice A l.length cc, e, sz, l.length, l.flatMap enc⟩) :
    Evt P σ ⟨w0, M, H, R, φ⟩ (.call ⟨.builtin .clear, #[x], #[t]⟩) ty (fun _ : Unit => .tuple #[]) (fun _ => True) (fun _ => ⟨w0, M, H, R, φ⟩) := by
  intro W hS
  have hrow := rowOf hS hR
  dsimp only at hrow
  rcases hrow.2 with ⟨h2, h3⟩ | ⟨g, cap, cur, hv, hbg, hg, hnc, hcm, hcs, htake⟩
  · injection h2 with q1 q2 q3
    subst q1
    have hA : (if cc = l.length then (none : Option Addr) else Option.map (fun a : Addr => a.add (l.length * sz)) none) = none := by split <;> rfl
    rw [hA] at hx
    exact ⟨(), W, by simp [execOp, resolve, invoke, builtin, hx, Builtin.clear_, run_underlying ht], trivial, hS⟩
  · injection hv with q1 q2 q3
    subst q1 q3
    rcases Nat.eq_zero_or_pos k with hk0 | hk0
    · subst hk0
      refine ⟨(), W, ?_, trivial, hS⟩
      generalize (if cc = l.length then some (⟨g, 0, none⟩ : Addr) else Option.map (fun a : Addr => a.add (l.length * sz)) (some ⟨g, 0, none⟩)) = A' at hx
      cases A' with
      | none => simp [execOp, resolve, invoke, builtin, hx, Builtin.clear_, run_underlying ht]
      | some ad => simp [execOp, resolve, invoke, builtin, hx, Builtin.clear_, run_underlying ht]
    · have hne : cc ≠ l.length := by omega
      rw [if_neg hne] at hx
      simp only [Option.map_some, add_g] at hx
      have hzl : (Builtin.zeroCells z.cells k).toList.length = k * sz := by rw [Array.length_toList, size_zeroCells, hzs]
      have hfit : l.length * sz + 0 + (Builtin.zeroCells z.cells k).toList.length ≤ cur.size := by
        rw [hzl, hcs, Nat.add_zero, ← Nat.add_mul]; exact Nat.mul_le_mul_right _ hk
      have hst := run_storeCells_at P g (l.length * sz) e (Builtin.zeroCells z.cells k).toList 0 cur W hg hfit (zeroCells_one (one1_mem hz1) k)
      obtain ⟨k', rfl⟩ : ∃ k', k = k' + 1 := ⟨k - 1, by omega⟩
      obtain ⟨W1, hW1⟩ : ∃ W1, W1 = W.setRow g (cur.toList.take (l.length * sz + 0) ++ (Builtin.zeroCells z.cells (k' + 1)).toList ++ cur.toList.drop (l.length * sz + 0 + (Builtin.zeroCells z.cells (k' + 1)).toList.length)).toArray := ⟨_, rfl⟩
      rw [← hW1] at hst
      refine ⟨(), W1, by simp [execOp, resolve, invoke, builtin, hx, Builtin.clear_, run_underlying ht, hzero, hst], trivial, ?_⟩
      have hself : uR tag ⟨.slice (some ⟨g, 0, none⟩) l.length cc, e, sz, l.length, l.flatMap enc⟩ R = R := by
        obtain ⟨a, b, e1, e2, _⟩ := uR_split (o' := ⟨.slice (some ⟨g, 0, none⟩) l.length cc, e, sz, l.length, l.flatMap enc⟩) hR
        rw [e2, ← e1]
      subst hW1
      have := hS.updR (o' := ⟨.slice (some ⟨g, 0, none⟩) l.length cc, e, sz, l.length, l.flatMap enc⟩) (W1 := W.setRow g (cur.toList.take (l.length * sz + 0) ++ (Builtin.zeroCells z.cells (k' + 1)).toList ++ cur.toList.drop (l.length * sz + 0 + (Builtin.zeroCells z.cells (k' + 1)).toList.length)).toArray) hR ⟨rfl, rfl, rfl, by simp, fun k _ hk => setRow_other W g k _ (fun e => hk (by simp [vblk, Value.ownBlock, e])), Nat.le_refl _⟩ ?_ (fun k hk => .inl hk)
      · rw [hself] at this
        exact this
      · refine ⟨hrow.1, .inr ⟨g, cc, _, rfl, hbg, setRow_heap W g cur _ e _ hg, hnc, hcm, ?_, ?_⟩⟩
        · simp only [List.size_toArray, List.length_append, List.length_take, List.length_drop, Array.length_toList] at hzl hfit ⊢
          omega
        · simp only [Nat.add_zero, List.append_assoc]
          have hle : l.length * sz ≤ cur.size := by rw [hcs]; exact Nat.mul_le_mul_right _ hnc
          have hlt : (cur.toList.take (l.length * sz)).length = l.length * sz := by
            rw [List.length_take, Array.length_toList (xs := cur)]; omega
          rw [List.take_append_of_le_length (by rw [hlt]; exact Nat.le_refl _), List.take_take, Nat.min_self, htake]
theorem cutHi_lenE (h : cutHi m j = some r) : r.length = j.toNat := by
  obtain ⟨h0, h1, rfl⟩ := cutHi_some h
  rw [List.length_take]; omega
theorem self_len (h1 : cutHi m i = some l1) (h2 : cutLo m j = some l2) (hij : i ≤ j) : (l1 ++ l2).length ≤ m.length := by
  obtain ⟨a0, a1, rfl⟩ := cutHi_some h1
  obtain ⟨b0, b1, rfl⟩ := cutLo_some h2
  simp only [List.length_append, List.length_take, List.length_drop]; omega
theorem cutMid_le (h : cutMid m i j = some r) : i ≤ j := (cutMid_some h).2.1
/-- A row's end is cleared, and cut off. -/
theorem e_clearLo (ht : P.underlying t = some (.slice e)) (hzero : ∀ W, (zeroValue e).run P W = .ok z W) (hzs : z.cells.size = sz) (hz1 : one1 z.cells.toList = true)
    (hc1 : cutHi m j = some l) (hc2 : cutLo m j = some l2) (hx : ev σ x = .slice (if cc = j.toNat then A else A.map (·.add (j.toNat * sz))) l2.length (cc - j.toNat)) (hmc : m.length ≤ cc) (hR : fR tag R = some ⟨.slice A l.length cc, e, sz, l.length, l.flatMap enc⟩) :
    Evt P σ ⟨w0, M, H, R, φ⟩ (.call ⟨.builtin .clear, #[x], #[t]⟩) ty (fun _ : Unit => .tuple #[]) (fun _ => True) (fun _ => ⟨w0, M, H, R, φ⟩) := by
  have h := cutHi_lenE hc1
  obtain ⟨b0, b1, e2⟩ := cutLo_some hc2
  rw [← h] at hx
  refine e_clearT ht hzero hzs hz1 hx ?_ hR
  rw [h, e2, List.length_drop]; omega
theorem g_e0 {op : Op} {v : Value} {S' : Sta} (E : Evt P σ S op ty (fun _ : Unit => v) (fun _ => True) (fun _ => S')) (h : G P ops Q N rest σ S') : G P ops Q N (⟨none, op, ty, pos, af, none⟩ :: rest) σ S := by
  intro a W ha hS
  obtain ⟨x, W1, hrun, -, hS1⟩ := E W hS
  refine wpList_plain rfl fun K hK => ?_
  unfold Oper.wp
  have hrun' : (execOp (ev σ) ⟨none, op, ty, pos, af, none⟩).run P W = .ok (.value v) W1 := hrun
  rw [ha.ev, hrun', Oper.upon_value]
  exact hK _ _ (h a _ ha hS1)
/-- Cuts at both ends. -/
theorem r_lcutMidF {lo hi mx : Operand} {km : IntKind} {lm : Int} (hu : P.underlying t = some (.slice e)) (hs : ∀ W, (sizeOf e).run P W = .ok sz W) (hx : ev σ x = .slice A l.length cc) (hlc : l.length ≤ cc) (hlo : ev σ lo = .int kk i) (hh : ev σ hi = .int kj j) (hm : ev σ mx = .int km lm) (hlm : lm = (l.length : Int)) (h : cutMid l i j = some r) :
    Rn P σ S (.slice t x (some lo) (some hi) (some mx)) ty (.slice (if l.length = i.toNat then A else A.map (·.add (i.toNat * sz))) (j.toNat - i.toNat) (l.length - i.toNat)) := by
  obtain ⟨h0, h1, h2, rfl⟩ := cutMid_some h
  subst hlm
  intro W hS
  have hj : 0 ≤ j := by omega
  have hmx : max j 0 = j := by omega
  simp [execOp, Instr.sliceAt, Instr.slice, Instr.sliceBounds, Instr.sliceBound, asIntOf, hx, hlo, hh, hm, run_underlying hu, h0, h1, h2, hs W, hlc, hj, hmx]
theorem r_lcutUp {lo hi : Operand} (hu : P.underlying t = some (.slice e)) (hs : ∀ W, (sizeOf e).run P W = .ok sz W) (hx : ev σ x = .slice A l.length cc) (hlo : ev σ lo = .int kk (l.length : Int)) (hh : ev σ hi = .int kj (n : Int)) (h1 : l.length ≤ n) (h2 : n ≤ cc) :
    Rn P σ S (.slice t x (some lo) (some hi) none) ty (.slice (if cc = l.length then A else A.map (·.add (l.length * sz))) (n - l.length) (cc - l.length)) := by
  intro W hS
  simp [execOp, Instr.sliceAt, Instr.slice, Instr.sliceBounds, Instr.sliceBound, asIntOf, hx, hlo, hh, run_underlying hu, h1, h2, hs W]
end
end Go.Proofs.YthpjodfjdnnckaaGreat
