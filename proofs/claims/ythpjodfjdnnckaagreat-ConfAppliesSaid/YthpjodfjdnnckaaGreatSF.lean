/-
  The library's SortFunc at a row of structs of the call's own, out of the shelf's own contract, under a cmp of the calculus (own work).
-/
import Derived.Test.YthpjodfjdnnckaaGreatSM
import Derived.Shelf.SlSortCmp.NoneTotal
set_option linter.unusedVariables false
set_option linter.unusedSimpArgs false
namespace Go.Proofs.YthpjodfjdnnckaaGreat
open Go.RowKit Go.Lib Go.Sort
/-- A world that no old block of which has turned is the old one, grown. -/
theorem grow_of_below {W W1 : World} (h : Below W.heap.size W W1) : ∃ q os, W1 = grow (W.drewN q) os := by
  refine ⟨W1.drawn - W.drawn, W1.heap.extract W.heap.size W1.heap.size, ?_⟩
  have hs := h.size
  have hd := h.dr
  have hh : W1.heap = W.heap ++ W1.heap.extract W.heap.size W1.heap.size := by
    apply Array.ext_getElem?
    intro i
    by_cases hi : i < W.heap.size
    · rw [h.block i hi, Array.getElem?_append_left hi]
    · rw [Array.getElem?_append_right (by omega), Array.getElem?_extract]
      by_cases h2 : i < W1.heap.size
      · rw [if_pos (by omega)]; congr 1; omega
      · rw [if_neg (by omega), Array.getElem?_eq_none (by omega)]
  obtain ⟨hp, tp, dr, o, ou⟩ := W1
  have e1 := h.os
  have e2 := h.tape
  have e3 := h.output
  simp only at hh hd e1 e2 e3 ⊢
  unfold grow World.drewN
  simp only [World.mk.injEq]
  exact ⟨hh, e2, by omega, e1, e3⟩
section
variable {α : Type} {enc : α → List Value} {k : Nat}
theorem fm_get (hk : ∀ x, (enc x).length = k) (l : List α) (j q : Nat) (hq : q < k) (hj : j < l.length) : (l.flatMap enc)[j * k + q]? = (enc l[j])[q]? := by
  rw [← List.getElem?_drop, fm_drop hk, List.drop_eq_getElem_cons hj, List.flatMap_cons, List.getElem?_append_left (by rw [hk]; exact hq)]
theorem flatK_list [Inhabited α] (hk0 : 0 < k) (hk : ∀ x, (enc x).length = k) (l : List α) : (flatK enc k l.toArray).toList = l.flatMap enc := by
  apply List.ext_getElem?
  intro t
  by_cases ht : t < l.length * k
  · have hj : t / k < l.length := (Nat.div_lt_iff_lt_mul hk0).2 ht
    have e : t = t / k * k + t % k := by rw [Nat.mul_comm]; exact (Nat.div_add_mod t k).symm
    have hq := Nat.mod_lt t hk0
    have hg := fm_get hk l (t / k) (t % k) hq hj
    rw [← e] at hg
    rw [hg, Array.getElem?_toList]
    have hsz : t < (flatK enc k l.toArray).size := by simpa using ht
    have h2 := get_flatK enc k l.toArray t (by simpa using ht)
    rw [getElem!_pos _ t hsz] at h2
    rw [Array.getElem?_eq_getElem hsz, h2]
    have h3 : (l.toArray[t / k]!) = l[t / k] := by rw [getElem!_pos l.toArray (t / k) (by simpa using hj)]; simp
    rw [h3, List.getElem?_eq_getElem (by rw [hk]; exact hq)]
    congr 1
    exact getElem!_pos _ _ (by rw [hk]; exact hq)
  · rw [List.getElem?_eq_none (by simp; omega), List.getElem?_eq_none (by rw [fm_length hk]; omega)]
theorem holds_of_blockK {w : World} {g : Nat} {cur : Array Value} {e : TypeId} {vs : List Value} (hb : w.heap[g]? = some (.cells cur e (0, 0))) (ht : cur.toList.take vs.length = vs) : Holds id w g 0 vs.toArray := by
  intro j hj
  have hj' : j < vs.length := by simpa using hj
  refine ⟨?_, by simp [World.frozen?, hb]⟩
  have h1 : (cur.toList.take vs.length)[j]? = vs[j]? := by rw [ht]
  rw [List.getElem?_take_of_lt hj'] at h1
  simp only [World.cell?, hb, Nat.zero_add]
  simp only [Option.isSome_none, Bool.false_eq_true, if_false]
  rw [← Array.getElem?_toList, h1]
  simp [hj']
theorem heap_sortedK {w : World} {g n : Nat} {os : Array Obj} {cur : Array Value} {e : TypeId} {fr : Nat × Nat} (d : Array Value) (hb : w.heap[g]? = some (.cells cur e fr)) :
    (grow (putRow id (Sort.ahead w n) g 0 d) os).heap[g]? = some (.cells (putCells id 0 d cur) e fr) := by
  have hg : g < w.heap.size := (Array.getElem?_eq_some_iff.1 hb).1
  rw [heap_grow_old _ _ (by simpa using hg)]
  simp [putRow, mapBlock, Sort.ahead, Array.getElem?_modify, hb, onCells]
theorem grownBy_sortedK {w : World} {g n : Nat} {os : Array Obj} (d : Array Value) : w.grownBy (grow (putRow id (Sort.ahead w n) g 0 d) os) (some g) := by
  refine ⟨rfl, rfl, rfl, by simp, fun k hk hne => ?_⟩
  rw [heap_grow_old _ _ (by simpa using hk)]
  have : g ≠ k := fun e => hne (by rw [e])
  simp [putRow, mapBlock, Sort.ahead, Array.getElem?_modify, this]
theorem take_putCellsK (cur : Array Value) (vs : List Value) (h : vs.length ≤ cur.size) : (putCells id 0 vs.toArray cur).toList.take vs.length = vs := by
  apply List.ext_getElem?
  intro j
  by_cases hj : j < vs.length
  · rw [List.getElem?_take_of_lt hj, Array.getElem?_toList]
    simp [putCells, hj, show j < cur.size by omega]
  · rw [List.getElem?_take_eq_none (by omega), List.getElem?_eq_none (by omega)]
/-! ### The sort, in plain words -/
/-- cmp at the elements of a list. -/
def cfM (cm : α → α → Option Int) (l : List α) (x y : {x // x ∈ l}) : Int := (cm x.1 y.1).getD 0
def sortOk (cm : α → α → Option Int) (l : List α) : Prop := (∀ x ∈ l, ∀ y ∈ l, (cm x y).isSome = true) ∧ SWO (ltOf (cfM cm l)) ∧ l.length < 4611686018427387904
noncomputable def sortA (cm : α → α → Option Int) (a : α) (l : List α) : Array {x // x ∈ a :: l} :=
  @pdq _ ⟨⟨a, List.mem_cons_self⟩⟩ (ltOf (cfM cm (a :: l))) (a :: l).attach.toArray 0 (a :: l).attach.toArray.size (Lib.bitLen (a :: l).attach.toArray.size) true true
open Classical in
noncomputable def sortM (cm : α → α → Option Int) : List α → Option (List α)
  | [] => some []
  | a :: l => if sortOk cm (a :: l) then some ((sortA cm a l).toList.map (·.1)) else none
open Classical in
theorem sortM_cons {cm : α → α → Option Int} {a : α} {l r : List α} (h : sortM cm (a :: l) = some r) : sortOk cm (a :: l) ∧ (sortA cm a l).toList.map (·.1) = r := by
  change (if sortOk cm (a :: l) then some ((sortA cm a l).toList.map (·.1)) else none) = some r at h
  by_cases hok : sortOk cm (a :: l)
  · rw [if_pos hok] at h
    injection h with h
    exact ⟨hok, h⟩
  · rw [if_neg hok] at h
    cases h
theorem sortM_facts {cm : α → α → Option Int} {l r : List α} (h : sortM cm l = some r) : r.Perm l ∧ r.Pairwise (fun x y => ¬ (cm y x).getD 0 < 0) := by
  cases l with
  | nil => injection h with h; subst h; exact ⟨.refl _, .nil⟩
  | cons a l =>
    obtain ⟨hok, h⟩ := sortM_cons h
    subst h
    letI : Inhabited {x // x ∈ a :: l} := ⟨⟨a, List.mem_cons_self⟩⟩
    obtain ⟨⟨hs, -, hp⟩, hso⟩ := pdq_sorts (ltOf (cfM cm (a :: l))) hok.2.1 (a :: l).attach.toArray 0 (a :: l).attach.toArray.size (Lib.bitLen (a :: l).attach.toArray.size) true true (Nat.zero_le _) (Nat.le_refl _) (Or.inl rfl)
    change (sortA cm a l).size = _ at hs
    change ((sortA cm a l).extract 0 _).toList.Perm _ at hp
    change SortedIn _ 0 _ (sortA cm a l) at hso
    rw [← hs, Array.extract_size, hs, Array.extract_size] at hp
    refine ⟨?_, ?_⟩
    · have := hp.map (fun x : {x // x ∈ a :: l} => x.1)
      simpa using this
    · rw [List.pairwise_map]
      rw [List.pairwise_iff_getElem]
      intro i j hi hj hij
      have hj' : j < (sortA cm a l).size := by simpa using hj
      have := hso i j (Nat.zero_le _) hij (by rw [← hs]; exact hj')
      rw [getElem!_pos _ j hj', getElem!_pos _ i (by omega)] at this
      unfold ltOf at this
      rw [decide_eq_false_iff_not] at this
      exact this
theorem sortM_len {cm : α → α → Option Int} {l r : List α} (h : sortM cm l = some r) : r.length = l.length := (sortM_facts h).1.length_eq
theorem cn_sortF {P : Program} {ρ : Go.Shelf.Ren} (L : SlLaysF0.n6 P ρ) {f e g : Nat} (hf : ρ.f 6 = f) (he : ρ.t 24 = e) (hk0 : 0 < k) (aE : ∀ w, (isAgg e).run P w = .ok true w) (zE : ∀ w, (Go.sizeOf e).run P w = .ok k w)
    (hk : ∀ x, (enc x).length = k) (h1 : ∀ x, ∀ v ∈ enc x, v.oneCell' = true) (eg : ∀ args w, (callFunc g args).run P w = .ok (.enter g args) w) {cm : α → α → Option Int}
    (hcmp : ∀ (W : World) (x y : α) (r : Int), cm x y = some r → Cn P g #[.agg (enc x).toArray, .agg (enc y).toArray] ⟨W, fun _ => False, [], [], fun _ => True⟩ (fun _ : Unit => .int .i64 r) (fun _ => True) (fun _ => ⟨W, fun _ => False, [], [], fun _ => True⟩))
    {w0 : World} {M : Nat → Prop} {H : List (Nat × Nat × Obj)} {R : List (Nat × Row)} {φ : World → Prop} {p0 r : List α} {A : Option Addr} {c : Nat} (hm : sortM cm p0 = some r) :
    Cn P f #[.slice A p0.length c, .func (.func g) #[] #[]] ⟨w0, M, H, (1000, ⟨.slice A p0.length c, e, k, p0.length, p0.flatMap enc⟩) :: R, φ⟩ (fun _ : Unit => .tuple #[]) (fun _ => r.length = p0.length) (fun _ => ⟨w0, M, H, (1000, ⟨.slice A r.length c, e, k, r.length, r.flatMap enc⟩) :: R, φ⟩) := by
  intro W hS
  subst hf
  subst he
  have hrl := sortM_len hm
  cases p0 with
  | nil =>
    injection hm with hm
    subst hm
    refine (AnyF.slices_SortFunc_none L A c _ W).mono ?_
    rintro e1 w' ⟨rfl, rfl⟩
    exact ⟨(), rfl, rfl, hS⟩
  | cons a l =>
    obtain ⟨hok, hm'⟩ := sortM_cons hm
    have hrow := rowOf hS (tag := 1000) rfl
    dsimp only at hrow
    rcases hrow.2 with ⟨q1, q2⟩ | ⟨b, cap, cur, q1, hg, hh, hn, hmx, hz, ht⟩
    · cases q2
    injection q1 with qA qn qc
    subst qA; subst qc
    letI : Inhabited {x // x ∈ a :: l} := ⟨⟨a, List.mem_cons_self⟩⟩
    have hk' : ∀ x : {x // x ∈ a :: l}, (enc x.1).length = k := fun x => hk x.1
    have hds : (a :: l).attach.toArray.size = (a :: l).length := by simp
    have hfl : (a :: l).attach.flatMap (fun x => enc x.1) = (a :: l).flatMap enc := by
      conv => rhs; rw [← List.attach_map_subtype_val (a :: l)]
      rw [List.flatMap_map]
    have hF : flatK (fun x : {x // x ∈ a :: l} => enc x.1) k (a :: l).attach.toArray = ((a :: l).flatMap enc).toArray := by
      apply Array.toList_inj.1
      rw [flatK_list hk0 hk', hfl]
    have hH : HoldsK (fun x : {x // x ∈ a :: l} => enc x.1) k W b 0 (a :: l).attach.toArray := by
      unfold HoldsK
      rw [hF]
      exact holds_of_blockK hh (by rw [fm_length hk]; exact ht)
    have hC : CmpLays P g #[] (fun x : {x // x ∈ a :: l} => enc x.1) k (cfM cm (a :: l)) b 0 (a :: l).attach.toArray.size W := by
      intro m os dk hdk x y
      have hs := hok.1 x.1 x.2 y.1 y.2
      obtain ⟨v, hv⟩ := Option.isSome_iff_exists.1 hs
      have hcf : cfM cm (a :: l) x y = v := by unfold cfM; rw [hv]; rfl
      rw [hcf]
      generalize sortWorldK (fun x : {x // x ∈ a :: l} => enc x.1) k W b 0 m dk os = W2
      refine (hcmp W2 x.1 y.1 v hv W2 ⟨Below.refl _ _, fun _ h => h.elim, by simp, by simp, by simp, by simp, by simp, fun _ _ => trivial⟩).mono ?_
      rintro e1 w' ⟨_, rfl, _, hok'⟩
      exact ⟨rfl, grow_of_below hok'.below⟩
    have hq := AnyQ.slices_SortFunc_eq L k aE zE (fun x : {x // x ∈ a :: l} => enc x.1) hk' (fun x => h1 x.1) (cfM cm (a :: l)) hok.2.1 g #[] b 0 c (a :: l).attach.toArray W eg hC hH (blk_lt hh) (by rw [hds]; exact hok.2.2)
    rw [hds] at hq
    refine hq.mono ?_
    rintro e1 w' ⟨rfl, n, os, rfl⟩
    refine ⟨(), rfl, hrl, ?_⟩
    have hA : pdq (ltOf (cfM cm (a :: l))) (a :: l).attach.toArray 0 (a :: l).length (Lib.bitLen (a :: l).length) true true = sortA cm a l := by
      unfold sortA
      rw [hds]
    rw [hA]
    have hFr : flatK (fun x : {x // x ∈ a :: l} => enc x.1) k (sortA cm a l) = (r.flatMap enc).toArray := by
      apply Array.toList_inj.1
      have := flatK_list (enc := fun x : {x // x ∈ a :: l} => enc x.1) hk0 hk' (sortA cm a l).toList
      rw [show (sortA cm a l).toList.toArray = sortA cm a l by simp] at this
      rw [this, ← hm', List.flatMap_map]
    have hW : sortWorldK (fun x : {x // x ∈ a :: l} => enc x.1) k W b 0 n (sortA cm a l) os = grow (putRow id (Sort.ahead W n) b 0 (r.flatMap enc).toArray) os := by
      unfold sortWorldK putRowK
      rw [hFr]
    rw [hW]
    have hrf : (r.flatMap enc).length = (a :: l).length * k := by rw [fm_length hk, hrl]
    refine hS.updR (t := 1000) (o' := ⟨.slice (some ⟨b, 0, none⟩) r.length c, ρ.t 24, k, r.length, r.flatMap enc⟩) rfl (But.grown (grownBy_sortedK _) (Nat.le_add_right _ _)) ?_ (fun j hj => .inl hj)
    refine ⟨fm_length hk r, .inr ⟨b, c, _, rfl, hg, heap_sortedK _ hh, by rw [hrl]; exact hn, hmx, by simp [putCells, hz], ?_⟩⟩
    have hle : (a :: l).length * k ≤ c * k := Nat.mul_le_mul_right _ hn
    have := take_putCellsK cur (r.flatMap enc) (by rw [hrf]; omega)
    rwa [fm_length hk] at this
end
end Go.Proofs.YthpjodfjdnnckaaGreat
