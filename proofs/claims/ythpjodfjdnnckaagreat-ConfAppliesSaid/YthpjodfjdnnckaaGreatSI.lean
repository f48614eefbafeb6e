/-
  The library's Insert at a row of numbers of the call's own, out of the shelf's own contracts (own work).
-/
import Derived.Test.YthpjodfjdnnckaaGreatST
import Derived.Shelf.Spec.SlicesInsertGrow
set_option linter.unusedVariables false
set_option linter.unusedSimpArgs false
namespace Go.Proofs.YthpjodfjdnnckaaGreat
open Go.RowKit Go.Lib
theorem ins_done {w0 : World} {M : Nat → Prop} {H : List (Nat × Nat × Obj)} {R : List (Nat × Row)} {φ : World → Prop} {W W1 : World} {A A2 : Option Addr} {n m c c2 e n' c' g' : Nat} {xs ys zs : List Value}
    (hS : (Sta.mk w0 M H ((1000, ⟨.slice A n c, e, 1, n, xs⟩) :: (1001, ⟨.slice A2 m c2, e, 1, m, ys⟩) :: R) φ).ok W) (hb : But (vblk (.slice A n c)) W W1)
    (ho : W1.ownsRow w0.heap.size e 1 (.slice (some ⟨g', 0, none⟩) n' c') n' zs) (hat : vblk (.slice A n c) = some g' ∨ W.heap.size ≤ g') :
    (Sta.mk w0 M H ((2000, ⟨.slice (some ⟨g', 0, none⟩) n' c', e, 1, n', zs⟩) :: R) φ).ok W1 := by
  have h1 := hS.updR (t := 1000) (o' := ⟨.slice (some ⟨g', 0, none⟩) n' c', e, 1, n', zs⟩) rfl hb ho (fun k hk => by
    have : g' = k := by simpa [vblk, Value.ownBlock] using hk
    subst this
    exact hat)
  have h2 := h1.dropR (t := 1001) rfl
  exact ok_frontR (t := 1000) (t' := 2000) h2 rfl
theorem but_drew (g : Option Nat) (W : World) : But g W W.drew := ⟨rfl, rfl, rfl, Nat.le_refl _, fun _ _ _ => rfl, Nat.le_succ _⟩
theorem but_alloc (g : Option Nat) (W : World) (o : Obj) : But g W (W.alloc o) := But.grown ((World.grownBy_alloc W o none).but g) (Nat.le_refl _)
theorem But.new {g : Nat} {h : Option Nat} {W W1 W2 : World} (b : But h W W1) (hg : W.heap.size ≤ g) (b2 : But (some g) W1 W2) : But h W W2 :=
  ⟨b2.os.trans b.os, b2.tape.trans b.tape, b2.output.trans b.output, Nat.le_trans b.size b2.size, fun k hk hne => (b2.same k (Nat.lt_of_lt_of_le hk b.size) (fun e => by injection e with e; omega)).trans (b.same k hk hne), Nat.le_trans b.dr b2.dr⟩
theorem enc_len (l : List Int) : (l.map (Value.int .i64)).length = l.length := List.length_map _
theorem one_int (l : List Int) : ∀ v ∈ l.map (Value.int .i64), v.oneCell' = true := fun v hv => by
  obtain ⟨x, -, rfl⟩ := List.mem_map.1 hv
  rfl
theorem cn_insert {P : Program} {ρ : Go.Shelf.Ren} (L : Lays2.n21 P ρ) {f e : Nat} (hf : ρ.f 21 = f) (he : ρ.t 3 = e) {w0 : World} {M : Nat → Prop} {H : List (Nat × Nat × Obj)} {R : List (Nat × Row)} {φ : World → Prop}
    {p0 p2 : List Int} {A A2 : Option Addr} {c c2 : Nat} {p1 : Int} (h0 : 0 ≤ p1) (h1 : p1 ≤ p0.length) (hm : 0 < p2.length) (hbig : (p0.length + p2.length) * 8 ≤ 140737488355328) :
    Cn P f #[.slice A p0.length c, .int .i64 p1, .slice A2 p2.length c2] ⟨w0, M, H, (1000, ⟨.slice A p0.length c, e, 1, p0.length, p0.flatMap encZ⟩) :: (1001, ⟨.slice A2 p2.length c2, e, 1, p2.length, p2.flatMap encZ⟩) :: R, φ⟩
      (fun x : Option Addr × Nat => .slice x.1 (p0.take p1.toNat ++ p2 ++ p0.drop p1.toNat).length x.2) (fun x => (p0.take p1.toNat ++ p2 ++ p0.drop p1.toNat).length ≤ x.2)
      (fun x => ⟨w0, M, H, (2000, ⟨.slice x.1 (p0.take p1.toNat ++ p2 ++ p0.drop p1.toNat).length x.2, e, 1, (p0.take p1.toNat ++ p2 ++ p0.drop p1.toNat).length, (p0.take p1.toNat ++ p2 ++ p0.drop p1.toNat).flatMap encZ⟩) :: R, φ⟩) := by
  intro W hS
  obtain ⟨i, rfl⟩ := Int.eq_ofNat_of_zero_le h0
  subst hf
  subst he
  rw [Int.toNat_natCast]
  have hlen : (p0.take i ++ p2 ++ p0.drop i).length = p0.length + p2.length := by simp only [List.length_append, List.length_take, List.length_drop]; omega
  have hfm : (p0.take i ++ p2 ++ p0.drop i).flatMap encZ = (p0.map (Value.int .i64)).take i ++ p2.map (Value.int .i64) ++ (p0.map (Value.int .i64)).drop i := by
    rw [encZ_map, List.map_append, List.map_append, List.map_take, List.map_drop]
  rw [hlen, hfm]
  generalize hcs : p0.map (Value.int .i64) = cs
  generalize hvs : p2.map (Value.int .i64) = vs
  have lcs : cs.length = p0.length := by rw [← hcs, enc_len]
  have lvs : vs.length = p2.length := by rw [← hvs, enc_len]
  have o1 : ∀ v ∈ cs, v.oneCell' = true := by rw [← hcs]; exact one_int _
  have o2 : ∀ v ∈ vs, v.oneCell' = true := by rw [← hvs]; exact one_int _
  have lout : (cs.take i ++ vs ++ cs.drop i).length = (p0.length + p2.length) * 1 := by simp only [List.length_append, List.length_take, List.length_drop]; omega
  have hrow := rowOf hS (tag := 1000) rfl
  have hrow2 := rowOf hS (tag := 1001) rfl
  dsimp only at hrow hrow2
  have hml : p0.length + p2.length ≤ maxLen := by unfold maxLen; omega
  rcases hrow2.2 with ⟨q1, q2⟩ | ⟨g2, cap2, cur2, q1, hg2, hh2, hn2, hm2, hz2, ht2⟩
  · omega
  injection q1 with qA qn qc
  subst qA; subst qc
  have hcl2 : Cl W (some ⟨g2, 0, none⟩) vs := by
    have := own_cl hrow2 (W' := W) (fun _ _ => rfl)
    rwa [encZ_map, hvs] at this
  have hv : ∀ j v, vs[j]? = some v → W.cell? ⟨g2, 0 + j, none⟩ = some v := fun j v hj => by
    have := hcl2.cells j v hj
    rwa [add_g, ← Nat.zero_add j] at this
  rcases hrow.2 with ⟨q1, q2⟩ | ⟨g, cap, cur, q1, hg, hh, hn, hmx, hz, ht⟩
  · injection q1 with qA qn qc
    subst qA; subst qc
    have e0 : cs = [] := List.eq_nil_of_length_eq_zero (by omega)
    have ei : i = 0 := by omega
    subst e0 ei
    rw [q2]
    refine (Any2.slices_Insert_int_end_grow L none 0 0 g2 0 p2.length c2 [] vs W hm (by omega) (by omega) (by omega) rfl lvs (fun _ => rfl) (fun a h => by cases h) hv o2).mono ?_
    rintro e1 w' ⟨rfl, rfl⟩
    refine ⟨(some ⟨W.heap.size, 0, none⟩, grownCap W (0 + p2.length) 0 (ρ.t 3)), rfl, grownCap_ge _ _ _ _, ?_⟩
    refine ins_done (by rw [q2] at hS; exact hS) ((but_drew _ W).trans (but_alloc _ _ _)) ⟨by simpa [q2] using lout, .inr ⟨W.heap.size, _, _, rfl, hS.size, heap_alloc_new W.drew _, grownCap_ge _ _ _ _, grownCap_le_maxLen _ _ _ _ (by omega), ?_, ?_⟩⟩ (.inr (Nat.le_refl _))
    · have := grownCap_ge W (0 + p2.length) 0 (ρ.t 3)
      simp only [Nat.zero_add] at this
      simp [Builtin.zeroCells, Value.cells, lvs]
      omega
    · simp [lvs]
  · injection q1 with qA qn qc
    subst qA; subst qc
    have hne : g2 ≠ g := fun e => by
      have hap := (List.pairwise_cons.1 hS.apartR).1 _ List.mem_cons_self
      exact hap g rfl (by rw [e]; rfl)
    rw [Nat.mul_one] at ht hz
    rw [encZ_map, hcs] at ht
    have htl : cur.toList.length = c := by rw [Array.length_toList]; exact hz
    have hcell : ∀ k, W.cell? ⟨g, k, none⟩ = cur[k]? := fun k => by simp [World.cell?, hh]
    have hfz : ∀ k, W.frozen? ⟨g, k, none⟩ = false := fun k => by simp [World.frozen?, hh]
    have hfz2 : ∀ k, W.frozen? ⟨g2, k, none⟩ = false := fun k => by simp [World.frozen?, hh2]
    have hcs' : ∀ j v, cs[j]? = some v → W.cell? ⟨g, 0 + j, none⟩ = some v := fun j v hj => by
      rw [hcell, Nat.zero_add, ← Array.getElem?_toList]
      rw [← ht] at hj
      rw [List.getElem?_take] at hj
      split at hj
      · exact hj
      · cases hj
    by_cases hroom : p0.length + p2.length ≤ c
    · have hsome : ∀ k, k < p0.length + p2.length → (W.cell? ⟨g, k, none⟩).isSome = true := fun k hk => by
        rw [hcell, Array.getElem?_eq_getElem (by omega)]; rfl
      by_cases hi : i = p0.length
      · refine (show Calls P (ρ.f 21) #[.slice (some ⟨g, 0, none⟩) p0.length c, .int .i64 (i : Int), .slice (some ⟨g2, 0, none⟩) p2.length c2] W _ from by
          rw [hi]
          exact Any2.slices_Insert_int_end_room L g 0 p0.length c g2 0 p2.length c2 vs W hm hroom (by unfold maxLen at hmx; omega) lvs (fun j hj => by rw [Nat.zero_add]; exact hsome _ (by omega)) (fun j hj => hfz _) hv o2).mono ?_
        rintro e1 w' ⟨rfl, rfl⟩
        obtain ⟨k1, k2⟩ := setCells_heap g (ρ.t 3) (0, 0) vs W cur (0 + p0.length) hh
        refine ⟨(some ⟨g, 0, none⟩, c), rfl, hroom, ?_⟩
        refine ins_done hS k2 ⟨lout, .inr ⟨g, c, _, rfl, hg, k1, hroom, hmx, by rw [putL_size]; omega, ?_⟩⟩ (.inl rfl)
        rw [putL_list _ _ _ (by omega), Nat.zero_add, Nat.mul_one, hi, ht, List.take_of_length_le (Nat.le_of_eq lcs), List.drop_of_length_le (Nat.le_of_eq lcs), List.append_nil, List.take_append_of_le_length (by rw [List.length_append]; omega), List.take_of_length_le (by rw [List.length_append]; omega)]
      · have hlt : i < p0.length := by omega
        refine (Any2.slices_Insert_int_shift L g 0 p0.length c i g2 0 p2.length c2 cs vs W hlt hm hroom (by unfold maxLen at hmx; omega) hne lcs lvs hcs' (fun j hj => by rw [Nat.zero_add]; exact hsome _ hj) (fun j _ => hfz _) hv o1 o2 (ρ.t 3) (ρ.t 3) cur2.size cur.size (by simp [World.shape?, hh2]) (by simp [World.shape?, hh]) (by omega) (hfz2 _) (hfz2 _)).mono ?_
        rintro e1 w' ⟨rfl, rfl⟩
        have hd : W.drew.heap[g]? = some (.cells cur (ρ.t 3) (0, 0)) := hh
        obtain ⟨k1, k2⟩ := setCells_heap g (ρ.t 3) (0, 0) (cs.drop i) W.drew cur (0 + (i + p2.length)) hd
        obtain ⟨k3, k4⟩ := setCells_heap g (ρ.t 3) (0, 0) vs _ _ (0 + i) k1
        refine ⟨(some ⟨g, 0, none⟩, c), rfl, hroom, ?_⟩
        refine ins_done hS (((but_drew _ W).trans k2).trans k4) ⟨lout, .inr ⟨g, c, _, rfl, hg, k3, hroom, hmx, by rw [putL_size, putL_size]; omega, ?_⟩⟩ (.inl rfl)
        have ld : (cs.drop i).length = p0.length - i := by rw [List.length_drop, lcs]
        rw [putL_list _ _ _ (by rw [putL_size]; omega), putL_list _ _ _ (by rw [ld]; omega), Nat.mul_one]
        simp only [Nat.zero_add]
        have t1 : (cur.toList.take (i + p2.length)).length = i + p2.length := by rw [List.length_take]; omega
        have t2 : cur.toList.take i = cs.take i := by rw [← ht, List.take_take, Nat.min_eq_left (by omega)]
        have t3 : (cur.toList.take (i + p2.length) ++ cs.drop i ++ cur.toList.drop (i + p2.length + (cs.drop i).length)).take i = cs.take i := by
          rw [List.append_assoc, List.take_append_of_le_length (by omega), List.take_take, Nat.min_eq_left (by omega), t2]
        have t4 : (cur.toList.take (i + p2.length) ++ cs.drop i ++ cur.toList.drop (i + p2.length + (cs.drop i).length)).drop (i + vs.length) = cs.drop i ++ cur.toList.drop (i + p2.length + (cs.drop i).length) := by
          rw [lvs, List.append_assoc, List.drop_append_of_le_length (by omega), List.drop_of_length_le (by omega), List.nil_append]
        rw [t3, t4, ← List.append_assoc, List.take_append_of_le_length (by rw [Nat.mul_one] at lout; omega), List.take_of_length_le (by rw [Nat.mul_one] at lout; omega)]
    · by_cases hi : i = p0.length
      · refine (show Calls P (ρ.f 21) #[.slice (some ⟨g, 0, none⟩) p0.length c, .int .i64 (i : Int), .slice (some ⟨g2, 0, none⟩) p2.length c2] W _ from by
          rw [hi]
          exact Any2.slices_Insert_int_end_grow L (some ⟨g, 0, none⟩) p0.length c g2 0 p2.length c2 cs vs W hm hn (by omega) hbig lcs lvs (fun h => by cases h) (fun a h j v hj => by
            injection h with h
            subst h
            rw [add_g]
            have := hcs' j v hj
            rwa [Nat.zero_add] at this) hv o2).mono ?_
        rintro e1 w' ⟨rfl, rfl⟩
        refine ⟨(some ⟨W.heap.size, 0, none⟩, grownCap W (p0.length + p2.length) c (ρ.t 3)), rfl, grownCap_ge _ _ _ _, ?_⟩
        refine ins_done hS ((but_drew _ W).trans (but_alloc _ _ _)) ⟨lout, .inr ⟨W.heap.size, _, _, rfl, hS.size, heap_alloc_new W.drew _, grownCap_ge _ _ _ _, grownCap_le_maxLen _ _ _ _ hml, ?_, ?_⟩⟩ (.inr (Nat.le_refl _))
        · have := grownCap_ge W (p0.length + p2.length) c (ρ.t 3)
          simp [Builtin.zeroCells, Value.cells, lvs, lcs]
          omega
        · rw [hi, List.take_of_length_le (Nat.le_of_eq lcs), List.drop_of_length_le (Nat.le_of_eq lcs), List.append_nil, Nat.mul_one, Array.toList_append, List.take_append_of_le_length (by rw [List.length_append]; omega), List.take_of_length_le (by rw [List.length_append]; omega)]
      · have hlt : i < p0.length := by omega
        refine (Any2.slices_Insert_int_grow L g 0 p0.length c i g2 0 p2.length c2 cs vs W hlt hm hn (by omega) hbig lcs lvs hcs' hv o1 o2).mono ?_
        rintro e1 w' ⟨rfl, rfl⟩
        have hge := grownCap_ge W (p0.length + p2.length) c (ρ.t 3)
        have hle := grownCap_le_maxLen W (p0.length + p2.length) c (ρ.t 3) hml
        revert hge hle
        generalize grownCap W (p0.length + p2.length) c (ρ.t 3) = K
        intro hge hle
        have zl : ∀ q, (Builtin.zeroCells (Value.int .i64 0).cells q).toList.length = q := fun q => by simp [Builtin.zeroCells, Value.cells]
        generalize hA : (((cs.take i).toArray ++ Builtin.zeroCells (Value.int .i64 0).cells (p0.length + p2.length - i) ++ Builtin.zeroCells (Value.int .i64 0).cells (K - (p0.length + p2.length))) : Array Value) = B
        have hB : B.toList = cs.take i ++ (Builtin.zeroCells (Value.int .i64 0).cells (p0.length + p2.length - i)).toList ++ (Builtin.zeroCells (Value.int .i64 0).cells (K - (p0.length + p2.length))).toList := by rw [← hA, Array.toList_append, Array.toList_append]
        have hBs : B.size = K := by
          rw [← Array.length_toList, hB]
          simp only [List.length_append, List.length_take, zl]
          omega
        have k0 : (W.alloc (.cells B (ρ.t 3))).drew.heap[W.heap.size]? = some (.cells B (ρ.t 3) (0, 0)) := heap_alloc_new W _
        obtain ⟨k1, k2⟩ := setCells_heap W.heap.size (ρ.t 3) (0, 0) vs _ _ i k0
        have k1' : (((W.alloc (.cells B (ρ.t 3))).drew.setCells W.heap.size i vs).drew).heap[W.heap.size]? = _ := k1
        obtain ⟨k3, k4⟩ := setCells_heap W.heap.size (ρ.t 3) (0, 0) (cs.drop i) _ _ (i + p2.length) k1'
        refine ⟨(some ⟨W.heap.size, 0, none⟩, K), rfl, hge, ?_⟩
        refine ins_done hS ((((but_alloc _ W _).trans (but_drew _ _)).new (Nat.le_refl _) k2 |>.trans (but_drew _ _)).new (Nat.le_refl _) k4) ⟨lout, .inr ⟨W.heap.size, K, _, rfl, hS.size, k3, hge, hle, by rw [putL_size, putL_size]; omega, ?_⟩⟩ (.inr (Nat.le_refl _))
        have ld : (cs.drop i).length = p0.length - i := by rw [List.length_drop, lcs]
        rw [putL_list _ _ _ (by rw [putL_size]; omega), putL_list _ _ _ (by omega), Nat.mul_one]
        have hBl : B.toList.length = K := by rw [Array.length_toList]; exact hBs
        have t1 : B.toList.take i = cs.take i := by
          rw [hB, List.append_assoc, List.take_append_of_le_length (by rw [List.length_take]; omega), List.take_of_length_le (by rw [List.length_take]; omega)]
        have t2 : (B.toList.take i ++ vs ++ B.toList.drop (i + vs.length)).take (i + p2.length) = cs.take i ++ vs := by
          rw [t1, List.take_append_of_le_length (by rw [List.length_append, List.length_take]; omega), List.take_of_length_le (by rw [List.length_append, List.length_take]; omega)]
        rw [t2, List.take_append_of_le_length (by rw [Nat.mul_one] at lout; omega), List.take_of_length_le (by rw [Nat.mul_one] at lout; omega)]
end Go.Proofs.YthpjodfjdnnckaaGreat
