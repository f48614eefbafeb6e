/-
  Contracts of the library's sort and compact at a row of numbers, out of the shelf's own ones (own work).
-/
import Derived.Test.YtoglbdaagfoddaaSM
import Derived.Shelf.SortG.Plain
import Derived.Shelf.SortG.SortNone
import Derived.Shelf.SlicesG.Cells
import Derived.Sort.OwnSortedInts
import Derived.Lib.OwnBridge
set_option linter.unusedVariables false
set_option linter.unusedSimpArgs false
namespace Go.Proofs.Ytoglbdaagfoddaa
open Go.RowKit Go.Lib Go.Sort
abbrev encZ : Int → List Value := fun x => [Value.int .i64 x]
theorem encZ_map (l : List Int) : l.flatMap encZ = l.map (Value.int .i64) := fm_map l
/-- A row of numbers of the call's own is written by a callee that may lay blocks. -/
theorem own_turn {w0 : World} {M : Nat → Prop} {H : List (Nat × Nat × Obj)} {R : List (Nat × Row)} {φ : World → Prop} {W W1 : World} {g n c e : Nat} {xs : List Value} {n2 : Nat} {ys : List Value}
    (hS : (Sta.mk w0 M H ((1000, ⟨.slice (some ⟨g, 0, none⟩) n c, e, 1, n, xs⟩) :: R) φ).ok W) (hb : W.grownBy W1 (some g)) (ho : W1.ownsRow w0.heap.size e 1 (.slice (some ⟨g, 0, none⟩) n2 c) n2 ys) :
    (Sta.mk w0 M H ((1000, ⟨.slice (some ⟨g, 0, none⟩) n2 c, e, 1, n2, ys⟩) :: R) φ).ok W1 :=
  hS.updR (t := 1000) (o' := ⟨.slice (some ⟨g, 0, none⟩) n2 c, e, 1, n2, ys⟩) rfl (But.grown hb) ho (fun k hk => .inl hk)
theorem cn_sort {P : Program} {f e : Nat} {w0 : World} {M : Nat → Prop} {H : List (Nat × Nat × Obj)} {R : List (Nat × Row)} {φ : World → Prop}
    (hsome : ∀ (blk off cap : Nat) (zs : List Int) (w : World), Holds (Value.int .i64) w blk off zs.toArray → blk < w.heap.size → zs.length < 4611686018427387904 → Calls P f #[.slice (some ⟨blk, off, none⟩) zs.length cap] w fun e w' => e = .returned (.tuple #[]) ∧ ∃ n os, w' = grow (putRow (Value.int .i64) (Sort.ahead w n) blk off (zs.mergeSort fun x y => decide (x ≤ y)).toArray) os)
    (hnone : ∀ (p : Option Addr) (cap : Nat) (w : World), Calls P f #[.slice p 0 cap] w fun e w' => e = .returned (.tuple #[]) ∧ w' = w)
    {p0 : List Int} {A : Option Addr} {c : Nat} (hc : p0.length ≤ c) (hlen : p0.length < 4611686018427387904) :
    Cn P f #[.slice A p0.length c] ⟨w0, M, H, (1000, ⟨.slice A p0.length c, e, 1, p0.length, p0.flatMap encZ⟩) :: R, φ⟩ (fun x : Unit => .tuple #[]) (fun x => (p0.mergeSort fun x y => decide (x ≤ y)).length = p0.length) (fun x => ⟨w0, M, H, (1000, ⟨.slice A (p0.mergeSort fun x y => decide (x ≤ y)).length c, e, 1, (p0.mergeSort fun x y => decide (x ≤ y)).length, (p0.mergeSort fun x y => decide (x ≤ y)).flatMap encZ⟩) :: R, φ⟩) := by
  intro W hS
  have hl : (p0.mergeSort fun x y => decide (x ≤ y)).length = p0.length := List.length_mergeSort _
  have hrow := rowOf hS (tag := 1000) rfl
  dsimp only at hrow
  rcases hrow.2 with ⟨h1, h2⟩ | ⟨g, cap, cur, h1, hg, hh, h3, h4, h5, h6⟩
  · have : p0 = [] := List.eq_nil_of_length_eq_zero (by injection h1)
    subst this
    refine (hnone A c W).mono ?_
    rintro e1 w' ⟨rfl, rfl⟩
    exact ⟨(), rfl, hl, by simpa using hS⟩
  · injection h1 with hA hn hcap
    subst hA; subst hcap
    rw [encZ_map, Nat.mul_one] at h6
    refine (hsome g 0 c p0 W (holds_of_blockI hh h6) (blk_lt hh) hlen).mono ?_
    rintro e1 w' ⟨rfl, n, os, rfl⟩
    refine ⟨(), rfl, hl, ?_⟩
    rw [hl, encZ_map]
    exact own_turn hS (grownBy_sortedI _) (ownsRow_sortedI hl hg hh h3 h4 h5)
/-- A sort that the kernel can run. -/
def insZ (a : Int) : List Int → List Int
  | [] => [a]
  | b :: l => bif decide (a ≤ b) then a :: b :: l else b :: insZ a l
def sortZ : List Int → List Int
  | [] => []
  | a :: l => insZ a (sortZ l)
theorem insZ_perm (a : Int) (l : List Int) : (insZ a l).Perm (a :: l) := by
  induction l with
  | nil => exact .refl _
  | cons b l ih =>
    unfold insZ
    cases decide (a ≤ b) with
    | true => exact .refl _
    | false => exact (ih.cons b).trans (.swap a b l)
theorem insZ_sorted (a : Int) (l : List Int) (h : l.Pairwise (· ≤ ·)) : (insZ a l).Pairwise (· ≤ ·) := by
  induction l with
  | nil => simp [insZ]
  | cons b l ih =>
    unfold insZ
    cases hd : decide (a ≤ b) with
    | true =>
      have hab : a ≤ b := of_decide_eq_true hd
      refine List.pairwise_cons.2 ⟨fun c hc => ?_, h⟩
      rcases List.mem_cons.1 hc with rfl | hc
      · exact hab
      · exact Int.le_trans hab ((List.pairwise_cons.1 h).1 c hc)
    | false =>
      have hab : ¬ a ≤ b := of_decide_eq_false hd
      refine List.pairwise_cons.2 ⟨fun c hc => ?_, ih (List.pairwise_cons.1 h).2⟩
      rcases List.mem_cons.1 ((insZ_perm a l).mem_iff.1 hc) with rfl | hc
      · omega
      · exact (List.pairwise_cons.1 h).1 c hc
theorem sortZ_perm (l : List Int) : (sortZ l).Perm l := by
  induction l with
  | nil => exact .refl _
  | cons a l ih => exact (insZ_perm a _).trans (ih.cons a)
theorem sortZ_sorted (l : List Int) : (sortZ l).Pairwise (· ≤ ·) := by
  induction l with
  | nil => exact .nil
  | cons a l ih => exact insZ_sorted a _ ih
theorem sortZ_eq (l : List Int) : (l.mergeSort fun x y => decide (x ≤ y)) = sortZ l := by
  refine ((List.mergeSort_perm l _).trans (sortZ_perm l).symm).eq_of_pairwise (le := (· ≤ ·)) (fun a b _ _ h1 h2 => Int.le_antisymm h1 h2) ?_ (sortZ_sorted l)
  have := List.pairwise_mergeSort (le := fun x y : Int => decide (x ≤ y)) (fun a b c h1 h2 => by simp at *; omega) (fun a b => by simp; omega) l
  exact this.imp (fun h => of_decide_eq_true h)
theorem compact_le (l : List Int) : (Lib.compact l).length ≤ l.length := Lib.compact_length_le l
theorem cn_compact {P : Program} {f e : Nat} {w0 : World} {M : Nat → Prop} {H : List (Nat × Nat × Obj)} {R : List (Nat × Row)} {φ : World → Prop}
    (hsome : ∀ (blk off cap : Nat) (zs : List Int) (w : World), Holds (Value.int .i64) w blk off zs.toArray → zs.length ≤ 9223372036854775807 → zs.length ≤ cap → Calls P f #[.slice (some ⟨blk, off, none⟩) zs.length cap] w fun e w' => e = .returned (.slice (some ⟨blk, off, none⟩) (Lib.compact zs).length cap) ∧ ∃ q, w' = putRow (Value.int .i64) (Sort.ahead w q) blk off (Lib.compact zs ++ List.replicate (zs.length - (Lib.compact zs).length) 0).toArray)
    (hnone : ∀ (p : Option Addr) (cap : Nat) (w : World), Calls P f #[.slice p 0 cap] w fun e w' => e = .returned (.slice p 0 cap) ∧ w' = w)
    {p0 : List Int} {A : Option Addr} {c : Nat} (hc : p0.length ≤ c) :
    Cn P f #[.slice A p0.length c] ⟨w0, M, H, (1000, ⟨.slice A p0.length c, e, 1, p0.length, p0.flatMap encZ⟩) :: R, φ⟩ (fun x : Option Addr × Nat => .slice x.1 (Lib.compact p0).length x.2) (fun x => (Lib.compact p0).length ≤ x.2) (fun x => ⟨w0, M, H, (2000, ⟨.slice x.1 (Lib.compact p0).length x.2, e, 1, (Lib.compact p0).length, (Lib.compact p0).flatMap encZ⟩) :: R, φ⟩) := by
  intro W hS
  have hle := compact_le p0
  have hrow := rowOf hS (tag := 1000) rfl
  dsimp only at hrow
  rcases hrow.2 with ⟨h1, h2⟩ | ⟨g, cap, cur, h1, hg, hh, h3, h4, h5, h6⟩
  · have : p0 = [] := List.eq_nil_of_length_eq_zero (by injection h1)
    subst this
    refine (hnone A c W).mono ?_
    rintro e1 w' ⟨rfl, rfl⟩
    exact ⟨(A, c), rfl, Nat.zero_le _, ok_frontR (t := 1000) (t' := 2000) hS rfl⟩
  · injection h1 with hA hn hcap
    subst hA; subst hcap
    have h6' := h6
    rw [encZ_map, Nat.mul_one] at h6
    refine (hsome g 0 c p0 W (holds_of_blockI hh h6) (by unfold maxLen at h4; omega) hc).mono ?_
    rintro e1 w' ⟨rfl, q, rfl⟩
    refine ⟨(some ⟨g, 0, none⟩, c), rfl, Nat.le_trans hle hc, ?_⟩
    have hrow' : W.ownsRow w0.heap.size e 1 (.slice (some ⟨g, 0, none⟩) p0.length c) p0.length (p0.map (Value.int .i64)) := by rw [← encZ_map]; exact hrow
    have ho := Lib.ownsRow_putRow (q := q) (k := (Lib.compact p0).length) (ys := Lib.compact p0 ++ List.replicate (p0.length - (Lib.compact p0).length) 0) hrow' (by simp; omega) hle
    rw [List.take_left' rfl] at ho
    have hgr : W.grownBy (putRow (Value.int .i64) (Sort.ahead W q) g 0 (Lib.compact p0 ++ List.replicate (p0.length - (Lib.compact p0).length) 0).toArray) (some g) := by
      have := grownBy_sortedI (w := W) (g := g) (n := q) (os := #[]) (Lib.compact p0 ++ List.replicate (p0.length - (Lib.compact p0).length) 0).toArray
      rwa [grow_empty] at this
    rw [encZ_map]
    exact ok_frontR (t := 1000) (t' := 2000) (own_turn hS hgr ho) rfl
end Go.Proofs.Ytoglbdaagfoddaa
