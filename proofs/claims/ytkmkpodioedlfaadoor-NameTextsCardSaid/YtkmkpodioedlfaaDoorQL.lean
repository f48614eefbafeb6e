/- Plain words on models: loops unfolded, numbers that don't wrap (own work). -/
import Derived.Test.YtkmkpodioedlfaaDoorSX
set_option linter.unusedVariables false
set_option linter.unusedSimpArgs false
namespace Go.Proofs.YtkmkpodioedlfaaDoor
open Go.RowKit
section
variable {σ ρ : Type} {step : σ → Option (σ ⊕ ρ)}
/-- Rounds numbered by what is left of a number. -/
theorem loop_to (n : Nat) (S : Nat → σ) (f : ρ) (h : ∀ k, k < n → step (S k) = some (.inl (S (k + 1))) ∨ step (S k) = some (.inr f)) (hn : step (S n) = some (.inr f)) : ∀ d k, k + d = n → loop step (S k) = some f
  | 0, k, hk => by subst hk; exact loop_inr hn
  | d + 1, k, hk => by
    rcases h k (by omega) with h1 | h1
    · rw [loop_inl h1]; exact loop_to n S f h hn d (k + 1) (by omega)
    · exact loop_inr h1
/-- From round 0 to round n, which is the last one. -/
theorem loop_run (n : Nat) (S : Nat → σ) (f : ρ) {s0 : σ} (h0 : s0 = S 0) (h : ∀ k, k < n → step (S k) = some (.inl (S (k + 1)))) (hn : step (S n) = some (.inr f)) : loop step s0 = some f := by
  subst h0
  exact loop_to n S f (fun k hk => .inl (h k hk)) hn n 0 (by omega)
end
theorem w64_id {x : Int} (h1 : -9223372036854775808 ≤ x) (h2 : x ≤ 9223372036854775807) : w64 x = x := IntWalk.i64_in x ⟨h1, h2⟩
theorem wrapu8 {x : Int} (h1 : 0 ≤ x) (h2 : x ≤ 255) : IntKind.u8.wrap x = x := by
  simp only [IntKind.wrap, IntKind.bits, IntKind.signed]; simp; omega
theorem byteAt_lt (s : ByteArray) (i : Int) : 0 ≤ byteAt s i ∧ byteAt s i ≤ 255 := by
  unfold byteAt
  split
  · have := UInt8.toNat_lt s[i.toNat]; omega
  · omega
theorem bytesI_get (s : ByteArray) (k : Nat) (h : k < s.size) : (bytesI s)[k]'(by rw [bytesI_length]; exact h) = byteAt s k := by
  simp only [bytesI, List.getElem_map, Array.getElem_toList]
  unfold byteAt
  rw [dif_pos (show ((k : Int)).toNat < s.size from h)]
  rfl
theorem sat_eq_at (s : ByteArray) (i : Int) : sat_ s i = at_ (bytesI s) i := by
  unfold sat_ at_
  by_cases h0 : 0 ≤ i
  · rw [if_pos h0]
    by_cases h1 : i < s.size
    · rw [if_pos ⟨h0, h1⟩, List.getElem?_eq_getElem (by rw [bytesI_length]; omega), bytesI_get s i.toNat (by omega)]
      congr 2; omega
    · rw [if_neg (by omega), List.getElem?_eq_none (by rw [bytesI_length]; omega)]
  · rw [if_neg (by omega), if_neg h0]
theorem bytesI_range (s : ByteArray) : ∀ x ∈ bytesI s, 0 ≤ x ∧ x ≤ 255 := by
  intro x hx
  obtain ⟨b, _, rfl⟩ := List.mem_map.1 hx
  have := UInt8.toNat_lt b
  omega
theorem bytesI_inj {s t : ByteArray} (h : bytesI s = bytesI t) : s = t := by
  cases s with | mk s => cases t with | mk t =>
  simp only [bytesI] at h
  have : s.toList = t.toList := by
    have hi : ∀ (a b : List UInt8), a.map (fun b => (b.toNat : Int)) = b.map (fun b => (b.toNat : Int)) → a = b := by
      intro a
      induction a with
      | nil => intro b h; cases b with | nil => rfl | cons _ _ => cases h
      | cons x a ih =>
        intro b h
        cases b with
        | nil => cases h
        | cons y b =>
          simp only [List.map_cons, List.cons.injEq] at h
          rw [ih b h.2, UInt8.toNat_inj.1 (by omega : x.toNat = y.toNat)]
    exact hi _ _ h
  rw [Array.toList_inj.1 this]
theorem bytesI_str {l : List Int} (h : ∀ x ∈ l, 0 ≤ x ∧ x ≤ 255) : bytesI (strOfNums l) = l := by
  simp only [bytesI, strOfNums, List.map_map]
  induction l with
  | nil => rfl
  | cons x l ih =>
    have hx := h x List.mem_cons_self
    simp only [List.map_cons]
    rw [ih (fun y hy => h y (List.mem_cons_of_mem _ hy))]
    congr 1
    simp only [Function.comp]
    rw [UInt8.toNat_ofNat']
    omega
theorem size_bytes (s : ByteArray) : s.size = (bytesI s).length := (bytesI_length s).symm
theorem bytesI_append (s t : ByteArray) : bytesI (s ++ t) = bytesI s ++ bytesI t := by
  simp [bytesI, ByteArray.data_append]
theorem bytesI_extract (s : ByteArray) (i j : Nat) : bytesI (s.extract i j) = ((bytesI s).take j).drop i := by
  simp [bytesI, ByteArray.data_extract, List.map_take, List.map_drop, List.drop_take]
end Go.Proofs.YtkmkpodioedlfaaDoor
