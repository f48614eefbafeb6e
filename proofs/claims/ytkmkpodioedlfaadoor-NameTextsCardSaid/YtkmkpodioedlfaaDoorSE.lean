/-
  Rows whose elements hold slices: the elements in one list, the places of their slices in another one (own work).
-/
import Derived.Test.YtkmkpodioedlfaaDoorSM
set_option linter.unusedVariables false
set_option linter.unusedSimpArgs false
namespace Go.Proofs.YtkmkpodioedlfaaDoor
open Go.RowKit Go.Lib Go.Proofs.YtkmkpodioedlfaaDoorW.PrintLast
/-- As many places as elements; each element's slices fit. -/
def DOk {α β : Type} (cap : α × β → Prop) (l : List α) (ps : List β) : Prop := ps.length = l.length ∧ ∀ z ∈ l.zip ps, cap z
/-- What each element's slices hold is where its places say. -/
def DOwn {α β : Type} (own : World → α × β → Prop) (l : List α) (ps : List β) (W : World) : Prop := ∀ z ∈ l.zip ps, own W z
section
variable {α β : Type} {cap : α × β → Prop} {own : World → α × β → Prop} {l l1 l2 r : List α} {ps ps1 : List β} {x : α} {p : β} {W : World} {b : Nat} {i j : Int}
theorem DOk.len (h : DOk cap l ps) : (l.zip ps).length = l.length := by rw [List.length_zip, h.1, Nat.min_self]
theorem DOk.nil : DOk cap [] ([] : List β) := ⟨rfl, fun z hz => by cases hz⟩
theorem DOwn.nil : DOwn own [] ([] : List β) W := fun z hz => by cases hz
theorem DOk.cons (hx : cap (x, p)) (h : DOk cap l ps) : DOk cap (x :: l) (p :: ps) := ⟨by simp [h.1], fun z hz => by
  rcases List.mem_cons.1 hz with rfl | hz
  · exact hx
  · exact h.2 z hz⟩
theorem DOwn.cons (hx : own W (x, p)) (h : DOwn own l ps W) : DOwn own (x :: l) (p :: ps) W := fun z hz => by
  rcases List.mem_cons.1 hz with rfl | hz
  · exact hx
  · exact h z hz
theorem DOk.zapp (h : DOk cap l ps) : (l ++ l1).zip (ps ++ ps1) = l.zip ps ++ l1.zip ps1 := List.zip_append h.1.symm
theorem DOk.app (h : DOk cap l ps) (h1 : DOk cap l1 ps1) (ha : app b l l1 = some l2) : DOk cap l2 (ps ++ ps1) := by
  obtain ⟨_, rfl⟩ := app_some ha
  refine ⟨by rw [List.length_append, List.length_append, h.1, h1.1], fun z hz => ?_⟩
  rw [h.zapp] at hz
  rcases List.mem_append.1 hz with hz | hz
  · exact h.2 z hz
  · exact h1.2 z hz
theorem DOwn.app (h : DOk cap l ps) (ha : app b l l1 = some l2) (o : DOwn own l ps W) (o1 : DOwn own l1 ps1 W) : DOwn own l2 (ps ++ ps1) W := by
  obtain ⟨_, rfl⟩ := app_some ha
  intro z hz
  rw [h.zapp] at hz
  rcases List.mem_append.1 hz with hz | hz
  · exact o z hz
  · exact o1 z hz
theorem zip_take' (l : List α) (ps : List β) (n : Nat) : (l.take n).zip (ps.take n) = (l.zip ps).take n := List.take_zipWith.symm
theorem zip_drop' (l : List α) (ps : List β) (n : Nat) : (l.drop n).zip (ps.drop n) = (l.zip ps).drop n := List.drop_zipWith.symm
theorem DOk.hi (h : DOk cap l ps) (hc : cutHi l j = some r) : DOk cap r (ps.take j.toNat) := by
  obtain ⟨_, _, rfl⟩ := cutHi_some hc
  refine ⟨by rw [List.length_take, List.length_take, h.1], fun z hz => ?_⟩
  rw [zip_take'] at hz
  exact h.2 z (List.mem_of_mem_take hz)
theorem DOwn.hi (hc : cutHi l j = some r) (o : DOwn own l ps W) : DOwn own r (ps.take j.toNat) W := by
  obtain ⟨_, _, rfl⟩ := cutHi_some hc
  intro z hz
  rw [zip_take'] at hz
  exact o z (List.mem_of_mem_take hz)
theorem DOk.lo (h : DOk cap l ps) (hc : cutLo l j = some r) : DOk cap r (ps.drop j.toNat) := by
  obtain ⟨_, _, rfl⟩ := cutLo_some hc
  refine ⟨by rw [List.length_drop, List.length_drop, h.1], fun z hz => ?_⟩
  rw [zip_drop'] at hz
  exact h.2 z (List.mem_of_mem_drop hz)
theorem DOwn.lo (hc : cutLo l j = some r) (o : DOwn own l ps W) : DOwn own r (ps.drop j.toNat) W := by
  obtain ⟨_, _, rfl⟩ := cutLo_some hc
  intro z hz
  rw [zip_drop'] at hz
  exact o z (List.mem_of_mem_drop hz)
theorem zip_set' (l : List α) (ps : List β) (n : Nat) (x : α) (p : β) : (l.set n x).zip (ps.set n p) = (l.zip ps).set n (x, p) := by
  induction l generalizing ps n with
  | nil => simp
  | cons a l ih =>
    cases ps with
    | nil => simp
    | cons q ps => cases n with
      | zero => simp
      | succ n => simp [ih]
theorem DOk.set (h : DOk cap l ps) (hs : setAt l i x = some r) (hx : cap (x, p)) : DOk cap r (ps.set i.toNat p) := by
  obtain ⟨_, _, rfl⟩ := setAt_some hs
  refine ⟨by rw [List.length_set, List.length_set, h.1], fun z hz => ?_⟩
  rw [zip_set'] at hz
  rcases List.mem_or_eq_of_mem_set hz with hz | rfl
  · exact h.2 z hz
  · exact hx
theorem DOwn.set (hs : setAt l i x = some r) (o : DOwn own l ps W) (hx : own W (x, p)) : DOwn own r (ps.set i.toNat p) W := by
  obtain ⟨_, _, rfl⟩ := setAt_some hs
  intro z hz
  rw [zip_set'] at hz
  rcases List.mem_or_eq_of_mem_set hz with hz | rfl
  · exact o z hz
  · exact hx
theorem DOk.at_ (h : DOk cap l ps) (hat : Go.Proofs.YtkmkpodioedlfaaDoor.at_ l i = some x) : ∃ p, Go.Proofs.YtkmkpodioedlfaaDoor.at_ (l.zip ps) i = some (x, p) ∧ (x, p) ∈ l.zip ps ∧ cap (x, p) := by
  obtain ⟨h0, h1, h2⟩ := at_some hat
  have hi : i.toNat < ps.length := by rw [h.1]; omega
  have hz : (l.zip ps)[i.toNat]? = some (x, ps[i.toNat]) := by rw [List.getElem?_zip_eq_some]; exact ⟨h2, List.getElem?_eq_getElem hi⟩
  exact ⟨ps[i.toNat], by unfold Go.Proofs.YtkmkpodioedlfaaDoor.at_; rw [if_pos h0]; exact hz, List.mem_of_getElem? hz, h.2 _ (List.mem_of_getElem? hz)⟩
end
section
variable {α β : Type} {cap : α × β → Prop} {enc : α × β → List Value} {sz : Nat} {l r : List α} {ps : List β} {W : World} {A : Option Addr} {j : Int}
end
section
variable {P : Program} {σ : Fr} {ty t t' u : TypeId} {x y : Operand} {w0 : World} {M : Nat → Prop} {H : List (Nat × Nat × Obj)} {R : List (Nat × Row)} {φ : World → Prop} {α β : Type} {cap : α × β → Prop} {enc : α × β → List Value} {l l1 l2 : List α} {ps ps1 : List β} {tag bytes c1 cc sz : Nat} {A A1 : Option Addr} {z : Value} {e : TypeId}
variable {pos : String} {af : Array Edge}
end
section
variable {P : Program} {ops : Array Oper} {Q : Exit → Act → World → Prop} {N : FS} {σ : Fr} {Sh : Sta} {ds : List Nat} {fuel : Nat} {w0 : World} {M : Nat → Prop} {H : List (Nat × Nat × Obj)} {R : List (Nat × Row)} {φ : World → Prop} {tag g off : Nat} {cl : List Value} {t0 t : TypeId} {x y : Operand} {v : Value} {vs : List Value} {ty : TypeId} {pos : String} {af : Array Edge}
end
section
variable {P : Program} {ops : Array Oper} {Q : Exit → Act → World → Prop} {N : FS} {rest : List Oper} {σ : Fr} {S : Sta}
end
theorem setAt_at {α : Type} {l r : List α} {i : Int} {v : α} (h : setAt l i v = some r) : at_ r i = some v := by
  obtain ⟨h0, h1, rfl⟩ := setAt_some h
  unfold at_
  rw [if_pos h0, List.getElem?_set_self (by omega)]
theorem cl_at2 {α : Type} {enc : α → List Value} {sz : Nat} {p : World → Prop} {A : Option Addr} {l : List α} (hsz : ∀ a, (enc a).length = sz) {ad : Addr} (hA : A = some ad) (h : ∀ W, p W → Cl W A (l.flatMap enc)) {i : Int} {v : α} (hat : at_ l i = some v) : ∀ W, p W → Cl W (some (ad.add (i.toNat * sz))) (enc v) := fun W hW => by
  subst hA
  obtain ⟨h0, h1, h2⟩ := at_some hat
  obtain ⟨hi, hv⟩ := List.getElem?_eq_some_iff.1 h2
  have h3 := (h W hW).drop (i.toNat * sz)
  rw [fm_drop hsz, List.drop_eq_getElem_cons hi, List.flatMap_cons, hv] at h3
  exact h3.pre
end Go.Proofs.YtkmkpodioedlfaaDoor
