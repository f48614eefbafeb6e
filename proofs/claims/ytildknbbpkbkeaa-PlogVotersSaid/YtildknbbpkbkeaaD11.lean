/-
  Logs and entries, as lists (own work).
-/
import Derived.Test.YtildknbbpkbkeaaSP
set_option linter.unusedVariables false
set_option linter.unusedSimpArgs false
namespace Go.Proofs.Ytildknbbpkbkeaa
open Go.RowKit

structure Ent where
  term : Int
  kind : Int
  data : ByteArray
def Ent.enc (e : Ent) : List Value := [.int .i64 e.term, .int .i64 e.kind, .string e.data]
def Ent.zero : Ent := ⟨0, 0, ⟨#[]⟩⟩
def ents (l : List Ent) : List Value := l.flatMap Ent.enc
theorem ents_length (l : List Ent) : (ents l).length = l.length * 3 := by
  induction l with
  | nil => rfl
  | cons e l ih => simp only [ents, List.flatMap_cons, List.length_append, List.length_cons] at ih ⊢; rw [ih]; simp [Ent.enc]; omega
theorem ents_append (l m : List Ent) : ents (l ++ m) = ents l ++ ents m := by simp [ents]
theorem ents_one (l : List Ent) : ∀ u ∈ ents l, u.oneCell' = true := by
  intro u hu
  simp only [ents, List.mem_flatMap, Ent.enc, List.mem_cons, List.not_mem_nil, or_false] at hu
  obtain ⟨e, _, rfl | rfl | rfl⟩ := hu <;> rfl
theorem ents_drop (l : List Ent) (i : Nat) : (ents l).drop (i * 3) = ents (l.drop i) := by
  induction l generalizing i with
  | nil => simp [ents]
  | cons e l ih =>
    cases i with
    | zero => simp
    | succ i =>
      have := ih i
      simp only [ents, List.flatMap_cons] at this ⊢
      rw [Nat.succ_mul, List.drop_append, List.drop_eq_nil_of_le (by simp [Ent.enc])]
      simpa [Ent.enc] using this
theorem ents_take (l : List Ent) (i : Nat) : (ents l).take (i * 3) = ents (l.take i) := by
  induction l generalizing i with
  | nil => simp [ents]
  | cons e l ih =>
    cases i with
    | zero => simp [ents]
    | succ i =>
      have := ih i
      simp only [ents, List.flatMap_cons, List.take_succ_cons] at this ⊢
      rw [Nat.succ_mul, List.take_append, List.take_of_length_le (by simp [Ent.enc])]
      simpa [Ent.enc] using this
/-- An element's cells. -/
theorem ents_at {W : World} {A : Option Addr} {ad : Addr} {l : List Ent} (h : Cl W A (ents l)) (hA : A = some ad) (i : Nat) (hi : i < l.length) : Cl W (some (ad.add (i * 3))) (l[i].enc) := by
  subst hA
  have h1 := h.drop (i * 3)
  rw [ents_drop, List.drop_eq_getElem_cons hi] at h1
  exact h1.pre
theorem info35 : (Try.prog.info? 35).map (fun i => (i.zero, i.size, i.bytes)) = some (some (.agg #[(.int .i64 0), (.int .i64 0), (.string ⟨#[]⟩)]), 3, 32) := by kernel_rfl
theorem build35 : ∀ W, (Instr.build 35 #[]).run Try.prog W = .ok (.agg #[(.int .i64 0), (.int .i64 0), (.string ⟨#[]⟩)]) W := fun _ => by kernel_rfl
end Go.Proofs.Ytildknbbpkbkeaa
