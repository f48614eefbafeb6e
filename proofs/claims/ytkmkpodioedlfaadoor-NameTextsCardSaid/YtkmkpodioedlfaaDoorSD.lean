/-
  No operation takes a draw back (own work).
-/
import Derived.Test.YtkmkpodioedlfaaDoorProg
import Derived.WalkKit
set_option linter.unusedVariables false
set_option linter.unusedSimpArgs false
namespace Go.Proofs.YtkmkpodioedlfaaDoor
theorem ask_dr {α : Type} : ∀ (a : Ask α) (w : World), w.drawn ≤ (w.ask a).2.drawn
  | .done a, w => Nat.le_refl _
  | .ask what range k, w => by
    unfold World.ask
    simp only
    split
    · exact ask_dr _ w
    · have h2 := ask_dr (k ((Question.extern what range).cut (w.tape w.drawn (Question.extern what range)))) { w with drawn := w.drawn + 1 }
      exact Nat.le_trans (Nat.le_succ _) h2
theorem sys_dr (w : World) (c : Sys) : w.drawn ≤ (w.sys c).2.drawn := by
  have h := ask_dr (Kernel.perform c w.os) w
  unfold World.sys
  split
  · exact Nat.le_refl _
  · rename_i heq
    rw [heq] at h
    exact h
theorem view_dr {p : Program} {w : World} {at_ : Addr} {u : TypeId} {k : Addr} {v : Value} {b : Bool} {r : World × List Addr} (h : w.viewStore p at_ u k v b = .ok r) : r.1.drawn = w.drawn := by
  unfold World.viewStore at h
  simp only [bind, Except.bind, pure, Except.pure, throw, throwThe, MonadExceptOf.throw] at h
  repeat' split at h
  all_goals first | (cases h; done) | (cases h; rfl)
theorem far_dr {p : Program} {w : World} {a : Addr} {v : Value} {b : Bool} {r : World × List Addr} (h : w.farStore p a v b = .ok r) : r.1.drawn = w.drawn := by
  unfold World.farStore at h
  split at h
  · split at h
    · rename_i hv
      injection h with h
      subst h
      exact view_dr hv
    · cases h
  · cases h
theorem run_dr {α : Type} {P : Program} (s : Sem α) : ∀ {w w' : World} {a : α}, s.run P w = .ok a w' → w.drawn ≤ w'.drawn := by
  induction s with
  | pure a => intro w w' a h; unfold Sem.run at h; injection h with _ h; rw [← h]; exact Nat.le_refl _
  | load m a k ih =>
    intro w w' x h
    unfold Sem.run at h
    split at h
    · exact ih _ h
    · split at h
      · exact ih _ h
      · cases h
  | store m a v k ih =>
    intro w w' x h
    cases v <;> unfold Sem.run at h <;> first
      | (cases h; done)
      | (split at h
         · split at h
           · cases h
           · have h2 := ih h; exact h2
         · split at h
           · rename_i hf
             have h2 := ih h
             have h3 := far_dr hf
             simp only at h3
             rw [h3] at h2
             exact h2
           · cases h)
  | new o k ih => intro w w' x h; unfold Sem.run at h; have h2 := ih _ h; exact h2
  | shape r k ih => intro w w' x h; unfold Sem.run at h; exact ih _ h
  | freeze a n k ih =>
    intro w w' x h
    unfold Sem.run at h
    have := ih h
    unfold World.freeze at this
    split at this <;> exact this
  | frozen a k ih => intro w w' x h; unfold Sem.run at h; exact ih _ h
  | getObj r k ih =>
    intro w w' x h
    unfold Sem.run at h
    split at h
    · cases h
    · exact ih _ h
    · cases h
  | setObj r o k ih =>
    intro w w' x h
    unfold Sem.run at h
    split at h
    · cases h
    · have h2 := ih h; exact h2
    · cases h
  | choose q k ih =>
    intro w w' x h
    unfold Sem.run at h
    split at h
    · exact ih _ h
    · have h2 := ih _ h; exact Nat.le_trans (Nat.le_succ _) h2
  | sys c k ih => intro w w' x h; unfold Sem.run at h; have h2 := ih _ h; exact Nat.le_trans (sys_dr w c) h2
  | program k ih => intro w w' x h; unfold Sem.run at h; exact ih _ h
  | mark m k ih => intro w w' x h; unfold Sem.run at h; exact ih h
  | halt h => intro w w' x h; unfold Sem.run at h; cases h
end Go.Proofs.YtkmkpodioedlfaaDoor
