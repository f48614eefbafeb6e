/-
  The library's strconv.Itoa in the calculus, out of the shelf's own contract; the table that it reads (own work).
-/
import Derived.Test.YtkmkpodioedlfaaDoorSM
import Derived.Shelf.Strconv.Itoa3
import Derived.BarOnce
set_option linter.unusedVariables false
set_option linter.unusedSimpArgs false
namespace Go.Proofs.YtkmkpodioedlfaaDoor
open Go.RowKit Go.Lib Go.Sort
/-- The library's table of powers of ten stands there. -/
def TabP (P : Program) (w : World) : Prop := Lib.TabIs P w "internal/strconv.uint64pow10" .u64 Lib.pow10Tab
theorem tab_below {P : Program} {W W1 : World} (h : TabP P W) (hb : Below W.heap.size W W1) : TabP P W1 := by
  refine World.var?_append (bs := W1.heap.extract W.heap.size W1.heap.size) ?_ h
  have hs := hb.size
  apply Array.ext_getElem?
  intro i
  by_cases hi : i < W.heap.size
  · rw [hb.block i hi, Array.getElem?_append_left hi]
  · rw [Array.getElem?_append_right (by omega), Array.getElem?_extract]
    by_cases h2 : i < W1.heap.size
    · rw [if_pos (by omega)]; congr 1; omega
    · rw [if_neg (by omega), Array.getElem?_eq_none (by omega)]
theorem below_grown (W : World) (q : Nat) (os : Array Obj) : Below W.heap.size W (grow (W.drewN q) os) :=
  .of rfl rfl rfl (by simp [grow, World.drewN]) (fun k hk => by simp [grow, World.drewN, Array.getElem?_append_left hk]) (by simp [grow, World.drewN])
/-- A number's numeral. -/
def itoaM (n : Int) : Option ByteArray := if -9223372036854775808 ≤ n ∧ n ≤ 9223372036854775807 then some ⟨(Lib.itoa n).toArray⟩ else none
theorem cn_itoa {P : Program} {ρ : Go.Shelf.Ren} (L : LaysM.n171 P ρ) {f : Nat} (hf : ρ.f 171 = f) {w0 : World} {M : Nat → Prop} {H : List (Nat × Nat × Obj)} {R : List (Nat × Row)} {φ : World → Prop} (hT : TabP P w0) {n : Int} {r : ByteArray} (hm : itoaM n = some r) :
    Cn P f #[.int .i64 n] ⟨w0, M, H, R, φ⟩ (fun _ : Unit => .string r) (fun _ => True) (fun _ => ⟨w0, M, H, R, φ⟩) := by
  intro W hS
  subst hf
  unfold itoaM at hm
  split at hm
  · rename_i hn
    injection hm with hm
    subst hm
    refine (Any.strconv_Itoa L n hn.1 hn.2 W (tab_below hT hS.below)).mono ?_
    rintro e1 w' ⟨rfl, q, os, rfl⟩
    exact ⟨(), rfl, trivial, hS.go_on (below_grown W q os)⟩
  · cases hm
end Go.Proofs.YtkmkpodioedlfaaDoor
