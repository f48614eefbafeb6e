/-
  A small calculus for walks (own work): frames as functions, the call's own blocks in a list by tags, all else that is known of memory in one fact.
-/
import Derived.Test.YtkmkpodioedlfaaDoorSD
import Derived.WalkKit
import Derived.WalkSpells
import Derived.WalkLawsBesides
import Derived.Below
import Derived.ArgAppend
import Derived.Deep.Upon
import Derived.Deep.MidRow
import Derived.Laws.Tables
import Derived.Laws.AppendOwn
set_option linter.unusedVariables false
set_option linter.unusedSimpArgs false
namespace Go.Proofs.YtkmkpodioedlfaaDoor
open Go.RowKit
/-! ### Worlds -/
/-- Below block B the world is as it was; no draw is taken back. -/
structure Below (B : Nat) (w w1 : World) : Prop where
  rk : Go.RowKit.Below B w w1
  dr : w.drawn ≤ w1.drawn
namespace Below
variable {B B' : Nat} {w w1 w2 : World}
theorem os (h : Below B w w1) : w1.os = w.os := h.rk.os
theorem tape (h : Below B w w1) : w1.tape = w.tape := h.rk.tape
theorem output (h : Below B w w1) : w1.output = w.output := h.rk.output
theorem size (h : Below B w w1) : w.heap.size ≤ w1.heap.size := h.rk.size
theorem block (h : Below B w w1) : ∀ k, k < B → w1.heap[k]? = w.heap[k]? := h.rk.block
theorem of (os : w1.os = w.os) (tape : w1.tape = w.tape) (output : w1.output = w.output) (size : w.heap.size ≤ w1.heap.size) (block : ∀ k, k < B → w1.heap[k]? = w.heap[k]?) (dr : w.drawn ≤ w1.drawn) : Below B w w1 := ⟨⟨os, tape, output, size, block⟩, dr⟩
theorem refl (B : Nat) (w : World) : Below B w w := ⟨Go.RowKit.Below.refl B w, Nat.le_refl _⟩
theorem trans (h : Below B w w1) (k : Below B w1 w2) : Below B w w2 := ⟨h.rk.trans k.rk, Nat.le_trans h.dr k.dr⟩
theorem mono (h : Below B w w1) (hB : B' ≤ B) : Below B' w w1 := ⟨h.rk.mono hB, h.dr⟩
theorem alloc (h : Below B w w1) (hB : B ≤ w1.heap.size) (o : Obj) : Below B w (w1.alloc o) := ⟨h.rk.alloc hB o, h.dr⟩
theorem heap_setCell (w : World) (a : Addr) (u : Value) (k : Nat) (h : k ≠ a.block) : (w.setCell a u).heap[k]? = w.heap[k]? := Go.RowKit.Below.heap_setCell w a u k h
end Below
theorem below_al (w : World) (o : Obj) : Below w.heap.size w (w.alloc o) := (Below.refl _ _).alloc (Nat.le_refl _) o
theorem below_then {B : Nat} {w w1 w2 : World} (h : Below B w w1) (hB : B ≤ w1.heap.size) (k : Below w1.heap.size w1 w2) : Below B w w2 := h.trans (k.mono hB)
/-- What holds in w and in every world that has w's blocks, but for those of M (which may be written). -/
structure Fact (w : World) (M : Nat → Prop) (φ : World → Prop) : Prop where
  old : ∀ k, M k → k < w.heap.size
  all : ∀ W', (∀ k, k < w.heap.size → ¬ M k → W'.heap[k]? = w.heap[k]?) → φ W'
section
variable {w w1 w2 : World} {M M1 M2 : Nat → Prop} {φ ψ : World → Prop}
theorem Fact.now (h : Fact w M φ) : φ w := h.all w fun _ _ _ => rfl
theorem Fact.imp (h : Fact w M φ) (hi : ∀ W, φ W → ψ W) : Fact w M ψ := ⟨h.old, fun W' hW => hi _ (h.all W' hW)⟩
theorem Fact.below (h : Fact w M φ) (hb : Below w.heap.size w w1) : Fact w1 M φ :=
  ⟨fun k hk => Nat.lt_of_lt_of_le (h.old k hk) hb.size, fun W' hW => h.all W' fun k hk hM => (hW k (Nat.lt_of_lt_of_le hk hb.size) hM).trans (hb.block k hk)⟩
end
/-! ### Cells one behind the other -/
def Cl (W : World) (A : Option Addr) (cs : List Value) : Prop := ∀ j u, cs[j]? = some u → ∃ ad, A = some ad ∧ W.cell? (ad.add j) = some u
theorem Cl.nil (W : World) (A : Option Addr) : Cl W A [] := fun j u h => by simp at h
theorem Cl.pre {W : World} {A : Option Addr} {cs ds : List Value} (h : Cl W A (cs ++ ds)) : Cl W A cs := fun j u hj => h j u (by rw [List.getElem?_append_left (List.getElem?_eq_some_iff.1 hj).1]; exact hj)
theorem Cl.take {W : World} {A : Option Addr} {cs : List Value} (h : Cl W A cs) (k : Nat) : Cl W A (cs.take k) := by
  rw [← List.take_append_drop k cs] at h
  exact h.pre
theorem Cl.cells {W : World} {ad : Addr} {cs : List Value} (h : Cl W (some ad) cs) : ∀ j u, cs[j]? = some u → W.cell? (ad.add j) = some u := fun j u hj => by
  obtain ⟨ad', e, hc⟩ := h j u hj
  injection e with e
  subst e
  exact hc
theorem Cl.is_some {W : World} {A : Option Addr} {cs : List Value} (h : Cl W A cs) (hp : 0 < cs.length) : ∃ ad, A = .some ad := by
  obtain ⟨ad, e, _⟩ := h 0 cs[0] (List.getElem?_eq_getElem hp)
  exact ⟨ad, e⟩
theorem add_add (ad : Addr) (i j : Nat) : (ad.add i).add j = ad.add (i + j) := by
  unfold Addr.add
  by_cases h1 : i = 0 <;> by_cases h2 : j = 0 <;> simp [h1, h2, Nat.add_assoc]
theorem Cl.drop {W : World} {ad : Addr} {cs : List Value} (h : Cl W (some ad) cs) (k : Nat) : Cl W (some (ad.add k)) (cs.drop k) := fun j u hj => by
  rw [List.getElem?_drop] at hj
  exact ⟨_, rfl, by rw [add_add]; exact h.cells _ _ hj⟩
theorem own_shape {w : World} {base e sz n : Nat} {v : Value} {xs : List Value} (h : w.ownsRow base e sz v n xs) : ∃ A c, v = .slice A n c ∧ n ≤ c := by
  rcases h.2 with ⟨rfl, rfl⟩ | ⟨g, cap, cur, rfl, _, _, h1, _⟩
  · exact ⟨none, 0, rfl, Nat.le_refl _⟩
  · exact ⟨_, cap, rfl, h1⟩
theorem add_g (g j : Nat) : (⟨g, 0, none⟩ : Addr).add j = ⟨g, j, none⟩ := by unfold Addr.add; split <;> simp_all
/-- An own row's cells, in every world that has its block. -/
theorem own_cl {w W' : World} {base e sz n c : Nat} {A : Option Addr} {xs : List Value} (h : w.ownsRow base e sz (.slice A n c) n xs) (hW : ∀ k, (Value.slice A n c).ownBlock = some k → W'.heap[k]? = w.heap[k]?) : Cl W' A xs := by
  intro j u hj
  rcases h.2 with ⟨h1, h2⟩ | ⟨g, cap, cur, hv, hg, hh, h1, h2, h3, h4⟩
  · have := h.1
    subst h2
    have hx : xs = [] := List.eq_nil_of_length_eq_zero (by simpa using this)
    subst hx
    simp at hj
  · injection hv with hA hn hc
    subst hA
    refine ⟨_, rfl, ?_⟩
    have hc := h.cells (g := g) rfl j u hj
    rw [add_g] at hc ⊢
    exact (World.cell?_of_block (a := ⟨g, j, none⟩) (hW g rfl)).trans hc
theorem own_lt {w : World} {base : Nat} {e : TypeId} {size n : Nat} {v : Value} {xs : List Value} (h : w.ownsRow base e size v n xs) (k : Nat) (hk : v.ownBlock = some k) : base ≤ k ∧ k < w.heap.size := by
  rcases h.2 with ⟨rfl, _⟩ | ⟨g, cap, cur, rfl, hb, hh, _⟩
  · simp [Value.ownBlock] at hk
  · have : g = k := by simpa [Value.ownBlock] using hk
    subst this
    exact ⟨hb, (Array.getElem?_eq_some_iff.1 hh).1⟩
/-- A map's entries, of its keys and values in a row. -/
def mapEnts : List Value → Nat → List MapEntry
  | k :: v :: r, i => ⟨k, v, i⟩ :: mapEnts r (i + 1)
  | _, _ => []
/-- The block of a slice or of a map. -/
def vblk : Value → Option Nat
  | .map o => o
  | v => v.ownBlock
/-- A row of the call's own: a slice's, or a map's. -/
def World.held (w : World) (base : Nat) (e : TypeId) (sz : Nat) (v : Value) (n : Nat) (xs : List Value) : Prop :=
  match v with
  | .map o => (o = none ∧ xs = []) ∨ ∃ g, o = some g ∧ base ≤ g ∧ w.heap[g]? = some (.map (mapEnts xs 0).toArray n)
  | v => w.ownsRow base e sz v n xs
/-! ### States -/
structure Row where
  v : Value
  e : Nat
  sz : Nat
  n : Nat
  xs : List Value
/-- w0: the world at the call's begin; M: what the caller may write later; H: the call's own blocks, by tags: block and what it holds; R: rows that are appended to, by tags; φ: all else that is known. -/
structure Sta where
  w0 : World
  M : Nat → Prop
  H : List (Nat × Nat × Obj)
  R : List (Nat × Row)
  φ : World → Prop
def Sta.mut (S : Sta) (k : Nat) : Prop := S.M k ∨ (∃ p ∈ S.H, p.2.1 = k) ∨ (∃ r ∈ S.R, (vblk r.2.v) = some k)
structure Sta.ok (S : Sta) (W : World) : Prop where
  below : Below S.w0.heap.size S.w0 W
  old : ∀ k, S.M k → k < S.w0.heap.size
  has : ∀ p ∈ S.H, S.w0.heap.size ≤ p.2.1 ∧ W.heap[p.2.1]? = some p.2.2
  apartH : S.H.Pairwise fun p q => p.2.1 ≠ q.2.1
  rows : ∀ r ∈ S.R, World.held W S.w0.heap.size r.2.e r.2.sz r.2.v r.2.n r.2.xs
  apartR : S.R.Pairwise fun r q => ∀ k, (vblk r.2.v) = some k → (vblk q.2.v) ≠ some k
  apart : ∀ r ∈ S.R, ∀ p ∈ S.H, (vblk r.2.v) ≠ some p.2.1
  fact : ∀ W', (∀ k, k < W.heap.size → ¬ S.mut k → W'.heap[k]? = W.heap[k]?) → S.φ W'
theorem blk_lt {w : World} {g : Nat} {o : Obj} (h : w.heap[g]? = some o) : g < w.heap.size := (Array.getElem?_eq_some_iff.1 h).1
theorem held_lt {w : World} {base : Nat} {e : TypeId} {size n : Nat} {v : Value} {xs : List Value} (h : World.held w base e size v n xs) (k : Nat) (hk : (vblk v) = some k) : base ≤ k ∧ k < w.heap.size := by
  cases v with
  | map o =>
    rcases h with ⟨rfl, _⟩ | ⟨g, rfl, hb, hh⟩
    · cases hk
    · have : g = k := by simpa [vblk] using hk
      subst this
      exact ⟨hb, blk_lt hh⟩
  | _ =>
    rcases h.2 with ⟨h1, _⟩ | ⟨g, cap, cur, h1, hb, hh, _⟩
    · first | cases h1; simp [vblk, Value.ownBlock] at hk | cases h1
    · first | (cases h1; have : g = k := by simpa [vblk, Value.ownBlock] using hk
               subst this
               exact ⟨hb, blk_lt hh⟩) | cases h1
theorem held_move {w w1 : World} {base : Nat} {e : TypeId} {size n : Nat} {v : Value} {xs : List Value} (h : World.held w base e size v n xs) (hm : ∀ k, (vblk v) = some k → w1.heap[k]? = w.heap[k]?) : World.held w1 base e size v n xs := by
  cases v with
  | map o =>
    rcases h with h | ⟨g, rfl, hb, hh⟩
    · exact .inl h
    · exact .inr ⟨g, rfl, hb, (hm g rfl).trans hh⟩
  | _ =>
    obtain ⟨h1, h2⟩ := h
    refine ⟨h1, ?_⟩
    rcases h2 with h2 | ⟨g, cap, cur, h3, hg, hh, r⟩
    · exact .inl h2
    · first | (cases h3; exact .inr ⟨g, _, cur, rfl, hg, (hm g (by simp [vblk, Value.ownBlock])).trans hh, r⟩) | cases h3
namespace Sta.ok
variable {S : Sta} {W W1 : World}
theorem mut_lt (h : S.ok W) : ∀ k, S.mut k → k < W.heap.size := by
  rintro k (hk | ⟨p, hp, rfl⟩ | ⟨r, hr, hk⟩)
  · exact Nat.lt_of_lt_of_le (h.old k hk) h.below.size
  · exact blk_lt (h.has p hp).2
  · exact (held_lt (h.rows r hr) k hk).2
theorem toFact (h : S.ok W) : Fact W S.mut S.φ := ⟨h.mut_lt, h.fact⟩
theorem now (h : S.ok W) : S.φ W := h.toFact.now
theorem size (h : S.ok W) : S.w0.heap.size ≤ W.heap.size := h.below.size
theorem go_on (h : S.ok W) (hb : Below W.heap.size W W1) : S.ok W1 where
  below := below_then h.below h.size hb
  old := h.old
  has := fun p hp => ⟨(h.has p hp).1, (hb.block _ (blk_lt (h.has p hp).2)).trans (h.has p hp).2⟩
  apartH := h.apartH
  rows := fun r hr => held_move (h.rows r hr) fun k hk => hb.block k (held_lt (h.rows r hr) k hk).2
  apartR := h.apartR
  apart := h.apart
  fact := fun W' hW => h.fact W' fun k hk hn => (hW k (Nat.lt_of_lt_of_le hk hb.size) hn).trans (hb.block k hk)
theorem drew (h : S.ok W) : S.ok W.drew := h.go_on (.of rfl rfl rfl (Nat.le_refl _) (fun _ _ => rfl) (Nat.le_succ _))
theorem phi {w0 : World} {M : Nat → Prop} {H : List (Nat × Nat × Obj)} {R : List (Nat × Row)} {φ : World → Prop} {ψ : World → Prop} (h : (Sta.mk w0 M H R φ).ok W) (hi : ∀ w, φ w → ψ w) : (Sta.mk w0 M H R ψ).ok W := ⟨h.below, h.old, h.has, h.apartH, h.rows, h.apartR, h.apart, fun W' hW => hi _ (h.fact W' hW)⟩
/-- A new block of the call's own. -/
theorem alloc {w0 : World} {M : Nat → Prop} {H : List (Nat × Nat × Obj)} {R : List (Nat × Row)} {φ : World → Prop} (h : (Sta.mk w0 M H R φ).ok W) (tag : Nat) (o : Obj) : (Sta.mk w0 M ((tag, W.heap.size, o) :: H) R φ).ok (W.alloc o) := by
  have hb := below_al W o
  have h' := h.go_on hb
  refine ⟨h'.below, h.old, ?_, ?_, h'.rows, h.apartR, ?_, ?_⟩
  · intro p hp
    rcases List.mem_cons.1 hp with rfl | hp
    · exact ⟨h.size, heap_alloc_new W o⟩
    · exact h'.has p hp
  · refine List.pairwise_cons.2 ⟨fun q hq e => ?_, h.apartH⟩
    have := blk_lt (h.has q hq).2
    dsimp only at e
    omega
  · intro r hr p hp
    rcases List.mem_cons.1 hp with rfl | hp
    · intro e
      have := (held_lt (h.rows r hr) _ e).2
      dsimp only at this
      omega
    · exact h.apart r hr p hp
  · intro W' hW
    refine h.fact W' fun k hk hn => (hW k (Nat.lt_of_lt_of_le hk hb.size) ?_).trans (hb.block k hk)
    rintro (hm | ⟨p, hp, rfl⟩ | hm)
    · exact hn (.inl hm)
    · rcases List.mem_cons.1 hp with rfl | hp
      · dsimp only at hk; omega
      · exact hn (.inr (.inl ⟨p, hp, rfl⟩))
    · exact hn (.inr (.inr hm))
end Sta.ok
/-! ### The lists by tags -/
def fH (t : Nat) : List (Nat × Nat × Obj) → Option (Nat × Obj)
  | [] => none
  | p :: l => bif Nat.beq p.1 t then some p.2 else fH t l
def uH (t : Nat) (o : Obj) : List (Nat × Nat × Obj) → List (Nat × Nat × Obj)
  | [] => []
  | p :: l => bif Nat.beq p.1 t then (p.1, p.2.1, o) :: l else p :: uH t o l
def dH (t : Nat) : List (Nat × Nat × Obj) → List (Nat × Nat × Obj)
  | [] => []
  | p :: l => bif Nat.beq p.1 t then l else p :: dH t l
def fR (t : Nat) : List (Nat × Row) → Option Row
  | [] => none
  | p :: l => bif Nat.beq p.1 t then some p.2 else fR t l
def uR (t : Nat) (r : Row) : List (Nat × Row) → List (Nat × Row)
  | [] => []
  | p :: l => bif Nat.beq p.1 t then (p.1, r) :: l else p :: uR t r l
def dR (t : Nat) : List (Nat × Row) → List (Nat × Row)
  | [] => []
  | p :: l => bif Nat.beq p.1 t then l else p :: dR t l
theorem fH_mem {t : Nat} {H : List (Nat × Nat × Obj)} {g : Nat} {o : Obj} (h : fH t H = some (g, o)) : (t, g, o) ∈ H := by
  induction H with
  | nil => cases h
  | cons p l ih =>
    unfold fH at h
    cases hb : Nat.beq p.1 t with
    | true =>
      rw [hb] at h
      have := Nat.eq_of_beq_eq_true hb
      simp only [cond_true, Option.some.injEq] at h
      obtain ⟨a, b, c⟩ := p
      simp only at this h
      subst this
      cases h
      exact List.mem_cons_self
    | false =>
      rw [hb] at h
      exact List.mem_cons_of_mem _ (ih h)
theorem uH_split {t g : Nat} {o o' : Obj} {H : List (Nat × Nat × Obj)} (h : fH t H = some (g, o)) : ∃ l r, H = l ++ (t, g, o) :: r ∧ uH t o' H = l ++ (t, g, o') :: r ∧ dH t H = l ++ r := by
  induction H with
  | nil => cases h
  | cons p l ih =>
    unfold fH at h
    cases hb : Nat.beq p.1 t with
    | true =>
      rw [hb] at h
      have := Nat.eq_of_beq_eq_true hb
      simp only [cond_true, Option.some.injEq] at h
      obtain ⟨a, b, c⟩ := p
      simp only at this h
      subst this
      cases h
      exact ⟨[], l, rfl, by simp [uH, hb], by simp [dH, hb]⟩
    | false =>
      rw [hb] at h
      obtain ⟨l1, r1, h1, h2, h3⟩ := ih h
      exact ⟨p :: l1, r1, by rw [h1]; rfl, by simp [uH, hb, h2], by simp [dH, hb, h3]⟩
theorem uR_split {t : Nat} {o o' : Row} {H : List (Nat × Row)} (h : fR t H = some o) : ∃ l r, H = l ++ (t, o) :: r ∧ uR t o' H = l ++ (t, o') :: r ∧ dR t H = l ++ r := by
  induction H with
  | nil => cases h
  | cons p l ih =>
    unfold fR at h
    cases hb : Nat.beq p.1 t with
    | true =>
      rw [hb] at h
      have := Nat.eq_of_beq_eq_true hb
      simp only [cond_true, Option.some.injEq] at h
      obtain ⟨a, c⟩ := p
      simp only at this h
      subst this
      cases h
      exact ⟨[], l, rfl, by simp [uR, hb], by simp [dR, hb]⟩
    | false =>
      rw [hb] at h
      obtain ⟨l1, r1, h1, h2, h3⟩ := ih h
      exact ⟨p :: l1, r1, by rw [h1]; rfl, by simp [uR, hb, h2], by simp [dR, hb, h3]⟩
/-- From W to W1 nothing has turned but in block g (or in none that was there). -/
structure But (g : Option Nat) (W W1 : World) : Prop where
  os : W1.os = W.os
  tape : W1.tape = W.tape
  output : W1.output = W.output
  size : W.heap.size ≤ W1.heap.size
  same : ∀ k, k < W.heap.size → some k ≠ g → W1.heap[k]? = W.heap[k]?
  dr : W.drawn ≤ W1.drawn
theorem But.set (W : World) (g i : Nat) (u : Value) : But (some g) W (W.setCell ⟨g, i, none⟩ u) :=
  ⟨rfl, rfl, rfl, by simp [World.setCell], fun k _ hk => Below.heap_setCell _ _ _ _ (fun e => hk (by rw [e])), Nat.le_refl _⟩
theorem But.grown {W W1 : World} {g : Option Nat} (h : W.grownBy W1 g) (hd : W.drawn ≤ W1.drawn) : But g W W1 := ⟨h.os, h.tape, h.output, h.size, h.block, hd⟩
theorem But.refl (g : Option Nat) (W : World) : But g W W := ⟨rfl, rfl, rfl, Nat.le_refl _, fun _ _ _ => rfl, Nat.le_refl _⟩
theorem But.trans {g : Option Nat} {W W1 W2 : World} (h : But g W W1) (h2 : But g W1 W2) : But g W W2 :=
  ⟨h2.os.trans h.os, h2.tape.trans h.tape, h2.output.trans h.output, Nat.le_trans h.size h2.size, fun k hk hn => (h2.same k (Nat.lt_of_lt_of_le hk h.size) hn).trans (h.same k hk hn), Nat.le_trans h.dr h2.dr⟩
theorem But.below {W W1 : World} (g : Option Nat) (h : Below W.heap.size W W1) : But g W W1 := ⟨h.os, h.tape, h.output, h.size, fun k hk _ => h.block k hk, h.dr⟩
theorem But.base {g : Option Nat} {W W1 : World} {w0 : World} (h : But g W W1) (hb : Below w0.heap.size w0 W) (hg : ∀ k, g = some k → w0.heap.size ≤ k) : Below w0.heap.size w0 W1 :=
  hb.trans (.of h.os h.tape h.output h.size (fun k hk => h.same k (Nat.lt_of_lt_of_le hk hb.size) (fun e => by have := hg k e.symm; omega)) h.dr)
theorem pw_mid {α : Type} {R : α → α → Prop} {l r : List α} {x y : α} (hx : ∀ a, R a x → R a y) (hy : ∀ a, R x a → R y a) (h : (l ++ x :: r).Pairwise R) : (l ++ y :: r).Pairwise R := by
  rw [List.pairwise_append] at h ⊢
  obtain ⟨h1, h2, h3⟩ := h
  rw [List.pairwise_cons] at h2 ⊢
  refine ⟨h1, ⟨fun a ha => hy a (h2.1 a ha), h2.2⟩, fun a ha b hb => ?_⟩
  rcases List.mem_cons.1 hb with rfl | hb
  · exact hx a (h3 a ha x List.mem_cons_self)
  · exact h3 a ha b (List.mem_cons_of_mem _ hb)
theorem pw_drop {α : Type} {R : α → α → Prop} {l r : List α} {x : α} (h : (l ++ x :: r).Pairwise R) : (l ++ r).Pairwise R := by
  rw [List.pairwise_append] at h ⊢
  obtain ⟨h1, h2, h3⟩ := h
  rw [List.pairwise_cons] at h2
  exact ⟨h1, h2.2, fun a ha b hb => h3 a ha b (List.mem_cons_of_mem _ hb)⟩
namespace Sta.ok
variable {S : Sta} {W W1 : World}
/-- One of the call's own blocks is written. -/
theorem upd {w0 : World} {M : Nat → Prop} {H : List (Nat × Nat × Obj)} {R : List (Nat × Row)} {φ : World → Prop} {t g : Nat} {o o' : Obj} (h : (Sta.mk w0 M H R φ).ok W) (hf : fH t H = some (g, o)) (hb : But (some g) W W1) (hg : W1.heap[g]? = some o') : (Sta.mk w0 M (uH t o' H) R φ).ok W1 := by
  obtain ⟨l, r, h1, h2, _⟩ := uH_split (o' := o') hf
  have hap := h.apartH
  rw [h1] at hap
  have hne : ∀ p ∈ l ++ r, p.2.1 ≠ g := by
    intro p hp
    rw [List.pairwise_append, List.pairwise_cons] at hap
    rcases List.mem_append.1 hp with hp | hp
    · exact hap.2.2 p hp _ List.mem_cons_self
    · exact fun e => hap.2.1.1 p hp e.symm
  have hmem : ∀ p, p ∈ l ++ (t, g, o) :: r ↔ p = (t, g, o) ∨ p ∈ l ++ r := fun p => by simp only [List.mem_append, List.mem_cons]; constructor <;> (intro hh; rcases hh with hh | hh | hh <;> simp [hh])
  have hmem' : ∀ p, p ∈ l ++ (t, g, o') :: r ↔ p = (t, g, o') ∨ p ∈ l ++ r := fun p => by simp only [List.mem_append, List.mem_cons]; constructor <;> (intro hh; rcases hh with hh | hh | hh <;> simp [hh])
  have hin : (t, g, o) ∈ H := by rw [h1]; exact (hmem _).2 (.inl rfl)
  have hbase := (h.has _ hin).1
  refine ⟨hb.base h.below (fun k e => by cases e; exact hbase), h.old, ?_, ?_, ?_, h.apartR, ?_, ?_⟩
  · intro p hp
    simp only [h2] at hp
    rcases (hmem' p).1 hp with rfl | hp
    · exact ⟨hbase, hg⟩
    · have hs : p ∈ H := by rw [h1]; exact (hmem p).2 (.inr hp)
      exact ⟨(h.has p hs).1, (hb.same _ (blk_lt (h.has p hs).2) (fun e => by injection e with e; exact hne p hp e)).trans (h.has p hs).2⟩
  · simp only [h2]
    exact pw_mid (x := (t, g, o)) (y := (t, g, o')) (fun a ha => ha) (fun a ha => ha) hap
  · intro r' hr'
    exact held_move (h.rows r' hr') fun k hk => hb.same k (held_lt (h.rows r' hr') k hk).2 (fun e => by injection e with e; subst e; exact h.apart r' hr' _ hin hk)
  · intro r' hr' p hp
    simp only [h2] at hp
    rcases (hmem' p).1 hp with rfl | hp
    · exact show (vblk r'.2.v) ≠ some g from h.apart r' hr' (t, g, o) hin
    · exact h.apart r' hr' p (by rw [h1]; exact (hmem p).2 (.inr hp))
  · intro W' hW
    have hmut : ∀ k, (Sta.mk w0 M (uH t o' H) R φ).mut k → (Sta.mk w0 M H R φ).mut k := by
      rintro k (hm | ⟨p, hp, rfl⟩ | hm)
      · exact .inl hm
      · simp only [h2] at hp
        rcases (hmem' p).1 hp with rfl | hp
        · exact .inr (.inl ⟨_, hin, rfl⟩)
        · exact .inr (.inl ⟨p, by rw [h1]; exact (hmem p).2 (.inr hp), rfl⟩)
      · exact .inr (.inr hm)
    refine h.fact W' fun k hk hn => (hW k (Nat.lt_of_lt_of_le hk hb.size) (fun hm => hn (hmut k hm))).trans (hb.same k hk (fun e => ?_))
    injection e with e
    subst e
    exact hn (.inr (.inl ⟨_, hin, rfl⟩))
/-- A row of the call's own is written, or lies elsewhere now. -/
theorem updR {w0 : World} {M : Nat → Prop} {H : List (Nat × Nat × Obj)} {R : List (Nat × Row)} {φ : World → Prop} {t : Nat} {o o' : Row} (h : (Sta.mk w0 M H R φ).ok W) (hf : fR t R = some o) (hb : But (vblk o.v) W W1) (hg : World.held W1 w0.heap.size o'.e o'.sz o'.v o'.n o'.xs)
    (hat : ∀ k, (vblk o'.v) = some k → (vblk o.v) = some k ∨ W.heap.size ≤ k) : (Sta.mk w0 M H (uR t o' R) φ).ok W1 := by
  obtain ⟨l, r, h1, h2, _⟩ := uR_split (o' := o') hf
  have hap := h.apartR
  rw [h1] at hap
  have hmem : ∀ p, p ∈ l ++ (t, o) :: r ↔ p = (t, o) ∨ p ∈ l ++ r := fun p => by simp only [List.mem_append, List.mem_cons]; constructor <;> (intro hh; rcases hh with hh | hh | hh <;> simp [hh])
  have hmem' : ∀ p, p ∈ l ++ (t, o') :: r ↔ p = (t, o') ∨ p ∈ l ++ r := fun p => by simp only [List.mem_append, List.mem_cons]; constructor <;> (intro hh; rcases hh with hh | hh | hh <;> simp [hh])
  have hin : (t, o) ∈ R := by rw [h1]; exact (hmem _).2 (.inl rfl)
  have hsub : ∀ p, p ∈ l ++ r → p ∈ R := fun p hp => by rw [h1]; exact (hmem p).2 (.inr hp)
  have hne : ∀ p ∈ l ++ r, ∀ k, (vblk p.2.v) = some k → (vblk o.v) ≠ some k := by
    intro p hp k hk hk2
    rw [List.pairwise_append, List.pairwise_cons] at hap
    rcases List.mem_append.1 hp with hp | hp
    · exact hap.2.2 p hp _ List.mem_cons_self k hk hk2
    · exact hap.2.1.1 p hp k hk2 hk
  have hne' : ∀ p ∈ l ++ r, ∀ k, (vblk p.2.v) = some k → (vblk o'.v) ≠ some k := by
    intro p hp k hk hk2
    rcases hat k hk2 with hk3 | hk3
    · exact hne p hp k hk hk3
    · have := (held_lt (h.rows p (hsub p hp)) k hk).2
      omega
  refine ⟨hb.base h.below (fun k e => (held_lt (h.rows _ hin) k e).1), h.old, ?_, h.apartH, ?_, ?_, ?_, ?_⟩
  · intro p hp
    exact ⟨(h.has p hp).1, (hb.same _ (blk_lt (h.has p hp).2) (fun e => h.apart _ hin p hp e.symm)).trans (h.has p hp).2⟩
  · intro r' hr'
    simp only [h2] at hr'
    rcases (hmem' r').1 hr' with rfl | hr'
    · exact hg
    · exact held_move (h.rows r' (hsub r' hr')) fun k hk => hb.same k (held_lt (h.rows r' (hsub r' hr')) k hk).2 (fun e => hne r' hr' k hk e.symm)
  · simp only [h2]
    rw [List.pairwise_append, List.pairwise_cons] at hap ⊢
    obtain ⟨p1, ⟨p2, p3⟩, p4⟩ := hap
    refine ⟨p1, ⟨fun a ha k hk => fun e => hne' a (List.mem_append_right _ ha) k e hk, p3⟩, fun a ha b hb' => ?_⟩
    rcases List.mem_cons.1 hb' with rfl | hb'
    · exact fun k hk => hne' a (List.mem_append_left _ ha) k hk
    · exact p4 a ha b (List.mem_cons_of_mem _ hb')
  · intro r' hr' p hp
    simp only [h2] at hr'
    rcases (hmem' r').1 hr' with rfl | hr'
    · intro e
      rcases hat _ e with e | e
      · exact h.apart _ hin p hp e
      · have := blk_lt (h.has p hp).2
        omega
    · exact h.apart r' (hsub r' hr') p hp
  · intro W' hW
    refine h.fact W' fun k hk hn => (hW k (Nat.lt_of_lt_of_le hk hb.size) ?_).trans (hb.same k hk (fun e => hn (.inr (.inr ⟨_, hin, e.symm⟩))))
    rintro (hm | hm | ⟨p, hp, hk2⟩)
    · exact hn (.inl hm)
    · exact hn (.inr (.inl hm))
    · simp only [h2] at hp
      rcases (hmem' p).1 hp with rfl | hp
      · rcases hat _ hk2 with e | e
        · exact hn (.inr (.inr ⟨_, hin, e⟩))
        · omega
      · exact hn (.inr (.inr ⟨p, hsub p hp, hk2⟩))
/-- A new row: nil, or in a new block. -/
theorem newR {w0 : World} {M : Nat → Prop} {H : List (Nat × Nat × Obj)} {R : List (Nat × Row)} {φ : World → Prop} {t : Nat} {o' : Row} (h : (Sta.mk w0 M H R φ).ok W) (hb : Below W.heap.size W W1) (hg : World.held W1 w0.heap.size o'.e o'.sz o'.v o'.n o'.xs) (hat : ∀ k, (vblk o'.v) = some k → W.heap.size ≤ k) :
    (Sta.mk w0 M H ((t, o') :: R) φ).ok W1 := by
  have h' := h.go_on hb
  refine ⟨h'.below, h.old, h'.has, h.apartH, ?_, ?_, ?_, ?_⟩
  · intro r hr
    rcases List.mem_cons.1 hr with rfl | hr
    · exact hg
    · exact h'.rows r hr
  · refine List.pairwise_cons.2 ⟨fun a ha k hk e => ?_, h.apartR⟩
    have := hat k hk
    have := (held_lt (h.rows a ha) k e).2
    omega
  · intro r hr p hp
    rcases List.mem_cons.1 hr with rfl | hr
    · intro e
      have := hat _ e
      have := blk_lt (h.has p hp).2
      omega
    · exact h.apart r hr p hp
  · intro W' hW
    refine h.fact W' fun k hk hn => (hW k (Nat.lt_of_lt_of_le hk hb.size) ?_).trans (hb.block k hk)
    rintro (hm | hm | ⟨p, hp, hk2⟩)
    · exact hn (.inl hm)
    · exact hn (.inr (.inl hm))
    · rcases List.mem_cons.1 hp with rfl | hp
      · have := hat k hk2
        omega
      · exact hn (.inr (.inr ⟨p, hp, hk2⟩))
/-- A row is written no more, and forgotten. -/
theorem dropR {w0 : World} {M : Nat → Prop} {H : List (Nat × Nat × Obj)} {R : List (Nat × Row)} {φ : World → Prop} {t : Nat} {o : Row} (h : (Sta.mk w0 M H R φ).ok W) (hf : fR t R = some o) : (Sta.mk w0 M H (dR t R) φ).ok W := by
  obtain ⟨l, r, h1, _, h3⟩ := uR_split (o' := o) hf
  have hap := h.apartR
  rw [h1] at hap
  have hsub : ∀ p, p ∈ l ++ r → p ∈ R := fun p hp => by rw [h1]; rcases List.mem_append.1 hp with hp | hp; exact List.mem_append_left _ hp; exact List.mem_append_right _ (List.mem_cons_of_mem _ hp)
  refine ⟨h.below, h.old, h.has, h.apartH, fun r' hr' => h.rows r' (hsub r' (by simpa only [h3] using hr')), by simp only [h3]; exact pw_drop hap, fun r' hr' => h.apart r' (hsub r' (by simpa only [h3] using hr')), fun W' hW => h.fact W' fun k hk hn => hW k hk ?_⟩
  rintro (hm | hm | ⟨p, hp, hk2⟩)
  · exact hn (.inl hm)
  · exact hn (.inr (.inl hm))
  · exact hn (.inr (.inr ⟨p, hsub p (by simpa only [h3] using hp), hk2⟩))
/-- One of the call's own blocks is written no more, and forgotten. -/
theorem dropH {w0 : World} {M : Nat → Prop} {H : List (Nat × Nat × Obj)} {R : List (Nat × Row)} {φ : World → Prop} {t g : Nat} {o : Obj} (h : (Sta.mk w0 M H R φ).ok W) (hf : fH t H = some (g, o)) : (Sta.mk w0 M (dH t H) R φ).ok W := by
  obtain ⟨l, r, h1, _, h3⟩ := uH_split (o' := o) hf
  have hap := h.apartH
  rw [h1] at hap
  have hsub : ∀ p, p ∈ l ++ r → p ∈ H := fun p hp => by rw [h1]; rcases List.mem_append.1 hp with hp | hp; exact List.mem_append_left _ hp; exact List.mem_append_right _ (List.mem_cons_of_mem _ hp)
  refine ⟨h.below, h.old, fun p hp => h.has p (hsub p (by simpa only [h3] using hp)), by simp only [h3]; exact pw_drop hap, h.rows, h.apartR, fun r' hr' p hp => h.apart r' hr' p (hsub p (by simpa only [h3] using hp)), fun W' hW => h.fact W' fun k hk hn => hW k hk ?_⟩
  rintro (hm | ⟨p, hp, hk2⟩ | hm)
  · exact hn (.inl hm)
  · exact hn (.inr (.inl ⟨p, hsub p (by simpa only [h3] using hp), hk2⟩))
  · exact hn (.inr (.inr hm))
end Sta.ok
end Go.Proofs.YtkmkpodioedlfaaDoor
