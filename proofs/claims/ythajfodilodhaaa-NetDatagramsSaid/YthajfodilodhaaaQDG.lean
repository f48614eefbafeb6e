import Derived.Test.YthajfodilodhaaaKDG
set_option linter.unusedVariables false
set_option linter.unusedSimpArgs false
set_option maxRecDepth 16384
namespace Go.Proofs.Ythajfodilodhaaa
open Go.RowKit
/-- Where in a list something is first true, and what stands there. -/
def fndX {α : Type} (p : α → Bool) : List α → Nat → Option (Nat × α)
  | [], _ => none
  | x :: r, i => if p x = true then some (i, x) else fndX p r (i + 1)
def fndI {α : Type} : Option (Nat × α) → Int
  | some z => (z.1 : Int)
  | none => -1
theorem fndX_some {α : Type} {p : α → Bool} : ∀ {l : List α} {i k : Nat} {x : α}, fndX p l i = some (k, x) → i ≤ k ∧ l[k - i]? = some x ∧ p x = true ∧ ∀ j, j < k - i → ∀ y, l[j]? = some y → p y = false
  | [], i, k, x, h => by cases h
  | y :: r, i, k, x, h => by
    rw [fndX] at h
    by_cases hp : p y = true
    · rw [if_pos hp] at h; injection h with h; injection h with h1 h2; subst h1 h2
      exact ⟨Nat.le_refl _, by simp, hp, fun j hj => by omega⟩
    · rw [if_neg hp] at h
      obtain ⟨h1, h2, h3, h4⟩ := fndX_some h
      refine ⟨by omega, ?_, h3, fun j hj z hz => ?_⟩
      · rw [show k - i = (k - (i + 1)) + 1 by omega]; simpa using h2
      · cases j with
        | zero => simp at hz; subst hz; simpa using hp
        | succ j => exact h4 j (by omega) z (by simpa using hz)
theorem fndX_none {α : Type} {p : α → Bool} : ∀ {l : List α} {i : Nat}, fndX p l i = none → ∀ y ∈ l, p y = false
  | [], i, h, y, hy => by cases hy
  | x :: r, i, h, y, hy => by
    rw [fndX] at h
    by_cases hp : p x = true
    · rw [if_pos hp] at h; cases h
    · rw [if_neg hp] at h
      rcases List.mem_cons.1 hy with rfl | hy
      · simpa using hp
      · exact fndX_none h y hy
theorem idx_loop {α : Type} (p : α → Bool) {l : List α} (hl : l.length ≤ 4611686018427387904) (step : Int → Option (Int ⊕ (Unit ⊕ Int)))
    (hs : ∀ i : Int, step i = if i < (l.length : Int) then (at_ l i).bind fun x => if p x = true then some (.inr (.inr i)) else some (.inl (w64 (i + 1))) else some (.inr (.inl ()))) :
    ∀ (r pre : List α), l = pre ++ r → loop step (pre.length : Int) = some (match fndX p r pre.length with | some z => .inr (z.1 : Int) | none => .inl ()) := by
  intro r
  induction r with
  | nil =>
    intro pre h
    rw [List.append_nil] at h
    have := hs (pre.length : Int)
    rw [if_neg (by rw [h]; omega)] at this
    rw [loop_inr this]; rfl
  | cons x r ih =>
    intro pre h
    have hlen : l.length = pre.length + (r.length + 1) := by rw [h]; simp
    have hat : at_ l (pre.length : Int) = some x := by rw [at_nat (by omega)]; simp [h]
    have hst := hs (pre.length : Int)
    rw [if_pos (by omega), hat, Option.bind_some] at hst
    rw [fndX]
    by_cases hp : p x = true
    · rw [if_pos hp] at hst
      rw [loop_inr hst, if_pos hp]
    · rw [if_neg hp, w64_id (by omega) (by omega)] at hst
      have := ih (pre ++ [x]) (by rw [h]; simp)
      rw [List.length_append, List.length_singleton] at this
      rw [loop_inl hst, if_neg hp]
      exact this
theorem delf_loop {α : Type} (p : α → Bool) {l : List α} (hl : l.length ≤ 4611686018427387904) (step : List α × Int × Int → Option ((List α × Int × Int) ⊕ (List α × Int)))
    (hs : ∀ (q : List α) (i j : Int), step (q, i, j) = if j < (q.length : Int) then (at_ q j).bind fun x => if p x = true then some (.inl (q, i, w64 (j + 1))) else (at_ q i).bind fun _ => (setAt q i x).bind fun q' => some (.inl (q', w64 (i + 1), w64 (j + 1))) else some (.inr (q, i))) :
    ∀ (d j i : Nat) (q : List α), j + d = l.length → i < j → q.length = l.length → q.take i = (l.take j).filter (fun x => !p x) → q.drop j = l.drop j → ∃ (q' : List α) (i' : Nat), loop step (q, (i : Int), (j : Int)) = some (q', (i' : Int)) ∧ i' ≤ q'.length ∧ q'.take i' = l.filter (fun x => !p x) := by
  intro d
  induction d with
  | zero =>
    intro j i q hj hi hq ht hd
    refine ⟨q, i, ?_, by omega, ?_⟩
    · exact loop_inr (by rw [hs, if_neg (by omega)])
    · rw [ht, List.take_of_length_le (by omega)]
  | succ d ih =>
    intro j i q hj hi hq ht hd
    have hjl : j < l.length := by omega
    have hjq : j < q.length := by omega
    have hx : q[j] = l[j] := by
      have := congrArg (fun z => z[0]?) hd
      simp only [List.getElem?_drop, Nat.add_zero, List.getElem?_eq_getElem hjl, List.getElem?_eq_getElem hjq, Option.some.injEq] at this
      exact this
    have hst := hs q (i : Int) (j : Int)
    rw [if_pos (by omega), at_nat hjq, Option.bind_some, hx] at hst
    have htk : l.take (j + 1) = l.take j ++ [l[j]] := by rw [List.take_succ_eq_append_getElem hjl]
    have hdj : ∀ z : List α, z.drop (j + 1) = (z.drop j).drop 1 := fun z => by rw [List.drop_drop]
    by_cases hp : p l[j] = true
    · rw [if_pos hp, w64_id (by omega) (by omega)] at hst
      rw [loop_inl hst, show (j : Int) + 1 = ((j + 1 : Nat) : Int) by omega]
      refine ih (j + 1) i q (by omega) (by omega) hq ?_ ?_
      · rw [htk, List.filter_append, ht]; simp [hp]
      · rw [hdj, hdj, hd]
    · rw [if_neg hp, at_nat (by omega), Option.bind_some, setAt, if_pos ⟨by omega, by omega⟩, Option.bind_some, Int.toNat_natCast, w64_id (by omega) (by omega), w64_id (by omega) (by omega)] at hst
      rw [loop_inl hst, show (j : Int) + 1 = ((j + 1 : Nat) : Int) by omega, show (i : Int) + 1 = ((i + 1 : Nat) : Int) by omega]
      refine ih (j + 1) (i + 1) _ (by omega) (by omega) (by rw [List.length_set]; exact hq) ?_ ?_
      · have e : (q.set i l[j]).take (i + 1) = q.take i ++ [l[j]] := by
          rw [List.take_succ_eq_append_getElem (by rw [List.length_set]; omega), List.take_set_of_le (Nat.le_refl _)]
          simp
        rw [e, htk, List.filter_append, ht]; simp [hp]
      · rw [List.drop_set_of_lt (by omega), hdj, hdj, hd]
theorem take_fnd {α : Type} {p : α → Bool} {l : List α} {k : Nat} {x : α} (h : fndX p l 0 = some (k, x)) : k < l.length ∧ p x = true ∧ l[k]? = some x ∧ (l.take k).filter (fun x => !p x) = l.take k := by
  obtain ⟨h1, h2, h3, h4⟩ := fndX_some h
  simp only [Nat.sub_zero] at h2 h4
  have hk := (List.getElem?_eq_some_iff.1 h2).1
  refine ⟨hk, h3, h2, List.filter_eq_self.2 fun y hy => ?_⟩
  obtain ⟨j, hj, rfl⟩ := List.mem_take_iff_getElem.1 hy
  have := h4 j (by omega) _ (List.getElem?_eq_getElem (by omega))
  simp [this]
/-- slices.DeleteFunc. -/
theorem delf_eq {α : Type} (p : α → Bool) {l : List α} (hl : l.length ≤ 4611686018427387904) (ix : Option Int) (step : List α × Int × Int → Option ((List α × Int × Int) ⊕ (List α × Int)))
    (hix : ix = some (fndI (fndX p l 0)))
    (hs : ∀ (q : List α) (i j : Int), step (q, i, j) = if j < (q.length : Int) then (at_ q j).bind fun x => if p x = true then some (.inl (q, i, w64 (j + 1))) else (at_ q i).bind fun _ => (setAt q i x).bind fun q' => some (.inl (q', w64 (i + 1), w64 (j + 1))) else some (.inr (q, i))) :
    (ix.bind fun x1 => if x1 = -1 then some l else (loop step (l, x1, w64 (x1 + 1))).bind fun e => (cutLo e.1 e.2).bind fun l53 => (cutHi e.1 e.2).bind fun l54 => some l54) = some (l.filter (fun x => !p x)) := by
  rw [hix, Option.bind_some]
  cases hf : fndX p l 0 with
  | none =>
    rw [fndI, if_pos rfl]
    congr 1
    exact (List.filter_eq_self.2 fun y hy => by simp [fndX_none hf y hy]).symm
  | some z =>
    obtain ⟨k, x⟩ := z
    obtain ⟨h1, h2, h3, h4⟩ := take_fnd hf
    have hx : l[k] = x := by have := (List.getElem?_eq_some_iff.1 h3).2; exact this
    have htk : l.take (k + 1) = l.take k ++ [l[k]] := by rw [List.take_succ_eq_append_getElem h1]
    obtain ⟨q, i, g1, g2, g3⟩ := delf_loop p hl step hs (l.length - (k + 1)) (k + 1) k l (by omega) (by omega) rfl (by rw [htk, List.filter_append, h4, hx]; simp [h2]) rfl
    rw [fndI, if_neg (by omega), w64_id (by omega) (by omega), show (k : Int) + 1 = ((k + 1 : Nat) : Int) by omega, g1, Option.bind_some]
    simp only
    rw [cutLo, if_pos ⟨by omega, by omega⟩, Option.bind_some, cutHi, if_pos ⟨by omega, by omega⟩, Option.bind_some, Int.toNat_natCast, g3]
theorem getM_put {K V : Type} [DecidableEq K] (z v : V) (k k' : K) : ∀ l : List (K × V), getM z (putM l k v) k' = if k = k' then (v, true) else getM z l k'
  | [] => by simp [putM, getM]
  | e :: r => by
    rw [putM]
    by_cases h : e.1 = k
    · rw [if_pos h, getM, getM]
      by_cases h2 : k = k'
      · simp [h2]
      · simp [h2, h]
    · rw [if_neg h, getM, getM, getM_put z v k k' r]
      by_cases h2 : e.1 = k'
      · rw [if_pos h2, if_pos h2]
        by_cases h3 : k = k'
        · exact absurd (h2.trans h3.symm) h
        · rw [if_neg h3]
      · rw [if_neg h2, if_neg h2]
open Go.RowKit
def i64R (x : Int) : Prop := -9223372036854775808 ≤ x ∧ x ≤ 9223372036854775807
instance (x : Int) : Decidable (i64R x) := by unfold i64R; infer_instance
/-- What holds of a network all the time; b: how much there is at most. -/
structure NOk (b : Int) (n : Gnet_Net) : Prop where
  il : (n.fitems.length : Int) ≤ b
  cl : n.fconns.length ≤ 256
  la : 0 ≤ n.flast ∧ n.flast ≤ b
  op : 0 ≤ n.fopens ∧ n.fopens ≤ b
  ir : ∀ x ∈ n.fitems, i64R x.fConn ∧ i64R x.fTo ∧ 1 ≤ x.fNumber ∧ x.fNumber ≤ n.flast
  ip : n.fitems.Pairwise fun x y => x.fNumber < y.fNumber
  cr : ∀ c ∈ n.fconns, c.fends.a0 ≠ c.fends.a1 ∧ i64R c.fends.a0 ∧ i64R c.fends.a1 ∧ 1 ≤ c.fnumber ∧ c.fnumber ≤ n.fopens
  cp : n.fconns.Pairwise fun x y => x.fnumber < y.fnumber
theorem NOk.more {b b' : Int} {n : Gnet_Net} (h : NOk b n) (hb : b ≤ b') : NOk b' n := ⟨by have := h.il; omega, h.cl, ⟨h.la.1, by have := h.la.2; omega⟩, ⟨h.op.1, by have := h.op.2; omega⟩, h.ir, h.ip, h.cr, h.cp⟩
def newN : Gnet_Net := ⟨[], [], 0, 0⟩
theorem newN_ok : NOk 0 newN := ⟨by decide, by decide, by decide, by decide, (fun _ h => by cases h), List.Pairwise.nil, (fun _ h => by cases h), List.Pairwise.nil⟩
def addN (n : Gnet_Net) (x : GItem) : Gnet_Net := ⟨n.fitems ++ [⟨n.flast + 1, x.fKind, x.fFrom, x.fTo, x.fConn, x.fBody⟩], n.fconns, n.flast + 1, n.fopens⟩
theorem addN_ok {b : Int} {n : Gnet_Net} {x : GItem} (h : NOk b n) (h1 : i64R x.fConn) (h2 : i64R x.fTo) : NOk (b + 1) (addN n x) := by
  have la := h.la; have op := h.op; have il := h.il
  refine ⟨by simp [addN]; omega, h.cl, by simp only [addN]; omega, by simp only [addN]; omega, fun y hy => ?_, ?_, fun c hc => ?_, h.cp⟩
  · rcases List.mem_append.1 hy with hy | hy
    · obtain ⟨k1, k2, k3, k4⟩ := h.ir y hy
      exact ⟨k1, k2, k3, by simp only [addN]; omega⟩
    · simp only [List.mem_singleton] at hy; subst hy
      exact ⟨h1, h2, by simp only; omega, by simp only [addN]; omega⟩
  · refine List.pairwise_append.2 ⟨h.ip, List.pairwise_singleton _ _, fun y hy z hz => ?_⟩
    simp only [List.mem_singleton] at hz; subst hz
    have := (h.ir y hy).2.2.2
    simp only; omega
  · exact h.cr c hc
theorem add_code {b : Int} {n : Gnet_Net} {x : GItem} (h : NOk b n) (hb : b ≤ 1000000) : m_net_Net_add x n = some (addN n x) := by
  have il := h.il; have la := h.la
  rw [m_net_Net_add, app_of (by simp; omega), Option.bind_some, w64_id (by omega) (by omega)]; rfl
theorem full_code (n : Gnet_Net) : m_net_Net_full n = some (decide (1024 ≤ (n.fitems.length : Int))) := rfl
def sendN (n : Gnet_Net) (a c : Int) (s : ByteArray) : Bool × Gnet_Net := if 1024 ≤ (n.fitems.length : Int) then (false, n) else (true, addN n ⟨0, 1, a, c, 0, s⟩)
theorem send_code {b : Int} {n : Gnet_Net} (h : NOk b n) (hb : b ≤ 1000000) (a c : Int) (s : ByteArray) : m_net_Net_Send a c s n = some (sendN n a c s) := by
  rw [m_net_Net_Send, full_code, Option.bind_some, sendN]
  by_cases hc : 1024 ≤ (n.fitems.length : Int)
  · rw [if_pos (decide_eq_true hc), if_pos hc]
  · rw [if_neg (by simpa using hc), if_neg hc, add_code h hb, Option.bind_some]; rfl
theorem i64_0 : i64R 0 := by decide
theorem sendN_ok {b : Int} {n : Gnet_Net} (h : NOk b n) {a c : Int} {s : ByteArray} (hc : i64R c) : NOk (b + 1) (sendN n a c s).2 := by
  unfold sendN
  split
  · exact h.more (by omega)
  · exact addN_ok h i64_0 hc
def openN (n : Gnet_Net) (a c : Int) : Int × Bool × Gnet_Net :=
  if 1024 ≤ (n.fitems.length : Int) then (0, false, n) else if 256 ≤ (n.fconns.length : Int) then (0, false, n) else if a = c then (0, false, n)
  else (n.fopens + 1, true, addN ⟨n.fitems, n.fconns ++ [⟨n.fopens + 1, ⟨a, c⟩⟩], n.flast, n.fopens + 1⟩ ⟨0, 2, a, c, n.fopens + 1, ⟨#[]⟩⟩)
theorem pre_open {b : Int} {n : Gnet_Net} (h : NOk b n) {a c : Int} (hl : ¬ 256 ≤ (n.fconns.length : Int)) (hac : a ≠ c) (ha : i64R a) (hc : i64R c) : NOk (b + 1) ⟨n.fitems, n.fconns ++ [⟨n.fopens + 1, ⟨a, c⟩⟩], n.flast, n.fopens + 1⟩ := by
  have la := h.la; have op := h.op; have il := h.il
  refine ⟨by simp only; omega, by simp; omega, by simp only; omega, by simp only; omega, h.ir, h.ip, fun x hx => ?_, ?_⟩
  · rcases List.mem_append.1 hx with hx | hx
    · obtain ⟨k1, k2, k3, k4, k5⟩ := h.cr x hx
      exact ⟨k1, k2, k3, k4, by simp only; omega⟩
    · simp only [List.mem_singleton] at hx; subst hx
      exact ⟨hac, ha, hc, by simp only; omega, by simp only; omega⟩
  · refine List.pairwise_append.2 ⟨h.cp, List.pairwise_singleton _ _, fun y hy z hz => ?_⟩
    simp only [List.mem_singleton] at hz; subst hz
    have := (h.cr y hy).2.2.2.2
    simp only; omega
theorem open_code {b : Int} {n : Gnet_Net} (h : NOk b n) (hb : b ≤ 100000) {a c : Int} (ha : i64R a) (hc : i64R c) : m_net_Net_Open a c n = some (openN n a c) := by
  have op := h.op; have cl := h.cl
  rw [m_net_Net_Open, full_code, Option.bind_some, openN]
  by_cases h1 : 1024 ≤ (n.fitems.length : Int)
  · rw [if_pos (decide_eq_true h1), if_pos h1]
  rw [if_neg (by simpa using h1), if_neg h1]
  by_cases h2 : 256 ≤ (n.fconns.length : Int)
  · rw [if_pos h2, if_pos h2]
  rw [if_neg h2, if_neg h2]
  by_cases h3 : a = c
  · rw [if_pos h3, if_pos h3]
  rw [if_neg h3, if_neg h3, w64_id (by omega) (by omega), app_of (by simp; omega), Option.bind_some, add_code (pre_open h h2 h3 ha hc) (by omega), Option.bind_some]
  rfl
theorem openN_ok {b : Int} {n : Gnet_Net} (h : NOk b n) (hb : b ≤ 1000000) {a c : Int} (ha : i64R a) (hc : i64R c) : NOk (b + 2) (openN n a c).2.2 := by
  have op := h.op
  unfold openN
  split
  · exact h.more (by omega)
  · split
    · exact h.more (by omega)
    · split
      · exact h.more (by omega)
      · rename_i h2 h3
        have := addN_ok (x := ⟨0, 2, a, c, n.fopens + 1, ⟨#[]⟩⟩) (pre_open h h2 h3 ha hc) ⟨by simp only; omega, by simp only; omega⟩ hc
        exact this.more (by omega)
def isC (c : Int) (x : Gnet_conn) : Bool := decide (x.fnumber = c)
theorem find_code {b : Int} {n : Gnet_Net} (h : NOk b n) (c : Int) : m_net_Net_find c n = some (match fndX (isC c) n.fconns 0 with | some z => ((z.1 : Int), true) | none => (-1, false)) := by
  have cl := h.cl
  have hl := idx_loop (isC c) (l := n.fconns) (by omega) (fun s => m_slices_IndexFunc_52_s2 n.fconns c s) (fun i => by
    simp only [m_slices_IndexFunc_52_s2, m_net_Net_find_c1, Option.bind_some, isC]; rfl) n.fconns [] rfl
  rw [m_net_Net_find, m_slices_IndexFunc_52]
  erw [hl]
  cases hf : fndX (isC c) n.fconns 0 with
  | none =>
    simp only [List.length_nil, hf]; rfl
  | some z =>
    simp only [List.length_nil, hf, Option.bind_some, Sum.elim_inr]
    rw [decide_eq_true (by omega)]
def otherC (x : Gnet_conn) (k : Int) : Int := if k = x.fends.a0 then x.fends.a1 else x.fends.a0
theorem other_code (x : Gnet_conn) (k : Int) : m_net_conn_other x k = some (otherC x k) := by
  rw [m_net_conn_other, otherC]; split <;> rfl
def hasC (k : Int) (x : Gnet_conn) : Bool := decide (k = x.fends.a0) || decide (k = x.fends.a1)
theorem has_code (x : Gnet_conn) (k : Int) : m_net_conn_has x k = some (hasC k x) := by
  rw [m_net_conn_has, hasC]
  by_cases h : k = x.fends.a0
  · rw [if_pos h, decide_eq_true h]; rfl
  · rw [if_neg h, decide_eq_false h]; rfl
def peerN (n : Gnet_Net) (c k : Int) : Int × Bool := match fndX (isC c) n.fconns 0 with
  | some z => if hasC k z.2 = true then (otherC z.2 k, true) else (0, false)
  | none => (0, false)
theorem peer_code {b : Int} {n : Gnet_Net} (h : NOk b n) (c k : Int) : m_net_Net_Peer c k n = some (peerN n c k) := by
  rw [m_net_Net_Peer, find_code h, Option.bind_some, peerN]
  cases hf : fndX (isC c) n.fconns 0 with
  | none => rfl
  | some z =>
    obtain ⟨i, x⟩ := z
    obtain ⟨h1, -, h3, -⟩ := take_fnd hf
    have hat : at_ n.fconns (i : Int) = some x := by rw [at_nat h1, ← List.getElem?_eq_getElem h1]; exact h3
    simp only [if_true]
    rw [hat, Option.bind_some, has_code, Option.bind_some]
    by_cases hh : hasC k x = true
    · rw [if_pos hh, if_pos hh, Option.bind_some, other_code, Option.bind_some]
    · rw [if_neg hh, if_neg hh]
def writeN (n : Gnet_Net) (c a : Int) (s : ByteArray) : Bool × Gnet_Net :=
  if (peerN n c a).2 = true then (if 1024 ≤ (n.fitems.length : Int) then (false, n) else (true, addN n ⟨0, 3, a, (peerN n c a).1, c, s⟩)) else (false, n)
theorem write_code {b : Int} {n : Gnet_Net} (h : NOk b n) (hb : b ≤ 1000000) (c a : Int) (s : ByteArray) : m_net_Net_Write c a s n = some (writeN n c a s) := by
  rw [m_net_Net_Write, peer_code h, Option.bind_some, writeN]
  by_cases hp : (peerN n c a).2 = true
  · rw [if_pos hp, if_pos hp, full_code, Option.bind_some]
    by_cases hc : 1024 ≤ (n.fitems.length : Int)
    · rw [if_pos (decide_eq_true hc), if_pos hc]
    · rw [if_neg (by simpa using hc), if_neg hc, add_code h hb, Option.bind_some]; rfl
  · rw [if_neg hp, if_neg hp]
theorem otherC_ok {b : Int} {n : Gnet_Net} (h : NOk b n) {x : Gnet_conn} (hx : x ∈ n.fconns) (k : Int) : i64R (otherC x k) := by
  obtain ⟨-, h1, h2, -⟩ := h.cr x hx
  unfold otherC; split <;> assumption
theorem writeN_ok {b : Int} {n : Gnet_Net} (h : NOk b n) {c a : Int} {s : ByteArray} (hc : i64R c) : NOk (b + 1) (writeN n c a s).2 := by
  unfold writeN
  split
  · rename_i hp
    split
    · exact h.more (by omega)
    · refine addN_ok h hc ?_
      unfold peerN at hp ⊢
      cases hf : fndX (isC c) n.fconns 0 with
      | none => simp [hf] at hp
      | some z =>
        obtain ⟨i, x⟩ := z
        obtain ⟨h1, -, h3, -⟩ := take_fnd hf
        simp only
        split
        · exact otherC_ok h (List.mem_of_getElem? h3) a
        · exact i64_0
  · exact h.more (by omega)
def delAt {α : Type} (l : List α) (i : Nat) : List α := l.take i ++ l.drop (i + 1)
theorem del37 {l : List GItem} {i : Nat} (hi : i < l.length) (hl : l.length ≤ 1000000) : m_slices_Delete_37 l (i : Int) (w64 ((i : Int) + 1)) = some (delAt l i) := by
  rw [w64_id (by omega) (by omega), m_slices_Delete_37, cutMid, if_pos ⟨by omega, by omega, by omega⟩, Option.bind_some, if_neg (by omega), cutHi, if_pos ⟨by omega, by omega⟩, Option.bind_some, cutLo, if_pos ⟨by omega, by omega⟩, Option.bind_some]
  rfl
theorem del30 {l : List Gnet_conn} {i : Nat} (hi : i < l.length) (hl : l.length ≤ 1000000) : m_slices_Delete_30 l (i : Int) (w64 ((i : Int) + 1)) = some (delAt l i) := by
  rw [w64_id (by omega) (by omega), m_slices_Delete_30, cutMid, if_pos ⟨by omega, by omega, by omega⟩, Option.bind_some, if_neg (by omega), cutHi, if_pos ⟨by omega, by omega⟩, Option.bind_some, cutLo, if_pos ⟨by omega, by omega⟩, Option.bind_some]
  rfl
theorem delAt_sub {α : Type} (l : List α) (i : Nat) : (delAt l i).Sublist l := by
  unfold delAt
  conv => rhs; rw [← List.take_append_drop i l]
  refine List.Sublist.append (List.Sublist.refl _) ?_
  rw [← List.drop_drop]
  exact List.drop_sublist _ _
def cIs (c : Int) (x : GItem) : Bool := decide (x.fConn = c)
theorem delf31 {l : List GItem} (hl : l.length ≤ 1000000) (c : Int) : m_slices_DeleteFunc_31 l c = some (l.filter fun x => !cIs c x) := by
  have h1 := idx_loop (cIs c) (l := l) (by omega) (fun s => m_slices_IndexFunc_54_s2 l c s) (fun i => by
    simp only [m_slices_IndexFunc_54_s2, m_net_Net_Close_c1, Option.bind_some, cIs]; rfl) l [] rfl
  have h2 : m_slices_IndexFunc_54 l c = some (fndI (fndX (cIs c) l 0)) := by
    rw [m_slices_IndexFunc_54]
    erw [h1]
    cases hf : fndX (cIs c) l 0 with
    | none => simp only [List.length_nil, hf]; rfl
    | some z => simp only [List.length_nil, hf]; rfl
  exact delf_eq (cIs c) (by omega) _ (fun s => m_slices_DeleteFunc_31_s2 c s.1 s.2.1 s.2.2) h2 (fun q i j => by
    simp only [m_slices_DeleteFunc_31_s2, m_net_Net_Close_c1, Option.bind_some, cIs]; rfl)
def tellC (x : Gnet_conn) (to : Int) : GItem := ⟨0, 4, otherC x to, to, x.fnumber, ⟨#[]⟩⟩
theorem closed_code {b : Int} {n : Gnet_Net} (h : NOk b n) (hb : b ≤ 1000000) (x : Gnet_conn) (to : Int) : m_net_Net_closed x to n = some (addN n (tellC x to)) := by
  rw [m_net_Net_closed, other_code, Option.bind_some, add_code h hb, Option.bind_some]; rfl
def closeN (n : Gnet_Net) (c : Int) : Bool × Gnet_Net := match fndX (isC c) n.fconns 0 with
  | some z => (true, addN (addN ⟨n.fitems.filter fun x => !cIs c x, delAt n.fconns z.1, n.flast, n.fopens⟩ (tellC z.2 z.2.fends.a0)) (tellC z.2 z.2.fends.a1))
  | none => (false, n)
theorem sub_ok {b : Int} {n : Gnet_Net} (h : NOk b n) {l : List GItem} {cs : List Gnet_conn} (hl : l.Sublist n.fitems) (hc : cs.Sublist n.fconns) : NOk b ⟨l, cs, n.flast, n.fopens⟩ :=
  ⟨by have := h.il; have := hl.length_le; simp only; omega, Nat.le_trans hc.length_le h.cl, h.la, h.op, fun x hx => h.ir x (hl.subset hx), h.ip.sublist hl, fun x hx => h.cr x (hc.subset hx), h.cp.sublist hc⟩
theorem num_ok {b : Int} {n : Gnet_Net} (h : NOk b n) (hb : b ≤ 1000000) {x : Gnet_conn} (hx : x ∈ n.fconns) : i64R x.fnumber := by
  obtain ⟨-, -, -, h1, h2⟩ := h.cr x hx
  have := h.op
  exact ⟨by omega, by omega⟩
theorem close_code {b : Int} {n : Gnet_Net} (h : NOk b n) (hb : b ≤ 100000) (c : Int) : m_net_Net_Close c n = some (closeN n c) := by
  rw [m_net_Net_Close, find_code h, Option.bind_some, closeN]
  cases hf : fndX (isC c) n.fconns 0 with
  | none => rfl
  | some z =>
    obtain ⟨i, x⟩ := z
    obtain ⟨h1, -, h3, -⟩ := take_fnd hf
    have il := h.il; have cl := h.cl
    have hat : at_ n.fconns (i : Int) = some x := by rw [at_nat h1, ← List.getElem?_eq_getElem h1]; exact h3
    have hxm := List.mem_of_getElem? h3
    have ok0 := sub_ok h (List.filter_sublist (p := fun x => !cIs c x) (l := n.fitems)) (delAt_sub n.fconns i)
    have ok1 := addN_ok (x := tellC x x.fends.a0) ok0 (num_ok h (by omega) hxm) (h.cr x hxm).2.1
    simp only [if_true]
    rw [hat, Option.bind_some, del30 h1 (by omega), Option.bind_some, delf31 (by omega), Option.bind_some, closed_code ok0 (by omega), Option.bind_some]
    erw [closed_code ok1 (by omega)]
    rfl
theorem closeN_ok {b : Int} {n : Gnet_Net} (h : NOk b n) (hb : b ≤ 100000) (c : Int) : NOk (b + 2) (closeN n c).2 := by
  unfold closeN
  cases hf : fndX (isC c) n.fconns 0 with
  | none => exact h.more (by omega)
  | some z =>
    obtain ⟨i, x⟩ := z
    obtain ⟨h1, -, h3, -⟩ := take_fnd hf
    have hxm := List.mem_of_getElem? h3
    have ok0 := sub_ok h (List.filter_sublist (p := fun x => !cIs c x) (l := n.fitems)) (delAt_sub n.fconns i)
    have ok1 := addN_ok (x := tellC x x.fends.a0) ok0 (num_ok h (by omega) hxm) (h.cr x hxm).2.1
    have ok2 := addN_ok (x := tellC x x.fends.a1) ok1 (num_ok h (by omega) hxm) (h.cr x hxm).2.2.1
    exact ok2.more (by omega)
open Go.RowKit
def isRdy (pre : List GItem) (x : GItem) : Bool := decide (x.fKind = 1) || pre.all fun y => decide (y.fKind = 1) || decide (y.fConn ≠ x.fConn) || decide (y.fTo ≠ x.fTo)
def rdyI : List GItem → List GItem → List Int
  | _, [] => []
  | pre, x :: r => if isRdy pre x = true then (pre.length : Int) :: rdyI (pre ++ [x]) r else rdyI (pre ++ [x]) r
def rdyL : List GItem → List GItem → List GItem
  | _, [] => []
  | pre, x :: r => if isRdy pre x = true then x :: rdyL (pre ++ [x]) r else rdyL (pre ++ [x]) r
theorem rdyI_len : ∀ (r pre : List GItem), (rdyI pre r).length = (rdyL pre r).length ∧ (rdyI pre r).length ≤ r.length
  | [], pre => ⟨rfl, Nat.le_refl _⟩
  | x :: r, pre => by
    obtain ⟨h1, h2⟩ := rdyI_len r (pre ++ [x])
    rw [rdyI, rdyL]
    split
    · exact ⟨by simp [h1], by simp only [List.length_cons]; omega⟩
    · exact ⟨h1, by simp only [List.length_cons]; omega⟩
theorem rdy_at {all : List GItem} : ∀ (r pre : List GItem), all = pre ++ r → ∀ j, j < (rdyI pre r).length → ∃ i : Nat, (rdyI pre r)[j]? = some (i : Int) ∧ i < all.length ∧ pre.length ≤ i ∧ all[i]? = (rdyL pre r)[j]?
  | [], pre, h, j, hj => by simp [rdyI] at hj
  | x :: r, pre, h, j, hj => by
    have h' : all = (pre ++ [x]) ++ r := by rw [h]; simp
    rw [rdyI, rdyL]
    rw [rdyI] at hj
    by_cases hr : isRdy pre x = true
    · rw [if_pos hr] at hj
      rw [if_pos hr, if_pos hr]
      cases j with
      | zero => exact ⟨pre.length, rfl, by rw [h]; simp, Nat.le_refl _, by rw [h]; simp⟩
      | succ j =>
        obtain ⟨i, h1, h2, h3, h4⟩ := rdy_at r (pre ++ [x]) h' j (by simpa using hj)
        simp only [List.length_append, List.length_singleton] at h3
        exact ⟨i, by simpa using h1, h2, by omega, by simpa using h4⟩
    · rw [if_neg hr] at hj
      rw [if_neg hr, if_neg hr]
      obtain ⟨i, h1, h2, h3, h4⟩ := rdy_at r (pre ++ [x]) h' j hj
      simp only [List.length_append, List.length_singleton] at h3
      exact ⟨i, h1, h2, by omega, h4⟩
def okL (x : Gnet_lane) : Bool := decide ((-9223372036854775808) ≤ x.fconn ∧ x.fconn ≤ 9223372036854775807 ∧ (-9223372036854775808) ≤ x.fto ∧ x.fto ≤ 9223372036854775807)
theorem ready_loop {N : Gnet_Net} (hl : N.fitems.length ≤ 1000000) (hr : ∀ x ∈ N.fitems, i64R x.fConn ∧ i64R x.fTo) : ∀ (r pre : List GItem) (acc : List Int) (m : List (Gnet_lane × Bool)), N.fitems = pre ++ r → acc.length ≤ pre.length →
    okM okL m → (∀ ln, (getM false m ln).1 = pre.any fun y => decide (y.fKind ≠ 1) && decide (y.fConn = ln.fconn) && decide (y.fTo = ln.fto)) →
    loop (fun s : List Int × List (Gnet_lane × Bool) × Int => m_net_Net_ready_s2 N s.1 s.2.1 s.2.2) (acc, m, (pre.length : Int)) = some (acc ++ rdyI pre r) := by
  intro r
  induction r with
  | nil =>
    intro pre acc m h ha hm hg
    rw [List.append_nil] at h
    rw [loop_inr (by simp only [m_net_Net_ready_s2]; rw [if_neg (by rw [h]; omega)])]
    simp [rdyI]
  | cons x r ih =>
    intro pre acc m h ha hm hg
    have hlen : N.fitems.length = pre.length + (r.length + 1) := by rw [h]; simp
    have hat : at_ N.fitems (pre.length : Int) = some x := by rw [at_nat (by omega)]; simp [h]
    obtain ⟨x1, x2⟩ := hr x (by rw [h]; simp)
    have hst := m_net_Net_ready_s2.eq_def N acc m (pre.length : Int)
    rw [if_pos (by omega), hat, Option.bind_some] at hst
    have hp : (((pre ++ [x]).length : Nat) : Int) = (pre.length : Int) + 1 := by simp
    have hrest := fun acc' m' h1 h2 h3 => ih (pre ++ [x]) acc' m' (by rw [h]; simp) h1 h2 h3
    rw [hp] at hrest
    have hok : okL ⟨x.fConn, x.fTo⟩ = true := decide_eq_true ⟨x1.1, x1.2, x2.1, x2.2⟩
    rw [rdyI]
    by_cases hk : x.fKind = 1
    · have hrd : isRdy pre x = true := by simp [isRdy, hk]
      rw [if_pos hk, app_of (by simp; omega), Option.bind_some, m_net_Net_ready_j3, if_neg (by simp [hk]), w64_id (by omega) (by omega)] at hst
      rw [if_pos hrd]
      refine (loop_inl hst).trans ?_
      have := hrest (acc ++ [(pre.length : Int)]) m (by simp; omega) hm (fun ln => by rw [hg ln, List.any_append]; simp [hk])
      rw [this]; simp
    · have hget : mget okL false m ⟨x.fConn, x.fTo⟩ = some (getM false m ⟨x.fConn, x.fTo⟩) := if_pos ⟨hok, hm⟩
      have hput : mput okL m ⟨x.fConn, x.fTo⟩ true = some (putM m ⟨x.fConn, x.fTo⟩ true) := if_pos ⟨hok, hm⟩
      have hm' := putM_ok (v := true) hok hm
      have hg' : ∀ ln, (getM false (putM m ⟨x.fConn, x.fTo⟩ true) ln).1 = (pre ++ [x]).any fun y => decide (y.fKind ≠ 1) && decide (y.fConn = ln.fconn) && decide (y.fTo = ln.fto) := by
        intro ln
        rw [getM_put, List.any_append]
        by_cases he : (⟨x.fConn, x.fTo⟩ : Gnet_lane) = ln
        · subst he; simp [hk]
        · rw [if_neg he, hg ln]
          have : ¬ (x.fConn = ln.fconn ∧ x.fTo = ln.fto) := fun hh => he (by cases ln; simp only at hh; simp [hh])
          by_cases h1 : x.fConn = ln.fconn
          · have h2 : ¬ x.fTo = ln.fto := fun h2 => this ⟨h1, h2⟩
            simp [h2]
          · simp [h1]
      rw [if_neg hk] at hst
      erw [hget] at hst
      rw [Option.bind_some] at hst
      have hrd : isRdy pre x = !(getM false m ⟨x.fConn, x.fTo⟩).1 := by
        rw [hg, isRdy, decide_eq_false hk, Bool.false_or, Bool.eq_iff_iff]
        simp only [List.all_eq_true, Bool.or_eq_true, decide_eq_true_eq, Bool.not_eq_true', List.any_eq_false, Bool.and_eq_true]
        constructor
        · intro hh y hy hc
          rcases hh y hy with (h1 | h1) | h1
          · exact hc.1.1 h1
          · exact h1 hc.1.2
          · exact h1 hc.2
        · intro hh y hy
          by_cases h1 : y.fKind = 1
          · exact .inl (.inl h1)
          · by_cases h2 : y.fConn = x.fConn
            · exact .inr fun h3 => hh y hy ⟨⟨h1, h2⟩, h3⟩
            · exact .inl (.inr h2)
      cases hb : (getM false m ⟨x.fConn, x.fTo⟩).1 with
      | true =>
        rw [if_pos hb, m_net_Net_ready_j3, if_pos hk] at hst
        erw [hput] at hst
        rw [Option.bind_some, w64_id (by omega) (by omega)] at hst
        rw [if_neg (by rw [hrd, hb]; decide)]
        exact (loop_inl hst).trans (hrest acc _ (by simp; omega) hm' hg')
      | false =>
        rw [if_neg (by rw [hb]; decide), app_of (by simp; omega), Option.bind_some, m_net_Net_ready_j3, if_pos hk] at hst
        erw [hput] at hst
        rw [Option.bind_some, w64_id (by omega) (by omega)] at hst
        rw [if_pos (by rw [hrd, hb]; rfl)]
        refine (loop_inl hst).trans ?_
        rw [hrest (acc ++ [(pre.length : Int)]) _ (by simp; omega) hm' hg']
        simp
theorem ready_code {b : Int} {n : Gnet_Net} (h : NOk b n) (hb : b ≤ 1000000) : m_net_Net_ready n = some (rdyI [] n.fitems) := by
  have il := h.il
  have := ready_loop (N := n) (by omega) (fun x hx => ⟨(h.ir x hx).1, (h.ir x hx).2.1⟩) n.fitems [] [] [] rfl (by simp) ⟨fun _ h => (by cases h), List.nodup_nil⟩ (fun ln => rfl)
  rw [m_net_Net_ready]
  erw [this]
  rfl
def dgI : List GItem → Nat → List Int
  | [], _ => []
  | x :: r, i => if x.fKind = 1 then (i : Int) :: dgI r (i + 1) else dgI r (i + 1)
def dgL (l : List GItem) : List GItem := l.filter fun x => decide (x.fKind = 1)
theorem dgI_len : ∀ (r : List GItem) (i : Nat), (dgI r i).length = (dgL r).length
  | [], i => rfl
  | x :: r, i => by
    rw [dgI, dgL, List.filter_cons]
    by_cases h : x.fKind = 1
    · rw [if_pos h, if_pos (by simp [h])]; simp [dgI_len r (i + 1), dgL]
    · rw [if_neg h, if_neg (by simp [h])]; exact dgI_len r (i + 1)
theorem dg_at {all : List GItem} : ∀ (r pre : List GItem), all = pre ++ r → ∀ j, j < (dgI r pre.length).length → ∃ i : Nat, (dgI r pre.length)[j]? = some (i : Int) ∧ i < all.length ∧ all[i]? = (dgL r)[j]?
  | [], pre, h, j, hj => by simp [dgI] at hj
  | x :: r, pre, h, j, hj => by
    have h' : all = (pre ++ [x]) ++ r := by rw [h]; simp
    have hp : (pre ++ [x]).length = pre.length + 1 := by simp
    rw [dgI, dgL, List.filter_cons]
    rw [dgI] at hj
    by_cases hr : x.fKind = 1
    · rw [if_pos hr] at hj
      rw [if_pos hr, if_pos (by simp [hr])]
      cases j with
      | zero => exact ⟨pre.length, rfl, by rw [h]; simp, by rw [h]; simp⟩
      | succ j =>
        obtain ⟨i, h1, h2, h4⟩ := dg_at r (pre ++ [x]) h' j (by rw [hp]; simpa using hj)
        rw [hp] at h1
        exact ⟨i, by simpa using h1, h2, by simpa [dgL] using h4⟩
    · rw [if_neg hr] at hj
      rw [if_neg hr, if_neg (by simp [hr])]
      obtain ⟨i, h1, h2, h4⟩ := dg_at r (pre ++ [x]) h' j (by rw [hp]; exact hj)
      rw [hp] at h1
      exact ⟨i, h1, h2, h4⟩
theorem dg_loop {N : Gnet_Net} (hl : N.fitems.length ≤ 1000000) : ∀ (r pre : List GItem) (acc : List Int), N.fitems = pre ++ r → acc.length ≤ pre.length →
    loop (fun s : List Int × Int => m_net_Net_datagrams_s2 N s.1 s.2) (acc, (pre.length : Int)) = some (acc ++ dgI r pre.length) := by
  intro r
  induction r with
  | nil =>
    intro pre acc h ha
    rw [List.append_nil] at h
    rw [loop_inr (by simp only [m_net_Net_datagrams_s2]; rw [if_neg (by rw [h]; omega)])]
    simp [dgI]
  | cons x r ih =>
    intro pre acc h ha
    have hlen : N.fitems.length = pre.length + (r.length + 1) := by rw [h]; simp
    have hat : at_ N.fitems (pre.length : Int) = some x := by rw [at_nat (by omega)]; simp [h]
    have hst := m_net_Net_datagrams_s2.eq_def N acc (pre.length : Int)
    rw [if_pos (by omega), hat, Option.bind_some] at hst
    have hp : (((pre ++ [x]).length : Nat) : Int) = (pre.length : Int) + 1 := by simp
    have hp2 : (pre ++ [x]).length = pre.length + 1 := by simp
    have hrest := fun acc' h1 => ih (pre ++ [x]) acc' (by rw [h]; simp) h1
    rw [hp, hp2] at hrest
    rw [dgI]
    by_cases hk : x.fKind = 1
    · rw [if_pos hk, app_of (by simp; omega), Option.bind_some, w64_id (by omega) (by omega)] at hst
      rw [if_pos hk]
      refine (loop_inl hst).trans ?_
      rw [hrest _ (by simp; omega)]
      simp
    · rw [if_neg hk, w64_id (by omega) (by omega)] at hst
      rw [if_neg hk]
      exact (loop_inl hst).trans (hrest acc (by omega))
theorem dg_code {b : Int} {n : Gnet_Net} (h : NOk b n) (hb : b ≤ 1000000) : m_net_Net_datagrams n = some (dgI n.fitems 0) := by
  have il := h.il
  have := dg_loop (N := n) (by omega) n.fitems [] [] rfl (by simp)
  rw [m_net_Net_datagrams]
  erw [this]
  rfl
def pickP (p : Int) (n : Nat) : Nat := ((if p < 0 then -(p + 1) else p) % (n : Int)).toNat
theorem pickP_lt (p : Int) {n : Nat} (hn : 0 < n) : pickP p n < n := by
  unfold pickP
  have h1 := Int.emod_nonneg (if p < 0 then -(p + 1) else p) (by omega : (n : Int) ≠ 0)
  have h2 := Int.emod_lt_of_pos (if p < 0 then -(p + 1) else p) (by omega : (0 : Int) < n)
  omega
/-- The place that a pick means. -/
def pickI (l : List Int) (p : Int) : Int × Bool := if l.length = 0 then (0, false) else ((l[pickP p l.length]?).getD 0, true)
theorem pick_j {l : List Int} (hl : 0 < l.length) {p : Int} (h0 : 0 ≤ p) : ((dvd (l.length : Int)).bind fun _ => (at_ l (p.tmod (l.length : Int))).bind fun x10 => some (x10, true)) = some ((l[(p % (l.length : Int)).toNat]?).getD 0, true) := by
  have h1 := Int.emod_nonneg p (by omega : (l.length : Int) ≠ 0)
  have h2 := Int.emod_lt_of_pos p (by omega : (0 : Int) < l.length)
  rw [dvd, if_pos (by omega), Option.bind_some, Int.tmod_eq_emod_of_nonneg h0, at_of h1 (by omega), Option.bind_some, List.getElem?_eq_getElem (by omega)]
  rfl
theorem picked_code {b : Int} {n : Gnet_Net} (h : NOk b n) (hb : b ≤ 1000000) {p : Int} (hp : i64R p) : m_net_Net_picked p n = some (pickI (rdyI [] n.fitems) p) := by
  obtain ⟨p1, p2⟩ := hp
  rw [m_net_Net_picked, ready_code h hb, Option.bind_some, pickI]
  by_cases h0 : (rdyI [] n.fitems).length = 0
  · rw [if_pos (by omega), if_pos h0]
  rw [if_neg (by omega), if_neg h0]
  unfold pickP
  by_cases hn : p < 0
  · rw [if_pos hn, if_pos hn, m_net_Net_picked_j1, w64_id (x := p + 1) (by omega) (by omega), w64_id (by omega) (by omega), show 0 - (p + 1) = -(p + 1) by omega]
    exact pick_j (by omega) (by omega)
  · rw [if_neg hn, if_neg hn, m_net_Net_picked_j1]
    exact pick_j (by omega) (by omega)
theorem picked2_code {b : Int} {n : Gnet_Net} (h : NOk b n) (hb : b ≤ 1000000) {p : Int} (hp : i64R p) : m_net_Net_picked_2 p n = some (pickI (dgI n.fitems 0) p) := by
  obtain ⟨p1, p2⟩ := hp
  rw [m_net_Net_picked_2, dg_code h hb, Option.bind_some, pickI]
  by_cases h0 : (dgI n.fitems 0).length = 0
  · rw [if_pos (by omega), if_pos h0]
  rw [if_neg (by omega), if_neg h0]
  unfold pickP
  by_cases hn : p < 0
  · rw [if_pos hn, if_pos hn, m_net_Net_picked_2_j1, w64_id (x := p + 1) (by omega) (by omega), w64_id (by omega) (by omega), show 0 - (p + 1) = -(p + 1) by omega]
    exact pick_j (by omega) (by omega)
  · rw [if_neg hn, if_neg hn, m_net_Net_picked_2_j1]
    exact pick_j (by omega) (by omega)
theorem pickI_rdy (l : List GItem) (p : Int) : (pickI (rdyI [] l) p).2 = true → ∃ (i : Nat) (x : GItem), (pickI (rdyI [] l) p).1 = (i : Int) ∧ i < l.length ∧ l[i]? = some x ∧ (rdyL [] l)[pickP p (rdyL [] l).length]? = some x ∧ (rdyL [] l).length ≠ 0 := by
  intro h
  unfold pickI at h ⊢
  have hll := (rdyI_len l []).1
  by_cases h0 : (rdyI [] l).length = 0
  · rw [if_pos h0] at h; cases h
  rw [if_neg h0]
  have hlt := pickP_lt p (by omega : 0 < (rdyI [] l).length)
  obtain ⟨i, g1, g2, -, g4⟩ := rdy_at (all := l) l [] rfl _ hlt
  rw [List.getElem?_eq_getElem g2] at g4
  rw [hll] at g4
  exact ⟨i, l[i], by simp only [g1]; rfl, g2, List.getElem?_eq_getElem g2, g4.symm, by omega⟩
theorem pickI_dg (l : List GItem) (p : Int) : (pickI (dgI l 0) p).2 = true → ∃ (i : Nat) (x : GItem), (pickI (dgI l 0) p).1 = (i : Int) ∧ i < l.length ∧ l[i]? = some x ∧ (dgL l)[pickP p (dgL l).length]? = some x ∧ (dgL l).length ≠ 0 := by
  intro h
  unfold pickI at h ⊢
  have hll := dgI_len l 0
  by_cases h0 : (dgI l 0).length = 0
  · rw [if_pos h0] at h; cases h
  rw [if_neg h0]
  have hlt := pickP_lt p (by omega : 0 < (dgI l 0).length)
  obtain ⟨i, g1, g2, g4⟩ := dg_at (all := l) l [] rfl _ hlt
  rw [List.getElem?_eq_getElem g2] at g4
  rw [hll] at g4
  exact ⟨i, l[i], by
    have g1 : (dgI l 0)[pickP p (dgI l 0).length]? = some (i : Int) := g1
    simp only [g1]; rfl, g2, List.getElem?_eq_getElem g2, g4.symm, by omega⟩
theorem pickI_no (l : List Int) (p : Int) : (pickI l p).2 = false ↔ l.length = 0 := by
  unfold pickI
  by_cases h : l.length = 0
  · rw [if_pos h]; exact ⟨fun _ => h, fun _ => rfl⟩
  · rw [if_neg h]; exact ⟨fun h' => by simp at h', fun h' => absurd h' h⟩
def item0 : GItem := ⟨0, 0, 0, 0, 0, ⟨#[]⟩⟩
def takeN (n : Gnet_Net) (p : Int) : GItem × Bool × Gnet_Net :=
  if (pickI (rdyI [] n.fitems) p).2 = true then ((n.fitems[(pickI (rdyI [] n.fitems) p).1.toNat]?).getD item0, true, ⟨delAt n.fitems (pickI (rdyI [] n.fitems) p).1.toNat, n.fconns, n.flast, n.fopens⟩) else (item0, false, n)
theorem take_code {b : Int} {n : Gnet_Net} (h : NOk b n) (hb : b ≤ 1000000) {p : Int} (hp : i64R p) : m_net_Net_Take p n = some (takeN n p) := by
  have il := h.il
  rw [m_net_Net_Take, picked_code h hb hp, Option.bind_some, takeN]
  by_cases hc : (pickI (rdyI [] n.fitems) p).2 = true
  · obtain ⟨i, x, h1, h2, h3, -⟩ := pickI_rdy n.fitems p hc
    rw [if_pos hc, if_pos hc, h1, at_nat h2, Option.bind_some, del37 h2 (by omega), Option.bind_some, Int.toNat_natCast, List.getElem?_eq_getElem h2]
    rfl
  · rw [if_neg hc, if_neg hc]; rfl
def dropN (n : Gnet_Net) (p : Int) : Bool × Gnet_Net :=
  if (pickI (dgI n.fitems 0) p).2 = true then (true, ⟨delAt n.fitems (pickI (dgI n.fitems 0) p).1.toNat, n.fconns, n.flast, n.fopens⟩) else (false, n)
theorem drop_code {b : Int} {n : Gnet_Net} (h : NOk b n) (hb : b ≤ 1000000) {p : Int} (hp : i64R p) : m_net_Net_Drop p n = some (dropN n p) := by
  have il := h.il
  rw [m_net_Net_Drop, picked2_code h hb hp, Option.bind_some, dropN]
  by_cases hc : (pickI (dgI n.fitems 0) p).2 = true
  · obtain ⟨i, x, h1, h2, h3, -⟩ := pickI_dg n.fitems p hc
    rw [if_pos hc, if_pos hc, h1, del37 h2 (by omega), Option.bind_some, Int.toNat_natCast, m_net_Net_Drop_j1, hc]
  · rw [if_neg hc, if_neg hc, m_net_Net_Drop_j1, (Bool.not_eq_true _).mp hc]
theorem takeN_ok {b : Int} {n : Gnet_Net} (h : NOk b n) (p : Int) : NOk b (takeN n p).2.2 := by
  unfold takeN
  split
  · exact sub_ok h (delAt_sub _ _) (List.Sublist.refl _)
  · exact h
theorem Ready_loop {N : Gnet_Net} (hl : N.fitems.length ≤ 1000000) {ix : List Int} {ls : List GItem} (hix : ix.length = ls.length) (hi : ix.length ≤ 1000000) (hat : ∀ j, j < ix.length → ∃ i : Nat, ix[j]? = some (i : Int) ∧ i < N.fitems.length ∧ N.fitems[i]? = ls[j]?) : ∀ (d j : Nat), j + d = ix.length →
    loop (fun s : List GItem × Int => m_net_Net_Ready_s2 ix N s.1 s.2) (ls.take j, (j : Int)) = some ls := by
  intro d
  induction d with
  | zero =>
    intro j hj
    rw [loop_inr (by simp only [m_net_Net_Ready_s2]; rw [if_neg (by omega)])]
    congr 1
    exact List.take_of_length_le (by omega)
  | succ d ih =>
    intro j hj
    obtain ⟨i, g1, g2, g3⟩ := hat j (by omega)
    have hst := m_net_Net_Ready_s2.eq_def ix N (ls.take j) (j : Int)
    have hj1 : ix[j]'(by omega) = (i : Int) := (List.getElem?_eq_some_iff.1 g1).2
    rw [List.getElem?_eq_getElem g2, List.getElem?_eq_getElem (by omega : j < ls.length)] at g3
    injection g3 with g3
    rw [if_pos (by omega), at_nat (by omega), Option.bind_some, hj1, at_nat g2, Option.bind_some, g3, app_of (by simp; omega), Option.bind_some, w64_id (by omega) (by omega)] at hst
    refine (loop_inl hst).trans ?_
    have := ih (j + 1) (by omega)
    rw [show (j : Int) + 1 = ((j + 1 : Nat) : Int) by omega, show ls.take j ++ [ls[j]] = ls.take (j + 1) by rw [List.take_succ_eq_append_getElem (by omega)]]
    exact this
theorem Ready_code {b : Int} {n : Gnet_Net} (h : NOk b n) (hb : b ≤ 1000000) : m_net_Net_Ready n = some (rdyL [] n.fitems) := by
  have il := h.il
  obtain ⟨l1, l2⟩ := rdyI_len n.fitems []
  have := Ready_loop (N := n) (by omega) l1 (by omega) (fun j hj => by
    obtain ⟨i, g1, g2, -, g4⟩ := rdy_at (all := n.fitems) n.fitems [] rfl j hj
    exact ⟨i, g1, g2, g4⟩) (rdyI [] n.fitems).length 0 (by omega)
  rw [m_net_Net_Ready, ready_code h hb, Option.bind_some]
  rw [List.take_zero] at this
  erw [this]
  rfl
def doubleN (n : Gnet_Net) (p : Int) : Bool × Gnet_Net :=
  if (pickI (dgI n.fitems 0) p).2 = true then (if 1024 ≤ (n.fitems.length : Int) then (false, n) else (true, addN n ((n.fitems[(pickI (dgI n.fitems 0) p).1.toNat]?).getD item0))) else (false, n)
theorem double_code {b : Int} {n : Gnet_Net} (h : NOk b n) (hb : b ≤ 1000000) {p : Int} (hp : i64R p) : m_net_Net_Double p n = some (doubleN n p) := by
  have il := h.il
  rw [m_net_Net_Double, picked2_code h hb hp, Option.bind_some, doubleN]
  by_cases hc : (pickI (dgI n.fitems 0) p).2 = true
  · obtain ⟨i, x, h1, h2, h3, -⟩ := pickI_dg n.fitems p hc
    rw [if_pos hc, if_pos hc, full_code, Option.bind_some]
    by_cases h4 : 1024 ≤ (n.fitems.length : Int)
    · rw [if_pos (decide_eq_true h4), if_pos h4]
    · rw [if_neg (by simpa using h4), if_neg h4, h1, at_nat h2, Option.bind_some, add_code h hb, Option.bind_some, Int.toNat_natCast, List.getElem?_eq_getElem h2]
      rfl
  · rw [if_neg hc, if_neg hc]
open Go.RowKit
open Go.RowKit
theorem rpick {p : Int} (hp : i64R p) {n : Nat} (hn : 0 < n) (hn2 : n ≤ 1000000) : m_ref08_Pick p (n : Int) = some ((pickP p n : Nat) : Int) := by
  obtain ⟨p1, p2⟩ := hp
  have hj : ∀ q : Int, 0 ≤ q → m_ref08_Pick_j1 (n : Int) q = some (((q % (n : Int)).toNat : Nat) : Int) := by
    intro q hq
    have h1 := Int.emod_nonneg q (by omega : (n : Int) ≠ 0)
    rw [m_ref08_Pick_j1, dvd, if_pos (by omega), Option.bind_some, Int.tmod_eq_emod_of_nonneg hq]
    congr 1
    omega
  rw [m_ref08_Pick, pickP]
  by_cases h : p < 0
  · rw [if_pos h, if_pos h, w64_id (x := p + 1) (by omega) (by omega), w64_id (by omega) (by omega), show 0 - (p + 1) = -(p + 1) by omega, hj _ (by omega)]
  · rw [if_neg h, if_neg h, hj _ (by omega)]
theorem awake08 : m_law08_awake = some true := by
  have k0 := newN_ok
  have r1 : i64R 1 := by decide
  have r2 : i64R 2 := by decide
  have r0 : i64R 0 := by decide
  have k1 := sendN_ok k0 (a := 1) (c := 2) (s := ⟨#[97]⟩) r2
  have k2 := sendN_ok k1 (a := 2) (c := 1) (s := ⟨#[98]⟩) r1
  have k3 := takeN_ok k2 1
  have k4 := takeN_ok k3 0
  have k5 := takeN_ok k4 0
  have k6 := openN_ok k5 (by omega) (a := 1) (c := 2) r1 r2
  have k7 := writeN_ok k6 (c := 1) (a := 1) (s := ⟨#[120]⟩) r1
  have k8 := writeN_ok k7 (c := 1) (a := 1) (s := ⟨#[121]⟩) r1
  have k9 := closeN_ok k8 (by omega) 1
  have e1 := send_code k0 (by omega) 1 2 ⟨#[97]⟩
  have e2 := send_code k1 (by omega) 2 1 ⟨#[98]⟩
  have e3 := take_code k2 (by omega) r1
  have e4 := take_code k3 (by omega) r0
  have e5 := take_code k4 (by omega) r0
  have e6 := open_code k5 (by omega) r1 r2
  have e7 := write_code k6 (by omega) 1 1 ⟨#[120]⟩
  have e8 := write_code k7 (by omega) 1 1 ⟨#[121]⟩
  have e9 := Ready_code k8 (by omega)
  have e10 := close_code k8 (by omega) 1
  have e11 := Ready_code k9 (by omega)
  rw [m_law08_awake]
  erw [show m_net_New = some newN from rfl]
  rw [Option.bind_some, e1, Option.bind_some]
  erw [e2]
  rw [Option.bind_some]
  erw [e3]
  rw [Option.bind_some]
  erw [e4]
  rw [Option.bind_some]
  erw [e5]
  rw [Option.bind_some]
  erw [e6]
  rw [Option.bind_some]
  erw [e7]
  rw [Option.bind_some]
  erw [e8]
  rw [Option.bind_some]
  erw [e9]
  rw [Option.bind_some]
  erw [e10]
  rw [Option.bind_some]
  erw [e11]
  rw [Option.bind_some]
  rfl
open Go.RowKit
open Go.RowKit
theorem del_split {α : Type} {l : List α} {i : Nat} {x : α} (hx : l[i]? = some x) : l = l.take i ++ x :: l.drop (i + 1) := by
  have hi := (List.getElem?_eq_some_iff.1 hx).1
  have hxe := (List.getElem?_eq_some_iff.1 hx).2
  conv => lhs; rw [← List.take_append_drop i l, List.drop_eq_getElem_cons hi, hxe]
theorem delAt_len {α : Type} {l : List α} {i : Nat} (hi : i < l.length) : (delAt l i).length + 1 = l.length := by
  simp only [delAt, List.length_append, List.length_take, List.length_drop]; omega
theorem rdyI_nil {l : List GItem} (h : (rdyI [] l).length = 0) : l = [] := by
  cases l with
  | nil => rfl
  | cons x r => rw [rdyI, if_pos (by simp [isRdy])] at h; simp at h
open Go.RowKit
open Go.RowKit
def cnt (l : List GItem) (j : Nat) : Nat := (l.filter fun x => decide (x.fFrom = (j : Int))).length
theorem cnt_del {l : List GItem} {i : Nat} {x : GItem} (hx : l[i]? = some x) (j : Nat) : cnt (delAt l i) j + (if x.fFrom = (j : Int) then 1 else 0) = cnt l j := by
  have h := del_split hx
  unfold cnt delAt
  conv => rhs; rw [h]
  rw [List.filter_append, List.filter_append, List.filter_cons]
  by_cases hj : x.fFrom = (j : Int)
  · rw [if_pos hj, if_pos (decide_eq_true hj)]; simp; omega
  · rw [if_neg hj, if_neg (by simpa using hj)]; simp
theorem cnt_add (l : List GItem) (x : GItem) (j : Nat) : cnt (l ++ [x]) j = cnt l j + (if x.fFrom = (j : Int) then 1 else 0) := by
  unfold cnt
  rw [List.filter_append, List.length_append]
  congr 1
  by_cases hj : x.fFrom = (j : Int)
  · rw [if_pos hj]; simp [hj]
  · rw [if_neg hj]; simp [hj]
def oneB (i : Int) : ByteArray := strOfNums [i]
theorem oneB_size (i : Int) : (oneB i).size = 1 := rfl
theorem oneB_at {i : Int} (h0 : 0 ≤ i) (h1 : i ≤ 255) : sat_ (oneB i) 0 = some i := by
  have hb : byteAt (strOfNums [i]) 0 = i := by
    show ((UInt8.ofNat i.toNat).toNat : Int) = i
    simp only [UInt8.toNat_ofNat']
    omega
  rw [sat_, if_pos ⟨by omega, by rw [oneB_size]; decide⟩]
  exact congrArg some hb
def dgP (k : Nat) (x : GItem) : Prop := x.fKind = 1 ∧ 1 ≤ x.fFrom ∧ x.fFrom ≤ k ∧ x.fTo = x.fFrom + 1 ∧ x.fBody = oneB x.fFrom
structure DG (b : Int) (k tk db dr : Nat) (came : List Int) (n : Gnet_Net) : Prop where
  ok : NOk b n
  fc : n.fconns = []
  op : n.fopens = 0
  it : ∀ x ∈ n.fitems, dgP k x
  nn : n.fitems.length + tk + dr = k + db
  cl : came.length = 41
  cm : ∀ j : Nat, j ≤ k → ∃ c : Nat, came[j]? = some (c : Int) ∧ c + cnt n.fitems j ≤ 1 + db ∧ c ≤ tk
theorem DG.del {b : Int} {k tk db dr : Nat} {came : List Int} {n : Gnet_Net} (h : DG b k tk db dr came n) {i : Nat} {x : GItem} (hx : n.fitems[i]? = some x) :
    NOk b ⟨delAt n.fitems i, n.fconns, n.flast, n.fopens⟩ ∧ dgP k x ∧ (∀ y ∈ delAt n.fitems i, dgP k y) ∧ (delAt n.fitems i).length + 1 = n.fitems.length :=
  ⟨sub_ok h.ok (delAt_sub _ _) (List.Sublist.refl _), h.it x (List.mem_of_getElem? hx), fun y hy => h.it y ((delAt_sub _ _).subset hy), delAt_len (List.getElem?_eq_some_iff.1 hx).1⟩
/-- An item lost. -/
theorem DG.drop {b : Int} {k tk db dr : Nat} {came : List Int} {n : Gnet_Net} (h : DG b k tk db dr came n) {i : Nat} {x : GItem} (hx : n.fitems[i]? = some x) : DG b k tk db (dr + 1) came ⟨delAt n.fitems i, n.fconns, n.flast, n.fopens⟩ := by
  obtain ⟨h1, h2, h3, h4⟩ := h.del hx
  have nn := h.nn
  refine ⟨h1, h.fc, h.op, h3, by simp only; omega, h.cl, fun j hj => ?_⟩
  obtain ⟨c, c1, c2, c3⟩ := h.cm j hj
  have := cnt_del hx j
  exact ⟨c, c1, by simp only; omega, c3⟩
/-- An item handed over. -/
theorem DG.take {b : Int} {k tk db dr : Nat} {came : List Int} {n : Gnet_Net} (h : DG b k tk db dr came n) (hk : k ≤ 40) (htk : tk ≤ 1000) {i : Nat} {x : GItem} (hx : n.fitems[i]? = some x) : ∃ (c : Nat) (came' : List Int), x.fFrom = ((x.fFrom.toNat : Nat) : Int) ∧ aix 41 x.fFrom = some x.fFrom.toNat ∧ came[0 + x.fFrom.toNat * 1]? = some (c : Int) ∧ setN came (0 + x.fFrom.toNat * 1) (w64 ((c : Int) + 1)) = some came' ∧ DG b k (tk + 1) db dr came' ⟨delAt n.fitems i, n.fconns, n.flast, n.fopens⟩ := by
  obtain ⟨h1, ⟨x1, x2, x3, x4, x5⟩, h3, h4⟩ := h.del hx
  have nn := h.nn
  have hf : x.fFrom = ((x.fFrom.toNat : Nat) : Int) := by omega
  generalize x.fFrom.toNat = a at hf
  obtain ⟨c, c1, c2, c3⟩ := h.cm a (by omega)
  have cl := h.cl
  refine ⟨c, came.set a ((c : Int) + 1), hf, by rw [hf, aix, if_pos ⟨by omega, by omega⟩, Int.toNat_natCast], by rw [Nat.zero_add, Nat.mul_one]; exact c1, by rw [Nat.zero_add, Nat.mul_one, setN, if_pos (by omega), w64_id (by omega) (by omega)], h1, h.fc, h.op, h3, by simp only; omega, by rw [List.length_set]; exact h.cl, fun j hj => ?_⟩
  obtain ⟨d, d1, d2, d3⟩ := h.cm j hj
  have hcd := cnt_del hx j
  by_cases hja : j = a
  · subst hja
    rw [if_pos hf] at hcd
    rw [c1] at d1; injection d1 with d1
    exact ⟨c + 1, by rw [List.getElem?_set_self (by omega)]; simp, by simp only; omega, by omega⟩
  · exact ⟨d, by rw [List.getElem?_set_ne (Ne.symm hja)]; exact d1, by simp only; omega, by omega⟩
/-- An item doubled. -/
theorem DG.dbl {b : Int} {k tk db dr : Nat} {came : List Int} {n : Gnet_Net} (h : DG b k tk db dr came n) {x : GItem} (hx : x ∈ n.fitems) : DG (b + 1) k tk (db + 1) dr came (addN n x) := by
  have nn := h.nn
  have hr := h.ok.ir x hx
  have hd := h.it x hx
  refine ⟨addN_ok h.ok hr.1 hr.2.1, h.fc, h.op, fun y hy => ?_, by simp [addN]; omega, h.cl, fun j hj => ?_⟩
  · rcases List.mem_append.1 hy with hy | hy
    · exact h.it y hy
    · simp only [List.mem_singleton] at hy; subst hy; exact hd
  · obtain ⟨c, c1, c2, c3⟩ := h.cm j hj
    refine ⟨c, c1, ?_, c3⟩
    simp only [addN]
    rw [cnt_add]
    split <;> omega
theorem DG.more {b : Int} {k tk db dr : Nat} {came : List Int} {n : Gnet_Net} (h : DG b k tk db dr came n) : DG (b + 1) k tk db dr came n := ⟨h.ok.more (by omega), h.fc, h.op, h.it, h.nn, h.cl, h.cm⟩
theorem DG.eta {b : Int} {k tk db dr : Nat} {came : List Int} {n : Gnet_Net} (h : DG b k tk db dr came n) : (⟨n.fitems, newN.fconns, n.flast, newN.fopens⟩ : Gnet_Net) = n := by
  rw [show newN.fconns = n.fconns from h.fc.symm, show newN.fopens = n.fopens from h.op.symm]
structure SG (i k : Nat) (left : List Int) (n : Gnet_Net) : Prop where
  ok : NOk i n
  fc : n.fconns = []
  op : n.fopens = 0
  it : ∀ x ∈ n.fitems, dgP k x
  nn : n.fitems.length = i
  ll : left.length = 41
  lf : ∀ j : Nat, 1 ≤ j → j ≤ i → left[j]? = some 1
  c0 : ∀ j : Nat, i < j → cnt n.fitems j = 0
  c1 : ∀ j : Nat, cnt n.fitems j ≤ 1
theorem SG.next {i k : Nat} {left : List Int} {n : Gnet_Net} (h : SG i k left n) (hik : i < k) (hk : k ≤ 40) : ∃ left', setN left (0 + (i + 1) * 1) 1 = some left' ∧ SG (i + 1) k left' (addN n ⟨0, 1, (i : Int) + 1, (i : Int) + 1 + 1, 0, oneB ((i : Int) + 1)⟩) := by
  have ll := h.ll; have nn := h.nn
  refine ⟨left.set (i + 1) 1, by rw [Nat.zero_add, Nat.mul_one, setN, if_pos (by omega)], ?_, h.fc, h.op, fun y hy => ?_, by simp [addN]; omega, by rw [List.length_set]; exact ll, fun j h1 h2 => ?_, fun j hj => ?_, fun j => ?_⟩
  · exact addN_ok h.ok i64_0 ⟨by simp only; omega, by simp only; omega⟩
  · rcases List.mem_append.1 hy with hy | hy
    · exact h.it y hy
    · simp only [List.mem_singleton] at hy; subst hy
      exact ⟨rfl, by simp only; omega, by simp only; omega, rfl, rfl⟩
  · by_cases hj : j = i + 1
    · subst hj; rw [List.getElem?_set_self (by omega)]
    · rw [List.getElem?_set_ne (Ne.symm hj)]; exact h.lf j h1 (by omega)
  · simp only [addN]; rw [cnt_add, h.c0 j (by omega), if_neg (by simp only; omega)]
  · simp only [addN]; rw [cnt_add]
    by_cases hj : ((i : Int) + 1) = (j : Int)
    · rw [if_pos hj, h.c0 j (by omega)]; exact Nat.le_refl 1
    · rw [if_neg hj]; exact h.c1 j
theorem q_NetDatagrams (p0 : Int) (p1 : List Glaw08_Op) (h0 : ((-9223372036854775808) ≤ p0 ∧ p0 ≤ 9223372036854775807)) (h1 : (p1.length ≤ 9223372036854775807 ∧ ∀ a ∈ p1, Glaw08_Op.ok a)) : m_law08_NetDatagrams p0 p1 = some true := by
  have hK : m_ref08_Pick p0 40 = some ((pickP p0 40 : Nat) : Int) := rpick (n := 40) h0 (by omega) (by omega)
  have hKl := pickP_lt p0 (by omega : 0 < 40)
  generalize pickP p0 40 = K at *
  rw [m_law08_NetDatagrams, awake08, Option.bind_some]
  erw [show m_net_New = some newN from rfl]
  rw [Option.bind_some, hK, Option.bind_some, w64_id (by omega) (by omega)]
  obtain ⟨k, hk, hk1, hk40⟩ : ∃ k : Nat, (1 : Int) + (K : Int) = (k : Int) ∧ 1 ≤ k ∧ k ≤ 40 := ⟨K + 1, by simp; omega, by omega, by omega⟩
  rw [hk]
  obtain ⟨r, g1, left, n, rfl, hn⟩ := loop_rule (step := fun s : List GItem × Int × Int × List Int × Int => m_law08_NetDatagrams_s8 newN s.1 s.2.1 s.2.2.1 s.2.2.2.1 s.2.2.2.2)
    (fun s => ∃ (i : Nat) (left : List Int) (n : Gnet_Net), s = (n.fitems, (k : Int), (i : Int) + 1, left, n.flast) ∧ i ≤ k ∧ SG i k left n)
    (fun s => (k + 2 - s.2.2.1).toNat)
    (fun r => ∃ (left : List Int) (n : Gnet_Net), r = (n.fitems, (k : Int), left, n.flast) ∧ SG k k left n)
    (by
      rintro s ⟨i, left, n, rfl, hi, hn⟩
      simp only
      rw [m_law08_NetDatagrams_s8]
      by_cases hc : (i : Int) + 1 ≤ (k : Int)
      · left
        have e1 : (⟨n.fitems, newN.fconns, n.flast, newN.fopens⟩ : Gnet_Net) = n := by
          rw [show newN.fconns = n.fconns from hn.fc.symm, show newN.fopens = n.fopens from hn.op.symm]
        obtain ⟨left', l1, l2⟩ := hn.next (by omega) hk40
        have nn := hn.nn
        have hx : aix 41 ((i : Int) + 1) = some (i + 1) := by rw [aix, if_pos ⟨by omega, by omega⟩]; congr 1
        have hsn : sendN n ((i : Int) + 1) ((i : Int) + 1 + 1) (oneB ((i : Int) + 1)) = (true, addN n ⟨0, 1, (i : Int) + 1, (i : Int) + 1 + 1, 0, oneB ((i : Int) + 1)⟩) := by
          rw [sendN, if_neg (by omega)]
        rw [if_pos hc, e1, wu8_eq, w64_id (x := (i : Int) + 1 + 1) (by omega) (by omega), show ((i : Int) + 1) % 256 = (i : Int) + 1 by omega, show strOfNums [(i : Int) + 1] = oneB ((i : Int) + 1) from rfl, send_code hn.ok (by omega), Option.bind_some, hsn, hx, Option.bind_some, l1, Option.bind_some]
        exact ⟨_, rfl, ⟨i + 1, left', _, by simp, by omega, l2⟩, by simp only; omega⟩
      · right
        rw [if_neg hc]
        have : i = k := by omega
        subst this
        exact ⟨_, rfl, left, n, rfl, hn⟩)
    (s0 := (newN.fitems, (k : Int), 1, List.replicate 41 0, newN.flast)) ⟨0, List.replicate 41 0, newN, rfl, by omega, newN_ok, rfl, rfl, (fun _ h => by cases h), rfl, rfl, (fun j h1 h2 => by omega), (fun j _ => rfl), (fun j => Nat.zero_le 1)⟩
  erw [g1]
  rw [Option.bind_some, m_law08_NetDatagrams_j1]
  have hleft := hn.lf
  have hll := hn.ll
  have d0 : DG k k 0 0 0 (List.replicate 41 0) n := by
    refine ⟨hn.ok, hn.fc, hn.op, hn.it, by have := hn.nn; omega, by simp, fun j hj => ⟨0, ?_, by have := hn.c1 j; omega, by omega⟩⟩
    rw [List.getElem?_replicate, if_pos (by omega)]; rfl
  clear hn
  obtain ⟨r, t1, tk, db, dr, came, m, rfl, htk, hdb, hdr, hm⟩ := loop_rule (step := fun s : List GItem × Int × Int × Int × Int × List Int × Int => m_law08_NetDatagrams_s7 p1 newN (k : Int) s.1 s.2.1 s.2.2.1 s.2.2.2.1 s.2.2.2.2.1 s.2.2.2.2.2.1 s.2.2.2.2.2.2)
    (fun s => ∃ (i tk db dr : Nat) (came : List Int) (n : Gnet_Net), s = (n.fitems, (dr : Int), (db : Int), (tk : Int), (i : Int), came, n.flast) ∧ i ≤ 80 ∧ tk ≤ i ∧ db ≤ i ∧ dr ≤ i ∧ DG (k + i) k tk db dr came n)
    (fun s => (80 - s.2.2.2.2.1).toNat)
    (fun r => ∃ (tk db dr : Nat) (came : List Int) (n : Gnet_Net), r = .inl (n.fitems, (dr : Int), (db : Int), (tk : Int), came, n.flast) ∧ tk ≤ 80 ∧ db ≤ 80 ∧ dr ≤ 80 ∧ DG 120 k tk db dr came n)
    (by
      rintro s ⟨i, tk, db, dr, came, n, rfl, hi, htk, hdb, hdr, hn⟩
      simp only
      rw [m_law08_NetDatagrams_s7]
      have hend : ∃ (tk' db' dr' : Nat) (came' : List Int) (n' : Gnet_Net), (Sum.inl (n.fitems, (dr : Int), (db : Int), (tk : Int), came, n.flast) : (List GItem × Int × Int × Int × List Int × Int) ⊕ Bool) = .inl (n'.fitems, (dr' : Int), (db' : Int), (tk' : Int), came', n'.flast) ∧ tk' ≤ 80 ∧ db' ≤ 80 ∧ dr' ≤ 80 ∧ DG 120 k tk' db' dr' came' n' :=
        ⟨tk, db, dr, came, n, rfl, by omega, by omega, by omega, ⟨hn.ok.more (by omega), hn.fc, hn.op, hn.it, hn.nn, hn.cl, hn.cm⟩⟩
      by_cases hc : (i : Int) < (p1.length : Int)
      · by_cases hc2 : (i : Int) < 80
        · left
          have hil : i < p1.length := by omega
          have hop := h1.2 _ (List.getElem_mem hil)
          generalize hx : p1[i] = o at hop
          have hat : at_ p1 (i : Int) = some o := by rw [at_nat hil, hx]
          have hoN : i64R o.fN := hop.2.2.2.1
          have hoK : m_ref08_Pick o.fKind 3 = some ((pickP o.fKind 3 : Nat) : Int) := rpick (n := 3) hop.1 (by omega) (by omega)
          have hoK3 := pickP_lt o.fKind (by omega : 0 < 3)
          generalize pickP o.fKind 3 = q at *
          have e1 := hn.eta
          have nn := hn.nn
          have same : ∃ s', (some (Sum.inl (n.fitems, (dr : Int), (db : Int), (tk : Int), (i : Int) + 1, came, n.flast)) : Option ((List GItem × Int × Int × Int × Int × List Int × Int) ⊕ ((List GItem × Int × Int × Int × List Int × Int) ⊕ Bool))) = some (Sum.inl s') ∧ (∃ (i tk db dr : Nat) (came : List Int) (n : Gnet_Net), s' = (n.fitems, (dr : Int), (db : Int), (tk : Int), (i : Int), came, n.flast) ∧ i ≤ 80 ∧ tk ≤ i ∧ db ≤ i ∧ dr ≤ i ∧ DG (k + i) k tk db dr came n) ∧ (80 - s'.2.2.2.2.1).toNat < (80 - (i : Int)).toNat :=
            ⟨_, rfl, ⟨i + 1, tk, db, dr, came, n, by simp, by omega, by omega, by omega, by omega, by rw [show (k : Int) + ((i + 1 : Nat) : Int) = k + i + 1 by omega]; exact hn.more⟩, by simp only; omega⟩
          rw [if_pos hc, if_pos hc2, hat, Option.bind_some, hoK, Option.bind_some, w64_id (x := (i : Int) + 1) (by omega) (by omega)]
          by_cases hq0 : (q : Int) = 0
          · rw [if_pos hq0, Option.bind_some, e1, double_code hn.ok (by omega) hoN, Option.bind_some]
            unfold doubleN
            by_cases hp : (pickI (dgI n.fitems 0) o.fN).2 = true
            · obtain ⟨z, x, q1, q2, q3, -⟩ := pickI_dg n.fitems o.fN hp
              rw [if_pos hp, if_neg (show ¬ 1024 ≤ (n.fitems.length : Int) by omega), q1, Int.toNat_natCast, q3]
              simp only [Option.getD_some]
              rw [if_pos trivial, w64_id (by omega) (by omega)]
              exact ⟨_, rfl, ⟨i + 1, tk, db + 1, dr, came, addN n x, by simp, by omega, by omega, by omega, by omega, by rw [show (k : Int) + ((i + 1 : Nat) : Int) = k + i + 1 by omega]; exact hn.dbl (List.mem_of_getElem? q3)⟩, by simp only; omega⟩
            · rw [if_neg hp, if_neg (show ¬ ((false, n) : Bool × Gnet_Net).1 = true from Bool.false_ne_true)]
              exact same
          · rw [if_neg hq0]
            by_cases hq1 : (q : Int) = 1
            · rw [if_pos hq1, Option.bind_some, e1, drop_code hn.ok (by omega) hoN, Option.bind_some]
              unfold dropN
              by_cases hp : (pickI (dgI n.fitems 0) o.fN).2 = true
              · obtain ⟨z, x, q1, q2, q3, -⟩ := pickI_dg n.fitems o.fN hp
                rw [if_pos hp, q1, Int.toNat_natCast]
                simp only
                rw [if_pos trivial, w64_id (by omega) (by omega)]
                exact ⟨_, rfl, ⟨i + 1, tk, db, dr + 1, came, ⟨delAt n.fitems z, n.fconns, n.flast, n.fopens⟩, by simp, by omega, by omega, by omega, by omega, by rw [show (k : Int) + ((i + 1 : Nat) : Int) = k + i + 1 by omega]; exact (hn.drop q3).more⟩, by simp only; omega⟩
              · rw [if_neg hp, if_neg (show ¬ ((false, n) : Bool × Gnet_Net).1 = true from Bool.false_ne_true)]
                exact same
            · rw [if_neg hq1, Option.bind_some, e1, take_code hn.ok (by omega) hoN, Option.bind_some]
              unfold takeN
              by_cases hp : (pickI (rdyI [] n.fitems) o.fN).2 = true
              · obtain ⟨z, x, q1, q2, q3, -⟩ := pickI_rdy n.fitems o.fN hp
                obtain ⟨x1, x2, x3, x4, x5⟩ := hn.it x (List.mem_of_getElem? q3)
                obtain ⟨c, came', f1, f2, f3, f4, f5⟩ := hn.take hk40 (by omega) q3
                rw [if_pos hp, q1, Int.toNat_natCast, q3]
                simp only [Option.getD_some]
                rw [if_pos trivial, x5, if_neg (by rw [oneB_size]; decide), oneB_at (by omega) (by omega), Option.bind_some, w64_id (x := x.fFrom) (by omega) (by omega), if_neg (by simp), x4, w64_id (x := x.fFrom + 1) (by omega) (by omega), if_neg (by simp), if_neg (by omega), if_neg (by omega), f2, Option.bind_some, f3, Option.bind_some, Option.bind_some, f4, Option.bind_some, w64_id (by omega) (by omega)]
                exact ⟨_, rfl, ⟨i + 1, tk + 1, db, dr, came', ⟨delAt n.fitems z, n.fconns, n.flast, n.fopens⟩, by simp, by omega, by omega, by omega, by omega, by rw [show (k : Int) + ((i + 1 : Nat) : Int) = k + i + 1 by omega]; exact f5.more⟩, by simp only; omega⟩
              · rw [if_neg hp, if_neg (show ¬ ((false, n) : Bool × Gnet_Net).1 = true from Bool.false_ne_true)]
                exact same
        · right
          rw [if_pos hc, if_neg hc2]
          exact ⟨_, rfl, hend⟩
      · right
        rw [if_neg hc]
        exact ⟨_, rfl, hend⟩)
    (s0 := (n.fitems, 0, 0, 0, 0, List.replicate 41 0, n.flast)) ⟨0, 0, 0, 0, _, n, rfl, by omega, by omega, by omega, by omega, by rw [show (k : Int) + ((0 : Nat) : Int) = k by omega]; exact d0⟩
  erw [t1]
  rw [Option.bind_some, Sum.elim_inl, m_law08_NetDatagrams_j2]
  clear t1 d0 g1
  obtain ⟨r, u1, tk2, came2, w, rfl, hw, hwn⟩ := loop_rule (step := fun s : List GItem × Int × Int × List Int => m_law08_NetDatagrams_s6 newN m.flast (k : Int) s.1 s.2.1 s.2.2.1 s.2.2.2)
    (fun s => ∃ (i tk : Nat) (came : List Int) (n : Gnet_Net), s = (n.fitems, (tk : Int), (i : Int), came) ∧ i + n.fitems.length ≤ 120 ∧ n.flast = m.flast ∧ DG 120 k tk db dr came n)
    (fun s => (2000 - s.2.2.1).toNat)
    (fun r => ∃ (tk : Nat) (came : List Int) (n : Gnet_Net), r = .inl (n.fitems, (tk : Int), came) ∧ n.fitems = [] ∧ DG 120 k tk db dr came n)
    (by
      rintro s ⟨i, tk, came, n, rfl, hi, hla, hn⟩
      simp only
      have e1 := hn.eta
      have nn := hn.nn
      rw [hla] at e1
      rw [m_law08_NetDatagrams_s6, if_pos (by omega), e1, take_code hn.ok (by omega) ⟨by omega, by omega⟩, Option.bind_some]
      unfold takeN
      by_cases hp : (pickI (rdyI [] n.fitems) (i : Int)).2 = true
      · left
        obtain ⟨z, x, q1, q2, q3, -⟩ := pickI_rdy n.fitems (i : Int) hp
        obtain ⟨x1, x2, x3, x4, x5⟩ := hn.it x (List.mem_of_getElem? q3)
        obtain ⟨c, came', f1, f2, f3, f4, f5⟩ := hn.take hk40 (by omega) q3
        have hlen := delAt_len q2
        rw [if_pos hp, q1, Int.toNat_natCast, q3]
        simp only [Option.getD_some]
        rw [if_pos trivial, if_neg (by omega), if_neg (by omega), f2, Option.bind_some, f3, Option.bind_some, Option.bind_some, f4, Option.bind_some, w64_id (by omega) (by omega), w64_id (by omega) (by omega)]
        exact ⟨_, rfl, ⟨i + 1, tk + 1, came', ⟨delAt n.fitems z, n.fconns, n.flast, n.fopens⟩, by simp, by simp only; omega, hla, f5⟩, by simp only; omega⟩
      · right
        have h0 := rdyI_nil ((pickI_no (rdyI [] n.fitems) (i : Int)).1 ((Bool.not_eq_true _).mp hp))
        rw [if_neg hp, if_neg (show ¬ ((item0, false, n) : GItem × Bool × Gnet_Net).2.1 = true from Bool.false_ne_true)]
        exact ⟨_, rfl, tk, came, n, rfl, h0, hn⟩)
    (s0 := (m.fitems, (tk : Int), 0, came)) ⟨0, tk, came, m, rfl, by have := hm.ok.il; omega, rfl, hm⟩
  erw [u1]
  rw [Option.bind_some, Sum.elim_inl, m_law08_NetDatagrams_j3]
  have hwc := hwn.cm
  have hwl := hwn.nn
  have hi0 : w.fitems.length = 0 := by rw [hw]; rfl
  obtain ⟨r, v1, rfl⟩ := loop_rule (step := fun s : Int => m_law08_NetDatagrams_s5 (k : Int) came2 left (db : Int) s)
    (fun s => ∃ i : Nat, s = (i : Int) ∧ 1 ≤ i ∧ i ≤ k + 1)
    (fun s => (k + 2 - s).toNat)
    (fun r => r = .inl ())
    (by
      rintro s ⟨i, rfl, hi1, hi2⟩
      rw [m_law08_NetDatagrams_s5]
      by_cases hc : (i : Int) ≤ (k : Int)
      · left
        obtain ⟨c, c1, c2, c3⟩ := hwc i (by omega)
        have hx : aix 41 (i : Int) = some i := by rw [aix, if_pos ⟨by omega, by omega⟩, Int.toNat_natCast]
        have hl := hleft i hi1 (by omega)
        rw [if_pos hc, hx, Option.bind_some, Nat.zero_add, Nat.mul_one, c1, Option.bind_some, Option.bind_some, Nat.zero_add, Nat.mul_one, hl, Option.bind_some, w64_id (by omega) (by omega), if_neg (by omega), w64_id (by omega) (by omega)]
        exact ⟨_, rfl, ⟨i + 1, by simp, by omega, by omega⟩, by omega⟩
      · right
        rw [if_neg hc]
        exact ⟨_, rfl, rfl⟩)
    (s0 := 1) ⟨1, rfl, by omega, by omega⟩
  erw [v1]
  rw [Option.bind_some, Sum.elim_inl]
  simp only
  rw [m_law08_NetDatagrams_j4, if_pos rfl, w64_id (x := (k : Int) + db) (by omega) (by omega), w64_id (by omega) (by omega), if_pos (by omega), m_net_Net_Waits, Option.bind_some]
  simp only
  rw [hi0]
  rfl
end Go.Proofs.Ythajfodilodhaaa
