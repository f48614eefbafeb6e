import Derived.Test.YthajfodilodhaaaKDF
set_option linter.unusedVariables false
set_option linter.unusedSimpArgs false
set_option maxRecDepth 16384
namespace Go.Proofs.Ythajfodilodhaaa
open Go.RowKit
/-- Where in a list something is first true, and what stands there. -/
def fndX {α : Type} (p : α → Bool) : List α → Nat → Option (Nat × α)
  | [], _ => none
  | x :: r, i => if p x = true then some (i, x) else fndX p r (i + 1)
def fndI {α : Type} : Option (Nat × α) → Int
  | some z => (z.1 : Int)
  | none => -1
theorem fndX_some {α : Type} {p : α → Bool} : ∀ {l : List α} {i k : Nat} {x : α}, fndX p l i = some (k, x) → i ≤ k ∧ l[k - i]? = some x ∧ p x = true ∧ ∀ j, j < k - i → ∀ y, l[j]? = some y → p y = false
  | [], i, k, x, h => by cases h
  | y :: r, i, k, x, h => by
    rw [fndX] at h
    by_cases hp : p y = true
    · rw [if_pos hp] at h; injection h with h; injection h with h1 h2; subst h1 h2
      exact ⟨Nat.le_refl _, by simp, hp, fun j hj => by omega⟩
    · rw [if_neg hp] at h
      obtain ⟨h1, h2, h3, h4⟩ := fndX_some h
      refine ⟨by omega, ?_, h3, fun j hj z hz => ?_⟩
      · rw [show k - i = (k - (i + 1)) + 1 by omega]; simpa using h2
      · cases j with
        | zero => simp at hz; subst hz; simpa using hp
        | succ j => exact h4 j (by omega) z (by simpa using hz)
theorem fndX_none {α : Type} {p : α → Bool} : ∀ {l : List α} {i : Nat}, fndX p l i = none → ∀ y ∈ l, p y = false
  | [], i, h, y, hy => by cases hy
  | x :: r, i, h, y, hy => by
    rw [fndX] at h
    by_cases hp : p x = true
    · rw [if_pos hp] at h; cases h
    · rw [if_neg hp] at h
      rcases List.mem_cons.1 hy with rfl | hy
      · simpa using hp
      · exact fndX_none h y hy
theorem idx_loop {α : Type} (p : α → Bool) {l : List α} (hl : l.length ≤ 4611686018427387904) (step : Int → Option (Int ⊕ (Unit ⊕ Int)))
    (hs : ∀ i : Int, step i = if i < (l.length : Int) then (at_ l i).bind fun x => if p x = true then some (.inr (.inr i)) else some (.inl (w64 (i + 1))) else some (.inr (.inl ()))) :
    ∀ (r pre : List α), l = pre ++ r → loop step (pre.length : Int) = some (match fndX p r pre.length with | some z => .inr (z.1 : Int) | none => .inl ()) := by
  intro r
  induction r with
  | nil =>
    intro pre h
    rw [List.append_nil] at h
    have := hs (pre.length : Int)
    rw [if_neg (by rw [h]; omega)] at this
    rw [loop_inr this]; rfl
  | cons x r ih =>
    intro pre h
    have hlen : l.length = pre.length + (r.length + 1) := by rw [h]; simp
    have hat : at_ l (pre.length : Int) = some x := by rw [at_nat (by omega)]; simp [h]
    have hst := hs (pre.length : Int)
    rw [if_pos (by omega), hat, Option.bind_some] at hst
    rw [fndX]
    by_cases hp : p x = true
    · rw [if_pos hp] at hst
      rw [loop_inr hst, if_pos hp]
    · rw [if_neg hp, w64_id (by omega) (by omega)] at hst
      have := ih (pre ++ [x]) (by rw [h]; simp)
      rw [List.length_append, List.length_singleton] at this
      rw [loop_inl hst, if_neg hp]
      exact this
theorem delf_loop {α : Type} (p : α → Bool) {l : List α} (hl : l.length ≤ 4611686018427387904) (step : List α × Int × Int → Option ((List α × Int × Int) ⊕ (List α × Int)))
    (hs : ∀ (q : List α) (i j : Int), step (q, i, j) = if j < (q.length : Int) then (at_ q j).bind fun x => if p x = true then some (.inl (q, i, w64 (j + 1))) else (at_ q i).bind fun _ => (setAt q i x).bind fun q' => some (.inl (q', w64 (i + 1), w64 (j + 1))) else some (.inr (q, i))) :
    ∀ (d j i : Nat) (q : List α), j + d = l.length → i < j → q.length = l.length → q.take i = (l.take j).filter (fun x => !p x) → q.drop j = l.drop j → ∃ (q' : List α) (i' : Nat), loop step (q, (i : Int), (j : Int)) = some (q', (i' : Int)) ∧ i' ≤ q'.length ∧ q'.take i' = l.filter (fun x => !p x) := by
  intro d
  induction d with
  | zero =>
    intro j i q hj hi hq ht hd
    refine ⟨q, i, ?_, by omega, ?_⟩
    · exact loop_inr (by rw [hs, if_neg (by omega)])
    · rw [ht, List.take_of_length_le (by omega)]
  | succ d ih =>
    intro j i q hj hi hq ht hd
    have hjl : j < l.length := by omega
    have hjq : j < q.length := by omega
    have hx : q[j] = l[j] := by
      have := congrArg (fun z => z[0]?) hd
      simp only [List.getElem?_drop, Nat.add_zero, List.getElem?_eq_getElem hjl, List.getElem?_eq_getElem hjq, Option.some.injEq] at this
      exact this
    have hst := hs q (i : Int) (j : Int)
    rw [if_pos (by omega), at_nat hjq, Option.bind_some, hx] at hst
    have htk : l.take (j + 1) = l.take j ++ [l[j]] := by rw [List.take_succ_eq_append_getElem hjl]
    have hdj : ∀ z : List α, z.drop (j + 1) = (z.drop j).drop 1 := fun z => by rw [List.drop_drop]
    by_cases hp : p l[j] = true
    · rw [if_pos hp, w64_id (by omega) (by omega)] at hst
      rw [loop_inl hst, show (j : Int) + 1 = ((j + 1 : Nat) : Int) by omega]
      refine ih (j + 1) i q (by omega) (by omega) hq ?_ ?_
      · rw [htk, List.filter_append, ht]; simp [hp]
      · rw [hdj, hdj, hd]
    · rw [if_neg hp, at_nat (by omega), Option.bind_some, setAt, if_pos ⟨by omega, by omega⟩, Option.bind_some, Int.toNat_natCast, w64_id (by omega) (by omega), w64_id (by omega) (by omega)] at hst
      rw [loop_inl hst, show (j : Int) + 1 = ((j + 1 : Nat) : Int) by omega, show (i : Int) + 1 = ((i + 1 : Nat) : Int) by omega]
      refine ih (j + 1) (i + 1) _ (by omega) (by omega) (by rw [List.length_set]; exact hq) ?_ ?_
      · have e : (q.set i l[j]).take (i + 1) = q.take i ++ [l[j]] := by
          rw [List.take_succ_eq_append_getElem (by rw [List.length_set]; omega), List.take_set_of_le (Nat.le_refl _)]
          simp
        rw [e, htk, List.filter_append, ht]; simp [hp]
      · rw [List.drop_set_of_lt (by omega), hdj, hdj, hd]
theorem take_fnd {α : Type} {p : α → Bool} {l : List α} {k : Nat} {x : α} (h : fndX p l 0 = some (k, x)) : k < l.length ∧ p x = true ∧ l[k]? = some x ∧ (l.take k).filter (fun x => !p x) = l.take k := by
  obtain ⟨h1, h2, h3, h4⟩ := fndX_some h
  simp only [Nat.sub_zero] at h2 h4
  have hk := (List.getElem?_eq_some_iff.1 h2).1
  refine ⟨hk, h3, h2, List.filter_eq_self.2 fun y hy => ?_⟩
  obtain ⟨j, hj, rfl⟩ := List.mem_take_iff_getElem.1 hy
  have := h4 j (by omega) _ (List.getElem?_eq_getElem (by omega))
  simp [this]
/-- slices.DeleteFunc. -/
theorem delf_eq {α : Type} (p : α → Bool) {l : List α} (hl : l.length ≤ 4611686018427387904) (ix : Option Int) (step : List α × Int × Int → Option ((List α × Int × Int) ⊕ (List α × Int)))
    (hix : ix = some (fndI (fndX p l 0)))
    (hs : ∀ (q : List α) (i j : Int), step (q, i, j) = if j < (q.length : Int) then (at_ q j).bind fun x => if p x = true then some (.inl (q, i, w64 (j + 1))) else (at_ q i).bind fun _ => (setAt q i x).bind fun q' => some (.inl (q', w64 (i + 1), w64 (j + 1))) else some (.inr (q, i))) :
    (ix.bind fun x1 => if x1 = -1 then some l else (loop step (l, x1, w64 (x1 + 1))).bind fun e => (cutLo e.1 e.2).bind fun l53 => (cutHi e.1 e.2).bind fun l54 => some l54) = some (l.filter (fun x => !p x)) := by
  rw [hix, Option.bind_some]
  cases hf : fndX p l 0 with
  | none =>
    rw [fndI, if_pos rfl]
    congr 1
    exact (List.filter_eq_self.2 fun y hy => by simp [fndX_none hf y hy]).symm
  | some z =>
    obtain ⟨k, x⟩ := z
    obtain ⟨h1, h2, h3, h4⟩ := take_fnd hf
    have hx : l[k] = x := by have := (List.getElem?_eq_some_iff.1 h3).2; exact this
    have htk : l.take (k + 1) = l.take k ++ [l[k]] := by rw [List.take_succ_eq_append_getElem h1]
    obtain ⟨q, i, g1, g2, g3⟩ := delf_loop p hl step hs (l.length - (k + 1)) (k + 1) k l (by omega) (by omega) rfl (by rw [htk, List.filter_append, h4, hx]; simp [h2]) rfl
    rw [fndI, if_neg (by omega), w64_id (by omega) (by omega), show (k : Int) + 1 = ((k + 1 : Nat) : Int) by omega, g1, Option.bind_some]
    simp only
    rw [cutLo, if_pos ⟨by omega, by omega⟩, Option.bind_some, cutHi, if_pos ⟨by omega, by omega⟩, Option.bind_some, Int.toNat_natCast, g3]
theorem getM_put {K V : Type} [DecidableEq K] (z v : V) (k k' : K) : ∀ l : List (K × V), getM z (putM l k v) k' = if k = k' then (v, true) else getM z l k'
  | [] => by simp [putM, getM]
  | e :: r => by
    rw [putM]
    by_cases h : e.1 = k
    · rw [if_pos h, getM, getM]
      by_cases h2 : k = k'
      · simp [h2]
      · simp [h2, h]
    · rw [if_neg h, getM, getM, getM_put z v k k' r]
      by_cases h2 : e.1 = k'
      · rw [if_pos h2, if_pos h2]
        by_cases h3 : k = k'
        · exact absurd (h2.trans h3.symm) h
        · rw [if_neg h3]
      · rw [if_neg h2, if_neg h2]
open Go.RowKit
def i64R (x : Int) : Prop := -9223372036854775808 ≤ x ∧ x ≤ 9223372036854775807
instance (x : Int) : Decidable (i64R x) := by unfold i64R; infer_instance
/-- What holds of a network all the time; b: how much there is at most. -/
structure NOk (b : Int) (n : Gnet_Net) : Prop where
  il : (n.fitems.length : Int) ≤ b
  cl : n.fconns.length ≤ 256
  la : 0 ≤ n.flast ∧ n.flast ≤ b
  op : 0 ≤ n.fopens ∧ n.fopens ≤ b
  ir : ∀ x ∈ n.fitems, i64R x.fConn ∧ i64R x.fTo ∧ 1 ≤ x.fNumber ∧ x.fNumber ≤ n.flast
  ip : n.fitems.Pairwise fun x y => x.fNumber < y.fNumber
  cr : ∀ c ∈ n.fconns, c.fends.a0 ≠ c.fends.a1 ∧ i64R c.fends.a0 ∧ i64R c.fends.a1 ∧ 1 ≤ c.fnumber ∧ c.fnumber ≤ n.fopens
  cp : n.fconns.Pairwise fun x y => x.fnumber < y.fnumber
theorem NOk.more {b b' : Int} {n : Gnet_Net} (h : NOk b n) (hb : b ≤ b') : NOk b' n := ⟨by have := h.il; omega, h.cl, ⟨h.la.1, by have := h.la.2; omega⟩, ⟨h.op.1, by have := h.op.2; omega⟩, h.ir, h.ip, h.cr, h.cp⟩
def newN : Gnet_Net := ⟨[], [], 0, 0⟩
theorem newN_ok : NOk 0 newN := ⟨by decide, by decide, by decide, by decide, (fun _ h => by cases h), List.Pairwise.nil, (fun _ h => by cases h), List.Pairwise.nil⟩
def addN (n : Gnet_Net) (x : GItem) : Gnet_Net := ⟨n.fitems ++ [⟨n.flast + 1, x.fKind, x.fFrom, x.fTo, x.fConn, x.fBody⟩], n.fconns, n.flast + 1, n.fopens⟩
theorem addN_ok {b : Int} {n : Gnet_Net} {x : GItem} (h : NOk b n) (h1 : i64R x.fConn) (h2 : i64R x.fTo) : NOk (b + 1) (addN n x) := by
  have la := h.la; have op := h.op; have il := h.il
  refine ⟨by simp [addN]; omega, h.cl, by simp only [addN]; omega, by simp only [addN]; omega, fun y hy => ?_, ?_, fun c hc => ?_, h.cp⟩
  · rcases List.mem_append.1 hy with hy | hy
    · obtain ⟨k1, k2, k3, k4⟩ := h.ir y hy
      exact ⟨k1, k2, k3, by simp only [addN]; omega⟩
    · simp only [List.mem_singleton] at hy; subst hy
      exact ⟨h1, h2, by simp only; omega, by simp only [addN]; omega⟩
  · refine List.pairwise_append.2 ⟨h.ip, List.pairwise_singleton _ _, fun y hy z hz => ?_⟩
    simp only [List.mem_singleton] at hz; subst hz
    have := (h.ir y hy).2.2.2
    simp only; omega
  · exact h.cr c hc
theorem add_code {b : Int} {n : Gnet_Net} {x : GItem} (h : NOk b n) (hb : b ≤ 1000000) : m_net_Net_add x n = some (addN n x) := by
  have il := h.il; have la := h.la
  rw [m_net_Net_add, app_of (by simp; omega), Option.bind_some, w64_id (by omega) (by omega)]; rfl
theorem full_code (n : Gnet_Net) : m_net_Net_full n = some (decide (1024 ≤ (n.fitems.length : Int))) := rfl
def sendN (n : Gnet_Net) (a c : Int) (s : ByteArray) : Bool × Gnet_Net := if 1024 ≤ (n.fitems.length : Int) then (false, n) else (true, addN n ⟨0, 1, a, c, 0, s⟩)
theorem send_code {b : Int} {n : Gnet_Net} (h : NOk b n) (hb : b ≤ 1000000) (a c : Int) (s : ByteArray) : m_net_Net_Send a c s n = some (sendN n a c s) := by
  rw [m_net_Net_Send, full_code, Option.bind_some, sendN]
  by_cases hc : 1024 ≤ (n.fitems.length : Int)
  · rw [if_pos (decide_eq_true hc), if_pos hc]
  · rw [if_neg (by simpa using hc), if_neg hc, add_code h hb, Option.bind_some]; rfl
theorem i64_0 : i64R 0 := by decide
theorem sendN_ok {b : Int} {n : Gnet_Net} (h : NOk b n) {a c : Int} {s : ByteArray} (hc : i64R c) : NOk (b + 1) (sendN n a c s).2 := by
  unfold sendN
  split
  · exact h.more (by omega)
  · exact addN_ok h i64_0 hc
def openN (n : Gnet_Net) (a c : Int) : Int × Bool × Gnet_Net :=
  if 1024 ≤ (n.fitems.length : Int) then (0, false, n) else if 256 ≤ (n.fconns.length : Int) then (0, false, n) else if a = c then (0, false, n)
  else (n.fopens + 1, true, addN ⟨n.fitems, n.fconns ++ [⟨n.fopens + 1, ⟨a, c⟩⟩], n.flast, n.fopens + 1⟩ ⟨0, 2, a, c, n.fopens + 1, ⟨#[]⟩⟩)
theorem pre_open {b : Int} {n : Gnet_Net} (h : NOk b n) {a c : Int} (hl : ¬ 256 ≤ (n.fconns.length : Int)) (hac : a ≠ c) (ha : i64R a) (hc : i64R c) : NOk (b + 1) ⟨n.fitems, n.fconns ++ [⟨n.fopens + 1, ⟨a, c⟩⟩], n.flast, n.fopens + 1⟩ := by
  have la := h.la; have op := h.op; have il := h.il
  refine ⟨by simp only; omega, by simp; omega, by simp only; omega, by simp only; omega, h.ir, h.ip, fun x hx => ?_, ?_⟩
  · rcases List.mem_append.1 hx with hx | hx
    · obtain ⟨k1, k2, k3, k4, k5⟩ := h.cr x hx
      exact ⟨k1, k2, k3, k4, by simp only; omega⟩
    · simp only [List.mem_singleton] at hx; subst hx
      exact ⟨hac, ha, hc, by simp only; omega, by simp only; omega⟩
  · refine List.pairwise_append.2 ⟨h.cp, List.pairwise_singleton _ _, fun y hy z hz => ?_⟩
    simp only [List.mem_singleton] at hz; subst hz
    have := (h.cr y hy).2.2.2.2
    simp only; omega
theorem open_code {b : Int} {n : Gnet_Net} (h : NOk b n) (hb : b ≤ 100000) {a c : Int} (ha : i64R a) (hc : i64R c) : m_net_Net_Open a c n = some (openN n a c) := by
  have op := h.op; have cl := h.cl
  rw [m_net_Net_Open, full_code, Option.bind_some, openN]
  by_cases h1 : 1024 ≤ (n.fitems.length : Int)
  · rw [if_pos (decide_eq_true h1), if_pos h1]
  rw [if_neg (by simpa using h1), if_neg h1]
  by_cases h2 : 256 ≤ (n.fconns.length : Int)
  · rw [if_pos h2, if_pos h2]
  rw [if_neg h2, if_neg h2]
  by_cases h3 : a = c
  · rw [if_pos h3, if_pos h3]
  rw [if_neg h3, if_neg h3, w64_id (by omega) (by omega), app_of (by simp; omega), Option.bind_some, add_code (pre_open h h2 h3 ha hc) (by omega), Option.bind_some]
  rfl
theorem openN_ok {b : Int} {n : Gnet_Net} (h : NOk b n) (hb : b ≤ 1000000) {a c : Int} (ha : i64R a) (hc : i64R c) : NOk (b + 2) (openN n a c).2.2 := by
  have op := h.op
  unfold openN
  split
  · exact h.more (by omega)
  · split
    · exact h.more (by omega)
    · split
      · exact h.more (by omega)
      · rename_i h2 h3
        have := addN_ok (x := ⟨0, 2, a, c, n.fopens + 1, ⟨#[]⟩⟩) (pre_open h h2 h3 ha hc) ⟨by simp only; omega, by simp only; omega⟩ hc
        exact this.more (by omega)
def isC (c : Int) (x : Gnet_conn) : Bool := decide (x.fnumber = c)
theorem find_code {b : Int} {n : Gnet_Net} (h : NOk b n) (c : Int) : m_net_Net_find c n = some (match fndX (isC c) n.fconns 0 with | some z => ((z.1 : Int), true) | none => (-1, false)) := by
  have cl := h.cl
  have hl := idx_loop (isC c) (l := n.fconns) (by omega) (fun s => m_slices_IndexFunc_52_s2 n.fconns c s) (fun i => by
    simp only [m_slices_IndexFunc_52_s2, m_net_Net_find_c1, Option.bind_some, isC]; rfl) n.fconns [] rfl
  rw [m_net_Net_find, m_slices_IndexFunc_52]
  erw [hl]
  cases hf : fndX (isC c) n.fconns 0 with
  | none =>
    simp only [List.length_nil, hf]; rfl
  | some z =>
    simp only [List.length_nil, hf, Option.bind_some, Sum.elim_inr]
    rw [decide_eq_true (by omega)]
def otherC (x : Gnet_conn) (k : Int) : Int := if k = x.fends.a0 then x.fends.a1 else x.fends.a0
theorem other_code (x : Gnet_conn) (k : Int) : m_net_conn_other x k = some (otherC x k) := by
  rw [m_net_conn_other, otherC]; split <;> rfl
def hasC (k : Int) (x : Gnet_conn) : Bool := decide (k = x.fends.a0) || decide (k = x.fends.a1)
theorem has_code (x : Gnet_conn) (k : Int) : m_net_conn_has x k = some (hasC k x) := by
  rw [m_net_conn_has, hasC]
  by_cases h : k = x.fends.a0
  · rw [if_pos h, decide_eq_true h]; rfl
  · rw [if_neg h, decide_eq_false h]; rfl
def peerN (n : Gnet_Net) (c k : Int) : Int × Bool := match fndX (isC c) n.fconns 0 with
  | some z => if hasC k z.2 = true then (otherC z.2 k, true) else (0, false)
  | none => (0, false)
theorem peer_code {b : Int} {n : Gnet_Net} (h : NOk b n) (c k : Int) : m_net_Net_Peer c k n = some (peerN n c k) := by
  rw [m_net_Net_Peer, find_code h, Option.bind_some, peerN]
  cases hf : fndX (isC c) n.fconns 0 with
  | none => rfl
  | some z =>
    obtain ⟨i, x⟩ := z
    obtain ⟨h1, -, h3, -⟩ := take_fnd hf
    have hat : at_ n.fconns (i : Int) = some x := by rw [at_nat h1, ← List.getElem?_eq_getElem h1]; exact h3
    simp only [if_true]
    rw [hat, Option.bind_some, has_code, Option.bind_some]
    by_cases hh : hasC k x = true
    · rw [if_pos hh, if_pos hh, Option.bind_some, other_code, Option.bind_some]
    · rw [if_neg hh, if_neg hh]
def writeN (n : Gnet_Net) (c a : Int) (s : ByteArray) : Bool × Gnet_Net :=
  if (peerN n c a).2 = true then (if 1024 ≤ (n.fitems.length : Int) then (false, n) else (true, addN n ⟨0, 3, a, (peerN n c a).1, c, s⟩)) else (false, n)
theorem write_code {b : Int} {n : Gnet_Net} (h : NOk b n) (hb : b ≤ 1000000) (c a : Int) (s : ByteArray) : m_net_Net_Write c a s n = some (writeN n c a s) := by
  rw [m_net_Net_Write, peer_code h, Option.bind_some, writeN]
  by_cases hp : (peerN n c a).2 = true
  · rw [if_pos hp, if_pos hp, full_code, Option.bind_some]
    by_cases hc : 1024 ≤ (n.fitems.length : Int)
    · rw [if_pos (decide_eq_true hc), if_pos hc]
    · rw [if_neg (by simpa using hc), if_neg hc, add_code h hb, Option.bind_some]; rfl
  · rw [if_neg hp, if_neg hp]
theorem otherC_ok {b : Int} {n : Gnet_Net} (h : NOk b n) {x : Gnet_conn} (hx : x ∈ n.fconns) (k : Int) : i64R (otherC x k) := by
  obtain ⟨-, h1, h2, -⟩ := h.cr x hx
  unfold otherC; split <;> assumption
theorem writeN_ok {b : Int} {n : Gnet_Net} (h : NOk b n) {c a : Int} {s : ByteArray} (hc : i64R c) : NOk (b + 1) (writeN n c a s).2 := by
  unfold writeN
  split
  · rename_i hp
    split
    · exact h.more (by omega)
    · refine addN_ok h hc ?_
      unfold peerN at hp ⊢
      cases hf : fndX (isC c) n.fconns 0 with
      | none => simp [hf] at hp
      | some z =>
        obtain ⟨i, x⟩ := z
        obtain ⟨h1, -, h3, -⟩ := take_fnd hf
        simp only
        split
        · exact otherC_ok h (List.mem_of_getElem? h3) a
        · exact i64_0
  · exact h.more (by omega)
def delAt {α : Type} (l : List α) (i : Nat) : List α := l.take i ++ l.drop (i + 1)
theorem del37 {l : List GItem} {i : Nat} (hi : i < l.length) (hl : l.length ≤ 1000000) : m_slices_Delete_37 l (i : Int) (w64 ((i : Int) + 1)) = some (delAt l i) := by
  rw [w64_id (by omega) (by omega), m_slices_Delete_37, cutMid, if_pos ⟨by omega, by omega, by omega⟩, Option.bind_some, if_neg (by omega), cutHi, if_pos ⟨by omega, by omega⟩, Option.bind_some, cutLo, if_pos ⟨by omega, by omega⟩, Option.bind_some]
  rfl
theorem del30 {l : List Gnet_conn} {i : Nat} (hi : i < l.length) (hl : l.length ≤ 1000000) : m_slices_Delete_30 l (i : Int) (w64 ((i : Int) + 1)) = some (delAt l i) := by
  rw [w64_id (by omega) (by omega), m_slices_Delete_30, cutMid, if_pos ⟨by omega, by omega, by omega⟩, Option.bind_some, if_neg (by omega), cutHi, if_pos ⟨by omega, by omega⟩, Option.bind_some, cutLo, if_pos ⟨by omega, by omega⟩, Option.bind_some]
  rfl
theorem delAt_sub {α : Type} (l : List α) (i : Nat) : (delAt l i).Sublist l := by
  unfold delAt
  conv => rhs; rw [← List.take_append_drop i l]
  refine List.Sublist.append (List.Sublist.refl _) ?_
  rw [← List.drop_drop]
  exact List.drop_sublist _ _
def cIs (c : Int) (x : GItem) : Bool := decide (x.fConn = c)
theorem delf31 {l : List GItem} (hl : l.length ≤ 1000000) (c : Int) : m_slices_DeleteFunc_31 l c = some (l.filter fun x => !cIs c x) := by
  have h1 := idx_loop (cIs c) (l := l) (by omega) (fun s => m_slices_IndexFunc_54_s2 l c s) (fun i => by
    simp only [m_slices_IndexFunc_54_s2, m_net_Net_Close_c1, Option.bind_some, cIs]; rfl) l [] rfl
  have h2 : m_slices_IndexFunc_54 l c = some (fndI (fndX (cIs c) l 0)) := by
    rw [m_slices_IndexFunc_54]
    erw [h1]
    cases hf : fndX (cIs c) l 0 with
    | none => simp only [List.length_nil, hf]; rfl
    | some z => simp only [List.length_nil, hf]; rfl
  exact delf_eq (cIs c) (by omega) _ (fun s => m_slices_DeleteFunc_31_s2 c s.1 s.2.1 s.2.2) h2 (fun q i j => by
    simp only [m_slices_DeleteFunc_31_s2, m_net_Net_Close_c1, Option.bind_some, cIs]; rfl)
def ftIs (k : Int) (x : GItem) : Bool := decide (x.fFrom = k) || decide (x.fTo = k)
theorem lose_c1 (x : GItem) (k : Int) : m_net_Net_Lose_c1 x k = some (ftIs k x) := by
  rw [m_net_Net_Lose_c1, ftIs]
  by_cases h : x.fFrom = k
  · rw [if_pos h, decide_eq_true h]; rfl
  · rw [if_neg h, decide_eq_false h]; rfl
theorem delf312 {l : List GItem} (hl : l.length ≤ 1000000) (c : Int) : m_slices_DeleteFunc_31_2 l c = some (l.filter fun x => !ftIs c x) := by
  have h1 := idx_loop (ftIs c) (l := l) (by omega) (fun s => m_slices_IndexFunc_54_2_s2 l c s) (fun i => by
    simp only [m_slices_IndexFunc_54_2_s2, lose_c1, Option.bind_some]) l [] rfl
  have h2 : m_slices_IndexFunc_54_2 l c = some (fndI (fndX (ftIs c) l 0)) := by
    rw [m_slices_IndexFunc_54_2]
    erw [h1]
    cases hf : fndX (ftIs c) l 0 with
    | none => simp only [List.length_nil, hf]; rfl
    | some z => simp only [List.length_nil, hf]; rfl
  exact delf_eq (ftIs c) (by omega) _ (fun s => m_slices_DeleteFunc_31_2_s2 c s.1 s.2.1 s.2.2) h2 (fun q i j => by
    simp only [m_slices_DeleteFunc_31_2_s2, lose_c1, Option.bind_some])
theorem delf41 {l : List Gnet_conn} (hl : l.length ≤ 1000000) (c : Int) : m_slices_DeleteFunc_41 l c = some (l.filter fun x => !hasC c x) := by
  have h1 := idx_loop (hasC c) (l := l) (by omega) (fun s => m_slices_IndexFunc_52_2_s2 l c s) (fun i => by
    simp only [m_slices_IndexFunc_52_2_s2, m_net_Net_Lose_c2, has_code, Option.bind_some]) l [] rfl
  have h2 : m_slices_IndexFunc_52_2 l c = some (fndI (fndX (hasC c) l 0)) := by
    rw [m_slices_IndexFunc_52_2]
    erw [h1]
    cases hf : fndX (hasC c) l 0 with
    | none => simp only [List.length_nil, hf]; rfl
    | some z => simp only [List.length_nil, hf]; rfl
  exact delf_eq (hasC c) (by omega) _ (fun s => m_slices_DeleteFunc_41_s2 c s.1 s.2.1 s.2.2) h2 (fun q i j => by
    simp only [m_slices_DeleteFunc_41_s2, m_net_Net_Lose_c2, has_code, Option.bind_some])
def tellC (x : Gnet_conn) (to : Int) : GItem := ⟨0, 4, otherC x to, to, x.fnumber, ⟨#[]⟩⟩
theorem closed_code {b : Int} {n : Gnet_Net} (h : NOk b n) (hb : b ≤ 1000000) (x : Gnet_conn) (to : Int) : m_net_Net_closed x to n = some (addN n (tellC x to)) := by
  rw [m_net_Net_closed, other_code, Option.bind_some, add_code h hb, Option.bind_some]; rfl
def closeN (n : Gnet_Net) (c : Int) : Bool × Gnet_Net := match fndX (isC c) n.fconns 0 with
  | some z => (true, addN (addN ⟨n.fitems.filter fun x => !cIs c x, delAt n.fconns z.1, n.flast, n.fopens⟩ (tellC z.2 z.2.fends.a0)) (tellC z.2 z.2.fends.a1))
  | none => (false, n)
theorem sub_ok {b : Int} {n : Gnet_Net} (h : NOk b n) {l : List GItem} {cs : List Gnet_conn} (hl : l.Sublist n.fitems) (hc : cs.Sublist n.fconns) : NOk b ⟨l, cs, n.flast, n.fopens⟩ :=
  ⟨by have := h.il; have := hl.length_le; simp only; omega, Nat.le_trans hc.length_le h.cl, h.la, h.op, fun x hx => h.ir x (hl.subset hx), h.ip.sublist hl, fun x hx => h.cr x (hc.subset hx), h.cp.sublist hc⟩
theorem num_ok {b : Int} {n : Gnet_Net} (h : NOk b n) (hb : b ≤ 1000000) {x : Gnet_conn} (hx : x ∈ n.fconns) : i64R x.fnumber := by
  obtain ⟨-, -, -, h1, h2⟩ := h.cr x hx
  have := h.op
  exact ⟨by omega, by omega⟩
theorem close_code {b : Int} {n : Gnet_Net} (h : NOk b n) (hb : b ≤ 100000) (c : Int) : m_net_Net_Close c n = some (closeN n c) := by
  rw [m_net_Net_Close, find_code h, Option.bind_some, closeN]
  cases hf : fndX (isC c) n.fconns 0 with
  | none => rfl
  | some z =>
    obtain ⟨i, x⟩ := z
    obtain ⟨h1, -, h3, -⟩ := take_fnd hf
    have il := h.il; have cl := h.cl
    have hat : at_ n.fconns (i : Int) = some x := by rw [at_nat h1, ← List.getElem?_eq_getElem h1]; exact h3
    have hxm := List.mem_of_getElem? h3
    have ok0 := sub_ok h (List.filter_sublist (p := fun x => !cIs c x) (l := n.fitems)) (delAt_sub n.fconns i)
    have ok1 := addN_ok (x := tellC x x.fends.a0) ok0 (num_ok h (by omega) hxm) (h.cr x hxm).2.1
    simp only [if_true]
    rw [hat, Option.bind_some, del30 h1 (by omega), Option.bind_some, delf31 (by omega), Option.bind_some, closed_code ok0 (by omega), Option.bind_some]
    erw [closed_code ok1 (by omega)]
    rfl
theorem closeN_ok {b : Int} {n : Gnet_Net} (h : NOk b n) (hb : b ≤ 100000) (c : Int) : NOk (b + 2) (closeN n c).2 := by
  unfold closeN
  cases hf : fndX (isC c) n.fconns 0 with
  | none => exact h.more (by omega)
  | some z =>
    obtain ⟨i, x⟩ := z
    obtain ⟨h1, -, h3, -⟩ := take_fnd hf
    have hxm := List.mem_of_getElem? h3
    have ok0 := sub_ok h (List.filter_sublist (p := fun x => !cIs c x) (l := n.fitems)) (delAt_sub n.fconns i)
    have ok1 := addN_ok (x := tellC x x.fends.a0) ok0 (num_ok h (by omega) hxm) (h.cr x hxm).2.1
    have ok2 := addN_ok (x := tellC x x.fends.a1) ok1 (num_ok h (by omega) hxm) (h.cr x hxm).2.2.1
    exact ok2.more (by omega)
open Go.RowKit
/-- What tells that connections are over. -/
def loseA (k : Int) : List Gnet_conn → Gnet_Net → Gnet_Net
  | [], n => n
  | c :: r, n => loseA k r (if hasC k c = true then addN n (tellC c (otherC c k)) else n)
theorem lose_loop {N : Gnet_Net} {b0 : Int} (hN : NOk b0 N) (hb0 : b0 ≤ 100000) (k g : Int) : ∀ (r pre : List Gnet_conn) (n : Gnet_Net) (b : Int), N.fconns = pre ++ r → NOk b n → b + r.length ≤ 200000 → n.fconns = N.fconns → n.fopens = N.fopens →
    loop (fun s : List GItem × Int × Int × Int => m_net_Net_Lose_s2 N k s.1 s.2.1 s.2.2.1 s.2.2.2) (n.fitems, g, (pre.length : Int), n.flast) = some ((loseA k r n).fitems, g, (loseA k r n).flast) := by
  intro r
  induction r with
  | nil =>
    intro pre n b h hn hb h1 h2
    rw [List.append_nil] at h
    rw [loop_inr (by simp only [m_net_Net_Lose_s2]; rw [if_neg (by rw [h]; omega)])]
    rfl
  | cons c r ih =>
    intro pre n b h hn hb h1 h2
    have hlen : N.fconns.length = pre.length + (r.length + 1) := by rw [h]; simp
    have hat : at_ N.fconns (pre.length : Int) = some c := by rw [at_nat (by omega)]; simp [h]
    have hcm : c ∈ N.fconns := by rw [h]; simp
    have hst := m_net_Net_Lose_s2.eq_def N k n.fitems g (pre.length : Int) n.flast
    have hcl := hN.cl
    simp only [List.length_cons] at hb
    rw [if_pos (by omega), hat, Option.bind_some, has_code, Option.bind_some, w64_id (by omega) (by omega)] at hst
    have hp : (((pre ++ [c]).length : Nat) : Int) = (pre.length : Int) + 1 := by simp
    rw [loseA]
    by_cases hh : hasC k c = true
    · rw [if_pos hh, other_code, Option.bind_some] at hst
      have e : (⟨n.fitems, N.fconns, n.flast, N.fopens⟩ : Gnet_Net) = n := by rw [← h1, ← h2]
      rw [e, closed_code hn (by omega), Option.bind_some] at hst
      rw [if_pos hh]
      refine (loop_inl hst).trans ?_
      have := ih (pre ++ [c]) (addN n (tellC c (otherC c k))) (b + 1) (by rw [h]; simp) (addN_ok hn (num_ok hN (by omega) hcm) (otherC_ok hN hcm k)) (by omega) h1 h2
      rw [hp] at this
      exact this
    · rw [if_neg hh] at hst
      rw [if_neg hh]
      refine (loop_inl hst).trans ?_
      have := ih (pre ++ [c]) n b (by rw [h]; simp) hn (by omega) h1 h2
      rw [hp] at this
      exact this
def loseN (n : Gnet_Net) (k : Int) : Int × Gnet_Net :=
  ((n.fitems.length : Int) - ((n.fitems.filter fun x => !ftIs k x).length : Int), ⟨(loseA k n.fconns ⟨n.fitems.filter fun x => !ftIs k x, n.fconns, n.flast, n.fopens⟩).fitems, n.fconns.filter fun x => !hasC k x, (loseA k n.fconns ⟨n.fitems.filter fun x => !ftIs k x, n.fconns, n.flast, n.fopens⟩).flast, n.fopens⟩)
theorem lose_code {b : Int} {n : Gnet_Net} (h : NOk b n) (hb : b ≤ 100000) (k : Int) : m_net_Net_Lose k n = some (loseN n k) := by
  have il := h.il; have cl := h.cl
  have ok0 := sub_ok h (List.filter_sublist (p := fun x => !ftIs k x) (l := n.fitems)) (List.Sublist.refl n.fconns)
  have hlp := lose_loop h hb k (w64 ((n.fitems.length : Int) - ((n.fitems.filter fun x => !ftIs k x).length : Int))) n.fconns [] _ b rfl ok0 (by omega) rfl rfl
  have hfl := (List.filter_sublist (p := fun x => !ftIs k x) (l := n.fitems)).length_le
  rw [m_net_Net_Lose, delf312 (by omega), Option.bind_some]
  erw [hlp]
  rw [Option.bind_some, m_net_Net_Lose_j1, delf41 (by omega), Option.bind_some, w64_id (by omega) (by omega)]
  rfl
def isRdy (pre : List GItem) (x : GItem) : Bool := decide (x.fKind = 1) || pre.all fun y => decide (y.fKind = 1) || decide (y.fConn ≠ x.fConn) || decide (y.fTo ≠ x.fTo)
def rdyI : List GItem → List GItem → List Int
  | _, [] => []
  | pre, x :: r => if isRdy pre x = true then (pre.length : Int) :: rdyI (pre ++ [x]) r else rdyI (pre ++ [x]) r
def rdyL : List GItem → List GItem → List GItem
  | _, [] => []
  | pre, x :: r => if isRdy pre x = true then x :: rdyL (pre ++ [x]) r else rdyL (pre ++ [x]) r
theorem rdyI_len : ∀ (r pre : List GItem), (rdyI pre r).length = (rdyL pre r).length ∧ (rdyI pre r).length ≤ r.length
  | [], pre => ⟨rfl, Nat.le_refl _⟩
  | x :: r, pre => by
    obtain ⟨h1, h2⟩ := rdyI_len r (pre ++ [x])
    rw [rdyI, rdyL]
    split
    · exact ⟨by simp [h1], by simp only [List.length_cons]; omega⟩
    · exact ⟨h1, by simp only [List.length_cons]; omega⟩
theorem rdy_at {all : List GItem} : ∀ (r pre : List GItem), all = pre ++ r → ∀ j, j < (rdyI pre r).length → ∃ i : Nat, (rdyI pre r)[j]? = some (i : Int) ∧ i < all.length ∧ pre.length ≤ i ∧ all[i]? = (rdyL pre r)[j]?
  | [], pre, h, j, hj => by simp [rdyI] at hj
  | x :: r, pre, h, j, hj => by
    have h' : all = (pre ++ [x]) ++ r := by rw [h]; simp
    rw [rdyI, rdyL]
    rw [rdyI] at hj
    by_cases hr : isRdy pre x = true
    · rw [if_pos hr] at hj
      rw [if_pos hr, if_pos hr]
      cases j with
      | zero => exact ⟨pre.length, rfl, by rw [h]; simp, Nat.le_refl _, by rw [h]; simp⟩
      | succ j =>
        obtain ⟨i, h1, h2, h3, h4⟩ := rdy_at r (pre ++ [x]) h' j (by simpa using hj)
        simp only [List.length_append, List.length_singleton] at h3
        exact ⟨i, by simpa using h1, h2, by omega, by simpa using h4⟩
    · rw [if_neg hr] at hj
      rw [if_neg hr, if_neg hr]
      obtain ⟨i, h1, h2, h3, h4⟩ := rdy_at r (pre ++ [x]) h' j hj
      simp only [List.length_append, List.length_singleton] at h3
      exact ⟨i, h1, h2, by omega, h4⟩
def okL (x : Gnet_lane) : Bool := decide ((-9223372036854775808) ≤ x.fconn ∧ x.fconn ≤ 9223372036854775807 ∧ (-9223372036854775808) ≤ x.fto ∧ x.fto ≤ 9223372036854775807)
theorem ready_loop {N : Gnet_Net} (hl : N.fitems.length ≤ 1000000) (hr : ∀ x ∈ N.fitems, i64R x.fConn ∧ i64R x.fTo) : ∀ (r pre : List GItem) (acc : List Int) (m : List (Gnet_lane × Bool)), N.fitems = pre ++ r → acc.length ≤ pre.length →
    okM okL m → (∀ ln, (getM false m ln).1 = pre.any fun y => decide (y.fKind ≠ 1) && decide (y.fConn = ln.fconn) && decide (y.fTo = ln.fto)) →
    loop (fun s : List Int × List (Gnet_lane × Bool) × Int => m_net_Net_ready_s2 N s.1 s.2.1 s.2.2) (acc, m, (pre.length : Int)) = some (acc ++ rdyI pre r) := by
  intro r
  induction r with
  | nil =>
    intro pre acc m h ha hm hg
    rw [List.append_nil] at h
    rw [loop_inr (by simp only [m_net_Net_ready_s2]; rw [if_neg (by rw [h]; omega)])]
    simp [rdyI]
  | cons x r ih =>
    intro pre acc m h ha hm hg
    have hlen : N.fitems.length = pre.length + (r.length + 1) := by rw [h]; simp
    have hat : at_ N.fitems (pre.length : Int) = some x := by rw [at_nat (by omega)]; simp [h]
    obtain ⟨x1, x2⟩ := hr x (by rw [h]; simp)
    have hst := m_net_Net_ready_s2.eq_def N acc m (pre.length : Int)
    rw [if_pos (by omega), hat, Option.bind_some] at hst
    have hp : (((pre ++ [x]).length : Nat) : Int) = (pre.length : Int) + 1 := by simp
    have hrest := fun acc' m' h1 h2 h3 => ih (pre ++ [x]) acc' m' (by rw [h]; simp) h1 h2 h3
    rw [hp] at hrest
    have hok : okL ⟨x.fConn, x.fTo⟩ = true := decide_eq_true ⟨x1.1, x1.2, x2.1, x2.2⟩
    rw [rdyI]
    by_cases hk : x.fKind = 1
    · have hrd : isRdy pre x = true := by simp [isRdy, hk]
      rw [if_pos hk, app_of (by simp; omega), Option.bind_some, m_net_Net_ready_j3, if_neg (by simp [hk]), w64_id (by omega) (by omega)] at hst
      rw [if_pos hrd]
      refine (loop_inl hst).trans ?_
      have := hrest (acc ++ [(pre.length : Int)]) m (by simp; omega) hm (fun ln => by rw [hg ln, List.any_append]; simp [hk])
      rw [this]; simp
    · have hget : mget okL false m ⟨x.fConn, x.fTo⟩ = some (getM false m ⟨x.fConn, x.fTo⟩) := if_pos ⟨hok, hm⟩
      have hput : mput okL m ⟨x.fConn, x.fTo⟩ true = some (putM m ⟨x.fConn, x.fTo⟩ true) := if_pos ⟨hok, hm⟩
      have hm' := putM_ok (v := true) hok hm
      have hg' : ∀ ln, (getM false (putM m ⟨x.fConn, x.fTo⟩ true) ln).1 = (pre ++ [x]).any fun y => decide (y.fKind ≠ 1) && decide (y.fConn = ln.fconn) && decide (y.fTo = ln.fto) := by
        intro ln
        rw [getM_put, List.any_append]
        by_cases he : (⟨x.fConn, x.fTo⟩ : Gnet_lane) = ln
        · subst he; simp [hk]
        · rw [if_neg he, hg ln]
          have : ¬ (x.fConn = ln.fconn ∧ x.fTo = ln.fto) := fun hh => he (by cases ln; simp only at hh; simp [hh])
          by_cases h1 : x.fConn = ln.fconn
          · have h2 : ¬ x.fTo = ln.fto := fun h2 => this ⟨h1, h2⟩
            simp [h2]
          · simp [h1]
      rw [if_neg hk] at hst
      erw [hget] at hst
      rw [Option.bind_some] at hst
      have hrd : isRdy pre x = !(getM false m ⟨x.fConn, x.fTo⟩).1 := by
        rw [hg, isRdy, decide_eq_false hk, Bool.false_or, Bool.eq_iff_iff]
        simp only [List.all_eq_true, Bool.or_eq_true, decide_eq_true_eq, Bool.not_eq_true', List.any_eq_false, Bool.and_eq_true]
        constructor
        · intro hh y hy hc
          rcases hh y hy with (h1 | h1) | h1
          · exact hc.1.1 h1
          · exact h1 hc.1.2
          · exact h1 hc.2
        · intro hh y hy
          by_cases h1 : y.fKind = 1
          · exact .inl (.inl h1)
          · by_cases h2 : y.fConn = x.fConn
            · exact .inr fun h3 => hh y hy ⟨⟨h1, h2⟩, h3⟩
            · exact .inl (.inr h2)
      cases hb : (getM false m ⟨x.fConn, x.fTo⟩).1 with
      | true =>
        rw [if_pos hb, m_net_Net_ready_j3, if_pos hk] at hst
        erw [hput] at hst
        rw [Option.bind_some, w64_id (by omega) (by omega)] at hst
        rw [if_neg (by rw [hrd, hb]; decide)]
        exact (loop_inl hst).trans (hrest acc _ (by simp; omega) hm' hg')
      | false =>
        rw [if_neg (by rw [hb]; decide), app_of (by simp; omega), Option.bind_some, m_net_Net_ready_j3, if_pos hk] at hst
        erw [hput] at hst
        rw [Option.bind_some, w64_id (by omega) (by omega)] at hst
        rw [if_pos (by rw [hrd, hb]; rfl)]
        refine (loop_inl hst).trans ?_
        rw [hrest (acc ++ [(pre.length : Int)]) _ (by simp; omega) hm' hg']
        simp
theorem ready_code {b : Int} {n : Gnet_Net} (h : NOk b n) (hb : b ≤ 1000000) : m_net_Net_ready n = some (rdyI [] n.fitems) := by
  have il := h.il
  have := ready_loop (N := n) (by omega) (fun x hx => ⟨(h.ir x hx).1, (h.ir x hx).2.1⟩) n.fitems [] [] [] rfl (by simp) ⟨fun _ h => (by cases h), List.nodup_nil⟩ (fun ln => rfl)
  rw [m_net_Net_ready]
  erw [this]
  rfl
def pickP (p : Int) (n : Nat) : Nat := ((if p < 0 then -(p + 1) else p) % (n : Int)).toNat
theorem pickP_lt (p : Int) {n : Nat} (hn : 0 < n) : pickP p n < n := by
  unfold pickP
  have h1 := Int.emod_nonneg (if p < 0 then -(p + 1) else p) (by omega : (n : Int) ≠ 0)
  have h2 := Int.emod_lt_of_pos (if p < 0 then -(p + 1) else p) (by omega : (0 : Int) < n)
  omega
/-- The place that a pick means. -/
def pickI (l : List Int) (p : Int) : Int × Bool := if l.length = 0 then (0, false) else ((l[pickP p l.length]?).getD 0, true)
theorem pick_j {l : List Int} (hl : 0 < l.length) {p : Int} (h0 : 0 ≤ p) : ((dvd (l.length : Int)).bind fun _ => (at_ l (p.tmod (l.length : Int))).bind fun x10 => some (x10, true)) = some ((l[(p % (l.length : Int)).toNat]?).getD 0, true) := by
  have h1 := Int.emod_nonneg p (by omega : (l.length : Int) ≠ 0)
  have h2 := Int.emod_lt_of_pos p (by omega : (0 : Int) < l.length)
  rw [dvd, if_pos (by omega), Option.bind_some, Int.tmod_eq_emod_of_nonneg h0, at_of h1 (by omega), Option.bind_some, List.getElem?_eq_getElem (by omega)]
  rfl
theorem picked_code {b : Int} {n : Gnet_Net} (h : NOk b n) (hb : b ≤ 1000000) {p : Int} (hp : i64R p) : m_net_Net_picked p n = some (pickI (rdyI [] n.fitems) p) := by
  obtain ⟨p1, p2⟩ := hp
  rw [m_net_Net_picked, ready_code h hb, Option.bind_some, pickI]
  by_cases h0 : (rdyI [] n.fitems).length = 0
  · rw [if_pos (by omega), if_pos h0]
  rw [if_neg (by omega), if_neg h0]
  unfold pickP
  by_cases hn : p < 0
  · rw [if_pos hn, if_pos hn, m_net_Net_picked_j1, w64_id (x := p + 1) (by omega) (by omega), w64_id (by omega) (by omega), show 0 - (p + 1) = -(p + 1) by omega]
    exact pick_j (by omega) (by omega)
  · rw [if_neg hn, if_neg hn, m_net_Net_picked_j1]
    exact pick_j (by omega) (by omega)
theorem pickI_rdy (l : List GItem) (p : Int) : (pickI (rdyI [] l) p).2 = true → ∃ (i : Nat) (x : GItem), (pickI (rdyI [] l) p).1 = (i : Int) ∧ i < l.length ∧ l[i]? = some x ∧ (rdyL [] l)[pickP p (rdyL [] l).length]? = some x ∧ (rdyL [] l).length ≠ 0 := by
  intro h
  unfold pickI at h ⊢
  have hll := (rdyI_len l []).1
  by_cases h0 : (rdyI [] l).length = 0
  · rw [if_pos h0] at h; cases h
  rw [if_neg h0]
  have hlt := pickP_lt p (by omega : 0 < (rdyI [] l).length)
  obtain ⟨i, g1, g2, -, g4⟩ := rdy_at (all := l) l [] rfl _ hlt
  rw [List.getElem?_eq_getElem g2] at g4
  rw [hll] at g4
  exact ⟨i, l[i], by simp only [g1]; rfl, g2, List.getElem?_eq_getElem g2, g4.symm, by omega⟩
def item0 : GItem := ⟨0, 0, 0, 0, 0, ⟨#[]⟩⟩
def takeN (n : Gnet_Net) (p : Int) : GItem × Bool × Gnet_Net :=
  if (pickI (rdyI [] n.fitems) p).2 = true then ((n.fitems[(pickI (rdyI [] n.fitems) p).1.toNat]?).getD item0, true, ⟨delAt n.fitems (pickI (rdyI [] n.fitems) p).1.toNat, n.fconns, n.flast, n.fopens⟩) else (item0, false, n)
theorem take_code {b : Int} {n : Gnet_Net} (h : NOk b n) (hb : b ≤ 1000000) {p : Int} (hp : i64R p) : m_net_Net_Take p n = some (takeN n p) := by
  have il := h.il
  rw [m_net_Net_Take, picked_code h hb hp, Option.bind_some, takeN]
  by_cases hc : (pickI (rdyI [] n.fitems) p).2 = true
  · obtain ⟨i, x, h1, h2, h3, -⟩ := pickI_rdy n.fitems p hc
    rw [if_pos hc, if_pos hc, h1, at_nat h2, Option.bind_some, del37 h2 (by omega), Option.bind_some, Int.toNat_natCast, List.getElem?_eq_getElem h2]
    rfl
  · rw [if_neg hc, if_neg hc]; rfl
theorem takeN_ok {b : Int} {n : Gnet_Net} (h : NOk b n) (p : Int) : NOk b (takeN n p).2.2 := by
  unfold takeN
  split
  · exact sub_ok h (delAt_sub _ _) (List.Sublist.refl _)
  · exact h
theorem Ready_loop {N : Gnet_Net} (hl : N.fitems.length ≤ 1000000) {ix : List Int} {ls : List GItem} (hix : ix.length = ls.length) (hi : ix.length ≤ 1000000) (hat : ∀ j, j < ix.length → ∃ i : Nat, ix[j]? = some (i : Int) ∧ i < N.fitems.length ∧ N.fitems[i]? = ls[j]?) : ∀ (d j : Nat), j + d = ix.length →
    loop (fun s : List GItem × Int => m_net_Net_Ready_s2 ix N s.1 s.2) (ls.take j, (j : Int)) = some ls := by
  intro d
  induction d with
  | zero =>
    intro j hj
    rw [loop_inr (by simp only [m_net_Net_Ready_s2]; rw [if_neg (by omega)])]
    congr 1
    exact List.take_of_length_le (by omega)
  | succ d ih =>
    intro j hj
    obtain ⟨i, g1, g2, g3⟩ := hat j (by omega)
    have hst := m_net_Net_Ready_s2.eq_def ix N (ls.take j) (j : Int)
    have hj1 : ix[j]'(by omega) = (i : Int) := (List.getElem?_eq_some_iff.1 g1).2
    rw [List.getElem?_eq_getElem g2, List.getElem?_eq_getElem (by omega : j < ls.length)] at g3
    injection g3 with g3
    rw [if_pos (by omega), at_nat (by omega), Option.bind_some, hj1, at_nat g2, Option.bind_some, g3, app_of (by simp; omega), Option.bind_some, w64_id (by omega) (by omega)] at hst
    refine (loop_inl hst).trans ?_
    have := ih (j + 1) (by omega)
    rw [show (j : Int) + 1 = ((j + 1 : Nat) : Int) by omega, show ls.take j ++ [ls[j]] = ls.take (j + 1) by rw [List.take_succ_eq_append_getElem (by omega)]]
    exact this
theorem Ready_code {b : Int} {n : Gnet_Net} (h : NOk b n) (hb : b ≤ 1000000) : m_net_Net_Ready n = some (rdyL [] n.fitems) := by
  have il := h.il
  obtain ⟨l1, l2⟩ := rdyI_len n.fitems []
  have := Ready_loop (N := n) (by omega) l1 (by omega) (fun j hj => by
    obtain ⟨i, g1, g2, -, g4⟩ := rdy_at (all := n.fitems) n.fitems [] rfl j hj
    exact ⟨i, g1, g2, g4⟩) (rdyI [] n.fitems).length 0 (by omega)
  rw [m_net_Net_Ready, ready_code h hb, Option.bind_some]
  rw [List.take_zero] at this
  erw [this]
  rfl
open Go.RowKit
open Go.RowKit
theorem rpick {p : Int} (hp : i64R p) {n : Nat} (hn : 0 < n) (hn2 : n ≤ 1000000) : m_ref08_Pick p (n : Int) = some ((pickP p n : Nat) : Int) := by
  obtain ⟨p1, p2⟩ := hp
  have hj : ∀ q : Int, 0 ≤ q → m_ref08_Pick_j1 (n : Int) q = some (((q % (n : Int)).toNat : Nat) : Int) := by
    intro q hq
    have h1 := Int.emod_nonneg q (by omega : (n : Int) ≠ 0)
    rw [m_ref08_Pick_j1, dvd, if_pos (by omega), Option.bind_some, Int.tmod_eq_emod_of_nonneg hq]
    congr 1
    omega
  rw [m_ref08_Pick, pickP]
  by_cases h : p < 0
  · rw [if_pos h, if_pos h, w64_id (x := p + 1) (by omega) (by omega), w64_id (by omega) (by omega), show 0 - (p + 1) = -(p + 1) by omega, hj _ (by omega)]
  · rw [if_neg h, if_neg h, hj _ (by omega)]
theorem awake08 : m_law08_awake = some true := by
  have k0 := newN_ok
  have r1 : i64R 1 := by decide
  have r2 : i64R 2 := by decide
  have r0 : i64R 0 := by decide
  have k1 := sendN_ok k0 (a := 1) (c := 2) (s := ⟨#[97]⟩) r2
  have k2 := sendN_ok k1 (a := 2) (c := 1) (s := ⟨#[98]⟩) r1
  have k3 := takeN_ok k2 1
  have k4 := takeN_ok k3 0
  have k5 := takeN_ok k4 0
  have k6 := openN_ok k5 (by omega) (a := 1) (c := 2) r1 r2
  have k7 := writeN_ok k6 (c := 1) (a := 1) (s := ⟨#[120]⟩) r1
  have k8 := writeN_ok k7 (c := 1) (a := 1) (s := ⟨#[121]⟩) r1
  have k9 := closeN_ok k8 (by omega) 1
  have e1 := send_code k0 (by omega) 1 2 ⟨#[97]⟩
  have e2 := send_code k1 (by omega) 2 1 ⟨#[98]⟩
  have e3 := take_code k2 (by omega) r1
  have e4 := take_code k3 (by omega) r0
  have e5 := take_code k4 (by omega) r0
  have e6 := open_code k5 (by omega) r1 r2
  have e7 := write_code k6 (by omega) 1 1 ⟨#[120]⟩
  have e8 := write_code k7 (by omega) 1 1 ⟨#[121]⟩
  have e9 := Ready_code k8 (by omega)
  have e10 := close_code k8 (by omega) 1
  have e11 := Ready_code k9 (by omega)
  rw [m_law08_awake]
  erw [show m_net_New = some newN from rfl]
  rw [Option.bind_some, e1, Option.bind_some]
  erw [e2]
  rw [Option.bind_some]
  erw [e3]
  rw [Option.bind_some]
  erw [e4]
  rw [Option.bind_some]
  erw [e5]
  rw [Option.bind_some]
  erw [e6]
  rw [Option.bind_some]
  erw [e7]
  rw [Option.bind_some]
  erw [e8]
  rw [Option.bind_some]
  erw [e9]
  rw [Option.bind_some]
  erw [e10]
  rw [Option.bind_some]
  erw [e11]
  rw [Option.bind_some]
  rfl
open Go.RowKit
open Go.RowKit
open Go.RowKit
structure FullO (k : Nat) (n : Gnet_Net) : Prop where
  ok : NOk (2 * k) n
  il : n.fitems.length = k
  cl : n.fconns.length = k
  op : n.fopens = k
  ia : ∀ x ∈ n.fitems, x.fFrom = 1
  ca : ∀ c ∈ n.fconns, c.fends.a0 = 1
theorem full_step {k : Nat} {n : Gnet_Net} (h : FullO k n) (hk : k < 256) : openN n 1 2 = ((k : Int) + 1, true, (openN n 1 2).2.2) ∧ FullO (k + 1) (openN n 1 2).2.2 := by
  have ok := openN_ok h.ok (by omega) (a := 1) (c := 2) (by decide) (by decide)
  have il := h.il; have cl := h.cl; have op := h.op
  unfold openN at ok ⊢
  rw [if_neg (by omega), if_neg (by omega), if_neg (by decide)] at ok ⊢
  refine ⟨by rw [op], by rw [show 2 * ((k + 1 : Nat) : Int) = 2 * (k : Int) + 2 by omega]; exact ok, by simp [addN, il], by simp [addN, cl], by simp [addN, op], fun x hx => ?_, fun c hc => ?_⟩
  · rcases List.mem_append.1 hx with hx | hx
    · exact h.ia x hx
    · simp only [List.mem_singleton] at hx; subst hx; rfl
  · rcases List.mem_append.1 hc with hc | hc
    · exact h.ca c hc
    · simp only [List.mem_singleton] at hc; subst hc; rfl
theorem full_stop {n : Gnet_Net} (h : FullO 256 n) : openN n 1 2 = (0, false, n) := by
  have cl := h.cl
  unfold openN
  split
  · rfl
  · rw [if_pos (by omega)]
theorem loseA_all : ∀ (cs : List Gnet_conn) (n : Gnet_Net), (∀ c ∈ cs, c.fends.a0 = 1) → (loseA 1 cs n).fitems.length = n.fitems.length + cs.length
  | [], n, _ => rfl
  | c :: r, n, h => by
    rw [loseA, if_pos (by simp [hasC, h c List.mem_cons_self]), loseA_all r _ (fun x hx => h x (List.mem_cons_of_mem _ hx))]
    simp [addN]; omega
theorem q_NetFull (p0 : Int) (p1 : Int) (h0 : ((-9223372036854775808) ≤ p0 ∧ p0 ≤ 9223372036854775807)) (h1 : ((-9223372036854775808) ≤ p1 ∧ p1 ≤ 9223372036854775807)) : m_law08_NetFull p0 p1 = some true := by
  have hK : m_ref08_Pick p1 301 = some ((pickP p1 301 : Nat) : Int) := rpick (n := 301) h1 (by omega) (by omega)
  have hKl := pickP_lt p1 (by omega : 0 < 301)
  have hL : m_ref08_Pick p0 1101 = some ((pickP p0 1101 : Nat) : Int) := rpick (n := 1101) h0 (by omega) (by omega)
  have hLl := pickP_lt p0 (by omega : 0 < 1101)
  generalize pickP p1 301 = K at *
  generalize pickP p0 1101 = L at *
  obtain ⟨r, g1, k, n, rfl, hk, hn⟩ := loop_rule (step := fun s : List GItem × List Gnet_conn × Int × Int × Int × Int => m_law08_NetFull_s4 p1 s.1 s.2.1 s.2.2.1 s.2.2.2.1 s.2.2.2.2.1 s.2.2.2.2.2)
    (fun s => ∃ (i k : Nat) (n : Gnet_Net), s = (n.fitems, n.fconns, (k : Int), (i : Int), n.flast, n.fopens) ∧ i ≤ K ∧ k = min i 256 ∧ FullO k n)
    (fun s => (K - s.2.2.2.1).toNat)
    (fun r => ∃ (k : Nat) (n : Gnet_Net), r = .inl (n.fitems, n.fconns, (k : Int), n.flast, n.fopens) ∧ k ≤ 256 ∧ FullO k n)
    (by
      rintro s ⟨i, k, n, rfl, hi, hk, hn⟩
      simp only
      rw [m_law08_NetFull_s4, hK, Option.bind_some]
      by_cases hc : (i : Int) < (K : Int)
      · left
        have e1 : (⟨n.fitems, n.fconns, n.flast, n.fopens⟩ : Gnet_Net) = n := rfl
        rw [if_pos hc, e1, open_code hn.ok (by omega) (by decide) (by decide), Option.bind_some]
        by_cases h256 : i < 256
        · have hki : k = i := by omega
          subst hki
          obtain ⟨s1, s2⟩ := full_step hn h256
          generalize (openN n 1 2).2.2 = m at *
          rw [s1]
          simp only
          rw [if_pos trivial, m_law08_NetFull_j5, decide_eq_true (by omega : (k : Int) < 256), if_neg (by decide), if_pos rfl, w64_id (by omega) (by omega), if_neg (by omega)]
          exact ⟨_, rfl, ⟨k + 1, k + 1, m, by simp, by omega, by omega, s2⟩, by simp only; omega⟩
        · have hk2 : k = 256 := by omega
          subst hk2
          rw [full_stop hn]
          simp only
          rw [if_neg (by decide), m_law08_NetFull_j5, decide_eq_false (by omega : ¬ (i : Int) < 256), if_neg (by decide), if_neg (by decide), w64_id (by omega) (by omega)]
          exact ⟨_, rfl, ⟨i + 1, 256, n, by simp, by omega, by omega, hn⟩, by simp only; omega⟩
      · right
        rw [if_neg hc]
        exact ⟨_, rfl, k, n, rfl, by omega, hn⟩)
    (s0 := (newN.fitems, newN.fconns, 0, 0, newN.flast, newN.fopens)) ⟨0, 0, newN, rfl, by omega, by omega, newN_ok, rfl, rfl, rfl, (fun _ h => by cases h), (fun _ h => by cases h)⟩
  rw [m_law08_NetFull, awake08, Option.bind_some]
  erw [show m_net_New = some newN from rfl]
  rw [Option.bind_some]
  erw [g1]
  rw [Option.bind_some, Sum.elim_inl, m_law08_NetFull_j1]
  have hil := hn.il; have hcl := hn.cl
  obtain ⟨r, t1, j, m, rfl, m1, m2, m3, m4, m5, m6⟩ := loop_rule (step := fun s : List GItem × Int × Int × Int => m_law08_NetFull_s3 p0 n.fconns n.fopens s.1 s.2.1 s.2.2.1 s.2.2.2)
    (fun s => ∃ (i j : Nat) (m : Gnet_Net), s = (m.fitems, (j : Int), (i : Int), m.flast) ∧ i ≤ L ∧ m.fconns = n.fconns ∧ m.fopens = n.fopens ∧ NOk (2 * k + i) m ∧ m.fitems.length = k + j ∧ k + j ≤ 1024 ∧ ∀ x ∈ m.fitems, x.fFrom = 1)
    (fun s => (L - s.2.2.1).toNat)
    (fun r => ∃ (j : Nat) (m : Gnet_Net), r = (m.fitems, (j : Int), m.flast) ∧ m.fconns = n.fconns ∧ m.fopens = n.fopens ∧ NOk 2000 m ∧ m.fitems.length = k + j ∧ k + j ≤ 1024 ∧ ∀ x ∈ m.fitems, x.fFrom = 1)
    (by
      rintro s ⟨i, j, m, rfl, hi, hc1, hc2, hm, hl, hj, ha⟩
      simp only
      rw [m_law08_NetFull_s3, hL, Option.bind_some]
      by_cases hc : (i : Int) < (L : Int)
      · left
        have e1 : (⟨m.fitems, n.fconns, m.flast, n.fopens⟩ : Gnet_Net) = m := by rw [← hc1, ← hc2]
        rw [if_pos hc, e1, send_code hm (by omega), Option.bind_some]
        have hok := sendN_ok hm (a := 1) (c := 2) (s := ⟨#[]⟩) (by decide)
        unfold sendN at hok ⊢
        by_cases hf : 1024 ≤ (m.fitems.length : Int)
        · rw [if_pos hf] at hok ⊢
          rw [if_neg (show ¬ (false = true) by decide), w64_id (by omega) (by omega)]
          exact ⟨_, rfl, ⟨i + 1, j, m, by simp, by omega, hc1, hc2, by rw [show 2 * (k : Int) + ((i + 1 : Nat) : Int) = 2 * (k : Int) + i + 1 by omega]; exact hok, hl, hj, ha⟩, by simp only; omega⟩
        · rw [if_neg hf] at hok ⊢
          rw [if_pos rfl, w64_id (by omega) (by omega), w64_id (by omega) (by omega)]
          refine ⟨_, rfl, ⟨i + 1, j + 1, addN m ⟨0, 1, 1, 2, 0, ⟨#[]⟩⟩, by simp, by omega, hc1, hc2, by rw [show 2 * (k : Int) + ((i + 1 : Nat) : Int) = 2 * (k : Int) + i + 1 by omega]; exact hok, by simp [addN]; omega, by omega, fun x hx => ?_⟩, by simp only; omega⟩
          rcases List.mem_append.1 hx with hx | hx
          · exact ha x hx
          · simp only [List.mem_singleton] at hx; subst hx; rfl
      · right
        rw [if_neg hc]
        exact ⟨_, rfl, j, m, rfl, hc1, hc2, hm.more (by omega), hl, hj, ha⟩)
    (s0 := (n.fitems, 0, 0, n.flast)) ⟨0, 0, n, rfl, by omega, rfl, rfl, hn.ok.more (by omega), by omega, by omega, hn.ia⟩
  erw [t1]
  rw [Option.bind_some, m_law08_NetFull_j2]
  have e1 : (⟨m.fitems, n.fconns, m.flast, n.fopens⟩ : Gnet_Net) = m := by rw [← m1, ← m2]
  simp only
  rw [e1, m_net_Net_Waits, Option.bind_some, if_neg (by omega), Option.bind_some, w64_id (by omega) (by omega), if_neg (by omega), lose_code m3 (by omega), Option.bind_some, if_pos trivial]
  have hf : (m.fitems.filter fun x => !ftIs 1 x) = [] := List.filter_eq_nil_iff.2 fun x hx => by simp [ftIs, m6 x hx]
  have hA := loseA_all m.fconns ⟨[], m.fconns, m.flast, m.fopens⟩ (by rw [m1]; exact hn.ca)
  unfold loseN
  rw [hf]
  simp only [List.length_nil] at hA ⊢
  rw [if_pos (by omega), m_net_Net_Waits, Option.bind_some]
  simp only
  rw [hA, m1, decide_eq_true (by omega)]
end Go.Proofs.Ythajfodilodhaaa
