import Derived.Test.YthajfodilodhaaaKDS
set_option linter.unusedVariables false
set_option linter.unusedSimpArgs false
set_option maxRecDepth 16384
namespace Go.Proofs.Ythajfodilodhaaa
open Go.RowKit
/-- Where in a list something is first true, and what stands there. -/
def fndX {α : Type} (p : α → Bool) : List α → Nat → Option (Nat × α)
  | [], _ => none
  | x :: r, i => if p x = true then some (i, x) else fndX p r (i + 1)
def fndI {α : Type} : Option (Nat × α) → Int
  | some z => (z.1 : Int)
  | none => -1
theorem fndX_some {α : Type} {p : α → Bool} : ∀ {l : List α} {i k : Nat} {x : α}, fndX p l i = some (k, x) → i ≤ k ∧ l[k - i]? = some x ∧ p x = true ∧ ∀ j, j < k - i → ∀ y, l[j]? = some y → p y = false
  | [], i, k, x, h => by cases h
  | y :: r, i, k, x, h => by
    rw [fndX] at h
    by_cases hp : p y = true
    · rw [if_pos hp] at h; injection h with h; injection h with h1 h2; subst h1 h2
      exact ⟨Nat.le_refl _, by simp, hp, fun j hj => by omega⟩
    · rw [if_neg hp] at h
      obtain ⟨h1, h2, h3, h4⟩ := fndX_some h
      refine ⟨by omega, ?_, h3, fun j hj z hz => ?_⟩
      · rw [show k - i = (k - (i + 1)) + 1 by omega]; simpa using h2
      · cases j with
        | zero => simp at hz; subst hz; simpa using hp
        | succ j => exact h4 j (by omega) z (by simpa using hz)
theorem fndX_none {α : Type} {p : α → Bool} : ∀ {l : List α} {i : Nat}, fndX p l i = none → ∀ y ∈ l, p y = false
  | [], i, h, y, hy => by cases hy
  | x :: r, i, h, y, hy => by
    rw [fndX] at h
    by_cases hp : p x = true
    · rw [if_pos hp] at h; cases h
    · rw [if_neg hp] at h
      rcases List.mem_cons.1 hy with rfl | hy
      · simpa using hp
      · exact fndX_none h y hy
theorem idx_loop {α : Type} (p : α → Bool) {l : List α} (hl : l.length ≤ 4611686018427387904) (step : Int → Option (Int ⊕ (Unit ⊕ Int)))
    (hs : ∀ i : Int, step i = if i < (l.length : Int) then (at_ l i).bind fun x => if p x = true then some (.inr (.inr i)) else some (.inl (w64 (i + 1))) else some (.inr (.inl ()))) :
    ∀ (r pre : List α), l = pre ++ r → loop step (pre.length : Int) = some (match fndX p r pre.length with | some z => .inr (z.1 : Int) | none => .inl ()) := by
  intro r
  induction r with
  | nil =>
    intro pre h
    rw [List.append_nil] at h
    have := hs (pre.length : Int)
    rw [if_neg (by rw [h]; omega)] at this
    rw [loop_inr this]; rfl
  | cons x r ih =>
    intro pre h
    have hlen : l.length = pre.length + (r.length + 1) := by rw [h]; simp
    have hat : at_ l (pre.length : Int) = some x := by rw [at_nat (by omega)]; simp [h]
    have hst := hs (pre.length : Int)
    rw [if_pos (by omega), hat, Option.bind_some] at hst
    rw [fndX]
    by_cases hp : p x = true
    · rw [if_pos hp] at hst
      rw [loop_inr hst, if_pos hp]
    · rw [if_neg hp, w64_id (by omega) (by omega)] at hst
      have := ih (pre ++ [x]) (by rw [h]; simp)
      rw [List.length_append, List.length_singleton] at this
      rw [loop_inl hst, if_neg hp]
      exact this
theorem delf_loop {α : Type} (p : α → Bool) {l : List α} (hl : l.length ≤ 4611686018427387904) (step : List α × Int × Int → Option ((List α × Int × Int) ⊕ (List α × Int)))
    (hs : ∀ (q : List α) (i j : Int), step (q, i, j) = if j < (q.length : Int) then (at_ q j).bind fun x => if p x = true then some (.inl (q, i, w64 (j + 1))) else (at_ q i).bind fun _ => (setAt q i x).bind fun q' => some (.inl (q', w64 (i + 1), w64 (j + 1))) else some (.inr (q, i))) :
    ∀ (d j i : Nat) (q : List α), j + d = l.length → i < j → q.length = l.length → q.take i = (l.take j).filter (fun x => !p x) → q.drop j = l.drop j → ∃ (q' : List α) (i' : Nat), loop step (q, (i : Int), (j : Int)) = some (q', (i' : Int)) ∧ i' ≤ q'.length ∧ q'.take i' = l.filter (fun x => !p x) := by
  intro d
  induction d with
  | zero =>
    intro j i q hj hi hq ht hd
    refine ⟨q, i, ?_, by omega, ?_⟩
    · exact loop_inr (by rw [hs, if_neg (by omega)])
    · rw [ht, List.take_of_length_le (by omega)]
  | succ d ih =>
    intro j i q hj hi hq ht hd
    have hjl : j < l.length := by omega
    have hjq : j < q.length := by omega
    have hx : q[j] = l[j] := by
      have := congrArg (fun z => z[0]?) hd
      simp only [List.getElem?_drop, Nat.add_zero, List.getElem?_eq_getElem hjl, List.getElem?_eq_getElem hjq, Option.some.injEq] at this
      exact this
    have hst := hs q (i : Int) (j : Int)
    rw [if_pos (by omega), at_nat hjq, Option.bind_some, hx] at hst
    have htk : l.take (j + 1) = l.take j ++ [l[j]] := by rw [List.take_succ_eq_append_getElem hjl]
    have hdj : ∀ z : List α, z.drop (j + 1) = (z.drop j).drop 1 := fun z => by rw [List.drop_drop]
    by_cases hp : p l[j] = true
    · rw [if_pos hp, w64_id (by omega) (by omega)] at hst
      rw [loop_inl hst, show (j : Int) + 1 = ((j + 1 : Nat) : Int) by omega]
      refine ih (j + 1) i q (by omega) (by omega) hq ?_ ?_
      · rw [htk, List.filter_append, ht]; simp [hp]
      · rw [hdj, hdj, hd]
    · rw [if_neg hp, at_nat (by omega), Option.bind_some, setAt, if_pos ⟨by omega, by omega⟩, Option.bind_some, Int.toNat_natCast, w64_id (by omega) (by omega), w64_id (by omega) (by omega)] at hst
      rw [loop_inl hst, show (j : Int) + 1 = ((j + 1 : Nat) : Int) by omega, show (i : Int) + 1 = ((i + 1 : Nat) : Int) by omega]
      refine ih (j + 1) (i + 1) _ (by omega) (by omega) (by rw [List.length_set]; exact hq) ?_ ?_
      · have e : (q.set i l[j]).take (i + 1) = q.take i ++ [l[j]] := by
          rw [List.take_succ_eq_append_getElem (by rw [List.length_set]; omega), List.take_set_of_le (Nat.le_refl _)]
          simp
        rw [e, htk, List.filter_append, ht]; simp [hp]
      · rw [List.drop_set_of_lt (by omega), hdj, hdj, hd]
theorem take_fnd {α : Type} {p : α → Bool} {l : List α} {k : Nat} {x : α} (h : fndX p l 0 = some (k, x)) : k < l.length ∧ p x = true ∧ l[k]? = some x ∧ (l.take k).filter (fun x => !p x) = l.take k := by
  obtain ⟨h1, h2, h3, h4⟩ := fndX_some h
  simp only [Nat.sub_zero] at h2 h4
  have hk := (List.getElem?_eq_some_iff.1 h2).1
  refine ⟨hk, h3, h2, List.filter_eq_self.2 fun y hy => ?_⟩
  obtain ⟨j, hj, rfl⟩ := List.mem_take_iff_getElem.1 hy
  have := h4 j (by omega) _ (List.getElem?_eq_getElem (by omega))
  simp [this]
/-- slices.DeleteFunc. -/
theorem delf_eq {α : Type} (p : α → Bool) {l : List α} (hl : l.length ≤ 4611686018427387904) (ix : Option Int) (step : List α × Int × Int → Option ((List α × Int × Int) ⊕ (List α × Int)))
    (hix : ix = some (fndI (fndX p l 0)))
    (hs : ∀ (q : List α) (i j : Int), step (q, i, j) = if j < (q.length : Int) then (at_ q j).bind fun x => if p x = true then some (.inl (q, i, w64 (j + 1))) else (at_ q i).bind fun _ => (setAt q i x).bind fun q' => some (.inl (q', w64 (i + 1), w64 (j + 1))) else some (.inr (q, i))) :
    (ix.bind fun x1 => if x1 = -1 then some l else (loop step (l, x1, w64 (x1 + 1))).bind fun e => (cutLo e.1 e.2).bind fun l53 => (cutHi e.1 e.2).bind fun l54 => some l54) = some (l.filter (fun x => !p x)) := by
  rw [hix, Option.bind_some]
  cases hf : fndX p l 0 with
  | none =>
    rw [fndI, if_pos rfl]
    congr 1
    exact (List.filter_eq_self.2 fun y hy => by simp [fndX_none hf y hy]).symm
  | some z =>
    obtain ⟨k, x⟩ := z
    obtain ⟨h1, h2, h3, h4⟩ := take_fnd hf
    have hx : l[k] = x := by have := (List.getElem?_eq_some_iff.1 h3).2; exact this
    have htk : l.take (k + 1) = l.take k ++ [l[k]] := by rw [List.take_succ_eq_append_getElem h1]
    obtain ⟨q, i, g1, g2, g3⟩ := delf_loop p hl step hs (l.length - (k + 1)) (k + 1) k l (by omega) (by omega) rfl (by rw [htk, List.filter_append, h4, hx]; simp [h2]) rfl
    rw [fndI, if_neg (by omega), w64_id (by omega) (by omega), show (k : Int) + 1 = ((k + 1 : Nat) : Int) by omega, g1, Option.bind_some]
    simp only
    rw [cutLo, if_pos ⟨by omega, by omega⟩, Option.bind_some, cutHi, if_pos ⟨by omega, by omega⟩, Option.bind_some, Int.toNat_natCast, g3]
theorem getM_put {K V : Type} [DecidableEq K] (z v : V) (k k' : K) : ∀ l : List (K × V), getM z (putM l k v) k' = if k = k' then (v, true) else getM z l k'
  | [] => by simp [putM, getM]
  | e :: r => by
    rw [putM]
    by_cases h : e.1 = k
    · rw [if_pos h, getM, getM]
      by_cases h2 : k = k'
      · simp [h2]
      · simp [h2, h]
    · rw [if_neg h, getM, getM, getM_put z v k k' r]
      by_cases h2 : e.1 = k'
      · rw [if_pos h2, if_pos h2]
        by_cases h3 : k = k'
        · exact absurd (h2.trans h3.symm) h
        · rw [if_neg h3]
      · rw [if_neg h2, if_neg h2]
open Go.RowKit
def i64R (x : Int) : Prop := -9223372036854775808 ≤ x ∧ x ≤ 9223372036854775807
instance (x : Int) : Decidable (i64R x) := by unfold i64R; infer_instance
/-- What holds of a network all the time; b: how much there is at most. -/
structure NOk (b : Int) (n : Gnet_Net) : Prop where
  il : (n.fitems.length : Int) ≤ b
  cl : n.fconns.length ≤ 256
  la : 0 ≤ n.flast ∧ n.flast ≤ b
  op : 0 ≤ n.fopens ∧ n.fopens ≤ b
  ir : ∀ x ∈ n.fitems, i64R x.fConn ∧ i64R x.fTo ∧ 1 ≤ x.fNumber ∧ x.fNumber ≤ n.flast
  ip : n.fitems.Pairwise fun x y => x.fNumber < y.fNumber
  cr : ∀ c ∈ n.fconns, c.fends.a0 ≠ c.fends.a1 ∧ i64R c.fends.a0 ∧ i64R c.fends.a1 ∧ 1 ≤ c.fnumber ∧ c.fnumber ≤ n.fopens
  cp : n.fconns.Pairwise fun x y => x.fnumber < y.fnumber
theorem NOk.more {b b' : Int} {n : Gnet_Net} (h : NOk b n) (hb : b ≤ b') : NOk b' n := ⟨by have := h.il; omega, h.cl, ⟨h.la.1, by have := h.la.2; omega⟩, ⟨h.op.1, by have := h.op.2; omega⟩, h.ir, h.ip, h.cr, h.cp⟩
def newN : Gnet_Net := ⟨[], [], 0, 0⟩
theorem newN_ok : NOk 0 newN := ⟨by decide, by decide, by decide, by decide, (fun _ h => by cases h), List.Pairwise.nil, (fun _ h => by cases h), List.Pairwise.nil⟩
def addN (n : Gnet_Net) (x : GItem) : Gnet_Net := ⟨n.fitems ++ [⟨n.flast + 1, x.fKind, x.fFrom, x.fTo, x.fConn, x.fBody⟩], n.fconns, n.flast + 1, n.fopens⟩
theorem addN_ok {b : Int} {n : Gnet_Net} {x : GItem} (h : NOk b n) (h1 : i64R x.fConn) (h2 : i64R x.fTo) : NOk (b + 1) (addN n x) := by
  have la := h.la; have op := h.op; have il := h.il
  refine ⟨by simp [addN]; omega, h.cl, by simp only [addN]; omega, by simp only [addN]; omega, fun y hy => ?_, ?_, fun c hc => ?_, h.cp⟩
  · rcases List.mem_append.1 hy with hy | hy
    · obtain ⟨k1, k2, k3, k4⟩ := h.ir y hy
      exact ⟨k1, k2, k3, by simp only [addN]; omega⟩
    · simp only [List.mem_singleton] at hy; subst hy
      exact ⟨h1, h2, by simp only; omega, by simp only [addN]; omega⟩
  · refine List.pairwise_append.2 ⟨h.ip, List.pairwise_singleton _ _, fun y hy z hz => ?_⟩
    simp only [List.mem_singleton] at hz; subst hz
    have := (h.ir y hy).2.2.2
    simp only; omega
  · exact h.cr c hc
theorem add_code {b : Int} {n : Gnet_Net} {x : GItem} (h : NOk b n) (hb : b ≤ 1000000) : m_net_Net_add x n = some (addN n x) := by
  have il := h.il; have la := h.la
  rw [m_net_Net_add, app_of (by simp; omega), Option.bind_some, w64_id (by omega) (by omega)]; rfl
theorem full_code (n : Gnet_Net) : m_net_Net_full n = some (decide (1024 ≤ (n.fitems.length : Int))) := rfl
def sendN (n : Gnet_Net) (a c : Int) (s : ByteArray) : Bool × Gnet_Net := if 1024 ≤ (n.fitems.length : Int) then (false, n) else (true, addN n ⟨0, 1, a, c, 0, s⟩)
theorem send_code {b : Int} {n : Gnet_Net} (h : NOk b n) (hb : b ≤ 1000000) (a c : Int) (s : ByteArray) : m_net_Net_Send a c s n = some (sendN n a c s) := by
  rw [m_net_Net_Send, full_code, Option.bind_some, sendN]
  by_cases hc : 1024 ≤ (n.fitems.length : Int)
  · rw [if_pos (decide_eq_true hc), if_pos hc]
  · rw [if_neg (by simpa using hc), if_neg hc, add_code h hb, Option.bind_some]; rfl
theorem i64_0 : i64R 0 := by decide
theorem sendN_ok {b : Int} {n : Gnet_Net} (h : NOk b n) {a c : Int} {s : ByteArray} (hc : i64R c) : NOk (b + 1) (sendN n a c s).2 := by
  unfold sendN
  split
  · exact h.more (by omega)
  · exact addN_ok h i64_0 hc
def openN (n : Gnet_Net) (a c : Int) : Int × Bool × Gnet_Net :=
  if 1024 ≤ (n.fitems.length : Int) then (0, false, n) else if 256 ≤ (n.fconns.length : Int) then (0, false, n) else if a = c then (0, false, n)
  else (n.fopens + 1, true, addN ⟨n.fitems, n.fconns ++ [⟨n.fopens + 1, ⟨a, c⟩⟩], n.flast, n.fopens + 1⟩ ⟨0, 2, a, c, n.fopens + 1, ⟨#[]⟩⟩)
theorem pre_open {b : Int} {n : Gnet_Net} (h : NOk b n) {a c : Int} (hl : ¬ 256 ≤ (n.fconns.length : Int)) (hac : a ≠ c) (ha : i64R a) (hc : i64R c) : NOk (b + 1) ⟨n.fitems, n.fconns ++ [⟨n.fopens + 1, ⟨a, c⟩⟩], n.flast, n.fopens + 1⟩ := by
  have la := h.la; have op := h.op; have il := h.il
  refine ⟨by simp only; omega, by simp; omega, by simp only; omega, by simp only; omega, h.ir, h.ip, fun x hx => ?_, ?_⟩
  · rcases List.mem_append.1 hx with hx | hx
    · obtain ⟨k1, k2, k3, k4, k5⟩ := h.cr x hx
      exact ⟨k1, k2, k3, k4, by simp only; omega⟩
    · simp only [List.mem_singleton] at hx; subst hx
      exact ⟨hac, ha, hc, by simp only; omega, by simp only; omega⟩
  · refine List.pairwise_append.2 ⟨h.cp, List.pairwise_singleton _ _, fun y hy z hz => ?_⟩
    simp only [List.mem_singleton] at hz; subst hz
    have := (h.cr y hy).2.2.2.2
    simp only; omega
theorem open_code {b : Int} {n : Gnet_Net} (h : NOk b n) (hb : b ≤ 100000) {a c : Int} (ha : i64R a) (hc : i64R c) : m_net_Net_Open a c n = some (openN n a c) := by
  have op := h.op; have cl := h.cl
  rw [m_net_Net_Open, full_code, Option.bind_some, openN]
  by_cases h1 : 1024 ≤ (n.fitems.length : Int)
  · rw [if_pos (decide_eq_true h1), if_pos h1]
  rw [if_neg (by simpa using h1), if_neg h1]
  by_cases h2 : 256 ≤ (n.fconns.length : Int)
  · rw [if_pos h2, if_pos h2]
  rw [if_neg h2, if_neg h2]
  by_cases h3 : a = c
  · rw [if_pos h3, if_pos h3]
  rw [if_neg h3, if_neg h3, w64_id (by omega) (by omega), app_of (by simp; omega), Option.bind_some, add_code (pre_open h h2 h3 ha hc) (by omega), Option.bind_some]
  rfl
theorem openN_ok {b : Int} {n : Gnet_Net} (h : NOk b n) (hb : b ≤ 1000000) {a c : Int} (ha : i64R a) (hc : i64R c) : NOk (b + 2) (openN n a c).2.2 := by
  have op := h.op
  unfold openN
  split
  · exact h.more (by omega)
  · split
    · exact h.more (by omega)
    · split
      · exact h.more (by omega)
      · rename_i h2 h3
        have := addN_ok (x := ⟨0, 2, a, c, n.fopens + 1, ⟨#[]⟩⟩) (pre_open h h2 h3 ha hc) ⟨by simp only; omega, by simp only; omega⟩ hc
        exact this.more (by omega)
def isC (c : Int) (x : Gnet_conn) : Bool := decide (x.fnumber = c)
theorem find_code {b : Int} {n : Gnet_Net} (h : NOk b n) (c : Int) : m_net_Net_find c n = some (match fndX (isC c) n.fconns 0 with | some z => ((z.1 : Int), true) | none => (-1, false)) := by
  have cl := h.cl
  have hl := idx_loop (isC c) (l := n.fconns) (by omega) (fun s => m_slices_IndexFunc_52_s2 n.fconns c s) (fun i => by
    simp only [m_slices_IndexFunc_52_s2, m_net_Net_find_c1, Option.bind_some, isC]; rfl) n.fconns [] rfl
  rw [m_net_Net_find, m_slices_IndexFunc_52]
  erw [hl]
  cases hf : fndX (isC c) n.fconns 0 with
  | none =>
    simp only [List.length_nil, hf]; rfl
  | some z =>
    simp only [List.length_nil, hf, Option.bind_some, Sum.elim_inr]
    rw [decide_eq_true (by omega)]
def otherC (x : Gnet_conn) (k : Int) : Int := if k = x.fends.a0 then x.fends.a1 else x.fends.a0
theorem other_code (x : Gnet_conn) (k : Int) : m_net_conn_other x k = some (otherC x k) := by
  rw [m_net_conn_other, otherC]; split <;> rfl
def hasC (k : Int) (x : Gnet_conn) : Bool := decide (k = x.fends.a0) || decide (k = x.fends.a1)
theorem has_code (x : Gnet_conn) (k : Int) : m_net_conn_has x k = some (hasC k x) := by
  rw [m_net_conn_has, hasC]
  by_cases h : k = x.fends.a0
  · rw [if_pos h, decide_eq_true h]; rfl
  · rw [if_neg h, decide_eq_false h]; rfl
def peerN (n : Gnet_Net) (c k : Int) : Int × Bool := match fndX (isC c) n.fconns 0 with
  | some z => if hasC k z.2 = true then (otherC z.2 k, true) else (0, false)
  | none => (0, false)
theorem peer_code {b : Int} {n : Gnet_Net} (h : NOk b n) (c k : Int) : m_net_Net_Peer c k n = some (peerN n c k) := by
  rw [m_net_Net_Peer, find_code h, Option.bind_some, peerN]
  cases hf : fndX (isC c) n.fconns 0 with
  | none => rfl
  | some z =>
    obtain ⟨i, x⟩ := z
    obtain ⟨h1, -, h3, -⟩ := take_fnd hf
    have hat : at_ n.fconns (i : Int) = some x := by rw [at_nat h1, ← List.getElem?_eq_getElem h1]; exact h3
    simp only [if_true]
    rw [hat, Option.bind_some, has_code, Option.bind_some]
    by_cases hh : hasC k x = true
    · rw [if_pos hh, if_pos hh, Option.bind_some, other_code, Option.bind_some]
    · rw [if_neg hh, if_neg hh]
def writeN (n : Gnet_Net) (c a : Int) (s : ByteArray) : Bool × Gnet_Net :=
  if (peerN n c a).2 = true then (if 1024 ≤ (n.fitems.length : Int) then (false, n) else (true, addN n ⟨0, 3, a, (peerN n c a).1, c, s⟩)) else (false, n)
theorem write_code {b : Int} {n : Gnet_Net} (h : NOk b n) (hb : b ≤ 1000000) (c a : Int) (s : ByteArray) : m_net_Net_Write c a s n = some (writeN n c a s) := by
  rw [m_net_Net_Write, peer_code h, Option.bind_some, writeN]
  by_cases hp : (peerN n c a).2 = true
  · rw [if_pos hp, if_pos hp, full_code, Option.bind_some]
    by_cases hc : 1024 ≤ (n.fitems.length : Int)
    · rw [if_pos (decide_eq_true hc), if_pos hc]
    · rw [if_neg (by simpa using hc), if_neg hc, add_code h hb, Option.bind_some]; rfl
  · rw [if_neg hp, if_neg hp]
theorem otherC_ok {b : Int} {n : Gnet_Net} (h : NOk b n) {x : Gnet_conn} (hx : x ∈ n.fconns) (k : Int) : i64R (otherC x k) := by
  obtain ⟨-, h1, h2, -⟩ := h.cr x hx
  unfold otherC; split <;> assumption
theorem writeN_ok {b : Int} {n : Gnet_Net} (h : NOk b n) {c a : Int} {s : ByteArray} (hc : i64R c) : NOk (b + 1) (writeN n c a s).2 := by
  unfold writeN
  split
  · rename_i hp
    split
    · exact h.more (by omega)
    · refine addN_ok h hc ?_
      unfold peerN at hp ⊢
      cases hf : fndX (isC c) n.fconns 0 with
      | none => simp [hf] at hp
      | some z =>
        obtain ⟨i, x⟩ := z
        obtain ⟨h1, -, h3, -⟩ := take_fnd hf
        simp only
        split
        · exact otherC_ok h (List.mem_of_getElem? h3) a
        · exact i64_0
  · exact h.more (by omega)
def delAt {α : Type} (l : List α) (i : Nat) : List α := l.take i ++ l.drop (i + 1)
theorem del37 {l : List GItem} {i : Nat} (hi : i < l.length) (hl : l.length ≤ 1000000) : m_slices_Delete_37 l (i : Int) (w64 ((i : Int) + 1)) = some (delAt l i) := by
  rw [w64_id (by omega) (by omega), m_slices_Delete_37, cutMid, if_pos ⟨by omega, by omega, by omega⟩, Option.bind_some, if_neg (by omega), cutHi, if_pos ⟨by omega, by omega⟩, Option.bind_some, cutLo, if_pos ⟨by omega, by omega⟩, Option.bind_some]
  rfl
theorem del30 {l : List Gnet_conn} {i : Nat} (hi : i < l.length) (hl : l.length ≤ 1000000) : m_slices_Delete_30 l (i : Int) (w64 ((i : Int) + 1)) = some (delAt l i) := by
  rw [w64_id (by omega) (by omega), m_slices_Delete_30, cutMid, if_pos ⟨by omega, by omega, by omega⟩, Option.bind_some, if_neg (by omega), cutHi, if_pos ⟨by omega, by omega⟩, Option.bind_some, cutLo, if_pos ⟨by omega, by omega⟩, Option.bind_some]
  rfl
theorem delAt_sub {α : Type} (l : List α) (i : Nat) : (delAt l i).Sublist l := by
  unfold delAt
  conv => rhs; rw [← List.take_append_drop i l]
  refine List.Sublist.append (List.Sublist.refl _) ?_
  rw [← List.drop_drop]
  exact List.drop_sublist _ _
def cIs (c : Int) (x : GItem) : Bool := decide (x.fConn = c)
theorem delf31 {l : List GItem} (hl : l.length ≤ 1000000) (c : Int) : m_slices_DeleteFunc_31 l c = some (l.filter fun x => !cIs c x) := by
  have h1 := idx_loop (cIs c) (l := l) (by omega) (fun s => m_slices_IndexFunc_54_s2 l c s) (fun i => by
    simp only [m_slices_IndexFunc_54_s2, m_net_Net_Close_c1, Option.bind_some, cIs]; rfl) l [] rfl
  have h2 : m_slices_IndexFunc_54 l c = some (fndI (fndX (cIs c) l 0)) := by
    rw [m_slices_IndexFunc_54]
    erw [h1]
    cases hf : fndX (cIs c) l 0 with
    | none => simp only [List.length_nil, hf]; rfl
    | some z => simp only [List.length_nil, hf]; rfl
  exact delf_eq (cIs c) (by omega) _ (fun s => m_slices_DeleteFunc_31_s2 c s.1 s.2.1 s.2.2) h2 (fun q i j => by
    simp only [m_slices_DeleteFunc_31_s2, m_net_Net_Close_c1, Option.bind_some, cIs]; rfl)
def tellC (x : Gnet_conn) (to : Int) : GItem := ⟨0, 4, otherC x to, to, x.fnumber, ⟨#[]⟩⟩
theorem closed_code {b : Int} {n : Gnet_Net} (h : NOk b n) (hb : b ≤ 1000000) (x : Gnet_conn) (to : Int) : m_net_Net_closed x to n = some (addN n (tellC x to)) := by
  rw [m_net_Net_closed, other_code, Option.bind_some, add_code h hb, Option.bind_some]; rfl
def closeN (n : Gnet_Net) (c : Int) : Bool × Gnet_Net := match fndX (isC c) n.fconns 0 with
  | some z => (true, addN (addN ⟨n.fitems.filter fun x => !cIs c x, delAt n.fconns z.1, n.flast, n.fopens⟩ (tellC z.2 z.2.fends.a0)) (tellC z.2 z.2.fends.a1))
  | none => (false, n)
theorem sub_ok {b : Int} {n : Gnet_Net} (h : NOk b n) {l : List GItem} {cs : List Gnet_conn} (hl : l.Sublist n.fitems) (hc : cs.Sublist n.fconns) : NOk b ⟨l, cs, n.flast, n.fopens⟩ :=
  ⟨by have := h.il; have := hl.length_le; simp only; omega, Nat.le_trans hc.length_le h.cl, h.la, h.op, fun x hx => h.ir x (hl.subset hx), h.ip.sublist hl, fun x hx => h.cr x (hc.subset hx), h.cp.sublist hc⟩
theorem num_ok {b : Int} {n : Gnet_Net} (h : NOk b n) (hb : b ≤ 1000000) {x : Gnet_conn} (hx : x ∈ n.fconns) : i64R x.fnumber := by
  obtain ⟨-, -, -, h1, h2⟩ := h.cr x hx
  have := h.op
  exact ⟨by omega, by omega⟩
theorem close_code {b : Int} {n : Gnet_Net} (h : NOk b n) (hb : b ≤ 100000) (c : Int) : m_net_Net_Close c n = some (closeN n c) := by
  rw [m_net_Net_Close, find_code h, Option.bind_some, closeN]
  cases hf : fndX (isC c) n.fconns 0 with
  | none => rfl
  | some z =>
    obtain ⟨i, x⟩ := z
    obtain ⟨h1, -, h3, -⟩ := take_fnd hf
    have il := h.il; have cl := h.cl
    have hat : at_ n.fconns (i : Int) = some x := by rw [at_nat h1, ← List.getElem?_eq_getElem h1]; exact h3
    have hxm := List.mem_of_getElem? h3
    have ok0 := sub_ok h (List.filter_sublist (p := fun x => !cIs c x) (l := n.fitems)) (delAt_sub n.fconns i)
    have ok1 := addN_ok (x := tellC x x.fends.a0) ok0 (num_ok h (by omega) hxm) (h.cr x hxm).2.1
    simp only [if_true]
    rw [hat, Option.bind_some, del30 h1 (by omega), Option.bind_some, delf31 (by omega), Option.bind_some, closed_code ok0 (by omega), Option.bind_some]
    erw [closed_code ok1 (by omega)]
    rfl
theorem closeN_ok {b : Int} {n : Gnet_Net} (h : NOk b n) (hb : b ≤ 100000) (c : Int) : NOk (b + 2) (closeN n c).2 := by
  unfold closeN
  cases hf : fndX (isC c) n.fconns 0 with
  | none => exact h.more (by omega)
  | some z =>
    obtain ⟨i, x⟩ := z
    obtain ⟨h1, -, h3, -⟩ := take_fnd hf
    have hxm := List.mem_of_getElem? h3
    have ok0 := sub_ok h (List.filter_sublist (p := fun x => !cIs c x) (l := n.fitems)) (delAt_sub n.fconns i)
    have ok1 := addN_ok (x := tellC x x.fends.a0) ok0 (num_ok h (by omega) hxm) (h.cr x hxm).2.1
    have ok2 := addN_ok (x := tellC x x.fends.a1) ok1 (num_ok h (by omega) hxm) (h.cr x hxm).2.2.1
    exact ok2.more (by omega)
open Go.RowKit
def isRdy (pre : List GItem) (x : GItem) : Bool := decide (x.fKind = 1) || pre.all fun y => decide (y.fKind = 1) || decide (y.fConn ≠ x.fConn) || decide (y.fTo ≠ x.fTo)
def rdyI : List GItem → List GItem → List Int
  | _, [] => []
  | pre, x :: r => if isRdy pre x = true then (pre.length : Int) :: rdyI (pre ++ [x]) r else rdyI (pre ++ [x]) r
def rdyL : List GItem → List GItem → List GItem
  | _, [] => []
  | pre, x :: r => if isRdy pre x = true then x :: rdyL (pre ++ [x]) r else rdyL (pre ++ [x]) r
theorem rdyI_len : ∀ (r pre : List GItem), (rdyI pre r).length = (rdyL pre r).length ∧ (rdyI pre r).length ≤ r.length
  | [], pre => ⟨rfl, Nat.le_refl _⟩
  | x :: r, pre => by
    obtain ⟨h1, h2⟩ := rdyI_len r (pre ++ [x])
    rw [rdyI, rdyL]
    split
    · exact ⟨by simp [h1], by simp only [List.length_cons]; omega⟩
    · exact ⟨h1, by simp only [List.length_cons]; omega⟩
theorem rdy_at {all : List GItem} : ∀ (r pre : List GItem), all = pre ++ r → ∀ j, j < (rdyI pre r).length → ∃ i : Nat, (rdyI pre r)[j]? = some (i : Int) ∧ i < all.length ∧ pre.length ≤ i ∧ all[i]? = (rdyL pre r)[j]?
  | [], pre, h, j, hj => by simp [rdyI] at hj
  | x :: r, pre, h, j, hj => by
    have h' : all = (pre ++ [x]) ++ r := by rw [h]; simp
    rw [rdyI, rdyL]
    rw [rdyI] at hj
    by_cases hr : isRdy pre x = true
    · rw [if_pos hr] at hj
      rw [if_pos hr, if_pos hr]
      cases j with
      | zero => exact ⟨pre.length, rfl, by rw [h]; simp, Nat.le_refl _, by rw [h]; simp⟩
      | succ j =>
        obtain ⟨i, h1, h2, h3, h4⟩ := rdy_at r (pre ++ [x]) h' j (by simpa using hj)
        simp only [List.length_append, List.length_singleton] at h3
        exact ⟨i, by simpa using h1, h2, by omega, by simpa using h4⟩
    · rw [if_neg hr] at hj
      rw [if_neg hr, if_neg hr]
      obtain ⟨i, h1, h2, h3, h4⟩ := rdy_at r (pre ++ [x]) h' j hj
      simp only [List.length_append, List.length_singleton] at h3
      exact ⟨i, h1, h2, by omega, h4⟩
def okL (x : Gnet_lane) : Bool := decide ((-9223372036854775808) ≤ x.fconn ∧ x.fconn ≤ 9223372036854775807 ∧ (-9223372036854775808) ≤ x.fto ∧ x.fto ≤ 9223372036854775807)
theorem ready_loop {N : Gnet_Net} (hl : N.fitems.length ≤ 1000000) (hr : ∀ x ∈ N.fitems, i64R x.fConn ∧ i64R x.fTo) : ∀ (r pre : List GItem) (acc : List Int) (m : List (Gnet_lane × Bool)), N.fitems = pre ++ r → acc.length ≤ pre.length →
    okM okL m → (∀ ln, (getM false m ln).1 = pre.any fun y => decide (y.fKind ≠ 1) && decide (y.fConn = ln.fconn) && decide (y.fTo = ln.fto)) →
    loop (fun s : List Int × List (Gnet_lane × Bool) × Int => m_net_Net_ready_s2 N s.1 s.2.1 s.2.2) (acc, m, (pre.length : Int)) = some (acc ++ rdyI pre r) := by
  intro r
  induction r with
  | nil =>
    intro pre acc m h ha hm hg
    rw [List.append_nil] at h
    rw [loop_inr (by simp only [m_net_Net_ready_s2]; rw [if_neg (by rw [h]; omega)])]
    simp [rdyI]
  | cons x r ih =>
    intro pre acc m h ha hm hg
    have hlen : N.fitems.length = pre.length + (r.length + 1) := by rw [h]; simp
    have hat : at_ N.fitems (pre.length : Int) = some x := by rw [at_nat (by omega)]; simp [h]
    obtain ⟨x1, x2⟩ := hr x (by rw [h]; simp)
    have hst := m_net_Net_ready_s2.eq_def N acc m (pre.length : Int)
    rw [if_pos (by omega), hat, Option.bind_some] at hst
    have hp : (((pre ++ [x]).length : Nat) : Int) = (pre.length : Int) + 1 := by simp
    have hrest := fun acc' m' h1 h2 h3 => ih (pre ++ [x]) acc' m' (by rw [h]; simp) h1 h2 h3
    rw [hp] at hrest
    have hok : okL ⟨x.fConn, x.fTo⟩ = true := decide_eq_true ⟨x1.1, x1.2, x2.1, x2.2⟩
    rw [rdyI]
    by_cases hk : x.fKind = 1
    · have hrd : isRdy pre x = true := by simp [isRdy, hk]
      rw [if_pos hk, app_of (by simp; omega), Option.bind_some, m_net_Net_ready_j3, if_neg (by simp [hk]), w64_id (by omega) (by omega)] at hst
      rw [if_pos hrd]
      refine (loop_inl hst).trans ?_
      have := hrest (acc ++ [(pre.length : Int)]) m (by simp; omega) hm (fun ln => by rw [hg ln, List.any_append]; simp [hk])
      rw [this]; simp
    · have hget : mget okL false m ⟨x.fConn, x.fTo⟩ = some (getM false m ⟨x.fConn, x.fTo⟩) := if_pos ⟨hok, hm⟩
      have hput : mput okL m ⟨x.fConn, x.fTo⟩ true = some (putM m ⟨x.fConn, x.fTo⟩ true) := if_pos ⟨hok, hm⟩
      have hm' := putM_ok (v := true) hok hm
      have hg' : ∀ ln, (getM false (putM m ⟨x.fConn, x.fTo⟩ true) ln).1 = (pre ++ [x]).any fun y => decide (y.fKind ≠ 1) && decide (y.fConn = ln.fconn) && decide (y.fTo = ln.fto) := by
        intro ln
        rw [getM_put, List.any_append]
        by_cases he : (⟨x.fConn, x.fTo⟩ : Gnet_lane) = ln
        · subst he; simp [hk]
        · rw [if_neg he, hg ln]
          have : ¬ (x.fConn = ln.fconn ∧ x.fTo = ln.fto) := fun hh => he (by cases ln; simp only at hh; simp [hh])
          by_cases h1 : x.fConn = ln.fconn
          · have h2 : ¬ x.fTo = ln.fto := fun h2 => this ⟨h1, h2⟩
            simp [h2]
          · simp [h1]
      rw [if_neg hk] at hst
      erw [hget] at hst
      rw [Option.bind_some] at hst
      have hrd : isRdy pre x = !(getM false m ⟨x.fConn, x.fTo⟩).1 := by
        rw [hg, isRdy, decide_eq_false hk, Bool.false_or, Bool.eq_iff_iff]
        simp only [List.all_eq_true, Bool.or_eq_true, decide_eq_true_eq, Bool.not_eq_true', List.any_eq_false, Bool.and_eq_true]
        constructor
        · intro hh y hy hc
          rcases hh y hy with (h1 | h1) | h1
          · exact hc.1.1 h1
          · exact h1 hc.1.2
          · exact h1 hc.2
        · intro hh y hy
          by_cases h1 : y.fKind = 1
          · exact .inl (.inl h1)
          · by_cases h2 : y.fConn = x.fConn
            · exact .inr fun h3 => hh y hy ⟨⟨h1, h2⟩, h3⟩
            · exact .inl (.inr h2)
      cases hb : (getM false m ⟨x.fConn, x.fTo⟩).1 with
      | true =>
        rw [if_pos hb, m_net_Net_ready_j3, if_pos hk] at hst
        erw [hput] at hst
        rw [Option.bind_some, w64_id (by omega) (by omega)] at hst
        rw [if_neg (by rw [hrd, hb]; decide)]
        exact (loop_inl hst).trans (hrest acc _ (by simp; omega) hm' hg')
      | false =>
        rw [if_neg (by rw [hb]; decide), app_of (by simp; omega), Option.bind_some, m_net_Net_ready_j3, if_pos hk] at hst
        erw [hput] at hst
        rw [Option.bind_some, w64_id (by omega) (by omega)] at hst
        rw [if_pos (by rw [hrd, hb]; rfl)]
        refine (loop_inl hst).trans ?_
        rw [hrest (acc ++ [(pre.length : Int)]) _ (by simp; omega) hm' hg']
        simp
theorem ready_code {b : Int} {n : Gnet_Net} (h : NOk b n) (hb : b ≤ 1000000) : m_net_Net_ready n = some (rdyI [] n.fitems) := by
  have il := h.il
  have := ready_loop (N := n) (by omega) (fun x hx => ⟨(h.ir x hx).1, (h.ir x hx).2.1⟩) n.fitems [] [] [] rfl (by simp) ⟨fun _ h => (by cases h), List.nodup_nil⟩ (fun ln => rfl)
  rw [m_net_Net_ready]
  erw [this]
  rfl
def dgI : List GItem → Nat → List Int
  | [], _ => []
  | x :: r, i => if x.fKind = 1 then (i : Int) :: dgI r (i + 1) else dgI r (i + 1)
def dgL (l : List GItem) : List GItem := l.filter fun x => decide (x.fKind = 1)
theorem dgI_len : ∀ (r : List GItem) (i : Nat), (dgI r i).length = (dgL r).length
  | [], i => rfl
  | x :: r, i => by
    rw [dgI, dgL, List.filter_cons]
    by_cases h : x.fKind = 1
    · rw [if_pos h, if_pos (by simp [h])]; simp [dgI_len r (i + 1), dgL]
    · rw [if_neg h, if_neg (by simp [h])]; exact dgI_len r (i + 1)
theorem dg_at {all : List GItem} : ∀ (r pre : List GItem), all = pre ++ r → ∀ j, j < (dgI r pre.length).length → ∃ i : Nat, (dgI r pre.length)[j]? = some (i : Int) ∧ i < all.length ∧ all[i]? = (dgL r)[j]?
  | [], pre, h, j, hj => by simp [dgI] at hj
  | x :: r, pre, h, j, hj => by
    have h' : all = (pre ++ [x]) ++ r := by rw [h]; simp
    have hp : (pre ++ [x]).length = pre.length + 1 := by simp
    rw [dgI, dgL, List.filter_cons]
    rw [dgI] at hj
    by_cases hr : x.fKind = 1
    · rw [if_pos hr] at hj
      rw [if_pos hr, if_pos (by simp [hr])]
      cases j with
      | zero => exact ⟨pre.length, rfl, by rw [h]; simp, by rw [h]; simp⟩
      | succ j =>
        obtain ⟨i, h1, h2, h4⟩ := dg_at r (pre ++ [x]) h' j (by rw [hp]; simpa using hj)
        rw [hp] at h1
        exact ⟨i, by simpa using h1, h2, by simpa [dgL] using h4⟩
    · rw [if_neg hr] at hj
      rw [if_neg hr, if_neg (by simp [hr])]
      obtain ⟨i, h1, h2, h4⟩ := dg_at r (pre ++ [x]) h' j (by rw [hp]; exact hj)
      rw [hp] at h1
      exact ⟨i, h1, h2, h4⟩
theorem dg_loop {N : Gnet_Net} (hl : N.fitems.length ≤ 1000000) : ∀ (r pre : List GItem) (acc : List Int), N.fitems = pre ++ r → acc.length ≤ pre.length →
    loop (fun s : List Int × Int => m_net_Net_datagrams_s2 N s.1 s.2) (acc, (pre.length : Int)) = some (acc ++ dgI r pre.length) := by
  intro r
  induction r with
  | nil =>
    intro pre acc h ha
    rw [List.append_nil] at h
    rw [loop_inr (by simp only [m_net_Net_datagrams_s2]; rw [if_neg (by rw [h]; omega)])]
    simp [dgI]
  | cons x r ih =>
    intro pre acc h ha
    have hlen : N.fitems.length = pre.length + (r.length + 1) := by rw [h]; simp
    have hat : at_ N.fitems (pre.length : Int) = some x := by rw [at_nat (by omega)]; simp [h]
    have hst := m_net_Net_datagrams_s2.eq_def N acc (pre.length : Int)
    rw [if_pos (by omega), hat, Option.bind_some] at hst
    have hp : (((pre ++ [x]).length : Nat) : Int) = (pre.length : Int) + 1 := by simp
    have hp2 : (pre ++ [x]).length = pre.length + 1 := by simp
    have hrest := fun acc' h1 => ih (pre ++ [x]) acc' (by rw [h]; simp) h1
    rw [hp, hp2] at hrest
    rw [dgI]
    by_cases hk : x.fKind = 1
    · rw [if_pos hk, app_of (by simp; omega), Option.bind_some, w64_id (by omega) (by omega)] at hst
      rw [if_pos hk]
      refine (loop_inl hst).trans ?_
      rw [hrest _ (by simp; omega)]
      simp
    · rw [if_neg hk, w64_id (by omega) (by omega)] at hst
      rw [if_neg hk]
      exact (loop_inl hst).trans (hrest acc (by omega))
theorem dg_code {b : Int} {n : Gnet_Net} (h : NOk b n) (hb : b ≤ 1000000) : m_net_Net_datagrams n = some (dgI n.fitems 0) := by
  have il := h.il
  have := dg_loop (N := n) (by omega) n.fitems [] [] rfl (by simp)
  rw [m_net_Net_datagrams]
  erw [this]
  rfl
def pickP (p : Int) (n : Nat) : Nat := ((if p < 0 then -(p + 1) else p) % (n : Int)).toNat
theorem pickP_lt (p : Int) {n : Nat} (hn : 0 < n) : pickP p n < n := by
  unfold pickP
  have h1 := Int.emod_nonneg (if p < 0 then -(p + 1) else p) (by omega : (n : Int) ≠ 0)
  have h2 := Int.emod_lt_of_pos (if p < 0 then -(p + 1) else p) (by omega : (0 : Int) < n)
  omega
/-- The place that a pick means. -/
def pickI (l : List Int) (p : Int) : Int × Bool := if l.length = 0 then (0, false) else ((l[pickP p l.length]?).getD 0, true)
theorem pick_j {l : List Int} (hl : 0 < l.length) {p : Int} (h0 : 0 ≤ p) : ((dvd (l.length : Int)).bind fun _ => (at_ l (p.tmod (l.length : Int))).bind fun x10 => some (x10, true)) = some ((l[(p % (l.length : Int)).toNat]?).getD 0, true) := by
  have h1 := Int.emod_nonneg p (by omega : (l.length : Int) ≠ 0)
  have h2 := Int.emod_lt_of_pos p (by omega : (0 : Int) < l.length)
  rw [dvd, if_pos (by omega), Option.bind_some, Int.tmod_eq_emod_of_nonneg h0, at_of h1 (by omega), Option.bind_some, List.getElem?_eq_getElem (by omega)]
  rfl
theorem picked_code {b : Int} {n : Gnet_Net} (h : NOk b n) (hb : b ≤ 1000000) {p : Int} (hp : i64R p) : m_net_Net_picked p n = some (pickI (rdyI [] n.fitems) p) := by
  obtain ⟨p1, p2⟩ := hp
  rw [m_net_Net_picked, ready_code h hb, Option.bind_some, pickI]
  by_cases h0 : (rdyI [] n.fitems).length = 0
  · rw [if_pos (by omega), if_pos h0]
  rw [if_neg (by omega), if_neg h0]
  unfold pickP
  by_cases hn : p < 0
  · rw [if_pos hn, if_pos hn, m_net_Net_picked_j1, w64_id (x := p + 1) (by omega) (by omega), w64_id (by omega) (by omega), show 0 - (p + 1) = -(p + 1) by omega]
    exact pick_j (by omega) (by omega)
  · rw [if_neg hn, if_neg hn, m_net_Net_picked_j1]
    exact pick_j (by omega) (by omega)
theorem picked2_code {b : Int} {n : Gnet_Net} (h : NOk b n) (hb : b ≤ 1000000) {p : Int} (hp : i64R p) : m_net_Net_picked_2 p n = some (pickI (dgI n.fitems 0) p) := by
  obtain ⟨p1, p2⟩ := hp
  rw [m_net_Net_picked_2, dg_code h hb, Option.bind_some, pickI]
  by_cases h0 : (dgI n.fitems 0).length = 0
  · rw [if_pos (by omega), if_pos h0]
  rw [if_neg (by omega), if_neg h0]
  unfold pickP
  by_cases hn : p < 0
  · rw [if_pos hn, if_pos hn, m_net_Net_picked_2_j1, w64_id (x := p + 1) (by omega) (by omega), w64_id (by omega) (by omega), show 0 - (p + 1) = -(p + 1) by omega]
    exact pick_j (by omega) (by omega)
  · rw [if_neg hn, if_neg hn, m_net_Net_picked_2_j1]
    exact pick_j (by omega) (by omega)
theorem pickI_rdy (l : List GItem) (p : Int) : (pickI (rdyI [] l) p).2 = true → ∃ (i : Nat) (x : GItem), (pickI (rdyI [] l) p).1 = (i : Int) ∧ i < l.length ∧ l[i]? = some x ∧ (rdyL [] l)[pickP p (rdyL [] l).length]? = some x ∧ (rdyL [] l).length ≠ 0 := by
  intro h
  unfold pickI at h ⊢
  have hll := (rdyI_len l []).1
  by_cases h0 : (rdyI [] l).length = 0
  · rw [if_pos h0] at h; cases h
  rw [if_neg h0]
  have hlt := pickP_lt p (by omega : 0 < (rdyI [] l).length)
  obtain ⟨i, g1, g2, -, g4⟩ := rdy_at (all := l) l [] rfl _ hlt
  rw [List.getElem?_eq_getElem g2] at g4
  rw [hll] at g4
  exact ⟨i, l[i], by simp only [g1]; rfl, g2, List.getElem?_eq_getElem g2, g4.symm, by omega⟩
theorem pickI_dg (l : List GItem) (p : Int) : (pickI (dgI l 0) p).2 = true → ∃ (i : Nat) (x : GItem), (pickI (dgI l 0) p).1 = (i : Int) ∧ i < l.length ∧ l[i]? = some x ∧ (dgL l)[pickP p (dgL l).length]? = some x ∧ (dgL l).length ≠ 0 := by
  intro h
  unfold pickI at h ⊢
  have hll := dgI_len l 0
  by_cases h0 : (dgI l 0).length = 0
  · rw [if_pos h0] at h; cases h
  rw [if_neg h0]
  have hlt := pickP_lt p (by omega : 0 < (dgI l 0).length)
  obtain ⟨i, g1, g2, g4⟩ := dg_at (all := l) l [] rfl _ hlt
  rw [List.getElem?_eq_getElem g2] at g4
  rw [hll] at g4
  exact ⟨i, l[i], by
    have g1 : (dgI l 0)[pickP p (dgI l 0).length]? = some (i : Int) := g1
    simp only [g1]; rfl, g2, List.getElem?_eq_getElem g2, g4.symm, by omega⟩
def item0 : GItem := ⟨0, 0, 0, 0, 0, ⟨#[]⟩⟩
def takeN (n : Gnet_Net) (p : Int) : GItem × Bool × Gnet_Net :=
  if (pickI (rdyI [] n.fitems) p).2 = true then ((n.fitems[(pickI (rdyI [] n.fitems) p).1.toNat]?).getD item0, true, ⟨delAt n.fitems (pickI (rdyI [] n.fitems) p).1.toNat, n.fconns, n.flast, n.fopens⟩) else (item0, false, n)
theorem take_code {b : Int} {n : Gnet_Net} (h : NOk b n) (hb : b ≤ 1000000) {p : Int} (hp : i64R p) : m_net_Net_Take p n = some (takeN n p) := by
  have il := h.il
  rw [m_net_Net_Take, picked_code h hb hp, Option.bind_some, takeN]
  by_cases hc : (pickI (rdyI [] n.fitems) p).2 = true
  · obtain ⟨i, x, h1, h2, h3, -⟩ := pickI_rdy n.fitems p hc
    rw [if_pos hc, if_pos hc, h1, at_nat h2, Option.bind_some, del37 h2 (by omega), Option.bind_some, Int.toNat_natCast, List.getElem?_eq_getElem h2]
    rfl
  · rw [if_neg hc, if_neg hc]; rfl
theorem takeN_ok {b : Int} {n : Gnet_Net} (h : NOk b n) (p : Int) : NOk b (takeN n p).2.2 := by
  unfold takeN
  split
  · exact sub_ok h (delAt_sub _ _) (List.Sublist.refl _)
  · exact h
theorem Ready_loop {N : Gnet_Net} (hl : N.fitems.length ≤ 1000000) {ix : List Int} {ls : List GItem} (hix : ix.length = ls.length) (hi : ix.length ≤ 1000000) (hat : ∀ j, j < ix.length → ∃ i : Nat, ix[j]? = some (i : Int) ∧ i < N.fitems.length ∧ N.fitems[i]? = ls[j]?) : ∀ (d j : Nat), j + d = ix.length →
    loop (fun s : List GItem × Int => m_net_Net_Ready_s2 ix N s.1 s.2) (ls.take j, (j : Int)) = some ls := by
  intro d
  induction d with
  | zero =>
    intro j hj
    rw [loop_inr (by simp only [m_net_Net_Ready_s2]; rw [if_neg (by omega)])]
    congr 1
    exact List.take_of_length_le (by omega)
  | succ d ih =>
    intro j hj
    obtain ⟨i, g1, g2, g3⟩ := hat j (by omega)
    have hst := m_net_Net_Ready_s2.eq_def ix N (ls.take j) (j : Int)
    have hj1 : ix[j]'(by omega) = (i : Int) := (List.getElem?_eq_some_iff.1 g1).2
    rw [List.getElem?_eq_getElem g2, List.getElem?_eq_getElem (by omega : j < ls.length)] at g3
    injection g3 with g3
    rw [if_pos (by omega), at_nat (by omega), Option.bind_some, hj1, at_nat g2, Option.bind_some, g3, app_of (by simp; omega), Option.bind_some, w64_id (by omega) (by omega)] at hst
    refine (loop_inl hst).trans ?_
    have := ih (j + 1) (by omega)
    rw [show (j : Int) + 1 = ((j + 1 : Nat) : Int) by omega, show ls.take j ++ [ls[j]] = ls.take (j + 1) by rw [List.take_succ_eq_append_getElem (by omega)]]
    exact this
theorem Ready_code {b : Int} {n : Gnet_Net} (h : NOk b n) (hb : b ≤ 1000000) : m_net_Net_Ready n = some (rdyL [] n.fitems) := by
  have il := h.il
  obtain ⟨l1, l2⟩ := rdyI_len n.fitems []
  have := Ready_loop (N := n) (by omega) l1 (by omega) (fun j hj => by
    obtain ⟨i, g1, g2, -, g4⟩ := rdy_at (all := n.fitems) n.fitems [] rfl j hj
    exact ⟨i, g1, g2, g4⟩) (rdyI [] n.fitems).length 0 (by omega)
  rw [m_net_Net_Ready, ready_code h hb, Option.bind_some]
  rw [List.take_zero] at this
  erw [this]
  rfl
def doubleN (n : Gnet_Net) (p : Int) : Bool × Gnet_Net :=
  if (pickI (dgI n.fitems 0) p).2 = true then (if 1024 ≤ (n.fitems.length : Int) then (false, n) else (true, addN n ((n.fitems[(pickI (dgI n.fitems 0) p).1.toNat]?).getD item0))) else (false, n)
theorem double_code {b : Int} {n : Gnet_Net} (h : NOk b n) (hb : b ≤ 1000000) {p : Int} (hp : i64R p) : m_net_Net_Double p n = some (doubleN n p) := by
  have il := h.il
  rw [m_net_Net_Double, picked2_code h hb hp, Option.bind_some, doubleN]
  by_cases hc : (pickI (dgI n.fitems 0) p).2 = true
  · obtain ⟨i, x, h1, h2, h3, -⟩ := pickI_dg n.fitems p hc
    rw [if_pos hc, if_pos hc, full_code, Option.bind_some]
    by_cases h4 : 1024 ≤ (n.fitems.length : Int)
    · rw [if_pos (decide_eq_true h4), if_pos h4]
    · rw [if_neg (by simpa using h4), if_neg h4, h1, at_nat h2, Option.bind_some, add_code h hb, Option.bind_some, Int.toNat_natCast, List.getElem?_eq_getElem h2]
      rfl
  · rw [if_neg hc, if_neg hc]
open Go.RowKit
open Go.RowKit
theorem rpick {p : Int} (hp : i64R p) {n : Nat} (hn : 0 < n) (hn2 : n ≤ 1000000) : m_ref08_Pick p (n : Int) = some ((pickP p n : Nat) : Int) := by
  obtain ⟨p1, p2⟩ := hp
  have hj : ∀ q : Int, 0 ≤ q → m_ref08_Pick_j1 (n : Int) q = some (((q % (n : Int)).toNat : Nat) : Int) := by
    intro q hq
    have h1 := Int.emod_nonneg q (by omega : (n : Int) ≠ 0)
    rw [m_ref08_Pick_j1, dvd, if_pos (by omega), Option.bind_some, Int.tmod_eq_emod_of_nonneg hq]
    congr 1
    omega
  rw [m_ref08_Pick, pickP]
  by_cases h : p < 0
  · rw [if_pos h, if_pos h, w64_id (x := p + 1) (by omega) (by omega), w64_id (by omega) (by omega), show 0 - (p + 1) = -(p + 1) by omega, hj _ (by omega)]
  · rw [if_neg h, if_neg h, hj _ (by omega)]
theorem awake08 : m_law08_awake = some true := by
  have k0 := newN_ok
  have r1 : i64R 1 := by decide
  have r2 : i64R 2 := by decide
  have r0 : i64R 0 := by decide
  have k1 := sendN_ok k0 (a := 1) (c := 2) (s := ⟨#[97]⟩) r2
  have k2 := sendN_ok k1 (a := 2) (c := 1) (s := ⟨#[98]⟩) r1
  have k3 := takeN_ok k2 1
  have k4 := takeN_ok k3 0
  have k5 := takeN_ok k4 0
  have k6 := openN_ok k5 (by omega) (a := 1) (c := 2) r1 r2
  have k7 := writeN_ok k6 (c := 1) (a := 1) (s := ⟨#[120]⟩) r1
  have k8 := writeN_ok k7 (c := 1) (a := 1) (s := ⟨#[121]⟩) r1
  have k9 := closeN_ok k8 (by omega) 1
  have e1 := send_code k0 (by omega) 1 2 ⟨#[97]⟩
  have e2 := send_code k1 (by omega) 2 1 ⟨#[98]⟩
  have e3 := take_code k2 (by omega) r1
  have e4 := take_code k3 (by omega) r0
  have e5 := take_code k4 (by omega) r0
  have e6 := open_code k5 (by omega) r1 r2
  have e7 := write_code k6 (by omega) 1 1 ⟨#[120]⟩
  have e8 := write_code k7 (by omega) 1 1 ⟨#[121]⟩
  have e9 := Ready_code k8 (by omega)
  have e10 := close_code k8 (by omega) 1
  have e11 := Ready_code k9 (by omega)
  rw [m_law08_awake]
  erw [show m_net_New = some newN from rfl]
  rw [Option.bind_some, e1, Option.bind_some]
  erw [e2]
  rw [Option.bind_some]
  erw [e3]
  rw [Option.bind_some]
  erw [e4]
  rw [Option.bind_some]
  erw [e5]
  rw [Option.bind_some]
  erw [e6]
  rw [Option.bind_some]
  erw [e7]
  rw [Option.bind_some]
  erw [e8]
  rw [Option.bind_some]
  erw [e9]
  rw [Option.bind_some]
  erw [e10]
  rw [Option.bind_some]
  erw [e11]
  rw [Option.bind_some]
  rfl
open Go.RowKit
open Go.RowKit
theorem del_split {α : Type} {l : List α} {i : Nat} {x : α} (hx : l[i]? = some x) : l = l.take i ++ x :: l.drop (i + 1) := by
  have hi := (List.getElem?_eq_some_iff.1 hx).1
  have hxe := (List.getElem?_eq_some_iff.1 hx).2
  conv => lhs; rw [← List.take_append_drop i l, List.drop_eq_getElem_cons hi, hxe]
theorem delAt_len {α : Type} {l : List α} {i : Nat} (hi : i < l.length) : (delAt l i).length + 1 = l.length := by
  simp only [delAt, List.length_append, List.length_take, List.length_drop]; omega
open Go.RowKit
open Go.RowKit
def cnt (l : List GItem) (j : Nat) : Nat := (l.filter fun x => decide (x.fFrom = (j : Int))).length
theorem cnt_del {l : List GItem} {i : Nat} {x : GItem} (hx : l[i]? = some x) (j : Nat) : cnt (delAt l i) j + (if x.fFrom = (j : Int) then 1 else 0) = cnt l j := by
  have h := del_split hx
  unfold cnt delAt
  conv => rhs; rw [h]
  rw [List.filter_append, List.filter_append, List.filter_cons]
  by_cases hj : x.fFrom = (j : Int)
  · rw [if_pos hj, if_pos (decide_eq_true hj)]; simp; omega
  · rw [if_neg hj, if_neg (by simpa using hj)]; simp
def oneB (i : Int) : ByteArray := strOfNums [i]
def dgP (k : Nat) (x : GItem) : Prop := x.fKind = 1 ∧ 1 ≤ x.fFrom ∧ x.fFrom ≤ k ∧ x.fTo = x.fFrom + 1 ∧ x.fBody = oneB x.fFrom
structure DG (b : Int) (k tk db dr : Nat) (came : List Int) (n : Gnet_Net) : Prop where
  ok : NOk b n
  fc : n.fconns = []
  op : n.fopens = 0
  it : ∀ x ∈ n.fitems, dgP k x
  nn : n.fitems.length + tk + dr = k + db
  cl : came.length = 41
  cm : ∀ j : Nat, j ≤ k → ∃ c : Nat, came[j]? = some (c : Int) ∧ c + cnt n.fitems j ≤ 1 + db ∧ c ≤ tk
theorem DG.del {b : Int} {k tk db dr : Nat} {came : List Int} {n : Gnet_Net} (h : DG b k tk db dr came n) {i : Nat} {x : GItem} (hx : n.fitems[i]? = some x) :
    NOk b ⟨delAt n.fitems i, n.fconns, n.flast, n.fopens⟩ ∧ dgP k x ∧ (∀ y ∈ delAt n.fitems i, dgP k y) ∧ (delAt n.fitems i).length + 1 = n.fitems.length :=
  ⟨sub_ok h.ok (delAt_sub _ _) (List.Sublist.refl _), h.it x (List.mem_of_getElem? hx), fun y hy => h.it y ((delAt_sub _ _).subset hy), delAt_len (List.getElem?_eq_some_iff.1 hx).1⟩
/-- An item lost. -/
theorem DG.drop {b : Int} {k tk db dr : Nat} {came : List Int} {n : Gnet_Net} (h : DG b k tk db dr came n) {i : Nat} {x : GItem} (hx : n.fitems[i]? = some x) : DG b k tk db (dr + 1) came ⟨delAt n.fitems i, n.fconns, n.flast, n.fopens⟩ := by
  obtain ⟨h1, h2, h3, h4⟩ := h.del hx
  have nn := h.nn
  refine ⟨h1, h.fc, h.op, h3, by simp only; omega, h.cl, fun j hj => ?_⟩
  obtain ⟨c, c1, c2, c3⟩ := h.cm j hj
  have := cnt_del hx j
  exact ⟨c, c1, by simp only; omega, c3⟩
/-- An item handed over. -/
theorem DG.take {b : Int} {k tk db dr : Nat} {came : List Int} {n : Gnet_Net} (h : DG b k tk db dr came n) (hk : k ≤ 40) (htk : tk ≤ 1000) {i : Nat} {x : GItem} (hx : n.fitems[i]? = some x) : ∃ (c : Nat) (came' : List Int), x.fFrom = ((x.fFrom.toNat : Nat) : Int) ∧ aix 41 x.fFrom = some x.fFrom.toNat ∧ came[0 + x.fFrom.toNat * 1]? = some (c : Int) ∧ setN came (0 + x.fFrom.toNat * 1) (w64 ((c : Int) + 1)) = some came' ∧ DG b k (tk + 1) db dr came' ⟨delAt n.fitems i, n.fconns, n.flast, n.fopens⟩ := by
  obtain ⟨h1, ⟨x1, x2, x3, x4, x5⟩, h3, h4⟩ := h.del hx
  have nn := h.nn
  have hf : x.fFrom = ((x.fFrom.toNat : Nat) : Int) := by omega
  generalize x.fFrom.toNat = a at hf
  obtain ⟨c, c1, c2, c3⟩ := h.cm a (by omega)
  have cl := h.cl
  refine ⟨c, came.set a ((c : Int) + 1), hf, by rw [hf, aix, if_pos ⟨by omega, by omega⟩, Int.toNat_natCast], by rw [Nat.zero_add, Nat.mul_one]; exact c1, by rw [Nat.zero_add, Nat.mul_one, setN, if_pos (by omega), w64_id (by omega) (by omega)], h1, h.fc, h.op, h3, by simp only; omega, by rw [List.length_set]; exact h.cl, fun j hj => ?_⟩
  obtain ⟨d, d1, d2, d3⟩ := h.cm j hj
  have hcd := cnt_del hx j
  by_cases hja : j = a
  · subst hja
    rw [if_pos hf] at hcd
    rw [c1] at d1; injection d1 with d1
    exact ⟨c + 1, by rw [List.getElem?_set_self (by omega)]; simp, by simp only; omega, by omega⟩
  · exact ⟨d, by rw [List.getElem?_set_ne (Ne.symm hja)]; exact d1, by simp only; omega, by omega⟩
theorem DG.more {b : Int} {k tk db dr : Nat} {came : List Int} {n : Gnet_Net} (h : DG b k tk db dr came n) : DG (b + 1) k tk db dr came n := ⟨h.ok.more (by omega), h.fc, h.op, h.it, h.nn, h.cl, h.cm⟩
open Go.RowKit
def ba0 : ByteArray := ⟨#[]⟩
theorem ba0_l (a : ByteArray) : ba0 ++ a = a := by apply ByteArray.ext; simp [ba0]
theorem ba0_r (a : ByteArray) : a ++ ba0 = a := by apply ByteArray.ext; simp [ba0]
theorem ba_as (a b c : ByteArray) : a ++ b ++ c = a ++ (b ++ c) := ByteArray.append_assoc
theorem ba_pre (a b : ByteArray) : (a ++ b).extract 0 a.size = a := by
  apply ByteArray.ext
  rw [ByteArray.data_extract, ByteArray.data_append]
  show (a.data ++ b.data).extract 0 a.data.size = _
  simp
def onL (c t : Int) (x : GItem) : Bool := !decide (x.fKind = 1) && decide (x.fConn = c) && decide (x.fTo = t)
theorem onL_t {c t : Int} {x : GItem} : onL c t x = true ↔ x.fKind ≠ 1 ∧ x.fConn = c ∧ x.fTo = t := by simp [onL, and_assoc]
theorem onL_f {c t : Int} {x : GItem} : onL c t x = false ↔ ¬ (x.fKind ≠ 1 ∧ x.fConn = c ∧ x.fTo = t) := by rw [← onL_t]; simp
def und (c t : Int) : List GItem → ByteArray
  | [] => ba0
  | x :: r => if onL c t x = true then x.fBody ++ und c t r else und c t r
theorem und_append (c t : Int) : ∀ l m : List GItem, und c t (l ++ m) = und c t l ++ und c t m
  | [], m => by rw [List.nil_append, und, ba0_l]
  | x :: r, m => by
    rw [List.cons_append, und, und, und_append c t r m]
    split
    · rw [ba_as]
    · rfl
theorem und_none {c t : Int} : ∀ {l : List GItem}, (∀ x ∈ l, onL c t x = false) → und c t l = ba0
  | [], _ => rfl
  | x :: r, h => by rw [und, if_neg (by simp [h x List.mem_cons_self]), und_none fun y hy => h y (List.mem_cons_of_mem _ hy)]
theorem und_del {c t : Int} {l : List GItem} {i : Nat} {x : GItem} (hx : l[i]? = some x) (hn : onL c t x = false) : und c t (delAt l i) = und c t l := by
  have h := del_split hx
  conv => rhs; rw [h]
  rw [delAt, und_append, und_append, und, if_neg (by simp [hn])]
theorem und_take {c t : Int} {l : List GItem} {i : Nat} {x : GItem} (hx : l[i]? = some x) (ho : onL c t x = true) (hp : ∀ y ∈ l.take i, onL c t y = false) : und c t l = x.fBody ++ und c t (delAt l i) := by
  have h := del_split hx
  conv => lhs; rw [h]
  rw [delAt, und_append, und_append, und, if_pos ho, und_none hp, ba0_l, ba0_l]
structure STR (b : Int) (m o : Nat) (E : List Int) (O : List Bool) (C W : List ByteArray) (n : Gnet_Net) : Prop where
  ok : NOk b n
  op : n.fopens = o
  o4 : o ≤ 4
  le : E.length = 10
  lo : O.length = 10
  lc : C.length = 10
  lw : W.length = 10
  ez : ∀ c : Nat, o < c → c ≤ 4 → E[c * 2]? = some 0 ∧ E[c * 2 + 1]? = some 0
  eo : ∀ c : Nat, 1 ≤ c → c ≤ o → ∃ p q : Int, E[c * 2]? = some p ∧ E[c * 2 + 1]? = some q ∧ p ≠ q
  cn : ∀ x ∈ n.fconns, ∃ c : Nat, x.fnumber = (c : Int) ∧ 1 ≤ c ∧ c ≤ o ∧ E[c * 2]? = some x.fends.a0 ∧ E[c * 2 + 1]? = some x.fends.a1
  it : ∀ x ∈ n.fitems, x.fKind ≠ 1 → ∃ c s : Nat, x.fConn = (c : Int) ∧ 1 ≤ c ∧ c ≤ o ∧ s < 2 ∧ E[c * 2 + s]? = some x.fTo
  st : ∀ c s : Nat, 1 ≤ c → c ≤ 4 → s < 2 → ∀ t, E[c * 2 + s]? = some t → ∃ w k z, W[c * 2 + s]? = some w ∧ C[c * 2 + s]? = some k ∧ w = k ++ und c t n.fitems ++ z ∧ ((o < c ∨ ∃ x ∈ n.fconns, x.fnumber = (c : Int)) → z = ba0) ∧ w.size ≤ m
  ov : ∀ c s : Nat, 1 ≤ c → c ≤ 4 → s < 2 → O[c * 2 + s]? = some true → c ≤ o ∧ (∀ x ∈ n.fconns, x.fnumber ≠ (c : Int)) ∧ ∀ t, E[c * 2 + s]? = some t → ∀ x ∈ n.fitems, onL c t x = false
  cc : ∀ x ∈ n.fitems, x.fKind = 4 → ∀ y ∈ n.fconns, y.fnumber ≠ x.fConn
  cl : n.fitems.Pairwise fun x y => x.fKind = 4 → y.fKind ≠ 1 → y.fConn = x.fConn → y.fTo = x.fTo → False
section
variable {b : Int} {m o : Nat} {E : List Int} {O : List Bool} {C W : List ByteArray} {n : Gnet_Net}
theorem STR.more (h : STR b m o E O C W n) {b' : Int} {m' : Nat} (hb : b ≤ b') (hm : m ≤ m') : STR b' m' o E O C W n :=
  ⟨h.ok.more hb, h.op, h.o4, h.le, h.lo, h.lc, h.lw, h.ez, h.eo, h.cn, h.it, fun c s h1 h2 h3 t ht => by
    obtain ⟨w, k, z, a1, a2, a3, a4, a5⟩ := h.st c s h1 h2 h3 t ht
    exact ⟨w, k, z, a1, a2, a3, a4, by omega⟩, h.ov, h.cc, h.cl⟩
theorem STR.one (h : STR b m o E O C W n) {x : GItem} (hk : x.fKind = 1) (h1 : i64R x.fConn) (h2 : i64R x.fTo) : STR (b + 1) m o E O C W (addN n x) := by
  have hf : ∀ c t, onL c t ⟨n.flast + 1, x.fKind, x.fFrom, x.fTo, x.fConn, x.fBody⟩ = false := fun c t => by rw [onL_f]; simp [hk]
  refine ⟨addN_ok h.ok h1 h2, h.op, h.o4, h.le, h.lo, h.lc, h.lw, h.ez, h.eo, h.cn, fun y hy hk' => ?_, fun c s h1 h2 h3 t ht => ?_, fun c s h1 h2 h3 ht => ?_, fun y hy hy4 => ?_, ?_⟩
  · rcases List.mem_append.1 hy with hy | hy
    · exact h.it y hy hk'
    · simp only [List.mem_singleton] at hy; subst hy; exact absurd hk hk'
  · obtain ⟨w, k, z, a1, a2, a3, a4, a5⟩ := h.st c s h1 h2 h3 t ht
    refine ⟨w, k, z, a1, a2, ?_, a4, a5⟩
    simp only [addN]
    rw [und_append, und, if_neg (by simp [hf]), und, ba0_r]
    exact a3
  · obtain ⟨b1, b2, b3⟩ := h.ov c s h1 h2 h3 ht
    refine ⟨b1, b2, fun t ht y hy => ?_⟩
    rcases List.mem_append.1 hy with hy | hy
    · exact b3 t ht y hy
    · simp only [List.mem_singleton] at hy; subst hy; exact hf _ _
  · rcases List.mem_append.1 hy with hy | hy
    · exact h.cc y hy hy4
    · simp only [List.mem_singleton] at hy; subst hy; simp only at hy4; omega
  · refine List.pairwise_append.2 ⟨h.cl, List.pairwise_singleton _ _, fun y hy z hz _ h7 => ?_⟩
    simp only [List.mem_singleton] at hz; subst hz
    exact absurd hk h7
theorem STR.take1 (h : STR b m o E O C W n) {j : Nat} {x : GItem} (hx : n.fitems[j]? = some x) (hk : x.fKind = 1) : STR b m o E O C W ⟨delAt n.fitems j, n.fconns, n.flast, n.fopens⟩ := by
  have hs := delAt_sub n.fitems j
  refine ⟨sub_ok h.ok hs (List.Sublist.refl _), h.op, h.o4, h.le, h.lo, h.lc, h.lw, h.ez, h.eo, h.cn, fun y hy => h.it y (hs.subset hy), fun c s h1 h2 h3 t ht => ?_, fun c s h1 h2 h3 ht => ?_, fun y hy => h.cc y (hs.subset hy), h.cl.sublist hs⟩
  · obtain ⟨w, k, z, a1, a2, a3, a4, a5⟩ := h.st c s h1 h2 h3 t ht
    refine ⟨w, k, z, a1, a2, ?_, a4, a5⟩
    simp only
    rw [und_del hx (by rw [onL_f]; simp [hk])]
    exact a3
  · obtain ⟨b1, b2, b3⟩ := h.ov c s h1 h2 h3 ht
    exact ⟨b1, b2, fun t ht y hy => b3 t ht y (hs.subset hy)⟩
theorem rdy_f {pre : List GItem} {x : GItem} (h : isRdy pre x = true) (hk : x.fKind ≠ 1) : ∀ y ∈ pre, onL x.fConn x.fTo y = false := by
  unfold isRdy at h
  rw [decide_eq_false hk, Bool.false_or, List.all_eq_true] at h
  intro y hy
  have := h y hy
  rw [onL_f]
  simp only [Bool.or_eq_true, decide_eq_true_eq] at this
  rintro ⟨h1, h2, h3⟩
  rcases this with (h4 | h4) | h4
  · exact h1 h4
  · exact h4 h2
  · exact h4 h3
theorem STR.take (h : STR b m o E O C W n) {j : Nat} {x : GItem} (hx : n.fitems[j]? = some x) (hk : x.fKind ≠ 1) (hr : isRdy (n.fitems.take j) x = true) :
    ∃ (c s : Nat) (p q : Int) (k w : ByteArray), x.fConn = (c : Int) ∧ 1 ≤ c ∧ c ≤ 4 ∧ s < 2 ∧ E[c * 2]? = some p ∧ E[c * 2 + 1]? = some q ∧ p ≠ q ∧ E[c * 2 + s]? = some x.fTo ∧ O[c * 2 + s]? = some false ∧ C[c * 2 + s]? = some k ∧ W[c * 2 + s]? = some w ∧ (k ++ x.fBody).size ≤ w.size ∧ w.extract 0 (k ++ x.fBody).size = k ++ x.fBody ∧ w.size ≤ m ∧
      STR b m o E (O.set (c * 2 + s) (decide (x.fKind = 4))) (C.set (c * 2 + s) (k ++ x.fBody)) W ⟨delAt n.fitems j, n.fconns, n.flast, n.fopens⟩ := by
  have hxm := List.mem_of_getElem? hx
  have hs := delAt_sub n.fitems j
  have lo := h.lo; have lc := h.lc; have o4 := h.o4
  obtain ⟨c, s, e1, e2, e3, e4, e5⟩ := h.it x hxm hk
  obtain ⟨p, q, e6, e7, e8⟩ := h.eo c e2 e3
  obtain ⟨w, k, z, a1, a2, a3, a4, a5⟩ := h.st c s e2 (by omega) e4 _ e5
  have hon : onL c x.fTo x = true := onL_t.2 ⟨hk, e1, rfl⟩
  have hpre : ∀ y ∈ n.fitems.take j, onL c x.fTo y = false := fun y hy => by have := rdy_f hr hk y hy; rw [e1] at this; exact this
  have ht := und_take hx hon hpre
  have hw : w = (k ++ x.fBody) ++ (und c x.fTo (delAt n.fitems j) ++ z) := by rw [a3, ht]; simp only [ba_as]
  have hOv : O[c * 2 + s]? = some false := by
    have hl : c * 2 + s < O.length := by omega
    rw [List.getElem?_eq_getElem hl]
    cases hb : O[c * 2 + s] with
    | false => rfl
    | true =>
      have := (h.ov c s e2 (by omega) e4 (by rw [List.getElem?_eq_getElem hl, hb])).2.2 _ e5 x hxm
      rw [hon] at this; cases this
  refine ⟨c, s, p, q, k, w, e1, e2, by omega, e4, e6, e7, e8, e5, hOv, a2, a1, by rw [hw, ByteArray.size_append (a := k ++ x.fBody)]; omega, ?_, a5, ?_⟩
  · have : (k ++ x.fBody ++ (und c x.fTo (delAt n.fitems j) ++ z)).extract 0 (k ++ x.fBody).size = k ++ x.fBody := ba_pre _ _
    rw [← hw] at this
    exact this
  · refine ⟨sub_ok h.ok hs (List.Sublist.refl _), h.op, h.o4, h.le, by rw [List.length_set]; exact lo, by rw [List.length_set]; exact lc, h.lw, h.ez, h.eo, h.cn, fun y hy => h.it y (hs.subset hy), fun c' s' h1 h2 h3 t ht' => ?_, fun c' s' h1 h2 h3 ht' => ?_, fun y hy => h.cc y (hs.subset hy), h.cl.sublist hs⟩
    · by_cases hcs : c' = c ∧ s' = s
      · obtain ⟨rfl, rfl⟩ := hcs
        rw [e5] at ht'; injection ht' with ht'; subst ht'
        exact ⟨w, k ++ x.fBody, z, a1, by rw [List.getElem?_set_self (by omega)], by rw [ba_as]; exact hw, a4, a5⟩
      · obtain ⟨w', k', z', c1, c2, c3, c4, c5⟩ := h.st c' s' h1 h2 h3 t ht'
        refine ⟨w', k', z', c1, by rw [List.getElem?_set_ne (by omega)]; exact c2, ?_, c4, c5⟩
        simp only
        rw [und_del hx]
        · exact c3
        · rw [onL_f]
          rintro ⟨-, g2, g3⟩
          have : c' = c := by omega
          subst this
          have hss : s' ≠ s := fun hh => hcs ⟨rfl, hh⟩
          subst g3
          rcases (by omega : s = 0 ∧ s' = 1 ∨ s = 1 ∧ s' = 0) with ⟨rfl, rfl⟩ | ⟨rfl, rfl⟩
          · rw [Nat.add_zero, e6] at e5; rw [e7] at ht'; injection e5 with e5; injection ht' with ht'; exact e8 (e5.trans ht'.symm)
          · rw [e7] at e5; rw [Nat.add_zero, e6] at ht'; injection e5 with e5; injection ht' with ht'; exact e8 (ht'.trans e5.symm)
    · by_cases hcs : c' = c ∧ s' = s
      · obtain ⟨rfl, rfl⟩ := hcs
        rw [List.getElem?_set_self (by omega)] at ht'
        injection ht' with ht'
        have h4 : x.fKind = 4 := of_decide_eq_true ht'
        refine ⟨e3, fun y hy => by rw [← e1]; exact h.cc x hxm h4 y hy, fun t ht'' y hy => ?_⟩
        rw [e5] at ht''; injection ht'' with ht''; subst ht''
        rcases List.mem_append.1 hy with hy | hy
        · exact hpre y hy
        · rw [onL_f]
          rintro ⟨g1, g2, g3⟩
          have hcl := h.cl
          rw [del_split hx, List.pairwise_append, List.pairwise_cons] at hcl
          exact hcl.2.1.1 y hy h4 g1 (by rw [g2, e1]) g3
      · rw [List.getElem?_set_ne (by omega)] at ht'
        obtain ⟨b1, b2, b3⟩ := h.ov c' s' h1 h2 h3 ht'
        exact ⟨b1, b2, fun t ht y hy => b3 t ht y (hs.subset hy)⟩
end
open Go.RowKit
section
variable {b : Int} {m o : Nat} {E : List Int} {O : List Bool} {C W : List ByteArray} {n : Gnet_Net}
theorem pickI_isR (l : List GItem) (p : Int) : (pickI (rdyI [] l) p).2 = true → ∃ (i : Nat) (x : GItem), (pickI (rdyI [] l) p).1 = (i : Int) ∧ l[i]? = some x ∧ isRdy (l.take i) x = true := by
  have all : ∀ (r pre : List GItem), l = pre ++ r → ∀ v ∈ rdyI pre r, ∃ (i : Nat) (x : GItem), v = (i : Int) ∧ l[i]? = some x ∧ isRdy (l.take i) x = true := by
    intro r
    induction r with
    | nil => intro pre h v hv; cases hv
    | cons x r ih =>
      intro pre h v hv
      have h' : l = (pre ++ [x]) ++ r := by rw [h]; simp
      rw [rdyI] at hv
      by_cases hr : isRdy pre x = true
      · rw [if_pos hr] at hv
        rcases List.mem_cons.1 hv with rfl | hv
        · exact ⟨pre.length, x, rfl, by rw [h]; simp, by rw [h]; simpa using hr⟩
        · exact ih _ h' v hv
      · rw [if_neg hr] at hv
        exact ih _ h' v hv
  intro h
  unfold pickI at h ⊢
  by_cases h0 : (rdyI [] l).length = 0
  · rw [if_pos h0] at h; cases h
  rw [if_neg h0]
  have hlt := pickP_lt p (by omega : 0 < (rdyI [] l).length)
  have := all l [] rfl _ (List.getElem_mem hlt)
  rw [List.getElem?_eq_getElem hlt]
  exact this
theorem fnd_conn {n : Gnet_Net} {b : Int} (h : NOk b n) {c : Int} {z : Nat × Gnet_conn} (hf : fndX (isC c) n.fconns 0 = some z) : z.2 ∈ n.fconns ∧ z.2.fnumber = c ∧ ∀ y ∈ delAt n.fconns z.1, y.fnumber ≠ c := by
  obtain ⟨i, x⟩ := z
  obtain ⟨h1, h2, h3, -⟩ := take_fnd hf
  have hc : x.fnumber = c := of_decide_eq_true h2
  refine ⟨List.mem_of_getElem? h3, hc, fun y hy => ?_⟩
  have hp := h.cp
  rw [del_split h3, List.pairwise_append, List.pairwise_cons] at hp
  rcases List.mem_append.1 hy with hy | hy
  · have := hp.2.2 y hy x List.mem_cons_self; omega
  · have := hp.2.1.1 y hy; omega
theorem i64N {c : Nat} (h : c ≤ 4) : i64R (c : Int) := ⟨by omega, by omega⟩
theorem STR.write (h : STR b m o E O C W n) {c p : Nat} (h1 : 1 ≤ c) (h4 : c ≤ 4) (hp : p < 2) {a : Int} (ha : E[c * 2 + p]? = some a) {s : ByteArray} (hs : s.size ≤ 1048576) (hw : (writeN n c a s).1 = true) :
    ∃ (e0 e1 : Int) (w : ByteArray), E[c * 2]? = some e0 ∧ E[c * 2 + 1]? = some e1 ∧ e0 ≠ e1 ∧ W[c * 2 + (1 - p)]? = some w ∧ w.size ≤ m ∧ STR (b + 1) (m + 1048576) o E O C (W.set (c * 2 + (1 - p)) (w ++ s)) (writeN n c a s).2 := by
  have lw := h.lw
  have hok := writeN_ok h.ok (c := (c : Int)) (a := a) (s := s) (i64N h4)
  unfold writeN at hw hok ⊢
  by_cases hpe : (peerN n c a).2 = true
  · rw [if_pos hpe] at hw hok ⊢
    by_cases hfu : 1024 ≤ (n.fitems.length : Int)
    · rw [if_pos hfu] at hw; cases hw
    rw [if_neg hfu] at hok ⊢
    unfold peerN at hpe hok ⊢
    cases hf : fndX (isC (c : Int)) n.fconns 0 with
    | none => rw [hf] at hpe; cases hpe
    | some z =>
      rw [hf] at hpe hok
      simp only at hpe hok ⊢
      obtain ⟨z1, z2, -⟩ := fnd_conn h.ok hf
      by_cases hh : hasC a z.2 = true
      · rw [if_pos hh] at hok ⊢
        simp only at hok ⊢
        obtain ⟨c', f1, f2, f3, f4, f5⟩ := h.cn z.2 z1
        have : c' = c := by omega
        subst this
        have hne := (h.ok.cr z.2 z1).1
        have hoth : E[c' * 2 + (1 - p)]? = some (otherC z.2 a) := by
          rcases (by omega : p = 0 ∨ p = 1) with rfl | rfl
          · rw [Nat.add_zero, f4] at ha; injection ha with ha
            rw [otherC, if_pos ha.symm]; exact f5
          · rw [f5] at ha; injection ha with ha
            rw [otherC, if_neg (by rw [← ha]; exact Ne.symm hne)]; exact f4
        obtain ⟨w, k, zz, a1, a2, a3, a4, a5⟩ := h.st c' (1 - p) h1 h4 (by omega) _ hoth
        have hz := a4 (Or.inr ⟨z.2, z1, z2⟩)
        subst hz
        rw [ba0_r] at a3
        refine ⟨_, _, w, f4, f5, hne, a1, a5, hok, h.op, h.o4, h.le, h.lo, h.lc, by rw [List.length_set]; exact lw, h.ez, h.eo, h.cn, fun y hy hk => ?_, fun d t d1 d2 d3 tt ht => ?_, fun d t d1 d2 d3 ht => ?_, fun y hy hy4 => ?_, ?_⟩
        · rcases List.mem_append.1 hy with hy | hy
          · exact h.it y hy hk
          · simp only [List.mem_singleton] at hy; subst hy
            exact ⟨c', 1 - p, rfl, h1, f3, by omega, hoth⟩
        · obtain ⟨w', k', z', b1, b2, b3, b4, b5⟩ := h.st d t d1 d2 d3 tt ht
          by_cases hdt : d = c' ∧ t = 1 - p
          · obtain ⟨rfl, rfl⟩ := hdt
            rw [hoth] at ht; injection ht with ht; subst ht
            refine ⟨w ++ s, k, ba0, by rw [List.getElem?_set_self (by omega)], a2, ?_, fun _ => rfl, by rw [ByteArray.size_append]; omega⟩
            simp only [addN]
            rw [und_append, und, if_pos (show onL (d : Int) (otherC z.2 a) ⟨n.flast + 1, 3, a, otherC z.2 a, (d : Int), s⟩ = true from onL_t.2 ⟨by simp, rfl, rfl⟩), und, ba0_r, ba0_r, a3, ba_as]
          · refine ⟨w', k', z', by rw [List.getElem?_set_ne (by omega)]; exact b1, b2, ?_, b4, by omega⟩
            simp only [addN]
            rw [und_append, und, if_neg, und, ba0_r]
            · exact b3
            · rw [Bool.not_eq_true, onL_f]
              rintro ⟨-, g2, g3⟩
              simp only at g2 g3
              have : d = c' := by omega
              subst this
              have : t = p := by omega
              subst this
              rw [ha] at ht; injection ht with ht
              subst ht
              rw [otherC] at g3
              split at g3
              · rename_i h9; rw [← h9] at hne; simp_all
              · rename_i h9
                unfold hasC at hh
                simp only [Bool.or_eq_true, decide_eq_true_eq] at hh
                rcases hh with h8 | h8
                · exact h9 h8
                · exact hne (g3.trans h8)
        · obtain ⟨b1, b2, b3⟩ := h.ov d t d1 d2 d3 ht
          refine ⟨b1, b2, fun tt ht y hy => ?_⟩
          rcases List.mem_append.1 hy with hy | hy
          · exact b3 tt ht y hy
          · simp only [List.mem_singleton] at hy; subst hy
            rw [onL_f]
            rintro ⟨-, g2, -⟩
            simp only at g2
            exact b2 z.2 z1 (by rw [z2, g2])
        · rcases List.mem_append.1 hy with hy | hy
          · exact h.cc y hy hy4
          · simp only [List.mem_singleton] at hy; subst hy; simp only at hy4; omega
        · refine List.pairwise_append.2 ⟨h.cl, List.pairwise_singleton _ _, fun y hy u hu h6 h7 h8 h9 => ?_⟩
          simp only [List.mem_singleton] at hu; subst hu
          simp only at h8
          exact h.cc y hy h6 z.2 z1 (by rw [z2, ← h8])
      · rw [if_neg hh] at hpe; cases hpe
  · rw [if_neg hpe] at hw; cases hw
theorem writeN_no {n : Gnet_Net} {c a : Int} {s : ByteArray} (h : ¬ (writeN n c a s).1 = true) : (writeN n c a s).2 = n := by
  unfold writeN at h ⊢
  split
  · rename_i h1
    rw [if_pos h1] at h
    split
    · rfl
    · rename_i h2; rw [if_neg h2] at h; exact absurd rfl h
  · rfl
theorem writeN_same (n : Gnet_Net) (c a : Int) (s : ByteArray) : (writeN n c a s).2.fconns = n.fconns ∧ (writeN n c a s).2.fopens = n.fopens := by
  unfold writeN; split
  · split <;> exact ⟨rfl, rfl⟩
  · exact ⟨rfl, rfl⟩
theorem STR.opn (h : STR b m o E O C W n) (ho : o < 4) (hb : b ≤ 1000) {p q : Int} (hp : i64R p) (hq : i64R q) (hw : (openN n p q).2.1 = true) :
    (openN n p q).1 = (o : Int) + 1 ∧ STR (b + 2) m (o + 1) ((E.set ((o + 1) * 2) p).set ((o + 1) * 2 + 1) q) O C W (openN n p q).2.2 := by
  have le := h.le
  have hok := openN_ok h.ok (by omega) hp hq
  unfold openN at hw hok ⊢
  by_cases h1 : 1024 ≤ (n.fitems.length : Int)
  · rw [if_pos h1] at hw; cases hw
  by_cases h2 : 256 ≤ (n.fconns.length : Int)
  · rw [if_neg h1, if_pos h2] at hw; cases hw
  by_cases h3 : p = q
  · rw [if_neg h1, if_neg h2, if_pos h3] at hw; cases hw
  rw [if_neg h1, if_neg h2, if_neg h3] at hok ⊢
  have hE : ∀ d t : Nat, t < 2 → d ≠ o + 1 → ((E.set ((o + 1) * 2) p).set ((o + 1) * 2 + 1) q)[d * 2 + t]? = E[d * 2 + t]? := fun d t ht hd => by
    rw [List.getElem?_set_ne (by omega), List.getElem?_set_ne (by omega)]
  have hE0 : ∀ d : Nat, d ≠ o + 1 → ((E.set ((o + 1) * 2) p).set ((o + 1) * 2 + 1) q)[d * 2]? = E[d * 2]? := fun d hd => hE d 0 (by omega) hd
  have hn0 : ((E.set ((o + 1) * 2) p).set ((o + 1) * 2 + 1) q)[(o + 1) * 2]? = some p := by rw [List.getElem?_set_ne (by omega), List.getElem?_set_self (by omega)]
  have hn1 : ((E.set ((o + 1) * 2) p).set ((o + 1) * 2 + 1) q)[(o + 1) * 2 + 1]? = some q := by rw [List.getElem?_set_self (by simp; omega)]
  have ho1 := h.op
  have hcn : ∀ x ∈ n.fitems, x.fKind ≠ 1 → x.fConn ≠ ((o + 1 : Nat) : Int) := fun x hx hk => by
    obtain ⟨c, s, e1, e2, e3, -⟩ := h.it x hx hk
    omega
  refine ⟨by simp only; omega, hok, by simp only [addN]; omega, by omega, by simpa using le, h.lo, h.lc, h.lw, fun c c1 c2 => ?_, fun c c1 c2 => ?_, fun x hx => ?_, fun y hy hk => ?_, fun d t d1 d2 d3 tt ht => ?_, fun d t d1 d2 d3 ht => ?_, fun y hy hy4 u hu => ?_, ?_⟩
  · rw [hE0 c (by omega), hE c 1 (by omega) (by omega)]; exact h.ez c (by omega) c2
  · by_cases hc : c = o + 1
    · subst hc; exact ⟨p, q, hn0, hn1, h3⟩
    · rw [hE0 c hc, hE c 1 (by omega) hc]; exact h.eo c c1 (by omega)
  · rcases List.mem_append.1 hx with hx | hx
    · obtain ⟨c, f1, f2, f3, f4, f5⟩ := h.cn x hx
      refine ⟨c, f1, f2, by omega, ?_, ?_⟩
      · rw [hE0 c (by omega)]; exact f4
      · rw [hE c 1 (by omega) (by omega)]; exact f5
    · simp only [List.mem_singleton] at hx; subst hx
      exact ⟨o + 1, by simp only; omega, by omega, by omega, hn0, hn1⟩
  · rcases List.mem_append.1 hy with hy | hy
    · obtain ⟨c, s, e1, e2, e3, e4, e5⟩ := h.it y hy hk
      refine ⟨c, s, e1, e2, by omega, e4, ?_⟩
      rw [hE c s e4 (by omega)]; exact e5
    · simp only [List.mem_singleton] at hy; subst hy
      exact ⟨o + 1, 1, by simp only; omega, by omega, by omega, by omega, hn1⟩
  · have hund : und (d : Int) tt (n.fitems ++ [⟨n.flast + 1, 2, p, q, n.fopens + 1, ⟨#[]⟩⟩]) = und (d : Int) tt n.fitems := by
      rw [und_append, und, und]
      split
      · show _ ++ (ba0 ++ ba0) = _; rw [ba0_r, ba0_r]
      · rw [ba0_r]
    simp only [addN]
    rw [hund]
    by_cases hd : d = o + 1
    · subst hd
      have hz := h.ez (o + 1) (by omega) (by omega)
      have hEt : E[(o + 1) * 2 + t]? = some 0 := by
        rcases (by omega : t = 0 ∨ t = 1) with rfl | rfl
        · exact hz.1
        · exact hz.2
      obtain ⟨w, k, z, a1, a2, a3, a4, a5⟩ := h.st (o + 1) t d1 d2 d3 0 hEt
      have hzz := a4 (Or.inl (by omega))
      have u1 : und ((o + 1 : Nat) : Int) 0 n.fitems = ba0 := und_none fun x hx => by rw [onL_f]; rintro ⟨g1, g2, -⟩; exact hcn x hx g1 g2
      have u2 : und ((o + 1 : Nat) : Int) tt n.fitems = ba0 := und_none fun x hx => by rw [onL_f]; rintro ⟨g1, g2, -⟩; exact hcn x hx g1 g2
      exact ⟨w, k, ba0, a1, a2, by rw [a3, hzz, u1, u2], fun _ => rfl, a5⟩
    · rw [hE d t d3 hd] at ht
      obtain ⟨w, k, z, a1, a2, a3, a4, a5⟩ := h.st d t d1 d2 d3 tt ht
      refine ⟨w, k, z, a1, a2, a3, fun hl => a4 ?_, a5⟩
      rcases hl with hl | ⟨x, hx, hxd⟩
      · exact Or.inl (by omega)
      · rcases List.mem_append.1 hx with hx | hx
        · exact Or.inr ⟨x, hx, hxd⟩
        · simp only [List.mem_singleton] at hx; subst hx
          simp only at hxd; omega
  · obtain ⟨b1, b2, b3⟩ := h.ov d t d1 d2 d3 ht
    refine ⟨by omega, fun x hx => ?_, fun tt ht y hy => ?_⟩
    · rcases List.mem_append.1 hx with hx | hx
      · exact b2 x hx
      · simp only [List.mem_singleton] at hx; subst hx
        simp only; omega
    · rw [hE d t d3 (by omega)] at ht
      rcases List.mem_append.1 hy with hy | hy
      · exact b3 tt ht y hy
      · simp only [List.mem_singleton] at hy; subst hy
        rw [onL_f]; rintro ⟨-, g2, -⟩; simp only at g2; omega
  · rcases List.mem_append.1 hy with hy | hy
    · rcases List.mem_append.1 hu with hu | hu
      · exact h.cc y hy hy4 u hu
      · simp only [List.mem_singleton] at hu; subst hu
        have := hcn y hy (by omega)
        simp only; omega
    · simp only [List.mem_singleton] at hy; subst hy; simp only at hy4; omega
  · refine List.pairwise_append.2 ⟨h.cl, List.pairwise_singleton _ _, fun y hy u hu h6 h7 h8 h9 => ?_⟩
    simp only [List.mem_singleton] at hu; subst hu
    have := hcn y hy (by omega)
    simp only at h8; omega
theorem und_filter {c t d : Int} (h : c ≠ d) : ∀ l : List GItem, und c t (l.filter fun x => !cIs d x) = und c t l
  | [] => rfl
  | x :: r => by
    rw [List.filter_cons, und]
    by_cases hx : x.fConn = d
    · rw [if_neg (by simp [cIs, hx]), if_neg (by rw [Bool.not_eq_true, onL_f]; rintro ⟨-, g, -⟩; exact h (g.symm.trans hx)), und_filter h r]
    · rw [if_pos (by simp [cIs, hx]), und, und_filter h r]
theorem STR.close (h : STR b m o E O C W n) (hb : b ≤ 1000) {c : Nat} (h1 : 1 ≤ c) (h4 : c ≤ 4) : STR (b + 2) m o E O C W (closeN n c).2 := by
  have hok := closeN_ok h.ok (by omega) (c : Int)
  unfold closeN at hok ⊢
  cases hf : fndX (isC (c : Int)) n.fconns 0 with
  | none => exact h.more (by omega) (by omega)
  | some z =>
    rw [hf] at hok
    simp only at hok ⊢
    obtain ⟨z1, z2, z3⟩ := fnd_conn h.ok hf
    obtain ⟨c', f1, f2, f3, f4, f5⟩ := h.cn z.2 z1
    have : c' = c := by omega
    subst this
    have hne := (h.ok.cr z.2 z1).1
    have hcs := delAt_sub n.fconns z.1
    have hfs : (n.fitems.filter fun x => !cIs (c' : Int) x).Sublist n.fitems := List.filter_sublist
    have hfm : ∀ y ∈ n.fitems.filter fun x => !cIs (c' : Int) x, y.fConn ≠ (c' : Int) := fun y hy => by
      have := (List.mem_filter.1 hy).2
      simpa [cIs] using this
    -- what the two notices are
    have hmem : ∀ y ∈ (addN (addN ⟨n.fitems.filter fun x => !cIs (c' : Int) x, delAt n.fconns z.1, n.flast, n.fopens⟩ (tellC z.2 z.2.fends.a0)) (tellC z.2 z.2.fends.a1)).fitems, y ∈ (n.fitems.filter fun x => !cIs (c' : Int) x) ∨ (y.fKind = 4 ∧ y.fConn = (c' : Int) ∧ y.fBody = ba0 ∧ (y.fTo = z.2.fends.a0 ∨ y.fTo = z.2.fends.a1)) := by
      intro y hy
      simp only [addN, List.mem_append, List.mem_singleton] at hy
      rcases hy with (hy | hy) | hy
      · exact Or.inl hy
      · subst hy; exact Or.inr ⟨rfl, z2, rfl, Or.inl rfl⟩
      · subst hy; exact Or.inr ⟨rfl, z2, rfl, Or.inr rfl⟩
    refine ⟨hok, h.op, h.o4, h.le, h.lo, h.lc, h.lw, h.ez, h.eo, fun x hx => h.cn x (hcs.subset hx), fun y hy hk => ?_, fun d t d1 d2 d3 tt ht => ?_, fun d t d1 d2 d3 ht => ?_, fun y hy hy4 u hu => ?_, ?_⟩
    · rcases hmem y hy with hy | ⟨-, g2, -, g4⟩
      · exact h.it y (hfs.subset hy) hk
      · rcases g4 with g4 | g4
        · exact ⟨c', 0, g2, h1, f3, by omega, by rw [g4]; exact f4⟩
        · exact ⟨c', 1, g2, h1, f3, by omega, by rw [g4]; exact f5⟩
    · have hund : ∀ e u, und e u ((addN (addN ⟨n.fitems.filter fun x => !cIs (c' : Int) x, delAt n.fconns z.1, n.flast, n.fopens⟩ (tellC z.2 z.2.fends.a0)) (tellC z.2 z.2.fends.a1)).fitems) = und e u (n.fitems.filter fun x => !cIs (c' : Int) x) := fun e u => by
        simp only [addN]
        rw [und_append, und_append, und, und, und, und]
        have e1 : (tellC z.2 z.2.fends.a0).fBody = ba0 := rfl
        have e2 : (tellC z.2 z.2.fends.a1).fBody = ba0 := rfl
        simp only [e1, e2, ba0_r, ite_self]
      obtain ⟨w, k, zz, a1, a2, a3, a4, a5⟩ := h.st d t d1 d2 d3 tt ht
      rw [hund]
      by_cases hd : d = c'
      · subst hd
        have hu : und (d : Int) tt (n.fitems.filter fun x => !cIs (d : Int) x) = ba0 := und_none fun y hy => by rw [onL_f]; rintro ⟨-, g, -⟩; exact hfm y hy g
        refine ⟨w, k, und d tt n.fitems ++ zz, a1, a2, by rw [hu, ba0_r, a3, ba_as], fun hl => ?_, a5⟩
        rcases hl with hl | ⟨x, hx, hxd⟩
        · omega
        · exact absurd hxd (z3 x hx)
      · rw [und_filter (by omega)]
        exact ⟨w, k, zz, a1, a2, a3, fun hl => a4 (hl.imp id fun ⟨x, hx, hxd⟩ => ⟨x, hcs.subset hx, hxd⟩), a5⟩
    · obtain ⟨b1, b2, b3⟩ := h.ov d t d1 d2 d3 ht
      refine ⟨b1, fun x hx => b2 x (hcs.subset hx), fun tt ht y hy => ?_⟩
      rcases hmem y hy with hy | ⟨-, g2, -, -⟩
      · exact b3 tt ht y (hfs.subset hy)
      · rw [onL_f]; rintro ⟨-, g, -⟩
        exact b2 z.2 z1 (by rw [z2, ← g2, g])
    · rcases hmem y hy with hy | ⟨-, g2, -, -⟩
      · exact h.cc y (hfs.subset hy) hy4 u (hcs.subset hu)
      · rw [g2]; exact z3 u hu
    · simp only [addN]
      refine List.pairwise_append.2 ⟨List.pairwise_append.2 ⟨h.cl.sublist hfs, List.pairwise_singleton _ _, fun y hy u hu h6 h7 h8 h9 => ?_⟩, List.pairwise_singleton _ _, fun y hy u hu h6 h7 h8 h9 => ?_⟩
      · simp only [List.mem_singleton] at hu; subst hu
        exact hfm y hy (by rw [← h8]; exact z2)
      · simp only [List.mem_singleton] at hu; subst hu
        rcases List.mem_append.1 hy with hy | hy
        · exact hfm y hy (by rw [← h8]; exact z2)
        · simp only [List.mem_singleton] at hy; subst hy
          simp only [tellC] at h9
          exact hne h9.symm
end
open Go.RowKit
theorem aix_of {n : Nat} {x : Int} {c : Nat} (h : x = (c : Int)) (hc : c < n) : aix n x = some c := by
  subst h; rw [aix, if_pos ⟨by omega, by omega⟩, Int.toNat_natCast]
theorem setN_of {α : Type} {l : List α} {p : Nat} (h : p < l.length) (v : α) : setN l p v = some (l.set p v) := if_pos h
section
variable {b : Int} {m o : Nat} {E : List Int} {O : List Bool} {C W : List ByteArray} {n : Gnet_Net}
theorem j5_code {x : GItem} {c s : Nat} {k w : ByteArray} (n' : Gnet_Net) (cs : List Gnet_conn) (i : Nat) (la op : Int) (hi : i ≤ 100) (e1 : x.fConn = (c : Int)) (h4 : c ≤ 4) (hs : s < 2) (e5 : E[c * 2 + s]? = some x.fTo) (hO : O[c * 2 + s]? = some false) (hC : C[c * 2 + s]? = some k) (hW : W[c * 2 + s]? = some w) (hsz : (k ++ x.fBody).size ≤ w.size) (hex : w.extract 0 (k ++ x.fBody).size = k ++ x.fBody) (hm : w.size ≤ 1000000000) :
    m_law08_NetStreams_j5 x O E C W n' cs (i : Int) la op (s : Int) = some (.inl (n'.fitems, cs, (i : Int) + 1, E, O.set (c * 2 + s) (decide (x.fKind = 4)), C.set (c * 2 + s) (k ++ x.fBody), W, la, op)) := by
  have ha := aix_of (n := 5) e1 (by omega)
  have hb := aix_of (n := 2) (x := (s : Int)) rfl hs
  have lO := (List.getElem?_eq_some_iff.1 hO).1
  have lC := (List.getElem?_eq_some_iff.1 hC).1
  have hadd := sadd_of (s := k) (t := x.fBody) (by rw [ByteArray.size_append] at hsz; omega)
  have hself : (C.set (c * 2 + s) (k ++ x.fBody))[c * 2 + s]? = some (k ++ x.fBody) := List.getElem?_set_self lC
  have hcut : scutHi w ((k ++ x.fBody).size : Int) = some (k ++ x.fBody) := by
    rw [scutHi, if_pos ⟨by omega, by omega⟩, Int.toNat_natCast, hex]
  rw [m_law08_NetStreams_j5]
  simp only [ha, hb, Option.bind_some, Nat.zero_add, Nat.mul_one, hO, e5, setN_of lO, hC, hadd, setN_of lC, hself, hW, hcut]
  rw [if_neg (by decide), if_neg (by simp), if_neg (by omega), if_pos trivial, w64_id (by omega) (by omega)]
theorem pk {p : Int} (hp : i64R p) (n : Nat) (hn : 0 < n) (hn2 : n ≤ 1000000) : ∃ q : Nat, m_ref08_Pick p (n : Int) = some (q : Int) ∧ q < n := ⟨_, rpick hp hn hn2, pickP_lt p hn⟩
def stS (n : Gnet_Net) (i : Nat) (E : List Int) (O : List Bool) (C W : List ByteArray) : List GItem × List Gnet_conn × Int × List Int × List Bool × List ByteArray × List ByteArray × Int × Int := (n.fitems, n.fconns, (i : Int), E, O, C, W, n.flast, n.fopens)
abbrev stT := (List GItem × List Gnet_conn × Int × List Int × List Bool × List ByteArray × List ByteArray × Int × Int) ⊕ (Unit ⊕ Bool)
def goes (i : Nat) (r : Option stT) : Prop := ∃ (o : Nat) (E : List Int) (O : List Bool) (C W : List ByteArray) (n : Gnet_Net), r = some (.inl (stS n (i + 1) E O C W)) ∧ STR (3 * ((i + 1 : Nat) : Int)) (1048576 * (i + 1)) o E O C W n
theorem goes_of {i o : Nat} {E : List Int} {O : List Bool} {C W : List ByteArray} {n : Gnet_Net} {b : Int} {m : Nat} (h : STR b m o E O C W n) (hb : b ≤ 3 * (i : Int) + 3) (hm : m ≤ 1048576 * i + 1048576) {r : Option stT} (hr : r = some (.inl (n.fitems, n.fconns, (i : Int) + 1, E, O, C, W, n.flast, n.fopens))) : goes i r :=
  ⟨o, E, O, C, W, n, hr, h.more (by omega) (by omega)⟩
theorem opn_code {i : Nat} (hi : i < 60) (h : STR (3 * (i : Int)) (1048576 * i) o E O C W n) (ho : o < 4) {p q : Int} (hp : i64R p) (hq : i64R q) :
    goes i ((m_net_Net_Open p q (⟨n.fitems, n.fconns, n.flast, n.fopens⟩ : Gnet_Net)).bind fun (z : Int × Bool × Gnet_Net) =>
          if z.2.1 = true then
            if z.1 < 1 then
              some (.inr (.inr false))
            else
              if 4 < z.1 then
                some (.inr (.inr false))
              else
                m_law08_NetStreams_j3 z.2.1 z.1 E p q z.2.2 (i : Int) O C W
          else
            m_law08_NetStreams_j3 z.2.1 z.1 E p q z.2.2 (i : Int) O C W) := by
  have e : (⟨n.fitems, n.fconns, n.flast, n.fopens⟩ : Gnet_Net) = n := rfl
  have le := h.le
  rw [e, open_code h.ok (by omega) hp hq, Option.bind_some]
  by_cases hw : (openN n p q).2.1 = true
  · obtain ⟨h1, h2⟩ := h.opn ho (by omega) hp hq hw
    rw [if_pos hw, h1, if_neg (by omega), if_neg (by omega), m_law08_NetStreams_j3, if_pos hw]
    have ha := aix_of (n := 5) (x := (o : Int) + 1) (c := o + 1) (by simp) (by omega)
    simp only [ha, Option.bind_some, Nat.zero_add]
    rw [setN_of (by omega), Option.bind_some, setN_of (by rw [List.length_set]; omega), Option.bind_some, w64_id (by omega) (by omega)]
    exact goes_of h2 (by omega) (by omega) rfl
  · rw [if_neg hw, m_law08_NetStreams_j3, if_neg hw, w64_id (by omega) (by omega)]
    have hn : (openN n p q).2.2 = n := by
      unfold openN at hw ⊢
      split
      · rfl
      · rename_i h1
        rw [if_neg h1] at hw
        split
        · rfl
        · rename_i h2
          rw [if_neg h2] at hw
          split
          · rfl
          · rename_i h3; rw [if_neg h3] at hw; exact absurd rfl hw
    rw [hn]
    exact goes_of h (by omega) (by omega) rfl
theorem j4_code {i : Nat} (hi : i < 60) (h : STR (3 * (i : Int)) (1048576 * i) o E O C W n) {op : Glaw08_Op} (hB : i64R op.fB) (hs : op.fBody.size ≤ 1048576) {c p : Nat} (h1 : 1 ≤ c) (h4 : c ≤ 4) (hp : p < 2) (k : Int) (bw : Bool) :
    goes i (m_law08_NetStreams_j4 (p : Int) E op n.fitems n.fconns n.flast n.fopens (i : Int) O C W k (c : Int) bw) := by
  have e : (⟨n.fitems, n.fconns, n.flast, n.fopens⟩ : Gnet_Net) = n := rfl
  have le := h.le; have lw := h.lw
  have hc5 := aix_of (n := 5) (x := (c : Int)) rfl (by omega)
  have hp2 := aix_of (n := 2) (x := (p : Int)) rfl hp
  rw [m_law08_NetStreams_j4, w64_id (x := (i : Int) + 1) (by omega) (by omega), e]
  cases bw with
  | true =>
    rw [if_pos rfl, hc5, Option.bind_some, hp2, Option.bind_some, Nat.zero_add, Nat.mul_one]
    have hl : c * 2 + p < E.length := by omega
    rw [List.getElem?_eq_getElem hl, Option.bind_some]
    generalize ha : E[c * 2 + p] = a
    have hae : E[c * 2 + p]? = some a := by rw [List.getElem?_eq_getElem hl, ha]
    rw [write_code h.ok (by omega), Option.bind_some]
    obtain ⟨s1, s2⟩ := writeN_same n (c : Int) a op.fBody
    by_cases hw : (writeN n (c : Int) a op.fBody).1 = true
    · obtain ⟨e0, e1, w, f1, f2, f3, f4, f5, f6⟩ := h.write h1 h4 hp hae hs hw
      have hp3 : aix 2 (w64 (1 - (p : Int))) = some (1 - p) := aix_of (by rw [w64_id (by omega) (by omega)]; omega) (by omega)
      have hadd := sadd_of (s := w) (t := op.fBody) (by omega)
      rw [if_pos hw, Option.bind_some]
      simp only [Nat.zero_add, Nat.mul_one]
      rw [f1, Option.bind_some, f2, Option.bind_some, if_neg (by simp only [Garray30.mk.injEq]; omega), Option.bind_some, hp3, Option.bind_some, f4, Option.bind_some, hadd, Option.bind_some, Option.bind_some, Option.bind_some, setN_of (by omega), Option.bind_some]
      refine goes_of f6 (by omega) (by omega) ?_
      rw [s1, s2]
    · rw [if_neg hw]
      have hn := writeN_no hw
      rw [hn]
      exact goes_of h (by omega) (by omega) rfl
  | false =>
    rw [if_neg (by decide)]
    by_cases hk4 : k = 4
    · rw [if_pos hk4, close_code h.ok (by omega), Option.bind_some]
      have hcl := h.close (by omega) h1 h4
      refine goes_of hcl (by omega) (by omega) ?_
      rw [show (closeN n (c : Int)).2.fopens = n.fopens from by unfold closeN; cases fndX (isC (c : Int)) n.fconns 0 <;> rfl]
    · rw [if_neg hk4]
      by_cases hk5 : k = 5
      · rw [if_pos hk5, send_code h.ok (by omega), Option.bind_some]
        have r1 : i64R 1 := by decide
        have hS : STR (3 * (i : Int) + 1) (1048576 * i) o E O C W (sendN n 0 1 op.fBody).2 ∧ (sendN n 0 1 op.fBody).2.fconns = n.fconns ∧ (sendN n 0 1 op.fBody).2.fopens = n.fopens := by
          unfold sendN; split
          · exact ⟨h.more (by omega) (by omega), rfl, rfl⟩
          · exact ⟨h.one rfl i64_0 r1, rfl, rfl⟩
        obtain ⟨hS, hS1, hS2⟩ := hS
        generalize (sendN n 0 1 op.fBody).2 = n1 at *
        have e2 : (⟨n1.fitems, n.fconns, n1.flast, n.fopens⟩ : Gnet_Net) = n1 := by rw [← hS1, ← hS2]
        rw [e2, double_code hS.ok (by omega) hB, Option.bind_some]
        have hD : STR (3 * (i : Int) + 2) (1048576 * i) o E O C W (doubleN n1 op.fB).2 ∧ (doubleN n1 op.fB).2.fconns = n1.fconns ∧ (doubleN n1 op.fB).2.fopens = n1.fopens := by
          unfold doubleN
          by_cases hpk : (pickI (dgI n1.fitems 0) op.fB).2 = true
          · obtain ⟨z, x, q1, q2, q3, q4, -⟩ := pickI_dg n1.fitems op.fB hpk
            have hx1 : x.fKind = 1 := of_decide_eq_true (List.mem_filter.1 (List.mem_of_getElem? q4)).2
            have hr := hS.ok.ir x (List.mem_of_getElem? q3)
            rw [if_pos hpk]
            split
            · exact ⟨hS.more (by omega) (by omega), rfl, rfl⟩
            · rw [q1, Int.toNat_natCast, q3]
              have := hS.one hx1 hr.1 hr.2.1
              exact ⟨this.more (by omega) (by omega), rfl, rfl⟩
          · rw [if_neg hpk]; exact ⟨hS.more (by omega) (by omega), rfl, rfl⟩
        obtain ⟨hD, hD1, hD2⟩ := hD
        refine goes_of hD (by omega) (by omega) ?_
        rw [hD1, hD2, hS1, hS2]
      · rw [if_neg hk5, take_code h.ok (by omega) hB, Option.bind_some]
        unfold takeN
        by_cases hpk : (pickI (rdyI [] n.fitems) op.fB).2 = true
        · obtain ⟨z, x, q1, q3, q4⟩ := pickI_isR n.fitems op.fB hpk
          rw [if_pos hpk, q1, Int.toNat_natCast, q3]
          simp only [Option.getD_some]
          rw [if_pos trivial]
          by_cases hx1 : x.fKind = 1
          · rw [if_pos hx1]
            exact goes_of (h.take1 q3 hx1) (by omega) (by omega) rfl
          · obtain ⟨c', s', u, v, kk, w, g1, g2, g3, g4, g5, g6, g7, g8, g9, g10, g11, g12, g13, g14, g15⟩ := h.take q3 hx1 q4
            have hcc := aix_of (n := 5) g1 (by omega)
            rw [if_neg hx1, if_neg (by omega), if_neg (by omega), hcc, Option.bind_some]
            simp only [Nat.zero_add, Nat.mul_one]
            rw [g6, Option.bind_some]
            have hj := fun n' => j5_code (E := E) (O := O) (C := C) (W := W) n' n.fconns i n.flast n.fopens (by omega) g1 g3 g4 g8 g9 g10 g11 g12 g13 (by omega)
            rcases (by omega : s' = 0 ∨ s' = 1) with rfl | rfl
            · rw [Nat.add_zero, g5] at g8; injection g8 with g8
              rw [if_neg (by rw [← g8]; exact g7)]
              refine goes_of g15 (by omega) (by omega) ?_
              exact hj _
            · rw [g6] at g8; injection g8 with g8
              rw [if_pos g8.symm]
              refine goes_of g15 (by omega) (by omega) ?_
              exact hj _
        · rw [if_neg hpk, if_neg (show ¬ ((item0, false, n) : GItem × Bool × Gnet_Net).2.1 = true from Bool.false_ne_true)]
          exact goes_of h (by omega) (by omega) rfl
end
theorem q_NetStreams (p0 : List Glaw08_Op) (h0 : (p0.length ≤ 1048576 ∧ ∀ a ∈ p0, Glaw08_Op.ok a)) : m_law08_NetStreams p0 = some true := by
  have hrep : ∀ {α : Type} (v : α) (j : Nat), j < 10 → (List.replicate 10 v)[j]? = some v := fun v j hj => by rw [List.getElem?_replicate, if_pos hj]
  obtain ⟨r, g1, rfl⟩ := loop_rule (step := fun s : List GItem × List Gnet_conn × Int × List Int × List Bool × List ByteArray × List ByteArray × Int × Int => m_law08_NetStreams_s2 p0 s.1 s.2.1 s.2.2.1 s.2.2.2.1 s.2.2.2.2.1 s.2.2.2.2.2.1 s.2.2.2.2.2.2.1 s.2.2.2.2.2.2.2.1 s.2.2.2.2.2.2.2.2)
    (fun s => ∃ (i o : Nat) (E : List Int) (O : List Bool) (C W : List ByteArray) (n : Gnet_Net), s = stS n i E O C W ∧ i ≤ 60 ∧ STR (3 * (i : Int)) (1048576 * i) o E O C W n)
    (fun s => (60 - s.2.2.1).toNat)
    (fun r => r = .inl ())
    (by
      rintro s ⟨i, o, E, O, C, W, n, rfl, hi, hn⟩
      simp only [stS]
      rw [m_law08_NetStreams_s2]
      by_cases hc : (i : Int) < (p0.length : Int)
      · by_cases hc2 : (i : Int) < 60
        · left
          have hil : i < p0.length := by omega
          have hop := h0.2 _ (List.getElem_mem hil)
          generalize hx : p0[i] = op at hop
          have hat : at_ p0 (i : Int) = some op := by rw [at_nat hil, hx]
          obtain ⟨a, a1, a2⟩ := pk hop.2.2.2.1 4 (by omega) (by omega)
          obtain ⟨p, b1, b2⟩ := pk hop.2.1 2 (by omega) (by omega)
          obtain ⟨k, c1, c2⟩ := pk hop.1 8 (by omega) (by omega)
          obtain ⟨u, d1, d2⟩ := pk hop.2.1 4 (by omega) (by omega)
          obtain ⟨v, f1, f2⟩ := pk hop.2.2.1 4 (by omega) (by omega)
          have fin : ∀ {r : Option stT}, goes i r → ∃ s', r = some (.inl s') ∧ (∃ (i o : Nat) (E : List Int) (O : List Bool) (C W : List ByteArray) (n : Gnet_Net), s' = stS n i E O C W ∧ i ≤ 60 ∧ STR (3 * (i : Int)) (1048576 * i) o E O C W n) ∧ (60 - s'.2.2.1).toNat < (60 - (i : Int)).toNat := by
            rintro r ⟨o', E', O', C', W', n', rfl, hh⟩
            exact ⟨_, rfl, ⟨i + 1, o', E', O', C', W', n', rfl, by omega, hh⟩, by simp only [stS]; omega⟩
          have hj4 := fun bw => j4_code (by omega) hn hop.2.2.1 hop.2.2.2.2 (c := a + 1) (p := p) (by omega) (by omega) b2 (k : Int) bw
          have ea : w64 (1 + (a : Int)) = ((a + 1 : Nat) : Int) := by rw [w64_id (by omega) (by omega)]; omega
          rw [if_pos hc, if_pos hc2, hat, Option.bind_some, show (4 : Int) = ((4 : Nat) : Int) from rfl, a1, Option.bind_some, show (2 : Int) = ((2 : Nat) : Int) from rfl, b1, Option.bind_some, show (8 : Int) = ((8 : Nat) : Int) from rfl, c1, Option.bind_some, ea]
          by_cases hk0 : (k : Int) = 0
          · rw [if_pos hk0, d1, Option.bind_some, f1, Option.bind_some]
            have le := hn.le; have o4 := hn.o4
            have l8 : 0 + 4 * 2 < E.length := by omega
            have l9 : 0 + 4 * 2 + 1 < E.length := by omega
            rw [List.getElem?_eq_getElem l8, Option.bind_some, List.getElem?_eq_getElem l9, Option.bind_some]
            by_cases hz : (⟨E[0 + 4 * 2], E[0 + 4 * 2 + 1]⟩ : Garray30) = ⟨0, 0⟩
            · rw [if_pos hz]
              simp only [Garray30.mk.injEq] at hz
              have ho : o < 4 := by
                rcases Nat.lt_or_ge o 4 with ho | ho
                · exact ho
                · exfalso
                  obtain ⟨x, y, y1, y2, y3⟩ := hn.eo 4 (by omega) (by omega)
                  rw [show 4 * 2 = 0 + 4 * 2 by omega, List.getElem?_eq_getElem l8] at y1
                  rw [show 4 * 2 = 0 + 4 * 2 by omega, List.getElem?_eq_getElem l9] at y2
                  injection y1 with y1; injection y2 with y2
                  omega
              exact fin (opn_code (by omega) hn ho ⟨by omega, by omega⟩ ⟨by omega, by omega⟩)
            · rw [if_neg hz, w64_id (by omega) (by omega)]
              exact fin (goes_of hn (by omega) (by omega) rfl)
          · rw [if_neg hk0]
            by_cases hk1 : (k : Int) = 1
            · rw [if_pos hk1]; exact fin (hj4 _)
            · rw [if_neg hk1]
              split
              · exact fin (hj4 _)
              · exact fin (hj4 _)
        · right
          rw [if_pos hc, if_neg hc2]
          exact ⟨_, rfl, rfl⟩
      · right
        rw [if_neg hc]
        exact ⟨_, rfl, rfl⟩)
    (s0 := stS newN 0 (List.replicate 10 0) (List.replicate 10 false) (List.replicate 10 (⟨#[]⟩ : ByteArray)) (List.replicate 10 (⟨#[]⟩ : ByteArray)))
    ⟨0, 0, _, _, _, _, newN, rfl, by omega, newN_ok, rfl, by omega, by simp, by simp, by simp, by simp, fun c c1 c2 => ⟨hrep _ _ (by omega), hrep _ _ (by omega)⟩, fun c c1 c2 => by omega, (fun _ h => by cases h), (fun _ h => by cases h), fun c s h1 h2 h3 t ht => ⟨ba0, ba0, ba0, hrep _ _ (by omega), hrep _ _ (by omega), by rw [show und (c : Int) t newN.fitems = ba0 from rfl, ba0_r, ba0_r], fun _ => rfl, Nat.zero_le _⟩, (fun c s h1 h2 h3 ht => by rw [hrep _ _ (by omega)] at ht; cases ht), (fun _ h => by cases h), List.Pairwise.nil⟩
  rw [m_law08_NetStreams, awake08, Option.bind_some]
  erw [show m_net_New = some newN from rfl]
  rw [Option.bind_some]
  erw [g1]
  rfl
end Go.Proofs.Ythajfodilodhaaa
