/-
  A small calculus for walks, its rules (own work).
-/
import Derived.Test.YtkmkpodioedlfaaDoorSW
import Derived.Deep.LoopGhost
set_option linter.unusedVariables false
set_option linter.unusedSimpArgs false
namespace Go.Proofs.YtkmkpodioedlfaaDoor
open Go.RowKit
abbrev Fr := Nat → Value
def up (σ : Fr) (d : Nat) (v : Value) : Fr := fun t => bif Nat.beq t d then v else σ t
/-- On the slots of L as f says, else as σ says. -/
def mix (L : List Nat) (f σ : Fr) : Fr := fun t => bif L.elem t then f t else σ t
def ev (σ : Fr) : Operand → Value
  | .tmp t => σ t
  | .const v => v
  | .global g => .pointer (some ⟨g, 0, none⟩)
  | .func f => .func (.func f) #[] #[]
/-- How many slots there are; which calls wait for the end. -/
structure FS where
  n : Nat
  ds : List Deferred
instance : Coe FS Nat := ⟨FS.n⟩
structure Okf (a : Act) (σ : Fr) (N : FS) : Prop where
  dz : a.defers = N.ds
  sz : a.tmps.size = N
  at_ : ∀ t, a.tmps.getD t undef = σ t
theorem Okf.ev {a : Act} {σ : Fr} {N : FS} (h : Okf a σ N) : a.eval = ev σ := funext fun x => by cases x <;> first | rfl | exact h.at_ _
theorem Okf.put {a : Act} {σ : Fr} {N : FS} {d : Nat} {v : Value} (h : Okf a σ N) (hd : Nat.blt d N = true) : Okf (a.put (some d) v) (up σ d v) N := by
  have hlt : d < a.tmps.size := by rw [h.sz]; exact Nat.le_of_ble_eq_true hd
  refine ⟨h.dz, by simp [Act.put, h.sz], fun t => ?_⟩
  have := h.at_ t
  unfold up
  cases hb : Nat.beq t d with
  | true =>
    have := Nat.eq_of_beq_eq_true hb
    subst this
    simp [Act.put, hlt]
  | false =>
    have hne : t ≠ d := Nat.ne_of_beq_eq_false hb
    simp only [Act.put, cond_false]
    rw [← this]
    simp [Array.getElem?_setIfInBounds, Ne.symm hne]
theorem Okf.start (args : Array Value) (n N : Nat) (hn : args.size + n = N) : Okf { tmps := args ++ Array.replicate n undef, defers := [] } (fun t => args.getD t undef) ⟨N, []⟩ := by
  refine ⟨rfl, by simp [hn], fun t => ?_⟩
  simp only [Array.getD_eq_getD_getElem?, Array.getElem?_append, Array.getElem?_replicate]
  by_cases h : t < args.size
  · rw [if_pos h]
  · rw [if_neg h, Array.getElem?_eq_none (by omega)]
    split <;> rfl
def All : List Nat → (Nat → Prop) → Prop
  | [], _ => True
  | t :: l, p => p t ∧ All l p
theorem All.at_ {L : List Nat} {p : Nat → Prop} (h : All L p) : ∀ t, L.elem t = true → p t := by
  induction L with
  | nil => intro t ht; simp at ht
  | cons a l ih =>
    intro t ht
    have ht' : t ∈ a :: l := List.elem_iff.1 ht
    rcases List.mem_cons.1 ht' with rfl | ht'
    · exact h.1
    · exact ih h.2 t (List.elem_iff.2 ht')
theorem mix_self {L : List Nat} {f σ : Fr} (h : All L (fun t => σ t = f t)) : mix L f σ = σ := by
  funext t
  unfold mix
  cases ht : L.elem t with
  | true => exact (h.at_ t ht).symm
  | false => rfl
section
variable (P : Program) (ops : Array Oper) (Q : Exit → Act → World → Prop) (N : FS)
def G (rest : List Oper) (σ : Fr) (S : Sta) : Prop := ∀ a W, Okf a σ N → S.ok W → wpList P ops Q rest a W
def CC (c : Code) (σ : Fr) (S : Sta) : Prop := ∀ a W, Okf a σ N → S.ok W → c.wp P Q a W
def DD (e : Exit) (σ : Fr) (S : Sta) : Prop := ∀ a W, Okf a σ N → S.ok W → Q e a W
end
section
variable {P : Program} {ops : Array Oper} {Q : Exit → Act → World → Prop} {N : FS} {rest : List Oper} {o : Oper} {σ : Fr} {S : Sta}
/-! ### Steps of whatever kind -/
theorem g_ev {ι : Type} {d : Nat} (v : ι → Value) (S' : ι → Sta) (hgd : o.guard = none) (hd : o.dst = some d) (hN : Nat.blt d N = true)
    (hr : ∀ W, S.ok W → ∃ x W1, (execOp (ev σ) o).run P W = .ok (.value (v x)) W1 ∧ (S' x).ok W1)
    (h : ∀ x, G P ops Q N rest (up σ d (v x)) (S' x)) : G P ops Q N (o :: rest) σ S := by
  intro a W ha hS
  obtain ⟨x, W1, hrun, hS1⟩ := hr W hS
  refine wpList_plain hgd fun K hK => ?_
  unfold Oper.wp
  rw [ha.ev, hrun, Oper.upon_value]
  refine hK _ _ (h x _ _ ?_ hS1)
  rw [hd]
  exact ha.put hN
theorem g_val {d : Nat} {v : Value} (hgd : o.guard = none) (hd : o.dst = some d) (hN : Nat.blt d N = true)
    (hr : ∀ W, S.ok W → (execOp (ev σ) o).run P W = .ok (.value v) W)
    (h : G P ops Q N rest (up σ d v) S) : G P ops Q N (o :: rest) σ S :=
  g_ev (fun _ : Unit => v) (fun _ => S) hgd hd hN (fun W hS => ⟨(), W, hr W hS, hS⟩) (fun _ => h)
/-- An operation that only reads comes to v. -/
def Rn (P : Program) (σ : Fr) (S : Sta) (op : Op) (ty : TypeId) (v : Value) : Prop := ∀ W, S.ok W → (execOp (ev σ) ⟨none, op, ty, "", #[], none⟩).run P W = .ok (.value v) W
theorem g_v {d : Nat} {op : Op} {ty : TypeId} {pos : String} {af : Array Edge} {v : Value} (hN : Nat.blt d N = true) (r : Rn P σ S op ty v) (h : G P ops Q N rest (up σ d v) S) : G P ops Q N (⟨some d, op, ty, pos, af, none⟩ :: rest) σ S :=
  g_val rfl rfl hN r h
theorem g_skip (S' : Sta) (hgd : o.guard = none) (hd : o.dst = none)
    (hr : ∀ W, S.ok W → ∃ W1, (execOp (ev σ) o).run P W = .ok .skip W1 ∧ S'.ok W1)
    (h : G P ops Q N rest σ S') : G P ops Q N (o :: rest) σ S := by
  intro a W ha hS
  obtain ⟨W1, hrun, hS1⟩ := hr W hS
  refine wpList_plain hgd fun K hK => ?_
  unfold Oper.wp
  rw [ha.ev, hrun, Oper.upon_skip]
  refine hK _ _ ?_
  rw [hd]
  exact h a W1 ha hS1
theorem g_nil (h : DD Q N .normal σ S) : G P ops Q N [] σ S := fun a W ha hS => h a W ha hS
theorem g_if {j : Nat} {b p : Bool} {t : Nat} {oj : Oper} {d : Nat} {op : Op} {ty : TypeId} {pos : String} {af : Array Edge}
    (hj : ops[j]? = some oj) (ht : oj.dst = some t) (hN : Nat.blt d N = true) (htN : Nat.blt t N = true) (hv : σ t = .bool p)
    (h1 : p = b → G P ops Q N (⟨some d, op, ty, pos, af, none⟩ :: rest) σ S) (h0 : p = !b → G P ops Q N rest (up σ d undef) S) :
    G P ops Q N (⟨some d, op, ty, pos, af, some (j, b)⟩ :: rest) σ S := by
  intro a W ha hS
  have hlt : t < a.tmps.size := by rw [ha.sz]; exact Nat.le_of_ble_eq_true htN
  have hat : a.tmps[t]? = some (.bool p) := by
    have := ha.at_ t
    rw [Array.getD_eq_getD_getElem?, Array.getElem?_eq_getElem hlt, hv] at this
    rw [Array.getElem?_eq_getElem hlt]
    exact congrArg some this
  have hy : yielded ops a.tmps j = some p := by simp [yielded, hj, ht, hat]
  by_cases hp : p = b
  · have := h1 hp a W ha hS
    subst hp
    unfold wpList at this ⊢
    rw [if_pos (by simp [Region.wanted])] at this
    rw [if_pos (by simp [Region.wanted, hy])]
    exact this
  · have hp' : p = !b := by cases p <;> cases b <;> simp_all
    have hw : Region.wanted ⟨some d, op, ty, pos, af, some (j, b)⟩ (yielded ops a.tmps) = false := by simp [Region.wanted, hy, hp]
    unfold wpList
    rw [if_neg (by simp [hw])]
    exact h0 hp' _ _ (ha.put hN) hS
/-! ### Control -/
theorem c_region {id : Nat} {l : List Oper} (h : G P l.toArray Q N l σ S) : CC P Q N (.region id l.toArray false) σ S := fun a W ha hS => wp_region_lit (h a W ha hS)
theorem c_seq {x y : Code} (h : CC P (Exit.then (y.wp P Q) Q) N x σ S) : CC P Q N (.seq x y) σ S := fun a W ha hS => wp_seq (h a W ha hS)
theorem d_then {y : Code} (h : CC P Q N y σ S) : DD (Exit.then (y.wp P Q) Q) N .normal σ S := h
theorem d_ret_then {K : Act → World → Prop} (h : DD Q N .ret σ S) : DD (Exit.then K Q) N .ret σ S := h
theorem d_exit_then {K : Act → World → Prop} {i : Nat} (h : DD Q N (.exit i) σ S) : DD (Exit.then K Q) N (.exit i) σ S := h
theorem d_ret_block {i : Nat} (h : DD Q N .ret σ S) : DD (Exit.inBlock i Q) N .ret σ S := h
theorem d_normal_block {i : Nat} (h : DD Q N .normal σ S) : DD (Exit.inBlock i Q) N .normal σ S := h
theorem d_exit_block {i : Nat} (h : DD Q N .normal σ S) : DD (Exit.inBlock i Q) N (.exit i) σ S := fun a W ha hS => by
  simp only [Exit.inBlock, if_true]
  exact h a W ha hS
theorem c_cond {c : Operand} {x y : Code} {p : Bool} (hc : ev σ c = .bool p) (h1 : p = true → CC P Q N x σ S) (h0 : p = false → CC P Q N y σ S) : CC P Q N (.cond c x y) σ S := fun a W ha hS =>
  wp_cond_split (t := p) (by rw [ha.ev]; exact hc) (fun hp => h1 hp a W ha hS) (fun hp => h0 hp a W ha hS)
theorem c_cond1 {c : Operand} {x y : Code} {p : Bool} (hc : ev σ c = .bool p) (hp : p = true) (h : CC P Q N x σ S) : CC P Q N (.cond c x y) σ S := c_cond hc (fun _ => h) (fun h0 => absurd (hp.symm.trans h0) (by decide))
theorem c_cond0 {c : Operand} {x y : Code} {p : Bool} (hc : ev σ c = .bool p) (hp : p = false) (h : CC P Q N y σ S) : CC P Q N (.cond c x y) σ S := c_cond hc (fun h1 => absurd (hp.symm.trans h1) (by decide)) (fun _ => h)
theorem g_do {j : Nat} {b p : Bool} {t : Nat} {oj : Oper} {d : Nat} {op : Op} {ty : TypeId} {pos : String} {af : Array Edge}
    (hj : ops[j]? = some oj) (ht : oj.dst = some t) (hN : Nat.blt d N = true) (htN : Nat.blt t N = true) (hv : σ t = .bool p) (hp : p = b)
    (h : G P ops Q N (⟨some d, op, ty, pos, af, none⟩ :: rest) σ S) : G P ops Q N (⟨some d, op, ty, pos, af, some (j, b)⟩ :: rest) σ S :=
  g_if hj ht hN htN hv (fun _ => h) (fun h0 => by subst hp; cases p <;> cases h0)
theorem g_no {j : Nat} {b p : Bool} {t : Nat} {oj : Oper} {d : Nat} {op : Op} {ty : TypeId} {pos : String} {af : Array Edge}
    (hj : ops[j]? = some oj) (ht : oj.dst = some t) (hN : Nat.blt d N = true) (htN : Nat.blt t N = true) (hv : σ t = .bool p) (hp : p = !b)
    (h : G P ops Q N rest (up σ d undef) S) : G P ops Q N (⟨some d, op, ty, pos, af, some (j, b)⟩ :: rest) σ S :=
  g_if hj ht hN htN hv (fun h0 => by subst hp; cases b <;> cases h0) (fun _ => h)
theorem c_skip (h : DD Q N .normal σ S) : CC P Q N .skip σ S := fun a W ha hS => wp_skip (h a W ha hS)
theorem c_ret (h : DD Q N .ret σ S) : CC P Q N .ret σ S := fun a W ha hS => wp_ret (h a W ha hS)
theorem c_exit {i : Nat} (h : DD Q N (.exit i) σ S) : CC P Q N (.exit i) σ S := fun a W ha hS => wp_exit (h a W ha hS)
theorem c_block {i : Nat} {c : Code} (h : CC P (Exit.inBlock i Q) N c σ S) : CC P Q N (.block i c) σ S := fun a W ha hS => wp_block (h a W ha hS)
def Round {ι : Type} (N : FS) (L : List Nat) (f : ι → Fr) (T : ι → Sta) (I : ι → Prop) (μ : ι → Nat) (m : Nat) (a : Act) (W : World) : Prop := ∃ s u, I s ∧ μ s < m ∧ Okf a (mix L (f s) u) N ∧ (T s).ok W
/-- A loop: s is the state of a round; L the slots that are told, f s what they hold; T s what is known. -/
theorem c_loop {ι : Type} {c : Code} (L : List Nat) (f : ι → Fr) (T : ι → Sta) (I : ι → Prop) (μ : ι → Nat) (s0 : ι) (h0 : I s0) (hσ : All L (fun t => σ t = f s0 t)) (hS0 : ∀ W, S.ok W → (T s0).ok W)
    (round : ∀ s u, I s → CC P (Exit.then (Round N L f T I μ (μ s)) Q) N c (mix L (f s) u) (T s)) : CC P Q N (.loop c) σ S := by
  intro a W ha hS
  refine wp_loop_ghost (fun n a W => ∃ s u, μ s = n ∧ I s ∧ Okf a (mix L (f s) u) N ∧ (T s).ok W) (μ s0) ⟨s0, σ, rfl, h0, by rw [mix_self hσ]; exact ha, hS0 W hS⟩ ?_
  rintro n a W ⟨s, u, rfl, hI, ha, hT⟩
  refine wp_mono (round s u hI a W ha hT) ?_
  intro e a' W' hq
  cases e with
  | normal =>
    obtain ⟨s', u', hI', hμ, ha', hT'⟩ := hq
    exact ⟨μ s', hμ, s', u', rfl, hI', ha', hT'⟩
  | exit id => exact hq
  | goto l => exact hq
  | ret => exact hq
  | panic ch => exact hq
  | outgrown => exact hq
theorem d_round {ι : Type} {L : List Nat} {f : ι → Fr} {T : ι → Sta} {I : ι → Prop} {μ : ι → Nat} {m : Nat} (s : ι) (hI : I s) (hμ : μ s < m) (hσ : All L (fun t => σ t = f s t)) (hS : ∀ W, S.ok W → (T s).ok W) :
    DD (Exit.then (Round N L f T I μ m) Q) N .normal σ S := fun a W ha hW => ⟨s, σ, hI, hμ, by rw [mix_self hσ]; exact ha, hS W hW⟩
def upL : List (Nat × Value) → Fr → Fr
  | [], σ => σ
  | (d, v) :: r, σ => upL r (up σ d v)
/-- A loop whose slots are those ahead of it, but for those of us. -/
theorem c_loopU {ι : Type} {c : Code} (L : List Nat) (us : ι → List (Nat × Value)) (T : ι → Sta) (I : ι → Prop) (μ : ι → Nat) (s0 : ι) (h0 : I s0) (hσ : All L (fun t => σ t = upL (us s0) σ t)) (hS0 : ∀ W, S.ok W → (T s0).ok W)
    (round : ∀ s u, I s → CC P (Exit.then (Round N L (fun s => upL (us s) σ) T I μ (μ s)) Q) N c (mix L (upL (us s) σ) u) (T s)) : CC P Q N (.loop c) σ S :=
  c_loop L (fun s => upL (us s) σ) T I μ s0 h0 hσ hS0 round
/-- What is known is turned. -/
theorem g_sta (S' : Sta) (hS : ∀ W, S.ok W → S'.ok W) (h : G P ops Q N rest σ S') : G P ops Q N rest σ S := fun a W ha hW => h a W ha (hS W hW)
theorem c_sta {c : Code} (S' : Sta) (hS : ∀ W, S.ok W → S'.ok W) (h : CC P Q N c σ S') : CC P Q N c σ S := fun a W ha hW => h a W ha (hS W hW)
theorem d_sta {e : Exit} (S' : Sta) (hS : ∀ W, S.ok W → S'.ok W) (h : DD Q N e σ S') : DD Q N e σ S := fun a W ha hW => h a W ha (hS W hW)
end
/-! ### Contracts -/
/-- A call of f: it comes back with rv x, ψ x holds of memory (M aside), nothing that was there has turned. -/
def Con {ι : Type} (P : Program) (f : FuncId) (args : Array Value) (w : World) (M : Nat → Prop) (rv : ι → Value) (pure : ι → Prop) (ψ : ι → World → Prop) : Prop :=
  Calls P f args w fun e W => ∃ x : ι, e = .returned (rv x) ∧ pure x ∧ Fact W M (ψ x) ∧ Below w.heap.size w W
section
variable {P : Program} {ops : Array Oper} {Q : Exit → Act → World → Prop} {N : FS} {rest : List Oper} {o : Oper} {σ : Fr} {S : Sta}
/-- What the results come to, one by one. -/
def RunsTo (P : Program) (tmps : Array Value) (W : World) : List ResultVar → List Value → Prop
  | [], [] => True
  | .tmp t :: rs, v :: vs => tmps.getD t undef = v ∧ RunsTo P tmps W rs vs
  | .cell a t :: rs, v :: vs => (∃ ad, tmps.getD a undef = .pointer (some ad) ∧ (loadVar t ad).run P W = .ok v W) ∧ RunsTo P tmps W rs vs
  | _, _ => False
def oneOf : List Value → Value
  | [v] => v
  | vs => .tuple vs.toArray
theorem results_aux {tmps : Array Value} {W : World} (F : ResultVar → Sem Value) (hF1 : ∀ t, F (.tmp t) = pure (tmps.getD t undef)) (hF2 : ∀ a t, F (.cell a t) = do loadVar t (← asAddr (tmps.getD a undef))) :
    ∀ (rs : List ResultVar) (vs : List Value), RunsTo P tmps W rs vs → (rs.mapM F).run P W = .ok vs W := by
  intro rs
  induction rs with
  | nil => intro vs h; cases vs with
    | nil => simp
    | cons v vs => exact h.elim
  | cons r rs ih =>
    intro vs h
    cases vs with
    | nil => cases r <;> exact h.elim
    | cons v vs =>
      cases r with
      | tmp t =>
        have h1 := h.1
        have := ih vs h.2
        simp [List.mapM_cons, hF1, h1, this]
        try (simpa using h1)
      | cell a t =>
        obtain ⟨⟨ad, h1, h2⟩, h3⟩ := h
        have := ih vs h3
        have e : (asAddr (.pointer (some ad))).run P W = .ok ad W := by simp [asAddr]
        have e2 : (F (.cell a t)).run P W = .ok v W := by rw [hF2, h1]; simp only [Sem.run_bind, e]; simpa using h2
        simp [List.mapM_cons, e2, this]
theorem results_aux2 {W : World} (F : ResultVar → Sem Value) {rs : List ResultVar} {vs : List Value} (h : (rs.mapM F).run P W = .ok vs W) :
    (do let vs ← rs.toArray.mapM F; pure (if h : vs.size = 1 then vs[0] else .tuple vs) : Sem Value).run P W = .ok (oneOf vs) W := by
  rcases vs with _ | ⟨v, _ | ⟨v2, vs⟩⟩ <;> simp [h, oneOf]
theorem results_run {fn : Func} {tmps : Array Value} {W : World} {rs : List ResultVar} {vs : List Value} (hr : fn.results = rs.toArray) (h : RunsTo P tmps W rs vs) :
    (results fn tmps).run P W = .ok (oneOf vs) W := by
  unfold results
  rw [hr]
  refine results_aux2 _ ?_
  exact results_aux _ (fun _ => rfl) (fun _ _ => rfl) rs vs h
end
end Go.Proofs.YtkmkpodioedlfaaDoor
