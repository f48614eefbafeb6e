/- Ranges over functions, in the calculus (own work): a round's walk, the statement, the end of a function that holds one. -/
import Derived.Test.YtkmkpodioedlfaaDoorSM
import Derived.RangeFuncLeaves
import Derived.RangeFuncRecord
import Derived.RangeFuncSeq
import Derived.RangeFuncCalls
import Derived.TacticsIn
set_option linter.unusedVariables false
set_option linter.unusedSimpArgs false
set_option linter.unusedSectionVars false
namespace Go.Proofs.YtkmkpodioedlfaaDoor
open Go.RowKit Go.Proofs.YtkmkpodioedlfaaDoorW.PrintLast
/-- What is walked with no fence is walked within the wide one, in a round or not. -/
structure Wideish (P : Program) (F : Fence) : Prop where
  depth : F.depth = none
  fn : ∀ f, F.fn f
  calls : ∀ {f : FuncId} {args : Array Value} {w : World} {R : Ending → World → Prop}, Calls P f args w R → CallsIn F 0 P f args w R
  rows : ∀ {row : String} {args : Array Value} {w : World} {R : Value → World → Prop}, Rows P row args w R → RowsIn F 0 P row args w R
theorem wideish (P : Program) : Wideish P Fence.wide where
  depth := rfl
  fn := fun _ => trivial
  calls := fun h => callsIn_wide.2 h
  rows := fun h c cs hr => by
    obtain ⟨v, w', r, s⟩ := h c cs
    exact ⟨v, w', r, stepsIn_wide.2 s⟩
theorem wideish_round (P : Program) (l : Nat) : Wideish P (Fence.wide.inRound l) where
  depth := rfl
  fn := fun _ => trivial
  calls := fun h => CallsIn.inRound l (callsIn_wide.2 h)
  rows := fun h => (wideish P).rows h
section
variable {P : Program} {F : Fence} {ops : Array Oper} {Q : Exit → Act → World → Prop}
theorem upon_in (hF : Wideish P F) {o : Oper} {a : Act} {K K' : Act → World → Prop} (hK : ∀ a w, K a w → K' a w) : ∀ {r : Result Next}, o.upon P a K Q r → o.uponIn F 0 P a K' Q r := by
  intro r h
  unfold Oper.upon at h
  unfold Oper.uponIn
  split at h
  · exact hK _ _ h
  · exact hK _ _ h
  · exact hK _ _ h
  · refine ⟨by simp [hF.depth], hF.calls (h.mono ?_)⟩
    intro e w' he
    cases e with
    | returned v => exact hK _ _ he
    | panicked c => exact he
    | outgrown => exact he
  · refine ⟨by simp [hF.depth], hF.rows (h.mono fun v w' hv => hK _ _ hv)⟩
  · exact h
  · exact h.elim
theorem list_in (hF : Wideish P F) (hQ : ∀ a w, ¬ Q .outgrown a w) : ∀ (rest : List Oper) (a : Act) (w : World), (∀ o ∈ rest, ∀ c, o.op ≠ .defer c) → wpList P ops Q rest a w → wpListIn F 0 P ops Q rest a w
  | [], a, w, _, h => h
  | o :: rest, a, w, hd, h => by
    unfold wpList at h
    unfold wpListIn
    have ih : ∀ a w, wpList P ops Q rest a w → wpListIn F 0 P ops Q rest a w := fun a w h => list_in hF hQ rest a w (fun o ho => hd o (by simp [ho])) h
    split at h
    · rename_i hw
      rw [if_pos hw]
      rcases h with h | ⟨_, a', w', hl⟩
      · refine ⟨fun f _ => hF.fn f, ?_⟩
        rw [Oper.semAt_eq _ _ _ (hd o (by simp))]
        exact upon_in hF ih h
      · exact absurd hl (hQ _ _)
    · rename_i hw
      rw [if_neg hw]
      exact ⟨fun f _ => hF.fn f, ih _ _ h⟩
end
/-! ### Operations within the wide fence -/
def GI (P : Program) (ops : Array Oper) (Q : Exit → Act → World → Prop) (N : FS) (rest : List Oper) (σ : Fr) (S : Sta) : Prop := ∀ a W, Okf a σ N → S.ok W → wpListIn Fence.wide 0 P ops Q rest a W
section
variable {P : Program} {ops : Array Oper} {Q : Exit → Act → World → Prop} {N : FS} {rest : List Oper} {σ : Fr} {S : Sta} {d : Nat} {op : Op} {ty : TypeId} {pos : String} {af : Array Edge}
theorem c_regionI {id : Nat} {l : List Oper} (h : GI P l.toArray Q N l σ S) : CC P Q N (.region id l.toArray false) σ S := fun a W ha hS => (wpIn_wide (n := 0)).1 (wpIn_region_lit (h a W ha hS))
theorem gi_nil (h : DD Q N .normal σ S) : GI P ops Q N [] σ S := fun a W ha hS => h a W ha hS
theorem gi_v {v : Value} (hN : Nat.blt d N = true) (r : Rn P σ S op ty v) (h : GI P ops Q N rest (up σ d v) S) : GI P ops Q N (⟨some d, op, ty, pos, af, none⟩ :: rest) σ S := by
  intro a W ha hS
  refine wpListIn_plain rfl fun K hK => ?_
  have hrun : (execOp (ev σ) ⟨some d, op, ty, pos, af, none⟩).run P W = .ok (.value v) W := r W hS
  refine ⟨fun _ _ => trivial, ?_⟩
  rw [Fence.wide_round, Oper.semAt_none, ha.ev, hrun, Oper.uponIn_value]
  exact hK _ _ (h _ _ (ha.put hN) hS)
theorem gi_if {j : Nat} {b p : Bool} {t : Nat} {oj : Oper}
    (hj : ops[j]? = some oj) (ht : oj.dst = some t) (hN : Nat.blt d N = true) (htN : Nat.blt t N = true) (hv : σ t = .bool p)
    (h1 : p = b → GI P ops Q N (⟨some d, op, ty, pos, af, none⟩ :: rest) σ S) (h0 : p = !b → GI P ops Q N rest (up σ d undef) S) :
    GI P ops Q N (⟨some d, op, ty, pos, af, some (j, b)⟩ :: rest) σ S := by
  intro a W ha hS
  have hlt : t < a.tmps.size := by rw [ha.sz]; exact Nat.le_of_ble_eq_true htN
  have hat : a.tmps[t]? = some (.bool p) := by
    have := ha.at_ t
    rw [Array.getD_eq_getD_getElem?, Array.getElem?_eq_getElem hlt, hv] at this
    rw [Array.getElem?_eq_getElem hlt]
    exact congrArg some this
  have hy : yielded ops a.tmps j = some p := by simp [yielded, hj, ht, hat]
  by_cases hp : p = b
  · have := h1 hp a W ha hS
    subst hp
    unfold wpListIn at this ⊢
    rw [if_pos (by simp [Region.wanted])] at this
    rw [if_pos (by simp [Region.wanted, hy])]
    exact this
  · have hp' : p = !b := by cases p <;> cases b <;> simp_all
    have hw : Region.wanted ⟨some d, op, ty, pos, af, some (j, b)⟩ (yielded ops a.tmps) = false := by simp [Region.wanted, hy, hp]
    unfold wpListIn
    rw [if_neg (by simp [hw])]
    exact ⟨fun _ _ => trivial, h0 hp' _ _ (ha.put hN) hS⟩
theorem gi_do {j : Nat} {b p : Bool} {t : Nat} {oj : Oper}
    (hj : ops[j]? = some oj) (ht : oj.dst = some t) (hN : Nat.blt d N = true) (htN : Nat.blt t N = true) (hv : σ t = .bool p) (hp : p = b)
    (h : GI P ops Q N (⟨some d, op, ty, pos, af, none⟩ :: rest) σ S) : GI P ops Q N (⟨some d, op, ty, pos, af, some (j, b)⟩ :: rest) σ S :=
  gi_if hj ht hN htN hv (fun _ => h) (fun h0 => by subst hp; cases p <;> cases h0)
theorem gi_no {j : Nat} {b p : Bool} {t : Nat} {oj : Oper}
    (hj : ops[j]? = some oj) (ht : oj.dst = some t) (hN : Nat.blt d N = true) (htN : Nat.blt t N = true) (hv : σ t = .bool p) (hp : p = !b)
    (h : GI P ops Q N rest (up σ d undef) S) : GI P ops Q N (⟨some d, op, ty, pos, af, some (j, b)⟩ :: rest) σ S :=
  gi_if hj ht hN htN hv (fun h0 => by subst hp; cases b <;> cases h0) (fun _ => h)
/-- A call of yield. -/
theorem gi_yield {ι : Type} {L : Nat} {x : Operand} {xs : Array Operand} {ts : Array TypeId} {args : List Value} {S' : ι → Sta} (hN : Nat.blt d N = true) (hx : ev σ x = .func (.yield L) #[] #[]) (hargs : xs.toList.map (ev σ) = args)
    (hY : ∀ W, S.ok W → YieldAt Fence.wide 0 P L args.toArray W fun e W' => e = .returned (.bool true) ∧ ∃ i, (S' i).ok W') (h : ∀ i, GI P ops Q N rest (up σ d (.bool true)) (S' i)) :
    GI P ops Q N (⟨some d, .call ⟨.value x, xs, ts⟩, ty, pos, af, none⟩ :: rest) σ S := by
  intro a W ha hS
  refine wpListIn_plain rfl fun K hK => ?_
  obtain ⟨fn, tmps, asg, bd, hy, hR⟩ := hY W hS
  have hargs' : xs.map (ev σ) = args.toArray := by rw [← hargs, ← Array.toList_map, Array.toArray_toList]
  have hrun : (execOp (ev σ) ⟨some d, .call ⟨.value x, xs, ts⟩, ty, pos, af, none⟩).run P W = .ok (.round L fn tmps asg bd) W := by
    simp [execOp, resolve, Deferred.ofValue, invoke, hx, hargs', hy]
  refine ⟨fun _ _ => trivial, ?_⟩
  rw [Fence.wide_round, Oper.semAt_none, ha.ev, hrun, Oper.uponIn_round]
  refine ⟨(fun h => by cases h), hR.mono ?_⟩
  rintro e W' ⟨rfl, i, hS'⟩
  exact hK _ _ (h i _ _ (ha.put hN) hS')
end
/-! ### A round -/
theorem but_putObj (W : World) (g : Nat) (o : Obj) : But (some g) W (W.putObj g o) :=
  ⟨rfl, rfl, rfl, by simp, fun k _ hk => World.putObj_heap_other (fun e => hk (by rw [e])), Nat.le_refl _⟩
theorem Sta.ok.put {w0 : World} {M : Nat → Prop} {H : List (Nat × Nat × Obj)} {R : List (Nat × Row)} {φ : World → Prop} {t g : Nat} {o o' : Obj} {W : World} (h : (Sta.mk w0 M H R φ).ok W) (hf : fH t H = some (g, o)) : (Sta.mk w0 M (uH t o' H) R φ).ok (W.putObj g o') :=
  h.upd hf (but_putObj W g o') (World.putObj_heap_same (blk_lt (h.has _ (fH_mem hf)).2))
section
variable {P : Program} {N : Nat} {σ σ0 σ1 : Fr} {w0 : World} {M : Nat → Prop} {H H' : List (Nat × Nat × Obj)} {R R' : List (Nat × Row)} {φ : World → Prop}
/-- The loop's record. -/
def recL (f : FuncId) (tmps : Array Value) (ps : Array Tmp) (assign body : Code) (D : Nat) (s : LoopState) : Obj := .loop { state := s, pending := none, fn := f, tmps := tmps, params := ps, assign := assign, body := body, defers := D }
/-- A round, of the walks of the loop's assignment and of its body. -/
theorem round_of {ι : Type} {f : FuncId} {tmps : Array Value} {ps : Array Tmp} {D L tL i1 i2 b : Nat} {l1 l2 : List Oper} {args : Array Value} {S' : ι → Sta}
    (hf : fH tL H = some (L, recL f tmps ps (.region i1 l1.toArray false) (.block b (.region i2 l2.toArray false)) D .ready)) (hps : args.size = ps.size)
    (ha : Okf { tmps := (ps.zip args).foldl (fun t (p, v) => t.setIfInBounds p v) tmps, defers := [] } σ0 ⟨N, []⟩)
    (hd1 : ∀ o ∈ l1, ∀ c, o.op ≠ .defer c) (hd2 : ∀ o ∈ l2, ∀ c, o.op ≠ .defer c)
    (h1 : ∀ Q, DD Q ⟨N, []⟩ .normal σ1 ⟨w0, M, H, R, φ⟩ → G P l1.toArray Q ⟨N, []⟩ l1 σ0 ⟨w0, M, H, R, φ⟩)
    (h2 : ∀ Q, (∀ i σ2, DD Q ⟨N, []⟩ .normal σ2 (S' i)) → G P l2.toArray Q ⟨N, []⟩ l2 σ1 ⟨w0, M, uH tL (recL f tmps ps (.region i1 l1.toArray false) (.block b (.region i2 l2.toArray false)) D .busy) H, R, φ⟩)
    (hS' : ∀ i W, (S' i).ok W → W.heap[L]? = some (recL f tmps ps (.region i1 l1.toArray false) (.block b (.region i2 l2.toArray false)) D .busy)) :
    ∀ W, (Sta.mk w0 M H R φ).ok W → YieldAt Fence.wide 0 P L args W fun e W' => e = .returned (.bool true) ∧ ∃ i W1, (S' i).ok W1 ∧ W' = W1.putObj L (recL f tmps ps (.region i1 l1.toArray false) (.block b (.region i2 l2.toArray false)) D .ready) := by
  intro W hS
  have hL := (hS.has _ (fH_mem hf)).2
  refine ⟨_, _, _, _, run_yield hL hps, ?_⟩
  refine roundIn_of_wpIn trivial (wpIn_region_lit (list_in (wideish_round P L) (fun a w h => h) _ _ _ hd1 (h1 _ ?_ _ W ha hS)))
  intro a1 W1 ha1 hS1
  have hL1 := (hS1.has _ (fH_mem hf)).2
  refine ⟨_, run_beginRound hL1 rfl, ?_⟩
  have hS2 := hS1.put (o' := recL f tmps ps (.region i1 l1.toArray false) (.block b (.region i2 l2.toArray false)) D .busy) hf
  refine wpIn_block (wpIn_region_lit (list_in (wideish_round P L) (fun a w h => h) _ _ _ hd2 (h2 _ ?_ a1 _ ha1 hS2)))
  intro i σ2 a3 W3 ha3 hS3
  have hL3 := hS' i W3 hS3
  exact ⟨_, _, run_endRound none hL3, rfl, i, W3, hS3, rfl⟩
end
/-! ### The statement -/
section
variable {P : Program} {Q : Exit → Act → World → Prop} {n : Nat} {σ : Fr} {w0 : World} {M : Nat → Prop} {H : List (Nat × Nat × Obj)} {R : List (Nat × Row)} {φ : World → Prop}
def markD (D : Nat) : Deferred := { target := .collected D, args := #[] }
/-- 'for .. := range g': the record is laid, g's function is called, the record is done with. -/
theorem c_range {ι : Type} {tD tL : Nat} {g : Operand} {ps : Array Tmp} {assign body : Code} {gf : Nat} {lb : Array Value} {H' : ι → Nat → List (Nat × Nat × Obj)} {R' : ι → List (Nat × Row)}
    (hg : ev σ g = .func (.func gf) #[] lb) (hf : ∀ (args : Array Value) (W : World), (callFunc gf args).run P W = .ok (.enter gf args) W)
    (hc : ∀ f tmps D L W, Okf { tmps := tmps, defers := [] } σ ⟨n, []⟩ → (Sta.mk w0 M ((tL, L, recL f tmps ps assign body D .ready) :: (tD, D, .deferred (some [])) :: H) R φ).ok W →
      Calls P gf (#[.func (.yield L) #[] #[]] ++ lb) W fun e W' => ∃ v i, e = .returned v ∧ (Sta.mk w0 M ((tL, L, recL f tmps ps assign body D .ready) :: (tD, D, .deferred (some [])) :: H' i D) (R' i) φ).ok W')
    (h : ∀ i D, DD Q ⟨n, [markD D]⟩ .normal σ ⟨w0, M, (tD, D, .deferred (some [])) :: H' i D, R' i, φ⟩) : CC P Q ⟨n, []⟩ (.rangeFunc g ps assign body) σ ⟨w0, M, H, R, φ⟩ := by
  intro a W ha hS
  refine (wpIn_wide (n := 0)).1 (wpIn_rangeFunc fun fn _ => ?_)
  have hD := hS.alloc tD (.deferred (some []))
  have hL := hD.alloc tL (recL fn a.tmps ps assign body W.heap.size .ready)
  have hsz : (W.alloc (.deferred (some []))).heap.size = W.heap.size + 1 := World.size_alloc _ _
  rw [hsz] at hL
  refine ⟨W.heap.size + 1, [markD W.heap.size], (W.alloc (.deferred (some []))).alloc (recL fn a.tmps ps assign body W.heap.size .ready), { target := .fn (.func gf) lb, args := #[.func (.yield (W.heap.size + 1)) #[] #[]] }, (W.alloc (.deferred (some []))).alloc (recL fn a.tmps ps assign body W.heap.size .ready), gf,
    #[.func (.yield (W.heap.size + 1)) #[] #[]] ++ lb, (W.alloc (.deferred (some []))).alloc (recL fn a.tmps ps assign body W.heap.size .ready), run_enterLoop_outer _ _ _ _ _, ?_, fun _ _ => trivial, ?_, (fun h => by cases h), ?_⟩
  · simp only [resolve, ha.ev, hg]
    simp [go_sem]
    rfl
  · simp [invoke, go_sem, hf]
  · have ha' : Okf { tmps := a.tmps, defers := [] } σ ⟨n, []⟩ := ⟨rfl, ha.sz, ha.at_⟩
    refine callsIn_wide.2 ((hc fn a.tmps W.heap.size (W.heap.size + 1) _ ha' hL).mono ?_)
    rintro e W' ⟨v, i, rfl, hok⟩
    have hl := (hok.has (tL, W.heap.size + 1, recL fn a.tmps ps assign body W.heap.size .ready) (by simp)).2
    refine ⟨none, _, run_endLoop hl (fun h => by cases h), ?_⟩
    have hok2 := hok.put (t := tL) (o' := .loop { state := .exhausted, pending := none, fn := fn, tmps := a.tmps, params := ps, assign := assign, body := body, defers := W.heap.size }) (g := W.heap.size + 1) (o := recL fn a.tmps ps assign body W.heap.size .ready) (by simp [fH])
    have hok3 := hok2.dropH (t := tL) (g := W.heap.size + 1) (o := .loop { state := .exhausted, pending := none, fn := fn, tmps := a.tmps, params := ps, assign := assign, body := body, defers := W.heap.size }) (by simp [uH, fH])
    have e : dH tL (uH tL (.loop { state := .exhausted, pending := none, fn := fn, tmps := a.tmps, params := ps, assign := assign, body := body, defers := W.heap.size }) ((tL, W.heap.size + 1, recL fn a.tmps ps assign body W.heap.size .ready) :: (tD, W.heap.size, .deferred (some [])) :: H' i W.heap.size)) = (tD, W.heap.size, .deferred (some [])) :: H' i W.heap.size := by simp [uH, dH]
    rw [e] at hok3
    exact h i W.heap.size _ _ ⟨by simp [markD, ha.dz], ha.sz, ha.at_⟩ hok3
/-- A function that holds such a statement. -/
theorem cn_introM {ι : Type} {N : Nat} {f : FuncId} {fn : Func} {c : Code} {args : Array Value} {S : Sta} {rv : ι → Value} {pure : ι → Prop} {S' : ι → Sta}
    (hf : P.funcs[f]? = some fn) (hb : fn.body = some c) (hn : fn.ntmps = N) (hN : Nat.ble args.size N = true)
    (h : CC P (bodyPostM Fence.wide 0 P fn fun e W => ∃ x : ι, e = .returned (rv x) ∧ pure x ∧ (S' x).ok W) ⟨N, []⟩ c (fun t => args.getD t undef) S) : Cn P f args S rv pure S' := by
  subst hn
  intro W hS
  refine callsIn_wide.1 (callsIn_of_wp_marks (n := 0) hf hb trivial ((wpIn_wide (n := 0)).2 (h _ W (Okf.start args _ _ ?_) hS)) rfl)
  have := Nat.le_of_ble_eq_true hN
  omega
theorem d_retM {ι : Type} {N : Nat} {S : Sta} {e : Exit} {fn : Func} {tD D : Nat} {rv : ι → Value} {pure : ι → Prop} {S' : ι → Sta} {rs : List ResultVar} (x : ι)
    (hr : fn.results = rs.toArray) (hRv : Res P σ S.H rs (fun vs => oneOf vs = rv x)) (hp : pure x) (hD : fH tD S.H = some (D, .deferred (some []))) (hres : ∀ r ∈ rs, ∃ t, r = .tmp t)
    (hS' : ∀ W, (Sta.mk S.w0 S.M (dH tD S.H) S.R S.φ).ok W → (S' x).ok W) (he : e = .normal ∨ e = .ret) :
    DD (bodyPostM Fence.wide 0 P fn fun e W => ∃ x : ι, e = .returned (rv x) ∧ pure x ∧ (S' x).ok W) ⟨N, [markD D]⟩ e σ S := by
  obtain ⟨vs, hR, hv⟩ := hRv
  intro a W ha hS
  have hb := (hS.has _ (fH_mem hD)).2
  have hput : (Sta.mk S.w0 S.M (uH tD (.deferred none) S.H) S.R S.φ).ok (W.putObj D (.deferred none)) := Sta.ok.put (o' := .deferred none) hS hD
  have hfe : fH tD (uH tD (.deferred none) S.H) = some (D, .deferred none) := by
    obtain ⟨l, r, h1, h2, _⟩ := uH_split (o' := .deferred none) hD
    clear hput hb hS hR
    revert hD
    generalize S.H = HH
    clear h1 h2
    intro hD
    induction HH with
    | nil => cases hD
    | cons p q ih =>
      unfold fH at hD
      cases hq : Nat.beq p.1 tD with
      | true => rw [hq] at hD; simp only [cond_true, Option.some.injEq] at hD; simp [uH, fH, hq, hD]
      | false => rw [hq] at hD; simp only [cond_false] at hD; simp only [uH, hq, cond_false, fH]; exact ih hD
  have hdrop := hput.dropH hfe
  have hdd : dH tD (uH tD (.deferred none) S.H) = dH tD S.H := by
    generalize S.H = HH
    induction HH with
    | nil => rfl
    | cons p q ih =>
      cases hq : Nat.beq p.1 tD with
      | true => simp [uH, dH, hq]
      | false => simp [uH, dH, hq, ih]
  rw [hdd] at hdrop
  have hrun : (results fn a.tmps).run P (W.putObj D (.deferred none)) = .ok (oneOf vs) (W.putObj D (.deferred none)) := by
    refine results_run hr ?_
    clear hv hr
    induction rs generalizing vs with
    | nil => cases vs with
      | nil => trivial
      | cons => exact hR.elim
    | cons r rs ih =>
      obtain ⟨t, rfl⟩ := hres r (by simp)
      cases vs with
      | nil => exact hR.elim
      | cons v vs => exact ⟨(ha.at_ t).trans hR.1, ih (fun r hr => hres r (by simp [hr])) vs hR.2⟩
  have key : LeavesInM Fence.wide 0 P fn a.tmps (fun e W => ∃ x : ι, e = .returned (rv x) ∧ pure x ∧ (S' x).ok W) a.defers .returning W := by
    rw [ha.dz]
    refine ⟨by simp, .inl ⟨D, _, rfl, run_takeDeferred hb, ?_⟩⟩
    exact ⟨_, hrun, x, by rw [hv], hp, hS' _ hdrop⟩
  rcases he with rfl | rfl <;> exact key
end
end Go.Proofs.YtkmkpodioedlfaaDoor
