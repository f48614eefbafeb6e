/-
  Rules for walks that a program writes: contracts that turn states, facts behind a name, rows of elements (own work).
-/
import Derived.Test.YtkmkpodioedlfaaDoorSA
import Derived.Test.YtkmkpodioedlfaaDoorSB
import Derived.Test.YtkmkpodioedlfaaDoorMP
import Derived.Laws.StructEq
set_option linter.unusedVariables false
set_option linter.unusedSimpArgs false
namespace Go.Proofs.YtkmkpodioedlfaaDoor
open Go.RowKit Go.Lib Go.Proofs.YtkmkpodioedlfaaDoorW.PrintLast
/-! ### Elements in cells -/
section
variable {α : Type} {enc : α → List Value} {sz : Nat}
theorem fm_length (hsz : ∀ a, (enc a).length = sz) (l : List α) : (l.flatMap enc).length = l.length * sz := by
  induction l with
  | nil => simp
  | cons a l ih => simp only [List.flatMap_cons, List.length_append, List.length_cons, ih, hsz, Nat.succ_mul]; omega
theorem fm_drop (hsz : ∀ a, (enc a).length = sz) (l : List α) (i : Nat) : (l.flatMap enc).drop (i * sz) = (l.drop i).flatMap enc := by
  induction l generalizing i with
  | nil => simp
  | cons a l ih =>
    cases i with
    | zero => simp
    | succ i =>
      rw [List.flatMap_cons, Nat.succ_mul, List.drop_append, List.drop_eq_nil_of_le (by rw [hsz]; omega), List.nil_append, hsz, Nat.add_sub_cancel, ih, List.drop_succ_cons]
theorem fm_take (hsz : ∀ a, (enc a).length = sz) (l : List α) (i : Nat) : (l.flatMap enc).take (i * sz) = (l.take i).flatMap enc := by
  induction l generalizing i with
  | nil => simp
  | cons a l ih =>
    cases i with
    | zero => simp
    | succ i =>
      rw [List.flatMap_cons, Nat.succ_mul, List.take_append, List.take_of_length_le (by rw [hsz]; omega), hsz, Nat.add_sub_cancel, ih, List.take_succ_cons, List.flatMap_cons]
theorem fm_one (h1 : ∀ a, one1 (enc a) = true) (l : List α) : ∀ u ∈ l.flatMap enc, u.oneCell' = true := by
  intro u hu
  obtain ⟨a, _, ha⟩ := List.mem_flatMap.1 hu
  exact one1_mem (h1 a) u ha
theorem fm_map {f : α → Value} (l : List α) : l.flatMap (fun a => [f a]) = l.map f := by
  induction l with
  | nil => rfl
  | cons a l ih => rw [List.flatMap_cons, ih]; rfl
theorem Cl.head {W : World} {ad : Addr} {v : Value} {r : List Value} (h : Cl W (some ad) (v :: r)) : W.cell? ad = some v := by
  have := h.cells 0 v rfl
  simpa [Addr.add] using this
theorem cl_at {W0 : World} {p : World → Prop} {A : Option Addr} {l : List α} (hsz : ∀ a, (enc a).length = sz) (hpos : 0 < sz) (hp : p W0) (h : ∀ W, p W → Cl W A (l.flatMap enc)) {i : Int} {v : α} (hat : at_ l i = some v) : ∃ ad, A = some ad ∧ ∀ W, p W → Cl W (some (ad.add (i.toNat * sz))) (enc v) := by
  obtain ⟨h0, h1, h2⟩ := at_some hat
  obtain ⟨hi, hv⟩ := List.getElem?_eq_some_iff.1 h2
  have hlen : 0 < (l.flatMap enc).length := by rw [fm_length hsz]; exact Nat.mul_pos (by omega) hpos
  obtain ⟨ad, rfl⟩ := (h W0 hp).is_some hlen
  refine ⟨ad, rfl, fun W hW => ?_⟩
  have h3 := (h W hW).drop (i.toNat * sz)
  rw [fm_drop hsz, List.drop_eq_getElem_cons hi, List.flatMap_cons, hv] at h3
  exact h3.pre
end
/-! ### Contracts that turn states -/
def Cn {ι : Type} (P : Program) (f : FuncId) (args : Array Value) (S : Sta) (rv : ι → Value) (pure : ι → Prop) (S' : ι → Sta) : Prop :=
  ∀ W, S.ok W → Calls P f args W fun e W' => ∃ x : ι, e = .returned (rv x) ∧ pure x ∧ (S' x).ok W'
theorem ok_pre {w0 : World} {M : Nat → Prop} {H1 H : List (Nat × Nat × Obj)} {R1 R : List (Nat × Row)} {φ φ2 : World → Prop} {W : World} (h : (Sta.mk w0 M (H1 ++ H) (R1 ++ R) φ2).ok W) (hi : ∀ W, φ2 W → φ W) : (Sta.mk w0 M H R φ).ok W where
  below := h.below
  old := h.old
  has := fun p hp => h.has p (List.mem_append_right _ hp)
  apartH := (List.pairwise_append.1 h.apartH).2.1
  rows := fun r hr => h.rows r (List.mem_append_right _ hr)
  apartR := (List.pairwise_append.1 h.apartR).2.1
  apart := fun r hr p hp => h.apart r (List.mem_append_right _ hr) p (List.mem_append_right _ hp)
  fact := fun W' hW => hi _ (h.fact W' fun k hk hn => hW k hk (fun hm => hn (by
    rcases hm with hm | ⟨p, hp, hk2⟩ | ⟨r, hr, hk2⟩
    · exact .inl hm
    · exact .inr (.inl ⟨p, List.mem_append_right _ hp, hk2⟩)
    · exact .inr (.inr ⟨r, List.mem_append_right _ hr, hk2⟩))))
/-- A block, a row, told ahead of the others. -/
theorem ok_front {w0 : World} {M : Nat → Prop} {H : List (Nat × Nat × Obj)} {R : List (Nat × Row)} {φ : World → Prop} {W : World} {t t' g : Nat} {o : Obj} (h : (Sta.mk w0 M H R φ).ok W) (hf : fH t H = some (g, o)) : (Sta.mk w0 M ((t', g, o) :: dH t H) R φ).ok W := by
  obtain ⟨l, r, h1, _, h3⟩ := uH_split (o' := o) hf
  have hap := h.apartH
  rw [h1] at hap
  have hin : (t, g, o) ∈ H := by rw [h1]; simp
  have hsub : ∀ p, p ∈ l ++ r → p ∈ H := fun p hp => by rw [h1]; rcases List.mem_append.1 hp with hp | hp; exact List.mem_append_left _ hp; exact List.mem_append_right _ (List.mem_cons_of_mem _ hp)
  have hne : ∀ p ∈ l ++ r, p.2.1 ≠ g := by
    intro p hp
    rw [List.pairwise_append, List.pairwise_cons] at hap
    rcases List.mem_append.1 hp with hp | hp
    · exact hap.2.2 p hp _ List.mem_cons_self
    · exact fun e => hap.2.1.1 p hp e.symm
  simp only [h3]
  refine ⟨h.below, h.old, ?_, ?_, h.rows, h.apartR, ?_, ?_⟩
  · intro p hp
    rcases List.mem_cons.1 hp with rfl | hp
    · have := h.has (t, g, o) hin; exact this
    · exact h.has p (hsub p hp)
  · exact List.pairwise_cons.2 ⟨fun q hq => (hne q hq).symm, pw_drop hap⟩
  · intro r' hr' p hp
    rcases List.mem_cons.1 hp with rfl | hp
    · exact h.apart r' hr' (t, g, o) hin
    · exact h.apart r' hr' p (hsub p hp)
  · intro W' hW
    refine h.fact W' fun k hk hn => hW k hk fun hm => hn ?_
    rcases hm with hm | ⟨p, hp, hk2⟩ | hm
    · exact .inl hm
    · rcases List.mem_cons.1 hp with rfl | hp
      · exact .inr (.inl ⟨_, hin, hk2⟩)
      · exact .inr (.inl ⟨p, hsub p hp, hk2⟩)
    · exact .inr (.inr hm)
theorem ok_frontR {w0 : World} {M : Nat → Prop} {H : List (Nat × Nat × Obj)} {R : List (Nat × Row)} {φ : World → Prop} {W : World} {t t' : Nat} {o : Row} (h : (Sta.mk w0 M H R φ).ok W) (hf : fR t R = some o) : (Sta.mk w0 M H ((t', o) :: dR t R) φ).ok W := by
  obtain ⟨l, r, h1, _, h3⟩ := uR_split (o' := o) hf
  have hap := h.apartR
  rw [h1] at hap
  have hin : (t, o) ∈ R := by rw [h1]; simp
  have hsub : ∀ p, p ∈ l ++ r → p ∈ R := fun p hp => by rw [h1]; rcases List.mem_append.1 hp with hp | hp; exact List.mem_append_left _ hp; exact List.mem_append_right _ (List.mem_cons_of_mem _ hp)
  simp only [h3]
  refine ⟨h.below, h.old, h.has, h.apartH, ?_, ?_, ?_, ?_⟩
  · intro p hp
    rcases List.mem_cons.1 hp with rfl | hp
    · have := h.rows (t, o) hin; exact this
    · exact h.rows p (hsub p hp)
  · refine List.pairwise_cons.2 ⟨fun q hq k hk hk2 => ?_, pw_drop hap⟩
    rw [List.pairwise_append, List.pairwise_cons] at hap
    rcases List.mem_append.1 hq with hq | hq
    · exact hap.2.2 q hq _ List.mem_cons_self k hk2 hk
    · exact hap.2.1.1 q hq k hk hk2
  · intro r' hr' p hp
    rcases List.mem_cons.1 hr' with rfl | hr'
    · exact h.apart (t, o) hin p hp
    · exact h.apart r' (hsub r' hr') p hp
  · intro W' hW
    refine h.fact W' fun k hk hn => hW k hk fun hm => hn ?_
    rcases hm with hm | hm | ⟨p, hp, hk2⟩
    · exact .inl hm
    · exact .inr (.inl hm)
    · rcases List.mem_cons.1 hp with rfl | hp
      · exact .inr (.inr ⟨_, hin, hk2⟩)
      · exact .inr (.inr ⟨p, hsub p hp, hk2⟩)
section
variable {P : Program} {ops : Array Oper} {Q : Exit → Act → World → Prop} {N : FS} {d : Nat} {σ : Fr} {S : Sta} {rest : List Oper} {ty t : TypeId} {pos : String} {af : Array Edge} {x y : Operand} {k : IntKind} {w0 : World} {M : Nat → Prop} {H : List (Nat × Nat × Obj)} {R : List (Nat × Row)} {φ : World → Prop} {c : Code} {e : Exit}
theorem cn_intro {N : Nat} {ι : Type} {f : FuncId} {fn : Func} {args : Array Value} {rv : ι → Value} {pure : ι → Prop} {S' : ι → Sta}
    (hf : P.funcs[f]? = some fn) (hb : fn.body = some c) (hn : fn.ntmps = N) (hN : Nat.ble args.size N = true)
    (h : CC P (bodyPost P fn fun e W => ∃ x : ι, e = .returned (rv x) ∧ pure x ∧ (S' x).ok W) ⟨N, []⟩ c (fun t => args.getD t undef) S) : Cn P f args S rv pure S' := by
  subst hn
  intro W hS
  refine calls_of_wp hf hb (h _ W (Okf.start args _ _ ?_) hS)
  have := Nat.le_of_ble_eq_true hN
  omega
theorem d_retC {N : Nat} {ι : Type} {fn : Func} {rv : ι → Value} {pure : ι → Prop} {S' : ι → Sta} {rs : List ResultVar} (x : ι)
    (hr : fn.results = rs.toArray) (hRv : Res P σ S.H rs (fun vs => oneOf vs = rv x)) (hp : pure x) (hS' : ∀ W, S.ok W → (S' x).ok W) (he : e = .normal ∨ e = .ret) :
    DD (bodyPost P fn fun e W => ∃ x : ι, e = .returned (rv x) ∧ pure x ∧ (S' x).ok W) ⟨N, []⟩ e σ S := by
  obtain ⟨vs, hR, hv⟩ := hRv
  intro a W ha hS
  have : a.defers = [] ∧ ∃ v, (results fn a.tmps).run P W = .ok v W ∧ ∃ x : ι, Ending.returned v = .returned (rv x) ∧ pure x ∧ (S' x).ok W :=
    ⟨ha.dz, _, results_run hr (rto_runs ha (fun p hp => (hS.has p hp).2) rs vs hR), x, by rw [hv], hp, hS' W hS⟩
  rcases he with rfl | rfl <;> exact this
theorem g_cn {ι : Type} {f : FuncId} {xs : Array Operand} {ts : Array TypeId} {args : List Value} {rv : ι → Value} {pure : ι → Prop} {S' : ι → Sta} (S1 : Sta) (hS1 : ∀ W, S.ok W → S1.ok W)
    (hf : ∀ (args : Array Value) (W : World), (callFunc f args).run P W = .ok (.enter f args) W) (hN : Nat.blt d N = true) (hargs : xs.toList.map (ev σ) = args)
    (hc : Cn P f args.toArray S1 rv pure S') (h : ∀ x, pure x → G P ops Q N rest (up σ d (rv x)) (S' x)) :
    G P ops Q N (⟨some d, .call ⟨.value (.func f), xs, ts⟩, ty, pos, af, none⟩ :: rest) σ S := by
  intro a W ha hS
  refine wpList_plain rfl fun K hK => ?_
  have hrun : (execOp (ev σ) ⟨some d, .call ⟨.value (.func f), xs, ts⟩, ty, pos, af, none⟩).run P W = .ok (.enter f args.toArray) W := by
    have hargs : xs.map (ev σ) = args.toArray := by rw [← hargs, ← Array.toList_map, Array.toArray_toList]
    simp [execOp, resolve, Deferred.ofValue, invoke, ev, hargs, hf]
  unfold Oper.wp
  rw [ha.ev, hrun, Oper.upon_enter]
  refine (hc W (hS1 W hS)).mono ?_
  rintro e W1 ⟨x, rfl, hp, hF⟩
  exact hK _ _ (h x hp _ _ (ha.put hN) hF)
/-- A call of a function value. -/
theorem g_cnv {ι : Type} {f : FuncId} {fx : Operand} {first caps : Array Value} {xs : Array Operand} {ts : Array TypeId} {args : List Value} {rv : ι → Value} {pure : ι → Prop} {S' : ι → Sta} (S1 : Sta) (hS1 : ∀ W, S.ok W → S1.ok W)
    (hf : ∀ (args : Array Value) (W : World), (callFunc f args).run P W = .ok (.enter f args) W) (hN : Nat.blt d N = true) (hfx : ev σ fx = .func (.func f) first caps) (hargs : first.toList ++ xs.toList.map (ev σ) ++ caps.toList = args)
    (hc : Cn P f args.toArray S1 rv pure S') (h : ∀ x, pure x → G P ops Q N rest (up σ d (rv x)) (S' x)) :
    G P ops Q N (⟨some d, .call ⟨.value fx, xs, ts⟩, ty, pos, af, none⟩ :: rest) σ S := by
  intro a W ha hS
  refine wpList_plain rfl fun K hK => ?_
  have hrun : (execOp (ev σ) ⟨some d, .call ⟨.value fx, xs, ts⟩, ty, pos, af, none⟩).run P W = .ok (.enter f args.toArray) W := by
    have hargs : first ++ xs.map (ev σ) ++ caps = args.toArray := by
      subst hargs
      apply Array.ext'
      simp
    simp [execOp, resolve, Deferred.ofValue, invoke, hfx, ← hargs, hf]
  unfold Oper.wp
  rw [ha.ev, hrun, Oper.upon_enter]
  refine (hc W (hS1 W hS)).mono ?_
  rintro e W1 ⟨x, rfl, hp, hF⟩
  exact hK _ _ (h x hp _ _ (ha.put hN) hF)
/-! ### Operations -/
theorem r_ld {ad : Addr} {v : Value} (hx : ev σ x = .pointer (some ad)) (ha : ∀ W, (isAgg t).run P W = .ok false W) (hc : ∀ W, S.ok W → W.cell? ad = some v) : Rn P σ S (.load t x) ty v :=
  fun W hS => by
    have hc := hc W hS
    have ha' := ha W
    simp [execOp, Instr.loadAt, Instr.sureAddr, hx, loadVar, ha', load, Sem.run, hc]
theorem bytes_eq_iff {a b : ByteArray} : (a.toList == b.toList) = decide (a = b) := by
  have hl : ∀ a : ByteArray, a.toList = a.data.toList := ByteArray.toList_eq
  rw [hl, hl]
  by_cases h : a = b
  · subst h; simp
  · have : ¬ a.data.toList = b.data.toList := fun he => h (by cases a; cases b; simp only [ByteArray.mk.injEq]; exact Array.toList_inj.1 he)
    rw [decide_eq_false h]
    exact beq_eq_false_iff_ne.2 this
theorem r_eqlT {a b : ByteArray} (hx : ev σ x = .string a) (hy : ev σ y = .string b) {t' : TypeId} : Rn P σ S (.binOp .eql t x y t') ty (.bool (decide (a = b))) := by rw [← bytes_eq_iff]; exact r_eqlS hx hy
theorem r_addT {a b r : ByteArray} (hx : ev σ x = .string a) (hy : ev σ y = .string b) (h : sadd a b = some r) {t' : TypeId} : Rn P σ S (.binOp .add t x y t') ty (.string r) := by
  obtain ⟨h1, rfl⟩ := sadd_some h
  exact r_addS hx hy h1
theorem r_sat {a : ByteArray} {i v : Int} (hu : P.underlying t = some .string) (hx : ev σ x = .string a) (hy : ev σ y = .int k i) (h : sat_ a i = some v) : Rn P σ S (.index t x y) ty (.int .u8 v) := by
  obtain ⟨h0, h1, rfl⟩ := sat_some h
  exact r_at hu hx hy h0 h1
theorem r_scutHi {s r : ByteArray} {j : Int} {hi : Operand} (hu : P.underlying t = some .string) (hx : ev σ x = .string s) (hh : ev σ hi = .int k j) (h : scutHi s j = some r) : Rn P σ S (.slice t x none (some hi) none) ty (.string r) := by
  obtain ⟨h0, h1, rfl⟩ := scutHi_some h
  exact r_cutSHi hu hx hh h0 h1
theorem r_scutLo {s r : ByteArray} {j : Int} {lo : Operand} (hu : P.underlying t = some .string) (hx : ev σ x = .string s) (hh : ev σ lo = .int k j) (h : scutLo s j = some r) : Rn P σ S (.slice t x (some lo) none none) ty (.string r) := by
  obtain ⟨h0, h1, rfl⟩ := scutLo_some h
  exact r_cutSLo hu hx hh h0 h1
theorem r_scutMid {s r : ByteArray} {i j : Int} {lo hi : Operand} {k' : IntKind} (hu : P.underlying t = some .string) (hx : ev σ x = .string s) (hlo : ev σ lo = .int k' i) (hh : ev σ hi = .int k j) (h : scutMid s i j = some r) : Rn P σ S (.slice t x (some lo) (some hi) none) ty (.string r) := by
  obtain ⟨h0, h1, h2, rfl⟩ := scutMid_some h
  exact r_cutS hu hx hlo hh h0 h1 h2
section
variable {α : Type} {l r : List α} {A : Option Addr} {cc sz : Nat} {i j : Int} {e : TypeId}
theorem r_ix {v : α} {ad : Addr} (hu : P.underlying t = some (.slice e)) (hs : ∀ W, (sizeOf e).run P W = .ok sz W) (hx : ev σ x = .slice A l.length cc) (hA : A = some ad) (hy : ev σ y = .int k i) (hat : at_ l i = some v) : Rn P σ S (.indexAddr t x y) ty (.pointer (some (ad.add (i.toNat * sz)))) :=
  r_elem hu hs hx hA hy (at_lo hat) (at_hi hat)
end
end
section
variable {P : Program} {ops : Array Oper} {Q : Exit → Act → World → Prop} {N : FS} {d : Nat} {σ : Fr} {S : Sta} {rest : List Oper} {ty t : TypeId} {pos : String} {af : Array Edge} {x y : Operand} {k : IntKind} {w0 : World} {M : Nat → Prop} {H : List (Nat × Nat × Obj)} {R : List (Nat × Row)} {φ : World → Prop} {c : Code} {e : Exit} {p q r : Int}
/-- Ways meet: what came is told again. -/
theorem c_cut {ι : Type} {a : Code} (L : List Nat) (us : ι → List (Nat × Value)) (T : ι → Sta) (I : ι → Prop)
    (h1 : CC P (Exit.then (Round N L (fun s => upL (us s) σ) T I (fun _ => 0) 1) Q) N a σ S) (h2 : ∀ s u, I s → DD Q N .normal (mix L (upL (us s) σ) u) (T s)) : CC P Q N a σ S := by
  intro ac W ha hS
  refine wp_mono (h1 ac W ha hS) ?_
  intro e a' W' hq
  cases e with
  | normal =>
    obtain ⟨s, u, hI, _, ha', hT⟩ := hq
    exact h2 s u hI a' W' ha' hT
  | exit id => exact hq
  | goto l => exact hq
  | ret => exact hq
  | panic ch => exact hq
  | outgrown => exact hq
theorem r_nilck {g : Addr} (hx : ev σ x = .pointer (some g)) : Rn P σ S (.nilCheck x) ty (.pointer (some g)) := fun W _ => by simp [execOp, hx]
theorem r_mkf {f : Fn} {first captured : Array Operand} {vs ws : Array Value} (h : (first.toList.map (ev σ), captured.toList.map (ev σ)) = (vs.toList, ws.toList)) : Rn P σ S (.makeFunc f first captured) ty (.func f vs ws) := fun W _ => by
  simp only [Prod.mk.injEq] at h
  have h1 : first.map (ev σ) = vs := by apply Array.ext'; rw [Array.toList_map]; exact h.1
  have h2 : captured.map (ev σ) = ws := by apply Array.ext'; rw [Array.toList_map]; exact h.2
  simp [execOp, Instr.makeFunc, h1, h2]
def orI (k : IntKind) (p q : Int) : Int := k.wrap ((BitVec.ofInt k.bits p ||| BitVec.ofInt k.bits q).toNat)
theorem r_bits_or (hx : ev σ x = .int k p) (hy : ev σ y = .int k q) {t' : TypeId} : Rn P σ S (.binOp .or t x y t') ty (.int k (orI k p q)) :=
  r_bin hx hy (fun W => by simp [eqGuard, binOp, Op.intBits, orI])
theorem nx_out {σ' ρ : Type} {step : σ' → Option (σ' ⊕ ρ)} {n : Nat} {e out : ρ} {o : σ' ⊕ ρ} {C : ρ → Prop} (h : some (.inr e) = some o) (hn : Nx step n out o) (hr : C out) : C e := nx_inr h hn ▸ hr
end
section
variable {P : Program} {ops : Array Oper} {Q : Exit → Act → World → Prop} {N : FS} {d : Nat} {σ : Fr} {S : Sta} {rest : List Oper} {ty t t' u : TypeId} {pos : String} {af : Array Edge} {x y : Operand} {k : IntKind} {w0 : World} {M : Nat → Prop} {H : List (Nat × Nat × Obj)} {R : List (Nat × Row)} {φ : World → Prop} {c : Code} {e : Exit} {p q r : Int}
def bytesI (s : ByteArray) : List Int := s.data.toList.map (fun b => (b.toNat : Int))
theorem bytesI_length (s : ByteArray) : (bytesI s).length = s.size := by unfold bytesI ByteArray.size; rw [List.length_map, Array.length_toList]
theorem bytesI_cells (s : ByteArray) : (bytesI s).flatMap (fun x : Int => [Value.int .u8 x]) = strCells s := by
  rw [fm_map]; unfold bytesI strCells; rw [List.map_map]; rfl
theorem run_append_str_at {w : World} (base : Nat) (t u ty e : TypeId) (i : TypeInfo) (ht : P.underlying t = some (.slice e)) (hu : P.underlying u = some .string) (hi : P.info? e = some i) (hz : i.zero = some (.int .u8 0))
    (hsize : i.size = 1) (hby : i.bytes = 1) (v : Value) (n : Nat) (xs : List Value) (hown : w.ownsRow base e 1 v n xs) (s : ByteArray)
    (h63 : n + s.size ≤ maxLen) (hbytes : n + s.size ≤ 140737488355328) (hbase : base ≤ w.heap.size) :
    ∃ v' w', (Builtin.append_ #[t, u] ty #[v, .string s]).run P w = .ok v' w' ∧ w'.ownsRow base e 1 v' (n + s.size) (xs ++ strCells s) ∧ w.grownBy w' v.ownBlock ∧ (∀ k, v'.ownBlock = some k → v.ownBlock = some k ∨ w.heap.size ≤ k) := by
  obtain ⟨v', w', hr, h2, h3, _⟩ := run_append_own_string (P := P) w base t u ty e i ht hu hi hz hsize hby v n xs hown s h63 hbytes hbase
  refine ⟨v', w', hr, h2, h3, ?_⟩
  have hsmall : n + s.size ≤ 9223372036854775807 := by simp only [maxLen] at h63; omega
  rcases hown.2 with ⟨rfl, rfl⟩ | ⟨g, cap, cur, rfl, hbg, hg, hnc, hcm, hcs, htake⟩
  · obtain ⟨v2, w2, hr2, h22, _, _⟩ := run_append_own_string (P := P) w w.heap.size t u ty e i ht hu hi hz hsize hby (.slice none 0 0) 0 [] (World.ownsRow_nil w _ e 1) s h63 hbytes (Nat.le_refl _)
    rw [hr] at hr2
    injection hr2 with hv hw
    subst hv hw
    exact fun k hk => .inr (own_lt h22 k hk).1
  · have hcs' : cur.size = cap := by simpa using hcs
    have hxl : xs.length = n := by simpa using hown.1
    by_cases hroom : n + s.size ≤ cap
    · have hr2 := run_append_room_string (P := P) w t u ty e i ht hu hi hsize g n cap cur hg s hroom (by omega)
      rw [hr] at hr2
      injection hr2 with hv hw
      subst hv
      exact fun k hk => .inl (by simpa [vblk, Value.ownBlock] using hk)
    · have holds : ∀ j u, xs[j]? = some u → w.cell? ((⟨g, 0, none⟩ : Addr).add j) = some u := hown.cells (g := g) rfl
      have hr2 := run_append_grow_string (P := P) w t u ty e i (.int .u8 0) ht hu hi hz ⟨g, 0, none⟩ n cap xs (by rw [hsize]; simpa using hxl) holds s (by omega) (by omega) (by rw [hby]; exact growslice_fits (by omega) (by omega))
      rw [hr] at hr2
      injection hr2 with hv hw
      subst hv
      exact fun k hk => .inr (by simp [vblk, Value.ownBlock] at hk; omega)
theorem r_min (hx : ev σ x = .int k p) (hy : ev σ y = .int k q) : Rn P σ S (.call ⟨.builtin .min, #[x, y], #[t, t']⟩) ty (.int k (min p q)) :=
  fun W _ => by
    have : (if q < p then q else p) = min p q := by split <;> omega
    simp [execOp, resolve, invoke, builtin, Builtin.min_, Builtin.min2, hx, hy, this]
theorem r_textE {A : Option Addr} {c : Nat} {e : TypeId} {xs : List Int} (hs : P.underlying t = some (.slice e)) (he : P.underlying e = some (.int .u8)) (hd : P.underlying u = some .string) (hx : ev σ x = .slice A xs.length c) (hc : ∀ W, S.ok W → Cl W A (xs.flatMap (fun x : Int => [Value.int .u8 x]))) : Rn P σ S (.convert t u x) ty (.string (strOfNums xs)) :=
  r_text hs he hd hx rfl (fun W hS => by have := hc W hS; rwa [fm_map] at this)
end
section
variable {P : Program} {N : FS} {d : Nat} {σ : Fr} {S : Sta} {ty t t' : TypeId} {x y : Operand} {w0 : World} {M : Nat → Prop} {H : List (Nat × Nat × Obj)} {R : List (Nat × Row)} {φ : World → Prop}
theorem run_eqP {e : TypeId} (hu : P.underlying t = some (.pointer e)) (d : Nat) (a : Addr) (W : World) : (Op.equalIn (d + 1) t (.pointer (some a)) (.pointer none)).run P W = .ok false W := by simp [Op.equalIn, run_underlying hu]
theorem run_eqP' {e : TypeId} (hu : P.underlying t = some (.pointer e)) (d : Nat) (W : World) : (Op.equalIn (d + 1) t (.pointer none) (.pointer none)).run P W = .ok true W := by simp [Op.equalIn, run_underlying hu]
theorem r_eqlP1 {e : TypeId} {a : Addr} (hu : P.underlying t = some (.pointer e)) (hx : ev σ x = .pointer (some a)) (hy : ev σ y = .pointer none) : Rn P σ S (.binOp .eql t x y t') ty (.bool false) :=
  r_bin hx hy (fun W => by simp only [eqGuard, binOp, Op.equal, show Op.maxDepth = 9999 + 1 from rfl]; simp [run_eqP hu])
theorem r_eqlP2 {e : TypeId} (hu : P.underlying t = some (.pointer e)) (hx : ev σ x = .pointer none) (hy : ev σ y = .pointer none) : Rn P σ S (.binOp .eql t x y t') ty (.bool true) :=
  r_bin hx hy (fun W => by simp only [eqGuard, binOp, Op.equal, show Op.maxDepth = 9999 + 1 from rfl]; simp [run_eqP' hu])
theorem con_of_cn {ι : Type} {f : FuncId} {args : Array Value} {w : World} {rv : ι → Value} {pure : ι → Prop} (hold : ∀ k, M k → k < w.heap.size) {S' : ι → Sta} (hF : Fact w M φ) (hS' : ∀ x, (S' x).w0 = w) (h : Cn P f args ⟨w, M, [], [], φ⟩ rv pure S') : Con P f args w M rv pure (fun _ _ => True) := by
  refine (h w ⟨Below.refl _ _, hF.old, by simp, by simp, by simp, by simp, by simp, fun W' hW => hF.all W' fun k hk hM => hW k hk ?_⟩).mono ?_
  · rintro (hm | ⟨p, hp, _⟩ | ⟨p, hp, _⟩)
    · exact hM hm
    · cases hp
    · cases hp
  · rintro e W1 ⟨x, rfl, hp, hok⟩
    have hb := hok.below
    rw [hS' x] at hb
    exact ⟨x, rfl, hp, ⟨fun k hk => Nat.lt_of_lt_of_le (hold k hk) hb.size, fun _ _ => trivial⟩, hb⟩
end
/-! ### Events, in regions that draw too -/
section
variable {P : Program} {ops : Array Oper} {Q : Exit → Act → World → Prop} {N : FS} {d : Nat} {σ : Fr} {S Sh : Sta} {rest : List Oper} {ty t t' u : TypeId} {pos : String} {af : Array Edge} {x y : Operand} {k : IntKind} {w0 : World} {M : Nat → Prop} {H : List (Nat × Nat × Obj)} {R : List (Nat × Row)} {φ : World → Prop} {ds : List Nat} {fuel : Nat} {l : Array Bool} {ι : Type} {i : Nat} {op : Op}
def Evt {ι : Type} (P : Program) (σ : Fr) (S : Sta) (op : Op) (ty : TypeId) (v : ι → Value) (pre : ι → Prop) (S' : ι → Sta) : Prop :=
  ∀ W, S.ok W → ∃ x W1, (execOp (ev σ) ⟨none, op, ty, "", #[], none⟩).run P W = .ok (.value (v x)) W1 ∧ pre x ∧ (S' x).ok W1
theorem g_e {v : ι → Value} {pre : ι → Prop} {S' : ι → Sta} (hN : Nat.blt d N = true) (E : Evt P σ S op ty v pre S') (h : ∀ x, pre x → G P ops Q N rest (up σ d (v x)) (S' x)) : G P ops Q N (⟨some d, op, ty, pos, af, none⟩ :: rest) σ S := by
  intro a W ha hS
  obtain ⟨x, W1, hrun, hp, hS1⟩ := E W hS
  refine wpList_plain rfl fun K hK => ?_
  unfold Oper.wp
  have hrun' : (execOp (ev σ) ⟨some d, op, ty, pos, af, none⟩).run P W = .ok (.value (v x)) W1 := hrun
  rw [ha.ev, hrun', Oper.upon_value]
  exact hK _ _ (h x hp _ _ (ha.put hN) hS1)
theorem ga_know (p : Prop) (hp : ∀ W, S.ok W → p) (h : p → GA P ops Q N Sh ds fuel l σ S) : GA P ops Q N Sh ds fuel l σ S := fun a W ha hS => h (hp W hS) a W ha hS
/-- One operation alone: an event. -/
theorem ga_e {v : ι → Value} {pre : ι → Prop} {S' : ι → Sta} (l' : Array Bool) (hi : ops[i]? = some ⟨some d, op, ty, pos, af, none⟩) (hc : readyB .any ops l l' i = true) (hd : i ∉ ds) (hN : Nat.blt d N = true)
    (E : Evt P σ S op ty v pre S') (hSh : ∀ x W, pre x → (S' x).ok W → Sh.ok W) (h : ∀ x, pre x → GA P ops Q N Sh ds fuel l' (up σ d (v x)) (S' x)) : GA P ops Q N Sh ds (fuel + 1) l σ S := by
  intro a W ha hS hh
  refine one_ (S := Sh.ok) l' hi rfl hc hd fun K hK => ?_
  rw [if_pos (by simp [Region.wanted])]
  obtain ⟨x, W1, hrun, hp, hS1⟩ := E W hS
  have hrun' : (execOp (ev σ) ⟨some d, op, ty, pos, af, none⟩).run P W = .ok (.value (v x)) W1 := hrun
  unfold Oper.wp
  rw [ha.ev, hrun', Oper.upon_value]
  exact hK.out _ _ (hSh x W1 hp hS1) (fun hS2 => h x hp _ _ (ha.put hN) hS1 hS2)
/-- One operation alone, that reads. -/
theorem ga_r {v : Value} (l' : Array Bool) (hi : ops[i]? = some ⟨some d, op, ty, pos, af, none⟩) (hc : readyB .any ops l l' i = true) (hd : i ∉ ds) (hN : Nat.blt d N = true)
    (r : Rn P σ S op ty v) (h : GA P ops Q N Sh ds fuel l' (up σ d v) S) : GA P ops Q N Sh ds (fuel + 1) l σ S := by
  intro a W ha hS hh
  refine one_ (S := Sh.ok) l' hi rfl hc hd fun K hK => ?_
  rw [if_pos (by simp [Region.wanted])]
  have hrun' : (execOp (ev σ) ⟨some d, op, ty, pos, af, none⟩).run P W = .ok (.value v) W := r W hS
  unfold Oper.wp
  rw [ha.ev, hrun', Oper.upon_value]
  exact hK.out _ _ hh (fun hS2 => h _ _ (ha.put hN) hS hS2)
theorem ga_rG {v : Value} {j tt : Nat} {b p : Bool} {oj : Oper} (l' : Array Bool) (hi : ops[i]? = some ⟨some d, op, ty, pos, af, some (j, b)⟩) (hc : readyB .any ops l l' i = true) (hd : i ∉ ds) (hN : Nat.blt d N = true)
    (hj : ops[j]? = some oj) (ht : oj.dst = some tt) (htN : Nat.blt tt N = true) (hv : σ tt = .bool p) (hp : p = b)
    (r : Rn P σ S op ty v) (h : GA P ops Q N Sh ds fuel l' (up σ d v) S) : GA P ops Q N Sh ds (fuel + 1) l σ S := by
  intro a W ha hS hh
  refine one_ (S := Sh.ok) l' hi rfl hc hd fun K hK => ?_
  rw [if_pos (by rw [wanted_at ha hj ht htN hv, hp]; cases b <;> rfl)]
  have hrun' : (execOp (ev σ) ⟨some d, op, ty, pos, af, some (j, b)⟩).run P W = .ok (.value v) W := r W hS
  unfold Oper.wp
  rw [ha.ev, hrun', Oper.upon_value]
  exact hK.out _ _ hh (fun hS2 => h _ _ (ha.put hN) hS hS2)
theorem e_alloc (tag : Nat) {z : Value} (hz : ∀ W, (zeroValue t).run P W = .ok z W) : Evt P σ ⟨w0, M, H, R, φ⟩ (.alloc t) ty (fun g => .pointer (some ⟨g, 0, none⟩)) (fun _ => True) (fun g => ⟨w0, M, (tag, g, .cells z.cells t) :: H, R, φ⟩) :=
  fun W hS => ⟨W.heap.size, W.alloc (.cells z.cells t), by simp [execOp, Instr.alloc, hz W, newVar, newRow], trivial, hS.alloc tag _⟩
theorem e_box (tag : Nat) {v : Value} (hx : ev σ x = v) : Evt P σ ⟨w0, M, H, R, φ⟩ (.box t x) ty (fun g => .pointer (some ⟨g, 0, none⟩)) (fun _ => True) (fun g => ⟨w0, M, (tag, g, .cells v.cells t) :: H, R, φ⟩) :=
  fun W hS => ⟨W.heap.size, W.alloc (.cells v.cells t), by simp [execOp, Instr.box, hx, newVar, newRow], trivial, hS.alloc tag _⟩
end
section
variable {P : Program} {σ : Fr} {ty t t' u : TypeId} {x y : Operand} {w0 : World} {M : Nat → Prop} {H : List (Nat × Nat × Obj)} {R : List (Nat × Row)} {φ : World → Prop} {α : Type} {enc : α → List Value} {l l1 l2 : List α} {tag bytes c1 cc sz : Nat} {A A1 : Option Addr} {z : Value} {e : TypeId}
theorem e_appR (ht : P.underlying t = some (.slice e)) (hinfo : (P.info? e).map (fun i => (i.zero, i.size, i.bytes)) = some (some z, sz, bytes)) (hz : z.cells.size = sz) (hs0 : 0 < sz) (hb0 : 0 < bytes) (hsz : ∀ a, (enc a).length = sz) (h1 : ∀ a, one1 (enc a) = true)
    (hx : ev σ x = .slice A l.length cc) (hlc : l.length ≤ cc) (hR : fR tag R = some ⟨.slice A l.length cc, e, sz, l.length, l.flatMap enc⟩) (hy : ev σ y = .slice A1 l1.length c1) (hys : ∀ W, (Sta.mk w0 M H R φ).ok W → Cl W A1 (l1.flatMap enc)) (happ : app bytes l l1 = some l2) :
    Evt P σ ⟨w0, M, H, R, φ⟩ (.call ⟨.builtin .append, #[x, y], #[t, t]⟩) ty (fun z : Option Addr × Nat => .slice z.1 l2.length z.2) (fun z => l2.length ≤ z.2) (fun z => ⟨w0, M, H, uR tag ⟨.slice z.1 l2.length z.2, e, sz, l2.length, l2.flatMap enc⟩ R, φ⟩) := by
  obtain ⟨hl, rfl⟩ := app_some happ
  intro W hS
  obtain ⟨i0, hi, hzz⟩ := Option.map_eq_some_iff.1 hinfo
  simp only [Prod.mk.injEq] at hzz
  obtain ⟨hz0, hz1, hz2⟩ := hzz
  have hcl := hys W hS
  have hrow := rowOf hS hR
  dsimp only at hrow
  rw [List.length_append, List.flatMap_append]
  rcases Nat.eq_zero_or_pos l1.length with hm | hm
  · have hy0 : l1 = [] := List.eq_nil_of_length_eq_zero hm
    subst hy0
    simp only [List.length_nil, Nat.add_zero, List.flatMap_nil, List.append_nil]
    have hself : uR tag ⟨.slice A l.length cc, e, sz, l.length, l.flatMap enc⟩ R = R := by
      obtain ⟨a, b, e1, e2, _⟩ := uR_split (o' := ⟨.slice A l.length cc, e, sz, l.length, l.flatMap enc⟩) hR
      rw [e2, ← e1]
    have hsrc : Src P i0.size t (.slice A1 0 c1) 0 [] W := by
      cases A1 with
      | none => exact Src.ofNil W ht c1
      | some ad => exact Src.ofSlice W ht ad 0 c1 [] (by simp) (by simp) (by simp)
    have hrun := run_append_nothing (P := P) W t t ty e i0 ht hi A l.length cc hlc (.slice A1 0 c1) hsrc
    exact ⟨(A, cc), W, by simp [execOp, resolve, invoke, builtin, hx, hy, hrun], hlc, by dsimp only; rw [hself]; exact hS⟩
  · have hlen : l.length + l1.length ≤ 140737488355328 := Nat.le_trans (Nat.le_mul_of_pos_right _ hb0) hl
    have hyl := fm_length hsz l1
    obtain ⟨ad, rfl⟩ := hcl.is_some (by rw [hyl]; exact Nat.mul_pos hm hs0)
    obtain ⟨v', w', hr, h2, h3, h4⟩ := run_append_own_at (P := P) w0.heap.size t ty e i0 z sz bytes ht hi hz0 hz1 hz2 hz hs0 _ _ _ hrow ad l1.length c1 (l1.flatMap enc) hyl hcl.cells (fm_one h1 l1) (by simp only [maxLen]; omega) hl hS.size
    obtain ⟨A', c', rfl, hc⟩ := own_shape h2
    exact ⟨(A', c'), w', by simp [execOp, resolve, invoke, builtin, hx, hy, hr], hc, hS.updR hR (But.grown h3 (run_dr _ hr)) h2 h4⟩
theorem e_appRS {l l2 : List Int} {s : ByteArray} (ht : P.underlying t = some (.slice e)) (hu : P.underlying u = some .string) (hinfo : (P.info? e).map (fun i => (i.zero, i.size, i.bytes)) = some (some (.int .u8 0), 1, 1))
    (hx : ev σ x = .slice A l.length cc) (hlc : l.length ≤ cc) (hR : fR tag R = some ⟨.slice A l.length cc, e, 1, l.length, l.flatMap (fun x : Int => [Value.int .u8 x])⟩) (hy : ev σ y = .string s) (happ : app 1 l (bytesI s) = some l2) :
    Evt P σ ⟨w0, M, H, R, φ⟩ (.call ⟨.builtin .append, #[x, y], #[t, u]⟩) ty (fun z : Option Addr × Nat => .slice z.1 l2.length z.2) (fun z => l2.length ≤ z.2) (fun z => ⟨w0, M, H, uR tag ⟨.slice z.1 l2.length z.2, e, 1, l2.length, l2.flatMap (fun x : Int => [Value.int .u8 x])⟩ R, φ⟩) := by
  obtain ⟨hl, rfl⟩ := app_some happ
  rw [bytesI_length, Nat.mul_one] at hl
  intro W hS
  rw [List.length_append, bytesI_length, List.flatMap_append, bytesI_cells]
  obtain ⟨i0, hi, hzz⟩ := Option.map_eq_some_iff.1 hinfo
  simp only [Prod.mk.injEq] at hzz
  obtain ⟨hz0, hz1, hz2⟩ := hzz
  have hrow := rowOf hS hR
  dsimp only at hrow
  obtain ⟨v', w', hr, h2, h3, h4⟩ := run_append_str_at (P := P) w0.heap.size t u ty e i0 ht hu hi hz0 hz1 hz2 _ _ _ hrow s (by simp only [maxLen]; omega) hl hS.size
  obtain ⟨A', c', rfl, hc⟩ := own_shape h2
  exact ⟨(A', c'), w', by simp [execOp, resolve, invoke, builtin, hx, hy, hr], hc, hS.updR hR (But.grown h3 (run_dr _ hr)) h2 h4⟩
theorem e_lit {len : Nat} {parts : Array (Nat × Operand)} {ps : List (Nat × Value)} {cells : Array Value} (hp : parts.toList.map (fun p => (p.1, ev σ p.2)) = ps) (hu : P.underlying t = some (.slice e)) (hf : P.builtSlice e len ps = some cells) (hcells : cells.toList = l.flatMap enc) (hl : l.length = len) (hsz : ∀ a, (enc a).length = sz) :
    Evt P σ ⟨w0, M, H, R, φ⟩ (.buildSlice t len parts) ty (fun g => .slice (some ⟨g, 0, none⟩) l.length len) (fun _ => True) (fun g => ⟨w0, M, H, (tag, ⟨.slice (some ⟨g, 0, none⟩) l.length len, e, sz, l.length, l.flatMap enc⟩) :: R, φ⟩) := by
  subst hl
  intro W hS
  unfold Program.builtSlice at hf
  cases hie : P.info? e with
  | none => simp [hie] at hf
  | some ie =>
    simp only [hie] at hf
    cases hz : ie.zero with
    | none => simp [hz] at hf
    | some z =>
      simp only [hz] at hf
      by_cases hc : l.length * ie.size > 2 ^ 24 ∨ l.length * ie.size = 0
      · simp [hc] at hf
      · rw [if_neg hc] at hf
        have hm : (parts.map fun p => (p.1, ev σ p.2)).toList = ps := by rw [Array.toList_map]; exact hp
        have hr := run_buildSlice (P := P) W t e l.length (parts.map fun p => (p.1, ev σ p.2)) cells ie z hu hie hz (fun h' => hc (Or.inl h')) (fun h' => hc (Or.inr h')) (by rw [hm]; exact hf)
        have hr' : (execOp (ev σ) ⟨none, .buildSlice t l.length parts, ty, "", #[], none⟩).run P W = .ok (.value (.slice (some ⟨W.heap.size, 0, none⟩) l.length l.length)) (W.alloc (.cells cells e)) := by
          simp [execOp, hr]
        have hlen : (l.flatMap enc).length = l.length * sz := fm_length hsz l
        have hsize : ie.size ≠ 0 := fun h0 => hc (.inr (by rw [h0]; rfl))
        have hll : l.length ≤ maxLen := by
          have h1 : l.length ≤ l.length * ie.size := Nat.le_mul_of_pos_right _ (by omega)
          have h2 : ¬ l.length * ie.size > 2 ^ 24 := fun h' => hc (.inl h')
          simp only [maxLen]; omega
        refine ⟨W.heap.size, _, hr', trivial, hS.newR (o' := ⟨.slice (some ⟨W.heap.size, 0, none⟩) l.length l.length, e, sz, l.length, l.flatMap enc⟩) (below_al W _) ⟨hlen, .inr ⟨W.heap.size, l.length, cells, rfl, hS.size, heap_alloc_new W _, Nat.le_refl _, hll, ?_, ?_⟩⟩ (fun k hk => by simp [vblk, Value.ownBlock] at hk; omega)⟩
        · rw [← Array.length_toList, hcells, hlen]
        · rw [hcells, ← hlen, List.take_length]
end
section
variable {P : Program} {σ : Fr} {ty t t' u : TypeId} {x y : Operand} {w0 : World} {M : Nat → Prop} {H : List (Nat × Nat × Obj)} {R : List (Nat × Row)} {φ : World → Prop} {tag sz : Nat} {e : TypeId}
end
/-! ### Rows made whole, rows written -/
theorem putL_list : ∀ (vs : List Value) (cs : Array Value) (off : Nat), off + vs.length ≤ cs.size → (putL cs off vs).toList = cs.toList.take off ++ vs ++ cs.toList.drop (off + vs.length)
  | [], cs, off, _ => by simp [putL]
  | v :: r, cs, off, h => by
    simp only [List.length_cons] at h
    unfold putL
    rw [putL_list r _ _ (by simp; omega)]
    apply List.ext_getElem?
    intro j
    simp only [Array.toList_setIfInBounds, List.length_cons]
    by_cases h1 : j < off
    · rw [List.append_assoc, List.append_assoc, List.getElem?_append_left (by simp; omega), List.getElem?_append_left (by simp; omega), List.getElem?_take_of_lt (by omega), List.getElem?_take_of_lt (by omega), List.getElem?_set_ne (by omega)]
    · by_cases h2 : j = off
      · subst h2
        rw [List.append_assoc, List.getElem?_append_left (by simp; omega), List.getElem?_take_of_lt (by omega), List.getElem?_set_self (by simp; omega)]
        rw [List.append_assoc, List.getElem?_append_right (by simp; omega)]
        simp only [List.length_take, Array.length_toList, Nat.min_eq_left (show j ≤ cs.size by omega), Nat.sub_self, List.cons_append, List.getElem?_cons_zero]
      · by_cases h3 : j < off + 1 + r.length
        · rw [List.append_assoc, List.getElem?_append_right (by simp; omega), List.getElem?_append_left (by simp; omega)]
          rw [List.append_assoc, List.getElem?_append_right (by simp; omega)]
          simp only [List.length_take, List.length_set, Array.length_toList, Nat.min_eq_left (show off + 1 ≤ cs.size by omega), Nat.min_eq_left (show off ≤ cs.size by omega)]
          rw [List.cons_append, show j - off = (j - (off + 1)) + 1 from by omega, List.getElem?_cons_succ, List.getElem?_append_left (by omega)]
        · rw [List.getElem?_append_right (by simp; omega), List.getElem?_append_right (by simp; omega)]
          simp only [List.length_append, List.length_take, List.length_set, Array.length_toList, List.length_cons, Nat.min_eq_left (show off + 1 ≤ cs.size by omega), Nat.min_eq_left (show off ≤ cs.size by omega)]
          rw [List.getElem?_drop, List.getElem?_drop, List.getElem?_set_ne (by omega)]
          congr 1
          omega
theorem splice {α : Type} (X vs : List α) (a off sz n : Nat) (h1 : off + vs.length ≤ sz) (h2 : a + sz ≤ n) (h3 : n ≤ X.length) :
    (X.take (a + off) ++ vs ++ X.drop (a + off + vs.length)).take n = (X.take n).take a ++ ((((X.take n).drop a).take sz).take off ++ vs ++ (((X.take n).drop a).take sz).drop (off + vs.length)) ++ (X.take n).drop (a + sz) := by
  have e2 : (X.take n).take a = X.take a := by rw [List.take_take, Nat.min_eq_left (by omega)]
  have e3 : (((X.take n).drop a).take sz).take off = (X.drop a).take off := by rw [List.take_take, Nat.min_eq_left (by omega), List.drop_take, List.take_take, Nat.min_eq_left (by omega)]
  have e4 : ∀ (Y : List α) (m : Nat), m ≤ sz → (Y.take sz).drop m ++ Y.drop sz = Y.drop m := by
    intro Y m hm
    rw [List.drop_take, show Y.drop sz = (Y.drop m).drop (sz - m) from by rw [List.drop_drop]; congr 1; omega, List.take_append_drop]
  have e5 : (X.take n).drop (a + sz) = ((X.take n).drop a).drop sz := by rw [List.drop_drop]
  rw [e2, e3, e5, List.append_assoc (X.take a), List.append_assoc ((X.drop a).take off ++ vs), e4 _ _ h1, List.drop_drop]
  have hl : (X.take (a + off) ++ vs).length = a + off + vs.length := by rw [List.length_append, List.length_take, Nat.min_eq_left (by omega)]
  rw [List.take_append, List.take_of_length_le (by omega), hl, List.take_add, List.drop_take, Nat.add_assoc a off]
  simp only [List.append_assoc]
section
variable {P : Program} {ops : Array Oper} {Q : Exit → Act → World → Prop} {N : FS} {d : Nat} {σ : Fr} {S : Sta} {rest : List Oper} {ty t t' u : TypeId} {pos : String} {af : Array Edge} {x y : Operand} {w0 : World} {M : Nat → Prop} {H : List (Nat × Nat × Obj)} {R : List (Nat × Row)} {φ : World → Prop} {tag sz bytes : Nat} {e : TypeId} {α : Type} {enc : α → List Value}
theorem fm_set (hsz : ∀ a, (enc a).length = sz) (l : List α) (i : Nat) (v : α) (hi : i < l.length) : (l.set i v).flatMap enc = (l.flatMap enc).take (i * sz) ++ enc v ++ (l.flatMap enc).drop (i * sz + sz) := by
  rw [fm_take hsz, ← Nat.succ_mul, fm_drop hsz, List.set_eq_take_append_cons_drop, if_pos hi]
  simp [List.flatMap_append]
/-- An element of a row is written, whole or a part of it. -/
theorem stR_run {l l' : List α} {i : Int} {v' : α} {A : Option Addr} {ad : Addr} {cc off : Nat} {w : Value} {vs : List Value} {va : α}
    (hx : ev σ x = .pointer (some ((ad.add (i.toNat * sz)).add off))) (hA : A = some ad) (hy : ev σ y = w) (hvs : w.cells.toList = vs) (hat : at_ l i = some va) (hset : setAt l i v' = some l') (hev : enc v' = (enc va).take off ++ vs ++ (enc va).drop (off + vs.length)) (ho : off + vs.length ≤ sz) (hsz : ∀ a, (enc a).length = sz) (h1 : one1 vs = true)
    (hR : fR tag R = some ⟨.slice A l.length cc, e, sz, l.length, l.flatMap enc⟩) (hst : ∀ W, (sizeOf t).run P W = .ok vs.length W) :
    ∀ W, (Sta.mk w0 M H R φ).ok W → ∃ W1, (execOp (ev σ) ⟨none, .store t x y, ty, pos, af, none⟩).run P W = .ok .skip W1 ∧ (Sta.mk w0 M H (uR tag ⟨.slice A l'.length cc, e, sz, l'.length, l'.flatMap enc⟩ R) φ).ok W1 := by
  intro W hS
  have hrow := rowOf hS hR
  dsimp only at hrow
  subst hA
  rcases hrow.2 with ⟨h', _⟩ | ⟨g', cap', cur, h', hb, hg, hnc, hcm, hcs, htake⟩
  · cases h'
  · simp only [Value.slice.injEq, Option.some.injEq, true_and] at h'
    obtain ⟨rfl, rfl⟩ := h'
    obtain ⟨h0, h2, rfl⟩ := setAt_some hset
    obtain ⟨_, _, hva⟩ := at_some hat
    obtain ⟨hi, hva⟩ := List.getElem?_eq_some_iff.1 hva
    generalize hk : i.toNat = j at *
    have hadd : ((⟨g', 0, none⟩ : Addr).add (j * sz)).add off = ⟨g', j * sz + off, none⟩ := by rw [add_add, add_g]
    rw [hadd] at hx
    have hle : j * sz + sz ≤ l.length * sz := by rw [← Nat.succ_mul]; exact Nat.mul_le_mul_right _ hi
    have hle2 : l.length * sz ≤ cc * sz := Nat.mul_le_mul_right _ hnc
    have hwl : w.cells.size = vs.length := by rw [← hvs, Array.length_toList]
    have hr := run_store_blk (P := P) (t := t) (off := j * sz + off) (v := w) hg (by rw [hwl]; exact hst) (by rw [hwl, hcs]; omega) (.inl (Nat.zero_le _)) (one1_all (by rw [hvs]; exact h1))
    obtain ⟨hc1, hc2⟩ := setCells_heap g' e (0, 0) w.cells.toList W cur (j * sz + off) hg
    rw [hvs] at hc1 hc2 hr
    refine ⟨W.setCells g' (j * sz + off) vs, by simp [execOp, Instr.storeAt, Instr.sureAddr, hx, hy, hr], hS.updR hR (o' := ⟨.slice (some ⟨g', 0, none⟩) (l.set j v').length cc, e, sz, (l.set j v').length, (l.set j v').flatMap enc⟩) hc2 ?_ (fun k hk => .inl hk)⟩
    have hlen := fm_length hsz l
    refine ⟨by rw [fm_length hsz], .inr ⟨g', cc, _, rfl, hb, hc1, by rw [List.length_set]; exact hnc, hcm, by rw [putL_size]; exact hcs, ?_⟩⟩
    rw [putL_list _ _ _ (by rw [hcs]; omega), List.length_set, fm_set hsz l j v' hi, hev]
    have hcl : cur.toList.length = cc * sz := by rw [Array.length_toList, hcs]
    have hva2 : enc va = ((l.flatMap enc).drop (j * sz)).take sz := by
      rw [fm_drop hsz, List.drop_eq_getElem_cons hi, List.flatMap_cons, hva, List.take_append_of_le_length (by rw [hsz]; exact Nat.le_refl _), List.take_of_length_le (by rw [hsz]; exact Nat.le_refl _)]
    rw [hva2, ← htake]
    exact splice cur.toList vs (j * sz) off sz (l.length * sz) ho hle (by rw [hcl]; exact hle2)
end
theorem setAt_lenE {α : Type} {l r : List α} {i : Int} {v : α} (h : setAt l i v = some r) : r.length = l.length := by
  obtain ⟨_, _, rfl⟩ := setAt_some h
  rw [List.length_set]
theorem setAt_len {α : Type} {l r : List α} {i : Int} {v : α} {c : Nat} (hc : l.length ≤ c) (h : setAt l i v = some r) : r.length ≤ c := by
  obtain ⟨_, _, rfl⟩ := setAt_some h
  rw [List.length_set]; exact hc
theorem add0 {v : Value} {ad : Addr} (h : v = .pointer (some ad)) : v = .pointer (some (ad.add 0)) := by rw [h]; unfold Addr.add; simp
/-! ### Several events may come up -/
section
variable {P : Program} {ops : Array Oper} {Q : Exit → Act → World → Prop} {N : FS} {d : Nat} {σ : Fr} {S Sh : Sta} {ty : TypeId} {pos : String} {af : Array Edge} {ds : List Nat} {fuel : Nat} {l : Array Bool} {ι : Type} {op : Op}
end
section
variable {P : Program} {ops : Array Oper} {Q : Exit → Act → World → Prop} {N : FS} {σ : Fr} {S Sh : Sta} {ds : List Nat} {fuel : Nat} {l : Array Bool} {o : Oper} {w0 : World} {M : Nat → Prop} {H : List (Nat × Nat × Obj)} {R : List (Nat × Row)} {φ : World → Prop}
end
/-! ### Stores, with lists -/
def spl (l : List Value) (off : Nat) (vs : List Value) : List Value := l.take off ++ vs ++ l.drop (off + vs.length)
theorem putL_spl (vs : List Value) (cs : Array Value) (off : Nat) (h : Nat.ble (off + vs.length) cs.size = true) : putL cs off vs = (spl cs.toList off vs).toArray := by
  apply Array.ext'
  rw [putL_list vs cs off (Nat.le_of_ble_eq_true h)]
  rfl
section
variable {P : Program} {ops : Array Oper} {Q : Exit → Act → World → Prop} {N : FS} {σ : Fr} {Sh : Sta} {rest : List Oper} {ty t : TypeId} {pos : String} {af : Array Edge} {x y : Operand} {ds : List Nat} {fuel : Nat} {l : Array Bool} {w0 : World} {M : Nat → Prop} {H : List (Nat × Nat × Obj)} {R : List (Nat × Row)} {φ : World → Prop} {tag g off i : Nat} {cl : List Value} {t0 : TypeId} {v : Value} {vs : List Value}
theorem g_storeL (hx : ev σ x = .pointer (some ⟨g, off, none⟩)) (hy : ev σ y = v) (hvs : v.cells.toList = vs) (hH : fH tag H = some (g, .cells cl.toArray t0 (0, 0))) (hsz : ∀ W, (sizeOf t).run P W = .ok vs.length W) (hb : Nat.ble (off + vs.length) cl.length = true) (h1 : one1 vs = true)
    (h : G P ops Q N rest σ ⟨w0, M, uH tag (.cells (spl cl off vs).toArray t0 (0, 0)) H, R, φ⟩) : G P ops Q N (⟨none, .store t x y, ty, pos, af, none⟩ :: rest) σ (Sta.mk w0 M H R φ) := by
  refine g_store (tag := tag) hx hy hvs hH hsz (by simpa using hb) (.inl (Nat.zero_le _)) h1 ?_
  rw [putL_spl _ _ _ (by simpa using hb)]
  exact h
end
end Go.Proofs.YtkmkpodioedlfaaDoor
