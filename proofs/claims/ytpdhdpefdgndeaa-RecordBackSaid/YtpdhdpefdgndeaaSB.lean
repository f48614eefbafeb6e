/- More operations: places of arrays, slice literals, rows made whole, and two ways through code: meeting again behind a branch, and rounds one by one. -/
import Derived.Test.YtpdhdpefdgndeaaSP
import Derived.LoopN
import Derived.Great.Walk
import Derived.Laws.OwnMore
set_option linter.unusedVariables false
set_option linter.unusedSimpArgs false
namespace Go.Proofs.Ytpdhdpefdgndeaa
open Go.RowKit
section
variable {P : Program} {ops : Array Oper} {Q : Exit → Act → World → Prop} {N : FS} {d : Nat} {σ : Fr} {S : Sta} {rest : List Oper} {ty t : TypeId} {pos : String} {af : Array Edge} {x y : Operand} {k : IntKind}
/-- A place of an array. -/
theorem r_elemH {g off len sz n : Nat} {i : Int} {e : TypeId} (hu : P.underlying t = some (.array len e)) (hs : ∀ W, (sizeOf e).run P W = .ok sz W) (hx : ev σ x = .pointer (some ⟨g, off, none⟩)) (hy : ev σ y = .int k i) (h0 : 0 ≤ i) (h1 : i < len) (hn : off + i.toNat * sz = n) : Rn P σ S (.indexAddr t x y) ty (.pointer (some ⟨g, n, none⟩)) :=
  fun W hS => by
    subst hn
    have : (⟨g, off, none⟩ : Addr).add (i.toNat * sz) = ⟨g, off + i.toNat * sz, none⟩ := by unfold Addr.add; split <;> simp_all
    simp [execOp, Instr.indexAt, Instr.sureAddr, asIntOf, hx, hy, run_underlying hu, h0, h1, hs W, this]
/-- A place of a slice that is a block's. -/
theorem r_elemG {g m c sz n : Nat} {i : Int} {e : TypeId} (hu : P.underlying t = some (.slice e)) (hs : ∀ W, (sizeOf e).run P W = .ok sz W) (hx : ev σ x = .slice (some ⟨g, 0, none⟩) m c) (hy : ev σ y = .int k i) (h0 : 0 ≤ i) (h1 : i < m) (hn : i.toNat * sz = n) : Rn P σ S (.indexAddr t x y) ty (.pointer (some ⟨g, n, none⟩)) := by
  subst hn
  have := r_elem (P := P) (S := S) (ty := ty) hu hs hx rfl hy h0 h1
  rwa [add_g] at this
/-- A slice literal. -/
theorem g_lit {w0 : World} {M : Nat → Prop} {H : List (Nat × Nat × Obj)} {R : List (Nat × Row)} {φ : World → Prop} {e : TypeId} {len : Nat} {parts : Array (Nat × Operand)} {ps : List (Nat × Value)} {cells : Array Value} (hN : Nat.blt d N = true) (hp : parts.toList.map (fun p => (p.1, ev σ p.2)) = ps) (hu : P.underlying t = some (.slice e)) (hf : P.builtSlice e len ps = some cells)
    (h : ∀ g, G P ops Q N rest (up σ d (.slice (some ⟨g, 0, none⟩) len len)) ⟨w0, M, H, R, fun w => φ w ∧ Cl w (some ⟨g, 0, none⟩) cells.toList⟩) :
    G P ops Q N (⟨some d, .buildSlice t len parts, ty, pos, af, none⟩ :: rest) σ (Sta.mk w0 M H R φ) := by
  refine g_ev (fun g => .slice (some ⟨g, 0, none⟩) len len) (fun g => ⟨w0, M, H, R, fun w => φ w ∧ Cl w (some ⟨g, 0, none⟩) cells.toList⟩) rfl rfl hN (fun W hS => ?_) h
  unfold Program.builtSlice at hf
  cases hie : P.info? e with
  | none => simp [hie] at hf
  | some ie =>
    simp only [hie] at hf
    cases hz : ie.zero with
    | none => simp [hz] at hf
    | some z =>
      simp only [hz] at hf
      by_cases hc : len * ie.size > 2 ^ 24 ∨ len * ie.size = 0
      · simp [hc] at hf
      · rw [if_neg hc] at hf
        have hm : (parts.map fun p => (p.1, ev σ p.2)).toList = ps := by rw [Array.toList_map]; exact hp
        have hr := run_buildSlice (P := P) W t e len (parts.map fun p => (p.1, ev σ p.2)) cells ie z hu hie hz (fun h' => hc (Or.inl h')) (fun h' => hc (Or.inr h')) (by rw [hm]; exact hf)
        have hr' : (execOp (ev σ) ⟨some d, .buildSlice t len parts, ty, pos, af, none⟩).run P W = .ok (.value (.slice (some ⟨W.heap.size, 0, none⟩) len len)) (W.alloc (.cells cells e)) := by
          simp [execOp, hr]
        refine ⟨W.heap.size, _, hr', hS.more (below_al W _) ⟨fun k hk => Nat.lt_of_lt_of_le (hS.mut_lt k hk) (below_al W _).size, fun W' hW => ?_⟩⟩
        intro j u hj
        refine ⟨_, rfl, ?_⟩
        rw [add_g]
        have hb : W'.heap[W.heap.size]? = some (.cells cells e) := by
          rw [hW W.heap.size (blk_lt (heap_alloc_new W _)) (fun hm => by have := hS.mut_lt _ hm; omega)]
          exact heap_alloc_new W _
        simp only [World.cell?, hb]
        simpa using hj
/-- make([]T, n) of cells. -/
theorem g_make {w0 : World} {M : Nat → Prop} {H : List (Nat × Nat × Obj)} {R : List (Nat × Row)} {φ : World → Prop} {e : TypeId} {n bytes : Nat} {z : Value} {k1 k2 : IntKind} {a b : Int} (hN : Nat.blt d N = true) (hu : P.underlying t = some (.slice e)) (hinfo : (P.info? e).map (fun i => (i.zero, i.size, i.bytes)) = some (some z, 1, bytes)) (hz : z.cells = #[z])
    (hx : ev σ x = .int k1 a) (hy : ev σ y = .int k2 b) (ha : a = n) (hb : b = n) (hl : bytes * n ≤ 281474976710656) (hn : n ≤ 281474976710656)
    (h : ∀ g, G P ops Q N rest (up σ d (.slice (some ⟨g, 0, none⟩) n n)) ⟨w0, M, H, (d, ⟨.slice (some ⟨g, 0, none⟩) n n, e, 1, n, List.replicate n z⟩) :: R, φ⟩) :
    G P ops Q N (⟨some d, .makeSlice t x y, ty, pos, af, none⟩ :: rest) σ (Sta.mk w0 M H R φ) := by
  subst ha hb
  refine g_ev (fun g => .slice (some ⟨g, 0, none⟩) n n) (fun g => ⟨w0, M, H, (d, ⟨.slice (some ⟨g, 0, none⟩) n n, e, 1, n, List.replicate n z⟩) :: R, φ⟩) rfl rfl hN (fun W hS => ?_) h
  obtain ⟨i0, hi, hzz⟩ := Option.map_eq_some_iff.1 hinfo
  simp only [Prod.mk.injEq] at hzz
  obtain ⟨hz0, hz1, hz2⟩ := hzz
  obtain ⟨w', hr, h2, h3⟩ := run_make_full (P := P) W w0.heap.size t e i0 z 1 hu hi hz0 hz1 k1 k2 n (by rw [hz2]; exact hl) (by simp only [maxLen]; omega) hS.size
  rw [hz, Nat.mul_one, toList_madeCells_one] at h2
  exact ⟨W.heap.size, w', by simp [execOp, hx, hy, hr], hS.newR (o' := ⟨.slice (some ⟨W.heap.size, 0, none⟩) n n, e, 1, n, List.replicate n z⟩) ⟨h3.os, h3.tape, h3.output, h3.size, fun k hk => h3.block k hk (by simp)⟩ h2 (fun k hk => by simp [vblk, Value.ownBlock] at hk; omega)⟩
theorem nilR {w0 : World} {M : Nat → Prop} {H : List (Nat × Nat × Obj)} {R : List (Nat × Row)} {φ : World → Prop} {W : World} (hS : (Sta.mk w0 M H R φ).ok W) (tag e sz : Nat) : (Sta.mk w0 M H ((tag, ⟨.slice none 0 0, e, sz, 0, []⟩) :: R) φ).ok W :=
  hS.newR (o' := ⟨.slice none 0 0, e, sz, 0, []⟩) (Below.refl _ _) (World.ownsRow_nil W _ e sz) (fun k hk => by simp [vblk, Value.ownBlock] at hk)
theorem rowOf {tag : Nat} {r : Row} {W : World} (hS : S.ok W) (hR : fR tag S.R = some r) : World.held W S.w0.heap.size r.e r.sz r.v r.n r.xs := by
  obtain ⟨l, m, h1, _, _⟩ := uR_split (o' := r) hR
  exact hS.rows (tag, r) (by rw [h1]; simp)
theorem rowCl {tag n c e sz : Nat} {A : Option Addr} {xs : List Value} (hR : fR tag S.R = some ⟨.slice A n c, e, sz, n, xs⟩) (W : World) (hS : S.ok W) : Cl W A xs := own_cl (rowOf hS hR) (fun _ _ => rfl)
/-- A store into a row of the call's own. -/
theorem g_storeR {w0 : World} {M : Nat → Prop} {H : List (Nat × Nat × Obj)} {R : List (Nat × Row)} {φ : World → Prop} {tag g j n c e : Nat} {xs : List Value} {v : Value} (hx : ev σ x = .pointer (some ⟨g, j, none⟩)) (hy : ev σ y = v) (hv : v.cells = #[v]) (h1 : v.oneCell' = true) (hR : fR tag R = some ⟨.slice (some ⟨g, 0, none⟩) n c, e, 1, n, xs⟩) (hsz : ∀ W, (sizeOf t).run P W = .ok 1 W) (hj : j < n)
    (h : G P ops Q N rest σ ⟨w0, M, H, uR tag ⟨.slice (some ⟨g, 0, none⟩) n c, e, 1, n, xs.set j v⟩ R, φ⟩) : G P ops Q N (⟨none, .store t x y, ty, pos, af, none⟩ :: rest) σ (Sta.mk w0 M H R φ) := by
  refine g_skip _ rfl rfl (fun W hS => ?_) h
  have hrow := rowOf hS hR
  dsimp only at hrow
  obtain ⟨h2, h3⟩ := hrow.stored j v
  rcases hrow.2 with ⟨h', _⟩ | ⟨g', cap', cur, h', hb, hg, hnc, hcm, hcs, htake⟩
  · simp at h'
  · simp only [Value.slice.injEq, Option.some.injEq, Addr.mk.injEq, and_true, true_and] at h'
    obtain ⟨rfl, rfl⟩ := h'
    have hr := run_store_blk (P := P) (t := t) (off := j) (v := v) hg (by rw [hv]; exact hsz) (by rw [hv]; simp; omega) (.inl (Nat.zero_le _)) (by rw [hv]; simp [h1])
    rw [hv] at hr
    exact ⟨W.setCell ⟨g, j, none⟩ v, by simp [execOp, Instr.storeAt, Instr.sureAddr, hx, hy, hr, World.setCells], hS.updR hR ⟨h3.os, h3.tape, h3.output, h3.size, fun k hk hne => h3.block k hk (by simpa [vblk, Value.ownBlock] using hne)⟩ (o' := ⟨.slice (some ⟨g, 0, none⟩) n c, e, 1, n, xs.set j v⟩) h2 (fun k hk => .inl hk)⟩
/-- string(b). -/
theorem r_text {A : Option Addr} {n c : Nat} {t' e : TypeId} {xs : List Int} (hs : P.underlying t = some (.slice e)) (he : P.underlying e = some (.int .u8)) (hd : P.underlying t' = some .string) (hx : ev σ x = .slice A n c) (hl : xs.length = n) (hc : ∀ W, S.ok W → Cl W A (xs.map (Value.int .u8))) : Rn P σ S (.convert t t' x) ty (.string (strOfNums xs)) :=
  fun W hS => by
    have hcl := hc W hS
    cases A with
    | none =>
      have hx0 : xs = [] := by
        cases xs with
        | nil => rfl
        | cons a r => obtain ⟨_, e, _⟩ := hcl 0 (.int .u8 a) rfl; cases e
      subst hx0
      have := run_convert_bytes_nil (P := P) W t e hs he n c t' hd
      simp [execOp, hx, this, strOfNums, ByteArray.empty, ByteArray.emptyWithCapacity]
      rfl
    | some ad =>
      have hl' : (loadCells ad n).run P W = .ok (xs.map (Value.int .u8)).toArray W := by
        have := run_loadCells_list (P := P) W ad (xs.map (Value.int .u8)) hcl.cells
        simpa [hl] using this
      have hr : (convert t t' (.slice (some ad) n c)).run P W = .ok (.string (strOfNums xs)) W := by
        rw [run_convert_bytes_string W t t' e _ n c hs he hd, run_bytesToString W ad n c xs hl', foldl_push_bytes]
        simp [strOfNums, ByteArray.empty, ByteArray.emptyWithCapacity]
        rfl
      simp [execOp, hx, hr]
/-- A call of which nothing is kept of memory. -/
theorem g_callN {ι : Type} {f : FuncId} {xs : Array Operand} {ts : Array TypeId} {rv : ι → Value} {pure : ι → Prop} {ψ : ι → World → Prop} {args : List Value}
    (hf : ∀ (args : Array Value) (W : World), (callFunc f args).run P W = .ok (.enter f args) W) (hN : Nat.blt d N = true) (hargs : xs.toList.map (ev σ) = args)
    (hc : ∀ W, S.ok W → Con P f args.toArray W S.mut rv pure ψ)
    (h : ∀ x, pure x → G P ops Q N rest (up σ d (rv x)) S) :
    G P ops Q N (⟨some d, .call ⟨.value (.func f), xs, ts⟩, ty, pos, af, none⟩ :: rest) σ S :=
  g_call hf hN hargs hc (fun x hx => g_sta S (fun W h => h.phi fun _ h => h.1) (h x hx))
/-- What holds of the state, whatever the world is. -/
theorem c_know {c : Code} (p : Prop) (hp : ∀ W, S.ok W → p) (h : p → CC P Q N c σ S) : CC P Q N c σ S := fun a W ha hS => h (hp W hS) a W ha hS
theorem g_know (p : Prop) (hp : ∀ W, S.ok W → p) (h : p → G P ops Q N rest σ S) : G P ops Q N rest σ S := fun a W ha hS => h (hp W hS) a W ha hS
theorem d_know {e : Exit} (p : Prop) (hp : ∀ W, S.ok W → p) (h : p → DD Q N e σ S) : DD Q N e σ S := fun a W ha hS => h (hp W hS) a W ha hS
/-- Behind a branch: what came is told again. -/
theorem c_join {ι : Type} {a b : Code} (L : List Nat) (us : ι → List (Nat × Value)) (T : ι → Sta) (I : ι → Prop)
    (h1 : CC P (Exit.then (Round N L (fun s => upL (us s) σ) T I (fun _ => 0) 1) Q) N a σ S) (h2 : ∀ s u, I s → CC P Q N b (mix L (upL (us s) σ) u) (T s)) : CC P Q N (.seq a b) σ S := by
  refine c_seq ?_
  intro ac W ha hS
  refine wp_mono (h1 ac W ha hS) ?_
  intro e a' W' hq
  cases e with
  | normal =>
    obtain ⟨s, u, hI, _, ha', hT⟩ := hq
    exact h2 s u hI a' W' ha' hT
  | exit id => exact hq
  | goto l => exact hq
  | ret => exact hq
  | panic ch => exact hq
  | outgrown => exact hq
theorem c_joinS {ι : Type} {a b : Code} (L : List Nat) (us : ι → List (Nat × Value)) (I : ι → Prop)
    (h1 : CC P (Exit.then (Round N L (fun s => upL (us s) σ) (fun _ => S) I (fun _ => 0) 1) Q) N a σ S) (h2 : ∀ s u, I s → CC P Q N b (mix L (upL (us s) σ) u) S) : CC P Q N (.seq a b) σ S := c_join L us (fun _ => S) I h1 h2
/-- A loop, round by round. -/
theorem c_rounds {c : Code} (n : Nat) (h : CC P (Exit.then (Code.rounds P c Q n) Q) N c σ S) : CC P Q N (.loop c) σ S := fun a W ha hS => wp_loop_rounds (n + 1) (h a W ha hS)
theorem d_rounds {c : Code} {n : Nat} (h : CC P (Exit.then (Code.rounds P c Q n) Q) N c σ S) : DD (Exit.then (Code.rounds P c Q (n + 1)) Q) N .normal σ S := fun a W ha hS => h a W ha hS
/-! ### Frames told anew, so that they stay short -/
def AllV (σ : Fr) : List (Nat × Value) → Prop
  | [] => True
  | (t, v) :: r => σ t = v ∧ AllV σ r
theorem up_self {σ : Fr} {d : Nat} {v : Value} (h : σ d = v) : up σ d v = σ := by
  funext t
  unfold up
  cases hb : Nat.beq t d
  · rfl
  · have := Nat.eq_of_beq_eq_true hb
    subst this
    exact h.symm
theorem upL_self {σ : Fr} : ∀ (us : List (Nat × Value)), AllV σ us → upL us σ = σ
  | [], _ => rfl
  | (d, v) :: r, h => by
    show upL r (up σ d v) = σ
    rw [up_self h.1]
    exact upL_self r h.2
theorem c_flat {c : Code} (us : List (Nat × Value)) (hs : AllV σ us) (h : ∀ u, CC P Q N c (upL us u) S) : CC P Q N c σ S := by
  have := h σ
  rwa [upL_self us hs] at this
theorem d_flat {e : Exit} (us : List (Nat × Value)) (hs : AllV σ us) (h : ∀ u, DD Q N e (upL us u) S) : DD Q N e σ S := by
  have := h σ
  rwa [upL_self us hs] at this
end
end Go.Proofs.Ytpdhdpefdgndeaa
