/- strings.Builder's functions, as contracts (own work). -/
import Derived.Test.YtkmkpodioedlfaaDoorSH
import Derived.Lib.Builder
import Derived.Lib.UnsafeStr
import Derived.Laws.Externs
set_option maxRecDepth 16384
set_option maxHeartbeats 4000000
set_option linter.unusedVariables false
set_option linter.unusedSimpArgs false
set_option linter.unusedSectionVars false
namespace Go.Proofs.YtkmkpodioedlfaaDoor
open Go.RowKit Go.Lib Go.Proofs.YtkmkpodioedlfaaDoorW.PrintLast
/-- A row is lost: its block is written by something else. -/
theorem Sta.ok.lose {w0 : World} {M : Nat → Prop} {H : List (Nat × Nat × Obj)} {R : List (Nat × Row)} {φ : World → Prop} {W W1 : World} {t : Nat} {o : Row} (h : (Sta.mk w0 M H R φ).ok W) (hf : fR t R = some o) (hb : But (vblk o.v) W W1) : (Sta.mk w0 M H (dR t R) φ).ok W1 := by
  obtain ⟨l, r, h1, _, h3⟩ := uR_split (o' := o) hf
  have hap := h.apartR
  rw [h1] at hap
  have hin : (t, o) ∈ R := by rw [h1]; simp
  have hsub : ∀ p, p ∈ l ++ r → p ∈ R := fun p hp => by rw [h1]; rcases List.mem_append.1 hp with hp | hp; exact List.mem_append_left _ hp; exact List.mem_append_right _ (List.mem_cons_of_mem _ hp)
  have hne : ∀ p ∈ l ++ r, ∀ k, vblk p.2.v = some k → vblk o.v ≠ some k := by
    intro p hp k hk he
    rw [List.pairwise_append, List.pairwise_cons] at hap
    rcases List.mem_append.1 hp with hp | hp
    · exact hap.2.2 p hp _ List.mem_cons_self k hk he
    · exact hap.2.1.1 p hp k he hk
  refine ⟨hb.base h.below (fun k e => (held_lt (h.rows _ hin) k e).1), h.old, fun p hp => ⟨(h.has p hp).1, ?_⟩, h.apartH, fun p hp => ?_, by simp only [h3]; exact pw_drop hap, fun p hp q hq => h.apart p (hsub p (by simpa only [h3] using hp)) q hq, fun W' hW => h.fact W' fun k hk hn => ?_⟩
  · rw [hb.same _ (blk_lt (h.has p hp).2) (fun e => h.apart _ hin p hp e.symm)]
    exact (h.has p hp).2
  · have hp' := hsub p (by simpa only [h3] using hp)
    exact held_move (h.rows p hp') fun k hk => hb.same k (held_lt (h.rows p hp') k hk).2 (fun e => hne p (by simpa only [h3] using hp) k hk e.symm)
  · have hk1 : k < W1.heap.size := Nat.lt_of_lt_of_le hk hb.size
    have hkn : some k ≠ vblk o.v := fun e => hn (.inr (.inr ⟨_, hin, e.symm⟩))
    rw [hW k hk1 ?_]
    · exact hb.same k hk hkn
    · rintro (hm | hm | ⟨p, hp, hk2⟩)
      · exact hn (.inl hm)
      · exact hn (.inr (.inl hm))
      · exact hn (.inr (.inr ⟨p, hsub p (by simpa only [h3] using hp), hk2⟩))
theorem but_freeze (W : World) (g n : Nat) : But (some g) W (W.freeze ⟨g, 0, none⟩ n) := by
  unfold World.freeze
  split
  · exact But.refl _ _
  · refine ⟨rfl, rfl, rfl, by simp, fun k _ hk => ?_, Nat.le_refl _⟩
    show (W.heap.modify _ _)[k]? = _
    rw [Array.getElem?_modify]
    rw [if_neg (fun e => hk (by rw [← e]))]
def bldS (l : List Int) : Option ByteArray := if l ≠ [] ∧ ∀ x ∈ l, 0 ≤ x ∧ x ≤ 255 then some (strOfNums l) else none
theorem bldS_some {l : List Int} {s : ByteArray} (h : bldS l = some s) : l ≠ [] ∧ (∀ x ∈ l, 0 ≤ x ∧ x ≤ 255) ∧ s = strOfNums l := by
  unfold bldS at h
  split at h
  · rename_i h0; injection h with h; exact ⟨h0.1, h0.2, h.symm⟩
  · cases h
section
variable {P : Program} {N : FS} {σ : Fr} {S : Sta} {ty t pt it : TypeId} {x y : Operand} {w0 : World} {M : Nat → Prop} {H : List (Nat × Nat × Obj)} {R : List (Nat × Row)} {φ : World → Prop} {tag e : Nat} {l : List Int}
theorem r_usd {ad : Addr} {n c : Nat} (hc : c ≠ 0) (hx : ev σ x = .slice (some ad) n c) : Rn P σ S (.call ⟨.builtin .unsafeSliceData, #[x], #[t]⟩) ty (.pointer (some ad)) := fun W _ => by
  have := run_unsafeSliceData_row (P := P) (w := W) #[t] ty ad n c hc
  simp [execOp, resolve, invoke, builtin, hx, this]
theorem e_ustr {ad : Addr} {c : Nat} {s : ByteArray} (hp : P.underlying pt = some (.pointer e)) (hc : P.cellsOf e = 1) (hx : ev σ x = .pointer (some ad)) (hy : ev σ y = .int .i64 l.length) (hR : fR tag R = some ⟨.slice (some ad) l.length c, e, 1, l.length, l.flatMap encU⟩) (hs : bldS l = some s) :
    Evt P σ (Sta.mk w0 M H R φ) (.call ⟨.builtin .unsafeString, #[x, y], #[pt, it]⟩) ty (fun _ : Unit => .string s) (fun _ => True) (fun _ => ⟨w0, M, H, dR tag R, φ⟩) := by
  intro W hS
  obtain ⟨h0, hr, rfl⟩ := bldS_some hs
  have hrow : W.ownsRow w0.heap.size e 1 (.slice (some ad) l.length c) l.length (l.flatMap encU) := rowOf hS hR
  rcases hrow.2 with ⟨h', _⟩ | ⟨g', cap', cur, h', hb, hg, hnc, hcm, hcs, htake⟩
  · cases h'
  · injection h' with h1 _ h3
    injection h1 with h1
    subst h1 h3
    have hll : (l.map fun n => UInt8.ofNat n.toNat).length = l.length := by simp
    have hcell : ∀ j x, (l.map fun n => UInt8.ofNat n.toNat)[j]? = some x → W.cell? ((⟨g', 0, none⟩ : Addr).add j) = some (.int .u8 x.toNat) := by
      intro j x hj
      rw [List.getElem?_map] at hj
      obtain ⟨y, hy, rfl⟩ := Option.map_eq_some_iff.1 hj
      have hmem := hr y (List.mem_of_getElem? hy)
      have hcl := own_cl hrow (W' := W) (fun _ _ => rfl)
      have hget : (l.flatMap encU)[j]? = some (.int .u8 y) := by
        have : ∀ l : List Int, l.flatMap encU = l.map (Value.int .u8) := fun l => by
          induction l with
          | nil => rfl
          | cons a r ih => simp only [List.flatMap_cons, List.map_cons, ih]; rfl
        rw [this, List.getElem?_map, hy]; rfl
      obtain ⟨ad, e1, hc1⟩ := hcl j _ hget
      injection e1 with e1
      subst e1
      rw [hc1]
      congr 2
      rw [UInt8.toNat_ofNat']
      omega
    have hrun := run_unsafeString_row (P := P) W pt it ty e hp hc g' cur.size (by simp [World.shape?, hg]) (l.map fun n => UInt8.ofNat n.toNat) (by simpa using h0) (by rw [hll, hcs]; omega) (by rw [hll]; simp only [maxLen] at hcm; omega) hcell
    rw [hll] at hrun
    refine ⟨(), W.freeze ⟨g', 0, none⟩ l.length, ?_, trivial, hS.lose hR (but_freeze _ _ _)⟩
    simp [execOp, resolve, invoke, builtin, hx, hy, hrun]
    rfl
end
section
variable {w0 : World} {M : Nat → Prop} {H : List (Nat × Nat × Obj)} {R : List (Nat × Row)} {φ : World → Prop}
theorem r_toU {σ : Fr} {ty : TypeId} {x : Operand} {S : Sta} {tag g : Nat} {cs : Array Value} (hx : ev σ x = .pointer (some ⟨g, 0, none⟩)) (hH : fH tag S.H = some (g, .cells cs 41 (0, 0))) (h0 : Nat.blt 0 cs.size = true) : Rn Tryd.prog σ S (.convert 39 62 x) ty (.pointer (some ⟨g, 0, none⟩)) := fun W hS => by
  obtain ⟨j, hj, hjs⟩ := Option.map_eq_some_iff.1 (show (Tryd.prog.info? 41).map (·.size) = some 2 by kernel_rfl)
  have hg := (hS.has _ (fH_mem hH)).2
  have := run_to_unsafe (P := Tryd.prog) W ⟨g, 0, none⟩ Tryd.underlying39 Tryd.underlying62 hj (by rw [hjs]; decide) (e := 41) (cells := cs.size) (by simp [World.shape?, hg]) (Nat.le_of_ble_eq_true h0)
  simp [execOp, hx, this]
theorem r_fromU {σ : Fr} {ty : TypeId} {x : Operand} {S : Sta} {tag g : Nat} {cs : Array Value} (hx : ev σ x = .pointer (some ⟨g, 0, none⟩)) (hH : fH tag S.H = some (g, .cells cs 41 (0, 0))) (h0 : cs.size = 2) : Rn Tryd.prog σ S (.convert 62 39 x) ty (.pointer (some ⟨g, 0, none⟩)) := fun W hS => by
  obtain ⟨j, hj, hjs⟩ := Option.map_eq_some_iff.1 (show (Tryd.prog.info? 41).map (·.size) = some 2 by kernel_rfl)
  have hg := (hS.has _ (fH_mem hH)).2
  have := run_from_unsafe (P := Tryd.prog) W ⟨g, 0, none⟩ Tryd.underlying62 Tryd.underlying39 hj (e := 41) (cells := 2) (by simp [World.shape?, hg, h0]) (by kernel_rfl)
  simp [execOp, hx, this]
theorem r_noesc {σ : Fr} {ty : TypeId} {x : Operand} {ts : Array TypeId} {v : Value} {S : Sta} (hx : ev σ x = v) : Rn Tryd.prog σ S (.call ⟨.value (.func 34), #[x], ts⟩) ty v := fun W _ => by
  have h := run_callFunc_extern (P := Tryd.prog) (fn := Tryd.f34) (f := 34) Tryd.func34 (by kernel_rfl) (by kernel_rfl) (by kernel_rfl) (e := Extern.AbiNoEscape.same) (by kernel_rfl) #[v] W
  rw [run_noEscape] at h
  have he : ev σ (.func 34) = .func (.func 34) #[] #[] := rfl
  simp [execOp, resolve, Deferred.ofValue, invoke, he, hx, h, Result.andThen]
theorem r_neqSame {σ : Fr} {ty t' : TypeId} {x y : Operand} {S : Sta} {a : Addr} (hx : ev σ x = .pointer (some a)) (hy : ev σ y = .pointer (some a)) : Rn Tryd.prog σ S (.binOp .neq 39 x y t') ty (.bool false) := by
  obtain ⟨j, hj, hjs⟩ := Option.map_eq_some_iff.1 (show (Tryd.prog.info? 41).map (·.size) = some 2 by kernel_rfl)
  exact r_bin hx hy (fun W => by
    have := run_neq_ptr_same (P := Tryd.prog) W a Tryd.underlying39 hj
    simp [eqGuard, this])
theorem c_bld_copy (g : Nat) {A0 : Option Addr} (hP : A0 = none ∨ A0 = some ⟨g, 0, none⟩) (v : Value) :
    Cn Tryd.prog 27 #[.pointer (some ⟨g, 0, none⟩)] ⟨w0, M, (1000, g, .cells #[.pointer A0, v] 41 (0, 0)) :: H, R, φ⟩ (fun _ : Unit => .tuple #[]) (fun _ => True) (fun _ => ⟨w0, M, (1000, g, .cells #[.pointer (some ⟨g, 0, none⟩), v] 41 (0, 0)) :: H, R, φ⟩) := by
 refine cn_intro (fn := Tryd.f27) (N := 20) Tryd.func27 rfl Tryd.ntmps27 rfl ?_
 refine c_seq ?_
 refine c_region ?_
 refine g_v rfl r_move ?_
 refine g_v rfl (r_nilck rfl) ?_
 refine g_v rfl (r_field (n := 0) Tryd.underlying41 rfl Tryd.sizeOf39 rfl rfl) ?_
 refine g_v rfl (r_load (tag := 1000) rfl rfl rfl Tryd.isAgg39) ?_
 rcases hP with rfl | rfl
 ·
  refine g_v rfl (r_eqlP2 Tryd.underlying39 rfl rfl) ?_
  refine g_nil ?_
  refine d_then ?_
  refine c_cond1 rfl rfl ?_
  refine c_region ?_
  refine g_v rfl r_move ?_
  refine g_v rfl r_move ?_
  refine g_v rfl (r_toU (tag := 1000) rfl rfl rfl) ?_
  refine g_v rfl (r_noesc rfl) ?_
  refine g_v rfl (r_fromU (tag := 1000) rfl rfl rfl) ?_
  refine g_v rfl (r_nilck rfl) ?_
  refine g_v rfl (r_field (n := 0) Tryd.underlying41 rfl Tryd.sizeOf39 rfl rfl) ?_
  refine g_storeL (tag := 1000) rfl rfl rfl rfl Tryd.sizeOf39 rfl rfl ?_
  refine g_nil ?_
  refine d_retC () Tryd.results27 ?_ trivial (fun W h => h) (.inl rfl)
  exact ⟨[], trivial, rfl⟩
 ·
  refine g_v rfl (r_eqlP1 Tryd.underlying39 rfl rfl) ?_
  refine g_nil ?_
  refine d_then ?_
  refine c_cond0 rfl rfl ?_
  refine c_seq ?_
  refine c_region ?_
  refine g_v rfl r_move ?_
  refine g_v rfl (r_nilck rfl) ?_
  refine g_v rfl (r_field (n := 0) Tryd.underlying41 rfl Tryd.sizeOf39 rfl rfl) ?_
  refine g_v rfl (r_load (tag := 1000) rfl rfl rfl Tryd.isAgg39) ?_
  refine g_v rfl r_move ?_
  refine g_v rfl (r_neqSame rfl rfl) ?_
  refine g_nil ?_
  refine d_then ?_
  refine c_cond0 rfl rfl ?_
  refine c_skip ?_
  refine d_retC () Tryd.results27 ?_ trivial (fun W h => h) (.inl rfl)
  exact ⟨[], trivial, rfl⟩
theorem lit_u8 (z0 : Int) : Tryd.prog.builtSlice 5 1 [(0, .int .u8 z0)] = some #[.int .u8 z0] := by kernel_rfl
theorem inf_u8 : (Tryd.prog.info? 5).map (fun i => (i.zero, i.size, i.bytes)) = some (some (.int .u8 0), 1, 1) := by kernel_rfl
theorem c_bld_WriteByte {g : Nat} {A0 A : Option Addr} (hP : A0 = none ∨ A0 = some ⟨g, 0, none⟩) {l l2 : List Int} {c : Nat} (hc : l.length ≤ c) {b : Int} (hm : app 1 l [b] = some l2) :
    Cn Tryd.prog 18 #[.pointer (some ⟨g, 0, none⟩), .int .u8 b] ⟨w0, M, (1000, g, .cells #[.pointer A0, .slice A l.length c] 41 (0, 0)) :: H, (1000, ⟨.slice A l.length c, 5, 1, l.length, l.flatMap (fun x : Int => [Value.int .u8 x])⟩) :: R, φ⟩
      (fun _ : Option Addr × Nat => .nilIface) (fun x => l2.length ≤ x.2)
      (fun x => ⟨w0, M, (1000, g, .cells #[.pointer (some ⟨g, 0, none⟩), .slice x.1 l2.length x.2] 41 (0, 0)) :: H, (1000, ⟨.slice x.1 l2.length x.2, 5, 1, l2.length, l2.flatMap (fun x : Int => [Value.int .u8 x])⟩) :: R, φ⟩) := by
 refine cn_intro (fn := Tryd.f18) (N := 17) Tryd.func18 rfl Tryd.ntmps18 rfl ?_
 refine c_seq ?_
 refine c_region ?_
 refine g_v rfl r_assign ?_
 refine g_nil ?_
 refine d_then ?_
 refine c_seq ?_
 refine c_region ?_
 refine g_v rfl r_move ?_
 refine g_cn _ (fun _ h => h) Tryd.call27 rfl rfl (c_bld_copy g hP (.slice A l.length c)) (fun _ _ => ?_)
 refine g_nil ?_
 refine d_then ?_
 refine c_seq ?_
 refine c_region ?_
 refine g_v rfl r_move ?_
 refine g_v rfl r_move ?_
 refine g_v rfl (r_nilck rfl) ?_
 refine g_v rfl (r_field (n := 1) Tryd.underlying41 rfl Tryd.sizeOf35 rfl rfl) ?_
 refine g_v rfl (r_load (tag := 1000) rfl rfl rfl Tryd.isAgg35) ?_
 refine g_v rfl r_move ?_
 refine g_e rfl (e_lit (tag := 7) (l := [b]) (enc := (fun x : Int => [Value.int .u8 x])) (sz := 1) rfl Tryd.underlying35 (lit_u8 _) rfl rfl (fun _ => rfl)) (fun g2 _ => ?_)
 refine g_e rfl (e_appR (enc := (fun x : Int => [Value.int .u8 x])) (l := l) (l1 := [b]) (l2 := l2) (tag := 1000) Tryd.underlying35 inf_u8 rfl (by decide) (by decide) (fun _ => rfl) (fun _ => rfl) rfl hc rfl rfl (fun W hS => rowCl (tag := 7) rfl W hS) hm) (fun ⟨A', c'⟩ hc' => ?_)
 refine g_v rfl (r_nilck rfl) ?_
 refine g_v rfl (r_field (n := 1) Tryd.underlying41 rfl Tryd.sizeOf35 rfl rfl) ?_
 refine g_storeL (tag := 1000) rfl rfl rfl rfl Tryd.sizeOf35 rfl rfl ?_
 refine g_nil ?_
 refine d_then ?_
 refine c_seq ?_
 refine c_region ?_
 refine g_v rfl r_assign ?_
 refine g_nil ?_
 refine d_then ?_
 refine c_ret ?_
 refine d_retC (A', c') Tryd.results18 ?_ hc' (fun W h => h.dropR (t := 7) rfl) (.inr rfl)
 refine res_tmp ?_
 refine res_nil ?_
 exact rfl
theorem c_bld_String {g : Nat} {A0 A : Option Addr} {l : List Int} {c : Nat} {s : ByteArray} (hc : l.length ≤ c) (hs : bldS l = some s) :
    Cn Tryd.prog 19 #[.pointer (some ⟨g, 0, none⟩)] ⟨w0, M, (1000, g, .cells #[.pointer A0, .slice A l.length c] 41 (0, 0)) :: H, (1000, ⟨.slice A l.length c, 5, 1, l.length, l.flatMap (fun x : Int => [Value.int .u8 x])⟩) :: R, φ⟩
      (fun _ : Unit => .string s) (fun _ => True) (fun _ => ⟨w0, M, (1000, g, .cells #[.pointer A0, .slice A l.length c] 41 (0, 0)) :: H, R, φ⟩) := by
 have h0 := (bldS_some hs).1
 have hl : 0 < l.length := List.length_pos_iff.2 h0
 refine cn_intro (fn := Tryd.f19) (N := 14) Tryd.func19 rfl Tryd.ntmps19 rfl ?_
 refine c_know (∃ ad, A = some ad) (fun W hS => ?_) (fun had => ?_)
 · exact (rowCl (tag := 1000) rfl W hS).is_some (by rw [fm_length (sz := 1) (fun _ => rfl)]; omega)
 obtain ⟨ad, rfl⟩ := had
 refine c_seq ?_
 refine c_region ?_
 refine g_v rfl r_assign ?_
 refine g_nil ?_
 refine d_then ?_
 refine c_seq ?_
 refine ga_start (n := 12) ⟨w0, M, (1000, g, .cells #[.pointer A0, .slice (some ad) l.length c] 41 (0, 0)) :: H, R, φ⟩ [] #[false, false, false, false, false, false, false, false, false, false, false, false] (fun W h => h.dropR (t := 1000) rfl) mixed rfl rfl ?_
 refine ga_v (i := 0) #[true, false, false, false, false, false, false, false, false, false, false, false] rfl (by kernel_rfl) (fun _ _ _ _ h => h) rfl r_move ?_
 refine ga_v (i := 1) #[true, true, false, false, false, false, false, false, false, false, false, false] rfl (by kernel_rfl) (fun _ _ _ _ h => h) rfl (r_nilck rfl) ?_
 refine ga_v (i := 2) #[true, true, true, false, false, false, false, false, false, false, false, false] rfl (by kernel_rfl) (fun _ _ _ _ h => h) rfl (r_field (n := 1) Tryd.underlying41 rfl Tryd.sizeOf35 rfl rfl) ?_
 refine ga_v (i := 3) #[true, true, true, true, false, false, false, false, false, false, false, false] rfl (by kernel_rfl) (fun _ _ _ _ h => h) rfl (r_load (tag := 1000) rfl rfl rfl Tryd.isAgg35) ?_
 refine ga_v (i := 4) #[true, true, true, true, true, false, false, false, false, false, false, false] rfl (by kernel_rfl) (fun _ _ _ _ h => h) rfl (r_usd (by omega) rfl) ?_
 refine ga_v (i := 5) #[true, true, true, true, true, true, false, false, false, false, false, false] rfl (by kernel_rfl) (fun _ _ _ _ h => h) rfl r_move ?_
 refine ga_v (i := 6) #[true, true, true, true, true, true, true, false, false, false, false, false] rfl (by kernel_rfl) (fun _ _ _ _ h => h) rfl (r_nilck rfl) ?_
 refine ga_v (i := 7) #[true, true, true, true, true, true, true, true, false, false, false, false] rfl (by kernel_rfl) (fun _ _ _ _ h => h) rfl (r_field (n := 1) Tryd.underlying41 rfl Tryd.sizeOf35 rfl rfl) ?_
 refine ga_v (i := 8) #[true, true, true, true, true, true, true, true, true, false, false, false] rfl (by kernel_rfl) (fun _ _ _ _ h => h) rfl (r_load (tag := 1000) rfl rfl rfl Tryd.isAgg35) ?_
 refine ga_v (i := 9) #[true, true, true, true, true, true, true, true, true, true, false, false] rfl (by kernel_rfl) (fun _ _ _ _ h => h) rfl (r_lenL Tryd.underlying35 rfl) ?_
 refine ga_e (i := 10) #[true, true, true, true, true, true, true, true, true, true, true, false] rfl (by kernel_rfl) (by decide) rfl (e_ustr (tag := 1000) (l := l) (c := c) Tryd.underlying57 (by kernel_rfl) rfl rfl rfl hs) (fun _ W _ h => h) (fun _ _ => ?_)
 refine ga_r (i := 11) #[true, true, true, true, true, true, true, true, true, true, true, true] rfl (by kernel_rfl) (by decide) rfl r_assign ?_
 refine ga_done (by kernel_rfl) ?_
 refine d_then ?_
 refine c_ret ?_
 refine d_retC () Tryd.results19 ?_ trivial (fun W h => h) (.inr rfl)
 refine res_tmp ?_
 refine res_nil ?_
 exact rfl
end
end Go.Proofs.YtkmkpodioedlfaaDoor
