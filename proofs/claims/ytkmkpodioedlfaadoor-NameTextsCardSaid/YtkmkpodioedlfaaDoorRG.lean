/- A loop over name.each that collects (own work). -/
import Derived.Test.YtkmkpodioedlfaaDoorRF
set_option maxRecDepth 16384
set_option maxHeartbeats 4000000
set_option linter.unusedVariables false
set_option linter.unusedSimpArgs false
namespace Go.Proofs.YtkmkpodioedlfaaDoor
open Go.RowKit Go.Proofs.YtkmkpodioedlfaaDoorW.PrintLast
/-- A closure over two new boxes: where the end is told; the text. -/
theorem c_each {w0 : World} {M : Nat → Prop} {H : List (Nat × Nat × Obj)} {R : List (Nat × Row)} {φ : World → Prop} (n : ByteArray) (gE : Nat) :
    Cn Tryd.prog 22 #[.string n, .pointer (some ⟨gE, 0, none⟩)] ⟨w0, M, H, R, φ⟩ (fun x : Nat × Nat => .func (.func 31) #[] #[.pointer (some ⟨x.1, 0, none⟩), .pointer (some ⟨x.2, 0, none⟩)]) (fun _ => True)
      (fun x => ⟨w0, M, (3000, x.1, .cells #[.pointer (some ⟨gE, 0, none⟩)] 49 (0, 0)) :: (3001, x.2, .cells #[.string n] 9 (0, 0)) :: H, R, φ⟩) := by
 refine cn_intro (fn := Tryd.f22) (N := 6) Tryd.func22 rfl Tryd.ntmps22 rfl ?_
 refine c_seq ?_
 refine c_region ?_
 refine g_e rfl (e_box 3001 rfl) (fun gN _ => ?_)
 refine g_e rfl (e_box 3000 rfl) (fun gP _ => ?_)
 refine g_v rfl r_assign ?_
 refine g_nil ?_
 refine d_then ?_
 refine c_seq ?_
 refine c_region ?_
 refine g_v rfl (r_mkf rfl) ?_
 refine g_v rfl r_assign ?_
 refine g_nil ?_
 refine d_then ?_
 refine c_ret ?_
 refine d_retC (gP, gN) Tryd.results22 ?_ trivial (fun W h => h) (.inr rfl)
 refine res_tmp ?_
 refine res_nil ?_
 exact rfl
section
variable {Q : Exit → Act → World → Prop} {n : Nat} {σ : Fr} {w0 : World} {M : Nat → Prop} {H : List (Nat × Nat × Obj)} {R : List (Nat × Row)} {φ : World → Prop}
theorem slice_cap {S : Sta} {W : World} (hS : S.ok W) {tag len c e sz : Nat} {A : Option Addr} {xs : List Value} (hR : fR tag S.R = some ⟨.slice A len c, e, sz, len, xs⟩) : len ≤ c := by
  have h : W.ownsRow S.w0.heap.size e sz (.slice A len c) len xs := rowOf hS hR
  obtain ⟨A', c', hv, hc⟩ := own_shape h
  injection hv with _ _ h3
  omega
theorem c_collect {β : Type} (f : Int × ByteArray → β) (enc1 : β → Value) {gE gP gN gO tg po src i1 i2 b et SL bytes tx : Nat} {s : ByteArray} {z : Value} {p0 p1 p2 p3 p4 p5 : String} {af0 af1 af2 af3 af4 af5 : Array Edge} {ty1 ty2 ty3 ty4 ty5 : TypeId} {l1 l2 : List Oper}
    (hl1 : l1 = [⟨some 7, .assign (.tmp src), tx, p0, af0, none⟩])
    (hl2 : l2 = [⟨some 12, .load SL (.tmp po), ty1, p1, af1, none⟩, ⟨some 13, .move (.tmp 7), ty2, p2, af2, none⟩, ⟨some 14, .buildSlice SL 1 #[(0, .tmp 13)], ty3, p3, af3, none⟩, ⟨some 15, .call ⟨.builtin .append, #[.tmp 12, .tmp 14], #[SL, SL]⟩, ty4, p4, af4, none⟩, ⟨none, .store SL (.tmp po) (.tmp 15), ty5, p5, af5, none⟩])
    (hs : s.size ≤ 1099511627776) (hpo : po = 4 ∨ po = 5) (hsrc : (src = 11 ∧ ∀ x, enc1 (f x) = .string x.2) ∨ (src = 10 ∧ ∀ x, enc1 (f x) = .int .i64 x.1))
    (hsl : Tryd.prog.underlying SL = some (.slice et)) (hinfo : (Tryd.prog.info? et).map (fun i => (i.zero, i.size, i.bytes)) = some (some z, 1, bytes)) (hz : z.cells.size = 1) (hb0 : 0 < bytes) (hb1 : bytes ≤ 16)
    (hlit : ∀ x : β, Tryd.prog.builtSlice et 1 [(0, enc1 x)] = some #[enc1 x]) (hone : ∀ x : β, one1 [enc1 x] = true) (hsz : ∀ W, (sizeOf SL).run Tryd.prog W = .ok 1 W) (hag : ∀ W, (isAgg SL).run Tryd.prog W = .ok false W)
    (hn : Nat.ble 16 n = true) (hg : σ tg = .func (.func 31) #[] #[.pointer (some ⟨gP, 0, none⟩), .pointer (some ⟨gN, 0, none⟩)]) (ho : σ po = .pointer (some ⟨gO, 0, none⟩))
    (h : ∀ A c D, ((eachP s).1.map f).length ≤ c → DD Q ⟨n, [markD D]⟩ .normal σ ⟨w0, M, (5, D, .deferred (some [])) :: (0, gE, .cells #[.int .i64 (eachP s).2] 3 (0, 0)) :: (1, gP, .cells #[.pointer (some ⟨gE, 0, none⟩)] 49 (0, 0)) :: (2, gN, .cells #[.string s] 9 (0, 0)) :: (3, gO, .cells #[.slice A ((eachP s).1.map f).length c] SL (0, 0)) :: H,
      (4, ⟨.slice A ((eachP s).1.map f).length c, et, 1, ((eachP s).1.map f).length, ((eachP s).1.map f).flatMap (fun x => [enc1 x])⟩) :: R, φ⟩) :
    CC Tryd.prog Q ⟨n, []⟩ (.rangeFunc (.tmp tg) #[10, 11] (.region i1 l1.toArray false)
      (.block b (.region i2 l2.toArray false)))
      σ ⟨w0, M, (0, gE, .cells #[.int .i64 0] 3 (0, 0)) :: (1, gP, .cells #[.pointer (some ⟨gE, 0, none⟩)] 49 (0, 0)) :: (2, gN, .cells #[.string s] 9 (0, 0)) :: (3, gO, .cells #[.slice none 0 0] SL (0, 0)) :: H, (4, ⟨.slice none 0 0, et, 1, 0, []⟩) :: R, φ⟩ := by
  have hnn : ∀ k, k ≤ 15 → Nat.blt k n = true := fun k hk => by have := Nat.le_of_ble_eq_true hn; exact Nat.ble_eq_true_of_le (by omega)
  refine c_range (tD := 5) (tL := 6) (ι := Option Addr × Nat) (gf := 31) (lb := #[.pointer (some ⟨gP, 0, none⟩), .pointer (some ⟨gN, 0, none⟩)])
    (H' := fun i _ => (0, gE, .cells #[.int .i64 (eachP s).2] 3 (0, 0)) :: (1, gP, .cells #[.pointer (some ⟨gE, 0, none⟩)] 49 (0, 0)) :: (2, gN, .cells #[.string s] 9 (0, 0)) :: (3, gO, .cells #[.slice i.1 ((eachP s).1.map f).length i.2] SL (0, 0)) :: H)
    (R' := fun i => (4, ⟨.slice i.1 ((eachP s).1.map f).length i.2, et, 1, ((eachP s).1.map f).length, ((eachP s).1.map f).flatMap (fun x => [enc1 x])⟩) :: R) hg Tryd.call31 ?_ (fun i D => ?_)
  · intro fn tmps D L W ha hS
    have hS1 := ok_front (t := 3) (t' := 3) hS rfl
    have hS2 := ok_front (t := 2) (t' := 2) hS1 rfl
    have hS3 := ok_front (t := 1) (t' := 1) hS2 rfl
    have hS4 := ok_front (t := 0) (t' := 0) hS3 rfl
    refine ((each1 (w0 := w0) (M := M) (φ := φ) (ι := Option Addr × Nat)
      (fun pre i => (3, gO, .cells #[.slice i.1 (pre.map f).length i.2] SL (0, 0)) :: (6, L, recL fn tmps #[10, 11] (.region i1 l1.toArray false) (.block b (.region i2 l2.toArray false)) D .ready) :: (5, D, .deferred (some [])) :: H)
      (fun pre i => (4, ⟨.slice i.1 (pre.map f).length i.2, et, 1, (pre.map f).length, (pre.map f).flatMap (fun x => [enc1 x])⟩) :: R) s gE gP gN hs L (none, 0) ?_) W hS4).mono ?_
    · intro pre x i hpre W1 hW1
      have hcap : (pre.map f).length ≤ i.2 := slice_cap (tag := 4) hW1 rfl
      have hap : app bytes (pre.map f) [f x] = some (pre.map f ++ [f x]) := app_of (by
        rw [List.length_map, List.length_singleton]
        refine Nat.le_trans (Nat.mul_le_mul_left _ hb1) ?_
        omega)
      have ha1 : Okf { tmps := (tmps.setIfInBounds 10 (.int .i64 x.1)).setIfInBounds 11 (.string x.2), defers := [] } (up (up σ 10 (.int .i64 x.1)) 11 (.string x.2)) ⟨n, []⟩ := (ha.put (hnn 10 (by decide))).put (hnn 11 (by decide))
      refine Exists.elim (round_of (P := Tryd.prog) (N := n) (tmps := tmps) (ps := #[10, 11]) (args := #[.int .i64 x.1, .string x.2]) (D := D) (i1 := i1) (i2 := i2) (b := b) (l1 := l1) (l2 := l2) (σ0 := up (up σ 10 (.int .i64 x.1)) 11 (.string x.2)) (σ1 := up (up (up σ 10 (.int .i64 x.1)) 11 (.string x.2)) 7 (enc1 (f x))) (ι := Option Addr × Nat) (tL := 6) (L := L)
        (S' := fun j => ⟨w0, M, (0, gE, .cells #[.int .i64 (-1)] 3 (0, 0)) :: (1, gP, .cells #[.pointer (some ⟨gE, 0, none⟩)] 49 (0, 0)) :: (2, gN, .cells #[.string s] 9 (0, 0)) :: (3, gO, .cells #[.slice j.1 (pre.map f ++ [f x]).length j.2] SL (0, 0)) :: (6, L, recL fn tmps #[10, 11] (.region i1 l1.toArray false) (.block b (.region i2 l2.toArray false)) D .busy) :: (5, D, .deferred (some [])) :: H,
          (4, ⟨.slice j.1 (pre.map f ++ [f x]).length j.2, et, 1, (pre.map f ++ [f x]).length, (pre.map f ++ [f x]).flatMap (fun x => [enc1 x])⟩) :: R, φ⟩)
        rfl rfl (by simpa using ha1) (fun o ho c => by subst hl1; simp only [List.mem_singleton] at ho; subst ho; exact fun h => by cases h) (fun o ho c => by subst hl2; simp only [List.mem_cons, List.not_mem_nil, or_false] at ho; rcases ho with rfl | rfl | rfl | rfl | rfl <;> exact fun h => by cases h)
        (fun Q hq => ?_) (fun Q hq => ?_) (fun j W3 h3 => (h3.has (6, L, _) (List.mem_cons_of_mem _ (List.mem_cons_of_mem _ (List.mem_cons_of_mem _ (List.mem_cons_of_mem _ List.mem_cons_self))))).2) W1 hW1) (fun q1 hq => ?_)
      · subst hl1
        refine g_v (hnn 7 (by decide)) r_assign (g_nil ?_)
        have e : ev (up (up σ 10 (.int .i64 x.1)) 11 (.string x.2)) (.tmp src) = enc1 (f x) := by
          rcases hsrc with ⟨rfl, hx⟩ | ⟨rfl, hx⟩
          · exact (hx x).symm
          · exact (hx x).symm
        rw [e]; exact hq
      · subst hl2
        have hop : ∀ v1 v2 v3, up (up (up σ 10 v1) 11 v2) 7 v3 po = .pointer (some ⟨gO, 0, none⟩) := fun v1 v2 v3 => by rcases hpo with rfl | rfl <;> exact ho
        have hop2 : ∀ v1 v2 v3 v4 v5 v6 v7, up (up (up (up (up (up (up σ 10 v1) 11 v2) 7 v3) 12 v4) 13 v5) 14 v6) 15 v7 po = .pointer (some ⟨gO, 0, none⟩) := fun v1 v2 v3 v4 v5 v6 v7 => by rcases hpo with rfl | rfl <;> exact ho
        refine g_v (hnn 12 (by decide)) (r_load (tag := 3) (hop _ _ _) rfl rfl hag) ?_
        refine g_v (hnn 13 (by decide)) r_move ?_
        refine g_e (hnn 14 (by decide)) (e_lit (tag := 7) (l := [f x]) (enc := fun y => [enc1 y]) (sz := 1) rfl hsl (hlit _) rfl rfl (fun _ => rfl)) (fun g _ => ?_)
        refine g_e (hnn 15 (by decide)) (e_appR (enc := fun y => [enc1 y]) (l := pre.map f) (l1 := [f x]) (l2 := pre.map f ++ [f x]) (tag := 4) hsl hinfo hz (by decide) hb0 (fun _ => rfl) hone rfl hcap rfl rfl (fun W hS => rowCl (tag := 7) rfl W hS) hap) (fun ⟨A', c'⟩ hc' => ?_)
        refine g_storeL (tag := 3) (hop2 _ _ _ _ _ _ _) rfl rfl rfl hsz rfl rfl ?_
        refine g_nil ?_
        refine d_sta _ (fun W h => h.dropR (t := 7) rfl) ?_
        exact hq (A', c') _
      · obtain ⟨q2, q3, q4, q5, q6⟩ := hq
        refine ⟨q1, q2, q3, q4, q5, q6.mono ?_⟩
        rintro e W' ⟨rfl, j, W3, h3, rfl⟩
        refine ⟨rfl, j, ?_⟩
        have h4 := h3.put (t := 6) (g := L) (o' := recL fn tmps #[10, 11] (.region i1 l1.toArray false) (.block b (.region i2 l2.toArray false)) D .ready) rfl
        have e : (pre ++ [x]).map f = pre.map f ++ [f x] := by simp
        unfold stE
        dsimp only
        rw [e]
        exact h4
    · rintro e W' ⟨i, rfl, _, h5⟩
      refine ⟨_, i, rfl, ?_⟩
      have k1 := ok_front (t := 5) (t' := 5) h5 rfl
      have k2 := ok_front (t := 6) (t' := 6) k1 rfl
      exact k2
  · refine d_know _ (fun W hS => slice_cap (tag := 4) hS rfl) (fun hc => ?_)
    exact h i.1 i.2 D hc
end
end Go.Proofs.YtkmkpodioedlfaaDoor
