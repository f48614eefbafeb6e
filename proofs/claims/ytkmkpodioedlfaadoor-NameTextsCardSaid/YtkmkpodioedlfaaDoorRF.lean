/- name.each and what it is ranged over with (own work). -/
import Derived.Test.YtkmkpodioedlfaaDoorSR
import Derived.Test.YtkmkpodioedlfaaDoorQL
set_option maxRecDepth 16384
set_option maxHeartbeats 4000000
set_option linter.unusedVariables false
set_option linter.unusedSimpArgs false
namespace Go.Proofs.YtkmkpodioedlfaaDoor
open Go.RowKit Go.Proofs.YtkmkpodioedlfaaDoorW.PrintLast
/-- The labels from a place on, with where each begins; what is behind the last one; below 0: no row. -/
def eachAt (n : ByteArray) : Nat → Nat → List (Int × ByteArray) × Int
  | 0, at' => ([], at')
  | f + 1, at' => if at' < n.size ∧ byteAt n at' ≠ 0 then
      (if 63 < byteAt n at' ∨ n.size < at' + 1 + (byteAt n at').toNat then ([], -1)
       else (((at' : Int), n.extract (at' + 1) (at' + 1 + (byteAt n at').toNat)) :: (eachAt n f (at' + 1 + (byteAt n at').toNat)).1, (eachAt n f (at' + 1 + (byteAt n at').toNat)).2))
    else ([], at')
def eachP (n : ByteArray) : List (Int × ByteArray) × Int := eachAt n n.size 0
def eachM (n : ByteArray) : Option (List (Int × ByteArray) × Int) := if n.size ≤ 1099511627776 then some (eachP n) else none
theorem eachM_some {n : ByteArray} {z : List (Int × ByteArray) × Int} (h : eachM n = some z) : n.size ≤ 1099511627776 ∧ z = eachP n := by
  unfold eachM at h
  split at h
  · rename_i h0; injection h with h; exact ⟨h0, h.symm⟩
  · cases h
section
variable {w0 : World} {M : Nat → Prop} {φ : World → Prop} {ι : Type} (HH : List (Int × ByteArray) → ι → List (Nat × Nat × Obj)) (RR : List (Int × ByteArray) → ι → List (Nat × Row)) (n : ByteArray) (gE gP gN : Nat)
abbrev stE (w0 : World) (M : Nat → Prop) (φ : World → Prop) (pre : List (Int × ByteArray)) (i : ι) (v : Int) : Sta := ⟨w0, M, (0, gE, .cells #[.int .i64 v] 3 (0, 0)) :: (1, gP, .cells #[.pointer (some ⟨gE, 0, none⟩)] 49 (0, 0)) :: (2, gN, .cells #[.string n] 9 (0, 0)) :: HH pre i, RR pre i, φ⟩
theorem each1 (hn : n.size ≤ 1099511627776) (L : Nat) (i0 : ι)
    (hY : ∀ (pre : List (Int × ByteArray)) (x : Int × ByteArray) (i : ι), pre.length ≤ n.size → ∀ W, (stE HH RR n gE gP gN w0 M φ pre i (-1)).ok W → YieldAt Fence.wide 0 Tryd.prog L #[.int .i64 x.1, .string x.2] W fun e W' => e = .returned (.bool true) ∧ ∃ i', (stE HH RR n gE gP gN w0 M φ (pre ++ [x]) i' (-1)).ok W') :
    Cn Tryd.prog 31 #[.func (.yield L) #[] #[], .pointer (some ⟨gP, 0, none⟩), .pointer (some ⟨gN, 0, none⟩)] (stE HH RR n gE gP gN w0 M φ [] i0 0) (fun _ : ι => .tuple #[]) (fun _ => True) (fun i => stE HH RR n gE gP gN w0 M φ (eachP n).1 i (eachP n).2) := by
 refine cn_intro (fn := Tryd.f31) (N := 54) Tryd.func31 rfl Tryd.ntmps31 rfl ?_
 refine c_seq ?_
 refine c_region ?_
 refine g_v rfl r_assign ?_
 refine g_nil ?_
 refine d_then ?_
 refine c_seq ?_
 refine c_region ?_
 refine g_v rfl (r_load (tag := 1) rfl rfl rfl Tryd.isAgg49) ?_
 refine g_v rfl (r_nilck rfl) ?_
 refine g_storeL (tag := 0) rfl rfl rfl rfl Tryd.sizeOf3 rfl rfl ?_
 refine g_nil ?_
 refine d_then ?_
 refine c_sta (stE HH RR n gE gP gN w0 M φ [] i0 (-1)) (fun _ h => h) ?_
 refine c_seq ?_
 refine c_cut (ι := List (Int × ByteArray) × Nat × ι) [1, 4] (fun ⟨pre, at', i⟩ => [(4, .int .i64 (at' : Int))]) (fun ⟨pre, at', i⟩ => stE HH RR n gE gP gN w0 M φ pre i (-1)) (fun ⟨pre, at', i⟩ => eachP n = (pre, (at' : Int))) ?_ (fun ⟨pre, at', i⟩ u hI => ?_)
 ·
  refine c_block ?_
  refine c_loopU (ι := Nat × Nat × List (Int × ByteArray) × ι) [0, 1, 2, 4] (fun ⟨f, at', pre, i⟩ => [(4, .int .i64 (at' : Int))]) (fun ⟨f, at', pre, i⟩ => stE HH RR n gE gP gN w0 M φ pre i (-1))
    (fun ⟨f, at', pre, i⟩ => n.size ≤ at' + f ∧ at' ≤ n.size ∧ pre.length ≤ at' ∧ eachP n = (pre ++ (eachAt n f at').1, (eachAt n f at').2)) (fun ⟨f, at', pre, i⟩ => f) (n.size, 0, [], i0) ⟨by omega, by omega, Nat.le_refl _, rfl⟩ ⟨rfl, rfl, rfl, rfl, trivial⟩ (fun W h => h) (fun ⟨f, at', pre, i⟩ u ⟨h1, h2, h3, h4⟩ => ?_)
  refine c_flat [(0, .func (.yield L) #[] #[]), (1, .pointer (some ⟨gP, 0, none⟩)), (2, .pointer (some ⟨gN, 0, none⟩)), (4, .int .i64 (at' : Int))] ⟨rfl, rfl, rfl, rfl, trivial⟩ (fun u => ?_)
  refine c_sta (stE HH RR n gE gP gN w0 M φ pre i (-1)) (fun _ h => h) ?_
  have hby := byteAt_lt n at'
  have hout : ¬ (at' < n.size ∧ byteAt n at' ≠ 0) → eachP n = (pre, (at' : Int)) := fun hc => by
    rw [h4]
    cases f with
    | zero => simp [eachAt]
    | succ f => simp only [eachAt, if_neg hc, List.append_nil]
  refine c_seq ?_
  refine c_seq ?_
  refine c_region ?_
  refine g_v rfl r_move ?_
  refine g_v rfl (r_load (tag := 2) rfl rfl rfl Tryd.isAgg9) ?_
  refine g_v rfl (r_len Tryd.underlying9 rfl) ?_
  refine g_v rfl (r_lss rfl rfl) ?_
  refine g_v rfl r_move ?_
  refine g_if rfl rfl rfl rfl rfl (fun hg => ?_) (fun hg => ?_)
  ·
   have hlt : at' < n.size := by have := of_decide_eq_true hg; omega
   refine g_v rfl (r_load (tag := 2) rfl rfl rfl Tryd.isAgg9) ?_
   refine g_do rfl rfl rfl rfl rfl hg ?_
   refine g_v rfl r_move ?_
   refine g_do rfl rfl rfl rfl rfl hg ?_
   refine g_v rfl (r_sat Tryd.underlying9 rfl rfl (sat_of (by omega) (by omega))) ?_
   refine g_do rfl rfl rfl rfl rfl hg ?_
   refine g_v rfl (r_neq rfl rfl) ?_
   refine g_v rfl (r_pick1 rfl hg) ?_
   refine g_nil ?_
   refine d_then ?_
   refine c_flat [(0, .func (.yield L) #[] #[]), (1, .pointer (some ⟨gP, 0, none⟩)), (2, .pointer (some ⟨gN, 0, none⟩)), (4, .int .i64 (at' : Int)), (17, .bool (decide (byteAt n at' ≠ 0)))] ⟨rfl, rfl, rfl, rfl, rfl, trivial⟩ (fun u => ?_)
   refine c_sta (stE HH RR n gE gP gN w0 M φ pre i (-1)) (fun _ h => h) ?_
   refine c_cond rfl (fun hb => ?_) (fun hb => ?_)
   ·
    have hne : byteAt n at' ≠ 0 := of_decide_eq_true hb
    obtain ⟨f, rfl⟩ : ∃ g, f = g + 1 := ⟨f - 1, by omega⟩
    have hk : (byteAt n at').toNat ≤ 255 := by omega
    have hkI : (((byteAt n at').toNat : Nat) : Int) = byteAt n at' := by omega
    have hw : w64 (byteAt n at') = byteAt n at' := w64_id (by omega) (by omega)
    have hw1 : w64 ((at' : Int) + 1) = (at' : Int) + 1 := w64_id (by omega) (by omega)
    have hw2 : w64 ((at' : Int) + 1 + byteAt n at') = (at' : Int) + 1 + byteAt n at' := w64_id (by omega) (by omega)
    refine c_skip ?_
    refine d_then ?_
    refine c_block ?_
    refine c_seq ?_
    refine c_region ?_
    refine g_v rfl (r_load (tag := 2) rfl rfl rfl Tryd.isAgg9) ?_
    refine g_v rfl r_move ?_
    refine g_v rfl (r_sat Tryd.underlying9 rfl rfl (sat_of (by omega) (by omega))) ?_
    refine g_v rfl (r_conv Tryd.underlying5 Tryd.underlying3 rfl hw) ?_
    refine g_v rfl r_assign ?_
    refine g_nil ?_
    refine d_then ?_
    refine c_seq ?_
    refine c_seq ?_
    have hbad : (63 < byteAt n at' ∨ n.size < at' + 1 + (byteAt n at').toNat) → eachP n = (pre, -1) := fun hc => by
      rw [h4]; simp only [eachAt, if_pos (And.intro hlt hne), if_pos hc, List.append_nil]
    refine c_flat [(0, .func (.yield L) #[] #[]), (1, .pointer (some ⟨gP, 0, none⟩)), (2, .pointer (some ⟨gN, 0, none⟩)), (4, .int .i64 (at' : Int)), (5, .int .i64 (byteAt n at'))] ⟨rfl, rfl, rfl, rfl, rfl, trivial⟩ (fun u => ?_)
    refine c_regionI ?_
    refine gi_v rfl r_move ?_
    refine gi_v rfl (r_gtr rfl rfl) ?_
    refine gi_v rfl r_move ?_
    refine gi_if rfl rfl rfl rfl rfl (fun h63 => ?_) (fun h63 => ?_)
    ·
     have h63' : ¬ 63 < byteAt n at' := of_decide_eq_false h63
     refine gi_v rfl r_move ?_
     refine gi_do rfl rfl rfl rfl rfl h63 ?_
     refine gi_v rfl (r_add rfl rfl hw1) ?_
     refine gi_do rfl rfl rfl rfl rfl h63 ?_
     refine gi_v rfl r_move ?_
     refine gi_do rfl rfl rfl rfl rfl h63 ?_
     refine gi_v rfl (r_add rfl rfl hw2) ?_
     refine gi_do rfl rfl rfl rfl rfl h63 ?_
     refine gi_v rfl (r_load (tag := 2) rfl rfl rfl Tryd.isAgg9) ?_
     refine gi_do rfl rfl rfl rfl rfl h63 ?_
     refine gi_v rfl (r_len Tryd.underlying9 rfl) ?_
     refine gi_do rfl rfl rfl rfl rfl h63 ?_
     refine gi_v rfl (r_gtr rfl rfl) ?_
     refine gi_v rfl (r_pick0 rfl h63) ?_
     refine gi_v rfl r_move ?_
     refine gi_if rfl rfl rfl rfl rfl (fun hsz => ?_) (fun hsz => ?_)
     ·
      have hsz' : ¬ n.size < at' + 1 + (byteAt n at').toNat := by have := of_decide_eq_false hsz; omega
      refine gi_v rfl r_move ?_
      refine gi_do rfl rfl rfl rfl rfl hsz ?_
      refine gi_v rfl r_move ?_
      refine gi_do rfl rfl rfl rfl rfl hsz ?_
      refine gi_v rfl (r_load (tag := 2) rfl rfl rfl Tryd.isAgg9) ?_
      refine gi_do rfl rfl rfl rfl rfl hsz ?_
      refine gi_v rfl r_move ?_
      refine gi_do rfl rfl rfl rfl rfl hsz ?_
      refine gi_v rfl (r_add rfl rfl hw1) ?_
      refine gi_do rfl rfl rfl rfl rfl hsz ?_
      refine gi_v rfl r_move ?_
      refine gi_do rfl rfl rfl rfl rfl hsz ?_
      refine gi_v rfl (r_add rfl rfl hw1) ?_
      refine gi_do rfl rfl rfl rfl rfl hsz ?_
      refine gi_v rfl r_move ?_
      refine gi_do rfl rfl rfl rfl rfl hsz ?_
      refine gi_v rfl (r_add rfl rfl hw2) ?_
      refine gi_do rfl rfl rfl rfl rfl hsz ?_
      have hcut : scutMid n ((at' : Int) + 1) ((at' : Int) + 1 + byteAt n at') = some (n.extract (at' + 1) (at' + 1 + (byteAt n at').toNat)) := by
        unfold scutMid
        rw [if_pos (by omega), show ((at' : Int) + 1).toNat = at' + 1 by omega, show ((at' : Int) + 1 + byteAt n at').toNat = at' + 1 + (byteAt n at').toNat by omega]
      refine gi_v rfl (r_scutMid Tryd.underlying9 rfl rfl rfl hcut) ?_
      refine gi_do rfl rfl rfl rfl rfl hsz ?_
      refine gi_yield (L := L) (S' := fun i' => stE HH RR n gE gP gN w0 M φ (pre ++ [((at' : Int), n.extract (at' + 1) (at' + 1 + (byteAt n at').toNat))]) i' (-1)) rfl rfl rfl (hY pre ((at' : Int), n.extract (at' + 1) (at' + 1 + (byteAt n at').toNat)) i (by omega)) (fun i' => ?_)
      refine gi_do rfl rfl rfl rfl rfl hsz ?_
      refine gi_v rfl (r_not rfl) ?_
      refine gi_v rfl (r_pick0 rfl hsz) ?_
      refine gi_nil ?_
      refine d_then ?_
      refine c_flat [(0, .func (.yield L) #[] #[]), (1, .pointer (some ⟨gP, 0, none⟩)), (2, .pointer (some ⟨gN, 0, none⟩)), (4, .int .i64 (at' : Int)), (5, .int .i64 (byteAt n at')), (46, .bool false)] ⟨rfl, rfl, rfl, rfl, rfl, rfl, trivial⟩ (fun u => ?_)
      refine c_cond0 rfl rfl ?_
      refine c_skip ?_
      refine d_then ?_
      refine c_region ?_
      refine g_v rfl r_move ?_
      refine g_v rfl r_move ?_
      have hw3 : w64 (1 + byteAt n at') = 1 + byteAt n at' := w64_id (by omega) (by omega)
      have hw4 : w64 ((at' : Int) + (1 + byteAt n at')) = ((at' + 1 + (byteAt n at').toNat : Nat) : Int) := by rw [w64_id (by omega) (by omega)]; omega
      refine g_v rfl (r_add rfl rfl hw3) ?_
      refine g_v rfl (r_add rfl rfl hw4) ?_
      refine g_v rfl r_assign ?_
      refine g_nil ?_
      refine d_normal_block ?_
      refine d_round (f, at' + 1 + (byteAt n at').toNat, pre ++ [((at' : Int), n.extract (at' + 1) (at' + 1 + (byteAt n at').toNat))], i') ⟨by omega, by omega, by simp; omega, ?_⟩ (Nat.lt_succ_self f) ⟨rfl, rfl, rfl, rfl, trivial⟩ (fun W h => h)
      rw [h4]
      simp only [eachAt, if_pos (And.intro hlt hne), if_neg (not_or.2 ⟨h63', hsz'⟩), List.append_assoc, List.singleton_append]
     ·
      have hsz' : n.size < at' + 1 + (byteAt n at').toNat := by have := of_decide_eq_true hsz; omega
      refine gi_no rfl rfl rfl rfl rfl hsz ?_
      refine gi_no rfl rfl rfl rfl rfl hsz ?_
      refine gi_no rfl rfl rfl rfl rfl hsz ?_
      refine gi_no rfl rfl rfl rfl rfl hsz ?_
      refine gi_no rfl rfl rfl rfl rfl hsz ?_
      refine gi_no rfl rfl rfl rfl rfl hsz ?_
      refine gi_no rfl rfl rfl rfl rfl hsz ?_
      refine gi_no rfl rfl rfl rfl rfl hsz ?_
      refine gi_no rfl rfl rfl rfl rfl hsz ?_
      refine gi_no rfl rfl rfl rfl rfl hsz ?_
      refine gi_no rfl rfl rfl rfl rfl hsz ?_
      refine gi_v rfl (r_pick1 rfl hsz) ?_
      refine gi_nil ?_
      refine d_then ?_
      refine c_cond1 rfl rfl ?_
      refine c_ret ?_
      refine d_ret_then ?_
      refine d_ret_block ?_
      refine d_ret_then ?_
      refine d_ret_block ?_
      refine d_ret_then ?_
      refine d_retC i Tryd.results31 ?_ trivial (fun W h => by rw [hbad (.inr hsz')]; exact h) (.inr rfl)
      exact ⟨[], trivial, rfl⟩
    ·
     have h63' : 63 < byteAt n at' := of_decide_eq_true h63
     refine gi_no rfl rfl rfl rfl rfl h63 ?_
     refine gi_no rfl rfl rfl rfl rfl h63 ?_
     refine gi_no rfl rfl rfl rfl rfl h63 ?_
     refine gi_no rfl rfl rfl rfl rfl h63 ?_
     refine gi_no rfl rfl rfl rfl rfl h63 ?_
     refine gi_no rfl rfl rfl rfl rfl h63 ?_
     refine gi_v rfl (r_pick1 rfl h63) ?_
     refine gi_v rfl r_move ?_
     refine gi_no rfl rfl rfl rfl rfl rfl ?_
     refine gi_no rfl rfl rfl rfl rfl rfl ?_
     refine gi_no rfl rfl rfl rfl rfl rfl ?_
     refine gi_no rfl rfl rfl rfl rfl rfl ?_
     refine gi_no rfl rfl rfl rfl rfl rfl ?_
     refine gi_no rfl rfl rfl rfl rfl rfl ?_
     refine gi_no rfl rfl rfl rfl rfl rfl ?_
     refine gi_no rfl rfl rfl rfl rfl rfl ?_
     refine gi_no rfl rfl rfl rfl rfl rfl ?_
     refine gi_no rfl rfl rfl rfl rfl rfl ?_
     refine gi_no rfl rfl rfl rfl rfl rfl ?_
     refine gi_no rfl rfl rfl rfl rfl rfl ?_
     refine gi_v rfl (r_pick1 rfl rfl) ?_
     refine gi_nil ?_
     refine d_then ?_
     refine c_cond1 rfl rfl ?_
     refine c_ret ?_
     refine d_ret_then ?_
     refine d_ret_block ?_
     refine d_ret_then ?_
     refine d_ret_block ?_
     refine d_ret_then ?_
     refine d_retC i Tryd.results31 ?_ trivial (fun W h => by rw [hbad (.inl h63')]; exact h) (.inr rfl)
     exact ⟨[], trivial, rfl⟩
   ·
    have hb' : ¬ (at' < n.size ∧ byteAt n at' ≠ 0) := fun h => absurd h.2 (of_decide_eq_false hb)
    refine c_exit ?_
    refine d_exit_then ?_
    refine d_exit_then ?_
    refine d_exit_block ?_
    exact d_round (pre, at', i) (hout hb') Nat.zero_lt_one ⟨rfl, rfl, trivial⟩ (fun W h => h)
  ·
   have hb' : ¬ (at' < n.size ∧ byteAt n at' ≠ 0) := fun h => by have := of_decide_eq_false hg; omega
   refine g_no rfl rfl rfl rfl rfl hg ?_
   refine g_no rfl rfl rfl rfl rfl hg ?_
   refine g_no rfl rfl rfl rfl rfl hg ?_
   refine g_v rfl (r_pick0 rfl hg) ?_
   refine g_nil ?_
   refine d_then ?_
   refine c_cond0 rfl rfl ?_
   refine c_exit ?_
   refine d_exit_then ?_
   refine d_exit_then ?_
   refine d_exit_block ?_
   exact d_round (pre, at', i) (hout hb') Nat.zero_lt_one ⟨rfl, rfl, trivial⟩ (fun W h => h)
 ·
  refine d_flat [(1, .pointer (some ⟨gP, 0, none⟩)), (4, .int .i64 (at' : Int))] ⟨rfl, rfl, trivial⟩ (fun u => ?_)
  refine d_sta (stE HH RR n gE gP gN w0 M φ pre i (-1)) (fun _ h => h) ?_
  refine d_then ?_
  refine c_region ?_
  refine g_v rfl (r_load (tag := 1) rfl rfl rfl Tryd.isAgg49) ?_
  refine g_v rfl r_move ?_
  refine g_v rfl (r_nilck rfl) ?_
  refine g_storeL (tag := 0) rfl rfl rfl rfl Tryd.sizeOf3 rfl rfl ?_
  refine g_nil ?_
  refine d_retC i Tryd.results31 ?_ trivial (fun W h => by rw [hI]; exact h) (.inl rfl)
  exact ⟨[], trivial, rfl⟩
end
end Go.Proofs.YtkmkpodioedlfaaDoor
