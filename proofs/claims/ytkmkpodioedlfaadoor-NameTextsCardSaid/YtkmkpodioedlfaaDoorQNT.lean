import Derived.Test.YtkmkpodioedlfaaDoorKNT
set_option linter.unusedVariables false
set_option linter.unusedSimpArgs false
set_option maxRecDepth 16384
namespace Go.Proofs.YtkmkpodioedlfaaDoor
open Go.RowKit
def encB (ls : List ByteArray) : List Int := ls.flatMap fun s => (s.size : Int) :: bytesI s
def okLs (ls : List ByteArray) : Prop := ∀ s ∈ ls, 1 ≤ s.size ∧ s.size ≤ 63
instance (ls : List ByteArray) : Decidable (okLs ls) := by unfold okLs; infer_instance
/-- n is the name of the labels ls. -/
def Nm (n : ByteArray) (ls : List ByteArray) : Prop := okLs ls ∧ bytesI n = encB ls ++ [0]
def starts : Nat → List ByteArray → List (Int × ByteArray)
  | _, [] => []
  | a, s :: ls => ((a : Int), s) :: starts (a + 1 + s.size) ls
/-- The bytes of a row are at its end: nothing, or a 0 ahead. -/
def endR (l : List Int) : Prop := l = [] ∨ ∃ r, l = 0 :: r
theorem encB_cons (s : ByteArray) (ls : List ByteArray) : encB (s :: ls) = (s.size : Int) :: bytesI s ++ encB ls := by simp [encB]
theorem encB_append (a b : List ByteArray) : encB (a ++ b) = encB a ++ encB b := by simp [encB]
theorem encB_range {ls : List ByteArray} (h : okLs ls) : ∀ x ∈ encB ls, 0 ≤ x ∧ x ≤ 255 := by
  intro x hx
  obtain ⟨s, hs, hx⟩ := List.mem_flatMap.1 hx
  have := h s hs
  rcases List.mem_cons.1 hx with rfl | hx
  · omega
  · exact bytesI_range s x hx
theorem drop_byte {n : ByteArray} {a : Nat} {x : Int} {r : List Int} (h : (bytesI n).drop a = x :: r) : a < n.size ∧ byteAt n (a : Int) = x ∧ (bytesI n).drop (a + 1) = r := by
  have hl : a < (bytesI n).length := by
    by_cases hc : a < (bytesI n).length
    · exact hc
    · rw [List.drop_of_length_le (by omega)] at h; cases h
  have hs : a < n.size := by rw [size_bytes]; exact hl
  rw [List.drop_eq_getElem_cons hl] at h
  injection h with h1 h2
  rw [bytesI_get n a hs] at h1
  exact ⟨hs, h1, h2⟩
theorem drop_app {n : ByteArray} {a : Nat} {s : ByteArray} {r : List Int} (h : (bytesI n).drop a = bytesI s ++ r) : n.extract a (a + s.size) = s ∧ a + s.size ≤ max n.size a ∧ (bytesI n).drop (a + s.size) = r := by
  have hs := size_bytes s
  have hn := size_bytes n
  have hl := congrArg List.length h
  rw [List.length_drop, List.length_append] at hl
  refine ⟨bytesI_inj ?_, by omega, ?_⟩
  · rw [bytesI_extract, List.drop_take, h, show a + s.size - a = (bytesI s).length by omega, List.take_left]
  · rw [← List.drop_drop, h, hs, List.drop_left]
theorem drop_none {n : ByteArray} {a : Nat} (h : (bytesI n).drop a = []) : n.size ≤ a := by
  rw [size_bytes]; exact List.drop_eq_nil_iff.1 h
theorem okLs_cons {s : ByteArray} {ls : List ByteArray} : okLs (s :: ls) ↔ (1 ≤ s.size ∧ s.size ≤ 63) ∧ okLs ls := by
  simp [okLs]
theorem eachAt_end {n : ByteArray} {a : Nat} (h : endR ((bytesI n).drop a)) (f : Nat) : eachAt n f a = ([], (a : Int)) := by
  cases f with
  | zero => rfl
  | succ f =>
    rw [eachAt, if_neg]
    rcases h with h | ⟨r, h⟩
    · have := drop_none h; omega
    · have := (drop_byte h).2.1; simp [this]
theorem eachAt_enc {n : ByteArray} {rest : List Int} (hr : endR rest) : ∀ (ls : List ByteArray) (a f : Nat), okLs ls → (bytesI n).drop a = encB ls ++ rest → ls.length ≤ f →
    eachAt n f a = (starts a ls, ((a + (encB ls).length : Nat) : Int)) := by
  intro ls
  induction ls with
  | nil =>
    intro a f _ h _
    exact eachAt_end (by rw [h]; exact hr) f
  | cons s ls ih =>
    intro a f hok h hf
    obtain ⟨hs, hok⟩ := okLs_cons.1 hok
    obtain ⟨f, rfl⟩ : ∃ g, f = g + 1 := ⟨f - 1, by simp at hf; omega⟩
    rw [encB_cons] at h
    simp only [List.cons_append, List.append_assoc] at h
    obtain ⟨h1, h2, h3⟩ := drop_byte h
    obtain ⟨h4, h5, h6⟩ := drop_app h3
    rw [eachAt, if_pos ⟨h1, by rw [h2]; omega⟩, h2, if_neg (by omega)]
    have := ih (a + 1 + s.size) f hok (by rw [← h6]) (by simp at hf; omega)
    simp only [Int.toNat_natCast]
    rw [this, h4, starts, encB_cons]
    congr 2
    simp only [List.length_append, List.length_cons, ← size_bytes]
    omega
theorem eachAt_any {n : ByteArray} : ∀ (f a : Nat), n.size ≤ a + f → a ≤ n.size → (eachAt n f a).2 = -1 ∨ ∃ ls rest, okLs ls ∧ (bytesI n).drop a = encB ls ++ rest ∧ endR rest := by
  intro f
  induction f with
  | zero =>
    intro a h1 h2
    exact .inr ⟨[], [], (fun _ h => by cases h), by rw [List.drop_of_length_le (by rw [← size_bytes]; omega)]; rfl, .inl rfl⟩
  | succ f ih =>
    intro a h1 h2
    rw [eachAt]
    by_cases hc : a < n.size ∧ byteAt n a ≠ 0
    · rw [if_pos hc]
      by_cases hb : 63 < byteAt n a ∨ n.size < a + 1 + (byteAt n a).toNat
      · rw [if_pos hb]; exact .inl rfl
      · rw [if_neg hb]
        have hr := byteAt_lt n a
        rcases ih (a + 1 + (byteAt n a).toNat) (by omega) (by omega) with h | ⟨ls, rest, h3, h4, h5⟩
        · exact .inl h
        · have hsz : (n.extract (a + 1) (a + 1 + (byteAt n a).toNat)).size = (byteAt n a).toNat := by
            rw [ByteArray.size_extract]; omega
          refine .inr ⟨n.extract (a + 1) (a + 1 + (byteAt n a).toNat) :: ls, rest, okLs_cons.2 ⟨by rw [hsz]; omega, h3⟩, ?_, h5⟩
          have hl : a < (bytesI n).length := by rw [← size_bytes]; exact hc.1
          rw [List.drop_eq_getElem_cons hl, bytesI_get n a hc.1, encB_cons, hsz, bytesI_extract]
          simp only [List.cons_append, List.append_assoc]
          have h6 : (bytesI n).drop (a + 1 + (byteAt n a).toNat) = ((bytesI n).drop (a + 1)).drop (byteAt n a).toNat := by rw [List.drop_drop]
          rw [← h4, List.drop_take, h6, show a + 1 + (byteAt n a).toNat - (a + 1) = (byteAt n a).toNat by omega, List.take_append_drop]
          congr 1
          omega
    · rw [if_neg hc]
      refine .inr ⟨[], (bytesI n).drop a, (fun _ h => by cases h), rfl, ?_⟩
      by_cases ha : a < n.size
      · have hl : a < (bytesI n).length := by rw [← size_bytes]; exact ha
        have : byteAt n a = 0 := Classical.byContradiction fun h => hc ⟨ha, h⟩
        rw [List.drop_eq_getElem_cons hl, bytesI_get n a ha, this]
        exact .inr ⟨_, rfl⟩
      · rw [List.drop_of_length_le (by rw [← size_bytes]; omega)]; exact .inl rfl
theorem nm_size {n : ByteArray} {ls : List ByteArray} (h : Nm n ls) : n.size = (encB ls).length + 1 := by
  rw [size_bytes, h.2]; simp
theorem len_enc (ls : List ByteArray) : ls.length ≤ (encB ls).length := by
  induction ls with
  | nil => simp
  | cons s ls ih => rw [encB_cons]; simp; omega
theorem each_nm {n : ByteArray} {ls : List ByteArray} (h : Nm n ls) : eachP n = (starts 0 ls, (n.size : Int) - 1) := by
  have hl := len_enc ls
  have hs := nm_size h
  rw [eachP, eachAt_enc (rest := [0]) (.inr ⟨[], rfl⟩) ls 0 n.size h.1 (by rw [List.drop_zero, h.2]) (by omega)]
  congr 1
  omega
theorem each_no {n : ByteArray} (h : ¬ ∃ ls, Nm n ls) : (eachP n).2 ≠ (n.size : Int) - 1 ∨ (eachP n).2 < 0 := by
  rcases eachAt_any (n := n) n.size 0 (by omega) (by omega) with h1 | ⟨ls, rest, h1, h2, h3⟩
  · rw [eachP, h1]; exact .inr (by omega)
  · left
    have hl := len_enc ls
    have hlen := congrArg List.length h2
    rw [List.drop_zero, ← size_bytes, List.length_append] at hlen
    rw [eachP, eachAt_enc h3 ls 0 n.size h1 h2 (by omega)]
    intro hc
    refine h ⟨ls, h1, ?_⟩
    rw [List.drop_zero] at h2
    rw [h2]
    congr 1
    simp only at hc
    rcases h3 with rfl | ⟨r, rfl⟩
    · simp at hlen; omega
    · simp only [List.length_cons] at hlen
      rw [List.length_eq_zero_iff.1 (by omega : r.length = 0)]
theorem starts_snd (a : Nat) (ls : List ByteArray) : (starts a ls).map Prod.snd = ls := by
  induction ls generalizing a with
  | nil => rfl
  | cons s ls ih => simp [starts, ih]
/-- The name that labels make. -/
def mkN (ls : List ByteArray) : ByteArray := strOfNums (encB ls ++ [0])
theorem mkN_nm {ls : List ByteArray} (h : okLs ls) : Nm (mkN ls) ls := ⟨h, by
  rw [mkN, bytesI_str]
  intro x hx
  rcases List.mem_append.1 hx with hx | hx
  · exact encB_range h x hx
  · simp only [List.mem_singleton] at hx; omega⟩
theorem take_snoc (s : ByteArray) {k : Nat} (h : k < s.size) : (bytesI s).take (k + 1) = (bytesI s).take k ++ [byteAt s k] := by
  rw [List.take_succ_eq_append_getElem (by rw [← size_bytes]; exact h), bytesI_get s k h]
open Go.RowKit
theorem eachM_of {n : ByteArray} (hs : n.size ≤ 1099511627776) : eachM n = some (eachP n) := if_pos hs
theorem labels_nm {n : ByteArray} {ls : List ByteArray} (h : Nm n ls) (hs : n.size ≤ 255) : m_name_Labels n = some (ls, 0) := by
  have := nm_size h
  rw [m_name_Labels, eachM_of (by omega), Option.bind_some, each_nm h, w64_id (by omega) (by omega), if_neg (fun h => h rfl), if_neg (by omega), if_neg (by omega), starts_snd]
theorem labels_big {n : ByteArray} {ls : List ByteArray} (h : Nm n ls) (hs : 255 < n.size) (hb : n.size ≤ 1099511627776) : m_name_Labels n = some ([], 11) := by
  rw [m_name_Labels, eachM_of (by omega), Option.bind_some, each_nm h, w64_id (by omega) (by omega), if_neg (fun h => h rfl), if_neg (by omega), if_pos (by omega)]
theorem labels_no {n : ByteArray} (h : ¬ ∃ ls, Nm n ls) (hb : n.size ≤ 1099511627776) : m_name_Labels n = some ([], 10) := by
  rw [m_name_Labels, eachM_of (by omega), Option.bind_some, w64_id (by omega) (by omega)]
  rcases each_no h with h | h
  · rw [if_pos h]
  · rw [if_pos h]
    split <;> rfl
theorem nm_cases (n : ByteArray) : (∃ ls, Nm n ls ∧ n.size ≤ 255) ∨ (∃ ls, Nm n ls ∧ 255 < n.size) ∨ ¬ ∃ ls, Nm n ls := by
  by_cases h : ∃ ls, Nm n ls
  · obtain ⟨ls, h⟩ := h
    by_cases hs : n.size ≤ 255
    · exact .inl ⟨ls, h, hs⟩
    · exact .inr (.inl ⟨ls, h, by omega⟩)
  · exact .inr (.inr h)
theorem row_step {n : ByteArray} (hn : n.size ≤ 1099511627776) {a : Nat} {out : List ByteArray} (ha : a ≤ n.size) (ho : out.length ≤ a) :
    m_ref03_row_s2 n out (a : Int) = if a < n.size ∧ byteAt n a ≠ 0 then (if 63 < byteAt n a ∨ n.size < a + 1 + (byteAt n a).toNat then some (.inr (.inr ([], false)))
      else some (.inl (out ++ [n.extract (a + 1) (a + 1 + (byteAt n a).toNat)], ((a + 1 + (byteAt n a).toNat : Nat) : Int)))) else some (.inr (.inl (out, (a : Int)))) := by
  rw [m_ref03_row_s2]
  by_cases hc : a < n.size
  · have hb := byteAt_lt n a
    rw [if_pos (show (a : Int) < n.size by omega), sat_of (by omega) (by omega), Option.bind_some]
    by_cases h0 : byteAt n a ≠ 0
    · rw [if_pos h0, if_pos ⟨hc, h0⟩, Option.bind_some, w64_id (by omega) (by omega)]
      by_cases h1 : 63 < byteAt n a
      · rw [if_pos h1, if_pos (.inl h1)]
      · rw [if_neg h1, w64_id (x := (a : Int) + 1) (by omega) (by omega), w64_id (x := (a : Int) + 1 + byteAt n a) (by omega) (by omega)]
        by_cases h2 : n.size < a + 1 + (byteAt n a).toNat
        · rw [if_pos (by omega), if_pos (.inr h2)]
        · rw [if_neg (by omega), if_neg (by omega), scutMid, if_pos ⟨by omega, by omega, by omega⟩, Option.bind_some, app_of (by simp; omega), Option.bind_some,
            show ((a : Int) + 1).toNat = a + 1 by omega, show ((a : Int) + 1 + byteAt n a).toNat = a + 1 + (byteAt n a).toNat by omega]
          congr 4
          omega
    · rw [if_neg h0, if_neg (fun h => h0 h.2)]
  · rw [if_neg (by omega), if_neg (fun h => hc h.1)]
theorem row_loop {n : ByteArray} (hn : n.size ≤ 1099511627776) : ∀ (f a : Nat) (out : List ByteArray), n.size ≤ a + f → a ≤ n.size → out.length ≤ a →
    loop (fun s => m_ref03_row_s2 n s.1 s.2) (out, (a : Int)) = some (if (eachAt n f a).2 = -1 then .inr ([], false) else .inl (out ++ (eachAt n f a).1.map Prod.snd, (eachAt n f a).2)) := by
  intro f
  induction f with
  | zero =>
    intro a out h1 h2 h3
    rw [loop_inr (by simp only [row_step hn h2 h3]; rw [if_neg (by omega)])]
    simp only [eachAt, List.map_nil, List.append_nil]
    rw [if_neg (by omega)]
  | succ f ih =>
    intro a out h1 h2 h3
    have hb := byteAt_lt n a
    by_cases hc : a < n.size ∧ byteAt n a ≠ 0
    · by_cases h4 : 63 < byteAt n a ∨ n.size < a + 1 + (byteAt n a).toNat
      · rw [loop_inr (by simp only [row_step hn h2 h3]; rw [if_pos hc, if_pos h4])]
        rw [eachAt, if_pos hc, if_pos h4, if_pos rfl]
      · rw [loop_inl (by simp only [row_step hn h2 h3]; rw [if_pos hc, if_neg h4]), ih _ _ (by omega) (by omega) (by simp; omega)]
        rw [eachAt, if_pos hc, if_neg h4]
        simp only [List.map_cons, List.append_assoc, List.singleton_append]
    · rw [loop_inr (by simp only [row_step hn h2 h3]; rw [if_neg hc])]
      rw [eachAt, if_neg hc]
      simp only [List.map_nil, List.append_nil]
      rw [if_neg (by omega)]
theorem row_nm {n : ByteArray} {ls : List ByteArray} (h : Nm n ls) (hb : n.size ≤ 1099511627776) : m_ref03_row n = some (ls, true) := by
  have hs := nm_size h
  have := row_loop hb n.size 0 [] (by omega) (by omega) (by simp)
  rw [← eachP, each_nm h, if_neg (by simp only; omega)] at this
  rw [m_ref03_row]
  erw [this]
  simp only [Option.bind_some, Sum.elim_inl, m_ref03_row_j1, List.nil_append, starts_snd]
  rw [w64_id (by omega) (by omega), decide_eq_true rfl]
theorem row_no {n : ByteArray} (h : ¬ ∃ ls, Nm n ls) (hb : n.size ≤ 1099511627776) : ∃ l, m_ref03_row n = some (l, false) := by
  have := row_loop hb n.size 0 [] (by omega) (by omega) (by simp)
  rw [← eachP] at this
  rw [m_ref03_row]
  erw [this]
  by_cases h1 : (eachP n).2 = -1
  · rw [if_pos h1]; exact ⟨_, rfl⟩
  · rw [if_neg h1]
    refine ⟨[] ++ (eachP n).1.map Prod.snd, ?_⟩
    simp only [Option.bind_some, Sum.elim_inl, m_ref03_row_j1]
    rw [w64_id (by omega) (by omega)]
    rw [decide_eq_false]
    intro h2
    rcases each_no h with h3 | h3
    · exact h3 h2
    · rcases eachAt_any (n := n) n.size 0 (by omega) (by omega) with h4 | ⟨ls, rest, h4, h5, h6⟩
      · exact h1 h4
      · have hl := len_enc ls
        have hlen := congrArg List.length h5
        rw [List.drop_zero, ← size_bytes, List.length_append] at hlen
        rw [eachP, eachAt_enc h6 ls 0 n.size h4 h5 (by omega)] at h3
        simp only at h3
        omega
theorem rcheck_nm {n : ByteArray} {ls : List ByteArray} (h : Nm n ls) (hs : n.size ≤ 255) : m_ref03_Check n = some 0 := by
  rw [m_ref03_Check, row_nm h (by omega)]
  simp only [Option.bind_some, if_true]
  rw [if_neg (by omega)]
theorem rcheck_big {n : ByteArray} {ls : List ByteArray} (h : Nm n ls) (hs : 255 < n.size) (hb : n.size ≤ 1099511627776) : m_ref03_Check n = some 11 := by
  rw [m_ref03_Check, row_nm h (by omega)]
  simp only [Option.bind_some, if_true]
  rw [if_pos (by omega)]
theorem rcheck_no {n : ByteArray} (h : ¬ ∃ ls, Nm n ls) (hb : n.size ≤ 1099511627776) : m_ref03_Check n = some 10 := by
  obtain ⟨l, hl⟩ := row_no h hb
  rw [m_ref03_Check, hl]
  simp
theorem rlabels_nm {n : ByteArray} {ls : List ByteArray} (h : Nm n ls) (hs : n.size ≤ 255) : m_ref03_Labels n = some (ls, 0) := by
  rw [m_ref03_Labels, rcheck_nm h hs, Option.bind_some, if_neg (by simp), row_nm h (by omega)]; rfl
theorem rlabels_big {n : ByteArray} {ls : List ByteArray} (h : Nm n ls) (hs : 255 < n.size) (hb : n.size ≤ 1099511627776) : m_ref03_Labels n = some ([], 11) := by
  rw [m_ref03_Labels, rcheck_big h hs hb]; rfl
theorem rlabels_no {n : ByteArray} (h : ¬ ∃ ls, Nm n ls) (hb : n.size ≤ 1099511627776) : m_ref03_Labels n = some ([], 10) := by
  rw [m_ref03_Labels, rcheck_no h hb]; rfl
/-- What labels make. -/
def mkF (ls : List ByteArray) : ByteArray × Int := if okLs ls then (if (encB ls).length ≤ 254 then (mkN ls, 0) else (⟨#[]⟩, 11)) else (⟨#[]⟩, 10)
theorem size_nil {s : ByteArray} : s = (⟨#[]⟩ : ByteArray) ↔ s.size = 0 := by
  constructor
  · rintro rfl; rfl
  · intro h
    apply bytesI_inj
    have : (bytesI s).length = 0 := by rw [← size_bytes]; exact h
    rw [List.length_eq_zero_iff.1 this]; rfl
theorem rmake_loop {p0 : List ByteArray} (hl : p0.length ≤ 1099511627776) : ∀ (rest pre : List ByteArray) (s : ByteArray), p0 = pre ++ rest → s.size ≤ 319 →
    (s.size ≤ 255 ∧ bytesI s = encB pre ∨ 255 < s.size ∧ 255 < (encB pre).length) →
    ∃ o, loop (fun s => m_ref03_Make_s2 p0 s.1 s.2) (s, (pre.length : Int)) = some o ∧
      (¬ okLs rest → o = .inr (⟨#[]⟩, 10)) ∧ (okLs rest → ∃ s', o = .inl s' ∧ (s'.size ≤ 319 ∧ (s'.size ≤ 255 ∧ bytesI s' = encB p0 ∨ 255 < s'.size ∧ 255 < (encB p0).length))) := by
  intro rest
  induction rest with
  | nil =>
    intro pre s hp hs hI
    rw [List.append_nil] at hp
    subst hp
    refine ⟨.inl s, loop_inr (by simp only [m_ref03_Make_s2]; rw [if_neg (by omega)]), fun h => absurd (fun _ h => by cases h) h, fun _ => ⟨s, rfl, hs, hI⟩⟩
  | cons x rest ih =>
    intro pre s hp hs hI
    have hlen : p0.length = pre.length + (rest.length + 1) := by rw [hp]; simp
    have hat : at_ p0 (pre.length : Int) = some x := by
      rw [at_nat (by omega)]
      simp [hp]
    have hst := m_ref03_Make_s2.eq_def p0 s (pre.length : Int)
    rw [if_pos (by omega), hat, Option.bind_some, Option.bind_some] at hst
    by_cases h1 : x.size < 1
    · rw [if_pos (by omega)] at hst
      refine ⟨_, loop_inr hst, fun _ => rfl, fun h => ?_⟩
      have := (okLs_cons.1 h).1; omega
    rw [if_neg (by omega)] at hst
    by_cases h2 : 63 < x.size
    · rw [if_pos (by omega)] at hst
      refine ⟨_, loop_inr hst, fun _ => rfl, fun h => ?_⟩
      have := (okLs_cons.1 h).1; omega
    rw [if_neg (by omega)] at hst
    have hp' : p0 = (pre ++ [x]) ++ rest := by rw [hp]; simp
    have henc : (encB (pre ++ [x])).length = (encB pre).length + 1 + x.size := by rw [encB_append, encB_cons]; simp [encB, ← size_bytes]; omega
    have hok : okLs (x :: rest) ↔ okLs rest := by rw [okLs_cons]; exact ⟨fun h => h.2, fun h => ⟨by omega, h⟩⟩
    have hw : w64 ((pre.length : Int) + 1) = (((pre ++ [x]).length : Nat) : Int) := by rw [w64_id (by omega) (by omega)]; simp
    rw [hok]
    by_cases h3 : s.size ≤ 255
    · have hI : bytesI s = encB pre := by rcases hI with h | h <;> first | exact h.2 | omega
      have hss : s.size = (encB pre).length := by rw [size_bytes, hI]
      have hb1 : bytesI (strOfNums [IntKind.u8.wrap (x.size : Int)]) = [(x.size : Int)] := by
        rw [wrapu8 (by omega) (by omega), bytesI_str]; intro y hy; simp only [List.mem_singleton] at hy; omega
      have hz1 : (strOfNums [IntKind.u8.wrap (x.size : Int)]).size = 1 := by rw [size_bytes, hb1]; rfl
      rw [if_pos (by omega), Option.bind_some, Option.bind_some, sadd_of (by omega), Option.bind_some, sadd_of (by rw [ByteArray.size_append]; omega), Option.bind_some, hw] at hst
      rw [loop_inl hst]
      refine ih (pre ++ [x]) _ hp' (by rw [ByteArray.size_append, ByteArray.size_append]; omega) ?_
      have hb : bytesI (s ++ strOfNums [IntKind.u8.wrap (x.size : Int)] ++ x) = encB (pre ++ [x]) := by
        rw [bytesI_append, bytesI_append, hI, hb1, encB_append, encB_cons]; simp [encB]
      have hz : (s ++ strOfNums [IntKind.u8.wrap (x.size : Int)] ++ x).size = (encB (pre ++ [x])).length := by rw [size_bytes, hb]
      by_cases h4 : (encB (pre ++ [x])).length ≤ 255
      · exact .inl ⟨by omega, hb⟩
      · exact .inr ⟨by omega, by omega⟩
    · rw [if_neg (by omega), hw] at hst
      rw [loop_inl hst]
      refine ih (pre ++ [x]) s hp' hs (.inr ⟨by omega, ?_⟩)
      rcases hI with h | h <;> omega
theorem rmake_eq {ls : List ByteArray} (hl : ls.length ≤ 1099511627776) : m_ref03_Make ls = some (mkF ls) := by
  obtain ⟨o, h1, h2, h3⟩ := rmake_loop hl ls [] ⟨#[]⟩ rfl (by decide) (.inl ⟨by decide, rfl⟩)
  rw [m_ref03_Make]
  erw [h1]
  rw [mkF]
  by_cases h : okLs ls
  · obtain ⟨s, rfl, hs, hI⟩ := h3 h
    rw [if_pos h]
    simp only [Option.bind_some, Sum.elim_inl, m_ref03_Make_j1]
    by_cases h4 : (encB ls).length ≤ 254
    · have hI : bytesI s = encB ls := by rcases hI with h | h <;> first | exact h.2 | omega
      have hz : s.size = (encB ls).length := by rw [size_bytes, hI]
      have hz0 : (strOfNums [0]).size = 1 := rfl
      rw [if_pos h4, if_neg (by omega), sadd_of (by omega), Option.bind_some]
      congr 2
      apply bytesI_inj
      rw [bytesI_append, hI, (mkN_nm h).2]
      rfl
    · rw [if_neg h4, if_pos]
      rcases hI with ⟨h, hI⟩ | h
      · have hz : s.size = (encB ls).length := by rw [size_bytes, hI]
        omega
      · omega
  · rw [h2 h, if_neg h]; rfl
theorem make_loop {p0 : List ByteArray} (hl : p0.length ≤ 1099511627776) : ∀ (rest pre : List ByteArray) (b : List Int) (z : Int), p0 = pre ++ rest → b.length ≤ 255 →
    z = min ((encB pre).length + 1 : Int) 256 → (z ≤ 255 → b = encB pre) →
    ∃ o, loop (fun s => m_name_Make_s2 p0 s.1 s.2.1 s.2.2) (b, z, (pre.length : Int)) = some o ∧
      (¬ okLs rest → o = .inr (⟨#[]⟩, 10)) ∧ (okLs rest → ∃ b', o = .inl (b', min ((encB p0).length + 1 : Int) 256) ∧ ((encB p0).length ≤ 254 → b' = encB p0)) := by
  intro rest
  induction rest with
  | nil =>
    intro pre b z hp hb hz hI
    rw [List.append_nil] at hp
    subst hp
    subst hz
    refine ⟨.inl (b, _), loop_inr (by simp only [m_name_Make_s2]; rw [if_neg (by omega)]), fun h => absurd (fun _ h => by cases h) h, fun _ => ⟨b, rfl, fun h => hI (by omega)⟩⟩
  | cons x rest ih =>
    intro pre b z hp hb hz hI
    have hlen : p0.length = pre.length + (rest.length + 1) := by rw [hp]; simp
    have hat : at_ p0 (pre.length : Int) = some x := by
      rw [at_nat (by omega)]
      simp [hp]
    have hst := m_name_Make_s2.eq_def p0 b z (pre.length : Int)
    rw [if_pos (by omega), hat, Option.bind_some] at hst
    by_cases h1 : x.size = 0
    · rw [if_pos (size_nil.2 h1)] at hst
      refine ⟨_, loop_inr hst, fun _ => rfl, fun h => ?_⟩
      have := (okLs_cons.1 h).1; omega
    rw [if_neg (fun h => h1 (size_nil.1 h))] at hst
    by_cases h2 : 63 < x.size
    · rw [if_pos (by omega)] at hst
      refine ⟨_, loop_inr hst, fun _ => rfl, fun h => ?_⟩
      have := (okLs_cons.1 h).1; omega
    rw [if_neg (by omega)] at hst
    have hp' : p0 = (pre ++ [x]) ++ rest := by rw [hp]; simp
    have hencE : encB (pre ++ [x]) = encB pre ++ [(x.size : Int)] ++ bytesI x := by rw [encB_append, encB_cons]; simp [encB]
    have henc : (encB (pre ++ [x])).length = (encB pre).length + 1 + x.size := by rw [hencE]; simp [← size_bytes]; omega
    have hok : okLs (x :: rest) ↔ okLs rest := by rw [okLs_cons]; exact ⟨fun h => h.2, fun h => ⟨by omega, h⟩⟩
    have hw : w64 ((pre.length : Int) + 1) = (((pre ++ [x]).length : Nat) : Int) := by rw [w64_id (by omega) (by omega)]; simp
    rw [hok]
    have hxb := size_bytes x
    rw [w64_id (x := z + 1) (by omega) (by omega), w64_id (x := z + 1 + (x.size : Int)) (by omega) (by omega), hw] at hst
    have hz' : min (z + 1 + (x.size : Int)) 256 = min ((encB (pre ++ [x])).length + 1 : Int) 256 := by rw [hz, henc]; omega
    rw [hz'] at hst
    by_cases h3 : min ((encB (pre ++ [x])).length + 1 : Int) 256 ≤ 255
    · have hI := hI (by omega)
      rw [if_pos h3, wrapu8 (by omega) (by omega), app_of (by simp; omega), Option.bind_some, app_of (by simp; omega), Option.bind_some] at hst
      rw [loop_inl hst]
      refine ih (pre ++ [x]) _ _ hp' ?_ rfl (fun _ => by rw [hencE, hI])
      subst hI
      rw [← hencE]; omega
    · rw [if_neg h3] at hst
      rw [loop_inl hst]
      exact ih (pre ++ [x]) b _ hp' hb rfl (fun h => absurd h h3)
theorem make_eq {ls : List ByteArray} (hl : ls.length ≤ 1099511627776) : m_name_Make ls = some (mkF ls) := by
  obtain ⟨o, h1, h2, h3⟩ := make_loop hl ls [] [] 1 rfl (by simp) rfl (fun _ => rfl)
  rw [m_name_Make]
  erw [h1]
  rw [mkF]
  by_cases h : okLs ls
  · obtain ⟨b, rfl, hb⟩ := h3 h
    rw [if_pos h]
    simp only [Option.bind_some, Sum.elim_inl, m_name_Make_j1]
    by_cases h4 : (encB ls).length ≤ 254
    · rw [if_pos h4, if_neg (by omega), hb h4, app_of (by simp; omega), Option.bind_some]; rfl
    · rw [if_neg h4, if_pos (by omega)]
  · rw [h2 h, if_neg h]; rfl
open Go.RowKit
theorem nm_few {n : ByteArray} {ls : List ByteArray} (h : Nm n ls) (hs : n.size ≤ 255) : ls.length ≤ 254 := by
  have := len_enc ls; have := nm_size h; omega
open Go.RowKit
def escB (c : Int) : List Int := if c = 46 ∨ c = 92 then [92, c] else if c < 33 ∨ 126 < c then [92, 48 + c / 100, 48 + c / 10 % 10, 48 + c % 10] else [c]
def textB (ls : List ByteArray) : List Int := ls.flatMap fun s => (bytesI s).flatMap escB ++ [46]
theorem escB_range {c : Int} (h : 0 ≤ c ∧ c ≤ 255) : ∀ x ∈ escB c, 0 ≤ x ∧ x ≤ 255 := by
  intro x hx
  unfold escB at hx
  split at hx
  · simp only [List.mem_cons, List.not_mem_nil, or_false] at hx; omega
  · split at hx <;> simp only [List.mem_cons, List.not_mem_nil, or_false] at hx <;> omega
theorem escB_len (c : Int) : 1 ≤ (escB c).length ∧ (escB c).length ≤ 4 := by
  unfold escB; split
  · simp
  · split <;> simp
theorem fm_esc_len (l : List Int) : (l.flatMap escB).length ≤ 4 * l.length := by
  induction l with
  | nil => simp
  | cons c l ih => have := escB_len c; simp only [List.flatMap_cons, List.length_append, List.length_cons]; omega
theorem text_step {x : ByteArray} (hx : x.size ≤ 1099511627776) {l : List Int} {k : Nat} (hk : k < x.size) (hl : l.length ≤ 1099511627776) : m_name_Text_s4 x l (k : Int) = some (.inl (l ++ escB (byteAt x k), ((k + 1 : Nat) : Int))) := by
  have hb := byteAt_lt x k
  rw [m_name_Text_s4, if_pos (by omega), sat_of (by omega) (by omega), Option.bind_some, w64_id (by omega) (by omega)]
  generalize byteAt x k = c at hb
  rw [escB]
  by_cases h1 : c = 46
  · rw [if_pos h1, if_pos (.inl h1), app_of (by simp; omega), Option.bind_some, app_of (by simp; omega), Option.bind_some]; simp
  rw [if_neg h1]
  by_cases h2 : c = 92
  · rw [if_pos h2, if_pos (.inr h2), app_of (by simp; omega), Option.bind_some, app_of (by simp; omega), Option.bind_some]; simp
  rw [if_neg h2, if_neg (show ¬ (c = 46 ∨ c = 92) from fun h => h.elim h1 h2), Int.tdiv_eq_ediv_of_nonneg hb.1, Int.tdiv_eq_ediv_of_nonneg hb.1, Int.tmod_eq_emod_of_nonneg hb.1, wrapu8 (x := c / 100) (by omega) (by omega), wrapu8 (x := c / 10) (by omega) (by omega), Int.tmod_eq_emod_of_nonneg (by omega),
    wrapu8 (x := 48 + c / 100) (by omega) (by omega), wrapu8 (x := 48 + c / 10 % 10) (by omega) (by omega), wrapu8 (x := 48 + c % 10) (by omega) (by omega)]
  by_cases h3 : c < 33
  · rw [if_pos h3, if_pos (.inl h3), app_of (by simp; omega), Option.bind_some, app_of (by simp; omega), Option.bind_some, app_of (by simp; omega), Option.bind_some, app_of (by simp; omega), Option.bind_some]; simp
  rw [if_neg h3]
  by_cases h4 : 126 < c
  · rw [if_pos h4, if_pos (.inr h4), app_of (by simp; omega), Option.bind_some, app_of (by simp; omega), Option.bind_some, app_of (by simp; omega), Option.bind_some, app_of (by simp; omega), Option.bind_some]; simp
  rw [if_neg h4, if_neg (show ¬ (c < 33 ∨ 126 < c) from fun h => h.elim h3 h4), app_of (by simp; omega), Option.bind_some]; rfl
theorem text_label {x : ByteArray} (hx : x.size ≤ 1000) {l : List Int} (hl : l.length ≤ 1000000000) : loop (fun s => m_name_Text_s4 x s.1 s.2) (l, 0) = some (l ++ (bytesI x).flatMap escB) := by
  have hs := size_bytes x
  refine loop_run (step := fun s => m_name_Text_s4 x s.1 s.2) x.size (fun k => (l ++ ((bytesI x).take k).flatMap escB, (k : Int))) _ (by simp) (fun k hk => ?_) ?_
  · have := fm_esc_len ((bytesI x).take k)
    rw [List.length_take] at this
    simp only
    rw [text_step (by omega) hk (by rw [List.length_append]; omega), take_snoc x hk, List.flatMap_append, List.append_assoc]
    simp
  · simp only [m_name_Text_s4]
    rw [if_neg (by omega), List.take_of_length_le (by omega)]
theorem textB_len {q : List ByteArray} (hok : okLs q) : (textB q).length ≤ 256 * q.length := by
  induction q with
  | nil => simp [textB]
  | cons s q ih =>
    have h1 := (okLs_cons.1 hok).1
    have h2 := ih (okLs_cons.1 hok).2
    have h3 := fm_esc_len (bytesI s)
    rw [← size_bytes] at h3
    rw [textB, List.flatMap_cons, List.length_append, List.length_append, ← textB]
    simp only [List.length_cons, List.length_nil]
    omega
theorem textB_snoc (q : List ByteArray) (x : ByteArray) : textB (q ++ [x]) = textB q ++ ((bytesI x).flatMap escB ++ [46]) := by
  rw [textB, List.flatMap_append, ← textB]; simp
theorem text_loop {ls : List ByteArray} (hok : okLs ls) (hl : ls.length ≤ 1000) : loop (fun s => m_name_Text_s2 ls s.1 s.2) ([], 0) = some (textB ls) := by
  refine loop_run (step := fun s => m_name_Text_s2 ls s.1 s.2) ls.length (fun k => (textB (ls.take k), (k : Int))) _ (by simp [textB]) (fun k hk => ?_) ?_
  · have h1 := textB_len (q := ls.take k) (fun s hs => hok s (List.mem_of_mem_take hs))
    have h2 := hok _ (List.getElem_mem hk)
    have h3 := fm_esc_len (bytesI ls[k])
    rw [← size_bytes] at h3
    rw [List.length_take] at h1
    simp only [m_name_Text_s2]
    rw [if_pos (by omega), at_nat hk, Option.bind_some, text_label (by omega) (by omega), Option.bind_some, m_name_Text_j3, app_of (by simp only [List.length_append, List.length_cons, List.length_nil]; omega), Option.bind_some, w64_id (by omega) (by omega), List.take_succ_eq_append_getElem hk, textB_snoc, List.append_assoc]
    rfl
  · simp only [m_name_Text_s2]
    rw [if_neg (by omega), List.take_length]
theorem textB_range (ls : List ByteArray) : ∀ x ∈ textB ls, 0 ≤ x ∧ x ≤ 255 := by
  intro x hx
  obtain ⟨s, _, hx⟩ := List.mem_flatMap.1 hx
  rcases List.mem_append.1 hx with hx | hx
  · obtain ⟨c, hc, hx⟩ := List.mem_flatMap.1 hx
    exact escB_range (bytesI_range s c hc) x hx
  · simp only [List.mem_singleton] at hx; omega
theorem text_nm {n : ByteArray} {ls : List ByteArray} (h : Nm n ls) (hs : n.size ≤ 255) : m_name_Text n = some (if ls = [] then ⟨#[46]⟩ else strOfNums (textB ls)) := by
  have hf := nm_few h hs
  rw [m_name_Text, labels_nm h hs, Option.bind_some, if_neg (fun h => h rfl)]
  by_cases hl : ls = []
  · subst hl; rfl
  · have hne : ls.length ≠ 0 := fun hc => hl (List.length_eq_zero_iff.1 hc)
    rw [if_neg (by simp only; omega), if_neg hl]
    erw [text_loop h.1 (by omega)]
    rw [Option.bind_some, m_name_Text_j1, bldS, if_pos]
    · rfl
    · refine ⟨fun hc => ?_, textB_range ls⟩
      cases ls with
      | nil => exact hl rfl
      | cons s ls => simp [textB] at hc
theorem octet_other {s : ByteArray} {c : Int} {r : List Int} (hs : s.size ≤ 1099511627776) (h : bytesI s = c :: r) (hc : c < 48 ∨ 57 < c) : m_name_octet s = some (c, 1, true) := by
  have hz : s.size = r.length + 1 := by rw [size_bytes, h]; simp
  have e0 : sat_ s 0 = some c := by rw [sat_eq_at, h]; rfl
  have c0 : m_name_octet_c1 0 s = some (0, false) := by
    rw [m_name_octet_c1, if_neg (by omega), e0, Option.bind_some]
    by_cases h1 : c < 48
    · rw [if_pos h1]
    · rw [if_neg h1, Option.bind_some, if_pos (by omega)]
  rw [m_name_octet, if_neg (fun hc => by rw [size_nil] at hc; omega), c0, Option.bind_some, if_neg (by simp), e0, Option.bind_some]
theorem parse_dot {p : ByteArray} (hp : p.size ≤ 1099511627) {i : Nat} {r now : List Int} {ls : List ByteArray} (h : (bytesI p).drop i = 46 :: r) (hn : now ≠ []) (hl : ls.length ≤ 1099511627) :
    m_name_Parse_s3 p now ls (i : Int) = some (.inl ([], ls ++ [strOfNums now], ((i + 1 : Nat) : Int))) := by
  obtain ⟨h1, h2, -⟩ := drop_byte h
  have hne : now.length ≠ 0 := fun hc => hn (List.length_eq_zero_iff.1 hc)
  rw [m_name_Parse_s3, if_pos (by omega), sat_of (by omega) (by omega), Option.bind_some, h2, if_pos rfl, if_neg (by omega), app_of (by simp; omega), Option.bind_some, w64_id (by omega) (by omega)]
  rfl
theorem parse_dot2 {p : ByteArray} (hp : p.size ≤ 1099511627) {i : Nat} {r : List Int} {ls : List ByteArray} (h : (bytesI p).drop i = 46 :: r) :
    m_name_Parse_s3 p [] ls (i : Int) = some (.inr (.inr (⟨#[]⟩, 10))) := by
  obtain ⟨h1, h2, -⟩ := drop_byte h
  rw [m_name_Parse_s3, if_pos (by omega), sat_of (by omega) (by omega), Option.bind_some, h2, if_pos rfl, if_pos (by simp)]
theorem parse_plain {p : ByteArray} (hp : p.size ≤ 1099511627) {i : Nat} {c : Int} {r now : List Int} {ls : List ByteArray} (h : (bytesI p).drop i = c :: r) (h46 : c ≠ 46) (h92 : c ≠ 92) (hn : now.length ≤ 1099511627776) :
    m_name_Parse_s3 p now ls (i : Int) = some (.inl (now ++ [c], ls, ((i + 1 : Nat) : Int))) := by
  obtain ⟨h1, h2, -⟩ := drop_byte h
  rw [m_name_Parse_s3, if_pos (by omega), sat_of (by omega) (by omega), Option.bind_some, h2, if_neg h46, if_neg h92, Option.bind_some, app_of (by simp; omega), Option.bind_some, w64_id (by omega) (by omega)]
  rfl
theorem parse_esc {p : ByteArray} (hp : p.size ≤ 1099511627) {i : Nat} {v : Int} {k : Nat} {r now : List Int} {ls : List ByteArray} (h : (bytesI p).drop i = 92 :: r) (hn : now.length ≤ 1099511627776) (hk : k ≤ 3)
    (ho : m_name_octet (p.extract (i + 1) p.size) = some (v, (k : Int), true)) : m_name_Parse_s3 p now ls (i : Int) = some (.inl (now ++ [v], ls, ((i + k + 1 : Nat) : Int))) := by
  obtain ⟨h1, h2, -⟩ := drop_byte h
  rw [m_name_Parse_s3, if_pos (by omega), sat_of (by omega) (by omega), Option.bind_some, h2, if_neg (by omega), if_pos rfl, w64_id (x := (i : Int) + 1) (by omega) (by omega), scutLo, if_pos ⟨by omega, by omega⟩, Option.bind_some, show ((i : Int) + 1).toNat = i + 1 by omega, ho, Option.bind_some, if_pos rfl, app_of (by simp; omega), Option.bind_some]
  simp only
  rw [w64_id (x := (i : Int) + k) (by omega) (by omega), w64_id (by omega) (by omega)]
  rfl
theorem parse_root : m_name_Parse ⟨#[46]⟩ = some (mkN [], 0) := by
  rw [m_name_Parse, if_pos rfl, make_eq (by simp)]
  decide +kernel
open Go.RowKit
open Go.RowKit
theorem awakeT : m_law03_awake = some true := by decide +kernel
theorem shortT {s : ByteArray} (k : Nat) (h : s.size ≤ 9223372036854775807) : ∃ t, m_law03_short s (k : Int) = some t ∧ t.size ≤ k := by
  rw [m_law03_short]
  by_cases hc : k < s.size
  · rw [if_pos (by omega), scutHi, if_pos ⟨by omega, by omega⟩]
    exact ⟨_, rfl, by rw [ByteArray.size_extract]; omega⟩
  · rw [if_neg (by omega)]; exact ⟨_, rfl, by omega⟩
theorem str_size (l : List Int) : (strOfNums l).size = l.length := by simp [strOfNums, ByteArray.size]
theorem str_app (a b : List Int) : strOfNums (a ++ b) = strOfNums a ++ strOfNums b := by
  apply ByteArray.ext
  simp [strOfNums, ByteArray.data_append]
theorem sadd_str {a b : List Int} (h : a.length + b.length ≤ 10000000000) : sadd (strOfNums a) (strOfNums b) = some (strOfNums (a ++ b)) := by
  rw [sadd_of (by rw [str_size, str_size]; omega), str_app]
/-! ### The numeral -/
theorem dec4 {u : Nat} (h : 1000 ≤ u ∧ u < 10000) : Lib.decDigits u = [UInt8.ofNat (48 + u / 10 / 10 / 10), UInt8.ofNat (48 + u / 10 / 10 % 10), UInt8.ofNat (48 + u / 10 % 10), UInt8.ofNat (48 + u % 10)] := by
  rw [Lib.decDigits, dif_neg (by omega), Lib.decDigits, dif_neg (by omega), Lib.decDigits, dif_neg (by omega), Lib.decDigits, dif_pos (by omega)]; rfl
def fourB (u : Nat) : ByteArray := ⟨#[UInt8.ofNat (48 + u / 10 / 10 / 10), UInt8.ofNat (48 + u / 10 / 10 % 10), UInt8.ofNat (48 + u / 10 % 10), UInt8.ofNat (48 + u % 10)]⟩
theorem four_tail : ∀ c : Fin 256, (fourB (1000 + c.val)).extract 1 (fourB (1000 + c.val)).size = strOfNums [48 + (c.val : Int) / 100, 48 + (c.val : Int) / 10 % 10, 48 + (c.val : Int) % 10] := by decide +kernel
theorem itoa_c {c : Int} (h : 0 ≤ c ∧ c ≤ 255) : ∃ t, m_strconv_Itoa (1000 + c) = some t ∧ scutLo t 1 = some (strOfNums [48 + c / 100, 48 + c / 10 % 10, 48 + c % 10]) := by
  obtain ⟨k, rfl⟩ := Int.eq_ofNat_of_zero_le h.1
  refine ⟨fourB (1000 + k), ?_, ?_⟩
  · rw [m_strconv_Itoa, itoaM, if_pos (by omega), Lib.itoa, if_neg (by omega), show (1000 + (k : Int)).toNat = 1000 + k by omega, dec4 (by omega)]; rfl
  · have hsz : (fourB (1000 + k)).size = 4 := rfl
    have := four_tail ⟨k, by omega⟩
    rw [scutLo, if_pos ⟨by omega, by omega⟩]
    exact congrArg some this
/-! ### The document's text -/
theorem rtext_step {x : ByteArray} (hx : x.size ≤ 1000) {ls : List ByteArray} {i : Nat} (hi : at_ ls (i : Int) = some x) {l : List Int} {k : Nat} (hk : k < x.size) (hl : l.length ≤ 1000000000) :
    m_ref03_Text_s4 ls (i : Int) (strOfNums l) (k : Int) = some (.inl (strOfNums (l ++ escB (byteAt x k)), ((k + 1 : Nat) : Int))) := by
  have hb := byteAt_lt x k
  have e92 : (⟨#[92]⟩ : ByteArray) = strOfNums [92] := by decide +kernel
  rw [m_ref03_Text_s4, hi, Option.bind_some, if_pos (by omega), Option.bind_some, sat_of (by omega) (by omega), Option.bind_some, w64_id (x := (k : Int) + 1) (by omega) (by omega)]
  generalize byteAt x k = c at hb
  rw [escB, e92]
  by_cases h1 : c = 46
  · rw [if_pos h1, if_pos (.inl h1), sadd_str (by simp; omega), Option.bind_some, sadd_str (by simp; omega), Option.bind_some, List.append_assoc]; rfl
  rw [if_neg h1]
  by_cases h2 : c = 92
  · rw [if_pos h2, if_pos (.inr h2), sadd_str (by simp; omega), Option.bind_some, sadd_str (by simp; omega), Option.bind_some, List.append_assoc]; rfl
  obtain ⟨t, t1, t2⟩ := itoa_c (c := c) hb
  have hw : w64 (1000 + w64 c) = 1000 + c := by rw [w64_id (x := c) (by omega) (by omega), w64_id (by omega) (by omega)]
  rw [if_neg h2, if_neg (show ¬ (c = 46 ∨ c = 92) from fun h => h.elim h1 h2), hw, t1, Option.bind_some]
  by_cases h3 : c < 33
  · rw [if_pos h3, if_pos (.inl h3), sadd_str (by simp; omega), Option.bind_some, t2, Option.bind_some, sadd_str (by simp; omega), Option.bind_some, List.append_assoc]; rfl
  rw [if_neg h3]
  by_cases h4 : 126 < c
  · rw [if_pos h4, if_pos (.inr h4), sadd_str (by simp; omega), Option.bind_some, t2, Option.bind_some, sadd_str (by simp; omega), Option.bind_some, List.append_assoc]; rfl
  rw [if_neg h4, if_neg (show ¬ (c < 33 ∨ 126 < c) from fun h => h.elim h3 h4), sadd_str (by simp; omega), Option.bind_some]; rfl
theorem rtext_label {x : ByteArray} (hx : x.size ≤ 1000) {ls : List ByteArray} {i : Nat} (hi : at_ ls (i : Int) = some x) {l : List Int} (hl : l.length ≤ 100000000) :
    loop (fun s => m_ref03_Text_s4 ls (i : Int) s.1 s.2) (strOfNums l, 0) = some (strOfNums (l ++ (bytesI x).flatMap escB)) := by
  have hs := size_bytes x
  refine loop_run (step := fun s => m_ref03_Text_s4 ls (i : Int) s.1 s.2) x.size (fun k => (strOfNums (l ++ ((bytesI x).take k).flatMap escB), (k : Int))) _ (by simp) (fun k hk => ?_) ?_
  · have := fm_esc_len ((bytesI x).take k)
    rw [List.length_take] at this
    simp only
    rw [rtext_step hx hi hk (by rw [List.length_append]; omega), take_snoc x hk, List.flatMap_append, List.append_assoc]
    simp
  · simp only [m_ref03_Text_s4]
    rw [hi, Option.bind_some, if_neg (by omega), List.take_of_length_le (by omega)]
theorem rtext_loop {ls : List ByteArray} (hok : okLs ls) (hl : ls.length ≤ 1000) : loop (fun s => m_ref03_Text_s2 ls s.1 s.2) ((⟨#[]⟩ : ByteArray), 0) = some (strOfNums (textB ls)) := by
  have e46 : (⟨#[46]⟩ : ByteArray) = strOfNums [46] := by decide +kernel
  refine loop_run (step := fun s => m_ref03_Text_s2 ls s.1 s.2) ls.length (fun k => (strOfNums (textB (ls.take k)), (k : Int))) _ (by simp [textB, strOfNums]) (fun k hk => ?_) ?_
  · have h1 := textB_len (q := ls.take k) (fun s hs => hok s (List.mem_of_mem_take hs))
    have h2 := hok _ (List.getElem_mem hk)
    have h3 := fm_esc_len (bytesI ls[k])
    rw [← size_bytes] at h3
    rw [List.length_take] at h1
    simp only [m_ref03_Text_s2]
    rw [if_pos (by omega), rtext_label (x := ls[k]) (by omega) (at_nat hk) (by omega), Option.bind_some, m_ref03_Text_j3, e46, sadd_str (by simp only [List.length_append, List.length_singleton]; omega), Option.bind_some, w64_id (by omega) (by omega), List.take_succ_eq_append_getElem hk]
    rw [textB_snoc, List.append_assoc]; rfl
  · simp only [m_ref03_Text_s2]
    rw [if_neg (by omega), List.take_length]
theorem text_both {n : ByteArray} (hn : n.size ≤ 300) : ∃ t, m_name_Text n = some t ∧ m_ref03_Text n = some t := by
  rcases nm_cases n with ⟨ls, h, hs⟩ | ⟨ls, h, hs⟩ | h
  · refine ⟨_, text_nm h hs, ?_⟩
    have hf := nm_few h hs
    rw [m_ref03_Text, rlabels_nm h hs, Option.bind_some, if_neg (fun h => h rfl)]
    by_cases hl : ls = []
    · subst hl; rfl
    · have hne : ls.length ≠ 0 := fun hc => hl (List.length_eq_zero_iff.1 hc)
      rw [if_neg (by simp only; omega), if_neg hl]
      erw [rtext_loop h.1 (by omega)]
      rfl
  · refine ⟨⟨#[]⟩, ?_, ?_⟩
    · rw [m_name_Text, labels_big h hs (by omega), Option.bind_some, if_pos (by decide)]
    · rw [m_ref03_Text, rlabels_big h hs (by omega), Option.bind_some, if_pos (by decide)]
  · refine ⟨⟨#[]⟩, ?_, ?_⟩
    · rw [m_name_Text, labels_no h (by omega), Option.bind_some, if_pos (by decide)]
    · rw [m_ref03_Text, rlabels_no h (by omega), Option.bind_some, if_pos (by decide)]
open Go.RowKit
/-- A digit that stands there. -/
def dig (l : List Int) (j : Nat) : Option Int := match l[j]? with
  | some x => if 48 ≤ x ∧ x ≤ 57 then some (x - 48) else none
  | none => none
theorem dig_range {l : List Int} {j : Nat} {a : Int} (h : dig l j = some a) : 0 ≤ a ∧ a ≤ 9 := by
  unfold dig at h
  split at h
  · split at h
    · injection h with h; omega
    · cases h
  · cases h
theorem dig_no {l : List Int} {j : Nat} (h : l[j]? = none) : dig l j = none := by unfold dig; rw [h]
theorem dig_at {l : List Int} {j : Nat} {x : Int} (h : l[j]? = some x) : dig l j = if 48 ≤ x ∧ x ≤ 57 then some (x - 48) else none := by unfold dig; rw [h]
theorem bytes_at {s : ByteArray} {j : Nat} (h : j < s.size) : (bytesI s)[j]? = some (byteAt s j) ∧ sat_ s (j : Int) = some (byteAt s j) := by
  have h1 : sat_ s (j : Int) = some (byteAt s j) := sat_of (by omega) (by omega)
  have h2 := h1
  rw [sat_eq_at, at_nat (by rw [← size_bytes]; exact h)] at h2
  exact ⟨by rw [List.getElem?_eq_getElem (by rw [← size_bytes]; exact h)]; exact h2, h1⟩
theorem c1_dig {s : ByteArray} (hs : s.size ≤ 1000000) (j : Nat) : m_name_octet_c1 (j : Int) s = some (match dig (bytesI s) j with | some a => (a, true) | none => (0, false)) := by
  rw [m_name_octet_c1]
  by_cases h : s.size ≤ j
  · rw [if_pos (by omega), dig_no (List.getElem?_eq_none (by rw [← size_bytes]; exact h))]
  · obtain ⟨h1, h2⟩ := bytes_at (s := s) (j := j) (by omega)
    rw [if_neg (by omega), h2, Option.bind_some, dig_at h1]
    generalize byteAt s (j : Int) = x
    by_cases c1 : x < 48
    · rw [if_pos c1, if_neg (by omega)]
    · rw [if_neg c1, Option.bind_some]
      by_cases c2 : 57 < x
      · rw [if_pos c2, if_neg (by omega)]
      · rw [if_neg c2, Option.bind_some, if_pos (by omega), wrapu8 (by omega) (by omega), w64_id (by omega) (by omega)]
theorem octet_dig {s : ByteArray} (hs : s.size ≤ 1000000) {a : Int} (ha : dig (bytesI s) 0 = some a) :
    (∃ b c, dig (bytesI s) 1 = some b ∧ dig (bytesI s) 2 = some c ∧ m_name_octet s = some (IntKind.u8.wrap (100 * a + 10 * b + c), 3, decide (100 * a + 10 * b + c ≤ 255))) ∨
    ((dig (bytesI s) 1 = none ∨ dig (bytesI s) 2 = none) ∧ ∃ z, m_name_octet s = some (z, 3, false)) := by
  have hne : ¬ s = ⟨#[]⟩ := fun h => by
    rw [dig_no (List.getElem?_eq_none (by rw [← size_bytes, size_nil.1 h]; omega))] at ha; cases ha
  have e0 := c1_dig hs 0
  have e1 := c1_dig hs 1
  have e2 := c1_dig hs 2
  rw [ha] at e0
  have ra := dig_range ha
  rw [m_name_octet, if_neg hne, show (0 : Int) = ((0 : Nat) : Int) from rfl, e0, Option.bind_some, if_pos rfl, show (1 : Int) = ((1 : Nat) : Int) from rfl, e1, Option.bind_some, show (2 : Int) = ((2 : Nat) : Int) from rfl, e2, Option.bind_some]
  cases h1 : dig (bytesI s) 1 with
  | none => right; simp only; rw [if_neg (by simp)]; exact ⟨.inl trivial, _, rfl⟩
  | some b =>
    cases h2 : dig (bytesI s) 2 with
    | none => right; simp only; rw [if_pos trivial, if_neg (by simp)]; exact ⟨.inr trivial, _, rfl⟩
    | some c =>
      left
      have rb := dig_range h1
      have rc := dig_range h2
      refine ⟨b, c, rfl, rfl, ?_⟩
      simp only
      rw [if_pos trivial, if_pos trivial, w64_id (x := 100 * a) (by omega) (by omega), w64_id (x := 10 * b) (by omega) (by omega), w64_id (x := 100 * a + 10 * b) (by omega) (by omega), w64_id (x := 100 * a + 10 * b + c) (by omega) (by omega)]
/-! ### The document's digits -/
theorem s5_dig {p : ByteArray} (hp : p.size ≤ 1000000) {i k : Nat} (hi : i ≤ 1000000) (hk : k < 3) {v : Int} (hv : 0 ≤ v ∧ v ≤ 1000) :
    m_ref03_Parse_s5 p (i : Int) v ((k + 1 : Nat) : Int) = match dig ((bytesI p).drop (i + 1)) k with | some a => some (.inl (v * 10 + a, ((k + 1 + 1 : Nat) : Int))) | none => some (.inr (.inr (⟨#[]⟩, 10))) := by
  have hw : w64 ((i : Int) + ((k + 1 : Nat) : Int)) = ((i + 1 + k : Nat) : Int) := by rw [w64_id (by omega) (by omega)]; omega
  have hg : ((bytesI p).drop (i + 1))[k]? = (bytesI p)[i + 1 + k]? := by rw [List.getElem?_drop]
  rw [m_ref03_Parse_s5, if_pos (by omega), hw]
  by_cases h : p.size ≤ i + 1 + k
  · rw [if_pos (by omega), dig_no (by rw [hg]; exact List.getElem?_eq_none (by rw [← size_bytes]; exact h))]
  · obtain ⟨h1, h2⟩ := bytes_at (s := p) (j := i + 1 + k) (by omega)
    rw [if_neg (by omega), h2, Option.bind_some, dig_at (hg.trans h1)]
    generalize byteAt p ((i + 1 + k : Nat) : Int) = x
    by_cases c1 : x < 48
    · rw [if_pos c1, if_neg (by omega)]
    · rw [if_neg c1, Option.bind_some]
      by_cases c2 : 57 < x
      · rw [if_pos c2, if_neg (by omega)]
      · rw [if_neg c2, Option.bind_some, if_pos (by omega), wrapu8 (by omega) (by omega), w64_id (x := x - 48) (by omega) (by omega), w64_id (x := v * 10) (by omega) (by omega), w64_id (x := v * 10 + (x - 48)) (by omega) (by omega), w64_id (by omega) (by omega)]
        rfl
theorem digits_loop {p : ByteArray} (hp : p.size ≤ 1000000) {i : Nat} (hi : i ≤ 1000000) {a : Int} (ha : dig ((bytesI p).drop (i + 1)) 0 = some a) :
    (∀ b c, dig ((bytesI p).drop (i + 1)) 1 = some b → dig ((bytesI p).drop (i + 1)) 2 = some c → loop (fun s => m_ref03_Parse_s5 p (i : Int) s.1 s.2) (0, 1) = some (.inl (100 * a + 10 * b + c))) ∧
    ((dig ((bytesI p).drop (i + 1)) 1 = none ∨ dig ((bytesI p).drop (i + 1)) 2 = none) → loop (fun s => m_ref03_Parse_s5 p (i : Int) s.1 s.2) (0, 1) = some (.inr (⟨#[]⟩, 10))) := by
  have ra := dig_range ha
  have e0 := s5_dig hp hi (k := 0) (by omega) (v := 0) (by omega)
  rw [ha] at e0
  have L0 : loop (fun s => m_ref03_Parse_s5 p (i : Int) s.1 s.2) (0, 1) = loop (fun s => m_ref03_Parse_s5 p (i : Int) s.1 s.2) (0 * 10 + a, ((0 + 1 + 1 : Nat) : Int)) := loop_inl e0
  have e1 := s5_dig hp hi (k := 1) (by omega) (v := 0 * 10 + a) (by omega)
  constructor
  · intro b c h1 h2
    have rb := dig_range h1
    have rc := dig_range h2
    rw [h1] at e1
    have L1 : loop (fun s => m_ref03_Parse_s5 p (i : Int) s.1 s.2) (0 * 10 + a, ((0 + 1 + 1 : Nat) : Int)) = loop (fun s => m_ref03_Parse_s5 p (i : Int) s.1 s.2) ((0 * 10 + a) * 10 + b, ((1 + 1 + 1 : Nat) : Int)) := loop_inl e1
    have e2 := s5_dig hp hi (k := 2) (by omega) (v := (0 * 10 + a) * 10 + b) (by omega)
    rw [h2] at e2
    have L2 : loop (fun s => m_ref03_Parse_s5 p (i : Int) s.1 s.2) ((0 * 10 + a) * 10 + b, ((1 + 1 + 1 : Nat) : Int)) = loop (fun s => m_ref03_Parse_s5 p (i : Int) s.1 s.2) (((0 * 10 + a) * 10 + b) * 10 + c, ((2 + 1 + 1 : Nat) : Int)) := loop_inl e2
    have e3 : m_ref03_Parse_s5 p (i : Int) (((0 * 10 + a) * 10 + b) * 10 + c) ((2 + 1 + 1 : Nat) : Int) = some (.inr (.inl (((0 * 10 + a) * 10 + b) * 10 + c))) := by rw [m_ref03_Parse_s5, if_neg (by omega)]
    have L3 : loop (fun s => m_ref03_Parse_s5 p (i : Int) s.1 s.2) (((0 * 10 + a) * 10 + b) * 10 + c, ((2 + 1 + 1 : Nat) : Int)) = some (.inl (((0 * 10 + a) * 10 + b) * 10 + c)) := loop_inr e3
    rw [L0, L1, L2, L3, show ((0 * 10 + a) * 10 + b) * 10 + c = 100 * a + 10 * b + c by omega]
  · intro h
    cases h1 : dig ((bytesI p).drop (i + 1)) 1 with
    | none =>
      rw [h1] at e1
      rw [L0]
      exact loop_inr e1
    | some b =>
      have rb := dig_range h1
      have h2 := h.resolve_left (by rw [h1]; simp)
      rw [h1] at e1
      have L1 : loop (fun s => m_ref03_Parse_s5 p (i : Int) s.1 s.2) (0 * 10 + a, ((0 + 1 + 1 : Nat) : Int)) = loop (fun s => m_ref03_Parse_s5 p (i : Int) s.1 s.2) ((0 * 10 + a) * 10 + b, ((1 + 1 + 1 : Nat) : Int)) := loop_inl e1
      have e2 := s5_dig hp hi (k := 2) (by omega) (v := (0 * 10 + a) * 10 + b) (by omega)
      rw [h2] at e2
      rw [L0, L1]
      exact loop_inr e2
/-! ### A step, both ways -/
theorem str_nil (l : List Int) : strOfNums l = ⟨#[]⟩ ↔ l = [] := by
  rw [size_nil, str_size]; exact List.length_eq_zero_iff
/-- What the two walks end with. -/
def Rel (x : (List Int × List ByteArray) ⊕ (ByteArray × Int)) (y : (List ByteArray × ByteArray × Bool) ⊕ (ByteArray × Int)) : Prop :=
  (x = .inr (⟨#[]⟩, 10) ∧ y = .inr (⟨#[]⟩, 10)) ∨ ∃ now ls, x = .inl (now, ls) ∧ y = .inl (ls, strOfNums now, decide (now = [])) ∧ now.length ≤ 1000 ∧ ls.length ≤ 1000 ∧ (now = [] → ls ≠ [])
/-- Both step on alike, or both refuse. -/
def Both (p : ByteArray) (now : List Int) (ls : List ByteArray) (e : Bool) (i : Nat) : Prop :=
  (m_name_Parse_s3 p now ls (i : Int) = some (.inr (.inr (⟨#[]⟩, 10))) ∧ m_ref03_Parse_s3 p ls (strOfNums now) e (i : Int) = some (.inr (.inr (⟨#[]⟩, 10)))) ∨
  ∃ (now' : List Int) (ls' : List ByteArray) (k : Nat), m_name_Parse_s3 p now ls (i : Int) = some (.inl (now', ls', ((i + k : Nat) : Int))) ∧ m_ref03_Parse_s3 p ls (strOfNums now) e (i : Int) = some (.inl (ls', strOfNums now', decide (now' = []), ((i + k : Nat) : Int))) ∧
    1 ≤ k ∧ i + k ≤ p.size ∧ now'.length ≤ now.length + k ∧ ls'.length ≤ ls.length + k ∧ (now' = [] → ls' ≠ [])
theorem both_step {p : ByteArray} (hp : p.size ≤ 600) {now : List Int} {ls : List ByteArray} {i : Nat} (hi : i < p.size) (hn : now.length ≤ i) (hl : ls.length ≤ i) (e : Bool) : Both p now ls e i := by
  have hlen : i < (bytesI p).length := by rw [← size_bytes]; exact hi
  obtain ⟨c, r, h⟩ : ∃ c r, (bytesI p).drop i = c :: r := ⟨_, _, List.drop_eq_getElem_cons hlen⟩
  obtain ⟨h1, h2, h3⟩ := drop_byte h
  have hs : sat_ p (i : Int) = some c := by rw [sat_of (by omega) (by omega), h2]
  have hi1 : w64 ((i : Int) + 1) = ((i + 1 : Nat) : Int) := by rw [w64_id (by omega) (by omega)]; omega
  by_cases c46 : c = 46
  · subst c46
    have hr : m_ref03_Parse_s3 p ls (strOfNums now) e (i : Int) = if strOfNums now = (⟨#[]⟩ : ByteArray) then some (.inr (.inr (⟨#[]⟩, 10))) else some (.inl (ls ++ [strOfNums now], ⟨#[]⟩, true, ((i + 1 : Nat) : Int))) := by
      rw [m_ref03_Parse_s3, if_pos (by omega), hs, Option.bind_some, if_pos rfl, app_of (by simp; omega), Option.bind_some, hi1]
    by_cases hne : now = []
    · subst hne
      left
      refine ⟨parse_dot2 (by omega) h, ?_⟩
      rw [hr, if_pos ((str_nil _).2 rfl)]
    · right
      refine ⟨[], ls ++ [strOfNums now], 1, parse_dot (by omega) h hne (by omega), ?_, by omega, by omega, by simp, by simp, by simp⟩
      rw [hr, if_neg (fun g => hne ((str_nil _).1 g))]; rfl
  by_cases c92 : c = 92
  case neg =>
    right
    refine ⟨now ++ [c], ls, 1, parse_plain (by omega) h c46 c92 (by omega), ?_, by omega, by omega, by simp, by omega, by simp⟩
    rw [m_ref03_Parse_s3, if_pos (by omega), hs, Option.bind_some, if_neg c46, if_pos c92, sadd_str (by simp; omega), Option.bind_some, hi1, decide_eq_false (by simp)]
  subst c92
  have hsz : (p.extract (i + 1) p.size).size = p.size - (i + 1) := by rw [ByteArray.size_extract]; omega
  have hb : bytesI (p.extract (i + 1) p.size) = (bytesI p).drop (i + 1) := by rw [bytesI_extract, size_bytes p, List.take_length]
  have hr : m_ref03_Parse_s3 p ls (strOfNums now) e (i : Int) = if (p.size : Int) ≤ ((i + 1 : Nat) : Int) then some (.inr (.inr (⟨#[]⟩, 10))) else (sat_ p ((i + 1 : Nat) : Int)).bind fun b391 =>
      if b391 < 48 then (sadd (strOfNums now) (strOfNums [b391])).bind fun s449 => some (.inl (ls, s449, false, w64 ((i : Int) + 2)))
      else if 57 < b391 then (sadd (strOfNums now) (strOfNums [b391])).bind fun s395 => some (.inl (ls, s395, false, w64 ((i : Int) + 2)))
      else (loop (fun s => m_ref03_Parse_s5 p (i : Int) s.1 s.2) (0, 1)).bind fun e => Sum.elim (fun e => m_ref03_Parse_j4 (strOfNums now) ls (i : Int) e) (fun x => some (.inr (.inr x))) e := by
    rw [m_ref03_Parse_s3, if_pos (by omega), hs, Option.bind_some, if_neg (by omega), if_neg (fun g => g rfl), hi1]
  have hc : m_name_Parse_s3 p now ls (i : Int) = (m_name_octet (p.extract (i + 1) p.size)).bind fun (z417 : Int × Int × Bool) =>
      if z417.2.2 = true then (app 1 now [z417.1]).bind fun l420 => some (.inl (l420, ls, w64 ((w64 ((i : Int) + z417.2.1)) + 1))) else some (.inr (.inr (⟨#[]⟩, 10))) := by
    rw [m_name_Parse_s3, if_pos (by omega), hs, Option.bind_some, if_neg (by omega), if_pos rfl, hi1, scutLo, if_pos ⟨by omega, by omega⟩, Option.bind_some, Int.toNat_natCast]
  by_cases hend : p.size ≤ i + 1
  · left
    refine ⟨?_, by rw [hr, if_pos (by omega)]⟩
    rw [hc, m_name_octet, if_pos (size_nil.2 (by omega)), Option.bind_some, if_neg (by simp)]
  obtain ⟨g1, g2⟩ := bytes_at (s := p) (j := i + 1) (by omega)
  have hrng := byteAt_lt p ((i + 1 : Nat) : Int)
  have hd0 : ((bytesI p).drop (i + 1))[0]? = some (byteAt p ((i + 1 : Nat) : Int)) := by rw [List.getElem?_drop]; exact g1
  obtain ⟨r2, hr2⟩ : ∃ r2, (bytesI p).drop (i + 1) = byteAt p ((i + 1 : Nat) : Int) :: r2 := by
    cases hh : (bytesI p).drop (i + 1) with
    | nil => rw [hh] at hd0; simp at hd0
    | cons d r2 => rw [hh] at hd0; rw [List.getElem?_cons_zero] at hd0; injection hd0 with hd0; exact ⟨r2, by rw [hd0]⟩
  rw [if_neg (by omega), g2, Option.bind_some] at hr
  generalize byteAt p ((i + 1 : Nat) : Int) = d at hrng hd0 hr2 hr
  by_cases hdig : d < 48 ∨ 57 < d
  · right
    have ho := octet_other (s := p.extract (i + 1) p.size) (by omega) (hb.trans hr2) hdig
    have e2 : ((i + 1 + 1 : Nat) : Int) = ((i + 2 : Nat) : Int) := rfl
    refine ⟨now ++ [d], ls, 2, parse_esc (by omega) h (by omega) (k := 1) (by omega) ho, ?_, by omega, by omega, by simp, by omega, by simp⟩
    rw [hr, decide_eq_false (by simp), w64_id (x := (i : Int) + 2) (by omega) (by omega)]
    by_cases c1 : d < 48
    · rw [if_pos c1, sadd_str (by simp; omega), Option.bind_some]; rfl
    · rw [if_neg c1, if_pos (hdig.resolve_left c1), sadd_str (by simp; omega), Option.bind_some]; rfl
  · rw [if_neg (fun g => hdig (.inl g)), if_neg (fun g => hdig (.inr g))] at hr
    have ha : dig ((bytesI p).drop (i + 1)) 0 = some (d - 48) := by rw [dig_at hd0, if_pos (by omega)]
    obtain ⟨L1, L2⟩ := digits_loop (p := p) (i := i) (by omega) (by omega) ha
    rcases octet_dig (s := p.extract (i + 1) p.size) (by omega) (by rw [hb]; exact ha) with ⟨b, c, hb1, hc1, ho⟩ | ⟨hno, z, ho⟩
    · rw [hb] at hb1 hc1
      have rb := dig_range hb1
      have rc := dig_range hc1
      rw [L1 b c hb1 hc1, Option.bind_some, Sum.elim_inl, m_ref03_Parse_j4] at hr
      rw [ho, Option.bind_some] at hc
      simp only at hc
      generalize hv : 100 * (d - 48) + 10 * b + c = v at hr hc
      have h4 : i + 4 ≤ p.size := by
        rcases Nat.lt_or_ge (i + 1 + 2) p.size with g | g
        · omega
        · rw [dig_no (by rw [List.getElem?_drop]; exact List.getElem?_eq_none (by rw [← size_bytes]; omega))] at hc1; cases hc1
      by_cases hv2 : v ≤ 255
      · right
        rw [if_neg (by omega), sadd_str (by simp; omega), Option.bind_some, w64_id (x := (i : Int) + 4) (by omega) (by omega)] at hr
        rw [if_pos (decide_eq_true hv2), app_of (by simp; omega), Option.bind_some, w64_id (x := (i : Int) + 3) (by omega) (by omega), w64_id (by omega) (by omega)] at hc
        refine ⟨now ++ [IntKind.u8.wrap v], ls, 4, ?_, ?_, by omega, h4, by simp, by omega, by simp⟩
        · rw [hc, show (i : Int) + 3 + 1 = ((i + 4 : Nat) : Int) by omega]
        · rw [hr, decide_eq_false (by simp)]; rfl
      · left
        rw [if_pos (by omega)] at hr
        rw [if_neg (by simpa using hv2)] at hc
        exact ⟨hc, hr⟩
    · left
      rw [hb] at hno
      rw [L2 hno, Option.bind_some, Sum.elim_inr] at hr
      rw [ho, Option.bind_some, if_neg (by simp)] at hc
      exact ⟨hc, hr⟩
/-! ### The walks -/
theorem sim {p : ByteArray} (hp : p.size ≤ 600) : ∀ (d i : Nat) (now : List Int) (ls : List ByteArray) (e : Bool), p.size - i ≤ d → i ≤ p.size → now.length ≤ i → ls.length ≤ i → (i = p.size → e = decide (now = []) ∧ (now = [] → ls ≠ [])) →
    ∃ x y, loop (fun s => m_name_Parse_s3 p s.1 s.2.1 s.2.2) (now, ls, (i : Int)) = some x ∧ loop (fun s => m_ref03_Parse_s3 p s.1 s.2.1 s.2.2.1 s.2.2.2) (ls, strOfNums now, e, (i : Int)) = some y ∧ Rel x y := by
  intro d
  induction d with
  | zero =>
    intro i now ls e hd hi hn hl he
    have hi' : i = p.size := by omega
    obtain ⟨e1, e2⟩ := he hi'
    have a1 : m_name_Parse_s3 p now ls (i : Int) = some (.inr (.inl (now, ls))) := by rw [m_name_Parse_s3, if_neg (by omega)]
    have a2 : m_ref03_Parse_s3 p ls (strOfNums now) e (i : Int) = some (.inr (.inl (ls, strOfNums now, e))) := by rw [m_ref03_Parse_s3, if_neg (by omega)]
    exact ⟨_, _, loop_inr a1, loop_inr a2, .inr ⟨now, ls, rfl, by rw [e1], by omega, by omega, e2⟩⟩
  | succ d ih =>
    intro i now ls e hd hi hn hl he
    by_cases hi' : i = p.size
    · obtain ⟨e1, e2⟩ := he hi'
      have a1 : m_name_Parse_s3 p now ls (i : Int) = some (.inr (.inl (now, ls))) := by rw [m_name_Parse_s3, if_neg (by omega)]
      have a2 : m_ref03_Parse_s3 p ls (strOfNums now) e (i : Int) = some (.inr (.inl (ls, strOfNums now, e))) := by rw [m_ref03_Parse_s3, if_neg (by omega)]
      exact ⟨_, _, loop_inr a1, loop_inr a2, .inr ⟨now, ls, rfl, by rw [e1], by omega, by omega, e2⟩⟩
    · rcases both_step hp (i := i) (by omega) hn hl e with ⟨a1, a2⟩ | ⟨now', ls', k, a1, a2, k1, k2, k3, k4, k5⟩
      · exact ⟨_, _, loop_inr a1, loop_inr a2, .inl ⟨rfl, rfl⟩⟩
      · obtain ⟨x, y, x1, y1, R⟩ := ih (i + k) now' ls' (decide (now' = [])) (by omega) k2 (by omega) (by omega) (fun _ => ⟨rfl, k5⟩)
        have L1 : loop (fun s => m_name_Parse_s3 p s.1 s.2.1 s.2.2) (now, ls, (i : Int)) = loop (fun s => m_name_Parse_s3 p s.1 s.2.1 s.2.2) (now', ls', ((i + k : Nat) : Int)) := loop_inl a1
        have L2 : loop (fun s => m_ref03_Parse_s3 p s.1 s.2.1 s.2.2.1 s.2.2.2) (ls, strOfNums now, e, (i : Int)) = loop (fun s => m_ref03_Parse_s3 p s.1 s.2.1 s.2.2.1 s.2.2.2) (ls', strOfNums now', decide (now' = []), ((i + k : Nat) : Int)) := loop_inl a2
        exact ⟨x, y, L1.trans x1, L2.trans y1, R⟩
theorem parse_both {p : ByteArray} (hp : p.size ≤ 600) : ∃ r, m_name_Parse p = some r ∧ m_ref03_Parse p = some r := by
  by_cases h1 : p = ⟨#[46]⟩
  · subst h1
    refine ⟨_, parse_root, ?_⟩
    rw [m_ref03_Parse, if_pos rfl]
    decide +kernel
  by_cases h2 : p = ⟨#[]⟩
  · subst h2
    refine ⟨(⟨#[]⟩, 10), by decide +kernel, ?_⟩
    rw [m_ref03_Parse, if_neg h1, if_pos rfl]
  have hpos : p.size ≠ 0 := fun h => h2 (size_nil.2 h)
  obtain ⟨x, y, x1, y1, R⟩ := sim hp p.size 0 [] [] false (by omega) (by omega) (by simp) (by simp) (fun h => absurd h.symm hpos)
  have x1' : loop (fun s => m_name_Parse_s3 p s.1 s.2.1 s.2.2) (([] : List Int), ([] : List ByteArray), 0) = some x := x1
  have y1' : loop (fun s => m_ref03_Parse_s3 p s.1 s.2.1 s.2.2.1 s.2.2.2) (([] : List ByteArray), (⟨#[]⟩ : ByteArray), false, 0) = some y := y1
  rw [m_name_Parse, if_neg h1, x1', Option.bind_some, m_ref03_Parse, if_neg h1, if_neg h2, y1', Option.bind_some]
  rcases R with ⟨rfl, rfl⟩ | ⟨now, ls, rfl, rfl, n1, n2, n3⟩
  · exact ⟨_, rfl, rfl⟩
  · rw [Sum.elim_inl, Sum.elim_inl, m_name_Parse_j1, m_ref03_Parse_j1]
    simp only
    by_cases hn : now = []
    · have hls := n3 hn
      have hl0 : ls.length ≠ 0 := fun h => hls (List.length_eq_zero_iff.1 h)
      rw [if_neg (by rw [hn]; simp), if_pos (decide_eq_true hn), m_name_Parse_j2, m_ref03_Parse_j2, if_neg (by omega), make_eq (by omega), rmake_eq (by omega)]
      exact ⟨_, rfl, rfl⟩
    · have hn0 : now.length ≠ 0 := fun h => hn (List.length_eq_zero_iff.1 h)
      rw [if_pos (by omega), if_neg (by simpa using hn), app_of (by simp; omega), Option.bind_some, Option.bind_some, m_name_Parse_j2, m_ref03_Parse_j2, if_neg (by simp; omega), make_eq (by simp; omega), rmake_eq (by simp; omega)]
      exact ⟨_, rfl, rfl⟩
theorem q_NameTexts (p0 : ByteArray) (p1 : ByteArray) (h0 : p0.size ≤ 9223372036854775807) (h1 : p1.size ≤ 9223372036854775807) : m_law03_NameTexts p0 p1 = some true := by
  obtain ⟨n, n1, n2⟩ := shortT (s := p0) 300 h0
  obtain ⟨t, t1, t2⟩ := shortT (s := p1) 600 h1
  replace n1 : m_law03_short p0 300 = some n := n1
  replace t1 : m_law03_short p1 600 = some t := t1
  obtain ⟨r, r1, r2⟩ := parse_both t2
  obtain ⟨s, s1, s2⟩ := text_both n2
  rw [m_law03_NameTexts, awakeT, Option.bind_some, n1, Option.bind_some, t1, Option.bind_some, r1, Option.bind_some, r2, Option.bind_some, if_pos rfl, s1, Option.bind_some, s2, Option.bind_some, if_pos rfl, if_pos rfl, decide_eq_true rfl]
end Go.Proofs.YtkmkpodioedlfaaDoor
