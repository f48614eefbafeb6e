import Derived.Test.YtpdhdpefdgndeaaKMF
set_option linter.unusedVariables false
set_option linter.unusedSimpArgs false
set_option maxRecDepth 16384
namespace Go.Proofs.Ytpdhdpefdgndeaa
open Go.RowKit
def encB (ls : List ByteArray) : List Int := ls.flatMap fun s => (s.size : Int) :: bytesI s
def okLs (ls : List ByteArray) : Prop := ∀ s ∈ ls, 1 ≤ s.size ∧ s.size ≤ 63
instance (ls : List ByteArray) : Decidable (okLs ls) := by unfold okLs; infer_instance
/-- n is the name of the labels ls. -/
def Nm (n : ByteArray) (ls : List ByteArray) : Prop := okLs ls ∧ bytesI n = encB ls ++ [0]
def starts : Nat → List ByteArray → List (Int × ByteArray)
  | _, [] => []
  | a, s :: ls => ((a : Int), s) :: starts (a + 1 + s.size) ls
/-- The bytes of a row are at its end: nothing, or a 0 ahead. -/
def endR (l : List Int) : Prop := l = [] ∨ ∃ r, l = 0 :: r
theorem encB_cons (s : ByteArray) (ls : List ByteArray) : encB (s :: ls) = (s.size : Int) :: bytesI s ++ encB ls := by simp [encB]
theorem encB_append (a b : List ByteArray) : encB (a ++ b) = encB a ++ encB b := by simp [encB]
theorem encB_range {ls : List ByteArray} (h : okLs ls) : ∀ x ∈ encB ls, 0 ≤ x ∧ x ≤ 255 := by
  intro x hx
  obtain ⟨s, hs, hx⟩ := List.mem_flatMap.1 hx
  have := h s hs
  rcases List.mem_cons.1 hx with rfl | hx
  · omega
  · exact bytesI_range s x hx
theorem drop_byte {n : ByteArray} {a : Nat} {x : Int} {r : List Int} (h : (bytesI n).drop a = x :: r) : a < n.size ∧ byteAt n (a : Int) = x ∧ (bytesI n).drop (a + 1) = r := by
  have hl : a < (bytesI n).length := by
    by_cases hc : a < (bytesI n).length
    · exact hc
    · rw [List.drop_of_length_le (by omega)] at h; cases h
  have hs : a < n.size := by rw [size_bytes]; exact hl
  rw [List.drop_eq_getElem_cons hl] at h
  injection h with h1 h2
  rw [bytesI_get n a hs] at h1
  exact ⟨hs, h1, h2⟩
theorem drop_app {n : ByteArray} {a : Nat} {s : ByteArray} {r : List Int} (h : (bytesI n).drop a = bytesI s ++ r) : n.extract a (a + s.size) = s ∧ a + s.size ≤ max n.size a ∧ (bytesI n).drop (a + s.size) = r := by
  have hs := size_bytes s
  have hn := size_bytes n
  have hl := congrArg List.length h
  rw [List.length_drop, List.length_append] at hl
  refine ⟨bytesI_inj ?_, by omega, ?_⟩
  · rw [bytesI_extract, List.drop_take, h, show a + s.size - a = (bytesI s).length by omega, List.take_left]
  · rw [← List.drop_drop, h, hs, List.drop_left]
theorem drop_none {n : ByteArray} {a : Nat} (h : (bytesI n).drop a = []) : n.size ≤ a := by
  rw [size_bytes]; exact List.drop_eq_nil_iff.1 h
theorem okLs_cons {s : ByteArray} {ls : List ByteArray} : okLs (s :: ls) ↔ (1 ≤ s.size ∧ s.size ≤ 63) ∧ okLs ls := by
  simp [okLs]
theorem eachAt_end {n : ByteArray} {a : Nat} (h : endR ((bytesI n).drop a)) (f : Nat) : eachAt n f a = ([], (a : Int)) := by
  cases f with
  | zero => rfl
  | succ f =>
    rw [eachAt, if_neg]
    rcases h with h | ⟨r, h⟩
    · have := drop_none h; omega
    · have := (drop_byte h).2.1; simp [this]
theorem eachAt_enc {n : ByteArray} {rest : List Int} (hr : endR rest) : ∀ (ls : List ByteArray) (a f : Nat), okLs ls → (bytesI n).drop a = encB ls ++ rest → ls.length ≤ f →
    eachAt n f a = (starts a ls, ((a + (encB ls).length : Nat) : Int)) := by
  intro ls
  induction ls with
  | nil =>
    intro a f _ h _
    exact eachAt_end (by rw [h]; exact hr) f
  | cons s ls ih =>
    intro a f hok h hf
    obtain ⟨hs, hok⟩ := okLs_cons.1 hok
    obtain ⟨f, rfl⟩ : ∃ g, f = g + 1 := ⟨f - 1, by simp at hf; omega⟩
    rw [encB_cons] at h
    simp only [List.cons_append, List.append_assoc] at h
    obtain ⟨h1, h2, h3⟩ := drop_byte h
    obtain ⟨h4, h5, h6⟩ := drop_app h3
    rw [eachAt, if_pos ⟨h1, by rw [h2]; omega⟩, h2, if_neg (by omega)]
    have := ih (a + 1 + s.size) f hok (by rw [← h6]) (by simp at hf; omega)
    simp only [Int.toNat_natCast]
    rw [this, h4, starts, encB_cons]
    congr 2
    simp only [List.length_append, List.length_cons, ← size_bytes]
    omega
theorem eachAt_any {n : ByteArray} : ∀ (f a : Nat), n.size ≤ a + f → a ≤ n.size → (eachAt n f a).2 = -1 ∨ ∃ ls rest, okLs ls ∧ (bytesI n).drop a = encB ls ++ rest ∧ endR rest := by
  intro f
  induction f with
  | zero =>
    intro a h1 h2
    exact .inr ⟨[], [], (fun _ h => by cases h), by rw [List.drop_of_length_le (by rw [← size_bytes]; omega)]; rfl, .inl rfl⟩
  | succ f ih =>
    intro a h1 h2
    rw [eachAt]
    by_cases hc : a < n.size ∧ byteAt n a ≠ 0
    · rw [if_pos hc]
      by_cases hb : 63 < byteAt n a ∨ n.size < a + 1 + (byteAt n a).toNat
      · rw [if_pos hb]; exact .inl rfl
      · rw [if_neg hb]
        have hr := byteAt_lt n a
        rcases ih (a + 1 + (byteAt n a).toNat) (by omega) (by omega) with h | ⟨ls, rest, h3, h4, h5⟩
        · exact .inl h
        · have hsz : (n.extract (a + 1) (a + 1 + (byteAt n a).toNat)).size = (byteAt n a).toNat := by
            rw [ByteArray.size_extract]; omega
          refine .inr ⟨n.extract (a + 1) (a + 1 + (byteAt n a).toNat) :: ls, rest, okLs_cons.2 ⟨by rw [hsz]; omega, h3⟩, ?_, h5⟩
          have hl : a < (bytesI n).length := by rw [← size_bytes]; exact hc.1
          rw [List.drop_eq_getElem_cons hl, bytesI_get n a hc.1, encB_cons, hsz, bytesI_extract]
          simp only [List.cons_append, List.append_assoc]
          have h6 : (bytesI n).drop (a + 1 + (byteAt n a).toNat) = ((bytesI n).drop (a + 1)).drop (byteAt n a).toNat := by rw [List.drop_drop]
          rw [← h4, List.drop_take, h6, show a + 1 + (byteAt n a).toNat - (a + 1) = (byteAt n a).toNat by omega, List.take_append_drop]
          congr 1
          omega
    · rw [if_neg hc]
      refine .inr ⟨[], (bytesI n).drop a, (fun _ h => by cases h), rfl, ?_⟩
      by_cases ha : a < n.size
      · have hl : a < (bytesI n).length := by rw [← size_bytes]; exact ha
        have : byteAt n a = 0 := Classical.byContradiction fun h => hc ⟨ha, h⟩
        rw [List.drop_eq_getElem_cons hl, bytesI_get n a ha, this]
        exact .inr ⟨_, rfl⟩
      · rw [List.drop_of_length_le (by rw [← size_bytes]; omega)]; exact .inl rfl
theorem nm_size {n : ByteArray} {ls : List ByteArray} (h : Nm n ls) : n.size = (encB ls).length + 1 := by
  rw [size_bytes, h.2]; simp
theorem len_enc (ls : List ByteArray) : ls.length ≤ (encB ls).length := by
  induction ls with
  | nil => simp
  | cons s ls ih => rw [encB_cons]; simp; omega
theorem each_nm {n : ByteArray} {ls : List ByteArray} (h : Nm n ls) : eachP n = (starts 0 ls, (n.size : Int) - 1) := by
  have hl := len_enc ls
  have hs := nm_size h
  rw [eachP, eachAt_enc (rest := [0]) (.inr ⟨[], rfl⟩) ls 0 n.size h.1 (by rw [List.drop_zero, h.2]) (by omega)]
  congr 1
  omega
theorem each_no {n : ByteArray} (h : ¬ ∃ ls, Nm n ls) : (eachP n).2 ≠ (n.size : Int) - 1 ∨ (eachP n).2 < 0 := by
  rcases eachAt_any (n := n) n.size 0 (by omega) (by omega) with h1 | ⟨ls, rest, h1, h2, h3⟩
  · rw [eachP, h1]; exact .inr (by omega)
  · left
    have hl := len_enc ls
    have hlen := congrArg List.length h2
    rw [List.drop_zero, ← size_bytes, List.length_append] at hlen
    rw [eachP, eachAt_enc h3 ls 0 n.size h1 h2 (by omega)]
    intro hc
    refine h ⟨ls, h1, ?_⟩
    rw [List.drop_zero] at h2
    rw [h2]
    congr 1
    simp only at hc
    rcases h3 with rfl | ⟨r, rfl⟩
    · simp at hlen; omega
    · simp only [List.length_cons] at hlen
      rw [List.length_eq_zero_iff.1 (by omega : r.length = 0)]
theorem starts_snd (a : Nat) (ls : List ByteArray) : (starts a ls).map Prod.snd = ls := by
  induction ls generalizing a with
  | nil => rfl
  | cons s ls ih => simp [starts, ih]
theorem nm_inj {n : ByteArray} {a b : List ByteArray} (h : Nm n a) (h' : Nm n b) : a = b := by
  have := (each_nm h).symm.trans (each_nm h')
  injection this with h1 _
  have := congrArg (List.map Prod.snd) h1
  rwa [starts_snd, starts_snd] at this
/-- The name that labels make. -/
def mkN (ls : List ByteArray) : ByteArray := strOfNums (encB ls ++ [0])
theorem mkN_nm {ls : List ByteArray} (h : okLs ls) : Nm (mkN ls) ls := ⟨h, by
  rw [mkN, bytesI_str]
  intro x hx
  rcases List.mem_append.1 hx with hx | hx
  · exact encB_range h x hx
  · simp only [List.mem_singleton] at hx; omega⟩
theorem nm_mk {n : ByteArray} {ls : List ByteArray} (h : Nm n ls) : n = mkN ls := bytesI_inj (by rw [h.2, (mkN_nm h.1).2])
theorem nm_eq {n m : ByteArray} {ls : List ByteArray} (h : Nm n ls) (h' : Nm m ls) : n = m := (nm_mk h).trans (nm_mk h').symm
theorem take_snoc (s : ByteArray) {k : Nat} (h : k < s.size) : (bytesI s).take (k + 1) = (bytesI s).take k ++ [byteAt s k] := by
  rw [List.take_succ_eq_append_getElem (by rw [← size_bytes]; exact h), bytesI_get s k h]
open Go.RowKit
theorem eachM_of {n : ByteArray} (hs : n.size ≤ 1099511627776) : eachM n = some (eachP n) := if_pos hs
theorem labels_nm {n : ByteArray} {ls : List ByteArray} (h : Nm n ls) (hs : n.size ≤ 255) : m_name_Labels n = some (ls, 0) := by
  have := nm_size h
  rw [m_name_Labels, eachM_of (by omega), Option.bind_some, each_nm h, w64_id (by omega) (by omega), if_neg (fun h => h rfl), if_neg (by omega), if_neg (by omega), starts_snd]
theorem labels_big {n : ByteArray} {ls : List ByteArray} (h : Nm n ls) (hs : 255 < n.size) (hb : n.size ≤ 1099511627776) : m_name_Labels n = some ([], 11) := by
  rw [m_name_Labels, eachM_of (by omega), Option.bind_some, each_nm h, w64_id (by omega) (by omega), if_neg (fun h => h rfl), if_neg (by omega), if_pos (by omega)]
theorem labels_no {n : ByteArray} (h : ¬ ∃ ls, Nm n ls) (hb : n.size ≤ 1099511627776) : m_name_Labels n = some ([], 10) := by
  rw [m_name_Labels, eachM_of (by omega), Option.bind_some, w64_id (by omega) (by omega)]
  rcases each_no h with h | h
  · rw [if_pos h]
  · rw [if_pos h]
    split <;> rfl
theorem check_nm {n : ByteArray} {ls : List ByteArray} (h : Nm n ls) (hs : n.size ≤ 255) : m_name_Check n = some 0 := by
  rw [m_name_Check, labels_nm h hs]; rfl
theorem check_big {n : ByteArray} {ls : List ByteArray} (h : Nm n ls) (hs : 255 < n.size) (hb : n.size ≤ 1099511627776) : m_name_Check n = some 11 := by
  rw [m_name_Check, labels_big h hs hb]; rfl
theorem check_no {n : ByteArray} (h : ¬ ∃ ls, Nm n ls) (hb : n.size ≤ 1099511627776) : m_name_Check n = some 10 := by
  rw [m_name_Check, labels_no h hb]; rfl
theorem nm_cases (n : ByteArray) : (∃ ls, Nm n ls ∧ n.size ≤ 255) ∨ (∃ ls, Nm n ls ∧ 255 < n.size) ∨ ¬ ∃ ls, Nm n ls := by
  by_cases h : ∃ ls, Nm n ls
  · obtain ⟨ls, h⟩ := h
    by_cases hs : n.size ≤ 255
    · exact .inl ⟨ls, h, hs⟩
    · exact .inr (.inl ⟨ls, h, by omega⟩)
  · exact .inr (.inr h)
theorem row_step {n : ByteArray} (hn : n.size ≤ 1099511627776) {a : Nat} {out : List ByteArray} (ha : a ≤ n.size) (ho : out.length ≤ a) :
    m_ref03_row_s2 n out (a : Int) = if a < n.size ∧ byteAt n a ≠ 0 then (if 63 < byteAt n a ∨ n.size < a + 1 + (byteAt n a).toNat then some (.inr (.inr ([], false)))
      else some (.inl (out ++ [n.extract (a + 1) (a + 1 + (byteAt n a).toNat)], ((a + 1 + (byteAt n a).toNat : Nat) : Int)))) else some (.inr (.inl (out, (a : Int)))) := by
  rw [m_ref03_row_s2]
  by_cases hc : a < n.size
  · have hb := byteAt_lt n a
    rw [if_pos (show (a : Int) < n.size by omega), sat_of (by omega) (by omega), Option.bind_some]
    by_cases h0 : byteAt n a ≠ 0
    · rw [if_pos h0, if_pos ⟨hc, h0⟩, Option.bind_some, w64_id (by omega) (by omega)]
      by_cases h1 : 63 < byteAt n a
      · rw [if_pos h1, if_pos (.inl h1)]
      · rw [if_neg h1, w64_id (x := (a : Int) + 1) (by omega) (by omega), w64_id (x := (a : Int) + 1 + byteAt n a) (by omega) (by omega)]
        by_cases h2 : n.size < a + 1 + (byteAt n a).toNat
        · rw [if_pos (by omega), if_pos (.inr h2)]
        · rw [if_neg (by omega), if_neg (by omega), scutMid, if_pos ⟨by omega, by omega, by omega⟩, Option.bind_some, app_of (by simp; omega), Option.bind_some,
            show ((a : Int) + 1).toNat = a + 1 by omega, show ((a : Int) + 1 + byteAt n a).toNat = a + 1 + (byteAt n a).toNat by omega]
          congr 4
          omega
    · rw [if_neg h0, if_neg (fun h => h0 h.2)]
  · rw [if_neg (by omega), if_neg (fun h => hc h.1)]
theorem row_loop {n : ByteArray} (hn : n.size ≤ 1099511627776) : ∀ (f a : Nat) (out : List ByteArray), n.size ≤ a + f → a ≤ n.size → out.length ≤ a →
    loop (fun s => m_ref03_row_s2 n s.1 s.2) (out, (a : Int)) = some (if (eachAt n f a).2 = -1 then .inr ([], false) else .inl (out ++ (eachAt n f a).1.map Prod.snd, (eachAt n f a).2)) := by
  intro f
  induction f with
  | zero =>
    intro a out h1 h2 h3
    rw [loop_inr (by simp only [row_step hn h2 h3]; rw [if_neg (by omega)])]
    simp only [eachAt, List.map_nil, List.append_nil]
    rw [if_neg (by omega)]
  | succ f ih =>
    intro a out h1 h2 h3
    have hb := byteAt_lt n a
    by_cases hc : a < n.size ∧ byteAt n a ≠ 0
    · by_cases h4 : 63 < byteAt n a ∨ n.size < a + 1 + (byteAt n a).toNat
      · rw [loop_inr (by simp only [row_step hn h2 h3]; rw [if_pos hc, if_pos h4])]
        rw [eachAt, if_pos hc, if_pos h4, if_pos rfl]
      · rw [loop_inl (by simp only [row_step hn h2 h3]; rw [if_pos hc, if_neg h4]), ih _ _ (by omega) (by omega) (by simp; omega)]
        rw [eachAt, if_pos hc, if_neg h4]
        simp only [List.map_cons, List.append_assoc, List.singleton_append]
    · rw [loop_inr (by simp only [row_step hn h2 h3]; rw [if_neg hc])]
      rw [eachAt, if_neg hc]
      simp only [List.map_nil, List.append_nil]
      rw [if_neg (by omega)]
theorem row_nm {n : ByteArray} {ls : List ByteArray} (h : Nm n ls) (hb : n.size ≤ 1099511627776) : m_ref03_row n = some (ls, true) := by
  have hs := nm_size h
  have := row_loop hb n.size 0 [] (by omega) (by omega) (by simp)
  rw [← eachP, each_nm h, if_neg (by simp only; omega)] at this
  rw [m_ref03_row]
  erw [this]
  simp only [Option.bind_some, Sum.elim_inl, m_ref03_row_j1, List.nil_append, starts_snd]
  rw [w64_id (by omega) (by omega), decide_eq_true rfl]
theorem row_no {n : ByteArray} (h : ¬ ∃ ls, Nm n ls) (hb : n.size ≤ 1099511627776) : ∃ l, m_ref03_row n = some (l, false) := by
  have := row_loop hb n.size 0 [] (by omega) (by omega) (by simp)
  rw [← eachP] at this
  rw [m_ref03_row]
  erw [this]
  by_cases h1 : (eachP n).2 = -1
  · rw [if_pos h1]; exact ⟨_, rfl⟩
  · rw [if_neg h1]
    refine ⟨[] ++ (eachP n).1.map Prod.snd, ?_⟩
    simp only [Option.bind_some, Sum.elim_inl, m_ref03_row_j1]
    rw [w64_id (by omega) (by omega)]
    rw [decide_eq_false]
    intro h2
    rcases each_no h with h3 | h3
    · exact h3 h2
    · rcases eachAt_any (n := n) n.size 0 (by omega) (by omega) with h4 | ⟨ls, rest, h4, h5, h6⟩
      · exact h1 h4
      · have hl := len_enc ls
        have hlen := congrArg List.length h5
        rw [List.drop_zero, ← size_bytes, List.length_append] at hlen
        rw [eachP, eachAt_enc h6 ls 0 n.size h4 h5 (by omega)] at h3
        simp only at h3
        omega
theorem rcheck_nm {n : ByteArray} {ls : List ByteArray} (h : Nm n ls) (hs : n.size ≤ 255) : m_ref03_Check n = some 0 := by
  rw [m_ref03_Check, row_nm h (by omega)]
  simp only [Option.bind_some, if_true]
  rw [if_neg (by omega)]
theorem rcheck_big {n : ByteArray} {ls : List ByteArray} (h : Nm n ls) (hs : 255 < n.size) (hb : n.size ≤ 1099511627776) : m_ref03_Check n = some 11 := by
  rw [m_ref03_Check, row_nm h (by omega)]
  simp only [Option.bind_some, if_true]
  rw [if_pos (by omega)]
theorem rcheck_no {n : ByteArray} (h : ¬ ∃ ls, Nm n ls) (hb : n.size ≤ 1099511627776) : m_ref03_Check n = some 10 := by
  obtain ⟨l, hl⟩ := row_no h hb
  rw [m_ref03_Check, hl]
  simp
theorem rlabels_nm {n : ByteArray} {ls : List ByteArray} (h : Nm n ls) (hs : n.size ≤ 255) : m_ref03_Labels n = some (ls, 0) := by
  rw [m_ref03_Labels, rcheck_nm h hs, Option.bind_some, if_neg (by simp), row_nm h (by omega)]; rfl
/-- What labels make. -/
def mkF (ls : List ByteArray) : ByteArray × Int := if okLs ls then (if (encB ls).length ≤ 254 then (mkN ls, 0) else (⟨#[]⟩, 11)) else (⟨#[]⟩, 10)
theorem size_nil {s : ByteArray} : s = (⟨#[]⟩ : ByteArray) ↔ s.size = 0 := by
  constructor
  · rintro rfl; rfl
  · intro h
    apply bytesI_inj
    have : (bytesI s).length = 0 := by rw [← size_bytes]; exact h
    rw [List.length_eq_zero_iff.1 this]; rfl
theorem rmake_loop {p0 : List ByteArray} (hl : p0.length ≤ 1099511627776) : ∀ (rest pre : List ByteArray) (s : ByteArray), p0 = pre ++ rest → s.size ≤ 319 →
    (s.size ≤ 255 ∧ bytesI s = encB pre ∨ 255 < s.size ∧ 255 < (encB pre).length) →
    ∃ o, loop (fun s => m_ref03_Make_s2 p0 s.1 s.2) (s, (pre.length : Int)) = some o ∧
      (¬ okLs rest → o = .inr (⟨#[]⟩, 10)) ∧ (okLs rest → ∃ s', o = .inl s' ∧ (s'.size ≤ 319 ∧ (s'.size ≤ 255 ∧ bytesI s' = encB p0 ∨ 255 < s'.size ∧ 255 < (encB p0).length))) := by
  intro rest
  induction rest with
  | nil =>
    intro pre s hp hs hI
    rw [List.append_nil] at hp
    subst hp
    refine ⟨.inl s, loop_inr (by simp only [m_ref03_Make_s2]; rw [if_neg (by omega)]), fun h => absurd (fun _ h => by cases h) h, fun _ => ⟨s, rfl, hs, hI⟩⟩
  | cons x rest ih =>
    intro pre s hp hs hI
    have hlen : p0.length = pre.length + (rest.length + 1) := by rw [hp]; simp
    have hat : at_ p0 (pre.length : Int) = some x := by
      rw [at_nat (by omega)]
      simp [hp]
    have hst := m_ref03_Make_s2.eq_def p0 s (pre.length : Int)
    rw [if_pos (by omega), hat, Option.bind_some, Option.bind_some] at hst
    by_cases h1 : x.size < 1
    · rw [if_pos (by omega)] at hst
      refine ⟨_, loop_inr hst, fun _ => rfl, fun h => ?_⟩
      have := (okLs_cons.1 h).1; omega
    rw [if_neg (by omega)] at hst
    by_cases h2 : 63 < x.size
    · rw [if_pos (by omega)] at hst
      refine ⟨_, loop_inr hst, fun _ => rfl, fun h => ?_⟩
      have := (okLs_cons.1 h).1; omega
    rw [if_neg (by omega)] at hst
    have hp' : p0 = (pre ++ [x]) ++ rest := by rw [hp]; simp
    have henc : (encB (pre ++ [x])).length = (encB pre).length + 1 + x.size := by rw [encB_append, encB_cons]; simp [encB, ← size_bytes]; omega
    have hok : okLs (x :: rest) ↔ okLs rest := by rw [okLs_cons]; exact ⟨fun h => h.2, fun h => ⟨by omega, h⟩⟩
    have hw : w64 ((pre.length : Int) + 1) = (((pre ++ [x]).length : Nat) : Int) := by rw [w64_id (by omega) (by omega)]; simp
    rw [hok]
    by_cases h3 : s.size ≤ 255
    · have hI : bytesI s = encB pre := by rcases hI with h | h <;> first | exact h.2 | omega
      have hss : s.size = (encB pre).length := by rw [size_bytes, hI]
      have hb1 : bytesI (strOfNums [IntKind.u8.wrap (x.size : Int)]) = [(x.size : Int)] := by
        rw [wrapu8 (by omega) (by omega), bytesI_str]; intro y hy; simp only [List.mem_singleton] at hy; omega
      have hz1 : (strOfNums [IntKind.u8.wrap (x.size : Int)]).size = 1 := by rw [size_bytes, hb1]; rfl
      rw [if_pos (by omega), Option.bind_some, Option.bind_some, sadd_of (by omega), Option.bind_some, sadd_of (by rw [ByteArray.size_append]; omega), Option.bind_some, hw] at hst
      rw [loop_inl hst]
      refine ih (pre ++ [x]) _ hp' (by rw [ByteArray.size_append, ByteArray.size_append]; omega) ?_
      have hb : bytesI (s ++ strOfNums [IntKind.u8.wrap (x.size : Int)] ++ x) = encB (pre ++ [x]) := by
        rw [bytesI_append, bytesI_append, hI, hb1, encB_append, encB_cons]; simp [encB]
      have hz : (s ++ strOfNums [IntKind.u8.wrap (x.size : Int)] ++ x).size = (encB (pre ++ [x])).length := by rw [size_bytes, hb]
      by_cases h4 : (encB (pre ++ [x])).length ≤ 255
      · exact .inl ⟨by omega, hb⟩
      · exact .inr ⟨by omega, by omega⟩
    · rw [if_neg (by omega), hw] at hst
      rw [loop_inl hst]
      refine ih (pre ++ [x]) s hp' hs (.inr ⟨by omega, ?_⟩)
      rcases hI with h | h <;> omega
theorem rmake_eq {ls : List ByteArray} (hl : ls.length ≤ 1099511627776) : m_ref03_Make ls = some (mkF ls) := by
  obtain ⟨o, h1, h2, h3⟩ := rmake_loop hl ls [] ⟨#[]⟩ rfl (by decide) (.inl ⟨by decide, rfl⟩)
  rw [m_ref03_Make]
  erw [h1]
  rw [mkF]
  by_cases h : okLs ls
  · obtain ⟨s, rfl, hs, hI⟩ := h3 h
    rw [if_pos h]
    simp only [Option.bind_some, Sum.elim_inl, m_ref03_Make_j1]
    by_cases h4 : (encB ls).length ≤ 254
    · have hI : bytesI s = encB ls := by rcases hI with h | h <;> first | exact h.2 | omega
      have hz : s.size = (encB ls).length := by rw [size_bytes, hI]
      have hz0 : (strOfNums [0]).size = 1 := rfl
      rw [if_pos h4, if_neg (by omega), sadd_of (by omega), Option.bind_some]
      congr 2
      apply bytesI_inj
      rw [bytesI_append, hI, (mkN_nm h).2]
      rfl
    · rw [if_neg h4, if_pos]
      rcases hI with ⟨h, hI⟩ | h
      · have hz : s.size = (encB ls).length := by rw [size_bytes, hI]
        omega
      · omega
  · rw [h2 h, if_neg h]; rfl
open Go.RowKit
def low (c : Int) : Int := if 65 ≤ c ∧ c ≤ 90 then c + 32 else c
def lowB (n : ByteArray) : ByteArray := strOfNums ((bytesI n).map low)
theorem low_range {c : Int} (h : 0 ≤ c ∧ c ≤ 255) : 0 ≤ low c ∧ low c ≤ 255 := by unfold low; split <;> omega
theorem lowB_bytes (n : ByteArray) : bytesI (lowB n) = (bytesI n).map low := bytesI_str (by
  intro x hx
  obtain ⟨y, hy, rfl⟩ := List.mem_map.1 hx
  exact low_range (bytesI_range n y hy))
theorem lowB_size (n : ByteArray) : (lowB n).size = n.size := by rw [size_bytes, lowB_bytes, List.length_map, ← size_bytes]
theorem or_low {c : Int} (h : 65 ≤ c ∧ c ≤ 90) : orI .u8 c 32 = c + 32 := by
  obtain ⟨k, hk⟩ := Int.eq_ofNat_of_zero_le (by omega : 0 ≤ c - 65)
  have hc : c = 65 + (k : Int) := by omega
  subst hc
  have : ∀ k : Fin 26, orI .u8 (65 + ((k.val : Nat) : Int)) 32 = 65 + ((k.val : Nat) : Int) + 32 := by decide +kernel
  exact this ⟨k, by omega⟩
/-- One byte after the other made small. -/
theorem low_loop (step : List Int → Int → Option ((List Int × Int) ⊕ List Int)) {n : ByteArray} (hn : n.size ≤ 1099511627776)
    (hs : ∀ (l : List Int) (k : Nat), l.length = n.size → step l (k : Int) = if k < n.size then some (.inl (l.set k (low (l.getD k 0)), ((k + 1 : Nat) : Int))) else some (.inr l)) :
    loop (fun s => step s.1 s.2) (bytesI n, 0) = some ((bytesI n).map low) := by
  have hl := size_bytes n
  refine loop_run (step := fun s => step s.1 s.2) n.size (fun k => (((bytesI n).take k).map low ++ (bytesI n).drop k, (k : Int))) _ (by simp) (fun k hk => ?_) ?_
  · rw [hs _ _ (by simp; omega), if_pos hk]
    congr 3
    have e1 : (bytesI n).drop k = (bytesI n)[k] :: (bytesI n).drop (k + 1) := List.drop_eq_getElem_cons (by omega)
    rw [e1, List.take_succ_eq_append_getElem (by omega), List.map_append]
    have hlen : (((bytesI n).take k).map low).length = k := by simp; omega
    rw [List.getD_eq_getElem?_getD, List.getElem?_append_right (by omega), hlen, Nat.sub_self, List.set_append_right _ _ (by omega), hlen, Nat.sub_self]
    simp only [List.set_cons_zero, List.getElem?_cons_zero, Option.getD_some, List.map_cons, List.map_nil, List.append_assoc, List.cons_append, List.nil_append]
  · rw [hs _ _ (by simp; omega), if_neg (by omega), List.take_of_length_le (by omega), List.drop_of_length_le (by omega), List.append_nil]
theorem at_getD0 {l : List Int} {k : Nat} (h : k < l.length) : at_ l (k : Int) = some (l.getD k 0) := by
  rw [at_nat h, List.getD_eq_getElem?_getD, List.getElem?_eq_getElem h]; rfl
theorem set_same (l : List Int) (k : Nat) (hk : k < l.length) : l.set k (l.getD k 0) = l := by
  rw [List.getD_eq_getElem?_getD, List.getElem?_eq_getElem hk]; simp
theorem lower_eq {n : ByteArray} (hn : n.size ≤ 1099511627776) : m_name_Lower n = some (lowB n) := by
  have hl := size_bytes n
  rw [m_name_Lower]
  erw [low_loop (m_name_Lower_s2 n) hn (fun l k hlen => ?_)]
  · rfl
  rw [m_name_Lower_s2]
  by_cases hk : k < n.size
  · rw [if_pos (by omega), if_pos hk, at_getD0 (by omega), Option.bind_some, Option.bind_some, w64_id (by omega) (by omega)]
    by_cases h1 : 65 ≤ l.getD k 0
    · rw [if_pos h1]
      by_cases h2 : l.getD k 0 ≤ 90
      · rw [if_pos h2, Option.bind_some, Option.bind_some, or_low ⟨h1, h2⟩, setAt, if_pos ⟨by omega, by omega⟩, Option.bind_some, low, if_pos ⟨h1, h2⟩]; rfl
      · rw [if_neg h2, low, if_neg (fun h => h2 h.2), set_same l k (by omega)]; rfl
    · rw [if_neg h1, low, if_neg (fun h => h1 h.1), set_same l k (by omega)]; rfl
  · rw [if_neg (by omega), if_neg hk]
theorem low_small {c : Int} (h : c ≤ 63) : low c = c := by unfold low; rw [if_neg (by omega)]
theorem encB_low {ls : List ByteArray} (h : okLs ls) : encB (ls.map lowB) = (encB ls).map low := by
  induction ls with
  | nil => rfl
  | cons s ls ih =>
    have := okLs_cons.1 h
    rw [List.map_cons, encB_cons, encB_cons, ih this.2, lowB_size, lowB_bytes, List.map_append, List.map_cons, low_small (by omega)]
theorem okLs_low {ls : List ByteArray} (h : okLs ls) : okLs (ls.map lowB) := by
  intro s hs
  obtain ⟨t, ht, rfl⟩ := List.mem_map.1 hs
  rw [lowB_size]; exact h t ht
theorem nm_low {n : ByteArray} {ls : List ByteArray} (h : Nm n ls) : Nm (lowB n) (ls.map lowB) := ⟨okLs_low h.1, by
  rw [lowB_bytes, h.2, List.map_append, encB_low h.1]; rfl⟩
/-- A name's labels with small letters, the last one ahead. -/
def revL (ls : List ByteArray) : List ByteArray := (ls.map lowB).reverse
/-- It is a name of 255 bytes at most. -/
def isNm (n : ByteArray) : Prop := ∃ ls, Nm n ls ∧ n.size ≤ 255
open Go.RowKit
open Go.RowKit
theorem lowB_iff {a b : ByteArray} {x y : List ByteArray} (h : Nm a x) (h' : Nm b y) : lowB a = lowB b ↔ revL x = revL y := by
  constructor
  · intro he
    have h1 := nm_low h
    rw [he] at h1
    rw [revL, nm_inj h1 (nm_low h')]; rfl
  · intro he
    have : x.map lowB = y.map lowB := List.reverse_inj.1 he
    refine nm_eq (nm_low h) ?_
    rw [this]; exact nm_low h'
theorem same_nm {a b : ByteArray} {x y : List ByteArray} (h : Nm a x) (hs : a.size ≤ 255) (h' : Nm b y) (hs' : b.size ≤ 255) : m_name_Same a b = some (decide (revL x = revL y)) := by
  rw [m_name_Same, check_nm h hs, Option.bind_some, if_pos rfl, lower_eq (by omega), Option.bind_some, lower_eq (by omega), Option.bind_some]
  exact congrArg some (decide_eq_decide.2 (lowB_iff h h'))
open Go.RowKit
theorem or_add32 (a b : Int) (ha : 0 ≤ a) (ha2 : a < 16777216) (hb : 0 ≤ b ∧ b ≤ 255) : orI .u32 (a * 256) b = a * 256 + b := by
  obtain ⟨m, rfl⟩ := Int.eq_ofNat_of_zero_le ha
  obtain ⟨n, rfl⟩ := Int.eq_ofNat_of_zero_le hb.1
  unfold orI
  have h1 : BitVec.ofInt IntKind.u32.bits ((m : Int) * 256) = BitVec.ofNat 32 (m * 256) := by
    rw [show (m : Int) * 256 = ((m * 256 : Nat) : Int) by omega]; exact BitVec.ofInt_natCast ..
  have h2 : BitVec.ofInt IntKind.u32.bits (n : Int) = BitVec.ofNat 32 n := BitVec.ofInt_natCast ..
  rw [h1, h2]
  have h3 : ((BitVec.ofNat 32 (m * 256) ||| BitVec.ofNat 32 n).toNat : Nat) = m * 256 + n := by
    rw [BitVec.toNat_or, BitVec.toNat_ofNat, BitVec.toNat_ofNat, Nat.mod_eq_of_lt (by omega), Nat.mod_eq_of_lt (by omega)]
    have := Nat.two_pow_add_eq_or_of_lt (i := 8) (b := n) (by omega) m
    rw [Nat.mul_comm m 256]
    exact this.symm
  have e : IntKind.u32.wrap (((BitVec.ofNat 32 (m * 256) ||| BitVec.ofNat 32 n).toNat : Nat) : Int) = IntKind.u32.wrap ((m * 256 + n : Nat) : Int) := congrArg (fun z : Nat => IntKind.u32.wrap (z : Int)) h3
  exact e.trans (by rw [wrapu32 (by omega) (by omega)]; omega)
def rawP (p : ByteArray) (a n : Int) : ByteArray × Int × Int := if a < 0 ∨ n < 0 ∨ (p.size : Int) < a ∨ (p.size : Int) - a < n then (⟨#[]⟩, 0, 10) else (p.extract a.toNat (a + n).toNat, a + n, 0)
theorem raw_eq {p : ByteArray} (hp : p.size ≤ 1099511627776) (a n : Int) : m_pack_Raw p a n = some (rawP p a n) := by
  unfold m_pack_Raw rawP
  by_cases h1 : a < 0
  · rw [if_pos h1, if_pos (.inl h1)]
  rw [if_neg h1]
  by_cases h2 : n < 0
  · rw [if_pos h2, if_pos (.inr (.inl h2))]
  rw [if_neg h2]
  by_cases h3 : (p.size : Int) < a
  · rw [if_pos h3, if_pos (.inr (.inr (.inl h3)))]
  rw [if_neg h3, w64_id (by omega) (by omega)]
  by_cases h4 : (p.size : Int) - a < n
  · rw [if_pos h4, if_pos (.inr (.inr (.inr h4)))]
  rw [if_neg h4, if_neg (by omega), w64_id (by omega) (by omega), scutMid, if_pos ⟨by omega, by omega, by omega⟩]; rfl
theorem rawP_size (p : ByteArray) (a n : Int) : (rawP p a n).1.size ≤ n.toNat ∧ (rawP p a n).1.size ≤ p.size ∧ ((rawP p a n).2.2 = 0 → 0 ≤ a ∧ 0 ≤ n ∧ a + n ≤ p.size ∧ (rawP p a n).1 = p.extract a.toNat (a + n).toNat ∧ (rawP p a n).2.1 = a + n ∧ ((rawP p a n).1.size : Int) = n) ∧
    ((rawP p a n).2.2 ≠ 0 → (rawP p a n) = (⟨#[]⟩, 0, 10)) := by
  unfold rawP
  split
  · exact ⟨Nat.zero_le _, Nat.zero_le _, fun h => by simp at h, fun _ => rfl⟩
  · have := ByteArray.size_extract (a := p) (b := a.toNat) (e := (a + n).toNat)
    refine ⟨by simp only; omega, by simp only; omega, fun _ => ⟨by omega, by omega, by omega, rfl, rfl, by simp only; omega⟩, fun h => absurd rfl h⟩
def numL (l : List Int) : Int := l.foldl (fun v x => v * 256 + x) 0
theorem numL_snoc (l : List Int) (x : Int) : numL (l ++ [x]) = numL l * 256 + x := by simp [numL]
theorem fold_bound : ∀ (l : List Int) (v : Int), 0 ≤ v → (∀ x ∈ l, 0 ≤ x ∧ x ≤ 255) → 0 ≤ l.foldl (fun v x => v * 256 + x) v ∧ l.foldl (fun v x => v * 256 + x) v < (v + 1) * 256 ^ l.length := by
  intro l
  induction l with
  | nil => intro v hv _; simp; omega
  | cons x l ih =>
    intro v hv h
    have hx := h x List.mem_cons_self
    have h1 := ih (v * 256 + x) (by omega) (fun y hy => h y (List.mem_cons_of_mem _ hy))
    have h2 : (v * 256 + x + 1) * 256 ^ l.length ≤ ((v + 1) * 256) * 256 ^ l.length := Int.mul_le_mul_of_nonneg_right (by omega) (Int.pow_nonneg (by omega))
    have h3 : ((v + 1) * 256) * 256 ^ l.length = (v + 1) * 256 ^ (l.length + 1) := by rw [Int.pow_succ, Int.mul_assoc, Int.mul_comm 256]
    simp only [List.foldl_cons, List.length_cons]
    omega
theorem numL_bound (l : List Int) (h : ∀ x ∈ l, 0 ≤ x ∧ x ≤ 255) : 0 ≤ numL l ∧ numL l < 256 ^ l.length := by
  have := fold_bound l 0 (by omega) h
  simpa [numL] using this
theorem take_range (s : ByteArray) (k : Nat) : ∀ x ∈ (bytesI s).take k, 0 ≤ x ∧ x ≤ 255 := fun x hx => bytesI_range s x (List.mem_of_mem_take hx)
def numP (p : ByteArray) (a n : Int) : Int × Int × Int := (numL (bytesI (rawP p a n).1), (rawP p a n).2.1, (rawP p a n).2.2)
theorem num_small {s : ByteArray} (h : s.size ≤ 4) (k : Nat) : 0 ≤ numL ((bytesI s).take k) ∧ numL ((bytesI s).take k) ≤ 4294967295 := by
  have h1 := numL_bound _ (take_range s k)
  have h2 : ((bytesI s).take k).length ≤ 4 := by rw [List.length_take, ← size_bytes]; omega
  have h3 : (256 : Int) ^ ((bytesI s).take k).length ≤ 256 ^ 4 := by
    exact_mod_cast Nat.pow_le_pow_right (by omega : 256 > 0) h2
  have h4 : (256 : Int) ^ 4 = 4294967296 := by decide
  omega
theorem num_smaller {s : ByteArray} (h : s.size ≤ 4) {k : Nat} (hk : k < s.size) : numL ((bytesI s).take k) ≤ 16777215 := by
  have h1 := numL_bound _ (take_range s k)
  have h2 : ((bytesI s).take k).length ≤ 3 := by rw [List.length_take, ← size_bytes]; omega
  have h3 : (256 : Int) ^ ((bytesI s).take k).length ≤ 256 ^ 3 := by
    exact_mod_cast Nat.pow_le_pow_right (by omega : 256 > 0) h2
  have h4 : (256 : Int) ^ 3 = 16777216 := by decide
  omega
theorem number_eq {p : ByteArray} (hp : p.size ≤ 1099511627776) (a : Int) {n : Int} (hn : n ≤ 4) : m_pack_number p a n = some (numP p a n) := by
  obtain ⟨h1, -, -, -⟩ := rawP_size p a n
  rw [m_pack_number, raw_eq hp, Option.bind_some]
  generalize hb : (rawP p a n).1 = b at h1
  have := loop_run (step := fun s => m_pack_number_s2 b s.1 s.2) b.size (fun k => (numL ((bytesI b).take k), (k : Int))) (numL (bytesI b)) (s0 := (0, 0)) rfl
    (fun k hk => by
      have h2 := num_small (s := b) (by omega) k
      have h3 := num_smaller (s := b) (by omega) hk
      have h4 := byteAt_lt b k
      simp only [m_pack_number_s2]
      rw [if_pos (by omega), sat_of (by omega) (by omega), Option.bind_some, wrapu32 (by omega) (by omega), wrapu32 (by omega) (by omega), or_add32 _ _ h2.1 (by omega) h4, w64_id (by omega) (by omega),
        take_snoc b hk, numL_snoc]
      rfl)
    (by simp only [m_pack_number_s2]; rw [if_neg (by omega), List.take_of_length_le (by rw [← size_bytes]; omega)])
  erw [this]
  rw [numP, hb]; rfl
theorem numP_bound {p : ByteArray} {a k : Int} (n : Nat) (hk : k = n) : 0 ≤ (numP p a k).1 ∧ (numP p a k).1 < 256 ^ n := by
  have h0 := (rawP_size p a k).1
  have h1 := numL_bound _ (bytesI_range (rawP p a k).1)
  have h3 : (256 : Int) ^ (bytesI (rawP p a k).1).length ≤ 256 ^ n := by
    exact_mod_cast Nat.pow_le_pow_right (by omega : 256 > 0) (by rw [← size_bytes]; omega)
  exact ⟨h1.1, by unfold numP; omega⟩
theorem numP_2 (p : ByteArray) (a : Int) : 0 ≤ (numP p a 2).1 ∧ (numP p a 2).1 ≤ 65535 := by
  have h := numP_bound (p := p) (a := a) (k := 2) 2 rfl
  exact ⟨h.1, Int.le_of_lt_add_one (by simpa using h.2)⟩
theorem pword_eq {p : ByteArray} (hp : p.size ≤ 1099511627776) (a : Int) : m_pack_Word p a = some (numP p a 2) := by
  have h := numP_2 p a
  rw [m_pack_Word, number_eq hp a (by omega), Option.bind_some, wrapu16 h.1 h.2]
open Go.RowKit
open Go.RowKit
/-- What putting a name's labels makes of a packer. -/
def packS (pts : Bool) : List ByteArray → List Int → List (ByteArray × Int) → List Int × List (ByteArray × Int)
  | [], fb, pl => (fb ++ [0], pl)
  | s :: ls, fb, pl =>
    if pts = true ∧ (getM 0 pl (mkN (s :: ls))).2 = true then (fb ++ [192 + (getM 0 pl (mkN (s :: ls))).1 / 256, (getM 0 pl (mkN (s :: ls))).1 % 256], pl)
    else packS pts ls (fb ++ [(s.size : Int)] ++ bytesI s) (if (getM 0 pl (mkN (s :: ls))).2 = true ∨ 16384 ≤ fb.length then pl else pl ++ [(mkN (s :: ls), (fb.length : Int))])
def okPl (pl : List (ByteArray × Int)) : Prop := (pl.map (·.1)).Nodup ∧ ∀ e ∈ pl, e.1.size ≤ 255 ∧ 0 ≤ e.2 ∧ e.2 < 16384
theorem getM_false {pl : List (ByteArray × Int)} {k : ByteArray} (h : (getM 0 pl k).2 = false) : ∀ e ∈ pl, e.1 ≠ k := by
  induction pl with
  | nil => intro e he; cases he
  | cons e pl ih =>
    intro x hx
    rw [getM] at h
    split at h
    · cases h
    · rcases List.mem_cons.1 hx with rfl | hx
      · assumption
      · exact ih h x hx
theorem getM_true {pl : List (ByteArray × Int)} {k : ByteArray} (h : (getM 0 pl k).2 = true) : (k, (getM 0 pl k).1) ∈ pl := by
  induction pl with
  | nil => cases h
  | cons e pl ih =>
    rw [getM] at h ⊢
    split
    · rename_i h1; rw [← h1]; exact List.mem_cons_self
    · rename_i h1; rw [if_neg h1] at h; exact List.mem_cons_of_mem _ (ih h)
theorem okPl_snoc {pl : List (ByteArray × Int)} {k : ByteArray} {v : Int} (h : okPl pl) (hk : k.size ≤ 255) (hg : (getM 0 pl k).2 = false) (h0 : 0 ≤ v) (h1 : v < 16384) : okPl (pl ++ [(k, v)]) := by
  refine ⟨?_, fun e he => ?_⟩
  · rw [List.map_append, List.nodup_append]
    refine ⟨h.1, by simp, ?_⟩
    intro x hx y hy
    obtain ⟨e, he, rfl⟩ := List.mem_map.1 hx
    simp only [List.map_cons, List.map_nil, List.mem_singleton] at hy
    subst hy
    exact getM_false hg e he
  · rcases List.mem_append.1 he with he | he
    · exact h.2 e he
    · simp only [List.mem_singleton] at he; subst he; exact ⟨hk, h0, h1⟩
theorem okPl_okM {pl : List (ByteArray × Int)} (h : okPl pl) : okM (fun x : ByteArray => decide (x.size ≤ 9223372036854775807)) pl :=
  ⟨fun e he => decide_eq_true (by have := (h.2 e he).1; omega), h.1⟩
theorem packS_pl {pts : Bool} : ∀ (ls : List ByteArray) (fb : List Int) (pl : List (ByteArray × Int)), okLs ls → (encB ls).length ≤ 254 → okPl pl → okPl (packS pts ls fb pl).2 := by
  intro ls
  induction ls with
  | nil => intro fb pl _ _ h; exact h
  | cons s ls ih =>
    intro fb pl hok hl h
    rw [packS]
    split
    · exact h
    · have hl' : (encB ls).length ≤ 254 := by rw [encB_cons] at hl; simp at hl; omega
      refine ih _ _ (okLs_cons.1 hok).2 hl' ?_
      split
      · exact h
      · rename_i hc
        refine okPl_snoc h (by rw [nm_size (mkN_nm hok)]; omega) (by simpa using fun h => hc (.inl h)) (by omega) (by omega)
theorem nm_cons {n s : ByteArray} {ls : List ByteArray} (h : Nm n (s :: ls)) : 1 < n.size ∧ byteAt n 0 = s.size ∧ n.extract 0 (1 + s.size) = strOfNums ((s.size : Int) :: bytesI s) ∧ bytesI (n.extract 0 (1 + s.size)) = (s.size : Int) :: bytesI s ∧ Nm (n.extract (1 + s.size) n.size) ls ∧ 1 + s.size ≤ n.size := by
  have hok := okLs_cons.1 h.1
  have hsz := nm_size h
  rw [encB_cons, List.length_append, List.length_cons, ← size_bytes] at hsz
  have hb : bytesI n = (s.size : Int) :: (bytesI s ++ (encB ls ++ [0])) := by rw [h.2, encB_cons]; simp
  have h0 := (drop_byte (n := n) (a := 0) (by rw [List.drop_zero, hb])).2.1
  have hx : bytesI (n.extract 0 (1 + s.size)) = (s.size : Int) :: bytesI s := by
    rw [bytesI_extract, List.drop_zero, hb, show 1 + s.size = s.size + 1 by omega, List.take_succ_cons, size_bytes s, List.take_left]
  refine ⟨by omega, h0, ?_, hx, ⟨hok.2, ?_⟩, by omega⟩
  · refine bytesI_inj ?_
    rw [hx, bytesI_str]
    intro y hy
    rcases List.mem_cons.1 hy with rfl | hy
    · omega
    · exact bytesI_range s y hy
  · rw [bytesI_extract, size_bytes n, List.take_length, hb, show 1 + s.size = s.size + 1 by omega, List.drop_succ_cons, size_bytes s, List.drop_left]
theorem or_ptr {t : Int} (h0 : 0 ≤ t) (h1 : t < 16384) : orI .u16 49152 (IntKind.u16.wrap t) = 49152 + t := by
  rw [wrapu16 h0 (by omega)]
  obtain ⟨n, rfl⟩ := Int.eq_ofNat_of_zero_le h0
  unfold orI
  have e1 : BitVec.ofInt IntKind.u16.bits (49152 : Int) = BitVec.ofNat 16 49152 := BitVec.ofInt_natCast ..
  have e2 : BitVec.ofInt IntKind.u16.bits (n : Int) = BitVec.ofNat 16 n := BitVec.ofInt_natCast ..
  rw [e1, e2]
  have h3 : ((BitVec.ofNat 16 49152 ||| BitVec.ofNat 16 n).toNat : Nat) = 49152 + n := by
    rw [BitVec.toNat_or, BitVec.toNat_ofNat, BitVec.toNat_ofNat, Nat.mod_eq_of_lt (by omega), Nat.mod_eq_of_lt (by omega)]
    exact (Nat.two_pow_add_eq_or_of_lt (i := 14) (b := n) (by omega) 3).symm
  have e : IntKind.u16.wrap (((BitVec.ofNat 16 49152 ||| BitVec.ofNat 16 n).toNat : Nat) : Int) = IntKind.u16.wrap ((49152 + n : Nat) : Int) := congrArg (fun z : Nat => IntKind.u16.wrap (z : Int)) h3
  exact e.trans (by rw [wrapu16 (by omega) (by omega)]; omega)
theorem put_eq {l fb : List Int} {pl : List (ByteArray × Int)} (h : fb.length + l.length ≤ 1099511627776) : m_pack_Packer_put l ⟨fb, pl⟩ = some ⟨fb ++ l, pl⟩ := by
  rw [m_pack_Packer_put, app_of (by simp only; omega)]; rfl
theorem mget_of {pl : List (ByteArray × Int)} {n : ByteArray} (h : okPl pl) (hn : n.size ≤ 255) : mget (fun x : ByteArray => decide (x.size ≤ 9223372036854775807)) 0 pl n = some (getM 0 pl n) := if_pos ⟨decide_eq_true (by omega), okPl_okM h⟩
theorem mput_of {pl : List (ByteArray × Int)} {n : ByteArray} {v : Int} (h : okPl pl) (hn : n.size ≤ 255) (hg : (getM 0 pl n).2 = false) : mput (fun x : ByteArray => decide (x.size ≤ 9223372036854775807)) pl n v = some (pl ++ [(n, v)]) := by
  rw [mput, if_pos ⟨decide_eq_true (by omega), okPl_okM h⟩, putM_none (getM_false hg)]
theorem pname_loop {pts : Bool} : ∀ (ls : List ByteArray) (n : ByteArray) (fb : List Int) (pl : List (ByteArray × Int)), Nm n ls → n.size ≤ 255 → okPl pl → fb.length + n.size ≤ 1073741824 →
    ∃ e, loop (fun s : List Int × List (ByteArray × Int) × ByteArray => m_pack_Packer_Name_s2 pts s.1 s.2.1 s.2.2) (fb, pl, n) = some e ∧
      Sum.elim (fun e => m_pack_Packer_Name_j1 e.1 e.2) (fun x => some x) e = some (0, ⟨(packS pts ls fb pl).1, (packS pts ls fb pl).2⟩) := by
  intro ls
  induction ls with
  | nil =>
    intro n fb pl h hs hpl hfb
    have hz : n.size = 1 := by rw [nm_size h]; rfl
    refine ⟨.inl (fb, pl), loop_inr (by simp only [m_pack_Packer_Name_s2]; rw [if_neg (by omega)]), ?_⟩
    simp only [Sum.elim_inl, m_pack_Packer_Name_j1, m_pack_Packer_Byte]
    rw [put_eq (by simp; omega)]; rfl
  | cons s ls ih =>
    intro n fb pl h hs hpl hfb
    obtain ⟨h1, h2, h3, h4, h5, h6⟩ := nm_cons h
    have hn := nm_mk h
    have hok := (okLs_cons.1 h.1).1
    have hst := m_pack_Packer_Name_s2.eq_def pts fb pl n
    rw [if_pos (by omega), mget_of hpl hs, Option.bind_some] at hst
    have hj4 : ∀ pl', m_pack_Packer_Name_j4 n fb pl' = some (.inl (fb ++ [(s.size : Int)] ++ bytesI s, pl', n.extract (1 + s.size) n.size)) := by
      intro pl'
      rw [m_pack_Packer_Name_j4, sat_of (by omega) (by omega), Option.bind_some, h2, w64_id (x := (s.size : Int)) (by omega) (by omega), w64_id (by omega) (by omega), scutHi, if_pos ⟨by omega, by omega⟩, Option.bind_some,
        scutLo, if_pos ⟨by omega, by omega⟩, show (1 + (s.size : Int)).toNat = 1 + s.size by omega, m_pack_Packer_Raw, h4, put_eq (by simp [← size_bytes]; omega)]
      simp
    have hlen := ih (n.extract (1 + s.size) n.size) (fb ++ [(s.size : Int)] ++ bytesI s)
    have hsz : (n.extract (1 + s.size) n.size).size = n.size - (1 + s.size) := by rw [ByteArray.size_extract]; omega
    have hgo : ∀ pl', okPl pl' → m_pack_Packer_Name_s2 pts fb pl n = some (.inl (fb ++ [(s.size : Int)] ++ bytesI s, pl', n.extract (1 + s.size) n.size)) →
        packS pts (s :: ls) fb pl = packS pts ls (fb ++ [(s.size : Int)] ++ bytesI s) pl' →
        ∃ e, loop (fun s : List Int × List (ByteArray × Int) × ByteArray => m_pack_Packer_Name_s2 pts s.1 s.2.1 s.2.2) (fb, pl, n) = some e ∧
          Sum.elim (fun e => m_pack_Packer_Name_j1 e.1 e.2) (fun x => some x) e = some (0, ⟨(packS pts (s :: ls) fb pl).1, (packS pts (s :: ls) fb pl).2⟩) := by
      intro pl' hpl' hs' he
      rw [loop_inl hs', he]
      exact hlen pl' h5 (by omega) hpl' (by simp [← size_bytes]; omega)
    have hj3 : m_pack_Packer_Name_j3 (getM 0 pl n) n fb pl = some (.inl (fb ++ [(s.size : Int)] ++ bytesI s, (if (getM 0 pl n).2 = true ∨ 16384 ≤ fb.length then pl else pl ++ [(n, (fb.length : Int))]), n.extract (1 + s.size) n.size)) := by
      rw [m_pack_Packer_Name_j3]
      by_cases hg : (getM 0 pl n).2 = true
      · rw [if_pos hg, hj4, if_pos (.inl hg)]
      · rw [if_neg hg]
        by_cases hf : fb.length < 16384
        · rw [if_pos (by omega), m_pack_Packer_Name_j5, mput_of hpl hs (by simpa using hg), Option.bind_some, hj4, if_neg (fun h => h.elim hg (by omega))]
        · rw [if_neg (by omega), hj4, if_pos (.inr (by omega))]
    have hpl' : okPl (if (getM 0 pl n).2 = true ∨ 16384 ≤ fb.length then pl else pl ++ [(n, (fb.length : Int))]) := by
      split
      · exact hpl
      · rename_i hc; exact okPl_snoc hpl hs (by simpa using fun h => hc (.inl h)) (by omega) (by omega)
    by_cases hg : (getM 0 pl n).2 = true
    · rw [if_pos hg] at hst
      by_cases hp : pts = true
      · rw [if_pos hp] at hst
        have hr := hpl.2 _ (getM_true hg)
        simp only at hr
        rw [or_ptr hr.2.1 hr.2.2, m_pack_Packer_Word, wrapu8 (by omega) (by omega), wu8_eq, put_eq (by simp; omega), Option.bind_some, Option.bind_some] at hst
        refine ⟨_, loop_inr hst, ?_⟩
        rw [packS, ← hn, if_pos ⟨hp, hg⟩]
        simp only [Sum.elim_inr]
        congr 5
        · omega
        · congr 1
          omega
      · rw [if_neg hp, hj3] at hst
        refine hgo _ hpl' hst ?_
        rw [packS, ← hn, if_neg (fun h => hp h.1)]
    · rw [if_neg hg, hj3] at hst
      refine hgo _ hpl' hst ?_
      rw [packS, ← hn, if_neg (fun h => hg h.2)]
theorem pname_nm {pts : Bool} {n : ByteArray} {ls : List ByteArray} {fb : List Int} {pl : List (ByteArray × Int)} (h : Nm n ls) (hs : n.size ≤ 255) (hpl : okPl pl) (hfb : fb.length ≤ 1000000000) :
    m_pack_Packer_Name n pts ⟨fb, pl⟩ = some (0, ⟨(packS pts ls fb pl).1, (packS pts ls fb pl).2⟩) := by
  obtain ⟨e, h1, h2⟩ := pname_loop (pts := pts) ls n fb pl h hs hpl (by omega)
  rw [m_pack_Packer_Name, check_nm h hs, Option.bind_some, if_neg (fun h => h rfl)]
  erw [h1]
  exact h2
open Go.RowKit
theorem okPl_nil : okPl [] := ⟨by simp, fun e he => by cases he⟩
open Go.RowKit
def bn (v : Int) (k : Nat) : Int := v / 2 ^ (8 * k) % 256
theorem bn_range (v : Int) (k : Nat) : 0 ≤ bn v k ∧ bn v k ≤ 255 := by unfold bn; omega
theorem number_step {v : Int} {k : Nat} {s : ByteArray} (hk : k ≤ 7) (hs : s.size ≤ 1099511627776) : m_ref04_Packer_Number_s2 v (k : Int) s = some (.inl ((k : Int) - 1, s ++ strOfNums [bn v k])) := by
  have hz : (strOfNums [bn v k]).size = 1 := by rw [size_bytes, bytesI_str (by intro x hx; simp only [List.mem_singleton] at hx; subst hx; exact bn_range v k)]; rfl
  rw [m_ref04_Packer_Number_s2, if_pos (by omega), w64_id (x := 8 * (k : Int)) (by omega) (by omega), wrapu64 (by omega) (by omega), shOk, if_pos (by omega), Option.bind_some, w64_id (by omega) (by omega)]
  have e : IntKind.u8.wrap (shrI .i64 v (8 * (k : Int))) = bn v k := by
    rw [wu8_eq, shrI, bn, show (8 * (k : Int)).toNat = 8 * k by omega, show IntKind.i64.bits = 64 from rfl, Nat.min_eq_left (by omega)]
  rw [e, sadd_of (by omega)]; rfl
theorem number_end {v : Int} {s : ByteArray} : m_ref04_Packer_Number_s2 v (-1) s = some (.inr s) := by
  rw [m_ref04_Packer_Number_s2, if_neg (by omega)]
theorem str1_size (v : Int) (k : Nat) : (strOfNums [bn v k]).size = 1 := by
  rw [size_bytes, bytesI_str (by intro x hx; simp only [List.mem_singleton] at hx; subst hx; exact bn_range v k)]; rfl
theorem str1_bytes (v : Int) (k : Nat) : bytesI (strOfNums [bn v k]) = [bn v k] := bytesI_str (by intro x hx; simp only [List.mem_singleton] at hx; subst hx; exact bn_range v k)
theorem number_n {v : Int} (o : Gref04_Packer) : ∀ (k : Nat) (s : ByteArray), k ≤ 8 → s.size ≤ 1099511627000 + (8 - k) →
    ∃ t, loop (fun s => m_ref04_Packer_Number_s2 v s.1 s.2) ((k : Int) - 1, s) = some t ∧ bytesI t = bytesI s ++ ((List.range k).reverse.map (bn v)) := by
  intro k
  induction k with
  | zero => intro s _ _; exact ⟨s, loop_inr number_end, by simp⟩
  | succ k ih =>
    intro s h1 h2
    obtain ⟨t, h3, h4⟩ := ih (s ++ strOfNums [bn v k]) (by omega) (by rw [ByteArray.size_append, str1_size]; omega)
    refine ⟨t, ?_, ?_⟩
    · rw [show ((k + 1 : Nat) : Int) - 1 = k by omega, loop_inl (by simp only; exact number_step (by omega) (by omega))]
      exact h3
    · rw [h4, bytesI_append, str1_bytes, List.range_succ, List.reverse_append, List.map_append, List.append_assoc]; rfl
theorem rnum_eq {v : Int} {o : Gref04_Packer} (k : Nat) (hk : k ≤ 4) (ho : o.fB.size ≤ 1099511627000) : ∃ t, m_ref04_Packer_Number v k o = some ⟨t, o.fL⟩ ∧ bytesI t = bytesI o.fB ++ ((List.range k).reverse.map (bn v)) := by
  obtain ⟨t, h1, h2⟩ := number_n (v := v) o k o.fB (by omega) (by omega)
  refine ⟨t, ?_, h2⟩
  rw [m_ref04_Packer_Number, w64_id (by omega) (by omega)]
  erw [h1]
  rfl
theorem bn0 (v : Int) : bn v 0 = v % 256 := by simp [bn]
theorem bn1 (v : Int) : bn v 1 = v / 256 % 256 := by simp [bn]
theorem bn2 (v : Int) : bn v 2 = v / 65536 % 256 := by simp [bn]
theorem bn3 (v : Int) : bn v 3 = v / 16777216 % 256 := by simp [bn]
theorem rnum1 {v : Int} {o : Gref04_Packer} (ho : o.fB.size ≤ 1099511627000) : ∃ t, m_ref04_Packer_Number v 1 o = some ⟨t, o.fL⟩ ∧ bytesI t = bytesI o.fB ++ [v % 256] := by
  have := rnum_eq (v := v) (o := o) 1 (by omega) ho
  rwa [show (List.range 1).reverse.map (bn v) = [v % 256] by rw [← bn0]; rfl] at this
theorem rnum2 {v : Int} {o : Gref04_Packer} (ho : o.fB.size ≤ 1099511627000) : ∃ t, m_ref04_Packer_Number v 2 o = some ⟨t, o.fL⟩ ∧ bytesI t = bytesI o.fB ++ [v / 256 % 256, v % 256] := by
  have := rnum_eq (v := v) (o := o) 2 (by omega) ho
  rwa [show (List.range 2).reverse.map (bn v) = [v / 256 % 256, v % 256] by rw [← bn1 v, ← bn0 v]; rfl] at this
theorem rnum4 {v : Int} {o : Gref04_Packer} (ho : o.fB.size ≤ 1099511627000) : ∃ t, m_ref04_Packer_Number v 4 o = some ⟨t, o.fL⟩ ∧ bytesI t = bytesI o.fB ++ [v / 16777216 % 256, v / 65536 % 256, v / 256 % 256, v % 256] := by
  have := rnum_eq (v := v) (o := o) 4 (by omega) ho
  rwa [show (List.range 4).reverse.map (bn v) = [v / 16777216 % 256, v / 65536 % 256, v / 256 % 256, v % 256] by rw [← bn3 v, ← bn2 v, ← bn1 v, ← bn0 v]; rfl] at this
def plOf (L : List Gref04_Place) : List (ByteArray × Int) := L.map fun e => (e.fName, e.fAt)
theorem find_loop {k : ByteArray} {o : Gref04_Packer} (ho : o.fL.length ≤ 1099511627776) : ∀ (rest pre : List Gref04_Place), o.fL = pre ++ rest →
    ∃ e, loop (fun s => m_ref04_Packer_find_s2 o k s) (pre.length : Int) = some e ∧ Sum.elim (fun _ => m_ref04_Packer_find_j1) (fun x => some x) e = some (if (getM 0 (plOf rest) k).2 = true then (getM 0 (plOf rest) k).1 else -1) := by
  intro rest
  induction rest with
  | nil =>
    intro pre h
    rw [List.append_nil] at h
    refine ⟨.inl (), loop_inr (by simp only [m_ref04_Packer_find_s2]; rw [if_neg (by rw [h]; omega)]), rfl⟩
  | cons x rest ih =>
    intro pre h
    have hlen : o.fL.length = pre.length + (rest.length + 1) := by rw [h]; simp
    have hat : at_ o.fL (pre.length : Int) = some x := by rw [at_nat (by omega)]; simp [h]
    have hst := m_ref04_Packer_find_s2.eq_def o k (pre.length : Int)
    rw [if_pos (by omega), hat, Option.bind_some] at hst
    by_cases hx : x.fName = k
    · rw [if_pos hx, Option.bind_some] at hst
      refine ⟨_, loop_inr hst, ?_⟩
      simp only [plOf, List.map_cons, getM]
      rw [if_pos hx]; rfl
    · rw [if_neg hx, w64_id (by omega) (by omega)] at hst
      obtain ⟨e, h1, h2⟩ := ih (pre ++ [x]) (by rw [h]; simp)
      rw [show (((pre ++ [x]).length : Nat) : Int) = (pre.length : Int) + 1 by simp] at h1
      refine ⟨e, (loop_inl hst).trans h1, ?_⟩
      simp only [plOf, List.map_cons, getM]
      rw [if_neg hx]; exact h2
theorem find_eq {k : ByteArray} {o : Gref04_Packer} (ho : o.fL.length ≤ 1099511627776) : m_ref04_Packer_find k o = some (if (getM 0 (plOf o.fL) k).2 = true then (getM 0 (plOf o.fL) k).1 else -1) := by
  obtain ⟨e, h1, h2⟩ := find_loop (k := k) ho o.fL [] rfl
  rw [m_ref04_Packer_find]
  erw [h1]
  exact h2
theorem packS_len {pts : Bool} : ∀ (ls : List ByteArray) (fb : List Int) (pl : List (ByteArray × Int)), fb.length + 1 ≤ (packS pts ls fb pl).1.length ∧ (packS pts ls fb pl).1.length ≤ fb.length + (encB ls).length + 1 := by
  intro ls
  induction ls with
  | nil => intro fb pl; simp [packS, encB]
  | cons s ls ih =>
    intro fb pl
    rw [packS, encB_cons]
    split
    · simp
    · have := ih (fb ++ [(s.size : Int)] ++ bytesI s) (if (getM 0 pl (mkN (s :: ls))).2 = true ∨ 16384 ≤ fb.length then pl else pl ++ [(mkN (s :: ls), (fb.length : Int))])
      simp only [List.length_append, List.length_cons, List.length_nil, ← size_bytes] at this ⊢
      omega
theorem packS_plen {pts : Bool} : ∀ (ls : List ByteArray) (fb : List Int) (pl : List (ByteArray × Int)), (packS pts ls fb pl).2.length ≤ pl.length + ls.length := by
  intro ls
  induction ls with
  | nil => intro fb pl; simp [packS]
  | cons s ls ih =>
    intro fb pl
    rw [packS]
    split
    · simp
    · refine Nat.le_trans (ih _ _) ?_
      split <;> simp <;> omega
theorem rpname_loop {pts : Bool} {all : List ByteArray} (hall : all.length ≤ 1099511) : ∀ (ls pre : List ByteArray) (fb : List Int) (L : List Gref04_Place) (B : ByteArray), all = pre ++ ls → okLs ls → (encB ls).length ≤ 254 → bytesI B = fb → okPl (plOf L) →
    fb.length + (encB ls).length ≤ 1073741824 → L.length + ls.length ≤ 1073741824 →
    ∃ e, loop (fun s : List Gref04_Place × List ByteArray × Int × ByteArray => m_ref04_Packer_Name_s2 pts s.1 s.2.1 s.2.2.1 s.2.2.2) (L, all, (pre.length : Int), B) = some e ∧
      ∃ B' L', Sum.elim (fun e => m_ref04_Packer_Name_j1 e.1 e.2) (fun x => some x) e = some (0, ⟨B', L'⟩) ∧ bytesI B' = (packS pts ls fb (plOf L)).1 ∧ plOf L' = (packS pts ls fb (plOf L)).2 := by
  intro ls
  induction ls with
  | nil =>
    intro pre fb L B hp hok hl hB hpl hfb hL
    rw [List.append_nil] at hp
    subst hp
    obtain ⟨t, h1, h2⟩ := rnum1 (v := 0) (o := ⟨B, L⟩) (by simp only; rw [size_bytes, hB]; omega)
    refine ⟨.inl (L, B), loop_inr (by simp only [m_ref04_Packer_Name_s2]; rw [if_neg (by omega)]), t, L, ?_, ?_, rfl⟩
    · simp only [Sum.elim_inl, m_ref04_Packer_Name_j1]; rw [h1]; rfl
    · rw [h2, hB]; rfl
  | cons s ls ih =>
    intro pre fb L B hp hok hl hB hpl hfb hL
    have hlen : all.length = pre.length + (ls.length + 1) := by rw [hp]; simp
    have hat : at_ all (pre.length : Int) = some s := by rw [at_nat (by omega)]; simp [hp]
    have hcut : cutLo all (pre.length : Int) = some (s :: ls) := by rw [cutLo, if_pos ⟨by omega, by omega⟩]; simp [hp]
    have hoks := okLs_cons.1 hok
    have hBs : B.size = fb.length := by rw [size_bytes, hB]
    have henc : (encB (s :: ls)).length = 1 + s.size + (encB ls).length := by rw [encB_cons]; simp [← size_bytes]; omega
    have hLp : (plOf L).length = L.length := by simp [plOf]
    have hst := m_ref04_Packer_Name_s2.eq_def pts L all (pre.length : Int) B
    rw [if_pos (by omega), hcut, Option.bind_some, rmake_eq (by simp at hL ⊢; omega), Option.bind_some, mkF, if_pos hok, if_pos hl, find_eq (by simp only; omega), Option.bind_some] at hst
    simp only at hst
    have hj4 : ∀ L', ∃ B', m_ref04_Packer_Name_j4 all (pre.length : Int) B L' = some (.inl (L', all, (((pre ++ [s]).length : Nat) : Int), B')) ∧ bytesI B' = fb ++ [(s.size : Int)] ++ bytesI s := by
      intro L'
      obtain ⟨t, h1, h2⟩ := rnum1 (v := (s.size : Int)) (o := ⟨B, L'⟩) (by simp only; omega)
      have hts : t.size = fb.length + 1 := by rw [size_bytes, h2, hB]; simp
      refine ⟨t ++ s, ?_, ?_⟩
      · rw [m_ref04_Packer_Name_j4, hat, Option.bind_some, h1, Option.bind_some, Option.bind_some, sadd_of (by simp only; omega), w64_id (by omega) (by omega)]
        simp
      · rw [bytesI_append, h2, hB]
        simp only [List.append_cancel_right_eq, List.append_cancel_left_eq]
        congr 1
        omega
    have hgo : ∀ L', okPl (plOf L') → L'.length + ls.length ≤ 1073741824 → m_ref04_Packer_Name_s2 pts L all (pre.length : Int) B = m_ref04_Packer_Name_j4 all (pre.length : Int) B L' →
        packS pts (s :: ls) fb (plOf L) = packS pts ls (fb ++ [(s.size : Int)] ++ bytesI s) (plOf L') →
        ∃ e, loop (fun s : List Gref04_Place × List ByteArray × Int × ByteArray => m_ref04_Packer_Name_s2 pts s.1 s.2.1 s.2.2.1 s.2.2.2) (L, all, (pre.length : Int), B) = some e ∧
          ∃ B' L', Sum.elim (fun e => m_ref04_Packer_Name_j1 e.1 e.2) (fun x => some x) e = some (0, ⟨B', L'⟩) ∧ bytesI B' = (packS pts (s :: ls) fb (plOf L)).1 ∧ plOf L' = (packS pts (s :: ls) fb (plOf L)).2 := by
      intro L' hpl' hL' hs' he
      obtain ⟨B', h1, h2⟩ := hj4 L'
      rw [loop_inl (hs'.trans h1), he]
      exact ih (pre ++ [s]) _ L' B' (by rw [hp]; simp) hoks.2 (by omega) h2 hpl' (by simp [← size_bytes]; omega) hL'
    have hplS : ∀ v : Int, plOf (L ++ [⟨mkN (s :: ls), v⟩]) = plOf L ++ [(mkN (s :: ls), v)] := by intro v; simp [plOf]
    have hms : (mkN (s :: ls)).size ≤ 255 := by rw [nm_size (mkN_nm hok)]; omega
    have hL1 : L.length + ls.length ≤ 1073741824 := by simp at hL; omega
    by_cases hg : (getM 0 (plOf L) (mkN (s :: ls))).2 = true
    · rw [if_pos hg] at hst
      have hr := hpl.2 _ (getM_true hg)
      simp only at hr
      by_cases hp' : pts = true
      · obtain ⟨t, h1, h2⟩ := rnum2 (v := 49152 + (getM 0 (plOf L) (mkN (s :: ls))).1) (o := ⟨B, L⟩) (by simp only; omega)
        rw [if_pos hp', if_pos (by omega), w64_id (by omega) (by omega), h1, Option.bind_some] at hst
        refine ⟨_, loop_inr hst, t, L, rfl, ?_, ?_⟩
        · rw [h2, hB, packS, if_pos ⟨hp', hg⟩]
          simp only
          congr 1
          congr 1
          · omega
          · congr 1; omega
        · rw [packS, if_pos ⟨hp', hg⟩]
      · rw [if_neg hp', m_ref04_Packer_Name_j3, if_neg (by omega)] at hst
        refine hgo L hpl hL1 hst ?_
        rw [packS, if_neg (fun h => hp' h.1), if_pos (.inl hg)]
    · rw [if_neg hg] at hst
      have hst2 : m_ref04_Packer_Name_s2 pts L all (pre.length : Int) B = m_ref04_Packer_Name_j3 (-1) B L (mkN (s :: ls)) all (pre.length : Int) := by
        rw [hst]
        split
        · rw [if_neg (by omega)]
        · rfl
      rw [m_ref04_Packer_Name_j3, if_pos (by omega)] at hst2
      by_cases hf : fb.length < 16384
      · rw [if_pos (by omega), app_of (by simp at hL ⊢; omega), Option.bind_some, hBs] at hst2
        refine hgo _ ?_ (by simp at hL ⊢; omega) hst2 ?_
        · rw [hplS]; exact okPl_snoc hpl hms (by simpa using hg) (by omega) (by omega)
        · rw [packS, if_neg (fun h => hg h.2), if_neg (fun h => h.elim hg (by omega)), hplS]
      · rw [if_neg (by omega)] at hst2
        refine hgo L hpl hL1 hst2 ?_
        rw [packS, if_neg (fun h => hg h.2), if_pos (.inr (by omega))]
theorem rpname_nm {pts : Bool} {n : ByteArray} {ls : List ByteArray} {fb : List Int} {B : ByteArray} {L : List Gref04_Place} (h : Nm n ls) (hs : n.size ≤ 255) (hB : bytesI B = fb) (hpl : okPl (plOf L)) (hfb : fb.length ≤ 1000000000) (hL : L.length ≤ 1000000000) :
    ∃ B' L', m_ref04_Packer_Name n pts ⟨B, L⟩ = some (0, ⟨B', L'⟩) ∧ bytesI B' = (packS pts ls fb (plOf L)).1 ∧ plOf L' = (packS pts ls fb (plOf L)).2 := by
  have hl := len_enc ls
  have hsz := nm_size h
  obtain ⟨e, h1, B', L', h2, h3, h4⟩ := rpname_loop (pts := pts) (all := ls) (by omega) ls [] fb L B rfl h.1 (by omega) hB hpl (by omega) (by omega)
  refine ⟨B', L', ?_, h3, h4⟩
  rw [m_ref04_Packer_Name, rlabels_nm h hs, Option.bind_some, if_neg (fun h => h rfl)]
  erw [h1]
  exact h2
theorem set_two (l : List Int) (a : Nat) (x y : Int) (h : a + 2 ≤ l.length) : (l.set a x).set (a + 1) y = l.take a ++ [x, y] ++ l.drop (a + 2) := by
  apply List.ext_getElem?
  intro i
  simp only [List.getElem?_set, List.length_set, List.append_assoc, List.getElem?_append, List.length_take, List.length_cons, List.length_nil, List.getElem?_take, List.getElem?_drop]
  rcases Nat.lt_trichotomy i a with hi | hi | hi
  · rw [if_neg (by omega), if_neg (by omega), if_pos (by omega), if_pos (by omega)]
  · subst hi
    rw [if_neg (by omega), if_pos rfl, if_pos (by omega), if_neg (by omega), if_pos (by omega), show i - min i l.length = 0 by omega]; rfl
  · by_cases hi2 : i = a + 1
    · subst hi2
      rw [if_pos rfl, if_pos (by omega), if_neg (by omega), if_pos (by omega), show a + 1 - min a l.length = 1 by omega]; rfl
    · rw [if_neg (by omega), if_neg (by omega), if_neg (by omega), if_neg (by omega)]
      congr 1; omega
theorem both_patch {a v : Int} {fb : List Int} {B : ByteArray} {L : List Gref04_Place} {pl : List (ByteArray × Int)} (hv : 0 ≤ v ∧ v ≤ 65535) (hB : bytesI B = fb) (hfb : fb.length ≤ 1000000000) :
    ∃ e fb' B', m_pack_Packer_Patch a v ⟨fb, pl⟩ = some (e, ⟨fb', pl⟩) ∧ m_ref04_Packer_Patch a v ⟨B, L⟩ = some (e, ⟨B', L⟩) ∧ bytesI B' = fb' ∧ fb'.length = fb.length := by
  have hBs : B.size = fb.length := by rw [size_bytes, hB]
  rw [m_pack_Packer_Patch, m_ref04_Packer_Patch]
  by_cases h1 : a < 0
  · rw [if_pos h1, if_pos h1]; exact ⟨1, fb, B, rfl, rfl, hB, rfl⟩
  rw [if_neg h1, if_neg h1]
  simp only [hBs]
  rw [w64_id (x := (fb.length : Int) - 2) (by omega) (by omega)]
  by_cases h2 : (fb.length : Int) - 2 < a
  · rw [if_pos h2, if_pos h2]; exact ⟨1, fb, B, rfl, rfl, hB, rfl⟩
  rw [if_neg h2, if_neg h2]
  obtain ⟨k, rfl⟩ := Int.eq_ofNat_of_zero_le (by omega : 0 ≤ a)
  have hx : ∀ x ∈ [v / 256, v % 256], 0 ≤ x ∧ x ≤ 255 := by
    intro x hx
    simp only [List.mem_cons, List.not_mem_nil, or_false] at hx
    omega
  have hz : (strOfNums [v / 256, v % 256]).size = 2 := by rw [size_bytes, bytesI_str hx]; rfl
  have hs1 : (B.extract 0 k).size = k := by rw [ByteArray.size_extract]; omega
  have hs2 : (B.extract (k + 2) B.size).size = B.size - (k + 2) := by rw [ByteArray.size_extract]; omega
  refine ⟨0, (fb.set k (v / 256)).set (k + 1) (v % 256), B.extract 0 k ++ strOfNums [v / 256, v % 256] ++ B.extract (k + 2) B.size, ?_, ?_, ?_, ?_⟩
  · rw [at_nat (by omega), Option.bind_some, wrapu8 (x := v / 256) (by omega) (by omega), setAt, if_pos ⟨by omega, by omega⟩, Option.bind_some, w64_id (by omega) (by omega), wu8_eq]
    simp only [Int.toNat_natCast]
    rw [show (k : Int) + 1 = ((k + 1 : Nat) : Int) by omega, at_nat (by rw [List.length_set]; omega), Option.bind_some, setAt, if_pos ⟨by omega, by rw [List.length_set]; omega⟩]
    rfl
  · rw [scutHi, if_pos ⟨by omega, by omega⟩, Option.bind_some, scutLo, w64_id (by omega) (by omega), if_pos ⟨by omega, by omega⟩, Option.bind_some,
      Int.tdiv_eq_ediv_of_nonneg hv.1, Int.tmod_eq_emod_of_nonneg hv.1, wrapu16 (by omega) (by omega), wrapu8 (by omega) (by omega), wrapu8 (by omega) (by omega),
      show ((k : Int)).toNat = k by omega, show ((k : Int) + 2).toNat = k + 2 by omega, sadd_of (by omega), Option.bind_some, sadd_of (by rw [ByteArray.size_append]; omega)]
    rfl
  · rw [bytesI_append, bytesI_append, bytesI_str hx, bytesI_extract, bytesI_extract, hB, List.drop_zero, hBs, List.take_length, set_two fb k _ _ (by omega)]
  · simp
open Go.RowKit
open Go.RowKit
/-- A type's data: bytes ahead, names, bytes behind; has it names? -/
def shp (t : Int) : Int × Int × Int × Bool := if t = 2 ∨ t = 5 ∨ t = 12 then (0, 1, 0, true) else if t = 15 then (2, 1, 0, true) else if t = 6 then (0, 2, 20, true) else (0, 0, 0, false)
theorem shp_cases (t : Int) : shp t = (0, 1, 0, true) ∨ shp t = (2, 1, 0, true) ∨ shp t = (0, 2, 20, true) ∨ shp t = (0, 0, 0, false) := by
  unfold shp
  split
  · exact .inl rfl
  · split
    · exact .inr (.inl rfl)
    · split
      · exact .inr (.inr (.inl rfl))
      · exact .inr (.inr (.inr rfl))
theorem head_eq (t : Int) : m_ref05_head t = some (shp t) := by
  unfold m_ref05_head m_ref05_head_j1 shp
  by_cases h2 : t = 2
  · subst h2; rfl
  by_cases h5 : t = 5
  · subst h5; rfl
  by_cases h12 : t = 12
  · subst h12; rfl
  by_cases h15 : t = 15
  · subst h15; rfl
  by_cases h6 : t = 6
  · subst h6; rfl
  simp [h2, h5, h12, h15, h6]
theorem shapeOf_eq (t : Int) : m_record_shapeOf t = some ⟨(shp t).1, (shp t).2.1, (shp t).2.2.1⟩ := by
  unfold m_record_shapeOf m_record_shapeOf_j1 shp
  by_cases h2 : t = 2
  · subst h2; rfl
  by_cases h5 : t = 5
  · subst h5; rfl
  by_cases h12 : t = 12
  · subst h12; rfl
  by_cases h15 : t = 15
  · subst h15; rfl
  by_cases h6 : t = 6
  · subst h6; rfl
  simp [h2, h5, h12, h15, h6]
/-- Over labels, up to a 0 or the end. -/
def skipAt (s : ByteArray) (z : Bool) : Nat → Nat → Nat
  | 0, a => a
  | f + 1, a => if a < s.size ∧ (z = true → byteAt s a ≠ 0) then skipAt s z f (a + 1 + (byteAt s a).toNat) else a
theorem skip_loop {s : ByteArray} (hs : s.size ≤ 1099511627776) {z : Bool} {step : Int → Option (Int ⊕ Int)}
    (h : ∀ a : Nat, a ≤ 1099511627776 + 512 → step (a : Int) = if a < s.size ∧ (z = true → byteAt s a ≠ 0) then some (.inl ((a + 1 + (byteAt s a).toNat : Nat) : Int)) else some (.inr (a : Int))) :
    ∀ (f a : Nat), s.size ≤ a + f → a ≤ s.size + 256 → loop step (a : Int) = some ((skipAt s z f a : Nat) : Int) := by
  intro f
  induction f with
  | zero =>
    intro a h1 h2
    rw [loop_inr (by rw [h a (by omega), if_neg (by omega)])]; rfl
  | succ f ih =>
    intro a h1 h2
    have hb := byteAt_lt s a
    by_cases hc : a < s.size ∧ (z = true → byteAt s a ≠ 0)
    · rw [loop_inl (by rw [h a (by omega), if_pos hc]), ih _ (by omega) (by omega), skipAt, if_pos hc]
    · rw [loop_inr (by rw [h a (by omega), if_neg hc]), skipAt, if_neg hc]
def skipN (s : ByteArray) : Nat := skipAt s true s.size 0
def skipT (s : ByteArray) : Nat := skipAt s false s.size 0
theorem cut_skip {s : ByteArray} (hs : s.size ≤ 1099511627776) : loop (fun i => m_record_shape_cut_c1_s2 s i) 0 = some ((skipN s : Nat) : Int) := by
  refine skip_loop hs (z := true) (fun a ha => ?_) s.size 0 (by omega) (by omega)
  have hb := byteAt_lt s a
  rw [m_record_shape_cut_c1_s2]
  by_cases h1 : a < s.size
  · rw [if_pos (by omega), sat_of (by omega) (by omega), Option.bind_some]
    by_cases h2 : byteAt s a ≠ 0
    · rw [if_pos h2, if_pos ⟨h1, fun _ => h2⟩, Option.bind_some, w64_id (x := byteAt s a) (by omega) (by omega), w64_id (x := 1 + byteAt s a) (by omega) (by omega), w64_id (by omega) (by omega)]
      congr 2; omega
    · rw [if_neg h2, if_neg (fun h => h2 (h.2 rfl))]
  · rw [if_neg (by omega), if_neg (fun h => h1 h.1)]
theorem first_skip {s : ByteArray} (hs : s.size ≤ 1099511627776) : loop (fun i => m_ref05_first_s2 s i) 0 = some ((skipN s : Nat) : Int) := by
  refine skip_loop hs (z := true) (fun a ha => ?_) s.size 0 (by omega) (by omega)
  have hb := byteAt_lt s a
  rw [m_ref05_first_s2]
  by_cases h1 : a < s.size
  · rw [if_pos (by omega), sat_of (by omega) (by omega), Option.bind_some]
    by_cases h2 : byteAt s a ≠ 0
    · rw [if_pos h2, if_pos ⟨h1, fun _ => h2⟩, Option.bind_some, w64_id (x := byteAt s a) (by omega) (by omega), w64_id (x := (a : Int) + 1) (by omega) (by omega), w64_id (by omega) (by omega)]
      congr 2; omega
    · rw [if_neg h2, if_neg (fun h => h2 (h.2 rfl))]
  · rw [if_neg (by omega), if_neg (fun h => h1 h.1)]
theorem right_skip {s : ByteArray} (hs : s.size ≤ 1099511627776) : loop (fun i => m_record_right_s2 s i) 0 = some ((skipT s : Nat) : Int) := by
  refine skip_loop hs (z := false) (fun a ha => ?_) s.size 0 (by omega) (by omega)
  have hb := byteAt_lt s a
  rw [m_record_right_s2]
  by_cases h1 : a < s.size
  · rw [if_pos (by omega), sat_of (by omega) (by omega), Option.bind_some, if_pos ⟨h1, fun h => by cases h⟩, w64_id (x := byteAt s a) (by omega) (by omega), w64_id (x := 1 + byteAt s a) (by omega) (by omega), w64_id (by omega) (by omega)]
    congr 2; omega
  · rw [if_neg (by omega), if_neg (fun h => h1 h.1)]
theorem rright_skip {s : ByteArray} (hs : s.size ≤ 1099511627776) : loop (fun i => m_ref05_Right_s2 s i) 0 = some ((skipT s : Nat) : Int) := by
  refine skip_loop hs (z := false) (fun a ha => ?_) s.size 0 (by omega) (by omega)
  have hb := byteAt_lt s a
  rw [m_ref05_Right_s2]
  by_cases h1 : a < s.size
  · rw [if_pos (by omega), sat_of (by omega) (by omega), Option.bind_some, if_pos ⟨h1, fun h => by cases h⟩, w64_id (x := byteAt s a) (by omega) (by omega), w64_id (x := (a : Int) + 1) (by omega) (by omega), w64_id (by omega) (by omega)]
    congr 2; omega
  · rw [if_neg (by omega), if_neg (fun h => h1 h.1)]
theorem skipAt_le (s : ByteArray) (z : Bool) : ∀ (f a : Nat), a ≤ s.size + 256 → skipAt s z f a ≤ s.size + 256 := by
  intro f
  induction f with
  | zero => intro a h; exact h
  | succ f ih =>
    intro a h
    have hb := byteAt_lt s a
    rw [skipAt]
    split
    · exact ih _ (by omega)
    · exact h
theorem isNm_check {n : ByteArray} (hb : n.size ≤ 1099511627776) : ∃ e, m_name_Check n = some e ∧ m_ref03_Check n = some e ∧ (e = 0 ↔ isNm n) := by
  rcases nm_cases n with h | ⟨ls, h1, h2⟩ | h
  · obtain ⟨ls, h1, h2⟩ := h
    exact ⟨0, check_nm h1 h2, rcheck_nm h1 h2, fun _ => ⟨ls, h1, h2⟩, fun _ => rfl⟩
  · refine ⟨11, check_big h1 h2 hb, rcheck_big h1 h2 hb, fun h => by omega, fun ⟨_, _, h⟩ => by omega⟩
  · refine ⟨10, check_no h hb, rcheck_no h hb, fun h => by omega, fun ⟨ls, h', _⟩ => absurd ⟨ls, h'⟩ h⟩
theorem isNm_checkC {n : ByteArray} (hb : n.size ≤ 1099511627776) : ∃ e, m_name_Check n = some e ∧ (e = 0 ↔ isNm n) := by
  rcases nm_cases n with h | ⟨ls, h1, h2⟩ | h
  · obtain ⟨ls, h1, h2⟩ := h
    exact ⟨0, check_nm h1 h2, fun _ => ⟨ls, h1, h2⟩, fun _ => rfl⟩
  · refine ⟨11, check_big h1 h2 hb, fun h => by omega, fun ⟨_, _, h⟩ => by omega⟩
  · refine ⟨10, check_no h hb, fun h => by omega, fun ⟨ls, h', _⟩ => absurd ⟨ls, h'⟩ h⟩
theorem isNm_checkR {n : ByteArray} (hb : n.size ≤ 1099511627776) : ∃ e, m_ref03_Check n = some e ∧ (e = 0 ↔ isNm n) := by
  rcases nm_cases n with h | ⟨ls, h1, h2⟩ | h
  · obtain ⟨ls, h1, h2⟩ := h
    exact ⟨0, rcheck_nm h1 h2, fun _ => ⟨ls, h1, h2⟩, fun _ => rfl⟩
  · refine ⟨11, rcheck_big h1 h2 hb, fun h => by omega, fun ⟨_, _, h⟩ => by omega⟩
  · refine ⟨10, rcheck_no h hb, fun h => by omega, fun ⟨ls, h', _⟩ => absurd ⟨ls, h'⟩ h⟩
open Classical in
/-- A name at a text's begin, and the rest. -/
noncomputable def firstP (s : ByteArray) : Option (ByteArray × ByteArray) :=
  if skipN s < s.size ∧ isNm (s.extract 0 (skipN s + 1)) then some (s.extract 0 (skipN s + 1), s.extract (skipN s + 1) s.size) else none
theorem first_eq {s : ByteArray} (hs : s.size ≤ 1099511627776) : m_ref05_first s = some (match firstP s with | some (n, r) => (n, r, true) | none => (⟨#[]⟩, ⟨#[]⟩, false)) := by
  have hle := skipAt_le s true s.size 0 (by omega)
  rw [m_ref05_first, first_skip hs, Option.bind_some, m_ref05_first_j1, firstP]
  by_cases h1 : skipN s < s.size
  · obtain ⟨e, he, hi⟩ := isNm_checkR (n := s.extract 0 (skipN s + 1)) (by rw [ByteArray.size_extract]; omega)
    rw [if_neg (by omega), w64_id (by omega) (by omega), scutHi, if_pos ⟨by omega, by omega⟩, Option.bind_some, show ((skipN s : Int) + 1).toNat = skipN s + 1 by omega, he, Option.bind_some]
    by_cases h2 : isNm (s.extract 0 (skipN s + 1))
    · rw [if_neg (fun h => h (hi.2 h2)), if_pos ⟨h1, h2⟩, Option.bind_some, scutLo, if_pos ⟨by omega, by omega⟩, Option.bind_some, show ((skipN s : Int) + 1).toNat = skipN s + 1 by omega]
    · rw [if_pos (fun h => h2 (hi.1 h)), if_neg (fun h => h2 h.2)]
  · rw [if_pos (by omega), if_neg (fun h => h1 h.1)]
theorem cutc_eq {s : ByteArray} (hs : s.size ≤ 1099511627776) {o : Grecord_parts} (ho : o.fnames.length ≤ 1099511627) :
    m_record_shape_cut_c1 s o = some (match firstP s with | some (n, r) => (true, r, ⟨o.fahead, o.fbehind, o.fnames ++ [n]⟩) | none => (false, s, o)) := by
  have hle := skipAt_le s true s.size 0 (by omega)
  rw [m_record_shape_cut_c1, cut_skip hs, Option.bind_some, m_record_shape_cut_c1_j1, firstP]
  by_cases h1 : skipN s < s.size
  · obtain ⟨e, he, hi⟩ := isNm_checkC (n := s.extract 0 (skipN s + 1)) (by rw [ByteArray.size_extract]; omega)
    rw [if_neg (by omega), w64_id (by omega) (by omega), scutHi, if_pos ⟨by omega, by omega⟩, Option.bind_some, show ((skipN s : Int) + 1).toNat = skipN s + 1 by omega, he, Option.bind_some]
    by_cases h2 : isNm (s.extract 0 (skipN s + 1))
    · rw [if_neg (fun h => h (hi.2 h2)), if_pos ⟨h1, h2⟩, Option.bind_some, app_of (by simp; omega), Option.bind_some, scutLo, if_pos ⟨by omega, by omega⟩, Option.bind_some, show ((skipN s : Int) + 1).toNat = skipN s + 1 by omega]
    · rw [if_pos (fun h => h2 (hi.1 h)), if_neg (fun h => h2 h.2)]
  · rw [if_pos (by omega), if_neg (fun h => h1 h.1)]
theorem firstP_some {s n r : ByteArray} (h : firstP s = some (n, r)) : isNm n ∧ s = n ++ r ∧ r.size ≤ s.size := by
  unfold firstP at h
  split at h
  · rename_i hc
    injection h with h
    injection h with h1 h2
    subst h1 h2
    refine ⟨hc.2, bytesI_inj ?_, by rw [ByteArray.size_extract]; omega⟩
    rw [bytesI_append, bytesI_extract, bytesI_extract, List.drop_zero, size_bytes s, List.take_length, List.take_append_drop]
  · cases h
/-- So many names ahead, and the rest. -/
noncomputable def namesP : Nat → ByteArray → Option (List ByteArray × ByteArray)
  | 0, s => some ([], s)
  | k + 1, s => match firstP s with
    | some (n, r) => match namesP k r with
      | some (l, q) => some (n :: l, q)
      | none => none
    | none => none
/-- Data cut up: ahead, names, behind, and whether they are right. -/
noncomputable def partsP (t : Int) (d : ByteArray) : ByteArray × List ByteArray × ByteArray × Bool :=
  if (d.size : Int) < (shp t).1 then (⟨#[]⟩, [], ⟨#[]⟩, false)
  else match namesP (shp t).2.1.toNat (d.extract (shp t).1.toNat d.size) with
    | some (l, r) => (d.extract 0 (shp t).1.toNat, l, r, decide ((r.size : Int) = (shp t).2.2.1))
    | none => (⟨#[]⟩, [], ⟨#[]⟩, false)
theorem cutloop {sh : Grecord_shape} (hn : 0 ≤ sh.fnames ∧ sh.fnames ≤ 1000) : ∀ (k i : Nat) (l : List ByteArray) (s a b : ByteArray), (i : Int) + k = sh.fnames → s.size ≤ 1099511627776 → l.length ≤ i →
    loop (fun s => m_record_shape_cut_s2 sh s.1 s.2.1 s.2.2.1 s.2.2.2.1 s.2.2.2.2) (l, (i : Int), s, a, b) =
      some (match namesP k s with | some (q, r) => .inl (l ++ q, r, a, b) | none => .inr (⟨⟨#[]⟩, ⟨#[]⟩, []⟩, false)) := by
  intro k
  induction k with
  | zero =>
    intro i l s a b hi hs hl
    rw [loop_inr (by simp only [m_record_shape_cut_s2]; rw [if_neg (by omega)])]
    simp [namesP]
  | succ k ih =>
    intro i l s a b hi hs hl
    have hst := m_record_shape_cut_s2.eq_def sh l (i : Int) s a b
    rw [if_pos (by omega), cutc_eq hs (by simp only; omega), Option.bind_some] at hst
    rw [namesP]
    cases hf : firstP s with
    | none =>
      rw [hf] at hst
      simp only at hst
      rw [if_neg (by simp)] at hst
      rw [loop_inr hst]
    | some x =>
      obtain ⟨n, r⟩ := x
      rw [hf] at hst
      simp only at hst
      rw [if_pos trivial, w64_id (by omega) (by omega)] at hst
      rw [loop_inl hst, show (i : Int) + 1 = ((i + 1 : Nat) : Int) by omega, ih (i + 1) (l ++ [n]) r a b (by omega) (by have := (firstP_some hf).2.2; omega) (by simp; omega)]
      rcases hq : namesP k r with _ | ⟨q, w⟩ <;> simp [hq]
theorem cut_eq {t : Int} {d : ByteArray} (hd : d.size ≤ 1099511627776) : m_record_shape_cut ⟨(shp t).1, (shp t).2.1, (shp t).2.2.1⟩ d = some (⟨(partsP t d).1, (partsP t d).2.2.1, (partsP t d).2.1⟩, (partsP t d).2.2.2) := by
  have h0 : 0 ≤ (shp t).1 ∧ 0 ≤ (shp t).2.1 ∧ (shp t).2.1 ≤ 2 := by rcases shp_cases t with h | h | h | h <;> rw [h] <;> simp
  rw [m_record_shape_cut, partsP]
  simp only
  by_cases h1 : (d.size : Int) < (shp t).1
  · rw [if_pos h1, if_pos h1]
  · rw [if_neg h1, if_neg h1, scutHi, if_pos ⟨h0.1, by omega⟩, Option.bind_some, scutLo, if_pos ⟨h0.1, by omega⟩, Option.bind_some]
    erw [cutloop (sh := ⟨(shp t).1, (shp t).2.1, (shp t).2.2.1⟩) (by simp only; omega) (shp t).2.1.toNat 0 [] _ _ _ (by simp only; omega) (by rw [ByteArray.size_extract]; omega) (by simp)]
    cases namesP (shp t).2.1.toNat (d.extract (shp t).1.toNat d.size) with
    | none => rfl
    | some x => simp [m_record_shape_cut_j1]
theorem namesloop {n : Int} (hn : 0 ≤ n ∧ n ≤ 1000) : ∀ (k i : Nat) (l : List ByteArray) (s : ByteArray), (i : Int) + k = n → s.size ≤ 1099511627776 → l.length ≤ i →
    loop (fun s => m_ref05_Names_s2 n s.1 s.2.1 s.2.2) (l, s, (i : Int)) =
      some (match namesP k s with | some (q, r) => .inl (l ++ q, r) | none => .inr (⟨#[]⟩, [], ⟨#[]⟩, false)) := by
  intro k
  induction k with
  | zero =>
    intro i l s hi hs hl
    rw [loop_inr (by simp only [m_ref05_Names_s2]; rw [if_neg (by omega)])]
    simp [namesP]
  | succ k ih =>
    intro i l s hi hs hl
    have hst := m_ref05_Names_s2.eq_def n l s (i : Int)
    rw [if_pos (by omega), first_eq hs, Option.bind_some] at hst
    rw [namesP]
    cases hf : firstP s with
    | none =>
      rw [hf] at hst
      simp only at hst
      rw [if_neg (by simp)] at hst
      rw [loop_inr hst]
    | some x =>
      obtain ⟨m, r⟩ := x
      rw [hf] at hst
      simp only at hst
      rw [if_pos trivial, app_of (by simp; omega), Option.bind_some, w64_id (by omega) (by omega)] at hst
      rw [loop_inl hst, show (i : Int) + 1 = ((i + 1 : Nat) : Int) by omega, ih (i + 1) (l ++ [m]) r (by omega) (by have := (firstP_some hf).2.2; omega) (by simp; omega)]
      rcases hq : namesP k r with _ | ⟨q, w⟩ <;> simp [hq]
theorem names_of {t : Int} {d : ByteArray} (hd : d.size ≤ 1099511627776) : m_ref05_Names t d = some (if (shp t).2.2.2 = true then partsP t d else (⟨#[]⟩, [], ⟨#[]⟩, false)) := by
  have h0 : 0 ≤ (shp t).1 ∧ 0 ≤ (shp t).2.1 ∧ (shp t).2.1 ≤ 2 := by rcases shp_cases t with h | h | h | h <;> rw [h] <;> simp
  rw [m_ref05_Names, head_eq, Option.bind_some]
  by_cases hn : (shp t).2.2.2 = true
  · rw [if_pos hn, if_pos hn, partsP]
    by_cases h1 : (d.size : Int) < (shp t).1
    · rw [if_pos h1, if_pos h1]
    · rw [if_neg h1, if_neg h1, scutLo, if_pos ⟨h0.1, by omega⟩, Option.bind_some]
      erw [namesloop (n := (shp t).2.1) (by omega) (shp t).2.1.toNat 0 [] _ (by omega) (by rw [ByteArray.size_extract]; omega) (by simp)]
      cases namesP (shp t).2.1.toNat (d.extract (shp t).1.toNat d.size) with
      | none => rfl
      | some x =>
        simp only [Option.bind_some, Sum.elim_inl, m_ref05_Names_j1, List.nil_append]
        rw [scutHi, if_pos ⟨h0.1, by omega⟩]; rfl
  · rw [if_neg hn, if_neg hn]
/-- Are data right for a type? -/
noncomputable def rightP (t : Int) (d : ByteArray) : Bool :=
  if (shp t).2.2.2 = true then (partsP t d).2.2.2
  else if t = 1 then decide ((d.size : Int) = 4) else if t = 28 then decide ((d.size : Int) = 16) else if t = 16 then decide (skipT d = d.size ∧ 0 < d.size) else true
theorem rright_eq {t : Int} {d : ByteArray} (hd : d.size ≤ 1099511627776) : m_ref05_Right t d = some (rightP t d) := by
  rw [m_ref05_Right, head_eq, Option.bind_some, rightP]
  by_cases hn : (shp t).2.2.2 = true
  · rw [if_pos hn, if_pos hn, names_of hd, if_pos hn]; rfl
  rw [if_neg hn, if_neg hn]
  by_cases h1 : t = 1
  · rw [if_pos h1, if_pos h1]
  rw [if_neg h1, if_neg h1]
  by_cases h2 : t = 28
  · rw [if_pos h2, if_pos h2]
  rw [if_neg h2, if_neg h2]
  by_cases h3 : t = 16
  · rw [if_pos h3, if_pos h3, rright_skip hd, Option.bind_some, m_ref05_Right_j1]
    by_cases h4 : skipT d = d.size
    · rw [if_pos (by omega)]
      exact congrArg some (decide_eq_decide.2 ⟨fun h => ⟨h4, by omega⟩, fun h => by omega⟩)
    · rw [if_neg (by omega), decide_eq_false (fun h => h4 h.1)]
  · rw [if_neg h3, if_neg h3]
theorem right_eq {t : Int} {d : ByteArray} (hd : d.size ≤ 1099511627776) : m_record_right t d = some (rightP t d) := by
  rw [m_record_right, rightP]
  by_cases h1 : t = 1
  · subst h1; rw [if_pos rfl, if_neg (by decide), if_pos rfl]
  rw [if_neg h1]
  by_cases h2 : t = 28
  · subst h2; rw [if_pos rfl, if_neg (by decide), if_neg h1, if_pos rfl]
  rw [if_neg h2]
  by_cases h3 : t = 16
  · subst h3
    rw [if_pos rfl, if_neg (by decide), if_neg h1, if_neg h2, if_pos rfl, right_skip hd, Option.bind_some, m_record_right_j1]
    by_cases h4 : skipT d = d.size
    · rw [if_pos (by omega)]
      by_cases h5 : d = ⟨#[]⟩
      · have := size_nil.1 h5
        rw [decide_eq_true h5, decide_eq_false (by omega)]; rfl
      · have : d.size ≠ 0 := fun h => h5 (size_nil.2 h)
        rw [decide_eq_false h5, decide_eq_true ⟨h4, by omega⟩]; rfl
    · rw [if_neg (by omega), decide_eq_false (fun h => h4 h.1)]
  rw [if_neg h3, shapeOf_eq, Option.bind_some, cut_eq hd, Option.bind_some, if_neg h1, if_neg h2, if_neg h3]
  by_cases hn : (shp t).2.2.2 = true
  · rw [if_pos hn]
    by_cases h4 : (partsP t d).2.2.2 = true
    · rw [if_pos h4, h4]
    · rw [if_neg h4, Option.bind_some]
      have h5 : (partsP t d).2.2.2 = false := by simpa using h4
      rw [h5, decide_eq_false]
      rcases shp_cases t with h | h | h | h <;> rw [h] at hn ⊢ <;> simp at hn ⊢
  · rw [if_neg hn]
    split
    · rfl
    · rw [Option.bind_some, decide_eq_true]
      rcases shp_cases t with h | h | h | h <;> rw [h] at hn ⊢ <;> simp at hn ⊢
theorem check_both {r : GRR} (hn : r.fName.size ≤ 1099511627776) (hd : r.fData.size ≤ 1099511627776) :
    ∃ e, m_record_Check r = some e ∧ m_ref05_Check r = some e ∧ (e = 0 ↔ isNm r.fName ∧ r.fData.size ≤ 2000 ∧ rightP r.fType r.fData = true) := by
  obtain ⟨e, h1, h2, h3⟩ := isNm_check hn
  rw [m_record_Check, m_ref05_Check, h1, h2, Option.bind_some, Option.bind_some, right_eq hd, rright_eq hd]
  by_cases he : e ≠ 0
  · rw [if_pos he]
    exact ⟨e, rfl, rfl, fun h => absurd h he, fun h => absurd (h3.2 h.1) he⟩
  · have hnm := h3.1 (Classical.not_not.1 he)
    rw [if_neg he]
    by_cases hb : 2000 < (r.fData.size : Int)
    · rw [if_pos hb]
      exact ⟨11, rfl, rfl, fun h => by omega, fun h => by omega⟩
    · rw [if_neg hb, Option.bind_some]
      by_cases hr : rightP r.fType r.fData = true
      · rw [if_pos hr]
        exact ⟨0, rfl, rfl, fun _ => ⟨hnm, by omega, hr⟩, fun _ => rfl⟩
      · rw [if_neg hr]
        exact ⟨10, rfl, rfl, fun h => by omega, fun h => absurd h.2.2 hr⟩
theorem check_code {r : GRR} (hn : r.fName.size ≤ 1099511627776) (hd : r.fData.size ≤ 1099511627776) :
    ∃ e, m_record_Check r = some e ∧ (e = 0 ↔ isNm r.fName ∧ r.fData.size ≤ 2000 ∧ rightP r.fType r.fData = true) := by
  obtain ⟨e, h1, h3⟩ := isNm_checkC hn
  rw [m_record_Check, h1, Option.bind_some, right_eq hd]
  by_cases he : e ≠ 0
  · rw [if_pos he]
    exact ⟨e, rfl, fun h => absurd h he, fun h => absurd (h3.2 h.1) he⟩
  · have hnm := h3.1 (Classical.not_not.1 he)
    rw [if_neg he]
    by_cases hb : 2000 < (r.fData.size : Int)
    · rw [if_pos hb]
      exact ⟨11, rfl, fun h => by omega, fun h => by omega⟩
    · rw [if_neg hb, Option.bind_some]
      by_cases hr : rightP r.fType r.fData = true
      · rw [if_pos hr]
        exact ⟨0, rfl, fun _ => ⟨hnm, by omega, hr⟩, fun _ => rfl⟩
      · rw [if_neg hr]
        exact ⟨10, rfl, fun h => by omega, fun h => absurd h.2.2 hr⟩
open Go.RowKit
open Go.RowKit
open Classical in
/-- A name's labels. -/
noncomputable def labP (n : ByteArray) : List ByteArray := if h : ∃ ls, Nm n ls then h.choose else []
theorem labP_nm {n : ByteArray} {ls : List ByteArray} (h : Nm n ls) : labP n = ls := by
  have hx : ∃ ls, Nm n ls := ⟨ls, h⟩
  rw [labP, dif_pos hx]
  exact nm_inj hx.choose_spec h
theorem isNm_lab {n : ByteArray} (h : isNm n) : Nm n (labP n) ∧ n.size ≤ 255 ∧ n.size = (encB (labP n)).length + 1 ∧ (encB (labP n)).length ≤ 254 := by
  obtain ⟨ls, h1, h2⟩ := h
  rw [labP_nm h1]
  have := nm_size h1
  exact ⟨h1, h2, this, by omega⟩
noncomputable def packsN : List ByteArray → List Int → List (ByteArray × Int) → List Int × List (ByteArray × Int)
  | [], fb, pl => (fb, pl)
  | n :: ns, fb, pl => packsN ns (packS true (labP n) fb pl).1 (packS true (labP n) fb pl).2
theorem packS_uni {pts : Bool} : ∀ (ls : List ByteArray) (n : Nat) (pl : List (ByteArray × Int)), ∃ u v, ∀ fb : List Int, fb.length = n → packS pts ls fb pl = (fb ++ u, v) := by
  intro ls
  induction ls with
  | nil => intro n pl; exact ⟨[0], pl, fun fb _ => rfl⟩
  | cons s ls ih =>
    intro n pl
    by_cases hp : pts = true ∧ (getM 0 pl (mkN (s :: ls))).2 = true
    · exact ⟨[192 + (getM 0 pl (mkN (s :: ls))).1 / 256, (getM 0 pl (mkN (s :: ls))).1 % 256], pl, fun fb _ => by rw [packS, if_pos hp]⟩
    · obtain ⟨u, v, h⟩ := ih (n + 1 + s.size) (if (getM 0 pl (mkN (s :: ls))).2 = true ∨ 16384 ≤ n then pl else pl ++ [(mkN (s :: ls), (n : Int))])
      refine ⟨[(s.size : Int)] ++ bytesI s ++ u, v, fun fb hf => ?_⟩
      subst hf
      rw [packS, if_neg hp, h _ (by simp [← size_bytes]; omega)]
      simp
theorem packsN_uni : ∀ (ns : List ByteArray) (n : Nat) (pl : List (ByteArray × Int)), ∃ u v, ∀ fb : List Int, fb.length = n → packsN ns fb pl = (fb ++ u, v) := by
  intro ns
  induction ns with
  | nil => intro n pl; exact ⟨[], pl, fun fb _ => by simp [packsN]⟩
  | cons x ns ih =>
    intro n pl
    obtain ⟨u, v, h⟩ := packS_uni (pts := true) (labP x) n pl
    obtain ⟨u', v', h'⟩ := ih (n + u.length) v
    refine ⟨u ++ u', v', fun fb hf => ?_⟩
    rw [packsN, h fb hf, h' _ (by simp; omega)]
    simp
theorem packsN_ok : ∀ (ns : List ByteArray) (fb : List Int) (pl : List (ByteArray × Int)), (∀ n ∈ ns, isNm n) → okPl pl → okPl (packsN ns fb pl).2 ∧ (packsN ns fb pl).1.length ≤ fb.length + 255 * ns.length ∧ (packsN ns fb pl).2.length ≤ pl.length + 255 * ns.length := by
  intro ns
  induction ns with
  | nil => intro fb pl _ h; exact ⟨h, by simp [packsN], by simp [packsN]⟩
  | cons x ns ih =>
    intro fb pl hn h
    obtain ⟨h1, h2, h3, h4⟩ := isNm_lab (hn x List.mem_cons_self)
    have a1 := packS_len (pts := true) (labP x) fb pl
    have a2 := packS_plen (pts := true) (labP x) fb pl
    have a3 := len_enc (labP x)
    obtain ⟨b1, b2, b3⟩ := ih (packS true (labP x) fb pl).1 (packS true (labP x) fb pl).2 (fun n hn' => hn n (List.mem_cons_of_mem _ hn')) (packS_pl _ fb pl h1.1 h4 h)
    rw [packsN]
    refine ⟨b1, ?_, ?_⟩ <;> simp only [List.length_cons] <;> omega
theorem pname_lab {pts : Bool} {n : ByteArray} {fb : List Int} {pl : List (ByteArray × Int)} (h : isNm n) (hpl : okPl pl) (hfb : fb.length ≤ 1000000000) :
    m_pack_Packer_Name n pts ⟨fb, pl⟩ = some (0, ⟨(packS pts (labP n) fb pl).1, (packS pts (labP n) fb pl).2⟩) := by
  obtain ⟨h1, h2, -, -⟩ := isNm_lab h
  exact pname_nm h1 h2 hpl hfb
theorem rpname_lab {pts : Bool} {n : ByteArray} {fb : List Int} {B : ByteArray} {L : List Gref04_Place} (h : isNm n) (hB : bytesI B = fb) (hpl : okPl (plOf L)) (hfb : fb.length ≤ 1000000000) (hL : L.length ≤ 1000000000) :
    ∃ B' L', m_ref04_Packer_Name n pts ⟨B, L⟩ = some (0, ⟨B', L'⟩) ∧ bytesI B' = (packS pts (labP n) fb (plOf L)).1 ∧ plOf L' = (packS pts (labP n) fb (plOf L)).2 := by
  obtain ⟨h1, h2, -, -⟩ := isNm_lab h
  exact rpname_nm h1 h2 hB hpl hfb hL
theorem namesP_some : ∀ (k : Nat) (s : ByteArray) (l : List ByteArray) (r : ByteArray), namesP k s = some (l, r) → l.length = k ∧ (∀ n ∈ l, isNm n) ∧ bytesI s = l.flatMap bytesI ++ bytesI r ∧ r.size ≤ s.size := by
  intro k
  induction k with
  | zero => intro s l r h; injection h with h; injection h with h1 h2; subst h1 h2; refine ⟨rfl, fun n hn => ?_, by simp, Nat.le_refl _⟩; simp at hn
  | succ k ih =>
    intro s l r h
    rw [namesP] at h
    split at h
    · rename_i n q hf
      obtain ⟨f1, f2, f3⟩ := firstP_some hf
      split at h
      · rename_i l' q' hq
        injection h with h
        injection h with h1 h2
        subst h1 h2
        obtain ⟨g1, g2, g3, g4⟩ := ih _ _ _ hq
        refine ⟨by simp [g1], fun m hm => ?_, ?_, by omega⟩
        · rcases List.mem_cons.1 hm with rfl | hm
          · exact f1
          · exact g2 m hm
        · rw [f2, bytesI_append, g3]; simp
      · cases h
    · cases h
/-- What right data with names are made of. -/
theorem parts_ok {t : Int} {d : ByteArray} (hn : (shp t).2.2.2 = true) (h : (partsP t d).2.2.2 = true) :
    (partsP t d).2.1.length = (shp t).2.1.toNat ∧ (∀ n ∈ (partsP t d).2.1, isNm n) ∧ bytesI d = bytesI (partsP t d).1 ++ ((partsP t d).2.1.flatMap bytesI ++ bytesI (partsP t d).2.2.1) ∧ ((partsP t d).1.size : Int) = (shp t).1 ∧ ((partsP t d).2.2.1.size : Int) = (shp t).2.2.1 := by
  have h0 : 0 ≤ (shp t).1 := by rcases shp_cases t with h | h | h | h <;> rw [h] <;> simp
  unfold partsP at h ⊢
  by_cases h1 : (d.size : Int) < (shp t).1
  · rw [if_pos h1] at h; cases h
  · rw [if_neg h1] at h ⊢
    rcases hq : namesP (shp t).2.1.toNat (d.extract (shp t).1.toNat d.size) with _ | ⟨l, r⟩
    · rw [hq] at h; cases h
    · rw [hq] at h
      obtain ⟨g1, g2, g3, g4⟩ := namesP_some _ _ _ _ hq
      simp only at h ⊢
      refine ⟨g1, g2, ?_, by rw [ByteArray.size_extract]; omega, of_decide_eq_true h⟩
      rw [← g3, bytesI_extract, bytesI_extract, List.drop_zero, size_bytes d, List.take_length, List.take_append_drop]
def hdrR (r : GRR) : List Int := [r.fType / 256 % 256, r.fType % 256, r.fClass / 256 % 256, r.fClass % 256, r.fTTL / 16777216 % 256, r.fTTL / 65536 % 256, r.fTTL / 256 % 256, r.fTTL % 256]
theorem hdrR_len (r : GRR) : (hdrR r).length = 8 := rfl
/-- A record put, with these two bytes for the length of its data. -/
noncomputable def bodyP (r : GRR) (fb : List Int) (pl : List (ByteArray × Int)) (x y : Int) : List Int × List (ByteArray × Int) :=
  if (shp r.fType).2.2.2 = true then
    ((packsN (partsP r.fType r.fData).2.1 ((packS true (labP r.fName) fb pl).1 ++ hdrR r ++ [x, y] ++ bytesI (partsP r.fType r.fData).1) (packS true (labP r.fName) fb pl).2).1 ++ bytesI (partsP r.fType r.fData).2.2.1,
      (packsN (partsP r.fType r.fData).2.1 ((packS true (labP r.fName) fb pl).1 ++ hdrR r ++ [x, y] ++ bytesI (partsP r.fType r.fData).1) (packS true (labP r.fName) fb pl).2).2)
  else ((packS true (labP r.fName) fb pl).1 ++ hdrR r ++ [x, y] ++ bytesI r.fData, (packS true (labP r.fName) fb pl).2)
theorem bodyP_uni (r : GRR) (fb : List Int) (pl : List (ByteArray × Int)) : ∃ u v, ∀ x y, bodyP r fb pl x y = ((packS true (labP r.fName) fb pl).1 ++ hdrR r ++ [x, y] ++ u, v) := by
  by_cases hn : (shp r.fType).2.2.2 = true
  · obtain ⟨u, v, h⟩ := packsN_uni (partsP r.fType r.fData).2.1 ((packS true (labP r.fName) fb pl).1.length + 10 + (partsP r.fType r.fData).1.size) (packS true (labP r.fName) fb pl).2
    refine ⟨bytesI (partsP r.fType r.fData).1 ++ u ++ bytesI (partsP r.fType r.fData).2.2.1, v, fun x y => ?_⟩
    rw [bodyP, if_pos hn, h _ (by simp [hdrR_len, ← size_bytes]; omega)]
    simp
  · refine ⟨bytesI r.fData, (packS true (labP r.fName) fb pl).2, fun x y => ?_⟩
    rw [bodyP, if_neg hn]
/-- May a record be put? -/
def goodR (r : GRR) : Prop := isNm r.fName ∧ r.fData.size ≤ 2000 ∧ rightP r.fType r.fData = true ∧ (0 ≤ r.fType ∧ r.fType ≤ 65535) ∧ (0 ≤ r.fClass ∧ r.fClass ≤ 65535) ∧ (0 ≤ r.fTTL ∧ r.fTTL ≤ 4294967295)
theorem shp_names (t : Int) : (shp t).2.1.toNat ≤ 2 ∧ (shp t).1 ≤ 2 ∧ (shp t).2.2.1 ≤ 20 := by rcases shp_cases t with h | h | h | h <;> rw [h] <;> simp
theorem bodyP_len {r : GRR} (hr : goodR r) {fb : List Int} {pl : List (ByteArray × Int)} (hpl : okPl pl) (x y : Int) :
    okPl (bodyP r fb pl x y).2 ∧ (bodyP r fb pl x y).1.length ≤ (packS true (labP r.fName) fb pl).1.length + 10 + 3000 ∧ (bodyP r fb pl x y).1.length ≤ fb.length + 4000 ∧ (bodyP r fb pl x y).2.length ≤ pl.length + 1000 := by
  obtain ⟨h1, h2, h3, h4⟩ := isNm_lab hr.1
  have a1 := packS_len (pts := true) (labP r.fName) fb pl
  have a2 := packS_plen (pts := true) (labP r.fName) fb pl
  have a3 := len_enc (labP r.fName)
  have a4 := packS_pl (pts := true) (labP r.fName) fb pl h1.1 h4 hpl
  by_cases hn : (shp r.fType).2.2.2 = true
  · have hr3 := hr.2.2.1
    rw [rightP, if_pos hn] at hr3
    obtain ⟨p1, p2, p3, p4, p5⟩ := parts_ok hn hr3
    have hs := shp_names r.fType
    obtain ⟨b1, b2, b3⟩ := packsN_ok (partsP r.fType r.fData).2.1 ((packS true (labP r.fName) fb pl).1 ++ hdrR r ++ [x, y] ++ bytesI (partsP r.fType r.fData).1) (packS true (labP r.fName) fb pl).2 p2 a4
    rw [bodyP, if_pos hn]
    simp only [List.length_append, hdrR_len, List.length_cons, List.length_nil, ← size_bytes] at b2 ⊢
    exact ⟨b1, by omega, by omega, by omega⟩
  · rw [bodyP, if_neg hn]
    have := hr.2.1
    simp only [List.length_append, hdrR_len, List.length_cons, List.length_nil, ← size_bytes]
    exact ⟨a4, by omega, by omega, by omega⟩
noncomputable def sizeP (r : GRR) (fb : List Int) (pl : List (ByteArray × Int)) : Int := ((bodyP r fb pl 0 0).1.length : Int) - ((packS true (labP r.fName) fb pl).1.length + 8 : Int) - 2
noncomputable def putP (r : GRR) (fb : List Int) (pl : List (ByteArray × Int)) : List Int × List (ByteArray × Int) := bodyP r fb pl (sizeP r fb pl / 256) (sizeP r fb pl % 256)
theorem patch_eq {a : Nat} {v : Int} {fb : List Int} {pl : List (ByteArray × Int)} (hv : 0 ≤ v ∧ v ≤ 65535) (ha : a + 2 ≤ fb.length) (hfb : fb.length ≤ 1000000000) :
    m_pack_Packer_Patch (a : Int) v ⟨fb, pl⟩ = some (0, ⟨fb.take a ++ [v / 256, v % 256] ++ fb.drop (a + 2), pl⟩) := by
  rw [m_pack_Packer_Patch, if_neg (by omega)]
  simp only
  rw [w64_id (x := (fb.length : Int) - 2) (by omega) (by omega), if_neg (by omega), at_nat (by omega), Option.bind_some, wrapu8 (x := v / 256) (by omega) (by omega), setAt, if_pos ⟨by omega, by omega⟩, Option.bind_some, w64_id (by omega) (by omega), wu8_eq]
  simp only [Int.toNat_natCast]
  rw [show (a : Int) + 1 = ((a + 1 : Nat) : Int) by omega, at_nat (by rw [List.length_set]; omega), Option.bind_some, setAt, if_pos ⟨by omega, by rw [List.length_set]; omega⟩, Option.bind_some, Int.toNat_natCast, set_two fb a _ _ ha]
theorem body_patch (r : GRR) (fb : List Int) (pl : List (ByteArray × Int)) (x y : Int) : (bodyP r fb pl 0 0).1.take ((packS true (labP r.fName) fb pl).1.length + 8) ++ [x, y] ++ (bodyP r fb pl 0 0).1.drop ((packS true (labP r.fName) fb pl).1.length + 8 + 2) = (bodyP r fb pl x y).1 ∧ (bodyP r fb pl 0 0).2 = (bodyP r fb pl x y).2 ∧
    (packS true (labP r.fName) fb pl).1.length + 8 + 2 ≤ (bodyP r fb pl 0 0).1.length := by
  obtain ⟨u, v, h⟩ := bodyP_uni r fb pl
  rw [h 0 0, h x y]
  have hl : ((packS true (labP r.fName) fb pl).1 ++ hdrR r).length = (packS true (labP r.fName) fb pl).1.length + 8 := by simp [hdrR_len]
  refine ⟨?_, rfl, by simp [hdrR_len]; omega⟩
  simp only
  rw [← hl, List.append_assoc _ [0, 0] u, List.take_left, show ((packS true (labP r.fName) fb pl).1 ++ hdrR r).length + 2 = (((packS true (labP r.fName) fb pl).1 ++ hdrR r) ++ [0, 0]).length by simp; omega, ← List.append_assoc _ [0, 0] u, List.drop_left]
theorem put_loop {x : Grecord_parts} (hx : x.fnames.length ≤ 1000) (hn : ∀ n ∈ x.fnames, isNm n) : ∀ (ns pre : List ByteArray) (fb : List Int) (pl : List (ByteArray × Int)), x.fnames = pre ++ ns → okPl pl → fb.length + 255 * ns.length ≤ 1000000000 →
    loop (fun s => m_record_Put_s3 x s.1 s.2.1 s.2.2) (fb, pl, (pre.length : Int)) = some ((packsN ns fb pl).1, (packsN ns fb pl).2) := by
  intro ns
  induction ns with
  | nil =>
    intro pre fb pl h hpl hfb
    rw [List.append_nil] at h
    rw [loop_inr (by simp only [m_record_Put_s3]; rw [if_neg (by rw [h]; omega)])]; rfl
  | cons n ns ih =>
    intro pre fb pl h hpl hfb
    have hlen : x.fnames.length = pre.length + (ns.length + 1) := by rw [h]; simp
    have hat : at_ x.fnames (pre.length : Int) = some n := by rw [at_nat (by omega)]; simp [h]
    have hnm := hn n (by rw [h]; simp)
    obtain ⟨h1, h2, h3, h4⟩ := isNm_lab hnm
    have a1 := packS_len (pts := true) (labP n) fb pl
    have hst := m_record_Put_s3.eq_def x fb pl (pre.length : Int)
    rw [if_pos (by omega), hat, Option.bind_some, pname_lab hnm hpl (by omega), Option.bind_some, w64_id (by omega) (by omega)] at hst
    have := ih (pre ++ [n]) (packS true (labP n) fb pl).1 (packS true (labP n) fb pl).2 (by rw [h]; simp) (packS_pl _ fb pl h1.1 h4 hpl) (by simp only [List.length_cons] at hfb; omega)
    rw [show (((pre ++ [n]).length : Nat) : Int) = (pre.length : Int) + 1 by simp] at this
    rw [loop_inl hst, packsN]
    exact this
theorem rput_loop {l : List ByteArray} (hx : l.length ≤ 1000) (hn : ∀ n ∈ l, isNm n) : ∀ (ns pre : List ByteArray) (B : ByteArray) (L : List Gref04_Place), l = pre ++ ns → okPl (plOf L) → B.size + 255 * ns.length ≤ 1000000000 → L.length + 255 * ns.length ≤ 1000000000 →
    ∃ B' L', loop (fun s => m_ref05_Put_s3 l s.1 s.2.1 s.2.2) (L, (pre.length : Int), B) = some (L', B') ∧ bytesI B' = (packsN ns (bytesI B) (plOf L)).1 ∧ plOf L' = (packsN ns (bytesI B) (plOf L)).2 := by
  intro ns
  induction ns with
  | nil =>
    intro pre B L h hpl hfb hL
    rw [List.append_nil] at h
    refine ⟨B, L, loop_inr (by simp only [m_ref05_Put_s3]; rw [if_neg (by rw [h]; omega)]), rfl, rfl⟩
  | cons n ns ih =>
    intro pre B L h hpl hfb hL
    have hlen : l.length = pre.length + (ns.length + 1) := by rw [h]; simp
    have hat : at_ l (pre.length : Int) = some n := by rw [at_nat (by omega)]; simp [h]
    have hnm := hn n (by rw [h]; simp)
    obtain ⟨h1, h2, h3, h4⟩ := isNm_lab hnm
    have a1 := packS_len (pts := true) (labP n) (bytesI B) (plOf L)
    have a2 := packS_plen (pts := true) (labP n) (bytesI B) (plOf L)
    have a3 := len_enc (labP n)
    have hBs := size_bytes B
    obtain ⟨B1, L1, e1, e2, e3⟩ := rpname_lab (pts := true) hnm (rfl : bytesI B = bytesI B) hpl (by omega) (by omega)
    have hst := m_ref05_Put_s3.eq_def l L (pre.length : Int) B
    rw [if_pos (by omega), hat, Option.bind_some, e1, Option.bind_some, w64_id (by omega) (by omega)] at hst
    have hB1 : B1.size = (packS true (labP n) (bytesI B) (plOf L)).1.length := by rw [size_bytes, e2]
    have hL1 : L1.length = (packS true (labP n) (bytesI B) (plOf L)).2.length := by rw [← e3]; simp [plOf]
    have hL0 : (plOf L).length = L.length := by simp [plOf]
    simp only [List.length_cons] at hfb hL
    obtain ⟨B', L', f1, f2, f3⟩ := ih (pre ++ [n]) B1 L1 (by rw [h]; simp) (by rw [e3]; exact packS_pl _ _ _ h1.1 h4 hpl) (by omega) (by omega)
    rw [show (((pre ++ [n]).length : Nat) : Int) = (pre.length : Int) + 1 by simp] at f1
    refine ⟨B', L', (loop_inl hst).trans f1, ?_, ?_⟩
    · rw [f2, e2, e3]; rfl
    · rw [f3, e2, e3]; rfl
theorem put_ok {r : GRR} (hr : goodR r) {fb : List Int} {pl : List (ByteArray × Int)} (hpl : okPl pl) (hfb : fb.length ≤ 100000000) : m_record_Put r ⟨fb, pl⟩ = some (0, ⟨(putP r fb pl).1, (putP r fb pl).2⟩) := by
  obtain ⟨hnm, hd, hri, ht, hc, hl⟩ := id hr
  obtain ⟨h1, h2, h3, h4⟩ := isNm_lab hnm
  have a1 := packS_len (pts := true) (labP r.fName) fb pl
  have a4 := packS_pl (pts := true) (labP r.fName) fb pl h1.1 h4 hpl
  obtain ⟨e, k1, k3⟩ := check_code (r := r) (by omega) (by omega)
  obtain ⟨b1, b2, b3, b4⟩ := bodyP_len hr (fb := fb) hpl 0 0
  obtain ⟨c1, c2, c3⟩ := body_patch r fb pl (sizeP r fb pl / 256) (sizeP r fb pl % 256)
  have he : e = 0 := k3.2 ⟨hnm, hd, hri⟩
  have hsz : 0 ≤ sizeP r fb pl ∧ sizeP r fb pl ≤ 65535 := by unfold sizeP; omega
  have hj1 : m_record_Put_j1 (((packS true (labP r.fName) fb pl).1.length + 8 : Nat) : Int) (bodyP r fb pl 0 0).1 (bodyP r fb pl 0 0).2 = some (0, ⟨(putP r fb pl).1, (putP r fb pl).2⟩) := by
    rw [m_record_Put_j1, m_pack_Packer_Len, Option.bind_some]
    simp only
    rw [w64_id (x := ((bodyP r fb pl 0 0).1.length : Int) - _) (by omega) (by omega), w64_id (by omega) (by omega), show ((bodyP r fb pl 0 0).1.length : Int) - (((packS true (labP r.fName) fb pl).1.length + 8 : Nat) : Int) - 2 = sizeP r fb pl by unfold sizeP; omega, wrapu16 hsz.1 hsz.2, patch_eq hsz (by omega) (by omega), Option.bind_some, c1, c2]
    rfl
  rw [m_record_Put, k1, Option.bind_some, if_neg (fun h => h he), pname_lab hnm hpl (by omega), Option.bind_some]
  simp only
  rw [m_pack_Packer_Word, wu8_eq, wu8_eq, put_eq (by simp; omega), Option.bind_some, Option.bind_some, m_pack_Packer_Word, wu8_eq, wu8_eq, put_eq (by simp; omega), Option.bind_some, Option.bind_some, m_pack_Packer_Long, wu8_eq, wu8_eq, wu8_eq, wu8_eq, put_eq (by simp; omega), Option.bind_some, Option.bind_some,
    m_pack_Packer_Len, Option.bind_some, m_pack_Packer_Word, put_eq (by simp; omega), Option.bind_some, Option.bind_some, shapeOf_eq, Option.bind_some]
  have hh : (packS true (labP r.fName) fb pl).1 ++ [r.fType / 256 % 256, r.fType % 256] ++ [r.fClass / 256 % 256, r.fClass % 256] ++ [r.fTTL / 16777216 % 256, r.fTTL / 65536 % 256, r.fTTL / 256 % 256, r.fTTL % 256] = (packS true (labP r.fName) fb pl).1 ++ hdrR r := by simp [hdrR]
  have hhl : ((packS true (labP r.fName) fb pl).1 ++ hdrR r).length = (packS true (labP r.fName) fb pl).1.length + 8 := by simp [hdrR_len]
  have h0 : (0 < (shp r.fType).2.1 ↔ (shp r.fType).2.2.2 = true) := by rcases shp_cases r.fType with h | h | h | h <;> rw [h] <;> simp
  rw [hh]
  simp only
  have w0 : [IntKind.u8.wrap (0 / 256), IntKind.u8.wrap 0] = [(0 : Int), 0] := by decide
  rw [w0, hhl]
  by_cases hn : (shp r.fType).2.2.2 = true
  · have hr3 := hri
    rw [rightP, if_pos hn] at hr3
    obtain ⟨p1, p2, p3, p4, p5⟩ := parts_ok hn hr3
    have hs := shp_names r.fType
    rw [if_pos (h0.2 hn), cut_eq (by omega), Option.bind_some]
    simp only
    rw [m_pack_Packer_Raw, put_eq (by simp [hdrR_len, ← size_bytes]; omega), Option.bind_some, Option.bind_some]
    obtain ⟨q1, q2, q3⟩ := packsN_ok (partsP r.fType r.fData).2.1 ((packS true (labP r.fName) fb pl).1 ++ hdrR r ++ [0, 0] ++ bytesI (partsP r.fType r.fData).1) (packS true (labP r.fName) fb pl).2 p2 a4
    have hlp := put_loop (x := ⟨(partsP r.fType r.fData).1, (partsP r.fType r.fData).2.2.1, (partsP r.fType r.fData).2.1⟩) (by simp only; omega) p2 (partsP r.fType r.fData).2.1 [] ((packS true (labP r.fName) fb pl).1 ++ hdrR r ++ [0, 0] ++ bytesI (partsP r.fType r.fData).1) (packS true (labP r.fName) fb pl).2 rfl a4 (by simp [hdrR_len, ← size_bytes]; omega)
    erw [hlp]
    rw [Option.bind_some, m_record_Put_j2, m_pack_Packer_Raw]
    simp only [List.length_append, hdrR_len, List.length_cons, List.length_nil, ← size_bytes] at q2
    rw [put_eq (by simp only [← size_bytes]; omega), Option.bind_some, Option.bind_some]
    rw [bodyP, if_pos hn] at hj1
    exact hj1
  · rw [if_neg (fun h => hn (h0.1 h)), m_pack_Packer_Raw, put_eq (by simp [hdrR_len, ← size_bytes]; omega), Option.bind_some, Option.bind_some]
    rw [bodyP, if_neg hn] at hj1
    exact hj1
open Go.RowKit
open Go.RowKit
theorem names_ok {r : GRR} (hd : r.fData.size ≤ 1099511627776) (h : rightP r.fType r.fData = true) (hn : (shp r.fType).2.2.2 = true) : (partsP r.fType r.fData).2.2.2 = true := by rwa [rightP, if_pos hn] at h
theorem rpatch_eq {a : Nat} {v : Int} {fb : List Int} {B : ByteArray} {L : List Gref04_Place} (hB : bytesI B = fb) (hv : 0 ≤ v ∧ v ≤ 65535) (ha : a + 2 ≤ fb.length) (hfb : fb.length ≤ 1000000000) :
    ∃ B', m_ref04_Packer_Patch (a : Int) v ⟨B, L⟩ = some (0, ⟨B', L⟩) ∧ bytesI B' = fb.take a ++ [v / 256, v % 256] ++ fb.drop (a + 2) := by
  obtain ⟨e, fb', B', h1, h2, h3, -⟩ := both_patch (a := (a : Int)) (L := L) (pl := []) hv hB hfb
  rw [patch_eq hv ha hfb] at h1
  injection h1 with h1
  injection h1 with h4 h5
  injection h5 with h5
  refine ⟨B', ?_, ?_⟩
  · rw [h2, ← h4]
  · rw [h3, ← h5]
theorem rput_ok {r : GRR} (hr : goodR r) {fb : List Int} {B : ByteArray} {L : List Gref04_Place} (hB : bytesI B = fb) (hpl : okPl (plOf L)) (hfb : fb.length ≤ 100000000) (hL : L.length ≤ 100000000) :
    ∃ B' L', m_ref05_Put r ⟨B, L⟩ = some (0, ⟨B', L'⟩) ∧ bytesI B' = (putP r fb (plOf L)).1 ∧ plOf L' = (putP r fb (plOf L)).2 := by
  obtain ⟨hnm, hd, hri, ht, hc, hl⟩ := id hr
  obtain ⟨h1, h2, h3, h4⟩ := isNm_lab hnm
  have a1 := packS_len (pts := true) (labP r.fName) fb (plOf L)
  have a2 := packS_plen (pts := true) (labP r.fName) fb (plOf L)
  have a3 := len_enc (labP r.fName)
  have a4 := packS_pl (pts := true) (labP r.fName) fb (plOf L) h1.1 h4 hpl
  obtain ⟨e, -, k1, k3⟩ := check_both (r := r) (by omega) (by omega)
  obtain ⟨b1, b2, b3, b4⟩ := bodyP_len hr (fb := fb) hpl 0 0
  obtain ⟨c1, c2, c3⟩ := body_patch r fb (plOf L) (sizeP r fb (plOf L) / 256) (sizeP r fb (plOf L) % 256)
  have he : e = 0 := k3.2 ⟨hnm, hd, hri⟩
  have hsz : 0 ≤ sizeP r fb (plOf L) ∧ sizeP r fb (plOf L) ≤ 65535 := by unfold sizeP; omega
  obtain ⟨B1, L1, n1, n2, n3⟩ := rpname_lab (pts := true) hnm hB hpl (by omega) (by omega)
  have hB1 : B1.size = (packS true (labP r.fName) fb (plOf L)).1.length := by rw [size_bytes, n2]
  have hL1 : L1.length = (packS true (labP r.fName) fb (plOf L)).2.length := by rw [← n3]; simp [plOf]
  have hL0 : (plOf L).length = L.length := by simp [plOf]
  obtain ⟨B2, m1, m2⟩ := rnum2 (v := r.fType) (o := ⟨B1, L1⟩) (by simp only; omega)
  have hB2 : B2.size = (packS true (labP r.fName) fb (plOf L)).1.length + 2 := by rw [size_bytes, m2, n2]; simp
  obtain ⟨B3, m3, m4⟩ := rnum2 (v := r.fClass) (o := ⟨B2, L1⟩) (by simp only; omega)
  have hB3 : B3.size = (packS true (labP r.fName) fb (plOf L)).1.length + 4 := by rw [size_bytes, m4]; simp only; rw [List.length_append, ← size_bytes, hB2]; rfl
  obtain ⟨B4, m5, m6⟩ := rnum4 (v := r.fTTL) (o := ⟨B3, L1⟩) (by simp only; omega)
  have hB4 : B4.size = (packS true (labP r.fName) fb (plOf L)).1.length + 8 := by rw [size_bytes, m6]; simp only; rw [List.length_append, ← size_bytes, hB3]; rfl
  obtain ⟨B5, m7, m8⟩ := rnum2 (v := 0) (o := ⟨B4, L1⟩) (by simp only; omega)
  have hB5 : B5.size = (packS true (labP r.fName) fb (plOf L)).1.length + 10 := by rw [size_bytes, m8]; simp only; rw [List.length_append, ← size_bytes, hB4]; rfl
  have hb5 : bytesI B5 = (packS true (labP r.fName) fb (plOf L)).1 ++ hdrR r ++ [0, 0] := by
    rw [m8]; simp only; rw [m6]; simp only; rw [m4]; simp only; rw [m2]; simp only; rw [n2]; simp [hdrR]
  have hj1 : ∀ (S : ByteArray) (L' : List Gref04_Place), bytesI S = (bodyP r fb (plOf L) 0 0).1 → plOf L' = (bodyP r fb (plOf L) 0 0).2 →
      ∃ B' L'', m_ref05_Put_j1 ⟨B4, L1⟩ L' S = some (0, ⟨B', L''⟩) ∧ bytesI B' = (putP r fb (plOf L)).1 ∧ plOf L'' = (putP r fb (plOf L)).2 := by
    intro S L' hS hL'
    have hSz : S.size = (bodyP r fb (plOf L) 0 0).1.length := by rw [size_bytes, hS]
    obtain ⟨B', q1, q2⟩ := rpatch_eq (a := (packS true (labP r.fName) fb (plOf L)).1.length + 8) (L := L') hS hsz (by omega) (by omega)
    refine ⟨B', L', ?_, ?_, ?_⟩
    · rw [m_ref05_Put_j1]
      simp only
      rw [hB4, w64_id (x := (S.size : Int) - _) (by omega) (by omega), w64_id (by omega) (by omega), show (S.size : Int) - (((packS true (labP r.fName) fb (plOf L)).1.length + 8 : Nat) : Int) - 2 = sizeP r fb (plOf L) by unfold sizeP; omega, wrapu16 hsz.1 hsz.2, q1]
      rfl
    · rw [q2, c1]; rfl
    · rw [hL', c2]; rfl
  rw [m_ref05_Put, k1, Option.bind_some, if_neg (fun h => h he), n1, Option.bind_some]
  simp only
  rw [w64_id (x := r.fType) (by omega) (by omega), m1, Option.bind_some, w64_id (x := r.fClass) (by omega) (by omega), m3, Option.bind_some, w64_id (x := r.fTTL) (by omega) (by omega), m5, Option.bind_some, m7, Option.bind_some, names_of (by omega), Option.bind_some]
  by_cases hn : (shp r.fType).2.2.2 = true
  · have hok := names_ok (by omega) hri hn
    obtain ⟨p1, p2, p3, p4, p5⟩ := parts_ok hn hok
    have hs := shp_names r.fType
    rw [if_pos hn, if_pos hok]
    simp only
    rw [sadd_of (by omega), Option.bind_some]
    have hBa : bytesI (B5 ++ (partsP r.fType r.fData).1) = (packS true (labP r.fName) fb (plOf L)).1 ++ hdrR r ++ [0, 0] ++ bytesI (partsP r.fType r.fData).1 := by rw [bytesI_append, hb5]
    obtain ⟨q1, q2, q3⟩ := packsN_ok (partsP r.fType r.fData).2.1 ((packS true (labP r.fName) fb (plOf L)).1 ++ hdrR r ++ [0, 0] ++ bytesI (partsP r.fType r.fData).1) (packS true (labP r.fName) fb (plOf L)).2 p2 a4
    obtain ⟨B6, L6, w1, w2, w3⟩ := rput_loop (l := (partsP r.fType r.fData).2.1) (by omega) p2 (partsP r.fType r.fData).2.1 [] (B5 ++ (partsP r.fType r.fData).1) L1 rfl (by rw [n3]; exact a4) (by rw [ByteArray.size_append]; omega) (by omega)
    rw [hBa, n3] at w2 w3
    have hB6 : B6.size ≤ (packS true (labP r.fName) fb (plOf L)).1.length + 10 + 2 + 255 * 2 := by
      rw [size_bytes, w2]
      simp only [List.length_append, hdrR_len, List.length_cons, List.length_nil, ← size_bytes] at q2
      omega
    erw [w1]
    rw [Option.bind_some, m_ref05_Put_j2]
    simp only
    rw [sadd_of (by omega), Option.bind_some]
    refine hj1 _ _ ?_ ?_
    · rw [bytesI_append, w2, bodyP, if_pos hn]
    · rw [w3, bodyP, if_pos hn]
  · rw [if_neg hn, if_neg (by simp), sadd_of (by simp only; omega), Option.bind_some]
    refine hj1 _ _ ?_ ?_
    · rw [bytesI_append, hb5, bodyP, if_neg hn]
    · rw [n3, bodyP, if_neg hn]
theorem put_bad {r : GRR} {e : Int} (h : m_record_Check r = some e) (he : e ≠ 0) (o : Gpack_Packer) : m_record_Put r o = some (e, o) := by
  rw [m_record_Put, h, Option.bind_some, if_pos he]
theorem rput_bad {r : GRR} {e : Int} (h : m_ref05_Check r = some e) (he : e ≠ 0) (o : Gref04_Packer) : m_ref05_Put r o = some (e, o) := by
  rw [m_ref05_Put, h, Option.bind_some, if_pos he]
open Go.RowKit
open Go.RowKit
theorem pname_bad {pts : Bool} {n : ByteArray} {e : Int} {o : Gpack_Packer} (h : m_name_Check n = some e) (he : e ≠ 0) : m_pack_Packer_Name n pts o = some (e, o) := by
  rw [m_pack_Packer_Name, h, Option.bind_some, if_pos he]
open Go.RowKit
open Go.RowKit
theorem or_bitN (k hi lo : Nat) (hlo : lo < 2 ^ k) : (hi * 2 ^ (k + 1) + lo) ||| 2 ^ k = hi * 2 ^ (k + 1) + 2 ^ k + lo := by
  have hp : 2 ^ (k + 1) = 2 ^ k + 2 ^ k := by rw [Nat.pow_succ]; omega
  have e1 := Nat.two_pow_add_eq_or_of_lt (i := k + 1) (b := lo) (by omega) hi
  have e2 := Nat.two_pow_add_eq_or_of_lt (i := k) (b := lo) hlo 1
  have e3 := Nat.two_pow_add_eq_or_of_lt (i := k + 1) (b := 2 ^ k + lo) (by omega) hi
  rw [Nat.mul_one] at e2
  rw [Nat.mul_comm hi, e1, Nat.or_assoc, Nat.or_comm lo, ← e2, ← e3]
  omega
theorem orI_u16 {a b c : Nat} (ha : a < 65536) (hb : b < 65536) (h : a ||| b = c) (hc : c < 65536) : orI .u16 (a : Int) (b : Int) = (c : Int) := by
  unfold orI
  have e1 : BitVec.ofInt IntKind.u16.bits (a : Int) = BitVec.ofNat 16 a := BitVec.ofInt_natCast ..
  have e2 : BitVec.ofInt IntKind.u16.bits (b : Int) = BitVec.ofNat 16 b := BitVec.ofInt_natCast ..
  rw [e1, e2]
  have h3 : ((BitVec.ofNat 16 a ||| BitVec.ofNat 16 b).toNat : Nat) = c := by
    rw [BitVec.toNat_or, BitVec.toNat_ofNat, BitVec.toNat_ofNat, Nat.mod_eq_of_lt (by omega), Nat.mod_eq_of_lt (by omega), h]
  have e : IntKind.u16.wrap (((BitVec.ofNat 16 a ||| BitVec.ofNat 16 b).toNat : Nat) : Int) = IntKind.u16.wrap (c : Int) := congrArg (fun z : Nat => IntKind.u16.wrap (z : Int)) h3
  exact e.trans (wrapu16 (by omega) (by omega))
theorem orI_i64 {a b c : Nat} (ha : a < 4294967296) (hb : b < 4294967296) (h : a ||| b = c) (hc : c < 4294967296) : orI .i64 (a : Int) (b : Int) = (c : Int) := by
  unfold orI
  have e1 : BitVec.ofInt IntKind.i64.bits (a : Int) = BitVec.ofNat 64 a := BitVec.ofInt_natCast ..
  have e2 : BitVec.ofInt IntKind.i64.bits (b : Int) = BitVec.ofNat 64 b := BitVec.ofInt_natCast ..
  rw [e1, e2]
  have h3 : ((BitVec.ofNat 64 a ||| BitVec.ofNat 64 b).toNat : Nat) = c := by
    rw [BitVec.toNat_or, BitVec.toNat_ofNat, BitVec.toNat_ofNat, Nat.mod_eq_of_lt (by omega), Nat.mod_eq_of_lt (by omega), h]
  have e : IntKind.i64.wrap (((BitVec.ofNat 64 a ||| BitVec.ofNat 64 b).toNat : Nat) : Int) = IntKind.i64.wrap (c : Int) := congrArg (fun z : Nat => IntKind.i64.wrap (z : Int)) h3
  exact e.trans (wrap64 (by omega) (by omega))
def bI (b : Bool) : Int := if b = true then 1 else 0
theorem bI_range (b : Bool) : 0 ≤ bI b ∧ bI b ≤ 1 := by cases b <;> simp [bI]
theorem bit_eq (b : Bool) : m_ref06_bit b = some (bI b) := by cases b <;> rfl
theorem put_bit {x : Int} {k hi lo : Nat} (hx : x = ((hi * 2 ^ (k + 1) + lo : Nat) : Int)) (hlo : lo < 2 ^ k) (hs : hi * 2 ^ (k + 1) + 2 ^ k + lo < 65536) (b : Bool) : m_message_flags_put x ((2 ^ k : Nat) : Int) b = some (x + bI b * ((2 ^ k : Nat) : Int)) := by
  rw [m_message_flags_put]
  have hk : 0 < 2 ^ k := Nat.two_pow_pos k
  cases b with
  | false => simp [bI]
  | true =>
    rw [if_pos rfl, hx, orI_u16 (by omega) (by omega) (or_bitN k hi lo hlo) (by omega)]
    simp only [bI]
    congr 1
    simp only [if_true]
    omega
/-- A head's second word. -/
def bitsP (m : GMessage) : Int := bI m.fResponse * 32768 + m.fOpcode * 2048 + bI m.fAuthoritative * 1024 + bI m.fTruncated * 512 + bI m.fDesired * 256 + bI m.fAvailable * 128 + m.fCode
theorem bits_eq {m : GMessage} (ho : 0 ≤ m.fOpcode ∧ m.fOpcode ≤ 15) (hc : 0 ≤ m.fCode ∧ m.fCode ≤ 15) {β : Type} (k : Int → Option β) :
    ((m_message_flags_put (IntKind.u16.wrap (orI .i64 (w64 (m.fOpcode * 2048)) m.fCode)) 32768 m.fResponse).bind fun x45 =>
      (m_message_flags_put x45 1024 m.fAuthoritative).bind fun x47 =>
      (m_message_flags_put x47 512 m.fTruncated).bind fun x49 =>
      (m_message_flags_put x49 256 m.fDesired).bind fun x51 =>
      (m_message_flags_put x51 128 m.fAvailable).bind k) = k (bitsP m) := by
  obtain ⟨o, ho'⟩ := Int.eq_ofNat_of_zero_le ho.1
  obtain ⟨c, hc'⟩ := Int.eq_ofNat_of_zero_le hc.1
  have b1 := bI_range m.fResponse
  have b2 := bI_range m.fAuthoritative
  have b3 := bI_range m.fTruncated
  have b4 := bI_range m.fDesired
  obtain ⟨r1, hr1⟩ := Int.eq_ofNat_of_zero_le b1.1
  obtain ⟨r2, hr2⟩ := Int.eq_ofNat_of_zero_le b2.1
  obtain ⟨r3, hr3⟩ := Int.eq_ofNat_of_zero_le b3.1
  obtain ⟨r4, hr4⟩ := Int.eq_ofNat_of_zero_le b4.1
  have h0 : orI .i64 (w64 (m.fOpcode * 2048)) m.fCode = ((o * 2048 + c : Nat) : Int) := by
    rw [w64_id (by omega) (by omega), ho', hc', show (o : Int) * 2048 = ((o * 2048 : Nat) : Int) by omega]
    refine orI_i64 (by omega) (by omega) ?_ (by omega)
    have := Nat.two_pow_add_eq_or_of_lt (i := 11) (b := c) (by omega) o
    rw [show (2 : Nat) ^ 11 = 2048 by decide] at this
    rw [Nat.mul_comm o, ← this]
  rw [h0, wrapu16 (by omega) (by omega)]
  have p1 := put_bit (x := ((o * 2048 + c : Nat) : Int)) (k := 15) (hi := 0) (lo := o * 2048 + c) (by omega) (by omega) (by omega) m.fResponse
  have p2 := put_bit (x := ((o * 2048 + c : Nat) : Int) + bI m.fResponse * 32768) (k := 10) (hi := r1 * 16 + o) (lo := c) (by omega) (by omega) (by omega) m.fAuthoritative
  have p3 := put_bit (x := ((o * 2048 + c : Nat) : Int) + bI m.fResponse * 32768 + bI m.fAuthoritative * 1024) (k := 9) (hi := (r1 * 16 + o) * 2 + r2) (lo := c) (by omega) (by omega) (by omega) m.fTruncated
  have p4 := put_bit (x := ((o * 2048 + c : Nat) : Int) + bI m.fResponse * 32768 + bI m.fAuthoritative * 1024 + bI m.fTruncated * 512) (k := 8) (hi := ((r1 * 16 + o) * 2 + r2) * 2 + r3) (lo := c) (by omega) (by omega) (by omega) m.fDesired
  have p5 := put_bit (x := ((o * 2048 + c : Nat) : Int) + bI m.fResponse * 32768 + bI m.fAuthoritative * 1024 + bI m.fTruncated * 512 + bI m.fDesired * 256) (k := 7) (hi := (((r1 * 16 + o) * 2 + r2) * 2 + r3) * 2 + r4) (lo := c) (by omega) (by omega) (by omega) m.fAvailable
  erw [p1]
  rw [Option.bind_some]
  erw [p2]
  rw [Option.bind_some]
  erw [p3]
  rw [Option.bind_some]
  erw [p4]
  rw [Option.bind_some]
  erw [p5]
  rw [Option.bind_some]
  congr 1
  unfold bitsP
  simp only [show ((2 ^ 15 : Nat) : Int) = 32768 by decide, show ((2 ^ 10 : Nat) : Int) = 1024 by decide, show ((2 ^ 9 : Nat) : Int) = 512 by decide, show ((2 ^ 8 : Nat) : Int) = 256 by decide, show ((2 ^ 7 : Nat) : Int) = 128 by decide]
  omega
open Go.RowKit
open Classical in
/-- What the check of a name says. -/
noncomputable def errN (n : ByteArray) : Int := if isNm n then 0 else if ∃ ls, Nm n ls then 11 else 10
theorem errN_iff {n : ByteArray} : errN n = 0 ↔ isNm n := by
  unfold errN
  split
  · exact ⟨fun _ => by assumption, fun _ => rfl⟩
  · rename_i h
    split <;> exact ⟨fun h' => by omega, fun h' => absurd h' h⟩
theorem errN_code {n : ByteArray} (hb : n.size ≤ 1099511627776) : m_name_Check n = some (errN n) := by
  unfold errN
  by_cases h : isNm n
  · obtain ⟨ls, h1, h2⟩ := id h
    rw [if_pos h, check_nm h1 h2]
  · rw [if_neg h]
    by_cases h2 : ∃ ls, Nm n ls
    · obtain ⟨ls, h3⟩ := id h2
      rw [if_pos h2, check_big h3 (Classical.byContradiction fun hc => h ⟨ls, h3, by omega⟩) hb]
    · rw [if_neg h2, check_no h2 hb]
theorem errN_ref {n : ByteArray} (hb : n.size ≤ 1099511627776) : m_ref03_Check n = some (errN n) := by
  unfold errN
  by_cases h : isNm n
  · obtain ⟨ls, h1, h2⟩ := id h
    rw [if_pos h, rcheck_nm h1 h2]
  · rw [if_neg h]
    by_cases h2 : ∃ ls, Nm n ls
    · obtain ⟨ls, h3⟩ := id h2
      have hs : 255 < n.size := Classical.byContradiction fun hc => h ⟨ls, h3, by omega⟩
      rw [if_pos h2, rcheck_big h3 hs hb]
    · rw [if_neg h2, rcheck_no h2 hb]
/-- What the check of a record says. -/
noncomputable def errR (r : GRR) : Int := if errN r.fName ≠ 0 then errN r.fName else if 2000 < (r.fData.size : Int) then 11 else if rightP r.fType r.fData = true then 0 else 10
theorem errR_code {r : GRR} (hn : r.fName.size ≤ 1099511627776) (hd : r.fData.size ≤ 1099511627776) : m_record_Check r = some (errR r) := by
  rw [m_record_Check, errN_code hn, Option.bind_some, errR, right_eq hd]
  split
  · rfl
  · split
    · rfl
    · rw [Option.bind_some]; split <;> rfl
theorem errR_ref {r : GRR} (hn : r.fName.size ≤ 1099511627776) (hd : r.fData.size ≤ 1099511627776) : m_ref05_Check r = some (errR r) := by
  rw [m_ref05_Check, errN_ref hn, Option.bind_some, errR, rright_eq hd]
  split
  · rfl
  · split
    · rfl
    · rw [Option.bind_some]; split <;> rfl
def okT (r : GRR) : Prop := r.fName.size ≤ 1099511627776 ∧ r.fData.size ≤ 1099511627776 ∧ (0 ≤ r.fType ∧ r.fType ≤ 65535) ∧ (0 ≤ r.fClass ∧ r.fClass ≤ 65535) ∧ (0 ≤ r.fTTL ∧ r.fTTL ≤ 4294967295)
theorem errR_good {r : GRR} (h : okT r) : errR r = 0 ↔ goodR r := by
  unfold errR
  constructor
  · intro he
    split at he
    · rename_i h1; exact absurd he h1
    · rename_i h1
      split at he
      · omega
      · split at he
        · rename_i h2 h3; exact ⟨errN_iff.1 (Classical.not_not.1 h1), by omega, h3, h.2.2.1, h.2.2.2.1, h.2.2.2.2⟩
        · omega
  · intro hg
    rw [if_neg (fun hc => hc (errN_iff.2 hg.1)), if_neg (by have := hg.2.1; omega), if_pos hg.2.2.1]
def okQ (q : GQuestion) : Prop := q.fName.size ≤ 1099511627776 ∧ (0 ≤ q.fType ∧ q.fType ≤ 65535) ∧ (0 ≤ q.fClass ∧ q.fClass ≤ 65535)
def tailQ (q : GQuestion) : List Int := [q.fType / 256 % 256, q.fType % 256, q.fClass / 256 % 256, q.fClass % 256]
theorem tailQ_len (q : GQuestion) : (tailQ q).length = 4 := rfl
/-- Questions put, up to the first that may not be. -/
noncomputable def qsP : List GQuestion → List Int → List (ByteArray × Int) → Int × List Int × List (ByteArray × Int)
  | [], fb, pl => (0, fb, pl)
  | q :: qs, fb, pl => if errN q.fName ≠ 0 then (errN q.fName, fb, pl) else qsP qs ((packS true (labP q.fName) fb pl).1 ++ tailQ q) (packS true (labP q.fName) fb pl).2
/-- Records put, up to the first that may not be. -/
noncomputable def rsP : List GRR → List Int → List (ByteArray × Int) → Int × List Int × List (ByteArray × Int)
  | [], fb, pl => (0, fb, pl)
  | r :: rs, fb, pl => if errR r ≠ 0 then (errR r, fb, pl) else rsP rs (putP r fb pl).1 (putP r fb pl).2
theorem rsP_app : ∀ (xs ys : List GRR) (fb : List Int) (pl : List (ByteArray × Int)), rsP (xs ++ ys) fb pl = if (rsP xs fb pl).1 ≠ 0 then rsP xs fb pl else rsP ys (rsP xs fb pl).2.1 (rsP xs fb pl).2.2 := by
  intro xs
  induction xs with
  | nil => intro ys fb pl; simp [rsP]
  | cons x xs ih =>
    intro ys fb pl
    rw [List.cons_append, rsP, rsP]
    by_cases h : errR x ≠ 0
    · rw [if_pos h, if_pos h, if_pos h]
    · rw [if_neg h, if_neg h, ih]
theorem qsP_ok : ∀ (qs : List GQuestion) (fb : List Int) (pl : List (ByteArray × Int)), okPl pl → okPl (qsP qs fb pl).2.2 ∧ (qsP qs fb pl).2.1.length ≤ fb.length + 300 * qs.length ∧ (qsP qs fb pl).2.2.length ≤ pl.length + 300 * qs.length := by
  intro qs
  induction qs with
  | nil => intro fb pl h; exact ⟨h, by simp [qsP], by simp [qsP]⟩
  | cons q qs ih =>
    intro fb pl h
    rw [qsP]
    by_cases he : errN q.fName ≠ 0
    · rw [if_pos he]; exact ⟨h, by simp only; omega, by simp only; omega⟩
    · obtain ⟨h1, h2, h3, h4⟩ := isNm_lab (errN_iff.1 (Classical.not_not.1 he))
      have a1 := packS_len (pts := true) (labP q.fName) fb pl
      have a2 := packS_plen (pts := true) (labP q.fName) fb pl
      have a3 := len_enc (labP q.fName)
      obtain ⟨i1, i2, i3⟩ := ih ((packS true (labP q.fName) fb pl).1 ++ tailQ q) (packS true (labP q.fName) fb pl).2 (packS_pl _ fb pl h1.1 h4 h)
      rw [if_neg he]
      simp only [List.length_append, tailQ_len, List.length_cons, List.length_nil] at i2 ⊢
      exact ⟨i1, by omega, by omega⟩
theorem rsP_ok : ∀ (rs : List GRR) (fb : List Int) (pl : List (ByteArray × Int)), (∀ r ∈ rs, okT r) → okPl pl → okPl (rsP rs fb pl).2.2 ∧ (rsP rs fb pl).2.1.length ≤ fb.length + 4000 * rs.length ∧ (rsP rs fb pl).2.2.length ≤ pl.length + 1000 * rs.length := by
  intro rs
  induction rs with
  | nil => intro fb pl _ h; exact ⟨h, by simp [rsP], by simp [rsP]⟩
  | cons r rs ih =>
    intro fb pl hr h
    rw [rsP]
    by_cases he : errR r ≠ 0
    · rw [if_pos he]; exact ⟨h, by simp only; omega, by simp only; omega⟩
    · have hg := (errR_good (hr r List.mem_cons_self)).1 (Classical.not_not.1 he)
      obtain ⟨b1, b2, b3, b4⟩ := bodyP_len hg (fb := fb) h (sizeP r fb pl / 256) (sizeP r fb pl % 256)
      obtain ⟨i1, i2, i3⟩ := ih (putP r fb pl).1 (putP r fb pl).2 (fun x hx => hr x (List.mem_cons_of_mem _ hx)) b1
      have b3 : (putP r fb pl).1.length ≤ fb.length + 4000 := b3
      have b4 : (putP r fb pl).2.length ≤ pl.length + 1000 := b4
      rw [if_neg he]
      simp only [List.length_cons] at i2 ⊢
      exact ⟨i1, by omega, by omega⟩
theorem qeach_loop {all : List GQuestion} (hl : all.length ≤ 100000) (hq : ∀ q ∈ all, okQ q) : ∀ (qs pre : List GQuestion) (fb : List Int) (pl : List (ByteArray × Int)), all = pre ++ qs → okPl pl → fb.length + 300 * qs.length ≤ 100000000 →
    ∃ o, loop (fun s => m_message_each_112_s2 all s.1 s.2.1 s.2.2) (fb, pl, (pre.length : Int)) = some (if (qsP qs fb pl).1 = 0 then .inl ((qsP qs fb pl).2.1, (qsP qs fb pl).2.2) else .inr ((qsP qs fb pl).1, o)) := by
  intro qs
  induction qs with
  | nil =>
    intro pre fb pl h hpl hfb
    rw [List.append_nil] at h
    refine ⟨⟨fb, pl⟩, ?_⟩
    rw [loop_inr (by simp only [m_message_each_112_s2]; rw [if_neg (by rw [h]; omega)])]; rfl
  | cons q qs ih =>
    intro pre fb pl h hpl hfb
    have hlen : all.length = pre.length + (qs.length + 1) := by rw [h]; simp
    have hat : at_ all (pre.length : Int) = some q := by rw [at_nat (by omega)]; simp [h]
    obtain ⟨z1, z2, z3⟩ := hq q (by rw [h]; simp)
    have hst := m_message_each_112_s2.eq_def all fb pl (pre.length : Int)
    rw [if_pos (by omega), hat, Option.bind_some, m_message_whole_c1] at hst
    simp only [List.length_cons] at hfb
    rw [qsP]
    by_cases he : errN q.fName ≠ 0
    · rw [pname_bad (errN_code z1) he, Option.bind_some] at hst
      simp only at hst
      rw [m_pack_Packer_Word, put_eq (by simp; omega), Option.bind_some, Option.bind_some, m_pack_Packer_Word, put_eq (by simp; omega), Option.bind_some, Option.bind_some, Option.bind_some, if_pos he] at hst
      rw [if_pos he]
      exact ⟨_, by rw [loop_inr hst, if_neg he]⟩
    · have hnm := errN_iff.1 (Classical.not_not.1 he)
      obtain ⟨h1, h2, h3, h4⟩ := isNm_lab hnm
      have a1 := packS_len (pts := true) (labP q.fName) fb pl
      rw [pname_lab hnm hpl (by omega), Option.bind_some] at hst
      simp only at hst
      rw [m_pack_Packer_Word, wu8_eq, wu8_eq, put_eq (by simp; omega), Option.bind_some, Option.bind_some, m_pack_Packer_Word, wu8_eq, wu8_eq, put_eq (by simp; omega), Option.bind_some, Option.bind_some, Option.bind_some, if_neg (fun h => h rfl), w64_id (by omega) (by omega)] at hst
      have e : (packS true (labP q.fName) fb pl).1 ++ [q.fType / 256 % 256, q.fType % 256] ++ [q.fClass / 256 % 256, q.fClass % 256] = (packS true (labP q.fName) fb pl).1 ++ tailQ q := by simp [tailQ]
      simp only [e] at hst
      obtain ⟨o, ho⟩ := ih (pre ++ [q]) ((packS true (labP q.fName) fb pl).1 ++ tailQ q) (packS true (labP q.fName) fb pl).2 (by rw [h]; simp) (packS_pl _ fb pl h1.1 h4 hpl) (by simp [tailQ_len]; omega)
      rw [show (((pre ++ [q]).length : Nat) : Int) = (pre.length : Int) + 1 by simp] at ho
      rw [if_neg he]
      exact ⟨o, (loop_inl hst).trans ho⟩
theorem reach_loop {all : List GRR} (hl : all.length ≤ 100000) (hr : ∀ r ∈ all, okT r) : ∀ (rs pre : List GRR) (fb : List Int) (pl : List (ByteArray × Int)), all = pre ++ rs → okPl pl → fb.length + 4000 * rs.length ≤ 100000000 →
    ∃ o, loop (fun s => m_message_each_114_s2 all s.1 s.2.1 s.2.2) (fb, pl, (pre.length : Int)) = some (if (rsP rs fb pl).1 = 0 then .inl ((rsP rs fb pl).2.1, (rsP rs fb pl).2.2) else .inr ((rsP rs fb pl).1, o)) := by
  intro rs
  induction rs with
  | nil =>
    intro pre fb pl h hpl hfb
    rw [List.append_nil] at h
    refine ⟨⟨fb, pl⟩, ?_⟩
    rw [loop_inr (by simp only [m_message_each_114_s2]; rw [if_neg (by rw [h]; omega)])]; rfl
  | cons r rs ih =>
    intro pre fb pl h hpl hfb
    have hlen : all.length = pre.length + (rs.length + 1) := by rw [h]; simp
    have hat : at_ all (pre.length : Int) = some r := by rw [at_nat (by omega)]; simp [h]
    have hok := hr r (by rw [h]; simp)
    have hst := m_message_each_114_s2.eq_def all fb pl (pre.length : Int)
    rw [if_pos (by omega), hat, Option.bind_some, m_message_whole_c2] at hst
    simp only [List.length_cons] at hfb
    rw [rsP]
    by_cases he : errR r ≠ 0
    · rw [put_bad (errR_code hok.1 hok.2.1) he, Option.bind_some, Option.bind_some, if_pos he] at hst
      rw [if_pos he]
      exact ⟨_, by rw [loop_inr hst, if_neg he]⟩
    · have hg := (errR_good hok).1 (Classical.not_not.1 he)
      obtain ⟨b1, b2, b3, b4⟩ := bodyP_len hg (fb := fb) hpl (sizeP r fb pl / 256) (sizeP r fb pl % 256)
      have b3 : (putP r fb pl).1.length ≤ fb.length + 4000 := b3
      rw [put_ok hg hpl (by omega), Option.bind_some, Option.bind_some, if_neg (fun h => h rfl), w64_id (by omega) (by omega)] at hst
      obtain ⟨o, ho⟩ := ih (pre ++ [r]) (putP r fb pl).1 (putP r fb pl).2 (by rw [h]; simp) b1 (by omega)
      rw [show (((pre ++ [r]).length : Nat) : Int) = (pre.length : Int) + 1 by simp] at ho
      rw [if_neg he]
      exact ⟨o, (loop_inl hst).trans ho⟩
open Go.RowKit
def word (v : Int) : List Int := [v / 256 % 256, v % 256]
/-- A head's bytes. -/
def hd12 (m : GMessage) : List Int := word m.fID ++ word (bitsP m) ++ word m.fQuestions.length ++ word m.fAnswers.length ++ word m.fAuthorities.length ++ word m.fExtras.length
theorem hd12_len (m : GMessage) : (hd12 m).length = 12 := rfl
def badM (m : GMessage) : Prop := m.fOpcode < 0 ∨ 15 < m.fOpcode ∨ m.fCode < 0 ∨ 15 < m.fCode
instance (m : GMessage) : Decidable (badM m) := by unfold badM; infer_instance
noncomputable def bodyM (m : GMessage) : Int × List Int × List (ByteArray × Int) :=
  if (qsP m.fQuestions (hd12 m) []).1 ≠ 0 then qsP m.fQuestions (hd12 m) []
  else rsP (m.fAnswers ++ m.fAuthorities ++ m.fExtras) (qsP m.fQuestions (hd12 m) []).2.1 (qsP m.fQuestions (hd12 m) []).2.2
/-- A message's bytes, however many. -/
noncomputable def wholeP (m : GMessage) : ByteArray × Int :=
  if badM m then (⟨#[]⟩, 1) else if (bodyM m).1 ≠ 0 then (⟨#[]⟩, (bodyM m).1) else (strOfNums (bodyM m).2.1, 0)
def okMsg (m : GMessage) : Prop := (0 ≤ m.fID ∧ m.fID ≤ 65535) ∧ (∀ q ∈ m.fQuestions, okQ q) ∧ (∀ r ∈ m.fAnswers, okT r) ∧ (∀ r ∈ m.fAuthorities, okT r) ∧ (∀ r ∈ m.fExtras, okT r) ∧ m.fQuestions.length ≤ 5000 ∧ m.fAnswers.length ≤ 5000 ∧ m.fAuthorities.length ≤ 5000 ∧ m.fExtras.length ≤ 5000
theorem word_put {v : Int} {fb : List Int} {pl : List (ByteArray × Int)} (h : fb.length ≤ 1000000) : m_pack_Packer_Word v ⟨fb, pl⟩ = some ⟨fb ++ word v, pl⟩ := by
  rw [m_pack_Packer_Word, wu8_eq, wu8_eq, put_eq (by simp; omega)]; rfl
theorem word_len (v : Int) : (word v).length = 2 := rfl
theorem each_r {l : List GRR} (hl : l.length ≤ 5000) (hr : ∀ r ∈ l, okT r) {fb : List Int} {pl : List (ByteArray × Int)} (hpl : okPl pl) (hfb : fb.length ≤ 70000000) :
    ∃ o, m_message_each_114 l ⟨fb, pl⟩ = some ((rsP l fb pl).1, o) ∧ ((rsP l fb pl).1 = 0 → o = ⟨(rsP l fb pl).2.1, (rsP l fb pl).2.2⟩) := by
  obtain ⟨o, ho⟩ := reach_loop (all := l) (by omega) hr l [] fb pl rfl hpl (by omega)
  by_cases h : (rsP l fb pl).1 = 0
  · refine ⟨⟨(rsP l fb pl).2.1, (rsP l fb pl).2.2⟩, ?_, fun _ => rfl⟩
    rw [if_pos h] at ho
    rw [m_message_each_114]
    erw [ho]
    rw [Option.bind_some, Sum.elim_inl, m_message_each_114_j1, h]
  · refine ⟨o, ?_, fun hc => absurd hc h⟩
    rw [if_neg h] at ho
    rw [m_message_each_114]
    erw [ho]
    rfl
theorem each_q {l : List GQuestion} (hl : l.length ≤ 5000) (hq : ∀ q ∈ l, okQ q) {fb : List Int} {pl : List (ByteArray × Int)} (hpl : okPl pl) (hfb : fb.length ≤ 1000) :
    ∃ o, m_message_each_112 l ⟨fb, pl⟩ = some ((qsP l fb pl).1, o) ∧ ((qsP l fb pl).1 = 0 → o = ⟨(qsP l fb pl).2.1, (qsP l fb pl).2.2⟩) := by
  obtain ⟨o, ho⟩ := qeach_loop (all := l) (by omega) hq l [] fb pl rfl hpl (by omega)
  by_cases h : (qsP l fb pl).1 = 0
  · refine ⟨⟨(qsP l fb pl).2.1, (qsP l fb pl).2.2⟩, ?_, fun _ => rfl⟩
    rw [if_pos h] at ho
    rw [m_message_each_112]
    erw [ho]
    rw [Option.bind_some, Sum.elim_inl, m_message_each_112_j1, h]
  · refine ⟨o, ?_, fun hc => absurd hc h⟩
    rw [if_neg h] at ho
    rw [m_message_each_112]
    erw [ho]
    rfl
theorem whole_eq {m : GMessage} (hm : okMsg m) : m_message_whole m = some (wholeP m) := by
  obtain ⟨hid, hq, hA, hU, hE, l1, l2, l3, l4⟩ := hm
  rw [m_message_whole, wholeP]
  by_cases b1 : m.fOpcode < 0
  · rw [if_pos b1, if_pos (show badM m from .inl b1)]
  rw [if_neg b1]
  by_cases b2 : 15 < m.fOpcode
  · rw [if_pos b2, if_pos (show badM m from .inr (.inl b2))]
  rw [if_neg b2]
  by_cases b3 : m.fCode < 0
  · rw [if_pos b3, if_pos (show badM m from .inr (.inr (.inl b3)))]
  rw [if_neg b3]
  by_cases b4 : 15 < m.fCode
  · rw [if_pos b4, if_pos (show badM m from .inr (.inr (.inr b4)))]
  rw [if_neg b4, if_neg (show ¬ badM m by unfold badM; omega), if_neg (by omega), m_pack_New, Option.bind_some, word_put (by simp), Option.bind_some, bits_eq ⟨by omega, by omega⟩ ⟨by omega, by omega⟩, word_put (by simp [word_len]), Option.bind_some,
    wrapu16 (by omega) (by omega), word_put (by simp [word_len]), Option.bind_some, m_message_sections, Option.bind_some]
  simp only
  rw [wrapu16 (by omega) (by omega), word_put (by simp [word_len]), Option.bind_some, wrapu16 (by omega) (by omega), word_put (by simp [word_len]), Option.bind_some, wrapu16 (by omega) (by omega), word_put (by simp [word_len]), Option.bind_some]
  have hh : [] ++ word m.fID ++ word (bitsP m) ++ word (m.fQuestions.length : Int) ++ word (m.fAnswers.length : Int) ++ word (m.fAuthorities.length : Int) ++ word (m.fExtras.length : Int) = hd12 m := rfl
  rw [hh]
  obtain ⟨o1, e1, f1⟩ := each_q l1 hq okPl_nil (fb := hd12 m) (by rw [hd12_len]; omega)
  obtain ⟨k1, k2, k3⟩ := qsP_ok m.fQuestions (hd12 m) [] okPl_nil
  rw [hd12_len] at k2
  rw [e1, Option.bind_some, bodyM]
  simp only
  by_cases c1 : (qsP m.fQuestions (hd12 m) []).1 ≠ 0
  · rw [if_pos c1, if_pos c1, if_pos c1]
  rw [if_neg c1, if_neg c1, f1 (Classical.not_not.1 c1), Option.bind_some]
  simp only
  generalize qsP m.fQuestions (hd12 m) [] = Q at *
  obtain ⟨o2, e2, f2⟩ := each_r l2 hA k1 (fb := Q.2.1) (by omega)
  obtain ⟨m1, m2, m3⟩ := rsP_ok m.fAnswers Q.2.1 Q.2.2 hA k1
  rw [e2, Option.bind_some, rsP_app, rsP_app]
  simp only
  by_cases c2 : (rsP m.fAnswers Q.2.1 Q.2.2).1 ≠ 0
  · simp only [if_pos c2]
  simp only [if_neg c2]
  rw [f2 (Classical.not_not.1 c2)]
  generalize rsP m.fAnswers Q.2.1 Q.2.2 = R at *
  obtain ⟨o3, e3, f3⟩ := each_r l3 hU m1 (fb := R.2.1) (by omega)
  obtain ⟨n1, n2, n3⟩ := rsP_ok m.fAuthorities R.2.1 R.2.2 hU m1
  rw [e3, Option.bind_some]
  simp only
  by_cases c3 : (rsP m.fAuthorities R.2.1 R.2.2).1 ≠ 0
  · simp only [if_pos c3]
  simp only [if_neg c3]
  rw [f3 (Classical.not_not.1 c3)]
  generalize rsP m.fAuthorities R.2.1 R.2.2 = S at *
  obtain ⟨o4, e4, f4⟩ := each_r l4 hE n1 (fb := S.2.1) (by omega)
  rw [e4, Option.bind_some]
  simp only
  by_cases c4 : (rsP m.fExtras S.2.1 S.2.2).1 ≠ 0
  · simp only [if_pos c4]
  simp only [if_neg c4]
  rw [f4 (Classical.not_not.1 c4), m_pack_Packer_Bytes]
  rfl
open Go.RowKit
theorem rpname_bad {pts : Bool} {n : ByteArray} {e : Int} {o : Gref04_Packer} (h : m_ref03_Check n = some e) (he : e ≠ 0) : m_ref04_Packer_Name n pts o = some (e, o) := by
  rw [m_ref04_Packer_Name, m_ref03_Labels, h, Option.bind_some, if_pos he, Option.bind_some, if_pos he]
theorem rqeach_loop {m : GMessage} (hl : m.fQuestions.length ≤ 100000) (hq : ∀ q ∈ m.fQuestions, okQ q) : ∀ (qs pre : List GQuestion) (B : ByteArray) (L : List Gref04_Place), m.fQuestions = pre ++ qs → okPl (plOf L) → B.size + 300 * qs.length ≤ 100000000 → L.length + 300 * qs.length ≤ 100000000 →
    ((qsP qs (bytesI B) (plOf L)).1 ≠ 0 → loop (fun s => m_ref06_all_s4 m s.1 s.2.1 s.2.2) (L, (pre.length : Int), B) = some (.inr (⟨#[]⟩, (qsP qs (bytesI B) (plOf L)).1))) ∧
    ((qsP qs (bytesI B) (plOf L)).1 = 0 → ∃ B' L', loop (fun s => m_ref06_all_s4 m s.1 s.2.1 s.2.2) (L, (pre.length : Int), B) = some (.inl (L', B')) ∧ bytesI B' = (qsP qs (bytesI B) (plOf L)).2.1 ∧ plOf L' = (qsP qs (bytesI B) (plOf L)).2.2) := by
  intro qs
  induction qs with
  | nil =>
    intro pre B L h hpl hfb hL
    rw [List.append_nil] at h
    refine ⟨fun hc => absurd rfl hc, fun _ => ⟨B, L, ?_, rfl, rfl⟩⟩
    rw [loop_inr (by simp only [m_ref06_all_s4]; rw [if_neg (by rw [h]; omega)])]
  | cons q qs ih =>
    intro pre B L h hpl hfb hL
    have hlen : m.fQuestions.length = pre.length + (qs.length + 1) := by rw [h]; simp
    have hat : at_ m.fQuestions (pre.length : Int) = some q := by rw [at_nat (by omega)]; simp [h]
    obtain ⟨z1, z2, z3⟩ := hq q (by rw [h]; simp)
    have hst := m_ref06_all_s4.eq_def m L (pre.length : Int) B
    rw [if_pos (by omega), hat, Option.bind_some] at hst
    simp only [List.length_cons] at hfb hL
    have hBs := size_bytes B
    rw [qsP]
    by_cases he : errN q.fName ≠ 0
    · rw [rpname_bad (errN_ref z1) he, Option.bind_some, if_pos he] at hst
      rw [if_pos he]
      exact ⟨fun _ => loop_inr hst, fun hc => absurd hc he⟩
    · have hnm := errN_iff.1 (Classical.not_not.1 he)
      obtain ⟨h1, h2, h3, h4⟩ := isNm_lab hnm
      have a1 := packS_len (pts := true) (labP q.fName) (bytesI B) (plOf L)
      have a2 := packS_plen (pts := true) (labP q.fName) (bytesI B) (plOf L)
      have a3 := len_enc (labP q.fName)
      obtain ⟨B1, L1, n1, n2, n3⟩ := rpname_lab (pts := true) hnm (rfl : bytesI B = bytesI B) hpl (by omega) (by omega)
      have hB1 : B1.size = (packS true (labP q.fName) (bytesI B) (plOf L)).1.length := by rw [size_bytes, n2]
      have hL1 : L1.length = (packS true (labP q.fName) (bytesI B) (plOf L)).2.length := by rw [← n3]; simp [plOf]
      have hL0 : (plOf L).length = L.length := by simp [plOf]
      obtain ⟨B2, m1, m2⟩ := rnum2 (v := q.fType) (o := ⟨B1, L1⟩) (by simp only; omega)
      have hB2 : B2.size = B1.size + 2 := by rw [size_bytes, m2]; simp only; rw [List.length_append, ← size_bytes]; rfl
      obtain ⟨B3, m3, m4⟩ := rnum2 (v := q.fClass) (o := ⟨B2, L1⟩) (by simp only; omega)
      have hB3 : B3.size = B2.size + 2 := by rw [size_bytes, m4]; simp only; rw [List.length_append, ← size_bytes]; rfl
      rw [n1, Option.bind_some, if_neg (fun h => h rfl)] at hst
      simp only at hst
      rw [w64_id (x := q.fType) (by omega) (by omega), m1, Option.bind_some, w64_id (x := q.fClass) (by omega) (by omega), m3, Option.bind_some, w64_id (by omega) (by omega)] at hst
      have hb3 : bytesI B3 = (packS true (labP q.fName) (bytesI B) (plOf L)).1 ++ tailQ q := by
        rw [m4]; simp only; rw [m2]; simp only; rw [n2]; simp [tailQ]
      have := ih (pre ++ [q]) B3 L1 (by rw [h]; simp) (by rw [n3]; exact packS_pl _ _ _ h1.1 h4 hpl) (by omega) (by omega)
      rw [show (((pre ++ [q]).length : Nat) : Int) = (pre.length : Int) + 1 by simp, hb3, n3] at this
      rw [if_neg he, loop_inl hst]
      exact this
theorem rreach_loop {l : List GRR} (hl : l.length ≤ 100000) (hr : ∀ r ∈ l, okT r) : ∀ (rs pre : List GRR) (B : ByteArray) (L : List Gref04_Place), l = pre ++ rs → okPl (plOf L) → B.size + 4000 * rs.length ≤ 100000000 → L.length + 1000 * rs.length ≤ 100000000 →
    ((rsP rs (bytesI B) (plOf L)).1 ≠ 0 → loop (fun s => m_ref06_all_s3 l s.1 s.2.1 s.2.2) (L, (pre.length : Int), B) = some (.inr (⟨#[]⟩, (rsP rs (bytesI B) (plOf L)).1))) ∧
    ((rsP rs (bytesI B) (plOf L)).1 = 0 → ∃ B' L', loop (fun s => m_ref06_all_s3 l s.1 s.2.1 s.2.2) (L, (pre.length : Int), B) = some (.inl (L', B')) ∧ bytesI B' = (rsP rs (bytesI B) (plOf L)).2.1 ∧ plOf L' = (rsP rs (bytesI B) (plOf L)).2.2) := by
  intro rs
  induction rs with
  | nil =>
    intro pre B L h hpl hfb hL
    rw [List.append_nil] at h
    refine ⟨fun hc => absurd rfl hc, fun _ => ⟨B, L, ?_, rfl, rfl⟩⟩
    rw [loop_inr (by simp only [m_ref06_all_s3]; rw [if_neg (by rw [h]; omega)])]
  | cons r rs ih =>
    intro pre B L h hpl hfb hL
    have hlen : l.length = pre.length + (rs.length + 1) := by rw [h]; simp
    have hat : at_ l (pre.length : Int) = some r := by rw [at_nat (by omega)]; simp [h]
    have hok := hr r (by rw [h]; simp)
    have hst := m_ref06_all_s3.eq_def l L (pre.length : Int) B
    rw [if_pos (by omega), hat, Option.bind_some] at hst
    simp only [List.length_cons] at hfb hL
    have hBs := size_bytes B
    rw [rsP]
    by_cases he : errR r ≠ 0
    · rw [rput_bad (errR_ref hok.1 hok.2.1) he, Option.bind_some, if_pos he] at hst
      rw [if_pos he]
      exact ⟨fun _ => loop_inr hst, fun hc => absurd hc he⟩
    · have hg := (errR_good hok).1 (Classical.not_not.1 he)
      obtain ⟨b1, b2, b3, b4⟩ := bodyP_len hg (fb := bytesI B) hpl (sizeP r (bytesI B) (plOf L) / 256) (sizeP r (bytesI B) (plOf L) % 256)
      have b3 : (putP r (bytesI B) (plOf L)).1.length ≤ (bytesI B).length + 4000 := b3
      have b4 : (putP r (bytesI B) (plOf L)).2.length ≤ (plOf L).length + 1000 := b4
      obtain ⟨B1, L1, n1, n2, n3⟩ := rput_ok hg (rfl : bytesI B = bytesI B) hpl (by omega) (by omega)
      have hB1 : B1.size = (putP r (bytesI B) (plOf L)).1.length := by rw [size_bytes, n2]
      have hL1 : L1.length = (putP r (bytesI B) (plOf L)).2.length := by rw [← n3]; simp [plOf]
      have hL0 : (plOf L).length = L.length := by simp [plOf]
      rw [n1, Option.bind_some, if_neg (fun h => h rfl), w64_id (by omega) (by omega)] at hst
      have := ih (pre ++ [r]) B1 L1 (by rw [h]; simp) (by rw [n3]; exact b1) (by omega) (by omega)
      rw [show (((pre ++ [r]).length : Nat) : Int) = (pre.length : Int) + 1 by simp, n2, n3] at this
      rw [if_neg he, loop_inl hst]
      exact this
open Go.RowKit
theorem rword {v : Int} {o : Gref04_Packer} (ho : o.fB.size ≤ 1000000) : ∃ t, m_ref04_Packer_Number v 2 o = some ⟨t, o.fL⟩ ∧ bytesI t = bytesI o.fB ++ word v ∧ t.size = o.fB.size + 2 := by
  obtain ⟨t, h1, h2⟩ := rnum2 (v := v) (o := o) (by omega)
  exact ⟨t, h1, h2, by rw [size_bytes, h2, List.length_append, ← size_bytes]; rfl⟩
theorem all_eq {m : GMessage} (hm : okMsg m) : m_ref06_all m = some (wholeP m) := by
  obtain ⟨hid, hq, hA, hU, hE, l1, l2, l3, l4⟩ := hm
  rw [m_ref06_all, wholeP]
  by_cases b1 : m.fOpcode < 0
  · rw [if_pos b1, if_pos (show badM m from .inl b1)]
  rw [if_neg b1]
  by_cases b2 : 15 < m.fOpcode
  · rw [if_pos b2, if_pos (show badM m from .inr (.inl b2))]
  rw [if_neg b2]
  by_cases b3 : m.fCode < 0
  · rw [if_pos b3, if_pos (show badM m from .inr (.inr (.inl b3)))]
  rw [if_neg b3]
  by_cases b4 : 15 < m.fCode
  · rw [if_pos b4, if_pos (show badM m from .inr (.inr (.inr b4)))]
  have c1 := bI_range m.fResponse
  have c2 := bI_range m.fAuthoritative
  have c3 := bI_range m.fTruncated
  have c4 := bI_range m.fDesired
  have c5 := bI_range m.fAvailable
  obtain ⟨B1, n1, k1, z1⟩ := rword (v := m.fID) (o := ⟨⟨#[]⟩, []⟩) (by decide)
  have z1 : B1.size = 2 := z1
  obtain ⟨B2, n2, k2, z2⟩ := rword (v := bitsP m) (o := ⟨B1, []⟩) (by simp only; omega)
  simp only at z2
  obtain ⟨B3, n3, k3, z3⟩ := rword (v := (m.fQuestions.length : Int)) (o := ⟨B2, []⟩) (by simp only; omega)
  simp only at z3
  obtain ⟨B4, n4, k4, z4⟩ := rword (v := (m.fAnswers.length : Int)) (o := ⟨B3, []⟩) (by simp only; omega)
  simp only at z4
  obtain ⟨B5, n5, k5, z5⟩ := rword (v := (m.fAuthorities.length : Int)) (o := ⟨B4, []⟩) (by simp only; omega)
  simp only at z5
  obtain ⟨B6, n6, k6, z6⟩ := rword (v := (m.fExtras.length : Int)) (o := ⟨B5, []⟩) (by simp only; omega)
  simp only at z6
  have hB6 : bytesI B6 = hd12 m := by rw [k6]; simp only; rw [k5]; simp only; rw [k4]; simp only; rw [k3]; simp only; rw [k2]; simp only; rw [k1]; rfl
  have hbits : w64 ((w64 ((w64 ((w64 ((w64 ((w64 ((w64 (bI m.fResponse * 32768)) + (w64 (m.fOpcode * 2048)))) + (w64 (bI m.fAuthoritative * 1024)))) + (w64 (bI m.fTruncated * 512)))) + (w64 (bI m.fDesired * 256)))) + (w64 (bI m.fAvailable * 128)))) + m.fCode) = bitsP m := by
    rw [w64_id (x := bI m.fResponse * 32768) (by omega) (by omega), w64_id (x := m.fOpcode * 2048) (by omega) (by omega), w64_id (x := bI m.fAuthoritative * 1024) (by omega) (by omega), w64_id (x := bI m.fTruncated * 512) (by omega) (by omega), w64_id (x := bI m.fDesired * 256) (by omega) (by omega), w64_id (x := bI m.fAvailable * 128) (by omega) (by omega)]
    rw [w64_id (x := bI m.fResponse * 32768 + m.fOpcode * 2048) (by omega) (by omega), w64_id (x := _ + bI m.fAuthoritative * 1024) (by omega) (by omega), w64_id (x := _ + bI m.fTruncated * 512) (by omega) (by omega), w64_id (x := _ + bI m.fDesired * 256) (by omega) (by omega), w64_id (x := _ + bI m.fAvailable * 128) (by omega) (by omega), w64_id (by omega) (by omega)]
    rfl
  rw [if_neg b4, if_neg (show ¬ badM m by unfold badM; omega), if_neg (by omega), if_neg (by omega), if_neg (by omega), if_neg (by omega), w64_id (x := m.fID) (by omega) (by omega), n1, Option.bind_some, bit_eq, Option.bind_some, bit_eq, Option.bind_some, bit_eq, Option.bind_some, bit_eq, Option.bind_some, bit_eq, Option.bind_some, hbits, n2, Option.bind_some, n3, Option.bind_some, n4, Option.bind_some, n5, Option.bind_some, n6, Option.bind_some]
  obtain ⟨u1, u2⟩ := rqeach_loop (m := m) (by omega) hq m.fQuestions [] B6 [] rfl okPl_nil (by omega) (by simp only [List.length_nil]; omega)
  obtain ⟨v1, v2, v3⟩ := qsP_ok m.fQuestions (hd12 m) [] okPl_nil
  rw [hB6, show plOf [] = [] from rfl] at u1 u2
  rw [hd12_len] at v2
  rw [bodyM]
  by_cases e1 : (qsP m.fQuestions (hd12 m) []).1 ≠ 0
  · erw [u1 e1]
    rw [if_pos e1, if_pos e1]; rfl
  obtain ⟨B', L', w1, w2, w3⟩ := u2 (Classical.not_not.1 e1)
  have hBz : B'.size = (qsP m.fQuestions (hd12 m) []).2.1.length := by rw [size_bytes, w2]
  have hLz : L'.length = (qsP m.fQuestions (hd12 m) []).2.2.length := by rw [← w3]; simp [plOf]
  erw [w1]
  rw [if_neg e1, Option.bind_some, Sum.elim_inl, m_ref06_all_j1, app_of (by simp; omega), Option.bind_some, app_of (by simp; omega), Option.bind_some, app_of (by simp; omega), Option.bind_some, List.nil_append]
  have hall : ∀ r ∈ m.fAnswers ++ m.fAuthorities ++ m.fExtras, okT r := by
    intro r hr
    rcases List.mem_append.1 hr with hr | hr
    · rcases List.mem_append.1 hr with hr | hr
      · exact hA r hr
      · exact hU r hr
    · exact hE r hr
  obtain ⟨x1, x2⟩ := rreach_loop (l := m.fAnswers ++ m.fAuthorities ++ m.fExtras) (by simp; omega) hall (m.fAnswers ++ m.fAuthorities ++ m.fExtras) [] B' L' rfl (by rw [w3]; exact v1) (by simp; omega) (by simp at v3 ⊢; omega)
  rw [w2, w3] at x1 x2
  by_cases e2 : (rsP (m.fAnswers ++ m.fAuthorities ++ m.fExtras) (qsP m.fQuestions (hd12 m) []).2.1 (qsP m.fQuestions (hd12 m) []).2.2).1 ≠ 0
  · erw [x1 e2]
    rw [if_pos e2]; rfl
  · obtain ⟨B'', L'', y1, y2, y3⟩ := x2 (Classical.not_not.1 e2)
    erw [y1]
    rw [if_neg e2, Option.bind_some, Sum.elim_inl, m_ref06_all_j2]
    congr 2
    refine bytesI_inj ?_
    rw [← y2, bytesI_str (bytesI_range B'')]
open Go.RowKit
def nilM0 : GMessage := ⟨0, false, false, false, false, false, 0, 0, [], [], [], []⟩
theorem many_q0 (p : ByteArray) (a : Int) : m_message_many_89 p a 0 = some ([], a, 0) := by
  rw [m_message_many_89]
  erw [loop_inr (show (fun s : List GQuestion × Int × Int => m_message_many_89_s2 0 p s.1 s.2.1 s.2.2) ([], a, 0) = some (.inr (.inl ([], a))) by simp only [m_message_many_89_s2]; rw [if_neg (by omega)])]
  rfl
theorem many_r0 (p : ByteArray) (a : Int) : m_message_many_91 p a 0 = some ([], a, 0) := by
  rw [m_message_many_91]
  erw [loop_inr (show (fun s : List GRR × Int × Int => m_message_many_91_s2 0 p s.1 s.2.1 s.2.2) ([], a, 0) = some (.inr (.inl ([], a))) by simp only [m_message_many_91_s2]; rw [if_neg (by omega)])]
  rfl
theorem zeros_read {p : ByteArray} (hs : p.size ≤ 4096) (hz : 12 ≤ p.size) (h0 : numP p 0 2 = (0, 2, 0)) (h2 : numP p 2 2 = (0, 4, 0)) (h4 : numP p 4 2 = (0, 6, 0)) (h6 : numP p 6 2 = (0, 8, 0)) (h8 : numP p 8 2 = (0, 10, 0)) (h10 : numP p 10 2 = (0, 12, 0)) :
    m_message_Read p = some (if p.size = 12 then (nilM0, 0) else (nilM0, 10)) := by
  have hp : p.size ≤ 1099511627776 := by omega
  have hh : m_message_Head p = some (nilM0, 0) := by
    rw [m_message_Head, if_neg (by omega), pword_eq hp, pword_eq hp, h0, h2]
    have f1 : decide (andI .u16 0 32768 ≠ 0) = false := by decide +kernel
    have f2 : decide (andI .u16 0 1024 ≠ 0) = false := by decide +kernel
    have f3 : decide (andI .u16 0 512 ≠ 0) = false := by decide +kernel
    have f4 : decide (andI .u16 0 256 ≠ 0) = false := by decide +kernel
    have f5 : decide (andI .u16 0 128 ≠ 0) = false := by decide +kernel
    have g1 : w64 (andI .u16 (0 / 2048) 15) = 0 := by decide +kernel
    have g2 : w64 (andI .u16 0 15) = 0 := by decide +kernel
    simp only [Option.bind_some, m_message_flags_has, f1, f2, f3, f4, f5, g1, g2]
    rfl
  have c0 : m_message_Read_c1 0 p = some 0 := by rw [m_message_Read_c1, show w64 (4 + w64 (2 * 0)) = 4 by decide, pword_eq hp, h4]; rfl
  have c1 : m_message_Read_c1 1 p = some 0 := by rw [m_message_Read_c1, show w64 (4 + w64 (2 * 1)) = 6 by decide, pword_eq hp, h6]; rfl
  have c2 : m_message_Read_c1 2 p = some 0 := by rw [m_message_Read_c1, show w64 (4 + w64 (2 * 2)) = 8 by decide, pword_eq hp, h8]; rfl
  have c3 : m_message_Read_c1 3 p = some 0 := by rw [m_message_Read_c1, show w64 (4 + w64 (2 * 3)) = 10 by decide, pword_eq hp, h10]; rfl
  rw [m_message_Read, if_neg (by omega), hh, Option.bind_some, if_neg (fun h => h rfl), c0, Option.bind_some, many_q0, Option.bind_some, if_pos rfl, c1, Option.bind_some, many_r0, Option.bind_some, m_message_Read_j1, if_pos rfl, c2, Option.bind_some, many_r0, Option.bind_some, m_message_Read_j2, if_pos rfl, c3, Option.bind_some, many_r0, Option.bind_some, m_message_Read_j3, if_neg (fun h => h rfl)]
  by_cases h : p.size = 12
  · rw [if_neg (by simp only; omega), if_pos h]; rfl
  · rw [if_pos (by simp only; omega), if_neg h]; rfl
theorem zerosB (n : Nat) : bytesI (strOfNums (List.replicate n (0 : Int))) = List.replicate n 0 := bytesI_str (fun x hx => by rw [List.eq_of_mem_replicate hx]; omega)
theorem read12 : m_message_Read (strOfNums (List.replicate 12 (0 : Int))) = some (nilM0, 0) := by
  have hz : (strOfNums (List.replicate 12 (0 : Int))).size = 12 := by rw [size_bytes, zerosB]; rfl
  have h := zeros_read (p := strOfNums (List.replicate 12 (0 : Int))) (by omega) (by omega) (by decide +kernel) (by decide +kernel) (by decide +kernel) (by decide +kernel) (by decide +kernel) (by decide +kernel)
  rwa [if_pos hz] at h
theorem read13 : m_message_Read (strOfNums (List.replicate 13 (0 : Int))) = some (nilM0, 10) := by
  have hz : (strOfNums (List.replicate 13 (0 : Int))).size = 13 := by rw [size_bytes, zerosB]; rfl
  have h := zeros_read (p := strOfNums (List.replicate 13 (0 : Int))) (by omega) (by omega) (by decide +kernel) (by decide +kernel) (by decide +kernel) (by decide +kernel) (by decide +kernel) (by decide +kernel)
  rwa [if_neg (by omega)] at h
theorem read11 : m_message_Read (strOfNums (List.replicate 11 (0 : Int))) = some (nilM0, 10) := by
  have hz : (strOfNums (List.replicate 11 (0 : Int))).size = 11 := by rw [size_bytes, zerosB]; rfl
  rw [m_message_Read, if_neg (by omega), m_message_Head, if_pos (by omega)]
  rfl
def q6 : GQuestion := ⟨⟨#[1, 97, 0]⟩, 1, 1⟩
def m6 : GMessage := ⟨7, false, false, false, false, false, 0, 0, [q6], [], [], []⟩
theorem a6_nm : Nm (⟨#[1, 97, 0]⟩ : ByteArray) [⟨#[97]⟩] := ⟨by decide +kernel, by decide +kernel⟩
theorem a6_is : isNm (⟨#[1, 97, 0]⟩ : ByteArray) := ⟨_, a6_nm, by decide⟩
theorem ok6 : okMsg m6 := by
  refine ⟨by decide, ?_, ?_, ?_, ?_, by decide, by decide, by decide, by decide⟩
  · intro q hq
    simp only [m6, List.mem_singleton] at hq
    subst hq
    exact ⟨by decide, by decide, by decide⟩
  all_goals (intro r hr; simp [m6] at hr)
theorem body6 : (bodyM m6).1 = 0 ∧ (bodyM m6).2.1 = [0, 7, 0, 0, 0, 1, 0, 0, 0, 0, 0, 0, 1, 97, 0, 0, 1, 0, 1] := by
  have he : errN q6.fName = 0 := errN_iff.2 a6_is
  have hp : packS true [⟨#[97]⟩] (hd12 m6) [] = ([0, 7, 0, 0, 0, 1, 0, 0, 0, 0, 0, 0, 1, 97, 0], [(⟨#[1, 97, 0]⟩, 12)]) := by decide +kernel
  have hq : qsP m6.fQuestions (hd12 m6) [] = (0, [0, 7, 0, 0, 0, 1, 0, 0, 0, 0, 0, 0, 1, 97, 0, 0, 1, 0, 1], [(⟨#[1, 97, 0]⟩, 12)]) := by
    show qsP [q6] (hd12 m6) [] = _
    rw [qsP, if_neg (fun h => h he), show q6.fName = ⟨#[1, 97, 0]⟩ from rfl, labP_nm a6_nm, hp, qsP]
    decide +kernel
  rw [bodyM, hq, if_neg (fun h => h rfl)]
  exact ⟨rfl, rfl⟩
theorem whole6 : wholeP m6 = (strOfNums [0, 7, 0, 0, 0, 1, 0, 0, 0, 0, 0, 0, 1, 97, 0, 0, 1, 0, 1], 0) := by
  have hb : ¬ badM m6 := by decide
  rw [wholeP, if_neg hb, if_neg (show ¬ (bodyM m6).1 ≠ 0 from fun h => h body6.1), body6.2]
theorem bytes6 : m_message_Bytes m6 = some (⟨#[0, 7, 0, 0, 0, 1, 0, 0, 0, 0, 0, 0, 1, 97, 0, 0, 1, 0, 1]⟩, 0) := by
  rw [m_message_Bytes, whole_eq ok6, Option.bind_some, whole6]
  decide +kernel
theorem awake06 : m_law06_awake = some true := by
  have hq : m_message_Query 7 q6 = some m6 := rfl
  have hr : m_message_Reply m6 3 = some ⟨7, true, false, false, false, true, 0, 3, [q6], [], [], []⟩ := by
    rw [m_message_Reply, app_of (by decide)]; rfl
  have hm : m_message_Matches m6 ⟨7, true, false, false, false, true, 0, 3, [q6], [], [], []⟩ = some true := by
    have hs : m_message_SameQuestion q6 q6 = some true := by
      rw [m_message_SameQuestion]
      erw [same_nm a6_nm (by decide) a6_nm (by decide)]
      rw [decide_eq_true rfl]; rfl
    have ha : at_ [q6] 0 = some q6 := rfl
    rw [m_message_Matches, if_pos rfl, if_pos (show (7 : Int) = m6.fID from rfl), if_pos (show (0 : Int) = m6.fOpcode from rfl), if_pos (show ((m6.fQuestions.length : Nat) : Int) = 1 from rfl), if_pos (show (([q6] : List GQuestion).length : Int) = 1 from rfl), show m6.fQuestions = [q6] from rfl, ha, Option.bind_some, Option.bind_some, hs]; rfl
  rw [m_law06_awake]
  erw [hq]
  rw [Option.bind_some, bytes6, Option.bind_some, mkL, if_pos (by omega), Option.bind_some, show (12 : Int).toNat = 12 from rfl, read12, Option.bind_some, mkL, if_pos (by omega), Option.bind_some, show (11 : Int).toNat = 11 from rfl, read11, Option.bind_some, mkL, if_pos (by omega), Option.bind_some, show (13 : Int).toNat = 13 from rfl, read13, Option.bind_some, Option.bind_some, hr, Option.bind_some]
  simp only [if_true]
  rw [Option.bind_some, hm, Option.bind_some]
theorem short6_of {s : ByteArray} (k : Nat) (h : s.size ≤ 9223372036854775807) : ∃ t, m_law06_short s (k : Int) = some t ∧ t.size ≤ k := by
  rw [m_law06_short]
  by_cases hc : k < s.size
  · rw [if_pos (by omega), scutHi, if_pos ⟨by omega, by omega⟩]
    exact ⟨_, rfl, by rw [ByteArray.size_extract]; omega⟩
  · rw [if_neg (by omega)]; exact ⟨_, rfl, by omega⟩
open Go.RowKit
def smallR (r : GRR) : Prop := r.fName.size ≤ 300 ∧ r.fData.size ≤ 2100 ∧ (0 ≤ r.fType ∧ r.fType ≤ 65535) ∧ (0 ≤ r.fClass ∧ r.fClass ≤ 65535) ∧ (0 ≤ r.fTTL ∧ r.fTTL ≤ 4294967295)
theorem few6_of {l : List GRR} (h : l.length ≤ 9223372036854775807 ∧ ∀ a ∈ l, GRR.ok a) : ∃ q, m_law06_few l = some q ∧ q.length ≤ 30 ∧ ∀ a ∈ q, smallR a := by
  obtain ⟨r, h1, h2⟩ := loop_rule (step := fun s : List GRR × Int => m_law06_few_s2 l s.1 s.2)
    (fun s => ∃ i : Nat, s.2 = (i : Int) ∧ i ≤ 30 ∧ s.1.length ≤ i ∧ ∀ a ∈ s.1, smallR a)
    (fun s => (30 - s.2).toNat) (fun r => r.length ≤ 30 ∧ ∀ a ∈ r, smallR a)
    (by
      rintro ⟨q, i'⟩ ⟨i, g1, g2, g3, g4⟩
      simp only at g1 g3 g4
      subst g1
      simp only
      rw [m_law06_few_s2]
      by_cases hc : i < l.length ∧ i < 30
      · left
        obtain ⟨z1, z2, z3, z4, z5⟩ := h.2 _ (List.getElem_mem hc.1)
        obtain ⟨t, ht, hz⟩ := short6_of 300 z1
        obtain ⟨u, hu, hy⟩ := short6_of 2100 z5
        rw [if_pos (by omega), if_pos (by omega), at_nat hc.1, Option.bind_some]
        erw [ht]
        rw [Option.bind_some]
        erw [hu]
        rw [Option.bind_some, app_of (by simp; omega), Option.bind_some, w64_id (by omega) (by omega)]
        refine ⟨_, rfl, ⟨i + 1, by simp, by omega, by simp; omega, fun a ha => ?_⟩, by simp only; omega⟩
        rcases List.mem_append.1 ha with ha | ha
        · exact g4 a ha
        · simp only [List.mem_singleton] at ha; subst ha; exact ⟨hz, hy, z2, z3, z4⟩
      · right
        refine ⟨q, ?_, by omega, g4⟩
        by_cases hc1 : i < l.length
        · rw [if_pos (by omega), if_neg (by omega)]
        · rw [if_neg (by omega)])
    (s0 := (([] : List GRR), 0)) ⟨0, rfl, by omega, by simp, fun a ha => by simp at ha⟩
  refine ⟨r, ?_, h2⟩
  rw [m_law06_few]; erw [h1]; rfl
def smallQ (q : GQuestion) : Prop := q.fName.size ≤ 300 ∧ (0 ≤ q.fType ∧ q.fType ≤ 65535) ∧ (0 ≤ q.fClass ∧ q.fClass ≤ 65535)
def smallM (m : GMessage) : Prop := (0 ≤ m.fID ∧ m.fID ≤ 65535) ∧ (m.fQuestions.length ≤ 30 ∧ ∀ q ∈ m.fQuestions, smallQ q) ∧ (m.fAnswers.length ≤ 30 ∧ ∀ r ∈ m.fAnswers, smallR r) ∧ (m.fAuthorities.length ≤ 30 ∧ ∀ r ∈ m.fAuthorities, smallR r) ∧ (m.fExtras.length ≤ 30 ∧ ∀ r ∈ m.fExtras, smallR r)
theorem small_okM {m : GMessage} (h : smallM m) : okMsg m := by
  obtain ⟨h1, ⟨q1, q2⟩, ⟨a1, a2⟩, ⟨u1, u2⟩, ⟨e1, e2⟩⟩ := h
  have g : ∀ r, smallR r → okT r := fun r ⟨z1, z2, z3⟩ => ⟨by omega, by omega, z3⟩
  exact ⟨h1, fun q hq => ⟨by have := (q2 q hq).1; omega, (q2 q hq).2⟩, fun r hr => g r (a2 r hr), fun r hr => g r (u2 r hr), fun r hr => g r (e2 r hr), by omega, by omega, by omega, by omega⟩
theorem small6_of {m : GMessage} (h : m.ok) : ∃ x, m_law06_small m = some x ∧ smallM x := by
  obtain ⟨hid, -, -, -, -, -, -, -, hq, ha, hu, he⟩ := h
  obtain ⟨r, h1, h2⟩ := loop_rule (step := fun s : List GQuestion × Int => m_law06_small_s2 m s.1 s.2)
    (fun s => ∃ i : Nat, s.2 = (i : Int) ∧ i ≤ 30 ∧ s.1.length ≤ i ∧ ∀ a ∈ s.1, smallQ a)
    (fun s => (30 - s.2).toNat) (fun r => r.length ≤ 30 ∧ ∀ a ∈ r, smallQ a)
    (by
      rintro ⟨q, i'⟩ ⟨i, g1, g2, g3, g4⟩
      simp only at g1 g3 g4
      subst g1
      simp only
      rw [m_law06_small_s2]
      by_cases hc : i < m.fQuestions.length ∧ i < 30
      · left
        obtain ⟨z1, z2, z3⟩ := hq.2 _ (List.getElem_mem hc.1)
        obtain ⟨t, ht, hz⟩ := short6_of 300 z1
        rw [if_pos (by omega), if_pos (by omega), at_nat hc.1, Option.bind_some]
        erw [ht]
        rw [Option.bind_some, app_of (by simp; omega), Option.bind_some, w64_id (by omega) (by omega)]
        refine ⟨_, rfl, ⟨i + 1, by simp, by omega, by simp; omega, fun a ha => ?_⟩, by simp only; omega⟩
        rcases List.mem_append.1 ha with ha | ha
        · exact g4 a ha
        · simp only [List.mem_singleton] at ha; subst ha; exact ⟨hz, z2, z3⟩
      · right
        refine ⟨q, ?_, by omega, g4⟩
        by_cases hc1 : i < m.fQuestions.length
        · rw [if_pos (by omega), if_neg (by omega)]
        · rw [if_neg (by omega)])
    (s0 := (([] : List GQuestion), 0)) ⟨0, rfl, by omega, by simp, fun a ha => by simp at ha⟩
  obtain ⟨a, a1, a2⟩ := few6_of ha
  obtain ⟨u, u1, u2⟩ := few6_of hu
  obtain ⟨e, e1, e2⟩ := few6_of he
  refine ⟨⟨m.fID, m.fResponse, m.fAuthoritative, m.fTruncated, m.fDesired, m.fAvailable, m.fOpcode, m.fCode, r, a, u, e⟩, ?_, hid, h2, a2, u2, e2⟩
  rw [m_law06_small]
  erw [h1]
  rw [Option.bind_some, m_law06_small_j1, a1, Option.bind_some, u1, Option.bind_some, e1, Option.bind_some]
open Go.RowKit
open Go.RowKit
open Go.RowKit
open Go.RowKit
/-- What is tried at a place of Fit. -/
noncomputable def tryF (m : GMessage) (limit : Int) (k : ByteArray × Int) : ByteArray × Int := if (wholeP m).2 ≠ 0 ∨ ((wholeP m).1.size : Int) ≤ min limit 4096 then wholeP m else k
def fit0 (m : GMessage) (b : Bool) (A U E : List GRR) : GMessage := ⟨m.fID, m.fResponse, m.fAuthoritative, b, m.fDesired, m.fAvailable, m.fOpcode, m.fCode, m.fQuestions, A, U, E⟩
noncomputable def fitP (m : GMessage) (l : Int) : ByteArray × Int :=
  tryF (fit0 m m.fTruncated m.fAnswers m.fAuthorities m.fExtras) l (tryF (fit0 m m.fTruncated m.fAnswers m.fAuthorities []) l (tryF (fit0 m m.fTruncated m.fAnswers [] []) l (tryF (fit0 m true [] [] []) l (⟨#[]⟩, 11))))
theorem tryF_ok {m : GMessage} {l : Int} {k : ByteArray × Int} (hk : k.2 = 0 → (k.1.size : Int) ≤ min l 4096) (h : (tryF m l k).2 = 0) : ((tryF m l k).1.size : Int) ≤ min l 4096 := by
  unfold tryF at h ⊢
  split at h
  · rename_i hc; rw [if_pos hc]; exact hc.elim (fun h' => absurd h h') id
  · rename_i hc; rw [if_neg hc]; exact hk h
theorem fitP_ok {m : GMessage} {l : Int} (h : (fitP m l).2 = 0) : ((fitP m l).1.size : Int) ≤ min l 4096 :=
  tryF_ok (tryF_ok (tryF_ok (tryF_ok (fun h => by simp at h)))) h
theorem ok_fit {m : GMessage} (h : okMsg m) {b : Bool} {A U E : List GRR} (hA : (∀ r ∈ A, okT r) ∧ A.length ≤ 5000) (hU : (∀ r ∈ U, okT r) ∧ U.length ≤ 5000) (hE : (∀ r ∈ E, okT r) ∧ E.length ≤ 5000) : okMsg (fit0 m b A U E) :=
  ⟨h.1, h.2.1, hA.1, hU.1, hE.1, h.2.2.2.2.2.1, hA.2, hU.2, hE.2⟩
theorem fit_j3 {m : GMessage} {l i : Int} {b : Bool} {A U E : List GRR} (h : okMsg (fit0 m b A U E)) :
    m_message_Fit_j3 m l i b A U E = some (if (wholeP (fit0 m b A U E)).2 ≠ 0 ∨ ((wholeP (fit0 m b A U E)).1.size : Int) ≤ min l 4096 then .inr (.inr (wholeP (fit0 m b A U E))) else .inl (w64 (i + 1), b, A, U, E)) := by
  have := whole_eq h
  rw [m_message_Fit_j3]
  erw [this]
  rw [Option.bind_some]
  by_cases c1 : (wholeP (fit0 m b A U E)).2 ≠ 0
  · rw [if_pos c1, if_pos (.inl c1)]
  · rw [if_neg c1]
    by_cases c2 : ((wholeP (fit0 m b A U E)).1.size : Int) ≤ min l 4096
    · rw [if_pos c2, if_pos (.inr c2)]
    · rw [if_neg c2, if_neg (fun h => h.elim c1 c2)]
theorem fit_code {m : GMessage} (h : okMsg m) (l : Int) : m_message_Fit m l = some (fitP m l) := by
  have hA := h.2.2.1
  have hU := h.2.2.2.1
  have hE := h.2.2.2.2.1
  have lA := h.2.2.2.2.2.2.1
  have lU := h.2.2.2.2.2.2.2.1
  have lE := h.2.2.2.2.2.2.2.2
  have hn : (∀ r ∈ ([] : List GRR), okT r) ∧ ([] : List GRR).length ≤ 5000 := ⟨fun _ h => (by cases h), by simp⟩
  have o0 := ok_fit h (b := m.fTruncated) ⟨hA, lA⟩ ⟨hU, lU⟩ ⟨hE, lE⟩
  have o1 := ok_fit h (b := m.fTruncated) ⟨hA, lA⟩ ⟨hU, lU⟩ hn
  have o2 := ok_fit h (b := m.fTruncated) ⟨hA, lA⟩ hn hn
  have o3 := ok_fit h (b := true) hn hn hn
  rw [m_message_Fit]
  generalize hS : (fun s : Int × Bool × List GRR × List GRR × List GRR => m_message_Fit_s2 m l s.1 s.2.1 s.2.2.1 s.2.2.2.1 s.2.2.2.2) = S
  have s0 : S (0, m.fTruncated, m.fAnswers, m.fAuthorities, m.fExtras) = some (if (wholeP (fit0 m m.fTruncated m.fAnswers m.fAuthorities m.fExtras)).2 ≠ 0 ∨ ((wholeP (fit0 m m.fTruncated m.fAnswers m.fAuthorities m.fExtras)).1.size : Int) ≤ min l 4096 then .inr (.inr (wholeP (fit0 m m.fTruncated m.fAnswers m.fAuthorities m.fExtras))) else .inl (1, m.fTruncated, m.fAnswers, m.fAuthorities, m.fExtras)) := by
    rw [← hS]; simp only [m_message_Fit_s2]; rw [if_pos (by omega), if_neg (by omega), if_neg (by omega), if_neg (by omega), fit_j3 o0, w64_id (by omega) (by omega)] <;> rfl
  have s1 : S (1, m.fTruncated, m.fAnswers, m.fAuthorities, m.fExtras) = some (if (wholeP (fit0 m m.fTruncated m.fAnswers m.fAuthorities [])).2 ≠ 0 ∨ ((wholeP (fit0 m m.fTruncated m.fAnswers m.fAuthorities [])).1.size : Int) ≤ min l 4096 then .inr (.inr (wholeP (fit0 m m.fTruncated m.fAnswers m.fAuthorities []))) else .inl (2, m.fTruncated, m.fAnswers, m.fAuthorities, [])) := by
    rw [← hS]; simp only [m_message_Fit_s2]; rw [if_pos (by omega), if_pos trivial, fit_j3 o1, w64_id (by omega) (by omega)] <;> rfl
  have s2 : S (2, m.fTruncated, m.fAnswers, m.fAuthorities, []) = some (if (wholeP (fit0 m m.fTruncated m.fAnswers [] [])).2 ≠ 0 ∨ ((wholeP (fit0 m m.fTruncated m.fAnswers [] [])).1.size : Int) ≤ min l 4096 then .inr (.inr (wholeP (fit0 m m.fTruncated m.fAnswers [] []))) else .inl (3, m.fTruncated, m.fAnswers, [], [])) := by
    rw [← hS]; simp only [m_message_Fit_s2]; rw [if_pos (by omega), if_neg (by omega), if_pos trivial, fit_j3 o2, w64_id (by omega) (by omega)] <;> rfl
  have s3 : S (3, m.fTruncated, m.fAnswers, [], []) = some (if (wholeP (fit0 m true [] [] [])).2 ≠ 0 ∨ ((wholeP (fit0 m true [] [] [])).1.size : Int) ≤ min l 4096 then .inr (.inr (wholeP (fit0 m true [] [] []))) else .inl (4, true, [], [], [])) := by
    rw [← hS]; simp only [m_message_Fit_s2]; rw [if_pos (by omega), if_neg (by omega), if_neg (by omega), if_pos trivial, fit_j3 o3, w64_id (by omega) (by omega)] <;> rfl
  have s4 : S (4, true, [], [], []) = some (.inr (.inl ())) := by
    rw [← hS]; simp only [m_message_Fit_s2]; rw [if_neg (by omega)]
  unfold fitP tryF
  by_cases c0 : (wholeP (fit0 m m.fTruncated m.fAnswers m.fAuthorities m.fExtras)).2 ≠ 0 ∨ ((wholeP (fit0 m m.fTruncated m.fAnswers m.fAuthorities m.fExtras)).1.size : Int) ≤ min l 4096
  · rw [if_pos c0] at s0
    rw [loop_inr s0, if_pos c0]; rfl
  rw [if_neg c0] at s0
  rw [loop_inl s0, if_neg c0]
  by_cases c1 : (wholeP (fit0 m m.fTruncated m.fAnswers m.fAuthorities [])).2 ≠ 0 ∨ ((wholeP (fit0 m m.fTruncated m.fAnswers m.fAuthorities [])).1.size : Int) ≤ min l 4096
  · rw [if_pos c1] at s1
    erw [loop_inr s1]
    rw [if_pos c1]; rfl
  rw [if_neg c1] at s1
  erw [loop_inl s1]
  rw [if_neg c1]
  by_cases c2 : (wholeP (fit0 m m.fTruncated m.fAnswers [] [])).2 ≠ 0 ∨ ((wholeP (fit0 m m.fTruncated m.fAnswers [] [])).1.size : Int) ≤ min l 4096
  · rw [if_pos c2] at s2
    erw [loop_inr s2]
    rw [if_pos c2]; rfl
  rw [if_neg c2] at s2
  erw [loop_inl s2]
  rw [if_neg c2]
  by_cases c3 : (wholeP (fit0 m true [] [] [])).2 ≠ 0 ∨ ((wholeP (fit0 m true [] [] [])).1.size : Int) ≤ min l 4096
  · rw [if_pos c3] at s3
    erw [loop_inr s3]
    rw [if_pos c3]; rfl
  rw [if_neg c3] at s3
  erw [loop_inl s3]
  erw [loop_inr s4]
  rw [if_neg c3]; rfl
theorem whole_bad {m : GMessage} (h : (wholeP m).2 ≠ 0) : (wholeP m).1 = ⟨#[]⟩ := by
  unfold wholeP at h ⊢
  split
  · rfl
  · split
    · rfl
    · rename_i h1 h2; rw [if_neg h1, if_neg h2] at h; exact absurd rfl h
theorem rbytes_eq {m : GMessage} (h : okMsg m) : m_ref06_Bytes m = some (if (wholeP m).2 = 0 ∧ 4096 < ((wholeP m).1.size : Int) then (⟨#[]⟩, 11) else wholeP m) := by
  rw [m_ref06_Bytes, all_eq h, Option.bind_some]
  by_cases c1 : (wholeP m).2 = 0
  · rw [if_pos c1]
    by_cases c2 : 4096 < ((wholeP m).1.size : Int)
    · rw [if_pos c2, if_pos ⟨c1, c2⟩]
    · rw [if_neg c2, if_neg (fun h => c2 h.2)]; rfl
  · rw [if_neg c1, if_neg (fun h => c1 h.1)]; rfl
theorem rfit_s {m : GMessage} {l i : Int} (hi : i < 4) {b : Bool} {A U E : List GRR} (h : okMsg (fit0 m b A U E)) :
    m_ref06_Fit_s2 m l i b A U E = if (wholeP (fit0 m b A U E)).2 ≠ 0 ∨ ((wholeP (fit0 m b A U E)).1.size : Int) ≤ min l 4096 then some (.inr (.inr (wholeP (fit0 m b A U E)))) else m_ref06_Fit_j4 i b A U E := by
  have h1 := rbytes_eq h
  have h2 : m_ref06_long (fit0 m b A U E) = some (decide ((wholeP (fit0 m b A U E)).2 = 0)) := by rw [m_ref06_long, all_eq h, Option.bind_some]
  rw [m_ref06_Fit_s2, if_pos hi]
  erw [h1]
  rw [Option.bind_some]
  by_cases c1 : (wholeP (fit0 m b A U E)).2 = 0
  · by_cases c2 : 4096 < ((wholeP (fit0 m b A U E)).1.size : Int)
    · have hB : (if (wholeP (fit0 m b A U E)).2 = 0 ∧ 4096 < ((wholeP (fit0 m b A U E)).1.size : Int) then ((⟨#[]⟩ : ByteArray), (11 : Int)) else wholeP (fit0 m b A U E)) = (⟨#[]⟩, 11) := if_pos ⟨c1, c2⟩
      rw [hB, if_pos (by decide), if_neg (fun h => h rfl), if_pos rfl]
      erw [h2]
      rw [Option.bind_some, if_pos (decide_eq_true c1), m_ref06_Fit_j3, if_neg (by decide), if_neg (fun h => h.elim (fun h => h c1) (fun h => by omega))]
    · have hB : (if (wholeP (fit0 m b A U E)).2 = 0 ∧ 4096 < ((wholeP (fit0 m b A U E)).1.size : Int) then ((⟨#[]⟩ : ByteArray), (11 : Int)) else wholeP (fit0 m b A U E)) = wholeP (fit0 m b A U E) := if_neg (fun h => c2 h.2)
      rw [hB, if_neg (fun h => h c1), if_neg (by omega), m_ref06_Fit_j3, if_pos c1]
      by_cases c3 : ((wholeP (fit0 m b A U E)).1.size : Int) ≤ l
      · rw [if_pos c3, if_pos (.inr (by omega)), ← c1]
      · rw [if_neg c3, if_neg (fun h => h.elim (fun h => h c1) (fun h => by omega))]
  · have hb := whole_bad c1
    have hB : (if (wholeP (fit0 m b A U E)).2 = 0 ∧ 4096 < ((wholeP (fit0 m b A U E)).1.size : Int) then ((⟨#[]⟩ : ByteArray), (11 : Int)) else wholeP (fit0 m b A U E)) = wholeP (fit0 m b A U E) := if_neg (fun h => c1 h.1)
    have hw : wholeP (fit0 m b A U E) = (⟨#[]⟩, (wholeP (fit0 m b A U E)).2) := Prod.ext hb rfl
    rw [hB, if_pos c1]
    refine Eq.trans ?_ (if_pos (.inl c1)).symm
    by_cases c2 : (wholeP (fit0 m b A U E)).2 ≠ 11
    · rw [if_pos c2]; exact congrArg (fun z => some (Sum.inr (Sum.inr z))) hw.symm
    · rw [if_neg c2, if_pos (Classical.not_not.1 c2)]
      erw [h2]
      rw [Option.bind_some, if_neg (by rw [decide_eq_false c1]; decide)]
      exact congrArg (fun z => some (Sum.inr (Sum.inr z))) hw.symm
theorem rj4_0 (b : Bool) (A U E : List GRR) : m_ref06_Fit_j4 0 b A U E = some (.inl (1, b, A, U, [])) := by
  simp only [m_ref06_Fit_j4, m_ref06_Fit_j5, m_ref06_Fit_j6]
  rfl
theorem rj4_1 (b : Bool) (A U E : List GRR) : m_ref06_Fit_j4 1 b A U E = some (.inl (2, b, A, [], E)) := by
  simp only [m_ref06_Fit_j4, m_ref06_Fit_j5, m_ref06_Fit_j6]
  rfl
theorem rj4_2 (b : Bool) (A U E : List GRR) : m_ref06_Fit_j4 2 b A U E = some (.inl (3, true, [], U, E)) := by
  simp only [m_ref06_Fit_j4, m_ref06_Fit_j5, m_ref06_Fit_j6]
  rfl
theorem rj4_3 (b : Bool) (A U E : List GRR) : m_ref06_Fit_j4 3 b A U E = some (.inl (4, b, A, U, E)) := by
  simp only [m_ref06_Fit_j4, m_ref06_Fit_j5, m_ref06_Fit_j6]
  rfl
theorem fit_ref {m : GMessage} (h : okMsg m) (l : Int) : m_ref06_Fit m l = some (fitP m l) := by
  have hA := h.2.2.1
  have hU := h.2.2.2.1
  have hE := h.2.2.2.2.1
  have lA := h.2.2.2.2.2.2.1
  have lU := h.2.2.2.2.2.2.2.1
  have lE := h.2.2.2.2.2.2.2.2
  have hn : (∀ r ∈ ([] : List GRR), okT r) ∧ ([] : List GRR).length ≤ 5000 := ⟨fun _ h => (by cases h), by simp⟩
  have o0 := ok_fit h (b := m.fTruncated) ⟨hA, lA⟩ ⟨hU, lU⟩ ⟨hE, lE⟩
  have o1 := ok_fit h (b := m.fTruncated) ⟨hA, lA⟩ ⟨hU, lU⟩ hn
  have o2 := ok_fit h (b := m.fTruncated) ⟨hA, lA⟩ hn hn
  have o3 := ok_fit h (b := true) hn hn hn
  rw [m_ref06_Fit]
  generalize hS : (fun s : Int × Bool × List GRR × List GRR × List GRR => m_ref06_Fit_s2 m l s.1 s.2.1 s.2.2.1 s.2.2.2.1 s.2.2.2.2) = S
  have s0 : S (0, m.fTruncated, m.fAnswers, m.fAuthorities, m.fExtras) = if (wholeP (fit0 m m.fTruncated m.fAnswers m.fAuthorities m.fExtras)).2 ≠ 0 ∨ ((wholeP (fit0 m m.fTruncated m.fAnswers m.fAuthorities m.fExtras)).1.size : Int) ≤ min l 4096 then some (.inr (.inr (wholeP (fit0 m m.fTruncated m.fAnswers m.fAuthorities m.fExtras)))) else some (.inl (1, m.fTruncated, m.fAnswers, m.fAuthorities, [])) := by
    rw [← hS]; simp only []; rw [rfit_s (by decide) o0, rj4_0]
  have s1 : S (1, m.fTruncated, m.fAnswers, m.fAuthorities, []) = if (wholeP (fit0 m m.fTruncated m.fAnswers m.fAuthorities [])).2 ≠ 0 ∨ ((wholeP (fit0 m m.fTruncated m.fAnswers m.fAuthorities [])).1.size : Int) ≤ min l 4096 then some (.inr (.inr (wholeP (fit0 m m.fTruncated m.fAnswers m.fAuthorities [])))) else some (.inl (2, m.fTruncated, m.fAnswers, [], [])) := by
    rw [← hS]; simp only []; rw [rfit_s (by decide) o1, rj4_1]
  have s2 : S (2, m.fTruncated, m.fAnswers, [], []) = if (wholeP (fit0 m m.fTruncated m.fAnswers [] [])).2 ≠ 0 ∨ ((wholeP (fit0 m m.fTruncated m.fAnswers [] [])).1.size : Int) ≤ min l 4096 then some (.inr (.inr (wholeP (fit0 m m.fTruncated m.fAnswers [] [])))) else some (.inl (3, true, [], [], [])) := by
    rw [← hS]; simp only []; rw [rfit_s (by decide) o2, rj4_2]
  have s3 : S (3, true, [], [], []) = if (wholeP (fit0 m true [] [] [])).2 ≠ 0 ∨ ((wholeP (fit0 m true [] [] [])).1.size : Int) ≤ min l 4096 then some (.inr (.inr (wholeP (fit0 m true [] [] [])))) else some (.inl (4, true, [], [], [])) := by
    rw [← hS]; simp only []; rw [rfit_s (by decide) o3, rj4_3]
  have s4 : S (4, true, [], [], []) = some (.inr (.inl ())) := by
    rw [← hS]; simp only [m_ref06_Fit_s2]; rw [if_neg (by omega)]
  unfold fitP tryF
  by_cases c0 : (wholeP (fit0 m m.fTruncated m.fAnswers m.fAuthorities m.fExtras)).2 ≠ 0 ∨ ((wholeP (fit0 m m.fTruncated m.fAnswers m.fAuthorities m.fExtras)).1.size : Int) ≤ min l 4096
  · rw [if_pos c0] at s0
    rw [loop_inr s0, if_pos c0]; rfl
  rw [if_neg c0] at s0
  rw [loop_inl s0, if_neg c0]
  by_cases c1 : (wholeP (fit0 m m.fTruncated m.fAnswers m.fAuthorities [])).2 ≠ 0 ∨ ((wholeP (fit0 m m.fTruncated m.fAnswers m.fAuthorities [])).1.size : Int) ≤ min l 4096
  · rw [if_pos c1] at s1
    erw [loop_inr s1]
    rw [if_pos c1]; rfl
  rw [if_neg c1] at s1
  erw [loop_inl s1]
  rw [if_neg c1]
  by_cases c2 : (wholeP (fit0 m m.fTruncated m.fAnswers [] [])).2 ≠ 0 ∨ ((wholeP (fit0 m m.fTruncated m.fAnswers [] [])).1.size : Int) ≤ min l 4096
  · rw [if_pos c2] at s2
    erw [loop_inr s2]
    rw [if_pos c2]; rfl
  rw [if_neg c2] at s2
  erw [loop_inl s2]
  rw [if_neg c2]
  by_cases c3 : (wholeP (fit0 m true [] [] [])).2 ≠ 0 ∨ ((wholeP (fit0 m true [] [] [])).1.size : Int) ≤ min l 4096
  · rw [if_pos c3] at s3
    erw [loop_inr s3]
    rw [if_pos c3]; rfl
  rw [if_neg c3] at s3
  erw [loop_inl s3]
  erw [loop_inr s4]
  rw [if_neg c3]; rfl
theorem q_MessageFits (p0 : GMessage) (p1 : Int) (h0 : GMessage.ok p0) (h1 : -9223372036854775808 ≤ p1 ∧ p1 ≤ 9223372036854775807) : m_law06_MessageFits p0 p1 = some true := by
  obtain ⟨x, hx, hs⟩ := small6_of h0
  have ho := small_okM hs
  rw [m_law06_MessageFits, awake06, Option.bind_some, hx, Option.bind_some, fit_code ho, Option.bind_some, fit_ref ho, Option.bind_some, if_pos rfl, if_pos rfl, if_pos rfl]
  by_cases c : (fitP x p1).2 ≠ 0
  · rw [if_pos c]
  · have := fitP_ok (Classical.not_not.1 c)
    rw [if_neg c, if_pos (by omega), decide_eq_true (by omega)]
open Go.RowKit
open Go.RowKit
open Go.RowKit
end Go.Proofs.Ytpdhdpefdgndeaa
