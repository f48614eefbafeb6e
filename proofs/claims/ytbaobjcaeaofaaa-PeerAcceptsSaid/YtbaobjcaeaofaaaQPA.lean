import Derived.Test.YtbaobjcaeaofaaaKPA
set_option linter.unusedVariables false
set_option linter.unusedSimpArgs false
set_option maxRecDepth 16384
namespace Go.Proofs.Ytbaobjcaeaofaaa
open Go.RowKit
def encB (ls : List ByteArray) : List Int := ls.flatMap fun s => (s.size : Int) :: bytesI s
def okLs (ls : List ByteArray) : Prop := ∀ s ∈ ls, 1 ≤ s.size ∧ s.size ≤ 63
instance (ls : List ByteArray) : Decidable (okLs ls) := by unfold okLs; infer_instance
/-- n is the name of the labels ls. -/
def Nm (n : ByteArray) (ls : List ByteArray) : Prop := okLs ls ∧ bytesI n = encB ls ++ [0]
def starts : Nat → List ByteArray → List (Int × ByteArray)
  | _, [] => []
  | a, s :: ls => ((a : Int), s) :: starts (a + 1 + s.size) ls
/-- The bytes of a row are at its end: nothing, or a 0 ahead. -/
def endR (l : List Int) : Prop := l = [] ∨ ∃ r, l = 0 :: r
theorem encB_cons (s : ByteArray) (ls : List ByteArray) : encB (s :: ls) = (s.size : Int) :: bytesI s ++ encB ls := by simp [encB]
theorem encB_range {ls : List ByteArray} (h : okLs ls) : ∀ x ∈ encB ls, 0 ≤ x ∧ x ≤ 255 := by
  intro x hx
  obtain ⟨s, hs, hx⟩ := List.mem_flatMap.1 hx
  have := h s hs
  rcases List.mem_cons.1 hx with rfl | hx
  · omega
  · exact bytesI_range s x hx
theorem drop_byte {n : ByteArray} {a : Nat} {x : Int} {r : List Int} (h : (bytesI n).drop a = x :: r) : a < n.size ∧ byteAt n (a : Int) = x ∧ (bytesI n).drop (a + 1) = r := by
  have hl : a < (bytesI n).length := by
    by_cases hc : a < (bytesI n).length
    · exact hc
    · rw [List.drop_of_length_le (by omega)] at h; cases h
  have hs : a < n.size := by rw [size_bytes]; exact hl
  rw [List.drop_eq_getElem_cons hl] at h
  injection h with h1 h2
  rw [bytesI_get n a hs] at h1
  exact ⟨hs, h1, h2⟩
theorem drop_app {n : ByteArray} {a : Nat} {s : ByteArray} {r : List Int} (h : (bytesI n).drop a = bytesI s ++ r) : n.extract a (a + s.size) = s ∧ a + s.size ≤ max n.size a ∧ (bytesI n).drop (a + s.size) = r := by
  have hs := size_bytes s
  have hn := size_bytes n
  have hl := congrArg List.length h
  rw [List.length_drop, List.length_append] at hl
  refine ⟨bytesI_inj ?_, by omega, ?_⟩
  · rw [bytesI_extract, List.drop_take, h, show a + s.size - a = (bytesI s).length by omega, List.take_left]
  · rw [← List.drop_drop, h, hs, List.drop_left]
theorem drop_none {n : ByteArray} {a : Nat} (h : (bytesI n).drop a = []) : n.size ≤ a := by
  rw [size_bytes]; exact List.drop_eq_nil_iff.1 h
theorem okLs_cons {s : ByteArray} {ls : List ByteArray} : okLs (s :: ls) ↔ (1 ≤ s.size ∧ s.size ≤ 63) ∧ okLs ls := by
  simp [okLs]
theorem eachAt_end {n : ByteArray} {a : Nat} (h : endR ((bytesI n).drop a)) (f : Nat) : eachAt n f a = ([], (a : Int)) := by
  cases f with
  | zero => rfl
  | succ f =>
    rw [eachAt, if_neg]
    rcases h with h | ⟨r, h⟩
    · have := drop_none h; omega
    · have := (drop_byte h).2.1; simp [this]
theorem eachAt_enc {n : ByteArray} {rest : List Int} (hr : endR rest) : ∀ (ls : List ByteArray) (a f : Nat), okLs ls → (bytesI n).drop a = encB ls ++ rest → ls.length ≤ f →
    eachAt n f a = (starts a ls, ((a + (encB ls).length : Nat) : Int)) := by
  intro ls
  induction ls with
  | nil =>
    intro a f _ h _
    exact eachAt_end (by rw [h]; exact hr) f
  | cons s ls ih =>
    intro a f hok h hf
    obtain ⟨hs, hok⟩ := okLs_cons.1 hok
    obtain ⟨f, rfl⟩ : ∃ g, f = g + 1 := ⟨f - 1, by simp at hf; omega⟩
    rw [encB_cons] at h
    simp only [List.cons_append, List.append_assoc] at h
    obtain ⟨h1, h2, h3⟩ := drop_byte h
    obtain ⟨h4, h5, h6⟩ := drop_app h3
    rw [eachAt, if_pos ⟨h1, by rw [h2]; omega⟩, h2, if_neg (by omega)]
    have := ih (a + 1 + s.size) f hok (by rw [← h6]) (by simp at hf; omega)
    simp only [Int.toNat_natCast]
    rw [this, h4, starts, encB_cons]
    congr 2
    simp only [List.length_append, List.length_cons, ← size_bytes]
    omega
theorem eachAt_any {n : ByteArray} : ∀ (f a : Nat), n.size ≤ a + f → a ≤ n.size → (eachAt n f a).2 = -1 ∨ ∃ ls rest, okLs ls ∧ (bytesI n).drop a = encB ls ++ rest ∧ endR rest := by
  intro f
  induction f with
  | zero =>
    intro a h1 h2
    exact .inr ⟨[], [], (fun _ h => by cases h), by rw [List.drop_of_length_le (by rw [← size_bytes]; omega)]; rfl, .inl rfl⟩
  | succ f ih =>
    intro a h1 h2
    rw [eachAt]
    by_cases hc : a < n.size ∧ byteAt n a ≠ 0
    · rw [if_pos hc]
      by_cases hb : 63 < byteAt n a ∨ n.size < a + 1 + (byteAt n a).toNat
      · rw [if_pos hb]; exact .inl rfl
      · rw [if_neg hb]
        have hr := byteAt_lt n a
        rcases ih (a + 1 + (byteAt n a).toNat) (by omega) (by omega) with h | ⟨ls, rest, h3, h4, h5⟩
        · exact .inl h
        · have hsz : (n.extract (a + 1) (a + 1 + (byteAt n a).toNat)).size = (byteAt n a).toNat := by
            rw [ByteArray.size_extract]; omega
          refine .inr ⟨n.extract (a + 1) (a + 1 + (byteAt n a).toNat) :: ls, rest, okLs_cons.2 ⟨by rw [hsz]; omega, h3⟩, ?_, h5⟩
          have hl : a < (bytesI n).length := by rw [← size_bytes]; exact hc.1
          rw [List.drop_eq_getElem_cons hl, bytesI_get n a hc.1, encB_cons, hsz, bytesI_extract]
          simp only [List.cons_append, List.append_assoc]
          have h6 : (bytesI n).drop (a + 1 + (byteAt n a).toNat) = ((bytesI n).drop (a + 1)).drop (byteAt n a).toNat := by rw [List.drop_drop]
          rw [← h4, List.drop_take, h6, show a + 1 + (byteAt n a).toNat - (a + 1) = (byteAt n a).toNat by omega, List.take_append_drop]
          congr 1
          omega
    · rw [if_neg hc]
      refine .inr ⟨[], (bytesI n).drop a, (fun _ h => by cases h), rfl, ?_⟩
      by_cases ha : a < n.size
      · have hl : a < (bytesI n).length := by rw [← size_bytes]; exact ha
        have : byteAt n a = 0 := Classical.byContradiction fun h => hc ⟨ha, h⟩
        rw [List.drop_eq_getElem_cons hl, bytesI_get n a ha, this]
        exact .inr ⟨_, rfl⟩
      · rw [List.drop_of_length_le (by rw [← size_bytes]; omega)]; exact .inl rfl
theorem nm_size {n : ByteArray} {ls : List ByteArray} (h : Nm n ls) : n.size = (encB ls).length + 1 := by
  rw [size_bytes, h.2]; simp
theorem len_enc (ls : List ByteArray) : ls.length ≤ (encB ls).length := by
  induction ls with
  | nil => simp
  | cons s ls ih => rw [encB_cons]; simp; omega
theorem each_nm {n : ByteArray} {ls : List ByteArray} (h : Nm n ls) : eachP n = (starts 0 ls, (n.size : Int) - 1) := by
  have hl := len_enc ls
  have hs := nm_size h
  rw [eachP, eachAt_enc (rest := [0]) (.inr ⟨[], rfl⟩) ls 0 n.size h.1 (by rw [List.drop_zero, h.2]) (by omega)]
  congr 1
  omega
theorem each_no {n : ByteArray} (h : ¬ ∃ ls, Nm n ls) : (eachP n).2 ≠ (n.size : Int) - 1 ∨ (eachP n).2 < 0 := by
  rcases eachAt_any (n := n) n.size 0 (by omega) (by omega) with h1 | ⟨ls, rest, h1, h2, h3⟩
  · rw [eachP, h1]; exact .inr (by omega)
  · left
    have hl := len_enc ls
    have hlen := congrArg List.length h2
    rw [List.drop_zero, ← size_bytes, List.length_append] at hlen
    rw [eachP, eachAt_enc h3 ls 0 n.size h1 h2 (by omega)]
    intro hc
    refine h ⟨ls, h1, ?_⟩
    rw [List.drop_zero] at h2
    rw [h2]
    congr 1
    simp only at hc
    rcases h3 with rfl | ⟨r, rfl⟩
    · simp at hlen; omega
    · simp only [List.length_cons] at hlen
      rw [List.length_eq_zero_iff.1 (by omega : r.length = 0)]
theorem starts_snd (a : Nat) (ls : List ByteArray) : (starts a ls).map Prod.snd = ls := by
  induction ls generalizing a with
  | nil => rfl
  | cons s ls ih => simp [starts, ih]
theorem nm_inj {n : ByteArray} {a b : List ByteArray} (h : Nm n a) (h' : Nm n b) : a = b := by
  have := (each_nm h).symm.trans (each_nm h')
  injection this with h1 _
  have := congrArg (List.map Prod.snd) h1
  rwa [starts_snd, starts_snd] at this
/-- The name that labels make. -/
def mkN (ls : List ByteArray) : ByteArray := strOfNums (encB ls ++ [0])
theorem mkN_nm {ls : List ByteArray} (h : okLs ls) : Nm (mkN ls) ls := ⟨h, by
  rw [mkN, bytesI_str]
  intro x hx
  rcases List.mem_append.1 hx with hx | hx
  · exact encB_range h x hx
  · simp only [List.mem_singleton] at hx; omega⟩
theorem nm_mk {n : ByteArray} {ls : List ByteArray} (h : Nm n ls) : n = mkN ls := bytesI_inj (by rw [h.2, (mkN_nm h.1).2])
theorem nm_eq {n m : ByteArray} {ls : List ByteArray} (h : Nm n ls) (h' : Nm m ls) : n = m := (nm_mk h).trans (nm_mk h').symm
open Go.RowKit
theorem eachM_of {n : ByteArray} (hs : n.size ≤ 1099511627776) : eachM n = some (eachP n) := if_pos hs
theorem labels_nm {n : ByteArray} {ls : List ByteArray} (h : Nm n ls) (hs : n.size ≤ 255) : m_name_Labels n = some (ls, 0) := by
  have := nm_size h
  rw [m_name_Labels, eachM_of (by omega), Option.bind_some, each_nm h, w64_id (by omega) (by omega), if_neg (fun h => h rfl), if_neg (by omega), if_neg (by omega), starts_snd]
theorem labels_big {n : ByteArray} {ls : List ByteArray} (h : Nm n ls) (hs : 255 < n.size) (hb : n.size ≤ 1099511627776) : m_name_Labels n = some ([], 11) := by
  rw [m_name_Labels, eachM_of (by omega), Option.bind_some, each_nm h, w64_id (by omega) (by omega), if_neg (fun h => h rfl), if_neg (by omega), if_pos (by omega)]
theorem labels_no {n : ByteArray} (h : ¬ ∃ ls, Nm n ls) (hb : n.size ≤ 1099511627776) : m_name_Labels n = some ([], 10) := by
  rw [m_name_Labels, eachM_of (by omega), Option.bind_some, w64_id (by omega) (by omega)]
  rcases each_no h with h | h
  · rw [if_pos h]
  · rw [if_pos h]
    split <;> rfl
theorem check_nm {n : ByteArray} {ls : List ByteArray} (h : Nm n ls) (hs : n.size ≤ 255) : m_name_Check n = some 0 := by
  rw [m_name_Check, labels_nm h hs]; rfl
theorem check_big {n : ByteArray} {ls : List ByteArray} (h : Nm n ls) (hs : 255 < n.size) (hb : n.size ≤ 1099511627776) : m_name_Check n = some 11 := by
  rw [m_name_Check, labels_big h hs hb]; rfl
theorem check_no {n : ByteArray} (h : ¬ ∃ ls, Nm n ls) (hb : n.size ≤ 1099511627776) : m_name_Check n = some 10 := by
  rw [m_name_Check, labels_no h hb]; rfl
theorem nm_cases (n : ByteArray) : (∃ ls, Nm n ls ∧ n.size ≤ 255) ∨ (∃ ls, Nm n ls ∧ 255 < n.size) ∨ ¬ ∃ ls, Nm n ls := by
  by_cases h : ∃ ls, Nm n ls
  · obtain ⟨ls, h⟩ := h
    by_cases hs : n.size ≤ 255
    · exact .inl ⟨ls, h, hs⟩
    · exact .inr (.inl ⟨ls, h, by omega⟩)
  · exact .inr (.inr h)
theorem row_step {n : ByteArray} (hn : n.size ≤ 1099511627776) {a : Nat} {out : List ByteArray} (ha : a ≤ n.size) (ho : out.length ≤ a) :
    m_ref03_row_s2 n out (a : Int) = if a < n.size ∧ byteAt n a ≠ 0 then (if 63 < byteAt n a ∨ n.size < a + 1 + (byteAt n a).toNat then some (.inr (.inr ([], false)))
      else some (.inl (out ++ [n.extract (a + 1) (a + 1 + (byteAt n a).toNat)], ((a + 1 + (byteAt n a).toNat : Nat) : Int)))) else some (.inr (.inl (out, (a : Int)))) := by
  rw [m_ref03_row_s2]
  by_cases hc : a < n.size
  · have hb := byteAt_lt n a
    rw [if_pos (show (a : Int) < n.size by omega), sat_of (by omega) (by omega), Option.bind_some]
    by_cases h0 : byteAt n a ≠ 0
    · rw [if_pos h0, if_pos ⟨hc, h0⟩, Option.bind_some, w64_id (by omega) (by omega)]
      by_cases h1 : 63 < byteAt n a
      · rw [if_pos h1, if_pos (.inl h1)]
      · rw [if_neg h1, w64_id (x := (a : Int) + 1) (by omega) (by omega), w64_id (x := (a : Int) + 1 + byteAt n a) (by omega) (by omega)]
        by_cases h2 : n.size < a + 1 + (byteAt n a).toNat
        · rw [if_pos (by omega), if_pos (.inr h2)]
        · rw [if_neg (by omega), if_neg (by omega), scutMid, if_pos ⟨by omega, by omega, by omega⟩, Option.bind_some, app_of (by simp; omega), Option.bind_some,
            show ((a : Int) + 1).toNat = a + 1 by omega, show ((a : Int) + 1 + byteAt n a).toNat = a + 1 + (byteAt n a).toNat by omega]
          congr 4
          omega
    · rw [if_neg h0, if_neg (fun h => h0 h.2)]
  · rw [if_neg (by omega), if_neg (fun h => hc h.1)]
theorem row_loop {n : ByteArray} (hn : n.size ≤ 1099511627776) : ∀ (f a : Nat) (out : List ByteArray), n.size ≤ a + f → a ≤ n.size → out.length ≤ a →
    loop (fun s => m_ref03_row_s2 n s.1 s.2) (out, (a : Int)) = some (if (eachAt n f a).2 = -1 then .inr ([], false) else .inl (out ++ (eachAt n f a).1.map Prod.snd, (eachAt n f a).2)) := by
  intro f
  induction f with
  | zero =>
    intro a out h1 h2 h3
    rw [loop_inr (by simp only [row_step hn h2 h3]; rw [if_neg (by omega)])]
    simp only [eachAt, List.map_nil, List.append_nil]
    rw [if_neg (by omega)]
  | succ f ih =>
    intro a out h1 h2 h3
    have hb := byteAt_lt n a
    by_cases hc : a < n.size ∧ byteAt n a ≠ 0
    · by_cases h4 : 63 < byteAt n a ∨ n.size < a + 1 + (byteAt n a).toNat
      · rw [loop_inr (by simp only [row_step hn h2 h3]; rw [if_pos hc, if_pos h4])]
        rw [eachAt, if_pos hc, if_pos h4, if_pos rfl]
      · rw [loop_inl (by simp only [row_step hn h2 h3]; rw [if_pos hc, if_neg h4]), ih _ _ (by omega) (by omega) (by simp; omega)]
        rw [eachAt, if_pos hc, if_neg h4]
        simp only [List.map_cons, List.append_assoc, List.singleton_append]
    · rw [loop_inr (by simp only [row_step hn h2 h3]; rw [if_neg hc])]
      rw [eachAt, if_neg hc]
      simp only [List.map_nil, List.append_nil]
      rw [if_neg (by omega)]
theorem row_nm {n : ByteArray} {ls : List ByteArray} (h : Nm n ls) (hb : n.size ≤ 1099511627776) : m_ref03_row n = some (ls, true) := by
  have hs := nm_size h
  have := row_loop hb n.size 0 [] (by omega) (by omega) (by simp)
  rw [← eachP, each_nm h, if_neg (by simp only; omega)] at this
  rw [m_ref03_row]
  erw [this]
  simp only [Option.bind_some, Sum.elim_inl, m_ref03_row_j1, List.nil_append, starts_snd]
  rw [w64_id (by omega) (by omega), decide_eq_true rfl]
theorem row_no {n : ByteArray} (h : ¬ ∃ ls, Nm n ls) (hb : n.size ≤ 1099511627776) : ∃ l, m_ref03_row n = some (l, false) := by
  have := row_loop hb n.size 0 [] (by omega) (by omega) (by simp)
  rw [← eachP] at this
  rw [m_ref03_row]
  erw [this]
  by_cases h1 : (eachP n).2 = -1
  · rw [if_pos h1]; exact ⟨_, rfl⟩
  · rw [if_neg h1]
    refine ⟨[] ++ (eachP n).1.map Prod.snd, ?_⟩
    simp only [Option.bind_some, Sum.elim_inl, m_ref03_row_j1]
    rw [w64_id (by omega) (by omega)]
    rw [decide_eq_false]
    intro h2
    rcases each_no h with h3 | h3
    · exact h3 h2
    · rcases eachAt_any (n := n) n.size 0 (by omega) (by omega) with h4 | ⟨ls, rest, h4, h5, h6⟩
      · exact h1 h4
      · have hl := len_enc ls
        have hlen := congrArg List.length h5
        rw [List.drop_zero, ← size_bytes, List.length_append] at hlen
        rw [eachP, eachAt_enc h6 ls 0 n.size h4 h5 (by omega)] at h3
        simp only at h3
        omega
theorem rcheck_nm {n : ByteArray} {ls : List ByteArray} (h : Nm n ls) (hs : n.size ≤ 255) : m_ref03_Check n = some 0 := by
  rw [m_ref03_Check, row_nm h (by omega)]
  simp only [Option.bind_some, if_true]
  rw [if_neg (by omega)]
theorem rcheck_big {n : ByteArray} {ls : List ByteArray} (h : Nm n ls) (hs : 255 < n.size) (hb : n.size ≤ 1099511627776) : m_ref03_Check n = some 11 := by
  rw [m_ref03_Check, row_nm h (by omega)]
  simp only [Option.bind_some, if_true]
  rw [if_pos (by omega)]
theorem rcheck_no {n : ByteArray} (h : ¬ ∃ ls, Nm n ls) (hb : n.size ≤ 1099511627776) : m_ref03_Check n = some 10 := by
  obtain ⟨l, hl⟩ := row_no h hb
  rw [m_ref03_Check, hl]
  simp
theorem rlabels_nm {n : ByteArray} {ls : List ByteArray} (h : Nm n ls) (hs : n.size ≤ 255) : m_ref03_Labels n = some (ls, 0) := by
  rw [m_ref03_Labels, rcheck_nm h hs, Option.bind_some, if_neg (by simp), row_nm h (by omega)]; rfl
theorem rlabels_big {n : ByteArray} {ls : List ByteArray} (h : Nm n ls) (hs : 255 < n.size) (hb : n.size ≤ 1099511627776) : m_ref03_Labels n = some ([], 11) := by
  rw [m_ref03_Labels, rcheck_big h hs hb]; rfl
theorem rlabels_no {n : ByteArray} (h : ¬ ∃ ls, Nm n ls) (hb : n.size ≤ 1099511627776) : m_ref03_Labels n = some ([], 10) := by
  rw [m_ref03_Labels, rcheck_no h hb]; rfl
theorem size_nil {s : ByteArray} : s = (⟨#[]⟩ : ByteArray) ↔ s.size = 0 := by
  constructor
  · rintro rfl; rfl
  · intro h
    apply bytesI_inj
    have : (bytesI s).length = 0 := by rw [← size_bytes]; exact h
    rw [List.length_eq_zero_iff.1 this]; rfl
open Go.RowKit
def low (c : Int) : Int := if 65 ≤ c ∧ c ≤ 90 then c + 32 else c
def lowB (n : ByteArray) : ByteArray := strOfNums ((bytesI n).map low)
theorem low_range {c : Int} (h : 0 ≤ c ∧ c ≤ 255) : 0 ≤ low c ∧ low c ≤ 255 := by unfold low; split <;> omega
theorem lowB_bytes (n : ByteArray) : bytesI (lowB n) = (bytesI n).map low := bytesI_str (by
  intro x hx
  obtain ⟨y, hy, rfl⟩ := List.mem_map.1 hx
  exact low_range (bytesI_range n y hy))
theorem lowB_size (n : ByteArray) : (lowB n).size = n.size := by rw [size_bytes, lowB_bytes, List.length_map, ← size_bytes]
theorem or_low {c : Int} (h : 65 ≤ c ∧ c ≤ 90) : orI .u8 c 32 = c + 32 := by
  obtain ⟨k, hk⟩ := Int.eq_ofNat_of_zero_le (by omega : 0 ≤ c - 65)
  have hc : c = 65 + (k : Int) := by omega
  subst hc
  have : ∀ k : Fin 26, orI .u8 (65 + ((k.val : Nat) : Int)) 32 = 65 + ((k.val : Nat) : Int) + 32 := by decide +kernel
  exact this ⟨k, by omega⟩
/-- One byte after the other made small. -/
theorem low_loop (step : List Int → Int → Option ((List Int × Int) ⊕ List Int)) {n : ByteArray} (hn : n.size ≤ 1099511627776)
    (hs : ∀ (l : List Int) (k : Nat), l.length = n.size → step l (k : Int) = if k < n.size then some (.inl (l.set k (low (l.getD k 0)), ((k + 1 : Nat) : Int))) else some (.inr l)) :
    loop (fun s => step s.1 s.2) (bytesI n, 0) = some ((bytesI n).map low) := by
  have hl := size_bytes n
  refine loop_run (step := fun s => step s.1 s.2) n.size (fun k => (((bytesI n).take k).map low ++ (bytesI n).drop k, (k : Int))) _ (by simp) (fun k hk => ?_) ?_
  · rw [hs _ _ (by simp; omega), if_pos hk]
    congr 3
    have e1 : (bytesI n).drop k = (bytesI n)[k] :: (bytesI n).drop (k + 1) := List.drop_eq_getElem_cons (by omega)
    rw [e1, List.take_succ_eq_append_getElem (by omega), List.map_append]
    have hlen : (((bytesI n).take k).map low).length = k := by simp; omega
    rw [List.getD_eq_getElem?_getD, List.getElem?_append_right (by omega), hlen, Nat.sub_self, List.set_append_right _ _ (by omega), hlen, Nat.sub_self]
    simp only [List.set_cons_zero, List.getElem?_cons_zero, Option.getD_some, List.map_cons, List.map_nil, List.append_assoc, List.cons_append, List.nil_append]
  · rw [hs _ _ (by simp; omega), if_neg (by omega), List.take_of_length_le (by omega), List.drop_of_length_le (by omega), List.append_nil]
theorem at_getD0 {l : List Int} {k : Nat} (h : k < l.length) : at_ l (k : Int) = some (l.getD k 0) := by
  rw [at_nat h, List.getD_eq_getElem?_getD, List.getElem?_eq_getElem h]; rfl
theorem set_same (l : List Int) (k : Nat) (hk : k < l.length) : l.set k (l.getD k 0) = l := by
  rw [List.getD_eq_getElem?_getD, List.getElem?_eq_getElem hk]; simp
theorem lower_eq {n : ByteArray} (hn : n.size ≤ 1099511627776) : m_name_Lower n = some (lowB n) := by
  have hl := size_bytes n
  rw [m_name_Lower]
  erw [low_loop (m_name_Lower_s2 n) hn (fun l k hlen => ?_)]
  · rfl
  rw [m_name_Lower_s2]
  by_cases hk : k < n.size
  · rw [if_pos (by omega), if_pos hk, at_getD0 (by omega), Option.bind_some, Option.bind_some, w64_id (by omega) (by omega)]
    by_cases h1 : 65 ≤ l.getD k 0
    · rw [if_pos h1]
      by_cases h2 : l.getD k 0 ≤ 90
      · rw [if_pos h2, Option.bind_some, Option.bind_some, or_low ⟨h1, h2⟩, setAt, if_pos ⟨by omega, by omega⟩, Option.bind_some, low, if_pos ⟨h1, h2⟩]; rfl
      · rw [if_neg h2, low, if_neg (fun h => h2 h.2), set_same l k (by omega)]; rfl
    · rw [if_neg h1, low, if_neg (fun h => h1 h.1), set_same l k (by omega)]; rfl
  · rw [if_neg (by omega), if_neg hk]
theorem low_small {c : Int} (h : c ≤ 63) : low c = c := by unfold low; rw [if_neg (by omega)]
theorem low_zero {c : Int} : low c = 0 ↔ c = 0 := by unfold low; split <;> omega
theorem low_big {c : Int} : 63 < low c ↔ 63 < c := by unfold low; split <;> omega
theorem byteAt_low (n : ByteArray) (a : Nat) : byteAt (lowB n) a = low (byteAt n a) := by
  by_cases h : a < n.size
  · rw [← bytesI_get n a h, ← bytesI_get (lowB n) a (by rw [lowB_size]; exact h)]
    simp only [lowB_bytes, List.getElem_map]
  · unfold byteAt
    rw [dif_neg (by rw [lowB_size]; simp; omega), dif_neg (by simp; omega)]; rfl
theorem extract_low (n : ByteArray) (i j : Nat) : (lowB n).extract i j = lowB (n.extract i j) := bytesI_inj (by
  rw [bytesI_extract, lowB_bytes, lowB_bytes, bytesI_extract, List.map_drop, List.map_take])
theorem eachAt_low (n : ByteArray) : ∀ (f a : Nat), eachAt (lowB n) f a = ((eachAt n f a).1.map (fun x => (x.1, lowB x.2)), (eachAt n f a).2) := by
  intro f
  induction f with
  | zero => intro a; rfl
  | succ f ih =>
    intro a
    rw [eachAt, eachAt, lowB_size, byteAt_low]
    by_cases h1 : a < n.size ∧ byteAt n a ≠ 0
    · rw [if_pos h1, if_pos ⟨h1.1, fun h => h1.2 (low_zero.1 h)⟩]
      by_cases h2 : 63 < byteAt n a
      · rw [if_pos (.inl (low_big.2 h2)), if_pos (.inl h2)]; rfl
      · rw [low_small (by omega)]
        by_cases h3 : 63 < byteAt n a ∨ n.size < a + 1 + (byteAt n a).toNat
        · rw [if_pos h3, if_pos h3]; rfl
        · rw [if_neg h3, if_neg h3, ih, extract_low]; rfl
    · rw [if_neg h1, if_neg (fun h => h1 ⟨h.1, fun h' => h.2 (low_zero.2 h')⟩)]; rfl
theorem encB_low {ls : List ByteArray} (h : okLs ls) : encB (ls.map lowB) = (encB ls).map low := by
  induction ls with
  | nil => rfl
  | cons s ls ih =>
    have := okLs_cons.1 h
    rw [List.map_cons, encB_cons, encB_cons, ih this.2, lowB_size, lowB_bytes, List.map_append, List.map_cons, low_small (by omega)]
theorem okLs_low {ls : List ByteArray} (h : okLs ls) : okLs (ls.map lowB) := by
  intro s hs
  obtain ⟨t, ht, rfl⟩ := List.mem_map.1 hs
  rw [lowB_size]; exact h t ht
theorem nm_low {n : ByteArray} {ls : List ByteArray} (h : Nm n ls) : Nm (lowB n) (ls.map lowB) := ⟨okLs_low h.1, by
  rw [lowB_bytes, h.2, List.map_append, encB_low h.1]; rfl⟩
theorem nm_iff (n : ByteArray) : (∃ ls, Nm n ls) ↔ (eachP n).2 = (n.size : Int) - 1 ∧ 0 ≤ (eachP n).2 := by
  constructor
  · rintro ⟨ls, h⟩
    have := nm_size h
    rw [each_nm h]; exact ⟨rfl, by simp only; omega⟩
  · intro h
    by_cases hc : ∃ ls, Nm n ls
    · exact hc
    · rcases each_no hc with h1 | h1
      · exact absurd h.1 h1
      · omega
theorem nm_low_no {n : ByteArray} (h : ¬ ∃ ls, Nm n ls) : ¬ ∃ ls, Nm (lowB n) ls := by
  rw [nm_iff] at h ⊢
  rw [eachP, lowB_size, eachAt_low]
  exact h
/-- A name's labels with small letters, the last one ahead. -/
def revL (ls : List ByteArray) : List ByteArray := (ls.map lowB).reverse
theorem revL_len (ls : List ByteArray) : (revL ls).length = ls.length := by simp [revL]
theorem nm_few {n : ByteArray} {ls : List ByteArray} (h : Nm n ls) (hs : n.size ≤ 255) : ls.length ≤ 254 := by
  have := len_enc ls; have := nm_size h; omega
/-- It is a name of 255 bytes at most. -/
def isNm (n : ByteArray) : Prop := ∃ ls, Nm n ls ∧ n.size ≤ 255
/-- How many are alike ahead. -/
def cpl : List ByteArray → List ByteArray → Nat
  | x :: xs, y :: ys => if x = y then cpl xs ys + 1 else 0
  | _, _ => 0
theorem cpl_le : ∀ (x y : List ByteArray), cpl x y ≤ x.length ∧ cpl x y ≤ y.length
  | [], y => by simp [cpl]
  | x :: xs, [] => by simp [cpl]
  | x :: xs, y :: ys => by
    have := cpl_le xs ys
    rw [cpl]; split <;> simp <;> omega
theorem cpl_lt : ∀ (x y : List ByteArray) (k : Nat), k < cpl x y → x[k]? = y[k]? ∧ k < x.length ∧ k < y.length
  | [], y, k, h => by simp [cpl] at h
  | x :: xs, [], k, h => by simp [cpl] at h
  | x :: xs, y :: ys, k, h => by
    rw [cpl] at h
    split at h
    · rename_i hxy
      cases k with
      | zero => subst hxy; simp
      | succ k =>
        have := cpl_lt xs ys k (by omega)
        simpa using this
    · omega
theorem cpl_end : ∀ (x y : List ByteArray), cpl x y < x.length → cpl x y < y.length → x[cpl x y]? ≠ y[cpl x y]?
  | [], y, h, _ => by simp at h
  | x :: xs, [], _, h => by simp at h
  | x :: xs, y :: ys, h1, h2 => by
    rw [cpl] at h1 h2 ⊢
    split
    · rename_i hxy
      rw [if_pos hxy] at h1 h2
      have := cpl_end xs ys (by simpa using h1) (by simpa using h2)
      simpa using this
    · rename_i hxy
      simpa using hxy
open Go.RowKit
theorem rdepth_nm {n : ByteArray} {ls : List ByteArray} (h : Nm n ls) (hs : n.size ≤ 255) : m_ref03_Depth n = some (ls.length : Int) := by
  rw [m_ref03_Depth, rlabels_nm h hs, Option.bind_some, if_neg (fun h => h rfl)]
open Go.RowKit
theorem rlower_eq {n : ByteArray} (hn : n.size ≤ 1099511627776) : m_ref03_Lower n = some (lowB n) := by
  have hl := size_bytes n
  rw [m_ref03_Lower]
  erw [low_loop (m_ref03_Lower_s2 n) hn (fun l k hlen => ?_)]
  · rfl
  rw [m_ref03_Lower_s2]
  by_cases hk : k < n.size
  · rw [if_pos (by omega), if_pos hk, at_getD0 (by omega), Option.bind_some, Option.bind_some, w64_id (by omega) (by omega)]
    by_cases h1 : 65 ≤ l.getD k 0
    · rw [if_pos h1]
      by_cases h2 : l.getD k 0 ≤ 90
      · rw [if_pos h2, Option.bind_some, Option.bind_some, wrapu8 (by omega) (by omega), setAt, if_pos ⟨by omega, by omega⟩, Option.bind_some, low, if_pos ⟨h1, h2⟩]; rfl
      · rw [if_neg h2, low, if_neg (fun h => h2 h.2), set_same l k (by omega)]; rfl
    · rw [if_neg h1, low, if_neg (fun h => h1 h.1), set_same l k (by omega)]; rfl
  · rw [if_neg (by omega), if_neg hk]
theorem revL_get {ls : List ByteArray} {k : Nat} (h : k < ls.length) : (revL ls)[k]? = some (lowB (ls[ls.length - 1 - k]'(by omega))) := by
  rw [revL, List.getElem?_reverse (by simpa using h), List.length_map, List.getElem?_map, List.getElem?_eq_getElem (by omega)]; rfl
theorem nm_lab {n : ByteArray} {ls : List ByteArray} (h : Nm n ls) : ∀ s ∈ ls, s.size ≤ 63 := fun s hs => (h.1 s hs).2
theorem rshared_nm {a b : ByteArray} {x y : List ByteArray} (h : Nm a x) (hs : a.size ≤ 255) (h' : Nm b y) (hs' : b.size ≤ 255) : m_ref03_Shared a b = some (cpl (revL x) (revL y) : Int) := by
  have f1 := nm_few h hs
  have f2 := nm_few h' hs'
  have g1 := revL_len x
  have g2 := revL_len y
  have hle := cpl_le (revL x) (revL y)
  have hgo : ∀ (k : Nat) (c1 : k < x.length) (c2 : k < y.length), m_ref03_Shared_s2 x y (k : Int) = if (revL x)[k]? = (revL y)[k]? then some (.inl ((k + 1 : Nat) : Int)) else some (.inr (k : Int)) := by
    intro k c1 c2
    have e1 : x[x.length - 1 - k].size ≤ 63 := nm_lab h _ (List.getElem_mem _)
    have e2 : y[y.length - 1 - k].size ≤ 63 := nm_lab h' _ (List.getElem_mem _)
    rw [m_ref03_Shared_s2, if_pos (by omega), if_pos (by omega), w64_id (x := (x.length : Int) - 1) (by omega) (by omega), w64_id (x := (y.length : Int) - 1) (by omega) (by omega), w64_id (x := (x.length : Int) - 1 - k) (by omega) (by omega), w64_id (x := (y.length : Int) - 1 - k) (by omega) (by omega), w64_id (by omega) (by omega),
      show (x.length : Int) - 1 - k = ((x.length - 1 - k : Nat) : Int) by omega, show (y.length : Int) - 1 - k = ((y.length - 1 - k : Nat) : Int) by omega, at_nat (by omega), Option.bind_some, at_nat (by omega), Option.bind_some, rlower_eq (by omega), Option.bind_some, rlower_eq (by omega), Option.bind_some, revL_get c1, revL_get c2]
    by_cases hc : lowB x[x.length - 1 - k] = lowB y[y.length - 1 - k]
    · rw [if_pos hc, if_pos (by rw [hc])]; rfl
    · rw [if_neg hc, if_neg (fun h => hc (Option.some.inj h))]
  have := loop_run (step := fun s => m_ref03_Shared_s2 x y s) (cpl (revL x) (revL y)) (fun k => (k : Int)) ((cpl (revL x) (revL y) : Nat) : Int) (s0 := 0) rfl
    (fun k hk => by
      obtain ⟨e1, e2, e3⟩ := cpl_lt _ _ k hk
      rw [hgo k (by omega) (by omega), if_pos e1])
    (by
      by_cases c : cpl (revL x) (revL y) < x.length ∧ cpl (revL x) (revL y) < y.length
      · rw [hgo _ c.1 c.2, if_neg (cpl_end _ _ (by omega) (by omega))]
      · rw [m_ref03_Shared_s2]
        by_cases c1 : cpl (revL x) (revL y) < x.length
        · rw [if_pos (by omega), if_neg (by omega)]
        · rw [if_neg (by omega)])
  rw [m_ref03_Shared, rlabels_nm h hs, Option.bind_some, rlabels_nm h' hs', Option.bind_some, if_neg (fun h => h rfl), if_neg (fun h => h rfl)]
  erw [this]
  rfl
theorem rlabels_not {n : ByteArray} (h : ¬ isNm n) (hb : n.size ≤ 1099511627776) : ∃ e, m_ref03_Labels n = some ([], e) ∧ e ≠ 0 := by
  rcases nm_cases n with h1 | ⟨ls, h1, h2⟩ | h1
  · exact absurd h1 h
  · exact ⟨11, rlabels_big h1 h2 hb, by omega⟩
  · exact ⟨10, rlabels_no h1 hb, by omega⟩
theorem rshared_no {a b : ByteArray} (h : ¬ (isNm a ∧ isNm b)) (ha : a.size ≤ 1099511627776) (hb : b.size ≤ 1099511627776) : m_ref03_Shared a b = some (-1) := by
  by_cases c : isNm a
  · obtain ⟨e, e1, e2⟩ := rlabels_not (fun hb' => h ⟨c, hb'⟩) hb
    obtain ⟨x, x1, x2⟩ := c
    rw [m_ref03_Shared, rlabels_nm x1 x2, Option.bind_some, e1, Option.bind_some, if_neg (fun h => h rfl), if_pos e2]
  · obtain ⟨e, e1, e2⟩ := rlabels_not c ha
    by_cases c2 : isNm b
    · obtain ⟨y, y1, y2⟩ := c2
      rw [m_ref03_Shared, e1, Option.bind_some, rlabels_nm y1 y2, Option.bind_some, if_pos e2]
    · obtain ⟨f, f1, f2⟩ := rlabels_not c2 hb
      rw [m_ref03_Shared, e1, Option.bind_some, f1, Option.bind_some, if_pos e2]
theorem cpl_full : ∀ (x y : List ByteArray), cpl x y = x.length → cpl x y = y.length → x = y
  | [], [], _, _ => rfl
  | [], y :: ys, _, h => by simp [cpl] at h
  | x :: xs, [], h, _ => by simp [cpl] at h
  | x :: xs, y :: ys, h1, h2 => by
    rw [cpl] at h1 h2
    split at h1
    · rename_i hxy
      rw [if_pos hxy] at h2
      rw [hxy, cpl_full xs ys (by simpa using h1) (by simpa using h2)]
    · simp at h1
theorem cpl_self (x : List ByteArray) : cpl x x = x.length := by
  induction x with
  | nil => rfl
  | cons x xs ih => rw [cpl, if_pos rfl, ih]; rfl
theorem lowB_iff {a b : ByteArray} {x y : List ByteArray} (h : Nm a x) (h' : Nm b y) : lowB a = lowB b ↔ revL x = revL y := by
  constructor
  · intro he
    have h1 := nm_low h
    rw [he] at h1
    rw [revL, nm_inj h1 (nm_low h')]; rfl
  · intro he
    have : x.map lowB = y.map lowB := List.reverse_inj.1 he
    refine nm_eq (nm_low h) ?_
    rw [this]; exact nm_low h'
theorem same_nm {a b : ByteArray} {x y : List ByteArray} (h : Nm a x) (hs : a.size ≤ 255) (h' : Nm b y) (hs' : b.size ≤ 255) : m_name_Same a b = some (decide (revL x = revL y)) := by
  rw [m_name_Same, check_nm h hs, Option.bind_some, if_pos rfl, lower_eq (by omega), Option.bind_some, lower_eq (by omega), Option.bind_some]
  exact congrArg some (decide_eq_decide.2 (lowB_iff h h'))
theorem check_not {n : ByteArray} (h : ¬ isNm n) (hb : n.size ≤ 1099511627776) : ∃ e, m_name_Check n = some e ∧ e ≠ 0 := by
  rcases nm_cases n with h1 | ⟨ls, h1, h2⟩ | h1
  · exact absurd h1 h
  · exact ⟨11, check_big h1 h2 hb, by omega⟩
  · exact ⟨10, check_no h1 hb, by omega⟩
theorem same_no {a b : ByteArray} (h : ¬ (isNm a ∧ isNm b)) (ha : a.size ≤ 1099511627776) (hb : b.size ≤ 1099511627776) : m_name_Same a b = some false := by
  by_cases c : isNm a
  · obtain ⟨x, x1, x2⟩ := c
    rw [m_name_Same, check_nm x1 x2, Option.bind_some, if_pos rfl, lower_eq (by omega), Option.bind_some, lower_eq hb, Option.bind_some, decide_eq_false]
    intro he
    have hz : a.size = b.size := by rw [← lowB_size a, he, lowB_size]
    refine h ⟨⟨x, x1, x2⟩, ?_⟩
    by_cases hc : ∃ ls, Nm b ls
    · obtain ⟨ls, hl⟩ := hc; exact ⟨ls, hl, by omega⟩
    · refine absurd ⟨x.map lowB, ?_⟩ (nm_low_no hc)
      rw [← he]; exact nm_low x1
  · obtain ⟨e, e1, e2⟩ := check_not c ha
    rw [m_name_Same, e1, Option.bind_some, if_neg e2]
theorem rsame_nm {a b : ByteArray} {x y : List ByteArray} (h : Nm a x) (hs : a.size ≤ 255) (h' : Nm b y) (hs' : b.size ≤ 255) : m_ref03_Same a b = some (decide (revL x = revL y)) := by
  have g1 := revL_len x
  have g2 := revL_len y
  rw [m_ref03_Same, rshared_nm h hs h' hs', Option.bind_some, if_pos (by omega), rdepth_nm h hs, Option.bind_some, rdepth_nm h' hs']
  by_cases c1 : cpl (revL x) (revL y) = x.length
  · rw [if_pos (by omega), Option.bind_some]
    refine congrArg some (decide_eq_decide.2 ⟨fun h => cpl_full _ _ (by omega) (by omega), fun h => ?_⟩)
    rw [h, cpl_self]; omega
  · rw [if_neg (by omega), decide_eq_false]
    intro h
    rw [h, cpl_self, ← h] at c1
    exact c1 g1
theorem rsame_no {a b : ByteArray} (h : ¬ (isNm a ∧ isNm b)) (ha : a.size ≤ 1099511627776) (hb : b.size ≤ 1099511627776) : m_ref03_Same a b = some false := by
  rw [m_ref03_Same, rshared_no h ha hb]; rfl
open Go.RowKit
/-- A type's data: bytes ahead, names, bytes behind; has it names? -/
def shp (t : Int) : Int × Int × Int × Bool := if t = 2 ∨ t = 5 ∨ t = 12 then (0, 1, 0, true) else if t = 15 then (2, 1, 0, true) else if t = 6 then (0, 2, 20, true) else (0, 0, 0, false)
theorem shp_cases (t : Int) : shp t = (0, 1, 0, true) ∨ shp t = (2, 1, 0, true) ∨ shp t = (0, 2, 20, true) ∨ shp t = (0, 0, 0, false) := by
  unfold shp
  split
  · exact .inl rfl
  · split
    · exact .inr (.inl rfl)
    · split
      · exact .inr (.inr (.inl rfl))
      · exact .inr (.inr (.inr rfl))
theorem head_eq (t : Int) : m_ref05_head t = some (shp t) := by
  unfold m_ref05_head m_ref05_head_j1 shp
  by_cases h2 : t = 2
  · subst h2; rfl
  by_cases h5 : t = 5
  · subst h5; rfl
  by_cases h12 : t = 12
  · subst h12; rfl
  by_cases h15 : t = 15
  · subst h15; rfl
  by_cases h6 : t = 6
  · subst h6; rfl
  simp [h2, h5, h12, h15, h6]
theorem shapeOf_eq (t : Int) : m_record_shapeOf t = some ⟨(shp t).1, (shp t).2.1, (shp t).2.2.1⟩ := by
  unfold m_record_shapeOf m_record_shapeOf_j1 shp
  by_cases h2 : t = 2
  · subst h2; rfl
  by_cases h5 : t = 5
  · subst h5; rfl
  by_cases h12 : t = 12
  · subst h12; rfl
  by_cases h15 : t = 15
  · subst h15; rfl
  by_cases h6 : t = 6
  · subst h6; rfl
  simp [h2, h5, h12, h15, h6]
/-- Over labels, up to a 0 or the end. -/
def skipAt (s : ByteArray) (z : Bool) : Nat → Nat → Nat
  | 0, a => a
  | f + 1, a => if a < s.size ∧ (z = true → byteAt s a ≠ 0) then skipAt s z f (a + 1 + (byteAt s a).toNat) else a
theorem skip_loop {s : ByteArray} (hs : s.size ≤ 1099511627776) {z : Bool} {step : Int → Option (Int ⊕ Int)}
    (h : ∀ a : Nat, a ≤ 1099511627776 + 512 → step (a : Int) = if a < s.size ∧ (z = true → byteAt s a ≠ 0) then some (.inl ((a + 1 + (byteAt s a).toNat : Nat) : Int)) else some (.inr (a : Int))) :
    ∀ (f a : Nat), s.size ≤ a + f → a ≤ s.size + 256 → loop step (a : Int) = some ((skipAt s z f a : Nat) : Int) := by
  intro f
  induction f with
  | zero =>
    intro a h1 h2
    rw [loop_inr (by rw [h a (by omega), if_neg (by omega)])]; rfl
  | succ f ih =>
    intro a h1 h2
    have hb := byteAt_lt s a
    by_cases hc : a < s.size ∧ (z = true → byteAt s a ≠ 0)
    · rw [loop_inl (by rw [h a (by omega), if_pos hc]), ih _ (by omega) (by omega), skipAt, if_pos hc]
    · rw [loop_inr (by rw [h a (by omega), if_neg hc]), skipAt, if_neg hc]
def skipN (s : ByteArray) : Nat := skipAt s true s.size 0
def skipT (s : ByteArray) : Nat := skipAt s false s.size 0
theorem cut_skip {s : ByteArray} (hs : s.size ≤ 1099511627776) : loop (fun i => m_record_shape_cut_c1_s2 s i) 0 = some ((skipN s : Nat) : Int) := by
  refine skip_loop hs (z := true) (fun a ha => ?_) s.size 0 (by omega) (by omega)
  have hb := byteAt_lt s a
  rw [m_record_shape_cut_c1_s2]
  by_cases h1 : a < s.size
  · rw [if_pos (by omega), sat_of (by omega) (by omega), Option.bind_some]
    by_cases h2 : byteAt s a ≠ 0
    · rw [if_pos h2, if_pos ⟨h1, fun _ => h2⟩, Option.bind_some, w64_id (x := byteAt s a) (by omega) (by omega), w64_id (x := 1 + byteAt s a) (by omega) (by omega), w64_id (by omega) (by omega)]
      congr 2; omega
    · rw [if_neg h2, if_neg (fun h => h2 (h.2 rfl))]
  · rw [if_neg (by omega), if_neg (fun h => h1 h.1)]
theorem first_skip {s : ByteArray} (hs : s.size ≤ 1099511627776) : loop (fun i => m_ref05_first_s2 s i) 0 = some ((skipN s : Nat) : Int) := by
  refine skip_loop hs (z := true) (fun a ha => ?_) s.size 0 (by omega) (by omega)
  have hb := byteAt_lt s a
  rw [m_ref05_first_s2]
  by_cases h1 : a < s.size
  · rw [if_pos (by omega), sat_of (by omega) (by omega), Option.bind_some]
    by_cases h2 : byteAt s a ≠ 0
    · rw [if_pos h2, if_pos ⟨h1, fun _ => h2⟩, Option.bind_some, w64_id (x := byteAt s a) (by omega) (by omega), w64_id (x := (a : Int) + 1) (by omega) (by omega), w64_id (by omega) (by omega)]
      congr 2; omega
    · rw [if_neg h2, if_neg (fun h => h2 (h.2 rfl))]
  · rw [if_neg (by omega), if_neg (fun h => h1 h.1)]
theorem right_skip {s : ByteArray} (hs : s.size ≤ 1099511627776) : loop (fun i => m_record_right_s2 s i) 0 = some ((skipT s : Nat) : Int) := by
  refine skip_loop hs (z := false) (fun a ha => ?_) s.size 0 (by omega) (by omega)
  have hb := byteAt_lt s a
  rw [m_record_right_s2]
  by_cases h1 : a < s.size
  · rw [if_pos (by omega), sat_of (by omega) (by omega), Option.bind_some, if_pos ⟨h1, fun h => by cases h⟩, w64_id (x := byteAt s a) (by omega) (by omega), w64_id (x := 1 + byteAt s a) (by omega) (by omega), w64_id (by omega) (by omega)]
    congr 2; omega
  · rw [if_neg (by omega), if_neg (fun h => h1 h.1)]
theorem rright_skip {s : ByteArray} (hs : s.size ≤ 1099511627776) : loop (fun i => m_ref05_Right_s2 s i) 0 = some ((skipT s : Nat) : Int) := by
  refine skip_loop hs (z := false) (fun a ha => ?_) s.size 0 (by omega) (by omega)
  have hb := byteAt_lt s a
  rw [m_ref05_Right_s2]
  by_cases h1 : a < s.size
  · rw [if_pos (by omega), sat_of (by omega) (by omega), Option.bind_some, if_pos ⟨h1, fun h => by cases h⟩, w64_id (x := byteAt s a) (by omega) (by omega), w64_id (x := (a : Int) + 1) (by omega) (by omega), w64_id (by omega) (by omega)]
    congr 2; omega
  · rw [if_neg (by omega), if_neg (fun h => h1 h.1)]
theorem skipAt_le (s : ByteArray) (z : Bool) : ∀ (f a : Nat), a ≤ s.size + 256 → skipAt s z f a ≤ s.size + 256 := by
  intro f
  induction f with
  | zero => intro a h; exact h
  | succ f ih =>
    intro a h
    have hb := byteAt_lt s a
    rw [skipAt]
    split
    · exact ih _ (by omega)
    · exact h
theorem isNm_check {n : ByteArray} (hb : n.size ≤ 1099511627776) : ∃ e, m_name_Check n = some e ∧ m_ref03_Check n = some e ∧ (e = 0 ↔ isNm n) := by
  rcases nm_cases n with h | ⟨ls, h1, h2⟩ | h
  · obtain ⟨ls, h1, h2⟩ := h
    exact ⟨0, check_nm h1 h2, rcheck_nm h1 h2, fun _ => ⟨ls, h1, h2⟩, fun _ => rfl⟩
  · refine ⟨11, check_big h1 h2 hb, rcheck_big h1 h2 hb, fun h => by omega, fun ⟨_, _, h⟩ => by omega⟩
  · refine ⟨10, check_no h hb, rcheck_no h hb, fun h => by omega, fun ⟨ls, h', _⟩ => absurd ⟨ls, h'⟩ h⟩
theorem isNm_checkC {n : ByteArray} (hb : n.size ≤ 1099511627776) : ∃ e, m_name_Check n = some e ∧ (e = 0 ↔ isNm n) := by
  rcases nm_cases n with h | ⟨ls, h1, h2⟩ | h
  · obtain ⟨ls, h1, h2⟩ := h
    exact ⟨0, check_nm h1 h2, fun _ => ⟨ls, h1, h2⟩, fun _ => rfl⟩
  · refine ⟨11, check_big h1 h2 hb, fun h => by omega, fun ⟨_, _, h⟩ => by omega⟩
  · refine ⟨10, check_no h hb, fun h => by omega, fun ⟨ls, h', _⟩ => absurd ⟨ls, h'⟩ h⟩
theorem isNm_checkR {n : ByteArray} (hb : n.size ≤ 1099511627776) : ∃ e, m_ref03_Check n = some e ∧ (e = 0 ↔ isNm n) := by
  rcases nm_cases n with h | ⟨ls, h1, h2⟩ | h
  · obtain ⟨ls, h1, h2⟩ := h
    exact ⟨0, rcheck_nm h1 h2, fun _ => ⟨ls, h1, h2⟩, fun _ => rfl⟩
  · refine ⟨11, rcheck_big h1 h2 hb, fun h => by omega, fun ⟨_, _, h⟩ => by omega⟩
  · refine ⟨10, rcheck_no h hb, fun h => by omega, fun ⟨ls, h', _⟩ => absurd ⟨ls, h'⟩ h⟩
open Classical in
/-- A name at a text's begin, and the rest. -/
noncomputable def firstP (s : ByteArray) : Option (ByteArray × ByteArray) :=
  if skipN s < s.size ∧ isNm (s.extract 0 (skipN s + 1)) then some (s.extract 0 (skipN s + 1), s.extract (skipN s + 1) s.size) else none
theorem first_eq {s : ByteArray} (hs : s.size ≤ 1099511627776) : m_ref05_first s = some (match firstP s with | some (n, r) => (n, r, true) | none => (⟨#[]⟩, ⟨#[]⟩, false)) := by
  have hle := skipAt_le s true s.size 0 (by omega)
  rw [m_ref05_first, first_skip hs, Option.bind_some, m_ref05_first_j1, firstP]
  by_cases h1 : skipN s < s.size
  · obtain ⟨e, he, hi⟩ := isNm_checkR (n := s.extract 0 (skipN s + 1)) (by rw [ByteArray.size_extract]; omega)
    rw [if_neg (by omega), w64_id (by omega) (by omega), scutHi, if_pos ⟨by omega, by omega⟩, Option.bind_some, show ((skipN s : Int) + 1).toNat = skipN s + 1 by omega, he, Option.bind_some]
    by_cases h2 : isNm (s.extract 0 (skipN s + 1))
    · rw [if_neg (fun h => h (hi.2 h2)), if_pos ⟨h1, h2⟩, Option.bind_some, scutLo, if_pos ⟨by omega, by omega⟩, Option.bind_some, show ((skipN s : Int) + 1).toNat = skipN s + 1 by omega]
    · rw [if_pos (fun h => h2 (hi.1 h)), if_neg (fun h => h2 h.2)]
  · rw [if_pos (by omega), if_neg (fun h => h1 h.1)]
theorem cutc_eq {s : ByteArray} (hs : s.size ≤ 1099511627776) {o : Grecord_parts} (ho : o.fnames.length ≤ 1099511627) :
    m_record_shape_cut_c1 s o = some (match firstP s with | some (n, r) => (true, r, ⟨o.fahead, o.fbehind, o.fnames ++ [n]⟩) | none => (false, s, o)) := by
  have hle := skipAt_le s true s.size 0 (by omega)
  rw [m_record_shape_cut_c1, cut_skip hs, Option.bind_some, m_record_shape_cut_c1_j1, firstP]
  by_cases h1 : skipN s < s.size
  · obtain ⟨e, he, hi⟩ := isNm_checkC (n := s.extract 0 (skipN s + 1)) (by rw [ByteArray.size_extract]; omega)
    rw [if_neg (by omega), w64_id (by omega) (by omega), scutHi, if_pos ⟨by omega, by omega⟩, Option.bind_some, show ((skipN s : Int) + 1).toNat = skipN s + 1 by omega, he, Option.bind_some]
    by_cases h2 : isNm (s.extract 0 (skipN s + 1))
    · rw [if_neg (fun h => h (hi.2 h2)), if_pos ⟨h1, h2⟩, Option.bind_some, app_of (by simp; omega), Option.bind_some, scutLo, if_pos ⟨by omega, by omega⟩, Option.bind_some, show ((skipN s : Int) + 1).toNat = skipN s + 1 by omega]
    · rw [if_pos (fun h => h2 (hi.1 h)), if_neg (fun h => h2 h.2)]
  · rw [if_pos (by omega), if_neg (fun h => h1 h.1)]
theorem firstP_some {s n r : ByteArray} (h : firstP s = some (n, r)) : isNm n ∧ s = n ++ r ∧ r.size ≤ s.size := by
  unfold firstP at h
  split at h
  · rename_i hc
    injection h with h
    injection h with h1 h2
    subst h1 h2
    refine ⟨hc.2, bytesI_inj ?_, by rw [ByteArray.size_extract]; omega⟩
    rw [bytesI_append, bytesI_extract, bytesI_extract, List.drop_zero, size_bytes s, List.take_length, List.take_append_drop]
  · cases h
/-- So many names ahead, and the rest. -/
noncomputable def namesP : Nat → ByteArray → Option (List ByteArray × ByteArray)
  | 0, s => some ([], s)
  | k + 1, s => match firstP s with
    | some (n, r) => match namesP k r with
      | some (l, q) => some (n :: l, q)
      | none => none
    | none => none
/-- Data cut up: ahead, names, behind, and whether they are right. -/
noncomputable def partsP (t : Int) (d : ByteArray) : ByteArray × List ByteArray × ByteArray × Bool :=
  if (d.size : Int) < (shp t).1 then (⟨#[]⟩, [], ⟨#[]⟩, false)
  else match namesP (shp t).2.1.toNat (d.extract (shp t).1.toNat d.size) with
    | some (l, r) => (d.extract 0 (shp t).1.toNat, l, r, decide ((r.size : Int) = (shp t).2.2.1))
    | none => (⟨#[]⟩, [], ⟨#[]⟩, false)
theorem cutloop {sh : Grecord_shape} (hn : 0 ≤ sh.fnames ∧ sh.fnames ≤ 1000) : ∀ (k i : Nat) (l : List ByteArray) (s a : ByteArray), (i : Int) + k = sh.fnames → s.size ≤ 1099511627776 → l.length ≤ i →
    loop (fun s => m_record_shape_cut_s2 sh a s.1 s.2.1 s.2.2) (l, (i : Int), s) =
      some (match namesP k s with | some (q, r) => .inl (l ++ q, r) | none => .inr (⟨⟨#[]⟩, ⟨#[]⟩, []⟩, false)) := by
  intro k
  induction k with
  | zero =>
    intro i l s a hi hs hl
    rw [loop_inr (by simp only [m_record_shape_cut_s2]; rw [if_neg (by omega)])]
    simp [namesP]
  | succ k ih =>
    intro i l s a hi hs hl
    have hst := m_record_shape_cut_s2.eq_def sh a l (i : Int) s
    rw [if_pos (by omega), cutc_eq hs (by simp only; omega), Option.bind_some] at hst
    rw [namesP]
    cases hf : firstP s with
    | none =>
      rw [hf] at hst
      simp only at hst
      rw [if_neg (by simp)] at hst
      rw [loop_inr hst]
    | some x =>
      obtain ⟨n, r⟩ := x
      rw [hf] at hst
      simp only at hst
      rw [if_pos trivial, w64_id (by omega) (by omega)] at hst
      rw [loop_inl hst, show (i : Int) + 1 = ((i + 1 : Nat) : Int) by omega, ih (i + 1) (l ++ [n]) r a (by omega) (by have := (firstP_some hf).2.2; omega) (by simp; omega)]
      rcases hq : namesP k r with _ | ⟨q, w⟩ <;> simp [hq]
theorem cut_eq {t : Int} {d : ByteArray} (hd : d.size ≤ 1099511627776) : m_record_shape_cut ⟨(shp t).1, (shp t).2.1, (shp t).2.2.1⟩ d = some (⟨(partsP t d).1, (partsP t d).2.2.1, (partsP t d).2.1⟩, (partsP t d).2.2.2) := by
  have h0 : 0 ≤ (shp t).1 ∧ 0 ≤ (shp t).2.1 ∧ (shp t).2.1 ≤ 2 := by rcases shp_cases t with h | h | h | h <;> rw [h] <;> simp
  rw [m_record_shape_cut, partsP]
  simp only
  by_cases h1 : (d.size : Int) < (shp t).1
  · rw [if_pos h1, if_pos h1]
  · rw [if_neg h1, if_neg h1, scutHi, if_pos ⟨h0.1, by omega⟩, Option.bind_some, scutLo, if_pos ⟨h0.1, by omega⟩, Option.bind_some]
    erw [cutloop (sh := ⟨(shp t).1, (shp t).2.1, (shp t).2.2.1⟩) (by simp only; omega) (shp t).2.1.toNat 0 [] _ _ (by simp only; omega) (by rw [ByteArray.size_extract]; omega) (by simp)]
    cases namesP (shp t).2.1.toNat (d.extract (shp t).1.toNat d.size) with
    | none => rfl
    | some x => simp [m_record_shape_cut_j1]
theorem namesloop {n : Int} (hn : 0 ≤ n ∧ n ≤ 1000) : ∀ (k i : Nat) (l : List ByteArray) (s : ByteArray), (i : Int) + k = n → s.size ≤ 1099511627776 → l.length ≤ i →
    loop (fun s => m_ref05_Names_s2 n s.1 s.2.1 s.2.2) (l, s, (i : Int)) =
      some (match namesP k s with | some (q, r) => .inl (l ++ q, r) | none => .inr (⟨#[]⟩, [], ⟨#[]⟩, false)) := by
  intro k
  induction k with
  | zero =>
    intro i l s hi hs hl
    rw [loop_inr (by simp only [m_ref05_Names_s2]; rw [if_neg (by omega)])]
    simp [namesP]
  | succ k ih =>
    intro i l s hi hs hl
    have hst := m_ref05_Names_s2.eq_def n l s (i : Int)
    rw [if_pos (by omega), first_eq hs, Option.bind_some] at hst
    rw [namesP]
    cases hf : firstP s with
    | none =>
      rw [hf] at hst
      simp only at hst
      rw [if_neg (by simp)] at hst
      rw [loop_inr hst]
    | some x =>
      obtain ⟨m, r⟩ := x
      rw [hf] at hst
      simp only at hst
      rw [if_pos trivial, app_of (by simp; omega), Option.bind_some, w64_id (by omega) (by omega)] at hst
      rw [loop_inl hst, show (i : Int) + 1 = ((i + 1 : Nat) : Int) by omega, ih (i + 1) (l ++ [m]) r (by omega) (by have := (firstP_some hf).2.2; omega) (by simp; omega)]
      rcases hq : namesP k r with _ | ⟨q, w⟩ <;> simp [hq]
theorem names_of {t : Int} {d : ByteArray} (hd : d.size ≤ 1099511627776) : m_ref05_Names t d = some (if (shp t).2.2.2 = true then partsP t d else (⟨#[]⟩, [], ⟨#[]⟩, false)) := by
  have h0 : 0 ≤ (shp t).1 ∧ 0 ≤ (shp t).2.1 ∧ (shp t).2.1 ≤ 2 := by rcases shp_cases t with h | h | h | h <;> rw [h] <;> simp
  rw [m_ref05_Names, head_eq, Option.bind_some]
  by_cases hn : (shp t).2.2.2 = true
  · rw [if_pos hn, if_pos hn, partsP]
    by_cases h1 : (d.size : Int) < (shp t).1
    · rw [if_pos h1, if_pos h1]
    · rw [if_neg h1, if_neg h1, scutLo, if_pos ⟨h0.1, by omega⟩, Option.bind_some]
      erw [namesloop (n := (shp t).2.1) (by omega) (shp t).2.1.toNat 0 [] _ (by omega) (by rw [ByteArray.size_extract]; omega) (by simp)]
      cases namesP (shp t).2.1.toNat (d.extract (shp t).1.toNat d.size) with
      | none => rfl
      | some x =>
        simp only [Option.bind_some, Sum.elim_inl, m_ref05_Names_j1, List.nil_append]
        rw [scutHi, if_pos ⟨h0.1, by omega⟩]; rfl
  · rw [if_neg hn, if_neg hn]
/-- Are data right for a type? -/
noncomputable def rightP (t : Int) (d : ByteArray) : Bool :=
  if (shp t).2.2.2 = true then (partsP t d).2.2.2
  else if t = 1 then decide ((d.size : Int) = 4) else if t = 28 then decide ((d.size : Int) = 16) else if t = 16 then decide (skipT d = d.size ∧ 0 < d.size) else true
theorem rright_eq {t : Int} {d : ByteArray} (hd : d.size ≤ 1099511627776) : m_ref05_Right t d = some (rightP t d) := by
  rw [m_ref05_Right, head_eq, Option.bind_some, rightP]
  by_cases hn : (shp t).2.2.2 = true
  · rw [if_pos hn, if_pos hn, names_of hd, if_pos hn]; rfl
  rw [if_neg hn, if_neg hn]
  by_cases h1 : t = 1
  · rw [if_pos h1, if_pos h1]
  rw [if_neg h1, if_neg h1]
  by_cases h2 : t = 28
  · rw [if_pos h2, if_pos h2]
  rw [if_neg h2, if_neg h2]
  by_cases h3 : t = 16
  · rw [if_pos h3, if_pos h3, rright_skip hd, Option.bind_some, m_ref05_Right_j1]
    by_cases h4 : skipT d = d.size
    · rw [if_pos (by omega)]
      exact congrArg some (decide_eq_decide.2 ⟨fun h => ⟨h4, by omega⟩, fun h => by omega⟩)
    · rw [if_neg (by omega), decide_eq_false (fun h => h4 h.1)]
  · rw [if_neg h3, if_neg h3]
theorem right_eq {t : Int} {d : ByteArray} (hd : d.size ≤ 1099511627776) : m_record_right t d = some (rightP t d) := by
  rw [m_record_right, rightP]
  by_cases h1 : t = 1
  · subst h1; rw [if_pos rfl, if_neg (by decide), if_pos rfl]
  rw [if_neg h1]
  by_cases h2 : t = 28
  · subst h2; rw [if_pos rfl, if_neg (by decide), if_neg h1, if_pos rfl]
  rw [if_neg h2]
  by_cases h3 : t = 16
  · subst h3
    rw [if_pos rfl, if_neg (by decide), if_neg h1, if_neg h2, if_pos rfl, right_skip hd, Option.bind_some, m_record_right_j1]
    by_cases h4 : skipT d = d.size
    · rw [if_pos (by omega)]
      by_cases h5 : d = ⟨#[]⟩
      · have := size_nil.1 h5
        rw [decide_eq_true h5, decide_eq_false (by omega)]; rfl
      · have : d.size ≠ 0 := fun h => h5 (size_nil.2 h)
        rw [decide_eq_false h5, decide_eq_true ⟨h4, by omega⟩]; rfl
    · rw [if_neg (by omega), decide_eq_false (fun h => h4 h.1)]
  rw [if_neg h3, shapeOf_eq, Option.bind_some, cut_eq hd, Option.bind_some, if_neg h1, if_neg h2, if_neg h3]
  by_cases hn : (shp t).2.2.2 = true
  · rw [if_pos hn]
    by_cases h4 : (partsP t d).2.2.2 = true
    · rw [if_pos h4, h4]
    · rw [if_neg h4, Option.bind_some]
      have h5 : (partsP t d).2.2.2 = false := by simpa using h4
      rw [h5, decide_eq_false]
      rcases shp_cases t with h | h | h | h <;> rw [h] at hn ⊢ <;> simp at hn ⊢
  · rw [if_neg hn]
    split
    · rfl
    · rw [Option.bind_some, decide_eq_true]
      rcases shp_cases t with h | h | h | h <;> rw [h] at hn ⊢ <;> simp at hn ⊢
theorem check_both {r : GRR} (hn : r.fName.size ≤ 1099511627776) (hd : r.fData.size ≤ 1099511627776) :
    ∃ e, m_record_Check r = some e ∧ m_ref05_Check r = some e ∧ (e = 0 ↔ isNm r.fName ∧ r.fData.size ≤ 2000 ∧ rightP r.fType r.fData = true) := by
  obtain ⟨e, h1, h2, h3⟩ := isNm_check hn
  rw [m_record_Check, m_ref05_Check, h1, h2, Option.bind_some, Option.bind_some, right_eq hd, rright_eq hd]
  by_cases he : e ≠ 0
  · rw [if_pos he]
    exact ⟨e, rfl, rfl, fun h => absurd h he, fun h => absurd (h3.2 h.1) he⟩
  · have hnm := h3.1 (Classical.not_not.1 he)
    rw [if_neg he]
    by_cases hb : 2000 < (r.fData.size : Int)
    · rw [if_pos hb]
      exact ⟨11, rfl, rfl, fun h => by omega, fun h => by omega⟩
    · rw [if_neg hb, Option.bind_some]
      by_cases hr : rightP r.fType r.fData = true
      · rw [if_pos hr]
        exact ⟨0, rfl, rfl, fun _ => ⟨hnm, by omega, hr⟩, fun _ => rfl⟩
      · rw [if_neg hr]
        exact ⟨10, rfl, rfl, fun h => by omega, fun h => absurd h.2.2 hr⟩
theorem check_code {r : GRR} (hn : r.fName.size ≤ 1099511627776) (hd : r.fData.size ≤ 1099511627776) :
    ∃ e, m_record_Check r = some e ∧ (e = 0 ↔ isNm r.fName ∧ r.fData.size ≤ 2000 ∧ rightP r.fType r.fData = true) := by
  obtain ⟨e, h1, h3⟩ := isNm_checkC hn
  rw [m_record_Check, h1, Option.bind_some, right_eq hd]
  by_cases he : e ≠ 0
  · rw [if_pos he]
    exact ⟨e, rfl, fun h => absurd h he, fun h => absurd (h3.2 h.1) he⟩
  · have hnm := h3.1 (Classical.not_not.1 he)
    rw [if_neg he]
    by_cases hb : 2000 < (r.fData.size : Int)
    · rw [if_pos hb]
      exact ⟨11, rfl, fun h => by omega, fun h => by omega⟩
    · rw [if_neg hb, Option.bind_some]
      by_cases hr : rightP r.fType r.fData = true
      · rw [if_pos hr]
        exact ⟨0, rfl, fun _ => ⟨hnm, by omega, hr⟩, fun _ => rfl⟩
      · rw [if_neg hr]
        exact ⟨10, rfl, fun h => by omega, fun h => absurd h.2.2 hr⟩
open Go.RowKit
/-- May a number stand at k in a list of voters? -/
def good (l : List Int) (k : Nat) : Prop := 0 ≤ l.getD k 0 ∧ l.getD k 0 < 64 ∧ (0 < k → l.getD (k - 1) 0 < l.getD k 0)
instance (l : List Int) (k : Nat) : Decidable (good l k) := by unfold good; infer_instance
def risingP (l : List Int) : Bool := decide (0 < l.length ∧ ∀ k, k < l.length → good l k)
theorem at_getD {l : List Int} {k : Nat} (h : k < l.length) : at_ l (k : Int) = some (l.getD k 0) := by
  rw [at_nat h, List.getD_eq_getElem?_getD, List.getElem?_eq_getElem h]; rfl
theorem rising_step (l : List Int) (k : Nat) (hl : l.length ≤ 9223372036854775807) : m_plog_rising_s2 l (k : Int) = if k < l.length then (if good l k then some (.inl ((k + 1 : Nat) : Int)) else some (.inr (.inr false))) else some (.inr (.inl ())) := by
  unfold m_plog_rising_s2
  by_cases hk : k < l.length
  · rw [if_pos (by omega), if_pos hk, at_getD hk]
    simp only [Option.bind_some]
    rw [w64_id (x := (k : Int) + 1) (by omega) (by omega)]
    by_cases h1 : l.getD k 0 < 0
    · rw [if_pos h1, if_neg (fun h => by have := h.1; omega)]
    · rw [if_neg h1]
      by_cases h2 : 64 ≤ l.getD k 0
      · rw [if_pos h2, if_neg (fun h => by have := h.2.1; omega)]
      · rw [if_neg h2]
        by_cases h3 : (0 : Int) < k
        · rw [if_pos h3, w64_id (x := (k : Int) - 1) (by omega) (by omega), show (k : Int) - 1 = ((k - 1 : Nat) : Int) by omega, at_getD (by omega)]
          simp only [Option.bind_some]
          by_cases h4 : l.getD k 0 ≤ l.getD (k - 1) 0
          · rw [if_pos h4, if_neg (fun h => by have := h.2.2 (by omega); omega)]
          · rw [if_neg h4, if_pos ⟨by omega, by omega, fun _ => by omega⟩]; rfl
        · rw [if_neg h3, if_pos ⟨by omega, by omega, fun _ => by omega⟩]; rfl
  · rw [if_neg (by omega), if_neg hk]
theorem m_rising (l : List Int) (hl : l.length ≤ 9223372036854775807) : m_plog_rising l = some (risingP l) := by
  unfold m_plog_rising
  by_cases hg : ∀ k, k < l.length → good l k
  · have hL : loop (fun s => m_plog_rising_s2 l s) 0 = some (.inl ()) := loop_run l.length (fun k => (k : Int)) _ rfl (fun k hk => by rw [rising_step l k hl, if_pos hk, if_pos (hg k hk)]) (by rw [rising_step l _ hl, if_neg (by omega)])
    rw [hL]
    simp only [Option.bind_some, Sum.elim_inl, m_plog_rising_j1, risingP, Option.some.injEq, decide_eq_decide]
    constructor
    · intro h; exact ⟨by omega, hg⟩
    · intro h; omega
  · obtain ⟨n, hn, hng, hgo⟩ := first_not hg
    have hL : loop (fun s => m_plog_rising_s2 l s) 0 = some (.inr false) := loop_run n (fun k => (k : Int)) _ rfl (fun k hk => by rw [rising_step l k hl, if_pos (by omega), if_pos (hgo k hk)]) (by rw [rising_step l _ hl, if_pos hn, if_neg hng])
    rw [hL]
    simp only [Option.bind_some, Sum.elim_inr, risingP, Option.some.injEq]
    exact (decide_eq_false (fun h => hng (h.2 n hn))).symm
def listP (s : ByteArray) : List Int × Bool := if risingP (bytesI s) then (bytesI s, true) else ([], false)
theorem m_List (s : ByteArray) (hs : s.size ≤ 17592186044416) : m_plog_List s = some (listP s) := by
  unfold m_plog_List
  have hstep : ∀ k, k < s.size → m_plog_List_s2 s ((bytesI s).take k) (k : Int) = some (.inl ((bytesI s).take (k + 1), ((k + 1 : Nat) : Int))) := by
    intro k hk
    unfold m_plog_List_s2
    rw [if_pos (by omega), sat_of (by omega) (by omega)]
    simp only [Option.bind_some]
    have hb := byteAt_lt s k
    rw [w64_id (x := byteAt s k) (by omega) (by omega), app_of (by simp [bytesI_length]; omega)]
    simp only [Option.bind_some]
    rw [w64_id (x := (k : Int) + 1) (by omega) (by omega), List.take_succ_eq_append_getElem (by rw [bytesI_length]; exact hk), bytesI_get s k hk]
    rfl
  have hL : loop (fun x => m_plog_List_s2 s x.1 x.2) (([] : List Int), 0) = some (bytesI s) := loop_run s.size (fun k => ((bytesI s).take k, (k : Int))) _ rfl (fun k hk => hstep k hk) (by
    show m_plog_List_s2 s ((bytesI s).take s.size) (s.size : Int) = _
    unfold m_plog_List_s2
    rw [if_neg (by omega), List.take_of_length_le (by rw [bytesI_length]; exact Nat.le_refl _)])
  rw [hL]
  simp only [Option.bind_some, m_plog_List_j1]
  rw [m_rising _ (by rw [bytesI_length]; omega)]
  simp only [Option.bind_some, listP]
  cases risingP (bytesI s) <;> simp
theorem m_rList (s : ByteArray) (hs : s.size ≤ 17592186044416) : m_ref11_List s = some (listP s) := by
  unfold m_ref11_List
  have hat : ∀ k, k < s.size → byteAt s k = (bytesI s).getD k 0 := fun k hk => by
    rw [List.getD_eq_getElem?_getD, List.getElem?_eq_getElem (by rw [bytesI_length]; exact hk), Option.getD_some, bytesI_get s k hk]
  have hstep : ∀ k, k < s.size → m_ref11_List_s2 s ((bytesI s).take k) (k : Int) = if good (bytesI s) k then some (.inl ((bytesI s).take (k + 1), ((k + 1 : Nat) : Int))) else some (.inr (.inr ([], false))) := by
    intro k hk
    unfold m_ref11_List_s2
    simp only [m_ref11_List_j3]
    have hb := byteAt_lt s k
    have e1 := hat k hk
    have ht : (bytesI s).take (k + 1) = (bytesI s).take k ++ [byteAt s k] := by rw [List.take_succ_eq_append_getElem (by rw [bytesI_length]; exact hk), bytesI_get s k hk]
    have happ : app 8 ((bytesI s).take k) [w64 (byteAt s k)] = some ((bytesI s).take (k + 1)) := by
      rw [w64_id (x := byteAt s k) (by omega) (by omega), app_of (by simp [bytesI_length]; omega), ht]
    rw [if_pos (by omega), sat_of (by omega) (by omega)]
    simp only [Option.bind_some]
    rw [w64_id (x := (k : Int) + 1) (by omega) (by omega)]
    by_cases h2 : 63 < byteAt s k
    · rw [if_pos h2, if_neg (fun h => by have := h.2.1; omega)]
    · rw [if_neg h2]
      by_cases h3 : (0 : Int) < k
      · rw [if_pos h3, w64_id (x := (k : Int) - 1) (by omega) (by omega), show (k : Int) - 1 = ((k - 1 : Nat) : Int) by omega, sat_of (i := ((k - 1 : Nat) : Int)) (by omega) (by omega)]
        simp only [Option.bind_some]
        have e2 := hat (k - 1) (by omega)
        by_cases h4 : byteAt s k ≤ byteAt s ((k - 1 : Nat) : Int)
        · rw [if_pos h4, if_neg (fun h => by have := h.2.2 (by omega); omega)]
        · rw [if_neg h4, happ, if_pos ⟨by omega, by omega, fun _ => by omega⟩]; rfl
      · rw [if_neg h3, happ, if_pos ⟨by omega, by omega, fun _ => by omega⟩]; rfl
  have hend : m_ref11_List_s2 s ((bytesI s).take s.size) (s.size : Int) = some (.inr (.inl (bytesI s))) := by
    unfold m_ref11_List_s2
    rw [if_neg (by omega), List.take_of_length_le (by rw [bytesI_length]; exact Nat.le_refl _)]
  by_cases hg : ∀ k, k < s.size → good (bytesI s) k
  · have hL : loop (fun x => m_ref11_List_s2 s x.1 x.2) (([] : List Int), 0) = some (.inl (bytesI s)) := loop_run s.size (fun k => ((bytesI s).take k, (k : Int))) _ rfl (fun k hk => by show m_ref11_List_s2 s _ _ = _; rw [hstep k hk, if_pos (hg k hk)]) hend
    rw [hL]
    simp only [Option.bind_some, Sum.elim_inl, m_ref11_List_j1, listP]
    by_cases h0 : 0 < s.size
    · rw [if_pos (show risingP (bytesI s) = true from decide_eq_true ⟨by rw [bytesI_length]; exact h0, fun k hk => hg k (by rw [bytesI_length] at hk; exact hk)⟩), decide_eq_true (by omega)]
    · rw [if_neg (by simp only [risingP, decide_eq_true_eq, bytesI_length]; omega), decide_eq_false (by omega)]
      rw [show bytesI s = [] from List.eq_nil_of_length_eq_zero (by rw [bytesI_length]; omega)]
  · obtain ⟨n, hn, hng, hgo⟩ := first_not hg
    have hL : loop (fun x => m_ref11_List_s2 s x.1 x.2) (([] : List Int), 0) = some (.inr ([], false)) := loop_run n (fun k => ((bytesI s).take k, (k : Int))) _ rfl (fun k hk => by show m_ref11_List_s2 s _ _ = _; rw [hstep k (by omega), if_pos (hgo k hk)]) (by show m_ref11_List_s2 s _ _ = _; rw [hstep n hn, if_neg hng])
    rw [hL]
    simp only [Option.bind_some, Sum.elim_inr, listP]
    rw [if_neg (by simp only [risingP, decide_eq_true_eq]; intro h; exact hng (h.2 n (by rw [bytesI_length]; exact hn)))]
/-! ### Logs -/
theorem m_within (n : Int) : m_plog_within n = some (decide (0 ≤ n ∧ n ≤ 1099511627776)) := by
  unfold m_plog_within
  by_cases h : 0 ≤ n
  · rw [if_pos h]; simp [h]
  · rw [if_neg h]; simp [h]
/-- May an entry stand behind one of term t? -/
def entG (t : Int) (e : GEntry) : Prop := t ≤ e.fTerm ∧ (0 ≤ e.fTerm ∧ e.fTerm ≤ 1099511627776) ∧ 0 ≤ e.fKind ∧ e.fKind ≤ 2 ∧ e.fData.size ≤ 8000 ∧ (e.fKind = 1 → risingP (bytesI e.fData) = true)
instance (t : Int) (e : GEntry) : Decidable (entG t e) := by unfold entG; infer_instance
def zeroE : GEntry := ⟨0, 0, ⟨#[]⟩⟩
/-- The term ahead of the k-th entry. -/
def before (t : Int) (l : List GEntry) (k : Nat) : Int := if k = 0 then t else (l.getD (k - 1) zeroE).fTerm
theorem before_succ (t : Int) (l : List GEntry) (k : Nat) : before t l (k + 1) = (l.getD k zeroE).fTerm := by simp [before]
theorem at_getE {l : List GEntry} {k : Nat} (h : k < l.length) : at_ l (k : Int) = some (l.getD k zeroE) := by
  rw [at_nat h, List.getD_eq_getElem?_getD, List.getElem?_eq_getElem h]; rfl
def checkP (l : GLog) : Int := if (0 ≤ l.fBase ∧ l.fBase ≤ 1099511627776) ∧ (0 ≤ l.fBaseTerm ∧ l.fBaseTerm ≤ 1099511627776) ∧ l.fEntries.length ≤ 100000 ∧ ∀ k, k < l.fEntries.length → entG (before l.fBaseTerm l.fEntries k) (l.fEntries.getD k zeroE) then 0 else 1
/-- Texts that may be read whole. -/
def modest (l : List GEntry) : Prop := ∀ e ∈ l, e.fData.size ≤ 17592186044416
theorem modest_at {l : List GEntry} (h : modest l) (k : Nat) (hk : k < l.length) : (l.getD k zeroE).fData.size ≤ 17592186044416 := by
  rw [List.getD_eq_getElem?_getD, List.getElem?_eq_getElem hk]; exact h _ (List.getElem_mem hk)
theorem listP_snd (s : ByteArray) : (listP s).2 = risingP (bytesI s) := by unfold listP; split <;> simp_all
theorem check_step (l : GLog) (k : Nat) (hm : modest l.fEntries) (hl : l.fEntries.length ≤ 100000) : m_plog_Check_s2 l (before l.fBaseTerm l.fEntries k) (k : Int) = if k < l.fEntries.length then (if entG (before l.fBaseTerm l.fEntries k) (l.fEntries.getD k zeroE) then some (.inl (before l.fBaseTerm l.fEntries (k + 1), ((k + 1 : Nat) : Int))) else some (.inr (.inr 1))) else some (.inr (.inl ())) := by
  unfold m_plog_Check_s2
  by_cases hk : k < l.fEntries.length
  · rw [if_pos (by omega), if_pos hk, at_getE hk]
    have hmk := modest_at hm k hk
    rw [before_succ]
    generalize l.fEntries.getD k zeroE = e at *
    simp only [Option.bind_some, m_within, m_List _ hmk]
    rw [w64_id (x := (k : Int) + 1) (by omega) (by omega)]
    have hs := listP_snd e.fData
    generalize listP e.fData = z at *
    generalize before l.fBaseTerm l.fEntries k = t at *
    have hd : (0 : Int) ≤ (e.fData.size : Int) := Int.natCast_nonneg _
    by_cases c1 : e.fTerm < t
    · rw [if_pos c1, if_neg (fun h : entG t e => by have := h.1; omega)]
    · rw [if_neg c1]
      by_cases c2 : 0 ≤ e.fTerm ∧ e.fTerm ≤ 1099511627776
      · rw [if_pos (by simpa using c2)]
        by_cases c3 : e.fKind < 0
        · rw [if_pos c3, if_neg (fun h : entG t e => by have := h.2.2.1; omega)]
        · rw [if_neg c3]
          by_cases c4 : 2 < e.fKind
          · rw [if_pos c4, if_neg (fun h : entG t e => by have := h.2.2.2.1; omega)]
          · rw [if_neg c4]
            by_cases c5 : 8000 < (e.fData.size : Int)
            · rw [if_pos c5, if_neg (fun h : entG t e => by have := h.2.2.2.2.1; omega)]
            · rw [if_neg c5]
              by_cases c6 : e.fKind = 1
              · rw [if_pos c6]
                by_cases c7 : z.2 = true
                · rw [if_pos c7, if_pos (show entG t e from ⟨by omega, c2, by omega, by omega, by omega, fun _ => by rw [← hs, c7]⟩)]; rfl
                · rw [if_neg c7, if_neg (fun h : entG t e => c7 (by rw [hs]; exact h.2.2.2.2.2 c6))]
              · rw [if_neg c6, if_pos (show entG t e from ⟨by omega, c2, by omega, by omega, by omega, fun h => absurd h c6⟩)]; rfl
      · rw [if_neg (by simpa using c2), if_neg (fun h : entG t e => c2 h.2.1)]
  · rw [if_neg (by omega), if_neg hk]
theorem rcheck_step (l : GLog) (k : Nat) (hm : modest l.fEntries) (hl : l.fEntries.length ≤ 100000) (h0 : 0 ≤ before l.fBaseTerm l.fEntries k) : m_ref11_Check_s2 l (before l.fBaseTerm l.fEntries k) (k : Int) = if k < l.fEntries.length then (if entG (before l.fBaseTerm l.fEntries k) (l.fEntries.getD k zeroE) then some (.inl (before l.fBaseTerm l.fEntries (k + 1), ((k + 1 : Nat) : Int))) else some (.inr (.inr 1))) else some (.inr (.inl ())) := by
  unfold m_ref11_Check_s2
  by_cases hk : k < l.fEntries.length
  · rw [if_pos (by omega), if_pos hk, at_getE hk]
    have hmk := modest_at hm k hk
    rw [before_succ]
    generalize l.fEntries.getD k zeroE = e at *
    simp only [Option.bind_some, m_rList _ hmk]
    rw [w64_id (x := (k : Int) + 1) (by omega) (by omega)]
    have hs := listP_snd e.fData
    generalize listP e.fData = z at *
    generalize before l.fBaseTerm l.fEntries k = t at *
    have hd : (0 : Int) ≤ (e.fData.size : Int) := Int.natCast_nonneg _
    by_cases c1 : e.fTerm < t
    · rw [if_pos c1, if_neg (fun h : entG t e => by have := h.1; omega)]
    · rw [if_neg c1]
      by_cases c2 : 1099511627776 < e.fTerm
      · rw [if_pos c2, if_neg (fun h : entG t e => by have := h.2.1; omega)]
      · rw [if_neg c2]
        by_cases c3 : e.fKind < 0
        · rw [if_pos c3, if_neg (fun h : entG t e => by have := h.2.2.1; omega)]
        · rw [if_neg c3]
          by_cases c4 : 2 < e.fKind
          · rw [if_pos c4, if_neg (fun h : entG t e => by have := h.2.2.2.1; omega)]
          · rw [if_neg c4]
            by_cases c5 : 8000 < (e.fData.size : Int)
            · rw [if_pos c5, if_neg (fun h : entG t e => by have := h.2.2.2.2.1; omega)]
            · rw [if_neg c5]
              by_cases c6 : e.fKind = 1
              · rw [if_pos c6]
                by_cases c7 : z.2 = true
                · rw [if_pos c7, if_pos (show entG t e from ⟨by omega, by omega, by omega, by omega, by omega, fun _ => by rw [← hs, c7]⟩)]; rfl
                · rw [if_neg c7, if_neg (fun h : entG t e => c7 (by rw [hs]; exact h.2.2.2.2.2 c6))]
              · rw [if_neg c6, if_pos (show entG t e from ⟨by omega, by omega, by omega, by omega, by omega, fun h => absurd h c6⟩)]; rfl
  · rw [if_neg (by omega), if_neg hk]
theorem before_pos {t : Int} {l : List GEntry} {k : Nat} (h0 : 0 ≤ t) (hg : ∀ j, j < k → entG (before t l j) (l.getD j zeroE)) : 0 ≤ before t l k := by
  cases k with
  | zero => simpa [before] using h0
  | succ k => rw [before_succ]; exact (hg k (by omega)).2.1.1
theorem m_Check (l : GLog) (hm : modest l.fEntries) : m_plog_Check l = some (checkP l) := by
  unfold m_plog_Check checkP
  simp only [m_within, Option.bind_some]
  by_cases c1 : 0 ≤ l.fBase ∧ l.fBase ≤ 1099511627776
  · rw [if_pos (by simpa using c1)]
    by_cases c2 : 0 ≤ l.fBaseTerm ∧ l.fBaseTerm ≤ 1099511627776
    · rw [if_pos (by simpa using c2)]
      by_cases c3 : 100000 < (l.fEntries.length : Int)
      · rw [if_pos c3, if_neg (fun h => by have := h.2.2.1; omega)]
      · rw [if_neg c3]
        have hl : l.fEntries.length ≤ 100000 := by omega
        by_cases hg : ∀ k, k < l.fEntries.length → entG (before l.fBaseTerm l.fEntries k) (l.fEntries.getD k zeroE)
        · have hL : loop (fun s => m_plog_Check_s2 l s.1 s.2) (l.fBaseTerm, 0) = some (.inl ()) := loop_run l.fEntries.length (fun k => (before l.fBaseTerm l.fEntries k, (k : Int))) _ rfl (fun k hk => by show m_plog_Check_s2 l _ _ = _; rw [check_step l k hm hl, if_pos hk, if_pos (hg k hk)]) (by show m_plog_Check_s2 l _ _ = _; rw [check_step l _ hm hl, if_neg (by omega)])
          rw [hL, if_pos ⟨c1, c2, hl, hg⟩]
          rfl
        · obtain ⟨n, hn, hng, hgo⟩ := first_not hg
          have hL : loop (fun s => m_plog_Check_s2 l s.1 s.2) (l.fBaseTerm, 0) = some (.inr 1) := loop_run n (fun k => (before l.fBaseTerm l.fEntries k, (k : Int))) _ rfl (fun k hk => by show m_plog_Check_s2 l _ _ = _; rw [check_step l k hm hl, if_pos (by omega), if_pos (hgo k hk)]) (by show m_plog_Check_s2 l _ _ = _; rw [check_step l _ hm hl, if_pos hn, if_neg hng])
          rw [hL, if_neg (fun h => hng (h.2.2.2 n hn))]
          rfl
    · rw [if_neg (by simpa using c2), if_neg (fun h => c2 h.2.1)]
  · rw [if_neg (by simpa using c1), if_neg (fun h => c1 h.1)]
theorem m_rCheck (l : GLog) (hm : modest l.fEntries) : m_ref11_Check l = some (checkP l) := by
  unfold m_ref11_Check checkP
  by_cases a1 : l.fBase < 0
  · rw [if_pos a1, if_neg (fun h => by have := h.1; omega)]
  rw [if_neg a1]
  by_cases a2 : 1099511627776 < l.fBase
  · rw [if_pos a2, if_neg (fun h => by have := h.1; omega)]
  rw [if_neg a2]
  by_cases a3 : l.fBaseTerm < 0
  · rw [if_pos a3, if_neg (fun h => by have := h.2.1; omega)]
  rw [if_neg a3]
  by_cases a4 : 1099511627776 < l.fBaseTerm
  · rw [if_pos a4, if_neg (fun h => by have := h.2.1; omega)]
  rw [if_neg a4]
  by_cases c3 : 100000 < (l.fEntries.length : Int)
  · rw [if_pos c3, if_neg (fun h => by have := h.2.2.1; omega)]
  rw [if_neg c3]
  have hl : l.fEntries.length ≤ 100000 := by omega
  by_cases hg : ∀ k, k < l.fEntries.length → entG (before l.fBaseTerm l.fEntries k) (l.fEntries.getD k zeroE)
  · have hL : loop (fun s => m_ref11_Check_s2 l s.1 s.2) (l.fBaseTerm, 0) = some (.inl ()) := loop_run l.fEntries.length (fun k => (before l.fBaseTerm l.fEntries k, (k : Int))) _ rfl (fun k hk => by show m_ref11_Check_s2 l _ _ = _; rw [rcheck_step l k hm hl (before_pos (by omega) fun j hj => hg j (by omega)), if_pos hk, if_pos (hg k hk)]) (by show m_ref11_Check_s2 l _ _ = _; rw [rcheck_step l _ hm hl (before_pos (by omega) fun j hj => hg j (by omega)), if_neg (by omega)])
    rw [hL, if_pos ⟨by omega, by omega, hl, hg⟩]
    rfl
  · obtain ⟨n, hn, hng, hgo⟩ := first_not hg
    have hL : loop (fun s => m_ref11_Check_s2 l s.1 s.2) (l.fBaseTerm, 0) = some (.inr 1) := loop_run n (fun k => (before l.fBaseTerm l.fEntries k, (k : Int))) _ rfl (fun k hk => by show m_ref11_Check_s2 l _ _ = _; rw [rcheck_step l k hm hl (before_pos (by omega) fun j hj => hgo j (by omega)), if_pos (by omega), if_pos (hgo k hk)]) (by show m_ref11_Check_s2 l _ _ = _; rw [rcheck_step l _ hm hl (before_pos (by omega) fun j hj => hgo j (by omega)), if_pos hn, if_neg hng])
    rw [hL, if_neg (fun h => hng (h.2.2.2 n hn))]
    rfl
/-! ### What is asked of a log -/
theorem right_step (l : List Int) (k : Nat) (hl : l.length ≤ 9223372036854775807) : m_ref11_Right_s2 l (k : Int) = if k < l.length then (if good l k then some (.inl ((k + 1 : Nat) : Int)) else some (.inr (.inr false))) else some (.inr (.inl ())) := by
  unfold m_ref11_Right_s2
  by_cases hk : k < l.length
  · rw [if_pos (by omega), if_pos hk, at_getD hk]
    simp only [Option.bind_some]
    rw [w64_id (x := (k : Int) + 1) (by omega) (by omega)]
    by_cases h1 : l.getD k 0 < 0
    · rw [if_pos h1, if_neg (fun h => by have := h.1; omega)]
    · rw [if_neg h1]
      by_cases h2 : 63 < l.getD k 0
      · rw [if_pos h2, if_neg (fun h => by have := h.2.1; omega)]
      · rw [if_neg h2]
        by_cases h3 : (0 : Int) < k
        · rw [if_pos h3, w64_id (x := (k : Int) - 1) (by omega) (by omega), show (k : Int) - 1 = ((k - 1 : Nat) : Int) by omega, at_getD (by omega)]
          simp only [Option.bind_some]
          by_cases h4 : l.getD k 0 ≤ l.getD (k - 1) 0
          · rw [if_pos h4, if_neg (fun h => by have := h.2.2 (by omega); omega)]
          · rw [if_neg h4, if_pos ⟨by omega, by omega, fun _ => by omega⟩]; rfl
        · rw [if_neg h3, if_pos ⟨by omega, by omega, fun _ => by omega⟩]; rfl
  · rw [if_neg (by omega), if_neg hk]
theorem m_Right (l : List Int) (hl : l.length ≤ 9223372036854775807) : m_ref11_Right l = some (risingP l) := by
  unfold m_ref11_Right
  by_cases hg : ∀ k, k < l.length → good l k
  · have hL : loop (fun s => m_ref11_Right_s2 l s) 0 = some (.inl ()) := loop_run l.length (fun k => (k : Int)) _ rfl (fun k hk => by rw [right_step l k hl, if_pos hk, if_pos (hg k hk)]) (by rw [right_step l _ hl, if_neg (by omega)])
    rw [hL]
    simp only [Option.bind_some, Sum.elim_inl, m_ref11_Right_j1, risingP, Option.some.injEq, decide_eq_decide]
    constructor
    · intro h; exact ⟨by omega, hg⟩
    · intro h; omega
  · obtain ⟨n, hn, hng, hgo⟩ := first_not hg
    have hL : loop (fun s => m_ref11_Right_s2 l s) 0 = some (.inr false) := loop_run n (fun k => (k : Int)) _ rfl (fun k hk => by rw [right_step l k hl, if_pos (by omega), if_pos (hgo k hk)]) (by rw [right_step l _ hl, if_pos hn, if_neg hng])
    rw [hL]
    simp only [Option.bind_some, Sum.elim_inr, risingP, Option.some.injEq]
    exact (decide_eq_false (fun h => hng (h.2 n hn))).symm
open Go.RowKit
/-- What is asked of a note's head. -/
def headP (n : GNote) : Prop := (1 ≤ n.fKind ∧ n.fKind ≤ 5) ∧ (0 ≤ n.fFrom ∧ n.fFrom < 64) ∧ (0 ≤ n.fTo ∧ n.fTo < 64) ∧ n.fFrom ≠ n.fTo ∧ (1 ≤ n.fTerm ∧ n.fTerm ≤ 1099511627776) ∧ (0 ≤ n.fIndex ∧ n.fIndex ≤ 1099511627776) ∧ (0 ≤ n.fCommit ∧ n.fCommit ≤ 1099511627776) ∧ (0 ≤ n.fLogTerm ∧ n.fLogTerm ≤ n.fTerm) ∧ n.fEntries.length ≤ 16 ∧ n.fIndex ≤ 1099511627776 - n.fEntries.length ∧ n.fSnap.size ≤ 50000
instance (n : GNote) : Decidable (headP n) := by unfold headP; infer_instance
/-- May a note be? -/
def okNote (n : GNote) : Prop := headP n ∧ checkP ⟨n.fIndex, n.fLogTerm, n.fEntries⟩ = 0 ∧ (∀ k, k < n.fEntries.length → (n.fEntries.getD k zeroE).fTerm ≤ n.fTerm) ∧ (risingP n.fVoters = true ∨ n.fVoters = [] ∧ n.fKind ≠ 4)
instance (n : GNote) : Decidable (okNote n) := by unfold okNote; infer_instance
def noteP (n : GNote) : Int := if okNote n then 0 else 1
theorem risingP_iff {l : List Int} : risingP l = true ↔ 0 < l.length ∧ ∀ k, k < l.length → good l k := by unfold risingP; exact decide_eq_true_iff
theorem m_node (x : Int) : m_raft_node x = some (decide (0 ≤ x ∧ x < 64)) := by
  unfold m_raft_node
  by_cases h : 0 ≤ x
  · rw [if_pos h]; simp [h]
  · rw [if_neg h]; simp [h]
theorem note_step (n : GNote) (k : Nat) (hl : n.fVoters.length ≤ 1000000) : m_raft_Check_s3 n (k : Int) = if k < n.fVoters.length then (if good n.fVoters k then some (.inl ((k + 1 : Nat) : Int)) else some (.inr (.inr 1))) else some (.inr (.inl ())) := by
  unfold m_raft_Check_s3
  by_cases hk : k < n.fVoters.length
  · rw [if_pos (by omega), if_pos hk, at_getD hk]
    simp only [Option.bind_some, m_node]
    rw [w64_id (x := (k : Int) + 1) (by omega) (by omega)]
    by_cases h1 : 0 ≤ n.fVoters.getD k 0 ∧ n.fVoters.getD k 0 < 64
    · rw [if_pos (by simpa using h1)]
      by_cases h3 : (0 : Int) < k
      · rw [if_pos h3, w64_id (x := (k : Int) - 1) (by omega) (by omega), show (k : Int) - 1 = ((k - 1 : Nat) : Int) by omega, at_getD (by omega)]
        simp only [Option.bind_some]
        by_cases h4 : n.fVoters.getD k 0 ≤ n.fVoters.getD (k - 1) 0
        · rw [if_pos h4, if_neg (fun h => by have := h.2.2 (by omega); omega)]
        · rw [if_neg h4, if_pos ⟨h1.1, h1.2, fun _ => by omega⟩]; rfl
      · rw [if_neg h3, if_pos ⟨h1.1, h1.2, fun _ => by omega⟩]; rfl
    · rw [if_neg (by simpa using h1), if_neg (fun h => h1 ⟨h.1, h.2.1⟩)]
  · rw [if_neg (by omega), if_neg hk]
theorem note_voters (n : GNote) (hl : n.fVoters.length ≤ 1000000) : m_raft_Check_j1 n = some (if risingP n.fVoters = true then 0 else 1) := by
  unfold m_raft_Check_j1
  by_cases hg : ∀ k, k < n.fVoters.length → good n.fVoters k
  · have hL : loop (fun s => m_raft_Check_s3 n s) 0 = some (.inl ()) := loop_run n.fVoters.length (fun k => (k : Int)) _ rfl (fun k hk => by rw [note_step n k hl, if_pos hk, if_pos (hg k hk)]) (by rw [note_step n _ hl, if_neg (by omega)])
    rw [hL]
    simp only [Option.bind_some, Sum.elim_inl, m_raft_Check_j2]
    by_cases h0 : (n.fVoters.length : Int) = 0
    · rw [if_pos h0, if_neg (fun h => by have := (risingP_iff.1 h).1; omega)]
    · rw [if_neg h0, if_pos (risingP_iff.2 ⟨by omega, hg⟩)]
  · obtain ⟨m, hm, hng, hgo⟩ := first_not hg
    have hL : loop (fun s => m_raft_Check_s3 n s) 0 = some (.inr 1) := loop_run m (fun k => (k : Int)) _ rfl (fun k hk => by rw [note_step n k hl, if_pos (by omega), if_pos (hgo k hk)]) (by rw [note_step n _ hl, if_pos hm, if_neg hng])
    rw [hL]
    simp only [Option.bind_some, Sum.elim_inr]
    rw [if_neg (fun h => hng ((risingP_iff.1 h).2 m hm))]
theorem check_terms {l : GLog} (h : checkP l = 0) : ∀ k, k < l.fEntries.length → entG (before l.fBaseTerm l.fEntries k) (l.fEntries.getD k zeroE) := by
  unfold checkP at h
  split at h
  · rename_i h1; exact h1.2.2.2
  · cases h
theorem terms_mono {l : GLog} (h : checkP l = 0) (k : Nat) (hk : k < l.fEntries.length) : ∀ j, j ≤ k → (l.fEntries.getD j zeroE).fTerm ≤ (l.fEntries.getD k zeroE).fTerm := by
  induction k with
  | zero => intro j hj; rw [show j = 0 by omega]; exact Int.le_refl _
  | succ k ih =>
    intro j hj
    rcases Nat.lt_or_ge j (k + 1) with h1 | h1
    · have := ih (by omega) j (by omega)
      have h2 := (check_terms h (k + 1) hk).1
      rw [before_succ] at h2
      omega
    · rw [show j = k + 1 by omega]; exact Int.le_refl _
theorem checkP_or (l : GLog) : checkP l = 0 ∨ checkP l = 1 := by unfold checkP; split <;> simp
theorem m_note (n : GNote) (hm : modest n.fEntries) (hl : n.fVoters.length ≤ 1000000) (he : n.fEntries.length ≤ 1000000) : m_raft_Check n = some (noteP n) := by
  by_cases hh : headP n
  · obtain ⟨⟨a1, a2⟩, b, c, d, ⟨e1, e2⟩, ⟨f1, f2⟩, ⟨g1, g2⟩, ⟨i1, i2⟩, j1, j2, j3⟩ := id hh
    unfold m_raft_Check
    simp only [m_node, Option.bind_some]
    rw [if_neg (by omega), if_neg (by omega), if_pos (by simpa using b), if_pos (by simpa using c), if_neg d, if_neg (by omega), if_neg (by omega), if_neg (by omega), if_neg (by omega), if_neg (by omega), if_neg (by omega), if_neg (by omega), if_neg (by omega), if_neg (by omega), if_neg (by rw [w64_id (by omega) (by omega)]; omega), if_neg (by omega)]
    rw [m_Check _ hm]
    simp only [Option.bind_some]
    unfold noteP
    rcases checkP_or ⟨n.fIndex, n.fLogTerm, n.fEntries⟩ with hc | hc
    · rw [hc]
      simp only [ne_eq, not_true_eq_false, if_false]
      have hv : ∀ q : Int, (∀ k, k < n.fEntries.length → (n.fEntries.getD k zeroE).fTerm ≤ n.fTerm) → (if (n.fVoters.length : Int) = 0 then (if ¬ n.fKind = 4 then some 0 else m_raft_Check_j1 n) else m_raft_Check_j1 n) = some (if okNote n then 0 else 1) := by
        intro _ ht
        rw [note_voters n hl]
        by_cases h0 : (n.fVoters.length : Int) = 0
        · have hnil : n.fVoters = [] := List.eq_nil_of_length_eq_zero (by omega)
          rw [if_pos h0]
          by_cases h4 : n.fKind = 4
          · rw [if_neg (fun h => h h4)]
            congr 1
            rw [if_neg (by rw [hnil]; simp [risingP]), if_neg (fun h => by
              rcases h.2.2.2 with h | h
              · rw [hnil] at h; simp [risingP] at h
              · exact h.2 h4)]
          · rw [if_pos h4, if_pos ⟨hh, hc, ht, .inr ⟨hnil, h4⟩⟩]
        · rw [if_neg h0]
          congr 1
          by_cases hr : risingP n.fVoters = true
          · rw [if_pos hr, if_pos ⟨hh, hc, ht, .inl hr⟩]
          · rw [if_neg hr, if_neg (fun h => by
              rcases h.2.2.2 with h | h
              · exact hr h
              · rw [h.1] at h0; exact h0 rfl)]
      by_cases hn : (0 : Int) < n.fEntries.length
      · rw [if_pos hn, w64_id (x := (n.fEntries.length : Int) - 1) (by omega) (by omega), show (n.fEntries.length : Int) - 1 = ((n.fEntries.length - 1 : Nat) : Int) by omega, at_getE (by omega)]
        simp only [Option.bind_some]
        by_cases ht : n.fTerm < (n.fEntries.getD (n.fEntries.length - 1) zeroE).fTerm
        · rw [if_pos ht, if_neg (fun h => by have := h.2.2.1 (n.fEntries.length - 1) (by omega); omega)]
        · rw [if_neg ht]
          exact hv 0 fun k hk => by
            have := terms_mono hc (n.fEntries.length - 1) (by simp only; omega) k (by omega)
            simp only at this
            omega
      · rw [if_neg hn]
        exact hv 0 fun k hk => by omega
    · rw [hc]
      simp only [ne_eq, Int.reduceEq, not_false_eq_true, if_true]
      rw [if_neg (fun h => by have := h.2.1; rw [hc] at this; cases this)]
  · unfold noteP
    rw [if_neg (fun h => hh h.1)]
    unfold m_raft_Check
    simp only [m_node, Option.bind_some]
    by_cases q1 : n.fKind < 1
    · rw [if_pos q1]
    rw [if_neg q1]
    by_cases q2 : 5 < n.fKind
    · rw [if_pos q2]
    rw [if_neg q2]
    by_cases q3' : ¬ (0 ≤ n.fFrom ∧ n.fFrom < 64)
    · rw [if_neg (by simpa using q3')]
    have q3 := Classical.not_not.1 q3'
    rw [if_pos (by simpa using q3)]
    by_cases q4' : ¬ (0 ≤ n.fTo ∧ n.fTo < 64)
    · rw [if_neg (by simpa using q4')]
    have q4 := Classical.not_not.1 q4'
    rw [if_pos (by simpa using q4)]
    by_cases q5 : n.fFrom = n.fTo
    · rw [if_pos q5]
    rw [if_neg q5]
    by_cases q6 : n.fTerm < 1
    · rw [if_pos q6]
    rw [if_neg q6]
    by_cases q7 : 1099511627776 < n.fTerm
    · rw [if_pos q7]
    rw [if_neg q7]
    by_cases q8 : n.fIndex < 0
    · rw [if_pos q8]
    rw [if_neg q8]
    by_cases q9 : 1099511627776 < n.fIndex
    · rw [if_pos q9]
    rw [if_neg q9]
    by_cases r1 : n.fCommit < 0
    · rw [if_pos r1]
    rw [if_neg r1]
    by_cases r2 : 1099511627776 < n.fCommit
    · rw [if_pos r2]
    rw [if_neg r2]
    by_cases r3 : n.fLogTerm < 0
    · rw [if_pos r3]
    rw [if_neg r3]
    by_cases r4 : n.fTerm < n.fLogTerm
    · rw [if_pos r4]
    rw [if_neg r4]
    by_cases r5 : (16 : Int) < n.fEntries.length
    · rw [if_pos r5]
    rw [if_neg r5]
    by_cases r6 : w64 (1099511627776 - (n.fEntries.length : Int)) < n.fIndex
    · rw [if_pos r6]
    rw [if_neg r6]
    rw [w64_id (by omega) (by omega)] at r6
    by_cases r7 : (50000 : Int) < n.fSnap.size
    · rw [if_pos r7]
    exact absurd ⟨⟨by omega, by omega⟩, q3, q4, q5, ⟨by omega, by omega⟩, ⟨by omega, by omega⟩, ⟨by omega, by omega⟩, ⟨by omega, by omega⟩, by omega, by omega, by omega⟩ hh
theorem rnote_step (n : GNote) (k : Nat) (hl : n.fEntries.length ≤ 1000000) : m_ref12_Check_s3 n (k : Int) = if k < n.fEntries.length then (if (n.fEntries.getD k zeroE).fTerm ≤ n.fTerm then some (.inl ((k + 1 : Nat) : Int)) else some (.inr (.inr 1))) else some (.inr (.inl ())) := by
  unfold m_ref12_Check_s3
  by_cases hk : k < n.fEntries.length
  · rw [if_pos (by omega), if_pos hk, at_getE hk]
    simp only [Option.bind_some]
    rw [w64_id (x := (k : Int) + 1) (by omega) (by omega)]
    by_cases h1 : n.fTerm < (n.fEntries.getD k zeroE).fTerm
    · rw [if_pos h1, if_neg (by omega)]
    · rw [if_neg h1, if_pos (by omega)]; rfl
  · rw [if_neg (by omega), if_neg hk]
theorem m_rnote (n : GNote) (hm : modest n.fEntries) (hl : n.fVoters.length ≤ 1000000) (he : n.fEntries.length ≤ 1000000) : m_ref12_Check n = some (noteP n) := by
  by_cases hh : headP n
  · obtain ⟨⟨a1, a2⟩, b, c, d, ⟨e1, e2⟩, ⟨f1, f2⟩, ⟨g1, g2⟩, ⟨i1, i2⟩, j1, j2, j3⟩ := id hh
    unfold m_ref12_Check
    rw [if_neg (by omega), if_neg (by omega), if_neg (by omega), if_neg (by omega), if_neg (by omega), if_neg (by omega), if_neg d, if_neg (by omega), if_neg (by omega), if_neg (by omega), if_neg (by omega), if_neg (by omega), if_neg (by omega), if_neg (by omega), if_neg (by omega), if_neg (by omega), if_neg (by rw [w64_id (by omega) (by omega)]; omega), if_neg (by omega)]
    rw [m_rCheck _ hm]
    simp only [Option.bind_some]
    unfold noteP
    rcases checkP_or ⟨n.fIndex, n.fLogTerm, n.fEntries⟩ with hc | hc
    · rw [hc]
      simp only [ne_eq, not_true_eq_false, if_false]
      by_cases hg : ∀ k, k < n.fEntries.length → (n.fEntries.getD k zeroE).fTerm ≤ n.fTerm
      · have hL : loop (fun s => m_ref12_Check_s3 n s) 0 = some (.inl ()) := loop_run n.fEntries.length (fun k => (k : Int)) _ rfl (fun k hk => by rw [rnote_step n k he, if_pos hk, if_pos (hg k hk)]) (by rw [rnote_step n _ he, if_neg (by omega)])
        rw [hL]
        simp only [Option.bind_some, Sum.elim_inl, m_ref12_Check_j1, m_ref12_Check_j2]
        rw [m_Right _ (by omega)]
        simp only [Option.bind_some]
        by_cases hr : risingP n.fVoters = true
        · rw [if_pos hr, if_pos ⟨hh, hc, hg, .inl hr⟩]
        · rw [if_neg hr]
          by_cases h0 : (0 : Int) < n.fVoters.length
          · rw [if_pos h0, if_neg (fun h => by
              rcases h.2.2.2 with h | h
              · exact hr h
              · rw [h.1] at h0; simp at h0)]
          · have hnil : n.fVoters = [] := List.eq_nil_of_length_eq_zero (by omega)
            rw [if_neg h0]
            by_cases h4 : n.fKind = 4
            · rw [if_pos h4, if_neg (fun h => by
                rcases h.2.2.2 with h | h
                · exact hr h
                · exact h.2 h4)]
            · rw [if_neg h4, if_pos ⟨hh, hc, hg, .inr ⟨hnil, h4⟩⟩]
      · obtain ⟨m, hm', hng, hgo⟩ := first_not hg
        have hL : loop (fun s => m_ref12_Check_s3 n s) 0 = some (.inr 1) := loop_run m (fun k => (k : Int)) _ rfl (fun k hk => by rw [rnote_step n k he, if_pos (by omega), if_pos (hgo k hk)]) (by rw [rnote_step n _ he, if_pos hm', if_neg hng])
        rw [hL]
        simp only [Option.bind_some, Sum.elim_inr]
        rw [if_neg (fun h => hng (h.2.2.1 m hm'))]
    · rw [hc]
      simp only [ne_eq, Int.reduceEq, not_false_eq_true, if_true]
      rw [if_neg (fun h => by have := h.2.1; rw [hc] at this; cases this)]
  · unfold noteP
    rw [if_neg (fun h => hh h.1)]
    unfold m_ref12_Check
    by_cases q1 : n.fKind < 1
    · rw [if_pos q1]
    rw [if_neg q1]
    by_cases q2 : 5 < n.fKind
    · rw [if_pos q2]
    rw [if_neg q2]
    by_cases q3 : n.fFrom < 0
    · rw [if_pos q3]
    rw [if_neg q3]
    by_cases q3' : 63 < n.fFrom
    · rw [if_pos q3']
    rw [if_neg q3']
    by_cases q4 : n.fTo < 0
    · rw [if_pos q4]
    rw [if_neg q4]
    by_cases q4' : 63 < n.fTo
    · rw [if_pos q4']
    rw [if_neg q4']
    by_cases q5 : n.fFrom = n.fTo
    · rw [if_pos q5]
    rw [if_neg q5]
    by_cases q6 : n.fTerm < 1
    · rw [if_pos q6]
    rw [if_neg q6]
    by_cases q7 : 1099511627776 < n.fTerm
    · rw [if_pos q7]
    rw [if_neg q7]
    by_cases q8 : n.fIndex < 0
    · rw [if_pos q8]
    rw [if_neg q8]
    by_cases q9 : 1099511627776 < n.fIndex
    · rw [if_pos q9]
    rw [if_neg q9]
    by_cases r3 : n.fLogTerm < 0
    · rw [if_pos r3]
    rw [if_neg r3]
    by_cases r4 : n.fTerm < n.fLogTerm
    · rw [if_pos r4]
    rw [if_neg r4]
    by_cases r1 : n.fCommit < 0
    · rw [if_pos r1]
    rw [if_neg r1]
    by_cases r2 : 1099511627776 < n.fCommit
    · rw [if_pos r2]
    rw [if_neg r2]
    by_cases r5 : (16 : Int) < n.fEntries.length
    · rw [if_pos r5]
    rw [if_neg r5]
    by_cases r6 : w64 (1099511627776 - (n.fEntries.length : Int)) < n.fIndex
    · rw [if_pos r6]
    rw [if_neg r6]
    rw [w64_id (by omega) (by omega)] at r6
    by_cases r7 : (50000 : Int) < n.fSnap.size
    · rw [if_pos r7]
    exact absurd ⟨⟨by omega, by omega⟩, ⟨by omega, by omega⟩, ⟨by omega, by omega⟩, q5, ⟨by omega, by omega⟩, ⟨by omega, by omega⟩, ⟨by omega, by omega⟩, ⟨by omega, by omega⟩, by omega, by omega, by omega⟩ hh
/-! ### The law -/
open Go.RowKit
theorem awake20 : m_law20_awake = some true := by decide +kernel
section
variable {ρ : Type} {n : Nat} {good : Nat → Prop} {step : Int → Option (Int ⊕ (Unit ⊕ ρ))} {bad : ρ}
theorem loop_good (h : ∀ k, k < n → good k → step (k : Int) = some (.inl ((k + 1 : Nat) : Int))) (hn : step (n : Int) = some (.inr (.inl ()))) (hg : ∀ k, k < n → good k) : loop step 0 = some (.inl ()) :=
  loop_run n (fun k => (k : Int)) _ rfl (fun k hk => h k hk (hg k hk)) hn
theorem loop_bad (h : ∀ k, k < n → good k → step (k : Int) = some (.inl ((k + 1 : Nat) : Int))) (hb : ∀ k, k < n → ¬ good k → step (k : Int) = some (.inr (.inr bad))) (hg : ¬ ∀ k, k < n → good k) : loop step 0 = some (.inr bad) := by
  obtain ⟨m, hm, hng, hgo⟩ := first_not hg
  exact loop_run m (fun k => (k : Int)) _ rfl (fun k hk => h k (by omega) (hgo k hk)) (hb m hm hng)
end
/-! ### Texts and lists that are cut -/
theorem short20 (s : ByteArray) (n : Int) (hn : 0 ≤ n) : ∃ t, m_law20_short s n = some t ∧ (t.size : Int) ≤ n := by
  unfold m_law20_short
  by_cases c : n < (s.size : Int)
  · rw [if_pos c]
    unfold scutHi
    rw [if_pos (by omega)]
    exact ⟨_, rfl, by rw [ByteArray.size_extract]; omega⟩
  · rw [if_neg c]
    exact ⟨_, rfl, by omega⟩
def smallRR (r : GRR) : Prop := r.fName.size ≤ 300 ∧ r.fData.size ≤ 600
def smallC (e : GCached) : Prop := e.fName.size ≤ 300 ∧ e.fRecords.length ≤ 5 ∧ ∀ r ∈ e.fRecords, smallRR r
/-- A letter that is not too great. -/
structure smallL (l : GLetter) : Prop where
  q : l.fQuestion.fName.size ≤ 300
  t : l.fText.size ≤ 9000
  n : l.fEntries.length ≤ 45
  e : ∀ e ∈ l.fEntries, smallC e
  m : l.fNote.fEntries.length ≤ 20
  d : ∀ e ∈ l.fNote.fEntries, e.fData.size ≤ 100
  v : l.fNote.fVoters.length ≤ 70
  s : l.fNote.fSnap.size ≤ 1000
theorem rr_loop (x : GCached) : ∃ l, loop (fun s => m_law20_small_s7 x s.1 s.2) (([] : List GRR), 0) = some l ∧ l.length ≤ 5 ∧ ∀ r ∈ l, smallRR r := by
  refine loop_rule (step := fun s => m_law20_small_s7 x s.1 s.2) (fun s : List GRR × Int => (s.1.length : Int) = s.2 ∧ s.2 ≤ 5 ∧ ∀ r ∈ s.1, smallRR r) (fun s => (5 - s.2).toNat) (fun l : List GRR => l.length ≤ 5 ∧ ∀ r ∈ l, smallRR r) (fun s ⟨h1, h2, h3⟩ => ?_) (s0 := (([] : List GRR), 0)) ⟨rfl, by decide, fun r hr => by cases hr⟩
  show (∃ s', m_law20_small_s7 x s.1 s.2 = _ ∧ _) ∨ _
  unfold m_law20_small_s7
  by_cases c1 : s.2 < x.fRecords.length
  · rw [if_pos c1]
    by_cases c2 : s.2 < 5
    · rw [if_pos c2, at_of (by omega) (by omega)]
      obtain ⟨a, ha, ha'⟩ := short20 (x.fRecords[s.2.toNat]).fName 300 (by decide)
      obtain ⟨b, hb, hb'⟩ := short20 (x.fRecords[s.2.toNat]).fData 600 (by decide)
      simp only [Option.bind_some]
      rw [ha, hb]
      simp only [Option.bind_some]
      rw [app_of (by simp; omega), w64_id (x := s.2 + 1) (by omega) (by omega)]
      refine .inl ⟨_, rfl, ⟨by simp; omega, by omega, fun r hr => ?_⟩, by simp only; omega⟩
      rcases List.mem_append.1 hr with hr | hr
      · exact h3 r hr
      · simp only [List.mem_singleton] at hr; subst hr; exact ⟨by simp only; omega, by simp only; omega⟩
    · rw [if_neg c2]
      exact .inr ⟨_, rfl, by omega, h3⟩
  · rw [if_neg c1]
    exact .inr ⟨_, rfl, by omega, h3⟩
theorem c_loop20 (p : GLetter) : ∃ l, loop (fun s => m_law20_small_s5 p s.1 s.2) (([] : List GCached), 0) = some l ∧ l.length ≤ 45 ∧ ∀ e ∈ l, smallC e := by
  refine loop_rule (step := fun s => m_law20_small_s5 p s.1 s.2) (fun s : List GCached × Int => (s.1.length : Int) = s.2 ∧ s.2 ≤ 45 ∧ ∀ r ∈ s.1, smallC r) (fun s => (45 - s.2).toNat) (fun l : List GCached => l.length ≤ 45 ∧ ∀ r ∈ l, smallC r) (fun s ⟨h1, h2, h3⟩ => ?_) (s0 := (([] : List GCached), 0)) ⟨rfl, by decide, fun r hr => by cases hr⟩
  show (∃ s', m_law20_small_s5 p s.1 s.2 = _ ∧ _) ∨ _
  unfold m_law20_small_s5
  by_cases c1 : s.2 < p.fEntries.length
  · rw [if_pos c1]
    by_cases c2 : s.2 < 45
    · rw [if_pos c2, at_of (by omega) (by omega)]
      simp only [Option.bind_some]
      generalize p.fEntries[s.2.toNat] = x
      obtain ⟨a, ha, ha'⟩ := short20 x.fName 300 (by decide)
      obtain ⟨l, hl, hl', hl2⟩ := rr_loop x
      rw [ha]
      simp only [Option.bind_some]
      rw [hl]
      simp only [Option.bind_some]
      unfold m_law20_small_j6
      rw [app_of (by simp; omega), w64_id (x := s.2 + 1) (by omega) (by omega)]
      refine .inl ⟨_, rfl, ⟨by simp; omega, by omega, fun r hr => ?_⟩, by simp only; omega⟩
      rcases List.mem_append.1 hr with hr | hr
      · exact h3 r hr
      · simp only [List.mem_singleton] at hr; subst hr; exact ⟨by simp only; omega, hl', hl2⟩
    · rw [if_neg c2]
      exact .inr ⟨_, rfl, by omega, h3⟩
  · rw [if_neg c1]
    exact .inr ⟨_, rfl, by omega, h3⟩
theorem e_loop20 (p : GLetter) : ∃ l, loop (fun s => m_law20_small_s4 p s.1 s.2) (([] : List GEntry), 0) = some l ∧ l.length ≤ 20 ∧ ∀ e ∈ l, e.fData.size ≤ 100 := by
  refine loop_rule (step := fun s => m_law20_small_s4 p s.1 s.2) (fun s : List GEntry × Int => (s.1.length : Int) = s.2 ∧ s.2 ≤ 20 ∧ ∀ r ∈ s.1, r.fData.size ≤ 100) (fun s => (20 - s.2).toNat) (fun l : List GEntry => l.length ≤ 20 ∧ ∀ r ∈ l, r.fData.size ≤ 100) (fun s ⟨h1, h2, h3⟩ => ?_) (s0 := (([] : List GEntry), 0)) ⟨rfl, by decide, fun r hr => by cases hr⟩
  show (∃ s', m_law20_small_s4 p s.1 s.2 = _ ∧ _) ∨ _
  unfold m_law20_small_s4
  by_cases c1 : s.2 < p.fNote.fEntries.length
  · rw [if_pos c1]
    by_cases c2 : s.2 < 20
    · rw [if_pos c2, at_of (by omega) (by omega)]
      simp only [Option.bind_some]
      generalize p.fNote.fEntries[s.2.toNat] = x
      obtain ⟨a, ha, ha'⟩ := short20 x.fData 100 (by decide)
      rw [ha]
      simp only [Option.bind_some]
      rw [app_of (by simp; omega), w64_id (x := s.2 + 1) (by omega) (by omega)]
      refine .inl ⟨_, rfl, ⟨by simp; omega, by omega, fun r hr => ?_⟩, by simp only; omega⟩
      rcases List.mem_append.1 hr with hr | hr
      · exact h3 r hr
      · simp only [List.mem_singleton] at hr; subst hr; simp only; omega
    · rw [if_neg c2]
      exact .inr ⟨_, rfl, by omega, h3⟩
  · rw [if_neg c1]
    exact .inr ⟨_, rfl, by omega, h3⟩
theorem small20 (p : GLetter) : ∃ l, m_law20_small p = some l ∧ smallL l ∧ l.fKind = p.fKind := by
  unfold m_law20_small
  obtain ⟨a, ha, ha'⟩ := short20 p.fQuestion.fName 300 (by decide)
  obtain ⟨b, hb, hb'⟩ := short20 p.fText 9000 (by decide)
  obtain ⟨c, hc, hc', hc2⟩ := c_loop20 p
  obtain ⟨d, hd, hd', hd2⟩ := e_loop20 p
  obtain ⟨e, he, he'⟩ := short20 p.fNote.fSnap 1000 (by decide)
  rw [ha, hb]
  simp only [Option.bind_some]
  rw [hc]
  simp only [Option.bind_some]
  unfold m_law20_small_j1
  rw [hd]
  simp only [Option.bind_some]
  have hj : ∀ v : List Int, v.length ≤ 70 → ∃ l, m_law20_small_j3 p a c d b v = some l ∧ smallL l ∧ l.fKind = p.fKind := fun v hv => by
    unfold m_law20_small_j3
    rw [he]
    exact ⟨_, rfl, ⟨by simp only; omega, by simp only; omega, hc', hc2, hd', hd2, hv, by simp only; omega⟩, rfl⟩
  unfold m_law20_small_j2
  by_cases q : (70 : Int) < p.fNote.fVoters.length
  · rw [if_pos q]
    unfold cutHi
    rw [if_pos (by omega)]
    exact hj _ (by rw [List.length_take]; omega)
  · rw [if_neg q]
    exact hj _ (by omega)
/-! ### Entries of the cache that may be -/
open Classical in
noncomputable def bP (p : Prop) : Bool := if p then true else false
theorem bP_t {p : Prop} (h : p) : bP p = true := if_pos h
theorem bP_f {p : Prop} (h : ¬ p) : bP p = false := if_neg h
theorem bP_congr {p q : Prop} (h : p ↔ q) : bP p = bP q := by rw [propext h]
theorem bP_dec {p : Prop} [Decidable p] : decide p = bP p := by
  by_cases h : p
  · rw [bP_t h, decide_eq_true h]
  · rw [bP_f h, decide_eq_false h]
noncomputable def sameN (a b : ByteArray) : Bool := bP (isNm a ∧ isNm b ∧ lowB a = lowB b)
theorem sameN_nm {a b : ByteArray} {x y : List ByteArray} (c : isNm a ∧ isNm b) (hx : Nm a x) (hy : Nm b y) : decide (revL x = revL y) = sameN a b := by
  unfold sameN
  rw [bP_dec]
  exact bP_congr (by rw [← lowB_iff hx hy]; exact ⟨fun h => ⟨c.1, c.2, h⟩, fun h => h.2.2⟩)
theorem sameN_no {a b : ByteArray} (c : ¬ (isNm a ∧ isNm b)) : sameN a b = false := by unfold sameN; exact bP_f (fun h => c ⟨h.1, h.2.1⟩)
theorem same_c {a b : ByteArray} (ha : a.size ≤ 1099511627776) (hb : b.size ≤ 1099511627776) : m_name_Same a b = some (sameN a b) := by
  by_cases c : isNm a ∧ isNm b
  · obtain ⟨⟨x, hx, hx'⟩, y, hy, hy'⟩ := id c
    rw [same_nm hx hx' hy hy', sameN_nm c hx hy]
  · rw [same_no c ha hb, sameN_no c]
/-- What a record's own check says. -/
def recP (r : GRR) : Prop := isNm r.fName ∧ r.fData.size ≤ 2000 ∧ rightP r.fType r.fData = true
theorem rec_any {r : GRR} (h : smallRR r) : ∃ e, m_record_Check r = some e ∧ (e = 0 ↔ recP r) := check_code (by have := h.1; omega) (by have := h.2; omega)
def recOf (e : GCached) (r : GRR) : Prop := r.fClass = e.fClass ∧ (e.fKind = 1 → r.fType = e.fType ∧ sameN r.fName e.fName = true) ∧ (e.fKind ≠ 1 → r.fType = 6) ∧ recP r
def zeroRR : GRR := ⟨⟨#[]⟩, 0, 0, 0, ⟨#[]⟩⟩
/-- May an entry be? -/
def okC (e : GCached) : Prop := (1 ≤ e.fKind ∧ e.fKind ≤ 3) ∧ isNm e.fName ∧ (0 ≤ e.fUntil ∧ e.fUntil ≤ 1125899906842624) ∧ (1 ≤ e.fRank ∧ e.fRank ≤ 4) ∧ (0 ≤ e.fEpoch ∧ e.fEpoch ≤ 1099511627776) ∧ (e.fKind = 1 → 1 ≤ e.fRecords.length ∧ e.fRecords.length ≤ 64) ∧ (e.fKind ≠ 1 → e.fRecords.length ≤ 1) ∧ (e.fKind = 3 → e.fType = 0) ∧ ∀ k, k < e.fRecords.length → recOf e (e.fRecords.getD k zeroRR)
theorem at_getR {l : List GRR} {k : Nat} (h : k < l.length) : at_ l (k : Int) = some (l.getD k zeroRR) := by
  rw [at_nat h, List.getD_eq_getElem?_getD, List.getElem?_eq_getElem h]; rfl
theorem getR_mem {l : List GRR} {k : Nat} (h : k < l.length) : l.getD k zeroRR ∈ l := by
  rw [List.getD_eq_getElem?_getD, List.getElem?_eq_getElem h]; exact List.getElem_mem h
theorem m_within102 (a b c : Int) : m_cache_within_102 a b c = some (decide (b ≤ a ∧ a ≤ c)) := by
  unfold m_cache_within_102
  by_cases h : b ≤ a
  · rw [if_pos h]; simp [h]
  · rw [if_neg h]; simp [h]
open Classical in
noncomputable def b01 (p : Prop) : Int := if p then 0 else 1
theorem b01_t {p : Prop} (h : p) : b01 p = 0 := if_pos h
theorem b01_f {p : Prop} (h : ¬ p) : b01 p = 1 := if_neg h
theorem c_step1 (e : GCached) (he : smallC e) (h1 : e.fKind = 1) (k : Nat) (hk : k < e.fRecords.length) : (recOf e (e.fRecords.getD k zeroRR) → m_cache_Check_s3 e (k : Int) = some (.inl ((k + 1 : Nat) : Int))) ∧ (¬ recOf e (e.fRecords.getD k zeroRR) → m_cache_Check_s3 e (k : Int) = some (.inr (.inr 1))) := by
  unfold m_cache_Check_s3
  obtain ⟨en, el, er⟩ := he
  rw [if_pos (by omega), at_getR hk, w64_id (x := (k : Int) + 1) (by omega) (by omega)]
  have hr := er _ (getR_mem hk)
  generalize e.fRecords.getD k zeroRR = r at *
  simp only [Option.bind_some]
  unfold m_cache_Check_c2
  rw [same_c (a := r.fName) (b := e.fName) (by have := hr.1; omega) (by omega)]
  simp only [Option.bind_some]
  obtain ⟨x, hx, hx2⟩ := rec_any hr
  refine ⟨fun h => ?_, fun h => ?_⟩
  · obtain ⟨g1, g2, g3, g4⟩ := h
    rw [if_neg (fun q => q g1), if_pos (g2 h1).1]
    simp only [Option.bind_some]
    rw [if_pos (g2 h1).2, hx]
    simp only [Option.bind_some]
    rw [if_neg (fun q => q (hx2.2 g4))]; rfl
  · by_cases a1 : r.fClass ≠ e.fClass
    · rw [if_pos a1]
    rw [if_neg a1]
    by_cases a2 : r.fType = e.fType
    · rw [if_pos a2]
      simp only [Option.bind_some]
      by_cases a3 : sameN r.fName e.fName = true
      · rw [if_pos a3, hx]
        simp only [Option.bind_some]
        rw [if_pos (fun q => h ⟨Classical.not_not.1 a1, fun _ => ⟨a2, a3⟩, fun q2 => absurd h1 q2, hx2.1 q⟩)]
      · rw [if_neg a3]
    · rw [if_neg a2]
      simp
theorem c_step2 (e : GCached) (he : smallC e) (h1 : e.fKind ≠ 1) (k : Nat) (hk : k < e.fRecords.length) : (recOf e (e.fRecords.getD k zeroRR) → m_cache_Check_s6 e (k : Int) = some (.inl ((k + 1 : Nat) : Int))) ∧ (¬ recOf e (e.fRecords.getD k zeroRR) → m_cache_Check_s6 e (k : Int) = some (.inr (.inr 1))) := by
  unfold m_cache_Check_s6
  obtain ⟨en, el, er⟩ := he
  rw [if_pos (by omega), at_getR hk, w64_id (x := (k : Int) + 1) (by omega) (by omega)]
  have hr := er _ (getR_mem hk)
  generalize e.fRecords.getD k zeroRR = r at *
  simp only [Option.bind_some]
  unfold m_cache_Check_c1
  simp only [Option.bind_some]
  obtain ⟨x, hx, hx2⟩ := rec_any hr
  refine ⟨fun h => ?_, fun h => ?_⟩
  · obtain ⟨g1, g2, g3, g4⟩ := h
    rw [if_neg (fun q => q g1), if_pos (decide_eq_true (g3 h1)), hx]
    simp only [Option.bind_some]
    rw [if_neg (fun q => q (hx2.2 g4))]; rfl
  · by_cases a1 : r.fClass ≠ e.fClass
    · rw [if_pos a1]
    rw [if_neg a1]
    by_cases a2 : r.fType = 6
    · rw [if_pos (decide_eq_true a2), hx]
      simp only [Option.bind_some]
      rw [if_pos (fun q => h ⟨Classical.not_not.1 a1, fun q2 => absurd q2 h1, fun _ => a2, hx2.1 q⟩)]
    · rw [if_neg (by simpa using a2)]
theorem c_end1 (e : GCached) : m_cache_Check_s3 e (e.fRecords.length : Int) = some (.inr (.inl ())) := by unfold m_cache_Check_s3; rw [if_neg (by omega)]
theorem c_end2 (e : GCached) : m_cache_Check_s6 e (e.fRecords.length : Int) = some (.inr (.inl ())) := by unfold m_cache_Check_s6; rw [if_neg (by omega)]
def recsOf (e : GCached) : Prop := ∀ k, k < e.fRecords.length → recOf e (e.fRecords.getD k zeroRR)
theorem c_recs1 (e : GCached) (he : smallC e) (h1 : e.fKind = 1) : m_cache_Check_j1 e = some (b01 (recsOf e)) := by
  unfold m_cache_Check_j1
  by_cases hg : recsOf e
  · rw [loop_good (good := fun k => recOf e (e.fRecords.getD k zeroRR)) (fun k hk => (c_step1 e he h1 k hk).1) (c_end1 e) hg, b01_t hg]; rfl
  · rw [loop_bad (good := fun k => recOf e (e.fRecords.getD k zeroRR)) (fun k hk => (c_step1 e he h1 k hk).1) (fun k hk => (c_step1 e he h1 k hk).2) hg, b01_f hg]; rfl
theorem c_recs2 (e : GCached) (he : smallC e) (h1 : e.fKind ≠ 1) : m_cache_Check_j4 e = some (b01 (recsOf e)) := by
  unfold m_cache_Check_j4
  by_cases hg : recsOf e
  · rw [loop_good (good := fun k => recOf e (e.fRecords.getD k zeroRR)) (fun k hk => (c_step2 e he h1 k hk).1) (c_end2 e) hg, b01_t hg]; rfl
  · rw [loop_bad (good := fun k => recOf e (e.fRecords.getD k zeroRR)) (fun k hk => (c_step2 e he h1 k hk).1) (fun k hk => (c_step2 e he h1 k hk).2) hg, b01_f hg]; rfl
theorem b01_congr {p q : Prop} (h : p ↔ q) : b01 p = b01 q := by rw [propext h]
theorem m_cacheC (e : GCached) (he : smallC e) : m_cache_Check e = some (b01 (okC e)) := by
  obtain ⟨x, hx, hx2⟩ := isNm_checkC (n := e.fName) (by have := he.1; omega)
  have hl := he.2.1
  unfold m_cache_Check
  simp only [m_within102, Option.bind_some, decide_eq_true_eq, hx]
  by_cases a1 : 1 ≤ e.fKind ∧ e.fKind ≤ 3
  · rw [if_pos a1]
    by_cases a2 : x = 0
    · rw [if_neg (fun q => q a2)]
      by_cases a3 : 0 ≤ e.fUntil ∧ e.fUntil ≤ 1125899906842624
      · rw [if_pos a3]
        by_cases a4 : 1 ≤ e.fRank ∧ e.fRank ≤ 4
        · rw [if_pos a4]
          by_cases a5 : 0 ≤ e.fEpoch ∧ e.fEpoch ≤ 1099511627776
          · rw [if_pos a5]
            by_cases a6 : e.fKind = 1
            · rw [if_pos a6]
              by_cases a7 : 1 ≤ (e.fRecords.length : Int) ∧ (e.fRecords.length : Int) ≤ 64
              · rw [if_pos a7, if_neg (by omega), c_recs1 e he a6]
                exact congrArg some (b01_congr ⟨fun h => ⟨a1, hx2.1 a2, a3, a4, a5, fun _ => by omega, fun q => absurd a6 q, fun q => by omega, h⟩, fun h => h.2.2.2.2.2.2.2.2⟩)
              · rw [if_neg a7, b01_f (fun h => a7 (by have := h.2.2.2.2.2.1 a6; omega))]
            · rw [if_neg a6]
              by_cases a7 : 0 ≤ (e.fRecords.length : Int) ∧ (e.fRecords.length : Int) ≤ 1
              · rw [if_pos a7]
                by_cases a8 : e.fKind = 3
                · rw [if_pos a8]
                  by_cases a9 : e.fType ≠ 0
                  · rw [if_pos a9, b01_f (fun h => a9 (h.2.2.2.2.2.2.2.1 a8))]
                  · rw [if_neg a9, c_recs2 e he a6]
                    exact congrArg some (b01_congr ⟨fun h => ⟨a1, hx2.1 a2, a3, a4, a5, fun q => absurd q a6, fun q => by omega, fun q => Classical.not_not.1 a9, h⟩, fun h => h.2.2.2.2.2.2.2.2⟩)
                · rw [if_neg a8, c_recs2 e he a6]
                  exact congrArg some (b01_congr ⟨fun h => ⟨a1, hx2.1 a2, a3, a4, a5, fun q => absurd q a6, fun q => by omega, fun q => absurd q a8, h⟩, fun h => h.2.2.2.2.2.2.2.2⟩)
              · rw [if_neg a7, b01_f (fun h => a7 (by have := h.2.2.2.2.2.2.1 a6; omega))]
          · rw [if_neg a5, b01_f (fun h => a5 h.2.2.2.2.1)]
        · rw [if_neg a4, b01_f (fun h => a4 h.2.2.2.1)]
      · rw [if_neg a3, b01_f (fun h => a3 h.2.2.1)]
    · rw [if_pos a2, b01_f (fun h => a2 (hx2.2 h.2.1))]
  · rw [if_neg a1, b01_f (fun h => a1 h.1)]
/-! ### Entries, letters -/
def okEnt (e : GCached) : Prop := okC e ∧ 0 ≤ e.fSource ∧ e.fSource ≤ 4611686018427387904
theorem b01_z {p : Prop} : b01 p = 0 ↔ p := by
  by_cases h : p
  · rw [b01_t h]; simp [h]
  · rw [b01_f h]; simp [h]
theorem m_entry20 (e : GCached) (he : smallC e) : m_peer_entry e = some (bP (okEnt e)) := by
  unfold m_peer_entry
  rw [m_cacheC e he]
  simp only [Option.bind_some]
  by_cases a1 : b01 (okC e) = 0
  · rw [if_pos a1]
    by_cases a2 : 0 ≤ e.fSource
    · rw [if_pos a2, bP_dec]
      exact congrArg some (bP_congr ⟨fun h => ⟨b01_z.1 a1, a2, h⟩, fun h => h.2.2⟩)
    · rw [if_neg a2, bP_f (fun h => a2 h.2.1)]
  · rw [if_neg a1, bP_f (fun h => a1 (b01_z.2 h.1))]
def zeroC : GCached := ⟨0, ⟨#[]⟩, 0, 0, [], 0, 0, 0, 0⟩
theorem at_getC {l : List GCached} {k : Nat} (h : k < l.length) : at_ l (k : Int) = some (l.getD k zeroC) := by
  rw [at_nat h, List.getD_eq_getElem?_getD, List.getElem?_eq_getElem h]; rfl
theorem getC_mem {l : List GCached} {k : Nat} (h : k < l.length) : l.getD k zeroC ∈ l := by
  rw [List.getD_eq_getElem?_getD, List.getElem?_eq_getElem h]; exact List.getElem_mem h
def entsOk (l : List GCached) : Prop := ∀ k, k < l.length → okEnt (l.getD k zeroC)
theorem m_wrong (l : List GCached) (hl : l.length ≤ 45) (he : ∀ e ∈ l, smallC e) : m_slices_ContainsFunc_74 l = some (bP (¬ entsOk l)) := by
  unfold m_slices_ContainsFunc_74 m_slices_IndexFunc_91
  have hstep : ∀ k, k < l.length → (okEnt (l.getD k zeroC) → m_slices_IndexFunc_91_s2 l (k : Int) = some (.inl ((k + 1 : Nat) : Int))) ∧ (¬ okEnt (l.getD k zeroC) → m_slices_IndexFunc_91_s2 l (k : Int) = some (.inr (.inr (k : Int)))) := fun k hk => by
    unfold m_slices_IndexFunc_91_s2
    rw [if_pos (by omega), at_getC hk, w64_id (x := (k : Int) + 1) (by omega) (by omega)]
    simp only [Option.bind_some]
    unfold m_peer_may_c1
    rw [m_entry20 _ (he _ (getC_mem hk))]
    simp only [Option.bind_some]
    refine ⟨fun h => ?_, fun h => ?_⟩
    · rw [bP_t h, if_neg (by decide)]; rfl
    · rw [bP_f h, if_pos (by decide)]
  have hend : m_slices_IndexFunc_91_s2 l (l.length : Int) = some (.inr (.inl ())) := by unfold m_slices_IndexFunc_91_s2; rw [if_neg (by omega)]
  by_cases hg : entsOk l
  · rw [loop_good (good := fun k => okEnt (l.getD k zeroC)) (fun k hk => (hstep k hk).1) hend hg, bP_f (fun h => h hg)]
    rfl
  · obtain ⟨m, hm, hng, hgo⟩ := first_not hg
    have hL : loop (fun s => m_slices_IndexFunc_91_s2 l s) 0 = some (.inr (m : Int)) := loop_run m (fun k => (k : Int)) (.inr (m : Int)) rfl (fun k hk => (hstep k (by omega)).1 (hgo k hk)) ((hstep m hm).2 hng)
    rw [hL, bP_t hg]
    simp
def zeroN (n : GNote) : Prop := n = ⟨0, 0, 0, 0, 0, 0, 0, false, [], [], ⟨#[]⟩⟩
theorem nil_len {α : Type} {l : List α} (h : (l.length : Int) = 0) : l = [] := List.eq_nil_of_length_eq_zero (by omega)
theorem m_nothing (n : GNote) (h1 : n.fEntries.length ≤ 1000) (h2 : n.fVoters.length ≤ 1000) (h3 : n.fSnap.size ≤ 10000) : m_peer_nothing n = some (bP (zeroN n)) := by
  unfold m_peer_nothing
  rw [w64_id (x := (n.fEntries.length : Int) + n.fVoters.length) (by omega) (by omega), w64_id (by omega) (by omega)]
  obtain ⟨k, f, t, te, ix, lt, c, g, es, vs, s⟩ := n
  simp only [Garray147.mk.injEq]
  simp only at h1 h2 h3
  by_cases a1 : k = 0 ∧ f = 0 ∧ t = 0 ∧ te = 0 ∧ ix = 0 ∧ lt = 0 ∧ c = 0
  · rw [if_pos a1]
    cases g with
    | true => rw [if_pos rfl, bP_f (fun h => by have := congrArg GNote.fGood h; cases this)]
    | false =>
      rw [if_neg (by decide), bP_dec]
      refine congrArg some (bP_congr ⟨fun h => ?_, fun h => ?_⟩)
      · obtain ⟨rfl, rfl, rfl, rfl, rfl, rfl, rfl⟩ := a1
        have e1 : es = [] := nil_len (by omega)
        have e2 : vs = [] := nil_len (by omega)
        have e3 : s = ⟨#[]⟩ := size_nil.2 (by omega)
        subst e1 e2 e3
        rfl
      · unfold zeroN at h
        simp only [GNote.mk.injEq] at h
        obtain ⟨_, _, _, _, _, _, _, _, rfl, rfl, rfl⟩ := h
        rfl
  · rw [if_neg a1, bP_f (fun h => a1 (by unfold zeroN at h; simp only [GNote.mk.injEq] at h; exact ⟨h.1, h.2.1, h.2.2.1, h.2.2.2.1, h.2.2.2.2.1, h.2.2.2.2.2.1, h.2.2.2.2.2.2.1⟩))]
theorem modest20 {l : GLetter} (h : smallL l) : modest l.fNote.fEntries := fun e he => by have := h.d e he; omega
def zeroQ : GQuestion := ⟨⟨#[]⟩, 0, 0⟩
/-- What is of a letter's kind. -/
def kindP (l : GLetter) : Prop := (l.fKind = 1 → isNm l.fQuestion.fName) ∧ (l.fKind = 2 → entsOk l.fEntries ∧ l.fEntries.length ≤ 40 ∧ (l.fGood = true ∨ l.fEntries = [])) ∧ (l.fKind = 3 → noteP l.fNote = 0) ∧ (l.fKind = 5 → l.fText.size ≤ 8000) ∧ 1 ≤ l.fKind ∧ l.fKind ≤ 5
def mayP (l : GLetter) : Prop := (l.fKind ≠ 1 → l.fQuestion = zeroQ) ∧ (l.fKind ≠ 2 → l.fGood = false ∧ l.fEntries = []) ∧ (l.fKind ≠ 3 → zeroN l.fNote) ∧ (l.fKind ≠ 5 → l.fText = ⟨#[]⟩) ∧ kindP l
theorem notz {a b : Int} (h : ¬ a ≠ b) : a = b := Classical.not_not.1 h
theorem may_kind (l : GLetter) (h : smallL l) :
    (if l.fKind = 1 then (m_name_Check l.fQuestion.fName).bind fun x => some (decide (x = 0)) else if l.fKind = 2 then (m_slices_ContainsFunc_74 l.fEntries).bind fun x => if x = true then some false else if (l.fEntries.length : Int) ≤ 40 then if l.fGood = true then some true else some (decide ((l.fEntries.length : Int) = 0)) else some false
      else if l.fKind = 3 then (m_raft_Check l.fNote).bind fun x => some (decide (x = 0)) else if l.fKind = 5 then some (decide ((l.fText.size : Int) ≤ 8000)) else some (decide (l.fKind = 4))) = some (bP (kindP l)) := by
  by_cases a1 : l.fKind = 1
  · rw [if_pos a1]
    obtain ⟨x, hx, hx2⟩ := isNm_checkC (n := l.fQuestion.fName) (by have := h.q; omega)
    rw [hx]
    simp only [Option.bind_some]
    rw [bP_dec]
    exact congrArg some (bP_congr ⟨fun q => ⟨fun _ => hx2.1 q, fun q => by omega, fun q => by omega, fun q => by omega, by omega, by omega⟩, fun q => hx2.2 (q.1 a1)⟩)
  rw [if_neg a1]
  by_cases a2 : l.fKind = 2
  · rw [if_pos a2, m_wrong _ h.n h.e]
    simp only [Option.bind_some]
    by_cases b1 : entsOk l.fEntries
    · rw [bP_f (fun q => q b1), if_neg (by decide)]
      by_cases b2 : (l.fEntries.length : Int) ≤ 40
      · rw [if_pos b2]
        by_cases b3 : l.fGood = true
        · rw [if_pos b3, bP_t ⟨fun q => by omega, fun _ => ⟨b1, by omega, .inl b3⟩, fun q => by omega, fun q => by omega, by omega, by omega⟩]
        · rw [if_neg b3, bP_dec]
          exact congrArg some (bP_congr ⟨fun q => ⟨fun q => by omega, fun _ => ⟨b1, by omega, .inr (nil_len q)⟩, fun q => by omega, fun q => by omega, by omega, by omega⟩, fun q => by
            rcases (q.2.1 a2).2.2 with q | q
            · exact absurd q b3
            · rw [q]; rfl⟩)
      · rw [if_neg b2, bP_f (fun q => b2 (by have := (q.2.1 a2).2.1; omega))]
    · rw [bP_t b1, if_pos rfl, bP_f (fun q => b1 (q.2.1 a2).1)]
  rw [if_neg a2]
  by_cases a3 : l.fKind = 3
  · rw [if_pos a3, m_note _ (modest20 h) (by have := h.v; omega) (by have := h.m; omega)]
    simp only [Option.bind_some]
    rw [bP_dec]
    exact congrArg some (bP_congr ⟨fun q => ⟨fun q => by omega, fun q => by omega, fun _ => q, fun q => by omega, by omega, by omega⟩, fun q => q.2.2.1 a3⟩)
  rw [if_neg a3]
  by_cases a5 : l.fKind = 5
  · rw [if_pos a5, bP_dec]
    exact congrArg some (bP_congr ⟨fun q => ⟨fun q => by omega, fun q => by omega, fun q => by omega, fun _ => by omega, by omega, by omega⟩, fun q => by have := q.2.2.2.1 a5; omega⟩)
  rw [if_neg a5, bP_dec]
  exact congrArg some (bP_congr ⟨fun q => ⟨fun q => by omega, fun q => by omega, fun q => by omega, fun q => by omega, by omega, by omega⟩, fun q => by have := q.2.2.2.2; omega⟩)
theorem m_may (l : GLetter) (h : smallL l) : m_peer_may l = some (bP (mayP l)) := by
  have hj3 : m_peer_may_j3 l = some (bP ((l.fKind ≠ 5 → l.fText = ⟨#[]⟩) ∧ kindP l)) := by
    unfold m_peer_may_j3
    by_cases c : l.fKind ≠ 5
    · rw [if_pos c]
      by_cases d : l.fText = ⟨#[]⟩
      · rw [if_pos d]
        refine (may_kind l h).trans (congrArg some (bP_congr ⟨fun q => ⟨fun _ => d, q⟩, fun q => q.2⟩))
      · rw [if_neg d, bP_f (fun q => d (q.1 c))]
    · rw [if_neg c]
      refine (may_kind l h).trans (congrArg some (bP_congr ⟨fun q => ⟨fun q2 => absurd q2 c, q⟩, fun q => q.2⟩))
  have hj2 : m_peer_may_j2 l = some (bP ((l.fKind ≠ 3 → zeroN l.fNote) ∧ (l.fKind ≠ 5 → l.fText = ⟨#[]⟩) ∧ kindP l)) := by
    unfold m_peer_may_j2
    rw [m_nothing _ (by have := h.m; omega) (by have := h.v; omega) (by have := h.s; omega), hj3]
    simp only [Option.bind_some]
    by_cases c : l.fKind ≠ 3
    · rw [if_pos c]
      by_cases d : zeroN l.fNote
      · rw [bP_t d, if_pos rfl]
        exact congrArg some (bP_congr ⟨fun q => ⟨fun _ => d, q⟩, fun q => q.2⟩)
      · rw [bP_f d, if_neg (by decide), bP_f (fun q => d (q.1 c))]
    · rw [if_neg c]
      exact congrArg some (bP_congr ⟨fun q => ⟨fun q2 => absurd q2 c, q⟩, fun q => q.2⟩)
  have hj1 : m_peer_may_j1 l = some (bP ((l.fKind ≠ 2 → l.fGood = false ∧ l.fEntries = []) ∧ (l.fKind ≠ 3 → zeroN l.fNote) ∧ (l.fKind ≠ 5 → l.fText = ⟨#[]⟩) ∧ kindP l)) := by
    unfold m_peer_may_j1
    rw [hj2]
    by_cases c : l.fKind ≠ 2
    · rw [if_pos c]
      by_cases d : l.fGood = true
      · rw [if_pos d, bP_f (fun q => by have := (q.1 c).1; rw [d] at this; cases this)]
      · rw [if_neg d]
        by_cases e : (0 : Int) < l.fEntries.length
        · rw [if_pos e, bP_f (fun q => by rw [(q.1 c).2] at e; simp at e)]
        · rw [if_neg e]
          exact congrArg some (bP_congr ⟨fun q => ⟨fun _ => ⟨by simpa using d, nil_len (by omega)⟩, q⟩, fun q => q.2⟩)
    · rw [if_neg c]
      exact congrArg some (bP_congr ⟨fun q => ⟨fun q2 => absurd q2 c, q⟩, fun q => q.2⟩)
  unfold m_peer_may
  rw [hj1]
  by_cases c : l.fKind ≠ 1
  · rw [if_pos c]
    by_cases d : l.fQuestion = ⟨⟨#[]⟩, 0, 0⟩
    · rw [if_pos d]
      exact congrArg some (bP_congr ⟨fun q => ⟨fun _ => d, q⟩, fun q => q.2⟩)
    · rw [if_neg d, bP_f (fun q => d (q.1 c))]
  · rw [if_neg c]
    exact congrArg some (bP_congr ⟨fun q => ⟨fun q2 => absurd q2 c, q⟩, fun q => q.2⟩)
/-- May a letter be? -/
def okLet (l : GLetter) : Prop := (0 ≤ l.fSerial ∧ l.fSerial ≤ 1099511627776) ∧ (0 ≤ l.fEpoch ∧ l.fEpoch ≤ 1099511627776) ∧ mayP l
theorem m_check20 (l : GLetter) (h : smallL l) : m_peer_Check l = some (b01 (okLet l)) := by
  unfold m_peer_Check
  by_cases a1 : min l.fSerial l.fEpoch < 0
  · rw [if_pos a1, b01_f (fun q => by have := q.1; have := q.2.1; omega)]
  rw [if_neg a1]
  by_cases a2 : 1099511627776 < max l.fSerial l.fEpoch
  · rw [if_pos a2, b01_f (fun q => by have := q.1; have := q.2.1; omega)]
  rw [if_neg a2, m_may l h]
  simp only [Option.bind_some]
  by_cases c : mayP l
  · rw [bP_t c, if_pos rfl, b01_t ⟨by omega, by omega, c⟩]
  · rw [bP_f c, if_neg (by decide), b01_f (fun q => c q.2.2)]
open Go.RowKit
def clk (n : Int) : Int := min (max n 0) 1125899906842624
def lim (t : Int) (e : GCached) : GCached := ⟨e.fKind, e.fName, e.fType, e.fClass, e.fRecords, min e.fUntil t, e.fRank, e.fEpoch, e.fSource⟩
def mayHave (a r : GLetter) (n : Int) : Prop := r.fKind = 2 ∧ okLet r ∧ r.fGood = true ∧ r.fSerial = a.fSerial ∧ ¬ r.fEpoch < n
def endOf (s l : Int) : Int := clk (clk s + clk l)
open Classical in
noncomputable def acceptP (a r : GLetter) (n s l : Int) : List GCached × Bool := if mayHave a r n then (r.fEntries.map (lim (endOf s l)), true) else ([], false)
theorem m_clk (n : Int) : m_peer_clock n = some (clk n) := rfl
theorem clk_range (n : Int) : 0 ≤ clk n ∧ clk n ≤ 1125899906842624 := by unfold clk; omega
theorem lim_loop (l : List GCached) (t : Int) (hl : l.length ≤ 45) : loop (fun s => m_peer_Accept_s2 l t s.1 s.2) (l, 0) = some (l.map (lim t)) := by
  refine loop_run (step := fun s => m_peer_Accept_s2 l t s.1 s.2) l.length (fun k => ((l.take k).map (lim t) ++ l.drop k, (k : Int))) _ (by simp) (fun k hk => ?_) ?_
  · show m_peer_Accept_s2 l t _ _ = _
    unfold m_peer_Accept_s2
    have hlen : ((l.take k).map (lim t)).length = k := by simp; omega
    have hat : at_ ((l.take k).map (lim t) ++ l.drop k) (k : Int) = some l[k] := by
      unfold at_
      rw [if_pos (by omega), Int.toNat_natCast, List.getElem?_append_right (by omega), hlen, Nat.sub_self, List.getElem?_drop, Nat.add_zero, List.getElem?_eq_getElem hk]
    rw [if_pos (by omega), hat]
    simp only [Option.bind_some]
    unfold setAt
    rw [if_pos (by simp; omega), w64_id (x := (k : Int) + 1) (by omega) (by omega), Int.toNat_natCast]
    simp only [Option.bind_some, Option.some.injEq, Sum.inl.injEq, Prod.mk.injEq]
    refine ⟨?_, by omega⟩
    rw [List.set_append_right _ _ (by omega), hlen, Nat.sub_self, List.drop_eq_getElem_cons hk, List.set_cons_zero, List.take_succ_eq_append_getElem hk, List.map_append, List.append_assoc]
    rfl
  · show m_peer_Accept_s2 l t _ _ = _
    unfold m_peer_Accept_s2
    rw [if_neg (by omega), List.take_length, List.drop_length, List.append_nil]
theorem m_accept (a r : GLetter) (hr : smallL r) (n s l : Int) : m_peer_Accept a r n s l = some (acceptP a r n s l) := by
  unfold m_peer_Accept acceptP
  by_cases a1 : r.fKind ≠ 2
  · rw [if_pos a1, if_neg (fun h => a1 h.1)]
  rw [if_neg a1, m_check20 r hr]
  simp only [Option.bind_some]
  by_cases a2 : okLet r
  · rw [b01_t a2, if_neg (fun h => h rfl)]
    by_cases a3 : r.fGood = true
    · rw [if_pos a3]
      by_cases a4 : r.fSerial ≠ a.fSerial
      · rw [if_pos a4, if_neg (fun h => a4 h.2.2.2.1)]
      rw [if_neg a4]
      by_cases a5 : r.fEpoch < n
      · rw [if_pos a5, if_neg (fun h => h.2.2.2.2 a5)]
      rw [if_neg a5, m_clk, m_clk]
      simp only [Option.bind_some]
      have h1 := clk_range s
      have h2 := clk_range l
      rw [w64_id (by omega) (by omega), m_clk]
      simp only [Option.bind_some]
      have hlen := hr.n
      unfold m_slices_Clone_20
      rw [app_of (by simp; omega)]
      simp only [Option.bind_some, List.nil_append]
      rw [lim_loop _ _ hlen, if_pos ⟨notz a1, a2, a3, notz a4, a5⟩]
      rfl
    · rw [if_neg a3, if_neg (fun h => a3 h.2.2.1)]
  · rw [b01_f a2, if_pos (by decide), if_neg (fun h => a2 h.2.1)]
theorem same16 (e : GCached) (he : e.fRecords.length ≤ 100) : m_ref16_Same e e = some true := by
  unfold m_ref16_Same
  rw [if_neg (fun h => h rfl), if_pos rfl, if_neg (fun h => h rfl), if_neg (fun h => h rfl), if_neg (fun h => h rfl), if_neg (fun h => h rfl), if_neg (fun h => h rfl), if_neg (fun h => h rfl), if_neg (fun h => h rfl)]
  have hL : loop (fun s => m_ref16_Same_s2 e e s) 0 = some (.inl ()) := loop_run e.fRecords.length (fun k => (k : Int)) _ rfl (fun k hk => by
    unfold m_ref16_Same_s2
    rw [if_pos (by omega), at_getR hk, w64_id (x := (k : Int) + 1) (by omega) (by omega)]
    simp) (by unfold m_ref16_Same_s2; rw [if_neg (by omega)])
  rw [hL]
  rfl
open Go.RowKit
theorem same_r {a b : ByteArray} (ha : a.size ≤ 1099511627776) (hb : b.size ≤ 1099511627776) : m_ref03_Same a b = some (sameN a b) := by
  by_cases c : isNm a ∧ isNm b
  · obtain ⟨⟨x, hx, hx'⟩, y, hy, hy'⟩ := id c
    rw [rsame_nm hx hx' hy hy', sameN_nm c hx hy]
  · rw [rsame_no c ha hb, sameN_no c]
theorem rec_r {r : GRR} (h : smallRR r) : ∃ e, m_ref05_Check r = some e ∧ (e = 0 ↔ recP r) := by
  obtain ⟨e, _, h2, h3⟩ := check_both (r := r) (by have := h.1; omega) (by have := h.2; omega)
  exact ⟨e, h2, h3⟩
theorem rc_step (e : GCached) (he : smallC e) (k : Nat) (hk : k < e.fRecords.length) : (recOf e (e.fRecords.getD k zeroRR) → m_ref16_Check_s4 e (k : Int) = some (.inl ((k + 1 : Nat) : Int))) ∧ (¬ recOf e (e.fRecords.getD k zeroRR) → m_ref16_Check_s4 e (k : Int) = some (.inr (.inr 1))) := by
  unfold m_ref16_Check_s4
  obtain ⟨en, el, er⟩ := he
  rw [if_pos (by omega), at_getR hk, w64_id (x := (k : Int) + 1) (by omega) (by omega)]
  have hr := er _ (getR_mem hk)
  generalize e.fRecords.getD k zeroRR = r at *
  simp only [Option.bind_some]
  rw [same_r (a := r.fName) (b := e.fName) (by have := hr.1; omega) (by omega)]
  simp only [Option.bind_some]
  obtain ⟨x, hx, hx2⟩ := rec_r hr
  rw [hx]
  simp only [Option.bind_some]
  refine ⟨fun h => ?_, fun h => ?_⟩
  · obtain ⟨g1, g2, g3, g4⟩ := h
    rw [if_neg (fun q => q (hx2.2 g4)), if_neg (fun q => q g1)]
    by_cases c : e.fKind = 1
    · rw [if_pos c, if_pos (g2 c).2, if_neg (fun q => q (g2 c).1), if_neg (fun q => q c)]; rfl
    · rw [if_neg c, if_pos c, if_neg (fun q => q (g3 c))]; rfl
  · by_cases a0 : x ≠ 0
    · rw [if_pos a0]
    rw [if_neg a0]
    by_cases a1 : r.fClass ≠ e.fClass
    · rw [if_pos a1]
    rw [if_neg a1]
    by_cases c : e.fKind = 1
    · rw [if_pos c]
      by_cases a3 : sameN r.fName e.fName = true
      · rw [if_pos a3, if_pos (fun q => h ⟨notz a1, fun _ => ⟨q, a3⟩, fun q2 => absurd c q2, hx2.1 (notz a0)⟩)]
      · rw [if_neg a3]
    · rw [if_neg c, if_pos c, if_pos (fun q => h ⟨notz a1, fun q2 => absurd q2 c, fun _ => q, hx2.1 (notz a0)⟩)]
theorem rc_end (e : GCached) : m_ref16_Check_s4 e (e.fRecords.length : Int) = some (.inr (.inl ())) := by unfold m_ref16_Check_s4; rw [if_neg (by omega)]
theorem rc_recs (e : GCached) (he : smallC e) : m_ref16_Check_j2 e = some (b01 (recsOf e)) := by
  unfold m_ref16_Check_j2
  by_cases hg : recsOf e
  · rw [loop_good (good := fun k => recOf e (e.fRecords.getD k zeroRR)) (fun k hk => (rc_step e he k hk).1) (rc_end e) hg, b01_t hg]; rfl
  · rw [loop_bad (good := fun k => recOf e (e.fRecords.getD k zeroRR)) (fun k hk => (rc_step e he k hk).1) (fun k hk => (rc_step e he k hk).2) hg, b01_f hg]; rfl
theorem m_rcacheC (e : GCached) (he : smallC e) : m_ref16_Check e = some (b01 (okC e)) := by
  obtain ⟨x, hx, hx2⟩ := isNm_checkR (n := e.fName) (by have := he.1; omega)
  have hl := he.2.1
  unfold m_ref16_Check
  rw [hx]
  simp only [Option.bind_some]
  by_cases a1 : e.fKind < 1
  · rw [if_pos a1, b01_f (fun h => by have := h.1; omega)]
  rw [if_neg a1]
  by_cases a1' : 3 < e.fKind
  · rw [if_pos a1', b01_f (fun h => by have := h.1; omega)]
  rw [if_neg a1']
  by_cases a2 : x ≠ 0
  · rw [if_pos a2, b01_f (fun h => a2 (hx2.2 h.2.1))]
  rw [if_neg a2]
  by_cases a3 : e.fUntil < 0
  · rw [if_pos a3, b01_f (fun h => by have := h.2.2.1; omega)]
  rw [if_neg a3]
  by_cases a3' : 1125899906842624 < e.fUntil
  · rw [if_pos a3', b01_f (fun h => by have := h.2.2.1; omega)]
  rw [if_neg a3']
  by_cases a4 : e.fRank < 1
  · rw [if_pos a4, b01_f (fun h => by have := h.2.2.2.1; omega)]
  rw [if_neg a4]
  by_cases a4' : 4 < e.fRank
  · rw [if_pos a4', b01_f (fun h => by have := h.2.2.2.1; omega)]
  rw [if_neg a4']
  by_cases a5 : e.fEpoch < 0
  · rw [if_pos a5, b01_f (fun h => by have := h.2.2.2.2.1; omega)]
  rw [if_neg a5]
  by_cases a5' : 1099511627776 < e.fEpoch
  · rw [if_pos a5', b01_f (fun h => by have := h.2.2.2.2.1; omega)]
  rw [if_neg a5']
  have hnm : isNm e.fName := hx2.1 (notz a2)
  by_cases a6 : e.fKind = 1
  · rw [if_pos a6]
    by_cases a7 : (e.fRecords.length : Int) = 0
    · rw [if_pos a7, b01_f (fun h => by have := h.2.2.2.2.2.1 a6; omega)]
    rw [if_neg a7]
    unfold m_ref16_Check_j1
    rw [if_neg (by omega), if_neg (by omega), rc_recs e he]
    exact congrArg some (b01_congr ⟨fun h => ⟨by omega, hnm, by omega, by omega, by omega, fun _ => by omega, fun q => absurd a6 q, fun q => by omega, h⟩, fun h => h.2.2.2.2.2.2.2.2⟩)
  · rw [if_neg a6]
    unfold m_ref16_Check_j1
    have hfin : ¬ (1 : Int) < e.fRecords.length → (e.fKind = 3 → e.fType = 0) → m_ref16_Check_j2 e = some (b01 (okC e)) := fun q1 q2 => by
      rw [rc_recs e he]
      exact congrArg some (b01_congr ⟨fun h => ⟨by omega, hnm, by omega, by omega, by omega, fun q => absurd q a6, fun q => by omega, q2, h⟩, fun h => h.2.2.2.2.2.2.2.2⟩)
    by_cases a8 : e.fKind = 3
    · rw [if_pos a8]
      by_cases a9 : e.fType ≠ 0
      · rw [if_pos a9, b01_f (fun h => a9 (h.2.2.2.2.2.2.2.1 a8))]
      · rw [if_neg a9]
        by_cases a10 : (1 : Int) < e.fRecords.length
        · rw [if_pos a10, b01_f (fun h => by have := h.2.2.2.2.2.2.1 a6; omega)]
        · rw [if_neg a10]; exact hfin a10 (fun _ => notz a9)
    · rw [if_neg a8]
      by_cases a10 : (1 : Int) < e.fRecords.length
      · rw [if_pos a10, b01_f (fun h => by have := h.2.2.2.2.2.2.1 a6; omega)]
      · rw [if_neg a10]; exact hfin a10 (fun q => absurd q a8)
theorem r_none (n : GNote) : m_ref20_none n = some (bP (zeroN n)) := by
  unfold m_ref20_none
  obtain ⟨k, f, t, te, ix, lt, c, g, es, vs, s⟩ := n
  simp only
  by_cases a0 : ¬ k = 0
  · rw [if_neg a0, bP_f (fun h => a0 (by unfold zeroN at h; simp only [GNote.mk.injEq] at h; exact h.1))]
  have b0 := Classical.not_not.1 a0
  rw [if_pos b0]
  by_cases a1 : ¬ f = 0
  · rw [if_neg a1, bP_f (fun h => a1 (by unfold zeroN at h; simp only [GNote.mk.injEq] at h; exact h.2.1))]
  have b1 := Classical.not_not.1 a1
  rw [if_pos b1]
  by_cases a2 : ¬ t = 0
  · rw [if_neg a2, bP_f (fun h => a2 (by unfold zeroN at h; simp only [GNote.mk.injEq] at h; exact h.2.2.1))]
  have b2 := Classical.not_not.1 a2
  rw [if_pos b2]
  by_cases a3 : ¬ te = 0
  · rw [if_neg a3, bP_f (fun h => a3 (by unfold zeroN at h; simp only [GNote.mk.injEq] at h; exact h.2.2.2.1))]
  have b3 := Classical.not_not.1 a3
  rw [if_pos b3]
  by_cases a4 : ¬ ix = 0
  · rw [if_neg a4, bP_f (fun h => a4 (by unfold zeroN at h; simp only [GNote.mk.injEq] at h; exact h.2.2.2.2.1))]
  have b4 := Classical.not_not.1 a4
  rw [if_pos b4]
  by_cases a5 : ¬ lt = 0
  · rw [if_neg a5, bP_f (fun h => a5 (by unfold zeroN at h; simp only [GNote.mk.injEq] at h; exact h.2.2.2.2.2.1))]
  have b5 := Classical.not_not.1 a5
  rw [if_pos b5]
  by_cases a6 : ¬ c = 0
  · rw [if_neg a6, bP_f (fun h => a6 (by unfold zeroN at h; simp only [GNote.mk.injEq] at h; exact h.2.2.2.2.2.2.1))]
  have b6 := Classical.not_not.1 a6
  rw [if_pos b6]
  by_cases c1 : g = true
  · rw [if_pos c1, bP_f (fun h => by unfold zeroN at h; simp only [GNote.mk.injEq] at h; rw [c1] at h; exact absurd h.2.2.2.2.2.2.2.1 (by decide))]
  rw [if_neg c1]
  by_cases c2 : ¬ (es.length : Int) = 0
  · rw [if_neg c2, bP_f (fun h => c2 (by unfold zeroN at h; simp only [GNote.mk.injEq] at h; rw [h.2.2.2.2.2.2.2.2.1]; rfl))]
  have d2 := nil_len (Classical.not_not.1 c2)
  rw [if_pos (Classical.not_not.1 c2)]
  by_cases c3 : ¬ (vs.length : Int) = 0
  · rw [if_neg c3, bP_f (fun h => c3 (by unfold zeroN at h; simp only [GNote.mk.injEq] at h; rw [h.2.2.2.2.2.2.2.2.2.1]; rfl))]
  have d3 := nil_len (Classical.not_not.1 c3)
  rw [if_pos (Classical.not_not.1 c3), bP_dec]
  refine congrArg some (bP_congr ⟨fun h => ?_, fun h => ?_⟩)
  · have d1 : g = false := by simpa using c1
    subst b0 b1 b2 b3 b4 b5 b6 d1 d2 d3 h
    rfl
  · unfold zeroN at h
    simp only [GNote.mk.injEq] at h
    exact h.2.2.2.2.2.2.2.2.2.2
theorem r_step (l : GLetter) (h : smallL l) (k : Nat) (hk : k < l.fEntries.length) : (okEnt (l.fEntries.getD k zeroC) → m_ref20_Check_s6 l (k : Int) = some (.inl ((k + 1 : Nat) : Int))) ∧ (¬ okEnt (l.fEntries.getD k zeroC) → m_ref20_Check_s6 l (k : Int) = some (.inr (.inr 1))) := by
  have hn := h.n
  unfold m_ref20_Check_s6
  rw [if_pos (by omega), at_getC hk, w64_id (x := (k : Int) + 1) (by omega) (by omega)]
  simp only [Option.bind_some]
  rw [m_rcacheC _ (h.e _ (getC_mem hk))]
  simp only [Option.bind_some]
  generalize l.fEntries.getD k zeroC = e
  refine ⟨fun q => ?_, fun q => ?_⟩
  · rw [b01_t q.1, if_neg (fun q => q rfl), if_neg (by have := q.2; omega), if_neg (by have := q.2; omega)]; rfl
  · by_cases c : okC e
    · rw [b01_t c, if_neg (fun q => q rfl)]
      by_cases d : e.fSource < 0
      · rw [if_pos d]
      rw [if_neg d]
      by_cases d2 : 4611686018427387904 < e.fSource
      · rw [if_pos d2]
      exact absurd ⟨c, by omega, by omega⟩ q
    · rw [b01_f c, if_pos (by decide)]
theorem r_ents (l : GLetter) (h : smallL l) : m_ref20_Check_j5 l = some (b01 (entsOk l.fEntries)) := by
  unfold m_ref20_Check_j5
  by_cases hg : entsOk l.fEntries
  · rw [loop_good (good := fun k => okEnt (l.fEntries.getD k zeroC)) (fun k hk => (r_step l h k hk).1) (by unfold m_ref20_Check_s6; rw [if_neg (by omega)]) hg, b01_t hg]; rfl
  · rw [loop_bad (good := fun k => okEnt (l.fEntries.getD k zeroC)) (fun k hk => (r_step l h k hk).1) (fun k hk => (r_step l h k hk).2) hg, b01_f hg]; rfl
theorem r_kind (l : GLetter) (h : smallL l) (hk : 1 ≤ l.fKind ∧ l.fKind ≤ 5) :
    (if l.fKind = 1 then (m_ref03_Check l.fQuestion.fName).bind fun x => if x ≠ 0 then some 1 else some 0 else if l.fKind = 2 then if 40 < (l.fEntries.length : Int) then some 1 else if 0 < (l.fEntries.length : Int) then if l.fGood = true then m_ref20_Check_j5 l else some 1 else m_ref20_Check_j5 l
      else if l.fKind = 3 then (m_ref12_Check l.fNote).bind fun x => if x ≠ 0 then some 1 else some 0 else if l.fKind = 5 then if 8000 < (l.fText.size : Int) then some 1 else some 0 else some 0) = some (b01 (kindP l)) := by
  by_cases a1 : l.fKind = 1
  · rw [if_pos a1]
    obtain ⟨x, hx, hx2⟩ := isNm_checkR (n := l.fQuestion.fName) (by have := h.q; omega)
    rw [hx]
    simp only [Option.bind_some]
    by_cases c : x ≠ 0
    · rw [if_pos c, b01_f (fun q => c (hx2.2 (q.1 a1)))]
    · rw [if_neg c, b01_t ⟨fun _ => hx2.1 (notz c), fun q => by omega, fun q => by omega, fun q => by omega, by omega, by omega⟩]
  rw [if_neg a1]
  by_cases a2 : l.fKind = 2
  · rw [if_pos a2]
    by_cases b2 : 40 < (l.fEntries.length : Int)
    · rw [if_pos b2, b01_f (fun q => by have := (q.2.1 a2).2.1; omega)]
    rw [if_neg b2, r_ents l h]
    by_cases b3 : (0 : Int) < l.fEntries.length
    · rw [if_pos b3]
      by_cases b4 : l.fGood = true
      · rw [if_pos b4]
        exact congrArg some (b01_congr ⟨fun q => ⟨fun q => by omega, fun _ => ⟨q, by omega, .inl b4⟩, fun q => by omega, fun q => by omega, by omega, by omega⟩, fun q => (q.2.1 a2).1⟩)
      · rw [if_neg b4, b01_f (fun q => by
          rcases (q.2.1 a2).2.2 with q | q
          · exact b4 q
          · rw [q] at b3; simp at b3)]
    · rw [if_neg b3]
      exact congrArg some (b01_congr ⟨fun q => ⟨fun q => by omega, fun _ => ⟨q, by omega, .inr (nil_len (by omega))⟩, fun q => by omega, fun q => by omega, by omega, by omega⟩, fun q => (q.2.1 a2).1⟩)
  rw [if_neg a2]
  by_cases a3 : l.fKind = 3
  · rw [if_pos a3, m_rnote _ (modest20 h) (by have := h.v; omega) (by have := h.m; omega)]
    simp only [Option.bind_some]
    by_cases c : noteP l.fNote ≠ 0
    · rw [if_pos c, b01_f (fun q => c (q.2.2.1 a3))]
    · rw [if_neg c, b01_t ⟨fun q => by omega, fun q => by omega, fun _ => notz c, fun q => by omega, by omega, by omega⟩]
  rw [if_neg a3]
  by_cases a5 : l.fKind = 5
  · rw [if_pos a5]
    by_cases c : 8000 < (l.fText.size : Int)
    · rw [if_pos c, b01_f (fun q => by have := q.2.2.2.1 a5; omega)]
    · rw [if_neg c, b01_t ⟨fun q => by omega, fun q => by omega, fun q => by omega, fun _ => by omega, by omega, by omega⟩]
  rw [if_neg a5, b01_t ⟨fun q => by omega, fun q => by omega, fun q => by omega, fun q => by omega, by omega, by omega⟩]
theorem r_check20 (l : GLetter) (h : smallL l) : m_ref20_Check l = some (b01 (okLet l)) := by
  unfold m_ref20_Check
  rw [r_none]
  simp only [Option.bind_some]
  by_cases k1 : l.fKind < 1
  · rw [if_pos k1, b01_f (fun q => by have := q.2.2.2.2.2.2.2.2.2.2; omega)]
  rw [if_neg k1]
  by_cases k2 : 5 < l.fKind
  · rw [if_pos k2, b01_f (fun q => by have := q.2.2.2.2.2.2.2.2.2.2; omega)]
  rw [if_neg k2]
  have hk : 1 ≤ l.fKind ∧ l.fKind ≤ 5 := ⟨by omega, by omega⟩
  have hj3 : m_ref20_Check_j3 l = some (b01 ((l.fKind ≠ 5 → l.fText = ⟨#[]⟩) ∧ kindP l)) := by
    unfold m_ref20_Check_j3
    by_cases c : l.fKind ≠ 5
    · rw [if_pos c]
      by_cases d : l.fText = ⟨#[]⟩
      · rw [if_pos d]
        exact (r_kind l h hk).trans (congrArg some (b01_congr ⟨fun q => ⟨fun _ => d, q⟩, fun q => q.2⟩))
      · rw [if_neg d, b01_f (fun q => d (q.1 c))]
    · rw [if_neg c]
      exact (r_kind l h hk).trans (congrArg some (b01_congr ⟨fun q => ⟨fun q2 => absurd q2 c, q⟩, fun q => q.2⟩))
  have hj2 : m_ref20_Check_j2 l (bP (zeroN l.fNote)) = some (b01 ((l.fKind ≠ 3 → zeroN l.fNote) ∧ (l.fKind ≠ 5 → l.fText = ⟨#[]⟩) ∧ kindP l)) := by
    unfold m_ref20_Check_j2
    rw [hj3]
    by_cases c : l.fKind ≠ 3
    · rw [if_pos c]
      by_cases d : zeroN l.fNote
      · rw [bP_t d, if_pos rfl]
        exact congrArg some (b01_congr ⟨fun q => ⟨fun _ => d, q⟩, fun q => q.2⟩)
      · rw [bP_f d, if_neg (by decide), b01_f (fun q => d (q.1 c))]
    · rw [if_neg c]
      exact congrArg some (b01_congr ⟨fun q => ⟨fun q2 => absurd q2 c, q⟩, fun q => q.2⟩)
  have hj1 : m_ref20_Check_j1 l (bP (zeroN l.fNote)) = some (b01 ((l.fKind ≠ 2 → l.fGood = false ∧ l.fEntries = []) ∧ (l.fKind ≠ 3 → zeroN l.fNote) ∧ (l.fKind ≠ 5 → l.fText = ⟨#[]⟩) ∧ kindP l)) := by
    unfold m_ref20_Check_j1
    rw [hj2]
    by_cases c : l.fKind ≠ 2
    · rw [if_pos c]
      by_cases d : l.fGood = true
      · rw [if_pos d, b01_f (fun q => by have := (q.1 c).1; rw [d] at this; cases this)]
      · rw [if_neg d]
        by_cases e : (0 : Int) < l.fEntries.length
        · rw [if_pos e, b01_f (fun q => by rw [(q.1 c).2] at e; simp at e)]
        · rw [if_neg e]
          exact congrArg some (b01_congr ⟨fun q => ⟨fun _ => ⟨by simpa using d, nil_len (by omega)⟩, q⟩, fun q => q.2⟩)
    · rw [if_neg c]
      exact congrArg some (b01_congr ⟨fun q => ⟨fun q2 => absurd q2 c, q⟩, fun q => q.2⟩)
  rw [hj1]
  by_cases s1 : l.fSerial < 0
  · rw [if_pos s1, b01_f (fun q => by have := q.1; omega)]
  rw [if_neg s1]
  by_cases s2 : 1099511627776 < l.fSerial
  · rw [if_pos s2, b01_f (fun q => by have := q.1; omega)]
  rw [if_neg s2]
  by_cases s3 : l.fEpoch < 0
  · rw [if_pos s3, b01_f (fun q => by have := q.2.1; omega)]
  rw [if_neg s3]
  by_cases s4 : 1099511627776 < l.fEpoch
  · rw [if_pos s4, b01_f (fun q => by have := q.2.1; omega)]
  rw [if_neg s4]
  by_cases c : l.fKind ≠ 1
  · rw [if_pos c]
    by_cases d : l.fQuestion = ⟨⟨#[]⟩, 0, 0⟩
    · rw [if_pos d]
      exact congrArg some (b01_congr ⟨fun q => ⟨⟨by omega, by omega⟩, ⟨by omega, by omega⟩, fun _ => d, q⟩, fun q => q.2.2.2⟩)
    · rw [if_neg d, b01_f (fun q => d (q.2.2.1 c))]
  · rw [if_neg c]
    exact congrArg some (b01_congr ⟨fun q => ⟨⟨by omega, by omega⟩, ⟨by omega, by omega⟩, fun q2 => absurd q2 c, q⟩, fun q => q.2.2.2⟩)
theorem r_clk (n : Int) : m_ref20_clock n = some (clk n) := by
  unfold m_ref20_clock clk
  by_cases a : n < 0
  · rw [if_pos a]; congr 1; omega
  rw [if_neg a]
  by_cases b : 1125899906842624 < n
  · rw [if_pos b]; congr 1; omega
  · rw [if_neg b]; congr 1; omega
theorem rlim_loop (r : GLetter) (t : Int) (hl : r.fEntries.length ≤ 45) : loop (fun s => m_ref20_Accept_s2 r t s.1 s.2) (([] : List GCached), 0) = some (r.fEntries.map (lim t)) := by
  refine loop_run (step := fun s => m_ref20_Accept_s2 r t s.1 s.2) r.fEntries.length (fun k => ((r.fEntries.take k).map (lim t), (k : Int))) _ (by simp) (fun k hk => ?_) ?_
  · show m_ref20_Accept_s2 r t _ _ = _
    unfold m_ref20_Accept_s2
    rw [if_pos (by omega), at_nat hk]
    simp only [Option.bind_some]
    have hj : ∀ x : Int, x = min r.fEntries[k].fUntil t → m_ref20_Accept_j3 ((r.fEntries.take k).map (lim t)) r.fEntries[k] (k : Int) x = some (.inl ((r.fEntries.take (k + 1)).map (lim t), ((k + 1 : Nat) : Int))) := fun x hx => by
      unfold m_ref20_Accept_j3
      rw [app_of (by simp; omega), w64_id (x := (k : Int) + 1) (by omega) (by omega), List.take_succ_eq_append_getElem hk, List.map_append, hx]
      rfl
    by_cases c : t < r.fEntries[k].fUntil
    · rw [if_pos c]; exact hj _ (by omega)
    · rw [if_neg c]; exact hj _ (by omega)
  · show m_ref20_Accept_s2 r t _ _ = _
    unfold m_ref20_Accept_s2
    rw [if_neg (by omega), List.take_length]
theorem r_accept (a r : GLetter) (hr : smallL r) (n s l : Int) : m_ref20_Accept a r n s l = some (acceptP a r n s l) := by
  unfold m_ref20_Accept acceptP
  by_cases a1 : r.fKind ≠ 2
  · rw [if_pos a1, if_neg (fun h => a1 h.1)]
  rw [if_neg a1, r_check20 r hr]
  simp only [Option.bind_some]
  by_cases a2 : okLet r
  · rw [b01_t a2, if_neg (fun h => h rfl)]
    by_cases a3 : r.fGood = true
    · rw [if_pos a3]
      by_cases a4 : r.fSerial ≠ a.fSerial
      · rw [if_pos a4, if_neg (fun h => a4 h.2.2.2.1)]
      rw [if_neg a4]
      by_cases a5 : r.fEpoch < n
      · rw [if_pos a5, if_neg (fun h => h.2.2.2.2 a5)]
      rw [if_neg a5, r_clk, r_clk]
      simp only [Option.bind_some]
      have h1 := clk_range s
      have h2 := clk_range l
      rw [w64_id (by omega) (by omega), r_clk]
      simp only [Option.bind_some]
      have := rlim_loop r (clk (clk s + clk l)) hr.n
      rw [this, if_pos ⟨notz a1, a2, a3, notz a4, a5⟩]
      rfl
    · rw [if_neg a3, if_neg (fun h => a3 h.2.2.1)]
  · rw [b01_f a2, if_pos (by decide), if_neg (fun h => a2 h.2.1)]
theorem sameAll (l : List GCached) (hl : l.length ≤ 100) (he : ∀ e ∈ l, e.fRecords.length ≤ 100) : m_ref16_SameAll l l = some true := by
  unfold m_ref16_SameAll
  rw [if_neg (fun h => h rfl)]
  have hL : loop (fun s => m_ref16_SameAll_s2 l l s) 0 = some (.inl ()) := loop_run l.length (fun k => (k : Int)) _ rfl (fun k hk => by
    unfold m_ref16_SameAll_s2
    rw [if_pos (by omega), at_nat hk, w64_id (x := (k : Int) + 1) (by omega) (by omega)]
    simp only [Option.bind_some]
    rw [same16 _ (he _ (List.getElem_mem hk))]
    rfl) (by unfold m_ref16_SameAll_s2; rw [if_neg (by omega)])
  rw [hL]
  rfl
theorem q_PeerAccepts (p0 : GLetter) (p1 : GLetter) (p2 : Garray32) (h0 : GLetter.ok p0) (h1 : GLetter.ok p1) (h2 : Garray32.ok p2) : m_law20_PeerAccepts p0 p1 p2 = some true := by
  unfold m_law20_PeerAccepts
  obtain ⟨a, ha, hsa, _⟩ := small20 p0
  obtain ⟨r, hr, hsr, _⟩ := small20 p1
  rw [awake20, ha, hr]
  simp only [Option.bind_some]
  rw [m_accept a r hsr, r_accept a r hsr]
  simp only [Option.bind_some]
  have hn := hsr.n
  rw [sameAll _ (by unfold acceptP; split <;> simp; omega) (fun e he => by
    unfold acceptP at he
    split at he
    · obtain ⟨x, hx, rfl⟩ := List.mem_map.1 he
      have := (hsr.e x hx).2.1
      show x.fRecords.length ≤ 100
      omega
    · cases he)]
  simp
end Go.Proofs.Ytbaobjcaeaofaaa
