import Derived.Test.YthpjodfjdnnckaaKCO
set_option linter.unusedVariables false
set_option linter.unusedSimpArgs false
set_option maxRecDepth 16384
namespace Go.Proofs.Ythpjodfjdnnckaa
open Go.RowKit
def encB (ls : List ByteArray) : List Int := ls.flatMap fun s => (s.size : Int) :: bytesI s
def okLs (ls : List ByteArray) : Prop := ∀ s ∈ ls, 1 ≤ s.size ∧ s.size ≤ 63
instance (ls : List ByteArray) : Decidable (okLs ls) := by unfold okLs; infer_instance
/-- n is the name of the labels ls. -/
def Nm (n : ByteArray) (ls : List ByteArray) : Prop := okLs ls ∧ bytesI n = encB ls ++ [0]
def starts : Nat → List ByteArray → List (Int × ByteArray)
  | _, [] => []
  | a, s :: ls => ((a : Int), s) :: starts (a + 1 + s.size) ls
/-- The bytes of a row are at its end: nothing, or a 0 ahead. -/
def endR (l : List Int) : Prop := l = [] ∨ ∃ r, l = 0 :: r
theorem encB_cons (s : ByteArray) (ls : List ByteArray) : encB (s :: ls) = (s.size : Int) :: bytesI s ++ encB ls := by simp [encB]
theorem drop_byte {n : ByteArray} {a : Nat} {x : Int} {r : List Int} (h : (bytesI n).drop a = x :: r) : a < n.size ∧ byteAt n (a : Int) = x ∧ (bytesI n).drop (a + 1) = r := by
  have hl : a < (bytesI n).length := by
    by_cases hc : a < (bytesI n).length
    · exact hc
    · rw [List.drop_of_length_le (by omega)] at h; cases h
  have hs : a < n.size := by rw [size_bytes]; exact hl
  rw [List.drop_eq_getElem_cons hl] at h
  injection h with h1 h2
  rw [bytesI_get n a hs] at h1
  exact ⟨hs, h1, h2⟩
theorem drop_app {n : ByteArray} {a : Nat} {s : ByteArray} {r : List Int} (h : (bytesI n).drop a = bytesI s ++ r) : n.extract a (a + s.size) = s ∧ a + s.size ≤ max n.size a ∧ (bytesI n).drop (a + s.size) = r := by
  have hs := size_bytes s
  have hn := size_bytes n
  have hl := congrArg List.length h
  rw [List.length_drop, List.length_append] at hl
  refine ⟨bytesI_inj ?_, by omega, ?_⟩
  · rw [bytesI_extract, List.drop_take, h, show a + s.size - a = (bytesI s).length by omega, List.take_left]
  · rw [← List.drop_drop, h, hs, List.drop_left]
theorem drop_none {n : ByteArray} {a : Nat} (h : (bytesI n).drop a = []) : n.size ≤ a := by
  rw [size_bytes]; exact List.drop_eq_nil_iff.1 h
theorem okLs_cons {s : ByteArray} {ls : List ByteArray} : okLs (s :: ls) ↔ (1 ≤ s.size ∧ s.size ≤ 63) ∧ okLs ls := by
  simp [okLs]
theorem eachAt_end {n : ByteArray} {a : Nat} (h : endR ((bytesI n).drop a)) (f : Nat) : eachAt n f a = ([], (a : Int)) := by
  cases f with
  | zero => rfl
  | succ f =>
    rw [eachAt, if_neg]
    rcases h with h | ⟨r, h⟩
    · have := drop_none h; omega
    · have := (drop_byte h).2.1; simp [this]
theorem eachAt_enc {n : ByteArray} {rest : List Int} (hr : endR rest) : ∀ (ls : List ByteArray) (a f : Nat), okLs ls → (bytesI n).drop a = encB ls ++ rest → ls.length ≤ f →
    eachAt n f a = (starts a ls, ((a + (encB ls).length : Nat) : Int)) := by
  intro ls
  induction ls with
  | nil =>
    intro a f _ h _
    exact eachAt_end (by rw [h]; exact hr) f
  | cons s ls ih =>
    intro a f hok h hf
    obtain ⟨hs, hok⟩ := okLs_cons.1 hok
    obtain ⟨f, rfl⟩ : ∃ g, f = g + 1 := ⟨f - 1, by simp at hf; omega⟩
    rw [encB_cons] at h
    simp only [List.cons_append, List.append_assoc] at h
    obtain ⟨h1, h2, h3⟩ := drop_byte h
    obtain ⟨h4, h5, h6⟩ := drop_app h3
    rw [eachAt, if_pos ⟨h1, by rw [h2]; omega⟩, h2, if_neg (by omega)]
    have := ih (a + 1 + s.size) f hok (by rw [← h6]) (by simp at hf; omega)
    simp only [Int.toNat_natCast]
    rw [this, h4, starts, encB_cons]
    congr 2
    simp only [List.length_append, List.length_cons, ← size_bytes]
    omega
theorem eachAt_any {n : ByteArray} : ∀ (f a : Nat), n.size ≤ a + f → a ≤ n.size → (eachAt n f a).2 = -1 ∨ ∃ ls rest, okLs ls ∧ (bytesI n).drop a = encB ls ++ rest ∧ endR rest := by
  intro f
  induction f with
  | zero =>
    intro a h1 h2
    exact .inr ⟨[], [], (fun _ h => by cases h), by rw [List.drop_of_length_le (by rw [← size_bytes]; omega)]; rfl, .inl rfl⟩
  | succ f ih =>
    intro a h1 h2
    rw [eachAt]
    by_cases hc : a < n.size ∧ byteAt n a ≠ 0
    · rw [if_pos hc]
      by_cases hb : 63 < byteAt n a ∨ n.size < a + 1 + (byteAt n a).toNat
      · rw [if_pos hb]; exact .inl rfl
      · rw [if_neg hb]
        have hr := byteAt_lt n a
        rcases ih (a + 1 + (byteAt n a).toNat) (by omega) (by omega) with h | ⟨ls, rest, h3, h4, h5⟩
        · exact .inl h
        · have hsz : (n.extract (a + 1) (a + 1 + (byteAt n a).toNat)).size = (byteAt n a).toNat := by
            rw [ByteArray.size_extract]; omega
          refine .inr ⟨n.extract (a + 1) (a + 1 + (byteAt n a).toNat) :: ls, rest, okLs_cons.2 ⟨by rw [hsz]; omega, h3⟩, ?_, h5⟩
          have hl : a < (bytesI n).length := by rw [← size_bytes]; exact hc.1
          rw [List.drop_eq_getElem_cons hl, bytesI_get n a hc.1, encB_cons, hsz, bytesI_extract]
          simp only [List.cons_append, List.append_assoc]
          have h6 : (bytesI n).drop (a + 1 + (byteAt n a).toNat) = ((bytesI n).drop (a + 1)).drop (byteAt n a).toNat := by rw [List.drop_drop]
          rw [← h4, List.drop_take, h6, show a + 1 + (byteAt n a).toNat - (a + 1) = (byteAt n a).toNat by omega, List.take_append_drop]
          congr 1
          omega
    · rw [if_neg hc]
      refine .inr ⟨[], (bytesI n).drop a, (fun _ h => by cases h), rfl, ?_⟩
      by_cases ha : a < n.size
      · have hl : a < (bytesI n).length := by rw [← size_bytes]; exact ha
        have : byteAt n a = 0 := Classical.byContradiction fun h => hc ⟨ha, h⟩
        rw [List.drop_eq_getElem_cons hl, bytesI_get n a ha, this]
        exact .inr ⟨_, rfl⟩
      · rw [List.drop_of_length_le (by rw [← size_bytes]; omega)]; exact .inl rfl
theorem nm_size {n : ByteArray} {ls : List ByteArray} (h : Nm n ls) : n.size = (encB ls).length + 1 := by
  rw [size_bytes, h.2]; simp
theorem len_enc (ls : List ByteArray) : ls.length ≤ (encB ls).length := by
  induction ls with
  | nil => simp
  | cons s ls ih => rw [encB_cons]; simp; omega
theorem each_nm {n : ByteArray} {ls : List ByteArray} (h : Nm n ls) : eachP n = (starts 0 ls, (n.size : Int) - 1) := by
  have hl := len_enc ls
  have hs := nm_size h
  rw [eachP, eachAt_enc (rest := [0]) (.inr ⟨[], rfl⟩) ls 0 n.size h.1 (by rw [List.drop_zero, h.2]) (by omega)]
  congr 1
  omega
theorem each_no {n : ByteArray} (h : ¬ ∃ ls, Nm n ls) : (eachP n).2 ≠ (n.size : Int) - 1 ∨ (eachP n).2 < 0 := by
  rcases eachAt_any (n := n) n.size 0 (by omega) (by omega) with h1 | ⟨ls, rest, h1, h2, h3⟩
  · rw [eachP, h1]; exact .inr (by omega)
  · left
    have hl := len_enc ls
    have hlen := congrArg List.length h2
    rw [List.drop_zero, ← size_bytes, List.length_append] at hlen
    rw [eachP, eachAt_enc h3 ls 0 n.size h1 h2 (by omega)]
    intro hc
    refine h ⟨ls, h1, ?_⟩
    rw [List.drop_zero] at h2
    rw [h2]
    congr 1
    simp only at hc
    rcases h3 with rfl | ⟨r, rfl⟩
    · simp at hlen; omega
    · simp only [List.length_cons] at hlen
      rw [List.length_eq_zero_iff.1 (by omega : r.length = 0)]
theorem starts_snd (a : Nat) (ls : List ByteArray) : (starts a ls).map Prod.snd = ls := by
  induction ls generalizing a with
  | nil => rfl
  | cons s ls ih => simp [starts, ih]
theorem nm_inj {n : ByteArray} {a b : List ByteArray} (h : Nm n a) (h' : Nm n b) : a = b := by
  have := (each_nm h).symm.trans (each_nm h')
  injection this with h1 _
  have := congrArg (List.map Prod.snd) h1
  rwa [starts_snd, starts_snd] at this
open Go.RowKit
theorem eachM_of {n : ByteArray} (hs : n.size ≤ 1099511627776) : eachM n = some (eachP n) := if_pos hs
theorem labels_nm {n : ByteArray} {ls : List ByteArray} (h : Nm n ls) (hs : n.size ≤ 255) : m_name_Labels n = some (ls, 0) := by
  have := nm_size h
  rw [m_name_Labels, eachM_of (by omega), Option.bind_some, each_nm h, w64_id (by omega) (by omega), if_neg (fun h => h rfl), if_neg (by omega), if_neg (by omega), starts_snd]
theorem labels_big {n : ByteArray} {ls : List ByteArray} (h : Nm n ls) (hs : 255 < n.size) (hb : n.size ≤ 1099511627776) : m_name_Labels n = some ([], 11) := by
  rw [m_name_Labels, eachM_of (by omega), Option.bind_some, each_nm h, w64_id (by omega) (by omega), if_neg (fun h => h rfl), if_neg (by omega), if_pos (by omega)]
theorem labels_no {n : ByteArray} (h : ¬ ∃ ls, Nm n ls) (hb : n.size ≤ 1099511627776) : m_name_Labels n = some ([], 10) := by
  rw [m_name_Labels, eachM_of (by omega), Option.bind_some, w64_id (by omega) (by omega)]
  rcases each_no h with h | h
  · rw [if_pos h]
  · rw [if_pos h]
    split <;> rfl
theorem check_nm {n : ByteArray} {ls : List ByteArray} (h : Nm n ls) (hs : n.size ≤ 255) : m_name_Check n = some 0 := by
  rw [m_name_Check, labels_nm h hs]; rfl
theorem check_big {n : ByteArray} {ls : List ByteArray} (h : Nm n ls) (hs : 255 < n.size) (hb : n.size ≤ 1099511627776) : m_name_Check n = some 11 := by
  rw [m_name_Check, labels_big h hs hb]; rfl
theorem check_no {n : ByteArray} (h : ¬ ∃ ls, Nm n ls) (hb : n.size ≤ 1099511627776) : m_name_Check n = some 10 := by
  rw [m_name_Check, labels_no h hb]; rfl
theorem nm_cases (n : ByteArray) : (∃ ls, Nm n ls ∧ n.size ≤ 255) ∨ (∃ ls, Nm n ls ∧ 255 < n.size) ∨ ¬ ∃ ls, Nm n ls := by
  by_cases h : ∃ ls, Nm n ls
  · obtain ⟨ls, h⟩ := h
    by_cases hs : n.size ≤ 255
    · exact .inl ⟨ls, h, hs⟩
    · exact .inr (.inl ⟨ls, h, by omega⟩)
  · exact .inr (.inr h)
theorem row_step {n : ByteArray} (hn : n.size ≤ 1099511627776) {a : Nat} {out : List ByteArray} (ha : a ≤ n.size) (ho : out.length ≤ a) :
    m_ref03_row_s2 n out (a : Int) = if a < n.size ∧ byteAt n a ≠ 0 then (if 63 < byteAt n a ∨ n.size < a + 1 + (byteAt n a).toNat then some (.inr (.inr ([], false)))
      else some (.inl (out ++ [n.extract (a + 1) (a + 1 + (byteAt n a).toNat)], ((a + 1 + (byteAt n a).toNat : Nat) : Int)))) else some (.inr (.inl (out, (a : Int)))) := by
  rw [m_ref03_row_s2]
  by_cases hc : a < n.size
  · have hb := byteAt_lt n a
    rw [if_pos (show (a : Int) < n.size by omega), sat_of (by omega) (by omega), Option.bind_some]
    by_cases h0 : byteAt n a ≠ 0
    · rw [if_pos h0, if_pos ⟨hc, h0⟩, Option.bind_some, w64_id (by omega) (by omega)]
      by_cases h1 : 63 < byteAt n a
      · rw [if_pos h1, if_pos (.inl h1)]
      · rw [if_neg h1, w64_id (x := (a : Int) + 1) (by omega) (by omega), w64_id (x := (a : Int) + 1 + byteAt n a) (by omega) (by omega)]
        by_cases h2 : n.size < a + 1 + (byteAt n a).toNat
        · rw [if_pos (by omega), if_pos (.inr h2)]
        · rw [if_neg (by omega), if_neg (by omega), scutMid, if_pos ⟨by omega, by omega, by omega⟩, Option.bind_some, app_of (by simp; omega), Option.bind_some,
            show ((a : Int) + 1).toNat = a + 1 by omega, show ((a : Int) + 1 + byteAt n a).toNat = a + 1 + (byteAt n a).toNat by omega]
          congr 4
          omega
    · rw [if_neg h0, if_neg (fun h => h0 h.2)]
  · rw [if_neg (by omega), if_neg (fun h => hc h.1)]
theorem row_loop {n : ByteArray} (hn : n.size ≤ 1099511627776) : ∀ (f a : Nat) (out : List ByteArray), n.size ≤ a + f → a ≤ n.size → out.length ≤ a →
    loop (fun s => m_ref03_row_s2 n s.1 s.2) (out, (a : Int)) = some (if (eachAt n f a).2 = -1 then .inr ([], false) else .inl (out ++ (eachAt n f a).1.map Prod.snd, (eachAt n f a).2)) := by
  intro f
  induction f with
  | zero =>
    intro a out h1 h2 h3
    rw [loop_inr (by simp only [row_step hn h2 h3]; rw [if_neg (by omega)])]
    simp only [eachAt, List.map_nil, List.append_nil]
    rw [if_neg (by omega)]
  | succ f ih =>
    intro a out h1 h2 h3
    have hb := byteAt_lt n a
    by_cases hc : a < n.size ∧ byteAt n a ≠ 0
    · by_cases h4 : 63 < byteAt n a ∨ n.size < a + 1 + (byteAt n a).toNat
      · rw [loop_inr (by simp only [row_step hn h2 h3]; rw [if_pos hc, if_pos h4])]
        rw [eachAt, if_pos hc, if_pos h4, if_pos rfl]
      · rw [loop_inl (by simp only [row_step hn h2 h3]; rw [if_pos hc, if_neg h4]), ih _ _ (by omega) (by omega) (by simp; omega)]
        rw [eachAt, if_pos hc, if_neg h4]
        simp only [List.map_cons, List.append_assoc, List.singleton_append]
    · rw [loop_inr (by simp only [row_step hn h2 h3]; rw [if_neg hc])]
      rw [eachAt, if_neg hc]
      simp only [List.map_nil, List.append_nil]
      rw [if_neg (by omega)]
theorem row_nm {n : ByteArray} {ls : List ByteArray} (h : Nm n ls) (hb : n.size ≤ 1099511627776) : m_ref03_row n = some (ls, true) := by
  have hs := nm_size h
  have := row_loop hb n.size 0 [] (by omega) (by omega) (by simp)
  rw [← eachP, each_nm h, if_neg (by simp only; omega)] at this
  rw [m_ref03_row]
  erw [this]
  simp only [Option.bind_some, Sum.elim_inl, m_ref03_row_j1, List.nil_append, starts_snd]
  rw [w64_id (by omega) (by omega), decide_eq_true rfl]
theorem row_no {n : ByteArray} (h : ¬ ∃ ls, Nm n ls) (hb : n.size ≤ 1099511627776) : ∃ l, m_ref03_row n = some (l, false) := by
  have := row_loop hb n.size 0 [] (by omega) (by omega) (by simp)
  rw [← eachP] at this
  rw [m_ref03_row]
  erw [this]
  by_cases h1 : (eachP n).2 = -1
  · rw [if_pos h1]; exact ⟨_, rfl⟩
  · rw [if_neg h1]
    refine ⟨[] ++ (eachP n).1.map Prod.snd, ?_⟩
    simp only [Option.bind_some, Sum.elim_inl, m_ref03_row_j1]
    rw [w64_id (by omega) (by omega)]
    rw [decide_eq_false]
    intro h2
    rcases each_no h with h3 | h3
    · exact h3 h2
    · rcases eachAt_any (n := n) n.size 0 (by omega) (by omega) with h4 | ⟨ls, rest, h4, h5, h6⟩
      · exact h1 h4
      · have hl := len_enc ls
        have hlen := congrArg List.length h5
        rw [List.drop_zero, ← size_bytes, List.length_append] at hlen
        rw [eachP, eachAt_enc h6 ls 0 n.size h4 h5 (by omega)] at h3
        simp only at h3
        omega
theorem rcheck_nm {n : ByteArray} {ls : List ByteArray} (h : Nm n ls) (hs : n.size ≤ 255) : m_ref03_Check n = some 0 := by
  rw [m_ref03_Check, row_nm h (by omega)]
  simp only [Option.bind_some, if_true]
  rw [if_neg (by omega)]
theorem rcheck_big {n : ByteArray} {ls : List ByteArray} (h : Nm n ls) (hs : 255 < n.size) (hb : n.size ≤ 1099511627776) : m_ref03_Check n = some 11 := by
  rw [m_ref03_Check, row_nm h (by omega)]
  simp only [Option.bind_some, if_true]
  rw [if_pos (by omega)]
theorem rcheck_no {n : ByteArray} (h : ¬ ∃ ls, Nm n ls) (hb : n.size ≤ 1099511627776) : m_ref03_Check n = some 10 := by
  obtain ⟨l, hl⟩ := row_no h hb
  rw [m_ref03_Check, hl]
  simp
open Go.RowKit
theorem depth_nm {n : ByteArray} {ls : List ByteArray} (h : Nm n ls) (hs : n.size ≤ 255) : m_name_Depth n = some (ls.length : Int) := by
  rw [m_name_Depth, labels_nm h hs, Option.bind_some, if_neg (fun h => h rfl)]
theorem depth_big {n : ByteArray} {ls : List ByteArray} (h : Nm n ls) (hs : 255 < n.size) (hb : n.size ≤ 1099511627776) : m_name_Depth n = some (-1) := by
  rw [m_name_Depth, labels_big h hs hb]; rfl
theorem depth_no {n : ByteArray} (h : ¬ ∃ ls, Nm n ls) (hb : n.size ≤ 1099511627776) : m_name_Depth n = some (-1) := by
  rw [m_name_Depth, labels_no h hb]; rfl
def low (c : Int) : Int := if 65 ≤ c ∧ c ≤ 90 then c + 32 else c
def lowB (n : ByteArray) : ByteArray := strOfNums ((bytesI n).map low)
theorem low_range {c : Int} (h : 0 ≤ c ∧ c ≤ 255) : 0 ≤ low c ∧ low c ≤ 255 := by unfold low; split <;> omega
theorem lowB_bytes (n : ByteArray) : bytesI (lowB n) = (bytesI n).map low := bytesI_str (by
  intro x hx
  obtain ⟨y, hy, rfl⟩ := List.mem_map.1 hx
  exact low_range (bytesI_range n y hy))
theorem lowB_size (n : ByteArray) : (lowB n).size = n.size := by rw [size_bytes, lowB_bytes, List.length_map, ← size_bytes]
theorem or_low {c : Int} (h : 65 ≤ c ∧ c ≤ 90) : orI .u8 c 32 = c + 32 := by
  obtain ⟨k, hk⟩ := Int.eq_ofNat_of_zero_le (by omega : 0 ≤ c - 65)
  have hc : c = 65 + (k : Int) := by omega
  subst hc
  have : ∀ k : Fin 26, orI .u8 (65 + ((k.val : Nat) : Int)) 32 = 65 + ((k.val : Nat) : Int) + 32 := by decide +kernel
  exact this ⟨k, by omega⟩
/-- One byte after the other made small. -/
theorem low_loop (step : List Int → Int → Option ((List Int × Int) ⊕ List Int)) {n : ByteArray} (hn : n.size ≤ 1099511627776)
    (hs : ∀ (l : List Int) (k : Nat), l.length = n.size → step l (k : Int) = if k < n.size then some (.inl (l.set k (low (l.getD k 0)), ((k + 1 : Nat) : Int))) else some (.inr l)) :
    loop (fun s => step s.1 s.2) (bytesI n, 0) = some ((bytesI n).map low) := by
  have hl := size_bytes n
  refine loop_run (step := fun s => step s.1 s.2) n.size (fun k => (((bytesI n).take k).map low ++ (bytesI n).drop k, (k : Int))) _ (by simp) (fun k hk => ?_) ?_
  · rw [hs _ _ (by simp; omega), if_pos hk]
    congr 3
    have e1 : (bytesI n).drop k = (bytesI n)[k] :: (bytesI n).drop (k + 1) := List.drop_eq_getElem_cons (by omega)
    rw [e1, List.take_succ_eq_append_getElem (by omega), List.map_append]
    have hlen : (((bytesI n).take k).map low).length = k := by simp; omega
    rw [List.getD_eq_getElem?_getD, List.getElem?_append_right (by omega), hlen, Nat.sub_self, List.set_append_right _ _ (by omega), hlen, Nat.sub_self]
    simp only [List.set_cons_zero, List.getElem?_cons_zero, Option.getD_some, List.map_cons, List.map_nil, List.append_assoc, List.cons_append, List.nil_append]
  · rw [hs _ _ (by simp; omega), if_neg (by omega), List.take_of_length_le (by omega), List.drop_of_length_le (by omega), List.append_nil]
theorem at_getD0 {l : List Int} {k : Nat} (h : k < l.length) : at_ l (k : Int) = some (l.getD k 0) := by
  rw [at_nat h, List.getD_eq_getElem?_getD, List.getElem?_eq_getElem h]; rfl
theorem set_same (l : List Int) (k : Nat) (hk : k < l.length) : l.set k (l.getD k 0) = l := by
  rw [List.getD_eq_getElem?_getD, List.getElem?_eq_getElem hk]; simp
theorem lower_eq {n : ByteArray} (hn : n.size ≤ 1099511627776) : m_name_Lower n = some (lowB n) := by
  have hl := size_bytes n
  rw [m_name_Lower]
  erw [low_loop (m_name_Lower_s2 n) hn (fun l k hlen => ?_)]
  · rfl
  rw [m_name_Lower_s2]
  by_cases hk : k < n.size
  · rw [if_pos (by omega), if_pos hk, at_getD0 (by omega), Option.bind_some, Option.bind_some, w64_id (by omega) (by omega)]
    by_cases h1 : 65 ≤ l.getD k 0
    · rw [if_pos h1]
      by_cases h2 : l.getD k 0 ≤ 90
      · rw [if_pos h2, Option.bind_some, Option.bind_some, or_low ⟨h1, h2⟩, setAt, if_pos ⟨by omega, by omega⟩, Option.bind_some, low, if_pos ⟨h1, h2⟩]; rfl
      · rw [if_neg h2, low, if_neg (fun h => h2 h.2), set_same l k (by omega)]; rfl
    · rw [if_neg h1, low, if_neg (fun h => h1 h.1), set_same l k (by omega)]; rfl
  · rw [if_neg (by omega), if_neg hk]
theorem low_small {c : Int} (h : c ≤ 63) : low c = c := by unfold low; rw [if_neg (by omega)]
theorem low_zero {c : Int} : low c = 0 ↔ c = 0 := by unfold low; split <;> omega
theorem low_big {c : Int} : 63 < low c ↔ 63 < c := by unfold low; split <;> omega
theorem byteAt_low (n : ByteArray) (a : Nat) : byteAt (lowB n) a = low (byteAt n a) := by
  by_cases h : a < n.size
  · rw [← bytesI_get n a h, ← bytesI_get (lowB n) a (by rw [lowB_size]; exact h)]
    simp only [lowB_bytes, List.getElem_map]
  · unfold byteAt
    rw [dif_neg (by rw [lowB_size]; simp; omega), dif_neg (by simp; omega)]; rfl
theorem extract_low (n : ByteArray) (i j : Nat) : (lowB n).extract i j = lowB (n.extract i j) := bytesI_inj (by
  rw [bytesI_extract, lowB_bytes, lowB_bytes, bytesI_extract, List.map_drop, List.map_take])
theorem eachAt_low (n : ByteArray) : ∀ (f a : Nat), eachAt (lowB n) f a = ((eachAt n f a).1.map (fun x => (x.1, lowB x.2)), (eachAt n f a).2) := by
  intro f
  induction f with
  | zero => intro a; rfl
  | succ f ih =>
    intro a
    rw [eachAt, eachAt, lowB_size, byteAt_low]
    by_cases h1 : a < n.size ∧ byteAt n a ≠ 0
    · rw [if_pos h1, if_pos ⟨h1.1, fun h => h1.2 (low_zero.1 h)⟩]
      by_cases h2 : 63 < byteAt n a
      · rw [if_pos (.inl (low_big.2 h2)), if_pos (.inl h2)]; rfl
      · rw [low_small (by omega)]
        by_cases h3 : 63 < byteAt n a ∨ n.size < a + 1 + (byteAt n a).toNat
        · rw [if_pos h3, if_pos h3]; rfl
        · rw [if_neg h3, if_neg h3, ih, extract_low]; rfl
    · rw [if_neg h1, if_neg (fun h => h1 ⟨h.1, fun h' => h.2 (low_zero.2 h')⟩)]; rfl
theorem encB_low {ls : List ByteArray} (h : okLs ls) : encB (ls.map lowB) = (encB ls).map low := by
  induction ls with
  | nil => rfl
  | cons s ls ih =>
    have := okLs_cons.1 h
    rw [List.map_cons, encB_cons, encB_cons, ih this.2, lowB_size, lowB_bytes, List.map_append, List.map_cons, low_small (by omega)]
theorem okLs_low {ls : List ByteArray} (h : okLs ls) : okLs (ls.map lowB) := by
  intro s hs
  obtain ⟨t, ht, rfl⟩ := List.mem_map.1 hs
  rw [lowB_size]; exact h t ht
theorem nm_low {n : ByteArray} {ls : List ByteArray} (h : Nm n ls) : Nm (lowB n) (ls.map lowB) := ⟨okLs_low h.1, by
  rw [lowB_bytes, h.2, List.map_append, encB_low h.1]; rfl⟩
theorem nm_iff (n : ByteArray) : (∃ ls, Nm n ls) ↔ (eachP n).2 = (n.size : Int) - 1 ∧ 0 ≤ (eachP n).2 := by
  constructor
  · rintro ⟨ls, h⟩
    have := nm_size h
    rw [each_nm h]; exact ⟨rfl, by simp only; omega⟩
  · intro h
    by_cases hc : ∃ ls, Nm n ls
    · exact hc
    · rcases each_no hc with h1 | h1
      · exact absurd h.1 h1
      · omega
theorem nm_low_no {n : ByteArray} (h : ¬ ∃ ls, Nm n ls) : ¬ ∃ ls, Nm (lowB n) ls := by
  rw [nm_iff] at h ⊢
  rw [eachP, lowB_size, eachAt_low]
  exact h
/-- In place the other way round. -/
theorem rev_loop (l : List ByteArray) (hl : l.length ≤ 1099511627776) : m_slices_Reverse_93 l = some l.reverse := by
  obtain ⟨r, h1, rfl⟩ := loop_rule (step := fun s : List ByteArray × Int × Int => m_slices_Reverse_93_s2 s.1 s.2.1 s.2.2)
    (fun s => ∃ i j : Nat, s.2.1 = (i : Int) ∧ s.2.2 = (j : Int) - 1 ∧ i + j = l.length ∧ s.1.length = l.length ∧ i ≤ j + 1 ∧ ∀ t, t < l.length → s.1[t]? = if t < i ∨ j ≤ t then l[l.length - 1 - t]? else l[t]?)
    (fun s => (s.2.2 + 1 - s.2.1).toNat + 1) (fun r => r = l.reverse)
    (by
      rintro ⟨q, i', j'⟩ ⟨i, j, g1, g2, g3, g4, g5, g6⟩
      simp only at g1 g2 g4 g6
      subst g1 g2
      simp only
      rw [m_slices_Reverse_93_s2]
      by_cases hc : i + 1 < j
      · left
        have hj : (j : Int) - 1 = ((j - 1 : Nat) : Int) := by omega
        rw [if_pos (by omega), hj, at_nat (by omega), Option.bind_some, at_nat (by omega), Option.bind_some, Option.bind_some, setAt, if_pos ⟨by omega, by omega⟩, Option.bind_some, at_nat (by rw [List.length_set]; omega), Option.bind_some, setAt, if_pos ⟨by omega, by rw [List.length_set]; omega⟩, Option.bind_some, w64_id (by omega) (by omega), w64_id (by omega) (by omega)]
        refine ⟨_, rfl, ⟨i + 1, j - 1, by simp only; omega, rfl, by omega, by simp only [List.length_set]; omega, by omega, fun t ht => ?_⟩, by simp only; omega⟩
        have gi := g6 i (by omega)
        have gj := g6 (j - 1) (by omega)
        rw [if_neg (by omega)] at gi gj
        have ei : q[i]'(by omega) = l[i]'(by omega) := by
          have : some (q[i]'(by omega)) = some (l[i]'(by omega)) := by rw [← List.getElem?_eq_getElem, ← List.getElem?_eq_getElem]; exact gi
          injection this
        have ej : q[j - 1]'(by omega) = l[j - 1]'(by omega) := by
          have : some (q[j - 1]'(by omega)) = some (l[j - 1]'(by omega)) := by rw [← List.getElem?_eq_getElem, ← List.getElem?_eq_getElem]; exact gj
          injection this
        simp only [Int.toNat_natCast, List.getElem?_set, List.length_set]
        by_cases t1 : j - 1 = t
        · subst t1
          rw [if_pos rfl, if_pos (by omega), if_pos (by omega), show l.length - 1 - (j - 1) = i by omega, List.getElem?_eq_getElem (by omega), ei]
        · rw [if_neg t1]
          by_cases t2 : i = t
          · subst t2
            rw [if_pos rfl, if_pos (by omega), if_pos (by omega), show l.length - 1 - i = j - 1 by omega, List.getElem?_eq_getElem (by omega), ej]
          · rw [if_neg t2, g6 t ht]
            by_cases t3 : t < i ∨ j ≤ t
            · rw [if_pos t3, if_pos (by omega)]
            · rw [if_neg t3, if_neg (by omega)]
      · right
        refine ⟨q, by rw [if_neg (by omega)], ?_⟩
        apply List.ext_getElem?
        intro t
        by_cases ht : t < l.length
        · rw [List.getElem?_reverse ht, g6 t ht]
          by_cases t3 : t < i ∨ j ≤ t
          · rw [if_pos t3]
          · rw [if_neg t3]; congr 1; omega
        · rw [List.getElem?_eq_none (by omega), List.getElem?_eq_none (by simp; omega)])
    (s0 := (l, 0, (l.length : Int) - 1)) ⟨0, l.length, rfl, rfl, by omega, rfl, by omega, fun t ht => by rw [if_neg (by omega)]⟩
  rw [m_slices_Reverse_93, w64_id (by omega) (by omega)]
  erw [h1]
  rfl
/-- A name's labels with small letters, the last one ahead. -/
def revL (ls : List ByteArray) : List ByteArray := (ls.map lowB).reverse
theorem revL_len (ls : List ByteArray) : (revL ls).length = ls.length := by simp [revL]
theorem nm_few {n : ByteArray} {ls : List ByteArray} (h : Nm n ls) (hs : n.size ≤ 255) : ls.length ≤ 254 := by
  have := len_enc ls; have := nm_size h; omega
theorem two_nm {a b : ByteArray} {x y : List ByteArray} (h : Nm a x) (hs : a.size ≤ 255) (h' : Nm b y) (hs' : b.size ≤ 255) : m_name_two a b = some (revL x, revL y, true) := by
  have := nm_few h hs
  have := nm_few h' hs'
  rw [m_name_two, lower_eq (by omega), Option.bind_some, labels_nm (nm_low h) (by rw [lowB_size]; exact hs), Option.bind_some, lower_eq (by omega), Option.bind_some, labels_nm (nm_low h') (by rw [lowB_size]; exact hs'), Option.bind_some, rev_loop _ (by simp; omega), Option.bind_some, rev_loop _ (by simp; omega), Option.bind_some, if_pos rfl]
  rfl
/-- It is a name of 255 bytes at most. -/
def isNm (n : ByteArray) : Prop := ∃ ls, Nm n ls ∧ n.size ≤ 255
theorem low_labels_no {a : ByteArray} (h : ¬ isNm a) (hb : a.size ≤ 1099511627776) : ∃ e, m_name_Labels (lowB a) = some ([], e) ∧ e ≠ 0 := by
  rcases nm_cases a with h1 | ⟨ls, h1, h2⟩ | h1
  · exact absurd h1 h
  · exact ⟨11, labels_big (nm_low h1) (by rw [lowB_size]; exact h2) (by rw [lowB_size]; exact hb), by omega⟩
  · exact ⟨10, labels_no (nm_low_no h1) (by rw [lowB_size]; exact hb), by omega⟩
theorem low_labels_any {a : ByteArray} (hb : a.size ≤ 1099511627776) : ∃ x e, m_name_Labels (lowB a) = some (x, e) ∧ x.length ≤ 1099511627776 := by
  by_cases h : isNm a
  · obtain ⟨ls, h1, h2⟩ := h
    have := nm_few h1 h2
    exact ⟨_, 0, labels_nm (nm_low h1) (by rw [lowB_size]; exact h2), by simp; omega⟩
  · obtain ⟨e, h1, _⟩ := low_labels_no h hb
    exact ⟨[], e, h1, by simp⟩
theorem two_no {a b : ByteArray} (h : ¬ (isNm a ∧ isNm b)) (ha : a.size ≤ 1099511627776) (hb : b.size ≤ 1099511627776) : ∃ x y, m_name_two a b = some (x, y, false) := by
  obtain ⟨x, e, h1, h2⟩ := low_labels_any ha
  obtain ⟨y, f, h3, h4⟩ := low_labels_any hb
  refine ⟨x.reverse, y.reverse, ?_⟩
  rw [m_name_two, lower_eq ha, Option.bind_some, h1, Option.bind_some, lower_eq hb, Option.bind_some, h3, Option.bind_some, rev_loop _ h2, Option.bind_some, rev_loop _ h4, Option.bind_some]
  by_cases he : e = 0
  · rw [if_pos he]
    have hf : f ≠ 0 := by
      intro hf
      by_cases c1 : isNm a
      · obtain ⟨f', h5, h6⟩ := low_labels_no (fun hb' => h ⟨c1, hb'⟩) hb
        rw [h3] at h5
        injection h5 with h5
        injection h5 with _ h5
        exact h6 (h5.symm.trans hf)
      · obtain ⟨f', h5, h6⟩ := low_labels_no c1 ha
        rw [h1] at h5
        injection h5 with h5
        injection h5 with _ h5
        exact h6 (h5.symm.trans he)
    rw [decide_eq_false hf]
  · rw [if_neg he]
/-- How many are alike ahead. -/
def cpl : List ByteArray → List ByteArray → Nat
  | x :: xs, y :: ys => if x = y then cpl xs ys + 1 else 0
  | _, _ => 0
theorem cpl_le : ∀ (x y : List ByteArray), cpl x y ≤ x.length ∧ cpl x y ≤ y.length
  | [], y => by simp [cpl]
  | x :: xs, [] => by simp [cpl]
  | x :: xs, y :: ys => by
    have := cpl_le xs ys
    rw [cpl]; split <;> simp <;> omega
theorem cpl_lt : ∀ (x y : List ByteArray) (k : Nat), k < cpl x y → x[k]? = y[k]? ∧ k < x.length ∧ k < y.length
  | [], y, k, h => by simp [cpl] at h
  | x :: xs, [], k, h => by simp [cpl] at h
  | x :: xs, y :: ys, k, h => by
    rw [cpl] at h
    split at h
    · rename_i hxy
      cases k with
      | zero => subst hxy; simp
      | succ k =>
        have := cpl_lt xs ys k (by omega)
        simpa using this
    · omega
theorem cpl_end : ∀ (x y : List ByteArray), cpl x y < x.length → cpl x y < y.length → x[cpl x y]? ≠ y[cpl x y]?
  | [], y, h, _ => by simp at h
  | x :: xs, [], _, h => by simp at h
  | x :: xs, y :: ys, h1, h2 => by
    rw [cpl] at h1 h2 ⊢
    split
    · rename_i hxy
      rw [if_pos hxy] at h1 h2
      have := cpl_end xs ys (by simpa using h1) (by simpa using h2)
      simpa using this
    · rename_i hxy
      simpa using hxy
theorem shared_nm {a b : ByteArray} {x y : List ByteArray} (h : Nm a x) (hs : a.size ≤ 255) (h' : Nm b y) (hs' : b.size ≤ 255) : m_name_Shared a b = some (cpl (revL x) (revL y) : Int) := by
  have f1 := nm_few h hs
  have f2 := nm_few h' hs'
  have g1 := revL_len x
  have g2 := revL_len y
  have hle := cpl_le (revL x) (revL y)
  have := loop_run (step := fun s => m_name_Shared_s2 (revL x) (revL y) s) (cpl (revL x) (revL y)) (fun k => (k : Int)) ((cpl (revL x) (revL y) : Nat) : Int) (s0 := 0) rfl
    (fun k hk => by
      obtain ⟨e1, e2, e3⟩ := cpl_lt _ _ k hk
      rw [List.getElem?_eq_getElem e2, List.getElem?_eq_getElem e3] at e1
      injection e1 with e1
      simp only [m_name_Shared_s2, m_name_Shared_c1]
      rw [if_pos (by omega), if_pos (by omega), at_nat e2, Option.bind_some, at_nat e3, Option.bind_some, Option.bind_some, if_pos (decide_eq_true e1), w64_id (by omega) (by omega)]
      rfl)
    (by
      simp only [m_name_Shared_s2, m_name_Shared_c1]
      by_cases c1 : cpl (revL x) (revL y) < (revL x).length
      · rw [if_pos (by omega)]
        by_cases c2 : cpl (revL x) (revL y) < (revL y).length
        · have hne := cpl_end _ _ c1 c2
          rw [List.getElem?_eq_getElem c1, List.getElem?_eq_getElem c2] at hne
          rw [if_pos (by omega), at_nat c1, Option.bind_some, at_nat c2, Option.bind_some, Option.bind_some, if_neg]
          intro hd
          exact hne (congrArg some (of_decide_eq_true hd))
        · rw [if_neg (by omega)]; rfl
      · rw [if_neg (by omega)]; rfl)
  rw [m_name_Shared, two_nm h hs h' hs', Option.bind_some, if_pos rfl]
  erw [this]
  rfl
theorem shared_no {a b : ByteArray} (h : ¬ (isNm a ∧ isNm b)) (ha : a.size ≤ 1099511627776) (hb : b.size ≤ 1099511627776) : m_name_Shared a b = some (-1) := by
  obtain ⟨x, y, h1⟩ := two_no h ha hb
  rw [m_name_Shared, h1]; rfl
theorem depth_not {n : ByteArray} (h : ¬ isNm n) (hb : n.size ≤ 1099511627776) : m_name_Depth n = some (-1) := by
  rcases nm_cases n with h1 | ⟨ls, h1, h2⟩ | h1
  · exact absurd h1 h
  · exact depth_big h1 h2 hb
  · exact depth_no h1 hb
theorem under_nm {a b : ByteArray} {x y : List ByteArray} (h : Nm a x) (hs : a.size ≤ 255) (h' : Nm b y) (hs' : b.size ≤ 255) : m_name_Under a b = some (decide (cpl (revL x) (revL y) = y.length)) := by
  rw [m_name_Under, depth_nm h' hs', Option.bind_some, if_pos (by omega), shared_nm h hs h' hs', Option.bind_some]
  congr 1
  exact decide_eq_decide.2 (by omega)
theorem under_no {a b : ByteArray} (h : ¬ (isNm a ∧ isNm b)) (ha : a.size ≤ 1099511627776) (hb : b.size ≤ 1099511627776) : m_name_Under a b = some false := by
  by_cases c : isNm b
  · obtain ⟨y, h1, h2⟩ := c
    rw [m_name_Under, depth_nm h1 h2, Option.bind_some, if_pos (by omega), shared_no h ha hb, Option.bind_some, decide_eq_false (by omega)]
  · rw [m_name_Under, depth_not c hb, Option.bind_some, if_neg (by omega)]
open Go.RowKit
theorem a_nm : Nm (⟨#[1, 97, 0]⟩ : ByteArray) [⟨#[97]⟩] := ⟨by decide +kernel, by decide +kernel⟩
theorem root_nm : Nm (⟨#[0]⟩ : ByteArray) [] := ⟨by decide +kernel, by decide +kernel⟩
open Go.RowKit
theorem check_not {n : ByteArray} (h : ¬ isNm n) (hb : n.size ≤ 1099511627776) : ∃ e, m_name_Check n = some e ∧ e ≠ 0 := by
  rcases nm_cases n with h1 | ⟨ls, h1, h2⟩ | h1
  · exact absurd h1 h
  · exact ⟨11, check_big h1 h2 hb, by omega⟩
  · exact ⟨10, check_no h1 hb, by omega⟩
open Go.RowKit
/-- Where in a list something is first true, and what stands there. -/
def fndX {α : Type} (p : α → Bool) : List α → Nat → Option (Nat × α)
  | [], _ => none
  | x :: r, i => if p x = true then some (i, x) else fndX p r (i + 1)
def fndI {α : Type} : Option (Nat × α) → Int
  | some z => (z.1 : Int)
  | none => -1
theorem fndX_some {α : Type} {p : α → Bool} : ∀ {l : List α} {i k : Nat} {x : α}, fndX p l i = some (k, x) → i ≤ k ∧ l[k - i]? = some x ∧ p x = true ∧ ∀ j, j < k - i → ∀ y, l[j]? = some y → p y = false
  | [], i, k, x, h => by cases h
  | y :: r, i, k, x, h => by
    rw [fndX] at h
    by_cases hp : p y = true
    · rw [if_pos hp] at h; injection h with h; injection h with h1 h2; subst h1 h2
      exact ⟨Nat.le_refl _, by simp, hp, fun j hj => by omega⟩
    · rw [if_neg hp] at h
      obtain ⟨h1, h2, h3, h4⟩ := fndX_some h
      refine ⟨by omega, ?_, h3, fun j hj z hz => ?_⟩
      · rw [show k - i = (k - (i + 1)) + 1 by omega]; simpa using h2
      · cases j with
        | zero => simp at hz; subst hz; simpa using hp
        | succ j => exact h4 j (by omega) z (by simpa using hz)
theorem fndX_none {α : Type} {p : α → Bool} : ∀ {l : List α} {i : Nat}, fndX p l i = none → ∀ y ∈ l, p y = false
  | [], i, h, y, hy => by cases hy
  | x :: r, i, h, y, hy => by
    rw [fndX] at h
    by_cases hp : p x = true
    · rw [if_pos hp] at h; cases h
    · rw [if_neg hp] at h
      rcases List.mem_cons.1 hy with rfl | hy
      · simpa using hp
      · exact fndX_none h y hy
theorem idx_loop {α : Type} (p : α → Bool) {l : List α} (hl : l.length ≤ 4611686018427387904) (step : Int → Option (Int ⊕ (Unit ⊕ Int)))
    (hs : ∀ i : Int, step i = if i < (l.length : Int) then (at_ l i).bind fun x => if p x = true then some (.inr (.inr i)) else some (.inl (w64 (i + 1))) else some (.inr (.inl ()))) :
    ∀ (r pre : List α), l = pre ++ r → loop step (pre.length : Int) = some (match fndX p r pre.length with | some z => .inr (z.1 : Int) | none => .inl ()) := by
  intro r
  induction r with
  | nil =>
    intro pre h
    rw [List.append_nil] at h
    have := hs (pre.length : Int)
    rw [if_neg (by rw [h]; omega)] at this
    rw [loop_inr this]; rfl
  | cons x r ih =>
    intro pre h
    have hlen : l.length = pre.length + (r.length + 1) := by rw [h]; simp
    have hat : at_ l (pre.length : Int) = some x := by rw [at_nat (by omega)]; simp [h]
    have hst := hs (pre.length : Int)
    rw [if_pos (by omega), hat, Option.bind_some] at hst
    rw [fndX]
    by_cases hp : p x = true
    · rw [if_pos hp] at hst
      rw [loop_inr hst, if_pos hp]
    · rw [if_neg hp, w64_id (by omega) (by omega)] at hst
      have := ih (pre ++ [x]) (by rw [h]; simp)
      rw [List.length_append, List.length_singleton] at this
      rw [loop_inl hst, if_neg hp]
      exact this
theorem take_fnd {α : Type} {p : α → Bool} {l : List α} {k : Nat} {x : α} (h : fndX p l 0 = some (k, x)) : k < l.length ∧ p x = true ∧ l[k]? = some x ∧ (l.take k).filter (fun x => !p x) = l.take k := by
  obtain ⟨h1, h2, h3, h4⟩ := fndX_some h
  simp only [Nat.sub_zero] at h2 h4
  have hk := (List.getElem?_eq_some_iff.1 h2).1
  refine ⟨hk, h3, h2, List.filter_eq_self.2 fun y hy => ?_⟩
  obtain ⟨j, hj, rfl⟩ := List.mem_take_iff_getElem.1 hy
  have := h4 j (by omega) _ (List.getElem?_eq_getElem (by omega))
  simp [this]
open Go.RowKit
open Go.RowKit
/-- The labels of a name. -/
noncomputable def labU (n : ByteArray) : List ByteArray := (Classical.epsilon fun ls => Nm n ls)
theorem labU_eq {n : ByteArray} {ls : List ByteArray} (h : Nm n ls) : labU n = ls := nm_inj (Classical.epsilon_spec (p := fun ls => Nm n ls) ⟨ls, h⟩) h
/-- a is under b. -/
noncomputable def undP (a b : ByteArray) : Bool := @decide (isNm a ∧ isNm b ∧ revL (labU b) <+: revL (labU a)) (Classical.propDecidable _)
theorem cpl_pfx : ∀ X Y : List ByteArray, cpl X Y = Y.length ↔ Y <+: X
  | [], [] => by simp [cpl]
  | [], _ :: _ => by simp [cpl]
  | _ :: _, [] => by simp [cpl]
  | x :: X, y :: Y => by
    rw [cpl, List.cons_prefix_cons, ← cpl_pfx X Y]
    by_cases h : x = y
    · subst h; simp
    · rw [if_neg h]; simp [Ne.symm h]
theorem undP_t {a b : ByteArray} : undP a b = true ↔ isNm a ∧ isNm b ∧ revL (labU b) <+: revL (labU a) := by unfold undP; exact @decide_eq_true_iff _ (Classical.propDecidable _)
theorem undP_nm {a b : ByteArray} {x y : List ByteArray} (h : Nm a x) (hs : a.size ≤ 255) (h' : Nm b y) (hs' : b.size ≤ 255) : undP a b = decide (cpl (revL x) (revL y) = y.length) := by
  have hc := cpl_pfx (revL x) (revL y)
  rw [revL_len] at hc
  have e : undP a b = true ↔ cpl (revL x) (revL y) = y.length := by
    rw [undP_t, labU_eq h, labU_eq h', ← hc]
    exact ⟨fun g => g.2.2, fun g => ⟨⟨x, h, hs⟩, ⟨y, h', hs'⟩, g⟩⟩
  cases hu : undP a b with
  | true => exact (decide_eq_true (e.1 hu)).symm
  | false => exact (decide_eq_false fun g => by rw [e.2 g] at hu; cases hu).symm
theorem undP_no {a b : ByteArray} (h : ¬ (isNm a ∧ isNm b)) : undP a b = false := by
  cases hu : undP a b with
  | false => rfl
  | true => exact absurd ⟨(undP_t.1 hu).1, (undP_t.1 hu).2.1⟩ h
theorem und_code {a b : ByteArray} (ha : a.size ≤ 1099511627776) (hb : b.size ≤ 1099511627776) : m_name_Under a b = some (undP a b) := by
  by_cases h : isNm a ∧ isNm b
  · obtain ⟨⟨x, x1, x2⟩, ⟨y, y1, y2⟩⟩ := h
    rw [under_nm x1 x2 y1 y2, undP_nm x1 x2 y1 y2]
  · rw [under_no h ha hb, undP_no h]
def rootB : ByteArray := ⟨#[0]⟩
theorem und_root {n : ByteArray} (h : isNm n) : undP n rootB = true := by
  obtain ⟨x, x1, x2⟩ := h
  show undP n ⟨#[0]⟩ = true
  rw [undP_nm x1 x2 root_nm (by decide)]
  exact decide_eq_true (by cases revL x <;> rfl)
noncomputable def flo (n : ByteArray) (l : List GFlush) : Int := l.foldl (fun a f => if undP n f.fZone = true then max a f.fEpoch else a) 0
theorem flo_app (n : ByteArray) (l : List GFlush) (f : GFlush) : flo n (l ++ [f]) = if undP n f.fZone = true then max (flo n l) f.fEpoch else flo n l := by
  unfold flo; rw [List.foldl_append]; rfl
/-- What holds of the flushes. -/
structure FOk (e : Int) (l : List GFlush) : Prop where
  le : l.length ≤ 32
  ep : ∀ f ∈ l, f.fEpoch ≤ e
  zs : ∀ f ∈ l, f.fZone.size ≤ 300
noncomputable def nextF (e : Int) (l : List GFlush) (z : ByteArray) : List GFlush :=
  if 32 ≤ ((l.filter fun f => !undP f.fZone (lowB z)).length : Int) then [⟨e + 1, rootB⟩] else (l.filter fun f => !undP f.fZone (lowB z)) ++ [⟨e + 1, lowB z⟩]
theorem nextF_ok {e : Int} {l : List GFlush} (h : FOk e l) {z : ByteArray} (hz : z.size ≤ 300) : FOk (e + 1) (nextF e l z) := by
  unfold nextF
  split
  · exact ⟨by simp, fun f hf => by simp only [List.mem_singleton] at hf; subst hf; simp, fun f hf => by simp only [List.mem_singleton] at hf; subst hf; show rootB.size ≤ 300; decide⟩
  · refine ⟨by simp only [List.length_append, List.length_singleton]; omega, fun f hf => ?_, fun f hf => ?_⟩
    · rcases List.mem_append.1 hf with hf | hf
      · have := h.ep f (List.mem_filter.1 hf).1; omega
      · simp only [List.mem_singleton] at hf; subst hf; simp
    · rcases List.mem_append.1 hf with hf | hf
      · exact h.zs f (List.mem_filter.1 hf).1
      · simp only [List.mem_singleton] at hf; subst hf; show (lowB z).size ≤ 300; rw [lowB_size]; exact hz
open Go.RowKit
theorem mem_set {α : Type} {l q : List α} {i : Nat} {x : α} (hq : ∀ y ∈ q, y ∈ l) (hx : x ∈ l) : ∀ y ∈ q.set i x, y ∈ l := fun y hy => by
  rcases List.mem_or_eq_of_mem_set hy with h | h
  · exact hq y h
  · rw [h]; exact hx
theorem delf_loopM {α : Type} (p : α → Bool) {l : List α} (hl : l.length ≤ 4611686018427387904) (step : List α × Int × Int → Option ((List α × Int × Int) ⊕ (List α × Int)))
    (hs : ∀ (q : List α) (i j : Int), (∀ y ∈ q, y ∈ l) → step (q, i, j) = if j < (q.length : Int) then (at_ q j).bind fun x => if p x = true then some (.inl (q, i, w64 (j + 1))) else (at_ q i).bind fun _ => (setAt q i x).bind fun q' => some (.inl (q', w64 (i + 1), w64 (j + 1))) else some (.inr (q, i))) :
    ∀ (d j i : Nat) (q : List α), j + d = l.length → i < j → q.length = l.length → q.take i = (l.take j).filter (fun x => !p x) → q.drop j = l.drop j → (∀ y ∈ q, y ∈ l) → ∃ (q' : List α) (i' : Nat), loop step (q, (i : Int), (j : Int)) = some (q', (i' : Int)) ∧ i' ≤ q'.length ∧ q'.take i' = l.filter (fun x => !p x) := by
  intro d
  induction d with
  | zero =>
    intro j i q hj hi hq ht hd hm
    refine ⟨q, i, ?_, by omega, ?_⟩
    · exact loop_inr (by rw [hs _ _ _ hm, if_neg (by omega)])
    · rw [ht, List.take_of_length_le (by omega)]
  | succ d ih =>
    intro j i q hj hi hq ht hd hm
    have hjl : j < l.length := by omega
    have hjq : j < q.length := by omega
    have hx : q[j] = l[j] := by
      have := congrArg (fun z => z[0]?) hd
      simp only [List.getElem?_drop, Nat.add_zero, List.getElem?_eq_getElem hjl, List.getElem?_eq_getElem hjq, Option.some.injEq] at this
      exact this
    have hst := hs q (i : Int) (j : Int) hm
    rw [if_pos (by omega), at_nat hjq, Option.bind_some, hx] at hst
    have htk : l.take (j + 1) = l.take j ++ [l[j]] := by rw [List.take_succ_eq_append_getElem hjl]
    have hdj : ∀ z : List α, z.drop (j + 1) = (z.drop j).drop 1 := fun z => by rw [List.drop_drop]
    by_cases hp : p l[j] = true
    · rw [if_pos hp, w64_id (by omega) (by omega)] at hst
      rw [loop_inl hst, show (j : Int) + 1 = ((j + 1 : Nat) : Int) by omega]
      refine ih (j + 1) i q (by omega) (by omega) hq ?_ ?_ hm
      · rw [htk, List.filter_append, ht]; simp [hp]
      · rw [hdj, hdj, hd]
    · rw [if_neg hp, at_nat (by omega), Option.bind_some, setAt, if_pos ⟨by omega, by omega⟩, Option.bind_some, Int.toNat_natCast, w64_id (by omega) (by omega), w64_id (by omega) (by omega)] at hst
      rw [loop_inl hst, show (j : Int) + 1 = ((j + 1 : Nat) : Int) by omega, show (i : Int) + 1 = ((i + 1 : Nat) : Int) by omega]
      refine ih (j + 1) (i + 1) _ (by omega) (by omega) (by rw [List.length_set]; exact hq) ?_ ?_ (mem_set hm (List.getElem_mem hjl))
      · have e : (q.set i l[j]).take (i + 1) = q.take i ++ [l[j]] := by
          rw [List.take_succ_eq_append_getElem (by rw [List.length_set]; omega), List.take_set_of_le (Nat.le_refl _)]
          simp
        rw [e, htk, List.filter_append, ht]; simp [hp]
      · rw [List.drop_set_of_lt (by omega), hdj, hdj, hd]
theorem delf_eqM {α : Type} (p : α → Bool) {l : List α} (hl : l.length ≤ 4611686018427387904) (ix : Option Int) (step : List α × Int × Int → Option ((List α × Int × Int) ⊕ (List α × Int)))
    (hix : ix = some (fndI (fndX p l 0)))
    (hs : ∀ (q : List α) (i j : Int), (∀ y ∈ q, y ∈ l) → step (q, i, j) = if j < (q.length : Int) then (at_ q j).bind fun x => if p x = true then some (.inl (q, i, w64 (j + 1))) else (at_ q i).bind fun _ => (setAt q i x).bind fun q' => some (.inl (q', w64 (i + 1), w64 (j + 1))) else some (.inr (q, i))) :
    (ix.bind fun x1 => if x1 = -1 then some l else (loop step (l, x1, w64 (x1 + 1))).bind fun e => (cutLo e.1 e.2).bind fun l53 => (cutHi e.1 e.2).bind fun l54 => some l54) = some (l.filter (fun x => !p x)) := by
  rw [hix, Option.bind_some]
  cases hf : fndX p l 0 with
  | none =>
    rw [fndI, if_pos rfl]
    congr 1
    exact (List.filter_eq_self.2 fun y hy => by simp [fndX_none hf y hy]).symm
  | some z =>
    obtain ⟨k, x⟩ := z
    obtain ⟨h1, h2, h3, h4⟩ := take_fnd hf
    have hx : l[k] = x := by have := (List.getElem?_eq_some_iff.1 h3).2; exact this
    have htk : l.take (k + 1) = l.take k ++ [l[k]] := by rw [List.take_succ_eq_append_getElem h1]
    obtain ⟨q, i, g1, g2, g3⟩ := delf_loopM p hl step hs (l.length - (k + 1)) (k + 1) k l (by omega) (by omega) rfl (by rw [htk, List.filter_append, h4, hx]; simp [h2]) rfl (fun y hy => hy)
    rw [fndI, if_neg (by omega), w64_id (by omega) (by omega), show (k : Int) + 1 = ((k + 1 : Nat) : Int) by omega, g1, Option.bind_some]
    simp only
    rw [cutLo, if_pos ⟨by omega, by omega⟩, Option.bind_some, cutHi, if_pos ⟨by omega, by omega⟩, Option.bind_some, Int.toNat_natCast, g3]
theorem at_mem' {α : Type} {l : List α} {i : Int} {x : α} (h : at_ l i = some x) : x ∈ l := by
  unfold at_ at h
  split at h
  · exact List.mem_of_getElem? h
  · cases h
theorem c3_code {f : GFlush} {z : ByteArray} (hf : f.fZone.size ≤ 300) (hz : z.size ≤ 300) : m_conf_Apply_c3 f z = some (undP f.fZone z) := by
  rw [m_conf_Apply_c3, und_code (by omega) (by omega)]; rfl
theorem del_code {e : Int} {l : List GFlush} (h : FOk e l) {z : ByteArray} (hz : z.size ≤ 300) : m_slices_DeleteFunc_37 l z = some (l.filter fun f => !undP f.fZone z) := by
  have hl := h.le
  have hix : m_slices_IndexFunc_70 l z = some (fndI (fndX (fun f => undP f.fZone z) l 0)) := by
    have := idx_loop (fun f : GFlush => undP f.fZone z) (l := l) (by omega) (fun s => m_slices_IndexFunc_70_s2 l z s) (fun i => by
      simp only [m_slices_IndexFunc_70_s2]
      split
      · cases ha : at_ l i with
        | none => rfl
        | some x => rw [Option.bind_some, Option.bind_some, c3_code (h.zs x (at_mem' ha)) hz, Option.bind_some]
      · rfl) l [] rfl
    rw [m_slices_IndexFunc_70]
    erw [this]
    rw [List.length_nil]
    cases fndX (fun f : GFlush => undP f.fZone z) l 0 with
    | none => rfl
    | some z => rfl
  exact delf_eqM (fun f : GFlush => undP f.fZone z) (by omega) _ (fun s => m_slices_DeleteFunc_37_s2 z s.1 s.2.1 s.2.2) hix (fun q i j hq => by
    simp only [m_slices_DeleteFunc_37_s2]
    split
    · cases ha : at_ q j with
      | none => rfl
      | some x => rw [Option.bind_some, Option.bind_some, c3_code (h.zs x (hq x (at_mem' ha))) hz, Option.bind_some]
    · rfl)
theorem bs_code : m_slices_BinarySearch_27 [] 0 = some (0, false) := by
  rw [m_slices_BinarySearch_27]
  erw [loop_inr (show m_slices_BinarySearch_27_s2 [] 0 0 0 = some (.inr 0) by rw [m_slices_BinarySearch_27_s2, if_neg (by decide)])]
  rw [Option.bind_some, m_slices_BinarySearch_27_j1, if_neg (by decide)]
theorem named_code {z : ByteArray} (hz : z.size ≤ 300) : (isNm z → m_conf_named z = some true) ∧ (¬ isNm z → m_conf_named z = some false) := by
  constructor
  · rintro ⟨x, x1, x2⟩
    rw [m_conf_named, check_nm x1 x2]; rfl
  · intro h
    obtain ⟨e, e1, e2⟩ := check_not h (by omega)
    rw [m_conf_named, e1, Option.bind_some, decide_eq_false e2]
theorem none2 : m_conf_none [⟨#[]⟩, ⟨#[]⟩] = some true := by
  have hs : ∀ i : Nat, i < 2 → m_slices_IndexFunc_76_s2 [⟨#[]⟩, ⟨#[]⟩] (i : Int) = some (.inl ((i + 1 : Nat) : Int)) := fun i hi => by
    rcases (by omega : i = 0 ∨ i = 1) with rfl | rfl <;> rfl
  rw [m_conf_none, m_slices_ContainsFunc_53, m_slices_IndexFunc_76]
  erw [loop_inl (hs 0 (by omega)), loop_inl (hs 1 (by omega)), loop_inr (show m_slices_IndexFunc_76_s2 [⟨#[]⟩, ⟨#[]⟩] ((1 + 1 : Nat) : Int) = some (.inr (.inl ())) from rfl)]
  rfl
theorem none3 : m_conf_none [⟨#[]⟩, ⟨#[]⟩, ⟨#[]⟩] = some true := by
  have hs : ∀ i : Nat, i < 3 → m_slices_IndexFunc_76_s2 [⟨#[]⟩, ⟨#[]⟩, ⟨#[]⟩] (i : Int) = some (.inl ((i + 1 : Nat) : Int)) := fun i hi => by
    rcases (by omega : i = 0 ∨ i = 1 ∨ i = 2) with rfl | rfl | rfl <;> rfl
  rw [m_conf_none, m_slices_ContainsFunc_53, m_slices_IndexFunc_76]
  erw [loop_inl (hs 0 (by omega)), loop_inl (hs 1 (by omega)), loop_inl (hs 2 (by omega)), loop_inr (show m_slices_IndexFunc_76_s2 [⟨#[]⟩, ⟨#[]⟩, ⟨#[]⟩] ((2 + 1 : Nat) : Int) = some (.inr (.inl ())) from rfl)]
  rfl
theorem check5 {z : ByteArray} (hz : z.size ≤ 300) : (isNm z → m_conf_Check_k5 0 ⟨#[]⟩ ⟨#[]⟩ z [] = some 0) ∧ (¬ isNm z → m_conf_Check_k5 0 ⟨#[]⟩ ⟨#[]⟩ z [] = some 1) := by
  obtain ⟨n1, n2⟩ := named_code hz
  constructor
  · intro h
    rw [m_conf_Check_k5, if_pos rfl, m_conf_Check_k5_j1, m_conf_Check_k5_j3, if_neg (by decide), if_pos (by decide), n1 h, Option.bind_some, if_pos rfl, none2]
    rfl
  · intro h
    rw [m_conf_Check_k5, if_pos rfl, m_conf_Check_k5_j1, m_conf_Check_k5_j3, if_neg (by decide), if_pos (by decide), n2 h, Option.bind_some, if_neg (by decide)]
    rfl
theorem apply5 {e : Int} {l : List GFlush} (h : FOk e l) (he : 0 ≤ e ∧ e ≤ 1000) {z : ByteArray} (hz : z.size ≤ 300) :
    (isNm z → m_conf_Apply_k5 ⟨[], [], [], e, l⟩ 0 ⟨#[]⟩ ⟨#[]⟩ z [] = some (⟨[], [], [], e + 1, nextF e l z⟩, 0)) ∧ (¬ isNm z → m_conf_Apply_k5 ⟨[], [], [], e, l⟩ 0 ⟨#[]⟩ ⟨#[]⟩ z [] = some (⟨[], [], [], e, l⟩, 1)) := by
  obtain ⟨c1, c2⟩ := check5 hz
  have hl := h.le
  constructor
  · intro hn
    have h26 : m_slices_Clone_26 l = some l := by rw [m_slices_Clone_26, app_of (by simp; omega)]; rfl
    rw [m_conf_Apply_k5, c1 hn, Option.bind_some, if_neg (by decide)]
    simp only
    rw [show m_slices_Clone_23 [] = some [] from rfl, Option.bind_some, show m_slices_Clone_24 [] = some [] from rfl, Option.bind_some, show m_slices_Clone_25 [] = some [] from rfl, Option.bind_some, h26, Option.bind_some, m_conf_Apply_k5_j1, bs_code, Option.bind_some]
    simp only
    have hf := List.length_filter_le (fun f : GFlush => !undP f.fZone (lowB z)) l
    rw [if_neg (by omega), lower_eq (by omega), Option.bind_some, del_code h (by rw [lowB_size]; exact hz), Option.bind_some, w64_id (by omega) (by omega), nextF]
    split
    · rw [m_conf_Apply_k5_j3, app_of (by simp), Option.bind_some, m_conf_Apply_k5_j2]; rfl
    · rw [m_conf_Apply_k5_j3, app_of (by simp; omega), Option.bind_some, m_conf_Apply_k5_j2]
  · intro hn
    rw [m_conf_Apply_k5, c2 hn, Option.bind_some, if_pos (by decide)]
theorem floor_code {r : List Int} {hh : List ByteArray} {aa : List GAnchor} {e : Int} {l : List GFlush} (h : FOk e l) {n : ByteArray} (hn : n.size ≤ 300) : m_conf_Floor ⟨r, hh, aa, e, l⟩ n = some (flo n l) := by
  have hl := h.le
  have := loop_run (step := fun s : Int × Int => m_conf_Floor_s2 ⟨r, hh, aa, e, l⟩ n s.1 s.2) l.length (fun k => (flo n (l.take k), (k : Int))) (flo n l) (s0 := (0, 0)) rfl
    (fun k hk => by
      have hx := List.getElem_mem hk
      have htk : l.take (k + 1) = l.take k ++ [l[k]] := by rw [List.take_succ_eq_append_getElem hk]
      simp only [m_conf_Floor_s2]
      rw [if_pos (by omega), at_nat hk, Option.bind_some, und_code (by omega) (by have := h.zs _ hx; omega), Option.bind_some, htk, flo_app, w64_id (by omega) (by omega)]
      split <;> rfl)
    (by simp only [m_conf_Floor_s2]; rw [if_neg (by omega), List.take_of_length_le (Nat.le_refl _)])
  rw [m_conf_Floor]
  erw [this]
  rfl
open Go.RowKit
theorem short13_of {s : ByteArray} (k : Nat) (h : s.size ≤ 9223372036854775807) : ∃ t, m_law13_short s (k : Int) = some t ∧ t.size ≤ k := by
  rw [m_law13_short]
  by_cases hc : k < s.size
  · rw [if_pos (by omega), scutHi, if_pos ⟨by omega, by omega⟩]
    exact ⟨_, rfl, by rw [ByteArray.size_extract]; omega⟩
  · rw [if_neg (by omega)]; exact ⟨_, rfl, by omega⟩
def aZ : ByteArray := ⟨#[1, 97, 0]⟩
theorem aZ_nm : isNm aZ := ⟨[⟨#[97]⟩], a_nm, by decide⟩
theorem low_root : lowB rootB = rootB := by decide +kernel
theorem low_aZ : lowB aZ = aZ := by decide +kernel
theorem xa_nm : Nm (⟨#[1, 120, 1, 97, 0]⟩ : ByteArray) [⟨#[120]⟩, ⟨#[97]⟩] := ⟨by decide +kernel, by decide +kernel⟩
theorem b_nm : Nm (⟨#[1, 98, 0]⟩ : ByteArray) [⟨#[98]⟩] := ⟨by decide +kernel, by decide +kernel⟩
theorem und_xa : undP ⟨#[1, 120, 1, 97, 0]⟩ aZ = true := by
  show undP ⟨#[1, 120, 1, 97, 0]⟩ ⟨#[1, 97, 0]⟩ = true
  rw [undP_nm xa_nm (by decide) a_nm (by decide)]
  decide +kernel
theorem und_b : undP ⟨#[1, 98, 0]⟩ aZ = false := by
  show undP ⟨#[1, 98, 0]⟩ ⟨#[1, 97, 0]⟩ = false
  rw [undP_nm b_nm (by decide) a_nm (by decide)]
  decide +kernel
theorem f0_ok : FOk 0 [] := ⟨by decide, (fun _ h => by cases h), (fun _ h => by cases h)⟩
theorem awake13 : m_law13_awake = some true := by
  have hroot : isNm rootB := ⟨[], root_nm, by decide⟩
  have n1 : nextF 0 [] aZ = [⟨1, aZ⟩] := by
    unfold nextF
    rw [if_neg (by simp), low_aZ]; rfl
  have k1 : FOk 1 [⟨1, aZ⟩] := by have := nextF_ok f0_ok (z := aZ) (by decide); rw [n1] at this; exact this
  have n2 : nextF 1 [⟨1, aZ⟩] rootB = [⟨2, rootB⟩] := by
    unfold nextF
    have : ([⟨1, aZ⟩] : List GFlush).filter (fun f => !undP f.fZone (lowB rootB)) = [] := by
      rw [low_root, List.filter_cons, if_neg (by simp [und_root aZ_nm])]; rfl
    rw [this, if_neg (by simp), low_root]; rfl
  have a1 := (apply5 f0_ok (by omega) (z := aZ) (by decide)).1 aZ_nm
  have a2 := (apply5 k1 (by omega) (z := rootB) (by decide)).1 hroot
  rw [n1] at a1
  rw [n2] at a2
  replace a1 : m_conf_Apply_k5 ⟨[], [], [], 0, []⟩ 0 ⟨#[]⟩ ⟨#[]⟩ aZ [] = some (⟨[], [], [], 1, [⟨1, aZ⟩]⟩, 0) := a1
  replace a2 : m_conf_Apply_k5 ⟨[], [], [], 1, [⟨1, aZ⟩]⟩ 0 ⟨#[]⟩ ⟨#[]⟩ rootB [] = some (⟨[], [], [], 2, [⟨2, rootB⟩]⟩, 0) := a2
  have g1 : m_conf_Check_k1 3 ⟨#[]⟩ ⟨#[]⟩ ⟨#[]⟩ [] = some 0 := by
    rw [m_conf_Check_k1, if_neg (by decide), m_conf_Check_k1_j1, m_conf_Check_k1_j3, if_pos rfl, show m_conf_node 3 = some true from rfl, Option.bind_some, if_pos rfl, none3]; rfl
  have b1 : m_conf_Bytes_k1 3 ⟨#[]⟩ ⟨#[]⟩ ⟨#[]⟩ [] = some (⟨#[1, 3]⟩, 0) := by
    rw [m_conf_Bytes_k1, g1, Option.bind_some, if_neg (by decide)]
    show m_conf_Bytes_k1_j1 [] ⟨[], []⟩ ⟨#[]⟩ ⟨#[]⟩ ⟨#[]⟩ [1, 3] = _
    rw [m_conf_Bytes_k1_j1]
    erw [loop_inr (show m_conf_Bytes_k1_s3 [] ⟨[], []⟩ [1, 3] 0 = some (.inr [1, 3]) from rfl)]
    rfl
  have g5 := (check5 (z := aZ) (by decide)).1 aZ_nm
  have b5 : m_conf_Bytes_k5 0 ⟨#[]⟩ ⟨#[]⟩ ⟨#[1, 97, 0]⟩ [] = some (⟨#[5, 1, 97, 0]⟩, 0) := by
    rw [m_conf_Bytes_k5]
    erw [g5]
    rw [Option.bind_some, if_neg (by decide)]
    show m_conf_Bytes_k5_j1 [] ⟨[], []⟩ ⟨[5], []⟩ ⟨#[]⟩ ⟨#[]⟩ ⟨#[1, 97, 0]⟩ = _
    rw [m_conf_Bytes_k5_j1]
    erw [loop_inr (show m_conf_Bytes_k5_s3 [] ⟨[], []⟩ [5] 0 = some (.inr [5]) from rfl)]
    rfl
  rw [m_law13_awake, b1, Option.bind_some, b5, Option.bind_some]
  erw [a1]
  rw [Option.bind_some]
  erw [a2]
  rw [Option.bind_some]
  simp only
  rw [if_pos trivial, if_pos trivial, if_pos trivial, if_pos trivial, if_pos trivial, if_pos trivial, if_pos (by decide), if_pos (by decide), floor_code k1 (by decide), Option.bind_some]
  have f1 : flo ⟨#[1, 120, 1, 97, 0]⟩ [⟨1, aZ⟩] = 1 := by
    show (if undP ⟨#[1, 120, 1, 97, 0]⟩ aZ = true then max 0 1 else 0) = 1
    rw [if_pos und_xa]; rfl
  have f2 : flo ⟨#[1, 98, 0]⟩ [⟨1, aZ⟩] = 0 := by
    show (if undP ⟨#[1, 98, 0]⟩ aZ = true then max 0 1 else 0) = 0
    rw [if_neg (by rw [und_b]; decide)]
  rw [f1, if_pos rfl, floor_code k1 (by decide), Option.bind_some, f2]
  rfl
open Go.RowKit
theorem fndI_any {α : Type} (p : α → Bool) (l : List α) : decide (0 ≤ fndI (fndX p l 0)) = l.any p := by
  cases hf : fndX p l 0 with
  | none =>
    have := fndX_none hf
    rw [show fndI (none : Option (Nat × α)) = -1 from rfl, decide_eq_false (by omega)]
    symm
    rw [List.any_eq_false]
    intro x hx; rw [this x hx]; decide
  | some z =>
    obtain ⟨k, x⟩ := z
    obtain ⟨h1, h2, h3, -⟩ := take_fnd hf
    rw [show fndI (some (k, x)) = (k : Int) from rfl, decide_eq_true (by omega)]
    symm
    exact List.any_eq_true.2 ⟨x, List.mem_of_getElem? h3, h2⟩
def empB (s : ByteArray) : Bool := decide (s = ⟨#[]⟩)
theorem none_code {l : List ByteArray} (hl : l.length ≤ 1000) : m_conf_none l = some (l.all empB) := by
  have := idx_loop (fun s => !empB s) (l := l) (by omega) (fun s => m_slices_IndexFunc_76_s2 l s) (fun i => by
    simp only [m_slices_IndexFunc_76_s2, m_conf_none_c1, empB]; rfl) l [] rfl
  have h2 := fndI_any (fun s => !empB s) l
  rw [m_conf_none, m_slices_ContainsFunc_53, m_slices_IndexFunc_76]
  erw [this]
  rw [List.length_nil]
  have e : l.all empB = !(l.any fun s => !empB s) := by rw [List.not_any_eq_all_not]; simp
  rw [e, ← h2]
  cases fndX (fun s => !empB s) l 0 with
  | none => rfl
  | some z => rfl
def hintB (s : ByteArray) : Bool := decide ((s.size : Int) = 4)
theorem hints_code {l : List ByteArray} (hl : l.length ≤ 1000) : m_slices_ContainsFunc_53_2 l = some (!(l.all hintB)) := by
  have := idx_loop (fun s => !hintB s) (l := l) (by omega) (fun s => m_slices_IndexFunc_76_2_s2 l s) (fun i => by
    simp only [m_slices_IndexFunc_76_2_s2, m_conf_Check_c1, m_conf_hint, hintB]; rfl) l [] rfl
  have h2 := fndI_any (fun s => !hintB s) l
  rw [m_slices_ContainsFunc_53_2, m_slices_IndexFunc_76_2]
  erw [this]
  rw [List.length_nil]
  have e : l.all hintB = !(l.any fun s => !hintB s) := by rw [List.not_any_eq_all_not]; simp
  rw [e, ← h2, Bool.not_not]
  cases fndX (fun s => !hintB s) l 0 with
  | none => rfl
  | some z => rfl
noncomputable def nmB (n : ByteArray) : Bool := @decide (isNm n) (Classical.propDecidable _)
theorem nmB_t {n : ByteArray} : nmB n = true ↔ isNm n := @decide_eq_true_iff _ (Classical.propDecidable _)
theorem nmB_code {n : ByteArray} (hn : n.size ≤ 1000000) : m_conf_named n = some (nmB n) := by
  cases h : nmB n with
  | true =>
    obtain ⟨x, x1, x2⟩ := nmB_t.1 h
    rw [m_conf_named, check_nm x1 x2]; rfl
  | false =>
    obtain ⟨e, e1, e2⟩ := check_not (n := n) (fun hh => by rw [nmB_t.2 hh] at h; cases h) (by omega)
    rw [m_conf_named, e1, Option.bind_some, decide_eq_false e2]
theorem rnmB_code {n : ByteArray} (hn : n.size ≤ 1000000) : m_ref13_name n = some (nmB n) := by
  cases h : nmB n with
  | true =>
    obtain ⟨x, x1, x2⟩ := nmB_t.1 h
    rw [m_ref13_name, rcheck_nm x1 x2]; rfl
  | false =>
    have hno : ¬ isNm n := fun hh => by rw [nmB_t.2 hh] at h; cases h
    rw [m_ref13_name]
    rcases nm_cases n with h1 | ⟨ls, h1, h2⟩ | h1
    · exact absurd h1 hno
    · rw [rcheck_big h1 h2 (by omega)]; rfl
    · rw [rcheck_no h1 (by omega)]; rfl
def nodeB (n : Int) : Bool := decide (0 ≤ n ∧ n ≤ 63)
/-- An order may be. -/
noncomputable def okB (o : GOrder) : Bool :=
  if o.fKind = 1 ∨ o.fKind = 2 then nodeB o.fNode && empB o.fName && empB o.fText && empB o.fZone && decide ((o.fHints.length : Int) = 0)
  else if o.fKind = 3 then decide (o.fNode = 0) && empB o.fName && empB o.fText && empB o.fZone && decide (0 < (o.fHints.length : Int)) && decide ((o.fHints.length : Int) ≤ 13) && o.fHints.all hintB
  else if o.fKind = 4 then decide (o.fNode = 0) && nmB o.fName && decide ((o.fText.size : Int) ≤ 200) && empB o.fZone && decide ((o.fHints.length : Int) = 0)
  else if o.fKind = 5 then decide (o.fNode = 0) && nmB o.fZone && empB o.fName && empB o.fText && decide ((o.fHints.length : Int) = 0)
  else false
noncomputable def chkO (o : GOrder) : Int := if okB o = true then 0 else 1
structure smO (o : GOrder) : Prop where
  a : o.fName.size ≤ 1000
  t : o.fText.size ≤ 1000
  z : o.fZone.size ≤ 1000
  h : o.fHints.length ≤ 1000
  e : ∀ x ∈ o.fHints, x.size ≤ 1000
theorem node_code (n : Int) : m_conf_node n = some (nodeB n) := by
  rw [m_conf_node, nodeB]
  by_cases h : 0 ≤ n
  · rw [if_pos h]; exact congrArg some (decide_eq_decide.2 (by omega))
  · rw [if_neg h, decide_eq_false (by omega)]
theorem rnode_code (n : Int) : m_ref13_node n = some (nodeB n) := by
  rw [m_ref13_node, nodeB]
  by_cases h : 0 ≤ n
  · rw [if_pos h]; exact congrArg some (decide_eq_decide.2 (by omega))
  · rw [if_neg h, decide_eq_false (by omega)]
theorem j2_code (b : Bool) : m_conf_Check_3_j2 b = some (if b = true then 0 else 1) := by rw [m_conf_Check_3_j2]; split <;> rfl
theorem rj2_code (b : Bool) : m_ref13_Check_j2 b = some (if b = true then 0 else 1) := by rw [m_ref13_Check_j2]; split <;> rfl
theorem check_code {k n : Int} {a t z : ByteArray} {h : List ByteArray} (ho : smO ⟨k, n, a, t, z, h⟩) : m_conf_Check_3 k n a t z h = some (chkO ⟨k, n, a, t, z, h⟩) := by
  have ha := ho.a; have ht := ho.t; have hz := ho.z; have hh := ho.h
  simp only at ha ht hz hh
  have e1 : m_conf_Check_3 k n a t z h = m_conf_Check_3_j1 k n a t z h (decide (n = 0) && decide ((h.length : Int) = 0)) := by
    rw [m_conf_Check_3]
    by_cases h0 : n = 0
    · rw [if_pos h0, decide_eq_true h0, Bool.true_and]
    · rw [if_neg h0, decide_eq_false h0, Bool.false_and]
  have n3 := none_code (l := [a, t, z]) (by simp)
  have n2 := none_code (l := [a, t]) (by simp)
  have n1 := none_code (l := [z]) (by simp)
  have hb := hints_code hh
  have na := nmB_code (n := a) (by omega)
  have nz := nmB_code (n := z) (by omega)
  rw [e1, m_conf_Check_3_j1]
  unfold chkO okB
  simp only [m_conf_Check_3_j3, n3, n2, n1, hb, na, nz, node_code, Option.bind_some, j2_code, List.all_cons, List.all_nil, Bool.and_true, Bool.not_not]
  generalize nodeB n = B1
  generalize empB a = B2
  generalize empB t = B3
  generalize empB z = B4
  generalize nmB a = B5
  generalize nmB z = B6
  generalize h.all hintB = B7
  clear hb n1 n2 n3 na nz e1 hh ht ha hz
  generalize (h.length : Int) = L
  generalize (t.size : Int) = S
  by_cases k1 : k = 1
  · subst k1
    cases B1 <;> cases B2 <;> cases B3 <;> cases B4 <;> simp
  by_cases k2 : k = 2
  · subst k2
    cases B1 <;> cases B2 <;> cases B3 <;> cases B4 <;> simp
  rw [if_neg k1, decide_eq_false k2, if_neg (show ¬ (k = 1 ∨ k = 2) by omega)]
  by_cases k3 : k = 3
  · subst k3
    by_cases h0 : n = 0 <;> by_cases g1 : 0 < L <;> by_cases g2 : L ≤ 13 <;> cases B7 <;> cases B2 <;> cases B3 <;> cases B4 <;> simp [h0, g1, g2]
  by_cases k4 : k = 4
  · subst k4
    by_cases h0 : n = 0 <;> by_cases g1 : L = 0 <;> by_cases g2 : S ≤ 200 <;> cases B5 <;> cases B4 <;> simp [h0, g1, g2]
  by_cases k5 : k = 5
  · subst k5
    by_cases h0 : n = 0 <;> by_cases g1 : L = 0 <;> cases B6 <;> cases B2 <;> cases B3 <;> simp [h0, g1]
  simp [k3, k4, k5]
theorem rcheck_o {o : GOrder} (ho : smO o) : m_ref13_Check o = some (chkO o) := by
  obtain ⟨k, n, a, t, z, h⟩ := o
  have ha := ho.a; have ht := ho.t; have hz := ho.z; have hh := ho.h
  simp only at ha ht hz hh
  have e1 : m_ref13_Check ⟨k, n, a, t, z, h⟩ = m_ref13_Check_j1 ⟨k, n, a, t, z, h⟩ (nodeB n) (empB a && empB t) := by
    rw [m_ref13_Check, rnode_code, Option.bind_some]
    by_cases h0 : a = ⟨#[]⟩
    · rw [if_pos h0, show empB a = true from decide_eq_true h0, Bool.true_and]; rfl
    · rw [if_neg h0, show empB a = false from decide_eq_false h0, Bool.false_and]
  have na := rnmB_code (n := a) (by omega)
  have nz := rnmB_code (n := z) (by omega)
  have j4 : ∀ b, m_ref13_Check_j4 ⟨k, n, a, t, z, h⟩ b = some (if (b && (h.take 13).all hintB) = true then 0 else 1) := by
    intro b
    have hr := loop_run (step := fun s : Bool × Int => m_ref13_Check_s5 ⟨k, n, a, t, z, h⟩ s.1 s.2) (min h.length 13) (fun j => (b && (h.take j).all hintB, (j : Int))) (b && (h.take 13).all hintB) (s0 := (b, 0)) (by simp)
      (fun j hj => by
        have hjl : j < h.length := by omega
        have htk : h.take (j + 1) = h.take j ++ [h[j]] := by rw [List.take_succ_eq_append_getElem hjl]
        simp only [m_ref13_Check_s5]
        rw [if_pos (by omega), if_pos (by omega), htk, List.all_append, List.all_cons, List.all_nil, Bool.and_true, w64_id (by omega) (by omega)]
        cases hb : (b && (h.take j).all hintB) with
        | true => rw [if_pos rfl, at_nat hjl, Option.bind_some, ← Bool.and_assoc, hb]; rfl
        | false => rw [if_neg (by decide), ← Bool.and_assoc, hb]; rfl)
      (by
        simp only [m_ref13_Check_s5]
        by_cases hc : ((min h.length 13 : Nat) : Int) < (h.length : Int)
        · rw [if_pos hc, if_neg (by omega), show min h.length 13 = 13 by omega]
        · rw [if_neg hc, show min h.length 13 = h.length by omega, List.take_of_length_le (Nat.le_refl _), List.take_of_length_le (by omega)])
    rw [m_ref13_Check_j4]
    erw [hr]
    rw [Option.bind_some, rj2_code]
  have h13 : (h.length : Int) ≤ 13 → h.take 13 = h := fun hle => List.take_of_length_le (by omega)
  rw [e1, m_ref13_Check_j1, na, Option.bind_some, nz, Option.bind_some]
  unfold chkO okB
  have hz0 : (z = (⟨#[]⟩ : ByteArray)) ↔ empB z = true := decide_eq_true_iff.symm
  simp only [m_ref13_Check_j3, rj2_code, j4, hz0]
  have h13' : (h.length : Int) ≤ 13 → (h.take 13).all hintB = h.all hintB := fun hle => by rw [h13 hle]
  generalize (h.take 13).all hintB = B8 at *
  generalize nodeB n = B1
  generalize empB a = B2
  generalize empB t = B3
  generalize empB z = B4
  generalize nmB a = B5
  generalize nmB z = B6
  generalize h.all hintB = B7 at *
  clear na nz e1 hh ht ha hz hz0 h13 j4
  generalize (h.length : Int) = L at *
  generalize (t.size : Int) = S
  by_cases k1 : k = 1
  · subst k1
    cases B1 <;> cases B2 <;> cases B3 <;> cases B4 <;> simp
  by_cases k2 : k = 2
  · subst k2
    cases B1 <;> cases B2 <;> cases B3 <;> cases B4 <;> simp
  rw [if_neg k1, decide_eq_false k2, if_neg (show ¬ (k = 1 ∨ k = 2) by omega)]
  by_cases k3 : k = 3
  · subst k3
    by_cases g2 : L ≤ 13
    · have hb := h13' g2
      subst hb
      by_cases h0 : n = 0 <;> by_cases g1 : 0 < L <;> cases B8 <;> cases B2 <;> cases B3 <;> cases B4 <;> simp [h0, g1, g2]
    · by_cases h0 : n = 0 <;> by_cases g1 : 0 < L <;> cases B8 <;> cases B7 <;> cases B2 <;> cases B3 <;> cases B4 <;> simp [h0, g1, g2]
  by_cases k4 : k = 4
  · subst k4
    by_cases h0 : n = 0 <;> by_cases g1 : L = 0 <;> by_cases g2 : S ≤ 200 <;> cases B5 <;> cases B4 <;> simp [h0, g1, g2]
  by_cases k5 : k = 5
  · subst k5
    by_cases h0 : n = 0 <;> by_cases g1 : L = 0 <;> cases B6 <;> cases B2 <;> cases B3 <;> simp [h0, g1]
  simp [k3, k4, k5]
open Go.RowKit
theorem str_app (a b : List Int) : strOfNums (a ++ b) = strOfNums a ++ strOfNums b := by
  unfold strOfNums
  apply ByteArray.ext
  simp [ByteArray.data_append]
theorem str_by (s : ByteArray) : strOfNums (bytesI s) = s := bytesI_inj (bytesI_str (bytesI_range s))
def headO (o : GOrder) : List Int := if o.fKind = 1 ∨ o.fKind = 2 then [o.fKind % 256, o.fNode % 256] else [o.fKind % 256]
def bytesL (o : GOrder) : List Int := headO o ++ o.fHints.flatMap bytesI ++ (bytesI o.fName ++ bytesI o.fText ++ bytesI o.fZone)
def bytesO (o : GOrder) : ByteArray := strOfNums (bytesL o)
theorem fm_size {l : List ByteArray} (h : ∀ x ∈ l, x.size ≤ 1000) : (l.flatMap bytesI).length ≤ l.length * 1000 := by
  induction l with
  | nil => simp
  | cons x r ih =>
    have h1 := ih fun y hy => h y (List.mem_cons_of_mem _ hy)
    have h2 := h x List.mem_cons_self
    have h3 := size_bytes x
    rw [List.flatMap_cons, List.length_append, List.length_cons]
    omega
theorem raw_loop {pl : List (ByteArray × Int)} {h : List ByteArray} (hl : h.length ≤ 1000) (he : ∀ x ∈ h, x.size ≤ 1000) {l0 : List Int} (h0 : l0.length ≤ 10) :
    loop (fun s : List Int × Int => m_conf_Bytes_3_s3 h ⟨[], pl⟩ s.1 s.2) (l0, 0) = some (l0 ++ h.flatMap bytesI) := by
  refine loop_run (step := fun s : List Int × Int => m_conf_Bytes_3_s3 h ⟨[], pl⟩ s.1 s.2) h.length (fun j => (l0 ++ (h.take j).flatMap bytesI, (j : Int))) _ (by simp) (fun j hj => ?_) ?_
  · have htk : h.take (j + 1) = h.take j ++ [h[j]] := by rw [List.take_succ_eq_append_getElem hj]
    have hs := fm_size (l := h.take j) fun x hx => he x (List.mem_of_mem_take hx)
    have hx := he h[j] (List.getElem_mem hj)
    have hxl := size_bytes h[j]
    have htl : (h.take j).length ≤ 1000 := by rw [List.length_take]; omega
    simp only [m_conf_Bytes_3_s3]
    rw [if_pos (by omega), at_nat hj, Option.bind_some, m_pack_Packer_Raw, m_pack_Packer_put, app_of (by simp only [List.length_append]; omega), Option.bind_some, Option.bind_some, Option.bind_some, w64_id (by omega) (by omega), htk, List.flatMap_append, List.flatMap_cons, List.flatMap_nil, List.append_nil]
    simp only [List.append_assoc]; rfl
  · simp only [m_conf_Bytes_3_s3]
    rw [if_neg (by omega), List.take_of_length_le (Nat.le_refl _)]
theorem bj1 {a t z : ByteArray} {h : List ByteArray} {k n : Int} (ho : smO ⟨k, n, a, t, z, h⟩) {l0 : List Int} (h0 : l0.length ≤ 10) : m_conf_Bytes_3_j1 h ⟨[], []⟩ a t z l0 = some (strOfNums (l0 ++ h.flatMap bytesI ++ (bytesI a ++ bytesI t ++ bytesI z)), 0) := by
  have ha := ho.a; have ht := ho.t; have hz := ho.z; have hh := ho.h
  simp only at ha ht hz hh
  have hf := fm_size ho.e
  simp only at hf
  have e1 := size_bytes a; have e2 := size_bytes t; have e3 := size_bytes z
  rw [m_conf_Bytes_3_j1]
  erw [raw_loop hh ho.e h0]
  rw [Option.bind_some, m_conf_Bytes_3_j2, sadd_of (by omega), Option.bind_some, sadd_of (by rw [ByteArray.size_append]; omega), Option.bind_some, m_pack_Packer_Raw, m_pack_Packer_put, bytesI_append, bytesI_append, app_of (by simp only [List.length_append]; omega)]
  rfl
theorem wu8 (x : Int) : IntKind.u8.wrap x = x % 256 := by simp [IntKind.wrap, IntKind.bits, IntKind.signed]
noncomputable def resB (o : GOrder) : ByteArray × Int := if okB o = true then (bytesO o, 0) else (⟨#[]⟩, 1)
theorem bytes_code {k n : Int} {a t z : ByteArray} {h : List ByteArray} (ho : smO ⟨k, n, a, t, z, h⟩) : m_conf_Bytes_3 k n a t z h = some (resB ⟨k, n, a, t, z, h⟩) := by
  rw [m_conf_Bytes_3, check_code ho, Option.bind_some, chkO, resB]
  by_cases hok : okB ⟨k, n, a, t, z, h⟩ = true
  · rw [if_pos hok, if_pos hok, if_neg (by decide), show m_pack_New = some ⟨[], []⟩ from rfl, Option.bind_some, wu8, wu8, show m_pack_Packer_Byte (k % 256) ⟨[], []⟩ = some ⟨[k % 256], []⟩ from rfl, Option.bind_some]
    simp only
    rw [show m_pack_Packer_Byte (n % 256) ⟨[k % 256], []⟩ = some ⟨[k % 256, n % 256], []⟩ from rfl, Option.bind_some]
    unfold bytesO bytesL headO
    simp only
    by_cases k1 : k = 1
    · rw [if_pos k1, if_pos (Or.inl k1)]; exact bj1 ho (by simp)
    · rw [if_neg k1]
      by_cases k2 : k = 2
      · rw [if_pos k2, if_pos (Or.inr k2)]; exact bj1 ho (by simp)
      · rw [if_neg k2, if_neg (by omega)]; exact bj1 ho (by simp)
  · rw [if_neg hok, if_neg hok, if_pos (by decide)]
theorem emp_t {s : ByteArray} : empB s = true ↔ s = ⟨#[]⟩ := decide_eq_true_iff
theorem b0 : bytesI ⟨#[]⟩ = [] := rfl
theorem rbytes_code {o : GOrder} (ho : smO o) : m_ref13_Bytes o = some (resB o) := by
  rw [m_ref13_Bytes, rcheck_o ho, Option.bind_some, chkO, resB]
  by_cases hok : okB o = true
  · rw [if_pos hok, if_pos hok, if_neg (by decide)]
    obtain ⟨k, n, a, t, z, h⟩ := o
    have ha := ho.a; have ht := ho.t; have hz := ho.z; have hh := ho.h
    have hf := fm_size ho.e
    simp only at ha ht hz hh hf
    have hk : (if k = 1 then m_ref13_Bytes_j1 ⟨k, n, a, t, z, h⟩ (decide (k = 1)) else m_ref13_Bytes_j1 ⟨k, n, a, t, z, h⟩ (decide (k = 2))) = m_ref13_Bytes_j1 ⟨k, n, a, t, z, h⟩ (decide (k = 1 ∨ k = 2)) := by
      by_cases k1 : k = 1
      · rw [if_pos k1, decide_eq_true k1, decide_eq_true (Or.inl k1)]
      · rw [if_neg k1]; congr 1; exact decide_eq_decide.2 (by omega)
    simp only
    rw [hk, m_ref13_Bytes_j1]
    simp only [wu8]
    unfold okB at hok
    simp only at hok
    unfold bytesO bytesL headO
    simp only
    have s1 : ∀ c : Int, (strOfNums [c]).size = 1 := fun c => rfl
    by_cases k12 : k = 1 ∨ k = 2
    · rw [if_pos k12] at hok
      simp only [Bool.and_eq_true, decide_eq_true_eq, emp_t] at hok
      obtain ⟨⟨⟨⟨-, rfl⟩, rfl⟩, rfl⟩, h5⟩ := hok
      have h0 : h = [] := List.length_eq_zero_iff.1 (by omega)
      subst h0
      rw [if_pos (decide_eq_true k12), if_pos k12, sadd_of (by rw [s1, s1]; omega), Option.bind_some, ← str_app]
      rfl
    · rw [if_neg k12] at hok
      rw [if_neg (by simpa using k12), if_neg k12]
      by_cases k3 : k = 3
      · rw [if_pos k3] at hok
        simp only [Bool.and_eq_true, decide_eq_true_eq, emp_t] at hok
        obtain ⟨⟨⟨⟨⟨⟨-, rfl⟩, rfl⟩, rfl⟩, -⟩, -⟩, -⟩ := hok
        have hr := loop_run (step := fun s : ByteArray × Int => m_ref13_Bytes_s3 ⟨k, n, ⟨#[]⟩, ⟨#[]⟩, ⟨#[]⟩, h⟩ s.1 s.2) h.length (fun j => (strOfNums ([k % 256] ++ (h.take j).flatMap bytesI), (j : Int))) (strOfNums ([k % 256] ++ h.flatMap bytesI)) (s0 := (strOfNums [k % 256], 0)) (by simp)
          (fun j hj => by
            have htk : h.take (j + 1) = h.take j ++ [h[j]] := by rw [List.take_succ_eq_append_getElem hj]
            have hs := fm_size (l := h.take j) fun x hx => ho.e x (List.mem_of_mem_take hx)
            have hx := ho.e h[j] (List.getElem_mem hj)
            have htl : (h.take j).length ≤ 1000 := by rw [List.length_take]; omega
            have hsz : (strOfNums ([k % 256] ++ (h.take j).flatMap bytesI)).size = 1 + ((h.take j).flatMap bytesI).length := by simp [strOfNums, ByteArray.size]; omega
            simp only [m_ref13_Bytes_s3]
            rw [if_pos (by omega), at_nat hj, Option.bind_some, sadd_of (by rw [hsz]; omega), Option.bind_some, w64_id (by omega) (by omega), htk, List.flatMap_append, List.flatMap_cons, List.flatMap_nil, List.append_nil, ← List.append_assoc, str_app ([k % 256] ++ (h.take j).flatMap bytesI), str_by]
            rfl)
          (by simp only [m_ref13_Bytes_s3]; rw [if_neg (by omega), List.take_of_length_le (Nat.le_refl _)])
        rw [if_pos k3]
        erw [hr]
        rw [Option.bind_some, m_ref13_Bytes_j2]
        simp only [b0, List.append_nil]
      · rw [if_neg k3] at hok ⊢
        by_cases k4 : k = 4
        · rw [if_pos k4] at hok ⊢
          simp only [Bool.and_eq_true, decide_eq_true_eq, emp_t] at hok
          obtain ⟨⟨⟨⟨-, -⟩, -⟩, rfl⟩, h5⟩ := hok
          have h0 : h = [] := List.length_eq_zero_iff.1 (by omega)
          subst h0
          rw [sadd_of (by rw [s1]; omega), Option.bind_some, sadd_of (by rw [ByteArray.size_append, s1]; omega), Option.bind_some]
          simp only [b0, List.append_nil, List.flatMap_nil]
          rw [← List.append_assoc, str_app, str_app, str_by, str_by]
        · rw [if_neg k4] at hok ⊢
          by_cases k5 : k = 5
          · rw [if_pos k5] at hok
            simp only [Bool.and_eq_true, decide_eq_true_eq, emp_t] at hok
            obtain ⟨⟨⟨⟨-, -⟩, rfl⟩, rfl⟩, h5⟩ := hok
            have h0 : h = [] := List.length_eq_zero_iff.1 (by omega)
            subst h0
            rw [sadd_of (by rw [s1]; omega), Option.bind_some]
            simp only [b0, List.append_nil, List.nil_append, List.flatMap_nil]
            rw [str_app, str_by]
          · rw [if_neg k5] at hok; cases hok
  · rw [if_neg hok, if_neg hok, if_pos (by decide)]
open Go.RowKit
theorem ext_all (s : ByteArray) : s.extract 0 s.size = s := bytesI_inj (by rw [bytesI_extract, List.drop_zero, size_bytes, List.take_of_length_le (Nat.le_refl _)])
def takeR (n : Nat) (o : Gconf_reader) : ByteArray × Gconf_reader := if n ≤ o.fs.size then (o.fs.extract 0 n, ⟨o.fs.extract n o.fs.size, o.fbad⟩) else (⟨#[]⟩, ⟨o.fs, true⟩)
theorem take_code' {o : Gconf_reader} (ho : o.fs.size ≤ 100000) {n : Nat} (hn : n ≤ 100000) : m_conf_reader_take (n : Int) o = some (takeR n o) := by
  obtain ⟨fs, bad⟩ := o
  simp only at ho
  rw [m_conf_reader_take]
  simp only
  rw [m_pack_Raw, if_neg (by omega), if_neg (by omega), if_neg (by omega), w64_id (by omega) (by omega), takeR]
  simp only
  by_cases h : n ≤ fs.size
  · rw [if_neg (by omega), if_pos h, w64_id (by omega) (by omega), scutMid, if_pos ⟨by omega, by omega, by omega⟩, Option.bind_some, Option.bind_some]
    have hlo : scutLo fs (0 + (n : Int)) = some (fs.extract n fs.size) := by
      rw [scutLo, if_pos ⟨by omega, by omega⟩]; congr 2; omega
    have hn0 : (0 + (n : Int)).toNat = n := by omega
    cases bad with
    | true => rw [if_pos rfl, m_conf_reader_take_j1]; simp only; rw [hlo, hn0]; rfl
    | false => rw [if_neg (show ¬ (false = true) by decide), m_conf_reader_take_j1]; simp only; rw [hlo, hn0]; rfl
  · rw [if_pos (by omega), if_neg h, Option.bind_some]
    have hlo : scutLo fs 0 = some fs := by
      rw [scutLo, if_pos ⟨by omega, by omega⟩]; exact congrArg some (ext_all fs)
    cases bad with
    | true => rw [if_pos rfl, m_conf_reader_take_j1]; simp only; rw [hlo]; rfl
    | false => rw [if_neg (show ¬ (false = true) by decide), m_conf_reader_take_j1]; simp only; rw [hlo]; rfl
theorem or_byte : ∀ b : Fin 256, orI .u64 (IntKind.u64.wrap (0 * 256)) (IntKind.u64.wrap (b.val : Int)) = (b.val : Int) := by decide +kernel
def numR (o : Gconf_reader) : Int × Gconf_reader := if 1 ≤ o.fs.size then (byteAt o.fs 0, ⟨o.fs.extract 1 o.fs.size, o.fbad⟩) else (0, ⟨o.fs, true⟩)
theorem num_code {o : Gconf_reader} (ho : o.fs.size ≤ 100000) : m_conf_reader_number 1 o = some (numR o) := by
  obtain ⟨fs, bad⟩ := o
  simp only at ho
  have ht := take_code' (o := ⟨fs, bad⟩) ho (n := 1) (by omega)
  rw [m_conf_reader_number]
  erw [ht]
  rw [Option.bind_some, takeR, numR]
  simp only
  by_cases h : 1 ≤ fs.size
  · rw [if_pos h, if_pos h]
    simp only
    have hb := byteAt_lt fs 0
    have hbi : bytesI (fs.extract 0 1) = [byteAt fs 0] := by
      rw [bytesI_extract, List.drop_zero]
      have hl : 0 < (bytesI fs).length := by rw [← size_bytes]; omega
      have := bytesI_get fs 0 (by omega)
      rw [List.take_one, List.head?_eq_getElem?, List.getElem?_eq_getElem hl, this]; rfl
    obtain ⟨b, hbb⟩ : ∃ b : Fin 256, byteAt fs 0 = (b.val : Int) := ⟨⟨(byteAt fs 0).toNat, by omega⟩, by simp only; omega⟩
    have e1 : m_conf_reader_number_s3 (fs.extract 0 1) 0 0 = some (.inl (byteAt fs 0, 1)) := by
      rw [m_conf_reader_number_s3, hbi, if_pos (by simp), at_of (by omega) (by simp)]
      simp only [Option.bind_some]
      rw [show ([byteAt fs 0] : List Int)[(0 : Int).toNat]'(by simp) = byteAt fs 0 from rfl, hbb, or_byte]
      rfl
    have e2 : m_conf_reader_number_s3 (fs.extract 0 1) (byteAt fs 0) 1 = some (.inr (byteAt fs 0)) := by
      rw [m_conf_reader_number_s3, hbi, if_neg (by simp)]
    erw [loop_inl e1, loop_inr e2]
    rw [Option.bind_some, m_conf_reader_number_j1]
    have hm : w64 (min (byteAt fs 0) 4611686018427387904) = byteAt fs 0 := by rw [show min (byteAt fs 0) 4611686018427387904 = byteAt fs 0 by omega, w64_id (by omega) (by omega)]
    cases bad with
    | true => rw [if_pos rfl, m_conf_reader_number_j2, hm]
    | false => rw [if_neg (show ¬ (false = true) by decide), m_conf_reader_number_j2, hm, decide_eq_false (by omega)]
  · rw [if_neg h, if_neg h]
    simp only
    have e1 : m_conf_reader_number_s3 ⟨#[]⟩ 0 0 = some (.inr 0) := by
      rw [m_conf_reader_number_s3, show bytesI ⟨#[]⟩ = [] from rfl, if_neg (by decide)]
    erw [loop_inr e1]
    rw [Option.bind_some, m_conf_reader_number_j1, if_pos rfl, m_conf_reader_number_j2]
    rfl
def zeroO : GOrder := ⟨0, 0, ⟨#[]⟩, ⟨#[]⟩, ⟨#[]⟩, []⟩
/-- What a reading of bytes is to be. -/
def readsAs (s : ByteArray) (r : GOrder × Int) : Prop := (r.2 = 0 ∧ okB r.1 = true ∧ bytesO r.1 = s) ∨ r = (zeroO, 10)
theorem rj1_code {k n : Int} {a t z rest : ByteArray} {h : List ByteArray} {b : Bool} (ho : smO ⟨k, n, a, t, z, h⟩) : m_conf_Read_j1 k h n a t z rest b = some (if b = false ∧ rest = ⟨#[]⟩ ∧ okB ⟨k, n, a, t, z, h⟩ = true then (⟨k, n, a, t, z, h⟩, 0) else (zeroO, 10)) := by
  rw [m_conf_Read_j1]
  cases b with
  | true => rw [if_pos rfl, if_neg (by simp)]; rfl
  | false =>
    rw [if_neg (by decide)]
    by_cases hr : rest = ⟨#[]⟩
    · rw [if_pos hr, check_code ho, Option.bind_some, chkO]
      by_cases hok : okB ⟨k, n, a, t, z, h⟩ = true
      · rw [if_pos hok, if_neg (by decide), if_pos ⟨rfl, hr, hok⟩]
      · rw [if_neg hok, if_pos (by decide), if_neg (fun g => hok g.2.2)]; rfl
    · rw [if_neg hr, if_neg (fun g => hr g.2.1)]; rfl
theorem read_k {s : ByteArray} (hs : s.size ≤ 2000) (h1 : 1 ≤ s.size) : m_conf_Read s = m_conf_Read_j2 ⟨s.extract 1 s.size, false⟩ (byteAt s 0) (decide (byteAt s 0 = 1 ∨ byteAt s 0 = 2)) := by
  rw [m_conf_Read, num_code (o := ⟨s, false⟩) (by simp only; omega), Option.bind_some, numR]
  simp only
  rw [if_pos h1]
  simp only
  by_cases k1 : byteAt s 0 = 1
  · rw [if_pos k1, decide_eq_true k1, decide_eq_true (Or.inl k1)]
  · rw [if_neg k1]; congr 1; exact decide_eq_decide.2 (by omega)
theorem read_0 {s : ByteArray} (h1 : s.size = 0) : m_conf_Read s = some (zeroO, 10) := by
  rw [m_conf_Read, num_code (o := ⟨s, false⟩) (by simp only; omega), Option.bind_some, numR]
  simp only
  rw [if_neg (show ¬ 1 ≤ s.size by omega)]
  simp only
  rw [if_neg (by decide), m_conf_Read_j2, if_neg (by simp), if_neg (by decide), if_neg (by decide), if_neg (by decide), m_conf_Read_j1, if_pos rfl]
  rfl
open Go.RowKit
theorem cons_by {s : ByteArray} (h : 1 ≤ s.size) : bytesI s = byteAt s 0 :: bytesI (s.extract 1 s.size) := by
  have hl : 0 < (bytesI s).length := by rw [← size_bytes]; omega
  rw [bytesI_extract, size_bytes, List.take_of_length_le (Nat.le_refl _)]
  have := bytesI_get s 0 (by omega)
  conv => lhs; rw [← List.drop_zero (l := bytesI s), List.drop_eq_getElem_cons hl, this]
  rfl
theorem nil_by {s : ByteArray} (h : s.size = 0) : bytesI s = [] := List.length_eq_zero_iff.1 (by rw [← size_bytes]; exact h)
theorem eq_str {s : ByteArray} {l : List Int} (h : bytesI s = l) : strOfNums l = s := by rw [← h, str_by]
theorem emp_size {s : ByteArray} (h : s.size = 0) : s = ⟨#[]⟩ := bytesI_inj (nil_by h)
theorem smO_of {k n : Int} {a t z : ByteArray} (ha : a.size ≤ 1000) (ht : t.size ≤ 1000) (hz : z.size ≤ 1000) : smO ⟨k, n, a, t, z, []⟩ := ⟨ha, ht, hz, by simp, (fun _ h => by cases h)⟩
theorem e0 : (⟨#[]⟩ : ByteArray).size = 0 := rfl
theorem rest_size {s : ByteArray} (h : 1 ≤ s.size) : (s.extract 1 s.size).size + 1 = s.size := by rw [ByteArray.size_extract]; omega
theorem ext_end (s : ByteArray) : s.extract s.size s.size = ⟨#[]⟩ := emp_size (by rw [ByteArray.size_extract]; omega)
/-- Kinds 1 and 2. -/
theorem sound12 {s : ByteArray} (hs : s.size ≤ 900) (h1 : 1 ≤ s.size) (hk : byteAt s 0 = 1 ∨ byteAt s 0 = 2) : ∃ r, m_conf_Read s = some r ∧ readsAs s r := by
  have hr := rest_size h1
  have hc := cons_by h1
  rw [read_k (by omega) h1, m_conf_Read_j2, if_pos (decide_eq_true hk), num_code (by simp only; omega), Option.bind_some, numR]
  generalize s.extract 1 s.size = rest at *
  simp only
  by_cases h2 : 1 ≤ rest.size
  · have hc2 := cons_by h2
    rw [if_pos h2]
    simp only
    rw [rj1_code (smO_of (by decide) (by decide) (by decide))]
    refine ⟨_, rfl, ?_⟩
    split
    · rename_i g
      left
      refine ⟨rfl, g.2.2, ?_⟩
      have b1 := byteAt_lt s 0
      have b2 := byteAt_lt rest 0
      refine eq_str ?_
      rw [hc, hc2, g.2.1, bytesL, headO, if_pos hk]
      simp only [List.flatMap_nil, List.append_nil, b0]
      rw [Int.emod_eq_of_lt (by omega) (by omega), Int.emod_eq_of_lt (by omega) (by omega)]
    · exact Or.inr rfl
  · rw [if_neg h2]
    simp only
    rw [rj1_code (smO_of (by decide) (by decide) (by decide)), if_neg (by simp)]
    exact ⟨_, rfl, Or.inr rfl⟩
theorem sound5 {s : ByteArray} (hs : s.size ≤ 900) (h1 : 1 ≤ s.size) (hk : byteAt s 0 = 5) : ∃ r, m_conf_Read s = some r ∧ readsAs s r := by
  have hr := rest_size h1
  have hc := cons_by h1
  rw [read_k (by omega) h1, m_conf_Read_j2, if_neg (by rw [hk]; decide), hk, if_neg (by decide), if_neg (by decide), if_pos rfl]
  generalize s.extract 1 s.size = rest at *
  simp only
  rw [take_code' (o := ⟨rest, false⟩) (by simp only; omega) (by omega), Option.bind_some, takeR]
  simp only
  rw [if_pos (Nat.le_refl _)]
  simp only
  rw [ext_all, ext_end, rj1_code (smO_of (by decide) (by decide) (by omega))]
  refine ⟨_, rfl, ?_⟩
  split
  · rename_i g
    left
    refine ⟨rfl, g.2.2, eq_str ?_⟩
    rw [hc, hk, bytesL, headO, if_neg (by simp)]
    simp only [List.flatMap_nil, List.append_nil, b0, List.nil_append]
    rfl
  · exact Or.inr rfl
theorem soundX {s : ByteArray} (hs : s.size ≤ 900) (h1 : 1 ≤ s.size) (hk : byteAt s 0 ≠ 1 ∧ byteAt s 0 ≠ 2 ∧ byteAt s 0 ≠ 3 ∧ byteAt s 0 ≠ 4 ∧ byteAt s 0 ≠ 5) : m_conf_Read s = some (zeroO, 10) := by
  obtain ⟨k1, k2, k3, k4, k5⟩ := hk
  have hr := rest_size h1
  rw [read_k (by omega) h1, m_conf_Read_j2, if_neg (by simp [k1, k2]), if_neg k3, if_neg k4, if_neg k5]
  simp only
  rw [rj1_code (smO_of (by decide) (by decide) (by decide)), if_neg]
  rintro ⟨-, -, hok⟩
  unfold okB at hok
  simp only at hok
  rw [if_neg (by omega), if_neg k3, if_neg k4, if_neg k5] at hok
  cases hok
/-- What an order's bytes are, part by part. -/
theorem bytes_parts {o : GOrder} {s : ByteArray} (hb : bytesO o = s) : bytesI s = bytesL o ∧ 1 ≤ s.size := by
  have hr : ∀ x ∈ bytesL o, 0 ≤ x ∧ x ≤ 255 := by
    intro x hx
    unfold bytesL at hx
    simp only [List.mem_append, List.mem_flatMap] at hx
    rcases hx with (hx | ⟨y, -, hx⟩) | ((hx | hx) | hx)
    · unfold headO at hx
      split at hx <;> simp only [List.mem_cons, List.not_mem_nil, or_false] at hx <;> omega
    · exact bytesI_range _ _ hx
    · exact bytesI_range _ _ hx
    · exact bytesI_range _ _ hx
    · exact bytesI_range _ _ hx
  have h := bytesI_str hr
  have hh : bytesI s = bytesL o := by rw [← hb]; exact h
  refine ⟨hh, ?_⟩
  rw [size_bytes, hh, bytesL, headO]
  split <;> simp
theorem full12 {o : GOrder} {s : ByteArray} (hs : s.size ≤ 900) (hok : okB o = true) (hk : o.fKind = 1 ∨ o.fKind = 2) (hb : bytesO o = s) : m_conf_Read s = some (o, 0) := by
  obtain ⟨h, h1⟩ := bytes_parts hb
  have hr := rest_size h1
  have hc := cons_by h1
  have hok' := hok
  obtain ⟨k, n, a, t, z, hh⟩ := o
  unfold okB at hok'
  simp only at hok' hk
  rw [if_pos hk] at hok'
  simp only [Bool.and_eq_true, decide_eq_true_eq, emp_t] at hok'
  obtain ⟨⟨⟨⟨hn, rfl⟩, rfl⟩, rfl⟩, h5⟩ := hok'
  have h0 : hh = [] := List.length_eq_zero_iff.1 (by omega)
  subst h0
  unfold nodeB at hn
  rw [decide_eq_true_eq] at hn
  rw [bytesL, headO, if_pos hk] at h
  simp only [List.flatMap_nil, List.append_nil, b0] at h
  rw [Int.emod_eq_of_lt (by omega) (by omega), Int.emod_eq_of_lt (by omega) (by omega), hc] at h
  injection h with e1 e2
  rw [read_k (by omega) h1, m_conf_Read_j2, e1, if_pos (decide_eq_true hk), num_code (by simp only; omega), Option.bind_some, numR]
  generalize s.extract 1 s.size = rest at *
  simp only
  have hrs : rest.size = 1 := by rw [size_bytes, e2]; rfl
  have hc2 := cons_by (s := rest) (by omega)
  rw [e2] at hc2
  injection hc2 with e3 e4
  have e5 : rest.extract 1 rest.size = ⟨#[]⟩ := emp_size (by rw [ByteArray.size_extract]; omega)
  rw [if_pos (by omega)]
  simp only
  rw [e5, ← e3, rj1_code (smO_of (by decide) (by decide) (by decide)), if_pos ⟨rfl, rfl, hok⟩]
theorem full5 {o : GOrder} {s : ByteArray} (hs : s.size ≤ 900) (hok : okB o = true) (hk : o.fKind = 5) (hb : bytesO o = s) : m_conf_Read s = some (o, 0) := by
  obtain ⟨h, h1⟩ := bytes_parts hb
  have hr := rest_size h1
  have hc := cons_by h1
  have hok' := hok
  obtain ⟨k, n, a, t, z, hh⟩ := o
  simp only at hk
  subst hk
  unfold okB at hok'
  simp only at hok'
  rw [if_neg (by decide), if_neg (by decide), if_neg (by decide), if_pos trivial] at hok'
  simp only [Bool.and_eq_true, decide_eq_true_eq, emp_t] at hok'
  obtain ⟨⟨⟨⟨rfl, hz⟩, rfl⟩, rfl⟩, h5⟩ := hok'
  have h0 : hh = [] := List.length_eq_zero_iff.1 (by omega)
  subst h0
  rw [bytesL, headO, if_neg (by simp), hc] at h
  simp only [List.flatMap_nil, List.append_nil, b0, List.nil_append] at h
  injection h with e1 e2
  replace e2 := bytesI_inj e2
  replace e1 : byteAt s 0 = 5 := e1
  rw [read_k (by omega) h1, m_conf_Read_j2, e1, if_neg (by decide), if_neg (by decide), if_neg (by decide), if_pos rfl, e2]
  simp only
  rw [take_code' (o := ⟨z, false⟩) (by simp only; rw [← e2]; omega) (by rw [← e2]; omega), Option.bind_some, takeR]
  simp only
  rw [if_pos (Nat.le_refl _)]
  simp only
  rw [ext_all, ext_end, rj1_code (smO_of (by decide) (by decide) (by rw [← e2]; omega)), if_pos ⟨rfl, rfl, hok⟩]
open Go.RowKit
theorem cut_by {s : ByteArray} {n : Nat} (h : n ≤ s.size) : bytesI (s.extract 0 n) ++ bytesI (s.extract n s.size) = bytesI s := by
  rw [bytesI_extract, bytesI_extract, List.drop_zero, size_bytes, List.take_of_length_le (l := bytesI s) (Nat.le_refl _), List.take_append_drop]
theorem sound3 {s : ByteArray} (hs : s.size ≤ 900) (h1 : 1 ≤ s.size) (hk : byteAt s 0 = 3) : ∃ r, m_conf_Read s = some r ∧ readsAs s r := by
  have hr := rest_size h1
  have hc := cons_by h1
  rw [read_k (by omega) h1, m_conf_Read_j2, if_neg (by rw [hk]; decide), hk, if_pos rfl]
  generalize s.extract 1 s.size = rest at *
  obtain ⟨r, g1, acc, fs, bad, rfl, g2, g3, g4⟩ := loop_rule (step := fun s : List ByteArray × ByteArray × Bool => m_conf_Read_s3 s.1 s.2.1 s.2.2)
    (fun s => (s.2.2 = false → s.1.flatMap bytesI ++ bytesI s.2.1 = bytesI rest ∧ s.1.length + s.2.1.size ≤ 900) ∧ s.1.length ≤ 901 ∧ (∀ x ∈ s.1, x.size ≤ 1000) ∧ s.2.1.size ≤ 900)
    (fun s => s.2.1.size + if s.2.2 = true then 0 else 1)
    (fun r => ∃ (acc : List ByteArray) (fs : ByteArray) (bad : Bool), r = (acc, 0, ⟨#[]⟩, ⟨#[]⟩, ⟨#[]⟩, fs, bad) ∧ (bad = false → acc.flatMap bytesI ++ bytesI fs = bytesI rest) ∧ acc.length ≤ 901 ∧ ∀ x ∈ acc, x.size ≤ 1000)
    (by
      rintro ⟨acc, fs, bad⟩ ⟨i1, i2, i3, i4⟩
      simp only at i1 i2 i3 i4 ⊢
      rw [m_conf_Read_s3]
      by_cases h0 : 0 < (fs.size : Int)
      · rw [if_pos h0]
        cases bad with
        | true =>
          right
          rw [if_pos rfl]
          exact ⟨_, rfl, acc, fs, true, rfl, (fun h => by cases h), i2, i3⟩
        | false =>
          left
          obtain ⟨j1, j2⟩ := i1 rfl
          have ht := take_code' (o := ⟨fs, false⟩) (by simp only; omega) (n := 4) (by omega)
          rw [if_neg (by decide)]
          erw [ht]
          rw [Option.bind_some, takeR]
          simp only
          by_cases h4 : 4 ≤ fs.size
          · rw [if_pos h4]
            simp only
            have hx : (fs.extract 0 4).size = 4 := by rw [ByteArray.size_extract]; omega
            have hy : (fs.extract 4 fs.size).size = fs.size - 4 := by rw [ByteArray.size_extract]; omega
            rw [app_of (by simp only [List.length_append, List.length_singleton]; omega), Option.bind_some]
            refine ⟨_, rfl, ⟨fun _ => ⟨?_, by simp only [List.length_append, List.length_singleton]; omega⟩, by simp only [List.length_append, List.length_singleton]; omega, fun x hx' => ?_, by simp only; omega⟩, by simp only; rw [hy]; omega⟩
            · simp only [List.flatMap_append, List.flatMap_cons, List.flatMap_nil, List.append_nil, List.append_assoc]
              rw [cut_by h4]; exact j1
            · rcases List.mem_append.1 hx' with hx' | hx'
              · exact i3 x hx'
              · simp only [List.mem_singleton] at hx'; subst hx'; omega
          · rw [if_neg h4]
            simp only
            rw [app_of (by simp only [List.length_append, List.length_singleton]; omega), Option.bind_some]
            refine ⟨_, rfl, ⟨(fun h => by cases h), by simp only [List.length_append, List.length_singleton]; omega, fun x hx' => ?_, by simp only; omega⟩, by simp⟩
            rcases List.mem_append.1 hx' with hx' | hx'
            · exact i3 x hx'
            · simp only [List.mem_singleton] at hx'; subst hx'; decide
      · right
        rw [if_neg h0]
        exact ⟨_, rfl, acc, fs, bad, rfl, fun h => (i1 h).1, i2, i3⟩)
    (s0 := ([], rest, false)) ⟨fun _ => ⟨by simp, by simp only [List.length_nil]; omega⟩, by simp, (fun _ h => by cases h), by simp only; omega⟩
  erw [g1]
  rw [Option.bind_some]
  simp only
  rw [rj1_code ⟨Nat.zero_le _, Nat.zero_le _, Nat.zero_le _, by simp only; omega, g4⟩]
  refine ⟨_, rfl, ?_⟩
  split
  · rename_i g
    left
    refine ⟨rfl, g.2.2, eq_str ?_⟩
    have := g2 g.1
    rw [g.2.1, b0, List.append_nil] at this
    rw [hc, hk, bytesL, headO, if_neg (by simp)]
    simp only [b0, List.append_nil]
    rw [this]; rfl
  · exact Or.inr rfl
theorem full3_loop {h : List ByteArray} (hh : ∀ x ∈ h, x.size = 4) (hl : h.length ≤ 20) : ∀ (d j : Nat) (fs : ByteArray), j + d = h.length → bytesI fs = (h.drop j).flatMap bytesI →
    loop (fun s : List ByteArray × ByteArray × Bool => m_conf_Read_s3 s.1 s.2.1 s.2.2) (h.take j, fs, false) = some (h, 0, ⟨#[]⟩, ⟨#[]⟩, ⟨#[]⟩, ⟨#[]⟩, false) := by
  intro d
  induction d with
  | zero =>
    intro j fs hj hf
    have : h.drop j = [] := List.drop_of_length_le (by omega)
    rw [this, List.flatMap_nil] at hf
    have hfs : fs = ⟨#[]⟩ := bytesI_inj hf
    subst hfs
    rw [List.take_of_length_le (by omega)]
    exact loop_inr (by simp only [m_conf_Read_s3]; rw [if_neg (by decide)])
  | succ d ih =>
    intro j fs hj hf
    have hjl : j < h.length := by omega
    have hx := hh h[j] (List.getElem_mem hjl)
    have hxl := size_bytes h[j]
    rw [List.drop_eq_getElem_cons hjl, List.flatMap_cons] at hf
    have hrest : ((h.drop (j + 1)).flatMap bytesI).length ≤ (h.drop (j + 1)).length * 1000 := fm_size fun x hx' => by have := hh x (List.mem_of_mem_drop hx'); omega
    have hdl : (h.drop (j + 1)).length ≤ 20 := by rw [List.length_drop]; omega
    have hsz : fs.size = 4 + ((h.drop (j + 1)).flatMap bytesI).length := by rw [size_bytes, hf, List.length_append]; omega
    have e1 : fs.extract 0 4 = h[j] := bytesI_inj (by rw [bytesI_extract, List.drop_zero, hf, List.take_append_of_le_length (by omega), List.take_of_length_le (by omega)])
    have e2 : bytesI (fs.extract 4 fs.size) = (h.drop (j + 1)).flatMap bytesI := by
      rw [bytesI_extract, size_bytes, List.take_of_length_le (Nat.le_refl _), hf, List.drop_append_of_le_length (by omega), List.drop_of_length_le (by omega)]; rfl
    have htk : h.take (j + 1) = h.take j ++ [h[j]] := by rw [List.take_succ_eq_append_getElem hjl]
    have ht := take_code' (o := ⟨fs, false⟩) (by simp only; omega) (n := 4) (by omega)
    have hst : m_conf_Read_s3 (h.take j) fs false = some (.inl (h.take (j + 1), fs.extract 4 fs.size, false)) := by
      rw [m_conf_Read_s3, if_pos (by omega), if_neg (by decide)]
      erw [ht]
      rw [Option.bind_some, takeR]
      simp only
      rw [if_pos (by omega)]
      simp only
      rw [e1, app_of (by simp only [List.length_append, List.length_singleton, List.length_take]; omega), htk]; rfl
    refine (loop_inl hst).trans ?_
    exact ih (j + 1) _ (by omega) e2
theorem full3 {o : GOrder} {s : ByteArray} (hs : s.size ≤ 900) (hok : okB o = true) (hk : o.fKind = 3) (hb : bytesO o = s) : m_conf_Read s = some (o, 0) := by
  obtain ⟨h, h1⟩ := bytes_parts hb
  have hr := rest_size h1
  have hc := cons_by h1
  have hok' := hok
  obtain ⟨k, n, a, t, z, hh⟩ := o
  simp only at hk
  subst hk
  unfold okB at hok'
  simp only at hok'
  rw [if_neg (by decide), if_pos trivial] at hok'
  simp only [Bool.and_eq_true, decide_eq_true_eq, emp_t] at hok'
  obtain ⟨⟨⟨⟨⟨⟨rfl, rfl⟩, rfl⟩, rfl⟩, h5⟩, h6⟩, h7⟩ := hok'
  have h8 : ∀ x ∈ hh, x.size = 4 := fun x hx => by
    have := List.all_eq_true.1 h7 x hx
    unfold hintB at this
    rw [decide_eq_true_eq] at this
    omega
  rw [bytesL, headO, if_neg (by simp), hc] at h
  simp only [List.append_nil, b0] at h
  injection h with e1 e2
  replace e1 : byteAt s 0 = 3 := e1
  replace e2 : bytesI (s.extract 1 s.size) = hh.flatMap bytesI := e2
  have hlp := full3_loop h8 (by omega) hh.length 0 (s.extract 1 s.size) (by omega) e2
  rw [List.take_zero] at hlp
  rw [read_k (by omega) h1, m_conf_Read_j2, e1, if_neg (by decide), if_pos rfl]
  erw [hlp]
  rw [Option.bind_some]
  simp only
  rw [rj1_code ⟨Nat.zero_le _, Nat.zero_le _, Nat.zero_le _, by simp only; omega, fun x hx => by have := h8 x hx; omega⟩, if_pos ⟨rfl, rfl, hok⟩]
open Go.RowKit
/-- How the end of a name is looked for. -/
def walkS (r : ByteArray) (st : Int → Option (Int ⊕ Int)) : Prop := ∀ i : Nat, i ≤ r.size + 300 → st (i : Int) = if (i : Int) < (r.size : Int) then (if byteAt r i ≠ 0 then some (.inl ((i : Int) + 1 + byteAt r i)) else some (.inr (i : Int))) else some (.inr (i : Int))
theorem walk_end {r : ByteArray} {st : Int → Option (Int ⊕ Int)} (hst : walkS r st) : ∃ A : Nat, loop st 0 = some (A : Int) ∧ A ≤ r.size + 300 := by
  obtain ⟨x, g1, A, rfl, g2⟩ := loop_rule (step := st) (fun s => ∃ i : Nat, s = (i : Int) ∧ i ≤ r.size + 300) (fun s => (r.size + 301 - s).toNat) (fun x => ∃ A : Nat, x = (A : Int) ∧ A ≤ r.size + 300)
    (by
      rintro s ⟨i, rfl, hi⟩
      rw [hst i hi]
      by_cases h : (i : Int) < (r.size : Int)
      · rw [if_pos h]
        by_cases hb : byteAt r i ≠ 0
        · left
          have := byteAt_lt r i
          rw [if_pos hb]
          exact ⟨_, rfl, ⟨i + 1 + (byteAt r i).toNat, by omega, by omega⟩, by omega⟩
        · right
          rw [if_neg hb]
          exact ⟨_, rfl, i, rfl, hi⟩
      · right
        rw [if_neg h]
        exact ⟨_, rfl, i, rfl, hi⟩)
    (s0 := 0) ⟨0, rfl, by omega⟩
  exact ⟨A, g1, g2⟩
theorem walk_name {r : ByteArray} {st : Int → Option (Int ⊕ Int)} (hst : walkS r st) {tl : List Int} : ∀ (ls : List ByteArray) (pre : List Int), okLs ls → bytesI r = pre ++ encB ls ++ 0 :: tl → loop st (pre.length : Int) = some (((pre ++ encB ls).length : Nat) : Int)
  | [], pre, _, h => by
    have hl : pre.length < (bytesI r).length := by rw [h]; simp [encB]
    have hsz := size_bytes r
    have hb := bytesI_get r pre.length (by omega)
    have h0 : (bytesI r)[pre.length] = 0 := by simp [h, encB]
    rw [h0] at hb
    have hs := hst pre.length (by omega)
    rw [if_pos (by omega), ← hb, if_neg (by simp)] at hs
    rw [loop_inr hs]
    simp [encB]
  | s :: ls, pre, hok, h => by
    have hs1 := hok s List.mem_cons_self
    have he : encB (s :: ls) = (s.size : Int) :: bytesI s ++ encB ls := by simp [encB]
    have hl : pre.length < (bytesI r).length := by rw [h, he]; simp
    have hsz := size_bytes r
    have hss := size_bytes s
    have hb := bytesI_get r pre.length (by omega)
    have h0 : (bytesI r)[pre.length] = (s.size : Int) := by simp [h, he]
    rw [h0] at hb
    have hs := hst pre.length (by omega)
    rw [if_pos (by omega), ← hb, if_pos (by omega)] at hs
    rw [loop_inl hs]
    have := walk_name hst (tl := tl) ls (pre ++ ((s.size : Int) :: bytesI s)) (fun x hx => hok x (List.mem_cons_of_mem _ hx)) (by rw [h, he]; simp)
    rw [show ((pre ++ ((s.size : Int) :: bytesI s)).length : Int) = (pre.length : Int) + 1 + (s.size : Int) by simp; omega] at this
    rw [this, he]
    simp
theorem walk_code {r : ByteArray} (hr : r.size ≤ 2000) (b : Bool) : walkS r (fun s => m_conf_reader_name_s3 ⟨r, b⟩ s) := by
  intro i hi
  simp only [m_conf_reader_name_s3]
  by_cases h : (i : Int) < (r.size : Int)
  · have hb := byteAt_lt r i
    rw [if_pos h, if_pos h, sat_of (by omega) h, Option.bind_some, Option.bind_some, w64_id (x := byteAt r i) (by omega) (by omega), w64_id (x := 1 + byteAt r i) (by omega) (by omega), w64_id (by omega) (by omega), show (i : Int) + (1 + byteAt r i) = (i : Int) + 1 + byteAt r i by omega]
  · rw [if_neg h, if_neg h]
theorem name_code {r : ByteArray} (hr : r.size ≤ 2000) {A : Nat} (hA : loop (fun s => m_conf_reader_name_s3 ⟨r, false⟩ s) 0 = some (A : Int)) (hA2 : A ≤ r.size + 300) : m_conf_reader_name ⟨r, false⟩ = some (r.extract 0 (min (A + 1) r.size), ⟨r.extract (min (A + 1) r.size) r.size, !nmB (r.extract 0 (min (A + 1) r.size))⟩) := by
  rw [m_conf_reader_name]
  erw [hA]
  rw [Option.bind_some, m_conf_reader_name_j1, w64_id (by omega) (by omega)]
  simp only
  rw [show min ((A : Int) + 1) (r.size : Int) = ((min (A + 1) r.size : Nat) : Int) by omega]
  generalize hn : min (A + 1) r.size = n
  have hnr : n ≤ r.size := by omega
  rw [take_code' (o := ⟨r, false⟩) (by simp only; omega) (by omega), Option.bind_some, takeR]
  simp only
  rw [if_pos hnr]
  simp only
  rw [if_neg (by decide), nmB_code (by rw [ByteArray.size_extract]; omega), Option.bind_some, m_conf_reader_name_j2]
theorem read4 {s : ByteArray} (hs : s.size ≤ 900) (h1 : 1 ≤ s.size) (hk : byteAt s 0 = 4) {A : Nat} (hA : loop (fun q => m_conf_reader_name_s3 ⟨s.extract 1 s.size, false⟩ q) 0 = some (A : Int)) (hA2 : A ≤ (s.extract 1 s.size).size + 300) :
    ∃ n : Nat, n = min (A + 1) (s.extract 1 s.size).size ∧ m_conf_Read s = some (if nmB ((s.extract 1 s.size).extract 0 n) = true ∧ okB ⟨4, 0, (s.extract 1 s.size).extract 0 n, (s.extract 1 s.size).extract n (s.extract 1 s.size).size, ⟨#[]⟩, []⟩ = true then (⟨4, 0, (s.extract 1 s.size).extract 0 n, (s.extract 1 s.size).extract n (s.extract 1 s.size).size, ⟨#[]⟩, []⟩, 0) else (zeroO, 10)) := by
  have hr := rest_size h1
  refine ⟨_, rfl, ?_⟩
  rw [read_k (by omega) h1, m_conf_Read_j2, hk, if_neg (by decide), if_neg (by decide), if_pos rfl]
  generalize s.extract 1 s.size = rest at *
  rw [name_code (by omega) hA hA2, Option.bind_some]
  simp only
  generalize hn : min (A + 1) rest.size = n
  have hnr : n ≤ rest.size := by omega
  have hy : (rest.extract n rest.size).size = rest.size - n := by rw [ByteArray.size_extract]; omega
  have hx : (rest.extract 0 n).size = n := by rw [ByteArray.size_extract]; omega
  rw [take_code' (o := ⟨rest.extract n rest.size, !nmB (rest.extract 0 n)⟩) (by simp only; omega) (by omega), Option.bind_some, takeR]
  simp only
  rw [if_pos (Nat.le_refl _)]
  simp only
  rw [ext_all, ext_end, rj1_code (smO_of (by omega) (by omega) (by decide))]
  congr 1
  cases nmB (rest.extract 0 n) <;> simp
theorem sound4 {s : ByteArray} (hs : s.size ≤ 900) (h1 : 1 ≤ s.size) (hk : byteAt s 0 = 4) : ∃ r, m_conf_Read s = some r ∧ readsAs s r := by
  have hr := rest_size h1
  have hc := cons_by h1
  obtain ⟨A, hA, hA2⟩ := walk_end (walk_code (r := s.extract 1 s.size) (by omega) false)
  obtain ⟨n, hn, e⟩ := read4 hs h1 hk hA hA2
  refine ⟨_, e, ?_⟩
  split
  · rename_i g
    left
    refine ⟨rfl, g.2, eq_str ?_⟩
    rw [hc, hk, bytesL, headO, if_neg (by simp)]
    simp only [List.flatMap_nil, List.append_nil, b0]
    rw [cut_by (by omega)]; rfl
  · exact Or.inr rfl
theorem full4 {o : GOrder} {s : ByteArray} (hs : s.size ≤ 900) (hok : okB o = true) (hk : o.fKind = 4) (hb : bytesO o = s) : m_conf_Read s = some (o, 0) := by
  obtain ⟨h, h1⟩ := bytes_parts hb
  have hr := rest_size h1
  have hc := cons_by h1
  have hok' := hok
  obtain ⟨k, n, a, t, z, hh⟩ := o
  simp only at hk
  subst hk
  unfold okB at hok'
  simp only at hok'
  rw [if_neg (by decide), if_neg (by decide), if_pos trivial] at hok'
  simp only [Bool.and_eq_true, decide_eq_true_eq, emp_t] at hok'
  obtain ⟨⟨⟨⟨rfl, ha⟩, ht⟩, rfl⟩, h5⟩ := hok'
  have h0 : hh = [] := List.length_eq_zero_iff.1 (by omega)
  subst h0
  obtain ⟨ls, l1, l2⟩ := nmB_t.1 ha
  rw [bytesL, headO, if_neg (by simp), hc] at h
  simp only [List.flatMap_nil, List.append_nil, b0] at h
  injection h with e1 e2
  replace e1 : byteAt s 0 = 4 := e1
  replace e2 : bytesI (s.extract 1 s.size) = bytesI a ++ bytesI t := e2
  have hw := walk_name (walk_code (r := s.extract 1 s.size) (by omega) false) (tl := bytesI t) ls [] l1.1 (by rw [e2, l1.2]; simp)
  simp only [List.nil_append, List.length_nil] at hw
  have hsz := nm_size l1
  have hra : (s.extract 1 s.size).size = a.size + t.size := by rw [size_bytes, e2, List.length_append, ← size_bytes, ← size_bytes]
  obtain ⟨m, hm, e⟩ := read4 hs h1 e1 hw (by omega)
  have hma : m = a.size := by omega
  subst hma
  have x1 : (s.extract 1 s.size).extract 0 a.size = a := bytesI_inj (by rw [bytesI_extract, List.drop_zero, e2, size_bytes, List.take_append_of_le_length (Nat.le_refl _), List.take_of_length_le (Nat.le_refl _)])
  have x2 : (s.extract 1 s.size).extract a.size (s.extract 1 s.size).size = t := bytesI_inj (by rw [bytesI_extract, size_bytes (s.extract 1 s.size), List.take_of_length_le (Nat.le_refl _), e2, size_bytes, List.drop_append_of_le_length (Nat.le_refl _), List.drop_of_length_le (Nat.le_refl _)]; rfl)
  rw [x1, x2, if_pos ⟨ha, hok⟩] at e
  exact e
open Go.RowKit
noncomputable def candR (c : GOrder) (s : ByteArray) : GOrder × Int := @ite _ (okB c = true ∧ bytesO c = s) (Classical.propDecidable _) (c, 0) (zeroO, 10)
theorem rrj1 {k n : Int} {a t z : ByteArray} {h : List ByteArray} {p : ByteArray} (ho : smO ⟨k, n, a, t, z, h⟩) : m_ref13_Read_j1 p h k n a t z = some (candR ⟨k, n, a, t, z, h⟩ p) := by
  rw [m_ref13_Read_j1, rbytes_code ho, Option.bind_some, resB, candR]
  by_cases hok : okB ⟨k, n, a, t, z, h⟩ = true
  · rw [if_pos hok]
    simp only
    rw [if_neg (by decide)]
    by_cases hb : bytesO ⟨k, n, a, t, z, h⟩ = p
    · rw [if_pos hb, if_pos ⟨hok, hb⟩]
    · rw [if_neg hb, if_neg (fun g => hb g.2)]; rfl
  · rw [if_neg hok]
    simp only
    rw [if_pos (show (1 : Int) ≠ 0 by decide), if_neg (show ¬ (okB ⟨k, n, a, t, z, h⟩ = true ∧ bytesO ⟨k, n, a, t, z, h⟩ = p) from fun g => hok g.1)]; rfl
theorem kind_of {o : GOrder} {s : ByteArray} (hok : okB o = true) (hb : bytesO o = s) : byteAt s 0 = o.fKind ∧ 2 ≤ s.size := by
  obtain ⟨h, h1⟩ := bytes_parts hb
  have hc := cons_by h1
  have hr := rest_size h1
  have hl : (bytesI (s.extract 1 s.size)).length + 1 = s.size := by rw [← size_bytes]; exact hr
  obtain ⟨k, n, a, t, z, hh⟩ := o
  unfold okB at hok
  simp only at hok
  rw [hc, bytesL] at h
  by_cases k12 : k = 1 ∨ k = 2
  · rw [headO, if_pos k12] at h
    injection h with e1 e2
    have : (bytesI (s.extract 1 s.size)).length ≥ 1 := by rw [e2]; simp
    exact ⟨by rw [e1]; simp only; omega, by omega⟩
  · rw [if_neg k12] at hok
    rw [headO, if_neg k12] at h
    injection h with e1 e2
    replace e2 : bytesI (s.extract 1 s.size) = hh.flatMap bytesI ++ (bytesI a ++ bytesI t ++ bytesI z) := e2
    have e3 := congrArg List.length e2
    simp only [List.length_append] at e3
    have hnm : ∀ x : ByteArray, nmB x = true → 1 ≤ (bytesI x).length := fun x hx => by
      obtain ⟨ls, l1, -⟩ := nmB_t.1 hx
      rw [l1.2]; simp
    by_cases k3 : k = 3
    · rw [if_pos k3] at hok
      simp only [Bool.and_eq_true, decide_eq_true_eq] at hok
      obtain ⟨⟨⟨-, h5⟩, -⟩, h7⟩ := hok
      refine ⟨by rw [e1]; simp only; omega, ?_⟩
      cases hh with
      | nil => simp at h5
      | cons x r =>
        have := List.all_eq_true.1 h7 x List.mem_cons_self
        unfold hintB at this
        rw [decide_eq_true_eq, size_bytes] at this
        rw [List.flatMap_cons, List.length_append] at e3
        omega
    · rw [if_neg k3] at hok
      by_cases k4 : k = 4
      · rw [if_pos k4] at hok
        simp only [Bool.and_eq_true, decide_eq_true_eq] at hok
        have := hnm a hok.1.1.1.2
        exact ⟨by rw [e1]; simp only; omega, by omega⟩
      · rw [if_neg k4] at hok
        by_cases k5 : k = 5
        · rw [if_pos k5] at hok
          simp only [Bool.and_eq_true, decide_eq_true_eq] at hok
          have := hnm z hok.1.1.1.2
          exact ⟨by rw [e1]; simp only; omega, by omega⟩
        · rw [if_neg k5] at hok; cases hok
/-- What the document's reading comes to. -/
def rreads (s : ByteArray) : Prop := (m_ref13_Read s = some (zeroO, 10) ∧ ∀ o, okB o = true → bytesO o ≠ s) ∨ ∃ c, m_ref13_Read s = some (candR c s) ∧ ∀ o, okB o = true → bytesO o = s → o = c
theorem rread_k {s : ByteArray} (hs : s.size ≤ 900) (h2 : 2 ≤ s.size) : m_ref13_Read s = m_ref13_Read_j2 (s.extract 1 s.size) s (byteAt s 0) (decide (byteAt s 0 = 1 ∨ byteAt s 0 = 2)) (byteAt s 0) := by
  have hb := byteAt_lt s 0
  rw [m_ref13_Read, if_neg (by omega), sat_of (by omega) (by omega), Option.bind_some, scutLo, if_pos ⟨by omega, by omega⟩, Option.bind_some, w64_id (x := byteAt s 0) (by omega) (by omega)]
  by_cases k1 : byteAt s 0 = 1
  · rw [if_pos k1, decide_eq_true k1, decide_eq_true (Or.inl k1)]; rfl
  · rw [if_neg k1]
    show m_ref13_Read_j2 (s.extract 1 s.size) s (byteAt s 0) (decide (byteAt s 0 = 2)) (byteAt s 0) = _
    congr 1; exact decide_eq_decide.2 (by omega)
theorem rshort {s : ByteArray} (h2 : ¬ 2 ≤ s.size) : rreads s := by
  refine Or.inl ⟨by rw [m_ref13_Read, if_pos (by omega)]; rfl, fun o ho hb => ?_⟩
  exact h2 (kind_of ho hb).2
theorem rX {s : ByteArray} (hs : s.size ≤ 900) (h2 : 2 ≤ s.size) (hk : byteAt s 0 ≠ 1 ∧ byteAt s 0 ≠ 2 ∧ byteAt s 0 ≠ 3 ∧ byteAt s 0 ≠ 4 ∧ byteAt s 0 ≠ 5) : rreads s := by
  obtain ⟨k1, k2, k3, k4, k5⟩ := hk
  right
  refine ⟨_, by rw [rread_k hs h2, m_ref13_Read_j2, if_neg (by simp [k1, k2]), if_neg k3, if_neg k4, if_neg k5]; exact rrj1 (smO_of (by decide) (by decide) (by decide)), fun o ho hb => ?_⟩
  have := (kind_of ho hb).1
  exfalso
  unfold okB at ho
  rw [if_neg (by omega), if_neg (by omega), if_neg (by omega), if_neg (by omega)] at ho
  cases ho
theorem r12 {s : ByteArray} (hs : s.size ≤ 900) (h2 : 2 ≤ s.size) (hk : byteAt s 0 = 1 ∨ byteAt s 0 = 2) : rreads s := by
  have hr := rest_size (s := s) (by omega)
  have hc := cons_by (s := s) (by omega)
  have hb0 := byteAt_lt (s.extract 1 s.size) 0
  right
  have hsm : smO ⟨byteAt s 0, byteAt (s.extract 1 s.size) 0, ⟨#[]⟩, ⟨#[]⟩, ⟨#[]⟩, []⟩ := smO_of (Nat.zero_le _) (Nat.zero_le _) (Nat.zero_le _)
  have hj := rrj1 (p := s) hsm
  refine ⟨⟨byteAt s 0, byteAt (s.extract 1 s.size) 0, ⟨#[]⟩, ⟨#[]⟩, ⟨#[]⟩, []⟩, ?_, fun o ho hb => ?_⟩
  · rw [rread_k hs h2, m_ref13_Read_j2, if_pos (decide_eq_true hk), sat_of (by omega) (by omega), Option.bind_some, w64_id (x := byteAt (s.extract 1 s.size) 0) (by omega) (by omega)]
    exact hj
  have hkd := (kind_of ho hb).1
  obtain ⟨h, -⟩ := bytes_parts hb
  obtain ⟨k, n, a, t, z, hh⟩ := o
  simp only at hkd
  subst hkd
  unfold okB at ho
  simp only at ho
  rw [if_pos hk] at ho
  simp only [Bool.and_eq_true, decide_eq_true_eq, emp_t] at ho
  obtain ⟨⟨⟨⟨hn, rfl⟩, rfl⟩, rfl⟩, h5⟩ := ho
  have h0 : hh = [] := List.length_eq_zero_iff.1 (by omega)
  subst h0
  unfold nodeB at hn
  rw [decide_eq_true_eq] at hn
  rw [bytesL, headO, if_pos hk, hc, cons_by (s := s.extract 1 s.size) (by omega)] at h
  simp only [List.flatMap_nil, List.append_nil, b0] at h
  have hb00 := byteAt_lt s 0
  rw [Int.emod_eq_of_lt (by omega) (by omega), Int.emod_eq_of_lt (by omega) (by omega), List.cons.injEq, List.cons.injEq] at h
  rw [h.2.1]
theorem r5 {s : ByteArray} (hs : s.size ≤ 900) (h2 : 2 ≤ s.size) (hk : byteAt s 0 = 5) : rreads s := by
  have hr := rest_size (s := s) (by omega)
  have hc := cons_by (s := s) (by omega)
  right
  refine ⟨_, by rw [rread_k hs h2, m_ref13_Read_j2, hk, if_neg (by decide), if_neg (by decide), if_neg (by decide), if_pos rfl]; exact rrj1 (smO_of (by decide) (by decide) (by omega)), fun o ho hb => ?_⟩
  have hkd := (kind_of ho hb).1
  obtain ⟨h, -⟩ := bytes_parts hb
  obtain ⟨k, n, a, t, z, hh⟩ := o
  simp only at hkd
  rw [hk] at hkd
  subst hkd
  unfold okB at ho
  simp only at ho
  rw [if_neg (by decide), if_neg (by decide), if_neg (by decide), if_pos trivial] at ho
  simp only [Bool.and_eq_true, decide_eq_true_eq, emp_t] at ho
  obtain ⟨⟨⟨⟨rfl, hz⟩, rfl⟩, rfl⟩, h5⟩ := ho
  have h0 : hh = [] := List.length_eq_zero_iff.1 (by omega)
  subst h0
  rw [bytesL, headO, if_neg (by simp), hc] at h
  simp only [List.flatMap_nil, List.append_nil, b0, List.nil_append] at h
  injection h with e1 e2
  rw [← bytesI_inj e2]
open Go.RowKit
theorem chunk_eq : ∀ (l h : List ByteArray) (r : List Int), (∀ x ∈ l, x.size = 4) → (∀ x ∈ h, x.size = 4) → r.length < 4 → l.flatMap bytesI ++ r = h.flatMap bytesI → l = h
  | [], [], _, _, _, _, _ => rfl
  | [], y :: h, r, _, hh, hr, he => by
    have e := congrArg List.length he
    have := hh y List.mem_cons_self
    rw [size_bytes] at this
    simp only [List.flatMap_nil, List.nil_append, List.flatMap_cons, List.length_append] at e
    omega
  | x :: l, [], r, hl, _, hr, he => by
    have e := congrArg List.length he
    have := hl x List.mem_cons_self
    rw [size_bytes] at this
    simp only [List.flatMap_nil, List.flatMap_cons, List.length_append, List.length_nil] at e
    omega
  | x :: l, y :: h, r, hl, hh, hr, he => by
    have h1 := hl x List.mem_cons_self
    have h2 := hh y List.mem_cons_self
    rw [size_bytes] at h1 h2
    rw [List.flatMap_cons, List.flatMap_cons, List.append_assoc] at he
    obtain ⟨g1, g2⟩ := List.append_inj he (by omega)
    rw [bytesI_inj g1, chunk_eq l h r (fun z hz => hl z (List.mem_cons_of_mem _ hz)) (fun z hz => hh z (List.mem_cons_of_mem _ hz)) hr g2]
theorem r3 {s : ByteArray} (hs : s.size ≤ 900) (h2 : 2 ≤ s.size) (hk : byteAt s 0 = 3) : rreads s := by
  have hr := rest_size (s := s) (by omega)
  have hc := cons_by (s := s) (by omega)
  have hrk := rread_k hs h2
  rw [m_ref13_Read_j2, hk, if_neg (by decide), if_pos rfl] at hrk
  generalize hrest : s.extract 1 s.size = rest at *
  have hsz := size_bytes rest
  obtain ⟨q, g1, l, rfl, g2, g3, g4⟩ := loop_rule (step := fun q : List ByteArray × Int => m_ref13_Read_s3 rest 3 q.1 q.2)
    (fun q => q.2 = ((4 * q.1.length : Nat) : Int) ∧ 4 * q.1.length ≤ rest.size ∧ (∀ x ∈ q.1, x.size = 4) ∧ q.1.flatMap bytesI ++ (bytesI rest).drop (4 * q.1.length) = bytesI rest)
    (fun q => (rest.size - 4 * q.1.length))
    (fun q => ∃ l : List ByteArray, q = (l, 3, 0, ⟨#[]⟩, ⟨#[]⟩, ⟨#[]⟩) ∧ (4 * l.length ≤ rest.size ∧ rest.size < 4 * l.length + 4) ∧ (∀ x ∈ l, x.size = 4) ∧ l.flatMap bytesI ++ (bytesI rest).drop (4 * l.length) = bytesI rest)
    (by
      rintro ⟨l, i⟩ ⟨j1, j2, j3, j4⟩
      simp only at j1 j2 j3 j4 ⊢
      subst j1
      rw [m_ref13_Read_s3, w64_id (by omega) (by omega)]
      by_cases h4 : ((4 * l.length : Nat) : Int) + 4 ≤ (rest.size : Int)
      · left
        rw [if_pos h4, scutMid, if_pos ⟨by omega, by omega, h4⟩, Option.bind_some, app_of (by simp only [List.length_singleton]; omega), Option.bind_some, Int.toNat_natCast, show (((4 * l.length : Nat) : Int) + 4).toNat = 4 * l.length + 4 by omega]
        have hx : (rest.extract (4 * l.length) (4 * l.length + 4)).size = 4 := by rw [ByteArray.size_extract]; omega
        refine ⟨_, rfl, ⟨by simp only [List.length_append, List.length_singleton]; omega, by simp only [List.length_append, List.length_singleton]; omega, fun x hx' => ?_, ?_⟩, by simp only [List.length_append, List.length_singleton]; omega⟩
        · rcases List.mem_append.1 hx' with hx' | hx'
          · exact j3 x hx'
          · simp only [List.mem_singleton] at hx'; subst hx'; exact hx
        · simp only [List.length_append, List.length_singleton, List.flatMap_append, List.flatMap_cons, List.flatMap_nil, List.append_nil, List.append_assoc]
          rw [bytesI_extract, ← j4]
          congr 1
          rw [j4, show 4 * (l.length + 1) = 4 * l.length + 4 by omega, List.drop_take, show 4 * l.length + 4 - 4 * l.length = 4 by omega, show (bytesI rest).drop (4 * l.length + 4) = ((bytesI rest).drop (4 * l.length)).drop 4 by rw [List.drop_drop], List.take_append_drop]
      · right
        rw [if_neg h4]
        exact ⟨_, rfl, l, rfl, ⟨j2, by omega⟩, j3, j4⟩)
    (s0 := ([], 0)) ⟨rfl, by simp, (fun _ h => by cases h), by simp⟩
  right
  have hsm : smO ⟨3, 0, ⟨#[]⟩, ⟨#[]⟩, ⟨#[]⟩, l⟩ := ⟨Nat.zero_le _, Nat.zero_le _, Nat.zero_le _, by simp only; omega, fun x hx => by have := g3 x hx; omega⟩
  refine ⟨⟨3, 0, ⟨#[]⟩, ⟨#[]⟩, ⟨#[]⟩, l⟩, ?_, fun o ho hb => ?_⟩
  · rw [hrk]
    erw [g1]
    exact rrj1 (p := s) hsm
  · have hkd := (kind_of ho hb).1
    obtain ⟨h, -⟩ := bytes_parts hb
    obtain ⟨k, n, a, t, z, hh⟩ := o
    simp only at hkd
    rw [hk] at hkd
    subst hkd
    unfold okB at ho
    simp only at ho
    rw [if_neg (by decide), if_pos trivial] at ho
    simp only [Bool.and_eq_true, decide_eq_true_eq, emp_t] at ho
    obtain ⟨⟨⟨⟨⟨⟨rfl, rfl⟩, rfl⟩, rfl⟩, h5⟩, h6⟩, h7⟩ := ho
    have h8 : ∀ x ∈ hh, x.size = 4 := fun x hx => by
      have := List.all_eq_true.1 h7 x hx
      unfold hintB at this
      rw [decide_eq_true_eq] at this
      omega
    rw [bytesL, headO, if_neg (by simp), hc] at h
    simp only [List.append_nil, b0] at h
    injection h with e1 e2
    replace e2 : bytesI rest = hh.flatMap bytesI := e2
    rw [chunk_eq l hh _ g3 h8 (by rw [List.length_drop]; omega) (g4.trans e2)]
theorem rwalk_code {r : ByteArray} (hr : r.size ≤ 2000) : walkS r (fun s => m_ref13_end_s2 r s) := by
  intro i hi
  simp only [m_ref13_end_s2]
  by_cases h : (i : Int) < (r.size : Int)
  · have hb := byteAt_lt r i
    rw [if_pos h, if_pos h, sat_of (by omega) h, Option.bind_some, Option.bind_some, w64_id (x := byteAt r i) (by omega) (by omega), w64_id (x := (i : Int) + 1) (by omega) (by omega), w64_id (by omega) (by omega)]
  · rw [if_neg h, if_neg h]
theorem end_code {r : ByteArray} (hr : r.size ≤ 2000) {A : Nat} (hA : loop (fun s => m_ref13_end_s2 r s) 0 = some (A : Int)) (hA2 : A ≤ r.size + 300) : m_ref13_end r = some (if A < r.size ∧ nmB (r.extract 0 (A + 1)) = true then (A : Int) + 1 else -1) := by
  rw [m_ref13_end]
  erw [hA]
  rw [Option.bind_some, m_ref13_end_j1]
  by_cases h : A < r.size
  · rw [if_neg (by omega), w64_id (by omega) (by omega), scutHi, if_pos ⟨by omega, by omega⟩, Option.bind_some, show ((A : Int) + 1).toNat = A + 1 by omega, rnmB_code (by rw [ByteArray.size_extract]; omega), Option.bind_some]
    by_cases hn : nmB (r.extract 0 (A + 1)) = true
    · rw [if_pos hn, if_pos ⟨h, hn⟩]
    · rw [if_neg hn, if_neg (fun g => hn g.2)]
  · rw [if_pos (by omega), if_neg (fun g => h g.1)]
theorem r4 {s : ByteArray} (hs : s.size ≤ 900) (h2 : 2 ≤ s.size) (hk : byteAt s 0 = 4) : rreads s := by
  have hr := rest_size (s := s) (by omega)
  have hc := cons_by (s := s) (by omega)
  have hrk := rread_k hs h2
  rw [m_ref13_Read_j2, hk, if_neg (by decide), if_neg (by decide), if_pos rfl] at hrk
  generalize hrest : s.extract 1 s.size = rest at *
  have hw := rwalk_code (r := rest) (by omega)
  obtain ⟨A, hA, hA2⟩ := walk_end hw
  have he := end_code (by omega) hA hA2
  -- what an order with these bytes is
  have hall : ∀ o, okB o = true → bytesO o = s → A < rest.size ∧ nmB (rest.extract 0 (A + 1)) = true ∧ o = ⟨4, 0, rest.extract 0 (A + 1), rest.extract (A + 1) rest.size, ⟨#[]⟩, []⟩ := by
    intro o ho hb
    have hkd := (kind_of ho hb).1
    obtain ⟨h, -⟩ := bytes_parts hb
    obtain ⟨k, n, a, t, z, hh⟩ := o
    simp only at hkd
    rw [hk] at hkd
    subst hkd
    unfold okB at ho
    simp only at ho
    rw [if_neg (by decide), if_neg (by decide), if_pos trivial] at ho
    simp only [Bool.and_eq_true, decide_eq_true_eq, emp_t] at ho
    obtain ⟨⟨⟨⟨rfl, ha⟩, ht⟩, rfl⟩, h5⟩ := ho
    have h0 : hh = [] := List.length_eq_zero_iff.1 (by omega)
    subst h0
    obtain ⟨ls, l1, l2⟩ := nmB_t.1 ha
    rw [bytesL, headO, if_neg (by simp), hc] at h
    simp only [List.flatMap_nil, List.append_nil, b0] at h
    injection h with e1 e2
    replace e2 : bytesI rest = bytesI a ++ bytesI t := e2
    have hw2 := walk_name hw (tl := bytesI t) ls [] l1.1 (by rw [e2, l1.2]; simp)
    simp only [List.nil_append, List.length_nil] at hw2
    have hAA : A = (encB ls).length := by
      have := hA.symm.trans hw2
      injection this with this
      omega
    have hsz := nm_size l1
    have hra : rest.size = a.size + t.size := by rw [size_bytes, e2, List.length_append, ← size_bytes, ← size_bytes]
    have hA1 : A + 1 = a.size := by omega
    have x1 : rest.extract 0 a.size = a := bytesI_inj (by rw [bytesI_extract, List.drop_zero, e2, size_bytes, List.take_append_of_le_length (Nat.le_refl _), List.take_of_length_le (Nat.le_refl _)])
    have x2 : rest.extract a.size rest.size = t := bytesI_inj (by rw [bytesI_extract, size_bytes rest, List.take_of_length_le (Nat.le_refl _), e2, size_bytes, List.drop_append_of_le_length (Nat.le_refl _), List.drop_of_length_le (Nat.le_refl _)]; rfl)
    rw [hA1, x1, x2]
    exact ⟨by omega, ha, rfl⟩
  rw [he, Option.bind_some] at hrk
  by_cases hcnd : A < rest.size ∧ nmB (rest.extract 0 (A + 1)) = true
  · right
    have hx : (rest.extract 0 (A + 1)).size ≤ 1000 := by rw [ByteArray.size_extract]; omega
    have hy : (rest.extract (A + 1) rest.size).size ≤ 1000 := by rw [ByteArray.size_extract]; omega
    have hsm : smO ⟨4, 0, rest.extract 0 (A + 1), rest.extract (A + 1) rest.size, ⟨#[]⟩, []⟩ := smO_of hx hy (Nat.zero_le _)
    refine ⟨⟨4, 0, rest.extract 0 (A + 1), rest.extract (A + 1) rest.size, ⟨#[]⟩, []⟩, ?_, fun o ho hb => (hall o ho hb).2.2⟩
    rw [hrk, if_pos hcnd, if_neg (by omega), scutHi, if_pos ⟨by omega, by omega⟩, Option.bind_some, scutLo, if_pos ⟨by omega, by omega⟩, Option.bind_some, show ((A : Int) + 1).toNat = A + 1 by omega]
    exact rrj1 (p := s) hsm
  · left
    refine ⟨?_, fun o ho hb => hcnd ⟨(hall o ho hb).1, (hall o ho hb).2.1⟩⟩
    rw [hrk, if_neg hcnd, if_pos (by decide)]; rfl
theorem rread {s : ByteArray} (hs : s.size ≤ 900) : rreads s := by
  by_cases h2 : 2 ≤ s.size
  · by_cases k1 : byteAt s 0 = 1 ∨ byteAt s 0 = 2
    · exact r12 hs h2 k1
    by_cases k3 : byteAt s 0 = 3
    · exact r3 hs h2 k3
    by_cases k4 : byteAt s 0 = 4
    · exact r4 hs h2 k4
    by_cases k5 : byteAt s 0 = 5
    · exact r5 hs h2 k5
    exact rX hs h2 ⟨by omega, by omega, k3, k4, k5⟩
  · exact rshort h2
theorem read_sound {s : ByteArray} (hs : s.size ≤ 900) : ∃ r, m_conf_Read s = some r ∧ readsAs s r := by
  by_cases h1 : 1 ≤ s.size
  · by_cases k1 : byteAt s 0 = 1 ∨ byteAt s 0 = 2
    · exact sound12 hs h1 k1
    by_cases k3 : byteAt s 0 = 3
    · exact sound3 hs h1 k3
    by_cases k4 : byteAt s 0 = 4
    · exact sound4 hs h1 k4
    by_cases k5 : byteAt s 0 = 5
    · exact sound5 hs h1 k5
    exact ⟨_, soundX hs h1 ⟨by omega, by omega, k3, k4, k5⟩, Or.inr rfl⟩
  · exact ⟨_, read_0 (by omega), Or.inr rfl⟩
theorem read_full {o : GOrder} {s : ByteArray} (hs : s.size ≤ 900) (hok : okB o = true) (hb : bytesO o = s) : m_conf_Read s = some (o, 0) := by
  by_cases k1 : o.fKind = 1 ∨ o.fKind = 2
  · exact full12 hs hok k1 hb
  by_cases k3 : o.fKind = 3
  · exact full3 hs hok k3 hb
  by_cases k4 : o.fKind = 4
  · exact full4 hs hok k4 hb
  by_cases k5 : o.fKind = 5
  · exact full5 hs hok k5 hb
  exfalso
  unfold okB at hok
  rw [if_neg k1, if_neg k3, if_neg k4, if_neg k5] at hok
  cases hok
/-- Both read alike. -/
theorem read_both {s : ByteArray} (hs : s.size ≤ 900) : ∃ r, m_conf_Read s = some r ∧ m_ref13_Read s = some r := by
  by_cases h : ∃ o, okB o = true ∧ bytesO o = s
  · obtain ⟨o, ho, hb⟩ := h
    refine ⟨(o, 0), read_full hs ho hb, ?_⟩
    rcases rread hs with ⟨-, g⟩ | ⟨c, g1, g2⟩
    · exact absurd hb (g o ho)
    · have := g2 o ho hb
      subst this
      rw [g1, candR, if_pos ⟨ho, hb⟩]
  · refine ⟨(zeroO, 10), ?_, ?_⟩
    · obtain ⟨r, r1, r2⟩ := read_sound hs
      rcases r2 with ⟨-, r2, r3⟩ | rfl
      · exact absurd ⟨r.1, r2, r3⟩ h
      · exact r1
    · rcases rread hs with ⟨g, -⟩ | ⟨c, g1, g2⟩
      · exact g
      · rw [g1, candR, if_neg (fun g => h ⟨c, g.1, g.2⟩)]
open Go.RowKit
theorem same_refl {h : List ByteArray} (hl : h.length ≤ 1000) : m_ref13_Same ⟨[], h, [], 0, []⟩ ⟨[], h, [], 0, []⟩ = some true := by
  have h7 := loop_run (step := fun s : Int => m_ref13_Same_s7 ⟨[], h, [], 0, []⟩ ⟨[], h, [], 0, []⟩ s) h.length (fun j => (j : Int)) (.inl ()) (s0 := 0) rfl
    (fun j hj => by
      simp only [m_ref13_Same_s7]
      rw [if_pos (by omega), at_nat hj, Option.bind_some, Option.bind_some, if_pos rfl, w64_id (by omega) (by omega)]; rfl)
    (by simp only [m_ref13_Same_s7]; rw [if_neg (by omega)])
  rw [m_ref13_Same]
  simp only
  rw [if_neg (by simp), if_neg (by simp), if_neg (by simp), if_neg (by simp), if_neg (by simp)]
  erw [loop_inr (show m_ref13_Same_s8 ⟨[], h, [], 0, []⟩ ⟨[], h, [], 0, []⟩ 0 = some (.inr (.inl ())) from rfl)]
  rw [Option.bind_some, Sum.elim_inl, m_ref13_Same_j1]
  erw [h7]
  rw [Option.bind_some, Sum.elim_inl, m_ref13_Same_j2]
  erw [loop_inr (show m_ref13_Same_s6 ⟨[], h, [], 0, []⟩ ⟨[], h, [], 0, []⟩ 0 = some (.inr (.inl ())) from rfl)]
  rw [Option.bind_some, Sum.elim_inl, m_ref13_Same_j3]
  erw [loop_inr (show m_ref13_Same_s5 ⟨[], h, [], 0, []⟩ ⟨[], h, [], 0, []⟩ 0 = some (.inr (.inl ())) from rfl)]
  rfl
theorem order_refl {o : GOrder} (hl : o.fHints.length ≤ 1000) : m_law13_sameOrder o o = some true := by
  rw [m_law13_sameOrder, same_refl hl, Option.bind_some, if_pos rfl, if_pos rfl, if_pos rfl, if_pos rfl, if_pos rfl, decide_eq_true rfl]
theorem ok_hints {o : GOrder} (h : okB o = true) : o.fHints.length ≤ 13 := by
  unfold okB at h
  split at h
  · simp only [Bool.and_eq_true, decide_eq_true_eq] at h; omega
  · split at h
    · simp only [Bool.and_eq_true, decide_eq_true_eq] at h; omega
    · split at h
      · simp only [Bool.and_eq_true, decide_eq_true_eq] at h; omega
      · split at h
        · simp only [Bool.and_eq_true, decide_eq_true_eq] at h; omega
        · cases h
theorem read_hints {s : ByteArray} (hs : s.size ≤ 900) {r : GOrder × Int} (h : m_conf_Read s = some r) : r.1.fHints.length ≤ 1000 := by
  obtain ⟨q, q1, q2⟩ := read_sound hs
  rw [h] at q1; injection q1 with q1; subst q1
  rcases q2 with ⟨-, g, -⟩ | rfl
  · have := ok_hints g; omega
  · exact Nat.zero_le _
theorem ten_size {l : List ByteArray} (h : ∀ x ∈ l, x.size ≤ 10) : (l.flatMap bytesI).length ≤ l.length * 10 := by
  induction l with
  | nil => simp
  | cons x r ih =>
    have h1 := ih fun y hy => h y (List.mem_cons_of_mem _ hy)
    have h2 := h x List.mem_cons_self
    have h3 := size_bytes x
    rw [List.flatMap_cons, List.length_append, List.length_cons]
    omega
theorem ok_size {o : GOrder} (h : okB o = true) (ha : o.fName.size ≤ 300) (ht : o.fText.size ≤ 300) (hz : o.fZone.size ≤ 300) (he : ∀ x ∈ o.fHints, x.size ≤ 10) : (bytesO o).size ≤ 900 := by
  have h13 := ok_hints h
  have h10 := ten_size he
  have e1 := size_bytes o.fName; have e2 := size_bytes o.fText; have e3 := size_bytes o.fZone
  have hsum : o.fName.size + o.fText.size + o.fZone.size ≤ 600 := by
    have e0 : ∀ x : ByteArray, empB x = true → x.size = 0 := fun x hx => by rw [emp_t.1 hx]; rfl
    unfold okB at h
    split at h
    · simp only [Bool.and_eq_true] at h; have := e0 _ h.1.2; omega
    · split at h
      · simp only [Bool.and_eq_true] at h; have := e0 _ h.1.1.1.2; omega
      · split at h
        · simp only [Bool.and_eq_true] at h; have := e0 _ h.1.2; omega
        · split at h
          · simp only [Bool.and_eq_true] at h; have := e0 _ h.1.2; omega
          · cases h
  have hh : (headO o).length ≤ 2 := by unfold headO; split <;> simp
  have : (bytesO o).size = (bytesL o).length := by simp [bytesO, strOfNums, ByteArray.size]
  rw [this, bytesL]
  simp only [List.length_append]
  omega
theorem small_code {p : GOrder} (hp : GOrder.ok p) : ∃ o, m_law13_small p = some o ∧ o.fName.size ≤ 300 ∧ o.fText.size ≤ 300 ∧ o.fZone.size ≤ 300 ∧ o.fHints.length ≤ 20 ∧ ∀ x ∈ o.fHints, x.size ≤ 10 := by
  obtain ⟨-, -, h1, h2, h3, h4, h5⟩ := hp
  obtain ⟨a, a1, a2⟩ := short13_of (s := p.fName) 300 h1
  obtain ⟨t, t1, t2⟩ := short13_of (s := p.fText) 300 h2
  obtain ⟨z, z1, z2⟩ := short13_of (s := p.fZone) 300 h3
  replace a1 : m_law13_short p.fName 300 = some a := a1
  replace t1 : m_law13_short p.fText 300 = some t := t1
  replace z1 : m_law13_short p.fZone 300 = some z := z1
  obtain ⟨r, g1, g2, g3⟩ := loop_rule (step := fun s : List ByteArray × Int => m_law13_small_s2 p s.1 s.2)
    (fun s => ∃ i : Nat, s.2 = (i : Int) ∧ i ≤ 20 ∧ s.1.length ≤ i ∧ ∀ x ∈ s.1, x.size ≤ 10)
    (fun s => (20 - s.2).toNat) (fun r => r.length ≤ 20 ∧ ∀ x ∈ r, x.size ≤ 10)
    (by
      rintro ⟨l, i'⟩ ⟨i, rfl, i1, i2, i3⟩
      simp only at i2 i3 ⊢
      rw [m_law13_small_s2]
      by_cases hc : (i : Int) < (p.fHints.length : Int)
      · by_cases hc2 : (i : Int) < 20
        · left
          have hil : i < p.fHints.length := by omega
          obtain ⟨x, x1, x2⟩ := short13_of (s := p.fHints[i]) 10 (h5 _ (List.getElem_mem hil))
          replace x1 : m_law13_short p.fHints[i] 10 = some x := x1
          rw [if_pos hc, if_pos hc2, at_nat hil, Option.bind_some, x1, Option.bind_some, app_of (by simp only [List.length_singleton]; omega), Option.bind_some, w64_id (by omega) (by omega)]
          refine ⟨_, rfl, ⟨i + 1, by simp, by omega, by simp only [List.length_append, List.length_singleton]; omega, fun y hy => ?_⟩, by simp only; omega⟩
          rcases List.mem_append.1 hy with hy | hy
          · exact i3 y hy
          · simp only [List.mem_singleton] at hy; subst hy; exact x2
        · right; rw [if_pos hc, if_neg hc2]; exact ⟨_, rfl, by omega, i3⟩
      · right; rw [if_neg hc]; exact ⟨_, rfl, by omega, i3⟩)
    (s0 := ([], 0)) ⟨0, rfl, by omega, by simp, (fun _ h => by cases h)⟩
  refine ⟨⟨p.fKind, p.fNode, a, t, z, r⟩, ?_, a2, t2, z2, g2, g3⟩
  rw [m_law13_small, a1, Option.bind_some, t1, Option.bind_some, z1, Option.bind_some]
  erw [g1]
  rfl
theorem q_ConfOrders (p0 : GOrder) (p1 : ByteArray) (h0 : GOrder.ok p0) (h1 : p1.size ≤ 9223372036854775807) : m_law13_ConfOrders p0 p1 = some true := by
  obtain ⟨o, o1, o2, o3, o4, o5, o6⟩ := small_code h0
  obtain ⟨s, s1, s2⟩ := short13_of (s := p1) 600 h1
  replace s1 : m_law13_short p1 600 = some s := s1
  have hsm : smO o := ⟨by omega, by omega, by omega, by omega, fun x hx => by have := o6 x hx; omega⟩
  obtain ⟨r, r1, r2⟩ := read_both (s := s) (by omega)
  have hb : m_conf_Bytes_3 o.fKind o.fNode o.fName o.fText o.fZone o.fHints = some (resB o) := bytes_code hsm
  have hc : m_conf_Check_3 o.fKind o.fNode o.fName o.fText o.fZone o.fHints = some (chkO o) := check_code hsm
  rw [m_law13_ConfOrders, awake13, Option.bind_some, o1, Option.bind_some, s1, Option.bind_some, hb, Option.bind_some, rbytes_code hsm, Option.bind_some, r1, Option.bind_some, r2, Option.bind_some, order_refl (read_hints (by omega) r1), Option.bind_some, hc, Option.bind_some, rcheck_o hsm, Option.bind_some, if_neg (by simp), if_pos rfl, if_neg (by simp), if_pos rfl, if_neg (by simp), resB]
  by_cases hok : okB o = true
  · rw [if_pos hok]
    simp only
    have hsz := ok_size hok o2 o3 o4 o6
    rw [if_neg (by decide), read_full hsz hok rfl, Option.bind_some]
    simp only
    rw [order_refl (by omega), Option.bind_some, if_pos trivial, if_pos trivial]
  · rw [if_neg hok]
    simp only
    rw [if_pos (by decide)]
end Go.Proofs.Ythpjodfjdnnckaa
