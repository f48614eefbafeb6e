import Derived.Test.YthpjodfjdnnckaaKCF
set_option linter.unusedVariables false
set_option linter.unusedSimpArgs false
set_option maxRecDepth 16384
namespace Go.Proofs.Ythpjodfjdnnckaa
open Go.RowKit
def encB (ls : List ByteArray) : List Int := ls.flatMap fun s => (s.size : Int) :: bytesI s
def okLs (ls : List ByteArray) : Prop := ∀ s ∈ ls, 1 ≤ s.size ∧ s.size ≤ 63
instance (ls : List ByteArray) : Decidable (okLs ls) := by unfold okLs; infer_instance
/-- n is the name of the labels ls. -/
def Nm (n : ByteArray) (ls : List ByteArray) : Prop := okLs ls ∧ bytesI n = encB ls ++ [0]
def starts : Nat → List ByteArray → List (Int × ByteArray)
  | _, [] => []
  | a, s :: ls => ((a : Int), s) :: starts (a + 1 + s.size) ls
/-- The bytes of a row are at its end: nothing, or a 0 ahead. -/
def endR (l : List Int) : Prop := l = [] ∨ ∃ r, l = 0 :: r
theorem encB_cons (s : ByteArray) (ls : List ByteArray) : encB (s :: ls) = (s.size : Int) :: bytesI s ++ encB ls := by simp [encB]
theorem drop_byte {n : ByteArray} {a : Nat} {x : Int} {r : List Int} (h : (bytesI n).drop a = x :: r) : a < n.size ∧ byteAt n (a : Int) = x ∧ (bytesI n).drop (a + 1) = r := by
  have hl : a < (bytesI n).length := by
    by_cases hc : a < (bytesI n).length
    · exact hc
    · rw [List.drop_of_length_le (by omega)] at h; cases h
  have hs : a < n.size := by rw [size_bytes]; exact hl
  rw [List.drop_eq_getElem_cons hl] at h
  injection h with h1 h2
  rw [bytesI_get n a hs] at h1
  exact ⟨hs, h1, h2⟩
theorem drop_app {n : ByteArray} {a : Nat} {s : ByteArray} {r : List Int} (h : (bytesI n).drop a = bytesI s ++ r) : n.extract a (a + s.size) = s ∧ a + s.size ≤ max n.size a ∧ (bytesI n).drop (a + s.size) = r := by
  have hs := size_bytes s
  have hn := size_bytes n
  have hl := congrArg List.length h
  rw [List.length_drop, List.length_append] at hl
  refine ⟨bytesI_inj ?_, by omega, ?_⟩
  · rw [bytesI_extract, List.drop_take, h, show a + s.size - a = (bytesI s).length by omega, List.take_left]
  · rw [← List.drop_drop, h, hs, List.drop_left]
theorem drop_none {n : ByteArray} {a : Nat} (h : (bytesI n).drop a = []) : n.size ≤ a := by
  rw [size_bytes]; exact List.drop_eq_nil_iff.1 h
theorem okLs_cons {s : ByteArray} {ls : List ByteArray} : okLs (s :: ls) ↔ (1 ≤ s.size ∧ s.size ≤ 63) ∧ okLs ls := by
  simp [okLs]
theorem eachAt_end {n : ByteArray} {a : Nat} (h : endR ((bytesI n).drop a)) (f : Nat) : eachAt n f a = ([], (a : Int)) := by
  cases f with
  | zero => rfl
  | succ f =>
    rw [eachAt, if_neg]
    rcases h with h | ⟨r, h⟩
    · have := drop_none h; omega
    · have := (drop_byte h).2.1; simp [this]
theorem eachAt_enc {n : ByteArray} {rest : List Int} (hr : endR rest) : ∀ (ls : List ByteArray) (a f : Nat), okLs ls → (bytesI n).drop a = encB ls ++ rest → ls.length ≤ f →
    eachAt n f a = (starts a ls, ((a + (encB ls).length : Nat) : Int)) := by
  intro ls
  induction ls with
  | nil =>
    intro a f _ h _
    exact eachAt_end (by rw [h]; exact hr) f
  | cons s ls ih =>
    intro a f hok h hf
    obtain ⟨hs, hok⟩ := okLs_cons.1 hok
    obtain ⟨f, rfl⟩ : ∃ g, f = g + 1 := ⟨f - 1, by simp at hf; omega⟩
    rw [encB_cons] at h
    simp only [List.cons_append, List.append_assoc] at h
    obtain ⟨h1, h2, h3⟩ := drop_byte h
    obtain ⟨h4, h5, h6⟩ := drop_app h3
    rw [eachAt, if_pos ⟨h1, by rw [h2]; omega⟩, h2, if_neg (by omega)]
    have := ih (a + 1 + s.size) f hok (by rw [← h6]) (by simp at hf; omega)
    simp only [Int.toNat_natCast]
    rw [this, h4, starts, encB_cons]
    congr 2
    simp only [List.length_append, List.length_cons, ← size_bytes]
    omega
theorem eachAt_any {n : ByteArray} : ∀ (f a : Nat), n.size ≤ a + f → a ≤ n.size → (eachAt n f a).2 = -1 ∨ ∃ ls rest, okLs ls ∧ (bytesI n).drop a = encB ls ++ rest ∧ endR rest := by
  intro f
  induction f with
  | zero =>
    intro a h1 h2
    exact .inr ⟨[], [], (fun _ h => by cases h), by rw [List.drop_of_length_le (by rw [← size_bytes]; omega)]; rfl, .inl rfl⟩
  | succ f ih =>
    intro a h1 h2
    rw [eachAt]
    by_cases hc : a < n.size ∧ byteAt n a ≠ 0
    · rw [if_pos hc]
      by_cases hb : 63 < byteAt n a ∨ n.size < a + 1 + (byteAt n a).toNat
      · rw [if_pos hb]; exact .inl rfl
      · rw [if_neg hb]
        have hr := byteAt_lt n a
        rcases ih (a + 1 + (byteAt n a).toNat) (by omega) (by omega) with h | ⟨ls, rest, h3, h4, h5⟩
        · exact .inl h
        · have hsz : (n.extract (a + 1) (a + 1 + (byteAt n a).toNat)).size = (byteAt n a).toNat := by
            rw [ByteArray.size_extract]; omega
          refine .inr ⟨n.extract (a + 1) (a + 1 + (byteAt n a).toNat) :: ls, rest, okLs_cons.2 ⟨by rw [hsz]; omega, h3⟩, ?_, h5⟩
          have hl : a < (bytesI n).length := by rw [← size_bytes]; exact hc.1
          rw [List.drop_eq_getElem_cons hl, bytesI_get n a hc.1, encB_cons, hsz, bytesI_extract]
          simp only [List.cons_append, List.append_assoc]
          have h6 : (bytesI n).drop (a + 1 + (byteAt n a).toNat) = ((bytesI n).drop (a + 1)).drop (byteAt n a).toNat := by rw [List.drop_drop]
          rw [← h4, List.drop_take, h6, show a + 1 + (byteAt n a).toNat - (a + 1) = (byteAt n a).toNat by omega, List.take_append_drop]
          congr 1
          omega
    · rw [if_neg hc]
      refine .inr ⟨[], (bytesI n).drop a, (fun _ h => by cases h), rfl, ?_⟩
      by_cases ha : a < n.size
      · have hl : a < (bytesI n).length := by rw [← size_bytes]; exact ha
        have : byteAt n a = 0 := Classical.byContradiction fun h => hc ⟨ha, h⟩
        rw [List.drop_eq_getElem_cons hl, bytesI_get n a ha, this]
        exact .inr ⟨_, rfl⟩
      · rw [List.drop_of_length_le (by rw [← size_bytes]; omega)]; exact .inl rfl
theorem nm_size {n : ByteArray} {ls : List ByteArray} (h : Nm n ls) : n.size = (encB ls).length + 1 := by
  rw [size_bytes, h.2]; simp
theorem len_enc (ls : List ByteArray) : ls.length ≤ (encB ls).length := by
  induction ls with
  | nil => simp
  | cons s ls ih => rw [encB_cons]; simp; omega
theorem each_nm {n : ByteArray} {ls : List ByteArray} (h : Nm n ls) : eachP n = (starts 0 ls, (n.size : Int) - 1) := by
  have hl := len_enc ls
  have hs := nm_size h
  rw [eachP, eachAt_enc (rest := [0]) (.inr ⟨[], rfl⟩) ls 0 n.size h.1 (by rw [List.drop_zero, h.2]) (by omega)]
  congr 1
  omega
theorem each_no {n : ByteArray} (h : ¬ ∃ ls, Nm n ls) : (eachP n).2 ≠ (n.size : Int) - 1 ∨ (eachP n).2 < 0 := by
  rcases eachAt_any (n := n) n.size 0 (by omega) (by omega) with h1 | ⟨ls, rest, h1, h2, h3⟩
  · rw [eachP, h1]; exact .inr (by omega)
  · left
    have hl := len_enc ls
    have hlen := congrArg List.length h2
    rw [List.drop_zero, ← size_bytes, List.length_append] at hlen
    rw [eachP, eachAt_enc h3 ls 0 n.size h1 h2 (by omega)]
    intro hc
    refine h ⟨ls, h1, ?_⟩
    rw [List.drop_zero] at h2
    rw [h2]
    congr 1
    simp only at hc
    rcases h3 with rfl | ⟨r, rfl⟩
    · simp at hlen; omega
    · simp only [List.length_cons] at hlen
      rw [List.length_eq_zero_iff.1 (by omega : r.length = 0)]
theorem starts_snd (a : Nat) (ls : List ByteArray) : (starts a ls).map Prod.snd = ls := by
  induction ls generalizing a with
  | nil => rfl
  | cons s ls ih => simp [starts, ih]
theorem nm_inj {n : ByteArray} {a b : List ByteArray} (h : Nm n a) (h' : Nm n b) : a = b := by
  have := (each_nm h).symm.trans (each_nm h')
  injection this with h1 _
  have := congrArg (List.map Prod.snd) h1
  rwa [starts_snd, starts_snd] at this
open Go.RowKit
theorem eachM_of {n : ByteArray} (hs : n.size ≤ 1099511627776) : eachM n = some (eachP n) := if_pos hs
theorem labels_nm {n : ByteArray} {ls : List ByteArray} (h : Nm n ls) (hs : n.size ≤ 255) : m_name_Labels n = some (ls, 0) := by
  have := nm_size h
  rw [m_name_Labels, eachM_of (by omega), Option.bind_some, each_nm h, w64_id (by omega) (by omega), if_neg (fun h => h rfl), if_neg (by omega), if_neg (by omega), starts_snd]
theorem labels_big {n : ByteArray} {ls : List ByteArray} (h : Nm n ls) (hs : 255 < n.size) (hb : n.size ≤ 1099511627776) : m_name_Labels n = some ([], 11) := by
  rw [m_name_Labels, eachM_of (by omega), Option.bind_some, each_nm h, w64_id (by omega) (by omega), if_neg (fun h => h rfl), if_neg (by omega), if_pos (by omega)]
theorem labels_no {n : ByteArray} (h : ¬ ∃ ls, Nm n ls) (hb : n.size ≤ 1099511627776) : m_name_Labels n = some ([], 10) := by
  rw [m_name_Labels, eachM_of (by omega), Option.bind_some, w64_id (by omega) (by omega)]
  rcases each_no h with h | h
  · rw [if_pos h]
  · rw [if_pos h]
    split <;> rfl
theorem check_nm {n : ByteArray} {ls : List ByteArray} (h : Nm n ls) (hs : n.size ≤ 255) : m_name_Check n = some 0 := by
  rw [m_name_Check, labels_nm h hs]; rfl
theorem check_big {n : ByteArray} {ls : List ByteArray} (h : Nm n ls) (hs : 255 < n.size) (hb : n.size ≤ 1099511627776) : m_name_Check n = some 11 := by
  rw [m_name_Check, labels_big h hs hb]; rfl
theorem check_no {n : ByteArray} (h : ¬ ∃ ls, Nm n ls) (hb : n.size ≤ 1099511627776) : m_name_Check n = some 10 := by
  rw [m_name_Check, labels_no h hb]; rfl
theorem nm_cases (n : ByteArray) : (∃ ls, Nm n ls ∧ n.size ≤ 255) ∨ (∃ ls, Nm n ls ∧ 255 < n.size) ∨ ¬ ∃ ls, Nm n ls := by
  by_cases h : ∃ ls, Nm n ls
  · obtain ⟨ls, h⟩ := h
    by_cases hs : n.size ≤ 255
    · exact .inl ⟨ls, h, hs⟩
    · exact .inr (.inl ⟨ls, h, by omega⟩)
  · exact .inr (.inr h)
theorem row_step {n : ByteArray} (hn : n.size ≤ 1099511627776) {a : Nat} {out : List ByteArray} (ha : a ≤ n.size) (ho : out.length ≤ a) :
    m_ref03_row_s2 n out (a : Int) = if a < n.size ∧ byteAt n a ≠ 0 then (if 63 < byteAt n a ∨ n.size < a + 1 + (byteAt n a).toNat then some (.inr (.inr ([], false)))
      else some (.inl (out ++ [n.extract (a + 1) (a + 1 + (byteAt n a).toNat)], ((a + 1 + (byteAt n a).toNat : Nat) : Int)))) else some (.inr (.inl (out, (a : Int)))) := by
  rw [m_ref03_row_s2]
  by_cases hc : a < n.size
  · have hb := byteAt_lt n a
    rw [if_pos (show (a : Int) < n.size by omega), sat_of (by omega) (by omega), Option.bind_some]
    by_cases h0 : byteAt n a ≠ 0
    · rw [if_pos h0, if_pos ⟨hc, h0⟩, Option.bind_some, w64_id (by omega) (by omega)]
      by_cases h1 : 63 < byteAt n a
      · rw [if_pos h1, if_pos (.inl h1)]
      · rw [if_neg h1, w64_id (x := (a : Int) + 1) (by omega) (by omega), w64_id (x := (a : Int) + 1 + byteAt n a) (by omega) (by omega)]
        by_cases h2 : n.size < a + 1 + (byteAt n a).toNat
        · rw [if_pos (by omega), if_pos (.inr h2)]
        · rw [if_neg (by omega), if_neg (by omega), scutMid, if_pos ⟨by omega, by omega, by omega⟩, Option.bind_some, app_of (by simp; omega), Option.bind_some,
            show ((a : Int) + 1).toNat = a + 1 by omega, show ((a : Int) + 1 + byteAt n a).toNat = a + 1 + (byteAt n a).toNat by omega]
          congr 4
          omega
    · rw [if_neg h0, if_neg (fun h => h0 h.2)]
  · rw [if_neg (by omega), if_neg (fun h => hc h.1)]
theorem row_loop {n : ByteArray} (hn : n.size ≤ 1099511627776) : ∀ (f a : Nat) (out : List ByteArray), n.size ≤ a + f → a ≤ n.size → out.length ≤ a →
    loop (fun s => m_ref03_row_s2 n s.1 s.2) (out, (a : Int)) = some (if (eachAt n f a).2 = -1 then .inr ([], false) else .inl (out ++ (eachAt n f a).1.map Prod.snd, (eachAt n f a).2)) := by
  intro f
  induction f with
  | zero =>
    intro a out h1 h2 h3
    rw [loop_inr (by simp only [row_step hn h2 h3]; rw [if_neg (by omega)])]
    simp only [eachAt, List.map_nil, List.append_nil]
    rw [if_neg (by omega)]
  | succ f ih =>
    intro a out h1 h2 h3
    have hb := byteAt_lt n a
    by_cases hc : a < n.size ∧ byteAt n a ≠ 0
    · by_cases h4 : 63 < byteAt n a ∨ n.size < a + 1 + (byteAt n a).toNat
      · rw [loop_inr (by simp only [row_step hn h2 h3]; rw [if_pos hc, if_pos h4])]
        rw [eachAt, if_pos hc, if_pos h4, if_pos rfl]
      · rw [loop_inl (by simp only [row_step hn h2 h3]; rw [if_pos hc, if_neg h4]), ih _ _ (by omega) (by omega) (by simp; omega)]
        rw [eachAt, if_pos hc, if_neg h4]
        simp only [List.map_cons, List.append_assoc, List.singleton_append]
    · rw [loop_inr (by simp only [row_step hn h2 h3]; rw [if_neg hc])]
      rw [eachAt, if_neg hc]
      simp only [List.map_nil, List.append_nil]
      rw [if_neg (by omega)]
theorem row_nm {n : ByteArray} {ls : List ByteArray} (h : Nm n ls) (hb : n.size ≤ 1099511627776) : m_ref03_row n = some (ls, true) := by
  have hs := nm_size h
  have := row_loop hb n.size 0 [] (by omega) (by omega) (by simp)
  rw [← eachP, each_nm h, if_neg (by simp only; omega)] at this
  rw [m_ref03_row]
  erw [this]
  simp only [Option.bind_some, Sum.elim_inl, m_ref03_row_j1, List.nil_append, starts_snd]
  rw [w64_id (by omega) (by omega), decide_eq_true rfl]
theorem row_no {n : ByteArray} (h : ¬ ∃ ls, Nm n ls) (hb : n.size ≤ 1099511627776) : ∃ l, m_ref03_row n = some (l, false) := by
  have := row_loop hb n.size 0 [] (by omega) (by omega) (by simp)
  rw [← eachP] at this
  rw [m_ref03_row]
  erw [this]
  by_cases h1 : (eachP n).2 = -1
  · rw [if_pos h1]; exact ⟨_, rfl⟩
  · rw [if_neg h1]
    refine ⟨[] ++ (eachP n).1.map Prod.snd, ?_⟩
    simp only [Option.bind_some, Sum.elim_inl, m_ref03_row_j1]
    rw [w64_id (by omega) (by omega)]
    rw [decide_eq_false]
    intro h2
    rcases each_no h with h3 | h3
    · exact h3 h2
    · rcases eachAt_any (n := n) n.size 0 (by omega) (by omega) with h4 | ⟨ls, rest, h4, h5, h6⟩
      · exact h1 h4
      · have hl := len_enc ls
        have hlen := congrArg List.length h5
        rw [List.drop_zero, ← size_bytes, List.length_append] at hlen
        rw [eachP, eachAt_enc h6 ls 0 n.size h4 h5 (by omega)] at h3
        simp only at h3
        omega
theorem rcheck_nm {n : ByteArray} {ls : List ByteArray} (h : Nm n ls) (hs : n.size ≤ 255) : m_ref03_Check n = some 0 := by
  rw [m_ref03_Check, row_nm h (by omega)]
  simp only [Option.bind_some, if_true]
  rw [if_neg (by omega)]
theorem rcheck_big {n : ByteArray} {ls : List ByteArray} (h : Nm n ls) (hs : 255 < n.size) (hb : n.size ≤ 1099511627776) : m_ref03_Check n = some 11 := by
  rw [m_ref03_Check, row_nm h (by omega)]
  simp only [Option.bind_some, if_true]
  rw [if_pos (by omega)]
theorem rcheck_no {n : ByteArray} (h : ¬ ∃ ls, Nm n ls) (hb : n.size ≤ 1099511627776) : m_ref03_Check n = some 10 := by
  obtain ⟨l, hl⟩ := row_no h hb
  rw [m_ref03_Check, hl]
  simp
theorem rlabels_nm {n : ByteArray} {ls : List ByteArray} (h : Nm n ls) (hs : n.size ≤ 255) : m_ref03_Labels n = some (ls, 0) := by
  rw [m_ref03_Labels, rcheck_nm h hs, Option.bind_some, if_neg (by simp), row_nm h (by omega)]; rfl
theorem rlabels_big {n : ByteArray} {ls : List ByteArray} (h : Nm n ls) (hs : 255 < n.size) (hb : n.size ≤ 1099511627776) : m_ref03_Labels n = some ([], 11) := by
  rw [m_ref03_Labels, rcheck_big h hs hb]; rfl
theorem rlabels_no {n : ByteArray} (h : ¬ ∃ ls, Nm n ls) (hb : n.size ≤ 1099511627776) : m_ref03_Labels n = some ([], 10) := by
  rw [m_ref03_Labels, rcheck_no h hb]; rfl
open Go.RowKit
theorem depth_nm {n : ByteArray} {ls : List ByteArray} (h : Nm n ls) (hs : n.size ≤ 255) : m_name_Depth n = some (ls.length : Int) := by
  rw [m_name_Depth, labels_nm h hs, Option.bind_some, if_neg (fun h => h rfl)]
theorem depth_big {n : ByteArray} {ls : List ByteArray} (h : Nm n ls) (hs : 255 < n.size) (hb : n.size ≤ 1099511627776) : m_name_Depth n = some (-1) := by
  rw [m_name_Depth, labels_big h hs hb]; rfl
theorem depth_no {n : ByteArray} (h : ¬ ∃ ls, Nm n ls) (hb : n.size ≤ 1099511627776) : m_name_Depth n = some (-1) := by
  rw [m_name_Depth, labels_no h hb]; rfl
def low (c : Int) : Int := if 65 ≤ c ∧ c ≤ 90 then c + 32 else c
def lowB (n : ByteArray) : ByteArray := strOfNums ((bytesI n).map low)
theorem low_range {c : Int} (h : 0 ≤ c ∧ c ≤ 255) : 0 ≤ low c ∧ low c ≤ 255 := by unfold low; split <;> omega
theorem lowB_bytes (n : ByteArray) : bytesI (lowB n) = (bytesI n).map low := bytesI_str (by
  intro x hx
  obtain ⟨y, hy, rfl⟩ := List.mem_map.1 hx
  exact low_range (bytesI_range n y hy))
theorem lowB_size (n : ByteArray) : (lowB n).size = n.size := by rw [size_bytes, lowB_bytes, List.length_map, ← size_bytes]
theorem or_low {c : Int} (h : 65 ≤ c ∧ c ≤ 90) : orI .u8 c 32 = c + 32 := by
  obtain ⟨k, hk⟩ := Int.eq_ofNat_of_zero_le (by omega : 0 ≤ c - 65)
  have hc : c = 65 + (k : Int) := by omega
  subst hc
  have : ∀ k : Fin 26, orI .u8 (65 + ((k.val : Nat) : Int)) 32 = 65 + ((k.val : Nat) : Int) + 32 := by decide +kernel
  exact this ⟨k, by omega⟩
/-- One byte after the other made small. -/
theorem low_loop (step : List Int → Int → Option ((List Int × Int) ⊕ List Int)) {n : ByteArray} (hn : n.size ≤ 1099511627776)
    (hs : ∀ (l : List Int) (k : Nat), l.length = n.size → step l (k : Int) = if k < n.size then some (.inl (l.set k (low (l.getD k 0)), ((k + 1 : Nat) : Int))) else some (.inr l)) :
    loop (fun s => step s.1 s.2) (bytesI n, 0) = some ((bytesI n).map low) := by
  have hl := size_bytes n
  refine loop_run (step := fun s => step s.1 s.2) n.size (fun k => (((bytesI n).take k).map low ++ (bytesI n).drop k, (k : Int))) _ (by simp) (fun k hk => ?_) ?_
  · rw [hs _ _ (by simp; omega), if_pos hk]
    congr 3
    have e1 : (bytesI n).drop k = (bytesI n)[k] :: (bytesI n).drop (k + 1) := List.drop_eq_getElem_cons (by omega)
    rw [e1, List.take_succ_eq_append_getElem (by omega), List.map_append]
    have hlen : (((bytesI n).take k).map low).length = k := by simp; omega
    rw [List.getD_eq_getElem?_getD, List.getElem?_append_right (by omega), hlen, Nat.sub_self, List.set_append_right _ _ (by omega), hlen, Nat.sub_self]
    simp only [List.set_cons_zero, List.getElem?_cons_zero, Option.getD_some, List.map_cons, List.map_nil, List.append_assoc, List.cons_append, List.nil_append]
  · rw [hs _ _ (by simp; omega), if_neg (by omega), List.take_of_length_le (by omega), List.drop_of_length_le (by omega), List.append_nil]
theorem at_getD0 {l : List Int} {k : Nat} (h : k < l.length) : at_ l (k : Int) = some (l.getD k 0) := by
  rw [at_nat h, List.getD_eq_getElem?_getD, List.getElem?_eq_getElem h]; rfl
theorem set_same (l : List Int) (k : Nat) (hk : k < l.length) : l.set k (l.getD k 0) = l := by
  rw [List.getD_eq_getElem?_getD, List.getElem?_eq_getElem hk]; simp
theorem lower_eq {n : ByteArray} (hn : n.size ≤ 1099511627776) : m_name_Lower n = some (lowB n) := by
  have hl := size_bytes n
  rw [m_name_Lower]
  erw [low_loop (m_name_Lower_s2 n) hn (fun l k hlen => ?_)]
  · rfl
  rw [m_name_Lower_s2]
  by_cases hk : k < n.size
  · rw [if_pos (by omega), if_pos hk, at_getD0 (by omega), Option.bind_some, Option.bind_some, w64_id (by omega) (by omega)]
    by_cases h1 : 65 ≤ l.getD k 0
    · rw [if_pos h1]
      by_cases h2 : l.getD k 0 ≤ 90
      · rw [if_pos h2, Option.bind_some, Option.bind_some, or_low ⟨h1, h2⟩, setAt, if_pos ⟨by omega, by omega⟩, Option.bind_some, low, if_pos ⟨h1, h2⟩]; rfl
      · rw [if_neg h2, low, if_neg (fun h => h2 h.2), set_same l k (by omega)]; rfl
    · rw [if_neg h1, low, if_neg (fun h => h1 h.1), set_same l k (by omega)]; rfl
  · rw [if_neg (by omega), if_neg hk]
theorem low_small {c : Int} (h : c ≤ 63) : low c = c := by unfold low; rw [if_neg (by omega)]
theorem low_zero {c : Int} : low c = 0 ↔ c = 0 := by unfold low; split <;> omega
theorem low_big {c : Int} : 63 < low c ↔ 63 < c := by unfold low; split <;> omega
theorem byteAt_low (n : ByteArray) (a : Nat) : byteAt (lowB n) a = low (byteAt n a) := by
  by_cases h : a < n.size
  · rw [← bytesI_get n a h, ← bytesI_get (lowB n) a (by rw [lowB_size]; exact h)]
    simp only [lowB_bytes, List.getElem_map]
  · unfold byteAt
    rw [dif_neg (by rw [lowB_size]; simp; omega), dif_neg (by simp; omega)]; rfl
theorem extract_low (n : ByteArray) (i j : Nat) : (lowB n).extract i j = lowB (n.extract i j) := bytesI_inj (by
  rw [bytesI_extract, lowB_bytes, lowB_bytes, bytesI_extract, List.map_drop, List.map_take])
theorem eachAt_low (n : ByteArray) : ∀ (f a : Nat), eachAt (lowB n) f a = ((eachAt n f a).1.map (fun x => (x.1, lowB x.2)), (eachAt n f a).2) := by
  intro f
  induction f with
  | zero => intro a; rfl
  | succ f ih =>
    intro a
    rw [eachAt, eachAt, lowB_size, byteAt_low]
    by_cases h1 : a < n.size ∧ byteAt n a ≠ 0
    · rw [if_pos h1, if_pos ⟨h1.1, fun h => h1.2 (low_zero.1 h)⟩]
      by_cases h2 : 63 < byteAt n a
      · rw [if_pos (.inl (low_big.2 h2)), if_pos (.inl h2)]; rfl
      · rw [low_small (by omega)]
        by_cases h3 : 63 < byteAt n a ∨ n.size < a + 1 + (byteAt n a).toNat
        · rw [if_pos h3, if_pos h3]; rfl
        · rw [if_neg h3, if_neg h3, ih, extract_low]; rfl
    · rw [if_neg h1, if_neg (fun h => h1 ⟨h.1, fun h' => h.2 (low_zero.2 h')⟩)]; rfl
theorem encB_low {ls : List ByteArray} (h : okLs ls) : encB (ls.map lowB) = (encB ls).map low := by
  induction ls with
  | nil => rfl
  | cons s ls ih =>
    have := okLs_cons.1 h
    rw [List.map_cons, encB_cons, encB_cons, ih this.2, lowB_size, lowB_bytes, List.map_append, List.map_cons, low_small (by omega)]
theorem okLs_low {ls : List ByteArray} (h : okLs ls) : okLs (ls.map lowB) := by
  intro s hs
  obtain ⟨t, ht, rfl⟩ := List.mem_map.1 hs
  rw [lowB_size]; exact h t ht
theorem nm_low {n : ByteArray} {ls : List ByteArray} (h : Nm n ls) : Nm (lowB n) (ls.map lowB) := ⟨okLs_low h.1, by
  rw [lowB_bytes, h.2, List.map_append, encB_low h.1]; rfl⟩
theorem nm_iff (n : ByteArray) : (∃ ls, Nm n ls) ↔ (eachP n).2 = (n.size : Int) - 1 ∧ 0 ≤ (eachP n).2 := by
  constructor
  · rintro ⟨ls, h⟩
    have := nm_size h
    rw [each_nm h]; exact ⟨rfl, by simp only; omega⟩
  · intro h
    by_cases hc : ∃ ls, Nm n ls
    · exact hc
    · rcases each_no hc with h1 | h1
      · exact absurd h.1 h1
      · omega
theorem nm_low_no {n : ByteArray} (h : ¬ ∃ ls, Nm n ls) : ¬ ∃ ls, Nm (lowB n) ls := by
  rw [nm_iff] at h ⊢
  rw [eachP, lowB_size, eachAt_low]
  exact h
/-- In place the other way round. -/
theorem rev_loop (l : List ByteArray) (hl : l.length ≤ 1099511627776) : m_slices_Reverse_93 l = some l.reverse := by
  obtain ⟨r, h1, rfl⟩ := loop_rule (step := fun s : List ByteArray × Int × Int => m_slices_Reverse_93_s2 s.1 s.2.1 s.2.2)
    (fun s => ∃ i j : Nat, s.2.1 = (i : Int) ∧ s.2.2 = (j : Int) - 1 ∧ i + j = l.length ∧ s.1.length = l.length ∧ i ≤ j + 1 ∧ ∀ t, t < l.length → s.1[t]? = if t < i ∨ j ≤ t then l[l.length - 1 - t]? else l[t]?)
    (fun s => (s.2.2 + 1 - s.2.1).toNat + 1) (fun r => r = l.reverse)
    (by
      rintro ⟨q, i', j'⟩ ⟨i, j, g1, g2, g3, g4, g5, g6⟩
      simp only at g1 g2 g4 g6
      subst g1 g2
      simp only
      rw [m_slices_Reverse_93_s2]
      by_cases hc : i + 1 < j
      · left
        have hj : (j : Int) - 1 = ((j - 1 : Nat) : Int) := by omega
        rw [if_pos (by omega), hj, at_nat (by omega), Option.bind_some, at_nat (by omega), Option.bind_some, Option.bind_some, setAt, if_pos ⟨by omega, by omega⟩, Option.bind_some, at_nat (by rw [List.length_set]; omega), Option.bind_some, setAt, if_pos ⟨by omega, by rw [List.length_set]; omega⟩, Option.bind_some, w64_id (by omega) (by omega), w64_id (by omega) (by omega)]
        refine ⟨_, rfl, ⟨i + 1, j - 1, by simp only; omega, rfl, by omega, by simp only [List.length_set]; omega, by omega, fun t ht => ?_⟩, by simp only; omega⟩
        have gi := g6 i (by omega)
        have gj := g6 (j - 1) (by omega)
        rw [if_neg (by omega)] at gi gj
        have ei : q[i]'(by omega) = l[i]'(by omega) := by
          have : some (q[i]'(by omega)) = some (l[i]'(by omega)) := by rw [← List.getElem?_eq_getElem, ← List.getElem?_eq_getElem]; exact gi
          injection this
        have ej : q[j - 1]'(by omega) = l[j - 1]'(by omega) := by
          have : some (q[j - 1]'(by omega)) = some (l[j - 1]'(by omega)) := by rw [← List.getElem?_eq_getElem, ← List.getElem?_eq_getElem]; exact gj
          injection this
        simp only [Int.toNat_natCast, List.getElem?_set, List.length_set]
        by_cases t1 : j - 1 = t
        · subst t1
          rw [if_pos rfl, if_pos (by omega), if_pos (by omega), show l.length - 1 - (j - 1) = i by omega, List.getElem?_eq_getElem (by omega), ei]
        · rw [if_neg t1]
          by_cases t2 : i = t
          · subst t2
            rw [if_pos rfl, if_pos (by omega), if_pos (by omega), show l.length - 1 - i = j - 1 by omega, List.getElem?_eq_getElem (by omega), ej]
          · rw [if_neg t2, g6 t ht]
            by_cases t3 : t < i ∨ j ≤ t
            · rw [if_pos t3, if_pos (by omega)]
            · rw [if_neg t3, if_neg (by omega)]
      · right
        refine ⟨q, by rw [if_neg (by omega)], ?_⟩
        apply List.ext_getElem?
        intro t
        by_cases ht : t < l.length
        · rw [List.getElem?_reverse ht, g6 t ht]
          by_cases t3 : t < i ∨ j ≤ t
          · rw [if_pos t3]
          · rw [if_neg t3]; congr 1; omega
        · rw [List.getElem?_eq_none (by omega), List.getElem?_eq_none (by simp; omega)])
    (s0 := (l, 0, (l.length : Int) - 1)) ⟨0, l.length, rfl, rfl, by omega, rfl, by omega, fun t ht => by rw [if_neg (by omega)]⟩
  rw [m_slices_Reverse_93, w64_id (by omega) (by omega)]
  erw [h1]
  rfl
/-- A name's labels with small letters, the last one ahead. -/
def revL (ls : List ByteArray) : List ByteArray := (ls.map lowB).reverse
theorem revL_len (ls : List ByteArray) : (revL ls).length = ls.length := by simp [revL]
theorem nm_few {n : ByteArray} {ls : List ByteArray} (h : Nm n ls) (hs : n.size ≤ 255) : ls.length ≤ 254 := by
  have := len_enc ls; have := nm_size h; omega
theorem two_nm {a b : ByteArray} {x y : List ByteArray} (h : Nm a x) (hs : a.size ≤ 255) (h' : Nm b y) (hs' : b.size ≤ 255) : m_name_two a b = some (revL x, revL y, true) := by
  have := nm_few h hs
  have := nm_few h' hs'
  rw [m_name_two, lower_eq (by omega), Option.bind_some, labels_nm (nm_low h) (by rw [lowB_size]; exact hs), Option.bind_some, lower_eq (by omega), Option.bind_some, labels_nm (nm_low h') (by rw [lowB_size]; exact hs'), Option.bind_some, rev_loop _ (by simp; omega), Option.bind_some, rev_loop _ (by simp; omega), Option.bind_some, if_pos rfl]
  rfl
/-- It is a name of 255 bytes at most. -/
def isNm (n : ByteArray) : Prop := ∃ ls, Nm n ls ∧ n.size ≤ 255
theorem low_labels_no {a : ByteArray} (h : ¬ isNm a) (hb : a.size ≤ 1099511627776) : ∃ e, m_name_Labels (lowB a) = some ([], e) ∧ e ≠ 0 := by
  rcases nm_cases a with h1 | ⟨ls, h1, h2⟩ | h1
  · exact absurd h1 h
  · exact ⟨11, labels_big (nm_low h1) (by rw [lowB_size]; exact h2) (by rw [lowB_size]; exact hb), by omega⟩
  · exact ⟨10, labels_no (nm_low_no h1) (by rw [lowB_size]; exact hb), by omega⟩
theorem low_labels_any {a : ByteArray} (hb : a.size ≤ 1099511627776) : ∃ x e, m_name_Labels (lowB a) = some (x, e) ∧ x.length ≤ 1099511627776 := by
  by_cases h : isNm a
  · obtain ⟨ls, h1, h2⟩ := h
    have := nm_few h1 h2
    exact ⟨_, 0, labels_nm (nm_low h1) (by rw [lowB_size]; exact h2), by simp; omega⟩
  · obtain ⟨e, h1, _⟩ := low_labels_no h hb
    exact ⟨[], e, h1, by simp⟩
theorem two_no {a b : ByteArray} (h : ¬ (isNm a ∧ isNm b)) (ha : a.size ≤ 1099511627776) (hb : b.size ≤ 1099511627776) : ∃ x y, m_name_two a b = some (x, y, false) := by
  obtain ⟨x, e, h1, h2⟩ := low_labels_any ha
  obtain ⟨y, f, h3, h4⟩ := low_labels_any hb
  refine ⟨x.reverse, y.reverse, ?_⟩
  rw [m_name_two, lower_eq ha, Option.bind_some, h1, Option.bind_some, lower_eq hb, Option.bind_some, h3, Option.bind_some, rev_loop _ h2, Option.bind_some, rev_loop _ h4, Option.bind_some]
  by_cases he : e = 0
  · rw [if_pos he]
    have hf : f ≠ 0 := by
      intro hf
      by_cases c1 : isNm a
      · obtain ⟨f', h5, h6⟩ := low_labels_no (fun hb' => h ⟨c1, hb'⟩) hb
        rw [h3] at h5
        injection h5 with h5
        injection h5 with _ h5
        exact h6 (h5.symm.trans hf)
      · obtain ⟨f', h5, h6⟩ := low_labels_no c1 ha
        rw [h1] at h5
        injection h5 with h5
        injection h5 with _ h5
        exact h6 (h5.symm.trans he)
    rw [decide_eq_false hf]
  · rw [if_neg he]
/-- How many are alike ahead. -/
def cpl : List ByteArray → List ByteArray → Nat
  | x :: xs, y :: ys => if x = y then cpl xs ys + 1 else 0
  | _, _ => 0
theorem cpl_le : ∀ (x y : List ByteArray), cpl x y ≤ x.length ∧ cpl x y ≤ y.length
  | [], y => by simp [cpl]
  | x :: xs, [] => by simp [cpl]
  | x :: xs, y :: ys => by
    have := cpl_le xs ys
    rw [cpl]; split <;> simp <;> omega
theorem cpl_lt : ∀ (x y : List ByteArray) (k : Nat), k < cpl x y → x[k]? = y[k]? ∧ k < x.length ∧ k < y.length
  | [], y, k, h => by simp [cpl] at h
  | x :: xs, [], k, h => by simp [cpl] at h
  | x :: xs, y :: ys, k, h => by
    rw [cpl] at h
    split at h
    · rename_i hxy
      cases k with
      | zero => subst hxy; simp
      | succ k =>
        have := cpl_lt xs ys k (by omega)
        simpa using this
    · omega
theorem cpl_end : ∀ (x y : List ByteArray), cpl x y < x.length → cpl x y < y.length → x[cpl x y]? ≠ y[cpl x y]?
  | [], y, h, _ => by simp at h
  | x :: xs, [], _, h => by simp at h
  | x :: xs, y :: ys, h1, h2 => by
    rw [cpl] at h1 h2 ⊢
    split
    · rename_i hxy
      rw [if_pos hxy] at h1 h2
      have := cpl_end xs ys (by simpa using h1) (by simpa using h2)
      simpa using this
    · rename_i hxy
      simpa using hxy
theorem shared_nm {a b : ByteArray} {x y : List ByteArray} (h : Nm a x) (hs : a.size ≤ 255) (h' : Nm b y) (hs' : b.size ≤ 255) : m_name_Shared a b = some (cpl (revL x) (revL y) : Int) := by
  have f1 := nm_few h hs
  have f2 := nm_few h' hs'
  have g1 := revL_len x
  have g2 := revL_len y
  have hle := cpl_le (revL x) (revL y)
  have := loop_run (step := fun s => m_name_Shared_s2 (revL x) (revL y) s) (cpl (revL x) (revL y)) (fun k => (k : Int)) ((cpl (revL x) (revL y) : Nat) : Int) (s0 := 0) rfl
    (fun k hk => by
      obtain ⟨e1, e2, e3⟩ := cpl_lt _ _ k hk
      rw [List.getElem?_eq_getElem e2, List.getElem?_eq_getElem e3] at e1
      injection e1 with e1
      simp only [m_name_Shared_s2, m_name_Shared_c1]
      rw [if_pos (by omega), if_pos (by omega), at_nat e2, Option.bind_some, at_nat e3, Option.bind_some, Option.bind_some, if_pos (decide_eq_true e1), w64_id (by omega) (by omega)]
      rfl)
    (by
      simp only [m_name_Shared_s2, m_name_Shared_c1]
      by_cases c1 : cpl (revL x) (revL y) < (revL x).length
      · rw [if_pos (by omega)]
        by_cases c2 : cpl (revL x) (revL y) < (revL y).length
        · have hne := cpl_end _ _ c1 c2
          rw [List.getElem?_eq_getElem c1, List.getElem?_eq_getElem c2] at hne
          rw [if_pos (by omega), at_nat c1, Option.bind_some, at_nat c2, Option.bind_some, Option.bind_some, if_neg]
          intro hd
          exact hne (congrArg some (of_decide_eq_true hd))
        · rw [if_neg (by omega)]; rfl
      · rw [if_neg (by omega)]; rfl)
  rw [m_name_Shared, two_nm h hs h' hs', Option.bind_some, if_pos rfl]
  erw [this]
  rfl
theorem shared_no {a b : ByteArray} (h : ¬ (isNm a ∧ isNm b)) (ha : a.size ≤ 1099511627776) (hb : b.size ≤ 1099511627776) : m_name_Shared a b = some (-1) := by
  obtain ⟨x, y, h1⟩ := two_no h ha hb
  rw [m_name_Shared, h1]; rfl
theorem depth_not {n : ByteArray} (h : ¬ isNm n) (hb : n.size ≤ 1099511627776) : m_name_Depth n = some (-1) := by
  rcases nm_cases n with h1 | ⟨ls, h1, h2⟩ | h1
  · exact absurd h1 h
  · exact depth_big h1 h2 hb
  · exact depth_no h1 hb
theorem under_nm {a b : ByteArray} {x y : List ByteArray} (h : Nm a x) (hs : a.size ≤ 255) (h' : Nm b y) (hs' : b.size ≤ 255) : m_name_Under a b = some (decide (cpl (revL x) (revL y) = y.length)) := by
  rw [m_name_Under, depth_nm h' hs', Option.bind_some, if_pos (by omega), shared_nm h hs h' hs', Option.bind_some]
  congr 1
  exact decide_eq_decide.2 (by omega)
theorem under_no {a b : ByteArray} (h : ¬ (isNm a ∧ isNm b)) (ha : a.size ≤ 1099511627776) (hb : b.size ≤ 1099511627776) : m_name_Under a b = some false := by
  by_cases c : isNm b
  · obtain ⟨y, h1, h2⟩ := c
    rw [m_name_Under, depth_nm h1 h2, Option.bind_some, if_pos (by omega), shared_no h ha hb, Option.bind_some, decide_eq_false (by omega)]
  · rw [m_name_Under, depth_not c hb, Option.bind_some, if_neg (by omega)]
open Go.RowKit
theorem a_nm : Nm (⟨#[1, 97, 0]⟩ : ByteArray) [⟨#[97]⟩] := ⟨by decide +kernel, by decide +kernel⟩
theorem root_nm : Nm (⟨#[0]⟩ : ByteArray) [] := ⟨by decide +kernel, by decide +kernel⟩
theorem rdepth_nm {n : ByteArray} {ls : List ByteArray} (h : Nm n ls) (hs : n.size ≤ 255) : m_ref03_Depth n = some (ls.length : Int) := by
  rw [m_ref03_Depth, rlabels_nm h hs, Option.bind_some, if_neg (fun h => h rfl)]
open Go.RowKit
theorem rlower_eq {n : ByteArray} (hn : n.size ≤ 1099511627776) : m_ref03_Lower n = some (lowB n) := by
  have hl := size_bytes n
  rw [m_ref03_Lower]
  erw [low_loop (m_ref03_Lower_s2 n) hn (fun l k hlen => ?_)]
  · rfl
  rw [m_ref03_Lower_s2]
  by_cases hk : k < n.size
  · rw [if_pos (by omega), if_pos hk, at_getD0 (by omega), Option.bind_some, Option.bind_some, w64_id (by omega) (by omega)]
    by_cases h1 : 65 ≤ l.getD k 0
    · rw [if_pos h1]
      by_cases h2 : l.getD k 0 ≤ 90
      · rw [if_pos h2, Option.bind_some, Option.bind_some, wrapu8 (by omega) (by omega), setAt, if_pos ⟨by omega, by omega⟩, Option.bind_some, low, if_pos ⟨h1, h2⟩]; rfl
      · rw [if_neg h2, low, if_neg (fun h => h2 h.2), set_same l k (by omega)]; rfl
    · rw [if_neg h1, low, if_neg (fun h => h1 h.1), set_same l k (by omega)]; rfl
  · rw [if_neg (by omega), if_neg hk]
theorem revL_get {ls : List ByteArray} {k : Nat} (h : k < ls.length) : (revL ls)[k]? = some (lowB (ls[ls.length - 1 - k]'(by omega))) := by
  rw [revL, List.getElem?_reverse (by simpa using h), List.length_map, List.getElem?_map, List.getElem?_eq_getElem (by omega)]; rfl
theorem nm_lab {n : ByteArray} {ls : List ByteArray} (h : Nm n ls) : ∀ s ∈ ls, s.size ≤ 63 := fun s hs => (h.1 s hs).2
theorem rshared_nm {a b : ByteArray} {x y : List ByteArray} (h : Nm a x) (hs : a.size ≤ 255) (h' : Nm b y) (hs' : b.size ≤ 255) : m_ref03_Shared a b = some (cpl (revL x) (revL y) : Int) := by
  have f1 := nm_few h hs
  have f2 := nm_few h' hs'
  have g1 := revL_len x
  have g2 := revL_len y
  have hle := cpl_le (revL x) (revL y)
  have hgo : ∀ (k : Nat) (c1 : k < x.length) (c2 : k < y.length), m_ref03_Shared_s2 x y (k : Int) = if (revL x)[k]? = (revL y)[k]? then some (.inl ((k + 1 : Nat) : Int)) else some (.inr (k : Int)) := by
    intro k c1 c2
    have e1 : x[x.length - 1 - k].size ≤ 63 := nm_lab h _ (List.getElem_mem _)
    have e2 : y[y.length - 1 - k].size ≤ 63 := nm_lab h' _ (List.getElem_mem _)
    rw [m_ref03_Shared_s2, if_pos (by omega), if_pos (by omega), w64_id (x := (x.length : Int) - 1) (by omega) (by omega), w64_id (x := (y.length : Int) - 1) (by omega) (by omega), w64_id (x := (x.length : Int) - 1 - k) (by omega) (by omega), w64_id (x := (y.length : Int) - 1 - k) (by omega) (by omega), w64_id (by omega) (by omega),
      show (x.length : Int) - 1 - k = ((x.length - 1 - k : Nat) : Int) by omega, show (y.length : Int) - 1 - k = ((y.length - 1 - k : Nat) : Int) by omega, at_nat (by omega), Option.bind_some, at_nat (by omega), Option.bind_some, rlower_eq (by omega), Option.bind_some, rlower_eq (by omega), Option.bind_some, revL_get c1, revL_get c2]
    by_cases hc : lowB x[x.length - 1 - k] = lowB y[y.length - 1 - k]
    · rw [if_pos hc, if_pos (by rw [hc])]; rfl
    · rw [if_neg hc, if_neg (fun h => hc (Option.some.inj h))]
  have := loop_run (step := fun s => m_ref03_Shared_s2 x y s) (cpl (revL x) (revL y)) (fun k => (k : Int)) ((cpl (revL x) (revL y) : Nat) : Int) (s0 := 0) rfl
    (fun k hk => by
      obtain ⟨e1, e2, e3⟩ := cpl_lt _ _ k hk
      rw [hgo k (by omega) (by omega), if_pos e1])
    (by
      by_cases c : cpl (revL x) (revL y) < x.length ∧ cpl (revL x) (revL y) < y.length
      · rw [hgo _ c.1 c.2, if_neg (cpl_end _ _ (by omega) (by omega))]
      · rw [m_ref03_Shared_s2]
        by_cases c1 : cpl (revL x) (revL y) < x.length
        · rw [if_pos (by omega), if_neg (by omega)]
        · rw [if_neg (by omega)])
  rw [m_ref03_Shared, rlabels_nm h hs, Option.bind_some, rlabels_nm h' hs', Option.bind_some, if_neg (fun h => h rfl), if_neg (fun h => h rfl)]
  erw [this]
  rfl
theorem rlabels_not {n : ByteArray} (h : ¬ isNm n) (hb : n.size ≤ 1099511627776) : ∃ e, m_ref03_Labels n = some ([], e) ∧ e ≠ 0 := by
  rcases nm_cases n with h1 | ⟨ls, h1, h2⟩ | h1
  · exact absurd h1 h
  · exact ⟨11, rlabels_big h1 h2 hb, by omega⟩
  · exact ⟨10, rlabels_no h1 hb, by omega⟩
theorem rshared_no {a b : ByteArray} (h : ¬ (isNm a ∧ isNm b)) (ha : a.size ≤ 1099511627776) (hb : b.size ≤ 1099511627776) : m_ref03_Shared a b = some (-1) := by
  by_cases c : isNm a
  · obtain ⟨e, e1, e2⟩ := rlabels_not (fun hb' => h ⟨c, hb'⟩) hb
    obtain ⟨x, x1, x2⟩ := c
    rw [m_ref03_Shared, rlabels_nm x1 x2, Option.bind_some, e1, Option.bind_some, if_neg (fun h => h rfl), if_pos e2]
  · obtain ⟨e, e1, e2⟩ := rlabels_not c ha
    by_cases c2 : isNm b
    · obtain ⟨y, y1, y2⟩ := c2
      rw [m_ref03_Shared, e1, Option.bind_some, rlabels_nm y1 y2, Option.bind_some, if_pos e2]
    · obtain ⟨f, f1, f2⟩ := rlabels_not c2 hb
      rw [m_ref03_Shared, e1, Option.bind_some, f1, Option.bind_some, if_pos e2]
theorem check_not {n : ByteArray} (h : ¬ isNm n) (hb : n.size ≤ 1099511627776) : ∃ e, m_name_Check n = some e ∧ e ≠ 0 := by
  rcases nm_cases n with h1 | ⟨ls, h1, h2⟩ | h1
  · exact absurd h1 h
  · exact ⟨11, check_big h1 h2 hb, by omega⟩
  · exact ⟨10, check_no h1 hb, by omega⟩
theorem runder_nm {a b : ByteArray} {x y : List ByteArray} (h : Nm a x) (hs : a.size ≤ 255) (h' : Nm b y) (hs' : b.size ≤ 255) : m_ref03_Under a b = some (decide (cpl (revL x) (revL y) = y.length)) := by
  rw [m_ref03_Under, rshared_nm h hs h' hs', Option.bind_some, if_pos (by omega), rdepth_nm h' hs', Option.bind_some]
  exact congrArg some (decide_eq_decide.2 (by omega))
theorem runder_no {a b : ByteArray} (h : ¬ (isNm a ∧ isNm b)) (ha : a.size ≤ 1099511627776) (hb : b.size ≤ 1099511627776) : m_ref03_Under a b = some false := by
  rw [m_ref03_Under, rshared_no h ha hb]; rfl
open Go.RowKit
/-- Where in a list something is first true, and what stands there. -/
def fndX {α : Type} (p : α → Bool) : List α → Nat → Option (Nat × α)
  | [], _ => none
  | x :: r, i => if p x = true then some (i, x) else fndX p r (i + 1)
def fndI {α : Type} : Option (Nat × α) → Int
  | some z => (z.1 : Int)
  | none => -1
theorem fndX_some {α : Type} {p : α → Bool} : ∀ {l : List α} {i k : Nat} {x : α}, fndX p l i = some (k, x) → i ≤ k ∧ l[k - i]? = some x ∧ p x = true ∧ ∀ j, j < k - i → ∀ y, l[j]? = some y → p y = false
  | [], i, k, x, h => by cases h
  | y :: r, i, k, x, h => by
    rw [fndX] at h
    by_cases hp : p y = true
    · rw [if_pos hp] at h; injection h with h; injection h with h1 h2; subst h1 h2
      exact ⟨Nat.le_refl _, by simp, hp, fun j hj => by omega⟩
    · rw [if_neg hp] at h
      obtain ⟨h1, h2, h3, h4⟩ := fndX_some h
      refine ⟨by omega, ?_, h3, fun j hj z hz => ?_⟩
      · rw [show k - i = (k - (i + 1)) + 1 by omega]; simpa using h2
      · cases j with
        | zero => simp at hz; subst hz; simpa using hp
        | succ j => exact h4 j (by omega) z (by simpa using hz)
theorem fndX_none {α : Type} {p : α → Bool} : ∀ {l : List α} {i : Nat}, fndX p l i = none → ∀ y ∈ l, p y = false
  | [], i, h, y, hy => by cases hy
  | x :: r, i, h, y, hy => by
    rw [fndX] at h
    by_cases hp : p x = true
    · rw [if_pos hp] at h; cases h
    · rw [if_neg hp] at h
      rcases List.mem_cons.1 hy with rfl | hy
      · simpa using hp
      · exact fndX_none h y hy
theorem idx_loop {α : Type} (p : α → Bool) {l : List α} (hl : l.length ≤ 4611686018427387904) (step : Int → Option (Int ⊕ (Unit ⊕ Int)))
    (hs : ∀ i : Int, step i = if i < (l.length : Int) then (at_ l i).bind fun x => if p x = true then some (.inr (.inr i)) else some (.inl (w64 (i + 1))) else some (.inr (.inl ()))) :
    ∀ (r pre : List α), l = pre ++ r → loop step (pre.length : Int) = some (match fndX p r pre.length with | some z => .inr (z.1 : Int) | none => .inl ()) := by
  intro r
  induction r with
  | nil =>
    intro pre h
    rw [List.append_nil] at h
    have := hs (pre.length : Int)
    rw [if_neg (by rw [h]; omega)] at this
    rw [loop_inr this]; rfl
  | cons x r ih =>
    intro pre h
    have hlen : l.length = pre.length + (r.length + 1) := by rw [h]; simp
    have hat : at_ l (pre.length : Int) = some x := by rw [at_nat (by omega)]; simp [h]
    have hst := hs (pre.length : Int)
    rw [if_pos (by omega), hat, Option.bind_some] at hst
    rw [fndX]
    by_cases hp : p x = true
    · rw [if_pos hp] at hst
      rw [loop_inr hst, if_pos hp]
    · rw [if_neg hp, w64_id (by omega) (by omega)] at hst
      have := ih (pre ++ [x]) (by rw [h]; simp)
      rw [List.length_append, List.length_singleton] at this
      rw [loop_inl hst, if_neg hp]
      exact this
theorem take_fnd {α : Type} {p : α → Bool} {l : List α} {k : Nat} {x : α} (h : fndX p l 0 = some (k, x)) : k < l.length ∧ p x = true ∧ l[k]? = some x ∧ (l.take k).filter (fun x => !p x) = l.take k := by
  obtain ⟨h1, h2, h3, h4⟩ := fndX_some h
  simp only [Nat.sub_zero] at h2 h4
  have hk := (List.getElem?_eq_some_iff.1 h2).1
  refine ⟨hk, h3, h2, List.filter_eq_self.2 fun y hy => ?_⟩
  obtain ⟨j, hj, rfl⟩ := List.mem_take_iff_getElem.1 hy
  have := h4 j (by omega) _ (List.getElem?_eq_getElem (by omega))
  simp [this]
open Go.RowKit
theorem low_low (c : Int) : low (low c) = low c := by
  unfold low
  split
  · rw [if_neg (by omega)]
  · rfl
theorem revL_low (ls : List ByteArray) : revL (ls.map lowB) = revL ls := by
  rw [revL, revL, List.map_map]
  congr 1
  refine List.map_congr_left fun s _ => ?_
  simp only [Function.comp_apply]
  rw [lowB, lowB_bytes, List.map_map]
  rw [lowB]
  congr 1
  exact List.map_congr_left fun c _ => low_low c
open Go.RowKit
/-- The labels of a name. -/
noncomputable def labU (n : ByteArray) : List ByteArray := (Classical.epsilon fun ls => Nm n ls)
theorem labU_eq {n : ByteArray} {ls : List ByteArray} (h : Nm n ls) : labU n = ls := nm_inj (Classical.epsilon_spec (p := fun ls => Nm n ls) ⟨ls, h⟩) h
/-- a is under b. -/
noncomputable def undP (a b : ByteArray) : Bool := @decide (isNm a ∧ isNm b ∧ revL (labU b) <+: revL (labU a)) (Classical.propDecidable _)
theorem cpl_pfx : ∀ X Y : List ByteArray, cpl X Y = Y.length ↔ Y <+: X
  | [], [] => by simp [cpl]
  | [], _ :: _ => by simp [cpl]
  | _ :: _, [] => by simp [cpl]
  | x :: X, y :: Y => by
    rw [cpl, List.cons_prefix_cons, ← cpl_pfx X Y]
    by_cases h : x = y
    · subst h; simp
    · rw [if_neg h]; simp [Ne.symm h]
theorem undP_t {a b : ByteArray} : undP a b = true ↔ isNm a ∧ isNm b ∧ revL (labU b) <+: revL (labU a) := by unfold undP; exact @decide_eq_true_iff _ (Classical.propDecidable _)
theorem undP_nm {a b : ByteArray} {x y : List ByteArray} (h : Nm a x) (hs : a.size ≤ 255) (h' : Nm b y) (hs' : b.size ≤ 255) : undP a b = decide (cpl (revL x) (revL y) = y.length) := by
  have hc := cpl_pfx (revL x) (revL y)
  rw [revL_len] at hc
  have e : undP a b = true ↔ cpl (revL x) (revL y) = y.length := by
    rw [undP_t, labU_eq h, labU_eq h', ← hc]
    exact ⟨fun g => g.2.2, fun g => ⟨⟨x, h, hs⟩, ⟨y, h', hs'⟩, g⟩⟩
  cases hu : undP a b with
  | true => exact (decide_eq_true (e.1 hu)).symm
  | false => exact (decide_eq_false fun g => by rw [e.2 g] at hu; cases hu).symm
theorem undP_no {a b : ByteArray} (h : ¬ (isNm a ∧ isNm b)) : undP a b = false := by
  cases hu : undP a b with
  | false => rfl
  | true => exact absurd ⟨(undP_t.1 hu).1, (undP_t.1 hu).2.1⟩ h
theorem und_code {a b : ByteArray} (ha : a.size ≤ 1099511627776) (hb : b.size ≤ 1099511627776) : m_name_Under a b = some (undP a b) := by
  by_cases h : isNm a ∧ isNm b
  · obtain ⟨⟨x, x1, x2⟩, ⟨y, y1, y2⟩⟩ := h
    rw [under_nm x1 x2 y1 y2, undP_nm x1 x2 y1 y2]
  · rw [under_no h ha hb, undP_no h]
theorem rund_code {a b : ByteArray} (ha : a.size ≤ 1099511627776) (hb : b.size ≤ 1099511627776) : m_ref03_Under a b = some (undP a b) := by
  by_cases h : isNm a ∧ isNm b
  · obtain ⟨⟨x, x1, x2⟩, ⟨y, y1, y2⟩⟩ := h
    rw [runder_nm x1 x2 y1 y2, undP_nm x1 x2 y1 y2]
  · rw [runder_no h ha hb, undP_no h]
theorem und_low {n z : ByteArray} (hz : isNm z) : undP n (lowB z) = undP n z := by
  by_cases hn : isNm n
  · obtain ⟨x, x1, x2⟩ := hn
    obtain ⟨y, y1, y2⟩ := hz
    rw [undP_nm x1 x2 y1 y2, undP_nm x1 x2 (nm_low y1) (by rw [lowB_size]; exact y2), revL_low, List.length_map]
  · rw [undP_no (fun h => hn h.1), undP_no (fun h => hn h.1)]
theorem und_trans {a b c : ByteArray} (h1 : undP a b = true) (h2 : undP b c = true) : undP a c = true := by
  rw [undP_t] at h1 h2 ⊢
  obtain ⟨a1, a2, a3⟩ := h1
  obtain ⟨-, b2, b3⟩ := h2
  exact ⟨a1, b2, b3.trans a3⟩
def rootB : ByteArray := ⟨#[0]⟩
theorem und_root {n : ByteArray} (h : isNm n) : undP n rootB = true := by
  obtain ⟨x, x1, x2⟩ := h
  show undP n ⟨#[0]⟩ = true
  rw [undP_nm x1 x2 root_nm (by decide)]
  exact decide_eq_true (by cases revL x <;> rfl)
noncomputable def flo (n : ByteArray) (l : List GFlush) : Int := l.foldl (fun a f => if undP n f.fZone = true then max a f.fEpoch else a) 0
theorem flo_app (n : ByteArray) (l : List GFlush) (f : GFlush) : flo n (l ++ [f]) = if undP n f.fZone = true then max (flo n l) f.fEpoch else flo n l := by
  unfold flo; rw [List.foldl_append]; rfl
theorem flo_filter (n : ByteArray) (p : GFlush → Bool) : ∀ (l : List GFlush) (a : Int), (∀ f ∈ l, p f = false → undP n f.fZone = false) →
    (l.filter p).foldl (fun a f => if undP n f.fZone = true then max a f.fEpoch else a) a = l.foldl (fun a f => if undP n f.fZone = true then max a f.fEpoch else a) a
  | [], a, _ => rfl
  | f :: r, a, h => by
    have ih := fun a => flo_filter n p r a fun g hg => h g (List.mem_cons_of_mem _ hg)
    rw [List.filter_cons, List.foldl_cons]
    by_cases hp : p f = true
    · rw [if_pos hp, List.foldl_cons, ih]
    · rw [if_neg hp, ih, if_neg (by rw [h f List.mem_cons_self (by simpa using hp)]; decide)]
theorem flo_le (n : ByteArray) (e : Int) : ∀ (l : List GFlush) (a : Int), 0 ≤ a → a ≤ e → (∀ f ∈ l, f.fEpoch ≤ e) → 0 ≤ l.foldl (fun a f => if undP n f.fZone = true then max a f.fEpoch else a) a ∧ l.foldl (fun a f => if undP n f.fZone = true then max a f.fEpoch else a) a ≤ e
  | [], a, h0, h1, _ => ⟨h0, h1⟩
  | f :: r, a, h0, h1, h => by
    rw [List.foldl_cons]
    refine flo_le n e r _ ?_ ?_ fun g hg => h g (List.mem_cons_of_mem _ hg)
    · split <;> omega
    · have := h f List.mem_cons_self
      split <;> omega
theorem flo_no {n : ByteArray} (hn : ¬ isNm n) (l : List GFlush) : flo n l = 0 := by
  have : ∀ (l : List GFlush) (a : Int), l.foldl (fun a f => if undP n f.fZone = true then max a f.fEpoch else a) a = a := by
    intro l
    induction l with
    | nil => intro a; rfl
    | cons f r ih => intro a; rw [List.foldl_cons, ih, if_neg (by rw [undP_no (fun h => hn h.1)]; decide)]
  exact this l 0
/-- What holds of the flushes. -/
structure FOk (e : Int) (l : List GFlush) : Prop where
  le : l.length ≤ 32
  ep : ∀ f ∈ l, f.fEpoch ≤ e
  zs : ∀ f ∈ l, f.fZone.size ≤ 300
noncomputable def nextF (e : Int) (l : List GFlush) (z : ByteArray) : List GFlush :=
  if 32 ≤ ((l.filter fun f => !undP f.fZone (lowB z)).length : Int) then [⟨e + 1, rootB⟩] else (l.filter fun f => !undP f.fZone (lowB z)) ++ [⟨e + 1, lowB z⟩]
theorem nextF_ok {e : Int} {l : List GFlush} (h : FOk e l) {z : ByteArray} (hz : z.size ≤ 300) : FOk (e + 1) (nextF e l z) := by
  unfold nextF
  split
  · exact ⟨by simp, fun f hf => by simp only [List.mem_singleton] at hf; subst hf; simp, fun f hf => by simp only [List.mem_singleton] at hf; subst hf; show rootB.size ≤ 300; decide⟩
  · refine ⟨by simp only [List.length_append, List.length_singleton]; omega, fun f hf => ?_, fun f hf => ?_⟩
    · rcases List.mem_append.1 hf with hf | hf
      · have := h.ep f (List.mem_filter.1 hf).1; omega
      · simp only [List.mem_singleton] at hf; subst hf; simp
    · rcases List.mem_append.1 hf with hf | hf
      · exact h.zs f (List.mem_filter.1 hf).1
      · simp only [List.mem_singleton] at hf; subst hf; show (lowB z).size ≤ 300; rw [lowB_size]; exact hz
/-- THE FLUSH. -/
theorem flush_law {e : Int} {l : List GFlush} (h : FOk e l) (he : 0 ≤ e) {z : ByteArray} (hz : isNm z) (n : ByteArray) :
    (undP n z = true → flo n (nextF e l z) = e + 1) ∧ (undP n z = false → flo n (nextF e l z) = flo n l ∨ ((nextF e l z).length = 1 ∧ flo n (nextF e l z) = e + 1)) := by
  have hfl := flo_le n e (l.filter fun f => !undP f.fZone (lowB z)) 0 (by omega) he fun f hf => h.ep f (List.mem_filter.1 hf).1
  have hroot : isNm n → flo n [⟨e + 1, rootB⟩] = e + 1 := fun hn => by
    show (if undP n rootB = true then max 0 (e + 1) else 0) = e + 1
    rw [if_pos (und_root hn)]; omega
  unfold nextF
  constructor
  · intro hu
    split
    · exact hroot (undP_t.1 hu).1
    · rw [flo_app, if_pos (by rw [und_low hz]; exact hu)]
      unfold flo; simp only; omega
  · intro hu
    split
    · by_cases hn : isNm n
      · exact Or.inr ⟨rfl, hroot hn⟩
      · exact Or.inl (by rw [flo_no hn, flo_no hn])
    · left
      rw [flo_app, if_neg (by rw [und_low hz, hu]; decide)]
      refine flo_filter n _ l 0 fun f hf hp => ?_
      cases hb : undP n f.fZone with
      | false => rfl
      | true =>
        have h1 : undP f.fZone (lowB z) = true := by simpa using hp
        have := und_trans hb h1
        rw [und_low hz, hu] at this
        exact this.symm
open Go.RowKit
theorem mem_set {α : Type} {l q : List α} {i : Nat} {x : α} (hq : ∀ y ∈ q, y ∈ l) (hx : x ∈ l) : ∀ y ∈ q.set i x, y ∈ l := fun y hy => by
  rcases List.mem_or_eq_of_mem_set hy with h | h
  · exact hq y h
  · rw [h]; exact hx
theorem delf_loopM {α : Type} (p : α → Bool) {l : List α} (hl : l.length ≤ 4611686018427387904) (step : List α × Int × Int → Option ((List α × Int × Int) ⊕ (List α × Int)))
    (hs : ∀ (q : List α) (i j : Int), (∀ y ∈ q, y ∈ l) → step (q, i, j) = if j < (q.length : Int) then (at_ q j).bind fun x => if p x = true then some (.inl (q, i, w64 (j + 1))) else (at_ q i).bind fun _ => (setAt q i x).bind fun q' => some (.inl (q', w64 (i + 1), w64 (j + 1))) else some (.inr (q, i))) :
    ∀ (d j i : Nat) (q : List α), j + d = l.length → i < j → q.length = l.length → q.take i = (l.take j).filter (fun x => !p x) → q.drop j = l.drop j → (∀ y ∈ q, y ∈ l) → ∃ (q' : List α) (i' : Nat), loop step (q, (i : Int), (j : Int)) = some (q', (i' : Int)) ∧ i' ≤ q'.length ∧ q'.take i' = l.filter (fun x => !p x) := by
  intro d
  induction d with
  | zero =>
    intro j i q hj hi hq ht hd hm
    refine ⟨q, i, ?_, by omega, ?_⟩
    · exact loop_inr (by rw [hs _ _ _ hm, if_neg (by omega)])
    · rw [ht, List.take_of_length_le (by omega)]
  | succ d ih =>
    intro j i q hj hi hq ht hd hm
    have hjl : j < l.length := by omega
    have hjq : j < q.length := by omega
    have hx : q[j] = l[j] := by
      have := congrArg (fun z => z[0]?) hd
      simp only [List.getElem?_drop, Nat.add_zero, List.getElem?_eq_getElem hjl, List.getElem?_eq_getElem hjq, Option.some.injEq] at this
      exact this
    have hst := hs q (i : Int) (j : Int) hm
    rw [if_pos (by omega), at_nat hjq, Option.bind_some, hx] at hst
    have htk : l.take (j + 1) = l.take j ++ [l[j]] := by rw [List.take_succ_eq_append_getElem hjl]
    have hdj : ∀ z : List α, z.drop (j + 1) = (z.drop j).drop 1 := fun z => by rw [List.drop_drop]
    by_cases hp : p l[j] = true
    · rw [if_pos hp, w64_id (by omega) (by omega)] at hst
      rw [loop_inl hst, show (j : Int) + 1 = ((j + 1 : Nat) : Int) by omega]
      refine ih (j + 1) i q (by omega) (by omega) hq ?_ ?_ hm
      · rw [htk, List.filter_append, ht]; simp [hp]
      · rw [hdj, hdj, hd]
    · rw [if_neg hp, at_nat (by omega), Option.bind_some, setAt, if_pos ⟨by omega, by omega⟩, Option.bind_some, Int.toNat_natCast, w64_id (by omega) (by omega), w64_id (by omega) (by omega)] at hst
      rw [loop_inl hst, show (j : Int) + 1 = ((j + 1 : Nat) : Int) by omega, show (i : Int) + 1 = ((i + 1 : Nat) : Int) by omega]
      refine ih (j + 1) (i + 1) _ (by omega) (by omega) (by rw [List.length_set]; exact hq) ?_ ?_ (mem_set hm (List.getElem_mem hjl))
      · have e : (q.set i l[j]).take (i + 1) = q.take i ++ [l[j]] := by
          rw [List.take_succ_eq_append_getElem (by rw [List.length_set]; omega), List.take_set_of_le (Nat.le_refl _)]
          simp
        rw [e, htk, List.filter_append, ht]; simp [hp]
      · rw [List.drop_set_of_lt (by omega), hdj, hdj, hd]
theorem delf_eqM {α : Type} (p : α → Bool) {l : List α} (hl : l.length ≤ 4611686018427387904) (ix : Option Int) (step : List α × Int × Int → Option ((List α × Int × Int) ⊕ (List α × Int)))
    (hix : ix = some (fndI (fndX p l 0)))
    (hs : ∀ (q : List α) (i j : Int), (∀ y ∈ q, y ∈ l) → step (q, i, j) = if j < (q.length : Int) then (at_ q j).bind fun x => if p x = true then some (.inl (q, i, w64 (j + 1))) else (at_ q i).bind fun _ => (setAt q i x).bind fun q' => some (.inl (q', w64 (i + 1), w64 (j + 1))) else some (.inr (q, i))) :
    (ix.bind fun x1 => if x1 = -1 then some l else (loop step (l, x1, w64 (x1 + 1))).bind fun e => (cutLo e.1 e.2).bind fun l53 => (cutHi e.1 e.2).bind fun l54 => some l54) = some (l.filter (fun x => !p x)) := by
  rw [hix, Option.bind_some]
  cases hf : fndX p l 0 with
  | none =>
    rw [fndI, if_pos rfl]
    congr 1
    exact (List.filter_eq_self.2 fun y hy => by simp [fndX_none hf y hy]).symm
  | some z =>
    obtain ⟨k, x⟩ := z
    obtain ⟨h1, h2, h3, h4⟩ := take_fnd hf
    have hx : l[k] = x := by have := (List.getElem?_eq_some_iff.1 h3).2; exact this
    have htk : l.take (k + 1) = l.take k ++ [l[k]] := by rw [List.take_succ_eq_append_getElem h1]
    obtain ⟨q, i, g1, g2, g3⟩ := delf_loopM p hl step hs (l.length - (k + 1)) (k + 1) k l (by omega) (by omega) rfl (by rw [htk, List.filter_append, h4, hx]; simp [h2]) rfl (fun y hy => hy)
    rw [fndI, if_neg (by omega), w64_id (by omega) (by omega), show (k : Int) + 1 = ((k + 1 : Nat) : Int) by omega, g1, Option.bind_some]
    simp only
    rw [cutLo, if_pos ⟨by omega, by omega⟩, Option.bind_some, cutHi, if_pos ⟨by omega, by omega⟩, Option.bind_some, Int.toNat_natCast, g3]
theorem at_mem' {α : Type} {l : List α} {i : Int} {x : α} (h : at_ l i = some x) : x ∈ l := by
  unfold at_ at h
  split at h
  · exact List.mem_of_getElem? h
  · cases h
theorem c3_code {f : GFlush} {z : ByteArray} (hf : f.fZone.size ≤ 300) (hz : z.size ≤ 300) : m_conf_Apply_c3 f z = some (undP f.fZone z) := by
  rw [m_conf_Apply_c3, und_code (by omega) (by omega)]; rfl
theorem del_code {e : Int} {l : List GFlush} (h : FOk e l) {z : ByteArray} (hz : z.size ≤ 300) : m_slices_DeleteFunc_37 l z = some (l.filter fun f => !undP f.fZone z) := by
  have hl := h.le
  have hix : m_slices_IndexFunc_70 l z = some (fndI (fndX (fun f => undP f.fZone z) l 0)) := by
    have := idx_loop (fun f : GFlush => undP f.fZone z) (l := l) (by omega) (fun s => m_slices_IndexFunc_70_s2 l z s) (fun i => by
      simp only [m_slices_IndexFunc_70_s2]
      split
      · cases ha : at_ l i with
        | none => rfl
        | some x => rw [Option.bind_some, Option.bind_some, c3_code (h.zs x (at_mem' ha)) hz, Option.bind_some]
      · rfl) l [] rfl
    rw [m_slices_IndexFunc_70]
    erw [this]
    rw [List.length_nil]
    cases fndX (fun f : GFlush => undP f.fZone z) l 0 with
    | none => rfl
    | some z => rfl
  exact delf_eqM (fun f : GFlush => undP f.fZone z) (by omega) _ (fun s => m_slices_DeleteFunc_37_s2 z s.1 s.2.1 s.2.2) hix (fun q i j hq => by
    simp only [m_slices_DeleteFunc_37_s2]
    split
    · cases ha : at_ q j with
      | none => rfl
      | some x => rw [Option.bind_some, Option.bind_some, c3_code (h.zs x (hq x (at_mem' ha))) hz, Option.bind_some]
    · rfl)
theorem bs_code : m_slices_BinarySearch_27 [] 0 = some (0, false) := by
  rw [m_slices_BinarySearch_27]
  erw [loop_inr (show m_slices_BinarySearch_27_s2 [] 0 0 0 = some (.inr 0) by rw [m_slices_BinarySearch_27_s2, if_neg (by decide)])]
  rw [Option.bind_some, m_slices_BinarySearch_27_j1, if_neg (by decide)]
theorem named_code {z : ByteArray} (hz : z.size ≤ 300) : (isNm z → m_conf_named z = some true) ∧ (¬ isNm z → m_conf_named z = some false) := by
  constructor
  · rintro ⟨x, x1, x2⟩
    rw [m_conf_named, check_nm x1 x2]; rfl
  · intro h
    obtain ⟨e, e1, e2⟩ := check_not h (by omega)
    rw [m_conf_named, e1, Option.bind_some, decide_eq_false e2]
theorem none2 : m_conf_none [⟨#[]⟩, ⟨#[]⟩] = some true := by
  have hs : ∀ i : Nat, i < 2 → m_slices_IndexFunc_76_s2 [⟨#[]⟩, ⟨#[]⟩] (i : Int) = some (.inl ((i + 1 : Nat) : Int)) := fun i hi => by
    rcases (by omega : i = 0 ∨ i = 1) with rfl | rfl <;> rfl
  rw [m_conf_none, m_slices_ContainsFunc_53, m_slices_IndexFunc_76]
  erw [loop_inl (hs 0 (by omega)), loop_inl (hs 1 (by omega)), loop_inr (show m_slices_IndexFunc_76_s2 [⟨#[]⟩, ⟨#[]⟩] ((1 + 1 : Nat) : Int) = some (.inr (.inl ())) from rfl)]
  rfl
theorem none3 : m_conf_none [⟨#[]⟩, ⟨#[]⟩, ⟨#[]⟩] = some true := by
  have hs : ∀ i : Nat, i < 3 → m_slices_IndexFunc_76_s2 [⟨#[]⟩, ⟨#[]⟩, ⟨#[]⟩] (i : Int) = some (.inl ((i + 1 : Nat) : Int)) := fun i hi => by
    rcases (by omega : i = 0 ∨ i = 1 ∨ i = 2) with rfl | rfl | rfl <;> rfl
  rw [m_conf_none, m_slices_ContainsFunc_53, m_slices_IndexFunc_76]
  erw [loop_inl (hs 0 (by omega)), loop_inl (hs 1 (by omega)), loop_inl (hs 2 (by omega)), loop_inr (show m_slices_IndexFunc_76_s2 [⟨#[]⟩, ⟨#[]⟩, ⟨#[]⟩] ((2 + 1 : Nat) : Int) = some (.inr (.inl ())) from rfl)]
  rfl
theorem check5 {z : ByteArray} (hz : z.size ≤ 300) : (isNm z → m_conf_Check_k5 0 ⟨#[]⟩ ⟨#[]⟩ z [] = some 0) ∧ (¬ isNm z → m_conf_Check_k5 0 ⟨#[]⟩ ⟨#[]⟩ z [] = some 1) := by
  obtain ⟨n1, n2⟩ := named_code hz
  constructor
  · intro h
    rw [m_conf_Check_k5, if_pos rfl, m_conf_Check_k5_j1, m_conf_Check_k5_j3, if_neg (by decide), if_pos (by decide), n1 h, Option.bind_some, if_pos rfl, none2]
    rfl
  · intro h
    rw [m_conf_Check_k5, if_pos rfl, m_conf_Check_k5_j1, m_conf_Check_k5_j3, if_neg (by decide), if_pos (by decide), n2 h, Option.bind_some, if_neg (by decide)]
    rfl
theorem apply5 {e : Int} {l : List GFlush} (h : FOk e l) (he : 0 ≤ e ∧ e ≤ 1000) {z : ByteArray} (hz : z.size ≤ 300) :
    (isNm z → m_conf_Apply_k5 ⟨[], [], [], e, l⟩ 0 ⟨#[]⟩ ⟨#[]⟩ z [] = some (⟨[], [], [], e + 1, nextF e l z⟩, 0)) ∧ (¬ isNm z → m_conf_Apply_k5 ⟨[], [], [], e, l⟩ 0 ⟨#[]⟩ ⟨#[]⟩ z [] = some (⟨[], [], [], e, l⟩, 1)) := by
  obtain ⟨c1, c2⟩ := check5 hz
  have hl := h.le
  constructor
  · intro hn
    have h26 : m_slices_Clone_26 l = some l := by rw [m_slices_Clone_26, app_of (by simp; omega)]; rfl
    rw [m_conf_Apply_k5, c1 hn, Option.bind_some, if_neg (by decide)]
    simp only
    rw [show m_slices_Clone_23 [] = some [] from rfl, Option.bind_some, show m_slices_Clone_24 [] = some [] from rfl, Option.bind_some, show m_slices_Clone_25 [] = some [] from rfl, Option.bind_some, h26, Option.bind_some, m_conf_Apply_k5_j1, bs_code, Option.bind_some]
    simp only
    have hf := List.length_filter_le (fun f : GFlush => !undP f.fZone (lowB z)) l
    rw [if_neg (by omega), lower_eq (by omega), Option.bind_some, del_code h (by rw [lowB_size]; exact hz), Option.bind_some, w64_id (by omega) (by omega), nextF]
    split
    · rw [m_conf_Apply_k5_j3, app_of (by simp), Option.bind_some, m_conf_Apply_k5_j2]; rfl
    · rw [m_conf_Apply_k5_j3, app_of (by simp; omega), Option.bind_some, m_conf_Apply_k5_j2]
  · intro hn
    rw [m_conf_Apply_k5, c2 hn, Option.bind_some, if_pos (by decide)]
theorem floor_code {r : List Int} {hh : List ByteArray} {aa : List GAnchor} {e : Int} {l : List GFlush} (h : FOk e l) {n : ByteArray} (hn : n.size ≤ 300) : m_conf_Floor ⟨r, hh, aa, e, l⟩ n = some (flo n l) := by
  have hl := h.le
  have := loop_run (step := fun s : Int × Int => m_conf_Floor_s2 ⟨r, hh, aa, e, l⟩ n s.1 s.2) l.length (fun k => (flo n (l.take k), (k : Int))) (flo n l) (s0 := (0, 0)) rfl
    (fun k hk => by
      have hx := List.getElem_mem hk
      have htk : l.take (k + 1) = l.take k ++ [l[k]] := by rw [List.take_succ_eq_append_getElem hk]
      simp only [m_conf_Floor_s2]
      rw [if_pos (by omega), at_nat hk, Option.bind_some, und_code (by omega) (by have := h.zs _ hx; omega), Option.bind_some, htk, flo_app, w64_id (by omega) (by omega)]
      split <;> rfl)
    (by simp only [m_conf_Floor_s2]; rw [if_neg (by omega), List.take_of_length_le (Nat.le_refl _)])
  rw [m_conf_Floor]
  erw [this]
  rfl
open Go.RowKit
theorem short13_of {s : ByteArray} (k : Nat) (h : s.size ≤ 9223372036854775807) : ∃ t, m_law13_short s (k : Int) = some t ∧ t.size ≤ k := by
  rw [m_law13_short]
  by_cases hc : k < s.size
  · rw [if_pos (by omega), scutHi, if_pos ⟨by omega, by omega⟩]
    exact ⟨_, rfl, by rw [ByteArray.size_extract]; omega⟩
  · rw [if_neg (by omega)]; exact ⟨_, rfl, by omega⟩
theorem rcheck_code {z : ByteArray} (hz : z.size ≤ 300) : (isNm z → m_ref03_Check z = some 0) ∧ (¬ isNm z → ∃ e, m_ref03_Check z = some e ∧ e ≠ 0) := by
  constructor
  · rintro ⟨x, x1, x2⟩; exact rcheck_nm x1 x2
  · intro h
    rcases nm_cases z with h1 | ⟨ls, h1, h2⟩ | h1
    · exact absurd h1 h
    · exact ⟨11, rcheck_big h1 h2 (by omega), by omega⟩
    · exact ⟨10, rcheck_no h1 (by omega), by omega⟩
/-! The chapter's own example. -/
def aZ : ByteArray := ⟨#[1, 97, 0]⟩
theorem aZ_nm : isNm aZ := ⟨[⟨#[97]⟩], a_nm, by decide⟩
theorem low_root : lowB rootB = rootB := by decide +kernel
theorem low_aZ : lowB aZ = aZ := by decide +kernel
theorem xa_nm : Nm (⟨#[1, 120, 1, 97, 0]⟩ : ByteArray) [⟨#[120]⟩, ⟨#[97]⟩] := ⟨by decide +kernel, by decide +kernel⟩
theorem b_nm : Nm (⟨#[1, 98, 0]⟩ : ByteArray) [⟨#[98]⟩] := ⟨by decide +kernel, by decide +kernel⟩
theorem und_xa : undP ⟨#[1, 120, 1, 97, 0]⟩ aZ = true := by
  show undP ⟨#[1, 120, 1, 97, 0]⟩ ⟨#[1, 97, 0]⟩ = true
  rw [undP_nm xa_nm (by decide) a_nm (by decide)]
  decide +kernel
theorem und_b : undP ⟨#[1, 98, 0]⟩ aZ = false := by
  show undP ⟨#[1, 98, 0]⟩ ⟨#[1, 97, 0]⟩ = false
  rw [undP_nm b_nm (by decide) a_nm (by decide)]
  decide +kernel
theorem f0_ok : FOk 0 [] := ⟨by decide, (fun _ h => by cases h), (fun _ h => by cases h)⟩
theorem awake13 : m_law13_awake = some true := by
  have hroot : isNm rootB := ⟨[], root_nm, by decide⟩
  have n1 : nextF 0 [] aZ = [⟨1, aZ⟩] := by
    unfold nextF
    rw [if_neg (by simp), low_aZ]; rfl
  have k1 : FOk 1 [⟨1, aZ⟩] := by have := nextF_ok f0_ok (z := aZ) (by decide); rw [n1] at this; exact this
  have n2 : nextF 1 [⟨1, aZ⟩] rootB = [⟨2, rootB⟩] := by
    unfold nextF
    have : ([⟨1, aZ⟩] : List GFlush).filter (fun f => !undP f.fZone (lowB rootB)) = [] := by
      rw [low_root, List.filter_cons, if_neg (by simp [und_root aZ_nm])]; rfl
    rw [this, if_neg (by simp), low_root]; rfl
  have a1 := (apply5 f0_ok (by omega) (z := aZ) (by decide)).1 aZ_nm
  have a2 := (apply5 k1 (by omega) (z := rootB) (by decide)).1 hroot
  rw [n1] at a1
  rw [n2] at a2
  replace a1 : m_conf_Apply_k5 ⟨[], [], [], 0, []⟩ 0 ⟨#[]⟩ ⟨#[]⟩ aZ [] = some (⟨[], [], [], 1, [⟨1, aZ⟩]⟩, 0) := a1
  replace a2 : m_conf_Apply_k5 ⟨[], [], [], 1, [⟨1, aZ⟩]⟩ 0 ⟨#[]⟩ ⟨#[]⟩ rootB [] = some (⟨[], [], [], 2, [⟨2, rootB⟩]⟩, 0) := a2
  have g1 : m_conf_Check_k1 3 ⟨#[]⟩ ⟨#[]⟩ ⟨#[]⟩ [] = some 0 := by
    rw [m_conf_Check_k1, if_neg (by decide), m_conf_Check_k1_j1, m_conf_Check_k1_j3, if_pos rfl, show m_conf_node 3 = some true from rfl, Option.bind_some, if_pos rfl, none3]; rfl
  have b1 : m_conf_Bytes_k1 3 ⟨#[]⟩ ⟨#[]⟩ ⟨#[]⟩ [] = some (⟨#[1, 3]⟩, 0) := by
    rw [m_conf_Bytes_k1, g1, Option.bind_some, if_neg (by decide)]
    show m_conf_Bytes_k1_j1 [] ⟨[], []⟩ ⟨#[]⟩ ⟨#[]⟩ ⟨#[]⟩ [1, 3] = _
    rw [m_conf_Bytes_k1_j1]
    erw [loop_inr (show m_conf_Bytes_k1_s3 [] ⟨[], []⟩ [1, 3] 0 = some (.inr [1, 3]) from rfl)]
    rfl
  have g5 := (check5 (z := aZ) (by decide)).1 aZ_nm
  have b5 : m_conf_Bytes_k5 0 ⟨#[]⟩ ⟨#[]⟩ ⟨#[1, 97, 0]⟩ [] = some (⟨#[5, 1, 97, 0]⟩, 0) := by
    rw [m_conf_Bytes_k5]
    erw [g5]
    rw [Option.bind_some, if_neg (by decide)]
    show m_conf_Bytes_k5_j1 [] ⟨[], []⟩ ⟨[5], []⟩ ⟨#[]⟩ ⟨#[]⟩ ⟨#[1, 97, 0]⟩ = _
    rw [m_conf_Bytes_k5_j1]
    erw [loop_inr (show m_conf_Bytes_k5_s3 [] ⟨[], []⟩ [5] 0 = some (.inr [5]) from rfl)]
    rfl
  rw [m_law13_awake, b1, Option.bind_some, b5, Option.bind_some]
  erw [a1]
  rw [Option.bind_some]
  erw [a2]
  rw [Option.bind_some]
  simp only
  rw [if_pos trivial, if_pos trivial, if_pos trivial, if_pos trivial, if_pos trivial, if_pos trivial, if_pos (by decide), if_pos (by decide), floor_code k1 (by decide), Option.bind_some]
  have f1 : flo ⟨#[1, 120, 1, 97, 0]⟩ [⟨1, aZ⟩] = 1 := by
    show (if undP ⟨#[1, 120, 1, 97, 0]⟩ aZ = true then max 0 1 else 0) = 1
    rw [if_pos und_xa]; rfl
  have f2 : flo ⟨#[1, 98, 0]⟩ [⟨1, aZ⟩] = 0 := by
    show (if undP ⟨#[1, 98, 0]⟩ aZ = true then max 0 1 else 0) = 0
    rw [if_neg (by rw [und_b]; decide)]
  rw [f1, if_pos rfl, floor_code k1 (by decide), Option.bind_some, f2]
  rfl
theorem q_ConfFlushes (p0 : List ByteArray) (p1 : ByteArray) (p2 : ByteArray) (h0 : (p0.length ≤ 9223372036854775807 ∧ ∀ a ∈ p0, a.size ≤ 9223372036854775807)) (h1 : p1.size ≤ 9223372036854775807) (h2 : p2.size ≤ 9223372036854775807) : m_law13_ConfFlushes p0 p1 p2 = some true := by
  obtain ⟨n, n1, n2⟩ := short13_of (s := p1) 300 h1
  obtain ⟨m, m1, m2⟩ := short13_of (s := p2) 300 h2
  replace n1 : m_law13_short p1 300 = some n := n1
  replace m1 : m_law13_short p2 300 = some m := m1
  obtain ⟨r, g1, rfl⟩ := loop_rule (step := fun s : Int × Int × List Int × List ByteArray × List GAnchor × Int × List GFlush => m_law13_ConfFlushes_s2 p0 n m s.1 s.2.1 s.2.2.1 s.2.2.2.1 s.2.2.2.2.1 s.2.2.2.2.2.1 s.2.2.2.2.2.2)
    (fun s => ∃ (i e : Nat) (l : List GFlush), s = ((e : Int), (i : Int), [], [], [], (e : Int), l) ∧ e ≤ i ∧ i ≤ 60 ∧ FOk e l)
    (fun s => (60 - s.2.1).toNat)
    (fun r => r = .inl ())
    (by
      rintro s ⟨i, e, l, rfl, hei, hi, hl⟩
      simp only
      rw [m_law13_ConfFlushes_s2]
      by_cases hc : (i : Int) < (p0.length : Int)
      · by_cases hc2 : (i : Int) < 60
        · left
          have hil : i < p0.length := by omega
          obtain ⟨z, z1, z2⟩ := short13_of (s := p0[i]) 60 (h0.2 _ (List.getElem_mem hil))
          replace z1 : m_law13_short p0[i] 60 = some z := z1
          obtain ⟨a1, a2⟩ := apply5 hl ⟨by omega, by omega⟩ (z := z) (by omega)
          obtain ⟨r1, r2⟩ := rcheck_code (z := z) (by omega)
          rw [if_pos hc, if_pos hc2, at_nat hil, Option.bind_some, z1, Option.bind_some, floor_code hl n2, Option.bind_some, floor_code hl m2, Option.bind_some]
          by_cases hz : isNm z
          · have hn := nextF_ok hl (z := z) (by omega)
            obtain ⟨ln1, ln2⟩ := flush_law hl (by omega) hz n
            obtain ⟨lm1, lm2⟩ := flush_law hl (by omega) hz m
            have hle := hn.le
            rw [a1 hz, Option.bind_some, r1 hz, Option.bind_some, if_neg (by decide)]
            simp only
            rw [floor_code hn n2, Option.bind_some, floor_code hn m2, Option.bind_some, rund_code (by omega) (by omega), Option.bind_some, rund_code (by omega) (by omega), Option.bind_some, w64_id (x := (e : Int) + 1) (by omega) (by omega), w64_id (by omega) (by omega), if_neg (by decide), if_neg (by simp), if_neg (by omega)]
            have fin : ∃ s', (some (Sum.inl ((e : Int) + 1, (i : Int) + 1, [], [], [], (e : Int) + 1, nextF e l z)) : Option ((Int × Int × List Int × List ByteArray × List GAnchor × Int × List GFlush) ⊕ (Unit ⊕ Bool))) = some (Sum.inl s') ∧ (∃ (i e : Nat) (l : List GFlush), s' = ((e : Int), (i : Int), [], [], [], (e : Int), l) ∧ e ≤ i ∧ i ≤ 60 ∧ FOk e l) ∧ (60 - s'.2.1).toNat < (60 - (i : Int)).toNat :=
              ⟨_, rfl, ⟨i + 1, e + 1, nextF e l z, by simp, by omega, by omega, by rw [show ((e + 1 : Nat) : Int) = (e : Int) + 1 by omega]; exact hn⟩, by simp only; omega⟩
            generalize flo n (nextF (e : Int) l z) = P at *
            generalize flo m (nextF (e : Int) l z) = Q at *
            generalize flo n l = A at *
            generalize flo m l = B at *
            cases hu : undP n z with
            | true =>
              have hP := ln1 hu
              rw [if_pos rfl, if_neg (by omega)]
              cases hv : undP m z with
              | true =>
                have hQ := lm1 hv
                rw [if_pos rfl, if_neg (by omega)]; exact fin
              | false =>
                rw [if_neg (by decide)]
                rcases lm2 hv with hQ | ⟨hQ1, hQ2⟩
                · rw [if_neg (by omega)]; exact fin
                · by_cases hq : Q = B
                  · rw [if_neg (by omega)]; exact fin
                  · rw [if_pos hq, if_pos (by omega), if_pos hQ2]; exact fin
            | false =>
              rw [if_neg (by decide)]
              cases hv : undP m z with
              | true =>
                have hQ := lm1 hv
                rw [if_pos rfl, if_neg (by omega)]
                rcases ln2 hu with hP | ⟨hP1, hP2⟩
                · rw [if_neg (by omega)]; exact fin
                · by_cases hp : P = A
                  · rw [if_neg (by omega)]; exact fin
                  · rw [if_pos hp, if_pos (by omega), if_pos hP2]; exact fin
              | false =>
                rw [if_neg (by decide)]
                have hQ : Q = B ∨ ((nextF (e : Int) l z).length = 1 ∧ Q = e + 1) := lm2 hv
                by_cases hp : P = A
                · rw [if_neg (by omega)]
                  by_cases hq : Q = B
                  · rw [if_neg (by omega)]; exact fin
                  · rcases hQ with hQ | ⟨hQ1, hQ2⟩
                    · exact absurd hQ hq
                    · rw [if_pos hq, if_pos (by omega), if_pos hQ2]; exact fin
                · rcases ln2 hu with hP | ⟨hP1, hP2⟩
                  · exact absurd hP hp
                  · rw [if_pos hp, if_pos (by omega), if_pos hP2]
                    by_cases hq : Q = B
                    · rw [if_neg (by omega)]; exact fin
                    · rcases hQ with hQ | ⟨hQ1, hQ2⟩
                      · exact absurd hQ hq
                      · rw [if_pos hq, if_pos hQ2]; exact fin
          · obtain ⟨k, k1, k2⟩ := r2 hz
            rw [a2 hz, Option.bind_some, k1, Option.bind_some, if_pos k2, if_neg (fun h => h rfl), w64_id (by omega) (by omega)]
            exact ⟨_, rfl, ⟨i + 1, e, l, by simp, by omega, by omega, hl⟩, by simp only; omega⟩
        · right
          rw [if_pos hc, if_neg hc2]
          exact ⟨_, rfl, rfl⟩
      · right
        rw [if_neg hc]
        exact ⟨_, rfl, rfl⟩)
    (s0 := (0, 0, [], [], [], 0, [])) ⟨0, 0, [], rfl, by omega, by omega, f0_ok⟩
  rw [m_law13_ConfFlushes, awake13, Option.bind_some, n1, Option.bind_some, m1, Option.bind_some]
  erw [g1]
  rfl
end Go.Proofs.Ythpjodfjdnnckaa
