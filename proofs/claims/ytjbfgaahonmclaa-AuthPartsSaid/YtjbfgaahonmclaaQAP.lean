import Derived.Test.YtjbfgaahonmclaaKAP
set_option linter.unusedVariables false
set_option linter.unusedSimpArgs false
set_option maxRecDepth 16384
namespace Go.Proofs.Ytjbfgaahonmclaa
open Go.RowKit
def encB (ls : List ByteArray) : List Int := ls.flatMap fun s => (s.size : Int) :: bytesI s
def okLs (ls : List ByteArray) : Prop := ∀ s ∈ ls, 1 ≤ s.size ∧ s.size ≤ 63
instance (ls : List ByteArray) : Decidable (okLs ls) := by unfold okLs; infer_instance
/-- n is the name of the labels ls. -/
def Nm (n : ByteArray) (ls : List ByteArray) : Prop := okLs ls ∧ bytesI n = encB ls ++ [0]
def starts : Nat → List ByteArray → List (Int × ByteArray)
  | _, [] => []
  | a, s :: ls => ((a : Int), s) :: starts (a + 1 + s.size) ls
/-- The bytes of a row are at its end: nothing, or a 0 ahead. -/
def endR (l : List Int) : Prop := l = [] ∨ ∃ r, l = 0 :: r
theorem encB_cons (s : ByteArray) (ls : List ByteArray) : encB (s :: ls) = (s.size : Int) :: bytesI s ++ encB ls := by simp [encB]
theorem encB_append (a b : List ByteArray) : encB (a ++ b) = encB a ++ encB b := by simp [encB]
theorem encB_range {ls : List ByteArray} (h : okLs ls) : ∀ x ∈ encB ls, 0 ≤ x ∧ x ≤ 255 := by
  intro x hx
  obtain ⟨s, hs, hx⟩ := List.mem_flatMap.1 hx
  have := h s hs
  rcases List.mem_cons.1 hx with rfl | hx
  · omega
  · exact bytesI_range s x hx
theorem drop_byte {n : ByteArray} {a : Nat} {x : Int} {r : List Int} (h : (bytesI n).drop a = x :: r) : a < n.size ∧ byteAt n (a : Int) = x ∧ (bytesI n).drop (a + 1) = r := by
  have hl : a < (bytesI n).length := by
    by_cases hc : a < (bytesI n).length
    · exact hc
    · rw [List.drop_of_length_le (by omega)] at h; cases h
  have hs : a < n.size := by rw [size_bytes]; exact hl
  rw [List.drop_eq_getElem_cons hl] at h
  injection h with h1 h2
  rw [bytesI_get n a hs] at h1
  exact ⟨hs, h1, h2⟩
theorem drop_app {n : ByteArray} {a : Nat} {s : ByteArray} {r : List Int} (h : (bytesI n).drop a = bytesI s ++ r) : n.extract a (a + s.size) = s ∧ a + s.size ≤ max n.size a ∧ (bytesI n).drop (a + s.size) = r := by
  have hs := size_bytes s
  have hn := size_bytes n
  have hl := congrArg List.length h
  rw [List.length_drop, List.length_append] at hl
  refine ⟨bytesI_inj ?_, by omega, ?_⟩
  · rw [bytesI_extract, List.drop_take, h, show a + s.size - a = (bytesI s).length by omega, List.take_left]
  · rw [← List.drop_drop, h, hs, List.drop_left]
theorem drop_none {n : ByteArray} {a : Nat} (h : (bytesI n).drop a = []) : n.size ≤ a := by
  rw [size_bytes]; exact List.drop_eq_nil_iff.1 h
theorem okLs_cons {s : ByteArray} {ls : List ByteArray} : okLs (s :: ls) ↔ (1 ≤ s.size ∧ s.size ≤ 63) ∧ okLs ls := by
  simp [okLs]
theorem eachAt_end {n : ByteArray} {a : Nat} (h : endR ((bytesI n).drop a)) (f : Nat) : eachAt n f a = ([], (a : Int)) := by
  cases f with
  | zero => rfl
  | succ f =>
    rw [eachAt, if_neg]
    rcases h with h | ⟨r, h⟩
    · have := drop_none h; omega
    · have := (drop_byte h).2.1; simp [this]
theorem eachAt_enc {n : ByteArray} {rest : List Int} (hr : endR rest) : ∀ (ls : List ByteArray) (a f : Nat), okLs ls → (bytesI n).drop a = encB ls ++ rest → ls.length ≤ f →
    eachAt n f a = (starts a ls, ((a + (encB ls).length : Nat) : Int)) := by
  intro ls
  induction ls with
  | nil =>
    intro a f _ h _
    exact eachAt_end (by rw [h]; exact hr) f
  | cons s ls ih =>
    intro a f hok h hf
    obtain ⟨hs, hok⟩ := okLs_cons.1 hok
    obtain ⟨f, rfl⟩ : ∃ g, f = g + 1 := ⟨f - 1, by simp at hf; omega⟩
    rw [encB_cons] at h
    simp only [List.cons_append, List.append_assoc] at h
    obtain ⟨h1, h2, h3⟩ := drop_byte h
    obtain ⟨h4, h5, h6⟩ := drop_app h3
    rw [eachAt, if_pos ⟨h1, by rw [h2]; omega⟩, h2, if_neg (by omega)]
    have := ih (a + 1 + s.size) f hok (by rw [← h6]) (by simp at hf; omega)
    simp only [Int.toNat_natCast]
    rw [this, h4, starts, encB_cons]
    congr 2
    simp only [List.length_append, List.length_cons, ← size_bytes]
    omega
theorem eachAt_any {n : ByteArray} : ∀ (f a : Nat), n.size ≤ a + f → a ≤ n.size → (eachAt n f a).2 = -1 ∨ ∃ ls rest, okLs ls ∧ (bytesI n).drop a = encB ls ++ rest ∧ endR rest := by
  intro f
  induction f with
  | zero =>
    intro a h1 h2
    exact .inr ⟨[], [], (fun _ h => by cases h), by rw [List.drop_of_length_le (by rw [← size_bytes]; omega)]; rfl, .inl rfl⟩
  | succ f ih =>
    intro a h1 h2
    rw [eachAt]
    by_cases hc : a < n.size ∧ byteAt n a ≠ 0
    · rw [if_pos hc]
      by_cases hb : 63 < byteAt n a ∨ n.size < a + 1 + (byteAt n a).toNat
      · rw [if_pos hb]; exact .inl rfl
      · rw [if_neg hb]
        have hr := byteAt_lt n a
        rcases ih (a + 1 + (byteAt n a).toNat) (by omega) (by omega) with h | ⟨ls, rest, h3, h4, h5⟩
        · exact .inl h
        · have hsz : (n.extract (a + 1) (a + 1 + (byteAt n a).toNat)).size = (byteAt n a).toNat := by
            rw [ByteArray.size_extract]; omega
          refine .inr ⟨n.extract (a + 1) (a + 1 + (byteAt n a).toNat) :: ls, rest, okLs_cons.2 ⟨by rw [hsz]; omega, h3⟩, ?_, h5⟩
          have hl : a < (bytesI n).length := by rw [← size_bytes]; exact hc.1
          rw [List.drop_eq_getElem_cons hl, bytesI_get n a hc.1, encB_cons, hsz, bytesI_extract]
          simp only [List.cons_append, List.append_assoc]
          have h6 : (bytesI n).drop (a + 1 + (byteAt n a).toNat) = ((bytesI n).drop (a + 1)).drop (byteAt n a).toNat := by rw [List.drop_drop]
          rw [← h4, List.drop_take, h6, show a + 1 + (byteAt n a).toNat - (a + 1) = (byteAt n a).toNat by omega, List.take_append_drop]
          congr 1
          omega
    · rw [if_neg hc]
      refine .inr ⟨[], (bytesI n).drop a, (fun _ h => by cases h), rfl, ?_⟩
      by_cases ha : a < n.size
      · have hl : a < (bytesI n).length := by rw [← size_bytes]; exact ha
        have : byteAt n a = 0 := Classical.byContradiction fun h => hc ⟨ha, h⟩
        rw [List.drop_eq_getElem_cons hl, bytesI_get n a ha, this]
        exact .inr ⟨_, rfl⟩
      · rw [List.drop_of_length_le (by rw [← size_bytes]; omega)]; exact .inl rfl
theorem nm_size {n : ByteArray} {ls : List ByteArray} (h : Nm n ls) : n.size = (encB ls).length + 1 := by
  rw [size_bytes, h.2]; simp
theorem len_enc (ls : List ByteArray) : ls.length ≤ (encB ls).length := by
  induction ls with
  | nil => simp
  | cons s ls ih => rw [encB_cons]; simp; omega
theorem each_nm {n : ByteArray} {ls : List ByteArray} (h : Nm n ls) : eachP n = (starts 0 ls, (n.size : Int) - 1) := by
  have hl := len_enc ls
  have hs := nm_size h
  rw [eachP, eachAt_enc (rest := [0]) (.inr ⟨[], rfl⟩) ls 0 n.size h.1 (by rw [List.drop_zero, h.2]) (by omega)]
  congr 1
  omega
theorem each_no {n : ByteArray} (h : ¬ ∃ ls, Nm n ls) : (eachP n).2 ≠ (n.size : Int) - 1 ∨ (eachP n).2 < 0 := by
  rcases eachAt_any (n := n) n.size 0 (by omega) (by omega) with h1 | ⟨ls, rest, h1, h2, h3⟩
  · rw [eachP, h1]; exact .inr (by omega)
  · left
    have hl := len_enc ls
    have hlen := congrArg List.length h2
    rw [List.drop_zero, ← size_bytes, List.length_append] at hlen
    rw [eachP, eachAt_enc h3 ls 0 n.size h1 h2 (by omega)]
    intro hc
    refine h ⟨ls, h1, ?_⟩
    rw [List.drop_zero] at h2
    rw [h2]
    congr 1
    simp only at hc
    rcases h3 with rfl | ⟨r, rfl⟩
    · simp at hlen; omega
    · simp only [List.length_cons] at hlen
      rw [List.length_eq_zero_iff.1 (by omega : r.length = 0)]
theorem starts_snd (a : Nat) (ls : List ByteArray) : (starts a ls).map Prod.snd = ls := by
  induction ls generalizing a with
  | nil => rfl
  | cons s ls ih => simp [starts, ih]
theorem starts_len (a : Nat) (ls : List ByteArray) : (starts a ls).length = ls.length := by rw [← List.length_map (f := Prod.snd), starts_snd]
theorem nm_inj {n : ByteArray} {a b : List ByteArray} (h : Nm n a) (h' : Nm n b) : a = b := by
  have := (each_nm h).symm.trans (each_nm h')
  injection this with h1 _
  have := congrArg (List.map Prod.snd) h1
  rwa [starts_snd, starts_snd] at this
/-- The name that labels make. -/
def mkN (ls : List ByteArray) : ByteArray := strOfNums (encB ls ++ [0])
theorem mkN_nm {ls : List ByteArray} (h : okLs ls) : Nm (mkN ls) ls := ⟨h, by
  rw [mkN, bytesI_str]
  intro x hx
  rcases List.mem_append.1 hx with hx | hx
  · exact encB_range h x hx
  · simp only [List.mem_singleton] at hx; omega⟩
theorem nm_mk {n : ByteArray} {ls : List ByteArray} (h : Nm n ls) : n = mkN ls := bytesI_inj (by rw [h.2, (mkN_nm h.1).2])
theorem nm_eq {n m : ByteArray} {ls : List ByteArray} (h : Nm n ls) (h' : Nm m ls) : n = m := (nm_mk h).trans (nm_mk h').symm
open Go.RowKit
theorem eachM_of {n : ByteArray} (hs : n.size ≤ 1099511627776) : eachM n = some (eachP n) := if_pos hs
theorem labels_nm {n : ByteArray} {ls : List ByteArray} (h : Nm n ls) (hs : n.size ≤ 255) : m_name_Labels n = some (ls, 0) := by
  have := nm_size h
  rw [m_name_Labels, eachM_of (by omega), Option.bind_some, each_nm h, w64_id (by omega) (by omega), if_neg (fun h => h rfl), if_neg (by omega), if_neg (by omega), starts_snd]
theorem labels_big {n : ByteArray} {ls : List ByteArray} (h : Nm n ls) (hs : 255 < n.size) (hb : n.size ≤ 1099511627776) : m_name_Labels n = some ([], 11) := by
  rw [m_name_Labels, eachM_of (by omega), Option.bind_some, each_nm h, w64_id (by omega) (by omega), if_neg (fun h => h rfl), if_neg (by omega), if_pos (by omega)]
theorem labels_no {n : ByteArray} (h : ¬ ∃ ls, Nm n ls) (hb : n.size ≤ 1099511627776) : m_name_Labels n = some ([], 10) := by
  rw [m_name_Labels, eachM_of (by omega), Option.bind_some, w64_id (by omega) (by omega)]
  rcases each_no h with h | h
  · rw [if_pos h]
  · rw [if_pos h]
    split <;> rfl
theorem check_nm {n : ByteArray} {ls : List ByteArray} (h : Nm n ls) (hs : n.size ≤ 255) : m_name_Check n = some 0 := by
  rw [m_name_Check, labels_nm h hs]; rfl
theorem check_big {n : ByteArray} {ls : List ByteArray} (h : Nm n ls) (hs : 255 < n.size) (hb : n.size ≤ 1099511627776) : m_name_Check n = some 11 := by
  rw [m_name_Check, labels_big h hs hb]; rfl
theorem check_no {n : ByteArray} (h : ¬ ∃ ls, Nm n ls) (hb : n.size ≤ 1099511627776) : m_name_Check n = some 10 := by
  rw [m_name_Check, labels_no h hb]; rfl
theorem nm_cases (n : ByteArray) : (∃ ls, Nm n ls ∧ n.size ≤ 255) ∨ (∃ ls, Nm n ls ∧ 255 < n.size) ∨ ¬ ∃ ls, Nm n ls := by
  by_cases h : ∃ ls, Nm n ls
  · obtain ⟨ls, h⟩ := h
    by_cases hs : n.size ≤ 255
    · exact .inl ⟨ls, h, hs⟩
    · exact .inr (.inl ⟨ls, h, by omega⟩)
  · exact .inr (.inr h)
theorem row_step {n : ByteArray} (hn : n.size ≤ 1099511627776) {a : Nat} {out : List ByteArray} (ha : a ≤ n.size) (ho : out.length ≤ a) :
    m_ref03_row_s2 n out (a : Int) = if a < n.size ∧ byteAt n a ≠ 0 then (if 63 < byteAt n a ∨ n.size < a + 1 + (byteAt n a).toNat then some (.inr (.inr ([], false)))
      else some (.inl (out ++ [n.extract (a + 1) (a + 1 + (byteAt n a).toNat)], ((a + 1 + (byteAt n a).toNat : Nat) : Int)))) else some (.inr (.inl (out, (a : Int)))) := by
  rw [m_ref03_row_s2]
  by_cases hc : a < n.size
  · have hb := byteAt_lt n a
    rw [if_pos (show (a : Int) < n.size by omega), sat_of (by omega) (by omega), Option.bind_some]
    by_cases h0 : byteAt n a ≠ 0
    · rw [if_pos h0, if_pos ⟨hc, h0⟩, Option.bind_some, w64_id (by omega) (by omega)]
      by_cases h1 : 63 < byteAt n a
      · rw [if_pos h1, if_pos (.inl h1)]
      · rw [if_neg h1, w64_id (x := (a : Int) + 1) (by omega) (by omega), w64_id (x := (a : Int) + 1 + byteAt n a) (by omega) (by omega)]
        by_cases h2 : n.size < a + 1 + (byteAt n a).toNat
        · rw [if_pos (by omega), if_pos (.inr h2)]
        · rw [if_neg (by omega), if_neg (by omega), scutMid, if_pos ⟨by omega, by omega, by omega⟩, Option.bind_some, app_of (by simp; omega), Option.bind_some,
            show ((a : Int) + 1).toNat = a + 1 by omega, show ((a : Int) + 1 + byteAt n a).toNat = a + 1 + (byteAt n a).toNat by omega]
          congr 4
          omega
    · rw [if_neg h0, if_neg (fun h => h0 h.2)]
  · rw [if_neg (by omega), if_neg (fun h => hc h.1)]
theorem row_loop {n : ByteArray} (hn : n.size ≤ 1099511627776) : ∀ (f a : Nat) (out : List ByteArray), n.size ≤ a + f → a ≤ n.size → out.length ≤ a →
    loop (fun s => m_ref03_row_s2 n s.1 s.2) (out, (a : Int)) = some (if (eachAt n f a).2 = -1 then .inr ([], false) else .inl (out ++ (eachAt n f a).1.map Prod.snd, (eachAt n f a).2)) := by
  intro f
  induction f with
  | zero =>
    intro a out h1 h2 h3
    rw [loop_inr (by simp only [row_step hn h2 h3]; rw [if_neg (by omega)])]
    simp only [eachAt, List.map_nil, List.append_nil]
    rw [if_neg (by omega)]
  | succ f ih =>
    intro a out h1 h2 h3
    have hb := byteAt_lt n a
    by_cases hc : a < n.size ∧ byteAt n a ≠ 0
    · by_cases h4 : 63 < byteAt n a ∨ n.size < a + 1 + (byteAt n a).toNat
      · rw [loop_inr (by simp only [row_step hn h2 h3]; rw [if_pos hc, if_pos h4])]
        rw [eachAt, if_pos hc, if_pos h4, if_pos rfl]
      · rw [loop_inl (by simp only [row_step hn h2 h3]; rw [if_pos hc, if_neg h4]), ih _ _ (by omega) (by omega) (by simp; omega)]
        rw [eachAt, if_pos hc, if_neg h4]
        simp only [List.map_cons, List.append_assoc, List.singleton_append]
    · rw [loop_inr (by simp only [row_step hn h2 h3]; rw [if_neg hc])]
      rw [eachAt, if_neg hc]
      simp only [List.map_nil, List.append_nil]
      rw [if_neg (by omega)]
theorem row_nm {n : ByteArray} {ls : List ByteArray} (h : Nm n ls) (hb : n.size ≤ 1099511627776) : m_ref03_row n = some (ls, true) := by
  have hs := nm_size h
  have := row_loop hb n.size 0 [] (by omega) (by omega) (by simp)
  rw [← eachP, each_nm h, if_neg (by simp only; omega)] at this
  rw [m_ref03_row]
  erw [this]
  simp only [Option.bind_some, Sum.elim_inl, m_ref03_row_j1, List.nil_append, starts_snd]
  rw [w64_id (by omega) (by omega), decide_eq_true rfl]
theorem row_no {n : ByteArray} (h : ¬ ∃ ls, Nm n ls) (hb : n.size ≤ 1099511627776) : ∃ l, m_ref03_row n = some (l, false) := by
  have := row_loop hb n.size 0 [] (by omega) (by omega) (by simp)
  rw [← eachP] at this
  rw [m_ref03_row]
  erw [this]
  by_cases h1 : (eachP n).2 = -1
  · rw [if_pos h1]; exact ⟨_, rfl⟩
  · rw [if_neg h1]
    refine ⟨[] ++ (eachP n).1.map Prod.snd, ?_⟩
    simp only [Option.bind_some, Sum.elim_inl, m_ref03_row_j1]
    rw [w64_id (by omega) (by omega)]
    rw [decide_eq_false]
    intro h2
    rcases each_no h with h3 | h3
    · exact h3 h2
    · rcases eachAt_any (n := n) n.size 0 (by omega) (by omega) with h4 | ⟨ls, rest, h4, h5, h6⟩
      · exact h1 h4
      · have hl := len_enc ls
        have hlen := congrArg List.length h5
        rw [List.drop_zero, ← size_bytes, List.length_append] at hlen
        rw [eachP, eachAt_enc h6 ls 0 n.size h4 h5 (by omega)] at h3
        simp only at h3
        omega
theorem rcheck_nm {n : ByteArray} {ls : List ByteArray} (h : Nm n ls) (hs : n.size ≤ 255) : m_ref03_Check n = some 0 := by
  rw [m_ref03_Check, row_nm h (by omega)]
  simp only [Option.bind_some, if_true]
  rw [if_neg (by omega)]
theorem rcheck_big {n : ByteArray} {ls : List ByteArray} (h : Nm n ls) (hs : 255 < n.size) (hb : n.size ≤ 1099511627776) : m_ref03_Check n = some 11 := by
  rw [m_ref03_Check, row_nm h (by omega)]
  simp only [Option.bind_some, if_true]
  rw [if_pos (by omega)]
theorem rcheck_no {n : ByteArray} (h : ¬ ∃ ls, Nm n ls) (hb : n.size ≤ 1099511627776) : m_ref03_Check n = some 10 := by
  obtain ⟨l, hl⟩ := row_no h hb
  rw [m_ref03_Check, hl]
  simp
theorem rlabels_nm {n : ByteArray} {ls : List ByteArray} (h : Nm n ls) (hs : n.size ≤ 255) : m_ref03_Labels n = some (ls, 0) := by
  rw [m_ref03_Labels, rcheck_nm h hs, Option.bind_some, if_neg (by simp), row_nm h (by omega)]; rfl
theorem rlabels_big {n : ByteArray} {ls : List ByteArray} (h : Nm n ls) (hs : 255 < n.size) (hb : n.size ≤ 1099511627776) : m_ref03_Labels n = some ([], 11) := by
  rw [m_ref03_Labels, rcheck_big h hs hb]; rfl
theorem rlabels_no {n : ByteArray} (h : ¬ ∃ ls, Nm n ls) (hb : n.size ≤ 1099511627776) : m_ref03_Labels n = some ([], 10) := by
  rw [m_ref03_Labels, rcheck_no h hb]; rfl
theorem size_nil {s : ByteArray} : s = (⟨#[]⟩ : ByteArray) ↔ s.size = 0 := by
  constructor
  · rintro rfl; rfl
  · intro h
    apply bytesI_inj
    have : (bytesI s).length = 0 := by rw [← size_bytes]; exact h
    rw [List.length_eq_zero_iff.1 this]; rfl
open Go.RowKit
theorem depth_nm {n : ByteArray} {ls : List ByteArray} (h : Nm n ls) (hs : n.size ≤ 255) : m_name_Depth n = some (ls.length : Int) := by
  rw [m_name_Depth, labels_nm h hs, Option.bind_some, if_neg (fun h => h rfl)]
theorem depth_big {n : ByteArray} {ls : List ByteArray} (h : Nm n ls) (hs : 255 < n.size) (hb : n.size ≤ 1099511627776) : m_name_Depth n = some (-1) := by
  rw [m_name_Depth, labels_big h hs hb]; rfl
theorem depth_no {n : ByteArray} (h : ¬ ∃ ls, Nm n ls) (hb : n.size ≤ 1099511627776) : m_name_Depth n = some (-1) := by
  rw [m_name_Depth, labels_no h hb]; rfl
def low (c : Int) : Int := if 65 ≤ c ∧ c ≤ 90 then c + 32 else c
def lowB (n : ByteArray) : ByteArray := strOfNums ((bytesI n).map low)
theorem low_range {c : Int} (h : 0 ≤ c ∧ c ≤ 255) : 0 ≤ low c ∧ low c ≤ 255 := by unfold low; split <;> omega
theorem lowB_bytes (n : ByteArray) : bytesI (lowB n) = (bytesI n).map low := bytesI_str (by
  intro x hx
  obtain ⟨y, hy, rfl⟩ := List.mem_map.1 hx
  exact low_range (bytesI_range n y hy))
theorem lowB_size (n : ByteArray) : (lowB n).size = n.size := by rw [size_bytes, lowB_bytes, List.length_map, ← size_bytes]
theorem or_low {c : Int} (h : 65 ≤ c ∧ c ≤ 90) : orI .u8 c 32 = c + 32 := by
  obtain ⟨k, hk⟩ := Int.eq_ofNat_of_zero_le (by omega : 0 ≤ c - 65)
  have hc : c = 65 + (k : Int) := by omega
  subst hc
  have : ∀ k : Fin 26, orI .u8 (65 + ((k.val : Nat) : Int)) 32 = 65 + ((k.val : Nat) : Int) + 32 := by decide +kernel
  exact this ⟨k, by omega⟩
/-- One byte after the other made small. -/
theorem low_loop (step : List Int → Int → Option ((List Int × Int) ⊕ List Int)) {n : ByteArray} (hn : n.size ≤ 1099511627776)
    (hs : ∀ (l : List Int) (k : Nat), l.length = n.size → step l (k : Int) = if k < n.size then some (.inl (l.set k (low (l.getD k 0)), ((k + 1 : Nat) : Int))) else some (.inr l)) :
    loop (fun s => step s.1 s.2) (bytesI n, 0) = some ((bytesI n).map low) := by
  have hl := size_bytes n
  refine loop_run (step := fun s => step s.1 s.2) n.size (fun k => (((bytesI n).take k).map low ++ (bytesI n).drop k, (k : Int))) _ (by simp) (fun k hk => ?_) ?_
  · rw [hs _ _ (by simp; omega), if_pos hk]
    congr 3
    have e1 : (bytesI n).drop k = (bytesI n)[k] :: (bytesI n).drop (k + 1) := List.drop_eq_getElem_cons (by omega)
    rw [e1, List.take_succ_eq_append_getElem (by omega), List.map_append]
    have hlen : (((bytesI n).take k).map low).length = k := by simp; omega
    rw [List.getD_eq_getElem?_getD, List.getElem?_append_right (by omega), hlen, Nat.sub_self, List.set_append_right _ _ (by omega), hlen, Nat.sub_self]
    simp only [List.set_cons_zero, List.getElem?_cons_zero, Option.getD_some, List.map_cons, List.map_nil, List.append_assoc, List.cons_append, List.nil_append]
  · rw [hs _ _ (by simp; omega), if_neg (by omega), List.take_of_length_le (by omega), List.drop_of_length_le (by omega), List.append_nil]
theorem at_getD0 {l : List Int} {k : Nat} (h : k < l.length) : at_ l (k : Int) = some (l.getD k 0) := by
  rw [at_nat h, List.getD_eq_getElem?_getD, List.getElem?_eq_getElem h]; rfl
theorem set_same (l : List Int) (k : Nat) (hk : k < l.length) : l.set k (l.getD k 0) = l := by
  rw [List.getD_eq_getElem?_getD, List.getElem?_eq_getElem hk]; simp
theorem lower_eq {n : ByteArray} (hn : n.size ≤ 1099511627776) : m_name_Lower n = some (lowB n) := by
  have hl := size_bytes n
  rw [m_name_Lower]
  erw [low_loop (m_name_Lower_s2 n) hn (fun l k hlen => ?_)]
  · rfl
  rw [m_name_Lower_s2]
  by_cases hk : k < n.size
  · rw [if_pos (by omega), if_pos hk, at_getD0 (by omega), Option.bind_some, Option.bind_some, w64_id (by omega) (by omega)]
    by_cases h1 : 65 ≤ l.getD k 0
    · rw [if_pos h1]
      by_cases h2 : l.getD k 0 ≤ 90
      · rw [if_pos h2, Option.bind_some, Option.bind_some, or_low ⟨h1, h2⟩, setAt, if_pos ⟨by omega, by omega⟩, Option.bind_some, low, if_pos ⟨h1, h2⟩]; rfl
      · rw [if_neg h2, low, if_neg (fun h => h2 h.2), set_same l k (by omega)]; rfl
    · rw [if_neg h1, low, if_neg (fun h => h1 h.1), set_same l k (by omega)]; rfl
  · rw [if_neg (by omega), if_neg hk]
theorem low_small {c : Int} (h : c ≤ 63) : low c = c := by unfold low; rw [if_neg (by omega)]
theorem low_zero {c : Int} : low c = 0 ↔ c = 0 := by unfold low; split <;> omega
theorem low_big {c : Int} : 63 < low c ↔ 63 < c := by unfold low; split <;> omega
theorem byteAt_low (n : ByteArray) (a : Nat) : byteAt (lowB n) a = low (byteAt n a) := by
  by_cases h : a < n.size
  · rw [← bytesI_get n a h, ← bytesI_get (lowB n) a (by rw [lowB_size]; exact h)]
    simp only [lowB_bytes, List.getElem_map]
  · unfold byteAt
    rw [dif_neg (by rw [lowB_size]; simp; omega), dif_neg (by simp; omega)]; rfl
theorem extract_low (n : ByteArray) (i j : Nat) : (lowB n).extract i j = lowB (n.extract i j) := bytesI_inj (by
  rw [bytesI_extract, lowB_bytes, lowB_bytes, bytesI_extract, List.map_drop, List.map_take])
theorem eachAt_low (n : ByteArray) : ∀ (f a : Nat), eachAt (lowB n) f a = ((eachAt n f a).1.map (fun x => (x.1, lowB x.2)), (eachAt n f a).2) := by
  intro f
  induction f with
  | zero => intro a; rfl
  | succ f ih =>
    intro a
    rw [eachAt, eachAt, lowB_size, byteAt_low]
    by_cases h1 : a < n.size ∧ byteAt n a ≠ 0
    · rw [if_pos h1, if_pos ⟨h1.1, fun h => h1.2 (low_zero.1 h)⟩]
      by_cases h2 : 63 < byteAt n a
      · rw [if_pos (.inl (low_big.2 h2)), if_pos (.inl h2)]; rfl
      · rw [low_small (by omega)]
        by_cases h3 : 63 < byteAt n a ∨ n.size < a + 1 + (byteAt n a).toNat
        · rw [if_pos h3, if_pos h3]; rfl
        · rw [if_neg h3, if_neg h3, ih, extract_low]; rfl
    · rw [if_neg h1, if_neg (fun h => h1 ⟨h.1, fun h' => h.2 (low_zero.2 h')⟩)]; rfl
theorem encB_low {ls : List ByteArray} (h : okLs ls) : encB (ls.map lowB) = (encB ls).map low := by
  induction ls with
  | nil => rfl
  | cons s ls ih =>
    have := okLs_cons.1 h
    rw [List.map_cons, encB_cons, encB_cons, ih this.2, lowB_size, lowB_bytes, List.map_append, List.map_cons, low_small (by omega)]
theorem okLs_low {ls : List ByteArray} (h : okLs ls) : okLs (ls.map lowB) := by
  intro s hs
  obtain ⟨t, ht, rfl⟩ := List.mem_map.1 hs
  rw [lowB_size]; exact h t ht
theorem nm_low {n : ByteArray} {ls : List ByteArray} (h : Nm n ls) : Nm (lowB n) (ls.map lowB) := ⟨okLs_low h.1, by
  rw [lowB_bytes, h.2, List.map_append, encB_low h.1]; rfl⟩
theorem nm_iff (n : ByteArray) : (∃ ls, Nm n ls) ↔ (eachP n).2 = (n.size : Int) - 1 ∧ 0 ≤ (eachP n).2 := by
  constructor
  · rintro ⟨ls, h⟩
    have := nm_size h
    rw [each_nm h]; exact ⟨rfl, by simp only; omega⟩
  · intro h
    by_cases hc : ∃ ls, Nm n ls
    · exact hc
    · rcases each_no hc with h1 | h1
      · exact absurd h.1 h1
      · omega
theorem nm_low_no {n : ByteArray} (h : ¬ ∃ ls, Nm n ls) : ¬ ∃ ls, Nm (lowB n) ls := by
  rw [nm_iff] at h ⊢
  rw [eachP, lowB_size, eachAt_low]
  exact h
/-- In place the other way round. -/
theorem rev_loop (l : List ByteArray) (hl : l.length ≤ 1099511627776) : m_slices_Reverse_101 l = some l.reverse := by
  obtain ⟨r, h1, rfl⟩ := loop_rule (step := fun s : List ByteArray × Int × Int => m_slices_Reverse_101_s2 s.1 s.2.1 s.2.2)
    (fun s => ∃ i j : Nat, s.2.1 = (i : Int) ∧ s.2.2 = (j : Int) - 1 ∧ i + j = l.length ∧ s.1.length = l.length ∧ i ≤ j + 1 ∧ ∀ t, t < l.length → s.1[t]? = if t < i ∨ j ≤ t then l[l.length - 1 - t]? else l[t]?)
    (fun s => (s.2.2 + 1 - s.2.1).toNat + 1) (fun r => r = l.reverse)
    (by
      rintro ⟨q, i', j'⟩ ⟨i, j, g1, g2, g3, g4, g5, g6⟩
      simp only at g1 g2 g4 g6
      subst g1 g2
      simp only
      rw [m_slices_Reverse_101_s2]
      by_cases hc : i + 1 < j
      · left
        have hj : (j : Int) - 1 = ((j - 1 : Nat) : Int) := by omega
        rw [if_pos (by omega), hj, at_nat (by omega), Option.bind_some, at_nat (by omega), Option.bind_some, Option.bind_some, setAt, if_pos ⟨by omega, by omega⟩, Option.bind_some, at_nat (by rw [List.length_set]; omega), Option.bind_some, setAt, if_pos ⟨by omega, by rw [List.length_set]; omega⟩, Option.bind_some, w64_id (by omega) (by omega), w64_id (by omega) (by omega)]
        refine ⟨_, rfl, ⟨i + 1, j - 1, by simp only; omega, rfl, by omega, by simp only [List.length_set]; omega, by omega, fun t ht => ?_⟩, by simp only; omega⟩
        have gi := g6 i (by omega)
        have gj := g6 (j - 1) (by omega)
        rw [if_neg (by omega)] at gi gj
        have ei : q[i]'(by omega) = l[i]'(by omega) := by
          have : some (q[i]'(by omega)) = some (l[i]'(by omega)) := by rw [← List.getElem?_eq_getElem, ← List.getElem?_eq_getElem]; exact gi
          injection this
        have ej : q[j - 1]'(by omega) = l[j - 1]'(by omega) := by
          have : some (q[j - 1]'(by omega)) = some (l[j - 1]'(by omega)) := by rw [← List.getElem?_eq_getElem, ← List.getElem?_eq_getElem]; exact gj
          injection this
        simp only [Int.toNat_natCast, List.getElem?_set, List.length_set]
        by_cases t1 : j - 1 = t
        · subst t1
          rw [if_pos rfl, if_pos (by omega), if_pos (by omega), show l.length - 1 - (j - 1) = i by omega, List.getElem?_eq_getElem (by omega), ei]
        · rw [if_neg t1]
          by_cases t2 : i = t
          · subst t2
            rw [if_pos rfl, if_pos (by omega), if_pos (by omega), show l.length - 1 - i = j - 1 by omega, List.getElem?_eq_getElem (by omega), ej]
          · rw [if_neg t2, g6 t ht]
            by_cases t3 : t < i ∨ j ≤ t
            · rw [if_pos t3, if_pos (by omega)]
            · rw [if_neg t3, if_neg (by omega)]
      · right
        refine ⟨q, by rw [if_neg (by omega)], ?_⟩
        apply List.ext_getElem?
        intro t
        by_cases ht : t < l.length
        · rw [List.getElem?_reverse ht, g6 t ht]
          by_cases t3 : t < i ∨ j ≤ t
          · rw [if_pos t3]
          · rw [if_neg t3]; congr 1; omega
        · rw [List.getElem?_eq_none (by omega), List.getElem?_eq_none (by simp; omega)])
    (s0 := (l, 0, (l.length : Int) - 1)) ⟨0, l.length, rfl, rfl, by omega, rfl, by omega, fun t ht => by rw [if_neg (by omega)]⟩
  rw [m_slices_Reverse_101, w64_id (by omega) (by omega)]
  erw [h1]
  rfl
/-- A name's labels with small letters, the last one ahead. -/
def revL (ls : List ByteArray) : List ByteArray := (ls.map lowB).reverse
theorem revL_len (ls : List ByteArray) : (revL ls).length = ls.length := by simp [revL]
theorem nm_few {n : ByteArray} {ls : List ByteArray} (h : Nm n ls) (hs : n.size ≤ 255) : ls.length ≤ 254 := by
  have := len_enc ls; have := nm_size h; omega
theorem two_nm {a b : ByteArray} {x y : List ByteArray} (h : Nm a x) (hs : a.size ≤ 255) (h' : Nm b y) (hs' : b.size ≤ 255) : m_name_two a b = some (revL x, revL y, true) := by
  have := nm_few h hs
  have := nm_few h' hs'
  rw [m_name_two, lower_eq (by omega), Option.bind_some, labels_nm (nm_low h) (by rw [lowB_size]; exact hs), Option.bind_some, lower_eq (by omega), Option.bind_some, labels_nm (nm_low h') (by rw [lowB_size]; exact hs'), Option.bind_some, rev_loop _ (by simp; omega), Option.bind_some, rev_loop _ (by simp; omega), Option.bind_some, if_pos rfl]
  rfl
/-- It is a name of 255 bytes at most. -/
def isNm (n : ByteArray) : Prop := ∃ ls, Nm n ls ∧ n.size ≤ 255
theorem low_labels_no {a : ByteArray} (h : ¬ isNm a) (hb : a.size ≤ 1099511627776) : ∃ e, m_name_Labels (lowB a) = some ([], e) ∧ e ≠ 0 := by
  rcases nm_cases a with h1 | ⟨ls, h1, h2⟩ | h1
  · exact absurd h1 h
  · exact ⟨11, labels_big (nm_low h1) (by rw [lowB_size]; exact h2) (by rw [lowB_size]; exact hb), by omega⟩
  · exact ⟨10, labels_no (nm_low_no h1) (by rw [lowB_size]; exact hb), by omega⟩
theorem low_labels_any {a : ByteArray} (hb : a.size ≤ 1099511627776) : ∃ x e, m_name_Labels (lowB a) = some (x, e) ∧ x.length ≤ 1099511627776 := by
  by_cases h : isNm a
  · obtain ⟨ls, h1, h2⟩ := h
    have := nm_few h1 h2
    exact ⟨_, 0, labels_nm (nm_low h1) (by rw [lowB_size]; exact h2), by simp; omega⟩
  · obtain ⟨e, h1, _⟩ := low_labels_no h hb
    exact ⟨[], e, h1, by simp⟩
theorem two_no {a b : ByteArray} (h : ¬ (isNm a ∧ isNm b)) (ha : a.size ≤ 1099511627776) (hb : b.size ≤ 1099511627776) : ∃ x y, m_name_two a b = some (x, y, false) := by
  obtain ⟨x, e, h1, h2⟩ := low_labels_any ha
  obtain ⟨y, f, h3, h4⟩ := low_labels_any hb
  refine ⟨x.reverse, y.reverse, ?_⟩
  rw [m_name_two, lower_eq ha, Option.bind_some, h1, Option.bind_some, lower_eq hb, Option.bind_some, h3, Option.bind_some, rev_loop _ h2, Option.bind_some, rev_loop _ h4, Option.bind_some]
  by_cases he : e = 0
  · rw [if_pos he]
    have hf : f ≠ 0 := by
      intro hf
      by_cases c1 : isNm a
      · obtain ⟨f', h5, h6⟩ := low_labels_no (fun hb' => h ⟨c1, hb'⟩) hb
        rw [h3] at h5
        injection h5 with h5
        injection h5 with _ h5
        exact h6 (h5.symm.trans hf)
      · obtain ⟨f', h5, h6⟩ := low_labels_no c1 ha
        rw [h1] at h5
        injection h5 with h5
        injection h5 with _ h5
        exact h6 (h5.symm.trans he)
    rw [decide_eq_false hf]
  · rw [if_neg he]
/-- How many are alike ahead. -/
def cpl : List ByteArray → List ByteArray → Nat
  | x :: xs, y :: ys => if x = y then cpl xs ys + 1 else 0
  | _, _ => 0
theorem cpl_le : ∀ (x y : List ByteArray), cpl x y ≤ x.length ∧ cpl x y ≤ y.length
  | [], y => by simp [cpl]
  | x :: xs, [] => by simp [cpl]
  | x :: xs, y :: ys => by
    have := cpl_le xs ys
    rw [cpl]; split <;> simp <;> omega
theorem cpl_lt : ∀ (x y : List ByteArray) (k : Nat), k < cpl x y → x[k]? = y[k]? ∧ k < x.length ∧ k < y.length
  | [], y, k, h => by simp [cpl] at h
  | x :: xs, [], k, h => by simp [cpl] at h
  | x :: xs, y :: ys, k, h => by
    rw [cpl] at h
    split at h
    · rename_i hxy
      cases k with
      | zero => subst hxy; simp
      | succ k =>
        have := cpl_lt xs ys k (by omega)
        simpa using this
    · omega
theorem cpl_end : ∀ (x y : List ByteArray), cpl x y < x.length → cpl x y < y.length → x[cpl x y]? ≠ y[cpl x y]?
  | [], y, h, _ => by simp at h
  | x :: xs, [], _, h => by simp at h
  | x :: xs, y :: ys, h1, h2 => by
    rw [cpl] at h1 h2 ⊢
    split
    · rename_i hxy
      rw [if_pos hxy] at h1 h2
      have := cpl_end xs ys (by simpa using h1) (by simpa using h2)
      simpa using this
    · rename_i hxy
      simpa using hxy
theorem shared_nm {a b : ByteArray} {x y : List ByteArray} (h : Nm a x) (hs : a.size ≤ 255) (h' : Nm b y) (hs' : b.size ≤ 255) : m_name_Shared a b = some (cpl (revL x) (revL y) : Int) := by
  have f1 := nm_few h hs
  have f2 := nm_few h' hs'
  have g1 := revL_len x
  have g2 := revL_len y
  have hle := cpl_le (revL x) (revL y)
  have := loop_run (step := fun s => m_name_Shared_s2 (revL x) (revL y) s) (cpl (revL x) (revL y)) (fun k => (k : Int)) ((cpl (revL x) (revL y) : Nat) : Int) (s0 := 0) rfl
    (fun k hk => by
      obtain ⟨e1, e2, e3⟩ := cpl_lt _ _ k hk
      rw [List.getElem?_eq_getElem e2, List.getElem?_eq_getElem e3] at e1
      injection e1 with e1
      simp only [m_name_Shared_s2, m_name_Shared_c1]
      rw [if_pos (by omega), if_pos (by omega), at_nat e2, Option.bind_some, at_nat e3, Option.bind_some, Option.bind_some, if_pos (decide_eq_true e1), w64_id (by omega) (by omega)]
      rfl)
    (by
      simp only [m_name_Shared_s2, m_name_Shared_c1]
      by_cases c1 : cpl (revL x) (revL y) < (revL x).length
      · rw [if_pos (by omega)]
        by_cases c2 : cpl (revL x) (revL y) < (revL y).length
        · have hne := cpl_end _ _ c1 c2
          rw [List.getElem?_eq_getElem c1, List.getElem?_eq_getElem c2] at hne
          rw [if_pos (by omega), at_nat c1, Option.bind_some, at_nat c2, Option.bind_some, Option.bind_some, if_neg]
          intro hd
          exact hne (congrArg some (of_decide_eq_true hd))
        · rw [if_neg (by omega)]; rfl
      · rw [if_neg (by omega)]; rfl)
  rw [m_name_Shared, two_nm h hs h' hs', Option.bind_some, if_pos rfl]
  erw [this]
  rfl
theorem shared_no {a b : ByteArray} (h : ¬ (isNm a ∧ isNm b)) (ha : a.size ≤ 1099511627776) (hb : b.size ≤ 1099511627776) : m_name_Shared a b = some (-1) := by
  obtain ⟨x, y, h1⟩ := two_no h ha hb
  rw [m_name_Shared, h1]; rfl
theorem depth_not {n : ByteArray} (h : ¬ isNm n) (hb : n.size ≤ 1099511627776) : m_name_Depth n = some (-1) := by
  rcases nm_cases n with h1 | ⟨ls, h1, h2⟩ | h1
  · exact absurd h1 h
  · exact depth_big h1 h2 hb
  · exact depth_no h1 hb
theorem under_nm {a b : ByteArray} {x y : List ByteArray} (h : Nm a x) (hs : a.size ≤ 255) (h' : Nm b y) (hs' : b.size ≤ 255) : m_name_Under a b = some (decide (cpl (revL x) (revL y) = y.length)) := by
  rw [m_name_Under, depth_nm h' hs', Option.bind_some, if_pos (by omega), shared_nm h hs h' hs', Option.bind_some]
  congr 1
  exact decide_eq_decide.2 (by omega)
theorem under_no {a b : ByteArray} (h : ¬ (isNm a ∧ isNm b)) (ha : a.size ≤ 1099511627776) (hb : b.size ≤ 1099511627776) : m_name_Under a b = some false := by
  by_cases c : isNm b
  · obtain ⟨y, h1, h2⟩ := c
    rw [m_name_Under, depth_nm h1 h2, Option.bind_some, if_pos (by omega), shared_no h ha hb, Option.bind_some, decide_eq_false (by omega)]
  · rw [m_name_Under, depth_not c hb, Option.bind_some, if_neg (by omega)]
theorem starts_at : ∀ (ls : List ByteArray) (a k : Nat), k < ls.length → (starts a ls)[k]? = some (((a + (encB (ls.take k)).length : Nat) : Int), ls.getD k ⟨#[]⟩)
  | [], a, k, h => by simp at h
  | s :: ls, a, 0, h => by simp [starts, encB]
  | s :: ls, a, k + 1, h => by
    rw [starts, List.getElem?_cons_succ, starts_at ls _ k (by simpa using h), List.take_succ_cons, encB_cons]
    simp [← size_bytes]
    omega
theorem cut_drop {n : ByteArray} {ls : List ByteArray} (h : Nm n ls) (k : Nat) : n.extract ((encB (ls.take k)).length) n.size = mkN (ls.drop k) := by
  have hok : okLs (ls.drop k) := fun s hs => h.1 s (List.mem_of_mem_drop hs)
  refine bytesI_inj ?_
  rw [bytesI_extract, size_bytes n, List.take_length, (mkN_nm hok).2, h.2]
  have : encB ls = encB (ls.take k) ++ encB (ls.drop k) := by rw [← encB_append, List.take_append_drop]
  rw [this, List.append_assoc, List.drop_left]
/-- The last labels of a name. -/
def lastL (ls : List ByteArray) (d : Int) : List ByteArray := if (ls.length : Int) ≤ d then ls else ls.drop (ls.length - d.toNat)
theorem cut_nm {n : ByteArray} {ls : List ByteArray} (h : Nm n ls) (hs : n.size ≤ 255) {d : Int} (hd : -9223372036854775808 ≤ d ∧ d ≤ 9223372036854775807) : m_name_Cut n d = some (mkN (lastL ls d)) := by
  have hf := nm_few h hs
  have hsz := nm_size h
  have hL : ((eachP n).1.map Prod.fst).length = ls.length := by rw [each_nm h, List.length_map, starts_len]
  rw [m_name_Cut, eachM_of (by omega), Option.bind_some, check_nm h hs, Option.bind_some, if_neg (fun h => h rfl), hL, lastL]
  by_cases c1 : (ls.length : Int) ≤ d
  · rw [if_pos c1, if_pos c1, ← nm_mk h]
  rw [if_neg c1, if_neg c1]
  by_cases c2 : d < 1
  · have hd0 : d.toNat = 0 := by omega
    have hc := cut_drop h ls.length
    rw [List.take_length, List.drop_length] at hc
    rw [if_pos c2, each_nm h, scutLo, if_pos ⟨by simp only; omega, by simp only; omega⟩, Option.bind_some, hd0, Nat.sub_zero, List.drop_length, ← hc]
    congr 2
    simp only; omega
  · rw [if_neg c2, w64_id (by omega) (by omega), show (ls.length : Int) - d = ((ls.length - d.toNat : Nat) : Int) by omega]
    have hat : at_ ((eachP n).1.map Prod.fst) ((ls.length - d.toNat : Nat) : Int) = some (((encB (ls.take (ls.length - d.toNat))).length : Nat) : Int) := by
      rw [at_, if_pos (by omega), each_nm h, List.getElem?_map, Int.toNat_natCast, starts_at ls 0 _ (by omega)]
      simp
    have hle : (encB (ls.take (ls.length - d.toNat))).length ≤ (encB ls).length := by
      have : encB ls = encB (ls.take (ls.length - d.toNat)) ++ encB (ls.drop (ls.length - d.toNat)) := by rw [← encB_append, List.take_append_drop]
      rw [this, List.length_append]; omega
    rw [hat, Option.bind_some, scutLo, if_pos ⟨by omega, by omega⟩, Option.bind_some, Int.toNat_natCast, cut_drop h]
theorem cut_no {n : ByteArray} (h : ¬ isNm n) (hb : n.size ≤ 1099511627776) (d : Int) : m_name_Cut n d = some ⟨#[]⟩ := by
  rw [m_name_Cut, eachM_of hb, Option.bind_some]
  rcases nm_cases n with h1 | ⟨ls, h1, h2⟩ | h1
  · exact absurd h1 h
  · rw [check_big h1 h2 hb]; rfl
  · rw [check_no h1 hb]; rfl
open Go.RowKit
theorem rdepth_nm {n : ByteArray} {ls : List ByteArray} (h : Nm n ls) (hs : n.size ≤ 255) : m_ref03_Depth n = some (ls.length : Int) := by
  rw [m_ref03_Depth, rlabels_nm h hs, Option.bind_some, if_neg (fun h => h rfl)]
open Go.RowKit
theorem rlower_eq {n : ByteArray} (hn : n.size ≤ 1099511627776) : m_ref03_Lower n = some (lowB n) := by
  have hl := size_bytes n
  rw [m_ref03_Lower]
  erw [low_loop (m_ref03_Lower_s2 n) hn (fun l k hlen => ?_)]
  · rfl
  rw [m_ref03_Lower_s2]
  by_cases hk : k < n.size
  · rw [if_pos (by omega), if_pos hk, at_getD0 (by omega), Option.bind_some, Option.bind_some, w64_id (by omega) (by omega)]
    by_cases h1 : 65 ≤ l.getD k 0
    · rw [if_pos h1]
      by_cases h2 : l.getD k 0 ≤ 90
      · rw [if_pos h2, Option.bind_some, Option.bind_some, wrapu8 (by omega) (by omega), setAt, if_pos ⟨by omega, by omega⟩, Option.bind_some, low, if_pos ⟨h1, h2⟩]; rfl
      · rw [if_neg h2, low, if_neg (fun h => h2 h.2), set_same l k (by omega)]; rfl
    · rw [if_neg h1, low, if_neg (fun h => h1 h.1), set_same l k (by omega)]; rfl
  · rw [if_neg (by omega), if_neg hk]
theorem revL_get {ls : List ByteArray} {k : Nat} (h : k < ls.length) : (revL ls)[k]? = some (lowB (ls[ls.length - 1 - k]'(by omega))) := by
  rw [revL, List.getElem?_reverse (by simpa using h), List.length_map, List.getElem?_map, List.getElem?_eq_getElem (by omega)]; rfl
theorem nm_lab {n : ByteArray} {ls : List ByteArray} (h : Nm n ls) : ∀ s ∈ ls, s.size ≤ 63 := fun s hs => (h.1 s hs).2
theorem rshared_nm {a b : ByteArray} {x y : List ByteArray} (h : Nm a x) (hs : a.size ≤ 255) (h' : Nm b y) (hs' : b.size ≤ 255) : m_ref03_Shared a b = some (cpl (revL x) (revL y) : Int) := by
  have f1 := nm_few h hs
  have f2 := nm_few h' hs'
  have g1 := revL_len x
  have g2 := revL_len y
  have hle := cpl_le (revL x) (revL y)
  have hgo : ∀ (k : Nat) (c1 : k < x.length) (c2 : k < y.length), m_ref03_Shared_s2 x y (k : Int) = if (revL x)[k]? = (revL y)[k]? then some (.inl ((k + 1 : Nat) : Int)) else some (.inr (k : Int)) := by
    intro k c1 c2
    have e1 : x[x.length - 1 - k].size ≤ 63 := nm_lab h _ (List.getElem_mem _)
    have e2 : y[y.length - 1 - k].size ≤ 63 := nm_lab h' _ (List.getElem_mem _)
    rw [m_ref03_Shared_s2, if_pos (by omega), if_pos (by omega), w64_id (x := (x.length : Int) - 1) (by omega) (by omega), w64_id (x := (y.length : Int) - 1) (by omega) (by omega), w64_id (x := (x.length : Int) - 1 - k) (by omega) (by omega), w64_id (x := (y.length : Int) - 1 - k) (by omega) (by omega), w64_id (by omega) (by omega),
      show (x.length : Int) - 1 - k = ((x.length - 1 - k : Nat) : Int) by omega, show (y.length : Int) - 1 - k = ((y.length - 1 - k : Nat) : Int) by omega, at_nat (by omega), Option.bind_some, at_nat (by omega), Option.bind_some, rlower_eq (by omega), Option.bind_some, rlower_eq (by omega), Option.bind_some, revL_get c1, revL_get c2]
    by_cases hc : lowB x[x.length - 1 - k] = lowB y[y.length - 1 - k]
    · rw [if_pos hc, if_pos (by rw [hc])]; rfl
    · rw [if_neg hc, if_neg (fun h => hc (Option.some.inj h))]
  have := loop_run (step := fun s => m_ref03_Shared_s2 x y s) (cpl (revL x) (revL y)) (fun k => (k : Int)) ((cpl (revL x) (revL y) : Nat) : Int) (s0 := 0) rfl
    (fun k hk => by
      obtain ⟨e1, e2, e3⟩ := cpl_lt _ _ k hk
      rw [hgo k (by omega) (by omega), if_pos e1])
    (by
      by_cases c : cpl (revL x) (revL y) < x.length ∧ cpl (revL x) (revL y) < y.length
      · rw [hgo _ c.1 c.2, if_neg (cpl_end _ _ (by omega) (by omega))]
      · rw [m_ref03_Shared_s2]
        by_cases c1 : cpl (revL x) (revL y) < x.length
        · rw [if_pos (by omega), if_neg (by omega)]
        · rw [if_neg (by omega)])
  rw [m_ref03_Shared, rlabels_nm h hs, Option.bind_some, rlabels_nm h' hs', Option.bind_some, if_neg (fun h => h rfl), if_neg (fun h => h rfl)]
  erw [this]
  rfl
theorem rlabels_not {n : ByteArray} (h : ¬ isNm n) (hb : n.size ≤ 1099511627776) : ∃ e, m_ref03_Labels n = some ([], e) ∧ e ≠ 0 := by
  rcases nm_cases n with h1 | ⟨ls, h1, h2⟩ | h1
  · exact absurd h1 h
  · exact ⟨11, rlabels_big h1 h2 hb, by omega⟩
  · exact ⟨10, rlabels_no h1 hb, by omega⟩
theorem rshared_no {a b : ByteArray} (h : ¬ (isNm a ∧ isNm b)) (ha : a.size ≤ 1099511627776) (hb : b.size ≤ 1099511627776) : m_ref03_Shared a b = some (-1) := by
  by_cases c : isNm a
  · obtain ⟨e, e1, e2⟩ := rlabels_not (fun hb' => h ⟨c, hb'⟩) hb
    obtain ⟨x, x1, x2⟩ := c
    rw [m_ref03_Shared, rlabels_nm x1 x2, Option.bind_some, e1, Option.bind_some, if_neg (fun h => h rfl), if_pos e2]
  · obtain ⟨e, e1, e2⟩ := rlabels_not c ha
    by_cases c2 : isNm b
    · obtain ⟨y, y1, y2⟩ := c2
      rw [m_ref03_Shared, e1, Option.bind_some, rlabels_nm y1 y2, Option.bind_some, if_pos e2]
    · obtain ⟨f, f1, f2⟩ := rlabels_not c2 hb
      rw [m_ref03_Shared, e1, Option.bind_some, f1, Option.bind_some, if_pos e2]
theorem cpl_full : ∀ (x y : List ByteArray), cpl x y = x.length → cpl x y = y.length → x = y
  | [], [], _, _ => rfl
  | [], y :: ys, _, h => by simp [cpl] at h
  | x :: xs, [], h, _ => by simp [cpl] at h
  | x :: xs, y :: ys, h1, h2 => by
    rw [cpl] at h1 h2
    split at h1
    · rename_i hxy
      rw [if_pos hxy] at h2
      rw [hxy, cpl_full xs ys (by simpa using h1) (by simpa using h2)]
    · simp at h1
theorem cpl_self (x : List ByteArray) : cpl x x = x.length := by
  induction x with
  | nil => rfl
  | cons x xs ih => rw [cpl, if_pos rfl, ih]; rfl
theorem lowB_iff {a b : ByteArray} {x y : List ByteArray} (h : Nm a x) (h' : Nm b y) : lowB a = lowB b ↔ revL x = revL y := by
  constructor
  · intro he
    have h1 := nm_low h
    rw [he] at h1
    rw [revL, nm_inj h1 (nm_low h')]; rfl
  · intro he
    have : x.map lowB = y.map lowB := List.reverse_inj.1 he
    refine nm_eq (nm_low h) ?_
    rw [this]; exact nm_low h'
theorem same_nm {a b : ByteArray} {x y : List ByteArray} (h : Nm a x) (hs : a.size ≤ 255) (h' : Nm b y) (hs' : b.size ≤ 255) : m_name_Same a b = some (decide (revL x = revL y)) := by
  rw [m_name_Same, check_nm h hs, Option.bind_some, if_pos rfl, lower_eq (by omega), Option.bind_some, lower_eq (by omega), Option.bind_some]
  exact congrArg some (decide_eq_decide.2 (lowB_iff h h'))
theorem check_not {n : ByteArray} (h : ¬ isNm n) (hb : n.size ≤ 1099511627776) : ∃ e, m_name_Check n = some e ∧ e ≠ 0 := by
  rcases nm_cases n with h1 | ⟨ls, h1, h2⟩ | h1
  · exact absurd h1 h
  · exact ⟨11, check_big h1 h2 hb, by omega⟩
  · exact ⟨10, check_no h1 hb, by omega⟩
theorem same_no {a b : ByteArray} (h : ¬ (isNm a ∧ isNm b)) (ha : a.size ≤ 1099511627776) (hb : b.size ≤ 1099511627776) : m_name_Same a b = some false := by
  by_cases c : isNm a
  · obtain ⟨x, x1, x2⟩ := c
    rw [m_name_Same, check_nm x1 x2, Option.bind_some, if_pos rfl, lower_eq (by omega), Option.bind_some, lower_eq hb, Option.bind_some, decide_eq_false]
    intro he
    have hz : a.size = b.size := by rw [← lowB_size a, he, lowB_size]
    refine h ⟨⟨x, x1, x2⟩, ?_⟩
    by_cases hc : ∃ ls, Nm b ls
    · obtain ⟨ls, hl⟩ := hc; exact ⟨ls, hl, by omega⟩
    · refine absurd ⟨x.map lowB, ?_⟩ (nm_low_no hc)
      rw [← he]; exact nm_low x1
  · obtain ⟨e, e1, e2⟩ := check_not c ha
    rw [m_name_Same, e1, Option.bind_some, if_neg e2]
theorem rsame_nm {a b : ByteArray} {x y : List ByteArray} (h : Nm a x) (hs : a.size ≤ 255) (h' : Nm b y) (hs' : b.size ≤ 255) : m_ref03_Same a b = some (decide (revL x = revL y)) := by
  have g1 := revL_len x
  have g2 := revL_len y
  rw [m_ref03_Same, rshared_nm h hs h' hs', Option.bind_some, if_pos (by omega), rdepth_nm h hs, Option.bind_some, rdepth_nm h' hs']
  by_cases c1 : cpl (revL x) (revL y) = x.length
  · rw [if_pos (by omega), Option.bind_some]
    refine congrArg some (decide_eq_decide.2 ⟨fun h => cpl_full _ _ (by omega) (by omega), fun h => ?_⟩)
    rw [h, cpl_self]; omega
  · rw [if_neg (by omega), decide_eq_false]
    intro h
    rw [h, cpl_self, ← h] at c1
    exact c1 g1
theorem rsame_no {a b : ByteArray} (h : ¬ (isNm a ∧ isNm b)) (ha : a.size ≤ 1099511627776) (hb : b.size ≤ 1099511627776) : m_ref03_Same a b = some false := by
  rw [m_ref03_Same, rshared_no h ha hb]; rfl
open Go.RowKit
/-- A type's data: bytes ahead, names, bytes behind; has it names? -/
def shp (t : Int) : Int × Int × Int × Bool := if t = 2 ∨ t = 5 ∨ t = 12 then (0, 1, 0, true) else if t = 15 then (2, 1, 0, true) else if t = 6 then (0, 2, 20, true) else (0, 0, 0, false)
theorem shp_cases (t : Int) : shp t = (0, 1, 0, true) ∨ shp t = (2, 1, 0, true) ∨ shp t = (0, 2, 20, true) ∨ shp t = (0, 0, 0, false) := by
  unfold shp
  split
  · exact .inl rfl
  · split
    · exact .inr (.inl rfl)
    · split
      · exact .inr (.inr (.inl rfl))
      · exact .inr (.inr (.inr rfl))
theorem shapeOf_eq (t : Int) : m_record_shapeOf t = some ⟨(shp t).1, (shp t).2.1, (shp t).2.2.1⟩ := by
  unfold m_record_shapeOf m_record_shapeOf_j1 shp
  by_cases h2 : t = 2
  · subst h2; rfl
  by_cases h5 : t = 5
  · subst h5; rfl
  by_cases h12 : t = 12
  · subst h12; rfl
  by_cases h15 : t = 15
  · subst h15; rfl
  by_cases h6 : t = 6
  · subst h6; rfl
  simp [h2, h5, h12, h15, h6]
/-- Over labels, up to a 0 or the end. -/
def skipAt (s : ByteArray) (z : Bool) : Nat → Nat → Nat
  | 0, a => a
  | f + 1, a => if a < s.size ∧ (z = true → byteAt s a ≠ 0) then skipAt s z f (a + 1 + (byteAt s a).toNat) else a
theorem skip_loop {s : ByteArray} (hs : s.size ≤ 1099511627776) {z : Bool} {step : Int → Option (Int ⊕ Int)}
    (h : ∀ a : Nat, a ≤ 1099511627776 + 512 → step (a : Int) = if a < s.size ∧ (z = true → byteAt s a ≠ 0) then some (.inl ((a + 1 + (byteAt s a).toNat : Nat) : Int)) else some (.inr (a : Int))) :
    ∀ (f a : Nat), s.size ≤ a + f → a ≤ s.size + 256 → loop step (a : Int) = some ((skipAt s z f a : Nat) : Int) := by
  intro f
  induction f with
  | zero =>
    intro a h1 h2
    rw [loop_inr (by rw [h a (by omega), if_neg (by omega)])]; rfl
  | succ f ih =>
    intro a h1 h2
    have hb := byteAt_lt s a
    by_cases hc : a < s.size ∧ (z = true → byteAt s a ≠ 0)
    · rw [loop_inl (by rw [h a (by omega), if_pos hc]), ih _ (by omega) (by omega), skipAt, if_pos hc]
    · rw [loop_inr (by rw [h a (by omega), if_neg hc]), skipAt, if_neg hc]
def skipN (s : ByteArray) : Nat := skipAt s true s.size 0
def skipT (s : ByteArray) : Nat := skipAt s false s.size 0
theorem cut_skip {s : ByteArray} (hs : s.size ≤ 1099511627776) : loop (fun i => m_record_shape_cut_c1_s2 s i) 0 = some ((skipN s : Nat) : Int) := by
  refine skip_loop hs (z := true) (fun a ha => ?_) s.size 0 (by omega) (by omega)
  have hb := byteAt_lt s a
  rw [m_record_shape_cut_c1_s2]
  by_cases h1 : a < s.size
  · rw [if_pos (by omega), sat_of (by omega) (by omega), Option.bind_some]
    by_cases h2 : byteAt s a ≠ 0
    · rw [if_pos h2, if_pos ⟨h1, fun _ => h2⟩, Option.bind_some, w64_id (x := byteAt s a) (by omega) (by omega), w64_id (x := 1 + byteAt s a) (by omega) (by omega), w64_id (by omega) (by omega)]
      congr 2; omega
    · rw [if_neg h2, if_neg (fun h => h2 (h.2 rfl))]
  · rw [if_neg (by omega), if_neg (fun h => h1 h.1)]
theorem right_skip {s : ByteArray} (hs : s.size ≤ 1099511627776) : loop (fun i => m_record_right_s2 s i) 0 = some ((skipT s : Nat) : Int) := by
  refine skip_loop hs (z := false) (fun a ha => ?_) s.size 0 (by omega) (by omega)
  have hb := byteAt_lt s a
  rw [m_record_right_s2]
  by_cases h1 : a < s.size
  · rw [if_pos (by omega), sat_of (by omega) (by omega), Option.bind_some, if_pos ⟨h1, fun h => by cases h⟩, w64_id (x := byteAt s a) (by omega) (by omega), w64_id (x := 1 + byteAt s a) (by omega) (by omega), w64_id (by omega) (by omega)]
    congr 2; omega
  · rw [if_neg (by omega), if_neg (fun h => h1 h.1)]
theorem skipAt_le (s : ByteArray) (z : Bool) : ∀ (f a : Nat), a ≤ s.size + 256 → skipAt s z f a ≤ s.size + 256 := by
  intro f
  induction f with
  | zero => intro a h; exact h
  | succ f ih =>
    intro a h
    have hb := byteAt_lt s a
    rw [skipAt]
    split
    · exact ih _ (by omega)
    · exact h
theorem isNm_checkC {n : ByteArray} (hb : n.size ≤ 1099511627776) : ∃ e, m_name_Check n = some e ∧ (e = 0 ↔ isNm n) := by
  rcases nm_cases n with h | ⟨ls, h1, h2⟩ | h
  · obtain ⟨ls, h1, h2⟩ := h
    exact ⟨0, check_nm h1 h2, fun _ => ⟨ls, h1, h2⟩, fun _ => rfl⟩
  · refine ⟨11, check_big h1 h2 hb, fun h => by omega, fun ⟨_, _, h⟩ => by omega⟩
  · refine ⟨10, check_no h hb, fun h => by omega, fun ⟨ls, h', _⟩ => absurd ⟨ls, h'⟩ h⟩
open Classical in
/-- A name at a text's begin, and the rest. -/
noncomputable def firstP (s : ByteArray) : Option (ByteArray × ByteArray) :=
  if skipN s < s.size ∧ isNm (s.extract 0 (skipN s + 1)) then some (s.extract 0 (skipN s + 1), s.extract (skipN s + 1) s.size) else none
theorem cutc_eq {s : ByteArray} (hs : s.size ≤ 1099511627776) {o : Grecord_parts} (ho : o.fnames.length ≤ 1099511627) :
    m_record_shape_cut_c1 s o = some (match firstP s with | some (n, r) => (true, r, ⟨o.fahead, o.fbehind, o.fnames ++ [n]⟩) | none => (false, s, o)) := by
  have hle := skipAt_le s true s.size 0 (by omega)
  rw [m_record_shape_cut_c1, cut_skip hs, Option.bind_some, m_record_shape_cut_c1_j1, firstP]
  by_cases h1 : skipN s < s.size
  · obtain ⟨e, he, hi⟩ := isNm_checkC (n := s.extract 0 (skipN s + 1)) (by rw [ByteArray.size_extract]; omega)
    rw [if_neg (by omega), w64_id (by omega) (by omega), scutHi, if_pos ⟨by omega, by omega⟩, Option.bind_some, show ((skipN s : Int) + 1).toNat = skipN s + 1 by omega, he, Option.bind_some]
    by_cases h2 : isNm (s.extract 0 (skipN s + 1))
    · rw [if_neg (fun h => h (hi.2 h2)), if_pos ⟨h1, h2⟩, Option.bind_some, app_of (by simp; omega), Option.bind_some, scutLo, if_pos ⟨by omega, by omega⟩, Option.bind_some, show ((skipN s : Int) + 1).toNat = skipN s + 1 by omega]
    · rw [if_pos (fun h => h2 (hi.1 h)), if_neg (fun h => h2 h.2)]
  · rw [if_pos (by omega), if_neg (fun h => h1 h.1)]
theorem firstP_some {s n r : ByteArray} (h : firstP s = some (n, r)) : isNm n ∧ s = n ++ r ∧ r.size ≤ s.size := by
  unfold firstP at h
  split at h
  · rename_i hc
    injection h with h
    injection h with h1 h2
    subst h1 h2
    refine ⟨hc.2, bytesI_inj ?_, by rw [ByteArray.size_extract]; omega⟩
    rw [bytesI_append, bytesI_extract, bytesI_extract, List.drop_zero, size_bytes s, List.take_length, List.take_append_drop]
  · cases h
/-- So many names ahead, and the rest. -/
noncomputable def namesP : Nat → ByteArray → Option (List ByteArray × ByteArray)
  | 0, s => some ([], s)
  | k + 1, s => match firstP s with
    | some (n, r) => match namesP k r with
      | some (l, q) => some (n :: l, q)
      | none => none
    | none => none
/-- Data cut up: ahead, names, behind, and whether they are right. -/
noncomputable def partsP (t : Int) (d : ByteArray) : ByteArray × List ByteArray × ByteArray × Bool :=
  if (d.size : Int) < (shp t).1 then (⟨#[]⟩, [], ⟨#[]⟩, false)
  else match namesP (shp t).2.1.toNat (d.extract (shp t).1.toNat d.size) with
    | some (l, r) => (d.extract 0 (shp t).1.toNat, l, r, decide ((r.size : Int) = (shp t).2.2.1))
    | none => (⟨#[]⟩, [], ⟨#[]⟩, false)
theorem cutloop {sh : Grecord_shape} (hn : 0 ≤ sh.fnames ∧ sh.fnames ≤ 1000) : ∀ (k i : Nat) (l : List ByteArray) (s a : ByteArray), (i : Int) + k = sh.fnames → s.size ≤ 1099511627776 → l.length ≤ i →
    loop (fun s => m_record_shape_cut_s2 sh a s.1 s.2.1 s.2.2) (l, (i : Int), s) =
      some (match namesP k s with | some (q, r) => .inl (l ++ q, r) | none => .inr (⟨⟨#[]⟩, ⟨#[]⟩, []⟩, false)) := by
  intro k
  induction k with
  | zero =>
    intro i l s a hi hs hl
    rw [loop_inr (by simp only [m_record_shape_cut_s2]; rw [if_neg (by omega)])]
    simp [namesP]
  | succ k ih =>
    intro i l s a hi hs hl
    have hst := m_record_shape_cut_s2.eq_def sh a l (i : Int) s
    rw [if_pos (by omega), cutc_eq hs (by simp only; omega), Option.bind_some] at hst
    rw [namesP]
    cases hf : firstP s with
    | none =>
      rw [hf] at hst
      simp only at hst
      rw [if_neg (by simp)] at hst
      rw [loop_inr hst]
    | some x =>
      obtain ⟨n, r⟩ := x
      rw [hf] at hst
      simp only at hst
      rw [if_pos trivial, w64_id (by omega) (by omega)] at hst
      rw [loop_inl hst, show (i : Int) + 1 = ((i + 1 : Nat) : Int) by omega, ih (i + 1) (l ++ [n]) r a (by omega) (by have := (firstP_some hf).2.2; omega) (by simp; omega)]
      rcases hq : namesP k r with _ | ⟨q, w⟩ <;> simp [hq]
theorem cut_eq {t : Int} {d : ByteArray} (hd : d.size ≤ 1099511627776) : m_record_shape_cut ⟨(shp t).1, (shp t).2.1, (shp t).2.2.1⟩ d = some (⟨(partsP t d).1, (partsP t d).2.2.1, (partsP t d).2.1⟩, (partsP t d).2.2.2) := by
  have h0 : 0 ≤ (shp t).1 ∧ 0 ≤ (shp t).2.1 ∧ (shp t).2.1 ≤ 2 := by rcases shp_cases t with h | h | h | h <;> rw [h] <;> simp
  rw [m_record_shape_cut, partsP]
  simp only
  by_cases h1 : (d.size : Int) < (shp t).1
  · rw [if_pos h1, if_pos h1]
  · rw [if_neg h1, if_neg h1, scutHi, if_pos ⟨h0.1, by omega⟩, Option.bind_some, scutLo, if_pos ⟨h0.1, by omega⟩, Option.bind_some]
    erw [cutloop (sh := ⟨(shp t).1, (shp t).2.1, (shp t).2.2.1⟩) (by simp only; omega) (shp t).2.1.toNat 0 [] _ _ (by simp only; omega) (by rw [ByteArray.size_extract]; omega) (by simp)]
    cases namesP (shp t).2.1.toNat (d.extract (shp t).1.toNat d.size) with
    | none => rfl
    | some x => simp [m_record_shape_cut_j1]
/-- Are data right for a type? -/
noncomputable def rightP (t : Int) (d : ByteArray) : Bool :=
  if (shp t).2.2.2 = true then (partsP t d).2.2.2
  else if t = 1 then decide ((d.size : Int) = 4) else if t = 28 then decide ((d.size : Int) = 16) else if t = 16 then decide (skipT d = d.size ∧ 0 < d.size) else true
theorem right_eq {t : Int} {d : ByteArray} (hd : d.size ≤ 1099511627776) : m_record_right t d = some (rightP t d) := by
  rw [m_record_right, rightP]
  by_cases h1 : t = 1
  · subst h1; rw [if_pos rfl, if_neg (by decide), if_pos rfl]
  rw [if_neg h1]
  by_cases h2 : t = 28
  · subst h2; rw [if_pos rfl, if_neg (by decide), if_neg h1, if_pos rfl]
  rw [if_neg h2]
  by_cases h3 : t = 16
  · subst h3
    rw [if_pos rfl, if_neg (by decide), if_neg h1, if_neg h2, if_pos rfl, right_skip hd, Option.bind_some, m_record_right_j1]
    by_cases h4 : skipT d = d.size
    · rw [if_pos (by omega)]
      by_cases h5 : d = ⟨#[]⟩
      · have := size_nil.1 h5
        rw [decide_eq_true h5, decide_eq_false (by omega)]; rfl
      · have : d.size ≠ 0 := fun h => h5 (size_nil.2 h)
        rw [decide_eq_false h5, decide_eq_true ⟨h4, by omega⟩]; rfl
    · rw [if_neg (by omega), decide_eq_false (fun h => h4 h.1)]
  rw [if_neg h3, shapeOf_eq, Option.bind_some, cut_eq hd, Option.bind_some, if_neg h1, if_neg h2, if_neg h3]
  by_cases hn : (shp t).2.2.2 = true
  · rw [if_pos hn]
    by_cases h4 : (partsP t d).2.2.2 = true
    · rw [if_pos h4, h4]
    · rw [if_neg h4, Option.bind_some]
      have h5 : (partsP t d).2.2.2 = false := by simpa using h4
      rw [h5, decide_eq_false]
      rcases shp_cases t with h | h | h | h <;> rw [h] at hn ⊢ <;> simp at hn ⊢
  · rw [if_neg hn]
    split
    · rfl
    · rw [Option.bind_some, decide_eq_true]
      rcases shp_cases t with h | h | h | h <;> rw [h] at hn ⊢ <;> simp at hn ⊢
open Go.RowKit
open Go.RowKit
open Classical in
/-- A name's labels. -/
noncomputable def labP (n : ByteArray) : List ByteArray := if h : ∃ ls, Nm n ls then h.choose else []
theorem labP_nm {n : ByteArray} {ls : List ByteArray} (h : Nm n ls) : labP n = ls := by
  have hx : ∃ ls, Nm n ls := ⟨ls, h⟩
  rw [labP, dif_pos hx]
  exact nm_inj hx.choose_spec h
theorem namesP_some : ∀ (k : Nat) (s : ByteArray) (l : List ByteArray) (r : ByteArray), namesP k s = some (l, r) → l.length = k ∧ (∀ n ∈ l, isNm n) ∧ bytesI s = l.flatMap bytesI ++ bytesI r ∧ r.size ≤ s.size := by
  intro k
  induction k with
  | zero => intro s l r h; injection h with h; injection h with h1 h2; subst h1 h2; refine ⟨rfl, fun n hn => ?_, by simp, Nat.le_refl _⟩; simp at hn
  | succ k ih =>
    intro s l r h
    rw [namesP] at h
    split at h
    · rename_i n q hf
      obtain ⟨f1, f2, f3⟩ := firstP_some hf
      split at h
      · rename_i l' q' hq
        injection h with h
        injection h with h1 h2
        subst h1 h2
        obtain ⟨g1, g2, g3, g4⟩ := ih _ _ _ hq
        refine ⟨by simp [g1], fun m hm => ?_, ?_, by omega⟩
        · rcases List.mem_cons.1 hm with rfl | hm
          · exact f1
          · exact g2 m hm
        · rw [f2, bytesI_append, g3]; simp
      · cases h
    · cases h
/-- What right data with names are made of. -/
theorem parts_ok {t : Int} {d : ByteArray} (hn : (shp t).2.2.2 = true) (h : (partsP t d).2.2.2 = true) :
    (partsP t d).2.1.length = (shp t).2.1.toNat ∧ (∀ n ∈ (partsP t d).2.1, isNm n) ∧ bytesI d = bytesI (partsP t d).1 ++ ((partsP t d).2.1.flatMap bytesI ++ bytesI (partsP t d).2.2.1) ∧ ((partsP t d).1.size : Int) = (shp t).1 ∧ ((partsP t d).2.2.1.size : Int) = (shp t).2.2.1 := by
  have h0 : 0 ≤ (shp t).1 := by rcases shp_cases t with h | h | h | h <;> rw [h] <;> simp
  unfold partsP at h ⊢
  by_cases h1 : (d.size : Int) < (shp t).1
  · rw [if_pos h1] at h; cases h
  · rw [if_neg h1] at h ⊢
    rcases hq : namesP (shp t).2.1.toNat (d.extract (shp t).1.toNat d.size) with _ | ⟨l, r⟩
    · rw [hq] at h; cases h
    · rw [hq] at h
      obtain ⟨g1, g2, g3, g4⟩ := namesP_some _ _ _ _ hq
      simp only at h ⊢
      refine ⟨g1, g2, ?_, by rw [ByteArray.size_extract]; omega, of_decide_eq_true h⟩
      rw [← g3, bytesI_extract, bytesI_extract, List.drop_zero, size_bytes d, List.take_length, List.take_append_drop]
open Go.RowKit
open Go.RowKit
theorem names_ok {r : GRR} (hd : r.fData.size ≤ 1099511627776) (h : rightP r.fType r.fData = true) (hn : (shp r.fType).2.2.2 = true) : (partsP r.fType r.fData).2.2.2 = true := by rwa [rightP, if_pos hn] at h
theorem shp_iff (t : Int) : ((shp t).2.1 = 0 ↔ (shp t).2.2.2 ≠ true) ∧ ((shp t).2.2.2 = true → 1 ≤ (shp t).2.1.toNat) := by rcases shp_cases t with h | h | h | h <;> rw [h] <;> simp
theorem at_some_of {α : Type} {l : List α} {k : Nat} (h : k < l.length) : ∃ x, at_ l (k : Int) = some x := ⟨_, at_nat h⟩
open Go.RowKit
open Classical in
noncomputable def sameP (a b : ByteArray) : Bool := decide (isNm a ∧ isNm b ∧ revL (labP a) = revL (labP b))
open Classical in
theorem sameP_iff {a b : ByteArray} : sameP a b = true ↔ isNm a ∧ isNm b ∧ revL (labP a) = revL (labP b) := by unfold sameP; exact decide_eq_true_iff
theorem same_both {a b : ByteArray} (ha : a.size ≤ 1099511627776) (hb : b.size ≤ 1099511627776) : m_name_Same a b = some (sameP a b) ∧ m_ref03_Same a b = some (sameP a b) := by
  by_cases h : isNm a ∧ isNm b
  · obtain ⟨⟨x, x1, x2⟩, ⟨y, y1, y2⟩⟩ := id h
    have : sameP a b = decide (revL x = revL y) := by
      rw [Bool.eq_iff_iff, sameP_iff, decide_eq_true_iff, labP_nm x1, labP_nm y1]
      exact ⟨fun h => h.2.2, fun h' => ⟨h.1, h.2, h'⟩⟩
    rw [same_nm x1 x2 y1 y2, rsame_nm x1 x2 y1 y2, this]
    exact ⟨rfl, rfl⟩
  · have : sameP a b = false := by rw [Bool.eq_false_iff]; exact fun hc => h ⟨(sameP_iff.1 hc).1, (sameP_iff.1 hc).2.1⟩
    rw [same_no h ha hb, rsame_no h ha hb, this]
    exact ⟨rfl, rfl⟩
theorem sameP_self {a : ByteArray} (h : isNm a) : sameP a a = true := sameP_iff.2 ⟨h, h, rfl⟩
open Classical in
noncomputable def goodB (r : GRR) : Bool := decide (isNm r.fName ∧ r.fData.size ≤ 2000 ∧ rightP r.fType r.fData = true)
open Classical in
theorem goodB_iff {r : GRR} : goodB r = true ↔ isNm r.fName ∧ r.fData.size ≤ 2000 ∧ rightP r.fType r.fData = true := by unfold goodB; exact decide_eq_true_iff
open Go.RowKit
/-- The labels of a name. -/
noncomputable def labU (n : ByteArray) : List ByteArray := (Classical.epsilon fun ls => Nm n ls)
theorem labU_eq {n : ByteArray} {ls : List ByteArray} (h : Nm n ls) : labU n = ls := nm_inj (Classical.epsilon_spec (p := fun ls => Nm n ls) ⟨ls, h⟩) h
/-- a is under b. -/
noncomputable def undP (a b : ByteArray) : Bool := @decide (isNm a ∧ isNm b ∧ revL (labU b) <+: revL (labU a)) (Classical.propDecidable _)
theorem cpl_pfx : ∀ X Y : List ByteArray, cpl X Y = Y.length ↔ Y <+: X
  | [], [] => by simp [cpl]
  | [], _ :: _ => by simp [cpl]
  | _ :: _, [] => by simp [cpl]
  | x :: X, y :: Y => by
    rw [cpl, List.cons_prefix_cons, ← cpl_pfx X Y]
    by_cases h : x = y
    · subst h; simp
    · rw [if_neg h]; simp [Ne.symm h]
theorem undP_t {a b : ByteArray} : undP a b = true ↔ isNm a ∧ isNm b ∧ revL (labU b) <+: revL (labU a) := by unfold undP; exact @decide_eq_true_iff _ (Classical.propDecidable _)
theorem undP_nm {a b : ByteArray} {x y : List ByteArray} (h : Nm a x) (hs : a.size ≤ 255) (h' : Nm b y) (hs' : b.size ≤ 255) : undP a b = decide (cpl (revL x) (revL y) = y.length) := by
  have hc := cpl_pfx (revL x) (revL y)
  rw [revL_len] at hc
  have e : undP a b = true ↔ cpl (revL x) (revL y) = y.length := by
    rw [undP_t, labU_eq h, labU_eq h', ← hc]
    exact ⟨fun g => g.2.2, fun g => ⟨⟨x, h, hs⟩, ⟨y, h', hs'⟩, g⟩⟩
  cases hu : undP a b with
  | true => exact (decide_eq_true (e.1 hu)).symm
  | false => exact (decide_eq_false fun g => by rw [e.2 g] at hu; cases hu).symm
theorem undP_no {a b : ByteArray} (h : ¬ (isNm a ∧ isNm b)) : undP a b = false := by
  cases hu : undP a b with
  | false => rfl
  | true => exact absurd ⟨(undP_t.1 hu).1, (undP_t.1 hu).2.1⟩ h
theorem und_code {a b : ByteArray} (ha : a.size ≤ 1099511627776) (hb : b.size ≤ 1099511627776) : m_name_Under a b = some (undP a b) := by
  by_cases h : isNm a ∧ isNm b
  · obtain ⟨⟨x, x1, x2⟩, ⟨y, y1, y2⟩⟩ := h
    rw [under_nm x1 x2 y1 y2, undP_nm x1 x2 y1 y2]
  · rw [under_no h ha hb, undP_no h]
open Go.RowKit
/-! ### What the code says of names and records -/
theorem same_cd {a b : ByteArray} (ha : a.size ≤ 1099511627776) (hb : b.size ≤ 1099511627776) : m_name_Same a b = some (sameP a b) := by
  by_cases h : isNm a ∧ isNm b
  · obtain ⟨⟨x, x1, x2⟩, ⟨y, y1, y2⟩⟩ := id h
    have : sameP a b = decide (revL x = revL y) := by
      rw [Bool.eq_iff_iff, sameP_iff, decide_eq_true_iff, labP_nm x1, labP_nm y1]
      exact ⟨fun h => h.2.2, fun h' => ⟨h.1, h.2, h'⟩⟩
    rw [same_nm x1 x2 y1 y2, this]
  · have : sameP a b = false := by rw [Bool.eq_false_iff]; exact fun hc => h ⟨(sameP_iff.1 hc).1, (sameP_iff.1 hc).2.1⟩
    rw [same_no h ha hb, this]
theorem good_cd {r : GRR} (hn : r.fName.size ≤ 1099511627776) (hd : r.fData.size ≤ 1099511627776) : ∃ e, m_record_Check r = some e ∧ (goodB r = true ↔ e = 0) := by
  have h0 : ∃ e, m_name_Check r.fName = some e ∧ (e = 0 ↔ isNm r.fName) := by
    by_cases h : isNm r.fName
    · obtain ⟨ls, l1, l2⟩ := id h
      exact ⟨0, check_nm l1 l2, fun _ => h, fun _ => rfl⟩
    · obtain ⟨e, e1, e2⟩ := check_not h hn
      exact ⟨e, e1, fun g => absurd g e2, fun g => absurd g h⟩
  obtain ⟨e, h1, h3⟩ := h0
  rw [m_record_Check, h1, Option.bind_some, right_eq hd, goodB_iff]
  by_cases he : e ≠ 0
  · rw [if_pos he]
    exact ⟨e, rfl, fun h => absurd (h3.2 h.1) he, fun h => absurd h he⟩
  · have hnm := h3.1 (Classical.not_not.1 he)
    rw [if_neg he]
    by_cases hb : 2000 < (r.fData.size : Int)
    · rw [if_pos hb]
      exact ⟨11, rfl, fun h => by omega, fun h => by omega⟩
    · rw [if_neg hb, Option.bind_some]
      by_cases hr : rightP r.fType r.fData = true
      · rw [if_pos hr]
        exact ⟨0, rfl, fun _ => rfl, fun _ => ⟨hnm, by omega, hr⟩⟩
      · rw [if_neg hr]
        exact ⟨10, rfl, fun h => absurd h.2.2 hr, fun h => by omega⟩
/-! ### Lists sifted -/
theorem fil_loop {α : Type} (l : List α) (c : α → Option Bool) (f : α → Bool) (hc : ∀ a ∈ l, c a = some (f a)) (hl : l.length ≤ 100000) {step : (List α × Int) → Option ((List α × Int) ⊕ List α)}
    (hstep : ∀ s : List α × Int, step s = if s.2 < (l.length : Int) then (at_ l s.2).bind fun x => (c x).bind fun b => if b = true then (app 40 s.1 [x]).bind fun r => some (.inl (r, w64 (s.2 + 1))) else some (.inl (s.1, w64 (s.2 + 1))) else some (.inr s.1)) :
    loop step ([], 0) = some (l.filter f) := by
  refine loop_run l.length (fun k => ((l.take k).filter f, (k : Int))) _ (by simp) (fun k hk => ?_) ?_
  · have hf : (l.take (k + 1)).filter f = if f l[k] = true then (l.take k).filter f ++ [l[k]] else (l.take k).filter f := by
      rw [List.take_succ_eq_append_getElem hk, List.filter_append]
      by_cases h : f l[k] = true
      · rw [if_pos h, List.filter_cons_of_pos h]; rfl
      · rw [if_neg h, List.filter_cons_of_neg h]; simp
    have hlen : ((l.take k).filter f).length ≤ 100000 := Nat.le_trans (List.length_filter_le _ _) (by rw [List.length_take]; omega)
    rw [hstep]
    simp only
    have hw : w64 ((k : Int) + 1) = ((k + 1 : Nat) : Int) := by rw [w64_id (by omega) (by omega)]; omega
    rw [if_pos (by omega), at_nat hk, Option.bind_some, hc _ (List.getElem_mem hk), Option.bind_some]
    by_cases h : f l[k] = true
    · rw [if_pos h, app_of (by simp only [List.length_singleton]; omega), Option.bind_some, hw, hf, if_pos h]
    · rw [if_neg h, hw, hf, if_neg h]
  · rw [hstep]; simp only; rw [if_neg (by omega), List.take_length]
/-! ### Zones -/
structure OkZ (z : GZone) : Prop where
  apex : z.fApex.size ≤ 300
  len : z.fRecords.length ≤ 100
  recs : ∀ r ∈ z.fRecords, r.fName.size ≤ 300 ∧ r.fData.size ≤ 300
noncomputable def ofP (z : GZone) (n : ByteArray) (t : Int) : List GRR := z.fRecords.filter (fun r => decide (r.fType = t) && sameP r.fName n)
theorem of_eq {z : GZone} (hz : OkZ z) {n : ByteArray} (hn : n.size ≤ 1099511627776) (t : Int) : m_auth_zone_of (⟨z⟩ : Gauth_zone) n t = some (ofP z n t) := by
  have hL : loop (fun s => m_auth_some_32_2_s2 z.fRecords t n s.1 s.2) ([], 0) = some (ofP z n t) := fil_loop z.fRecords (fun r => m_auth_zone_of_c1 r t n) (fun r => decide (r.fType = t) && sameP r.fName n) (fun r hr => by
    unfold m_auth_zone_of_c1
    have := (hz.recs r hr).1
    by_cases h : r.fType = t
    · rw [if_pos h, same_cd (by omega) hn, decide_eq_true h]; rfl
    · rw [if_neg h, decide_eq_false h]; rfl) (by have := hz.len; omega) (fun s => rfl)
  unfold m_auth_zone_of m_auth_some_32_2
  simp only
  rw [hL]; rfl
theorem of_mem {z : GZone} {n : ByteArray} {t : Int} {r : GRR} : r ∈ ofP z n t ↔ r ∈ z.fRecords ∧ r.fType = t ∧ sameP r.fName n = true := by
  unfold ofP
  rw [List.mem_filter, Bool.and_eq_true, decide_eq_true_iff]
theorem of_len {z : GZone} (hz : OkZ z) (n : ByteArray) (t : Int) : (ofP z n t).length ≤ 100 := Nat.le_trans (List.length_filter_le _ _) hz.len
noncomputable def addrP (z : GZone) (n : ByteArray) : List GRR := z.fRecords.filter (fun r => (decide (r.fType = 1) || decide (r.fType = 28)) && sameP r.fName n)
theorem addr_eq {z : GZone} (hz : OkZ z) {n : ByteArray} (hn : n.size ≤ 1099511627776) : m_auth_zone_addresses (⟨z⟩ : Gauth_zone) n = some (addrP z n) := by
  have hL : loop (fun s => m_auth_some_32_3_s2 z.fRecords n s.1 s.2) ([], 0) = some (addrP z n) := fil_loop z.fRecords (fun r => m_auth_zone_addresses_c1 r n) (fun r => (decide (r.fType = 1) || decide (r.fType = 28)) && sameP r.fName n) (fun r hr => by
    unfold m_auth_zone_addresses_c1
    have := (hz.recs r hr).1
    by_cases h : r.fType = 1
    · rw [if_pos h, same_cd (by omega) hn, decide_eq_true h]; rfl
    · rw [if_neg h, decide_eq_false h]
      by_cases h2 : r.fType = 28
      · rw [if_pos h2, same_cd (by omega) hn, decide_eq_true h2]; rfl
      · rw [if_neg h2, decide_eq_false h2]; rfl) (by have := hz.len; omega) (fun s => rfl)
  unfold m_auth_zone_addresses m_auth_some_32_3
  simp only
  rw [hL]; rfl
/-- A zone that may be. -/
def ZoneOk (z : GZone) : Prop := isNm z.fApex ∧ (∀ r ∈ z.fRecords, goodB r = true ∧ r.fClass = 1 ∧ undP r.fName z.fApex = true) ∧ (ofP z z.fApex 6).length = 1 ∧ (ofP z z.fApex 2).length ≠ 0
theorem zcheck_eq {z : GZone} (hz : OkZ z) : ∃ e, m_auth_Check z = some e ∧ (e = 0 ↔ ZoneOk z) := by
  have ha := hz.apex
  have hl := hz.len
  unfold m_auth_Check
  by_cases h : isNm z.fApex
  case neg =>
    obtain ⟨e, h1, h2⟩ := check_not h (by omega)
    rw [h1, Option.bind_some, if_pos h2]
    exact ⟨1, rfl, fun g => absurd g (by decide), fun g => absurd g.1 h⟩
  obtain ⟨ls, l1, l2⟩ := id h
  rw [check_nm l1 l2, Option.bind_some, if_neg (fun g => g rfl), if_neg (by omega)]
  have hL : loop (fun s => m_auth_some_32_s2 z.fRecords z s.1 s.2) ([], 0) = some (z.fRecords.filter (fun r => !(goodB r && decide (r.fClass = 1) && undP r.fName z.fApex))) := fil_loop z.fRecords (fun r => m_auth_Check_c1 r z) _ (fun r hr => by
    obtain ⟨b1, b2⟩ := hz.recs r hr
    obtain ⟨e, g1, g2⟩ := good_cd (r := r) (by omega) (by omega)
    unfold m_auth_Check_c1
    rw [g1, Option.bind_some]
    by_cases he : e = 0
    · rw [if_neg (fun k => k he), g2.2 he]
      by_cases hc : r.fClass = 1
      · rw [if_neg (fun k => k hc), und_code (by omega) (by omega), decide_eq_true hc]; rfl
      · rw [if_pos hc, decide_eq_false hc]; rfl
    · have : goodB r = false := by
        cases hg : goodB r with
        | false => rfl
        | true => exact absurd (g2.1 hg) he
      rw [if_pos he, this]; rfl) (by omega) (fun s => rfl)
  unfold m_auth_some_32
  rw [hL]
  simp only [Option.bind_some, m_auth_some_32_j1]
  by_cases hw : 0 < ((z.fRecords.filter (fun r => !(goodB r && decide (r.fClass = 1) && undP r.fName z.fApex))).length : Int)
  · rw [if_pos hw]
    refine ⟨1, rfl, fun g => absurd g (by decide), fun g => ?_⟩
    have : z.fRecords.filter (fun r => !(goodB r && decide (r.fClass = 1) && undP r.fName z.fApex)) = [] := List.filter_eq_nil_iff.2 fun r hr => by
      obtain ⟨k1, k2, k3⟩ := g.2.1 r hr
      rw [k1, k3, decide_eq_true k2]; decide
    rw [this] at hw
    exact absurd hw (by decide)
  have hall : ∀ r ∈ z.fRecords, goodB r = true ∧ r.fClass = 1 ∧ undP r.fName z.fApex = true := fun r hr => by
    have h0 : z.fRecords.filter (fun r => !(goodB r && decide (r.fClass = 1) && undP r.fName z.fApex)) = [] := List.length_eq_zero_iff.1 (by omega)
    have := List.filter_eq_nil_iff.1 h0 r hr
    simp only [Bool.not_eq_true', Bool.not_eq_false, Bool.and_eq_true, decide_eq_true_iff] at this
    exact ⟨this.1.1, this.1.2, this.2⟩
  rw [if_neg hw, of_eq hz (by omega), Option.bind_some]
  by_cases c1 : ((ofP z z.fApex 6).length : Int) ≠ 1
  · rw [if_pos c1]
    exact ⟨1, rfl, fun g => absurd g (by decide), fun g => absurd (by rw [g.2.2.1]; rfl) c1⟩
  rw [if_neg c1, of_eq hz (by omega), Option.bind_some]
  by_cases c2 : ((ofP z z.fApex 2).length : Int) = 0
  · rw [if_pos c2]
    exact ⟨1, rfl, fun g => absurd g (by decide), fun g => absurd (by omega) g.2.2.2⟩
  · rw [if_neg c2]
    exact ⟨0, rfl, fun _ => ⟨h, hall, by omega, by omega⟩, fun _ => rfl⟩
/-! ### Depths and cuts -/
theorem dep_of {n : ByteArray} (hn : n.size ≤ 1099511627776) : ∃ d, m_name_Depth n = some d ∧ -1 ≤ d ∧ d ≤ 254 ∧ (0 ≤ d ↔ isNm n) := by
  by_cases h : isNm n
  · obtain ⟨ls, l1, l2⟩ := id h
    have := nm_few l1 l2
    exact ⟨_, depth_nm l1 l2, by omega, by omega, fun _ => h, fun _ => by omega⟩
  · exact ⟨-1, depth_not h hn, by omega, by omega, fun g => absurd g (by decide), fun g => absurd g h⟩
theorem cut_of {n : ByteArray} (hn : n.size ≤ 1099511627776) {d : Int} (hd : -9223372036854775808 ≤ d ∧ d ≤ 9223372036854775807) : ∃ c, m_name_Cut n d = some c ∧ c.size ≤ n.size := by
  by_cases h : isNm n
  · obtain ⟨ls, l1, l2⟩ := h
    refine ⟨_, cut_nm l1 l2 hd, ?_⟩
    unfold lastL
    split
    · rw [← nm_mk l1]; exact Nat.le_refl _
    · rw [← cut_drop l1, ByteArray.size_extract]; omega
  · exact ⟨_, cut_no h hn d, Nat.zero_le _⟩
/-! ### The zone of a name -/
theorem find_of {l : List GZone} {n : ByteArray} (hl : l.length ≤ 100) (hz : ∀ z ∈ l, OkZ z) (hn : n.size ≤ 1099511627776) :
    ∃ k is, m_auth_Find l n = some (k, is) ∧ ((is = false ∧ ∀ z ∈ l, ¬ (ZoneOk z ∧ undP n z.fApex = true)) ∨ (is = true ∧ ∃ (j : Nat) (h : j < l.length), k = j ∧ ZoneOk l[j] ∧ undP n l[j].fApex = true)) := by
  have hL := loop_rule (step := fun s : Int × Int × Int => m_auth_Find_s2 l n s.1 s.2.1 s.2.2)
    (fun s => ∃ i : Nat, s.2.2 = i ∧ i ≤ l.length ∧ ((s.2.1 = -1 ∧ ∀ (j : Nat) (h : j < l.length), j < i → ¬ (ZoneOk l[j] ∧ undP n l[j].fApex = true)) ∨ (0 ≤ s.2.1 ∧ ∃ (j : Nat) (h : j < l.length), s.1 = j ∧ ZoneOk l[j] ∧ undP n l[j].fApex = true)))
    (fun s => (l.length - s.2.2).toNat)
    (fun r : Int × Int => (r.2 = -1 ∧ ∀ (j : Nat) (h : j < l.length), ¬ (ZoneOk l[j] ∧ undP n l[j].fApex = true)) ∨ (0 ≤ r.2 ∧ ∃ (j : Nat) (h : j < l.length), r.1 = j ∧ ZoneOk l[j] ∧ undP n l[j].fApex = true))
    (fun s hs => by
      obtain ⟨a, b, c⟩ := s
      obtain ⟨i, h1, h2, h3⟩ := hs
      simp only at h1 h3 ⊢
      subst h1
      unfold m_auth_Find_s2
      by_cases hi : i < l.length
      case neg =>
        rw [if_neg (by omega)]
        refine .inr ⟨_, rfl, ?_⟩
        rcases h3 with ⟨e, g⟩ | g
        · exact .inl ⟨e, fun j h => g j h (by omega)⟩
        · exact .inr g
      have hw : w64 ((i : Int) + 1) = ((i + 1 : Nat) : Int) := by rw [w64_id (by omega) (by omega)]; omega
      have hzi := hz _ (List.getElem_mem hi)
      obtain ⟨d, d1, d2, d3, d4⟩ := dep_of (n := l[i].fApex) (by have := hzi.apex; omega)
      rw [if_pos (by omega), at_nat hi, Option.bind_some, d1, Option.bind_some, hw]
      have keep : ¬ (b < d ∧ undP n l[i].fApex = true ∧ ZoneOk l[i]) → ∃ i' : Nat, ((i + 1 : Nat) : Int) = i' ∧ i' ≤ l.length ∧ ((b = -1 ∧ ∀ (j : Nat) (h : j < l.length), j < i' → ¬ (ZoneOk l[j] ∧ undP n l[j].fApex = true)) ∨ (0 ≤ b ∧ ∃ (j : Nat) (h : j < l.length), a = j ∧ ZoneOk l[j] ∧ undP n l[j].fApex = true)) := fun hk => by
        refine ⟨i + 1, rfl, hi, ?_⟩
        rcases h3 with ⟨e, g⟩ | g
        · refine .inl ⟨e, fun j h hj => ?_⟩
          rcases Nat.lt_or_ge j i with hlt | hge
          · exact g j h hlt
          · have hji : j = i := by omega
            subst hji
            intro ⟨k1, k2⟩
            exact hk ⟨by have := d4.2 k1.1; omega, k2, k1⟩
        · exact .inr g
      by_cases c1 : b < d
      case neg => rw [if_neg c1]; exact .inl ⟨_, rfl, keep (fun g => c1 g.1), by simp only; omega⟩
      rw [if_pos c1, und_code hn (by have := hzi.apex; omega), Option.bind_some]
      by_cases c2 : undP n l[i].fApex = true
      case neg => rw [if_neg c2]; exact .inl ⟨_, rfl, keep (fun g => c2 g.2.1), by simp only; omega⟩
      obtain ⟨e, e1, e2⟩ := zcheck_eq hzi
      rw [if_pos c2, e1, Option.bind_some]
      by_cases c3 : e = 0
      · rw [if_pos c3]
        have := e2.1 c3
        exact .inl ⟨_, rfl, ⟨i + 1, rfl, hi, .inr ⟨d4.2 this.1, i, hi, rfl, this, c2⟩⟩, by simp only; omega⟩
      · rw [if_neg c3]; exact .inl ⟨_, rfl, keep (fun g => c3 (e2.2 g.2.2)), by simp only; omega⟩)
    (s0 := (0, (-1), 0)) ⟨0, rfl, by omega, .inl ⟨rfl, fun j _ h => absurd h (by omega)⟩⟩
  obtain ⟨r, hr, hC⟩ := hL
  unfold m_auth_Find
  refine ⟨r.1, decide (0 ≤ r.2), by rw [hr]; rfl, ?_⟩
  rcases hC with ⟨e, g⟩ | ⟨e, g⟩
  · refine .inl ⟨by rw [e]; rfl, fun z hz' => ?_⟩
    obtain ⟨j, hj, rfl⟩ := List.getElem_of_mem hz'
    exact g j hj
  · exact .inr ⟨decide_eq_true e, g⟩
theorem below_of {z : GZone} {n : ByteArray} (hz : OkZ z) (hn : n.size ≤ 1099511627776) : ∃ a b, m_auth_Below z n = some (a, b) ∧ (b = true → a.size ≤ n.size ∧ 0 < (ofP z a 2).length) := by
  obtain ⟨d, d1, d2, d3, d4⟩ := dep_of (n := z.fApex) (by have := hz.apex; omega)
  obtain ⟨e, e1, e2, e3, e4⟩ := dep_of hn
  unfold m_auth_Below
  rw [d1, Option.bind_some, e1, Option.bind_some, w64_id (x := d + 1) (by omega) (by omega), w64_id (x := e - (d + 1)) (by omega) (by omega), w64_id (x := e - (d + 1) + 1) (by omega) (by omega)]
  have hL := loop_rule (step := fun s : Int × Int × Int => m_auth_Below_s2 n z s.1 s.2.1 s.2.2)
    (fun s => s.1 = d + 1 ∧ s.2.1 = max (e - (d + 1) + 1) 0 ∧ 0 ≤ s.2.2 ∧ s.2.2 ≤ s.2.1)
    (fun s => (s.2.1 - s.2.2).toNat)
    (fun r : Unit ⊕ (ByteArray × Bool) => ∀ x, r = .inr x → x.2 = true ∧ x.1.size ≤ n.size ∧ 0 < (ofP z x.1 2).length)
    (fun s hs => by
      obtain ⟨a, b, c⟩ := s
      obtain ⟨h1, h2, h3, h4⟩ := hs
      simp only at h1 h2 h3 h4 ⊢
      unfold m_auth_Below_s2
      by_cases hc : c < b
      case neg => rw [if_neg hc]; exact .inr ⟨_, rfl, fun x hx => by cases hx⟩
      have hb : b ≤ 300 := by omega
      rw [if_pos hc, w64_id (x := a + c) (by omega) (by omega)]
      obtain ⟨k, k1, k2⟩ := cut_of hn (d := a + c) ⟨by omega, by omega⟩
      rw [k1, Option.bind_some, of_eq hz (by omega), Option.bind_some]
      by_cases c1 : 0 < ((ofP z k 2).length : Int)
      · rw [if_pos c1]
        exact .inr ⟨_, rfl, fun x hx => by cases hx; exact ⟨rfl, k2, by show 0 < (ofP z k 2).length; omega⟩⟩
      · rw [if_neg c1, w64_id (x := c + 1) (by omega) (by omega)]
        exact .inl ⟨_, rfl, ⟨h1, h2, by show 0 ≤ c + 1; omega, by show c + 1 ≤ b; omega⟩, by simp only; omega⟩)
    (s0 := (d + 1, max (e - (d + 1) + 1) 0, 0)) ⟨rfl, rfl, Int.le_refl 0, by show (0 : Int) ≤ max (e - (d + 1) + 1) 0; omega⟩
  obtain ⟨r, hr, hC⟩ := hL
  rw [hr, Option.bind_some]
  cases r with
  | inl u => exact ⟨_, _, rfl, fun h => by cases h⟩
  | inr x => exact ⟨x.1, x.2, rfl, fun _ => (hC x rfl).2⟩
open Go.RowKit
theorem target_of {r : GRR} (hn : r.fName.size ≤ 1099511627776) (hd : r.fData.size ≤ 1099511627776) : ∃ z, m_record_Target r = some z ∧ z.1.size ≤ 1000 := by
  obtain ⟨e, h1, h3⟩ := good_cd hn hd
  have hs := shp_iff r.fType
  rw [m_record_Target, shapeOf_eq, Option.bind_some]
  simp only
  by_cases hnm : (shp r.fType).2.2.2 = true
  · rw [if_neg (fun h => (hs.1.1 h) hnm), h1, Option.bind_some]
    by_cases he : e ≠ 0
    · rw [if_pos he]
      exact ⟨_, rfl, Nat.zero_le _⟩
    · have hg := goodB_iff.1 (h3.2 (Classical.not_not.1 he))
      have hok := names_ok hd hg.2.2 hnm
      obtain ⟨p1, p2, -⟩ := parts_ok hnm hok
      obtain ⟨x, hx⟩ := at_some_of (l := (partsP r.fType r.fData).2.1) (k := 0) (by have := hs.2 hnm; omega)
      have hm : x ∈ (partsP r.fType r.fData).2.1 := by
        have := hs.2 hnm
        rw [at_nat (by omega)] at hx
        cases hx
        exact List.getElem_mem _
      obtain ⟨ls, -, l2⟩ := p2 x hm
      rw [if_neg he, cut_eq hd, Option.bind_some]
      simp only at hx ⊢
      erw [hx]
      exact ⟨_, rfl, by show x.size ≤ 1000; omega⟩
  · rw [if_pos (hs.1.2 hnm)]
    exact ⟨_, rfl, Nat.zero_le _⟩
theorem contains_of (l : List GRR) (x : GRR) (hl : l.length ≤ 1000000) : ∃ b, m_slices_Contains_29 l x = some b := by
  obtain ⟨r, hr, -⟩ := loop_rule (step := fun s => m_slices_Index_60_s2 l x s) (fun s => 0 ≤ s ∧ s ≤ l.length) (fun s => (l.length - s).toNat) (fun _ => True) (fun s hs => by
    unfold m_slices_Index_60_s2
    by_cases h : s < (l.length : Int)
    · obtain ⟨k, rfl⟩ := Int.eq_ofNat_of_zero_le hs.1
      rw [if_pos h, at_nat (by omega), Option.bind_some]
      split
      · exact .inr ⟨_, rfl, trivial⟩
      · rw [w64_id (by omega) (by omega)]
        exact .inl ⟨_, rfl, ⟨by omega, by omega⟩, by omega⟩
    · rw [if_neg h]; exact .inr ⟨_, rfl, trivial⟩) (s0 := 0) ⟨by omega, by omega⟩
  unfold m_slices_Contains_29 m_slices_Index_60
  rw [hr]
  cases r <;> exact ⟨_, rfl⟩
theorem there_of {z : GZone} (hz : OkZ z) {n : ByteArray} (hn : n.size ≤ 1099511627776) : ∃ b, m_auth_There z n = some b := by
  have hl := hz.len
  obtain ⟨r, hr, -⟩ := loop_rule (step := fun s => m_slices_IndexFunc_82_s2 z.fRecords n s) (fun s => 0 ≤ s ∧ s ≤ z.fRecords.length) (fun s => (z.fRecords.length - s).toNat) (fun _ => True) (fun s hs => by
    unfold m_slices_IndexFunc_82_s2
    by_cases h : s < (z.fRecords.length : Int)
    · obtain ⟨k, rfl⟩ := Int.eq_ofNat_of_zero_le hs.1
      have hk : k < z.fRecords.length := by omega
      have := (hz.recs _ (List.getElem_mem hk)).1
      rw [if_pos h, at_nat hk, Option.bind_some, m_auth_There_c1, und_code (by omega) hn, Option.bind_some, Option.bind_some]
      split
      · exact .inr ⟨_, rfl, trivial⟩
      · rw [w64_id (by omega) (by omega)]
        exact .inl ⟨_, rfl, ⟨by omega, by omega⟩, by omega⟩
    · rw [if_neg h]; exact .inr ⟨_, rfl, trivial⟩) (s0 := 0) ⟨by omega, by omega⟩
  unfold m_auth_There m_slices_ContainsFunc_61 m_slices_IndexFunc_82
  rw [hr]
  cases r <;> exact ⟨_, rfl⟩
/-! ### What stands below the answer -/
theorem extras_in {z : GZone} (x : List GRR) (hx : ∀ r ∈ x, r ∈ z.fRecords) (hxl : x.length ≤ 100) (l0 : List GRR) (hl0 : ∀ r ∈ l0, r ∈ z.fRecords) (hl : l0.length ≤ 100000) :
    ∃ l, loop (fun s => m_auth_Answer_s4 x s.1 s.2) (l0, 0) = some l ∧ (∀ r ∈ l, r ∈ z.fRecords) ∧ l.length ≤ l0.length + 100 := by
  refine loop_rule (fun s : List GRR × Int => 0 ≤ s.2 ∧ s.2 ≤ x.length ∧ (∀ r ∈ s.1, r ∈ z.fRecords) ∧ (s.1.length : Int) ≤ l0.length + s.2) (fun s => (x.length - s.2).toNat) (fun l : List GRR => (∀ r ∈ l, r ∈ z.fRecords) ∧ l.length ≤ l0.length + 100) (fun s hs => ?_) (s0 := (l0, (0 : Int))) ⟨Int.le_refl 0, by show (0 : Int) ≤ x.length; omega, hl0, by show (l0.length : Int) ≤ l0.length + 0; omega⟩
  obtain ⟨l, i⟩ := s
  obtain ⟨h1, h2, h3, h4⟩ := hs
  simp only at h1 h2 h3 h4 ⊢
  unfold m_auth_Answer_s4
  by_cases h : i < (x.length : Int)
  case neg => rw [if_neg h]; exact .inr ⟨_, rfl, h3, by omega⟩
  obtain ⟨k, rfl⟩ := Int.eq_ofNat_of_zero_le h1
  have hk : k < x.length := by omega
  obtain ⟨b, hb⟩ := contains_of l x[k] (by omega)
  rw [if_pos h, at_nat hk, Option.bind_some, hb, Option.bind_some, w64_id (by omega) (by omega)]
  by_cases c : b = true
  · rw [if_pos c]
    exact .inl ⟨_, rfl, ⟨by show (0 : Int) ≤ (k : Int) + 1; omega, by show (k : Int) + 1 ≤ x.length; omega, h3, by show (l.length : Int) ≤ l0.length + ((k : Int) + 1); omega⟩, by show ((x.length : Int) - ((k : Int) + 1)).toNat < _; omega⟩
  · rw [if_neg c, app_of (by simp only [List.length_singleton]; omega), Option.bind_some]
    refine .inl ⟨_, rfl, ⟨by show (0 : Int) ≤ (k : Int) + 1; omega, by show (k : Int) + 1 ≤ x.length; omega, fun r hr => ?_, by show ((l ++ [x[k]]).length : Int) ≤ l0.length + ((k : Int) + 1); rw [List.length_append, List.length_singleton]; omega⟩, by show ((x.length : Int) - ((k : Int) + 1)).toNat < _; omega⟩
    rcases List.mem_append.1 hr with g | g
    · exact h3 r g
    · rw [List.mem_singleton.1 g]; exact hx _ (List.getElem_mem hk)
theorem extras_of {z : GZone} (hz : OkZ z) (x : List GRR) (hx : ∀ r ∈ x, r ∈ z.fRecords) (hxl : x.length ≤ 100) :
    ∃ l, loop (fun s => m_auth_Answer_s2 x z s.1 s.2) (([] : List GRR), 0) = some l ∧ (∀ r ∈ l, r ∈ z.fRecords) ∧ l.length ≤ 10000 := by
  refine loop_rule (fun s : List GRR × Int => 0 ≤ s.2 ∧ s.2 ≤ x.length ∧ (∀ r ∈ s.1, r ∈ z.fRecords) ∧ (s.1.length : Int) ≤ 100 * s.2) (fun s => (x.length - s.2).toNat) (fun l : List GRR => (∀ r ∈ l, r ∈ z.fRecords) ∧ l.length ≤ 10000) (fun s hs => ?_) (s0 := (([] : List GRR), (0 : Int))) ⟨Int.le_refl 0, by show (0 : Int) ≤ x.length; omega, (fun r hr => by cases hr), by show ((0 : Nat) : Int) ≤ 100 * 0; omega⟩
  obtain ⟨l, i⟩ := s
  obtain ⟨h1, h2, h3, h4⟩ := hs
  simp only at h1 h2 h3 h4 ⊢
  unfold m_auth_Answer_s2
  by_cases h : i < (x.length : Int)
  case neg => rw [if_neg h]; exact .inr ⟨_, rfl, h3, by omega⟩
  obtain ⟨k, rfl⟩ := Int.eq_ofNat_of_zero_le h1
  have hk : k < x.length := by omega
  have hr := hz.recs _ (hx _ (List.getElem_mem hk))
  obtain ⟨t, t1, t2⟩ := target_of (r := x[k]) (by omega) (by omega)
  rw [if_pos h, at_nat hk, Option.bind_some, t1, Option.bind_some, addr_eq hz (by omega), Option.bind_some]
  obtain ⟨l', e1, e2, e3⟩ := extras_in (z := z) (addrP z t.1) (fun r hr => (List.mem_filter.1 hr).1) (Nat.le_trans (List.length_filter_le _ _) hz.len) l h3 (by omega)
  rw [e1, Option.bind_some, m_auth_Answer_j3, w64_id (by omega) (by omega)]
  exact .inl ⟨_, rfl, ⟨by show (0 : Int) ≤ (k : Int) + 1; omega, by show (k : Int) + 1 ≤ x.length; omega, e2, by show (l'.length : Int) ≤ 100 * ((k : Int) + 1); omega⟩, by show ((x.length : Int) - ((k : Int) + 1)).toNat < _; omega⟩
/-! ### Answers -/
def Bare (r : GMessage) : Prop := r.fAnswers = [] ∧ r.fAuthorities = [] ∧ r.fExtras = []
/-- What is said of a zone's name. -/
inductive Told (z : GZone) (q : GQuestion) (r : GMessage) : Prop
  | below (a : ByteArray) (hb : m_auth_Below z q.fName = some (a, true)) (hc : r.fCode = 0) (ha : r.fAuthoritative = false) (hn : r.fAnswers = []) (hu : r.fAuthorities = ofP z a 2) (hl : 0 < (ofP z a 2).length) (he : ∀ x ∈ r.fExtras, x ∈ z.fRecords) (hx : r.fExtras.length ≤ 10000)
  | own (a : ByteArray) (hb : m_auth_Below z q.fName = some (a, false)) (hc : r.fCode = 0) (ha : r.fAuthoritative = true) (hn : r.fAnswers = ofP z q.fName q.fType) (hl : ofP z q.fName q.fType ≠ []) (hu : r.fAuthorities = []) (he : r.fExtras = [])
  | alias (a : ByteArray) (hb : m_auth_Below z q.fName = some (a, false)) (hc : r.fCode = 0) (ha : r.fAuthoritative = true) (hl : ofP z q.fName q.fType = []) (hn : r.fAnswers = (ofP z q.fName 5).take 1) (h5 : ofP z q.fName 5 ≠ []) (hu : r.fAuthorities = []) (he : r.fExtras = [])
  | none (a : ByteArray) (hb : m_auth_Below z q.fName = some (a, false)) (hc : r.fCode = 0 ∨ r.fCode = 3) (ha : r.fAuthoritative = true) (hl : ofP z q.fName q.fType = []) (hn : r.fAnswers = []) (hu : r.fAuthorities = ofP z z.fApex 6) (he : r.fExtras = [])
structure Heads (m r : GMessage) : Prop where
  id : r.fID = m.fID
  resp : r.fResponse = true
  trunc : r.fTruncated = false
  des : r.fDesired = m.fDesired
  avail : r.fAvailable = false
  op : r.fOpcode = m.fOpcode
inductive Said (l : List GZone) (m r : GMessage) : Prop
  | odd (h : m.fResponse = true ∨ m.fQuestions.length ≠ 1) (hc : r.fCode = 1) (hb : Bare r) (hq : r.fQuestions = [])
  | op (q : GQuestion) (h : m.fResponse = false) (hm : m.fQuestions = [q]) (hq : r.fQuestions = [q]) (ho : m.fOpcode ≠ 0) (hc : r.fCode = 4) (hb : Bare r)
  | no (q : GQuestion) (h : m.fResponse = false) (hm : m.fQuestions = [q]) (hq : r.fQuestions = [q]) (ho : m.fOpcode = 0) (k : Int) (is : Bool) (hf : m_auth_Find l q.fName = some (k, is)) (hn : q.fClass ≠ 1 ∨ is = false) (hc : r.fCode = 5) (hb : Bare r)
  | of (q : GQuestion) (h : m.fResponse = false) (hm : m.fQuestions = [q]) (hq : r.fQuestions = [q]) (ho : m.fOpcode = 0) (j : Nat) (hj : j < l.length) (hf : m_auth_Find l q.fName = some ((j : Int), true)) (hc : q.fClass = 1) (hz : ZoneOk l[j]) (hu : undP q.fName l[j].fApex = true) (ht : Told l[j] q r)
theorem reply_of (m : GMessage) (c : Int) (hl : m.fQuestions.length ≤ 1000) : m_auth_reply m c = some ⟨m.fID, true, false, false, m.fDesired, false, m.fOpcode, c, m.fQuestions, [], [], []⟩ := by
  unfold m_auth_reply m_message_Reply
  rw [app_of (by simp only [List.length_nil]; omega)]
  rfl
theorem j5_of {z : GZone} (hz : OkZ z) {q : GQuestion} (hq : q.fName.size ≤ 1099511627776) (m : GMessage) (x : GMessage) (hx : x = ⟨m.fID, true, false, false, m.fDesired, false, m.fOpcode, 0, [q], [], [], []⟩) (l : List GRR) :
    ∃ r, m_auth_Answer_j5 z q x l = some r ∧ Heads m r ∧ r.fQuestions = [q] ∧ r.fAuthoritative = true ∧ r.fExtras = [] ∧ ((l ≠ [] ∧ r.fAnswers = l ∧ r.fAuthorities = [] ∧ r.fCode = 0) ∨ (l = [] ∧ r.fAnswers = [] ∧ r.fAuthorities = ofP z z.fApex 6 ∧ (r.fCode = 0 ∨ r.fCode = 3))) := by
  subst hx
  unfold m_auth_Answer_j5
  by_cases h : (l.length : Int) = 0
  · have h0 : l = [] := List.length_eq_zero_iff.1 (by omega)
    obtain ⟨b, hb⟩ := there_of hz hq
    rw [if_pos h, of_eq hz (by have := hz.apex; omega), Option.bind_some, hb, Option.bind_some]
    by_cases c : b = true
    · rw [if_pos c]
      exact ⟨_, rfl, ⟨rfl, rfl, rfl, rfl, rfl, rfl⟩, rfl, rfl, rfl, .inr ⟨h0, rfl, rfl, .inl rfl⟩⟩
    · rw [if_neg c]
      exact ⟨_, rfl, ⟨rfl, rfl, rfl, rfl, rfl, rfl⟩, rfl, rfl, rfl, .inr ⟨h0, rfl, rfl, .inr rfl⟩⟩
  · rw [if_neg h]
    exact ⟨_, rfl, ⟨rfl, rfl, rfl, rfl, rfl, rfl⟩, rfl, rfl, rfl, .inl ⟨fun g => h (by rw [g]; rfl), rfl, rfl, rfl⟩⟩
theorem answer_of {l : List GZone} {m : GMessage} (hl : l.length ≤ 100) (hz : ∀ z ∈ l, OkZ z) (hm : m.fQuestions.length ≤ 1000) (hn : ∀ q ∈ m.fQuestions, q.fName.size ≤ 1099511627776) :
    ∃ r, m_auth_Answer l m = some r ∧ Heads m r ∧ Said l m r := by
  unfold m_auth_Answer
  by_cases c1 : m.fResponse = true
  · rw [if_pos c1, reply_of m 1 hm, Option.bind_some]
    exact ⟨_, rfl, ⟨rfl, rfl, rfl, rfl, rfl, rfl⟩, .odd (.inl c1) rfl ⟨rfl, rfl, rfl⟩ rfl⟩
  rw [if_neg c1]
  by_cases c2 : (m.fQuestions.length : Int) ≠ 1
  · rw [if_pos c2, reply_of m 1 hm, Option.bind_some]
    exact ⟨_, rfl, ⟨rfl, rfl, rfl, rfl, rfl, rfl⟩, .odd (.inr (by omega)) rfl ⟨rfl, rfl, rfl⟩ rfl⟩
  rw [if_neg c2]
  obtain ⟨q, hq⟩ := List.length_eq_one_iff.1 (show m.fQuestions.length = 1 by omega)
  have hres : m.fResponse = false := by simpa using c1
  by_cases c3 : m.fOpcode ≠ 0
  · rw [if_pos c3, reply_of m 4 hm, Option.bind_some]
    exact ⟨_, rfl, ⟨rfl, rfl, rfl, rfl, rfl, rfl⟩, .op q hres hq hq c3 rfl ⟨rfl, rfl, rfl⟩⟩
  rw [if_neg c3]
  have ho : m.fOpcode = 0 := Classical.not_not.1 c3
  have hqn := hn q (by rw [hq]; exact List.mem_singleton_self q)
  have hat : at_ m.fQuestions 0 = some q := by rw [hq]; rfl
  obtain ⟨k, is, hf, hk⟩ := find_of hl hz hqn
  rw [hat, Option.bind_some, hf, Option.bind_some]
  by_cases c4 : q.fClass ≠ 1
  · rw [if_pos c4, reply_of m 5 hm, Option.bind_some]
    exact ⟨_, rfl, ⟨rfl, rfl, rfl, rfl, rfl, rfl⟩, .no q hres hq hq ho k is hf (.inl c4) rfl ⟨rfl, rfl, rfl⟩⟩
  rw [if_neg c4]
  rcases hk with ⟨hi, -⟩ | ⟨hi, j, hj, rfl, hzo, hu⟩
  · subst hi
    rw [if_neg (by simp), reply_of m 5 hm, Option.bind_some]
    exact ⟨_, rfl, ⟨rfl, rfl, rfl, rfl, rfl, rfl⟩, .no q hres hq hq ho k false hf (.inr rfl) rfl ⟨rfl, rfl, rfl⟩⟩
  subst hi
  have hzj := hz _ (List.getElem_mem hj)
  obtain ⟨a, b, hb, hb2⟩ := below_of hzj hqn
  rw [if_pos rfl, at_nat hj, Option.bind_some, reply_of m 0 hm, Option.bind_some, hb, Option.bind_some]
  by_cases c5 : b = true
  · subst c5
    obtain ⟨b1, b2⟩ := hb2 rfl
    rw [if_pos rfl, of_eq hzj (by simp only; omega), Option.bind_some]
    obtain ⟨e, e1, e2, e3⟩ := extras_of hzj (ofP l[j] a 2) (fun r hr => (of_mem.1 hr).1) (of_len hzj a 2)
    simp only
    rw [e1, Option.bind_some]
    exact ⟨_, rfl, ⟨rfl, rfl, rfl, rfl, rfl, rfl⟩, .of q hres hq hq ho j hj hf (Classical.not_not.1 c4) hzo hu (.below a hb rfl rfl rfl rfl b2 e2 e3)⟩
  · have hbf : b = false := by simpa using c5
    subst hbf
    rw [if_neg (by simp), of_eq hzj hqn, Option.bind_some]
    by_cases c6 : ((ofP l[j] q.fName q.fType).length : Int) = 0
    · have h0 : ofP l[j] q.fName q.fType = [] := List.length_eq_zero_iff.1 (by omega)
      rw [if_pos c6, of_eq hzj hqn, Option.bind_some]
      have hcut : cutHi (ofP l[j] q.fName 5) (min ((ofP l[j] q.fName 5).length : Int) 1) = some ((ofP l[j] q.fName 5).take 1) := by
        cases ofP l[j] q.fName 5 with
        | nil => rfl
        | cons x xs =>
          have : min (((x :: xs).length : Nat) : Int) 1 = 1 := by rw [List.length_cons]; omega
          rw [this]
          simp [cutHi]
          omega
      rw [hcut, Option.bind_some]
      obtain ⟨r, r1, r2, r3, r4, r5, r6⟩ := j5_of hzj hqn m (⟨m.fID, true, false, false, m.fDesired, false, m.fOpcode, 0, m.fQuestions, [], [], []⟩ : GMessage) (by rw [hq]) ((ofP l[j] q.fName 5).take 1)
      refine ⟨r, r1, r2, .of q hres hq r3 ho j hj hf (Classical.not_not.1 c4) hzo hu ?_⟩
      rcases r6 with ⟨g1, g2, g3, g4⟩ | ⟨g1, g2, g3, g4⟩
      · exact .alias a hb g4 r4 h0 g2 (fun g => g1 (by rw [g]; rfl)) g3 r5
      · exact .none a hb g4 r4 h0 g2 g3 r5
    · rw [if_neg c6]
      obtain ⟨r, r1, r2, r3, r4, r5, r6⟩ := j5_of hzj hqn m (⟨m.fID, true, false, false, m.fDesired, false, m.fOpcode, 0, m.fQuestions, [], [], []⟩ : GMessage) (by rw [hq]) (ofP l[j] q.fName q.fType)
      refine ⟨r, r1, r2, .of q hres hq r3 ho j hj hf (Classical.not_not.1 c4) hzo hu ?_⟩
      rcases r6 with ⟨g1, g2, g3, g4⟩ | ⟨g1, -⟩
      · exact .own a hb g4 r4 g2 g1 g3 r5
      · exact absurd (by rw [g1]; rfl) c6
open Go.RowKit
theorem awake18 : m_law18_awake = some true := by decide +kernel
theorem short18_of {s : ByteArray} (k : Nat) (h : s.size ≤ 9223372036854775807) : ∃ t, m_law18_short s (k : Int) = some t ∧ t.size ≤ k := by
  rw [m_law18_short]
  by_cases hc : k < s.size
  · rw [if_pos (by omega), scutHi, if_pos ⟨by omega, by omega⟩]
    exact ⟨_, rfl, by rw [ByteArray.size_extract]; omega⟩
  · rw [if_neg (by omega)]; exact ⟨_, rfl, by omega⟩
open Go.RowKit
/-! ### Small zones -/
theorem inner_of {zs : List GZone} {i : Nat} (hi : i < zs.length) (hz : GZone.ok zs[i]) :
    ∃ r, loop (fun s => m_law18_small_s4 zs (i : Int) s.1 s.2) (([] : List GRR), 0) = some r ∧ r.length ≤ 40 ∧ ∀ x ∈ r, x.fName.size ≤ 300 ∧ x.fData.size ≤ 300 := by
  refine loop_rule (fun s : List GRR × Int => 0 ≤ s.2 ∧ s.2 ≤ 40 ∧ s.2 ≤ zs[i].fRecords.length ∧ (∀ x ∈ s.1, x.fName.size ≤ 300 ∧ x.fData.size ≤ 300) ∧ (s.1.length : Int) = s.2) (fun s => (40 - s.2).toNat) (fun r : List GRR => r.length ≤ 40 ∧ ∀ x ∈ r, x.fName.size ≤ 300 ∧ x.fData.size ≤ 300) (fun s hs => ?_) (s0 := (([] : List GRR), (0 : Int))) ⟨Int.le_refl 0, (by decide), by show (0 : Int) ≤ zs[i].fRecords.length; omega, (fun r hr => by cases hr), rfl⟩
  obtain ⟨r, k⟩ := s
  obtain ⟨h1, h2, h5, h3, h4⟩ := hs
  simp only at h1 h2 h3 h4 h5 ⊢
  unfold m_law18_small_s4
  rw [at_nat hi, Option.bind_some]
  by_cases h : k < (zs[i].fRecords.length : Int)
  case neg => rw [if_neg h]; exact .inr ⟨_, rfl, by omega, h3⟩
  rw [if_pos h]
  by_cases h40 : k < 40
  case neg => rw [if_neg h40]; exact .inr ⟨_, rfl, by omega, h3⟩
  rw [if_pos h40]
  obtain ⟨k, rfl⟩ := Int.eq_ofNat_of_zero_le h1
  have hk : k < zs[i].fRecords.length := by omega
  have hok := hz.2.2 _ (List.getElem_mem hk)
  obtain ⟨t, t1, t2⟩ := short18_of 300 hok.1
  obtain ⟨u, u1, u2⟩ := short18_of 300 hok.2.2.2.2
  rw [Option.bind_some, at_nat hk, Option.bind_some]
  erw [t1]
  rw [Option.bind_some]
  erw [u1]
  rw [Option.bind_some, app_of (by simp only [List.length_singleton]; omega), Option.bind_some, w64_id (by omega) (by omega)]
  refine .inl ⟨_, rfl, ⟨by show (0 : Int) ≤ (k : Int) + 1; omega, by show (k : Int) + 1 ≤ 40; omega, by show (k : Int) + 1 ≤ zs[i].fRecords.length; omega, fun q hq => ?_, by show ((r ++ [_]).length : Int) = (k : Int) + 1; rw [List.length_append, List.length_singleton]; omega⟩, by show ((40 : Int) - ((k : Int) + 1)).toNat < _; omega⟩
  rcases List.mem_append.1 hq with g | g
  · exact h3 q g
  · rw [List.mem_singleton.1 g]; exact ⟨t2, u2⟩
theorem small18_of {zs : List GZone} (hz : ∀ z ∈ zs, GZone.ok z) :
    ∃ l, m_law18_small zs = some l ∧ l.length ≤ 6 ∧ (l.length = zs.length ∨ 6 < zs.length) ∧ ∀ z ∈ l, OkZ z := by
  have hL := loop_rule (step := fun s => m_law18_small_s2 zs s.1 s.2) (fun s : List GZone × Int => 0 ≤ s.2 ∧ s.2 ≤ 6 ∧ s.2 ≤ zs.length ∧ (∀ z ∈ s.1, OkZ z) ∧ (s.1.length : Int) = s.2) (fun s => (6 - s.2).toNat) (fun r : List GZone => r.length ≤ 6 ∧ (r.length = zs.length ∨ 6 < zs.length) ∧ ∀ z ∈ r, OkZ z) (fun s hs => by
    obtain ⟨r, k⟩ := s
    obtain ⟨h1, h2, h5, h3, h4⟩ := hs
    simp only at h1 h2 h3 h4 h5 ⊢
    unfold m_law18_small_s2
    by_cases h : k < (zs.length : Int)
    case neg => rw [if_neg h]; exact .inr ⟨_, rfl, by omega, by omega, h3⟩
    rw [if_pos h]
    by_cases h40 : k < 6
    case neg => rw [if_neg h40]; exact .inr ⟨_, rfl, by omega, by omega, h3⟩
    rw [if_pos h40]
    obtain ⟨k, rfl⟩ := Int.eq_ofNat_of_zero_le h1
    have hk : k < zs.length := by omega
    have hok := hz _ (List.getElem_mem hk)
    obtain ⟨t, t1, t2⟩ := short18_of 300 hok.1
    obtain ⟨u, u1, u2, u3⟩ := inner_of hk hok
    rw [at_nat hk, Option.bind_some]
    erw [t1]
    rw [Option.bind_some, u1, Option.bind_some, m_law18_small_j3, app_of (by simp only [List.length_singleton]; omega), Option.bind_some, w64_id (by omega) (by omega)]
    refine .inl ⟨_, rfl, ⟨by show (0 : Int) ≤ (k : Int) + 1; omega, by show (k : Int) + 1 ≤ 6; omega, by show (k : Int) + 1 ≤ zs.length; omega, fun q hq => ?_, by show ((r ++ [_]).length : Int) = (k : Int) + 1; rw [List.length_append, List.length_singleton]; omega⟩, by show ((6 : Int) - ((k : Int) + 1)).toNat < _; omega⟩
    rcases List.mem_append.1 hq with g | g
    · exact h3 q g
    · rw [List.mem_singleton.1 g]; exact ⟨t2, by show u.length ≤ 100; omega, u3⟩) (s0 := (([] : List GZone), (0 : Int))) ⟨Int.le_refl 0, (by decide), by show (0 : Int) ≤ zs.length; omega, (fun r hr => by cases hr), rfl⟩
  obtain ⟨r, hr, h1, h2, h3⟩ := hL
  exact ⟨r, by unfold m_law18_small; rw [hr]; rfl, h1, h2, h3⟩
/-! ### What is told -/
open Go.RowKit
theorem own_loop {l : List GZone} {z : GZone} (hl : l = [z]) (hz : OkZ z) {x : GRR} (hx : x.fName.size ≤ 300) {r : GMessage} (hr : r.fAnswers = ofP z x.fName x.fType) :
    loop (fun s => m_law18_AuthParts_s3 z l x r s.1 s.2) (0, 0) = some (.inl (r.fAnswers.length : Int)) := by
  have hlen := hz.len
  have hat : at_ l 0 = some z := by rw [hl]; rfl
  refine loop_run z.fRecords.length (fun k => ((((z.fRecords.take k).filter (fun y => decide (y.fType = x.fType) && sameP y.fName x.fName)).length : Int), (k : Int))) _ (by simp) (fun k hk => ?_) ?_
  · unfold m_law18_AuthParts_s3
    simp only
    have hw : w64 ((k : Int) + 1) = ((k + 1 : Nat) : Int) := by rw [w64_id (by omega) (by omega)]; omega
    have hk2 := (hz.recs _ (List.getElem_mem hk)).1
    have hsp : ofP z x.fName x.fType = (z.fRecords.take k).filter (fun y => decide (y.fType = x.fType) && sameP y.fName x.fName) ++ (z.fRecords.drop k).filter (fun y => decide (y.fType = x.fType) && sameP y.fName x.fName) := by
      unfold ofP
      rw [← List.filter_append, List.take_append_drop]
    have hd : z.fRecords.drop k = z.fRecords[k] :: z.fRecords.drop (k + 1) := List.drop_eq_getElem_cons hk
    have ht : z.fRecords.take (k + 1) = z.fRecords.take k ++ [z.fRecords[k]] := List.take_succ_eq_append_getElem hk
    generalize hf : (fun y : GRR => decide (y.fType = x.fType) && sameP y.fName x.fName) = f at hsp ⊢
    have hfk : f z.fRecords[k] = (decide (z.fRecords[k].fType = x.fType) && sameP z.fRecords[k].fName x.fName) := by rw [← hf]
    have hA : ((z.fRecords.take k).filter f).length ≤ 100 := Nat.le_trans (List.length_filter_le _ _) (by rw [List.length_take]; omega)
    rw [if_pos (by omega), hat, Option.bind_some, at_nat hk, Option.bind_some, (same_both (by omega) (by omega)).2, Option.bind_some, ht, List.filter_append, hw]
    by_cases c : sameP z.fRecords[k].fName x.fName = true
    · rw [if_pos c]
      by_cases c2 : z.fRecords[k].fType = x.fType
      · have hft : f z.fRecords[k] = true := by rw [hfk, c, decide_eq_true c2]; rfl
        rw [hd, List.filter_cons_of_pos hft] at hsp
        have hli : ((z.fRecords.take k).filter f).length < r.fAnswers.length := by rw [hr, hsp, List.length_append, List.length_cons]; omega
        have hget : r.fAnswers[((z.fRecords.take k).filter f).length] = z.fRecords[k] := by
          have e : r.fAnswers = (z.fRecords.take k).filter f ++ z.fRecords[k] :: (z.fRecords.drop (k + 1)).filter f := by rw [hr, hsp]
          simp [e]
        rw [if_pos c2, if_neg (by omega), at_nat hli, Option.bind_some, if_pos hget, List.filter_cons_of_pos hft, List.length_append, w64_id (by omega) (by omega)]
        rfl
      · rw [if_neg c2, List.filter_cons_of_neg (by rw [hfk, decide_eq_false c2]; simp)]
        simp
    · rw [if_neg c, List.filter_cons_of_neg (by rw [hfk]; simp only [Bool.not_eq_true] at c; rw [c]; simp)]
      simp
  · unfold m_law18_AuthParts_s3
    simp only
    rw [if_neg (by omega), List.take_length, hr]
    rfl
theorem q_AuthParts (p0 : GZone) (p1 : Int) (h0 : GZone.ok p0) (h1 : ((-9223372036854775808) ≤ p1 ∧ p1 ≤ 9223372036854775807)) : m_law18_AuthParts p0 p1 = some true := by
  obtain ⟨l, l1, l2, l3, l4⟩ := small18_of (zs := [p0]) (fun z hz => by rw [List.mem_singleton.1 hz]; exact h0)
  obtain ⟨z, hl⟩ := List.length_eq_one_iff.1 (show l.length = 1 by rcases l3 with h | h; exact h; simp at h)
  subst hl
  have hz := l4 z (List.mem_singleton_self z)
  have hlen := hz.len
  obtain ⟨e, e1, e2⟩ := zcheck_eq hz
  rw [m_law18_AuthParts, awake18, Option.bind_some, l1, Option.bind_some, show at_ [z] 0 = some z from rfl, Option.bind_some, e1, Option.bind_some]
  by_cases c : e ≠ 0
  · rw [if_pos c]
  rw [if_neg c, Option.bind_some]
  have hzo := e2.1 (Classical.not_not.1 c)
  have hn : 0 < z.fRecords.length := by
    have := hzo.2.2.1
    have h2 : (ofP z z.fApex 6).length ≤ z.fRecords.length := List.length_filter_le _ _
    omega
  have key : ∀ k : Int, 0 ≤ k → k ≤ 9223372036854775807 → m_law18_AuthParts_j1 [z] z true k = some true := fun k hk hk2 => by
    have hm0 : 0 ≤ k.tmod (z.fRecords.length : Int) := by rw [Int.tmod_eq_emod_of_nonneg hk]; exact Int.emod_nonneg _ (by omega)
    have hm1 : k.tmod (z.fRecords.length : Int) < z.fRecords.length := by rw [Int.tmod_eq_emod_of_nonneg hk]; exact Int.emod_lt_of_pos _ (by omega)
    obtain ⟨i, hi⟩ := Int.eq_ofNat_of_zero_le hm0
    have hi2 : i < z.fRecords.length := by omega
    have hmem := List.getElem_mem hi2
    have hrec := hz.recs _ hmem
    have hund := (hzo.2.1 _ hmem).2.2
    have hdv : dvd (z.fRecords.length : Int) = some () := by unfold dvd; rw [if_pos (by omega)]
    unfold m_law18_AuthParts_j1
    rw [show at_ [z] 0 = some z from rfl, Option.bind_some, hdv, Option.bind_some, hi]
    erw [at_nat hi2]
    rw [Option.bind_some, m_message_Query, Option.bind_some]
    generalize hx : z.fRecords[i] = x at hmem hrec hund ⊢
    obtain ⟨r, r1, hh, hs⟩ := answer_of (l := [z]) (m := ⟨1, false, false, false, false, false, 0, 0, [(⟨x.fName, x.fType, 1⟩ : GQuestion)], [], [], []⟩) (by simp) (fun y hy => by rw [List.mem_singleton.1 hy]; exact hz) (by simp) (fun q hq => by rw [List.mem_singleton.1 hq]; show x.fName.size ≤ _; omega)
    obtain ⟨a, b, hb, hb2⟩ := below_of hz (n := x.fName) (by omega)
    rw [r1, Option.bind_some, Option.bind_some, hb, Option.bind_some]
    have hin : x ∈ ofP z x.fName x.fType := of_mem.2 ⟨hmem, rfl, sameP_self (undP_t.1 hund).1⟩
    have hT : Told z (⟨x.fName, x.fType, 1⟩ : GQuestion) r := by
      cases hs with
      | odd h hc hb hq => rcases h with h | h; cases h; exact absurd rfl h
      | op q h hm hq ho hc hb => exact absurd rfl ho
      | no q h hm hq ho k' is' hf' hn' hc hb =>
        cases hm
        obtain ⟨k2, is2, hf2, hfk⟩ := find_of (l := [z]) (n := x.fName) (by simp) (fun y hy => by rw [List.mem_singleton.1 hy]; exact hz) (by omega)
        have he : (k', is') = (k2, is2) := Option.some.inj (hf'.symm.trans hf2)
        cases he
        rcases hn' with hn' | hn'
        · exact absurd rfl hn'
        · rcases hfk with ⟨-, g⟩ | ⟨g, -⟩
          · exact absurd ⟨hzo, hund⟩ (g z (List.mem_singleton_self z))
          · rw [hn'] at g; cases g
      | of q h hm hq ho j hj hf' hc hz' hu ht =>
        cases hm
        have hj0 : j = 0 := by simp at hj; exact hj
        subst hj0
        exact ht
    cases hT with
    | below a' hb' hc ha hnn hu hl' he hx2 =>
      have he : (a', true) = (a, b) := Option.some.inj (hb'.symm.trans hb)
      cases he
      have hpos : 0 < r.fAuthorities.length := by rw [hu]; exact hl'
      have hty0 : ∀ y ∈ r.fAuthorities, y.fType = 2 := fun y hy => by rw [hu] at hy; exact (of_mem.1 hy).2.1
      have hty := hty0 _ (List.getElem_mem hpos)
      rw [if_pos rfl, if_pos rfl, if_pos hc, hnn, if_pos (show (([] : List GRR).length : Int) = 0 from rfl), if_pos (by omega)]
      erw [at_nat (k := 0) hpos]
      rw [Option.bind_some, decide_eq_true hty]
    | own a' hb' hc ha hnn hl' hu he =>
      have he : (a', false) = (a, b) := Option.some.inj (hb'.symm.trans hb)
      cases he
      rw [if_neg (by simp), own_loop rfl hz hrec.1 hnn, Option.bind_some]
      show m_law18_AuthParts_j2 true r _ = _
      unfold m_law18_AuthParts_j2
      rw [if_pos rfl, if_pos hc, if_pos ha, decide_eq_true rfl]
    | alias a' hb' hc ha hl' hnn h5 hu he => rw [hl'] at hin; cases hin
    | none a' hb' hc ha hl' hnn hu he => rw [hl'] at hin; cases hin
  by_cases c2 : p1 < 0
  · rw [if_pos c2, w64_id (x := p1 + 1) (by omega) (by omega), w64_id (by omega) (by omega)]
    exact key _ (by omega) (by omega)
  · rw [if_neg c2]; exact key _ (by omega) (by omega)
end Go.Proofs.Ytjbfgaahonmclaa
