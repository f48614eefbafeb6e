import Derived.Test.YtkmkpodioedlfaaKNO
set_option linter.unusedVariables false
set_option linter.unusedSimpArgs false
set_option maxRecDepth 16384
namespace Go.Proofs.Ytkmkpodioedlfaa
open Go.RowKit
def encB (ls : List ByteArray) : List Int := ls.flatMap fun s => (s.size : Int) :: bytesI s
def okLs (ls : List ByteArray) : Prop := ∀ s ∈ ls, 1 ≤ s.size ∧ s.size ≤ 63
instance (ls : List ByteArray) : Decidable (okLs ls) := by unfold okLs; infer_instance
/-- n is the name of the labels ls. -/
def Nm (n : ByteArray) (ls : List ByteArray) : Prop := okLs ls ∧ bytesI n = encB ls ++ [0]
def starts : Nat → List ByteArray → List (Int × ByteArray)
  | _, [] => []
  | a, s :: ls => ((a : Int), s) :: starts (a + 1 + s.size) ls
/-- The bytes of a row are at its end: nothing, or a 0 ahead. -/
def endR (l : List Int) : Prop := l = [] ∨ ∃ r, l = 0 :: r
theorem encB_cons (s : ByteArray) (ls : List ByteArray) : encB (s :: ls) = (s.size : Int) :: bytesI s ++ encB ls := by simp [encB]
theorem encB_append (a b : List ByteArray) : encB (a ++ b) = encB a ++ encB b := by simp [encB]
theorem encB_range {ls : List ByteArray} (h : okLs ls) : ∀ x ∈ encB ls, 0 ≤ x ∧ x ≤ 255 := by
  intro x hx
  obtain ⟨s, hs, hx⟩ := List.mem_flatMap.1 hx
  have := h s hs
  rcases List.mem_cons.1 hx with rfl | hx
  · omega
  · exact bytesI_range s x hx
theorem drop_byte {n : ByteArray} {a : Nat} {x : Int} {r : List Int} (h : (bytesI n).drop a = x :: r) : a < n.size ∧ byteAt n (a : Int) = x ∧ (bytesI n).drop (a + 1) = r := by
  have hl : a < (bytesI n).length := by
    by_cases hc : a < (bytesI n).length
    · exact hc
    · rw [List.drop_of_length_le (by omega)] at h; cases h
  have hs : a < n.size := by rw [size_bytes]; exact hl
  rw [List.drop_eq_getElem_cons hl] at h
  injection h with h1 h2
  rw [bytesI_get n a hs] at h1
  exact ⟨hs, h1, h2⟩
theorem drop_app {n : ByteArray} {a : Nat} {s : ByteArray} {r : List Int} (h : (bytesI n).drop a = bytesI s ++ r) : n.extract a (a + s.size) = s ∧ a + s.size ≤ max n.size a ∧ (bytesI n).drop (a + s.size) = r := by
  have hs := size_bytes s
  have hn := size_bytes n
  have hl := congrArg List.length h
  rw [List.length_drop, List.length_append] at hl
  refine ⟨bytesI_inj ?_, by omega, ?_⟩
  · rw [bytesI_extract, List.drop_take, h, show a + s.size - a = (bytesI s).length by omega, List.take_left]
  · rw [← List.drop_drop, h, hs, List.drop_left]
theorem drop_none {n : ByteArray} {a : Nat} (h : (bytesI n).drop a = []) : n.size ≤ a := by
  rw [size_bytes]; exact List.drop_eq_nil_iff.1 h
theorem okLs_cons {s : ByteArray} {ls : List ByteArray} : okLs (s :: ls) ↔ (1 ≤ s.size ∧ s.size ≤ 63) ∧ okLs ls := by
  simp [okLs]
theorem eachAt_end {n : ByteArray} {a : Nat} (h : endR ((bytesI n).drop a)) (f : Nat) : eachAt n f a = ([], (a : Int)) := by
  cases f with
  | zero => rfl
  | succ f =>
    rw [eachAt, if_neg]
    rcases h with h | ⟨r, h⟩
    · have := drop_none h; omega
    · have := (drop_byte h).2.1; simp [this]
theorem eachAt_enc {n : ByteArray} {rest : List Int} (hr : endR rest) : ∀ (ls : List ByteArray) (a f : Nat), okLs ls → (bytesI n).drop a = encB ls ++ rest → ls.length ≤ f →
    eachAt n f a = (starts a ls, ((a + (encB ls).length : Nat) : Int)) := by
  intro ls
  induction ls with
  | nil =>
    intro a f _ h _
    exact eachAt_end (by rw [h]; exact hr) f
  | cons s ls ih =>
    intro a f hok h hf
    obtain ⟨hs, hok⟩ := okLs_cons.1 hok
    obtain ⟨f, rfl⟩ : ∃ g, f = g + 1 := ⟨f - 1, by simp at hf; omega⟩
    rw [encB_cons] at h
    simp only [List.cons_append, List.append_assoc] at h
    obtain ⟨h1, h2, h3⟩ := drop_byte h
    obtain ⟨h4, h5, h6⟩ := drop_app h3
    rw [eachAt, if_pos ⟨h1, by rw [h2]; omega⟩, h2, if_neg (by omega)]
    have := ih (a + 1 + s.size) f hok (by rw [← h6]) (by simp at hf; omega)
    simp only [Int.toNat_natCast]
    rw [this, h4, starts, encB_cons]
    congr 2
    simp only [List.length_append, List.length_cons, ← size_bytes]
    omega
theorem eachAt_any {n : ByteArray} : ∀ (f a : Nat), n.size ≤ a + f → a ≤ n.size → (eachAt n f a).2 = -1 ∨ ∃ ls rest, okLs ls ∧ (bytesI n).drop a = encB ls ++ rest ∧ endR rest := by
  intro f
  induction f with
  | zero =>
    intro a h1 h2
    exact .inr ⟨[], [], (fun _ h => by cases h), by rw [List.drop_of_length_le (by rw [← size_bytes]; omega)]; rfl, .inl rfl⟩
  | succ f ih =>
    intro a h1 h2
    rw [eachAt]
    by_cases hc : a < n.size ∧ byteAt n a ≠ 0
    · rw [if_pos hc]
      by_cases hb : 63 < byteAt n a ∨ n.size < a + 1 + (byteAt n a).toNat
      · rw [if_pos hb]; exact .inl rfl
      · rw [if_neg hb]
        have hr := byteAt_lt n a
        rcases ih (a + 1 + (byteAt n a).toNat) (by omega) (by omega) with h | ⟨ls, rest, h3, h4, h5⟩
        · exact .inl h
        · have hsz : (n.extract (a + 1) (a + 1 + (byteAt n a).toNat)).size = (byteAt n a).toNat := by
            rw [ByteArray.size_extract]; omega
          refine .inr ⟨n.extract (a + 1) (a + 1 + (byteAt n a).toNat) :: ls, rest, okLs_cons.2 ⟨by rw [hsz]; omega, h3⟩, ?_, h5⟩
          have hl : a < (bytesI n).length := by rw [← size_bytes]; exact hc.1
          rw [List.drop_eq_getElem_cons hl, bytesI_get n a hc.1, encB_cons, hsz, bytesI_extract]
          simp only [List.cons_append, List.append_assoc]
          have h6 : (bytesI n).drop (a + 1 + (byteAt n a).toNat) = ((bytesI n).drop (a + 1)).drop (byteAt n a).toNat := by rw [List.drop_drop]
          rw [← h4, List.drop_take, h6, show a + 1 + (byteAt n a).toNat - (a + 1) = (byteAt n a).toNat by omega, List.take_append_drop]
          congr 1
          omega
    · rw [if_neg hc]
      refine .inr ⟨[], (bytesI n).drop a, (fun _ h => by cases h), rfl, ?_⟩
      by_cases ha : a < n.size
      · have hl : a < (bytesI n).length := by rw [← size_bytes]; exact ha
        have : byteAt n a = 0 := Classical.byContradiction fun h => hc ⟨ha, h⟩
        rw [List.drop_eq_getElem_cons hl, bytesI_get n a ha, this]
        exact .inr ⟨_, rfl⟩
      · rw [List.drop_of_length_le (by rw [← size_bytes]; omega)]; exact .inl rfl
theorem nm_size {n : ByteArray} {ls : List ByteArray} (h : Nm n ls) : n.size = (encB ls).length + 1 := by
  rw [size_bytes, h.2]; simp
theorem len_enc (ls : List ByteArray) : ls.length ≤ (encB ls).length := by
  induction ls with
  | nil => simp
  | cons s ls ih => rw [encB_cons]; simp; omega
theorem each_nm {n : ByteArray} {ls : List ByteArray} (h : Nm n ls) : eachP n = (starts 0 ls, (n.size : Int) - 1) := by
  have hl := len_enc ls
  have hs := nm_size h
  rw [eachP, eachAt_enc (rest := [0]) (.inr ⟨[], rfl⟩) ls 0 n.size h.1 (by rw [List.drop_zero, h.2]) (by omega)]
  congr 1
  omega
theorem each_no {n : ByteArray} (h : ¬ ∃ ls, Nm n ls) : (eachP n).2 ≠ (n.size : Int) - 1 ∨ (eachP n).2 < 0 := by
  rcases eachAt_any (n := n) n.size 0 (by omega) (by omega) with h1 | ⟨ls, rest, h1, h2, h3⟩
  · rw [eachP, h1]; exact .inr (by omega)
  · left
    have hl := len_enc ls
    have hlen := congrArg List.length h2
    rw [List.drop_zero, ← size_bytes, List.length_append] at hlen
    rw [eachP, eachAt_enc h3 ls 0 n.size h1 h2 (by omega)]
    intro hc
    refine h ⟨ls, h1, ?_⟩
    rw [List.drop_zero] at h2
    rw [h2]
    congr 1
    simp only at hc
    rcases h3 with rfl | ⟨r, rfl⟩
    · simp at hlen; omega
    · simp only [List.length_cons] at hlen
      rw [List.length_eq_zero_iff.1 (by omega : r.length = 0)]
theorem starts_snd (a : Nat) (ls : List ByteArray) : (starts a ls).map Prod.snd = ls := by
  induction ls generalizing a with
  | nil => rfl
  | cons s ls ih => simp [starts, ih]
theorem starts_len (a : Nat) (ls : List ByteArray) : (starts a ls).length = ls.length := by rw [← List.length_map (f := Prod.snd), starts_snd]
theorem nm_inj {n : ByteArray} {a b : List ByteArray} (h : Nm n a) (h' : Nm n b) : a = b := by
  have := (each_nm h).symm.trans (each_nm h')
  injection this with h1 _
  have := congrArg (List.map Prod.snd) h1
  rwa [starts_snd, starts_snd] at this
/-- The name that labels make. -/
def mkN (ls : List ByteArray) : ByteArray := strOfNums (encB ls ++ [0])
theorem mkN_nm {ls : List ByteArray} (h : okLs ls) : Nm (mkN ls) ls := ⟨h, by
  rw [mkN, bytesI_str]
  intro x hx
  rcases List.mem_append.1 hx with hx | hx
  · exact encB_range h x hx
  · simp only [List.mem_singleton] at hx; omega⟩
theorem nm_mk {n : ByteArray} {ls : List ByteArray} (h : Nm n ls) : n = mkN ls := bytesI_inj (by rw [h.2, (mkN_nm h.1).2])
theorem nm_eq {n m : ByteArray} {ls : List ByteArray} (h : Nm n ls) (h' : Nm m ls) : n = m := (nm_mk h).trans (nm_mk h').symm
theorem take_snoc (s : ByteArray) {k : Nat} (h : k < s.size) : (bytesI s).take (k + 1) = (bytesI s).take k ++ [byteAt s k] := by
  rw [List.take_succ_eq_append_getElem (by rw [← size_bytes]; exact h), bytesI_get s k h]
open Go.RowKit
theorem eachM_of {n : ByteArray} (hs : n.size ≤ 1099511627776) : eachM n = some (eachP n) := if_pos hs
theorem labels_nm {n : ByteArray} {ls : List ByteArray} (h : Nm n ls) (hs : n.size ≤ 255) : m_name_Labels n = some (ls, 0) := by
  have := nm_size h
  rw [m_name_Labels, eachM_of (by omega), Option.bind_some, each_nm h, w64_id (by omega) (by omega), if_neg (fun h => h rfl), if_neg (by omega), if_neg (by omega), starts_snd]
theorem labels_big {n : ByteArray} {ls : List ByteArray} (h : Nm n ls) (hs : 255 < n.size) (hb : n.size ≤ 1099511627776) : m_name_Labels n = some ([], 11) := by
  rw [m_name_Labels, eachM_of (by omega), Option.bind_some, each_nm h, w64_id (by omega) (by omega), if_neg (fun h => h rfl), if_neg (by omega), if_pos (by omega)]
theorem labels_no {n : ByteArray} (h : ¬ ∃ ls, Nm n ls) (hb : n.size ≤ 1099511627776) : m_name_Labels n = some ([], 10) := by
  rw [m_name_Labels, eachM_of (by omega), Option.bind_some, w64_id (by omega) (by omega)]
  rcases each_no h with h | h
  · rw [if_pos h]
  · rw [if_pos h]
    split <;> rfl
theorem check_nm {n : ByteArray} {ls : List ByteArray} (h : Nm n ls) (hs : n.size ≤ 255) : m_name_Check n = some 0 := by
  rw [m_name_Check, labels_nm h hs]; rfl
theorem check_big {n : ByteArray} {ls : List ByteArray} (h : Nm n ls) (hs : 255 < n.size) (hb : n.size ≤ 1099511627776) : m_name_Check n = some 11 := by
  rw [m_name_Check, labels_big h hs hb]; rfl
theorem check_no {n : ByteArray} (h : ¬ ∃ ls, Nm n ls) (hb : n.size ≤ 1099511627776) : m_name_Check n = some 10 := by
  rw [m_name_Check, labels_no h hb]; rfl
theorem nm_cases (n : ByteArray) : (∃ ls, Nm n ls ∧ n.size ≤ 255) ∨ (∃ ls, Nm n ls ∧ 255 < n.size) ∨ ¬ ∃ ls, Nm n ls := by
  by_cases h : ∃ ls, Nm n ls
  · obtain ⟨ls, h⟩ := h
    by_cases hs : n.size ≤ 255
    · exact .inl ⟨ls, h, hs⟩
    · exact .inr (.inl ⟨ls, h, by omega⟩)
  · exact .inr (.inr h)
/-- What labels make. -/
def mkF (ls : List ByteArray) : ByteArray × Int := if okLs ls then (if (encB ls).length ≤ 254 then (mkN ls, 0) else (⟨#[]⟩, 11)) else (⟨#[]⟩, 10)
theorem size_nil {s : ByteArray} : s = (⟨#[]⟩ : ByteArray) ↔ s.size = 0 := by
  constructor
  · rintro rfl; rfl
  · intro h
    apply bytesI_inj
    have : (bytesI s).length = 0 := by rw [← size_bytes]; exact h
    rw [List.length_eq_zero_iff.1 this]; rfl
theorem make_loop {p0 : List ByteArray} (hl : p0.length ≤ 1099511627776) : ∀ (rest pre : List ByteArray) (b : List Int) (z : Int), p0 = pre ++ rest → b.length ≤ 255 →
    z = min ((encB pre).length + 1 : Int) 256 → (z ≤ 255 → b = encB pre) →
    ∃ o, loop (fun s => m_name_Make_s2 p0 s.1 s.2.1 s.2.2) (b, z, (pre.length : Int)) = some o ∧
      (¬ okLs rest → o = .inr (⟨#[]⟩, 10)) ∧ (okLs rest → ∃ b', o = .inl (b', min ((encB p0).length + 1 : Int) 256) ∧ ((encB p0).length ≤ 254 → b' = encB p0)) := by
  intro rest
  induction rest with
  | nil =>
    intro pre b z hp hb hz hI
    rw [List.append_nil] at hp
    subst hp
    subst hz
    refine ⟨.inl (b, _), loop_inr (by simp only [m_name_Make_s2]; rw [if_neg (by omega)]), fun h => absurd (fun _ h => by cases h) h, fun _ => ⟨b, rfl, fun h => hI (by omega)⟩⟩
  | cons x rest ih =>
    intro pre b z hp hb hz hI
    have hlen : p0.length = pre.length + (rest.length + 1) := by rw [hp]; simp
    have hat : at_ p0 (pre.length : Int) = some x := by
      rw [at_nat (by omega)]
      simp [hp]
    have hst := m_name_Make_s2.eq_def p0 b z (pre.length : Int)
    rw [if_pos (by omega), hat, Option.bind_some] at hst
    by_cases h1 : x.size = 0
    · rw [if_pos (size_nil.2 h1)] at hst
      refine ⟨_, loop_inr hst, fun _ => rfl, fun h => ?_⟩
      have := (okLs_cons.1 h).1; omega
    rw [if_neg (fun h => h1 (size_nil.1 h))] at hst
    by_cases h2 : 63 < x.size
    · rw [if_pos (by omega)] at hst
      refine ⟨_, loop_inr hst, fun _ => rfl, fun h => ?_⟩
      have := (okLs_cons.1 h).1; omega
    rw [if_neg (by omega)] at hst
    have hp' : p0 = (pre ++ [x]) ++ rest := by rw [hp]; simp
    have hencE : encB (pre ++ [x]) = encB pre ++ [(x.size : Int)] ++ bytesI x := by rw [encB_append, encB_cons]; simp [encB]
    have henc : (encB (pre ++ [x])).length = (encB pre).length + 1 + x.size := by rw [hencE]; simp [← size_bytes]; omega
    have hok : okLs (x :: rest) ↔ okLs rest := by rw [okLs_cons]; exact ⟨fun h => h.2, fun h => ⟨by omega, h⟩⟩
    have hw : w64 ((pre.length : Int) + 1) = (((pre ++ [x]).length : Nat) : Int) := by rw [w64_id (by omega) (by omega)]; simp
    rw [hok]
    have hxb := size_bytes x
    rw [w64_id (x := z + 1) (by omega) (by omega), w64_id (x := z + 1 + (x.size : Int)) (by omega) (by omega), hw] at hst
    have hz' : min (z + 1 + (x.size : Int)) 256 = min ((encB (pre ++ [x])).length + 1 : Int) 256 := by rw [hz, henc]; omega
    rw [hz'] at hst
    by_cases h3 : min ((encB (pre ++ [x])).length + 1 : Int) 256 ≤ 255
    · have hI := hI (by omega)
      rw [if_pos h3, wrapu8 (by omega) (by omega), app_of (by simp; omega), Option.bind_some, app_of (by simp; omega), Option.bind_some] at hst
      rw [loop_inl hst]
      refine ih (pre ++ [x]) _ _ hp' ?_ rfl (fun _ => by rw [hencE, hI])
      subst hI
      rw [← hencE]; omega
    · rw [if_neg h3] at hst
      rw [loop_inl hst]
      exact ih (pre ++ [x]) b _ hp' hb rfl (fun h => absurd h h3)
theorem make_eq {ls : List ByteArray} (hl : ls.length ≤ 1099511627776) : m_name_Make ls = some (mkF ls) := by
  obtain ⟨o, h1, h2, h3⟩ := make_loop hl ls [] [] 1 rfl (by simp) rfl (fun _ => rfl)
  rw [m_name_Make]
  erw [h1]
  rw [mkF]
  by_cases h : okLs ls
  · obtain ⟨b, rfl, hb⟩ := h3 h
    rw [if_pos h]
    simp only [Option.bind_some, Sum.elim_inl, m_name_Make_j1]
    by_cases h4 : (encB ls).length ≤ 254
    · rw [if_pos h4, if_neg (by omega), hb h4, app_of (by simp; omega), Option.bind_some]; rfl
    · rw [if_neg h4, if_pos (by omega)]
  · rw [h2 h, if_neg h]; rfl
open Go.RowKit
theorem depth_nm {n : ByteArray} {ls : List ByteArray} (h : Nm n ls) (hs : n.size ≤ 255) : m_name_Depth n = some (ls.length : Int) := by
  rw [m_name_Depth, labels_nm h hs, Option.bind_some, if_neg (fun h => h rfl)]
def low (c : Int) : Int := if 65 ≤ c ∧ c ≤ 90 then c + 32 else c
def lowB (n : ByteArray) : ByteArray := strOfNums ((bytesI n).map low)
theorem low_range {c : Int} (h : 0 ≤ c ∧ c ≤ 255) : 0 ≤ low c ∧ low c ≤ 255 := by unfold low; split <;> omega
theorem lowB_bytes (n : ByteArray) : bytesI (lowB n) = (bytesI n).map low := bytesI_str (by
  intro x hx
  obtain ⟨y, hy, rfl⟩ := List.mem_map.1 hx
  exact low_range (bytesI_range n y hy))
theorem lowB_size (n : ByteArray) : (lowB n).size = n.size := by rw [size_bytes, lowB_bytes, List.length_map, ← size_bytes]
theorem or_low {c : Int} (h : 65 ≤ c ∧ c ≤ 90) : orI .u8 c 32 = c + 32 := by
  obtain ⟨k, hk⟩ := Int.eq_ofNat_of_zero_le (by omega : 0 ≤ c - 65)
  have hc : c = 65 + (k : Int) := by omega
  subst hc
  have : ∀ k : Fin 26, orI .u8 (65 + ((k.val : Nat) : Int)) 32 = 65 + ((k.val : Nat) : Int) + 32 := by decide +kernel
  exact this ⟨k, by omega⟩
/-- One byte after the other made small. -/
theorem low_loop (step : List Int → Int → Option ((List Int × Int) ⊕ List Int)) {n : ByteArray} (hn : n.size ≤ 1099511627776)
    (hs : ∀ (l : List Int) (k : Nat), l.length = n.size → step l (k : Int) = if k < n.size then some (.inl (l.set k (low (l.getD k 0)), ((k + 1 : Nat) : Int))) else some (.inr l)) :
    loop (fun s => step s.1 s.2) (bytesI n, 0) = some ((bytesI n).map low) := by
  have hl := size_bytes n
  refine loop_run (step := fun s => step s.1 s.2) n.size (fun k => (((bytesI n).take k).map low ++ (bytesI n).drop k, (k : Int))) _ (by simp) (fun k hk => ?_) ?_
  · rw [hs _ _ (by simp; omega), if_pos hk]
    congr 3
    have e1 : (bytesI n).drop k = (bytesI n)[k] :: (bytesI n).drop (k + 1) := List.drop_eq_getElem_cons (by omega)
    rw [e1, List.take_succ_eq_append_getElem (by omega), List.map_append]
    have hlen : (((bytesI n).take k).map low).length = k := by simp; omega
    rw [List.getD_eq_getElem?_getD, List.getElem?_append_right (by omega), hlen, Nat.sub_self, List.set_append_right _ _ (by omega), hlen, Nat.sub_self]
    simp only [List.set_cons_zero, List.getElem?_cons_zero, Option.getD_some, List.map_cons, List.map_nil, List.append_assoc, List.cons_append, List.nil_append]
  · rw [hs _ _ (by simp; omega), if_neg (by omega), List.take_of_length_le (by omega), List.drop_of_length_le (by omega), List.append_nil]
theorem at_getD0 {l : List Int} {k : Nat} (h : k < l.length) : at_ l (k : Int) = some (l.getD k 0) := by
  rw [at_nat h, List.getD_eq_getElem?_getD, List.getElem?_eq_getElem h]; rfl
theorem set_same (l : List Int) (k : Nat) (hk : k < l.length) : l.set k (l.getD k 0) = l := by
  rw [List.getD_eq_getElem?_getD, List.getElem?_eq_getElem hk]; simp
theorem lower_eq {n : ByteArray} (hn : n.size ≤ 1099511627776) : m_name_Lower n = some (lowB n) := by
  have hl := size_bytes n
  rw [m_name_Lower]
  erw [low_loop (m_name_Lower_s2 n) hn (fun l k hlen => ?_)]
  · rfl
  rw [m_name_Lower_s2]
  by_cases hk : k < n.size
  · rw [if_pos (by omega), if_pos hk, at_getD0 (by omega), Option.bind_some, Option.bind_some, w64_id (by omega) (by omega)]
    by_cases h1 : 65 ≤ l.getD k 0
    · rw [if_pos h1]
      by_cases h2 : l.getD k 0 ≤ 90
      · rw [if_pos h2, Option.bind_some, Option.bind_some, or_low ⟨h1, h2⟩, setAt, if_pos ⟨by omega, by omega⟩, Option.bind_some, low, if_pos ⟨h1, h2⟩]; rfl
      · rw [if_neg h2, low, if_neg (fun h => h2 h.2), set_same l k (by omega)]; rfl
    · rw [if_neg h1, low, if_neg (fun h => h1 h.1), set_same l k (by omega)]; rfl
  · rw [if_neg (by omega), if_neg hk]
theorem low_small {c : Int} (h : c ≤ 63) : low c = c := by unfold low; rw [if_neg (by omega)]
theorem encB_low {ls : List ByteArray} (h : okLs ls) : encB (ls.map lowB) = (encB ls).map low := by
  induction ls with
  | nil => rfl
  | cons s ls ih =>
    have := okLs_cons.1 h
    rw [List.map_cons, encB_cons, encB_cons, ih this.2, lowB_size, lowB_bytes, List.map_append, List.map_cons, low_small (by omega)]
theorem okLs_low {ls : List ByteArray} (h : okLs ls) : okLs (ls.map lowB) := by
  intro s hs
  obtain ⟨t, ht, rfl⟩ := List.mem_map.1 hs
  rw [lowB_size]; exact h t ht
theorem nm_low {n : ByteArray} {ls : List ByteArray} (h : Nm n ls) : Nm (lowB n) (ls.map lowB) := ⟨okLs_low h.1, by
  rw [lowB_bytes, h.2, List.map_append, encB_low h.1]; rfl⟩
/-- In place the other way round. -/
theorem rev_loop (l : List ByteArray) (hl : l.length ≤ 1099511627776) : m_slices_Reverse_24 l = some l.reverse := by
  obtain ⟨r, h1, rfl⟩ := loop_rule (step := fun s : List ByteArray × Int × Int => m_slices_Reverse_24_s2 s.1 s.2.1 s.2.2)
    (fun s => ∃ i j : Nat, s.2.1 = (i : Int) ∧ s.2.2 = (j : Int) - 1 ∧ i + j = l.length ∧ s.1.length = l.length ∧ i ≤ j + 1 ∧ ∀ t, t < l.length → s.1[t]? = if t < i ∨ j ≤ t then l[l.length - 1 - t]? else l[t]?)
    (fun s => (s.2.2 + 1 - s.2.1).toNat + 1) (fun r => r = l.reverse)
    (by
      rintro ⟨q, i', j'⟩ ⟨i, j, g1, g2, g3, g4, g5, g6⟩
      simp only at g1 g2 g4 g6
      subst g1 g2
      simp only
      rw [m_slices_Reverse_24_s2]
      by_cases hc : i + 1 < j
      · left
        have hj : (j : Int) - 1 = ((j - 1 : Nat) : Int) := by omega
        rw [if_pos (by omega), hj, at_nat (by omega), Option.bind_some, at_nat (by omega), Option.bind_some, Option.bind_some, setAt, if_pos ⟨by omega, by omega⟩, Option.bind_some, at_nat (by rw [List.length_set]; omega), Option.bind_some, setAt, if_pos ⟨by omega, by rw [List.length_set]; omega⟩, Option.bind_some, w64_id (by omega) (by omega), w64_id (by omega) (by omega)]
        refine ⟨_, rfl, ⟨i + 1, j - 1, by simp only; omega, rfl, by omega, by simp only [List.length_set]; omega, by omega, fun t ht => ?_⟩, by simp only; omega⟩
        have gi := g6 i (by omega)
        have gj := g6 (j - 1) (by omega)
        rw [if_neg (by omega)] at gi gj
        have ei : q[i]'(by omega) = l[i]'(by omega) := by
          have : some (q[i]'(by omega)) = some (l[i]'(by omega)) := by rw [← List.getElem?_eq_getElem, ← List.getElem?_eq_getElem]; exact gi
          injection this
        have ej : q[j - 1]'(by omega) = l[j - 1]'(by omega) := by
          have : some (q[j - 1]'(by omega)) = some (l[j - 1]'(by omega)) := by rw [← List.getElem?_eq_getElem, ← List.getElem?_eq_getElem]; exact gj
          injection this
        simp only [Int.toNat_natCast, List.getElem?_set, List.length_set]
        by_cases t1 : j - 1 = t
        · subst t1
          rw [if_pos rfl, if_pos (by omega), if_pos (by omega), show l.length - 1 - (j - 1) = i by omega, List.getElem?_eq_getElem (by omega), ei]
        · rw [if_neg t1]
          by_cases t2 : i = t
          · subst t2
            rw [if_pos rfl, if_pos (by omega), if_pos (by omega), show l.length - 1 - i = j - 1 by omega, List.getElem?_eq_getElem (by omega), ej]
          · rw [if_neg t2, g6 t ht]
            by_cases t3 : t < i ∨ j ≤ t
            · rw [if_pos t3, if_pos (by omega)]
            · rw [if_neg t3, if_neg (by omega)]
      · right
        refine ⟨q, by rw [if_neg (by omega)], ?_⟩
        apply List.ext_getElem?
        intro t
        by_cases ht : t < l.length
        · rw [List.getElem?_reverse ht, g6 t ht]
          by_cases t3 : t < i ∨ j ≤ t
          · rw [if_pos t3]
          · rw [if_neg t3]; congr 1; omega
        · rw [List.getElem?_eq_none (by omega), List.getElem?_eq_none (by simp; omega)])
    (s0 := (l, 0, (l.length : Int) - 1)) ⟨0, l.length, rfl, rfl, by omega, rfl, by omega, fun t ht => by rw [if_neg (by omega)]⟩
  rw [m_slices_Reverse_24, w64_id (by omega) (by omega)]
  erw [h1]
  rfl
/-- A name's labels with small letters, the last one ahead. -/
def revL (ls : List ByteArray) : List ByteArray := (ls.map lowB).reverse
theorem revL_len (ls : List ByteArray) : (revL ls).length = ls.length := by simp [revL]
theorem nm_few {n : ByteArray} {ls : List ByteArray} (h : Nm n ls) (hs : n.size ≤ 255) : ls.length ≤ 254 := by
  have := len_enc ls; have := nm_size h; omega
theorem two_nm {a b : ByteArray} {x y : List ByteArray} (h : Nm a x) (hs : a.size ≤ 255) (h' : Nm b y) (hs' : b.size ≤ 255) : m_name_two a b = some (revL x, revL y, true) := by
  have := nm_few h hs
  have := nm_few h' hs'
  rw [m_name_two, lower_eq (by omega), Option.bind_some, labels_nm (nm_low h) (by rw [lowB_size]; exact hs), Option.bind_some, lower_eq (by omega), Option.bind_some, labels_nm (nm_low h') (by rw [lowB_size]; exact hs'), Option.bind_some, rev_loop _ (by simp; omega), Option.bind_some, rev_loop _ (by simp; omega), Option.bind_some, if_pos rfl]
  rfl
/-- It is a name of 255 bytes at most. -/
def isNm (n : ByteArray) : Prop := ∃ ls, Nm n ls ∧ n.size ≤ 255
/-- How many are alike ahead. -/
def cpl : List ByteArray → List ByteArray → Nat
  | x :: xs, y :: ys => if x = y then cpl xs ys + 1 else 0
  | _, _ => 0
theorem cpl_le : ∀ (x y : List ByteArray), cpl x y ≤ x.length ∧ cpl x y ≤ y.length
  | [], y => by simp [cpl]
  | x :: xs, [] => by simp [cpl]
  | x :: xs, y :: ys => by
    have := cpl_le xs ys
    rw [cpl]; split <;> simp <;> omega
theorem cpl_lt : ∀ (x y : List ByteArray) (k : Nat), k < cpl x y → x[k]? = y[k]? ∧ k < x.length ∧ k < y.length
  | [], y, k, h => by simp [cpl] at h
  | x :: xs, [], k, h => by simp [cpl] at h
  | x :: xs, y :: ys, k, h => by
    rw [cpl] at h
    split at h
    · rename_i hxy
      cases k with
      | zero => subst hxy; simp
      | succ k =>
        have := cpl_lt xs ys k (by omega)
        simpa using this
    · omega
theorem cpl_end : ∀ (x y : List ByteArray), cpl x y < x.length → cpl x y < y.length → x[cpl x y]? ≠ y[cpl x y]?
  | [], y, h, _ => by simp at h
  | x :: xs, [], _, h => by simp at h
  | x :: xs, y :: ys, h1, h2 => by
    rw [cpl] at h1 h2 ⊢
    split
    · rename_i hxy
      rw [if_pos hxy] at h1 h2
      have := cpl_end xs ys (by simpa using h1) (by simpa using h2)
      simpa using this
    · rename_i hxy
      simpa using hxy
theorem shared_nm {a b : ByteArray} {x y : List ByteArray} (h : Nm a x) (hs : a.size ≤ 255) (h' : Nm b y) (hs' : b.size ≤ 255) : m_name_Shared a b = some (cpl (revL x) (revL y) : Int) := by
  have f1 := nm_few h hs
  have f2 := nm_few h' hs'
  have g1 := revL_len x
  have g2 := revL_len y
  have hle := cpl_le (revL x) (revL y)
  have := loop_run (step := fun s => m_name_Shared_s2 (revL x) (revL y) s) (cpl (revL x) (revL y)) (fun k => (k : Int)) ((cpl (revL x) (revL y) : Nat) : Int) (s0 := 0) rfl
    (fun k hk => by
      obtain ⟨e1, e2, e3⟩ := cpl_lt _ _ k hk
      rw [List.getElem?_eq_getElem e2, List.getElem?_eq_getElem e3] at e1
      injection e1 with e1
      simp only [m_name_Shared_s2, m_name_Shared_c1]
      rw [if_pos (by omega), if_pos (by omega), at_nat e2, Option.bind_some, at_nat e3, Option.bind_some, Option.bind_some, if_pos (decide_eq_true e1), w64_id (by omega) (by omega)]
      rfl)
    (by
      simp only [m_name_Shared_s2, m_name_Shared_c1]
      by_cases c1 : cpl (revL x) (revL y) < (revL x).length
      · rw [if_pos (by omega)]
        by_cases c2 : cpl (revL x) (revL y) < (revL y).length
        · have hne := cpl_end _ _ c1 c2
          rw [List.getElem?_eq_getElem c1, List.getElem?_eq_getElem c2] at hne
          rw [if_pos (by omega), at_nat c1, Option.bind_some, at_nat c2, Option.bind_some, Option.bind_some, if_neg]
          intro hd
          exact hne (congrArg some (of_decide_eq_true hd))
        · rw [if_neg (by omega)]; rfl
      · rw [if_neg (by omega)]; rfl)
  rw [m_name_Shared, two_nm h hs h' hs', Option.bind_some, if_pos rfl]
  erw [this]
  rfl
theorem under_nm {a b : ByteArray} {x y : List ByteArray} (h : Nm a x) (hs : a.size ≤ 255) (h' : Nm b y) (hs' : b.size ≤ 255) : m_name_Under a b = some (decide (cpl (revL x) (revL y) = y.length)) := by
  rw [m_name_Under, depth_nm h' hs', Option.bind_some, if_pos (by omega), shared_nm h hs h' hs', Option.bind_some]
  congr 1
  exact decide_eq_decide.2 (by omega)
theorem starts_at : ∀ (ls : List ByteArray) (a k : Nat), k < ls.length → (starts a ls)[k]? = some (((a + (encB (ls.take k)).length : Nat) : Int), ls.getD k ⟨#[]⟩)
  | [], a, k, h => by simp at h
  | s :: ls, a, 0, h => by simp [starts, encB]
  | s :: ls, a, k + 1, h => by
    rw [starts, List.getElem?_cons_succ, starts_at ls _ k (by simpa using h), List.take_succ_cons, encB_cons]
    simp [← size_bytes]
    omega
theorem cut_drop {n : ByteArray} {ls : List ByteArray} (h : Nm n ls) (k : Nat) : n.extract ((encB (ls.take k)).length) n.size = mkN (ls.drop k) := by
  have hok : okLs (ls.drop k) := fun s hs => h.1 s (List.mem_of_mem_drop hs)
  refine bytesI_inj ?_
  rw [bytesI_extract, size_bytes n, List.take_length, (mkN_nm hok).2, h.2]
  have : encB ls = encB (ls.take k) ++ encB (ls.drop k) := by rw [← encB_append, List.take_append_drop]
  rw [this, List.append_assoc, List.drop_left]
/-- The last labels of a name. -/
def lastL (ls : List ByteArray) (d : Int) : List ByteArray := if (ls.length : Int) ≤ d then ls else ls.drop (ls.length - d.toNat)
theorem cut_nm {n : ByteArray} {ls : List ByteArray} (h : Nm n ls) (hs : n.size ≤ 255) {d : Int} (hd : -9223372036854775808 ≤ d ∧ d ≤ 9223372036854775807) : m_name_Cut n d = some (mkN (lastL ls d)) := by
  have hf := nm_few h hs
  have hsz := nm_size h
  have hL : ((eachP n).1.map Prod.fst).length = ls.length := by rw [each_nm h, List.length_map, starts_len]
  rw [m_name_Cut, eachM_of (by omega), Option.bind_some, check_nm h hs, Option.bind_some, if_neg (fun h => h rfl), hL, lastL]
  by_cases c1 : (ls.length : Int) ≤ d
  · rw [if_pos c1, if_pos c1, ← nm_mk h]
  rw [if_neg c1, if_neg c1]
  by_cases c2 : d < 1
  · have hd0 : d.toNat = 0 := by omega
    have hc := cut_drop h ls.length
    rw [List.take_length, List.drop_length] at hc
    rw [if_pos c2, each_nm h, scutLo, if_pos ⟨by simp only; omega, by simp only; omega⟩, Option.bind_some, hd0, Nat.sub_zero, List.drop_length, ← hc]
    congr 2
    simp only; omega
  · rw [if_neg c2, w64_id (by omega) (by omega), show (ls.length : Int) - d = ((ls.length - d.toNat : Nat) : Int) by omega]
    have hat : at_ ((eachP n).1.map Prod.fst) ((ls.length - d.toNat : Nat) : Int) = some (((encB (ls.take (ls.length - d.toNat))).length : Nat) : Int) := by
      rw [at_, if_pos (by omega), each_nm h, List.getElem?_map, Int.toNat_natCast, starts_at ls 0 _ (by omega)]
      simp
    have hle : (encB (ls.take (ls.length - d.toNat))).length ≤ (encB ls).length := by
      have : encB ls = encB (ls.take (ls.length - d.toNat)) ++ encB (ls.drop (ls.length - d.toNat)) := by rw [← encB_append, List.take_append_drop]
      rw [this, List.length_append]; omega
    rw [hat, Option.bind_some, scutLo, if_pos ⟨by omega, by omega⟩, Option.bind_some, Int.toNat_natCast, cut_drop h]
open Go.RowKit
def escB (c : Int) : List Int := if c = 46 ∨ c = 92 then [92, c] else if c < 33 ∨ 126 < c then [92, 48 + c / 100, 48 + c / 10 % 10, 48 + c % 10] else [c]
def textB (ls : List ByteArray) : List Int := ls.flatMap fun s => (bytesI s).flatMap escB ++ [46]
theorem escB_range {c : Int} (h : 0 ≤ c ∧ c ≤ 255) : ∀ x ∈ escB c, 0 ≤ x ∧ x ≤ 255 := by
  intro x hx
  unfold escB at hx
  split at hx
  · simp only [List.mem_cons, List.not_mem_nil, or_false] at hx; omega
  · split at hx <;> simp only [List.mem_cons, List.not_mem_nil, or_false] at hx <;> omega
theorem escB_len (c : Int) : 1 ≤ (escB c).length ∧ (escB c).length ≤ 4 := by
  unfold escB; split
  · simp
  · split <;> simp
theorem fm_esc_len (l : List Int) : (l.flatMap escB).length ≤ 4 * l.length := by
  induction l with
  | nil => simp
  | cons c l ih => have := escB_len c; simp only [List.flatMap_cons, List.length_append, List.length_cons]; omega
theorem text_step {x : ByteArray} (hx : x.size ≤ 1099511627776) {l : List Int} {k : Nat} (hk : k < x.size) (hl : l.length ≤ 1099511627776) : m_name_Text_s4 x l (k : Int) = some (.inl (l ++ escB (byteAt x k), ((k + 1 : Nat) : Int))) := by
  have hb := byteAt_lt x k
  rw [m_name_Text_s4, if_pos (by omega), sat_of (by omega) (by omega), Option.bind_some, w64_id (by omega) (by omega)]
  generalize byteAt x k = c at hb
  rw [escB]
  by_cases h1 : c = 46
  · rw [if_pos h1, if_pos (.inl h1), app_of (by simp; omega), Option.bind_some, app_of (by simp; omega), Option.bind_some]; simp
  rw [if_neg h1]
  by_cases h2 : c = 92
  · rw [if_pos h2, if_pos (.inr h2), app_of (by simp; omega), Option.bind_some, app_of (by simp; omega), Option.bind_some]; simp
  rw [if_neg h2, if_neg (show ¬ (c = 46 ∨ c = 92) from fun h => h.elim h1 h2), Int.tdiv_eq_ediv_of_nonneg hb.1, Int.tdiv_eq_ediv_of_nonneg hb.1, Int.tmod_eq_emod_of_nonneg hb.1, wrapu8 (x := c / 100) (by omega) (by omega), wrapu8 (x := c / 10) (by omega) (by omega), Int.tmod_eq_emod_of_nonneg (by omega),
    wrapu8 (x := 48 + c / 100) (by omega) (by omega), wrapu8 (x := 48 + c / 10 % 10) (by omega) (by omega), wrapu8 (x := 48 + c % 10) (by omega) (by omega)]
  by_cases h3 : c < 33
  · rw [if_pos h3, if_pos (.inl h3), app_of (by simp; omega), Option.bind_some, app_of (by simp; omega), Option.bind_some, app_of (by simp; omega), Option.bind_some, app_of (by simp; omega), Option.bind_some]; simp
  rw [if_neg h3]
  by_cases h4 : 126 < c
  · rw [if_pos h4, if_pos (.inr h4), app_of (by simp; omega), Option.bind_some, app_of (by simp; omega), Option.bind_some, app_of (by simp; omega), Option.bind_some, app_of (by simp; omega), Option.bind_some]; simp
  rw [if_neg h4, if_neg (show ¬ (c < 33 ∨ 126 < c) from fun h => h.elim h3 h4), app_of (by simp; omega), Option.bind_some]; rfl
theorem text_label {x : ByteArray} (hx : x.size ≤ 1000) {l : List Int} (hl : l.length ≤ 1000000000) : loop (fun s => m_name_Text_s4 x s.1 s.2) (l, 0) = some (l ++ (bytesI x).flatMap escB) := by
  have hs := size_bytes x
  refine loop_run (step := fun s => m_name_Text_s4 x s.1 s.2) x.size (fun k => (l ++ ((bytesI x).take k).flatMap escB, (k : Int))) _ (by simp) (fun k hk => ?_) ?_
  · have := fm_esc_len ((bytesI x).take k)
    rw [List.length_take] at this
    simp only
    rw [text_step (by omega) hk (by rw [List.length_append]; omega), take_snoc x hk, List.flatMap_append, List.append_assoc]
    simp
  · simp only [m_name_Text_s4]
    rw [if_neg (by omega), List.take_of_length_le (by omega)]
theorem textB_len {q : List ByteArray} (hok : okLs q) : (textB q).length ≤ 256 * q.length := by
  induction q with
  | nil => simp [textB]
  | cons s q ih =>
    have h1 := (okLs_cons.1 hok).1
    have h2 := ih (okLs_cons.1 hok).2
    have h3 := fm_esc_len (bytesI s)
    rw [← size_bytes] at h3
    rw [textB, List.flatMap_cons, List.length_append, List.length_append, ← textB]
    simp only [List.length_cons, List.length_nil]
    omega
theorem textB_snoc (q : List ByteArray) (x : ByteArray) : textB (q ++ [x]) = textB q ++ ((bytesI x).flatMap escB ++ [46]) := by
  rw [textB, List.flatMap_append, ← textB]; simp
theorem text_loop {ls : List ByteArray} (hok : okLs ls) (hl : ls.length ≤ 1000) : loop (fun s => m_name_Text_s2 ls s.1 s.2) ([], 0) = some (textB ls) := by
  refine loop_run (step := fun s => m_name_Text_s2 ls s.1 s.2) ls.length (fun k => (textB (ls.take k), (k : Int))) _ (by simp [textB]) (fun k hk => ?_) ?_
  · have h1 := textB_len (q := ls.take k) (fun s hs => hok s (List.mem_of_mem_take hs))
    have h2 := hok _ (List.getElem_mem hk)
    have h3 := fm_esc_len (bytesI ls[k])
    rw [← size_bytes] at h3
    rw [List.length_take] at h1
    simp only [m_name_Text_s2]
    rw [if_pos (by omega), at_nat hk, Option.bind_some, text_label (by omega) (by omega), Option.bind_some, m_name_Text_j3, app_of (by simp only [List.length_append, List.length_cons, List.length_nil]; omega), Option.bind_some, w64_id (by omega) (by omega), List.take_succ_eq_append_getElem hk, textB_snoc, List.append_assoc]
    rfl
  · simp only [m_name_Text_s2]
    rw [if_neg (by omega), List.take_length]
theorem textB_range (ls : List ByteArray) : ∀ x ∈ textB ls, 0 ≤ x ∧ x ≤ 255 := by
  intro x hx
  obtain ⟨s, _, hx⟩ := List.mem_flatMap.1 hx
  rcases List.mem_append.1 hx with hx | hx
  · obtain ⟨c, hc, hx⟩ := List.mem_flatMap.1 hx
    exact escB_range (bytesI_range s c hc) x hx
  · simp only [List.mem_singleton] at hx; omega
theorem text_nm {n : ByteArray} {ls : List ByteArray} (h : Nm n ls) (hs : n.size ≤ 255) : m_name_Text n = some (if ls = [] then ⟨#[46]⟩ else strOfNums (textB ls)) := by
  have hf := nm_few h hs
  rw [m_name_Text, labels_nm h hs, Option.bind_some, if_neg (fun h => h rfl)]
  by_cases hl : ls = []
  · subst hl; rfl
  · have hne : ls.length ≠ 0 := fun hc => hl (List.length_eq_zero_iff.1 hc)
    rw [if_neg (by simp only; omega), if_neg hl]
    erw [text_loop h.1 (by omega)]
    rw [Option.bind_some, m_name_Text_j1, bldS, if_pos]
    · rfl
    · refine ⟨fun hc => ?_, textB_range ls⟩
      cases ls with
      | nil => exact hl rfl
      | cons s ls => simp [textB] at hc
/-- What stands behind a backslash. -/
theorem octet_digits {s : ByteArray} {a b c : Int} {r : List Int} (hs : s.size ≤ 1099511627776) (h : bytesI s = (48 + a) :: (48 + b) :: (48 + c) :: r) (ha : 0 ≤ a ∧ a ≤ 9) (hb : 0 ≤ b ∧ b ≤ 9) (hc : 0 ≤ c ∧ c ≤ 9) (hv : 100 * a + 10 * b + c ≤ 255) :
    m_name_octet s = some (100 * a + 10 * b + c, 3, true) := by
  have hz : s.size = r.length + 3 := by rw [size_bytes, h]; simp
  have e0 : sat_ s 0 = some (48 + a) := by rw [sat_eq_at, h]; rfl
  have e1 : sat_ s 1 = some (48 + b) := by rw [sat_eq_at, h]; rfl
  have e2 : sat_ s 2 = some (48 + c) := by rw [sat_eq_at, h]; rfl
  have c0 : m_name_octet_c1 0 s = some (a, true) := by
    rw [m_name_octet_c1, if_neg (by omega), e0, Option.bind_some, if_neg (by omega), Option.bind_some, if_neg (by omega), Option.bind_some, show 48 + a - 48 = a by omega, wrapu8 (by omega) (by omega), w64_id (by omega) (by omega)]
  have c1 : m_name_octet_c1 1 s = some (b, true) := by
    rw [m_name_octet_c1, if_neg (by omega), e1, Option.bind_some, if_neg (by omega), Option.bind_some, if_neg (by omega), Option.bind_some, show 48 + b - 48 = b by omega, wrapu8 (by omega) (by omega), w64_id (by omega) (by omega)]
  have c2 : m_name_octet_c1 2 s = some (c, true) := by
    rw [m_name_octet_c1, if_neg (by omega), e2, Option.bind_some, if_neg (by omega), Option.bind_some, if_neg (by omega), Option.bind_some, show 48 + c - 48 = c by omega, wrapu8 (by omega) (by omega), w64_id (by omega) (by omega)]
  rw [m_name_octet, if_neg (fun hc => by rw [size_nil] at hc; omega), c0, Option.bind_some, if_pos rfl, c1, Option.bind_some, c2, Option.bind_some, if_pos rfl, if_pos rfl]
  simp only
  rw [w64_id (x := 100 * a) (by omega) (by omega), w64_id (x := 10 * b) (by omega) (by omega), w64_id (x := 100 * a + 10 * b) (by omega) (by omega), w64_id (x := 100 * a + 10 * b + c) (by omega) (by omega), wrapu8 (by omega) (by omega), decide_eq_true hv]
theorem parse_dot {p : ByteArray} (hp : p.size ≤ 1099511627) {i : Nat} {r now : List Int} {ls : List ByteArray} (h : (bytesI p).drop i = 46 :: r) (hn : now ≠ []) (hl : ls.length ≤ 1099511627) :
    m_name_Parse_s3 p now ls (i : Int) = some (.inl ([], ls ++ [strOfNums now], ((i + 1 : Nat) : Int))) := by
  obtain ⟨h1, h2, -⟩ := drop_byte h
  have hne : now.length ≠ 0 := fun hc => hn (List.length_eq_zero_iff.1 hc)
  rw [m_name_Parse_s3, if_pos (by omega), sat_of (by omega) (by omega), Option.bind_some, h2, if_pos rfl, if_neg (by omega), app_of (by simp; omega), Option.bind_some, w64_id (by omega) (by omega)]
  rfl
theorem parse_dot2 {p : ByteArray} (hp : p.size ≤ 1099511627) {i : Nat} {r : List Int} {ls : List ByteArray} (h : (bytesI p).drop i = 46 :: r) :
    m_name_Parse_s3 p [] ls (i : Int) = some (.inr (.inr (⟨#[]⟩, 10))) := by
  obtain ⟨h1, h2, -⟩ := drop_byte h
  rw [m_name_Parse_s3, if_pos (by omega), sat_of (by omega) (by omega), Option.bind_some, h2, if_pos rfl, if_pos (by simp)]
theorem parse_plain {p : ByteArray} (hp : p.size ≤ 1099511627) {i : Nat} {c : Int} {r now : List Int} {ls : List ByteArray} (h : (bytesI p).drop i = c :: r) (h46 : c ≠ 46) (h92 : c ≠ 92) (hn : now.length ≤ 1099511627776) :
    m_name_Parse_s3 p now ls (i : Int) = some (.inl (now ++ [c], ls, ((i + 1 : Nat) : Int))) := by
  obtain ⟨h1, h2, -⟩ := drop_byte h
  rw [m_name_Parse_s3, if_pos (by omega), sat_of (by omega) (by omega), Option.bind_some, h2, if_neg h46, if_neg h92, Option.bind_some, app_of (by simp; omega), Option.bind_some, w64_id (by omega) (by omega)]
  rfl
theorem parse_esc {p : ByteArray} (hp : p.size ≤ 1099511627) {i : Nat} {v : Int} {k : Nat} {r now : List Int} {ls : List ByteArray} (h : (bytesI p).drop i = 92 :: r) (hn : now.length ≤ 1099511627776) (hk : k ≤ 3)
    (ho : m_name_octet (p.extract (i + 1) p.size) = some (v, (k : Int), true)) : m_name_Parse_s3 p now ls (i : Int) = some (.inl (now ++ [v], ls, ((i + k + 1 : Nat) : Int))) := by
  obtain ⟨h1, h2, -⟩ := drop_byte h
  rw [m_name_Parse_s3, if_pos (by omega), sat_of (by omega) (by omega), Option.bind_some, h2, if_neg (by omega), if_pos rfl, w64_id (x := (i : Int) + 1) (by omega) (by omega), scutLo, if_pos ⟨by omega, by omega⟩, Option.bind_some, show ((i : Int) + 1).toNat = i + 1 by omega, ho, Option.bind_some, if_pos rfl, app_of (by simp; omega), Option.bind_some]
  simp only
  rw [w64_id (x := (i : Int) + k) (by omega) (by omega), w64_id (by omega) (by omega)]
  rfl
theorem awake03a : m_name_Parse (⟨#[97]⟩ : ByteArray) = some (⟨#[1, 97, 0]⟩, 0) := by
  have h1 := parse_plain (p := ⟨#[97]⟩) (by decide) (i := 0) (c := 97) (r := []) (now := []) (ls := []) (by decide +kernel) (by omega) (by omega) (by simp)
  rw [m_name_Parse, if_neg (by decide +kernel)]
  erw [loop_inl h1, loop_inr (show m_name_Parse_s3 ⟨#[97]⟩ ([] ++ [97]) [] ((0 + 1 : Nat) : Int) = some (.inr (.inl ([97], []))) by rw [m_name_Parse_s3, if_neg (by decide)]; rfl)]
  rw [Option.bind_some, Sum.elim_inl, m_name_Parse_j1, if_pos (by decide), app_of (by decide), Option.bind_some, m_name_Parse_j2, if_neg (by decide), make_eq (by decide)]
  decide +kernel
theorem awake03b : m_name_Parse (⟨#[97, 46, 46, 98]⟩ : ByteArray) = some (⟨#[]⟩, 10) := by
  have h1 := parse_plain (p := ⟨#[97, 46, 46, 98]⟩) (by decide) (i := 0) (c := 97) (r := [46, 46, 98]) (now := []) (ls := []) (by decide +kernel) (by omega) (by omega) (by simp)
  have h2 := parse_dot (p := ⟨#[97, 46, 46, 98]⟩) (by decide) (i := 0 + 1) (r := [46, 98]) (now := [] ++ [97]) (ls := []) (by decide +kernel) (by simp) (by simp)
  have h3 := parse_dot2 (p := ⟨#[97, 46, 46, 98]⟩) (by decide) (i := 0 + 1 + 1) (r := [98]) (ls := [] ++ [strOfNums ([] ++ [97])]) (by decide +kernel)
  rw [m_name_Parse, if_neg (by decide +kernel)]
  erw [loop_inl h1, loop_inl h2, loop_inr h3]
  rfl
theorem awake03c : m_name_Parse (⟨#[92, 48, 52, 54, 46, 98]⟩ : ByteArray) = some (⟨#[1, 46, 1, 98, 0]⟩, 0) := by
  have h0 := octet_digits (s := (⟨#[92, 48, 52, 54, 46, 98]⟩ : ByteArray).extract (0 + 1) (⟨#[92, 48, 52, 54, 46, 98]⟩ : ByteArray).size) (a := 0) (b := 4) (c := 6) (r := [46, 98]) (by decide +kernel) (by decide +kernel) (by omega) (by omega) (by omega) (by omega)
  have h1 := parse_esc (p := ⟨#[92, 48, 52, 54, 46, 98]⟩) (by decide) (i := 0) (v := 46) (k := 3) (r := [48, 52, 54, 46, 98]) (now := []) (ls := []) (by decide +kernel) (by simp) (by omega) h0
  have h2 := parse_dot (p := ⟨#[92, 48, 52, 54, 46, 98]⟩) (by decide) (i := 0 + 3 + 1) (r := [98]) (now := [] ++ [46]) (ls := []) (by decide +kernel) (by simp) (by simp)
  have h3 := parse_plain (p := ⟨#[92, 48, 52, 54, 46, 98]⟩) (by decide) (i := 0 + 3 + 1 + 1) (c := 98) (r := []) (now := []) (ls := [] ++ [strOfNums ([] ++ [46])]) (by decide +kernel) (by omega) (by omega) (by simp)
  rw [m_name_Parse, if_neg (by decide +kernel)]
  erw [loop_inl h1, loop_inl h2, loop_inl h3, loop_inr (show m_name_Parse_s3 ⟨#[92, 48, 52, 54, 46, 98]⟩ ([] ++ [98]) ([] ++ [strOfNums ([] ++ [46])]) ((0 + 3 + 1 + 1 + 1 : Nat) : Int) = some (.inr (.inl ([98], [⟨#[46]⟩]))) by rw [m_name_Parse_s3, if_neg (by decide)]; decide +kernel)]
  rw [Option.bind_some, Sum.elim_inl, m_name_Parse_j1, if_pos (by decide), app_of (by decide), Option.bind_some, m_name_Parse_j2, if_neg (by decide), make_eq (by decide)]
  decide +kernel
theorem wa_nm : Nm (⟨#[3, 119, 119, 119, 1, 97, 0]⟩ : ByteArray) [⟨#[119, 119, 119]⟩, ⟨#[97]⟩] := ⟨by decide +kernel, by decide +kernel⟩
theorem a_nm : Nm (⟨#[1, 97, 0]⟩ : ByteArray) [⟨#[97]⟩] := ⟨by decide +kernel, by decide +kernel⟩
theorem bA_nm : Nm (⟨#[1, 98, 1, 65, 0]⟩ : ByteArray) [⟨#[98]⟩, ⟨#[65]⟩] := ⟨by decide +kernel, by decide +kernel⟩
theorem db_nm : Nm (⟨#[1, 46, 1, 98, 0]⟩ : ByteArray) [⟨#[46]⟩, ⟨#[98]⟩] := ⟨by decide +kernel, by decide +kernel⟩
theorem root_nm : Nm (⟨#[0]⟩ : ByteArray) [] := ⟨by decide +kernel, by decide +kernel⟩
theorem awake03 : m_law03_awake = some true := by
  rw [m_law03_awake, make_eq (by decide), Option.bind_some, awake03a, Option.bind_some, awake03b, Option.bind_some, awake03c, Option.bind_some, labels_nm db_nm (by decide), Option.bind_some]
  have e1 : mkF [⟨#[119, 119, 119]⟩, ⟨#[97]⟩] = (⟨#[3, 119, 119, 119, 1, 97, 0]⟩, 0) := by decide +kernel
  rw [e1]
  simp only
  rw [if_pos (by trivial), if_pos (by trivial), text_nm wa_nm (by decide), Option.bind_some, if_pos (by decide +kernel), text_nm root_nm (by decide), Option.bind_some, if_pos (by trivial), if_pos (by trivial), if_pos (by trivial), under_nm wa_nm (by decide) a_nm (by decide), Option.bind_some, if_pos (by decide +kernel),
    shared_nm wa_nm (by decide) bA_nm (by decide), Option.bind_some, if_pos (by decide +kernel), cut_nm wa_nm (by decide) (by omega), Option.bind_some, if_pos (by decide +kernel), if_pos (by trivial), if_pos (by trivial), if_pos (by decide), at_of (by decide) (by decide), Option.bind_some, if_pos (by decide +kernel), depth_nm wa_nm (by decide)]
  rfl
open Go.RowKit
theorem lowB_iff {a b : ByteArray} {x y : List ByteArray} (h : Nm a x) (h' : Nm b y) : lowB a = lowB b ↔ revL x = revL y := by
  constructor
  · intro he
    have h1 := nm_low h
    rw [he] at h1
    rw [revL, nm_inj h1 (nm_low h')]; rfl
  · intro he
    have : x.map lowB = y.map lowB := List.reverse_inj.1 he
    refine nm_eq (nm_low h) ?_
    rw [this]; exact nm_low h'
theorem same_nm {a b : ByteArray} {x y : List ByteArray} (h : Nm a x) (hs : a.size ≤ 255) (h' : Nm b y) (hs' : b.size ≤ 255) : m_name_Same a b = some (decide (revL x = revL y)) := by
  rw [m_name_Same, check_nm h hs, Option.bind_some, if_pos rfl, lower_eq (by omega), Option.bind_some, lower_eq (by omega), Option.bind_some]
  exact congrArg some (decide_eq_decide.2 (lowB_iff h h'))
theorem check_not {n : ByteArray} (h : ¬ isNm n) (hb : n.size ≤ 1099511627776) : ∃ e, m_name_Check n = some e ∧ e ≠ 0 := by
  rcases nm_cases n with h1 | ⟨ls, h1, h2⟩ | h1
  · exact absurd h1 h
  · exact ⟨11, check_big h1 h2 hb, by omega⟩
  · exact ⟨10, check_no h1 hb, by omega⟩
theorem bless_irr (l : List UInt8) : Op.bytesLess l l = false := by
  induction l with
  | nil => rfl
  | cons x l ih => simp [Op.bytesLess, ih]
theorem sless_irr (a : ByteArray) : sless a a = false := bless_irr _
/-- One list ahead of the other one. -/
def lessR (X Y : List ByteArray) : Bool := if cpl X Y < X.length ∧ cpl X Y < Y.length then sless (X.getD (cpl X Y) ⟨#[]⟩) (Y.getD (cpl X Y) ⟨#[]⟩) else decide (X.length < Y.length)
theorem cmp_eq (a b : ByteArray) : m_cmp_Compare_25 a b = some (if sless a b = true then -1 else if a = b then 0 else 1) := by
  rw [m_cmp_Compare_25, m_cmp_isNaN_29, m_cmp_isNaN_29, Option.bind_some, Option.bind_some, if_neg (by simp), if_neg (by simp)]
  by_cases h1 : sless a b = true
  · rw [if_pos h1, if_pos h1]
  · rw [if_neg h1, if_neg h1]
    by_cases h2 : a = b
    · rw [if_pos h2, if_neg (by simp [h2])]
    · rw [if_neg h2, if_pos (by simp [h1, h2])]
theorem compare_eq {X Y : List ByteArray} (hX : X.length ≤ 1099511627776) (hY : Y.length ≤ 1099511627776) : ∃ v, m_slices_Compare_18 X Y = some v ∧ decide (v < 0) = lessR X Y := by
  have hle := cpl_le X Y
  have hgo : ∀ (k : Nat) (c1 : k < X.length) (c2 : k < Y.length), m_slices_Compare_18_s2 X Y (k : Int) = if X[k] = Y[k] then some (.inl ((k + 1 : Nat) : Int)) else some (.inr (.inr (if sless X[k] Y[k] = true then -1 else 1))) := by
    intro k c1 c2
    rw [m_slices_Compare_18_s2, if_pos (by omega), at_nat c1, Option.bind_some, if_neg (by omega), at_nat c2, Option.bind_some, cmp_eq, Option.bind_some, w64_id (by omega) (by omega)]
    by_cases h1 : X[k] = Y[k]
    · rw [h1, sless_irr]; simp
    · rw [if_neg h1]
      by_cases h2 : sless X[k] Y[k] = true
      · rw [if_pos h2]; simp [h1]
      · rw [if_neg h2, if_neg h1]; rfl
  have hrun : ∀ r, m_slices_Compare_18_s2 X Y ((cpl X Y : Nat) : Int) = some (.inr r) → loop (fun s => m_slices_Compare_18_s2 X Y s) 0 = some r := by
    intro r hr
    refine loop_run (step := fun s => m_slices_Compare_18_s2 X Y s) (cpl X Y) (fun k => (k : Int)) r rfl (fun k hk => ?_) hr
    obtain ⟨e1, e2, e3⟩ := cpl_lt _ _ k hk
    rw [List.getElem?_eq_getElem e2, List.getElem?_eq_getElem e3] at e1
    rw [hgo k e2 e3, if_pos (Option.some.inj e1)]
  by_cases c1 : cpl X Y < X.length
  · by_cases c2 : cpl X Y < Y.length
    · have hne := cpl_end _ _ c1 c2
      rw [List.getElem?_eq_getElem c1, List.getElem?_eq_getElem c2] at hne
      have := hrun _ (by rw [hgo _ c1 c2, if_neg (fun h => hne (congrArg some h))])
      refine ⟨if sless X[cpl X Y] Y[cpl X Y] = true then -1 else 1, ?_, ?_⟩
      · rw [m_slices_Compare_18]; erw [this]; rfl
      · rw [lessR, if_pos (show cpl X Y < X.length ∧ cpl X Y < Y.length from ⟨c1, c2⟩), List.getD_eq_getElem?_getD, List.getElem?_eq_getElem c1, List.getD_eq_getElem?_getD, List.getElem?_eq_getElem c2, Option.getD_some, Option.getD_some]
        cases h : sless X[cpl X Y] Y[cpl X Y] <;> simp
    · have := hrun (.inr 1) (by rw [m_slices_Compare_18_s2, if_pos (by omega), at_nat c1, Option.bind_some, if_pos (by omega)])
      refine ⟨1, ?_, ?_⟩
      · rw [m_slices_Compare_18]; erw [this]; rfl
      · rw [lessR, if_neg (show ¬ (cpl X Y < X.length ∧ cpl X Y < Y.length) from fun h => c2 h.2), decide_eq_false (by omega), decide_eq_false (by omega)]
  · have := hrun (.inl ()) (by rw [m_slices_Compare_18_s2, if_neg (by omega)])
    refine ⟨if X.length < Y.length then -1 else 0, ?_, ?_⟩
    · rw [m_slices_Compare_18]; erw [this]
      rw [Option.bind_some, Sum.elim_inl, m_slices_Compare_18_j1]
      by_cases c : X.length < Y.length
      · rw [if_pos (by omega), if_pos c]
      · rw [if_neg (by omega), if_neg c]
    · rw [lessR, if_neg (show ¬ (cpl X Y < X.length ∧ cpl X Y < Y.length) from fun h => c1 h.1)]
      by_cases c : X.length < Y.length
      · rw [if_pos c, decide_eq_true c]; rfl
      · rw [if_neg c, decide_eq_false c]; rfl
theorem less_nm {a b : ByteArray} {x y : List ByteArray} (h : Nm a x) (hs : a.size ≤ 255) (h' : Nm b y) (hs' : b.size ≤ 255) : m_name_Less a b = some (lessR (revL x) (revL y)) := by
  have f1 := nm_few h hs
  have f2 := nm_few h' hs'
  obtain ⟨v, h1, h2⟩ := compare_eq (X := revL x) (Y := revL y) (by rw [revL_len]; omega) (by rw [revL_len]; omega)
  rw [m_name_Less, two_nm h hs h' hs', Option.bind_some, if_pos rfl, h1, Option.bind_some, h2]
open Go.RowKit
theorem bl_tri : ∀ x y : List UInt8, Op.bytesLess x y = true ∨ x = y ∨ Op.bytesLess y x = true
  | [], [] => Or.inr (Or.inl rfl)
  | [], _ :: _ => Or.inl rfl
  | _ :: _, [] => Or.inr (Or.inr rfl)
  | a :: x, b :: y => by
    simp only [Op.bytesLess, Bool.or_eq_true, Bool.and_eq_true, decide_eq_true_eq, beq_iff_eq, List.cons.injEq]
    rcases bl_tri x y with h | h | h
    · rcases Nat.lt_trichotomy a.toNat b.toNat with g | g | g
      · exact Or.inl (Or.inl (UInt8.lt_iff_toNat_lt.2 g))
      · exact Or.inl (Or.inr ⟨UInt8.toNat_inj.1 g, h⟩)
      · exact Or.inr (Or.inr (Or.inl (UInt8.lt_iff_toNat_lt.2 g)))
    · rcases Nat.lt_trichotomy a.toNat b.toNat with g | g | g
      · exact Or.inl (Or.inl (UInt8.lt_iff_toNat_lt.2 g))
      · exact Or.inr (Or.inl ⟨UInt8.toNat_inj.1 g, h⟩)
      · exact Or.inr (Or.inr (Or.inl (UInt8.lt_iff_toNat_lt.2 g)))
    · rcases Nat.lt_trichotomy a.toNat b.toNat with g | g | g
      · exact Or.inl (Or.inl (UInt8.lt_iff_toNat_lt.2 g))
      · exact Or.inr (Or.inr (Or.inr ⟨(UInt8.toNat_inj.1 g).symm, h⟩))
      · exact Or.inr (Or.inr (Or.inl (UInt8.lt_iff_toNat_lt.2 g)))
theorem bl_trans : ∀ x y z : List UInt8, Op.bytesLess x y = true → Op.bytesLess y z = true → Op.bytesLess x z = true
  | _, _, [], _, h => by simp [Op.bytesLess] at h
  | _, [], _ :: _, h, _ => by simp [Op.bytesLess] at h
  | [], _ :: _, _ :: _, _, _ => rfl
  | a :: x, b :: y, c :: z, h1, h2 => by
    simp only [Op.bytesLess, Bool.or_eq_true, Bool.and_eq_true, decide_eq_true_eq, beq_iff_eq] at h1 h2 ⊢
    rcases h1 with h1 | ⟨rfl, h1⟩
    · rcases h2 with h2 | ⟨rfl, h2⟩
      · exact Or.inl (UInt8.lt_trans h1 h2)
      · exact Or.inl h1
    · rcases h2 with h2 | ⟨rfl, h2⟩
      · exact Or.inl h2
      · exact Or.inr ⟨rfl, bl_trans x y z h1 h2⟩
theorem ba_list {a b : ByteArray} : a.toList = b.toList ↔ a = b := by
  rw [ByteArray.toList_eq, ByteArray.toList_eq]
  constructor
  · intro h; cases a; cases b; simp only [ByteArray.mk.injEq]; exact Array.toList_inj.1 h
  · rintro rfl; rfl
theorem sl_tri (a b : ByteArray) : sless a b = true ∨ a = b ∨ sless b a = true := by
  rcases bl_tri a.toList b.toList with h | h | h
  · exact Or.inl h
  · exact Or.inr (Or.inl (ba_list.1 h))
  · exact Or.inr (Or.inr h)
theorem sl_trans {a b c : ByteArray} (h1 : sless a b = true) (h2 : sless b c = true) : sless a c = true := bl_trans _ _ _ h1 h2
def ltL : List ByteArray → List ByteArray → Bool
  | _, [] => false
  | [], _ :: _ => true
  | a :: x, b :: y => if a = b then ltL x y else sless a b
theorem lessR_eq : ∀ X Y : List ByteArray, lessR X Y = ltL X Y
  | [], [] => rfl
  | [], y :: ys => rfl
  | x :: xs, [] => by simp [lessR, cpl, ltL]
  | x :: xs, y :: ys => by
    have ih := lessR_eq xs ys
    rw [lessR] at ih ⊢
    rw [ltL, cpl]
    by_cases h : x = y
    · rw [if_pos h, if_pos h, ← ih]
      simp [h]
    · rw [if_neg h, if_neg h, if_pos ⟨by simp, by simp⟩]; rfl
theorem lt_irr : ∀ X : List ByteArray, ltL X X = false
  | [] => rfl
  | x :: xs => by rw [ltL, if_pos rfl, lt_irr xs]
theorem lt_tri : ∀ X Y : List ByteArray, ltL X Y = true ∨ X = Y ∨ ltL Y X = true
  | [], [] => Or.inr (Or.inl rfl)
  | [], _ :: _ => Or.inl rfl
  | _ :: _, [] => Or.inr (Or.inr rfl)
  | x :: xs, y :: ys => by
    rw [ltL, ltL]
    by_cases h : x = y
    · subst h
      rw [if_pos rfl, if_pos rfl]
      rcases lt_tri xs ys with h | h | h
      · exact Or.inl h
      · exact Or.inr (Or.inl (by rw [h]))
      · exact Or.inr (Or.inr h)
    · rw [if_neg h, if_neg (Ne.symm h)]
      rcases sl_tri x y with g | g | g
      · exact Or.inl g
      · exact absurd g h
      · exact Or.inr (Or.inr g)
theorem lt_trans : ∀ X Y Z : List ByteArray, ltL X Y = true → ltL Y Z = true → ltL X Z = true
  | _, _, [], _, h => by simp [ltL] at h
  | _, [], _ :: _, h, _ => by simp [ltL] at h
  | [], _ :: _, _ :: _, _, _ => rfl
  | x :: xs, y :: ys, z :: zs, h1, h2 => by
    rw [ltL] at h1 h2 ⊢
    by_cases e1 : x = y
    · subst e1
      rw [if_pos rfl] at h1
      by_cases e2 : x = z
      · subst e2
        rw [if_pos rfl] at h2 ⊢
        exact lt_trans xs ys zs h1 h2
      · rw [if_neg e2] at h2 ⊢; exact h2
    · rw [if_neg e1] at h1
      by_cases e2 : y = z
      · subst e2
        rw [if_neg e1]; exact h1
      · rw [if_neg e2] at h2
        have h3 := sl_trans h1 h2
        rw [if_neg]
        · exact h3
        · rintro rfl; rw [sless_irr] at h3; cases h3
theorem lt_asym {X Y : List ByteArray} (h : ltL X Y = true) : ltL Y X = false := by
  cases h2 : ltL Y X with
  | false => rfl
  | true => have := lt_trans _ _ _ h h2; rw [lt_irr] at this; cases this
theorem lt_pre : ∀ A B : List ByteArray, cpl A B = B.length → A = B ∨ ltL B A = true
  | [], [], _ => Or.inl rfl
  | _ :: _, [], _ => Or.inr rfl
  | [], _ :: _, h => by simp [cpl] at h
  | a :: x, b :: y, h => by
    rw [cpl] at h
    by_cases e : a = b
    · subst e
      rw [if_pos rfl] at h
      rcases lt_pre x y (by simpa using h) with g | g
      · exact Or.inl (by rw [g])
      · exact Or.inr (by rw [ltL, if_pos rfl]; exact g)
    · rw [if_neg e] at h; simp at h
theorem low_low (c : Int) : low (low c) = low c := by
  unfold low
  split
  · rw [if_neg (by omega)]
  · rfl
theorem revL_low (ls : List ByteArray) : revL (ls.map lowB) = revL ls := by
  rw [revL, revL, List.map_map]
  congr 1
  refine List.map_congr_left fun s _ => ?_
  simp only [Function.comp_apply]
  rw [lowB, lowB_bytes, List.map_map]
  rw [lowB]
  congr 1
  exact List.map_congr_left fun c _ => low_low c
open Go.RowKit
theorem q_NameOrder (p0 : ByteArray) (p1 : ByteArray) (p2 : ByteArray) (h0 : p0.size ≤ 1048576) (h1 : p1.size ≤ 1048576) (h2 : p2.size ≤ 1048576) : m_law03_NameOrder p0 p1 p2 = some true := by
  rw [m_law03_NameOrder, awake03, Option.bind_some]
  rcases Classical.em (¬ isNm p0) with ca | ca
  · obtain ⟨e, e1, e2⟩ := check_not ca (by omega)
    rw [e1, Option.bind_some, if_pos e2]
  rcases Classical.em (¬ isNm p1) with cb | cb
  · obtain ⟨x, x1, x2⟩ := Classical.not_not.1 ca
    obtain ⟨e, e1, e2⟩ := check_not cb (by omega)
    rw [check_nm x1 x2, Option.bind_some, if_neg (by decide), e1, Option.bind_some, if_pos e2]
  rcases Classical.em (¬ isNm p2) with cc | cc
  · obtain ⟨x, x1, x2⟩ := Classical.not_not.1 ca
    obtain ⟨y, y1, y2⟩ := Classical.not_not.1 cb
    obtain ⟨e, e1, e2⟩ := check_not cc (by omega)
    rw [check_nm x1 x2, Option.bind_some, if_neg (by decide), check_nm y1 y2, Option.bind_some, if_neg (by decide), e1, Option.bind_some, if_pos e2]
  obtain ⟨x, x1, x2⟩ := Classical.not_not.1 ca
  obtain ⟨y, y1, y2⟩ := Classical.not_not.1 cb
  obtain ⟨z, z1, z2⟩ := Classical.not_not.1 cc
  have hl1 := nm_low x1
  have hl2 : (lowB p0).size ≤ 255 := by rw [lowB_size]; exact x2
  have lab := less_nm x1 x2 y1 y2
  have lba := less_nm y1 y2 x1 x2
  have lbc := less_nm y1 y2 z1 z2
  have lac := less_nm x1 x2 z1 z2
  have lla := less_nm hl1 hl2 y1 y2
  have sab := same_nm x1 x2 y1 y2
  have sla := same_nm x1 x2 hl1 hl2
  have uab := under_nm x1 x2 y1 y2
  have low0 := lower_eq (n := p0) (by omega)
  rw [revL_low] at lla sla
  rw [lessR_eq] at lab lba lbc lac lla
  rw [← revL_len y] at uab
  generalize revL x = A at *
  generalize revL y = B at *
  generalize revL z = D at *
  have j3 : ∀ b28 b35 : Bool, b28 = true → b35 = true → m_law03_NameOrder_j3 true true p0 p1 (ltL A B) b28 (ltL B A) b35 = some true := by
    rintro b28 b35 rfl rfl
    rw [m_law03_NameOrder_j3, if_pos rfl, if_pos rfl, sab, Option.bind_some]
    simp only [low0, Option.bind_some, sla, lla, lab, if_pos trivial, decide_true, beq_self_eq_true, if_true]
    rcases lt_tri A B with h | h | h
    · have h' := lt_asym h
      have hne : A ≠ B := by rintro rfl; rw [lt_irr] at h; cases h
      rw [h, decide_eq_false hne]; rfl
    · subst h
      rw [lt_irr, decide_eq_true rfl]; rfl
    · have h' := lt_asym h
      have hne : A ≠ B := by rintro rfl; rw [lt_irr] at h; cases h
      rw [h, h', decide_eq_false hne]; rfl
  have j2 : ∀ b28 : Bool, b28 = true → m_law03_NameOrder_j2 p0 p1 true true (ltL A B) (ltL B A) b28 = some true := by
    rintro b28 hb
    rw [m_law03_NameOrder_j2, uab, Option.bind_some]
    by_cases hu : cpl A B = B.length
    · rw [if_pos (decide_eq_true hu), sab, Option.bind_some]
      rcases lt_pre A B hu with h | h
      · rw [if_pos (decide_eq_true h)]; exact j3 _ _ hb rfl
      · split
        · exact j3 _ _ hb rfl
        · exact j3 _ _ hb h
    · rw [if_neg (by simpa using hu)]; exact j3 _ _ hb rfl
  have j1 : m_law03_NameOrder_j1 (ltL A B) p1 p2 p0 true (ltL B A) true = some true := by
    rw [m_law03_NameOrder_j1]
    by_cases h : ltL A B = true
    · rw [if_pos h, lbc, Option.bind_some]
      by_cases h' : ltL B D = true
      · rw [if_pos h', lac, Option.bind_some]; exact j2 _ (lt_trans _ _ _ h h')
      · rw [if_neg h']; exact j2 _ rfl
    · rw [if_neg h]; exact j2 _ rfl
  rw [check_nm x1 x2, Option.bind_some, if_neg (by decide), check_nm y1 y2, Option.bind_some, if_neg (by decide), check_nm z1 z2, Option.bind_some, if_neg (by decide), lab, Option.bind_some, lba, Option.bind_some, sab]
  rcases lt_tri A B with h | h | h
  · rw [if_pos h, if_neg (by rw [lt_asym h]; decide)]
    exact j1
  · rw [if_neg (by rw [h, lt_irr]; decide), if_neg (by rw [h, lt_irr]; decide), Option.bind_some, decide_eq_true h]
    exact j1
  · rw [if_neg (by rw [lt_asym h]; decide), if_pos h]
    exact j1
end Go.Proofs.Ytkmkpodioedlfaa
