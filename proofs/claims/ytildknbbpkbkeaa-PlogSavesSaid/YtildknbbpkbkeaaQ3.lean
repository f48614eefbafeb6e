/- Plain facts of layer 11: records (own work). -/
import Derived.Test.YtildknbbpkbkeaaU4
import Derived.Test.YtildknbbpkbkeaaQAw
import Derived.Test.YtildknbbpkbkeaaK3
set_option linter.unusedVariables false
set_option linter.unusedSimpArgs false
namespace Go.Proofs.Ytildknbbpkbkeaa
open Go.RowKit
/-! ### Bytes -/
theorem str_append (a b : List Int) : strOfNums (a ++ b) = strOfNums a ++ strOfNums b := by
  unfold strOfNums
  apply ByteArray.ext
  simp [ByteArray.data_append]
theorem str_bytes (s : ByteArray) : strOfNums (bytesI s) = s := bytesI_inj (bytesI_str (bytesI_range s))
theorem str_size (l : List Int) : (strOfNums l).size = l.length := by simp [strOfNums, ByteArray.size]
/-- A number's eight bytes. -/
def be8 (n : Int) : List Int := (List.range 8).map fun i => (n / (2 : Int) ^ (56 - 8 * i)) % 256
theorem be8_len (n : Int) : (be8 n).length = 8 := by simp [be8]
theorem be8s_len (ns : List Int) : (ns.flatMap be8).length = 8 * ns.length := by
  induction ns with
  | nil => rfl
  | cons a l ih => rw [List.flatMap_cons, List.length_append, ih, be8_len, List.length_cons]; omega
theorem be8_take (n : Int) (k : Nat) (h : k < 8) : (be8 n).take (k + 1) = (be8 n).take k ++ [(n / (2 : Int) ^ (56 - 8 * k)) % 256] := by
  rw [List.take_succ_eq_append_getElem (by rw [be8_len]; exact h)]
  simp [be8]
theorem num_inner (n : Int) (l : List Int) (hl : l.length ≤ 1000000) : loop (fun s => m_plog_numbers_s4 n s.1 s.2) (l, 0) = some (l ++ be8 n) := by
  refine loop_run 8 (fun k => (l ++ (be8 n).take k, (k : Int))) _ (by simp) (fun k hk => ?_) ?_
  · show m_plog_numbers_s4 n _ _ = _
    unfold m_plog_numbers_s4
    rw [if_pos (by omega), w64_id (x := 8 * (k : Int)) (by omega) (by omega), w64_id (x := 56 - 8 * (k : Int)) (by omega) (by omega), w64_id (x := (k : Int) + 1) (by omega) (by omega)]
    unfold shOk
    rw [if_pos (by omega)]
    simp only [Option.bind_some]
    unfold shrI
    rw [wu8_eq, show min (56 - 8 * (k : Int)).toNat IntKind.i64.bits = 56 - 8 * k from by rw [show IntKind.i64.bits = 64 from rfl]; omega, app_of (by simp only [List.length_append, List.length_take, List.length_cons, List.length_nil]; omega), be8_take n k hk]
    simp
  · show m_plog_numbers_s4 n _ _ = _
    unfold m_plog_numbers_s4
    rw [if_neg (by omega), List.take_of_length_le (by rw [be8_len]; omega)]
theorem m_numbers (l ns : List Int) (hl : l.length + 8 * ns.length ≤ 1000000) : m_plog_numbers l ns = some (l ++ ns.flatMap be8) := by
  unfold m_plog_numbers
  have hlen : ∀ k, ((ns.take k).flatMap be8).length = 8 * min k ns.length := fun k => by rw [be8s_len, List.length_take]
  have hL : loop (fun s => m_plog_numbers_s2 ns s.1 s.2) (l, 0) = some (l ++ ns.flatMap be8) := by
    refine loop_run ns.length (fun k => (l ++ (ns.take k).flatMap be8, (k : Int))) _ (by simp) (fun k hk => ?_) ?_
    · show m_plog_numbers_s2 ns _ _ = _
      unfold m_plog_numbers_s2
      have h1 := hlen k
      rw [if_pos (by omega), at_getD hk]
      simp only [Option.bind_some]
      rw [num_inner _ _ (by rw [List.length_append]; omega)]
      simp only [Option.bind_some, m_plog_numbers_j3]
      rw [w64_id (x := (k : Int) + 1) (by omega) (by omega), List.take_succ_eq_append_getElem hk, List.flatMap_append, List.getD_eq_getElem?_getD, List.getElem?_eq_getElem hk]
      simp
    · show m_plog_numbers_s2 ns _ _ = _
      unfold m_plog_numbers_s2
      rw [if_neg (by omega), List.take_length]
  rw [hL]; rfl
theorem m_rnumber (n : Int) : m_ref11_number n = some (strOfNums (be8 n)) := by
  unfold m_ref11_number
  have hL : loop (fun s => m_ref11_number_s2 n s.1 s.2) (([] : List Int), 56) = some (be8 n) := by
    refine loop_run 8 (fun k => ((be8 n).take k, 56 - 8 * (k : Int))) _ (by simp) (fun k hk => ?_) ?_
    · show m_ref11_number_s2 n _ _ = _
      unfold m_ref11_number_s2
      rw [if_pos (by omega), wrapu64 (x := 56 - 8 * (k : Int)) (by omega) (by omega), w64_id (x := 56 - 8 * (k : Int) - 8) (by omega) (by omega)]
      unfold shOk
      rw [if_pos (by omega)]
      simp only [Option.bind_some]
      unfold shrI
      rw [wu8_eq, show min (56 - 8 * (k : Int)).toNat IntKind.i64.bits = 56 - 8 * k from by rw [show IntKind.i64.bits = 64 from rfl]; omega, app_of (by simp only [List.length_take, List.length_cons, List.length_nil]; omega), be8_take n k hk]
      simp only [Option.bind_some, Option.some.injEq, Sum.inl.injEq, Prod.mk.injEq, true_and]
      omega
    · show m_ref11_number_s2 n _ _ = _
      unfold m_ref11_number_s2
      rw [if_neg (by omega), List.take_of_length_le (by rw [be8_len]; omega)]
  rw [hL]; rfl
theorem m_Data (vs : List Int) (hl : vs.length ≤ 1000000) : m_plog_Data vs = some (strOfNums (vs.map (· % 256))) := by
  unfold m_plog_Data
  unfold mkL
  rw [if_pos (by omega)]
  simp only [Option.bind_some]
  have hL : loop (fun s => m_plog_Data_s2 vs s.1 s.2) (List.replicate (vs.length : Int).toNat (0 : Int), 0) = some (vs.map (· % 256)) := by
    refine loop_run vs.length (fun k => ((vs.take k).map (· % 256) ++ List.replicate (vs.length - k) 0, (k : Int))) _ (by simp) (fun k hk => ?_) ?_
    · show m_plog_Data_s2 vs _ _ = _
      unfold m_plog_Data_s2
      rw [if_pos (by omega), at_getD hk]
      simp only [Option.bind_some]
      have hlen : ((vs.take k).map (· % 256) ++ List.replicate (vs.length - k) (0 : Int)).length = vs.length := by simp; omega
      rw [at_getD (by rw [hlen]; exact hk)]
      simp only [Option.bind_some]
      unfold setAt
      rw [if_pos (by rw [hlen]; omega), wu8_eq, w64_id (x := (k : Int) + 1) (by omega) (by omega)]
      simp only [Option.bind_some, Option.some.injEq, Sum.inl.injEq, Prod.mk.injEq]
      refine ⟨?_, by omega⟩
      rw [Int.toNat_natCast, show vs.length - k = (vs.length - (k + 1)) + 1 from by omega, List.replicate_succ, List.take_succ_eq_append_getElem hk, List.map_append, List.getD_eq_getElem?_getD, List.getElem?_eq_getElem hk]
      rw [List.set_append_right _ _ (by simp; omega)]
      simp [Nat.min_eq_left (Nat.le_of_lt hk)]
    · show m_plog_Data_s2 vs _ _ = _
      unfold m_plog_Data_s2
      rw [if_neg (by omega)]
      simp
  rw [hL]; rfl
theorem m_rData (vs : List Int) (hl : vs.length ≤ 1000000) : m_ref11_Data vs = some (strOfNums (vs.map (· % 256))) := by
  unfold m_ref11_Data
  have hL : loop (fun s => m_ref11_Data_s2 vs s.1 s.2) (([] : List Int), 0) = some (vs.map (· % 256)) := by
    refine loop_run vs.length (fun k => ((vs.take k).map (· % 256), (k : Int))) _ (by simp) (fun k hk => ?_) ?_
    · show m_ref11_Data_s2 vs _ _ = _
      unfold m_ref11_Data_s2
      rw [if_pos (by omega), at_getD hk]
      simp only [Option.bind_some]
      rw [app_of (by simp; omega), wu8_eq, w64_id (x := (k : Int) + 1) (by omega) (by omega), List.take_succ_eq_append_getElem hk, List.map_append, List.getD_eq_getElem?_getD, List.getElem?_eq_getElem hk]
      simp
    · show m_ref11_Data_s2 vs _ _ = _
      unfold m_ref11_Data_s2
      rw [if_neg (by omega), List.take_length]
  rw [hL]; rfl
theorem m_SameInts (a b : List Int) (hl : a.length ≤ 1000000) : m_ref11_SameInts a b = some (decide (a = b)) := by
  unfold m_ref11_SameInts
  by_cases hab : (a.length : Int) = b.length
  · rw [if_neg (by omega)]
    have hstep : ∀ k, k < a.length → m_ref11_SameInts_s2 a b (k : Int) = if a.getD k 0 = b.getD k 0 then some (.inl ((k + 1 : Nat) : Int)) else some (.inr (.inr false)) := fun k hk => by
      unfold m_ref11_SameInts_s2
      rw [if_pos (by omega), at_getD hk, at_getD (by omega), w64_id (x := (k : Int) + 1) (by omega) (by omega)]
      simp only [Option.bind_some]
      by_cases h : a.getD k 0 = b.getD k 0
      · rw [if_neg (fun hn => hn h), if_pos h]; rfl
      · rw [if_pos h, if_neg h]
    have hend : m_ref11_SameInts_s2 a b (a.length : Int) = some (.inr (.inl ())) := by
      unfold m_ref11_SameInts_s2; rw [if_neg (by omega)]
    by_cases hg : ∀ k, k < a.length → a.getD k 0 = b.getD k 0
    · have hL : loop (fun s => m_ref11_SameInts_s2 a b s) 0 = some (.inl ()) := loop_run a.length (fun k => (k : Int)) _ rfl (fun k hk => by rw [hstep k hk, if_pos (hg k hk)]) hend
      rw [hL]
      have : a = b := List.ext_getElem (by omega) fun j h1 h2 => by
        have := hg j h1
        rw [List.getD_eq_getElem?_getD, List.getD_eq_getElem?_getD, List.getElem?_eq_getElem h1, List.getElem?_eq_getElem h2] at this
        exact this
      simp [this, m_ref11_SameInts_j1]
    · obtain ⟨n, hn, hng, hgo⟩ := first_not hg
      have hL : loop (fun s => m_ref11_SameInts_s2 a b s) 0 = some (.inr false) := loop_run n (fun k => (k : Int)) _ rfl (fun k hk => by rw [hstep k (by omega), if_pos (hgo k hk)]) (by rw [hstep n hn, if_neg hng])
      rw [hL]
      have : a ≠ b := fun h => hng (by rw [h])
      simp [this]
  · rw [if_pos hab]
    have : a ≠ b := fun h => hab (by rw [h])
    simp [this]
theorem m_Equal (a b : List Int) (hl : a.length ≤ 1000000) : m_slices_Equal_80 a b = some (decide (a = b)) := m_SameInts a b hl
theorem m_sameTexts (a : List ByteArray) (hl : a.length ≤ 1000000) : m_law11_sameTexts a a = some true := by
  unfold m_law11_sameTexts
  rw [if_neg (by simp)]
  have hL : loop (fun s => m_law11_sameTexts_s2 a a s) 0 = some (.inl ()) := loop_run a.length (fun k => (k : Int)) _ rfl (fun k hk => by
    unfold m_law11_sameTexts_s2
    rw [if_pos (by omega), at_nat hk, w64_id (x := (k : Int) + 1) (by omega) (by omega)]
    simp) (by unfold m_law11_sameTexts_s2; rw [if_neg (by omega)])
  rw [hL]; rfl
/-! ### Records -/
/-- The record of the k-th entry. -/
def recE (l : GLog) (k : Nat) : ByteArray := strOfNums ([69] ++ [l.fBase + 1 + k, (l.fEntries.getD k zeroE).fTerm].flatMap be8 ++ [(l.fEntries.getD k zeroE).fKind % 256] ++ bytesI (l.fEntries.getD k zeroE).fData)
def recsE (l : GLog) (k : Nat) : List ByteArray := (List.range (l.fEntries.length - k)).map fun i => recE l (k + i)
theorem m_entry (l : GLog) (k : Nat) (hk : k < l.fEntries.length) (h : okB l) (hd : (l.fEntries.getD k zeroE).fData.size ≤ 100000) : m_plog_entry l (k : Int) = some (recE l k) := by
  have h1 := h.lo; have h2 := h.hi; have h3 := h.len
  unfold m_plog_entry
  rw [at_getE hk, w64_id (x := l.fBase + 1) (by omega) (by omega), w64_id (x := l.fBase + 1 + k) (by omega) (by omega)]
  unfold recE
  generalize l.fEntries.getD k zeroE = e at *
  simp only [Option.bind_some]
  rw [m_numbers _ _ (by simp)]
  simp only [Option.bind_some]
  have hb : ([l.fBase + 1 + (k : Int), e.fTerm].flatMap be8).length = 16 := by rw [be8s_len]; rfl
  rw [app_of (by simp only [List.length_append, List.length_cons, List.length_nil, hb]; omega)]
  simp only [Option.bind_some]
  rw [app_of (by simp only [List.length_append, List.length_cons, List.length_nil, hb, bytesI_length]; omega)]
  simp only [Option.bind_some, wu8_eq]
theorem m_rentry (l : GLog) (k : Nat) (hk : k < l.fEntries.length) (h : okB l) (hd : (l.fEntries.getD k zeroE).fData.size ≤ 100000) : m_ref11_entry l (k : Int) = some (recE l k) := by
  have h1 := h.lo; have h2 := h.hi; have h3 := h.len
  unfold m_ref11_entry
  rw [at_getE hk, w64_id (x := l.fBase + 1) (by omega) (by omega), w64_id (x := l.fBase + 1 + k) (by omega) (by omega)]
  unfold recE
  generalize l.fEntries.getD k zeroE = e at *
  simp only [Option.bind_some, m_rnumber]
  have e0 : (⟨#[69]⟩ : ByteArray) = strOfNums [69] := rfl
  have e1 : e.fData = strOfNums (bytesI e.fData) := (str_bytes _).symm
  have hb := be8_len
  rw [e0, sadd_of (by simp only [str_size, hb, List.length_cons, List.length_nil]; omega)]
  simp only [Option.bind_some]
  rw [← str_append, sadd_of (by simp only [str_size, hb, List.length_append, List.length_cons, List.length_nil]; omega)]
  simp only [Option.bind_some]
  rw [← str_append, sadd_of (by simp only [str_size, hb, List.length_append, List.length_cons, List.length_nil]; omega)]
  simp only [Option.bind_some]
  rw [← str_append, sadd_of (by simp only [str_size, hb, List.length_append, List.length_cons, List.length_nil]; omega)]
  simp only [Option.bind_some, Option.some.injEq]
  rw [show strOfNums ([69] ++ be8 (l.fBase + 1 + ↑k) ++ be8 e.fTerm ++ [IntKind.u8.wrap e.fKind]) ++ e.fData = strOfNums ([69] ++ be8 (l.fBase + 1 + ↑k) ++ be8 e.fTerm ++ [IntKind.u8.wrap e.fKind]) ++ strOfNums (bytesI e.fData) from by rw [str_bytes], ← str_append, wu8_eq]
  simp

/-- A log whose records are short, and few. -/
structure okR (l : GLog) : Prop where
  b : okB l
  len : l.fEntries.length ≤ 1000
  data : ∀ k, k < l.fEntries.length → (l.fEntries.getD k zeroE).fData.size ≤ 100000
theorem recsE_succ (l : GLog) (k d : Nat) : ((List.range (d + 1)).map fun i => recE l (k + i)) = ((List.range d).map fun i => recE l (k + i)) ++ [recE l (k + d)] := by
  rw [List.range_succ, List.map_append]; rfl
theorem m_entries (l : GLog) (k : Nat) (hk : k ≤ l.fEntries.length) (h : okR l) : m_plog_entries l (k : Int) = some (recsE l k) := by
  have h1 := h.len
  unfold m_plog_entries
  rw [w64_id (by omega) (by omega)]
  have hL : loop (fun s => m_plog_entries_s2 l (k : Int) s.1 s.2.1 s.2.2) (([] : List ByteArray), (l.fEntries.length : Int) - k, 0) = some (recsE l k) := by
    refine loop_run (l.fEntries.length - k) (fun j => ((List.range j).map fun i => recE l (k + i), (l.fEntries.length : Int) - k, (j : Int))) _ (by simp) (fun j hj => ?_) ?_
    · show m_plog_entries_s2 l (k : Int) ((List.range j).map fun i => recE l (k + i)) ((l.fEntries.length : Int) - k) (j : Int) = _
      unfold m_plog_entries_s2
      rw [if_pos (by omega), w64_id (x := (k : Int) + j) (by omega) (by omega), show (k : Int) + j = ((k + j : Nat) : Int) from by omega, m_entry l (k + j) (by omega) h.b (h.data _ (by omega)), w64_id (x := (j : Int) + 1) (by omega) (by omega)]
      simp only [Option.bind_some]
      rw [app_of (by simp; omega)]
      simp only [Option.bind_some]
      rw [recsE_succ]
      rfl
    · show m_plog_entries_s2 l (k : Int) ((List.range (l.fEntries.length - k)).map fun i => recE l (k + i)) ((l.fEntries.length : Int) - k) ((l.fEntries.length - k : Nat) : Int) = _
      unfold m_plog_entries_s2
      rw [if_neg (by omega)]
      rfl
  rw [hL]; rfl
theorem rec_loop {step : (List ByteArray) × Int → Option (((List ByteArray) × Int) ⊕ (List ByteArray))} {l : GLog} (h : okR l)
    (hs : ∀ o i, step (o, i) = if i < (l.fEntries.length : Int) then (m_ref11_entry l i).bind fun x => (app 16 o [x]).bind fun o2 => some (.inl (o2, w64 (i + 1))) else some (.inr o)) (o : List ByteArray) (ho : o.length ≤ 1000) (k : Nat) (hk : k ≤ l.fEntries.length) : loop step (o, (k : Int)) = some (o ++ recsE l k) := by
  have h1 := h.len
  refine loop_run (l.fEntries.length - k) (fun j => (o ++ (List.range j).map fun i => recE l (k + i), ((k + j : Nat) : Int))) _ (by simp) (fun j hj => ?_) ?_
  · rw [hs, if_pos (by omega), m_rentry l (k + j) (by omega) h.b (h.data _ (by omega)), w64_id (x := ((k + j : Nat) : Int) + 1) (by omega) (by omega)]
    simp only [Option.bind_some]
    rw [app_of (by simp; omega)]
    simp only [Option.bind_some]
    rw [recsE_succ, List.append_assoc]
    rfl
  · rw [hs, if_neg (by omega)]
    rfl
/-- The first record of all anew. -/
def wholeB (h : GHard) : ByteArray := strOfNums ([87] ++ [h.fTerm, h.fVote, h.fLog.fBase, h.fLog.fBaseTerm, (h.fVoters.length : Int)].flatMap be8 ++ h.fVoters.map (· % 256) ++ [(h.fSnap.size : Int)].flatMap be8 ++ bytesI h.fSnap)
def wholeR (h : GHard) : List ByteArray := wholeB h :: recsE h.fLog 0
structure okH (h : GHard) : Prop where
  log : okR h.fLog
  voters : h.fVoters.length ≤ 1000
  snap : h.fSnap.size ≤ 100000
theorem mod_range (vs : List Int) : ∀ x ∈ vs.map (· % 256), 0 ≤ x ∧ x ≤ 255 := by
  intro x hx
  obtain ⟨y, _, rfl⟩ := List.mem_map.1 hx
  omega
theorem recsE_len (l : GLog) (k : Nat) : (recsE l k).length = l.fEntries.length - k := by simp [recsE]
theorem m_anew (h : GHard) (ho : okH h) : m_plog_anew h = some (wholeR h) := by
  have h1 := ho.voters; have h2 := ho.snap; have h3 := ho.log.len
  unfold m_plog_anew
  rw [m_numbers _ _ (by simp)]
  simp only [Option.bind_some]
  rw [m_Data _ (by omega)]
  simp only [Option.bind_some]
  rw [bytesI_str (mod_range _), app_of (by simp only [List.length_append, be8s_len, List.length_map, List.length_cons, List.length_nil]; omega)]
  simp only [Option.bind_some]
  rw [m_numbers _ _ (by simp only [List.length_append, be8s_len, List.length_map, List.length_cons, List.length_nil]; omega)]
  simp only [Option.bind_some, m_plog_anew_j1]
  rw [app_of (by simp only [List.length_append, be8s_len, List.length_map, List.length_cons, List.length_nil, bytesI_length]; omega), show m_plog_entries h.fLog 0 = _ from m_entries h.fLog 0 (Nat.zero_le _) ho.log]
  simp only [Option.bind_some]
  rw [app_of (by simp only [recsE_len, List.length_cons, List.length_nil]; omega)]
  rfl
theorem m_whole (h : GHard) (ho : okH h) : m_ref11_whole h = some (wholeR h) := by
  have h1 := ho.voters; have h2 := ho.snap; have h3 := ho.log.len
  unfold m_ref11_whole
  simp only [m_rnumber, Option.bind_some]
  have hb := be8_len
  rw [show (⟨#[87]⟩ : ByteArray) = strOfNums [87] from rfl, sadd_of (by simp only [str_size, hb, List.length_cons, List.length_nil]; omega)]
  simp only [Option.bind_some]
  rw [← str_append, sadd_of (by simp only [str_size, hb, List.length_append, List.length_cons, List.length_nil]; omega)]
  simp only [Option.bind_some]
  rw [← str_append, sadd_of (by simp only [str_size, hb, List.length_append, List.length_cons, List.length_nil]; omega)]
  simp only [Option.bind_some]
  rw [← str_append, sadd_of (by simp only [str_size, hb, List.length_append, List.length_cons, List.length_nil]; omega)]
  simp only [Option.bind_some]
  rw [← str_append, sadd_of (by simp only [str_size, hb, List.length_append, List.length_cons, List.length_nil]; omega)]
  simp only [Option.bind_some]
  rw [m_rData _ (by omega), ← str_append]
  simp only [Option.bind_some]
  rw [sadd_of (by simp only [str_size, hb, List.length_append, List.length_map, List.length_cons, List.length_nil]; omega)]
  simp only [Option.bind_some]
  rw [← str_append, sadd_of (by simp only [str_size, hb, List.length_append, List.length_map, List.length_cons, List.length_nil]; omega)]
  simp only [Option.bind_some]
  rw [← str_append, sadd_of (by simp only [str_size, hb, List.length_append, List.length_map, List.length_cons, List.length_nil]; omega)]
  simp only [Option.bind_some]
  have hL := rec_loop (step := fun s => m_ref11_whole_s2 h s.1 s.2) ho.log (fun o i => rfl) [wholeB h] (by simp) 0 (Nat.zero_le _)
  have e : ∀ X : List Int, strOfNums X ++ h.fSnap = strOfNums (X ++ bytesI h.fSnap) := fun X => by rw [str_append, str_bytes]
  rw [e]
  have e2 : strOfNums ([87] ++ be8 h.fTerm ++ be8 h.fVote ++ be8 h.fLog.fBase ++ be8 h.fLog.fBaseTerm ++ be8 (h.fVoters.length : Int) ++ List.map (fun x => x % 256) h.fVoters ++ be8 (h.fSnap.size : Int) ++ bytesI h.fSnap) = wholeB h := by
    unfold wholeB
    simp
  rw [e2]
  rw [show ((0 : Nat) : Int) = 0 from rfl] at hL
  rw [hL]
  rfl
/-! ### What is saved -/
theorem shared_some (a b : List GEntry) (ha : a.length ≤ 1000) : ∃ k : Nat, k ≤ a.length ∧ k ≤ b.length ∧ loop (fun s => m_plog_shared_78_s2 a b s) 0 = some (k : Int) := by
  have hstep : ∀ k : Nat, m_plog_shared_78_s2 a b (k : Int) = if k < a.length ∧ k < b.length ∧ a.getD k zeroE = b.getD k zeroE then some (.inl ((k + 1 : Nat) : Int)) else some (.inr (k : Int)) := by
    intro k
    unfold m_plog_shared_78_s2
    by_cases c1 : k < a.length
    · rw [if_pos (by omega)]
      by_cases c2 : k < b.length
      · rw [if_pos (by omega), at_getE c1, at_getE c2, w64_id (x := (k : Int) + 1) (by omega) (by omega)]
        simp only [Option.bind_some]
        by_cases c3 : a.getD k zeroE = b.getD k zeroE
        · rw [if_pos c3, if_pos ⟨c1, c2, c3⟩]; rfl
        · rw [if_neg c3, if_neg (fun h => c3 h.2.2)]
      · rw [if_neg (by omega), if_neg (fun h => c2 h.2.1)]
    · rw [if_neg (by omega), if_neg (fun h => c1 h.1)]
  have : ∃ n : Nat, n ≤ a.length ∧ n ≤ b.length ∧ (∀ k, k < n → a.getD k zeroE = b.getD k zeroE) ∧ ¬ (n < a.length ∧ n < b.length ∧ a.getD n zeroE = b.getD n zeroE) := by
    by_cases hg : ∀ k, k < min a.length b.length → a.getD k zeroE = b.getD k zeroE
    · exact ⟨min a.length b.length, by omega, by omega, hg, by omega⟩
    · obtain ⟨n, h1, h2, h3⟩ := first_not hg
      exact ⟨n, by omega, by omega, h3, fun h => h2 h.2.2⟩
  obtain ⟨n, h1, h2, h3, h4⟩ := this
  exact ⟨n, h1, h2, loop_run n (fun k => (k : Int)) _ rfl (fun k hk => by rw [hstep, if_pos ⟨by omega, by omega, h3 k hk⟩]) (by rw [hstep, if_neg h4])⟩
theorem saves (old next : GHard) (h1 : okH old) (h2 : okH next) : ∃ r : List ByteArray × Bool, r.1.length ≤ 10000 ∧ m_plog_Save old next = some r ∧ m_ref11_Save old next = some r := by
  obtain ⟨k, hk1, hk2, hk⟩ := shared_some old.fLog.fEntries next.fLog.fEntries h1.log.len
  have hsh : m_plog_shared_78 old.fLog.fEntries next.fLog.fEntries = some (k : Int) := by unfold m_plog_shared_78; rw [hk]; rfl
  have hv := h1.voters; have hl := h2.log.len
  have hw : (wholeR next).length ≤ 10000 := by simp only [wholeR, List.length_cons, recsE_len]; omega
  unfold m_plog_Save m_ref11_Save
  rw [hsh, m_SameInts _ _ (by omega)]
  simp only [Option.bind_some, m_anew next h2, m_whole next h2]
  by_cases c1 : old.fLog.fBase ≠ next.fLog.fBase
  · exact ⟨(wholeR next, true), hw, by rw [if_pos c1], by rw [if_pos c1]⟩
  rw [if_neg c1, if_neg c1]
  by_cases c2 : old.fLog.fBaseTerm ≠ next.fLog.fBaseTerm
  · exact ⟨(wholeR next, true), hw, by rw [if_pos c2], by rw [if_pos c2]⟩
  rw [if_neg c2, if_neg c2, m_Equal _ _ (by omega)]
  simp only [Option.bind_some]
  by_cases c3 : old.fSnap = next.fSnap
  · rw [if_pos c3]
    by_cases c4 : old.fVoters = next.fVoters
    · rw [if_pos (by simpa using c4 : decide (old.fVoters = next.fVoters) = true), if_pos (by simpa using c4 : decide (old.fVoters = next.fVoters) = true), if_pos c3, show loop (fun s => m_ref11_Save_s2 old next s) 0 = some (k : Int) from hk]
      simp only [Option.bind_some]
      -- what is told behind the first record, if there is one
      have tail : ∀ o : List ByteArray, o.length ≤ 1000 → m_plog_Save_j2 next (k : Int) o = some (o ++ recsE next.fLog k, false) ∧ m_ref11_Save_j4 next (k : Int) o = some (o ++ recsE next.fLog k, false) := by
        intro o ho
        constructor
        · unfold m_plog_Save_j2
          rw [m_entries _ _ hk2 h2.log]
          simp only [Option.bind_some]
          rw [app_of (by rw [recsE_len]; omega)]
          rfl
        · unfold m_ref11_Save_j4
          rw [rec_loop (step := fun s => m_ref11_Save_s6 next s.1 s.2) h2.log (fun o i => rfl) o ho k hk2]
          rfl
      have term : m_plog_numbers [84] [next.fTerm, next.fVote] = some ([84] ++ be8 next.fTerm ++ be8 next.fVote) := by
        rw [m_numbers _ _ (by simp)]; simp
      have rterm : ∀ X : ByteArray → Option (List ByteArray × Bool), ((m_ref11_number next.fTerm).bind fun x => (sadd (⟨#[84]⟩ : ByteArray) x).bind fun s => (m_ref11_number next.fVote).bind fun y => (sadd s y).bind X) = X (strOfNums ([84] ++ be8 next.fTerm ++ be8 next.fVote)) := by
        intro X
        have hb := be8_len
        simp only [m_rnumber, Option.bind_some]
        rw [show (⟨#[84]⟩ : ByteArray) = strOfNums [84] from rfl, sadd_of (by simp only [str_size, hb, List.length_cons, List.length_nil]; omega)]
        simp only [Option.bind_some]
        rw [← str_append, sadd_of (by simp only [str_size, hb, List.length_append, List.length_cons, List.length_nil]; omega)]
        simp only [Option.bind_some]
        rw [← str_append]
      have one : ∀ s : ByteArray, app 16 ([] : List ByteArray) [s] = some [s] := fun s => by rw [app_of (by simp)]; rfl
      have both : ∃ r : List ByteArray × Bool, r.1.length ≤ 10000 ∧ m_plog_Save_j1 old next (k : Int) = some r ∧ m_ref11_Save_j3 old next (k : Int) = some r := by
        unfold m_plog_Save_j1 m_ref11_Save_j3
        have hlen : ∀ o : List ByteArray, o.length ≤ 1000 → (o ++ recsE next.fLog k).length ≤ 10000 := fun o ho => by rw [List.length_append, recsE_len]; omega
        rw [term]
        simp only [Option.bind_some, one]
        rw [rterm]
        obtain ⟨t1, t2⟩ := tail [strOfNums ([84] ++ be8 next.fTerm ++ be8 next.fVote)] (by simp)
        obtain ⟨t3, t4⟩ := tail [] (by simp)
        by_cases c5 : old.fTerm ≠ next.fTerm
        · exact ⟨_, hlen [strOfNums ([84] ++ be8 next.fTerm ++ be8 next.fVote)] (by simp), by rw [if_pos c5]; exact t1, by rw [if_pos c5]; exact t2⟩
        · rw [if_neg c5, if_neg c5]
          by_cases c6 : old.fVote ≠ next.fVote
          · exact ⟨_, hlen [strOfNums ([84] ++ be8 next.fTerm ++ be8 next.fVote)] (by simp), by rw [if_pos c6]; exact t1, by rw [if_pos c6]; exact t2⟩
          · exact ⟨_, hlen [] (by simp), by rw [if_neg c6]; exact t3, by rw [if_neg c6]; exact t4⟩
      unfold m_ref11_Save_j1
      simp only [m_whole next h2, Option.bind_some]
      by_cases c7 : (k : Int) = (next.fLog.fEntries.length : Int)
      · rw [if_pos c7, if_pos c7]
        by_cases c8 : (k : Int) < (old.fLog.fEntries.length : Int)
        · exact ⟨(wholeR next, true), hw, by rw [if_pos c8], by rw [if_pos c8]⟩
        · rw [if_neg c8, if_neg c8]; exact both
      · rw [if_neg c7, if_neg c7]; exact both
    · exact ⟨(wholeR next, true), hw, by rw [if_neg (by simpa using c4)], by rw [if_neg (by simpa using c4)]⟩
  · refine ⟨(wholeR next, true), hw, by rw [if_neg c3], ?_⟩
    rw [if_neg c3]
    by_cases c4 : old.fVoters = next.fVoters
    · rw [if_pos (by simpa using c4)]
    · rw [if_neg (by simpa using c4)]
/-! ### The law -/
def tameV (vs : List Int) : List Int := if 70 < (vs.length : Int) then vs.take 70 else vs
def tameS (s : ByteArray) : ByteArray := if 200 < (s.size : Int) then s.extract 0 200 else s
def tameP (h : GHard) : GHard := ⟨h.fTerm, h.fVote, tameV h.fVoters, tameS h.fSnap, smallP h.fLog⟩
theorem tameV_len (vs : List Int) : (tameV vs).length ≤ 70 := by
  unfold tameV; split
  · rw [List.length_take]; omega
  · omega
theorem tameS_len (s : ByteArray) : (tameS s).size ≤ 200 := by
  unfold tameS; split
  · rw [ByteArray.size_extract]; omega
  · omega
theorem m_tame (h : GHard) : m_law11_tame h = some (tameP h) := by
  unfold m_law11_tame
  rw [m_small]
  simp only [Option.bind_some]
  have hj : ∀ l, m_law11_tame_j1 h (smallP h.fLog) l = some ⟨h.fTerm, h.fVote, l, tameS h.fSnap, smallP h.fLog⟩ := by
    intro l
    unfold m_law11_tame_j1 tameS
    by_cases c : 200 < (h.fSnap.size : Int)
    · rw [if_pos c, if_pos c]; unfold scutHi; rw [if_pos (by omega)]; rfl
    · rw [if_neg c, if_neg c]; rfl
  unfold tameP tameV
  by_cases c : 70 < (h.fVoters.length : Int)
  · rw [if_pos c, if_pos c]; unfold cutHi; rw [if_pos (by omega)]; simp only [Option.bind_some]; rw [hj]; rfl
  · rw [if_neg c, if_neg c, hj]
theorem okR_small (l : GLog) (hs : -1000 ≤ (smallP l).fBase ∧ (smallP l).fBase ≤ 1125899906842624) : okR (smallP l) := by
  have hlen : (smallP l).fEntries.length ≤ 40 := fewP_len _
  refine ⟨⟨by omega, by omega, by omega⟩, by omega, fun k hk => ?_⟩
  rw [List.getD_eq_getElem?_getD, List.getElem?_eq_getElem hk]
  exact Nat.le_trans (fewP_modest _ _ (List.getElem_mem hk)) (by decide)
theorem q_PlogSaves (p0 p1 : GHard) (h0 : GHard.ok p0) (h1 : GHard.ok p1) : m_law11_PlogSaves p0 p1 = some true := by
  unfold m_law11_PlogSaves
  rw [awake11, m_tame, m_tame]
  simp only [Option.bind_some]
  rw [m_sound, m_sound]
  simp only [Option.bind_some]
  by_cases s0 : -1000 ≤ (tameP p0).fLog.fBase ∧ (tameP p0).fLog.fBase ≤ 1125899906842624
  · rw [if_pos (by simpa using s0)]
    by_cases s1 : -1000 ≤ (tameP p1).fLog.fBase ∧ (tameP p1).fLog.fBase ≤ 1125899906842624
    · rw [if_pos (by simpa using s1)]
      have hv0 : (tameP p0).fVoters.length ≤ 70 := tameV_len _
      have hv1 : (tameP p1).fVoters.length ≤ 70 := tameV_len _
      have hs0 : (tameP p0).fSnap.size ≤ 200 := tameS_len _
      have hs1 : (tameP p1).fSnap.size ≤ 200 := tameS_len _
      obtain ⟨r, hr, e1, e2⟩ := saves (tameP p0) (tameP p1) ⟨okR_small _ s0, by omega, by omega⟩ ⟨okR_small _ s1, by omega, by omega⟩
      rw [e1, e2]
      simp only [Option.bind_some]
      rw [m_sameTexts _ (by omega)]
      simp
    · rw [if_neg (by simpa using s1)]
  · rw [if_neg (by simpa using s0)]
end Go.Proofs.Ytildknbbpkbkeaa
