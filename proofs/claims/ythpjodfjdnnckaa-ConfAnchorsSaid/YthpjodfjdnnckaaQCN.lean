import Derived.Test.YthpjodfjdnnckaaKCN
set_option linter.unusedVariables false
set_option linter.unusedSimpArgs false
set_option maxRecDepth 16384
namespace Go.Proofs.Ythpjodfjdnnckaa
open Go.RowKit
def encB (ls : List ByteArray) : List Int:=ls.flatMap fun s=>(s.size : Int)::bytesI s
def okLs (ls : List ByteArray) : Prop:=∀ s ∈ ls,1 ≤ s.size∧s.size ≤ 63
instance (ls : List ByteArray) : Decidable (okLs ls):=by unfold okLs; infer_instance
/-- n is the name of the labels ls. -/
def Nm (n : ByteArray) (ls : List ByteArray) : Prop:=okLs ls∧bytesI n = encB ls++[0]
def starts : Nat→List ByteArray→List (Int×ByteArray)
  | _,[]=>[]
  | a,s::ls=>((a : Int),s)::starts (a + 1 + s.size) ls
/-- The bytes of a row are at its end: nothing, or a 0 ahead. -/
def endR (l : List Int) : Prop:=l = [] ∨ ∃ r,l = 0::r
theorem encB_cons (s : ByteArray) (ls : List ByteArray) : encB (s::ls) = (s.size : Int)::bytesI s++encB ls:=by simp [encB]
theorem encB_range {ls : List ByteArray} (h : okLs ls) : ∀ x ∈ encB ls,0 ≤ x∧x ≤ 255:=by
  intro x hx
  obtain ⟨s,hs,hx⟩:=List.mem_flatMap.1 hx
  have:=h s hs
  rcases List.mem_cons.1 hx with rfl | hx
  · omega
  · exact bytesI_range s x hx
theorem drop_byte {n : ByteArray} {a : Nat} {x : Int} {r : List Int} (h : (bytesI n).drop a = x::r) : a < n.size∧byteAt n (a : Int) = x∧(bytesI n).drop (a + 1) = r:=by
  have hl : a < (bytesI n).length:=by
    by_cases hc : a < (bytesI n).length
    · exact hc
    · rw [List.drop_of_length_le (by omega)] at h; cases h
  have hs : a < n.size:=by rw [size_bytes]; exact hl
  rw [List.drop_eq_getElem_cons hl] at h
  injection h with h1 h2
  rw [bytesI_get n a hs] at h1
  exact ⟨hs,h1,h2⟩
theorem drop_app {n : ByteArray} {a : Nat} {s : ByteArray} {r : List Int} (h : (bytesI n).drop a = bytesI s++r) : n.extract a (a + s.size) = s∧a + s.size ≤ max n.size a∧(bytesI n).drop (a + s.size) = r:=by
  have hs:=size_bytes s
  have hn:=size_bytes n
  have hl:=congrArg List.length h
  rw [List.length_drop,List.length_append] at hl
  refine ⟨bytesI_inj ?_,by omega,?_⟩
  · rw [bytesI_extract,List.drop_take,h,show a + s.size - a = (bytesI s).length by omega,List.take_left]
  · rw [← List.drop_drop,h,hs,List.drop_left]
theorem drop_none {n : ByteArray} {a : Nat} (h : (bytesI n).drop a = []) : n.size ≤ a:=by
  rw [size_bytes]; exact List.drop_eq_nil_iff.1 h
theorem okLs_cons {s : ByteArray} {ls : List ByteArray} : okLs (s::ls)↔(1 ≤ s.size∧s.size ≤ 63)∧okLs ls:=by
  simp [okLs]
theorem eachAt_end {n : ByteArray} {a : Nat} (h : endR ((bytesI n).drop a)) (f : Nat) : eachAt n f a = ([],(a : Int)):=by
  cases f with
  | zero=>rfl
  | succ f=>
    rw [eachAt,if_neg]
    rcases h with h | ⟨r,h⟩
    · have:=drop_none h; omega
    · have:=(drop_byte h).2.1; simp [this]
theorem eachAt_enc {n : ByteArray} {rest : List Int} (hr : endR rest) : ∀ (ls : List ByteArray) (a f : Nat),okLs ls→(bytesI n).drop a = encB ls++rest→ls.length ≤ f→
    eachAt n f a = (starts a ls,((a + (encB ls).length : Nat) : Int)):=by
  intro ls
  induction ls with
  | nil=>
    intro a f _ h _
    exact eachAt_end (by rw [h]; exact hr) f
  | cons s ls ih=>
    intro a f hok h hf
    obtain ⟨hs,hok⟩:=okLs_cons.1 hok
    obtain ⟨f,rfl⟩ : ∃ g,f = g + 1:=⟨f - 1,by simp at hf; omega⟩
    rw [encB_cons] at h
    simp only [List.cons_append,List.append_assoc] at h
    obtain ⟨h1,h2,h3⟩:=drop_byte h
    obtain ⟨h4,h5,h6⟩:=drop_app h3
    rw [eachAt,if_pos ⟨h1,by rw [h2]; omega⟩,h2,if_neg (by omega)]
    have:=ih (a + 1 + s.size) f hok (by rw [← h6]) (by simp at hf; omega)
    simp only [Int.toNat_natCast]
    rw [this,h4,starts,encB_cons]
    congr 2
    simp only [List.length_append,List.length_cons,← size_bytes]
    omega
theorem eachAt_any {n : ByteArray} : ∀ (f a : Nat),n.size ≤ a + f→a ≤ n.size→(eachAt n f a).2 = -1 ∨ ∃ ls rest,okLs ls∧(bytesI n).drop a = encB ls++rest∧endR rest:=by
  intro f
  induction f with
  | zero=>
    intro a h1 h2
    exact .inr ⟨[],[],(fun _ h=>by cases h),by rw [List.drop_of_length_le (by rw [← size_bytes]; omega)]; rfl,.inl rfl⟩
  | succ f ih=>
    intro a h1 h2
    rw [eachAt]
    by_cases hc : a < n.size∧byteAt n a ≠ 0
    · rw [if_pos hc]
      by_cases hb : 63 < byteAt n a ∨ n.size < a + 1 + (byteAt n a).toNat
      · rw [if_pos hb]; exact .inl rfl
      · rw [if_neg hb]
        have hr:=byteAt_lt n a
        rcases ih (a + 1 + (byteAt n a).toNat) (by omega) (by omega) with h | ⟨ls,rest,h3,h4,h5⟩
        · exact .inl h
        · have hsz : (n.extract (a + 1) (a + 1 + (byteAt n a).toNat)).size = (byteAt n a).toNat:=by
            rw [ByteArray.size_extract]; omega
          refine .inr ⟨n.extract (a + 1) (a + 1 + (byteAt n a).toNat)::ls,rest,okLs_cons.2 ⟨by rw [hsz]; omega,h3⟩,?_,h5⟩
          have hl : a < (bytesI n).length:=by rw [← size_bytes]; exact hc.1
          rw [List.drop_eq_getElem_cons hl,bytesI_get n a hc.1,encB_cons,hsz,bytesI_extract]
          simp only [List.cons_append,List.append_assoc]
          have h6 : (bytesI n).drop (a + 1 + (byteAt n a).toNat) = ((bytesI n).drop (a + 1)).drop (byteAt n a).toNat:=by rw [List.drop_drop]
          rw [← h4,List.drop_take,h6,show a + 1 + (byteAt n a).toNat - (a + 1) = (byteAt n a).toNat by omega,List.take_append_drop]
          congr 1
          omega
    · rw [if_neg hc]
      refine .inr ⟨[],(bytesI n).drop a,(fun _ h=>by cases h),rfl,?_⟩
      by_cases ha : a < n.size
      · have hl : a < (bytesI n).length:=by rw [← size_bytes]; exact ha
        have : byteAt n a = 0:=Classical.byContradiction fun h=>hc ⟨ha,h⟩
        rw [List.drop_eq_getElem_cons hl,bytesI_get n a ha,this]
        exact .inr ⟨_,rfl⟩
      · rw [List.drop_of_length_le (by rw [← size_bytes]; omega)]; exact .inl rfl
theorem nm_size {n : ByteArray} {ls : List ByteArray} (h : Nm n ls) : n.size = (encB ls).length + 1:=by
  rw [size_bytes,h.2]; simp
theorem len_enc (ls : List ByteArray) : ls.length ≤ (encB ls).length:=by
  induction ls with
  | nil=>simp
  | cons s ls ih=>rw [encB_cons]; simp; omega
theorem each_nm {n : ByteArray} {ls : List ByteArray} (h : Nm n ls) : eachP n = (starts 0 ls,(n.size : Int) - 1):=by
  have hl:=len_enc ls
  have hs:=nm_size h
  rw [eachP,eachAt_enc (rest:=[0]) (.inr ⟨[],rfl⟩) ls 0 n.size h.1 (by rw [List.drop_zero,h.2]) (by omega)]
  congr 1
  omega
theorem each_no {n : ByteArray} (h : ¬ ∃ ls,Nm n ls) : (eachP n).2 ≠ (n.size : Int) - 1 ∨ (eachP n).2 < 0:=by
  rcases eachAt_any (n:=n) n.size 0 (by omega) (by omega) with h1 | ⟨ls,rest,h1,h2,h3⟩
  · rw [eachP,h1]; exact .inr (by omega)
  · left
    have hl:=len_enc ls
    have hlen:=congrArg List.length h2
    rw [List.drop_zero,← size_bytes,List.length_append] at hlen
    rw [eachP,eachAt_enc h3 ls 0 n.size h1 h2 (by omega)]
    intro hc
    refine h ⟨ls,h1,?_⟩
    rw [List.drop_zero] at h2
    rw [h2]
    congr 1
    simp only at hc
    rcases h3 with rfl | ⟨r,rfl⟩
    · simp at hlen; omega
    · simp only [List.length_cons] at hlen
      rw [List.length_eq_zero_iff.1 (by omega : r.length = 0)]
theorem starts_snd (a : Nat) (ls : List ByteArray) : (starts a ls).map Prod.snd = ls:=by
  induction ls generalizing a with
  | nil=>rfl
  | cons s ls ih=>simp [starts,ih]
theorem nm_inj {n : ByteArray} {a b : List ByteArray} (h : Nm n a) (h' : Nm n b) : a = b:=by
  have:=(each_nm h).symm.trans (each_nm h')
  injection this with h1 _
  have:=congrArg (List.map Prod.snd) h1
  rwa [starts_snd,starts_snd] at this
/-- The name that labels make. -/
def mkN (ls : List ByteArray) : ByteArray:=strOfNums (encB ls++[0])
theorem mkN_nm {ls : List ByteArray} (h : okLs ls) : Nm (mkN ls) ls:=⟨h,by
  rw [mkN,bytesI_str]
  intro x hx
  rcases List.mem_append.1 hx with hx | hx
  · exact encB_range h x hx
  · simp only [List.mem_singleton] at hx; omega⟩
theorem nm_mk {n : ByteArray} {ls : List ByteArray} (h : Nm n ls) : n = mkN ls:=bytesI_inj (by rw [h.2,(mkN_nm h.1).2])
theorem nm_eq {n m : ByteArray} {ls : List ByteArray} (h : Nm n ls) (h' : Nm m ls) : n = m:=(nm_mk h).trans (nm_mk h').symm
open Go.RowKit
theorem eachM_of {n : ByteArray} (hs : n.size ≤ 1099511627776) : eachM n = some (eachP n):=if_pos hs
theorem labels_nm {n : ByteArray} {ls : List ByteArray} (h : Nm n ls) (hs : n.size ≤ 255) : m_name_Labels n = some (ls,0):=by
  have:=nm_size h
  rw [m_name_Labels,eachM_of (by omega),Option.bind_some,each_nm h,w64_id (by omega) (by omega),if_neg (fun h=>h rfl),if_neg (by omega),if_neg (by omega),starts_snd]
theorem labels_big {n : ByteArray} {ls : List ByteArray} (h : Nm n ls) (hs : 255 < n.size) (hb : n.size ≤ 1099511627776) : m_name_Labels n = some ([],11):=by
  rw [m_name_Labels,eachM_of (by omega),Option.bind_some,each_nm h,w64_id (by omega) (by omega),if_neg (fun h=>h rfl),if_neg (by omega),if_pos (by omega)]
theorem labels_no {n : ByteArray} (h : ¬ ∃ ls,Nm n ls) (hb : n.size ≤ 1099511627776) : m_name_Labels n = some ([],10):=by
  rw [m_name_Labels,eachM_of (by omega),Option.bind_some,w64_id (by omega) (by omega)]
  rcases each_no h with h | h
  · rw [if_pos h]
  · rw [if_pos h]
    split <;> rfl
theorem check_nm {n : ByteArray} {ls : List ByteArray} (h : Nm n ls) (hs : n.size ≤ 255) : m_name_Check n = some 0:=by
  rw [m_name_Check,labels_nm h hs]; rfl
theorem check_big {n : ByteArray} {ls : List ByteArray} (h : Nm n ls) (hs : 255 < n.size) (hb : n.size ≤ 1099511627776) : m_name_Check n = some 11:=by
  rw [m_name_Check,labels_big h hs hb]; rfl
theorem check_no {n : ByteArray} (h : ¬ ∃ ls,Nm n ls) (hb : n.size ≤ 1099511627776) : m_name_Check n = some 10:=by
  rw [m_name_Check,labels_no h hb]; rfl
theorem nm_cases (n : ByteArray) : (∃ ls,Nm n ls∧n.size ≤ 255) ∨ (∃ ls,Nm n ls∧255 < n.size) ∨ ¬ ∃ ls,Nm n ls:=by
  by_cases h : ∃ ls,Nm n ls
  · obtain ⟨ls,h⟩:=h
    by_cases hs : n.size ≤ 255
    · exact .inl ⟨ls,h,hs⟩
    · exact .inr (.inl ⟨ls,h,by omega⟩)
  · exact .inr (.inr h)
theorem row_step {n : ByteArray} (hn : n.size ≤ 1099511627776) {a : Nat} {out : List ByteArray} (ha : a ≤ n.size) (ho : out.length ≤ a) :
    m_ref03_row_s2 n out (a : Int) = if a < n.size∧byteAt n a ≠ 0 then (if 63 < byteAt n a ∨ n.size < a + 1 + (byteAt n a).toNat then some (.inr (.inr ([],false)))
      else some (.inl (out++[n.extract (a + 1) (a + 1 + (byteAt n a).toNat)],((a + 1 + (byteAt n a).toNat : Nat) : Int)))) else some (.inr (.inl (out,(a : Int)))):=by
  rw [m_ref03_row_s2]
  by_cases hc : a < n.size
  · have hb:=byteAt_lt n a
    rw [if_pos (show (a : Int) < n.size by omega),sat_of (by omega) (by omega),Option.bind_some]
    by_cases h0 : byteAt n a ≠ 0
    · rw [if_pos h0,if_pos ⟨hc,h0⟩,Option.bind_some,w64_id (by omega) (by omega)]
      by_cases h1 : 63 < byteAt n a
      · rw [if_pos h1,if_pos (.inl h1)]
      · rw [if_neg h1,w64_id (x:=(a : Int) + 1) (by omega) (by omega),w64_id (x:=(a : Int) + 1 + byteAt n a) (by omega) (by omega)]
        by_cases h2 : n.size < a + 1 + (byteAt n a).toNat
        · rw [if_pos (by omega),if_pos (.inr h2)]
        · rw [if_neg (by omega),if_neg (by omega),scutMid,if_pos ⟨by omega,by omega,by omega⟩,Option.bind_some,app_of (by simp; omega),Option.bind_some,
            show ((a : Int) + 1).toNat = a + 1 by omega,show ((a : Int) + 1 + byteAt n a).toNat = a + 1 + (byteAt n a).toNat by omega]
          congr 4
          omega
    · rw [if_neg h0,if_neg (fun h=>h0 h.2)]
  · rw [if_neg (by omega),if_neg (fun h=>hc h.1)]
theorem row_loop {n : ByteArray} (hn : n.size ≤ 1099511627776) : ∀ (f a : Nat) (out : List ByteArray),n.size ≤ a + f→a ≤ n.size→out.length ≤ a→
    loop (fun s=>m_ref03_row_s2 n s.1 s.2) (out,(a : Int)) = some (if (eachAt n f a).2 = -1 then .inr ([],false) else .inl (out++(eachAt n f a).1.map Prod.snd,(eachAt n f a).2)):=by
  intro f
  induction f with
  | zero=>
    intro a out h1 h2 h3
    rw [loop_inr (by simp only [row_step hn h2 h3]; rw [if_neg (by omega)])]
    simp only [eachAt,List.map_nil,List.append_nil]
    rw [if_neg (by omega)]
  | succ f ih=>
    intro a out h1 h2 h3
    have hb:=byteAt_lt n a
    by_cases hc : a < n.size∧byteAt n a ≠ 0
    · by_cases h4 : 63 < byteAt n a ∨ n.size < a + 1 + (byteAt n a).toNat
      · rw [loop_inr (by simp only [row_step hn h2 h3]; rw [if_pos hc,if_pos h4])]
        rw [eachAt,if_pos hc,if_pos h4,if_pos rfl]
      · rw [loop_inl (by simp only [row_step hn h2 h3]; rw [if_pos hc,if_neg h4]),ih _ _ (by omega) (by omega) (by simp; omega)]
        rw [eachAt,if_pos hc,if_neg h4]
        simp only [List.map_cons,List.append_assoc,List.singleton_append]
    · rw [loop_inr (by simp only [row_step hn h2 h3]; rw [if_neg hc])]
      rw [eachAt,if_neg hc]
      simp only [List.map_nil,List.append_nil]
      rw [if_neg (by omega)]
theorem row_nm {n : ByteArray} {ls : List ByteArray} (h : Nm n ls) (hb : n.size ≤ 1099511627776) : m_ref03_row n = some (ls,true):=by
  have hs:=nm_size h
  have:=row_loop hb n.size 0 [] (by omega) (by omega) (by simp)
  rw [← eachP,each_nm h,if_neg (by simp only; omega)] at this
  rw [m_ref03_row]
  erw [this]
  simp only [Option.bind_some,Sum.elim_inl,m_ref03_row_j1,List.nil_append,starts_snd]
  rw [w64_id (by omega) (by omega),decide_eq_true rfl]
theorem row_no {n : ByteArray} (h : ¬ ∃ ls,Nm n ls) (hb : n.size ≤ 1099511627776) : ∃ l,m_ref03_row n = some (l,false):=by
  have:=row_loop hb n.size 0 [] (by omega) (by omega) (by simp)
  rw [← eachP] at this
  rw [m_ref03_row]
  erw [this]
  by_cases h1 : (eachP n).2 = -1
  · rw [if_pos h1]; exact ⟨_,rfl⟩
  · rw [if_neg h1]
    refine ⟨[]++(eachP n).1.map Prod.snd,?_⟩
    simp only [Option.bind_some,Sum.elim_inl,m_ref03_row_j1]
    rw [w64_id (by omega) (by omega)]
    rw [decide_eq_false]
    intro h2
    rcases each_no h with h3 | h3
    · exact h3 h2
    · rcases eachAt_any (n:=n) n.size 0 (by omega) (by omega) with h4 | ⟨ls,rest,h4,h5,h6⟩
      · exact h1 h4
      · have hl:=len_enc ls
        have hlen:=congrArg List.length h5
        rw [List.drop_zero,← size_bytes,List.length_append] at hlen
        rw [eachP,eachAt_enc h6 ls 0 n.size h4 h5 (by omega)] at h3
        simp only at h3
        omega
theorem rcheck_nm {n : ByteArray} {ls : List ByteArray} (h : Nm n ls) (hs : n.size ≤ 255) : m_ref03_Check n = some 0:=by
  rw [m_ref03_Check,row_nm h (by omega)]
  simp only [Option.bind_some,if_true]
  rw [if_neg (by omega)]
theorem rcheck_big {n : ByteArray} {ls : List ByteArray} (h : Nm n ls) (hs : 255 < n.size) (hb : n.size ≤ 1099511627776) : m_ref03_Check n = some 11:=by
  rw [m_ref03_Check,row_nm h (by omega)]
  simp only [Option.bind_some,if_true]
  rw [if_pos (by omega)]
theorem rcheck_no {n : ByteArray} (h : ¬ ∃ ls,Nm n ls) (hb : n.size ≤ 1099511627776) : m_ref03_Check n = some 10:=by
  obtain ⟨l,hl⟩:=row_no h hb
  rw [m_ref03_Check,hl]
  simp
theorem rlabels_nm {n : ByteArray} {ls : List ByteArray} (h : Nm n ls) (hs : n.size ≤ 255) : m_ref03_Labels n = some (ls,0):=by
  rw [m_ref03_Labels,rcheck_nm h hs,Option.bind_some,if_neg (by simp),row_nm h (by omega)]; rfl
open Go.RowKit
def low (c : Int) : Int:=if 65 ≤ c∧c ≤ 90 then c + 32 else c
def lowB (n : ByteArray) : ByteArray:=strOfNums ((bytesI n).map low)
theorem low_range {c : Int} (h : 0 ≤ c∧c ≤ 255) : 0 ≤ low c∧low c ≤ 255:=by unfold low; split <;> omega
theorem lowB_bytes (n : ByteArray) : bytesI (lowB n) = (bytesI n).map low:=bytesI_str (by
  intro x hx
  obtain ⟨y,hy,rfl⟩:=List.mem_map.1 hx
  exact low_range (bytesI_range n y hy))
theorem lowB_size (n : ByteArray) : (lowB n).size = n.size:=by rw [size_bytes,lowB_bytes,List.length_map,← size_bytes]
theorem or_low {c : Int} (h : 65 ≤ c∧c ≤ 90) : orI .u8 c 32 = c + 32:=by
  obtain ⟨k,hk⟩:=Int.eq_ofNat_of_zero_le (by omega : 0 ≤ c - 65)
  have hc : c = 65 + (k : Int):=by omega
  subst hc
  have : ∀ k : Fin 26,orI .u8 (65 + ((k.val : Nat) : Int)) 32 = 65 + ((k.val : Nat) : Int) + 32:=by decide +kernel
  exact this ⟨k,by omega⟩
/-- One byte after the other made small. -/
theorem low_loop (step : List Int→Int→Option ((List Int×Int) ⊕ List Int)) {n : ByteArray} (hn : n.size ≤ 1099511627776)
    (hs : ∀ (l : List Int) (k : Nat),l.length = n.size→step l (k : Int) = if k < n.size then some (.inl (l.set k (low (l.getD k 0)),((k + 1 : Nat) : Int))) else some (.inr l)) :
    loop (fun s=>step s.1 s.2) (bytesI n,0) = some ((bytesI n).map low):=by
  have hl:=size_bytes n
  refine loop_run (step:=fun s=>step s.1 s.2) n.size (fun k=>(((bytesI n).take k).map low++(bytesI n).drop k,(k : Int))) _ (by simp) (fun k hk=>?_) ?_
  · rw [hs _ _ (by simp; omega),if_pos hk]
    congr 3
    have e1 : (bytesI n).drop k = (bytesI n)[k]::(bytesI n).drop (k + 1):=List.drop_eq_getElem_cons (by omega)
    rw [e1,List.take_succ_eq_append_getElem (by omega),List.map_append]
    have hlen : (((bytesI n).take k).map low).length = k:=by simp; omega
    rw [List.getD_eq_getElem?_getD,List.getElem?_append_right (by omega),hlen,Nat.sub_self,List.set_append_right _ _ (by omega),hlen,Nat.sub_self]
    simp only [List.set_cons_zero,List.getElem?_cons_zero,Option.getD_some,List.map_cons,List.map_nil,List.append_assoc,List.cons_append,List.nil_append]
  · rw [hs _ _ (by simp; omega),if_neg (by omega),List.take_of_length_le (by omega),List.drop_of_length_le (by omega),List.append_nil]
theorem at_getD0 {l : List Int} {k : Nat} (h : k < l.length) : at_ l (k : Int) = some (l.getD k 0):=by
  rw [at_nat h,List.getD_eq_getElem?_getD,List.getElem?_eq_getElem h]; rfl
theorem set_same (l : List Int) (k : Nat) (hk : k < l.length) : l.set k (l.getD k 0) = l:=by
  rw [List.getD_eq_getElem?_getD,List.getElem?_eq_getElem hk]; simp
theorem lower_eq {n : ByteArray} (hn : n.size ≤ 1099511627776) : m_name_Lower n = some (lowB n):=by
  have hl:=size_bytes n
  rw [m_name_Lower]
  erw [low_loop (m_name_Lower_s2 n) hn (fun l k hlen=>?_)]
  · rfl
  rw [m_name_Lower_s2]
  by_cases hk : k < n.size
  · rw [if_pos (by omega),if_pos hk,at_getD0 (by omega),Option.bind_some,Option.bind_some,w64_id (by omega) (by omega)]
    by_cases h1 : 65 ≤ l.getD k 0
    · rw [if_pos h1]
      by_cases h2 : l.getD k 0 ≤ 90
      · rw [if_pos h2,Option.bind_some,Option.bind_some,or_low ⟨h1,h2⟩,setAt,if_pos ⟨by omega,by omega⟩,Option.bind_some,low,if_pos ⟨h1,h2⟩]; rfl
      · rw [if_neg h2,low,if_neg (fun h=>h2 h.2),set_same l k (by omega)]; rfl
    · rw [if_neg h1,low,if_neg (fun h=>h1 h.1),set_same l k (by omega)]; rfl
  · rw [if_neg (by omega),if_neg hk]
theorem low_small {c : Int} (h : c ≤ 63) : low c = c:=by unfold low; rw [if_neg (by omega)]
theorem encB_low {ls : List ByteArray} (h : okLs ls) : encB (ls.map lowB) = (encB ls).map low:=by
  induction ls with
  | nil=>rfl
  | cons s ls ih=>
    have:=okLs_cons.1 h
    rw [List.map_cons,encB_cons,encB_cons,ih this.2,lowB_size,lowB_bytes,List.map_append,List.map_cons,low_small (by omega)]
theorem okLs_low {ls : List ByteArray} (h : okLs ls) : okLs (ls.map lowB):=by
  intro s hs
  obtain ⟨t,ht,rfl⟩:=List.mem_map.1 hs
  rw [lowB_size]; exact h t ht
theorem nm_low {n : ByteArray} {ls : List ByteArray} (h : Nm n ls) : Nm (lowB n) (ls.map lowB):=⟨okLs_low h.1,by
  rw [lowB_bytes,h.2,List.map_append,encB_low h.1]; rfl⟩
/-- A name's labels with small letters, the last one ahead. -/
def revL (ls : List ByteArray) : List ByteArray:=(ls.map lowB).reverse
theorem revL_len (ls : List ByteArray) : (revL ls).length = ls.length:=by simp [revL]
theorem nm_few {n : ByteArray} {ls : List ByteArray} (h : Nm n ls) (hs : n.size ≤ 255) : ls.length ≤ 254:=by
  have:=len_enc ls; have:=nm_size h; omega
/-- It is a name of 255 bytes at most. -/
def isNm (n : ByteArray) : Prop:=∃ ls,Nm n ls∧n.size ≤ 255
/-- How many are alike ahead. -/
def cpl : List ByteArray→List ByteArray→Nat
  | x::xs,y::ys=>if x = y then cpl xs ys + 1 else 0
  | _,_=>0
theorem cpl_le : ∀ (x y : List ByteArray),cpl x y ≤ x.length∧cpl x y ≤ y.length
  | [],y=>by simp [cpl]
  | x::xs,[]=>by simp [cpl]
  | x::xs,y::ys=>by
    have:=cpl_le xs ys
    rw [cpl]; split <;> simp <;> omega
theorem cpl_lt : ∀ (x y : List ByteArray) (k : Nat),k < cpl x y→x[k]? = y[k]?∧k < x.length∧k < y.length
  | [],y,k,h=>by simp [cpl] at h
  | x::xs,[],k,h=>by simp [cpl] at h
  | x::xs,y::ys,k,h=>by
    rw [cpl] at h
    split at h
    · rename_i hxy
      cases k with
      | zero=>subst hxy; simp
      | succ k=>
        have:=cpl_lt xs ys k (by omega)
        simpa using this
    · omega
theorem cpl_end : ∀ (x y : List ByteArray),cpl x y < x.length→cpl x y < y.length→x[cpl x y]? ≠ y[cpl x y]?
  | [],y,h,_=>by simp at h
  | x::xs,[],_,h=>by simp at h
  | x::xs,y::ys,h1,h2=>by
    rw [cpl] at h1 h2 ⊢
    split
    · rename_i hxy
      rw [if_pos hxy] at h1 h2
      have:=cpl_end xs ys (by simpa using h1) (by simpa using h2)
      simpa using this
    · rename_i hxy
      simpa using hxy
open Go.RowKit
theorem rdepth_nm {n : ByteArray} {ls : List ByteArray} (h : Nm n ls) (hs : n.size ≤ 255) : m_ref03_Depth n = some (ls.length : Int):=by
  rw [m_ref03_Depth,rlabels_nm h hs,Option.bind_some,if_neg (fun h=>h rfl)]
open Go.RowKit
theorem rlower_eq {n : ByteArray} (hn : n.size ≤ 1099511627776) : m_ref03_Lower n = some (lowB n):=by
  have hl:=size_bytes n
  rw [m_ref03_Lower]
  erw [low_loop (m_ref03_Lower_s2 n) hn (fun l k hlen=>?_)]
  · rfl
  rw [m_ref03_Lower_s2]
  by_cases hk : k < n.size
  · rw [if_pos (by omega),if_pos hk,at_getD0 (by omega),Option.bind_some,Option.bind_some,w64_id (by omega) (by omega)]
    by_cases h1 : 65 ≤ l.getD k 0
    · rw [if_pos h1]
      by_cases h2 : l.getD k 0 ≤ 90
      · rw [if_pos h2,Option.bind_some,Option.bind_some,wrapu8 (by omega) (by omega),setAt,if_pos ⟨by omega,by omega⟩,Option.bind_some,low,if_pos ⟨h1,h2⟩]; rfl
      · rw [if_neg h2,low,if_neg (fun h=>h2 h.2),set_same l k (by omega)]; rfl
    · rw [if_neg h1,low,if_neg (fun h=>h1 h.1),set_same l k (by omega)]; rfl
  · rw [if_neg (by omega),if_neg hk]
theorem revL_get {ls : List ByteArray} {k : Nat} (h : k < ls.length) : (revL ls)[k]? = some (lowB (ls[ls.length - 1 - k]'(by omega))):=by
  rw [revL,List.getElem?_reverse (by simpa using h),List.length_map,List.getElem?_map,List.getElem?_eq_getElem (by omega)]; rfl
theorem nm_lab {n : ByteArray} {ls : List ByteArray} (h : Nm n ls) : ∀ s ∈ ls,s.size ≤ 63:=fun s hs=>(h.1 s hs).2
theorem rshared_nm {a b : ByteArray} {x y : List ByteArray} (h : Nm a x) (hs : a.size ≤ 255) (h' : Nm b y) (hs' : b.size ≤ 255) : m_ref03_Shared a b = some (cpl (revL x) (revL y) : Int):=by
  have f1:=nm_few h hs
  have f2:=nm_few h' hs'
  have g1:=revL_len x
  have g2:=revL_len y
  have hle:=cpl_le (revL x) (revL y)
  have hgo : ∀ (k : Nat) (c1 : k < x.length) (c2 : k < y.length),m_ref03_Shared_s2 x y (k : Int) = if (revL x)[k]? = (revL y)[k]? then some (.inl ((k + 1 : Nat) : Int)) else some (.inr (k : Int)):=by
    intro k c1 c2
    have e1 : x[x.length - 1 - k].size ≤ 63:=nm_lab h _ (List.getElem_mem _)
    have e2 : y[y.length - 1 - k].size ≤ 63:=nm_lab h' _ (List.getElem_mem _)
    rw [m_ref03_Shared_s2,if_pos (by omega),if_pos (by omega),w64_id (x:=(x.length : Int) - 1) (by omega) (by omega),w64_id (x:=(y.length : Int) - 1) (by omega) (by omega),w64_id (x:=(x.length : Int) - 1 - k) (by omega) (by omega),w64_id (x:=(y.length : Int) - 1 - k) (by omega) (by omega),w64_id (by omega) (by omega),
      show (x.length : Int) - 1 - k = ((x.length - 1 - k : Nat) : Int) by omega,show (y.length : Int) - 1 - k = ((y.length - 1 - k : Nat) : Int) by omega,at_nat (by omega),Option.bind_some,at_nat (by omega),Option.bind_some,rlower_eq (by omega),Option.bind_some,rlower_eq (by omega),Option.bind_some,revL_get c1,revL_get c2]
    by_cases hc : lowB x[x.length - 1 - k] = lowB y[y.length - 1 - k]
    · rw [if_pos hc,if_pos (by rw [hc])]; rfl
    · rw [if_neg hc,if_neg (fun h=>hc (Option.some.inj h))]
  have:=loop_run (step:=fun s=>m_ref03_Shared_s2 x y s) (cpl (revL x) (revL y)) (fun k=>(k : Int)) ((cpl (revL x) (revL y) : Nat) : Int) (s0:=0) rfl
    (fun k hk=>by
      obtain ⟨e1,e2,e3⟩:=cpl_lt _ _ k hk
      rw [hgo k (by omega) (by omega),if_pos e1])
    (by
      by_cases c : cpl (revL x) (revL y) < x.length∧cpl (revL x) (revL y) < y.length
      · rw [hgo _ c.1 c.2,if_neg (cpl_end _ _ (by omega) (by omega))]
      · rw [m_ref03_Shared_s2]
        by_cases c1 : cpl (revL x) (revL y) < x.length
        · rw [if_pos (by omega),if_neg (by omega)]
        · rw [if_neg (by omega)])
  rw [m_ref03_Shared,rlabels_nm h hs,Option.bind_some,rlabels_nm h' hs',Option.bind_some,if_neg (fun h=>h rfl),if_neg (fun h=>h rfl)]
  erw [this]
  rfl
theorem cpl_full : ∀ (x y : List ByteArray),cpl x y = x.length→cpl x y = y.length→x = y
  | [],[],_,_=>rfl
  | [],y::ys,_,h=>by simp [cpl] at h
  | x::xs,[],h,_=>by simp [cpl] at h
  | x::xs,y::ys,h1,h2=>by
    rw [cpl] at h1 h2
    split at h1
    · rename_i hxy
      rw [if_pos hxy] at h2
      rw [hxy,cpl_full xs ys (by simpa using h1) (by simpa using h2)]
    · simp at h1
theorem cpl_self (x : List ByteArray) : cpl x x = x.length:=by
  induction x with
  | nil=>rfl
  | cons x xs ih=>rw [cpl,if_pos rfl,ih]; rfl
theorem lowB_iff {a b : ByteArray} {x y : List ByteArray} (h : Nm a x) (h' : Nm b y) : lowB a = lowB b↔revL x = revL y:=by
  constructor
  · intro he
    have h1:=nm_low h
    rw [he] at h1
    rw [revL,nm_inj h1 (nm_low h')]; rfl
  · intro he
    have : x.map lowB = y.map lowB:=List.reverse_inj.1 he
    refine nm_eq (nm_low h) ?_
    rw [this]; exact nm_low h'
theorem check_not {n : ByteArray} (h : ¬ isNm n) (hb : n.size ≤ 1099511627776) : ∃ e,m_name_Check n = some e∧e ≠ 0:=by
  rcases nm_cases n with h1 | ⟨ls,h1,h2⟩ | h1
  · exact absurd h1 h
  · exact ⟨11,check_big h1 h2 hb,by omega⟩
  · exact ⟨10,check_no h1 hb,by omega⟩
theorem rsame_nm {a b : ByteArray} {x y : List ByteArray} (h : Nm a x) (hs : a.size ≤ 255) (h' : Nm b y) (hs' : b.size ≤ 255) : m_ref03_Same a b = some (decide (revL x = revL y)):=by
  have g1:=revL_len x
  have g2:=revL_len y
  rw [m_ref03_Same,rshared_nm h hs h' hs',Option.bind_some,if_pos (by omega),rdepth_nm h hs,Option.bind_some,rdepth_nm h' hs']
  by_cases c1 : cpl (revL x) (revL y) = x.length
  · rw [if_pos (by omega),Option.bind_some]
    refine congrArg some (decide_eq_decide.2 ⟨fun h=>cpl_full _ _ (by omega) (by omega),fun h=>?_⟩)
    rw [h,cpl_self]; omega
  · rw [if_neg (by omega),decide_eq_false]
    intro h
    rw [h,cpl_self,← h] at c1
    exact c1 g1
theorem bless_irr (l : List UInt8) : Op.bytesLess l l = false:=by
  induction l with
  | nil=>rfl
  | cons x l ih=>simp [Op.bytesLess,ih]
theorem sless_irr (a : ByteArray) : sless a a = false:=bless_irr _
open Go.RowKit
theorem bl_tri : ∀ x y : List UInt8,Op.bytesLess x y = true ∨ x = y ∨ Op.bytesLess y x = true
  | [],[]=>Or.inr (Or.inl rfl)
  | [],_::_=>Or.inl rfl
  | _::_,[]=>Or.inr (Or.inr rfl)
  | a::x,b::y=>by
    simp only [Op.bytesLess,Bool.or_eq_true,Bool.and_eq_true,decide_eq_true_eq,beq_iff_eq,List.cons.injEq]
    rcases bl_tri x y with h | h | h
    · rcases Nat.lt_trichotomy a.toNat b.toNat with g | g | g
      · exact Or.inl (Or.inl (UInt8.lt_iff_toNat_lt.2 g))
      · exact Or.inl (Or.inr ⟨UInt8.toNat_inj.1 g,h⟩)
      · exact Or.inr (Or.inr (Or.inl (UInt8.lt_iff_toNat_lt.2 g)))
    · rcases Nat.lt_trichotomy a.toNat b.toNat with g | g | g
      · exact Or.inl (Or.inl (UInt8.lt_iff_toNat_lt.2 g))
      · exact Or.inr (Or.inl ⟨UInt8.toNat_inj.1 g,h⟩)
      · exact Or.inr (Or.inr (Or.inl (UInt8.lt_iff_toNat_lt.2 g)))
    · rcases Nat.lt_trichotomy a.toNat b.toNat with g | g | g
      · exact Or.inl (Or.inl (UInt8.lt_iff_toNat_lt.2 g))
      · exact Or.inr (Or.inr (Or.inr ⟨(UInt8.toNat_inj.1 g).symm,h⟩))
      · exact Or.inr (Or.inr (Or.inl (UInt8.lt_iff_toNat_lt.2 g)))
theorem bl_trans : ∀ x y z : List UInt8,Op.bytesLess x y = true→Op.bytesLess y z = true→Op.bytesLess x z = true
  | _,_,[],_,h=>by simp [Op.bytesLess] at h
  | _,[],_::_,h,_=>by simp [Op.bytesLess] at h
  | [],_::_,_::_,_,_=>rfl
  | a::x,b::y,c::z,h1,h2=>by
    simp only [Op.bytesLess,Bool.or_eq_true,Bool.and_eq_true,decide_eq_true_eq,beq_iff_eq] at h1 h2 ⊢
    rcases h1 with h1 | ⟨rfl,h1⟩
    · rcases h2 with h2 | ⟨rfl,h2⟩
      · exact Or.inl (UInt8.lt_trans h1 h2)
      · exact Or.inl h1
    · rcases h2 with h2 | ⟨rfl,h2⟩
      · exact Or.inl h2
      · exact Or.inr ⟨rfl,bl_trans x y z h1 h2⟩
theorem ba_list {a b : ByteArray} : a.toList = b.toList↔a = b:=by
  rw [ByteArray.toList_eq,ByteArray.toList_eq]
  constructor
  · intro h; cases a; cases b; simp only [ByteArray.mk.injEq]; exact Array.toList_inj.1 h
  · rintro rfl; rfl
theorem sl_tri (a b : ByteArray) : sless a b = true ∨ a = b ∨ sless b a = true:=by
  rcases bl_tri a.toList b.toList with h | h | h
  · exact Or.inl h
  · exact Or.inr (Or.inl (ba_list.1 h))
  · exact Or.inr (Or.inr h)
theorem sl_trans {a b c : ByteArray} (h1 : sless a b = true) (h2 : sless b c = true) : sless a c = true:=bl_trans _ _ _ h1 h2
def ltL : List ByteArray→List ByteArray→Bool
  | _,[]=>false
  | [],_::_=>true
  | a::x,b::y=>if a = b then ltL x y else sless a b
theorem lt_trans : ∀ X Y Z : List ByteArray,ltL X Y = true→ltL Y Z = true→ltL X Z = true
  | _,_,[],_,h=>by simp [ltL] at h
  | _,[],_::_,h,_=>by simp [ltL] at h
  | [],_::_,_::_,_,_=>rfl
  | x::xs,y::ys,z::zs,h1,h2=>by
    rw [ltL] at h1 h2 ⊢
    by_cases e1 : x = y
    · subst e1
      rw [if_pos rfl] at h1
      by_cases e2 : x = z
      · subst e2
        rw [if_pos rfl] at h2 ⊢
        exact lt_trans xs ys zs h1 h2
      · rw [if_neg e2] at h2 ⊢; exact h2
    · rw [if_neg e1] at h1
      by_cases e2 : y = z
      · subst e2
        rw [if_neg e1]; exact h1
      · rw [if_neg e2] at h2
        have h3:=sl_trans h1 h2
        rw [if_neg]
        · exact h3
        · rintro rfl; rw [sless_irr] at h3; cases h3
open Go.RowKit
/-- Where in a list something is first true, and what stands there. -/
def fndX {α : Type} (p : α→Bool) : List α→Nat→Option (Nat×α)
  | [],_=>none
  | x::r,i=>if p x = true then some (i,x) else fndX p r (i + 1)
def fndI {α : Type} : Option (Nat×α)→Int
  | some z=>(z.1 : Int)
  | none=>-1
theorem fndX_some {α : Type} {p : α→Bool} : ∀ {l : List α} {i k : Nat} {x : α},fndX p l i = some (k,x)→i ≤ k∧l[k - i]? = some x∧p x = true∧∀ j,j < k - i→∀ y,l[j]? = some y→p y = false
  | [],i,k,x,h=>by cases h
  | y::r,i,k,x,h=>by
    rw [fndX] at h
    by_cases hp : p y = true
    · rw [if_pos hp] at h; injection h with h; injection h with h1 h2; subst h1 h2
      exact ⟨Nat.le_refl _,by simp,hp,fun j hj=>by omega⟩
    · rw [if_neg hp] at h
      obtain ⟨h1,h2,h3,h4⟩:=fndX_some h
      refine ⟨by omega,?_,h3,fun j hj z hz=>?_⟩
      · rw [show k - i = (k - (i + 1)) + 1 by omega]; simpa using h2
      · cases j with
        | zero=>simp at hz; subst hz; simpa using hp
        | succ j=>exact h4 j (by omega) z (by simpa using hz)
theorem fndX_none {α : Type} {p : α→Bool} : ∀ {l : List α} {i : Nat},fndX p l i = none→∀ y ∈ l,p y = false
  | [],i,h,y,hy=>by cases hy
  | x::r,i,h,y,hy=>by
    rw [fndX] at h
    by_cases hp : p x = true
    · rw [if_pos hp] at h; cases h
    · rw [if_neg hp] at h
      rcases List.mem_cons.1 hy with rfl | hy
      · simpa using hp
      · exact fndX_none h y hy
theorem idx_loop {α : Type} (p : α→Bool) {l : List α} (hl : l.length ≤ 4611686018427387904) (step : Int→Option (Int ⊕ (Unit ⊕ Int)))
    (hs : ∀ i : Int,step i = if i < (l.length : Int) then (at_ l i).bind fun x=>if p x = true then some (.inr (.inr i)) else some (.inl (w64 (i + 1))) else some (.inr (.inl ()))) :
    ∀ (r pre : List α),l = pre++r→loop step (pre.length : Int) = some (match fndX p r pre.length with | some z=>.inr (z.1 : Int) | none=>.inl ()):=by
  intro r
  induction r with
  | nil=>
    intro pre h
    rw [List.append_nil] at h
    have:=hs (pre.length : Int)
    rw [if_neg (by rw [h]; omega)] at this
    rw [loop_inr this]; rfl
  | cons x r ih=>
    intro pre h
    have hlen : l.length = pre.length + (r.length + 1):=by rw [h]; simp
    have hat : at_ l (pre.length : Int) = some x:=by rw [at_nat (by omega)]; simp [h]
    have hst:=hs (pre.length : Int)
    rw [if_pos (by omega),hat,Option.bind_some] at hst
    rw [fndX]
    by_cases hp : p x = true
    · rw [if_pos hp] at hst
      rw [loop_inr hst,if_pos hp]
    · rw [if_neg hp,w64_id (by omega) (by omega)] at hst
      have:=ih (pre++[x]) (by rw [h]; simp)
      rw [List.length_append,List.length_singleton] at this
      rw [loop_inl hst,if_neg hp]
      exact this
theorem take_fnd {α : Type} {p : α→Bool} {l : List α} {k : Nat} {x : α} (h : fndX p l 0 = some (k,x)) : k < l.length∧p x = true∧l[k]? = some x∧(l.take k).filter (fun x=>!p x) = l.take k:=by
  obtain ⟨h1,h2,h3,h4⟩:=fndX_some h
  simp only [Nat.sub_zero] at h2 h4
  have hk:=(List.getElem?_eq_some_iff.1 h2).1
  refine ⟨hk,h3,h2,List.filter_eq_self.2 fun y hy=>?_⟩
  obtain ⟨j,hj,rfl⟩:=List.mem_take_iff_getElem.1 hy
  have:=h4 j (by omega) _ (List.getElem?_eq_getElem (by omega))
  simp [this]
open Go.RowKit
open Go.RowKit
open Go.RowKit
theorem mem_set {α : Type} {l q : List α} {i : Nat} {x : α} (hq : ∀ y ∈ q,y ∈ l) (hx : x ∈ l) : ∀ y ∈ q.set i x,y ∈ l:=fun y hy=>by
  rcases List.mem_or_eq_of_mem_set hy with h | h
  · exact hq y h
  · rw [h]; exact hx
theorem delf_loopM {α : Type} (p : α→Bool) {l : List α} (hl : l.length ≤ 4611686018427387904) (step : List α×Int×Int→Option ((List α×Int×Int) ⊕ (List α×Int)))
    (hs : ∀ (q : List α) (i j : Int),(∀ y ∈ q,y ∈ l)→step (q,i,j) = if j < (q.length : Int) then (at_ q j).bind fun x=>if p x = true then some (.inl (q,i,w64 (j + 1))) else (at_ q i).bind fun _=>(setAt q i x).bind fun q'=>some (.inl (q',w64 (i + 1),w64 (j + 1))) else some (.inr (q,i))) :
    ∀ (d j i : Nat) (q : List α),j + d = l.length→i < j→q.length = l.length→q.take i = (l.take j).filter (fun x=>!p x)→q.drop j = l.drop j→(∀ y ∈ q,y ∈ l)→∃ (q' : List α) (i' : Nat),loop step (q,(i : Int),(j : Int)) = some (q',(i' : Int))∧i' ≤ q'.length∧q'.take i' = l.filter (fun x=>!p x):=by
  intro d
  induction d with
  | zero=>
    intro j i q hj hi hq ht hd hm
    refine ⟨q,i,?_,by omega,?_⟩
    · exact loop_inr (by rw [hs _ _ _ hm,if_neg (by omega)])
    · rw [ht,List.take_of_length_le (by omega)]
  | succ d ih=>
    intro j i q hj hi hq ht hd hm
    have hjl : j < l.length:=by omega
    have hjq : j < q.length:=by omega
    have hx : q[j] = l[j]:=by
      have:=congrArg (fun z=>z[0]?) hd
      simp only [List.getElem?_drop,Nat.add_zero,List.getElem?_eq_getElem hjl,List.getElem?_eq_getElem hjq,Option.some.injEq] at this
      exact this
    have hst:=hs q (i : Int) (j : Int) hm
    rw [if_pos (by omega),at_nat hjq,Option.bind_some,hx] at hst
    have htk : l.take (j + 1) = l.take j++[l[j]]:=by rw [List.take_succ_eq_append_getElem hjl]
    have hdj : ∀ z : List α,z.drop (j + 1) = (z.drop j).drop 1:=fun z=>by rw [List.drop_drop]
    by_cases hp : p l[j] = true
    · rw [if_pos hp,w64_id (by omega) (by omega)] at hst
      rw [loop_inl hst,show (j : Int) + 1 = ((j + 1 : Nat) : Int) by omega]
      refine ih (j + 1) i q (by omega) (by omega) hq ?_ ?_ hm
      · rw [htk,List.filter_append,ht]; simp [hp]
      · rw [hdj,hdj,hd]
    · rw [if_neg hp,at_nat (by omega),Option.bind_some,setAt,if_pos ⟨by omega,by omega⟩,Option.bind_some,Int.toNat_natCast,w64_id (by omega) (by omega),w64_id (by omega) (by omega)] at hst
      rw [loop_inl hst,show (j : Int) + 1 = ((j + 1 : Nat) : Int) by omega,show (i : Int) + 1 = ((i + 1 : Nat) : Int) by omega]
      refine ih (j + 1) (i + 1) _ (by omega) (by omega) (by rw [List.length_set]; exact hq) ?_ ?_ (mem_set hm (List.getElem_mem hjl))
      · have e : (q.set i l[j]).take (i + 1) = q.take i++[l[j]]:=by
          rw [List.take_succ_eq_append_getElem (by rw [List.length_set]; omega),List.take_set_of_le (Nat.le_refl _)]
          simp
        rw [e,htk,List.filter_append,ht]; simp [hp]
      · rw [List.drop_set_of_lt (by omega),hdj,hdj,hd]
theorem delf_eqM {α : Type} (p : α→Bool) {l : List α} (hl : l.length ≤ 4611686018427387904) (ix : Option Int) (step : List α×Int×Int→Option ((List α×Int×Int) ⊕ (List α×Int)))
    (hix : ix = some (fndI (fndX p l 0)))
    (hs : ∀ (q : List α) (i j : Int),(∀ y ∈ q,y ∈ l)→step (q,i,j) = if j < (q.length : Int) then (at_ q j).bind fun x=>if p x = true then some (.inl (q,i,w64 (j + 1))) else (at_ q i).bind fun _=>(setAt q i x).bind fun q'=>some (.inl (q',w64 (i + 1),w64 (j + 1))) else some (.inr (q,i))) :
    (ix.bind fun x1=>if x1 = -1 then some l else (loop step (l,x1,w64 (x1 + 1))).bind fun e=>(cutLo e.1 e.2).bind fun l53=>(cutHi e.1 e.2).bind fun l54=>some l54) = some (l.filter (fun x=>!p x)):=by
  rw [hix,Option.bind_some]
  cases hf : fndX p l 0 with
  | none=>
    rw [fndI,if_pos rfl]
    congr 1
    exact (List.filter_eq_self.2 fun y hy=>by simp [fndX_none hf y hy]).symm
  | some z=>
    obtain ⟨k,x⟩:=z
    obtain ⟨h1,h2,h3,h4⟩:=take_fnd hf
    have hx : l[k] = x:=by have:=(List.getElem?_eq_some_iff.1 h3).2; exact this
    have htk : l.take (k + 1) = l.take k++[l[k]]:=by rw [List.take_succ_eq_append_getElem h1]
    obtain ⟨q,i,g1,g2,g3⟩:=delf_loopM p hl step hs (l.length - (k + 1)) (k + 1) k l (by omega) (by omega) rfl (by rw [htk,List.filter_append,h4,hx]; simp [h2]) rfl (fun y hy=>hy)
    rw [fndI,if_neg (by omega),w64_id (by omega) (by omega),show (k : Int) + 1 = ((k + 1 : Nat) : Int) by omega,g1,Option.bind_some]
    simp only
    rw [cutLo,if_pos ⟨by omega,by omega⟩,Option.bind_some,cutHi,if_pos ⟨by omega,by omega⟩,Option.bind_some,Int.toNat_natCast,g3]
theorem at_mem' {α : Type} {l : List α} {i : Int} {x : α} (h : at_ l i = some x) : x ∈ l:=by
  unfold at_ at h
  split at h
  · exact List.mem_of_getElem? h
  · cases h
open Go.RowKit Go.Sort
theorem awakeJ : m_law13_awake = some true:=by decide +kernel
theorem shortJ {s : ByteArray} (k : Nat) (h : s.size ≤ 9223372036854775807) : ∃ t,m_law13_short s (k : Int) = some t∧t.size ≤ k:=by
  rw [m_law13_short]
  by_cases hc : k < s.size
  · rw [if_pos (by omega),scutHi,if_pos ⟨by omega,by omega⟩]
    exact ⟨_,rfl,by rw [ByteArray.size_extract]; omega⟩
  · rw [if_neg (by omega)]; exact ⟨_,rfl,by omega⟩
open Classical in
theorem namedJ {n : ByteArray} (hn : n.size ≤ 1099511627776) : m_conf_named n = some (decide (isNm n)):=by
  rw [m_conf_named]
  by_cases h : isNm n
  · obtain ⟨ls,h1,h2⟩:=id h
    rw [check_nm h1 h2,decide_eq_true h]; rfl
  · obtain ⟨e,h1,h2⟩:=check_not h hn
    rw [h1,decide_eq_false h,Option.bind_some,decide_eq_false h2]
theorem rchkJ {n : ByteArray} (hn : n.size ≤ 300) : ∃ e,m_ref03_Check n = some e∧(e = 0↔isNm n):=by
  rcases nm_cases n with h1 | ⟨ls,h1,h2⟩ | h1
  · obtain ⟨ls,h2,h3⟩:=id h1
    exact ⟨0,rcheck_nm h2 h3,⟨fun _=>h1,fun _=>rfl⟩⟩
  · exact ⟨11,rcheck_big h1 h2 (by omega),⟨fun h=>(by cases h),fun ⟨_,_,h⟩=>(by omega)⟩⟩
  · exact ⟨10,rcheck_no h1 (by omega),⟨fun h=>(by cases h),fun ⟨x,h,_⟩=>absurd ⟨x,h⟩ h1⟩⟩
def isOf (n : ByteArray) (a : GAnchor) : Bool:=decide (lowB a.fName = lowB n)
theorem c1_cd {a : GAnchor} {o : GOrder} (ha : isNm a.fName) (hn : o.fName.size ≤ 300) : m_conf_Apply_c1 a o = some (isOf o.fName a):=by
  obtain ⟨ls,h1,h2⟩:=ha
  rw [m_conf_Apply_c1,m_name_Same,check_nm h1 h2,Option.bind_some,if_pos rfl,lower_eq (by omega),Option.bind_some,lower_eq (by omega)]; rfl
theorem sameJ {a : GAnchor} {n : ByteArray} (ha : isNm a.fName) (hn : isNm n) : m_ref03_Same a.fName n = some (isOf n a):=by
  obtain ⟨x,h1,h2⟩:=ha
  obtain ⟨y,h3,h4⟩:=hn
  rw [rsame_nm h1 h2 h3 h4]
  congr 1
  unfold isOf
  rw [decide_eq_decide]
  exact (lowB_iff h1 h3).symm
theorem del_anch {l : List GAnchor} (hl : l.length ≤ 1000) (h : ∀ a ∈ l,isNm a.fName) {o : GOrder} (ho : o.fName.size ≤ 300) : m_slices_DeleteFunc_30 l o = some (l.filter fun a=>!isOf o.fName a):=by
  have hix : m_slices_IndexFunc_65 l o = some (fndI (fndX (isOf o.fName) l 0)):=by
    have:=idx_loop (isOf o.fName) (l:=l) (by omega) (fun s=>m_slices_IndexFunc_65_s2 l o s) (fun i=>by
      simp only [m_slices_IndexFunc_65_s2]
      split
      · cases ha : at_ l i with
        | none=>rfl
        | some x=>rw [Option.bind_some,Option.bind_some,c1_cd (h x (at_mem' ha)) ho,Option.bind_some]
      · rfl) l [] rfl
    rw [m_slices_IndexFunc_65]
    erw [this]
    rw [List.length_nil]
    cases fndX (isOf o.fName) l 0 with
    | none=>rfl
    | some z=>rfl
  exact delf_eqM (isOf o.fName) (by omega) _ (fun s=>m_slices_DeleteFunc_30_s2 o s.1 s.2.1 s.2.2) hix (fun q i j hq=>by
    simp only [m_slices_DeleteFunc_30_s2]
    split
    · cases ha : at_ q j with
      | none=>rfl
      | some x=>rw [Option.bind_some,Option.bind_some,c1_cd (h x (hq x (at_mem' ha))) ho,Option.bind_some]
    · rfl)
/-! ### The sort -/
def cmpJ (a b : ByteArray) : Int:=if sless a b = true then -1 else if a = b then 0 else 1
theorem cmp_cd (a b : ByteArray) : m_cmp_Compare_35 a b = some (cmpJ a b):=by
  have h : ∀ x : ByteArray,m_cmp_isNaN_69 x = some false:=fun x=>by rw [m_cmp_isNaN_69]; simp
  rw [m_cmp_Compare_35,h,h,Option.bind_some,Option.bind_some,if_neg (by simp),if_neg (by simp),cmpJ]
  by_cases c : sless a b = true
  · rw [if_pos c,if_pos c]
  · rw [if_neg c,if_neg c]
    by_cases e : a = b
    · rw [if_neg (by simp [e]),if_pos e]
    · rw [if_pos (by simp [e,c]),if_neg e]
theorem c2_cd {x y : GAnchor} (hx : x.fName.size ≤ 300) (hy : y.fName.size ≤ 300) : m_conf_Apply_c2 x y = some (cmpJ (lowB x.fName) (lowB y.fName)):=by
  rw [m_conf_Apply_c2,lower_eq (by omega),Option.bind_some,lower_eq (by omega),Option.bind_some,cmp_cd]; rfl
theorem cmp_neg (a b : ByteArray) : decide (cmpJ a b < 0) = sless a b:=by
  unfold cmpJ
  by_cases c : sless a b = true
  · rw [if_pos c,c]; rfl
  · rw [if_neg c]
    have : sless a b = false:=by simpa using c
    rw [this]
    split <;> rfl
open Classical in
theorem sort_some {α : Type} {cm : α→α→Option Int} {a : α} {l : List α} (h : sortOk cm (a::l)) : ∃ r,sortM cm (a::l) = some r:=⟨_,if_pos h⟩
theorem sort_cd {l : List GAnchor} (h : ∀ a ∈ l,a.fName.size ≤ 300) (hl : l.length ≤ 1000) : ∃ r,m_slices_SortFunc_33 l = some r∧r.Perm l:=by
  have key : ∃ r,m_slices_SortFunc_33 l = some r:=by
    unfold m_slices_SortFunc_33
    cases l with
    | nil=>exact ⟨_,rfl⟩
    | cons a l=>
      have hk : ∀ x y : {x // x ∈ a::l},ltOf (cfM (fun x y=>m_conf_Apply_c2 x y) (a::l)) x y = sless (lowB x.1.fName) (lowB y.1.fName):=fun x y=>by
        unfold ltOf cfM
        simp only [c2_cd (h _ x.2) (h _ y.2),Option.getD_some]
        exact cmp_neg _ _
      refine sort_some ⟨fun x hx y hy=>by simp only; rw [c2_cd (h _ hx) (h _ hy)]; rfl,⟨fun x=>?_,fun x y z=>?_,fun x y z=>?_⟩,by omega⟩
      · rw [hk]; exact sless_irr _
      · rw [hk,hk,hk]; exact sl_trans
      · rw [hk,hk,hk]
        intro h1 h2
        cases h3 : sless (lowB x.1.fName) (lowB z.1.fName) with
        | false=>rfl
        | true=>
          rcases sl_tri (lowB x.1.fName) (lowB y.1.fName) with g | g | g
          · rw [g] at h1; cases h1
          · rw [g] at h3; rw [h3] at h2; cases h2
          · rw [sl_trans g h3] at h2; cases h2
  obtain ⟨r,hr⟩:=key
  exact ⟨r,hr,(sortM_facts hr).1⟩
/-! ### An order of an anchor -/
def anc (L : List GAnchor) : GConf:=⟨[],[],L,0,[]⟩
structure AOk (L : List GAnchor) : Prop where
  nm : ∀ a ∈ L,isNm a.fName
  tx : ∀ a ∈ L,a.fText.size ≤ 60
  le : L.length ≤ 16
def nextL (L : List GAnchor) (n t : ByteArray) : List GAnchor:=(L.filter fun a=>!isOf n a)++(if t = ⟨#[]⟩ then [] else [⟨n,t⟩])
theorem noneJ : m_conf_none [(⟨#[]⟩ : ByteArray)] = some true:=by decide +kernel
theorem bsJ : m_slices_BinarySearch_27 [] 0 = some (0,false):=by decide +kernel
open Classical in
theorem chk4 {n t : ByteArray} (hn : n.size ≤ 60) (ht : t.size ≤ 60) : m_conf_Check_k4 0 n t ⟨#[]⟩ [] = some (if isNm n then 0 else 1):=by
  rw [m_conf_Check_k4,if_pos rfl,m_conf_Check_k4_j1,m_conf_Check_k4_j3,if_neg (by decide),if_pos (by simp),namedJ (by omega),Option.bind_some]
  by_cases h : isNm n
  · rw [if_pos (by simp [h]),if_pos (by omega),noneJ,Option.bind_some,if_pos h]; rfl
  · rw [if_neg (by simp [h]),if_neg h]; rfl
theorem anch_no {L : List GAnchor} {n t : ByteArray} (hn : n.size ≤ 60) (ht : t.size ≤ 60) (h : ¬ isNm n) : m_conf_Apply_k4 (anc L) 0 n t ⟨#[]⟩ [] = some (anc L,1):=by
  rw [m_conf_Apply_k4,chk4 hn ht,Option.bind_some,if_neg h,if_pos (by decide)]
theorem anch_go {L : List GAnchor} (hL : AOk L) {n t : ByteArray} (hn : n.size ≤ 60) (ht : t.size ≤ 60) (h : isNm n) : m_conf_Apply_k4 (anc L) 0 n t ⟨#[]⟩ [] = m_conf_Apply_k4_j3 (anc L) [] [] [] (nextL L n t):=by
  have hl:=hL.le
  rw [m_conf_Apply_k4,chk4 hn ht,Option.bind_some,if_pos h,if_neg (by decide)]
  simp only [anc]
  rw [show m_slices_Clone_23 [] = some [] from rfl,Option.bind_some,show m_slices_Clone_24 [] = some [] from rfl,Option.bind_some,m_slices_Clone_25,app_of (by simp only [List.length_nil]; omega),Option.bind_some,Option.bind_some,show m_slices_Clone_26 [] = some [] from rfl,Option.bind_some,List.nil_append,m_conf_Apply_k4_j1,bsJ,Option.bind_some,del_anch (by omega) hL.nm (by simp only; omega),Option.bind_some]
  simp only [nextL]
  have hf:=List.length_filter_le (fun a=>!isOf n a) L
  by_cases e : t = ⟨#[]⟩
  · rw [if_pos e,if_pos e,List.append_nil]
  · rw [if_neg e,if_neg e,app_of (by simp only [List.length_singleton]; omega),Option.bind_some]
theorem anch_full {L : List GAnchor} (hL : AOk L) {n t : ByteArray} (hn : n.size ≤ 60) (ht : t.size ≤ 60) (h : isNm n) (hE : 16 < (nextL L n t).length) : m_conf_Apply_k4 (anc L) 0 n t ⟨#[]⟩ [] = some (anc L,15):=by
  rw [anch_go hL hn ht h,m_conf_Apply_k4_j3,if_pos (by omega)]
theorem next_mem {L : List GAnchor} (hL : AOk L) {n t : ByteArray} (ht : t.size ≤ 60) (h : isNm n) : ∀ a ∈ nextL L n t,isNm a.fName∧a.fText.size ≤ 60:=by
  intro a ha
  rcases List.mem_append.1 ha with ha | ha
  · have:=(List.mem_filter.1 ha).1
    exact ⟨hL.nm a this,hL.tx a this⟩
  · split at ha
    · cases ha
    · rw [List.mem_singleton] at ha; subst ha; exact ⟨h,ht⟩
theorem anch_ok {L : List GAnchor} (hL : AOk L) {n t : ByteArray} (hn : n.size ≤ 60) (ht : t.size ≤ 60) (h : isNm n) (hE : ¬ 16 < (nextL L n t).length) :
    ∃ r,r.Perm (nextL L n t)∧AOk r∧m_conf_Apply_k4 (anc L) 0 n t ⟨#[]⟩ [] = some (anc r,0):=by
  have hm:=next_mem hL ht h
  obtain ⟨r,h1,h2⟩:=sort_cd (l:=nextL L n t) (fun a ha=>by obtain ⟨_,_,g⟩:=(hm a ha).1; omega) (by omega)
  refine ⟨r,h2,⟨fun a ha=>(hm a (h2.mem_iff.1 ha)).1,fun a ha=>(hm a (h2.mem_iff.1 ha)).2,by rw [h2.length_eq]; omega⟩,?_⟩
  rw [anch_go hL hn ht h,m_conf_Apply_k4_j3,if_neg (by omega),h1,Option.bind_some,m_conf_Apply_k4_j2]
  rfl
/-! ### The law -/
theorem had_loop {L : List GAnchor} (hL : AOk L) {n : ByteArray} (h : isNm n) : loop (fun s=>m_law13_ConfAnchors_s10 L n s.1 s.2) (false,0) = some (L.any (isOf n)):=by
  have hl:=hL.le
  refine loop_run L.length (fun k=>((L.take k).any (isOf n),(k : Int))) _ (by simp) (fun k hk=>?_) ?_
  · show m_law13_ConfAnchors_s10 L n ((L.take k).any (isOf n)) (k : Int) = _
    rw [m_law13_ConfAnchors_s10,if_pos (by omega),at_nat hk,Option.bind_some,sameJ (hL.nm _ (List.getElem_mem hk)) h,Option.bind_some,w64_id (by omega) (by omega),List.take_succ_eq_append_getElem hk,List.any_append]
    cases c : (L.take k).any (isOf n) with
    | true=>rw [if_pos rfl]; rfl
    | false=>rw [if_neg (by simp)]; simp
  · show m_law13_ConfAnchors_s10 L n ((L.take L.length).any (isOf n)) (L.length : Int) = _
    rw [m_law13_ConfAnchors_s10,if_neg (by omega),List.take_length]
theorem found_loop {r : List GAnchor} (hr : AOk r) {n : ByteArray} (h : isNm n) : ∃ s,loop (fun s=>m_law13_ConfAnchors_s9 (anc r) n s.1 s.2) ((⟨#[]⟩ : ByteArray),0) = some s∧bytesI s = (r.filter (isOf n)).flatMap fun a=>bytesI a.fText:=by
  have hl:=hr.le
  refine loop_rule (step:=fun s=>m_law13_ConfAnchors_s9 (anc r) n s.1 s.2) (fun x=>∃ k : Nat,x.2 = k∧k ≤ r.length∧x.1.size ≤ 60 * k∧bytesI x.1 = ((r.take k).filter (isOf n)).flatMap fun a=>bytesI a.fText) (fun x=>(r.length - x.2).toNat) (fun s=>bytesI s = (r.filter (isOf n)).flatMap fun a=>bytesI a.fText) (fun x hx=>?_) ⟨0,rfl,by omega,by show (0 : Nat) ≤ _; omega,rfl⟩
  obtain ⟨u,i⟩:=x
  obtain ⟨k,h1,h2,h3,h4⟩:=hx
  simp only at h1 h3 h4 ⊢
  subst h1
  by_cases hk : k < r.length
  · left
    have ht:=hr.tx _ (List.getElem_mem hk)
    have key : m_law13_ConfAnchors_s9 (anc r) n u (k : Int) = if isOf n r[k] = true then (sadd u r[k].fText).bind fun s=>some (.inl (s,((k + 1 : Nat) : Int))) else some (.inl (u,((k + 1 : Nat) : Int))):=by
      rw [m_law13_ConfAnchors_s9,if_pos (show (k : Int) < ((anc r).fAnchors.length : Int) by show (k : Int) < (r.length : Int); omega)]
      simp only [anc]
      rw [at_nat hk,Option.bind_some,sameJ (hr.nm _ (List.getElem_mem hk)) h,Option.bind_some,w64_id (by omega) (by omega)]
      rfl
    by_cases c : isOf n r[k] = true
    · rw [if_pos c,sadd_of (by omega),Option.bind_some] at key
      refine ⟨_,key,⟨k + 1,by simp,hk,by rw [ByteArray.size_append]; omega,?_⟩,by simp only; omega⟩
      rw [bytesI_append,h4,List.take_succ_eq_append_getElem hk,List.filter_append,List.flatMap_append]
      simp [c]
    · rw [if_neg c] at key
      refine ⟨_,key,⟨k + 1,by simp,hk,by simp only; omega,?_⟩,by simp only; omega⟩
      rw [h4,List.take_succ_eq_append_getElem hk,List.filter_append,List.flatMap_append]
      simp [c]
  · right
    have e : k = r.length:=by omega
    subst e
    have key : m_law13_ConfAnchors_s9 (anc r) n u (r.length : Int) = some (.inr u):=by
      rw [m_law13_ConfAnchors_s9,if_neg (show ¬ (r.length : Int) < ((anc r).fAnchors.length : Int) by show ¬ (r.length : Int) < (r.length : Int); omega)]
    exact ⟨u,key,by rw [h4,List.take_length]⟩
theorem found_is {L r : List GAnchor} {n t s : ByteArray} (hp : r.Perm (nextL L n t)) (hs : bytesI s = (r.filter (isOf n)).flatMap fun a=>bytesI a.fText) : s = t:=by
  have h1:=hp.filter (isOf n)
  have h2 : (nextL L n t).filter (isOf n) = if t = ⟨#[]⟩ then [] else [⟨n,t⟩]:=by
    unfold nextL
    rw [List.filter_append,List.filter_filter]
    have : (L.filter fun a=>isOf n a && !isOf n a) = []:=List.filter_eq_nil_iff.2 (fun a _=>by cases isOf n a <;> simp)
    rw [this,List.nil_append]
    split
    · rfl
    · rw [List.filter_cons_of_pos (by unfold isOf; simp)]; rfl
  rw [h2] at h1
  apply bytesI_inj
  rw [hs]
  by_cases e : t = ⟨#[]⟩
  · rw [if_pos e] at h1
    rw [h1.eq_nil,e]; rfl
  · rw [if_neg e] at h1
    rw [List.perm_singleton.1 h1]; simp
def fullB (L : List GAnchor) (n t : ByteArray) : Bool:=decide (L.length = 16) && (!(L.any (isOf n)) && !(decide (t = ⟨#[]⟩)))
theorem full_iff {L : List GAnchor} (hL : AOk L) (n t : ByteArray) : 16 < (nextL L n t).length↔fullB L n t = true:=by
  have hl:=hL.le
  have hf:=List.length_filter_le (fun a=>!isOf n a) L
  unfold fullB
  simp only [Bool.and_eq_true,decide_eq_true_eq,Bool.not_eq_true',decide_eq_false_iff_not]
  unfold nextL
  rw [List.length_append]
  by_cases e : t = ⟨#[]⟩
  · rw [if_pos e]
    simp only [List.length_nil]
    exact ⟨fun g=>by omega,fun g=>absurd e g.2.2⟩
  · rw [if_neg e]
    simp only [List.length_singleton]
    by_cases c : L.any (isOf n) = true
    · have hlt : (L.filter fun a=>!isOf n a).length < L.length:=by
        obtain ⟨a,ha,hc⟩:=List.any_eq_true.1 c
        exact List.length_filter_lt_length_iff_exists.2 ⟨a,ha,by simp [hc]⟩
      exact ⟨fun g=>by omega,fun g=>by rw [g.2.1] at c; cases c⟩
    · have hc : L.any (isOf n) = false:=by simpa using c
      have he : (L.filter fun a=>!isOf n a) = L:=List.filter_eq_self.2 (fun a ha=>by
        have:=List.any_eq_false.1 hc a ha
        simpa using this)
      rw [he]
      exact ⟨fun g=>⟨by omega,hc,e⟩,fun g=>by omega⟩
theorem j4_eq (L : List GAnchor) (n t : ByteArray) (e : Int) (d : GConf) (i : Int) : m_law13_ConfAnchors_j4 L e d n i t (L.any (isOf n)) = m_law13_ConfAnchors_j5 e d n i t (fullB L n t):=by
  rw [m_law13_ConfAnchors_j4,fullB]
  by_cases c : (L.length : Int) = 16
  · have c' : L.length = 16:=by omega
    rw [if_pos c,decide_eq_true c',Bool.true_and]
    cases L.any (isOf n) with
    | true=>rw [if_pos rfl]; rfl
    | false=>rw [if_neg (by simp),Bool.not_false,Bool.true_and]
  · have c' : ¬ L.length = 16:=by omega
    rw [if_neg c,decide_eq_false c',Bool.false_and]
theorem j3_cd {L : List GAnchor} (hL : AOk L) {n t : ByteArray} (hn : n.size ≤ 60) (ht : t.size ≤ 60) (i : Int) : ∃ r,AOk r∧m_law13_ConfAnchors_j3 [] [] L 0 [] i n t = some (.inl (w64 (i + 1),[],[],r,0,[])):=by
  obtain ⟨e,e1,e2⟩:=rchkJ (n:=n) (by omega)
  rw [m_law13_ConfAnchors_j3]
  by_cases h : isNm n
  case neg=>
    have:=anch_no (L:=L) hn ht h
    unfold anc at this
    rw [this,Option.bind_some,e1,Option.bind_some,if_pos (fun g=>h (e2.1 g)),if_neg (by simp)]
    exact ⟨L,hL,rfl⟩
  have hl:=hL.le
  by_cases c : 16 < (nextL L n t).length
  · have hf:=(full_iff hL n t).1 c
    have:=anch_full hL hn ht h c
    obtain ⟨s,s1,s2⟩:=found_loop hL h
    unfold anc at this s1
    rw [this,Option.bind_some,e1,Option.bind_some,if_neg (fun g=>g (e2.2 h)),had_loop hL h,Option.bind_some]
    simp only
    rw [j4_eq,m_law13_ConfAnchors_j5,hf,if_neg (by simp),if_pos rfl]
    simp only
    rw [if_neg (by omega),m_law13_ConfAnchors_j6,s1,Option.bind_some,m_law13_ConfAnchors_j7,if_pos rfl,m_law13_ConfAnchors_j8]
    exact ⟨L,hL,rfl⟩
  · have hf : fullB L n t = false:=by
      cases g : fullB L n t with
      | false=>rfl
      | true=>exact absurd ((full_iff hL n t).2 g) c
    obtain ⟨r,p1,p2,p3⟩:=anch_ok hL hn ht h c
    obtain ⟨s,s1,s2⟩:=found_loop p2 h
    have hs:=found_is p1 s2
    have hrl:=p2.le
    unfold anc at p3 s1
    rw [p3,Option.bind_some,e1,Option.bind_some,if_neg (fun g=>g (e2.2 h)),had_loop hL h,Option.bind_some]
    simp only
    rw [j4_eq,m_law13_ConfAnchors_j5,hf,if_neg (by simp),if_neg (by simp),if_neg (by simp)]
    simp only
    rw [if_neg (by omega),m_law13_ConfAnchors_j6,s1,Option.bind_some,m_law13_ConfAnchors_j7,if_neg (by simp),if_pos hs,m_law13_ConfAnchors_j8]
    exact ⟨r,p2,rfl⟩
theorem q_ConfAnchors (p0 : List GAnchor) (h0 : (p0.length ≤ 9223372036854775807∧∀ a ∈ p0,GAnchor.ok a)) : m_law13_ConfAnchors p0 = some true:=by
  obtain ⟨r,g1,g2⟩:=loop_rule (step:=fun s : Int×(List Int)×(List ByteArray)×(List GAnchor)×Int×(List GFlush)=>m_law13_ConfAnchors_s2 p0 s.1 s.2.1 s.2.2.1 s.2.2.2.1 s.2.2.2.2.1 s.2.2.2.2.2)
    (fun s=>∃ (i : Nat) (L : List GAnchor),i ≤ 60∧AOk L∧s = ((i : Int),[],[],L,0,[])) (fun s=>(60 - s.1).toNat) (fun r=>r = .inl ())
    (by
      rintro s ⟨i,L,hi,hL,rfl⟩
      simp only
      rw [m_law13_ConfAnchors_s2]
      by_cases c1 : (i : Int) < (p0.length : Int)
      · by_cases c2 : (i : Int) < 60
        · left
          have hil : i < p0.length:=by omega
          have hok:=h0.2 _ (List.getElem_mem hil)
          obtain ⟨n,n1,n2⟩:=shortJ (s:=p0[i].fName) 60 hok.1
          obtain ⟨t,t1,t2⟩:=shortJ (s:=p0[i].fText) 60 hok.2
          replace n1 : m_law13_short p0[i].fName 60 = some n:=n1
          replace t1 : m_law13_short p0[i].fText 60 = some t:=t1
          obtain ⟨r,k1,k2⟩:=j3_cd hL n2 t2 (i : Int)
          rw [w64_id (by omega) (by omega)] at k2
          rw [if_pos c1,if_pos c2,at_nat hil,Option.bind_some,Option.bind_some,n1,Option.bind_some,t1,Option.bind_some,k2]
          exact ⟨_,rfl,⟨i + 1,r,by omega,k1,by simp⟩,by simp only; omega⟩
        · right; rw [if_pos c1,if_neg c2]; exact ⟨_,rfl,rfl⟩
      · right; rw [if_neg c1]; exact ⟨_,rfl,rfl⟩)
    (s0:=(0,([] : List Int),([] : List ByteArray),([] : List GAnchor),0,([] : List GFlush))) ⟨0,[],by omega,⟨(fun _ h=>by cases h),(fun _ h=>by cases h),by simp⟩,rfl⟩
  rw [m_law13_ConfAnchors,awakeJ,Option.bind_some,g1,g2]
  rfl
end Go.Proofs.Ythpjodfjdnnckaa
