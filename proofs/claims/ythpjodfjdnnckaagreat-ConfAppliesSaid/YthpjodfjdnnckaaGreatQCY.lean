import Derived.Test.YthpjodfjdnnckaaGreatKCY
set_option linter.unusedVariables false
set_option linter.unusedSimpArgs false
set_option maxRecDepth 16384
namespace Go.Proofs.YthpjodfjdnnckaaGreat
open Go.RowKit
def encB (ls : List ByteArray) : List Int:=ls.flatMap fun s=>(s.size : Int)::bytesI s
def okLs (ls : List ByteArray) : Prop:=∀ s ∈ ls,1 ≤ s.size∧s.size ≤ 63
instance (ls : List ByteArray) : Decidable (okLs ls):=by unfold okLs; infer_instance
/-- n is the name of the labels ls. -/
def Nm (n : ByteArray) (ls : List ByteArray) : Prop:=okLs ls∧bytesI n = encB ls++[0]
def starts : Nat→List ByteArray→List (Int×ByteArray)
  | _,[]=>[]
  | a,s::ls=>((a : Int),s)::starts (a + 1 + s.size) ls
/-- The bytes of a row are at its end: nothing, or a 0 ahead. -/
def endR (l : List Int) : Prop:=l = [] ∨ ∃ r,l = 0::r
theorem encB_cons (s : ByteArray) (ls : List ByteArray) : encB (s::ls) = (s.size : Int)::bytesI s++encB ls:=by simp [encB]
theorem drop_byte {n : ByteArray} {a : Nat} {x : Int} {r : List Int} (h : (bytesI n).drop a = x::r) : a < n.size∧byteAt n (a : Int) = x∧(bytesI n).drop (a + 1) = r:=by
  have hl : a < (bytesI n).length:=by
    by_cases hc : a < (bytesI n).length
    · exact hc
    · rw [List.drop_of_length_le (by omega)] at h; cases h
  have hs : a < n.size:=by rw [size_bytes]; exact hl
  rw [List.drop_eq_getElem_cons hl] at h
  injection h with h1 h2
  rw [bytesI_get n a hs] at h1
  exact ⟨hs,h1,h2⟩
theorem drop_app {n : ByteArray} {a : Nat} {s : ByteArray} {r : List Int} (h : (bytesI n).drop a = bytesI s++r) : n.extract a (a + s.size) = s∧a + s.size ≤ max n.size a∧(bytesI n).drop (a + s.size) = r:=by
  have hs:=size_bytes s
  have hn:=size_bytes n
  have hl:=congrArg List.length h
  rw [List.length_drop,List.length_append] at hl
  refine ⟨bytesI_inj ?_,by omega,?_⟩
  · rw [bytesI_extract,List.drop_take,h,show a + s.size - a = (bytesI s).length by omega,List.take_left]
  · rw [← List.drop_drop,h,hs,List.drop_left]
theorem drop_none {n : ByteArray} {a : Nat} (h : (bytesI n).drop a = []) : n.size ≤ a:=by
  rw [size_bytes]; exact List.drop_eq_nil_iff.1 h
theorem okLs_cons {s : ByteArray} {ls : List ByteArray} : okLs (s::ls)↔(1 ≤ s.size∧s.size ≤ 63)∧okLs ls:=by
  simp [okLs]
theorem eachAt_end {n : ByteArray} {a : Nat} (h : endR ((bytesI n).drop a)) (f : Nat) : eachAt n f a = ([],(a : Int)):=by
  cases f with
  | zero=>rfl
  | succ f=>
    rw [eachAt,if_neg]
    rcases h with h | ⟨r,h⟩
    · have:=drop_none h; omega
    · have:=(drop_byte h).2.1; simp [this]
theorem eachAt_enc {n : ByteArray} {rest : List Int} (hr : endR rest) : ∀ (ls : List ByteArray) (a f : Nat),okLs ls→(bytesI n).drop a = encB ls++rest→ls.length ≤ f→
    eachAt n f a = (starts a ls,((a + (encB ls).length : Nat) : Int)):=by
  intro ls
  induction ls with
  | nil=>
    intro a f _ h _
    exact eachAt_end (by rw [h]; exact hr) f
  | cons s ls ih=>
    intro a f hok h hf
    obtain ⟨hs,hok⟩:=okLs_cons.1 hok
    obtain ⟨f,rfl⟩ : ∃ g,f = g + 1:=⟨f - 1,by simp at hf; omega⟩
    rw [encB_cons] at h
    simp only [List.cons_append,List.append_assoc] at h
    obtain ⟨h1,h2,h3⟩:=drop_byte h
    obtain ⟨h4,h5,h6⟩:=drop_app h3
    rw [eachAt,if_pos ⟨h1,by rw [h2]; omega⟩,h2,if_neg (by omega)]
    have:=ih (a + 1 + s.size) f hok (by rw [← h6]) (by simp at hf; omega)
    simp only [Int.toNat_natCast]
    rw [this,h4,starts,encB_cons]
    congr 2
    simp only [List.length_append,List.length_cons,← size_bytes]
    omega
theorem eachAt_any {n : ByteArray} : ∀ (f a : Nat),n.size ≤ a + f→a ≤ n.size→(eachAt n f a).2 = -1 ∨ ∃ ls rest,okLs ls∧(bytesI n).drop a = encB ls++rest∧endR rest:=by
  intro f
  induction f with
  | zero=>
    intro a h1 h2
    exact .inr ⟨[],[],(fun _ h=>by cases h),by rw [List.drop_of_length_le (by rw [← size_bytes]; omega)]; rfl,.inl rfl⟩
  | succ f ih=>
    intro a h1 h2
    rw [eachAt]
    by_cases hc : a < n.size∧byteAt n a ≠ 0
    · rw [if_pos hc]
      by_cases hb : 63 < byteAt n a ∨ n.size < a + 1 + (byteAt n a).toNat
      · rw [if_pos hb]; exact .inl rfl
      · rw [if_neg hb]
        have hr:=byteAt_lt n a
        rcases ih (a + 1 + (byteAt n a).toNat) (by omega) (by omega) with h | ⟨ls,rest,h3,h4,h5⟩
        · exact .inl h
        · have hsz : (n.extract (a + 1) (a + 1 + (byteAt n a).toNat)).size = (byteAt n a).toNat:=by
            rw [ByteArray.size_extract]; omega
          refine .inr ⟨n.extract (a + 1) (a + 1 + (byteAt n a).toNat)::ls,rest,okLs_cons.2 ⟨by rw [hsz]; omega,h3⟩,?_,h5⟩
          have hl : a < (bytesI n).length:=by rw [← size_bytes]; exact hc.1
          rw [List.drop_eq_getElem_cons hl,bytesI_get n a hc.1,encB_cons,hsz,bytesI_extract]
          simp only [List.cons_append,List.append_assoc]
          have h6 : (bytesI n).drop (a + 1 + (byteAt n a).toNat) = ((bytesI n).drop (a + 1)).drop (byteAt n a).toNat:=by rw [List.drop_drop]
          rw [← h4,List.drop_take,h6,show a + 1 + (byteAt n a).toNat - (a + 1) = (byteAt n a).toNat by omega,List.take_append_drop]
          congr 1
          omega
    · rw [if_neg hc]
      refine .inr ⟨[],(bytesI n).drop a,(fun _ h=>by cases h),rfl,?_⟩
      by_cases ha : a < n.size
      · have hl : a < (bytesI n).length:=by rw [← size_bytes]; exact ha
        have : byteAt n a = 0:=Classical.byContradiction fun h=>hc ⟨ha,h⟩
        rw [List.drop_eq_getElem_cons hl,bytesI_get n a ha,this]
        exact .inr ⟨_,rfl⟩
      · rw [List.drop_of_length_le (by rw [← size_bytes]; omega)]; exact .inl rfl
theorem nm_size {n : ByteArray} {ls : List ByteArray} (h : Nm n ls) : n.size = (encB ls).length + 1:=by
  rw [size_bytes,h.2]; simp
theorem len_enc (ls : List ByteArray) : ls.length ≤ (encB ls).length:=by
  induction ls with
  | nil=>simp
  | cons s ls ih=>rw [encB_cons]; simp; omega
theorem each_nm {n : ByteArray} {ls : List ByteArray} (h : Nm n ls) : eachP n = (starts 0 ls,(n.size : Int) - 1):=by
  have hl:=len_enc ls
  have hs:=nm_size h
  rw [eachP,eachAt_enc (rest:=[0]) (.inr ⟨[],rfl⟩) ls 0 n.size h.1 (by rw [List.drop_zero,h.2]) (by omega)]
  congr 1
  omega
theorem each_no {n : ByteArray} (h : ¬ ∃ ls,Nm n ls) : (eachP n).2 ≠ (n.size : Int) - 1 ∨ (eachP n).2 < 0:=by
  rcases eachAt_any (n:=n) n.size 0 (by omega) (by omega) with h1 | ⟨ls,rest,h1,h2,h3⟩
  · rw [eachP,h1]; exact .inr (by omega)
  · left
    have hl:=len_enc ls
    have hlen:=congrArg List.length h2
    rw [List.drop_zero,← size_bytes,List.length_append] at hlen
    rw [eachP,eachAt_enc h3 ls 0 n.size h1 h2 (by omega)]
    intro hc
    refine h ⟨ls,h1,?_⟩
    rw [List.drop_zero] at h2
    rw [h2]
    congr 1
    simp only at hc
    rcases h3 with rfl | ⟨r,rfl⟩
    · simp at hlen; omega
    · simp only [List.length_cons] at hlen
      rw [List.length_eq_zero_iff.1 (by omega : r.length = 0)]
theorem starts_snd (a : Nat) (ls : List ByteArray) : (starts a ls).map Prod.snd = ls:=by
  induction ls generalizing a with
  | nil=>rfl
  | cons s ls ih=>simp [starts,ih]
theorem nm_inj {n : ByteArray} {a b : List ByteArray} (h : Nm n a) (h' : Nm n b) : a = b:=by
  have:=(each_nm h).symm.trans (each_nm h')
  injection this with h1 _
  have:=congrArg (List.map Prod.snd) h1
  rwa [starts_snd,starts_snd] at this
open Go.RowKit
theorem eachM_of {n : ByteArray} (hs : n.size ≤ 1099511627776) : eachM n = some (eachP n):=if_pos hs
theorem labels_nm {n : ByteArray} {ls : List ByteArray} (h : Nm n ls) (hs : n.size ≤ 255) : m_name_Labels n = some (ls,0):=by
  have:=nm_size h
  rw [m_name_Labels,eachM_of (by omega),Option.bind_some,each_nm h,w64_id (by omega) (by omega),if_neg (fun h=>h rfl),if_neg (by omega),if_neg (by omega),starts_snd]
theorem labels_big {n : ByteArray} {ls : List ByteArray} (h : Nm n ls) (hs : 255 < n.size) (hb : n.size ≤ 1099511627776) : m_name_Labels n = some ([],11):=by
  rw [m_name_Labels,eachM_of (by omega),Option.bind_some,each_nm h,w64_id (by omega) (by omega),if_neg (fun h=>h rfl),if_neg (by omega),if_pos (by omega)]
theorem labels_no {n : ByteArray} (h : ¬ ∃ ls,Nm n ls) (hb : n.size ≤ 1099511627776) : m_name_Labels n = some ([],10):=by
  rw [m_name_Labels,eachM_of (by omega),Option.bind_some,w64_id (by omega) (by omega)]
  rcases each_no h with h | h
  · rw [if_pos h]
  · rw [if_pos h]
    split <;> rfl
theorem check_nm {n : ByteArray} {ls : List ByteArray} (h : Nm n ls) (hs : n.size ≤ 255) : m_name_Check n = some 0:=by
  rw [m_name_Check,labels_nm h hs]; rfl
theorem check_big {n : ByteArray} {ls : List ByteArray} (h : Nm n ls) (hs : 255 < n.size) (hb : n.size ≤ 1099511627776) : m_name_Check n = some 11:=by
  rw [m_name_Check,labels_big h hs hb]; rfl
theorem check_no {n : ByteArray} (h : ¬ ∃ ls,Nm n ls) (hb : n.size ≤ 1099511627776) : m_name_Check n = some 10:=by
  rw [m_name_Check,labels_no h hb]; rfl
theorem nm_cases (n : ByteArray) : (∃ ls,Nm n ls∧n.size ≤ 255) ∨ (∃ ls,Nm n ls∧255 < n.size) ∨ ¬ ∃ ls,Nm n ls:=by
  by_cases h : ∃ ls,Nm n ls
  · obtain ⟨ls,h⟩:=h
    by_cases hs : n.size ≤ 255
    · exact .inl ⟨ls,h,hs⟩
    · exact .inr (.inl ⟨ls,h,by omega⟩)
  · exact .inr (.inr h)
theorem row_step {n : ByteArray} (hn : n.size ≤ 1099511627776) {a : Nat} {out : List ByteArray} (ha : a ≤ n.size) (ho : out.length ≤ a) :
    m_ref03_row_s2 n out (a : Int) = if a < n.size∧byteAt n a ≠ 0 then (if 63 < byteAt n a ∨ n.size < a + 1 + (byteAt n a).toNat then some (.inr (.inr ([],false)))
      else some (.inl (out++[n.extract (a + 1) (a + 1 + (byteAt n a).toNat)],((a + 1 + (byteAt n a).toNat : Nat) : Int)))) else some (.inr (.inl (out,(a : Int)))):=by
  rw [m_ref03_row_s2]
  by_cases hc : a < n.size
  · have hb:=byteAt_lt n a
    rw [if_pos (show (a : Int) < n.size by omega),sat_of (by omega) (by omega),Option.bind_some]
    by_cases h0 : byteAt n a ≠ 0
    · rw [if_pos h0,if_pos ⟨hc,h0⟩,Option.bind_some,w64_id (by omega) (by omega)]
      by_cases h1 : 63 < byteAt n a
      · rw [if_pos h1,if_pos (.inl h1)]
      · rw [if_neg h1,w64_id (x:=(a : Int) + 1) (by omega) (by omega),w64_id (x:=(a : Int) + 1 + byteAt n a) (by omega) (by omega)]
        by_cases h2 : n.size < a + 1 + (byteAt n a).toNat
        · rw [if_pos (by omega),if_pos (.inr h2)]
        · rw [if_neg (by omega),if_neg (by omega),scutMid,if_pos ⟨by omega,by omega,by omega⟩,Option.bind_some,app_of (by simp; omega),Option.bind_some,
            show ((a : Int) + 1).toNat = a + 1 by omega,show ((a : Int) + 1 + byteAt n a).toNat = a + 1 + (byteAt n a).toNat by omega]
          congr 4
          omega
    · rw [if_neg h0,if_neg (fun h=>h0 h.2)]
  · rw [if_neg (by omega),if_neg (fun h=>hc h.1)]
theorem row_loop {n : ByteArray} (hn : n.size ≤ 1099511627776) : ∀ (f a : Nat) (out : List ByteArray),n.size ≤ a + f→a ≤ n.size→out.length ≤ a→
    loop (fun s=>m_ref03_row_s2 n s.1 s.2) (out,(a : Int)) = some (if (eachAt n f a).2 = -1 then .inr ([],false) else .inl (out++(eachAt n f a).1.map Prod.snd,(eachAt n f a).2)):=by
  intro f
  induction f with
  | zero=>
    intro a out h1 h2 h3
    rw [loop_inr (by simp only [row_step hn h2 h3]; rw [if_neg (by omega)])]
    simp only [eachAt,List.map_nil,List.append_nil]
    rw [if_neg (by omega)]
  | succ f ih=>
    intro a out h1 h2 h3
    have hb:=byteAt_lt n a
    by_cases hc : a < n.size∧byteAt n a ≠ 0
    · by_cases h4 : 63 < byteAt n a ∨ n.size < a + 1 + (byteAt n a).toNat
      · rw [loop_inr (by simp only [row_step hn h2 h3]; rw [if_pos hc,if_pos h4])]
        rw [eachAt,if_pos hc,if_pos h4,if_pos rfl]
      · rw [loop_inl (by simp only [row_step hn h2 h3]; rw [if_pos hc,if_neg h4]),ih _ _ (by omega) (by omega) (by simp; omega)]
        rw [eachAt,if_pos hc,if_neg h4]
        simp only [List.map_cons,List.append_assoc,List.singleton_append]
    · rw [loop_inr (by simp only [row_step hn h2 h3]; rw [if_neg hc])]
      rw [eachAt,if_neg hc]
      simp only [List.map_nil,List.append_nil]
      rw [if_neg (by omega)]
theorem row_nm {n : ByteArray} {ls : List ByteArray} (h : Nm n ls) (hb : n.size ≤ 1099511627776) : m_ref03_row n = some (ls,true):=by
  have hs:=nm_size h
  have:=row_loop hb n.size 0 [] (by omega) (by omega) (by simp)
  rw [← eachP,each_nm h,if_neg (by simp only; omega)] at this
  rw [m_ref03_row]
  erw [this]
  simp only [Option.bind_some,Sum.elim_inl,m_ref03_row_j1,List.nil_append,starts_snd]
  rw [w64_id (by omega) (by omega),decide_eq_true rfl]
theorem row_no {n : ByteArray} (h : ¬ ∃ ls,Nm n ls) (hb : n.size ≤ 1099511627776) : ∃ l,m_ref03_row n = some (l,false):=by
  have:=row_loop hb n.size 0 [] (by omega) (by omega) (by simp)
  rw [← eachP] at this
  rw [m_ref03_row]
  erw [this]
  by_cases h1 : (eachP n).2 = -1
  · rw [if_pos h1]; exact ⟨_,rfl⟩
  · rw [if_neg h1]
    refine ⟨[]++(eachP n).1.map Prod.snd,?_⟩
    simp only [Option.bind_some,Sum.elim_inl,m_ref03_row_j1]
    rw [w64_id (by omega) (by omega)]
    rw [decide_eq_false]
    intro h2
    rcases each_no h with h3 | h3
    · exact h3 h2
    · rcases eachAt_any (n:=n) n.size 0 (by omega) (by omega) with h4 | ⟨ls,rest,h4,h5,h6⟩
      · exact h1 h4
      · have hl:=len_enc ls
        have hlen:=congrArg List.length h5
        rw [List.drop_zero,← size_bytes,List.length_append] at hlen
        rw [eachP,eachAt_enc h6 ls 0 n.size h4 h5 (by omega)] at h3
        simp only at h3
        omega
theorem rcheck_nm {n : ByteArray} {ls : List ByteArray} (h : Nm n ls) (hs : n.size ≤ 255) : m_ref03_Check n = some 0:=by
  rw [m_ref03_Check,row_nm h (by omega)]
  simp only [Option.bind_some,if_true]
  rw [if_neg (by omega)]
theorem rcheck_big {n : ByteArray} {ls : List ByteArray} (h : Nm n ls) (hs : 255 < n.size) (hb : n.size ≤ 1099511627776) : m_ref03_Check n = some 11:=by
  rw [m_ref03_Check,row_nm h (by omega)]
  simp only [Option.bind_some,if_true]
  rw [if_pos (by omega)]
theorem rcheck_no {n : ByteArray} (h : ¬ ∃ ls,Nm n ls) (hb : n.size ≤ 1099511627776) : m_ref03_Check n = some 10:=by
  obtain ⟨l,hl⟩:=row_no h hb
  rw [m_ref03_Check,hl]
  simp
theorem rlabels_nm {n : ByteArray} {ls : List ByteArray} (h : Nm n ls) (hs : n.size ≤ 255) : m_ref03_Labels n = some (ls,0):=by
  rw [m_ref03_Labels,rcheck_nm h hs,Option.bind_some,if_neg (by simp),row_nm h (by omega)]; rfl
theorem rlabels_big {n : ByteArray} {ls : List ByteArray} (h : Nm n ls) (hs : 255 < n.size) (hb : n.size ≤ 1099511627776) : m_ref03_Labels n = some ([],11):=by
  rw [m_ref03_Labels,rcheck_big h hs hb]; rfl
theorem rlabels_no {n : ByteArray} (h : ¬ ∃ ls,Nm n ls) (hb : n.size ≤ 1099511627776) : m_ref03_Labels n = some ([],10):=by
  rw [m_ref03_Labels,rcheck_no h hb]; rfl
open Go.RowKit
theorem depth_nm {n : ByteArray} {ls : List ByteArray} (h : Nm n ls) (hs : n.size ≤ 255) : m_name_Depth n = some (ls.length : Int):=by
  rw [m_name_Depth,labels_nm h hs,Option.bind_some,if_neg (fun h=>h rfl)]
theorem depth_big {n : ByteArray} {ls : List ByteArray} (h : Nm n ls) (hs : 255 < n.size) (hb : n.size ≤ 1099511627776) : m_name_Depth n = some (-1):=by
  rw [m_name_Depth,labels_big h hs hb]; rfl
theorem depth_no {n : ByteArray} (h : ¬ ∃ ls,Nm n ls) (hb : n.size ≤ 1099511627776) : m_name_Depth n = some (-1):=by
  rw [m_name_Depth,labels_no h hb]; rfl
def low (c : Int) : Int:=if 65 ≤ c∧c ≤ 90 then c + 32 else c
def lowB (n : ByteArray) : ByteArray:=strOfNums ((bytesI n).map low)
theorem low_range {c : Int} (h : 0 ≤ c∧c ≤ 255) : 0 ≤ low c∧low c ≤ 255:=by unfold low; split <;> omega
theorem lowB_bytes (n : ByteArray) : bytesI (lowB n) = (bytesI n).map low:=bytesI_str (by
  intro x hx
  obtain ⟨y,hy,rfl⟩:=List.mem_map.1 hx
  exact low_range (bytesI_range n y hy))
theorem lowB_size (n : ByteArray) : (lowB n).size = n.size:=by rw [size_bytes,lowB_bytes,List.length_map,← size_bytes]
theorem or_low {c : Int} (h : 65 ≤ c∧c ≤ 90) : orI .u8 c 32 = c + 32:=by
  obtain ⟨k,hk⟩:=Int.eq_ofNat_of_zero_le (by omega : 0 ≤ c - 65)
  have hc : c = 65 + (k : Int):=by omega
  subst hc
  have : ∀ k : Fin 26,orI .u8 (65 + ((k.val : Nat) : Int)) 32 = 65 + ((k.val : Nat) : Int) + 32:=by decide +kernel
  exact this ⟨k,by omega⟩
/-- One byte after the other made small. -/
theorem low_loop (step : List Int→Int→Option ((List Int×Int) ⊕ List Int)) {n : ByteArray} (hn : n.size ≤ 1099511627776)
    (hs : ∀ (l : List Int) (k : Nat),l.length = n.size→step l (k : Int) = if k < n.size then some (.inl (l.set k (low (l.getD k 0)),((k + 1 : Nat) : Int))) else some (.inr l)) :
    loop (fun s=>step s.1 s.2) (bytesI n,0) = some ((bytesI n).map low):=by
  have hl:=size_bytes n
  refine loop_run (step:=fun s=>step s.1 s.2) n.size (fun k=>(((bytesI n).take k).map low++(bytesI n).drop k,(k : Int))) _ (by simp) (fun k hk=>?_) ?_
  · rw [hs _ _ (by simp; omega),if_pos hk]
    congr 3
    have e1 : (bytesI n).drop k = (bytesI n)[k]::(bytesI n).drop (k + 1):=List.drop_eq_getElem_cons (by omega)
    rw [e1,List.take_succ_eq_append_getElem (by omega),List.map_append]
    have hlen : (((bytesI n).take k).map low).length = k:=by simp; omega
    rw [List.getD_eq_getElem?_getD,List.getElem?_append_right (by omega),hlen,Nat.sub_self,List.set_append_right _ _ (by omega),hlen,Nat.sub_self]
    simp only [List.set_cons_zero,List.getElem?_cons_zero,Option.getD_some,List.map_cons,List.map_nil,List.append_assoc,List.cons_append,List.nil_append]
  · rw [hs _ _ (by simp; omega),if_neg (by omega),List.take_of_length_le (by omega),List.drop_of_length_le (by omega),List.append_nil]
theorem at_getD0 {l : List Int} {k : Nat} (h : k < l.length) : at_ l (k : Int) = some (l.getD k 0):=by
  rw [at_nat h,List.getD_eq_getElem?_getD,List.getElem?_eq_getElem h]; rfl
theorem set_same (l : List Int) (k : Nat) (hk : k < l.length) : l.set k (l.getD k 0) = l:=by
  rw [List.getD_eq_getElem?_getD,List.getElem?_eq_getElem hk]; simp
theorem lower_eq {n : ByteArray} (hn : n.size ≤ 1099511627776) : m_name_Lower n = some (lowB n):=by
  have hl:=size_bytes n
  rw [m_name_Lower]
  erw [low_loop (m_name_Lower_s2 n) hn (fun l k hlen=>?_)]
  · rfl
  rw [m_name_Lower_s2]
  by_cases hk : k < n.size
  · rw [if_pos (by omega),if_pos hk,at_getD0 (by omega),Option.bind_some,Option.bind_some,w64_id (by omega) (by omega)]
    by_cases h1 : 65 ≤ l.getD k 0
    · rw [if_pos h1]
      by_cases h2 : l.getD k 0 ≤ 90
      · rw [if_pos h2,Option.bind_some,Option.bind_some,or_low ⟨h1,h2⟩,setAt,if_pos ⟨by omega,by omega⟩,Option.bind_some,low,if_pos ⟨h1,h2⟩]; rfl
      · rw [if_neg h2,low,if_neg (fun h=>h2 h.2),set_same l k (by omega)]; rfl
    · rw [if_neg h1,low,if_neg (fun h=>h1 h.1),set_same l k (by omega)]; rfl
  · rw [if_neg (by omega),if_neg hk]
theorem low_small {c : Int} (h : c ≤ 63) : low c = c:=by unfold low; rw [if_neg (by omega)]
theorem low_zero {c : Int} : low c = 0↔c = 0:=by unfold low; split <;> omega
theorem low_big {c : Int} : 63 < low c↔63 < c:=by unfold low; split <;> omega
theorem byteAt_low (n : ByteArray) (a : Nat) : byteAt (lowB n) a = low (byteAt n a):=by
  by_cases h : a < n.size
  · rw [← bytesI_get n a h,← bytesI_get (lowB n) a (by rw [lowB_size]; exact h)]
    simp only [lowB_bytes,List.getElem_map]
  · unfold byteAt
    rw [dif_neg (by rw [lowB_size]; simp; omega),dif_neg (by simp; omega)]; rfl
theorem extract_low (n : ByteArray) (i j : Nat) : (lowB n).extract i j = lowB (n.extract i j):=bytesI_inj (by
  rw [bytesI_extract,lowB_bytes,lowB_bytes,bytesI_extract,List.map_drop,List.map_take])
theorem eachAt_low (n : ByteArray) : ∀ (f a : Nat),eachAt (lowB n) f a = ((eachAt n f a).1.map (fun x=>(x.1,lowB x.2)),(eachAt n f a).2):=by
  intro f
  induction f with
  | zero=>intro a; rfl
  | succ f ih=>
    intro a
    rw [eachAt,eachAt,lowB_size,byteAt_low]
    by_cases h1 : a < n.size∧byteAt n a ≠ 0
    · rw [if_pos h1,if_pos ⟨h1.1,fun h=>h1.2 (low_zero.1 h)⟩]
      by_cases h2 : 63 < byteAt n a
      · rw [if_pos (.inl (low_big.2 h2)),if_pos (.inl h2)]; rfl
      · rw [low_small (by omega)]
        by_cases h3 : 63 < byteAt n a ∨ n.size < a + 1 + (byteAt n a).toNat
        · rw [if_pos h3,if_pos h3]; rfl
        · rw [if_neg h3,if_neg h3,ih,extract_low]; rfl
    · rw [if_neg h1,if_neg (fun h=>h1 ⟨h.1,fun h'=>h.2 (low_zero.2 h')⟩)]; rfl
theorem encB_low {ls : List ByteArray} (h : okLs ls) : encB (ls.map lowB) = (encB ls).map low:=by
  induction ls with
  | nil=>rfl
  | cons s ls ih=>
    have:=okLs_cons.1 h
    rw [List.map_cons,encB_cons,encB_cons,ih this.2,lowB_size,lowB_bytes,List.map_append,List.map_cons,low_small (by omega)]
theorem okLs_low {ls : List ByteArray} (h : okLs ls) : okLs (ls.map lowB):=by
  intro s hs
  obtain ⟨t,ht,rfl⟩:=List.mem_map.1 hs
  rw [lowB_size]; exact h t ht
theorem nm_low {n : ByteArray} {ls : List ByteArray} (h : Nm n ls) : Nm (lowB n) (ls.map lowB):=⟨okLs_low h.1,by
  rw [lowB_bytes,h.2,List.map_append,encB_low h.1]; rfl⟩
theorem nm_iff (n : ByteArray) : (∃ ls,Nm n ls)↔(eachP n).2 = (n.size : Int) - 1∧0 ≤ (eachP n).2:=by
  constructor
  · rintro ⟨ls,h⟩
    have:=nm_size h
    rw [each_nm h]; exact ⟨rfl,by simp only; omega⟩
  · intro h
    by_cases hc : ∃ ls,Nm n ls
    · exact hc
    · rcases each_no hc with h1 | h1
      · exact absurd h.1 h1
      · omega
theorem nm_low_no {n : ByteArray} (h : ¬ ∃ ls,Nm n ls) : ¬ ∃ ls,Nm (lowB n) ls:=by
  rw [nm_iff] at h ⊢
  rw [eachP,lowB_size,eachAt_low]
  exact h
/-- In place the other way round. -/
theorem rev_loop (l : List ByteArray) (hl : l.length ≤ 1099511627776) : m_slices_Reverse_122 l = some l.reverse:=by
  obtain ⟨r,h1,rfl⟩:=loop_rule (step:=fun s : List ByteArray×Int×Int=>m_slices_Reverse_122_s2 s.1 s.2.1 s.2.2)
    (fun s=>∃ i j : Nat,s.2.1 = (i : Int)∧s.2.2 = (j : Int) - 1∧i + j = l.length∧s.1.length = l.length∧i ≤ j + 1∧∀ t,t < l.length→s.1[t]? = if t < i ∨ j ≤ t then l[l.length - 1 - t]? else l[t]?)
    (fun s=>(s.2.2 + 1 - s.2.1).toNat + 1) (fun r=>r = l.reverse)
    (by
      rintro ⟨q,i',j'⟩ ⟨i,j,g1,g2,g3,g4,g5,g6⟩
      simp only at g1 g2 g4 g6
      subst g1 g2
      simp only
      rw [m_slices_Reverse_122_s2]
      by_cases hc : i + 1 < j
      · left
        have hj : (j : Int) - 1 = ((j - 1 : Nat) : Int):=by omega
        rw [if_pos (by omega),hj,at_nat (by omega),Option.bind_some,at_nat (by omega),Option.bind_some,Option.bind_some,setAt,if_pos ⟨by omega,by omega⟩,Option.bind_some,at_nat (by rw [List.length_set]; omega),Option.bind_some,setAt,if_pos ⟨by omega,by rw [List.length_set]; omega⟩,Option.bind_some,w64_id (by omega) (by omega),w64_id (by omega) (by omega)]
        refine ⟨_,rfl,⟨i + 1,j - 1,by simp only; omega,rfl,by omega,by simp only [List.length_set]; omega,by omega,fun t ht=>?_⟩,by simp only; omega⟩
        have gi:=g6 i (by omega)
        have gj:=g6 (j - 1) (by omega)
        rw [if_neg (by omega)] at gi gj
        have ei : q[i]'(by omega) = l[i]'(by omega):=by
          have : some (q[i]'(by omega)) = some (l[i]'(by omega)):=by rw [← List.getElem?_eq_getElem,← List.getElem?_eq_getElem]; exact gi
          injection this
        have ej : q[j - 1]'(by omega) = l[j - 1]'(by omega):=by
          have : some (q[j - 1]'(by omega)) = some (l[j - 1]'(by omega)):=by rw [← List.getElem?_eq_getElem,← List.getElem?_eq_getElem]; exact gj
          injection this
        simp only [Int.toNat_natCast,List.getElem?_set,List.length_set]
        by_cases t1 : j - 1 = t
        · subst t1
          rw [if_pos rfl,if_pos (by omega),if_pos (by omega),show l.length - 1 - (j - 1) = i by omega,List.getElem?_eq_getElem (by omega),ei]
        · rw [if_neg t1]
          by_cases t2 : i = t
          · subst t2
            rw [if_pos rfl,if_pos (by omega),if_pos (by omega),show l.length - 1 - i = j - 1 by omega,List.getElem?_eq_getElem (by omega),ej]
          · rw [if_neg t2,g6 t ht]
            by_cases t3 : t < i ∨ j ≤ t
            · rw [if_pos t3,if_pos (by omega)]
            · rw [if_neg t3,if_neg (by omega)]
      · right
        refine ⟨q,by rw [if_neg (by omega)],?_⟩
        apply List.ext_getElem?
        intro t
        by_cases ht : t < l.length
        · rw [List.getElem?_reverse ht,g6 t ht]
          by_cases t3 : t < i ∨ j ≤ t
          · rw [if_pos t3]
          · rw [if_neg t3]; congr 1; omega
        · rw [List.getElem?_eq_none (by omega),List.getElem?_eq_none (by simp; omega)])
    (s0:=(l,0,(l.length : Int) - 1)) ⟨0,l.length,rfl,rfl,by omega,rfl,by omega,fun t ht=>by rw [if_neg (by omega)]⟩
  rw [m_slices_Reverse_122,w64_id (by omega) (by omega)]
  erw [h1]
  rfl
/-- A name's labels with small letters, the last one ahead. -/
def revL (ls : List ByteArray) : List ByteArray:=(ls.map lowB).reverse
theorem revL_len (ls : List ByteArray) : (revL ls).length = ls.length:=by simp [revL]
theorem nm_few {n : ByteArray} {ls : List ByteArray} (h : Nm n ls) (hs : n.size ≤ 255) : ls.length ≤ 254:=by
  have:=len_enc ls; have:=nm_size h; omega
theorem two_nm {a b : ByteArray} {x y : List ByteArray} (h : Nm a x) (hs : a.size ≤ 255) (h' : Nm b y) (hs' : b.size ≤ 255) : m_name_two a b = some (revL x,revL y,true):=by
  have:=nm_few h hs
  have:=nm_few h' hs'
  rw [m_name_two,lower_eq (by omega),Option.bind_some,labels_nm (nm_low h) (by rw [lowB_size]; exact hs),Option.bind_some,lower_eq (by omega),Option.bind_some,labels_nm (nm_low h') (by rw [lowB_size]; exact hs'),Option.bind_some,rev_loop _ (by simp; omega),Option.bind_some,rev_loop _ (by simp; omega),Option.bind_some,if_pos rfl]
  rfl
/-- It is a name of 255 bytes at most. -/
def isNm (n : ByteArray) : Prop:=∃ ls,Nm n ls∧n.size ≤ 255
theorem low_labels_no {a : ByteArray} (h : ¬ isNm a) (hb : a.size ≤ 1099511627776) : ∃ e,m_name_Labels (lowB a) = some ([],e)∧e ≠ 0:=by
  rcases nm_cases a with h1 | ⟨ls,h1,h2⟩ | h1
  · exact absurd h1 h
  · exact ⟨11,labels_big (nm_low h1) (by rw [lowB_size]; exact h2) (by rw [lowB_size]; exact hb),by omega⟩
  · exact ⟨10,labels_no (nm_low_no h1) (by rw [lowB_size]; exact hb),by omega⟩
theorem low_labels_any {a : ByteArray} (hb : a.size ≤ 1099511627776) : ∃ x e,m_name_Labels (lowB a) = some (x,e)∧x.length ≤ 1099511627776:=by
  by_cases h : isNm a
  · obtain ⟨ls,h1,h2⟩:=h
    have:=nm_few h1 h2
    exact ⟨_,0,labels_nm (nm_low h1) (by rw [lowB_size]; exact h2),by simp; omega⟩
  · obtain ⟨e,h1,_⟩:=low_labels_no h hb
    exact ⟨[],e,h1,by simp⟩
theorem two_no {a b : ByteArray} (h : ¬ (isNm a∧isNm b)) (ha : a.size ≤ 1099511627776) (hb : b.size ≤ 1099511627776) : ∃ x y,m_name_two a b = some (x,y,false):=by
  obtain ⟨x,e,h1,h2⟩:=low_labels_any ha
  obtain ⟨y,f,h3,h4⟩:=low_labels_any hb
  refine ⟨x.reverse,y.reverse,?_⟩
  rw [m_name_two,lower_eq ha,Option.bind_some,h1,Option.bind_some,lower_eq hb,Option.bind_some,h3,Option.bind_some,rev_loop _ h2,Option.bind_some,rev_loop _ h4,Option.bind_some]
  by_cases he : e = 0
  · rw [if_pos he]
    have hf : f ≠ 0:=by
      intro hf
      by_cases c1 : isNm a
      · obtain ⟨f',h5,h6⟩:=low_labels_no (fun hb'=>h ⟨c1,hb'⟩) hb
        rw [h3] at h5
        injection h5 with h5
        injection h5 with _ h5
        exact h6 (h5.symm.trans hf)
      · obtain ⟨f',h5,h6⟩:=low_labels_no c1 ha
        rw [h1] at h5
        injection h5 with h5
        injection h5 with _ h5
        exact h6 (h5.symm.trans he)
    rw [decide_eq_false hf]
  · rw [if_neg he]
/-- How many are alike ahead. -/
def cpl : List ByteArray→List ByteArray→Nat
  | x::xs,y::ys=>if x = y then cpl xs ys + 1 else 0
  | _,_=>0
theorem cpl_le : ∀ (x y : List ByteArray),cpl x y ≤ x.length∧cpl x y ≤ y.length
  | [],y=>by simp [cpl]
  | x::xs,[]=>by simp [cpl]
  | x::xs,y::ys=>by
    have:=cpl_le xs ys
    rw [cpl]; split <;> simp <;> omega
theorem cpl_lt : ∀ (x y : List ByteArray) (k : Nat),k < cpl x y→x[k]? = y[k]?∧k < x.length∧k < y.length
  | [],y,k,h=>by simp [cpl] at h
  | x::xs,[],k,h=>by simp [cpl] at h
  | x::xs,y::ys,k,h=>by
    rw [cpl] at h
    split at h
    · rename_i hxy
      cases k with
      | zero=>subst hxy; simp
      | succ k=>
        have:=cpl_lt xs ys k (by omega)
        simpa using this
    · omega
theorem cpl_end : ∀ (x y : List ByteArray),cpl x y < x.length→cpl x y < y.length→x[cpl x y]? ≠ y[cpl x y]?
  | [],y,h,_=>by simp at h
  | x::xs,[],_,h=>by simp at h
  | x::xs,y::ys,h1,h2=>by
    rw [cpl] at h1 h2 ⊢
    split
    · rename_i hxy
      rw [if_pos hxy] at h1 h2
      have:=cpl_end xs ys (by simpa using h1) (by simpa using h2)
      simpa using this
    · rename_i hxy
      simpa using hxy
theorem shared_nm {a b : ByteArray} {x y : List ByteArray} (h : Nm a x) (hs : a.size ≤ 255) (h' : Nm b y) (hs' : b.size ≤ 255) : m_name_Shared a b = some (cpl (revL x) (revL y) : Int):=by
  have f1:=nm_few h hs
  have f2:=nm_few h' hs'
  have g1:=revL_len x
  have g2:=revL_len y
  have hle:=cpl_le (revL x) (revL y)
  have:=loop_run (step:=fun s=>m_name_Shared_s2 (revL x) (revL y) s) (cpl (revL x) (revL y)) (fun k=>(k : Int)) ((cpl (revL x) (revL y) : Nat) : Int) (s0:=0) rfl
    (fun k hk=>by
      obtain ⟨e1,e2,e3⟩:=cpl_lt _ _ k hk
      rw [List.getElem?_eq_getElem e2,List.getElem?_eq_getElem e3] at e1
      injection e1 with e1
      simp only [m_name_Shared_s2,m_name_Shared_c1]
      rw [if_pos (by omega),if_pos (by omega),at_nat e2,Option.bind_some,at_nat e3,Option.bind_some,Option.bind_some,if_pos (decide_eq_true e1),w64_id (by omega) (by omega)]
      rfl)
    (by
      simp only [m_name_Shared_s2,m_name_Shared_c1]
      by_cases c1 : cpl (revL x) (revL y) < (revL x).length
      · rw [if_pos (by omega)]
        by_cases c2 : cpl (revL x) (revL y) < (revL y).length
        · have hne:=cpl_end _ _ c1 c2
          rw [List.getElem?_eq_getElem c1,List.getElem?_eq_getElem c2] at hne
          rw [if_pos (by omega),at_nat c1,Option.bind_some,at_nat c2,Option.bind_some,Option.bind_some,if_neg]
          intro hd
          exact hne (congrArg some (of_decide_eq_true hd))
        · rw [if_neg (by omega)]; rfl
      · rw [if_neg (by omega)]; rfl)
  rw [m_name_Shared,two_nm h hs h' hs',Option.bind_some,if_pos rfl]
  erw [this]
  rfl
theorem shared_no {a b : ByteArray} (h : ¬ (isNm a∧isNm b)) (ha : a.size ≤ 1099511627776) (hb : b.size ≤ 1099511627776) : m_name_Shared a b = some (-1):=by
  obtain ⟨x,y,h1⟩:=two_no h ha hb
  rw [m_name_Shared,h1]; rfl
theorem depth_not {n : ByteArray} (h : ¬ isNm n) (hb : n.size ≤ 1099511627776) : m_name_Depth n = some (-1):=by
  rcases nm_cases n with h1 | ⟨ls,h1,h2⟩ | h1
  · exact absurd h1 h
  · exact depth_big h1 h2 hb
  · exact depth_no h1 hb
theorem under_nm {a b : ByteArray} {x y : List ByteArray} (h : Nm a x) (hs : a.size ≤ 255) (h' : Nm b y) (hs' : b.size ≤ 255) : m_name_Under a b = some (decide (cpl (revL x) (revL y) = y.length)):=by
  rw [m_name_Under,depth_nm h' hs',Option.bind_some,if_pos (by omega),shared_nm h hs h' hs',Option.bind_some]
  congr 1
  exact decide_eq_decide.2 (by omega)
theorem under_no {a b : ByteArray} (h : ¬ (isNm a∧isNm b)) (ha : a.size ≤ 1099511627776) (hb : b.size ≤ 1099511627776) : m_name_Under a b = some false:=by
  by_cases c : isNm b
  · obtain ⟨y,h1,h2⟩:=c
    rw [m_name_Under,depth_nm h1 h2,Option.bind_some,if_pos (by omega),shared_no h ha hb,Option.bind_some,decide_eq_false (by omega)]
  · rw [m_name_Under,depth_not c hb,Option.bind_some,if_neg (by omega)]
open Go.RowKit
theorem root_nm : Nm (⟨#[0]⟩ : ByteArray) []:=⟨by decide +kernel,by decide +kernel⟩
theorem rdepth_nm {n : ByteArray} {ls : List ByteArray} (h : Nm n ls) (hs : n.size ≤ 255) : m_ref03_Depth n = some (ls.length : Int):=by
  rw [m_ref03_Depth,rlabels_nm h hs,Option.bind_some,if_neg (fun h=>h rfl)]
open Go.RowKit
theorem rlower_eq {n : ByteArray} (hn : n.size ≤ 1099511627776) : m_ref03_Lower n = some (lowB n):=by
  have hl:=size_bytes n
  rw [m_ref03_Lower]
  erw [low_loop (m_ref03_Lower_s2 n) hn (fun l k hlen=>?_)]
  · rfl
  rw [m_ref03_Lower_s2]
  by_cases hk : k < n.size
  · rw [if_pos (by omega),if_pos hk,at_getD0 (by omega),Option.bind_some,Option.bind_some,w64_id (by omega) (by omega)]
    by_cases h1 : 65 ≤ l.getD k 0
    · rw [if_pos h1]
      by_cases h2 : l.getD k 0 ≤ 90
      · rw [if_pos h2,Option.bind_some,Option.bind_some,wrapu8 (by omega) (by omega),setAt,if_pos ⟨by omega,by omega⟩,Option.bind_some,low,if_pos ⟨h1,h2⟩]; rfl
      · rw [if_neg h2,low,if_neg (fun h=>h2 h.2),set_same l k (by omega)]; rfl
    · rw [if_neg h1,low,if_neg (fun h=>h1 h.1),set_same l k (by omega)]; rfl
  · rw [if_neg (by omega),if_neg hk]
theorem revL_get {ls : List ByteArray} {k : Nat} (h : k < ls.length) : (revL ls)[k]? = some (lowB (ls[ls.length - 1 - k]'(by omega))):=by
  rw [revL,List.getElem?_reverse (by simpa using h),List.length_map,List.getElem?_map,List.getElem?_eq_getElem (by omega)]; rfl
theorem nm_lab {n : ByteArray} {ls : List ByteArray} (h : Nm n ls) : ∀ s ∈ ls,s.size ≤ 63:=fun s hs=>(h.1 s hs).2
theorem rshared_nm {a b : ByteArray} {x y : List ByteArray} (h : Nm a x) (hs : a.size ≤ 255) (h' : Nm b y) (hs' : b.size ≤ 255) : m_ref03_Shared a b = some (cpl (revL x) (revL y) : Int):=by
  have f1:=nm_few h hs
  have f2:=nm_few h' hs'
  have g1:=revL_len x
  have g2:=revL_len y
  have hle:=cpl_le (revL x) (revL y)
  have hgo : ∀ (k : Nat) (c1 : k < x.length) (c2 : k < y.length),m_ref03_Shared_s2 x y (k : Int) = if (revL x)[k]? = (revL y)[k]? then some (.inl ((k + 1 : Nat) : Int)) else some (.inr (k : Int)):=by
    intro k c1 c2
    have e1 : x[x.length - 1 - k].size ≤ 63:=nm_lab h _ (List.getElem_mem _)
    have e2 : y[y.length - 1 - k].size ≤ 63:=nm_lab h' _ (List.getElem_mem _)
    rw [m_ref03_Shared_s2,if_pos (by omega),if_pos (by omega),w64_id (x:=(x.length : Int) - 1) (by omega) (by omega),w64_id (x:=(y.length : Int) - 1) (by omega) (by omega),w64_id (x:=(x.length : Int) - 1 - k) (by omega) (by omega),w64_id (x:=(y.length : Int) - 1 - k) (by omega) (by omega),w64_id (by omega) (by omega),
      show (x.length : Int) - 1 - k = ((x.length - 1 - k : Nat) : Int) by omega,show (y.length : Int) - 1 - k = ((y.length - 1 - k : Nat) : Int) by omega,at_nat (by omega),Option.bind_some,at_nat (by omega),Option.bind_some,rlower_eq (by omega),Option.bind_some,rlower_eq (by omega),Option.bind_some,revL_get c1,revL_get c2]
    by_cases hc : lowB x[x.length - 1 - k] = lowB y[y.length - 1 - k]
    · rw [if_pos hc,if_pos (by rw [hc])]; rfl
    · rw [if_neg hc,if_neg (fun h=>hc (Option.some.inj h))]
  have:=loop_run (step:=fun s=>m_ref03_Shared_s2 x y s) (cpl (revL x) (revL y)) (fun k=>(k : Int)) ((cpl (revL x) (revL y) : Nat) : Int) (s0:=0) rfl
    (fun k hk=>by
      obtain ⟨e1,e2,e3⟩:=cpl_lt _ _ k hk
      rw [hgo k (by omega) (by omega),if_pos e1])
    (by
      by_cases c : cpl (revL x) (revL y) < x.length∧cpl (revL x) (revL y) < y.length
      · rw [hgo _ c.1 c.2,if_neg (cpl_end _ _ (by omega) (by omega))]
      · rw [m_ref03_Shared_s2]
        by_cases c1 : cpl (revL x) (revL y) < x.length
        · rw [if_pos (by omega),if_neg (by omega)]
        · rw [if_neg (by omega)])
  rw [m_ref03_Shared,rlabels_nm h hs,Option.bind_some,rlabels_nm h' hs',Option.bind_some,if_neg (fun h=>h rfl),if_neg (fun h=>h rfl)]
  erw [this]
  rfl
theorem rlabels_not {n : ByteArray} (h : ¬ isNm n) (hb : n.size ≤ 1099511627776) : ∃ e,m_ref03_Labels n = some ([],e)∧e ≠ 0:=by
  rcases nm_cases n with h1 | ⟨ls,h1,h2⟩ | h1
  · exact absurd h1 h
  · exact ⟨11,rlabels_big h1 h2 hb,by omega⟩
  · exact ⟨10,rlabels_no h1 hb,by omega⟩
theorem rshared_no {a b : ByteArray} (h : ¬ (isNm a∧isNm b)) (ha : a.size ≤ 1099511627776) (hb : b.size ≤ 1099511627776) : m_ref03_Shared a b = some (-1):=by
  by_cases c : isNm a
  · obtain ⟨e,e1,e2⟩:=rlabels_not (fun hb'=>h ⟨c,hb'⟩) hb
    obtain ⟨x,x1,x2⟩:=c
    rw [m_ref03_Shared,rlabels_nm x1 x2,Option.bind_some,e1,Option.bind_some,if_neg (fun h=>h rfl),if_pos e2]
  · obtain ⟨e,e1,e2⟩:=rlabels_not c ha
    by_cases c2 : isNm b
    · obtain ⟨y,y1,y2⟩:=c2
      rw [m_ref03_Shared,e1,Option.bind_some,rlabels_nm y1 y2,Option.bind_some,if_pos e2]
    · obtain ⟨f,f1,f2⟩:=rlabels_not c2 hb
      rw [m_ref03_Shared,e1,Option.bind_some,f1,Option.bind_some,if_pos e2]
theorem check_not {n : ByteArray} (h : ¬ isNm n) (hb : n.size ≤ 1099511627776) : ∃ e,m_name_Check n = some e∧e ≠ 0:=by
  rcases nm_cases n with h1 | ⟨ls,h1,h2⟩ | h1
  · exact absurd h1 h
  · exact ⟨11,check_big h1 h2 hb,by omega⟩
  · exact ⟨10,check_no h1 hb,by omega⟩
theorem runder_nm {a b : ByteArray} {x y : List ByteArray} (h : Nm a x) (hs : a.size ≤ 255) (h' : Nm b y) (hs' : b.size ≤ 255) : m_ref03_Under a b = some (decide (cpl (revL x) (revL y) = y.length)):=by
  rw [m_ref03_Under,rshared_nm h hs h' hs',Option.bind_some,if_pos (by omega),rdepth_nm h' hs',Option.bind_some]
  exact congrArg some (decide_eq_decide.2 (by omega))
theorem runder_no {a b : ByteArray} (h : ¬ (isNm a∧isNm b)) (ha : a.size ≤ 1099511627776) (hb : b.size ≤ 1099511627776) : m_ref03_Under a b = some false:=by
  rw [m_ref03_Under,rshared_no h ha hb]; rfl
theorem bless_irr (l : List UInt8) : Op.bytesLess l l = false:=by
  induction l with
  | nil=>rfl
  | cons x l ih=>simp [Op.bytesLess,ih]
theorem sless_irr (a : ByteArray) : sless a a = false:=bless_irr _
open Go.RowKit
theorem bl_tri : ∀ x y : List UInt8,Op.bytesLess x y = true ∨ x = y ∨ Op.bytesLess y x = true
  | [],[]=>Or.inr (Or.inl rfl)
  | [],_::_=>Or.inl rfl
  | _::_,[]=>Or.inr (Or.inr rfl)
  | a::x,b::y=>by
    simp only [Op.bytesLess,Bool.or_eq_true,Bool.and_eq_true,decide_eq_true_eq,beq_iff_eq,List.cons.injEq]
    rcases bl_tri x y with h | h | h
    · rcases Nat.lt_trichotomy a.toNat b.toNat with g | g | g
      · exact Or.inl (Or.inl (UInt8.lt_iff_toNat_lt.2 g))
      · exact Or.inl (Or.inr ⟨UInt8.toNat_inj.1 g,h⟩)
      · exact Or.inr (Or.inr (Or.inl (UInt8.lt_iff_toNat_lt.2 g)))
    · rcases Nat.lt_trichotomy a.toNat b.toNat with g | g | g
      · exact Or.inl (Or.inl (UInt8.lt_iff_toNat_lt.2 g))
      · exact Or.inr (Or.inl ⟨UInt8.toNat_inj.1 g,h⟩)
      · exact Or.inr (Or.inr (Or.inl (UInt8.lt_iff_toNat_lt.2 g)))
    · rcases Nat.lt_trichotomy a.toNat b.toNat with g | g | g
      · exact Or.inl (Or.inl (UInt8.lt_iff_toNat_lt.2 g))
      · exact Or.inr (Or.inr (Or.inr ⟨(UInt8.toNat_inj.1 g).symm,h⟩))
      · exact Or.inr (Or.inr (Or.inl (UInt8.lt_iff_toNat_lt.2 g)))
theorem bl_trans : ∀ x y z : List UInt8,Op.bytesLess x y = true→Op.bytesLess y z = true→Op.bytesLess x z = true
  | _,_,[],_,h=>by simp [Op.bytesLess] at h
  | _,[],_::_,h,_=>by simp [Op.bytesLess] at h
  | [],_::_,_::_,_,_=>rfl
  | a::x,b::y,c::z,h1,h2=>by
    simp only [Op.bytesLess,Bool.or_eq_true,Bool.and_eq_true,decide_eq_true_eq,beq_iff_eq] at h1 h2 ⊢
    rcases h1 with h1 | ⟨rfl,h1⟩
    · rcases h2 with h2 | ⟨rfl,h2⟩
      · exact Or.inl (UInt8.lt_trans h1 h2)
      · exact Or.inl h1
    · rcases h2 with h2 | ⟨rfl,h2⟩
      · exact Or.inl h2
      · exact Or.inr ⟨rfl,bl_trans x y z h1 h2⟩
theorem ba_list {a b : ByteArray} : a.toList = b.toList↔a = b:=by
  rw [ByteArray.toList_eq,ByteArray.toList_eq]
  constructor
  · intro h; cases a; cases b; simp only [ByteArray.mk.injEq]; exact Array.toList_inj.1 h
  · rintro rfl; rfl
theorem sl_tri (a b : ByteArray) : sless a b = true ∨ a = b ∨ sless b a = true:=by
  rcases bl_tri a.toList b.toList with h | h | h
  · exact Or.inl h
  · exact Or.inr (Or.inl (ba_list.1 h))
  · exact Or.inr (Or.inr h)
theorem sl_trans {a b c : ByteArray} (h1 : sless a b = true) (h2 : sless b c = true) : sless a c = true:=bl_trans _ _ _ h1 h2
def ltL : List ByteArray→List ByteArray→Bool
  | _,[]=>false
  | [],_::_=>true
  | a::x,b::y=>if a = b then ltL x y else sless a b
theorem lt_trans : ∀ X Y Z : List ByteArray,ltL X Y = true→ltL Y Z = true→ltL X Z = true
  | _,_,[],_,h=>by simp [ltL] at h
  | _,[],_::_,h,_=>by simp [ltL] at h
  | [],_::_,_::_,_,_=>rfl
  | x::xs,y::ys,z::zs,h1,h2=>by
    rw [ltL] at h1 h2 ⊢
    by_cases e1 : x = y
    · subst e1
      rw [if_pos rfl] at h1
      by_cases e2 : x = z
      · subst e2
        rw [if_pos rfl] at h2 ⊢
        exact lt_trans xs ys zs h1 h2
      · rw [if_neg e2] at h2 ⊢; exact h2
    · rw [if_neg e1] at h1
      by_cases e2 : y = z
      · subst e2
        rw [if_neg e1]; exact h1
      · rw [if_neg e2] at h2
        have h3:=sl_trans h1 h2
        rw [if_neg]
        · exact h3
        · rintro rfl; rw [sless_irr] at h3; cases h3
theorem low_low (c : Int) : low (low c) = low c:=by
  unfold low
  split
  · rw [if_neg (by omega)]
  · rfl
theorem revL_low (ls : List ByteArray) : revL (ls.map lowB) = revL ls:=by
  rw [revL,revL,List.map_map]
  congr 1
  refine List.map_congr_left fun s _=>?_
  simp only [Function.comp_apply]
  rw [lowB,lowB_bytes,List.map_map]
  rw [lowB]
  congr 1
  exact List.map_congr_left fun c _=>low_low c
open Go.RowKit
open Go.RowKit
open Go.RowKit
theorem put_eq {l fb : List Int} {pl : List (ByteArray×Int)} (h : fb.length + l.length ≤ 1099511627776) : m_pack_Packer_put l ⟨fb,pl⟩ = some ⟨fb++l,pl⟩:=by
  rw [m_pack_Packer_put,app_of (by simp only; omega)]; rfl
open Go.RowKit
open Go.RowKit
def bn (v : Int) (k : Nat) : Int:=v / 2 ^ (8 * k) % 256
theorem bn_range (v : Int) (k : Nat) : 0 ≤ bn v k∧bn v k ≤ 255:=by unfold bn; omega
theorem number_step {v : Int} {k : Nat} {s : ByteArray} (hk : k ≤ 7) (hs : s.size ≤ 1099511627776) : m_ref04_Packer_Number_s2 v (k : Int) s = some (.inl ((k : Int) - 1,s++strOfNums [bn v k])):=by
  have hz : (strOfNums [bn v k]).size = 1:=by rw [size_bytes,bytesI_str (by intro x hx; simp only [List.mem_singleton] at hx; subst hx; exact bn_range v k)]; rfl
  rw [m_ref04_Packer_Number_s2,if_pos (by omega),w64_id (x:=8 * (k : Int)) (by omega) (by omega),wrapu64 (by omega) (by omega),shOk,if_pos (by omega),Option.bind_some,w64_id (by omega) (by omega)]
  have e : IntKind.u8.wrap (shrI .i64 v (8 * (k : Int))) = bn v k:=by
    rw [wu8_eq,shrI,bn,show (8 * (k : Int)).toNat = 8 * k by omega,show IntKind.i64.bits = 64 from rfl,Nat.min_eq_left (by omega)]
  rw [e,sadd_of (by omega)]; rfl
theorem number_end {v : Int} {s : ByteArray} : m_ref04_Packer_Number_s2 v (-1) s = some (.inr s):=by
  rw [m_ref04_Packer_Number_s2,if_neg (by omega)]
theorem str1_size (v : Int) (k : Nat) : (strOfNums [bn v k]).size = 1:=by
  rw [size_bytes,bytesI_str (by intro x hx; simp only [List.mem_singleton] at hx; subst hx; exact bn_range v k)]; rfl
theorem str1_bytes (v : Int) (k : Nat) : bytesI (strOfNums [bn v k]) = [bn v k]:=bytesI_str (by intro x hx; simp only [List.mem_singleton] at hx; subst hx; exact bn_range v k)
theorem number_n {v : Int} (o : Gref04_Packer) : ∀ (k : Nat) (s : ByteArray),k ≤ 8→s.size ≤ 1099511627000 + (8 - k)→
    ∃ t,loop (fun s=>m_ref04_Packer_Number_s2 v s.1 s.2) ((k : Int) - 1,s) = some t∧bytesI t = bytesI s++((List.range k).reverse.map (bn v)):=by
  intro k
  induction k with
  | zero=>intro s _ _; exact ⟨s,loop_inr number_end,by simp⟩
  | succ k ih=>
    intro s h1 h2
    obtain ⟨t,h3,h4⟩:=ih (s++strOfNums [bn v k]) (by omega) (by rw [ByteArray.size_append,str1_size]; omega)
    refine ⟨t,?_,?_⟩
    · rw [show ((k + 1 : Nat) : Int) - 1 = k by omega,loop_inl (by simp only; exact number_step (by omega) (by omega))]
      exact h3
    · rw [h4,bytesI_append,str1_bytes,List.range_succ,List.reverse_append,List.map_append,List.append_assoc]; rfl
theorem rnum_eq {v : Int} {o : Gref04_Packer} (k : Nat) (hk : k ≤ 4) (ho : o.fB.size ≤ 1099511627000) : ∃ t,m_ref04_Packer_Number v k o = some ⟨t,o.fL⟩∧bytesI t = bytesI o.fB++((List.range k).reverse.map (bn v)):=by
  obtain ⟨t,h1,h2⟩:=number_n (v:=v) o k o.fB (by omega) (by omega)
  refine ⟨t,?_,h2⟩
  rw [m_ref04_Packer_Number,w64_id (by omega) (by omega)]
  erw [h1]
  rfl
theorem bn0 (v : Int) : bn v 0 = v % 256:=by simp [bn]
theorem rnum1 {v : Int} {o : Gref04_Packer} (ho : o.fB.size ≤ 1099511627000) : ∃ t,m_ref04_Packer_Number v 1 o = some ⟨t,o.fL⟩∧bytesI t = bytesI o.fB++[v % 256]:=by
  have:=rnum_eq (v:=v) (o:=o) 1 (by omega) ho
  rwa [show (List.range 1).reverse.map (bn v) = [v % 256] by rw [← bn0]; rfl] at this
open Go.RowKit
/-- The labels of a name. -/
noncomputable def labU (n : ByteArray) : List ByteArray:=(Classical.epsilon fun ls=>Nm n ls)
theorem labU_eq {n : ByteArray} {ls : List ByteArray} (h : Nm n ls) : labU n = ls:=nm_inj (Classical.epsilon_spec (p:=fun ls=>Nm n ls) ⟨ls,h⟩) h
/-- a is under b. -/
noncomputable def undP (a b : ByteArray) : Bool:=@decide (isNm a∧isNm b∧revL (labU b) <+: revL (labU a)) (Classical.propDecidable _)
theorem cpl_pfx : ∀ X Y : List ByteArray,cpl X Y = Y.length↔Y <+: X
  | [],[]=>by simp [cpl]
  | [],_::_=>by simp [cpl]
  | _::_,[]=>by simp [cpl]
  | x::X,y::Y=>by
    rw [cpl,List.cons_prefix_cons,← cpl_pfx X Y]
    by_cases h : x = y
    · subst h; simp
    · rw [if_neg h]; simp [Ne.symm h]
theorem undP_t {a b : ByteArray} : undP a b = true↔isNm a∧isNm b∧revL (labU b) <+: revL (labU a):=by unfold undP; exact @decide_eq_true_iff _ (Classical.propDecidable _)
theorem undP_nm {a b : ByteArray} {x y : List ByteArray} (h : Nm a x) (hs : a.size ≤ 255) (h' : Nm b y) (hs' : b.size ≤ 255) : undP a b = decide (cpl (revL x) (revL y) = y.length):=by
  have hc:=cpl_pfx (revL x) (revL y)
  rw [revL_len] at hc
  have e : undP a b = true↔cpl (revL x) (revL y) = y.length:=by
    rw [undP_t,labU_eq h,labU_eq h',← hc]
    exact ⟨fun g=>g.2.2,fun g=>⟨⟨x,h,hs⟩,⟨y,h',hs'⟩,g⟩⟩
  cases hu : undP a b with
  | true=>exact (decide_eq_true (e.1 hu)).symm
  | false=>exact (decide_eq_false fun g=>by rw [e.2 g] at hu; cases hu).symm
theorem undP_no {a b : ByteArray} (h : ¬ (isNm a∧isNm b)) : undP a b = false:=by
  cases hu : undP a b with
  | false=>rfl
  | true=>exact absurd ⟨(undP_t.1 hu).1,(undP_t.1 hu).2.1⟩ h
theorem und_code {a b : ByteArray} (ha : a.size ≤ 1099511627776) (hb : b.size ≤ 1099511627776) : m_name_Under a b = some (undP a b):=by
  by_cases h : isNm a∧isNm b
  · obtain ⟨⟨x,x1,x2⟩,⟨y,y1,y2⟩⟩:=h
    rw [under_nm x1 x2 y1 y2,undP_nm x1 x2 y1 y2]
  · rw [under_no h ha hb,undP_no h]
theorem rund_code {a b : ByteArray} (ha : a.size ≤ 1099511627776) (hb : b.size ≤ 1099511627776) : m_ref03_Under a b = some (undP a b):=by
  by_cases h : isNm a∧isNm b
  · obtain ⟨⟨x,x1,x2⟩,⟨y,y1,y2⟩⟩:=h
    rw [runder_nm x1 x2 y1 y2,undP_nm x1 x2 y1 y2]
  · rw [runder_no h ha hb,undP_no h]
theorem isNm_low {z : ByteArray} (h : isNm z) : isNm (lowB z):=by
  obtain ⟨x,x1,x2⟩:=h
  exact ⟨x.map lowB,nm_low x1,by rw [lowB_size]; exact x2⟩
theorem und_low {n z : ByteArray} (hz : isNm z) : undP n (lowB z) = undP n z:=by
  by_cases hn : isNm n
  · obtain ⟨x,x1,x2⟩:=hn
    obtain ⟨y,y1,y2⟩:=hz
    rw [undP_nm x1 x2 y1 y2,undP_nm x1 x2 (nm_low y1) (by rw [lowB_size]; exact y2),revL_low,List.length_map]
  · rw [undP_no (fun h=>hn h.1),undP_no (fun h=>hn h.1)]
theorem und_trans {a b c : ByteArray} (h1 : undP a b = true) (h2 : undP b c = true) : undP a c = true:=by
  rw [undP_t] at h1 h2 ⊢
  obtain ⟨a1,a2,a3⟩:=h1
  obtain ⟨-,b2,b3⟩:=h2
  exact ⟨a1,b2,b3.trans a3⟩
def rootB : ByteArray:=⟨#[0]⟩
theorem und_root {n : ByteArray} (h : isNm n) : undP n rootB = true:=by
  obtain ⟨x,x1,x2⟩:=h
  show undP n ⟨#[0]⟩ = true
  rw [undP_nm x1 x2 root_nm (by decide)]
  exact decide_eq_true (by cases revL x <;> rfl)
open Go.RowKit
/-! ### Loops that look at each thing -/
open Classical in
theorem chk_loop {step : Int→Option (Int ⊕ (Unit ⊕ Bool))} (n : Nat) (good : Nat→Prop) (hs : ∀ k,k < n→step (k : Int) = if good k then some (.inl ((k + 1 : Nat) : Int)) else some (.inr (.inr false))) (he : step (n : Int) = some (.inr (.inl ()))) :
    loop step 0 = some (if ∀ k,k < n→good k then .inl () else .inr false):=by
  by_cases g : ∀ k,k < n→good k
  · rw [if_pos g]
    exact loop_run n (fun k=>(k : Int)) _ rfl (fun k hk=>by rw [hs k hk,if_pos (g k hk)]) he
  · rw [if_neg g]
    obtain ⟨m,hm,hmg,hmo⟩:=first_not g
    exact loop_run m (fun k=>(k : Int)) _ rfl (fun k hk=>by rw [hs k (by omega),if_pos (hmo k hk)]) (by rw [hs m hm,if_neg hmg])
/-! ### Rings -/
def ringG (l : List Int) (k : Nat) : Prop:=(0 ≤ l.getD k 0∧l.getD k 0 < 64)∧(0 < k→l.getD (k - 1) 0 < l.getD k 0)
theorem node_cd (x : Int) : m_conf_node x = some (decide (0 ≤ x∧x < 64)):=by
  unfold m_conf_node
  split
  · rename_i h; congr 1; rw [decide_eq_decide]; exact ⟨fun g=>⟨h,g⟩,fun g=>g.2⟩
  · rename_i h; rw [decide_eq_false (fun g=>h g.1)]
theorem at_gd {α : Type} {l : List α} {k : Nat} (d : α) (h : k < l.length) : at_ l (k : Int) = some (l.getD k d):=by
  rw [at_nat h,List.getD_eq_getElem?_getD,List.getElem?_eq_getElem h]; rfl
theorem w64_succ {k : Nat} (h : k ≤ 1000000) : w64 ((k : Int) + 1) = ((k + 1 : Nat) : Int):=by rw [w64_id (by omega) (by omega)]; omega
theorem w64_pred {k : Nat} (h : k ≤ 1000000) (h0 : 0 < k) : w64 ((k : Int) - 1) = ((k - 1 : Nat) : Int):=by rw [w64_id (by omega) (by omega)]; omega
open Classical in
theorem ring_loop (l : List Int) (hl : l.length ≤ 1000) : loop (fun s=>m_conf_all_45_s2 l s) 0 = some (if ∀ k,k < l.length→ringG l k then .inl () else .inr false):=by
  refine chk_loop l.length (ringG l) (fun k hk=>?_) (by unfold m_conf_all_45_s2; rw [if_neg (by omega)])
  unfold m_conf_all_45_s2 ringG
  rw [if_pos (by omega),at_gd 0 hk,Option.bind_some,node_cd,Option.bind_some,w64_succ (by omega)]
  by_cases c : 0 ≤ l.getD k 0∧l.getD k 0 < 64
  · rw [if_pos (decide_eq_true c)]
    by_cases k0 : 0 < k
    · rw [if_pos (by omega),w64_pred (by omega) k0,at_gd 0 (by omega),Option.bind_some,m_conf_Right_c1,m_conf_Right_c1,Option.bind_some,Option.bind_some]
      by_cases d : l.getD k 0 ≤ l.getD (k - 1) 0
      · rw [if_pos d,if_neg (fun g=>by have:=g.2 k0; omega)]
      · rw [if_neg d,if_pos ⟨c,fun _=>by omega⟩]
    · rw [if_neg (by omega),if_pos ⟨c,fun g=>absurd g k0⟩]
  · rw [if_neg (by simpa using c),if_neg (fun g=>c g.1)]
theorem rnode_cd (x : Int) : m_ref13_node x = some (decide (0 ≤ x∧x < 64)):=by
  unfold m_ref13_node
  split
  · rename_i h; congr 1; rw [decide_eq_decide]; exact ⟨fun g=>⟨h,by omega⟩,fun g=>by omega⟩
  · rename_i h; rw [decide_eq_false (fun g=>h g.1)]
open Classical in
theorem rring_loop (c : GConf) (hl : c.fRing.length ≤ 1000) : loop (fun s=>m_ref13_Right_s12 c s) 0 = some (if ∀ k,k < c.fRing.length→ringG c.fRing k then .inl () else .inr false):=by
  refine chk_loop c.fRing.length (ringG c.fRing) (fun k hk=>?_) (by unfold m_ref13_Right_s12; rw [if_neg (by omega)])
  unfold m_ref13_Right_s12 ringG
  rw [if_pos (by omega),at_gd 0 hk,Option.bind_some,rnode_cd,Option.bind_some,w64_succ (by omega)]
  by_cases d0 : 0 ≤ c.fRing.getD k 0∧c.fRing.getD k 0 < 64
  · rw [if_pos (decide_eq_true d0)]
    by_cases k0 : 0 < k
    · rw [if_pos (by omega),Option.bind_some,w64_pred (by omega) k0,at_gd 0 (by omega),Option.bind_some]
      by_cases d : c.fRing.getD k 0 ≤ c.fRing.getD (k - 1) 0
      · rw [if_pos d,if_neg (fun g=>by have:=g.2 k0; omega)]
      · rw [if_neg d,if_pos ⟨d0,fun _=>by omega⟩]
    · rw [if_neg (by omega),if_pos ⟨d0,fun g=>absurd g k0⟩]
  · rw [if_neg (by simpa using d0),if_neg (fun g=>d0 g.1)]
theorem ring_small {l : List Int} (h : ∀ k,k < l.length→ringG l k) : l.length ≤ 64:=by
  have hk : ∀ k,k < l.length→(k : Int) ≤ l.getD k 0:=by
    intro k
    induction k with
    | zero=>intro hk; exact (h 0 hk).1.1
    | succ k ih=>
      intro hk
      have h1:=ih (by omega)
      have h2:=(h (k + 1) hk).2 (by omega)
      have e : k + 1 - 1 = k:=by omega
      rw [e] at h2
      omega
  rcases Nat.lt_or_ge 64 l.length with g | g
  · have h1:=hk 64 g
    have h2:=(h 64 g).1.2
    omega
  · exact g
/-! ### Loops that look for one -/
theorem any_loop {step : Int→Option (Int ⊕ (Unit ⊕ Int))} (n : Nat) (bad : Nat→Prop) (hs : ∀ k,k < n→¬ bad k→step (k : Int) = some (.inl ((k + 1 : Nat) : Int))) (hb : ∀ k,k < n→bad k→step (k : Int) = some (.inr (.inr (k : Int)))) (he : step (n : Int) = some (.inr (.inl ()))) :
    ((∀ k,k < n→¬ bad k)∧loop step 0 = some (.inl ())) ∨ (¬ (∀ k,k < n→¬ bad k)∧∃ m : Nat,loop step 0 = some (.inr (m : Int))):=by
  by_cases g : ∀ k,k < n→¬ bad k
  · exact .inl ⟨g,loop_run n (fun k=>(k : Int)) _ rfl (fun k hk=>hs k hk (g k hk)) he⟩
  · obtain ⟨m,hm,hmg,hmo⟩:=first_not g
    exact .inr ⟨g,m,loop_run m (fun k=>(k : Int)) _ rfl (fun k hk=>hs k (by omega) (hmo k hk)) (hb m hm (Classical.not_not.1 hmg))⟩
def hintsG (l : List ByteArray) : Prop:=∀ k,k < l.length→(l.getD k ⟨#[]⟩).size = 4
open Classical in
theorem hints_any (l : List ByteArray) (hl : l.length ≤ 1000) : m_slices_ContainsFunc_47_3 l = some (!(decide (hintsG l))):=by
  have hA:=any_loop (step:=fun s=>m_slices_IndexFunc_97_3_s2 l s) l.length (fun k=>¬ (l.getD k ⟨#[]⟩).size = 4) (fun k hk hb=>by
    have hb:=Classical.not_not.1 hb
    unfold m_slices_IndexFunc_97_3_s2 m_conf_Right_c2 m_conf_hint
    rw [if_pos (by omega),at_gd ⟨#[]⟩ hk,Option.bind_some,Option.bind_some,Option.bind_some,decide_eq_true (by omega),if_neg (by simp),w64_succ (by omega)]) (fun k hk hb=>by
    unfold m_slices_IndexFunc_97_3_s2 m_conf_Right_c2 m_conf_hint
    rw [if_pos (by omega),at_gd ⟨#[]⟩ hk,Option.bind_some,Option.bind_some,Option.bind_some,decide_eq_false (by omega),if_pos (by rfl)]) (by unfold m_slices_IndexFunc_97_3_s2; rw [if_neg (by omega)])
  unfold m_slices_ContainsFunc_47_3 m_slices_IndexFunc_97_3
  rcases hA with ⟨g,e⟩ | ⟨g,m,e⟩
  · rw [e,decide_eq_true (show hintsG l from fun k hk=>Classical.not_not.1 (g k hk))]; rfl
  · rw [e,decide_eq_false (show ¬ hintsG l from fun q=>g fun k hk=>fun hc=>hc (q k hk))]
    show some (decide (0 ≤ (m : Int))) = some true
    rw [decide_eq_true (by omega)]
open Classical in
theorem rhints_loop (c : GConf) (hl : c.fHints.length ≤ 1000) : loop (fun s=>m_ref13_Right_s11 c s) 0 = some (if hintsG c.fHints then .inl () else .inr false):=by
  have h:=chk_loop (step:=fun s=>m_ref13_Right_s11 c s) c.fHints.length (fun k=>(c.fHints.getD k ⟨#[]⟩).size = 4) (fun k hk=>by
    unfold m_ref13_Right_s11
    rw [if_pos (by omega),at_gd ⟨#[]⟩ hk,Option.bind_some,w64_succ (by omega)]
    by_cases d : (c.fHints.getD k ⟨#[]⟩).size = 4
    · rw [if_neg (fun g=>g (by omega)),if_pos d]
    · rw [if_pos (by omega),if_neg d]) (by unfold m_ref13_Right_s11; rw [if_neg (by omega)])
  rw [h]
  by_cases q : hintsG c.fHints
  · have q' : ∀ k,k < c.fHints.length→(c.fHints.getD k ⟨#[]⟩).size = 4:=q
    rw [if_pos q,if_pos q']
  · have q' : ¬ ∀ k,k < c.fHints.length→(c.fHints.getD k ⟨#[]⟩).size = 4:=q
    rw [if_neg q,if_neg q']
open Go.RowKit
theorem gd_mem {α : Type} {l : List α} {k : Nat} (d : α) (h : k < l.length) : l.getD k d ∈ l:=by
  rw [List.getD_eq_getElem?_getD,List.getElem?_eq_getElem h]; exact List.getElem_mem h
open Classical in
theorem named_cd {n : ByteArray} (hn : n.size ≤ 1099511627776) : m_conf_named n = some (decide (isNm n)):=by
  unfold m_conf_named
  by_cases h : isNm n
  · obtain ⟨ls,l1,l2⟩:=id h
    rw [check_nm l1 l2,decide_eq_true h]; rfl
  · obtain ⟨e,e1,e2⟩:=check_not h hn
    rw [e1,Option.bind_some,decide_eq_false h,decide_eq_false e2]
open Classical in
theorem rnamed_cd {n : ByteArray} (hn : n.size ≤ 1099511627776) : m_ref13_name n = some (decide (isNm n)):=by
  unfold m_ref13_name
  rcases nm_cases n with ⟨ls,h1,h2⟩ | ⟨ls,h1,h2⟩ | h1
  · rw [rcheck_nm h1 h2,decide_eq_true (show isNm n from ⟨ls,h1,h2⟩)]; rfl
  · rw [rcheck_big h1 h2 hn,decide_eq_false (fun g : isNm n=>by obtain ⟨_,-,q⟩:=g; omega)]; rfl
  · rw [rcheck_no h1 hn,decide_eq_false (fun g : isNm n=>h1 (by obtain ⟨q,q1,-⟩:=g; exact ⟨q,q1⟩))]; rfl
def ordB (a b : ByteArray) : Bool:=sless a b || decide (a = b)
def zeroAn : GAnchor:=⟨⟨#[]⟩,⟨#[]⟩⟩
def anchG (l : List GAnchor) (k : Nat) : Prop:=isNm (l.getD k zeroAn).fName∧1 ≤ (l.getD k zeroAn).fText.size∧(l.getD k zeroAn).fText.size ≤ 200∧
  (0 < k→¬ ordB (lowB (l.getD k zeroAn).fName) (lowB (l.getD (k - 1) zeroAn).fName) = true)
theorem emp_iff {s : ByteArray} : s = ⟨#[]⟩↔s.size = 0:=⟨fun h=>by rw [h]; rfl,fun h=>bytesI_inj (List.length_eq_zero_iff.1 (by rw [← size_bytes]; exact h))⟩
open Classical in
theorem anch_c4 (a : GAnchor) (h : a.fName.size ≤ 300) : m_conf_Right_c4 a = some (decide (isNm a.fName∧1 ≤ a.fText.size∧a.fText.size ≤ 200)):=by
  unfold m_conf_Right_c4
  rw [named_cd (by omega),Option.bind_some]
  by_cases c : isNm a.fName
  · rw [if_pos (decide_eq_true c)]
    by_cases d : a.fText = ⟨#[]⟩
    · rw [if_pos d,decide_eq_false (fun g=>by have:=emp_iff.1 d; omega)]
    · have h1 : a.fText.size ≠ 0:=fun g=>d (emp_iff.2 g)
      rw [if_neg d]
      by_cases e : a.fText.size ≤ 200
      · rw [decide_eq_true (by omega),decide_eq_true ⟨c,by omega,e⟩]
      · rw [decide_eq_false (by omega),decide_eq_false (fun g=>e g.2.2)]
  · rw [if_neg (by simpa using c),decide_eq_false (fun g=>c g.1)]
open Classical in
theorem anch_loop (l : List GAnchor) (hl : l.length ≤ 1000) (hs : ∀ a ∈ l,a.fName.size ≤ 300) : loop (fun s=>m_conf_all_50_s2 l s) 0 = some (if ∀ k,k < l.length→anchG l k then .inl () else .inr false):=by
  refine chk_loop l.length (anchG l) (fun k hk=>?_) (by unfold m_conf_all_50_s2; rw [if_neg (by omega)])
  have h1:=hs _ (gd_mem zeroAn hk)
  unfold m_conf_all_50_s2 anchG
  rw [if_pos (by omega),at_gd zeroAn hk,Option.bind_some,anch_c4 _ h1,Option.bind_some,w64_succ (by omega)]
  by_cases c : isNm (l.getD k zeroAn).fName∧1 ≤ (l.getD k zeroAn).fText.size∧(l.getD k zeroAn).fText.size ≤ 200
  · rw [if_pos (decide_eq_true c)]
    by_cases k0 : 0 < k
    · have h2:=hs _ (gd_mem zeroAn (show k - 1 < l.length by omega))
      rw [if_pos (by omega),w64_pred (by omega) k0,at_gd zeroAn (by omega),Option.bind_some,m_conf_Right_c3,lower_eq (by omega),Option.bind_some,Option.bind_some,m_conf_Right_c3,lower_eq (by omega),Option.bind_some,Option.bind_some]
      change (if ordB (lowB (l.getD k zeroAn).fName) (lowB (l.getD (k - 1) zeroAn).fName) = true then _ else _) = _
      by_cases d : ordB (lowB (l.getD k zeroAn).fName) (lowB (l.getD (k - 1) zeroAn).fName) = true
      · rw [if_pos d,if_neg (fun g=>g.2.2.2 k0 d)]
      · rw [if_neg d,if_pos ⟨c.1,c.2.1,c.2.2,fun _=>d⟩]
    · rw [if_neg (by omega),if_pos ⟨c.1,c.2.1,c.2.2,fun g=>absurd g k0⟩]
  · rw [if_neg (by simpa using c),if_neg (fun g=>c ⟨g.1,g.2.1,g.2.2.1⟩)]
open Classical in
theorem ranch_loop (x : GConf) (hl : x.fAnchors.length ≤ 1000) (hs : ∀ a ∈ x.fAnchors,a.fName.size ≤ 300) : loop (fun s=>m_ref13_Right_s10 x s) 0 = some (if ∀ k,k < x.fAnchors.length→anchG x.fAnchors k then .inl () else .inr false):=by
  refine chk_loop x.fAnchors.length (anchG x.fAnchors) (fun k hk=>?_) (by unfold m_ref13_Right_s10; rw [if_neg (by omega)])
  have h1:=hs _ (gd_mem zeroAn hk)
  unfold m_ref13_Right_s10 anchG
  generalize x.fAnchors = l at hk h1 hs hl ⊢
  rw [if_pos (by omega),at_gd zeroAn hk,Option.bind_some,rnamed_cd (by omega),Option.bind_some,w64_succ (by omega)]
  by_cases c : isNm (l.getD k zeroAn).fName
  case neg=>rw [if_neg (by simpa using c),if_neg (fun g=>c g.1)]
  rw [if_pos (decide_eq_true c)]
  by_cases c1 : ((l.getD k zeroAn).fText.size : Int) < 1
  · rw [if_pos c1,if_neg (fun g=>by have:=g.2.1; omega)]
  rw [if_neg c1]
  by_cases c2 : 200 < ((l.getD k zeroAn).fText.size : Int)
  · rw [if_pos c2,if_neg (fun g=>by have:=g.2.2.1; omega)]
  rw [if_neg c2]
  by_cases k0 : 0 < k
  · have h2:=hs _ (gd_mem zeroAn (show k - 1 < l.length by omega))
    rw [if_pos (by omega),w64_pred (by omega) k0,at_gd zeroAn (by omega),Option.bind_some,rlower_eq (by omega),Option.bind_some,rlower_eq (by omega),Option.bind_some]
    change (if ordB (lowB (l.getD k zeroAn).fName) (lowB (l.getD (k - 1) zeroAn).fName) = true then _ else _) = _
    by_cases d : ordB (lowB (l.getD k zeroAn).fName) (lowB (l.getD (k - 1) zeroAn).fName) = true
    · rw [if_pos d,if_neg (fun g=>g.2.2.2 k0 d)]
    · rw [if_neg d,if_pos ⟨c,by omega,by omega,fun _=>d⟩]
  · rw [if_neg (by omega),if_pos ⟨c,by omega,by omega,fun g=>absurd g k0⟩]
/-! ### Flushes -/
def zeroFl : GFlush:=⟨0,⟨#[]⟩⟩
def flG (e : Int) (l : List GFlush) (k : Nat) : Prop:=(isNm (l.getD k zeroFl).fZone∧lowB (l.getD k zeroFl).fZone = (l.getD k zeroFl).fZone∧1 ≤ (l.getD k zeroFl).fEpoch∧(l.getD k zeroFl).fEpoch ≤ e)∧(0 < k→(l.getD (k - 1) zeroFl).fEpoch < (l.getD k zeroFl).fEpoch)
open Classical in
theorem fl_c6 (a : GFlush) (o : GConf) (h : a.fZone.size ≤ 300) : m_conf_Right_c6 a o = some (decide (isNm a.fZone∧lowB a.fZone = a.fZone∧1 ≤ a.fEpoch∧a.fEpoch ≤ o.fEpoch)):=by
  unfold m_conf_Right_c6
  rw [named_cd (by omega),Option.bind_some]
  by_cases c : isNm a.fZone
  case neg=>rw [if_neg (by simpa using c),decide_eq_false (fun g=>c g.1)]
  rw [if_pos (decide_eq_true c),lower_eq (by omega),Option.bind_some]
  by_cases c1 : lowB a.fZone = a.fZone
  case neg=>rw [if_neg c1,decide_eq_false (fun g=>c1 g.2.1)]
  rw [if_pos c1]
  by_cases c2 : 1 ≤ a.fEpoch
  case neg=>rw [if_neg c2,decide_eq_false (fun g=>c2 g.2.2.1)]
  rw [if_pos c2]
  by_cases c3 : a.fEpoch ≤ o.fEpoch
  · rw [decide_eq_true c3,decide_eq_true ⟨c,c1,c2,c3⟩]
  · rw [decide_eq_false c3,decide_eq_false (fun g=>c3 g.2.2.2)]
open Classical in
theorem fl_loop (l : List GFlush) (o : GConf) (hl : l.length ≤ 1000) (hs : ∀ a ∈ l,a.fZone.size ≤ 300) : loop (fun s=>m_conf_all_54_s2 l o s) 0 = some (if ∀ k,k < l.length→flG o.fEpoch l k then .inl () else .inr false):=by
  refine chk_loop l.length (flG o.fEpoch l) (fun k hk=>?_) (by unfold m_conf_all_54_s2; rw [if_neg (by omega)])
  have h1:=hs _ (gd_mem zeroFl hk)
  unfold m_conf_all_54_s2 flG
  rw [if_pos (by omega),at_gd zeroFl hk,Option.bind_some,fl_c6 _ _ h1,Option.bind_some,w64_succ (by omega)]
  by_cases c : isNm (l.getD k zeroFl).fZone∧lowB (l.getD k zeroFl).fZone = (l.getD k zeroFl).fZone∧1 ≤ (l.getD k zeroFl).fEpoch∧(l.getD k zeroFl).fEpoch ≤ o.fEpoch
  case neg=>rw [if_neg (by simpa using c),if_neg (fun g=>c g.1)]
  rw [if_pos (decide_eq_true c)]
  by_cases k0 : 0 < k
  · rw [if_pos (by omega),w64_pred (by omega) k0,at_gd zeroFl (by omega),Option.bind_some,m_conf_Right_c5,Option.bind_some,m_conf_Right_c5,Option.bind_some]
    by_cases d : (l.getD k zeroFl).fEpoch ≤ (l.getD (k - 1) zeroFl).fEpoch
    · rw [if_pos d,if_neg (fun g=>by have:=g.2 k0; omega)]
    · rw [if_neg d,if_pos ⟨c,fun _=>by omega⟩]
  · rw [if_neg (by omega),if_pos ⟨c,fun g=>absurd g k0⟩]
open Go.RowKit
def undG (l : List GFlush) (k : Nat) : Prop:=∀ j,j < k→¬ undP (l.getD j zeroFl).fZone (l.getD k zeroFl).fZone = true
theorem cut_take {α : Type} {l : List α} {k : Nat} (h : k ≤ l.length) : cutHi l (k : Int) = some (l.take k):=by
  rw [cutHi,if_pos ⟨by omega,by omega⟩]; rfl
theorem gd_take {α : Type} {l : List α} {k j : Nat} (d : α) (h : j < k) : (l.take k).getD j d = l.getD j d:=by
  rw [List.getD_eq_getElem?_getD,List.getD_eq_getElem?_getD,List.getElem?_take_of_lt h]
open Classical in
theorem und_any (l : List GFlush) (k : Nat) (hk : k < l.length) (hl : l.length ≤ 1000) (hs : ∀ a ∈ l,a.fZone.size ≤ 300) : m_slices_ContainsFunc_57 (l.take k) (l.getD k zeroFl) = some (!(decide (undG l k))):=by
  have hx:=hs _ (gd_mem zeroFl hk)
  have hlen : (l.take k).length = k:=by rw [List.length_take]; omega
  have hA:=any_loop (step:=fun s=>m_slices_IndexFunc_94_2_s2 (l.take k) (l.getD k zeroFl) s) k (fun j=>undP (l.getD j zeroFl).fZone (l.getD k zeroFl).fZone = true) (fun j hj hb=>by
    have hy:=hs _ (gd_mem zeroFl (show j < l.length by omega))
    unfold m_slices_IndexFunc_94_2_s2 m_conf_Right_c7
    rw [hlen,if_pos (by omega),at_gd zeroFl (by omega),Option.bind_some,gd_take zeroFl hj,und_code (by omega) (by omega),Option.bind_some,Option.bind_some,if_neg hb,w64_succ (by omega)]) (fun j hj hb=>by
    have hy:=hs _ (gd_mem zeroFl (show j < l.length by omega))
    unfold m_slices_IndexFunc_94_2_s2 m_conf_Right_c7
    rw [hlen,if_pos (by omega),at_gd zeroFl (by omega),Option.bind_some,gd_take zeroFl hj,und_code (by omega) (by omega),Option.bind_some,Option.bind_some,if_pos hb]) (by unfold m_slices_IndexFunc_94_2_s2; rw [hlen,if_neg (by omega)])
  unfold m_slices_ContainsFunc_57 m_slices_IndexFunc_94_2
  rcases hA with ⟨g,e⟩ | ⟨g,m,e⟩
  · rw [e,decide_eq_true (show undG l k from g)]; rfl
  · rw [e,decide_eq_false (show ¬ undG l k from g)]
    show some (decide (0 ≤ (m : Int))) = some true
    rw [decide_eq_true (by omega)]
open Classical in
theorem und_loop (x : GConf) (hl : x.fFlushes.length ≤ 1000) (hs : ∀ a ∈ x.fFlushes,a.fZone.size ≤ 300) : loop (fun s=>m_conf_Right_s3 x s) 0 = some (if ∀ k,k < x.fFlushes.length→undG x.fFlushes k then .inl () else .inr false):=by
  refine chk_loop x.fFlushes.length (undG x.fFlushes) (fun k hk=>?_) (by unfold m_conf_Right_s3; rw [if_neg (by omega)])
  unfold m_conf_Right_s3
  rw [if_pos (by omega),at_gd zeroFl hk,Option.bind_some,cut_take (by omega),Option.bind_some,und_any _ _ hk hl hs,Option.bind_some,w64_succ (by omega)]
  by_cases c : undG x.fFlushes k
  · rw [decide_eq_true c,if_neg (by simp),if_pos c]
  · rw [decide_eq_false c,if_pos (by rfl),if_neg c]
open Classical in
theorem rfl_loop (x : GConf) (hl : x.fFlushes.length ≤ 1000) (hs : ∀ a ∈ x.fFlushes,a.fZone.size ≤ 300) : ((∀ k,k < x.fFlushes.length→flG x.fEpoch x.fFlushes k∧undG x.fFlushes k)∧loop (fun s=>m_ref13_Right_s5 x s) 0 = some (.inl ())) ∨ (¬ (∀ k,k < x.fFlushes.length→flG x.fEpoch x.fFlushes k∧undG x.fFlushes k)∧loop (fun s=>m_ref13_Right_s5 x s) 0 = some (.inr false)):=by
  suffices hst : ∀ k,k < x.fFlushes.length→m_ref13_Right_s5 x (k : Int) = if flG x.fEpoch x.fFlushes k∧undG x.fFlushes k then some (.inl ((k + 1 : Nat) : Int)) else some (.inr (.inr false)) by
    have h:=chk_loop (step:=fun s=>m_ref13_Right_s5 x s) x.fFlushes.length (fun k=>flG x.fEpoch x.fFlushes k∧undG x.fFlushes k) (fun k hk=>by
      show m_ref13_Right_s5 x (k : Int) = _
      rw [hst k hk]
      by_cases q : flG x.fEpoch x.fFlushes k∧undG x.fFlushes k
      · rw [if_pos q,if_pos q]
      · rw [if_neg q,if_neg q]) (by unfold m_ref13_Right_s5; rw [if_neg (by omega)])
    by_cases q : ∀ k,k < x.fFlushes.length→flG x.fEpoch x.fFlushes k∧undG x.fFlushes k
    · exact .inl ⟨q,by rw [h,if_pos q]⟩
    · exact .inr ⟨q,by rw [h,if_neg q]⟩
  intro k hk
  have h1:=hs _ (gd_mem zeroFl hk)
  unfold m_ref13_Right_s5
  rw [if_pos (by omega),at_gd zeroFl hk,Option.bind_some,rnamed_cd (by omega),Option.bind_some]
  by_cases c : isNm (x.fFlushes.getD k zeroFl).fZone
  case neg=>rw [if_neg (by simpa using c),if_neg (fun g=>c g.1.1.1)]
  rw [if_pos (decide_eq_true c),rlower_eq (by omega),Option.bind_some]
  by_cases c1 : lowB (x.fFlushes.getD k zeroFl).fZone = (x.fFlushes.getD k zeroFl).fZone
  case neg=>rw [if_neg c1,if_neg (fun g=>c1 g.1.1.2.1)]
  rw [if_pos c1]
  by_cases c2 : (x.fFlushes.getD k zeroFl).fEpoch < 1
  · rw [if_pos c2,if_neg (fun g=>by have:=g.1.1.2.2.1; omega)]
  rw [if_neg c2]
  by_cases c3 : x.fEpoch < (x.fFlushes.getD k zeroFl).fEpoch
  · rw [if_pos c3,if_neg (fun g=>by have:=g.1.1.2.2.2; omega)]
  rw [if_neg c3]
  by_cases k0 : 0 < k
  · rw [if_pos (by omega),w64_pred (by omega) k0,at_gd zeroFl (by omega),Option.bind_some]
    by_cases d : (x.fFlushes.getD k zeroFl).fEpoch ≤ (x.fFlushes.getD (k - 1) zeroFl).fEpoch
    · rw [if_pos d,if_neg (fun g=>by have:=g.1.2 k0; omega)]
    rw [if_neg d]
    have hL:=chk_loop (step:=fun s=>m_ref13_Right_s7 (k : Int) x (x.fFlushes.getD k zeroFl) s) k (fun j=>¬ undP (x.fFlushes.getD j zeroFl).fZone (x.fFlushes.getD k zeroFl).fZone = true) (fun j hj=>by
      have hy:=hs _ (gd_mem zeroFl (show j < x.fFlushes.length by omega))
      unfold m_ref13_Right_s7
      rw [if_pos (by omega),at_gd zeroFl (by omega),Option.bind_some,rund_code (by omega) (by omega),Option.bind_some,w64_succ (by omega)]
      by_cases u : undP (x.fFlushes.getD j zeroFl).fZone (x.fFlushes.getD k zeroFl).fZone = true
      · rw [if_pos u,if_neg (fun g=>g u)]
      · rw [if_neg u,if_pos u]) (by unfold m_ref13_Right_s7; rw [if_neg (by omega)])
    rw [hL]
    by_cases u : undG x.fFlushes k
    · have u' : ∀ j,j < k→¬ undP (x.fFlushes.getD j zeroFl).fZone (x.fFlushes.getD k zeroFl).fZone = true:=u
      rw [if_pos u',if_pos ⟨⟨⟨c,c1,by omega,by omega⟩,fun _=>by omega⟩,u⟩]
      show m_ref13_Right_j6 (k : Int) = _
      rw [m_ref13_Right_j6,w64_succ (by omega)]
    · have u' : ¬ ∀ j,j < k→¬ undP (x.fFlushes.getD j zeroFl).fZone (x.fFlushes.getD k zeroFl).fZone = true:=u
      rw [if_neg u',if_neg (fun g=>u g.2)]
      rfl
  · have hk0 : k = 0:=by omega
    rw [if_neg (by omega),show loop (fun _ : Unit=>m_ref13_Right_s9) () = some (.inl ()) from loop_inr rfl,if_pos ⟨⟨⟨c,c1,by omega,by omega⟩,fun g=>absurd g k0⟩,fun j hj=>absurd hj (by omega)⟩]
    show m_ref13_Right_j8 (k : Int) = _
    rw [m_ref13_Right_j8,w64_succ (by omega)]
open Go.RowKit
structure SmC (c : GConf) : Prop where
  ring : c.fRing.length ≤ 1000
  hints : c.fHints.length ≤ 1000
  anchors : c.fAnchors.length ≤ 1000
  flushes : c.fFlushes.length ≤ 1000
  an : ∀ a ∈ c.fAnchors,a.fName.size ≤ 300
  fl : ∀ a ∈ c.fFlushes,a.fZone.size ≤ 300
structure RightG (c : GConf) : Prop where
  ring : ∀ k,k < c.fRing.length→ringG c.fRing k
  hn : c.fHints.length ≤ 13
  hints : hintsG c.fHints
  an : ∀ k,k < c.fAnchors.length→anchG c.fAnchors k
  al : c.fAnchors.length ≤ 16
  fl : ∀ k,k < c.fFlushes.length→flG c.fEpoch c.fFlushes k
  fn : c.fFlushes.length ≤ 32
  ep : 0 ≤ c.fEpoch∧c.fEpoch ≤ 1099511627776
  und : ∀ k,k < c.fFlushes.length→undG c.fFlushes k
open Classical in
theorem right_code {c : GConf} (hc : SmC c) : m_conf_Right c = some (decide (RightG c)):=by
  have J0 : ¬ RightG c→m_conf_Right_j1 c false = some (decide (RightG c)):=fun h=>by rw [m_conf_Right_j1,if_neg (by simp),decide_eq_false h]
  unfold m_conf_Right m_conf_all_45
  rw [ring_loop _ hc.ring]
  by_cases g1 : ∀ k,k < c.fRing.length→ringG c.fRing k
  case neg=>
    rw [if_neg g1]
    exact J0 fun h=>g1 h.ring
  rw [if_pos g1]
  show (some (decide ((c.fRing.length : Int) ≤ 64))).bind _ = _
  rw [Option.bind_some,if_pos (decide_eq_true (by have:=ring_small g1; omega))]
  by_cases g2 : (c.fHints.length : Int) ≤ 13
  case neg=>rw [if_neg g2]; exact J0 fun h=>g2 (by have:=h.hn; omega)
  rw [if_pos g2,hints_any _ hc.hints,Option.bind_some]
  by_cases g3 : hintsG c.fHints
  case neg=>rw [decide_eq_false g3,if_pos (by rfl)]; exact J0 fun h=>g3 h.hints
  rw [decide_eq_true g3,if_neg (by simp)]
  unfold m_conf_all_50
  rw [anch_loop _ hc.anchors hc.an]
  by_cases g4 : ∀ k,k < c.fAnchors.length→anchG c.fAnchors k
  case neg=>
    rw [if_neg g4]
    exact J0 fun h=>g4 h.an
  rw [if_pos g4]
  show (some (decide ((c.fAnchors.length : Int) ≤ 16))).bind _ = _
  rw [Option.bind_some]
  by_cases g5 : (c.fAnchors.length : Int) ≤ 16
  case neg=>rw [decide_eq_false g5,if_neg (by simp)]; exact J0 fun h=>g5 (by have:=h.al; omega)
  rw [if_pos (decide_eq_true g5)]
  unfold m_conf_all_54
  rw [fl_loop _ _ hc.flushes hc.fl]
  by_cases g6 : ∀ k,k < c.fFlushes.length→flG c.fEpoch c.fFlushes k
  case neg=>
    rw [if_neg g6]
    exact J0 fun h=>g6 h.fl
  rw [if_pos g6]
  show (some (decide ((c.fFlushes.length : Int) ≤ 32))).bind _ = _
  rw [Option.bind_some]
  by_cases g7 : (c.fFlushes.length : Int) ≤ 32
  case neg=>rw [decide_eq_false g7]; exact J0 fun h=>g7 (by have:=h.fn; omega)
  rw [decide_eq_true g7,m_conf_Right_j1,if_pos rfl]
  by_cases g8 : c.fEpoch < 0
  · rw [if_pos g8,decide_eq_false (fun h=>by have:=h.ep; omega)]
  rw [if_neg g8]
  by_cases g9 : 1099511627776 < c.fEpoch
  · rw [if_pos g9,decide_eq_false (fun h=>by have:=h.ep; omega)]
  rw [if_neg g9,und_loop _ hc.flushes hc.fl]
  by_cases g10 : ∀ k,k < c.fFlushes.length→undG c.fFlushes k
  · rw [if_pos g10,decide_eq_true (show RightG c from ⟨g1,by omega,g3,g4,by omega,g6,by omega,by omega,g10⟩)]; rfl
  · rw [if_neg g10,decide_eq_false (fun h=>g10 h.und)]; rfl
open Classical in
theorem right_ref {c : GConf} (hc : SmC c) : m_ref13_Right c = some (decide (RightG c)):=by
  unfold m_ref13_Right
  by_cases a1 : 13 < (c.fHints.length : Int)
  · rw [if_pos a1,decide_eq_false (fun h=>by have:=h.hn; omega)]
  rw [if_neg a1]
  by_cases a2 : 16 < (c.fAnchors.length : Int)
  · rw [if_pos a2,decide_eq_false (fun h=>by have:=h.al; omega)]
  rw [if_neg a2]
  by_cases a3 : c.fEpoch < 0
  · rw [if_pos a3,decide_eq_false (fun h=>by have:=h.ep; omega)]
  rw [if_neg a3]
  by_cases a4 : 1099511627776 < c.fEpoch
  · rw [if_pos a4,decide_eq_false (fun h=>by have:=h.ep; omega)]
  rw [if_neg a4]
  by_cases a5 : 32 < (c.fFlushes.length : Int)
  · rw [if_pos a5,decide_eq_false (fun h=>by have:=h.fn; omega)]
  rw [if_neg a5,rring_loop c hc.ring]
  by_cases g1 : ∀ k,k < c.fRing.length→ringG c.fRing k
  case neg=>rw [if_neg g1,decide_eq_false (fun h=>g1 h.ring)]; rfl
  rw [if_pos g1]
  show m_ref13_Right_j1 c = _
  unfold m_ref13_Right_j1
  rw [rhints_loop c hc.hints]
  by_cases g3 : hintsG c.fHints
  case neg=>rw [if_neg g3,decide_eq_false (fun h=>g3 h.hints)]; rfl
  rw [if_pos g3]
  show m_ref13_Right_j2 c = _
  unfold m_ref13_Right_j2
  rw [ranch_loop c hc.anchors hc.an]
  by_cases g4 : ∀ k,k < c.fAnchors.length→anchG c.fAnchors k
  case neg=>rw [if_neg g4,decide_eq_false (fun h=>g4 h.an)]; rfl
  rw [if_pos g4]
  show m_ref13_Right_j3 c = _
  unfold m_ref13_Right_j3
  rcases rfl_loop c hc.flushes hc.fl with ⟨q,e⟩ | ⟨q,e⟩
  · rw [e,decide_eq_true (show RightG c from ⟨g1,by omega,g3,g4,by omega,fun k hk=>(q k hk).1,by omega,by omega,fun k hk=>(q k hk).2⟩)]; rfl
  · rw [e,decide_eq_false (fun h=>q fun k hk=>⟨h.fl k hk,h.und k hk⟩)]; rfl
open Go.RowKit
theorem fm_le {α : Type} {e : α→List Int} : ∀ (l : List α),(∀ a ∈ l,(e a).length ≤ 1000)→(l.flatMap e).length ≤ 1000 * l.length
  | [],_=>by simp
  | x::xs,h=>by
    have h1:=h x (List.mem_cons_self)
    have h2:=fm_le xs (fun a ha=>h a (List.mem_cons_of_mem _ ha))
    rw [List.flatMap_cons,List.length_append,List.length_cons]
    omega
theorem put_loop {α : Type} (l : List α) (e : α→List Int) {step : List Int×Int→Option ((List Int×Int) ⊕ List Int)} (hl : l.length ≤ 1000) (he : ∀ a ∈ l,(e a).length ≤ 1000)
    (hs : ∀ (k : Nat) (hk : k < l.length) (fb : List Int),fb.length ≤ 100000000→step (fb,(k : Int)) = some (.inl (fb++e l[k],((k + 1 : Nat) : Int)))) (hend : ∀ fb,step (fb,(l.length : Int)) = some (.inr fb)) (fb : List Int) (hfb : fb.length ≤ 10000000) :
    loop step (fb,0) = some (fb++l.flatMap e):=by
  refine loop_run l.length (fun k=>(fb++(l.take k).flatMap e,(k : Int))) _ (by simp) (fun k hk=>?_) (by rw [List.take_length]; exact hend _)
  have h1:=fm_le (e:=e) (l.take k) (fun a ha=>he a (List.mem_of_mem_take ha))
  have h2 : (l.take k).length ≤ 1000:=by rw [List.length_take]; omega
  rw [hs k hk _ (by rw [List.length_append]; omega),List.take_succ_eq_append_getElem hk,List.flatMap_append,List.flatMap_singleton,List.append_assoc]
def ringB (l : List Int) : List Int:=l.flatMap fun x=>[x % 256]
def eightB (n : Int) : List Int:=[n / 72057594037927936 % 256,n / 281474976710656 % 256,n / 1099511627776 % 256,n / 4294967296 % 256,n / 16777216 % 256,n / 65536 % 256,n / 256 % 256,n % 256]
def anB (a : GAnchor) : List Int:=bytesI a.fName++([(a.fText.size : Int) % 256]++bytesI a.fText)
def flB (f : GFlush) : List Int:=eightB f.fEpoch++bytesI f.fZone
/-- A configuration's bytes. -/
def snapL (c : GConf) : List Int:=[(c.fRing.length : Int) % 256]++(ringB c.fRing++([(c.fHints.length : Int) % 256]++(c.fHints.flatMap bytesI++([(c.fAnchors.length : Int) % 256]++(c.fAnchors.flatMap anB++(eightB c.fEpoch++([(c.fFlushes.length : Int) % 256]++c.fFlushes.flatMap flB)))))))
theorem wu8c (x : Int) : IntKind.u8.wrap x = x % 256:=by simp [IntKind.wrap,IntKind.bits,IntKind.signed]
theorem wu32c (x : Int) : IntKind.u32.wrap x = x % 4294967296:=by simp [IntKind.wrap,IntKind.bits,IntKind.signed]
theorem byte_cd {x : Int} {fb : List Int} {pl : List (ByteArray×Int)} (h : fb.length ≤ 1000000000) : m_pack_Packer_Byte x ⟨fb,pl⟩ = some ⟨fb++[x],pl⟩:=by
  rw [m_pack_Packer_Byte,put_eq (by simp only [List.length_singleton]; omega)]; rfl
theorem raw_cd {s : ByteArray} {fb : List Int} {pl : List (ByteArray×Int)} (h : fb.length ≤ 1000000000) (hs : s.size ≤ 1000000) : m_pack_Packer_Raw s ⟨fb,pl⟩ = some ⟨fb++bytesI s,pl⟩:=by
  rw [m_pack_Packer_Raw,put_eq (by rw [← size_bytes]; omega)]; rfl
theorem eight_cd {n : Int} {fb : List Int} {pl : List (ByteArray×Int)} (h : fb.length ≤ 1000000000) : m_conf_eight n ⟨fb,pl⟩ = some ⟨fb++eightB n,pl⟩:=by
  rw [m_conf_eight,m_pack_Packer_Long,put_eq (by simp only [List.length_cons,List.length_nil]; omega),Option.bind_some,Option.bind_some,m_pack_Packer_Long,put_eq (by simp only [List.length_append,List.length_cons,List.length_nil]; omega),Option.bind_some,Option.bind_some,List.append_assoc]
  simp only [wu8c,wu32c,eightB,List.cons_append,List.nil_append]
  have e : ∀ a b : List Int,a = b→(some (⟨fb++a,pl⟩ : Gpack_Packer)) = some ⟨fb++b,pl⟩:=fun a b h=>by rw [h]
  apply e
  simp only [List.cons.injEq,and_true]
  omega
open Go.RowKit
theorem hint_size {c : GConf} (g : RightG c) : ∀ h ∈ c.fHints,h.size = 4:=fun h hh=>by
  obtain ⟨k,hk,rfl⟩:=List.getElem_of_mem hh
  have:=g.hints k hk
  rwa [List.getD_eq_getElem?_getD,List.getElem?_eq_getElem hk] at this
theorem text_size {c : GConf} (g : RightG c) : ∀ a ∈ c.fAnchors,a.fText.size ≤ 200:=fun a ha=>by
  obtain ⟨k,hk,rfl⟩:=List.getElem_of_mem ha
  have:=(g.an k hk).2.2.1
  rwa [List.getD_eq_getElem?_getD,List.getElem?_eq_getElem hk] at this
open Classical in
theorem snap_code {c : GConf} (hc : SmC c) : m_conf_Snap c = some (if RightG c then strOfNums (snapL c) else ⟨#[]⟩):=by
  unfold m_conf_Snap
  rw [right_code hc,Option.bind_some]
  by_cases g : RightG c
  case neg=>rw [decide_eq_false g,if_neg (by simp),if_neg g]
  have hh:=hint_size g
  have ht:=text_size g
  have hr:=ring_small g.ring
  have n1:=g.hn
  have n2:=g.al
  have n3:=g.fn
  rw [decide_eq_true g,if_pos rfl,if_pos g,m_pack_New,Option.bind_some,wu8c,byte_cd (by simp),Option.bind_some]
  simp only [List.nil_append]
  have L1:=put_loop c.fRing (fun x=>[x % 256]) (step:=fun s=>m_conf_Snap_s8 c (⟨[],[]⟩ : Gpack_Packer) s.1 s.2) (by omega) (fun a _=>by simp) (fun k hk fb hfb=>by
    show m_conf_Snap_s8 c (⟨[],[]⟩ : Gpack_Packer) fb (k : Int) = _
    unfold m_conf_Snap_s8
    rw [if_pos (by omega),at_nat hk,Option.bind_some,wu8c,byte_cd (by omega),Option.bind_some,w64_succ (by omega)]) (fun fb=>by
    show m_conf_Snap_s8 c (⟨[],[]⟩ : Gpack_Packer) fb (c.fRing.length : Int) = _
    unfold m_conf_Snap_s8; rw [if_neg (by omega)]) [(c.fRing.length : Int) % 256] (by simp)
  have b1:=fm_le (e:=fun x : Int=>[x % 256]) c.fRing (fun a _=>by simp)
  rw [L1,Option.bind_some,m_conf_Snap_j1,wu8c,byte_cd (by simp only [List.length_append,List.length_singleton]; omega),Option.bind_some]
  generalize hA : ([(c.fRing.length : Int) % 256]++c.fRing.flatMap fun x=>[x % 256])++[(c.fHints.length : Int) % 256] = A
  have lA : A.length ≤ 100000:=by rw [← hA]; simp only [List.length_append,List.length_singleton]; omega
  have L2:=put_loop c.fHints bytesI (step:=fun s=>m_conf_Snap_s7 c (⟨[],[]⟩ : Gpack_Packer) s.1 s.2) (by omega) (fun a ha=>by rw [← size_bytes,hh a ha]; omega) (fun k hk fb hfb=>by
    have:=hh _ (List.getElem_mem hk)
    show m_conf_Snap_s7 c (⟨[],[]⟩ : Gpack_Packer) fb (k : Int) = _
    unfold m_conf_Snap_s7
    rw [if_pos (by omega),at_nat hk,Option.bind_some,raw_cd (by omega) (by omega),Option.bind_some,w64_succ (by omega)]) (fun fb=>by
    show m_conf_Snap_s7 c (⟨[],[]⟩ : Gpack_Packer) fb (c.fHints.length : Int) = _
    unfold m_conf_Snap_s7; rw [if_neg (by omega)]) A (by omega)
  have b2:=fm_le (e:=bytesI) c.fHints (fun a ha=>by rw [← size_bytes,hh a ha]; omega)
  rw [L2,Option.bind_some,m_conf_Snap_j2,wu8c,byte_cd (by simp only [List.length_append]; omega),Option.bind_some]
  generalize hB : (A++c.fHints.flatMap bytesI)++[(c.fAnchors.length : Int) % 256] = B
  have lB : B.length ≤ 200000:=by rw [← hB]; simp only [List.length_append,List.length_singleton]; omega
  have hab : ∀ a ∈ c.fAnchors,(anB a).length ≤ 1000:=fun a ha=>by
    have h1:=hc.an a ha
    have h2:=ht a ha
    unfold anB
    rw [List.length_append,List.length_append,← size_bytes,← size_bytes,List.length_singleton]
    omega
  have L3:=put_loop c.fAnchors anB (step:=fun s=>m_conf_Snap_s6 c (⟨[],[]⟩ : Gpack_Packer) s.1 s.2) (by omega) hab (fun k hk fb hfb=>by
    have h1:=hc.an _ (List.getElem_mem hk)
    have h2:=ht _ (List.getElem_mem hk)
    show m_conf_Snap_s6 c (⟨[],[]⟩ : Gpack_Packer) fb (k : Int) = _
    unfold m_conf_Snap_s6
    rw [if_pos (by omega),at_nat hk,Option.bind_some,raw_cd (by omega) (by omega),Option.bind_some,wu8c,byte_cd (by rw [List.length_append,← size_bytes]; omega),Option.bind_some,raw_cd (by rw [List.length_append,List.length_append,← size_bytes,List.length_singleton]; omega) (by omega),Option.bind_some,w64_succ (by omega),List.append_assoc,List.append_assoc]
    rfl) (fun fb=>by
    show m_conf_Snap_s6 c (⟨[],[]⟩ : Gpack_Packer) fb (c.fAnchors.length : Int) = _
    unfold m_conf_Snap_s6; rw [if_neg (by omega)]) B (by omega)
  have b3:=fm_le c.fAnchors hab
  rw [L3,Option.bind_some,m_conf_Snap_j3,eight_cd (by rw [List.length_append]; omega),Option.bind_some,wu8c,byte_cd (by simp only [List.length_append,eightB,List.length_cons,List.length_nil]; omega),Option.bind_some]
  generalize hC : ((B++c.fAnchors.flatMap anB)++eightB c.fEpoch)++[(c.fFlushes.length : Int) % 256] = C
  have lC : C.length ≤ 400000:=by rw [← hC]; simp only [List.length_append,eightB,List.length_cons,List.length_nil]; omega
  have hfb : ∀ a ∈ c.fFlushes,(flB a).length ≤ 1000:=fun a ha=>by
    have h1:=hc.fl a ha
    unfold flB
    rw [List.length_append,← size_bytes]
    simp only [eightB,List.length_cons,List.length_nil]
    omega
  have L4:=put_loop c.fFlushes flB (step:=fun s=>m_conf_Snap_s5 c (⟨[],[]⟩ : Gpack_Packer) s.1 s.2) (by omega) hfb (fun k hk fb hfb=>by
    have h1:=hc.fl _ (List.getElem_mem hk)
    show m_conf_Snap_s5 c (⟨[],[]⟩ : Gpack_Packer) fb (k : Int) = _
    unfold m_conf_Snap_s5
    rw [if_pos (by omega),at_nat hk,Option.bind_some,eight_cd (by omega),Option.bind_some,raw_cd (by simp only [List.length_append,eightB,List.length_cons,List.length_nil]; omega) (by omega),Option.bind_some,w64_succ (by omega),List.append_assoc]
    rfl) (fun fb=>by
    show m_conf_Snap_s5 c (⟨[],[]⟩ : Gpack_Packer) fb (c.fFlushes.length : Int) = _
    unfold m_conf_Snap_s5; rw [if_neg (by omega)]) C (by omega)
  rw [L4,Option.bind_some,m_conf_Snap_j4,m_pack_Packer_Bytes,Option.bind_some,← hC,← hB,← hA]
  simp only [snapL,ringB,List.append_assoc]
open Go.RowKit
theorem rnum8 {v : Int} {s : ByteArray} (hs : s.size ≤ 1099511627000) : ∃ t,m_ref04_Packer_Number v 8 ⟨s,[]⟩ = some ⟨t,[]⟩∧bytesI t = bytesI s++eightB v:=by
  obtain ⟨t,h1,h2⟩:=number_n (v:=v) (⟨s,[]⟩ : Gref04_Packer) 8 s (by omega) (by omega)
  refine ⟨t,?_,?_⟩
  · rw [m_ref04_Packer_Number,w64_id (by omega) (by omega)]
    erw [h1]
    rfl
  · rw [h2]
    congr 1
    simp [List.range,List.range.loop,bn,eightB]
theorem rput_loop {α : Type} (l : List α) (e : α→List Int) {step : Int×ByteArray→Option ((Int×ByteArray) ⊕ ByteArray)} (hl : l.length ≤ 1000) (he : ∀ a ∈ l,(e a).length ≤ 1000)
    (hs : ∀ (k : Nat) (hk : k < l.length) (s : ByteArray),s.size ≤ 100000000→∃ t,step ((k : Int),s) = some (.inl (((k + 1 : Nat) : Int),t))∧bytesI t = bytesI s++e l[k]) (hend : ∀ s,step ((l.length : Int),s) = some (.inr s)) (s : ByteArray) (hsz : s.size ≤ 10000000) :
    ∃ t,loop step (0,s) = some t∧bytesI t = bytesI s++l.flatMap e:=by
  refine loop_rule (step:=step) (fun x=>∃ k : Nat,x.1 = k∧k ≤ l.length∧bytesI x.2 = bytesI s++(l.take k).flatMap e) (fun x=>(l.length - x.1).toNat) (fun t=>bytesI t = bytesI s++l.flatMap e) (fun x hx=>?_) ⟨0,rfl,by omega,by simp⟩
  obtain ⟨i,u⟩:=x
  obtain ⟨k,h1,h2,h3⟩:=hx
  simp only at h1 h3 ⊢
  subst h1
  by_cases hk : k < l.length
  · have b1:=fm_le (e:=e) (l.take k) (fun a ha=>he a (List.mem_of_mem_take ha))
    have b2 : (l.take k).length ≤ 1000:=by rw [List.length_take]; omega
    have b3:=congrArg List.length h3
    rw [List.length_append,← size_bytes,← size_bytes] at b3
    obtain ⟨t,t1,t2⟩:=hs k hk u (by omega)
    exact .inl ⟨_,t1,⟨k + 1,rfl,hk,by rw [t2,h3,List.take_succ_eq_append_getElem hk,List.flatMap_append,List.flatMap_singleton,List.append_assoc]⟩,by simp only; omega⟩
  · have e : k = l.length:=by omega
    subst e
    exact .inr ⟨u,hend u,by rw [h3,List.take_length]⟩
open Go.RowKit
theorem str_by (s : ByteArray) : strOfNums (bytesI s) = s:=bytesI_inj (bytesI_str (bytesI_range s))
theorem grow_size {s t : ByteArray} {l : List Int} (h : bytesI t = bytesI s++l) : t.size = s.size + l.length:=by
  have:=congrArg List.length h
  rw [List.length_append,← size_bytes,← size_bytes] at this
  exact this
theorem bytes_snap {t : ByteArray} {l : List Int} (h : bytesI t = l) : strOfNums l = t:=by rw [← h,str_by]
open Classical in
theorem snap_ref {c : GConf} (hc : SmC c) : m_ref13_Snap c = some (if RightG c then strOfNums (snapL c) else ⟨#[]⟩):=by
  unfold m_ref13_Snap
  rw [right_ref hc,Option.bind_some]
  by_cases g : RightG c
  case neg=>rw [decide_eq_false g,if_neg (by simp),if_neg g]
  have hh:=hint_size g
  have ht:=text_size g
  have hr:=ring_small g.ring
  have n1:=g.hn
  have n2:=g.al
  have n3:=g.fn
  rw [decide_eq_true g,if_pos rfl,if_pos g]
  obtain ⟨t0,a0,b0⟩:=rnum1 (v:=(c.fRing.length : Int)) (o:=⟨⟨#[]⟩,[]⟩) (by show (0 : Nat) ≤ _; omega)
  have z0:=grow_size b0
  rw [a0,Option.bind_some]
  replace z0 : t0.size = 0 + 1:=z0
  obtain ⟨t1,a1,b1⟩:=rput_loop c.fRing (fun x=>[x % 256]) (step:=fun s=>m_ref13_Snap_s8 c s.1 s.2) (by omega) (fun a _=>by simp) (fun k hk s hs=>by
    obtain ⟨t,h1,h2⟩:=rnum1 (v:=c.fRing[k]) (o:=⟨s,[]⟩) (by show s.size ≤ _; omega)
    refine ⟨t,?_,h2⟩
    show m_ref13_Snap_s8 c (k : Int) s = _
    unfold m_ref13_Snap_s8
    rw [if_pos (by omega),at_nat hk,Option.bind_some,h1,Option.bind_some,w64_succ (by omega)]) (fun s=>by
    show m_ref13_Snap_s8 c (c.fRing.length : Int) s = _
    unfold m_ref13_Snap_s8; rw [if_neg (by omega)]) t0 (by omega)
  have z1:=grow_size b1
  have y1:=fm_le (e:=fun x : Int=>[x % 256]) c.fRing (fun a _=>by simp)
  simp only
  rw [a1,Option.bind_some,m_ref13_Snap_j1]
  obtain ⟨t2,a2,b2⟩:=rnum1 (v:=(c.fHints.length : Int)) (o:=⟨t1,[]⟩) (by show t1.size ≤ _; omega)
  have z2:=grow_size b2
  replace z2 : t2.size = t1.size + 1:=z2
  rw [a2,Option.bind_some]
  obtain ⟨t3,a3,b3⟩:=rput_loop c.fHints bytesI (step:=fun s=>m_ref13_Snap_s7 c s.1 s.2) (by omega) (fun a ha=>by rw [← size_bytes,hh a ha]; omega) (fun k hk s hs=>by
    have:=hh _ (List.getElem_mem hk)
    refine ⟨s++c.fHints[k],?_,bytesI_append _ _⟩
    show m_ref13_Snap_s7 c (k : Int) s = _
    unfold m_ref13_Snap_s7
    rw [if_pos (by omega),at_nat hk,Option.bind_some,sadd_of (by omega),Option.bind_some,w64_succ (by omega)]) (fun s=>by
    show m_ref13_Snap_s7 c (c.fHints.length : Int) s = _
    unfold m_ref13_Snap_s7; rw [if_neg (by omega)]) t2 (by omega)
  have z3:=grow_size b3
  have y3:=fm_le (e:=bytesI) c.fHints (fun a ha=>by rw [← size_bytes,hh a ha]; omega)
  simp only
  rw [a3,Option.bind_some,m_ref13_Snap_j2]
  obtain ⟨t4,a4,b4⟩:=rnum1 (v:=(c.fAnchors.length : Int)) (o:=⟨t3,[]⟩) (by show t3.size ≤ _; omega)
  have z4:=grow_size b4
  replace z4 : t4.size = t3.size + 1:=z4
  rw [a4,Option.bind_some]
  have hab : ∀ a ∈ c.fAnchors,(anB a).length ≤ 1000:=fun a ha=>by
    have h1:=hc.an a ha
    have h2:=ht a ha
    unfold anB
    rw [List.length_append,List.length_append,← size_bytes,← size_bytes,List.length_singleton]
    omega
  obtain ⟨t5,a5,b5⟩:=rput_loop c.fAnchors anB (step:=fun s=>m_ref13_Snap_s6 c s.1 s.2) (by omega) hab (fun k hk s hs=>by
    have h1:=hc.an _ (List.getElem_mem hk)
    have h2:=ht _ (List.getElem_mem hk)
    have q1 : (s++c.fAnchors[k].fName).size = s.size + c.fAnchors[k].fName.size:=ByteArray.size_append
    obtain ⟨t,h3,h4⟩:=rnum1 (v:=(c.fAnchors[k].fText.size : Int)) (o:=⟨s++c.fAnchors[k].fName,[]⟩) (by show (s++c.fAnchors[k].fName).size ≤ _; omega)
    have z:=grow_size h4
    replace z : t.size = (s++c.fAnchors[k].fName).size + 1:=z
    refine ⟨t++c.fAnchors[k].fText,?_,?_⟩
    · show m_ref13_Snap_s6 c (k : Int) s = _
      unfold m_ref13_Snap_s6
      rw [if_pos (by omega),at_nat hk,Option.bind_some,sadd_of (by omega),Option.bind_some,Option.bind_some,h3,Option.bind_some,Option.bind_some]
      simp only
      rw [sadd_of (by omega),Option.bind_some,w64_succ (by omega)]
    · rw [bytesI_append,h4]
      simp only
      rw [bytesI_append,anB,List.append_assoc,List.append_assoc]) (fun s=>by
    show m_ref13_Snap_s6 c (c.fAnchors.length : Int) s = _
    unfold m_ref13_Snap_s6; rw [if_neg (by omega)]) t4 (by omega)
  have z5:=grow_size b5
  have y5:=fm_le c.fAnchors hab
  simp only
  rw [a5,Option.bind_some,m_ref13_Snap_j3]
  obtain ⟨t6,a6,b6⟩:=rnum8 (v:=c.fEpoch) (s:=t5) (by omega)
  have z6:=grow_size b6
  replace z6 : t6.size = t5.size + 8:=z6
  rw [a6,Option.bind_some]
  obtain ⟨t7,a7,b7⟩:=rnum1 (v:=(c.fFlushes.length : Int)) (o:=⟨t6,[]⟩) (by show t6.size ≤ _; omega)
  have z7:=grow_size b7
  replace z7 : t7.size = t6.size + 1:=z7
  simp only
  rw [a7,Option.bind_some]
  have hfb : ∀ a ∈ c.fFlushes,(flB a).length ≤ 1000:=fun a ha=>by
    have h1:=hc.fl a ha
    unfold flB
    rw [List.length_append,← size_bytes]
    simp only [eightB,List.length_cons,List.length_nil]
    omega
  obtain ⟨t8,a8,b8⟩:=rput_loop c.fFlushes flB (step:=fun s=>m_ref13_Snap_s5 c s.1 s.2) (by omega) hfb (fun k hk s hs=>by
    have h1:=hc.fl _ (List.getElem_mem hk)
    obtain ⟨t,h3,h4⟩:=rnum8 (v:=c.fFlushes[k].fEpoch) (s:=s) (by omega)
    have z:=grow_size h4
    replace z : t.size = s.size + 8:=z
    refine ⟨t++c.fFlushes[k].fZone,?_,?_⟩
    · show m_ref13_Snap_s5 c (k : Int) s = _
      unfold m_ref13_Snap_s5
      rw [if_pos (by omega),at_nat hk,Option.bind_some,h3,Option.bind_some,Option.bind_some]
      simp only
      rw [sadd_of (by omega),Option.bind_some,w64_succ (by omega)]
    · rw [bytesI_append,h4,flB,List.append_assoc]) (fun s=>by
    show m_ref13_Snap_s5 c (c.fFlushes.length : Int) s = _
    unfold m_ref13_Snap_s5; rw [if_neg (by omega)]) t7 (by omega)
  simp only
  rw [a8,Option.bind_some,m_ref13_Snap_j4]
  congr 1
  refine (bytes_snap ?_).symm
  rw [b8,b7,b6,b5,b4,b3,b2,b1,b0]
  show ((((((((bytesI ⟨#[]⟩++_)++_)++_)++_)++_)++_)++_)++_)++_ = _
  simp only [snapL,ringB,List.append_assoc]
  rfl
open Go.RowKit
theorem ext_all (s : ByteArray) : s.extract 0 s.size = s:=bytesI_inj (by rw [bytesI_extract,List.drop_zero,size_bytes,List.take_of_length_le (Nat.le_refl _)])
theorem cut_by {s : ByteArray} {n : Nat} (h : n ≤ s.size) : bytesI (s.extract 0 n)++bytesI (s.extract n s.size) = bytesI s:=by
  rw [bytesI_extract,bytesI_extract,List.drop_zero,size_bytes,List.take_of_length_le (l:=bytesI s) (Nat.le_refl _),List.take_append_drop]
theorem cut_of {s t : ByteArray} {p : List Int} (h : bytesI s = p++bytesI t) : p.length ≤ s.size∧bytesI (s.extract 0 p.length) = p∧s.extract p.length s.size = t:=by
  have hs : s.size = p.length + t.size:=by rw [size_bytes,h,List.length_append,← size_bytes]
  refine ⟨by omega,?_,bytesI_inj ?_⟩
  · rw [bytesI_extract,List.drop_zero,h,List.take_left]
  · rw [bytesI_extract,size_bytes s,List.take_of_length_le (Nat.le_refl _),h,List.drop_left]
theorem tail_of {s : ByteArray} {p q : List Int} (h : bytesI s = p++q) : ∃ u : ByteArray,bytesI u = q∧u.size ≤ s.size:=by
  refine ⟨s.extract p.length s.size,?_,by rw [ByteArray.size_extract]; omega⟩
  rw [bytesI_extract,size_bytes,List.take_of_length_le (Nat.le_refl _),h,List.drop_left]
/-- What a reader reads: its bytes, and what may come of them. -/
structure CGet {α : Type} (m : Gconf_reader→Option (α×Gconf_reader)) (e : α→List Int) (P : α→Prop) : Prop where
  tot : ∀ s b,s.size ≤ 20000→∃ a t d,m ⟨s,b⟩ = some (a,⟨t,d⟩)∧t.size ≤ s.size∧(d = false→b = false∧bytesI s = e a++bytesI t∧P a)
  full : ∀ a s t,P a→s.size ≤ 20000→bytesI s = e a++bytesI t→m ⟨s,false⟩ = some (a,⟨t,false⟩)
theorem take_cd {s : ByteArray} {b : Bool} (hs : s.size ≤ 100000) {n : Nat} (hn : n ≤ 100000) : m_conf_reader_take (n : Int) ⟨s,b⟩ = some (if n ≤ s.size then (s.extract 0 n,⟨s.extract n s.size,b⟩) else (⟨#[]⟩,⟨s,true⟩)):=by
  rw [m_conf_reader_take]
  simp only
  rw [m_pack_Raw,if_neg (by omega),if_neg (by omega),if_neg (by omega),w64_id (by omega) (by omega)]
  by_cases h : n ≤ s.size
  · rw [if_neg (by omega),if_pos h,w64_id (by omega) (by omega),scutMid,if_pos ⟨by omega,by omega,by omega⟩,Option.bind_some,Option.bind_some]
    have hlo : scutLo s (0 + (n : Int)) = some (s.extract n s.size):=by
      rw [scutLo,if_pos ⟨by omega,by omega⟩]; congr 2; omega
    have hn0 : (0 + (n : Int)).toNat = n:=by omega
    cases b with
    | true=>rw [if_pos rfl,m_conf_reader_take_j1]; simp only; rw [hlo,hn0]; rfl
    | false=>rw [if_neg (show ¬ (false = true) by decide),m_conf_reader_take_j1]; simp only; rw [hlo,hn0]; rfl
  · rw [if_pos (by omega),if_neg h,Option.bind_some]
    have hlo : scutLo s 0 = some s:=by
      rw [scutLo,if_pos ⟨by omega,by omega⟩]; exact congrArg some (ext_all s)
    cases b with
    | true=>rw [if_pos rfl,m_conf_reader_take_j1]; simp only; rw [hlo]; rfl
    | false=>rw [if_neg (show ¬ (false = true) by decide),m_conf_reader_take_j1]; simp only; rw [hlo]; rfl
theorem c_take {n : Nat} (hn : n ≤ 100000) : CGet (m_conf_reader_take (n : Int)) bytesI (fun h=>h.size = n):=by
  refine ⟨fun s b hs=>?_,fun a s t ha hs h=>?_⟩
  · rw [take_cd (by omega) hn]
    by_cases h : n ≤ s.size
    · rw [if_pos h]
      exact ⟨_,_,_,rfl,by rw [ByteArray.size_extract]; omega,fun hb=>⟨hb,(cut_by h).symm,by rw [ByteArray.size_extract]; omega⟩⟩
    · rw [if_neg h]
      exact ⟨_,_,_,rfl,Nat.le_refl _,fun hb=>by cases hb⟩
  · obtain ⟨h1,h2,h3⟩:=cut_of h
    rw [← size_bytes] at h1 h2 h3
    have ha : a.size = n:=ha
    rw [ha] at h1 h2 h3
    rw [take_cd (by omega) hn,if_pos h1,h3,bytesI_inj h2]
theorem or_add64 (a b : Int) (ha : 0 ≤ a) (ha2 : a < 72057594037927936) (hb : 0 ≤ b∧b ≤ 255) : orI .u64 (a * 256) b = a * 256 + b:=by
  obtain ⟨m,rfl⟩:=Int.eq_ofNat_of_zero_le ha
  obtain ⟨n,rfl⟩:=Int.eq_ofNat_of_zero_le hb.1
  unfold orI
  have h1 : BitVec.ofInt IntKind.u64.bits ((m : Int) * 256) = BitVec.ofNat 64 (m * 256):=by
    rw [show (m : Int) * 256 = ((m * 256 : Nat) : Int) by omega]; exact BitVec.ofInt_natCast ..
  have h2 : BitVec.ofInt IntKind.u64.bits (n : Int) = BitVec.ofNat 64 n:=BitVec.ofInt_natCast ..
  rw [h1,h2]
  have h3 : ((BitVec.ofNat 64 (m * 256) ||| BitVec.ofNat 64 n).toNat : Nat) = m * 256 + n:=by
    rw [BitVec.toNat_or,BitVec.toNat_ofNat,BitVec.toNat_ofNat,Nat.mod_eq_of_lt (by omega),Nat.mod_eq_of_lt (by omega)]
    have:=Nat.two_pow_add_eq_or_of_lt (i:=8) (b:=n) (by omega) m
    rw [Nat.mul_comm m 256]
    exact this.symm
  have e : IntKind.u64.wrap (((BitVec.ofNat 64 (m * 256) ||| BitVec.ofNat 64 n).toNat : Nat) : Int) = IntKind.u64.wrap ((m * 256 + n : Nat) : Int):=congrArg (fun z : Nat=>IntKind.u64.wrap (z : Int)) h3
  exact e.trans (by rw [wrapu64 (by omega) (by omega)]; omega)
def valL (l : List Int) : Int:=l.foldl (fun v b=>v * 256 + b) 0
theorem valL_snoc (l : List Int) (b : Int) : valL (l++[b]) = valL l * 256 + b:=by simp [valL,List.foldl_append]
theorem valL_lt (l : List Int) (n : Nat) (hl : l.length ≤ n) (h : ∀ x ∈ l,0 ≤ x∧x ≤ 255) : 0 ≤ valL l∧valL l < 256 ^ n:=by
  induction n generalizing l with
  | zero=>rw [List.length_eq_zero_iff.1 (Nat.le_zero.1 hl)]; decide
  | succ n ih=>
    rcases List.eq_nil_or_concat l with rfl | ⟨l',b,rfl⟩
    · have : (0 : Int) < 256 ^ (n + 1):=Int.pow_pos (by decide)
      exact ⟨Int.le_refl _,this⟩
    · rw [List.concat_eq_append] at hl h ⊢
      rw [List.length_append,List.length_singleton] at hl
      have h1:=ih l' (by omega) (fun x hx=>h x (List.mem_append_left _ hx))
      have h2:=h b (List.mem_append_right _ List.mem_cons_self)
      rw [valL_snoc,Int.pow_succ]
      omega
theorem val_loop {x : ByteArray} (hx : x.size ≤ 8) : loop (fun s=>m_conf_reader_number_s3 x s.1 s.2) (0,0) = some (valL (bytesI x)):=by
  have hl:=size_bytes x
  refine loop_run (bytesI x).length (fun k=>(valL ((bytesI x).take k),(k : Int))) _ rfl (fun k hk=>?_) ?_
  · have hr:=bytesI_range x
    have hb:=hr _ (List.getElem_mem hk)
    have h1:=valL_lt ((bytesI x).take k) 7 (by rw [List.length_take]; omega) (fun y hy=>hr y (List.mem_of_mem_take hy))
    have h2 : (256 : Int) ^ 7 = 72057594037927936:=by decide
    rw [h2] at h1
    show m_conf_reader_number_s3 x (valL ((bytesI x).take k)) (k : Int) = _
    rw [m_conf_reader_number_s3,if_pos (by omega),at_nat hk,Option.bind_some,wrapu64 (by omega) (by omega),wrapu64 (by omega) (by omega),or_add64 _ _ h1.1 h1.2 hb,List.take_succ_eq_append_getElem hk,valL_snoc,w64_succ (by omega)]
  · show m_conf_reader_number_s3 x (valL ((bytesI x).take (bytesI x).length)) ((bytesI x).length : Int) = _
    rw [m_conf_reader_number_s3,if_neg (by omega),List.take_length]
open Go.RowKit
theorem num_cd {s : ByteArray} {b : Bool} (hs : s.size ≤ 100000) {n : Nat} (hn : n ≤ 8) : m_conf_reader_number (n : Int) ⟨s,b⟩ =
    some (if n ≤ s.size then (min (valL (bytesI (s.extract 0 n))) 4611686018427387904,⟨s.extract n s.size,b || decide (4611686018427387904 < valL (bytesI (s.extract 0 n)))⟩) else (0,⟨s,true⟩)):=by
  rw [m_conf_reader_number,take_cd hs (by omega),Option.bind_some]
  by_cases h : n ≤ s.size
  · rw [if_pos h,if_pos h]
    have hz : (s.extract 0 n).size ≤ 8:=by rw [ByteArray.size_extract]; omega
    simp only
    rw [val_loop hz,Option.bind_some,m_conf_reader_number_j1]
    have hv:=valL_lt (bytesI (s.extract 0 n)) 8 (by rw [← size_bytes]; exact hz) (bytesI_range _)
    have hm : w64 (min (valL (bytesI (s.extract 0 n))) 4611686018427387904) = min (valL (bytesI (s.extract 0 n))) 4611686018427387904:=w64_id (by omega) (by omega)
    cases b with
    | true=>rw [if_pos rfl,m_conf_reader_number_j2,hm]; rfl
    | false=>rw [if_neg (show ¬ (false = true) by decide),m_conf_reader_number_j2,hm,Bool.false_or]
  · rw [if_neg h,if_neg h]
    simp only
    rw [val_loop (by decide),Option.bind_some]
    rfl
theorem num_tot {s : ByteArray} {b : Bool} (hs : s.size ≤ 100000) {n : Nat} (hn : n ≤ 8) : ∃ v t d,m_conf_reader_number (n : Int) ⟨s,b⟩ = some (v,⟨t,d⟩)∧t.size ≤ s.size∧0 ≤ v∧(n = 1→v ≤ 255)∧
    (d = false→b = false∧∃ l,l.length = n∧(∀ x ∈ l,0 ≤ x∧x ≤ 255)∧v = valL l∧v ≤ 4611686018427387904∧bytesI s = l++bytesI t):=by
  rw [num_cd hs hn]
  by_cases h : n ≤ s.size
  · rw [if_pos h]
    have hz : (s.extract 0 n).size = n:=by rw [ByteArray.size_extract]; omega
    have hv:=valL_lt (bytesI (s.extract 0 n)) 8 (by rw [← size_bytes]; omega) (bytesI_range _)
    refine ⟨_,_,_,rfl,by rw [ByteArray.size_extract]; omega,by omega,fun h1=>?_,fun hd=>?_⟩
    · have hv1:=valL_lt (bytesI (s.extract 0 n)) 1 (by rw [← size_bytes]; omega) (bytesI_range _)
      omega
    · rw [Bool.or_eq_false_iff,decide_eq_false_iff_not] at hd
      exact ⟨hd.1,bytesI (s.extract 0 n),by rw [← size_bytes]; exact hz,bytesI_range _,by omega,by omega,(cut_by h).symm⟩
  · rw [if_neg h]
    exact ⟨_,_,_,rfl,Nat.le_refl _,by omega,fun _=>by omega,fun hd=>by cases hd⟩
theorem num_full {s t : ByteArray} (hs : s.size ≤ 100000) {l : List Int} (hl : l.length ≤ 8) (hv : valL l ≤ 4611686018427387904) (h : bytesI s = l++bytesI t) : m_conf_reader_number (l.length : Int) ⟨s,false⟩ = some (valL l,⟨t,false⟩):=by
  obtain ⟨h1,h2,h3⟩:=cut_of h
  rw [num_cd hs hl,if_pos h1,h2,h3,decide_eq_false (by omega),Int.min_eq_left hv]; rfl
theorem val1 {l : List Int} (h : l.length = 1) (hr : ∀ x ∈ l,0 ≤ x∧x ≤ 255) : l = [valL l % 256]∧0 ≤ valL l∧valL l ≤ 255:=by
  match l,h with
  | [a],_=>
    have ha:=hr a List.mem_cons_self
    have e : valL [a] = a:=by simp [valL]
    rw [e]
    exact ⟨by rw [Int.emod_eq_of_lt (by omega) (by omega)],ha⟩
theorem val8 {l : List Int} (h : l.length = 8) (hr : ∀ x ∈ l,0 ≤ x∧x ≤ 255) : l = eightB (valL l):=by
  match l,h with
  | [a,b,c,d,e,f,g,i],_=>
    simp only [List.mem_cons,List.not_mem_nil,or_false,forall_eq_or_imp,forall_eq] at hr
    obtain ⟨h1,h2,h3,h4,h5,h6,h7,h8⟩:=hr
    have ev : valL [a,b,c,d,e,f,g,i] = (((((((a * 256 + b) * 256 + c) * 256 + d) * 256 + e) * 256 + f) * 256 + g) * 256 + i):=by simp [valL]
    rw [ev,eightB]
    congr 1
    · omega
    congr 1
    · omega
    congr 1
    · omega
    congr 1
    · omega
    congr 1
    · omega
    congr 1
    · omega
    congr 1
    · omega
    congr 1
    omega
theorem val_eight {v : Int} (h0 : 0 ≤ v) (h1 : v < 9223372036854775808) : valL (eightB v) = v:=by
  have ev : valL (eightB v) = (((((((v / 72057594037927936 % 256 * 256 + v / 281474976710656 % 256) * 256 + v / 1099511627776 % 256) * 256 + v / 4294967296 % 256) * 256 + v / 16777216 % 256) * 256 + v / 65536 % 256) * 256 + v / 256 % 256) * 256 + v % 256):=by simp [valL,eightB]
  have a1 : v / 256 * 256 + v % 256 = v:=by omega
  have a2 : v / 65536 * 256 + v / 256 % 256 = v / 256:=by omega
  have a3 : v / 16777216 * 256 + v / 65536 % 256 = v / 65536:=by omega
  have a4 : v / 4294967296 * 256 + v / 16777216 % 256 = v / 16777216:=by omega
  have a5 : v / 1099511627776 * 256 + v / 4294967296 % 256 = v / 4294967296:=by omega
  have a6 : v / 281474976710656 * 256 + v / 1099511627776 % 256 = v / 1099511627776:=by omega
  have a7 : v / 72057594037927936 * 256 + v / 281474976710656 % 256 = v / 281474976710656:=by omega
  have a8 : v / 72057594037927936 % 256 = v / 72057594037927936:=Int.emod_eq_of_lt (by omega) (by omega)
  rw [ev,a8,a7,a6,a5,a4,a3,a2,a1]
theorem c_num1 : CGet (m_conf_reader_number 1) (fun x=>[x % 256]) (fun x=>0 ≤ x∧x ≤ 255):=by
  refine ⟨fun s b hs=>?_,fun a s t ha hs h=>?_⟩
  · obtain ⟨v,t,d,h1,h2,h3,h4,h5⟩:=num_tot (s:=s) (b:=b) (by omega) (n:=1) (by omega)
    refine ⟨v,t,d,h1,h2,fun hd=>?_⟩
    obtain ⟨h6,l,h7,h8,h9,h10,h11⟩:=h5 hd
    obtain ⟨g1,g2⟩:=val1 h7 h8
    exact ⟨h6,by rw [h11,h9]; exact congrArg (·++bytesI t) g1,by rw [h9]; exact g2⟩
  · have e : valL [a % 256] = a:=by have ha : 0 ≤ a∧a ≤ 255:=ha; simp [valL]; omega
    have:=num_full (s:=s) (t:=t) (by omega) (l:=[a % 256]) (by simp) (by rw [e]; have ha : 0 ≤ a∧a ≤ 255:=ha; omega) h
    rwa [e] at this
theorem c_num8 : CGet (m_conf_reader_number 8) eightB (fun x=>0 ≤ x∧x ≤ 4611686018427387904):=by
  refine ⟨fun s b hs=>?_,fun a s t ha hs h=>?_⟩
  · obtain ⟨v,t,d,h1,h2,h3,h4,h5⟩:=num_tot (s:=s) (b:=b) (by omega) (n:=8) (by omega)
    refine ⟨v,t,d,h1,h2,fun hd=>?_⟩
    obtain ⟨h6,l,h7,h8,h9,h10,h11⟩:=h5 hd
    exact ⟨h6,by rw [h11,h9]; exact congrArg (·++bytesI t) (val8 h7 h8),h3,h10⟩
  · have ha : 0 ≤ a∧a ≤ 4611686018427387904:=ha
    have e:=val_eight ha.1 (by omega)
    have:=num_full (s:=s) (t:=t) (by omega) (l:=eightB a) (by simp [eightB]) (by rw [e]; omega) h
    rwa [e] at this
open Go.RowKit
/-- How the end of a name is looked for. -/
def walkS (r : ByteArray) (st : Int→Option (Int ⊕ Int)) : Prop:=∀ i : Nat,i ≤ r.size + 300→st (i : Int) = if (i : Int) < (r.size : Int) then (if byteAt r i ≠ 0 then some (.inl ((i : Int) + 1 + byteAt r i)) else some (.inr (i : Int))) else some (.inr (i : Int))
theorem walk_end {r : ByteArray} {st : Int→Option (Int ⊕ Int)} (hst : walkS r st) : ∃ A : Nat,loop st 0 = some (A : Int)∧A ≤ r.size + 300:=by
  obtain ⟨x,g1,A,rfl,g2⟩:=loop_rule (step:=st) (fun s=>∃ i : Nat,s = (i : Int)∧i ≤ r.size + 300) (fun s=>(r.size + 301 - s).toNat) (fun x=>∃ A : Nat,x = (A : Int)∧A ≤ r.size + 300)
    (by
      rintro s ⟨i,rfl,hi⟩
      rw [hst i hi]
      by_cases h : (i : Int) < (r.size : Int)
      · rw [if_pos h]
        by_cases hb : byteAt r i ≠ 0
        · left
          have:=byteAt_lt r i
          rw [if_pos hb]
          exact ⟨_,rfl,⟨i + 1 + (byteAt r i).toNat,by omega,by omega⟩,by omega⟩
        · right
          rw [if_neg hb]
          exact ⟨_,rfl,i,rfl,hi⟩
      · right
        rw [if_neg h]
        exact ⟨_,rfl,i,rfl,hi⟩)
    (s0:=0) ⟨0,rfl,by omega⟩
  exact ⟨A,g1,g2⟩
theorem walk_name {r : ByteArray} {st : Int→Option (Int ⊕ Int)} (hst : walkS r st) {tl : List Int} : ∀ (ls : List ByteArray) (pre : List Int),okLs ls→bytesI r = pre++encB ls++0::tl→loop st (pre.length : Int) = some (((pre++encB ls).length : Nat) : Int)
  | [],pre,_,h=>by
    have hl : pre.length < (bytesI r).length:=by rw [h]; simp [encB]
    have hsz:=size_bytes r
    have hb:=bytesI_get r pre.length (by omega)
    have h0 : (bytesI r)[pre.length] = 0:=by simp [h,encB]
    rw [h0] at hb
    have hs:=hst pre.length (by omega)
    rw [if_pos (by omega),← hb,if_neg (by simp)] at hs
    rw [loop_inr hs]
    simp [encB]
  | s::ls,pre,hok,h=>by
    have hs1:=hok s List.mem_cons_self
    have he : encB (s::ls) = (s.size : Int)::bytesI s++encB ls:=by simp [encB]
    have hl : pre.length < (bytesI r).length:=by rw [h,he]; simp
    have hsz:=size_bytes r
    have hss:=size_bytes s
    have hb:=bytesI_get r pre.length (by omega)
    have h0 : (bytesI r)[pre.length] = (s.size : Int):=by simp [h,he]
    rw [h0] at hb
    have hs:=hst pre.length (by omega)
    rw [if_pos (by omega),← hb,if_pos (by omega)] at hs
    rw [loop_inl hs]
    have:=walk_name hst (tl:=tl) ls (pre++((s.size : Int)::bytesI s)) (fun x hx=>hok x (List.mem_cons_of_mem _ hx)) (by rw [h,he]; simp)
    rw [show ((pre++((s.size : Int)::bytesI s)).length : Int) = (pre.length : Int) + 1 + (s.size : Int) by simp; omega] at this
    rw [this,he]
    simp
theorem walk_code {r : ByteArray} (hr : r.size ≤ 20000) (b : Bool) : walkS r (fun s=>m_conf_reader_name_s3 ⟨r,b⟩ s):=by
  intro i hi
  simp only [m_conf_reader_name_s3]
  by_cases h : (i : Int) < (r.size : Int)
  · have hb:=byteAt_lt r i
    rw [if_pos h,if_pos h,sat_of (by omega) h,Option.bind_some,Option.bind_some,w64_id (x:=byteAt r i) (by omega) (by omega),w64_id (x:=1 + byteAt r i) (by omega) (by omega),w64_id (by omega) (by omega),show (i : Int) + (1 + byteAt r i) = (i : Int) + 1 + byteAt r i by omega]
  · rw [if_neg h,if_neg h]
open Classical in
theorem name_cd {r : ByteArray} {b : Bool} (hr : r.size ≤ 20000) {A : Nat} (hA : loop (fun s=>m_conf_reader_name_s3 ⟨r,b⟩ s) 0 = some (A : Int)) (hA2 : A ≤ r.size + 300) : m_conf_reader_name ⟨r,b⟩ = some (r.extract 0 (min (A + 1) r.size),⟨r.extract (min (A + 1) r.size) r.size,b || !decide (isNm (r.extract 0 (min (A + 1) r.size)))⟩):=by
  rw [m_conf_reader_name]
  erw [hA]
  rw [Option.bind_some,m_conf_reader_name_j1,w64_id (by omega) (by omega)]
  simp only
  rw [show min ((A : Int) + 1) (r.size : Int) = ((min (A + 1) r.size : Nat) : Int) by omega]
  generalize hn : min (A + 1) r.size = n
  have hnr : n ≤ r.size:=by omega
  rw [take_cd (by omega) (by omega),Option.bind_some,if_pos hnr]
  simp only
  cases b with
  | true=>rw [if_pos rfl,m_conf_reader_name_j2]; rfl
  | false=>rw [if_neg (by decide),named_cd (by rw [ByteArray.size_extract]; omega),Option.bind_some,m_conf_reader_name_j2]; rfl
theorem nm_end {r a t : ByteArray} (ha : isNm a) (h : bytesI r = bytesI a++bytesI t) {st : Int→Option (Int ⊕ Int)} (hst : walkS r st) : loop st 0 = some ((a.size - 1 : Nat) : Int)∧1 ≤ a.size∧a.size ≤ 255:=by
  obtain ⟨ls,⟨h1,h2⟩,h3⟩:=ha
  have hz : a.size = (encB ls).length + 1:=by rw [size_bytes,h2]; simp
  have:=walk_name hst (tl:=bytesI t) ls [] h1 (by rw [h,h2]; simp)
  refine ⟨this.trans ?_,by omega,h3⟩
  rw [List.nil_append]
  congr 2
  omega
theorem c_name : CGet m_conf_reader_name bytesI isNm:=by
  refine ⟨fun s b hs=>?_,fun a s t ha hs h=>?_⟩
  · obtain ⟨A,hA,hA2⟩:=walk_end (walk_code hs b)
    rw [name_cd hs hA hA2]
    refine ⟨_,_,_,rfl,by rw [ByteArray.size_extract]; omega,fun hd=>?_⟩
    rw [Bool.or_eq_false_iff] at hd
    have hn : isNm (s.extract 0 (min (A + 1) s.size)):=by
      have:=hd.2
      simpa using this
    exact ⟨hd.1,(cut_by (by omega)).symm,hn⟩
  · obtain ⟨h1,h2,h3⟩:=nm_end ha h (walk_code hs false)
    rw [name_cd hs h1 (by have:=cut_of h; rw [← size_bytes] at this; omega)]
    obtain ⟨g1,g2,g3⟩:=cut_of h
    rw [← size_bytes] at g1 g2 g3
    rw [show min (a.size - 1 + 1) s.size = a.size by omega,g3,bytesI_inj g2]
    simp [ha]
theorem c_anchor : CGet m_conf_Load_c3 anB (fun a=>isNm a.fName∧a.fText.size ≤ 255):=by
  refine ⟨fun s b hs=>?_,fun a s t ha hs h=>?_⟩
  · obtain ⟨n,s1,b1,e1,l1,f1⟩:=c_name.tot s b hs
    obtain ⟨k,s2,b2,e2,l2,k0,k1,f2⟩:=num_tot (s:=s1) (b:=b1) (by omega) (n:=1) (by omega)
    have kr:=k1 rfl
    obtain ⟨kn,rfl⟩:=Int.eq_ofNat_of_zero_le k0
    obtain ⟨x,s3,b3,e3,l3,f3⟩:=(c_take (n:=kn) (by omega)).tot s2 b2 (by omega)
    replace e2 : m_conf_reader_number 1 ⟨s1,b1⟩ = _:=e2
    refine ⟨⟨n,x⟩,s3,b3,?_,by omega,fun hd=>?_⟩
    · rw [m_conf_Load_c3,e1,Option.bind_some]
      simp only
      rw [e2,Option.bind_some]
      simp only
      rw [e3,Option.bind_some]
    · obtain ⟨hb2,g3,p3⟩:=f3 hd
      obtain ⟨hb1,l,q1,q2,q3,q4,q5⟩:=f2 hb2
      obtain ⟨hb,g1,p1⟩:=f1 hb1
      obtain ⟨w1,w2⟩:=val1 q1 q2
      have p3 : x.size = kn:=p3
      refine ⟨hb,?_,p1,by simp only; omega⟩
      rw [g1,q5,g3,anB,w1,← q3,p3]
      simp only [List.append_assoc]
  · obtain ⟨hn,ht⟩:=ha
    obtain ⟨n,x⟩:=a
    simp only at hn ht
    rw [anB] at h
    simp only [List.append_assoc] at h
    obtain ⟨s1,hs1,z1⟩:=tail_of h
    rw [← hs1] at h
    have e1:=c_name.full n s s1 hn hs h
    obtain ⟨s2,hs2,z2⟩:=tail_of hs1
    rw [← hs2] at hs1
    have e2:=c_num1.full (x.size : Int) s1 s2 ⟨by omega,by omega⟩ (by omega) hs1
    have e3:=(c_take (n:=x.size) (by omega)).full x s2 t rfl (by omega) hs2
    rw [m_conf_Load_c3,e1,Option.bind_some]
    simp only
    rw [e2,Option.bind_some]
    simp only
    rw [e3,Option.bind_some]
theorem c_flush : CGet m_conf_Load_c4 flB (fun f=>(0 ≤ f.fEpoch∧f.fEpoch ≤ 4611686018427387904)∧isNm f.fZone):=by
  refine ⟨fun s b hs=>?_,fun a s t ha hs h=>?_⟩
  · obtain ⟨k,s1,b1,e1,l1,f1⟩:=c_num8.tot s b hs
    obtain ⟨n,s2,b2,e2,l2,f2⟩:=c_name.tot s1 b1 (by omega)
    refine ⟨⟨k,n⟩,s2,b2,?_,by omega,fun hd=>?_⟩
    · rw [m_conf_Load_c4,e1,Option.bind_some]
      simp only
      rw [e2,Option.bind_some]
    · obtain ⟨hb1,g2,p2⟩:=f2 hd
      obtain ⟨hb,g1,p1⟩:=f1 hb1
      refine ⟨hb,?_,p1,p2⟩
      rw [g1,g2,flB,List.append_assoc]
  · obtain ⟨hk,hn⟩:=ha
    obtain ⟨k,n⟩:=a
    simp only at hk hn
    rw [flB] at h
    simp only [List.append_assoc] at h
    obtain ⟨s1,hs1,z1⟩:=tail_of h
    rw [← hs1] at h
    have e1:=c_num8.full k s s1 hk hs h
    have e2:=c_name.full n s1 t hn (by omega) hs1
    rw [m_conf_Load_c4,e1,Option.bind_some]
    simp only
    rw [e2,Option.bind_some]
theorem c_num1' : CGet m_conf_Load_c1 (fun x=>[x % 256]) (fun x=>0 ≤ x∧x ≤ 255):=by
  refine ⟨fun s b hs=>?_,fun a s t ha hs h=>?_⟩
  · obtain ⟨v,t,d,h1,h2⟩:=c_num1.tot s b hs
    exact ⟨v,t,d,by rw [m_conf_Load_c1,h1]; rfl,h2⟩
  · rw [m_conf_Load_c1,c_num1.full a s t ha hs h]; rfl
theorem c_take4' : CGet m_conf_Load_c2 bytesI (fun h=>h.size = 4):=by
  refine ⟨fun s b hs=>?_,fun a s t ha hs h=>?_⟩
  · obtain ⟨v,t,d,h1,h2⟩:=(c_take (n:=4) (by omega)).tot s b hs
    exact ⟨v,t,d,by rw [m_conf_Load_c2]; erw [h1]; rfl,h2⟩
  · have:=(c_take (n:=4) (by omega)).full a s t ha hs h
    rw [m_conf_Load_c2]; erw [this]; rfl
open Go.RowKit
def lsStep {α : Type} (m : Gconf_reader→Option (α×Gconf_reader)) (sz : Nat) (n : Int) : List α×Int×ByteArray×Bool→Option ((List α×Int×ByteArray×Bool) ⊕ ((List α×ByteArray×Bool) ⊕ (List α×Gconf_reader))):=fun s=>
  if s.2.1 < n then
    if s.2.2.2 = true then some (.inr (.inr (([] : List α),(⟨s.2.2.1,s.2.2.2⟩ : Gconf_reader))))
    else (m (⟨s.2.2.1,s.2.2.2⟩ : Gconf_reader)).bind fun z=>(app sz s.1 [z.1]).bind fun l=>some (.inl (l,w64 (s.2.1 + 1),z.2.fs,z.2.fbad))
  else some (.inr (.inl (s.1,s.2.2.1,s.2.2.2)))
noncomputable def lsRun {α : Type} (m : Gconf_reader→Option (α×Gconf_reader)) (sz : Nat) (o : Gconf_reader) : Option (List α×Gconf_reader):=
  (m_conf_reader_number 1 o).bind fun z=>(loop (lsStep m sz z.1) (([] : List α),0,z.2.fs,z.2.fbad)).bind fun e=>Sum.elim (fun e=>some (e.1,(⟨e.2.1,e.2.2⟩ : Gconf_reader))) (fun x=>some x) e
theorem ls64 : m_conf_list_64 = lsRun m_conf_Load_c1 8:=rfl
theorem ls67 : m_conf_list_67 = lsRun m_conf_Load_c2 16:=rfl
theorem ls70 : m_conf_list_70 = lsRun m_conf_Load_c3 32:=rfl
theorem ls73 : m_conf_list_73 = lsRun m_conf_Load_c4 24:=rfl
theorem ls_step {α : Type} {m : Gconf_reader→Option (α×Gconf_reader)} {sz n : Nat} {l : List α} {s t : ByteArray} {b d : Bool} {a : α} (hz : sz ≤ 1000) (hn : n ≤ 255) (hl : l.length < n) (hb : b = false) (h : m ⟨s,b⟩ = some (a,⟨t,d⟩)) :
    lsStep m sz (n : Int) (l,(l.length : Int),s,b) = some (.inl (l++[a],((l++[a]).length : Int),t,d)):=by
  have h1 : (l.length + 1) * sz ≤ 256 * 1000:=Nat.mul_le_mul (by omega) hz
  unfold lsStep
  simp only
  rw [if_pos (by omega),if_neg (by simp [hb]),h,Option.bind_some]
  simp only
  rw [app_of (by rw [List.length_singleton]; omega),Option.bind_some,w64_succ (by omega),List.length_append,List.length_singleton]
theorem c_list {α : Type} {m : Gconf_reader→Option (α×Gconf_reader)} {e : α→List Int} {P : α→Prop} (H : CGet m e P) {sz : Nat} (hz : sz ≤ 1000) :
    CGet (lsRun m sz) (fun l=>[(l.length : Int) % 256]++l.flatMap e) (fun l=>l.length ≤ 255∧∀ a ∈ l,P a):=by
  refine ⟨fun s b hs=>?_,fun a s t ha hs h=>?_⟩
  · obtain ⟨k,s1,b1,e1,l1,k0,k1,f1⟩:=num_tot (s:=s) (b:=b) (by omega) (n:=1) (by omega)
    have kr:=k1 rfl
    obtain ⟨n,rfl⟩:=Int.eq_ofNat_of_zero_le k0
    replace e1 : m_conf_reader_number 1 ⟨s,b⟩ = some ((n : Int),⟨s1,b1⟩):=e1
    obtain ⟨r,hr,l,t,d,g1,g2,g3⟩:=loop_rule (step:=lsStep m sz (n : Int)) (fun x=>∃ l t d,x = (l,(l.length : Int),t,d)∧l.length ≤ n∧t.size ≤ s1.size∧(d = false→b1 = false∧bytesI s1 = l.flatMap e++bytesI t∧∀ a ∈ l,P a))
      (fun x=>(n - x.2.1).toNat) (fun r=>∃ l t d,Sum.elim (fun e=>some (e.1,(⟨e.2.1,e.2.2⟩ : Gconf_reader))) (fun x=>some x) r = some (l,⟨t,d⟩)∧t.size ≤ s1.size∧(d = false→b1 = false∧l.length = n∧bytesI s1 = l.flatMap e++bytesI t∧∀ a ∈ l,P a))
      (by
        rintro x ⟨l,t,d,rfl,hl,ht,hd⟩
        by_cases hi : l.length < n
        · by_cases hb : d = true
          · right
            refine ⟨.inr ([],⟨t,d⟩),?_,[],t,d,rfl,ht,fun q=>by rw [hb] at q; cases q⟩
            unfold lsStep
            simp only
            rw [if_pos (by omega),if_pos hb]
          · left
            have hb' : d = false:=by simpa using hb
            obtain ⟨a,u,d',h1,h2,h3⟩:=H.tot t d (by omega)
            refine ⟨_,ls_step hz (by omega) hi hb' h1,⟨_,_,_,rfl,by rw [List.length_append,List.length_singleton]; omega,by omega,fun q=>?_⟩,?_⟩
            · obtain ⟨p1,p2,p3⟩:=h3 q
              obtain ⟨q1,q2,q3⟩:=hd p1
              refine ⟨q1,by rw [q2,p2,List.flatMap_append,List.flatMap_singleton,List.append_assoc],fun y hy=>?_⟩
              rcases List.mem_append.1 hy with hy | hy
              · exact q3 y hy
              · rw [List.mem_singleton] at hy; subst hy; exact p3
            · simp only [List.length_append,List.length_singleton]; omega
        · right
          have hln : l.length = n:=by omega
          refine ⟨.inl (l,t,d),?_,l,t,d,rfl,ht,fun q=>?_⟩
          · unfold lsStep
            simp only
            rw [if_neg (by omega)]
          · obtain ⟨q1,q2,q3⟩:=hd q
            exact ⟨q1,hln,q2,q3⟩)
      (s0:=([],0,s1,b1)) ⟨[],s1,b1,rfl,by simp,Nat.le_refl _,fun q=>⟨q,rfl,fun _ hh=>by cases hh⟩⟩
    refine ⟨l,t,d,?_,by omega,fun q=>?_⟩
    · unfold lsRun
      rw [e1,Option.bind_some,hr,Option.bind_some]
      exact g1
    · obtain ⟨q1,q2,q3,q4⟩:=g3 q
      obtain ⟨p1,y,p2,p3,p4,p5,p6⟩:=f1 q1
      obtain ⟨w1,w2⟩:=val1 p2 p3
      refine ⟨p1,?_,by omega,q4⟩
      rw [p6,q3,w1,← p4,q2,List.append_assoc]
  · obtain ⟨hl,hP⟩:=ha
    simp only [List.append_assoc] at h
    obtain ⟨s1,hs1,z1⟩:=tail_of h
    rw [← hs1] at h
    have e1:=c_num1.full (a.length : Int) s s1 ⟨by omega,by omega⟩ hs h
    have key : ∀ (l2 l1 : List α) (u : ByteArray),a = l1++l2→u.size ≤ 20000→bytesI u = l2.flatMap e++bytesI t→loop (lsStep m sz (a.length : Int)) (l1,(l1.length : Int),u,false) = some (.inl (a,t,false)):=by
      intro l2
      induction l2 with
      | nil=>
        intro l1 u h1 hu h2
        rw [List.append_nil] at h1
        subst h1
        rw [List.flatMap_nil,List.nil_append] at h2
        rw [bytesI_inj h2]
        refine loop_inr ?_
        unfold lsStep
        simp only
        rw [if_neg (by omega)]
      | cons x l2 ih=>
        intro l1 u h1 hu h2
        rw [List.flatMap_cons,List.append_assoc] at h2
        obtain ⟨v,hv,zv⟩:=tail_of h2
        rw [← hv] at h2
        have e2:=H.full x u v (hP x (by rw [h1]; simp)) hu h2
        have hlen : a.length = l1.length + (l2.length + 1):=by rw [h1,List.length_append,List.length_cons]
        rw [loop_inl (ls_step hz hl (by omega) rfl e2)]
        exact ih (l1++[x]) v (by rw [h1]; simp) (by omega) hv
    have e3:=key a [] s1 rfl (by omega) hs1
    unfold lsRun
    rw [e1,Option.bind_some]
    simp only
    replace e3 : loop (lsStep m sz (a.length : Int)) ([],0,s1,false) = some (.inl (a,t,false)):=e3
    rw [e3,Option.bind_some]
    rfl
/-! ### The reference's lists -/
open Go.RowKit
theorem of_gd {α : Type} {l : List α} {d : α} {p : α→Prop} (h : ∀ k,k < l.length→p (l.getD k d)) : ∀ a ∈ l,p a:=fun a ha=>by
  obtain ⟨k,hk,rfl⟩:=List.getElem_of_mem ha
  have:=h k hk
  rwa [List.getD_eq_getElem?_getD,List.getElem?_eq_getElem hk] at this
structure PartsC (c : GConf) : Prop where
  r : c.fRing.length ≤ 255∧∀ x ∈ c.fRing,0 ≤ x∧x ≤ 255
  h : c.fHints.length ≤ 255∧∀ h ∈ c.fHints,h.size = 4
  a : c.fAnchors.length ≤ 255∧∀ a ∈ c.fAnchors,isNm a.fName∧a.fText.size ≤ 255
  e : 0 ≤ c.fEpoch∧c.fEpoch ≤ 4611686018427387904
  f : c.fFlushes.length ≤ 255∧∀ f ∈ c.fFlushes,(0 ≤ f.fEpoch∧f.fEpoch ≤ 4611686018427387904)∧isNm f.fZone
theorem parts_of {c : GConf} (g : RightG c) : PartsC c:=by
  have n1:=ring_small g.ring
  have n2:=g.hn
  have n3:=g.al
  have n4:=g.fn
  have n5:=g.ep
  refine ⟨⟨by omega,of_gd (d:=0) fun k hk=>?_⟩,⟨by omega,hint_size g⟩,⟨by omega,of_gd (d:=zeroAn) fun k hk=>?_⟩,⟨n5.1,by omega⟩,⟨by omega,of_gd (d:=zeroFl) fun k hk=>?_⟩⟩
  · have:=(g.ring k hk).1
    omega
  · have:=g.an k hk
    exact ⟨this.1,by have:=this.2.2.1; omega⟩
  · have:=(g.fl k hk).1
    exact ⟨⟨by omega,by omega⟩,this.1⟩
theorem nm_le {n : ByteArray} (h : isNm n) : n.size ≤ 255:=by obtain ⟨_,-,h⟩:=h; exact h
theorem sm_parts {c : GConf} (p : PartsC c) : SmC c:=
  ⟨by have:=p.r.1; omega,by have:=p.h.1; omega,by have:=p.a.1; omega,by have:=p.f.1; omega,fun a ha=>by have:=nm_le (p.a.2 a ha).1; omega,fun a ha=>by have:=nm_le (p.f.2 a ha).2; omega⟩
theorem snap_range (c : GConf) : ∀ x ∈ snapL c,0 ≤ x∧x ≤ 255:=by
  intro x hx
  have e8 : ∀ v : Int,x ∈ eightB v→0 ≤ x∧x ≤ 255:=fun v hv=>by
    simp only [eightB,List.mem_cons,List.not_mem_nil,or_false] at hv
    omega
  simp only [snapL,ringB,List.mem_append,List.mem_flatMap,List.mem_singleton] at hx
  rcases hx with hx | ⟨_,_,hx⟩ | hx | ⟨_,_,hx⟩ | hx | ⟨_,_,hx⟩ | hx | hx | ⟨_,_,hx⟩
  · omega
  · omega
  · omega
  · exact bytesI_range _ _ hx
  · omega
  · simp only [anB,List.mem_append,List.mem_singleton] at hx
    rcases hx with hx | hx | hx
    · exact bytesI_range _ _ hx
    · omega
    · exact bytesI_range _ _ hx
  · exact e8 _ hx
  · omega
  · simp only [flB,List.mem_append] at hx
    rcases hx with hx | hx
    · exact e8 _ hx
    · exact bytesI_range _ _ hx
theorem load_full {s : ByteArray} (hs : s.size ≤ 20000) {c : GConf} (g : RightG c) (h : bytesI s = snapL c) : m_conf_Load s = some (c,0):=by
  have p:=parts_of g
  obtain ⟨r,hi,an,ep,fl⟩:=c
  have h1 : bytesI s = ([(r.length : Int) % 256]++r.flatMap fun x=>[x % 256])++(([(hi.length : Int) % 256]++hi.flatMap bytesI)++(([(an.length : Int) % 256]++an.flatMap anB)++(eightB ep++(([(fl.length : Int) % 256]++fl.flatMap flB)++bytesI ⟨#[]⟩)))):=by
    rw [h,show bytesI (⟨#[]⟩ : ByteArray) = [] from rfl]
    simp only [snapL,ringB,List.append_assoc,List.append_nil]
  obtain ⟨s1,g1,z1⟩:=tail_of h1
  rw [← g1] at h1
  obtain ⟨s2,g2,z2⟩:=tail_of g1
  rw [← g2] at g1
  obtain ⟨s3,g3,z3⟩:=tail_of g2
  rw [← g3] at g2
  obtain ⟨s4,g4,z4⟩:=tail_of g3
  rw [← g4] at g3
  have e1:=(c_list c_num1' (sz:=8) (by omega)).full r s s1 p.r hs h1
  have e2:=(c_list c_take4' (sz:=16) (by omega)).full hi s1 s2 p.h (by omega) g1
  have e3:=(c_list c_anchor (sz:=32) (by omega)).full an s2 s3 p.a (by omega) g2
  have e4:=c_num8.full ep s3 s4 p.e (by omega) g3
  have e5:=(c_list c_flush (sz:=24) (by omega)).full fl s4 ⟨#[]⟩ p.f (by omega) g4
  rw [m_conf_Load,ls64,ls67,ls70,ls73,e1,Option.bind_some]
  simp only
  rw [e2,Option.bind_some]
  simp only
  rw [e3,Option.bind_some]
  simp only
  rw [e4,Option.bind_some]
  simp only
  rw [e5,Option.bind_some]
  simp only
  rw [if_neg (by decide),if_pos trivial,right_code (sm_parts p),Option.bind_some,if_pos (by simp [g])]
open Go.RowKit
theorem short13_of {s : ByteArray} (k : Nat) (h : s.size ≤ 9223372036854775807) : ∃ t,m_law13_short s (k : Int) = some t∧t.size ≤ k:=by
  rw [m_law13_short]
  by_cases hc : k < s.size
  · rw [if_pos (by omega),scutHi,if_pos ⟨by omega,by omega⟩]
    exact ⟨_,rfl,by rw [ByteArray.size_extract]; omega⟩
  · rw [if_neg (by omega)]; exact ⟨_,rfl,by omega⟩
theorem awake13 : m_law13_awake = some true:=by decide +kernel
/-! ### A configuration is the same as itself -/
theorem sm_loop {step : Int→Option (Int ⊕ (Unit ⊕ Bool))} (n : Nat) (hs : ∀ k,k < n→step (k : Int) = some (.inl ((k + 1 : Nat) : Int))) (he : step (n : Int) = some (.inr (.inl ()))) : loop step 0 = some (.inl ()):=
  loop_run n (fun k=>(k : Int)) _ rfl hs he
theorem conf_self {c : GConf} (h1 : c.fRing.length ≤ 255) (h2 : c.fHints.length ≤ 255) (h3 : c.fAnchors.length ≤ 255) (h4 : c.fFlushes.length ≤ 255) : m_ref13_Same c c = some true:=by
  rw [m_ref13_Same,if_neg (by simp),if_neg (by simp),if_neg (by simp),if_neg (by simp),if_neg (by simp)]
  rw [sm_loop c.fRing.length (step:=fun s=>m_ref13_Same_s8 c c s) (fun k hk=>by simp only [m_ref13_Same_s8]; rw [if_pos (by omega),at_nat hk,Option.bind_some,Option.bind_some,if_neg (by simp),w64_succ (by omega)]) (by simp only [m_ref13_Same_s8]; rw [if_neg (by omega)])]
  rw [Option.bind_some,Sum.elim_inl,m_ref13_Same_j1]
  rw [sm_loop c.fHints.length (step:=fun s=>m_ref13_Same_s7 c c s) (fun k hk=>by simp only [m_ref13_Same_s7]; rw [if_pos (by omega),at_nat hk,Option.bind_some,Option.bind_some,if_pos rfl,w64_succ (by omega)]) (by simp only [m_ref13_Same_s7]; rw [if_neg (by omega)])]
  rw [Option.bind_some,Sum.elim_inl,m_ref13_Same_j2]
  rw [sm_loop c.fAnchors.length (step:=fun s=>m_ref13_Same_s6 c c s) (fun k hk=>by simp only [m_ref13_Same_s6]; rw [if_pos (by omega),at_nat hk,Option.bind_some,Option.bind_some,if_pos rfl,w64_succ (by omega)]) (by simp only [m_ref13_Same_s6]; rw [if_neg (by omega)])]
  rw [Option.bind_some,Sum.elim_inl,m_ref13_Same_j3]
  rw [sm_loop c.fFlushes.length (step:=fun s=>m_ref13_Same_s5 c c s) (fun k hk=>by simp only [m_ref13_Same_s5]; rw [if_pos (by omega),at_nat hk,Option.bind_some,Option.bind_some,if_pos rfl,w64_succ (by omega)]) (by simp only [m_ref13_Same_s5]; rw [if_neg (by omega)])]
  rfl
open Go.RowKit Go.Sort
/-- Where in a list something is first true, and what stands there. -/
def fndX {α : Type} (p : α→Bool) : List α→Nat→Option (Nat×α)
  | [],_=>none
  | x::r,i=>if p x = true then some (i,x) else fndX p r (i + 1)
def fndI {α : Type} : Option (Nat×α)→Int
  | some z=>(z.1 : Int)
  | none=>-1
theorem fndX_some {α : Type} {p : α→Bool} : ∀ {l : List α} {i k : Nat} {x : α},fndX p l i = some (k,x)→i ≤ k∧l[k - i]? = some x∧p x = true∧∀ j,j < k - i→∀ y,l[j]? = some y→p y = false
  | [],i,k,x,h=>by cases h
  | y::r,i,k,x,h=>by
    rw [fndX] at h
    by_cases hp : p y = true
    · rw [if_pos hp] at h; injection h with h; injection h with h1 h2; subst h1 h2
      exact ⟨Nat.le_refl _,by simp,hp,fun j hj=>by omega⟩
    · rw [if_neg hp] at h
      obtain ⟨h1,h2,h3,h4⟩:=fndX_some h
      refine ⟨by omega,?_,h3,fun j hj z hz=>?_⟩
      · rw [show k - i = (k - (i + 1)) + 1 by omega]; simpa using h2
      · cases j with
        | zero=>simp at hz; subst hz; simpa using hp
        | succ j=>exact h4 j (by omega) z (by simpa using hz)
theorem fndX_none {α : Type} {p : α→Bool} : ∀ {l : List α} {i : Nat},fndX p l i = none→∀ y ∈ l,p y = false
  | [],i,h,y,hy=>by cases hy
  | x::r,i,h,y,hy=>by
    rw [fndX] at h
    by_cases hp : p x = true
    · rw [if_pos hp] at h; cases h
    · rw [if_neg hp] at h
      rcases List.mem_cons.1 hy with rfl | hy
      · simpa using hp
      · exact fndX_none h y hy
theorem idx_loop {α : Type} (p : α→Bool) {l : List α} (hl : l.length ≤ 4611686018427387904) (step : Int→Option (Int ⊕ (Unit ⊕ Int)))
    (hs : ∀ i : Int,step i = if i < (l.length : Int) then (at_ l i).bind fun x=>if p x = true then some (.inr (.inr i)) else some (.inl (w64 (i + 1))) else some (.inr (.inl ()))) :
    ∀ (r pre : List α),l = pre++r→loop step (pre.length : Int) = some (match fndX p r pre.length with | some z=>.inr (z.1 : Int) | none=>.inl ()):=by
  intro r
  induction r with
  | nil=>
    intro pre h
    rw [List.append_nil] at h
    have:=hs (pre.length : Int)
    rw [if_neg (by rw [h]; omega)] at this
    rw [loop_inr this]; rfl
  | cons x r ih=>
    intro pre h
    have hlen : l.length = pre.length + (r.length + 1):=by rw [h]; simp
    have hat : at_ l (pre.length : Int) = some x:=by rw [at_nat (by omega)]; simp [h]
    have hst:=hs (pre.length : Int)
    rw [if_pos (by omega),hat,Option.bind_some] at hst
    rw [fndX]
    by_cases hp : p x = true
    · rw [if_pos hp] at hst
      rw [loop_inr hst,if_pos hp]
    · rw [if_neg hp,w64_id (by omega) (by omega)] at hst
      have:=ih (pre++[x]) (by rw [h]; simp)
      rw [List.length_append,List.length_singleton] at this
      rw [loop_inl hst,if_neg hp]
      exact this
theorem take_fnd {α : Type} {p : α→Bool} {l : List α} {k : Nat} {x : α} (h : fndX p l 0 = some (k,x)) : k < l.length∧p x = true∧l[k]? = some x∧(l.take k).filter (fun x=>!p x) = l.take k:=by
  obtain ⟨h1,h2,h3,h4⟩:=fndX_some h
  simp only [Nat.sub_zero] at h2 h4
  have hk:=(List.getElem?_eq_some_iff.1 h2).1
  refine ⟨hk,h3,h2,List.filter_eq_self.2 fun y hy=>?_⟩
  obtain ⟨j,hj,rfl⟩:=List.mem_take_iff_getElem.1 hy
  have:=h4 j (by omega) _ (List.getElem?_eq_getElem (by omega))
  simp [this]
theorem fndI_any {α : Type} (p : α→Bool) (l : List α) : decide (0 ≤ fndI (fndX p l 0)) = l.any p:=by
  cases hf : fndX p l 0 with
  | none=>
    have:=fndX_none hf
    rw [show fndI (none : Option (Nat×α)) = -1 from rfl,decide_eq_false (by omega)]
    symm
    rw [List.any_eq_false]
    intro x hx; rw [this x hx]; decide
  | some z=>
    obtain ⟨k,x⟩:=z
    obtain ⟨h1,h2,h3,-⟩:=take_fnd hf
    rw [show fndI (some (k,x)) = (k : Int) from rfl,decide_eq_true (by omega)]
    symm
    exact List.any_eq_true.2 ⟨x,List.mem_of_getElem? h3,h2⟩
noncomputable def flo (n : ByteArray) (l : List GFlush) : Int:=l.foldl (fun a f=>if undP n f.fZone = true then max a f.fEpoch else a) 0
theorem flo_app (n : ByteArray) (l : List GFlush) (f : GFlush) : flo n (l++[f]) = if undP n f.fZone = true then max (flo n l) f.fEpoch else flo n l:=by
  unfold flo; rw [List.foldl_append]; rfl
theorem flo_filter (n : ByteArray) (p : GFlush→Bool) : ∀ (l : List GFlush) (a : Int),(∀ f ∈ l,p f = false→undP n f.fZone = false)→
    (l.filter p).foldl (fun a f=>if undP n f.fZone = true then max a f.fEpoch else a) a = l.foldl (fun a f=>if undP n f.fZone = true then max a f.fEpoch else a) a
  | [],a,_=>rfl
  | f::r,a,h=>by
    have ih:=fun a=>flo_filter n p r a fun g hg=>h g (List.mem_cons_of_mem _ hg)
    rw [List.filter_cons,List.foldl_cons]
    by_cases hp : p f = true
    · rw [if_pos hp,List.foldl_cons,ih]
    · rw [if_neg hp,ih,if_neg (by rw [h f List.mem_cons_self (by simpa using hp)]; decide)]
theorem flo_le (n : ByteArray) (e : Int) : ∀ (l : List GFlush) (a : Int),0 ≤ a→a ≤ e→(∀ f ∈ l,f.fEpoch ≤ e)→0 ≤ l.foldl (fun a f=>if undP n f.fZone = true then max a f.fEpoch else a) a∧l.foldl (fun a f=>if undP n f.fZone = true then max a f.fEpoch else a) a ≤ e
  | [],a,h0,h1,_=>⟨h0,h1⟩
  | f::r,a,h0,h1,h=>by
    rw [List.foldl_cons]
    refine flo_le n e r _ ?_ ?_ fun g hg=>h g (List.mem_cons_of_mem _ hg)
    · split <;> omega
    · have:=h f List.mem_cons_self
      split <;> omega
theorem flo_no {n : ByteArray} (hn : ¬ isNm n) (l : List GFlush) : flo n l = 0:=by
  have : ∀ (l : List GFlush) (a : Int),l.foldl (fun a f=>if undP n f.fZone = true then max a f.fEpoch else a) a = a:=by
    intro l
    induction l with
    | nil=>intro a; rfl
    | cons f r ih=>intro a; rw [List.foldl_cons,ih,if_neg (by rw [undP_no (fun h=>hn h.1)]; decide)]
  exact this l 0
/-- What holds of the flushes. -/
structure FOk (e : Int) (l : List GFlush) : Prop where
  le : l.length ≤ 32
  ep : ∀ f ∈ l,f.fEpoch ≤ e
  zs : ∀ f ∈ l,f.fZone.size ≤ 300
noncomputable def nextF (e : Int) (l : List GFlush) (z : ByteArray) : List GFlush:=
  if 32 ≤ ((l.filter fun f=>!undP f.fZone (lowB z)).length : Int) then [⟨e + 1,rootB⟩] else (l.filter fun f=>!undP f.fZone (lowB z))++[⟨e + 1,lowB z⟩]
theorem nextF_ok {e : Int} {l : List GFlush} (h : FOk e l) {z : ByteArray} (hz : z.size ≤ 300) : FOk (e + 1) (nextF e l z):=by
  unfold nextF
  split
  · exact ⟨by simp,fun f hf=>by simp only [List.mem_singleton] at hf; subst hf; simp,fun f hf=>by simp only [List.mem_singleton] at hf; subst hf; show rootB.size ≤ 300; decide⟩
  · refine ⟨by simp only [List.length_append,List.length_singleton]; omega,fun f hf=>?_,fun f hf=>?_⟩
    · rcases List.mem_append.1 hf with hf | hf
      · have:=h.ep f (List.mem_filter.1 hf).1; omega
      · simp only [List.mem_singleton] at hf; subst hf; simp
    · rcases List.mem_append.1 hf with hf | hf
      · exact h.zs f (List.mem_filter.1 hf).1
      · simp only [List.mem_singleton] at hf; subst hf; show (lowB z).size ≤ 300; rw [lowB_size]; exact hz
/-- THE FLUSH. -/
theorem flush_law {e : Int} {l : List GFlush} (h : FOk e l) (he : 0 ≤ e) {z : ByteArray} (hz : isNm z) (n : ByteArray) :
    (undP n z = true→flo n (nextF e l z) = e + 1)∧(undP n z = false→flo n (nextF e l z) = flo n l ∨ ((nextF e l z).length = 1∧flo n (nextF e l z) = e + 1)):=by
  have hfl:=flo_le n e (l.filter fun f=>!undP f.fZone (lowB z)) 0 (by omega) he fun f hf=>h.ep f (List.mem_filter.1 hf).1
  have hroot : isNm n→flo n [⟨e + 1,rootB⟩] = e + 1:=fun hn=>by
    show (if undP n rootB = true then max 0 (e + 1) else 0) = e + 1
    rw [if_pos (und_root hn)]; omega
  unfold nextF
  constructor
  · intro hu
    split
    · exact hroot (undP_t.1 hu).1
    · rw [flo_app,if_pos (by rw [und_low hz]; exact hu)]
      unfold flo; simp only; omega
  · intro hu
    split
    · by_cases hn : isNm n
      · exact Or.inr ⟨rfl,hroot hn⟩
      · exact Or.inl (by rw [flo_no hn,flo_no hn])
    · left
      rw [flo_app,if_neg (by rw [und_low hz,hu]; decide)]
      refine flo_filter n _ l 0 fun f hf hp=>?_
      cases hb : undP n f.fZone with
      | false=>rfl
      | true=>
        have h1 : undP f.fZone (lowB z) = true:=by simpa using hp
        have:=und_trans hb h1
        rw [und_low hz,hu] at this
        exact this.symm
theorem mem_set {α : Type} {l q : List α} {i : Nat} {x : α} (hq : ∀ y ∈ q,y ∈ l) (hx : x ∈ l) : ∀ y ∈ q.set i x,y ∈ l:=fun y hy=>by
  rcases List.mem_or_eq_of_mem_set hy with h | h
  · exact hq y h
  · rw [h]; exact hx
theorem delf_loopM {α : Type} (p : α→Bool) {l : List α} (hl : l.length ≤ 4611686018427387904) (step : List α×Int×Int→Option ((List α×Int×Int) ⊕ (List α×Int)))
    (hs : ∀ (q : List α) (i j : Int),(∀ y ∈ q,y ∈ l)→step (q,i,j) = if j < (q.length : Int) then (at_ q j).bind fun x=>if p x = true then some (.inl (q,i,w64 (j + 1))) else (at_ q i).bind fun _=>(setAt q i x).bind fun q'=>some (.inl (q',w64 (i + 1),w64 (j + 1))) else some (.inr (q,i))) :
    ∀ (d j i : Nat) (q : List α),j + d = l.length→i < j→q.length = l.length→q.take i = (l.take j).filter (fun x=>!p x)→q.drop j = l.drop j→(∀ y ∈ q,y ∈ l)→∃ (q' : List α) (i' : Nat),loop step (q,(i : Int),(j : Int)) = some (q',(i' : Int))∧i' ≤ q'.length∧q'.take i' = l.filter (fun x=>!p x):=by
  intro d
  induction d with
  | zero=>
    intro j i q hj hi hq ht hd hm
    refine ⟨q,i,?_,by omega,?_⟩
    · exact loop_inr (by rw [hs _ _ _ hm,if_neg (by omega)])
    · rw [ht,List.take_of_length_le (by omega)]
  | succ d ih=>
    intro j i q hj hi hq ht hd hm
    have hjl : j < l.length:=by omega
    have hjq : j < q.length:=by omega
    have hx : q[j] = l[j]:=by
      have:=congrArg (fun z=>z[0]?) hd
      simp only [List.getElem?_drop,Nat.add_zero,List.getElem?_eq_getElem hjl,List.getElem?_eq_getElem hjq,Option.some.injEq] at this
      exact this
    have hst:=hs q (i : Int) (j : Int) hm
    rw [if_pos (by omega),at_nat hjq,Option.bind_some,hx] at hst
    have htk : l.take (j + 1) = l.take j++[l[j]]:=by rw [List.take_succ_eq_append_getElem hjl]
    have hdj : ∀ z : List α,z.drop (j + 1) = (z.drop j).drop 1:=fun z=>by rw [List.drop_drop]
    by_cases hp : p l[j] = true
    · rw [if_pos hp,w64_id (by omega) (by omega)] at hst
      rw [loop_inl hst,show (j : Int) + 1 = ((j + 1 : Nat) : Int) by omega]
      refine ih (j + 1) i q (by omega) (by omega) hq ?_ ?_ hm
      · rw [htk,List.filter_append,ht]; simp [hp]
      · rw [hdj,hdj,hd]
    · rw [if_neg hp,at_nat (by omega),Option.bind_some,setAt,if_pos ⟨by omega,by omega⟩,Option.bind_some,Int.toNat_natCast,w64_id (by omega) (by omega),w64_id (by omega) (by omega)] at hst
      rw [loop_inl hst,show (j : Int) + 1 = ((j + 1 : Nat) : Int) by omega,show (i : Int) + 1 = ((i + 1 : Nat) : Int) by omega]
      refine ih (j + 1) (i + 1) _ (by omega) (by omega) (by rw [List.length_set]; exact hq) ?_ ?_ (mem_set hm (List.getElem_mem hjl))
      · have e : (q.set i l[j]).take (i + 1) = q.take i++[l[j]]:=by
          rw [List.take_succ_eq_append_getElem (by rw [List.length_set]; omega),List.take_set_of_le (Nat.le_refl _)]
          simp
        rw [e,htk,List.filter_append,ht]; simp [hp]
      · rw [List.drop_set_of_lt (by omega),hdj,hdj,hd]
theorem delf_eqM {α : Type} (p : α→Bool) {l : List α} (hl : l.length ≤ 4611686018427387904) (ix : Option Int) (step : List α×Int×Int→Option ((List α×Int×Int) ⊕ (List α×Int)))
    (hix : ix = some (fndI (fndX p l 0)))
    (hs : ∀ (q : List α) (i j : Int),(∀ y ∈ q,y ∈ l)→step (q,i,j) = if j < (q.length : Int) then (at_ q j).bind fun x=>if p x = true then some (.inl (q,i,w64 (j + 1))) else (at_ q i).bind fun _=>(setAt q i x).bind fun q'=>some (.inl (q',w64 (i + 1),w64 (j + 1))) else some (.inr (q,i))) :
    (ix.bind fun x1=>if x1 = -1 then some l else (loop step (l,x1,w64 (x1 + 1))).bind fun e=>(cutLo e.1 e.2).bind fun l53=>(cutHi e.1 e.2).bind fun l54=>some l54) = some (l.filter (fun x=>!p x)):=by
  rw [hix,Option.bind_some]
  cases hf : fndX p l 0 with
  | none=>
    rw [fndI,if_pos rfl]
    congr 1
    exact (List.filter_eq_self.2 fun y hy=>by simp [fndX_none hf y hy]).symm
  | some z=>
    obtain ⟨k,x⟩:=z
    obtain ⟨h1,h2,h3,h4⟩:=take_fnd hf
    have hx : l[k] = x:=by have:=(List.getElem?_eq_some_iff.1 h3).2; exact this
    have htk : l.take (k + 1) = l.take k++[l[k]]:=by rw [List.take_succ_eq_append_getElem h1]
    obtain ⟨q,i,g1,g2,g3⟩:=delf_loopM p hl step hs (l.length - (k + 1)) (k + 1) k l (by omega) (by omega) rfl (by rw [htk,List.filter_append,h4,hx]; simp [h2]) rfl (fun y hy=>hy)
    rw [fndI,if_neg (by omega),w64_id (by omega) (by omega),show (k : Int) + 1 = ((k + 1 : Nat) : Int) by omega,g1,Option.bind_some]
    simp only
    rw [cutLo,if_pos ⟨by omega,by omega⟩,Option.bind_some,cutHi,if_pos ⟨by omega,by omega⟩,Option.bind_some,Int.toNat_natCast,g3]
theorem at_mem' {α : Type} {l : List α} {i : Int} {x : α} (h : at_ l i = some x) : x ∈ l:=by
  unfold at_ at h
  split at h
  · exact List.mem_of_getElem? h
  · cases h
theorem c3_code {f : GFlush} {z : ByteArray} (hf : f.fZone.size ≤ 300) (hz : z.size ≤ 300) : m_conf_Apply_c3 f z = some (undP f.fZone z):=by
  rw [m_conf_Apply_c3,und_code (by omega) (by omega)]; rfl
theorem del_code {e : Int} {l : List GFlush} (h : FOk e l) {z : ByteArray} (hz : z.size ≤ 300) : m_slices_DeleteFunc_38 l z = some (l.filter fun f=>!undP f.fZone z):=by
  have hl:=h.le
  have hix : m_slices_IndexFunc_94 l z = some (fndI (fndX (fun f=>undP f.fZone z) l 0)):=by
    have:=idx_loop (fun f : GFlush=>undP f.fZone z) (l:=l) (by omega) (fun s=>m_slices_IndexFunc_94_s2 l z s) (fun i=>by
      simp only [m_slices_IndexFunc_94_s2]
      split
      · cases ha : at_ l i with
        | none=>rfl
        | some x=>rw [Option.bind_some,Option.bind_some,c3_code (h.zs x (at_mem' ha)) hz,Option.bind_some]
      · rfl) l [] rfl
    rw [m_slices_IndexFunc_94]
    erw [this]
    rw [List.length_nil]
    cases fndX (fun f : GFlush=>undP f.fZone z) l 0 with
    | none=>rfl
    | some z=>rfl
  exact delf_eqM (fun f : GFlush=>undP f.fZone z) (by omega) _ (fun s=>m_slices_DeleteFunc_38_s2 z s.1 s.2.1 s.2.2) hix (fun q i j hq=>by
    simp only [m_slices_DeleteFunc_38_s2]
    split
    · cases ha : at_ q j with
      | none=>rfl
      | some x=>rw [Option.bind_some,Option.bind_some,c3_code (h.zs x (hq x (at_mem' ha))) hz,Option.bind_some]
    · rfl)
theorem floor_code {r : List Int} {hh : List ByteArray} {aa : List GAnchor} {e : Int} {l : List GFlush} (h : FOk e l) {n : ByteArray} (hn : n.size ≤ 300) : m_conf_Floor ⟨r,hh,aa,e,l⟩ n = some (flo n l):=by
  have hl:=h.le
  have:=loop_run (step:=fun s : Int×Int=>m_conf_Floor_s2 ⟨r,hh,aa,e,l⟩ n s.1 s.2) l.length (fun k=>(flo n (l.take k),(k : Int))) (flo n l) (s0:=(0,0)) rfl
    (fun k hk=>by
      have hx:=List.getElem_mem hk
      have htk : l.take (k + 1) = l.take k++[l[k]]:=by rw [List.take_succ_eq_append_getElem hk]
      simp only [m_conf_Floor_s2]
      rw [if_pos (by omega),at_nat hk,Option.bind_some,und_code (by omega) (by have:=h.zs _ hx; omega),Option.bind_some,htk,flo_app,w64_id (by omega) (by omega)]
      split <;> rfl)
    (by simp only [m_conf_Floor_s2]; rw [if_neg (by omega),List.take_of_length_le (Nat.le_refl _)])
  rw [m_conf_Floor]
  erw [this]
  rfl
def empB (s : ByteArray) : Bool:=decide (s = ⟨#[]⟩)
theorem none_code {l : List ByteArray} (hl : l.length ≤ 1000) : m_conf_none l = some (l.all empB):=by
  have:=idx_loop (fun s=>!empB s) (l:=l) (by omega) (fun s=>m_slices_IndexFunc_97_s2 l s) (fun i=>by
    simp only [m_slices_IndexFunc_97_s2,m_conf_none_c1,empB]; rfl) l [] rfl
  have h2:=fndI_any (fun s=>!empB s) l
  rw [m_conf_none,m_slices_ContainsFunc_47,m_slices_IndexFunc_97]
  erw [this]
  rw [List.length_nil]
  have e : l.all empB = !(l.any fun s=>!empB s):=by rw [List.not_any_eq_all_not]; simp
  rw [e,← h2]
  cases fndX (fun s=>!empB s) l 0 with
  | none=>rfl
  | some z=>rfl
def hintB (s : ByteArray) : Bool:=decide ((s.size : Int) = 4)
theorem hints_code {l : List ByteArray} (hl : l.length ≤ 1000) : m_slices_ContainsFunc_47_2 l = some (!(l.all hintB)):=by
  have:=idx_loop (fun s=>!hintB s) (l:=l) (by omega) (fun s=>m_slices_IndexFunc_97_2_s2 l s) (fun i=>by
    simp only [m_slices_IndexFunc_97_2_s2,m_conf_Check_c1,m_conf_hint,hintB]; rfl) l [] rfl
  have h2:=fndI_any (fun s=>!hintB s) l
  rw [m_slices_ContainsFunc_47_2,m_slices_IndexFunc_97_2]
  erw [this]
  rw [List.length_nil]
  have e : l.all hintB = !(l.any fun s=>!hintB s):=by rw [List.not_any_eq_all_not]; simp
  rw [e,← h2,Bool.not_not]
  cases fndX (fun s=>!hintB s) l 0 with
  | none=>rfl
  | some z=>rfl
noncomputable def nmB (n : ByteArray) : Bool:=@decide (isNm n) (Classical.propDecidable _)
theorem nmB_t {n : ByteArray} : nmB n = true↔isNm n:=@decide_eq_true_iff _ (Classical.propDecidable _)
theorem nmB_code {n : ByteArray} (hn : n.size ≤ 1000000) : m_conf_named n = some (nmB n):=by
  cases h : nmB n with
  | true=>
    obtain ⟨x,x1,x2⟩:=nmB_t.1 h
    rw [m_conf_named,check_nm x1 x2]; rfl
  | false=>
    obtain ⟨e,e1,e2⟩:=check_not (n:=n) (fun hh=>by rw [nmB_t.2 hh] at h; cases h) (by omega)
    rw [m_conf_named,e1,Option.bind_some,decide_eq_false e2]
theorem rnmB_code {n : ByteArray} (hn : n.size ≤ 1000000) : m_ref13_name n = some (nmB n):=by
  cases h : nmB n with
  | true=>
    obtain ⟨x,x1,x2⟩:=nmB_t.1 h
    rw [m_ref13_name,rcheck_nm x1 x2]; rfl
  | false=>
    have hno : ¬ isNm n:=fun hh=>by rw [nmB_t.2 hh] at h; cases h
    rw [m_ref13_name]
    rcases nm_cases n with h1 | ⟨ls,h1,h2⟩ | h1
    · exact absurd h1 hno
    · rw [rcheck_big h1 h2 (by omega)]; rfl
    · rw [rcheck_no h1 (by omega)]; rfl
def nodeB (n : Int) : Bool:=decide (0 ≤ n∧n ≤ 63)
/-- An order may be. -/
noncomputable def okB (o : GOrder) : Bool:=
  if o.fKind = 1 ∨ o.fKind = 2 then nodeB o.fNode && empB o.fName && empB o.fText && empB o.fZone && decide ((o.fHints.length : Int) = 0)
  else if o.fKind = 3 then decide (o.fNode = 0) && empB o.fName && empB o.fText && empB o.fZone && decide (0 < (o.fHints.length : Int)) && decide ((o.fHints.length : Int) ≤ 13) && o.fHints.all hintB
  else if o.fKind = 4 then decide (o.fNode = 0) && nmB o.fName && decide ((o.fText.size : Int) ≤ 200) && empB o.fZone && decide ((o.fHints.length : Int) = 0)
  else if o.fKind = 5 then decide (o.fNode = 0) && nmB o.fZone && empB o.fName && empB o.fText && decide ((o.fHints.length : Int) = 0)
  else false
noncomputable def chkO (o : GOrder) : Int:=if okB o = true then 0 else 1
structure smO (o : GOrder) : Prop where
  a : o.fName.size ≤ 1000
  t : o.fText.size ≤ 1000
  z : o.fZone.size ≤ 1000
  h : o.fHints.length ≤ 1000
  e : ∀ x ∈ o.fHints,x.size ≤ 1000
theorem node_code (n : Int) : m_conf_node n = some (nodeB n):=by
  rw [m_conf_node,nodeB]
  by_cases h : 0 ≤ n
  · rw [if_pos h]; exact congrArg some (decide_eq_decide.2 (by omega))
  · rw [if_neg h,decide_eq_false (by omega)]
theorem rnode_code (n : Int) : m_ref13_node n = some (nodeB n):=by
  rw [m_ref13_node,nodeB]
  by_cases h : 0 ≤ n
  · rw [if_pos h]; exact congrArg some (decide_eq_decide.2 (by omega))
  · rw [if_neg h,decide_eq_false (by omega)]
theorem rj2_code (b : Bool) : m_ref13_Check_j2 b = some (if b = true then 0 else 1):=by rw [m_ref13_Check_j2]; split <;> rfl
theorem rcheck_o {o : GOrder} (ho : smO o) : m_ref13_Check o = some (chkO o):=by
  obtain ⟨k,n,a,t,z,h⟩:=o
  have ha:=ho.a; have ht:=ho.t; have hz:=ho.z; have hh:=ho.h
  simp only at ha ht hz hh
  have e1 : m_ref13_Check ⟨k,n,a,t,z,h⟩ = m_ref13_Check_j1 ⟨k,n,a,t,z,h⟩ (nodeB n) (empB a && empB t):=by
    rw [m_ref13_Check,rnode_code,Option.bind_some]
    by_cases h0 : a = ⟨#[]⟩
    · rw [if_pos h0,show empB a = true from decide_eq_true h0,Bool.true_and]; rfl
    · rw [if_neg h0,show empB a = false from decide_eq_false h0,Bool.false_and]
  have na:=rnmB_code (n:=a) (by omega)
  have nz:=rnmB_code (n:=z) (by omega)
  have j4 : ∀ b,m_ref13_Check_j4 ⟨k,n,a,t,z,h⟩ b = some (if (b && (h.take 13).all hintB) = true then 0 else 1):=by
    intro b
    have hr:=loop_run (step:=fun s : Bool×Int=>m_ref13_Check_s5 ⟨k,n,a,t,z,h⟩ s.1 s.2) (min h.length 13) (fun j=>(b && (h.take j).all hintB,(j : Int))) (b && (h.take 13).all hintB) (s0:=(b,0)) (by simp)
      (fun j hj=>by
        have hjl : j < h.length:=by omega
        have htk : h.take (j + 1) = h.take j++[h[j]]:=by rw [List.take_succ_eq_append_getElem hjl]
        simp only [m_ref13_Check_s5]
        rw [if_pos (by omega),if_pos (by omega),htk,List.all_append,List.all_cons,List.all_nil,Bool.and_true,w64_id (by omega) (by omega)]
        cases hb : (b && (h.take j).all hintB) with
        | true=>rw [if_pos rfl,at_nat hjl,Option.bind_some,← Bool.and_assoc,hb]; rfl
        | false=>rw [if_neg (by decide),← Bool.and_assoc,hb]; rfl)
      (by
        simp only [m_ref13_Check_s5]
        by_cases hc : ((min h.length 13 : Nat) : Int) < (h.length : Int)
        · rw [if_pos hc,if_neg (by omega),show min h.length 13 = 13 by omega]
        · rw [if_neg hc,show min h.length 13 = h.length by omega,List.take_of_length_le (Nat.le_refl _),List.take_of_length_le (by omega)])
    rw [m_ref13_Check_j4]
    erw [hr]
    rw [Option.bind_some,rj2_code]
  have h13 : (h.length : Int) ≤ 13→h.take 13 = h:=fun hle=>List.take_of_length_le (by omega)
  rw [e1,m_ref13_Check_j1,na,Option.bind_some,nz,Option.bind_some]
  unfold chkO okB
  have hz0 : (z = (⟨#[]⟩ : ByteArray))↔empB z = true:=decide_eq_true_iff.symm
  simp only [m_ref13_Check_j3,rj2_code,j4,hz0]
  have h13' : (h.length : Int) ≤ 13→(h.take 13).all hintB = h.all hintB:=fun hle=>by rw [h13 hle]
  generalize (h.take 13).all hintB = B8 at *
  generalize nodeB n = B1
  generalize empB a = B2
  generalize empB t = B3
  generalize empB z = B4
  generalize nmB a = B5
  generalize nmB z = B6
  generalize h.all hintB = B7 at *
  clear na nz e1 hh ht ha hz hz0 h13 j4
  generalize (h.length : Int) = L at *
  generalize (t.size : Int) = S
  by_cases k1 : k = 1
  · subst k1
    cases B1 <;> cases B2 <;> cases B3 <;> cases B4 <;> simp
  by_cases k2 : k = 2
  · subst k2
    cases B1 <;> cases B2 <;> cases B3 <;> cases B4 <;> simp
  rw [if_neg k1,decide_eq_false k2,if_neg (show ¬ (k = 1 ∨ k = 2) by omega)]
  by_cases k3 : k = 3
  · subst k3
    by_cases g2 : L ≤ 13
    · have hb:=h13' g2
      subst hb
      by_cases h0 : n = 0 <;> by_cases g1 : 0 < L <;> cases B8 <;> cases B2 <;> cases B3 <;> cases B4 <;> simp [h0,g1,g2]
    · by_cases h0 : n = 0 <;> by_cases g1 : 0 < L <;> cases B8 <;> cases B7 <;> cases B2 <;> cases B3 <;> cases B4 <;> simp [h0,g1,g2]
  by_cases k4 : k = 4
  · subst k4
    by_cases h0 : n = 0 <;> by_cases g1 : L = 0 <;> by_cases g2 : S ≤ 200 <;> cases B5 <;> cases B4 <;> simp [h0,g1,g2]
  by_cases k5 : k = 5
  · subst k5
    by_cases h0 : n = 0 <;> by_cases g1 : L = 0 <;> cases B6 <;> cases B2 <;> cases B3 <;> simp [h0,g1]
  simp [k3,k4,k5]
theorem small_code {p : GOrder} (hp : GOrder.ok p) : ∃ o,m_law13_small p = some o∧o.fName.size ≤ 300∧o.fText.size ≤ 300∧o.fZone.size ≤ 300∧o.fHints.length ≤ 20∧∀ x ∈ o.fHints,x.size ≤ 10:=by
  obtain ⟨-,-,h1,h2,h3,h4,h5⟩:=hp
  obtain ⟨a,a1,a2⟩:=short13_of (s:=p.fName) 300 h1
  obtain ⟨t,t1,t2⟩:=short13_of (s:=p.fText) 300 h2
  obtain ⟨z,z1,z2⟩:=short13_of (s:=p.fZone) 300 h3
  replace a1 : m_law13_short p.fName 300 = some a:=a1
  replace t1 : m_law13_short p.fText 300 = some t:=t1
  replace z1 : m_law13_short p.fZone 300 = some z:=z1
  obtain ⟨r,g1,g2,g3⟩:=loop_rule (step:=fun s : List ByteArray×Int=>m_law13_small_s2 p s.1 s.2)
    (fun s=>∃ i : Nat,s.2 = (i : Int)∧i ≤ 20∧s.1.length ≤ i∧∀ x ∈ s.1,x.size ≤ 10)
    (fun s=>(20 - s.2).toNat) (fun r=>r.length ≤ 20∧∀ x ∈ r,x.size ≤ 10)
    (by
      rintro ⟨l,i'⟩ ⟨i,rfl,i1,i2,i3⟩
      simp only at i2 i3 ⊢
      rw [m_law13_small_s2]
      by_cases hc : (i : Int) < (p.fHints.length : Int)
      · by_cases hc2 : (i : Int) < 20
        · left
          have hil : i < p.fHints.length:=by omega
          obtain ⟨x,x1,x2⟩:=short13_of (s:=p.fHints[i]) 10 (h5 _ (List.getElem_mem hil))
          replace x1 : m_law13_short p.fHints[i] 10 = some x:=x1
          rw [if_pos hc,if_pos hc2,at_nat hil,Option.bind_some,x1,Option.bind_some,app_of (by simp only [List.length_singleton]; omega),Option.bind_some,w64_id (by omega) (by omega)]
          refine ⟨_,rfl,⟨i + 1,by simp,by omega,by simp only [List.length_append,List.length_singleton]; omega,fun y hy=>?_⟩,by simp only; omega⟩
          rcases List.mem_append.1 hy with hy | hy
          · exact i3 y hy
          · simp only [List.mem_singleton] at hy; subst hy; exact x2
        · right; rw [if_pos hc,if_neg hc2]; exact ⟨_,rfl,by omega,i3⟩
      · right; rw [if_neg hc]; exact ⟨_,rfl,by omega,i3⟩)
    (s0:=([],0)) ⟨0,rfl,by omega,by simp,(fun _ h=>by cases h)⟩
  refine ⟨⟨p.fKind,p.fNode,a,t,z,r⟩,?_,a2,t2,z2,g2,g3⟩
  rw [m_law13_small,a1,Option.bind_some,t1,Option.bind_some,z1,Option.bind_some]
  erw [g1]
  rfl
theorem at_app {A B : List Int} {m : Nat} (h : m < A.length + B.length) : at_ (A++B) (m : Int) = some (if h1 : m < A.length then A[m] else B[m - A.length]'(by omega)):=by
  rw [at_nat (by rw [List.length_append]; exact h)]
  congr 1
  split
  · rename_i h1; exact List.getElem_append_left h1
  · rename_i h1; exact List.getElem_append_right (by omega)
theorem less_cd (x y : Int) : m_cmp_Less_85 x y = some (decide (x < y)):=by
  rw [m_cmp_Less_85,m_cmp_isNaN_107,Option.bind_some,if_neg (by simp)]
theorem bs_loop {A B : List Int} {t : Int} (hA : ∀ x ∈ A,x < t) (hB : ∀ x ∈ B,t ≤ x) (hl : A.length + B.length ≤ 1000) :
    loop (fun s=>m_slices_BinarySearch_28_s2 (A++B) t s.1 s.2) (0,((A++B).length : Int)) = some (A.length : Int):=by
  obtain ⟨r,h1,h2⟩:=loop_rule (step:=fun s=>m_slices_BinarySearch_28_s2 (A++B) t s.1 s.2) (fun s=>∃ lo hi : Nat,s = ((lo : Int),(hi : Int))∧lo ≤ A.length∧A.length ≤ hi∧hi ≤ A.length + B.length) (fun s=>(s.2 - s.1).toNat) (fun r=>r = (A.length : Int))
    (by
      rintro s ⟨lo,hi,rfl,g1,g2,g3⟩
      simp only
      rw [m_slices_BinarySearch_28_s2]
      by_cases c : (lo : Int) < (hi : Int)
      · left
        have hm : w64 ((IntKind.u64.wrap (w64 ((lo : Int) + (hi : Int)))) / 2) = (((lo + hi) / 2 : Nat) : Int):=by
          rw [w64_id (x:=(lo : Int) + hi) (by omega) (by omega),wrapu64 (by omega) (by omega),w64_id (by omega) (by omega)]; omega
        have hlt : (lo + hi) / 2 < A.length + B.length:=by omega
        rw [if_pos c,hm,at_app hlt,Option.bind_some,less_cd,Option.bind_some]
        by_cases c2 : (lo + hi) / 2 < A.length
        · rw [dif_pos c2,if_pos (decide_eq_true (hA _ (List.getElem_mem c2))),w64_id (by omega) (by omega)]
          exact ⟨_,rfl,⟨(lo + hi) / 2 + 1,hi,by simp,by omega,g2,g3⟩,by simp only; omega⟩
        · have:=hB _ (List.getElem_mem (l:=B) (n:=(lo + hi) / 2 - A.length) (by omega))
          rw [dif_neg c2,if_neg (by rw [decide_eq_true_eq]; omega)]
          exact ⟨_,rfl,⟨lo,(lo + hi) / 2,rfl,g1,by omega,by omega⟩,by simp only; omega⟩
      · right
        rw [if_neg c]
        exact ⟨_,rfl,by omega⟩)
    (s0:=(0,((A++B).length : Int))) ⟨0,(A++B).length,rfl,by omega,by rw [List.length_append]; omega,by rw [List.length_append]; omega⟩
  rw [h1,h2]
theorem bs_on {A B : List Int} {t : Int} (hA : ∀ x ∈ A,x < t) (hB : ∀ x ∈ B,t < x) (hl : A.length + B.length ≤ 500) : m_slices_BinarySearch_28 (A++[t]++B) t = some ((A.length : Int),true):=by
  rw [m_slices_BinarySearch_28,List.append_assoc,bs_loop hA (fun x hx=>by
    rcases List.mem_cons.1 hx with rfl | hx
    · exact Int.le_refl _
    · exact Int.le_of_lt (hB x hx)) (by simp; omega),Option.bind_some,m_slices_BinarySearch_28_j1,if_pos (by simp; omega),at_app (by simp),Option.bind_some,dif_neg (by omega),if_pos (by simp)]
theorem bs_off {A B : List Int} {t : Int} (hA : ∀ x ∈ A,x < t) (hB : ∀ x ∈ B,t < x) (hl : A.length + B.length ≤ 500) : m_slices_BinarySearch_28 (A++B) t = some ((A.length : Int),false):=by
  rw [m_slices_BinarySearch_28,bs_loop hA (fun x hx=>Int.le_of_lt (hB x hx)) (by omega),Option.bind_some,m_slices_BinarySearch_28_j1]
  by_cases c : 0 < B.length
  · have:=hB _ (List.getElem_mem (l:=B) (n:=0) c)
    rw [if_pos (by rw [List.length_append]; omega),at_app (by omega),Option.bind_some,dif_neg (by omega)]
    simp only [Nat.sub_self]
    rw [if_neg (by omega),Option.bind_some,m_slices_isNaN_86,Option.bind_some,if_neg (by simp)]
  · rw [if_neg (by rw [List.length_append]; omega)]
/-! ### Orders that join or leave -/
def isOf (n : ByteArray) (a : GAnchor) : Bool:=decide (lowB a.fName = lowB n)
theorem c1_cd {a : GAnchor} {o : GOrder} (ha : isNm a.fName) (hn : o.fName.size ≤ 300) : m_conf_Apply_c1 a o = some (isOf o.fName a):=by
  obtain ⟨ls,h1,h2⟩:=ha
  rw [m_conf_Apply_c1,m_name_Same,check_nm h1 h2,Option.bind_some,if_pos rfl,lower_eq (by omega),Option.bind_some,lower_eq (by omega)]; rfl
theorem del_anch {l : List GAnchor} (hl : l.length ≤ 1000) (h : ∀ a ∈ l,isNm a.fName) {o : GOrder} (ho : o.fName.size ≤ 300) : m_slices_DeleteFunc_31 l o = some (l.filter fun a=>!isOf o.fName a):=by
  have hix : m_slices_IndexFunc_89 l o = some (fndI (fndX (isOf o.fName) l 0)):=by
    have:=idx_loop (isOf o.fName) (l:=l) (by omega) (fun s=>m_slices_IndexFunc_89_s2 l o s) (fun i=>by
      simp only [m_slices_IndexFunc_89_s2]
      split
      · cases ha : at_ l i with
        | none=>rfl
        | some x=>rw [Option.bind_some,Option.bind_some,c1_cd (h x (at_mem' ha)) ho,Option.bind_some]
      · rfl) l [] rfl
    rw [m_slices_IndexFunc_89]
    erw [this]
    rw [List.length_nil]
    cases fndX (isOf o.fName) l 0 with
    | none=>rfl
    | some z=>rfl
  exact delf_eqM (isOf o.fName) (by omega) _ (fun s=>m_slices_DeleteFunc_31_s2 o s.1 s.2.1 s.2.2) hix (fun q i j hq=>by
    simp only [m_slices_DeleteFunc_31_s2]
    split
    · cases ha : at_ q j with
      | none=>rfl
      | some x=>rw [Option.bind_some,Option.bind_some,c1_cd (h x (hq x (at_mem' ha))) ho,Option.bind_some]
    · rfl)
/-! ### The sort -/
def cmpJ (a b : ByteArray) : Int:=if sless a b = true then -1 else if a = b then 0 else 1
theorem cmp_cd (a b : ByteArray) : m_cmp_Compare_36 a b = some (cmpJ a b):=by
  have h : ∀ x : ByteArray,m_cmp_isNaN_93 x = some false:=fun x=>by rw [m_cmp_isNaN_93]; simp
  rw [m_cmp_Compare_36,h,h,Option.bind_some,Option.bind_some,if_neg (by simp),if_neg (by simp),cmpJ]
  by_cases c : sless a b = true
  · rw [if_pos c,if_pos c]
  · rw [if_neg c,if_neg c]
    by_cases e : a = b
    · rw [if_neg (by simp [e]),if_pos e]
    · rw [if_pos (by simp [e,c]),if_neg e]
theorem c2_cd {x y : GAnchor} (hx : x.fName.size ≤ 300) (hy : y.fName.size ≤ 300) : m_conf_Apply_c2 x y = some (cmpJ (lowB x.fName) (lowB y.fName)):=by
  rw [m_conf_Apply_c2,lower_eq (by omega),Option.bind_some,lower_eq (by omega),Option.bind_some,cmp_cd]; rfl
theorem cmp_neg (a b : ByteArray) : decide (cmpJ a b < 0) = sless a b:=by
  unfold cmpJ
  by_cases c : sless a b = true
  · rw [if_pos c,c]; rfl
  · rw [if_neg c]
    have : sless a b = false:=by simpa using c
    rw [this]
    split <;> rfl
open Classical in
theorem sort_some {α : Type} {cm : α→α→Option Int} {a : α} {l : List α} (h : sortOk cm (a::l)) : ∃ r,sortM cm (a::l) = some r:=⟨_,if_pos h⟩
theorem sort_cd {l : List GAnchor} (h : ∀ a ∈ l,a.fName.size ≤ 300) (hl : l.length ≤ 1000) : ∃ r,m_slices_SortFunc_34 l = some r∧r.Perm l:=by
  have key : ∃ r,m_slices_SortFunc_34 l = some r:=by
    unfold m_slices_SortFunc_34
    cases l with
    | nil=>exact ⟨_,rfl⟩
    | cons a l=>
      have hk : ∀ x y : {x // x ∈ a::l},ltOf (cfM (fun x y=>m_conf_Apply_c2 x y) (a::l)) x y = sless (lowB x.1.fName) (lowB y.1.fName):=fun x y=>by
        unfold ltOf cfM
        simp only [c2_cd (h _ x.2) (h _ y.2),Option.getD_some]
        exact cmp_neg _ _
      refine sort_some ⟨fun x hx y hy=>by simp only; rw [c2_cd (h _ hx) (h _ hy)]; rfl,⟨fun x=>?_,fun x y z=>?_,fun x y z=>?_⟩,by omega⟩
      · rw [hk]; exact sless_irr _
      · rw [hk,hk,hk]; exact sl_trans
      · rw [hk,hk,hk]
        intro h1 h2
        cases h3 : sless (lowB x.1.fName) (lowB z.1.fName) with
        | false=>rfl
        | true=>
          rcases sl_tri (lowB x.1.fName) (lowB y.1.fName) with g | g | g
          · rw [g] at h1; cases h1
          · rw [g] at h3; rw [h3] at h2; cases h2
          · rw [sl_trans g h3] at h2; cases h2
  obtain ⟨r,hr⟩:=key
  exact ⟨r,hr,(sortM_facts hr).1⟩
/-! ### An order of an anchor -/
open Go.RowKit Go.Sort
theorem sorted_ext {α : Type} {r : α→α→Prop} (asy : ∀ a b,r a b→¬ r b a) : ∀ {l m : List α},l.Pairwise r→m.Pairwise r→(∀ x,x ∈ l↔x ∈ m)→l = m
  | [],[],_,_,_=>rfl
  | [],b::m,_,_,h=>by cases (h b).2 List.mem_cons_self
  | a::l,[],_,_,h=>by cases (h a).1 List.mem_cons_self
  | a::l,b::m,hl,hm,h=>by
    obtain ⟨h1,h2⟩:=List.pairwise_cons.1 hl
    obtain ⟨h3,h4⟩:=List.pairwise_cons.1 hm
    have hab : a = b:=by
      rcases List.mem_cons.1 ((h a).1 List.mem_cons_self) with e | e
      · exact e
      · rcases List.mem_cons.1 ((h b).2 List.mem_cons_self) with e' | e'
        · exact e'.symm
        · exact absurd (h3 a e) (asy _ _ (h1 b e'))
    subst hab
    rw [sorted_ext asy h2 h4 (fun x=>⟨fun hx=>?_,fun hx=>?_⟩)]
    · rcases List.mem_cons.1 ((h x).1 (List.mem_cons_of_mem _ hx)) with rfl | e
      · exact absurd (h1 _ hx) (asy _ _ (h1 _ hx))
      · exact e
    · rcases List.mem_cons.1 ((h x).2 (List.mem_cons_of_mem _ hx)) with rfl | e
      · exact absurd (h3 _ hx) (asy _ _ (h3 _ hx))
      · exact e
theorem gd_get {α : Type} {l : List α} {k : Nat} (d : α) (h : k < l.length) : l.getD k d = l[k]:=by
  rw [List.getD_eq_getElem?_getD,List.getElem?_eq_getElem h]; rfl
theorem pw_adj {α : Type} {r : α→α→Prop} (tr : ∀ a b c,r a b→r b c→r a c) {l : List α} {d : α} (h : ∀ k,k < l.length→0 < k→r (l.getD (k - 1) d) (l.getD k d)) : l.Pairwise r:=by
  rw [List.pairwise_iff_getElem]
  intro i j
  induction j with
  | zero=>intro _ _ h; omega
  | succ j ih=>
    intro hi hj hij
    have g:=h (j + 1) hj (by omega)
    rw [Nat.add_sub_cancel,gd_get d (by omega),gd_get d hj] at g
    by_cases c : i = j
    · subst c; exact g
    · exact tr _ _ _ (ih hi (by omega) (by omega)) g
theorem adj_pw {α : Type} {r : α→α→Prop} {l : List α} (d : α) (h : l.Pairwise r) {k : Nat} (hk : k < l.length) (h0 : 0 < k) : r (l.getD (k - 1) d) (l.getD k d):=by
  rw [gd_get d (by omega),gd_get d hk]
  exact List.pairwise_iff_getElem.1 h _ _ _ hk (by omega)
theorem gd_of {α : Type} {l : List α} {p : α→Prop} (d : α) (h : ∀ a ∈ l,p a) {k : Nat} (hk : k < l.length) : p (l.getD k d):=h _ (gd_mem d hk)
/-! ### The ring -/
structure RingP (l : List Int) : Prop where
  lt : l.Pairwise (· < ·)
  mem : ∀ x ∈ l,0 ≤ x∧x < 64
theorem ring_pw {l : List Int} : (∀ k,k < l.length→ringG l k)↔RingP l:=
  ⟨fun h=>⟨pw_adj (r:=fun a b : Int=>a < b) (d:=0) (fun _ _ _=>Int.lt_trans) (fun k hk h0=>(h k hk).2 h0),of_gd (d:=0) (fun k hk=>(h k hk).1)⟩,fun h k hk=>⟨gd_of (p:=fun x=>0 ≤ x∧x < 64) 0 h.mem hk,fun h0=>adj_pw 0 h.lt hk h0⟩⟩
theorem in_cd {l : List Int} (hl : l.length ≤ 1000) (n : Int) : m_ref13_in l n = some (decide (n ∈ l)):=by
  obtain ⟨r,g1,g2⟩:=loop_rule (step:=fun s=>m_ref13_in_s2 l n s) (fun s=>∃ k : Nat,s = (k : Int)∧k ≤ l.length∧n ∉ l.take k) (fun s=>(l.length - s).toNat) (fun r=>(r = .inl ()∧n ∉ l) ∨ (r = .inr true∧n ∈ l))
    (by
      rintro s ⟨k,rfl,h1,h2⟩
      simp only [m_ref13_in_s2]
      by_cases c : k < l.length
      · rw [if_pos (by omega),at_nat c,Option.bind_some]
        by_cases d : l[k] = n
        · right; rw [if_pos d]; exact ⟨_,rfl,.inr ⟨rfl,d ▸ List.getElem_mem c⟩⟩
        · left
          rw [if_neg d,w64_id (by omega) (by omega)]
          refine ⟨_,rfl,⟨k + 1,by omega,c,fun h=>?_⟩,by omega⟩
          rw [List.take_succ_eq_append_getElem c] at h
          rcases List.mem_append.1 h with h | h
          · exact h2 h
          · exact d (List.mem_singleton.1 h).symm
      · right
        rw [if_neg (by omega)]
        have e : k = l.length:=by omega
        subst e
        exact ⟨_,rfl,.inl ⟨rfl,by rwa [List.take_length] at h2⟩⟩)
    (s0:=0) ⟨0,rfl,by omega,by simp⟩
  rw [m_ref13_in,g1,Option.bind_some]
  rcases g2 with ⟨rfl,h⟩ | ⟨rfl,h⟩
  · rw [decide_eq_false h]; rfl
  · rw [decide_eq_true h]; rfl
def below (l : List Int) (t : Int) : List Int:=l.filter fun x=>decide (x < t)
def above (l : List Int) (t : Int) : List Int:=l.filter fun x=>decide (t < x)
theorem below_lt {l : List Int} {t : Int} : ∀ x ∈ below l t,x < t:=fun x hx=>by simpa using (List.mem_filter.1 hx).2
theorem above_lt {l : List Int} {t : Int} : ∀ x ∈ above l t,t < x:=fun x hx=>by simpa using (List.mem_filter.1 hx).2
theorem int_asy : ∀ a b : Int,a < b→¬ b < a:=fun _ _ h g=>by omega
theorem parts_lt {l : List Int} (h : RingP l) (t : Int) (m : List Int) (hm : m = [] ∨ m = [t]) : (below l t++m++above l t).Pairwise (· < ·):=by
  have a1 : (below l t).Pairwise (· < ·):=h.lt.filter _
  have a2 : (above l t).Pairwise (· < ·):=h.lt.filter _
  rcases hm with rfl | rfl
  · rw [List.append_nil]
    exact List.pairwise_append.2 ⟨a1,a2,fun x hx y hy=>Int.lt_trans (below_lt x hx) (above_lt y hy)⟩
  · refine List.pairwise_append.2 ⟨List.pairwise_append.2 ⟨a1,by simp,fun x hx y hy=>?_⟩,a2,fun x hx y hy=>?_⟩
    · rw [List.mem_singleton] at hy; subst hy; exact below_lt x hx
    · rcases List.mem_append.1 hx with hx | hx
      · exact Int.lt_trans (below_lt x hx) (above_lt y hy)
      · rw [List.mem_singleton] at hx; subst hx; exact above_lt y hy
theorem mem_parts {l : List Int} {t x : Int} {m : List Int} : x ∈ below l t++m++above l t↔(x ∈ l∧x ≠ t) ∨ x ∈ m:=by
  unfold below above
  simp only [List.mem_append,List.mem_filter,decide_eq_true_eq]
  constructor
  · rintro ((⟨h1,h2⟩ | h) | ⟨h1,h2⟩)
    · exact .inl ⟨h1,by omega⟩
    · exact .inr h
    · exact .inl ⟨h1,by omega⟩
  · rintro (⟨h1,h2⟩ | h)
    · rcases Int.lt_or_gt_of_ne h2 with g | g
      · exact .inl (.inl ⟨h1,g⟩)
      · exact .inr ⟨h1,g⟩
    · exact .inl (.inr h)
theorem ring_cut {l : List Int} (h : RingP l) (t : Int) : l = below l t++(if t ∈ l then [t] else [])++above l t:=by
  refine sorted_ext int_asy h.lt (parts_lt h t _ (by split <;> simp)) (fun x=>?_)
  rw [mem_parts]
  by_cases c : t ∈ l
  · rw [if_pos c,List.mem_singleton]
    exact ⟨fun hx=>(Classical.em (x = t)).elim .inr (fun g=>.inl ⟨hx,g⟩),fun g=>g.elim (·.1) (fun g=>g ▸ c)⟩
  · rw [if_neg c]
    exact ⟨fun hx=>.inl ⟨hx,fun g=>c (g ▸ hx)⟩,fun g=>g.elim (·.1) (fun g=>by cases g)⟩
theorem parts_len {l : List Int} (hl : l.length ≤ 200) (t : Int) : (below l t).length + (above l t).length ≤ 400:=by
  have h1 : (below l t).length ≤ l.length:=List.length_filter_le _ _
  have h2 : (above l t).length ≤ l.length:=List.length_filter_le _ _
  omega
theorem bs_ring {l : List Int} (h : RingP l) (hl : l.length ≤ 200) (t : Int) : m_slices_BinarySearch_28 l t = some (((below l t).length : Int),decide (t ∈ l)):=by
  have hp:=parts_len hl t
  have hc:=ring_cut h t
  by_cases c : t ∈ l
  · rw [if_pos c] at hc
    rw [decide_eq_true c]
    conv=>lhs; rw [hc]
    exact bs_on below_lt above_lt (by omega)
  · rw [if_neg c,List.append_nil] at hc
    rw [decide_eq_false c]
    conv=>lhs; rw [hc]
    exact bs_off below_lt above_lt (by omega)
def joined (l : List Int) (t : Int) : List Int:=below l t++[t]++above l t
def parted (l : List Int) (t : Int) : List Int:=below l t++above l t
theorem cut_app {α : Type} {l A B : List α} (h : l = A++B) : l.take A.length = A∧l.drop A.length = B:=by subst h; simp
theorem len_of {α : Type} {l A B : List α} (h : l = A++B) : l.length = A.length + B.length:=by subst h; simp
theorem join_ins {l : List Int} (h : RingP l) (hl : l.length ≤ 200) {t : Int} (c : t ∉ l) : m_slices_Insert_29 l ((below l t).length : Int) [t] = some (joined l t):=by
  have hp:=parts_len hl t
  have hc:=ring_cut h t
  rw [if_neg c,List.append_nil] at hc
  have hlen : l.length = (below l t).length + (above l t).length:=len_of hc
  obtain ⟨t1,t2⟩:=cut_app hc
  rw [m_slices_Insert_29,if_pos ⟨by omega,by omega,by simp,by simp only [List.length_singleton]; omega⟩,Int.toNat_natCast,t1,t2]; rfl
theorem part_del {l : List Int} (h : RingP l) (hl : l.length ≤ 200) {t : Int} (c : t ∈ l) : m_slices_Delete_30 l ((below l t).length : Int) (w64 (((below l t).length : Int) + 1)) = some (parted l t):=by
  have hp:=parts_len hl t
  have hc:=ring_cut h t
  rw [if_pos c] at hc
  have hlen : l.length = (below l t).length + 1 + (above l t).length:=by have:=len_of hc; rwa [List.length_append,List.length_singleton] at this
  have t1:=(cut_app (hc.trans (List.append_assoc _ _ _))).1
  have t2:=(cut_app hc).2
  rw [List.length_append,List.length_singleton] at t2
  rw [w64_id (by omega) (by omega),m_slices_Delete_30,cutMid,if_pos ⟨by omega,by omega,by omega⟩,Option.bind_some,if_neg (by omega),cutHi,if_pos ⟨by omega,by omega⟩,Option.bind_some,cutLo,if_pos ⟨by omega,by omega⟩,Option.bind_some,Int.toNat_natCast,show ((below l t).length + 1 : Int).toNat = (below l t).length + 1 by omega,t1,t2]; rfl
/-- The document's ring behind an order: the numbers that are on it, but for the one. -/
def rng (k : Nat) : List Int:=(List.range k).map fun j : Nat=>(j : Int)
def tog (l : List Int) (t : Int) (i : Int) : Bool:=!(decide (i ∈ l) == decide (i = t))
theorem rng_lt : ∀ k,(rng k).Pairwise (· < ·):=fun k=>by
  unfold rng
  rw [List.pairwise_map]
  exact List.pairwise_lt_range.imp fun h=>by omega
theorem mem_rng {k : Nat} {x : Int} : x ∈ rng k↔0 ≤ x∧x < k:=by
  unfold rng
  rw [List.mem_map]
  constructor
  · rintro ⟨j,h,rfl⟩; rw [List.mem_range] at h; omega
  · intro h; exact ⟨x.toNat,List.mem_range.2 (by omega),by omega⟩
theorem tog_eq {l : List Int} (h : RingP l) {t : Int} (ht : 0 ≤ t∧t < 64) : (rng 64).filter (tog l t) = if t ∈ l then parted l t else joined l t:=by
  have key : ∀ m,(m = [] ∨ m = [t])→(∀ x,(x ∈ rng 64∧tog l t x = true)↔((x ∈ l∧x ≠ t) ∨ x ∈ m))→(rng 64).filter (tog l t) = below l t++m++above l t:=fun m hm hx=>
    sorted_ext int_asy ((rng_lt 64).filter _) (parts_lt h t m hm) (fun x=>by rw [List.mem_filter,mem_parts]; exact hx x)
  by_cases c : t ∈ l
  · rw [if_pos c,key [] (.inl rfl) (fun x=>?_),List.append_nil]; rfl
    rw [mem_rng]
    unfold tog
    by_cases e : x = t
    · subst e; simp [c]
    · have:=h.mem x
      simp [e]
      intro g
      have:=this g; omega
  · rw [if_neg c,key [t] (.inr rfl) (fun x=>?_)]; rfl
    rw [mem_rng]
    unfold tog
    by_cases e : x = t
    · subst e; simp [c]; omega
    · have:=h.mem x
      simp [e]
      intro g
      have:=this g; omega
theorem tog_loop {c : GConf} (hl : c.fRing.length ≤ 1000) (o : GOrder) (x : GConf) : loop (fun s=>m_ref13_Apply_s3 c o x s.1 s.2) (([] : List Int),0) = some ((rng 64).filter (tog c.fRing o.fNode),x.fHints,x.fAnchors,x.fEpoch,x.fFlushes):=by
  refine loop_run 64 (fun k=>((rng k).filter (tog c.fRing o.fNode),(k : Int))) _ rfl (fun k hk=>?_) ?_
  · have e : rng (k + 1) = rng k++[(k : Int)]:=by unfold rng; rw [List.range_succ,List.map_append]; rfl
    have hf:=List.length_filter_le (tog c.fRing o.fNode) (rng k)
    have hr : (rng k).length = k:=by unfold rng; simp
    simp only [m_ref13_Apply_s3]
    rw [if_pos (by omega),in_cd hl,Option.bind_some,e,List.filter_append,w64_id (by omega) (by omega)]
    by_cases c2 : tog c.fRing o.fNode (k : Int) = true
    · have c3:=c2
      unfold tog at c3
      rw [if_pos c3,app_of (by simp only [List.length_singleton]; omega),Option.bind_some,List.filter_cons_of_pos c2]; rfl
    · have c3:=c2
      unfold tog at c3
      rw [if_neg c3,List.filter_cons_of_neg c2,List.filter_nil,List.append_nil]; rfl
  · simp only [m_ref13_Apply_s3]
    rw [if_neg (by omega)]
theorem ringP_of {l : List Int} (h : RingP l) {t : Int} (ht : 0 ≤ t∧t < 64) : RingP (joined l t)∧RingP (parted l t):=by
  refine ⟨⟨parts_lt h t [t] (.inr rfl),fun x hx=>?_⟩,⟨by have:=parts_lt h t [] (.inl rfl); rwa [List.append_nil] at this,fun x hx=>?_⟩⟩
  · rcases mem_parts.1 hx with ⟨g,_⟩ | g
    · exact h.mem x g
    · rw [List.mem_singleton] at g; subst g; exact ht
  · have : x ∈ below l t++[]++above l t:=by rw [List.append_nil]; exact hx
    rcases mem_parts.1 this with ⟨g,_⟩ | g
    · exact h.mem x g
    · cases g
open Go.RowKit Go.Sort
def ltA (a b : GAnchor) : Prop:=sless (lowB a.fName) (lowB b.fName) = true
theorem ltA_trans : ∀ a b c,ltA a b→ltA b c→ltA a c:=fun _ _ _=>sl_trans
theorem sl_asy {a b : ByteArray} (h : sless a b = true) : sless b a = false:=by
  cases e : sless b a with
  | false=>rfl
  | true=>have:=sl_trans h e; rw [sless_irr] at this; cases this
theorem ltA_asy : ∀ a b,ltA a b→¬ ltA b a:=fun a b h g=>by unfold ltA at h g; rw [sl_asy h] at g; cases g
theorem not_ord {x y : ByteArray} : ¬ ordB x y = true↔sless y x = true:=by
  unfold ordB
  rcases sl_tri x y with h | h | h
  · rw [h,sl_asy h]; simp
  · subst h; rw [sless_irr]; simp
  · have h2 : x ≠ y:=fun e=>by subst e; rw [sless_irr] at h; cases h
    rw [h,sl_asy h]; simp [h2]
structure AnP (l : List GAnchor) : Prop where
  lt : l.Pairwise ltA
  mem : ∀ a ∈ l,isNm a.fName∧1 ≤ a.fText.size∧a.fText.size ≤ 200
theorem an_pw {l : List GAnchor} : (∀ k,k < l.length→anchG l k)↔AnP l:=
  ⟨fun h=>⟨pw_adj (d:=zeroAn) ltA_trans (fun k hk h0=>not_ord.1 ((h k hk).2.2.2 h0)),of_gd (d:=zeroAn) (fun k hk=>⟨(h k hk).1,(h k hk).2.1,(h k hk).2.2.1⟩)⟩,
   fun h k hk=>by
    obtain ⟨h1,h2,h3⟩:=h.mem _ (gd_mem zeroAn hk)
    exact ⟨h1,h2,h3,fun h0=>not_ord.2 (adj_pw zeroAn h.lt hk h0)⟩⟩
def offA (L : List GAnchor) (n : ByteArray) : List GAnchor:=L.filter fun a=>!isOf n a
def nextA (L : List GAnchor) (n t : ByteArray) : List GAnchor:=offA L n++(if t = ⟨#[]⟩ then [] else [⟨n,t⟩])
theorem nextA_len (L : List GAnchor) (n t : ByteArray) : (nextA L n t).length ≤ L.length + 1:=by
  have : (offA L n).length ≤ L.length:=List.length_filter_le _ _
  unfold nextA
  rw [List.length_append]
  split <;> simp <;> omega
/-! ### The document's insertion -/
def gA (x : GAnchor) (s : List GAnchor×Bool) (a : GAnchor) : List GAnchor×Bool:=
  if lowB a.fName = lowB x.fName then s else if s.2 = true then (s.1++[a],true) else if sless (lowB x.fName) (lowB a.fName) = true then (s.1++[x]++[a],true) else (s.1++[a],false)
theorem gA_len (x : GAnchor) (p : Bool) : ∀ l : List GAnchor,(l.foldl (gA x) ([],p)).1.length ≤ 2 * l.length:=by
  have key : ∀ (l : List GAnchor) (s : List GAnchor×Bool),(l.foldl (gA x) s).1.length ≤ s.1.length + 2 * l.length:=by
    intro l
    induction l with
    | nil=>intro s; simp
    | cons a l ih=>
      intro s
      have h:=ih (gA x s a)
      have h2 : (gA x s a).1.length ≤ s.1.length + 2:=by
        unfold gA
        split
        · omega
        · split
          · simp
          · split <;> simp
      rw [List.foldl_cons,List.length_cons]
      omega
  intro l
  have:=key l ([],p)
  simpa using this
theorem ref_loop {c : GConf} {o : GOrder} (hl : c.fAnchors.length ≤ 1000) (hs : ∀ a ∈ c.fAnchors,a.fName.size ≤ 300) (ho : o.fName.size ≤ 300) (p : Bool) :
    loop (fun s=>m_ref13_Apply_s6 c o s.1 s.2.1 s.2.2) (([] : List GAnchor),p,0) = some (c.fAnchors.foldl (gA ⟨o.fName,o.fText⟩) ([],p)):=by
  refine loop_run (step:=fun s : List GAnchor×Bool×Int=>m_ref13_Apply_s6 c o s.1 s.2.1 s.2.2) c.fAnchors.length (fun k=>(((c.fAnchors.take k).foldl (gA ⟨o.fName,o.fText⟩) ([],p)).1,((c.fAnchors.take k).foldl (gA ⟨o.fName,o.fText⟩) ([],p)).2,(k : Int))) _ rfl (fun k hk=>?_) ?_
  · have hx:=hs _ (List.getElem_mem hk)
    have hlen:=gA_len ⟨o.fName,o.fText⟩ p (c.fAnchors.take k)
    rw [List.length_take] at hlen
    have e : c.fAnchors.take (k + 1) = c.fAnchors.take k++[c.fAnchors[k]]:=List.take_succ_eq_append_getElem hk
    rw [e,List.foldl_append,List.foldl_cons,List.foldl_nil]
    generalize (c.fAnchors.take k).foldl (gA ⟨o.fName,o.fText⟩) ([],p) = s at hlen
    simp only [m_ref13_Apply_s6]
    rw [if_pos (by omega),at_nat hk,Option.bind_some,rlower_eq (by omega),Option.bind_some,rlower_eq (by omega),Option.bind_some,Option.bind_some,Option.bind_some,w64_id (by omega) (by omega)]
    unfold gA
    simp only
    by_cases c1 : lowB c.fAnchors[k].fName = lowB o.fName
    · rw [if_pos c1,if_pos c1]; rfl
    · rw [if_neg c1,if_neg c1]
      by_cases c2 : s.2 = true
      · rw [if_pos c2,if_pos c2,m_ref13_Apply_j7,app_of (by simp only [List.length_singleton]; omega),Option.bind_some,w64_id (by omega) (by omega),c2]; rfl
      · rw [if_neg c2,if_neg c2]
        by_cases c3 : sless (lowB o.fName) (lowB c.fAnchors[k].fName) = true
        · have c4 : (!(sless (lowB c.fAnchors[k].fName) (lowB o.fName) || decide (lowB c.fAnchors[k].fName = lowB o.fName))) = true:=by
            have:=not_ord.2 c3
            unfold ordB at this
            simpa using this
          rw [if_pos c4,if_pos c3,app_of (by simp only [List.length_singleton]; omega),Option.bind_some,m_ref13_Apply_j7,app_of (by simp only [List.length_append,List.length_singleton]; omega),Option.bind_some,w64_id (by omega) (by omega)]; rfl
        · have c4 : ¬ (!(sless (lowB c.fAnchors[k].fName) (lowB o.fName) || decide (lowB c.fAnchors[k].fName = lowB o.fName))) = true:=fun h=>c3 (not_ord.1 (by unfold ordB; simpa using h))
          rw [if_neg c4,if_neg c3,m_ref13_Apply_j7,app_of (by simp only [List.length_singleton]; omega),Option.bind_some,w64_id (by omega) (by omega)]
          have c5 : s.2 = false:=by simpa using c2
          rw [c5]; rfl
  · simp only [m_ref13_Apply_s6]
    rw [if_neg (by omega),List.take_length]
/-- What the document's walk has behind some. -/
structure Ins (x : GAnchor) (d : List GAnchor) (s : List GAnchor×Bool) : Prop where
  no : s.2 = false→s.1 = offA d x.fName∧∀ a ∈ offA d x.fName,ltA a x
  yes : s.2 = true→s.1.Pairwise ltA∧(∀ y,y ∈ s.1↔y ∈ offA d x.fName ∨ y = x)∧∃ b ∈ d,ltA x b
theorem offA_snoc (d : List GAnchor) (n : ByteArray) (a : GAnchor) : offA (d++[a]) n = if lowB a.fName = lowB n then offA d n else offA d n++[a]:=by
  unfold offA
  rw [List.filter_append]
  by_cases c : lowB a.fName = lowB n
  · rw [if_pos c,List.filter_cons_of_neg (by unfold isOf; simp [c]),List.filter_nil,List.append_nil]
  · rw [if_neg c,List.filter_cons_of_pos (by unfold isOf; simp [c]),List.filter_nil]
theorem ins_step {x a : GAnchor} {d : List GAnchor} {s : List GAnchor×Bool} (h : Ins x d s) (hd : d.Pairwise ltA) (ha : ∀ y ∈ d,ltA y a) : Ins x (d++[a]) (gA x s a):=by
  have hoff : ∀ y ∈ offA d x.fName,y ∈ d:=fun y hy=>(List.mem_filter.1 hy).1
  have hop : (offA d x.fName).Pairwise ltA:=hd.filter _
  unfold gA
  by_cases c1 : lowB a.fName = lowB x.fName
  · rw [if_pos c1]
    refine ⟨fun h0=>?_,fun h0=>?_⟩
    · rw [offA_snoc,if_pos c1]; exact h.no h0
    · rw [offA_snoc,if_pos c1]
      obtain ⟨g1,g2,b,g3,g4⟩:=h.yes h0
      exact ⟨g1,g2,b,List.mem_append_left _ g3,g4⟩
  rw [if_neg c1]
  by_cases c2 : s.2 = true
  · rw [if_pos c2]
    obtain ⟨g1,g2,b,g3,g4⟩:=h.yes c2
    refine ⟨fun h0=>(by cases h0),fun _=>⟨?_,fun y=>?_,b,List.mem_append_left _ g3,g4⟩⟩
    · refine List.pairwise_append.2 ⟨g1,by simp,fun y hy z hz=>?_⟩
      rw [List.mem_singleton] at hz; subst hz
      rcases (g2 y).1 hy with g | g
      · exact ha y (hoff y g)
      · subst g; exact ltA_trans _ _ _ g4 (ha b g3)
    · rw [offA_snoc,if_neg c1]
      simp only [List.mem_append,List.mem_singleton,g2 y]
      exact ⟨fun g=>g.elim (fun g=>g.elim (fun g=>.inl (.inl g)) .inr) (fun g=>.inl (.inr g)),fun g=>g.elim (fun g=>g.elim (fun g=>.inl (.inl g)) .inr) (fun g=>.inl (.inr g))⟩
  rw [if_neg c2]
  have c2' : s.2 = false:=by simpa using c2
  obtain ⟨g1,g2⟩:=h.no c2'
  by_cases c3 : sless (lowB x.fName) (lowB a.fName) = true
  · rw [if_pos c3]
    refine ⟨fun h0=>(by cases h0),fun _=>⟨?_,fun y=>?_,a,List.mem_append_right _ (by simp),c3⟩⟩
    · rw [g1]
      refine List.pairwise_append.2 ⟨List.pairwise_append.2 ⟨hop,by simp,fun y hy z hz=>?_⟩,by simp,fun y hy z hz=>?_⟩
      · rw [List.mem_singleton] at hz; subst hz; exact g2 y hy
      · rw [List.mem_singleton] at hz; subst hz
        rcases List.mem_append.1 hy with hy | hy
        · exact ha y (hoff y hy)
        · rw [List.mem_singleton] at hy; subst hy; exact c3
    · rw [g1,offA_snoc,if_neg c1]
      simp only [List.mem_append,List.mem_singleton]
      exact ⟨fun g=>g.elim (fun g=>g.elim (fun g=>.inl (.inl g)) .inr) (fun g=>.inl (.inr g)),fun g=>g.elim (fun g=>g.elim (fun g=>.inl (.inl g)) .inr) (fun g=>.inl (.inr g))⟩
  · rw [if_neg c3]
    refine ⟨fun _=>⟨?_,fun y hy=>?_⟩,fun h0=>by cases h0⟩
    · rw [offA_snoc,if_neg c1,g1]
    · rw [offA_snoc,if_neg c1] at hy
      rcases List.mem_append.1 hy with hy | hy
      · exact g2 y hy
      · rw [List.mem_singleton] at hy; subst hy
        rcases sl_tri (lowB y.fName) (lowB x.fName) with g | g | g
        · exact g
        · exact absurd g c1
        · exact absurd g c3
theorem ins_all {x : GAnchor} {L : List GAnchor} (hL : L.Pairwise ltA) : ∀ k,k ≤ L.length→Ins x (L.take k) ((L.take k).foldl (gA x) ([],false)):=by
  intro k
  induction k with
  | zero=>intro _; exact ⟨fun _=>⟨rfl,fun _ h=>by cases h⟩,fun h=>by cases h⟩
  | succ k ih=>
    intro hk
    have e : L.take (k + 1) = L.take k++[L[k]]:=List.take_succ_eq_append_getElem hk
    rw [e,List.foldl_append,List.foldl_cons,List.foldl_nil]
    refine ins_step (ih (by omega)) (hL.sublist (List.take_sublist _ _)) (fun y hy=>?_)
    rw [← List.take_append_drop k L] at hL
    have hd:=(List.pairwise_append.1 hL).2.2 y hy
    exact hd _ (by rw [List.drop_eq_getElem_cons hk]; exact List.mem_cons_self)
theorem off_all (x : GAnchor) : ∀ (L d : List GAnchor),L.foldl (gA x) (offA d x.fName,true) = (offA (d++L) x.fName,true)
  | [],d=>by rw [List.append_nil]; rfl
  | a::L,d=>by
    rw [List.foldl_cons,show d++a::L = (d++[a])++L by simp,← off_all x L (d++[a]),offA_snoc]
    unfold gA
    by_cases c : lowB a.fName = lowB x.fName
    · rw [if_pos c,if_pos c]
    · rw [if_neg c,if_neg c,if_pos rfl]
/-- The document's row of anchors behind an order. -/
def insd (L : List GAnchor) (n t : ByteArray) : List GAnchor:=
  if (L.foldl (gA ⟨n,t⟩) ([],decide (t = ⟨#[]⟩))).2 = true then (L.foldl (gA ⟨n,t⟩) ([],decide (t = ⟨#[]⟩))).1 else (L.foldl (gA ⟨n,t⟩) ([],decide (t = ⟨#[]⟩))).1++[⟨n,t⟩]
theorem insd_lt {L : List GAnchor} (hL : L.Pairwise ltA) (n t : ByteArray) : (insd L n t).Pairwise ltA∧∀ y,y ∈ insd L n t↔y ∈ nextA L n t:=by
  unfold insd nextA
  by_cases e : t = ⟨#[]⟩
  · rw [decide_eq_true e,if_pos e,List.append_nil]
    have:=off_all ⟨n,t⟩ L []
    rw [show offA [] (⟨n,t⟩ : GAnchor).fName = [] from rfl,List.nil_append] at this
    rw [this,if_pos rfl]
    exact ⟨hL.filter _,fun y=>Iff.rfl⟩
  · rw [decide_eq_false e,if_neg e]
    have h:=ins_all (x:=⟨n,t⟩) hL L.length (Nat.le_refl _)
    rw [List.take_length] at h
    generalize L.foldl (gA ⟨n,t⟩) ([],false) = s at h
    by_cases c : s.2 = true
    · rw [if_pos c]
      obtain ⟨g1,g2,-⟩:=h.yes c
      exact ⟨g1,fun y=>by rw [g2 y,List.mem_append,List.mem_singleton]⟩
    · rw [if_neg c]
      obtain ⟨g1,g2⟩:=h.no (by simpa using c)
      rw [g1]
      refine ⟨List.pairwise_append.2 ⟨hL.filter _,by simp,fun y hy z hz=>?_⟩,fun y=>Iff.rfl⟩
      rw [List.mem_singleton] at hz; subst hz; exact g2 y hy
/-! ### The code's sort -/
theorem next_mem {L : List GAnchor} (hL : AnP L) {n t : ByteArray} (hn : isNm n) (ht : t.size ≤ 200) : ∀ a ∈ nextA L n t,isNm a.fName∧1 ≤ a.fText.size∧a.fText.size ≤ 200:=by
  intro a ha
  rcases List.mem_append.1 ha with ha | ha
  · exact hL.mem a (List.mem_filter.1 ha).1
  · split at ha
    · cases ha
    · rename_i e
      rw [List.mem_singleton] at ha; subst ha
      have : t.size ≠ 0:=fun g=>e (emp_iff.2 g)
      exact ⟨hn,by simp only; omega,ht⟩
theorem next_ne {L : List GAnchor} (hL : AnP L) (n t : ByteArray) : (nextA L n t).Pairwise (fun a b=>lowB a.fName ≠ lowB b.fName):=by
  have ne : ∀ {a b : GAnchor},ltA a b→lowB a.fName ≠ lowB b.fName:=fun h e=>by unfold ltA at h; rw [e,sless_irr] at h; cases h
  refine List.pairwise_append.2 ⟨(hL.lt.filter _).imp ne,by split <;> simp,fun a ha b hb=>?_⟩
  split at hb
  · cases hb
  · rw [List.mem_singleton] at hb; subst hb
    have:=(List.mem_filter.1 ha).2
    unfold isOf at this
    simpa using this
theorem sort_is {L : List GAnchor} (hL : AnP L) (hl : L.length ≤ 16) {n t : ByteArray} (hn : isNm n) (ht : t.size ≤ 200) : m_slices_SortFunc_34 (nextA L n t) = some (insd L n t)∧(insd L n t).length = (nextA L n t).length:=by
  have hm:=next_mem hL hn ht
  have hs : ∀ a ∈ nextA L n t,a.fName.size ≤ 300:=fun a ha=>by have:=nm_le (hm a ha).1; omega
  have hlen:=nextA_len L n t
  obtain ⟨r,h1,h2⟩:=sort_cd hs (by omega)
  have h3:=(sortM_facts (show sortM (fun x y=>m_conf_Apply_c2 x y) (nextA L n t) = some r from h1)).2
  have h4:=(h2.pairwise_iff (fun {x y} (h : lowB x.fName ≠ lowB y.fName)=>h.symm)).2 (next_ne hL n t)
  have h5 : r.Pairwise ltA:=by
    rw [List.pairwise_iff_getElem] at h3 h4 ⊢
    intro i j hi hj hij
    have a1:=h3 i j hi hj hij
    have a2:=h4 i j hi hj hij
    have s1:=hs _ (h2.mem_iff.1 (List.getElem_mem hi))
    have s2:=hs _ (h2.mem_iff.1 (List.getElem_mem hj))
    rw [c2_cd s2 s1,Option.getD_some] at a1
    have a3:=cmp_neg (lowB r[j].fName) (lowB r[i].fName)
    rw [decide_eq_false a1] at a3
    rcases sl_tri (lowB r[i].fName) (lowB r[j].fName) with g | g | g
    · exact g
    · exact absurd g a2
    · rw [g] at a3; cases a3
  obtain ⟨i1,i2⟩:=insd_lt hL.lt n t
  have h6 : r = insd L n t:=sorted_ext ltA_asy h5 i1 (fun y=>by rw [i2 y]; exact h2.mem_iff)
  rw [← h6]
  exact ⟨h1,h2.length_eq⟩
theorem insd_ok {L : List GAnchor} (hL : AnP L) {n t : ByteArray} (hn : isNm n) (ht : t.size ≤ 200) : AnP (insd L n t):=by
  obtain ⟨i1,i2⟩:=insd_lt hL.lt n t
  exact ⟨i1,fun a ha=>next_mem hL hn ht a ((i2 a).1 ha)⟩
open Go.RowKit Go.Sort
structure FlP (e : Int) (l : List GFlush) : Prop where
  lt : l.Pairwise (fun a b=>a.fEpoch < b.fEpoch)
  mem : ∀ f ∈ l,isNm f.fZone∧lowB f.fZone = f.fZone∧1 ≤ f.fEpoch∧f.fEpoch ≤ e
  un : l.Pairwise (fun a b=>¬ undP a.fZone b.fZone = true)
theorem fl_pw {e : Int} {l : List GFlush} : ((∀ k,k < l.length→flG e l k)∧∀ k,k < l.length→undG l k)↔FlP e l:=by
  constructor
  · rintro ⟨h,u⟩
    refine ⟨pw_adj (r:=fun a b : GFlush=>a.fEpoch < b.fEpoch) (d:=zeroFl) (fun _ _ _=>Int.lt_trans) (fun k hk h0=>(h k hk).2 h0),of_gd (d:=zeroFl) (fun k hk=>(h k hk).1),?_⟩
    rw [List.pairwise_iff_getElem]
    intro i j hi hj hij
    have:=u j hj i hij
    rwa [gd_get zeroFl hi,gd_get zeroFl hj] at this
  · intro h
    refine ⟨fun k hk=>⟨h.mem _ (gd_mem zeroFl hk),fun h0=>adj_pw zeroFl h.lt hk h0⟩,fun k hk j hj=>?_⟩
    rw [gd_get zeroFl (by omega),gd_get zeroFl hk]
    exact List.pairwise_iff_getElem.1 h.un _ _ _ hk hj
theorem low_rootB : lowB rootB = rootB:=by decide +kernel
theorem nm_rootB : isNm rootB:=by
  have h : undP rootB rootB = true ∨ ¬ isNm rootB:=(Classical.em (isNm rootB)).elim (fun h=>.inl (und_root h)) .inr
  refine ⟨[],⟨fun _ h=>(by cases h),rfl⟩,by decide⟩
theorem lowlow (z : ByteArray) : lowB (lowB z) = lowB z:=by
  apply bytesI_inj
  rw [lowB_bytes,lowB_bytes,List.map_map]
  exact List.map_congr_left fun c _=>low_low c
theorem fok {e : Int} {l : List GFlush} (h : FlP e l) (hl : l.length ≤ 32) : FOk e l:=⟨hl,fun f hf=>(h.mem f hf).2.2.2,fun f hf=>by have:=nm_le (h.mem f hf).1; omega⟩
theorem next_fl {e : Int} {l : List GFlush} (h : FlP e l) (he : 0 ≤ e) {z : ByteArray} (hz : isNm z) : FlP (e + 1) (nextF e l z):=by
  unfold nextF
  split
  · refine ⟨by simp,fun f hf=>?_,by simp⟩
    rw [List.mem_singleton] at hf; subst hf
    exact ⟨nm_rootB,low_rootB,by simp only; omega,by simp only; omega⟩
  · refine ⟨List.pairwise_append.2 ⟨h.lt.filter _,by simp,fun a ha b hb=>?_⟩,fun f hf=>?_,List.pairwise_append.2 ⟨h.un.filter _,by simp,fun a ha b hb=>?_⟩⟩
    · rw [List.mem_singleton] at hb; subst hb
      have:=(h.mem a (List.mem_filter.1 ha).1).2.2.2
      simp only; omega
    · rcases List.mem_append.1 hf with hf | hf
      · obtain ⟨g1,g2,g3,g4⟩:=h.mem f (List.mem_filter.1 hf).1
        exact ⟨g1,g2,g3,by omega⟩
      · rw [List.mem_singleton] at hf; subst hf
        exact ⟨isNm_low hz,lowlow z,by simp only; omega,by simp only; omega⟩
    · rw [List.mem_singleton] at hb; subst hb
      have:=(List.mem_filter.1 ha).2
      simpa using this
theorem flo_mono {e : Int} {l : List GFlush} (h : FlP e l) (hl : l.length ≤ 32) (he : 0 ≤ e) {z : ByteArray} (hz : isNm z) (n : ByteArray) : flo n l ≤ flo n (nextF e l z):=by
  have h0:=flo_le n e l 0 (by omega) he fun f hf=>(h.mem f hf).2.2.2
  obtain ⟨g1,g2⟩:=flush_law (fok h hl) he hz n
  have h1 : flo n l ≤ e:=h0.2
  cases c : undP n z with
  | true=>rw [g1 c]; omega
  | false=>rcases g2 c with g | ⟨-,g⟩ <;> rw [g] <;> omega
theorem rfl_run {c : GConf} {o : GOrder} (h : FlP c.fEpoch c.fFlushes) (hl : c.fFlushes.length ≤ 32) (ho : o.fZone.size ≤ 300) (hz : isNm o.fZone) (v : Int) :
    loop (fun s=>m_ref13_Apply_s10 c o s.1 s.2.1 s.2.2) (([] : List GFlush),0,v) = some (c.fFlushes.filter fun f=>!undP f.fZone (lowB o.fZone),v):=by
  refine loop_run (step:=fun s : List GFlush×Int×Int=>m_ref13_Apply_s10 c o s.1 s.2.1 s.2.2) c.fFlushes.length (fun k=>((c.fFlushes.take k).filter fun f=>!undP f.fZone (lowB o.fZone),(k : Int),v)) _ rfl (fun k hk=>?_) ?_
  · have hx:=(fok h hl).zs _ (List.getElem_mem hk)
    have e : c.fFlushes.take (k + 1) = c.fFlushes.take k++[c.fFlushes[k]]:=List.take_succ_eq_append_getElem hk
    have hf:=List.length_filter_le (fun f=>!undP f.fZone (lowB o.fZone)) (c.fFlushes.take k)
    rw [List.length_take] at hf
    simp only [m_ref13_Apply_s10]
    rw [if_pos (by omega),at_nat hk,Option.bind_some,rund_code (by omega) (by omega),Option.bind_some,Option.bind_some,e,List.filter_append,w64_id (by omega) (by omega)]
    by_cases c1 : undP c.fFlushes[k].fZone o.fZone = true
    · rw [if_pos c1,List.filter_cons_of_neg (by rw [und_low hz,c1]; simp),List.filter_nil,List.append_nil]; rfl
    · rw [if_neg c1,List.filter_cons_of_pos (by rw [und_low hz]; simpa using c1),List.filter_nil,app_of (by simp only [List.length_singleton]; omega),Option.bind_some]; rfl
  · simp only [m_ref13_Apply_s10]
    rw [if_neg (by omega),List.take_length]
theorem rfloor_code {c : GConf} (h : FOk c.fEpoch c.fFlushes) {n : ByteArray} (hn : n.size ≤ 300) : m_ref13_Floor c n = some (flo n c.fFlushes):=by
  have hl:=h.le
  have:=loop_run (step:=fun s : Int×Int=>m_ref13_Floor_s2 c n s.1 s.2) c.fFlushes.length (fun k=>(flo n (c.fFlushes.take k),(k : Int))) (flo n c.fFlushes) (s0:=(0,0)) rfl
    (fun k hk=>by
      have hx:=h.zs _ (List.getElem_mem hk)
      have htk : c.fFlushes.take (k + 1) = c.fFlushes.take k++[c.fFlushes[k]]:=List.take_succ_eq_append_getElem hk
      simp only [m_ref13_Floor_s2]
      rw [if_pos (by omega),at_nat hk,Option.bind_some,rund_code (by omega) (by omega),Option.bind_some,Option.bind_some,Option.bind_some,htk,flo_app,w64_id (by omega) (by omega)]
      by_cases c1 : undP n c.fFlushes[k].fZone = true
      · rw [if_pos c1,if_pos c1]
        by_cases c2 : flo n (c.fFlushes.take k) < c.fFlushes[k].fEpoch
        · rw [if_pos c2,show max (flo n (c.fFlushes.take k)) c.fFlushes[k].fEpoch = c.fFlushes[k].fEpoch by omega]; rfl
        · rw [if_neg c2,show max (flo n (c.fFlushes.take k)) c.fFlushes[k].fEpoch = flo n (c.fFlushes.take k) by omega]; rfl
      · rw [if_neg c1,if_neg c1]; rfl)
    (by simp only [m_ref13_Floor_s2]; rw [if_neg (by omega),List.take_of_length_le (Nat.le_refl _)])
  rw [m_ref13_Floor]
  erw [this]
  rfl
/-! ### Which configurations may be -/
structure RightP (c : GConf) : Prop where
  ring : RingP c.fRing
  hn : c.fHints.length ≤ 13
  hs : ∀ h ∈ c.fHints,h.size = 4
  an : AnP c.fAnchors
  al : c.fAnchors.length ≤ 16
  fl : FlP c.fEpoch c.fFlushes
  fn : c.fFlushes.length ≤ 32
  ep : 0 ≤ c.fEpoch∧c.fEpoch ≤ 1099511627776
theorem right_iff {c : GConf} : RightG c↔RightP c:=
  ⟨fun g=>⟨ring_pw.1 g.ring,g.hn,hint_size g,an_pw.1 g.an,g.al,fl_pw.1 ⟨g.fl,g.und⟩,g.fn,g.ep⟩,
   fun p=>⟨ring_pw.2 p.ring,p.hn,fun k hk=>gd_of (p:=fun h : ByteArray=>h.size = 4) ⟨#[]⟩ p.hs hk,an_pw.2 p.an,p.al,(fl_pw.2 p.fl).1,p.fn,p.ep,(fl_pw.2 p.fl).2⟩⟩
theorem ring_le {l : List Int} (h : RingP l) : l.length ≤ 64:=ring_small (ring_pw.2 h)
open Go.RowKit Go.Sort
theorem cj2_code (b : Bool) : m_conf_Check_j2 b = some (if b = true then 0 else 1):=by rw [m_conf_Check_j2]; split <;> rfl
theorem check_o {o : GOrder} (ho : smO o) : m_conf_Check o = some (chkO o):=by
  obtain ⟨k,n,a,t,z,h⟩:=o
  have ha:=ho.a; have ht:=ho.t; have hz:=ho.z; have hh:=ho.h
  simp only at ha ht hz hh
  have e1 : m_conf_Check ⟨k,n,a,t,z,h⟩ = m_conf_Check_j1 ⟨k,n,a,t,z,h⟩ (decide (n = 0) && decide ((h.length : Int) = 0)):=by
    rw [m_conf_Check]
    simp only
    by_cases h0 : n = 0
    · rw [if_pos h0,decide_eq_true h0,Bool.true_and]
    · rw [if_neg h0,decide_eq_false h0,Bool.false_and]
  have n3:=none_code (l:=[a,t,z]) (by simp)
  have n2:=none_code (l:=[a,t]) (by simp)
  have n1:=none_code (l:=[z]) (by simp)
  have hb:=hints_code hh
  have na:=nmB_code (n:=a) (by omega)
  have nz:=nmB_code (n:=z) (by omega)
  rw [e1,m_conf_Check_j1]
  unfold chkO okB
  simp only [m_conf_Check_j3,n3,n2,n1,hb,na,nz,node_code,Option.bind_some,cj2_code,List.all_cons,List.all_nil,Bool.and_true,Bool.not_not]
  generalize nodeB n = B1
  generalize empB a = B2
  generalize empB t = B3
  generalize empB z = B4
  generalize nmB a = B5
  generalize nmB z = B6
  generalize h.all hintB = B7
  clear hb n1 n2 n3 na nz e1 hh ht ha hz
  generalize (h.length : Int) = L
  generalize (t.size : Int) = S
  by_cases k1 : k = 1
  · subst k1
    cases B1 <;> cases B2 <;> cases B3 <;> cases B4 <;> simp
  by_cases k2 : k = 2
  · subst k2
    cases B1 <;> cases B2 <;> cases B3 <;> cases B4 <;> simp
  rw [if_neg k1,decide_eq_false k2,if_neg (show ¬ (k = 1 ∨ k = 2) by omega)]
  by_cases k3 : k = 3
  · subst k3
    by_cases h0 : n = 0 <;> by_cases g1 : 0 < L <;> by_cases g2 : L ≤ 13 <;> cases B7 <;> cases B2 <;> cases B3 <;> cases B4 <;> simp [h0,g1,g2]
  by_cases k4 : k = 4
  · subst k4
    by_cases h0 : n = 0 <;> by_cases g1 : L = 0 <;> by_cases g2 : S ≤ 200 <;> cases B5 <;> cases B4 <;> simp [h0,g1,g2]
  by_cases k5 : k = 5
  · subst k5
    by_cases h0 : n = 0 <;> by_cases g1 : L = 0 <;> cases B6 <;> cases B2 <;> cases B3 <;> simp [h0,g1]
  simp [k3,k4,k5]
theorem ok_cases {o : GOrder} (h : okB o = true) : ((o.fKind = 1 ∨ o.fKind = 2)∧0 ≤ o.fNode∧o.fNode < 64) ∨ (o.fKind = 3∧o.fHints.length ≤ 13∧∀ x ∈ o.fHints,x.size = 4) ∨ (o.fKind = 4∧isNm o.fName∧o.fText.size ≤ 200) ∨ (o.fKind = 5∧isNm o.fZone):=by
  unfold okB at h
  by_cases k1 : o.fKind = 1 ∨ o.fKind = 2
  · rw [if_pos k1] at h
    simp only [Bool.and_eq_true] at h
    have:=of_decide_eq_true h.1.1.1.1
    exact .inl ⟨k1,by omega,by omega⟩
  rw [if_neg k1] at h
  by_cases k3 : o.fKind = 3
  · rw [if_pos k3] at h
    simp only [Bool.and_eq_true] at h
    have h1:=of_decide_eq_true h.1.2
    refine .inr (.inl ⟨k3,by omega,fun x hx=>?_⟩)
    have:=of_decide_eq_true (List.all_eq_true.1 h.2 x hx)
    omega
  rw [if_neg k3] at h
  by_cases k4 : o.fKind = 4
  · rw [if_pos k4] at h
    simp only [Bool.and_eq_true] at h
    have h1:=of_decide_eq_true h.1.1.2
    exact .inr (.inr (.inl ⟨k4,nmB_t.1 h.1.1.1.2,by omega⟩))
  rw [if_neg k4] at h
  by_cases k5 : o.fKind = 5
  · rw [if_pos k5] at h
    simp only [Bool.and_eq_true] at h
    exact .inr (.inr (.inr ⟨k5,nmB_t.1 h.1.1.1.2⟩))
  rw [if_neg k5] at h
  cases h
theorem clones {c : GConf} (h1 : c.fRing.length ≤ 1000) (h2 : c.fHints.length ≤ 1000) (h3 : c.fAnchors.length ≤ 1000) (h4 : c.fFlushes.length ≤ 1000) :
    m_slices_Clone_24 c.fRing = some c.fRing∧m_slices_Clone_25 c.fHints = some c.fHints∧m_slices_Clone_26 c.fAnchors = some c.fAnchors∧m_slices_Clone_27 c.fFlushes = some c.fFlushes∧m_ref13_Copy c = some c:=by
  have a1 : app 8 ([] : List Int) c.fRing = some c.fRing:=by rw [app_of (by simp only [List.length_nil]; omega)]; rfl
  have a2 : app 16 ([] : List ByteArray) c.fHints = some c.fHints:=by rw [app_of (by simp only [List.length_nil]; omega)]; rfl
  have a3 : app 32 ([] : List GAnchor) c.fAnchors = some c.fAnchors:=by rw [app_of (by simp only [List.length_nil]; omega)]; rfl
  have a4 : app 24 ([] : List GFlush) c.fFlushes = some c.fFlushes:=by rw [app_of (by simp only [List.length_nil]; omega)]; rfl
  refine ⟨by rw [m_slices_Clone_24,a1]; rfl,by rw [m_slices_Clone_25,a2]; rfl,by rw [m_slices_Clone_26,a3]; rfl,by rw [m_slices_Clone_27,a4]; rfl,?_⟩
  rw [m_ref13_Copy,a1,a2,a3,a4]; rfl
/-- A configuration behind an order. -/
structure Done (c : GConf) (o : GOrder) (d : GConf) (e : Int) : Prop where
  code : m_conf_Apply c o = some (d,e)
  ref : m_ref13_Apply c o = some (d,e)
  right : RightP d
  ep : d.fEpoch ≤ c.fEpoch + 1
  fl : ∀ n,flo n c.fFlushes ≤ flo n d.fFlushes
theorem strO0 : strOfNums [0] = rootB:=by decide +kernel
theorem apply_both {c : GConf} (p : RightP c) (he : c.fEpoch ≤ 1000) {o : GOrder} (ho : smO o) (hn : o.fName.size ≤ 300) (hz : o.fZone.size ≤ 300) : ∃ d e,Done c o d e:=by
  have l1:=ring_le p.ring
  have l2:=p.hn
  have l3:=p.al
  have l4:=p.fn
  have l5:=p.ep
  obtain ⟨b1,b2,b3,b4,b5⟩:=clones (c:=c) (by omega) (by omega) (by omega) (by omega)
  have hbs:=bs_ring p.ring (by omega) o.fNode
  by_cases hok : okB o = true
  case neg=>
    have e0 : chkO o = 1:=if_neg hok
    refine ⟨c,1,?_,?_,p,by omega,fun _=>Int.le_refl _⟩
    · rw [m_conf_Apply,check_o ho,Option.bind_some,e0,if_pos (by decide)]
    · rw [m_ref13_Apply,rcheck_o ho,Option.bind_some,e0,if_pos (by decide)]
  have e0 : chkO o = 0:=if_pos hok
  have code : m_conf_Apply c o = m_conf_Apply_j1 o c c.fRing c.fHints c.fAnchors c.fFlushes:=by
    rw [m_conf_Apply,check_o ho,Option.bind_some,e0,if_neg (by decide),b1,Option.bind_some,b2,Option.bind_some,b3,Option.bind_some,b4,Option.bind_some]
  have ref : m_ref13_Apply c o = m_ref13_Apply_j2 (decide (o.fNode ∈ c.fRing)) o c c (decide (o.fKind = 1 ∨ o.fKind = 2)):=by
    rw [m_ref13_Apply,rcheck_o ho,Option.bind_some,e0,if_neg (by decide),b5,Option.bind_some,in_cd (by omega),Option.bind_some]
    by_cases k1 : o.fKind = 1
    · rw [if_pos k1,decide_eq_true k1,decide_eq_true (show o.fKind = 1 ∨ o.fKind = 2 from .inl k1)]
    · rw [if_neg k1]
      congr 1
      rw [decide_eq_decide]
      exact ⟨.inr,fun g=>g.resolve_left k1⟩
  rw [m_conf_Apply_j1,hbs,Option.bind_some] at code
  simp only at code
  rcases ok_cases hok with ⟨k,hk⟩ | ⟨k,h1,h2⟩ | ⟨k,h1,h2⟩ | ⟨k,h1⟩
  · -- the ring
    obtain ⟨r1,r2⟩:=ringP_of p.ring hk
    have ht:=tog_eq p.ring hk
    have hr : ∀ b,(decide (o.fNode ∈ c.fRing) == b) = false→m_ref13_Apply_j2 (decide (o.fNode ∈ c.fRing)) o c c (decide (o.fKind = 1 ∨ o.fKind = 2)) = some (⟨if o.fNode ∈ c.fRing then parted c.fRing o.fNode else joined c.fRing o.fNode,c.fHints,c.fAnchors,c.fEpoch,c.fFlushes⟩,0) ∨ ¬ decide (o.fKind = 1) = b:=by
      intro b hb
      by_cases g : decide (o.fKind = 1) = b
      · left
        rw [m_ref13_Apply_j2,decide_eq_true k,if_pos rfl,g,hb,if_neg (by decide),tog_loop (by omega),Option.bind_some,m_ref13_Apply_j1,ht]
      · right; exact g
    by_cases k1 : o.fKind = 1
    · rw [if_pos k1] at code
      by_cases c1 : o.fNode ∈ c.fRing
      · rw [decide_eq_true c1,if_pos rfl] at code
        refine ⟨c,13,code,?_,p,by omega,fun _=>Int.le_refl _⟩
        rw [ref,m_ref13_Apply_j2,decide_eq_true k,if_pos rfl,decide_eq_true c1,decide_eq_true k1,if_pos (by decide)]
      · rw [decide_eq_false c1,if_neg (by decide),join_ins p.ring (by omega) c1,Option.bind_some,m_conf_Apply_j2] at code
        refine ⟨_,_,code,?_,⟨r1,p.hn,p.hs,p.an,p.al,p.fl,p.fn,p.ep⟩,by simp only; omega,fun _=>Int.le_refl _⟩
        rcases hr true (by rw [decide_eq_false c1]; rfl) with g | g
        · rw [ref,g,if_neg c1]
        · exact absurd (decide_eq_true k1) g
    · have k2 : o.fKind = 2:=k.resolve_left k1
      rw [if_neg k1,if_pos k2] at code
      by_cases c1 : o.fNode ∈ c.fRing
      · rw [decide_eq_true c1,if_pos rfl,part_del p.ring (by omega) c1,Option.bind_some,m_conf_Apply_j2] at code
        refine ⟨_,_,code,?_,⟨r2,p.hn,p.hs,p.an,p.al,p.fl,p.fn,p.ep⟩,by simp only; omega,fun _=>Int.le_refl _⟩
        rcases hr false (by rw [decide_eq_true c1]; rfl) with g | g
        · rw [ref,g,if_pos c1]
        · exact absurd (decide_eq_false k1) g
      · rw [decide_eq_false c1,if_neg (by decide)] at code
        refine ⟨c,13,code,?_,p,by omega,fun _=>Int.le_refl _⟩
        rw [ref,m_ref13_Apply_j2,decide_eq_true k,if_pos rfl,decide_eq_false c1,decide_eq_false k1,if_pos (by decide)]
  · -- the hints
    have a2 : app 16 ([] : List ByteArray) o.fHints = some o.fHints:=by rw [app_of (by simp only [List.length_nil]; omega)]; rfl
    rw [if_neg (by omega),if_neg (by omega),if_pos k,m_slices_Clone_25,a2,Option.bind_some,Option.bind_some,m_conf_Apply_j2] at code
    refine ⟨_,_,code,?_,⟨p.ring,h1,h2,p.an,p.al,p.fl,p.fn,p.ep⟩,by simp only; omega,fun _=>Int.le_refl _⟩
    rw [ref,m_ref13_Apply_j2,decide_eq_false (by omega),if_neg (by decide),if_pos k,a2,Option.bind_some,m_ref13_Apply_j1]
  · -- an anchor
    obtain ⟨s1,s2⟩:=sort_is p.an p.al (t:=o.fText) h1 h2
    have hi:=insd_ok p.an (t:=o.fText) h1 h2
    have hfl:=nextA_len c.fAnchors o.fName o.fText
    have hoff : (offA c.fAnchors o.fName).length ≤ c.fAnchors.length:=List.length_filter_le _ _
    have del:=del_anch (l:=c.fAnchors) (by omega) (fun a ha=>(p.an.mem a ha).1) (o:=o) hn
    have j3 : m_conf_Apply c o = m_conf_Apply_j3 c c.fRing c.fFlushes c.fHints (nextA c.fAnchors o.fName o.fText):=by
      rw [code,if_neg (by omega),if_neg (by omega),if_neg (by omega),if_pos k,del,Option.bind_some]
      unfold nextA
      by_cases e : o.fText = ⟨#[]⟩
      · rw [if_pos e,if_pos e,List.append_nil]; rfl
      · rw [if_neg e,if_neg e,app_of (by simp only [List.length_singleton]; unfold offA at hoff; omega),Option.bind_some]; rfl
    have r4 : m_ref13_Apply c o = m_ref13_Apply_j5 c c (insd c.fAnchors o.fName o.fText):=by
      rw [ref,m_ref13_Apply_j2,decide_eq_false (by omega),if_neg (by decide),if_neg (by omega),if_pos k,ref_loop (by omega) (fun a ha=>by have:=nm_le (p.an.mem a ha).1; omega) hn,Option.bind_some,m_ref13_Apply_j4]
      have hlen:=gA_len ⟨o.fName,o.fText⟩ (decide (o.fText = ⟨#[]⟩)) c.fAnchors
      unfold insd
      split
      · rfl
      · rw [app_of (by simp only [List.length_singleton]; omega),Option.bind_some]
    rw [m_conf_Apply_j3] at j3
    rw [m_ref13_Apply_j5] at r4
    by_cases f : 16 < ((nextA c.fAnchors o.fName o.fText).length : Int)
    · rw [if_pos f] at j3
      rw [s2,if_pos f] at r4
      exact ⟨c,15,j3,r4,p,by omega,fun _=>Int.le_refl _⟩
    · rw [if_neg f,s1,Option.bind_some,m_conf_Apply_j2] at j3
      rw [s2,if_neg f,m_ref13_Apply_j1] at r4
      exact ⟨_,_,j3,r4,⟨p.ring,p.hn,p.hs,hi,by simp only; rw [s2]; omega,p.fl,p.fn,p.ep⟩,by simp only; omega,fun _=>Int.le_refl _⟩
  · -- a flush
    have hf:=List.length_filter_le (fun f : GFlush=>!undP f.fZone (lowB o.fZone)) c.fFlushes
    rw [if_neg (by omega),if_neg (by omega),if_neg (by omega),if_neg (by omega),if_pos k,if_neg (by omega),lower_eq (by omega),Option.bind_some,del_code (fok p.fl p.fn) (by rw [lowB_size]; exact hz),Option.bind_some,w64_id (by omega) (by omega)] at code
    have r5 : m_ref13_Apply c o = m_ref13_Apply_j8 o c (c.fFlushes.filter fun f=>!undP f.fZone (lowB o.fZone)) (c.fEpoch + 1):=by
      rw [ref,m_ref13_Apply_j2,decide_eq_false (by omega),if_neg (by decide),if_neg (by omega),if_neg (by omega),if_neg (by omega),rfl_run p.fl p.fn hz h1,Option.bind_some,w64_id (by omega) (by omega)]
    rw [m_ref13_Apply_j8,rlower_eq (by omega),Option.bind_some] at r5
    have g1:=next_fl p.fl p.ep.1 h1
    have g2:=nextF_ok (fok p.fl p.fn) hz
    have hap : m_conf_Apply c o = some (⟨c.fRing,c.fHints,c.fAnchors,c.fEpoch + 1,nextF c.fEpoch c.fFlushes o.fZone⟩,0)∧m_ref13_Apply c o = some (⟨c.fRing,c.fHints,c.fAnchors,c.fEpoch + 1,nextF c.fEpoch c.fFlushes o.fZone⟩,0):=by
      unfold nextF
      by_cases f : 32 ≤ ((c.fFlushes.filter fun f : GFlush=>!undP f.fZone (lowB o.fZone)).length : Int)
      · rw [if_pos f] at code r5 ⊢
        rw [m_conf_Apply_j4,app_of (by simp),Option.bind_some,m_conf_Apply_j2] at code
        rw [m_ref13_Apply_j9,app_of (by simp),Option.bind_some,m_ref13_Apply_j1,strO0] at r5
        exact ⟨code,r5⟩
      · rw [if_neg f] at code r5 ⊢
        rw [m_conf_Apply_j4,app_of (by simp only [List.length_singleton]; omega),Option.bind_some,m_conf_Apply_j2] at code
        rw [m_ref13_Apply_j9,app_of (by simp only [List.length_singleton]; omega),Option.bind_some,m_ref13_Apply_j1] at r5
        exact ⟨code,r5⟩
    exact ⟨_,_,hap.1,hap.2,⟨p.ring,p.hn,p.hs,p.an,p.al,g1,g2.le,by simp only; omega⟩,by simp only; omega,fun n=>flo_mono p.fl p.fn p.ep.1 h1 n⟩
open Go.RowKit Go.Sort
theorem fm_most {α : Type} {e : α→List Int} (C : Nat) : ∀ (l : List α),(∀ a ∈ l,(e a).length ≤ C)→(l.flatMap e).length ≤ C * l.length
  | [],_=>by simp
  | a::l,h=>by
    have h1:=fm_most C l fun b hb=>h b (List.mem_cons_of_mem _ hb)
    have h2:=h a List.mem_cons_self
    rw [List.flatMap_cons,List.length_append,List.length_cons,Nat.mul_succ]
    omega
theorem snap_len {c : GConf} (p : RightP c) : (snapL c).length ≤ 20000:=by
  have l1:=ring_le p.ring
  have l2:=p.hn
  have l3:=p.al
  have l4:=p.fn
  have m1:=fm_most (e:=fun x : Int=>[x % 256]) 1 c.fRing (fun _ _=>by simp)
  have m2:=fm_most (e:=bytesI) 4 c.fHints (fun h hh=>by rw [← size_bytes,p.hs h hh]; omega)
  have m3:=fm_most (e:=anB) 456 c.fAnchors (fun a ha=>by
    obtain ⟨g1,g2,g3⟩:=p.an.mem a ha
    have:=nm_le g1
    simp only [anB,List.length_append,List.length_singleton,← size_bytes]; omega)
  have m4:=fm_most (e:=flB) 263 c.fFlushes (fun f hf=>by
    have:=nm_le (p.fl.mem f hf).1
    simp only [flB,eightB,List.length_append,← size_bytes,List.length_cons,List.length_nil]; omega)
  simp only [snapL,ringB,eightB,List.length_append,List.length_cons,List.length_nil]
  omega
theorem self_same {c : GConf} (p : RightP c) : m_ref13_Same c c = some true:=by
  have l1:=ring_le p.ring
  have l2:=p.hn
  have l3:=p.al
  have l4:=p.fn
  exact conf_self (by omega) (by omega) (by omega) (by omega)
theorem sm_right {c : GConf} (p : RightP c) : SmC c:=sm_parts (parts_of (right_iff.2 p))
open Classical in
theorem round {p0 : List GOrder} {n : ByteArray} (hn : n.size ≤ 300) {i : Nat} (hi : i < p0.length) (h60 : i < 60) (hok : ∀ a ∈ p0,GOrder.ok a) {c : GConf} (p : RightP c) (he : c.fEpoch ≤ 100) :
    ∃ d,RightP d∧d.fEpoch ≤ c.fEpoch + 1∧m_law13_ConfApplies_s2 p0 n (i : Int) c.fRing c.fHints c.fAnchors c.fEpoch c.fFlushes c.fRing c.fHints c.fAnchors c.fEpoch c.fFlushes =
      some (.inl (((i + 1 : Nat) : Int),d.fRing,d.fHints,d.fAnchors,d.fEpoch,d.fFlushes,d.fRing,d.fHints,d.fAnchors,d.fEpoch,d.fFlushes)):=by
  obtain ⟨o,o1,o2,o3,o4,o5,o6⟩:=small_code (hok _ (List.getElem_mem hi))
  obtain ⟨d,e,D⟩:=apply_both p (by omega) (o:=o) ⟨by omega,by omega,by omega,by omega,fun x hx=>by have:=o6 x hx; omega⟩ o2 o4
  have l1:=ring_le p.ring
  have l2:=p.hn
  have l3:=p.al
  have l4:=p.fn
  have f1 : m_conf_Floor c n = some (flo n c.fFlushes):=floor_code (fok p.fl p.fn) hn
  have f2 : m_conf_Floor d n = some (flo n d.fFlushes):=floor_code (fok D.right.fl D.right.fn) hn
  have f3:=rfloor_code (fok D.right.fl D.right.fn) hn
  have hg:=D.fl n
  have cp:=(clones (c:=c) (by omega) (by omega) (by omega) (by omega)).2.2.2.2
  have E : (⟨c.fRing,c.fHints,c.fAnchors,c.fEpoch,c.fFlushes⟩ : GConf) = c:=rfl
  have R : m_conf_Right d = some true:=by
    rw [right_code (sm_right D.right)]
    exact congrArg some (decide_eq_true (right_iff.2 D.right))
  refine ⟨d,D.right,D.ep,?_⟩
  rw [m_law13_ConfApplies_s2,if_pos (by omega),if_pos (by omega),at_nat hi,Option.bind_some,o1,Option.bind_some,E,cp,Option.bind_some,f1,Option.bind_some,D.code,Option.bind_some,D.ref,Option.bind_some,self_same D.right,Option.bind_some,self_same p,Option.bind_some,if_pos rfl,if_pos rfl,if_neg (fun g=>g rfl),R,Option.bind_some,if_pos rfl,f2,Option.bind_some,f3,Option.bind_some,if_neg (fun g=>g rfl),Option.bind_some,if_neg (by omega),w64_id (by omega) (by omega)]
  rfl
theorem right_zero : RightP ⟨[],[],[],0,[]⟩:=
  ⟨⟨.nil,fun _ h=>by cases h⟩,by simp,fun _ h=>(by cases h),⟨.nil,fun _ h=>by cases h⟩,by simp,⟨.nil,fun _ h=>(by cases h),.nil⟩,by simp,by simp⟩
theorem q_ConfApplies (p0 : List GOrder) (p1 : ByteArray) (h0 : (p0.length ≤ 9223372036854775807∧∀ a ∈ p0,GOrder.ok a)) (h1 : p1.size ≤ 9223372036854775807) : m_law13_ConfApplies p0 p1 = some true:=by
  obtain ⟨n,n1,n2⟩:=short13_of (s:=p1) 300 h1
  replace n1 : m_law13_short p1 300 = some n:=n1
  rw [m_law13_ConfApplies,awake13,Option.bind_some,n1,Option.bind_some]
  obtain ⟨r,g1,g2⟩:=loop_rule (step:=fun s : Int×(List Int)×(List ByteArray)×(List GAnchor)×Int×(List GFlush)×(List Int)×(List ByteArray)×(List GAnchor)×Int×(List GFlush)=>m_law13_ConfApplies_s2 p0 n s.1 s.2.1 s.2.2.1 s.2.2.2.1 s.2.2.2.2.1 s.2.2.2.2.2.1 s.2.2.2.2.2.2.1 s.2.2.2.2.2.2.2.1 s.2.2.2.2.2.2.2.2.1 s.2.2.2.2.2.2.2.2.2.1 s.2.2.2.2.2.2.2.2.2.2)
    (fun s=>∃ (i : Nat) (c : GConf),i ≤ 60∧RightP c∧c.fEpoch ≤ i∧s = ((i : Int),c.fRing,c.fHints,c.fAnchors,c.fEpoch,c.fFlushes,c.fRing,c.fHints,c.fAnchors,c.fEpoch,c.fFlushes)) (fun s=>(60 - s.1).toNat)
    (fun r=>∃ c : GConf,RightP c∧r = .inl (c.fRing,c.fHints,c.fAnchors,c.fEpoch,c.fFlushes,c.fRing,c.fHints,c.fAnchors,c.fEpoch,c.fFlushes))
    (by
      rintro s ⟨i,c,hi,p,he,rfl⟩
      simp only
      by_cases c1 : i < p0.length
      · by_cases c2 : i < 60
        · left
          obtain ⟨d,d1,d2,d3⟩:=round n2 c1 c2 h0.2 p (by omega)
          exact ⟨_,d3,⟨i + 1,d,by omega,d1,by omega,rfl⟩,by simp only; omega⟩
        · right
          exact ⟨_,by rw [m_law13_ConfApplies_s2,if_pos (by omega),if_neg (by omega)],c,p,rfl⟩
      · right
        exact ⟨_,by rw [m_law13_ConfApplies_s2,if_neg (by omega)],c,p,rfl⟩)
    (s0:=(0,([] : List Int),([] : List ByteArray),([] : List GAnchor),0,([] : List GFlush),([] : List Int),([] : List ByteArray),([] : List GAnchor),0,([] : List GFlush))) ⟨0,⟨[],[],[],0,[]⟩,by omega,right_zero,by simp,rfl⟩
  obtain ⟨c,p,rfl⟩:=g2
  have G:=right_iff.2 p
  have E : (⟨c.fRing,c.fHints,c.fAnchors,c.fEpoch,c.fFlushes⟩ : GConf) = c:=rfl
  have s1 : m_conf_Snap c = some (strOfNums (snapL c)):=by rw [snap_code (sm_right p)]; exact congrArg some (if_pos G)
  have s2 : m_ref13_Snap c = some (strOfNums (snapL c)):=by rw [snap_ref (sm_right p)]; exact congrArg some (if_pos G)
  have hb : bytesI (strOfNums (snapL c)) = snapL c:=bytesI_str (snap_range c)
  have hl:=load_full (s:=strOfNums (snapL c)) (by rw [size_bytes,hb]; exact snap_len p) G hb
  rw [g1,Option.bind_some,Sum.elim_inl,m_law13_ConfApplies_j1]
  simp only
  rw [E,s1,Option.bind_some,hl,Option.bind_some,self_same p,Option.bind_some,if_pos rfl,s2,Option.bind_some,if_pos rfl,if_pos trivial]
end Go.Proofs.YthpjodfjdnnckaaGreat
