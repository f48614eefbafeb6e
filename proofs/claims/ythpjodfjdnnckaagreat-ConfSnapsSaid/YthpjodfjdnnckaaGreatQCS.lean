import Derived.Test.YthpjodfjdnnckaaGreatKCS
set_option linter.unusedVariables false
set_option linter.unusedSimpArgs false
set_option maxRecDepth 16384
namespace Go.Proofs.YthpjodfjdnnckaaGreat
open Go.RowKit
def encB (ls : List ByteArray) : List Int:=ls.flatMap fun s=>(s.size : Int)::bytesI s
def okLs (ls : List ByteArray) : Prop:=∀ s ∈ ls,1 ≤ s.size∧s.size ≤ 63
instance (ls : List ByteArray) : Decidable (okLs ls):=by unfold okLs; infer_instance
/-- n is the name of the labels ls. -/
def Nm (n : ByteArray) (ls : List ByteArray) : Prop:=okLs ls∧bytesI n = encB ls++[0]
def starts : Nat→List ByteArray→List (Int×ByteArray)
  | _,[]=>[]
  | a,s::ls=>((a : Int),s)::starts (a + 1 + s.size) ls
/-- The bytes of a row are at its end: nothing, or a 0 ahead. -/
def endR (l : List Int) : Prop:=l = [] ∨ ∃ r,l = 0::r
theorem encB_cons (s : ByteArray) (ls : List ByteArray) : encB (s::ls) = (s.size : Int)::bytesI s++encB ls:=by simp [encB]
theorem drop_byte {n : ByteArray} {a : Nat} {x : Int} {r : List Int} (h : (bytesI n).drop a = x::r) : a < n.size∧byteAt n (a : Int) = x∧(bytesI n).drop (a + 1) = r:=by
  have hl : a < (bytesI n).length:=by
    by_cases hc : a < (bytesI n).length
    · exact hc
    · rw [List.drop_of_length_le (by omega)] at h; cases h
  have hs : a < n.size:=by rw [size_bytes]; exact hl
  rw [List.drop_eq_getElem_cons hl] at h
  injection h with h1 h2
  rw [bytesI_get n a hs] at h1
  exact ⟨hs,h1,h2⟩
theorem drop_app {n : ByteArray} {a : Nat} {s : ByteArray} {r : List Int} (h : (bytesI n).drop a = bytesI s++r) : n.extract a (a + s.size) = s∧a + s.size ≤ max n.size a∧(bytesI n).drop (a + s.size) = r:=by
  have hs:=size_bytes s
  have hn:=size_bytes n
  have hl:=congrArg List.length h
  rw [List.length_drop,List.length_append] at hl
  refine ⟨bytesI_inj ?_,by omega,?_⟩
  · rw [bytesI_extract,List.drop_take,h,show a + s.size - a = (bytesI s).length by omega,List.take_left]
  · rw [← List.drop_drop,h,hs,List.drop_left]
theorem drop_none {n : ByteArray} {a : Nat} (h : (bytesI n).drop a = []) : n.size ≤ a:=by
  rw [size_bytes]; exact List.drop_eq_nil_iff.1 h
theorem okLs_cons {s : ByteArray} {ls : List ByteArray} : okLs (s::ls)↔(1 ≤ s.size∧s.size ≤ 63)∧okLs ls:=by
  simp [okLs]
theorem eachAt_end {n : ByteArray} {a : Nat} (h : endR ((bytesI n).drop a)) (f : Nat) : eachAt n f a = ([],(a : Int)):=by
  cases f with
  | zero=>rfl
  | succ f=>
    rw [eachAt,if_neg]
    rcases h with h | ⟨r,h⟩
    · have:=drop_none h; omega
    · have:=(drop_byte h).2.1; simp [this]
theorem eachAt_enc {n : ByteArray} {rest : List Int} (hr : endR rest) : ∀ (ls : List ByteArray) (a f : Nat),okLs ls→(bytesI n).drop a = encB ls++rest→ls.length ≤ f→
    eachAt n f a = (starts a ls,((a + (encB ls).length : Nat) : Int)):=by
  intro ls
  induction ls with
  | nil=>
    intro a f _ h _
    exact eachAt_end (by rw [h]; exact hr) f
  | cons s ls ih=>
    intro a f hok h hf
    obtain ⟨hs,hok⟩:=okLs_cons.1 hok
    obtain ⟨f,rfl⟩ : ∃ g,f = g + 1:=⟨f - 1,by simp at hf; omega⟩
    rw [encB_cons] at h
    simp only [List.cons_append,List.append_assoc] at h
    obtain ⟨h1,h2,h3⟩:=drop_byte h
    obtain ⟨h4,h5,h6⟩:=drop_app h3
    rw [eachAt,if_pos ⟨h1,by rw [h2]; omega⟩,h2,if_neg (by omega)]
    have:=ih (a + 1 + s.size) f hok (by rw [← h6]) (by simp at hf; omega)
    simp only [Int.toNat_natCast]
    rw [this,h4,starts,encB_cons]
    congr 2
    simp only [List.length_append,List.length_cons,← size_bytes]
    omega
theorem eachAt_any {n : ByteArray} : ∀ (f a : Nat),n.size ≤ a + f→a ≤ n.size→(eachAt n f a).2 = -1 ∨ ∃ ls rest,okLs ls∧(bytesI n).drop a = encB ls++rest∧endR rest:=by
  intro f
  induction f with
  | zero=>
    intro a h1 h2
    exact .inr ⟨[],[],(fun _ h=>by cases h),by rw [List.drop_of_length_le (by rw [← size_bytes]; omega)]; rfl,.inl rfl⟩
  | succ f ih=>
    intro a h1 h2
    rw [eachAt]
    by_cases hc : a < n.size∧byteAt n a ≠ 0
    · rw [if_pos hc]
      by_cases hb : 63 < byteAt n a ∨ n.size < a + 1 + (byteAt n a).toNat
      · rw [if_pos hb]; exact .inl rfl
      · rw [if_neg hb]
        have hr:=byteAt_lt n a
        rcases ih (a + 1 + (byteAt n a).toNat) (by omega) (by omega) with h | ⟨ls,rest,h3,h4,h5⟩
        · exact .inl h
        · have hsz : (n.extract (a + 1) (a + 1 + (byteAt n a).toNat)).size = (byteAt n a).toNat:=by
            rw [ByteArray.size_extract]; omega
          refine .inr ⟨n.extract (a + 1) (a + 1 + (byteAt n a).toNat)::ls,rest,okLs_cons.2 ⟨by rw [hsz]; omega,h3⟩,?_,h5⟩
          have hl : a < (bytesI n).length:=by rw [← size_bytes]; exact hc.1
          rw [List.drop_eq_getElem_cons hl,bytesI_get n a hc.1,encB_cons,hsz,bytesI_extract]
          simp only [List.cons_append,List.append_assoc]
          have h6 : (bytesI n).drop (a + 1 + (byteAt n a).toNat) = ((bytesI n).drop (a + 1)).drop (byteAt n a).toNat:=by rw [List.drop_drop]
          rw [← h4,List.drop_take,h6,show a + 1 + (byteAt n a).toNat - (a + 1) = (byteAt n a).toNat by omega,List.take_append_drop]
          congr 1
          omega
    · rw [if_neg hc]
      refine .inr ⟨[],(bytesI n).drop a,(fun _ h=>by cases h),rfl,?_⟩
      by_cases ha : a < n.size
      · have hl : a < (bytesI n).length:=by rw [← size_bytes]; exact ha
        have : byteAt n a = 0:=Classical.byContradiction fun h=>hc ⟨ha,h⟩
        rw [List.drop_eq_getElem_cons hl,bytesI_get n a ha,this]
        exact .inr ⟨_,rfl⟩
      · rw [List.drop_of_length_le (by rw [← size_bytes]; omega)]; exact .inl rfl
theorem nm_size {n : ByteArray} {ls : List ByteArray} (h : Nm n ls) : n.size = (encB ls).length + 1:=by
  rw [size_bytes,h.2]; simp
theorem len_enc (ls : List ByteArray) : ls.length ≤ (encB ls).length:=by
  induction ls with
  | nil=>simp
  | cons s ls ih=>rw [encB_cons]; simp; omega
theorem each_nm {n : ByteArray} {ls : List ByteArray} (h : Nm n ls) : eachP n = (starts 0 ls,(n.size : Int) - 1):=by
  have hl:=len_enc ls
  have hs:=nm_size h
  rw [eachP,eachAt_enc (rest:=[0]) (.inr ⟨[],rfl⟩) ls 0 n.size h.1 (by rw [List.drop_zero,h.2]) (by omega)]
  congr 1
  omega
theorem each_no {n : ByteArray} (h : ¬ ∃ ls,Nm n ls) : (eachP n).2 ≠ (n.size : Int) - 1 ∨ (eachP n).2 < 0:=by
  rcases eachAt_any (n:=n) n.size 0 (by omega) (by omega) with h1 | ⟨ls,rest,h1,h2,h3⟩
  · rw [eachP,h1]; exact .inr (by omega)
  · left
    have hl:=len_enc ls
    have hlen:=congrArg List.length h2
    rw [List.drop_zero,← size_bytes,List.length_append] at hlen
    rw [eachP,eachAt_enc h3 ls 0 n.size h1 h2 (by omega)]
    intro hc
    refine h ⟨ls,h1,?_⟩
    rw [List.drop_zero] at h2
    rw [h2]
    congr 1
    simp only at hc
    rcases h3 with rfl | ⟨r,rfl⟩
    · simp at hlen; omega
    · simp only [List.length_cons] at hlen
      rw [List.length_eq_zero_iff.1 (by omega : r.length = 0)]
theorem starts_snd (a : Nat) (ls : List ByteArray) : (starts a ls).map Prod.snd = ls:=by
  induction ls generalizing a with
  | nil=>rfl
  | cons s ls ih=>simp [starts,ih]
theorem nm_inj {n : ByteArray} {a b : List ByteArray} (h : Nm n a) (h' : Nm n b) : a = b:=by
  have:=(each_nm h).symm.trans (each_nm h')
  injection this with h1 _
  have:=congrArg (List.map Prod.snd) h1
  rwa [starts_snd,starts_snd] at this
open Go.RowKit
theorem eachM_of {n : ByteArray} (hs : n.size ≤ 1099511627776) : eachM n = some (eachP n):=if_pos hs
theorem labels_nm {n : ByteArray} {ls : List ByteArray} (h : Nm n ls) (hs : n.size ≤ 255) : m_name_Labels n = some (ls,0):=by
  have:=nm_size h
  rw [m_name_Labels,eachM_of (by omega),Option.bind_some,each_nm h,w64_id (by omega) (by omega),if_neg (fun h=>h rfl),if_neg (by omega),if_neg (by omega),starts_snd]
theorem labels_big {n : ByteArray} {ls : List ByteArray} (h : Nm n ls) (hs : 255 < n.size) (hb : n.size ≤ 1099511627776) : m_name_Labels n = some ([],11):=by
  rw [m_name_Labels,eachM_of (by omega),Option.bind_some,each_nm h,w64_id (by omega) (by omega),if_neg (fun h=>h rfl),if_neg (by omega),if_pos (by omega)]
theorem labels_no {n : ByteArray} (h : ¬ ∃ ls,Nm n ls) (hb : n.size ≤ 1099511627776) : m_name_Labels n = some ([],10):=by
  rw [m_name_Labels,eachM_of (by omega),Option.bind_some,w64_id (by omega) (by omega)]
  rcases each_no h with h | h
  · rw [if_pos h]
  · rw [if_pos h]
    split <;> rfl
theorem check_nm {n : ByteArray} {ls : List ByteArray} (h : Nm n ls) (hs : n.size ≤ 255) : m_name_Check n = some 0:=by
  rw [m_name_Check,labels_nm h hs]; rfl
theorem check_big {n : ByteArray} {ls : List ByteArray} (h : Nm n ls) (hs : 255 < n.size) (hb : n.size ≤ 1099511627776) : m_name_Check n = some 11:=by
  rw [m_name_Check,labels_big h hs hb]; rfl
theorem check_no {n : ByteArray} (h : ¬ ∃ ls,Nm n ls) (hb : n.size ≤ 1099511627776) : m_name_Check n = some 10:=by
  rw [m_name_Check,labels_no h hb]; rfl
theorem nm_cases (n : ByteArray) : (∃ ls,Nm n ls∧n.size ≤ 255) ∨ (∃ ls,Nm n ls∧255 < n.size) ∨ ¬ ∃ ls,Nm n ls:=by
  by_cases h : ∃ ls,Nm n ls
  · obtain ⟨ls,h⟩:=h
    by_cases hs : n.size ≤ 255
    · exact .inl ⟨ls,h,hs⟩
    · exact .inr (.inl ⟨ls,h,by omega⟩)
  · exact .inr (.inr h)
theorem row_step {n : ByteArray} (hn : n.size ≤ 1099511627776) {a : Nat} {out : List ByteArray} (ha : a ≤ n.size) (ho : out.length ≤ a) :
    m_ref03_row_s2 n out (a : Int) = if a < n.size∧byteAt n a ≠ 0 then (if 63 < byteAt n a ∨ n.size < a + 1 + (byteAt n a).toNat then some (.inr (.inr ([],false)))
      else some (.inl (out++[n.extract (a + 1) (a + 1 + (byteAt n a).toNat)],((a + 1 + (byteAt n a).toNat : Nat) : Int)))) else some (.inr (.inl (out,(a : Int)))):=by
  rw [m_ref03_row_s2]
  by_cases hc : a < n.size
  · have hb:=byteAt_lt n a
    rw [if_pos (show (a : Int) < n.size by omega),sat_of (by omega) (by omega),Option.bind_some]
    by_cases h0 : byteAt n a ≠ 0
    · rw [if_pos h0,if_pos ⟨hc,h0⟩,Option.bind_some,w64_id (by omega) (by omega)]
      by_cases h1 : 63 < byteAt n a
      · rw [if_pos h1,if_pos (.inl h1)]
      · rw [if_neg h1,w64_id (x:=(a : Int) + 1) (by omega) (by omega),w64_id (x:=(a : Int) + 1 + byteAt n a) (by omega) (by omega)]
        by_cases h2 : n.size < a + 1 + (byteAt n a).toNat
        · rw [if_pos (by omega),if_pos (.inr h2)]
        · rw [if_neg (by omega),if_neg (by omega),scutMid,if_pos ⟨by omega,by omega,by omega⟩,Option.bind_some,app_of (by simp; omega),Option.bind_some,
            show ((a : Int) + 1).toNat = a + 1 by omega,show ((a : Int) + 1 + byteAt n a).toNat = a + 1 + (byteAt n a).toNat by omega]
          congr 4
          omega
    · rw [if_neg h0,if_neg (fun h=>h0 h.2)]
  · rw [if_neg (by omega),if_neg (fun h=>hc h.1)]
theorem row_loop {n : ByteArray} (hn : n.size ≤ 1099511627776) : ∀ (f a : Nat) (out : List ByteArray),n.size ≤ a + f→a ≤ n.size→out.length ≤ a→
    loop (fun s=>m_ref03_row_s2 n s.1 s.2) (out,(a : Int)) = some (if (eachAt n f a).2 = -1 then .inr ([],false) else .inl (out++(eachAt n f a).1.map Prod.snd,(eachAt n f a).2)):=by
  intro f
  induction f with
  | zero=>
    intro a out h1 h2 h3
    rw [loop_inr (by simp only [row_step hn h2 h3]; rw [if_neg (by omega)])]
    simp only [eachAt,List.map_nil,List.append_nil]
    rw [if_neg (by omega)]
  | succ f ih=>
    intro a out h1 h2 h3
    have hb:=byteAt_lt n a
    by_cases hc : a < n.size∧byteAt n a ≠ 0
    · by_cases h4 : 63 < byteAt n a ∨ n.size < a + 1 + (byteAt n a).toNat
      · rw [loop_inr (by simp only [row_step hn h2 h3]; rw [if_pos hc,if_pos h4])]
        rw [eachAt,if_pos hc,if_pos h4,if_pos rfl]
      · rw [loop_inl (by simp only [row_step hn h2 h3]; rw [if_pos hc,if_neg h4]),ih _ _ (by omega) (by omega) (by simp; omega)]
        rw [eachAt,if_pos hc,if_neg h4]
        simp only [List.map_cons,List.append_assoc,List.singleton_append]
    · rw [loop_inr (by simp only [row_step hn h2 h3]; rw [if_neg hc])]
      rw [eachAt,if_neg hc]
      simp only [List.map_nil,List.append_nil]
      rw [if_neg (by omega)]
theorem row_nm {n : ByteArray} {ls : List ByteArray} (h : Nm n ls) (hb : n.size ≤ 1099511627776) : m_ref03_row n = some (ls,true):=by
  have hs:=nm_size h
  have:=row_loop hb n.size 0 [] (by omega) (by omega) (by simp)
  rw [← eachP,each_nm h,if_neg (by simp only; omega)] at this
  rw [m_ref03_row]
  erw [this]
  simp only [Option.bind_some,Sum.elim_inl,m_ref03_row_j1,List.nil_append,starts_snd]
  rw [w64_id (by omega) (by omega),decide_eq_true rfl]
theorem row_no {n : ByteArray} (h : ¬ ∃ ls,Nm n ls) (hb : n.size ≤ 1099511627776) : ∃ l,m_ref03_row n = some (l,false):=by
  have:=row_loop hb n.size 0 [] (by omega) (by omega) (by simp)
  rw [← eachP] at this
  rw [m_ref03_row]
  erw [this]
  by_cases h1 : (eachP n).2 = -1
  · rw [if_pos h1]; exact ⟨_,rfl⟩
  · rw [if_neg h1]
    refine ⟨[]++(eachP n).1.map Prod.snd,?_⟩
    simp only [Option.bind_some,Sum.elim_inl,m_ref03_row_j1]
    rw [w64_id (by omega) (by omega)]
    rw [decide_eq_false]
    intro h2
    rcases each_no h with h3 | h3
    · exact h3 h2
    · rcases eachAt_any (n:=n) n.size 0 (by omega) (by omega) with h4 | ⟨ls,rest,h4,h5,h6⟩
      · exact h1 h4
      · have hl:=len_enc ls
        have hlen:=congrArg List.length h5
        rw [List.drop_zero,← size_bytes,List.length_append] at hlen
        rw [eachP,eachAt_enc h6 ls 0 n.size h4 h5 (by omega)] at h3
        simp only at h3
        omega
theorem rcheck_nm {n : ByteArray} {ls : List ByteArray} (h : Nm n ls) (hs : n.size ≤ 255) : m_ref03_Check n = some 0:=by
  rw [m_ref03_Check,row_nm h (by omega)]
  simp only [Option.bind_some,if_true]
  rw [if_neg (by omega)]
theorem rcheck_big {n : ByteArray} {ls : List ByteArray} (h : Nm n ls) (hs : 255 < n.size) (hb : n.size ≤ 1099511627776) : m_ref03_Check n = some 11:=by
  rw [m_ref03_Check,row_nm h (by omega)]
  simp only [Option.bind_some,if_true]
  rw [if_pos (by omega)]
theorem rcheck_no {n : ByteArray} (h : ¬ ∃ ls,Nm n ls) (hb : n.size ≤ 1099511627776) : m_ref03_Check n = some 10:=by
  obtain ⟨l,hl⟩:=row_no h hb
  rw [m_ref03_Check,hl]
  simp
theorem rlabels_nm {n : ByteArray} {ls : List ByteArray} (h : Nm n ls) (hs : n.size ≤ 255) : m_ref03_Labels n = some (ls,0):=by
  rw [m_ref03_Labels,rcheck_nm h hs,Option.bind_some,if_neg (by simp),row_nm h (by omega)]; rfl
theorem rlabels_big {n : ByteArray} {ls : List ByteArray} (h : Nm n ls) (hs : 255 < n.size) (hb : n.size ≤ 1099511627776) : m_ref03_Labels n = some ([],11):=by
  rw [m_ref03_Labels,rcheck_big h hs hb]; rfl
theorem rlabels_no {n : ByteArray} (h : ¬ ∃ ls,Nm n ls) (hb : n.size ≤ 1099511627776) : m_ref03_Labels n = some ([],10):=by
  rw [m_ref03_Labels,rcheck_no h hb]; rfl
open Go.RowKit
theorem depth_nm {n : ByteArray} {ls : List ByteArray} (h : Nm n ls) (hs : n.size ≤ 255) : m_name_Depth n = some (ls.length : Int):=by
  rw [m_name_Depth,labels_nm h hs,Option.bind_some,if_neg (fun h=>h rfl)]
theorem depth_big {n : ByteArray} {ls : List ByteArray} (h : Nm n ls) (hs : 255 < n.size) (hb : n.size ≤ 1099511627776) : m_name_Depth n = some (-1):=by
  rw [m_name_Depth,labels_big h hs hb]; rfl
theorem depth_no {n : ByteArray} (h : ¬ ∃ ls,Nm n ls) (hb : n.size ≤ 1099511627776) : m_name_Depth n = some (-1):=by
  rw [m_name_Depth,labels_no h hb]; rfl
def low (c : Int) : Int:=if 65 ≤ c∧c ≤ 90 then c + 32 else c
def lowB (n : ByteArray) : ByteArray:=strOfNums ((bytesI n).map low)
theorem low_range {c : Int} (h : 0 ≤ c∧c ≤ 255) : 0 ≤ low c∧low c ≤ 255:=by unfold low; split <;> omega
theorem lowB_bytes (n : ByteArray) : bytesI (lowB n) = (bytesI n).map low:=bytesI_str (by
  intro x hx
  obtain ⟨y,hy,rfl⟩:=List.mem_map.1 hx
  exact low_range (bytesI_range n y hy))
theorem lowB_size (n : ByteArray) : (lowB n).size = n.size:=by rw [size_bytes,lowB_bytes,List.length_map,← size_bytes]
theorem or_low {c : Int} (h : 65 ≤ c∧c ≤ 90) : orI .u8 c 32 = c + 32:=by
  obtain ⟨k,hk⟩:=Int.eq_ofNat_of_zero_le (by omega : 0 ≤ c - 65)
  have hc : c = 65 + (k : Int):=by omega
  subst hc
  have : ∀ k : Fin 26,orI .u8 (65 + ((k.val : Nat) : Int)) 32 = 65 + ((k.val : Nat) : Int) + 32:=by decide +kernel
  exact this ⟨k,by omega⟩
/-- One byte after the other made small. -/
theorem low_loop (step : List Int→Int→Option ((List Int×Int) ⊕ List Int)) {n : ByteArray} (hn : n.size ≤ 1099511627776)
    (hs : ∀ (l : List Int) (k : Nat),l.length = n.size→step l (k : Int) = if k < n.size then some (.inl (l.set k (low (l.getD k 0)),((k + 1 : Nat) : Int))) else some (.inr l)) :
    loop (fun s=>step s.1 s.2) (bytesI n,0) = some ((bytesI n).map low):=by
  have hl:=size_bytes n
  refine loop_run (step:=fun s=>step s.1 s.2) n.size (fun k=>(((bytesI n).take k).map low++(bytesI n).drop k,(k : Int))) _ (by simp) (fun k hk=>?_) ?_
  · rw [hs _ _ (by simp; omega),if_pos hk]
    congr 3
    have e1 : (bytesI n).drop k = (bytesI n)[k]::(bytesI n).drop (k + 1):=List.drop_eq_getElem_cons (by omega)
    rw [e1,List.take_succ_eq_append_getElem (by omega),List.map_append]
    have hlen : (((bytesI n).take k).map low).length = k:=by simp; omega
    rw [List.getD_eq_getElem?_getD,List.getElem?_append_right (by omega),hlen,Nat.sub_self,List.set_append_right _ _ (by omega),hlen,Nat.sub_self]
    simp only [List.set_cons_zero,List.getElem?_cons_zero,Option.getD_some,List.map_cons,List.map_nil,List.append_assoc,List.cons_append,List.nil_append]
  · rw [hs _ _ (by simp; omega),if_neg (by omega),List.take_of_length_le (by omega),List.drop_of_length_le (by omega),List.append_nil]
theorem at_getD0 {l : List Int} {k : Nat} (h : k < l.length) : at_ l (k : Int) = some (l.getD k 0):=by
  rw [at_nat h,List.getD_eq_getElem?_getD,List.getElem?_eq_getElem h]; rfl
theorem set_same (l : List Int) (k : Nat) (hk : k < l.length) : l.set k (l.getD k 0) = l:=by
  rw [List.getD_eq_getElem?_getD,List.getElem?_eq_getElem hk]; simp
theorem lower_eq {n : ByteArray} (hn : n.size ≤ 1099511627776) : m_name_Lower n = some (lowB n):=by
  have hl:=size_bytes n
  rw [m_name_Lower]
  erw [low_loop (m_name_Lower_s2 n) hn (fun l k hlen=>?_)]
  · rfl
  rw [m_name_Lower_s2]
  by_cases hk : k < n.size
  · rw [if_pos (by omega),if_pos hk,at_getD0 (by omega),Option.bind_some,Option.bind_some,w64_id (by omega) (by omega)]
    by_cases h1 : 65 ≤ l.getD k 0
    · rw [if_pos h1]
      by_cases h2 : l.getD k 0 ≤ 90
      · rw [if_pos h2,Option.bind_some,Option.bind_some,or_low ⟨h1,h2⟩,setAt,if_pos ⟨by omega,by omega⟩,Option.bind_some,low,if_pos ⟨h1,h2⟩]; rfl
      · rw [if_neg h2,low,if_neg (fun h=>h2 h.2),set_same l k (by omega)]; rfl
    · rw [if_neg h1,low,if_neg (fun h=>h1 h.1),set_same l k (by omega)]; rfl
  · rw [if_neg (by omega),if_neg hk]
theorem low_small {c : Int} (h : c ≤ 63) : low c = c:=by unfold low; rw [if_neg (by omega)]
theorem low_zero {c : Int} : low c = 0↔c = 0:=by unfold low; split <;> omega
theorem low_big {c : Int} : 63 < low c↔63 < c:=by unfold low; split <;> omega
theorem byteAt_low (n : ByteArray) (a : Nat) : byteAt (lowB n) a = low (byteAt n a):=by
  by_cases h : a < n.size
  · rw [← bytesI_get n a h,← bytesI_get (lowB n) a (by rw [lowB_size]; exact h)]
    simp only [lowB_bytes,List.getElem_map]
  · unfold byteAt
    rw [dif_neg (by rw [lowB_size]; simp; omega),dif_neg (by simp; omega)]; rfl
theorem extract_low (n : ByteArray) (i j : Nat) : (lowB n).extract i j = lowB (n.extract i j):=bytesI_inj (by
  rw [bytesI_extract,lowB_bytes,lowB_bytes,bytesI_extract,List.map_drop,List.map_take])
theorem eachAt_low (n : ByteArray) : ∀ (f a : Nat),eachAt (lowB n) f a = ((eachAt n f a).1.map (fun x=>(x.1,lowB x.2)),(eachAt n f a).2):=by
  intro f
  induction f with
  | zero=>intro a; rfl
  | succ f ih=>
    intro a
    rw [eachAt,eachAt,lowB_size,byteAt_low]
    by_cases h1 : a < n.size∧byteAt n a ≠ 0
    · rw [if_pos h1,if_pos ⟨h1.1,fun h=>h1.2 (low_zero.1 h)⟩]
      by_cases h2 : 63 < byteAt n a
      · rw [if_pos (.inl (low_big.2 h2)),if_pos (.inl h2)]; rfl
      · rw [low_small (by omega)]
        by_cases h3 : 63 < byteAt n a ∨ n.size < a + 1 + (byteAt n a).toNat
        · rw [if_pos h3,if_pos h3]; rfl
        · rw [if_neg h3,if_neg h3,ih,extract_low]; rfl
    · rw [if_neg h1,if_neg (fun h=>h1 ⟨h.1,fun h'=>h.2 (low_zero.2 h')⟩)]; rfl
theorem encB_low {ls : List ByteArray} (h : okLs ls) : encB (ls.map lowB) = (encB ls).map low:=by
  induction ls with
  | nil=>rfl
  | cons s ls ih=>
    have:=okLs_cons.1 h
    rw [List.map_cons,encB_cons,encB_cons,ih this.2,lowB_size,lowB_bytes,List.map_append,List.map_cons,low_small (by omega)]
theorem okLs_low {ls : List ByteArray} (h : okLs ls) : okLs (ls.map lowB):=by
  intro s hs
  obtain ⟨t,ht,rfl⟩:=List.mem_map.1 hs
  rw [lowB_size]; exact h t ht
theorem nm_low {n : ByteArray} {ls : List ByteArray} (h : Nm n ls) : Nm (lowB n) (ls.map lowB):=⟨okLs_low h.1,by
  rw [lowB_bytes,h.2,List.map_append,encB_low h.1]; rfl⟩
theorem nm_iff (n : ByteArray) : (∃ ls,Nm n ls)↔(eachP n).2 = (n.size : Int) - 1∧0 ≤ (eachP n).2:=by
  constructor
  · rintro ⟨ls,h⟩
    have:=nm_size h
    rw [each_nm h]; exact ⟨rfl,by simp only; omega⟩
  · intro h
    by_cases hc : ∃ ls,Nm n ls
    · exact hc
    · rcases each_no hc with h1 | h1
      · exact absurd h.1 h1
      · omega
theorem nm_low_no {n : ByteArray} (h : ¬ ∃ ls,Nm n ls) : ¬ ∃ ls,Nm (lowB n) ls:=by
  rw [nm_iff] at h ⊢
  rw [eachP,lowB_size,eachAt_low]
  exact h
/-- In place the other way round. -/
theorem rev_loop (l : List ByteArray) (hl : l.length ≤ 1099511627776) : m_slices_Reverse_122 l = some l.reverse:=by
  obtain ⟨r,h1,rfl⟩:=loop_rule (step:=fun s : List ByteArray×Int×Int=>m_slices_Reverse_122_s2 s.1 s.2.1 s.2.2)
    (fun s=>∃ i j : Nat,s.2.1 = (i : Int)∧s.2.2 = (j : Int) - 1∧i + j = l.length∧s.1.length = l.length∧i ≤ j + 1∧∀ t,t < l.length→s.1[t]? = if t < i ∨ j ≤ t then l[l.length - 1 - t]? else l[t]?)
    (fun s=>(s.2.2 + 1 - s.2.1).toNat + 1) (fun r=>r = l.reverse)
    (by
      rintro ⟨q,i',j'⟩ ⟨i,j,g1,g2,g3,g4,g5,g6⟩
      simp only at g1 g2 g4 g6
      subst g1 g2
      simp only
      rw [m_slices_Reverse_122_s2]
      by_cases hc : i + 1 < j
      · left
        have hj : (j : Int) - 1 = ((j - 1 : Nat) : Int):=by omega
        rw [if_pos (by omega),hj,at_nat (by omega),Option.bind_some,at_nat (by omega),Option.bind_some,Option.bind_some,setAt,if_pos ⟨by omega,by omega⟩,Option.bind_some,at_nat (by rw [List.length_set]; omega),Option.bind_some,setAt,if_pos ⟨by omega,by rw [List.length_set]; omega⟩,Option.bind_some,w64_id (by omega) (by omega),w64_id (by omega) (by omega)]
        refine ⟨_,rfl,⟨i + 1,j - 1,by simp only; omega,rfl,by omega,by simp only [List.length_set]; omega,by omega,fun t ht=>?_⟩,by simp only; omega⟩
        have gi:=g6 i (by omega)
        have gj:=g6 (j - 1) (by omega)
        rw [if_neg (by omega)] at gi gj
        have ei : q[i]'(by omega) = l[i]'(by omega):=by
          have : some (q[i]'(by omega)) = some (l[i]'(by omega)):=by rw [← List.getElem?_eq_getElem,← List.getElem?_eq_getElem]; exact gi
          injection this
        have ej : q[j - 1]'(by omega) = l[j - 1]'(by omega):=by
          have : some (q[j - 1]'(by omega)) = some (l[j - 1]'(by omega)):=by rw [← List.getElem?_eq_getElem,← List.getElem?_eq_getElem]; exact gj
          injection this
        simp only [Int.toNat_natCast,List.getElem?_set,List.length_set]
        by_cases t1 : j - 1 = t
        · subst t1
          rw [if_pos rfl,if_pos (by omega),if_pos (by omega),show l.length - 1 - (j - 1) = i by omega,List.getElem?_eq_getElem (by omega),ei]
        · rw [if_neg t1]
          by_cases t2 : i = t
          · subst t2
            rw [if_pos rfl,if_pos (by omega),if_pos (by omega),show l.length - 1 - i = j - 1 by omega,List.getElem?_eq_getElem (by omega),ej]
          · rw [if_neg t2,g6 t ht]
            by_cases t3 : t < i ∨ j ≤ t
            · rw [if_pos t3,if_pos (by omega)]
            · rw [if_neg t3,if_neg (by omega)]
      · right
        refine ⟨q,by rw [if_neg (by omega)],?_⟩
        apply List.ext_getElem?
        intro t
        by_cases ht : t < l.length
        · rw [List.getElem?_reverse ht,g6 t ht]
          by_cases t3 : t < i ∨ j ≤ t
          · rw [if_pos t3]
          · rw [if_neg t3]; congr 1; omega
        · rw [List.getElem?_eq_none (by omega),List.getElem?_eq_none (by simp; omega)])
    (s0:=(l,0,(l.length : Int) - 1)) ⟨0,l.length,rfl,rfl,by omega,rfl,by omega,fun t ht=>by rw [if_neg (by omega)]⟩
  rw [m_slices_Reverse_122,w64_id (by omega) (by omega)]
  erw [h1]
  rfl
/-- A name's labels with small letters, the last one ahead. -/
def revL (ls : List ByteArray) : List ByteArray:=(ls.map lowB).reverse
theorem revL_len (ls : List ByteArray) : (revL ls).length = ls.length:=by simp [revL]
theorem nm_few {n : ByteArray} {ls : List ByteArray} (h : Nm n ls) (hs : n.size ≤ 255) : ls.length ≤ 254:=by
  have:=len_enc ls; have:=nm_size h; omega
theorem two_nm {a b : ByteArray} {x y : List ByteArray} (h : Nm a x) (hs : a.size ≤ 255) (h' : Nm b y) (hs' : b.size ≤ 255) : m_name_two a b = some (revL x,revL y,true):=by
  have:=nm_few h hs
  have:=nm_few h' hs'
  rw [m_name_two,lower_eq (by omega),Option.bind_some,labels_nm (nm_low h) (by rw [lowB_size]; exact hs),Option.bind_some,lower_eq (by omega),Option.bind_some,labels_nm (nm_low h') (by rw [lowB_size]; exact hs'),Option.bind_some,rev_loop _ (by simp; omega),Option.bind_some,rev_loop _ (by simp; omega),Option.bind_some,if_pos rfl]
  rfl
/-- It is a name of 255 bytes at most. -/
def isNm (n : ByteArray) : Prop:=∃ ls,Nm n ls∧n.size ≤ 255
theorem low_labels_no {a : ByteArray} (h : ¬ isNm a) (hb : a.size ≤ 1099511627776) : ∃ e,m_name_Labels (lowB a) = some ([],e)∧e ≠ 0:=by
  rcases nm_cases a with h1 | ⟨ls,h1,h2⟩ | h1
  · exact absurd h1 h
  · exact ⟨11,labels_big (nm_low h1) (by rw [lowB_size]; exact h2) (by rw [lowB_size]; exact hb),by omega⟩
  · exact ⟨10,labels_no (nm_low_no h1) (by rw [lowB_size]; exact hb),by omega⟩
theorem low_labels_any {a : ByteArray} (hb : a.size ≤ 1099511627776) : ∃ x e,m_name_Labels (lowB a) = some (x,e)∧x.length ≤ 1099511627776:=by
  by_cases h : isNm a
  · obtain ⟨ls,h1,h2⟩:=h
    have:=nm_few h1 h2
    exact ⟨_,0,labels_nm (nm_low h1) (by rw [lowB_size]; exact h2),by simp; omega⟩
  · obtain ⟨e,h1,_⟩:=low_labels_no h hb
    exact ⟨[],e,h1,by simp⟩
theorem two_no {a b : ByteArray} (h : ¬ (isNm a∧isNm b)) (ha : a.size ≤ 1099511627776) (hb : b.size ≤ 1099511627776) : ∃ x y,m_name_two a b = some (x,y,false):=by
  obtain ⟨x,e,h1,h2⟩:=low_labels_any ha
  obtain ⟨y,f,h3,h4⟩:=low_labels_any hb
  refine ⟨x.reverse,y.reverse,?_⟩
  rw [m_name_two,lower_eq ha,Option.bind_some,h1,Option.bind_some,lower_eq hb,Option.bind_some,h3,Option.bind_some,rev_loop _ h2,Option.bind_some,rev_loop _ h4,Option.bind_some]
  by_cases he : e = 0
  · rw [if_pos he]
    have hf : f ≠ 0:=by
      intro hf
      by_cases c1 : isNm a
      · obtain ⟨f',h5,h6⟩:=low_labels_no (fun hb'=>h ⟨c1,hb'⟩) hb
        rw [h3] at h5
        injection h5 with h5
        injection h5 with _ h5
        exact h6 (h5.symm.trans hf)
      · obtain ⟨f',h5,h6⟩:=low_labels_no c1 ha
        rw [h1] at h5
        injection h5 with h5
        injection h5 with _ h5
        exact h6 (h5.symm.trans he)
    rw [decide_eq_false hf]
  · rw [if_neg he]
/-- How many are alike ahead. -/
def cpl : List ByteArray→List ByteArray→Nat
  | x::xs,y::ys=>if x = y then cpl xs ys + 1 else 0
  | _,_=>0
theorem cpl_le : ∀ (x y : List ByteArray),cpl x y ≤ x.length∧cpl x y ≤ y.length
  | [],y=>by simp [cpl]
  | x::xs,[]=>by simp [cpl]
  | x::xs,y::ys=>by
    have:=cpl_le xs ys
    rw [cpl]; split <;> simp <;> omega
theorem cpl_lt : ∀ (x y : List ByteArray) (k : Nat),k < cpl x y→x[k]? = y[k]?∧k < x.length∧k < y.length
  | [],y,k,h=>by simp [cpl] at h
  | x::xs,[],k,h=>by simp [cpl] at h
  | x::xs,y::ys,k,h=>by
    rw [cpl] at h
    split at h
    · rename_i hxy
      cases k with
      | zero=>subst hxy; simp
      | succ k=>
        have:=cpl_lt xs ys k (by omega)
        simpa using this
    · omega
theorem cpl_end : ∀ (x y : List ByteArray),cpl x y < x.length→cpl x y < y.length→x[cpl x y]? ≠ y[cpl x y]?
  | [],y,h,_=>by simp at h
  | x::xs,[],_,h=>by simp at h
  | x::xs,y::ys,h1,h2=>by
    rw [cpl] at h1 h2 ⊢
    split
    · rename_i hxy
      rw [if_pos hxy] at h1 h2
      have:=cpl_end xs ys (by simpa using h1) (by simpa using h2)
      simpa using this
    · rename_i hxy
      simpa using hxy
theorem shared_nm {a b : ByteArray} {x y : List ByteArray} (h : Nm a x) (hs : a.size ≤ 255) (h' : Nm b y) (hs' : b.size ≤ 255) : m_name_Shared a b = some (cpl (revL x) (revL y) : Int):=by
  have f1:=nm_few h hs
  have f2:=nm_few h' hs'
  have g1:=revL_len x
  have g2:=revL_len y
  have hle:=cpl_le (revL x) (revL y)
  have:=loop_run (step:=fun s=>m_name_Shared_s2 (revL x) (revL y) s) (cpl (revL x) (revL y)) (fun k=>(k : Int)) ((cpl (revL x) (revL y) : Nat) : Int) (s0:=0) rfl
    (fun k hk=>by
      obtain ⟨e1,e2,e3⟩:=cpl_lt _ _ k hk
      rw [List.getElem?_eq_getElem e2,List.getElem?_eq_getElem e3] at e1
      injection e1 with e1
      simp only [m_name_Shared_s2,m_name_Shared_c1]
      rw [if_pos (by omega),if_pos (by omega),at_nat e2,Option.bind_some,at_nat e3,Option.bind_some,Option.bind_some,if_pos (decide_eq_true e1),w64_id (by omega) (by omega)]
      rfl)
    (by
      simp only [m_name_Shared_s2,m_name_Shared_c1]
      by_cases c1 : cpl (revL x) (revL y) < (revL x).length
      · rw [if_pos (by omega)]
        by_cases c2 : cpl (revL x) (revL y) < (revL y).length
        · have hne:=cpl_end _ _ c1 c2
          rw [List.getElem?_eq_getElem c1,List.getElem?_eq_getElem c2] at hne
          rw [if_pos (by omega),at_nat c1,Option.bind_some,at_nat c2,Option.bind_some,Option.bind_some,if_neg]
          intro hd
          exact hne (congrArg some (of_decide_eq_true hd))
        · rw [if_neg (by omega)]; rfl
      · rw [if_neg (by omega)]; rfl)
  rw [m_name_Shared,two_nm h hs h' hs',Option.bind_some,if_pos rfl]
  erw [this]
  rfl
theorem shared_no {a b : ByteArray} (h : ¬ (isNm a∧isNm b)) (ha : a.size ≤ 1099511627776) (hb : b.size ≤ 1099511627776) : m_name_Shared a b = some (-1):=by
  obtain ⟨x,y,h1⟩:=two_no h ha hb
  rw [m_name_Shared,h1]; rfl
theorem depth_not {n : ByteArray} (h : ¬ isNm n) (hb : n.size ≤ 1099511627776) : m_name_Depth n = some (-1):=by
  rcases nm_cases n with h1 | ⟨ls,h1,h2⟩ | h1
  · exact absurd h1 h
  · exact depth_big h1 h2 hb
  · exact depth_no h1 hb
theorem under_nm {a b : ByteArray} {x y : List ByteArray} (h : Nm a x) (hs : a.size ≤ 255) (h' : Nm b y) (hs' : b.size ≤ 255) : m_name_Under a b = some (decide (cpl (revL x) (revL y) = y.length)):=by
  rw [m_name_Under,depth_nm h' hs',Option.bind_some,if_pos (by omega),shared_nm h hs h' hs',Option.bind_some]
  congr 1
  exact decide_eq_decide.2 (by omega)
theorem under_no {a b : ByteArray} (h : ¬ (isNm a∧isNm b)) (ha : a.size ≤ 1099511627776) (hb : b.size ≤ 1099511627776) : m_name_Under a b = some false:=by
  by_cases c : isNm b
  · obtain ⟨y,h1,h2⟩:=c
    rw [m_name_Under,depth_nm h1 h2,Option.bind_some,if_pos (by omega),shared_no h ha hb,Option.bind_some,decide_eq_false (by omega)]
  · rw [m_name_Under,depth_not c hb,Option.bind_some,if_neg (by omega)]
open Go.RowKit
theorem rdepth_nm {n : ByteArray} {ls : List ByteArray} (h : Nm n ls) (hs : n.size ≤ 255) : m_ref03_Depth n = some (ls.length : Int):=by
  rw [m_ref03_Depth,rlabels_nm h hs,Option.bind_some,if_neg (fun h=>h rfl)]
open Go.RowKit
theorem rlower_eq {n : ByteArray} (hn : n.size ≤ 1099511627776) : m_ref03_Lower n = some (lowB n):=by
  have hl:=size_bytes n
  rw [m_ref03_Lower]
  erw [low_loop (m_ref03_Lower_s2 n) hn (fun l k hlen=>?_)]
  · rfl
  rw [m_ref03_Lower_s2]
  by_cases hk : k < n.size
  · rw [if_pos (by omega),if_pos hk,at_getD0 (by omega),Option.bind_some,Option.bind_some,w64_id (by omega) (by omega)]
    by_cases h1 : 65 ≤ l.getD k 0
    · rw [if_pos h1]
      by_cases h2 : l.getD k 0 ≤ 90
      · rw [if_pos h2,Option.bind_some,Option.bind_some,wrapu8 (by omega) (by omega),setAt,if_pos ⟨by omega,by omega⟩,Option.bind_some,low,if_pos ⟨h1,h2⟩]; rfl
      · rw [if_neg h2,low,if_neg (fun h=>h2 h.2),set_same l k (by omega)]; rfl
    · rw [if_neg h1,low,if_neg (fun h=>h1 h.1),set_same l k (by omega)]; rfl
  · rw [if_neg (by omega),if_neg hk]
theorem revL_get {ls : List ByteArray} {k : Nat} (h : k < ls.length) : (revL ls)[k]? = some (lowB (ls[ls.length - 1 - k]'(by omega))):=by
  rw [revL,List.getElem?_reverse (by simpa using h),List.length_map,List.getElem?_map,List.getElem?_eq_getElem (by omega)]; rfl
theorem nm_lab {n : ByteArray} {ls : List ByteArray} (h : Nm n ls) : ∀ s ∈ ls,s.size ≤ 63:=fun s hs=>(h.1 s hs).2
theorem rshared_nm {a b : ByteArray} {x y : List ByteArray} (h : Nm a x) (hs : a.size ≤ 255) (h' : Nm b y) (hs' : b.size ≤ 255) : m_ref03_Shared a b = some (cpl (revL x) (revL y) : Int):=by
  have f1:=nm_few h hs
  have f2:=nm_few h' hs'
  have g1:=revL_len x
  have g2:=revL_len y
  have hle:=cpl_le (revL x) (revL y)
  have hgo : ∀ (k : Nat) (c1 : k < x.length) (c2 : k < y.length),m_ref03_Shared_s2 x y (k : Int) = if (revL x)[k]? = (revL y)[k]? then some (.inl ((k + 1 : Nat) : Int)) else some (.inr (k : Int)):=by
    intro k c1 c2
    have e1 : x[x.length - 1 - k].size ≤ 63:=nm_lab h _ (List.getElem_mem _)
    have e2 : y[y.length - 1 - k].size ≤ 63:=nm_lab h' _ (List.getElem_mem _)
    rw [m_ref03_Shared_s2,if_pos (by omega),if_pos (by omega),w64_id (x:=(x.length : Int) - 1) (by omega) (by omega),w64_id (x:=(y.length : Int) - 1) (by omega) (by omega),w64_id (x:=(x.length : Int) - 1 - k) (by omega) (by omega),w64_id (x:=(y.length : Int) - 1 - k) (by omega) (by omega),w64_id (by omega) (by omega),
      show (x.length : Int) - 1 - k = ((x.length - 1 - k : Nat) : Int) by omega,show (y.length : Int) - 1 - k = ((y.length - 1 - k : Nat) : Int) by omega,at_nat (by omega),Option.bind_some,at_nat (by omega),Option.bind_some,rlower_eq (by omega),Option.bind_some,rlower_eq (by omega),Option.bind_some,revL_get c1,revL_get c2]
    by_cases hc : lowB x[x.length - 1 - k] = lowB y[y.length - 1 - k]
    · rw [if_pos hc,if_pos (by rw [hc])]; rfl
    · rw [if_neg hc,if_neg (fun h=>hc (Option.some.inj h))]
  have:=loop_run (step:=fun s=>m_ref03_Shared_s2 x y s) (cpl (revL x) (revL y)) (fun k=>(k : Int)) ((cpl (revL x) (revL y) : Nat) : Int) (s0:=0) rfl
    (fun k hk=>by
      obtain ⟨e1,e2,e3⟩:=cpl_lt _ _ k hk
      rw [hgo k (by omega) (by omega),if_pos e1])
    (by
      by_cases c : cpl (revL x) (revL y) < x.length∧cpl (revL x) (revL y) < y.length
      · rw [hgo _ c.1 c.2,if_neg (cpl_end _ _ (by omega) (by omega))]
      · rw [m_ref03_Shared_s2]
        by_cases c1 : cpl (revL x) (revL y) < x.length
        · rw [if_pos (by omega),if_neg (by omega)]
        · rw [if_neg (by omega)])
  rw [m_ref03_Shared,rlabels_nm h hs,Option.bind_some,rlabels_nm h' hs',Option.bind_some,if_neg (fun h=>h rfl),if_neg (fun h=>h rfl)]
  erw [this]
  rfl
theorem rlabels_not {n : ByteArray} (h : ¬ isNm n) (hb : n.size ≤ 1099511627776) : ∃ e,m_ref03_Labels n = some ([],e)∧e ≠ 0:=by
  rcases nm_cases n with h1 | ⟨ls,h1,h2⟩ | h1
  · exact absurd h1 h
  · exact ⟨11,rlabels_big h1 h2 hb,by omega⟩
  · exact ⟨10,rlabels_no h1 hb,by omega⟩
theorem rshared_no {a b : ByteArray} (h : ¬ (isNm a∧isNm b)) (ha : a.size ≤ 1099511627776) (hb : b.size ≤ 1099511627776) : m_ref03_Shared a b = some (-1):=by
  by_cases c : isNm a
  · obtain ⟨e,e1,e2⟩:=rlabels_not (fun hb'=>h ⟨c,hb'⟩) hb
    obtain ⟨x,x1,x2⟩:=c
    rw [m_ref03_Shared,rlabels_nm x1 x2,Option.bind_some,e1,Option.bind_some,if_neg (fun h=>h rfl),if_pos e2]
  · obtain ⟨e,e1,e2⟩:=rlabels_not c ha
    by_cases c2 : isNm b
    · obtain ⟨y,y1,y2⟩:=c2
      rw [m_ref03_Shared,e1,Option.bind_some,rlabels_nm y1 y2,Option.bind_some,if_pos e2]
    · obtain ⟨f,f1,f2⟩:=rlabels_not c2 hb
      rw [m_ref03_Shared,e1,Option.bind_some,f1,Option.bind_some,if_pos e2]
theorem check_not {n : ByteArray} (h : ¬ isNm n) (hb : n.size ≤ 1099511627776) : ∃ e,m_name_Check n = some e∧e ≠ 0:=by
  rcases nm_cases n with h1 | ⟨ls,h1,h2⟩ | h1
  · exact absurd h1 h
  · exact ⟨11,check_big h1 h2 hb,by omega⟩
  · exact ⟨10,check_no h1 hb,by omega⟩
theorem runder_nm {a b : ByteArray} {x y : List ByteArray} (h : Nm a x) (hs : a.size ≤ 255) (h' : Nm b y) (hs' : b.size ≤ 255) : m_ref03_Under a b = some (decide (cpl (revL x) (revL y) = y.length)):=by
  rw [m_ref03_Under,rshared_nm h hs h' hs',Option.bind_some,if_pos (by omega),rdepth_nm h' hs',Option.bind_some]
  exact congrArg some (decide_eq_decide.2 (by omega))
theorem runder_no {a b : ByteArray} (h : ¬ (isNm a∧isNm b)) (ha : a.size ≤ 1099511627776) (hb : b.size ≤ 1099511627776) : m_ref03_Under a b = some false:=by
  rw [m_ref03_Under,rshared_no h ha hb]; rfl
open Go.RowKit
open Go.RowKit
open Go.RowKit
open Go.RowKit
theorem put_eq {l fb : List Int} {pl : List (ByteArray×Int)} (h : fb.length + l.length ≤ 1099511627776) : m_pack_Packer_put l ⟨fb,pl⟩ = some ⟨fb++l,pl⟩:=by
  rw [m_pack_Packer_put,app_of (by simp only; omega)]; rfl
open Go.RowKit
open Go.RowKit
def bn (v : Int) (k : Nat) : Int:=v / 2 ^ (8 * k) % 256
theorem bn_range (v : Int) (k : Nat) : 0 ≤ bn v k∧bn v k ≤ 255:=by unfold bn; omega
theorem number_step {v : Int} {k : Nat} {s : ByteArray} (hk : k ≤ 7) (hs : s.size ≤ 1099511627776) : m_ref04_Packer_Number_s2 v (k : Int) s = some (.inl ((k : Int) - 1,s++strOfNums [bn v k])):=by
  have hz : (strOfNums [bn v k]).size = 1:=by rw [size_bytes,bytesI_str (by intro x hx; simp only [List.mem_singleton] at hx; subst hx; exact bn_range v k)]; rfl
  rw [m_ref04_Packer_Number_s2,if_pos (by omega),w64_id (x:=8 * (k : Int)) (by omega) (by omega),wrapu64 (by omega) (by omega),shOk,if_pos (by omega),Option.bind_some,w64_id (by omega) (by omega)]
  have e : IntKind.u8.wrap (shrI .i64 v (8 * (k : Int))) = bn v k:=by
    rw [wu8_eq,shrI,bn,show (8 * (k : Int)).toNat = 8 * k by omega,show IntKind.i64.bits = 64 from rfl,Nat.min_eq_left (by omega)]
  rw [e,sadd_of (by omega)]; rfl
theorem number_end {v : Int} {s : ByteArray} : m_ref04_Packer_Number_s2 v (-1) s = some (.inr s):=by
  rw [m_ref04_Packer_Number_s2,if_neg (by omega)]
theorem str1_size (v : Int) (k : Nat) : (strOfNums [bn v k]).size = 1:=by
  rw [size_bytes,bytesI_str (by intro x hx; simp only [List.mem_singleton] at hx; subst hx; exact bn_range v k)]; rfl
theorem str1_bytes (v : Int) (k : Nat) : bytesI (strOfNums [bn v k]) = [bn v k]:=bytesI_str (by intro x hx; simp only [List.mem_singleton] at hx; subst hx; exact bn_range v k)
theorem number_n {v : Int} (o : Gref04_Packer) : ∀ (k : Nat) (s : ByteArray),k ≤ 8→s.size ≤ 1099511627000 + (8 - k)→
    ∃ t,loop (fun s=>m_ref04_Packer_Number_s2 v s.1 s.2) ((k : Int) - 1,s) = some t∧bytesI t = bytesI s++((List.range k).reverse.map (bn v)):=by
  intro k
  induction k with
  | zero=>intro s _ _; exact ⟨s,loop_inr number_end,by simp⟩
  | succ k ih=>
    intro s h1 h2
    obtain ⟨t,h3,h4⟩:=ih (s++strOfNums [bn v k]) (by omega) (by rw [ByteArray.size_append,str1_size]; omega)
    refine ⟨t,?_,?_⟩
    · rw [show ((k + 1 : Nat) : Int) - 1 = k by omega,loop_inl (by simp only; exact number_step (by omega) (by omega))]
      exact h3
    · rw [h4,bytesI_append,str1_bytes,List.range_succ,List.reverse_append,List.map_append,List.append_assoc]; rfl
theorem rnum_eq {v : Int} {o : Gref04_Packer} (k : Nat) (hk : k ≤ 4) (ho : o.fB.size ≤ 1099511627000) : ∃ t,m_ref04_Packer_Number v k o = some ⟨t,o.fL⟩∧bytesI t = bytesI o.fB++((List.range k).reverse.map (bn v)):=by
  obtain ⟨t,h1,h2⟩:=number_n (v:=v) o k o.fB (by omega) (by omega)
  refine ⟨t,?_,h2⟩
  rw [m_ref04_Packer_Number,w64_id (by omega) (by omega)]
  erw [h1]
  rfl
theorem bn0 (v : Int) : bn v 0 = v % 256:=by simp [bn]
theorem rnum1 {v : Int} {o : Gref04_Packer} (ho : o.fB.size ≤ 1099511627000) : ∃ t,m_ref04_Packer_Number v 1 o = some ⟨t,o.fL⟩∧bytesI t = bytesI o.fB++[v % 256]:=by
  have:=rnum_eq (v:=v) (o:=o) 1 (by omega) ho
  rwa [show (List.range 1).reverse.map (bn v) = [v % 256] by rw [← bn0]; rfl] at this
open Go.RowKit
/-- The labels of a name. -/
noncomputable def labU (n : ByteArray) : List ByteArray:=(Classical.epsilon fun ls=>Nm n ls)
theorem labU_eq {n : ByteArray} {ls : List ByteArray} (h : Nm n ls) : labU n = ls:=nm_inj (Classical.epsilon_spec (p:=fun ls=>Nm n ls) ⟨ls,h⟩) h
/-- a is under b. -/
noncomputable def undP (a b : ByteArray) : Bool:=@decide (isNm a∧isNm b∧revL (labU b) <+: revL (labU a)) (Classical.propDecidable _)
theorem cpl_pfx : ∀ X Y : List ByteArray,cpl X Y = Y.length↔Y <+: X
  | [],[]=>by simp [cpl]
  | [],_::_=>by simp [cpl]
  | _::_,[]=>by simp [cpl]
  | x::X,y::Y=>by
    rw [cpl,List.cons_prefix_cons,← cpl_pfx X Y]
    by_cases h : x = y
    · subst h; simp
    · rw [if_neg h]; simp [Ne.symm h]
theorem undP_t {a b : ByteArray} : undP a b = true↔isNm a∧isNm b∧revL (labU b) <+: revL (labU a):=by unfold undP; exact @decide_eq_true_iff _ (Classical.propDecidable _)
theorem undP_nm {a b : ByteArray} {x y : List ByteArray} (h : Nm a x) (hs : a.size ≤ 255) (h' : Nm b y) (hs' : b.size ≤ 255) : undP a b = decide (cpl (revL x) (revL y) = y.length):=by
  have hc:=cpl_pfx (revL x) (revL y)
  rw [revL_len] at hc
  have e : undP a b = true↔cpl (revL x) (revL y) = y.length:=by
    rw [undP_t,labU_eq h,labU_eq h',← hc]
    exact ⟨fun g=>g.2.2,fun g=>⟨⟨x,h,hs⟩,⟨y,h',hs'⟩,g⟩⟩
  cases hu : undP a b with
  | true=>exact (decide_eq_true (e.1 hu)).symm
  | false=>exact (decide_eq_false fun g=>by rw [e.2 g] at hu; cases hu).symm
theorem undP_no {a b : ByteArray} (h : ¬ (isNm a∧isNm b)) : undP a b = false:=by
  cases hu : undP a b with
  | false=>rfl
  | true=>exact absurd ⟨(undP_t.1 hu).1,(undP_t.1 hu).2.1⟩ h
theorem und_code {a b : ByteArray} (ha : a.size ≤ 1099511627776) (hb : b.size ≤ 1099511627776) : m_name_Under a b = some (undP a b):=by
  by_cases h : isNm a∧isNm b
  · obtain ⟨⟨x,x1,x2⟩,⟨y,y1,y2⟩⟩:=h
    rw [under_nm x1 x2 y1 y2,undP_nm x1 x2 y1 y2]
  · rw [under_no h ha hb,undP_no h]
theorem rund_code {a b : ByteArray} (ha : a.size ≤ 1099511627776) (hb : b.size ≤ 1099511627776) : m_ref03_Under a b = some (undP a b):=by
  by_cases h : isNm a∧isNm b
  · obtain ⟨⟨x,x1,x2⟩,⟨y,y1,y2⟩⟩:=h
    rw [runder_nm x1 x2 y1 y2,undP_nm x1 x2 y1 y2]
  · rw [runder_no h ha hb,undP_no h]
open Go.RowKit
/-! ### Loops that look at each thing -/
open Classical in
theorem chk_loop {step : Int→Option (Int ⊕ (Unit ⊕ Bool))} (n : Nat) (good : Nat→Prop) (hs : ∀ k,k < n→step (k : Int) = if good k then some (.inl ((k + 1 : Nat) : Int)) else some (.inr (.inr false))) (he : step (n : Int) = some (.inr (.inl ()))) :
    loop step 0 = some (if ∀ k,k < n→good k then .inl () else .inr false):=by
  by_cases g : ∀ k,k < n→good k
  · rw [if_pos g]
    exact loop_run n (fun k=>(k : Int)) _ rfl (fun k hk=>by rw [hs k hk,if_pos (g k hk)]) he
  · rw [if_neg g]
    obtain ⟨m,hm,hmg,hmo⟩:=first_not g
    exact loop_run m (fun k=>(k : Int)) _ rfl (fun k hk=>by rw [hs k (by omega),if_pos (hmo k hk)]) (by rw [hs m hm,if_neg hmg])
/-! ### Rings -/
def ringG (l : List Int) (k : Nat) : Prop:=(0 ≤ l.getD k 0∧l.getD k 0 < 64)∧(0 < k→l.getD (k - 1) 0 < l.getD k 0)
theorem node_cd (x : Int) : m_conf_node x = some (decide (0 ≤ x∧x < 64)):=by
  unfold m_conf_node
  split
  · rename_i h; congr 1; rw [decide_eq_decide]; exact ⟨fun g=>⟨h,g⟩,fun g=>g.2⟩
  · rename_i h; rw [decide_eq_false (fun g=>h g.1)]
theorem at_gd {α : Type} {l : List α} {k : Nat} (d : α) (h : k < l.length) : at_ l (k : Int) = some (l.getD k d):=by
  rw [at_nat h,List.getD_eq_getElem?_getD,List.getElem?_eq_getElem h]; rfl
theorem w64_succ {k : Nat} (h : k ≤ 1000000) : w64 ((k : Int) + 1) = ((k + 1 : Nat) : Int):=by rw [w64_id (by omega) (by omega)]; omega
theorem w64_pred {k : Nat} (h : k ≤ 1000000) (h0 : 0 < k) : w64 ((k : Int) - 1) = ((k - 1 : Nat) : Int):=by rw [w64_id (by omega) (by omega)]; omega
open Classical in
theorem ring_loop (l : List Int) (hl : l.length ≤ 1000) : loop (fun s=>m_conf_all_45_s2 l s) 0 = some (if ∀ k,k < l.length→ringG l k then .inl () else .inr false):=by
  refine chk_loop l.length (ringG l) (fun k hk=>?_) (by unfold m_conf_all_45_s2; rw [if_neg (by omega)])
  unfold m_conf_all_45_s2 ringG
  rw [if_pos (by omega),at_gd 0 hk,Option.bind_some,node_cd,Option.bind_some,w64_succ (by omega)]
  by_cases c : 0 ≤ l.getD k 0∧l.getD k 0 < 64
  · rw [if_pos (decide_eq_true c)]
    by_cases k0 : 0 < k
    · rw [if_pos (by omega),w64_pred (by omega) k0,at_gd 0 (by omega),Option.bind_some,m_conf_Right_c1,m_conf_Right_c1,Option.bind_some,Option.bind_some]
      by_cases d : l.getD k 0 ≤ l.getD (k - 1) 0
      · rw [if_pos d,if_neg (fun g=>by have:=g.2 k0; omega)]
      · rw [if_neg d,if_pos ⟨c,fun _=>by omega⟩]
    · rw [if_neg (by omega),if_pos ⟨c,fun g=>absurd g k0⟩]
  · rw [if_neg (by simpa using c),if_neg (fun g=>c g.1)]
theorem rnode_cd (x : Int) : m_ref13_node x = some (decide (0 ≤ x∧x < 64)):=by
  unfold m_ref13_node
  split
  · rename_i h; congr 1; rw [decide_eq_decide]; exact ⟨fun g=>⟨h,by omega⟩,fun g=>by omega⟩
  · rename_i h; rw [decide_eq_false (fun g=>h g.1)]
open Classical in
theorem rring_loop (c : GConf) (hl : c.fRing.length ≤ 1000) : loop (fun s=>m_ref13_Right_s12 c s) 0 = some (if ∀ k,k < c.fRing.length→ringG c.fRing k then .inl () else .inr false):=by
  refine chk_loop c.fRing.length (ringG c.fRing) (fun k hk=>?_) (by unfold m_ref13_Right_s12; rw [if_neg (by omega)])
  unfold m_ref13_Right_s12 ringG
  rw [if_pos (by omega),at_gd 0 hk,Option.bind_some,rnode_cd,Option.bind_some,w64_succ (by omega)]
  by_cases d0 : 0 ≤ c.fRing.getD k 0∧c.fRing.getD k 0 < 64
  · rw [if_pos (decide_eq_true d0)]
    by_cases k0 : 0 < k
    · rw [if_pos (by omega),Option.bind_some,w64_pred (by omega) k0,at_gd 0 (by omega),Option.bind_some]
      by_cases d : c.fRing.getD k 0 ≤ c.fRing.getD (k - 1) 0
      · rw [if_pos d,if_neg (fun g=>by have:=g.2 k0; omega)]
      · rw [if_neg d,if_pos ⟨d0,fun _=>by omega⟩]
    · rw [if_neg (by omega),if_pos ⟨d0,fun g=>absurd g k0⟩]
  · rw [if_neg (by simpa using d0),if_neg (fun g=>d0 g.1)]
theorem ring_small {l : List Int} (h : ∀ k,k < l.length→ringG l k) : l.length ≤ 64:=by
  have hk : ∀ k,k < l.length→(k : Int) ≤ l.getD k 0:=by
    intro k
    induction k with
    | zero=>intro hk; exact (h 0 hk).1.1
    | succ k ih=>
      intro hk
      have h1:=ih (by omega)
      have h2:=(h (k + 1) hk).2 (by omega)
      have e : k + 1 - 1 = k:=by omega
      rw [e] at h2
      omega
  rcases Nat.lt_or_ge 64 l.length with g | g
  · have h1:=hk 64 g
    have h2:=(h 64 g).1.2
    omega
  · exact g
/-! ### Loops that look for one -/
theorem any_loop {step : Int→Option (Int ⊕ (Unit ⊕ Int))} (n : Nat) (bad : Nat→Prop) (hs : ∀ k,k < n→¬ bad k→step (k : Int) = some (.inl ((k + 1 : Nat) : Int))) (hb : ∀ k,k < n→bad k→step (k : Int) = some (.inr (.inr (k : Int)))) (he : step (n : Int) = some (.inr (.inl ()))) :
    ((∀ k,k < n→¬ bad k)∧loop step 0 = some (.inl ())) ∨ (¬ (∀ k,k < n→¬ bad k)∧∃ m : Nat,loop step 0 = some (.inr (m : Int))):=by
  by_cases g : ∀ k,k < n→¬ bad k
  · exact .inl ⟨g,loop_run n (fun k=>(k : Int)) _ rfl (fun k hk=>hs k hk (g k hk)) he⟩
  · obtain ⟨m,hm,hmg,hmo⟩:=first_not g
    exact .inr ⟨g,m,loop_run m (fun k=>(k : Int)) _ rfl (fun k hk=>hs k (by omega) (hmo k hk)) (hb m hm (Classical.not_not.1 hmg))⟩
def hintsG (l : List ByteArray) : Prop:=∀ k,k < l.length→(l.getD k ⟨#[]⟩).size = 4
open Classical in
theorem hints_any (l : List ByteArray) (hl : l.length ≤ 1000) : m_slices_ContainsFunc_47_2 l = some (!(decide (hintsG l))):=by
  have hA:=any_loop (step:=fun s=>m_slices_IndexFunc_97_2_s2 l s) l.length (fun k=>¬ (l.getD k ⟨#[]⟩).size = 4) (fun k hk hb=>by
    have hb:=Classical.not_not.1 hb
    unfold m_slices_IndexFunc_97_2_s2 m_conf_Right_c2 m_conf_hint
    rw [if_pos (by omega),at_gd ⟨#[]⟩ hk,Option.bind_some,Option.bind_some,Option.bind_some,decide_eq_true (by omega),if_neg (by simp),w64_succ (by omega)]) (fun k hk hb=>by
    unfold m_slices_IndexFunc_97_2_s2 m_conf_Right_c2 m_conf_hint
    rw [if_pos (by omega),at_gd ⟨#[]⟩ hk,Option.bind_some,Option.bind_some,Option.bind_some,decide_eq_false (by omega),if_pos (by rfl)]) (by unfold m_slices_IndexFunc_97_2_s2; rw [if_neg (by omega)])
  unfold m_slices_ContainsFunc_47_2 m_slices_IndexFunc_97_2
  rcases hA with ⟨g,e⟩ | ⟨g,m,e⟩
  · rw [e,decide_eq_true (show hintsG l from fun k hk=>Classical.not_not.1 (g k hk))]; rfl
  · rw [e,decide_eq_false (show ¬ hintsG l from fun q=>g fun k hk=>fun hc=>hc (q k hk))]
    show some (decide (0 ≤ (m : Int))) = some true
    rw [decide_eq_true (by omega)]
open Classical in
theorem rhints_loop (c : GConf) (hl : c.fHints.length ≤ 1000) : loop (fun s=>m_ref13_Right_s11 c s) 0 = some (if hintsG c.fHints then .inl () else .inr false):=by
  have h:=chk_loop (step:=fun s=>m_ref13_Right_s11 c s) c.fHints.length (fun k=>(c.fHints.getD k ⟨#[]⟩).size = 4) (fun k hk=>by
    unfold m_ref13_Right_s11
    rw [if_pos (by omega),at_gd ⟨#[]⟩ hk,Option.bind_some,w64_succ (by omega)]
    by_cases d : (c.fHints.getD k ⟨#[]⟩).size = 4
    · rw [if_neg (fun g=>g (by omega)),if_pos d]
    · rw [if_pos (by omega),if_neg d]) (by unfold m_ref13_Right_s11; rw [if_neg (by omega)])
  rw [h]
  by_cases q : hintsG c.fHints
  · have q' : ∀ k,k < c.fHints.length→(c.fHints.getD k ⟨#[]⟩).size = 4:=q
    rw [if_pos q,if_pos q']
  · have q' : ¬ ∀ k,k < c.fHints.length→(c.fHints.getD k ⟨#[]⟩).size = 4:=q
    rw [if_neg q,if_neg q']
open Go.RowKit
theorem gd_mem {α : Type} {l : List α} {k : Nat} (d : α) (h : k < l.length) : l.getD k d ∈ l:=by
  rw [List.getD_eq_getElem?_getD,List.getElem?_eq_getElem h]; exact List.getElem_mem h
open Classical in
theorem named_cd {n : ByteArray} (hn : n.size ≤ 1099511627776) : m_conf_named n = some (decide (isNm n)):=by
  unfold m_conf_named
  by_cases h : isNm n
  · obtain ⟨ls,l1,l2⟩:=id h
    rw [check_nm l1 l2,decide_eq_true h]; rfl
  · obtain ⟨e,e1,e2⟩:=check_not h hn
    rw [e1,Option.bind_some,decide_eq_false h,decide_eq_false e2]
open Classical in
theorem rnamed_cd {n : ByteArray} (hn : n.size ≤ 1099511627776) : m_ref13_name n = some (decide (isNm n)):=by
  unfold m_ref13_name
  rcases nm_cases n with ⟨ls,h1,h2⟩ | ⟨ls,h1,h2⟩ | h1
  · rw [rcheck_nm h1 h2,decide_eq_true (show isNm n from ⟨ls,h1,h2⟩)]; rfl
  · rw [rcheck_big h1 h2 hn,decide_eq_false (fun g : isNm n=>by obtain ⟨_,-,q⟩:=g; omega)]; rfl
  · rw [rcheck_no h1 hn,decide_eq_false (fun g : isNm n=>h1 (by obtain ⟨q,q1,-⟩:=g; exact ⟨q,q1⟩))]; rfl
def ordB (a b : ByteArray) : Bool:=sless a b || decide (a = b)
def zeroAn : GAnchor:=⟨⟨#[]⟩,⟨#[]⟩⟩
def anchG (l : List GAnchor) (k : Nat) : Prop:=isNm (l.getD k zeroAn).fName∧1 ≤ (l.getD k zeroAn).fText.size∧(l.getD k zeroAn).fText.size ≤ 200∧
  (0 < k→¬ ordB (lowB (l.getD k zeroAn).fName) (lowB (l.getD (k - 1) zeroAn).fName) = true)
theorem emp_iff {s : ByteArray} : s = ⟨#[]⟩↔s.size = 0:=⟨fun h=>by rw [h]; rfl,fun h=>bytesI_inj (List.length_eq_zero_iff.1 (by rw [← size_bytes]; exact h))⟩
open Classical in
theorem anch_c4 (a : GAnchor) (h : a.fName.size ≤ 300) : m_conf_Right_c4 a = some (decide (isNm a.fName∧1 ≤ a.fText.size∧a.fText.size ≤ 200)):=by
  unfold m_conf_Right_c4
  rw [named_cd (by omega),Option.bind_some]
  by_cases c : isNm a.fName
  · rw [if_pos (decide_eq_true c)]
    by_cases d : a.fText = ⟨#[]⟩
    · rw [if_pos d,decide_eq_false (fun g=>by have:=emp_iff.1 d; omega)]
    · have h1 : a.fText.size ≠ 0:=fun g=>d (emp_iff.2 g)
      rw [if_neg d]
      by_cases e : a.fText.size ≤ 200
      · rw [decide_eq_true (by omega),decide_eq_true ⟨c,by omega,e⟩]
      · rw [decide_eq_false (by omega),decide_eq_false (fun g=>e g.2.2)]
  · rw [if_neg (by simpa using c),decide_eq_false (fun g=>c g.1)]
open Classical in
theorem anch_loop (l : List GAnchor) (hl : l.length ≤ 1000) (hs : ∀ a ∈ l,a.fName.size ≤ 300) : loop (fun s=>m_conf_all_50_s2 l s) 0 = some (if ∀ k,k < l.length→anchG l k then .inl () else .inr false):=by
  refine chk_loop l.length (anchG l) (fun k hk=>?_) (by unfold m_conf_all_50_s2; rw [if_neg (by omega)])
  have h1:=hs _ (gd_mem zeroAn hk)
  unfold m_conf_all_50_s2 anchG
  rw [if_pos (by omega),at_gd zeroAn hk,Option.bind_some,anch_c4 _ h1,Option.bind_some,w64_succ (by omega)]
  by_cases c : isNm (l.getD k zeroAn).fName∧1 ≤ (l.getD k zeroAn).fText.size∧(l.getD k zeroAn).fText.size ≤ 200
  · rw [if_pos (decide_eq_true c)]
    by_cases k0 : 0 < k
    · have h2:=hs _ (gd_mem zeroAn (show k - 1 < l.length by omega))
      rw [if_pos (by omega),w64_pred (by omega) k0,at_gd zeroAn (by omega),Option.bind_some,m_conf_Right_c3,lower_eq (by omega),Option.bind_some,Option.bind_some,m_conf_Right_c3,lower_eq (by omega),Option.bind_some,Option.bind_some]
      change (if ordB (lowB (l.getD k zeroAn).fName) (lowB (l.getD (k - 1) zeroAn).fName) = true then _ else _) = _
      by_cases d : ordB (lowB (l.getD k zeroAn).fName) (lowB (l.getD (k - 1) zeroAn).fName) = true
      · rw [if_pos d,if_neg (fun g=>g.2.2.2 k0 d)]
      · rw [if_neg d,if_pos ⟨c.1,c.2.1,c.2.2,fun _=>d⟩]
    · rw [if_neg (by omega),if_pos ⟨c.1,c.2.1,c.2.2,fun g=>absurd g k0⟩]
  · rw [if_neg (by simpa using c),if_neg (fun g=>c ⟨g.1,g.2.1,g.2.2.1⟩)]
open Classical in
theorem ranch_loop (x : GConf) (hl : x.fAnchors.length ≤ 1000) (hs : ∀ a ∈ x.fAnchors,a.fName.size ≤ 300) : loop (fun s=>m_ref13_Right_s10 x s) 0 = some (if ∀ k,k < x.fAnchors.length→anchG x.fAnchors k then .inl () else .inr false):=by
  refine chk_loop x.fAnchors.length (anchG x.fAnchors) (fun k hk=>?_) (by unfold m_ref13_Right_s10; rw [if_neg (by omega)])
  have h1:=hs _ (gd_mem zeroAn hk)
  unfold m_ref13_Right_s10 anchG
  generalize x.fAnchors = l at hk h1 hs hl ⊢
  rw [if_pos (by omega),at_gd zeroAn hk,Option.bind_some,rnamed_cd (by omega),Option.bind_some,w64_succ (by omega)]
  by_cases c : isNm (l.getD k zeroAn).fName
  case neg=>rw [if_neg (by simpa using c),if_neg (fun g=>c g.1)]
  rw [if_pos (decide_eq_true c)]
  by_cases c1 : ((l.getD k zeroAn).fText.size : Int) < 1
  · rw [if_pos c1,if_neg (fun g=>by have:=g.2.1; omega)]
  rw [if_neg c1]
  by_cases c2 : 200 < ((l.getD k zeroAn).fText.size : Int)
  · rw [if_pos c2,if_neg (fun g=>by have:=g.2.2.1; omega)]
  rw [if_neg c2]
  by_cases k0 : 0 < k
  · have h2:=hs _ (gd_mem zeroAn (show k - 1 < l.length by omega))
    rw [if_pos (by omega),w64_pred (by omega) k0,at_gd zeroAn (by omega),Option.bind_some,rlower_eq (by omega),Option.bind_some,rlower_eq (by omega),Option.bind_some]
    change (if ordB (lowB (l.getD k zeroAn).fName) (lowB (l.getD (k - 1) zeroAn).fName) = true then _ else _) = _
    by_cases d : ordB (lowB (l.getD k zeroAn).fName) (lowB (l.getD (k - 1) zeroAn).fName) = true
    · rw [if_pos d,if_neg (fun g=>g.2.2.2 k0 d)]
    · rw [if_neg d,if_pos ⟨c,by omega,by omega,fun _=>d⟩]
  · rw [if_neg (by omega),if_pos ⟨c,by omega,by omega,fun g=>absurd g k0⟩]
/-! ### Flushes -/
def zeroFl : GFlush:=⟨0,⟨#[]⟩⟩
def flG (e : Int) (l : List GFlush) (k : Nat) : Prop:=(isNm (l.getD k zeroFl).fZone∧lowB (l.getD k zeroFl).fZone = (l.getD k zeroFl).fZone∧1 ≤ (l.getD k zeroFl).fEpoch∧(l.getD k zeroFl).fEpoch ≤ e)∧(0 < k→(l.getD (k - 1) zeroFl).fEpoch < (l.getD k zeroFl).fEpoch)
open Classical in
theorem fl_c6 (a : GFlush) (o : GConf) (h : a.fZone.size ≤ 300) : m_conf_Right_c6 a o = some (decide (isNm a.fZone∧lowB a.fZone = a.fZone∧1 ≤ a.fEpoch∧a.fEpoch ≤ o.fEpoch)):=by
  unfold m_conf_Right_c6
  rw [named_cd (by omega),Option.bind_some]
  by_cases c : isNm a.fZone
  case neg=>rw [if_neg (by simpa using c),decide_eq_false (fun g=>c g.1)]
  rw [if_pos (decide_eq_true c),lower_eq (by omega),Option.bind_some]
  by_cases c1 : lowB a.fZone = a.fZone
  case neg=>rw [if_neg c1,decide_eq_false (fun g=>c1 g.2.1)]
  rw [if_pos c1]
  by_cases c2 : 1 ≤ a.fEpoch
  case neg=>rw [if_neg c2,decide_eq_false (fun g=>c2 g.2.2.1)]
  rw [if_pos c2]
  by_cases c3 : a.fEpoch ≤ o.fEpoch
  · rw [decide_eq_true c3,decide_eq_true ⟨c,c1,c2,c3⟩]
  · rw [decide_eq_false c3,decide_eq_false (fun g=>c3 g.2.2.2)]
open Classical in
theorem fl_loop (l : List GFlush) (o : GConf) (hl : l.length ≤ 1000) (hs : ∀ a ∈ l,a.fZone.size ≤ 300) : loop (fun s=>m_conf_all_54_s2 l o s) 0 = some (if ∀ k,k < l.length→flG o.fEpoch l k then .inl () else .inr false):=by
  refine chk_loop l.length (flG o.fEpoch l) (fun k hk=>?_) (by unfold m_conf_all_54_s2; rw [if_neg (by omega)])
  have h1:=hs _ (gd_mem zeroFl hk)
  unfold m_conf_all_54_s2 flG
  rw [if_pos (by omega),at_gd zeroFl hk,Option.bind_some,fl_c6 _ _ h1,Option.bind_some,w64_succ (by omega)]
  by_cases c : isNm (l.getD k zeroFl).fZone∧lowB (l.getD k zeroFl).fZone = (l.getD k zeroFl).fZone∧1 ≤ (l.getD k zeroFl).fEpoch∧(l.getD k zeroFl).fEpoch ≤ o.fEpoch
  case neg=>rw [if_neg (by simpa using c),if_neg (fun g=>c g.1)]
  rw [if_pos (decide_eq_true c)]
  by_cases k0 : 0 < k
  · rw [if_pos (by omega),w64_pred (by omega) k0,at_gd zeroFl (by omega),Option.bind_some,m_conf_Right_c5,Option.bind_some,m_conf_Right_c5,Option.bind_some]
    by_cases d : (l.getD k zeroFl).fEpoch ≤ (l.getD (k - 1) zeroFl).fEpoch
    · rw [if_pos d,if_neg (fun g=>by have:=g.2 k0; omega)]
    · rw [if_neg d,if_pos ⟨c,fun _=>by omega⟩]
  · rw [if_neg (by omega),if_pos ⟨c,fun g=>absurd g k0⟩]
open Go.RowKit
def undG (l : List GFlush) (k : Nat) : Prop:=∀ j,j < k→¬ undP (l.getD j zeroFl).fZone (l.getD k zeroFl).fZone = true
theorem cut_take {α : Type} {l : List α} {k : Nat} (h : k ≤ l.length) : cutHi l (k : Int) = some (l.take k):=by
  rw [cutHi,if_pos ⟨by omega,by omega⟩]; rfl
theorem gd_take {α : Type} {l : List α} {k j : Nat} (d : α) (h : j < k) : (l.take k).getD j d = l.getD j d:=by
  rw [List.getD_eq_getElem?_getD,List.getD_eq_getElem?_getD,List.getElem?_take_of_lt h]
open Classical in
theorem und_any (l : List GFlush) (k : Nat) (hk : k < l.length) (hl : l.length ≤ 1000) (hs : ∀ a ∈ l,a.fZone.size ≤ 300) : m_slices_ContainsFunc_57 (l.take k) (l.getD k zeroFl) = some (!(decide (undG l k))):=by
  have hx:=hs _ (gd_mem zeroFl hk)
  have hlen : (l.take k).length = k:=by rw [List.length_take]; omega
  have hA:=any_loop (step:=fun s=>m_slices_IndexFunc_94_2_s2 (l.take k) (l.getD k zeroFl) s) k (fun j=>undP (l.getD j zeroFl).fZone (l.getD k zeroFl).fZone = true) (fun j hj hb=>by
    have hy:=hs _ (gd_mem zeroFl (show j < l.length by omega))
    unfold m_slices_IndexFunc_94_2_s2 m_conf_Right_c7
    rw [hlen,if_pos (by omega),at_gd zeroFl (by omega),Option.bind_some,gd_take zeroFl hj,und_code (by omega) (by omega),Option.bind_some,Option.bind_some,if_neg hb,w64_succ (by omega)]) (fun j hj hb=>by
    have hy:=hs _ (gd_mem zeroFl (show j < l.length by omega))
    unfold m_slices_IndexFunc_94_2_s2 m_conf_Right_c7
    rw [hlen,if_pos (by omega),at_gd zeroFl (by omega),Option.bind_some,gd_take zeroFl hj,und_code (by omega) (by omega),Option.bind_some,Option.bind_some,if_pos hb]) (by unfold m_slices_IndexFunc_94_2_s2; rw [hlen,if_neg (by omega)])
  unfold m_slices_ContainsFunc_57 m_slices_IndexFunc_94_2
  rcases hA with ⟨g,e⟩ | ⟨g,m,e⟩
  · rw [e,decide_eq_true (show undG l k from g)]; rfl
  · rw [e,decide_eq_false (show ¬ undG l k from g)]
    show some (decide (0 ≤ (m : Int))) = some true
    rw [decide_eq_true (by omega)]
open Classical in
theorem und_loop (x : GConf) (hl : x.fFlushes.length ≤ 1000) (hs : ∀ a ∈ x.fFlushes,a.fZone.size ≤ 300) : loop (fun s=>m_conf_Right_s3 x s) 0 = some (if ∀ k,k < x.fFlushes.length→undG x.fFlushes k then .inl () else .inr false):=by
  refine chk_loop x.fFlushes.length (undG x.fFlushes) (fun k hk=>?_) (by unfold m_conf_Right_s3; rw [if_neg (by omega)])
  unfold m_conf_Right_s3
  rw [if_pos (by omega),at_gd zeroFl hk,Option.bind_some,cut_take (by omega),Option.bind_some,und_any _ _ hk hl hs,Option.bind_some,w64_succ (by omega)]
  by_cases c : undG x.fFlushes k
  · rw [decide_eq_true c,if_neg (by simp),if_pos c]
  · rw [decide_eq_false c,if_pos (by rfl),if_neg c]
open Classical in
theorem rfl_loop (x : GConf) (hl : x.fFlushes.length ≤ 1000) (hs : ∀ a ∈ x.fFlushes,a.fZone.size ≤ 300) : ((∀ k,k < x.fFlushes.length→flG x.fEpoch x.fFlushes k∧undG x.fFlushes k)∧loop (fun s=>m_ref13_Right_s5 x s) 0 = some (.inl ())) ∨ (¬ (∀ k,k < x.fFlushes.length→flG x.fEpoch x.fFlushes k∧undG x.fFlushes k)∧loop (fun s=>m_ref13_Right_s5 x s) 0 = some (.inr false)):=by
  suffices hst : ∀ k,k < x.fFlushes.length→m_ref13_Right_s5 x (k : Int) = if flG x.fEpoch x.fFlushes k∧undG x.fFlushes k then some (.inl ((k + 1 : Nat) : Int)) else some (.inr (.inr false)) by
    have h:=chk_loop (step:=fun s=>m_ref13_Right_s5 x s) x.fFlushes.length (fun k=>flG x.fEpoch x.fFlushes k∧undG x.fFlushes k) (fun k hk=>by
      show m_ref13_Right_s5 x (k : Int) = _
      rw [hst k hk]
      by_cases q : flG x.fEpoch x.fFlushes k∧undG x.fFlushes k
      · rw [if_pos q,if_pos q]
      · rw [if_neg q,if_neg q]) (by unfold m_ref13_Right_s5; rw [if_neg (by omega)])
    by_cases q : ∀ k,k < x.fFlushes.length→flG x.fEpoch x.fFlushes k∧undG x.fFlushes k
    · exact .inl ⟨q,by rw [h,if_pos q]⟩
    · exact .inr ⟨q,by rw [h,if_neg q]⟩
  intro k hk
  have h1:=hs _ (gd_mem zeroFl hk)
  unfold m_ref13_Right_s5
  rw [if_pos (by omega),at_gd zeroFl hk,Option.bind_some,rnamed_cd (by omega),Option.bind_some]
  by_cases c : isNm (x.fFlushes.getD k zeroFl).fZone
  case neg=>rw [if_neg (by simpa using c),if_neg (fun g=>c g.1.1.1)]
  rw [if_pos (decide_eq_true c),rlower_eq (by omega),Option.bind_some]
  by_cases c1 : lowB (x.fFlushes.getD k zeroFl).fZone = (x.fFlushes.getD k zeroFl).fZone
  case neg=>rw [if_neg c1,if_neg (fun g=>c1 g.1.1.2.1)]
  rw [if_pos c1]
  by_cases c2 : (x.fFlushes.getD k zeroFl).fEpoch < 1
  · rw [if_pos c2,if_neg (fun g=>by have:=g.1.1.2.2.1; omega)]
  rw [if_neg c2]
  by_cases c3 : x.fEpoch < (x.fFlushes.getD k zeroFl).fEpoch
  · rw [if_pos c3,if_neg (fun g=>by have:=g.1.1.2.2.2; omega)]
  rw [if_neg c3]
  by_cases k0 : 0 < k
  · rw [if_pos (by omega),w64_pred (by omega) k0,at_gd zeroFl (by omega),Option.bind_some]
    by_cases d : (x.fFlushes.getD k zeroFl).fEpoch ≤ (x.fFlushes.getD (k - 1) zeroFl).fEpoch
    · rw [if_pos d,if_neg (fun g=>by have:=g.1.2 k0; omega)]
    rw [if_neg d]
    have hL:=chk_loop (step:=fun s=>m_ref13_Right_s7 (k : Int) x (x.fFlushes.getD k zeroFl) s) k (fun j=>¬ undP (x.fFlushes.getD j zeroFl).fZone (x.fFlushes.getD k zeroFl).fZone = true) (fun j hj=>by
      have hy:=hs _ (gd_mem zeroFl (show j < x.fFlushes.length by omega))
      unfold m_ref13_Right_s7
      rw [if_pos (by omega),at_gd zeroFl (by omega),Option.bind_some,rund_code (by omega) (by omega),Option.bind_some,w64_succ (by omega)]
      by_cases u : undP (x.fFlushes.getD j zeroFl).fZone (x.fFlushes.getD k zeroFl).fZone = true
      · rw [if_pos u,if_neg (fun g=>g u)]
      · rw [if_neg u,if_pos u]) (by unfold m_ref13_Right_s7; rw [if_neg (by omega)])
    rw [hL]
    by_cases u : undG x.fFlushes k
    · have u' : ∀ j,j < k→¬ undP (x.fFlushes.getD j zeroFl).fZone (x.fFlushes.getD k zeroFl).fZone = true:=u
      rw [if_pos u',if_pos ⟨⟨⟨c,c1,by omega,by omega⟩,fun _=>by omega⟩,u⟩]
      show m_ref13_Right_j6 (k : Int) = _
      rw [m_ref13_Right_j6,w64_succ (by omega)]
    · have u' : ¬ ∀ j,j < k→¬ undP (x.fFlushes.getD j zeroFl).fZone (x.fFlushes.getD k zeroFl).fZone = true:=u
      rw [if_neg u',if_neg (fun g=>u g.2)]
      rfl
  · have hk0 : k = 0:=by omega
    rw [if_neg (by omega),show loop (fun _ : Unit=>m_ref13_Right_s9) () = some (.inl ()) from loop_inr rfl,if_pos ⟨⟨⟨c,c1,by omega,by omega⟩,fun g=>absurd g k0⟩,fun j hj=>absurd hj (by omega)⟩]
    show m_ref13_Right_j8 (k : Int) = _
    rw [m_ref13_Right_j8,w64_succ (by omega)]
open Go.RowKit
structure SmC (c : GConf) : Prop where
  ring : c.fRing.length ≤ 1000
  hints : c.fHints.length ≤ 1000
  anchors : c.fAnchors.length ≤ 1000
  flushes : c.fFlushes.length ≤ 1000
  an : ∀ a ∈ c.fAnchors,a.fName.size ≤ 300
  fl : ∀ a ∈ c.fFlushes,a.fZone.size ≤ 300
structure RightG (c : GConf) : Prop where
  ring : ∀ k,k < c.fRing.length→ringG c.fRing k
  hn : c.fHints.length ≤ 13
  hints : hintsG c.fHints
  an : ∀ k,k < c.fAnchors.length→anchG c.fAnchors k
  al : c.fAnchors.length ≤ 16
  fl : ∀ k,k < c.fFlushes.length→flG c.fEpoch c.fFlushes k
  fn : c.fFlushes.length ≤ 32
  ep : 0 ≤ c.fEpoch∧c.fEpoch ≤ 1099511627776
  und : ∀ k,k < c.fFlushes.length→undG c.fFlushes k
open Classical in
theorem right_code {c : GConf} (hc : SmC c) : m_conf_Right c = some (decide (RightG c)):=by
  have J0 : ¬ RightG c→m_conf_Right_j1 c false = some (decide (RightG c)):=fun h=>by rw [m_conf_Right_j1,if_neg (by simp),decide_eq_false h]
  unfold m_conf_Right m_conf_all_45
  rw [ring_loop _ hc.ring]
  by_cases g1 : ∀ k,k < c.fRing.length→ringG c.fRing k
  case neg=>
    rw [if_neg g1]
    exact J0 fun h=>g1 h.ring
  rw [if_pos g1]
  show (some (decide ((c.fRing.length : Int) ≤ 64))).bind _ = _
  rw [Option.bind_some,if_pos (decide_eq_true (by have:=ring_small g1; omega))]
  by_cases g2 : (c.fHints.length : Int) ≤ 13
  case neg=>rw [if_neg g2]; exact J0 fun h=>g2 (by have:=h.hn; omega)
  rw [if_pos g2,hints_any _ hc.hints,Option.bind_some]
  by_cases g3 : hintsG c.fHints
  case neg=>rw [decide_eq_false g3,if_pos (by rfl)]; exact J0 fun h=>g3 h.hints
  rw [decide_eq_true g3,if_neg (by simp)]
  unfold m_conf_all_50
  rw [anch_loop _ hc.anchors hc.an]
  by_cases g4 : ∀ k,k < c.fAnchors.length→anchG c.fAnchors k
  case neg=>
    rw [if_neg g4]
    exact J0 fun h=>g4 h.an
  rw [if_pos g4]
  show (some (decide ((c.fAnchors.length : Int) ≤ 16))).bind _ = _
  rw [Option.bind_some]
  by_cases g5 : (c.fAnchors.length : Int) ≤ 16
  case neg=>rw [decide_eq_false g5,if_neg (by simp)]; exact J0 fun h=>g5 (by have:=h.al; omega)
  rw [if_pos (decide_eq_true g5)]
  unfold m_conf_all_54
  rw [fl_loop _ _ hc.flushes hc.fl]
  by_cases g6 : ∀ k,k < c.fFlushes.length→flG c.fEpoch c.fFlushes k
  case neg=>
    rw [if_neg g6]
    exact J0 fun h=>g6 h.fl
  rw [if_pos g6]
  show (some (decide ((c.fFlushes.length : Int) ≤ 32))).bind _ = _
  rw [Option.bind_some]
  by_cases g7 : (c.fFlushes.length : Int) ≤ 32
  case neg=>rw [decide_eq_false g7]; exact J0 fun h=>g7 (by have:=h.fn; omega)
  rw [decide_eq_true g7,m_conf_Right_j1,if_pos rfl]
  by_cases g8 : c.fEpoch < 0
  · rw [if_pos g8,decide_eq_false (fun h=>by have:=h.ep; omega)]
  rw [if_neg g8]
  by_cases g9 : 1099511627776 < c.fEpoch
  · rw [if_pos g9,decide_eq_false (fun h=>by have:=h.ep; omega)]
  rw [if_neg g9,und_loop _ hc.flushes hc.fl]
  by_cases g10 : ∀ k,k < c.fFlushes.length→undG c.fFlushes k
  · rw [if_pos g10,decide_eq_true (show RightG c from ⟨g1,by omega,g3,g4,by omega,g6,by omega,by omega,g10⟩)]; rfl
  · rw [if_neg g10,decide_eq_false (fun h=>g10 h.und)]; rfl
open Classical in
theorem right_ref {c : GConf} (hc : SmC c) : m_ref13_Right c = some (decide (RightG c)):=by
  unfold m_ref13_Right
  by_cases a1 : 13 < (c.fHints.length : Int)
  · rw [if_pos a1,decide_eq_false (fun h=>by have:=h.hn; omega)]
  rw [if_neg a1]
  by_cases a2 : 16 < (c.fAnchors.length : Int)
  · rw [if_pos a2,decide_eq_false (fun h=>by have:=h.al; omega)]
  rw [if_neg a2]
  by_cases a3 : c.fEpoch < 0
  · rw [if_pos a3,decide_eq_false (fun h=>by have:=h.ep; omega)]
  rw [if_neg a3]
  by_cases a4 : 1099511627776 < c.fEpoch
  · rw [if_pos a4,decide_eq_false (fun h=>by have:=h.ep; omega)]
  rw [if_neg a4]
  by_cases a5 : 32 < (c.fFlushes.length : Int)
  · rw [if_pos a5,decide_eq_false (fun h=>by have:=h.fn; omega)]
  rw [if_neg a5,rring_loop c hc.ring]
  by_cases g1 : ∀ k,k < c.fRing.length→ringG c.fRing k
  case neg=>rw [if_neg g1,decide_eq_false (fun h=>g1 h.ring)]; rfl
  rw [if_pos g1]
  show m_ref13_Right_j1 c = _
  unfold m_ref13_Right_j1
  rw [rhints_loop c hc.hints]
  by_cases g3 : hintsG c.fHints
  case neg=>rw [if_neg g3,decide_eq_false (fun h=>g3 h.hints)]; rfl
  rw [if_pos g3]
  show m_ref13_Right_j2 c = _
  unfold m_ref13_Right_j2
  rw [ranch_loop c hc.anchors hc.an]
  by_cases g4 : ∀ k,k < c.fAnchors.length→anchG c.fAnchors k
  case neg=>rw [if_neg g4,decide_eq_false (fun h=>g4 h.an)]; rfl
  rw [if_pos g4]
  show m_ref13_Right_j3 c = _
  unfold m_ref13_Right_j3
  rcases rfl_loop c hc.flushes hc.fl with ⟨q,e⟩ | ⟨q,e⟩
  · rw [e,decide_eq_true (show RightG c from ⟨g1,by omega,g3,g4,by omega,fun k hk=>(q k hk).1,by omega,by omega,fun k hk=>(q k hk).2⟩)]; rfl
  · rw [e,decide_eq_false (fun h=>q fun k hk=>⟨h.fl k hk,h.und k hk⟩)]; rfl
open Go.RowKit
theorem fm_le {α : Type} {e : α→List Int} : ∀ (l : List α),(∀ a ∈ l,(e a).length ≤ 1000)→(l.flatMap e).length ≤ 1000 * l.length
  | [],_=>by simp
  | x::xs,h=>by
    have h1:=h x (List.mem_cons_self)
    have h2:=fm_le xs (fun a ha=>h a (List.mem_cons_of_mem _ ha))
    rw [List.flatMap_cons,List.length_append,List.length_cons]
    omega
theorem put_loop {α : Type} (l : List α) (e : α→List Int) {step : List Int×Int→Option ((List Int×Int) ⊕ List Int)} (hl : l.length ≤ 1000) (he : ∀ a ∈ l,(e a).length ≤ 1000)
    (hs : ∀ (k : Nat) (hk : k < l.length) (fb : List Int),fb.length ≤ 100000000→step (fb,(k : Int)) = some (.inl (fb++e l[k],((k + 1 : Nat) : Int)))) (hend : ∀ fb,step (fb,(l.length : Int)) = some (.inr fb)) (fb : List Int) (hfb : fb.length ≤ 10000000) :
    loop step (fb,0) = some (fb++l.flatMap e):=by
  refine loop_run l.length (fun k=>(fb++(l.take k).flatMap e,(k : Int))) _ (by simp) (fun k hk=>?_) (by rw [List.take_length]; exact hend _)
  have h1:=fm_le (e:=e) (l.take k) (fun a ha=>he a (List.mem_of_mem_take ha))
  have h2 : (l.take k).length ≤ 1000:=by rw [List.length_take]; omega
  rw [hs k hk _ (by rw [List.length_append]; omega),List.take_succ_eq_append_getElem hk,List.flatMap_append,List.flatMap_singleton,List.append_assoc]
def ringB (l : List Int) : List Int:=l.flatMap fun x=>[x % 256]
def eightB (n : Int) : List Int:=[n / 72057594037927936 % 256,n / 281474976710656 % 256,n / 1099511627776 % 256,n / 4294967296 % 256,n / 16777216 % 256,n / 65536 % 256,n / 256 % 256,n % 256]
def anB (a : GAnchor) : List Int:=bytesI a.fName++([(a.fText.size : Int) % 256]++bytesI a.fText)
def flB (f : GFlush) : List Int:=eightB f.fEpoch++bytesI f.fZone
/-- A configuration's bytes. -/
def snapL (c : GConf) : List Int:=[(c.fRing.length : Int) % 256]++(ringB c.fRing++([(c.fHints.length : Int) % 256]++(c.fHints.flatMap bytesI++([(c.fAnchors.length : Int) % 256]++(c.fAnchors.flatMap anB++(eightB c.fEpoch++([(c.fFlushes.length : Int) % 256]++c.fFlushes.flatMap flB)))))))
theorem wu8c (x : Int) : IntKind.u8.wrap x = x % 256:=by simp [IntKind.wrap,IntKind.bits,IntKind.signed]
theorem wu32c (x : Int) : IntKind.u32.wrap x = x % 4294967296:=by simp [IntKind.wrap,IntKind.bits,IntKind.signed]
theorem byte_cd {x : Int} {fb : List Int} {pl : List (ByteArray×Int)} (h : fb.length ≤ 1000000000) : m_pack_Packer_Byte x ⟨fb,pl⟩ = some ⟨fb++[x],pl⟩:=by
  rw [m_pack_Packer_Byte,put_eq (by simp only [List.length_singleton]; omega)]; rfl
theorem raw_cd {s : ByteArray} {fb : List Int} {pl : List (ByteArray×Int)} (h : fb.length ≤ 1000000000) (hs : s.size ≤ 1000000) : m_pack_Packer_Raw s ⟨fb,pl⟩ = some ⟨fb++bytesI s,pl⟩:=by
  rw [m_pack_Packer_Raw,put_eq (by rw [← size_bytes]; omega)]; rfl
theorem eight_cd {n : Int} {fb : List Int} {pl : List (ByteArray×Int)} (h : fb.length ≤ 1000000000) : m_conf_eight n ⟨fb,pl⟩ = some ⟨fb++eightB n,pl⟩:=by
  rw [m_conf_eight,m_pack_Packer_Long,put_eq (by simp only [List.length_cons,List.length_nil]; omega),Option.bind_some,Option.bind_some,m_pack_Packer_Long,put_eq (by simp only [List.length_append,List.length_cons,List.length_nil]; omega),Option.bind_some,Option.bind_some,List.append_assoc]
  simp only [wu8c,wu32c,eightB,List.cons_append,List.nil_append]
  have e : ∀ a b : List Int,a = b→(some (⟨fb++a,pl⟩ : Gpack_Packer)) = some ⟨fb++b,pl⟩:=fun a b h=>by rw [h]
  apply e
  simp only [List.cons.injEq,and_true]
  omega
open Go.RowKit
theorem hint_size {c : GConf} (g : RightG c) : ∀ h ∈ c.fHints,h.size = 4:=fun h hh=>by
  obtain ⟨k,hk,rfl⟩:=List.getElem_of_mem hh
  have:=g.hints k hk
  rwa [List.getD_eq_getElem?_getD,List.getElem?_eq_getElem hk] at this
theorem text_size {c : GConf} (g : RightG c) : ∀ a ∈ c.fAnchors,a.fText.size ≤ 200:=fun a ha=>by
  obtain ⟨k,hk,rfl⟩:=List.getElem_of_mem ha
  have:=(g.an k hk).2.2.1
  rwa [List.getD_eq_getElem?_getD,List.getElem?_eq_getElem hk] at this
open Classical in
theorem snap_code {c : GConf} (hc : SmC c) : m_conf_Snap c = some (if RightG c then strOfNums (snapL c) else ⟨#[]⟩):=by
  unfold m_conf_Snap
  rw [right_code hc,Option.bind_some]
  by_cases g : RightG c
  case neg=>rw [decide_eq_false g,if_neg (by simp),if_neg g]
  have hh:=hint_size g
  have ht:=text_size g
  have hr:=ring_small g.ring
  have n1:=g.hn
  have n2:=g.al
  have n3:=g.fn
  rw [decide_eq_true g,if_pos rfl,if_pos g,m_pack_New,Option.bind_some,wu8c,byte_cd (by simp),Option.bind_some]
  simp only [List.nil_append]
  have L1:=put_loop c.fRing (fun x=>[x % 256]) (step:=fun s=>m_conf_Snap_s8 c (⟨[],[]⟩ : Gpack_Packer) s.1 s.2) (by omega) (fun a _=>by simp) (fun k hk fb hfb=>by
    show m_conf_Snap_s8 c (⟨[],[]⟩ : Gpack_Packer) fb (k : Int) = _
    unfold m_conf_Snap_s8
    rw [if_pos (by omega),at_nat hk,Option.bind_some,wu8c,byte_cd (by omega),Option.bind_some,w64_succ (by omega)]) (fun fb=>by
    show m_conf_Snap_s8 c (⟨[],[]⟩ : Gpack_Packer) fb (c.fRing.length : Int) = _
    unfold m_conf_Snap_s8; rw [if_neg (by omega)]) [(c.fRing.length : Int) % 256] (by simp)
  have b1:=fm_le (e:=fun x : Int=>[x % 256]) c.fRing (fun a _=>by simp)
  rw [L1,Option.bind_some,m_conf_Snap_j1,wu8c,byte_cd (by simp only [List.length_append,List.length_singleton]; omega),Option.bind_some]
  generalize hA : ([(c.fRing.length : Int) % 256]++c.fRing.flatMap fun x=>[x % 256])++[(c.fHints.length : Int) % 256] = A
  have lA : A.length ≤ 100000:=by rw [← hA]; simp only [List.length_append,List.length_singleton]; omega
  have L2:=put_loop c.fHints bytesI (step:=fun s=>m_conf_Snap_s7 c (⟨[],[]⟩ : Gpack_Packer) s.1 s.2) (by omega) (fun a ha=>by rw [← size_bytes,hh a ha]; omega) (fun k hk fb hfb=>by
    have:=hh _ (List.getElem_mem hk)
    show m_conf_Snap_s7 c (⟨[],[]⟩ : Gpack_Packer) fb (k : Int) = _
    unfold m_conf_Snap_s7
    rw [if_pos (by omega),at_nat hk,Option.bind_some,raw_cd (by omega) (by omega),Option.bind_some,w64_succ (by omega)]) (fun fb=>by
    show m_conf_Snap_s7 c (⟨[],[]⟩ : Gpack_Packer) fb (c.fHints.length : Int) = _
    unfold m_conf_Snap_s7; rw [if_neg (by omega)]) A (by omega)
  have b2:=fm_le (e:=bytesI) c.fHints (fun a ha=>by rw [← size_bytes,hh a ha]; omega)
  rw [L2,Option.bind_some,m_conf_Snap_j2,wu8c,byte_cd (by simp only [List.length_append]; omega),Option.bind_some]
  generalize hB : (A++c.fHints.flatMap bytesI)++[(c.fAnchors.length : Int) % 256] = B
  have lB : B.length ≤ 200000:=by rw [← hB]; simp only [List.length_append,List.length_singleton]; omega
  have hab : ∀ a ∈ c.fAnchors,(anB a).length ≤ 1000:=fun a ha=>by
    have h1:=hc.an a ha
    have h2:=ht a ha
    unfold anB
    rw [List.length_append,List.length_append,← size_bytes,← size_bytes,List.length_singleton]
    omega
  have L3:=put_loop c.fAnchors anB (step:=fun s=>m_conf_Snap_s6 c (⟨[],[]⟩ : Gpack_Packer) s.1 s.2) (by omega) hab (fun k hk fb hfb=>by
    have h1:=hc.an _ (List.getElem_mem hk)
    have h2:=ht _ (List.getElem_mem hk)
    show m_conf_Snap_s6 c (⟨[],[]⟩ : Gpack_Packer) fb (k : Int) = _
    unfold m_conf_Snap_s6
    rw [if_pos (by omega),at_nat hk,Option.bind_some,raw_cd (by omega) (by omega),Option.bind_some,wu8c,byte_cd (by rw [List.length_append,← size_bytes]; omega),Option.bind_some,raw_cd (by rw [List.length_append,List.length_append,← size_bytes,List.length_singleton]; omega) (by omega),Option.bind_some,w64_succ (by omega),List.append_assoc,List.append_assoc]
    rfl) (fun fb=>by
    show m_conf_Snap_s6 c (⟨[],[]⟩ : Gpack_Packer) fb (c.fAnchors.length : Int) = _
    unfold m_conf_Snap_s6; rw [if_neg (by omega)]) B (by omega)
  have b3:=fm_le c.fAnchors hab
  rw [L3,Option.bind_some,m_conf_Snap_j3,eight_cd (by rw [List.length_append]; omega),Option.bind_some,wu8c,byte_cd (by simp only [List.length_append,eightB,List.length_cons,List.length_nil]; omega),Option.bind_some]
  generalize hC : ((B++c.fAnchors.flatMap anB)++eightB c.fEpoch)++[(c.fFlushes.length : Int) % 256] = C
  have lC : C.length ≤ 400000:=by rw [← hC]; simp only [List.length_append,eightB,List.length_cons,List.length_nil]; omega
  have hfb : ∀ a ∈ c.fFlushes,(flB a).length ≤ 1000:=fun a ha=>by
    have h1:=hc.fl a ha
    unfold flB
    rw [List.length_append,← size_bytes]
    simp only [eightB,List.length_cons,List.length_nil]
    omega
  have L4:=put_loop c.fFlushes flB (step:=fun s=>m_conf_Snap_s5 c (⟨[],[]⟩ : Gpack_Packer) s.1 s.2) (by omega) hfb (fun k hk fb hfb=>by
    have h1:=hc.fl _ (List.getElem_mem hk)
    show m_conf_Snap_s5 c (⟨[],[]⟩ : Gpack_Packer) fb (k : Int) = _
    unfold m_conf_Snap_s5
    rw [if_pos (by omega),at_nat hk,Option.bind_some,eight_cd (by omega),Option.bind_some,raw_cd (by simp only [List.length_append,eightB,List.length_cons,List.length_nil]; omega) (by omega),Option.bind_some,w64_succ (by omega),List.append_assoc]
    rfl) (fun fb=>by
    show m_conf_Snap_s5 c (⟨[],[]⟩ : Gpack_Packer) fb (c.fFlushes.length : Int) = _
    unfold m_conf_Snap_s5; rw [if_neg (by omega)]) C (by omega)
  rw [L4,Option.bind_some,m_conf_Snap_j4,m_pack_Packer_Bytes,Option.bind_some,← hC,← hB,← hA]
  simp only [snapL,ringB,List.append_assoc]
open Go.RowKit
theorem rnum8 {v : Int} {s : ByteArray} (hs : s.size ≤ 1099511627000) : ∃ t,m_ref04_Packer_Number v 8 ⟨s,[]⟩ = some ⟨t,[]⟩∧bytesI t = bytesI s++eightB v:=by
  obtain ⟨t,h1,h2⟩:=number_n (v:=v) (⟨s,[]⟩ : Gref04_Packer) 8 s (by omega) (by omega)
  refine ⟨t,?_,?_⟩
  · rw [m_ref04_Packer_Number,w64_id (by omega) (by omega)]
    erw [h1]
    rfl
  · rw [h2]
    congr 1
    simp [List.range,List.range.loop,bn,eightB]
theorem rput_loop {α : Type} (l : List α) (e : α→List Int) {step : Int×ByteArray→Option ((Int×ByteArray) ⊕ ByteArray)} (hl : l.length ≤ 1000) (he : ∀ a ∈ l,(e a).length ≤ 1000)
    (hs : ∀ (k : Nat) (hk : k < l.length) (s : ByteArray),s.size ≤ 100000000→∃ t,step ((k : Int),s) = some (.inl (((k + 1 : Nat) : Int),t))∧bytesI t = bytesI s++e l[k]) (hend : ∀ s,step ((l.length : Int),s) = some (.inr s)) (s : ByteArray) (hsz : s.size ≤ 10000000) :
    ∃ t,loop step (0,s) = some t∧bytesI t = bytesI s++l.flatMap e:=by
  refine loop_rule (step:=step) (fun x=>∃ k : Nat,x.1 = k∧k ≤ l.length∧bytesI x.2 = bytesI s++(l.take k).flatMap e) (fun x=>(l.length - x.1).toNat) (fun t=>bytesI t = bytesI s++l.flatMap e) (fun x hx=>?_) ⟨0,rfl,by omega,by simp⟩
  obtain ⟨i,u⟩:=x
  obtain ⟨k,h1,h2,h3⟩:=hx
  simp only at h1 h3 ⊢
  subst h1
  by_cases hk : k < l.length
  · have b1:=fm_le (e:=e) (l.take k) (fun a ha=>he a (List.mem_of_mem_take ha))
    have b2 : (l.take k).length ≤ 1000:=by rw [List.length_take]; omega
    have b3:=congrArg List.length h3
    rw [List.length_append,← size_bytes,← size_bytes] at b3
    obtain ⟨t,t1,t2⟩:=hs k hk u (by omega)
    exact .inl ⟨_,t1,⟨k + 1,rfl,hk,by rw [t2,h3,List.take_succ_eq_append_getElem hk,List.flatMap_append,List.flatMap_singleton,List.append_assoc]⟩,by simp only; omega⟩
  · have e : k = l.length:=by omega
    subst e
    exact .inr ⟨u,hend u,by rw [h3,List.take_length]⟩
open Go.RowKit
theorem str_by (s : ByteArray) : strOfNums (bytesI s) = s:=bytesI_inj (bytesI_str (bytesI_range s))
theorem grow_size {s t : ByteArray} {l : List Int} (h : bytesI t = bytesI s++l) : t.size = s.size + l.length:=by
  have:=congrArg List.length h
  rw [List.length_append,← size_bytes,← size_bytes] at this
  exact this
theorem bytes_snap {t : ByteArray} {l : List Int} (h : bytesI t = l) : strOfNums l = t:=by rw [← h,str_by]
open Classical in
theorem snap_ref {c : GConf} (hc : SmC c) : m_ref13_Snap c = some (if RightG c then strOfNums (snapL c) else ⟨#[]⟩):=by
  unfold m_ref13_Snap
  rw [right_ref hc,Option.bind_some]
  by_cases g : RightG c
  case neg=>rw [decide_eq_false g,if_neg (by simp),if_neg g]
  have hh:=hint_size g
  have ht:=text_size g
  have hr:=ring_small g.ring
  have n1:=g.hn
  have n2:=g.al
  have n3:=g.fn
  rw [decide_eq_true g,if_pos rfl,if_pos g]
  obtain ⟨t0,a0,b0⟩:=rnum1 (v:=(c.fRing.length : Int)) (o:=⟨⟨#[]⟩,[]⟩) (by show (0 : Nat) ≤ _; omega)
  have z0:=grow_size b0
  rw [a0,Option.bind_some]
  replace z0 : t0.size = 0 + 1:=z0
  obtain ⟨t1,a1,b1⟩:=rput_loop c.fRing (fun x=>[x % 256]) (step:=fun s=>m_ref13_Snap_s8 c s.1 s.2) (by omega) (fun a _=>by simp) (fun k hk s hs=>by
    obtain ⟨t,h1,h2⟩:=rnum1 (v:=c.fRing[k]) (o:=⟨s,[]⟩) (by show s.size ≤ _; omega)
    refine ⟨t,?_,h2⟩
    show m_ref13_Snap_s8 c (k : Int) s = _
    unfold m_ref13_Snap_s8
    rw [if_pos (by omega),at_nat hk,Option.bind_some,h1,Option.bind_some,w64_succ (by omega)]) (fun s=>by
    show m_ref13_Snap_s8 c (c.fRing.length : Int) s = _
    unfold m_ref13_Snap_s8; rw [if_neg (by omega)]) t0 (by omega)
  have z1:=grow_size b1
  have y1:=fm_le (e:=fun x : Int=>[x % 256]) c.fRing (fun a _=>by simp)
  simp only
  rw [a1,Option.bind_some,m_ref13_Snap_j1]
  obtain ⟨t2,a2,b2⟩:=rnum1 (v:=(c.fHints.length : Int)) (o:=⟨t1,[]⟩) (by show t1.size ≤ _; omega)
  have z2:=grow_size b2
  replace z2 : t2.size = t1.size + 1:=z2
  rw [a2,Option.bind_some]
  obtain ⟨t3,a3,b3⟩:=rput_loop c.fHints bytesI (step:=fun s=>m_ref13_Snap_s7 c s.1 s.2) (by omega) (fun a ha=>by rw [← size_bytes,hh a ha]; omega) (fun k hk s hs=>by
    have:=hh _ (List.getElem_mem hk)
    refine ⟨s++c.fHints[k],?_,bytesI_append _ _⟩
    show m_ref13_Snap_s7 c (k : Int) s = _
    unfold m_ref13_Snap_s7
    rw [if_pos (by omega),at_nat hk,Option.bind_some,sadd_of (by omega),Option.bind_some,w64_succ (by omega)]) (fun s=>by
    show m_ref13_Snap_s7 c (c.fHints.length : Int) s = _
    unfold m_ref13_Snap_s7; rw [if_neg (by omega)]) t2 (by omega)
  have z3:=grow_size b3
  have y3:=fm_le (e:=bytesI) c.fHints (fun a ha=>by rw [← size_bytes,hh a ha]; omega)
  simp only
  rw [a3,Option.bind_some,m_ref13_Snap_j2]
  obtain ⟨t4,a4,b4⟩:=rnum1 (v:=(c.fAnchors.length : Int)) (o:=⟨t3,[]⟩) (by show t3.size ≤ _; omega)
  have z4:=grow_size b4
  replace z4 : t4.size = t3.size + 1:=z4
  rw [a4,Option.bind_some]
  have hab : ∀ a ∈ c.fAnchors,(anB a).length ≤ 1000:=fun a ha=>by
    have h1:=hc.an a ha
    have h2:=ht a ha
    unfold anB
    rw [List.length_append,List.length_append,← size_bytes,← size_bytes,List.length_singleton]
    omega
  obtain ⟨t5,a5,b5⟩:=rput_loop c.fAnchors anB (step:=fun s=>m_ref13_Snap_s6 c s.1 s.2) (by omega) hab (fun k hk s hs=>by
    have h1:=hc.an _ (List.getElem_mem hk)
    have h2:=ht _ (List.getElem_mem hk)
    have q1 : (s++c.fAnchors[k].fName).size = s.size + c.fAnchors[k].fName.size:=ByteArray.size_append
    obtain ⟨t,h3,h4⟩:=rnum1 (v:=(c.fAnchors[k].fText.size : Int)) (o:=⟨s++c.fAnchors[k].fName,[]⟩) (by show (s++c.fAnchors[k].fName).size ≤ _; omega)
    have z:=grow_size h4
    replace z : t.size = (s++c.fAnchors[k].fName).size + 1:=z
    refine ⟨t++c.fAnchors[k].fText,?_,?_⟩
    · show m_ref13_Snap_s6 c (k : Int) s = _
      unfold m_ref13_Snap_s6
      rw [if_pos (by omega),at_nat hk,Option.bind_some,sadd_of (by omega),Option.bind_some,Option.bind_some,h3,Option.bind_some,Option.bind_some]
      simp only
      rw [sadd_of (by omega),Option.bind_some,w64_succ (by omega)]
    · rw [bytesI_append,h4]
      simp only
      rw [bytesI_append,anB,List.append_assoc,List.append_assoc]) (fun s=>by
    show m_ref13_Snap_s6 c (c.fAnchors.length : Int) s = _
    unfold m_ref13_Snap_s6; rw [if_neg (by omega)]) t4 (by omega)
  have z5:=grow_size b5
  have y5:=fm_le c.fAnchors hab
  simp only
  rw [a5,Option.bind_some,m_ref13_Snap_j3]
  obtain ⟨t6,a6,b6⟩:=rnum8 (v:=c.fEpoch) (s:=t5) (by omega)
  have z6:=grow_size b6
  replace z6 : t6.size = t5.size + 8:=z6
  rw [a6,Option.bind_some]
  obtain ⟨t7,a7,b7⟩:=rnum1 (v:=(c.fFlushes.length : Int)) (o:=⟨t6,[]⟩) (by show t6.size ≤ _; omega)
  have z7:=grow_size b7
  replace z7 : t7.size = t6.size + 1:=z7
  simp only
  rw [a7,Option.bind_some]
  have hfb : ∀ a ∈ c.fFlushes,(flB a).length ≤ 1000:=fun a ha=>by
    have h1:=hc.fl a ha
    unfold flB
    rw [List.length_append,← size_bytes]
    simp only [eightB,List.length_cons,List.length_nil]
    omega
  obtain ⟨t8,a8,b8⟩:=rput_loop c.fFlushes flB (step:=fun s=>m_ref13_Snap_s5 c s.1 s.2) (by omega) hfb (fun k hk s hs=>by
    have h1:=hc.fl _ (List.getElem_mem hk)
    obtain ⟨t,h3,h4⟩:=rnum8 (v:=c.fFlushes[k].fEpoch) (s:=s) (by omega)
    have z:=grow_size h4
    replace z : t.size = s.size + 8:=z
    refine ⟨t++c.fFlushes[k].fZone,?_,?_⟩
    · show m_ref13_Snap_s5 c (k : Int) s = _
      unfold m_ref13_Snap_s5
      rw [if_pos (by omega),at_nat hk,Option.bind_some,h3,Option.bind_some,Option.bind_some]
      simp only
      rw [sadd_of (by omega),Option.bind_some,w64_succ (by omega)]
    · rw [bytesI_append,h4,flB,List.append_assoc]) (fun s=>by
    show m_ref13_Snap_s5 c (c.fFlushes.length : Int) s = _
    unfold m_ref13_Snap_s5; rw [if_neg (by omega)]) t7 (by omega)
  simp only
  rw [a8,Option.bind_some,m_ref13_Snap_j4]
  congr 1
  refine (bytes_snap ?_).symm
  rw [b8,b7,b6,b5,b4,b3,b2,b1,b0]
  show ((((((((bytesI ⟨#[]⟩++_)++_)++_)++_)++_)++_)++_)++_)++_ = _
  simp only [snapL,ringB,List.append_assoc]
  rfl
open Go.RowKit
theorem ext_all (s : ByteArray) : s.extract 0 s.size = s:=bytesI_inj (by rw [bytesI_extract,List.drop_zero,size_bytes,List.take_of_length_le (Nat.le_refl _)])
theorem cut_by {s : ByteArray} {n : Nat} (h : n ≤ s.size) : bytesI (s.extract 0 n)++bytesI (s.extract n s.size) = bytesI s:=by
  rw [bytesI_extract,bytesI_extract,List.drop_zero,size_bytes,List.take_of_length_le (l:=bytesI s) (Nat.le_refl _),List.take_append_drop]
theorem cut_of {s t : ByteArray} {p : List Int} (h : bytesI s = p++bytesI t) : p.length ≤ s.size∧bytesI (s.extract 0 p.length) = p∧s.extract p.length s.size = t:=by
  have hs : s.size = p.length + t.size:=by rw [size_bytes,h,List.length_append,← size_bytes]
  refine ⟨by omega,?_,bytesI_inj ?_⟩
  · rw [bytesI_extract,List.drop_zero,h,List.take_left]
  · rw [bytesI_extract,size_bytes s,List.take_of_length_le (Nat.le_refl _),h,List.drop_left]
theorem tail_of {s : ByteArray} {p q : List Int} (h : bytesI s = p++q) : ∃ u : ByteArray,bytesI u = q∧u.size ≤ s.size:=by
  refine ⟨s.extract p.length s.size,?_,by rw [ByteArray.size_extract]; omega⟩
  rw [bytesI_extract,size_bytes,List.take_of_length_le (Nat.le_refl _),h,List.drop_left]
/-- What a reader reads: its bytes, and what may come of them. -/
structure CGet {α : Type} (m : Gconf_reader→Option (α×Gconf_reader)) (e : α→List Int) (P : α→Prop) : Prop where
  tot : ∀ s b,s.size ≤ 2000→∃ a t d,m ⟨s,b⟩ = some (a,⟨t,d⟩)∧t.size ≤ s.size∧(d = false→b = false∧bytesI s = e a++bytesI t∧P a)
  full : ∀ a s t,P a→s.size ≤ 2000→bytesI s = e a++bytesI t→m ⟨s,false⟩ = some (a,⟨t,false⟩)
structure RGet {α : Type} (m : Gref13_reader→Option (α×Gref13_reader)) (e : α→List Int) (P : α→Prop) (Q : α→Prop) : Prop where
  tot : ∀ s b,s.size ≤ 2000→∃ a t d,m ⟨s,b⟩ = some (a,⟨t,d⟩)∧t.size ≤ s.size∧Q a
  full : ∀ a s t,P a→s.size ≤ 2000→bytesI s = e a++bytesI t→m ⟨s,false⟩ = some (a,⟨t,false⟩)
/-! ### Takes -/
theorem take_cd {s : ByteArray} {b : Bool} (hs : s.size ≤ 100000) {n : Nat} (hn : n ≤ 100000) : m_conf_reader_take (n : Int) ⟨s,b⟩ = some (if n ≤ s.size then (s.extract 0 n,⟨s.extract n s.size,b⟩) else (⟨#[]⟩,⟨s,true⟩)):=by
  rw [m_conf_reader_take]
  simp only
  rw [m_pack_Raw,if_neg (by omega),if_neg (by omega),if_neg (by omega),w64_id (by omega) (by omega)]
  by_cases h : n ≤ s.size
  · rw [if_neg (by omega),if_pos h,w64_id (by omega) (by omega),scutMid,if_pos ⟨by omega,by omega,by omega⟩,Option.bind_some,Option.bind_some]
    have hlo : scutLo s (0 + (n : Int)) = some (s.extract n s.size):=by
      rw [scutLo,if_pos ⟨by omega,by omega⟩]; congr 2; omega
    have hn0 : (0 + (n : Int)).toNat = n:=by omega
    cases b with
    | true=>rw [if_pos rfl,m_conf_reader_take_j1]; simp only; rw [hlo,hn0]; rfl
    | false=>rw [if_neg (show ¬ (false = true) by decide),m_conf_reader_take_j1]; simp only; rw [hlo,hn0]; rfl
  · rw [if_pos (by omega),if_neg h,Option.bind_some]
    have hlo : scutLo s 0 = some s:=by
      rw [scutLo,if_pos ⟨by omega,by omega⟩]; exact congrArg some (ext_all s)
    cases b with
    | true=>rw [if_pos rfl,m_conf_reader_take_j1]; simp only; rw [hlo]; rfl
    | false=>rw [if_neg (show ¬ (false = true) by decide),m_conf_reader_take_j1]; simp only; rw [hlo]; rfl
theorem rtake_cd {s : ByteArray} {b : Bool} (hs : s.size ≤ 100000) {n : Nat} (hn : n ≤ 100000) : m_ref13_reader_take (n : Int) ⟨s,b⟩ = some (if n ≤ s.size then (s.extract 0 n,⟨s.extract n s.size,b⟩) else (⟨#[]⟩,⟨s,true⟩)):=by
  rw [m_ref13_reader_take,if_neg (by omega)]
  by_cases h : n ≤ s.size
  · rw [if_neg (by simp only; omega),if_pos h,scutHi,if_pos ⟨by omega,by simp only; omega⟩,Option.bind_some,scutLo,if_pos ⟨by omega,by simp only; omega⟩]; rfl
  · rw [if_pos (by simp only; omega),if_neg h]
theorem c_take {n : Nat} (hn : n ≤ 100000) : CGet (m_conf_reader_take (n : Int)) bytesI (fun h=>h.size = n):=by
  refine ⟨fun s b hs=>?_,fun a s t ha hs h=>?_⟩
  · rw [take_cd (by omega) hn]
    by_cases h : n ≤ s.size
    · rw [if_pos h]
      exact ⟨_,_,_,rfl,by rw [ByteArray.size_extract]; omega,fun hb=>⟨hb,(cut_by h).symm,by rw [ByteArray.size_extract]; omega⟩⟩
    · rw [if_neg h]
      exact ⟨_,_,_,rfl,Nat.le_refl _,fun hb=>by cases hb⟩
  · obtain ⟨h1,h2,h3⟩:=cut_of h
    rw [← size_bytes] at h1 h2 h3
    have ha : a.size = n:=ha
    rw [ha] at h1 h2 h3
    rw [take_cd (by omega) hn,if_pos h1,h3,bytesI_inj h2]
theorem r_take {n : Nat} (hn : n ≤ 100000) : RGet (m_ref13_reader_take (n : Int)) bytesI (fun h=>h.size = n) (fun _=>True):=by
  refine ⟨fun s b hs=>?_,fun a s t ha hs h=>?_⟩
  · rw [rtake_cd (by omega) hn]
    by_cases h : n ≤ s.size
    · rw [if_pos h]
      exact ⟨_,_,_,rfl,by rw [ByteArray.size_extract]; omega,trivial⟩
    · rw [if_neg h]
      exact ⟨_,_,_,rfl,Nat.le_refl _,trivial⟩
  · obtain ⟨h1,h2,h3⟩:=cut_of h
    rw [← size_bytes] at h1 h2 h3
    have ha : a.size = n:=ha
    rw [ha] at h1 h2 h3
    rw [rtake_cd (by omega) hn,if_pos h1,h3,bytesI_inj h2]
/-! ### Numbers -/
theorem or_add64 (a b : Int) (ha : 0 ≤ a) (ha2 : a < 72057594037927936) (hb : 0 ≤ b∧b ≤ 255) : orI .u64 (a * 256) b = a * 256 + b:=by
  obtain ⟨m,rfl⟩:=Int.eq_ofNat_of_zero_le ha
  obtain ⟨n,rfl⟩:=Int.eq_ofNat_of_zero_le hb.1
  unfold orI
  have h1 : BitVec.ofInt IntKind.u64.bits ((m : Int) * 256) = BitVec.ofNat 64 (m * 256):=by
    rw [show (m : Int) * 256 = ((m * 256 : Nat) : Int) by omega]; exact BitVec.ofInt_natCast ..
  have h2 : BitVec.ofInt IntKind.u64.bits (n : Int) = BitVec.ofNat 64 n:=BitVec.ofInt_natCast ..
  rw [h1,h2]
  have h3 : ((BitVec.ofNat 64 (m * 256) ||| BitVec.ofNat 64 n).toNat : Nat) = m * 256 + n:=by
    rw [BitVec.toNat_or,BitVec.toNat_ofNat,BitVec.toNat_ofNat,Nat.mod_eq_of_lt (by omega),Nat.mod_eq_of_lt (by omega)]
    have:=Nat.two_pow_add_eq_or_of_lt (i:=8) (b:=n) (by omega) m
    rw [Nat.mul_comm m 256]
    exact this.symm
  have e : IntKind.u64.wrap (((BitVec.ofNat 64 (m * 256) ||| BitVec.ofNat 64 n).toNat : Nat) : Int) = IntKind.u64.wrap ((m * 256 + n : Nat) : Int):=congrArg (fun z : Nat=>IntKind.u64.wrap (z : Int)) h3
  exact e.trans (by rw [wrapu64 (by omega) (by omega)]; omega)
def valL (l : List Int) : Int:=l.foldl (fun v b=>v * 256 + b) 0
theorem valL_snoc (l : List Int) (b : Int) : valL (l++[b]) = valL l * 256 + b:=by simp [valL,List.foldl_append]
theorem valL_lt (l : List Int) (n : Nat) (hl : l.length ≤ n) (h : ∀ x ∈ l,0 ≤ x∧x ≤ 255) : 0 ≤ valL l∧valL l < 256 ^ n:=by
  induction n generalizing l with
  | zero=>rw [List.length_eq_zero_iff.1 (Nat.le_zero.1 hl)]; decide
  | succ n ih=>
    rcases List.eq_nil_or_concat l with rfl | ⟨l',b,rfl⟩
    · have : (0 : Int) < 256 ^ (n + 1):=Int.pow_pos (by decide)
      exact ⟨Int.le_refl _,this⟩
    · rw [List.concat_eq_append] at hl h ⊢
      rw [List.length_append,List.length_singleton] at hl
      have h1:=ih l' (by omega) (fun x hx=>h x (List.mem_append_left _ hx))
      have h2:=h b (List.mem_append_right _ List.mem_cons_self)
      rw [valL_snoc,Int.pow_succ]
      omega
theorem val_loop {x : ByteArray} (hx : x.size ≤ 8) : loop (fun s=>m_conf_reader_number_s3 x s.1 s.2) (0,0) = some (valL (bytesI x)):=by
  have hl:=size_bytes x
  refine loop_run (bytesI x).length (fun k=>(valL ((bytesI x).take k),(k : Int))) _ rfl (fun k hk=>?_) ?_
  · have hr:=bytesI_range x
    have hb:=hr _ (List.getElem_mem hk)
    have h1:=valL_lt ((bytesI x).take k) 7 (by rw [List.length_take]; omega) (fun y hy=>hr y (List.mem_of_mem_take hy))
    have h2 : (256 : Int) ^ 7 = 72057594037927936:=by decide
    rw [h2] at h1
    show m_conf_reader_number_s3 x (valL ((bytesI x).take k)) (k : Int) = _
    rw [m_conf_reader_number_s3,if_pos (by omega),at_nat hk,Option.bind_some,wrapu64 (by omega) (by omega),wrapu64 (by omega) (by omega),or_add64 _ _ h1.1 h1.2 hb,List.take_succ_eq_append_getElem hk,valL_snoc,w64_succ (by omega)]
  · show m_conf_reader_number_s3 x (valL ((bytesI x).take (bytesI x).length)) ((bytesI x).length : Int) = _
    rw [m_conf_reader_number_s3,if_neg (by omega),List.take_length]
theorem rval_loop {x : ByteArray} (hx : x.size ≤ 8) (h0 : x.size = 8→byteAt x 0 ≤ 127) : loop (fun s=>m_ref13_reader_number_s3 x s.1 s.2) (0,0) = some (valL (bytesI x)):=by
  have hl:=size_bytes x
  refine loop_run (bytesI x).length (fun k=>(valL ((bytesI x).take k),(k : Int))) _ rfl (fun k hk=>?_) ?_
  · have hr:=bytesI_range x
    have hb:=hr _ (List.getElem_mem hk)
    have h1:=valL_lt ((bytesI x).take k) 7 (by rw [List.length_take]; omega) (fun y hy=>hr y (List.mem_of_mem_take hy))
    have h2 : (256 : Int) ^ 7 = 72057594037927936:=by decide
    rw [h2] at h1
    have h3 : valL ((bytesI x).take k) < 36028797018963968:=by
      by_cases h7 : k = 7
      · have h8 : x.size = 8:=by omega
        have h9:=h0 h8
        have hg:=bytesI_get x 0 (by omega)
        match hbx : bytesI x with
        | []=>
          exfalso
          have : (bytesI x).length = 0:=by rw [hbx]; rfl
          omega
        | a::l=>
          have ha : a = byteAt x 0:=by
            have : (bytesI x)[0]'(by omega) = a:=by simp [hbx]
            rw [← this]; exact hg
          have ht : (a::l).take k = [a]++l.take 6:=by rw [h7]; rfl
          rw [ht]
          have hlt : ∀ y ∈ l.take 6,0 ≤ y∧y ≤ 255:=fun y hy=>hr y (by rw [hbx]; exact List.mem_cons_of_mem _ (List.mem_of_mem_take hy))
          have gen : ∀ (q : List Int) (v : Int),(∀ y ∈ q,0 ≤ y∧y ≤ 255)→q.length ≤ 6→0 ≤ v→v ≤ 127→q.foldl (fun v b=>v * 256 + b) v < (128 : Int) * 256 ^ q.length:=by
            intro q v hq hq6 hv0 hv
            have : ∀ (q : List Int) (v : Int),(∀ y ∈ q,0 ≤ y∧y ≤ 255)→∀ u : Int,v < u→q.foldl (fun v b=>v * 256 + b) v < u * 256 ^ q.length:=by
              intro q
              induction q with
              | nil=>intro v _ u hu; simpa using hu
              | cons b q ih=>
                intro v hq u hu
                have hb:=hq b List.mem_cons_self
                have:=ih (v * 256 + b) (fun y hy=>hq y (List.mem_cons_of_mem _ hy)) (u * 256) (by omega)
                rw [List.foldl_cons,List.length_cons,Int.pow_succ,Int.mul_comm (256 ^ q.length) 256,← Int.mul_assoc]
                exact this
            exact this q v hq 128 (by omega)
          have h10:=gen (l.take 6) a hlt (by rw [List.length_take]; omega) (by have:=hr a (by rw [hbx]; exact List.mem_cons_self); omega) (by omega)
          have h11 : (l.take 6).length = 6:=by rw [List.length_take]; rw [hbx,List.length_cons] at hl; omega
          rw [h11] at h10
          have h12 : (128 : Int) * 256 ^ 6 = 36028797018963968:=by decide
          rw [h12] at h10
          show ([a]++l.take 6).foldl (fun v b=>v * 256 + b) 0 < _
          rw [List.foldl_append,List.foldl_cons,List.foldl_nil,Int.zero_mul,Int.zero_add]
          exact h10
      · have h4:=valL_lt ((bytesI x).take k) 6 (by rw [List.length_take]; omega) (fun y hy=>hr y (List.mem_of_mem_take hy))
        have h5 : (256 : Int) ^ 6 = 281474976710656:=by decide
        rw [h5] at h4
        omega
    show m_ref13_reader_number_s3 x (valL ((bytesI x).take k)) (k : Int) = _
    have hkx : k < x.size:=by omega
    rw [m_ref13_reader_number_s3,if_pos (by omega),sat_of (by omega) (by omega),Option.bind_some,← bytesI_get x k hkx,w64_id (x:=valL ((bytesI x).take k) * 256) (by omega) (by omega),w64_id (x:=(bytesI x)[k]) (by omega) (by omega),w64_id (x:=valL ((bytesI x).take k) * 256 + (bytesI x)[k]) (by omega) (by omega),List.take_succ_eq_append_getElem hk,valL_snoc,w64_succ (by omega)]
  · show m_ref13_reader_number_s3 x (valL ((bytesI x).take (bytesI x).length)) ((bytesI x).length : Int) = _
    rw [m_ref13_reader_number_s3,if_neg (by omega),List.take_length]
open Go.RowKit
theorem num_cd {s : ByteArray} {b : Bool} (hs : s.size ≤ 100000) {n : Nat} (hn : n ≤ 8) : m_conf_reader_number (n : Int) ⟨s,b⟩ =
    some (if n ≤ s.size then (min (valL (bytesI (s.extract 0 n))) 4611686018427387904,⟨s.extract n s.size,b || decide (4611686018427387904 < valL (bytesI (s.extract 0 n)))⟩) else (0,⟨s,true⟩)):=by
  rw [m_conf_reader_number,take_cd hs (by omega),Option.bind_some]
  by_cases h : n ≤ s.size
  · rw [if_pos h,if_pos h]
    have hz : (s.extract 0 n).size ≤ 8:=by rw [ByteArray.size_extract]; omega
    simp only
    rw [val_loop hz,Option.bind_some,m_conf_reader_number_j1]
    have hv:=valL_lt (bytesI (s.extract 0 n)) 8 (by rw [← size_bytes]; exact hz) (bytesI_range _)
    have hm : w64 (min (valL (bytesI (s.extract 0 n))) 4611686018427387904) = min (valL (bytesI (s.extract 0 n))) 4611686018427387904:=w64_id (by omega) (by omega)
    cases b with
    | true=>rw [if_pos rfl,m_conf_reader_number_j2,hm]; rfl
    | false=>rw [if_neg (show ¬ (false = true) by decide),m_conf_reader_number_j2,hm,Bool.false_or]
  · rw [if_neg h,if_neg h]
    simp only
    rw [val_loop (by decide),Option.bind_some]
    rfl
theorem num_tot {s : ByteArray} {b : Bool} (hs : s.size ≤ 100000) {n : Nat} (hn : n ≤ 8) : ∃ v t d,m_conf_reader_number (n : Int) ⟨s,b⟩ = some (v,⟨t,d⟩)∧t.size ≤ s.size∧0 ≤ v∧(n = 1→v ≤ 255)∧
    (d = false→b = false∧∃ l,l.length = n∧(∀ x ∈ l,0 ≤ x∧x ≤ 255)∧v = valL l∧v ≤ 4611686018427387904∧bytesI s = l++bytesI t):=by
  rw [num_cd hs hn]
  by_cases h : n ≤ s.size
  · rw [if_pos h]
    have hz : (s.extract 0 n).size = n:=by rw [ByteArray.size_extract]; omega
    have hv:=valL_lt (bytesI (s.extract 0 n)) 8 (by rw [← size_bytes]; omega) (bytesI_range _)
    refine ⟨_,_,_,rfl,by rw [ByteArray.size_extract]; omega,by omega,fun h1=>?_,fun hd=>?_⟩
    · have hv1:=valL_lt (bytesI (s.extract 0 n)) 1 (by rw [← size_bytes]; omega) (bytesI_range _)
      omega
    · rw [Bool.or_eq_false_iff,decide_eq_false_iff_not] at hd
      exact ⟨hd.1,bytesI (s.extract 0 n),by rw [← size_bytes]; exact hz,bytesI_range _,by omega,by omega,(cut_by h).symm⟩
  · rw [if_neg h]
    exact ⟨_,_,_,rfl,Nat.le_refl _,by omega,fun _=>by omega,fun hd=>by cases hd⟩
theorem num_full {s t : ByteArray} (hs : s.size ≤ 100000) {l : List Int} (hl : l.length ≤ 8) (hv : valL l ≤ 4611686018427387904) (h : bytesI s = l++bytesI t) : m_conf_reader_number (l.length : Int) ⟨s,false⟩ = some (valL l,⟨t,false⟩):=by
  obtain ⟨h1,h2,h3⟩:=cut_of h
  rw [num_cd hs hl,if_pos h1,h2,h3,decide_eq_false (by omega),Int.min_eq_left hv]; rfl
theorem rnum_tot {s : ByteArray} {b : Bool} (hs : s.size ≤ 100000) {n : Nat} (hn : n ≤ 8) : ∃ v t d,m_ref13_reader_number (n : Int) ⟨s,b⟩ = some (v,⟨t,d⟩)∧t.size ≤ s.size∧0 ≤ v∧(n = 1→v ≤ 255):=by
  rw [m_ref13_reader_number,rtake_cd hs (by omega),Option.bind_some]
  by_cases h : n ≤ s.size
  · rw [if_pos h]
    have hz : (s.extract 0 n).size = n:=by rw [ByteArray.size_extract]; omega
    have hv:=valL_lt (bytesI (s.extract 0 n)) 8 (by rw [← size_bytes]; omega) (bytesI_range _)
    have hts : (s.extract n s.size).size ≤ s.size:=by rw [ByteArray.size_extract]; omega
    have hv1 : n = 1→valL (bytesI (s.extract 0 n)) ≤ 255:=fun h1=>by
      have hv1:=valL_lt (bytesI (s.extract 0 n)) 1 (by rw [← size_bytes]; omega) (bytesI_range _)
      omega
    simp only
    by_cases h8 : ((s.extract 0 n).size : Int) = 8
    · rw [if_pos h8,sat_of (by omega) (by omega),Option.bind_some]
      by_cases hb : 127 < byteAt (s.extract 0 n) 0
      · rw [if_pos hb]
        exact ⟨_,_,_,rfl,hts,Int.le_refl _,fun _=>by omega⟩
      · rw [if_neg hb,m_ref13_reader_number_j1,rval_loop (by omega) (fun _=>by omega),Option.bind_some]
        exact ⟨_,_,_,rfl,hts,hv.1,hv1⟩
    · rw [if_neg h8,m_ref13_reader_number_j1,rval_loop (by omega) (fun q=>absurd (by omega) h8),Option.bind_some]
      exact ⟨_,_,_,rfl,hts,hv.1,hv1⟩
  · rw [if_neg h]
    simp only
    rw [if_neg (by decide),m_ref13_reader_number_j1,rval_loop (by decide) (fun q=>by cases q),Option.bind_some]
    exact ⟨_,_,_,rfl,Nat.le_refl _,by decide,fun _=>by decide⟩
theorem rnum_full {s t : ByteArray} (hs : s.size ≤ 100000) {l : List Int} (hl : l.length ≤ 8) (h8 : l.length = 8→l.headD 0 ≤ 127) (h : bytesI s = l++bytesI t) : m_ref13_reader_number (l.length : Int) ⟨s,false⟩ = some (valL l,⟨t,false⟩):=by
  obtain ⟨h1,h2,h3⟩:=cut_of h
  have hz : (s.extract 0 l.length).size = l.length:=by rw [size_bytes,h2]
  have hb : 0 < l.length→byteAt (s.extract 0 l.length) 0 = l.headD 0:=fun hp=>by
    have:=bytesI_get (s.extract 0 l.length) 0 (by omega)
    refine this.symm.trans ?_
    have h4 : (bytesI (s.extract 0 l.length))[0]? = l[0]?:=by rw [h2]
    rw [List.getElem?_eq_getElem (by rw [h2]; exact hp),List.getElem?_eq_getElem hp] at h4
    injection h4 with h4
    rw [h4]
    cases l with
    | nil=>cases hp
    | cons a l=>rfl
  rw [m_ref13_reader_number,rtake_cd hs (by omega),Option.bind_some,if_pos h1]
  simp only
  have hr : m_ref13_reader_number_j1 (s.extract 0 l.length) ⟨s.extract l.length s.size,false⟩ = some (valL l,⟨t,false⟩):=by
    rw [m_ref13_reader_number_j1,rval_loop (by omega) (fun q=>by rw [hb (by omega)]; exact h8 (by omega)),Option.bind_some,h2,h3]; rfl
  by_cases e8 : ((s.extract 0 l.length).size : Int) = 8
  · rw [if_pos e8,sat_of (by omega) (by omega),Option.bind_some,if_neg (by rw [hb (by omega)]; have:=h8 (by omega); omega),hr]
  · rw [if_neg e8,hr]
theorem val1 {l : List Int} (h : l.length = 1) (hr : ∀ x ∈ l,0 ≤ x∧x ≤ 255) : l = [valL l % 256]∧0 ≤ valL l∧valL l ≤ 255:=by
  match l,h with
  | [a],_=>
    have ha:=hr a List.mem_cons_self
    have e : valL [a] = a:=by simp [valL]
    rw [e]
    exact ⟨by rw [Int.emod_eq_of_lt (by omega) (by omega)],ha⟩
theorem val8 {l : List Int} (h : l.length = 8) (hr : ∀ x ∈ l,0 ≤ x∧x ≤ 255) : l = eightB (valL l):=by
  match l,h with
  | [a,b,c,d,e,f,g,i],_=>
    simp only [List.mem_cons,List.not_mem_nil,or_false,forall_eq_or_imp,forall_eq] at hr
    obtain ⟨h1,h2,h3,h4,h5,h6,h7,h8⟩:=hr
    have ev : valL [a,b,c,d,e,f,g,i] = (((((((a * 256 + b) * 256 + c) * 256 + d) * 256 + e) * 256 + f) * 256 + g) * 256 + i):=by simp [valL]
    rw [ev,eightB]
    congr 1
    · omega
    congr 1
    · omega
    congr 1
    · omega
    congr 1
    · omega
    congr 1
    · omega
    congr 1
    · omega
    congr 1
    · omega
    congr 1
    omega
theorem val_eight {v : Int} (h0 : 0 ≤ v) (h1 : v < 9223372036854775808) : valL (eightB v) = v:=by
  have ev : valL (eightB v) = (((((((v / 72057594037927936 % 256 * 256 + v / 281474976710656 % 256) * 256 + v / 1099511627776 % 256) * 256 + v / 4294967296 % 256) * 256 + v / 16777216 % 256) * 256 + v / 65536 % 256) * 256 + v / 256 % 256) * 256 + v % 256):=by simp [valL,eightB]
  have a1 : v / 256 * 256 + v % 256 = v:=by omega
  have a2 : v / 65536 * 256 + v / 256 % 256 = v / 256:=by omega
  have a3 : v / 16777216 * 256 + v / 65536 % 256 = v / 65536:=by omega
  have a4 : v / 4294967296 * 256 + v / 16777216 % 256 = v / 16777216:=by omega
  have a5 : v / 1099511627776 * 256 + v / 4294967296 % 256 = v / 4294967296:=by omega
  have a6 : v / 281474976710656 * 256 + v / 1099511627776 % 256 = v / 1099511627776:=by omega
  have a7 : v / 72057594037927936 * 256 + v / 281474976710656 % 256 = v / 281474976710656:=by omega
  have a8 : v / 72057594037927936 % 256 = v / 72057594037927936:=Int.emod_eq_of_lt (by omega) (by omega)
  rw [ev,a8,a7,a6,a5,a4,a3,a2,a1]
theorem c_num1 : CGet (m_conf_reader_number 1) (fun x=>[x % 256]) (fun x=>0 ≤ x∧x ≤ 255):=by
  refine ⟨fun s b hs=>?_,fun a s t ha hs h=>?_⟩
  · obtain ⟨v,t,d,h1,h2,h3,h4,h5⟩:=num_tot (s:=s) (b:=b) (by omega) (n:=1) (by omega)
    refine ⟨v,t,d,h1,h2,fun hd=>?_⟩
    obtain ⟨h6,l,h7,h8,h9,h10,h11⟩:=h5 hd
    obtain ⟨g1,g2⟩:=val1 h7 h8
    exact ⟨h6,by rw [h11,h9]; exact congrArg (·++bytesI t) g1,by rw [h9]; exact g2⟩
  · have e : valL [a % 256] = a:=by have ha : 0 ≤ a∧a ≤ 255:=ha; simp [valL]; omega
    have:=num_full (s:=s) (t:=t) (by omega) (l:=[a % 256]) (by simp) (by rw [e]; have ha : 0 ≤ a∧a ≤ 255:=ha; omega) h
    rwa [e] at this
theorem c_num8 : CGet (m_conf_reader_number 8) eightB (fun x=>0 ≤ x∧x ≤ 4611686018427387904):=by
  refine ⟨fun s b hs=>?_,fun a s t ha hs h=>?_⟩
  · obtain ⟨v,t,d,h1,h2,h3,h4,h5⟩:=num_tot (s:=s) (b:=b) (by omega) (n:=8) (by omega)
    refine ⟨v,t,d,h1,h2,fun hd=>?_⟩
    obtain ⟨h6,l,h7,h8,h9,h10,h11⟩:=h5 hd
    exact ⟨h6,by rw [h11,h9]; exact congrArg (·++bytesI t) (val8 h7 h8),h3,h10⟩
  · have ha : 0 ≤ a∧a ≤ 4611686018427387904:=ha
    have e:=val_eight ha.1 (by omega)
    have:=num_full (s:=s) (t:=t) (by omega) (l:=eightB a) (by simp [eightB]) (by rw [e]; omega) h
    rwa [e] at this
theorem r_num1 : RGet (m_ref13_reader_number 1) (fun x=>[x % 256]) (fun x=>0 ≤ x∧x ≤ 255) (fun x=>0 ≤ x∧x ≤ 255):=by
  refine ⟨fun s b hs=>?_,fun a s t ha hs h=>?_⟩
  · obtain ⟨v,t,d,h1,h2,h3,h4⟩:=rnum_tot (s:=s) (b:=b) (by omega) (n:=1) (by omega)
    exact ⟨v,t,d,h1,h2,h3,h4 rfl⟩
  · have e : valL [a % 256] = a:=by have ha : 0 ≤ a∧a ≤ 255:=ha; simp [valL]; omega
    have:=rnum_full (s:=s) (t:=t) (by omega) (l:=[a % 256]) (by simp) (fun q=>by simp at q) h
    rwa [e] at this
theorem r_num8 : RGet (m_ref13_reader_number 8) eightB (fun x=>0 ≤ x∧x ≤ 4611686018427387904) (fun _=>True):=by
  refine ⟨fun s b hs=>?_,fun a s t ha hs h=>?_⟩
  · obtain ⟨v,t,d,h1,h2,h3,h4⟩:=rnum_tot (s:=s) (b:=b) (by omega) (n:=8) (by omega)
    exact ⟨v,t,d,h1,h2,trivial⟩
  · have ha : 0 ≤ a∧a ≤ 4611686018427387904:=ha
    have e:=val_eight ha.1 (by omega)
    have:=rnum_full (s:=s) (t:=t) (by omega) (l:=eightB a) (by simp [eightB]) (fun _=>by show a / 72057594037927936 % 256 ≤ 127; omega) h
    rwa [e] at this
open Go.RowKit
/-- How the end of a name is looked for. -/
def walkS (r : ByteArray) (st : Int→Option (Int ⊕ Int)) : Prop:=∀ i : Nat,i ≤ r.size + 300→st (i : Int) = if (i : Int) < (r.size : Int) then (if byteAt r i ≠ 0 then some (.inl ((i : Int) + 1 + byteAt r i)) else some (.inr (i : Int))) else some (.inr (i : Int))
theorem walk_end {r : ByteArray} {st : Int→Option (Int ⊕ Int)} (hst : walkS r st) : ∃ A : Nat,loop st 0 = some (A : Int)∧A ≤ r.size + 300:=by
  obtain ⟨x,g1,A,rfl,g2⟩:=loop_rule (step:=st) (fun s=>∃ i : Nat,s = (i : Int)∧i ≤ r.size + 300) (fun s=>(r.size + 301 - s).toNat) (fun x=>∃ A : Nat,x = (A : Int)∧A ≤ r.size + 300)
    (by
      rintro s ⟨i,rfl,hi⟩
      rw [hst i hi]
      by_cases h : (i : Int) < (r.size : Int)
      · rw [if_pos h]
        by_cases hb : byteAt r i ≠ 0
        · left
          have:=byteAt_lt r i
          rw [if_pos hb]
          exact ⟨_,rfl,⟨i + 1 + (byteAt r i).toNat,by omega,by omega⟩,by omega⟩
        · right
          rw [if_neg hb]
          exact ⟨_,rfl,i,rfl,hi⟩
      · right
        rw [if_neg h]
        exact ⟨_,rfl,i,rfl,hi⟩)
    (s0:=0) ⟨0,rfl,by omega⟩
  exact ⟨A,g1,g2⟩
theorem walk_name {r : ByteArray} {st : Int→Option (Int ⊕ Int)} (hst : walkS r st) {tl : List Int} : ∀ (ls : List ByteArray) (pre : List Int),okLs ls→bytesI r = pre++encB ls++0::tl→loop st (pre.length : Int) = some (((pre++encB ls).length : Nat) : Int)
  | [],pre,_,h=>by
    have hl : pre.length < (bytesI r).length:=by rw [h]; simp [encB]
    have hsz:=size_bytes r
    have hb:=bytesI_get r pre.length (by omega)
    have h0 : (bytesI r)[pre.length] = 0:=by simp [h,encB]
    rw [h0] at hb
    have hs:=hst pre.length (by omega)
    rw [if_pos (by omega),← hb,if_neg (by simp)] at hs
    rw [loop_inr hs]
    simp [encB]
  | s::ls,pre,hok,h=>by
    have hs1:=hok s List.mem_cons_self
    have he : encB (s::ls) = (s.size : Int)::bytesI s++encB ls:=by simp [encB]
    have hl : pre.length < (bytesI r).length:=by rw [h,he]; simp
    have hsz:=size_bytes r
    have hss:=size_bytes s
    have hb:=bytesI_get r pre.length (by omega)
    have h0 : (bytesI r)[pre.length] = (s.size : Int):=by simp [h,he]
    rw [h0] at hb
    have hs:=hst pre.length (by omega)
    rw [if_pos (by omega),← hb,if_pos (by omega)] at hs
    rw [loop_inl hs]
    have:=walk_name hst (tl:=tl) ls (pre++((s.size : Int)::bytesI s)) (fun x hx=>hok x (List.mem_cons_of_mem _ hx)) (by rw [h,he]; simp)
    rw [show ((pre++((s.size : Int)::bytesI s)).length : Int) = (pre.length : Int) + 1 + (s.size : Int) by simp; omega] at this
    rw [this,he]
    simp
theorem walk_code {r : ByteArray} (hr : r.size ≤ 2000) (b : Bool) : walkS r (fun s=>m_conf_reader_name_s3 ⟨r,b⟩ s):=by
  intro i hi
  simp only [m_conf_reader_name_s3]
  by_cases h : (i : Int) < (r.size : Int)
  · have hb:=byteAt_lt r i
    rw [if_pos h,if_pos h,sat_of (by omega) h,Option.bind_some,Option.bind_some,w64_id (x:=byteAt r i) (by omega) (by omega),w64_id (x:=1 + byteAt r i) (by omega) (by omega),w64_id (by omega) (by omega),show (i : Int) + (1 + byteAt r i) = (i : Int) + 1 + byteAt r i by omega]
  · rw [if_neg h,if_neg h]
theorem rwalk_code {r : ByteArray} (hr : r.size ≤ 2000) : walkS r (fun s=>m_ref13_end_s2 r s):=by
  intro i hi
  simp only [m_ref13_end_s2]
  by_cases h : (i : Int) < (r.size : Int)
  · have hb:=byteAt_lt r i
    rw [if_pos h,if_pos h,sat_of (by omega) h,Option.bind_some,Option.bind_some,w64_id (x:=byteAt r i) (by omega) (by omega),w64_id (x:=(i : Int) + 1) (by omega) (by omega),w64_id (by omega) (by omega)]
  · rw [if_neg h,if_neg h]
open Classical in
theorem name_cd {r : ByteArray} {b : Bool} (hr : r.size ≤ 2000) {A : Nat} (hA : loop (fun s=>m_conf_reader_name_s3 ⟨r,b⟩ s) 0 = some (A : Int)) (hA2 : A ≤ r.size + 300) : m_conf_reader_name ⟨r,b⟩ = some (r.extract 0 (min (A + 1) r.size),⟨r.extract (min (A + 1) r.size) r.size,b || !decide (isNm (r.extract 0 (min (A + 1) r.size)))⟩):=by
  rw [m_conf_reader_name]
  erw [hA]
  rw [Option.bind_some,m_conf_reader_name_j1,w64_id (by omega) (by omega)]
  simp only
  rw [show min ((A : Int) + 1) (r.size : Int) = ((min (A + 1) r.size : Nat) : Int) by omega]
  generalize hn : min (A + 1) r.size = n
  have hnr : n ≤ r.size:=by omega
  rw [take_cd (by omega) (by omega),Option.bind_some,if_pos hnr]
  simp only
  cases b with
  | true=>rw [if_pos rfl,m_conf_reader_name_j2]; rfl
  | false=>rw [if_neg (by decide),named_cd (by rw [ByteArray.size_extract]; omega),Option.bind_some,m_conf_reader_name_j2]; rfl
theorem nm_end {r a t : ByteArray} (ha : isNm a) (h : bytesI r = bytesI a++bytesI t) {st : Int→Option (Int ⊕ Int)} (hst : walkS r st) : loop st 0 = some ((a.size - 1 : Nat) : Int)∧1 ≤ a.size∧a.size ≤ 255:=by
  obtain ⟨ls,⟨h1,h2⟩,h3⟩:=ha
  have hz : a.size = (encB ls).length + 1:=by rw [size_bytes,h2]; simp
  have:=walk_name hst (tl:=bytesI t) ls [] h1 (by rw [h,h2]; simp)
  refine ⟨this.trans ?_,by omega,h3⟩
  rw [List.nil_append]
  congr 2
  omega
theorem c_name : CGet m_conf_reader_name bytesI isNm:=by
  refine ⟨fun s b hs=>?_,fun a s t ha hs h=>?_⟩
  · obtain ⟨A,hA,hA2⟩:=walk_end (walk_code hs b)
    rw [name_cd hs hA hA2]
    refine ⟨_,_,_,rfl,by rw [ByteArray.size_extract]; omega,fun hd=>?_⟩
    rw [Bool.or_eq_false_iff] at hd
    have hn : isNm (s.extract 0 (min (A + 1) s.size)):=by
      have:=hd.2
      simpa using this
    exact ⟨hd.1,(cut_by (by omega)).symm,hn⟩
  · obtain ⟨h1,h2,h3⟩:=nm_end ha h (walk_code hs false)
    rw [name_cd hs h1 (by have:=cut_of h; rw [← size_bytes] at this; omega)]
    obtain ⟨g1,g2,g3⟩:=cut_of h
    rw [← size_bytes] at g1 g2 g3
    rw [show min (a.size - 1 + 1) s.size = a.size by omega,g3,bytesI_inj g2]
    simp [ha]
open Classical in
theorem end_cd {r : ByteArray} (hr : r.size ≤ 2000) {A : Nat} (hA : loop (fun s=>m_ref13_end_s2 r s) 0 = some (A : Int)) (hA2 : A ≤ r.size + 300) : m_ref13_end r = some (if A < r.size∧isNm (r.extract 0 (A + 1)) then (A : Int) + 1 else -1):=by
  rw [m_ref13_end]
  erw [hA]
  rw [Option.bind_some,m_ref13_end_j1]
  by_cases h : A < r.size
  · rw [if_neg (by omega),w64_id (by omega) (by omega),scutHi,if_pos ⟨by omega,by omega⟩,Option.bind_some,show ((A : Int) + 1).toNat = A + 1 by omega,rnamed_cd (by rw [ByteArray.size_extract]; omega),Option.bind_some]
    by_cases hn : isNm (r.extract 0 (A + 1))
    · rw [if_pos (decide_eq_true hn),if_pos ⟨h,hn⟩]
    · rw [if_neg (by simp [hn]),if_neg (fun g=>hn g.2)]
  · rw [if_pos (by omega),if_neg (fun g=>h g.1)]
theorem r_name : RGet m_ref13_reader_name bytesI isNm (fun a=>a.size ≤ 255):=by
  refine ⟨fun s b hs=>?_,fun a s t ha hs h=>?_⟩
  · obtain ⟨A,hA,hA2⟩:=walk_end (rwalk_code hs)
    rw [m_ref13_reader_name,end_cd hs hA hA2,Option.bind_some]
    by_cases g : A < s.size∧isNm (s.extract 0 (A + 1))
    · rw [if_pos g,if_neg (by omega),show (A : Int) + 1 = ((A + 1 : Nat) : Int) by omega,rtake_cd (by omega) (by omega),if_pos (by omega),Option.bind_some]
      refine ⟨_,_,_,rfl,by rw [ByteArray.size_extract]; omega,?_⟩
      obtain ⟨-,-,-,q⟩:=g
      exact q
    · rw [if_neg g,if_pos (by decide)]
      exact ⟨_,_,_,rfl,Nat.le_refl _,by decide⟩
  · obtain ⟨h1,h2,h3⟩:=nm_end ha h (rwalk_code hs)
    obtain ⟨g1,g2,g3⟩:=cut_of h
    rw [← size_bytes] at g1 g2 g3
    rw [m_ref13_reader_name,end_cd hs h1 (by omega),Option.bind_some,show a.size - 1 + 1 = a.size by omega,bytesI_inj g2,if_pos (show a.size - 1 < s.size∧isNm a from ⟨by omega,ha⟩),if_neg (by omega),show ((a.size - 1 : Nat) : Int) + 1 = (a.size : Int) by omega,rtake_cd (by omega) (by omega),if_pos g1,Option.bind_some,g3,bytesI_inj g2]
/-! ### Anchors and flushes -/
theorem c_anchor : CGet m_conf_Load_c3 anB (fun a=>isNm a.fName∧a.fText.size ≤ 255):=by
  refine ⟨fun s b hs=>?_,fun a s t ha hs h=>?_⟩
  · obtain ⟨n,s1,b1,e1,l1,f1⟩:=c_name.tot s b hs
    obtain ⟨k,s2,b2,e2,l2,k0,k1,f2⟩:=num_tot (s:=s1) (b:=b1) (by omega) (n:=1) (by omega)
    have kr:=k1 rfl
    obtain ⟨kn,rfl⟩:=Int.eq_ofNat_of_zero_le k0
    obtain ⟨x,s3,b3,e3,l3,f3⟩:=(c_take (n:=kn) (by omega)).tot s2 b2 (by omega)
    replace e2 : m_conf_reader_number 1 ⟨s1,b1⟩ = _:=e2
    refine ⟨⟨n,x⟩,s3,b3,?_,by omega,fun hd=>?_⟩
    · rw [m_conf_Load_c3,e1,Option.bind_some]
      simp only
      rw [e2,Option.bind_some]
      simp only
      rw [e3,Option.bind_some]
    · obtain ⟨hb2,g3,p3⟩:=f3 hd
      obtain ⟨hb1,l,q1,q2,q3,q4,q5⟩:=f2 hb2
      obtain ⟨hb,g1,p1⟩:=f1 hb1
      obtain ⟨w1,w2⟩:=val1 q1 q2
      have p3 : x.size = kn:=p3
      refine ⟨hb,?_,p1,by simp only; omega⟩
      rw [g1,q5,g3,anB,w1,← q3,p3]
      simp only [List.append_assoc]
  · obtain ⟨hn,ht⟩:=ha
    obtain ⟨n,x⟩:=a
    simp only at hn ht
    rw [anB] at h
    simp only [List.append_assoc] at h
    obtain ⟨s1,hs1,z1⟩:=tail_of h
    rw [← hs1] at h
    have e1:=c_name.full n s s1 hn hs h
    obtain ⟨s2,hs2,z2⟩:=tail_of hs1
    rw [← hs2] at hs1
    have e2:=c_num1.full (x.size : Int) s1 s2 ⟨by omega,by omega⟩ (by omega) hs1
    have e3:=(c_take (n:=x.size) (by omega)).full x s2 t rfl (by omega) hs2
    rw [m_conf_Load_c3,e1,Option.bind_some]
    simp only
    rw [e2,Option.bind_some]
    simp only
    rw [e3,Option.bind_some]
theorem c_flush : CGet m_conf_Load_c4 flB (fun f=>(0 ≤ f.fEpoch∧f.fEpoch ≤ 4611686018427387904)∧isNm f.fZone):=by
  refine ⟨fun s b hs=>?_,fun a s t ha hs h=>?_⟩
  · obtain ⟨k,s1,b1,e1,l1,f1⟩:=c_num8.tot s b hs
    obtain ⟨n,s2,b2,e2,l2,f2⟩:=c_name.tot s1 b1 (by omega)
    refine ⟨⟨k,n⟩,s2,b2,?_,by omega,fun hd=>?_⟩
    · rw [m_conf_Load_c4,e1,Option.bind_some]
      simp only
      rw [e2,Option.bind_some]
    · obtain ⟨hb1,g2,p2⟩:=f2 hd
      obtain ⟨hb,g1,p1⟩:=f1 hb1
      refine ⟨hb,?_,p1,p2⟩
      rw [g1,g2,flB,List.append_assoc]
  · obtain ⟨hk,hn⟩:=ha
    obtain ⟨k,n⟩:=a
    simp only at hk hn
    rw [flB] at h
    simp only [List.append_assoc] at h
    obtain ⟨s1,hs1,z1⟩:=tail_of h
    rw [← hs1] at h
    have e1:=c_num8.full k s s1 hk hs h
    have e2:=c_name.full n s1 t hn (by omega) hs1
    rw [m_conf_Load_c4,e1,Option.bind_some]
    simp only
    rw [e2,Option.bind_some]
theorem c_num1' : CGet m_conf_Load_c1 (fun x=>[x % 256]) (fun x=>0 ≤ x∧x ≤ 255):=by
  refine ⟨fun s b hs=>?_,fun a s t ha hs h=>?_⟩
  · obtain ⟨v,t,d,h1,h2⟩:=c_num1.tot s b hs
    exact ⟨v,t,d,by rw [m_conf_Load_c1,h1]; rfl,h2⟩
  · rw [m_conf_Load_c1,c_num1.full a s t ha hs h]; rfl
theorem c_take4' : CGet m_conf_Load_c2 bytesI (fun h=>h.size = 4):=by
  refine ⟨fun s b hs=>?_,fun a s t ha hs h=>?_⟩
  · obtain ⟨v,t,d,h1,h2⟩:=(c_take (n:=4) (by omega)).tot s b hs
    exact ⟨v,t,d,by rw [m_conf_Load_c2]; erw [h1]; rfl,h2⟩
  · have:=(c_take (n:=4) (by omega)).full a s t ha hs h
    rw [m_conf_Load_c2]; erw [this]; rfl
open Go.RowKit
def lsStep {α : Type} (m : Gconf_reader→Option (α×Gconf_reader)) (sz : Nat) (n : Int) : List α×Int×ByteArray×Bool→Option ((List α×Int×ByteArray×Bool) ⊕ ((List α×ByteArray×Bool) ⊕ (List α×Gconf_reader))):=fun s=>
  if s.2.1 < n then
    if s.2.2.2 = true then some (.inr (.inr (([] : List α),(⟨s.2.2.1,s.2.2.2⟩ : Gconf_reader))))
    else (m (⟨s.2.2.1,s.2.2.2⟩ : Gconf_reader)).bind fun z=>(app sz s.1 [z.1]).bind fun l=>some (.inl (l,w64 (s.2.1 + 1),z.2.fs,z.2.fbad))
  else some (.inr (.inl (s.1,s.2.2.1,s.2.2.2)))
noncomputable def lsRun {α : Type} (m : Gconf_reader→Option (α×Gconf_reader)) (sz : Nat) (o : Gconf_reader) : Option (List α×Gconf_reader):=
  (m_conf_reader_number 1 o).bind fun z=>(loop (lsStep m sz z.1) (([] : List α),0,z.2.fs,z.2.fbad)).bind fun e=>Sum.elim (fun e=>some (e.1,(⟨e.2.1,e.2.2⟩ : Gconf_reader))) (fun x=>some x) e
theorem ls64 : m_conf_list_64 = lsRun m_conf_Load_c1 8:=rfl
theorem ls67 : m_conf_list_67 = lsRun m_conf_Load_c2 16:=rfl
theorem ls70 : m_conf_list_70 = lsRun m_conf_Load_c3 32:=rfl
theorem ls73 : m_conf_list_73 = lsRun m_conf_Load_c4 24:=rfl
theorem ls_step {α : Type} {m : Gconf_reader→Option (α×Gconf_reader)} {sz n : Nat} {l : List α} {s t : ByteArray} {b d : Bool} {a : α} (hz : sz ≤ 1000) (hn : n ≤ 255) (hl : l.length < n) (hb : b = false) (h : m ⟨s,b⟩ = some (a,⟨t,d⟩)) :
    lsStep m sz (n : Int) (l,(l.length : Int),s,b) = some (.inl (l++[a],((l++[a]).length : Int),t,d)):=by
  have h1 : (l.length + 1) * sz ≤ 256 * 1000:=Nat.mul_le_mul (by omega) hz
  unfold lsStep
  simp only
  rw [if_pos (by omega),if_neg (by simp [hb]),h,Option.bind_some]
  simp only
  rw [app_of (by rw [List.length_singleton]; omega),Option.bind_some,w64_succ (by omega),List.length_append,List.length_singleton]
theorem c_list {α : Type} {m : Gconf_reader→Option (α×Gconf_reader)} {e : α→List Int} {P : α→Prop} (H : CGet m e P) {sz : Nat} (hz : sz ≤ 1000) :
    CGet (lsRun m sz) (fun l=>[(l.length : Int) % 256]++l.flatMap e) (fun l=>l.length ≤ 255∧∀ a ∈ l,P a):=by
  refine ⟨fun s b hs=>?_,fun a s t ha hs h=>?_⟩
  · obtain ⟨k,s1,b1,e1,l1,k0,k1,f1⟩:=num_tot (s:=s) (b:=b) (by omega) (n:=1) (by omega)
    have kr:=k1 rfl
    obtain ⟨n,rfl⟩:=Int.eq_ofNat_of_zero_le k0
    replace e1 : m_conf_reader_number 1 ⟨s,b⟩ = some ((n : Int),⟨s1,b1⟩):=e1
    obtain ⟨r,hr,l,t,d,g1,g2,g3⟩:=loop_rule (step:=lsStep m sz (n : Int)) (fun x=>∃ l t d,x = (l,(l.length : Int),t,d)∧l.length ≤ n∧t.size ≤ s1.size∧(d = false→b1 = false∧bytesI s1 = l.flatMap e++bytesI t∧∀ a ∈ l,P a))
      (fun x=>(n - x.2.1).toNat) (fun r=>∃ l t d,Sum.elim (fun e=>some (e.1,(⟨e.2.1,e.2.2⟩ : Gconf_reader))) (fun x=>some x) r = some (l,⟨t,d⟩)∧t.size ≤ s1.size∧(d = false→b1 = false∧l.length = n∧bytesI s1 = l.flatMap e++bytesI t∧∀ a ∈ l,P a))
      (by
        rintro x ⟨l,t,d,rfl,hl,ht,hd⟩
        by_cases hi : l.length < n
        · by_cases hb : d = true
          · right
            refine ⟨.inr ([],⟨t,d⟩),?_,[],t,d,rfl,ht,fun q=>by rw [hb] at q; cases q⟩
            unfold lsStep
            simp only
            rw [if_pos (by omega),if_pos hb]
          · left
            have hb' : d = false:=by simpa using hb
            obtain ⟨a,u,d',h1,h2,h3⟩:=H.tot t d (by omega)
            refine ⟨_,ls_step hz (by omega) hi hb' h1,⟨_,_,_,rfl,by rw [List.length_append,List.length_singleton]; omega,by omega,fun q=>?_⟩,?_⟩
            · obtain ⟨p1,p2,p3⟩:=h3 q
              obtain ⟨q1,q2,q3⟩:=hd p1
              refine ⟨q1,by rw [q2,p2,List.flatMap_append,List.flatMap_singleton,List.append_assoc],fun y hy=>?_⟩
              rcases List.mem_append.1 hy with hy | hy
              · exact q3 y hy
              · rw [List.mem_singleton] at hy; subst hy; exact p3
            · simp only [List.length_append,List.length_singleton]; omega
        · right
          have hln : l.length = n:=by omega
          refine ⟨.inl (l,t,d),?_,l,t,d,rfl,ht,fun q=>?_⟩
          · unfold lsStep
            simp only
            rw [if_neg (by omega)]
          · obtain ⟨q1,q2,q3⟩:=hd q
            exact ⟨q1,hln,q2,q3⟩)
      (s0:=([],0,s1,b1)) ⟨[],s1,b1,rfl,by simp,Nat.le_refl _,fun q=>⟨q,rfl,fun _ hh=>by cases hh⟩⟩
    refine ⟨l,t,d,?_,by omega,fun q=>?_⟩
    · unfold lsRun
      rw [e1,Option.bind_some,hr,Option.bind_some]
      exact g1
    · obtain ⟨q1,q2,q3,q4⟩:=g3 q
      obtain ⟨p1,y,p2,p3,p4,p5,p6⟩:=f1 q1
      obtain ⟨w1,w2⟩:=val1 p2 p3
      refine ⟨p1,?_,by omega,q4⟩
      rw [p6,q3,w1,← p4,q2,List.append_assoc]
  · obtain ⟨hl,hP⟩:=ha
    simp only [List.append_assoc] at h
    obtain ⟨s1,hs1,z1⟩:=tail_of h
    rw [← hs1] at h
    have e1:=c_num1.full (a.length : Int) s s1 ⟨by omega,by omega⟩ hs h
    have key : ∀ (l2 l1 : List α) (u : ByteArray),a = l1++l2→u.size ≤ 2000→bytesI u = l2.flatMap e++bytesI t→loop (lsStep m sz (a.length : Int)) (l1,(l1.length : Int),u,false) = some (.inl (a,t,false)):=by
      intro l2
      induction l2 with
      | nil=>
        intro l1 u h1 hu h2
        rw [List.append_nil] at h1
        subst h1
        rw [List.flatMap_nil,List.nil_append] at h2
        rw [bytesI_inj h2]
        refine loop_inr ?_
        unfold lsStep
        simp only
        rw [if_neg (by omega)]
      | cons x l2 ih=>
        intro l1 u h1 hu h2
        rw [List.flatMap_cons,List.append_assoc] at h2
        obtain ⟨v,hv,zv⟩:=tail_of h2
        rw [← hv] at h2
        have e2:=H.full x u v (hP x (by rw [h1]; simp)) hu h2
        have hlen : a.length = l1.length + (l2.length + 1):=by rw [h1,List.length_append,List.length_cons]
        rw [loop_inl (ls_step hz hl (by omega) rfl e2)]
        exact ih (l1++[x]) v (by rw [h1]; simp) (by omega) hv
    have e3:=key a [] s1 rfl (by omega) hs1
    unfold lsRun
    rw [e1,Option.bind_some]
    simp only
    replace e3 : loop (lsStep m sz (a.length : Int)) ([],0,s1,false) = some (.inl (a,t,false)):=e3
    rw [e3,Option.bind_some]
    rfl
/-! ### The reference's lists -/
def rlStep {α : Type} (m : Gref13_reader→Option (α×Gref13_reader)) (sz : Nat) (n : Int) : List α×Int×ByteArray×Bool→Option ((List α×Int×ByteArray×Bool) ⊕ (List α×ByteArray×Bool)):=fun s=>
  if s.2.1 < n then
    if s.2.2.2 = true then some (.inr (s.1,s.2.2.1,s.2.2.2))
    else (m (⟨s.2.2.1,s.2.2.2⟩ : Gref13_reader)).bind fun z=>(app sz s.1 [z.1]).bind fun l=>some (.inl (l,w64 (s.2.1 + 1),z.2.fs,z.2.fbad))
  else some (.inr (s.1,s.2.2.1,s.2.2.2))
theorem rl_step {α : Type} {m : Gref13_reader→Option (α×Gref13_reader)} {sz n : Nat} {l : List α} {s t : ByteArray} {b d : Bool} {a : α} (hz : sz ≤ 1000) (hn : n ≤ 255) (hl : l.length < n) (hb : b = false) (h : m ⟨s,b⟩ = some (a,⟨t,d⟩)) :
    rlStep m sz (n : Int) (l,(l.length : Int),s,b) = some (.inl (l++[a],((l++[a]).length : Int),t,d)):=by
  have h1 : (l.length + 1) * sz ≤ 256 * 1000:=Nat.mul_le_mul (by omega) hz
  unfold rlStep
  simp only
  rw [if_pos (by omega),if_neg (by simp [hb]),h,Option.bind_some]
  simp only
  rw [app_of (by rw [List.length_singleton]; omega),Option.bind_some,w64_succ (by omega),List.length_append,List.length_singleton]
theorem rl_tot {α : Type} {m : Gref13_reader→Option (α×Gref13_reader)} {e : α→List Int} {P Q : α→Prop} (H : RGet m e P Q) {sz : Nat} (hz : sz ≤ 1000) {n : Int} (hn : 0 ≤ n∧n ≤ 255) (s : ByteArray) (b : Bool) (hs : s.size ≤ 2000) :
    ∃ l t d,loop (rlStep m sz n) ([],0,s,b) = some (l,t,d)∧t.size ≤ s.size∧l.length ≤ 255∧∀ a ∈ l,Q a:=by
  obtain ⟨k,rfl⟩:=Int.eq_ofNat_of_zero_le hn.1
  obtain ⟨⟨l,t,d⟩,h1,h2⟩:=loop_rule (step:=rlStep m sz (k : Int)) (fun x=>∃ l t d,x = (l,(l.length : Int),t,d)∧l.length ≤ k∧t.size ≤ s.size∧∀ a ∈ l,Q a)
    (fun x=>(k - x.2.1).toNat) (fun r=>r.2.1.size ≤ s.size∧r.1.length ≤ 255∧∀ a ∈ r.1,Q a)
    (by
      rintro x ⟨l,t,d,rfl,hl,ht,hq⟩
      by_cases hi : l.length < k
      · by_cases hb : d = true
        · right
          refine ⟨(l,t,d),?_,ht,by show l.length ≤ 255; omega,hq⟩
          unfold rlStep
          simp only
          rw [if_pos (by omega),if_pos hb]
        · left
          have hb' : d = false:=by simpa using hb
          obtain ⟨a,u,d',h1,h2,h3⟩:=H.tot t d (by omega)
          refine ⟨_,rl_step hz (by omega) hi hb' h1,⟨_,_,_,rfl,by rw [List.length_append,List.length_singleton]; omega,by omega,fun y hy=>?_⟩,?_⟩
          · rcases List.mem_append.1 hy with hy | hy
            · exact hq y hy
            · rw [List.mem_singleton] at hy; subst hy; exact h3
          · simp only [List.length_append,List.length_singleton]; omega
      · right
        refine ⟨(l,t,d),?_,ht,by show l.length ≤ 255; omega,hq⟩
        unfold rlStep
        simp only
        rw [if_neg (by omega)])
    (s0:=([],0,s,b)) ⟨[],s,b,rfl,by simp,Nat.le_refl _,fun _ hh=>by cases hh⟩
  exact ⟨l,t,d,h1,h2⟩
theorem rl_full {α : Type} {m : Gref13_reader→Option (α×Gref13_reader)} {e : α→List Int} {P Q : α→Prop} (H : RGet m e P Q) {sz : Nat} (hz : sz ≤ 1000) {a : List α} (hl : a.length ≤ 255) (hP : ∀ x ∈ a,P x) (s t : ByteArray) (hs : s.size ≤ 2000) (h : bytesI s = a.flatMap e++bytesI t) :
    loop (rlStep m sz (a.length : Int)) ([],0,s,false) = some (a,t,false):=by
  have key : ∀ (l2 l1 : List α) (u : ByteArray),a = l1++l2→u.size ≤ 2000→bytesI u = l2.flatMap e++bytesI t→loop (rlStep m sz (a.length : Int)) (l1,(l1.length : Int),u,false) = some (a,t,false):=by
    intro l2
    induction l2 with
    | nil=>
      intro l1 u h1 hu h2
      rw [List.append_nil] at h1
      subst h1
      rw [List.flatMap_nil,List.nil_append] at h2
      rw [bytesI_inj h2]
      refine loop_inr ?_
      unfold rlStep
      simp only
      rw [if_neg (by omega)]
    | cons x l2 ih=>
      intro l1 u h1 hu h2
      rw [List.flatMap_cons,List.append_assoc] at h2
      obtain ⟨v,hv,zv⟩:=tail_of h2
      rw [← hv] at h2
      have e2:=H.full x u v (hP x (by rw [h1]; simp)) hu h2
      have hlen : a.length = l1.length + (l2.length + 1):=by rw [h1,List.length_append,List.length_cons]
      rw [loop_inl (rl_step hz hl (by omega) rfl e2)]
      exact ih (l1++[x]) v (by rw [h1]; simp) (by omega) hv
  exact key a [] s rfl hs h
noncomputable def rAn (o : Gref13_reader) : Option (GAnchor×Gref13_reader):=
  (m_ref13_reader_name o).bind fun z=>(m_ref13_reader_number 1 z.2).bind fun y=>(m_ref13_reader_take y.1 y.2).bind fun x=>some ((⟨z.1,x.1⟩ : GAnchor),x.2)
noncomputable def rFl (o : Gref13_reader) : Option (GFlush×Gref13_reader):=
  (m_ref13_reader_number 8 o).bind fun z=>(m_ref13_reader_name z.2).bind fun y=>some ((⟨z.1,y.1⟩ : GFlush),y.2)
theorem r_anchor : RGet rAn anB (fun a=>isNm a.fName∧a.fText.size ≤ 255) (fun a=>a.fName.size ≤ 255):=by
  refine ⟨fun s b hs=>?_,fun a s t ha hs h=>?_⟩
  · obtain ⟨n,s1,b1,e1,l1,f1⟩:=r_name.tot s b hs
    obtain ⟨k,s2,b2,e2,l2,k0,k1⟩:=r_num1.tot s1 b1 (by omega)
    obtain ⟨kn,rfl⟩:=Int.eq_ofNat_of_zero_le k0
    obtain ⟨x,s3,b3,e3,l3,-⟩:=(r_take (n:=kn) (by omega)).tot s2 b2 (by omega)
    refine ⟨⟨n,x⟩,s3,b3,?_,by omega,f1⟩
    rw [rAn,e1,Option.bind_some]
    simp only
    rw [e2,Option.bind_some]
    simp only
    rw [e3,Option.bind_some]
  · obtain ⟨hn,ht⟩:=ha
    obtain ⟨n,x⟩:=a
    simp only at hn ht
    rw [anB] at h
    simp only [List.append_assoc] at h
    obtain ⟨s1,hs1,z1⟩:=tail_of h
    rw [← hs1] at h
    have e1:=r_name.full n s s1 hn hs h
    obtain ⟨s2,hs2,z2⟩:=tail_of hs1
    rw [← hs2] at hs1
    have e2:=r_num1.full (x.size : Int) s1 s2 ⟨by omega,by omega⟩ (by omega) hs1
    have e3:=(r_take (n:=x.size) (by omega)).full x s2 t rfl (by omega) hs2
    rw [rAn,e1,Option.bind_some]
    simp only
    rw [e2,Option.bind_some]
    simp only
    rw [e3,Option.bind_some]
theorem r_flush : RGet rFl flB (fun f=>(0 ≤ f.fEpoch∧f.fEpoch ≤ 4611686018427387904)∧isNm f.fZone) (fun f=>f.fZone.size ≤ 255):=by
  refine ⟨fun s b hs=>?_,fun a s t ha hs h=>?_⟩
  · obtain ⟨k,s1,b1,e1,l1,-⟩:=r_num8.tot s b hs
    obtain ⟨n,s2,b2,e2,l2,f2⟩:=r_name.tot s1 b1 (by omega)
    refine ⟨⟨k,n⟩,s2,b2,?_,by omega,f2⟩
    rw [rFl,e1,Option.bind_some]
    simp only
    rw [e2,Option.bind_some]
  · obtain ⟨hk,hn⟩:=ha
    obtain ⟨k,n⟩:=a
    simp only at hk hn
    rw [flB] at h
    simp only [List.append_assoc] at h
    obtain ⟨s1,hs1,z1⟩:=tail_of h
    rw [← hs1] at h
    have e1:=r_num8.full k s s1 hk hs h
    have e2:=r_name.full n s1 t hn (by omega) hs1
    rw [rFl,e1,Option.bind_some]
    simp only
    rw [e2,Option.bind_some]
theorem rl8 (n : Int) : (fun s : List Int×Int×ByteArray×Bool=>m_ref13_Load_s8 n s.1 s.2.1 s.2.2.1 s.2.2.2) = rlStep (m_ref13_reader_number 1) 8 n:=rfl
theorem rl7 (n : Int) : (fun s : List ByteArray×Int×ByteArray×Bool=>m_ref13_Load_s7 n s.1 s.2.1 s.2.2.1 s.2.2.2) = rlStep (m_ref13_reader_take 4) 16 n:=rfl
theorem rl6 (n : Int) : (fun s : List GAnchor×Int×ByteArray×Bool=>m_ref13_Load_s6 n s.1 s.2.1 s.2.2.1 s.2.2.2) = rlStep rAn 32 n:=by
  funext s
  unfold m_ref13_Load_s6 rlStep rAn
  simp only [Option.bind_assoc,Option.bind_some]
theorem rl5 (n : Int) : (fun s : List GFlush×Int×ByteArray×Bool=>m_ref13_Load_s5 n s.1 s.2.1 s.2.2.1 s.2.2.2) = rlStep rFl 24 n:=by
  funext s
  unfold m_ref13_Load_s5 rlStep rFl
  simp only [Option.bind_assoc,Option.bind_some]
open Go.RowKit
def zeroC : GConf:=⟨[],[],[],0,[]⟩
theorem of_gd {α : Type} {l : List α} {d : α} {p : α→Prop} (h : ∀ k,k < l.length→p (l.getD k d)) : ∀ a ∈ l,p a:=fun a ha=>by
  obtain ⟨k,hk,rfl⟩:=List.getElem_of_mem ha
  have:=h k hk
  rwa [List.getD_eq_getElem?_getD,List.getElem?_eq_getElem hk] at this
structure PartsC (c : GConf) : Prop where
  r : c.fRing.length ≤ 255∧∀ x ∈ c.fRing,0 ≤ x∧x ≤ 255
  h : c.fHints.length ≤ 255∧∀ h ∈ c.fHints,h.size = 4
  a : c.fAnchors.length ≤ 255∧∀ a ∈ c.fAnchors,isNm a.fName∧a.fText.size ≤ 255
  e : 0 ≤ c.fEpoch∧c.fEpoch ≤ 4611686018427387904
  f : c.fFlushes.length ≤ 255∧∀ f ∈ c.fFlushes,(0 ≤ f.fEpoch∧f.fEpoch ≤ 4611686018427387904)∧isNm f.fZone
theorem parts_of {c : GConf} (g : RightG c) : PartsC c:=by
  have n1:=ring_small g.ring
  have n2:=g.hn
  have n3:=g.al
  have n4:=g.fn
  have n5:=g.ep
  refine ⟨⟨by omega,of_gd (d:=0) fun k hk=>?_⟩,⟨by omega,hint_size g⟩,⟨by omega,of_gd (d:=zeroAn) fun k hk=>?_⟩,⟨n5.1,by omega⟩,⟨by omega,of_gd (d:=zeroFl) fun k hk=>?_⟩⟩
  · have:=(g.ring k hk).1
    omega
  · have:=g.an k hk
    exact ⟨this.1,by have:=this.2.2.1; omega⟩
  · have:=(g.fl k hk).1
    exact ⟨⟨by omega,by omega⟩,this.1⟩
theorem nm_le {n : ByteArray} (h : isNm n) : n.size ≤ 255:=by obtain ⟨_,-,h⟩:=h; exact h
theorem sm_parts {c : GConf} (p : PartsC c) : SmC c:=
  ⟨by have:=p.r.1; omega,by have:=p.h.1; omega,by have:=p.a.1; omega,by have:=p.f.1; omega,fun a ha=>by have:=nm_le (p.a.2 a ha).1; omega,fun a ha=>by have:=nm_le (p.f.2 a ha).2; omega⟩
theorem snap_range (c : GConf) : ∀ x ∈ snapL c,0 ≤ x∧x ≤ 255:=by
  intro x hx
  have e8 : ∀ v : Int,x ∈ eightB v→0 ≤ x∧x ≤ 255:=fun v hv=>by
    simp only [eightB,List.mem_cons,List.not_mem_nil,or_false] at hv
    omega
  simp only [snapL,ringB,List.mem_append,List.mem_flatMap,List.mem_singleton] at hx
  rcases hx with hx | ⟨_,_,hx⟩ | hx | ⟨_,_,hx⟩ | hx | ⟨_,_,hx⟩ | hx | hx | ⟨_,_,hx⟩
  · omega
  · omega
  · omega
  · exact bytesI_range _ _ hx
  · omega
  · simp only [anB,List.mem_append,List.mem_singleton] at hx
    rcases hx with hx | hx | hx
    · exact bytesI_range _ _ hx
    · omega
    · exact bytesI_range _ _ hx
  · exact e8 _ hx
  · omega
  · simp only [flB,List.mem_append] at hx
    rcases hx with hx | hx
    · exact e8 _ hx
    · exact bytesI_range _ _ hx
theorem load_sound {s : ByteArray} (hs : s.size ≤ 2000) : ∃ r,m_conf_Load s = some r∧((RightG r.1∧r.2 = 0∧bytesI s = snapL r.1) ∨ r = (zeroC,10)):=by
  obtain ⟨l1,s1,b1,e1,z1,f1⟩:=(c_list c_num1' (sz:=8) (by omega)).tot s false hs
  obtain ⟨l2,s2,b2,e2,z2,f2⟩:=(c_list c_take4' (sz:=16) (by omega)).tot s1 b1 (by omega)
  obtain ⟨l3,s3,b3,e3,z3,f3⟩:=(c_list c_anchor (sz:=32) (by omega)).tot s2 b2 (by omega)
  obtain ⟨k,s4,b4,e4,z4,f4⟩:=c_num8.tot s3 b3 (by omega)
  obtain ⟨l5,s5,b5,e5,z5,f5⟩:=(c_list c_flush (sz:=24) (by omega)).tot s4 b4 (by omega)
  rw [m_conf_Load,ls64,ls67,ls70,ls73,e1,Option.bind_some]
  simp only
  rw [e2,Option.bind_some]
  simp only
  rw [e3,Option.bind_some]
  simp only
  rw [e4,Option.bind_some]
  simp only
  rw [e5,Option.bind_some]
  simp only
  cases b5 with
  | true=>rw [if_pos rfl]; exact ⟨_,rfl,.inr rfl⟩
  | false=>
    obtain ⟨q4,w5,p5⟩:=f5 rfl
    obtain ⟨q3,w4,p4⟩:=f4 q4
    obtain ⟨q2,w3,p3⟩:=f3 q3
    obtain ⟨q1,w2,p2⟩:=f2 q2
    obtain ⟨q0,w1,p1⟩:=f1 q1
    rw [if_neg (by decide)]
    by_cases h5 : s5 = ⟨#[]⟩
    · rw [if_pos h5,right_code (sm_parts (c:=⟨l1,l2,l3,k,l5⟩) ⟨p1,p2,p3,p4,p5⟩),Option.bind_some]
      by_cases g : RightG ⟨l1,l2,l3,k,l5⟩
      · rw [if_pos (by simp [g])]
        refine ⟨_,rfl,.inl ⟨g,rfl,?_⟩⟩
        have h6 : bytesI s5 = []:=by rw [h5]; rfl
        rw [w1,w2,w3,w4,w5,h6,List.append_nil]
        simp only [snapL,ringB,List.append_assoc]
      · rw [if_neg (by simp [g])]; exact ⟨_,rfl,.inr rfl⟩
    · rw [if_neg h5]; exact ⟨_,rfl,.inr rfl⟩
theorem load_full {s : ByteArray} (hs : s.size ≤ 2000) {c : GConf} (g : RightG c) (h : bytesI s = snapL c) : m_conf_Load s = some (c,0):=by
  have p:=parts_of g
  obtain ⟨r,hi,an,ep,fl⟩:=c
  have h1 : bytesI s = ([(r.length : Int) % 256]++r.flatMap fun x=>[x % 256])++(([(hi.length : Int) % 256]++hi.flatMap bytesI)++(([(an.length : Int) % 256]++an.flatMap anB)++(eightB ep++(([(fl.length : Int) % 256]++fl.flatMap flB)++bytesI ⟨#[]⟩)))):=by
    rw [h,show bytesI (⟨#[]⟩ : ByteArray) = [] from rfl]
    simp only [snapL,ringB,List.append_assoc,List.append_nil]
  obtain ⟨s1,g1,z1⟩:=tail_of h1
  rw [← g1] at h1
  obtain ⟨s2,g2,z2⟩:=tail_of g1
  rw [← g2] at g1
  obtain ⟨s3,g3,z3⟩:=tail_of g2
  rw [← g3] at g2
  obtain ⟨s4,g4,z4⟩:=tail_of g3
  rw [← g4] at g3
  have e1:=(c_list c_num1' (sz:=8) (by omega)).full r s s1 p.r hs h1
  have e2:=(c_list c_take4' (sz:=16) (by omega)).full hi s1 s2 p.h (by omega) g1
  have e3:=(c_list c_anchor (sz:=32) (by omega)).full an s2 s3 p.a (by omega) g2
  have e4:=c_num8.full ep s3 s4 p.e (by omega) g3
  have e5:=(c_list c_flush (sz:=24) (by omega)).full fl s4 ⟨#[]⟩ p.f (by omega) g4
  rw [m_conf_Load,ls64,ls67,ls70,ls73,e1,Option.bind_some]
  simp only
  rw [e2,Option.bind_some]
  simp only
  rw [e3,Option.bind_some]
  simp only
  rw [e4,Option.bind_some]
  simp only
  rw [e5,Option.bind_some]
  simp only
  rw [if_neg (by decide),if_pos trivial,right_code (sm_parts p),Option.bind_some,if_pos (by simp [g])]
open Classical in
theorem rj4 {r : List Int} {hi : List ByteArray} {an : List GAnchor} {ep : Int} {fl : List GFlush} {s u : ByteArray} {b : Bool} (hc : SmC ⟨r,hi,an,ep,fl⟩) : m_ref13_Load_j4 r hi an ep s fl u b = some (if b = false∧RightG ⟨r,hi,an,ep,fl⟩∧bytesI s = snapL ⟨r,hi,an,ep,fl⟩ then (⟨r,hi,an,ep,fl⟩,0) else (zeroC,10)):=by
  rw [m_ref13_Load_j4,right_ref hc,Option.bind_some]
  cases b with
  | true=>rw [if_pos rfl,if_neg (by simp)]; rfl
  | false=>
    rw [if_neg (by decide)]
    by_cases g : RightG ⟨r,hi,an,ep,fl⟩
    · rw [if_pos (by simp [g]),snap_ref hc,Option.bind_some,if_pos g]
      have hx:=bytesI_str (snap_range ⟨r,hi,an,ep,fl⟩)
      by_cases e : strOfNums (snapL ⟨r,hi,an,ep,fl⟩) = s
      · have hb : bytesI s = snapL ⟨r,hi,an,ep,fl⟩:=by rw [← e]; exact hx
        have hne : ¬ s = ⟨#[]⟩:=fun q=>by
          rw [q] at hb
          have : (snapL ⟨r,hi,an,ep,fl⟩).length = 0:=by rw [← hb]; rfl
          simp [snapL] at this
        rw [if_pos e,if_neg hne,if_pos ⟨rfl,g,hb⟩]
      · rw [if_neg e,if_neg (fun q=>e (by rw [← q.2.2,str_by]))]; rfl
    · rw [if_neg (by simp [g]),if_neg (fun q=>g q.2.1)]; rfl
theorem rload {s : ByteArray} (hs : s.size ≤ 2000) : ∃ r,m_ref13_Load s = some r∧((RightG r.1∧r.2 = 0∧bytesI s = snapL r.1) ∨ r = (zeroC,10)):=by
  obtain ⟨n1,t1,d1,e1,z1,q1⟩:=r_num1.tot s false hs
  obtain ⟨l1,s1,b1,f1,y1,y1',-⟩:=rl_tot r_num1 (sz:=8) (by omega) q1 t1 d1 (by omega)
  obtain ⟨n2,t2,d2,e2,z2,q2⟩:=r_num1.tot s1 b1 (by omega)
  obtain ⟨l2,s2,b2,f2,y2,y2',-⟩:=rl_tot (r_take (n:=4) (by omega)) (sz:=16) (by omega) q2 t2 d2 (by omega)
  obtain ⟨n3,t3,d3,e3,z3,q3⟩:=r_num1.tot s2 b2 (by omega)
  obtain ⟨l3,s3,b3,f3,y3,y3',p3⟩:=rl_tot r_anchor (sz:=32) (by omega) q3 t3 d3 (by omega)
  obtain ⟨ep,t4,d4,e4,z4,-⟩:=r_num8.tot s3 b3 (by omega)
  obtain ⟨n5,t5,d5,e5,z5,q5⟩:=r_num1.tot t4 d4 (by omega)
  obtain ⟨l5,s5,b5,f5,y5,y5',p5⟩:=rl_tot r_flush (sz:=24) (by omega) q5 t5 d5 (by omega)
  rw [m_ref13_Load,e1,Option.bind_some,rl8]
  simp only
  rw [f1,Option.bind_some,m_ref13_Load_j1]
  simp only
  rw [e2,Option.bind_some,rl7]
  simp only
  erw [f2]
  rw [Option.bind_some,m_ref13_Load_j2]
  simp only
  rw [e3,Option.bind_some,rl6]
  simp only
  rw [f3,Option.bind_some,m_ref13_Load_j3]
  simp only
  rw [e4,Option.bind_some]
  simp only
  rw [e5,Option.bind_some,rl5]
  simp only
  rw [f5,Option.bind_some]
  simp only
  rw [rj4 ⟨by simp only; omega,by simp only; omega,by simp only; omega,by simp only; omega,fun a ha=>by have:=p3 a ha; omega,fun a ha=>by have:=p5 a ha; omega⟩]
  refine ⟨_,rfl,?_⟩
  split
  · rename_i g
    exact .inl ⟨g.2.1,rfl,g.2.2⟩
  · exact .inr rfl
theorem rload_full {s : ByteArray} (hs : s.size ≤ 2000) {c : GConf} (g : RightG c) (h : bytesI s = snapL c) : m_ref13_Load s = some (c,0):=by
  have p:=parts_of g
  obtain ⟨r,hi,an,ep,fl⟩:=c
  have h1 : bytesI s = [(r.length : Int) % 256]++((r.flatMap fun x=>[x % 256])++([(hi.length : Int) % 256]++(hi.flatMap bytesI++([(an.length : Int) % 256]++(an.flatMap anB++(eightB ep++([(fl.length : Int) % 256]++(fl.flatMap flB++bytesI ⟨#[]⟩)))))))):=by
    rw [h,show bytesI (⟨#[]⟩ : ByteArray) = [] from rfl]
    simp only [snapL,ringB,List.append_nil]
  obtain ⟨s1,g1,z1⟩:=tail_of h1
  rw [← g1] at h1
  obtain ⟨s2,g2,z2⟩:=tail_of g1
  rw [← g2] at g1
  obtain ⟨s3,g3,z3⟩:=tail_of g2
  rw [← g3] at g2
  obtain ⟨s4,g4,z4⟩:=tail_of g3
  rw [← g4] at g3
  obtain ⟨s5,g5,z5⟩:=tail_of g4
  rw [← g5] at g4
  obtain ⟨s6,g6,z6⟩:=tail_of g5
  rw [← g6] at g5
  obtain ⟨s7,g7,z7⟩:=tail_of g6
  rw [← g7] at g6
  obtain ⟨s8,g8,z8⟩:=tail_of g7
  rw [← g8] at g7
  have pr:=p.r
  have ph:=p.h
  have pa:=p.a
  have pf:=p.f
  simp only at pr ph pa pf
  have e1:=r_num1.full (r.length : Int) s s1 ⟨by omega,by omega⟩ hs h1
  have f1:=rl_full r_num1 (sz:=8) (by omega) pr.1 pr.2 s1 s2 (by omega) g1
  have e2:=r_num1.full (hi.length : Int) s2 s3 ⟨by omega,by omega⟩ (by omega) g2
  have f2:=rl_full (r_take (n:=4) (by omega)) (sz:=16) (by omega) ph.1 ph.2 s3 s4 (by omega) g3
  have e3:=r_num1.full (an.length : Int) s4 s5 ⟨by omega,by omega⟩ (by omega) g4
  have f3:=rl_full r_anchor (sz:=32) (by omega) pa.1 pa.2 s5 s6 (by omega) g5
  have e4:=r_num8.full ep s6 s7 p.e (by omega) g6
  have e5:=r_num1.full (fl.length : Int) s7 s8 ⟨by omega,by omega⟩ (by omega) g7
  have f5:=rl_full r_flush (sz:=24) (by omega) pf.1 pf.2 s8 ⟨#[]⟩ (by omega) g8
  rw [m_ref13_Load,e1,Option.bind_some,rl8]
  simp only
  rw [f1,Option.bind_some,m_ref13_Load_j1]
  simp only
  rw [e2,Option.bind_some,rl7]
  simp only
  erw [f2]
  rw [Option.bind_some,m_ref13_Load_j2]
  simp only
  rw [e3,Option.bind_some,rl6]
  simp only
  rw [f3,Option.bind_some,m_ref13_Load_j3]
  simp only
  rw [e4,Option.bind_some]
  simp only
  rw [e5,Option.bind_some,rl5]
  simp only
  rw [f5,Option.bind_some]
  simp only
  rw [rj4 (sm_parts p),if_pos ⟨rfl,g,h⟩]
theorem load_both {s : ByteArray} (hs : s.size ≤ 2000) : ∃ r,m_conf_Load s = some r∧m_ref13_Load s = some r∧r.1.fRing.length ≤ 255∧r.1.fHints.length ≤ 255∧r.1.fAnchors.length ≤ 255∧r.1.fFlushes.length ≤ 255:=by
  obtain ⟨r,h1,h2⟩:=load_sound hs
  obtain ⟨q,h3,h4⟩:=rload hs
  rcases h2 with ⟨g1,g2,g3⟩ | rfl
  · have h5:=rload_full hs g1 g3
    have p:=parts_of g1
    obtain ⟨c,e⟩:=r
    simp only at g2
    subst g2
    exact ⟨_,h1,h5,p.r.1,p.h.1,p.a.1,p.f.1⟩
  · rcases h4 with ⟨g1,g2,g3⟩ | rfl
    · have h5:=load_full hs g1 g3
      rw [h1] at h5
      injection h5 with h5
      injection h5 with _ h5
      exact absurd h5 (by decide)
    · exact ⟨_,h1,h3,by decide,by decide,by decide,by decide⟩
open Go.RowKit
theorem short13_of {s : ByteArray} (k : Nat) (h : s.size ≤ 9223372036854775807) : ∃ t,m_law13_short s (k : Int) = some t∧t.size ≤ k:=by
  rw [m_law13_short]
  by_cases hc : k < s.size
  · rw [if_pos (by omega),scutHi,if_pos ⟨by omega,by omega⟩]
    exact ⟨_,rfl,by rw [ByteArray.size_extract]; omega⟩
  · rw [if_neg (by omega)]; exact ⟨_,rfl,by omega⟩
theorem awake13 : m_law13_awake = some true:=by decide +kernel
/-! ### Lists cut and copied -/
def cpStep {α : Type} (sz : Nat) (M : Int) (l : List α) (f : α→Option α) : List α×Int→Option ((List α×Int) ⊕ List α):=fun s=>
  if s.2 < (l.length : Int) then
    if s.2 < M then (at_ l s.2).bind fun x=>(f x).bind fun y=>(app sz s.1 [y]).bind fun r=>some (.inl (r,w64 (s.2 + 1)))
    else some (.inr s.1)
  else some (.inr s.1)
theorem cp_run {α : Type} {sz M : Nat} {l : List α} {f : α→Option α} {p : α→Prop} (hz : sz ≤ 1000) (hM : M ≤ 100) (hf : ∀ a ∈ l,∃ b,f a = some b∧p b) : ∃ r,loop (cpStep sz (M : Int) l f) ([],0) = some r∧r.length ≤ M∧∀ a ∈ r,p a:=by
  obtain ⟨r,g1,g2,g3⟩:=loop_rule (step:=cpStep sz (M : Int) l f)
    (fun s=>∃ i : Nat,s.2 = (i : Int)∧i ≤ M∧s.1.length ≤ i∧∀ x ∈ s.1,p x)
    (fun s=>(M - s.2).toNat) (fun r=>r.length ≤ M∧∀ x ∈ r,p x)
    (by
      rintro ⟨q,i'⟩ ⟨i,rfl,i1,i2,i3⟩
      simp only at i2 i3 ⊢
      unfold cpStep
      simp only
      by_cases hc : (i : Int) < (l.length : Int)
      · by_cases hc2 : (i : Int) < (M : Int)
        · left
          have hil : i < l.length:=by omega
          obtain ⟨x,x1,x2⟩:=hf l[i] (List.getElem_mem hil)
          have h1 : (q.length + 1) * sz ≤ 101 * 1000:=Nat.mul_le_mul (by omega) hz
          rw [if_pos hc,if_pos hc2,at_nat hil,Option.bind_some,x1,Option.bind_some,app_of (by simp only [List.length_singleton]; omega),Option.bind_some,w64_id (by omega) (by omega)]
          refine ⟨_,rfl,⟨i + 1,by simp,by omega,by simp only [List.length_append,List.length_singleton]; omega,fun y hy=>?_⟩,by simp only; omega⟩
          rcases List.mem_append.1 hy with hy | hy
          · exact i3 y hy
          · simp only [List.mem_singleton] at hy; subst hy; exact x2
        · right; rw [if_pos hc,if_neg hc2]; exact ⟨_,rfl,by omega,i3⟩
      · right; rw [if_neg hc]; exact ⟨_,rfl,by omega,i3⟩)
    (s0:=([],0)) ⟨0,rfl,by omega,by simp,(fun _ h=>by cases h)⟩
  exact ⟨r,g1,g2,g3⟩
theorem t8 (c : GConf) : (fun s : List Int×Int=>m_law13_tame_s8 c s.1 s.2) = cpStep 8 70 c.fRing some:=by
  funext s; unfold m_law13_tame_s8 cpStep; simp only [Option.bind_some]
theorem t7 (c : GConf) : (fun s : List ByteArray×Int=>m_law13_tame_s7 c s.1 s.2) = cpStep 16 20 c.fHints (fun x=>m_law13_short x 10):=by
  funext s; unfold m_law13_tame_s7 cpStep; rfl
theorem at_twice {α β : Type} (l : List α) (i : Int) (k : α→α→Option β) : ((at_ l i).bind fun x=>(at_ l i).bind fun y=>k x y) = (at_ l i).bind fun x=>k x x:=by
  cases at_ l i <;> rfl
theorem t6 (c : GConf) : (fun s : List GAnchor×Int=>m_law13_tame_s6 c s.1 s.2) = cpStep 32 20 c.fAnchors (fun x=>(m_law13_short x.fName 300).bind fun a=>(m_law13_short x.fText 300).bind fun b=>some ⟨a,b⟩):=by
  funext s; unfold m_law13_tame_s6 cpStep; simp only [at_twice,Option.bind_assoc,Option.bind_some]
theorem t5 (c : GConf) : (fun s : List GFlush×Int=>m_law13_tame_s5 c s.1 s.2) = cpStep 24 40 c.fFlushes (fun x=>(m_law13_short x.fZone 300).bind fun a=>some ⟨x.fEpoch,a⟩):=by
  funext s; unfold m_law13_tame_s5 cpStep; simp only [at_twice,Option.bind_assoc,Option.bind_some]
theorem tame_cd {c : GConf} (hc : GConf.ok c) : ∃ d,m_law13_tame c = some d∧SmC d:=by
  obtain ⟨-,⟨-,h2⟩,⟨-,h3⟩,-,⟨-,h5⟩⟩:=hc
  obtain ⟨r1,a1,b1,-⟩:=cp_run (sz:=8) (M:=70) (l:=c.fRing) (f:=some) (p:=fun _=>True) (by omega) (by omega) (fun a _=>⟨a,rfl,trivial⟩)
  obtain ⟨r2,a2,b2,-⟩:=cp_run (sz:=16) (M:=20) (l:=c.fHints) (f:=fun x=>m_law13_short x 10) (p:=fun _=>True) (by omega) (by omega) (fun a ha=>by
    obtain ⟨t,t1,t2⟩:=short13_of (s:=a) 10 (h2 a ha)
    exact ⟨t,t1,trivial⟩)
  obtain ⟨r3,a3,b3,c3⟩:=cp_run (sz:=32) (M:=20) (l:=c.fAnchors) (f:=fun x=>(m_law13_short x.fName 300).bind fun a=>(m_law13_short x.fText 300).bind fun b=>some ⟨a,b⟩) (p:=fun a=>a.fName.size ≤ 300) (by omega) (by omega) (fun a ha=>by
    obtain ⟨t,t1,t2⟩:=short13_of (s:=a.fName) 300 (h3 a ha).1
    obtain ⟨u,u1,u2⟩:=short13_of (s:=a.fText) 300 (h3 a ha).2
    replace t1 : m_law13_short a.fName 300 = some t:=t1
    replace u1 : m_law13_short a.fText 300 = some u:=u1
    exact ⟨⟨t,u⟩,by rw [t1,Option.bind_some,u1,Option.bind_some],t2⟩)
  obtain ⟨r5,a5,b5,c5⟩:=cp_run (sz:=24) (M:=40) (l:=c.fFlushes) (f:=fun x=>(m_law13_short x.fZone 300).bind fun a=>some ⟨x.fEpoch,a⟩) (p:=fun a=>a.fZone.size ≤ 300) (by omega) (by omega) (fun a ha=>by
    obtain ⟨t,t1,t2⟩:=short13_of (s:=a.fZone) 300 (h5 a ha).2
    replace t1 : m_law13_short a.fZone 300 = some t:=t1
    exact ⟨⟨a.fEpoch,t⟩,by rw [t1,Option.bind_some],t2⟩)
  refine ⟨⟨r1,r2,r3,c.fEpoch,r5⟩,?_,⟨by simp only; omega,by simp only; omega,by simp only; omega,by simp only; omega,c3,c5⟩⟩
  rw [m_law13_tame,t8]
  erw [a1]
  rw [Option.bind_some,m_law13_tame_j1,t7]
  erw [a2]
  rw [Option.bind_some,m_law13_tame_j2,t6]
  erw [a3]
  rw [Option.bind_some,m_law13_tame_j3,t5]
  erw [a5]
  rfl
/-! ### A configuration is the same as itself -/
theorem sm_loop {step : Int→Option (Int ⊕ (Unit ⊕ Bool))} (n : Nat) (hs : ∀ k,k < n→step (k : Int) = some (.inl ((k + 1 : Nat) : Int))) (he : step (n : Int) = some (.inr (.inl ()))) : loop step 0 = some (.inl ()):=
  loop_run n (fun k=>(k : Int)) _ rfl hs he
theorem conf_self {c : GConf} (h1 : c.fRing.length ≤ 255) (h2 : c.fHints.length ≤ 255) (h3 : c.fAnchors.length ≤ 255) (h4 : c.fFlushes.length ≤ 255) : m_ref13_Same c c = some true:=by
  rw [m_ref13_Same,if_neg (by simp),if_neg (by simp),if_neg (by simp),if_neg (by simp),if_neg (by simp)]
  rw [sm_loop c.fRing.length (step:=fun s=>m_ref13_Same_s8 c c s) (fun k hk=>by simp only [m_ref13_Same_s8]; rw [if_pos (by omega),at_nat hk,Option.bind_some,Option.bind_some,if_neg (by simp),w64_succ (by omega)]) (by simp only [m_ref13_Same_s8]; rw [if_neg (by omega)])]
  rw [Option.bind_some,Sum.elim_inl,m_ref13_Same_j1]
  rw [sm_loop c.fHints.length (step:=fun s=>m_ref13_Same_s7 c c s) (fun k hk=>by simp only [m_ref13_Same_s7]; rw [if_pos (by omega),at_nat hk,Option.bind_some,Option.bind_some,if_pos rfl,w64_succ (by omega)]) (by simp only [m_ref13_Same_s7]; rw [if_neg (by omega)])]
  rw [Option.bind_some,Sum.elim_inl,m_ref13_Same_j2]
  rw [sm_loop c.fAnchors.length (step:=fun s=>m_ref13_Same_s6 c c s) (fun k hk=>by simp only [m_ref13_Same_s6]; rw [if_pos (by omega),at_nat hk,Option.bind_some,Option.bind_some,if_pos rfl,w64_succ (by omega)]) (by simp only [m_ref13_Same_s6]; rw [if_neg (by omega)])]
  rw [Option.bind_some,Sum.elim_inl,m_ref13_Same_j3]
  rw [sm_loop c.fFlushes.length (step:=fun s=>m_ref13_Same_s5 c c s) (fun k hk=>by simp only [m_ref13_Same_s5]; rw [if_pos (by omega),at_nat hk,Option.bind_some,Option.bind_some,if_pos rfl,w64_succ (by omega)]) (by simp only [m_ref13_Same_s5]; rw [if_neg (by omega)])]
  rfl
theorem q_ConfSnaps (p0 : GConf) (p1 : ByteArray) (h0 : GConf.ok p0) (h1 : p1.size ≤ 9223372036854775807) : m_law13_ConfSnaps p0 p1 = some true:=by
  obtain ⟨c,c1,c2⟩:=tame_cd h0
  obtain ⟨s,s1,s2⟩:=short13_of (s:=p1) 2000 h1
  replace s1 : m_law13_short p1 2000 = some s:=s1
  obtain ⟨r,r1,r2,r3,r4,r5,r6⟩:=load_both s2
  rw [m_law13_ConfSnaps,awake13,Option.bind_some,c1,Option.bind_some,s1,Option.bind_some,r1,Option.bind_some,r2,Option.bind_some,conf_self r3 r4 r5 r6,Option.bind_some,if_pos rfl,right_code c2,Option.bind_some,right_ref c2,Option.bind_some,if_pos (by simp),snap_code c2,Option.bind_some,snap_ref c2,Option.bind_some,if_pos rfl,if_pos rfl,decide_eq_true rfl]
end Go.Proofs.YthpjodfjdnnckaaGreat
