import Derived.Test.YthpjodfjdnnckaaKCR
set_option linter.unusedVariables false
set_option linter.unusedSimpArgs false
set_option maxRecDepth 16384
namespace Go.Proofs.Ythpjodfjdnnckaa
open Go.RowKit
theorem awakeG : m_law13_awake = some true:=by decide +kernel
/-! ### Who is on, in order -/
def onA (l : List Bool) : Nat→List Int
  | 0=>[]
  | k + 1=>onA l k++(if l.getD k false = true then [(k : Int)] else [])
def onR (l : List Bool) (k : Nat) : Nat→List Int
  | 0=>[]
  | d + 1=>onR l k d++(if l.getD (k + d) false = true then [((k + d : Nat) : Int)] else [])
theorem on_add (l : List Bool) (k : Nat) : ∀ d,onA l (k + d) = onA l k++onR l k d
  | 0=>by simp [onR]
  | d + 1=>by rw [← Nat.add_assoc,onA,on_add l k d,onR,List.append_assoc]
theorem onA_lt (l : List Bool) : ∀ k,∀ x ∈ onA l k,0 ≤ x∧x < k
  | 0,x,h=>by cases h
  | k + 1,x,h=>by
    rw [onA] at h
    rcases List.mem_append.1 h with h | h
    · have:=onA_lt l k x h; omega
    · split at h
      · rw [List.mem_singleton] at h; omega
      · cases h
theorem onR_ge (l : List Bool) (k : Nat) : ∀ d,∀ x ∈ onR l k d,(k : Int) ≤ x
  | 0,x,h=>by cases h
  | d + 1,x,h=>by
    rw [onR] at h
    rcases List.mem_append.1 h with h | h
    · exact onR_ge l k d x h
    · split at h
      · rw [List.mem_singleton] at h; omega
      · cases h
theorem onA_len (l : List Bool) : ∀ k,(onA l k).length ≤ k
  | 0=>by simp [onA]
  | k + 1=>by
    have:=onA_len l k
    rw [onA,List.length_append]
    split <;> simp <;> omega
theorem gd_set (l : List Bool) (k j : Nat) (b : Bool) (h : j ≠ k) : (l.set k b).getD j false = l.getD j false:=by
  rw [List.getD_eq_getElem?_getD,List.getD_eq_getElem?_getD,List.getElem?_set_ne (Ne.symm h)]
theorem gd_set_same (l : List Bool) (k : Nat) (b : Bool) (h : k < l.length) : (l.set k b).getD k false = b:=by
  rw [List.getD_eq_getElem?_getD,List.getElem?_set_self h]; rfl
theorem onA_set (l : List Bool) (k : Nat) (b : Bool) : ∀ j,j ≤ k→onA (l.set k b) j = onA l j
  | 0,_=>rfl
  | j + 1,h=>by rw [onA,onA,onA_set l k b j (by omega),gd_set l k j b (by omega)]
theorem onR_set (l : List Bool) (k m : Nat) (b : Bool) (hm : k < m) : ∀ d,onR (l.set k b) m d = onR l m d
  | 0=>rfl
  | d + 1=>by rw [onR,onR,onR_set l k m b hm d,gd_set l k (m + d) b (by omega)]
theorem on_split (l : List Bool) {k : Nat} (hk : k < 64) : onA l 64 = onA l k++(if l.getD k false = true then [(k : Int)] else [])++onR l (k + 1) (63 - k):=by
  have:=on_add l (k + 1) (63 - k)
  rw [show k + 1 + (63 - k) = 64 by omega] at this
  rw [this,onA]
/-! ### Where a number stands, or would -/
theorem at_app {A B : List Int} {m : Nat} (h : m < A.length + B.length) : at_ (A++B) (m : Int) = some (if h1 : m < A.length then A[m] else B[m - A.length]'(by omega)):=by
  rw [at_nat (by rw [List.length_append]; exact h)]
  congr 1
  split
  · rename_i h1; exact List.getElem_append_left h1
  · rename_i h1; exact List.getElem_append_right (by omega)
theorem less_cd (x y : Int) : m_cmp_Less_61 x y = some (decide (x < y)):=by
  rw [m_cmp_Less_61,m_cmp_isNaN_80,Option.bind_some,if_neg (by simp)]
theorem bs_loop {A B : List Int} {t : Int} (hA : ∀ x ∈ A,x < t) (hB : ∀ x ∈ B,t ≤ x) (hl : A.length + B.length ≤ 1000) :
    loop (fun s=>m_slices_BinarySearch_27_s2 (A++B) t s.1 s.2) (0,((A++B).length : Int)) = some (A.length : Int):=by
  obtain ⟨r,h1,h2⟩:=loop_rule (step:=fun s=>m_slices_BinarySearch_27_s2 (A++B) t s.1 s.2) (fun s=>∃ lo hi : Nat,s = ((lo : Int),(hi : Int))∧lo ≤ A.length∧A.length ≤ hi∧hi ≤ A.length + B.length) (fun s=>(s.2 - s.1).toNat) (fun r=>r = (A.length : Int))
    (by
      rintro s ⟨lo,hi,rfl,g1,g2,g3⟩
      simp only
      rw [m_slices_BinarySearch_27_s2]
      by_cases c : (lo : Int) < (hi : Int)
      · left
        have hm : w64 ((IntKind.u64.wrap (w64 ((lo : Int) + (hi : Int)))) / 2) = (((lo + hi) / 2 : Nat) : Int):=by
          rw [w64_id (x:=(lo : Int) + hi) (by omega) (by omega),wrapu64 (by omega) (by omega),w64_id (by omega) (by omega)]; omega
        have hlt : (lo + hi) / 2 < A.length + B.length:=by omega
        rw [if_pos c,hm,at_app hlt,Option.bind_some,less_cd,Option.bind_some]
        by_cases c2 : (lo + hi) / 2 < A.length
        · rw [dif_pos c2,if_pos (decide_eq_true (hA _ (List.getElem_mem c2))),w64_id (by omega) (by omega)]
          exact ⟨_,rfl,⟨(lo + hi) / 2 + 1,hi,by simp,by omega,g2,g3⟩,by simp only; omega⟩
        · have:=hB _ (List.getElem_mem (l:=B) (n:=(lo + hi) / 2 - A.length) (by omega))
          rw [dif_neg c2,if_neg (by rw [decide_eq_true_eq]; omega)]
          exact ⟨_,rfl,⟨lo,(lo + hi) / 2,rfl,g1,by omega,by omega⟩,by simp only; omega⟩
      · right
        rw [if_neg c]
        exact ⟨_,rfl,by omega⟩)
    (s0:=(0,((A++B).length : Int))) ⟨0,(A++B).length,rfl,by omega,by rw [List.length_append]; omega,by rw [List.length_append]; omega⟩
  rw [h1,h2]
theorem bs_on {A B : List Int} {t : Int} (hA : ∀ x ∈ A,x < t) (hB : ∀ x ∈ B,t < x) (hl : A.length + B.length ≤ 500) : m_slices_BinarySearch_27 (A++[t]++B) t = some ((A.length : Int),true):=by
  rw [m_slices_BinarySearch_27,List.append_assoc,bs_loop hA (fun x hx=>by
    rcases List.mem_cons.1 hx with rfl | hx
    · exact Int.le_refl _
    · exact Int.le_of_lt (hB x hx)) (by simp; omega),Option.bind_some,m_slices_BinarySearch_27_j1,if_pos (by simp; omega),at_app (by simp),Option.bind_some,dif_neg (by omega),if_pos (by simp)]
theorem bs_off {A B : List Int} {t : Int} (hA : ∀ x ∈ A,x < t) (hB : ∀ x ∈ B,t < x) (hl : A.length + B.length ≤ 500) : m_slices_BinarySearch_27 (A++B) t = some ((A.length : Int),false):=by
  rw [m_slices_BinarySearch_27,bs_loop hA (fun x hx=>Int.le_of_lt (hB x hx)) (by omega),Option.bind_some,m_slices_BinarySearch_27_j1]
  by_cases c : 0 < B.length
  · have:=hB _ (List.getElem_mem (l:=B) (n:=0) c)
    rw [if_pos (by rw [List.length_append]; omega),at_app (by omega),Option.bind_some,dif_neg (by omega)]
    simp only [Nat.sub_self]
    rw [if_neg (by omega),Option.bind_some,m_slices_isNaN_62,Option.bind_some,if_neg (by simp)]
  · rw [if_neg (by rw [List.length_append]; omega)]
/-! ### Orders that join or leave -/
theorem none3 : m_conf_none [(⟨#[]⟩ : ByteArray),⟨#[]⟩,⟨#[]⟩] = some true:=by decide +kernel
theorem nodeG (x : Int) : m_conf_node x = some (decide (0 ≤ x∧x < 64)):=by
  unfold m_conf_node
  by_cases h : 0 ≤ x
  · rw [if_pos h]; congr 1; rw [decide_eq_decide]; exact ⟨fun g=>⟨h,g⟩,fun g=>g.2⟩
  · rw [if_neg h,decide_eq_false (fun g=>h g.1)]
theorem chk1 (n : Int) : m_conf_Check_k1 n ⟨#[]⟩ ⟨#[]⟩ ⟨#[]⟩ [] = some (if 0 ≤ n∧n < 64 then 0 else 1):=by
  have : ∀ b,m_conf_Check_k1_j1 n ⟨#[]⟩ ⟨#[]⟩ ⟨#[]⟩ [] b = some (if 0 ≤ n∧n < 64 then 0 else 1):=fun b=>by
    rw [m_conf_Check_k1_j1,m_conf_Check_k1_j3,if_pos rfl,nodeG,Option.bind_some]
    by_cases h : 0 ≤ n∧n < 64
    · rw [if_pos (decide_eq_true h),none3,Option.bind_some,if_pos rfl,if_pos h]; rfl
    · rw [if_neg (by simpa using h),if_neg h]; rfl
  unfold m_conf_Check_k1
  split <;> exact this _
theorem chk2 (n : Int) : m_conf_Check_k2 n ⟨#[]⟩ ⟨#[]⟩ ⟨#[]⟩ [] = some (if 0 ≤ n∧n < 64 then 0 else 1):=by
  have : ∀ b,m_conf_Check_k2_j1 n ⟨#[]⟩ ⟨#[]⟩ ⟨#[]⟩ [] b = some (if 0 ≤ n∧n < 64 then 0 else 1):=fun b=>by
    rw [m_conf_Check_k2_j1,m_conf_Check_k2_j3,if_pos rfl,nodeG,Option.bind_some]
    by_cases h : 0 ≤ n∧n < 64
    · rw [if_pos (decide_eq_true h),none3,Option.bind_some,if_pos rfl,if_pos h]; rfl
    · rw [if_neg (by simpa using h),if_neg h]; rfl
  unfold m_conf_Check_k2
  split <;> exact this _
def rg (l : List Bool) (e : Int) : GConf:=⟨onA l 64,[],[],e,[]⟩
theorem clone_any {r : List Int} (h : r.length ≤ 1000) : m_slices_Clone_23 r = some r:=by
  rw [m_slices_Clone_23,app_of (by simp only [List.length_nil]; omega),Option.bind_some,List.nil_append]
theorem clone_ring (l : List Bool) : m_slices_Clone_23 (onA l 64) = some (onA l 64):=clone_any (by have:=onA_len l 64; omega)
theorem on_ne {l : List Bool} {k : Nat} : ∀ x ∈ onR l (k + 1) (63 - k),(k : Int) < x:=fun x hx=>by have:=onR_ge l (k + 1) (63 - k) x hx; omega
theorem onR_len (l : List Bool) (k : Nat) : ∀ d,(onR l k d).length ≤ d
  | 0=>by simp [onR]
  | d + 1=>by
    have:=onR_len l k d
    rw [onR,List.length_append]
    split <;> simp <;> omega
theorem join_cd {l : List Bool} (hl : l.length = 64) {n e : Int} : m_conf_Apply_k1 (rg l e) n ⟨#[]⟩ ⟨#[]⟩ ⟨#[]⟩ [] =
    some (if 0 ≤ n∧n < 64 then (if l.getD n.toNat false = true then (rg l e,13) else (rg (l.set n.toNat true) e,0)) else (rg l e,1)):=by
  rw [m_conf_Apply_k1,chk1,Option.bind_some]
  by_cases h : 0 ≤ n∧n < 64
  case neg=>rw [if_neg h,if_pos (by decide),if_neg h]
  rw [if_pos h,if_neg (by decide),if_pos h]
  simp only [rg]
  rw [clone_ring,Option.bind_some,show m_slices_Clone_24 [] = some [] from rfl,Option.bind_some,show m_slices_Clone_25 [] = some [] from rfl,Option.bind_some,show m_slices_Clone_26 [] = some [] from rfl,Option.bind_some,m_conf_Apply_k1_j1]
  obtain ⟨k,rfl⟩:=Int.eq_ofNat_of_zero_le h.1
  have hk : k < 64:=by omega
  have l1:=onA_len l k
  have l2:=onR_len l (k + 1) (63 - k)
  rw [Int.toNat_natCast]
  by_cases c : l.getD k false = true
  · have hs:=on_split l hk
    rw [if_pos c] at hs
    rw [if_pos c,hs,bs_on (fun x hx=>(onA_lt l k x hx).2) on_ne (by omega),Option.bind_some,if_pos rfl]
  · have hs:=on_split l hk
    have hs2:=on_split (l.set k true) hk
    rw [if_neg c,List.append_nil] at hs
    rw [gd_set_same l k true (by omega),if_pos rfl,onA_set l k true k (Nat.le_refl _),onR_set l k (k + 1) true (by omega)] at hs2
    rw [if_neg c,hs2,hs,bs_off (fun x hx=>(onA_lt l k x hx).2) on_ne (by omega),Option.bind_some,if_neg (by simp)]
    simp only
    rw [m_slices_Insert_28,if_pos ⟨by omega,by rw [List.length_append]; omega,by simp,by simp only [List.length_append,List.length_singleton]; omega⟩,Option.bind_some,Int.toNat_natCast,List.take_left,List.drop_left,m_conf_Apply_k1_j2]
theorem leave_cd {l : List Bool} (hl : l.length = 64) {n e : Int} : m_conf_Apply_k2 (rg l e) n ⟨#[]⟩ ⟨#[]⟩ ⟨#[]⟩ [] =
    some (if 0 ≤ n∧n < 64 then (if l.getD n.toNat false = true then (rg (l.set n.toNat false) e,0) else (rg l e,13)) else (rg l e,1)):=by
  rw [m_conf_Apply_k2,chk2,Option.bind_some]
  by_cases h : 0 ≤ n∧n < 64
  case neg=>rw [if_neg h,if_pos (by decide),if_neg h]
  rw [if_pos h,if_neg (by decide),if_pos h]
  simp only [rg]
  rw [clone_ring,Option.bind_some,show m_slices_Clone_24 [] = some [] from rfl,Option.bind_some,show m_slices_Clone_25 [] = some [] from rfl,Option.bind_some,show m_slices_Clone_26 [] = some [] from rfl,Option.bind_some,m_conf_Apply_k2_j1]
  obtain ⟨k,rfl⟩:=Int.eq_ofNat_of_zero_le h.1
  have hk : k < 64:=by omega
  have l1:=onA_len l k
  have l2:=onR_len l (k + 1) (63 - k)
  rw [Int.toNat_natCast]
  have hs:=on_split l hk
  by_cases c : l.getD k false = true
  · have hs2:=on_split (l.set k false) hk
    rw [gd_set_same l k false (by omega),if_neg (by simp),List.append_nil,onA_set l k false k (Nat.le_refl _),onR_set l k (k + 1) false (by omega)] at hs2
    rw [if_pos c] at hs
    rw [if_pos c,hs2,hs,bs_on (fun x hx=>(onA_lt l k x hx).2) on_ne (by omega),Option.bind_some,if_pos rfl]
    simp only
    have t1 : (onA l k++[(k : Int)]++onR l (k + 1) (63 - k)).take (onA l k).length = onA l k:=by rw [List.append_assoc,List.take_left]
    have t2 : (onA l k++[(k : Int)]++onR l (k + 1) (63 - k)).drop ((onA l k).length + 1) = onR l (k + 1) (63 - k):=by
      rw [show (onA l k).length + 1 = (onA l k++[(k : Int)]).length by simp,List.drop_left]
    have tl : (onA l k++[(k : Int)]++onR l (k + 1) (63 - k)).length = (onA l k).length + 1 + (onR l (k + 1) (63 - k)).length:=by simp; omega
    rw [w64_id (by omega) (by omega),m_slices_Delete_29,cutMid,if_pos ⟨by omega,by omega,by rw [tl]; omega⟩,Option.bind_some,if_neg (by omega),cutHi,if_pos ⟨by omega,by rw [tl]; omega⟩,Option.bind_some,cutLo,if_pos ⟨by omega,by rw [tl]; omega⟩,Option.bind_some,Option.bind_some,Int.toNat_natCast,show ((onA l k).length + 1 : Int).toNat = (onA l k).length + 1 by omega,t1,t2,m_conf_Apply_k2_j2]
  · rw [if_neg c,List.append_nil] at hs
    rw [if_neg c,hs,bs_off (fun x hx=>(onA_lt l k x hx).2) on_ne (by omega),Option.bind_some,if_neg (by simp)]
/-! ### The law -/
theorem chk_ring {l : List Bool} (hl : l.length = 64) (e : Int) : loop (fun s=>m_law13_ConfRings_s7 l (rg l e) s.1 s.2) (0,0) = some (.inl ((onA l 64).length : Int)):=by
  refine loop_run 64 (fun j=>(((onA l j).length : Int),(j : Int))) _ rfl (fun j hj=>?_) ?_
  · have h1:=onA_len l j
    have h2:=onA_len l 64
    show m_law13_ConfRings_s7 l (rg l e) ((onA l j).length : Int) (j : Int) = _
    have hs:=on_split l hj
    have hg : l[(0 + j * 1)]? = some (l.getD j false):=by rw [Nat.zero_add,Nat.mul_one,List.getD_eq_getElem?_getD,List.getElem?_eq_getElem (by omega)]; rfl
    rw [m_law13_ConfRings_s7,if_pos (by omega),aix,if_pos ⟨by omega,by omega⟩,Option.bind_some,Int.toNat_natCast,hg,Option.bind_some,onA]
    by_cases c : l.getD j false = true
    · rw [if_pos c] at hs
      have hle : (onA l j).length + 1 ≤ (onA l 64).length:=by rw [hs]; simp
      have hat : at_ (rg l e).fRing ((onA l j).length : Int) = some (j : Int):=by
        show at_ (onA l 64) _ = _
        rw [hs,List.append_assoc,at_app (by simp),dif_neg (by omega)]
        simp
      rw [if_pos c,if_neg (by show ¬ ((onA l 64).length : Int) ≤ _; omega),hat,Option.bind_some,if_neg (by simp),if_pos c,List.length_append,List.length_singleton,w64_id (by omega) (by omega),w64_id (by omega) (by omega)]
      rfl
    · rw [if_neg c,if_neg c,List.append_nil,w64_id (by omega) (by omega),show (j : Int) + 1 = ((j + 1 : Nat) : Int) by omega]
  · show m_law13_ConfRings_s7 l (rg l e) ((onA l 64).length : Int) ((64 : Nat) : Int) = _
    rw [m_law13_ConfRings_s7,if_neg (by decide)]
theorem j5_cd {l : List Bool} (hl : l.length = 64) (e i : Int) : m_law13_ConfRings_j5 (rg l e) i l = some (.inl (w64 (i + 1),l,onA l 64,[],[],e,[])):=by
  rw [m_law13_ConfRings_j5,chk_ring hl,Option.bind_some,Sum.elim_inl,m_law13_ConfRings_j6,if_neg (by show ¬ ((onA l 64).length : Int) ≠ ((onA l 64).length : Int); simp)]
  rfl
theorem j8_j4 : @m_law13_ConfRings_j8 = @m_law13_ConfRings_j4:=rfl
theorem j12_j4 : @m_law13_ConfRings_j12 = @m_law13_ConfRings_j4:=rfl
/-- What a round ends with. -/
def RNext (i e : Int) (o : Option ((Int×(List Bool)×(List Int)×(List ByteArray)×(List GAnchor)×Int×(List GFlush)) ⊕ (Unit ⊕ Bool))) : Prop:=∃ l : List Bool,l.length = 64∧o = some (.inl (w64 (i + 1),l,onA l 64,[],[],e,[]))
theorem j4_ok {l : List Bool} (hl : l.length = 64) {k : Nat} (hk : k < 64) (e i : Int) : m_law13_ConfRings_j4 0 l (rg (l.set k (!(l.getD k false))) e) i (k : Int) = some (.inl (w64 (i + 1),l.set k (!(l.getD k false)),onA (l.set k (!(l.getD k false))) 64,[],[],e,[])):=by
  have hg : l[(0 + k * 1)]? = some (l.getD k false):=by rw [Nat.zero_add,Nat.mul_one,List.getD_eq_getElem?_getD,List.getElem?_eq_getElem (by omega)]; rfl
  rw [m_law13_ConfRings_j4,if_pos rfl,aix,if_pos ⟨by omega,by omega⟩,Option.bind_some,Int.toNat_natCast,hg,Option.bind_some,Option.bind_some,setN,if_pos (by omega),Option.bind_some,show 0 + k * 1 = k by omega,j5_cd (by rw [List.length_set]; exact hl)]
theorem j4_no {l : List Bool} (hl : l.length = 64) (e i n : Int) : m_law13_ConfRings_j4 13 l (rg l e) i n = some (.inl (w64 (i + 1),l,onA l 64,[],[],e,[])):=by
  rw [m_law13_ConfRings_j4,if_neg (by decide),j5_cd hl]
theorem join_round {l : List Bool} (hl : l.length = 64) (e i n : Int) : RNext i e ((m_conf_Apply_k1 (rg l e) n ⟨#[]⟩ ⟨#[]⟩ ⟨#[]⟩ []).bind fun (z : GConf×Int)=>
    if n < 0 then (if z.2 ≠ 1 then some (.inr (.inr false)) else some (.inl (w64 (i + 1),l,onA l 64,[],[],e,[])))
    else if 63 < n then (if z.2 ≠ 1 then some (.inr (.inr false)) else some (.inl (w64 (i + 1),l,onA l 64,[],[],e,[])))
    else (aix 64 n).bind fun a=>(l[(0 + a * 1)]?).bind fun x=>
      if (!((decide (z.2 = 0)) == (x == (decide ((1 : Int) = 2))))) = true then some (.inr (.inr false))
      else if z.2 ≠ 0 then (if z.2 ≠ 13 then some (.inr (.inr false)) else m_law13_ConfRings_j4 z.2 l z.1 i n) else m_law13_ConfRings_j4 z.2 l z.1 i n):=by
  rw [join_cd hl,Option.bind_some]
  by_cases h0 : n < 0
  · rw [if_pos h0,if_neg (show ¬ (0 ≤ n∧n < 64) by omega),if_neg (by simp)]
    exact ⟨l,hl,rfl⟩
  rw [if_neg h0]
  by_cases h1 : 63 < n
  · rw [if_pos h1,if_neg (show ¬ (0 ≤ n∧n < 64) by omega),if_neg (by simp)]
    exact ⟨l,hl,rfl⟩
  rw [if_neg h1,if_pos (show 0 ≤ n∧n < 64 by omega)]
  obtain ⟨k,rfl⟩:=Int.eq_ofNat_of_zero_le (show 0 ≤ n by omega)
  have hg : l[(0 + k * 1)]? = some (l.getD k false):=by rw [Nat.zero_add,Nat.mul_one,List.getD_eq_getElem?_getD,List.getElem?_eq_getElem (by omega)]; rfl
  rw [aix,if_pos ⟨by omega,by omega⟩,Option.bind_some,Int.toNat_natCast,hg,Option.bind_some]
  by_cases c : l.getD k false = true
  · rw [if_pos c,c,if_neg (by simp),if_pos (by simp),if_neg (by simp),j4_no hl]
    exact ⟨l,hl,rfl⟩
  · have cf : l.getD k false = false:=by simpa using c
    have:=j4_ok hl (k:=k) (by omega) e i
    rw [cf] at this
    rw [if_neg c,cf,if_neg (by simp),if_neg (by simp)]
    exact ⟨l.set k true,by rw [List.length_set]; exact hl,this⟩
theorem leave_round {l : List Bool} (hl : l.length = 64) (e i n : Int) : RNext i e ((m_conf_Apply_k2 (rg l e) n ⟨#[]⟩ ⟨#[]⟩ ⟨#[]⟩ []).bind fun (z : GConf×Int)=>
    if n < 0 then (if z.2 ≠ 1 then some (.inr (.inr false)) else some (.inl (w64 (i + 1),l,onA l 64,[],[],e,[])))
    else if 63 < n then (if z.2 ≠ 1 then some (.inr (.inr false)) else some (.inl (w64 (i + 1),l,onA l 64,[],[],e,[])))
    else (aix 64 n).bind fun a=>(l[(0 + a * 1)]?).bind fun x=>
      if (!((decide (z.2 = 0)) == (x == (decide ((2 : Int) = 2))))) = true then some (.inr (.inr false))
      else if z.2 ≠ 0 then (if z.2 ≠ 13 then some (.inr (.inr false)) else m_law13_ConfRings_j4 z.2 l z.1 i n) else m_law13_ConfRings_j4 z.2 l z.1 i n):=by
  rw [leave_cd hl,Option.bind_some]
  by_cases h0 : n < 0
  · rw [if_pos h0,if_neg (show ¬ (0 ≤ n∧n < 64) by omega),if_neg (by simp)]
    exact ⟨l,hl,rfl⟩
  rw [if_neg h0]
  by_cases h1 : 63 < n
  · rw [if_pos h1,if_neg (show ¬ (0 ≤ n∧n < 64) by omega),if_neg (by simp)]
    exact ⟨l,hl,rfl⟩
  rw [if_neg h1,if_pos (show 0 ≤ n∧n < 64 by omega)]
  obtain ⟨k,rfl⟩:=Int.eq_ofNat_of_zero_le (show 0 ≤ n by omega)
  have hg : l[(0 + k * 1)]? = some (l.getD k false):=by rw [Nat.zero_add,Nat.mul_one,List.getD_eq_getElem?_getD,List.getElem?_eq_getElem (by omega)]; rfl
  rw [aix,if_pos ⟨by omega,by omega⟩,Option.bind_some,Int.toNat_natCast,hg,Option.bind_some]
  by_cases c : l.getD k false = true
  · have:=j4_ok hl (k:=k) (by omega) e i
    rw [c] at this
    rw [if_pos c,c,if_neg (by simp),if_neg (by simp)]
    exact ⟨l.set k false,by rw [List.length_set]; exact hl,this⟩
  · have cf : l.getD k false = false:=by simpa using c
    rw [if_neg c,cf,if_neg (by simp),if_pos (by simp),if_neg (by simp),j4_no hl]
    exact ⟨l,hl,rfl⟩
theorem j3_cd {l : List Bool} (hl : l.length = 64) (e i : Int) (hi : 0 ≤ i) (p1 : List Bool) (m : Int) : RNext i e (m_law13_ConfRings_j3 i p1 (onA l 64) [] [] e [] l m):=by
  rw [m_law13_ConfRings_j3]
  have J:=join_round hl e i (w64 (m - 2))
  have L:=leave_round hl e i (w64 (m - 2))
  by_cases h : i < (p1.length : Int)
  · rw [if_pos h,at_of hi (by omega),Option.bind_some]
    by_cases c : p1[i.toNat] = true
    · rw [if_pos c]; exact L
    · rw [if_neg c,j8_j4]; exact J
  · rw [if_neg h,j12_j4]; exact J
theorem q_ConfRings (p0 : List Int) (p1 : List Bool) (h0 : (p0.length ≤ 9223372036854775807∧∀ a ∈ p0,((-9223372036854775808) ≤ a∧a ≤ 9223372036854775807))) (h1 : (p1.length ≤ 9223372036854775807∧∀ a ∈ p1,True)) : m_law13_ConfRings p0 p1 = some true:=by
  obtain ⟨r,g1,g2⟩:=loop_rule (step:=fun s : Int×(List Bool)×(List Int)×(List ByteArray)×(List GAnchor)×Int×(List GFlush)=>m_law13_ConfRings_s2 p0 p1 s.1 s.2.1 s.2.2.1 s.2.2.2.1 s.2.2.2.2.1 s.2.2.2.2.2.1 s.2.2.2.2.2.2)
    (fun s=>∃ (i : Nat) (l : List Bool),i ≤ 100∧l.length = 64∧s = ((i : Int),l,onA l 64,[],[],0,[])) (fun s=>(100 - s.1).toNat) (fun r=>r = .inl ())
    (by
      rintro s ⟨i,l,hi,hl,rfl⟩
      simp only
      rw [m_law13_ConfRings_s2]
      by_cases c1 : (i : Int) < (p0.length : Int)
      · by_cases c2 : (i : Int) < 100
        · left
          rw [if_pos c1,if_pos c2,at_nat (by omega),Option.bind_some]
          have key : ∀ m,∃ s',m_law13_ConfRings_j3 (i : Int) p1 (onA l 64) [] [] 0 [] l m = some (.inl s')∧(∃ (i : Nat) (l : List Bool),i ≤ 100∧l.length = 64∧s' = ((i : Int),l,onA l 64,[],[],0,[]))∧(100 - s'.1).toNat < (100 - (i : Int)).toNat:=fun m=>by
            obtain ⟨l',k1,k2⟩:=j3_cd hl 0 (i : Int) (by omega) p1 m
            rw [w64_id (by omega) (by omega)] at k2
            exact ⟨_,k2,⟨i + 1,l',by omega,k1,by simp⟩,by simp only; omega⟩
          split
          · exact key _
          · exact key _
        · right; rw [if_pos c1,if_neg c2]; exact ⟨_,rfl,rfl⟩
      · right; rw [if_neg c1]; exact ⟨_,rfl,rfl⟩)
    (s0:=(0,List.replicate 64 false,([] : List Int),([] : List ByteArray),([] : List GAnchor),0,([] : List GFlush))) ⟨0,List.replicate 64 false,by omega,by simp,by
      have : onA (List.replicate 64 false) 64 = []:=by decide +kernel
      rw [this]; rfl⟩
  rw [m_law13_ConfRings,awakeG,Option.bind_some,g1,g2]
  rfl
end Go.Proofs.Ythpjodfjdnnckaa
