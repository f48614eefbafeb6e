/-
  Rows whose elements hold slices: the elements in one list,the places of their slices in another one (own work).
-/
import Derived.Test.YtbaobjcaeaofaaaSM
set_option linter.unusedVariables false
set_option linter.unusedSimpArgs false
namespace Go.Proofs.Ytbaobjcaeaofaaa
open Go.RowKit Go.Lib Go.Proofs.YtbaobjcaeaofaaaW.PrintLast
/-- As many places as elements; each element's slices fit. -/
def DOk {α β : Type} (cap : α×β→Prop) (l : List α) (ps : List β) : Prop:=ps.length = l.length∧∀ z ∈ l.zip ps,cap z
/-- What each element's slices hold is where its places say. -/
def DOwn {α β : Type} (own : World→α×β→Prop) (l : List α) (ps : List β) (W : World) : Prop:=∀ z ∈ l.zip ps,own W z
section
variable {α β : Type} {cap : α×β→Prop} {own : World→α×β→Prop} {l l1 l2 r : List α} {ps ps1 : List β} {x : α} {p : β} {W : World} {b : Nat} {i j : Int}
theorem DOk.len (h : DOk cap l ps) : (l.zip ps).length = l.length:=by rw [List.length_zip,h.1,Nat.min_self]
theorem DOk.nil : DOk cap [] ([] : List β):=⟨rfl,fun z hz=>by cases hz⟩
theorem DOwn.nil : DOwn own [] ([] : List β) W:=fun z hz=>by cases hz
theorem DOk.cons (hx : cap (x,p)) (h : DOk cap l ps) : DOk cap (x::l) (p::ps):=⟨by simp [h.1],fun z hz=>by
  rcases List.mem_cons.1 hz with rfl | hz
  · exact hx
  · exact h.2 z hz⟩
theorem DOwn.cons (hx : own W (x,p)) (h : DOwn own l ps W) : DOwn own (x::l) (p::ps) W:=fun z hz=>by
  rcases List.mem_cons.1 hz with rfl | hz
  · exact hx
  · exact h z hz
theorem DOk.zapp (h : DOk cap l ps) : (l++l1).zip (ps++ps1) = l.zip ps++l1.zip ps1:=List.zip_append h.1.symm
theorem DOk.app (h : DOk cap l ps) (h1 : DOk cap l1 ps1) (ha : app b l l1 = some l2) : DOk cap l2 (ps++ps1):=by
  obtain ⟨_,rfl⟩:=app_some ha
  refine ⟨by rw [List.length_append,List.length_append,h.1,h1.1],fun z hz=>?_⟩
  rw [h.zapp] at hz
  rcases List.mem_append.1 hz with hz | hz
  · exact h.2 z hz
  · exact h1.2 z hz
theorem DOwn.app (h : DOk cap l ps) (ha : app b l l1 = some l2) (o : DOwn own l ps W) (o1 : DOwn own l1 ps1 W) : DOwn own l2 (ps++ps1) W:=by
  obtain ⟨_,rfl⟩:=app_some ha
  intro z hz
  rw [h.zapp] at hz
  rcases List.mem_append.1 hz with hz | hz
  · exact o z hz
  · exact o1 z hz
theorem dz_app (h : DOk cap l ps) (h1 : DOk cap l1 ps1) (ha : app b l l1 = some l2) : app b (l.zip ps) (l1.zip ps1) = some (l2.zip (ps++ps1)):=by
  obtain ⟨hl,rfl⟩:=app_some ha
  rw [h.zapp]
  exact app_of (by rw [h.len,h1.len]; exact hl)
theorem zip_take' (l : List α) (ps : List β) (n : Nat) : (l.take n).zip (ps.take n) = (l.zip ps).take n:=List.take_zipWith.symm
theorem zip_drop' (l : List α) (ps : List β) (n : Nat) : (l.drop n).zip (ps.drop n) = (l.zip ps).drop n:=List.drop_zipWith.symm
theorem DOk.hi (h : DOk cap l ps) (hc : cutHi l j = some r) : DOk cap r (ps.take j.toNat):=by
  obtain ⟨_,_,rfl⟩:=cutHi_some hc
  refine ⟨by rw [List.length_take,List.length_take,h.1],fun z hz=>?_⟩
  rw [zip_take'] at hz
  exact h.2 z (List.mem_of_mem_take hz)
theorem DOwn.hi (hc : cutHi l j = some r) (o : DOwn own l ps W) : DOwn own r (ps.take j.toNat) W:=by
  obtain ⟨_,_,rfl⟩:=cutHi_some hc
  intro z hz
  rw [zip_take'] at hz
  exact o z (List.mem_of_mem_take hz)
theorem DOk.lo (h : DOk cap l ps) (hc : cutLo l j = some r) : DOk cap r (ps.drop j.toNat):=by
  obtain ⟨_,_,rfl⟩:=cutLo_some hc
  refine ⟨by rw [List.length_drop,List.length_drop,h.1],fun z hz=>?_⟩
  rw [zip_drop'] at hz
  exact h.2 z (List.mem_of_mem_drop hz)
theorem DOwn.lo (hc : cutLo l j = some r) (o : DOwn own l ps W) : DOwn own r (ps.drop j.toNat) W:=by
  obtain ⟨_,_,rfl⟩:=cutLo_some hc
  intro z hz
  rw [zip_drop'] at hz
  exact o z (List.mem_of_mem_drop hz)
theorem zip_set' (l : List α) (ps : List β) (n : Nat) (x : α) (p : β) : (l.set n x).zip (ps.set n p) = (l.zip ps).set n (x,p):=by
  induction l generalizing ps n with
  | nil=>simp
  | cons a l ih=>
    cases ps with
    | nil=>simp
    | cons q ps=>cases n with
      | zero=>simp
      | succ n=>simp [ih]
theorem DOk.set (h : DOk cap l ps) (hs : setAt l i x = some r) (hx : cap (x,p)) : DOk cap r (ps.set i.toNat p):=by
  obtain ⟨_,_,rfl⟩:=setAt_some hs
  refine ⟨by rw [List.length_set,List.length_set,h.1],fun z hz=>?_⟩
  rw [zip_set'] at hz
  rcases List.mem_or_eq_of_mem_set hz with hz | rfl
  · exact h.2 z hz
  · exact hx
theorem DOwn.set (hs : setAt l i x = some r) (o : DOwn own l ps W) (hx : own W (x,p)) : DOwn own r (ps.set i.toNat p) W:=by
  obtain ⟨_,_,rfl⟩:=setAt_some hs
  intro z hz
  rw [zip_set'] at hz
  rcases List.mem_or_eq_of_mem_set hz with hz | rfl
  · exact o z hz
  · exact hx
theorem dz_set (h : DOk cap l ps) (hs : setAt l i x = some r) : setAt (l.zip ps) i (x,p) = some (r.zip (ps.set i.toNat p)):=by
  obtain ⟨h0,h1,rfl⟩:=setAt_some hs
  rw [zip_set']
  exact if_pos ⟨h0,by rw [h.len]; exact h1⟩
theorem DOk.at_ (h : DOk cap l ps) (hat : Go.Proofs.Ytbaobjcaeaofaaa.at_ l i = some x) : ∃ p,Go.Proofs.Ytbaobjcaeaofaaa.at_ (l.zip ps) i = some (x,p)∧(x,p) ∈ l.zip ps∧cap (x,p):=by
  obtain ⟨h0,h1,h2⟩:=at_some hat
  have hi : i.toNat < ps.length:=by rw [h.1]; omega
  have hz : (l.zip ps)[i.toNat]? = some (x,ps[i.toNat]):=by rw [List.getElem?_zip_eq_some]; exact ⟨h2,List.getElem?_eq_getElem hi⟩
  exact ⟨ps[i.toNat],by unfold Go.Proofs.Ytbaobjcaeaofaaa.at_; rw [if_pos h0]; exact hz,List.mem_of_getElem? hz,h.2 _ (List.mem_of_getElem? hz)⟩
theorem zip_map12 (L : List (α×β)) : (L.map (·.1)).zip (L.map (·.2)) = L:=by
  induction L with
  | nil=>rfl
  | cons z L ih=>simp [ih]
theorem dok_of (L : List (α×β)) (h : ∀ z ∈ L,cap z) : DOk cap (L.map (·.1)) (L.map (·.2)):=⟨by simp,by rw [zip_map12]; exact h⟩
theorem down_of (L : List (α×β)) (h : ∀ z ∈ L,own W z) : DOwn own (L.map (·.1)) (L.map (·.2)) W:=by unfold DOwn; rw [zip_map12]; exact h
end
theorem rd_split {α β : Type} {cap : α×β→Prop} {own : World→α×β→Prop} {okm : α→Prop} {en : α×β→List Value} {W : World} {cs : List Value} {lim : Nat}
    (h : ∃ (l : List (α×β)) (A : Option Addr) (c : Nat),cs = [.slice A l.length c]∧(l.length ≤ lim∧∀ a ∈ l,okm a.1∧cap a∧own W a)∧l.length ≤ c∧Cl W A (l.flatMap en)) :
    ∃ (l : List α) (ps : List β) (A : Option Addr) (c : Nat),cs = [.slice A l.length c]∧(l.length ≤ lim∧∀ a ∈ l,okm a)∧(DOk cap l ps∧l.length ≤ c)∧Cl W A ((l.zip ps).flatMap en)∧DOwn own l ps W:=by
  obtain ⟨L,A,c,h1,⟨h2,h3⟩,h4,h5⟩:=h
  refine ⟨L.map (·.1),L.map (·.2),A,c,by rw [List.length_map]; exact h1,⟨by rw [List.length_map]; exact h2,fun a ha=>?_⟩,⟨dok_of L fun z hz=>(h3 z hz).2.1,by rw [List.length_map]; exact h4⟩,by rw [zip_map12]; exact h5,down_of L fun z hz=>(h3 z hz).2.2⟩
  obtain ⟨z,hz,rfl⟩:=List.mem_map.1 ha
  exact (h3 z hz).1
section
variable {α β : Type} {cap : α×β→Prop} {enc : α×β→List Value} {sz : Nat} {l r : List α} {ps : List β} {W : World} {A : Option Addr} {j : Int}
theorem cl_nil_ofD (hk : DOk cap l ps) (hsz : ∀ a,0 < (enc a).length) (h : Cl W none ((l.zip ps).flatMap enc)) : l = []:=List.eq_nil_of_length_eq_zero (by rw [← hk.len,cl_nil_of hsz h]; rfl)
end
section
variable {P : Program} {σ : Fr} {ty t t' u : TypeId} {x y : Operand} {w0 : World} {M : Nat→Prop} {H : List (Nat×Nat×Obj)} {R : List (Nat×Row)} {φ : World→Prop} {α β : Type} {cap : α×β→Prop} {enc : α×β→List Value} {l l1 l2 : List α} {ps ps1 : List β} {tag bytes c1 cc sz : Nat} {A A1 : Option Addr} {z : Value} {e : TypeId}
theorem e_appRD (hk : DOk cap l ps) (hk1 : DOk cap l1 ps1) (ht : P.underlying t = some (.slice e)) (hinfo : (P.info? e).map (fun i=>(i.zero,i.size,i.bytes)) = some (some z,sz,bytes)) (hz : z.cells.size = sz) (hs0 : 0 < sz) (hb0 : 0 < bytes) (hsz : ∀ a,(enc a).length = sz) (h1 : ∀ a,one1 (enc a) = true)
    (hx : ev σ x = .slice A l.length cc) (hlc : l.length ≤ cc) (hR : fR tag R = some ⟨.slice A l.length cc,e,sz,l.length,(l.zip ps).flatMap enc⟩) (hy : ev σ y = .slice A1 l1.length c1) (hys : ∀ W,(Sta.mk w0 M H R φ).ok W→Cl W A1 ((l1.zip ps1).flatMap enc)) (happ : app bytes l l1 = some l2) :
    Evt P σ ⟨w0,M,H,R,φ⟩ (.call ⟨.builtin .append,#[x,y],#[t,t]⟩) ty (fun z : Option Addr×Nat=>.slice z.1 l2.length z.2) (fun z=>l2.length ≤ z.2) (fun z=>⟨w0,M,H,uR tag ⟨.slice z.1 l2.length z.2,e,sz,l2.length,(l2.zip (ps++ps1)).flatMap enc⟩ R,φ⟩):=by
  have hl2:=(hk.app hk1 happ).len
  have:=e_appR (P:=P) (σ:=σ) (ty:=ty) (x:=x) (y:=y) (M:=M) (H:=H) (φ:=φ) (w0:=w0) (l:=l.zip ps) (l1:=l1.zip ps1) (l2:=l2.zip (ps++ps1)) (tag:=tag) (cc:=cc) (A:=A) (R:=R) ht hinfo hz hs0 hb0 hsz h1 (by rw [hk.len]; exact hx) (by rw [hk.len]; exact hlc) (by rw [hk.len]; exact hR) (by rw [hk1.len]; exact hy) hys (dz_app hk hk1 happ)
  rw [hl2] at this
  exact this
theorem e_litD {len : Nat} {parts : Array (Nat×Operand)} {qs : List (Nat×Value)} {cells : Array Value} (hk : DOk cap l ps) (hp : parts.toList.map (fun p=>(p.1,ev σ p.2)) = qs) (hu : P.underlying t = some (.slice e)) (hf : P.builtSlice e len qs = some cells) (hcells : cells.toList = (l.zip ps).flatMap enc) (hl : l.length = len) (hsz : ∀ a,(enc a).length = sz) :
    Evt P σ ⟨w0,M,H,R,φ⟩ (.buildSlice t len parts) ty (fun g=>.slice (some ⟨g,0,none⟩) l.length len) (fun _=>True) (fun g=>⟨w0,M,H,(tag,⟨.slice (some ⟨g,0,none⟩) l.length len,e,sz,l.length,(l.zip ps).flatMap enc⟩)::R,φ⟩):=by
  have:=e_lit (P:=P) (σ:=σ) (ty:=ty) (M:=M) (H:=H) (φ:=φ) (w0:=w0) (R:=R) (tag:=tag) (l:=l.zip ps) (enc:=enc) (sz:=sz) hp hu hf hcells (by rw [hk.len]; exact hl) hsz
  rw [hk.len] at this
  exact this
variable {pos : String} {af : Array Edge}
theorem e_stRD {l' : List α} {i : Int} {v' : α} {p' : β} {ad : Addr} {off : Nat} {w : Value} {vs : List Value} {va : α×β} (hk : DOk cap l ps)
    (hx : ev σ x = .pointer (some ((ad.add (i.toNat * sz)).add off))) (hA : A = some ad) (hy : ev σ y = w) (hvs : w.cells.toList = vs) (hat : at_ (l.zip ps) i = some va) (hset : setAt l i v' = some l') (hev : enc (v',p') = (enc va).take off++vs++(enc va).drop (off + vs.length)) (ho : off + vs.length ≤ sz) (hsz : ∀ a,(enc a).length = sz) (h1 : one1 vs = true)
    (hR : fR tag R = some ⟨.slice A l.length cc,e,sz,l.length,(l.zip ps).flatMap enc⟩) (hst : ∀ W,(sizeOf t).run P W = .ok vs.length W) :
    Skp P σ ⟨w0,M,H,R,φ⟩ (.store t x y) ty ⟨w0,M,H,uR tag ⟨.slice A l'.length cc,e,sz,l'.length,(l'.zip (ps.set i.toNat p')).flatMap enc⟩ R,φ⟩:=by
  have hl : (l'.zip (ps.set i.toNat p')).length = l'.length:=by
    obtain ⟨_,_,rfl⟩:=setAt_some hset
    rw [List.length_zip,List.length_set,List.length_set,hk.1,Nat.min_self]
  have:=e_stR (P:=P) (σ:=σ) (ty:=ty) (x:=x) (y:=y) (M:=M) (H:=H) (φ:=φ) (w0:=w0) (l:=l.zip ps) (l':=l'.zip (ps.set i.toNat p')) (tag:=tag) (cc:=cc) (A:=A) (R:=R) (e:=e) (off:=off) (vs:=vs) (enc:=enc) (v':=(v',p')) hx hA hy hvs hat (dz_set hk hset) hev ho hsz h1 (by rw [hk.len]; exact hR) hst
  rw [hl] at this
  exact this
end
section
variable {P : Program} {ops : Array Oper} {Q : Exit→Act→World→Prop} {N : FS} {σ : Fr} {Sh : Sta} {ds : List Nat} {fuel : Nat} {w0 : World} {M : Nat→Prop} {H : List (Nat×Nat×Obj)} {R : List (Nat×Row)} {φ : World→Prop} {tag g off : Nat} {cl : List Value} {t0 t : TypeId} {x y : Operand} {v : Value} {vs : List Value} {ty : TypeId} {pos : String} {af : Array Edge}
end
section
variable {P : Program} {ops : Array Oper} {Q : Exit→Act→World→Prop} {N : FS} {rest : List Oper} {σ : Fr} {S : Sta}
theorem g_flat (us : List (Nat×Value)) (hs : AllV σ us) (h : ∀ u,G P ops Q N rest (upL us u) S) : G P ops Q N rest σ S:=by
  have:=h σ
  rwa [upL_self us hs] at this
/-- Ways through conditions meet ahead of a later operation. -/
theorem g_join {ι : Type} (k : Nat) (L : List Nat) (us : ι→List (Nat×Value)) (T : ι→Sta) (I : ι→Prop)
    (h1 : (∀ (x : ι) {σ' : Fr} {S' : Sta},I x→All L (fun t=>σ' t = upL (us x) σ t)→(∀ W,S'.ok W→(T x).ok W)→G P ops Q N (rest.drop k) σ' S')→G P ops Q N rest σ S)
    (h2 : ∀ x u,I x→G P ops Q N (rest.drop k) (mix L (upL (us x) σ) u) (T x)) : G P ops Q N rest σ S:=
  h1 fun x σ' S' hI hσ hS=>g_sta (T x) hS (by rw [← mix_self hσ]; exact h2 x σ' hI)
theorem g_case {t : Nat} {p : Bool} (hv : σ t = .bool p) (h1 : p = true→G P ops Q N rest σ S) (h0 : p = false→G P ops Q N rest σ S) : G P ops Q N rest σ S:=by
  cases p with
  | true=>exact h1 rfl
  | false=>exact h0 rfl
end
theorem setAt_at {α : Type} {l r : List α} {i : Int} {v : α} (h : setAt l i v = some r) : at_ r i = some v:=by
  obtain ⟨h0,h1,rfl⟩:=setAt_some h
  unfold at_
  rw [if_pos h0,List.getElem?_set_self (by omega)]
theorem cl_at2 {α : Type} {enc : α→List Value} {sz : Nat} {p : World→Prop} {A : Option Addr} {l : List α} (hsz : ∀ a,(enc a).length = sz) {ad : Addr} (hA : A = some ad) (h : ∀ W,p W→Cl W A (l.flatMap enc)) {i : Int} {v : α} (hat : at_ l i = some v) : ∀ W,p W→Cl W (some (ad.add (i.toNat * sz))) (enc v):=fun W hW=>by
  subst hA
  obtain ⟨h0,h1,h2⟩:=at_some hat
  obtain ⟨hi,hv⟩:=List.getElem?_eq_some_iff.1 h2
  have h3:=(h W hW).drop (i.toNat * sz)
  rw [fm_drop hsz,List.drop_eq_getElem_cons hi,List.flatMap_cons,hv] at h3
  exact h3.pre
end Go.Proofs.Ytbaobjcaeaofaaa
