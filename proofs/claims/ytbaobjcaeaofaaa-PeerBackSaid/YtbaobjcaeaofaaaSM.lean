/- Maps of the call's own, as rows (own work): reads, stores, making. -/
import Derived.Test.YtbaobjcaeaofaaaSY
import Derived.Maps.Keyed
import Derived.Carry
set_option linter.unusedVariables false
set_option linter.unusedSimpArgs false
set_option linter.unusedSectionVars false
namespace Go.Proofs.Ytbaobjcaeaofaaa
open Go.RowKit Go.Proofs.YtbaobjcaeaofaaaW.PrintLast
/-- A map's value. -/
abbrev mapV (A : Option Addr) : Value:=.map (A.map (·.block))
def mcell {K V : Type} (kenc : K→Value) (venc : V→Value) (e : K×V) : List Value:=[kenc e.1,venc e.2]
/-- May all keys of a map be, each once? -/
def okM {K V : Type} (ok : K→Bool) (l : List (K×V)) : Prop:=(∀ e ∈ l,ok e.1 = true)∧(l.map (·.1)).Nodup
instance {K V : Type} [DecidableEq K] (ok : K→Bool) (l : List (K×V)) : Decidable (okM ok l):=by unfold okM; infer_instance
def getM {K V : Type} [DecidableEq K] (z : V) : List (K×V)→K→V×Bool
  | [],_=>(z,false)
  | e::r,k=>if e.1 = k then (e.2,true) else getM z r k
def putM {K V : Type} [DecidableEq K] : List (K×V)→K→V→List (K×V)
  | [],k,v=>[(k,v)]
  | e::r,k,v=>if e.1 = k then (k,v)::r else e::putM r k v
def mget {K V : Type} [DecidableEq K] (ok : K→Bool) (z : V) (l : List (K×V)) (k : K) : Option (V×Bool):=if ok k = true∧okM ok l then some (getM z l k) else none
def mput {K V : Type} [DecidableEq K] (ok : K→Bool) (l : List (K×V)) (k : K) (v : V) : Option (List (K×V)):=if ok k = true∧okM ok l then some (putM l k v) else none
section
variable {K V : Type} [DecidableEq K] {ok : K→Bool} {z v : V} {l l2 : List (K×V)} {k : K} {kenc : K→Value} {venc : V→Value}
theorem mget_some {r : V×Bool} (h : mget ok z l k = some r) : ok k = true∧okM ok l∧r = getM z l k:=by
  unfold mget at h
  split at h
  · rename_i h0; injection h with h; exact ⟨h0.1,h0.2,h.symm⟩
  · cases h
theorem mput_some (h : mput ok l k v = some l2) : ok k = true∧okM ok l∧l2 = putM l k v:=by
  unfold mput at h
  split at h
  · rename_i h0; injection h with h; exact ⟨h0.1,h0.2,h.symm⟩
  · cases h
theorem getM_none (h : ∀ e ∈ l,e.1 ≠ k) : getM z l k = (z,false):=by
  induction l with
  | nil=>rfl
  | cons e r ih=>unfold getM; rw [if_neg (h e (by simp)),ih (fun e he=>h e (by simp [he]))]
theorem getM_at (hn : (l.map (·.1)).Nodup) {j : Nat} {e : K×V} (hj : l[j]? = some e) (he : e.1 = k) : getM z l k = (e.2,true):=by
  induction l generalizing j with
  | nil=>cases hj
  | cons a r ih=>
    simp only [List.map_cons,List.nodup_cons] at hn
    cases j with
    | zero=>injection hj with hj; subst hj; unfold getM; rw [if_pos he]
    | succ j=>
      have hm : e ∈ r:=List.mem_of_getElem? (by simpa using hj)
      unfold getM
      rw [if_neg (fun h=>hn.1 (List.mem_map.2 ⟨e,hm,by rw [he,h]⟩))]
      exact ih hn.2 (by simpa using hj)
theorem putM_none (h : ∀ e ∈ l,e.1 ≠ k) : putM l k v = l++[(k,v)]:=by
  induction l with
  | nil=>rfl
  | cons e r ih=>unfold putM; rw [if_neg (h e (by simp)),ih (fun e he=>h e (by simp [he]))]; rfl
theorem putM_at (hn : (l.map (·.1)).Nodup) {j : Nat} {e : K×V} (hj : l[j]? = some e) (he : e.1 = k) : putM l k v = l.modify j (fun _=>(k,v)):=by
  induction l generalizing j with
  | nil=>cases hj
  | cons a r ih=>
    simp only [List.map_cons,List.nodup_cons] at hn
    cases j with
    | zero=>injection hj with hj; subst hj; unfold putM; rw [if_pos he]; rfl
    | succ j=>
      have hm : e ∈ r:=List.mem_of_getElem? (by simpa using hj)
      unfold putM
      rw [if_neg (fun h=>hn.1 (List.mem_map.2 ⟨e,hm,by rw [he,h]⟩)),ih hn.2 (by simpa using hj)]
      rfl
theorem ents_get (l : List (K×V)) (i j : Nat) : (mapEnts (l.flatMap (mcell kenc venc)) i)[j]? = (l[j]?).map fun e=>⟨kenc e.1,venc e.2,i + j⟩:=by
  induction l generalizing i j with
  | nil=>simp [mapEnts]
  | cons e r ih=>
    show (mapEnts (kenc e.1::venc e.2::r.flatMap (mcell kenc venc)) i)[j]? = _
    unfold mapEnts
    cases j with
    | zero=>simp
    | succ j=>simp only [List.getElem?_cons_succ,ih]; congr 1; funext e; congr 1; omega
theorem ents_mem {l : List (K×V)} {i : Nat} {x : MapEntry} (h : x ∈ mapEnts (l.flatMap (mcell kenc venc)) i) : ∃ e ∈ l,x.key = kenc e.1∧x.val = venc e.2:=by
  obtain ⟨j,hj⟩:=List.getElem?_of_mem h
  rw [ents_get] at hj
  obtain ⟨e,he,rfl⟩:=Option.map_eq_some_iff.1 hj
  exact ⟨e,List.mem_of_getElem? he,rfl,rfl⟩
theorem flat_nil (h : l.flatMap (mcell kenc venc) = []) : l = []:=by
  cases l with
  | nil=>rfl
  | cons e r=>simp [mcell] at h
end
/-- What a map's type is. -/
structure MapTy {K V : Type} (P : Program) (t kt et : TypeId) (kenc : K→Value) (venc : V→Value) (ok : K→Bool) (z : V) : Prop where
  und : P.underlying t = some (.map kt et)
  keyed : Go.Maps.Keyed P kt
  keyOf : ∀ k,ok k = true→∃ q,keyOf P kt (kenc k) = some q
  inj : ∀ a b,kenc a = kenc b→a = b
  zero : ∀ W,(zeroValue et).run P W = .ok (venc z) W
section
variable {P : Program} {ops : Array Oper} {Q : Exit→Act→World→Prop} {N : FS} {d : Nat} {rest : List Oper} {σ : Fr} {S Sh : Sta} {ty t kt et : TypeId} {pos : String} {af : Array Edge} {x y : Operand} {w0 : World} {M : Nat→Prop} {H : List (Nat×Nat×Obj)} {R : List (Nat×Row)} {φ : World→Prop} {ds : List Nat} {fuel i tag : Nat} {la : Array Bool}
  {K V : Type} [DecidableEq K] {kenc : K→Value} {venc : V→Value} {ok : K→Bool} {z v : V} {l l2 : List (K×V)} {k : K} {A : Option Addr} {e sz n n2 : Nat}
theorem look_run (c : Bool) (T : MapTy P t kt et kenc venc ok z) {base : Nat} {W : World} (hh : World.held W base e sz (mapV A) n (l.flatMap (mcell kenc venc))) {r : V×Bool} (hg : mget ok z l k = some r) :
    (Instr.lookup t (mapV A) (kenc k) c).run P W = .ok (if c then .tuple #[venc r.1,.bool r.2] else venc r.1) W:=by
  obtain ⟨h1,h2,rfl⟩:=mget_some hg
  obtain ⟨q,hq⟩:=T.keyOf k h1
  have hkeys : ∀ x ∈ mapEnts (l.flatMap (mcell kenc venc)) 0,∃ q,keyOf P kt x.key = some q:=fun x hx=>by
    obtain ⟨e,he,h,_⟩:=ents_mem hx
    rw [h]; exact T.keyOf _ (h2.1 e he)
  cases A with
  | none=>
    rcases hh with ⟨_,hx⟩ | ⟨g,hg',_⟩
    · have:=flat_nil hx
      subst this
      rcases T.keyed.find W hq [] (by simp) with ⟨hf,_⟩ | ⟨j,e0,_,hj,_⟩
      · have hz:=T.zero W
        simp [mapV,Instr.lookup,run_underlying T.und,T.keyed.check W _ hq,hf,hz,getM,Result.andThen]
      · simp at hj
    · cases hg'
  | some ad=>
    rcases hh with ⟨h,_⟩ | ⟨g,hg',hb,hblk⟩
    · cases h
    · obtain rfl : ad.block = g:=by simpa using hg'
      rcases T.keyed.find W hq _ hkeys with ⟨hf,hno⟩ | ⟨j,e0,hf,hj,hk0⟩
      · have hz:=T.zero W
        have hn : getM z l k = (z,false):=getM_none fun e he heq=>by
          obtain ⟨j,hj⟩:=List.getElem?_of_mem he
          have:=hno ⟨kenc e.1,venc e.2,0 + j⟩ (List.mem_of_getElem? (i:=j) (by rw [ents_get,hj]; rfl))
          exact this (by rw [heq])
        rw [hn]
        simp [mapV,Instr.lookup,run_underlying T.und,MapKept.run_getObj_map hblk,T.keyed.check W _ hq,hf,hz,Result.andThen]
      · rw [ents_get] at hj
        obtain ⟨e,he,rfl⟩:=Option.map_eq_some_iff.1 hj
        rw [getM_at h2.2 he (T.inj _ _ hk0)]
        simp [mapV,Instr.lookup,run_underlying T.und,MapKept.run_getObj_map hblk,T.keyed.check W _ hq,hf,Result.andThen]
theorem r_mget (T : MapTy P t kt et kenc venc ok z) (hx : ev σ x = mapV A) (hy : ev σ y = kenc k) (hR : fR tag S.R = some ⟨mapV A,e,sz,n,l.flatMap (mcell kenc venc)⟩) {r : V×Bool} (hg : mget ok z l k = some r) :
    Rn P σ S (.lookup t x y true) ty (.tuple #[venc r.1,.bool r.2]):=fun W hS=>by
  have hr:=look_run true T (rowOf hS hR) hg
  simp [execOp,hx,hy,hr]
/-! ### What comes to no value -/
def Skp (P : Program) (σ : Fr) (S : Sta) (op : Op) (ty : TypeId) (S' : Sta) : Prop := ∀ W, S.ok W → ∃ W1, (execOp (ev σ) ⟨none, op, ty, "", #[], none⟩).run P W = .ok .skip W1 ∧ S'.ok W1
theorem g_s {op : Op} {S' : Sta} (E : Skp P σ S op ty S') (h : G P ops Q N rest σ S') : G P ops Q N (⟨none,op,ty,pos,af,none⟩::rest) σ S:=g_skip S' rfl rfl E h
theorem ga_s {op : Op} {S' : Sta} (l' : Array Bool) (hi : ops[i]? = some ⟨none,op,ty,pos,af,none⟩) (hc : readyB .any ops la l' i = true) (hd : i ∉ ds) (E : Skp P σ S op ty S') (hSh : ∀ W,S'.ok W→Sh.ok W)
    (h : GA P ops Q N Sh ds fuel l' σ S') : GA P ops Q N Sh ds (fuel + 1) la σ S:=by
  intro a W ha hS hh
  refine one_ (S:=Sh.ok) l' hi rfl hc hd fun K hK=>?_
  obtain ⟨W1,hrun,hS1⟩:=E W hS
  rw [if_pos (by simp [Region.wanted])]
  unfold Oper.wp
  have hrun' : (execOp (ev σ) ⟨none,op,ty,pos,af,none⟩).run P W = .ok .skip W1:=hrun
  rw [ha.ev,hrun',Oper.upon_skip]
  exact hK.out _ _ (hSh _ hS1) (fun hS2=>h a _ ha hS1 hS2)
theorem ga_sL {op : Op} {S' : Sta} (l' : Array Bool) (hi : ops[i]? = some ⟨none,op,ty,pos,af,none⟩) (hc : readyB .any ops la l' i = true) (hd : i ∈ ds) (E : Skp P σ S op ty S')
    (h : GZ P ops Q N Sh ds fuel l' σ S') : GA P ops Q N Sh ds (fuel + 1) la σ S:=by
  intro a W ha hS hSh
  refine last_ (S:=Sh.ok) l' hi rfl hc hd fun K hK=>?_
  obtain ⟨W1,hrun,hS1⟩:=E W hS
  rw [if_pos (by simp [Region.wanted])]
  unfold Oper.wp
  have hrun' : (execOp (ev σ) ⟨none,op,ty,pos,af,none⟩).run P W = .ok .skip W1:=hrun
  rw [ha.ev,hrun',Oper.upon_skip]
  exact hK.out _ _ (h a _ ha hS1)
/-- A store into an own row, as an event. -/
theorem e_stR {α : Type} {enc : α→List Value} {l l' : List α} {i : Int} {v' : α} {A : Option Addr} {ad : Addr} {cc off sz tag e : Nat} {w : Value} {vs : List Value} {va : α}
    (hx : ev σ x = .pointer (some ((ad.add (i.toNat * sz)).add off))) (hA : A = some ad) (hy : ev σ y = w) (hvs : w.cells.toList = vs) (hat : at_ l i = some va) (hset : setAt l i v' = some l') (hev : enc v' = (enc va).take off++vs++(enc va).drop (off + vs.length)) (ho : off + vs.length ≤ sz) (hsz : ∀ a,(enc a).length = sz) (h1 : one1 vs = true)
    (hR : fR tag R = some ⟨.slice A l.length cc,e,sz,l.length,l.flatMap enc⟩) (hst : ∀ W,(sizeOf t).run P W = .ok vs.length W) :
    Skp P σ (Sta.mk w0 M H R φ) (.store t x y) ty ⟨w0,M,H,uR tag ⟨.slice A l'.length cc,e,sz,l'.length,l'.flatMap enc⟩ R,φ⟩:=stR_run hx hA hy hvs hat hset hev ho hsz h1 hR hst
theorem ents_push (l : List (K×V)) (i : Nat) (k : K) (v : V) : mapEnts ((l++[(k,v)]).flatMap (mcell kenc venc)) i = mapEnts (l.flatMap (mcell kenc venc)) i++[⟨kenc k,venc v,i + l.length⟩]:=by
  induction l generalizing i with
  | nil=>rfl
  | cons e r ih=>
    show mapEnts (kenc e.1::venc e.2::(r++[(k,v)]).flatMap (mcell kenc venc)) i = mapEnts (kenc e.1::venc e.2::r.flatMap (mcell kenc venc)) i++_
    simp only [mapEnts,ih,List.cons_append,List.length_cons]
    rw [show i + 1 + r.length = i + (r.length + 1) by omega]
theorem ents_mod (l : List (K×V)) (i j : Nat) {e : K×V} (hj : l[j]? = some e) (v : V) : mapEnts ((l.modify j fun _=>(e.1,v)).flatMap (mcell kenc venc)) i = (mapEnts (l.flatMap (mcell kenc venc)) i).modify j fun x=>{ x with key:=kenc e.1,val:=venc v }:=by
  induction l generalizing i j with
  | nil=>cases hj
  | cons a r ih=>
    show mapEnts (((a::r).modify j fun _=>(e.1,v)).flatMap (mcell kenc venc)) i = (mapEnts (kenc a.1::venc a.2::r.flatMap (mcell kenc venc)) i).modify j _
    cases j with
    | zero=>rfl
    | succ j=>
      have:=ih (i + 1) j (by simpa using hj)
      simp only [List.modify_succ_cons,mapEnts]
      rw [← this]
      rfl
/-- A store into a map. -/
theorem e_mput (T : MapTy P t kt et kenc venc ok z) {xv : Operand} (hx : ev σ x = mapV A) (hy : ev σ y = kenc k) (hv : ev σ xv = venc v) (hA : A.isSome = true) (hR : fR tag R = some ⟨mapV A,e,sz,l.length,l.flatMap (mcell kenc venc)⟩) (hg : mput ok l k v = some l2) :
    Skp P σ (Sta.mk w0 M H R φ) (.mapUpdate t x y xv) ty ⟨w0,M,H,uR tag ⟨mapV A,e,sz,l2.length,l2.flatMap (mcell kenc venc)⟩ R,φ⟩:=by
  intro W hS
  obtain ⟨h1,h2,rfl⟩:=mput_some hg
  obtain ⟨q,hq⟩:=T.keyOf k h1
  have hkeys : ∀ x ∈ mapEnts (l.flatMap (mcell kenc venc)) 0,∃ q,keyOf P kt x.key = some q:=fun x hx=>by
    obtain ⟨e,he,h,_⟩:=ents_mem hx
    rw [h]; exact T.keyOf _ (h2.1 e he)
  obtain ⟨ad,rfl⟩:=Option.isSome_iff_exists.1 hA
  rcases rowOf hS hR with ⟨h,_⟩ | ⟨g,hg',hb,hblk⟩
  · cases h
  obtain rfl : ad.block = g:=by simpa using hg'
  have fin : ∀ (es : Array MapEntry) (n2 : Nat),es = (mapEnts ((putM l k v).flatMap (mcell kenc venc)) 0).toArray→n2 = (putM l k v).length→(Instr.mapUpdate t (mapV (some ad)) (kenc k) (venc v)).run P W = .ok () { W with heap:=W.heap.setIfInBounds ad.block (.map es n2) }→
      ∃ W1, (execOp (ev σ) ⟨none, .mapUpdate t x y xv, ty, "", #[], none⟩).run P W = .ok .skip W1 ∧ (Sta.mk w0 M H (uR tag ⟨mapV (some ad), e, sz, (putM l k v).length, (putM l k v).flatMap (mcell kenc venc)⟩ R) φ).ok W1 := by
    rintro es n2 rfl rfl hr
    refine ⟨{ W with heap:=W.heap.setIfInBounds ad.block (.map (mapEnts ((putM l k v).flatMap (mcell kenc venc)) 0).toArray (putM l k v).length) },by simp [execOp,hx,hy,hv,hr],?_⟩
    refine hS.updR hR (o':=⟨mapV (some ad),e,sz,(putM l k v).length,(putM l k v).flatMap (mcell kenc venc)⟩) ⟨rfl,rfl,rfl,by simp,fun j hj hne=>?_⟩ (.inr ⟨ad.block,rfl,hb,?_⟩) (fun j hj=>.inl hj)
    · have : j ≠ ad.block:=fun e=>hne (by rw [e]; rfl)
      show (W.heap.setIfInBounds _ _)[j]? = _
      rw [Array.getElem?_setIfInBounds_ne (Ne.symm this)]
    · show (W.heap.setIfInBounds _ _)[ad.block]? = _
      rw [Array.getElem?_setIfInBounds_self_of_lt (blk_lt hblk)]
  rcases T.keyed.find W hq _ hkeys with ⟨hf,hno⟩ | ⟨j,e0,hf,hj,hk0⟩
  · have hn : ∀ e ∈ l,e.1 ≠ k:=fun e he heq=>by
      obtain ⟨j,hj⟩:=List.getElem?_of_mem he
      exact hno ⟨kenc e.1,venc e.2,0 + j⟩ (List.mem_of_getElem? (i:=j) (by rw [ents_get,hj]; rfl)) (by rw [heq])
    have hp:=putM_none (v:=v) hn
    refine fin ((mapEnts (l.flatMap (mcell kenc venc)) 0).toArray.push ⟨kenc k,venc v,l.length⟩) (l.length + 1) ?_ ?_ ?_
    · rw [hp,ents_push]; simp
    · rw [hp]; simp
    · simp [mapV,Instr.mapUpdate,run_underlying T.und,MapKept.run_getObj_map hblk,T.keyed.check W false hq,hf,MapKept.run_setObj_map _ hblk,Result.andThen]
  · rw [ents_get] at hj
    obtain ⟨e1,he,rfl⟩:=Option.map_eq_some_iff.1 hj
    have hk1 : e1.1 = k:=T.inj _ _ hk0
    have hp:=putM_at (v:=v) h2.2 he hk1
    have hlt : j < l.length:=(List.getElem?_eq_some_iff.1 he).1
    subst hk1
    have hjA : (mapEnts (l.flatMap (mcell kenc venc)) 0)[j]? = some ⟨kenc e1.1,venc e1.2,0 + j⟩:=by
      rw [ents_get,he]; rfl
    refine fin ((mapEnts (l.flatMap (mcell kenc venc)) 0).toArray.modify j fun x=>{ x with key:=kenc e1.1,val:=venc v }) l.length ?_ ?_ ?_
    · rw [hp,ents_mod l 0 j he]; simp
    · rw [hp]; simp
    · simp [mapV,Instr.mapUpdate,run_underlying T.und,MapKept.run_getObj_map hblk,T.keyed.check W false hq,hf,hjA,T.keyed.stays W hq,MapKept.run_setObj_map _ hblk,Result.andThen]
/-- A new map. -/
theorem e_mmake (tag e : Nat) (hl : l = []) : Evt P σ (Sta.mk w0 M H R φ) (.makeMap t none) ty (fun g : Nat=>mapV (some ⟨g,0,none⟩)) (fun _=>True) (fun g=>⟨w0,M,H,(tag,⟨mapV (some ⟨g,0,none⟩),e,2,l.length,l.flatMap (mcell kenc venc)⟩)::R,φ⟩):=by
  intro W hS
  subst hl
  refine ⟨W.heap.size,W.alloc (.map #[] 0),by simp [mapV,execOp,run_makeMap],trivial,?_⟩
  refine hS.newR (o':=⟨mapV (some ⟨W.heap.size,0,none⟩),e,2,0,[]⟩) (below_al W _) (.inr ⟨W.heap.size,rfl,hS.size,heap_alloc_new W _⟩) (fun k hk=>?_)
  have : W.heap.size = k:=by simpa [vblk] using hk
  omega
theorem nilM {W : World} (hS : (Sta.mk w0 M H R φ).ok W) (tag e : Nat) : (Sta.mk w0 M H ((tag,⟨mapV none,e,2,0,[]⟩)::R) φ).ok W:=
  hS.newR (o':=⟨mapV none,e,2,0,[]⟩) (Below.refl _ _) (.inl ⟨rfl,rfl⟩) (fun k hk=>by simp [vblk] at hk)
/-- A map that is nil holds nothing. -/
theorem nil_map {W : World} (hS : S.ok W) (hR : fR tag S.R = some ⟨mapV A,e,sz,n,l.flatMap (mcell kenc venc)⟩) (hA : A.isNone = true) : l = []:=by
  rcases rowOf hS hR with ⟨_,hx⟩ | ⟨g,hg,_⟩
  · exact flat_nil hx
  · cases A with
    | none=>cases hg
    | some a=>cases hA
theorem some_of_no {α : Type} {A : Option α} (h : A.isNone = false) : A.isSome = true:=by cases A <;> simp_all
/-- m == nil. -/
theorem run_eqNilM {tk te : TypeId} (hu : P.underlying t = some (.map tk te)) (d : Nat) (o : Option Nat) (W : World) : (Op.equalIn (d + 1) t (.map o) (.map none)).run P W = .ok o.isNone W:=by
  cases o <;> simp [Op.equalIn,run_underlying hu]
theorem r_isNilM {t' tk te : TypeId} (hu : P.underlying t = some (.map tk te)) (hx : ev σ x = mapV A) (hy : ev σ y = .map none) : Rn P σ S (.binOp .eql t x y t') ty (.bool A.isNone):=
  r_bin hx hy (fun W=>by
    simp only [eqGuard,binOp,Op.equal,show Op.maxDepth = 9999 + 1 from rfl]
    simp [mapV,run_eqNilM hu])
end
end Go.Proofs.Ytbaobjcaeaofaaa
