/-
  A small calculus for walks, its operations (own work).
-/
import Derived.Test.YtkmkpodioedlfaaDoorSG
import Derived.IntWalk
set_option linter.unusedVariables false
set_option linter.unusedSimpArgs false
namespace Go.Proofs.YtkmkpodioedlfaaDoor
open Go.RowKit
/-- A text's byte, as a number. -/
def byteAt (s : ByteArray) (i : Int) : Int := if h : i.toNat < s.size then (s[i.toNat].toNat : Int) else 0
def nth : List Value → Nat → Value
  | [], _ => undef
  | v :: _, 0 => v
  | _ :: l, n + 1 => nth l n
theorem nth_some : ∀ (l : List Value) (n : Nat) (h : n < l.length), nth l n = l[n]
  | v :: _, 0, _ => rfl
  | _ :: l, n + 1, h => nth_some l n (by simpa using h)
section
variable {P : Program} {ops : Array Oper} {Q : Exit → Act → World → Prop} {N : FS} {rest : List Oper} {σ : Fr} {S : Sta}
  {d : Nat} {ty : TypeId} {pos : String} {af : Array Edge} {x y : Operand} {t t' : TypeId} {k : IntKind} {p q r : Int}
theorem r_move  : Rn P σ S (.move x) ty ((ev σ x)) :=
  fun W _ => by simp [execOp]
theorem r_assign  : Rn P σ S (.assign x) ty ((ev σ x)) :=
  fun W _ => by simp [execOp]
theorem r_pick1 {c : Operand} {b : Bool} (hc : ev σ c = .bool b) (hb : b = true) : Rn P σ S (.pick c x y) ty ((ev σ x)) :=
  fun W _ => by subst hb; simp [execOp, hc, asBool]
theorem r_pick0 {c : Operand} {b : Bool} (hc : ev σ c = .bool b) (hb : b = false) : Rn P σ S (.pick c x y) ty ((ev σ y)) :=
  fun W _ => by subst hb; simp [execOp, hc, asBool]
theorem r_bin {op : BinOp} {X Y v : Value} (hx : ev σ x = X) (hy : ev σ y = Y) (hr : ∀ W : World, (do eqGuard op t x y X Y; binOp op t X Y : Sem Value).run P W = .ok v W) : Rn P σ S (.binOp op t x y t') ty v := by
  subst hx hy
  intro W _
  have := hr W
  simp only [execOp, Sem.run_bind] at this ⊢
  rw [this]
  rfl
theorem r_add (hx : ev σ x = .int k p) (hy : ev σ y = .int k q) (hr : k.wrap (p + q) = r) : Rn P σ S (.binOp .add t x y t') ty ((.int k r)) :=
  r_bin hx hy (fun W => by simp [eqGuard, binOp, Op.intArith, hr])
theorem r_sub (hx : ev σ x = .int k p) (hy : ev σ y = .int k q) (hr : k.wrap (p - q) = r) : Rn P σ S (.binOp .sub t x y t') ty ((.int k r)) :=
  r_bin hx hy (fun W => by simp [eqGuard, binOp, Op.intArith, hr])
theorem r_mul (hx : ev σ x = .int k p) (hy : ev σ y = .int k q) (hr : k.wrap (p * q) = r) : Rn P σ S (.binOp .mul t x y t') ty ((.int k r)) :=
  r_bin hx hy (fun W => by simp [eqGuard, binOp, Op.intArith, hr])
theorem r_quo (hx : ev σ x = .int k p) (hy : ev σ y = .int k q) (h0 : q ≠ 0) (hr : k.wrap (p.tdiv q) = r) : Rn P σ S (.binOp .quo t x y t') ty ((.int k r)) :=
  r_bin hx hy (fun W => by simp [eqGuard, binOp, Op.intDiv, hr, h0])
theorem r_rem (hx : ev σ x = .int k p) (hy : ev σ y = .int k q) (h0 : q ≠ 0) (hr : p.tmod q = r) : Rn P σ S (.binOp .rem t x y t') ty ((.int k r)) :=
  r_bin hx hy (fun W => by simp [eqGuard, binOp, Op.intDiv, hr, h0])
theorem r_lss (hx : ev σ x = .int k p) (hy : ev σ y = .int k q) : Rn P σ S (.binOp .lss t x y t') ty ((.bool (decide (p < q)))) :=
  r_bin hx hy (fun W => by simp [eqGuard, binOp, Op.intCmp])
theorem r_leq (hx : ev σ x = .int k p) (hy : ev σ y = .int k q) : Rn P σ S (.binOp .leq t x y t') ty ((.bool (decide (p ≤ q)))) :=
  r_bin hx hy (fun W => by simp [eqGuard, binOp, Op.intCmp])
theorem r_gtr (hx : ev σ x = .int k p) (hy : ev σ y = .int k q) : Rn P σ S (.binOp .gtr t x y t') ty ((.bool (decide (q < p)))) :=
  r_bin hx hy (fun W => by simp [eqGuard, binOp, Op.intCmp])
theorem r_geq (hx : ev σ x = .int k p) (hy : ev σ y = .int k q) : Rn P σ S (.binOp .geq t x y t') ty ((.bool (decide (q ≤ p)))) :=
  r_bin hx hy (fun W => by simp [eqGuard, binOp, Op.intCmp])
theorem r_eql (hx : ev σ x = .int k p) (hy : ev σ y = .int k q) : Rn P σ S (.binOp .eql t x y t') ty ((.bool (decide (p = q)))) :=
  r_bin hx hy (fun W => by simp [eqGuard, binOp, Op.intCmp]; rfl)
theorem r_neq (hx : ev σ x = .int k p) (hy : ev σ y = .int k q) : Rn P σ S (.binOp .neq t x y t') ty ((.bool (decide (p ≠ q)))) :=
  r_bin hx hy (fun W => by by_cases hpq : p = q <;> simp [eqGuard, binOp, Op.intCmp, hpq])
theorem r_not {b : Bool} (hx : ev σ x = .bool b) : Rn P σ S (.unOp .not t x) ty ((.bool (!b))) :=
  fun W _ => by simp [execOp, hx, Op.unary]
theorem r_conv {k' : IntKind} {dd : TypeDesc} (hu : P.underlying t = some dd) (hu' : P.underlying t' = some (.int k')) (hx : ev σ x = .int k p) (hr : k'.wrap p = r) : Rn P σ S (.convert t t' x) ty ((.int k' r)) :=
  fun W _ => by simp [execOp, hx, convert, run_underlying hu, run_underlying hu', Conv.intToInt, hr]
theorem r_extract {i : Nat} {vs : Array Value} (hx : ev σ x = .tuple vs) (hlt : Nat.blt i vs.size = true) : Rn P σ S (.extract x i) ty ((nth vs.toList i)) :=
  fun W _ => by
    have hlt' : i < vs.size := Nat.le_of_ble_eq_true hlt
    simp [execOp, hx, Instr.extract, hlt', nth_some vs.toList i (by simpa using hlt')]
/-! ### Strings -/
theorem r_eqlS {a b : ByteArray} (hx : ev σ x = .string a) (hy : ev σ y = .string b) : Rn P σ S (.binOp .eql t x y t') ty ((.bool (a.toList == b.toList))) :=
  r_bin hx hy (fun W => by simp [eqGuard, binOp, Op.stringOp])
theorem r_addS {a b : ByteArray} (hx : ev σ x = .string a) (hy : ev σ y = .string b) (hl : a.size + b.size ≤ 9223372036854775807) : Rn P σ S (.binOp .add t x y t') ty ((.string (a ++ b))) :=
  r_bin hx hy (fun W => by
    have : ¬ (((a.size + b.size : Nat) : Int) > IntKind.i64.max) := by simp [IntKind.max, IntKind.bits, IntKind.signed]; omega
    simp only [eqGuard, binOp, Op.stringOp, if_neg this]
    simp)
theorem r_len {a : ByteArray} (hu : P.underlying t = some .string) (hx : ev σ x = .string a) : Rn P σ S (.call ⟨.builtin .len, #[x], #[t]⟩) ty ((.int .i64 a.size)) :=
  fun W _ => by simp [execOp, resolve, invoke, builtin, Builtin.len_, run_underlying hu, hx, goInt]
theorem r_lenL {A : Option Addr} {n c : Nat} {e : TypeId} (hu : P.underlying t = some (.slice e)) (hx : ev σ x = .slice A n c) : Rn P σ S (.call ⟨.builtin .len, #[x], #[t]⟩) ty ((.int .i64 n)) :=
  fun W _ => by simp [execOp, resolve, invoke, builtin, Builtin.len_, run_underlying hu, hx, goInt]
theorem r_at {a : ByteArray} {i : Int} (hu : P.underlying t = some .string) (hx : ev σ x = .string a) (hy : ev σ y = .int k i) (h0 : 0 ≤ i) (h1 : i < a.size) : Rn P σ S (.index t x y) ty ((.int .u8 (byteAt a i))) :=
  fun W _ => by
    have hlt : i.toNat < a.size := by omega
    have hb : a[i.toNat]? = some a[i.toNat] := getElem?_pos a i.toNat hlt
    simp [execOp, Instr.index, asIntOf, run_underlying hu, hx, hy, h0, hb, byteAt, hlt]
/-! ### Blocks of the call's own -/
theorem r_field {fs : Array Field} {f : Field} {i off sz n : Nat} {b : Nat} (hu : P.underlying t = some (.struct fs)) (hf : fs[i]? = some f) (hs : ∀ W, (sizeOf f.type).run P W = .ok (sz + 1) W) (hx : ev σ x = .pointer (some ⟨b, off, none⟩)) (hn : off + f.offset = n) :
    Rn P σ S (.fieldAddr t x i) ty (.pointer (some ⟨b, n, none⟩)) := by
  subst hn
  intro W _
  have : (⟨b, off, none⟩ : Addr).add f.offset = ⟨b, off + f.offset, none⟩ := by unfold Addr.add; split <;> simp_all
  simp [execOp, Instr.fieldAt, run_underlying hu, hf, hx, Instr.sureAddr, fieldPlace, hs W, this]
/-- A plain variable is read. -/
theorem r_load {tag g off : Nat} {cs : Array Value} {t0 : TypeId} {fr : Nat × Nat} (hx : ev σ x = .pointer (some ⟨g, off, none⟩)) (hH : fH tag S.H = some (g, .cells cs t0 fr)) (hlt : Nat.blt off cs.size = true) (ha : ∀ W, (isAgg t).run P W = .ok false W) : Rn P σ S (.load t x) ty ((nth cs.toList off)) :=
  fun W hS => by
    have hg := (hS.has _ (fH_mem hH)).2
    have hlt' : off < cs.size := Nat.le_of_ble_eq_true hlt
    have hc : W.cell? ⟨g, off, none⟩ = some (nth cs.toList off) := by simp only [World.cell?, hg]; simp [nth_some cs.toList off (by simpa using hlt'), hlt']
    have ha' := ha W
    simp [execOp, Instr.loadAt, Instr.sureAddr, hx, loadVar, ha', load, Sem.run, hc]
end
end Go.Proofs.YtkmkpodioedlfaaDoor
