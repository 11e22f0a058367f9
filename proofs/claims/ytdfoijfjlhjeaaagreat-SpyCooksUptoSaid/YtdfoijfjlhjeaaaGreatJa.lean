/- Texts in one: what the law's walk needs, part 1: contracts by symbolic execution; no condition. -/
import Derived.WalkKit
import Derived.Calls
import Derived.Below
import Derived.Laws.CopyRow
import Derived.Laws.AppendOwn
import Derived.Laws.Append
import Derived.Laws.Entries
import Derived.Laws.Slices
import Derived.Laws.StructEq
import Derived.Laws.Strings
import Derived.OrdersHeld
import Derived.Laws.Pointers
import Derived.MapKept
import Derived.Carry
import Derived.Laws.Cover3
import Derived.Deep.Slices
import Derived.SizedLaws
import Derived.ProofKit
import Derived.ChangeShapes
set_option linter.unusedSimpArgs false
set_option linter.unusedVariables false
/- Symbolic execution by classes: what is known of a frame's slots and of some blocks of memory is carried along, operation by operation. Of whatever program. -/
universe u
namespace Go.SX
set_option linter.unusedSimpArgs false
set_option linter.unusedVariables false

class Is (p : Prop) : Prop where
  out : p
instance isRfl {α : Sort u} (a : α) : Is (a = a) := ⟨rfl⟩

theorem lt_of_ble {d n : Nat} (h : Nat.ble n d = false) : d < n := by
  rcases Nat.lt_or_ge d n with h' | h'
  · exact h'
  · rw [Nat.ble_eq_true_of_le h'] at h; cases h
abbrev Env := List (Nat × Value)
abbrev Hp := List (Nat × Obj)
def keys (Γ : List Hp) : List Nat := Γ.flatten.map (·.1)

/-! ### slots -/
class Lk (L : Env) (t : Nat) (v : outParam Value) : Prop where
  out : L.lookup t = some v
instance (priority := high) lkHere (L : Env) (t : Nat) (v : Value) : Lk ((t, v) :: L) t v := ⟨by simp [List.lookup]⟩
instance lkThere (L : Env) (t t' : Nat) (v v' : Value) [h : Is (Nat.beq t t' = false)] [h2 : Lk L t v] : Lk ((t', v') :: L) t v := ⟨by
  have h3 : (t == t') = false := beq_false_of_ne (Nat.ne_of_beq_eq_false h.out)
  simp [List.lookup, h3, h2.out]⟩

def Kn (n : Nat) (L : Env) (a : Act) : Prop := a.tmps.size = n ∧ a.defers = [] ∧ ∀ t v, L.lookup t = some v → a.tmps[t]? = some v

theorem Kn.put {n : Nat} {L : Env} {a : Act} {d : Nat} {v : Value} (h : Kn n L a) (hd : d < n) : Kn n ((d, v) :: L) (a.put (some d) v) := by
  refine ⟨by simp [Act.put, h.1], h.2.1, fun t u ht => ?_⟩
  by_cases e : t = d
  · subst e
    simp [List.lookup] at ht
    subst ht
    have : t < a.tmps.size := h.1 ▸ hd
    simp [Act.put, this]
  · have e' : (t == d) = false := by simpa using e
    simp only [List.lookup, e'] at ht
    simp only [Act.put]
    rw [Array.getElem?_setIfInBounds_ne (fun h => e h.symm)]
    exact h.2.2 t u ht
theorem Kn.putNone {n : Nat} {L : Env} {a : Act} {v : Value} (h : Kn n L a) : Kn n L (a.put none v) := h

class Ev (L : Env) (x : Operand) (v : outParam Value) : Prop where
  out : ∀ n a, Kn n L a → a.eval x = v
instance evTmp (L : Env) (t : Nat) (v : Value) [h : Lk L t v] : Ev L (.tmp t) v := ⟨fun n a k => by
  have := k.2.2 t v h.out
  simp [Act.eval, Array.getD_eq_getD_getElem?, this]⟩
instance evConst (L : Env) (v : Value) : Ev L (.const v) v := ⟨fun _ _ _ => rfl⟩
instance evGlobal (L : Env) (g : Nat) : Ev L (.global g) (.pointer (some ⟨g, 0, none⟩)) := ⟨fun _ _ _ => rfl⟩
instance evFunc (L : Env) (f : FuncId) : Ev L (.func f) (.func (.func f) #[] #[]) := ⟨fun _ _ _ => rfl⟩

class Evs (L : Env) (xs : List Operand) (vs : outParam (List Value)) : Prop where
  out : ∀ n a, Kn n L a → xs.map a.eval = vs
instance evsNil (L : Env) : Evs L [] [] := ⟨fun _ _ _ => rfl⟩
instance evsCons (L : Env) (x : Operand) (xs : List Operand) (v : Value) (vs : List Value) [h : Ev L x v] [h2 : Evs L xs vs] : Evs L (x :: xs) (v :: vs) :=
  ⟨fun n a k => by simp [h.out n a k, h2.out n a k]⟩

/-! ### memory -/
structure Cx where
  M : List Nat
  w0 : World
  D : Bool

structure Inv (C : Cx) (R Γ : List Hp) (w : World) : Prop where
  os : w.os = C.w0.os
  tape : w.tape = C.w0.tape
  output : w.output = C.w0.output
  size : C.w0.heap.size ≤ w.heap.size
  ro : ∀ x ∈ R.flatten, w.heap[x.1]? = some x.2
  own : ∀ x ∈ Γ.flatten, w.heap[x.1]? = some x.2
  nodup : (keys Γ).Nodup
  apart : ∀ b ∈ keys Γ, b ∉ keys R
  may : ∀ b ∈ keys Γ, b ∈ C.M ∨ C.w0.heap.size ≤ b
  frame : ∀ b, b < C.w0.heap.size → b ∉ C.M → w.heap[b]? = C.w0.heap[b]?
  dr : C.D = true → C.w0.drawn ≤ w.drawn

class Look (Γ : List Hp) (b : Nat) (o : outParam Obj) : Prop where
  out : (b, o) ∈ Γ.flatten
instance (priority := high) lookHere (Γ : List Hp) (b : Nat) (o : Obj) : Look ([(b, o)] :: Γ) b o := ⟨by simp⟩
instance lookThere (Γ : List Hp) (s : Hp) (b : Nat) (o : Obj) [h : Look Γ b o] : Look (s :: Γ) b o := ⟨by simp only [List.flatten_cons, List.mem_append]; exact .inr h.out⟩

class See (R Γ : List Hp) (b : Nat) (o : outParam Obj) : Prop where
  out : ∀ C w, Inv C R Γ w → w.heap[b]? = some o
instance (priority := high) seeOwn (R Γ : List Hp) (b : Nat) (o : Obj) [h : Look Γ b o] : See R Γ b o := ⟨fun _ _ i => i.own _ h.out⟩
instance seeRo (R Γ : List Hp) (b : Nat) (o : Obj) [h : Look R b o] : See R Γ b o := ⟨fun _ _ i => i.ro _ h.out⟩

/-! ### arrays -/
class AtL (cs : List Value) (i : Nat) (v : outParam Value) : Prop where
  out : cs[i]? = some v
instance atL0 (x : Value) (cs : List Value) : AtL (x :: cs) 0 x := ⟨rfl⟩
instance atLS (x : Value) (cs : List Value) (i : Nat) (v : Value) [h : AtL cs i v] : AtL (x :: cs) (i + 1) v := ⟨by simpa using h.out⟩
class At (cs : Array Value) (i : Nat) (v : outParam Value) : Prop where
  out : cs[i]? = some v
instance atArr (l : List Value) (i : Nat) (v : Value) [h : AtL l i v] : At l.toArray i v := ⟨by simpa using h.out⟩

class Ext (cs : Array Value) (off n : Nat) (r : outParam (Array Value)) : Prop where
  out : off + n ≤ cs.size ∧ cs.extract off (off + n) = r
class TakeL (l : List Value) (n : Nat) (r : outParam (List Value)) : Prop where
  out : n ≤ l.length ∧ l.take n = r
instance takeL0 (l : List Value) : TakeL l 0 [] := ⟨by simp⟩
instance takeLS (x : Value) (l : List Value) (n : Nat) (r : List Value) [h : TakeL l n r] : TakeL (x :: l) (n + 1) (x :: r) := ⟨by simp [h.out.1, h.out.2]⟩
class DropL (l : List Value) (n : Nat) (r : outParam (List Value)) : Prop where
  out : n ≤ l.length ∧ l.drop n = r
instance dropL0 (l : List Value) : DropL l 0 l := ⟨by simp⟩
instance dropLS (x : Value) (l : List Value) (n : Nat) (r : List Value) [h : DropL l n r] : DropL (x :: l) (n + 1) r := ⟨by simp [h.out.1, h.out.2]⟩
instance extArr (l l' r : List Value) (off n : Nat) [h : DropL l off l'] [h2 : TakeL l' n r] : Ext l.toArray off n r.toArray := ⟨by
  obtain ⟨h0, rfl⟩ := h.out
  obtain ⟨h1, rfl⟩ := h2.out
  simp at h1
  refine ⟨by simp; omega, ?_⟩
  simp [List.extract_eq_take_drop]⟩
class Siz (cs : Array Value) (n : outParam Nat) : Prop where
  out : cs.size = n
class LenL (l : List Value) (n : outParam Nat) : Prop where
  out : l.length = n
instance lenL0 : LenL [] 0 := ⟨rfl⟩
instance lenLS (x : Value) (l : List Value) (n : Nat) [h : LenL l n] : LenL (x :: l) (n + 1) := ⟨by simp [h.out]⟩
instance sizArr (l : List Value) (n : Nat) [h : LenL l n] : Siz l.toArray n := ⟨by simpa using h.out⟩

/-! ### what a type is: facts of a program, laid by instances -/
class Und (P : Program) (t : TypeId) (d : outParam TypeDesc) : Prop where
  out : P.underlying t = some d
class Sc (P : Program) (t : TypeId) : Prop where
  out : ∀ w, (isAgg t).run P w = .ok false w
class Ag (P : Program) (t : TypeId) (n : outParam Nat) : Prop where
  out : (∀ w, (isAgg t).run P w = .ok true w) ∧ ∀ w, (sizeOf t).run P w = .ok n w
class Sz (P : Program) (t : TypeId) (n : outParam Nat) : Prop where
  out : ∀ w, (sizeOf t).run P w = .ok n w
class Zr (P : Program) (t : TypeId) (z : outParam Value) : Prop where
  out : ∀ w, (zeroValue t).run P w = .ok z w
class Fl (P : Program) (t : TypeId) (f : Nat) (off : outParam Nat) : Prop where
  out : ∀ b o w, (Instr.fieldAt t (.pointer (some ⟨b, o, none⟩)) f).run P w = .ok (.pointer (some ⟨b, o + off, none⟩)) w

/-! ### a load -/
theorem cell_of {w : World} {b i : Nat} {cs : Array Value} {t : TypeId} {fr : Nat × Nat} (h : w.heap[b]? = some (.cells cs t fr)) : w.cell? ⟨b, i, none⟩ = cs[i]? := by
  simp [World.cell?, h]
theorem add_at (b i n : Nat) : (Addr.mk b i none).add n = ⟨b, i + n, none⟩ := by
  unfold Addr.add; split <;> simp_all

/-- what is read at a type's variable -/
class Ld (P : Program) (t : TypeId) (cs : Array Value) (off : Nat) (v : outParam Value) : Prop where
  out : ∀ b et fr w, w.heap[b]? = some (.cells cs et fr) → (loadVar t ⟨b, off, none⟩).run P w = .ok v w
instance ldSc (P : Program) (t : TypeId) (cs : Array Value) (off : Nat) (v : Value) [h : Sc P t] [h2 : At cs off v] : Ld P t cs off v := ⟨fun b et fr w hb => by
  have hc : w.cell? ⟨b, off, none⟩ = some v := by rw [cell_of hb]; exact h2.out
  simp [loadVar, h.out, hc]⟩
theorem ldAg {P : Program} {t : TypeId} {cs r : Array Value} {off n : Nat} (h : Ag P t n) (h2 : off + n ≤ cs.size ∧ cs.extract off (off + n) = r) (b : Nat) (et : TypeId) (fr : Nat × Nat) (w : World)
    (hb : w.heap[b]? = some (.cells cs et fr)) : (loadVar t ⟨b, off, none⟩).run P w = .ok (.agg r) w := by
  obtain ⟨hs, rfl⟩ := h2
  have hl : (loadCells ⟨b, off, none⟩ n).run P w = .ok (cs.extract off (off + n)) w := by
    have := run_loadCells (P := P) (w := w) ⟨b, off, none⟩ n (fun j => cs.getD (off + j) undef) (fun j hj => by
      rw [add_at, cell_of hb]
      have : off + j < cs.size := by omega
      simp [Array.getD, this])
    rw [this]
    congr 1
    apply Array.ext
    · simp; omega
    · intro i h1 h2
      simp at h1 h2
      have : off + i < cs.size := by omega
      simp [Array.getD, this]
  simp [loadVar, h.out.1, h.out.2, hl]
instance (priority := high) ldWhole (P : Program) (t : TypeId) (cs : Array Value) (n : Nat) [h : Ag P t n] [h2 : Siz cs n] : Ld P t cs 0 (.agg cs) := ⟨fun b et fr w hb =>
  ldAg h ⟨by simp [h2.out], by simp [← h2.out]⟩ b et fr w hb⟩
instance ldPart (P : Program) (t : TypeId) (cs r : Array Value) (off n : Nat) [h : Ag P t n] [h2 : Ext cs off n r] : Ld P t cs off (.agg r) := ⟨fun b et fr w hb => ldAg h h2.out b et fr w hb⟩

/-! ### operations that leave the world as it is -/
class Y (P : Program) (R : List Hp) (L : Env) (Γ : List Hp) (op : Op) (v : outParam Value) : Prop where
  out : ∀ (C : Cx) (n : Nat) (a : Act) (w : World) (dst : Option Tmp) (ty : TypeId) (pos : String) (af : Array Edge) (g : Option (Nat × Bool)), Kn n L a → Inv C R Γ w →
    (execOp a.eval ⟨dst, op, ty, pos, af, g⟩).run P w = .ok (.value v) w
section
variable {P : Program} {R : List Hp} {L : Env} {Γ : List Hp}
instance yMove (x : Operand) (v : Value) [h : Ev L x v] : Y P R L Γ (.move x) v := ⟨fun C n a w _ _ _ _ _ k i => by simp [execOp, h.out n a k]⟩
instance yAssign (x : Operand) (v : Value) [h : Ev L x v] : Y P R L Γ (.assign x) v := ⟨fun C n a w _ _ _ _ _ k i => by simp [execOp, h.out n a k]⟩
instance yPickT (c x y : Operand) (v : Value) [h : Ev L c (.bool true)] [h2 : Ev L x v] : Y P R L Γ (.pick c x y) v := ⟨fun C n a w _ _ _ _ _ k i => by simp [execOp, h.out n a k, h2.out n a k, asBool]⟩
instance yPickF (c x y : Operand) (v : Value) [h : Ev L c (.bool false)] [h2 : Ev L y v] : Y P R L Γ (.pick c x y) v := ⟨fun C n a w _ _ _ _ _ k i => by simp [execOp, h.out n a k, h2.out n a k, asBool]⟩
instance yNil (x : Operand) (p : Addr) [h : Ev L x (.pointer (some p))] : Y P R L Γ (.nilCheck x) (.pointer (some p)) := ⟨fun C n a w _ _ _ _ _ k i => by simp [execOp, h.out n a k]⟩
instance yExtract (x : Operand) (j : Nat) (vs : Array Value) (v : Value) [h : Ev L x (.tuple vs)] [h2 : At vs j v] : Y P R L Γ (.extract x j) v := ⟨fun C n a w _ _ _ _ _ k i => by simp [execOp, h.out n a k, Instr.extract, h2.out]⟩
instance yLoad (t et : TypeId) (x : Operand) (b off : Nat) (cs : Array Value) (fr : Nat × Nat) (v : Value) [h : Ev L x (.pointer (some ⟨b, off, none⟩))] [h2 : See R Γ b (.cells cs et fr)] [h3 : Ld P t cs off v] :
    Y P R L Γ (.load t x) v := ⟨fun C n a w _ _ _ _ _ k i => by
  have := h3.out b et fr w (h2.out C w i)
  simp [execOp, h.out n a k, Instr.loadAt, Instr.sureAddr, this]⟩
instance yField (t : TypeId) (x : Operand) (f b off fo : Nat) [h : Ev L x (.pointer (some ⟨b, off, none⟩))] [h2 : Fl P t f fo] : Y P R L Γ (.fieldAddr t x f) (.pointer (some ⟨b, off + fo, none⟩)) := ⟨fun C n a w _ _ _ _ _ k i => by
  simp [execOp, h.out n a k, h2.out]⟩
instance (priority := high) yField0 (t : TypeId) (x : Operand) (f b fo : Nat) [h : Ev L x (.pointer (some ⟨b, 0, none⟩))] [h2 : Fl P t f fo] : Y P R L Γ (.fieldAddr t x f) (.pointer (some ⟨b, fo, none⟩)) := ⟨fun C n a w _ _ _ _ _ k i => by
  simp [execOp, h.out n a k, h2.out]⟩
instance yNot (t : TypeId) (x : Operand) (b : Bool) [h : Ev L x (.bool b)] : Y P R L Γ (.unOp .not t x) (.bool (!b)) := ⟨fun C n a w _ _ _ _ _ k i => by simp [execOp, h.out n a k, Op.unary]⟩
instance (priority := high) yNotD (t : TypeId) (x : Operand) (p : Prop) [Decidable p] [h : Ev L x (.bool (decide p))] : Y P R L Γ (.unOp .not t x) (.bool (decide (¬ p))) := ⟨fun C n a w _ _ _ _ _ k i => by simp [execOp, h.out n a k, Op.unary]⟩
instance (priority := high) yNotT (t : TypeId) (x : Operand) [h : Ev L x (.bool true)] : Y P R L Γ (.unOp .not t x) (.bool false) := ⟨fun C n a w _ _ _ _ _ k i => by simp [execOp, h.out n a k, Op.unary]⟩
instance (priority := high) yNotF (t : TypeId) (x : Operand) [h : Ev L x (.bool false)] : Y P R L Γ (.unOp .not t x) (.bool true) := ⟨fun C n a w _ _ _ _ _ k i => by simp [execOp, h.out n a k, Op.unary]⟩

instance yConvI (src dst : TypeId) (x : Operand) (k j : IntKind) (i : Int) [h : Ev L x (.int j i)] [h1 : Und P src (.int j)] [h2 : Und P dst (.int k)] : Y P R L Γ (.convert src dst x) (.int k (k.wrap i)) := ⟨fun C n a w _ _ _ _ _ kn i => by
  simp [execOp, h.out n a kn, convert, underlying, h1.out, h2.out, Conv.intToInt]⟩
instance yNeg (t : TypeId) (x : Operand) (k : IntKind) (i : Int) [h : Ev L x (.int k i)] : Y P R L Γ (.unOp .neg t x) (.int k (k.wrap (0 - i))) := ⟨fun C n a w _ _ _ _ _ kn _ => by
  simp [execOp, h.out n a kn, Op.unary, Op.intArith]⟩
/-- a binary operator on two values -/
class Bin (P : Program) (op : BinOp) (t : TypeId) (x y : Value) (v : outParam Value) : Prop where
  out : (∀ w, (binOp op t x y).run P w = .ok v w) ∧ ((op = .eql ∨ op = .neq) → (∀ (p q : Operand) w, (eqGuard op t p q x y).run P w = .ok () w))
instance yBin (op : BinOp) (t ty : TypeId) (x y : Operand) (vx vy v : Value) [h : Ev L x vx] [h2 : Ev L y vy] [h3 : Bin P op t vx vy v] : Y P R L Γ (.binOp op t x y ty) v := ⟨fun C n a w _ _ _ _ _ k i => by
  have e := h3.out
  simp only [execOp, h.out n a k, h2.out n a k]
  by_cases he : op = .eql ∨ op = .neq
  · simp [e.1, e.2 he]
  · have : (eqGuard op t x y vx vy).run P w = .ok () w := by
      unfold eqGuard
      cases op <;> simp at he ⊢
    simp [e.1, this]⟩
theorem guardInt (P : Program) (op : BinOp) (t : TypeId) (k j : IntKind) (x y : Int) (p q : Operand) (w : World) : (eqGuard op t p q (.int k x) (.int j y)).run P w = .ok () w := by
  unfold eqGuard; cases op <;> simp
instance biLss (t : TypeId) (k : IntKind) (x y : Int) : Bin P .lss t (.int k x) (.int k y) (.bool (decide (x < y))) := ⟨fun w => by simp [binOp, Op.intCmp], fun _ p q w => guardInt ..⟩
instance biLeq (t : TypeId) (k : IntKind) (x y : Int) : Bin P .leq t (.int k x) (.int k y) (.bool (decide (x ≤ y))) := ⟨fun w => by simp [binOp, Op.intCmp], fun _ p q w => guardInt ..⟩
instance biGtr (t : TypeId) (k : IntKind) (x y : Int) : Bin P .gtr t (.int k x) (.int k y) (.bool (decide (y < x))) := ⟨fun w => by simp [binOp, Op.intCmp], fun _ p q w => guardInt ..⟩
instance biGeq (t : TypeId) (k : IntKind) (x y : Int) : Bin P .geq t (.int k x) (.int k y) (.bool (decide (y ≤ x))) := ⟨fun w => by simp [binOp, Op.intCmp], fun _ p q w => guardInt ..⟩
instance biEql (t : TypeId) (k : IntKind) (x y : Int) : Bin P .eql t (.int k x) (.int k y) (.bool (decide (x = y))) := ⟨fun w => by simp [binOp, Op.intCmp]; rfl, fun _ p q w => guardInt ..⟩
instance biNeq (t : TypeId) (k : IntKind) (x y : Int) : Bin P .neq t (.int k x) (.int k y) (.bool (decide (x ≠ y))) := ⟨fun w => by simp only [binOp, Op.intCmp]; simp; rfl, fun _ p q w => guardInt ..⟩
theorem biAdd (t : TypeId) (x y : Int) : Bin P .add t (.int .i64 x) (.int .i64 y) (.int .i64 (RowKit.wrap64 (x + y))) := ⟨fun w => by simp [binOp, Op.intArith, IntKind.wrap_i64, RowKit.wrap64], fun _ p q w => guardInt ..⟩
theorem biSub (t : TypeId) (x y : Int) : Bin P .sub t (.int .i64 x) (.int .i64 y) (.int .i64 (RowKit.wrap64 (x - y))) := ⟨fun w => by simp [binOp, Op.intArith, IntKind.wrap_i64, RowKit.wrap64], fun _ p q w => guardInt ..⟩
theorem biMul (t : TypeId) (x y : Int) : Bin P .mul t (.int .i64 x) (.int .i64 y) (.int .i64 (RowKit.wrap64 (x * y))) := ⟨fun w => by simp [binOp, Op.intArith, IntKind.wrap_i64, RowKit.wrap64], fun _ p q w => guardInt ..⟩
instance biAnd (t : TypeId) (k : IntKind) (x y : Int) : Bin P .and t (.int k x) (.int k y) (.int k (bits .and k x y)) := ⟨fun w => by simp [binOp, Op.intBits, bits], fun _ p q w => guardInt ..⟩
instance biOr (t : TypeId) (k : IntKind) (x y : Int) : Bin P .or t (.int k x) (.int k y) (.int k (bits .or k x y)) := ⟨fun w => by simp [binOp, Op.intBits, bits], fun _ p q w => guardInt ..⟩
instance biXor (t : TypeId) (k : IntKind) (x y : Int) : Bin P .xor t (.int k x) (.int k y) (.int k (bits .xor k x y)) := ⟨fun w => by simp [binOp, Op.intBits, bits], fun _ p q w => guardInt ..⟩
instance biAndNot (t : TypeId) (k : IntKind) (x y : Int) : Bin P .andNot t (.int k x) (.int k y) (.int k (bits .andNot k x y)) := ⟨fun w => by simp [binOp, Op.intBits, bits], fun _ p q w => guardInt ..⟩
/-- a kind other than i64 -/
class Nw (k : IntKind) : Prop
instance : Nw .i8 := ⟨⟩
instance : Nw .i16 := ⟨⟩
instance : Nw .i32 := ⟨⟩
instance : Nw .u8 := ⟨⟩
instance : Nw .u16 := ⟨⟩
instance : Nw .u32 := ⟨⟩
instance : Nw .u64 := ⟨⟩
instance (priority := low) biAddK (t : TypeId) (k : IntKind) [Nw k] (x y : Int) : Bin P .add t (.int k x) (.int k y) (.int k (k.wrap (x + y))) := ⟨fun w => by simp [binOp, Op.intArith], fun _ p q w => guardInt ..⟩
instance (priority := low) biSubK (t : TypeId) (k : IntKind) [Nw k] (x y : Int) : Bin P .sub t (.int k x) (.int k y) (.int k (k.wrap (x - y))) := ⟨fun w => by simp [binOp, Op.intArith], fun _ p q w => guardInt ..⟩
instance (priority := low) biMulK (t : TypeId) (k : IntKind) [Nw k] (x y : Int) : Bin P .mul t (.int k x) (.int k y) (.int k (k.wrap (x * y))) := ⟨fun w => by simp [binOp, Op.intArith], fun _ p q w => guardInt ..⟩
/-- a shift by a count that isn't below 0 -/
def shlI (k : IntKind) (x y : Int) : Int := k.wrap (x * 2 ^ (min y.toNat k.bits))
def shrI (k : IntKind) (x y : Int) : Int := x.fdiv (2 ^ (min y.toNat k.bits))
theorem bi_shl {t : TypeId} {k j : IntKind} {x y : Int} (h : 0 ≤ y) : Bin P .shl t (.int k x) (.int j y) (.int k (shlI k x y)) := ⟨fun w => by
  have : ¬ y < 0 := by omega
  simp [binOp, Op.shift, this, shlI], fun h => by rcases h with h | h <;> cases h⟩
theorem bi_shr {t : TypeId} {k j : IntKind} {x y : Int} (h : 0 ≤ y) : Bin P .shr t (.int k x) (.int j y) (.int k (shrI k x y)) := ⟨fun w => by
  have : ¬ y < 0 := by omega
  simp [binOp, Op.shift, this, shrI], fun h => by rcases h with h | h <;> cases h⟩
theorem bi_quo {t : TypeId} {k : IntKind} {x y : Int} (h : y ≠ 0) : Bin P .quo t (.int k x) (.int k y) (.int k (k.wrap (x.tdiv y))) := ⟨fun w => by
  simp [binOp, Op.intDiv, h], fun h => by rcases h with h | h <;> cases h⟩
theorem bi_rem {t : TypeId} {k : IntKind} {x y : Int} (h : y ≠ 0) : Bin P .rem t (.int k x) (.int k y) (.int k (x.tmod y)) := ⟨fun w => by
  simp [binOp, Op.intDiv, h], fun h => by rcases h with h | h <;> cases h⟩
instance biBoolE (t : TypeId) (x y : Bool) [h : Und P t .bool] : Bin P .eql t (.bool x) (.bool y) (.bool (x == y)) := ⟨fun w => run_eql_bool w t x y h.out, fun _ p q w => by unfold eqGuard; simp⟩
instance biBoolN (t : TypeId) (x y : Bool) [h : Und P t .bool] : Bin P .neq t (.bool x) (.bool y) (.bool (!(x == y))) := ⟨fun w => run_neq_bool w t x y h.out, fun _ p q w => by unfold eqGuard; simp⟩
end

/-! ### the walk over a region's operations in the text's order -/
/-- whatever world and frame fit what is known: K holds -/
def VK (C : Cx) (R : List Hp) (n : Nat) (L : Env) (Γ : List Hp) (K : Act → World → Prop) : Prop := ∀ a w, Kn n L a → Inv C R Γ w → K a w
/-- the rest of a list of operations; a piece of code; what is behind an exit -/
def KL (P : Program) (all : Array Oper) (Q : Exit → Act → World → Prop) (ops : List Oper) : Act → World → Prop := wpList P all Q ops
def KC (P : Program) (c : Code) (Q : Exit → Act → World → Prop) : Act → World → Prop := c.wp P Q
def KE (Q : Exit → Act → World → Prop) (e : Exit) : Act → World → Prop := Q e
/-- one operation, and what follows it -/
def wp1 (P : Program) (all : Array Oper) (Q : Exit → Act → World → Prop) (o : Oper) (K : Act → World → Prop) (a : Act) (w : World) : Prop :=
  if Region.wanted o (yielded all a.tmps) then o.wp P a w K Q ∨ (o.asks P a w ∧ LetsOut Q) else K (a.put o.dst undef) w
section
variable {P : Program} {C : Cx} {R : List Hp} {n : Nat} {all : Array Oper} {Q : Exit → Act → World → Prop} {L : Env} {Γ : List Hp} {rest : List Oper} {w : World}
theorem v_done (h : VK C R n L Γ (KE Q .normal)) : VK C R n L Γ (KL P all Q []) := fun a w k i => h a w k i
theorem v_val {d : Nat} {op : Op} {ty : TypeId} {pos : String} {af : Array Edge} {v : Value} [hy : Y P R L Γ op v] [hd : Is (Nat.ble n d = false)] (h : VK C R n ((d, v) :: L) Γ (KL P all Q rest)) :
    VK C R n L Γ (KL P all Q (⟨some d, op, ty, pos, af, none⟩ :: rest)) := fun a w k i => by
  have hd' : d < n := lt_of_ble hd.out
  simp only [KL, wpList, Region.wanted, if_true]
  refine .inl ?_
  simp only [Oper.wp, hy.out C n a w _ _ _ _ _ k i, Oper.upon]
  exact h _ _ (k.put hd') i
theorem v_valN {op : Op} {ty : TypeId} {pos : String} {af : Array Edge} {v : Value} [hy : Y P R L Γ op v] (h : VK C R n L Γ (KL P all Q rest)) :
    VK C R n L Γ (KL P all Q (⟨none, op, ty, pos, af, none⟩ :: rest)) := fun a w k i => by
  simp only [KL, wpList, Region.wanted, if_true]
  refine .inl ?_
  simp only [Oper.wp, hy.out C n a w _ _ _ _ _ k i, Oper.upon]
  exact h _ _ k i

theorem v_guardY {dst : Option Tmp} {op : Op} {ty : TypeId} {pos : String} {af : Array Edge} {j t : Nat} {b : Bool} (ht : (all[j]?).bind (·.dst) = some t) [hl : Lk L t (.bool b)]
    (hy : VK C R n L Γ (KL P all Q (⟨dst, op, ty, pos, af, none⟩ :: rest))) : VK C R n L Γ (KL P all Q (⟨dst, op, ty, pos, af, some (j, b)⟩ :: rest)) := fun a w k i => by
  have hc := k.2.2 t _ hl.out
  have hw : Region.wanted ⟨dst, op, ty, pos, af, some (j, b)⟩ (yielded all a.tmps) = true := by
    simp only [Region.wanted, yielded, ht, Option.bind_some, hc, beq_self_eq_true]
  have := hy a w k i
  simp only [KL, wpList, Region.wanted, if_true] at this
  show if Region.wanted ⟨dst, op, ty, pos, af, some (j, b)⟩ (yielded all a.tmps) = true then _ else _
  rw [hw, if_pos rfl]
  exact this
theorem v_guardN {dst : Option Tmp} {op : Op} {ty : TypeId} {pos : String} {af : Array Edge} {j t : Nat} {b c : Bool} (ht : (all[j]?).bind (·.dst) = some t) [hl : Lk L t (.bool c)] (hne : c ≠ b)
    (hn : ∀ a w, Kn n L a → Inv C R Γ w → wpList P all Q rest (a.put dst undef) w) : VK C R n L Γ (KL P all Q (⟨dst, op, ty, pos, af, some (j, b)⟩ :: rest)) := fun a w k i => by
  have hc := k.2.2 t _ hl.out
  have hw : Region.wanted ⟨dst, op, ty, pos, af, some (j, b)⟩ (yielded all a.tmps) = false := by
    simp only [Region.wanted, yielded, ht, Option.bind_some, hc]
    cases c <;> cases b <;> simp_all
  show if Region.wanted ⟨dst, op, ty, pos, af, some (j, b)⟩ (yielded all a.tmps) = true then _ else _
  rw [hw, if_neg (by simp)]
  exact hn a w k i
/-- a guard that is known not to hold: the operation is left out -/
theorem v_guardTF {d : Nat} {op : Op} {ty : TypeId} {pos : String} {af : Array Edge} {j t : Nat} (ht : (all[j]?).bind (·.dst) = some t) [hl : Lk L t (.bool false)] [hd : Is (Nat.ble n d = false)]
    (hn : VK C R n ((d, undef) :: L) Γ (KL P all Q rest)) : VK C R n L Γ (KL P all Q (⟨some d, op, ty, pos, af, some (j, true)⟩ :: rest)) := v_guardN ht (by simp) (fun a w k i => hn _ _ (k.put (lt_of_ble hd.out)) i)
theorem v_guardFT {d : Nat} {op : Op} {ty : TypeId} {pos : String} {af : Array Edge} {j t : Nat} (ht : (all[j]?).bind (·.dst) = some t) [hl : Lk L t (.bool true)] [hd : Is (Nat.ble n d = false)]
    (hn : VK C R n ((d, undef) :: L) Γ (KL P all Q rest)) : VK C R n L Γ (KL P all Q (⟨some d, op, ty, pos, af, some (j, false)⟩ :: rest)) := v_guardN ht (by simp) (fun a w k i => hn _ _ (k.put (lt_of_ble hd.out)) i)
theorem v_guardTFn {op : Op} {ty : TypeId} {pos : String} {af : Array Edge} {j t : Nat} (ht : (all[j]?).bind (·.dst) = some t) [hl : Lk L t (.bool false)]
    (hn : VK C R n L Γ (KL P all Q rest)) : VK C R n L Γ (KL P all Q (⟨none, op, ty, pos, af, some (j, true)⟩ :: rest)) := v_guardN ht (by simp) (fun a w k i => hn _ _ k i)
theorem v_guardFTn {op : Op} {ty : TypeId} {pos : String} {af : Array Edge} {j t : Nat} (ht : (all[j]?).bind (·.dst) = some t) [hl : Lk L t (.bool true)]
    (hn : VK C R n L Γ (KL P all Q rest)) : VK C R n L Γ (KL P all Q (⟨none, op, ty, pos, af, some (j, false)⟩ :: rest)) := v_guardN ht (by simp) (fun a w k i => hn _ _ k i)
/-- a guard whose own test was left out -/
theorem v_guardU {d : Nat} {op : Op} {ty : TypeId} {pos : String} {af : Array Edge} {j t : Nat} {b : Bool} (ht : (all[j]?).bind (·.dst) = some t) [hl : Lk L t undef] [hd : Is (Nat.ble n d = false)]
    (hn : VK C R n ((d, undef) :: L) Γ (KL P all Q rest)) : VK C R n L Γ (KL P all Q (⟨some d, op, ty, pos, af, some (j, b)⟩ :: rest)) := fun a w k i => by
  have hc := k.2.2 t _ hl.out
  have hw : Region.wanted ⟨some d, op, ty, pos, af, some (j, b)⟩ (yielded all a.tmps) = false := by
    simp only [Region.wanted, yielded, ht, Option.bind_some, hc]
    cases b <;> rfl
  show if Region.wanted ⟨some d, op, ty, pos, af, some (j, b)⟩ (yielded all a.tmps) = true then _ else _
  rw [hw, if_neg (by simp)]
  exact hn _ _ (k.put (lt_of_ble hd.out)) i
theorem Kn.know {a : Act} {t : Nat} {c x : Bool} (k : Kn n L a) (hl : Lk L t (.bool c)) (e : c = x) : Kn n ((t, .bool x) :: L) a := ⟨k.1, k.2.1, fun u v hu => by
  by_cases e' : u = t
  · subst e'; simp [List.lookup] at hu; rw [← hu, ← e]; exact k.2.2 _ _ hl.out
  · have e2 : (u == t) = false := by simpa using e'
    simp only [List.lookup, e2] at hu
    exact k.2.2 u v hu⟩
/-- a guard that is not known: both ways, with the test as a proposition -/
theorem v_split {o : Oper} {j t : Nat} {b : Bool} {p : Prop} [Decidable p] (_hg : o.guard = some (j, b)) (_ht : (all[j]?).bind (·.dst) = some t) [hl : Lk L t (.bool (decide p))] (h1 : p → VK C R n ((t, .bool true) :: L) Γ (KL P all Q (o :: rest)))
    (h2 : ¬ p → VK C R n ((t, .bool false) :: L) Γ (KL P all Q (o :: rest))) : VK C R n L Γ (KL P all Q (o :: rest)) := fun a w k i => by
  by_cases hp : p
  · exact h1 hp a w (k.know hl (by simp [hp])) i
  · exact h2 hp a w (k.know hl (by simp [hp])) i
theorem v_splitB {o : Oper} {j t : Nat} {b c : Bool} (_hg : o.guard = some (j, b)) (_ht : (all[j]?).bind (·.dst) = some t) [hl : Lk L t (.bool c)] (h1 : c = true → VK C R n ((t, .bool true) :: L) Γ (KL P all Q (o :: rest)))
    (h2 : c = false → VK C R n ((t, .bool false) :: L) Γ (KL P all Q (o :: rest))) : VK C R n L Γ (KL P all Q (o :: rest)) := fun a w k i => by
  cases c with
  | true => exact h1 rfl a w (k.know hl rfl) i
  | false => exact h2 rfl a w (k.know hl rfl) i

/-! ### new memory, and stores -/
theorem Inv.new (h : Inv C R Γ w) (o : Obj) : Inv C R ([(w.heap.size, o)] :: Γ) (w.alloc o) := by
  have old : ∀ b o', w.heap[b]? = some o' → (w.alloc o).heap[b]? = some o' := fun b o' hb => by
    have : b < w.heap.size := by
      rcases Nat.lt_or_ge b w.heap.size with h | h
      · exact h
      · rw [Array.getElem?_eq_none h] at hb; cases hb
    rw [heap_alloc_old w o this]; exact hb
  have lt : ∀ b ∈ keys Γ, b < w.heap.size := fun b hb => by
    obtain ⟨x, hx, rfl⟩ := List.mem_map.1 hb
    have := h.own x hx
    rcases Nat.lt_or_ge x.1 w.heap.size with h | h
    · exact h
    · rw [Array.getElem?_eq_none h] at this; cases this
  have ltR : ∀ b ∈ keys R, b < w.heap.size := fun b hb => by
    obtain ⟨x, hx, rfl⟩ := List.mem_map.1 hb
    have := h.ro x hx
    rcases Nat.lt_or_ge x.1 w.heap.size with h | h
    · exact h
    · rw [Array.getElem?_eq_none h] at this; cases this
  have hk : keys ([(w.heap.size, o)] :: Γ) = w.heap.size :: keys Γ := by simp [keys]
  refine ⟨h.os, h.tape, h.output, Nat.le_trans h.size (by simp), fun x hx => old _ _ (h.ro x hx), fun x hx => ?_, ?_, fun b hb => ?_, fun b hb => ?_, fun b hb hM => ?_, h.dr⟩
  · simp only [List.flatten_cons, List.mem_append, List.mem_singleton] at hx
    rcases hx with rfl | hx
    · exact heap_alloc_new w o
    · exact old _ _ (h.own x hx)
  · rw [hk, List.nodup_cons]
    exact ⟨fun hm => Nat.lt_irrefl _ (lt _ hm), h.nodup⟩
  · rw [hk] at hb
    rcases List.mem_cons.1 hb with rfl | hb
    · exact fun hm => Nat.lt_irrefl _ (ltR _ hm)
    · exact h.apart b hb
  · rw [hk] at hb
    rcases List.mem_cons.1 hb with rfl | hb
    · exact .inr h.size
    · exact h.may b hb
  · rw [heap_alloc_old w o (Nat.lt_of_lt_of_le hb h.size)]
    exact h.frame b hb hM
theorem Inv.drew (h : Inv C R Γ w) : Inv C R Γ w.drew := ⟨h.os, h.tape, h.output, h.size, h.ro, h.own, h.nodup, h.apart, h.may, h.frame, fun e => Nat.le_succ_of_le (h.dr e)⟩

/-- one known block takes another content -/
class Upd (Γ : List Hp) (b : Nat) (o : outParam Obj) (Γ' : outParam (Obj → List Hp)) : Prop where
  out : (b, o) ∈ Γ.flatten ∧ ∀ o', keys (Γ' o') = keys Γ ∧ ∀ x ∈ (Γ' o').flatten, x = (b, o') ∨ (x ∈ Γ.flatten ∧ ((keys Γ).Nodup → x.1 ≠ b))
instance (priority := high) updHere (Γ : List Hp) (b : Nat) (o : Obj) : Upd ([(b, o)] :: Γ) b o (fun o' => [(b, o')] :: Γ) := ⟨by simp, fun o' => ⟨by simp [keys], fun x hx => by
  simp only [List.flatten_cons, List.mem_append, List.mem_singleton] at hx ⊢
  rcases hx with rfl | hx
  · exact .inl rfl
  · refine .inr ⟨.inr hx, fun hn e => ?_⟩
    simp only [keys, List.flatten_cons, List.map_cons, List.singleton_append, List.nodup_cons] at hn
    exact hn.1 (List.mem_map.2 ⟨x, hx, e⟩)⟩⟩
instance updThere (Γ : List Hp) (s : Hp) (b : Nat) (o : Obj) (f : Obj → List Hp) [h : Upd Γ b o f] : Upd (s :: Γ) b o (fun o' => s :: f o') := ⟨by
  simp only [List.flatten_cons, List.mem_append]; exact .inr h.out.1, fun o' => ⟨by have := (h.out.2 o').1; simp only [keys, List.flatten_cons, List.map_append] at this ⊢; rw [this], fun x hx => by
    simp only [List.flatten_cons, List.mem_append] at hx ⊢
    rcases hx with hx | hx
    · refine .inr ⟨.inl hx, fun hn e => ?_⟩
      simp only [keys, List.flatten_cons, List.map_append, List.nodup_append] at hn
      exact hn.2.2 x.1 (List.mem_map.2 ⟨x, hx, rfl⟩) b (List.mem_map.2 ⟨_, h.out.1, rfl⟩) e
    · rcases (h.out.2 o').2 x hx with e | ⟨e, e2⟩
      · exact .inl e
      · refine .inr ⟨.inr e, fun hn => e2 ?_⟩
        simp only [keys, List.flatten_cons, List.map_append, List.nodup_append] at hn
        exact hn.2.1⟩⟩

theorem Inv.upd {b : Nat} {o : Obj} {f : Obj → List Hp} (h : Inv C R Γ w) (hu : Upd Γ b o f) {w' : World} {o' : Obj} (hb : w'.heap[b]? = some o') (hother : ∀ k, k ≠ b → w'.heap[k]? = w.heap[k]?) (hs : w'.heap.size = w.heap.size)
    (h1 : w'.os = w.os) (h2 : w'.tape = w.tape) (h3 : w'.output = w.output) (h4 : w'.drawn = w.drawn) : Inv C R (f o') w' := by
  have hbk : b ∈ keys Γ := List.mem_map.2 ⟨_, hu.out.1, rfl⟩
  obtain ⟨hk, hm⟩ := hu.out.2 o'
  refine ⟨h1.trans h.os, h2.trans h.tape, h3.trans h.output, hs ▸ h.size, fun x hx => ?_, fun x hx => ?_, hk ▸ h.nodup, hk ▸ h.apart, hk ▸ h.may, fun k hk hM => ?_, fun e => h4 ▸ h.dr e⟩
  · rw [hother _ (fun e => h.apart b hbk (e ▸ List.mem_map.2 ⟨x, hx, rfl⟩))]
    exact h.ro x hx
  · rcases hm x hx with rfl | ⟨hx, hne⟩
    · exact hb
    · rw [hother _ (hne h.nodup)]
      exact h.own x hx
  · rw [hother _ (fun e => ?_)]
    · exact h.frame k hk hM
    · rcases h.may b hbk with hb | hb
      · exact hM (e ▸ hb)
      · omega

theorem v_alloc {K : Act → World → Prop} {d t : Nat} {ty : TypeId} {pos : String} {af : Array Edge} {z : Value} [hz : Zr P t z] [hd : Is (Nat.ble n d = false)]
    (h : ∀ b, VK C R n ((d, .pointer (some ⟨b, 0, none⟩)) :: L) ([(b, .cells z.cells t (0, 0))] :: Γ) K) : VK C R n L Γ (wp1 P all Q ⟨some d, .alloc t, ty, pos, af, none⟩ K) := fun a w k i => by
  have hd' : d < n := lt_of_ble hd.out
  simp only [wp1, Region.wanted, if_true]
  refine .inl ?_
  have : (execOp a.eval ⟨some d, .alloc t, ty, pos, af, none⟩).run P w = .ok (.value (.pointer (some ⟨w.heap.size, 0, none⟩))) (w.alloc (.cells z.cells t)) := by
    simp [execOp, Instr.alloc, hz.out, newVar, newRow]
  simp only [Oper.wp, this, Oper.upon]
  exact h _ _ _ (k.put hd') (i.new _)
/-- the cells of a value -/
class Cel (v : Value) (cs : outParam (Array Value)) : Prop where
  out : v.cells = cs
instance celAgg (cs : Array Value) : Cel (.agg cs) cs := ⟨rfl⟩
instance celInt (k : IntKind) (x : Int) : Cel (.int k x) #[.int k x] := ⟨rfl⟩
instance celBool (x : Bool) : Cel (.bool x) #[.bool x] := ⟨rfl⟩
instance celStr (x : ByteArray) : Cel (.string x) #[.string x] := ⟨rfl⟩
instance celPtr (x : Option Addr) : Cel (.pointer x) #[.pointer x] := ⟨rfl⟩
instance celSl (x : Option Addr) (l c : Nat) : Cel (.slice x l c) #[.slice x l c] := ⟨rfl⟩
instance celMap (x : Option Nat) : Cel (.map x) #[.map x] := ⟨rfl⟩
instance celNilI : Cel .nilIface #[.nilIface] := ⟨rfl⟩
instance celI (t : TypeId) (x : Value) : Cel (.iface t x) #[.iface t x] := ⟨rfl⟩
instance celF (f : Fn) (x y : Array Value) : Cel (.func f x y) #[.func f x y] := ⟨rfl⟩
instance celNilF : Cel .nilFunc #[.nilFunc] := ⟨rfl⟩
theorem v_alloc' {K : Act → World → Prop} {d t : Nat} {ty : TypeId} {pos : String} {af : Array Edge} {z : Value} {cs : Array Value} [hz : Zr P t z] [hc : Cel z cs] [hd : Is (Nat.ble n d = false)]
    (h : ∀ b, VK C R n ((d, .pointer (some ⟨b, 0, none⟩)) :: L) ([(b, .cells cs t (0, 0))] :: Γ) K) : VK C R n L Γ (wp1 P all Q ⟨some d, .alloc t, ty, pos, af, none⟩ K) := by
  have e := hc.out
  subst e
  exact v_alloc h
theorem v_box {K : Act → World → Prop} {d t : Nat} {x : Operand} {ty : TypeId} {pos : String} {af : Array Edge} {v : Value} {cs : Array Value} [hx : Ev L x v] [hc : Cel v cs] [hd : Is (Nat.ble n d = false)]
    (h : ∀ b, VK C R n ((d, .pointer (some ⟨b, 0, none⟩)) :: L) ([(b, .cells cs t (0, 0))] :: Γ) K) : VK C R n L Γ (wp1 P all Q ⟨some d, .box t x, ty, pos, af, none⟩ K) := fun a w k i => by
  have hd' : d < n := lt_of_ble hd.out
  simp only [wp1, Region.wanted, if_true]
  refine .inl ?_
  have : (execOp a.eval ⟨some d, .box t x, ty, pos, af, none⟩).run P w = .ok (.value (.pointer (some ⟨w.heap.size, 0, none⟩))) (w.alloc (.cells cs t)) := by
    simp [execOp, Instr.box, hx.out n a k, newVar, newRow, hc.out]
  simp only [Oper.wp, this, Oper.upon]
  exact h _ _ _ (k.put hd') (i.new _)

end

/-! ### a store: the cells from a place on -/
class One (v : Value) : Prop where
  out : v.oneCell' = true
instance (k : IntKind) (x : Int) : One (.int k x) := ⟨rfl⟩
instance (x : Bool) : One (.bool x) := ⟨rfl⟩
instance (x : ByteArray) : One (.string x) := ⟨rfl⟩
instance (x : Option Addr) : One (.pointer x) := ⟨rfl⟩
instance (x : Option Addr) (l c : Nat) : One (.slice x l c) := ⟨rfl⟩
instance (x : Option Nat) : One (.map x) := ⟨rfl⟩
instance : One .nilIface := ⟨rfl⟩
instance (t : TypeId) (x : Value) : One (.iface t x) := ⟨rfl⟩
instance (f : Fn) (x y : Array Value) : One (.func f x y) := ⟨rfl⟩
instance : One .nilFunc := ⟨rfl⟩
class OneL (l : List Value) : Prop where
  out : ∀ v ∈ l, v.oneCell' = true
instance oneLNil : OneL [] := ⟨fun _ h => by cases h⟩
instance oneLCons (v : Value) (l : List Value) [h : One v] [h2 : OneL l] : OneL (v :: l) := ⟨fun x hx => by
  rcases List.mem_cons.1 hx with rfl | hx
  · exact h.out
  · exact h2.out x hx⟩
class OneA (cs : Array Value) : Prop where
  out : ∀ v ∈ cs.toList, v.oneCell' = true
instance oneArr (l : List Value) [h : OneL l] : OneA l.toArray := ⟨by simpa using h.out⟩
class PtL (cs : List Value) (off : Nat) (vs : List Value) (r : outParam (List Value)) : Prop where
  out : off + vs.length ≤ cs.length ∧ cs.take off ++ vs ++ cs.drop (off + vs.length) = r
instance ptLN (cs : List Value) : PtL cs 0 [] cs := ⟨by simp⟩
instance ptL0 (c v : Value) (cs vs r : List Value) [h : PtL cs 0 vs r] : PtL (c :: cs) 0 (v :: vs) (v :: r) := ⟨by have := h.out; simp at this ⊢; exact this⟩
instance ptLS (c : Value) (cs vs r : List Value) (off : Nat) [h : PtL cs off vs r] : PtL (c :: cs) (off + 1) vs (c :: r) := ⟨by
  obtain ⟨h1, rfl⟩ := h.out
  refine ⟨by simp; omega, ?_⟩
  rw [show off + 1 + vs.length = (off + vs.length) + 1 by omega]
  simp⟩
class Pt (cs : Array Value) (off : Nat) (vs : Array Value) (r : outParam (Array Value)) : Prop where
  out : off + vs.size ≤ cs.size ∧ (cs.toList.take off ++ vs.toList ++ cs.toList.drop (off + vs.size)).toArray = r
instance (priority := high) ptWhole (cs vs : Array Value) (n : Nat) [h : Siz cs n] [h2 : Siz vs n] : Pt cs 0 vs vs := ⟨by
  have e1 := h.out
  have e2 := h2.out
  refine ⟨by omega, ?_⟩
  rw [List.take_zero, List.nil_append, List.drop_eq_nil_of_le (by simp; omega)]
  simp⟩
instance ptArr (l vs r : List Value) (off : Nat) [h : PtL l off vs r] : Pt l.toArray off vs.toArray r.toArray := ⟨by
  obtain ⟨h1, rfl⟩ := h.out
  exact ⟨by simpa using h1, by simp⟩⟩

section
variable {P : Program} {C : Cx} {R : List Hp} {n : Nat} {all : Array Oper} {Q : Exit → Act → World → Prop} {L : Env} {Γ : List Hp} {rest : List Oper} {w : World}
theorem v_store {K : Act → World → Prop} {t et b off m : Nat} {x y : Operand} {ty : TypeId} {pos : String} {af : Array Edge} {v : Value} {vs cs r : Array Value} {f : Obj → List Hp} [hx : Ev L x (.pointer (some ⟨b, off, none⟩))] [hy : Ev L y v] [hc : Cel v vs]
    [hm : Sz P t m] [hs : Siz vs m] [h1 : OneA vs] [hu : Upd Γ b (.cells cs et (0, 0)) f] [hp : Pt cs off vs r]
    (h : VK C R n L (f (.cells r et (0, 0))) K) : VK C R n L Γ (wp1 P all Q ⟨none, .store t x y, ty, pos, af, none⟩ K) := fun a w k i => by
  have hb := i.own _ hu.out.1
  obtain ⟨p1, p2⟩ := hp.out
  have hst := run_storeCells_at (P := P) b off et vs.toList 0 cs w hb (by simpa using p1) h1.out
  simp only [Nat.add_zero, Array.length_toList, p2] at hst
  have hrun : (execOp a.eval ⟨none, .store t x y, ty, pos, af, none⟩).run P w = .ok .skip (w.setRow b r) := by
    simp [execOp, Instr.storeAt, Instr.sureAddr, hx.out n a k, hy.out n a k, storeVar, hc.out, hm.out, hs.out, hst]
  simp only [wp1, Region.wanted, if_true]
  refine .inl ?_
  simp only [Oper.wp, hrun, Oper.upon]
  refine h _ _ (k.putNone) (i.upd hu (setRow_heap w b cs r et (0, 0) hb) (fun j hj => setRow_other w b j r hj) (by simp) rfl rfl rfl rfl)

/-! ### calls -/
/-- The contract of a call: what is read (R), what is the callee's to change (Γ); it returns, and what it answers and leaves is as Post says. -/
def SpecD (D : Bool) (P : Program) (f : FuncId) (args : Array Value) (R Γ : List Hp) (Post : Value → List Hp → Prop) : Prop :=
  ∀ w, Inv ⟨keys Γ, w, D⟩ R Γ w → Calls P f args w fun e w' => ∃ v Γ', e = .returned v ∧ Post v Γ' ∧ Inv ⟨keys Γ, w, D⟩ R Γ' w'
/-- .. of what is drawn nothing is said -/
abbrev Spec := SpecD false

/-- what a callee reads is known to the caller -/
class Sub (Rc R Γ : List Hp) : Prop where
  out : ∀ x ∈ Rc.flatten, x ∈ R.flatten ∨ x ∈ Γ.flatten
instance subNil (R Γ : List Hp) : Sub [] R Γ := ⟨fun _ h => by cases h⟩
class SegIn (s : Hp) (Γ : List Hp) : Prop where
  out : ∀ x ∈ s, x ∈ Γ.flatten
instance (priority := high) segHere (s : Hp) (Γ : List Hp) : SegIn s (s :: Γ) := ⟨fun x h => by simp [h]⟩
instance segThere (s t : Hp) (Γ : List Hp) [h : SegIn s Γ] : SegIn s (t :: Γ) := ⟨fun x hx => by simp only [List.flatten_cons, List.mem_append]; exact .inr (h.out x hx)⟩
instance subR (s : Hp) (Rc R Γ : List Hp) [h : SegIn s R] [h2 : Sub Rc R Γ] : Sub (s :: Rc) R Γ := ⟨fun x hx => by
  simp only [List.flatten_cons, List.mem_append] at hx
  exact hx.elim (fun hx => .inl (h.out x hx)) (h2.out x)⟩
instance subG (s : Hp) (Rc R Γ : List Hp) [h : SegIn s Γ] [h2 : Sub Rc R Γ] : Sub (s :: Rc) R Γ := ⟨fun x hx => by
  simp only [List.flatten_cons, List.mem_append] at hx
  exact hx.elim (fun hx => .inr (h.out x hx)) (h2.out x)⟩
/-- the callee's part is taken out of the caller's memory -/
class Del (Γ : List Hp) (s : Hp) (Γ' : outParam (List Hp)) : Prop where
  out : Γ.flatten.Perm (s ++ Γ'.flatten)
instance (priority := high) delHere (s : Hp) (Γ : List Hp) : Del (s :: Γ) s Γ := ⟨by simp⟩
instance delThere (s t : Hp) (Γ Γ' : List Hp) [h : Del Γ s Γ'] : Del (t :: Γ) s (t :: Γ') := ⟨by
  simp only [List.flatten_cons]
  exact (h.out.append_left t).trans (by rw [← List.append_assoc, ← List.append_assoc]; exact (List.perm_append_comm).append_right _)⟩
class Pick (Γ Γc : List Hp) (Γr : outParam (List Hp)) : Prop where
  out : Γ.flatten.Perm (Γc.flatten ++ Γr.flatten)
instance pickNil (Γ : List Hp) : Pick Γ [] Γ := ⟨by simp⟩
instance pickCons (Γ Γ1 Γc Γr : List Hp) (s : Hp) [h : Del Γ s Γ1] [h2 : Pick Γ1 Γc Γr] : Pick Γ (s :: Γc) Γr := ⟨by
  simp only [List.flatten_cons, List.append_assoc]
  exact h.out.trans (h2.out.append_left s)⟩

theorem keys_append (A B : List Hp) : keys (A ++ B) = keys A ++ keys B := by simp [keys]
theorem lt_of_own {x : Nat × Obj} (h : w.heap[x.1]? = some x.2) : x.1 < w.heap.size := by
  rcases Nat.lt_or_ge x.1 w.heap.size with h' | h'
  · exact h'
  · rw [Array.getElem?_eq_none h'] at h; cases h

theorem Inv.callee {Γc Γr Rc : List Hp} (i : Inv C R Γ w) (hp : Γ.flatten.Perm (Γc.flatten ++ Γr.flatten)) (hs : ∀ x ∈ Rc.flatten, x ∈ R.flatten ∨ x ∈ Γ.flatten) (ha : ∀ b ∈ keys Γc, b ∉ keys Rc) : Inv ⟨keys Γc, w, C.D⟩ Rc Γc w := by
  have hk : (keys Γ).Perm (keys Γc ++ keys Γr) := by simpa [keys] using hp.map (·.1)
  have hn := hk.nodup_iff.1 i.nodup
  refine ⟨rfl, rfl, rfl, Nat.le_refl _, fun x hx => (hs x hx).elim (i.ro x) (i.own x), fun x hx => i.own x (hp.mem_iff.2 (List.mem_append_left _ hx)), (List.nodup_append.1 hn).1, ha, fun b hb => .inl hb, fun b _ _ => rfl, fun _ => Nat.le_refl _⟩

theorem Inv.back {Γc Γr Rc Γ' : List Hp} {w' : World} (i : Inv C R Γ w) (hp : Γ.flatten.Perm (Γc.flatten ++ Γr.flatten)) (j : Inv ⟨keys Γc, w, C.D⟩ Rc Γ' w') : Inv C R (Γ' ++ Γr) w' := by
  have hk : (keys Γ).Perm (keys Γc ++ keys Γr) := by simpa [keys] using hp.map (·.1)
  have hn := hk.nodup_iff.1 i.nodup
  have hr : ∀ b ∈ keys Γr, b ∉ keys Γc := fun b hb hc => (List.nodup_append.1 hn).2.2 b hc b hb rfl
  have hrl : ∀ x ∈ Γr.flatten, x.1 < w.heap.size := fun x hx => lt_of_own (i.own x (hp.mem_iff.2 (List.mem_append_right _ hx)))
  have hRl : ∀ x ∈ R.flatten, x.1 < w.heap.size := fun x hx => lt_of_own (i.ro x hx)
  have hcM : ∀ b ∈ keys Γc, b ∈ C.M ∨ C.w0.heap.size ≤ b := fun b hb => i.may b (hk.mem_iff.2 (List.mem_append_left _ hb))
  refine ⟨j.os.trans i.os, j.tape.trans i.tape, j.output.trans i.output, Nat.le_trans i.size j.size, fun x hx => ?_, fun x hx => ?_, ?_, fun b hb => ?_, fun b hb => ?_, fun b hb hM => ?_, fun e => Nat.le_trans (i.dr e) (j.dr e)⟩
  · rw [j.frame _ (hRl x hx) (fun hc => i.apart _ (hk.mem_iff.2 (List.mem_append_left _ hc)) (List.mem_map.2 ⟨x, hx, rfl⟩))]
    exact i.ro x hx
  · simp only [List.flatten_append, List.mem_append] at hx
    rcases hx with hx | hx
    · exact j.own x hx
    · rw [j.frame _ (hrl x hx) (hr _ (List.mem_map.2 ⟨x, hx, rfl⟩))]
      exact i.own x (hp.mem_iff.2 (List.mem_append_right _ hx))
  · rw [keys_append, List.nodup_append]
    refine ⟨j.nodup, (List.nodup_append.1 hn).2.1, fun b hb c hc e => ?_⟩
    subst e
    rcases j.may b hb with h | h
    · exact hr b hc h
    · obtain ⟨x, hx, rfl⟩ := List.mem_map.1 hc
      have := hrl x hx
      simp only at h
      omega
  · rw [keys_append, List.mem_append] at hb
    rcases hb with hb | hb
    · rcases j.may b hb with h | h
      · exact i.apart b (hk.mem_iff.2 (List.mem_append_left _ h))
      · intro hR
        obtain ⟨x, hx, rfl⟩ := List.mem_map.1 hR
        have := hRl x hx
        simp only at h
        omega
    · exact i.apart b (hk.mem_iff.2 (List.mem_append_right _ hb))
  · rw [keys_append, List.mem_append] at hb
    rcases hb with hb | hb
    · rcases j.may b hb with h | h
      · exact hcM b h
      · exact .inr (Nat.le_trans i.size h)
    · exact i.may b (hk.mem_iff.2 (List.mem_append_right _ hb))
  · rw [j.frame b (Nat.lt_of_lt_of_le hb i.size) (fun hc => (hcM b hc).elim hM (fun h => by omega))]
    exact i.frame b hb hM

/-- a function with a body -/
class Fn1 (P : Program) (f : FuncId) : Prop where
  out : ∀ args w, (callFunc f args).run P w = .ok (.enter f args) w
theorem v_call {K : Act → World → Prop} {d f : Nat} {xs : Array Operand} {ats : Array TypeId} {ty : TypeId} {pos : String} {af : Array Edge} {vs : List Value} {Rc Γc Γr : List Hp} {Post : Value → List Hp → Prop}
    [hf : Fn1 P f] [hx : Evs L xs.toList vs] [hd : Is (Nat.ble n d = false)] {M : List Nat} {w0 : World} {D : Bool} (hs : SpecD D P f vs.toArray Rc Γc Post) [hp : Pick Γ Γc Γr] [hsub : Sub Rc R Γ] (ha : ∀ b ∈ keys Γc, b ∉ keys Rc)
    (h : ∀ v Γ', Post v Γ' → VK ⟨M, w0, D⟩ R n ((d, v) :: L) (Γ' ++ Γr) K) : VK ⟨M, w0, D⟩ R n L Γ (wp1 P all Q ⟨some d, .call ⟨.value (.func f), xs, ats⟩, ty, pos, af, none⟩ K) := fun a w k i => by
  have hd' : d < n := lt_of_ble hd.out
  have hargs : xs.map a.eval = vs.toArray := by
    have := hx.out n a k
    apply Array.ext'
    simpa using this
  have hrun : (execOp a.eval ⟨some d, .call ⟨.value (.func f), xs, ats⟩, ty, pos, af, none⟩).run P w = .ok (.enter f vs.toArray) w := by
    simp [execOp, resolve, Act.eval, Deferred.ofValue, invoke, hargs, hf.out]
  simp only [wp1, Region.wanted, if_true]
  refine .inl ?_
  simp only [Oper.wp, hrun, Oper.upon]
  refine (hs w (i.callee hp.out hsub.out ha)).mono ?_
  rintro e w' ⟨v, Γ', rfl, hP, j⟩
  exact h v Γ' hP _ _ (k.put hd') (i.back hp.out j)

/-- a call that answers one value and leaves nothing -/
class PCx (D : Bool) (P : Program) (f : FuncId) (args : Array Value) (v : outParam Value) : Prop where
  out : SpecD D P f args [] [] fun u Γ => u = v ∧ Γ = []
abbrev PC := PCx false
theorem v_pcall {K : Act → World → Prop} {d f : Nat} {xs : Array Operand} {ats : Array TypeId} {ty : TypeId} {pos : String} {af : Array Edge} {vs : List Value} {v : Value} {M : List Nat} {w0 : World} {D : Bool}
    [hf : Fn1 P f] [hx : Evs L xs.toList vs] [hs : PCx D P f vs.toArray v] [hd : Is (Nat.ble n d = false)] (h : VK ⟨M, w0, D⟩ R n ((d, v) :: L) Γ K) :
    VK ⟨M, w0, D⟩ R n L Γ (wp1 P all Q ⟨some d, .call ⟨.value (.func f), xs, ats⟩, ty, pos, af, none⟩ K) :=
  v_call hs.out (fun b hb => by cases hb) (fun u Γ' ⟨e, e2⟩ => by subst e; subst e2; exact h)

/-! ### regions and code -/
theorem v_region {id : Nat} {ops : Array Oper} (h : VK C R n L Γ (KL P ops Q ops.toList)) : VK C R n L Γ (KC P (.region id ops false) Q) := fun a w k i => by
  refine wp_region ?_
  have e := wpOps_eq_wpList (P := P) (Q := Q) (ops := ops) ops.toList 0 (fun j => by simp)
  have e2 : List.range ops.size = List.range' 0 ops.toList.length := by simp [List.range_eq_range']
  rw [e2, e]
  exact h a w k i
theorem v_reg {id : Nat} {ops : List Oper} (h : VK C R n L Γ (KL P ops.toArray Q ops)) : VK C R n L Γ (KC P (.region id ops.toArray false) Q) := v_region (by simpa using h)
theorem v_seq {x y : Code} (h : VK C R n L Γ (KC P x (Exit.then (y.wp P Q) Q))) : VK C R n L Γ (KC P (.seq x y) Q) := fun a w k i => wp_seq (h a w k i)
theorem v_then {y : Code} (h : VK C R n L Γ (KC P y Q)) : VK C R n L Γ (KE (Exit.then (y.wp P Q) Q) .normal) := fun a w k i => h a w k i
theorem v_thenX {K : Act → World → Prop} {e : Nat} (h : VK C R n L Γ (KE Q (.exit e))) : VK C R n L Γ (KE (Exit.then K Q) (.exit e)) := fun a w k i => h a w k i
theorem v_thenR {K : Act → World → Prop} (h : VK C R n L Γ (KE Q .ret)) : VK C R n L Γ (KE (Exit.then K Q) .ret) := fun a w k i => h a w k i
theorem v_skip (h : VK C R n L Γ (KE Q .normal)) : VK C R n L Γ (KC P .skip Q) := fun a w k i => wp_skip (h a w k i)
theorem v_exit {id : Nat} (h : VK C R n L Γ (KE Q (.exit id))) : VK C R n L Γ (KC P (.exit id) Q) := fun a w k i => wp_exit (h a w k i)
theorem v_ret (h : VK C R n L Γ (KE Q .ret)) : VK C R n L Γ (KC P .ret Q) := fun a w k i => wp_ret (h a w k i)
theorem v_block {id : Nat} {c : Code} (h : VK C R n L Γ (KC P c (Exit.inBlock id Q))) : VK C R n L Γ (KC P (.block id c) Q) := fun a w k i => wp_block (h a w k i)
theorem v_blockN {id : Nat} (h : VK C R n L Γ (KE Q .normal)) : VK C R n L Γ (KE (Exit.inBlock id Q) .normal) := fun a w k i => h a w k i
theorem v_blockR {id : Nat} (h : VK C R n L Γ (KE Q .ret)) : VK C R n L Γ (KE (Exit.inBlock id Q) .ret) := fun a w k i => h a w k i
theorem v_blockX {id : Nat} (h : VK C R n L Γ (KE Q .normal)) : VK C R n L Γ (KE (Exit.inBlock id Q) (.exit id)) := fun a w k i => by
  simp only [KE, Exit.inBlock, if_true]; exact h a w k i
theorem v_blockO {id e : Nat} [he : Is (Nat.beq e id = false)] (h : VK C R n L Γ (KE Q (.exit e))) : VK C R n L Γ (KE (Exit.inBlock id Q) (.exit e)) := fun a w k i => by
  simp only [KE, Exit.inBlock, if_neg (Nat.ne_of_beq_eq_false he.out)]; exact h a w k i
theorem v_cond {t : Nat} {c : Bool} {x y : Code} [hl : Lk L t (.bool c)] (h1 : c = true → VK C R n ((t, .bool true) :: L) Γ (KC P x Q)) (h2 : c = false → VK C R n ((t, .bool false) :: L) Γ (KC P y Q)) :
    VK C R n L Γ (KC P (.cond (.tmp t) x y) Q) := fun a w k i =>
  wp_cond_split ((evTmp L t _).out n a k) (fun e => h1 e a w (k.know hl e) i) (fun e => h2 e a w (k.know hl e) i)
theorem v_condD {t : Nat} {p : Prop} [Decidable p] {x y : Code} [hl : Lk L t (.bool (decide p))] (h1 : p → VK C R n ((t, .bool true) :: L) Γ (KC P x Q)) (h2 : ¬ p → VK C R n ((t, .bool false) :: L) Γ (KC P y Q)) :
    VK C R n L Γ (KC P (.cond (.tmp t) x y) Q) := v_cond (c := decide p) (fun e => h1 (of_decide_eq_true e)) (fun e => h2 (of_decide_eq_false e))
theorem v_condT {t : Nat} {x y : Code} [hl : Lk L t (.bool true)] (h1 : VK C R n L Γ (KC P x Q)) : VK C R n L Γ (KC P (.cond (.tmp t) x y) Q) := fun a w k i =>
  wp_cond_true ((evTmp L t _).out n a k) (h1 a w k i)
theorem v_condF {t : Nat} {x y : Code} [hl : Lk L t (.bool false)] (h1 : VK C R n L Γ (KC P y Q)) : VK C R n L Γ (KC P (.cond (.tmp t) x y) Q) := fun a w k i =>
  wp_cond_false ((evTmp L t _).out n a k) (h1 a w k i)

/-! ### a whole function -/
/-- what a call hands back -/
class Res (P : Program) (R : List Hp) (L : Env) (Γ : List Hp) (r : ResultVar) (v : outParam Value) : Prop where
  out : ∀ C n a w, Kn n L a → Inv C R Γ w → (match r with | .tmp t => pure (a.tmps.getD t undef) | .cell p t => do loadVar t (← asAddr (a.tmps.getD p undef))).run P w = .ok v w
instance resTmp (t : Nat) (v : Value) [h : Lk L t v] : Res P R L Γ (.tmp t) v := ⟨fun C n a w k i => by
  have := (evTmp L t v).out n a k
  simp only [Act.eval] at this
  simp [this]⟩
instance resCell (p t b et : Nat) (cs : Array Value) (fr : Nat × Nat) (v : Value) [h : Lk L p (.pointer (some ⟨b, 0, none⟩))] [h2 : See R Γ b (.cells cs et fr)] [h3 : Ld P t cs 0 v] : Res P R L Γ (.cell p t) v := ⟨fun C n a w k i => by
  have := (evTmp L p _).out n a k
  simp only [Act.eval] at this
  have e := h3.out b et fr w (h2.out C w i)
  simp [this, asAddr, e]⟩

theorem v_outK {fn : Func} {Post : Value → List Hp → Prop} {M : List Nat} {w0 : World} {D : Bool} {v : Value} {Γk Γd : List Hp} (hr : ∀ a w, Kn n L a → Inv ⟨M, w0, D⟩ R Γ w → (results fn a.tmps).run P w = .ok v w) (hp : Pick Γ Γk Γd) (h : Post v Γk) :
    VK ⟨M, w0, D⟩ R n L Γ (KE (bodyPost P fn fun e w' => ∃ v Γ', e = .returned v ∧ Post v Γ' ∧ Inv ⟨M, w0, D⟩ R Γ' w') .ret) := fun a w k i => by
  refine ⟨k.2.1, v, hr a w k i, v, Γk, rfl, h, ?_⟩
  have hk : (keys Γ).Perm (keys Γk ++ keys Γd) := by simpa [keys] using hp.out.map (·.1)
  exact ⟨i.os, i.tape, i.output, i.size, i.ro, fun x hx => i.own x (hp.out.mem_iff.2 (List.mem_append_left _ hx)), (List.nodup_append.1 (hk.nodup_iff.1 i.nodup)).1, fun b hb => i.apart b (hk.mem_iff.2 (List.mem_append_left _ hb)),
    fun b hb => i.may b (hk.mem_iff.2 (List.mem_append_left _ hb)), i.frame, i.dr⟩
theorem v_out0 {fn : Func} {Post : Value → List Hp → Prop} {M : List Nat} {w0 : World} {D : Bool} {Γk Γd : List Hp} (hf : fn.results = #[]) [hp : Pick Γ Γk Γd] (h : Post (.tuple #[]) Γk) :
    VK ⟨M, w0, D⟩ R n L Γ (KE (bodyPost P fn fun e w' => ∃ v Γ', e = .returned v ∧ Post v Γ' ∧ Inv ⟨M, w0, D⟩ R Γ' w') .ret) :=
  v_outK (fun a w k i => by simp [results, hf]) hp h
theorem v_out1 {fn : Func} {Post : Value → List Hp → Prop} {M : List Nat} {w0 : World} {D : Bool} {r : ResultVar} {v : Value} {Γk Γd : List Hp} (hf : fn.results = #[r]) [hr : Res P R L Γ r v] [hp : Pick Γ Γk Γd] (h : Post v Γk) :
    VK ⟨M, w0, D⟩ R n L Γ (KE (bodyPost P fn fun e w' => ∃ v Γ', e = .returned v ∧ Post v Γ' ∧ Inv ⟨M, w0, D⟩ R Γ' w') .ret) :=
  v_outK (fun a w k i => by
    have e := hr.out _ n a w k i
    have main : ∀ (g : ResultVar → Sem Value), (g r).run P w = .ok v w → ((do let vs ← #[r].mapM g; pure (if h : vs.size = 1 then vs[0] else .tuple vs)) : Sem Value).run P w = .ok (v) w := by
      intro g e
      simp [e]
    unfold results
    rw [hf]
    exact main _ e) hp h
theorem v_out2 {fn : Func} {Post : Value → List Hp → Prop} {M : List Nat} {w0 : World} {D : Bool} {r r2 : ResultVar} {v v2 : Value} {Γk Γd : List Hp} (hf : fn.results = #[r, r2]) [hr : Res P R L Γ r v] [hr2 : Res P R L Γ r2 v2] [hp : Pick Γ Γk Γd] (h : Post (.tuple #[v, v2]) Γk) :
    VK ⟨M, w0, D⟩ R n L Γ (KE (bodyPost P fn fun e w' => ∃ v Γ', e = .returned v ∧ Post v Γ' ∧ Inv ⟨M, w0, D⟩ R Γ' w') .ret) :=
  v_outK (fun a w k i => by
    have e := hr.out _ n a w k i
    have e2 := hr2.out _ n a w k i
    have main : ∀ (g : ResultVar → Sem Value), (g r).run P w = .ok v w → (g r2).run P w = .ok v2 w → ((do let vs ← #[r, r2].mapM g; pure (if h : vs.size = 1 then vs[0] else .tuple vs)) : Sem Value).run P w = .ok (.tuple #[v, v2]) w := by
      intro g e e2
      simp [e, e2]
    unfold results
    rw [hf]
    exact main _ e e2) hp h
theorem v_out3 {fn : Func} {Post : Value → List Hp → Prop} {M : List Nat} {w0 : World} {D : Bool} {r r2 r3 : ResultVar} {v v2 v3 : Value} {Γk Γd : List Hp} (hf : fn.results = #[r, r2, r3]) [hr : Res P R L Γ r v] [hr2 : Res P R L Γ r2 v2] [hr3 : Res P R L Γ r3 v3] [hp : Pick Γ Γk Γd] (h : Post (.tuple #[v, v2, v3]) Γk) :
    VK ⟨M, w0, D⟩ R n L Γ (KE (bodyPost P fn fun e w' => ∃ v Γ', e = .returned v ∧ Post v Γ' ∧ Inv ⟨M, w0, D⟩ R Γ' w') .ret) :=
  v_outK (fun a w k i => by
    have e := hr.out _ n a w k i
    have e2 := hr2.out _ n a w k i
    have e3 := hr3.out _ n a w k i
    have main : ∀ (g : ResultVar → Sem Value), (g r).run P w = .ok v w → (g r2).run P w = .ok v2 w → (g r3).run P w = .ok v3 w → ((do let vs ← #[r, r2, r3].mapM g; pure (if h : vs.size = 1 then vs[0] else .tuple vs)) : Sem Value).run P w = .ok (.tuple #[v, v2, v3]) w := by
      intro g e e2 e3
      simp [e, e2, e3]
    unfold results
    rw [hf]
    exact main _ e e2 e3) hp h
theorem v_out4 {fn : Func} {Post : Value → List Hp → Prop} {M : List Nat} {w0 : World} {D : Bool} {r r2 r3 r4 : ResultVar} {v v2 v3 v4 : Value} {Γk Γd : List Hp} (hf : fn.results = #[r, r2, r3, r4]) [hr : Res P R L Γ r v] [hr2 : Res P R L Γ r2 v2] [hr3 : Res P R L Γ r3 v3] [hr4 : Res P R L Γ r4 v4] [hp : Pick Γ Γk Γd] (h : Post (.tuple #[v, v2, v3, v4]) Γk) :
    VK ⟨M, w0, D⟩ R n L Γ (KE (bodyPost P fn fun e w' => ∃ v Γ', e = .returned v ∧ Post v Γ' ∧ Inv ⟨M, w0, D⟩ R Γ' w') .ret) :=
  v_outK (fun a w k i => by
    have e := hr.out _ n a w k i
    have e2 := hr2.out _ n a w k i
    have e3 := hr3.out _ n a w k i
    have e4 := hr4.out _ n a w k i
    have main : ∀ (g : ResultVar → Sem Value), (g r).run P w = .ok v w → (g r2).run P w = .ok v2 w → (g r3).run P w = .ok v3 w → (g r4).run P w = .ok v4 w → ((do let vs ← #[r, r2, r3, r4].mapM g; pure (if h : vs.size = 1 then vs[0] else .tuple vs)) : Sem Value).run P w = .ok (.tuple #[v, v2, v3, v4]) w := by
      intro g e e2 e3 e4
      simp [e, e2, e3, e4]
    unfold results
    rw [hf]
    exact main _ e e2 e3 e4) hp h
theorem v_normal {fn : Func} {R' : Ending → World → Prop} (h : VK C R n L Γ (KE (bodyPost P fn R') .ret)) : VK C R n L Γ (KE (bodyPost P fn R') .normal) := fun a w k i => h a w k i
end

/-- the slots at a call's begin -/
def begin0 (args : List Value) : Env := args.zipIdx.map fun x => (x.2, x.1)
theorem spec_of {D : Bool} {P : Program} {f : FuncId} {fn : Func} {c : Code} {args : List Value} {R Γ : List Hp} {Post : Value → List Hp → Prop} {L : Env} {m : Nat} (hf : P.funcs[f]? = some fn) (hb : fn.body = some c) (hL : begin0 args = L) (hm : fn.ntmps = m) (hle : Nat.ble args.length m = true)
    (h : ∀ M w0, VK ⟨M, w0, D⟩ R m L Γ (KC P c (bodyPost P fn fun e w' => ∃ v Γ', e = .returned v ∧ Post v Γ' ∧ Inv ⟨M, w0, D⟩ R Γ' w'))) : SpecD D P f args.toArray R Γ Post := fun w i => by
  refine calls_of_wp hf hb (h _ _ _ _ ⟨?_, rfl, fun t v ht => ?_⟩ i)
  · have := Nat.le_of_ble_eq_true hle
    simp; omega
  · subst hL
    have : args[t]? = some v := by
      have key : ∀ (l : List Value) (k : Nat), ((l.zipIdx k).map fun x => (x.2, x.1)).lookup t = some v → k ≤ t ∧ l[t - k]? = some v := by
        intro l
        induction l with
        | nil => intro k h; simp at h
        | cons y l ih =>
          intro k h
          simp only [List.zipIdx_cons, List.map_cons, List.lookup] at h
          by_cases e : t = k
          · subst e; simp at h; exact ⟨Nat.le_refl _, by simpa using h⟩
          · have e2 : (t == k) = false := by simpa using e
            simp only [e2] at h
            obtain ⟨h1, h2⟩ := ih (k + 1) h
            refine ⟨by omega, ?_⟩
            rw [show t - k = (t - (k + 1)) + 1 by omega]
            simpa using h2
      simpa using (key args 0 ht).2
    have hlt : t < args.length := by
      rcases Nat.lt_or_ge t args.length with h | h
      · exact h
      · rw [List.getElem?_eq_none h] at this; cases this
    have e : args[t] = v := by rw [List.getElem?_eq_getElem hlt] at this; exact Option.some.inj this
    simp [Array.getElem?_append, hlt, e]
theorem spec_of0 {D : Bool} {P : Program} {f : FuncId} {fn : Func} {c : Code} {R Γ : List Hp} {Post : Value → List Hp → Prop} {m : Nat} (hf : P.funcs[f]? = some fn) (hm : fn.ntmps = m) (hb : fn.body = some c) (hle : Nat.ble 0 m = true)
    (h : ∀ M w0, VK ⟨M, w0, D⟩ R m [] Γ (KC P c (bodyPost P fn fun e w' => ∃ v Γ', e = .returned v ∧ Post v Γ' ∧ Inv ⟨M, w0, D⟩ R Γ' w'))) : SpecD D P f #[] R Γ Post :=
  spec_of (args := []) hf hb rfl hm hle h
theorem spec_of1 {D : Bool} {P : Program} {f : FuncId} {fn : Func} {c : Code} {v0 : Value} {R Γ : List Hp} {Post : Value → List Hp → Prop} {m : Nat} (hf : P.funcs[f]? = some fn) (hm : fn.ntmps = m) (hb : fn.body = some c) (hle : Nat.ble 1 m = true)
    (h : ∀ M w0, VK ⟨M, w0, D⟩ R m [(0, v0)] Γ (KC P c (bodyPost P fn fun e w' => ∃ v Γ', e = .returned v ∧ Post v Γ' ∧ Inv ⟨M, w0, D⟩ R Γ' w'))) : SpecD D P f #[v0] R Γ Post :=
  spec_of (args := [v0]) hf hb rfl hm hle h
theorem spec_of2 {D : Bool} {P : Program} {f : FuncId} {fn : Func} {c : Code} {v0 v1 : Value} {R Γ : List Hp} {Post : Value → List Hp → Prop} {m : Nat} (hf : P.funcs[f]? = some fn) (hm : fn.ntmps = m) (hb : fn.body = some c) (hle : Nat.ble 2 m = true)
    (h : ∀ M w0, VK ⟨M, w0, D⟩ R m [(0, v0), (1, v1)] Γ (KC P c (bodyPost P fn fun e w' => ∃ v Γ', e = .returned v ∧ Post v Γ' ∧ Inv ⟨M, w0, D⟩ R Γ' w'))) : SpecD D P f #[v0, v1] R Γ Post :=
  spec_of (args := [v0, v1]) hf hb rfl hm hle h
theorem spec_of3 {D : Bool} {P : Program} {f : FuncId} {fn : Func} {c : Code} {v0 v1 v2 : Value} {R Γ : List Hp} {Post : Value → List Hp → Prop} {m : Nat} (hf : P.funcs[f]? = some fn) (hm : fn.ntmps = m) (hb : fn.body = some c) (hle : Nat.ble 3 m = true)
    (h : ∀ M w0, VK ⟨M, w0, D⟩ R m [(0, v0), (1, v1), (2, v2)] Γ (KC P c (bodyPost P fn fun e w' => ∃ v Γ', e = .returned v ∧ Post v Γ' ∧ Inv ⟨M, w0, D⟩ R Γ' w'))) : SpecD D P f #[v0, v1, v2] R Γ Post :=
  spec_of (args := [v0, v1, v2]) hf hb rfl hm hle h
theorem spec_of4 {D : Bool} {P : Program} {f : FuncId} {fn : Func} {c : Code} {v0 v1 v2 v3 : Value} {R Γ : List Hp} {Post : Value → List Hp → Prop} {m : Nat} (hf : P.funcs[f]? = some fn) (hm : fn.ntmps = m) (hb : fn.body = some c) (hle : Nat.ble 4 m = true)
    (h : ∀ M w0, VK ⟨M, w0, D⟩ R m [(0, v0), (1, v1), (2, v2), (3, v3)] Γ (KC P c (bodyPost P fn fun e w' => ∃ v Γ', e = .returned v ∧ Post v Γ' ∧ Inv ⟨M, w0, D⟩ R Γ' w'))) : SpecD D P f #[v0, v1, v2, v3] R Γ Post :=
  spec_of (args := [v0, v1, v2, v3]) hf hb rfl hm hle h
theorem spec_of5 {D : Bool} {P : Program} {f : FuncId} {fn : Func} {c : Code} {v0 v1 v2 v3 v4 : Value} {R Γ : List Hp} {Post : Value → List Hp → Prop} {m : Nat} (hf : P.funcs[f]? = some fn) (hm : fn.ntmps = m) (hb : fn.body = some c) (hle : Nat.ble 5 m = true)
    (h : ∀ M w0, VK ⟨M, w0, D⟩ R m [(0, v0), (1, v1), (2, v2), (3, v3), (4, v4)] Γ (KC P c (bodyPost P fn fun e w' => ∃ v Γ', e = .returned v ∧ Post v Γ' ∧ Inv ⟨M, w0, D⟩ R Γ' w'))) : SpecD D P f #[v0, v1, v2, v3, v4] R Γ Post :=
  spec_of (args := [v0, v1, v2, v3, v4]) hf hb rfl hm hle h
theorem spec_of6 {D : Bool} {P : Program} {f : FuncId} {fn : Func} {c : Code} {v0 v1 v2 v3 v4 v5 : Value} {R Γ : List Hp} {Post : Value → List Hp → Prop} {m : Nat} (hf : P.funcs[f]? = some fn) (hm : fn.ntmps = m) (hb : fn.body = some c) (hle : Nat.ble 6 m = true)
    (h : ∀ M w0, VK ⟨M, w0, D⟩ R m [(0, v0), (1, v1), (2, v2), (3, v3), (4, v4), (5, v5)] Γ (KC P c (bodyPost P fn fun e w' => ∃ v Γ', e = .returned v ∧ Post v Γ' ∧ Inv ⟨M, w0, D⟩ R Γ' w'))) : SpecD D P f #[v0, v1, v2, v3, v4, v5] R Γ Post :=
  spec_of (args := [v0, v1, v2, v3, v4, v5]) hf hb rfl hm hle h
theorem spec_of7 {D : Bool} {P : Program} {f : FuncId} {fn : Func} {c : Code} {v0 v1 v2 v3 v4 v5 v6 : Value} {R Γ : List Hp} {Post : Value → List Hp → Prop} {m : Nat} (hf : P.funcs[f]? = some fn) (hm : fn.ntmps = m) (hb : fn.body = some c) (hle : Nat.ble 7 m = true)
    (h : ∀ M w0, VK ⟨M, w0, D⟩ R m [(0, v0), (1, v1), (2, v2), (3, v3), (4, v4), (5, v5), (6, v6)] Γ (KC P c (bodyPost P fn fun e w' => ∃ v Γ', e = .returned v ∧ Post v Γ' ∧ Inv ⟨M, w0, D⟩ R Γ' w'))) : SpecD D P f #[v0, v1, v2, v3, v4, v5, v6] R Γ Post :=
  spec_of (args := [v0, v1, v2, v3, v4, v5, v6]) hf hb rfl hm hle h
theorem spec_of8 {D : Bool} {P : Program} {f : FuncId} {fn : Func} {c : Code} {v0 v1 v2 v3 v4 v5 v6 v7 : Value} {R Γ : List Hp} {Post : Value → List Hp → Prop} {m : Nat} (hf : P.funcs[f]? = some fn) (hm : fn.ntmps = m) (hb : fn.body = some c) (hle : Nat.ble 8 m = true)
    (h : ∀ M w0, VK ⟨M, w0, D⟩ R m [(0, v0), (1, v1), (2, v2), (3, v3), (4, v4), (5, v5), (6, v6), (7, v7)] Γ (KC P c (bodyPost P fn fun e w' => ∃ v Γ', e = .returned v ∧ Post v Γ' ∧ Inv ⟨M, w0, D⟩ R Γ' w'))) : SpecD D P f #[v0, v1, v2, v3, v4, v5, v6, v7] R Γ Post :=
  spec_of (args := [v0, v1, v2, v3, v4, v5, v6, v7]) hf hb rfl hm hle h
section
variable {P : Program} {C : Cx} {R : List Hp} {n : Nat} {all : Array Oper} {Q : Exit → Act → World → Prop} {L : Env} {Γ : List Hp} {rest : List Oper}
theorem VK.mk {K : Act → World → Prop} (h : ∀ a w, Kn n L a → Inv C R Γ w → K a w) : VK C R n L Γ K := h
theorem VK.out {K : Act → World → Prop} (h : VK C R n L Γ K) : ∀ a w, Kn n L a → Inv C R Γ w → K a w := h
theorem KC.mk {c : Code} {a : Act} {w : World} (h : c.wp P Q a w) : KC P c Q a w := h
theorem KC.out {c : Code} {a : Act} {w : World} (h : KC P c Q a w) : c.wp P Q a w := h
theorem KE.mk {e : Exit} {a : Act} {w : World} (h : Q e a w) : KE Q e a w := h
theorem KE.out {e : Exit} {a : Act} {w : World} (h : KE Q e a w) : Q e a w := h
theorem KL.mk {a : Act} {w : World} (h : wpList P all Q rest a w) : KL P all Q rest a w := h
/-- an operation in a list of operations -/
theorem v_cons {o : Oper} (h : VK C R n L Γ (wp1 P all Q o (KL P all Q rest))) : VK C R n L Γ (KL P all Q (o :: rest)) := h
theorem Kn.slot {a : Act} {t : Nat} {v : Value} (k : Kn n L a) (h : L.lookup t = some v) : a.tmps[t]? = some v := k.2.2 t v h
theorem Kn.weaken {L' : Env} {a : Act} (k : Kn n L a) (h : ∀ t v, L'.lookup t = some v → L.lookup t = some v) : Kn n L' a := ⟨k.1, k.2.1, fun t v ht => k.2.2 t v (h t v ht)⟩
end
theorem bT {p : Prop} [Decidable p] (h : p) : Value.bool true = Value.bool (decide p) := by simp [h]
theorem bF {p : Prop} [Decidable p] (h : ¬ p) : Value.bool false = Value.bool (decide p) := by simp [h]
theorem bD {p q : Prop} [Decidable p] [Decidable q] (h : q ↔ p) : Value.bool (decide q) = Value.bool (decide p) := by simp [h]
theorem bN {p q : Prop} [Decidable p] [Decidable q] (h : q ↔ ¬ p) : Value.bool (decide q) = Value.bool (!decide p) := by simp [h]
theorem iI {k : IntKind} {a b : Int} (h : a = b) : Value.int k a = Value.int k b := by rw [h]
attribute [irreducible] VK Kn KL KC KE wp1
end Go.SX

/- Symbolic execution: slices (reading, indexing, slicing, append), strings, loops. Of whatever program. -/
namespace Go.SX
set_option linter.unusedSimpArgs false
set_option linter.unusedVariables false
open Go

/-! ### lengths, indices, parts -/
section
variable {P : Program} {R : List Hp} {L : Env} {Γ : List Hp}
instance yLenSl (x : Operand) (T e : TypeId) (p : Option Addr) (n c : Nat) [h : Ev L x (.slice p n c)] [h2 : Und P T (.slice e)] : Y P R L Γ (.call ⟨.builtin .len, #[x], #[T]⟩) (.int .i64 n) := ⟨fun C n a w _ _ _ _ _ k i => by
  simp [execOp, resolve, invoke, builtin, Builtin.len_, h.out n a k, underlying, h2.out, goInt]⟩
instance yLenStr (x : Operand) (T : TypeId) (s : ByteArray) [h : Ev L x (.string s)] [h2 : Und P T .string] : Y P R L Γ (.call ⟨.builtin .len, #[x], #[T]⟩) (.int .i64 s.size) := ⟨fun C n a w _ _ _ _ _ k i => by
  simp [execOp, resolve, invoke, builtin, Builtin.len_, h.out n a k, underlying, h2.out, goInt]⟩
end

section
variable {P : Program} {C : Cx} {R : List Hp} {n : Nat} {all : Array Oper} {Q : Exit → Act → World → Prop} {L : Env} {Γ : List Hp} {rest : List Oper} {w : World}
/-- an operation that yields its value, on conditions -/
theorem v_by {d : Nat} {op : Op} {ty : TypeId} {pos : String} {af : Array Edge} {v : Value} (hy : Y P R L Γ op v) [hd : Is (Nat.ble n d = false)] (h : VK C R n ((d, v) :: L) Γ (KL P all Q rest)) :
    VK C R n L Γ (KL P all Q (⟨some d, op, ty, pos, af, none⟩ :: rest)) := v_val (hy := hy) h

theorem v_pickT {d : Nat} {ty : TypeId} {c x y : Operand} {v : Value} {pos : String} {af : Array Edge} [hc : Ev L c (.bool true)] [hx : Ev L x v] [hd : Is (Nat.ble n d = false)]
    (h : VK C R n ((d, v) :: L) Γ (KL P all Q rest)) : VK C R n L Γ (KL P all Q (⟨some d, .pick c x y, ty, pos, af, none⟩ :: rest)) := v_by (yPickT c x y v) h
theorem v_pickF {d : Nat} {ty : TypeId} {c x y : Operand} {v : Value} {pos : String} {af : Array Edge} [hc : Ev L c (.bool false)] [hy : Ev L y v] [hd : Is (Nat.ble n d = false)]
    (h : VK C R n ((d, v) :: L) Γ (KL P all Q rest)) : VK C R n L Γ (KL P all Q (⟨some d, .pick c x y, ty, pos, af, none⟩ :: rest)) := v_by (yPickF c x y v) h
/-- a choice that isn't known yet: both ways -/
theorem v_pickD {d t : Nat} {ty : TypeId} {x y : Operand} {p : Prop} [Decidable p] {pos : String} {af : Array Edge} [hl : Lk L t (.bool (decide p))] (h1 : p → VK C R n ((t, .bool true) :: L) Γ (KL P all Q (⟨some d, .pick (.tmp t) x y, ty, pos, af, none⟩ :: rest)))
    (h2 : ¬ p → VK C R n ((t, .bool false) :: L) Γ (KL P all Q (⟨some d, .pick (.tmp t) x y, ty, pos, af, none⟩ :: rest))) : VK C R n L Γ (KL P all Q (⟨some d, .pick (.tmp t) x y, ty, pos, af, none⟩ :: rest)) := VK.mk fun a w k i => by
  by_cases hp : p
  · exact (h1 hp).out a w (k.know hl (by simp [hp])) i
  · exact (h2 hp).out a w (k.know hl (by simp [hp])) i
theorem y_shl {t yt : TypeId} {x y : Operand} {k j : IntKind} {vx vy : Int} [hx : Ev L x (.int k vx)] [hy : Ev L y (.int j vy)]  (h0 : 0 ≤ vy)
    : Y P R L Γ (.binOp .shl t x y yt) (.int k (shlI k vx vy)) := (yBin (h3 := bi_shl h0) ..)
theorem v_shl {d : Nat} {t ty yt : TypeId} {x y : Operand} {k j : IntKind} {vx vy : Int} {pos : String} {af : Array Edge} [hx : Ev L x (.int k vx)] [hy : Ev L y (.int j vy)] [hd : Is (Nat.ble n d = false)] (h0 : 0 ≤ vy)
    (h : VK C R n ((d, .int k (shlI k vx vy)) :: L) Γ (KL P all Q rest)) : VK C R n L Γ (KL P all Q (⟨some d, .binOp .shl t x y yt, ty, pos, af, none⟩ :: rest)) := v_by (y_shl h0) h
theorem y_shr {t yt : TypeId} {x y : Operand} {k j : IntKind} {vx vy : Int} [hx : Ev L x (.int k vx)] [hy : Ev L y (.int j vy)]  (h0 : 0 ≤ vy)
    : Y P R L Γ (.binOp .shr t x y yt) (.int k (shrI k vx vy)) := (yBin (h3 := bi_shr h0) ..)
theorem v_shr {d : Nat} {t ty yt : TypeId} {x y : Operand} {k j : IntKind} {vx vy : Int} {pos : String} {af : Array Edge} [hx : Ev L x (.int k vx)] [hy : Ev L y (.int j vy)] [hd : Is (Nat.ble n d = false)] (h0 : 0 ≤ vy)
    (h : VK C R n ((d, .int k (shrI k vx vy)) :: L) Γ (KL P all Q rest)) : VK C R n L Γ (KL P all Q (⟨some d, .binOp .shr t x y yt, ty, pos, af, none⟩ :: rest)) := v_by (y_shr h0) h
theorem y_quo {t yt : TypeId} {x y : Operand} {k : IntKind} {vx vy : Int} [hx : Ev L x (.int k vx)] [hy : Ev L y (.int k vy)]  (h0 : vy ≠ 0)
    : Y P R L Γ (.binOp .quo t x y yt) (.int k (k.wrap (vx.tdiv vy))) := (yBin (h3 := bi_quo h0) ..)
theorem v_quo {d : Nat} {t ty yt : TypeId} {x y : Operand} {k : IntKind} {vx vy : Int} {pos : String} {af : Array Edge} [hx : Ev L x (.int k vx)] [hy : Ev L y (.int k vy)] [hd : Is (Nat.ble n d = false)] (h0 : vy ≠ 0)
    (h : VK C R n ((d, .int k (k.wrap (vx.tdiv vy))) :: L) Γ (KL P all Q rest)) : VK C R n L Γ (KL P all Q (⟨some d, .binOp .quo t x y yt, ty, pos, af, none⟩ :: rest)) := v_by (y_quo h0) h
theorem y_rem {t yt : TypeId} {x y : Operand} {k : IntKind} {vx vy : Int} [hx : Ev L x (.int k vx)] [hy : Ev L y (.int k vy)]  (h0 : vy ≠ 0)
    : Y P R L Γ (.binOp .rem t x y yt) (.int k (vx.tmod vy)) := (yBin (h3 := bi_rem h0) ..)
theorem v_rem {d : Nat} {t ty yt : TypeId} {x y : Operand} {k : IntKind} {vx vy : Int} {pos : String} {af : Array Edge} [hx : Ev L x (.int k vx)] [hy : Ev L y (.int k vy)] [hd : Is (Nat.ble n d = false)] (h0 : vy ≠ 0)
    (h : VK C R n ((d, .int k (vx.tmod vy)) :: L) Γ (KL P all Q rest)) : VK C R n L Γ (KL P all Q (⟨some d, .binOp .rem t x y yt, ty, pos, af, none⟩ :: rest)) := v_by (y_rem h0) h
theorem y_idx {T e b off m c sz : Nat} {x ix : Operand} {k : IntKind} {i : Int}  [hx : Ev L x (.slice (some ⟨b, off, none⟩) m c)] [hi : Ev L ix (.int k i)] [ht : Und P T (.slice e)] [hs : Sz P e sz] 
    (h0 : 0 ≤ i) (h1 : i < (m : Int)) : Y P R L Γ (.indexAddr T x ix) (.pointer (some ⟨b, off + i.toNat * sz, none⟩)) := ⟨fun C n a w _ _ _ _ _ k _ => by
    simp [execOp, Instr.indexAt, hx.out n a k, hi.out n a k, asIntOf, underlying, ht.out, h0, h1, hs.out, add_at]⟩
theorem v_idx {d T e b off m c sz : Nat} {x ix : Operand} {k : IntKind} {i : Int} {ty : TypeId} {pos : String} {af : Array Edge} [hx : Ev L x (.slice (some ⟨b, off, none⟩) m c)] [hi : Ev L ix (.int k i)] [ht : Und P T (.slice e)] [hs : Sz P e sz] [hd : Is (Nat.ble n d = false)]
    (h0 : 0 ≤ i) (h1 : i < (m : Int)) (h : VK C R n ((d, .pointer (some ⟨b, off + i.toNat * sz, none⟩)) :: L) Γ (KL P all Q rest)) : VK C R n L Γ (KL P all Q (⟨some d, .indexAddr T x ix, ty, pos, af, none⟩ :: rest)) :=
  v_by (y_idx h0 h1) h
theorem y_idxA {T e b off m sz : Nat} {x ix : Operand} {k : IntKind} {i : Int}  [hx : Ev L x (.pointer (some ⟨b, off, none⟩))] [hi : Ev L ix (.int k i)] [ht : Und P T (.array m e)] [hs : Sz P e sz] 
    (h0 : 0 ≤ i) (h1 : i < (m : Int)) : Y P R L Γ (.indexAddr T x ix) (.pointer (some ⟨b, off + i.toNat * sz, none⟩)) := ⟨fun C n a w _ _ _ _ _ k _ => by
    simp [execOp, Instr.indexAt, hx.out n a k, hi.out n a k, asIntOf, underlying, ht.out, h0, h1, hs.out, add_at, Instr.sureAddr]⟩
theorem v_idxA {d T e b off m sz : Nat} {x ix : Operand} {k : IntKind} {i : Int} {ty : TypeId} {pos : String} {af : Array Edge} [hx : Ev L x (.pointer (some ⟨b, off, none⟩))] [hi : Ev L ix (.int k i)] [ht : Und P T (.array m e)] [hs : Sz P e sz] [hd : Is (Nat.ble n d = false)]
    (h0 : 0 ≤ i) (h1 : i < (m : Int)) (h : VK C R n ((d, .pointer (some ⟨b, off + i.toNat * sz, none⟩)) :: L) Γ (KL P all Q rest)) : VK C R n L Γ (KL P all Q (⟨some d, .indexAddr T x ix, ty, pos, af, none⟩ :: rest)) :=
  v_by (y_idxA h0 h1) h
/-- a byte of a string -/
def bt (s : ByteArray) (i : Int) : Int := ((s.data.toList.getD i.toNat 0).toNat : Int)
theorem bt_lo (s : ByteArray) (i : Int) : 0 ≤ bt s i ∧ bt s i < 256 := by
  unfold bt; have := (s.data.toList.getD i.toNat 0).toNat_lt; omega
theorem y_idxS {T : Nat} {s : ByteArray} {x ix : Operand} {k : IntKind} {i : Int}  [hx : Ev L x (.string s)] [hi : Ev L ix (.int k i)] [ht : Und P T .string] 
    (h0 : 0 ≤ i) (h1 : i < (s.size : Int)) : Y P R L Γ (.index T x ix) (.int .u8 (bt s i)) := ⟨fun C n a w _ _ _ _ _ k _ => by
    have hlt : i.toNat < s.size := by omega
    have e : s[i.toNat]? = some s[i.toNat] := getElem?_pos ..
    have e2 : ((s[i.toNat]).toNat : Int) = bt s i := by
      unfold bt
      congr 1
      congr 1
      have : i.toNat < s.data.toList.length := by simpa using hlt
      rw [List.getD_eq_getElem?_getD, List.getElem?_eq_getElem this]
      rfl
    simp only [execOp, hx.out n a k, hi.out n a k, Instr.index, asIntOf, underlying, Sem.run_bind, Sem.run_pure, Result.andThen_ok, run_program, ht.out, h0, if_true, e, e2]⟩
theorem v_idxS {d T : Nat} {s : ByteArray} {x ix : Operand} {k : IntKind} {i : Int} {ty : TypeId} {pos : String} {af : Array Edge} [hx : Ev L x (.string s)] [hi : Ev L ix (.int k i)] [ht : Und P T .string] [hd : Is (Nat.ble n d = false)]
    (h0 : 0 ≤ i) (h1 : i < (s.size : Int)) (h : VK C R n ((d, .int .u8 (bt s i)) :: L) Γ (KL P all Q rest)) : VK C R n L Γ (KL P all Q (⟨some d, .index T x ix, ty, pos, af, none⟩ :: rest)) :=
  v_by (y_idxS h0 h1) h
theorem y_sliceS {T : Nat} {s : ByteArray} {x lo hi : Operand} {k j : IntKind} {l h' : Int}  [hx : Ev L x (.string s)] [hl : Ev L lo (.int k l)] [hh : Ev L hi (.int j h')] [ht : Und P T .string] 
    (h0 : 0 ≤ l) (h1 : l ≤ h') (h2 : h' ≤ (s.size : Int)) : Y P R L Γ (.slice T x (some lo) (some hi) none) (.string (s.extract l.toNat h'.toNat)) := ⟨fun C n a w _ _ _ _ _ k _ => by
    have h3 : 0 ≤ h' := by omega
    have h4 : ¬ (max h' 0 < l) := by omega
    simp [execOp, Instr.sliceAt, Instr.slice, Instr.sliceBounds, Instr.sliceBound, hx.out n a k, hl.out n a k, hh.out n a k, asIntOf, underlying, ht.out, h0, h2, h3, h4]⟩
theorem v_sliceS {d T : Nat} {s : ByteArray} {x lo hi : Operand} {k j : IntKind} {l h' : Int} {ty : TypeId} {pos : String} {af : Array Edge} [hx : Ev L x (.string s)] [hl : Ev L lo (.int k l)] [hh : Ev L hi (.int j h')] [ht : Und P T .string] [hd : Is (Nat.ble n d = false)]
    (h0 : 0 ≤ l) (h1 : l ≤ h') (h2 : h' ≤ (s.size : Int)) (h : VK C R n ((d, .string (s.extract l.toNat h'.toNat)) :: L) Γ (KL P all Q rest)) : VK C R n L Γ (KL P all Q (⟨some d, .slice T x (some lo) (some hi) none, ty, pos, af, none⟩ :: rest)) :=
  v_by (y_sliceS h0 h1 h2) h
theorem y_sliceSl {T : Nat} {s : ByteArray} {x lo : Operand} {k : IntKind} {l : Int}  [hx : Ev L x (.string s)] [hl : Ev L lo (.int k l)] [ht : Und P T .string] 
    (h0 : 0 ≤ l) (h1 : l ≤ (s.size : Int)) : Y P R L Γ (.slice T x (some lo) none none) (.string (s.extract l.toNat s.size)) := ⟨fun C n a w _ _ _ _ _ k _ => by
    simp [execOp, Instr.sliceAt, Instr.slice, Instr.sliceBounds, Instr.sliceBound, hx.out n a k, hl.out n a k, asIntOf, underlying, ht.out, h0, h1]⟩
theorem v_sliceSl {d T : Nat} {s : ByteArray} {x lo : Operand} {k : IntKind} {l : Int} {ty : TypeId} {pos : String} {af : Array Edge} [hx : Ev L x (.string s)] [hl : Ev L lo (.int k l)] [ht : Und P T .string] [hd : Is (Nat.ble n d = false)]
    (h0 : 0 ≤ l) (h1 : l ≤ (s.size : Int)) (h : VK C R n ((d, .string (s.extract l.toNat s.size)) :: L) Γ (KL P all Q rest)) : VK C R n L Γ (KL P all Q (⟨some d, .slice T x (some lo) none none, ty, pos, af, none⟩ :: rest)) :=
  v_by (y_sliceSl h0 h1) h
theorem y_sliceSh {T : Nat} {s : ByteArray} {x hi : Operand} {j : IntKind} {h' : Int}  [hx : Ev L x (.string s)] [hh : Ev L hi (.int j h')] [ht : Und P T .string] 
    (h1 : 0 ≤ h') (h2 : h' ≤ (s.size : Int)) : Y P R L Γ (.slice T x none (some hi) none) (.string (s.extract 0 h'.toNat)) := ⟨fun C n a w _ _ _ _ _ k _ => by
    simp [execOp, Instr.sliceAt, Instr.slice, Instr.sliceBounds, Instr.sliceBound, hx.out n a k, hh.out n a k, asIntOf, underlying, ht.out, h1, h2]⟩
theorem v_sliceSh {d T : Nat} {s : ByteArray} {x hi : Operand} {j : IntKind} {h' : Int} {ty : TypeId} {pos : String} {af : Array Edge} [hx : Ev L x (.string s)] [hh : Ev L hi (.int j h')] [ht : Und P T .string] [hd : Is (Nat.ble n d = false)]
    (h1 : 0 ≤ h') (h2 : h' ≤ (s.size : Int)) (h : VK C R n ((d, .string (s.extract 0 h'.toNat)) :: L) Γ (KL P all Q rest)) : VK C R n L Γ (KL P all Q (⟨some d, .slice T x none (some hi) none, ty, pos, af, none⟩ :: rest)) :=
  v_by (y_sliceSh h1 h2) h
end

/-! ### slices -/
/-- the slice value v has n elements of sz cells each, whose cells are xs; it lies in the segment s -/
def SlAt (e sz : Nat) (v : Value) (n : Nat) (xs : List Value) (s : Hp) : Prop :=
  xs.length = n * sz ∧ (((v = .slice none 0 0 ∨ ∃ a c, v = .slice (some a) 0 c) ∧ n = 0) ∨ ∃ b off cap cur et fr, v = .slice (some ⟨b, off, none⟩) n cap ∧ s = [(b, .cells cur et fr)] ∧ n ≤ cap ∧ cap ≤ maxLen ∧ off + n * sz ≤ cur.size ∧ (cur.toList.drop off).take (n * sz) = xs)
/-- .. and it is the call's own: it may grow -/
def SlOwn (e sz : Nat) (v : Value) (n : Nat) (xs : List Value) (s : Hp) : Prop :=
  xs.length = n * sz ∧ ((v = .slice none 0 0 ∧ n = 0 ∧ s = []) ∨ ∃ b off cap cur eb, v = .slice (some ⟨b, off, none⟩) n cap ∧ s = [(b, .cells cur eb (0, 0))] ∧ n ≤ cap ∧ cap ≤ maxLen ∧ off + cap * sz ≤ cur.size ∧ (cur.toList.drop off).take (n * sz) = xs)
theorem SlOwn.at {e sz : Nat} {v : Value} {n : Nat} {xs : List Value} {s : Hp} (h : SlOwn e sz v n xs s) : SlAt e sz v n xs s := by
  refine ⟨h.1, h.2.elim (fun ⟨h1, h2, _⟩ => .inl ⟨.inl h1, h2⟩) fun ⟨b, off, cap, cur, eb, h1, h2, h3, h4, h5, h6⟩ => .inr ⟨b, off, cap, cur, eb, (0, 0), h1, h2, h3, h4, ?_, h6⟩⟩
  have := Nat.mul_le_mul_right sz h3
  omega
theorem run_append_roomO {P : Program} {w : World} (t ty e : TypeId) (i : TypeInfo) (ht : P.underlying t = some (.slice e)) (hi : P.info? e = some i)
    (g o sLen sCap : Nat) (cur : Array Value) {eb : TypeId} (hg : w.heap[g]? = some (.cells cur eb (0, 0)))
    (a : Addr) (m c : Nat) (news : List Value) (hl : news.length = m * i.size) (hnews : ∀ j u, news[j]? = some u → w.cell? (a.add j) = some u) (h1 : ∀ u ∈ news, u.oneCell' = true)
    (hroom : sLen + m ≤ sCap) (hfit : o + sLen * i.size + news.length ≤ cur.size) :
    (Builtin.append_ #[t, t] ty #[.slice (some ⟨g, o, none⟩) sLen sCap, .slice (some a) m c]).run P w =
      .ok (.slice (some ⟨g, o, none⟩) (sLen + m) sCap) (w.setRow g (cur.toList.take (o + sLen * i.size) ++ news ++ cur.toList.drop (o + sLen * i.size + news.length)).toArray) := by
  have hf := run_firstCells_some (P := P) w i.size m a m c news hl hnews
  have hst := run_storeCells_at P g (o + sLen * i.size) eb news 0 cur w hg (by simpa using hfit) h1
  simp only [Nat.add_zero] at hst
  simp [Builtin.append_, run_underlying ht, sizeOf, typeInfo, hi, Builtin.lenOf, hroom, hf, add_at, hst]
theorem SlOwn.nil (e sz : Nat) : SlOwn e sz (.slice none 0 0) 0 [] [] := ⟨by simp, .inl ⟨rfl, rfl, rfl⟩⟩

/-- what a slice reads, through memory -/
theorem SlAt.cell {e sz : Nat} {n : Nat} {xs : List Value} {s : Hp} {b off cap : Nat} (h : SlAt e sz (.slice (some ⟨b, off, none⟩) n cap) n xs s) {w : World} (hw : ∀ x ∈ s, w.heap[x.1]? = some x.2) (j : Nat) (u : Value) (hu : xs[j]? = some u) : w.cell? ⟨b, off + j, none⟩ = some u := by
  rcases h.2 with ⟨_, h1⟩ | ⟨b', off', cap', cur, et, fr, h1, rfl, _, _, hsz, hxs⟩
  · have := h.1
    rw [h1, Nat.zero_mul] at this
    rw [List.eq_nil_of_length_eq_zero this] at hu
    simp at hu
  · simp at h1
    obtain ⟨⟨rfl, rfl⟩, rfl⟩ := h1
    rw [cell_of (hw (b, .cells cur et fr) (by simp)), ← hu, ← hxs]
    have hj : j < xs.length := by
      rcases Nat.lt_or_ge j xs.length with h | h
      · exact h
      · rw [List.getElem?_eq_none h] at hu; cases hu
    rw [h.1] at hj
    rw [List.getElem?_take, if_pos hj, List.getElem?_drop]
    simp

/-- the segment is known -/
class Seg (R Γ : List Hp) (s : Hp) : Prop where
  out : ∀ C w, Inv C R Γ w → ∀ x ∈ s, w.heap[x.1]? = some x.2
instance (priority := high) segOwn (R Γ : List Hp) (s : Hp) [h : SegIn s Γ] : Seg R Γ s := ⟨fun _ _ i x hx => i.own x (h.out x hx)⟩
instance segRo (R Γ : List Hp) (s : Hp) [h : SegIn s R] : Seg R Γ s := ⟨fun _ _ i x hx => i.ro x (h.out x hx)⟩
instance segNil (R Γ : List Hp) : Seg R Γ [] := ⟨fun _ _ _ x hx => by cases hx⟩


/-! ### an element read -/
section
variable {P : Program} {C : Cx} {R : List Hp} {n : Nat} {all : Array Oper} {Q : Exit → Act → World → Prop} {L : Env} {Γ : List Hp} {rest : List Oper} {w : World}
/-- a load of a variable of several cells, each known by its own cell -/
theorem loadCells_of {t m b off : Nat} {cs : List Value} (h : Ag P t m) (hl : cs.length = m) (hc : ∀ j u, cs[j]? = some u → w.cell? ⟨b, off + j, none⟩ = some u) : (loadVar t ⟨b, off, none⟩).run P w = .ok (.agg cs.toArray) w := by
  have := run_loadCells_list (P := P) (w := w) ⟨b, off, none⟩ cs (fun j u hu => by rw [add_at]; exact hc j u hu)
  rw [hl] at this
  simp [loadVar, h.out.1, h.out.2, this]
/-- element i of a slice: indexAddr and load are two operations; the pointer is what v_idx gives -/
theorem y_elem {t e sz m c b off k : Nat} {p : Operand} {xs ys : List Value} {s : Hp}  [hp : Ev L p (.pointer (some ⟨b, off + k * sz, none⟩))] [hg : Seg R Γ s]  [ha : Ag P t sz]
    (hs : SlAt e sz (.slice (some ⟨b, off, none⟩) m c) m xs s) (hy : (xs.drop (k * sz)).take sz = ys) (hk : k < m)
    : Y P R L Γ (.load t p) (.agg ys.toArray) := ⟨fun C n a w _ _ _ _ _ kn i => by
    have hw := hg.out C w i
    have hlen : ys.length = sz := by
      rw [← hy, List.length_take, List.length_drop, hs.1]
      have : (k + 1) * sz ≤ m * sz := Nat.mul_le_mul_right _ hk
      rw [Nat.add_mul] at this
      omega
    have := loadCells_of (P := P) (w := w) (b := b) (off := off + k * sz) ha hlen (fun j u hu => by
      rw [Nat.add_assoc]
      refine hs.cell hw _ u ?_
      have hj : j < ys.length := by
        rcases Nat.lt_or_ge j ys.length with h | h
        · exact h
        · rw [List.getElem?_eq_none h] at hu; cases hu
      rw [← hy, List.getElem?_take, if_pos (by omega), List.getElem?_drop] at hu
      exact hu)
    simp [execOp, hp.out _ a kn, Instr.loadAt, Instr.sureAddr, this]⟩
theorem v_elem {d t e sz m c b off k : Nat} {p : Operand} {xs ys : List Value} {s : Hp} {ty : TypeId} {pos : String} {af : Array Edge} [hp : Ev L p (.pointer (some ⟨b, off + k * sz, none⟩))] [hg : Seg R Γ s] [hd : Is (Nat.ble n d = false)] [ha : Ag P t sz]
    (hs : SlAt e sz (.slice (some ⟨b, off, none⟩) m c) m xs s) (hy : (xs.drop (k * sz)).take sz = ys) (hk : k < m)
    (h : VK C R n ((d, .agg ys.toArray) :: L) Γ (KL P all Q rest)) : VK C R n L Γ (KL P all Q (⟨some d, .load t p, ty, pos, af, none⟩ :: rest)) :=
  v_by (y_elem hs hy hk) h
theorem y_elem1 {t e m c b off k : Nat} {p : Operand} {xs : List Value} {y : Value} {s : Hp}  [hp : Ev L p (.pointer (some ⟨b, off + k * 1, none⟩))] [hg : Seg R Γ s]  [ha : Sc P t]
    (hs : SlAt e 1 (.slice (some ⟨b, off, none⟩) m c) m xs s) (hy : xs[k]? = some y)
    : Y P R L Γ (.load t p) (y) := ⟨fun C n a w _ _ _ _ _ kn i => by
    have hw := hg.out C w i
    have := hs.cell hw k y hy
    rw [Nat.mul_one] at hp
    simp [execOp, hp.out _ a kn, Instr.loadAt, Instr.sureAddr, loadVar, ha.out, this]⟩
theorem v_elem1 {d t e m c b off k : Nat} {p : Operand} {xs : List Value} {y : Value} {s : Hp} {ty : TypeId} {pos : String} {af : Array Edge} [hp : Ev L p (.pointer (some ⟨b, off + k * 1, none⟩))] [hg : Seg R Γ s] [hd : Is (Nat.ble n d = false)] [ha : Sc P t]
    (hs : SlAt e 1 (.slice (some ⟨b, off, none⟩) m c) m xs s) (hy : xs[k]? = some y)
    (h : VK C R n ((d, y) :: L) Γ (KL P all Q rest)) : VK C R n L Γ (KL P all Q (⟨some d, .load t p, ty, pos, af, none⟩ :: rest)) :=
  v_by (y_elem1 hs hy) h
/-! ### append -/
/-- zero and size of an element type, for what is made -/
class El (P : Program) (e : TypeId) (sz bytes : outParam Nat) : Prop where
  out : ∃ i z, P.info? e = some i ∧ i.zero = some z ∧ i.size = sz ∧ i.bytes = bytes ∧ z.cells.size = sz ∧ 0 < sz


theorem Inv.perm {Γ2 : List Hp} (h : Inv C R Γ w) (hp : Γ.flatten.Perm Γ2.flatten) : Inv C R Γ2 w := by
  have hk : (keys Γ).Perm (keys Γ2) := List.Perm.map Prod.fst hp
  exact ⟨h.os, h.tape, h.output, h.size, h.ro, fun x hx => h.own x (hp.mem_iff.2 hx), hk.nodup_iff.1 h.nodup, fun b hb => h.apart b (hk.mem_iff.2 hb), fun b hb => h.may b (hk.mem_iff.2 hb), h.frame, h.dr⟩
theorem Inv.drop {s : Hp} {Γ2 : List Hp} (h : Inv C R (s :: Γ2) w) : Inv C R Γ2 w := by
  have hk : keys (s :: Γ2) = s.map (·.1) ++ keys Γ2 := by simp [keys]
  refine ⟨h.os, h.tape, h.output, h.size, h.ro, fun x hx => h.own x (by simp only [List.flatten_cons, List.mem_append]; exact .inr hx), ?_, fun b hb => h.apart b (hk ▸ List.mem_append_right _ hb), fun b hb => h.may b (hk ▸ List.mem_append_right _ hb), h.frame, h.dr⟩
  have := h.nodup
  rw [hk, List.nodup_append] at this
  exact this.2.1

theorem append_law {T e sz bytes m k : Nat} {ty : TypeId} {v u : Value} {xs ys : List Value} {s t : Hp} [ht : Und P T (.slice e)] [he : El P e sz bytes] (hs : SlOwn e sz v m xs s) (hy : SlAt e sz u k ys t)
    (ws : ∀ x ∈ s, w.heap[x.1]? = some x.2) (wt : ∀ x ∈ t, w.heap[x.1]? = some x.2) (h1 : ∀ y ∈ ys, y.oneCell' = true) (hm : m + k ≤ maxLen) (hb : (m + k) * bytes ≤ 140737488355328) :
    ∃ v' w' s', (Builtin.append_ #[T, T] ty #[v, u]).run P w = .ok v' w' ∧ SlOwn e sz v' (m + k) (xs ++ ys) s' ∧
      ((s' = s ∧ w' = w) ∨ (∃ o, s' = [(w.heap.size, o)] ∧ w' = w.drew.alloc o) ∨ (∃ g o cs eb, s = [(g, o)] ∧ s' = [(g, .cells cs eb (0, 0))] ∧ w' = w.setRow g cs ∧ w'.heap[g]? = some (.cells cs eb (0, 0)))) := by
  obtain ⟨i, z, hi, hz, hsz, hby, hzs, hpos⟩ := he.out
  subst hsz
  subst hby
  have hsmall : m + k ≤ 9223372036854775807 := by simp only [maxLen] at hm; omega
  have hlen : (xs ++ ys).length = (m + k) * i.size := by rw [List.length_append, hs.1, hy.1, Nat.add_mul]
  rcases hy.2 with ⟨hu, rfl⟩ | ⟨b, off, cap, cur, et, fr, rfl, rfl, hkc, hcap, hfit, hrd⟩
  · have hys : ys = [] := List.eq_nil_of_length_eq_zero (by simpa using hy.1)
    subst hys
    refine ⟨v, w, s, ?_, by simpa using hs, .inl ⟨rfl, rfl⟩⟩
    rcases hu with rfl | ⟨a, c, rfl⟩ <;> rcases hs.2 with ⟨rfl, rfl, _⟩ | ⟨g, off, cap, cur, eb, rfl, _, hmc, _⟩
    · simp [Builtin.append_, run_underlying ht.out, sizeOf, typeInfo, hi, Builtin.lenOf, Builtin.firstCells]
    · simp [Builtin.append_, run_underlying ht.out, sizeOf, typeInfo, hi, Builtin.lenOf, Builtin.firstCells, hmc, storeCells]
    · simp [Builtin.append_, run_underlying ht.out, sizeOf, typeInfo, hi, Builtin.lenOf, Builtin.firstCells, loadCells, loadCellsFrom]
    · simp [Builtin.append_, run_underlying ht.out, sizeOf, typeInfo, hi, Builtin.lenOf, Builtin.firstCells, hmc, storeCells, loadCells, loadCellsFrom]
  · have hnews : ∀ j x, ys[j]? = some x → w.cell? ((⟨b, off, none⟩ : Addr).add j) = some x := fun j x hx => by rw [add_at]; exact hy.cell wt j x hx
    have grown : ∀ old, SlOwn e i.size (.slice (some ⟨w.heap.size, 0, none⟩) (m + k) (grownCap w (m + k) old e)) (m + k) (xs ++ ys)
        [(w.heap.size, .cells (xs.toArray ++ ys.toArray ++ Builtin.zeroCells z.cells (grownCap w (m + k) old e - (m + k))) e (0, 0))] := fun old => by
      have hge := grownCap_ge w (m + k) old e
      refine ⟨hlen, .inr ⟨_, _, _, _, _, rfl, rfl, hge, grownCap_le_maxLen w (m + k) old e hm, Nat.le_of_eq ?_, ?_⟩⟩
      · rw [Nat.zero_add]
        simp only [Array.size_append, List.size_toArray, size_zeroCells, hzs, hs.1, hy.1, ← Nat.add_mul]
        congr 1
        omega
      · simp only [Array.toList_append, List.append_assoc, List.drop_zero]
        rw [← List.append_assoc, ← hlen]
        exact List.take_left
    rcases hs.2 with ⟨rfl, rfl, rfl⟩ | ⟨g, off', cap', cur', eb, rfl, rfl, hmc, hcm, hcs, htk⟩
    · have hxs : xs = [] := List.eq_nil_of_length_eq_zero (by simpa using hs.1)
      subst hxs
      by_cases hk : k = 0
      · subst hk
        have hys : ys = [] := List.eq_nil_of_length_eq_zero (by simpa using hy.1)
        subst hys
        refine ⟨.slice none 0 0, w, [], ?_, by simpa using hs, .inl ⟨rfl, rfl⟩⟩
        simp [Builtin.append_, run_underlying ht.out, sizeOf, typeInfo, hi, Builtin.lenOf, Builtin.firstCells, loadCells, loadCellsFrom]
      · have hr := run_append_nil (P := P) w T ty e i z ht.out hi hz ⟨b, off, none⟩ k cap ys hy.1 hnews (by omega) (by omega) (by have hb := hb; simp only [Nat.zero_add] at hb; omega)
        have hg := grown 0
        simp only [Nat.zero_add, List.nil_append, Array.empty_append] at hg ⊢
        exact ⟨_, _, _, hr, hg, .inr (.inl ⟨_, rfl, rfl⟩)⟩
    · have hwg := ws (g, .cells cur' eb (0, 0)) (by simp)
      by_cases hroom : m + k ≤ cap'
      · have hfit' : off' + m * i.size + ys.length ≤ cur'.size := by
          have := Nat.mul_le_mul_right i.size hroom
          rw [Nat.add_mul] at this
          rw [hy.1]; omega
        have hr := run_append_roomO (P := P) (w := w) T ty e i ht.out hi g off' m cap' cur' hwg ⟨b, off, none⟩ k cap ys hy.1 hnews h1 hroom hfit'
        have hl1 : (cur'.toList.take (off' + m * i.size)).length = off' + m * i.size := by rw [List.length_take, Array.length_toList]; omega
        refine ⟨_, _, _, hr, ⟨hlen, .inr ⟨g, off', cap', _, eb, rfl, rfl, hroom, hcm, ?_, ?_⟩⟩, .inr (.inr ⟨g, _, _, _, rfl, rfl, rfl, setRow_heap w g cur' _ eb _ hwg⟩)⟩
        · simp only [List.size_toArray, List.length_append, List.length_take, List.length_drop, Array.length_toList]
          omega
        · simp only [List.append_assoc]
          have e1 : cur'.toList.take (off' + m * i.size) = cur'.toList.take off' ++ xs := by
            rw [List.take_add, htk]
          have e2 : (cur'.toList.take off').length = off' := by rw [List.length_take, Array.length_toList]; omega
          rw [e1, List.append_assoc, List.drop_left' e2, ← List.append_assoc, ← hlen]
          exact List.take_left
      · have holds : ∀ j x, xs[j]? = some x → w.cell? ((⟨g, off', none⟩ : Addr).add j) = some x := fun j x hx => by rw [add_at]; exact hs.at.cell ws j x hx
        have hr := run_append_grow (P := P) w T ty e i z ht.out hi hz ⟨g, off', none⟩ m cap' xs hs.1 holds ⟨b, off, none⟩ k cap ys hy.1 hnews (by omega) (by omega) (growslice_fits (by omega) hb)
        exact ⟨_, _, _, hr, grown cap', .inr (.inl ⟨_, rfl, rfl⟩)⟩

theorem v_append {K : Act → World → Prop} {d T e sz bytes m k : Nat} {x y : Operand} {ty : TypeId} {pos : String} {af : Array Edge} {v u : Value} {xs ys : List Value} {s t : Hp} {Γ' : List Hp} [hx : Ev L x v] [hy : Ev L y u] [ht : Und P T (.slice e)] [he : El P e sz bytes] [hd : Is (Nat.ble n d = false)]
    (hs : SlOwn e sz v m xs s) (hu : SlAt e sz u k ys t) [hdel : Del Γ s Γ'] [hseg : Seg R Γ t] (h1 : ∀ y ∈ ys, y.oneCell' = true) (hm : m + k ≤ maxLen) (hb : (m + k) * bytes ≤ 140737488355328)
    (h : ∀ v' s', SlOwn e sz v' (m + k) (xs ++ ys) s' → VK C R n ((d, v') :: L) (s' :: Γ') K) : VK C R n L Γ (wp1 P all Q ⟨some d, .call ⟨.builtin .append, #[x, y], #[T, T]⟩, ty, pos, af, none⟩ K) := VK.mk fun a w kn i => by
  have hd' : d < n := lt_of_ble hd.out
  have ip : Inv C R (s :: Γ') w := i.perm (by simpa using hdel.out)
  obtain ⟨v', w', s', hr, hs', hcase⟩ := append_law (P := P) (w := w) (T := T) (ty := ty) hs hu (fun x hx => ip.own x (by simp [hx])) (hseg.out C w i) h1 hm hb
  have hrun : (execOp a.eval ⟨some d, .call ⟨.builtin .append, #[x, y], #[T, T]⟩, ty, pos, af, none⟩).run P w = .ok (.value v') w' := by
    simp [execOp, resolve, invoke, builtin, hx.out n a kn, hy.out n a kn, hr]
  simp only [wp1, Region.wanted, if_true]
  refine .inl ?_
  simp only [Oper.wp, hrun, Oper.upon]
  refine (h v' s' hs').out _ _ (kn.put hd') ?_
  rcases hcase with ⟨rfl, rfl⟩ | ⟨o, rfl, rfl⟩ | ⟨g, o, cs, eb, rfl, rfl, rfl, hg⟩
  · exact ip
  · exact (Inv.drop ip).drew.new o
  · exact ip.upd (updHere Γ' g o) hg (fun j hj => setRow_other w g j cs hj) (by simp) rfl rfl rfl rfl

/-! ### literals of slices and structs -/
class EvP (L : Env) (ps : List (Nat × Operand)) (vs : outParam (List (Nat × Value))) : Prop where
  out : ∀ n a, Kn n L a → ps.map (fun p => (p.1, a.eval p.2)) = vs
instance evpNil (L : Env) : EvP L [] [] := ⟨fun _ _ _ => rfl⟩
instance evpCons (L : Env) (j : Nat) (x : Operand) (ps : List (Nat × Operand)) (v : Value) (vs : List (Nat × Value)) [h : Ev L x v] [h2 : EvP L ps vs] : EvP L ((j, x) :: ps) ((j, v) :: vs) :=
  ⟨fun n a k => by simp [h.out n a k, h2.out n a k]⟩
class BA (P : Program) (T : TypeId) (parts : List (Nat × Value)) (cs : outParam (Array Value)) : Prop where
  out : ∀ w, (Instr.build T parts.toArray).run P w = .ok (.agg cs) w
class BS (P : Program) (T : TypeId) (len : Nat) (parts : List (Nat × Value)) (cs : outParam (Array Value)) (e : outParam TypeId) : Prop where
  out : ∀ w, (Instr.buildSlice T len parts.toArray).run P w = .ok (.slice (some ⟨w.heap.size, 0, none⟩) len len) (w.alloc (.cells cs e (0, 0)))
theorem evp_run {ps : List (Nat × Operand)} {vs : List (Nat × Value)} {a : Act} (h : ps.map (fun p => (p.1, a.eval p.2)) = vs) : (ps.toArray.map fun (i, x) => (i, a.eval x)) = vs.toArray := by
  rw [← h]
  simp
instance yBuild (T : TypeId) (ps : List (Nat × Operand)) (vs : List (Nat × Value)) (cs : Array Value) [h : EvP L ps vs] [h2 : BA P T vs cs] : Y P R L Γ (.build T ps.toArray) (.agg cs) := ⟨fun C n a w _ _ _ _ _ k i => by
  simp only [execOp, evp_run (h.out n a k), Sem.run_bind, h2.out w, Result.andThen_ok, Sem.run_pure]⟩
theorem v_lit {K : Act → World → Prop} {d T len e : Nat} {ps : List (Nat × Operand)} {vs : List (Nat × Value)} {ty : TypeId} {pos : String} {af : Array Edge} {cs : Array Value} [hp : EvP L ps vs] [hb : BS P T len vs cs e] [hd : Is (Nat.ble n d = false)]
    (h : ∀ b, VK C R n ((d, .slice (some ⟨b, 0, none⟩) len len) :: L) ([(b, .cells cs e (0, 0))] :: Γ) K) : VK C R n L Γ (wp1 P all Q ⟨some d, .buildSlice T len ps.toArray, ty, pos, af, none⟩ K) := VK.mk fun a w kn i => by
  have hd' : d < n := lt_of_ble hd.out
  have hrun : (execOp a.eval ⟨some d, .buildSlice T len ps.toArray, ty, pos, af, none⟩).run P w = .ok (.value (.slice (some ⟨w.heap.size, 0, none⟩) len len)) (w.alloc (.cells cs e (0, 0))) := by
    simp only [execOp, evp_run (hp.out n a kn), Sem.run_bind, hb.out w, Result.andThen_ok, Sem.run_pure]
  simp only [wp1, Region.wanted, if_true]
  refine .inl ?_
  simp only [Oper.wp, hrun, Oper.upon]
  exact (h _).out _ _ (kn.put hd') (i.new _)

/-! ### loops -/
/-- the values of some slots -/
class Get (L : Env) (ts : List Nat) (vs : outParam (List Value)) : Prop where
  out : ts.length = vs.length ∧ ∀ t v, (ts.zip vs).lookup t = some v → L.lookup t = some v
instance getNil (L : Env) : Get L [] [] := ⟨rfl, fun t v h => by simp at h⟩
instance getCons (L : Env) (t : Nat) (ts : List Nat) (v : Value) (vs : List Value) [h : Lk L t v] [h2 : Get L ts vs] : Get L (t :: ts) (v :: vs) := ⟨by simp [h2.out.1], fun u x hx => by
  simp only [List.zip_cons_cons, List.lookup] at hx
  by_cases e : u = t
  · subst e; simp at hx; rw [← hx]; exact h.out
  · have e2 : (u == t) = false := by simpa using e
    simp only [e2] at hx
    exact h2.out.2 u x hx⟩
/-- the state at a loop's head, for some ghost x that measures less than m -/
def Again (C : Cx) (R : List Hp) (n : Nat) {α : Type} (ts : List Nat) (vals : α → List Value) (Γs : α → List Hp) (ok : α → Prop) (μ : α → Nat) (m : Nat) (a : Act) (w : World) : Prop :=
  ∃ x, ok x ∧ μ x < m ∧ Kn n (ts.zip (vals x)) a ∧ Inv C R (Γs x) w
theorem least (p : Nat → Prop) (m : Nat) (h : p m) : ∃ k, p k ∧ ∀ j, p j → k ≤ j := by
  induction m using Nat.strongRecOn with
  | _ m ih =>
    by_cases hm : ∃ j, j < m ∧ p j
    · obtain ⟨j, hj, hp⟩ := hm
      exact ih j hj hp
    · exact ⟨m, h, fun j hj => by
        rcases Nat.lt_or_ge j m with hlt | hge
        · exact absurd ⟨j, hlt, hj⟩ hm
        · exact hge⟩
theorem Inv.take {Γ2 Γd : List Hp} (i : Inv C R Γ w) (hp : Γ.flatten.Perm (Γ2.flatten ++ Γd.flatten)) : Inv C R Γ2 w := by
  have := i.perm (Γ2 := Γ2 ++ Γd) (by simpa using hp)
  have hk : keys (Γ2 ++ Γd) = keys Γ2 ++ keys Γd := keys_append _ _
  exact ⟨this.os, this.tape, this.output, this.size, this.ro, fun x hx => this.own x (by simp only [List.flatten_append, List.mem_append]; exact .inl hx), (List.nodup_append.1 (hk ▸ this.nodup)).1, fun b hb => this.apart b (hk ▸ List.mem_append_left _ hb), fun b hb => this.may b (hk ▸ List.mem_append_left _ hb), this.frame, this.dr⟩
/-- slots and their values -/
def zipE : List Nat → List Value → Env
  | t :: ts, v :: vs => (t, v) :: zipE ts vs
  | _, _ => []
theorem zipE_c (t : Nat) (ts : List Nat) (v : Value) (vs : List Value) : zipE (t :: ts) (v :: vs) = (t, v) :: zipE ts vs := rfl
theorem zipE_n (vs : List Value) : zipE [] vs = [] := rfl
theorem zipE_eq : ∀ (ts : List Nat) (vs : List Value), zipE ts vs = ts.zip vs
  | [], _ => rfl
  | _ :: _, [] => rfl
  | t :: ts, v :: vs => by simp [zipE, zipE_eq ts vs]
theorem v_loop {α : Type} (ts : List Nat) (vals : α → List Value) (Γs : α → List Hp) (ok : α → Prop) (μ : α → Nat) (x0 : α) {vs : List Value} {Γd : List Hp} {body : Code} [hg : Get L ts vs] (hv : vs = vals x0) (hp : Pick Γ (Γs x0) Γd) (h0 : ok x0)
    (round' : ∀ x, ok x → VK C R n (zipE ts (vals x)) (Γs x) (KC P body (Exit.then (Again C R n ts vals Γs ok μ (μ x)) Q))) : VK C R n L Γ (KC P (.loop body) Q) := VK.mk fun a w k i => by
  have round := fun x h => zipE_eq ts (vals x) ▸ round' x h
  let S : α → Act → World → Prop := fun x a w => ok x ∧ Kn n (ts.zip (vals x)) a ∧ Inv C R (Γs x) w
  have ex : ∀ a w, ∃ m, (∃ x, S x a w) → (∃ x, S x a w ∧ μ x = m) ∧ ∀ x, S x a w → m ≤ μ x := fun a w => by
    by_cases h : ∃ x, S x a w
    · obtain ⟨x, hx⟩ := h
      obtain ⟨m, ⟨y, hy, hm⟩, hl⟩ := least (fun m => ∃ y, S y a w ∧ μ y = m) (μ x) ⟨x, hx, rfl⟩
      exact ⟨m, fun _ => ⟨⟨y, hy, hm⟩, fun z hz => hl _ ⟨z, hz, rfl⟩⟩⟩
    · exact ⟨0, fun h' => absurd h' h⟩
  have hf := fun a => Classical.skolem.1 (ex a)
  obtain ⟨f, hf⟩ := Classical.skolem.1 hf
  refine KC.mk (wp_loop (fun a w => ∃ x, S x a w) f ⟨x0, h0, k.weaken (fun t v ht => hg.out.2 t v (hv ▸ ht)), i.take hp.out⟩ ?_)
  intro a w hx
  obtain ⟨⟨x, ⟨h1, h2, h3⟩, hm⟩, _⟩ := hf a w hx
  refine wp_mono (KC.out ((round x h1).out a w h2 h3)) ?_
  intro e a' w' he
  cases e with
  | normal =>
    obtain ⟨y, y1, y2, y3, y4⟩ := he
    refine ⟨⟨y, y1, y3, y4⟩, ?_⟩
    have := (hf a' w' ⟨y, y1, y3, y4⟩).2 y ⟨y1, y3, y4⟩
    omega
  | _ => exact he
/-- a round's end -/
theorem v_again {α : Type} {ts : List Nat} {vals : α → List Value} {Γs : α → List Hp} {ok : α → Prop} {μ : α → Nat} {m : Nat} (x : α) {vs : List Value} {Γd : List Hp} [hg : Get L ts vs] (hm : μ x < m) (hv : vs = vals x) (hp : Pick Γ (Γs x) Γd) (h0 : ok x) :
    VK C R n L Γ (KE (Exit.then (Again C R n ts vals Γs ok μ m) Q) .normal) := VK.mk fun _ _ k i =>
  KE.mk ⟨x, h0, hm, k.weaken (fun t v ht => hg.out.2 t v (hv ▸ ht)), i.take hp.out⟩
end
end Go.SX

/- Symbolic execution: '==' of structs, field by field. -/
namespace Go.SX
set_option linter.unusedSimpArgs false
set_option linter.unusedVariables false
open Go
section
variable {P : Program} {d : Nat} {xs ys : Array Value} {f : Field} {fs : List Field} {p q : Prop} [Decidable p] [Decidable q]
/-- the fields from here on are equal just if p -/
def EqF (P : Program) (d : Nat) (xs ys : Array Value) (fs : List Field) (p : Prop) [Decidable p] : Prop := ∀ w, (Op.eqFields d xs ys fs).run P w = .ok (decide p) w
def EqV (P : Program) (d : Nat) (t : TypeId) (a b : Value) (p : Prop) [Decidable p] : Prop := ∀ w, (Op.equalIn d t a b).run P w = .ok (decide p) w
theorem eqfNil : EqF P d xs ys [] True := fun w => by simp [Op.eqFields]
theorem eqfCons {a b : Value} (hn : (f.name == "_") = false) (ha : ∀ w, (part f.type xs f.offset).run P w = .ok a w) (hb : ∀ w, (part f.type ys f.offset).run P w = .ok b w) (he : EqV P d f.type a b p) (hr : EqF P d xs ys fs q) : EqF P d xs ys (f :: fs) (p ∧ q) := fun w => by
  have hn' : f.name ≠ "_" := by simpa using hn
  rw [Op.eqFields]
  simp only [if_pos hn', Sem.run_bind, ha, hb, he w, Result.andThen_ok]
  by_cases hp : p
  · simp [hp, hr w]
  · simp [hp]
theorem eqfLast {a b : Value} (hn : (f.name == "_") = false) (ha : ∀ w, (part f.type xs f.offset).run P w = .ok a w) (hb : ∀ w, (part f.type ys f.offset).run P w = .ok b w) (he : EqV P d f.type a b p) : EqF P d xs ys [f] p := fun w => by
  have := eqfCons hn ha hb he (eqfNil (P := P) (d := d) (xs := xs) (ys := ys)) w
  simpa using this
theorem eqvStruct {t : TypeId} {l : List Field} (hu : P.underlying t = some (.struct l.toArray)) (hp : P.stoodInHeld t = false) (h : EqF P d xs ys l p) : EqV P (d + 1) t (.agg xs) (.agg ys) p := fun w => by
  have hf : P.fieldsOf t = l.toArray := by simp [Program.fieldsOf, hu]
  rw [run_equalIn_struct (P := P) w d t xs ys (by rw [hf]; exact hu) hp, hf]
  exact h w
theorem eqvInt {t : TypeId} {k : IntKind} {x y : Int} (hu : P.underlying t = some (.int k)) : EqV P (d + 1) t (.int k x) (.int k y) (x = y) := fun w => by
  rw [run_equalIn_int w d t k k x y hu]; rfl
theorem eqvBool {t : TypeId} {x y : Bool} (hu : P.underlying t = some .bool) : EqV P (d + 1) t (.bool x) (.bool y) (x = y) := fun w => by
  rw [run_equalIn_bool' w d t x y hu]; cases x <;> cases y <;> rfl
theorem bytes_iff {x y : ByteArray} : x.toList = y.toList ↔ x = y := by
  constructor
  · intro h
    rw [ByteArray.toList_eq, ByteArray.toList_eq] at h
    cases x; cases y
    simpa using Array.toList_inj.1 h
  · rintro rfl; rfl
theorem eqvStr {t : TypeId} {x y : ByteArray} (hu : P.underlying t = some .string) : EqV P (d + 1) t (.string x) (.string y) (x = y) := fun w => by
  rw [run_equalIn_string w d t x y hu]; congr 1; exact Bool.eq_iff_iff.2 (by simp [bytes_iff])
theorem binEq {t : TypeId} (hg : P.eqGuardType P.depth t = false) (h : EqV P 10000 t (.agg xs) (.agg ys) p) : Bin P .eql t (.agg xs) (.agg ys) (.bool (decide p)) := ⟨fun w => by
  rw [run_eql_struct, h w]; rfl, fun _ a b w => run_eqGuard_agg w .eql t a b xs ys hg⟩
theorem binNe {t : TypeId} (hg : P.eqGuardType P.depth t = false) (h : EqV P 10000 t (.agg xs) (.agg ys) p) : Bin P .neq t (.agg xs) (.agg ys) (.bool (decide (¬ p))) := ⟨fun w => by
  have e : (binOp .neq t (.agg xs) (.agg ys)).run P w = ((Op.equalIn 10000 t (.agg xs) (.agg ys)).run P w).andThen fun b w' => .ok (.bool (!b)) w' := by
    simp only [binOp]
    simp [Op.equal, Op.maxDepth]
  rw [e, h w]
  simp, fun _ a b w => run_eqGuard_agg w .neq t a b xs ys hg⟩
theorem elOf {e sz b : Nat} {z : Value} (h : (P.info? e).map (fun i => (i.zero, i.size, i.bytes)) = some (some z, sz, b)) (hz : z.cells.size = sz) (h0 : 0 < sz) : El P e sz b := ⟨by
  cases hi : P.info? e with
  | none => simp [hi] at h
  | some i =>
    simp [hi] at h
    exact ⟨i, z, rfl, h.1, h.2.1, h.2.2, hz, h0⟩⟩
instance biStrE (t : TypeId) (x y : ByteArray) : Bin P .eql t (.string x) (.string y) (.bool (decide (x = y))) := ⟨fun w => by simp [binOp, Op.stringOp]; exact Bool.eq_iff_iff.2 (by simp [bytes_iff]), fun _ p q w => by unfold eqGuard; simp⟩
instance biStrN (t : TypeId) (x y : ByteArray) : Bin P .neq t (.string x) (.string y) (.bool (decide (¬ x = y))) := ⟨fun w => by simp [binOp, Op.stringOp]; exact Bool.eq_iff_iff.2 (by simp [bytes_iff]), fun _ p q w => by unfold eqGuard; simp⟩
end
end Go.SX

/- Symbolic execution of a region that draws its order: a plan says in which order the operations are taken; one check says that no other order comes to anything else. -/
namespace Go.SX
set_option linter.unusedSimpArgs false
set_option linter.unusedVariables false
open Go

theorem wp1.out {P : Program} {all : Array Oper} {Q : Exit → Act → World → Prop} {o : Oper} {K : Act → World → Prop} {a : Act} {w : World} (h : wp1 P all Q o K a w) : if Region.wanted o (yielded all a.tmps) then o.wp P a w K Q ∨ (o.asks P a w ∧ LetsOut Q) else K (a.put o.dst undef) w := by
  unfold wp1 at h; exact h
theorem wp1.mk {P : Program} {all : Array Oper} {Q : Exit → Act → World → Prop} {o : Oper} {K : Act → World → Prop} {a : Act} {w : World} (h : if Region.wanted o (yielded all a.tmps) then o.wp P a w K Q ∨ (o.asks P a w ∧ LetsOut Q) else K (a.put o.dst undef) w) : wp1 P all Q o K a w := by
  unfold wp1; exact h
/-- a plan: 'take' an operation first that asks nothing of the others; 'act' where one alone can come; 'two', 'three' where one of several comes -/
inductive Pl where
  | done
  | take (i : Nat) (r : Pl)
  | act (i : Nat) (r : Pl)
  | two (i : Nat) (r : Pl) (j : Nat) (s : Pl)
  | three (i : Nat) (r : Pl) (j : Nat) (s : Pl) (k : Nat) (t : Pl)
/-- kl: the operation that ends what is stable for a while -/
def Pl.ok (all : Array Oper) (kl : Nat) : Nat → Array Bool → Pl → Bool
  | _, ls, .done => (Region.ready .any all ls).isEmpty
  | f + 1, ls, .take i r => (Region.ready .any all ls).contains i && Region.free .any all ls i && !Nat.beq i kl && Pl.ok all kl f (ls.setIfInBounds i true) r
  | f + 1, ls, .act i r => decide (Region.ready .any all ls = [i]) && Pl.ok all kl f (ls.setIfInBounds i true) r
  | f + 1, ls, .two i r j s => decide (Region.ready .any all ls = [i, j]) && Pl.ok all kl f (ls.setIfInBounds i true) r && Pl.ok all kl f (ls.setIfInBounds j true) s
  | f + 1, ls, .three i r j s k t => decide (Region.ready .any all ls = [i, j, k]) && Pl.ok all kl f (ls.setIfInBounds i true) r && Pl.ok all kl f (ls.setIfInBounds j true) s && Pl.ok all kl f (ls.setIfInBounds k true) t
  | 0, _, _ => false

/-! ### whatever order comes: what holds of the world hangs on what has come -/
section
variable {P : Program} {ops : Array Oper} {Q : Exit → Act → World → Prop} {md : Region.Mode} {S : Array Bool → World → Prop}
def wpAnyI (P : Program) (md : Region.Mode) (ops : Array Oper) (Q : Exit → Act → World → Prop) (S : Array Bool → World → Prop) : Nat → Array Bool → Act → World → Prop
  | 0, listed, a, w => Region.ready md ops listed = [] ∧ Q .normal a w
  | fuel + 1, listed, a, w =>
    (Region.ready md ops listed = [] → Q .normal a w) ∧
    ∀ i ∈ Region.ready md ops listed, wpOp P ops Q i (fun a' w' => S (listed.setIfInBounds i true) w' ∧ wpAnyI P md ops Q S fuel (listed.setIfInBounds i true) a' w') a w
theorem wpAny_of_I : ∀ (fuel : Nat) (listed : Array Bool) (a : Act) (w : World), wpAnyI P md ops Q S fuel listed a w → wpAny P md ops Q fuel listed a w
  | 0, _, _, _, h => h
  | fuel + 1, _, _, _, h => ⟨h.1, fun i hi => wpOp_mono (fun a' w' h' => wpAny_of_I fuel _ a' w' h'.2) (h.2 i hi)⟩
/-- what has come has all come that it waits for -/
def Closed (md : Region.Mode) (ops : Array Oper) (ls : Array Bool) : Prop := ∀ k o, ops[k]? = some o → ls.getD k false = true → ∀ e ∈ o.after, Region.binds md e = true → ls.getD e.on false = true
theorem Closed.set {ls : Array Bool} {j : Nat} (h : Closed md ops ls) (hj : j ∈ Region.ready md ops ls) : Closed md ops (ls.setIfInBounds j true) := fun k o hk hl e he hb => by
  by_cases hjk : j = k
  · subst hjk
    obtain ⟨_, oj, hoj, hall⟩ := mem_ready.1 hj
    rw [hk] at hoj
    obtain rfl := Option.some.inj hoj
    exact getD_set_true (hall e he hb)
  · rw [getD_set_ne false hjk] at hl
    exact getD_set_true (h k o hk hl e he hb)
theorem YieldsIf.weak {S1 S2 : World → Prop} {o : Oper} {v : Value} {a : Act} (h : YieldsIf P ops S1 o v a) (hs : ∀ w, S2 w → S1 w) : YieldsIf P ops S2 o v a := h.imp (fun ⟨x, y⟩ => ⟨x, fun w hw => y w (hs w hw)⟩) id
theorem wpAnyI_first {i : Nat} {oi : Oper} {v : Value} (hi : ops[i]? = some oi) (hsel : ∀ (j : Nat) (o : Oper) cs b, ops[j]? = some o → o.op ≠ .select cs b)
    (hQ : ∀ c a w, Q (.panic c) (a.put oi.dst v) w → Q (.panic c) a w) (hS : ∀ ls w, S (ls.setIfInBounds i true) w ↔ S ls w) (T : World → Prop) :
    ∀ (fuel : Nat) (listed : Array Bool) (a : Act) (w : World),
      (∀ j oj, ops[j]? = some oj → j ≠ i → listed.getD j true = false → (∀ e ∈ oj.after, Region.binds md e = true → e.on ≠ i) → oi.apart ops oj = true) →
      i ∈ Region.ready md ops listed → Closed md ops listed → (∀ ls' w, Closed md ops ls' → ls'.getD i false = false → S ls' w → T w) → YieldsIf P ops T oi v a → S listed w →
      wpAnyI P md ops Q S fuel (listed.setIfInBounds i true) (a.put oi.dst v) w → wpAnyI P md ops Q S (fuel + 1) listed a w := by
  have un : ∀ (ls : Array Bool), ls.getD i true = false → ls.getD i false = false := fun ls h => by
    rcases Nat.lt_or_ge i ls.size with h' | h'
    · simpa [h'] using h
    · simp [Array.getElem?_eq_none h'] at h
  intro fuel
  induction fuel with
  | zero =>
    intro listed a w _ hr hcl hT hy hSw H
    refine ⟨fun h => (by rw [h] at hr; cases hr), fun j hj => ?_⟩
    by_cases hji : j = i
    · subst hji; exact hy.wpOp hi (hT _ _ hcl (un _ (mem_ready.1 hr).1) hSw) ⟨(hS _ _).2 hSw, H⟩
    · have := ready_mono hj hji
      rw [H.1] at this
      cases this
  | succ fuel ih =>
    intro listed a w hfree hr hcl hT hy hSw H
    refine ⟨fun h => (by rw [h] at hr; cases hr), fun j hj => ?_⟩
    by_cases hji : j = i
    · subst hji; exact hy.wpOp hi (hT _ _ hcl (un _ (mem_ready.1 hr).1) hSw) ⟨(hS _ _).2 hSw, H⟩
    · have h1 := H.2 j (ready_mono hj hji)
      obtain ⟨hjun, oj, hoj, hall⟩ := mem_ready.1 hj
      have hnot : ∀ e ∈ oj.after, Region.binds md e = true → e.on ≠ i := fun e he hb heq => by
        have h1 := hall e he hb
        have h0 := (mem_ready.1 hr).1
        rw [heq] at h1
        rcases Nat.lt_or_ge i listed.size with h' | h'
        · simp [h'] at h0 h1; rw [h0] at h1; cases h1
        · simp [Array.getElem?_eq_none h'] at h1
      have h2 := wpOp_putIf hoj (hfree j oj hoj hji hjun hnot) (fun cs b => hsel i oi cs b hi) (fun cs b => hsel j oj cs b hoj) hQ hy h1
      have hfree' : ∀ k ok, ops[k]? = some ok → k ≠ i → (listed.setIfInBounds j true).getD k true = false →
          (∀ e ∈ ok.after, Region.binds md e = true → e.on ≠ i) → oi.apart ops ok = true := fun k ok hk hki hun hno => by
        refine hfree k ok hk hki ?_ hno
        by_cases hjk : j = k
        · subst hjk; exact hjun
        · rw [getD_set_ne true hjk] at hun; exact hun
      refine wpOp_mono (fun a' w' h3 => ?_) h2
      have h4 : S (listed.setIfInBounds j true) w' := by
        have := h3.2.1
        rw [Array.setIfInBounds_comm _ _ (Ne.symm hji)] at this
        exact (hS _ _).1 this
      refine ⟨h4, ih (listed.setIfInBounds j true) a' w' hfree' (ready_mono hr (Ne.symm hji)) (hcl.set hj) hT h3.1 h4 ?_⟩
      rw [Array.setIfInBounds_comm _ _ hji]
      exact h3.2.2
theorem wpAnyI_all {rs : List Nat} {fuel : Nat} {listed : Array Bool} {a : Act} {w : World} (hr : Region.ready md ops listed = rs) (hne : rs ≠ [])
    (h : ∀ i ∈ rs, wpOp P ops Q i (fun a' w' => S (listed.setIfInBounds i true) w' ∧ wpAnyI P md ops Q S fuel (listed.setIfInBounds i true) a' w') a w) : wpAnyI P md ops Q S (fuel + 1) listed a w :=
  ⟨fun h0 => absurd (hr ▸ h0) hne, hr ▸ h⟩
theorem wpAnyI_done {listed : Array Bool} {a : Act} {w : World} (hr : Region.ready md ops listed = []) (h : Q .normal a w) : ∀ fuel, wpAnyI P md ops Q S fuel listed a w
  | 0 => ⟨hr, h⟩
  | _ + 1 => ⟨fun _ => h, by rw [hr]; simp⟩
end

/-- these blocks are as they are -/
def Stab (Rs : List Hp) (w : World) : Prop := ∀ x ∈ Rs.flatten, w.heap[x.1]? = some x.2
/-- .. as long as the region runs (Rs), and till kl comes (Rt) -/
def Std (Rs : List Hp) (kl : Nat) (Rt : List Hp) (ls : Array Bool) (w : World) : Prop := Stab Rs w ∧ (ls.getD kl false = false → Stab Rt w)
theorem Std.iff {Rs : List Hp} {kl : Nat} {Rt : List Hp} {i : Nat} (h : i ≠ kl) (ls : Array Bool) (w : World) : Std Rs kl Rt (ls.setIfInBounds i true) w ↔ Std Rs kl Rt ls w := by
  unfold Std; rw [getD_set_ne false h]
class Mixed (P : Program) : Prop where
  out : P.follows .mixedOrders = true
/-- where it ends by a panic, the slots are nothing to it -/
class QP (Q : Exit → Act → World → Prop) (d : Nat) : Prop where
  out : ∀ c a w v, Q (.panic c) (a.put (some d) v) w → Q (.panic c) a w
instance qpBody (P : Program) (fn : Func) (X : Ending → World → Prop) (d : Nat) : QP (bodyPost P fn X) d := ⟨fun c a w v h => h⟩
instance qpThen (K : Act → World → Prop) (Q : Exit → Act → World → Prop) (d : Nat) [h : QP Q d] : QP (Exit.then K Q) d := ⟨fun c a w v x => h.out c a w v x⟩
instance qpBlock (id : Nat) (Q : Exit → Act → World → Prop) (d : Nat) [h : QP Q d] : QP (Exit.inBlock id Q) d := ⟨fun c a w v x => h.out c a w v x⟩

section
variable {P : Program} {C : Cx} {R : List Hp} {n : Nat} {all : Array Oper} {Q : Exit → Act → World → Prop} {L : Env} {Γ : List Hp} {rest : List Oper} {w : World} {Rs : List Hp}
/-- the rest of a drawn region, by a plan; b: kl hasn't come yet -/
def KA (P : Program) (all : Array Oper) (Q : Exit → Act → World → Prop) (Rs : List Hp) (kl : Nat) (Rt : List Hp) (b : Bool) (pl : Pl) : Act → World → Prop := fun a w =>
  Region.noSelect all = true → ∀ (fuel : Nat) (ls : Array Bool), Pl.ok all kl fuel ls pl = true → Closed .any all ls → ls.size = all.size → (b = false → ls.getD kl false = true) → Std Rs kl Rt ls w → wpAnyI P .any all Q (Std Rs kl Rt) fuel ls a w
/-- .. behind operation i: the stable blocks are to be found again -/
def KS (P : Program) (all : Array Oper) (Q : Exit → Act → World → Prop) (Rs : List Hp) (kl : Nat) (Rt : List Hp) (b : Bool) (i : Nat) (pl : Pl) : Act → World → Prop := fun a w =>
  Stab Rs w ∧ (b = true → i ≠ kl → Stab Rt w) ∧ KA P all Q Rs kl Rt (b && !Nat.beq i kl) pl a w
/-- operation i, taken first -/
def FT (P : Program) (all : Array Oper) (Q : Exit → Act → World → Prop) (Rs : List Hp) (kl : Nat) (Rt : List Hp) (b : Bool) (i : Nat) (r : Pl) : Oper → Act → World → Prop := fun o a w =>
  all[i]? = some o → Region.noSelect all = true → ∀ (fuel : Nat) (ls : Array Bool), Pl.ok all kl (fuel + 1) ls (.take i r) = true → Closed .any all ls → ls.size = all.size → (b = false → ls.getD kl false = true) → Std Rs kl Rt ls w → wpAnyI P .any all Q (Std Rs kl Rt) (fuel + 1) ls a w
/-- operation i, carried out -/
def FD (P : Program) (all : Array Oper) (Q : Exit → Act → World → Prop) (Rs : List Hp) (kl : Nat) (Rt : List Hp) (b : Bool) (i : Nat) (r : Pl) : Oper → Act → World → Prop := fun o a w =>
  all[i]? = some o → Region.noSelect all = true → ∀ (fuel : Nat) (ls : Array Bool), Pl.ok all kl fuel (ls.setIfInBounds i true) r = true → Closed .any all (ls.setIfInBounds i true) → ls.size = all.size → (b = false → ls.getD kl false = true) → Std Rs kl Rt ls w →
    wpOp P all Q i (fun a' w' => Std Rs kl Rt (ls.setIfInBounds i true) w' ∧ wpAnyI P .any all Q (Std Rs kl Rt) fuel (ls.setIfInBounds i true) a' w') a w
/-- an operation whose guard is looked at first: o is the operation itself, or it without a guard that lets it pass -/
def KG (all : Array Oper) (F : Oper → Act → World → Prop) (o : Oper) : Act → World → Prop := fun a w =>
  ∀ o', (o' = o ∨ (o.guard = none ∧ ∃ g, o' = { o with guard := g } ∧ Region.wanted o' (yielded all a.tmps) = true)) → F o' a w
abbrev KT (P : Program) (all : Array Oper) (Q : Exit → Act → World → Prop) (Rs : List Hp) (kl : Nat) (Rt : List Hp) (b : Bool) (i : Nat) (o : Oper) (r : Pl) := KG all (FT P all Q Rs kl Rt b i r) o
abbrev KD (P : Program) (all : Array Oper) (Q : Exit → Act → World → Prop) (Rs : List Hp) (kl : Nat) (Rt : List Hp) (b : Bool) (i : Nat) (o : Oper) (r : Pl) := KG all (FD P all Q Rs kl Rt b i r) o

theorem v_drawn (kl : Nat) (pl : Pl) (Rs Rt : List Hp) {id : Nat} {ops : Array Oper} [hm : Mixed P] [hs : Sub Rs R Γ] [hst : Sub Rt R Γ] (hok : (Region.noSelect ops && Pl.ok ops kl ops.size (Array.replicate ops.size false) pl) = true)
    (h : VK C R n L Γ (KA P ops Q Rs kl Rt true pl)) : VK C R n L Γ (KC P (.region id ops true) Q) := VK.mk fun a w k i => KC.mk <| wp_region_any hm.out (wpAny_of_I (S := Std Rs kl Rt) _ _ _ _ (by
  rw [Bool.and_eq_true] at hok
  refine h.out a _ k (i.drew) hok.1 _ _ hok.2 (fun k o _ hl => ?_) (by simp) (fun h => by cases h) ⟨fun x hx => (hs.out x hx).elim (i.ro x) (i.own x), fun _ x hx => (hst.out x hx).elim (i.ro x) (i.own x)⟩
  exfalso
  rcases Nat.lt_or_ge k ops.size with h' | h'
  · simp [h'] at hl
  · simp [h'] at hl))
theorem ptee {P : Program} {t e : TypeId} (h : P.underlying t = some (.pointer e)) : P.underlying t = some (.pointer (P.pointee t)) := by
  have hp : P.pointee t = e := by simp [Program.pointee, h]
  rw [hp, h]
instance biPtrNil (P : Program) (t e : TypeId) (x : Addr) [h : Und P t (.pointer e)] : Bin P .eql t (.pointer (some x)) (.pointer none) (.bool false) := ⟨fun w => run_eql_pointer_nil w t _ (ptee h.out), fun _ p q w => by unfold eqGuard; simp⟩
instance biPtrNilN (P : Program) (t e : TypeId) (x : Addr) [h : Und P t (.pointer e)] : Bin P .neq t (.pointer (some x)) (.pointer none) (.bool true) := ⟨fun w => run_neq_pointer_nil w t _ (ptee h.out), fun _ p q w => by unfold eqGuard; simp⟩
instance (priority := high) pickEmpty (Γ Γc Γr : List Hp) [h : Pick Γ Γc Γr] : Pick Γ ([] :: Γc) Γr := ⟨by simpa using h.out⟩
/-- two memories, one behind the other -/
class App (R Γ : List Hp) (X : outParam (List Hp)) : Prop where
  out : X = R ++ Γ
instance appNil (Γ : List Hp) : App [] Γ Γ := ⟨rfl⟩
instance appCons (s : Hp) (R Γ X : List Hp) [h : App R Γ X] : App (s :: R) Γ (s :: X) := ⟨by rw [h.out]; rfl⟩
theorem App.sub {R Γ X : List Hp} (h : App R Γ X) : Sub X R Γ := ⟨fun x hx => by
  rw [h.out, List.flatten_append, List.mem_append] at hx; exact hx⟩
/-- all that is known stays as it is -/
theorem v_drawn0 (pl : Pl) {X : List Hp} {id : Nat} {ops : Array Oper} [hm : Mixed P] [hx : App R Γ X] (hok : (Region.noSelect ops && Pl.ok ops 1000000 ops.size (Array.replicate ops.size false) pl) = true)
    (h : VK C R n L Γ (KA P ops Q X 1000000 [] true pl)) : VK C R n L Γ (KC P (.region id ops true) Q) := v_drawn (hs := hx.sub) 1000000 pl X [] hok h
/-- .. till operation kl comes -/
theorem v_drawnK (kl : Nat) (pl : Pl) {X : List Hp} {id : Nat} {ops : Array Oper} [hm : Mixed P] [hx : App R Γ X] [hs : Sub R R Γ] (hok : (Region.noSelect ops && Pl.ok ops kl ops.size (Array.replicate ops.size false) pl) = true)
    (h : VK C R n L Γ (KA P ops Q R kl X true pl)) : VK C R n L Γ (KC P (.region id ops true) Q) := v_drawn (hst := hx.sub) kl pl R X hok h
variable {kl : Nat} {Rt : List Hp} {b : Bool}
theorem v_aDone (h : VK C R n L Γ (KE Q .normal)) : VK C R n L Γ (KA P all Q Rs kl Rt b .done) := VK.mk fun a w k i _ fuel ls hok _ _ _ _ =>
  wpAnyI_done (by cases fuel <;> simpa [Pl.ok] using hok) ((h.out a w k i).out) fuel
theorem v_aTake {i : Nat} {r : Pl} {o : Oper} (ho : all[i]? = some o) (h : VK C R n L Γ (KT P all Q Rs kl Rt b i o r)) : VK C R n L Γ (KA P all Q Rs kl Rt b (.take i r)) := VK.mk fun a w k j hn fuel ls hok hc hz hb hS => by
  cases fuel with
  | zero => simp [Pl.ok] at hok
  | succ f => exact (show KG all (FT P all Q Rs kl Rt b i r) o a w from h.out a w k j) o (.inl rfl) ho hn f ls hok hc hz hb hS
theorem fd_use {i : Nat} {r : Pl} {o : Oper} {a : Act} (k : Kn n L a) (j : Inv C R Γ w) (h : VK C R n L Γ (KD P all Q Rs kl Rt b i o r)) : FD P all Q Rs kl Rt b i r o a w :=
  (show KG all (FD P all Q Rs kl Rt b i r) o a w from h.out a w k j) o (.inl rfl)
theorem mem_of_eq {α : Type} {l m : List α} {x : α} (h : l = m) (hx : x ∈ m) : x ∈ l := h ▸ hx
theorem v_aAct {i : Nat} {r : Pl} {o : Oper} (ho : all[i]? = some o) (h : VK C R n L Γ (KD P all Q Rs kl Rt b i o r)) : VK C R n L Γ (KA P all Q Rs kl Rt b (.act i r)) := VK.mk fun a w k j hn fuel ls hok hc hz hb hS => by
  cases fuel with
  | zero => simp [Pl.ok] at hok
  | succ f =>
    simp only [Pl.ok, Bool.and_eq_true, decide_eq_true_eq] at hok
    exact wpAnyI_all hok.1 (by simp) (fun x hx => by
      have hm := mem_of_eq hok.1 hx
      obtain rfl := List.mem_singleton.1 hx
      exact fd_use k j h ho hn f ls hok.2 (hc.set hm) hz hb hS)
theorem v_aTwo {i j : Nat} {r s : Pl} {o u : Oper} (ho : all[i]? = some o) (hu : all[j]? = some u) (h : VK C R n L Γ (KD P all Q Rs kl Rt b i o r)) (h2 : VK C R n L Γ (KD P all Q Rs kl Rt b j u s)) : VK C R n L Γ (KA P all Q Rs kl Rt b (.two i r j s)) := VK.mk fun a w k v hn fuel ls hok hc hz hb hS => by
  cases fuel with
  | zero => simp [Pl.ok] at hok
  | succ f =>
    simp only [Pl.ok, Bool.and_eq_true, decide_eq_true_eq] at hok
    exact wpAnyI_all hok.1.1 (by simp) (fun x hx => by
      have hm := mem_of_eq hok.1.1 hx
      rcases List.mem_cons.1 hx with rfl | hx
      · exact fd_use k v h ho hn f ls hok.1.2 (hc.set hm) hz hb hS
      · obtain rfl := List.mem_singleton.1 hx
        exact fd_use k v h2 hu hn f ls hok.2 (hc.set hm) hz hb hS)
theorem v_aThree {i j m : Nat} {r s t : Pl} {o u y : Oper} (ho : all[i]? = some o) (hu : all[j]? = some u) (hy : all[m]? = some y) (h : VK C R n L Γ (KD P all Q Rs kl Rt b i o r)) (h2 : VK C R n L Γ (KD P all Q Rs kl Rt b j u s)) (h3 : VK C R n L Γ (KD P all Q Rs kl Rt b m y t)) :
    VK C R n L Γ (KA P all Q Rs kl Rt b (.three i r j s m t)) := VK.mk fun a w k v hn fuel ls hok hc hz hb hS => by
  cases fuel with
  | zero => simp [Pl.ok] at hok
  | succ f =>
    simp only [Pl.ok, Bool.and_eq_true, decide_eq_true_eq] at hok
    exact wpAnyI_all hok.1.1.1 (by simp) (fun x hx => by
      have hm := mem_of_eq hok.1.1.1 hx
      rcases List.mem_cons.1 hx with rfl | hx
      · exact fd_use k v h ho hn f ls hok.1.1.2 (hc.set hm) hz hb hS
      · rcases List.mem_cons.1 hx with rfl | hx
        · exact fd_use k v h2 hu hn f ls hok.1.2 (hc.set hm) hz hb hS
        · obtain rfl := List.mem_singleton.1 hx
          exact fd_use k v h3 hy hn f ls hok.2 (hc.set hm) hz hb hS)
theorem wanted_none {dst : Option Tmp} {op : Op} {ty : TypeId} {pos : String} {af : Array Edge} {y : Nat → Option Bool} : Region.wanted ⟨dst, op, ty, pos, af, none⟩ y = true := rfl
theorem wanted_yes {a : Act} {dst : Option Tmp} {op : Op} {ty : TypeId} {pos : String} {af : Array Edge} {j t : Nat} {b : Bool} (ht : (all[j]?).bind (·.dst) = some t) (hl : Lk L t (.bool b)) (k : Kn n L a) :
    Region.wanted ⟨dst, op, ty, pos, af, some (j, b)⟩ (yielded all a.tmps) = true := by
  simp only [Region.wanted, yielded, ht, Option.bind_some, k.slot hl.out, beq_self_eq_true]
theorem wanted_no {a : Act} {dst : Option Tmp} {op : Op} {ty : TypeId} {pos : String} {af : Array Edge} {j t : Nat} {b c : Bool} (ht : (all[j]?).bind (·.dst) = some t) (hl : Lk L t (.bool c)) (hne : c ≠ b) (k : Kn n L a) :
    Region.wanted ⟨dst, op, ty, pos, af, some (j, b)⟩ (yielded all a.tmps) = false := by
  simp only [Region.wanted, yielded, ht, Option.bind_some, k.slot hl.out]
  cases c <;> cases b <;> simp_all
theorem wanted_un {a : Act} {dst : Option Tmp} {op : Op} {ty : TypeId} {pos : String} {af : Array Edge} {j t : Nat} {b : Bool} (ht : (all[j]?).bind (·.dst) = some t) (hl : Lk L t undef) (k : Kn n L a) :
    Region.wanted ⟨dst, op, ty, pos, af, some (j, b)⟩ (yielded all a.tmps) = false := by
  simp only [Region.wanted, yielded, ht, Option.bind_some, k.slot hl.out]
  cases b <;> rfl
/-- the guard lets it pass -/
theorem v_gYes {F : Oper → Act → World → Prop} {dst : Option Tmp} {op : Op} {ty : TypeId} {pos : String} {af : Array Edge} {j t : Nat} {b : Bool} (ht : (all[j]?).bind (·.dst) = some t) [hl : Lk L t (.bool b)]
    (h : VK C R n L Γ (KG all F ⟨dst, op, ty, pos, af, none⟩)) : VK C R n L Γ (KG all F ⟨dst, op, ty, pos, af, some (j, b)⟩) := VK.mk fun a w k i o' ho => by
  rcases ho with rfl | ⟨h1, _⟩
  · exact h.out a w k i _ (.inr ⟨rfl, some (j, b), rfl, wanted_yes ht hl k⟩)
  · cases h1
theorem take_by {i : Nat} {r : Pl} {o : Oper} {d : Nat} {v : Value} {a : Act} {al : Bool} {T : World → Prop} (hd : o.dst = some d) (hdn : d < n) (k : Kn n L a) (iv : Inv C R Γ w) [hq : QP Q d]
    (hT : ∀ ls' w, Closed .any all ls' → ls'.getD i false = false → Std Rs kl Rt ls' w → T w) (hy : YieldsIf P all T o v a) (h : VK C R n ((d, v) :: L) Γ (KA P all Q Rs kl Rt al r)) : FT P all Q Rs kl Rt al i r o a w := fun ho hn fuel ls hok hc hz hb hS => by
  simp only [Pl.ok, Bool.and_eq_true, Bool.not_eq_true', List.contains_eq_mem, decide_eq_true_eq] at hok
  have hne : i ≠ kl := Nat.ne_of_beq_eq_false hok.1.2
  refine wpAnyI_first (T := T) ho (Region.noSelect_spec hn) (fun c a w h => hq.out c a w v (by rw [hd] at h; exact h)) (Std.iff hne) fuel ls a w (Region.free_spec ho hok.1.1.2) hok.1.1.1 hc hT hy hS ?_
  rw [hd]
  exact h.out _ _ (k.put hdn) iv hn _ _ hok.2 (hc.set hok.1.1.1) (by simpa using hz) (fun e => getD_set_true (hb e)) ((Std.iff hne _ _).2 hS)
theorem fd_skip {i : Nat} {r : Pl} {o : Oper} {d : Nat} {a : Act} {al : Bool} (hd : o.dst = some d) (hdn : d < n) (k : Kn n L a) (iv : Inv C R Γ w) (hw : Region.wanted o (yielded all a.tmps) = false) (h : VK C R n ((d, undef) :: L) Γ (KS P all Q Rs kl Rt al i r)) : FD P all Q Rs kl Rt al i r o a w := fun ho hn fuel ls hok hc hz hb hS => by
  obtain ⟨h1, h2, h3⟩ := (show KS P all Q Rs kl Rt al i r _ _ from h.out _ _ (k.put hdn (v := undef)) iv)
  unfold wpOp
  simp only [ho, hw]
  rw [hd]
  have hS' : Std Rs kl Rt (ls.setIfInBounds i true) w := ⟨h1, fun e => hS.2 (by
    cases h : ls.getD kl false with
    | false => rfl
    | true => rw [getD_set_true h] at e; cases e)⟩
  have hil : i < ls.size := hz ▸ (Array.getElem?_eq_some_iff.1 ho).1
  exact ⟨hS', h3 hn _ _ hok hc (by simpa using hz) (fun e => by
    cases al with
    | false => exact getD_set_true (hb rfl)
    | true =>
      simp at e
      subst e
      simp [hil]) hS'⟩
/-- .. or doesn't: taken first, or carried out -/
theorem v_gNoT {i : Nat} {r : Pl} {d : Nat} {op : Op} {ty : TypeId} {pos : String} {af : Array Edge} {j t : Nat} {b al : Bool} (ht : (all[j]?).bind (·.dst) = some t) [hl : Lk L t (.bool (!b))] [hd : Is (Nat.ble n d = false)] [hq : QP Q d]
    (h : VK C R n ((d, undef) :: L) Γ (KA P all Q Rs kl Rt al r)) : VK C R n L Γ (KT P all Q Rs kl Rt al i ⟨some d, op, ty, pos, af, some (j, b)⟩ r) := VK.mk fun a w k iv o' ho => by
  rcases ho with rfl | ⟨h1, _⟩
  · exact take_by rfl (lt_of_ble hd.out) k iv (T := fun _ => True) (fun _ _ _ _ _ => trivial) (.inr ⟨wanted_no ht hl (by cases b <;> simp) k, rfl⟩) h
  · cases h1
theorem v_gNoTT {i : Nat} {r : Pl} {d : Nat} {op : Op} {ty : TypeId} {pos : String} {af : Array Edge} {j t : Nat} {al : Bool} (ht : (all[j]?).bind (·.dst) = some t) [hl : Lk L t (.bool false)] [hd : Is (Nat.ble n d = false)] [hq : QP Q d]
    (h : VK C R n ((d, undef) :: L) Γ (KA P all Q Rs kl Rt al r)) : VK C R n L Γ (KT P all Q Rs kl Rt al i ⟨some d, op, ty, pos, af, some (j, true)⟩ r) := v_gNoT (b := true) ht h
theorem v_gNoTF {i : Nat} {r : Pl} {d : Nat} {op : Op} {ty : TypeId} {pos : String} {af : Array Edge} {j t : Nat} {al : Bool} (ht : (all[j]?).bind (·.dst) = some t) [hl : Lk L t (.bool true)] [hd : Is (Nat.ble n d = false)] [hq : QP Q d]
    (h : VK C R n ((d, undef) :: L) Γ (KA P all Q Rs kl Rt al r)) : VK C R n L Γ (KT P all Q Rs kl Rt al i ⟨some d, op, ty, pos, af, some (j, false)⟩ r) := v_gNoT (b := false) ht h
theorem v_gUnT {i : Nat} {r : Pl} {d : Nat} {op : Op} {ty : TypeId} {pos : String} {af : Array Edge} {j t : Nat} {b al : Bool} (ht : (all[j]?).bind (·.dst) = some t) [hl : Lk L t undef] [hd : Is (Nat.ble n d = false)] [hq : QP Q d]
    (h : VK C R n ((d, undef) :: L) Γ (KA P all Q Rs kl Rt al r)) : VK C R n L Γ (KT P all Q Rs kl Rt al i ⟨some d, op, ty, pos, af, some (j, b)⟩ r) := VK.mk fun a w k iv o' ho => by
  rcases ho with rfl | ⟨h1, _⟩
  · exact take_by rfl (lt_of_ble hd.out) k iv (T := fun _ => True) (fun _ _ _ _ _ => trivial) (.inr ⟨wanted_un ht hl k, rfl⟩) h
  · cases h1
theorem v_gNoD {i : Nat} {r : Pl} {d : Nat} {op : Op} {ty : TypeId} {pos : String} {af : Array Edge} {j t : Nat} {b al : Bool} (ht : (all[j]?).bind (·.dst) = some t) [hl : Lk L t (.bool (!b))] [hd : Is (Nat.ble n d = false)]
    (h : VK C R n ((d, undef) :: L) Γ (KS P all Q Rs kl Rt al i r)) : VK C R n L Γ (KD P all Q Rs kl Rt al i ⟨some d, op, ty, pos, af, some (j, b)⟩ r) := VK.mk fun a w k iv o' ho => by
  rcases ho with rfl | ⟨h1, _⟩
  · exact fd_skip rfl (lt_of_ble hd.out) k iv (wanted_no ht hl (by cases b <;> simp) k) h
  · cases h1
theorem v_gNoDT {i : Nat} {r : Pl} {d : Nat} {op : Op} {ty : TypeId} {pos : String} {af : Array Edge} {j t : Nat} {al : Bool} (ht : (all[j]?).bind (·.dst) = some t) [hl : Lk L t (.bool false)] [hd : Is (Nat.ble n d = false)]
    (h : VK C R n ((d, undef) :: L) Γ (KS P all Q Rs kl Rt al i r)) : VK C R n L Γ (KD P all Q Rs kl Rt al i ⟨some d, op, ty, pos, af, some (j, true)⟩ r) := v_gNoD (b := true) ht h
theorem v_gNoDF {i : Nat} {r : Pl} {d : Nat} {op : Op} {ty : TypeId} {pos : String} {af : Array Edge} {j t : Nat} {al : Bool} (ht : (all[j]?).bind (·.dst) = some t) [hl : Lk L t (.bool true)] [hd : Is (Nat.ble n d = false)]
    (h : VK C R n ((d, undef) :: L) Γ (KS P all Q Rs kl Rt al i r)) : VK C R n L Γ (KD P all Q Rs kl Rt al i ⟨some d, op, ty, pos, af, some (j, false)⟩ r) := v_gNoD (b := false) ht h
theorem v_gUnD {i : Nat} {r : Pl} {d : Nat} {op : Op} {ty : TypeId} {pos : String} {af : Array Edge} {j t : Nat} {b al : Bool} (ht : (all[j]?).bind (·.dst) = some t) [hl : Lk L t undef] [hd : Is (Nat.ble n d = false)]
    (h : VK C R n ((d, undef) :: L) Γ (KS P all Q Rs kl Rt al i r)) : VK C R n L Γ (KD P all Q Rs kl Rt al i ⟨some d, op, ty, pos, af, some (j, b)⟩ r) := VK.mk fun a w k iv o' ho => by
  rcases ho with rfl | ⟨h1, _⟩
  · exact fd_skip rfl (lt_of_ble hd.out) k iv (wanted_un ht hl k) h
  · cases h1
/-- a guard that isn't known yet: both ways -/
theorem v_gSplit {F : Oper → Act → World → Prop} {o : Oper} {j t : Nat} {b : Bool} {p : Prop} [Decidable p] (_hg : o.guard = some (j, b)) (_ht : (all[j]?).bind (·.dst) = some t) [hl : Lk L t (.bool (decide p))]
    (h1 : p → VK C R n ((t, .bool true) :: L) Γ (KG all F o)) (h2 : ¬ p → VK C R n ((t, .bool false) :: L) Γ (KG all F o)) : VK C R n L Γ (KG all F o) := VK.mk fun a w k i => by
  by_cases hp : p
  · exact (h1 hp).out a w (k.know hl (by simp [hp])) i
  · exact (h2 hp).out a w (k.know hl (by simp [hp])) i
theorem v_gSplitB {F : Oper → Act → World → Prop} {o : Oper} {j t : Nat} {b c : Bool} (_hg : o.guard = some (j, b)) (_ht : (all[j]?).bind (·.dst) = some t) [hl : Lk L t (.bool c)]
    (h1 : c = true → VK C R n ((t, .bool true) :: L) Γ (KG all F o)) (h2 : c = false → VK C R n ((t, .bool false) :: L) Γ (KG all F o)) : VK C R n L Γ (KG all F o) := VK.mk fun a w k i => by
  cases c with
  | true => exact (h1 rfl).out a w (k.know hl rfl) i
  | false => exact (h2 rfl).out a w (k.know hl rfl) i
theorem v_gPickD {F : Oper → Act → World → Prop} {d t : Nat} {ty : TypeId} {x y : Operand} {p : Prop} [Decidable p] {pos : String} {af : Array Edge} [hl : Lk L t (.bool (decide p))]
    (h1 : p → VK C R n ((t, .bool true) :: L) Γ (KG all F ⟨some d, .pick (.tmp t) x y, ty, pos, af, none⟩)) (h2 : ¬ p → VK C R n ((t, .bool false) :: L) Γ (KG all F ⟨some d, .pick (.tmp t) x y, ty, pos, af, none⟩)) : VK C R n L Γ (KG all F ⟨some d, .pick (.tmp t) x y, ty, pos, af, none⟩) := VK.mk fun a w k i => by
  by_cases hp : p
  · exact (h1 hp).out a w (k.know hl (by simp [hp])) i
  · exact (h2 hp).out a w (k.know hl (by simp [hp])) i
theorem stab_inv {w : World} (h : Stab Rs w) : Inv ⟨[], w, false⟩ Rs [] w where
  dr := fun e => by cases e
  os := rfl
  tape := rfl
  output := rfl
  size := Nat.le_refl _
  ro := h
  own := by intro x hx; cases hx
  nodup := List.nodup_nil
  apart := by intro b hb; cases hb
  may := by intro b hb; cases hb
  frame := fun _ _ _ => rfl
theorem same_wanted {a : Act} {o o' : Oper} (hg : o.guard = none) (ho : o' = o ∨ (o.guard = none ∧ ∃ g, o' = { o with guard := g } ∧ Region.wanted o' (yielded all a.tmps) = true)) : Region.wanted o' (yielded all a.tmps) = true ∧ o'.dst = o.dst ∧ ∀ w, (execOp a.eval o').run P w = (execOp a.eval o).run P w := by
  rcases ho with rfl | ⟨_, g, rfl, hw⟩
  · exact ⟨by simp [Region.wanted, hg], rfl, fun _ => rfl⟩
  · exact ⟨hw, rfl, fun _ => rfl⟩
/-- taken first: what it gives stands in the slots and in the stable blocks -/
theorem v_tBy {i : Nat} {r : Pl} {d : Nat} {op : Op} {ty : TypeId} {pos : String} {af : Array Edge} {v : Value} {al : Bool} (hy : Y P Rs L [] op v) [hq : QP Q d] [hd : Is (Nat.ble n d = false)] (h : VK C R n ((d, v) :: L) Γ (KA P all Q Rs kl Rt al r)) :
    VK C R n L Γ (KT P all Q Rs kl Rt al i ⟨some d, op, ty, pos, af, none⟩ r) := VK.mk fun a w k iv o' ho => by
  obtain ⟨hw, hdd, he⟩ := same_wanted (P := P) rfl ho
  exact take_by hdd (lt_of_ble hd.out) k iv (T := Stab Rs) (fun _ _ _ _ h => h.1) (.inl ⟨hw, fun w hS => (he w).trans (hy.out ⟨[], w, false⟩ n a w _ _ _ _ _ k (stab_inv hS))⟩) h
theorem v_tVal {i : Nat} {r : Pl} {d : Nat} {op : Op} {ty : TypeId} {pos : String} {af : Array Edge} {v : Value} {al : Bool} [hy : Y P Rs L [] op v] [hq : QP Q d] [hd : Is (Nat.ble n d = false)] (h : VK C R n ((d, v) :: L) Γ (KA P all Q Rs kl Rt al r)) :
    VK C R n L Γ (KT P all Q Rs kl Rt al i ⟨some d, op, ty, pos, af, none⟩ r) := v_tBy hy h
/-- .. or in those that are stable till kl, which waits for it -/
def waitsFor (all : Array Oper) (kl i : Nat) : Bool := match all[kl]? with
  | some o => o.after.any fun e => Region.binds .any e && e.on == i
  | none => false
theorem v_tByT {i : Nat} {r : Pl} {d : Nat} {op : Op} {ty : TypeId} {pos : String} {af : Array Edge} {v : Value} (hy : Y P Rt L [] op v) (hk : waitsFor all kl i = true) [hq : QP Q d] [hd : Is (Nat.ble n d = false)] (h : VK C R n ((d, v) :: L) Γ (KA P all Q Rs kl Rt true r)) :
    VK C R n L Γ (KT P all Q Rs kl Rt true i ⟨some d, op, ty, pos, af, none⟩ r) := VK.mk fun a w k iv o' ho => by
  obtain ⟨hw, hdd, he⟩ := same_wanted (P := P) rfl ho
  refine take_by hdd (lt_of_ble hd.out) k iv (T := Stab Rt) (fun ls' w hc hi hS => hS.2 ?_) (.inl ⟨hw, fun w hS => (he w).trans (hy.out ⟨[], w, false⟩ n a w _ _ _ _ _ k (stab_inv hS))⟩) h
  cases hkl : ls'.getD kl false with
  | false => rfl
  | true =>
    unfold waitsFor at hk
    cases ho : all[kl]? with
    | none => rw [ho] at hk; cases hk
    | some ok =>
      rw [ho] at hk
      obtain ⟨e, he, hb⟩ := Array.any_eq_true'.1 hk
      simp only [Bool.and_eq_true, beq_iff_eq] at hb
      have := hc kl ok ho hkl e he hb.1
      rw [hb.2, hi] at this
      cases this
theorem v_tValT {i : Nat} {r : Pl} {d : Nat} {op : Op} {ty : TypeId} {pos : String} {af : Array Edge} {v : Value} (hk : waitsFor all kl i = true) [hy : Y P Rt L [] op v] [hq : QP Q d] [hd : Is (Nat.ble n d = false)] (h : VK C R n ((d, v) :: L) Γ (KA P all Q Rs kl Rt true r)) :
    VK C R n L Γ (KT P all Q Rs kl Rt true i ⟨some d, op, ty, pos, af, none⟩ r) := v_tByT hy hk h
theorem v_do {i : Nat} {r : Pl} {dst : Option Tmp} {op : Op} {ty : TypeId} {pos : String} {af : Array Edge} {al : Bool} (h : VK C R n L Γ (wp1 P all Q ⟨dst, op, ty, pos, af, none⟩ (KS P all Q Rs kl Rt al i r))) :
    VK C R n L Γ (KD P all Q Rs kl Rt al i ⟨dst, op, ty, pos, af, none⟩ r) := VK.mk fun a w k iv o' ho hi hn fuel ls hok hc hz hb hS => by
  have hw : Region.wanted o' (yielded all a.tmps) = true := by
    rcases ho with rfl | ⟨_, g, rfl, hw⟩
    · rfl
    · exact hw
  have h1 := wp1.out (h.out a w k iv)
  unfold wpOp
  simp only [hi, hw, if_true]
  have h2 : (Oper.wp P ⟨dst, op, ty, pos, af, none⟩ a w (KS P all Q Rs kl Rt al i r) Q ∨ (Oper.asks P ⟨dst, op, ty, pos, af, none⟩ a w ∧ LetsOut Q)) := by
    simpa only [Region.wanted, if_true] using h1
  have h3 : o'.wp P a w (KS P all Q Rs kl Rt al i r) Q ∨ (o'.asks P a w ∧ LetsOut Q) := by
    rcases ho with rfl | ⟨_, g, rfl, hw⟩
    · exact h2
    · exact h2
  have hil : i < ls.size := hz ▸ (Array.getElem?_eq_some_iff.1 hi).1
  refine h3.imp (Oper.wp_mono fun a' w' hk => ?_) id
  obtain ⟨k1, k2, k3⟩ := hk
  have hS' : Std Rs kl Rt (ls.setIfInBounds i true) w' := ⟨k1, fun e => by
    cases al with
    | false => rw [getD_set_true (hb rfl)] at e; cases e
    | true => exact k2 rfl (fun e2 => by subst e2; simp [hil] at e)⟩
  exact ⟨hS', k3 hn _ _ hok hc (by simpa using hz) (fun e => by
    cases al with
    | false => exact getD_set_true (hb rfl)
    | true =>
      simp at e
      subst e
      simp [hil]) hS'⟩
/-- what an operation gives that leaves the memory as it is -/
theorem v_1by {K : Act → World → Prop} {d : Nat} {op : Op} {ty : TypeId} {pos : String} {af : Array Edge} {v : Value} (hy : Y P R L Γ op v) [hd : Is (Nat.ble n d = false)] (h : VK C R n ((d, v) :: L) Γ K) :
    VK C R n L Γ (wp1 P all Q ⟨some d, op, ty, pos, af, none⟩ K) := VK.mk fun a w k i => wp1.mk (by
  simp only [Region.wanted, if_true]
  refine .inl ?_
  simp only [Oper.wp, hy.out C n a w _ _ _ _ _ k i, Oper.upon]
  exact h.out _ _ (k.put (lt_of_ble hd.out)) i)
theorem v_1val {K : Act → World → Prop} {d : Nat} {op : Op} {ty : TypeId} {pos : String} {af : Array Edge} {v : Value} [hy : Y P R L Γ op v] [hd : Is (Nat.ble n d = false)] (h : VK C R n ((d, v) :: L) Γ K) :
    VK C R n L Γ (wp1 P all Q ⟨some d, op, ty, pos, af, none⟩ K) := v_1by hy h
theorem v_stabA {i : Nat} {r : Pl} (hb : Nat.beq i kl = false) [hs : Sub Rs R Γ] [ht : Sub Rt R Γ] (h : VK C R n L Γ (KA P all Q Rs kl Rt true r)) : VK C R n L Γ (KS P all Q Rs kl Rt true i r) := VK.mk fun a w k v =>
  ⟨fun x hx => (hs.out x hx).elim (v.ro x) (v.own x), fun _ _ x hx => (ht.out x hx).elim (v.ro x) (v.own x), by rw [hb]; exact h.out a w k v⟩
theorem v_stabK {i : Nat} {r : Pl} (hb : Nat.beq i kl = true) [hs : Sub Rs R Γ] (h : VK C R n L Γ (KA P all Q Rs kl Rt false r)) : VK C R n L Γ (KS P all Q Rs kl Rt true i r) := VK.mk fun a w k v =>
  ⟨fun x hx => (hs.out x hx).elim (v.ro x) (v.own x), fun _ e => absurd (Nat.eq_of_beq_eq_true hb) e, by rw [hb]; exact h.out a w k v⟩
theorem v_stabD {i : Nat} {r : Pl} [hs : Sub Rs R Γ] (h : VK C R n L Γ (KA P all Q Rs kl Rt false r)) : VK C R n L Γ (KS P all Q Rs kl Rt false i r) := VK.mk fun a w k v =>
  ⟨fun x hx => (hs.out x hx).elim (v.ro x) (v.own x), fun e => (by cases e), h.out a w k v⟩
end
attribute [irreducible] KA KS FT FD KG Pl.ok
end Go.SX

/- Symbolic execution: maps. -/
namespace Go.SX
set_option linter.unusedSimpArgs false
set_option linter.unusedVariables false
open Go Go.MapKept

/-! ### maps as lists of pairs, in the order in which the keys came -/
theorem eraseIdx_map' {α β : Type} (f : α → β) : ∀ (l : List α) (j : Nat), (l.map f).eraseIdx j = (l.eraseIdx j).map f
  | [], _ => rfl
  | _ :: _, 0 => rfl
  | x :: l, j + 1 => by simp [eraseIdx_map' f l j]
section
variable {α β : Type} [DecidableEq α]
def mget : List (α × β) → α → Option β
  | [], _ => none
  | (x, v) :: r, k => if k = x then some v else mget r k
def mput : List (α × β) → α → β → List (α × β)
  | [], k, v => [(k, v)]
  | (x, u) :: r, k, v => if k = x then (k, v) :: r else (x, u) :: mput r k v
def mdel (m : List (α × β)) (k : α) : List (α × β) := m.filter fun p => decide (p.1 ≠ k)
theorem mget_mput (m : List (α × β)) (k j : α) (v : β) : mget (mput m k v) j = if j = k then some v else mget m j := by
  induction m with
  | nil => simp [mput, mget]
  | cons p r ih =>
    obtain ⟨x, u⟩ := p
    by_cases h : k = x
    · subst h
      by_cases h2 : j = k
      · simp [mput, mget, h2]
      · simp [mput, mget, h2]
    · by_cases h2 : j = x
      · subst h2
        have : ¬ j = k := fun e => h e.symm
        simp [mput, mget, h, this]
      · simp [mput, mget, h, h2, ih]
theorem mget_mdel (m : List (α × β)) (k j : α) : mget (mdel m k) j = if j = k then none else mget m j := by
  induction m with
  | nil => simp [mdel, mget]
  | cons p r ih =>
    obtain ⟨x, u⟩ := p
    unfold mdel at ih ⊢
    by_cases h : x = k
    · subst h
      by_cases h2 : j = x
      · simp [h2] at ih ⊢; exact ih
      · simp [h2, mget] at ih ⊢; exact ih
    · by_cases h2 : j = x
      · subst h2; simp [h, mget]
      · simp [h, h2, mget] at ih ⊢; exact ih
theorem mget_none {m : List (α × β)} {k : α} : mget m k = none ↔ k ∉ m.map (·.1) := by
  induction m with
  | nil => simp [mget]
  | cons p r ih =>
    obtain ⟨x, u⟩ := p
    by_cases h : k = x
    · simp [mget, h]
    · simp [mget, h, ih]
theorem mput_keys {m : List (α × β)} {k : α} {v : β} (h : k ∈ m.map (·.1)) : (mput m k v).map (·.1) = m.map (·.1) := by
  induction m with
  | nil => simp at h
  | cons p r ih =>
    obtain ⟨x, u⟩ := p
    by_cases e : k = x
    · simp [mput, e]
    · have : k ∈ r.map (·.1) := by simpa [e] using h
      simp [mput, e, ih this]
theorem mput_new {m : List (α × β)} {k : α} {v : β} (h : k ∉ m.map (·.1)) : mput m k v = m ++ [(k, v)] := by
  induction m with
  | nil => rfl
  | cons p r ih =>
    obtain ⟨x, u⟩ := p
    have h1 : ¬ k = x := fun e => h (by simp [e])
    have h2 : k ∉ r.map (·.1) := fun e => h (by simp only [List.map_cons, List.mem_cons]; exact .inr e)
    simp [mput, h1, ih h2]
theorem mput_nodup {m : List (α × β)} {k : α} {v : β} (h : (m.map (·.1)).Nodup) : ((mput m k v).map (·.1)).Nodup := by
  by_cases hk : k ∈ m.map (·.1)
  · rw [mput_keys hk]; exact h
  · rw [mput_new hk]
    simp only [List.map_append, List.map_cons, List.map_nil]
    rw [List.nodup_append]
    exact ⟨h, by simp, fun a ha b hb => by simp at hb; subst hb; exact fun e => hk (e ▸ ha)⟩
theorem mdel_nodup {m : List (α × β)} {k : α} (h : (m.map (·.1)).Nodup) : ((mdel m k).map (·.1)).Nodup := h.sublist (List.filter_sublist.map _)
theorem mdel_none {m : List (α × β)} {k : α} (h : k ∉ m.map (·.1)) : mdel m k = m := by
  unfold mdel
  rw [List.filter_eq_self]
  intro p hp
  simp only [ne_eq, decide_eq_true_eq]
  exact fun e => h (List.mem_map.2 ⟨p, hp, e⟩)
theorem mdel_erase {k : α} : ∀ {m : List (α × β)} {j : Nat}, (m.map (·.1)).Nodup → (m.map (·.1))[j]? = some k → mdel m k = m.eraseIdx j
  | [], j, _, h => by simp at h
  | p :: r, 0, hn, h => by
    simp only [List.map_cons, List.getElem?_cons_zero, Option.some.injEq] at h
    simp only [List.map_cons, List.nodup_cons, h] at hn
    have := mdel_none (m := r) (k := k) hn.1
    unfold mdel at this ⊢
    rw [List.filter_cons_of_neg (by simp [h]), this]
    rfl
  | p :: r, j + 1, hn, h => by
    simp only [List.map_cons, List.getElem?_cons_succ] at h
    simp only [List.map_cons, List.nodup_cons] at hn
    have hp : p.1 ≠ k := fun e => hn.1 (e ▸ List.mem_of_getElem? h)
    have := mdel_erase hn.2 h
    unfold mdel at this ⊢
    rw [List.filter_cons_of_pos (by simp [hp]), this]
    rfl
/-- where a key stands -/
def findE (k : α) : List α → List MapEntry → Nat → Option (Nat × Value)
  | x :: xs, e :: es, i => if k = x then some (i, e.val) else findE k xs es (i + 1)
  | _, _, _ => none
end

/-- keys of type kt, as α -/
class KeyT (P : Program) (kt : TypeId) (α : Type) [DecidableEq α] (kv : outParam (α → Value)) : Prop where
  chk : ∀ e x w, (Instr.checkKey e 10000 kt (kv x)).run P w = .ok () w
  same : ∀ x, Instr.sameBits 10000 (kv x) (kv x) = true
  find : ∀ k (ks : List α) (es : List MapEntry) w, es.map (·.key) = ks.map kv → (Instr.findKey kt (kv k) es).run P w = .ok (findE k ks es 0) w

theorem KeyT.int {P : Program} {kt : TypeId} {q : IntKind} (hu : P.underlying kt = some (.int q)) : KeyT P kt Int (fun x => .int q x) where
  chk e x w := by
    show (Instr.checkKey e (9999 + 1) kt (.int q x)).run P w = _
    rw [Instr.checkKey]
    simp [run_underlying hu]
  same x := by
    show Instr.sameBits (9999 + 1) (.int q x) (.int q x) = true
    rw [Instr.sameBits]
    simp
  find k ks es w h := by
    have key : ∀ (ks : List Int) (es : List MapEntry) (i : Nat), es.map (·.key) = ks.map (fun x => Value.int q x) → Instr.findNow (.int q) (.int q k) es i = some (findE k ks es i) := by
      intro ks
      induction ks with
      | nil => intro es i h; cases es with
        | nil => rfl
        | cons => simp at h
      | cons x xs ih => intro es i h; cases es with
        | nil => simp at h
        | cons e es =>
          simp only [List.map_cons, List.cons.injEq] at h
          by_cases hx : k = x
          · subst hx; simp [Instr.findNow, Instr.sameNow, h.1, findE]
          · have hb : (k == x) = false := by simpa using hx
            simp [Instr.findNow, Instr.sameNow, h.1, findE, hx, hb, ih es (i + 1) h.2]
    exact run_findKey hu (key ks es 0 h)
theorem KeyT.agg {P : Program} {kt : TypeId} {α : Type} [DecidableEq α] {fs : Array Field} {kv : α → Value} (hu : P.underlying kt = some (.struct fs)) (hv : ∀ x, ∃ cs, kv x = .agg cs)
    (chk : ∀ e x w, (Instr.checkKey e 10000 kt (kv x)).run P w = .ok () w) (same : ∀ x, Instr.sameBits 10000 (kv x) (kv x) = true) (eq : ∀ x y w, (Op.equal kt (kv x) (kv y)).run P w = .ok (decide (x = y)) w) : KeyT P kt α kv where
  chk := chk
  same := same
  find k ks es w h := by
    have key : ∀ (ks : List α) (es : List MapEntry) (i : Nat) w, es.map (·.key) = ks.map kv → (Instr.findAsking kt (kv k) es i).run P w = .ok (findE k ks es i) w := by
      intro ks
      induction ks with
      | nil => intro es i w h; cases es with
        | nil => rfl
        | cons => simp at h
      | cons x xs ih => intro es i w h; cases es with
        | nil => simp at h
        | cons e es =>
          simp only [List.map_cons, List.cons.injEq] at h
          by_cases hx : k = x
          · simp [Instr.findAsking, h.1, eq, findE, hx]
          · simp [Instr.findAsking, h.1, eq, findE, hx, ih es (i + 1) w h.2]
    cases es with
    | nil =>
      cases ks with
      | nil => simp [Instr.findKey, run_underlying hu, Instr.findNow, findE]
      | cons => simp at h
    | cons e es =>
      have hn : Instr.findNow (.struct fs) (kv k) (e :: es) 0 = none := by
        obtain ⟨cs, hc⟩ := hv k
        simp [Instr.findNow, Instr.sameNow]
      simp [Instr.findKey, run_underlying hu, hn, key ks (e :: es) 0 w h]

/-- block b is a map; m are its pairs -/
def MpAt {α β : Type} (kv : α → Value) (vv : β → Value) (b : Nat) (m : List (α × β)) (s : Hp) : Prop :=
  ∃ es clk, s = [(b, .map es clk)] ∧ es.toList.map (·.key) = m.map (fun p => kv p.1) ∧ es.toList.map (·.val) = m.map (fun p => vv p.2) ∧ (m.map (·.1)).Nodup ∧ (es.toList.map (·.born)).Pairwise (· < ·) ∧ (∀ e ∈ es.toList, e.born < clk)
theorem MpAt.new {α β : Type} {kv : α → Value} {vv : β → Value} (b : Nat) : MpAt kv vv b [] [(b, .map #[] 0)] := ⟨#[], 0, rfl, by simp, by simp, by simp, by simp, by simp⟩

theorem findE_spec {α β : Type} [DecidableEq α] {vv : β → Value} {k : α} : ∀ (m : List (α × β)) (es : List MapEntry) (i : Nat), es.map (·.val) = m.map (fun p => vv p.2) →
    (∀ v, mget m k = some v → ∃ j, findE k (m.map (·.1)) es i = some (i + j, vv v) ∧ (m.map (·.1))[j]? = some k ∧ mput m k = fun u => m.set j (k, u)) ∧ (mget m k = none → findE k (m.map (·.1)) es i = none) := by
  intro m
  induction m with
  | nil => intro es i h; exact ⟨fun v hv => by simp [mget] at hv, fun _ => by cases es <;> rfl⟩
  | cons p r ih =>
    intro es i h
    obtain ⟨x, u⟩ := p
    cases es with
    | nil => simp at h
    | cons e es =>
      simp only [List.map_cons, List.cons.injEq] at h
      by_cases hx : k = x
      · subst hx
        refine ⟨fun v hv => ⟨0, ?_, by simp, by funext u; simp [mput]⟩, fun hv => by simp [mget] at hv⟩
        simp [mget] at hv
        simp [findE, h.1, hv]
      · obtain ⟨h1, h2⟩ := ih es (i + 1) h.2
        refine ⟨fun v hv => ?_, fun hv => ?_⟩
        · simp [mget, hx] at hv
          obtain ⟨j, hj, hk, hp⟩ := h1 v hv
          refine ⟨j + 1, ?_, by simpa using hk, by funext u; simp [mput, hx, hp]⟩
          simp only [List.map_cons, findE, if_neg hx, hj]
          congr 2; omega
        · simp [mget, hx] at hv
          simp [findE, hx, h2 hv]

section
variable {P : Program} {C : Cx} {R : List Hp} {n : Nat} {all : Array Oper} {Q : Exit → Act → World → Prop} {L : Env} {Γ : List Hp} {rest : List Oper} {w : World} {α β : Type} [DecidableEq α] {kv : α → Value} {vv : β → Value}
theorem v_makeMap {K : Act → World → Prop} {d t : Nat} {ty : TypeId} {pos : String} {af : Array Edge} [hd : Is (Nat.ble n d = false)]
    (h : ∀ b, VK C R n ((d, .map (some b)) :: L) ([(b, .map #[] 0)] :: Γ) K) : VK C R n L Γ (wp1 P all Q ⟨some d, .makeMap t none, ty, pos, af, none⟩ K) := VK.mk fun a w k i => wp1.mk (by
  have hd' : d < n := lt_of_ble hd.out
  simp only [Region.wanted, if_true]
  refine .inl ?_
  have : (execOp a.eval ⟨some d, .makeMap t none, ty, pos, af, none⟩).run P w = .ok (.value (.map (some w.heap.size))) (w.alloc (.map #[] 0)) := by
    simp [execOp, Go.RowKit.run_makeMap]
  simp only [Oper.wp, this, Oper.upon]
  exact (h _).out _ _ (k.put hd') (i.new _))
theorem run_find {kt : TypeId} [hk : KeyT P kt α kv] {m : List (α × β)} {es : Array MapEntry} (hkey : es.toList.map (·.key) = m.map (fun p => kv p.1)) (k : α) (w : World) : (Instr.findKey kt (kv k) es.toList).run P w = .ok (findE k (m.map (·.1)) es.toList 0) w :=
  hk.find k _ _ w (by rw [hkey, List.map_map]; rfl)
theorem y_lookupS {T kt et b : Nat} {x ix : Operand} {k : α} {v : β} {m : List (α × β)} {s : Hp} [hx : Ev L x (.map (some b))] [hi : Ev L ix (kv k)] [ht : Und P T (.map kt et)] [hk : KeyT P kt α kv] (hm : MpAt kv vv b m s) [hs : Seg R Γ s] (hg : mget m k = some v) :
    Y P R L Γ (.lookup T x ix true) (.tuple #[vv v, .bool true]) := ⟨fun C n a w _ _ _ _ _ kn i => by
  obtain ⟨es, clk, rfl, h1, h2, h3, h4, h5⟩ := hm
  have hb := hs.out C w i (b, .map es clk) (by simp)
  obtain ⟨j, hj, _⟩ := (findE_spec (vv := vv) m es.toList 0 h2).1 v hg
  have hf := run_find (P := P) (kt := kt) h1 k w
  rw [hj] at hf
  simp [execOp, Instr.lookup, hx.out n a kn, hi.out n a kn, run_underlying ht.out, MapKept.run_getObj_map hb, hk.chk, hf]⟩
theorem y_lookupN {T kt et b : Nat} {x ix : Operand} {k : α} {z : Value} {m : List (α × β)} {s : Hp} [hx : Ev L x (.map (some b))] [hi : Ev L ix (kv k)] [ht : Und P T (.map kt et)] [hk : KeyT P kt α kv] [hz : Zr P et z] (hm : MpAt kv vv b m s) [hs : Seg R Γ s] (hg : mget m k = none) :
    Y P R L Γ (.lookup T x ix true) (.tuple #[z, .bool false]) := ⟨fun C n a w _ _ _ _ _ kn i => by
  obtain ⟨es, clk, rfl, h1, h2, h3, h4, h5⟩ := hm
  have hb := hs.out C w i (b, .map es clk) (by simp)
  have hj := (findE_spec (vv := vv) m es.toList 0 h2).2 hg
  have hf := run_find (P := P) (kt := kt) h1 k w
  rw [hj] at hf
  simp [execOp, Instr.lookup, hx.out n a kn, hi.out n a kn, run_underlying ht.out, MapKept.run_getObj_map hb, hk.chk, hf, hz.out]⟩
theorem y_lookS {T kt et b : Nat} {x ix : Operand} {k : α} {v : β} {m : List (α × β)} {s : Hp} [hx : Ev L x (.map (some b))] [hi : Ev L ix (kv k)] [ht : Und P T (.map kt et)] [hk : KeyT P kt α kv] (hm : MpAt kv vv b m s) [hs : Seg R Γ s] (hg : mget m k = some v) :
    Y P R L Γ (.lookup T x ix false) (vv v) := ⟨fun C n a w _ _ _ _ _ kn i => by
  obtain ⟨es, clk, rfl, h1, h2, h3, h4, h5⟩ := hm
  have hb := hs.out C w i (b, .map es clk) (by simp)
  obtain ⟨j, hj, _⟩ := (findE_spec (vv := vv) m es.toList 0 h2).1 v hg
  have hf := run_find (P := P) (kt := kt) h1 k w
  rw [hj] at hf
  simp [execOp, Instr.lookup, hx.out n a kn, hi.out n a kn, run_underlying ht.out, MapKept.run_getObj_map hb, hk.chk, hf]⟩
theorem y_lookN {T kt et b : Nat} {x ix : Operand} {k : α} {z : Value} {m : List (α × β)} {s : Hp} [hx : Ev L x (.map (some b))] [hi : Ev L ix (kv k)] [ht : Und P T (.map kt et)] [hk : KeyT P kt α kv] [hz : Zr P et z] (hm : MpAt kv vv b m s) [hs : Seg R Γ s] (hg : mget m k = none) :
    Y P R L Γ (.lookup T x ix false) z := ⟨fun C n a w _ _ _ _ _ kn i => by
  obtain ⟨es, clk, rfl, h1, h2, h3, h4, h5⟩ := hm
  have hb := hs.out C w i (b, .map es clk) (by simp)
  have hj := (findE_spec (vv := vv) m es.toList 0 h2).2 hg
  have hf := run_find (P := P) (kt := kt) h1 k w
  rw [hj] at hf
  simp [execOp, Instr.lookup, hx.out n a kn, hi.out n a kn, run_underlying ht.out, MapKept.run_getObj_map hb, hk.chk, hf, hz.out]⟩
omit [DecidableEq α] in
theorem y_mlen {T kt et b : Nat} {x : Operand} {m : List (α × β)} {s : Hp} [hx : Ev L x (.map (some b))] [ht : Und P T (.map kt et)] (hm : MpAt kv vv b m s) [hs : Seg R Γ s] :
    Y P R L Γ (.call ⟨.builtin .len, #[x], #[T]⟩) (.int .i64 m.length) := ⟨fun C n a w _ _ _ _ _ kn i => by
  obtain ⟨es, clk, rfl, h1, h2, h3, h4, h5⟩ := hm
  have hb := hs.out C w i (b, .map es clk) (by simp)
  have hl : es.size = m.length := by have := congrArg List.length h1; simpa using this
  simp [execOp, resolve, invoke, builtin, Builtin.len_, hx.out n a kn, run_underlying ht.out, MapKept.run_getObj_map hb, goInt, hl]⟩
/-- what a map's block becomes -/
theorem Inv.setMap {b : Nat} {es es' : Array MapEntry} {c c' : Nat} (i : Inv C R ([(b, .map es c)] :: Γ) w) : Inv C R ([(b, .map es' c')] :: Γ) { w with heap := w.heap.setIfInBounds b (.map es' c') } := by
  have hb := i.own (b, .map es c) (by simp)
  have hlt : b < w.heap.size := (Array.getElem?_eq_some_iff.1 hb).1
  exact i.upd (updHere Γ b (.map es c)) (by simp [hlt]) (fun k hk => by simp [Array.getElem?_setIfInBounds_ne (Ne.symm hk)]) (by simp) rfl rfl rfl rfl
theorem v_mapPut {K : Act → World → Prop} {T kt et b : Nat} {x ix y : Operand} {k : α} {v : β} {m : List (α × β)} {s : Hp} {Γ' : List Hp} {ty : TypeId} {pos : String} {af : Array Edge} [hx : Ev L x (.map (some b))] [hi : Ev L ix (kv k)] [hy : Ev L y (vv v)] [ht : Und P T (.map kt et)] [hk : KeyT P kt α kv] (hm : MpAt kv vv b m s) [hdel : Del Γ s Γ']
    (h : ∀ s', MpAt kv vv b (mput m k v) s' → VK C R n L (s' :: Γ') K) : VK C R n L Γ (wp1 P all Q ⟨none, .mapUpdate T x ix y, ty, pos, af, none⟩ K) := VK.mk fun a w kn i => wp1.mk (by
  obtain ⟨es, clk, rfl, h1, h2, h3, h4, h5⟩ := hm
  have ip : Inv C R ([(b, .map es clk)] :: Γ') w := i.perm (by simpa using hdel.out)
  have hb := ip.own (b, .map es clk) (by simp)
  have hf := run_find (P := P) (kt := kt) h1 k w
  have main : ∃ es' clk', (Instr.mapUpdate T (.map (some b)) (kv k) (vv v)).run P w = .ok () { w with heap := w.heap.setIfInBounds b (.map es' clk') } ∧ MpAt kv vv b (mput m k v) [(b, .map es' clk')] := by
    have hl : es.size = m.length := by have := congrArg List.length h1; simpa using this
    cases hg : mget m k with
    | some u =>
      obtain ⟨j, hj, hkj, hp⟩ := (findE_spec (vv := vv) m es.toList 0 h2).1 u hg
      rw [hj] at hf
      simp only [Nat.zero_add] at hf
      have hkeyj : ∃ e, es[j]? = some e ∧ e.key = kv k := by
        have e1 : (es.toList.map (·.key))[j]? = some (kv k) := by
          rw [h1, show (m.map fun p => kv p.1) = (m.map (·.1)).map kv by simp, List.getElem?_map, hkj]; rfl
        rw [List.getElem?_map] at e1
        cases e : es.toList[j]? with
        | none => rw [e] at e1; cases e1
        | some e0 => rw [e] at e1; exact ⟨e0, by rw [← Array.getElem?_toList]; exact e, by simpa using e1⟩
      obtain ⟨e0, he0, hek⟩ := hkeyj
      have hjl : j < es.size := (Array.getElem?_eq_some_iff.1 he0).1
      refine ⟨es.modify j fun e => { e with key := kv k, val := vv v }, clk, ?_, _, clk, rfl, ?_, ?_, ?_, ?_, ?_⟩
      · simp [Instr.mapUpdate, run_underlying ht.out, MapKept.run_getObj_map hb, hk.chk, hf, Instr.keyThatStays, he0, hek, hk.same, MapKept.run_setObj_map _ hb]
      · have e1 : (mput m k v).map (fun p => kv p.1) = es.toList.map (·.key) := by
          rw [h1, show ((mput m k v).map fun p => kv p.1) = ((mput m k v).map (·.1)).map kv by simp, mput_keys (List.mem_of_getElem? hkj)]
          simp
        rw [e1]
        refine List.ext_getElem? fun i => ?_
        rw [Array.toList_modify, List.getElem?_map, List.getElem?_map, List.getElem?_modify]
        by_cases hij : j = i
        · subst hij
          simp [he0, hek]
        · simp [hij]
      · have e1 : (mput m k v).map (fun p => vv p.2) = (es.toList.map (·.val)).set j (vv v) := by rw [h2, hp, List.map_set]
        rw [e1]
        refine List.ext_getElem? fun i => ?_
        rw [Array.toList_modify, List.getElem?_map, List.getElem?_modify, List.getElem?_set, List.getElem?_map]
        by_cases hij : j = i
        · subst hij
          simp [hjl]
        · simp [hij]
      · exact mput_nodup h3
      · have e1 : (es.modify j fun e => { e with key := kv k, val := vv v }).toList.map (·.born) = es.toList.map (·.born) := by
          refine List.ext_getElem? fun i => ?_
          rw [Array.toList_modify, List.getElem?_map, List.getElem?_map, List.getElem?_modify]
          by_cases hij : j = i
          · subst hij
            simp [hjl]
          · simp [hij]
        rw [e1]; exact h4
      · intro e he
        obtain ⟨i, hi, rfl⟩ := List.getElem_of_mem he
        have hi' : i < es.size := by simpa using hi
        have := h5 es[i] (by simp)
        simp only [Array.getElem_toList, Array.getElem_modify]
        split
        · exact this
        · exact this
    | none =>
      have hj := (findE_spec (vv := vv) m es.toList 0 h2).2 hg
      rw [hj] at hf
      have hnk := mget_none.1 hg
      refine ⟨es.push { key := kv k, val := vv v, born := clk }, clk + 1, ?_, _, clk + 1, rfl, ?_, ?_, ?_, ?_, ?_⟩
      · simp [Instr.mapUpdate, run_underlying ht.out, MapKept.run_getObj_map hb, hk.chk, hf, MapKept.run_setObj_map _ hb]
      · rw [mput_new hnk]; simp [h1]
      · rw [mput_new hnk]; simp [h2]
      · exact mput_nodup h3
      · simp only [Array.toList_push, List.map_append, List.map_cons, List.map_nil]
        rw [List.pairwise_append]
        refine ⟨h4, by simp, fun x hx y hy => ?_⟩
        simp at hy; subst hy
        obtain ⟨e, he, rfl⟩ := List.mem_map.1 hx
        exact h5 e he
      · intro e he
        simp only [Array.toList_push, List.mem_append, List.mem_singleton] at he
        rcases he with he | rfl
        · exact Nat.lt_succ_of_lt (h5 e he)
        · exact Nat.lt_succ_self _
  obtain ⟨es', clk', hr, hm'⟩ := main
  have hrun : (execOp a.eval ⟨none, .mapUpdate T x ix y, ty, pos, af, none⟩).run P w = .ok .skip { w with heap := w.heap.setIfInBounds b (.map es' clk') } := by
    simp [execOp, hx.out n a kn, hi.out n a kn, hy.out n a kn, hr]
  simp only [Region.wanted, if_true]
  refine .inl ?_
  simp only [Oper.wp, hrun, Oper.upon]
  exact (h _ hm').out _ _ kn.putNone (ip.setMap))
theorem v_mapDel {K : Act → World → Prop} {T T2 kt et b : Nat} {x ix : Operand} {k : α} {m : List (α × β)} {s : Hp} {Γ' : List Hp} {ty : TypeId} {pos : String} {af : Array Edge} [hx : Ev L x (.map (some b))] [hi : Ev L ix (kv k)] [ht : Und P T (.map kt et)] [hk : KeyT P kt α kv] (hm : MpAt kv vv b m s) [hdel : Del Γ s Γ']
    (h : ∀ s', MpAt kv vv b (mdel m k) s' → VK C R n L (s' :: Γ') K) : VK C R n L Γ (wp1 P all Q ⟨none, .call ⟨.builtin .delete, #[x, ix], #[T, T2]⟩, ty, pos, af, none⟩ K) := VK.mk fun a w kn i => wp1.mk (by
  obtain ⟨es, clk, rfl, h1, h2, h3, h4, h5⟩ := hm
  have ip : Inv C R ([(b, .map es clk)] :: Γ') w := i.perm (by simpa using hdel.out)
  have hb := ip.own (b, .map es clk) (by simp)
  have hf := run_find (P := P) (kt := kt) h1 k w
  have main : ∃ es', (Builtin.delete_ #[T, T2] ty #[.map (some b), kv k]).run P w = .ok (.tuple #[]) { w with heap := w.heap.setIfInBounds b (.map es' clk) } ∧ MpAt kv vv b (mdel m k) [(b, .map es' clk)] := by
    cases hg : mget m k with
    | some u =>
      obtain ⟨j, hj, hkj, hp⟩ := (findE_spec (vv := vv) m es.toList 0 h2).1 u hg
      rw [hj] at hf
      simp only [Nat.zero_add] at hf
      have hl : es.size = m.length := by have := congrArg List.length h1; simpa using this
      have hjl : j < es.size := by
        have := (List.getElem?_eq_some_iff.1 hkj).1
        simpa [hl] using this
      have e0 : (es.eraseIdxIfInBounds j).toList = es.toList.eraseIdx j := by
        simp [Array.eraseIdxIfInBounds, hjl]
      refine ⟨es.eraseIdxIfInBounds j, ?_, _, clk, rfl, ?_, ?_, mdel_nodup h3, ?_, ?_⟩
      · simp [Builtin.delete_, run_underlying ht.out, MapKept.run_getObj_map hb, hk.chk, hf, MapKept.run_setObj_map _ hb]
      · rw [mdel_erase h3 hkj, e0, ← eraseIdx_map', ← eraseIdx_map', h1]
      · rw [mdel_erase h3 hkj, e0, ← eraseIdx_map', ← eraseIdx_map', h2]
      · rw [e0]; exact h4.sublist ((List.eraseIdx_sublist _ _).map _)
      · rw [e0]; exact fun e he => h5 e ((List.eraseIdx_sublist _ _).mem he)
    | none =>
      have hj := (findE_spec (vv := vv) m es.toList 0 h2).2 hg
      rw [hj] at hf
      refine ⟨es, ?_, _, clk, rfl, ?_, ?_, mdel_nodup h3, h4, h5⟩
      · simp [Builtin.delete_, run_underlying ht.out, MapKept.run_getObj_map hb, hk.chk, hf, MapKept.run_setObj_map _ hb]
      · rw [mdel_none (mget_none.1 hg)]; exact h1
      · rw [mdel_none (mget_none.1 hg)]; exact h2
  obtain ⟨es', hr, hm'⟩ := main
  have hrun : (execOp a.eval ⟨none, .call ⟨.builtin .delete, #[x, ix], #[T, T2]⟩, ty, pos, af, none⟩).run P w = .ok (.value (.tuple #[])) { w with heap := w.heap.setIfInBounds b (.map es' clk) } := by
    simp [execOp, resolve, invoke, builtin, hx.out n a kn, hi.out n a kn, hr]
  simp only [Region.wanted, if_true]
  refine .inl ?_
  simp only [Oper.wp, hrun, Oper.upon]
  exact (h _ hm').out _ _ kn.putNone (ip.setMap))
end
end Go.SX

/- Symbolic execution: slices and maps of typed things, found by instance search. -/
namespace Go.SX
set_option linter.unusedSimpArgs false
set_option linter.unusedVariables false
open Go

/-! ### arithmetic that doesn't wrap -/
section
variable {P : Program} {C : Cx} {R : List Hp} {n : Nat} {all : Array Oper} {Q : Exit → Act → World → Prop} {L : Env} {Γ : List Hp} {rest : List Oper} {w : World}
theorem y_add {t ty : TypeId} {x y : Operand} {a b : Int} [hx : Ev L x (.int .i64 a)] [hy : Ev L y (.int .i64 b)] (h1 : -9223372036854775808 ≤ a + b) (h2 : a + b < 9223372036854775808) : Y P R L Γ (.binOp .add t x y ty) (.int .i64 (a + b)) := by
  have := yBin (P := P) (R := R) (L := L) (Γ := Γ) .add t ty x y (.int .i64 a) (.int .i64 b) _ (h3 := biAdd t a b)
  rwa [show RowKit.wrap64 (a + b) = a + b by unfold RowKit.wrap64; omega] at this
theorem y_sub {t ty : TypeId} {x y : Operand} {a b : Int} [hx : Ev L x (.int .i64 a)] [hy : Ev L y (.int .i64 b)] (h1 : -9223372036854775808 ≤ a - b) (h2 : a - b < 9223372036854775808) : Y P R L Γ (.binOp .sub t x y ty) (.int .i64 (a - b)) := by
  have := yBin (P := P) (R := R) (L := L) (Γ := Γ) .sub t ty x y (.int .i64 a) (.int .i64 b) _ (h3 := biSub t a b)
  rwa [show RowKit.wrap64 (a - b) = a - b by unfold RowKit.wrap64; omega] at this
end

/-! ### typed slices -/
/-- things of a type e whose cells are cv -/
class ElT (P : Program) (e : TypeId) (α : outParam Type) (sz : outParam Nat) (cv : outParam (α → List Value)) (av : outParam (α → Value)) : Prop where
  len : ∀ x, (cv x).length = sz
  one : ∀ x, ∀ y ∈ cv x, y.oneCell' = true
  ld : ∀ (b off : Nat) (w : World) x, (∀ j u, (cv x)[j]? = some u → w.cell? ⟨b, off + j, none⟩ = some u) → (loadVar e ⟨b, off, none⟩).run P w = .ok (av x) w
theorem ElT.agg {P : Program} {e : TypeId} {α : Type} {sz : Nat} {cv : α → List Value} (ha : Ag P e sz) (h1 : ∀ x, (cv x).length = sz) (h2 : ∀ x, ∀ y ∈ cv x, y.oneCell' = true) : ElT P e α sz cv (fun x => .agg (cv x).toArray) := ⟨h1, h2, fun b off w x h =>
  loadCells_of ha (h1 x) h⟩
theorem ElT.sc {P : Program} {e : TypeId} {α : Type} {av : α → Value} (ha : Sc P e) (h2 : ∀ x, (av x).oneCell' = true) : ElT P e α 1 (fun x => [av x]) av := ⟨fun _ => rfl, fun x y hy => by
  simp at hy; subst hy; exact h2 x, fun b off w x h => by
  have := h 0 (av x) (by simp)
  simp only [Nat.add_zero] at this
  simp [loadVar, ha.out, this]⟩
def cvs {α : Type} (cv : α → List Value) (l : List α) : List Value := l.flatMap cv
theorem cvs_len {α : Type} {cv : α → List Value} {sz : Nat} (h : ∀ x, (cv x).length = sz) (l : List α) : (cvs cv l).length = l.length * sz := by
  induction l with
  | nil => simp [cvs]
  | cons p l ih => simp only [cvs, List.flatMap_cons, List.length_append] at ih ⊢; rw [ih, h]; simp [Nat.add_mul]; omega
theorem cvs_get {α : Type} {cv : α → List Value} {sz : Nat} (h : ∀ x, (cv x).length = sz) : ∀ (l : List α) (i : Nat) (x : α), l[i]? = some x → ((cvs cv l).drop (i * sz)).take sz = cv x
  | [], i, x, hx => by simp at hx
  | p :: l, 0, x, hx => by
    simp at hx; subst hx
    simp only [cvs, List.flatMap_cons, Nat.zero_mul, List.drop_zero]
    rw [List.take_append_of_le_length (by rw [h]; exact Nat.le_refl _), List.take_of_length_le (by rw [h]; exact Nat.le_refl _)]
  | p :: l, i + 1, x, hx => by
    have ih := cvs_get h l i x (by simpa using hx)
    simp only [cvs, List.flatMap_cons] at ih ⊢
    rw [Nat.add_mul, Nat.one_mul, Nat.add_comm, ← List.drop_drop, List.drop_left' (h p), ih]
theorem cvs_append {α : Type} (cv : α → List Value) (l m : List α) : cvs cv (l ++ m) = cvs cv l ++ cvs cv m := by simp [cvs]
theorem cvs_one {α : Type} (cv : α → List Value) (x : α) : cvs cv [x] = cv x := by simp [cvs]
/-- the slice value v holds the things l; it lies in s -/
class AtS (v : Value) (e : outParam Nat) (α : outParam Type) (sz : outParam Nat) (cv : outParam (α → List Value)) (l : outParam (List α)) (s : outParam Hp) : Prop where
  out : SlAt e sz v l.length (cvs cv l) s
/-- .. and is the call's own -/
class OwnS (v : Value) (e : outParam Nat) (α : outParam Type) (sz : outParam Nat) (cv : outParam (α → List Value)) (l : outParam (List α)) (s : outParam Hp) : Prop where
  out : SlOwn e sz v l.length (cvs cv l) s
instance ownAt {v : Value} {e : Nat} {α : Type} {sz : Nat} {cv : α → List Value} {l : List α} {s : Hp} [h : OwnS v e α sz cv l s] : AtS v e α sz cv l s := ⟨h.out.at⟩
theorem OwnS.nil {e : Nat} {α : Type} {sz : Nat} {cv : α → List Value} : OwnS (.slice none 0 0) e α sz cv [] [] := ⟨SlOwn.nil e sz⟩
theorem SlAt.shape {e sz n : Nat} {v : Value} {xs : List Value} {s : Hp} (h : SlAt e sz v n xs s) : ∃ a l c, v = .slice a l c := by
  rcases h.2 with ⟨rfl | ⟨a, c, rfl⟩, _⟩ | ⟨b, off, cap, cur, et, fr, rfl, _⟩
  · exact ⟨_, _, _, rfl⟩
  · exact ⟨_, _, _, rfl⟩
  · exact ⟨_, _, _, rfl⟩
/-- a slice -/
class IsSl (v : Value) : Prop where
  out : ∃ a l c, v = .slice a l c
instance isSlLit (a : Option Addr) (l c : Nat) : IsSl (.slice a l c) := ⟨_, _, _, rfl⟩
instance (priority := low) isSlAt {v : Value} {e : Nat} {α : Type} {sz : Nat} {cv : α → List Value} {l : List α} {s : Hp} [h : AtS v e α sz cv l s] : IsSl v := ⟨h.out.shape⟩
instance (priority := low) oneAt {v : Value} {e : Nat} {α : Type} {sz : Nat} {cv : α → List Value} {l : List α} {s : Hp} [h : AtS v e α sz cv l s] : One v := ⟨by
  obtain ⟨a, l, c, rfl⟩ := h.out.shape; rfl⟩
instance (priority := low) celAt {v : Value} {e : Nat} {α : Type} {sz : Nat} {cv : α → List Value} {l : List α} {s : Hp} [h : AtS v e α sz cv l s] : Cel v #[v] := ⟨by
  obtain ⟨a, l, c, rfl⟩ := h.out.shape; rfl⟩
/-- a thing that is written out as its cells -/
class Cvt {α : Type} (cv : α → List Value) (cs : List Value) (x : outParam α) : Prop where
  out : cv x = cs
instance cvtI (q : IntKind) (x : Int) : Cvt (fun x => [Value.int q x]) [.int q x] x := ⟨rfl⟩
instance cvtB (x : Bool) : Cvt (fun x => [Value.bool x]) [.bool x] x := ⟨rfl⟩
instance cvtS (x : ByteArray) : Cvt (fun x => [Value.string x]) [.string x] x := ⟨rfl⟩
/-- the block and the offset of a slice -/
def slb : Value → Nat
  | .slice (some a) _ _ => a.block
  | _ => 0
def slo : Value → Nat
  | .slice (some a) _ _ => a.off
  | _ => 0
section
variable {P : Program} {C : Cx} {R : List Hp} {n : Nat} {all : Array Oper} {Q : Exit → Act → World → Prop} {L : Env} {Γ : List Hp} {rest : List Oper} {w : World} {e sz : Nat} {α : Type} {cv : α → List Value} {av : α → Value} {l : List α} {v : Value} {s : Hp}
instance yLenS (T : TypeId) (x : Operand) [hx : Ev L x v] [ht : Und P T (.slice e)] [hs : AtS v e α sz cv l s] : Y P R L Γ (.call ⟨.builtin .len, #[x], #[T]⟩) (.int .i64 l.length) := ⟨fun C n a w _ _ _ _ _ kn i => by
  rcases hs.out.2 with ⟨rfl | ⟨_, _, rfl⟩, h0⟩ | ⟨b, off, cap, cur, et, fr, rfl, _⟩
  · have : l.length = 0 := h0
    simp [execOp, resolve, invoke, builtin, Builtin.len_, hx.out n a kn, run_underlying ht.out, goInt, this]
  · have : l.length = 0 := h0
    simp [execOp, resolve, invoke, builtin, Builtin.len_, hx.out n a kn, run_underlying ht.out, goInt, this]
  · simp [execOp, resolve, invoke, builtin, Builtin.len_, hx.out n a kn, run_underlying ht.out, goInt]⟩
theorem y_idxC {T : TypeId} {x ix : Operand} {k : IntKind} {i : Int} [hx : Ev L x v] [hi : Ev L ix (.int k i)] [ht : Und P T (.slice e)] [hz : Sz P e sz] [hs : AtS v e α sz cv l s] (h0 : 0 ≤ i) (h1 : i < (l.length : Int)) :
    Y P R L Γ (.indexAddr T x ix) (.pointer (some ⟨slb v, slo v + i.toNat * sz, none⟩)) := by
  rcases hs.out.2 with ⟨_, h0'⟩ | ⟨b, off, cap, cur, et, fr, rfl, _⟩
  · rw [h0'] at h1; omega
  · exact y_idx (m := l.length) (c := cap) h0 h1
theorem y_elemC {t i : Nat} {p : Operand} {x : α} [hp : Ev L p (.pointer (some ⟨slb v, slo v + i * sz, none⟩))] [hs : AtS v t α sz cv l s] [hg : Seg R Γ s] [he : ElT P t α sz cv av] (hx : l[i]? = some x) :
    Y P R L Γ (.load t p) (av x) := ⟨fun C n a w _ _ _ _ _ kn iv => by
  have hw := hg.out C w iv
  have hlt : i < l.length := (List.getElem?_eq_some_iff.1 hx).1
  rcases hs.out.2 with ⟨_, h0⟩ | ⟨b, off, cap, cur, et, fr, rfl, _⟩
  · omega
  · have := he.ld b (off + i * sz) w x (fun j u hu => by
      rw [Nat.add_assoc]
      refine hs.out.cell hw _ u ?_
      have hj : j < sz := he.len x ▸ (List.getElem?_eq_some_iff.1 hu).1
      have hc := cvs_get (cv := cv) he.len l i x hx
      rw [← hc, List.getElem?_take, if_pos hj, List.getElem?_drop] at hu
      exact hu)
    have hp' := hp.out _ a kn
    simp only [slb, slo] at hp'
    simp [execOp, hp', Instr.loadAt, Instr.sureAddr, this]⟩
theorem y_idxN {T j : Nat} {x ix : Operand} {k : IntKind} [hx : Ev L x v] [hi : Ev L ix (.int k (j : Nat))] [ht : Und P T (.slice e)] [hz : Sz P e sz] [hs : AtS v e α sz cv l s] (h1 : j < l.length) :
    Y P R L Γ (.indexAddr T x ix) (.pointer (some ⟨slb v, slo v + j * sz, none⟩)) := by
  have := y_idxC (P := P) (R := R) (L := L) (Γ := Γ) (v := v) (e := e) (sz := sz) (cv := cv) (l := l) (s := s) (T := T) (x := x) (ix := ix) (k := k) (i := j) (by omega) (by omega)
  simpa using this
theorem y_elemG {t i : Nat} {p : Operand} [hp : Ev L p (.pointer (some ⟨slb v, slo v + i * sz, none⟩))] [hs : AtS v t α sz cv l s] [hg : Seg R Γ s] [he : ElT P t α sz cv av] (h : i < l.length) :
    Y P R L Γ (.load t p) (av l[i]) := y_elemC (List.getElem?_eq_getElem h)
theorem SlAt.lit {b : Nat} {cs : Array Value} (k : Nat) (hl : cs.toList.length = k * sz) (hk : k ≤ maxLen) : SlAt e sz (.slice (some ⟨b, 0, none⟩) k k) k cs.toList [(b, .cells cs e (0, 0))] :=
  ⟨hl, .inr ⟨b, 0, k, cs, e, (0, 0), rfl, rfl, Nat.le_refl _, hk, by simpa using Nat.le_of_eq hl.symm, by simpa using List.take_of_length_le (Nat.le_of_eq hl)⟩⟩
/-- an array that is written out -/
class LisA (a : Array Value) (l : outParam (List Value)) : Prop where
  out : a = l.toArray
instance lisA (l : List Value) : LisA l.toArray l := ⟨rfl⟩
/-- one thing behind a slice -/
theorem v_push {K : Act → World → Prop} {d T bytes b : Nat} {x y : Operand} {z : α} {cs : List Value} {ca : Array Value} {ty : TypeId} {pos : String} {af : Array Edge} {Γ' : List Hp} [hx : Ev L x v] [hy : Ev L y (.slice (some ⟨b, 0, none⟩) 1 1)] [ht : Und P T (.slice e)] [hs : OwnS v e α sz cv l s] [he : El P e sz bytes] [hE : ElT P e α sz cv av] [hd : Is (Nat.ble n d = false)]
    [hdel : Del Γ s Γ'] [hseg : See R Γ b (.cells ca e (0, 0))] [hca : LisA ca cs] [hc : Cvt cv cs z] (hb : (l.length + 1) * bytes ≤ 140737488355328) [hp : Is (Nat.ble 1 bytes = true)]
    (h : ∀ v' s', OwnS v' e α sz cv (l ++ [z]) s' → (l ++ [z]).length = l.length + 1 → VK C R n ((d, v') :: L) (s' :: Γ') K) : VK C R n L Γ (wp1 P all Q ⟨some d, .call ⟨.builtin .append, #[x, y], #[T, T]⟩, ty, pos, af, none⟩ K) := by
  have hz := hc.out
  have hca' := hca.out
  subst hca'
  have hlen : cs.length = 1 * sz := by rw [← hz, hE.len]; omega
  have hm : l.length + 1 ≤ maxLen := by
    have h1 : 1 ≤ bytes := Nat.le_of_ble_eq_true hp.out
    have h2 : (l.length + 1) * 1 ≤ (l.length + 1) * bytes := Nat.mul_le_mul_left _ h1
    unfold maxLen; omega
  have hlit : SlAt e sz (.slice (some ⟨b, 0, none⟩) 1 1) 1 cs [(b, .cells cs.toArray e (0, 0))] := by
    simpa using SlAt.lit (cs := cs.toArray) (e := e) (sz := sz) (b := b) 1 (by simpa using hlen) (by unfold maxLen; omega)
  refine v_append (m := l.length) (k := 1) hs.out hlit (hdel := hdel) (hseg := ⟨fun C w i x hx => by simp only [List.mem_singleton] at hx; subst hx; exact hseg.out C w i⟩) (fun y hy => hE.one z y (by rw [hz]; exact hy)) hm hb (fun v' s' hs' => h v' s' ⟨?_⟩ (by simp))
  rw [cvs_append, cvs_one, hz]
  simpa using hs'
end

section
variable {P : Program} {C : Cx} {R : List Hp} {n : Nat} {all : Array Oper} {Q : Exit → Act → World → Prop} {L : Env} {Γ : List Hp} {rest : List Oper} {w : World} {e sz : Nat} {α : Type} {cv : α → List Value} {av : α → Value} {l : List α} {v : Value} {s : Hp}
theorem cvs_set {sz : Nat} (h : ∀ x, (cv x).length = sz) : ∀ (l : List α) (i : Nat) (z : α), i < l.length → cvs cv (l.set i z) = (cvs cv l).take (i * sz) ++ cv z ++ (cvs cv l).drop (i * sz + sz)
  | [], i, z, hi => by simp at hi
  | p :: l, 0, z, _ => by
    simp only [List.set_cons_zero, cvs, List.flatMap_cons, Nat.zero_mul, List.take_zero, List.nil_append, Nat.zero_add]
    rw [List.drop_left' (h p)]
  | p :: l, i + 1, z, hi => by
    have ih := cvs_set h l i z (by simpa using hi)
    simp only [cvs, List.set_cons_succ, List.flatMap_cons] at ih ⊢
    rw [ih, Nat.add_mul, Nat.one_mul]
    have e1 : (cv p ++ l.flatMap cv).take (i * sz + sz) = cv p ++ (l.flatMap cv).take (i * sz) := by
      rw [Nat.add_comm, List.take_append, h p, List.take_of_length_le (by rw [h p]; omega)]
      congr 2; omega
    have e2 : (cv p ++ l.flatMap cv).drop (i * sz + sz + sz) = (l.flatMap cv).drop (i * sz + sz) := by
      rw [show i * sz + sz + sz = sz + (i * sz + sz) by omega, ← List.drop_drop, List.drop_left' (h p)]
    rw [e1, e2]
    simp
theorem take_mid {L X : List Value} {a n : Nat} (h : a + X.length ≤ n) (h2 : n ≤ L.length) : (L.take a ++ X ++ L.drop (a + X.length)).take n = (L.take n).take a ++ X ++ (L.take n).drop (a + X.length) := by
  have e1 : L.take a = (L.take n).take a := by rw [List.take_take, Nat.min_eq_left (by omega)]
  have e2 : L.drop (a + X.length) = (L.take n).drop (a + X.length) ++ L.drop n := by
    conv => lhs; rw [← List.take_append_drop n L]
    rw [List.drop_append_of_le_length (by rw [List.length_take]; omega)]
  rw [e1, e2, ← List.append_assoc]
  exact List.take_left' (by simp only [List.length_append, List.length_take, List.length_drop]; omega)
/-- is the slice nil? -/
def isNilS : Value → Bool
  | .slice none _ _ => true
  | _ => false
theorem run_eq_nilS {t : TypeId} (a : Option Addr) (n c : Nat) (h : P.underlying t = some (.slice e)) : (binOp .eql t (.slice a n c) (.slice none 0 0)).run P w = .ok (.bool a.isNone) w := by
  simp only [binOp]
  simp [run_equal_slice_nil w t e a n c h]
instance biNilS (t : TypeId) [h : Und P t (.slice e)] [hs : AtS v e α sz cv l s] : Bin P .eql t v (.slice none 0 0) (.bool (isNilS v)) := ⟨fun w => by
  rcases hs.out.2 with ⟨rfl | ⟨_, _, rfl⟩, _⟩ | ⟨b, off, cap, cur, et, fr, rfl, _⟩
  · exact run_eq_nilS none 0 0 h.out
  · exact run_eq_nilS _ _ _ h.out
  · exact run_eq_nilS _ _ _ h.out, fun _ p q w => by
  rcases hs.out.2 with ⟨rfl | ⟨_, _, rfl⟩, _⟩ | ⟨b, off, cap, cur, et, fr, rfl, _⟩ <;> unfold eqGuard <;> simp⟩
instance biNilN (t : TypeId) [h : Und P t (.slice e)] [hs : AtS v e α sz cv l s] : Bin P .neq t v (.slice none 0 0) (.bool (!isNilS v)) := ⟨fun w => by
  rcases hs.out.2 with ⟨rfl | ⟨_, _, rfl⟩, _⟩ | ⟨b, off, cap, cur, et, fr, rfl, _⟩
  · exact run_neq_slice_nil w t e none 0 0 h.out
  · exact run_neq_slice_nil w t e _ _ _ h.out
  · exact run_neq_slice_nil w t e _ _ _ h.out, fun _ p q w => by
  rcases hs.out.2 with ⟨rfl | ⟨_, _, rfl⟩, _⟩ | ⟨b, off, cap, cur, et, fr, rfl, _⟩ <;> unfold eqGuard <;> simp⟩
theorem nilS_nil [hs : AtS v e α sz cv l s] (h : isNilS v = true) : v = .slice none 0 0 ∧ l = [] := by
  rcases hs.out.2 with ⟨rfl | ⟨_, _, rfl⟩, h0⟩ | ⟨b, off, cap, cur, et, fr, rfl, _⟩
  · exact ⟨rfl, List.eq_nil_of_length_eq_zero h0⟩
  · cases h
  · cases h
theorem SlAt.lit0 {b : Nat} : SlOwn e sz (.slice (some ⟨b, 0, none⟩) 0 0) 0 [] [(b, .cells #[] e (0, 0))] := ⟨by simp, .inr ⟨b, 0, 0, #[], e, rfl, rfl, Nat.le_refl _, Nat.zero_le _, by simp, by simp⟩⟩
theorem cvs_nil {cv : α → List Value} : cvs cv [] = [] := rfl
theorem cvs_one' (hE : ElT P e α sz cv av) (l : List α) : ∀ y ∈ cvs cv l, y.oneCell' = true := fun y hy => by
  obtain ⟨x, _, hx⟩ := List.mem_flatMap.1 hy
  exact hE.one x y hx
theorem len_bound {n k bytes : Nat} (hp : Nat.ble 1 bytes = true) (hb : (n + k) * bytes ≤ 140737488355328) : n + k ≤ maxLen := by
  have h1 : 1 ≤ bytes := Nat.le_of_ble_eq_true hp
  have h2 : (n + k) * 1 ≤ (n + k) * bytes := Nat.mul_le_mul_left _ h1
  unfold maxLen; omega
/-- a slice behind a slice -/
theorem v_cat {K : Act → World → Prop} {d T bytes : Nat} {x y : Operand} {u : Value} {l' : List α} {s' : Hp} {ty : TypeId} {pos : String} {af : Array Edge} {Γ' : List Hp} [hx : Ev L x v] [hy : Ev L y u] [ht : Und P T (.slice e)] [hs : OwnS v e α sz cv l s] [hu : AtS u e α sz cv l' s'] [he : El P e sz bytes] [hE : ElT P e α sz cv av] [hd : Is (Nat.ble n d = false)]
    [hdel : Del Γ s Γ'] [hseg : Seg R Γ s'] [hp : Is (Nat.ble 1 bytes = true)] (hb : (l.length + l'.length) * bytes ≤ 140737488355328)
    (h : ∀ v' s', OwnS v' e α sz cv (l ++ l') s' → (l ++ l').length = l.length + l'.length → VK C R n ((d, v') :: L) (s' :: Γ') K) : VK C R n L Γ (wp1 P all Q ⟨some d, .call ⟨.builtin .append, #[x, y], #[T, T]⟩, ty, pos, af, none⟩ K) :=
  v_append (m := l.length) (k := l'.length) hs.out hu.out (cvs_one' hE l') (len_bound hp.out hb) hb (fun v' s' hs' => h v' s' ⟨by rw [cvs_append]; simpa using hs'⟩ (by simp))
/-- .. behind an empty literal -/
theorem v_cat0 {K : Act → World → Prop} {d T bytes b : Nat} {x y : Operand} {u : Value} {l' : List α} {s' : Hp} {ty : TypeId} {pos : String} {af : Array Edge} {Γ' : List Hp} [hx : Ev L x (.slice (some ⟨b, 0, none⟩) 0 0)] [hy : Ev L y u] [ht : Und P T (.slice e)] [hu : AtS u e α sz cv l' s'] [he : El P e sz bytes] [hE : ElT P e α sz cv av] [hd : Is (Nat.ble n d = false)]
    [hdel : Del Γ [(b, .cells #[] e (0, 0))] Γ'] [hseg : Seg R Γ s'] [hp : Is (Nat.ble 1 bytes = true)] (hb : l'.length * bytes ≤ 140737488355328)
    (h : ∀ v' s', OwnS v' e α sz cv l' s' → VK C R n ((d, v') :: L) (s' :: Γ') K) : VK C R n L Γ (wp1 P all Q ⟨some d, .call ⟨.builtin .append, #[x, y], #[T, T]⟩, ty, pos, af, none⟩ K) :=
  v_append (m := 0) (k := l'.length) (SlAt.lit0 (b := b)) hu.out (cvs_one' hE l') (by have := len_bound (n := 0) (k := l'.length) hp.out (by simpa using hb); simpa using this) (by simpa using hb) (fun v' s' hs' => h v' s' ⟨by simpa using hs'⟩)
/-- one thing behind nil -/
theorem v_push0 {K : Act → World → Prop} {d T bytes b : Nat} {x y : Operand} {z : α} {cs : List Value} {ca : Array Value} {ty : TypeId} {pos : String} {af : Array Edge} [hx : Ev L x (.slice none 0 0)] [hy : Ev L y (.slice (some ⟨b, 0, none⟩) 1 1)] [ht : Und P T (.slice e)] [hE : ElT P e α sz cv av] [he : El P e sz bytes] [hd : Is (Nat.ble n d = false)]
    [hseg : See R Γ b (.cells ca e (0, 0))] [hca : LisA ca cs] [hc : Cvt cv cs z] [hp : Is (Nat.ble 1 bytes = true)] (hb : 1 * bytes ≤ 140737488355328)
    (h : ∀ v' s', OwnS v' e α sz cv [z] s' → VK C R n ((d, v') :: L) (s' :: Γ) K) : VK C R n L Γ (wp1 P all Q ⟨some d, .call ⟨.builtin .append, #[x, y], #[T, T]⟩, ty, pos, af, none⟩ K) := by
  have hz := hc.out
  have hca' := hca.out
  subst hca'
  have hlen : cs.length = 1 * sz := by rw [← hz, hE.len]; omega
  have hlit : SlAt e sz (.slice (some ⟨b, 0, none⟩) 1 1) 1 cs [(b, .cells cs.toArray e (0, 0))] := by
    simpa using SlAt.lit (cs := cs.toArray) (e := e) (sz := sz) (b := b) 1 (by simpa using hlen) (by unfold maxLen; omega)
  have hn : VK C R n L ([] :: Γ) (wp1 P all Q ⟨some d, .call ⟨.builtin .append, #[x, y], #[T, T]⟩, ty, pos, af, none⟩ K) :=
    v_append (m := 0) (k := 1) (SlOwn.nil e sz) hlit (hseg := ⟨fun C w i x hx => by simp only [List.mem_singleton] at hx; subst hx; exact hseg.out C w (i.perm (by simp))⟩) (fun y hy => hE.one z y (by rw [hz]; exact hy)) (by unfold maxLen; omega) (by simpa using hb) (fun v' s' hs' => h v' s' ⟨by rw [cvs_one, hz]; simpa using hs'⟩)
  exact VK.mk fun a w k i => hn.out a w k (i.perm (by simp))
/-- a slice behind nil -/
theorem v_catN {K : Act → World → Prop} {d T bytes : Nat} {x y : Operand} {u : Value} {l' : List α} {s' : Hp} {ty : TypeId} {pos : String} {af : Array Edge} [hx : Ev L x (.slice none 0 0)] [hy : Ev L y u] [ht : Und P T (.slice e)] [hu : AtS u e α sz cv l' s'] [he : El P e sz bytes] [hE : ElT P e α sz cv av] [hd : Is (Nat.ble n d = false)]
    [hseg : Seg R Γ s'] [hp : Is (Nat.ble 1 bytes = true)] (hb : l'.length * bytes ≤ 140737488355328)
    (h : ∀ v' s', OwnS v' e α sz cv l' s' → VK C R n ((d, v') :: L) (s' :: Γ) K) : VK C R n L Γ (wp1 P all Q ⟨some d, .call ⟨.builtin .append, #[x, y], #[T, T]⟩, ty, pos, af, none⟩ K) := by
  have hn : VK C R n L ([] :: Γ) (wp1 P all Q ⟨some d, .call ⟨.builtin .append, #[x, y], #[T, T]⟩, ty, pos, af, none⟩ K) :=
    v_append (m := 0) (k := l'.length) (SlOwn.nil e sz) hu.out (hseg := ⟨fun C w i x hx => hseg.out C w (i.perm (by simp)) x hx⟩) (cvs_one' hE l') (by have := len_bound (n := 0) (k := l'.length) hp.out (by simpa using hb); simpa using this) (by simpa using hb) (fun v' s' hs' => h v' s' ⟨by simpa using hs'⟩)
  exact VK.mk fun a w k i => hn.out a w k (i.perm (by simp))
/-- a part of a slice -/
def slSub (sz : Nat) : Value → Nat → Nat → Value
  | .slice a _ c, lo, hi => .slice (if c = lo then a else a.map (·.add (lo * sz))) (hi - lo) (c - lo)
  | v, _, _ => v
theorem cvs_sub {sz : Nat} (h : ∀ x, (cv x).length = sz) (l : List α) (lo hi : Nat) (hlo : lo ≤ hi) (hhi : hi ≤ l.length) : cvs cv ((l.take hi).drop lo) = ((cvs cv l).drop (lo * sz)).take ((hi - lo) * sz) := by
  have e1 : cvs cv l = cvs cv (l.take lo) ++ (cvs cv ((l.take hi).drop lo) ++ cvs cv (l.drop hi)) := by
    rw [← cvs_append, ← cvs_append]
    congr 1
    have : l.take lo = (l.take hi).take lo := by rw [List.take_take, Nat.min_eq_left hlo]
    rw [this, ← List.append_assoc, List.take_append_drop, List.take_append_drop]
  rw [e1, List.drop_left' (by rw [cvs_len h, List.length_take]; congr 1; omega)]
  exact (List.take_left' (by rw [cvs_len h, List.length_drop, List.length_take]; congr 1; omega)).symm
theorem AtS.sub (hE : ∀ x, (cv x).length = sz) (hs : AtS v e α sz cv l s) {lo hi : Nat} (h1 : lo ≤ hi) (h2 : hi ≤ l.length) : AtS (slSub sz v lo hi) e α sz cv ((l.take hi).drop lo) s := ⟨by
  have hlen : ((l.take hi).drop lo).length = hi - lo := by rw [List.length_drop, List.length_take]; omega
  refine ⟨cvs_len hE _, ?_⟩
  rcases hs.out.2 with ⟨hv, h0⟩ | ⟨b, off, cap, cur, et, fr, rfl, rfl, h3, h4, h5, h6⟩
  · have e1 : lo = 0 := by omega
    have e2 : hi = 0 := by omega
    subst e1; subst e2
    refine .inl ⟨?_, by simp⟩
    rcases hv with rfl | ⟨a, c, rfl⟩
    · left; simp [slSub]
    · right
      by_cases hc : c = 0
      · exact ⟨a, 0, by simp [slSub, hc]⟩
      · exact ⟨a.add (0 * sz), c, by simp [slSub, hc]⟩
  · by_cases hc : cap = lo
    · subst hc
      have : hi = cap := by omega
      subst this
      refine .inl ⟨.inr ⟨⟨b, off, none⟩, 0, by simp [slSub]⟩, by rw [hlen]; omega⟩
    · refine .inr ⟨b, off + lo * sz, cap - lo, cur, et, fr, ?_, rfl, by omega, by omega, ?_, ?_⟩
      · simp [slSub, hc, add_at, hlen]
      · rw [hlen]
        have : (lo + (hi - lo)) * sz ≤ l.length * sz := Nat.mul_le_mul_right _ (by omega)
        rw [Nat.add_mul] at this
        omega
      · rw [cvs_sub hE l lo hi h1 h2, ← h6, hlen, List.drop_take, List.take_take, List.drop_drop]
        congr 1
        have : (lo + (hi - lo)) * sz ≤ l.length * sz := Nat.mul_le_mul_right _ (by omega)
        rw [Nat.add_mul] at this
        omega⟩
theorem run_slice {T : TypeId} (hs : AtS v e α sz cv l s) (ht : P.underlying T = some (.slice e)) (hz : Sz P e sz) (lo hi : Option Value) {lo' hi' : Nat} (h1 : lo' ≤ hi') (h2 : hi' ≤ l.length)
    (hl : (lo = none ∧ lo' = 0) ∨ ∃ k i, lo = some (.int k i) ∧ i = (lo' : Int)) (hh : (hi = none ∧ hi' = l.length) ∨ ∃ k i, hi = some (.int k i) ∧ i = (hi' : Int)) : (Instr.slice T v lo hi none).run P w = .ok (slSub sz v lo' hi') w := by
  have main : ∀ a n c, v = .slice a n c → n = l.length → n ≤ c → (Instr.slice T v lo hi none).run P w = .ok (slSub sz v lo' hi') w := by
    rintro a n c rfl rfl hnc
    have h3 : (hi' : Int) ≤ (c : Int) := by omega
    have h4 : (lo' : Int) ≤ (hi' : Int) := by omega
    have h5 : ¬ c < hi' := by omega
    have h6 : ¬ hi' < lo' := by omega
    have h7 : ¬ l.length < lo' := by omega
    rcases hl with ⟨rfl, rfl⟩ | ⟨k, i, rfl, rfl⟩ <;> rcases hh with ⟨rfl, rfl⟩ | ⟨k', i', rfl, rfl⟩ <;>
      simp [Instr.slice, Instr.sliceBounds, Instr.sliceBound, asIntOf, run_underlying ht, hz.out, slSub, h3, h4, h1, h5, h6, h7]
  rcases hs.out.2 with ⟨rfl | ⟨a, c, rfl⟩, h0⟩ | ⟨b, off, cap, cur, et, fr, rfl, _, h3, _⟩
  · exact main _ _ _ rfl (by omega) (Nat.le_refl _)
  · exact main _ _ _ rfl (by omega) (Nat.zero_le _)
  · exact main _ _ _ rfl rfl h3
theorem y_subB {T : TypeId} {x lo hi : Operand} {k k' : IntKind} {i j : Int} [hx : Ev L x v] [hlo : Ev L lo (.int k i)] [hhi : Ev L hi (.int k' j)] [ht : Und P T (.slice e)] [hz : Sz P e sz] [hs : AtS v e α sz cv l s] (h0 : 0 ≤ i) (h1 : i ≤ j) (h2 : j ≤ l.length) :
    Y P R L Γ (.slice T x (some lo) (some hi) none) (slSub sz v i.toNat j.toNat) := ⟨fun C n a w _ _ _ _ _ kn _ => by
  have := run_slice (P := P) (w := w) hs ht.out hz (some (.int k i)) (some (.int k' j)) (lo' := i.toNat) (hi' := j.toNat) (by omega) (by omega) (.inr ⟨k, i, rfl, by omega⟩) (.inr ⟨k', j, rfl, by omega⟩)
  simp [execOp, Instr.sliceAt, run_underlying ht.out, hx.out n a kn, hlo.out n a kn, hhi.out n a kn, this]⟩
theorem y_subL {T : TypeId} {x lo : Operand} {k : IntKind} {i : Int} [hx : Ev L x v] [hlo : Ev L lo (.int k i)] [ht : Und P T (.slice e)] [hz : Sz P e sz] [hs : AtS v e α sz cv l s] (h0 : 0 ≤ i) (h1 : i ≤ l.length) :
    Y P R L Γ (.slice T x (some lo) none none) (slSub sz v i.toNat l.length) := ⟨fun C n a w _ _ _ _ _ kn _ => by
  have := run_slice (P := P) (w := w) hs ht.out hz (some (.int k i)) none (lo' := i.toNat) (hi' := l.length) (by omega) (by omega) (.inr ⟨k, i, rfl, by omega⟩) (.inl ⟨rfl, rfl⟩)
  simp [execOp, Instr.sliceAt, run_underlying ht.out, hx.out n a kn, hlo.out n a kn, this]⟩
theorem y_subH {T : TypeId} {x hi : Operand} {k' : IntKind} {j : Int} [hx : Ev L x v] [hhi : Ev L hi (.int k' j)] [ht : Und P T (.slice e)] [hz : Sz P e sz] [hs : AtS v e α sz cv l s] (h1 : 0 ≤ j) (h2 : j ≤ l.length) :
    Y P R L Γ (.slice T x none (some hi) none) (slSub sz v 0 j.toNat) := ⟨fun C n a w _ _ _ _ _ kn _ => by
  have := run_slice (P := P) (w := w) hs ht.out hz none (some (.int k' j)) (lo' := 0) (hi' := j.toNat) (by omega) (by omega) (.inl ⟨rfl, rfl⟩) (.inr ⟨k', j, rfl, by omega⟩)
  simp [execOp, Instr.sliceAt, run_underlying ht.out, hx.out n a kn, hhi.out n a kn, this]⟩
theorem v_subB {d T : Nat} {ty : TypeId} {pos : String} {af : Array Edge} {x lo hi : Operand} {k k' : IntKind} {i j : Int} [hx : Ev L x v] [hlo : Ev L lo (.int k i)] [hhi : Ev L hi (.int k' j)] [ht : Und P T (.slice e)] [hz : Sz P e sz] [hs : AtS v e α sz cv l s] [hE : ElT P e α sz cv av] [hd : Is (Nat.ble n d = false)] (h0 : 0 ≤ i) (h1 : i ≤ j) (h2 : j ≤ l.length)
    (hk : ∀ v', AtS v' e α sz cv ((l.take j.toNat).drop i.toNat) s → VK C R n ((d, v') :: L) Γ (KL P all Q rest)) : VK C R n L Γ (KL P all Q (⟨some d, .slice T x (some lo) (some hi) none, ty, pos, af, none⟩ :: rest)) := v_by (y_subB h0 h1 h2) (hk _ (hs.sub hE.len (lo := i.toNat) (hi := j.toNat) (by omega) (by omega)))
theorem v_1subB {K : Act → World → Prop} {d T : Nat} {ty : TypeId} {pos : String} {af : Array Edge} {x lo hi : Operand} {k k' : IntKind} {i j : Int} [hx : Ev L x v] [hlo : Ev L lo (.int k i)] [hhi : Ev L hi (.int k' j)] [ht : Und P T (.slice e)] [hz : Sz P e sz] [hs : AtS v e α sz cv l s] [hE : ElT P e α sz cv av] [hd : Is (Nat.ble n d = false)] (h0 : 0 ≤ i) (h1 : i ≤ j) (h2 : j ≤ l.length)
    (hk : ∀ v', AtS v' e α sz cv ((l.take j.toNat).drop i.toNat) s → VK C R n ((d, v') :: L) Γ K) : VK C R n L Γ (wp1 P all Q ⟨some d, .slice T x (some lo) (some hi) none, ty, pos, af, none⟩ K) := v_1by (y_subB h0 h1 h2) (hk _ (hs.sub hE.len (lo := i.toNat) (hi := j.toNat) (by omega) (by omega)))
theorem v_tsubB {d T m : Nat} {ty : TypeId} {pos : String} {af : Array Edge} {x lo hi : Operand} {k k' : IntKind} {i j : Int} [hx : Ev L x v] [hlo : Ev L lo (.int k i)] [hhi : Ev L hi (.int k' j)] {Rs Rt : List Hp} {kl : Nat} {al : Bool} {pl : Pl} [ht : Und P T (.slice e)] [hz : Sz P e sz] [hs : AtS v e α sz cv l s] [hE : ElT P e α sz cv av] [hq : QP Q d] [hd : Is (Nat.ble n d = false)] (h0 : 0 ≤ i) (h1 : i ≤ j) (h2 : j ≤ l.length)
    (hk : ∀ v', AtS v' e α sz cv ((l.take j.toNat).drop i.toNat) s → VK C R n ((d, v') :: L) Γ (KA P all Q Rs kl Rt al pl)) : VK C R n L Γ (KT P all Q Rs kl Rt al m ⟨some d, .slice T x (some lo) (some hi) none, ty, pos, af, none⟩ pl) := v_tBy (y_subB h0 h1 h2) (hk _ (hs.sub hE.len (lo := i.toNat) (hi := j.toNat) (by omega) (by omega)))
theorem v_subL {d T : Nat} {ty : TypeId} {pos : String} {af : Array Edge} {x lo : Operand} {k : IntKind} {i : Int} [hx : Ev L x v] [hlo : Ev L lo (.int k i)] [ht : Und P T (.slice e)] [hz : Sz P e sz] [hs : AtS v e α sz cv l s] [hE : ElT P e α sz cv av] [hd : Is (Nat.ble n d = false)] (h0 : 0 ≤ i) (h1 : i ≤ l.length)
    (hk : ∀ v', AtS v' e α sz cv (l.drop i.toNat) s → VK C R n ((d, v') :: L) Γ (KL P all Q rest)) : VK C R n L Γ (KL P all Q (⟨some d, .slice T x (some lo) none none, ty, pos, af, none⟩ :: rest)) := v_by (y_subL h0 h1) (hk _ (by simpa using hs.sub hE.len (lo := i.toNat) (hi := l.length) (by omega) (by omega)))
theorem v_1subL {K : Act → World → Prop} {d T : Nat} {ty : TypeId} {pos : String} {af : Array Edge} {x lo : Operand} {k : IntKind} {i : Int} [hx : Ev L x v] [hlo : Ev L lo (.int k i)] [ht : Und P T (.slice e)] [hz : Sz P e sz] [hs : AtS v e α sz cv l s] [hE : ElT P e α sz cv av] [hd : Is (Nat.ble n d = false)] (h0 : 0 ≤ i) (h1 : i ≤ l.length)
    (hk : ∀ v', AtS v' e α sz cv (l.drop i.toNat) s → VK C R n ((d, v') :: L) Γ K) : VK C R n L Γ (wp1 P all Q ⟨some d, .slice T x (some lo) none none, ty, pos, af, none⟩ K) := v_1by (y_subL h0 h1) (hk _ (by simpa using hs.sub hE.len (lo := i.toNat) (hi := l.length) (by omega) (by omega)))
theorem v_tsubL {d T m : Nat} {ty : TypeId} {pos : String} {af : Array Edge} {x lo : Operand} {k : IntKind} {i : Int} [hx : Ev L x v] [hlo : Ev L lo (.int k i)] {Rs Rt : List Hp} {kl : Nat} {al : Bool} {pl : Pl} [ht : Und P T (.slice e)] [hz : Sz P e sz] [hs : AtS v e α sz cv l s] [hE : ElT P e α sz cv av] [hq : QP Q d] [hd : Is (Nat.ble n d = false)] (h0 : 0 ≤ i) (h1 : i ≤ l.length)
    (hk : ∀ v', AtS v' e α sz cv (l.drop i.toNat) s → VK C R n ((d, v') :: L) Γ (KA P all Q Rs kl Rt al pl)) : VK C R n L Γ (KT P all Q Rs kl Rt al m ⟨some d, .slice T x (some lo) none none, ty, pos, af, none⟩ pl) := v_tBy (y_subL h0 h1) (hk _ (by simpa using hs.sub hE.len (lo := i.toNat) (hi := l.length) (by omega) (by omega)))
theorem v_subH {d T : Nat} {ty : TypeId} {pos : String} {af : Array Edge} {x hi : Operand} {k' : IntKind} {j : Int} [hx : Ev L x v] [hhi : Ev L hi (.int k' j)] [ht : Und P T (.slice e)] [hz : Sz P e sz] [hs : AtS v e α sz cv l s] [hE : ElT P e α sz cv av] [hd : Is (Nat.ble n d = false)] (h1 : 0 ≤ j) (h2 : j ≤ l.length)
    (hk : ∀ v', AtS v' e α sz cv (l.take j.toNat) s → VK C R n ((d, v') :: L) Γ (KL P all Q rest)) : VK C R n L Γ (KL P all Q (⟨some d, .slice T x none (some hi) none, ty, pos, af, none⟩ :: rest)) := v_by (y_subH h1 h2) (hk _ (by simpa using hs.sub hE.len (lo := 0) (hi := j.toNat) (by omega) (by omega)))
theorem v_1subH {K : Act → World → Prop} {d T : Nat} {ty : TypeId} {pos : String} {af : Array Edge} {x hi : Operand} {k' : IntKind} {j : Int} [hx : Ev L x v] [hhi : Ev L hi (.int k' j)] [ht : Und P T (.slice e)] [hz : Sz P e sz] [hs : AtS v e α sz cv l s] [hE : ElT P e α sz cv av] [hd : Is (Nat.ble n d = false)] (h1 : 0 ≤ j) (h2 : j ≤ l.length)
    (hk : ∀ v', AtS v' e α sz cv (l.take j.toNat) s → VK C R n ((d, v') :: L) Γ K) : VK C R n L Γ (wp1 P all Q ⟨some d, .slice T x none (some hi) none, ty, pos, af, none⟩ K) := v_1by (y_subH h1 h2) (hk _ (by simpa using hs.sub hE.len (lo := 0) (hi := j.toNat) (by omega) (by omega)))
theorem v_tsubH {d T m : Nat} {ty : TypeId} {pos : String} {af : Array Edge} {x hi : Operand} {k' : IntKind} {j : Int} [hx : Ev L x v] [hhi : Ev L hi (.int k' j)] {Rs Rt : List Hp} {kl : Nat} {al : Bool} {pl : Pl} [ht : Und P T (.slice e)] [hz : Sz P e sz] [hs : AtS v e α sz cv l s] [hE : ElT P e α sz cv av] [hq : QP Q d] [hd : Is (Nat.ble n d = false)] (h1 : 0 ≤ j) (h2 : j ≤ l.length)
    (hk : ∀ v', AtS v' e α sz cv (l.take j.toNat) s → VK C R n ((d, v') :: L) Γ (KA P all Q Rs kl Rt al pl)) : VK C R n L Γ (KT P all Q Rs kl Rt al m ⟨some d, .slice T x none (some hi) none, ty, pos, af, none⟩ pl) := v_tBy (y_subH h1 h2) (hk _ (by simpa using hs.sub hE.len (lo := 0) (hi := j.toNat) (by omega) (by omega)))
/-- a part of a list that is written out -/
class GetL (xs : List Value) (i : Nat) (u : outParam Value) : Prop where
  out : xs[i]? = some u
instance getL0 (u : Value) (xs : List Value) : GetL (u :: xs) 0 u := ⟨rfl⟩
instance getLS (u v : Value) (xs : List Value) (i : Nat) [h : GetL xs i u] : GetL (v :: xs) (i + 1) u := ⟨by simpa using h.out⟩
theorem y_elemF {t i fo : Nat} {p : Operand} {u : Value} [hp : Ev L p (.pointer (some ⟨slb v, slo v + i * sz + fo, none⟩))] [hs : AtS v e α sz cv l s] [hg : Seg R Γ s] [hE : ElT P e α sz cv av] [hsc : Sc P t] (h : i < l.length) [hu : GetL (cv l[i]) fo u] :
    Y P R L Γ (.load t p) u := ⟨fun C n a w _ _ _ _ _ kn iv => by
  have hw := hg.out C w iv
  rcases hs.out.2 with ⟨_, h0⟩ | ⟨b, off, cap, cur, et, fr, rfl, _⟩
  · omega
  · have hp' := hp.out _ a kn
    simp only [slb, slo] at hp'
    have hfo : fo < sz := hE.len l[i] ▸ (List.getElem?_eq_some_iff.1 hu.out).1
    have hc := cvs_get (cv := cv) hE.len l i _ (List.getElem?_eq_getElem h)
    have h2 : (cvs cv l)[i * sz + fo]? = some u := by
      have := hu.out
      rw [← hc, List.getElem?_take, if_pos hfo, List.getElem?_drop] at this
      exact this
    have := hs.out.cell hw (i * sz + fo) u h2
    rw [← Nat.add_assoc] at this
    simp [execOp, hp', Instr.loadAt, Instr.sureAddr, loadVar, hsc.out, this]⟩
/-- an element written -/
theorem v_set {K : Act → World → Prop} {t i : Nat} {x y : Operand} {z : α} {u : Value} {cs : List Value} {ca : Array Value} {ty : TypeId} {pos : String} {af : Array Edge} {Γ' : List Hp} [hx : Ev L x (.pointer (some ⟨slb v, slo v + i * sz, none⟩))] [hy : Ev L y u] [hs : OwnS v e α sz cv l s] [hE : ElT P e α sz cv av] [hz : Sz P t sz]
    [hcu : Cel u ca] [hca : LisA ca cs] [hc : Cvt cv cs z] [hdel : Del Γ s Γ'] (hi : i < l.length)
    (h : ∀ s', OwnS v e α sz cv (l.set i z) s' → (l.set i z).length = l.length → VK C R n L (s' :: Γ') K) : VK C R n L Γ (wp1 P all Q ⟨none, .store t x y, ty, pos, af, none⟩ K) := VK.mk fun a w k iv => wp1.mk (by
  have hzc := hc.out
  have hca' := hca.out
  subst hca'
  subst hzc
  have ip : Inv C R (s :: Γ') w := iv.perm (by simpa using hdel.out)
  obtain ⟨hl, ⟨_, h0, _⟩ | ⟨b, off, cap, cur, eb, rfl, rfl, hnc, hcm, hsz, hcur⟩⟩ := hs.out
  · omega
  · have hb := ip.own (b, .cells cur eb (0, 0)) (by simp)
    have hx' := hx.out n a k
    simp only [slb, slo] at hx'
    have hlen := hE.len z
    have hfit : off + i * sz + (cv z).length ≤ cur.size := by
      rw [hlen]
      have : (i + 1) * sz ≤ cap * sz := Nat.mul_le_mul_right _ (by omega)
      rw [Nat.add_mul] at this
      omega
    have hst := run_storeCells_at (P := P) b (off + i * sz) eb (cv z) 0 cur w hb (by simpa using hfit) (hE.one z)
    simp only [Nat.add_zero] at hst
    have hrun : (execOp a.eval ⟨none, .store t x y, ty, pos, af, none⟩).run P w = .ok .skip (w.setRow b (cur.toList.take (off + i * sz) ++ cv z ++ cur.toList.drop (off + i * sz + (cv z).length)).toArray) := by
      simp [execOp, Instr.storeAt, Instr.sureAddr, hx', hy.out n a k, storeVar, hcu.out, hz.out, hlen, hst]
    simp only [Region.wanted, if_true]
    refine .inl ?_
    simp only [Oper.wp, hrun, Oper.upon]
    refine (h [(b, .cells (cur.toList.take (off + i * sz) ++ cv z ++ cur.toList.drop (off + i * sz + (cv z).length)).toArray eb (0, 0))] ⟨?_⟩ (by simp)).out _ _ k.putNone (ip.upd (updHere Γ' b (.cells cur eb (0, 0))) (setRow_heap w b cur _ eb (0, 0) hb) (fun j hj => setRow_other w b j _ hj) (by simp) rfl rfl rfl rfl)
    refine ⟨by rw [cvs_len hE.len], .inr ⟨b, off, cap, _, eb, by simp, rfl, by simpa using hnc, hcm, ?_, ?_⟩⟩
    · have e0 : (cur.toList.take (off + i * sz)).length = off + i * sz := by rw [List.length_take, Array.length_toList]; omega
      rw [List.size_toArray, List.length_append, List.length_append, e0, List.length_drop, Array.length_toList (xs := cur)]
      omega
    · have h1 : i * sz + (cv z).length ≤ l.length * sz := by
        have : (i + 1) * sz ≤ l.length * sz := Nat.mul_le_mul_right _ (by omega)
        rw [hlen]
        rwa [Nat.add_mul, Nat.one_mul] at this
      have h2 : l.length * sz ≤ (cur.toList.drop off).length := by
        have := Nat.mul_le_mul_right sz hnc
        rw [List.length_drop, Array.length_toList (xs := cur)]
        omega
      rw [cvs_set hE.len l i z hi, ← hcur, List.length_set]
      have := take_mid h1 h2
      have e2 : (cur.toList.take off).length = off := by rw [List.length_take, Array.length_toList]; omega
      have e1 : cur.toList.take (off + i * sz) = cur.toList.take off ++ (cur.toList.drop off).take (i * sz) := by rw [List.take_add]
      have e3 : cur.toList.drop (off + i * sz + (cv z).length) = (cur.toList.drop off).drop (i * sz + (cv z).length) := by rw [List.drop_drop]; congr 1; omega
      rw [e1, e3, List.append_assoc, List.append_assoc, List.drop_left' e2]
      rw [hlen] at this ⊢
      simpa [List.append_assoc] using this)
end

/-! ### typed maps -/
class OwnM (b : Nat) (α β : outParam Type) (kv : outParam (α → Value)) (vv : outParam (β → Value)) (m : outParam (List (α × β))) (s : outParam Hp) : Prop where
  out : MpAt kv vv b m s
section
variable {P : Program} {C : Cx} {R : List Hp} {n : Nat} {all : Array Oper} {Q : Exit → Act → World → Prop} {L : Env} {Γ : List Hp} {rest : List Oper} {w : World} {α β : Type} [DecidableEq α] {kv : α → Value} {vv : β → Value} {m : List (α × β)} {s : Hp} {b : Nat}
/-- a key that is written out -/
class Kvt {α : Type} (kv : α → Value) (u : Value) (k : outParam α) : Prop where
  out : kv k = u
instance (q : IntKind) (x : Int) : Kvt (fun x => .int q x) (.int q x) x := ⟨rfl⟩
theorem y_lkS {T kt et : Nat} {x ix : Operand} {u : Value} {k : α} {v : β} [hx : Ev L x (.map (some b))] [hi : Ev L ix u] [ht : Und P T (.map kt et)] [hm : OwnM b α β kv vv m s] [hk : KeyT P kt α kv] [hu : Kvt kv u k] [hs : Seg R Γ s] (hg : mget m k = some v) :
    Y P R L Γ (.lookup T x ix true) (.tuple #[vv v, .bool true]) := by
  have e := hu.out
  subst e
  exact y_lookupS (kt := kt) (et := et) hm.out hg
theorem y_lkN {T kt et : Nat} {x ix : Operand} {u z : Value} {k : α} [hx : Ev L x (.map (some b))] [hi : Ev L ix u] [ht : Und P T (.map kt et)] [hm : OwnM b α β kv vv m s] [hk : KeyT P kt α kv] [hz : Zr P et z] [hu : Kvt kv u k] [hs : Seg R Γ s] (hg : mget m k = none) :
    Y P R L Γ (.lookup T x ix true) (.tuple #[z, .bool false]) := by
  have e := hu.out
  subst e
  exact y_lookupN (kt := kt) (et := et) hm.out hg
/-- a lookup: both ways -/
theorem v_lk {d T kt et : Nat} {x ix : Operand} {u z : Value} {k : α} {ty : TypeId} {pos : String} {af : Array Edge} [hx : Ev L x (.map (some b))] [hi : Ev L ix u] [ht : Und P T (.map kt et)] [hm : OwnM b α β kv vv m s] [hk : KeyT P kt α kv] [hz : Zr P et z] [hu : Kvt kv u k] [hs : Seg R Γ s] [hd : Is (Nat.ble n d = false)]
    (h1 : ∀ v, mget m k = some v → VK C R n ((d, .tuple #[vv v, .bool true]) :: L) Γ (KL P all Q rest)) (h2 : mget m k = none → VK C R n ((d, .tuple #[z, .bool false]) :: L) Γ (KL P all Q rest)) : VK C R n L Γ (KL P all Q (⟨some d, .lookup T x ix true, ty, pos, af, none⟩ :: rest)) := by
  cases hg : mget m k with
  | some v => exact v_by (y_lkS hg) (h1 v hg)
  | none => exact v_by (y_lkN hg) (h2 hg)
theorem v_1lk {K : Act → World → Prop} {d T kt et : Nat} {x ix : Operand} {u z : Value} {k : α} {ty : TypeId} {pos : String} {af : Array Edge} [hx : Ev L x (.map (some b))] [hi : Ev L ix u] [ht : Und P T (.map kt et)] [hm : OwnM b α β kv vv m s] [hk : KeyT P kt α kv] [hz : Zr P et z] [hu : Kvt kv u k] [hs : Seg R Γ s] [hd : Is (Nat.ble n d = false)]
    (h1 : ∀ v, mget m k = some v → VK C R n ((d, .tuple #[vv v, .bool true]) :: L) Γ K) (h2 : mget m k = none → VK C R n ((d, .tuple #[z, .bool false]) :: L) Γ K) : VK C R n L Γ (wp1 P all Q ⟨some d, .lookup T x ix true, ty, pos, af, none⟩ K) := by
  cases hg : mget m k with
  | some v => exact v_1by (y_lkS hg) (h1 v hg)
  | none => exact v_1by (y_lkN hg) (h2 hg)
theorem v_tlk {d T kt et i : Nat} {r : Pl} {x ix : Operand} {u z : Value} {k : α} {ty : TypeId} {pos : String} {af : Array Edge} {Rs Rt : List Hp} {kl : Nat} {al : Bool} [hx : Ev L x (.map (some b))] [hi : Ev L ix u] [ht : Und P T (.map kt et)] [hm : OwnM b α β kv vv m s] [hk : KeyT P kt α kv] [hz : Zr P et z] [hu : Kvt kv u k] [hs : Seg Rs [] s] [hd : Is (Nat.ble n d = false)] [hq : QP Q d]
    (h1 : ∀ v, mget m k = some v → VK C R n ((d, .tuple #[vv v, .bool true]) :: L) Γ (KA P all Q Rs kl Rt al r)) (h2 : mget m k = none → VK C R n ((d, .tuple #[z, .bool false]) :: L) Γ (KA P all Q Rs kl Rt al r)) : VK C R n L Γ (KT P all Q Rs kl Rt al i ⟨some d, .lookup T x ix true, ty, pos, af, none⟩ r) := by
  cases hg : mget m k with
  | some v => exact v_tBy (y_lkS hg) (h1 v hg)
  | none => exact v_tBy (y_lkN hg) (h2 hg)
theorem v_tlkT {d T kt et i : Nat} {r : Pl} {x ix : Operand} {u z : Value} {k : α} {ty : TypeId} {pos : String} {af : Array Edge} {Rs Rt : List Hp} {kl : Nat} (hw : waitsFor all kl i = true) [hx : Ev L x (.map (some b))] [hi : Ev L ix u] [ht : Und P T (.map kt et)] [hm : OwnM b α β kv vv m s] [hk : KeyT P kt α kv] [hz : Zr P et z] [hu : Kvt kv u k] [hs : Seg Rt [] s] [hd : Is (Nat.ble n d = false)] [hq : QP Q d]
    (h1 : ∀ v, mget m k = some v → VK C R n ((d, .tuple #[vv v, .bool true]) :: L) Γ (KA P all Q Rs kl Rt true r)) (h2 : mget m k = none → VK C R n ((d, .tuple #[z, .bool false]) :: L) Γ (KA P all Q Rs kl Rt true r)) : VK C R n L Γ (KT P all Q Rs kl Rt true i ⟨some d, .lookup T x ix true, ty, pos, af, none⟩ r) := by
  cases hg : mget m k with
  | some v => exact v_tByT (y_lkS hg) hw (h1 v hg)
  | none => exact v_tByT (y_lkN hg) hw (h2 hg)
instance yLenM (T kt et : TypeId) (x : Operand) [hx : Ev L x (.map (some b))] [ht : Und P T (.map kt et)] [hm : OwnM b α β kv vv m s] [hs : Seg R Γ s] : Y P R L Γ (.call ⟨.builtin .len, #[x], #[T]⟩) (.int .i64 m.length) := y_mlen hm.out
/-- a map's value that is written out -/
class Vvt {β : Type} (vv : β → Value) (u : Value) (v : outParam β) : Prop where
  out : vv v = u
instance (q : IntKind) (x : Int) : Vvt (fun x => .int q x) (.int q x) x := ⟨rfl⟩
theorem v_put {K : Act → World → Prop} {T kt et : Nat} {x ix y : Operand} {u uy : Value} {k : α} {v : β} {Γ' : List Hp} {ty : TypeId} {pos : String} {af : Array Edge} [hx : Ev L x (.map (some b))] [hi : Ev L ix u] [hy : Ev L y uy] [ht : Und P T (.map kt et)] [hm : OwnM b α β kv vv m s] [hk : KeyT P kt α kv] [hu : Kvt kv u k] [hv : Vvt vv uy v] [hdel : Del Γ s Γ']
    (h : ∀ s', OwnM b α β kv vv (mput m k v) s' → VK C R n L (s' :: Γ') K) : VK C R n L Γ (wp1 P all Q ⟨none, .mapUpdate T x ix y, ty, pos, af, none⟩ K) := by
  have e := hu.out
  have e2 := hv.out
  subst e; subst e2
  exact v_mapPut (kt := kt) (et := et) hm.out (fun s' h' => h s' ⟨h'⟩)
theorem v_del {K : Act → World → Prop} {T T2 kt et : Nat} {x ix : Operand} {u : Value} {k : α} {Γ' : List Hp} {ty : TypeId} {pos : String} {af : Array Edge} [hx : Ev L x (.map (some b))] [hi : Ev L ix u] [ht : Und P T (.map kt et)] [hm : OwnM b α β kv vv m s] [hk : KeyT P kt α kv] [hu : Kvt kv u k] [hdel : Del Γ s Γ']
    (h : ∀ s', OwnM b α β kv vv (mdel m k) s' → VK C R n L (s' :: Γ') K) : VK C R n L Γ (wp1 P all Q ⟨none, .call ⟨.builtin .delete, #[x, ix], #[T, T2]⟩, ty, pos, af, none⟩ K) := by
  have e := hu.out
  subst e
  exact v_mapDel (kt := kt) (et := et) hm.out (fun s' h' => h s' ⟨h'⟩)
end

section
variable {P : Program} {C : Cx} {R : List Hp} {n : Nat} {all : Array Oper} {Q : Exit → Act → World → Prop} {L : Env} {Γ : List Hp} {rest : List Oper} {w : World}
/-- a call that changes what is its own, and reads nothing else -/
theorem v_callO {K : Act → World → Prop} {d f : Nat} {xs : Array Operand} {ats : Array TypeId} {ty : TypeId} {pos : String} {af : Array Edge} {vs : List Value} {Γc Γr : List Hp} {Post : Value → List Hp → Prop}
    [hf : Fn1 P f] [hx : Evs L xs.toList vs] [hd : Is (Nat.ble n d = false)] {M : List Nat} {w0 : World} {D : Bool} (hs : SpecD D P f vs.toArray [] Γc Post) [hp : Pick Γ Γc Γr]
    (h : ∀ v Γ', Post v Γ' → VK ⟨M, w0, D⟩ R n ((d, v) :: L) (Γ' ++ Γr) K) : VK ⟨M, w0, D⟩ R n L Γ (wp1 P all Q ⟨some d, .call ⟨.value (.func f), xs, ats⟩, ty, pos, af, none⟩ K) :=
  v_call hs (fun _ _ hb => by cases hb) h
/-- a call that changes nothing -/
theorem v_callR {K : Act → World → Prop} {d f : Nat} {xs : Array Operand} {ats : Array TypeId} {ty : TypeId} {pos : String} {af : Array Edge} {vs : List Value} {Rc : List Hp} {Post : Value → List Hp → Prop}
    [hf : Fn1 P f] [hx : Evs L xs.toList vs] [hd : Is (Nat.ble n d = false)] {M : List Nat} {w0 : World} {D : Bool} (hs : SpecD D P f vs.toArray Rc [] Post) [hsub : Sub Rc R Γ]
    (h : ∀ v Γ', Post v Γ' → VK ⟨M, w0, D⟩ R n ((d, v) :: L) (Γ' ++ Γ) K) : VK ⟨M, w0, D⟩ R n L Γ (wp1 P all Q ⟨some d, .call ⟨.value (.func f), xs, ats⟩, ty, pos, af, none⟩ K) :=
  v_call hs (fun _ hb => by cases hb) h
end

section
variable {P : Program} {C : Cx} {R : List Hp} {n : Nat} {all : Array Oper} {Q : Exit → Act → World → Prop} {L : Env} {Γ : List Hp} {rest : List Oper} {w : World}
/-- the state at a cut, for some ghost x -/
def Cut (C : Cx) (R : List Hp) (n : Nat) {α : Type} (ts : List Nat) (vals : α → List Value) (Γs : α → List Hp) (ok : α → Prop) (a : Act) (w : World) : Prop :=
  ∃ x, ok x ∧ Kn n (ts.zip (vals x)) a ∧ Inv C R (Γs x) w
/-- a piece of code, and what follows it from one state that all its ways come to -/
theorem v_cut {x y : Code} {α : Type} (ts : List Nat) (vals : α → List Value) (Γs : α → List Hp) (ok : α → Prop) (h1 : VK C R n L Γ (KC P x (Exit.then (Cut C R n ts vals Γs ok) Q)))
    (h2 : ∀ x, ok x → VK C R n (zipE ts (vals x)) (Γs x) (KC P y Q)) : VK C R n L Γ (KC P (.seq x y) Q) := VK.mk fun a w k i => KC.mk (wp_seq (Code.wp_mono (fun e a w h => by
  cases e with
  | normal =>
    obtain ⟨x, h0, hk, hi⟩ := h
    exact ((h2 x h0).out a w (by rw [zipE_eq]; exact hk) hi).out
  | _ => exact h) ((h1.out a w k i).out)))
theorem v_cutB (id : Nat) {c y : Code} {α : Type} (ts : List Nat) (vals : α → List Value) (Γs : α → List Hp) (ok : α → Prop) (h1 : VK C R n L Γ (KC P (.block id c) (Exit.then (Cut C R n ts vals Γs ok) Q)))
    (h2 : ∀ x, ok x → VK C R n (zipE ts (vals x)) (Γs x) (KC P y Q)) : VK C R n L Γ (KC P (.seq (.block id c) y) Q) := v_cut ts vals Γs ok h1 h2
theorem v_cutR (id : Nat) {ops : Array Oper} {d : Bool} {c y : Code} {α : Type} (ts : List Nat) (vals : α → List Value) (Γs : α → List Hp) (ok : α → Prop) (h1 : VK C R n L Γ (KC P (.seq (.region id ops d) c) (Exit.then (Cut C R n ts vals Γs ok) Q)))
    (h2 : ∀ x, ok x → VK C R n (zipE ts (vals x)) (Γs x) (KC P y Q)) : VK C R n L Γ (KC P (.seq (.seq (.region id ops d) c) y) Q) := v_cut ts vals Γs ok h1 h2
theorem v_here {α : Type} {ts : List Nat} {vals : α → List Value} {Γs : α → List Hp} {ok : α → Prop} (x : α) {vs : List Value} {Γd : List Hp} [hg : Get L ts vs] (hv : vs = vals x) (hp : Pick Γ (Γs x) Γd) (h0 : ok x) :
    VK C R n L Γ (KE (Exit.then (Cut C R n ts vals Γs ok) Q) .normal) := VK.mk fun _ _ k i =>
  KE.mk ⟨x, h0, k.weaken (fun t v ht => hg.out.2 t v (hv ▸ ht)), i.take hp.out⟩
end

/-! ### the end of a function, what is kept found from behind -/
section
variable {P : Program} {R : List Hp} {n : Nat} {L : Env} {Γ : List Hp} {fn : Func} {Post : Value → List Hp → Prop} {M : List Nat} {w0 : World} {D : Bool}
theorem v_o0 (hf : fn.results = #[]) {Γk : List Hp} (h : Post (.tuple #[]) Γk) (hp : ∃ Γd, Pick Γ Γk Γd) : VK ⟨M, w0, D⟩ R n L Γ (KE (bodyPost P fn fun e w' => ∃ v Γ', e = .returned v ∧ Post v Γ' ∧ Inv ⟨M, w0, D⟩ R Γ' w') .ret) := by
  obtain ⟨_, hp⟩ := hp; exact v_out0 hf h
theorem v_o1 {r : ResultVar} {v : Value} (hf : fn.results = #[r]) [hr : Res P R L Γ r v] {Γk : List Hp} (h : Post v Γk) (hp : ∃ Γd, Pick Γ Γk Γd) : VK ⟨M, w0, D⟩ R n L Γ (KE (bodyPost P fn fun e w' => ∃ v Γ', e = .returned v ∧ Post v Γ' ∧ Inv ⟨M, w0, D⟩ R Γ' w') .ret) := by
  obtain ⟨_, hp⟩ := hp; exact v_out1 hf h
theorem v_o2 {r r2 : ResultVar} {v v2 : Value} (hf : fn.results = #[r, r2]) [hr : Res P R L Γ r v] [hr2 : Res P R L Γ r2 v2] {Γk : List Hp} (h : Post (.tuple #[v, v2]) Γk) (hp : ∃ Γd, Pick Γ Γk Γd) : VK ⟨M, w0, D⟩ R n L Γ (KE (bodyPost P fn fun e w' => ∃ v Γ', e = .returned v ∧ Post v Γ' ∧ Inv ⟨M, w0, D⟩ R Γ' w') .ret) := by
  obtain ⟨_, hp⟩ := hp; exact v_out2 hf h
theorem v_o3 {r r2 r3 : ResultVar} {v v2 v3 : Value} (hf : fn.results = #[r, r2, r3]) [hr : Res P R L Γ r v] [hr2 : Res P R L Γ r2 v2] [hr3 : Res P R L Γ r3 v3] {Γk : List Hp} (h : Post (.tuple #[v, v2, v3]) Γk) (hp : ∃ Γd, Pick Γ Γk Γd) : VK ⟨M, w0, D⟩ R n L Γ (KE (bodyPost P fn fun e w' => ∃ v Γ', e = .returned v ∧ Post v Γ' ∧ Inv ⟨M, w0, D⟩ R Γ' w') .ret) := by
  obtain ⟨_, hp⟩ := hp; exact v_out3 hf h
theorem v_o4 {r r2 r3 r4 : ResultVar} {v v2 v3 v4 : Value} (hf : fn.results = #[r, r2, r3, r4]) [hr : Res P R L Γ r v] [hr2 : Res P R L Γ r2 v2] [hr3 : Res P R L Γ r3 v3] [hr4 : Res P R L Γ r4 v4] {Γk : List Hp} (h : Post (.tuple #[v, v2, v3, v4]) Γk) (hp : ∃ Γd, Pick Γ Γk Γd) :
    VK ⟨M, w0, D⟩ R n L Γ (KE (bodyPost P fn fun e w' => ∃ v Γ', e = .returned v ∧ Post v Γ' ∧ Inv ⟨M, w0, D⟩ R Γ' w') .ret) := by
  obtain ⟨_, hp⟩ := hp; exact v_out4 hf h
end
end Go.SX

/- From a contract to a call in memory: the bridge to the rows' frames. -/
namespace Go.SX
set_option linter.unusedSimpArgs false
set_option linter.unusedVariables false
open Go Go.RowKit
theorem inv0 {w : World} {R : List Hp} {D : Bool} (hR : ∀ x ∈ R.flatten, w.heap[x.1]? = some x.2) : Inv ⟨keys [], w, D⟩ R [] w where
  os := rfl
  tape := rfl
  output := rfl
  size := Nat.le_refl _
  ro := hR
  own := by intro x hx; cases hx
  nodup := List.nodup_nil
  apart := by intro b hb; cases hb
  may := by intro b hb; cases hb
  frame := fun _ _ _ => rfl
  dr := fun _ => Nat.le_refl _
theorem calls_of_spec {P : Program} {f : FuncId} {args : Array Value} {v : Value} (h : Spec P f args [] [] fun u Γ => u = v ∧ Γ = []) (w : World) : Calls P f args w fun e w' => e = .returned v ∧ Below w.heap.size w w' := by
  refine (h w (inv0 (by intro x hx; cases hx))).mono ?_
  rintro e w' ⟨u, Γ', rfl, ⟨rfl, rfl⟩, i⟩
  exact ⟨rfl, ⟨i.os, i.tape, i.output, i.size, fun b hb => i.frame b hb (fun hm => by cases hm)⟩⟩
/-- .. with what it reads -/
theorem calls_of_specR {P : Program} {f : FuncId} {args : Array Value} {v : Value} {R : List Hp} (h : Spec P f args R [] fun u Γ => u = v ∧ Γ = []) (w : World) (hR : ∀ x ∈ R.flatten, w.heap[x.1]? = some x.2) : Calls P f args w fun e w' => e = .returned v ∧ Below w.heap.size w w' := by
  refine (h w (inv0 hR)).mono ?_
  rintro e w' ⟨u, Γ', rfl, ⟨rfl, rfl⟩, i⟩
  exact ⟨rfl, ⟨i.os, i.tape, i.output, i.size, fun b hb => i.frame b hb (fun hm => by cases hm)⟩⟩
end Go.SX

/- From a row's data to typed things: what an argument reads as, is. -/
namespace Go.SX
set_option linter.unusedSimpArgs false
set_option linter.unusedVariables false
open Go Go.Deep
/-- whatever reads as data of type t is (the cells of) a thing -/
class Opn (P : Program) (t : TypeId) (α : outParam Type) (cv : outParam (α → List Value)) (ok : outParam (α → Prop)) : Prop where
  out : ∀ {H : Type} {enc : TypeId × Value → H} {w : World} {base : Nat} {spare : Nat → Bool} {held : Bool} {fuel : Nat} {cs : List Value} {x : DataW H × List MemPlace}, DataW.trod enc P w base spare held fuel t cs = some x → ∃ y, cs = cv y ∧ ok y
def inI64 (x : Int) : Prop := -9223372036854775808 ≤ x ∧ x ≤ 9223372036854775807
theorem opnI64 {P : Program} {t : TypeId} (ht : P.underlying t = some (.int .i64)) : Opn P t Int (fun x => [.int .i64 x]) inI64 := ⟨fun h => by
  obtain ⟨n, rfl, _, hw⟩ := DataW.trod_int ht h
  refine ⟨n, rfl, ?_⟩
  have hw := by simpa [Lit.wf, IntKind.min, IntKind.max, IntKind.bits, IntKind.signed] using hw
  unfold inI64; omega⟩
def inU64 (x : Int) : Prop := 0 ≤ x ∧ x ≤ 18446744073709551615
theorem opnU64 {P : Program} {t : TypeId} (ht : P.underlying t = some (.int .u64)) : Opn P t Int (fun x => [.int .u64 x]) inU64 := ⟨fun h => by
  obtain ⟨n, rfl, _, hw⟩ := DataW.trod_int ht h
  refine ⟨n, rfl, ?_⟩
  have hw := by simpa [Lit.wf, IntKind.min, IntKind.max, IntKind.bits, IntKind.signed] using hw
  unfold inU64; omega⟩
def inU8 (x : Int) : Prop := 0 ≤ x ∧ x ≤ 255
theorem opnU8 {P : Program} {t : TypeId} (ht : P.underlying t = some (.int .u8)) : Opn P t Int (fun x => [.int .u8 x]) inU8 := ⟨fun h => by
  obtain ⟨n, rfl, _, hw⟩ := DataW.trod_int ht h
  refine ⟨n, rfl, ?_⟩
  have hw := by simpa [Lit.wf, IntKind.min, IntKind.max, IntKind.bits, IntKind.signed] using hw
  unfold inU8; omega⟩
theorem opnBool {P : Program} {t : TypeId} (ht : P.underlying t = some .bool) : Opn P t Bool (fun x => [.bool x]) (fun _ => True) := ⟨fun h => by
  obtain ⟨n, rfl, _⟩ := DataW.trod_bool ht h
  exact ⟨n, rfl, trivial⟩⟩
theorem opnStr {P : Program} {t : TypeId} (ht : P.underlying t = some .string) : Opn P t ByteArray (fun x => [.string x]) (fun x => x.size ≤ maxLen) := ⟨fun h => by
  obtain ⟨n, rfl, _, hs⟩ := DataW.trod_string ht h
  exact ⟨n, rfl, hs⟩⟩
theorem field_data {P : Program} {H : Type} {enc : TypeId × Value → H} {w : World} {base : Nat} {spare : Nat → Bool} {held : Bool} {n : Nat} {cs : List Value} {xs : List (DataW H × List MemPlace)} {fs : Array Field} (hf : ∀ (i : Nat) (f : Field), fs[i]? = some f → DataW.trod enc P w base spare held n f.type ((cs.drop f.offset).take (P.cellsOf f.type)) = xs[i]?)
    (i ft off sz : Nat) (h1 : (fs[i]?).map (fun f => (f.type, f.offset)) = some (ft, off)) (hc : P.cellsOf ft = sz) (hi : i < xs.length) : ∃ x, DataW.trod enc P w base spare held n ft ((cs.drop off).take sz) = some x := by
  cases hq : fs[i]? with
  | none => rw [hq] at h1; cases h1
  | some f =>
    rw [hq] at h1
    simp at h1
    have := hf i f hq
    rw [h1.1, h1.2, hc, List.getElem?_eq_getElem hi] at this
    exact ⟨_, this⟩
theorem cvs_idx {α : Type} {cv : α → List Value} {sz : Nat} (h : ∀ x, (cv x).length = sz) (l : List α) (i j : Nat) (x : α) (hx : l[i]? = some x) (hj : j < sz) : (cvs cv l)[i * sz + j]? = (cv x)[j]? := by
  rw [← cvs_get h l i x hx, List.getElem?_take, if_pos hj, List.getElem?_drop]
theorem choose_list {α : Type} {p : Nat → α → Prop} : ∀ (n : Nat), (∀ i, i < n → ∃ y, p i y) → ∃ l : List α, l.length = n ∧ ∀ i y, l[i]? = some y → p i y
  | 0, _ => ⟨[], rfl, fun i y h => by simp at h⟩
  | n + 1, h => by
    obtain ⟨l, hl, hp⟩ := choose_list n (fun i hi => h i (by omega))
    obtain ⟨y, hy⟩ := h n (by omega)
    refine ⟨l ++ [y], by simp [hl], fun i z hz => ?_⟩
    by_cases hi : i < l.length
    · rw [List.getElem?_append_left hi] at hz; exact hp i z hz
    · rw [List.getElem?_append_right (by omega)] at hz
      have := (List.getElem?_eq_some_iff.1 hz).1
      have hi0 : i - l.length = 0 := by simp at this; omega
      rw [hi0] at hz
      simp at hz; subst hz
      have : i = n := by omega
      rw [this]; exact hy
/-- A SLICE THAT IS HANDED IN: its things, and where they lie. -/
theorem open_AtS {P : Program} {t e : TypeId} {α : Type} {sz : Nat} {cv : α → List Value} {av : α → Value} {ok : α → Prop} [hO : Opn P e α cv ok] [hE : ElT P e α sz cv av] {H : Type} {enc : TypeId × Value → H} {w : World} {base : Nat} {spare : Nat → Bool} {held : Bool} {v : Value} {d : DataW H} {ps : List MemPlace}
    (hu : P.underlying t = some (.slice e)) (hc : P.cellsOf e = sz) (h0 : 0 < sz) (h : DataW.Trod enc P w base spare held t v d ps) (h1 : v.cells.toList = [v]) :
    ∃ (l : List α) (s : Hp), AtS v e α sz cv l s ∧ (∀ x ∈ l, ok x) ∧ (∀ x ∈ s, w.heap[x.1]? = some x.2) ∧ (l.length = 0 ∨ ∃ elems rest, d = .slice elems rest ∧ elems.length = l.length) := by
  obtain ⟨fuel, hf⟩ := h
  rw [h1] at hf
  rcases open_slice hu hf with ⟨hv, _⟩ | ⟨a, len, cap, m, n, D, Pl, hv, _, hl, hm, hmm, hx, hi⟩
  · simp at hv; subst hv
    exact ⟨[], [], ⟨⟨by simp [cvs], .inl ⟨.inl rfl, rfl⟩⟩⟩, by simp, by simp, .inl rfl⟩
  · simp at hv; subst hv
    have hlm : len ≤ m := by rw [hmm]; split <;> omega
    obtain ⟨l, hll, hlp⟩ := choose_list (p := fun i y => ok y ∧ ∀ j, j < sz → w.cell? ((a.add (i * sz)).add j) = (cv y)[j]?) len (fun i hi' => by
      obtain ⟨cs', hc1, hc2⟩ := hi i (by omega)
      obtain ⟨y, rfl, hy⟩ := hO.out hc2
      rw [hc] at hc1
      obtain ⟨_, _, hcell⟩ := World.cells?_some hc1
      exact ⟨y, hy, hcell⟩)
    have hd : d = .slice ((List.range len).map D) ((List.range (m - len)).map fun j => D (len + j)) := congrArg Prod.fst hx
    by_cases hz : len = 0
    · subst hz
      obtain rfl := List.eq_nil_of_length_eq_zero hll
      exact ⟨[], [], ⟨⟨by simp [cvs], .inl ⟨.inr ⟨a, cap, rfl⟩, rfl⟩⟩⟩, by simp, by simp, .inl rfl⟩
    · have key : ∀ i, i < len → ∀ j, j < sz → w.cell? (a.add (i * sz + j)) = (cvs cv l)[i * sz + j]? := fun i hi' j hj => by
        have hi2 : i < l.length := by omega
        obtain ⟨_, hq⟩ := hlp i _ (List.getElem?_eq_getElem hi2)
        rw [cvs_idx hE.len l i j _ (List.getElem?_eq_getElem hi2) hj, ← hq j hj, add_add]
      have hlen := cvs_len hE.len l
      have key2 : ∀ k, k < len * sz → w.cell? (a.add k) = (cvs cv l)[k]? := fun k hk => by
        have e1 : k = k / sz * sz + k % sz := by rw [Nat.mul_comm]; exact (Nat.div_add_mod k sz).symm
        rw [e1]
        exact key _ (Nat.div_lt_of_lt_mul (by rwa [Nat.mul_comm])) _ (Nat.mod_lt _ h0)
      have hpos : 0 < len * sz := Nat.mul_pos (by omega) h0
      have k0 := key2 0 hpos
      have hlt : 0 < (cvs cv l).length := by rw [hlen, hll]; exact hpos
      rw [List.getElem?_eq_getElem hlt] at k0
      obtain ⟨b, off, spot⟩ := a
      have hadd : ∀ k, (Addr.add ⟨b, off, spot⟩ k).block = b := fun k => by unfold Addr.add; split <;> rfl
      have hb : ∃ c et fr, w.heap[b]? = some (.cells c et fr) ∧ spot = none := by
        unfold World.cell? at k0
        rw [hadd] at k0
        split at k0
        · rename_i c et fr hb
          split at k0
          · cases k0
          · rename_i hs
            refine ⟨c, et, fr, hb, ?_⟩
            have : (Addr.add ⟨b, off, spot⟩ 0).spot = spot := by unfold Addr.add; simp
            rw [this] at hs
            cases spot with
            | none => rfl
            | some _ => simp at hs
        · cases k0
      obtain ⟨c, et, fr, hb, rfl⟩ := hb
      have hcell : ∀ k, k < len * sz → c[off + k]? = (cvs cv l)[k]? := fun k hk => by
        have := key2 k hk
        rw [add_at, cell_of hb] at this
        rw [← Array.getElem?_toList]
        simpa using this
      refine ⟨l, [(b, .cells c et fr)], ⟨⟨hlen, .inr ⟨b, off, cap, c, et, fr, by rw [hll], rfl, by omega, hm, ?_, ?_⟩⟩⟩, fun x hx' => ?_, by simpa using hb, .inr ⟨_, _, hd, by simp [hll]⟩⟩
      · have := hcell (len * sz - 1) (by omega)
        rw [List.getElem?_eq_getElem (by rw [hlen, hll]; omega)] at this
        have := (Array.getElem?_eq_some_iff.1 this).1
        rw [hll]; omega
      · refine List.ext_getElem? fun k => ?_
        by_cases hk : k < len * sz
        · rw [hll, List.getElem?_take, if_pos hk, List.getElem?_drop, Array.getElem?_toList]
          exact hcell k hk
        · rw [List.getElem?_eq_none (by rw [List.length_take, hll]; omega), List.getElem?_eq_none (by rw [hlen, hll]; omega)]
      · obtain ⟨i, hi', rfl⟩ := List.getElem_of_mem hx'
        exact (hlp i _ (List.getElem?_eq_getElem hi')).1
theorem okWide_slice {P : Program} {w : World} {r : Reach} {base : Nat} {t e : TypeId} {v : Value} (hu : P.underlying t = some (.slice e)) (h : Value.okWide P w r base t v) : v.cells.toList = [v] := by
  unfold Value.okWide at h
  rw [hu] at h
  simp only [Cell.okWide, hu] at h
  unfold Cell.ok at h
  rw [hu] at h
  cases v <;> first | rfl | (exfalso; simp at h; done) | simp_all
theorem size_le {H : Type} {P : Program} {ts : List TypeId} {ds : List (DataW H)} (h : (DataW.weightsEach P ts ds).all (· ≤ reachBytes) = true) {j t e b k : Nat} {d : DataW H} (ht : ts[j]? = some t) (hd : ds[j]? = some d) (hu : P.underlying t = some (.slice e)) (hb : P.bytesOf e = b)
    (hl : k = 0 ∨ ∃ elems rest, d = .slice elems rest ∧ elems.length = k) : k * b ≤ 140737488351232 := by
  rcases hl with rfl | ⟨el, rs, rfl, rfl⟩
  · simp
  · have := sized_slice h ht hd hu
    rw [hb] at this
    have h2 : el.length * b ≤ (el.length + rs.length) * b := Nat.mul_le_mul_right _ (Nat.le_add_right _ _)
    exact Nat.le_trans h2 this
theorem open_st {P : Program} {t : TypeId} {α : Type} {cv : α → List Value} {ok : α → Prop} [hO : Opn P t α cv ok] {fs : Array Field} {H : Type} {enc : TypeId × Value → H} {w : World} {base : Nat} {spare : Nat → Bool} {held : Bool} {v : Value} {d : DataW H} {ps : List MemPlace} {r : Reach} {b0 : Nat}
    (hu : P.underlying t = some (.struct fs)) (h : DataW.Trod enc P w base spare held t v d ps) (hv : Value.okWide P w r b0 t v) : ∃ y, v = .agg (cv y).toArray ∧ ok y := by
  unfold Value.okWide at hv
  rw [hu] at hv
  obtain ⟨cs, rfl, _⟩ := hv
  obtain ⟨fuel, hf⟩ := h
  obtain ⟨y, hy, hk⟩ := hO.out hf
  refine ⟨y, ?_, hk⟩
  rw [← hy]
  simp [Value.cells]
theorem open_i64 {P : Program} {t : TypeId} {H : Type} {enc : TypeId × Value → H} {w : World} {base : Nat} {spare : Nat → Bool} {held : Bool} {v : Value} {d : DataW H} {ps : List MemPlace} {r : Reach} {b0 : Nat}
    (hu : P.underlying t = some (.int .i64)) (h : DataW.Trod enc P w base spare held t v d ps) (hv : Value.okWide P w r b0 t v) : ∃ y, v = .int .i64 y ∧ inI64 y := by
  obtain ⟨n, rfl, _, _, hw⟩ := ChangeShapes.open_int hu hv h
  refine ⟨n, rfl, ?_⟩
  have hw := by simpa [Lit.wf, IntKind.min, IntKind.max, IntKind.bits, IntKind.signed] using hw
  unfold inI64; omega
end Go.SX

/- Symbolic execution: many steps by one search for instances; loops and cuts that carry along what they leave alone. -/
namespace Go.SX
set_option linter.unusedSimpArgs false
set_option linter.unusedVariables false
open Go

/-- one step or more: G is what is left to show -/
class St1 (C : Cx) (R : List Hp) (n : Nat) (L : Env) (Γ : List Hp) (K : Act → World → Prop) (G : outParam Prop) : Prop where
  out : G → VK C R n L Γ K
/-- .. or none -/
class St (C : Cx) (R : List Hp) (n : Nat) (L : Env) (Γ : List Hp) (K : Act → World → Prop) (G : outParam Prop) : Prop where
  out : G → VK C R n L Γ K
section
variable {P : Program} {C : Cx} {R : List Hp} {n : Nat} {all : Array Oper} {Q : Exit → Act → World → Prop} {L : Env} {Γ : List Hp} {rest : List Oper} {w : World} {G G2 : Prop} {K : Act → World → Prop}
instance (priority := high) stGo [h : St1 C R n L Γ K G] : St C R n L Γ K G := ⟨h.out⟩
instance (priority := low) stStop : St C R n L Γ K (VK C R n L Γ K) := ⟨id⟩
theorem stp [h : St1 C R n L Γ K G] (g : G) : VK C R n L Γ K := h.out g

/-! ### code -/
instance stSeq {x y : Code} [h : St C R n L Γ (KC P x (Exit.then (y.wp P Q) Q)) G] : St1 C R n L Γ (KC P (.seq x y) Q) G := ⟨fun g => v_seq (h.out g)⟩
instance stReg {id : Nat} {ops : List Oper} [h : St C R n L Γ (KL P ops.toArray Q ops) G] : St1 C R n L Γ (KC P (.region id ops.toArray false) Q) G := ⟨fun g => v_reg (h.out g)⟩
instance stSkip [h : St C R n L Γ (KE Q .normal) G] : St1 C R n L Γ (KC P .skip Q) G := ⟨fun g => v_skip (h.out g)⟩
instance stExit {id : Nat} [h : St C R n L Γ (KE Q (.exit id)) G] : St1 C R n L Γ (KC P (.exit id) Q) G := ⟨fun g => v_exit (h.out g)⟩
instance stRet [h : St C R n L Γ (KE Q .ret) G] : St1 C R n L Γ (KC P .ret Q) G := ⟨fun g => v_ret (h.out g)⟩
instance stBlock {id : Nat} {c : Code} [h : St C R n L Γ (KC P c (Exit.inBlock id Q)) G] : St1 C R n L Γ (KC P (.block id c) Q) G := ⟨fun g => v_block (h.out g)⟩
instance stCondT {t : Nat} {x y : Code} [hl : Lk L t (.bool true)] [h : St C R n L Γ (KC P x Q) G] : St1 C R n L Γ (KC P (.cond (.tmp t) x y) Q) G := ⟨fun g => v_condT (h.out g)⟩
instance stCondF {t : Nat} {x y : Code} [hl : Lk L t (.bool false)] [h : St C R n L Γ (KC P y Q) G] : St1 C R n L Γ (KC P (.cond (.tmp t) x y) Q) G := ⟨fun g => v_condF (h.out g)⟩
instance stThen {y : Code} [h : St C R n L Γ (KC P y Q) G] : St1 C R n L Γ (KE (Exit.then (y.wp P Q) Q) .normal) G := ⟨fun g => v_then (h.out g)⟩
instance stThenX {X : Act → World → Prop} {e : Nat} [h : St C R n L Γ (KE Q (.exit e)) G] : St1 C R n L Γ (KE (Exit.then X Q) (.exit e)) G := ⟨fun g => v_thenX (h.out g)⟩
instance stThenR {X : Act → World → Prop} [h : St C R n L Γ (KE Q .ret) G] : St1 C R n L Γ (KE (Exit.then X Q) .ret) G := ⟨fun g => v_thenR (h.out g)⟩
instance stBlockN {id : Nat} [h : St C R n L Γ (KE Q .normal) G] : St1 C R n L Γ (KE (Exit.inBlock id Q) .normal) G := ⟨fun g => v_blockN (h.out g)⟩
instance stBlockR {id : Nat} [h : St C R n L Γ (KE Q .ret) G] : St1 C R n L Γ (KE (Exit.inBlock id Q) .ret) G := ⟨fun g => v_blockR (h.out g)⟩
instance (priority := high) stBlockX {id : Nat} [h : St C R n L Γ (KE Q .normal) G] : St1 C R n L Γ (KE (Exit.inBlock id Q) (.exit id)) G := ⟨fun g => v_blockX (h.out g)⟩
instance stBlockO {id e : Nat} [he : Is (Nat.beq e id = false)] [h : St C R n L Γ (KE Q (.exit e)) G] : St1 C R n L Γ (KE (Exit.inBlock id Q) (.exit e)) G := ⟨fun g => v_blockO (h.out g)⟩

instance stNormal {fn : Func} {X : Ending → World → Prop} [h : St C R n L Γ (KE (bodyPost P fn X) .ret) G] : St1 C R n L Γ (KE (bodyPost P fn X) .normal) G := ⟨fun g => v_normal (h.out g)⟩

/-! ### operations in the text's order -/
/-- the slot of an operation -/
class GtL (l : List Oper) (j : Nat) (t : outParam Nat) : Prop where
  out : (l[j]?).bind (·.dst) = some t
instance gtl0 {t : Nat} {op : Op} {ty : TypeId} {pos : String} {af : Array Edge} {g : Option (Nat × Bool)} {l : List Oper} : GtL (⟨some t, op, ty, pos, af, g⟩ :: l) 0 t := ⟨rfl⟩
instance gtlS {o : Oper} {l : List Oper} {j t : Nat} [h : GtL l j t] : GtL (o :: l) (j + 1) t := ⟨by simpa using h.out⟩
theorem GtL.arr {l : List Oper} {j t : Nat} (h : GtL l j t) : ((l.toArray)[j]?).bind (·.dst) = some t := by simpa using h.out
class OpL (l : List Oper) (j : Nat) (o : outParam Oper) : Prop where
  out : l[j]? = some o
instance opl0 {o : Oper} {l : List Oper} : OpL (o :: l) 0 o := ⟨rfl⟩
instance oplS {o o' : Oper} {l : List Oper} {j : Nat} [h : OpL l j o] : OpL (o' :: l) (j + 1) o := ⟨by simpa using h.out⟩
theorem OpL.arr {l : List Oper} {j : Nat} {o : Oper} (h : OpL l j o) : (l.toArray)[j]? = some o := by simpa using h.out

instance stDone [h : St C R n L Γ (KE Q .normal) G] : St1 C R n L Γ (KL P all Q []) G := ⟨fun g => v_done (h.out g)⟩
instance stCons {dst : Option Tmp} {op : Op} {ty : TypeId} {pos : String} {af : Array Edge} [h : St C R n L Γ (wp1 P all Q ⟨dst, op, ty, pos, af, none⟩ (KL P all Q rest)) G] : St1 C R n L Γ (KL P all Q (⟨dst, op, ty, pos, af, none⟩ :: rest)) G := ⟨fun g => v_cons (h.out g)⟩
instance stGY {l : List Oper} {dst : Option Tmp} {op : Op} {ty : TypeId} {pos : String} {af : Array Edge} {j t : Nat} {b : Bool} [ht : GtL l j t] [hl : Lk L t (.bool b)] [h : St C R n L Γ (KL P l.toArray Q (⟨dst, op, ty, pos, af, none⟩ :: rest)) G] :
    St1 C R n L Γ (KL P l.toArray Q (⟨dst, op, ty, pos, af, some (j, b)⟩ :: rest)) G := ⟨fun g => v_guardY ht.arr (h.out g)⟩
instance stGTF {l : List Oper} {d : Nat} {op : Op} {ty : TypeId} {pos : String} {af : Array Edge} {j t : Nat} [ht : GtL l j t] [hl : Lk L t (.bool false)] [hd : Is (Nat.ble n d = false)] [h : St C R n ((d, undef) :: L) Γ (KL P l.toArray Q rest) G] :
    St1 C R n L Γ (KL P l.toArray Q (⟨some d, op, ty, pos, af, some (j, true)⟩ :: rest)) G := ⟨fun g => v_guardTF ht.arr (h.out g)⟩
instance stGFT {l : List Oper} {d : Nat} {op : Op} {ty : TypeId} {pos : String} {af : Array Edge} {j t : Nat} [ht : GtL l j t] [hl : Lk L t (.bool true)] [hd : Is (Nat.ble n d = false)] [h : St C R n ((d, undef) :: L) Γ (KL P l.toArray Q rest) G] :
    St1 C R n L Γ (KL P l.toArray Q (⟨some d, op, ty, pos, af, some (j, false)⟩ :: rest)) G := ⟨fun g => v_guardFT ht.arr (h.out g)⟩
instance stGTFn {l : List Oper} {op : Op} {ty : TypeId} {pos : String} {af : Array Edge} {j t : Nat} [ht : GtL l j t] [hl : Lk L t (.bool false)] [h : St C R n L Γ (KL P l.toArray Q rest) G] :
    St1 C R n L Γ (KL P l.toArray Q (⟨none, op, ty, pos, af, some (j, true)⟩ :: rest)) G := ⟨fun g => v_guardTFn ht.arr (h.out g)⟩
instance stGFTn {l : List Oper} {op : Op} {ty : TypeId} {pos : String} {af : Array Edge} {j t : Nat} [ht : GtL l j t] [hl : Lk L t (.bool true)] [h : St C R n L Γ (KL P l.toArray Q rest) G] :
    St1 C R n L Γ (KL P l.toArray Q (⟨none, op, ty, pos, af, some (j, false)⟩ :: rest)) G := ⟨fun g => v_guardFTn ht.arr (h.out g)⟩
instance stGU {l : List Oper} {d : Nat} {op : Op} {ty : TypeId} {pos : String} {af : Array Edge} {j t : Nat} {b : Bool} [ht : GtL l j t] [hl : Lk L t undef] [hd : Is (Nat.ble n d = false)] [h : St C R n ((d, undef) :: L) Γ (KL P l.toArray Q rest) G] :
    St1 C R n L Γ (KL P l.toArray Q (⟨some d, op, ty, pos, af, some (j, b)⟩ :: rest)) G := ⟨fun g => v_guardU ht.arr (h.out g)⟩

/-! ### one operation -/
instance stY {d : Nat} {op : Op} {ty : TypeId} {pos : String} {af : Array Edge} {v : Value} [hy : Y P R L Γ op v] [hd : Is (Nat.ble n d = false)] [h : St C R n ((d, v) :: L) Γ K G] : St1 C R n L Γ (wp1 P all Q ⟨some d, op, ty, pos, af, none⟩ K) G := ⟨fun g => v_1by hy (h.out g)⟩
theorem v_1byN {op : Op} {ty : TypeId} {pos : String} {af : Array Edge} {v : Value} (hy : Y P R L Γ op v) (h : VK C R n L Γ K) : VK C R n L Γ (wp1 P all Q ⟨none, op, ty, pos, af, none⟩ K) := VK.mk fun a w k i => wp1.mk (by
  simp only [Region.wanted, if_true]
  refine .inl ?_
  simp only [Oper.wp, hy.out C n a w _ _ _ _ _ k i, Oper.upon]
  exact h.out _ _ k.putNone i)
instance stYN {op : Op} {ty : TypeId} {pos : String} {af : Array Edge} {v : Value} [hy : Y P R L Γ op v] [h : St C R n L Γ K G] : St1 C R n L Γ (wp1 P all Q ⟨none, op, ty, pos, af, none⟩ K) G := ⟨fun g => v_1byN hy (h.out g)⟩
instance stPC {d f : Nat} {xs : List Operand} {ats : Array TypeId} {ty : TypeId} {pos : String} {af : Array Edge} {vs : List Value} {v : Value} {M : List Nat} {w0 : World} {D : Bool} [hf : Fn1 P f] [hx : Evs L xs vs] [hs : PCx D P f vs.toArray v] [hd : Is (Nat.ble n d = false)] [h : St ⟨M, w0, D⟩ R n ((d, v) :: L) Γ K G] :
    St1 ⟨M, w0, D⟩ R n L Γ (wp1 P all Q ⟨some d, .call ⟨.value (.func f), xs.toArray, ats⟩, ty, pos, af, none⟩ K) G := ⟨fun g => v_pcall (hx := ⟨by simpa using hx.out⟩) (h.out g)⟩
instance stStore {t et b off m : Nat} {x y : Operand} {ty : TypeId} {pos : String} {af : Array Edge} {v : Value} {vs cs r : Array Value} {f : Obj → List Hp} [hx : Ev L x (.pointer (some ⟨b, off, none⟩))] [hy : Ev L y v] [hc : Cel v vs]
    [hm : Sz P t m] [hs : Siz vs m] [h1 : OneA vs] [hu : Upd Γ b (.cells cs et (0, 0)) f] [hp : Pt cs off vs r] [h : St C R n L (f (.cells r et (0, 0))) K G] : St1 C R n L Γ (wp1 P all Q ⟨none, .store t x y, ty, pos, af, none⟩ K) G := ⟨fun g => v_store (h.out g)⟩

/-! ### drawn regions -/
section
variable {Rs Rt : List Hp} {kl i j m : Nat} {b : Bool} {r s t' : Pl} {l : List Oper}
instance stATake {o : Oper} [ho : OpL l i o] [h : St C R n L Γ (KT P l.toArray Q Rs kl Rt b i o r) G] : St1 C R n L Γ (KA P l.toArray Q Rs kl Rt b (.take i r)) G := ⟨fun g => v_aTake ho.arr (h.out g)⟩
instance stAAct {o : Oper} [ho : OpL l i o] [h : St C R n L Γ (KD P l.toArray Q Rs kl Rt b i o r) G] : St1 C R n L Γ (KA P l.toArray Q Rs kl Rt b (.act i r)) G := ⟨fun g => v_aAct ho.arr (h.out g)⟩
instance stADone [h : St C R n L Γ (KE Q .normal) G] : St1 C R n L Γ (KA P all Q Rs kl Rt b .done) G := ⟨fun g => v_aDone (h.out g)⟩
instance stTY {d : Nat} {op : Op} {ty : TypeId} {pos : String} {af : Array Edge} {v : Value} [hy : Y P Rs L [] op v] [hq : QP Q d] [hd : Is (Nat.ble n d = false)] [h : St C R n ((d, v) :: L) Γ (KA P all Q Rs kl Rt b r) G] :
    St1 C R n L Γ (KG all (FT P all Q Rs kl Rt b i r) ⟨some d, op, ty, pos, af, none⟩) G := ⟨fun g => v_tBy hy (h.out g)⟩
instance stDo {dst : Option Tmp} {op : Op} {ty : TypeId} {pos : String} {af : Array Edge} [h : St C R n L Γ (wp1 P all Q ⟨dst, op, ty, pos, af, none⟩ (KS P all Q Rs kl Rt b i r)) G] : St1 C R n L Γ (KG all (FD P all Q Rs kl Rt b i r) ⟨dst, op, ty, pos, af, none⟩) G := ⟨fun g => v_do (h.out g)⟩
instance stStabA [hb : Is (Nat.beq i kl = false)] [hs : Sub Rs R Γ] [ht : Sub Rt R Γ] [h : St C R n L Γ (KA P all Q Rs kl Rt true r) G] : St1 C R n L Γ (KS P all Q Rs kl Rt true i r) G := ⟨fun g => v_stabA hb.out (h.out g)⟩
instance stStabK [hb : Is (Nat.beq i kl = true)] [hs : Sub Rs R Γ] [h : St C R n L Γ (KA P all Q Rs kl Rt false r) G] : St1 C R n L Γ (KS P all Q Rs kl Rt true i r) G := ⟨fun g => v_stabK hb.out (h.out g)⟩
instance stStabD [hs : Sub Rs R Γ] [h : St C R n L Γ (KA P all Q Rs kl Rt false r) G] : St1 C R n L Γ (KS P all Q Rs kl Rt false i r) G := ⟨fun g => v_stabD (h.out g)⟩
instance stATwo {o u : Oper} [ho : OpL l i o] [hu : OpL l j u] [h : St C R n L Γ (KD P l.toArray Q Rs kl Rt b i o r) G] [h2 : St C R n L Γ (KD P l.toArray Q Rs kl Rt b j u s) G2] : St1 C R n L Γ (KA P l.toArray Q Rs kl Rt b (.two i r j s)) (G ∧ G2) := ⟨fun g => v_aTwo ho.arr hu.arr (h.out g.1) (h2.out g.2)⟩
instance stAThree {G3 : Prop} {o u y : Oper} [ho : OpL l i o] [hu : OpL l j u] [hy : OpL l m y] [h : St C R n L Γ (KD P l.toArray Q Rs kl Rt b i o r) G] [h2 : St C R n L Γ (KD P l.toArray Q Rs kl Rt b j u s) G2] [h3 : St C R n L Γ (KD P l.toArray Q Rs kl Rt b m y t') G3] : St1 C R n L Γ (KA P l.toArray Q Rs kl Rt b (.three i r j s m t')) (G ∧ G2 ∧ G3) := ⟨fun g => v_aThree ho.arr hu.arr hy.arr (h.out g.1) (h2.out g.2.1) (h3.out g.2.2)⟩
instance stGgY {F : Oper → Act → World → Prop} {dst : Option Tmp} {op : Op} {ty : TypeId} {pos : String} {af : Array Edge} {t : Nat} {c : Bool} [ht : GtL l j t] [hl : Lk L t (.bool c)] [h : St C R n L Γ (KG l.toArray F ⟨dst, op, ty, pos, af, none⟩) G] :
    St1 C R n L Γ (KG l.toArray F ⟨dst, op, ty, pos, af, some (j, c)⟩) G := ⟨fun g => v_gYes ht.arr (h.out g)⟩
instance stGgNTT {d : Nat} {op : Op} {ty : TypeId} {pos : String} {af : Array Edge} {t : Nat} [ht : GtL l j t] [hl : Lk L t (.bool false)] [hd : Is (Nat.ble n d = false)] [hq : QP Q d] [h : St C R n ((d, undef) :: L) Γ (KA P l.toArray Q Rs kl Rt b r) G] :
    St1 C R n L Γ (KG l.toArray (FT P l.toArray Q Rs kl Rt b i r) ⟨some d, op, ty, pos, af, some (j, true)⟩) G := ⟨fun g => v_gNoTT ht.arr (h.out g)⟩
instance stGgNTF {d : Nat} {op : Op} {ty : TypeId} {pos : String} {af : Array Edge} {t : Nat} [ht : GtL l j t] [hl : Lk L t (.bool true)] [hd : Is (Nat.ble n d = false)] [hq : QP Q d] [h : St C R n ((d, undef) :: L) Γ (KA P l.toArray Q Rs kl Rt b r) G] :
    St1 C R n L Γ (KG l.toArray (FT P l.toArray Q Rs kl Rt b i r) ⟨some d, op, ty, pos, af, some (j, false)⟩) G := ⟨fun g => v_gNoTF ht.arr (h.out g)⟩
instance stGgUT {d : Nat} {op : Op} {ty : TypeId} {pos : String} {af : Array Edge} {t : Nat} {c : Bool} [ht : GtL l j t] [hl : Lk L t undef] [hd : Is (Nat.ble n d = false)] [hq : QP Q d] [h : St C R n ((d, undef) :: L) Γ (KA P l.toArray Q Rs kl Rt b r) G] :
    St1 C R n L Γ (KG l.toArray (FT P l.toArray Q Rs kl Rt b i r) ⟨some d, op, ty, pos, af, some (j, c)⟩) G := ⟨fun g => v_gUnT ht.arr (h.out g)⟩
instance stGgNDT {d : Nat} {op : Op} {ty : TypeId} {pos : String} {af : Array Edge} {t : Nat} [ht : GtL l j t] [hl : Lk L t (.bool false)] [hd : Is (Nat.ble n d = false)] [h : St C R n ((d, undef) :: L) Γ (KS P l.toArray Q Rs kl Rt b i r) G] :
    St1 C R n L Γ (KG l.toArray (FD P l.toArray Q Rs kl Rt b i r) ⟨some d, op, ty, pos, af, some (j, true)⟩) G := ⟨fun g => v_gNoDT ht.arr (h.out g)⟩
instance stGgNDF {d : Nat} {op : Op} {ty : TypeId} {pos : String} {af : Array Edge} {t : Nat} [ht : GtL l j t] [hl : Lk L t (.bool true)] [hd : Is (Nat.ble n d = false)] [h : St C R n ((d, undef) :: L) Γ (KS P l.toArray Q Rs kl Rt b i r) G] :
    St1 C R n L Γ (KG l.toArray (FD P l.toArray Q Rs kl Rt b i r) ⟨some d, op, ty, pos, af, some (j, false)⟩) G := ⟨fun g => v_gNoDF ht.arr (h.out g)⟩
instance stGgUD {d : Nat} {op : Op} {ty : TypeId} {pos : String} {af : Array Edge} {t : Nat} {c : Bool} [ht : GtL l j t] [hl : Lk L t undef] [hd : Is (Nat.ble n d = false)] [h : St C R n ((d, undef) :: L) Γ (KS P l.toArray Q Rs kl Rt b i r) G] :
    St1 C R n L Γ (KG l.toArray (FD P l.toArray Q Rs kl Rt b i r) ⟨some d, op, ty, pos, af, some (j, c)⟩) G := ⟨fun g => v_gUnD ht.arr (h.out g)⟩
end

/-! ### a test that isn't known: both ways -/
/-- the slot on which it hangs how it goes on -/
class SpT (K : Act → World → Prop) (t : outParam Nat) : Prop
instance spCond {t : Nat} {x y : Code} : SpT (KC P (.cond (.tmp t) x y) Q) t := ⟨⟩
instance spGuard {l : List Oper} {dst : Option Tmp} {op : Op} {ty : TypeId} {pos : String} {af : Array Edge} {j t : Nat} {b : Bool} [ht : GtL l j t] : SpT (KL P l.toArray Q (⟨dst, op, ty, pos, af, some (j, b)⟩ :: rest)) t := ⟨⟩
instance spPick {t : Nat} {x y : Operand} {dst : Option Tmp} {ty : TypeId} {pos : String} {af : Array Edge} {g : Option (Nat × Bool)} : SpT (wp1 P all Q ⟨dst, .pick (.tmp t) x y, ty, pos, af, g⟩ K) t := ⟨⟩
instance spGg {l : List Oper} {F : Oper → Act → World → Prop} {dst : Option Tmp} {op : Op} {ty : TypeId} {pos : String} {af : Array Edge} {j t : Nat} {b : Bool} [ht : GtL l j t] : SpT (KG l.toArray F ⟨dst, op, ty, pos, af, some (j, b)⟩) t := ⟨⟩
instance spGp {F : Oper → Act → World → Prop} {t : Nat} {x y : Operand} {dst : Option Tmp} {ty : TypeId} {pos : String} {af : Array Edge} : SpT (KG all F ⟨dst, .pick (.tmp t) x y, ty, pos, af, none⟩) t := ⟨⟩
theorem v_spD {t : Nat} {p : Prop} [hs : SpT K t] [Decidable p] [hl : Lk L t (.bool (decide p))] (h1 : p → VK C R n ((t, .bool true) :: L) Γ K) (h2 : ¬ p → VK C R n ((t, .bool false) :: L) Γ K) : VK C R n L Γ K := VK.mk fun a w k i => by
  by_cases hp : p
  · exact (h1 hp).out a w (k.know hl (by simp [hp])) i
  · exact (h2 hp).out a w (k.know hl (by simp [hp])) i
theorem v_spT {t : Nat} {p : Prop} [hs : SpT K t] [Decidable p] [hl : Lk L t (.bool (decide p))] (hp : p) (h1 : VK C R n ((t, .bool true) :: L) Γ K) : VK C R n L Γ K := v_spD (fun _ => h1) (fun h => absurd hp h)
theorem v_spF {t : Nat} {p : Prop} [hs : SpT K t] [Decidable p] [hl : Lk L t (.bool (decide p))] (hp : ¬ p) (h1 : VK C R n ((t, .bool false) :: L) Γ K) : VK C R n L Γ K := v_spD (fun h => absurd h hp) (fun _ => h1)
theorem v_spB {t : Nat} {c : Bool} [hs : SpT K t] [hl : Lk L t (.bool c)] (h1 : c = true → VK C R n ((t, .bool true) :: L) Γ K) (h2 : c = false → VK C R n ((t, .bool false) :: L) Γ K) : VK C R n L Γ K := VK.mk fun a w k i => by
  cases c with
  | true => exact (h1 rfl).out a w (k.know hl rfl) i
  | false => exact (h2 rfl).out a w (k.know hl rfl) i

/-! ### operations on a condition -/
class YC (P : Program) (R : List Hp) (L : Env) (Γ : List Hp) (op : Op) (c : outParam Prop) (v : outParam (c → Value)) : Prop where
  out : ∀ h : c, Y P R L Γ op (v h)
theorem v_yc {d : Nat} {op : Op} {ty : TypeId} {pos : String} {af : Array Edge} {c : Prop} {v : c → Value} [hy : YC P R L Γ op c v] [hd : Is (Nat.ble n d = false)] (hc : c) (h : VK C R n ((d, v hc) :: L) Γ K) : VK C R n L Γ (wp1 P all Q ⟨some d, op, ty, pos, af, none⟩ K) := v_1by (hy.out hc) h
theorem v_tyc {Rs Rt : List Hp} {kl i : Nat} {al : Bool} {r : Pl} {d : Nat} {op : Op} {ty : TypeId} {pos : String} {af : Array Edge} {c : Prop} {v : c → Value} [hy : YC P Rs L [] op c v] [hq : QP Q d] [hd : Is (Nat.ble n d = false)] (hc : c) (h : VK C R n ((d, v hc) :: L) Γ (KA P all Q Rs kl Rt al r)) :
    VK C R n L Γ (KG all (FT P all Q Rs kl Rt al i r) ⟨some d, op, ty, pos, af, none⟩) := v_tBy (hy.out hc) h
theorem v_tycT {Rs Rt : List Hp} {kl i : Nat} {r : Pl} {d : Nat} {op : Op} {ty : TypeId} {pos : String} {af : Array Edge} {c : Prop} {v : c → Value} (hk : waitsFor all kl i = true) [hy : YC P Rt L [] op c v] [hq : QP Q d] [hd : Is (Nat.ble n d = false)] (hc : c) (h : VK C R n ((d, v hc) :: L) Γ (KA P all Q Rs kl Rt true r)) :
    VK C R n L Γ (KG all (FT P all Q Rs kl Rt true i r) ⟨some d, op, ty, pos, af, none⟩) := v_tByT (hy.out hc) hk h
instance ycAdd {t ty : TypeId} {x y : Operand} {a b : Int} [hx : Ev L x (.int .i64 a)] [hy : Ev L y (.int .i64 b)] : YC P R L Γ (.binOp .add t x y ty) (-9223372036854775808 ≤ a + b ∧ a + b < 9223372036854775808) (fun _ => .int .i64 (a + b)) := ⟨fun h => y_add h.1 h.2⟩
instance ycSub {t ty : TypeId} {x y : Operand} {a b : Int} [hx : Ev L x (.int .i64 a)] [hy : Ev L y (.int .i64 b)] : YC P R L Γ (.binOp .sub t x y ty) (-9223372036854775808 ≤ a - b ∧ a - b < 9223372036854775808) (fun _ => .int .i64 (a - b)) := ⟨fun h => y_sub h.1 h.2⟩
theorem y_mul {t ty : TypeId} {x y : Operand} {a b : Int} [hx : Ev L x (.int .i64 a)] [hy : Ev L y (.int .i64 b)] (h1 : -9223372036854775808 ≤ a * b) (h2 : a * b < 9223372036854775808) : Y P R L Γ (.binOp .mul t x y ty) (.int .i64 (a * b)) := by
  have := yBin (P := P) (R := R) (L := L) (Γ := Γ) .mul t ty x y (.int .i64 a) (.int .i64 b) _ (h3 := biMul t a b)
  rwa [show RowKit.wrap64 (a * b) = a * b by unfold RowKit.wrap64; omega] at this
instance ycMul {t ty : TypeId} {x y : Operand} {a b : Int} [hx : Ev L x (.int .i64 a)] [hy : Ev L y (.int .i64 b)] : YC P R L Γ (.binOp .mul t x y ty) (-9223372036854775808 ≤ a * b ∧ a * b < 9223372036854775808) (fun _ => .int .i64 (a * b)) := ⟨fun h => y_mul h.1 h.2⟩
/-- .. and what wraps -/
class YW (P : Program) (R : List Hp) (L : Env) (Γ : List Hp) (op : Op) (v : outParam Value) : Prop where
  out : Y P R L Γ op v
instance ywAdd {t yt : TypeId} {x y : Operand} {a b : Int} [hx : Ev L x (.int .i64 a)] [hy : Ev L y (.int .i64 b)] : YW P R L Γ (.binOp .add t x y yt) (.int .i64 (RowKit.wrap64 (a + b))) := ⟨yBin (h3 := biAdd t a b) ..⟩
instance ywSub {t yt : TypeId} {x y : Operand} {a b : Int} [hx : Ev L x (.int .i64 a)] [hy : Ev L y (.int .i64 b)] : YW P R L Γ (.binOp .sub t x y yt) (.int .i64 (RowKit.wrap64 (a - b))) := ⟨yBin (h3 := biSub t a b) ..⟩
instance ywMul {t yt : TypeId} {x y : Operand} {a b : Int} [hx : Ev L x (.int .i64 a)] [hy : Ev L y (.int .i64 b)] : YW P R L Γ (.binOp .mul t x y yt) (.int .i64 (RowKit.wrap64 (a * b))) := ⟨yBin (h3 := biMul t a b) ..⟩
theorem v_yw {d : Nat} {op : Op} {ty : TypeId} {pos : String} {af : Array Edge} {v : Value} [hy : YW P R L Γ op v] [hd : Is (Nat.ble n d = false)] (h : VK C R n ((d, v) :: L) Γ K) : VK C R n L Γ (wp1 P all Q ⟨some d, op, ty, pos, af, none⟩ K) := v_1by hy.out h
theorem v_tyw {Rs Rt : List Hp} {kl i : Nat} {al : Bool} {r : Pl} {d : Nat} {op : Op} {ty : TypeId} {pos : String} {af : Array Edge} {v : Value} [hy : YW P Rs L [] op v] [hq : QP Q d] [hd : Is (Nat.ble n d = false)] (h : VK C R n ((d, v) :: L) Γ (KA P all Q Rs kl Rt al r)) :
    VK C R n L Γ (KG all (FT P all Q Rs kl Rt al i r) ⟨some d, op, ty, pos, af, none⟩) := v_tBy hy.out h
instance ycShl {t yt : TypeId} {x y : Operand} {k j : IntKind} {vx vy : Int} [hx : Ev L x (.int k vx)] [hy : Ev L y (.int j vy)] : YC P R L Γ (.binOp .shl t x y yt) (0 ≤ vy) (fun _ => .int k (shlI k vx vy)) := ⟨fun h => y_shl h⟩
instance ycShr {t yt : TypeId} {x y : Operand} {k j : IntKind} {vx vy : Int} [hx : Ev L x (.int k vx)] [hy : Ev L y (.int j vy)] : YC P R L Γ (.binOp .shr t x y yt) (0 ≤ vy) (fun _ => .int k (shrI k vx vy)) := ⟨fun h => y_shr h⟩
instance ycQuo {t yt : TypeId} {x y : Operand} {k : IntKind} {vx vy : Int} [hx : Ev L x (.int k vx)] [hy : Ev L y (.int k vy)] : YC P R L Γ (.binOp .quo t x y yt) (vy ≠ 0) (fun _ => .int k (k.wrap (vx.tdiv vy))) := ⟨fun h => y_quo h⟩
instance ycRem {t yt : TypeId} {x y : Operand} {k : IntKind} {vx vy : Int} [hx : Ev L x (.int k vx)] [hy : Ev L y (.int k vy)] : YC P R L Γ (.binOp .rem t x y yt) (vy ≠ 0) (fun _ => .int k (vx.tmod vy)) := ⟨fun h => y_rem h⟩
instance ycIdx {T e b off m c sz : Nat} {x ix : Operand} {k : IntKind} {i : Int} [hx : Ev L x (.slice (some ⟨b, off, none⟩) m c)] [hi : Ev L ix (.int k i)] [ht : Und P T (.slice e)] [hs : Sz P e sz] : YC P R L Γ (.indexAddr T x ix) (0 ≤ i ∧ i < (m : Int)) (fun _ => .pointer (some ⟨b, off + i.toNat * sz, none⟩)) := ⟨fun h => y_idx h.1 h.2⟩
instance ycIdxA {T e b off m sz : Nat} {x ix : Operand} {k : IntKind} {i : Int} [hx : Ev L x (.pointer (some ⟨b, off, none⟩))] [hi : Ev L ix (.int k i)] [ht : Und P T (.array m e)] [hs : Sz P e sz] : YC P R L Γ (.indexAddr T x ix) (0 ≤ i ∧ i < (m : Int)) (fun _ => .pointer (some ⟨b, off + i.toNat * sz, none⟩)) := ⟨fun h => y_idxA h.1 h.2⟩
instance ycIdxS {T : Nat} {s : ByteArray} {x ix : Operand} {k : IntKind} {i : Int} [hx : Ev L x (.string s)] [hi : Ev L ix (.int k i)] [ht : Und P T .string] : YC P R L Γ (.index T x ix) (0 ≤ i ∧ i < (s.size : Int)) (fun _ => .int .u8 (bt s i)) := ⟨fun h => y_idxS h.1 h.2⟩
instance ycSliceS {T : Nat} {s : ByteArray} {x lo hi : Operand} {k j : IntKind} {l h' : Int} [hx : Ev L x (.string s)] [hl : Ev L lo (.int k l)] [hh : Ev L hi (.int j h')] [ht : Und P T .string] : YC P R L Γ (.slice T x (some lo) (some hi) none) (0 ≤ l ∧ l ≤ h' ∧ h' ≤ (s.size : Int)) (fun _ => .string (s.extract l.toNat h'.toNat)) := ⟨fun h => y_sliceS h.1 h.2.1 h.2.2⟩
instance ycSliceSl {T : Nat} {s : ByteArray} {x lo : Operand} {k : IntKind} {l : Int} [hx : Ev L x (.string s)] [hl : Ev L lo (.int k l)] [ht : Und P T .string] : YC P R L Γ (.slice T x (some lo) none none) (0 ≤ l ∧ l ≤ (s.size : Int)) (fun _ => .string (s.extract l.toNat s.size)) := ⟨fun h => y_sliceSl h.1 h.2⟩
instance ycSliceSh {T : Nat} {s : ByteArray} {x hi : Operand} {j : IntKind} {h' : Int} [hx : Ev L x (.string s)] [hh : Ev L hi (.int j h')] [ht : Und P T .string] : YC P R L Γ (.slice T x none (some hi) none) (0 ≤ h' ∧ h' ≤ (s.size : Int)) (fun _ => .string (s.extract 0 h'.toNat)) := ⟨fun h => y_sliceSh h.1 h.2⟩
section
variable {e sz : Nat} {α : Type} {cv : α → List Value} {av : α → Value} {l : List α} {v : Value} {s : Hp}
class IsCast (i : Int) (j : outParam Nat) : Prop where
  out : i = (j : Int)
instance isCast (j : Nat) : IsCast (Nat.cast j) j := ⟨rfl⟩
instance (priority := high) ycIdxN {T j : Nat} {x ix : Operand} {k : IntKind} {i : Int} [hx : Ev L x v] [hi : Ev L ix (.int k i)] [hj : IsCast i j] [ht : Und P T (.slice e)] [hs : AtS v e α sz cv l s] [hz : Sz P e sz] : YC P R L Γ (.indexAddr T x ix) (j < l.length) (fun _ => .pointer (some ⟨slb v, slo v + j * sz, none⟩)) := ⟨fun h => y_idxN (hi := hj.out ▸ hi) h⟩
instance ycIdxC {T : Nat} {x ix : Operand} {k : IntKind} {i : Int} [hx : Ev L x v] [hi : Ev L ix (.int k i)] [ht : Und P T (.slice e)] [hs : AtS v e α sz cv l s] [hz : Sz P e sz] : YC P R L Γ (.indexAddr T x ix) (0 ≤ i ∧ i < (l.length : Int)) (fun _ => .pointer (some ⟨slb v, slo v + i.toNat * sz, none⟩)) := ⟨fun h => y_idxC h.1 h.2⟩
instance ycElemG {t i : Nat} {p : Operand} [hp : Ev L p (.pointer (some ⟨slb v, slo v + i * sz, none⟩))] [hs : AtS v t α sz cv l s] [hg : Seg R Γ s] [he : ElT P t α sz cv av] : YC P R L Γ (.load t p) (i < l.length) (fun h => av l[i]) := ⟨fun h => y_elemG h⟩
class GetF {α : Type} (cv : α → List Value) (fo : Nat) (f : outParam (α → Value)) : Prop where
  out : ∀ x, (cv x)[fo]? = some (f x)
instance ycElemF {t i fo : Nat} {p : Operand} {f : α → Value} [hp : Ev L p (.pointer (some ⟨slb v, slo v + i * sz + fo, none⟩))] [hs : AtS v e α sz cv l s] [hg : Seg R Γ s] [hE : ElT P e α sz cv av] [hsc : Sc P t] [hu : GetF cv fo f] : YC P R L Γ (.load t p) (i < l.length) (fun h => f l[i]) := ⟨fun h => y_elemF h (hu := ⟨hu.out _⟩)⟩
/-- a part of a slice -/
class Sb (P : Program) (R : List Hp) (L : Env) (Γ : List Hp) (op : Op) (c : outParam Prop) (A : outParam (Value → Prop)) : Prop where
  out : c → ∃ v, A v ∧ Y P R L Γ op v
theorem v_sb {d : Nat} {op : Op} {ty : TypeId} {pos : String} {af : Array Edge} {c : Prop} {A : Value → Prop} [hy : Sb P R L Γ op c A] [hd : Is (Nat.ble n d = false)] (hc : c) (h : ∀ u, A u → VK C R n ((d, u) :: L) Γ K) : VK C R n L Γ (wp1 P all Q ⟨some d, op, ty, pos, af, none⟩ K) := by
  obtain ⟨u, hu, y⟩ := hy.out hc
  exact v_1by y (h u hu)
theorem v_tsb {Rs Rt : List Hp} {kl i : Nat} {al : Bool} {r : Pl} {d : Nat} {op : Op} {ty : TypeId} {pos : String} {af : Array Edge} {c : Prop} {A : Value → Prop} [hy : Sb P Rs L [] op c A] [hq : QP Q d] [hd : Is (Nat.ble n d = false)] (hc : c) (h : ∀ u, A u → VK C R n ((d, u) :: L) Γ (KA P all Q Rs kl Rt al r)) :
    VK C R n L Γ (KG all (FT P all Q Rs kl Rt al i r) ⟨some d, op, ty, pos, af, none⟩) := by
  obtain ⟨u, hu, y⟩ := hy.out hc
  exact v_tBy y (h u hu)
instance sbB {T : Nat} {x lo hi : Operand} {k k' : IntKind} {i j : Int} [hx : Ev L x v] [hlo : Ev L lo (.int k i)] [hhi : Ev L hi (.int k' j)] [ht : Und P T (.slice e)] [hs : AtS v e α sz cv l s] [hz : Sz P e sz] [hE : ElT P e α sz cv av] :
    Sb P R L Γ (.slice T x (some lo) (some hi) none) (0 ≤ i ∧ i ≤ j ∧ j ≤ l.length) (fun u => AtS u e α sz cv ((l.take j.toNat).drop i.toNat) s ∧ (((l.take j.toNat).drop i.toNat).length : Int) = j - i) := ⟨fun h => ⟨_, ⟨hs.sub hE.len (lo := i.toNat) (hi := j.toNat) (by omega) (by omega), by simp only [List.length_drop, List.length_take]; omega⟩, y_subB h.1 h.2.1 h.2.2⟩⟩
instance sbL {T : Nat} {x lo : Operand} {k : IntKind} {i : Int} [hx : Ev L x v] [hlo : Ev L lo (.int k i)] [ht : Und P T (.slice e)] [hs : AtS v e α sz cv l s] [hz : Sz P e sz] [hE : ElT P e α sz cv av] :
    Sb P R L Γ (.slice T x (some lo) none none) (0 ≤ i ∧ i ≤ l.length) (fun u => AtS u e α sz cv (l.drop i.toNat) s ∧ ((l.drop i.toNat).length : Int) = l.length - i) := ⟨fun h => ⟨_, ⟨by simpa using hs.sub hE.len (lo := i.toNat) (hi := l.length) (by omega) (by omega), by simp only [List.length_drop]; omega⟩, y_subL h.1 h.2⟩⟩
instance sbH {T : Nat} {x hi : Operand} {k' : IntKind} {j : Int} [hx : Ev L x v] [hhi : Ev L hi (.int k' j)] [ht : Und P T (.slice e)] [hs : AtS v e α sz cv l s] [hz : Sz P e sz] [hE : ElT P e α sz cv av] :
    Sb P R L Γ (.slice T x none (some hi) none) (0 ≤ j ∧ j ≤ l.length) (fun u => AtS u e α sz cv (l.take j.toNat) s ∧ ((l.take j.toNat).length : Int) = j) := ⟨fun h => ⟨_, ⟨by simpa using hs.sub hE.len (lo := 0) (hi := j.toNat) (by omega) (by omega), by simp only [List.length_take]; omega⟩, y_subH h.1 h.2⟩⟩
end
end

/-- a lookup that takes the zero value where the key isn't there -/
instance yLkD {P : Program} {R : List Hp} {L : Env} {Γ : List Hp} {α β : Type} [DecidableEq α] {kv : α → Value} {vv : β → Value} {m : List (α × β)} {s : Hp} {b T kt et : Nat} {x ix : Operand} {u z : Value} {k : α} {z0 : β} [hx : Ev L x (.map (some b))] [hi : Ev L ix u] [ht : Und P T (.map kt et)] [hm : OwnM b α β kv vv m s] [hk : KeyT P kt α kv] [hu : Kvt kv u k] [hz : Zr P et z] [hv : Vvt vv z z0] [hs : Seg R Γ s] :
    Y P R L Γ (.lookup T x ix false) (vv ((mget m k).getD z0)) := by
  have e := hu.out
  subst e
  cases hg : mget m k with
  | some v => exact y_lookS (kt := kt) (et := et) hm.out hg
  | none => rw [Option.getD_none, hv.out]; exact y_lookN (kt := kt) (et := et) hm.out hg
/-! ### loops and cuts -/
section
variable {P : Program} {C : Cx} {R : List Hp} {n : Nat} {Q : Exit → Act → World → Prop} {L : Env} {Γ : List Hp}
theorem zip_lookup_append : ∀ {ts us : List Nat} {vs ws : List Value}, ts.length = vs.length → ∀ t, ((ts ++ us).zip (vs ++ ws)).lookup t = ((ts.zip vs).lookup t).or ((us.zip ws).lookup t) := by
  intro ts us vs ws h t
  rw [List.zip_append h]
  induction ts generalizing vs with
  | nil => simp
  | cons a ts ih => cases vs with
    | nil => simp at h
    | cons b vs =>
      simp only [List.zip_cons_cons, List.cons_append, List.lookup]
      cases t == a with
      | true => simp
      | false => exact ih (by simpa using h)
theorem Get.append {ts us : List Nat} {vs ws : List Value} (h1 : Get L ts vs) (h2 : Get L us ws) : Get L (ts ++ us) (vs ++ ws) := ⟨by simp [h1.out.1, h2.out.1], fun t v h => by
  rw [zip_lookup_append h1.out.1] at h
  cases h3 : (ts.zip vs).lookup t with
  | some x => rw [h3] at h; simp at h; exact h ▸ h1.out.2 t x h3
  | none => rw [h3] at h; simp at h; exact h2.out.2 t v h⟩
theorem zipE_append : ∀ {ts us : List Nat} {vs ws : List Value}, ts.length = vs.length → zipE (ts ++ us) (vs ++ ws) = zipE ts vs ++ zipE us ws := by
  intro ts us vs ws h
  rw [zipE_eq, zipE_eq, zipE_eq, List.zip_append h]
/-- a loop: tc are the slots that it changes, tu those that it leaves; Γs is the memory that it changes -/
theorem v_lp (tc tu : List Nat) {α : Type} (vals : α → List Value) (Γs : α → List Hp) (ok : α → Prop) (μ : α → Nat) (x0 : α) {vs us : List Value} {Γd : List Hp} {body : Code} [hg : Get L tc vs] [hu : Get L tu us] (hl : ∀ x, tc.length = (vals x).length) (hv : vs = vals x0) (hp : Pick Γ (Γs x0) Γd) (h0 : ok x0)
    (round' : ∀ x, ok x → VK C R n (zipE tc (vals x) ++ zipE tu us) (Γs x ++ Γd) (KC P body (Exit.then (Again C R n (tc ++ tu) (fun x => vals x ++ us) (fun x => Γs x ++ Γd) ok μ (μ x)) Q))) : VK C R n L Γ (KC P (.loop body) Q) :=
  v_loop (hg := hg.append hu) (tc ++ tu) (fun x => vals x ++ us) (fun x => Γs x ++ Γd) ok μ x0 (by rw [hv]) (Γd := []) ⟨by simpa using hp.out⟩ h0 (fun x hx => zipE_append (hl x) ▸ round' x hx)
/-- a cut -/
theorem v_ct (tc tu : List Nat) {x y : Code} {α : Type} (vals : α → List Value) (Γs : α → List Hp) (ok : α → Prop) {us : List Value} [hu : Get L tu us] (hl : ∀ x, tc.length = (vals x).length) (h1 : VK C R n L Γ (KC P x (Exit.then (Cut C R n (tc ++ tu) (fun x => vals x ++ us) Γs ok) Q)))
    (h2 : ∀ x, ok x → VK C R n (zipE tc (vals x) ++ zipE tu us) (Γs x) (KC P y Q)) : VK C R n L Γ (KC P (.seq x y) Q) := v_cut (tc ++ tu) (fun x => vals x ++ us) Γs ok h1 (fun x hx => zipE_append (hl x) ▸ h2 x hx)
/-- this piece of code is the block, the loop, the choice that is looked for -/
class IsB (id : Nat) (c : Code) : Prop
instance isB1 {id : Nat} {c : Code} : IsB id (.block id c) := ⟨⟩
instance isB2 {id j : Nat} {ops : Array Oper} {d : Bool} {c : Code} [h : IsB id c] : IsB id (.seq (.region j ops d) c) := ⟨⟩
class IsR (id : Nat) (c : Code) : Prop
instance isR1 {id : Nat} {ops : Array Oper} {d : Bool} : IsR id (.region id ops d) := ⟨⟩
class IsI (t : Nat) (c : Code) : Prop
instance isI1 {t : Nat} {x y : Code} : IsI t (.cond (.tmp t) x y) := ⟨⟩
instance isI2 {t j : Nat} {ops : Array Oper} {d : Bool} {c : Code} [h : IsI t c] : IsI t (.seq (.region j ops d) c) := ⟨⟩
theorem v_ctB (id : Nat) (tc tu : List Nat) {x y : Code} [hb : IsB id x] {α : Type} (vals : α → List Value) (Γs : α → List Hp) (ok : α → Prop) {us : List Value} [hu : Get L tu us] (hl : ∀ x, tc.length = (vals x).length) (h1 : VK C R n L Γ (KC P x (Exit.then (Cut C R n (tc ++ tu) (fun x => vals x ++ us) Γs ok) Q)))
    (h2 : ∀ x, ok x → VK C R n (zipE tc (vals x) ++ zipE tu us) (Γs x) (KC P y Q)) : VK C R n L Γ (KC P (.seq x y) Q) := v_ct tc tu vals Γs ok hl h1 h2
theorem v_ctR (id : Nat) (tc tu : List Nat) {x y : Code} [hb : IsR id x] {α : Type} (vals : α → List Value) (Γs : α → List Hp) (ok : α → Prop) {us : List Value} [hu : Get L tu us] (hl : ∀ x, tc.length = (vals x).length) (h1 : VK C R n L Γ (KC P x (Exit.then (Cut C R n (tc ++ tu) (fun x => vals x ++ us) Γs ok) Q)))
    (h2 : ∀ x, ok x → VK C R n (zipE tc (vals x) ++ zipE tu us) (Γs x) (KC P y Q)) : VK C R n L Γ (KC P (.seq x y) Q) := v_ct tc tu vals Γs ok hl h1 h2
theorem v_ctI (t : Nat) (tc tu : List Nat) {x y : Code} [hb : IsI t x] {α : Type} (vals : α → List Value) (Γs : α → List Hp) (ok : α → Prop) {us : List Value} [hu : Get L tu us] (hl : ∀ x, tc.length = (vals x).length) (h1 : VK C R n L Γ (KC P x (Exit.then (Cut C R n (tc ++ tu) (fun x => vals x ++ us) Γs ok) Q)))
    (h2 : ∀ x, ok x → VK C R n (zipE tc (vals x) ++ zipE tu us) (Γs x) (KC P y Q)) : VK C R n L Γ (KC P (.seq x y) Q) := v_ct tc tu vals Γs ok hl h1 h2
/-- a place where the steps stop -/
def Stopped (p : Prop) : Prop := p
theorem Stopped.go {p : Prop} (h : p) : Stopped p := h
theorem stopB (P : Program) (id : Nat) {C : Cx} {R : List Hp} {n : Nat} {Q : Exit → Act → World → Prop} {L : Env} {Γ : List Hp} {x y : Code} [IsB id x] : St C R n L Γ (KC P (.seq x y) Q) (Stopped (VK C R n L Γ (KC P (.seq x y) Q))) := ⟨fun h => h⟩
theorem stopR (P : Program) (id : Nat) {C : Cx} {R : List Hp} {n : Nat} {Q : Exit → Act → World → Prop} {L : Env} {Γ : List Hp} {x y : Code} [IsR id x] : St C R n L Γ (KC P (.seq x y) Q) (Stopped (VK C R n L Γ (KC P (.seq x y) Q))) := ⟨fun h => h⟩
theorem stopI (P : Program) (t : Nat) {C : Cx} {R : List Hp} {n : Nat} {Q : Exit → Act → World → Prop} {L : Env} {Γ : List Hp} {x y : Code} [IsI t x] : St C R n L Γ (KC P (.seq x y) Q) (Stopped (VK C R n L Γ (KC P (.seq x y) Q))) := ⟨fun h => h⟩
end
attribute [irreducible] Stopped
end Go.SX

