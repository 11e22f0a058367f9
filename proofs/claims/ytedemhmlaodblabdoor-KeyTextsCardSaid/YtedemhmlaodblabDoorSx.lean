/- Symbolic execution by classes: what is known of a frame's slots and of some blocks of memory is carried along, operation by operation. Of whatever program. -/
import Derived.WalkKit
import Derived.Calls
import Derived.Below
import Derived.Laws.CopyRow
universe u
namespace Go.SX
set_option linter.unusedSimpArgs false
set_option linter.unusedVariables false

class Is (p : Prop) : Prop where
  out : p
instance isRfl {α : Sort u} (a : α) : Is (a = a) := ⟨rfl⟩

theorem lt_of_ble {d n : Nat} (h : Nat.ble n d = false) : d < n := by
  rcases Nat.lt_or_ge d n with h' | h'
  · exact h'
  · rw [Nat.ble_eq_true_of_le h'] at h; cases h
abbrev Env := List (Nat × Value)
abbrev Hp := List (Nat × Obj)
def keys (Γ : List Hp) : List Nat := Γ.flatten.map (·.1)

/-! ### slots -/
class Lk (L : Env) (t : Nat) (v : outParam Value) : Prop where
  out : L.lookup t = some v
instance (priority := high) lkHere (L : Env) (t : Nat) (v : Value) : Lk ((t, v) :: L) t v := ⟨by simp [List.lookup]⟩
instance lkThere (L : Env) (t t' : Nat) (v v' : Value) [h : Is (Nat.beq t t' = false)] [h2 : Lk L t v] : Lk ((t', v') :: L) t v := ⟨by
  have h3 : (t == t') = false := beq_false_of_ne (Nat.ne_of_beq_eq_false h.out)
  simp [List.lookup, h3, h2.out]⟩

def Kn (n : Nat) (L : Env) (a : Act) : Prop := a.tmps.size = n ∧ a.defers = [] ∧ ∀ t v, L.lookup t = some v → a.tmps[t]? = some v

theorem Kn.put {n : Nat} {L : Env} {a : Act} {d : Nat} {v : Value} (h : Kn n L a) (hd : d < n) : Kn n ((d, v) :: L) (a.put (some d) v) := by
  refine ⟨by simp [Act.put, h.1], h.2.1, fun t u ht => ?_⟩
  by_cases e : t = d
  · subst e
    simp [List.lookup] at ht
    subst ht
    have : t < a.tmps.size := h.1 ▸ hd
    simp [Act.put, this]
  · have e' : (t == d) = false := by simpa using e
    simp only [List.lookup, e'] at ht
    simp only [Act.put]
    rw [Array.getElem?_setIfInBounds_ne (fun h => e h.symm)]
    exact h.2.2 t u ht
theorem Kn.putNone {n : Nat} {L : Env} {a : Act} {v : Value} (h : Kn n L a) : Kn n L (a.put none v) := h

class Ev (L : Env) (x : Operand) (v : outParam Value) : Prop where
  out : ∀ n a, Kn n L a → a.eval x = v
instance evTmp (L : Env) (t : Nat) (v : Value) [h : Lk L t v] : Ev L (.tmp t) v := ⟨fun n a k => by
  have := k.2.2 t v h.out
  simp [Act.eval, Array.getD_eq_getD_getElem?, this]⟩
instance evConst (L : Env) (v : Value) : Ev L (.const v) v := ⟨fun _ _ _ => rfl⟩
instance evGlobal (L : Env) (g : Nat) : Ev L (.global g) (.pointer (some ⟨g, 0, none⟩)) := ⟨fun _ _ _ => rfl⟩
instance evFunc (L : Env) (f : FuncId) : Ev L (.func f) (.func (.func f) #[] #[]) := ⟨fun _ _ _ => rfl⟩

class Evs (L : Env) (xs : List Operand) (vs : outParam (List Value)) : Prop where
  out : ∀ n a, Kn n L a → xs.map a.eval = vs
instance evsNil (L : Env) : Evs L [] [] := ⟨fun _ _ _ => rfl⟩
instance evsCons (L : Env) (x : Operand) (xs : List Operand) (v : Value) (vs : List Value) [h : Ev L x v] [h2 : Evs L xs vs] : Evs L (x :: xs) (v :: vs) :=
  ⟨fun n a k => by simp [h.out n a k, h2.out n a k]⟩

/-! ### memory -/
structure Cx where
  M : List Nat
  w0 : World
  D : Bool

structure Inv (C : Cx) (R Γ : List Hp) (w : World) : Prop where
  os : w.os = C.w0.os
  tape : w.tape = C.w0.tape
  output : w.output = C.w0.output
  size : C.w0.heap.size ≤ w.heap.size
  ro : ∀ x ∈ R.flatten, w.heap[x.1]? = some x.2
  own : ∀ x ∈ Γ.flatten, w.heap[x.1]? = some x.2
  nodup : (keys Γ).Nodup
  apart : ∀ b ∈ keys Γ, b ∉ keys R
  may : ∀ b ∈ keys Γ, b ∈ C.M ∨ C.w0.heap.size ≤ b
  frame : ∀ b, b < C.w0.heap.size → b ∉ C.M → w.heap[b]? = C.w0.heap[b]?
  dr : C.D = true → C.w0.drawn ≤ w.drawn

class Look (Γ : List Hp) (b : Nat) (o : outParam Obj) : Prop where
  out : (b, o) ∈ Γ.flatten
instance (priority := high) lookHere (Γ : List Hp) (b : Nat) (o : Obj) : Look ([(b, o)] :: Γ) b o := ⟨by simp⟩
instance lookThere (Γ : List Hp) (s : Hp) (b : Nat) (o : Obj) [h : Look Γ b o] : Look (s :: Γ) b o := ⟨by simp only [List.flatten_cons, List.mem_append]; exact .inr h.out⟩

class See (R Γ : List Hp) (b : Nat) (o : outParam Obj) : Prop where
  out : ∀ C w, Inv C R Γ w → w.heap[b]? = some o
instance (priority := high) seeOwn (R Γ : List Hp) (b : Nat) (o : Obj) [h : Look Γ b o] : See R Γ b o := ⟨fun _ _ i => i.own _ h.out⟩
instance seeRo (R Γ : List Hp) (b : Nat) (o : Obj) [h : Look R b o] : See R Γ b o := ⟨fun _ _ i => i.ro _ h.out⟩

/-! ### arrays -/
class AtL (cs : List Value) (i : Nat) (v : outParam Value) : Prop where
  out : cs[i]? = some v
instance atL0 (x : Value) (cs : List Value) : AtL (x :: cs) 0 x := ⟨rfl⟩
instance atLS (x : Value) (cs : List Value) (i : Nat) (v : Value) [h : AtL cs i v] : AtL (x :: cs) (i + 1) v := ⟨by simpa using h.out⟩
class At (cs : Array Value) (i : Nat) (v : outParam Value) : Prop where
  out : cs[i]? = some v
instance atArr (l : List Value) (i : Nat) (v : Value) [h : AtL l i v] : At l.toArray i v := ⟨by simpa using h.out⟩

class Ext (cs : Array Value) (off n : Nat) (r : outParam (Array Value)) : Prop where
  out : off + n ≤ cs.size ∧ cs.extract off (off + n) = r
class TakeL (l : List Value) (n : Nat) (r : outParam (List Value)) : Prop where
  out : n ≤ l.length ∧ l.take n = r
instance takeL0 (l : List Value) : TakeL l 0 [] := ⟨by simp⟩
instance takeLS (x : Value) (l : List Value) (n : Nat) (r : List Value) [h : TakeL l n r] : TakeL (x :: l) (n + 1) (x :: r) := ⟨by simp [h.out.1, h.out.2]⟩
class DropL (l : List Value) (n : Nat) (r : outParam (List Value)) : Prop where
  out : n ≤ l.length ∧ l.drop n = r
instance dropL0 (l : List Value) : DropL l 0 l := ⟨by simp⟩
instance dropLS (x : Value) (l : List Value) (n : Nat) (r : List Value) [h : DropL l n r] : DropL (x :: l) (n + 1) r := ⟨by simp [h.out.1, h.out.2]⟩
instance extArr (l l' r : List Value) (off n : Nat) [h : DropL l off l'] [h2 : TakeL l' n r] : Ext l.toArray off n r.toArray := ⟨by
  obtain ⟨h0, rfl⟩ := h.out
  obtain ⟨h1, rfl⟩ := h2.out
  simp at h1
  refine ⟨by simp; omega, ?_⟩
  simp [List.extract_eq_take_drop]⟩
class Siz (cs : Array Value) (n : outParam Nat) : Prop where
  out : cs.size = n
class LenL (l : List Value) (n : outParam Nat) : Prop where
  out : l.length = n
instance lenL0 : LenL [] 0 := ⟨rfl⟩
instance lenLS (x : Value) (l : List Value) (n : Nat) [h : LenL l n] : LenL (x :: l) (n + 1) := ⟨by simp [h.out]⟩
instance sizArr (l : List Value) (n : Nat) [h : LenL l n] : Siz l.toArray n := ⟨by simpa using h.out⟩

/-! ### what a type is: facts of a program, laid by instances -/
class Und (P : Program) (t : TypeId) (d : outParam TypeDesc) : Prop where
  out : P.underlying t = some d
class Sc (P : Program) (t : TypeId) : Prop where
  out : ∀ w, (isAgg t).run P w = .ok false w
class Ag (P : Program) (t : TypeId) (n : outParam Nat) : Prop where
  out : (∀ w, (isAgg t).run P w = .ok true w) ∧ ∀ w, (sizeOf t).run P w = .ok n w
class Sz (P : Program) (t : TypeId) (n : outParam Nat) : Prop where
  out : ∀ w, (sizeOf t).run P w = .ok n w
class Zr (P : Program) (t : TypeId) (z : outParam Value) : Prop where
  out : ∀ w, (zeroValue t).run P w = .ok z w
class Fl (P : Program) (t : TypeId) (f : Nat) (off : outParam Nat) : Prop where
  out : ∀ b o w, (Instr.fieldAt t (.pointer (some ⟨b, o, none⟩)) f).run P w = .ok (.pointer (some ⟨b, o + off, none⟩)) w

/-! ### a load -/
theorem cell_of {w : World} {b i : Nat} {cs : Array Value} {t : TypeId} {fr : Nat × Nat} (h : w.heap[b]? = some (.cells cs t fr)) : w.cell? ⟨b, i, none⟩ = cs[i]? := by
  simp [World.cell?, h]
theorem add_at (b i n : Nat) : (Addr.mk b i none).add n = ⟨b, i + n, none⟩ := by
  unfold Addr.add; split <;> simp_all

/-- what is read at a type's variable -/
class Ld (P : Program) (t : TypeId) (cs : Array Value) (off : Nat) (v : outParam Value) : Prop where
  out : ∀ b et fr w, w.heap[b]? = some (.cells cs et fr) → (loadVar t ⟨b, off, none⟩).run P w = .ok v w
instance ldSc (P : Program) (t : TypeId) (cs : Array Value) (off : Nat) (v : Value) [h : Sc P t] [h2 : At cs off v] : Ld P t cs off v := ⟨fun b et fr w hb => by
  have hc : w.cell? ⟨b, off, none⟩ = some v := by rw [cell_of hb]; exact h2.out
  simp [loadVar, h.out, hc]⟩
theorem ldAg {P : Program} {t : TypeId} {cs r : Array Value} {off n : Nat} (h : Ag P t n) (h2 : off + n ≤ cs.size ∧ cs.extract off (off + n) = r) (b : Nat) (et : TypeId) (fr : Nat × Nat) (w : World)
    (hb : w.heap[b]? = some (.cells cs et fr)) : (loadVar t ⟨b, off, none⟩).run P w = .ok (.agg r) w := by
  obtain ⟨hs, rfl⟩ := h2
  have hl : (loadCells ⟨b, off, none⟩ n).run P w = .ok (cs.extract off (off + n)) w := by
    have := run_loadCells (P := P) (w := w) ⟨b, off, none⟩ n (fun j => cs.getD (off + j) undef) (fun j hj => by
      rw [add_at, cell_of hb]
      have : off + j < cs.size := by omega
      simp [Array.getD, this])
    rw [this]
    congr 1
    apply Array.ext
    · simp; omega
    · intro i h1 h2
      simp at h1 h2
      have : off + i < cs.size := by omega
      simp [Array.getD, this]
  simp [loadVar, h.out.1, h.out.2, hl]
instance (priority := high) ldWhole (P : Program) (t : TypeId) (cs : Array Value) (n : Nat) [h : Ag P t n] [h2 : Siz cs n] : Ld P t cs 0 (.agg cs) := ⟨fun b et fr w hb =>
  ldAg h ⟨by simp [h2.out], by simp [← h2.out]⟩ b et fr w hb⟩
instance ldPart (P : Program) (t : TypeId) (cs r : Array Value) (off n : Nat) [h : Ag P t n] [h2 : Ext cs off n r] : Ld P t cs off (.agg r) := ⟨fun b et fr w hb => ldAg h h2.out b et fr w hb⟩

/-! ### operations that leave the world as it is -/
class Y (P : Program) (R : List Hp) (L : Env) (Γ : List Hp) (op : Op) (v : outParam Value) : Prop where
  out : ∀ (C : Cx) (n : Nat) (a : Act) (w : World) (dst : Option Tmp) (ty : TypeId) (pos : String) (af : Array Edge) (g : Option (Nat × Bool)), Kn n L a → Inv C R Γ w →
    (execOp a.eval ⟨dst, op, ty, pos, af, g⟩).run P w = .ok (.value v) w
section
variable {P : Program} {R : List Hp} {L : Env} {Γ : List Hp}
instance yMove (x : Operand) (v : Value) [h : Ev L x v] : Y P R L Γ (.move x) v := ⟨fun C n a w _ _ _ _ _ k i => by simp [execOp, h.out n a k]⟩
instance yAssign (x : Operand) (v : Value) [h : Ev L x v] : Y P R L Γ (.assign x) v := ⟨fun C n a w _ _ _ _ _ k i => by simp [execOp, h.out n a k]⟩
instance yPickT (c x y : Operand) (v : Value) [h : Ev L c (.bool true)] [h2 : Ev L x v] : Y P R L Γ (.pick c x y) v := ⟨fun C n a w _ _ _ _ _ k i => by simp [execOp, h.out n a k, h2.out n a k, asBool]⟩
instance yPickF (c x y : Operand) (v : Value) [h : Ev L c (.bool false)] [h2 : Ev L y v] : Y P R L Γ (.pick c x y) v := ⟨fun C n a w _ _ _ _ _ k i => by simp [execOp, h.out n a k, h2.out n a k, asBool]⟩
instance yNil (x : Operand) (p : Addr) [h : Ev L x (.pointer (some p))] : Y P R L Γ (.nilCheck x) (.pointer (some p)) := ⟨fun C n a w _ _ _ _ _ k i => by simp [execOp, h.out n a k]⟩
instance yExtract (x : Operand) (j : Nat) (vs : Array Value) (v : Value) [h : Ev L x (.tuple vs)] [h2 : At vs j v] : Y P R L Γ (.extract x j) v := ⟨fun C n a w _ _ _ _ _ k i => by simp [execOp, h.out n a k, Instr.extract, h2.out]⟩
instance yLoad (t et : TypeId) (x : Operand) (b off : Nat) (cs : Array Value) (fr : Nat × Nat) (v : Value) [h : Ev L x (.pointer (some ⟨b, off, none⟩))] [h2 : See R Γ b (.cells cs et fr)] [h3 : Ld P t cs off v] :
    Y P R L Γ (.load t x) v := ⟨fun C n a w _ _ _ _ _ k i => by
  have := h3.out b et fr w (h2.out C w i)
  simp [execOp, h.out n a k, Instr.loadAt, Instr.sureAddr, this]⟩
instance yField (t : TypeId) (x : Operand) (f b off fo : Nat) [h : Ev L x (.pointer (some ⟨b, off, none⟩))] [h2 : Fl P t f fo] : Y P R L Γ (.fieldAddr t x f) (.pointer (some ⟨b, off + fo, none⟩)) := ⟨fun C n a w _ _ _ _ _ k i => by
  simp [execOp, h.out n a k, h2.out]⟩
instance (priority := high) yField0 (t : TypeId) (x : Operand) (f b fo : Nat) [h : Ev L x (.pointer (some ⟨b, 0, none⟩))] [h2 : Fl P t f fo] : Y P R L Γ (.fieldAddr t x f) (.pointer (some ⟨b, fo, none⟩)) := ⟨fun C n a w _ _ _ _ _ k i => by
  simp [execOp, h.out n a k, h2.out]⟩
instance yNot (t : TypeId) (x : Operand) (b : Bool) [h : Ev L x (.bool b)] : Y P R L Γ (.unOp .not t x) (.bool (!b)) := ⟨fun C n a w _ _ _ _ _ k i => by simp [execOp, h.out n a k, Op.unary]⟩
instance (priority := high) yNotD (t : TypeId) (x : Operand) (p : Prop) [Decidable p] [h : Ev L x (.bool (decide p))] : Y P R L Γ (.unOp .not t x) (.bool (decide (¬ p))) := ⟨fun C n a w _ _ _ _ _ k i => by simp [execOp, h.out n a k, Op.unary]⟩
instance (priority := high) yNotT (t : TypeId) (x : Operand) [h : Ev L x (.bool true)] : Y P R L Γ (.unOp .not t x) (.bool false) := ⟨fun C n a w _ _ _ _ _ k i => by simp [execOp, h.out n a k, Op.unary]⟩
instance (priority := high) yNotF (t : TypeId) (x : Operand) [h : Ev L x (.bool false)] : Y P R L Γ (.unOp .not t x) (.bool true) := ⟨fun C n a w _ _ _ _ _ k i => by simp [execOp, h.out n a k, Op.unary]⟩

instance yConvI (src dst : TypeId) (x : Operand) (k j : IntKind) (i : Int) [h : Ev L x (.int j i)] [h1 : Und P src (.int j)] [h2 : Und P dst (.int k)] : Y P R L Γ (.convert src dst x) (.int k (k.wrap i)) := ⟨fun C n a w _ _ _ _ _ kn i => by
  simp [execOp, h.out n a kn, convert, underlying, h1.out, h2.out, Conv.intToInt]⟩
instance yNeg (t : TypeId) (x : Operand) (k : IntKind) (i : Int) [h : Ev L x (.int k i)] : Y P R L Γ (.unOp .neg t x) (.int k (k.wrap (0 - i))) := ⟨fun C n a w _ _ _ _ _ kn _ => by
  simp [execOp, h.out n a kn, Op.unary, Op.intArith]⟩
/-- a binary operator on two values -/
class Bin (P : Program) (op : BinOp) (t : TypeId) (x y : Value) (v : outParam Value) : Prop where
  out : (∀ w, (binOp op t x y).run P w = .ok v w) ∧ ((op = .eql ∨ op = .neq) → (∀ (p q : Operand) w, (eqGuard op t p q x y).run P w = .ok () w))
instance yBin (op : BinOp) (t ty : TypeId) (x y : Operand) (vx vy v : Value) [h : Ev L x vx] [h2 : Ev L y vy] [h3 : Bin P op t vx vy v] : Y P R L Γ (.binOp op t x y ty) v := ⟨fun C n a w _ _ _ _ _ k i => by
  have e := h3.out
  simp only [execOp, h.out n a k, h2.out n a k]
  by_cases he : op = .eql ∨ op = .neq
  · simp [e.1, e.2 he]
  · have : (eqGuard op t x y vx vy).run P w = .ok () w := by
      unfold eqGuard
      cases op <;> simp at he ⊢
    simp [e.1, this]⟩
theorem guardInt (P : Program) (op : BinOp) (t : TypeId) (k j : IntKind) (x y : Int) (p q : Operand) (w : World) : (eqGuard op t p q (.int k x) (.int j y)).run P w = .ok () w := by
  unfold eqGuard; cases op <;> simp
instance biLss (t : TypeId) (k : IntKind) (x y : Int) : Bin P .lss t (.int k x) (.int k y) (.bool (decide (x < y))) := ⟨fun w => by simp [binOp, Op.intCmp], fun _ p q w => guardInt ..⟩
instance biLeq (t : TypeId) (k : IntKind) (x y : Int) : Bin P .leq t (.int k x) (.int k y) (.bool (decide (x ≤ y))) := ⟨fun w => by simp [binOp, Op.intCmp], fun _ p q w => guardInt ..⟩
instance biGtr (t : TypeId) (k : IntKind) (x y : Int) : Bin P .gtr t (.int k x) (.int k y) (.bool (decide (y < x))) := ⟨fun w => by simp [binOp, Op.intCmp], fun _ p q w => guardInt ..⟩
instance biGeq (t : TypeId) (k : IntKind) (x y : Int) : Bin P .geq t (.int k x) (.int k y) (.bool (decide (y ≤ x))) := ⟨fun w => by simp [binOp, Op.intCmp], fun _ p q w => guardInt ..⟩
instance biEql (t : TypeId) (k : IntKind) (x y : Int) : Bin P .eql t (.int k x) (.int k y) (.bool (decide (x = y))) := ⟨fun w => by simp [binOp, Op.intCmp]; rfl, fun _ p q w => guardInt ..⟩
instance biNeq (t : TypeId) (k : IntKind) (x y : Int) : Bin P .neq t (.int k x) (.int k y) (.bool (decide (x ≠ y))) := ⟨fun w => by simp only [binOp, Op.intCmp]; simp; rfl, fun _ p q w => guardInt ..⟩
theorem biAdd (t : TypeId) (x y : Int) : Bin P .add t (.int .i64 x) (.int .i64 y) (.int .i64 (RowKit.wrap64 (x + y))) := ⟨fun w => by simp [binOp, Op.intArith, IntKind.wrap_i64, RowKit.wrap64], fun _ p q w => guardInt ..⟩
theorem biSub (t : TypeId) (x y : Int) : Bin P .sub t (.int .i64 x) (.int .i64 y) (.int .i64 (RowKit.wrap64 (x - y))) := ⟨fun w => by simp [binOp, Op.intArith, IntKind.wrap_i64, RowKit.wrap64], fun _ p q w => guardInt ..⟩
theorem biMul (t : TypeId) (x y : Int) : Bin P .mul t (.int .i64 x) (.int .i64 y) (.int .i64 (RowKit.wrap64 (x * y))) := ⟨fun w => by simp [binOp, Op.intArith, IntKind.wrap_i64, RowKit.wrap64], fun _ p q w => guardInt ..⟩
instance biAnd (t : TypeId) (k : IntKind) (x y : Int) : Bin P .and t (.int k x) (.int k y) (.int k (bits .and k x y)) := ⟨fun w => by simp [binOp, Op.intBits, bits], fun _ p q w => guardInt ..⟩
instance biOr (t : TypeId) (k : IntKind) (x y : Int) : Bin P .or t (.int k x) (.int k y) (.int k (bits .or k x y)) := ⟨fun w => by simp [binOp, Op.intBits, bits], fun _ p q w => guardInt ..⟩
instance biXor (t : TypeId) (k : IntKind) (x y : Int) : Bin P .xor t (.int k x) (.int k y) (.int k (bits .xor k x y)) := ⟨fun w => by simp [binOp, Op.intBits, bits], fun _ p q w => guardInt ..⟩
instance biAndNot (t : TypeId) (k : IntKind) (x y : Int) : Bin P .andNot t (.int k x) (.int k y) (.int k (bits .andNot k x y)) := ⟨fun w => by simp [binOp, Op.intBits, bits], fun _ p q w => guardInt ..⟩
/-- a kind other than i64 -/
class Nw (k : IntKind) : Prop
instance : Nw .i8 := ⟨⟩
instance : Nw .i16 := ⟨⟩
instance : Nw .i32 := ⟨⟩
instance : Nw .u8 := ⟨⟩
instance : Nw .u16 := ⟨⟩
instance : Nw .u32 := ⟨⟩
instance : Nw .u64 := ⟨⟩
instance (priority := low) biAddK (t : TypeId) (k : IntKind) [Nw k] (x y : Int) : Bin P .add t (.int k x) (.int k y) (.int k (k.wrap (x + y))) := ⟨fun w => by simp [binOp, Op.intArith], fun _ p q w => guardInt ..⟩
instance (priority := low) biSubK (t : TypeId) (k : IntKind) [Nw k] (x y : Int) : Bin P .sub t (.int k x) (.int k y) (.int k (k.wrap (x - y))) := ⟨fun w => by simp [binOp, Op.intArith], fun _ p q w => guardInt ..⟩
instance (priority := low) biMulK (t : TypeId) (k : IntKind) [Nw k] (x y : Int) : Bin P .mul t (.int k x) (.int k y) (.int k (k.wrap (x * y))) := ⟨fun w => by simp [binOp, Op.intArith], fun _ p q w => guardInt ..⟩
/-- a shift by a count that isn't below 0 -/
def shlI (k : IntKind) (x y : Int) : Int := k.wrap (x * 2 ^ (min y.toNat k.bits))
def shrI (k : IntKind) (x y : Int) : Int := x.fdiv (2 ^ (min y.toNat k.bits))
theorem bi_shl {t : TypeId} {k j : IntKind} {x y : Int} (h : 0 ≤ y) : Bin P .shl t (.int k x) (.int j y) (.int k (shlI k x y)) := ⟨fun w => by
  have : ¬ y < 0 := by omega
  simp [binOp, Op.shift, this, shlI], fun h => by rcases h with h | h <;> cases h⟩
theorem bi_shr {t : TypeId} {k j : IntKind} {x y : Int} (h : 0 ≤ y) : Bin P .shr t (.int k x) (.int j y) (.int k (shrI k x y)) := ⟨fun w => by
  have : ¬ y < 0 := by omega
  simp [binOp, Op.shift, this, shrI], fun h => by rcases h with h | h <;> cases h⟩
theorem bi_quo {t : TypeId} {k : IntKind} {x y : Int} (h : y ≠ 0) : Bin P .quo t (.int k x) (.int k y) (.int k (k.wrap (x.tdiv y))) := ⟨fun w => by
  simp [binOp, Op.intDiv, h], fun h => by rcases h with h | h <;> cases h⟩
theorem bi_rem {t : TypeId} {k : IntKind} {x y : Int} (h : y ≠ 0) : Bin P .rem t (.int k x) (.int k y) (.int k (x.tmod y)) := ⟨fun w => by
  simp [binOp, Op.intDiv, h], fun h => by rcases h with h | h <;> cases h⟩
instance biBoolE (t : TypeId) (x y : Bool) [h : Und P t .bool] : Bin P .eql t (.bool x) (.bool y) (.bool (x == y)) := ⟨fun w => run_eql_bool w t x y h.out, fun _ p q w => by unfold eqGuard; simp⟩
instance biBoolN (t : TypeId) (x y : Bool) [h : Und P t .bool] : Bin P .neq t (.bool x) (.bool y) (.bool (!(x == y))) := ⟨fun w => run_neq_bool w t x y h.out, fun _ p q w => by unfold eqGuard; simp⟩
end

/-! ### the walk over a region's operations in the text's order -/
/-- whatever world and frame fit what is known: K holds -/
def VK (C : Cx) (R : List Hp) (n : Nat) (L : Env) (Γ : List Hp) (K : Act → World → Prop) : Prop := ∀ a w, Kn n L a → Inv C R Γ w → K a w
/-- the rest of a list of operations; a piece of code; what is behind an exit -/
def KL (P : Program) (all : Array Oper) (Q : Exit → Act → World → Prop) (ops : List Oper) : Act → World → Prop := wpList P all Q ops
def KC (P : Program) (c : Code) (Q : Exit → Act → World → Prop) : Act → World → Prop := c.wp P Q
def KE (Q : Exit → Act → World → Prop) (e : Exit) : Act → World → Prop := Q e
/-- one operation, and what follows it -/
def wp1 (P : Program) (all : Array Oper) (Q : Exit → Act → World → Prop) (o : Oper) (K : Act → World → Prop) (a : Act) (w : World) : Prop :=
  if Region.wanted o (yielded all a.tmps) then o.wp P a w K Q ∨ (o.asks P a w ∧ LetsOut Q) else K (a.put o.dst undef) w
section
variable {P : Program} {C : Cx} {R : List Hp} {n : Nat} {all : Array Oper} {Q : Exit → Act → World → Prop} {L : Env} {Γ : List Hp} {rest : List Oper} {w : World}
theorem v_done (h : VK C R n L Γ (KE Q .normal)) : VK C R n L Γ (KL P all Q []) := fun a w k i => h a w k i
theorem v_val {d : Nat} {op : Op} {ty : TypeId} {pos : String} {af : Array Edge} {v : Value} [hy : Y P R L Γ op v] [hd : Is (Nat.ble n d = false)] (h : VK C R n ((d, v) :: L) Γ (KL P all Q rest)) :
    VK C R n L Γ (KL P all Q (⟨some d, op, ty, pos, af, none⟩ :: rest)) := fun a w k i => by
  have hd' : d < n := lt_of_ble hd.out
  simp only [KL, wpList, Region.wanted, if_true]
  refine .inl ?_
  simp only [Oper.wp, hy.out C n a w _ _ _ _ _ k i, Oper.upon]
  exact h _ _ (k.put hd') i
theorem v_valN {op : Op} {ty : TypeId} {pos : String} {af : Array Edge} {v : Value} [hy : Y P R L Γ op v] (h : VK C R n L Γ (KL P all Q rest)) :
    VK C R n L Γ (KL P all Q (⟨none, op, ty, pos, af, none⟩ :: rest)) := fun a w k i => by
  simp only [KL, wpList, Region.wanted, if_true]
  refine .inl ?_
  simp only [Oper.wp, hy.out C n a w _ _ _ _ _ k i, Oper.upon]
  exact h _ _ k i

theorem v_guardY {dst : Option Tmp} {op : Op} {ty : TypeId} {pos : String} {af : Array Edge} {j t : Nat} {b : Bool} (ht : (all[j]?).bind (·.dst) = some t) [hl : Lk L t (.bool b)]
    (hy : VK C R n L Γ (KL P all Q (⟨dst, op, ty, pos, af, none⟩ :: rest))) : VK C R n L Γ (KL P all Q (⟨dst, op, ty, pos, af, some (j, b)⟩ :: rest)) := fun a w k i => by
  have hc := k.2.2 t _ hl.out
  have hw : Region.wanted ⟨dst, op, ty, pos, af, some (j, b)⟩ (yielded all a.tmps) = true := by
    simp only [Region.wanted, yielded, ht, Option.bind_some, hc, beq_self_eq_true]
  have := hy a w k i
  simp only [KL, wpList, Region.wanted, if_true] at this
  show if Region.wanted ⟨dst, op, ty, pos, af, some (j, b)⟩ (yielded all a.tmps) = true then _ else _
  rw [hw, if_pos rfl]
  exact this
theorem v_guardN {dst : Option Tmp} {op : Op} {ty : TypeId} {pos : String} {af : Array Edge} {j t : Nat} {b c : Bool} (ht : (all[j]?).bind (·.dst) = some t) [hl : Lk L t (.bool c)] (hne : c ≠ b)
    (hn : ∀ a w, Kn n L a → Inv C R Γ w → wpList P all Q rest (a.put dst undef) w) : VK C R n L Γ (KL P all Q (⟨dst, op, ty, pos, af, some (j, b)⟩ :: rest)) := fun a w k i => by
  have hc := k.2.2 t _ hl.out
  have hw : Region.wanted ⟨dst, op, ty, pos, af, some (j, b)⟩ (yielded all a.tmps) = false := by
    simp only [Region.wanted, yielded, ht, Option.bind_some, hc]
    cases c <;> cases b <;> simp_all
  show if Region.wanted ⟨dst, op, ty, pos, af, some (j, b)⟩ (yielded all a.tmps) = true then _ else _
  rw [hw, if_neg (by simp)]
  exact hn a w k i
/-- a guard that is known not to hold: the operation is left out -/
theorem v_guardTF {d : Nat} {op : Op} {ty : TypeId} {pos : String} {af : Array Edge} {j t : Nat} (ht : (all[j]?).bind (·.dst) = some t) [hl : Lk L t (.bool false)] [hd : Is (Nat.ble n d = false)]
    (hn : VK C R n ((d, undef) :: L) Γ (KL P all Q rest)) : VK C R n L Γ (KL P all Q (⟨some d, op, ty, pos, af, some (j, true)⟩ :: rest)) := v_guardN ht (by simp) (fun a w k i => hn _ _ (k.put (lt_of_ble hd.out)) i)
theorem v_guardFT {d : Nat} {op : Op} {ty : TypeId} {pos : String} {af : Array Edge} {j t : Nat} (ht : (all[j]?).bind (·.dst) = some t) [hl : Lk L t (.bool true)] [hd : Is (Nat.ble n d = false)]
    (hn : VK C R n ((d, undef) :: L) Γ (KL P all Q rest)) : VK C R n L Γ (KL P all Q (⟨some d, op, ty, pos, af, some (j, false)⟩ :: rest)) := v_guardN ht (by simp) (fun a w k i => hn _ _ (k.put (lt_of_ble hd.out)) i)
theorem v_guardTFn {op : Op} {ty : TypeId} {pos : String} {af : Array Edge} {j t : Nat} (ht : (all[j]?).bind (·.dst) = some t) [hl : Lk L t (.bool false)]
    (hn : VK C R n L Γ (KL P all Q rest)) : VK C R n L Γ (KL P all Q (⟨none, op, ty, pos, af, some (j, true)⟩ :: rest)) := v_guardN ht (by simp) (fun a w k i => hn _ _ k i)
theorem v_guardFTn {op : Op} {ty : TypeId} {pos : String} {af : Array Edge} {j t : Nat} (ht : (all[j]?).bind (·.dst) = some t) [hl : Lk L t (.bool true)]
    (hn : VK C R n L Γ (KL P all Q rest)) : VK C R n L Γ (KL P all Q (⟨none, op, ty, pos, af, some (j, false)⟩ :: rest)) := v_guardN ht (by simp) (fun a w k i => hn _ _ k i)
/-- a guard whose own test was left out -/
theorem v_guardU {d : Nat} {op : Op} {ty : TypeId} {pos : String} {af : Array Edge} {j t : Nat} {b : Bool} (ht : (all[j]?).bind (·.dst) = some t) [hl : Lk L t undef] [hd : Is (Nat.ble n d = false)]
    (hn : VK C R n ((d, undef) :: L) Γ (KL P all Q rest)) : VK C R n L Γ (KL P all Q (⟨some d, op, ty, pos, af, some (j, b)⟩ :: rest)) := fun a w k i => by
  have hc := k.2.2 t _ hl.out
  have hw : Region.wanted ⟨some d, op, ty, pos, af, some (j, b)⟩ (yielded all a.tmps) = false := by
    simp only [Region.wanted, yielded, ht, Option.bind_some, hc]
    cases b <;> rfl
  show if Region.wanted ⟨some d, op, ty, pos, af, some (j, b)⟩ (yielded all a.tmps) = true then _ else _
  rw [hw, if_neg (by simp)]
  exact hn _ _ (k.put (lt_of_ble hd.out)) i
theorem Kn.know {a : Act} {t : Nat} {c x : Bool} (k : Kn n L a) (hl : Lk L t (.bool c)) (e : c = x) : Kn n ((t, .bool x) :: L) a := ⟨k.1, k.2.1, fun u v hu => by
  by_cases e' : u = t
  · subst e'; simp [List.lookup] at hu; rw [← hu, ← e]; exact k.2.2 _ _ hl.out
  · have e2 : (u == t) = false := by simpa using e'
    simp only [List.lookup, e2] at hu
    exact k.2.2 u v hu⟩
/-- a guard that is not known: both ways, with the test as a proposition -/
theorem v_split {o : Oper} {j t : Nat} {b : Bool} {p : Prop} [Decidable p] (_hg : o.guard = some (j, b)) (_ht : (all[j]?).bind (·.dst) = some t) [hl : Lk L t (.bool (decide p))] (h1 : p → VK C R n ((t, .bool true) :: L) Γ (KL P all Q (o :: rest)))
    (h2 : ¬ p → VK C R n ((t, .bool false) :: L) Γ (KL P all Q (o :: rest))) : VK C R n L Γ (KL P all Q (o :: rest)) := fun a w k i => by
  by_cases hp : p
  · exact h1 hp a w (k.know hl (by simp [hp])) i
  · exact h2 hp a w (k.know hl (by simp [hp])) i
theorem v_splitB {o : Oper} {j t : Nat} {b c : Bool} (_hg : o.guard = some (j, b)) (_ht : (all[j]?).bind (·.dst) = some t) [hl : Lk L t (.bool c)] (h1 : c = true → VK C R n ((t, .bool true) :: L) Γ (KL P all Q (o :: rest)))
    (h2 : c = false → VK C R n ((t, .bool false) :: L) Γ (KL P all Q (o :: rest))) : VK C R n L Γ (KL P all Q (o :: rest)) := fun a w k i => by
  cases c with
  | true => exact h1 rfl a w (k.know hl rfl) i
  | false => exact h2 rfl a w (k.know hl rfl) i

/-! ### new memory, and stores -/
theorem Inv.new (h : Inv C R Γ w) (o : Obj) : Inv C R ([(w.heap.size, o)] :: Γ) (w.alloc o) := by
  have old : ∀ b o', w.heap[b]? = some o' → (w.alloc o).heap[b]? = some o' := fun b o' hb => by
    have : b < w.heap.size := by
      rcases Nat.lt_or_ge b w.heap.size with h | h
      · exact h
      · rw [Array.getElem?_eq_none h] at hb; cases hb
    rw [heap_alloc_old w o this]; exact hb
  have lt : ∀ b ∈ keys Γ, b < w.heap.size := fun b hb => by
    obtain ⟨x, hx, rfl⟩ := List.mem_map.1 hb
    have := h.own x hx
    rcases Nat.lt_or_ge x.1 w.heap.size with h | h
    · exact h
    · rw [Array.getElem?_eq_none h] at this; cases this
  have ltR : ∀ b ∈ keys R, b < w.heap.size := fun b hb => by
    obtain ⟨x, hx, rfl⟩ := List.mem_map.1 hb
    have := h.ro x hx
    rcases Nat.lt_or_ge x.1 w.heap.size with h | h
    · exact h
    · rw [Array.getElem?_eq_none h] at this; cases this
  have hk : keys ([(w.heap.size, o)] :: Γ) = w.heap.size :: keys Γ := by simp [keys]
  refine ⟨h.os, h.tape, h.output, Nat.le_trans h.size (by simp), fun x hx => old _ _ (h.ro x hx), fun x hx => ?_, ?_, fun b hb => ?_, fun b hb => ?_, fun b hb hM => ?_, h.dr⟩
  · simp only [List.flatten_cons, List.mem_append, List.mem_singleton] at hx
    rcases hx with rfl | hx
    · exact heap_alloc_new w o
    · exact old _ _ (h.own x hx)
  · rw [hk, List.nodup_cons]
    exact ⟨fun hm => Nat.lt_irrefl _ (lt _ hm), h.nodup⟩
  · rw [hk] at hb
    rcases List.mem_cons.1 hb with rfl | hb
    · exact fun hm => Nat.lt_irrefl _ (ltR _ hm)
    · exact h.apart b hb
  · rw [hk] at hb
    rcases List.mem_cons.1 hb with rfl | hb
    · exact .inr h.size
    · exact h.may b hb
  · rw [heap_alloc_old w o (Nat.lt_of_lt_of_le hb h.size)]
    exact h.frame b hb hM
theorem Inv.drew (h : Inv C R Γ w) : Inv C R Γ w.drew := ⟨h.os, h.tape, h.output, h.size, h.ro, h.own, h.nodup, h.apart, h.may, h.frame, fun e => Nat.le_succ_of_le (h.dr e)⟩

/-- one known block takes another content -/
class Upd (Γ : List Hp) (b : Nat) (o : outParam Obj) (Γ' : outParam (Obj → List Hp)) : Prop where
  out : (b, o) ∈ Γ.flatten ∧ ∀ o', keys (Γ' o') = keys Γ ∧ ∀ x ∈ (Γ' o').flatten, x = (b, o') ∨ (x ∈ Γ.flatten ∧ ((keys Γ).Nodup → x.1 ≠ b))
instance (priority := high) updHere (Γ : List Hp) (b : Nat) (o : Obj) : Upd ([(b, o)] :: Γ) b o (fun o' => [(b, o')] :: Γ) := ⟨by simp, fun o' => ⟨by simp [keys], fun x hx => by
  simp only [List.flatten_cons, List.mem_append, List.mem_singleton] at hx ⊢
  rcases hx with rfl | hx
  · exact .inl rfl
  · refine .inr ⟨.inr hx, fun hn e => ?_⟩
    simp only [keys, List.flatten_cons, List.map_cons, List.singleton_append, List.nodup_cons] at hn
    exact hn.1 (List.mem_map.2 ⟨x, hx, e⟩)⟩⟩
instance updThere (Γ : List Hp) (s : Hp) (b : Nat) (o : Obj) (f : Obj → List Hp) [h : Upd Γ b o f] : Upd (s :: Γ) b o (fun o' => s :: f o') := ⟨by
  simp only [List.flatten_cons, List.mem_append]; exact .inr h.out.1, fun o' => ⟨by have := (h.out.2 o').1; simp only [keys, List.flatten_cons, List.map_append] at this ⊢; rw [this], fun x hx => by
    simp only [List.flatten_cons, List.mem_append] at hx ⊢
    rcases hx with hx | hx
    · refine .inr ⟨.inl hx, fun hn e => ?_⟩
      simp only [keys, List.flatten_cons, List.map_append, List.nodup_append] at hn
      exact hn.2.2 x.1 (List.mem_map.2 ⟨x, hx, rfl⟩) b (List.mem_map.2 ⟨_, h.out.1, rfl⟩) e
    · rcases (h.out.2 o').2 x hx with e | ⟨e, e2⟩
      · exact .inl e
      · refine .inr ⟨.inr e, fun hn => e2 ?_⟩
        simp only [keys, List.flatten_cons, List.map_append, List.nodup_append] at hn
        exact hn.2.1⟩⟩

theorem Inv.upd {b : Nat} {o : Obj} {f : Obj → List Hp} (h : Inv C R Γ w) (hu : Upd Γ b o f) {w' : World} {o' : Obj} (hb : w'.heap[b]? = some o') (hother : ∀ k, k ≠ b → w'.heap[k]? = w.heap[k]?) (hs : w'.heap.size = w.heap.size)
    (h1 : w'.os = w.os) (h2 : w'.tape = w.tape) (h3 : w'.output = w.output) (h4 : w'.drawn = w.drawn) : Inv C R (f o') w' := by
  have hbk : b ∈ keys Γ := List.mem_map.2 ⟨_, hu.out.1, rfl⟩
  obtain ⟨hk, hm⟩ := hu.out.2 o'
  refine ⟨h1.trans h.os, h2.trans h.tape, h3.trans h.output, hs ▸ h.size, fun x hx => ?_, fun x hx => ?_, hk ▸ h.nodup, hk ▸ h.apart, hk ▸ h.may, fun k hk hM => ?_, fun e => h4 ▸ h.dr e⟩
  · rw [hother _ (fun e => h.apart b hbk (e ▸ List.mem_map.2 ⟨x, hx, rfl⟩))]
    exact h.ro x hx
  · rcases hm x hx with rfl | ⟨hx, hne⟩
    · exact hb
    · rw [hother _ (hne h.nodup)]
      exact h.own x hx
  · rw [hother _ (fun e => ?_)]
    · exact h.frame k hk hM
    · rcases h.may b hbk with hb | hb
      · exact hM (e ▸ hb)
      · omega

theorem v_alloc {K : Act → World → Prop} {d t : Nat} {ty : TypeId} {pos : String} {af : Array Edge} {z : Value} [hz : Zr P t z] [hd : Is (Nat.ble n d = false)]
    (h : ∀ b, VK C R n ((d, .pointer (some ⟨b, 0, none⟩)) :: L) ([(b, .cells z.cells t (0, 0))] :: Γ) K) : VK C R n L Γ (wp1 P all Q ⟨some d, .alloc t, ty, pos, af, none⟩ K) := fun a w k i => by
  have hd' : d < n := lt_of_ble hd.out
  simp only [wp1, Region.wanted, if_true]
  refine .inl ?_
  have : (execOp a.eval ⟨some d, .alloc t, ty, pos, af, none⟩).run P w = .ok (.value (.pointer (some ⟨w.heap.size, 0, none⟩))) (w.alloc (.cells z.cells t)) := by
    simp [execOp, Instr.alloc, hz.out, newVar, newRow]
  simp only [Oper.wp, this, Oper.upon]
  exact h _ _ _ (k.put hd') (i.new _)
/-- the cells of a value -/
class Cel (v : Value) (cs : outParam (Array Value)) : Prop where
  out : v.cells = cs
instance celAgg (cs : Array Value) : Cel (.agg cs) cs := ⟨rfl⟩
instance celInt (k : IntKind) (x : Int) : Cel (.int k x) #[.int k x] := ⟨rfl⟩
instance celBool (x : Bool) : Cel (.bool x) #[.bool x] := ⟨rfl⟩
instance celStr (x : ByteArray) : Cel (.string x) #[.string x] := ⟨rfl⟩
instance celPtr (x : Option Addr) : Cel (.pointer x) #[.pointer x] := ⟨rfl⟩
instance celSl (x : Option Addr) (l c : Nat) : Cel (.slice x l c) #[.slice x l c] := ⟨rfl⟩
instance celMap (x : Option Nat) : Cel (.map x) #[.map x] := ⟨rfl⟩
instance celNilI : Cel .nilIface #[.nilIface] := ⟨rfl⟩
instance celI (t : TypeId) (x : Value) : Cel (.iface t x) #[.iface t x] := ⟨rfl⟩
instance celF (f : Fn) (x y : Array Value) : Cel (.func f x y) #[.func f x y] := ⟨rfl⟩
instance celNilF : Cel .nilFunc #[.nilFunc] := ⟨rfl⟩
theorem v_alloc' {K : Act → World → Prop} {d t : Nat} {ty : TypeId} {pos : String} {af : Array Edge} {z : Value} {cs : Array Value} [hz : Zr P t z] [hc : Cel z cs] [hd : Is (Nat.ble n d = false)]
    (h : ∀ b, VK C R n ((d, .pointer (some ⟨b, 0, none⟩)) :: L) ([(b, .cells cs t (0, 0))] :: Γ) K) : VK C R n L Γ (wp1 P all Q ⟨some d, .alloc t, ty, pos, af, none⟩ K) := by
  have e := hc.out
  subst e
  exact v_alloc h
theorem v_box {K : Act → World → Prop} {d t : Nat} {x : Operand} {ty : TypeId} {pos : String} {af : Array Edge} {v : Value} {cs : Array Value} [hx : Ev L x v] [hc : Cel v cs] [hd : Is (Nat.ble n d = false)]
    (h : ∀ b, VK C R n ((d, .pointer (some ⟨b, 0, none⟩)) :: L) ([(b, .cells cs t (0, 0))] :: Γ) K) : VK C R n L Γ (wp1 P all Q ⟨some d, .box t x, ty, pos, af, none⟩ K) := fun a w k i => by
  have hd' : d < n := lt_of_ble hd.out
  simp only [wp1, Region.wanted, if_true]
  refine .inl ?_
  have : (execOp a.eval ⟨some d, .box t x, ty, pos, af, none⟩).run P w = .ok (.value (.pointer (some ⟨w.heap.size, 0, none⟩))) (w.alloc (.cells cs t)) := by
    simp [execOp, Instr.box, hx.out n a k, newVar, newRow, hc.out]
  simp only [Oper.wp, this, Oper.upon]
  exact h _ _ _ (k.put hd') (i.new _)

end

/-! ### a store: the cells from a place on -/
class One (v : Value) : Prop where
  out : v.oneCell' = true
instance (k : IntKind) (x : Int) : One (.int k x) := ⟨rfl⟩
instance (x : Bool) : One (.bool x) := ⟨rfl⟩
instance (x : ByteArray) : One (.string x) := ⟨rfl⟩
instance (x : Option Addr) : One (.pointer x) := ⟨rfl⟩
instance (x : Option Addr) (l c : Nat) : One (.slice x l c) := ⟨rfl⟩
instance (x : Option Nat) : One (.map x) := ⟨rfl⟩
instance : One .nilIface := ⟨rfl⟩
instance (t : TypeId) (x : Value) : One (.iface t x) := ⟨rfl⟩
instance (f : Fn) (x y : Array Value) : One (.func f x y) := ⟨rfl⟩
instance : One .nilFunc := ⟨rfl⟩
class OneL (l : List Value) : Prop where
  out : ∀ v ∈ l, v.oneCell' = true
instance oneLNil : OneL [] := ⟨fun _ h => by cases h⟩
instance oneLCons (v : Value) (l : List Value) [h : One v] [h2 : OneL l] : OneL (v :: l) := ⟨fun x hx => by
  rcases List.mem_cons.1 hx with rfl | hx
  · exact h.out
  · exact h2.out x hx⟩
class OneA (cs : Array Value) : Prop where
  out : ∀ v ∈ cs.toList, v.oneCell' = true
instance oneArr (l : List Value) [h : OneL l] : OneA l.toArray := ⟨by simpa using h.out⟩
class PtL (cs : List Value) (off : Nat) (vs : List Value) (r : outParam (List Value)) : Prop where
  out : off + vs.length ≤ cs.length ∧ cs.take off ++ vs ++ cs.drop (off + vs.length) = r
instance ptLN (cs : List Value) : PtL cs 0 [] cs := ⟨by simp⟩
instance ptL0 (c v : Value) (cs vs r : List Value) [h : PtL cs 0 vs r] : PtL (c :: cs) 0 (v :: vs) (v :: r) := ⟨by have := h.out; simp at this ⊢; exact this⟩
instance ptLS (c : Value) (cs vs r : List Value) (off : Nat) [h : PtL cs off vs r] : PtL (c :: cs) (off + 1) vs (c :: r) := ⟨by
  obtain ⟨h1, rfl⟩ := h.out
  refine ⟨by simp; omega, ?_⟩
  rw [show off + 1 + vs.length = (off + vs.length) + 1 by omega]
  simp⟩
class Pt (cs : Array Value) (off : Nat) (vs : Array Value) (r : outParam (Array Value)) : Prop where
  out : off + vs.size ≤ cs.size ∧ (cs.toList.take off ++ vs.toList ++ cs.toList.drop (off + vs.size)).toArray = r
instance (priority := high) ptWhole (cs vs : Array Value) (n : Nat) [h : Siz cs n] [h2 : Siz vs n] : Pt cs 0 vs vs := ⟨by
  have e1 := h.out
  have e2 := h2.out
  refine ⟨by omega, ?_⟩
  rw [List.take_zero, List.nil_append, List.drop_eq_nil_of_le (by simp; omega)]
  simp⟩
instance ptArr (l vs r : List Value) (off : Nat) [h : PtL l off vs r] : Pt l.toArray off vs.toArray r.toArray := ⟨by
  obtain ⟨h1, rfl⟩ := h.out
  exact ⟨by simpa using h1, by simp⟩⟩

section
variable {P : Program} {C : Cx} {R : List Hp} {n : Nat} {all : Array Oper} {Q : Exit → Act → World → Prop} {L : Env} {Γ : List Hp} {rest : List Oper} {w : World}
theorem v_store {K : Act → World → Prop} {t et b off m : Nat} {x y : Operand} {ty : TypeId} {pos : String} {af : Array Edge} {v : Value} {vs cs r : Array Value} {f : Obj → List Hp} [hx : Ev L x (.pointer (some ⟨b, off, none⟩))] [hy : Ev L y v] [hc : Cel v vs]
    [hm : Sz P t m] [hs : Siz vs m] [h1 : OneA vs] [hu : Upd Γ b (.cells cs et (0, 0)) f] [hp : Pt cs off vs r]
    (h : VK C R n L (f (.cells r et (0, 0))) K) : VK C R n L Γ (wp1 P all Q ⟨none, .store t x y, ty, pos, af, none⟩ K) := fun a w k i => by
  have hb := i.own _ hu.out.1
  obtain ⟨p1, p2⟩ := hp.out
  have hst := run_storeCells_at (P := P) b off et vs.toList 0 cs w hb (by simpa using p1) h1.out
  simp only [Nat.add_zero, Array.length_toList, p2] at hst
  have hrun : (execOp a.eval ⟨none, .store t x y, ty, pos, af, none⟩).run P w = .ok .skip (w.setRow b r) := by
    simp [execOp, Instr.storeAt, Instr.sureAddr, hx.out n a k, hy.out n a k, storeVar, hc.out, hm.out, hs.out, hst]
  simp only [wp1, Region.wanted, if_true]
  refine .inl ?_
  simp only [Oper.wp, hrun, Oper.upon]
  refine h _ _ (k.putNone) (i.upd hu (setRow_heap w b cs r et (0, 0) hb) (fun j hj => setRow_other w b j r hj) (by simp) rfl rfl rfl rfl)

/-! ### calls -/
/-- The contract of a call: what is read (R), what is the callee's to change (Γ); it returns, and what it answers and leaves is as Post says. -/
def SpecD (D : Bool) (P : Program) (f : FuncId) (args : Array Value) (R Γ : List Hp) (Post : Value → List Hp → Prop) : Prop :=
  ∀ w, Inv ⟨keys Γ, w, D⟩ R Γ w → Calls P f args w fun e w' => ∃ v Γ', e = .returned v ∧ Post v Γ' ∧ Inv ⟨keys Γ, w, D⟩ R Γ' w'
/-- .. of what is drawn nothing is said -/
abbrev Spec := SpecD false

/-- what a callee reads is known to the caller -/
class Sub (Rc R Γ : List Hp) : Prop where
  out : ∀ x ∈ Rc.flatten, x ∈ R.flatten ∨ x ∈ Γ.flatten
instance subNil (R Γ : List Hp) : Sub [] R Γ := ⟨fun _ h => by cases h⟩
class SegIn (s : Hp) (Γ : List Hp) : Prop where
  out : ∀ x ∈ s, x ∈ Γ.flatten
instance (priority := high) segHere (s : Hp) (Γ : List Hp) : SegIn s (s :: Γ) := ⟨fun x h => by simp [h]⟩
instance segThere (s t : Hp) (Γ : List Hp) [h : SegIn s Γ] : SegIn s (t :: Γ) := ⟨fun x hx => by simp only [List.flatten_cons, List.mem_append]; exact .inr (h.out x hx)⟩
instance subR (s : Hp) (Rc R Γ : List Hp) [h : SegIn s R] [h2 : Sub Rc R Γ] : Sub (s :: Rc) R Γ := ⟨fun x hx => by
  simp only [List.flatten_cons, List.mem_append] at hx
  exact hx.elim (fun hx => .inl (h.out x hx)) (h2.out x)⟩
instance subG (s : Hp) (Rc R Γ : List Hp) [h : SegIn s Γ] [h2 : Sub Rc R Γ] : Sub (s :: Rc) R Γ := ⟨fun x hx => by
  simp only [List.flatten_cons, List.mem_append] at hx
  exact hx.elim (fun hx => .inr (h.out x hx)) (h2.out x)⟩
/-- the callee's part is taken out of the caller's memory -/
class Del (Γ : List Hp) (s : Hp) (Γ' : outParam (List Hp)) : Prop where
  out : Γ.flatten.Perm (s ++ Γ'.flatten)
instance (priority := high) delHere (s : Hp) (Γ : List Hp) : Del (s :: Γ) s Γ := ⟨by simp⟩
instance delThere (s t : Hp) (Γ Γ' : List Hp) [h : Del Γ s Γ'] : Del (t :: Γ) s (t :: Γ') := ⟨by
  simp only [List.flatten_cons]
  exact (h.out.append_left t).trans (by rw [← List.append_assoc, ← List.append_assoc]; exact (List.perm_append_comm).append_right _)⟩
class Pick (Γ Γc : List Hp) (Γr : outParam (List Hp)) : Prop where
  out : Γ.flatten.Perm (Γc.flatten ++ Γr.flatten)
instance pickNil (Γ : List Hp) : Pick Γ [] Γ := ⟨by simp⟩
instance pickCons (Γ Γ1 Γc Γr : List Hp) (s : Hp) [h : Del Γ s Γ1] [h2 : Pick Γ1 Γc Γr] : Pick Γ (s :: Γc) Γr := ⟨by
  simp only [List.flatten_cons, List.append_assoc]
  exact h.out.trans (h2.out.append_left s)⟩

theorem keys_append (A B : List Hp) : keys (A ++ B) = keys A ++ keys B := by simp [keys]
theorem lt_of_own {x : Nat × Obj} (h : w.heap[x.1]? = some x.2) : x.1 < w.heap.size := by
  rcases Nat.lt_or_ge x.1 w.heap.size with h' | h'
  · exact h'
  · rw [Array.getElem?_eq_none h'] at h; cases h

theorem Inv.callee {Γc Γr Rc : List Hp} (i : Inv C R Γ w) (hp : Γ.flatten.Perm (Γc.flatten ++ Γr.flatten)) (hs : ∀ x ∈ Rc.flatten, x ∈ R.flatten ∨ x ∈ Γ.flatten) (ha : ∀ b ∈ keys Γc, b ∉ keys Rc) : Inv ⟨keys Γc, w, C.D⟩ Rc Γc w := by
  have hk : (keys Γ).Perm (keys Γc ++ keys Γr) := by simpa [keys] using hp.map (·.1)
  have hn := hk.nodup_iff.1 i.nodup
  refine ⟨rfl, rfl, rfl, Nat.le_refl _, fun x hx => (hs x hx).elim (i.ro x) (i.own x), fun x hx => i.own x (hp.mem_iff.2 (List.mem_append_left _ hx)), (List.nodup_append.1 hn).1, ha, fun b hb => .inl hb, fun b _ _ => rfl, fun _ => Nat.le_refl _⟩

theorem Inv.back {Γc Γr Rc Γ' : List Hp} {w' : World} (i : Inv C R Γ w) (hp : Γ.flatten.Perm (Γc.flatten ++ Γr.flatten)) (j : Inv ⟨keys Γc, w, C.D⟩ Rc Γ' w') : Inv C R (Γ' ++ Γr) w' := by
  have hk : (keys Γ).Perm (keys Γc ++ keys Γr) := by simpa [keys] using hp.map (·.1)
  have hn := hk.nodup_iff.1 i.nodup
  have hr : ∀ b ∈ keys Γr, b ∉ keys Γc := fun b hb hc => (List.nodup_append.1 hn).2.2 b hc b hb rfl
  have hrl : ∀ x ∈ Γr.flatten, x.1 < w.heap.size := fun x hx => lt_of_own (i.own x (hp.mem_iff.2 (List.mem_append_right _ hx)))
  have hRl : ∀ x ∈ R.flatten, x.1 < w.heap.size := fun x hx => lt_of_own (i.ro x hx)
  have hcM : ∀ b ∈ keys Γc, b ∈ C.M ∨ C.w0.heap.size ≤ b := fun b hb => i.may b (hk.mem_iff.2 (List.mem_append_left _ hb))
  refine ⟨j.os.trans i.os, j.tape.trans i.tape, j.output.trans i.output, Nat.le_trans i.size j.size, fun x hx => ?_, fun x hx => ?_, ?_, fun b hb => ?_, fun b hb => ?_, fun b hb hM => ?_, fun e => Nat.le_trans (i.dr e) (j.dr e)⟩
  · rw [j.frame _ (hRl x hx) (fun hc => i.apart _ (hk.mem_iff.2 (List.mem_append_left _ hc)) (List.mem_map.2 ⟨x, hx, rfl⟩))]
    exact i.ro x hx
  · simp only [List.flatten_append, List.mem_append] at hx
    rcases hx with hx | hx
    · exact j.own x hx
    · rw [j.frame _ (hrl x hx) (hr _ (List.mem_map.2 ⟨x, hx, rfl⟩))]
      exact i.own x (hp.mem_iff.2 (List.mem_append_right _ hx))
  · rw [keys_append, List.nodup_append]
    refine ⟨j.nodup, (List.nodup_append.1 hn).2.1, fun b hb c hc e => ?_⟩
    subst e
    rcases j.may b hb with h | h
    · exact hr b hc h
    · obtain ⟨x, hx, rfl⟩ := List.mem_map.1 hc
      have := hrl x hx
      simp only at h
      omega
  · rw [keys_append, List.mem_append] at hb
    rcases hb with hb | hb
    · rcases j.may b hb with h | h
      · exact i.apart b (hk.mem_iff.2 (List.mem_append_left _ h))
      · intro hR
        obtain ⟨x, hx, rfl⟩ := List.mem_map.1 hR
        have := hRl x hx
        simp only at h
        omega
    · exact i.apart b (hk.mem_iff.2 (List.mem_append_right _ hb))
  · rw [keys_append, List.mem_append] at hb
    rcases hb with hb | hb
    · rcases j.may b hb with h | h
      · exact hcM b h
      · exact .inr (Nat.le_trans i.size h)
    · exact i.may b (hk.mem_iff.2 (List.mem_append_right _ hb))
  · rw [j.frame b (Nat.lt_of_lt_of_le hb i.size) (fun hc => (hcM b hc).elim hM (fun h => by omega))]
    exact i.frame b hb hM

/-- a function with a body -/
class Fn1 (P : Program) (f : FuncId) : Prop where
  out : ∀ args w, (callFunc f args).run P w = .ok (.enter f args) w
theorem v_call {K : Act → World → Prop} {d f : Nat} {xs : Array Operand} {ats : Array TypeId} {ty : TypeId} {pos : String} {af : Array Edge} {vs : List Value} {Rc Γc Γr : List Hp} {Post : Value → List Hp → Prop}
    [hf : Fn1 P f] [hx : Evs L xs.toList vs] [hd : Is (Nat.ble n d = false)] {M : List Nat} {w0 : World} {D : Bool} (hs : SpecD D P f vs.toArray Rc Γc Post) [hp : Pick Γ Γc Γr] [hsub : Sub Rc R Γ] (ha : ∀ b ∈ keys Γc, b ∉ keys Rc)
    (h : ∀ v Γ', Post v Γ' → VK ⟨M, w0, D⟩ R n ((d, v) :: L) (Γ' ++ Γr) K) : VK ⟨M, w0, D⟩ R n L Γ (wp1 P all Q ⟨some d, .call ⟨.value (.func f), xs, ats⟩, ty, pos, af, none⟩ K) := fun a w k i => by
  have hd' : d < n := lt_of_ble hd.out
  have hargs : xs.map a.eval = vs.toArray := by
    have := hx.out n a k
    apply Array.ext'
    simpa using this
  have hrun : (execOp a.eval ⟨some d, .call ⟨.value (.func f), xs, ats⟩, ty, pos, af, none⟩).run P w = .ok (.enter f vs.toArray) w := by
    simp [execOp, resolve, Act.eval, Deferred.ofValue, invoke, hargs, hf.out]
  simp only [wp1, Region.wanted, if_true]
  refine .inl ?_
  simp only [Oper.wp, hrun, Oper.upon]
  refine (hs w (i.callee hp.out hsub.out ha)).mono ?_
  rintro e w' ⟨v, Γ', rfl, hP, j⟩
  exact h v Γ' hP _ _ (k.put hd') (i.back hp.out j)

/-- a call that answers one value and leaves nothing -/
class PCx (D : Bool) (P : Program) (f : FuncId) (args : Array Value) (v : outParam Value) : Prop where
  out : SpecD D P f args [] [] fun u Γ => u = v ∧ Γ = []
abbrev PC := PCx false
theorem v_pcall {K : Act → World → Prop} {d f : Nat} {xs : Array Operand} {ats : Array TypeId} {ty : TypeId} {pos : String} {af : Array Edge} {vs : List Value} {v : Value} {M : List Nat} {w0 : World} {D : Bool}
    [hf : Fn1 P f] [hx : Evs L xs.toList vs] [hs : PCx D P f vs.toArray v] [hd : Is (Nat.ble n d = false)] (h : VK ⟨M, w0, D⟩ R n ((d, v) :: L) Γ K) :
    VK ⟨M, w0, D⟩ R n L Γ (wp1 P all Q ⟨some d, .call ⟨.value (.func f), xs, ats⟩, ty, pos, af, none⟩ K) :=
  v_call hs.out (fun b hb => by cases hb) (fun u Γ' ⟨e, e2⟩ => by subst e; subst e2; exact h)

/-! ### regions and code -/
theorem v_region {id : Nat} {ops : Array Oper} (h : VK C R n L Γ (KL P ops Q ops.toList)) : VK C R n L Γ (KC P (.region id ops false) Q) := fun a w k i => by
  refine wp_region ?_
  have e := wpOps_eq_wpList (P := P) (Q := Q) (ops := ops) ops.toList 0 (fun j => by simp)
  have e2 : List.range ops.size = List.range' 0 ops.toList.length := by simp [List.range_eq_range']
  rw [e2, e]
  exact h a w k i
theorem v_reg {id : Nat} {ops : List Oper} (h : VK C R n L Γ (KL P ops.toArray Q ops)) : VK C R n L Γ (KC P (.region id ops.toArray false) Q) := v_region (by simpa using h)
theorem v_seq {x y : Code} (h : VK C R n L Γ (KC P x (Exit.then (y.wp P Q) Q))) : VK C R n L Γ (KC P (.seq x y) Q) := fun a w k i => wp_seq (h a w k i)
theorem v_then {y : Code} (h : VK C R n L Γ (KC P y Q)) : VK C R n L Γ (KE (Exit.then (y.wp P Q) Q) .normal) := fun a w k i => h a w k i
theorem v_thenX {K : Act → World → Prop} {e : Nat} (h : VK C R n L Γ (KE Q (.exit e))) : VK C R n L Γ (KE (Exit.then K Q) (.exit e)) := fun a w k i => h a w k i
theorem v_thenR {K : Act → World → Prop} (h : VK C R n L Γ (KE Q .ret)) : VK C R n L Γ (KE (Exit.then K Q) .ret) := fun a w k i => h a w k i
theorem v_skip (h : VK C R n L Γ (KE Q .normal)) : VK C R n L Γ (KC P .skip Q) := fun a w k i => wp_skip (h a w k i)
theorem v_exit {id : Nat} (h : VK C R n L Γ (KE Q (.exit id))) : VK C R n L Γ (KC P (.exit id) Q) := fun a w k i => wp_exit (h a w k i)
theorem v_ret (h : VK C R n L Γ (KE Q .ret)) : VK C R n L Γ (KC P .ret Q) := fun a w k i => wp_ret (h a w k i)
theorem v_block {id : Nat} {c : Code} (h : VK C R n L Γ (KC P c (Exit.inBlock id Q))) : VK C R n L Γ (KC P (.block id c) Q) := fun a w k i => wp_block (h a w k i)
theorem v_blockN {id : Nat} (h : VK C R n L Γ (KE Q .normal)) : VK C R n L Γ (KE (Exit.inBlock id Q) .normal) := fun a w k i => h a w k i
theorem v_blockR {id : Nat} (h : VK C R n L Γ (KE Q .ret)) : VK C R n L Γ (KE (Exit.inBlock id Q) .ret) := fun a w k i => h a w k i
theorem v_blockX {id : Nat} (h : VK C R n L Γ (KE Q .normal)) : VK C R n L Γ (KE (Exit.inBlock id Q) (.exit id)) := fun a w k i => by
  simp only [KE, Exit.inBlock, if_true]; exact h a w k i
theorem v_blockO {id e : Nat} [he : Is (Nat.beq e id = false)] (h : VK C R n L Γ (KE Q (.exit e))) : VK C R n L Γ (KE (Exit.inBlock id Q) (.exit e)) := fun a w k i => by
  simp only [KE, Exit.inBlock, if_neg (Nat.ne_of_beq_eq_false he.out)]; exact h a w k i
theorem v_cond {t : Nat} {c : Bool} {x y : Code} [hl : Lk L t (.bool c)] (h1 : c = true → VK C R n ((t, .bool true) :: L) Γ (KC P x Q)) (h2 : c = false → VK C R n ((t, .bool false) :: L) Γ (KC P y Q)) :
    VK C R n L Γ (KC P (.cond (.tmp t) x y) Q) := fun a w k i =>
  wp_cond_split ((evTmp L t _).out n a k) (fun e => h1 e a w (k.know hl e) i) (fun e => h2 e a w (k.know hl e) i)
theorem v_condD {t : Nat} {p : Prop} [Decidable p] {x y : Code} [hl : Lk L t (.bool (decide p))] (h1 : p → VK C R n ((t, .bool true) :: L) Γ (KC P x Q)) (h2 : ¬ p → VK C R n ((t, .bool false) :: L) Γ (KC P y Q)) :
    VK C R n L Γ (KC P (.cond (.tmp t) x y) Q) := v_cond (c := decide p) (fun e => h1 (of_decide_eq_true e)) (fun e => h2 (of_decide_eq_false e))
theorem v_condT {t : Nat} {x y : Code} [hl : Lk L t (.bool true)] (h1 : VK C R n L Γ (KC P x Q)) : VK C R n L Γ (KC P (.cond (.tmp t) x y) Q) := fun a w k i =>
  wp_cond_true ((evTmp L t _).out n a k) (h1 a w k i)
theorem v_condF {t : Nat} {x y : Code} [hl : Lk L t (.bool false)] (h1 : VK C R n L Γ (KC P y Q)) : VK C R n L Γ (KC P (.cond (.tmp t) x y) Q) := fun a w k i =>
  wp_cond_false ((evTmp L t _).out n a k) (h1 a w k i)

/-! ### a whole function -/
/-- what a call hands back -/
class Res (P : Program) (R : List Hp) (L : Env) (Γ : List Hp) (r : ResultVar) (v : outParam Value) : Prop where
  out : ∀ C n a w, Kn n L a → Inv C R Γ w → (match r with | .tmp t => pure (a.tmps.getD t undef) | .cell p t => do loadVar t (← asAddr (a.tmps.getD p undef))).run P w = .ok v w
instance resTmp (t : Nat) (v : Value) [h : Lk L t v] : Res P R L Γ (.tmp t) v := ⟨fun C n a w k i => by
  have := (evTmp L t v).out n a k
  simp only [Act.eval] at this
  simp [this]⟩
instance resCell (p t b et : Nat) (cs : Array Value) (fr : Nat × Nat) (v : Value) [h : Lk L p (.pointer (some ⟨b, 0, none⟩))] [h2 : See R Γ b (.cells cs et fr)] [h3 : Ld P t cs 0 v] : Res P R L Γ (.cell p t) v := ⟨fun C n a w k i => by
  have := (evTmp L p _).out n a k
  simp only [Act.eval] at this
  have e := h3.out b et fr w (h2.out C w i)
  simp [this, asAddr, e]⟩

theorem v_outK {fn : Func} {Post : Value → List Hp → Prop} {M : List Nat} {w0 : World} {D : Bool} {v : Value} {Γk Γd : List Hp} (hr : ∀ a w, Kn n L a → Inv ⟨M, w0, D⟩ R Γ w → (results fn a.tmps).run P w = .ok v w) (hp : Pick Γ Γk Γd) (h : Post v Γk) :
    VK ⟨M, w0, D⟩ R n L Γ (KE (bodyPost P fn fun e w' => ∃ v Γ', e = .returned v ∧ Post v Γ' ∧ Inv ⟨M, w0, D⟩ R Γ' w') .ret) := fun a w k i => by
  refine ⟨k.2.1, v, hr a w k i, v, Γk, rfl, h, ?_⟩
  have hk : (keys Γ).Perm (keys Γk ++ keys Γd) := by simpa [keys] using hp.out.map (·.1)
  exact ⟨i.os, i.tape, i.output, i.size, i.ro, fun x hx => i.own x (hp.out.mem_iff.2 (List.mem_append_left _ hx)), (List.nodup_append.1 (hk.nodup_iff.1 i.nodup)).1, fun b hb => i.apart b (hk.mem_iff.2 (List.mem_append_left _ hb)),
    fun b hb => i.may b (hk.mem_iff.2 (List.mem_append_left _ hb)), i.frame, i.dr⟩
theorem v_out0 {fn : Func} {Post : Value → List Hp → Prop} {M : List Nat} {w0 : World} {D : Bool} {Γk Γd : List Hp} (hf : fn.results = #[]) [hp : Pick Γ Γk Γd] (h : Post (.tuple #[]) Γk) :
    VK ⟨M, w0, D⟩ R n L Γ (KE (bodyPost P fn fun e w' => ∃ v Γ', e = .returned v ∧ Post v Γ' ∧ Inv ⟨M, w0, D⟩ R Γ' w') .ret) :=
  v_outK (fun a w k i => by simp [results, hf]) hp h
theorem v_out1 {fn : Func} {Post : Value → List Hp → Prop} {M : List Nat} {w0 : World} {D : Bool} {r : ResultVar} {v : Value} {Γk Γd : List Hp} (hf : fn.results = #[r]) [hr : Res P R L Γ r v] [hp : Pick Γ Γk Γd] (h : Post v Γk) :
    VK ⟨M, w0, D⟩ R n L Γ (KE (bodyPost P fn fun e w' => ∃ v Γ', e = .returned v ∧ Post v Γ' ∧ Inv ⟨M, w0, D⟩ R Γ' w') .ret) :=
  v_outK (fun a w k i => by
    have e := hr.out _ n a w k i
    have main : ∀ (g : ResultVar → Sem Value), (g r).run P w = .ok v w → ((do let vs ← #[r].mapM g; pure (if h : vs.size = 1 then vs[0] else .tuple vs)) : Sem Value).run P w = .ok (v) w := by
      intro g e
      simp [e]
    unfold results
    rw [hf]
    exact main _ e) hp h
theorem v_out2 {fn : Func} {Post : Value → List Hp → Prop} {M : List Nat} {w0 : World} {D : Bool} {r r2 : ResultVar} {v v2 : Value} {Γk Γd : List Hp} (hf : fn.results = #[r, r2]) [hr : Res P R L Γ r v] [hr2 : Res P R L Γ r2 v2] [hp : Pick Γ Γk Γd] (h : Post (.tuple #[v, v2]) Γk) :
    VK ⟨M, w0, D⟩ R n L Γ (KE (bodyPost P fn fun e w' => ∃ v Γ', e = .returned v ∧ Post v Γ' ∧ Inv ⟨M, w0, D⟩ R Γ' w') .ret) :=
  v_outK (fun a w k i => by
    have e := hr.out _ n a w k i
    have e2 := hr2.out _ n a w k i
    have main : ∀ (g : ResultVar → Sem Value), (g r).run P w = .ok v w → (g r2).run P w = .ok v2 w → ((do let vs ← #[r, r2].mapM g; pure (if h : vs.size = 1 then vs[0] else .tuple vs)) : Sem Value).run P w = .ok (.tuple #[v, v2]) w := by
      intro g e e2
      simp [e, e2]
    unfold results
    rw [hf]
    exact main _ e e2) hp h
theorem v_out3 {fn : Func} {Post : Value → List Hp → Prop} {M : List Nat} {w0 : World} {D : Bool} {r r2 r3 : ResultVar} {v v2 v3 : Value} {Γk Γd : List Hp} (hf : fn.results = #[r, r2, r3]) [hr : Res P R L Γ r v] [hr2 : Res P R L Γ r2 v2] [hr3 : Res P R L Γ r3 v3] [hp : Pick Γ Γk Γd] (h : Post (.tuple #[v, v2, v3]) Γk) :
    VK ⟨M, w0, D⟩ R n L Γ (KE (bodyPost P fn fun e w' => ∃ v Γ', e = .returned v ∧ Post v Γ' ∧ Inv ⟨M, w0, D⟩ R Γ' w') .ret) :=
  v_outK (fun a w k i => by
    have e := hr.out _ n a w k i
    have e2 := hr2.out _ n a w k i
    have e3 := hr3.out _ n a w k i
    have main : ∀ (g : ResultVar → Sem Value), (g r).run P w = .ok v w → (g r2).run P w = .ok v2 w → (g r3).run P w = .ok v3 w → ((do let vs ← #[r, r2, r3].mapM g; pure (if h : vs.size = 1 then vs[0] else .tuple vs)) : Sem Value).run P w = .ok (.tuple #[v, v2, v3]) w := by
      intro g e e2 e3
      simp [e, e2, e3]
    unfold results
    rw [hf]
    exact main _ e e2 e3) hp h
theorem v_out4 {fn : Func} {Post : Value → List Hp → Prop} {M : List Nat} {w0 : World} {D : Bool} {r r2 r3 r4 : ResultVar} {v v2 v3 v4 : Value} {Γk Γd : List Hp} (hf : fn.results = #[r, r2, r3, r4]) [hr : Res P R L Γ r v] [hr2 : Res P R L Γ r2 v2] [hr3 : Res P R L Γ r3 v3] [hr4 : Res P R L Γ r4 v4] [hp : Pick Γ Γk Γd] (h : Post (.tuple #[v, v2, v3, v4]) Γk) :
    VK ⟨M, w0, D⟩ R n L Γ (KE (bodyPost P fn fun e w' => ∃ v Γ', e = .returned v ∧ Post v Γ' ∧ Inv ⟨M, w0, D⟩ R Γ' w') .ret) :=
  v_outK (fun a w k i => by
    have e := hr.out _ n a w k i
    have e2 := hr2.out _ n a w k i
    have e3 := hr3.out _ n a w k i
    have e4 := hr4.out _ n a w k i
    have main : ∀ (g : ResultVar → Sem Value), (g r).run P w = .ok v w → (g r2).run P w = .ok v2 w → (g r3).run P w = .ok v3 w → (g r4).run P w = .ok v4 w → ((do let vs ← #[r, r2, r3, r4].mapM g; pure (if h : vs.size = 1 then vs[0] else .tuple vs)) : Sem Value).run P w = .ok (.tuple #[v, v2, v3, v4]) w := by
      intro g e e2 e3 e4
      simp [e, e2, e3, e4]
    unfold results
    rw [hf]
    exact main _ e e2 e3 e4) hp h
theorem v_normal {fn : Func} {R' : Ending → World → Prop} (h : VK C R n L Γ (KE (bodyPost P fn R') .ret)) : VK C R n L Γ (KE (bodyPost P fn R') .normal) := fun a w k i => h a w k i
end

/-- the slots at a call's begin -/
def begin0 (args : List Value) : Env := args.zipIdx.map fun x => (x.2, x.1)
theorem spec_of {D : Bool} {P : Program} {f : FuncId} {fn : Func} {c : Code} {args : List Value} {R Γ : List Hp} {Post : Value → List Hp → Prop} {L : Env} {m : Nat} (hf : P.funcs[f]? = some fn) (hb : fn.body = some c) (hL : begin0 args = L) (hm : fn.ntmps = m) (hle : Nat.ble args.length m = true)
    (h : ∀ M w0, VK ⟨M, w0, D⟩ R m L Γ (KC P c (bodyPost P fn fun e w' => ∃ v Γ', e = .returned v ∧ Post v Γ' ∧ Inv ⟨M, w0, D⟩ R Γ' w'))) : SpecD D P f args.toArray R Γ Post := fun w i => by
  refine calls_of_wp hf hb (h _ _ _ _ ⟨?_, rfl, fun t v ht => ?_⟩ i)
  · have := Nat.le_of_ble_eq_true hle
    simp; omega
  · subst hL
    have : args[t]? = some v := by
      have key : ∀ (l : List Value) (k : Nat), ((l.zipIdx k).map fun x => (x.2, x.1)).lookup t = some v → k ≤ t ∧ l[t - k]? = some v := by
        intro l
        induction l with
        | nil => intro k h; simp at h
        | cons y l ih =>
          intro k h
          simp only [List.zipIdx_cons, List.map_cons, List.lookup] at h
          by_cases e : t = k
          · subst e; simp at h; exact ⟨Nat.le_refl _, by simpa using h⟩
          · have e2 : (t == k) = false := by simpa using e
            simp only [e2] at h
            obtain ⟨h1, h2⟩ := ih (k + 1) h
            refine ⟨by omega, ?_⟩
            rw [show t - k = (t - (k + 1)) + 1 by omega]
            simpa using h2
      simpa using (key args 0 ht).2
    have hlt : t < args.length := by
      rcases Nat.lt_or_ge t args.length with h | h
      · exact h
      · rw [List.getElem?_eq_none h] at this; cases this
    have e : args[t] = v := by rw [List.getElem?_eq_getElem hlt] at this; exact Option.some.inj this
    simp [Array.getElem?_append, hlt, e]
theorem spec_of0 {D : Bool} {P : Program} {f : FuncId} {fn : Func} {c : Code} {R Γ : List Hp} {Post : Value → List Hp → Prop} {m : Nat} (hf : P.funcs[f]? = some fn) (hm : fn.ntmps = m) (hb : fn.body = some c) (hle : Nat.ble 0 m = true)
    (h : ∀ M w0, VK ⟨M, w0, D⟩ R m [] Γ (KC P c (bodyPost P fn fun e w' => ∃ v Γ', e = .returned v ∧ Post v Γ' ∧ Inv ⟨M, w0, D⟩ R Γ' w'))) : SpecD D P f #[] R Γ Post :=
  spec_of (args := []) hf hb rfl hm hle h
theorem spec_of1 {D : Bool} {P : Program} {f : FuncId} {fn : Func} {c : Code} {v0 : Value} {R Γ : List Hp} {Post : Value → List Hp → Prop} {m : Nat} (hf : P.funcs[f]? = some fn) (hm : fn.ntmps = m) (hb : fn.body = some c) (hle : Nat.ble 1 m = true)
    (h : ∀ M w0, VK ⟨M, w0, D⟩ R m [(0, v0)] Γ (KC P c (bodyPost P fn fun e w' => ∃ v Γ', e = .returned v ∧ Post v Γ' ∧ Inv ⟨M, w0, D⟩ R Γ' w'))) : SpecD D P f #[v0] R Γ Post :=
  spec_of (args := [v0]) hf hb rfl hm hle h
theorem spec_of2 {D : Bool} {P : Program} {f : FuncId} {fn : Func} {c : Code} {v0 v1 : Value} {R Γ : List Hp} {Post : Value → List Hp → Prop} {m : Nat} (hf : P.funcs[f]? = some fn) (hm : fn.ntmps = m) (hb : fn.body = some c) (hle : Nat.ble 2 m = true)
    (h : ∀ M w0, VK ⟨M, w0, D⟩ R m [(0, v0), (1, v1)] Γ (KC P c (bodyPost P fn fun e w' => ∃ v Γ', e = .returned v ∧ Post v Γ' ∧ Inv ⟨M, w0, D⟩ R Γ' w'))) : SpecD D P f #[v0, v1] R Γ Post :=
  spec_of (args := [v0, v1]) hf hb rfl hm hle h
theorem spec_of3 {D : Bool} {P : Program} {f : FuncId} {fn : Func} {c : Code} {v0 v1 v2 : Value} {R Γ : List Hp} {Post : Value → List Hp → Prop} {m : Nat} (hf : P.funcs[f]? = some fn) (hm : fn.ntmps = m) (hb : fn.body = some c) (hle : Nat.ble 3 m = true)
    (h : ∀ M w0, VK ⟨M, w0, D⟩ R m [(0, v0), (1, v1), (2, v2)] Γ (KC P c (bodyPost P fn fun e w' => ∃ v Γ', e = .returned v ∧ Post v Γ' ∧ Inv ⟨M, w0, D⟩ R Γ' w'))) : SpecD D P f #[v0, v1, v2] R Γ Post :=
  spec_of (args := [v0, v1, v2]) hf hb rfl hm hle h
theorem spec_of4 {D : Bool} {P : Program} {f : FuncId} {fn : Func} {c : Code} {v0 v1 v2 v3 : Value} {R Γ : List Hp} {Post : Value → List Hp → Prop} {m : Nat} (hf : P.funcs[f]? = some fn) (hm : fn.ntmps = m) (hb : fn.body = some c) (hle : Nat.ble 4 m = true)
    (h : ∀ M w0, VK ⟨M, w0, D⟩ R m [(0, v0), (1, v1), (2, v2), (3, v3)] Γ (KC P c (bodyPost P fn fun e w' => ∃ v Γ', e = .returned v ∧ Post v Γ' ∧ Inv ⟨M, w0, D⟩ R Γ' w'))) : SpecD D P f #[v0, v1, v2, v3] R Γ Post :=
  spec_of (args := [v0, v1, v2, v3]) hf hb rfl hm hle h
theorem spec_of5 {D : Bool} {P : Program} {f : FuncId} {fn : Func} {c : Code} {v0 v1 v2 v3 v4 : Value} {R Γ : List Hp} {Post : Value → List Hp → Prop} {m : Nat} (hf : P.funcs[f]? = some fn) (hm : fn.ntmps = m) (hb : fn.body = some c) (hle : Nat.ble 5 m = true)
    (h : ∀ M w0, VK ⟨M, w0, D⟩ R m [(0, v0), (1, v1), (2, v2), (3, v3), (4, v4)] Γ (KC P c (bodyPost P fn fun e w' => ∃ v Γ', e = .returned v ∧ Post v Γ' ∧ Inv ⟨M, w0, D⟩ R Γ' w'))) : SpecD D P f #[v0, v1, v2, v3, v4] R Γ Post :=
  spec_of (args := [v0, v1, v2, v3, v4]) hf hb rfl hm hle h
theorem spec_of6 {D : Bool} {P : Program} {f : FuncId} {fn : Func} {c : Code} {v0 v1 v2 v3 v4 v5 : Value} {R Γ : List Hp} {Post : Value → List Hp → Prop} {m : Nat} (hf : P.funcs[f]? = some fn) (hm : fn.ntmps = m) (hb : fn.body = some c) (hle : Nat.ble 6 m = true)
    (h : ∀ M w0, VK ⟨M, w0, D⟩ R m [(0, v0), (1, v1), (2, v2), (3, v3), (4, v4), (5, v5)] Γ (KC P c (bodyPost P fn fun e w' => ∃ v Γ', e = .returned v ∧ Post v Γ' ∧ Inv ⟨M, w0, D⟩ R Γ' w'))) : SpecD D P f #[v0, v1, v2, v3, v4, v5] R Γ Post :=
  spec_of (args := [v0, v1, v2, v3, v4, v5]) hf hb rfl hm hle h
theorem spec_of7 {D : Bool} {P : Program} {f : FuncId} {fn : Func} {c : Code} {v0 v1 v2 v3 v4 v5 v6 : Value} {R Γ : List Hp} {Post : Value → List Hp → Prop} {m : Nat} (hf : P.funcs[f]? = some fn) (hm : fn.ntmps = m) (hb : fn.body = some c) (hle : Nat.ble 7 m = true)
    (h : ∀ M w0, VK ⟨M, w0, D⟩ R m [(0, v0), (1, v1), (2, v2), (3, v3), (4, v4), (5, v5), (6, v6)] Γ (KC P c (bodyPost P fn fun e w' => ∃ v Γ', e = .returned v ∧ Post v Γ' ∧ Inv ⟨M, w0, D⟩ R Γ' w'))) : SpecD D P f #[v0, v1, v2, v3, v4, v5, v6] R Γ Post :=
  spec_of (args := [v0, v1, v2, v3, v4, v5, v6]) hf hb rfl hm hle h
theorem spec_of8 {D : Bool} {P : Program} {f : FuncId} {fn : Func} {c : Code} {v0 v1 v2 v3 v4 v5 v6 v7 : Value} {R Γ : List Hp} {Post : Value → List Hp → Prop} {m : Nat} (hf : P.funcs[f]? = some fn) (hm : fn.ntmps = m) (hb : fn.body = some c) (hle : Nat.ble 8 m = true)
    (h : ∀ M w0, VK ⟨M, w0, D⟩ R m [(0, v0), (1, v1), (2, v2), (3, v3), (4, v4), (5, v5), (6, v6), (7, v7)] Γ (KC P c (bodyPost P fn fun e w' => ∃ v Γ', e = .returned v ∧ Post v Γ' ∧ Inv ⟨M, w0, D⟩ R Γ' w'))) : SpecD D P f #[v0, v1, v2, v3, v4, v5, v6, v7] R Γ Post :=
  spec_of (args := [v0, v1, v2, v3, v4, v5, v6, v7]) hf hb rfl hm hle h
section
variable {P : Program} {C : Cx} {R : List Hp} {n : Nat} {all : Array Oper} {Q : Exit → Act → World → Prop} {L : Env} {Γ : List Hp} {rest : List Oper}
theorem VK.mk {K : Act → World → Prop} (h : ∀ a w, Kn n L a → Inv C R Γ w → K a w) : VK C R n L Γ K := h
theorem VK.out {K : Act → World → Prop} (h : VK C R n L Γ K) : ∀ a w, Kn n L a → Inv C R Γ w → K a w := h
theorem KC.mk {c : Code} {a : Act} {w : World} (h : c.wp P Q a w) : KC P c Q a w := h
theorem KC.out {c : Code} {a : Act} {w : World} (h : KC P c Q a w) : c.wp P Q a w := h
theorem KE.mk {e : Exit} {a : Act} {w : World} (h : Q e a w) : KE Q e a w := h
theorem KE.out {e : Exit} {a : Act} {w : World} (h : KE Q e a w) : Q e a w := h
theorem KL.mk {a : Act} {w : World} (h : wpList P all Q rest a w) : KL P all Q rest a w := h
/-- an operation in a list of operations -/
theorem v_cons {o : Oper} (h : VK C R n L Γ (wp1 P all Q o (KL P all Q rest))) : VK C R n L Γ (KL P all Q (o :: rest)) := h
theorem Kn.slot {a : Act} {t : Nat} {v : Value} (k : Kn n L a) (h : L.lookup t = some v) : a.tmps[t]? = some v := k.2.2 t v h
theorem Kn.weaken {L' : Env} {a : Act} (k : Kn n L a) (h : ∀ t v, L'.lookup t = some v → L.lookup t = some v) : Kn n L' a := ⟨k.1, k.2.1, fun t v ht => k.2.2 t v (h t v ht)⟩
end
theorem bT {p : Prop} [Decidable p] (h : p) : Value.bool true = Value.bool (decide p) := by simp [h]
theorem bF {p : Prop} [Decidable p] (h : ¬ p) : Value.bool false = Value.bool (decide p) := by simp [h]
theorem bD {p q : Prop} [Decidable p] [Decidable q] (h : q ↔ p) : Value.bool (decide q) = Value.bool (decide p) := by simp [h]
theorem bN {p q : Prop} [Decidable p] [Decidable q] (h : q ↔ ¬ p) : Value.bool (decide q) = Value.bool (!decide p) := by simp [h]
theorem iI {k : IntKind} {a b : Int} (h : a = b) : Value.int k a = Value.int k b := by rw [h]
attribute [irreducible] VK Kn KL KC KE wp1
end Go.SX
