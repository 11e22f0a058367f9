/- Symbolic execution: strings as lists of bytes. Of whatever program. -/
import Derived.Test.YtedemhmlaodblabDoorSr
import Derived.Test.YtedemhmlaodblabDoorSe
import Derived.Laws.Strings
import Derived.Laws.Entries
namespace Go.SX
set_option linter.unusedSimpArgs false
set_option linter.unusedVariables false
open Go Go.RowKit
abbrev str (l : List UInt8) : Value := .string ⟨l.toArray⟩
class Fact' (p : Prop) : Prop where
  out : p
theorem bs_inj {l m : List UInt8} : (⟨l.toArray⟩ : ByteArray) = ⟨m.toArray⟩ ↔ l = m := by
  constructor
  · intro h; simpa using congrArg (fun b : ByteArray => b.data.toList) h
  · rintro rfl; rfl
theorem bs_size (l : List UInt8) : (⟨l.toArray⟩ : ByteArray).size = l.length := by
  show l.toArray.size = _; simp
theorem bs_of (s : ByteArray) : s = ⟨s.data.toList.toArray⟩ := by cases s; rfl
section
variable {P : Program} {R : List Hp} {L : Env} {Γ : List Hp} {l m : List UInt8}
instance (priority := high) ysLen (x : Operand) (T : TypeId) [h : Ev L x (.string ⟨l.toArray⟩)] [h2 : Und P T .string] : Y P R L Γ (.call ⟨.builtin .len, #[x], #[T]⟩) (.int .i64 l.length) := by
  have := yLenStr (P := P) (R := R) (L := L) (Γ := Γ) x T ⟨l.toArray⟩
  rwa [bs_size] at this
instance (priority := high) bsEq (t : TypeId) : Bin P .eql t (.string ⟨l.toArray⟩) (.string ⟨m.toArray⟩) (.bool (decide (l = m))) := by
  have := biStrE (P := P) t ⟨l.toArray⟩ ⟨m.toArray⟩
  simpa only [bs_inj] using this
instance (priority := high) bsNe (t : TypeId) : Bin P .neq t (.string ⟨l.toArray⟩) (.string ⟨m.toArray⟩) (.bool (decide (¬ l = m))) := by
  have := biStrN (P := P) t ⟨l.toArray⟩ ⟨m.toArray⟩
  simpa only [bs_inj] using this
theorem bs_cat (l m : List UInt8) : ((⟨l.toArray⟩ : ByteArray) ++ (⟨m.toArray⟩ : ByteArray)) = ⟨(l ++ m).toArray⟩ := by
  apply ByteArray.ext; simp
theorem bin_cat (T : TypeId) (h : l.length + m.length ≤ 9223372036854775807) : Bin P .add T (.string ⟨l.toArray⟩) (.string ⟨m.toArray⟩) (.string ⟨(l ++ m).toArray⟩) := ⟨fun w => by
  have h1 : ¬ ((((⟨l.toArray⟩ : ByteArray).size + (⟨m.toArray⟩ : ByteArray).size : Nat) : Int) > IntKind.i64.max) := by
    rw [bs_size, bs_size]; simp [IntKind.max, IntKind.bits, IntKind.signed]; omega
  simp only [binOp, Op.stringOp, if_neg h1, bs_cat]
  rfl, fun h => by simp at h⟩
theorem y_cat {T ty : TypeId} {x y : Operand} [hx : Ev L x (.string ⟨l.toArray⟩)] [hy : Ev L y (.string ⟨m.toArray⟩)] (h : l.length + m.length ≤ 9223372036854775807) : Y P R L Γ (.binOp .add T x y ty) (.string ⟨(l ++ m).toArray⟩) :=
  yBin (P := P) (R := R) (L := L) (Γ := Γ) .add T ty x y _ _ _ (h3 := bin_cat T h)
instance (priority := high) ycCat {T ty : TypeId} {x y : Operand} [hx : Ev L x (.string ⟨l.toArray⟩)] [hy : Ev L y (.string ⟨m.toArray⟩)] : YC P R L Γ (.binOp .add T x y ty) (l.length + m.length ≤ 9223372036854775807) (fun _ => .string ⟨(l ++ m).toArray⟩) := ⟨fun h => y_cat h⟩
theorem bs_get (l : List UInt8) (i : Nat) (h : i < l.length) : (⟨l.toArray⟩ : ByteArray)[i]? = some l[i] := by
  rw [ByteArray.getElem?_lt' _ _ (by rw [bs_size]; exact h)]
  rfl
theorem y_at {T : TypeId} {x ix : Operand} {k : IntKind} {i : Int} [hx : Ev L x (.string ⟨l.toArray⟩)] [hi : Ev L ix (.int k i)] [ht : Und P T .string] (h0 : 0 ≤ i) (h : i.toNat < l.length) : Y P R L Γ (.index T x ix) (.int .u8 l[i.toNat].toNat) := ⟨fun C n a w _ _ _ _ _ kn _ => by
  simp [execOp, Instr.index, run_underlying ht.out, hx.out n a kn, hi.out n a kn, asIntOf, h0, bs_get l _ h]⟩
instance (priority := high) ysAtN {T j : Nat} {x ix : Operand} {k : IntKind} {i : Int} [hx : Ev L x (.string ⟨l.toArray⟩)] [hi : Ev L ix (.int k i)] [hj : IsCast i j] [ht : Und P T .string] : YC P R L Γ (.index T x ix) (j < l.length) (fun h => .int .u8 l[j].toNat) := ⟨fun h => by
  have e := hj.out
  subst e
  exact y_at (i := (j : Int)) (Int.natCast_nonneg j) (by simpa using h)⟩
instance (priority := 5000) ysAt {T : Nat} {x ix : Operand} {k : IntKind} {i : Int} [hx : Ev L x (.string ⟨l.toArray⟩)] [hi : Ev L ix (.int k i)] [ht : Und P T .string] : YC P R L Γ (.index T x ix) (0 ≤ i ∧ i < (l.length : Int)) (fun h => .int .u8 (l[i.toNat]'(by omega)).toNat) := ⟨fun h => y_at h.1 (by omega)⟩
theorem bs_extract (l : List UInt8) (i j : Nat) : (⟨l.toArray⟩ : ByteArray).extract i j = ⟨((l.take j).drop i).toArray⟩ := by
  apply ByteArray.ext
  simp [List.extract_eq_take_drop, List.drop_take]
theorem run_bsub {w : World} {T : TypeId} (ht : P.underlying T = some .string) (lo hi : Option Value) {lo' hi' : Nat} (h1 : lo' ≤ hi') (h2 : hi' ≤ l.length)
    (hl : (lo = none ∧ lo' = 0) ∨ ∃ k i, lo = some (.int k i) ∧ i = (lo' : Int)) (hh : (hi = none ∧ hi' = l.length) ∨ ∃ k i, hi = some (.int k i) ∧ i = (hi' : Int)) : (Instr.slice T (.string ⟨l.toArray⟩) lo hi none).run P w = .ok (.string ⟨((l.take hi').drop lo').toArray⟩) w := by
  have h4 : (lo' : Int) ≤ (hi' : Int) := by omega
  have h5 : ¬ l.length < hi' := by omega
  have h6 : ¬ hi' < lo' := by omega
  have h7 : ¬ l.length < lo' := by omega
  have hsz := bs_size l
  rcases hl with ⟨rfl, rfl⟩ | ⟨k, i, rfl, rfl⟩ <;> rcases hh with ⟨rfl, rfl⟩ | ⟨k', i', rfl, rfl⟩ <;>
    simp [Instr.slice, Instr.sliceBounds, Instr.sliceBound, asIntOf, run_underlying ht, hsz, h1, h2, h4, h5, h6, h7, bs_extract]
theorem y_bsubB {T : TypeId} {x lo hi : Operand} {k k' : IntKind} {i j : Int} [hx : Ev L x (.string ⟨l.toArray⟩)] [hlo : Ev L lo (.int k i)] [hhi : Ev L hi (.int k' j)] [ht : Und P T .string] (h0 : 0 ≤ i) (h1 : i ≤ j) (h2 : j ≤ l.length) :
    Y P R L Γ (.slice T x (some lo) (some hi) none) (.string ⟨((l.take j.toNat).drop i.toNat).toArray⟩) := ⟨fun C n a w _ _ _ _ _ kn _ => by
  have := run_bsub (P := P) (w := w) (l := l) ht.out (some (.int k i)) (some (.int k' j)) (lo' := i.toNat) (hi' := j.toNat) (by omega) (by omega) (.inr ⟨k, i, rfl, by omega⟩) (.inr ⟨k', j, rfl, by omega⟩)
  simp [execOp, Instr.sliceAt, run_underlying ht.out, hx.out n a kn, hlo.out n a kn, hhi.out n a kn, this]⟩
theorem y_bsubH {T : TypeId} {x hi : Operand} {k' : IntKind} {j : Int} [hx : Ev L x (.string ⟨l.toArray⟩)] [hhi : Ev L hi (.int k' j)] [ht : Und P T .string] (h1 : 0 ≤ j) (h2 : j ≤ l.length) :
    Y P R L Γ (.slice T x none (some hi) none) (.string ⟨(l.take j.toNat).toArray⟩) := ⟨fun C n a w _ _ _ _ _ kn _ => by
  have := run_bsub (P := P) (w := w) (l := l) ht.out none (some (.int k' j)) (lo' := 0) (hi' := j.toNat) (by omega) (by omega) (.inl ⟨rfl, rfl⟩) (.inr ⟨k', j, rfl, by omega⟩)
  rw [List.drop_zero] at this
  simp [execOp, Instr.sliceAt, run_underlying ht.out, hx.out n a kn, hhi.out n a kn, this]⟩
theorem y_bsubL {T : TypeId} {x lo : Operand} {k : IntKind} {i : Int} [hx : Ev L x (.string ⟨l.toArray⟩)] [hlo : Ev L lo (.int k i)] [ht : Und P T .string] (h1 : 0 ≤ i) (h2 : i ≤ l.length) :
    Y P R L Γ (.slice T x (some lo) none none) (.string ⟨(l.drop i.toNat).toArray⟩) := ⟨fun C n a w _ _ _ _ _ kn _ => by
  have := run_bsub (P := P) (w := w) (l := l) ht.out (some (.int k i)) none (lo' := i.toNat) (hi' := l.length) (by omega) (Nat.le_refl _) (.inr ⟨k, i, rfl, by omega⟩) (.inl ⟨rfl, rfl⟩)
  rw [List.take_length] at this
  simp [execOp, Instr.sliceAt, run_underlying ht.out, hx.out n a kn, hlo.out n a kn, this]⟩
instance (priority := high) ysSubB {T : TypeId} {x lo hi : Operand} {k k' : IntKind} {i j : Int} [hx : Ev L x (.string ⟨l.toArray⟩)] [hlo : Ev L lo (.int k i)] [hhi : Ev L hi (.int k' j)] [ht : Und P T .string] :
    YC P R L Γ (.slice T x (some lo) (some hi) none) (0 ≤ i ∧ i ≤ j ∧ j ≤ (l.length : Int)) (fun _ => .string ⟨((l.take j.toNat).drop i.toNat).toArray⟩) := ⟨fun h => y_bsubB h.1 h.2.1 h.2.2⟩
instance (priority := high) ysSubH {T : TypeId} {x hi : Operand} {k' : IntKind} {j : Int} [hx : Ev L x (.string ⟨l.toArray⟩)] [hhi : Ev L hi (.int k' j)] [ht : Und P T .string] :
    YC P R L Γ (.slice T x none (some hi) none) (0 ≤ j ∧ j ≤ (l.length : Int)) (fun _ => .string ⟨(l.take j.toNat).toArray⟩) := ⟨fun h => y_bsubH h.1 h.2⟩
instance (priority := high) ysSubL {T : TypeId} {x lo : Operand} {k : IntKind} {i : Int} [hx : Ev L x (.string ⟨l.toArray⟩)] [hlo : Ev L lo (.int k i)] [ht : Und P T .string] :
    YC P R L Γ (.slice T x (some lo) none none) (0 ≤ i ∧ i ≤ (l.length : Int)) (fun _ => .string ⟨(l.drop i.toNat).toArray⟩) := ⟨fun h => y_bsubL h.1 h.2⟩
/-! ### an interface beside nil -/
theorem run_eqNN {ms : _} {t : TypeId} {w : World} (d : Nat) (ht : P.underlying t = some (.interface ms)) : (Op.equalIn (d + 1) t .nilIface .nilIface).run P w = .ok true w := by
  simp [Op.equalIn, run_underlying ht]
theorem run_eqIN {ms : _} {t : TypeId} {w : World} (d : Nat) (e : TypeId) (v : Value) (ht : P.underlying t = some (.interface ms)) : (Op.equalIn (d + 1) t (.iface e v) .nilIface).run P w = .ok false w := by
  simp [Op.equalIn, run_underlying ht]
theorem run_eqN {ms : _} {t : TypeId} {w : World} (ht : P.underlying t = some (.interface ms)) : (Op.equal t .nilIface .nilIface).run P w = .ok true w := run_eqNN 9999 ht
theorem run_eqI {ms : _} {t : TypeId} {w : World} (e : TypeId) (v : Value) (ht : P.underlying t = some (.interface ms)) : (Op.equal t (.iface e v) .nilIface).run P w = .ok false w := run_eqIN 9999 e v ht
theorem guardN (op : BinOp) (t : TypeId) (x : Operand) (c : Value) (w : World) : (eqGuard op t x (.const c) .nilIface .nilIface).run P w = .ok () w := by rw [eqGuard_nil_constR]; rfl
theorem guardI (op : BinOp) (t e : TypeId) (v : Value) (x y : Operand) (w : World) : (eqGuard op t x y (.iface e v) .nilIface).run P w = .ok () w := by unfold eqGuard; cases op <;> rfl
theorem eval_const (a : Act) (v : Value) : a.eval (.const v) = v := rfl
class IsIfc (P : Program) (t : TypeId) : Prop where
  out : ∃ ms, P.underlying t = some (.interface ms)
instance (priority := high) yNeNilN {t ty : TypeId} {x : Operand} [hx : Ev L x .nilIface] [ht : IsIfc P t] : Y P R L Γ (.binOp .neq t x (.const .nilIface) ty) (.bool false) := ⟨fun C n a w _ _ _ _ _ kn i => by
  obtain ⟨ms, hi⟩ := ht.out
  simp [execOp, hx.out n a kn, eval_const, guardN, binOp, run_eqN hi]⟩
instance (priority := high) yNeNilI {t ty d : TypeId} {v : Value} {x : Operand} [hx : Ev L x (.iface d v)] [ht : IsIfc P t] : Y P R L Γ (.binOp .neq t x (.const .nilIface) ty) (.bool true) := ⟨fun C n a w _ _ _ _ _ kn i => by
  obtain ⟨ms, hi⟩ := ht.out
  simp [execOp, hx.out n a kn, eval_const, guardI, binOp, run_eqI d v hi]⟩
instance (priority := high) yEqNilN {t ty : TypeId} {x : Operand} [hx : Ev L x .nilIface] [ht : IsIfc P t] : Y P R L Γ (.binOp .eql t x (.const .nilIface) ty) (.bool true) := ⟨fun C n a w _ _ _ _ _ kn i => by
  obtain ⟨ms, hi⟩ := ht.out
  simp [execOp, hx.out n a kn, eval_const, guardN, binOp, run_eqN hi]⟩
instance (priority := high) yEqNilI {t ty d : TypeId} {v : Value} {x : Operand} [hx : Ev L x (.iface d v)] [ht : IsIfc P t] : Y P R L Γ (.binOp .eql t x (.const .nilIface) ty) (.bool false) := ⟨fun C n a w _ _ _ _ _ kn i => by
  obtain ⟨ms, hi⟩ := ht.out
  simp [execOp, hx.out n a kn, eval_const, guardI, binOp, run_eqI d v hi]⟩
end
end Go.SX
