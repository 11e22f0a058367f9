/- Symbolic execution: '==' of structs, field by field. -/
import Derived.Test.YtedemhmlaodblabDoorSl
import Derived.Laws.StructEq
import Derived.Laws.Strings
namespace Go.SX
set_option linter.unusedSimpArgs false
set_option linter.unusedVariables false
open Go
section
variable {P : Program} {d : Nat} {xs ys : Array Value} {f : Field} {fs : List Field} {p q : Prop} [Decidable p] [Decidable q]
/-- the fields from here on are equal just if p -/
def EqF (P : Program) (d : Nat) (xs ys : Array Value) (fs : List Field) (p : Prop) [Decidable p] : Prop := ∀ w, (Op.eqFields d xs ys fs).run P w = .ok (decide p) w
def EqV (P : Program) (d : Nat) (t : TypeId) (a b : Value) (p : Prop) [Decidable p] : Prop := ∀ w, (Op.equalIn d t a b).run P w = .ok (decide p) w
theorem eqfNil : EqF P d xs ys [] True := fun w => by simp [Op.eqFields]
theorem eqfCons {a b : Value} (hn : (f.name == "_") = false) (ha : ∀ w, (part f.type xs f.offset).run P w = .ok a w) (hb : ∀ w, (part f.type ys f.offset).run P w = .ok b w) (he : EqV P d f.type a b p) (hr : EqF P d xs ys fs q) : EqF P d xs ys (f :: fs) (p ∧ q) := fun w => by
  have hn' : f.name ≠ "_" := by simpa using hn
  rw [Op.eqFields]
  simp only [if_pos hn', Sem.run_bind, ha, hb, he w, Result.andThen_ok]
  by_cases hp : p
  · simp [hp, hr w]
  · simp [hp]
theorem eqfLast {a b : Value} (hn : (f.name == "_") = false) (ha : ∀ w, (part f.type xs f.offset).run P w = .ok a w) (hb : ∀ w, (part f.type ys f.offset).run P w = .ok b w) (he : EqV P d f.type a b p) : EqF P d xs ys [f] p := fun w => by
  have := eqfCons hn ha hb he (eqfNil (P := P) (d := d) (xs := xs) (ys := ys)) w
  simpa using this
theorem eqvStruct {t : TypeId} {l : List Field} (hu : P.underlying t = some (.struct l.toArray)) (hp : P.stoodInHeld t = false) (h : EqF P d xs ys l p) : EqV P (d + 1) t (.agg xs) (.agg ys) p := fun w => by
  have hf : P.fieldsOf t = l.toArray := by simp [Program.fieldsOf, hu]
  rw [run_equalIn_struct (P := P) w d t xs ys (by rw [hf]; exact hu) hp, hf]
  exact h w
theorem eqvInt {t : TypeId} {k : IntKind} {x y : Int} (hu : P.underlying t = some (.int k)) : EqV P (d + 1) t (.int k x) (.int k y) (x = y) := fun w => by
  rw [run_equalIn_int w d t k k x y hu]; rfl
theorem eqvBool {t : TypeId} {x y : Bool} (hu : P.underlying t = some .bool) : EqV P (d + 1) t (.bool x) (.bool y) (x = y) := fun w => by
  rw [run_equalIn_bool' w d t x y hu]; cases x <;> cases y <;> rfl
theorem bytes_iff {x y : ByteArray} : x.toList = y.toList ↔ x = y := by
  constructor
  · intro h
    rw [ByteArray.toList_eq, ByteArray.toList_eq] at h
    cases x; cases y
    simpa using Array.toList_inj.1 h
  · rintro rfl; rfl
theorem eqvStr {t : TypeId} {x y : ByteArray} (hu : P.underlying t = some .string) : EqV P (d + 1) t (.string x) (.string y) (x = y) := fun w => by
  rw [run_equalIn_string w d t x y hu]; congr 1; exact Bool.eq_iff_iff.2 (by simp [bytes_iff])
theorem binEq {t : TypeId} (hg : P.eqGuardType P.depth t = false) (h : EqV P 10000 t (.agg xs) (.agg ys) p) : Bin P .eql t (.agg xs) (.agg ys) (.bool (decide p)) := ⟨fun w => by
  rw [run_eql_struct, h w]; rfl, fun _ a b w => run_eqGuard_agg w .eql t a b xs ys hg⟩
theorem binNe {t : TypeId} (hg : P.eqGuardType P.depth t = false) (h : EqV P 10000 t (.agg xs) (.agg ys) p) : Bin P .neq t (.agg xs) (.agg ys) (.bool (decide (¬ p))) := ⟨fun w => by
  have e : (binOp .neq t (.agg xs) (.agg ys)).run P w = ((Op.equalIn 10000 t (.agg xs) (.agg ys)).run P w).andThen fun b w' => .ok (.bool (!b)) w' := by
    simp only [binOp]
    simp [Op.equal, Op.maxDepth]
  rw [e, h w]
  simp, fun _ a b w => run_eqGuard_agg w .neq t a b xs ys hg⟩
theorem elOf {e sz b : Nat} {z : Value} (h : (P.info? e).map (fun i => (i.zero, i.size, i.bytes)) = some (some z, sz, b)) (hz : z.cells.size = sz) (h0 : 0 < sz) : El P e sz b := ⟨by
  cases hi : P.info? e with
  | none => simp [hi] at h
  | some i =>
    simp [hi] at h
    exact ⟨i, z, rfl, h.1, h.2.1, h.2.2, hz, h0⟩⟩
instance biStrE (t : TypeId) (x y : ByteArray) : Bin P .eql t (.string x) (.string y) (.bool (decide (x = y))) := ⟨fun w => by simp [binOp, Op.stringOp]; exact Bool.eq_iff_iff.2 (by simp [bytes_iff]), fun _ p q w => by unfold eqGuard; simp⟩
instance biStrN (t : TypeId) (x y : ByteArray) : Bin P .neq t (.string x) (.string y) (.bool (decide (¬ x = y))) := ⟨fun w => by simp [binOp, Op.stringOp]; exact Bool.eq_iff_iff.2 (by simp [bytes_iff]), fun _ p q w => by unfold eqGuard; simp⟩
end
end Go.SX
