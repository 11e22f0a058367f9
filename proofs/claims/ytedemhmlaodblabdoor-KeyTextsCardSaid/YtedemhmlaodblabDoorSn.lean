/- Symbolic execution: slices and maps of typed things, found by instance search. -/
import Derived.Test.YtedemhmlaodblabDoorSm
import Derived.Laws.Cover3
namespace Go.SX
set_option linter.unusedSimpArgs false
set_option linter.unusedVariables false
open Go

/-! ### arithmetic that doesn't wrap -/
section
variable {P : Program} {C : Cx} {R : List Hp} {n : Nat} {all : Array Oper} {Q : Exit → Act → World → Prop} {L : Env} {Γ : List Hp} {rest : List Oper} {w : World}
theorem y_add {t ty : TypeId} {x y : Operand} {a b : Int} [hx : Ev L x (.int .i64 a)] [hy : Ev L y (.int .i64 b)] (h1 : -9223372036854775808 ≤ a + b) (h2 : a + b < 9223372036854775808) : Y P R L Γ (.binOp .add t x y ty) (.int .i64 (a + b)) := by
  have := yBin (P := P) (R := R) (L := L) (Γ := Γ) .add t ty x y (.int .i64 a) (.int .i64 b) _ (h3 := biAdd t a b)
  rwa [show RowKit.wrap64 (a + b) = a + b by unfold RowKit.wrap64; omega] at this
theorem y_sub {t ty : TypeId} {x y : Operand} {a b : Int} [hx : Ev L x (.int .i64 a)] [hy : Ev L y (.int .i64 b)] (h1 : -9223372036854775808 ≤ a - b) (h2 : a - b < 9223372036854775808) : Y P R L Γ (.binOp .sub t x y ty) (.int .i64 (a - b)) := by
  have := yBin (P := P) (R := R) (L := L) (Γ := Γ) .sub t ty x y (.int .i64 a) (.int .i64 b) _ (h3 := biSub t a b)
  rwa [show RowKit.wrap64 (a - b) = a - b by unfold RowKit.wrap64; omega] at this
end

/-! ### typed slices -/
/-- things of a type e whose cells are cv -/
class ElT (P : Program) (e : TypeId) (α : outParam Type) (sz : outParam Nat) (cv : outParam (α → List Value)) (av : outParam (α → Value)) : Prop where
  len : ∀ x, (cv x).length = sz
  one : ∀ x, ∀ y ∈ cv x, y.oneCell' = true
  ld : ∀ (b off : Nat) (w : World) x, (∀ j u, (cv x)[j]? = some u → w.cell? ⟨b, off + j, none⟩ = some u) → (loadVar e ⟨b, off, none⟩).run P w = .ok (av x) w
theorem ElT.agg {P : Program} {e : TypeId} {α : Type} {sz : Nat} {cv : α → List Value} (ha : Ag P e sz) (h1 : ∀ x, (cv x).length = sz) (h2 : ∀ x, ∀ y ∈ cv x, y.oneCell' = true) : ElT P e α sz cv (fun x => .agg (cv x).toArray) := ⟨h1, h2, fun b off w x h =>
  loadCells_of ha (h1 x) h⟩
theorem ElT.sc {P : Program} {e : TypeId} {α : Type} {av : α → Value} (ha : Sc P e) (h2 : ∀ x, (av x).oneCell' = true) : ElT P e α 1 (fun x => [av x]) av := ⟨fun _ => rfl, fun x y hy => by
  simp at hy; subst hy; exact h2 x, fun b off w x h => by
  have := h 0 (av x) (by simp)
  simp only [Nat.add_zero] at this
  simp [loadVar, ha.out, this]⟩
def cvs {α : Type} (cv : α → List Value) (l : List α) : List Value := l.flatMap cv
theorem cvs_len {α : Type} {cv : α → List Value} {sz : Nat} (h : ∀ x, (cv x).length = sz) (l : List α) : (cvs cv l).length = l.length * sz := by
  induction l with
  | nil => simp [cvs]
  | cons p l ih => simp only [cvs, List.flatMap_cons, List.length_append] at ih ⊢; rw [ih, h]; simp [Nat.add_mul]; omega
theorem cvs_get {α : Type} {cv : α → List Value} {sz : Nat} (h : ∀ x, (cv x).length = sz) : ∀ (l : List α) (i : Nat) (x : α), l[i]? = some x → ((cvs cv l).drop (i * sz)).take sz = cv x
  | [], i, x, hx => by simp at hx
  | p :: l, 0, x, hx => by
    simp at hx; subst hx
    simp only [cvs, List.flatMap_cons, Nat.zero_mul, List.drop_zero]
    rw [List.take_append_of_le_length (by rw [h]; exact Nat.le_refl _), List.take_of_length_le (by rw [h]; exact Nat.le_refl _)]
  | p :: l, i + 1, x, hx => by
    have ih := cvs_get h l i x (by simpa using hx)
    simp only [cvs, List.flatMap_cons] at ih ⊢
    rw [Nat.add_mul, Nat.one_mul, Nat.add_comm, ← List.drop_drop, List.drop_left' (h p), ih]
theorem cvs_append {α : Type} (cv : α → List Value) (l m : List α) : cvs cv (l ++ m) = cvs cv l ++ cvs cv m := by simp [cvs]
theorem cvs_one {α : Type} (cv : α → List Value) (x : α) : cvs cv [x] = cv x := by simp [cvs]
/-- the slice value v holds the things l; it lies in s -/
class AtS (v : Value) (e : outParam Nat) (α : outParam Type) (sz : outParam Nat) (cv : outParam (α → List Value)) (l : outParam (List α)) (s : outParam Hp) : Prop where
  out : SlAt e sz v l.length (cvs cv l) s
/-- .. and is the call's own -/
class OwnS (v : Value) (e : outParam Nat) (α : outParam Type) (sz : outParam Nat) (cv : outParam (α → List Value)) (l : outParam (List α)) (s : outParam Hp) : Prop where
  out : SlOwn e sz v l.length (cvs cv l) s
instance ownAt {v : Value} {e : Nat} {α : Type} {sz : Nat} {cv : α → List Value} {l : List α} {s : Hp} [h : OwnS v e α sz cv l s] : AtS v e α sz cv l s := ⟨h.out.at⟩
theorem OwnS.nil {e : Nat} {α : Type} {sz : Nat} {cv : α → List Value} : OwnS (.slice none 0 0) e α sz cv [] [] := ⟨SlOwn.nil e sz⟩
theorem SlAt.shape {e sz n : Nat} {v : Value} {xs : List Value} {s : Hp} (h : SlAt e sz v n xs s) : ∃ a l c, v = .slice a l c := by
  rcases h.2 with ⟨rfl | ⟨a, c, rfl⟩, _⟩ | ⟨b, off, cap, cur, et, fr, rfl, _⟩
  · exact ⟨_, _, _, rfl⟩
  · exact ⟨_, _, _, rfl⟩
  · exact ⟨_, _, _, rfl⟩
/-- a slice -/
class IsSl (v : Value) : Prop where
  out : ∃ a l c, v = .slice a l c
instance isSlLit (a : Option Addr) (l c : Nat) : IsSl (.slice a l c) := ⟨_, _, _, rfl⟩
instance (priority := low) isSlAt {v : Value} {e : Nat} {α : Type} {sz : Nat} {cv : α → List Value} {l : List α} {s : Hp} [h : AtS v e α sz cv l s] : IsSl v := ⟨h.out.shape⟩
instance (priority := low) oneAt {v : Value} {e : Nat} {α : Type} {sz : Nat} {cv : α → List Value} {l : List α} {s : Hp} [h : AtS v e α sz cv l s] : One v := ⟨by
  obtain ⟨a, l, c, rfl⟩ := h.out.shape; rfl⟩
instance (priority := low) celAt {v : Value} {e : Nat} {α : Type} {sz : Nat} {cv : α → List Value} {l : List α} {s : Hp} [h : AtS v e α sz cv l s] : Cel v #[v] := ⟨by
  obtain ⟨a, l, c, rfl⟩ := h.out.shape; rfl⟩
/-- a thing that is written out as its cells -/
class Cvt {α : Type} (cv : α → List Value) (cs : List Value) (x : outParam α) : Prop where
  out : cv x = cs
instance cvtI (q : IntKind) (x : Int) : Cvt (fun x => [Value.int q x]) [.int q x] x := ⟨rfl⟩
instance cvtB (x : Bool) : Cvt (fun x => [Value.bool x]) [.bool x] x := ⟨rfl⟩
instance cvtS (x : ByteArray) : Cvt (fun x => [Value.string x]) [.string x] x := ⟨rfl⟩
/-- the block and the offset of a slice -/
def slb : Value → Nat
  | .slice (some a) _ _ => a.block
  | _ => 0
def slo : Value → Nat
  | .slice (some a) _ _ => a.off
  | _ => 0
section
variable {P : Program} {C : Cx} {R : List Hp} {n : Nat} {all : Array Oper} {Q : Exit → Act → World → Prop} {L : Env} {Γ : List Hp} {rest : List Oper} {w : World} {e sz : Nat} {α : Type} {cv : α → List Value} {av : α → Value} {l : List α} {v : Value} {s : Hp}
instance yLenS (T : TypeId) (x : Operand) [hx : Ev L x v] [ht : Und P T (.slice e)] [hs : AtS v e α sz cv l s] : Y P R L Γ (.call ⟨.builtin .len, #[x], #[T]⟩) (.int .i64 l.length) := ⟨fun C n a w _ _ _ _ _ kn i => by
  rcases hs.out.2 with ⟨rfl | ⟨_, _, rfl⟩, h0⟩ | ⟨b, off, cap, cur, et, fr, rfl, _⟩
  · have : l.length = 0 := h0
    simp [execOp, resolve, invoke, builtin, Builtin.len_, hx.out n a kn, run_underlying ht.out, goInt, this]
  · have : l.length = 0 := h0
    simp [execOp, resolve, invoke, builtin, Builtin.len_, hx.out n a kn, run_underlying ht.out, goInt, this]
  · simp [execOp, resolve, invoke, builtin, Builtin.len_, hx.out n a kn, run_underlying ht.out, goInt]⟩
theorem y_idxC {T : TypeId} {x ix : Operand} {k : IntKind} {i : Int} [hx : Ev L x v] [hi : Ev L ix (.int k i)] [ht : Und P T (.slice e)] [hz : Sz P e sz] [hs : AtS v e α sz cv l s] (h0 : 0 ≤ i) (h1 : i < (l.length : Int)) :
    Y P R L Γ (.indexAddr T x ix) (.pointer (some ⟨slb v, slo v + i.toNat * sz, none⟩)) := by
  rcases hs.out.2 with ⟨_, h0'⟩ | ⟨b, off, cap, cur, et, fr, rfl, _⟩
  · rw [h0'] at h1; omega
  · exact y_idx (m := l.length) (c := cap) h0 h1
theorem y_elemC {t i : Nat} {p : Operand} {x : α} [hp : Ev L p (.pointer (some ⟨slb v, slo v + i * sz, none⟩))] [hs : AtS v t α sz cv l s] [hg : Seg R Γ s] [he : ElT P t α sz cv av] (hx : l[i]? = some x) :
    Y P R L Γ (.load t p) (av x) := ⟨fun C n a w _ _ _ _ _ kn iv => by
  have hw := hg.out C w iv
  have hlt : i < l.length := (List.getElem?_eq_some_iff.1 hx).1
  rcases hs.out.2 with ⟨_, h0⟩ | ⟨b, off, cap, cur, et, fr, rfl, _⟩
  · omega
  · have := he.ld b (off + i * sz) w x (fun j u hu => by
      rw [Nat.add_assoc]
      refine hs.out.cell hw _ u ?_
      have hj : j < sz := he.len x ▸ (List.getElem?_eq_some_iff.1 hu).1
      have hc := cvs_get (cv := cv) he.len l i x hx
      rw [← hc, List.getElem?_take, if_pos hj, List.getElem?_drop] at hu
      exact hu)
    have hp' := hp.out _ a kn
    simp only [slb, slo] at hp'
    simp [execOp, hp', Instr.loadAt, Instr.sureAddr, this]⟩
theorem y_idxN {T j : Nat} {x ix : Operand} {k : IntKind} [hx : Ev L x v] [hi : Ev L ix (.int k (j : Nat))] [ht : Und P T (.slice e)] [hz : Sz P e sz] [hs : AtS v e α sz cv l s] (h1 : j < l.length) :
    Y P R L Γ (.indexAddr T x ix) (.pointer (some ⟨slb v, slo v + j * sz, none⟩)) := by
  have := y_idxC (P := P) (R := R) (L := L) (Γ := Γ) (v := v) (e := e) (sz := sz) (cv := cv) (l := l) (s := s) (T := T) (x := x) (ix := ix) (k := k) (i := j) (by omega) (by omega)
  simpa using this
theorem y_elemG {t i : Nat} {p : Operand} [hp : Ev L p (.pointer (some ⟨slb v, slo v + i * sz, none⟩))] [hs : AtS v t α sz cv l s] [hg : Seg R Γ s] [he : ElT P t α sz cv av] (h : i < l.length) :
    Y P R L Γ (.load t p) (av l[i]) := y_elemC (List.getElem?_eq_getElem h)
theorem SlAt.lit {b : Nat} {cs : Array Value} (k : Nat) (hl : cs.toList.length = k * sz) (hk : k ≤ maxLen) : SlAt e sz (.slice (some ⟨b, 0, none⟩) k k) k cs.toList [(b, .cells cs e (0, 0))] :=
  ⟨hl, .inr ⟨b, 0, k, cs, e, (0, 0), rfl, rfl, Nat.le_refl _, hk, by simpa using Nat.le_of_eq hl.symm, by simpa using List.take_of_length_le (Nat.le_of_eq hl)⟩⟩
/-- an array that is written out -/
class LisA (a : Array Value) (l : outParam (List Value)) : Prop where
  out : a = l.toArray
instance lisA (l : List Value) : LisA l.toArray l := ⟨rfl⟩
/-- one thing behind a slice -/
theorem v_push {K : Act → World → Prop} {d T bytes b : Nat} {x y : Operand} {z : α} {cs : List Value} {ca : Array Value} {ty : TypeId} {pos : String} {af : Array Edge} {Γ' : List Hp} [hx : Ev L x v] [hy : Ev L y (.slice (some ⟨b, 0, none⟩) 1 1)] [ht : Und P T (.slice e)] [hs : OwnS v e α sz cv l s] [he : El P e sz bytes] [hE : ElT P e α sz cv av] [hd : Is (Nat.ble n d = false)]
    [hdel : Del Γ s Γ'] [hseg : See R Γ b (.cells ca e (0, 0))] [hca : LisA ca cs] [hc : Cvt cv cs z] (hb : (l.length + 1) * bytes ≤ 140737488355328) [hp : Is (Nat.ble 1 bytes = true)]
    (h : ∀ v' s', OwnS v' e α sz cv (l ++ [z]) s' → (l ++ [z]).length = l.length + 1 → VK C R n ((d, v') :: L) (s' :: Γ') K) : VK C R n L Γ (wp1 P all Q ⟨some d, .call ⟨.builtin .append, #[x, y], #[T, T]⟩, ty, pos, af, none⟩ K) := by
  have hz := hc.out
  have hca' := hca.out
  subst hca'
  have hlen : cs.length = 1 * sz := by rw [← hz, hE.len]; omega
  have hm : l.length + 1 ≤ maxLen := by
    have h1 : 1 ≤ bytes := Nat.le_of_ble_eq_true hp.out
    have h2 : (l.length + 1) * 1 ≤ (l.length + 1) * bytes := Nat.mul_le_mul_left _ h1
    unfold maxLen; omega
  have hlit : SlAt e sz (.slice (some ⟨b, 0, none⟩) 1 1) 1 cs [(b, .cells cs.toArray e (0, 0))] := by
    simpa using SlAt.lit (cs := cs.toArray) (e := e) (sz := sz) (b := b) 1 (by simpa using hlen) (by unfold maxLen; omega)
  refine v_append (m := l.length) (k := 1) hs.out hlit (hdel := hdel) (hseg := ⟨fun C w i x hx => by simp only [List.mem_singleton] at hx; subst hx; exact hseg.out C w i⟩) (fun y hy => hE.one z y (by rw [hz]; exact hy)) hm hb (fun v' s' hs' => h v' s' ⟨?_⟩ (by simp))
  rw [cvs_append, cvs_one, hz]
  simpa using hs'
end

section
variable {P : Program} {C : Cx} {R : List Hp} {n : Nat} {all : Array Oper} {Q : Exit → Act → World → Prop} {L : Env} {Γ : List Hp} {rest : List Oper} {w : World} {e sz : Nat} {α : Type} {cv : α → List Value} {av : α → Value} {l : List α} {v : Value} {s : Hp}
theorem cvs_set {sz : Nat} (h : ∀ x, (cv x).length = sz) : ∀ (l : List α) (i : Nat) (z : α), i < l.length → cvs cv (l.set i z) = (cvs cv l).take (i * sz) ++ cv z ++ (cvs cv l).drop (i * sz + sz)
  | [], i, z, hi => by simp at hi
  | p :: l, 0, z, _ => by
    simp only [List.set_cons_zero, cvs, List.flatMap_cons, Nat.zero_mul, List.take_zero, List.nil_append, Nat.zero_add]
    rw [List.drop_left' (h p)]
  | p :: l, i + 1, z, hi => by
    have ih := cvs_set h l i z (by simpa using hi)
    simp only [cvs, List.set_cons_succ, List.flatMap_cons] at ih ⊢
    rw [ih, Nat.add_mul, Nat.one_mul]
    have e1 : (cv p ++ l.flatMap cv).take (i * sz + sz) = cv p ++ (l.flatMap cv).take (i * sz) := by
      rw [Nat.add_comm, List.take_append, h p, List.take_of_length_le (by rw [h p]; omega)]
      congr 2; omega
    have e2 : (cv p ++ l.flatMap cv).drop (i * sz + sz + sz) = (l.flatMap cv).drop (i * sz + sz) := by
      rw [show i * sz + sz + sz = sz + (i * sz + sz) by omega, ← List.drop_drop, List.drop_left' (h p)]
    rw [e1, e2]
    simp
theorem take_mid {L X : List Value} {a n : Nat} (h : a + X.length ≤ n) (h2 : n ≤ L.length) : (L.take a ++ X ++ L.drop (a + X.length)).take n = (L.take n).take a ++ X ++ (L.take n).drop (a + X.length) := by
  have e1 : L.take a = (L.take n).take a := by rw [List.take_take, Nat.min_eq_left (by omega)]
  have e2 : L.drop (a + X.length) = (L.take n).drop (a + X.length) ++ L.drop n := by
    conv => lhs; rw [← List.take_append_drop n L]
    rw [List.drop_append_of_le_length (by rw [List.length_take]; omega)]
  rw [e1, e2, ← List.append_assoc]
  exact List.take_left' (by simp only [List.length_append, List.length_take, List.length_drop]; omega)
/-- is the slice nil? -/
def isNilS : Value → Bool
  | .slice none _ _ => true
  | _ => false
theorem run_eq_nilS {t : TypeId} (a : Option Addr) (n c : Nat) (h : P.underlying t = some (.slice e)) : (binOp .eql t (.slice a n c) (.slice none 0 0)).run P w = .ok (.bool a.isNone) w := by
  simp only [binOp]
  simp [run_equal_slice_nil w t e a n c h]
instance biNilS (t : TypeId) [h : Und P t (.slice e)] [hs : AtS v e α sz cv l s] : Bin P .eql t v (.slice none 0 0) (.bool (isNilS v)) := ⟨fun w => by
  rcases hs.out.2 with ⟨rfl | ⟨_, _, rfl⟩, _⟩ | ⟨b, off, cap, cur, et, fr, rfl, _⟩
  · exact run_eq_nilS none 0 0 h.out
  · exact run_eq_nilS _ _ _ h.out
  · exact run_eq_nilS _ _ _ h.out, fun _ p q w => by
  rcases hs.out.2 with ⟨rfl | ⟨_, _, rfl⟩, _⟩ | ⟨b, off, cap, cur, et, fr, rfl, _⟩ <;> unfold eqGuard <;> simp⟩
instance biNilN (t : TypeId) [h : Und P t (.slice e)] [hs : AtS v e α sz cv l s] : Bin P .neq t v (.slice none 0 0) (.bool (!isNilS v)) := ⟨fun w => by
  rcases hs.out.2 with ⟨rfl | ⟨_, _, rfl⟩, _⟩ | ⟨b, off, cap, cur, et, fr, rfl, _⟩
  · exact run_neq_slice_nil w t e none 0 0 h.out
  · exact run_neq_slice_nil w t e _ _ _ h.out
  · exact run_neq_slice_nil w t e _ _ _ h.out, fun _ p q w => by
  rcases hs.out.2 with ⟨rfl | ⟨_, _, rfl⟩, _⟩ | ⟨b, off, cap, cur, et, fr, rfl, _⟩ <;> unfold eqGuard <;> simp⟩
theorem nilS_nil [hs : AtS v e α sz cv l s] (h : isNilS v = true) : v = .slice none 0 0 ∧ l = [] := by
  rcases hs.out.2 with ⟨rfl | ⟨_, _, rfl⟩, h0⟩ | ⟨b, off, cap, cur, et, fr, rfl, _⟩
  · exact ⟨rfl, List.eq_nil_of_length_eq_zero h0⟩
  · cases h
  · cases h
theorem SlAt.lit0 {b : Nat} : SlOwn e sz (.slice (some ⟨b, 0, none⟩) 0 0) 0 [] [(b, .cells #[] e (0, 0))] := ⟨by simp, .inr ⟨b, 0, 0, #[], e, rfl, rfl, Nat.le_refl _, Nat.zero_le _, by simp, by simp⟩⟩
theorem cvs_nil {cv : α → List Value} : cvs cv [] = [] := rfl
theorem cvs_one' (hE : ElT P e α sz cv av) (l : List α) : ∀ y ∈ cvs cv l, y.oneCell' = true := fun y hy => by
  obtain ⟨x, _, hx⟩ := List.mem_flatMap.1 hy
  exact hE.one x y hx
theorem len_bound {n k bytes : Nat} (hp : Nat.ble 1 bytes = true) (hb : (n + k) * bytes ≤ 140737488355328) : n + k ≤ maxLen := by
  have h1 : 1 ≤ bytes := Nat.le_of_ble_eq_true hp
  have h2 : (n + k) * 1 ≤ (n + k) * bytes := Nat.mul_le_mul_left _ h1
  unfold maxLen; omega
/-- a slice behind a slice -/
theorem v_cat {K : Act → World → Prop} {d T bytes : Nat} {x y : Operand} {u : Value} {l' : List α} {s' : Hp} {ty : TypeId} {pos : String} {af : Array Edge} {Γ' : List Hp} [hx : Ev L x v] [hy : Ev L y u] [ht : Und P T (.slice e)] [hs : OwnS v e α sz cv l s] [hu : AtS u e α sz cv l' s'] [he : El P e sz bytes] [hE : ElT P e α sz cv av] [hd : Is (Nat.ble n d = false)]
    [hdel : Del Γ s Γ'] [hseg : Seg R Γ s'] [hp : Is (Nat.ble 1 bytes = true)] (hb : (l.length + l'.length) * bytes ≤ 140737488355328)
    (h : ∀ v' s', OwnS v' e α sz cv (l ++ l') s' → (l ++ l').length = l.length + l'.length → VK C R n ((d, v') :: L) (s' :: Γ') K) : VK C R n L Γ (wp1 P all Q ⟨some d, .call ⟨.builtin .append, #[x, y], #[T, T]⟩, ty, pos, af, none⟩ K) :=
  v_append (m := l.length) (k := l'.length) hs.out hu.out (cvs_one' hE l') (len_bound hp.out hb) hb (fun v' s' hs' => h v' s' ⟨by rw [cvs_append]; simpa using hs'⟩ (by simp))
/-- .. behind an empty literal -/
theorem v_cat0 {K : Act → World → Prop} {d T bytes b : Nat} {x y : Operand} {u : Value} {l' : List α} {s' : Hp} {ty : TypeId} {pos : String} {af : Array Edge} {Γ' : List Hp} [hx : Ev L x (.slice (some ⟨b, 0, none⟩) 0 0)] [hy : Ev L y u] [ht : Und P T (.slice e)] [hu : AtS u e α sz cv l' s'] [he : El P e sz bytes] [hE : ElT P e α sz cv av] [hd : Is (Nat.ble n d = false)]
    [hdel : Del Γ [(b, .cells #[] e (0, 0))] Γ'] [hseg : Seg R Γ s'] [hp : Is (Nat.ble 1 bytes = true)] (hb : l'.length * bytes ≤ 140737488355328)
    (h : ∀ v' s', OwnS v' e α sz cv l' s' → VK C R n ((d, v') :: L) (s' :: Γ') K) : VK C R n L Γ (wp1 P all Q ⟨some d, .call ⟨.builtin .append, #[x, y], #[T, T]⟩, ty, pos, af, none⟩ K) :=
  v_append (m := 0) (k := l'.length) (SlAt.lit0 (b := b)) hu.out (cvs_one' hE l') (by have := len_bound (n := 0) (k := l'.length) hp.out (by simpa using hb); simpa using this) (by simpa using hb) (fun v' s' hs' => h v' s' ⟨by simpa using hs'⟩)
/-- one thing behind nil -/
theorem v_push0 {K : Act → World → Prop} {d T bytes b : Nat} {x y : Operand} {z : α} {cs : List Value} {ca : Array Value} {ty : TypeId} {pos : String} {af : Array Edge} [hx : Ev L x (.slice none 0 0)] [hy : Ev L y (.slice (some ⟨b, 0, none⟩) 1 1)] [ht : Und P T (.slice e)] [hE : ElT P e α sz cv av] [he : El P e sz bytes] [hd : Is (Nat.ble n d = false)]
    [hseg : See R Γ b (.cells ca e (0, 0))] [hca : LisA ca cs] [hc : Cvt cv cs z] [hp : Is (Nat.ble 1 bytes = true)] (hb : 1 * bytes ≤ 140737488355328)
    (h : ∀ v' s', OwnS v' e α sz cv [z] s' → VK C R n ((d, v') :: L) (s' :: Γ) K) : VK C R n L Γ (wp1 P all Q ⟨some d, .call ⟨.builtin .append, #[x, y], #[T, T]⟩, ty, pos, af, none⟩ K) := by
  have hz := hc.out
  have hca' := hca.out
  subst hca'
  have hlen : cs.length = 1 * sz := by rw [← hz, hE.len]; omega
  have hlit : SlAt e sz (.slice (some ⟨b, 0, none⟩) 1 1) 1 cs [(b, .cells cs.toArray e (0, 0))] := by
    simpa using SlAt.lit (cs := cs.toArray) (e := e) (sz := sz) (b := b) 1 (by simpa using hlen) (by unfold maxLen; omega)
  have hn : VK C R n L ([] :: Γ) (wp1 P all Q ⟨some d, .call ⟨.builtin .append, #[x, y], #[T, T]⟩, ty, pos, af, none⟩ K) :=
    v_append (m := 0) (k := 1) (SlOwn.nil e sz) hlit (hseg := ⟨fun C w i x hx => by simp only [List.mem_singleton] at hx; subst hx; exact hseg.out C w (i.perm (by simp))⟩) (fun y hy => hE.one z y (by rw [hz]; exact hy)) (by unfold maxLen; omega) (by simpa using hb) (fun v' s' hs' => h v' s' ⟨by rw [cvs_one, hz]; simpa using hs'⟩)
  exact VK.mk fun a w k i => hn.out a w k (i.perm (by simp))
/-- a slice behind nil -/
theorem v_catN {K : Act → World → Prop} {d T bytes : Nat} {x y : Operand} {u : Value} {l' : List α} {s' : Hp} {ty : TypeId} {pos : String} {af : Array Edge} [hx : Ev L x (.slice none 0 0)] [hy : Ev L y u] [ht : Und P T (.slice e)] [hu : AtS u e α sz cv l' s'] [he : El P e sz bytes] [hE : ElT P e α sz cv av] [hd : Is (Nat.ble n d = false)]
    [hseg : Seg R Γ s'] [hp : Is (Nat.ble 1 bytes = true)] (hb : l'.length * bytes ≤ 140737488355328)
    (h : ∀ v' s', OwnS v' e α sz cv l' s' → VK C R n ((d, v') :: L) (s' :: Γ) K) : VK C R n L Γ (wp1 P all Q ⟨some d, .call ⟨.builtin .append, #[x, y], #[T, T]⟩, ty, pos, af, none⟩ K) := by
  have hn : VK C R n L ([] :: Γ) (wp1 P all Q ⟨some d, .call ⟨.builtin .append, #[x, y], #[T, T]⟩, ty, pos, af, none⟩ K) :=
    v_append (m := 0) (k := l'.length) (SlOwn.nil e sz) hu.out (hseg := ⟨fun C w i x hx => hseg.out C w (i.perm (by simp)) x hx⟩) (cvs_one' hE l') (by have := len_bound (n := 0) (k := l'.length) hp.out (by simpa using hb); simpa using this) (by simpa using hb) (fun v' s' hs' => h v' s' ⟨by simpa using hs'⟩)
  exact VK.mk fun a w k i => hn.out a w k (i.perm (by simp))
/-- a part of a slice -/
def slSub (sz : Nat) : Value → Nat → Nat → Value
  | .slice a _ c, lo, hi => .slice (if c = lo then a else a.map (·.add (lo * sz))) (hi - lo) (c - lo)
  | v, _, _ => v
theorem cvs_sub {sz : Nat} (h : ∀ x, (cv x).length = sz) (l : List α) (lo hi : Nat) (hlo : lo ≤ hi) (hhi : hi ≤ l.length) : cvs cv ((l.take hi).drop lo) = ((cvs cv l).drop (lo * sz)).take ((hi - lo) * sz) := by
  have e1 : cvs cv l = cvs cv (l.take lo) ++ (cvs cv ((l.take hi).drop lo) ++ cvs cv (l.drop hi)) := by
    rw [← cvs_append, ← cvs_append]
    congr 1
    have : l.take lo = (l.take hi).take lo := by rw [List.take_take, Nat.min_eq_left hlo]
    rw [this, ← List.append_assoc, List.take_append_drop, List.take_append_drop]
  rw [e1, List.drop_left' (by rw [cvs_len h, List.length_take]; congr 1; omega)]
  exact (List.take_left' (by rw [cvs_len h, List.length_drop, List.length_take]; congr 1; omega)).symm
theorem AtS.sub (hE : ∀ x, (cv x).length = sz) (hs : AtS v e α sz cv l s) {lo hi : Nat} (h1 : lo ≤ hi) (h2 : hi ≤ l.length) : AtS (slSub sz v lo hi) e α sz cv ((l.take hi).drop lo) s := ⟨by
  have hlen : ((l.take hi).drop lo).length = hi - lo := by rw [List.length_drop, List.length_take]; omega
  refine ⟨cvs_len hE _, ?_⟩
  rcases hs.out.2 with ⟨hv, h0⟩ | ⟨b, off, cap, cur, et, fr, rfl, rfl, h3, h4, h5, h6⟩
  · have e1 : lo = 0 := by omega
    have e2 : hi = 0 := by omega
    subst e1; subst e2
    refine .inl ⟨?_, by simp⟩
    rcases hv with rfl | ⟨a, c, rfl⟩
    · left; simp [slSub]
    · right
      by_cases hc : c = 0
      · exact ⟨a, 0, by simp [slSub, hc]⟩
      · exact ⟨a.add (0 * sz), c, by simp [slSub, hc]⟩
  · by_cases hc : cap = lo
    · subst hc
      have : hi = cap := by omega
      subst this
      refine .inl ⟨.inr ⟨⟨b, off, none⟩, 0, by simp [slSub]⟩, by rw [hlen]; omega⟩
    · refine .inr ⟨b, off + lo * sz, cap - lo, cur, et, fr, ?_, rfl, by omega, by omega, ?_, ?_⟩
      · simp [slSub, hc, add_at, hlen]
      · rw [hlen]
        have : (lo + (hi - lo)) * sz ≤ l.length * sz := Nat.mul_le_mul_right _ (by omega)
        rw [Nat.add_mul] at this
        omega
      · rw [cvs_sub hE l lo hi h1 h2, ← h6, hlen, List.drop_take, List.take_take, List.drop_drop]
        congr 1
        have : (lo + (hi - lo)) * sz ≤ l.length * sz := Nat.mul_le_mul_right _ (by omega)
        rw [Nat.add_mul] at this
        omega⟩
theorem run_slice {T : TypeId} (hs : AtS v e α sz cv l s) (ht : P.underlying T = some (.slice e)) (hz : Sz P e sz) (lo hi : Option Value) {lo' hi' : Nat} (h1 : lo' ≤ hi') (h2 : hi' ≤ l.length)
    (hl : (lo = none ∧ lo' = 0) ∨ ∃ k i, lo = some (.int k i) ∧ i = (lo' : Int)) (hh : (hi = none ∧ hi' = l.length) ∨ ∃ k i, hi = some (.int k i) ∧ i = (hi' : Int)) : (Instr.slice T v lo hi none).run P w = .ok (slSub sz v lo' hi') w := by
  have main : ∀ a n c, v = .slice a n c → n = l.length → n ≤ c → (Instr.slice T v lo hi none).run P w = .ok (slSub sz v lo' hi') w := by
    rintro a n c rfl rfl hnc
    have h3 : (hi' : Int) ≤ (c : Int) := by omega
    have h4 : (lo' : Int) ≤ (hi' : Int) := by omega
    have h5 : ¬ c < hi' := by omega
    have h6 : ¬ hi' < lo' := by omega
    have h7 : ¬ l.length < lo' := by omega
    rcases hl with ⟨rfl, rfl⟩ | ⟨k, i, rfl, rfl⟩ <;> rcases hh with ⟨rfl, rfl⟩ | ⟨k', i', rfl, rfl⟩ <;>
      simp [Instr.slice, Instr.sliceBounds, Instr.sliceBound, asIntOf, run_underlying ht, hz.out, slSub, h3, h4, h1, h5, h6, h7]
  rcases hs.out.2 with ⟨rfl | ⟨a, c, rfl⟩, h0⟩ | ⟨b, off, cap, cur, et, fr, rfl, _, h3, _⟩
  · exact main _ _ _ rfl (by omega) (Nat.le_refl _)
  · exact main _ _ _ rfl (by omega) (Nat.zero_le _)
  · exact main _ _ _ rfl rfl h3
theorem y_subB {T : TypeId} {x lo hi : Operand} {k k' : IntKind} {i j : Int} [hx : Ev L x v] [hlo : Ev L lo (.int k i)] [hhi : Ev L hi (.int k' j)] [ht : Und P T (.slice e)] [hz : Sz P e sz] [hs : AtS v e α sz cv l s] (h0 : 0 ≤ i) (h1 : i ≤ j) (h2 : j ≤ l.length) :
    Y P R L Γ (.slice T x (some lo) (some hi) none) (slSub sz v i.toNat j.toNat) := ⟨fun C n a w _ _ _ _ _ kn _ => by
  have := run_slice (P := P) (w := w) hs ht.out hz (some (.int k i)) (some (.int k' j)) (lo' := i.toNat) (hi' := j.toNat) (by omega) (by omega) (.inr ⟨k, i, rfl, by omega⟩) (.inr ⟨k', j, rfl, by omega⟩)
  simp [execOp, Instr.sliceAt, run_underlying ht.out, hx.out n a kn, hlo.out n a kn, hhi.out n a kn, this]⟩
theorem y_subL {T : TypeId} {x lo : Operand} {k : IntKind} {i : Int} [hx : Ev L x v] [hlo : Ev L lo (.int k i)] [ht : Und P T (.slice e)] [hz : Sz P e sz] [hs : AtS v e α sz cv l s] (h0 : 0 ≤ i) (h1 : i ≤ l.length) :
    Y P R L Γ (.slice T x (some lo) none none) (slSub sz v i.toNat l.length) := ⟨fun C n a w _ _ _ _ _ kn _ => by
  have := run_slice (P := P) (w := w) hs ht.out hz (some (.int k i)) none (lo' := i.toNat) (hi' := l.length) (by omega) (by omega) (.inr ⟨k, i, rfl, by omega⟩) (.inl ⟨rfl, rfl⟩)
  simp [execOp, Instr.sliceAt, run_underlying ht.out, hx.out n a kn, hlo.out n a kn, this]⟩
theorem y_subH {T : TypeId} {x hi : Operand} {k' : IntKind} {j : Int} [hx : Ev L x v] [hhi : Ev L hi (.int k' j)] [ht : Und P T (.slice e)] [hz : Sz P e sz] [hs : AtS v e α sz cv l s] (h1 : 0 ≤ j) (h2 : j ≤ l.length) :
    Y P R L Γ (.slice T x none (some hi) none) (slSub sz v 0 j.toNat) := ⟨fun C n a w _ _ _ _ _ kn _ => by
  have := run_slice (P := P) (w := w) hs ht.out hz none (some (.int k' j)) (lo' := 0) (hi' := j.toNat) (by omega) (by omega) (.inl ⟨rfl, rfl⟩) (.inr ⟨k', j, rfl, by omega⟩)
  simp [execOp, Instr.sliceAt, run_underlying ht.out, hx.out n a kn, hhi.out n a kn, this]⟩
theorem v_subB {d T : Nat} {ty : TypeId} {pos : String} {af : Array Edge} {x lo hi : Operand} {k k' : IntKind} {i j : Int} [hx : Ev L x v] [hlo : Ev L lo (.int k i)] [hhi : Ev L hi (.int k' j)] [ht : Und P T (.slice e)] [hz : Sz P e sz] [hs : AtS v e α sz cv l s] [hE : ElT P e α sz cv av] [hd : Is (Nat.ble n d = false)] (h0 : 0 ≤ i) (h1 : i ≤ j) (h2 : j ≤ l.length)
    (hk : ∀ v', AtS v' e α sz cv ((l.take j.toNat).drop i.toNat) s → VK C R n ((d, v') :: L) Γ (KL P all Q rest)) : VK C R n L Γ (KL P all Q (⟨some d, .slice T x (some lo) (some hi) none, ty, pos, af, none⟩ :: rest)) := v_by (y_subB h0 h1 h2) (hk _ (hs.sub hE.len (lo := i.toNat) (hi := j.toNat) (by omega) (by omega)))
theorem v_1subB {K : Act → World → Prop} {d T : Nat} {ty : TypeId} {pos : String} {af : Array Edge} {x lo hi : Operand} {k k' : IntKind} {i j : Int} [hx : Ev L x v] [hlo : Ev L lo (.int k i)] [hhi : Ev L hi (.int k' j)] [ht : Und P T (.slice e)] [hz : Sz P e sz] [hs : AtS v e α sz cv l s] [hE : ElT P e α sz cv av] [hd : Is (Nat.ble n d = false)] (h0 : 0 ≤ i) (h1 : i ≤ j) (h2 : j ≤ l.length)
    (hk : ∀ v', AtS v' e α sz cv ((l.take j.toNat).drop i.toNat) s → VK C R n ((d, v') :: L) Γ K) : VK C R n L Γ (wp1 P all Q ⟨some d, .slice T x (some lo) (some hi) none, ty, pos, af, none⟩ K) := v_1by (y_subB h0 h1 h2) (hk _ (hs.sub hE.len (lo := i.toNat) (hi := j.toNat) (by omega) (by omega)))
theorem v_tsubB {d T m : Nat} {ty : TypeId} {pos : String} {af : Array Edge} {x lo hi : Operand} {k k' : IntKind} {i j : Int} [hx : Ev L x v] [hlo : Ev L lo (.int k i)] [hhi : Ev L hi (.int k' j)] {Rs Rt : List Hp} {kl : Nat} {al : Bool} {pl : Pl} [ht : Und P T (.slice e)] [hz : Sz P e sz] [hs : AtS v e α sz cv l s] [hE : ElT P e α sz cv av] [hq : QP Q] [hd : Is (Nat.ble n d = false)] (h0 : 0 ≤ i) (h1 : i ≤ j) (h2 : j ≤ l.length)
    (hk : ∀ v', AtS v' e α sz cv ((l.take j.toNat).drop i.toNat) s → VK C R n ((d, v') :: L) Γ (KA P all Q Rs kl Rt al pl)) : VK C R n L Γ (KT P all Q Rs kl Rt al m ⟨some d, .slice T x (some lo) (some hi) none, ty, pos, af, none⟩ pl) := v_tBy (y_subB h0 h1 h2) (hk _ (hs.sub hE.len (lo := i.toNat) (hi := j.toNat) (by omega) (by omega)))
theorem v_subL {d T : Nat} {ty : TypeId} {pos : String} {af : Array Edge} {x lo : Operand} {k : IntKind} {i : Int} [hx : Ev L x v] [hlo : Ev L lo (.int k i)] [ht : Und P T (.slice e)] [hz : Sz P e sz] [hs : AtS v e α sz cv l s] [hE : ElT P e α sz cv av] [hd : Is (Nat.ble n d = false)] (h0 : 0 ≤ i) (h1 : i ≤ l.length)
    (hk : ∀ v', AtS v' e α sz cv (l.drop i.toNat) s → VK C R n ((d, v') :: L) Γ (KL P all Q rest)) : VK C R n L Γ (KL P all Q (⟨some d, .slice T x (some lo) none none, ty, pos, af, none⟩ :: rest)) := v_by (y_subL h0 h1) (hk _ (by simpa using hs.sub hE.len (lo := i.toNat) (hi := l.length) (by omega) (by omega)))
theorem v_1subL {K : Act → World → Prop} {d T : Nat} {ty : TypeId} {pos : String} {af : Array Edge} {x lo : Operand} {k : IntKind} {i : Int} [hx : Ev L x v] [hlo : Ev L lo (.int k i)] [ht : Und P T (.slice e)] [hz : Sz P e sz] [hs : AtS v e α sz cv l s] [hE : ElT P e α sz cv av] [hd : Is (Nat.ble n d = false)] (h0 : 0 ≤ i) (h1 : i ≤ l.length)
    (hk : ∀ v', AtS v' e α sz cv (l.drop i.toNat) s → VK C R n ((d, v') :: L) Γ K) : VK C R n L Γ (wp1 P all Q ⟨some d, .slice T x (some lo) none none, ty, pos, af, none⟩ K) := v_1by (y_subL h0 h1) (hk _ (by simpa using hs.sub hE.len (lo := i.toNat) (hi := l.length) (by omega) (by omega)))
theorem v_tsubL {d T m : Nat} {ty : TypeId} {pos : String} {af : Array Edge} {x lo : Operand} {k : IntKind} {i : Int} [hx : Ev L x v] [hlo : Ev L lo (.int k i)] {Rs Rt : List Hp} {kl : Nat} {al : Bool} {pl : Pl} [ht : Und P T (.slice e)] [hz : Sz P e sz] [hs : AtS v e α sz cv l s] [hE : ElT P e α sz cv av] [hq : QP Q] [hd : Is (Nat.ble n d = false)] (h0 : 0 ≤ i) (h1 : i ≤ l.length)
    (hk : ∀ v', AtS v' e α sz cv (l.drop i.toNat) s → VK C R n ((d, v') :: L) Γ (KA P all Q Rs kl Rt al pl)) : VK C R n L Γ (KT P all Q Rs kl Rt al m ⟨some d, .slice T x (some lo) none none, ty, pos, af, none⟩ pl) := v_tBy (y_subL h0 h1) (hk _ (by simpa using hs.sub hE.len (lo := i.toNat) (hi := l.length) (by omega) (by omega)))
theorem v_subH {d T : Nat} {ty : TypeId} {pos : String} {af : Array Edge} {x hi : Operand} {k' : IntKind} {j : Int} [hx : Ev L x v] [hhi : Ev L hi (.int k' j)] [ht : Und P T (.slice e)] [hz : Sz P e sz] [hs : AtS v e α sz cv l s] [hE : ElT P e α sz cv av] [hd : Is (Nat.ble n d = false)] (h1 : 0 ≤ j) (h2 : j ≤ l.length)
    (hk : ∀ v', AtS v' e α sz cv (l.take j.toNat) s → VK C R n ((d, v') :: L) Γ (KL P all Q rest)) : VK C R n L Γ (KL P all Q (⟨some d, .slice T x none (some hi) none, ty, pos, af, none⟩ :: rest)) := v_by (y_subH h1 h2) (hk _ (by simpa using hs.sub hE.len (lo := 0) (hi := j.toNat) (by omega) (by omega)))
theorem v_1subH {K : Act → World → Prop} {d T : Nat} {ty : TypeId} {pos : String} {af : Array Edge} {x hi : Operand} {k' : IntKind} {j : Int} [hx : Ev L x v] [hhi : Ev L hi (.int k' j)] [ht : Und P T (.slice e)] [hz : Sz P e sz] [hs : AtS v e α sz cv l s] [hE : ElT P e α sz cv av] [hd : Is (Nat.ble n d = false)] (h1 : 0 ≤ j) (h2 : j ≤ l.length)
    (hk : ∀ v', AtS v' e α sz cv (l.take j.toNat) s → VK C R n ((d, v') :: L) Γ K) : VK C R n L Γ (wp1 P all Q ⟨some d, .slice T x none (some hi) none, ty, pos, af, none⟩ K) := v_1by (y_subH h1 h2) (hk _ (by simpa using hs.sub hE.len (lo := 0) (hi := j.toNat) (by omega) (by omega)))
theorem v_tsubH {d T m : Nat} {ty : TypeId} {pos : String} {af : Array Edge} {x hi : Operand} {k' : IntKind} {j : Int} [hx : Ev L x v] [hhi : Ev L hi (.int k' j)] {Rs Rt : List Hp} {kl : Nat} {al : Bool} {pl : Pl} [ht : Und P T (.slice e)] [hz : Sz P e sz] [hs : AtS v e α sz cv l s] [hE : ElT P e α sz cv av] [hq : QP Q] [hd : Is (Nat.ble n d = false)] (h1 : 0 ≤ j) (h2 : j ≤ l.length)
    (hk : ∀ v', AtS v' e α sz cv (l.take j.toNat) s → VK C R n ((d, v') :: L) Γ (KA P all Q Rs kl Rt al pl)) : VK C R n L Γ (KT P all Q Rs kl Rt al m ⟨some d, .slice T x none (some hi) none, ty, pos, af, none⟩ pl) := v_tBy (y_subH h1 h2) (hk _ (by simpa using hs.sub hE.len (lo := 0) (hi := j.toNat) (by omega) (by omega)))
/-- a part of a list that is written out -/
class GetL (xs : List Value) (i : Nat) (u : outParam Value) : Prop where
  out : xs[i]? = some u
instance getL0 (u : Value) (xs : List Value) : GetL (u :: xs) 0 u := ⟨rfl⟩
instance getLS (u v : Value) (xs : List Value) (i : Nat) [h : GetL xs i u] : GetL (v :: xs) (i + 1) u := ⟨by simpa using h.out⟩
theorem y_elemF {t i fo : Nat} {p : Operand} {u : Value} [hp : Ev L p (.pointer (some ⟨slb v, slo v + i * sz + fo, none⟩))] [hs : AtS v e α sz cv l s] [hg : Seg R Γ s] [hE : ElT P e α sz cv av] [hsc : Sc P t] (h : i < l.length) [hu : GetL (cv l[i]) fo u] :
    Y P R L Γ (.load t p) u := ⟨fun C n a w _ _ _ _ _ kn iv => by
  have hw := hg.out C w iv
  rcases hs.out.2 with ⟨_, h0⟩ | ⟨b, off, cap, cur, et, fr, rfl, _⟩
  · omega
  · have hp' := hp.out _ a kn
    simp only [slb, slo] at hp'
    have hfo : fo < sz := hE.len l[i] ▸ (List.getElem?_eq_some_iff.1 hu.out).1
    have hc := cvs_get (cv := cv) hE.len l i _ (List.getElem?_eq_getElem h)
    have h2 : (cvs cv l)[i * sz + fo]? = some u := by
      have := hu.out
      rw [← hc, List.getElem?_take, if_pos hfo, List.getElem?_drop] at this
      exact this
    have := hs.out.cell hw (i * sz + fo) u h2
    rw [← Nat.add_assoc] at this
    simp [execOp, hp', Instr.loadAt, Instr.sureAddr, loadVar, hsc.out, this]⟩
/-- an element written -/
theorem v_set {K : Act → World → Prop} {t i : Nat} {x y : Operand} {z : α} {u : Value} {cs : List Value} {ca : Array Value} {ty : TypeId} {pos : String} {af : Array Edge} {Γ' : List Hp} [hx : Ev L x (.pointer (some ⟨slb v, slo v + i * sz, none⟩))] [hy : Ev L y u] [hs : OwnS v e α sz cv l s] [hE : ElT P e α sz cv av] [hz : Sz P t sz]
    [hcu : Cel u ca] [hca : LisA ca cs] [hc : Cvt cv cs z] [hdel : Del Γ s Γ'] (hi : i < l.length)
    (h : ∀ s', OwnS v e α sz cv (l.set i z) s' → (l.set i z).length = l.length → VK C R n L (s' :: Γ') K) : VK C R n L Γ (wp1 P all Q ⟨none, .store t x y, ty, pos, af, none⟩ K) := VK.mk fun a w k iv => wp1.mk (by
  have hzc := hc.out
  have hca' := hca.out
  subst hca'
  subst hzc
  have ip : Inv C R (s :: Γ') w := iv.perm (by simpa using hdel.out)
  obtain ⟨hl, ⟨_, h0, _⟩ | ⟨b, off, cap, cur, eb, rfl, rfl, hnc, hcm, hsz, hcur⟩⟩ := hs.out
  · omega
  · have hb := ip.own (b, .cells cur eb (0, 0)) (by simp)
    have hx' := hx.out n a k
    simp only [slb, slo] at hx'
    have hlen := hE.len z
    have hfit : off + i * sz + (cv z).length ≤ cur.size := by
      rw [hlen]
      have : (i + 1) * sz ≤ cap * sz := Nat.mul_le_mul_right _ (by omega)
      rw [Nat.add_mul] at this
      omega
    have hst := run_storeCells_at (P := P) b (off + i * sz) eb (cv z) 0 cur w hb (by simpa using hfit) (hE.one z)
    simp only [Nat.add_zero] at hst
    have hrun : (execOp a.eval ⟨none, .store t x y, ty, pos, af, none⟩).run P w = .ok .skip (w.setRow b (cur.toList.take (off + i * sz) ++ cv z ++ cur.toList.drop (off + i * sz + (cv z).length)).toArray) := by
      simp [execOp, Instr.storeAt, Instr.sureAddr, hx', hy.out n a k, storeVar, hcu.out, hz.out, hlen, hst]
    simp only [Region.wanted, if_true]
    refine .inl ?_
    simp only [Oper.wp, hrun, Oper.upon]
    refine (h [(b, .cells (cur.toList.take (off + i * sz) ++ cv z ++ cur.toList.drop (off + i * sz + (cv z).length)).toArray eb (0, 0))] ⟨?_⟩ (by simp)).out _ _ k.putNone (ip.upd (updHere Γ' b (.cells cur eb (0, 0))) (setRow_heap w b cur _ eb (0, 0) hb) (fun j hj => setRow_other w b j _ hj) (by simp) rfl rfl rfl rfl)
    refine ⟨by rw [cvs_len hE.len], .inr ⟨b, off, cap, _, eb, by simp, rfl, by simpa using hnc, hcm, ?_, ?_⟩⟩
    · have e0 : (cur.toList.take (off + i * sz)).length = off + i * sz := by rw [List.length_take, Array.length_toList]; omega
      rw [List.size_toArray, List.length_append, List.length_append, e0, List.length_drop, Array.length_toList (xs := cur)]
      omega
    · have h1 : i * sz + (cv z).length ≤ l.length * sz := by
        have : (i + 1) * sz ≤ l.length * sz := Nat.mul_le_mul_right _ (by omega)
        rw [hlen]
        rwa [Nat.add_mul, Nat.one_mul] at this
      have h2 : l.length * sz ≤ (cur.toList.drop off).length := by
        have := Nat.mul_le_mul_right sz hnc
        rw [List.length_drop, Array.length_toList (xs := cur)]
        omega
      rw [cvs_set hE.len l i z hi, ← hcur, List.length_set]
      have := take_mid h1 h2
      have e2 : (cur.toList.take off).length = off := by rw [List.length_take, Array.length_toList]; omega
      have e1 : cur.toList.take (off + i * sz) = cur.toList.take off ++ (cur.toList.drop off).take (i * sz) := by rw [List.take_add]
      have e3 : cur.toList.drop (off + i * sz + (cv z).length) = (cur.toList.drop off).drop (i * sz + (cv z).length) := by rw [List.drop_drop]; congr 1; omega
      rw [e1, e3, List.append_assoc, List.append_assoc, List.drop_left' e2]
      rw [hlen] at this ⊢
      simpa [List.append_assoc] using this)
end

/-! ### typed maps -/
class OwnM (b : Nat) (α β : outParam Type) (kv : outParam (α → Value)) (vv : outParam (β → Value)) (m : outParam (List (α × β))) (s : outParam Hp) : Prop where
  out : MpAt kv vv b m s
section
variable {P : Program} {C : Cx} {R : List Hp} {n : Nat} {all : Array Oper} {Q : Exit → Act → World → Prop} {L : Env} {Γ : List Hp} {rest : List Oper} {w : World} {α β : Type} [DecidableEq α] {kv : α → Value} {vv : β → Value} {m : List (α × β)} {s : Hp} {b : Nat}
/-- a key that is written out -/
class Kvt {α : Type} (kv : α → Value) (u : Value) (k : outParam α) : Prop where
  out : kv k = u
instance (q : IntKind) (x : Int) : Kvt (fun x => .int q x) (.int q x) x := ⟨rfl⟩
theorem y_lkS {T kt et : Nat} {x ix : Operand} {u : Value} {k : α} {v : β} [hx : Ev L x (.map (some b))] [hi : Ev L ix u] [ht : Und P T (.map kt et)] [hm : OwnM b α β kv vv m s] [hk : KeyT P kt α kv] [hu : Kvt kv u k] [hs : Seg R Γ s] (hg : mget m k = some v) :
    Y P R L Γ (.lookup T x ix true) (.tuple #[vv v, .bool true]) := by
  have e := hu.out
  subst e
  exact y_lookupS (kt := kt) (et := et) hm.out hg
theorem y_lkN {T kt et : Nat} {x ix : Operand} {u z : Value} {k : α} [hx : Ev L x (.map (some b))] [hi : Ev L ix u] [ht : Und P T (.map kt et)] [hm : OwnM b α β kv vv m s] [hk : KeyT P kt α kv] [hz : Zr P et z] [hu : Kvt kv u k] [hs : Seg R Γ s] (hg : mget m k = none) :
    Y P R L Γ (.lookup T x ix true) (.tuple #[z, .bool false]) := by
  have e := hu.out
  subst e
  exact y_lookupN (kt := kt) (et := et) hm.out hg
/-- a lookup: both ways -/
theorem v_lk {d T kt et : Nat} {x ix : Operand} {u z : Value} {k : α} {ty : TypeId} {pos : String} {af : Array Edge} [hx : Ev L x (.map (some b))] [hi : Ev L ix u] [ht : Und P T (.map kt et)] [hm : OwnM b α β kv vv m s] [hk : KeyT P kt α kv] [hz : Zr P et z] [hu : Kvt kv u k] [hs : Seg R Γ s] [hd : Is (Nat.ble n d = false)]
    (h1 : ∀ v, mget m k = some v → VK C R n ((d, .tuple #[vv v, .bool true]) :: L) Γ (KL P all Q rest)) (h2 : mget m k = none → VK C R n ((d, .tuple #[z, .bool false]) :: L) Γ (KL P all Q rest)) : VK C R n L Γ (KL P all Q (⟨some d, .lookup T x ix true, ty, pos, af, none⟩ :: rest)) := by
  cases hg : mget m k with
  | some v => exact v_by (y_lkS hg) (h1 v hg)
  | none => exact v_by (y_lkN hg) (h2 hg)
theorem v_1lk {K : Act → World → Prop} {d T kt et : Nat} {x ix : Operand} {u z : Value} {k : α} {ty : TypeId} {pos : String} {af : Array Edge} [hx : Ev L x (.map (some b))] [hi : Ev L ix u] [ht : Und P T (.map kt et)] [hm : OwnM b α β kv vv m s] [hk : KeyT P kt α kv] [hz : Zr P et z] [hu : Kvt kv u k] [hs : Seg R Γ s] [hd : Is (Nat.ble n d = false)]
    (h1 : ∀ v, mget m k = some v → VK C R n ((d, .tuple #[vv v, .bool true]) :: L) Γ K) (h2 : mget m k = none → VK C R n ((d, .tuple #[z, .bool false]) :: L) Γ K) : VK C R n L Γ (wp1 P all Q ⟨some d, .lookup T x ix true, ty, pos, af, none⟩ K) := by
  cases hg : mget m k with
  | some v => exact v_1by (y_lkS hg) (h1 v hg)
  | none => exact v_1by (y_lkN hg) (h2 hg)
theorem v_tlk {d T kt et i : Nat} {r : Pl} {x ix : Operand} {u z : Value} {k : α} {ty : TypeId} {pos : String} {af : Array Edge} {Rs Rt : List Hp} {kl : Nat} {al : Bool} [hx : Ev L x (.map (some b))] [hi : Ev L ix u] [ht : Und P T (.map kt et)] [hm : OwnM b α β kv vv m s] [hk : KeyT P kt α kv] [hz : Zr P et z] [hu : Kvt kv u k] [hs : Seg Rs [] s] [hd : Is (Nat.ble n d = false)] [hq : QP Q]
    (h1 : ∀ v, mget m k = some v → VK C R n ((d, .tuple #[vv v, .bool true]) :: L) Γ (KA P all Q Rs kl Rt al r)) (h2 : mget m k = none → VK C R n ((d, .tuple #[z, .bool false]) :: L) Γ (KA P all Q Rs kl Rt al r)) : VK C R n L Γ (KT P all Q Rs kl Rt al i ⟨some d, .lookup T x ix true, ty, pos, af, none⟩ r) := by
  cases hg : mget m k with
  | some v => exact v_tBy (y_lkS hg) (h1 v hg)
  | none => exact v_tBy (y_lkN hg) (h2 hg)
theorem v_tlkT {d T kt et i : Nat} {r : Pl} {x ix : Operand} {u z : Value} {k : α} {ty : TypeId} {pos : String} {af : Array Edge} {Rs Rt : List Hp} {kl : Nat} (hw : waitsFor all kl i = true) [hx : Ev L x (.map (some b))] [hi : Ev L ix u] [ht : Und P T (.map kt et)] [hm : OwnM b α β kv vv m s] [hk : KeyT P kt α kv] [hz : Zr P et z] [hu : Kvt kv u k] [hs : Seg Rt [] s] [hd : Is (Nat.ble n d = false)] [hq : QP Q]
    (h1 : ∀ v, mget m k = some v → VK C R n ((d, .tuple #[vv v, .bool true]) :: L) Γ (KA P all Q Rs kl Rt true r)) (h2 : mget m k = none → VK C R n ((d, .tuple #[z, .bool false]) :: L) Γ (KA P all Q Rs kl Rt true r)) : VK C R n L Γ (KT P all Q Rs kl Rt true i ⟨some d, .lookup T x ix true, ty, pos, af, none⟩ r) := by
  cases hg : mget m k with
  | some v => exact v_tByT (y_lkS hg) hw (h1 v hg)
  | none => exact v_tByT (y_lkN hg) hw (h2 hg)
instance yLenM (T kt et : TypeId) (x : Operand) [hx : Ev L x (.map (some b))] [ht : Und P T (.map kt et)] [hm : OwnM b α β kv vv m s] [hs : Seg R Γ s] : Y P R L Γ (.call ⟨.builtin .len, #[x], #[T]⟩) (.int .i64 m.length) := y_mlen hm.out
/-- a map's value that is written out -/
class Vvt {β : Type} (vv : β → Value) (u : Value) (v : outParam β) : Prop where
  out : vv v = u
instance (q : IntKind) (x : Int) : Vvt (fun x => .int q x) (.int q x) x := ⟨rfl⟩
theorem v_put {K : Act → World → Prop} {T kt et : Nat} {x ix y : Operand} {u uy : Value} {k : α} {v : β} {Γ' : List Hp} {ty : TypeId} {pos : String} {af : Array Edge} [hx : Ev L x (.map (some b))] [hi : Ev L ix u] [hy : Ev L y uy] [ht : Und P T (.map kt et)] [hm : OwnM b α β kv vv m s] [hk : KeyT P kt α kv] [hu : Kvt kv u k] [hv : Vvt vv uy v] [hdel : Del Γ s Γ']
    (h : ∀ s', OwnM b α β kv vv (mput m k v) s' → VK C R n L (s' :: Γ') K) : VK C R n L Γ (wp1 P all Q ⟨none, .mapUpdate T x ix y, ty, pos, af, none⟩ K) := by
  have e := hu.out
  have e2 := hv.out
  subst e; subst e2
  exact v_mapPut (kt := kt) (et := et) hm.out (fun s' h' => h s' ⟨h'⟩)
theorem v_del {K : Act → World → Prop} {T T2 kt et : Nat} {x ix : Operand} {u : Value} {k : α} {Γ' : List Hp} {ty : TypeId} {pos : String} {af : Array Edge} [hx : Ev L x (.map (some b))] [hi : Ev L ix u] [ht : Und P T (.map kt et)] [hm : OwnM b α β kv vv m s] [hk : KeyT P kt α kv] [hu : Kvt kv u k] [hdel : Del Γ s Γ']
    (h : ∀ s', OwnM b α β kv vv (mdel m k) s' → VK C R n L (s' :: Γ') K) : VK C R n L Γ (wp1 P all Q ⟨none, .call ⟨.builtin .delete, #[x, ix], #[T, T2]⟩, ty, pos, af, none⟩ K) := by
  have e := hu.out
  subst e
  exact v_mapDel (kt := kt) (et := et) hm.out (fun s' h' => h s' ⟨h'⟩)
end

section
variable {P : Program} {C : Cx} {R : List Hp} {n : Nat} {all : Array Oper} {Q : Exit → Act → World → Prop} {L : Env} {Γ : List Hp} {rest : List Oper} {w : World}
/-- a call that changes what is its own, and reads nothing else -/
theorem v_callO {K : Act → World → Prop} {d f : Nat} {xs : Array Operand} {ats : Array TypeId} {ty : TypeId} {pos : String} {af : Array Edge} {vs : List Value} {Γc Γr : List Hp} {Post : Value → List Hp → Prop}
    [hf : Fn1 P f] [hx : Evs L xs.toList vs] [hd : Is (Nat.ble n d = false)] {M : List Nat} {w0 : World} {D : Bool} (hs : SpecD D P f vs.toArray [] Γc Post) [hp : Pick Γ Γc Γr]
    (h : ∀ v Γ', Post v Γ' → VK ⟨M, w0, D⟩ R n ((d, v) :: L) (Γ' ++ Γr) K) : VK ⟨M, w0, D⟩ R n L Γ (wp1 P all Q ⟨some d, .call ⟨.value (.func f), xs, ats⟩, ty, pos, af, none⟩ K) :=
  v_call hs (fun _ _ hb => by cases hb) h
/-- a call that changes nothing -/
theorem v_callR {K : Act → World → Prop} {d f : Nat} {xs : Array Operand} {ats : Array TypeId} {ty : TypeId} {pos : String} {af : Array Edge} {vs : List Value} {Rc : List Hp} {Post : Value → List Hp → Prop}
    [hf : Fn1 P f] [hx : Evs L xs.toList vs] [hd : Is (Nat.ble n d = false)] {M : List Nat} {w0 : World} {D : Bool} (hs : SpecD D P f vs.toArray Rc [] Post) [hsub : Sub Rc R Γ]
    (h : ∀ v Γ', Post v Γ' → VK ⟨M, w0, D⟩ R n ((d, v) :: L) (Γ' ++ Γ) K) : VK ⟨M, w0, D⟩ R n L Γ (wp1 P all Q ⟨some d, .call ⟨.value (.func f), xs, ats⟩, ty, pos, af, none⟩ K) :=
  v_call hs (fun _ hb => by cases hb) h
end

section
variable {P : Program} {C : Cx} {R : List Hp} {n : Nat} {all : Array Oper} {Q : Exit → Act → World → Prop} {L : Env} {Γ : List Hp} {rest : List Oper} {w : World}
/-- the state at a cut, for some ghost x -/
def Cut (C : Cx) (R : List Hp) (n : Nat) {α : Type} (ts : List Nat) (vals : α → List Value) (Γs : α → List Hp) (ok : α → Prop) (a : Act) (w : World) : Prop :=
  ∃ x, ok x ∧ Kn n (ts.zip (vals x)) a ∧ Inv C R (Γs x) w
/-- a piece of code, and what follows it from one state that all its ways come to -/
theorem v_cut {x y : Code} {α : Type} (ts : List Nat) (vals : α → List Value) (Γs : α → List Hp) (ok : α → Prop) (h1 : VK C R n L Γ (KC P x (Exit.then (Cut C R n ts vals Γs ok) Q)))
    (h2 : ∀ x, ok x → VK C R n (zipE ts (vals x)) (Γs x) (KC P y Q)) : VK C R n L Γ (KC P (.seq x y) Q) := VK.mk fun a w k i => KC.mk (wp_seq (Code.wp_mono (fun e a w h => by
  cases e with
  | normal =>
    obtain ⟨x, h0, hk, hi⟩ := h
    exact ((h2 x h0).out a w (by rw [zipE_eq]; exact hk) hi).out
  | _ => exact h) ((h1.out a w k i).out)))
theorem v_cutB (id : Nat) {c y : Code} {α : Type} (ts : List Nat) (vals : α → List Value) (Γs : α → List Hp) (ok : α → Prop) (h1 : VK C R n L Γ (KC P (.block id c) (Exit.then (Cut C R n ts vals Γs ok) Q)))
    (h2 : ∀ x, ok x → VK C R n (zipE ts (vals x)) (Γs x) (KC P y Q)) : VK C R n L Γ (KC P (.seq (.block id c) y) Q) := v_cut ts vals Γs ok h1 h2
theorem v_cutR (id : Nat) {ops : Array Oper} {d : Bool} {c y : Code} {α : Type} (ts : List Nat) (vals : α → List Value) (Γs : α → List Hp) (ok : α → Prop) (h1 : VK C R n L Γ (KC P (.seq (.region id ops d) c) (Exit.then (Cut C R n ts vals Γs ok) Q)))
    (h2 : ∀ x, ok x → VK C R n (zipE ts (vals x)) (Γs x) (KC P y Q)) : VK C R n L Γ (KC P (.seq (.seq (.region id ops d) c) y) Q) := v_cut ts vals Γs ok h1 h2
theorem v_here {α : Type} {ts : List Nat} {vals : α → List Value} {Γs : α → List Hp} {ok : α → Prop} (x : α) {vs : List Value} {Γd : List Hp} [hg : Get L ts vs] (hv : vs = vals x) (hp : Pick Γ (Γs x) Γd) (h0 : ok x) :
    VK C R n L Γ (KE (Exit.then (Cut C R n ts vals Γs ok) Q) .normal) := VK.mk fun _ _ k i =>
  KE.mk ⟨x, h0, k.weaken (fun t v ht => hg.out.2 t v (hv ▸ ht)), i.take hp.out⟩
end

/-! ### the end of a function, what is kept found from behind -/
section
variable {P : Program} {R : List Hp} {n : Nat} {L : Env} {Γ : List Hp} {fn : Func} {Post : Value → List Hp → Prop} {M : List Nat} {w0 : World} {D : Bool}
theorem v_o0 (hf : fn.results = #[]) {Γk : List Hp} (h : Post (.tuple #[]) Γk) (hp : ∃ Γd, Pick Γ Γk Γd) : VK ⟨M, w0, D⟩ R n L Γ (KE (bodyPost P fn fun e w' => ∃ v Γ', e = .returned v ∧ Post v Γ' ∧ Inv ⟨M, w0, D⟩ R Γ' w') .ret) := by
  obtain ⟨_, hp⟩ := hp; exact v_out0 hf h
theorem v_o1 {r : ResultVar} {v : Value} (hf : fn.results = #[r]) [hr : Res P R L Γ r v] {Γk : List Hp} (h : Post v Γk) (hp : ∃ Γd, Pick Γ Γk Γd) : VK ⟨M, w0, D⟩ R n L Γ (KE (bodyPost P fn fun e w' => ∃ v Γ', e = .returned v ∧ Post v Γ' ∧ Inv ⟨M, w0, D⟩ R Γ' w') .ret) := by
  obtain ⟨_, hp⟩ := hp; exact v_out1 hf h
theorem v_o2 {r r2 : ResultVar} {v v2 : Value} (hf : fn.results = #[r, r2]) [hr : Res P R L Γ r v] [hr2 : Res P R L Γ r2 v2] {Γk : List Hp} (h : Post (.tuple #[v, v2]) Γk) (hp : ∃ Γd, Pick Γ Γk Γd) : VK ⟨M, w0, D⟩ R n L Γ (KE (bodyPost P fn fun e w' => ∃ v Γ', e = .returned v ∧ Post v Γ' ∧ Inv ⟨M, w0, D⟩ R Γ' w') .ret) := by
  obtain ⟨_, hp⟩ := hp; exact v_out2 hf h
theorem v_o3 {r r2 r3 : ResultVar} {v v2 v3 : Value} (hf : fn.results = #[r, r2, r3]) [hr : Res P R L Γ r v] [hr2 : Res P R L Γ r2 v2] [hr3 : Res P R L Γ r3 v3] {Γk : List Hp} (h : Post (.tuple #[v, v2, v3]) Γk) (hp : ∃ Γd, Pick Γ Γk Γd) : VK ⟨M, w0, D⟩ R n L Γ (KE (bodyPost P fn fun e w' => ∃ v Γ', e = .returned v ∧ Post v Γ' ∧ Inv ⟨M, w0, D⟩ R Γ' w') .ret) := by
  obtain ⟨_, hp⟩ := hp; exact v_out3 hf h
theorem v_o4 {r r2 r3 r4 : ResultVar} {v v2 v3 v4 : Value} (hf : fn.results = #[r, r2, r3, r4]) [hr : Res P R L Γ r v] [hr2 : Res P R L Γ r2 v2] [hr3 : Res P R L Γ r3 v3] [hr4 : Res P R L Γ r4 v4] {Γk : List Hp} (h : Post (.tuple #[v, v2, v3, v4]) Γk) (hp : ∃ Γd, Pick Γ Γk Γd) :
    VK ⟨M, w0, D⟩ R n L Γ (KE (bodyPost P fn fun e w' => ∃ v Γ', e = .returned v ∧ Post v Γ' ∧ Inv ⟨M, w0, D⟩ R Γ' w') .ret) := by
  obtain ⟨_, hp⟩ := hp; exact v_out4 hf h
end
end Go.SX
