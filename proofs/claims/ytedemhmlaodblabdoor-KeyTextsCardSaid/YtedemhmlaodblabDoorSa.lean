/- Symbolic execution: arrays as lists. -/
import Derived.Test.YtedemhmlaodblabDoorSr
import Derived.ChangeKeysEq
namespace Go.SX
set_option linter.unusedSimpArgs false
set_option linter.unusedVariables false
open Go Go.RowKit
/-- the array in block b, as a slice of its own -/
def arr (b n : Nat) : Value := .slice (some ⟨b, 0, none⟩) n n
class LenIs {α : Type} (l : List α) (n : outParam Nat) : Prop where
  out : l.length = n
instance lenSet {α : Type} (l : List α) (i : Nat) (x : α) (n : Nat) [h : LenIs l n] : LenIs (l.set i x) n := ⟨by rw [List.length_set]; exact h.out⟩
instance lenRep {α : Type} (n : Nat) (x : α) : LenIs (List.replicate n x) n := ⟨List.length_replicate⟩
instance isCastL (m : Nat) : IsCast (@OfNat.ofNat Int m (@instOfNat m)) m := ⟨rfl⟩
section
variable {P : Program} {C : Cx} {R : List Hp} {n : Nat} {all : Array Oper} {Q : Exit → Act → World → Prop} {L : Env} {Γ : List Hp} {rest : List Oper} {w : World} {K : Act → World → Prop} {e sz : Nat} {α : Type} {cv : α → List Value} {av : α → Value} {l : List α} {s : Hp} {b m : Nat}
theorem OwnS.arr {T : Nat} (hE : ∀ x, (cv x).length = sz) (hl : l.length = m) (hm : m ≤ maxLen) : OwnS (arr b m) e α sz cv l [(b, .cells (cvs cv l).toArray T (0, 0))] := by
  have := OwnS.litA (e := e) (sz := sz) (cv := cv) (b := b) (eb := T) (cs := (cvs cv l).toArray) m l (by simp) (by simp [cvs_len hE, hl]) hm hl
  exact this
/-- what an array's variable holds -/
theorem arr_cells (hs : AtS (arr b m) e α sz cv l s) : l.length = m ∧ (m = 0 ∨ ∃ cur et fr, s = [(b, .cells cur et fr)] ∧ m ≤ maxLen ∧ m * sz ≤ cur.size ∧ cur.toList.take (m * sz) = cvs cv l) := by
  rcases hs.out.2 with ⟨h | ⟨a, c, h⟩, h0⟩ | ⟨b', off, cap, cur, et, fr, h, rfl, h1, h2, h3, h4⟩
  · simp [arr] at h
  · simp [arr] at h; omega
  · simp only [arr, Value.slice.injEq, Option.some.injEq, Addr.mk.injEq] at h
    obtain ⟨⟨rfl, rfl, _⟩, rfl, rfl⟩ := h
    refine ⟨rfl, .inr ⟨cur, et, fr, rfl, h2, by simpa using h3, by simpa using h4⟩⟩
theorem arr_len (hs : AtS (arr b m) e α sz cv l s) : l.length = m := (arr_cells hs).1
/-! ### variables -/
theorem v_boxA {d T : Nat} {x : Operand} {ty : TypeId} {pos : String} {af : Array Edge} [hx : Ev L x (.agg (cvs cv l).toArray)] [ht : Und P T (.array m e)] [hE : ElT P e α sz cv av] [hl : LenIs l m] [hm : Is (Nat.ble m 1000000 = true)] [hd : Is (Nat.ble n d = false)]
    (h : ∀ b s, OwnS (arr b m) e α sz cv l s → VK C R n ((d, .pointer (some ⟨b, 0, none⟩)) :: L) (s :: Γ) K) : VK C R n L Γ (wp1 P all Q ⟨some d, .box T x, ty, pos, af, none⟩ K) :=
  v_box fun b => h b _ (OwnS.arr hE.len hl.out (by have := Nat.le_of_ble_eq_true hm.out; unfold maxLen; omega))
/-- the zero of an array -/
class ZrA (P : Program) (T : TypeId) (m : outParam Nat) (e : outParam Nat) (α : outParam Type) (sz : outParam Nat) (cv : outParam (α → List Value)) (z : outParam α) : Prop where
  und : P.underlying T = some (.array m e)
  zr : ∀ w, (zeroValue T).run P w = .ok (.agg (cvs cv (List.replicate m z)).toArray) w
  le : m ≤ maxLen
theorem v_allocA {d T : Nat} {z : α} {ty : TypeId} {pos : String} {af : Array Edge} [ht : ZrA P T m e α sz cv z] [hE : ElT P e α sz cv av] [hd : Is (Nat.ble n d = false)]
    (h : ∀ b s, OwnS (arr b m) e α sz cv (List.replicate m z) s → VK C R n ((d, .pointer (some ⟨b, 0, none⟩)) :: L) (s :: Γ) K) : VK C R n L Γ (wp1 P all Q ⟨some d, .alloc T, ty, pos, af, none⟩ K) :=
  v_alloc (hz := ⟨ht.zr⟩) fun b => h b _ (OwnS.arr hE.len List.length_replicate ht.le)
/-! ### elements -/
instance (priority := high) ycIdxAr {T j : Nat} {x ix : Operand} {k : IntKind} {i : Int} [hx : Ev L x (.pointer (some ⟨b, 0, none⟩))] [hi : Ev L ix (.int k i)] [hj : IsCast i j] [ht : Und P T (.array m e)] [hs : AtS (arr b m) e α sz cv l s] [hz : Sz P e sz] : YC P R L Γ (.indexAddr T x ix) (j < l.length) (fun _ => .pointer (some ⟨slb (arr b m), slo (arr b m) + j * sz, none⟩)) := ⟨fun h => by
  have hl := arr_len hs
  have hjo := hj.out
  have := y_idxA (P := P) (R := R) (L := L) (Γ := Γ) (T := T) (x := x) (ix := ix) (k := k) (i := i) (e := e) (sz := sz) (b := b) (off := 0) (m := m) (by omega) (by omega)
  have e1 : i.toNat = j := by omega
  rw [e1] at this
  exact this⟩
instance ycIdxArC {T : Nat} {x ix : Operand} {k : IntKind} {i : Int} [hx : Ev L x (.pointer (some ⟨b, 0, none⟩))] [hi : Ev L ix (.int k i)] [ht : Und P T (.array m e)] [hs : AtS (arr b m) e α sz cv l s] [hz : Sz P e sz] : YC P R L Γ (.indexAddr T x ix) (0 ≤ i ∧ i < (l.length : Int)) (fun _ => .pointer (some ⟨slb (arr b m), slo (arr b m) + i.toNat * sz, none⟩)) := ⟨fun h => by
  have hl := arr_len hs
  exact y_idxA (P := P) (R := R) (L := L) (Γ := Γ) (T := T) (x := x) (ix := ix) (k := k) (i := i) (e := e) (sz := sz) (b := b) (off := 0) (m := m) (by omega) (by omega)⟩
/-- an element of an array's value -/
class PtE (P : Program) (e : TypeId) (α : Type) (sz : Nat) (cv : α → List Value) (av : α → Value) : Prop where
  out : ∀ (l : List α) (j : Nat) (h : j < l.length) (w : World), (part e (cvs cv l).toArray (j * sz)).run P w = .ok (av l[j]) w
theorem PtE.agg (hE : ∀ x, (cv x).length = sz) (ha : Ag P e sz) : PtE P e α sz cv (fun x => .agg (cv x).toArray) := ⟨fun l j h w => by
  have hg := cvs_get hE l j l[j] (List.getElem?_eq_getElem h)
  simp only [part, Sem.run_bind, ha.out.1, Result.andThen_ok, if_true, ha.out.2, Sem.run_pure]
  congr 2
  apply Array.ext'
  simp only [Array.toList_extract, List.toList_toArray]
  rw [← hg]
  simp [List.extract_eq_take_drop]⟩
theorem PtE.sc {f : α → Value} (ha : Sc P e) : PtE P e α 1 (fun x => [f x]) f := ⟨fun l j h w => by
  have hg := cvs_get (cv := fun x => [f x]) (sz := 1) (fun _ => rfl) l j l[j] (List.getElem?_eq_getElem h)
  have h2 : (cvs (fun x => [f x]) l)[j]? = some (f l[j]) := by
    have := congrArg (·[0]?) hg
    simpa [List.getElem?_take, List.getElem?_drop] using this
  obtain ⟨h4, h5⟩ := List.getElem?_eq_some_iff.1 h2
  simp [part, ha.out, h4, h5]⟩
instance (priority := high) ycIndexAr {T j : Nat} {x ix : Operand} {k : IntKind} {i : Int} [hx : Ev L x (.agg (cvs cv l).toArray)] [hi : Ev L ix (.int k i)] [hj : IsCast i j] [ht : Und P T (.array m e)] [hE : ElT P e α sz cv av] [hp : PtE P e α sz cv av] [hl : LenIs l m] [hz : Sz P e sz] : YC P R L Γ (.index T x ix) (j < l.length) (fun h => av l[j]) := ⟨fun h => ⟨fun C n a w _ _ _ _ _ kn iv => by
  have hjo := hj.out
  subst hjo
  have hll := hl.out
  have h1 : ((j : Int)) < (m : Int) := by omega
  have h0 : (0 : Int) ≤ (j : Int) := by omega
  have := hp.out l j h w
  simp only [execOp, hx.out n a kn, hi.out n a kn, Instr.index, asIntOf, underlying, Sem.run_bind, Sem.run_pure, Result.andThen_ok, run_program, ht.out, h0, h1, and_self, if_true, hz.out, Int.toNat_natCast, this]⟩⟩
/-! ### whole arrays -/
theorem run_loadA {T k : Nat} (hs : AtS (arr b m) e α sz cv l s) (ha : Ag P T k) (hk : k = m * sz) (hE : ∀ x, (cv x).length = sz) (hw : ∀ x ∈ s, w.heap[x.1]? = some x.2) : (loadVar T ⟨b, 0, none⟩).run P w = .ok (.agg (cvs cv l).toArray) w := by
  obtain ⟨hl, h⟩ := arr_cells hs
  have hlen := cvs_len hE l
  refine loadCells_of ha (by rw [hlen, hl, hk]) fun j u hu => ?_
  rcases h with rfl | ⟨cur, et, fr, rfl, _, h3, h4⟩
  · have : l = [] := List.eq_nil_of_length_eq_zero hl
    subst this; simp [cvs] at hu
  · rw [cell_of (hw (b, .cells cur et fr) (by simp)), ← hu, ← h4]
    have hj : j < (cvs cv l).length := (List.getElem?_eq_some_iff.1 hu).1
    rw [hlen, hl] at hj
    rw [List.getElem?_take, if_pos hj]; simp
instance (priority := high) yLoadA {T k : Nat} {p : Operand} [hp : Ev L p (.pointer (some ⟨b, 0, none⟩))] [ht : Und P T (.array m e)] [hs : AtS (arr b m) e α sz cv l s] [hg : Seg R Γ s] [hE : ElT P e α sz cv av] [ha : Ag P T k] [hk : Is (Nat.beq k (m * sz) = true)] : Y P R L Γ (.load T p) (.agg (cvs cv l).toArray) := ⟨fun C n a w _ _ _ _ _ kn iv => by
  have := run_loadA (P := P) (w := w) hs ha (Nat.eq_of_beq_eq_true hk.out) hE.len (hg.out C w iv)
  simp [execOp, hp.out n a kn, Instr.loadAt, Instr.sureAddr, this]⟩
instance (priority := high) resCellA {p T k : Nat} [hp : Lk L p (.pointer (some ⟨b, 0, none⟩))] [ht : Und P T (.array m e)] [hs : AtS (arr b m) e α sz cv l s] [hg : Seg R Γ s] [hE : ElT P e α sz cv av] [ha : Ag P T k] [hk : Is (Nat.beq k (m * sz) = true)] : Res P R L Γ (.cell p T) (.agg (cvs cv l).toArray) := ⟨fun C n a w kn iv => by
  have := run_loadA (P := P) (w := w) hs ha (Nat.eq_of_beq_eq_true hk.out) hE.len (hg.out C w iv)
  have hp' := (evTmp L p _).out n a kn
  simp only [Act.eval] at hp'
  simp [hp', asAddr, this]⟩
instance (priority := high) ySliceA {T : Nat} {p : Operand} [hp : Ev L p (.pointer (some ⟨b, 0, none⟩))] [ht : Und P T (.array m e)] [hs : AtS (arr b m) e α sz cv l s] [hz : Sz P e sz] : Y P R L Γ (.slice T p none none none) (arr b m) := ⟨fun C n a w _ _ _ _ _ kn iv => by
  have h0 : (if m = 0 then (⟨b, 0, none⟩ : Addr) else (⟨b, 0, none⟩ : Addr).add (0 * sz)) = ⟨b, 0, none⟩ := by split <;> simp [add_at]
  simp [execOp, Instr.sliceAt, hp.out n a kn, underlying, ht.out, Instr.sureAddr, asAddr, Instr.sliceBounds, hz.out, arr, add_at]⟩
theorem v_storeA {T k : Nat} {x y : Operand} {l' : List α} {ty : TypeId} {pos : String} {af : Array Edge} {Γ' : List Hp} [hx : Ev L x (.pointer (some ⟨b, 0, none⟩))] [hy : Ev L y (.agg (cvs cv l').toArray)] [ht : Und P T (.array m e)] [hs : OwnS (arr b m) e α sz cv l s] [hE : ElT P e α sz cv av] [hz : Sz P T k] [hk : Is (Nat.beq k (m * sz) = true)] [hl : LenIs l' m] [hdel : Del Γ s Γ']
    (h : ∀ s', OwnS (arr b m) e α sz cv l' s' → VK C R n L (s' :: Γ') K) : VK C R n L Γ (wp1 P all Q ⟨none, .store T x y, ty, pos, af, none⟩ K) := VK.mk fun a w kn iv => wp1.mk (by
  have ip : Inv C R (s :: Γ') w := iv.perm (by simpa using hdel.out)
  have hk' := Nat.eq_of_beq_eq_true hk.out
  obtain ⟨hlen, ⟨h1, _⟩ | ⟨b', off, cap, cur, eb, h1, rfl, hnc, hcm, hsz, hcur⟩⟩ := hs.out
  · simp [arr] at h1
  · simp only [arr, Value.slice.injEq, Option.some.injEq, Addr.mk.injEq] at h1
    obtain ⟨⟨rfl, rfl, _⟩, hml, rfl⟩ := h1
    have hb := ip.own (b, .cells cur eb (0, 0)) (by simp)
    have hl' := cvs_len hE.len l'
    have hll := hl.out
    have hfit : 0 + (cvs cv l').length ≤ cur.size := by rw [hl', hll]; omega
    have hst := run_storeCells_at (P := P) b 0 eb (cvs cv l') 0 cur w hb (by simpa using hfit) (fun u hu => by
      obtain ⟨x, _, hx⟩ := List.mem_flatMap.1 hu
      exact hE.one x u hx)
    simp only [Nat.zero_add] at hst
    have hrun : (execOp a.eval ⟨none, .store T x y, ty, pos, af, none⟩).run P w = .ok .skip (w.setRow b (cvs cv l' ++ cur.toList.drop (cvs cv l').length).toArray) := by
      simp [execOp, Instr.storeAt, Instr.sureAddr, hx.out n a kn, hy.out n a kn, storeVar, Value.cells, hz.out, hl', hll, hk', hst]
    simp only [Region.wanted, if_true]
    refine .inl ?_
    simp only [Oper.wp, hrun, Oper.upon]
    refine (h [(b, .cells (cvs cv l' ++ cur.toList.drop (cvs cv l').length).toArray eb (0, 0))] ⟨?_⟩).out _ _ kn.putNone (ip.upd (updHere Γ' b (.cells cur eb (0, 0))) (setRow_heap w b cur _ eb (0, 0) hb) (fun j hj => setRow_other w b j _ hj) (by simp) rfl rfl rfl rfl)
    refine ⟨hl', .inr ⟨b, 0, m, _, eb, by simp [arr, hll], rfl, by omega, hcm, ?_, ?_⟩⟩
    · simp only [List.size_toArray, List.length_append, List.length_drop, Array.length_toList, hl', hll]; omega
    · rw [List.drop_zero, ← hl']; exact List.take_left)
/-! ### equality -/
theorem eqItems_of [DecidableEq α] {d : Nat} (hp : PtE P e α sz cv av) (he : ∀ x y, EqV P d e (av x) (av y) (x = y)) (l l' : List α) (w : World) : ∀ (is : List Nat), (∀ i ∈ is, i < l.length ∧ i < l'.length) → (Op.eqItems d e sz (cvs cv l).toArray (cvs cv l').toArray is).run P w = .ok (decide (∀ i ∈ is, l[i]? = l'[i]?)) w
  | [], _ => by simp [Op.eqItems]
  | i :: is, h => by
    obtain ⟨h1, h2⟩ := h i (by simp)
    have ih := eqItems_of hp he l l' w is fun j hj => h j (by simp [hj])
    simp only [Op.eqItems, Sem.run_bind, hp.out l i h1, hp.out l' i h2, he _ _ w, Result.andThen_ok]
    by_cases hc : l[i] = l'[i]
    · simp [hc, ih, List.getElem?_eq_getElem h1, List.getElem?_eq_getElem h2]
    · simp [hc, List.getElem?_eq_getElem h1, List.getElem?_eq_getElem h2]
theorem EqV.iff {d t : Nat} {x y : Value} {p q : Prop} [Decidable p] [Decidable q] (h : EqV P d t x y p) (hpq : p ↔ q) : EqV P d t x y q := fun w => by
  rw [h w]; congr 1; exact decide_eq_decide.2 hpq
theorem eqvArr [DecidableEq α] {d T : Nat} (hu : P.underlying T = some (.array m e)) (hi : (P.info? e).isSome = true) (hc : P.cellsOf e = sz) (hp : PtE P e α sz cv av) (he : ∀ x y, EqV P d e (av x) (av y) (x = y)) (l l' : List α) (h1 : l.length = m) (h2 : l'.length = m) : EqV P (d + 1) T (.agg (cvs cv l).toArray) (.agg (cvs cv l').toArray) (l = l') := fun w => by
  obtain ⟨i, hi⟩ := Option.isSome_iff_exists.1 hi
  rw [run_equalIn_array w d _ _ hu hi, hc, eqItems_of hp he l l' w (List.range m) (fun j hj => by rw [List.mem_range] at hj; omega)]
  congr 1
  refine decide_eq_decide.2 ⟨fun h => List.ext_getElem? fun j => ?_, fun h => by subst h; simp⟩
  rcases Nat.lt_or_ge j m with hj | hj
  · exact h j (List.mem_range.2 hj)
  · rw [List.getElem?_eq_none (by omega), List.getElem?_eq_none (by omega)]
end
end Go.SX
