/- Symbolic execution: slices (reading, indexing, slicing, append), strings, loops. Of whatever program. -/
import Derived.Test.YtedemhmlaodblabDoorSx
import Derived.Laws.AppendOwn
import Derived.Laws.Append
import Derived.Laws.Entries
import Derived.Laws.Slices
namespace Go.SX
set_option linter.unusedSimpArgs false
set_option linter.unusedVariables false
open Go

/-! ### lengths, indices, parts -/
section
variable {P : Program} {R : List Hp} {L : Env} {Γ : List Hp}
instance yLenSl (x : Operand) (T e : TypeId) (p : Option Addr) (n c : Nat) [h : Ev L x (.slice p n c)] [h2 : Und P T (.slice e)] : Y P R L Γ (.call ⟨.builtin .len, #[x], #[T]⟩) (.int .i64 n) := ⟨fun C n a w _ _ _ _ _ k i => by
  simp [execOp, resolve, invoke, builtin, Builtin.len_, h.out n a k, underlying, h2.out, goInt]⟩
instance yLenStr (x : Operand) (T : TypeId) (s : ByteArray) [h : Ev L x (.string s)] [h2 : Und P T .string] : Y P R L Γ (.call ⟨.builtin .len, #[x], #[T]⟩) (.int .i64 s.size) := ⟨fun C n a w _ _ _ _ _ k i => by
  simp [execOp, resolve, invoke, builtin, Builtin.len_, h.out n a k, underlying, h2.out, goInt]⟩
end

section
variable {P : Program} {C : Cx} {R : List Hp} {n : Nat} {all : Array Oper} {Q : Exit → Act → World → Prop} {L : Env} {Γ : List Hp} {rest : List Oper} {w : World}
/-- an operation that yields its value, on conditions -/
theorem v_by {d : Nat} {op : Op} {ty : TypeId} {pos : String} {af : Array Edge} {v : Value} (hy : Y P R L Γ op v) [hd : Is (Nat.ble n d = false)] (h : VK C R n ((d, v) :: L) Γ (KL P all Q rest)) :
    VK C R n L Γ (KL P all Q (⟨some d, op, ty, pos, af, none⟩ :: rest)) := v_val (hy := hy) h

theorem v_pickT {d : Nat} {ty : TypeId} {c x y : Operand} {v : Value} {pos : String} {af : Array Edge} [hc : Ev L c (.bool true)] [hx : Ev L x v] [hd : Is (Nat.ble n d = false)]
    (h : VK C R n ((d, v) :: L) Γ (KL P all Q rest)) : VK C R n L Γ (KL P all Q (⟨some d, .pick c x y, ty, pos, af, none⟩ :: rest)) := v_by (yPickT c x y v) h
theorem v_pickF {d : Nat} {ty : TypeId} {c x y : Operand} {v : Value} {pos : String} {af : Array Edge} [hc : Ev L c (.bool false)] [hy : Ev L y v] [hd : Is (Nat.ble n d = false)]
    (h : VK C R n ((d, v) :: L) Γ (KL P all Q rest)) : VK C R n L Γ (KL P all Q (⟨some d, .pick c x y, ty, pos, af, none⟩ :: rest)) := v_by (yPickF c x y v) h
/-- a choice that isn't known yet: both ways -/
theorem v_pickD {d t : Nat} {ty : TypeId} {x y : Operand} {p : Prop} [Decidable p] {pos : String} {af : Array Edge} [hl : Lk L t (.bool (decide p))] (h1 : p → VK C R n ((t, .bool true) :: L) Γ (KL P all Q (⟨some d, .pick (.tmp t) x y, ty, pos, af, none⟩ :: rest)))
    (h2 : ¬ p → VK C R n ((t, .bool false) :: L) Γ (KL P all Q (⟨some d, .pick (.tmp t) x y, ty, pos, af, none⟩ :: rest))) : VK C R n L Γ (KL P all Q (⟨some d, .pick (.tmp t) x y, ty, pos, af, none⟩ :: rest)) := VK.mk fun a w k i => by
  by_cases hp : p
  · exact (h1 hp).out a w (k.know hl (by simp [hp])) i
  · exact (h2 hp).out a w (k.know hl (by simp [hp])) i
theorem y_shl {t yt : TypeId} {x y : Operand} {k j : IntKind} {vx vy : Int} [hx : Ev L x (.int k vx)] [hy : Ev L y (.int j vy)]  (h0 : 0 ≤ vy)
    : Y P R L Γ (.binOp .shl t x y yt) (.int k (shlI k vx vy)) := (yBin (h3 := bi_shl h0) ..)
theorem v_shl {d : Nat} {t ty yt : TypeId} {x y : Operand} {k j : IntKind} {vx vy : Int} {pos : String} {af : Array Edge} [hx : Ev L x (.int k vx)] [hy : Ev L y (.int j vy)] [hd : Is (Nat.ble n d = false)] (h0 : 0 ≤ vy)
    (h : VK C R n ((d, .int k (shlI k vx vy)) :: L) Γ (KL P all Q rest)) : VK C R n L Γ (KL P all Q (⟨some d, .binOp .shl t x y yt, ty, pos, af, none⟩ :: rest)) := v_by (y_shl h0) h
theorem y_shr {t yt : TypeId} {x y : Operand} {k j : IntKind} {vx vy : Int} [hx : Ev L x (.int k vx)] [hy : Ev L y (.int j vy)]  (h0 : 0 ≤ vy)
    : Y P R L Γ (.binOp .shr t x y yt) (.int k (shrI k vx vy)) := (yBin (h3 := bi_shr h0) ..)
theorem v_shr {d : Nat} {t ty yt : TypeId} {x y : Operand} {k j : IntKind} {vx vy : Int} {pos : String} {af : Array Edge} [hx : Ev L x (.int k vx)] [hy : Ev L y (.int j vy)] [hd : Is (Nat.ble n d = false)] (h0 : 0 ≤ vy)
    (h : VK C R n ((d, .int k (shrI k vx vy)) :: L) Γ (KL P all Q rest)) : VK C R n L Γ (KL P all Q (⟨some d, .binOp .shr t x y yt, ty, pos, af, none⟩ :: rest)) := v_by (y_shr h0) h
theorem y_quo {t yt : TypeId} {x y : Operand} {k : IntKind} {vx vy : Int} [hx : Ev L x (.int k vx)] [hy : Ev L y (.int k vy)]  (h0 : vy ≠ 0)
    : Y P R L Γ (.binOp .quo t x y yt) (.int k (k.wrap (vx.tdiv vy))) := (yBin (h3 := bi_quo h0) ..)
theorem v_quo {d : Nat} {t ty yt : TypeId} {x y : Operand} {k : IntKind} {vx vy : Int} {pos : String} {af : Array Edge} [hx : Ev L x (.int k vx)] [hy : Ev L y (.int k vy)] [hd : Is (Nat.ble n d = false)] (h0 : vy ≠ 0)
    (h : VK C R n ((d, .int k (k.wrap (vx.tdiv vy))) :: L) Γ (KL P all Q rest)) : VK C R n L Γ (KL P all Q (⟨some d, .binOp .quo t x y yt, ty, pos, af, none⟩ :: rest)) := v_by (y_quo h0) h
theorem y_rem {t yt : TypeId} {x y : Operand} {k : IntKind} {vx vy : Int} [hx : Ev L x (.int k vx)] [hy : Ev L y (.int k vy)]  (h0 : vy ≠ 0)
    : Y P R L Γ (.binOp .rem t x y yt) (.int k (vx.tmod vy)) := (yBin (h3 := bi_rem h0) ..)
theorem v_rem {d : Nat} {t ty yt : TypeId} {x y : Operand} {k : IntKind} {vx vy : Int} {pos : String} {af : Array Edge} [hx : Ev L x (.int k vx)] [hy : Ev L y (.int k vy)] [hd : Is (Nat.ble n d = false)] (h0 : vy ≠ 0)
    (h : VK C R n ((d, .int k (vx.tmod vy)) :: L) Γ (KL P all Q rest)) : VK C R n L Γ (KL P all Q (⟨some d, .binOp .rem t x y yt, ty, pos, af, none⟩ :: rest)) := v_by (y_rem h0) h
theorem y_idx {T e b off m c sz : Nat} {x ix : Operand} {k : IntKind} {i : Int}  [hx : Ev L x (.slice (some ⟨b, off, none⟩) m c)] [hi : Ev L ix (.int k i)] [ht : Und P T (.slice e)] [hs : Sz P e sz] 
    (h0 : 0 ≤ i) (h1 : i < (m : Int)) : Y P R L Γ (.indexAddr T x ix) (.pointer (some ⟨b, off + i.toNat * sz, none⟩)) := ⟨fun C n a w _ _ _ _ _ k _ => by
    simp [execOp, Instr.indexAt, hx.out n a k, hi.out n a k, asIntOf, underlying, ht.out, h0, h1, hs.out, add_at]⟩
theorem v_idx {d T e b off m c sz : Nat} {x ix : Operand} {k : IntKind} {i : Int} {ty : TypeId} {pos : String} {af : Array Edge} [hx : Ev L x (.slice (some ⟨b, off, none⟩) m c)] [hi : Ev L ix (.int k i)] [ht : Und P T (.slice e)] [hs : Sz P e sz] [hd : Is (Nat.ble n d = false)]
    (h0 : 0 ≤ i) (h1 : i < (m : Int)) (h : VK C R n ((d, .pointer (some ⟨b, off + i.toNat * sz, none⟩)) :: L) Γ (KL P all Q rest)) : VK C R n L Γ (KL P all Q (⟨some d, .indexAddr T x ix, ty, pos, af, none⟩ :: rest)) :=
  v_by (y_idx h0 h1) h
theorem y_idxA {T e b off m sz : Nat} {x ix : Operand} {k : IntKind} {i : Int}  [hx : Ev L x (.pointer (some ⟨b, off, none⟩))] [hi : Ev L ix (.int k i)] [ht : Und P T (.array m e)] [hs : Sz P e sz] 
    (h0 : 0 ≤ i) (h1 : i < (m : Int)) : Y P R L Γ (.indexAddr T x ix) (.pointer (some ⟨b, off + i.toNat * sz, none⟩)) := ⟨fun C n a w _ _ _ _ _ k _ => by
    simp [execOp, Instr.indexAt, hx.out n a k, hi.out n a k, asIntOf, underlying, ht.out, h0, h1, hs.out, add_at, Instr.sureAddr]⟩
theorem v_idxA {d T e b off m sz : Nat} {x ix : Operand} {k : IntKind} {i : Int} {ty : TypeId} {pos : String} {af : Array Edge} [hx : Ev L x (.pointer (some ⟨b, off, none⟩))] [hi : Ev L ix (.int k i)] [ht : Und P T (.array m e)] [hs : Sz P e sz] [hd : Is (Nat.ble n d = false)]
    (h0 : 0 ≤ i) (h1 : i < (m : Int)) (h : VK C R n ((d, .pointer (some ⟨b, off + i.toNat * sz, none⟩)) :: L) Γ (KL P all Q rest)) : VK C R n L Γ (KL P all Q (⟨some d, .indexAddr T x ix, ty, pos, af, none⟩ :: rest)) :=
  v_by (y_idxA h0 h1) h
/-- a byte of a string -/
def bt (s : ByteArray) (i : Int) : Int := ((s.data.toList.getD i.toNat 0).toNat : Int)
theorem bt_lo (s : ByteArray) (i : Int) : 0 ≤ bt s i ∧ bt s i < 256 := by
  unfold bt; have := (s.data.toList.getD i.toNat 0).toNat_lt; omega
theorem y_idxS {T : Nat} {s : ByteArray} {x ix : Operand} {k : IntKind} {i : Int}  [hx : Ev L x (.string s)] [hi : Ev L ix (.int k i)] [ht : Und P T .string] 
    (h0 : 0 ≤ i) (h1 : i < (s.size : Int)) : Y P R L Γ (.index T x ix) (.int .u8 (bt s i)) := ⟨fun C n a w _ _ _ _ _ k _ => by
    have hlt : i.toNat < s.size := by omega
    have e : s[i.toNat]? = some s[i.toNat] := getElem?_pos ..
    have e2 : ((s[i.toNat]).toNat : Int) = bt s i := by
      unfold bt
      congr 1
      congr 1
      have : i.toNat < s.data.toList.length := by simpa using hlt
      rw [List.getD_eq_getElem?_getD, List.getElem?_eq_getElem this]
      rfl
    simp only [execOp, hx.out n a k, hi.out n a k, Instr.index, asIntOf, underlying, Sem.run_bind, Sem.run_pure, Result.andThen_ok, run_program, ht.out, h0, if_true, e, e2]⟩
theorem v_idxS {d T : Nat} {s : ByteArray} {x ix : Operand} {k : IntKind} {i : Int} {ty : TypeId} {pos : String} {af : Array Edge} [hx : Ev L x (.string s)] [hi : Ev L ix (.int k i)] [ht : Und P T .string] [hd : Is (Nat.ble n d = false)]
    (h0 : 0 ≤ i) (h1 : i < (s.size : Int)) (h : VK C R n ((d, .int .u8 (bt s i)) :: L) Γ (KL P all Q rest)) : VK C R n L Γ (KL P all Q (⟨some d, .index T x ix, ty, pos, af, none⟩ :: rest)) :=
  v_by (y_idxS h0 h1) h
theorem y_sliceS {T : Nat} {s : ByteArray} {x lo hi : Operand} {k j : IntKind} {l h' : Int}  [hx : Ev L x (.string s)] [hl : Ev L lo (.int k l)] [hh : Ev L hi (.int j h')] [ht : Und P T .string] 
    (h0 : 0 ≤ l) (h1 : l ≤ h') (h2 : h' ≤ (s.size : Int)) : Y P R L Γ (.slice T x (some lo) (some hi) none) (.string (s.extract l.toNat h'.toNat)) := ⟨fun C n a w _ _ _ _ _ k _ => by
    have h3 : 0 ≤ h' := by omega
    have h4 : ¬ (max h' 0 < l) := by omega
    simp [execOp, Instr.sliceAt, Instr.slice, Instr.sliceBounds, Instr.sliceBound, hx.out n a k, hl.out n a k, hh.out n a k, asIntOf, underlying, ht.out, h0, h2, h3, h4]⟩
theorem v_sliceS {d T : Nat} {s : ByteArray} {x lo hi : Operand} {k j : IntKind} {l h' : Int} {ty : TypeId} {pos : String} {af : Array Edge} [hx : Ev L x (.string s)] [hl : Ev L lo (.int k l)] [hh : Ev L hi (.int j h')] [ht : Und P T .string] [hd : Is (Nat.ble n d = false)]
    (h0 : 0 ≤ l) (h1 : l ≤ h') (h2 : h' ≤ (s.size : Int)) (h : VK C R n ((d, .string (s.extract l.toNat h'.toNat)) :: L) Γ (KL P all Q rest)) : VK C R n L Γ (KL P all Q (⟨some d, .slice T x (some lo) (some hi) none, ty, pos, af, none⟩ :: rest)) :=
  v_by (y_sliceS h0 h1 h2) h
theorem y_sliceSl {T : Nat} {s : ByteArray} {x lo : Operand} {k : IntKind} {l : Int}  [hx : Ev L x (.string s)] [hl : Ev L lo (.int k l)] [ht : Und P T .string] 
    (h0 : 0 ≤ l) (h1 : l ≤ (s.size : Int)) : Y P R L Γ (.slice T x (some lo) none none) (.string (s.extract l.toNat s.size)) := ⟨fun C n a w _ _ _ _ _ k _ => by
    simp [execOp, Instr.sliceAt, Instr.slice, Instr.sliceBounds, Instr.sliceBound, hx.out n a k, hl.out n a k, asIntOf, underlying, ht.out, h0, h1]⟩
theorem v_sliceSl {d T : Nat} {s : ByteArray} {x lo : Operand} {k : IntKind} {l : Int} {ty : TypeId} {pos : String} {af : Array Edge} [hx : Ev L x (.string s)] [hl : Ev L lo (.int k l)] [ht : Und P T .string] [hd : Is (Nat.ble n d = false)]
    (h0 : 0 ≤ l) (h1 : l ≤ (s.size : Int)) (h : VK C R n ((d, .string (s.extract l.toNat s.size)) :: L) Γ (KL P all Q rest)) : VK C R n L Γ (KL P all Q (⟨some d, .slice T x (some lo) none none, ty, pos, af, none⟩ :: rest)) :=
  v_by (y_sliceSl h0 h1) h
theorem y_sliceSh {T : Nat} {s : ByteArray} {x hi : Operand} {j : IntKind} {h' : Int}  [hx : Ev L x (.string s)] [hh : Ev L hi (.int j h')] [ht : Und P T .string] 
    (h1 : 0 ≤ h') (h2 : h' ≤ (s.size : Int)) : Y P R L Γ (.slice T x none (some hi) none) (.string (s.extract 0 h'.toNat)) := ⟨fun C n a w _ _ _ _ _ k _ => by
    simp [execOp, Instr.sliceAt, Instr.slice, Instr.sliceBounds, Instr.sliceBound, hx.out n a k, hh.out n a k, asIntOf, underlying, ht.out, h1, h2]⟩
theorem v_sliceSh {d T : Nat} {s : ByteArray} {x hi : Operand} {j : IntKind} {h' : Int} {ty : TypeId} {pos : String} {af : Array Edge} [hx : Ev L x (.string s)] [hh : Ev L hi (.int j h')] [ht : Und P T .string] [hd : Is (Nat.ble n d = false)]
    (h1 : 0 ≤ h') (h2 : h' ≤ (s.size : Int)) (h : VK C R n ((d, .string (s.extract 0 h'.toNat)) :: L) Γ (KL P all Q rest)) : VK C R n L Γ (KL P all Q (⟨some d, .slice T x none (some hi) none, ty, pos, af, none⟩ :: rest)) :=
  v_by (y_sliceSh h1 h2) h
end

/-! ### slices -/
/-- the slice value v has n elements of sz cells each, whose cells are xs; it lies in the segment s -/
def SlAt (e sz : Nat) (v : Value) (n : Nat) (xs : List Value) (s : Hp) : Prop :=
  xs.length = n * sz ∧ (((v = .slice none 0 0 ∨ ∃ a c, v = .slice (some a) 0 c) ∧ n = 0) ∨ ∃ b off cap cur et fr, v = .slice (some ⟨b, off, none⟩) n cap ∧ s = [(b, .cells cur et fr)] ∧ n ≤ cap ∧ cap ≤ maxLen ∧ off + n * sz ≤ cur.size ∧ (cur.toList.drop off).take (n * sz) = xs)
/-- .. and it is the call's own: it may grow -/
def SlOwn (e sz : Nat) (v : Value) (n : Nat) (xs : List Value) (s : Hp) : Prop :=
  xs.length = n * sz ∧ ((v = .slice none 0 0 ∧ n = 0 ∧ s = []) ∨ ∃ b off cap cur eb, v = .slice (some ⟨b, off, none⟩) n cap ∧ s = [(b, .cells cur eb (0, 0))] ∧ n ≤ cap ∧ cap ≤ maxLen ∧ off + cap * sz ≤ cur.size ∧ (cur.toList.drop off).take (n * sz) = xs)
theorem SlOwn.at {e sz : Nat} {v : Value} {n : Nat} {xs : List Value} {s : Hp} (h : SlOwn e sz v n xs s) : SlAt e sz v n xs s := by
  refine ⟨h.1, h.2.elim (fun ⟨h1, h2, _⟩ => .inl ⟨.inl h1, h2⟩) fun ⟨b, off, cap, cur, eb, h1, h2, h3, h4, h5, h6⟩ => .inr ⟨b, off, cap, cur, eb, (0, 0), h1, h2, h3, h4, ?_, h6⟩⟩
  have := Nat.mul_le_mul_right sz h3
  omega
theorem run_append_roomO {P : Program} {w : World} (t ty e : TypeId) (i : TypeInfo) (ht : P.underlying t = some (.slice e)) (hi : P.info? e = some i)
    (g o sLen sCap : Nat) (cur : Array Value) {eb : TypeId} (hg : w.heap[g]? = some (.cells cur eb (0, 0)))
    (a : Addr) (m c : Nat) (news : List Value) (hl : news.length = m * i.size) (hnews : ∀ j u, news[j]? = some u → w.cell? (a.add j) = some u) (h1 : ∀ u ∈ news, u.oneCell' = true)
    (hroom : sLen + m ≤ sCap) (hfit : o + sLen * i.size + news.length ≤ cur.size) :
    (Builtin.append_ #[t, t] ty #[.slice (some ⟨g, o, none⟩) sLen sCap, .slice (some a) m c]).run P w =
      .ok (.slice (some ⟨g, o, none⟩) (sLen + m) sCap) (w.setRow g (cur.toList.take (o + sLen * i.size) ++ news ++ cur.toList.drop (o + sLen * i.size + news.length)).toArray) := by
  have hf := run_firstCells_some (P := P) w i.size m a m c news hl hnews
  have hst := run_storeCells_at P g (o + sLen * i.size) eb news 0 cur w hg (by simpa using hfit) h1
  simp only [Nat.add_zero] at hst
  simp [Builtin.append_, run_underlying ht, sizeOf, typeInfo, hi, Builtin.lenOf, hroom, hf, add_at, hst]
theorem SlOwn.nil (e sz : Nat) : SlOwn e sz (.slice none 0 0) 0 [] [] := ⟨by simp, .inl ⟨rfl, rfl, rfl⟩⟩

/-- what a slice reads, through memory -/
theorem SlAt.cell {e sz : Nat} {n : Nat} {xs : List Value} {s : Hp} {b off cap : Nat} (h : SlAt e sz (.slice (some ⟨b, off, none⟩) n cap) n xs s) {w : World} (hw : ∀ x ∈ s, w.heap[x.1]? = some x.2) (j : Nat) (u : Value) (hu : xs[j]? = some u) : w.cell? ⟨b, off + j, none⟩ = some u := by
  rcases h.2 with ⟨_, h1⟩ | ⟨b', off', cap', cur, et, fr, h1, rfl, _, _, hsz, hxs⟩
  · have := h.1
    rw [h1, Nat.zero_mul] at this
    rw [List.eq_nil_of_length_eq_zero this] at hu
    simp at hu
  · simp at h1
    obtain ⟨⟨rfl, rfl⟩, rfl⟩ := h1
    rw [cell_of (hw (b, .cells cur et fr) (by simp)), ← hu, ← hxs]
    have hj : j < xs.length := by
      rcases Nat.lt_or_ge j xs.length with h | h
      · exact h
      · rw [List.getElem?_eq_none h] at hu; cases hu
    rw [h.1] at hj
    rw [List.getElem?_take, if_pos hj, List.getElem?_drop]
    simp

/-- the segment is known -/
class Seg (R Γ : List Hp) (s : Hp) : Prop where
  out : ∀ C w, Inv C R Γ w → ∀ x ∈ s, w.heap[x.1]? = some x.2
instance (priority := high) segOwn (R Γ : List Hp) (s : Hp) [h : SegIn s Γ] : Seg R Γ s := ⟨fun _ _ i x hx => i.own x (h.out x hx)⟩
instance segRo (R Γ : List Hp) (s : Hp) [h : SegIn s R] : Seg R Γ s := ⟨fun _ _ i x hx => i.ro x (h.out x hx)⟩
instance segNil (R Γ : List Hp) : Seg R Γ [] := ⟨fun _ _ _ x hx => by cases hx⟩


/-! ### an element read -/
section
variable {P : Program} {C : Cx} {R : List Hp} {n : Nat} {all : Array Oper} {Q : Exit → Act → World → Prop} {L : Env} {Γ : List Hp} {rest : List Oper} {w : World}
/-- a load of a variable of several cells, each known by its own cell -/
theorem loadCells_of {t m b off : Nat} {cs : List Value} (h : Ag P t m) (hl : cs.length = m) (hc : ∀ j u, cs[j]? = some u → w.cell? ⟨b, off + j, none⟩ = some u) : (loadVar t ⟨b, off, none⟩).run P w = .ok (.agg cs.toArray) w := by
  have := run_loadCells_list (P := P) (w := w) ⟨b, off, none⟩ cs (fun j u hu => by rw [add_at]; exact hc j u hu)
  rw [hl] at this
  simp [loadVar, h.out.1, h.out.2, this]
/-- element i of a slice: indexAddr and load are two operations; the pointer is what v_idx gives -/
theorem y_elem {t e sz m c b off k : Nat} {p : Operand} {xs ys : List Value} {s : Hp}  [hp : Ev L p (.pointer (some ⟨b, off + k * sz, none⟩))] [hg : Seg R Γ s]  [ha : Ag P t sz]
    (hs : SlAt e sz (.slice (some ⟨b, off, none⟩) m c) m xs s) (hy : (xs.drop (k * sz)).take sz = ys) (hk : k < m)
    : Y P R L Γ (.load t p) (.agg ys.toArray) := ⟨fun C n a w _ _ _ _ _ kn i => by
    have hw := hg.out C w i
    have hlen : ys.length = sz := by
      rw [← hy, List.length_take, List.length_drop, hs.1]
      have : (k + 1) * sz ≤ m * sz := Nat.mul_le_mul_right _ hk
      rw [Nat.add_mul] at this
      omega
    have := loadCells_of (P := P) (w := w) (b := b) (off := off + k * sz) ha hlen (fun j u hu => by
      rw [Nat.add_assoc]
      refine hs.cell hw _ u ?_
      have hj : j < ys.length := by
        rcases Nat.lt_or_ge j ys.length with h | h
        · exact h
        · rw [List.getElem?_eq_none h] at hu; cases hu
      rw [← hy, List.getElem?_take, if_pos (by omega), List.getElem?_drop] at hu
      exact hu)
    simp [execOp, hp.out _ a kn, Instr.loadAt, Instr.sureAddr, this]⟩
theorem v_elem {d t e sz m c b off k : Nat} {p : Operand} {xs ys : List Value} {s : Hp} {ty : TypeId} {pos : String} {af : Array Edge} [hp : Ev L p (.pointer (some ⟨b, off + k * sz, none⟩))] [hg : Seg R Γ s] [hd : Is (Nat.ble n d = false)] [ha : Ag P t sz]
    (hs : SlAt e sz (.slice (some ⟨b, off, none⟩) m c) m xs s) (hy : (xs.drop (k * sz)).take sz = ys) (hk : k < m)
    (h : VK C R n ((d, .agg ys.toArray) :: L) Γ (KL P all Q rest)) : VK C R n L Γ (KL P all Q (⟨some d, .load t p, ty, pos, af, none⟩ :: rest)) :=
  v_by (y_elem hs hy hk) h
theorem y_elem1 {t e m c b off k : Nat} {p : Operand} {xs : List Value} {y : Value} {s : Hp}  [hp : Ev L p (.pointer (some ⟨b, off + k * 1, none⟩))] [hg : Seg R Γ s]  [ha : Sc P t]
    (hs : SlAt e 1 (.slice (some ⟨b, off, none⟩) m c) m xs s) (hy : xs[k]? = some y)
    : Y P R L Γ (.load t p) (y) := ⟨fun C n a w _ _ _ _ _ kn i => by
    have hw := hg.out C w i
    have := hs.cell hw k y hy
    rw [Nat.mul_one] at hp
    simp [execOp, hp.out _ a kn, Instr.loadAt, Instr.sureAddr, loadVar, ha.out, this]⟩
theorem v_elem1 {d t e m c b off k : Nat} {p : Operand} {xs : List Value} {y : Value} {s : Hp} {ty : TypeId} {pos : String} {af : Array Edge} [hp : Ev L p (.pointer (some ⟨b, off + k * 1, none⟩))] [hg : Seg R Γ s] [hd : Is (Nat.ble n d = false)] [ha : Sc P t]
    (hs : SlAt e 1 (.slice (some ⟨b, off, none⟩) m c) m xs s) (hy : xs[k]? = some y)
    (h : VK C R n ((d, y) :: L) Γ (KL P all Q rest)) : VK C R n L Γ (KL P all Q (⟨some d, .load t p, ty, pos, af, none⟩ :: rest)) :=
  v_by (y_elem1 hs hy) h
/-! ### append -/
/-- zero and size of an element type, for what is made -/
class El (P : Program) (e : TypeId) (sz bytes : outParam Nat) : Prop where
  out : ∃ i z, P.info? e = some i ∧ i.zero = some z ∧ i.size = sz ∧ i.bytes = bytes ∧ z.cells.size = sz ∧ 0 < sz


theorem Inv.perm {Γ2 : List Hp} (h : Inv C R Γ w) (hp : Γ.flatten.Perm Γ2.flatten) : Inv C R Γ2 w := by
  have hk : (keys Γ).Perm (keys Γ2) := List.Perm.map Prod.fst hp
  exact ⟨h.os, h.tape, h.output, h.size, h.ro, fun x hx => h.own x (hp.mem_iff.2 hx), hk.nodup_iff.1 h.nodup, fun b hb => h.apart b (hk.mem_iff.2 hb), fun b hb => h.may b (hk.mem_iff.2 hb), h.frame, h.dr⟩
theorem Inv.drop {s : Hp} {Γ2 : List Hp} (h : Inv C R (s :: Γ2) w) : Inv C R Γ2 w := by
  have hk : keys (s :: Γ2) = s.map (·.1) ++ keys Γ2 := by simp [keys]
  refine ⟨h.os, h.tape, h.output, h.size, h.ro, fun x hx => h.own x (by simp only [List.flatten_cons, List.mem_append]; exact .inr hx), ?_, fun b hb => h.apart b (hk ▸ List.mem_append_right _ hb), fun b hb => h.may b (hk ▸ List.mem_append_right _ hb), h.frame, h.dr⟩
  have := h.nodup
  rw [hk, List.nodup_append] at this
  exact this.2.1

theorem append_law {T e sz bytes m k : Nat} {ty : TypeId} {v u : Value} {xs ys : List Value} {s t : Hp} [ht : Und P T (.slice e)] [he : El P e sz bytes] (hs : SlOwn e sz v m xs s) (hy : SlAt e sz u k ys t)
    (ws : ∀ x ∈ s, w.heap[x.1]? = some x.2) (wt : ∀ x ∈ t, w.heap[x.1]? = some x.2) (h1 : ∀ y ∈ ys, y.oneCell' = true) (hm : m + k ≤ maxLen) (hb : (m + k) * bytes ≤ 140737488355328) :
    ∃ v' w' s', (Builtin.append_ #[T, T] ty #[v, u]).run P w = .ok v' w' ∧ SlOwn e sz v' (m + k) (xs ++ ys) s' ∧
      ((s' = s ∧ w' = w) ∨ (∃ o, s' = [(w.heap.size, o)] ∧ w' = w.drew.alloc o) ∨ (∃ g o cs eb, s = [(g, o)] ∧ s' = [(g, .cells cs eb (0, 0))] ∧ w' = w.setRow g cs ∧ w'.heap[g]? = some (.cells cs eb (0, 0)))) := by
  obtain ⟨i, z, hi, hz, hsz, hby, hzs, hpos⟩ := he.out
  subst hsz
  subst hby
  have hsmall : m + k ≤ 9223372036854775807 := by simp only [maxLen] at hm; omega
  have hlen : (xs ++ ys).length = (m + k) * i.size := by rw [List.length_append, hs.1, hy.1, Nat.add_mul]
  rcases hy.2 with ⟨hu, rfl⟩ | ⟨b, off, cap, cur, et, fr, rfl, rfl, hkc, hcap, hfit, hrd⟩
  · have hys : ys = [] := List.eq_nil_of_length_eq_zero (by simpa using hy.1)
    subst hys
    refine ⟨v, w, s, ?_, by simpa using hs, .inl ⟨rfl, rfl⟩⟩
    rcases hu with rfl | ⟨a, c, rfl⟩ <;> rcases hs.2 with ⟨rfl, rfl, _⟩ | ⟨g, off, cap, cur, eb, rfl, _, hmc, _⟩
    · simp [Builtin.append_, run_underlying ht.out, sizeOf, typeInfo, hi, Builtin.lenOf, Builtin.firstCells]
    · simp [Builtin.append_, run_underlying ht.out, sizeOf, typeInfo, hi, Builtin.lenOf, Builtin.firstCells, hmc, storeCells]
    · simp [Builtin.append_, run_underlying ht.out, sizeOf, typeInfo, hi, Builtin.lenOf, Builtin.firstCells, loadCells, loadCellsFrom]
    · simp [Builtin.append_, run_underlying ht.out, sizeOf, typeInfo, hi, Builtin.lenOf, Builtin.firstCells, hmc, storeCells, loadCells, loadCellsFrom]
  · have hnews : ∀ j x, ys[j]? = some x → w.cell? ((⟨b, off, none⟩ : Addr).add j) = some x := fun j x hx => by rw [add_at]; exact hy.cell wt j x hx
    have grown : ∀ old, SlOwn e i.size (.slice (some ⟨w.heap.size, 0, none⟩) (m + k) (grownCap w (m + k) old e)) (m + k) (xs ++ ys)
        [(w.heap.size, .cells (xs.toArray ++ ys.toArray ++ Builtin.zeroCells z.cells (grownCap w (m + k) old e - (m + k))) e (0, 0))] := fun old => by
      have hge := grownCap_ge w (m + k) old e
      refine ⟨hlen, .inr ⟨_, _, _, _, _, rfl, rfl, hge, grownCap_le_maxLen w (m + k) old e hm, Nat.le_of_eq ?_, ?_⟩⟩
      · rw [Nat.zero_add]
        simp only [Array.size_append, List.size_toArray, size_zeroCells, hzs, hs.1, hy.1, ← Nat.add_mul]
        congr 1
        omega
      · simp only [Array.toList_append, List.append_assoc, List.drop_zero]
        rw [← List.append_assoc, ← hlen]
        exact List.take_left
    rcases hs.2 with ⟨rfl, rfl, rfl⟩ | ⟨g, off', cap', cur', eb, rfl, rfl, hmc, hcm, hcs, htk⟩
    · have hxs : xs = [] := List.eq_nil_of_length_eq_zero (by simpa using hs.1)
      subst hxs
      by_cases hk : k = 0
      · subst hk
        have hys : ys = [] := List.eq_nil_of_length_eq_zero (by simpa using hy.1)
        subst hys
        refine ⟨.slice none 0 0, w, [], ?_, by simpa using hs, .inl ⟨rfl, rfl⟩⟩
        simp [Builtin.append_, run_underlying ht.out, sizeOf, typeInfo, hi, Builtin.lenOf, Builtin.firstCells, loadCells, loadCellsFrom]
      · have hr := run_append_nil (P := P) w T ty e i z ht.out hi hz ⟨b, off, none⟩ k cap ys hy.1 hnews (by omega) (by omega) (by have hb := hb; simp only [Nat.zero_add] at hb; omega)
        have hg := grown 0
        simp only [Nat.zero_add, List.nil_append, Array.empty_append] at hg ⊢
        exact ⟨_, _, _, hr, hg, .inr (.inl ⟨_, rfl, rfl⟩)⟩
    · have hwg := ws (g, .cells cur' eb (0, 0)) (by simp)
      by_cases hroom : m + k ≤ cap'
      · have hfit' : off' + m * i.size + ys.length ≤ cur'.size := by
          have := Nat.mul_le_mul_right i.size hroom
          rw [Nat.add_mul] at this
          rw [hy.1]; omega
        have hr := run_append_roomO (P := P) (w := w) T ty e i ht.out hi g off' m cap' cur' hwg ⟨b, off, none⟩ k cap ys hy.1 hnews h1 hroom hfit'
        have hl1 : (cur'.toList.take (off' + m * i.size)).length = off' + m * i.size := by rw [List.length_take, Array.length_toList]; omega
        refine ⟨_, _, _, hr, ⟨hlen, .inr ⟨g, off', cap', _, eb, rfl, rfl, hroom, hcm, ?_, ?_⟩⟩, .inr (.inr ⟨g, _, _, _, rfl, rfl, rfl, setRow_heap w g cur' _ eb _ hwg⟩)⟩
        · simp only [List.size_toArray, List.length_append, List.length_take, List.length_drop, Array.length_toList]
          omega
        · simp only [List.append_assoc]
          have e1 : cur'.toList.take (off' + m * i.size) = cur'.toList.take off' ++ xs := by
            rw [List.take_add, htk]
          have e2 : (cur'.toList.take off').length = off' := by rw [List.length_take, Array.length_toList]; omega
          rw [e1, List.append_assoc, List.drop_left' e2, ← List.append_assoc, ← hlen]
          exact List.take_left
      · have holds : ∀ j x, xs[j]? = some x → w.cell? ((⟨g, off', none⟩ : Addr).add j) = some x := fun j x hx => by rw [add_at]; exact hs.at.cell ws j x hx
        have hr := run_append_grow (P := P) w T ty e i z ht.out hi hz ⟨g, off', none⟩ m cap' xs hs.1 holds ⟨b, off, none⟩ k cap ys hy.1 hnews (by omega) (by omega) (growslice_fits (by omega) hb)
        exact ⟨_, _, _, hr, grown cap', .inr (.inl ⟨_, rfl, rfl⟩)⟩

theorem v_append {K : Act → World → Prop} {d T e sz bytes m k : Nat} {x y : Operand} {ty : TypeId} {pos : String} {af : Array Edge} {v u : Value} {xs ys : List Value} {s t : Hp} {Γ' : List Hp} [hx : Ev L x v] [hy : Ev L y u] [ht : Und P T (.slice e)] [he : El P e sz bytes] [hd : Is (Nat.ble n d = false)]
    (hs : SlOwn e sz v m xs s) (hu : SlAt e sz u k ys t) [hdel : Del Γ s Γ'] [hseg : Seg R Γ t] (h1 : ∀ y ∈ ys, y.oneCell' = true) (hm : m + k ≤ maxLen) (hb : (m + k) * bytes ≤ 140737488355328)
    (h : ∀ v' s', SlOwn e sz v' (m + k) (xs ++ ys) s' → VK C R n ((d, v') :: L) (s' :: Γ') K) : VK C R n L Γ (wp1 P all Q ⟨some d, .call ⟨.builtin .append, #[x, y], #[T, T]⟩, ty, pos, af, none⟩ K) := VK.mk fun a w kn i => by
  have hd' : d < n := lt_of_ble hd.out
  have ip : Inv C R (s :: Γ') w := i.perm (by simpa using hdel.out)
  obtain ⟨v', w', s', hr, hs', hcase⟩ := append_law (P := P) (w := w) (T := T) (ty := ty) hs hu (fun x hx => ip.own x (by simp [hx])) (hseg.out C w i) h1 hm hb
  have hrun : (execOp a.eval ⟨some d, .call ⟨.builtin .append, #[x, y], #[T, T]⟩, ty, pos, af, none⟩).run P w = .ok (.value v') w' := by
    simp [execOp, resolve, invoke, builtin, hx.out n a kn, hy.out n a kn, hr]
  simp only [wp1, Region.wanted, if_true]
  refine .inl ?_
  simp only [Oper.wp, hrun, Oper.upon]
  refine (h v' s' hs').out _ _ (kn.put hd') ?_
  rcases hcase with ⟨rfl, rfl⟩ | ⟨o, rfl, rfl⟩ | ⟨g, o, cs, eb, rfl, rfl, rfl, hg⟩
  · exact ip
  · exact (Inv.drop ip).drew.new o
  · exact ip.upd (updHere Γ' g o) hg (fun j hj => setRow_other w g j cs hj) (by simp) rfl rfl rfl rfl

/-! ### literals of slices and structs -/
class EvP (L : Env) (ps : List (Nat × Operand)) (vs : outParam (List (Nat × Value))) : Prop where
  out : ∀ n a, Kn n L a → ps.map (fun p => (p.1, a.eval p.2)) = vs
instance evpNil (L : Env) : EvP L [] [] := ⟨fun _ _ _ => rfl⟩
instance evpCons (L : Env) (j : Nat) (x : Operand) (ps : List (Nat × Operand)) (v : Value) (vs : List (Nat × Value)) [h : Ev L x v] [h2 : EvP L ps vs] : EvP L ((j, x) :: ps) ((j, v) :: vs) :=
  ⟨fun n a k => by simp [h.out n a k, h2.out n a k]⟩
class BA (P : Program) (T : TypeId) (parts : List (Nat × Value)) (cs : outParam (Array Value)) : Prop where
  out : ∀ w, (Instr.build T parts.toArray).run P w = .ok (.agg cs) w
class BS (P : Program) (T : TypeId) (len : Nat) (parts : List (Nat × Value)) (cs : outParam (Array Value)) (e : outParam TypeId) : Prop where
  out : ∀ w, (Instr.buildSlice T len parts.toArray).run P w = .ok (.slice (some ⟨w.heap.size, 0, none⟩) len len) (w.alloc (.cells cs e (0, 0)))
theorem evp_run {ps : List (Nat × Operand)} {vs : List (Nat × Value)} {a : Act} (h : ps.map (fun p => (p.1, a.eval p.2)) = vs) : (ps.toArray.map fun (i, x) => (i, a.eval x)) = vs.toArray := by
  rw [← h]
  simp
instance yBuild (T : TypeId) (ps : List (Nat × Operand)) (vs : List (Nat × Value)) (cs : Array Value) [h : EvP L ps vs] [h2 : BA P T vs cs] : Y P R L Γ (.build T ps.toArray) (.agg cs) := ⟨fun C n a w _ _ _ _ _ k i => by
  simp only [execOp, evp_run (h.out n a k), Sem.run_bind, h2.out w, Result.andThen_ok, Sem.run_pure]⟩
theorem v_lit {K : Act → World → Prop} {d T len e : Nat} {ps : List (Nat × Operand)} {vs : List (Nat × Value)} {ty : TypeId} {pos : String} {af : Array Edge} {cs : Array Value} [hp : EvP L ps vs] [hb : BS P T len vs cs e] [hd : Is (Nat.ble n d = false)]
    (h : ∀ b, VK C R n ((d, .slice (some ⟨b, 0, none⟩) len len) :: L) ([(b, .cells cs e (0, 0))] :: Γ) K) : VK C R n L Γ (wp1 P all Q ⟨some d, .buildSlice T len ps.toArray, ty, pos, af, none⟩ K) := VK.mk fun a w kn i => by
  have hd' : d < n := lt_of_ble hd.out
  have hrun : (execOp a.eval ⟨some d, .buildSlice T len ps.toArray, ty, pos, af, none⟩).run P w = .ok (.value (.slice (some ⟨w.heap.size, 0, none⟩) len len)) (w.alloc (.cells cs e (0, 0))) := by
    simp only [execOp, evp_run (hp.out n a kn), Sem.run_bind, hb.out w, Result.andThen_ok, Sem.run_pure]
  simp only [wp1, Region.wanted, if_true]
  refine .inl ?_
  simp only [Oper.wp, hrun, Oper.upon]
  exact (h _).out _ _ (kn.put hd') (i.new _)

/-! ### loops -/
/-- the values of some slots -/
class Get (L : Env) (ts : List Nat) (vs : outParam (List Value)) : Prop where
  out : ts.length = vs.length ∧ ∀ t v, (ts.zip vs).lookup t = some v → L.lookup t = some v
instance getNil (L : Env) : Get L [] [] := ⟨rfl, fun t v h => by simp at h⟩
instance getCons (L : Env) (t : Nat) (ts : List Nat) (v : Value) (vs : List Value) [h : Lk L t v] [h2 : Get L ts vs] : Get L (t :: ts) (v :: vs) := ⟨by simp [h2.out.1], fun u x hx => by
  simp only [List.zip_cons_cons, List.lookup] at hx
  by_cases e : u = t
  · subst e; simp at hx; rw [← hx]; exact h.out
  · have e2 : (u == t) = false := by simpa using e
    simp only [e2] at hx
    exact h2.out.2 u x hx⟩
/-- the state at a loop's head, for some ghost x that measures less than m -/
def Again (C : Cx) (R : List Hp) (n : Nat) {α : Type} (ts : List Nat) (vals : α → List Value) (Γs : α → List Hp) (ok : α → Prop) (μ : α → Nat) (m : Nat) (a : Act) (w : World) : Prop :=
  ∃ x, ok x ∧ μ x < m ∧ Kn n (ts.zip (vals x)) a ∧ Inv C R (Γs x) w
theorem least (p : Nat → Prop) (m : Nat) (h : p m) : ∃ k, p k ∧ ∀ j, p j → k ≤ j := by
  induction m using Nat.strongRecOn with
  | _ m ih =>
    by_cases hm : ∃ j, j < m ∧ p j
    · obtain ⟨j, hj, hp⟩ := hm
      exact ih j hj hp
    · exact ⟨m, h, fun j hj => by
        rcases Nat.lt_or_ge j m with hlt | hge
        · exact absurd ⟨j, hlt, hj⟩ hm
        · exact hge⟩
theorem Inv.take {Γ2 Γd : List Hp} (i : Inv C R Γ w) (hp : Γ.flatten.Perm (Γ2.flatten ++ Γd.flatten)) : Inv C R Γ2 w := by
  have := i.perm (Γ2 := Γ2 ++ Γd) (by simpa using hp)
  have hk : keys (Γ2 ++ Γd) = keys Γ2 ++ keys Γd := keys_append _ _
  exact ⟨this.os, this.tape, this.output, this.size, this.ro, fun x hx => this.own x (by simp only [List.flatten_append, List.mem_append]; exact .inl hx), (List.nodup_append.1 (hk ▸ this.nodup)).1, fun b hb => this.apart b (hk ▸ List.mem_append_left _ hb), fun b hb => this.may b (hk ▸ List.mem_append_left _ hb), this.frame, this.dr⟩
/-- slots and their values -/
def zipE : List Nat → List Value → Env
  | t :: ts, v :: vs => (t, v) :: zipE ts vs
  | _, _ => []
theorem zipE_c (t : Nat) (ts : List Nat) (v : Value) (vs : List Value) : zipE (t :: ts) (v :: vs) = (t, v) :: zipE ts vs := rfl
theorem zipE_n (vs : List Value) : zipE [] vs = [] := rfl
theorem zipE_eq : ∀ (ts : List Nat) (vs : List Value), zipE ts vs = ts.zip vs
  | [], _ => rfl
  | _ :: _, [] => rfl
  | t :: ts, v :: vs => by simp [zipE, zipE_eq ts vs]
theorem v_loop {α : Type} (ts : List Nat) (vals : α → List Value) (Γs : α → List Hp) (ok : α → Prop) (μ : α → Nat) (x0 : α) {vs : List Value} {Γd : List Hp} {body : Code} [hg : Get L ts vs] (hv : vs = vals x0) (hp : Pick Γ (Γs x0) Γd) (h0 : ok x0)
    (round' : ∀ x, ok x → VK C R n (zipE ts (vals x)) (Γs x) (KC P body (Exit.then (Again C R n ts vals Γs ok μ (μ x)) Q))) : VK C R n L Γ (KC P (.loop body) Q) := VK.mk fun a w k i => by
  have round := fun x h => zipE_eq ts (vals x) ▸ round' x h
  let S : α → Act → World → Prop := fun x a w => ok x ∧ Kn n (ts.zip (vals x)) a ∧ Inv C R (Γs x) w
  have ex : ∀ a w, ∃ m, (∃ x, S x a w) → (∃ x, S x a w ∧ μ x = m) ∧ ∀ x, S x a w → m ≤ μ x := fun a w => by
    by_cases h : ∃ x, S x a w
    · obtain ⟨x, hx⟩ := h
      obtain ⟨m, ⟨y, hy, hm⟩, hl⟩ := least (fun m => ∃ y, S y a w ∧ μ y = m) (μ x) ⟨x, hx, rfl⟩
      exact ⟨m, fun _ => ⟨⟨y, hy, hm⟩, fun z hz => hl _ ⟨z, hz, rfl⟩⟩⟩
    · exact ⟨0, fun h' => absurd h' h⟩
  have hf := fun a => Classical.skolem.1 (ex a)
  obtain ⟨f, hf⟩ := Classical.skolem.1 hf
  refine KC.mk (wp_loop (fun a w => ∃ x, S x a w) f ⟨x0, h0, k.weaken (fun t v ht => hg.out.2 t v (hv ▸ ht)), i.take hp.out⟩ ?_)
  intro a w hx
  obtain ⟨⟨x, ⟨h1, h2, h3⟩, hm⟩, _⟩ := hf a w hx
  refine wp_mono (KC.out ((round x h1).out a w h2 h3)) ?_
  intro e a' w' he
  cases e with
  | normal =>
    obtain ⟨y, y1, y2, y3, y4⟩ := he
    refine ⟨⟨y, y1, y3, y4⟩, ?_⟩
    have := (hf a' w' ⟨y, y1, y3, y4⟩).2 y ⟨y1, y3, y4⟩
    omega
  | _ => exact he
/-- a round's end -/
theorem v_again {α : Type} {ts : List Nat} {vals : α → List Value} {Γs : α → List Hp} {ok : α → Prop} {μ : α → Nat} {m : Nat} (x : α) {vs : List Value} {Γd : List Hp} [hg : Get L ts vs] (hm : μ x < m) (hv : vs = vals x) (hp : Pick Γ (Γs x) Γd) (h0 : ok x) :
    VK C R n L Γ (KE (Exit.then (Again C R n ts vals Γs ok μ m) Q) .normal) := VK.mk fun _ _ k i =>
  KE.mk ⟨x, h0, hm, k.weaken (fun t v ht => hg.out.2 t v (hv ▸ ht)), i.take hp.out⟩
end
end Go.SX
