/- Symbolic execution: maps. -/
import Derived.Test.YtedemhmlaodblabDoorSd
import Derived.MapKept
import Derived.Carry
namespace Go.SX
set_option linter.unusedSimpArgs false
set_option linter.unusedVariables false
open Go Go.MapKept

/-! ### maps as lists of pairs, in the order in which the keys came -/
theorem eraseIdx_map' {α β : Type} (f : α → β) : ∀ (l : List α) (j : Nat), (l.map f).eraseIdx j = (l.eraseIdx j).map f
  | [], _ => rfl
  | _ :: _, 0 => rfl
  | x :: l, j + 1 => by simp [eraseIdx_map' f l j]
section
variable {α β : Type} [DecidableEq α]
def mget : List (α × β) → α → Option β
  | [], _ => none
  | (x, v) :: r, k => if k = x then some v else mget r k
def mput : List (α × β) → α → β → List (α × β)
  | [], k, v => [(k, v)]
  | (x, u) :: r, k, v => if k = x then (k, v) :: r else (x, u) :: mput r k v
def mdel (m : List (α × β)) (k : α) : List (α × β) := m.filter fun p => decide (p.1 ≠ k)
theorem mget_mput (m : List (α × β)) (k j : α) (v : β) : mget (mput m k v) j = if j = k then some v else mget m j := by
  induction m with
  | nil => simp [mput, mget]
  | cons p r ih =>
    obtain ⟨x, u⟩ := p
    by_cases h : k = x
    · subst h
      by_cases h2 : j = k
      · simp [mput, mget, h2]
      · simp [mput, mget, h2]
    · by_cases h2 : j = x
      · subst h2
        have : ¬ j = k := fun e => h e.symm
        simp [mput, mget, h, this]
      · simp [mput, mget, h, h2, ih]
theorem mget_mdel (m : List (α × β)) (k j : α) : mget (mdel m k) j = if j = k then none else mget m j := by
  induction m with
  | nil => simp [mdel, mget]
  | cons p r ih =>
    obtain ⟨x, u⟩ := p
    unfold mdel at ih ⊢
    by_cases h : x = k
    · subst h
      by_cases h2 : j = x
      · simp [h2] at ih ⊢; exact ih
      · simp [h2, mget] at ih ⊢; exact ih
    · by_cases h2 : j = x
      · subst h2; simp [h, mget]
      · simp [h, h2, mget] at ih ⊢; exact ih
theorem mget_none {m : List (α × β)} {k : α} : mget m k = none ↔ k ∉ m.map (·.1) := by
  induction m with
  | nil => simp [mget]
  | cons p r ih =>
    obtain ⟨x, u⟩ := p
    by_cases h : k = x
    · simp [mget, h]
    · simp [mget, h, ih]
theorem mput_keys {m : List (α × β)} {k : α} {v : β} (h : k ∈ m.map (·.1)) : (mput m k v).map (·.1) = m.map (·.1) := by
  induction m with
  | nil => simp at h
  | cons p r ih =>
    obtain ⟨x, u⟩ := p
    by_cases e : k = x
    · simp [mput, e]
    · have : k ∈ r.map (·.1) := by simpa [e] using h
      simp [mput, e, ih this]
theorem mput_new {m : List (α × β)} {k : α} {v : β} (h : k ∉ m.map (·.1)) : mput m k v = m ++ [(k, v)] := by
  induction m with
  | nil => rfl
  | cons p r ih =>
    obtain ⟨x, u⟩ := p
    have h1 : ¬ k = x := fun e => h (by simp [e])
    have h2 : k ∉ r.map (·.1) := fun e => h (by simp only [List.map_cons, List.mem_cons]; exact .inr e)
    simp [mput, h1, ih h2]
theorem mput_nodup {m : List (α × β)} {k : α} {v : β} (h : (m.map (·.1)).Nodup) : ((mput m k v).map (·.1)).Nodup := by
  by_cases hk : k ∈ m.map (·.1)
  · rw [mput_keys hk]; exact h
  · rw [mput_new hk]
    simp only [List.map_append, List.map_cons, List.map_nil]
    rw [List.nodup_append]
    exact ⟨h, by simp, fun a ha b hb => by simp at hb; subst hb; exact fun e => hk (e ▸ ha)⟩
theorem mdel_nodup {m : List (α × β)} {k : α} (h : (m.map (·.1)).Nodup) : ((mdel m k).map (·.1)).Nodup := h.sublist (List.filter_sublist.map _)
theorem mdel_none {m : List (α × β)} {k : α} (h : k ∉ m.map (·.1)) : mdel m k = m := by
  unfold mdel
  rw [List.filter_eq_self]
  intro p hp
  simp only [ne_eq, decide_eq_true_eq]
  exact fun e => h (List.mem_map.2 ⟨p, hp, e⟩)
theorem mdel_erase {k : α} : ∀ {m : List (α × β)} {j : Nat}, (m.map (·.1)).Nodup → (m.map (·.1))[j]? = some k → mdel m k = m.eraseIdx j
  | [], j, _, h => by simp at h
  | p :: r, 0, hn, h => by
    simp only [List.map_cons, List.getElem?_cons_zero, Option.some.injEq] at h
    simp only [List.map_cons, List.nodup_cons, h] at hn
    have := mdel_none (m := r) (k := k) hn.1
    unfold mdel at this ⊢
    rw [List.filter_cons_of_neg (by simp [h]), this]
    rfl
  | p :: r, j + 1, hn, h => by
    simp only [List.map_cons, List.getElem?_cons_succ] at h
    simp only [List.map_cons, List.nodup_cons] at hn
    have hp : p.1 ≠ k := fun e => hn.1 (e ▸ List.mem_of_getElem? h)
    have := mdel_erase hn.2 h
    unfold mdel at this ⊢
    rw [List.filter_cons_of_pos (by simp [hp]), this]
    rfl
/-- where a key stands -/
def findE (k : α) : List α → List MapEntry → Nat → Option (Nat × Value)
  | x :: xs, e :: es, i => if k = x then some (i, e.val) else findE k xs es (i + 1)
  | _, _, _ => none
end

/-- keys of type kt, as α -/
class KeyT (P : Program) (kt : TypeId) (α : Type) [DecidableEq α] (kv : outParam (α → Value)) : Prop where
  chk : ∀ e x w, (Instr.checkKey e 10000 kt (kv x)).run P w = .ok () w
  same : ∀ x, Instr.sameBits 10000 (kv x) (kv x) = true
  find : ∀ k (ks : List α) (es : List MapEntry) w, es.map (·.key) = ks.map kv → (Instr.findKey kt (kv k) es).run P w = .ok (findE k ks es 0) w

theorem KeyT.int {P : Program} {kt : TypeId} {q : IntKind} (hu : P.underlying kt = some (.int q)) : KeyT P kt Int (fun x => .int q x) where
  chk e x w := by
    show (Instr.checkKey e (9999 + 1) kt (.int q x)).run P w = _
    rw [Instr.checkKey]
    simp [run_underlying hu]
  same x := by
    show Instr.sameBits (9999 + 1) (.int q x) (.int q x) = true
    rw [Instr.sameBits]
    simp
  find k ks es w h := by
    have key : ∀ (ks : List Int) (es : List MapEntry) (i : Nat), es.map (·.key) = ks.map (fun x => Value.int q x) → Instr.findNow (.int q) (.int q k) es i = some (findE k ks es i) := by
      intro ks
      induction ks with
      | nil => intro es i h; cases es with
        | nil => rfl
        | cons => simp at h
      | cons x xs ih => intro es i h; cases es with
        | nil => simp at h
        | cons e es =>
          simp only [List.map_cons, List.cons.injEq] at h
          by_cases hx : k = x
          · subst hx; simp [Instr.findNow, Instr.sameNow, h.1, findE]
          · have hb : (k == x) = false := by simpa using hx
            simp [Instr.findNow, Instr.sameNow, h.1, findE, hx, hb, ih es (i + 1) h.2]
    exact run_findKey hu (key ks es 0 h)
theorem KeyT.agg {P : Program} {kt : TypeId} {α : Type} [DecidableEq α] {fs : Array Field} {kv : α → Value} (hu : P.underlying kt = some (.struct fs)) (hv : ∀ x, ∃ cs, kv x = .agg cs)
    (chk : ∀ e x w, (Instr.checkKey e 10000 kt (kv x)).run P w = .ok () w) (same : ∀ x, Instr.sameBits 10000 (kv x) (kv x) = true) (eq : ∀ x y w, (Op.equal kt (kv x) (kv y)).run P w = .ok (decide (x = y)) w) : KeyT P kt α kv where
  chk := chk
  same := same
  find k ks es w h := by
    have key : ∀ (ks : List α) (es : List MapEntry) (i : Nat) w, es.map (·.key) = ks.map kv → (Instr.findAsking kt (kv k) es i).run P w = .ok (findE k ks es i) w := by
      intro ks
      induction ks with
      | nil => intro es i w h; cases es with
        | nil => rfl
        | cons => simp at h
      | cons x xs ih => intro es i w h; cases es with
        | nil => simp at h
        | cons e es =>
          simp only [List.map_cons, List.cons.injEq] at h
          by_cases hx : k = x
          · simp [Instr.findAsking, h.1, eq, findE, hx]
          · simp [Instr.findAsking, h.1, eq, findE, hx, ih es (i + 1) w h.2]
    cases es with
    | nil =>
      cases ks with
      | nil => simp [Instr.findKey, run_underlying hu, Instr.findNow, findE]
      | cons => simp at h
    | cons e es =>
      have hn : Instr.findNow (.struct fs) (kv k) (e :: es) 0 = none := by
        obtain ⟨cs, hc⟩ := hv k
        simp [Instr.findNow, Instr.sameNow]
      simp [Instr.findKey, run_underlying hu, hn, key ks (e :: es) 0 w h]

/-- block b is a map; m are its pairs -/
def MpAt {α β : Type} (kv : α → Value) (vv : β → Value) (b : Nat) (m : List (α × β)) (s : Hp) : Prop :=
  ∃ es clk, s = [(b, .map es clk)] ∧ es.toList.map (·.key) = m.map (fun p => kv p.1) ∧ es.toList.map (·.val) = m.map (fun p => vv p.2) ∧ (m.map (·.1)).Nodup ∧ (es.toList.map (·.born)).Pairwise (· < ·) ∧ (∀ e ∈ es.toList, e.born < clk)
theorem MpAt.new {α β : Type} {kv : α → Value} {vv : β → Value} (b : Nat) : MpAt kv vv b [] [(b, .map #[] 0)] := ⟨#[], 0, rfl, by simp, by simp, by simp, by simp, by simp⟩

theorem findE_spec {α β : Type} [DecidableEq α] {vv : β → Value} {k : α} : ∀ (m : List (α × β)) (es : List MapEntry) (i : Nat), es.map (·.val) = m.map (fun p => vv p.2) →
    (∀ v, mget m k = some v → ∃ j, findE k (m.map (·.1)) es i = some (i + j, vv v) ∧ (m.map (·.1))[j]? = some k ∧ mput m k = fun u => m.set j (k, u)) ∧ (mget m k = none → findE k (m.map (·.1)) es i = none) := by
  intro m
  induction m with
  | nil => intro es i h; exact ⟨fun v hv => by simp [mget] at hv, fun _ => by cases es <;> rfl⟩
  | cons p r ih =>
    intro es i h
    obtain ⟨x, u⟩ := p
    cases es with
    | nil => simp at h
    | cons e es =>
      simp only [List.map_cons, List.cons.injEq] at h
      by_cases hx : k = x
      · subst hx
        refine ⟨fun v hv => ⟨0, ?_, by simp, by funext u; simp [mput]⟩, fun hv => by simp [mget] at hv⟩
        simp [mget] at hv
        simp [findE, h.1, hv]
      · obtain ⟨h1, h2⟩ := ih es (i + 1) h.2
        refine ⟨fun v hv => ?_, fun hv => ?_⟩
        · simp [mget, hx] at hv
          obtain ⟨j, hj, hk, hp⟩ := h1 v hv
          refine ⟨j + 1, ?_, by simpa using hk, by funext u; simp [mput, hx, hp]⟩
          simp only [List.map_cons, findE, if_neg hx, hj]
          congr 2; omega
        · simp [mget, hx] at hv
          simp [findE, hx, h2 hv]

section
variable {P : Program} {C : Cx} {R : List Hp} {n : Nat} {all : Array Oper} {Q : Exit → Act → World → Prop} {L : Env} {Γ : List Hp} {rest : List Oper} {w : World} {α β : Type} [DecidableEq α] {kv : α → Value} {vv : β → Value}
theorem v_makeMap {K : Act → World → Prop} {d t : Nat} {ty : TypeId} {pos : String} {af : Array Edge} [hd : Is (Nat.ble n d = false)]
    (h : ∀ b, VK C R n ((d, .map (some b)) :: L) ([(b, .map #[] 0)] :: Γ) K) : VK C R n L Γ (wp1 P all Q ⟨some d, .makeMap t none, ty, pos, af, none⟩ K) := VK.mk fun a w k i => wp1.mk (by
  have hd' : d < n := lt_of_ble hd.out
  simp only [Region.wanted, if_true]
  refine .inl ?_
  have : (execOp a.eval ⟨some d, .makeMap t none, ty, pos, af, none⟩).run P w = .ok (.value (.map (some w.heap.size))) (w.alloc (.map #[] 0)) := by
    simp [execOp, Go.RowKit.run_makeMap]
  simp only [Oper.wp, this, Oper.upon]
  exact (h _).out _ _ (k.put hd') (i.new _))
theorem run_find {kt : TypeId} [hk : KeyT P kt α kv] {m : List (α × β)} {es : Array MapEntry} (hkey : es.toList.map (·.key) = m.map (fun p => kv p.1)) (k : α) (w : World) : (Instr.findKey kt (kv k) es.toList).run P w = .ok (findE k (m.map (·.1)) es.toList 0) w :=
  hk.find k _ _ w (by rw [hkey, List.map_map]; rfl)
theorem y_lookupS {T kt et b : Nat} {x ix : Operand} {k : α} {v : β} {m : List (α × β)} {s : Hp} [hx : Ev L x (.map (some b))] [hi : Ev L ix (kv k)] [ht : Und P T (.map kt et)] [hk : KeyT P kt α kv] (hm : MpAt kv vv b m s) [hs : Seg R Γ s] (hg : mget m k = some v) :
    Y P R L Γ (.lookup T x ix true) (.tuple #[vv v, .bool true]) := ⟨fun C n a w _ _ _ _ _ kn i => by
  obtain ⟨es, clk, rfl, h1, h2, h3, h4, h5⟩ := hm
  have hb := hs.out C w i (b, .map es clk) (by simp)
  obtain ⟨j, hj, _⟩ := (findE_spec (vv := vv) m es.toList 0 h2).1 v hg
  have hf := run_find (P := P) (kt := kt) h1 k w
  rw [hj] at hf
  simp [execOp, Instr.lookup, hx.out n a kn, hi.out n a kn, run_underlying ht.out, MapKept.run_getObj_map hb, hk.chk, hf]⟩
theorem y_lookupN {T kt et b : Nat} {x ix : Operand} {k : α} {z : Value} {m : List (α × β)} {s : Hp} [hx : Ev L x (.map (some b))] [hi : Ev L ix (kv k)] [ht : Und P T (.map kt et)] [hk : KeyT P kt α kv] [hz : Zr P et z] (hm : MpAt kv vv b m s) [hs : Seg R Γ s] (hg : mget m k = none) :
    Y P R L Γ (.lookup T x ix true) (.tuple #[z, .bool false]) := ⟨fun C n a w _ _ _ _ _ kn i => by
  obtain ⟨es, clk, rfl, h1, h2, h3, h4, h5⟩ := hm
  have hb := hs.out C w i (b, .map es clk) (by simp)
  have hj := (findE_spec (vv := vv) m es.toList 0 h2).2 hg
  have hf := run_find (P := P) (kt := kt) h1 k w
  rw [hj] at hf
  simp [execOp, Instr.lookup, hx.out n a kn, hi.out n a kn, run_underlying ht.out, MapKept.run_getObj_map hb, hk.chk, hf, hz.out]⟩
theorem y_lookS {T kt et b : Nat} {x ix : Operand} {k : α} {v : β} {m : List (α × β)} {s : Hp} [hx : Ev L x (.map (some b))] [hi : Ev L ix (kv k)] [ht : Und P T (.map kt et)] [hk : KeyT P kt α kv] (hm : MpAt kv vv b m s) [hs : Seg R Γ s] (hg : mget m k = some v) :
    Y P R L Γ (.lookup T x ix false) (vv v) := ⟨fun C n a w _ _ _ _ _ kn i => by
  obtain ⟨es, clk, rfl, h1, h2, h3, h4, h5⟩ := hm
  have hb := hs.out C w i (b, .map es clk) (by simp)
  obtain ⟨j, hj, _⟩ := (findE_spec (vv := vv) m es.toList 0 h2).1 v hg
  have hf := run_find (P := P) (kt := kt) h1 k w
  rw [hj] at hf
  simp [execOp, Instr.lookup, hx.out n a kn, hi.out n a kn, run_underlying ht.out, MapKept.run_getObj_map hb, hk.chk, hf]⟩
theorem y_lookN {T kt et b : Nat} {x ix : Operand} {k : α} {z : Value} {m : List (α × β)} {s : Hp} [hx : Ev L x (.map (some b))] [hi : Ev L ix (kv k)] [ht : Und P T (.map kt et)] [hk : KeyT P kt α kv] [hz : Zr P et z] (hm : MpAt kv vv b m s) [hs : Seg R Γ s] (hg : mget m k = none) :
    Y P R L Γ (.lookup T x ix false) z := ⟨fun C n a w _ _ _ _ _ kn i => by
  obtain ⟨es, clk, rfl, h1, h2, h3, h4, h5⟩ := hm
  have hb := hs.out C w i (b, .map es clk) (by simp)
  have hj := (findE_spec (vv := vv) m es.toList 0 h2).2 hg
  have hf := run_find (P := P) (kt := kt) h1 k w
  rw [hj] at hf
  simp [execOp, Instr.lookup, hx.out n a kn, hi.out n a kn, run_underlying ht.out, MapKept.run_getObj_map hb, hk.chk, hf, hz.out]⟩
omit [DecidableEq α] in
theorem y_mlen {T kt et b : Nat} {x : Operand} {m : List (α × β)} {s : Hp} [hx : Ev L x (.map (some b))] [ht : Und P T (.map kt et)] (hm : MpAt kv vv b m s) [hs : Seg R Γ s] :
    Y P R L Γ (.call ⟨.builtin .len, #[x], #[T]⟩) (.int .i64 m.length) := ⟨fun C n a w _ _ _ _ _ kn i => by
  obtain ⟨es, clk, rfl, h1, h2, h3, h4, h5⟩ := hm
  have hb := hs.out C w i (b, .map es clk) (by simp)
  have hl : es.size = m.length := by have := congrArg List.length h1; simpa using this
  simp [execOp, resolve, invoke, builtin, Builtin.len_, hx.out n a kn, run_underlying ht.out, MapKept.run_getObj_map hb, goInt, hl]⟩
/-- what a map's block becomes -/
theorem Inv.setMap {b : Nat} {es es' : Array MapEntry} {c c' : Nat} (i : Inv C R ([(b, .map es c)] :: Γ) w) : Inv C R ([(b, .map es' c')] :: Γ) { w with heap := w.heap.setIfInBounds b (.map es' c') } := by
  have hb := i.own (b, .map es c) (by simp)
  have hlt : b < w.heap.size := (Array.getElem?_eq_some_iff.1 hb).1
  exact i.upd (updHere Γ b (.map es c)) (by simp [hlt]) (fun k hk => by simp [Array.getElem?_setIfInBounds_ne (Ne.symm hk)]) (by simp) rfl rfl rfl rfl
theorem v_mapPut {K : Act → World → Prop} {T kt et b : Nat} {x ix y : Operand} {k : α} {v : β} {m : List (α × β)} {s : Hp} {Γ' : List Hp} {ty : TypeId} {pos : String} {af : Array Edge} [hx : Ev L x (.map (some b))] [hi : Ev L ix (kv k)] [hy : Ev L y (vv v)] [ht : Und P T (.map kt et)] [hk : KeyT P kt α kv] (hm : MpAt kv vv b m s) [hdel : Del Γ s Γ']
    (h : ∀ s', MpAt kv vv b (mput m k v) s' → VK C R n L (s' :: Γ') K) : VK C R n L Γ (wp1 P all Q ⟨none, .mapUpdate T x ix y, ty, pos, af, none⟩ K) := VK.mk fun a w kn i => wp1.mk (by
  obtain ⟨es, clk, rfl, h1, h2, h3, h4, h5⟩ := hm
  have ip : Inv C R ([(b, .map es clk)] :: Γ') w := i.perm (by simpa using hdel.out)
  have hb := ip.own (b, .map es clk) (by simp)
  have hf := run_find (P := P) (kt := kt) h1 k w
  have main : ∃ es' clk', (Instr.mapUpdate T (.map (some b)) (kv k) (vv v)).run P w = .ok () { w with heap := w.heap.setIfInBounds b (.map es' clk') } ∧ MpAt kv vv b (mput m k v) [(b, .map es' clk')] := by
    have hl : es.size = m.length := by have := congrArg List.length h1; simpa using this
    cases hg : mget m k with
    | some u =>
      obtain ⟨j, hj, hkj, hp⟩ := (findE_spec (vv := vv) m es.toList 0 h2).1 u hg
      rw [hj] at hf
      simp only [Nat.zero_add] at hf
      have hkeyj : ∃ e, es[j]? = some e ∧ e.key = kv k := by
        have e1 : (es.toList.map (·.key))[j]? = some (kv k) := by
          rw [h1, show (m.map fun p => kv p.1) = (m.map (·.1)).map kv by simp, List.getElem?_map, hkj]; rfl
        rw [List.getElem?_map] at e1
        cases e : es.toList[j]? with
        | none => rw [e] at e1; cases e1
        | some e0 => rw [e] at e1; exact ⟨e0, by rw [← Array.getElem?_toList]; exact e, by simpa using e1⟩
      obtain ⟨e0, he0, hek⟩ := hkeyj
      have hjl : j < es.size := (Array.getElem?_eq_some_iff.1 he0).1
      refine ⟨es.modify j fun e => { e with key := kv k, val := vv v }, clk, ?_, _, clk, rfl, ?_, ?_, ?_, ?_, ?_⟩
      · simp [Instr.mapUpdate, run_underlying ht.out, MapKept.run_getObj_map hb, hk.chk, hf, Instr.keyThatStays, he0, hek, hk.same, MapKept.run_setObj_map _ hb]
      · have e1 : (mput m k v).map (fun p => kv p.1) = es.toList.map (·.key) := by
          rw [h1, show ((mput m k v).map fun p => kv p.1) = ((mput m k v).map (·.1)).map kv by simp, mput_keys (List.mem_of_getElem? hkj)]
          simp
        rw [e1]
        refine List.ext_getElem? fun i => ?_
        rw [Array.toList_modify, List.getElem?_map, List.getElem?_map, List.getElem?_modify]
        by_cases hij : j = i
        · subst hij
          simp [he0, hek]
        · simp [hij]
      · have e1 : (mput m k v).map (fun p => vv p.2) = (es.toList.map (·.val)).set j (vv v) := by rw [h2, hp, List.map_set]
        rw [e1]
        refine List.ext_getElem? fun i => ?_
        rw [Array.toList_modify, List.getElem?_map, List.getElem?_modify, List.getElem?_set, List.getElem?_map]
        by_cases hij : j = i
        · subst hij
          simp [hjl]
        · simp [hij]
      · exact mput_nodup h3
      · have e1 : (es.modify j fun e => { e with key := kv k, val := vv v }).toList.map (·.born) = es.toList.map (·.born) := by
          refine List.ext_getElem? fun i => ?_
          rw [Array.toList_modify, List.getElem?_map, List.getElem?_map, List.getElem?_modify]
          by_cases hij : j = i
          · subst hij
            simp [hjl]
          · simp [hij]
        rw [e1]; exact h4
      · intro e he
        obtain ⟨i, hi, rfl⟩ := List.getElem_of_mem he
        have hi' : i < es.size := by simpa using hi
        have := h5 es[i] (by simp)
        simp only [Array.getElem_toList, Array.getElem_modify]
        split
        · exact this
        · exact this
    | none =>
      have hj := (findE_spec (vv := vv) m es.toList 0 h2).2 hg
      rw [hj] at hf
      have hnk := mget_none.1 hg
      refine ⟨es.push { key := kv k, val := vv v, born := clk }, clk + 1, ?_, _, clk + 1, rfl, ?_, ?_, ?_, ?_, ?_⟩
      · simp [Instr.mapUpdate, run_underlying ht.out, MapKept.run_getObj_map hb, hk.chk, hf, MapKept.run_setObj_map _ hb]
      · rw [mput_new hnk]; simp [h1]
      · rw [mput_new hnk]; simp [h2]
      · exact mput_nodup h3
      · simp only [Array.toList_push, List.map_append, List.map_cons, List.map_nil]
        rw [List.pairwise_append]
        refine ⟨h4, by simp, fun x hx y hy => ?_⟩
        simp at hy; subst hy
        obtain ⟨e, he, rfl⟩ := List.mem_map.1 hx
        exact h5 e he
      · intro e he
        simp only [Array.toList_push, List.mem_append, List.mem_singleton] at he
        rcases he with he | rfl
        · exact Nat.lt_succ_of_lt (h5 e he)
        · exact Nat.lt_succ_self _
  obtain ⟨es', clk', hr, hm'⟩ := main
  have hrun : (execOp a.eval ⟨none, .mapUpdate T x ix y, ty, pos, af, none⟩).run P w = .ok .skip { w with heap := w.heap.setIfInBounds b (.map es' clk') } := by
    simp [execOp, hx.out n a kn, hi.out n a kn, hy.out n a kn, hr]
  simp only [Region.wanted, if_true]
  refine .inl ?_
  simp only [Oper.wp, hrun, Oper.upon]
  exact (h _ hm').out _ _ kn.putNone (ip.setMap))
theorem v_mapDel {K : Act → World → Prop} {T T2 kt et b : Nat} {x ix : Operand} {k : α} {m : List (α × β)} {s : Hp} {Γ' : List Hp} {ty : TypeId} {pos : String} {af : Array Edge} [hx : Ev L x (.map (some b))] [hi : Ev L ix (kv k)] [ht : Und P T (.map kt et)] [hk : KeyT P kt α kv] (hm : MpAt kv vv b m s) [hdel : Del Γ s Γ']
    (h : ∀ s', MpAt kv vv b (mdel m k) s' → VK C R n L (s' :: Γ') K) : VK C R n L Γ (wp1 P all Q ⟨none, .call ⟨.builtin .delete, #[x, ix], #[T, T2]⟩, ty, pos, af, none⟩ K) := VK.mk fun a w kn i => wp1.mk (by
  obtain ⟨es, clk, rfl, h1, h2, h3, h4, h5⟩ := hm
  have ip : Inv C R ([(b, .map es clk)] :: Γ') w := i.perm (by simpa using hdel.out)
  have hb := ip.own (b, .map es clk) (by simp)
  have hf := run_find (P := P) (kt := kt) h1 k w
  have main : ∃ es', (Builtin.delete_ #[T, T2] ty #[.map (some b), kv k]).run P w = .ok (.tuple #[]) { w with heap := w.heap.setIfInBounds b (.map es' clk) } ∧ MpAt kv vv b (mdel m k) [(b, .map es' clk)] := by
    cases hg : mget m k with
    | some u =>
      obtain ⟨j, hj, hkj, hp⟩ := (findE_spec (vv := vv) m es.toList 0 h2).1 u hg
      rw [hj] at hf
      simp only [Nat.zero_add] at hf
      have hl : es.size = m.length := by have := congrArg List.length h1; simpa using this
      have hjl : j < es.size := by
        have := (List.getElem?_eq_some_iff.1 hkj).1
        simpa [hl] using this
      have e0 : (es.eraseIdxIfInBounds j).toList = es.toList.eraseIdx j := by
        simp [Array.eraseIdxIfInBounds, hjl]
      refine ⟨es.eraseIdxIfInBounds j, ?_, _, clk, rfl, ?_, ?_, mdel_nodup h3, ?_, ?_⟩
      · simp [Builtin.delete_, run_underlying ht.out, MapKept.run_getObj_map hb, hk.chk, hf, MapKept.run_setObj_map _ hb]
      · rw [mdel_erase h3 hkj, e0, ← eraseIdx_map', ← eraseIdx_map', h1]
      · rw [mdel_erase h3 hkj, e0, ← eraseIdx_map', ← eraseIdx_map', h2]
      · rw [e0]; exact h4.sublist ((List.eraseIdx_sublist _ _).map _)
      · rw [e0]; exact fun e he => h5 e ((List.eraseIdx_sublist _ _).mem he)
    | none =>
      have hj := (findE_spec (vv := vv) m es.toList 0 h2).2 hg
      rw [hj] at hf
      refine ⟨es, ?_, _, clk, rfl, ?_, ?_, mdel_nodup h3, h4, h5⟩
      · simp [Builtin.delete_, run_underlying ht.out, MapKept.run_getObj_map hb, hk.chk, hf, MapKept.run_setObj_map _ hb]
      · rw [mdel_none (mget_none.1 hg)]; exact h1
      · rw [mdel_none (mget_none.1 hg)]; exact h2
  obtain ⟨es', hr, hm'⟩ := main
  have hrun : (execOp a.eval ⟨none, .call ⟨.builtin .delete, #[x, ix], #[T, T2]⟩, ty, pos, af, none⟩).run P w = .ok (.value (.tuple #[])) { w with heap := w.heap.setIfInBounds b (.map es' clk) } := by
    simp [execOp, resolve, invoke, builtin, hx.out n a kn, hi.out n a kn, hr]
  simp only [Region.wanted, if_true]
  refine .inl ?_
  simp only [Oper.wp, hrun, Oper.upon]
  exact (h _ hm').out _ _ kn.putNone (ip.setMap))
end
end Go.SX
