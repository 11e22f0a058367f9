/- Symbolic execution: maps once more (going over a map, an entry written, clones), own parts of slices, memory grouped anew. -/
import Derived.Test.YtedemhmlaodblabDoorSq
import Derived.Maps.RangeRun
import Derived.Laws.Externs
import Derived.Laws.MakeOwn
import Derived.Laws.OwnMore
namespace Go.SX
set_option linter.unusedSimpArgs false
set_option linter.unusedVariables false
set_option linter.unusedSectionVars false
open Go Go.MapKept

theorem sameBits_agg (n : Nat) {l : List Value} (h : ∀ v ∈ l, Instr.sameBits n v v = true) : Instr.sameBits (n + 1) (.agg l.toArray) (.agg l.toArray) = true := by
  rw [Instr.sameBits]
  simp only [beq_self_eq_true, Bool.true_and, List.all_eq_true]
  intro p hp
  have : ∀ (l : List Value) (p : Value × Value), p ∈ l.zip l → p.1 = p.2 ∧ p.1 ∈ l := by
    intro l
    induction l with
    | nil => intro p hp; simp at hp
    | cons x l ih => intro p hp; simp only [List.zip_cons_cons, List.mem_cons] at hp ⊢; rcases hp with rfl | hp
                     · exact ⟨rfl, .inl rfl⟩
                     · exact ⟨(ih p hp).1, .inr (ih p hp).2⟩
  obtain ⟨h1, h2⟩ := this l p (by simpa using hp)
  rw [← h1]
  exact h _ h2
/-! ### memory grouped anew -/
section
variable {P : Program} {C : Cx} {R : List Hp} {n : Nat} {all : Array Oper} {Q : Exit → Act → World → Prop} {L : Env} {Γ : List Hp} {rest : List Oper} {w : World} {K : Act → World → Prop}
theorem v_re (Γ2 : List Hp) (hp : Γ.flatten.Perm Γ2.flatten) (h : VK C R n L Γ2 K) : VK C R n L Γ K := VK.mk fun a w k i => h.out a w k (i.perm hp)
/-- a segment taken apart -/
theorem v_spl {s a b : Hp} {Γ' : List Hp} (hp : s.Perm (a ++ b)) [hd : Del Γ s Γ'] (h : VK C R n L (a :: b :: Γ') K) : VK C R n L Γ K := v_re (a :: b :: Γ') (by
  refine hd.out.trans ?_
  simp only [List.flatten_cons, ← List.append_assoc]
  exact hp.append_right _) h
/-- .. and put together -/
theorem v_jn {s a b : Hp} {Γ' Γ2 : List Hp} (hp : s.Perm (a ++ b)) [hd : Del Γ a Γ'] [hd2 : Del Γ' b Γ2] (h : VK C R n L (s :: Γ2) K) : VK C R n L Γ K := v_re (s :: Γ2) (by
  refine hd.out.trans ((hd2.out.append_left a).trans ?_)
  simp only [List.flatten_cons, ← List.append_assoc]
  exact hp.symm.append_right _) h
/-- what is known follows from more than what is kept -/
theorem v_drop (Γ2 : List Hp) {Γd : List Hp} (hp : Γ.flatten.Perm (Γ2.flatten ++ Γd.flatten)) (h : VK C R n L Γ2 K) : VK C R n L Γ K := VK.mk fun a w k i => h.out a w k (i.take hp)

/-- segments taken out of a memory -/
class Dels (X : List Hp) (ex : List Hp) (Y : outParam (List Hp)) : Prop where
  out : ∀ x ∈ Y.flatten, x ∈ X.flatten
instance delsNil (X : List Hp) : Dels X [] X := ⟨fun _ h => h⟩
instance delsCons (X X1 Y ex : List Hp) (s : Hp) [h : Del X s X1] [h2 : Dels X1 ex Y] : Dels X (s :: ex) Y := ⟨fun x hx => h.out.mem_iff.2 (List.mem_append_right _ (h2.out x hx))⟩
/-- a drawn region with several writes: kl is the last; ex are the segments that are written before it -/
theorem v_drawnE (kl : Nat) (pl : Pl) (ex : List Hp) {X Y : List Hp} {id : Nat} {ops : Array Oper} [hm : Mixed P] [hx : App R Γ X] [hd : Dels X ex Y] [hs : Sub R R Γ] (hok : (Region.noSelect ops && Pl.ok ops kl ops.size (Array.replicate ops.size false) pl) = true)
    (h : VK C R n L Γ (KA P ops Q R kl Y true pl)) : VK C R n L Γ (KC P (.region id ops true) Q) := v_drawn (hst := ⟨fun x hy => hx.sub.out x (hd.out x hy)⟩) kl pl R Y hok h
/-- .. whose loads read what nothing writes -/
theorem v_drawnR (pl : Pl) {id : Nat} {ops : Array Oper} [hm : Mixed P] [hs : Sub R R Γ] (hok : (Region.noSelect ops && Pl.ok ops 1000000 ops.size (Array.replicate ops.size false) pl) = true)
    (h : VK C R n L Γ (KA P ops Q R 1000000 [] true pl)) : VK C R n L Γ (KC P (.region id ops true) Q) := v_drawn 1000000 pl R [] hok h
/-- an element of an array that is written out -/
instance ycIndexArr {T e len m : Nat} {x ix : Operand} {k : IntKind} {cs : Array Value} {v : Value} [hx : Ev L x (.agg cs)] [hi : Ev L ix (.int k (@OfNat.ofNat Int m (@instOfNat m)))] [ht : Und P T (.array len e)] [hs : Sc P e] [hz : Sz P e 1] [ha : At cs m v] :
    YC P R L Γ (.index T x ix) ((@OfNat.ofNat Int m (@instOfNat m)) < (len : Int)) (fun _ => v) := ⟨fun h => ⟨fun C n a w _ _ _ _ _ kn i => by
  have h0 : (0 : Int) ≤ @OfNat.ofNat Int m (@instOfNat m) := Int.natCast_nonneg m
  have h1 : (@OfNat.ofNat Int m (@instOfNat m)).toNat = m := rfl
  have hp : ∀ w, (part e cs (m * 1)).run P w = .ok v w := fun w => by
    simp [part, hs.out, ha.out]
  simp only [execOp, hx.out n a kn, hi.out n a kn, Instr.index, asIntOf, underlying, Sem.run_bind, Sem.run_pure, Result.andThen_ok, run_program, ht.out, h0, h, and_self, if_true, hz.out, h1, hp]⟩⟩
/-! ### own parts of slices -/
variable {e sz : Nat} {α : Type} {cv : α → List Value} {av : α → Value} {l : List α} {v : Value} {s : Hp}
theorem OwnS.sub (hE : ∀ x, (cv x).length = sz) (hs : OwnS v e α sz cv l s) {lo hi : Nat} (h1 : lo ≤ hi) (h2 : hi ≤ l.length) : OwnS (slSub sz v lo hi) e α sz cv ((l.take hi).drop lo) s := ⟨by
  have hlen : ((l.take hi).drop lo).length = hi - lo := by rw [List.length_drop, List.length_take]; omega
  refine ⟨cvs_len hE _, ?_⟩
  rcases hs.out.2 with ⟨rfl, h0, h00⟩ | ⟨b, off, cap, cur, eb, rfl, rfl, h3, h4, h5, h6⟩
  · have e1 : lo = 0 := by omega
    have e2 : hi = 0 := by omega
    subst e1; subst e2
    exact .inl ⟨by simp [slSub], by simp, h00⟩
  · have e0 : cvs cv ((l.take hi).drop lo) = ((cur.toList.drop (off + lo * sz)).take ((hi - lo) * sz)) := by
      rw [cvs_sub hE l lo hi h1 h2, ← h6, List.drop_take, List.take_take, List.drop_drop]
      congr 1
      have : (lo + (hi - lo)) * sz ≤ l.length * sz := Nat.mul_le_mul_right _ (by omega)
      rw [Nat.add_mul] at this
      omega
    by_cases hc : cap = lo
    · subst hc
      have : hi = cap := by omega
      subst this
      refine .inr ⟨b, off, 0, cur, eb, by simp [slSub, hlen], rfl, by rw [hlen]; omega, Nat.zero_le _, by omega, ?_⟩
      rw [e0]; simp [hlen]
    · refine .inr ⟨b, off + lo * sz, cap - lo, cur, eb, ?_, rfl, by rw [hlen]; omega, by omega, ?_, by rw [e0, hlen]⟩
      · simp [slSub, hc, add_at, hlen]
      · have e3 : (lo + (cap - lo)) * sz = cap * sz := by congr 1; omega
        rw [Nat.add_mul] at e3
        omega⟩
instance (priority := high) sbBO {T : Nat} {x lo hi : Operand} {k k' : IntKind} {i j : Int} [hx : Ev L x v] [hlo : Ev L lo (.int k i)] [hhi : Ev L hi (.int k' j)] [ht : Und P T (.slice e)] [hs : OwnS v e α sz cv l s] [hz : Sz P e sz] [hE : ElT P e α sz cv av] :
    Sb P R L Γ (.slice T x (some lo) (some hi) none) (0 ≤ i ∧ i ≤ j ∧ j ≤ l.length) (fun u => OwnS u e α sz cv ((l.take j.toNat).drop i.toNat) s ∧ (((l.take j.toNat).drop i.toNat).length : Int) = j - i) := ⟨fun h => ⟨_, ⟨hs.sub hE.len (lo := i.toNat) (hi := j.toNat) (by omega) (by omega), by simp only [List.length_drop, List.length_take]; omega⟩, y_subB h.1 h.2.1 h.2.2⟩⟩
instance (priority := high) sbLO {T : Nat} {x lo : Operand} {k : IntKind} {i : Int} [hx : Ev L x v] [hlo : Ev L lo (.int k i)] [ht : Und P T (.slice e)] [hs : OwnS v e α sz cv l s] [hz : Sz P e sz] [hE : ElT P e α sz cv av] :
    Sb P R L Γ (.slice T x (some lo) none none) (0 ≤ i ∧ i ≤ l.length) (fun u => OwnS u e α sz cv (l.drop i.toNat) s ∧ ((l.drop i.toNat).length : Int) = l.length - i) := ⟨fun h => ⟨_, ⟨by simpa using hs.sub hE.len (lo := i.toNat) (hi := l.length) (by omega) (by omega), by simp only [List.length_drop]; omega⟩, y_subL h.1 h.2⟩⟩
instance (priority := high) sbHO {T : Nat} {x hi : Operand} {k' : IntKind} {j : Int} [hx : Ev L x v] [hhi : Ev L hi (.int k' j)] [ht : Und P T (.slice e)] [hs : OwnS v e α sz cv l s] [hz : Sz P e sz] [hE : ElT P e α sz cv av] :
    Sb P R L Γ (.slice T x none (some hi) none) (0 ≤ j ∧ j ≤ l.length) (fun u => OwnS u e α sz cv (l.take j.toNat) s ∧ ((l.take j.toNat).length : Int) = j) := ⟨fun h => ⟨_, ⟨by simpa using hs.sub hE.len (lo := 0) (hi := j.toNat) (by omega) (by omega), by simp only [List.length_take]; omega⟩, y_subH h.1 h.2⟩⟩
/-- a slice literal is the call's own -/
theorem OwnS.litA {b eb : Nat} {cs : Array Value} (k : Nat) (xs : List α) (hc : cvs cv xs = cs.toList) (hl : cs.toList.length = k * sz) (hk : k ≤ maxLen) (hx : xs.length = k) : OwnS (.slice (some ⟨b, 0, none⟩) k k) e α sz cv xs [(b, .cells cs eb (0, 0))] := ⟨by
  rw [hc, hx]
  refine ⟨hl, .inr ⟨b, 0, k, cs, _, rfl, rfl, Nat.le_refl _, hk, ?_, ?_⟩⟩
  · rw [← Array.length_toList, hl]; omega
  · rw [List.drop_zero, List.take_of_length_le (Nat.le_of_eq hl)]⟩
theorem OwnS.lit {b : Nat} {cs : Array Value} (k : Nat) (xs : List α) (hc : cvs cv xs = cs.toList) (hl : cs.toList.length = k * sz) (hk : k ≤ maxLen) (hx : xs.length = k) : OwnS (.slice (some ⟨b, 0, none⟩) k k) e α sz cv xs [(b, .cells cs e (0, 0))] := OwnS.litA k xs hc hl hk hx
theorem OwnS.lit1 {b : Nat} {cs : Array Value} (x : α) (hE : ∀ x, (cv x).length = sz) (hc : cs.toList = cv x) : OwnS (.slice (some ⟨b, 0, none⟩) 1 1) e α sz cv [x] [(b, .cells cs e (0, 0))] :=
  OwnS.lit 1 [x] (by rw [cvs_one, hc]) (by rw [hc, hE]; omega) (by unfold maxLen; omega) rfl
end

/-! ### an entry of a map written in place -/
section
variable {α β : Type} [DecidableEq α] {kv : α → Value} {vv : β → Value}
theorem mput_mput (m : List (α × β)) (k : α) (u v : β) : mput (mput m k u) k v = mput m k v := by
  induction m with
  | nil => simp [mput]
  | cons p r ih => obtain ⟨x, y⟩ := p; by_cases h : k = x <;> simp [mput, h, ih]
theorem mput_same {m : List (α × β)} {k : α} {v : β} (h : mget m k = some v) : mput m k v = m := by
  induction m with
  | nil => simp [mget] at h
  | cons p r ih =>
    obtain ⟨x, y⟩ := p
    by_cases hx : k = x
    · subst hx; simp [mget] at h; simp [mput, h]
    · simp [mget, hx] at h; simp [mput, hx, ih h]
theorem mget_of_nodup {m : List (α × β)} (hn : (m.map (·.1)).Nodup) {i : Nat} {p : α × β} (h : m[i]? = some p) : mget m p.1 = some p.2 := by
  induction m generalizing i with
  | nil => simp at h
  | cons x r ih =>
    cases i with
    | zero => simp at h; subst h; simp [mget]
    | succ i =>
      simp only [List.map_cons, List.nodup_cons] at hn
      simp at h
      have : p.1 ≠ x.1 := fun e => hn.1 (e ▸ List.mem_map.2 ⟨p, List.mem_of_getElem? h, rfl⟩)
      obtain ⟨a, b⟩ := x
      simp only [mget, if_neg this]
      exact ih hn.2 h
/-- the entry of key k has this stamp -/
class Stm (b : Nat) (k : outParam Value) (st : Value) (s : outParam Hp) : Prop where
  out : ∃ (es : Array MapEntry) (clk i : Nat) (e : MapEntry), s = [(b, .map es clk)] ∧ es[i]? = some e ∧ e.key = k ∧ st = .int .i64 (e.born : Nat)
variable {P : Program} {C : Cx} {R : List Hp} {n : Nat} {all : Array Oper} {Q : Exit → Act → World → Prop} {L : Env} {Γ : List Hp} {rest : List Oper} {w : World} {K : Act → World → Prop} {m : List (α × β)} {s : Hp} {b : Nat}
theorem run_mapEntry {T kt et : TypeId} {k : α} {z0 : β} {z : Value} {es : Array MapEntry} {clk : Nat} (ht : P.underlying T = some (.map kt et)) [hk : KeyT P kt α kv] (hz : Zr P et z) (hv : vv z0 = z) (hb : w.heap[b]? = some (.map es clk)) (hm : MpAt kv vv b m [(b, .map es clk)]) :
    ∃ es' clk' st, (Instr.mapEntry T (.map (some b)) (kv k)).run P w = .ok (.tuple #[vv ((mget m k).getD z0), st]) { w with heap := w.heap.setIfInBounds b (.map es' clk') } ∧ MpAt kv vv b (mput m k ((mget m k).getD z0)) [(b, .map es' clk')] ∧ Stm b (kv k) st [(b, .map es' clk')] := by
  obtain ⟨es0, clk0, heq, h1, h2, h3, h4, h5⟩ := hm
  obtain ⟨rfl, rfl⟩ : es = es0 ∧ clk = clk0 := by simpa using heq
  have hf := run_find (P := P) (kt := kt) h1 k w
  have hl : es.size = m.length := by have := congrArg List.length h1; simpa using this
  cases hg : mget m k with
  | some u =>
    obtain ⟨j, hj, hkj, hp⟩ := (findE_spec (vv := vv) m es.toList 0 h2).1 u hg
    rw [hj] at hf
    simp only [Nat.zero_add] at hf
    have hkeyj : ∃ e, es[j]? = some e ∧ e.key = kv k := by
      have e1 : (es.toList.map (·.key))[j]? = some (kv k) := by
        rw [h1, show (m.map fun p => kv p.1) = (m.map (·.1)).map kv by simp, List.getElem?_map, hkj]; rfl
      rw [List.getElem?_map] at e1
      cases e : es.toList[j]? with
      | none => rw [e] at e1; cases e1
      | some e0 => rw [e] at e1; exact ⟨e0, by rw [← Array.getElem?_toList]; exact e, by simpa using e1⟩
    obtain ⟨e0, he0, hek⟩ := hkeyj
    have hsame : es.modify j (fun e => { e with key := kv k }) = es := by
      apply Array.ext_getElem?
      intro i
      rw [Array.getElem?_modify]
      split
      · rename_i hij; subst hij
        rw [he0]; simp [← hek]
      · rfl
    refine ⟨es, clk, .int .i64 (e0.born : Nat), ?_, ?_, ⟨es, clk, j, e0, rfl, he0, hek, rfl⟩⟩
    · simp [Instr.mapEntry, run_underlying ht, MapKept.run_getObj_map hb, hk.chk, hf, Instr.keyThatStays, he0, hek, hk.same, MapKept.run_setObj_map _ hb, hsame, goInt]
    · rw [Option.getD_some, mput_same hg]
      exact ⟨es, clk, rfl, h1, h2, h3, h4, h5⟩
  | none =>
    have hj := (findE_spec (vv := vv) m es.toList 0 h2).2 hg
    rw [hj] at hf
    have hnk := mget_none.1 hg
    refine ⟨es.push { key := kv k, val := vv z0, born := clk }, clk + 1, .int .i64 (clk : Nat), ?_, ⟨_, clk + 1, rfl, ?_, ?_, ?_, ?_, ?_⟩, ⟨_, _, es.size, { key := kv k, val := vv z0, born := clk }, rfl, by simp, rfl, rfl⟩⟩
    · simp [Instr.mapEntry, run_underlying ht, MapKept.run_getObj_map hb, hk.chk, hf, MapKept.run_setObj_map _ hb, hz.out, hv, goInt]
    · rw [Option.getD_none, mput_new hnk]; simp [h1]
    · rw [Option.getD_none, mput_new hnk]; simp [h2]
    · exact mput_nodup h3
    · simp only [Array.toList_push, List.map_append, List.map_cons, List.map_nil]
      rw [List.pairwise_append]
      refine ⟨h4, by simp, fun x hx y hy => ?_⟩
      simp at hy; subst hy
      obtain ⟨e, he, rfl⟩ := List.mem_map.1 hx
      exact h5 e he
    · intro e he
      simp only [Array.toList_push, List.mem_append, List.mem_singleton] at he
      rcases he with he | rfl
      · exact Nat.lt_succ_of_lt (h5 e he)
      · exact Nat.lt_succ_self _
class KInj {α : Type} (kv : α → Value) : Prop where
  out : ∀ x y : α, kv x = kv y → x = y
instance (q : IntKind) : KInj (fun x => .int q x) := ⟨fun x y h => by simpa using h⟩
/-- what a map is known to hold at a key -/
class Mg (m : List (α × β)) (k : α) (v : outParam β) : Prop where
  out : mget m k = some v
instance mgPut (m : List (α × β)) (k : α) (v : β) : Mg (mput m k v) k v := ⟨by rw [mget_mput, if_pos rfl]⟩
instance (priority := high) yLkM {s : Hp} {T kt et : Nat} {x ix : Operand} {u : Value} {k : α} {v : β} [hx : Ev L x (.map (some b))] [hi : Ev L ix u] [ht : Und P T (.map kt et)] [hm : OwnM b α β kv vv m s] [hk : KeyT P kt α kv] [hu : Kvt kv u k] [hg : Mg m k v] [hs : Seg R Γ s] :
    Y P R L Γ (.lookup T x ix false) (vv v) := by
  have e := hu.out
  subst e
  exact y_lookS (kt := kt) (et := et) hm.out hg.out
theorem v_ment {d T kt et : Nat} {x ix : Operand} {u z : Value} {k : α} {z0 : β} {Γ' : List Hp} {ty : TypeId} {pos : String} {af : Array Edge} [hx : Ev L x (.map (some b))] [hi : Ev L ix u] [ht : Und P T (.map kt et)] [hm : OwnM b α β kv vv m s] [hk : KeyT P kt α kv] [hu : Kvt kv u k] [hz : Zr P et z] [hv : Vvt vv z z0] [hdel : Del Γ s Γ'] [hd : Is (Nat.ble n d = false)]
    (h : ∀ st s', OwnM b α β kv vv (mput m k ((mget m k).getD z0)) s' → Stm b (kv k) st s' → VK C R n ((d, .tuple #[vv ((mget m k).getD z0), st]) :: L) (s' :: Γ') K) : VK C R n L Γ (wp1 P all Q ⟨some d, .mapEntry T x ix, ty, pos, af, none⟩ K) := VK.mk fun a w kn i => wp1.mk (by
  have e := hu.out
  subst e
  obtain ⟨es, clk, rfl, hrest⟩ := hm.out
  have ip : Inv C R ([(b, .map es clk)] :: Γ') w := i.perm (by simpa using hdel.out)
  have hb := ip.own (b, .map es clk) (by simp)
  obtain ⟨es', clk', st, hr, h1, h2⟩ := run_mapEntry (kt := kt) (k := k) ht.out hz hv.out hb ⟨es, clk, rfl, hrest⟩
  have hrun : (execOp a.eval ⟨some d, .mapEntry T x ix, ty, pos, af, none⟩).run P w = .ok (.value (.tuple #[vv ((mget m k).getD z0), st])) { w with heap := w.heap.setIfInBounds b (.map es' clk') } := by
    simp [execOp, hx.out n a kn, hi.out n a kn, hr]
  simp only [Region.wanted, if_true]
  refine .inl ?_
  simp only [Oper.wp, hrun, Oper.upon]
  exact (h st _ ⟨h1⟩ h2).out _ _ (kn.put (lt_of_ble hd.out)) ip.setMap)
theorem v_esto {T : Nat} {x ix y : Operand} {st uy : Value} {k : α} {v : β} {s2 : Hp} {Γ' : List Hp} {ty : TypeId} {pos : String} {af : Array Edge} {kk : Value} [hx : Ev L x (.map (some b))] [hi : Ev L ix st] [hy : Ev L y uy] [hst : Stm b kk st s2] [hm : OwnM b α β kv vv m s2] [hku : Kvt kv kk k] [hv : Vvt vv uy v] [hdel : Del Γ s2 Γ'] [hkey : KInj kv]
    (h : ∀ s', OwnM b α β kv vv (mput m k v) s' → VK C R n L (s' :: Γ') K) : VK C R n L Γ (wp1 P all Q ⟨none, .entryStore T x ix y, ty, pos, af, none⟩ K) := VK.mk fun a w kn i => wp1.mk (by
  have e2 := hv.out
  subst e2
  have e3 := hku.out
  subst e3
  obtain ⟨es, clk, j, e, rfl, hj, hek, rfl⟩ := hst.out
  obtain ⟨es0, clk0, heq, h1, h2, h3, h4, h5⟩ := hm.out
  obtain ⟨rfl, rfl⟩ : es = es0 ∧ clk = clk0 := by simpa using heq
  have ip : Inv C R ([(b, .map es clk)] :: Γ') w := i.perm (by simpa using hdel.out)
  have hb := ip.own (b, .map es clk) (by simp)
  have hjl : j < es.size := (Array.getElem?_eq_some_iff.1 hj).1
  have hej : es[j] = e := by rw [Array.getElem?_eq_getElem hjl] at hj; exact Option.some.inj hj
  have hfind : es.findIdx? (fun x => (x.born : Int) == (e.born : Int)) = some j := by
    rw [Array.findIdx?_eq_some_iff_getElem]
    refine ⟨hjl, by simp [hej], fun i hi => ?_⟩
    have := List.pairwise_iff_getElem.1 h4 i j (by simp; omega) (by simpa using hjl) hi
    simp only [List.getElem_map, Array.getElem_toList, hej] at this
    simp; omega
  have hl : es.size = m.length := by have := congrArg List.length h1; simpa using this
  have hmj : (m.map (·.1))[j]? = some k := by
    have e1 : (es.toList.map (·.key))[j]? = some (kv k) := by rw [List.getElem?_map, Array.getElem?_toList, hj]; simp [hek]
    rw [h1, List.getElem?_map] at e1
    rw [List.getElem?_map]
    cases hm' : m[j]? with
    | none => rw [hm'] at e1; cases e1
    | some p => rw [hm'] at e1; simp at e1 ⊢; exact hkey.out _ _ e1
  have hput : mput m k v = m.set j (k, v) := by
    have hge : ∃ u, mget m k = some u := by
      cases hg : mget m k with
      | some u => exact ⟨u, rfl⟩
      | none => exact absurd (List.mem_of_getElem? hmj) (mget_none.1 hg)
    obtain ⟨u, hu⟩ := hge
    obtain ⟨j', _, hkj, hp⟩ := (findE_spec (vv := vv) m es.toList 0 h2).1 u hu
    have : j' = j := by
      have a1 := (List.getElem?_eq_some_iff.1 hkj).1
      have a2 := (List.getElem?_eq_some_iff.1 hmj).1
      have b1 := (List.getElem?_eq_some_iff.1 hkj).2
      have b2 := (List.getElem?_eq_some_iff.1 hmj).2
      exact (List.getElem_inj h3).1 (b1.trans b2.symm)
    subst this
    exact congrFun hp v
  have hrun : (execOp a.eval ⟨none, .entryStore T x ix y, ty, pos, af, none⟩).run P w = .ok .skip { w with heap := w.heap.setIfInBounds b (.map (es.modify j fun e => { e with val := vv v }) clk) } := by
    simp [execOp, hx.out n a kn, hi.out n a kn, hy.out n a kn, Instr.entryStore, MapKept.run_getObj_map hb, asInt, asIntOf, hfind, MapKept.run_setObj_map _ hb]
  simp only [Region.wanted, if_true]
  refine .inl ?_
  simp only [Oper.wp, hrun, Oper.upon]
  refine (h _ ⟨_, clk, rfl, ?_, ?_, mput_nodup h3, ?_, ?_⟩).out _ _ kn.putNone ip.setMap
  · have e1 : (mput m k v).map (fun p => kv p.1) = es.toList.map (·.key) := by
      rw [h1, show ((mput m k v).map fun p => kv p.1) = ((mput m k v).map (·.1)).map kv by simp, mput_keys (List.mem_of_getElem? hmj)]
      simp
    rw [e1]
    refine List.ext_getElem? fun i => ?_
    rw [Array.toList_modify, List.getElem?_map, List.getElem?_map, List.getElem?_modify]
    by_cases hij : j = i
    · subst hij; simp [hj]
    · simp [hij]
  · have e1 : (mput m k v).map (fun p => vv p.2) = (es.toList.map (·.val)).set j (vv v) := by rw [h2, hput, List.map_set]
    rw [e1]
    refine List.ext_getElem? fun i => ?_
    rw [Array.toList_modify, List.getElem?_map, List.getElem?_modify, List.getElem?_set, List.getElem?_map]
    by_cases hij : j = i
    · subst hij; simp [hjl]
    · simp [hij]
  · have e1 : (es.modify j fun e => { e with val := vv v }).toList.map (·.born) = es.toList.map (·.born) := by
      refine List.ext_getElem? fun i => ?_
      rw [Array.toList_modify, List.getElem?_map, List.getElem?_map, List.getElem?_modify]
      by_cases hij : j = i
      · subst hij; simp [hjl]
      · simp [hij]
    rw [e1]; exact h4
  · intro e' he
    obtain ⟨i, hi, rfl⟩ := List.getElem_of_mem he
    have hi' : i < es.size := by simpa using hi
    have := h5 es[i] (by simp)
    simp only [Array.getElem_toList, Array.getElem_modify]
    split
    · exact this
    · exact this)

/-! ### going over a map -/
/-- the iterator in block r, over the map m in block b: rest is what hasn't come yet -/
class Itr (r : Nat) (b : outParam Nat) (α β : outParam Type) (kv : outParam (α → Value)) (vv : outParam (β → Value)) (m : outParam (List (α × β))) (s : outParam Hp) (rest : outParam (List (α × β))) (t : outParam Hp) : Prop where
  out : ∃ (es : Array MapEntry) (clk : Nat) (seen : Array Nat) (c0 : Nat), s = [(b, .map es clk)] ∧ t = [(r, .mapIter (some b) clk seen c0)] ∧ clk ≤ c0 ∧ (leftOf es seen).toList.map (fun e => (e.key, e.val)) = rest.map (fun p => (kv p.1, vv p.2)) ∧ (rest.map (·.1)).Nodup ∧ (∀ p ∈ rest, p ∈ m)
/-- the entry that came last -/
class Icu (r : Nat) (s : outParam Hp) (t : outParam Hp) (k v : outParam Value) : Prop where
  out : ∃ (b : Nat) (es : Array MapEntry) (clk : Nat) (seen : Array Nat) (e : MapEntry) (c0 : Nat), s = [(b, .map es clk)] ∧ t = [(r, .mapIter (some b) clk (seen.push e.born) clk)] ∧ e ∈ es.toList ∧ e.key = k ∧ e.val = v ∧ c0 = clk ∧ (es.toList.map (·.born)).Nodup
theorem v_rng {d T kt et : Nat} {x : Operand} {ty : TypeId} {pos : String} {af : Array Edge} [hx : Ev L x (.map (some b))] [ht : Und P T (.map kt et)] [hm : OwnM b α β kv vv m s] [hs : Seg R Γ s] [hd : Is (Nat.ble n d = false)]
    (h : ∀ r t, Itr r b α β kv vv m s m t → VK C R n ((d, .pointer (some ⟨r, 0, none⟩)) :: L) (t :: Γ) K) : VK C R n L Γ (wp1 P all Q ⟨some d, .range T x, ty, pos, af, none⟩ K) := VK.mk fun a w kn i => wp1.mk (by
  obtain ⟨es, clk, rfl, h1, h2, h3, h4, h5⟩ := hm.out
  have hb := hs.out C w i (b, .map es clk) (by simp)
  have hrun : (execOp a.eval ⟨some d, .range T x, ty, pos, af, none⟩).run P w = .ok (.value (.pointer (some ⟨w.heap.size, 0, none⟩))) (w.alloc (.mapIter (some b) clk #[] clk)) := by
    have := run_range_map (P := P) w T kt et b es clk ht.out hb
    simp [execOp, hx.out n a kn, this]
  simp only [Region.wanted, if_true]
  refine .inl ?_
  simp only [Oper.wp, hrun, Oper.upon]
  refine (h _ _ ⟨es, clk, #[], clk, rfl, rfl, Nat.le_refl _, ?_, h3, fun p hp => hp⟩).out _ _ (kn.put (lt_of_ble hd.out)) (i.new _)
  have e1 : leftOf es #[] = es := by unfold leftOf; simp
  rw [e1]
  refine List.ext_getElem? fun j => ?_
  have k1 := congrArg (·[j]?) h1
  have k2 := congrArg (·[j]?) h2
  simp only [List.getElem?_map] at k1 k2 ⊢
  cases e1 : es.toList[j]? with
  | none =>
    rw [e1] at k1
    cases e2 : m[j]? with
    | none => rfl
    | some p => rw [e2] at k1; cases k1
  | some e =>
    rw [e1] at k1 k2
    cases e2 : m[j]? with
    | none => rw [e2] at k1; cases k1
    | some p => rw [e2] at k1 k2; simp at k1 k2 ⊢; exact ⟨k1, k2⟩)
theorem Inv.setIt {r : Nat} {o o' : Obj} (i : Inv C R ([(r, o)] :: Γ) w) : Inv C R ([(r, o')] :: Γ) (ChangeMaps.setBlock w r o') := by
  have hb := i.own (r, o) (by simp)
  have hlt : r < w.heap.size := (Array.getElem?_eq_some_iff.1 hb).1
  exact i.upd (updHere Γ r o) (by simp [ChangeMaps.setBlock, hlt]) (fun k hk => by simp [ChangeMaps.setBlock, Array.getElem?_setIfInBounds_ne (Ne.symm hk)]) (by simp [ChangeMaps.setBlock]) rfl rfl rfl rfl
theorem v_nxt {d r : Nat} {x : Operand} {t : Hp} {left : List (α × β)} {Γ' : List Hp} {ty : TypeId} {pos : String} {af : Array Edge} [hx : Ev L x (.pointer (some ⟨r, 0, none⟩))] [hi : Itr r b α β kv vv m s left t] [hm : OwnM b α β kv vv m s] [hdel : Del Γ t Γ'] [hs : Seg R Γ' s] [hd : Is (Nat.ble n d = false)]
    (h0 : left = [] → VK C R n ((d, .tuple #[.bool false]) :: L) Γ K)
    (h1 : ∀ k v t', (k, v) ∈ left → (k, v) ∈ m → Itr r b α β kv vv m s (mdel left k) t' → Icu r s t' (kv k) (vv v) → VK C R n ((d, .tuple #[.bool true, kv k, vv v]) :: L) (t' :: Γ') K) : VK C R n L Γ (wp1 P all Q ⟨some d, .next x false, ty, pos, af, none⟩ K) := VK.mk fun a w kn i => wp1.mk (by
  obtain ⟨es, clk, seen, c0, hseq, rfl, hc0, hl, hnd, hsub⟩ := hi.out
  obtain ⟨es0, clk0, hs0, g1, g2, g3, g4, g5⟩ := hm.out
  subst hseq
  obtain ⟨rfl, rfl⟩ : es = es0 ∧ clk = clk0 := by simpa using hs0
  have ip : Inv C R ([(r, .mapIter (some b) clk seen c0)] :: Γ') w := i.perm (by simpa using hdel.out)
  have hr := ip.own (r, .mapIter (some b) clk seen c0) (by simp)
  have hb := hs.out C w (Inv.drop ip) (b, .map es clk) (by simp)
  simp only [Region.wanted, if_true]
  refine .inl ?_
  rcases run_next_at (P := P) w ty r b clk c0 seen es clk hr hb g5 hc0 with ⟨hz, hrun⟩ | ⟨e, he, w1, hw1, hrun⟩
  · have hleft : left = [] := by
      have := congrArg List.length hl
      simp only [List.length_map, Array.length_toList, hz] at this
      exact List.eq_nil_of_length_eq_zero this.symm
    have hrun' : (execOp a.eval ⟨some d, .next x false, ty, pos, af, none⟩).run P w = .ok (.value (.tuple #[.bool false])) w := by
      simp [execOp, hx.out n a kn, hrun]
    simp only [Oper.wp, hrun', Oper.upon]
    exact (h0 hleft).out _ _ (kn.put (lt_of_ble hd.out)) i
  · have hrun' : (execOp a.eval ⟨some d, .next x false, ty, pos, af, none⟩).run P w = .ok (.value (.tuple #[.bool true, e.key, e.val])) (ChangeMaps.setBlock w1 r (.mapIter (some b) clk (seen.push e.born) clk)) := by
      simp [execOp, hx.out n a kn, hrun]
    simp only [Oper.wp, hrun', Oper.upon]
    have hbn : (es.toList.map (·.born)).Nodup := g4.imp (fun h => Nat.ne_of_lt h)
    obtain ⟨j, hj, hje⟩ := List.getElem_of_mem he
    have hlj : ∃ p, left[j]? = some p ∧ kv p.1 = e.key ∧ vv p.2 = e.val := by
      have := congrArg (·[j]?) hl
      simp only [List.getElem?_map, List.getElem?_eq_getElem hj, hje] at this
      cases hp : left[j]? with
      | none => rw [hp] at this; cases this
      | some p => rw [hp] at this; simp at this; exact ⟨p, rfl, this.1.symm, this.2.symm⟩
    obtain ⟨⟨k, v⟩, hkj, hk, hv⟩ := hlj
    simp only at hk hv
    rw [← hk, ← hv]
    have hmem : (k, v) ∈ left := List.mem_of_getElem? hkj
    have ip1 : Inv C R ([(r, .mapIter (some b) clk seen c0)] :: Γ') w1 := by
      rcases hw1 with rfl | rfl
      · exact ip
      · exact ip.drew
    refine (h1 k v _ hmem (hsub _ hmem) ⟨es, clk, seen.push e.born, clk, rfl, rfl, Nat.le_refl _, ?_, mdel_nodup hnd, fun p hp => hsub p (List.mem_filter.1 hp).1⟩ ⟨b, es, clk, seen, e, clk, rfl, rfl, by
      have := (List.mem_of_getElem? (List.getElem?_eq_getElem hj) : _ ∈ (leftOf es seen).toList)
      rw [hje] at this
      unfold leftOf at this
      simp at this ⊢; exact this.1, hk.symm, hv.symm, rfl, hbn⟩).out _ _ (kn.put (lt_of_ble hd.out)) ip1.setIt
    have hkl : (left.map (·.1))[j]? = some k := by rw [List.getElem?_map, hkj]; rfl
    rw [mdel_erase hnd hkl, ← eraseIdx_map', ← hl, eraseIdx_map']
    congr 1
    have hsubl : ((leftOf es seen).toList.map (·.born)).Nodup := by
      unfold leftOf
      rw [Array.toList_filter]
      exact hbn.sublist (List.filter_sublist.map _)
    have e2 : (leftOf es (seen.push e.born)).toList = (leftOf es seen).toList.filter (fun x => decide (x.born ≠ e.born)) := by
      unfold leftOf
      rw [Array.toList_filter, Array.toList_filter, List.filter_filter]
      apply List.filter_congr
      intro x _
      by_cases hx : x.born = e.born <;> simp [hx, Array.contains_push]
    rw [e2]
    have key : ∀ (l : List MapEntry) (j : Nat) (hj : j < l.length), l[j] = e → (l.map (·.born)).Nodup → l.filter (fun x => decide (x.born ≠ e.born)) = l.eraseIdx j := by
      intro l
      induction l with
      | nil => intro j hj; simp at hj
      | cons y l ih =>
        intro j hj hje hn
        simp only [List.map_cons, List.nodup_cons] at hn
        cases j with
        | zero =>
          simp at hje; subst hje
          simp only [List.eraseIdx_cons_zero]
          rw [List.filter_cons_of_neg (by simp)]
          rw [List.filter_eq_self]
          intro x hx
          simp only [decide_eq_true_eq]
          exact fun e => hn.1 (e ▸ List.mem_map.2 ⟨x, hx, rfl⟩)
        | succ j =>
          simp at hje hj
          have hy : y.born ≠ e.born := fun h => hn.1 (h ▸ List.mem_map.2 ⟨e, hje ▸ List.getElem_mem hj, rfl⟩)
          rw [List.filter_cons_of_pos (by simpa using hy), List.eraseIdx_cons_succ, ih j hj hje hn.2]
    exact key _ j hj hje hsubl)
instance yEntry {x : Operand} {r : Nat} {s t : Hp} {k v : Value} [hx : Ev L x (.pointer (some ⟨r, 0, none⟩))] [hc : Icu r s t k v] [hs : Seg R Γ s] [ht : Seg R Γ t] : Y P R L Γ (.entry x) (.tuple #[k, v]) := ⟨fun C n a w _ _ _ _ _ kn i => by
  obtain ⟨b, es, clk, seen, e, c0, rfl, rfl, he, rfl, rfl, rfl, hn⟩ := hc.out
  have hb := hs.out C w i (b, .map es c0) (by simp)
  have hr := ht.out C w i _ (List.mem_singleton_self _)
  simp [execOp, hx.out n a kn, run_entry_at (P := P) w r b c0 seen es c0 e hr hb he hn]⟩

/-! ### nil maps, maps in interfaces, clones -/
class NotI (P : Program) (t : TypeId) : Prop where
  out : ∀ v w, (Instr.makeInterface t v).run P w = .ok (.iface t v) w
theorem run_equalMapNil (w : World) (d : Nat) (t k e : TypeId) (p : Option Nat) (h : P.underlying t = some (.map k e)) : (Op.equalIn (d + 1) t (.map p) (.map none)).run P w = .ok p.isNone w := by
  cases p <;> simp [Op.equalIn, run_underlying h]
theorem run_eqMapNil (w : World) (t k e : TypeId) (p : Option Nat) (h : P.underlying t = some (.map k e)) : (binOp .eql t (.map p) (.map none)).run P w = .ok (.bool p.isNone) w := by
  simp only [binOp]
  simp [show Op.equal t (.map p) (.map none) = Op.equalIn (9999 + 1) t (.map p) (.map none) from rfl, run_equalMapNil w 9999 t k e p h]
instance biMapNil {t k e : TypeId} {b : Nat} [h : Und P t (.map k e)] : Bin P .eql t (.map (some b)) (.map none) (.bool false) := ⟨fun w => run_eqMapNil w t k e (some b) h.out, fun _ p q w => by unfold eqGuard; simp⟩
instance yMkI {t : TypeId} {x : Operand} {v : Value} [hx : Ev L x v] [hn : NotI P t] : Y P R L Γ (.makeInterface t x) (.iface t v) := ⟨fun C n a w _ _ _ _ _ kn i => by
  simp [execOp, hx.out n a kn, hn.out]⟩
instance yTyA {t xT k e : TypeId} {x : Operand} {v : Value} [hx : Ev L x (.iface t v)] [h : Und P t (.map k e)] : Y P R L Γ (.typeAssert x xT t false) v := ⟨fun C n a w _ _ _ _ _ kn i => by
  have e1 := hx.out n a kn
  have e2 : (Instr.typeAssert (.iface t v) xT t false).run P w = .ok v w := by
    simp [Instr.typeAssert, run_underlying h.out, go_sem, Result.andThen]
  simp only [execOp, e1, Sem.run_bind, e2, Result.andThen_ok, Sem.run_pure]⟩
/-- maps.clone, for which the model stands in -/
class Clo (P : Program) (f : FuncId) : Prop where
  out : ∀ T b es clk w, w.heap[b]? = some (.map es clk) → (callFunc f #[.iface T (.map (some b))]).run P w = .ok (.value (.iface T (.map (some w.heap.size)))) (w.alloc (.map es clk))
theorem Clo.of {f : FuncId} {fn : Func} (hf : P.funcs[f]? = some fn) (hname : (fn.name == "runtime.NumGoroutine") = false) (hb : fn.body.isNone = true) (hn : Extern.findNext fn = none) (he : Extern.find fn = some Extern.MapsClone.clone) : Clo P f := ⟨fun T b es clk w h => by
  have e : Extern.MapsClone.clone #[.iface T (.map (some b))] = (getObj b >>= fun o => match o with
      | .map entries clock => (newObj (.map entries clock) >>= fun n => pure (.iface T (.map (some n))))
      | _ => stuck "maps.clone: a map expected") := rfl
  rw [run_callFunc_extern hf hname hb hn he, e]
  simp [MapKept.run_getObj_map h, Result.andThen, go_sem]⟩
theorem v_clone {d f T : Nat} {x : Operand} {ats : Array TypeId} {ty : TypeId} {pos : String} {af : Array Edge} [hf : Clo P f] [hx : Ev L x (.iface T (.map (some b)))] [hm : OwnM b α β kv vv m s] [hs : Seg R Γ s] [hd : Is (Nat.ble n d = false)]
    (h : ∀ b' s', OwnM b' α β kv vv m s' → VK C R n ((d, .iface T (.map (some b'))) :: L) (s' :: Γ) K) : VK C R n L Γ (wp1 P all Q ⟨some d, .call ⟨.value (.func f), #[x], ats⟩, ty, pos, af, none⟩ K) := VK.mk fun a w kn i => wp1.mk (by
  obtain ⟨es, clk, rfl, h1, h2, h3, h4, h5⟩ := hm.out
  have hb := hs.out C w i (b, .map es clk) (by simp)
  have hrun : (execOp a.eval ⟨some d, .call ⟨.value (.func f), #[x], ats⟩, ty, pos, af, none⟩).run P w = .ok (.value (.iface T (.map (some w.heap.size)))) (w.alloc (.map es clk)) := by
    have hargs : (#[x] : Array Operand).map a.eval = #[.iface T (.map (some b))] := by simp [hx.out n a kn]
    generalize (#[x] : Array Operand) = xs at hargs
    simp [execOp, resolve, Act.eval, Deferred.ofValue, invoke, hargs, hf.out T b es clk w hb]
  simp only [Region.wanted, if_true]
  refine .inl ?_
  simp only [Oper.wp, hrun, Oper.upon]
  exact (h _ _ ⟨⟨es, clk, rfl, h1, h2, h3, h4, h5⟩⟩).out _ _ (kn.put (lt_of_ble hd.out)) (i.new _))
end
/-! ### many segments as one -/
theorem keys_one (Γ : List Hp) : keys [Γ.flatten] = keys Γ := by simp [keys]
theorem Inv.one {C : Cx} {R Γ : List Hp} {w : World} : Inv C R [Γ.flatten] w ↔ Inv C R Γ w := ⟨fun i => i.perm (by simp), fun i => i.perm (by simp)⟩
theorem Inv.oneR {C : Cx} {R Γ : List Hp} {w : World} : Inv C [R.flatten] Γ w ↔ Inv C R Γ w :=
  ⟨fun i => ⟨i.os, i.tape, i.output, i.size, by simpa using i.ro, i.own, i.nodup, fun b hb => by simpa [keys] using i.apart b hb, i.may, i.frame, i.dr⟩,
   fun i => ⟨i.os, i.tape, i.output, i.size, by simpa using i.ro, i.own, i.nodup, fun b hb => by simpa [keys] using i.apart b hb, i.may, i.frame, i.dr⟩⟩
theorem Spec.own {P : Program} {f : FuncId} {args : Array Value} {R Γ : List Hp} {Post : Value → List Hp → Prop} (h : Spec P f args R Γ Post) : Spec P f args R [Γ.flatten] fun v Γ' => ∃ Γ0, Γ' = [Γ0.flatten] ∧ Post v Γ0 := fun w i => by
  rw [keys_one] at i
  refine (h w (Inv.one.1 i)).mono ?_
  rintro e w' ⟨v, Γ', he, hp, j⟩
  exact ⟨v, [Γ'.flatten], he, ⟨Γ', rfl, hp⟩, by rw [keys_one]; exact Inv.one.2 j⟩
theorem Spec.out1 {P : Program} {f : FuncId} {args : Array Value} {R Γ : List Hp} {Post : Value → List Hp → Prop} (h : Spec P f args R Γ Post) : Spec P f args R Γ fun v Γ' => ∃ Γ0, Γ' = [Γ0.flatten] ∧ Post v Γ0 := fun w i => by
  refine (h w i).mono ?_
  rintro e w' ⟨v, Γ', he, hp, j⟩
  exact ⟨v, [Γ'.flatten], he, ⟨Γ', rfl, hp⟩, Inv.one.2 j⟩
theorem Spec.rd {P : Program} {f : FuncId} {args : Array Value} {R Γ : List Hp} {Post : Value → List Hp → Prop} (h : Spec P f args R Γ Post) : Spec P f args [R.flatten] Γ Post := fun w i => by
  refine (h w (Inv.oneR.1 i)).mono ?_
  rintro e w' ⟨v, Γ', he, hp, j⟩
  exact ⟨v, Γ', he, hp, Inv.oneR.2 j⟩
theorem Spec.weak {P : Program} {f : FuncId} {args : Array Value} {R Γ : List Hp} {Post Post' : Value → List Hp → Prop} (h : Spec P f args R Γ Post) (hp : ∀ v Γ', Post v Γ' → Post' v Γ') : Spec P f args R Γ Post' := fun w i => by
  refine (h w i).mono ?_
  rintro e w' ⟨v, Γ', he, h1, j⟩
  exact ⟨v, Γ', he, hp _ _ h1, j⟩
/-! ### slices that are made -/
theorem made_cells {α : Type} {cv : α → List Value} {sz : Nat} (hE : ∀ x, (cv x).length = sz) (h0 : 0 < sz) (z0 : α) (n : Nat) : (madeCells (cv z0).toArray (n * sz)).toList = cvs cv (List.replicate n z0) := by
  refine List.ext_getElem? fun k => ?_
  by_cases hk : k < n * sz
  · have e1 : k = k / sz * sz + k % sz := by rw [Nat.mul_comm]; exact (Nat.div_add_mod k sz).symm
    have hm : k % sz < sz := Nat.mod_lt _ h0
    have hd : k / sz < n := Nat.div_lt_of_lt_mul (by rwa [Nat.mul_comm])
    have hc := cvs_get hE (List.replicate n z0) (k / sz) z0 (by simp [hd])
    have : (cvs cv (List.replicate n z0))[k]? = (cv z0)[k % sz]? := by
      rw [← hc, List.getElem?_take, if_pos hm, List.getElem?_drop, ← e1]
    rw [this]
    have hl : k % sz < (cv z0).length := by rw [hE]; exact hm
    simp [madeCells, hk, hE, hm, List.getElem?_eq_getElem hl, getElem!_def]
  · rw [List.getElem?_eq_none (by simp [madeCells]; omega), List.getElem?_eq_none (by rw [cvs_len hE]; simp; omega)]
section
variable {P : Program} {C : Cx} {R : List Hp} {n : Nat} {all : Array Oper} {Q : Exit → Act → World → Prop} {L : Env} {Γ : List Hp} {rest : List Oper} {w : World} {K : Act → World → Prop} {e sz : Nat} {α : Type} {cv : α → List Value} {av : α → Value} {l : List α} {v : Value} {s : Hp}
theorem v_make {d T bytes : Nat} {x y : Operand} {kl kc : IntKind} {i j : Int} {z : Value} {ca : Array Value} {cs : List Value} {z0 : α} {ty : TypeId} {pos : String} {af : Array Edge} [hx : Ev L x (.int kl i)] [hy : Ev L y (.int kc j)] [ht : Und P T (.slice e)] [hE : ElT P e α sz cv av] [he : El P e sz bytes]
    [hz : Zr P e z] [hcu : Cel z ca] [hca : LisA ca cs] [hc : Cvt cv cs z0] [hp : Is (Nat.ble 1 bytes = true)] [hd : Is (Nat.ble n d = false)] (hb : 0 ≤ i ∧ i ≤ j ∧ j * bytes ≤ 140737488355328)
    (h : ∀ v s', OwnS v e α sz cv (List.replicate i.toNat z0) s' → (List.replicate i.toNat z0).length = i.toNat → VK C R n ((d, v) :: L) (s' :: Γ) K) : VK C R n L Γ (wp1 P all Q ⟨some d, .makeSlice T x y, ty, pos, af, none⟩ K) := VK.mk fun a w k iv => wp1.mk (by
  obtain ⟨ti, z', hi, hz', hsz, hbt, hcz, h0⟩ := he.out
  have hzz : z' = z := by
    have := hz.out w
    simp [zeroValue, typeInfo, hi, hz'] at this
    exact this
  subst hzz
  have hzc := hc.out
  have hca' := hca.out
  subst hca'
  subst hzc
  have h1 : 1 ≤ bytes := Nat.le_of_ble_eq_true hp.out
  have hj : j * 1 ≤ j * bytes := Int.mul_le_mul_of_nonneg_left (by omega) (by omega)
  have hbb : (ti.bytes : Int) * j ≤ 281474976710656 := by rw [hbt, Int.mul_comm]; omega
  have hr := run_make (P := P) w T e ti z' ht.out hi hz' kl kc i j hb.1 hb.2.1 hbb (by omega)
  have hrun : (execOp a.eval ⟨some d, .makeSlice T x y, ty, pos, af, none⟩).run P w = .ok (.value (.slice (some ⟨w.heap.size, 0, none⟩) i.toNat j.toNat)) (w.alloc (.cells (madeCells z'.cells (j.toNat * ti.size)) e)) := by
    simp [execOp, hx.out n a k, hy.out n a k, hr]
  simp only [Region.wanted, if_true]
  refine .inl ?_
  simp only [Oper.wp, hrun, Oper.upon]
  have hcel := hcu.out
  have hm := made_cells hE.len h0 z0 j.toNat
  rw [← hcel, ← hsz] at hm
  refine (h _ [(w.heap.size, .cells (madeCells z'.cells (j.toNat * ti.size)) e (0, 0))] ⟨?_⟩ (by simp)).out _ _ (k.put (lt_of_ble hd.out)) (iv.new _)
  have hij : i.toNat ≤ j.toNat := by omega
  refine ⟨cvs_len hE.len _, .inr ⟨w.heap.size, 0, j.toNat, madeCells z'.cells (j.toNat * ti.size), e, by simp, rfl, by simpa using hij, by unfold maxLen; omega, by simp [madeCells, hsz], ?_⟩⟩
  rw [List.drop_zero, hm, List.length_replicate]
  have e1 : List.replicate j.toNat z0 = List.replicate i.toNat z0 ++ List.replicate (j.toNat - i.toNat) z0 := by
    rw [List.replicate_append_replicate]; congr 1; omega
  rw [e1, cvs_append]
  exact List.take_left' (by rw [cvs_len hE.len, List.length_replicate]))
end
theorem AtS.le {v : Value} {e : Nat} {α : Type} {sz : Nat} {cv : α → List Value} {l : List α} {s : Hp} (h : AtS v e α sz cv l s) : l.length ≤ 9223372036854775807 := by
  rcases h.out.2 with ⟨_, h0⟩ | ⟨b, off, cap, cur, et, fr, _, _, h1, h2, _⟩
  · omega
  · unfold maxLen at h2; omega
theorem OwnS.le {v : Value} {e : Nat} {α : Type} {sz : Nat} {cv : α → List Value} {l : List α} {s : Hp} (h : OwnS v e α sz cv l s) : l.length ≤ 9223372036854775807 := AtS.le (ownAt (h := h))
theorem mget_mem {α β : Type} [DecidableEq α] {m : List (α × β)} {k : α} {v : β} (h : mget m k = some v) : (k, v) ∈ m := by
  induction m with
  | nil => simp [mget] at h
  | cons p r ih =>
    obtain ⟨x, y⟩ := p
    by_cases e : k = x
    · subst e; simp [mget] at h; simp [h]
    · simp [mget, e] at h; exact List.mem_cons_of_mem _ (ih h)
theorem mem_mget {α β : Type} [DecidableEq α] {m : List (α × β)} (hn : (m.map (·.1)).Nodup) {k : α} {v : β} (h : (k, v) ∈ m) : mget m k = some v := by
  obtain ⟨i, hi, he⟩ := List.getElem_of_mem h
  exact (mget_of_nodup hn (i := i) (p := (k, v)) (by rw [List.getElem?_eq_getElem hi, he]))
theorem OwnM.nodup {b : Nat} {α β : Type} {kv : α → Value} {vv : β → Value} {m : List (α × β)} {s : Hp} (h : OwnM b α β kv vv m s) : (m.map (·.1)).Nodup := by
  obtain ⟨_, _, _, _, _, h, _⟩ := h.out; exact h
end Go.SX
