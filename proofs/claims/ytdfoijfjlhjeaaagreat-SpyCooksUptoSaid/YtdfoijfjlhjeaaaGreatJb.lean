/- Texts in one: what the law's walk needs, part 2: contracts by symbolic execution; no condition. -/
import Derived.Maps.RangeRun
import Derived.Laws.Externs
import Derived.Laws.MakeOwn
import Derived.Laws.OwnMore
import Derived.Test.YtdfoijfjlhjeaaaGreatProg
import Derived.KernelRfl
import Derived.Laws.Strings
import Derived.Laws.Entries
import Derived.RangeFuncRecord
import Derived.WalkSmall
import Derived.Laws.BytesArg
import Derived.Laws.IdiomStrings
import Derived.Test.YtdfoijfjlhjeaaaGreatJa
set_option linter.unusedSimpArgs false
set_option linter.unusedVariables false
/- Symbolic execution: maps once more (going over a map, an entry written, clones), own parts of slices, memory grouped anew. -/
namespace Go.SX
set_option linter.unusedSimpArgs false
set_option linter.unusedVariables false
set_option linter.unusedSectionVars false
open Go Go.MapKept

theorem sameBits_agg (n : Nat) {l : List Value} (h : ∀ v ∈ l, Instr.sameBits n v v = true) : Instr.sameBits (n + 1) (.agg l.toArray) (.agg l.toArray) = true := by
  rw [Instr.sameBits]
  simp only [beq_self_eq_true, Bool.true_and, List.all_eq_true]
  intro p hp
  have : ∀ (l : List Value) (p : Value × Value), p ∈ l.zip l → p.1 = p.2 ∧ p.1 ∈ l := by
    intro l
    induction l with
    | nil => intro p hp; simp at hp
    | cons x l ih => intro p hp; simp only [List.zip_cons_cons, List.mem_cons] at hp ⊢; rcases hp with rfl | hp
                     · exact ⟨rfl, .inl rfl⟩
                     · exact ⟨(ih p hp).1, .inr (ih p hp).2⟩
  obtain ⟨h1, h2⟩ := this l p (by simpa using hp)
  rw [← h1]
  exact h _ h2
/-! ### memory grouped anew -/
section
variable {P : Program} {C : Cx} {R : List Hp} {n : Nat} {all : Array Oper} {Q : Exit → Act → World → Prop} {L : Env} {Γ : List Hp} {rest : List Oper} {w : World} {K : Act → World → Prop}
theorem v_re (Γ2 : List Hp) (hp : Γ.flatten.Perm Γ2.flatten) (h : VK C R n L Γ2 K) : VK C R n L Γ K := VK.mk fun a w k i => h.out a w k (i.perm hp)
/-- a segment taken apart -/
theorem v_spl {s a b : Hp} {Γ' : List Hp} (hp : s.Perm (a ++ b)) [hd : Del Γ s Γ'] (h : VK C R n L (a :: b :: Γ') K) : VK C R n L Γ K := v_re (a :: b :: Γ') (by
  refine hd.out.trans ?_
  simp only [List.flatten_cons, ← List.append_assoc]
  exact hp.append_right _) h
/-- .. and put together -/
theorem v_jn {s a b : Hp} {Γ' Γ2 : List Hp} (hp : s.Perm (a ++ b)) [hd : Del Γ a Γ'] [hd2 : Del Γ' b Γ2] (h : VK C R n L (s :: Γ2) K) : VK C R n L Γ K := v_re (s :: Γ2) (by
  refine hd.out.trans ((hd2.out.append_left a).trans ?_)
  simp only [List.flatten_cons, ← List.append_assoc]
  exact hp.symm.append_right _) h
/-- what is known follows from more than what is kept -/
theorem v_drop (Γ2 : List Hp) {Γd : List Hp} (hp : Γ.flatten.Perm (Γ2.flatten ++ Γd.flatten)) (h : VK C R n L Γ2 K) : VK C R n L Γ K := VK.mk fun a w k i => h.out a w k (i.take hp)

/-- segments taken out of a memory -/
class Dels (X : List Hp) (ex : List Hp) (Y : outParam (List Hp)) : Prop where
  out : ∀ x ∈ Y.flatten, x ∈ X.flatten
instance delsNil (X : List Hp) : Dels X [] X := ⟨fun _ h => h⟩
instance delsCons (X X1 Y ex : List Hp) (s : Hp) [h : Del X s X1] [h2 : Dels X1 ex Y] : Dels X (s :: ex) Y := ⟨fun x hx => h.out.mem_iff.2 (List.mem_append_right _ (h2.out x hx))⟩
/-- a drawn region with several writes: kl is the last; ex are the segments that are written before it -/
theorem v_drawnE (kl : Nat) (pl : Pl) (ex : List Hp) {X Y : List Hp} {id : Nat} {ops : Array Oper} [hm : Mixed P] [hx : App R Γ X] [hd : Dels X ex Y] [hs : Sub R R Γ] (hok : (Region.noSelect ops && Pl.ok ops kl ops.size (Array.replicate ops.size false) pl) = true)
    (h : VK C R n L Γ (KA P ops Q R kl Y true pl)) : VK C R n L Γ (KC P (.region id ops true) Q) := v_drawn (hst := ⟨fun x hy => hx.sub.out x (hd.out x hy)⟩) kl pl R Y hok h
/-- .. whose loads read what nothing writes -/
theorem v_drawnR (pl : Pl) {id : Nat} {ops : Array Oper} [hm : Mixed P] [hs : Sub R R Γ] (hok : (Region.noSelect ops && Pl.ok ops 1000000 ops.size (Array.replicate ops.size false) pl) = true)
    (h : VK C R n L Γ (KA P ops Q R 1000000 [] true pl)) : VK C R n L Γ (KC P (.region id ops true) Q) := v_drawn 1000000 pl R [] hok h
/-- an element of an array that is written out -/
instance ycIndexArr {T e len m : Nat} {x ix : Operand} {k : IntKind} {cs : Array Value} {v : Value} [hx : Ev L x (.agg cs)] [hi : Ev L ix (.int k (@OfNat.ofNat Int m (@instOfNat m)))] [ht : Und P T (.array len e)] [hs : Sc P e] [hz : Sz P e 1] [ha : At cs m v] :
    YC P R L Γ (.index T x ix) ((@OfNat.ofNat Int m (@instOfNat m)) < (len : Int)) (fun _ => v) := ⟨fun h => ⟨fun C n a w _ _ _ _ _ kn i => by
  have h0 : (0 : Int) ≤ @OfNat.ofNat Int m (@instOfNat m) := Int.natCast_nonneg m
  have h1 : (@OfNat.ofNat Int m (@instOfNat m)).toNat = m := rfl
  have hp : ∀ w, (part e cs (m * 1)).run P w = .ok v w := fun w => by
    simp [part, hs.out, ha.out]
  simp only [execOp, hx.out n a kn, hi.out n a kn, Instr.index, asIntOf, underlying, Sem.run_bind, Sem.run_pure, Result.andThen_ok, run_program, ht.out, h0, h, and_self, if_true, hz.out, h1, hp]⟩⟩
/-! ### own parts of slices -/
variable {e sz : Nat} {α : Type} {cv : α → List Value} {av : α → Value} {l : List α} {v : Value} {s : Hp}
theorem OwnS.sub (hE : ∀ x, (cv x).length = sz) (hs : OwnS v e α sz cv l s) {lo hi : Nat} (h1 : lo ≤ hi) (h2 : hi ≤ l.length) : OwnS (slSub sz v lo hi) e α sz cv ((l.take hi).drop lo) s := ⟨by
  have hlen : ((l.take hi).drop lo).length = hi - lo := by rw [List.length_drop, List.length_take]; omega
  refine ⟨cvs_len hE _, ?_⟩
  rcases hs.out.2 with ⟨rfl, h0, h00⟩ | ⟨b, off, cap, cur, eb, rfl, rfl, h3, h4, h5, h6⟩
  · have e1 : lo = 0 := by omega
    have e2 : hi = 0 := by omega
    subst e1; subst e2
    exact .inl ⟨by simp [slSub], by simp, h00⟩
  · have e0 : cvs cv ((l.take hi).drop lo) = ((cur.toList.drop (off + lo * sz)).take ((hi - lo) * sz)) := by
      rw [cvs_sub hE l lo hi h1 h2, ← h6, List.drop_take, List.take_take, List.drop_drop]
      congr 1
      have : (lo + (hi - lo)) * sz ≤ l.length * sz := Nat.mul_le_mul_right _ (by omega)
      rw [Nat.add_mul] at this
      omega
    by_cases hc : cap = lo
    · subst hc
      have : hi = cap := by omega
      subst this
      refine .inr ⟨b, off, 0, cur, eb, by simp [slSub, hlen], rfl, by rw [hlen]; omega, Nat.zero_le _, by omega, ?_⟩
      rw [e0]; simp [hlen]
    · refine .inr ⟨b, off + lo * sz, cap - lo, cur, eb, ?_, rfl, by rw [hlen]; omega, by omega, ?_, by rw [e0, hlen]⟩
      · simp [slSub, hc, add_at, hlen]
      · have e3 : (lo + (cap - lo)) * sz = cap * sz := by congr 1; omega
        rw [Nat.add_mul] at e3
        omega⟩
instance (priority := high) sbBO {T : Nat} {x lo hi : Operand} {k k' : IntKind} {i j : Int} [hx : Ev L x v] [hlo : Ev L lo (.int k i)] [hhi : Ev L hi (.int k' j)] [ht : Und P T (.slice e)] [hs : OwnS v e α sz cv l s] [hz : Sz P e sz] [hE : ElT P e α sz cv av] :
    Sb P R L Γ (.slice T x (some lo) (some hi) none) (0 ≤ i ∧ i ≤ j ∧ j ≤ l.length) (fun u => OwnS u e α sz cv ((l.take j.toNat).drop i.toNat) s ∧ (((l.take j.toNat).drop i.toNat).length : Int) = j - i) := ⟨fun h => ⟨_, ⟨hs.sub hE.len (lo := i.toNat) (hi := j.toNat) (by omega) (by omega), by simp only [List.length_drop, List.length_take]; omega⟩, y_subB h.1 h.2.1 h.2.2⟩⟩
instance (priority := high) sbLO {T : Nat} {x lo : Operand} {k : IntKind} {i : Int} [hx : Ev L x v] [hlo : Ev L lo (.int k i)] [ht : Und P T (.slice e)] [hs : OwnS v e α sz cv l s] [hz : Sz P e sz] [hE : ElT P e α sz cv av] :
    Sb P R L Γ (.slice T x (some lo) none none) (0 ≤ i ∧ i ≤ l.length) (fun u => OwnS u e α sz cv (l.drop i.toNat) s ∧ ((l.drop i.toNat).length : Int) = l.length - i) := ⟨fun h => ⟨_, ⟨by simpa using hs.sub hE.len (lo := i.toNat) (hi := l.length) (by omega) (by omega), by simp only [List.length_drop]; omega⟩, y_subL h.1 h.2⟩⟩
instance (priority := high) sbHO {T : Nat} {x hi : Operand} {k' : IntKind} {j : Int} [hx : Ev L x v] [hhi : Ev L hi (.int k' j)] [ht : Und P T (.slice e)] [hs : OwnS v e α sz cv l s] [hz : Sz P e sz] [hE : ElT P e α sz cv av] :
    Sb P R L Γ (.slice T x none (some hi) none) (0 ≤ j ∧ j ≤ l.length) (fun u => OwnS u e α sz cv (l.take j.toNat) s ∧ ((l.take j.toNat).length : Int) = j) := ⟨fun h => ⟨_, ⟨by simpa using hs.sub hE.len (lo := 0) (hi := j.toNat) (by omega) (by omega), by simp only [List.length_take]; omega⟩, y_subH h.1 h.2⟩⟩
/-- a slice literal is the call's own -/
theorem OwnS.litA {b eb : Nat} {cs : Array Value} (k : Nat) (xs : List α) (hc : cvs cv xs = cs.toList) (hl : cs.toList.length = k * sz) (hk : k ≤ maxLen) (hx : xs.length = k) : OwnS (.slice (some ⟨b, 0, none⟩) k k) e α sz cv xs [(b, .cells cs eb (0, 0))] := ⟨by
  rw [hc, hx]
  refine ⟨hl, .inr ⟨b, 0, k, cs, _, rfl, rfl, Nat.le_refl _, hk, ?_, ?_⟩⟩
  · rw [← Array.length_toList, hl]; omega
  · rw [List.drop_zero, List.take_of_length_le (Nat.le_of_eq hl)]⟩
theorem OwnS.lit {b : Nat} {cs : Array Value} (k : Nat) (xs : List α) (hc : cvs cv xs = cs.toList) (hl : cs.toList.length = k * sz) (hk : k ≤ maxLen) (hx : xs.length = k) : OwnS (.slice (some ⟨b, 0, none⟩) k k) e α sz cv xs [(b, .cells cs e (0, 0))] := OwnS.litA k xs hc hl hk hx
theorem OwnS.lit1 {b : Nat} {cs : Array Value} (x : α) (hE : ∀ x, (cv x).length = sz) (hc : cs.toList = cv x) : OwnS (.slice (some ⟨b, 0, none⟩) 1 1) e α sz cv [x] [(b, .cells cs e (0, 0))] :=
  OwnS.lit 1 [x] (by rw [cvs_one, hc]) (by rw [hc, hE]; omega) (by unfold maxLen; omega) rfl
end

/-! ### an entry of a map written in place -/
section
variable {α β : Type} [DecidableEq α] {kv : α → Value} {vv : β → Value}
theorem mput_mput (m : List (α × β)) (k : α) (u v : β) : mput (mput m k u) k v = mput m k v := by
  induction m with
  | nil => simp [mput]
  | cons p r ih => obtain ⟨x, y⟩ := p; by_cases h : k = x <;> simp [mput, h, ih]
theorem mput_same {m : List (α × β)} {k : α} {v : β} (h : mget m k = some v) : mput m k v = m := by
  induction m with
  | nil => simp [mget] at h
  | cons p r ih =>
    obtain ⟨x, y⟩ := p
    by_cases hx : k = x
    · subst hx; simp [mget] at h; simp [mput, h]
    · simp [mget, hx] at h; simp [mput, hx, ih h]
theorem mget_of_nodup {m : List (α × β)} (hn : (m.map (·.1)).Nodup) {i : Nat} {p : α × β} (h : m[i]? = some p) : mget m p.1 = some p.2 := by
  induction m generalizing i with
  | nil => simp at h
  | cons x r ih =>
    cases i with
    | zero => simp at h; subst h; simp [mget]
    | succ i =>
      simp only [List.map_cons, List.nodup_cons] at hn
      simp at h
      have : p.1 ≠ x.1 := fun e => hn.1 (e ▸ List.mem_map.2 ⟨p, List.mem_of_getElem? h, rfl⟩)
      obtain ⟨a, b⟩ := x
      simp only [mget, if_neg this]
      exact ih hn.2 h
/-- the entry of key k has this stamp -/
class Stm (b : Nat) (k : outParam Value) (st : Value) (s : outParam Hp) : Prop where
  out : ∃ (es : Array MapEntry) (clk i : Nat) (e : MapEntry), s = [(b, .map es clk)] ∧ es[i]? = some e ∧ e.key = k ∧ st = .int .i64 (e.born : Nat)
variable {P : Program} {C : Cx} {R : List Hp} {n : Nat} {all : Array Oper} {Q : Exit → Act → World → Prop} {L : Env} {Γ : List Hp} {rest : List Oper} {w : World} {K : Act → World → Prop} {m : List (α × β)} {s : Hp} {b : Nat}
theorem run_mapEntry {T kt et : TypeId} {k : α} {z0 : β} {z : Value} {es : Array MapEntry} {clk : Nat} (ht : P.underlying T = some (.map kt et)) [hk : KeyT P kt α kv] (hz : Zr P et z) (hv : vv z0 = z) (hb : w.heap[b]? = some (.map es clk)) (hm : MpAt kv vv b m [(b, .map es clk)]) :
    ∃ es' clk' st, (Instr.mapEntry T (.map (some b)) (kv k)).run P w = .ok (.tuple #[vv ((mget m k).getD z0), st]) { w with heap := w.heap.setIfInBounds b (.map es' clk') } ∧ MpAt kv vv b (mput m k ((mget m k).getD z0)) [(b, .map es' clk')] ∧ Stm b (kv k) st [(b, .map es' clk')] := by
  obtain ⟨es0, clk0, heq, h1, h2, h3, h4, h5⟩ := hm
  obtain ⟨rfl, rfl⟩ : es = es0 ∧ clk = clk0 := by simpa using heq
  have hf := run_find (P := P) (kt := kt) h1 k w
  have hl : es.size = m.length := by have := congrArg List.length h1; simpa using this
  cases hg : mget m k with
  | some u =>
    obtain ⟨j, hj, hkj, hp⟩ := (findE_spec (vv := vv) m es.toList 0 h2).1 u hg
    rw [hj] at hf
    simp only [Nat.zero_add] at hf
    have hkeyj : ∃ e, es[j]? = some e ∧ e.key = kv k := by
      have e1 : (es.toList.map (·.key))[j]? = some (kv k) := by
        rw [h1, show (m.map fun p => kv p.1) = (m.map (·.1)).map kv by simp, List.getElem?_map, hkj]; rfl
      rw [List.getElem?_map] at e1
      cases e : es.toList[j]? with
      | none => rw [e] at e1; cases e1
      | some e0 => rw [e] at e1; exact ⟨e0, by rw [← Array.getElem?_toList]; exact e, by simpa using e1⟩
    obtain ⟨e0, he0, hek⟩ := hkeyj
    have hsame : es.modify j (fun e => { e with key := kv k }) = es := by
      apply Array.ext_getElem?
      intro i
      rw [Array.getElem?_modify]
      split
      · rename_i hij; subst hij
        rw [he0]; simp [← hek]
      · rfl
    refine ⟨es, clk, .int .i64 (e0.born : Nat), ?_, ?_, ⟨es, clk, j, e0, rfl, he0, hek, rfl⟩⟩
    · simp [Instr.mapEntry, run_underlying ht, MapKept.run_getObj_map hb, hk.chk, hf, Instr.keyThatStays, he0, hek, hk.same, MapKept.run_setObj_map _ hb, hsame, goInt]
    · rw [Option.getD_some, mput_same hg]
      exact ⟨es, clk, rfl, h1, h2, h3, h4, h5⟩
  | none =>
    have hj := (findE_spec (vv := vv) m es.toList 0 h2).2 hg
    rw [hj] at hf
    have hnk := mget_none.1 hg
    refine ⟨es.push { key := kv k, val := vv z0, born := clk }, clk + 1, .int .i64 (clk : Nat), ?_, ⟨_, clk + 1, rfl, ?_, ?_, ?_, ?_, ?_⟩, ⟨_, _, es.size, { key := kv k, val := vv z0, born := clk }, rfl, by simp, rfl, rfl⟩⟩
    · simp [Instr.mapEntry, run_underlying ht, MapKept.run_getObj_map hb, hk.chk, hf, MapKept.run_setObj_map _ hb, hz.out, hv, goInt]
    · rw [Option.getD_none, mput_new hnk]; simp [h1]
    · rw [Option.getD_none, mput_new hnk]; simp [h2]
    · exact mput_nodup h3
    · simp only [Array.toList_push, List.map_append, List.map_cons, List.map_nil]
      rw [List.pairwise_append]
      refine ⟨h4, by simp, fun x hx y hy => ?_⟩
      simp at hy; subst hy
      obtain ⟨e, he, rfl⟩ := List.mem_map.1 hx
      exact h5 e he
    · intro e he
      simp only [Array.toList_push, List.mem_append, List.mem_singleton] at he
      rcases he with he | rfl
      · exact Nat.lt_succ_of_lt (h5 e he)
      · exact Nat.lt_succ_self _
class KInj {α : Type} (kv : α → Value) : Prop where
  out : ∀ x y : α, kv x = kv y → x = y
instance (q : IntKind) : KInj (fun x => .int q x) := ⟨fun x y h => by simpa using h⟩
/-- what a map is known to hold at a key -/
class Mg (m : List (α × β)) (k : α) (v : outParam β) : Prop where
  out : mget m k = some v
instance mgPut (m : List (α × β)) (k : α) (v : β) : Mg (mput m k v) k v := ⟨by rw [mget_mput, if_pos rfl]⟩
instance (priority := high) yLkM {s : Hp} {T kt et : Nat} {x ix : Operand} {u : Value} {k : α} {v : β} [hx : Ev L x (.map (some b))] [hi : Ev L ix u] [ht : Und P T (.map kt et)] [hm : OwnM b α β kv vv m s] [hk : KeyT P kt α kv] [hu : Kvt kv u k] [hg : Mg m k v] [hs : Seg R Γ s] :
    Y P R L Γ (.lookup T x ix false) (vv v) := by
  have e := hu.out
  subst e
  exact y_lookS (kt := kt) (et := et) hm.out hg.out
theorem v_ment {d T kt et : Nat} {x ix : Operand} {u z : Value} {k : α} {z0 : β} {Γ' : List Hp} {ty : TypeId} {pos : String} {af : Array Edge} [hx : Ev L x (.map (some b))] [hi : Ev L ix u] [ht : Und P T (.map kt et)] [hm : OwnM b α β kv vv m s] [hk : KeyT P kt α kv] [hu : Kvt kv u k] [hz : Zr P et z] [hv : Vvt vv z z0] [hdel : Del Γ s Γ'] [hd : Is (Nat.ble n d = false)]
    (h : ∀ st s', OwnM b α β kv vv (mput m k ((mget m k).getD z0)) s' → Stm b (kv k) st s' → VK C R n ((d, .tuple #[vv ((mget m k).getD z0), st]) :: L) (s' :: Γ') K) : VK C R n L Γ (wp1 P all Q ⟨some d, .mapEntry T x ix, ty, pos, af, none⟩ K) := VK.mk fun a w kn i => wp1.mk (by
  have e := hu.out
  subst e
  obtain ⟨es, clk, rfl, hrest⟩ := hm.out
  have ip : Inv C R ([(b, .map es clk)] :: Γ') w := i.perm (by simpa using hdel.out)
  have hb := ip.own (b, .map es clk) (by simp)
  obtain ⟨es', clk', st, hr, h1, h2⟩ := run_mapEntry (kt := kt) (k := k) ht.out hz hv.out hb ⟨es, clk, rfl, hrest⟩
  have hrun : (execOp a.eval ⟨some d, .mapEntry T x ix, ty, pos, af, none⟩).run P w = .ok (.value (.tuple #[vv ((mget m k).getD z0), st])) { w with heap := w.heap.setIfInBounds b (.map es' clk') } := by
    simp [execOp, hx.out n a kn, hi.out n a kn, hr]
  simp only [Region.wanted, if_true]
  refine .inl ?_
  simp only [Oper.wp, hrun, Oper.upon]
  exact (h st _ ⟨h1⟩ h2).out _ _ (kn.put (lt_of_ble hd.out)) ip.setMap)
theorem v_esto {T : Nat} {x ix y : Operand} {st uy : Value} {k : α} {v : β} {s2 : Hp} {Γ' : List Hp} {ty : TypeId} {pos : String} {af : Array Edge} {kk : Value} [hx : Ev L x (.map (some b))] [hi : Ev L ix st] [hy : Ev L y uy] [hst : Stm b kk st s2] [hm : OwnM b α β kv vv m s2] [hku : Kvt kv kk k] [hv : Vvt vv uy v] [hdel : Del Γ s2 Γ'] [hkey : KInj kv]
    (h : ∀ s', OwnM b α β kv vv (mput m k v) s' → VK C R n L (s' :: Γ') K) : VK C R n L Γ (wp1 P all Q ⟨none, .entryStore T x ix y, ty, pos, af, none⟩ K) := VK.mk fun a w kn i => wp1.mk (by
  have e2 := hv.out
  subst e2
  have e3 := hku.out
  subst e3
  obtain ⟨es, clk, j, e, rfl, hj, hek, rfl⟩ := hst.out
  obtain ⟨es0, clk0, heq, h1, h2, h3, h4, h5⟩ := hm.out
  obtain ⟨rfl, rfl⟩ : es = es0 ∧ clk = clk0 := by simpa using heq
  have ip : Inv C R ([(b, .map es clk)] :: Γ') w := i.perm (by simpa using hdel.out)
  have hb := ip.own (b, .map es clk) (by simp)
  have hjl : j < es.size := (Array.getElem?_eq_some_iff.1 hj).1
  have hej : es[j] = e := by rw [Array.getElem?_eq_getElem hjl] at hj; exact Option.some.inj hj
  have hfind : es.findIdx? (fun x => (x.born : Int) == (e.born : Int)) = some j := by
    rw [Array.findIdx?_eq_some_iff_getElem]
    refine ⟨hjl, by simp [hej], fun i hi => ?_⟩
    have := List.pairwise_iff_getElem.1 h4 i j (by simp; omega) (by simpa using hjl) hi
    simp only [List.getElem_map, Array.getElem_toList, hej] at this
    simp; omega
  have hl : es.size = m.length := by have := congrArg List.length h1; simpa using this
  have hmj : (m.map (·.1))[j]? = some k := by
    have e1 : (es.toList.map (·.key))[j]? = some (kv k) := by rw [List.getElem?_map, Array.getElem?_toList, hj]; simp [hek]
    rw [h1, List.getElem?_map] at e1
    rw [List.getElem?_map]
    cases hm' : m[j]? with
    | none => rw [hm'] at e1; cases e1
    | some p => rw [hm'] at e1; simp at e1 ⊢; exact hkey.out _ _ e1
  have hput : mput m k v = m.set j (k, v) := by
    have hge : ∃ u, mget m k = some u := by
      cases hg : mget m k with
      | some u => exact ⟨u, rfl⟩
      | none => exact absurd (List.mem_of_getElem? hmj) (mget_none.1 hg)
    obtain ⟨u, hu⟩ := hge
    obtain ⟨j', _, hkj, hp⟩ := (findE_spec (vv := vv) m es.toList 0 h2).1 u hu
    have : j' = j := by
      have a1 := (List.getElem?_eq_some_iff.1 hkj).1
      have a2 := (List.getElem?_eq_some_iff.1 hmj).1
      have b1 := (List.getElem?_eq_some_iff.1 hkj).2
      have b2 := (List.getElem?_eq_some_iff.1 hmj).2
      exact (List.getElem_inj h3).1 (b1.trans b2.symm)
    subst this
    exact congrFun hp v
  have hrun : (execOp a.eval ⟨none, .entryStore T x ix y, ty, pos, af, none⟩).run P w = .ok .skip { w with heap := w.heap.setIfInBounds b (.map (es.modify j fun e => { e with val := vv v }) clk) } := by
    simp [execOp, hx.out n a kn, hi.out n a kn, hy.out n a kn, Instr.entryStore, MapKept.run_getObj_map hb, asInt, asIntOf, hfind, MapKept.run_setObj_map _ hb]
  simp only [Region.wanted, if_true]
  refine .inl ?_
  simp only [Oper.wp, hrun, Oper.upon]
  refine (h _ ⟨_, clk, rfl, ?_, ?_, mput_nodup h3, ?_, ?_⟩).out _ _ kn.putNone ip.setMap
  · have e1 : (mput m k v).map (fun p => kv p.1) = es.toList.map (·.key) := by
      rw [h1, show ((mput m k v).map fun p => kv p.1) = ((mput m k v).map (·.1)).map kv by simp, mput_keys (List.mem_of_getElem? hmj)]
      simp
    rw [e1]
    refine List.ext_getElem? fun i => ?_
    rw [Array.toList_modify, List.getElem?_map, List.getElem?_map, List.getElem?_modify]
    by_cases hij : j = i
    · subst hij; simp [hj]
    · simp [hij]
  · have e1 : (mput m k v).map (fun p => vv p.2) = (es.toList.map (·.val)).set j (vv v) := by rw [h2, hput, List.map_set]
    rw [e1]
    refine List.ext_getElem? fun i => ?_
    rw [Array.toList_modify, List.getElem?_map, List.getElem?_modify, List.getElem?_set, List.getElem?_map]
    by_cases hij : j = i
    · subst hij; simp [hjl]
    · simp [hij]
  · have e1 : (es.modify j fun e => { e with val := vv v }).toList.map (·.born) = es.toList.map (·.born) := by
      refine List.ext_getElem? fun i => ?_
      rw [Array.toList_modify, List.getElem?_map, List.getElem?_map, List.getElem?_modify]
      by_cases hij : j = i
      · subst hij; simp [hjl]
      · simp [hij]
    rw [e1]; exact h4
  · intro e' he
    obtain ⟨i, hi, rfl⟩ := List.getElem_of_mem he
    have hi' : i < es.size := by simpa using hi
    have := h5 es[i] (by simp)
    simp only [Array.getElem_toList, Array.getElem_modify]
    split
    · exact this
    · exact this)

/-! ### going over a map -/
/-- the iterator in block r, over the map m in block b: rest is what hasn't come yet -/
class Itr (r : Nat) (b : outParam Nat) (α β : outParam Type) (kv : outParam (α → Value)) (vv : outParam (β → Value)) (m : outParam (List (α × β))) (s : outParam Hp) (rest : outParam (List (α × β))) (t : outParam Hp) : Prop where
  out : ∃ (es : Array MapEntry) (clk : Nat) (seen : Array Nat) (c0 : Nat), s = [(b, .map es clk)] ∧ t = [(r, .mapIter (some b) clk seen c0)] ∧ clk ≤ c0 ∧ (leftOf es seen).toList.map (fun e => (e.key, e.val)) = rest.map (fun p => (kv p.1, vv p.2)) ∧ (rest.map (·.1)).Nodup ∧ (∀ p ∈ rest, p ∈ m)
/-- the entry that came last -/
class Icu (r : Nat) (s : outParam Hp) (t : outParam Hp) (k v : outParam Value) : Prop where
  out : ∃ (b : Nat) (es : Array MapEntry) (clk : Nat) (seen : Array Nat) (e : MapEntry) (c0 : Nat), s = [(b, .map es clk)] ∧ t = [(r, .mapIter (some b) clk (seen.push e.born) clk)] ∧ e ∈ es.toList ∧ e.key = k ∧ e.val = v ∧ c0 = clk ∧ (es.toList.map (·.born)).Nodup
theorem v_rng {d T kt et : Nat} {x : Operand} {ty : TypeId} {pos : String} {af : Array Edge} [hx : Ev L x (.map (some b))] [ht : Und P T (.map kt et)] [hm : OwnM b α β kv vv m s] [hs : Seg R Γ s] [hd : Is (Nat.ble n d = false)]
    (h : ∀ r t, Itr r b α β kv vv m s m t → VK C R n ((d, .pointer (some ⟨r, 0, none⟩)) :: L) (t :: Γ) K) : VK C R n L Γ (wp1 P all Q ⟨some d, .range T x, ty, pos, af, none⟩ K) := VK.mk fun a w kn i => wp1.mk (by
  obtain ⟨es, clk, rfl, h1, h2, h3, h4, h5⟩ := hm.out
  have hb := hs.out C w i (b, .map es clk) (by simp)
  have hrun : (execOp a.eval ⟨some d, .range T x, ty, pos, af, none⟩).run P w = .ok (.value (.pointer (some ⟨w.heap.size, 0, none⟩))) (w.alloc (.mapIter (some b) clk #[] clk)) := by
    have := run_range_map (P := P) w T kt et b es clk ht.out hb
    simp [execOp, hx.out n a kn, this]
  simp only [Region.wanted, if_true]
  refine .inl ?_
  simp only [Oper.wp, hrun, Oper.upon]
  refine (h _ _ ⟨es, clk, #[], clk, rfl, rfl, Nat.le_refl _, ?_, h3, fun p hp => hp⟩).out _ _ (kn.put (lt_of_ble hd.out)) (i.new _)
  have e1 : leftOf es #[] = es := by unfold leftOf; simp
  rw [e1]
  refine List.ext_getElem? fun j => ?_
  have k1 := congrArg (·[j]?) h1
  have k2 := congrArg (·[j]?) h2
  simp only [List.getElem?_map] at k1 k2 ⊢
  cases e1 : es.toList[j]? with
  | none =>
    rw [e1] at k1
    cases e2 : m[j]? with
    | none => rfl
    | some p => rw [e2] at k1; cases k1
  | some e =>
    rw [e1] at k1 k2
    cases e2 : m[j]? with
    | none => rw [e2] at k1; cases k1
    | some p => rw [e2] at k1 k2; simp at k1 k2 ⊢; exact ⟨k1, k2⟩)
theorem Inv.setIt {r : Nat} {o o' : Obj} (i : Inv C R ([(r, o)] :: Γ) w) : Inv C R ([(r, o')] :: Γ) (ChangeMaps.setBlock w r o') := by
  have hb := i.own (r, o) (by simp)
  have hlt : r < w.heap.size := (Array.getElem?_eq_some_iff.1 hb).1
  exact i.upd (updHere Γ r o) (by simp [ChangeMaps.setBlock, hlt]) (fun k hk => by simp [ChangeMaps.setBlock, Array.getElem?_setIfInBounds_ne (Ne.symm hk)]) (by simp [ChangeMaps.setBlock]) rfl rfl rfl rfl
theorem v_nxt {d r : Nat} {x : Operand} {t : Hp} {left : List (α × β)} {Γ' : List Hp} {ty : TypeId} {pos : String} {af : Array Edge} [hx : Ev L x (.pointer (some ⟨r, 0, none⟩))] [hi : Itr r b α β kv vv m s left t] [hm : OwnM b α β kv vv m s] [hdel : Del Γ t Γ'] [hs : Seg R Γ' s] [hd : Is (Nat.ble n d = false)]
    (h0 : left = [] → VK C R n ((d, .tuple #[.bool false]) :: L) Γ K)
    (h1 : ∀ k v t', (k, v) ∈ left → (k, v) ∈ m → Itr r b α β kv vv m s (mdel left k) t' → Icu r s t' (kv k) (vv v) → VK C R n ((d, .tuple #[.bool true, kv k, vv v]) :: L) (t' :: Γ') K) : VK C R n L Γ (wp1 P all Q ⟨some d, .next x false, ty, pos, af, none⟩ K) := VK.mk fun a w kn i => wp1.mk (by
  obtain ⟨es, clk, seen, c0, hseq, rfl, hc0, hl, hnd, hsub⟩ := hi.out
  obtain ⟨es0, clk0, hs0, g1, g2, g3, g4, g5⟩ := hm.out
  subst hseq
  obtain ⟨rfl, rfl⟩ : es = es0 ∧ clk = clk0 := by simpa using hs0
  have ip : Inv C R ([(r, .mapIter (some b) clk seen c0)] :: Γ') w := i.perm (by simpa using hdel.out)
  have hr := ip.own (r, .mapIter (some b) clk seen c0) (by simp)
  have hb := hs.out C w (Inv.drop ip) (b, .map es clk) (by simp)
  simp only [Region.wanted, if_true]
  refine .inl ?_
  rcases run_next_at (P := P) w ty r b clk c0 seen es clk hr hb g5 hc0 with ⟨hz, hrun⟩ | ⟨e, he, w1, hw1, hrun⟩
  · have hleft : left = [] := by
      have := congrArg List.length hl
      simp only [List.length_map, Array.length_toList, hz] at this
      exact List.eq_nil_of_length_eq_zero this.symm
    have hrun' : (execOp a.eval ⟨some d, .next x false, ty, pos, af, none⟩).run P w = .ok (.value (.tuple #[.bool false])) w := by
      simp [execOp, hx.out n a kn, hrun]
    simp only [Oper.wp, hrun', Oper.upon]
    exact (h0 hleft).out _ _ (kn.put (lt_of_ble hd.out)) i
  · have hrun' : (execOp a.eval ⟨some d, .next x false, ty, pos, af, none⟩).run P w = .ok (.value (.tuple #[.bool true, e.key, e.val])) (ChangeMaps.setBlock w1 r (.mapIter (some b) clk (seen.push e.born) clk)) := by
      simp [execOp, hx.out n a kn, hrun]
    simp only [Oper.wp, hrun', Oper.upon]
    have hbn : (es.toList.map (·.born)).Nodup := g4.imp (fun h => Nat.ne_of_lt h)
    obtain ⟨j, hj, hje⟩ := List.getElem_of_mem he
    have hlj : ∃ p, left[j]? = some p ∧ kv p.1 = e.key ∧ vv p.2 = e.val := by
      have := congrArg (·[j]?) hl
      simp only [List.getElem?_map, List.getElem?_eq_getElem hj, hje] at this
      cases hp : left[j]? with
      | none => rw [hp] at this; cases this
      | some p => rw [hp] at this; simp at this; exact ⟨p, rfl, this.1.symm, this.2.symm⟩
    obtain ⟨⟨k, v⟩, hkj, hk, hv⟩ := hlj
    simp only at hk hv
    rw [← hk, ← hv]
    have hmem : (k, v) ∈ left := List.mem_of_getElem? hkj
    have ip1 : Inv C R ([(r, .mapIter (some b) clk seen c0)] :: Γ') w1 := by
      rcases hw1 with rfl | rfl
      · exact ip
      · exact ip.drew
    refine (h1 k v _ hmem (hsub _ hmem) ⟨es, clk, seen.push e.born, clk, rfl, rfl, Nat.le_refl _, ?_, mdel_nodup hnd, fun p hp => hsub p (List.mem_filter.1 hp).1⟩ ⟨b, es, clk, seen, e, clk, rfl, rfl, by
      have := (List.mem_of_getElem? (List.getElem?_eq_getElem hj) : _ ∈ (leftOf es seen).toList)
      rw [hje] at this
      unfold leftOf at this
      simp at this ⊢; exact this.1, hk.symm, hv.symm, rfl, hbn⟩).out _ _ (kn.put (lt_of_ble hd.out)) ip1.setIt
    have hkl : (left.map (·.1))[j]? = some k := by rw [List.getElem?_map, hkj]; rfl
    rw [mdel_erase hnd hkl, ← eraseIdx_map', ← hl, eraseIdx_map']
    congr 1
    have hsubl : ((leftOf es seen).toList.map (·.born)).Nodup := by
      unfold leftOf
      rw [Array.toList_filter]
      exact hbn.sublist (List.filter_sublist.map _)
    have e2 : (leftOf es (seen.push e.born)).toList = (leftOf es seen).toList.filter (fun x => decide (x.born ≠ e.born)) := by
      unfold leftOf
      rw [Array.toList_filter, Array.toList_filter, List.filter_filter]
      apply List.filter_congr
      intro x _
      by_cases hx : x.born = e.born <;> simp [hx, Array.contains_push]
    rw [e2]
    have key : ∀ (l : List MapEntry) (j : Nat) (hj : j < l.length), l[j] = e → (l.map (·.born)).Nodup → l.filter (fun x => decide (x.born ≠ e.born)) = l.eraseIdx j := by
      intro l
      induction l with
      | nil => intro j hj; simp at hj
      | cons y l ih =>
        intro j hj hje hn
        simp only [List.map_cons, List.nodup_cons] at hn
        cases j with
        | zero =>
          simp at hje; subst hje
          simp only [List.eraseIdx_cons_zero]
          rw [List.filter_cons_of_neg (by simp)]
          rw [List.filter_eq_self]
          intro x hx
          simp only [decide_eq_true_eq]
          exact fun e => hn.1 (e ▸ List.mem_map.2 ⟨x, hx, rfl⟩)
        | succ j =>
          simp at hje hj
          have hy : y.born ≠ e.born := fun h => hn.1 (h ▸ List.mem_map.2 ⟨e, hje ▸ List.getElem_mem hj, rfl⟩)
          rw [List.filter_cons_of_pos (by simpa using hy), List.eraseIdx_cons_succ, ih j hj hje hn.2]
    exact key _ j hj hje hsubl)
instance yEntry {x : Operand} {r : Nat} {s t : Hp} {k v : Value} [hx : Ev L x (.pointer (some ⟨r, 0, none⟩))] [hc : Icu r s t k v] [hs : Seg R Γ s] [ht : Seg R Γ t] : Y P R L Γ (.entry x) (.tuple #[k, v]) := ⟨fun C n a w _ _ _ _ _ kn i => by
  obtain ⟨b, es, clk, seen, e, c0, rfl, rfl, he, rfl, rfl, rfl, hn⟩ := hc.out
  have hb := hs.out C w i (b, .map es c0) (by simp)
  have hr := ht.out C w i _ (List.mem_singleton_self _)
  simp [execOp, hx.out n a kn, run_entry_at (P := P) w r b c0 seen es c0 e hr hb he hn]⟩

/-! ### nil maps, maps in interfaces, clones -/
class NotI (P : Program) (t : TypeId) : Prop where
  out : ∀ v w, (Instr.makeInterface t v).run P w = .ok (.iface t v) w
theorem run_equalMapNil (w : World) (d : Nat) (t k e : TypeId) (p : Option Nat) (h : P.underlying t = some (.map k e)) : (Op.equalIn (d + 1) t (.map p) (.map none)).run P w = .ok p.isNone w := by
  cases p <;> simp [Op.equalIn, run_underlying h]
theorem run_eqMapNil (w : World) (t k e : TypeId) (p : Option Nat) (h : P.underlying t = some (.map k e)) : (binOp .eql t (.map p) (.map none)).run P w = .ok (.bool p.isNone) w := by
  simp only [binOp]
  simp [show Op.equal t (.map p) (.map none) = Op.equalIn (9999 + 1) t (.map p) (.map none) from rfl, run_equalMapNil w 9999 t k e p h]
instance biMapNil {t k e : TypeId} {b : Nat} [h : Und P t (.map k e)] : Bin P .eql t (.map (some b)) (.map none) (.bool false) := ⟨fun w => run_eqMapNil w t k e (some b) h.out, fun _ p q w => by unfold eqGuard; simp⟩
instance yMkI {t : TypeId} {x : Operand} {v : Value} [hx : Ev L x v] [hn : NotI P t] : Y P R L Γ (.makeInterface t x) (.iface t v) := ⟨fun C n a w _ _ _ _ _ kn i => by
  simp [execOp, hx.out n a kn, hn.out]⟩
instance yTyA {t xT k e : TypeId} {x : Operand} {v : Value} [hx : Ev L x (.iface t v)] [h : Und P t (.map k e)] : Y P R L Γ (.typeAssert x xT t false) v := ⟨fun C n a w _ _ _ _ _ kn i => by
  have e1 := hx.out n a kn
  have e2 : (Instr.typeAssert (.iface t v) xT t false).run P w = .ok v w := by
    simp [Instr.typeAssert, run_underlying h.out, go_sem, Result.andThen]
  simp only [execOp, e1, Sem.run_bind, e2, Result.andThen_ok, Sem.run_pure]⟩
/-- maps.clone, for which the model stands in -/
class Clo (P : Program) (f : FuncId) : Prop where
  out : ∀ T b es clk w, w.heap[b]? = some (.map es clk) → (callFunc f #[.iface T (.map (some b))]).run P w = .ok (.value (.iface T (.map (some w.heap.size)))) (w.alloc (.map es clk))
theorem Clo.of {f : FuncId} {fn : Func} (hf : P.funcs[f]? = some fn) (hname : (fn.name == "runtime.NumGoroutine") = false) (hb : fn.body.isNone = true) (hn : Extern.findNext fn = none) (he : Extern.find fn = some Extern.MapsClone.clone) : Clo P f := ⟨fun T b es clk w h => by
  have e : Extern.MapsClone.clone #[.iface T (.map (some b))] = (getObj b >>= fun o => match o with
      | .map entries clock => (newObj (.map entries clock) >>= fun n => pure (.iface T (.map (some n))))
      | _ => stuck "maps.clone: a map expected") := rfl
  rw [run_callFunc_extern hf hname hb hn he, e]
  simp [MapKept.run_getObj_map h, Result.andThen, go_sem]⟩
theorem v_clone {d f T : Nat} {x : Operand} {ats : Array TypeId} {ty : TypeId} {pos : String} {af : Array Edge} [hf : Clo P f] [hx : Ev L x (.iface T (.map (some b)))] [hm : OwnM b α β kv vv m s] [hs : Seg R Γ s] [hd : Is (Nat.ble n d = false)]
    (h : ∀ b' s', OwnM b' α β kv vv m s' → VK C R n ((d, .iface T (.map (some b'))) :: L) (s' :: Γ) K) : VK C R n L Γ (wp1 P all Q ⟨some d, .call ⟨.value (.func f), #[x], ats⟩, ty, pos, af, none⟩ K) := VK.mk fun a w kn i => wp1.mk (by
  obtain ⟨es, clk, rfl, h1, h2, h3, h4, h5⟩ := hm.out
  have hb := hs.out C w i (b, .map es clk) (by simp)
  have hrun : (execOp a.eval ⟨some d, .call ⟨.value (.func f), #[x], ats⟩, ty, pos, af, none⟩).run P w = .ok (.value (.iface T (.map (some w.heap.size)))) (w.alloc (.map es clk)) := by
    have hargs : (#[x] : Array Operand).map a.eval = #[.iface T (.map (some b))] := by simp [hx.out n a kn]
    generalize (#[x] : Array Operand) = xs at hargs
    simp [execOp, resolve, Act.eval, Deferred.ofValue, invoke, hargs, hf.out T b es clk w hb]
  simp only [Region.wanted, if_true]
  refine .inl ?_
  simp only [Oper.wp, hrun, Oper.upon]
  exact (h _ _ ⟨⟨es, clk, rfl, h1, h2, h3, h4, h5⟩⟩).out _ _ (kn.put (lt_of_ble hd.out)) (i.new _))
end
/-! ### many segments as one -/
theorem keys_one (Γ : List Hp) : keys [Γ.flatten] = keys Γ := by simp [keys]
theorem Inv.one {C : Cx} {R Γ : List Hp} {w : World} : Inv C R [Γ.flatten] w ↔ Inv C R Γ w := ⟨fun i => i.perm (by simp), fun i => i.perm (by simp)⟩
theorem Inv.oneR {C : Cx} {R Γ : List Hp} {w : World} : Inv C [R.flatten] Γ w ↔ Inv C R Γ w :=
  ⟨fun i => ⟨i.os, i.tape, i.output, i.size, by simpa using i.ro, i.own, i.nodup, fun b hb => by simpa [keys] using i.apart b hb, i.may, i.frame, i.dr⟩,
   fun i => ⟨i.os, i.tape, i.output, i.size, by simpa using i.ro, i.own, i.nodup, fun b hb => by simpa [keys] using i.apart b hb, i.may, i.frame, i.dr⟩⟩
theorem Spec.own {P : Program} {f : FuncId} {args : Array Value} {R Γ : List Hp} {Post : Value → List Hp → Prop} (h : Spec P f args R Γ Post) : Spec P f args R [Γ.flatten] fun v Γ' => ∃ Γ0, Γ' = [Γ0.flatten] ∧ Post v Γ0 := fun w i => by
  rw [keys_one] at i
  refine (h w (Inv.one.1 i)).mono ?_
  rintro e w' ⟨v, Γ', he, hp, j⟩
  exact ⟨v, [Γ'.flatten], he, ⟨Γ', rfl, hp⟩, by rw [keys_one]; exact Inv.one.2 j⟩
theorem Spec.out1 {P : Program} {f : FuncId} {args : Array Value} {R Γ : List Hp} {Post : Value → List Hp → Prop} (h : Spec P f args R Γ Post) : Spec P f args R Γ fun v Γ' => ∃ Γ0, Γ' = [Γ0.flatten] ∧ Post v Γ0 := fun w i => by
  refine (h w i).mono ?_
  rintro e w' ⟨v, Γ', he, hp, j⟩
  exact ⟨v, [Γ'.flatten], he, ⟨Γ', rfl, hp⟩, Inv.one.2 j⟩
theorem Spec.rd {P : Program} {f : FuncId} {args : Array Value} {R Γ : List Hp} {Post : Value → List Hp → Prop} (h : Spec P f args R Γ Post) : Spec P f args [R.flatten] Γ Post := fun w i => by
  refine (h w (Inv.oneR.1 i)).mono ?_
  rintro e w' ⟨v, Γ', he, hp, j⟩
  exact ⟨v, Γ', he, hp, Inv.oneR.2 j⟩
theorem Spec.weak {P : Program} {f : FuncId} {args : Array Value} {R Γ : List Hp} {Post Post' : Value → List Hp → Prop} (h : Spec P f args R Γ Post) (hp : ∀ v Γ', Post v Γ' → Post' v Γ') : Spec P f args R Γ Post' := fun w i => by
  refine (h w i).mono ?_
  rintro e w' ⟨v, Γ', he, h1, j⟩
  exact ⟨v, Γ', he, hp _ _ h1, j⟩
/-! ### slices that are made -/
theorem made_cells {α : Type} {cv : α → List Value} {sz : Nat} (hE : ∀ x, (cv x).length = sz) (h0 : 0 < sz) (z0 : α) (n : Nat) : (madeCells (cv z0).toArray (n * sz)).toList = cvs cv (List.replicate n z0) := by
  refine List.ext_getElem? fun k => ?_
  by_cases hk : k < n * sz
  · have e1 : k = k / sz * sz + k % sz := by rw [Nat.mul_comm]; exact (Nat.div_add_mod k sz).symm
    have hm : k % sz < sz := Nat.mod_lt _ h0
    have hd : k / sz < n := Nat.div_lt_of_lt_mul (by rwa [Nat.mul_comm])
    have hc := cvs_get hE (List.replicate n z0) (k / sz) z0 (by simp [hd])
    have : (cvs cv (List.replicate n z0))[k]? = (cv z0)[k % sz]? := by
      rw [← hc, List.getElem?_take, if_pos hm, List.getElem?_drop, ← e1]
    rw [this]
    have hl : k % sz < (cv z0).length := by rw [hE]; exact hm
    simp [madeCells, hk, hE, hm, List.getElem?_eq_getElem hl, getElem!_def]
  · rw [List.getElem?_eq_none (by simp [madeCells]; omega), List.getElem?_eq_none (by rw [cvs_len hE]; simp; omega)]
section
variable {P : Program} {C : Cx} {R : List Hp} {n : Nat} {all : Array Oper} {Q : Exit → Act → World → Prop} {L : Env} {Γ : List Hp} {rest : List Oper} {w : World} {K : Act → World → Prop} {e sz : Nat} {α : Type} {cv : α → List Value} {av : α → Value} {l : List α} {v : Value} {s : Hp}
theorem v_make {d T bytes : Nat} {x y : Operand} {kl kc : IntKind} {i j : Int} {z : Value} {ca : Array Value} {cs : List Value} {z0 : α} {ty : TypeId} {pos : String} {af : Array Edge} [hx : Ev L x (.int kl i)] [hy : Ev L y (.int kc j)] [ht : Und P T (.slice e)] [hE : ElT P e α sz cv av] [he : El P e sz bytes]
    [hz : Zr P e z] [hcu : Cel z ca] [hca : LisA ca cs] [hc : Cvt cv cs z0] [hp : Is (Nat.ble 1 bytes = true)] [hd : Is (Nat.ble n d = false)] (hb : 0 ≤ i ∧ i ≤ j ∧ j * bytes ≤ 140737488355328)
    (h : ∀ v s', OwnS v e α sz cv (List.replicate i.toNat z0) s' → (List.replicate i.toNat z0).length = i.toNat → VK C R n ((d, v) :: L) (s' :: Γ) K) : VK C R n L Γ (wp1 P all Q ⟨some d, .makeSlice T x y, ty, pos, af, none⟩ K) := VK.mk fun a w k iv => wp1.mk (by
  obtain ⟨ti, z', hi, hz', hsz, hbt, hcz, h0⟩ := he.out
  have hzz : z' = z := by
    have := hz.out w
    simp [zeroValue, typeInfo, hi, hz'] at this
    exact this
  subst hzz
  have hzc := hc.out
  have hca' := hca.out
  subst hca'
  subst hzc
  have h1 : 1 ≤ bytes := Nat.le_of_ble_eq_true hp.out
  have hj : j * 1 ≤ j * bytes := Int.mul_le_mul_of_nonneg_left (by omega) (by omega)
  have hbb : (ti.bytes : Int) * j ≤ 281474976710656 := by rw [hbt, Int.mul_comm]; omega
  have hr := run_make (P := P) w T e ti z' ht.out hi hz' kl kc i j hb.1 hb.2.1 hbb (by omega)
  have hrun : (execOp a.eval ⟨some d, .makeSlice T x y, ty, pos, af, none⟩).run P w = .ok (.value (.slice (some ⟨w.heap.size, 0, none⟩) i.toNat j.toNat)) (w.alloc (.cells (madeCells z'.cells (j.toNat * ti.size)) e)) := by
    simp [execOp, hx.out n a k, hy.out n a k, hr]
  simp only [Region.wanted, if_true]
  refine .inl ?_
  simp only [Oper.wp, hrun, Oper.upon]
  have hcel := hcu.out
  have hm := made_cells hE.len h0 z0 j.toNat
  rw [← hcel, ← hsz] at hm
  refine (h _ [(w.heap.size, .cells (madeCells z'.cells (j.toNat * ti.size)) e (0, 0))] ⟨?_⟩ (by simp)).out _ _ (k.put (lt_of_ble hd.out)) (iv.new _)
  have hij : i.toNat ≤ j.toNat := by omega
  refine ⟨cvs_len hE.len _, .inr ⟨w.heap.size, 0, j.toNat, madeCells z'.cells (j.toNat * ti.size), e, by simp, rfl, by simpa using hij, by unfold maxLen; omega, by simp [madeCells, hsz], ?_⟩⟩
  rw [List.drop_zero, hm, List.length_replicate]
  have e1 : List.replicate j.toNat z0 = List.replicate i.toNat z0 ++ List.replicate (j.toNat - i.toNat) z0 := by
    rw [List.replicate_append_replicate]; congr 1; omega
  rw [e1, cvs_append]
  exact List.take_left' (by rw [cvs_len hE.len, List.length_replicate]))
end
theorem AtS.le {v : Value} {e : Nat} {α : Type} {sz : Nat} {cv : α → List Value} {l : List α} {s : Hp} (h : AtS v e α sz cv l s) : l.length ≤ 9223372036854775807 := by
  rcases h.out.2 with ⟨_, h0⟩ | ⟨b, off, cap, cur, et, fr, _, _, h1, h2, _⟩
  · omega
  · unfold maxLen at h2; omega
theorem OwnS.le {v : Value} {e : Nat} {α : Type} {sz : Nat} {cv : α → List Value} {l : List α} {s : Hp} (h : OwnS v e α sz cv l s) : l.length ≤ 9223372036854775807 := AtS.le (ownAt (h := h))
theorem mget_mem {α β : Type} [DecidableEq α] {m : List (α × β)} {k : α} {v : β} (h : mget m k = some v) : (k, v) ∈ m := by
  induction m with
  | nil => simp [mget] at h
  | cons p r ih =>
    obtain ⟨x, y⟩ := p
    by_cases e : k = x
    · subst e; simp [mget] at h; simp [h]
    · simp [mget, e] at h; exact List.mem_cons_of_mem _ (ih h)
theorem mem_mget {α β : Type} [DecidableEq α] {m : List (α × β)} (hn : (m.map (·.1)).Nodup) {k : α} {v : β} (h : (k, v) ∈ m) : mget m k = some v := by
  obtain ⟨i, hi, he⟩ := List.getElem_of_mem h
  exact (mget_of_nodup hn (i := i) (p := (k, v)) (by rw [List.getElem?_eq_getElem hi, he]))
theorem OwnM.nodup {b : Nat} {α β : Type} {kv : α → Value} {vv : β → Value} {m : List (α × β)} {s : Hp} (h : OwnM b α β kv vv m s) : (m.map (·.1)).Nodup := by
  obtain ⟨_, _, _, _, _, h, _⟩ := h.out; exact h
end Go.SX

/- Symbolic execution: function values. -/
namespace Go.SX
set_option linter.unusedSimpArgs false
set_option linter.unusedVariables false
open Go Go.RowKit
section
variable {P : Program} {R : List Hp} {n : Nat} {all : Array Oper} {Q : Exit → Act → World → Prop} {L : Env} {Γ : List Hp} {K : Act → World → Prop}
instance yMakeFunc {g : FuncId} {cs : List Operand} {vs : List Value} [hx : Evs L cs vs] : Y P R L Γ (.makeFunc (.func g) #[] cs.toArray) (.func (.func g) #[] vs.toArray) := ⟨fun C n a w _ _ _ _ _ k i => by
  have := hx.out n a k
  simp [execOp, Instr.makeFunc, this]⟩
/-- the arguments and what is captured -/
class Cat (vs cs : List Value) (xs : outParam (List Value)) : Prop where
  out : vs ++ cs = xs
instance catNil (cs : List Value) : Cat [] cs cs := ⟨rfl⟩
instance catCons (v : Value) (vs cs xs : List Value) [h : Cat vs cs xs] : Cat (v :: vs) cs (v :: xs) := ⟨by rw [List.cons_append, h.out]⟩
/-- a call of a function value -/
theorem v_callV {d g : Nat} {f : Operand} {xs : Array Operand} {ats : Array TypeId} {ty : TypeId} {pos : String} {af : Array Edge} {vs cs gs : List Value} {Rc Γc Γr : List Hp} {Post : Value → List Hp → Prop}
    [hl : Ev L f (.func (.func g) #[] cs.toArray)] [hf : Fn1 P g] [hx : Evs L xs.toList vs] [hd : Is (Nat.ble n d = false)] {M : List Nat} {w0 : World} {D : Bool} [hcat : Cat vs cs gs] (hs : SpecD D P g gs.toArray Rc Γc Post) [hp : Pick Γ Γc Γr] [hsub : Sub Rc R Γ] (ha : ∀ b ∈ keys Γc, b ∉ keys Rc)
    (h : ∀ v Γ', Post v Γ' → VK ⟨M, w0, D⟩ R n ((d, v) :: L) (Γ' ++ Γr) K) : VK ⟨M, w0, D⟩ R n L Γ (wp1 P all Q ⟨some d, .call ⟨.value f, xs, ats⟩, ty, pos, af, none⟩ K) := VK.mk fun a w k i => wp1.mk (by
  have hcat' := hcat.out
  subst hcat'
  have hd' : d < n := lt_of_ble hd.out
  have hargs : xs.map a.eval = vs.toArray := by
    have := hx.out n a k
    apply Array.ext'
    simpa using this
  have hfv := hl.out n a k
  have hrun : (execOp a.eval ⟨some d, .call ⟨.value f, xs, ats⟩, ty, pos, af, none⟩).run P w = .ok (.enter g (vs ++ cs).toArray) w := by
    have e : vs.toArray ++ cs.toArray = (vs ++ cs).toArray := by simp
    simp [execOp, resolve, Deferred.ofValue, invoke, hargs, hfv, e]
    have := hf.out (vs ++ cs).toArray w
    simpa using this
  simp only [Region.wanted, if_true]
  refine .inl ?_
  simp only [Oper.wp, hrun, Oper.upon]
  refine (hs w (i.callee hp.out hsub.out ha)).mono ?_
  rintro e w' ⟨v, Γ', rfl, hP, j⟩
  exact (h v Γ' hP).out _ _ (k.put hd') (i.back hp.out j))
theorem v_callVO {d g : Nat} {f : Operand} {xs : Array Operand} {ats : Array TypeId} {ty : TypeId} {pos : String} {af : Array Edge} {vs cs gs : List Value} {Γc Γr : List Hp} {Post : Value → List Hp → Prop}
    [hl : Ev L f (.func (.func g) #[] cs.toArray)] [hf : Fn1 P g] [hx : Evs L xs.toList vs] [hd : Is (Nat.ble n d = false)] {M : List Nat} {w0 : World} {D : Bool} [hcat : Cat vs cs gs] (hs : SpecD D P g gs.toArray [] Γc Post) [hp : Pick Γ Γc Γr]
    (h : ∀ v Γ', Post v Γ' → VK ⟨M, w0, D⟩ R n ((d, v) :: L) (Γ' ++ Γr) K) : VK ⟨M, w0, D⟩ R n L Γ (wp1 P all Q ⟨some d, .call ⟨.value f, xs, ats⟩, ty, pos, af, none⟩ K) := v_callV hs (fun _ _ hb => by cases hb) h
theorem v_callVR {d g : Nat} {f : Operand} {xs : Array Operand} {ats : Array TypeId} {ty : TypeId} {pos : String} {af : Array Edge} {vs cs gs : List Value} {Rc : List Hp} {Post : Value → List Hp → Prop}
    [hl : Ev L f (.func (.func g) #[] cs.toArray)] [hf : Fn1 P g] [hx : Evs L xs.toList vs] [hd : Is (Nat.ble n d = false)] {M : List Nat} {w0 : World} {D : Bool} [hcat : Cat vs cs gs] (hs : SpecD D P g gs.toArray Rc [] Post) [hsub : Sub Rc R Γ]
    (h : ∀ v Γ', Post v Γ' → VK ⟨M, w0, D⟩ R n ((d, v) :: L) (Γ' ++ Γ) K) : VK ⟨M, w0, D⟩ R n L Γ (wp1 P all Q ⟨some d, .call ⟨.value f, xs, ats⟩, ty, pos, af, none⟩ K) := v_callV hs (fun _ hb => by cases hb) h
theorem apart_of {C : Cx} {w : World} {Rc Γc Γr : List Hp} (i : Inv C R Γ w) (hp : Γ.flatten.Perm (Γc.flatten ++ Γr.flatten)) (hs : ∀ x ∈ Rc.flatten, x ∈ R.flatten ∨ x ∈ Γr.flatten) : ∀ b ∈ keys Γc, b ∉ keys Rc := fun b hb hc => by
  have hk : (keys Γ).Perm (keys Γc ++ keys Γr) := by simpa [keys] using hp.map (·.1)
  have hn := hk.nodup_iff.1 i.nodup
  obtain ⟨x, hx, rfl⟩ := List.mem_map.1 hc
  rcases hs x hx with h | h
  · exact i.apart _ (hk.mem_iff.2 (List.mem_append_left _ hb)) (List.mem_map.2 ⟨x, h, rfl⟩)
  · exact (List.nodup_append.1 hn).2.2 _ hb _ (List.mem_map.2 ⟨x, h, rfl⟩) rfl
/-- a call that changes a part of what is own and reads of the rest -/
theorem v_callB {K : Act → World → Prop} {d f : Nat} {xs : Array Operand} {ats : Array TypeId} {ty : TypeId} {pos : String} {af : Array Edge} {vs : List Value} {Rc Γc Γr : List Hp} {Post : Value → List Hp → Prop}
    [hf : Fn1 P f] [hx : Evs L xs.toList vs] [hd : Is (Nat.ble n d = false)] {M : List Nat} {w0 : World} {D : Bool} (hs : SpecD D P f vs.toArray Rc Γc Post) [hp : Pick Γ Γc Γr] [hsub : Sub Rc R Γr]
    (h : ∀ v Γ', Post v Γ' → VK ⟨M, w0, D⟩ R n ((d, v) :: L) (Γ' ++ Γr) K) : VK ⟨M, w0, D⟩ R n L Γ (wp1 P all Q ⟨some d, .call ⟨.value (.func f), xs, ats⟩, ty, pos, af, none⟩ K) := VK.mk fun a w k i =>
  (v_call hs (hsub := ⟨fun x hx => (hsub.out x hx).imp id fun h => hp.out.mem_iff.2 (List.mem_append_right _ h)⟩) (apart_of i hp.out hsub.out) h).out a w k i
theorem v_callVB {d g : Nat} {f : Operand} {xs : Array Operand} {ats : Array TypeId} {ty : TypeId} {pos : String} {af : Array Edge} {vs cs gs : List Value} {Rc Γc Γr : List Hp} {Post : Value → List Hp → Prop}
    [hl : Ev L f (.func (.func g) #[] cs.toArray)] [hf : Fn1 P g] [hx : Evs L xs.toList vs] [hd : Is (Nat.ble n d = false)] {M : List Nat} {w0 : World} {D : Bool} [hcat : Cat vs cs gs] (hs : SpecD D P g gs.toArray Rc Γc Post) [hp : Pick Γ Γc Γr] [hsub : Sub Rc R Γr]
    (h : ∀ v Γ', Post v Γ' → VK ⟨M, w0, D⟩ R n ((d, v) :: L) (Γ' ++ Γr) K) : VK ⟨M, w0, D⟩ R n L Γ (wp1 P all Q ⟨some d, .call ⟨.value f, xs, ats⟩, ty, pos, af, none⟩ K) := VK.mk fun a w k i =>
  (v_callV hs (hsub := ⟨fun x hx => (hsub.out x hx).imp id fun h => hp.out.mem_iff.2 (List.mem_append_right _ h)⟩) (apart_of i hp.out hsub.out) h).out a w k i
end
end Go.SX

/- The orders in which the drawn regions are taken (printed by a program of mine from the translation's own list of operations). -/
namespace Go.Proofs.YtdfoijfjlhjeaaaGreat
open Go.SX
abbrev pl3_5 : Pl := (.take 0 (.take 1 (.take 2 (.take 3 (.take 4 (.take 5 (.take 6 (.take 7 (.act 8 (.take 9 (.take 10 (.take 11 (.take 12 (.take 13 .done))))))))))))))
abbrev pl3_12 : Pl := (.take 0 (.take 1 (.take 2 (.take 3 (.act 4 (.take 5 .done))))))
abbrev pl6_23 : Pl := (.take 0 (.take 1 (.take 4 (.take 5 (.take 2 (.take 6 (.act 3 (.act 7 (.take 8 .done)))))))))
abbrev pl10_6 : Pl := (.take 0 (.take 1 (.take 2 (.take 4 (.take 5 (.take 6 (.take 3 (.act 7 (.take 8 .done)))))))))
abbrev pl15_3 : Pl := (.take 0 (.take 1 (.take 3 (.take 4 (.act 2 (.act 5 (.take 6 .done)))))))
abbrev pl15_5 : Pl := (.take 0 (.take 1 (.take 2 (.take 4 (.take 6 (.take 3 (.take 5 (.act 7 (.act 8 .done)))))))))
abbrev pl15_6 : Pl := (.take 0 (.take 1 (.take 2 (.take 4 (.take 3 (.act 5 (.act 6 (.take 7 .done))))))))
abbrev pl15_7 : Pl := (.take 0 (.take 1 (.take 2 (.take 4 (.take 3 (.act 5 (.act 6 .done)))))))
abbrev pl15_13 : Pl := (.take 0 (.take 1 (.take 2 (.take 4 (.take 6 (.take 7 (.take 8 (.take 10 (.take 5 (.take 11 (.take 13 (.three 3 (.two 9 (.take 12 (.act 14 (.act 15 (.act 16 .done)))) 14 (.act 9 (.act 12 (.act 15 (.act 16 .done))))) 9 (.take 12 (.two 3 (.act 14 (.act 15 (.act 16 .done))) 14 (.two 3 (.act 15 (.act 16 .done)) 15 (.act 3 (.act 16 .done))))) 14 (.two 3 (.act 9 (.act 12 (.act 15 (.act 16 .done)))) 9 (.take 12 (.two 3 (.act 15 (.act 16 .done)) 15 (.act 3 (.act 16 .done)))))))))))))))))
abbrev pl16_7 : Pl := (.take 0 (.take 1 (.take 2 (.take 5 (.take 6 (.take 3 (.take 7 (.act 4 (.act 8 (.take 9 .done))))))))))
abbrev pl16_12 : Pl := (.take 0 (.take 1 (.take 4 (.take 7 (.take 2 (.take 5 (.take 8 (.act 3 (.act 6 (.act 9 (.take 10 .done)))))))))))
abbrev pl16_15 : Pl := (.take 0 (.take 1 (.take 2 (.take 5 (.take 6 (.take 3 (.take 7 (.act 4 (.act 8 (.take 9 .done))))))))))
abbrev pl16_17 : Pl := (.take 0 (.take 1 (.take 2 (.take 5 (.take 6 (.take 9 (.take 10 (.take 3 (.take 7 (.take 11 (.act 4 (.act 8 (.act 12 (.take 13 .done))))))))))))))
abbrev pl16_23 : Pl := (.take 0 (.take 1 (.take 2 (.take 5 (.take 6 (.take 9 (.take 10 (.take 3 (.take 7 (.take 11 (.take 12 (.act 4 (.act 8 (.act 13 (.take 14 .done)))))))))))))))
abbrev pl19_6 : Pl := (.take 0 (.take 1 (.take 2 (.take 4 (.take 5 (.take 6 (.take 3 (.act 7 (.take 8 .done)))))))))
abbrev pl22_1 : Pl := (.take 0 (.take 1 (.take 2 (.take 5 (.take 6 (.take 7 (.take 10 (.take 11 (.take 12 (.take 3 (.take 8 (.take 13 (.two 4 (.two 9 (.two 14 (.act 15 (.take 16 (.act 17 (.take 18 .done)))) 15 (.act 14 (.take 16 (.act 17 (.take 18 .done))))) 15 (.act 9 (.act 14 (.take 16 (.act 17 (.take 18 .done)))))) 15 (.act 4 (.act 9 (.act 14 (.take 16 (.act 17 (.take 18 .done)))))))))))))))))))
abbrev pl22_5 : Pl := (.take 0 (.take 1 (.take 2 (.take 4 (.take 5 (.take 3 (.act 6 (.act 7 .done))))))))
abbrev pl27_10 : Pl := (.take 0 (.take 2 (.take 1 (.take 4 (.take 5 (.two 3 (.act 6 (.take 7 (.take 8 (.act 9 .done)))) 6 (.act 3 (.take 7 (.take 8 (.act 9 .done))))))))))
abbrev pl27_18 : Pl := (.take 0 (.take 2 (.take 3 (.take 1 (.take 5 (.take 6 (.two 4 (.act 7 (.take 8 (.take 9 (.act 10 .done)))) 7 (.act 4 (.take 8 (.take 9 (.act 10 .done)))))))))))
abbrev pl29_13 : Pl := (.take 0 (.take 1 (.take 3 (.take 4 (.take 5 (.take 2 (.act 6 (.take 7 (.act 8 (.act 9 (.take 10 (.take 11 (.act 12 .done)))))))))))))
abbrev pl32_1 : Pl := (.take 0 (.act 1 (.act 2 (.take 3 (.take 4 (.take 5 (.act 6 (.act 7 (.take 8 (.take 9 (.take 10 (.take 11 (.take 12 (.take 13 (.take 14 (.act 15 (.act 16 (.take 17 (.take 18 .done)))))))))))))))))))
abbrev pl32_2 : Pl := (.take 0 (.take 1 (.take 2 (.take 3 (.act 4 (.two 5 (.take 6 (.act 7 (.take 8 (.act 9 .done)))) 7 (.take 8 (.act 5 (.take 6 (.act 9 .done))))))))))
abbrev pl32_5 : Pl := (.take 0 (.take 1 (.take 2 (.take 4 (.take 5 (.take 7 (.take 8 (.take 9 (.take 11 (.take 12 (.take 6 (.take 13 (.take 15 (.three 3 (.two 10 (.take 14 (.act 16 (.act 17 (.act 18 .done)))) 16 (.act 10 (.act 14 (.act 17 (.act 18 .done))))) 10 (.take 14 (.two 3 (.act 16 (.act 17 (.act 18 .done))) 16 (.two 3 (.act 17 (.act 18 .done)) 17 (.act 3 (.act 18 .done))))) 16 (.two 3 (.act 10 (.act 14 (.act 17 (.act 18 .done)))) 10 (.take 14 (.two 3 (.act 17 (.act 18 .done)) 17 (.act 3 (.act 18 .done)))))))))))))))))))
abbrev pl33_2 : Pl := (.take 0 (.take 1 (.take 2 (.take 3 (.act 4 (.two 5 (.take 6 (.act 7 (.take 8 (.act 9 .done)))) 7 (.take 8 (.act 5 (.take 6 (.act 9 .done))))))))))
abbrev pl34_1 : Pl := (.take 0 (.take 1 (.take 2 (.take 3 (.act 4 (.act 5 (.take 6 (.take 7 (.act 8 (.act 9 (.take 10 (.take 11 (.take 12 (.act 13 (.act 14 (.take 15 (.take 16 (.take 17 .done))))))))))))))))))
abbrev pl37_1 : Pl := (.take 0 (.take 1 (.take 2 (.take 3 (.act 4 (.act 5 (.take 6 (.take 7 (.take 8 (.take 9 (.act 10 (.act 11 (.take 12 (.take 13 (.take 14 (.act 15 (.act 16 (.take 17 (.take 18 (.take 19 .done))))))))))))))))))))
abbrev pl39_3 : Pl := (.take 0 (.take 1 (.take 2 (.take 4 (.take 3 (.act 5 (.act 6 (.take 7 (.take 8 (.take 9 (.take 10 (.take 11 .done))))))))))))
abbrev pl43_5 : Pl := (.take 0 (.take 1 (.take 4 (.take 2 (.take 5 (.act 3 (.act 6 (.take 7 .done))))))))
abbrev pl44_1 : Pl := (.take 0 (.take 1 (.take 4 (.take 2 (.take 5 (.act 3 (.act 6 (.take 7 .done))))))))
abbrev pl45_1 : Pl := (.take 0 (.take 1 (.take 4 (.take 2 (.take 5 (.act 3 (.act 6 (.take 7 .done))))))))
abbrev pl47_7 : Pl := (.take 0 (.take 1 (.take 2 (.take 3 (.take 4 (.act 5 (.act 6 (.act 7 (.take 8 (.take 9 (.act 10 .done)))))))))))
abbrev pl49_5 : Pl := (.take 0 (.act 1 (.take 2 (.take 3 (.take 4 (.take 5 (.act 6 (.take 7 (.act 8 (.take 9 (.take 10 (.take 11 (.take 14 (.take 15 (.take 12 (.take 13 (.act 16 (.take 17 (.act 18 (.take 19 (.take 20 (.take 21 .done))))))))))))))))))))))
abbrev pl49_15 : Pl := (.take 0 (.take 1 (.act 2 (.act 3 (.take 4 (.take 5 (.act 6 (.take 7 (.take 8 (.take 9 (.take 10 (.take 11 (.act 12 (.take 13 (.act 14 (.take 15 (.take 16 (.take 17 (.take 20 (.take 21 (.take 18 (.take 19 (.act 22 (.take 23 (.act 24 (.take 25 (.take 26 (.take 27 .done))))))))))))))))))))))))))))
abbrev pl60_11 : Pl := (.take 0 (.take 1 (.take 5 (.take 6 (.take 7 (.take 8 (.take 2 (.act 3 (.take 4 (.take 9 (.act 10 .done)))))))))))
abbrev pl62_1 : Pl := (.take 0 (.take 4 (.take 6 (.take 8 (.take 10 (.take 12 (.take 14 (.take 1 (.take 5 (.take 7 (.take 9 (.take 11 (.take 13 (.take 15 (.two 2 (.take 3 (.take 16 (.act 17 (.act 18 .done)))) 17 (.act 2 (.take 3 (.take 16 (.act 18 .done)))))))))))))))))))
abbrev pl71_9 : Pl := (.take 1 (.take 4 (.take 6 (.take 2 (.three 0 (.three 3 (.two 5 (.act 7 (.take 8 (.act 9 (.act 10 (.take 11 (.take 12 (.act 13 .done))))))) 7 (.act 5 (.take 8 (.act 9 (.act 10 (.take 11 (.take 12 (.act 13 .done)))))))) 5 (.two 3 (.act 7 (.take 8 (.act 9 (.act 10 (.take 11 (.take 12 (.act 13 .done))))))) 7 (.take 8 (.two 3 (.act 9 (.act 10 (.take 11 (.take 12 (.act 13 .done))))) 9 (.act 3 (.act 10 (.take 11 (.take 12 (.act 13 .done)))))))) 7 (.two 3 (.act 5 (.take 8 (.act 9 (.act 10 (.take 11 (.take 12 (.act 13 .done))))))) 5 (.take 8 (.two 3 (.act 9 (.act 10 (.take 11 (.take 12 (.act 13 .done))))) 9 (.act 3 (.act 10 (.take 11 (.take 12 (.act 13 .done))))))))) 5 (.two 0 (.two 3 (.act 7 (.take 8 (.act 9 (.act 10 (.take 11 (.take 12 (.act 13 .done))))))) 7 (.take 8 (.two 3 (.act 9 (.act 10 (.take 11 (.take 12 (.act 13 .done))))) 9 (.act 3 (.act 10 (.take 11 (.take 12 (.act 13 .done)))))))) 7 (.take 8 (.two 0 (.two 3 (.act 9 (.act 10 (.take 11 (.take 12 (.act 13 .done))))) 9 (.act 3 (.act 10 (.take 11 (.take 12 (.act 13 .done)))))) 9 (.act 0 (.act 3 (.act 10 (.take 11 (.take 12 (.act 13 .done))))))))) 7 (.two 0 (.two 3 (.act 5 (.take 8 (.act 9 (.act 10 (.take 11 (.take 12 (.act 13 .done))))))) 5 (.take 8 (.two 3 (.act 9 (.act 10 (.take 11 (.take 12 (.act 13 .done))))) 9 (.act 3 (.act 10 (.take 11 (.take 12 (.act 13 .done)))))))) 5 (.take 8 (.two 0 (.two 3 (.act 9 (.act 10 (.take 11 (.take 12 (.act 13 .done))))) 9 (.act 3 (.act 10 (.take 11 (.take 12 (.act 13 .done)))))) 9 (.act 0 (.act 3 (.act 10 (.take 11 (.take 12 (.act 13 .done))))))))))))))
abbrev pl71_11 : Pl := (.take 1 (.take 4 (.take 6 (.take 2 (.three 0 (.three 3 (.two 5 (.act 7 (.take 8 (.act 9 (.act 10 (.take 11 (.take 12 (.act 13 .done))))))) 7 (.act 5 (.take 8 (.act 9 (.act 10 (.take 11 (.take 12 (.act 13 .done)))))))) 5 (.two 3 (.act 7 (.take 8 (.act 9 (.act 10 (.take 11 (.take 12 (.act 13 .done))))))) 7 (.take 8 (.two 3 (.act 9 (.act 10 (.take 11 (.take 12 (.act 13 .done))))) 9 (.act 3 (.act 10 (.take 11 (.take 12 (.act 13 .done)))))))) 7 (.two 3 (.act 5 (.take 8 (.act 9 (.act 10 (.take 11 (.take 12 (.act 13 .done))))))) 5 (.take 8 (.two 3 (.act 9 (.act 10 (.take 11 (.take 12 (.act 13 .done))))) 9 (.act 3 (.act 10 (.take 11 (.take 12 (.act 13 .done))))))))) 5 (.two 0 (.two 3 (.act 7 (.take 8 (.act 9 (.act 10 (.take 11 (.take 12 (.act 13 .done))))))) 7 (.take 8 (.two 3 (.act 9 (.act 10 (.take 11 (.take 12 (.act 13 .done))))) 9 (.act 3 (.act 10 (.take 11 (.take 12 (.act 13 .done)))))))) 7 (.take 8 (.two 0 (.two 3 (.act 9 (.act 10 (.take 11 (.take 12 (.act 13 .done))))) 9 (.act 3 (.act 10 (.take 11 (.take 12 (.act 13 .done)))))) 9 (.act 0 (.act 3 (.act 10 (.take 11 (.take 12 (.act 13 .done))))))))) 7 (.two 0 (.two 3 (.act 5 (.take 8 (.act 9 (.act 10 (.take 11 (.take 12 (.act 13 .done))))))) 5 (.take 8 (.two 3 (.act 9 (.act 10 (.take 11 (.take 12 (.act 13 .done))))) 9 (.act 3 (.act 10 (.take 11 (.take 12 (.act 13 .done)))))))) 5 (.take 8 (.two 0 (.two 3 (.act 9 (.act 10 (.take 11 (.take 12 (.act 13 .done))))) 9 (.act 3 (.act 10 (.take 11 (.take 12 (.act 13 .done)))))) 9 (.act 0 (.act 3 (.act 10 (.take 11 (.take 12 (.act 13 .done))))))))))))))
abbrev pl71_15 : Pl := (.take 0 (.take 1 (.take 4 (.take 5 (.take 2 (.take 3 (.act 6 (.take 7 (.take 8 (.act 9 (.take 10 .done)))))))))))
abbrev pl71_19 : Pl := (.take 0 (.take 1 (.take 3 (.take 4 (.take 6 (.take 7 (.take 11 (.take 12 (.take 2 (.take 8 (.take 9 (.take 10 (.take 5 (.act 13 (.take 14 (.act 15 (.take 16 (.act 17 (.take 18 (.act 19 .done))))))))))))))))))))
abbrev pl75_2 : Pl := (.take 1 (.take 0 (.act 2 (.take 3 (.act 4 .done)))))
abbrev pl78_7 : Pl := (.take 0 (.take 2 (.act 1 (.act 3 (.take 4 (.take 5 (.act 6 .done)))))))
abbrev pl78_12 : Pl := (.take 1 (.take 0 (.act 2 (.act 3 (.act 4 (.act 5 .done))))))
abbrev pl90_2 : Pl := (.take 0 (.take 1 (.take 2 (.take 3 (.take 4 (.act 5 (.act 6 (.act 7 (.take 8 (.take 9 (.act 10 .done)))))))))))
abbrev pl91_2 : Pl := (.take 0 (.take 1 (.take 2 (.take 3 (.take 4 (.act 5 (.act 6 (.act 7 (.take 8 (.take 9 (.act 10 .done)))))))))))
abbrev pl92_3 : Pl := (.take 0 (.act 1 (.take 2 (.take 3 (.take 4 (.take 5 (.act 6 (.take 7 (.act 8 (.take 9 (.take 10 (.take 11 (.take 12 (.take 17 (.take 13 (.take 14 (.take 15 (.take 16 (.act 18 (.take 19 (.take 20 (.take 21 (.take 22 .done)))))))))))))))))))))))
abbrev pl99_1 : Pl := (.take 0 (.take 2 (.act 1 (.act 3 (.take 4 .done)))))
abbrev pl105_1 : Pl := (.take 0 (.take 1 (.take 2 (.take 4 (.take 3 (.take 6 (.take 7 (.take 8 (.take 9 (.take 5 (.act 10 (.take 11 (.take 12 (.take 13 (.take 14 (.act 15 .done))))))))))))))))
abbrev pl106_1 : Pl := (.take 0 (.take 2 (.take 3 (.take 4 (.take 5 (.take 6 (.take 1 (.act 7 (.take 8 (.act 9 (.take 10 .done)))))))))))
abbrev pl106_3 : Pl := (.take 0 (.take 1 (.take 2 (.take 3 (.take 4 (.take 5 (.take 7 (.take 9 (.take 6 (.take 8 (.act 10 (.take 11 (.act 12 (.take 13 (.take 14 (.take 15 (.take 16 (.act 17 .done))))))))))))))))))
abbrev pl107_4 : Pl := (.take 0 (.take 1 (.take 3 (.take 4 (.take 6 (.take 7 (.take 11 (.take 12 (.take 2 (.take 8 (.take 9 (.take 10 (.take 5 (.act 13 (.take 14 (.act 15 (.take 16 (.act 17 (.take 18 (.act 19 .done))))))))))))))))))))
abbrev pl108_1 : Pl := (.take 0 (.take 1 (.take 2 (.take 3 (.take 4 (.take 5 (.take 7 (.take 9 (.take 11 (.take 6 (.take 8 (.take 10 (.act 12 (.take 13 (.act 14 (.act 15 (.take 16 (.take 17 (.take 18 (.take 19 (.act 20 .done)))))))))))))))))))))
abbrev pl109_1 : Pl := (.take 0 (.take 2 (.take 3 (.take 4 (.take 5 (.take 6 (.take 1 (.act 7 (.take 8 (.act 9 (.take 10 .done)))))))))))
abbrev pl109_3 : Pl := (.take 0 (.take 1 (.take 2 (.take 3 (.take 4 (.take 6 (.take 8 (.take 5 (.take 7 (.act 9 (.take 10 (.take 11 (.act 12 .done)))))))))))))
abbrev pl110_3 : Pl := (.take 0 (.take 1 (.take 3 (.take 5 (.take 6 (.take 7 (.take 8 (.take 2 (.act 4 (.take 9 (.act 10 .done)))))))))))
abbrev pl111_1 : Pl := (.take 0 (.take 1 (.take 2 (.take 3 (.take 4 (.take 5 (.take 7 (.take 9 (.take 6 (.take 8 (.act 10 (.take 11 (.act 12 (.act 13 (.take 14 (.take 15 (.take 16 (.take 17 (.act 18 .done)))))))))))))))))))
abbrev pl112_1 : Pl := (.take 0 (.take 1 (.take 2 (.take 3 (.take 4 (.take 5 (.take 7 (.take 9 (.take 6 (.take 8 (.act 10 (.take 11 (.act 12 (.act 13 (.take 14 (.take 15 (.take 16 (.take 17 (.act 18 .done)))))))))))))))))))
abbrev pl113_1 : Pl := (.take 0 (.take 1 (.take 2 (.take 4 (.take 5 (.take 3 (.take 7 (.take 8 (.take 9 (.take 10 (.take 6 (.act 11 (.take 12 (.take 13 (.take 14 (.take 15 (.act 16 .done)))))))))))))))))
abbrev pl123_10 : Pl := (.take 0 (.take 1 (.take 2 (.take 4 (.take 5 (.take 6 (.take 12 (.take 13 (.take 14 (.take 15 (.take 16 (.take 17 (.take 3 (.act 7 (.take 8 (.take 9 (.take 10 (.act 11 (.take 18 (.take 19 (.act 20 .done)))))))))))))))))))))
abbrev pl125_1 : Pl := (.take 0 (.take 1 (.take 2 (.take 3 (.take 4 (.take 5 (.take 6 (.take 7 (.take 8 (.take 9 (.take 10 (.take 13 (.take 14 (.take 15 (.take 11 (.take 12 (.act 16 (.take 17 (.take 18 (.take 19 .done))))))))))))))))))))
abbrev pl125_7 : Pl := (.take 0 (.take 1 (.take 2 (.take 3 (.take 4 (.take 6 (.take 7 (.take 8 (.take 5 (.act 9 (.take 10 (.act 11 (.take 12 (.take 13 (.take 14 .done)))))))))))))))
abbrev pl128_1 : Pl := (.take 0 (.take 2 (.take 4 (.two 1 (.two 3 (.two 5 (.take 6 (.act 7 (.act 8 .done))) 7 (.act 5 (.take 6 (.act 8 .done)))) 7 (.act 3 (.act 5 (.take 6 (.act 8 .done))))) 7 (.act 1 (.act 3 (.act 5 (.take 6 (.act 8 .done)))))))))
abbrev pl128_6 : Pl := (.take 0 (.take 2 (.take 3 (.take 1 (.act 4 (.act 5 (.take 6 (.act 7 (.act 8 (.take 9 (.act 10 .done)))))))))))
abbrev pl129_1 : Pl := (.take 0 (.take 2 (.take 4 (.two 1 (.two 3 (.two 5 (.take 6 (.act 7 (.act 8 .done))) 7 (.act 5 (.take 6 (.act 8 .done)))) 7 (.act 3 (.act 5 (.take 6 (.act 8 .done))))) 7 (.act 1 (.act 3 (.act 5 (.take 6 (.act 8 .done)))))))))
abbrev pl130_1 : Pl := (.take 0 (.take 2 (.two 1 (.two 3 (.take 4 (.act 5 (.act 6 .done))) 5 (.act 3 (.take 4 (.act 6 .done)))) 5 (.act 1 (.act 3 (.take 4 (.act 6 .done)))))))
abbrev pl131_4 : Pl := (.take 0 (.take 1 (.take 2 (.take 3 (.take 4 (.take 5 (.take 7 (.take 8 (.take 9 (.take 14 (.take 15 (.take 16 (.take 17 (.take 6 (.act 10 (.take 11 (.take 12 (.take 13 (.take 18 (.take 19 (.take 20 (.take 21 .done))))))))))))))))))))))
abbrev pl132_6 : Pl := (.take 0 (.take 1 (.take 2 (.take 4 (.take 5 (.take 6 (.take 3 (.act 7 (.take 8 .done)))))))))
abbrev pl133_6 : Pl := (.take 0 (.take 1 (.take 2 (.take 4 (.take 5 (.take 6 (.take 3 (.act 7 (.take 8 .done)))))))))
abbrev pl140_17 : Pl := (.take 0 (.take 1 (.take 2 (.take 3 (.take 4 (.take 5 (.take 6 (.take 8 (.take 9 (.take 10 (.take 7 (.act 11 (.act 12 (.take 13 (.take 14 .done)))))))))))))))
abbrev pl143_5 : Pl := (.take 0 (.take 1 (.take 2 (.take 3 (.take 4 (.take 5 (.act 6 (.take 7 .done))))))))
abbrev pl148_8 : Pl := (.take 0 (.take 1 (.take 2 (.take 4 (.take 5 (.take 6 (.take 7 (.take 11 (.take 12 (.take 13 (.take 14 (.take 16 (.take 17 (.take 18 (.take 19 (.take 3 (.act 8 (.take 9 (.take 10 (.take 15 (.take 20 (.take 21 .done))))))))))))))))))))))
abbrev pl150_2 : Pl := (.take 0 (.act 1 (.act 2 (.take 3 (.act 4 .done)))))
abbrev pl152_1 : Pl := (.take 0 (.take 1 (.take 2 (.take 6 (.take 7 (.take 8 (.take 9 (.take 3 (.take 4 (.take 5 (.act 10 (.take 11 (.take 12 .done)))))))))))))
abbrev pl155_4 : Pl := (.take 0 (.take 1 (.take 2 (.take 3 (.take 4 (.take 5 (.take 6 (.take 8 (.take 9 (.take 10 (.take 11 (.take 7 (.act 12 (.act 13 (.take 14 .done)))))))))))))))
abbrev pl155_6 : Pl := (.take 0 (.take 1 (.take 2 (.take 3 (.take 4 (.take 5 (.take 6 (.take 7 (.take 8 (.take 10 (.take 11 (.take 12 (.take 9 (.act 13 (.take 14 (.act 15 (.take 16 (.act 17 .done))))))))))))))))))
abbrev pl156_10 : Pl := (.take 0 (.take 1 (.take 2 (.take 3 (.take 4 (.take 5 (.take 6 (.take 7 (.take 8 (.take 9 (.take 10 (.take 12 (.take 13 (.take 14 (.take 11 (.act 15 (.take 16 (.act 17 (.take 18 (.act 19 .done))))))))))))))))))))
abbrev pl157_10 : Pl := (.take 0 (.take 1 (.take 2 (.take 3 (.take 4 (.take 5 (.take 6 (.take 7 (.take 8 (.take 9 (.take 10 (.take 12 (.take 13 (.take 14 (.take 11 (.act 15 (.take 16 (.act 17 (.take 18 (.act 19 .done))))))))))))))))))))
abbrev pl159_3 : Pl := (.take 0 (.take 1 (.take 2 (.take 3 (.take 4 (.take 5 (.take 6 (.take 8 (.take 9 (.take 10 (.take 7 (.act 11 (.take 12 (.act 13 (.take 14 (.act 15 .done))))))))))))))))
abbrev pl160_5 : Pl := (.take 0 (.take 1 (.take 2 (.take 3 (.take 4 (.take 5 (.take 6 (.take 8 (.take 9 (.take 10 (.take 11 (.take 7 (.act 12 (.act 13 (.take 14 (.take 15 .done))))))))))))))))
abbrev pl160_11 : Pl := (.take 0 (.take 1 (.take 2 (.take 3 (.take 4 (.take 5 (.take 6 (.take 7 (.take 8 (.take 10 (.take 11 (.take 12 (.take 9 (.act 13 (.take 14 (.act 15 (.take 16 (.act 17 .done))))))))))))))))))
abbrev pl160_16 : Pl := (.take 0 (.take 1 (.take 2 (.take 4 (.take 5 (.take 6 (.take 7 (.take 3 (.act 8 (.act 9 (.take 10 .done)))))))))))
abbrev pl160_17 : Pl := (.take 0 (.take 1 (.take 2 (.take 3 (.take 4 (.take 5 (.take 6 (.take 7 (.take 8 (.take 10 (.take 11 (.take 12 (.take 9 (.act 13 (.take 14 (.act 15 (.take 16 (.act 17 .done))))))))))))))))))
abbrev pl160_22 : Pl := (.take 0 (.take 1 (.take 2 (.take 4 (.take 5 (.take 6 (.take 7 (.take 3 (.act 8 (.act 9 (.take 10 .done)))))))))))
abbrev pl160_23 : Pl := (.take 0 (.take 1 (.take 2 (.take 3 (.take 4 (.take 5 (.take 6 (.take 7 (.take 8 (.take 10 (.take 11 (.take 12 (.take 9 (.act 13 (.take 14 (.act 15 (.take 16 (.act 17 .done))))))))))))))))))
abbrev pl162_1 : Pl := (.take 0 (.take 1 (.take 2 (.take 3 (.take 4 (.take 5 (.take 6 (.take 8 (.take 9 (.take 10 (.take 7 (.act 11 (.take 12 (.act 13 (.take 14 (.act 15 .done))))))))))))))))
abbrev pl162_3 : Pl := (.take 0 (.take 1 (.take 2 (.take 3 (.take 4 (.take 5 (.take 6 (.take 8 (.take 9 (.take 10 (.take 7 (.act 11 (.act 12 (.take 13 (.take 14 .done)))))))))))))))
abbrev pl162_5 : Pl := (.take 0 (.take 1 (.take 2 (.take 3 (.take 4 (.take 5 (.take 6 (.take 8 (.take 9 (.take 10 (.take 7 (.act 11 (.act 12 (.take 13 .done))))))))))))))
abbrev pl162_8 : Pl := (.take 0 (.take 1 (.take 2 (.take 3 (.take 4 (.take 5 (.take 6 (.take 8 (.take 9 (.take 10 (.take 7 (.act 11 (.take 12 (.act 13 (.take 14 (.act 15 .done))))))))))))))))
abbrev pl163_1 : Pl := (.take 0 (.take 1 (.take 2 (.take 3 (.take 4 (.take 5 (.take 6 (.take 8 (.take 9 (.take 10 (.take 7 (.act 11 (.take 12 (.act 13 (.take 14 (.act 15 .done))))))))))))))))
abbrev pl163_3 : Pl := (.take 0 (.take 1 (.take 2 (.take 3 (.take 4 (.take 5 (.take 6 (.take 8 (.take 9 (.take 10 (.take 7 (.act 11 (.act 12 (.take 13 .done))))))))))))))
abbrev pl163_5 : Pl := (.take 0 (.take 1 (.take 2 (.take 3 (.take 4 (.take 5 (.take 6 (.take 8 (.take 9 (.take 10 (.take 7 (.act 11 (.act 12 (.take 13 (.take 14 .done)))))))))))))))
abbrev pl163_8 : Pl := (.take 0 (.take 1 (.take 2 (.take 3 (.take 4 (.take 5 (.take 6 (.take 8 (.take 9 (.take 10 (.take 7 (.act 11 (.take 12 (.act 13 (.take 14 (.act 15 .done))))))))))))))))
abbrev pl163_10 : Pl := (.take 0 (.take 1 (.take 2 (.take 3 (.take 4 (.take 5 (.take 6 (.take 8 (.take 9 (.take 10 (.take 7 (.act 11 (.take 12 (.act 13 (.take 14 (.act 15 .done))))))))))))))))
abbrev pl163_13 : Pl := (.take 0 (.take 1 (.take 2 (.take 3 (.take 4 (.take 5 (.take 6 (.take 8 (.take 9 (.take 10 (.take 7 (.act 11 (.act 12 (.take 13 .done))))))))))))))
abbrev pl163_15 : Pl := (.take 0 (.take 1 (.take 2 (.take 3 (.take 4 (.take 5 (.take 6 (.take 8 (.take 9 (.take 10 (.take 7 (.act 11 (.act 12 (.take 13 (.take 14 .done)))))))))))))))
abbrev pl163_18 : Pl := (.take 0 (.take 1 (.take 2 (.take 3 (.take 4 (.take 5 (.take 6 (.take 8 (.take 9 (.take 10 (.take 7 (.act 11 (.take 12 (.act 13 (.take 14 (.act 15 .done))))))))))))))))
abbrev pl163_21 : Pl := (.take 0 (.take 1 (.take 2 (.take 3 (.take 4 (.take 5 (.take 6 (.take 8 (.take 9 (.take 10 (.take 7 (.act 11 (.take 12 (.act 13 (.take 14 (.act 15 .done))))))))))))))))
abbrev pl169_3 : Pl := (.take 0 (.take 1 (.take 2 (.take 3 (.take 4 (.take 5 (.take 6 (.take 7 (.take 8 (.take 9 (.take 11 (.take 12 (.take 13 (.take 14 (.take 15 (.take 16 (.take 10 (.act 17 (.act 18 (.take 19 .done))))))))))))))))))))
abbrev pl169_5 : Pl := (.take 0 (.take 1 (.take 2 (.take 3 (.take 4 (.take 6 (.take 7 (.take 8 (.take 9 (.take 10 (.take 5 (.act 11 (.act 12 (.take 13 .done))))))))))))))
abbrev pl169_6 : Pl := (.take 0 (.take 1 (.take 2 (.take 3 (.take 4 (.take 5 (.take 6 (.take 7 (.take 8 (.take 9 (.take 10 (.take 11 (.take 12 (.take 14 (.take 15 (.take 16 (.take 17 (.take 18 (.take 13 (.act 19 (.take 20 (.act 21 (.take 22 (.act 23 .done))))))))))))))))))))))))
abbrev pl171_1 : Pl := (.take 0 (.take 1 (.take 3 (.take 4 (.take 2 (.act 5 (.take 6 (.take 7 (.take 8 (.act 9 .done))))))))))
abbrev pl171_2 : Pl := (.take 0 (.take 1 (.take 3 (.take 4 (.take 2 (.act 5 (.take 6 (.take 7 (.take 8 (.act 9 .done))))))))))
abbrev pl171_3 : Pl := (.take 0 (.take 1 (.take 3 (.take 4 (.take 2 (.act 5 (.take 6 (.take 7 (.take 8 (.act 9 .done))))))))))
abbrev pl176_3 : Pl := (.take 0 (.take 1 (.take 4 (.take 6 (.take 7 (.act 2 (.take 3 (.take 5 (.take 8 (.take 9 .done))))))))))
abbrev pl177_1 : Pl := (.take 0 (.take 1 (.take 2 (.take 4 (.take 5 (.take 6 (.take 3 (.act 7 (.act 8 .done)))))))))
abbrev plE15_13 : Pl := (.take 0 (.take 1 (.take 2 (.take 4 (.take 6 (.take 7 (.take 8 (.take 10 (.take 3 (.take 5 (.take 9 (.take 11 (.take 12 (.act 13 (.act 14 (.act 15 (.act 16 .done)))))))))))))))))
abbrev plE27_10 : Pl := (.take 0 (.take 2 (.take 1 (.take 4 (.take 5 (.take 3 (.act 6 (.take 7 (.take 8 (.act 9 .done))))))))))
abbrev plE27_18 : Pl := (.take 0 (.take 2 (.take 3 (.take 1 (.take 5 (.take 6 (.take 4 (.act 7 (.take 8 (.take 9 (.act 10 .done)))))))))))
abbrev plE29_13 : Pl := (.take 0 (.take 1 (.take 3 (.take 4 (.take 5 (.take 2 (.act 6 (.take 7 (.act 8 (.act 9 (.take 10 (.take 11 (.act 12 .done)))))))))))))
abbrev plE32_2 : Pl := (.take 0 (.take 1 (.take 2 (.take 3 (.act 4 (.take 5 (.take 6 (.act 7 (.take 8 (.act 9 .done))))))))))
abbrev plE32_5 : Pl := (.take 0 (.take 1 (.take 2 (.take 4 (.take 5 (.take 7 (.take 8 (.take 9 (.take 11 (.take 12 (.take 3 (.take 6 (.take 10 (.take 13 (.take 14 (.act 15 (.act 16 (.act 17 (.act 18 .done)))))))))))))))))))
abbrev plE33_2 : Pl := (.take 0 (.take 1 (.take 2 (.take 3 (.act 4 (.take 5 (.take 6 (.act 7 (.take 8 (.act 9 .done))))))))))
abbrev plE47_7 : Pl := (.take 0 (.take 1 (.take 2 (.take 3 (.take 4 (.act 5 (.act 6 (.act 7 (.take 8 (.take 9 (.act 10 .done)))))))))))
abbrev plE71_9 : Pl := (.take 1 (.take 4 (.take 6 (.take 2 (.take 5 (.take 7 (.take 8 (.two 0 (.two 3 (.act 9 (.act 10 (.take 11 (.take 12 (.act 13 .done))))) 9 (.act 3 (.act 10 (.take 11 (.take 12 (.act 13 .done)))))) 9 (.act 0 (.act 3 (.act 10 (.take 11 (.take 12 (.act 13 .done))))))))))))))
abbrev plE71_11 : Pl := (.take 1 (.take 4 (.take 6 (.take 2 (.take 5 (.take 7 (.take 8 (.two 0 (.two 3 (.act 9 (.act 10 (.take 11 (.take 12 (.act 13 .done))))) 9 (.act 3 (.act 10 (.take 11 (.take 12 (.act 13 .done)))))) 9 (.act 0 (.act 3 (.act 10 (.take 11 (.take 12 (.act 13 .done))))))))))))))
abbrev plE71_19 : Pl := (.take 0 (.take 1 (.take 3 (.take 4 (.take 6 (.take 7 (.take 11 (.take 12 (.take 2 (.take 5 (.take 8 (.take 9 (.take 10 (.act 13 (.take 14 (.act 15 (.take 16 (.act 17 (.take 18 (.act 19 .done))))))))))))))))))))
abbrev plE78_12 : Pl := (.take 1 (.take 0 (.act 2 (.act 3 (.act 4 (.act 5 .done))))))
abbrev plE90_2 : Pl := (.take 0 (.take 1 (.take 2 (.take 3 (.take 4 (.act 5 (.act 6 (.act 7 (.take 8 (.take 9 (.act 10 .done)))))))))))
abbrev plE91_2 : Pl := (.take 0 (.take 1 (.take 2 (.take 3 (.take 4 (.act 5 (.act 6 (.act 7 (.take 8 (.take 9 (.act 10 .done)))))))))))
abbrev plE105_1 : Pl := (.take 0 (.take 1 (.take 2 (.take 4 (.take 3 (.take 6 (.take 7 (.take 8 (.take 9 (.take 5 (.act 10 (.take 11 (.take 12 (.take 13 (.take 14 (.act 15 .done))))))))))))))))
abbrev plE107_4 : Pl := (.take 0 (.take 1 (.take 3 (.take 4 (.take 6 (.take 7 (.take 11 (.take 12 (.take 2 (.take 5 (.take 8 (.take 9 (.take 10 (.act 13 (.take 14 (.act 15 (.take 16 (.act 17 (.take 18 (.act 19 .done))))))))))))))))))))
abbrev plE108_1 : Pl := (.take 0 (.take 1 (.take 2 (.take 3 (.take 4 (.take 5 (.take 7 (.take 9 (.take 11 (.take 6 (.take 8 (.take 10 (.act 12 (.take 13 (.act 14 (.act 15 (.take 16 (.take 17 (.take 18 (.take 19 (.act 20 .done)))))))))))))))))))))
abbrev plE111_1 : Pl := (.take 0 (.take 1 (.take 2 (.take 3 (.take 4 (.take 5 (.take 7 (.take 9 (.take 6 (.take 8 (.act 10 (.take 11 (.act 12 (.act 13 (.take 14 (.take 15 (.take 16 (.take 17 (.act 18 .done)))))))))))))))))))
abbrev plE112_1 : Pl := (.take 0 (.take 1 (.take 2 (.take 3 (.take 4 (.take 5 (.take 7 (.take 9 (.take 6 (.take 8 (.act 10 (.take 11 (.act 12 (.act 13 (.take 14 (.take 15 (.take 16 (.take 17 (.act 18 .done)))))))))))))))))))
abbrev plE113_1 : Pl := (.take 0 (.take 1 (.take 2 (.take 4 (.take 5 (.take 3 (.take 7 (.take 8 (.take 9 (.take 10 (.take 6 (.act 11 (.take 12 (.take 13 (.take 14 (.take 15 (.act 16 .done)))))))))))))))))
abbrev plE128_6 : Pl := (.take 0 (.take 2 (.take 3 (.take 1 (.act 4 (.act 5 (.take 6 (.act 7 (.act 8 (.take 9 (.act 10 .done)))))))))))
abbrev plE155_6 : Pl := (.take 0 (.take 1 (.take 2 (.take 3 (.take 4 (.take 5 (.take 6 (.take 7 (.take 8 (.take 10 (.take 11 (.take 12 (.take 9 (.act 13 (.take 14 (.act 15 (.take 16 (.act 17 .done))))))))))))))))))
abbrev plE156_10 : Pl := (.take 0 (.take 1 (.take 2 (.take 3 (.take 4 (.take 5 (.take 6 (.take 7 (.take 8 (.take 9 (.take 10 (.take 12 (.take 13 (.take 14 (.take 11 (.act 15 (.take 16 (.act 17 (.take 18 (.act 19 .done))))))))))))))))))))
abbrev plE157_10 : Pl := (.take 0 (.take 1 (.take 2 (.take 3 (.take 4 (.take 5 (.take 6 (.take 7 (.take 8 (.take 9 (.take 10 (.take 12 (.take 13 (.take 14 (.take 11 (.act 15 (.take 16 (.act 17 (.take 18 (.act 19 .done))))))))))))))))))))
abbrev plE159_3 : Pl := (.take 0 (.take 1 (.take 2 (.take 3 (.take 4 (.take 5 (.take 6 (.take 8 (.take 9 (.take 10 (.take 7 (.act 11 (.take 12 (.act 13 (.take 14 (.act 15 .done))))))))))))))))
abbrev plE160_11 : Pl := (.take 0 (.take 1 (.take 2 (.take 3 (.take 4 (.take 5 (.take 6 (.take 7 (.take 8 (.take 10 (.take 11 (.take 12 (.take 9 (.act 13 (.take 14 (.act 15 (.take 16 (.act 17 .done))))))))))))))))))
abbrev plE160_17 : Pl := (.take 0 (.take 1 (.take 2 (.take 3 (.take 4 (.take 5 (.take 6 (.take 7 (.take 8 (.take 10 (.take 11 (.take 12 (.take 9 (.act 13 (.take 14 (.act 15 (.take 16 (.act 17 .done))))))))))))))))))
abbrev plE160_23 : Pl := (.take 0 (.take 1 (.take 2 (.take 3 (.take 4 (.take 5 (.take 6 (.take 7 (.take 8 (.take 10 (.take 11 (.take 12 (.take 9 (.act 13 (.take 14 (.act 15 (.take 16 (.act 17 .done))))))))))))))))))
abbrev plE162_1 : Pl := (.take 0 (.take 1 (.take 2 (.take 3 (.take 4 (.take 5 (.take 6 (.take 8 (.take 9 (.take 10 (.take 7 (.act 11 (.take 12 (.act 13 (.take 14 (.act 15 .done))))))))))))))))
abbrev plE162_8 : Pl := (.take 0 (.take 1 (.take 2 (.take 3 (.take 4 (.take 5 (.take 6 (.take 8 (.take 9 (.take 10 (.take 7 (.act 11 (.take 12 (.act 13 (.take 14 (.act 15 .done))))))))))))))))
abbrev plE163_1 : Pl := (.take 0 (.take 1 (.take 2 (.take 3 (.take 4 (.take 5 (.take 6 (.take 8 (.take 9 (.take 10 (.take 7 (.act 11 (.take 12 (.act 13 (.take 14 (.act 15 .done))))))))))))))))
abbrev plE163_8 : Pl := (.take 0 (.take 1 (.take 2 (.take 3 (.take 4 (.take 5 (.take 6 (.take 8 (.take 9 (.take 10 (.take 7 (.act 11 (.take 12 (.act 13 (.take 14 (.act 15 .done))))))))))))))))
abbrev plE163_10 : Pl := (.take 0 (.take 1 (.take 2 (.take 3 (.take 4 (.take 5 (.take 6 (.take 8 (.take 9 (.take 10 (.take 7 (.act 11 (.take 12 (.act 13 (.take 14 (.act 15 .done))))))))))))))))
abbrev plE163_18 : Pl := (.take 0 (.take 1 (.take 2 (.take 3 (.take 4 (.take 5 (.take 6 (.take 8 (.take 9 (.take 10 (.take 7 (.act 11 (.take 12 (.act 13 (.take 14 (.act 15 .done))))))))))))))))
abbrev plE163_21 : Pl := (.take 0 (.take 1 (.take 2 (.take 3 (.take 4 (.take 5 (.take 6 (.take 8 (.take 9 (.take 10 (.take 7 (.act 11 (.take 12 (.act 13 (.take 14 (.act 15 .done))))))))))))))))
abbrev plE169_6 : Pl := (.take 0 (.take 1 (.take 2 (.take 3 (.take 4 (.take 5 (.take 6 (.take 7 (.take 8 (.take 9 (.take 10 (.take 11 (.take 12 (.take 14 (.take 15 (.take 16 (.take 17 (.take 18 (.take 13 (.act 19 (.take 20 (.act 21 (.take 22 (.act 23 .done))))))))))))))))))))))))
abbrev plR15_13 : Pl := (.take 0 (.take 1 (.take 2 (.take 3 (.take 4 (.take 5 (.take 6 (.take 7 (.take 8 (.take 9 (.take 10 (.take 11 (.take 12 (.take 13 (.act 14 (.act 15 (.act 16 .done)))))))))))))))))
abbrev plR32_5 : Pl := (.take 0 (.take 1 (.take 2 (.take 3 (.take 4 (.take 5 (.take 6 (.take 7 (.take 8 (.take 9 (.take 10 (.take 11 (.take 12 (.take 13 (.take 14 (.take 15 (.act 16 (.act 17 (.act 18 .done)))))))))))))))))))
end Go.Proofs.YtdfoijfjlhjeaaaGreat

/- What the symbolic execution asks of this program's types and functions, laid by a program of mine (gen_ty.py); each is proved by the kernel. -/
namespace Go.Proofs.YtdfoijfjlhjeaaaGreat
open Go Go.SX
set_option linter.unusedVariables false
set_option linter.unusedSimpArgs false
set_option maxRecDepth 100000
instance : Und Tryz.prog 3 (.int .i64) := ⟨Tryz.underlying3⟩
instance : Sc Tryz.prog 3 := ⟨fun w => by kernel_rfl⟩
instance : Sz Tryz.prog 3 1 := ⟨fun w => by kernel_rfl⟩
instance : Zr Tryz.prog 3 (.int .i64 0) := ⟨fun w => by kernel_rfl⟩
instance : Und Tryz.prog 4 .bool := ⟨Tryz.underlying4⟩
instance : Sc Tryz.prog 4 := ⟨fun w => by kernel_rfl⟩
instance : Sz Tryz.prog 4 1 := ⟨fun w => by kernel_rfl⟩
instance : Zr Tryz.prog 4 (.bool false) := ⟨fun w => by kernel_rfl⟩
instance : Und Tryz.prog 5 (.int .u8) := ⟨Tryz.underlying5⟩
instance : Sc Tryz.prog 5 := ⟨fun w => by kernel_rfl⟩
instance : Sz Tryz.prog 5 1 := ⟨fun w => by kernel_rfl⟩
instance : Zr Tryz.prog 5 (.int .u8 0) := ⟨fun w => by kernel_rfl⟩
instance : Und Tryz.prog 9 .string := ⟨Tryz.underlying9⟩
instance : Sc Tryz.prog 9 := ⟨fun w => by kernel_rfl⟩
instance : Sz Tryz.prog 9 1 := ⟨fun w => by kernel_rfl⟩
instance : Zr Tryz.prog 9 (.string ⟨([] : List UInt8).toArray⟩) := ⟨fun w => by kernel_rfl⟩
instance : Sc Tryz.prog 20 := ⟨fun w => by kernel_rfl⟩
instance : Sz Tryz.prog 20 1 := ⟨fun w => by kernel_rfl⟩
instance : Zr Tryz.prog 20 (.nilIface) := ⟨fun w => by kernel_rfl⟩
instance : Und Tryz.prog 22 (.slice 26) := ⟨Tryz.underlying22⟩
instance : Sc Tryz.prog 22 := ⟨fun w => by kernel_rfl⟩
instance : Sz Tryz.prog 22 1 := ⟨fun w => by kernel_rfl⟩
instance : Zr Tryz.prog 22 (.slice none 0 0) := ⟨fun w => by kernel_rfl⟩
instance : El Tryz.prog 26 3 32 := elOf (z := .agg #[.int .i64 0, .int .i64 0, .string ⟨([] : List UInt8).toArray⟩]) (by kernel_rfl) (by rfl) (by omega)
instance : Und Tryz.prog 23 (.slice 32) := ⟨Tryz.underlying23⟩
instance : Sc Tryz.prog 23 := ⟨fun w => by kernel_rfl⟩
instance : Sz Tryz.prog 23 1 := ⟨fun w => by kernel_rfl⟩
instance : Zr Tryz.prog 23 (.slice none 0 0) := ⟨fun w => by kernel_rfl⟩
instance : El Tryz.prog 32 8 72 := elOf (z := .agg #[.int .i64 0, .int .i64 0, .int .i64 0, .int .i64 0, .int .i64 0, .int .i64 0, .int .i64 0, .string ⟨([] : List UInt8).toArray⟩]) (by kernel_rfl) (by rfl) (by omega)
instance : Ag Tryz.prog 26 3 := ⟨fun w => by kernel_rfl, fun w => by kernel_rfl⟩
instance : Sz Tryz.prog 26 3 := ⟨fun w => by kernel_rfl⟩
instance : Zr Tryz.prog 26 (.agg #[.int .i64 0, .int .i64 0, .string ⟨([] : List UInt8).toArray⟩]) := ⟨fun w => by kernel_rfl⟩
instance : Fl Tryz.prog 26 0 0 := ⟨fun b o w => by kernel_rfl⟩
instance : Fl Tryz.prog 26 1 1 := ⟨fun b o w => by kernel_rfl⟩
instance : Fl Tryz.prog 26 2 2 := ⟨fun b o w => by kernel_rfl⟩
instance : Ag Tryz.prog 28 2 := ⟨fun w => by kernel_rfl, fun w => by kernel_rfl⟩
instance : Sz Tryz.prog 28 2 := ⟨fun w => by kernel_rfl⟩
instance : Zr Tryz.prog 28 (.agg #[.int .i64 0, .int .i64 0]) := ⟨fun w => by kernel_rfl⟩
instance : Fl Tryz.prog 28 0 0 := ⟨fun b o w => by kernel_rfl⟩
instance : Fl Tryz.prog 28 1 1 := ⟨fun b o w => by kernel_rfl⟩
instance : Ag Tryz.prog 30 4 := ⟨fun w => by kernel_rfl, fun w => by kernel_rfl⟩
instance : Sz Tryz.prog 30 4 := ⟨fun w => by kernel_rfl⟩
instance : Zr Tryz.prog 30 (.agg #[.int .i64 0, .int .i64 0, .int .i64 0, .int .i64 0]) := ⟨fun w => by kernel_rfl⟩
instance : Fl Tryz.prog 30 0 0 := ⟨fun b o w => by kernel_rfl⟩
instance : Fl Tryz.prog 30 1 2 := ⟨fun b o w => by kernel_rfl⟩
instance : Ag Tryz.prog 32 8 := ⟨fun w => by kernel_rfl, fun w => by kernel_rfl⟩
instance : Sz Tryz.prog 32 8 := ⟨fun w => by kernel_rfl⟩
instance : Zr Tryz.prog 32 (.agg #[.int .i64 0, .int .i64 0, .int .i64 0, .int .i64 0, .int .i64 0, .int .i64 0, .int .i64 0, .string ⟨([] : List UInt8).toArray⟩]) := ⟨fun w => by kernel_rfl⟩
instance : Fl Tryz.prog 32 0 0 := ⟨fun b o w => by kernel_rfl⟩
instance : Fl Tryz.prog 32 1 1 := ⟨fun b o w => by kernel_rfl⟩
instance : Fl Tryz.prog 32 2 2 := ⟨fun b o w => by kernel_rfl⟩
instance : Fl Tryz.prog 32 3 3 := ⟨fun b o w => by kernel_rfl⟩
instance : Fl Tryz.prog 32 4 7 := ⟨fun b o w => by kernel_rfl⟩
instance : Und Tryz.prog 33 (.int .i64) := ⟨Tryz.underlying33⟩
instance : Sc Tryz.prog 33 := ⟨fun w => by kernel_rfl⟩
instance : Sz Tryz.prog 33 1 := ⟨fun w => by kernel_rfl⟩
instance : Zr Tryz.prog 33 (.int .i64 0) := ⟨fun w => by kernel_rfl⟩
instance : Und Tryz.prog 37 (.slice 162) := ⟨Tryz.underlying37⟩
instance : Sc Tryz.prog 37 := ⟨fun w => by kernel_rfl⟩
instance : Sz Tryz.prog 37 1 := ⟨fun w => by kernel_rfl⟩
instance : Zr Tryz.prog 37 (.slice none 0 0) := ⟨fun w => by kernel_rfl⟩
instance : El Tryz.prog 162 2 16 := elOf (z := .agg #[.int .i64 0, .int .i64 0]) (by kernel_rfl) (by rfl) (by omega)
instance : Und Tryz.prog 38 (.slice 62) := ⟨Tryz.underlying38⟩
instance : Sc Tryz.prog 38 := ⟨fun w => by kernel_rfl⟩
instance : Sz Tryz.prog 38 1 := ⟨fun w => by kernel_rfl⟩
instance : Zr Tryz.prog 38 (.slice none 0 0) := ⟨fun w => by kernel_rfl⟩
instance : El Tryz.prog 62 6 48 := elOf (z := .agg #[.int .i64 0, .int .i64 0, .int .i64 0, .int .i64 0, .int .i64 0, .int .i64 0]) (by kernel_rfl) (by rfl) (by omega)
instance : Ag Tryz.prog 40 4 := ⟨fun w => by kernel_rfl, fun w => by kernel_rfl⟩
instance : Sz Tryz.prog 40 4 := ⟨fun w => by kernel_rfl⟩
instance : Zr Tryz.prog 40 (.agg #[.int .i64 0, .slice none 0 0, .slice none 0 0, .slice none 0 0]) := ⟨fun w => by kernel_rfl⟩
instance : Fl Tryz.prog 40 0 0 := ⟨fun b o w => by kernel_rfl⟩
instance : Fl Tryz.prog 40 1 1 := ⟨fun b o w => by kernel_rfl⟩
instance : Fl Tryz.prog 40 2 2 := ⟨fun b o w => by kernel_rfl⟩
instance : Fl Tryz.prog 40 3 3 := ⟨fun b o w => by kernel_rfl⟩
instance : Ag Tryz.prog 42 2 := ⟨fun w => by kernel_rfl, fun w => by kernel_rfl⟩
instance : Sz Tryz.prog 42 2 := ⟨fun w => by kernel_rfl⟩
instance : Zr Tryz.prog 42 (.agg #[.int .i64 0, .int .i64 0]) := ⟨fun w => by kernel_rfl⟩
instance : Fl Tryz.prog 42 0 0 := ⟨fun b o w => by kernel_rfl⟩
instance : Fl Tryz.prog 42 1 1 := ⟨fun b o w => by kernel_rfl⟩
instance : Und Tryz.prog 43 (.array 3 30) := ⟨Tryz.underlying43⟩
instance : Ag Tryz.prog 43 12 := ⟨fun w => by kernel_rfl, fun w => by kernel_rfl⟩
instance : Sz Tryz.prog 43 12 := ⟨fun w => by kernel_rfl⟩
instance : Zr Tryz.prog 43 (.agg #[.int .i64 0, .int .i64 0, .int .i64 0, .int .i64 0, .int .i64 0, .int .i64 0, .int .i64 0, .int .i64 0, .int .i64 0, .int .i64 0, .int .i64 0, .int .i64 0]) := ⟨fun w => by kernel_rfl⟩
instance : Ag Tryz.prog 45 15 := ⟨fun w => by kernel_rfl, fun w => by kernel_rfl⟩
instance : Sz Tryz.prog 45 15 := ⟨fun w => by kernel_rfl⟩
instance : Zr Tryz.prog 45 (.agg #[.int .i64 0, .int .i64 0, .int .i64 0, .int .i64 0, .int .i64 0, .int .i64 0, .int .i64 0, .int .i64 0, .int .i64 0, .int .i64 0, .int .i64 0, .int .i64 0, .int .i64 0, .int .i64 0, .int .i64 0]) := ⟨fun w => by kernel_rfl⟩
instance : Fl Tryz.prog 45 0 0 := ⟨fun b o w => by kernel_rfl⟩
instance : Fl Tryz.prog 45 1 1 := ⟨fun b o w => by kernel_rfl⟩
instance : Fl Tryz.prog 45 2 2 := ⟨fun b o w => by kernel_rfl⟩
instance : Fl Tryz.prog 45 3 3 := ⟨fun b o w => by kernel_rfl⟩
instance : Ag Tryz.prog 47 4 := ⟨fun w => by kernel_rfl, fun w => by kernel_rfl⟩
instance : Sz Tryz.prog 47 4 := ⟨fun w => by kernel_rfl⟩
instance : Zr Tryz.prog 47 (.agg #[.int .i64 0, .int .i64 0, .int .i64 0, .string ⟨([] : List UInt8).toArray⟩]) := ⟨fun w => by kernel_rfl⟩
instance : Fl Tryz.prog 47 0 0 := ⟨fun b o w => by kernel_rfl⟩
instance : Fl Tryz.prog 47 1 1 := ⟨fun b o w => by kernel_rfl⟩
instance : Fl Tryz.prog 47 2 3 := ⟨fun b o w => by kernel_rfl⟩
instance : Ag Tryz.prog 49 26 := ⟨fun w => by kernel_rfl, fun w => by kernel_rfl⟩
instance : Sz Tryz.prog 49 26 := ⟨fun w => by kernel_rfl⟩
instance : Zr Tryz.prog 49 (.agg #[.int .i64 0, .int .i64 0, .slice none 0 0, .slice none 0 0, .slice none 0 0, .int .i64 0, .int .i64 0, .int .i64 0, .int .i64 0, .int .i64 0, .int .i64 0, .int .i64 0, .int .i64 0, .int .i64 0, .int .i64 0, .int .i64 0, .int .i64 0, .int .i64 0, .int .i64 0, .int .i64 0, .int .i64 0, .int .i64 0, .int .i64 0, .int .i64 0, .int .i64 0, .string ⟨([] : List UInt8).toArray⟩]) := ⟨fun w => by kernel_rfl⟩
instance : Fl Tryz.prog 49 0 0 := ⟨fun b o w => by kernel_rfl⟩
instance : Fl Tryz.prog 49 1 1 := ⟨fun b o w => by kernel_rfl⟩
instance : Fl Tryz.prog 49 2 5 := ⟨fun b o w => by kernel_rfl⟩
instance : Fl Tryz.prog 49 3 7 := ⟨fun b o w => by kernel_rfl⟩
instance : Fl Tryz.prog 49 4 22 := ⟨fun b o w => by kernel_rfl⟩
instance : Und Tryz.prog 53 (.slice 57) := ⟨Tryz.underlying53⟩
instance : Sc Tryz.prog 53 := ⟨fun w => by kernel_rfl⟩
instance : Sz Tryz.prog 53 1 := ⟨fun w => by kernel_rfl⟩
instance : Zr Tryz.prog 53 (.slice none 0 0) := ⟨fun w => by kernel_rfl⟩
instance : El Tryz.prog 57 3 32 := elOf (z := .agg #[.int .i64 0, .int .i64 0, .string ⟨([] : List UInt8).toArray⟩]) (by kernel_rfl) (by rfl) (by omega)
instance : Und Tryz.prog 54 (.pointer 93) := ⟨Tryz.underlying54⟩
instance : Sc Tryz.prog 54 := ⟨fun w => by kernel_rfl⟩
instance : Sz Tryz.prog 54 1 := ⟨fun w => by kernel_rfl⟩
instance : Zr Tryz.prog 54 (.pointer none) := ⟨fun w => by kernel_rfl⟩
instance : Ag Tryz.prog 57 3 := ⟨fun w => by kernel_rfl, fun w => by kernel_rfl⟩
instance : Sz Tryz.prog 57 3 := ⟨fun w => by kernel_rfl⟩
instance : Zr Tryz.prog 57 (.agg #[.int .i64 0, .int .i64 0, .string ⟨([] : List UInt8).toArray⟩]) := ⟨fun w => by kernel_rfl⟩
instance : Fl Tryz.prog 57 0 0 := ⟨fun b o w => by kernel_rfl⟩
instance : Fl Tryz.prog 57 1 2 := ⟨fun b o w => by kernel_rfl⟩
instance : Ag Tryz.prog 62 6 := ⟨fun w => by kernel_rfl, fun w => by kernel_rfl⟩
instance : Sz Tryz.prog 62 6 := ⟨fun w => by kernel_rfl⟩
instance : Zr Tryz.prog 62 (.agg #[.int .i64 0, .int .i64 0, .int .i64 0, .int .i64 0, .int .i64 0, .int .i64 0]) := ⟨fun w => by kernel_rfl⟩
instance : Fl Tryz.prog 62 0 0 := ⟨fun b o w => by kernel_rfl⟩
instance : Fl Tryz.prog 62 1 1 := ⟨fun b o w => by kernel_rfl⟩
instance : Fl Tryz.prog 62 2 2 := ⟨fun b o w => by kernel_rfl⟩
instance : Und Tryz.prog 68 (.slice 28) := ⟨Tryz.underlying68⟩
instance : Sc Tryz.prog 68 := ⟨fun w => by kernel_rfl⟩
instance : Sz Tryz.prog 68 1 := ⟨fun w => by kernel_rfl⟩
instance : Zr Tryz.prog 68 (.slice none 0 0) := ⟨fun w => by kernel_rfl⟩
instance : El Tryz.prog 28 2 16 := elOf (z := .agg #[.int .i64 0, .int .i64 0]) (by kernel_rfl) (by rfl) (by omega)
instance : Und Tryz.prog 73 (.slice 9) := ⟨Tryz.underlying73⟩
instance : Sc Tryz.prog 73 := ⟨fun w => by kernel_rfl⟩
instance : Sz Tryz.prog 73 1 := ⟨fun w => by kernel_rfl⟩
instance : Zr Tryz.prog 73 (.slice none 0 0) := ⟨fun w => by kernel_rfl⟩
instance : El Tryz.prog 9 1 16 := elOf (z := .string ⟨([] : List UInt8).toArray⟩) (by kernel_rfl) (by rfl) (by omega)
instance : Ag Tryz.prog 77 27 := ⟨fun w => by kernel_rfl, fun w => by kernel_rfl⟩
instance : Sz Tryz.prog 77 27 := ⟨fun w => by kernel_rfl⟩
instance : Zr Tryz.prog 77 (.agg #[.slice none 0 0, .int .i64 0, .int .i64 0, .slice none 0 0, .slice none 0 0, .slice none 0 0, .int .i64 0, .int .i64 0, .int .i64 0, .int .i64 0, .int .i64 0, .int .i64 0, .int .i64 0, .int .i64 0, .int .i64 0, .int .i64 0, .int .i64 0, .int .i64 0, .int .i64 0, .int .i64 0, .int .i64 0, .int .i64 0, .int .i64 0, .int .i64 0, .int .i64 0, .int .i64 0, .string ⟨([] : List UInt8).toArray⟩]) := ⟨fun w => by kernel_rfl⟩
instance : Fl Tryz.prog 77 0 0 := ⟨fun b o w => by kernel_rfl⟩
instance : Fl Tryz.prog 77 1 1 := ⟨fun b o w => by kernel_rfl⟩
instance : Und Tryz.prog 83 (.pointer 142) := ⟨Tryz.underlying83⟩
instance : Sc Tryz.prog 83 := ⟨fun w => by kernel_rfl⟩
instance : Sz Tryz.prog 83 1 := ⟨fun w => by kernel_rfl⟩
instance : Zr Tryz.prog 83 (.pointer none) := ⟨fun w => by kernel_rfl⟩
instance : Ag Tryz.prog 86 1 := ⟨fun w => by kernel_rfl, fun w => by kernel_rfl⟩
instance : Sz Tryz.prog 86 1 := ⟨fun w => by kernel_rfl⟩
instance : Zr Tryz.prog 86 (.agg #[.pointer none]) := ⟨fun w => by kernel_rfl⟩
instance : Fl Tryz.prog 86 0 0 := ⟨fun b o w => by kernel_rfl⟩
instance : Und Tryz.prog 88 (.map 3 3) := ⟨Tryz.underlying88⟩
instance : Sc Tryz.prog 88 := ⟨fun w => by kernel_rfl⟩
instance : Sz Tryz.prog 88 1 := ⟨fun w => by kernel_rfl⟩
instance : Zr Tryz.prog 88 (.map none) := ⟨fun w => by kernel_rfl⟩
instance : Und Tryz.prog 89 (.map 30 3) := ⟨Tryz.underlying89⟩
instance : Sc Tryz.prog 89 := ⟨fun w => by kernel_rfl⟩
instance : Sz Tryz.prog 89 1 := ⟨fun w => by kernel_rfl⟩
instance : Zr Tryz.prog 89 (.map none) := ⟨fun w => by kernel_rfl⟩
instance : Und Tryz.prog 90 (.map 47 3) := ⟨Tryz.underlying90⟩
instance : Sc Tryz.prog 90 := ⟨fun w => by kernel_rfl⟩
instance : Sz Tryz.prog 90 1 := ⟨fun w => by kernel_rfl⟩
instance : Zr Tryz.prog 90 (.map none) := ⟨fun w => by kernel_rfl⟩
instance : Und Tryz.prog 91 (.map 3 94) := ⟨Tryz.underlying91⟩
instance : Sc Tryz.prog 91 := ⟨fun w => by kernel_rfl⟩
instance : Sz Tryz.prog 91 1 := ⟨fun w => by kernel_rfl⟩
instance : Zr Tryz.prog 91 (.map none) := ⟨fun w => by kernel_rfl⟩
instance : Ag Tryz.prog 93 4 := ⟨fun w => by kernel_rfl, fun w => by kernel_rfl⟩
instance : Sz Tryz.prog 93 4 := ⟨fun w => by kernel_rfl⟩
instance : Zr Tryz.prog 93 (.agg #[.map none, .map none, .map none, .map none]) := ⟨fun w => by kernel_rfl⟩
instance : Fl Tryz.prog 93 0 0 := ⟨fun b o w => by kernel_rfl⟩
instance : Fl Tryz.prog 93 1 1 := ⟨fun b o w => by kernel_rfl⟩
instance : Fl Tryz.prog 93 2 2 := ⟨fun b o w => by kernel_rfl⟩
instance : Fl Tryz.prog 93 3 3 := ⟨fun b o w => by kernel_rfl⟩
instance : Und Tryz.prog 94 (.slice 30) := ⟨Tryz.underlying94⟩
instance : Sc Tryz.prog 94 := ⟨fun w => by kernel_rfl⟩
instance : Sz Tryz.prog 94 1 := ⟨fun w => by kernel_rfl⟩
instance : Zr Tryz.prog 94 (.slice none 0 0) := ⟨fun w => by kernel_rfl⟩
instance : El Tryz.prog 30 4 32 := elOf (z := .agg #[.int .i64 0, .int .i64 0, .int .i64 0, .int .i64 0]) (by kernel_rfl) (by rfl) (by omega)
instance : Und Tryz.prog 104 (.slice 160) := ⟨Tryz.underlying104⟩
instance : Sc Tryz.prog 104 := ⟨fun w => by kernel_rfl⟩
instance : Sz Tryz.prog 104 1 := ⟨fun w => by kernel_rfl⟩
instance : Zr Tryz.prog 104 (.slice none 0 0) := ⟨fun w => by kernel_rfl⟩
instance : El Tryz.prog 160 2 16 := elOf (z := .agg #[.int .u64 0, .int .i64 0]) (by kernel_rfl) (by rfl) (by omega)
instance : Und Tryz.prog 110 (.slice 47) := ⟨Tryz.underlying110⟩
instance : Sc Tryz.prog 110 := ⟨fun w => by kernel_rfl⟩
instance : Sz Tryz.prog 110 1 := ⟨fun w => by kernel_rfl⟩
instance : Zr Tryz.prog 110 (.slice none 0 0) := ⟨fun w => by kernel_rfl⟩
instance : El Tryz.prog 47 4 40 := elOf (z := .agg #[.int .i64 0, .int .i64 0, .int .i64 0, .string ⟨([] : List UInt8).toArray⟩]) (by kernel_rfl) (by rfl) (by omega)
instance : Ag Tryz.prog 112 3 := ⟨fun w => by kernel_rfl, fun w => by kernel_rfl⟩
instance : Sz Tryz.prog 112 3 := ⟨fun w => by kernel_rfl⟩
instance : Zr Tryz.prog 112 (.agg #[.slice none 0 0, .slice none 0 0, .slice none 0 0]) := ⟨fun w => by kernel_rfl⟩
instance : Fl Tryz.prog 112 0 0 := ⟨fun b o w => by kernel_rfl⟩
instance : Fl Tryz.prog 112 1 1 := ⟨fun b o w => by kernel_rfl⟩
instance : Fl Tryz.prog 112 2 2 := ⟨fun b o w => by kernel_rfl⟩
instance : Und Tryz.prog 114 (.slice 3) := ⟨Tryz.underlying114⟩
instance : Sc Tryz.prog 114 := ⟨fun w => by kernel_rfl⟩
instance : Sz Tryz.prog 114 1 := ⟨fun w => by kernel_rfl⟩
instance : Zr Tryz.prog 114 (.slice none 0 0) := ⟨fun w => by kernel_rfl⟩
instance : El Tryz.prog 3 1 8 := elOf (z := .int .i64 0) (by kernel_rfl) (by rfl) (by omega)
instance : Und Tryz.prog 125 (.map 3 128) := ⟨Tryz.underlying125⟩
instance : Sc Tryz.prog 125 := ⟨fun w => by kernel_rfl⟩
instance : Sz Tryz.prog 125 1 := ⟨fun w => by kernel_rfl⟩
instance : Zr Tryz.prog 125 (.map none) := ⟨fun w => by kernel_rfl⟩
instance : Sc Tryz.prog 128 := ⟨fun w => by kernel_rfl⟩
instance : Sz Tryz.prog 128 1 := ⟨fun w => by kernel_rfl⟩
instance : Zr Tryz.prog 128 (.nilFunc) := ⟨fun w => by kernel_rfl⟩
instance : Und Tryz.prog 130 (.pointer 182) := ⟨Tryz.underlying130⟩
instance : Sc Tryz.prog 130 := ⟨fun w => by kernel_rfl⟩
instance : Sz Tryz.prog 130 1 := ⟨fun w => by kernel_rfl⟩
instance : Zr Tryz.prog 130 (.pointer none) := ⟨fun w => by kernel_rfl⟩
instance : Ag Tryz.prog 133 1 := ⟨fun w => by kernel_rfl, fun w => by kernel_rfl⟩
instance : Sz Tryz.prog 133 1 := ⟨fun w => by kernel_rfl⟩
instance : Zr Tryz.prog 133 (.agg #[.pointer none]) := ⟨fun w => by kernel_rfl⟩
instance : Fl Tryz.prog 133 0 0 := ⟨fun b o w => by kernel_rfl⟩
instance : Und Tryz.prog 136 (.slice 5) := ⟨Tryz.underlying136⟩
instance : Sc Tryz.prog 136 := ⟨fun w => by kernel_rfl⟩
instance : Sz Tryz.prog 136 1 := ⟨fun w => by kernel_rfl⟩
instance : Zr Tryz.prog 136 (.slice none 0 0) := ⟨fun w => by kernel_rfl⟩
instance : El Tryz.prog 5 1 1 := elOf (z := .int .u8 0) (by kernel_rfl) (by rfl) (by omega)
instance : Ag Tryz.prog 142 2 := ⟨fun w => by kernel_rfl, fun w => by kernel_rfl⟩
instance : Sz Tryz.prog 142 2 := ⟨fun w => by kernel_rfl⟩
instance : Zr Tryz.prog 142 (.agg #[.slice none 0 0, .int .i64 0]) := ⟨fun w => by kernel_rfl⟩
instance : Fl Tryz.prog 142 0 0 := ⟨fun b o w => by kernel_rfl⟩
instance : Fl Tryz.prog 142 1 1 := ⟨fun b o w => by kernel_rfl⟩
instance : Und Tryz.prog 147 (.pointer 191) := ⟨Tryz.underlying147⟩
instance : Sc Tryz.prog 147 := ⟨fun w => by kernel_rfl⟩
instance : Sz Tryz.prog 147 1 := ⟨fun w => by kernel_rfl⟩
instance : Zr Tryz.prog 147 (.pointer none) := ⟨fun w => by kernel_rfl⟩
instance : Ag Tryz.prog 150 1 := ⟨fun w => by kernel_rfl, fun w => by kernel_rfl⟩
instance : Sz Tryz.prog 150 1 := ⟨fun w => by kernel_rfl⟩
instance : Zr Tryz.prog 150 (.agg #[.pointer none]) := ⟨fun w => by kernel_rfl⟩
instance : Fl Tryz.prog 150 0 0 := ⟨fun b o w => by kernel_rfl⟩
instance : Und Tryz.prog 158 (.int .u64) := ⟨Tryz.underlying158⟩
instance : Sc Tryz.prog 158 := ⟨fun w => by kernel_rfl⟩
instance : Sz Tryz.prog 158 1 := ⟨fun w => by kernel_rfl⟩
instance : Zr Tryz.prog 158 (.int .u64 0) := ⟨fun w => by kernel_rfl⟩
instance : Ag Tryz.prog 160 2 := ⟨fun w => by kernel_rfl, fun w => by kernel_rfl⟩
instance : Sz Tryz.prog 160 2 := ⟨fun w => by kernel_rfl⟩
instance : Zr Tryz.prog 160 (.agg #[.int .u64 0, .int .i64 0]) := ⟨fun w => by kernel_rfl⟩
instance : Fl Tryz.prog 160 0 0 := ⟨fun b o w => by kernel_rfl⟩
instance : Fl Tryz.prog 160 1 1 := ⟨fun b o w => by kernel_rfl⟩
instance : Ag Tryz.prog 162 2 := ⟨fun w => by kernel_rfl, fun w => by kernel_rfl⟩
instance : Sz Tryz.prog 162 2 := ⟨fun w => by kernel_rfl⟩
instance : Zr Tryz.prog 162 (.agg #[.int .i64 0, .int .i64 0]) := ⟨fun w => by kernel_rfl⟩
instance : Fl Tryz.prog 162 0 0 := ⟨fun b o w => by kernel_rfl⟩
instance : Fl Tryz.prog 162 1 1 := ⟨fun b o w => by kernel_rfl⟩
instance : Und Tryz.prog 172 (.array 4 4) := ⟨Tryz.underlying172⟩
instance : Ag Tryz.prog 172 4 := ⟨fun w => by kernel_rfl, fun w => by kernel_rfl⟩
instance : Sz Tryz.prog 172 4 := ⟨fun w => by kernel_rfl⟩
instance : Zr Tryz.prog 172 (.agg #[.bool false, .bool false, .bool false, .bool false]) := ⟨fun w => by kernel_rfl⟩
instance : Ag Tryz.prog 180 1 := ⟨fun w => by kernel_rfl, fun w => by kernel_rfl⟩
instance : Sz Tryz.prog 180 1 := ⟨fun w => by kernel_rfl⟩
instance : Zr Tryz.prog 180 (.agg #[.int .i64 0]) := ⟨fun w => by kernel_rfl⟩
instance : Fl Tryz.prog 180 0 0 := ⟨fun b o w => by kernel_rfl⟩
instance : Ag Tryz.prog 182 2 := ⟨fun w => by kernel_rfl, fun w => by kernel_rfl⟩
instance : Sz Tryz.prog 182 2 := ⟨fun w => by kernel_rfl⟩
instance : Zr Tryz.prog 182 (.agg #[.int .i64 0, .slice none 0 0]) := ⟨fun w => by kernel_rfl⟩
instance : Fl Tryz.prog 182 0 0 := ⟨fun b o w => by kernel_rfl⟩
instance : Fl Tryz.prog 182 1 1 := ⟨fun b o w => by kernel_rfl⟩
instance : Und Tryz.prog 184 (.int .u32) := ⟨Tryz.underlying184⟩
instance : Sc Tryz.prog 184 := ⟨fun w => by kernel_rfl⟩
instance : Sz Tryz.prog 184 1 := ⟨fun w => by kernel_rfl⟩
instance : Zr Tryz.prog 184 (.int .u32 0) := ⟨fun w => by kernel_rfl⟩
instance : Und Tryz.prog 187 (.array 8 5) := ⟨Tryz.underlying187⟩
instance : Ag Tryz.prog 187 8 := ⟨fun w => by kernel_rfl, fun w => by kernel_rfl⟩
instance : Sz Tryz.prog 187 8 := ⟨fun w => by kernel_rfl⟩
instance : Zr Tryz.prog 187 (.agg #[.int .u8 0, .int .u8 0, .int .u8 0, .int .u8 0, .int .u8 0, .int .u8 0, .int .u8 0, .int .u8 0]) := ⟨fun w => by kernel_rfl⟩
instance : Ag Tryz.prog 191 2 := ⟨fun w => by kernel_rfl, fun w => by kernel_rfl⟩
instance : Sz Tryz.prog 191 2 := ⟨fun w => by kernel_rfl⟩
instance : Zr Tryz.prog 191 (.agg #[.int .i64 0, .string ⟨([] : List UInt8).toArray⟩]) := ⟨fun w => by kernel_rfl⟩
instance : Fl Tryz.prog 191 0 0 := ⟨fun b o w => by kernel_rfl⟩
instance : Fl Tryz.prog 191 1 1 := ⟨fun b o w => by kernel_rfl⟩
instance : Und Tryz.prog 202 (.int .u64) := ⟨Tryz.underlying202⟩
instance : Sc Tryz.prog 202 := ⟨fun w => by kernel_rfl⟩
instance : Sz Tryz.prog 202 1 := ⟨fun w => by kernel_rfl⟩
instance : Zr Tryz.prog 202 (.int .u64 0) := ⟨fun w => by kernel_rfl⟩
instance : Ag Tryz.prog 208 0 := ⟨fun w => by kernel_rfl, fun w => by kernel_rfl⟩
instance : Sz Tryz.prog 208 0 := ⟨fun w => by kernel_rfl⟩
instance : Zr Tryz.prog 208 (.agg #[]) := ⟨fun w => by kernel_rfl⟩
instance : Und Tryz.prog 210 (.int .i64) := ⟨Tryz.underlying210⟩
instance : Sc Tryz.prog 210 := ⟨fun w => by kernel_rfl⟩
instance : Sz Tryz.prog 210 1 := ⟨fun w => by kernel_rfl⟩
instance : Zr Tryz.prog 210 (.int .i64 0) := ⟨fun w => by kernel_rfl⟩
instance : Und Tryz.prog 221 (.int .u64) := ⟨Tryz.underlying221⟩
instance : Sc Tryz.prog 221 := ⟨fun w => by kernel_rfl⟩
instance : Sz Tryz.prog 221 1 := ⟨fun w => by kernel_rfl⟩
instance : Zr Tryz.prog 221 (.int .u64 0) := ⟨fun w => by kernel_rfl⟩
instance : KeyT Tryz.prog 3 Int (fun x => .int .i64 x) := KeyT.int Tryz.underlying3
instance : Mixed Tryz.prog := ⟨by kernel_rfl⟩
instance : Opn Tryz.prog 3 Int (fun x => [.int .i64 x]) inI64 := opnI64 Tryz.underlying3
instance : Opn Tryz.prog 4 Bool (fun x => [.bool x]) (fun _ => True) := opnBool Tryz.underlying4
instance : Opn Tryz.prog 5 Int (fun x => [.int .u8 x]) inU8 := opnU8 Tryz.underlying5
instance : Opn Tryz.prog 9 ByteArray (fun x => [.string x]) (fun x => x.size ≤ maxLen) := opnStr Tryz.underlying9
instance : Opn Tryz.prog 33 Int (fun x => [.int .i64 x]) inI64 := opnI64 Tryz.underlying33
instance : Opn Tryz.prog 158 Int (fun x => [.int .u64 x]) inU64 := opnU64 Tryz.underlying158
instance : Opn Tryz.prog 202 Int (fun x => [.int .u64 x]) inU64 := opnU64 Tryz.underlying202
instance : Opn Tryz.prog 210 Int (fun x => [.int .i64 x]) inI64 := opnI64 Tryz.underlying210
instance : Opn Tryz.prog 221 Int (fun x => [.int .u64 x]) inU64 := opnU64 Tryz.underlying221
structure ApiPacket where
  N : Int
  From : Int
  Bytes : ByteArray
deriving DecidableEq
theorem iff_ApiPacket (x y : ApiPacket) : x = y ↔ x.N = y.N ∧ x.From = y.From ∧ x.Bytes = y.Bytes := by cases x; cases y; simp
abbrev cvApiPacket (x : ApiPacket) : List Value := [.int .i64 x.N, .int .i64 x.From, .string x.Bytes]
abbrev avApiPacket (x : ApiPacket) : Value := .agg #[.int .i64 x.N, .int .i64 x.From, .string x.Bytes]
instance : GetF cvApiPacket 0 (fun x => .int .i64 x.N) := ⟨fun _ => rfl⟩
instance : GetF cvApiPacket 1 (fun x => .int .i64 x.From) := ⟨fun _ => rfl⟩
instance : GetF cvApiPacket 2 (fun x => .string x.Bytes) := ⟨fun _ => rfl⟩
instance : ElT Tryz.prog 26 ApiPacket 3 cvApiPacket avApiPacket := ElT.agg inferInstance (fun _ => rfl) (fun x y hy => by simp at hy; rcases hy with rfl | rfl | rfl <;> rfl)
instance (x1 : Int) (x2 : Int) (x3 : ByteArray) : Cvt cvApiPacket [.int .i64 x1, .int .i64 x2, .string x3] ⟨x1, x2, x3⟩ := ⟨rfl⟩
instance (x1 : Int) (x2 : Int) (x3 : ByteArray) : Vvt avApiPacket (.agg #[.int .i64 x1, .int .i64 x2, .string x3]) ⟨x1, x2, x3⟩ := ⟨rfl⟩
instance (x1 : Int) (x2 : Int) (x3 : ByteArray) : Kvt avApiPacket (.agg #[.int .i64 x1, .int .i64 x2, .string x3]) ⟨x1, x2, x3⟩ := ⟨rfl⟩
instance (priority := high) (x : ApiPacket) : Cvt cvApiPacket (cvApiPacket x) x := ⟨rfl⟩
instance (priority := high) (x : ApiPacket) : Vvt avApiPacket (avApiPacket x) x := ⟨rfl⟩
instance (priority := high) (x : ApiPacket) : Kvt avApiPacket (avApiPacket x) x := ⟨rfl⟩
def okApiPacket (x : ApiPacket) : Prop := inI64 x.N ∧ inI64 x.From ∧ (fun x : ByteArray => x.size ≤ maxLen) x.Bytes
instance : Opn Tryz.prog 26 ApiPacket cvApiPacket okApiPacket := ⟨fun {_ _ _ _ _ _ _ cs _} h => by
  obtain ⟨xs, n, rfl, _, hl, hx, hf⟩ := DataW.trod_struct Tryz.underlying26 h
  rw [show Tryz.prog.cellsOf 26 = 3 by kernel_rfl] at hl
  replace hx : xs.length = 3 := hx
  obtain ⟨_, h0⟩ := field_data hf 0 3 0 1 rfl (by kernel_rfl) (by rw [hx]; decide)
  obtain ⟨y0, e0, k0⟩ := Opn.out (P := Tryz.prog) (t := 3) h0
  obtain ⟨_, h1⟩ := field_data hf 1 3 1 1 rfl (by kernel_rfl) (by rw [hx]; decide)
  obtain ⟨y1, e1, k1⟩ := Opn.out (P := Tryz.prog) (t := 3) h1
  obtain ⟨_, h2⟩ := field_data hf 2 9 2 1 rfl (by kernel_rfl) (by rw [hx]; decide)
  obtain ⟨y2, e2, k2⟩ := Opn.out (P := Tryz.prog) (t := 9) h2
  refine ⟨⟨y0, y1, y2⟩, ?_, k0, k1, k2⟩
  match cs, hl with
  | [c0, c1, c2], _ =>
    replace e0 : [c0] = _ := e0
    replace e1 : [c1] = _ := e1
    replace e2 : [c2] = _ := e2
    show [c0] ++ [c1] ++ [c2] = _
    rw [e0, e1, e2]
    rfl⟩
structure ApiKey where
  Base : Int
  Step : Int
deriving DecidableEq
theorem iff_ApiKey (x y : ApiKey) : x = y ↔ x.Base = y.Base ∧ x.Step = y.Step := by cases x; cases y; simp
abbrev cvApiKey (x : ApiKey) : List Value := [.int .i64 x.Base, .int .i64 x.Step]
abbrev avApiKey (x : ApiKey) : Value := .agg #[.int .i64 x.Base, .int .i64 x.Step]
instance : GetF cvApiKey 0 (fun x => .int .i64 x.Base) := ⟨fun _ => rfl⟩
instance : GetF cvApiKey 1 (fun x => .int .i64 x.Step) := ⟨fun _ => rfl⟩
instance : ElT Tryz.prog 28 ApiKey 2 cvApiKey avApiKey := ElT.agg inferInstance (fun _ => rfl) (fun x y hy => by simp at hy; rcases hy with rfl | rfl <;> rfl)
instance (x1 : Int) (x2 : Int) : Cvt cvApiKey [.int .i64 x1, .int .i64 x2] ⟨x1, x2⟩ := ⟨rfl⟩
instance (x1 : Int) (x2 : Int) : Vvt avApiKey (.agg #[.int .i64 x1, .int .i64 x2]) ⟨x1, x2⟩ := ⟨rfl⟩
instance (x1 : Int) (x2 : Int) : Kvt avApiKey (.agg #[.int .i64 x1, .int .i64 x2]) ⟨x1, x2⟩ := ⟨rfl⟩
instance (priority := high) (x : ApiKey) : Cvt cvApiKey (cvApiKey x) x := ⟨rfl⟩
instance (priority := high) (x : ApiKey) : Vvt avApiKey (avApiKey x) x := ⟨rfl⟩
instance (priority := high) (x : ApiKey) : Kvt avApiKey (avApiKey x) x := ⟨rfl⟩
def okApiKey (x : ApiKey) : Prop := inI64 x.Base ∧ inI64 x.Step
instance : Opn Tryz.prog 28 ApiKey cvApiKey okApiKey := ⟨fun {_ _ _ _ _ _ _ cs _} h => by
  obtain ⟨xs, n, rfl, _, hl, hx, hf⟩ := DataW.trod_struct Tryz.underlying28 h
  rw [show Tryz.prog.cellsOf 28 = 2 by kernel_rfl] at hl
  replace hx : xs.length = 2 := hx
  obtain ⟨_, h0⟩ := field_data hf 0 3 0 1 rfl (by kernel_rfl) (by rw [hx]; decide)
  obtain ⟨y0, e0, k0⟩ := Opn.out (P := Tryz.prog) (t := 3) h0
  obtain ⟨_, h1⟩ := field_data hf 1 3 1 1 rfl (by kernel_rfl) (by rw [hx]; decide)
  obtain ⟨y1, e1, k1⟩ := Opn.out (P := Tryz.prog) (t := 3) h1
  refine ⟨⟨y0, y1⟩, ?_, k0, k1⟩
  match cs, hl with
  | [c0, c1], _ =>
    replace e0 : [c0] = _ := e0
    replace e1 : [c1] = _ := e1
    show [c0] ++ [c1] = _
    rw [e0, e1]
    rfl⟩
structure ApiBox where
  Under : ApiKey
  Load : ApiKey
deriving DecidableEq
theorem iff_ApiBox (x y : ApiBox) : x = y ↔ x.Under = y.Under ∧ x.Load = y.Load := by cases x; cases y; simp
abbrev cvApiBox (x : ApiBox) : List Value := [.int .i64 x.Under.Base, .int .i64 x.Under.Step, .int .i64 x.Load.Base, .int .i64 x.Load.Step]
abbrev avApiBox (x : ApiBox) : Value := .agg #[.int .i64 x.Under.Base, .int .i64 x.Under.Step, .int .i64 x.Load.Base, .int .i64 x.Load.Step]
instance : GetF cvApiBox 0 (fun x => .int .i64 x.Under.Base) := ⟨fun _ => rfl⟩
instance : GetF cvApiBox 1 (fun x => .int .i64 x.Under.Step) := ⟨fun _ => rfl⟩
instance : GetF cvApiBox 2 (fun x => .int .i64 x.Load.Base) := ⟨fun _ => rfl⟩
instance : GetF cvApiBox 3 (fun x => .int .i64 x.Load.Step) := ⟨fun _ => rfl⟩
instance : ElT Tryz.prog 30 ApiBox 4 cvApiBox avApiBox := ElT.agg inferInstance (fun _ => rfl) (fun x y hy => by simp at hy; rcases hy with rfl | rfl | rfl | rfl <;> rfl)
instance (x1 : Int) (x2 : Int) (x3 : Int) (x4 : Int) : Cvt cvApiBox [.int .i64 x1, .int .i64 x2, .int .i64 x3, .int .i64 x4] ⟨⟨x1, x2⟩, ⟨x3, x4⟩⟩ := ⟨rfl⟩
instance (x1 : Int) (x2 : Int) (x3 : Int) (x4 : Int) : Vvt avApiBox (.agg #[.int .i64 x1, .int .i64 x2, .int .i64 x3, .int .i64 x4]) ⟨⟨x1, x2⟩, ⟨x3, x4⟩⟩ := ⟨rfl⟩
instance (x1 : Int) (x2 : Int) (x3 : Int) (x4 : Int) : Kvt avApiBox (.agg #[.int .i64 x1, .int .i64 x2, .int .i64 x3, .int .i64 x4]) ⟨⟨x1, x2⟩, ⟨x3, x4⟩⟩ := ⟨rfl⟩
instance (priority := high) (x : ApiBox) : Cvt cvApiBox (cvApiBox x) x := ⟨rfl⟩
instance (priority := high) (x : ApiBox) : Vvt avApiBox (avApiBox x) x := ⟨rfl⟩
instance (priority := high) (x : ApiBox) : Kvt avApiBox (avApiBox x) x := ⟨rfl⟩
def okApiBox (x : ApiBox) : Prop := okApiKey x.Under ∧ okApiKey x.Load
instance : Opn Tryz.prog 30 ApiBox cvApiBox okApiBox := ⟨fun {_ _ _ _ _ _ _ cs _} h => by
  obtain ⟨xs, n, rfl, _, hl, hx, hf⟩ := DataW.trod_struct Tryz.underlying30 h
  rw [show Tryz.prog.cellsOf 30 = 4 by kernel_rfl] at hl
  replace hx : xs.length = 2 := hx
  obtain ⟨_, h0⟩ := field_data hf 0 28 0 2 rfl (by kernel_rfl) (by rw [hx]; decide)
  obtain ⟨y0, e0, k0⟩ := Opn.out (P := Tryz.prog) (t := 28) h0
  obtain ⟨_, h1⟩ := field_data hf 1 28 2 2 rfl (by kernel_rfl) (by rw [hx]; decide)
  obtain ⟨y1, e1, k1⟩ := Opn.out (P := Tryz.prog) (t := 28) h1
  refine ⟨⟨y0, y1⟩, ?_, k0, k1⟩
  match cs, hl with
  | [c0, c1, c2, c3], _ =>
    replace e0 : [c0, c1] = _ := e0
    replace e1 : [c2, c3] = _ := e1
    show [c0, c1] ++ [c2, c3] = _
    rw [e0, e1]
    rfl⟩
structure ApiCook where
  Kind : Int
  N : Int
  M : Int
  Box : ApiBox
  Text : ByteArray
deriving DecidableEq
theorem iff_ApiCook (x y : ApiCook) : x = y ↔ x.Kind = y.Kind ∧ x.N = y.N ∧ x.M = y.M ∧ x.Box = y.Box ∧ x.Text = y.Text := by cases x; cases y; simp
abbrev cvApiCook (x : ApiCook) : List Value := [.int .i64 x.Kind, .int .i64 x.N, .int .i64 x.M, .int .i64 x.Box.Under.Base, .int .i64 x.Box.Under.Step, .int .i64 x.Box.Load.Base, .int .i64 x.Box.Load.Step, .string x.Text]
abbrev avApiCook (x : ApiCook) : Value := .agg #[.int .i64 x.Kind, .int .i64 x.N, .int .i64 x.M, .int .i64 x.Box.Under.Base, .int .i64 x.Box.Under.Step, .int .i64 x.Box.Load.Base, .int .i64 x.Box.Load.Step, .string x.Text]
instance : GetF cvApiCook 0 (fun x => .int .i64 x.Kind) := ⟨fun _ => rfl⟩
instance : GetF cvApiCook 1 (fun x => .int .i64 x.N) := ⟨fun _ => rfl⟩
instance : GetF cvApiCook 2 (fun x => .int .i64 x.M) := ⟨fun _ => rfl⟩
instance : GetF cvApiCook 3 (fun x => .int .i64 x.Box.Under.Base) := ⟨fun _ => rfl⟩
instance : GetF cvApiCook 4 (fun x => .int .i64 x.Box.Under.Step) := ⟨fun _ => rfl⟩
instance : GetF cvApiCook 5 (fun x => .int .i64 x.Box.Load.Base) := ⟨fun _ => rfl⟩
instance : GetF cvApiCook 6 (fun x => .int .i64 x.Box.Load.Step) := ⟨fun _ => rfl⟩
instance : GetF cvApiCook 7 (fun x => .string x.Text) := ⟨fun _ => rfl⟩
instance : ElT Tryz.prog 32 ApiCook 8 cvApiCook avApiCook := ElT.agg inferInstance (fun _ => rfl) (fun x y hy => by simp at hy; rcases hy with rfl | rfl | rfl | rfl | rfl | rfl | rfl | rfl <;> rfl)
instance (x1 : Int) (x2 : Int) (x3 : Int) (x4 : Int) (x5 : Int) (x6 : Int) (x7 : Int) (x8 : ByteArray) : Cvt cvApiCook [.int .i64 x1, .int .i64 x2, .int .i64 x3, .int .i64 x4, .int .i64 x5, .int .i64 x6, .int .i64 x7, .string x8] ⟨x1, x2, x3, ⟨⟨x4, x5⟩, ⟨x6, x7⟩⟩, x8⟩ := ⟨rfl⟩
instance (x1 : Int) (x2 : Int) (x3 : Int) (x4 : Int) (x5 : Int) (x6 : Int) (x7 : Int) (x8 : ByteArray) : Vvt avApiCook (.agg #[.int .i64 x1, .int .i64 x2, .int .i64 x3, .int .i64 x4, .int .i64 x5, .int .i64 x6, .int .i64 x7, .string x8]) ⟨x1, x2, x3, ⟨⟨x4, x5⟩, ⟨x6, x7⟩⟩, x8⟩ := ⟨rfl⟩
instance (x1 : Int) (x2 : Int) (x3 : Int) (x4 : Int) (x5 : Int) (x6 : Int) (x7 : Int) (x8 : ByteArray) : Kvt avApiCook (.agg #[.int .i64 x1, .int .i64 x2, .int .i64 x3, .int .i64 x4, .int .i64 x5, .int .i64 x6, .int .i64 x7, .string x8]) ⟨x1, x2, x3, ⟨⟨x4, x5⟩, ⟨x6, x7⟩⟩, x8⟩ := ⟨rfl⟩
instance (priority := high) (x : ApiCook) : Cvt cvApiCook (cvApiCook x) x := ⟨rfl⟩
instance (priority := high) (x : ApiCook) : Vvt avApiCook (avApiCook x) x := ⟨rfl⟩
instance (priority := high) (x : ApiCook) : Kvt avApiCook (avApiCook x) x := ⟨rfl⟩
def okApiCook (x : ApiCook) : Prop := inI64 x.Kind ∧ inI64 x.N ∧ inI64 x.M ∧ okApiBox x.Box ∧ (fun x : ByteArray => x.size ≤ maxLen) x.Text
instance : Opn Tryz.prog 32 ApiCook cvApiCook okApiCook := ⟨fun {_ _ _ _ _ _ _ cs _} h => by
  obtain ⟨xs, n, rfl, _, hl, hx, hf⟩ := DataW.trod_struct Tryz.underlying32 h
  rw [show Tryz.prog.cellsOf 32 = 8 by kernel_rfl] at hl
  replace hx : xs.length = 5 := hx
  obtain ⟨_, h0⟩ := field_data hf 0 3 0 1 rfl (by kernel_rfl) (by rw [hx]; decide)
  obtain ⟨y0, e0, k0⟩ := Opn.out (P := Tryz.prog) (t := 3) h0
  obtain ⟨_, h1⟩ := field_data hf 1 3 1 1 rfl (by kernel_rfl) (by rw [hx]; decide)
  obtain ⟨y1, e1, k1⟩ := Opn.out (P := Tryz.prog) (t := 3) h1
  obtain ⟨_, h2⟩ := field_data hf 2 3 2 1 rfl (by kernel_rfl) (by rw [hx]; decide)
  obtain ⟨y2, e2, k2⟩ := Opn.out (P := Tryz.prog) (t := 3) h2
  obtain ⟨_, h3⟩ := field_data hf 3 30 3 4 rfl (by kernel_rfl) (by rw [hx]; decide)
  obtain ⟨y3, e3, k3⟩ := Opn.out (P := Tryz.prog) (t := 30) h3
  obtain ⟨_, h4⟩ := field_data hf 4 9 7 1 rfl (by kernel_rfl) (by rw [hx]; decide)
  obtain ⟨y4, e4, k4⟩ := Opn.out (P := Tryz.prog) (t := 9) h4
  refine ⟨⟨y0, y1, y2, y3, y4⟩, ?_, k0, k1, k2, k3, k4⟩
  match cs, hl with
  | [c0, c1, c2, c3, c4, c5, c6, c7], _ =>
    replace e0 : [c0] = _ := e0
    replace e1 : [c1] = _ := e1
    replace e2 : [c2] = _ := e2
    replace e3 : [c3, c4, c5, c6] = _ := e3
    replace e4 : [c7] = _ := e4
    show [c0] ++ [c1] ++ [c2] ++ [c3, c4, c5, c6] ++ [c7] = _
    rw [e0, e1, e2, e3, e4]
    rfl⟩
structure ApiSeat where
  Who : Int
  Slot : Int
deriving DecidableEq
theorem iff_ApiSeat (x y : ApiSeat) : x = y ↔ x.Who = y.Who ∧ x.Slot = y.Slot := by cases x; cases y; simp
abbrev cvApiSeat (x : ApiSeat) : List Value := [.int .i64 x.Who, .int .i64 x.Slot]
abbrev avApiSeat (x : ApiSeat) : Value := .agg #[.int .i64 x.Who, .int .i64 x.Slot]
instance : GetF cvApiSeat 0 (fun x => .int .i64 x.Who) := ⟨fun _ => rfl⟩
instance : GetF cvApiSeat 1 (fun x => .int .i64 x.Slot) := ⟨fun _ => rfl⟩
instance : ElT Tryz.prog 162 ApiSeat 2 cvApiSeat avApiSeat := ElT.agg inferInstance (fun _ => rfl) (fun x y hy => by simp at hy; rcases hy with rfl | rfl <;> rfl)
instance (x1 : Int) (x2 : Int) : Cvt cvApiSeat [.int .i64 x1, .int .i64 x2] ⟨x1, x2⟩ := ⟨rfl⟩
instance (x1 : Int) (x2 : Int) : Vvt avApiSeat (.agg #[.int .i64 x1, .int .i64 x2]) ⟨x1, x2⟩ := ⟨rfl⟩
instance (x1 : Int) (x2 : Int) : Kvt avApiSeat (.agg #[.int .i64 x1, .int .i64 x2]) ⟨x1, x2⟩ := ⟨rfl⟩
instance (priority := high) (x : ApiSeat) : Cvt cvApiSeat (cvApiSeat x) x := ⟨rfl⟩
instance (priority := high) (x : ApiSeat) : Vvt avApiSeat (avApiSeat x) x := ⟨rfl⟩
instance (priority := high) (x : ApiSeat) : Kvt avApiSeat (avApiSeat x) x := ⟨rfl⟩
def okApiSeat (x : ApiSeat) : Prop := inI64 x.Who ∧ inI64 x.Slot
instance : Opn Tryz.prog 162 ApiSeat cvApiSeat okApiSeat := ⟨fun {_ _ _ _ _ _ _ cs _} h => by
  obtain ⟨xs, n, rfl, _, hl, hx, hf⟩ := DataW.trod_struct Tryz.underlying162 h
  rw [show Tryz.prog.cellsOf 162 = 2 by kernel_rfl] at hl
  replace hx : xs.length = 2 := hx
  obtain ⟨_, h0⟩ := field_data hf 0 3 0 1 rfl (by kernel_rfl) (by rw [hx]; decide)
  obtain ⟨y0, e0, k0⟩ := Opn.out (P := Tryz.prog) (t := 3) h0
  obtain ⟨_, h1⟩ := field_data hf 1 3 1 1 rfl (by kernel_rfl) (by rw [hx]; decide)
  obtain ⟨y1, e1, k1⟩ := Opn.out (P := Tryz.prog) (t := 3) h1
  refine ⟨⟨y0, y1⟩, ?_, k0, k1⟩
  match cs, hl with
  | [c0, c1], _ =>
    replace e0 : [c0] = _ := e0
    replace e1 : [c1] = _ := e1
    show [c0] ++ [c1] = _
    rw [e0, e1]
    rfl⟩
structure ApiItem where
  Node : Int
  From : Int
  Box : ApiBox
deriving DecidableEq
theorem iff_ApiItem (x y : ApiItem) : x = y ↔ x.Node = y.Node ∧ x.From = y.From ∧ x.Box = y.Box := by cases x; cases y; simp
abbrev cvApiItem (x : ApiItem) : List Value := [.int .i64 x.Node, .int .i64 x.From, .int .i64 x.Box.Under.Base, .int .i64 x.Box.Under.Step, .int .i64 x.Box.Load.Base, .int .i64 x.Box.Load.Step]
abbrev avApiItem (x : ApiItem) : Value := .agg #[.int .i64 x.Node, .int .i64 x.From, .int .i64 x.Box.Under.Base, .int .i64 x.Box.Under.Step, .int .i64 x.Box.Load.Base, .int .i64 x.Box.Load.Step]
instance : GetF cvApiItem 0 (fun x => .int .i64 x.Node) := ⟨fun _ => rfl⟩
instance : GetF cvApiItem 1 (fun x => .int .i64 x.From) := ⟨fun _ => rfl⟩
instance : GetF cvApiItem 2 (fun x => .int .i64 x.Box.Under.Base) := ⟨fun _ => rfl⟩
instance : GetF cvApiItem 3 (fun x => .int .i64 x.Box.Under.Step) := ⟨fun _ => rfl⟩
instance : GetF cvApiItem 4 (fun x => .int .i64 x.Box.Load.Base) := ⟨fun _ => rfl⟩
instance : GetF cvApiItem 5 (fun x => .int .i64 x.Box.Load.Step) := ⟨fun _ => rfl⟩
instance : ElT Tryz.prog 62 ApiItem 6 cvApiItem avApiItem := ElT.agg inferInstance (fun _ => rfl) (fun x y hy => by simp at hy; rcases hy with rfl | rfl | rfl | rfl | rfl | rfl <;> rfl)
instance (x1 : Int) (x2 : Int) (x3 : Int) (x4 : Int) (x5 : Int) (x6 : Int) : Cvt cvApiItem [.int .i64 x1, .int .i64 x2, .int .i64 x3, .int .i64 x4, .int .i64 x5, .int .i64 x6] ⟨x1, x2, ⟨⟨x3, x4⟩, ⟨x5, x6⟩⟩⟩ := ⟨rfl⟩
instance (x1 : Int) (x2 : Int) (x3 : Int) (x4 : Int) (x5 : Int) (x6 : Int) : Vvt avApiItem (.agg #[.int .i64 x1, .int .i64 x2, .int .i64 x3, .int .i64 x4, .int .i64 x5, .int .i64 x6]) ⟨x1, x2, ⟨⟨x3, x4⟩, ⟨x5, x6⟩⟩⟩ := ⟨rfl⟩
instance (x1 : Int) (x2 : Int) (x3 : Int) (x4 : Int) (x5 : Int) (x6 : Int) : Kvt avApiItem (.agg #[.int .i64 x1, .int .i64 x2, .int .i64 x3, .int .i64 x4, .int .i64 x5, .int .i64 x6]) ⟨x1, x2, ⟨⟨x3, x4⟩, ⟨x5, x6⟩⟩⟩ := ⟨rfl⟩
instance (priority := high) (x : ApiItem) : Cvt cvApiItem (cvApiItem x) x := ⟨rfl⟩
instance (priority := high) (x : ApiItem) : Vvt avApiItem (avApiItem x) x := ⟨rfl⟩
instance (priority := high) (x : ApiItem) : Kvt avApiItem (avApiItem x) x := ⟨rfl⟩
def okApiItem (x : ApiItem) : Prop := inI64 x.Node ∧ inI64 x.From ∧ okApiBox x.Box
instance : Opn Tryz.prog 62 ApiItem cvApiItem okApiItem := ⟨fun {_ _ _ _ _ _ _ cs _} h => by
  obtain ⟨xs, n, rfl, _, hl, hx, hf⟩ := DataW.trod_struct Tryz.underlying62 h
  rw [show Tryz.prog.cellsOf 62 = 6 by kernel_rfl] at hl
  replace hx : xs.length = 3 := hx
  obtain ⟨_, h0⟩ := field_data hf 0 3 0 1 rfl (by kernel_rfl) (by rw [hx]; decide)
  obtain ⟨y0, e0, k0⟩ := Opn.out (P := Tryz.prog) (t := 3) h0
  obtain ⟨_, h1⟩ := field_data hf 1 3 1 1 rfl (by kernel_rfl) (by rw [hx]; decide)
  obtain ⟨y1, e1, k1⟩ := Opn.out (P := Tryz.prog) (t := 3) h1
  obtain ⟨_, h2⟩ := field_data hf 2 30 2 4 rfl (by kernel_rfl) (by rw [hx]; decide)
  obtain ⟨y2, e2, k2⟩ := Opn.out (P := Tryz.prog) (t := 30) h2
  refine ⟨⟨y0, y1, y2⟩, ?_, k0, k1, k2⟩
  match cs, hl with
  | [c0, c1, c2, c3, c4, c5], _ =>
    replace e0 : [c0] = _ := e0
    replace e1 : [c1] = _ := e1
    replace e2 : [c2, c3, c4, c5] = _ := e2
    show [c0] ++ [c1] ++ [c2, c3, c4, c5] = _
    rw [e0, e1, e2]
    rfl⟩
structure Coterielaw21Op where
  Key : ApiKey
  Bytes : ByteArray
deriving DecidableEq
theorem iff_Coterielaw21Op (x y : Coterielaw21Op) : x = y ↔ x.Key = y.Key ∧ x.Bytes = y.Bytes := by cases x; cases y; simp
abbrev cvCoterielaw21Op (x : Coterielaw21Op) : List Value := [.int .i64 x.Key.Base, .int .i64 x.Key.Step, .string x.Bytes]
abbrev avCoterielaw21Op (x : Coterielaw21Op) : Value := .agg #[.int .i64 x.Key.Base, .int .i64 x.Key.Step, .string x.Bytes]
instance : GetF cvCoterielaw21Op 0 (fun x => .int .i64 x.Key.Base) := ⟨fun _ => rfl⟩
instance : GetF cvCoterielaw21Op 1 (fun x => .int .i64 x.Key.Step) := ⟨fun _ => rfl⟩
instance : GetF cvCoterielaw21Op 2 (fun x => .string x.Bytes) := ⟨fun _ => rfl⟩
instance : ElT Tryz.prog 57 Coterielaw21Op 3 cvCoterielaw21Op avCoterielaw21Op := ElT.agg inferInstance (fun _ => rfl) (fun x y hy => by simp at hy; rcases hy with rfl | rfl | rfl <;> rfl)
instance (x1 : Int) (x2 : Int) (x3 : ByteArray) : Cvt cvCoterielaw21Op [.int .i64 x1, .int .i64 x2, .string x3] ⟨⟨x1, x2⟩, x3⟩ := ⟨rfl⟩
instance (x1 : Int) (x2 : Int) (x3 : ByteArray) : Vvt avCoterielaw21Op (.agg #[.int .i64 x1, .int .i64 x2, .string x3]) ⟨⟨x1, x2⟩, x3⟩ := ⟨rfl⟩
instance (x1 : Int) (x2 : Int) (x3 : ByteArray) : Kvt avCoterielaw21Op (.agg #[.int .i64 x1, .int .i64 x2, .string x3]) ⟨⟨x1, x2⟩, x3⟩ := ⟨rfl⟩
instance (priority := high) (x : Coterielaw21Op) : Cvt cvCoterielaw21Op (cvCoterielaw21Op x) x := ⟨rfl⟩
instance (priority := high) (x : Coterielaw21Op) : Vvt avCoterielaw21Op (avCoterielaw21Op x) x := ⟨rfl⟩
instance (priority := high) (x : Coterielaw21Op) : Kvt avCoterielaw21Op (avCoterielaw21Op x) x := ⟨rfl⟩
def okCoterielaw21Op (x : Coterielaw21Op) : Prop := okApiKey x.Key ∧ (fun x : ByteArray => x.size ≤ maxLen) x.Bytes
instance : Opn Tryz.prog 57 Coterielaw21Op cvCoterielaw21Op okCoterielaw21Op := ⟨fun {_ _ _ _ _ _ _ cs _} h => by
  obtain ⟨xs, n, rfl, _, hl, hx, hf⟩ := DataW.trod_struct Tryz.underlying57 h
  rw [show Tryz.prog.cellsOf 57 = 3 by kernel_rfl] at hl
  replace hx : xs.length = 2 := hx
  obtain ⟨_, h0⟩ := field_data hf 0 28 0 2 rfl (by kernel_rfl) (by rw [hx]; decide)
  obtain ⟨y0, e0, k0⟩ := Opn.out (P := Tryz.prog) (t := 28) h0
  obtain ⟨_, h1⟩ := field_data hf 1 9 2 1 rfl (by kernel_rfl) (by rw [hx]; decide)
  obtain ⟨y1, e1, k1⟩ := Opn.out (P := Tryz.prog) (t := 9) h1
  refine ⟨⟨y0, y1⟩, ?_, k0, k1⟩
  match cs, hl with
  | [c0, c1, c2], _ =>
    replace e0 : [c0, c1] = _ := e0
    replace e1 : [c2] = _ := e1
    show [c0, c1] ++ [c2] = _
    rw [e0, e1]
    rfl⟩
instance : ElT Tryz.prog 9 ByteArray 1 (fun x => [.string x]) (fun x => .string x) := ElT.sc inferInstance (fun _ => rfl)
instance : ElT Tryz.prog 3 Int 1 (fun x => [.int .i64 x]) (fun x => .int .i64 x) := ElT.sc inferInstance (fun _ => rfl)
structure ApiSealed where
  Epoch : Int
  Under : ApiKey
  Text : ByteArray
deriving DecidableEq
theorem iff_ApiSealed (x y : ApiSealed) : x = y ↔ x.Epoch = y.Epoch ∧ x.Under = y.Under ∧ x.Text = y.Text := by cases x; cases y; simp
abbrev cvApiSealed (x : ApiSealed) : List Value := [.int .i64 x.Epoch, .int .i64 x.Under.Base, .int .i64 x.Under.Step, .string x.Text]
abbrev avApiSealed (x : ApiSealed) : Value := .agg #[.int .i64 x.Epoch, .int .i64 x.Under.Base, .int .i64 x.Under.Step, .string x.Text]
instance : GetF cvApiSealed 0 (fun x => .int .i64 x.Epoch) := ⟨fun _ => rfl⟩
instance : GetF cvApiSealed 1 (fun x => .int .i64 x.Under.Base) := ⟨fun _ => rfl⟩
instance : GetF cvApiSealed 2 (fun x => .int .i64 x.Under.Step) := ⟨fun _ => rfl⟩
instance : GetF cvApiSealed 3 (fun x => .string x.Text) := ⟨fun _ => rfl⟩
instance : ElT Tryz.prog 47 ApiSealed 4 cvApiSealed avApiSealed := ElT.agg inferInstance (fun _ => rfl) (fun x y hy => by simp at hy; rcases hy with rfl | rfl | rfl | rfl <;> rfl)
instance (x1 : Int) (x2 : Int) (x3 : Int) (x4 : ByteArray) : Cvt cvApiSealed [.int .i64 x1, .int .i64 x2, .int .i64 x3, .string x4] ⟨x1, ⟨x2, x3⟩, x4⟩ := ⟨rfl⟩
instance (x1 : Int) (x2 : Int) (x3 : Int) (x4 : ByteArray) : Vvt avApiSealed (.agg #[.int .i64 x1, .int .i64 x2, .int .i64 x3, .string x4]) ⟨x1, ⟨x2, x3⟩, x4⟩ := ⟨rfl⟩
instance (x1 : Int) (x2 : Int) (x3 : Int) (x4 : ByteArray) : Kvt avApiSealed (.agg #[.int .i64 x1, .int .i64 x2, .int .i64 x3, .string x4]) ⟨x1, ⟨x2, x3⟩, x4⟩ := ⟨rfl⟩
instance (priority := high) (x : ApiSealed) : Cvt cvApiSealed (cvApiSealed x) x := ⟨rfl⟩
instance (priority := high) (x : ApiSealed) : Vvt avApiSealed (avApiSealed x) x := ⟨rfl⟩
instance (priority := high) (x : ApiSealed) : Kvt avApiSealed (avApiSealed x) x := ⟨rfl⟩
def okApiSealed (x : ApiSealed) : Prop := inI64 x.Epoch ∧ okApiKey x.Under ∧ (fun x : ByteArray => x.size ≤ maxLen) x.Text
instance : Opn Tryz.prog 47 ApiSealed cvApiSealed okApiSealed := ⟨fun {_ _ _ _ _ _ _ cs _} h => by
  obtain ⟨xs, n, rfl, _, hl, hx, hf⟩ := DataW.trod_struct Tryz.underlying47 h
  rw [show Tryz.prog.cellsOf 47 = 4 by kernel_rfl] at hl
  replace hx : xs.length = 3 := hx
  obtain ⟨_, h0⟩ := field_data hf 0 3 0 1 rfl (by kernel_rfl) (by rw [hx]; decide)
  obtain ⟨y0, e0, k0⟩ := Opn.out (P := Tryz.prog) (t := 3) h0
  obtain ⟨_, h1⟩ := field_data hf 1 28 1 2 rfl (by kernel_rfl) (by rw [hx]; decide)
  obtain ⟨y1, e1, k1⟩ := Opn.out (P := Tryz.prog) (t := 28) h1
  obtain ⟨_, h2⟩ := field_data hf 2 9 3 1 rfl (by kernel_rfl) (by rw [hx]; decide)
  obtain ⟨y2, e2, k2⟩ := Opn.out (P := Tryz.prog) (t := 9) h2
  refine ⟨⟨y0, y1, y2⟩, ?_, k0, k1, k2⟩
  match cs, hl with
  | [c0, c1, c2, c3], _ =>
    replace e0 : [c0] = _ := e0
    replace e1 : [c1, c2] = _ := e1
    replace e2 : [c3] = _ := e2
    show [c0] ++ [c1, c2] ++ [c3] = _
    rw [e0, e1, e2]
    rfl⟩
structure ApiField where
  Value : Int
  Width : Int
deriving DecidableEq
theorem iff_ApiField (x y : ApiField) : x = y ↔ x.Value = y.Value ∧ x.Width = y.Width := by cases x; cases y; simp
abbrev cvApiField (x : ApiField) : List Value := [.int .u64 x.Value, .int .i64 x.Width]
abbrev avApiField (x : ApiField) : Value := .agg #[.int .u64 x.Value, .int .i64 x.Width]
instance : GetF cvApiField 0 (fun x => .int .u64 x.Value) := ⟨fun _ => rfl⟩
instance : GetF cvApiField 1 (fun x => .int .i64 x.Width) := ⟨fun _ => rfl⟩
instance : ElT Tryz.prog 160 ApiField 2 cvApiField avApiField := ElT.agg inferInstance (fun _ => rfl) (fun x y hy => by simp at hy; rcases hy with rfl | rfl <;> rfl)
instance (x1 : Int) (x2 : Int) : Cvt cvApiField [.int .u64 x1, .int .i64 x2] ⟨x1, x2⟩ := ⟨rfl⟩
instance (x1 : Int) (x2 : Int) : Vvt avApiField (.agg #[.int .u64 x1, .int .i64 x2]) ⟨x1, x2⟩ := ⟨rfl⟩
instance (x1 : Int) (x2 : Int) : Kvt avApiField (.agg #[.int .u64 x1, .int .i64 x2]) ⟨x1, x2⟩ := ⟨rfl⟩
instance (priority := high) (x : ApiField) : Cvt cvApiField (cvApiField x) x := ⟨rfl⟩
instance (priority := high) (x : ApiField) : Vvt avApiField (avApiField x) x := ⟨rfl⟩
instance (priority := high) (x : ApiField) : Kvt avApiField (avApiField x) x := ⟨rfl⟩
def okApiField (x : ApiField) : Prop := inU64 x.Value ∧ inI64 x.Width
instance : Opn Tryz.prog 160 ApiField cvApiField okApiField := ⟨fun {_ _ _ _ _ _ _ cs _} h => by
  obtain ⟨xs, n, rfl, _, hl, hx, hf⟩ := DataW.trod_struct Tryz.underlying160 h
  rw [show Tryz.prog.cellsOf 160 = 2 by kernel_rfl] at hl
  replace hx : xs.length = 2 := hx
  obtain ⟨_, h0⟩ := field_data hf 0 158 0 1 rfl (by kernel_rfl) (by rw [hx]; decide)
  obtain ⟨y0, e0, k0⟩ := Opn.out (P := Tryz.prog) (t := 158) h0
  obtain ⟨_, h1⟩ := field_data hf 1 3 1 1 rfl (by kernel_rfl) (by rw [hx]; decide)
  obtain ⟨y1, e1, k1⟩ := Opn.out (P := Tryz.prog) (t := 3) h1
  refine ⟨⟨y0, y1⟩, ?_, k0, k1⟩
  match cs, hl with
  | [c0, c1], _ =>
    replace e0 : [c0] = _ := e0
    replace e1 : [c1] = _ := e1
    show [c0] ++ [c1] = _
    rw [e0, e1]
    rfl⟩
instance : ElT Tryz.prog 5 Int 1 (fun x => [.int .u8 x]) (fun x => .int .u8 x) := ElT.sc inferInstance (fun _ => rfl)
instance (x1 : Int) : BA Tryz.prog 26 [(0, .int .i64 x1)] #[.int .i64 x1, .int .i64 0, .string ⟨([] : List UInt8).toArray⟩] := ⟨fun w => by kernel_rfl⟩
instance (x1 : Int) : BA Tryz.prog 28 [(0, .int .i64 x1)] #[.int .i64 x1, .int .i64 0] := ⟨fun w => by kernel_rfl⟩
instance (x1 : Int) (x2 : Int) : BA Tryz.prog 28 [(0, .int .i64 x1), (1, .int .i64 x2)] #[.int .i64 x1, .int .i64 x2] := ⟨fun w => by kernel_rfl⟩
instance (x1 : Int) (x2 : Int) (x3 : Int) (x4 : Int) : BA Tryz.prog 30 [(0, .agg #[.int .i64 x1, .int .i64 x2]), (1, .agg #[.int .i64 x3, .int .i64 x4])] #[.int .i64 x1, .int .i64 x2, .int .i64 x3, .int .i64 x4] := ⟨fun w => by kernel_rfl⟩
instance (x1 : Int) : BA Tryz.prog 32 [(0, .int .i64 x1)] #[.int .i64 x1, .int .i64 0, .int .i64 0, .int .i64 0, .int .i64 0, .int .i64 0, .int .i64 0, .string ⟨([] : List UInt8).toArray⟩] := ⟨fun w => by kernel_rfl⟩
instance (x1 : Int) (x2 : Int) : BA Tryz.prog 32 [(0, .int .i64 x1), (1, .int .i64 x2)] #[.int .i64 x1, .int .i64 x2, .int .i64 0, .int .i64 0, .int .i64 0, .int .i64 0, .int .i64 0, .string ⟨([] : List UInt8).toArray⟩] := ⟨fun w => by kernel_rfl⟩
instance (x1 : Int) (x2 : Int) (x3 : Int) : BA Tryz.prog 32 [(0, .int .i64 x1), (1, .int .i64 x2), (2, .int .i64 x3)] #[.int .i64 x1, .int .i64 x2, .int .i64 x3, .int .i64 0, .int .i64 0, .int .i64 0, .int .i64 0, .string ⟨([] : List UInt8).toArray⟩] := ⟨fun w => by kernel_rfl⟩
instance (x1 : Int) : BA Tryz.prog 32 [(1, .int .i64 x1)] #[.int .i64 0, .int .i64 x1, .int .i64 0, .int .i64 0, .int .i64 0, .int .i64 0, .int .i64 0, .string ⟨([] : List UInt8).toArray⟩] := ⟨fun w => by kernel_rfl⟩
instance  : BA Tryz.prog 40 [] #[.int .i64 0, .slice none 0 0, .slice none 0 0, .slice none 0 0] := ⟨fun w => by kernel_rfl⟩
instance (x1 : Int) (x2 : Value) [IsSl x2] (x3 : Value) [IsSl x3] : BA Tryz.prog 40 [(0, .int .i64 x1), (1, x2), (2, x3)] #[.int .i64 x1, x2, x3, .slice none 0 0] := ⟨fun w => by obtain ⟨_, _, _, rfl⟩ := IsSl.out (v := x2); obtain ⟨_, _, _, rfl⟩ := IsSl.out (v := x3); kernel_rfl⟩
instance  : BA Tryz.prog 42 [] #[.int .i64 0, .int .i64 0] := ⟨fun w => by kernel_rfl⟩
instance (x1 : Int) (x2 : Int) : BA Tryz.prog 42 [(0, .int .i64 x1), (1, .int .i64 x2)] #[.int .i64 x1, .int .i64 x2] := ⟨fun w => by kernel_rfl⟩
instance  : BA Tryz.prog 45 [] #[.int .i64 0, .int .i64 0, .int .i64 0, .int .i64 0, .int .i64 0, .int .i64 0, .int .i64 0, .int .i64 0, .int .i64 0, .int .i64 0, .int .i64 0, .int .i64 0, .int .i64 0, .int .i64 0, .int .i64 0] := ⟨fun w => by kernel_rfl⟩
instance (x1 : Int) (x2 : Int) (x3 : Int) : BA Tryz.prog 45 [(0, .int .i64 x1), (1, .int .i64 x2), (2, .int .i64 x3)] #[.int .i64 x1, .int .i64 x2, .int .i64 x3, .int .i64 0, .int .i64 0, .int .i64 0, .int .i64 0, .int .i64 0, .int .i64 0, .int .i64 0, .int .i64 0, .int .i64 0, .int .i64 0, .int .i64 0, .int .i64 0] := ⟨fun w => by kernel_rfl⟩
instance  : BA Tryz.prog 47 [] #[.int .i64 0, .int .i64 0, .int .i64 0, .string ⟨([] : List UInt8).toArray⟩] := ⟨fun w => by kernel_rfl⟩
instance (x1 : Int) (x2 : Int) (x3 : Int) : BA Tryz.prog 47 [(0, .int .i64 x1), (1, .agg #[.int .i64 x2, .int .i64 x3])] #[.int .i64 x1, .int .i64 x2, .int .i64 x3, .string ⟨([] : List UInt8).toArray⟩] := ⟨fun w => by kernel_rfl⟩
instance  : BA Tryz.prog 49 [] #[.int .i64 0, .int .i64 0, .slice none 0 0, .slice none 0 0, .slice none 0 0, .int .i64 0, .int .i64 0, .int .i64 0, .int .i64 0, .int .i64 0, .int .i64 0, .int .i64 0, .int .i64 0, .int .i64 0, .int .i64 0, .int .i64 0, .int .i64 0, .int .i64 0, .int .i64 0, .int .i64 0, .int .i64 0, .int .i64 0, .int .i64 0, .int .i64 0, .int .i64 0, .string ⟨([] : List UInt8).toArray⟩] := ⟨fun w => by kernel_rfl⟩
instance (x1 : Int) : BA Tryz.prog 49 [(0, .int .i64 x1)] #[.int .i64 x1, .int .i64 0, .slice none 0 0, .slice none 0 0, .slice none 0 0, .int .i64 0, .int .i64 0, .int .i64 0, .int .i64 0, .int .i64 0, .int .i64 0, .int .i64 0, .int .i64 0, .int .i64 0, .int .i64 0, .int .i64 0, .int .i64 0, .int .i64 0, .int .i64 0, .int .i64 0, .int .i64 0, .int .i64 0, .int .i64 0, .int .i64 0, .int .i64 0, .string ⟨([] : List UInt8).toArray⟩] := ⟨fun w => by kernel_rfl⟩
instance (x1 : Int) (x2 : Int) (x3 : Int) (x4 : Int) (x5 : ByteArray) : BA Tryz.prog 49 [(0, .int .i64 x1), (4, .agg #[.int .i64 x2, .int .i64 x3, .int .i64 x4, .string x5])] #[.int .i64 x1, .int .i64 0, .slice none 0 0, .slice none 0 0, .slice none 0 0, .int .i64 0, .int .i64 0, .int .i64 0, .int .i64 0, .int .i64 0, .int .i64 0, .int .i64 0, .int .i64 0, .int .i64 0, .int .i64 0, .int .i64 0, .int .i64 0, .int .i64 0, .int .i64 0, .int .i64 0, .int .i64 0, .int .i64 0, .int .i64 x2, .int .i64 x3, .int .i64 x4, .string x5] := ⟨fun w => by kernel_rfl⟩
instance (x1 : Int) (x2 : Int) (x3 : Int) (x4 : Int) (x5 : Int) (x6 : Int) : BA Tryz.prog 62 [(0, .int .i64 x1), (1, .int .i64 x2), (2, .agg #[.int .i64 x3, .int .i64 x4, .int .i64 x5, .int .i64 x6])] #[.int .i64 x1, .int .i64 x2, .int .i64 x3, .int .i64 x4, .int .i64 x5, .int .i64 x6] := ⟨fun w => by kernel_rfl⟩
instance (x1 : Value) [IsSl x1] : BA Tryz.prog 77 [(0, x1)] #[x1, .int .i64 0, .int .i64 0, .slice none 0 0, .slice none 0 0, .slice none 0 0, .int .i64 0, .int .i64 0, .int .i64 0, .int .i64 0, .int .i64 0, .int .i64 0, .int .i64 0, .int .i64 0, .int .i64 0, .int .i64 0, .int .i64 0, .int .i64 0, .int .i64 0, .int .i64 0, .int .i64 0, .int .i64 0, .int .i64 0, .int .i64 0, .int .i64 0, .int .i64 0, .string ⟨([] : List UInt8).toArray⟩] := ⟨fun w => by obtain ⟨_, _, _, rfl⟩ := IsSl.out (v := x1); kernel_rfl⟩
instance (x1 : Option Addr) : BA Tryz.prog 86 [(0, .pointer x1)] #[.pointer x1] := ⟨fun w => by kernel_rfl⟩
instance (x1 : Option Nat) (x2 : Option Nat) (x3 : Option Nat) (x4 : Option Nat) : BA Tryz.prog 93 [(0, .map x1), (1, .map x2), (2, .map x3), (3, .map x4)] #[.map x1, .map x2, .map x3, .map x4] := ⟨fun w => by kernel_rfl⟩
instance  : BA Tryz.prog 112 [] #[.slice none 0 0, .slice none 0 0, .slice none 0 0] := ⟨fun w => by kernel_rfl⟩
instance (x1 : Option Addr) : BA Tryz.prog 133 [(0, .pointer x1)] #[.pointer x1] := ⟨fun w => by kernel_rfl⟩
instance (x1 : Value) [IsSl x1] : BA Tryz.prog 142 [(0, x1)] #[x1, .int .i64 0] := ⟨fun w => by obtain ⟨_, _, _, rfl⟩ := IsSl.out (v := x1); kernel_rfl⟩
instance (x1 : Option Addr) : BA Tryz.prog 150 [(0, .pointer x1)] #[.pointer x1] := ⟨fun w => by kernel_rfl⟩
instance (x1 : Int) (x2 : Int) : BA Tryz.prog 160 [(0, .int .u64 x1), (1, .int .i64 x2)] #[.int .u64 x1, .int .i64 x2] := ⟨fun w => by kernel_rfl⟩
instance (x1 : Int) : BA Tryz.prog 162 [(0, .int .i64 x1)] #[.int .i64 x1, .int .i64 0] := ⟨fun w => by kernel_rfl⟩
instance (x1 : Int) (x2 : Int) : BA Tryz.prog 162 [(0, .int .i64 x1), (1, .int .i64 x2)] #[.int .i64 x1, .int .i64 x2] := ⟨fun w => by kernel_rfl⟩
instance (x1 : Bool) (x2 : Bool) (x3 : Bool) (x4 : Bool) : BA Tryz.prog 172 [(0, .bool x1), (1, .bool x2), (2, .bool x3), (3, .bool x4)] #[.bool x1, .bool x2, .bool x3, .bool x4] := ⟨fun w => by kernel_rfl⟩
instance  : BA Tryz.prog 182 [] #[.int .i64 0, .slice none 0 0] := ⟨fun w => by kernel_rfl⟩
instance (x1 : ByteArray) : BA Tryz.prog 191 [(1, .string x1)] #[.int .i64 0, .string x1] := ⟨fun w => by kernel_rfl⟩
instance  : BA Tryz.prog 208 [] #[] := ⟨fun w => by kernel_rfl⟩
instance  : BS Tryz.prog 22 0 [] #[] 26 := ⟨fun w => by kernel_rfl⟩
instance (x1 : Int) (x2 : Int) (x3 : ByteArray) : BS Tryz.prog 22 1 [(0, .agg #[.int .i64 x1, .int .i64 x2, .string x3])] #[.int .i64 x1, .int .i64 x2, .string x3] 26 := ⟨fun w => by kernel_rfl⟩
instance  : BS Tryz.prog 23 0 [] #[] 32 := ⟨fun w => by kernel_rfl⟩
instance (x1 : Int) (x2 : Int) (x3 : Int) (x4 : Int) (x5 : Int) (x6 : Int) (x7 : Int) (x8 : ByteArray) : BS Tryz.prog 23 1 [(0, .agg #[.int .i64 x1, .int .i64 x2, .int .i64 x3, .int .i64 x4, .int .i64 x5, .int .i64 x6, .int .i64 x7, .string x8])] #[.int .i64 x1, .int .i64 x2, .int .i64 x3, .int .i64 x4, .int .i64 x5, .int .i64 x6, .int .i64 x7, .string x8] 32 := ⟨fun w => by kernel_rfl⟩
instance (x1 : Int) (x2 : Int) (x3 : Int) (x4 : Int) (x5 : Int) (x6 : Int) (x7 : Int) (x8 : ByteArray) (x9 : Int) (x10 : Int) (x11 : Int) (x12 : Int) (x13 : Int) (x14 : Int) (x15 : Int) (x16 : ByteArray) : BS Tryz.prog 23 2 [(0, .agg #[.int .i64 x1, .int .i64 x2, .int .i64 x3, .int .i64 x4, .int .i64 x5, .int .i64 x6, .int .i64 x7, .string x8]), (1, .agg #[.int .i64 x9, .int .i64 x10, .int .i64 x11, .int .i64 x12, .int .i64 x13, .int .i64 x14, .int .i64 x15, .string x16])] #[.int .i64 x1, .int .i64 x2, .int .i64 x3, .int .i64 x4, .int .i64 x5, .int .i64 x6, .int .i64 x7, .string x8, .int .i64 x9, .int .i64 x10, .int .i64 x11, .int .i64 x12, .int .i64 x13, .int .i64 x14, .int .i64 x15, .string x16] 32 := ⟨fun w => by kernel_rfl⟩
instance  : BS Tryz.prog 37 0 [] #[] 162 := ⟨fun w => by kernel_rfl⟩
instance (x1 : Int) (x2 : Int) : BS Tryz.prog 37 1 [(0, .agg #[.int .i64 x1, .int .i64 x2])] #[.int .i64 x1, .int .i64 x2] 162 := ⟨fun w => by kernel_rfl⟩
instance  : BS Tryz.prog 38 0 [] #[] 62 := ⟨fun w => by kernel_rfl⟩
instance (x1 : Int) (x2 : Int) (x3 : Int) (x4 : Int) (x5 : Int) (x6 : Int) : BS Tryz.prog 38 1 [(0, .agg #[.int .i64 x1, .int .i64 x2, .int .i64 x3, .int .i64 x4, .int .i64 x5, .int .i64 x6])] #[.int .i64 x1, .int .i64 x2, .int .i64 x3, .int .i64 x4, .int .i64 x5, .int .i64 x6] 62 := ⟨fun w => by kernel_rfl⟩
instance (x1 : Int) (x2 : Int) : BS Tryz.prog 68 1 [(0, .agg #[.int .i64 x1, .int .i64 x2])] #[.int .i64 x1, .int .i64 x2] 28 := ⟨fun w => by kernel_rfl⟩
instance  : BS Tryz.prog 94 0 [] #[] 30 := ⟨fun w => by kernel_rfl⟩
instance (x1 : Int) (x2 : Int) (x3 : Int) (x4 : Int) : BS Tryz.prog 94 1 [(0, .agg #[.int .i64 x1, .int .i64 x2, .int .i64 x3, .int .i64 x4])] #[.int .i64 x1, .int .i64 x2, .int .i64 x3, .int .i64 x4] 30 := ⟨fun w => by kernel_rfl⟩
instance (x1 : Int) (x2 : Int) : BS Tryz.prog 104 1 [(0, .agg #[.int .u64 x1, .int .i64 x2])] #[.int .u64 x1, .int .i64 x2] 160 := ⟨fun w => by kernel_rfl⟩
instance (x1 : Int) (x2 : Int) (x3 : Int) (x4 : ByteArray) : BS Tryz.prog 110 1 [(0, .agg #[.int .i64 x1, .int .i64 x2, .int .i64 x3, .string x4])] #[.int .i64 x1, .int .i64 x2, .int .i64 x3, .string x4] 47 := ⟨fun w => by kernel_rfl⟩
instance (x1 : Int) : BS Tryz.prog 114 1 [(0, .int .i64 x1)] #[.int .i64 x1] 3 := ⟨fun w => by kernel_rfl⟩
instance (x1 : Int) : BS Tryz.prog 136 1 [(0, .int .u8 x1)] #[.int .u8 x1] 5 := ⟨fun w => by kernel_rfl⟩
theorem eqS26 (d : Nat) (x1 : Int) (x2 : Int) (x3 : ByteArray) (x4 : Int) (x5 : Int) (x6 : ByteArray) : EqV Tryz.prog (d + 2) 26 (.agg #[.int .i64 x1, .int .i64 x2, .string x3]) (.agg #[.int .i64 x4, .int .i64 x5, .string x6]) (x1 = x4 ∧ x2 = x5 ∧ x3 = x6) := eqvStruct Tryz.underlying26 (by kernel_rfl) (eqfCons (by rfl) (fun w => by kernel_rfl) (fun w => by kernel_rfl) (eqvInt Tryz.underlying3) (eqfCons (by rfl) (fun w => by kernel_rfl) (fun w => by kernel_rfl) (eqvInt Tryz.underlying3) (eqfLast (by rfl) (fun w => by kernel_rfl) (fun w => by kernel_rfl) (eqvStr Tryz.underlying9))))
instance (x1 : Int) (x2 : Int) (x3 : ByteArray) (x4 : Int) (x5 : Int) (x6 : ByteArray) : Bin Tryz.prog .eql 26 (.agg #[.int .i64 x1, .int .i64 x2, .string x3]) (.agg #[.int .i64 x4, .int .i64 x5, .string x6]) (.bool (decide (x1 = x4 ∧ x2 = x5 ∧ x3 = x6))) := binEq (by kernel_rfl) (eqS26 9998 x1 x2 x3 x4 x5 x6)
instance (x1 : Int) (x2 : Int) (x3 : ByteArray) (x4 : Int) (x5 : Int) (x6 : ByteArray) : Bin Tryz.prog .neq 26 (.agg #[.int .i64 x1, .int .i64 x2, .string x3]) (.agg #[.int .i64 x4, .int .i64 x5, .string x6]) (.bool (decide ¬ (x1 = x4 ∧ x2 = x5 ∧ x3 = x6))) := binNe (by kernel_rfl) (eqS26 9998 x1 x2 x3 x4 x5 x6)
theorem eqS28 (d : Nat) (x1 : Int) (x2 : Int) (x3 : Int) (x4 : Int) : EqV Tryz.prog (d + 2) 28 (.agg #[.int .i64 x1, .int .i64 x2]) (.agg #[.int .i64 x3, .int .i64 x4]) (x1 = x3 ∧ x2 = x4) := eqvStruct Tryz.underlying28 (by kernel_rfl) (eqfCons (by rfl) (fun w => by kernel_rfl) (fun w => by kernel_rfl) (eqvInt Tryz.underlying3) (eqfLast (by rfl) (fun w => by kernel_rfl) (fun w => by kernel_rfl) (eqvInt Tryz.underlying3)))
instance (x1 : Int) (x2 : Int) (x3 : Int) (x4 : Int) : Bin Tryz.prog .eql 28 (.agg #[.int .i64 x1, .int .i64 x2]) (.agg #[.int .i64 x3, .int .i64 x4]) (.bool (decide (x1 = x3 ∧ x2 = x4))) := binEq (by kernel_rfl) (eqS28 9998 x1 x2 x3 x4)
instance (x1 : Int) (x2 : Int) (x3 : Int) (x4 : Int) : Bin Tryz.prog .neq 28 (.agg #[.int .i64 x1, .int .i64 x2]) (.agg #[.int .i64 x3, .int .i64 x4]) (.bool (decide ¬ (x1 = x3 ∧ x2 = x4))) := binNe (by kernel_rfl) (eqS28 9998 x1 x2 x3 x4)
theorem eqS30 (d : Nat) (x1 : Int) (x2 : Int) (x3 : Int) (x4 : Int) (x5 : Int) (x6 : Int) (x7 : Int) (x8 : Int) : EqV Tryz.prog (d + 3) 30 (.agg #[.int .i64 x1, .int .i64 x2, .int .i64 x3, .int .i64 x4]) (.agg #[.int .i64 x5, .int .i64 x6, .int .i64 x7, .int .i64 x8]) ((x1 = x5 ∧ x2 = x6) ∧ (x3 = x7 ∧ x4 = x8)) := eqvStruct Tryz.underlying30 (by kernel_rfl) (eqfCons (by rfl) (fun w => by kernel_rfl) (fun w => by kernel_rfl) (eqS28 (d + 0) _ _ _ _) (eqfLast (by rfl) (fun w => by kernel_rfl) (fun w => by kernel_rfl) (eqS28 (d + 0) _ _ _ _)))
instance (x1 : Int) (x2 : Int) (x3 : Int) (x4 : Int) (x5 : Int) (x6 : Int) (x7 : Int) (x8 : Int) : Bin Tryz.prog .eql 30 (.agg #[.int .i64 x1, .int .i64 x2, .int .i64 x3, .int .i64 x4]) (.agg #[.int .i64 x5, .int .i64 x6, .int .i64 x7, .int .i64 x8]) (.bool (decide ((x1 = x5 ∧ x2 = x6) ∧ (x3 = x7 ∧ x4 = x8)))) := binEq (by kernel_rfl) (eqS30 9997 x1 x2 x3 x4 x5 x6 x7 x8)
instance (x1 : Int) (x2 : Int) (x3 : Int) (x4 : Int) (x5 : Int) (x6 : Int) (x7 : Int) (x8 : Int) : Bin Tryz.prog .neq 30 (.agg #[.int .i64 x1, .int .i64 x2, .int .i64 x3, .int .i64 x4]) (.agg #[.int .i64 x5, .int .i64 x6, .int .i64 x7, .int .i64 x8]) (.bool (decide ¬ ((x1 = x5 ∧ x2 = x6) ∧ (x3 = x7 ∧ x4 = x8)))) := binNe (by kernel_rfl) (eqS30 9997 x1 x2 x3 x4 x5 x6 x7 x8)
theorem eqS32 (d : Nat) (x1 : Int) (x2 : Int) (x3 : Int) (x4 : Int) (x5 : Int) (x6 : Int) (x7 : Int) (x8 : ByteArray) (x9 : Int) (x10 : Int) (x11 : Int) (x12 : Int) (x13 : Int) (x14 : Int) (x15 : Int) (x16 : ByteArray) : EqV Tryz.prog (d + 4) 32 (.agg #[.int .i64 x1, .int .i64 x2, .int .i64 x3, .int .i64 x4, .int .i64 x5, .int .i64 x6, .int .i64 x7, .string x8]) (.agg #[.int .i64 x9, .int .i64 x10, .int .i64 x11, .int .i64 x12, .int .i64 x13, .int .i64 x14, .int .i64 x15, .string x16]) (x1 = x9 ∧ x2 = x10 ∧ x3 = x11 ∧ ((x4 = x12 ∧ x5 = x13) ∧ (x6 = x14 ∧ x7 = x15)) ∧ x8 = x16) := eqvStruct Tryz.underlying32 (by kernel_rfl) (eqfCons (by rfl) (fun w => by kernel_rfl) (fun w => by kernel_rfl) (eqvInt Tryz.underlying3) (eqfCons (by rfl) (fun w => by kernel_rfl) (fun w => by kernel_rfl) (eqvInt Tryz.underlying3) (eqfCons (by rfl) (fun w => by kernel_rfl) (fun w => by kernel_rfl) (eqvInt Tryz.underlying3) (eqfCons (by rfl) (fun w => by kernel_rfl) (fun w => by kernel_rfl) (eqS30 (d + 0) _ _ _ _ _ _ _ _) (eqfLast (by rfl) (fun w => by kernel_rfl) (fun w => by kernel_rfl) (eqvStr Tryz.underlying9))))))
instance (x1 : Int) (x2 : Int) (x3 : Int) (x4 : Int) (x5 : Int) (x6 : Int) (x7 : Int) (x8 : ByteArray) (x9 : Int) (x10 : Int) (x11 : Int) (x12 : Int) (x13 : Int) (x14 : Int) (x15 : Int) (x16 : ByteArray) : Bin Tryz.prog .eql 32 (.agg #[.int .i64 x1, .int .i64 x2, .int .i64 x3, .int .i64 x4, .int .i64 x5, .int .i64 x6, .int .i64 x7, .string x8]) (.agg #[.int .i64 x9, .int .i64 x10, .int .i64 x11, .int .i64 x12, .int .i64 x13, .int .i64 x14, .int .i64 x15, .string x16]) (.bool (decide (x1 = x9 ∧ x2 = x10 ∧ x3 = x11 ∧ ((x4 = x12 ∧ x5 = x13) ∧ (x6 = x14 ∧ x7 = x15)) ∧ x8 = x16))) := binEq (by kernel_rfl) (eqS32 9996 x1 x2 x3 x4 x5 x6 x7 x8 x9 x10 x11 x12 x13 x14 x15 x16)
instance (x1 : Int) (x2 : Int) (x3 : Int) (x4 : Int) (x5 : Int) (x6 : Int) (x7 : Int) (x8 : ByteArray) (x9 : Int) (x10 : Int) (x11 : Int) (x12 : Int) (x13 : Int) (x14 : Int) (x15 : Int) (x16 : ByteArray) : Bin Tryz.prog .neq 32 (.agg #[.int .i64 x1, .int .i64 x2, .int .i64 x3, .int .i64 x4, .int .i64 x5, .int .i64 x6, .int .i64 x7, .string x8]) (.agg #[.int .i64 x9, .int .i64 x10, .int .i64 x11, .int .i64 x12, .int .i64 x13, .int .i64 x14, .int .i64 x15, .string x16]) (.bool (decide ¬ (x1 = x9 ∧ x2 = x10 ∧ x3 = x11 ∧ ((x4 = x12 ∧ x5 = x13) ∧ (x6 = x14 ∧ x7 = x15)) ∧ x8 = x16))) := binNe (by kernel_rfl) (eqS32 9996 x1 x2 x3 x4 x5 x6 x7 x8 x9 x10 x11 x12 x13 x14 x15 x16)
theorem eqS42 (d : Nat) (x1 : Int) (x2 : Int) (x3 : Int) (x4 : Int) : EqV Tryz.prog (d + 2) 42 (.agg #[.int .i64 x1, .int .i64 x2]) (.agg #[.int .i64 x3, .int .i64 x4]) (x1 = x3 ∧ x2 = x4) := eqvStruct Tryz.underlying42 (by kernel_rfl) (eqfCons (by rfl) (fun w => by kernel_rfl) (fun w => by kernel_rfl) (eqvInt Tryz.underlying3) (eqfLast (by rfl) (fun w => by kernel_rfl) (fun w => by kernel_rfl) (eqvInt Tryz.underlying3)))
instance (x1 : Int) (x2 : Int) (x3 : Int) (x4 : Int) : Bin Tryz.prog .eql 42 (.agg #[.int .i64 x1, .int .i64 x2]) (.agg #[.int .i64 x3, .int .i64 x4]) (.bool (decide (x1 = x3 ∧ x2 = x4))) := binEq (by kernel_rfl) (eqS42 9998 x1 x2 x3 x4)
instance (x1 : Int) (x2 : Int) (x3 : Int) (x4 : Int) : Bin Tryz.prog .neq 42 (.agg #[.int .i64 x1, .int .i64 x2]) (.agg #[.int .i64 x3, .int .i64 x4]) (.bool (decide ¬ (x1 = x3 ∧ x2 = x4))) := binNe (by kernel_rfl) (eqS42 9998 x1 x2 x3 x4)
instance : Bin Tryz.prog .neq 45 (.agg #[.int .i64 0, .int .i64 0, .int .i64 0, .int .i64 0, .int .i64 0, .int .i64 0, .int .i64 0, .int .i64 0, .int .i64 0, .int .i64 0, .int .i64 0, .int .i64 0, .int .i64 0, .int .i64 0, .int .i64 0]) (.agg #[.int .i64 0, .int .i64 0, .int .i64 0, .int .i64 0, .int .i64 0, .int .i64 0, .int .i64 0, .int .i64 0, .int .i64 0, .int .i64 0, .int .i64 0, .int .i64 0, .int .i64 0, .int .i64 0, .int .i64 0]) (.bool false) := ⟨fun w => by kernel_rfl, fun _ a b w => run_eqGuard_agg w .neq 45 a b _ _ (by kernel_rfl)⟩
instance : Bin Tryz.prog .eql 45 (.agg #[.int .i64 0, .int .i64 0, .int .i64 0, .int .i64 0, .int .i64 0, .int .i64 0, .int .i64 0, .int .i64 0, .int .i64 0, .int .i64 0, .int .i64 0, .int .i64 0, .int .i64 0, .int .i64 0, .int .i64 0]) (.agg #[.int .i64 0, .int .i64 0, .int .i64 0, .int .i64 0, .int .i64 0, .int .i64 0, .int .i64 0, .int .i64 0, .int .i64 0, .int .i64 0, .int .i64 0, .int .i64 0, .int .i64 0, .int .i64 0, .int .i64 0]) (.bool true) := ⟨fun w => by kernel_rfl, fun _ a b w => run_eqGuard_agg w .eql 45 a b _ _ (by kernel_rfl)⟩
theorem eqS47 (d : Nat) (x1 : Int) (x2 : Int) (x3 : Int) (x4 : ByteArray) (x5 : Int) (x6 : Int) (x7 : Int) (x8 : ByteArray) : EqV Tryz.prog (d + 3) 47 (.agg #[.int .i64 x1, .int .i64 x2, .int .i64 x3, .string x4]) (.agg #[.int .i64 x5, .int .i64 x6, .int .i64 x7, .string x8]) (x1 = x5 ∧ (x2 = x6 ∧ x3 = x7) ∧ x4 = x8) := eqvStruct Tryz.underlying47 (by kernel_rfl) (eqfCons (by rfl) (fun w => by kernel_rfl) (fun w => by kernel_rfl) (eqvInt Tryz.underlying3) (eqfCons (by rfl) (fun w => by kernel_rfl) (fun w => by kernel_rfl) (eqS28 (d + 0) _ _ _ _) (eqfLast (by rfl) (fun w => by kernel_rfl) (fun w => by kernel_rfl) (eqvStr Tryz.underlying9))))
instance (x1 : Int) (x2 : Int) (x3 : Int) (x4 : ByteArray) (x5 : Int) (x6 : Int) (x7 : Int) (x8 : ByteArray) : Bin Tryz.prog .eql 47 (.agg #[.int .i64 x1, .int .i64 x2, .int .i64 x3, .string x4]) (.agg #[.int .i64 x5, .int .i64 x6, .int .i64 x7, .string x8]) (.bool (decide (x1 = x5 ∧ (x2 = x6 ∧ x3 = x7) ∧ x4 = x8))) := binEq (by kernel_rfl) (eqS47 9997 x1 x2 x3 x4 x5 x6 x7 x8)
instance (x1 : Int) (x2 : Int) (x3 : Int) (x4 : ByteArray) (x5 : Int) (x6 : Int) (x7 : Int) (x8 : ByteArray) : Bin Tryz.prog .neq 47 (.agg #[.int .i64 x1, .int .i64 x2, .int .i64 x3, .string x4]) (.agg #[.int .i64 x5, .int .i64 x6, .int .i64 x7, .string x8]) (.bool (decide ¬ (x1 = x5 ∧ (x2 = x6 ∧ x3 = x7) ∧ x4 = x8))) := binNe (by kernel_rfl) (eqS47 9997 x1 x2 x3 x4 x5 x6 x7 x8)
theorem eqS62 (d : Nat) (x1 : Int) (x2 : Int) (x3 : Int) (x4 : Int) (x5 : Int) (x6 : Int) (x7 : Int) (x8 : Int) (x9 : Int) (x10 : Int) (x11 : Int) (x12 : Int) : EqV Tryz.prog (d + 4) 62 (.agg #[.int .i64 x1, .int .i64 x2, .int .i64 x3, .int .i64 x4, .int .i64 x5, .int .i64 x6]) (.agg #[.int .i64 x7, .int .i64 x8, .int .i64 x9, .int .i64 x10, .int .i64 x11, .int .i64 x12]) (x1 = x7 ∧ x2 = x8 ∧ ((x3 = x9 ∧ x4 = x10) ∧ (x5 = x11 ∧ x6 = x12))) := eqvStruct Tryz.underlying62 (by kernel_rfl) (eqfCons (by rfl) (fun w => by kernel_rfl) (fun w => by kernel_rfl) (eqvInt Tryz.underlying3) (eqfCons (by rfl) (fun w => by kernel_rfl) (fun w => by kernel_rfl) (eqvInt Tryz.underlying3) (eqfLast (by rfl) (fun w => by kernel_rfl) (fun w => by kernel_rfl) (eqS30 (d + 0) _ _ _ _ _ _ _ _))))
instance (x1 : Int) (x2 : Int) (x3 : Int) (x4 : Int) (x5 : Int) (x6 : Int) (x7 : Int) (x8 : Int) (x9 : Int) (x10 : Int) (x11 : Int) (x12 : Int) : Bin Tryz.prog .eql 62 (.agg #[.int .i64 x1, .int .i64 x2, .int .i64 x3, .int .i64 x4, .int .i64 x5, .int .i64 x6]) (.agg #[.int .i64 x7, .int .i64 x8, .int .i64 x9, .int .i64 x10, .int .i64 x11, .int .i64 x12]) (.bool (decide (x1 = x7 ∧ x2 = x8 ∧ ((x3 = x9 ∧ x4 = x10) ∧ (x5 = x11 ∧ x6 = x12))))) := binEq (by kernel_rfl) (eqS62 9996 x1 x2 x3 x4 x5 x6 x7 x8 x9 x10 x11 x12)
instance (x1 : Int) (x2 : Int) (x3 : Int) (x4 : Int) (x5 : Int) (x6 : Int) (x7 : Int) (x8 : Int) (x9 : Int) (x10 : Int) (x11 : Int) (x12 : Int) : Bin Tryz.prog .neq 62 (.agg #[.int .i64 x1, .int .i64 x2, .int .i64 x3, .int .i64 x4, .int .i64 x5, .int .i64 x6]) (.agg #[.int .i64 x7, .int .i64 x8, .int .i64 x9, .int .i64 x10, .int .i64 x11, .int .i64 x12]) (.bool (decide ¬ (x1 = x7 ∧ x2 = x8 ∧ ((x3 = x9 ∧ x4 = x10) ∧ (x5 = x11 ∧ x6 = x12))))) := binNe (by kernel_rfl) (eqS62 9996 x1 x2 x3 x4 x5 x6 x7 x8 x9 x10 x11 x12)
theorem eqS162 (d : Nat) (x1 : Int) (x2 : Int) (x3 : Int) (x4 : Int) : EqV Tryz.prog (d + 2) 162 (.agg #[.int .i64 x1, .int .i64 x2]) (.agg #[.int .i64 x3, .int .i64 x4]) (x1 = x3 ∧ x2 = x4) := eqvStruct Tryz.underlying162 (by kernel_rfl) (eqfCons (by rfl) (fun w => by kernel_rfl) (fun w => by kernel_rfl) (eqvInt Tryz.underlying3) (eqfLast (by rfl) (fun w => by kernel_rfl) (fun w => by kernel_rfl) (eqvInt Tryz.underlying3)))
instance (x1 : Int) (x2 : Int) (x3 : Int) (x4 : Int) : Bin Tryz.prog .eql 162 (.agg #[.int .i64 x1, .int .i64 x2]) (.agg #[.int .i64 x3, .int .i64 x4]) (.bool (decide (x1 = x3 ∧ x2 = x4))) := binEq (by kernel_rfl) (eqS162 9998 x1 x2 x3 x4)
instance (x1 : Int) (x2 : Int) (x3 : Int) (x4 : Int) : Bin Tryz.prog .neq 162 (.agg #[.int .i64 x1, .int .i64 x2]) (.agg #[.int .i64 x3, .int .i64 x4]) (.bool (decide ¬ (x1 = x3 ∧ x2 = x4))) := binNe (by kernel_rfl) (eqS162 9998 x1 x2 x3 x4)
instance : KeyT Tryz.prog 30 ApiBox avApiBox := KeyT.agg Tryz.underlying30 (fun _ => ⟨_, rfl⟩) (fun e x w => by kernel_rfl) (fun x => sameBits_agg 9999 (by intro v hv; simp at hv; rcases hv with rfl | rfl | rfl | rfl <;> simp [Instr.sameBits, MapKept.bytes_beq])) (fun x y w => by
  have h := eqS30 9997 x.Under.Base x.Under.Step x.Load.Base x.Load.Step y.Under.Base y.Under.Step y.Load.Base y.Load.Step w
  rw [show Op.equal 30 (avApiBox x) (avApiBox y) = Op.equalIn 10000 30 (avApiBox x) (avApiBox y) from rfl]
  refine h.trans ?_
  congr 1
  exact decide_eq_decide.2 (by simp [iff_ApiBox, iff_ApiKey]))
instance : KInj avApiBox := ⟨fun x y h => by simp at h; simp [iff_ApiBox, iff_ApiKey, h]⟩
instance : KeyT Tryz.prog 47 ApiSealed avApiSealed := KeyT.agg Tryz.underlying47 (fun _ => ⟨_, rfl⟩) (fun e x w => by kernel_rfl) (fun x => sameBits_agg 9999 (by intro v hv; simp at hv; rcases hv with rfl | rfl | rfl | rfl <;> simp [Instr.sameBits, MapKept.bytes_beq])) (fun x y w => by
  have h := eqS47 9997 x.Epoch x.Under.Base x.Under.Step x.Text y.Epoch y.Under.Base y.Under.Step y.Text w
  rw [show Op.equal 47 (avApiSealed x) (avApiSealed y) = Op.equalIn 10000 47 (avApiSealed x) (avApiSealed y) from rfl]
  refine h.trans ?_
  congr 1
  exact decide_eq_decide.2 (by simp [iff_ApiSealed, iff_ApiKey]))
instance : KInj avApiSealed := ⟨fun x y h => by simp at h; simp [iff_ApiSealed, iff_ApiKey, h]⟩
instance : NotI Tryz.prog 88 := ⟨fun v w => by kernel_rfl⟩
instance : NotI Tryz.prog 89 := ⟨fun v w => by kernel_rfl⟩
instance : NotI Tryz.prog 90 := ⟨fun v w => by kernel_rfl⟩
instance : NotI Tryz.prog 208 := ⟨fun v w => by kernel_rfl⟩
instance : Clo Tryz.prog 100 := Clo.of Tryz.func100 (by kernel_rfl) (by kernel_rfl) (by kernel_rfl) (by kernel_rfl)
instance : Fn1 Tryz.prog 7 := ⟨fun args w => by kernel_rfl⟩
instance : Fn1 Tryz.prog 8 := ⟨fun args w => by kernel_rfl⟩
instance : Fn1 Tryz.prog 9 := ⟨fun args w => by kernel_rfl⟩
instance : Fn1 Tryz.prog 10 := ⟨fun args w => by kernel_rfl⟩
instance : Fn1 Tryz.prog 11 := ⟨fun args w => by kernel_rfl⟩
instance : Fn1 Tryz.prog 12 := ⟨fun args w => by kernel_rfl⟩
instance : Fn1 Tryz.prog 13 := ⟨fun args w => by kernel_rfl⟩
instance : Fn1 Tryz.prog 14 := ⟨fun args w => by kernel_rfl⟩
instance : Fn1 Tryz.prog 15 := ⟨fun args w => by kernel_rfl⟩
instance : Fn1 Tryz.prog 16 := ⟨fun args w => by kernel_rfl⟩
instance : Fn1 Tryz.prog 17 := ⟨fun args w => by kernel_rfl⟩
instance : Fn1 Tryz.prog 18 := ⟨fun args w => by kernel_rfl⟩
instance : Fn1 Tryz.prog 19 := ⟨fun args w => by kernel_rfl⟩
instance : Fn1 Tryz.prog 20 := ⟨fun args w => by kernel_rfl⟩
instance : Fn1 Tryz.prog 21 := ⟨fun args w => by kernel_rfl⟩
instance : Fn1 Tryz.prog 22 := ⟨fun args w => by kernel_rfl⟩
instance : Fn1 Tryz.prog 23 := ⟨fun args w => by kernel_rfl⟩
instance : Fn1 Tryz.prog 24 := ⟨fun args w => by kernel_rfl⟩
instance : Fn1 Tryz.prog 25 := ⟨fun args w => by kernel_rfl⟩
instance : Fn1 Tryz.prog 26 := ⟨fun args w => by kernel_rfl⟩
instance : Fn1 Tryz.prog 27 := ⟨fun args w => by kernel_rfl⟩
instance : Fn1 Tryz.prog 28 := ⟨fun args w => by kernel_rfl⟩
instance : Fn1 Tryz.prog 29 := ⟨fun args w => by kernel_rfl⟩
instance : Fn1 Tryz.prog 30 := ⟨fun args w => by kernel_rfl⟩
instance : Fn1 Tryz.prog 31 := ⟨fun args w => by kernel_rfl⟩
instance : Fn1 Tryz.prog 32 := ⟨fun args w => by kernel_rfl⟩
instance : Fn1 Tryz.prog 33 := ⟨fun args w => by kernel_rfl⟩
instance : Fn1 Tryz.prog 34 := ⟨fun args w => by kernel_rfl⟩
instance : Fn1 Tryz.prog 35 := ⟨fun args w => by kernel_rfl⟩
instance : Fn1 Tryz.prog 36 := ⟨fun args w => by kernel_rfl⟩
instance : Fn1 Tryz.prog 37 := ⟨fun args w => by kernel_rfl⟩
instance : Fn1 Tryz.prog 38 := ⟨fun args w => by kernel_rfl⟩
instance : Fn1 Tryz.prog 39 := ⟨fun args w => by kernel_rfl⟩
instance : Fn1 Tryz.prog 40 := ⟨fun args w => by kernel_rfl⟩
instance : Fn1 Tryz.prog 41 := ⟨fun args w => by kernel_rfl⟩
instance : Fn1 Tryz.prog 42 := ⟨fun args w => by kernel_rfl⟩
instance : Fn1 Tryz.prog 43 := ⟨fun args w => by kernel_rfl⟩
instance : Fn1 Tryz.prog 44 := ⟨fun args w => by kernel_rfl⟩
instance : Fn1 Tryz.prog 45 := ⟨fun args w => by kernel_rfl⟩
instance : Fn1 Tryz.prog 46 := ⟨fun args w => by kernel_rfl⟩
instance : Fn1 Tryz.prog 47 := ⟨fun args w => by kernel_rfl⟩
instance : Fn1 Tryz.prog 48 := ⟨fun args w => by kernel_rfl⟩
instance : Fn1 Tryz.prog 49 := ⟨fun args w => by kernel_rfl⟩
instance : Fn1 Tryz.prog 50 := ⟨fun args w => by kernel_rfl⟩
instance : Fn1 Tryz.prog 51 := ⟨fun args w => by kernel_rfl⟩
instance : Fn1 Tryz.prog 52 := ⟨fun args w => by kernel_rfl⟩
instance : Fn1 Tryz.prog 53 := ⟨fun args w => by kernel_rfl⟩
instance : Fn1 Tryz.prog 54 := ⟨fun args w => by kernel_rfl⟩
instance : Fn1 Tryz.prog 55 := ⟨fun args w => by kernel_rfl⟩
instance : Fn1 Tryz.prog 56 := ⟨fun args w => by kernel_rfl⟩
instance : Fn1 Tryz.prog 57 := ⟨fun args w => by kernel_rfl⟩
instance : Fn1 Tryz.prog 58 := ⟨fun args w => by kernel_rfl⟩
instance : Fn1 Tryz.prog 59 := ⟨fun args w => by kernel_rfl⟩
instance : Fn1 Tryz.prog 60 := ⟨fun args w => by kernel_rfl⟩
instance : Fn1 Tryz.prog 61 := ⟨fun args w => by kernel_rfl⟩
instance : Fn1 Tryz.prog 62 := ⟨fun args w => by kernel_rfl⟩
instance : Fn1 Tryz.prog 63 := ⟨fun args w => by kernel_rfl⟩
instance : Fn1 Tryz.prog 64 := ⟨fun args w => by kernel_rfl⟩
instance : Fn1 Tryz.prog 65 := ⟨fun args w => by kernel_rfl⟩
instance : Fn1 Tryz.prog 66 := ⟨fun args w => by kernel_rfl⟩
instance : Fn1 Tryz.prog 67 := ⟨fun args w => by kernel_rfl⟩
instance : Fn1 Tryz.prog 68 := ⟨fun args w => by kernel_rfl⟩
instance : Fn1 Tryz.prog 69 := ⟨fun args w => by kernel_rfl⟩
instance : Fn1 Tryz.prog 70 := ⟨fun args w => by kernel_rfl⟩
instance : Fn1 Tryz.prog 71 := ⟨fun args w => by kernel_rfl⟩
instance : Fn1 Tryz.prog 72 := ⟨fun args w => by kernel_rfl⟩
instance : Fn1 Tryz.prog 73 := ⟨fun args w => by kernel_rfl⟩
instance : Fn1 Tryz.prog 74 := ⟨fun args w => by kernel_rfl⟩
instance : Fn1 Tryz.prog 75 := ⟨fun args w => by kernel_rfl⟩
instance : Fn1 Tryz.prog 76 := ⟨fun args w => by kernel_rfl⟩
instance : Fn1 Tryz.prog 77 := ⟨fun args w => by kernel_rfl⟩
instance : Fn1 Tryz.prog 78 := ⟨fun args w => by kernel_rfl⟩
instance : Fn1 Tryz.prog 79 := ⟨fun args w => by kernel_rfl⟩
instance : Fn1 Tryz.prog 80 := ⟨fun args w => by kernel_rfl⟩
instance : Fn1 Tryz.prog 81 := ⟨fun args w => by kernel_rfl⟩
instance : Fn1 Tryz.prog 82 := ⟨fun args w => by kernel_rfl⟩
instance : Fn1 Tryz.prog 83 := ⟨fun args w => by kernel_rfl⟩
instance : Fn1 Tryz.prog 84 := ⟨fun args w => by kernel_rfl⟩
instance : Fn1 Tryz.prog 85 := ⟨fun args w => by kernel_rfl⟩
instance : Fn1 Tryz.prog 86 := ⟨fun args w => by kernel_rfl⟩
instance : Fn1 Tryz.prog 87 := ⟨fun args w => by kernel_rfl⟩
instance : Fn1 Tryz.prog 88 := ⟨fun args w => by kernel_rfl⟩
instance : Fn1 Tryz.prog 89 := ⟨fun args w => by kernel_rfl⟩
instance : Fn1 Tryz.prog 90 := ⟨fun args w => by kernel_rfl⟩
instance : Fn1 Tryz.prog 91 := ⟨fun args w => by kernel_rfl⟩
instance : Fn1 Tryz.prog 92 := ⟨fun args w => by kernel_rfl⟩
instance : Fn1 Tryz.prog 93 := ⟨fun args w => by kernel_rfl⟩
instance : Fn1 Tryz.prog 94 := ⟨fun args w => by kernel_rfl⟩
instance : Fn1 Tryz.prog 95 := ⟨fun args w => by kernel_rfl⟩
instance : Fn1 Tryz.prog 96 := ⟨fun args w => by kernel_rfl⟩
instance : Fn1 Tryz.prog 97 := ⟨fun args w => by kernel_rfl⟩
instance : Fn1 Tryz.prog 98 := ⟨fun args w => by kernel_rfl⟩
instance : Fn1 Tryz.prog 99 := ⟨fun args w => by kernel_rfl⟩
instance : Fn1 Tryz.prog 101 := ⟨fun args w => by kernel_rfl⟩
instance : Fn1 Tryz.prog 102 := ⟨fun args w => by kernel_rfl⟩
instance : Fn1 Tryz.prog 103 := ⟨fun args w => by kernel_rfl⟩
instance : Fn1 Tryz.prog 114 := ⟨fun args w => by kernel_rfl⟩
instance : Fn1 Tryz.prog 115 := ⟨fun args w => by kernel_rfl⟩
instance : Fn1 Tryz.prog 116 := ⟨fun args w => by kernel_rfl⟩
instance : Fn1 Tryz.prog 117 := ⟨fun args w => by kernel_rfl⟩
instance : Fn1 Tryz.prog 118 := ⟨fun args w => by kernel_rfl⟩
instance : Fn1 Tryz.prog 119 := ⟨fun args w => by kernel_rfl⟩
instance : Fn1 Tryz.prog 121 := ⟨fun args w => by kernel_rfl⟩
instance : Fn1 Tryz.prog 122 := ⟨fun args w => by kernel_rfl⟩
instance : Fn1 Tryz.prog 123 := ⟨fun args w => by kernel_rfl⟩
instance : Fn1 Tryz.prog 124 := ⟨fun args w => by kernel_rfl⟩
instance : Fn1 Tryz.prog 125 := ⟨fun args w => by kernel_rfl⟩
instance : Fn1 Tryz.prog 126 := ⟨fun args w => by kernel_rfl⟩
instance : Fn1 Tryz.prog 127 := ⟨fun args w => by kernel_rfl⟩
instance : Fn1 Tryz.prog 128 := ⟨fun args w => by kernel_rfl⟩
instance : Fn1 Tryz.prog 129 := ⟨fun args w => by kernel_rfl⟩
instance : Fn1 Tryz.prog 130 := ⟨fun args w => by kernel_rfl⟩
instance : Fn1 Tryz.prog 131 := ⟨fun args w => by kernel_rfl⟩
instance : Fn1 Tryz.prog 132 := ⟨fun args w => by kernel_rfl⟩
instance : Fn1 Tryz.prog 133 := ⟨fun args w => by kernel_rfl⟩
instance : Fn1 Tryz.prog 134 := ⟨fun args w => by kernel_rfl⟩
instance : Fn1 Tryz.prog 135 := ⟨fun args w => by kernel_rfl⟩
instance : Fn1 Tryz.prog 136 := ⟨fun args w => by kernel_rfl⟩
instance : Fn1 Tryz.prog 137 := ⟨fun args w => by kernel_rfl⟩
instance : Fn1 Tryz.prog 138 := ⟨fun args w => by kernel_rfl⟩
instance : Fn1 Tryz.prog 139 := ⟨fun args w => by kernel_rfl⟩
instance : Fn1 Tryz.prog 140 := ⟨fun args w => by kernel_rfl⟩
instance : Fn1 Tryz.prog 141 := ⟨fun args w => by kernel_rfl⟩
instance : Fn1 Tryz.prog 142 := ⟨fun args w => by kernel_rfl⟩
instance : Fn1 Tryz.prog 143 := ⟨fun args w => by kernel_rfl⟩
instance : Fn1 Tryz.prog 144 := ⟨fun args w => by kernel_rfl⟩
instance : Fn1 Tryz.prog 145 := ⟨fun args w => by kernel_rfl⟩
instance : Fn1 Tryz.prog 146 := ⟨fun args w => by kernel_rfl⟩
instance : Fn1 Tryz.prog 147 := ⟨fun args w => by kernel_rfl⟩
instance : Fn1 Tryz.prog 148 := ⟨fun args w => by kernel_rfl⟩
instance : Fn1 Tryz.prog 149 := ⟨fun args w => by kernel_rfl⟩
instance : Fn1 Tryz.prog 150 := ⟨fun args w => by kernel_rfl⟩
instance : Fn1 Tryz.prog 151 := ⟨fun args w => by kernel_rfl⟩
instance : Fn1 Tryz.prog 152 := ⟨fun args w => by kernel_rfl⟩
instance : Fn1 Tryz.prog 153 := ⟨fun args w => by kernel_rfl⟩
instance : Fn1 Tryz.prog 154 := ⟨fun args w => by kernel_rfl⟩
instance : Fn1 Tryz.prog 155 := ⟨fun args w => by kernel_rfl⟩
instance : Fn1 Tryz.prog 156 := ⟨fun args w => by kernel_rfl⟩
instance : Fn1 Tryz.prog 157 := ⟨fun args w => by kernel_rfl⟩
instance : Fn1 Tryz.prog 158 := ⟨fun args w => by kernel_rfl⟩
instance : Fn1 Tryz.prog 159 := ⟨fun args w => by kernel_rfl⟩
instance : Fn1 Tryz.prog 160 := ⟨fun args w => by kernel_rfl⟩
instance : Fn1 Tryz.prog 161 := ⟨fun args w => by kernel_rfl⟩
instance : Fn1 Tryz.prog 162 := ⟨fun args w => by kernel_rfl⟩
instance : Fn1 Tryz.prog 163 := ⟨fun args w => by kernel_rfl⟩
instance : Fn1 Tryz.prog 164 := ⟨fun args w => by kernel_rfl⟩
instance : Fn1 Tryz.prog 165 := ⟨fun args w => by kernel_rfl⟩
instance : Fn1 Tryz.prog 166 := ⟨fun args w => by kernel_rfl⟩
instance : Fn1 Tryz.prog 167 := ⟨fun args w => by kernel_rfl⟩
instance : Fn1 Tryz.prog 168 := ⟨fun args w => by kernel_rfl⟩
instance : Fn1 Tryz.prog 169 := ⟨fun args w => by kernel_rfl⟩
instance : Fn1 Tryz.prog 170 := ⟨fun args w => by kernel_rfl⟩
instance : Fn1 Tryz.prog 171 := ⟨fun args w => by kernel_rfl⟩
instance : Fn1 Tryz.prog 172 := ⟨fun args w => by kernel_rfl⟩
instance : Fn1 Tryz.prog 173 := ⟨fun args w => by kernel_rfl⟩
instance : Fn1 Tryz.prog 174 := ⟨fun args w => by kernel_rfl⟩
instance : Fn1 Tryz.prog 175 := ⟨fun args w => by kernel_rfl⟩
instance : Fn1 Tryz.prog 176 := ⟨fun args w => by kernel_rfl⟩
instance : Fn1 Tryz.prog 177 := ⟨fun args w => by kernel_rfl⟩
end Go.Proofs.YtdfoijfjlhjeaaaGreat

/- Symbolic execution: strings as lists of bytes. Of whatever program. -/
namespace Go.SX
set_option linter.unusedSimpArgs false
set_option linter.unusedVariables false
open Go Go.RowKit
abbrev str (l : List UInt8) : Value := .string ⟨l.toArray⟩
class Fact' (p : Prop) : Prop where
  out : p
theorem bs_inj {l m : List UInt8} : (⟨l.toArray⟩ : ByteArray) = ⟨m.toArray⟩ ↔ l = m := by
  constructor
  · intro h; simpa using congrArg (fun b : ByteArray => b.data.toList) h
  · rintro rfl; rfl
theorem bs_size (l : List UInt8) : (⟨l.toArray⟩ : ByteArray).size = l.length := by
  show l.toArray.size = _; simp
theorem bs_of (s : ByteArray) : s = ⟨s.data.toList.toArray⟩ := by cases s; rfl
section
variable {P : Program} {R : List Hp} {L : Env} {Γ : List Hp} {l m : List UInt8}
instance (priority := high) ysLen (x : Operand) (T : TypeId) [h : Ev L x (.string ⟨l.toArray⟩)] [h2 : Und P T .string] : Y P R L Γ (.call ⟨.builtin .len, #[x], #[T]⟩) (.int .i64 l.length) := by
  have := yLenStr (P := P) (R := R) (L := L) (Γ := Γ) x T ⟨l.toArray⟩
  rwa [bs_size] at this
instance (priority := high) bsEq (t : TypeId) : Bin P .eql t (.string ⟨l.toArray⟩) (.string ⟨m.toArray⟩) (.bool (decide (l = m))) := by
  have := biStrE (P := P) t ⟨l.toArray⟩ ⟨m.toArray⟩
  simpa only [bs_inj] using this
instance (priority := high) bsNe (t : TypeId) : Bin P .neq t (.string ⟨l.toArray⟩) (.string ⟨m.toArray⟩) (.bool (decide (¬ l = m))) := by
  have := biStrN (P := P) t ⟨l.toArray⟩ ⟨m.toArray⟩
  simpa only [bs_inj] using this
theorem bs_cat (l m : List UInt8) : ((⟨l.toArray⟩ : ByteArray) ++ (⟨m.toArray⟩ : ByteArray)) = ⟨(l ++ m).toArray⟩ := by
  apply ByteArray.ext; simp
theorem bin_cat (T : TypeId) (h : l.length + m.length ≤ 9223372036854775807) : Bin P .add T (.string ⟨l.toArray⟩) (.string ⟨m.toArray⟩) (.string ⟨(l ++ m).toArray⟩) := ⟨fun w => by
  have h1 : ¬ ((((⟨l.toArray⟩ : ByteArray).size + (⟨m.toArray⟩ : ByteArray).size : Nat) : Int) > IntKind.i64.max) := by
    rw [bs_size, bs_size]; simp [IntKind.max, IntKind.bits, IntKind.signed]; omega
  simp only [binOp, Op.stringOp, if_neg h1, bs_cat]
  rfl, fun h => by simp at h⟩
theorem y_cat {T ty : TypeId} {x y : Operand} [hx : Ev L x (.string ⟨l.toArray⟩)] [hy : Ev L y (.string ⟨m.toArray⟩)] (h : l.length + m.length ≤ 9223372036854775807) : Y P R L Γ (.binOp .add T x y ty) (.string ⟨(l ++ m).toArray⟩) :=
  yBin (P := P) (R := R) (L := L) (Γ := Γ) .add T ty x y _ _ _ (h3 := bin_cat T h)
instance (priority := high) ycCat {T ty : TypeId} {x y : Operand} [hx : Ev L x (.string ⟨l.toArray⟩)] [hy : Ev L y (.string ⟨m.toArray⟩)] : YC P R L Γ (.binOp .add T x y ty) (l.length + m.length ≤ 9223372036854775807) (fun _ => .string ⟨(l ++ m).toArray⟩) := ⟨fun h => y_cat h⟩
theorem bs_get (l : List UInt8) (i : Nat) (h : i < l.length) : (⟨l.toArray⟩ : ByteArray)[i]? = some l[i] := by
  rw [ByteArray.getElem?_lt' _ _ (by rw [bs_size]; exact h)]
  rfl
theorem y_at {T : TypeId} {x ix : Operand} {k : IntKind} {i : Int} [hx : Ev L x (.string ⟨l.toArray⟩)] [hi : Ev L ix (.int k i)] [ht : Und P T .string] (h0 : 0 ≤ i) (h : i.toNat < l.length) : Y P R L Γ (.index T x ix) (.int .u8 l[i.toNat].toNat) := ⟨fun C n a w _ _ _ _ _ kn _ => by
  simp [execOp, Instr.index, run_underlying ht.out, hx.out n a kn, hi.out n a kn, asIntOf, h0, bs_get l _ h]⟩
instance (priority := high) ysAtN {T j : Nat} {x ix : Operand} {k : IntKind} {i : Int} [hx : Ev L x (.string ⟨l.toArray⟩)] [hi : Ev L ix (.int k i)] [hj : IsCast i j] [ht : Und P T .string] : YC P R L Γ (.index T x ix) (j < l.length) (fun h => .int .u8 l[j].toNat) := ⟨fun h => by
  have e := hj.out
  subst e
  exact y_at (i := (j : Int)) (Int.natCast_nonneg j) (by simpa using h)⟩
instance (priority := 5000) ysAt {T : Nat} {x ix : Operand} {k : IntKind} {i : Int} [hx : Ev L x (.string ⟨l.toArray⟩)] [hi : Ev L ix (.int k i)] [ht : Und P T .string] : YC P R L Γ (.index T x ix) (0 ≤ i ∧ i < (l.length : Int)) (fun h => .int .u8 (l[i.toNat]'(by omega)).toNat) := ⟨fun h => y_at h.1 (by omega)⟩
theorem bs_extract (l : List UInt8) (i j : Nat) : (⟨l.toArray⟩ : ByteArray).extract i j = ⟨((l.take j).drop i).toArray⟩ := by
  apply ByteArray.ext
  simp [List.extract_eq_take_drop, List.drop_take]
theorem run_bsub {w : World} {T : TypeId} (ht : P.underlying T = some .string) (lo hi : Option Value) {lo' hi' : Nat} (h1 : lo' ≤ hi') (h2 : hi' ≤ l.length)
    (hl : (lo = none ∧ lo' = 0) ∨ ∃ k i, lo = some (.int k i) ∧ i = (lo' : Int)) (hh : (hi = none ∧ hi' = l.length) ∨ ∃ k i, hi = some (.int k i) ∧ i = (hi' : Int)) : (Instr.slice T (.string ⟨l.toArray⟩) lo hi none).run P w = .ok (.string ⟨((l.take hi').drop lo').toArray⟩) w := by
  have h4 : (lo' : Int) ≤ (hi' : Int) := by omega
  have h5 : ¬ l.length < hi' := by omega
  have h6 : ¬ hi' < lo' := by omega
  have h7 : ¬ l.length < lo' := by omega
  have hsz := bs_size l
  rcases hl with ⟨rfl, rfl⟩ | ⟨k, i, rfl, rfl⟩ <;> rcases hh with ⟨rfl, rfl⟩ | ⟨k', i', rfl, rfl⟩ <;>
    simp [Instr.slice, Instr.sliceBounds, Instr.sliceBound, asIntOf, run_underlying ht, hsz, h1, h2, h4, h5, h6, h7, bs_extract]
theorem y_bsubB {T : TypeId} {x lo hi : Operand} {k k' : IntKind} {i j : Int} [hx : Ev L x (.string ⟨l.toArray⟩)] [hlo : Ev L lo (.int k i)] [hhi : Ev L hi (.int k' j)] [ht : Und P T .string] (h0 : 0 ≤ i) (h1 : i ≤ j) (h2 : j ≤ l.length) :
    Y P R L Γ (.slice T x (some lo) (some hi) none) (.string ⟨((l.take j.toNat).drop i.toNat).toArray⟩) := ⟨fun C n a w _ _ _ _ _ kn _ => by
  have := run_bsub (P := P) (w := w) (l := l) ht.out (some (.int k i)) (some (.int k' j)) (lo' := i.toNat) (hi' := j.toNat) (by omega) (by omega) (.inr ⟨k, i, rfl, by omega⟩) (.inr ⟨k', j, rfl, by omega⟩)
  simp [execOp, Instr.sliceAt, run_underlying ht.out, hx.out n a kn, hlo.out n a kn, hhi.out n a kn, this]⟩
theorem y_bsubH {T : TypeId} {x hi : Operand} {k' : IntKind} {j : Int} [hx : Ev L x (.string ⟨l.toArray⟩)] [hhi : Ev L hi (.int k' j)] [ht : Und P T .string] (h1 : 0 ≤ j) (h2 : j ≤ l.length) :
    Y P R L Γ (.slice T x none (some hi) none) (.string ⟨(l.take j.toNat).toArray⟩) := ⟨fun C n a w _ _ _ _ _ kn _ => by
  have := run_bsub (P := P) (w := w) (l := l) ht.out none (some (.int k' j)) (lo' := 0) (hi' := j.toNat) (by omega) (by omega) (.inl ⟨rfl, rfl⟩) (.inr ⟨k', j, rfl, by omega⟩)
  rw [List.drop_zero] at this
  simp [execOp, Instr.sliceAt, run_underlying ht.out, hx.out n a kn, hhi.out n a kn, this]⟩
theorem y_bsubL {T : TypeId} {x lo : Operand} {k : IntKind} {i : Int} [hx : Ev L x (.string ⟨l.toArray⟩)] [hlo : Ev L lo (.int k i)] [ht : Und P T .string] (h1 : 0 ≤ i) (h2 : i ≤ l.length) :
    Y P R L Γ (.slice T x (some lo) none none) (.string ⟨(l.drop i.toNat).toArray⟩) := ⟨fun C n a w _ _ _ _ _ kn _ => by
  have := run_bsub (P := P) (w := w) (l := l) ht.out (some (.int k i)) none (lo' := i.toNat) (hi' := l.length) (by omega) (Nat.le_refl _) (.inr ⟨k, i, rfl, by omega⟩) (.inl ⟨rfl, rfl⟩)
  rw [List.take_length] at this
  simp [execOp, Instr.sliceAt, run_underlying ht.out, hx.out n a kn, hlo.out n a kn, this]⟩
instance (priority := high) ysSubB {T : TypeId} {x lo hi : Operand} {k k' : IntKind} {i j : Int} [hx : Ev L x (.string ⟨l.toArray⟩)] [hlo : Ev L lo (.int k i)] [hhi : Ev L hi (.int k' j)] [ht : Und P T .string] :
    YC P R L Γ (.slice T x (some lo) (some hi) none) (0 ≤ i ∧ i ≤ j ∧ j ≤ (l.length : Int)) (fun _ => .string ⟨((l.take j.toNat).drop i.toNat).toArray⟩) := ⟨fun h => y_bsubB h.1 h.2.1 h.2.2⟩
instance (priority := high) ysSubH {T : TypeId} {x hi : Operand} {k' : IntKind} {j : Int} [hx : Ev L x (.string ⟨l.toArray⟩)] [hhi : Ev L hi (.int k' j)] [ht : Und P T .string] :
    YC P R L Γ (.slice T x none (some hi) none) (0 ≤ j ∧ j ≤ (l.length : Int)) (fun _ => .string ⟨(l.take j.toNat).toArray⟩) := ⟨fun h => y_bsubH h.1 h.2⟩
instance (priority := high) ysSubL {T : TypeId} {x lo : Operand} {k : IntKind} {i : Int} [hx : Ev L x (.string ⟨l.toArray⟩)] [hlo : Ev L lo (.int k i)] [ht : Und P T .string] :
    YC P R L Γ (.slice T x (some lo) none none) (0 ≤ i ∧ i ≤ (l.length : Int)) (fun _ => .string ⟨(l.drop i.toNat).toArray⟩) := ⟨fun h => y_bsubL h.1 h.2⟩
/-! ### an interface beside nil -/
theorem run_eqNN {ms : _} {t : TypeId} {w : World} (d : Nat) (ht : P.underlying t = some (.interface ms)) : (Op.equalIn (d + 1) t .nilIface .nilIface).run P w = .ok true w := by
  simp [Op.equalIn, run_underlying ht]
theorem run_eqIN {ms : _} {t : TypeId} {w : World} (d : Nat) (e : TypeId) (v : Value) (ht : P.underlying t = some (.interface ms)) : (Op.equalIn (d + 1) t (.iface e v) .nilIface).run P w = .ok false w := by
  simp [Op.equalIn, run_underlying ht]
theorem run_eqN {ms : _} {t : TypeId} {w : World} (ht : P.underlying t = some (.interface ms)) : (Op.equal t .nilIface .nilIface).run P w = .ok true w := run_eqNN 9999 ht
theorem run_eqI {ms : _} {t : TypeId} {w : World} (e : TypeId) (v : Value) (ht : P.underlying t = some (.interface ms)) : (Op.equal t (.iface e v) .nilIface).run P w = .ok false w := run_eqIN 9999 e v ht
theorem guardN (op : BinOp) (t : TypeId) (x : Operand) (c : Value) (w : World) : (eqGuard op t x (.const c) .nilIface .nilIface).run P w = .ok () w := by rw [eqGuard_nil_constR]; rfl
theorem guardI (op : BinOp) (t e : TypeId) (v : Value) (x y : Operand) (w : World) : (eqGuard op t x y (.iface e v) .nilIface).run P w = .ok () w := by unfold eqGuard; cases op <;> rfl
theorem eval_const (a : Act) (v : Value) : a.eval (.const v) = v := rfl
class IsIfc (P : Program) (t : TypeId) : Prop where
  out : ∃ ms, P.underlying t = some (.interface ms)
instance (priority := high) yNeNilN {t ty : TypeId} {x : Operand} [hx : Ev L x .nilIface] [ht : IsIfc P t] : Y P R L Γ (.binOp .neq t x (.const .nilIface) ty) (.bool false) := ⟨fun C n a w _ _ _ _ _ kn i => by
  obtain ⟨ms, hi⟩ := ht.out
  simp [execOp, hx.out n a kn, eval_const, guardN, binOp, run_eqN hi]⟩
instance (priority := high) yNeNilI {t ty d : TypeId} {v : Value} {x : Operand} [hx : Ev L x (.iface d v)] [ht : IsIfc P t] : Y P R L Γ (.binOp .neq t x (.const .nilIface) ty) (.bool true) := ⟨fun C n a w _ _ _ _ _ kn i => by
  obtain ⟨ms, hi⟩ := ht.out
  simp [execOp, hx.out n a kn, eval_const, guardI, binOp, run_eqI d v hi]⟩
instance (priority := high) yEqNilN {t ty : TypeId} {x : Operand} [hx : Ev L x .nilIface] [ht : IsIfc P t] : Y P R L Γ (.binOp .eql t x (.const .nilIface) ty) (.bool true) := ⟨fun C n a w _ _ _ _ _ kn i => by
  obtain ⟨ms, hi⟩ := ht.out
  simp [execOp, hx.out n a kn, eval_const, guardN, binOp, run_eqN hi]⟩
instance (priority := high) yEqNilI {t ty d : TypeId} {v : Value} {x : Operand} [hx : Ev L x (.iface d v)] [ht : IsIfc P t] : Y P R L Γ (.binOp .eql t x (.const .nilIface) ty) (.bool false) := ⟨fun C n a w _ _ _ _ _ kn i => by
  obtain ⟨ms, hi⟩ := ht.out
  simp [execOp, hx.out n a kn, eval_const, guardI, binOp, run_eqI d v hi]⟩
end
end Go.SX

/- Symbolic execution: min of two numbers. Of whatever program. -/
namespace Go.SX
set_option linter.unusedSimpArgs false
set_option linter.unusedVariables false
open Go Go.RowKit
section
variable {P : Program} {R : List Hp} {L : Env} {Γ : List Hp}
instance yMin2 {x y : Operand} {T T' : TypeId} {k j : IntKind} {a b : Int} [hx : Ev L x (.int k a)] [hy : Ev L y (.int j b)] : Y P R L Γ (.call ⟨.builtin .min, #[x, y], #[T, T']⟩) (.int k (if b < a then b else a)) := ⟨fun C n ac w _ _ _ _ _ kn i => by
  simp [execOp, resolve, invoke, builtin, hx.out n ac kn, hy.out n ac kn, Builtin.min_, Builtin.min2]⟩
end
end Go.SX

/- Symbolic execution: a range over a function whose iterator may change what it has captured. -/
namespace Go.SX
set_option linter.unusedSimpArgs false
set_option linter.unusedVariables false
open Go Go.RowKit

/-! ### a region's operations under other fences, and with deferred calls behind -/
def nd : Op → Bool
  | .defer _ => false
  | _ => true
theorem nd_ne {o : Op} (h : nd o = true) : ∀ c, o ≠ .defer c := by rintro c rfl; cases h
def ndA (ops : Array Oper) : Bool := ops.toList.all fun o => nd o.op
theorem ndA_get {ops : Array Oper} (h : ndA ops = true) {i : Nat} {o : Oper} (ho : ops[i]? = some o) : nd o.op = true := by
  have h2 := List.all_eq_true.1 h o
  exact h2 (by rw [← Array.getElem?_toList] at ho; exact List.mem_of_getElem? ho)
/-- a fence that lets all in -/
structure Wd (F : Fence) : Prop where
  fn : ∀ f, F.fn f
  depth : F.depth = none
  calls : ∀ {P : Program} {f : FuncId} {args : Array Value} {w : World} {X : Ending → World → Prop} {m : Nat}, Calls P f args w X → CallsIn F m P f args w X
  rows : ∀ {P : Program} {r : String} {args : Array Value} {w : World} {X : Value → World → Prop} {m : Nat}, Rows P r args w X → RowsIn F m P r args w X
theorem wd_wide : Wd Fence.wide := ⟨fun _ => trivial, rfl, fun h => callsIn_wide.2 h, fun h c cs _ => let ⟨v, w', r, s⟩ := h c cs; ⟨v, w', r, stepsIn_wide.2 s⟩⟩
theorem wd_round (l : Nat) : Wd (Fence.wide.inRound l) := ⟨fun _ => trivial, rfl, fun h => (show CallsIn Fence.wide _ _ _ _ _ _ from callsIn_wide.2 h), fun h c cs _ => let ⟨v, w', r, s⟩ := h c cs; ⟨v, w', r, stepsIn_wide.2 s⟩⟩
section
variable {P : Program} {ops : Array Oper} {Q : Exit → Act → World → Prop} {F : Fence} {m : Nat}
theorem upon_in (hF : Wd F) {o : Oper} {a : Act} {next next' : Act → World → Prop} (hn : ∀ a w, next a w → next' a w) (r : Result Next) (h : o.upon P a next Q r) : o.uponIn F m P a next' Q r := by
  have hd : ∀ {p : Prop}, (F.depth.isSome = true → p) := fun h => by rw [hF.depth] at h; cases h
  cases r with
  | ok v w =>
    cases v with
    | value v => exact hn _ _ h
    | skip => exact hn _ _ h
    | defer d => exact hn _ _ h
    | enter f args =>
      refine ⟨hd, hF.calls (Calls.mono h fun e w' he => ?_)⟩
      cases e with
      | returned v => exact hn _ _ he
      | panicked c => exact he
      | outgrown => exact he
    | row r args => exact ⟨hd, hF.rows (Rows.mono h fun v w' he => hn _ _ he)⟩
    | _ => exact h.elim
  | halt e w =>
    cases e with
    | panic v => exact h
    | _ => exact h.elim
theorem ops_in (hF : Wd F) (hQ : ¬ LetsOut Q) (hnd : ndA ops = true) : ∀ (l : List Nat) (a : Act) (w : World), wpOps P ops Q l a w → wpOpsIn F m P ops Q l a w
  | [], _, _, h => h
  | i :: l, a, w, h => by
    simp only [wpOps] at h
    simp only [wpOpsIn]
    cases ho : ops[i]? with
    | none => rw [ho] at h; exact ops_in hF hQ hnd l a w h
    | some o =>
      rw [ho] at h
      simp only at h ⊢
      split
      · rename_i hw
        rw [if_pos hw] at h
        rcases h with h | h
        · refine ⟨fun f _ => hF.fn f, ?_⟩
          have e : o.semAt F.round a.eval = execOp a.eval o := Oper.semAt_eq _ _ _ (nd_ne (ndA_get hnd ho))
          rw [e]
          exact upon_in hF (ops_in hF hQ hnd l) _ h
        · exact absurd h.2 hQ
      · rename_i hw
        rw [if_neg hw] at h
        exact ⟨fun f _ => hF.fn f, ops_in hF hQ hnd l _ w h⟩
/-- .. the first of them alone, what follows by other rules -/
theorem list_pre (hF : Wd F) {all : Array Oper} {K : Act → World → Prop} {rest : List Oper} (hQ : ¬ LetsOut Q) (hK : ∀ a w, K a w → wpListIn F m P all Q rest a w) : ∀ (pre : List Oper) (hnd : pre.all (fun o => nd o.op) = true) (a : Act) (w : World),
    wpList P all (Exit.then K Q) pre a w → wpListIn F m P all Q (pre ++ rest) a w
  | [], _, _, _, h => hK _ _ h
  | o :: l, hnd, a, w, h => by
    rw [List.all_cons, Bool.and_eq_true] at hnd
    simp only [wpList] at h
    simp only [List.cons_append, wpListIn]
    split
    · rename_i hw
      rw [if_pos hw] at h
      rcases h with h | h
      · refine ⟨fun f _ => hF.fn f, ?_⟩
        have e : o.semAt F.round a.eval = execOp a.eval o := Oper.semAt_eq _ _ _ (nd_ne hnd.1)
        rw [e]
        have h2 : o.upon P a (wpList P all (Exit.then K Q) l) Q ((execOp a.eval o).run P w) := by
          simp only [Oper.wp] at h
          generalize (execOp a.eval o).run P w = r at h
          cases r with
          | ok v w => cases v <;> exact h
          | halt e w => cases e <;> exact h
        exact upon_in hF (list_pre hF hQ hK l hnd.2) _ h2
      · exact absurd h.2 hQ
    · rename_i hw
      rw [if_neg hw] at h
      exact ⟨fun f _ => hF.fn f, list_pre hF hQ hK l hnd.2 _ w h⟩
/-- the same with deferred calls ahead of which these stand -/
def Qd (ds : List Deferred) (Q : Exit → Act → World → Prop) : Exit → Act → World → Prop := fun e a w => Q e { a with defers := a.defers ++ ds } w
theorem ops_mk {ds : List Deferred} : ∀ (l : List Nat) (a : Act) (w : World), wpOps P ops (Qd ds Q) l a w → wpOps P ops Q l { a with defers := a.defers ++ ds } w
  | [], _, _, h => h
  | i :: l, a, w, h => by
    simp only [wpOps] at h ⊢
    cases ho : ops[i]? with
    | none => rw [ho] at h; exact ops_mk l a w h
    | some o =>
      rw [ho] at h
      simp only at h ⊢
      have hput : ∀ (x : Act) (d : Option Tmp) (v : Value), ({ x with defers := x.defers ++ ds } : Act).put d v = { x.put d v with defers := (x.put d v).defers ++ ds } := fun x d v => by cases d <;> rfl
      split
      · rename_i hw
        rw [if_pos hw] at h
        rcases h with h | h
        · refine .inl ?_
          simp only [Oper.wp] at h ⊢
          have he : ({ a with defers := a.defers ++ ds } : Act).eval = a.eval := rfl
          rw [he]
          generalize (execOp a.eval o).run P w = r at h
          cases r with
          | ok v w =>
            cases v with
            | value v => simp only [Oper.upon] at h ⊢; rw [hput]; exact ops_mk l _ _ h
            | skip => simp only [Oper.upon] at h ⊢; rw [hput]; exact ops_mk l _ _ h
            | defer d => 
              simp only [Oper.upon] at h ⊢
              have e2 : ({ a with defers := d :: (a.defers ++ ds) } : Act) = { ({ a with defers := d :: a.defers } : Act) with defers := (d :: a.defers) ++ ds } := rfl
              have := hput { a with defers := d :: a.defers } o.dst undef
              simp only [List.cons_append] at this
              rw [this]; exact ops_mk l _ _ h
            | enter f args =>
              refine Calls.mono h fun e w' he => ?_
              cases e with
              | returned v => simp only at he ⊢; rw [hput]; exact ops_mk l _ _ he
              | panicked c => exact he
              | outgrown => obtain ⟨a, w, h⟩ := he; exact ⟨_, w, h⟩
            | row r args => exact Rows.mono h fun v w' he => by rw [hput]; exact ops_mk l _ _ he
            | _ => exact h.elim
          | halt e w =>
            cases e with
            | panic v => exact h
            | _ => exact h.elim
        · obtain ⟨h1, a, w, h⟩ := h
          exact .inr ⟨h1, _, w, h⟩
      · rename_i hw
        rw [if_neg hw] at h
        have : wpOps P ops Q l ({ a with defers := a.defers ++ ds }.put o.dst undef) w := by rw [hput]; exact ops_mk l _ _ h
        exact this
/-- a region, in whatever order it is gone through -/
def KR (P : Program) (ops : Array Oper) (draw : Bool) (Q : Exit → Act → World → Prop) : Act → World → Prop := fun a w =>
  if draw then ∀ t, wpOps P ops Q (Region.schedule (P.follows .mixedOrders) ops t) a w.drew else wpOps P ops Q (List.range ops.size) a w
theorem KR.inn (hF : Wd F) (hQ : ¬ LetsOut Q) {draw : Bool} (hnd : ndA ops = true) {id : Nat} {a : Act} {w : World} (h : KR P ops draw Q a w) : (Code.region id ops draw).wpIn F m P Q a w := by
  cases draw with
  | true => exact wpIn_region_draw fun t => ops_in hF hQ hnd _ a _ (h t)
  | false => exact wpIn_region (ops_in hF hQ hnd _ a w h)
theorem KR.mk {ds : List Deferred} {draw : Bool} {id : Nat} {a : Act} {w : World} (h : KR P ops draw (Qd ds Q) a w) : (Code.region id ops draw).wp P Q { a with defers := a.defers ++ ds } w := by
  cases draw with
  | true => exact wp_region_draw fun t => ops_mk _ a _ (h t)
  | false => exact wp_region (ops_mk _ a w h)
end
section
variable {P : Program} {C : Cx} {R : List Hp} {n : Nat} {all : Array Oper} {Q : Exit → Act → World → Prop} {L : Env} {Γ : List Hp}
theorem v_kr {ops : List Oper} (h : VK C R n L Γ (KL P ops.toArray Q ops)) : VK C R n L Γ (KR P ops.toArray false Q) := VK.mk fun a w k i => by
  have e := wpOps_eq_wpList (P := P) (Q := Q) (ops := ops.toArray) ops 0 (fun j => by simp)
  have e2 : List.range ops.toArray.size = List.range' 0 ops.length := by simp [List.range_eq_range']
  show wpOps P ops.toArray Q (List.range ops.toArray.size) a w
  rw [e2, e]
  have := h.out a w k i
  unfold KL at this
  exact this
theorem v_krD (kl : Nat) (pl : Pl) (Rs Rt : List Hp) {ops : Array Oper} [hm : Mixed P] [hs : Sub Rs R Γ] [hst : Sub Rt R Γ] (hok : (Region.noSelect ops && Pl.ok ops kl ops.size (Array.replicate ops.size false) pl) = true)
    (h : VK C R n L Γ (KA P ops Q Rs kl Rt true pl)) : VK C R n L Γ (KR P ops true Q) := VK.mk fun a w k i => by
  show ∀ t, wpOps P ops Q (Region.schedule (P.follows .mixedOrders) ops t) a w.drew
  intro t
  simp only [Region.schedule, hm.out, Bool.true_or, if_true]
  refine wpAny_sound ops.size t _ a _ (wpAny_of_I (S := Std Rs kl Rt) _ _ _ _ ?_)
  rw [Bool.and_eq_true] at hok
  have h2 := h.out a _ k (i.drew)
  unfold KA at h2
  refine h2 hok.1 _ _ hok.2 (fun k o _ hl => ?_) (by simp) (fun h => by cases h) ⟨fun x hx => (hs.out x hx).elim (i.ro x) (i.own x), fun _ x hx => (hst.out x hx).elim (i.ro x) (i.own x)⟩
  exfalso
  rcases Nat.lt_or_ge k ops.size with h' | h'
  · simp [h'] at hl
  · simp [h'] at hl
theorem v_krD0 (pl : Pl) {X : List Hp} {ops : Array Oper} [hm : Mixed P] [hx : App R Γ X] (hok : (Region.noSelect ops && Pl.ok ops 1000000 ops.size (Array.replicate ops.size false) pl) = true)
    (h : VK C R n L Γ (KA P ops Q X 1000000 [] true pl)) : VK C R n L Γ (KR P ops true Q) := v_krD (hs := hx.sub) 1000000 pl X [] hok h
theorem v_krDK (kl : Nat) (pl : Pl) {X : List Hp} {ops : Array Oper} [hm : Mixed P] [hx : App R Γ X] [hs : Sub R R Γ] (hok : (Region.noSelect ops && Pl.ok ops kl ops.size (Array.replicate ops.size false) pl) = true)
    (h : VK C R n L Γ (KA P ops Q R kl X true pl)) : VK C R n L Γ (KR P ops true Q) := v_krD (hst := hx.sub) kl pl R X hok h
instance yXor {t : TypeId} {x : Operand} {i : Int} [h : Ev L x (.int .u64 i)] : Y P R L Γ (.unOp .xor t x) (.int .u64 (bits .xor .u64 18446744073709551615 i)) := ⟨fun C n a w _ _ _ _ _ k _ => by
  simp only [execOp, h.out n a k]; rfl⟩
/-- code in a round -/
def KI (l : Nat) (P : Program) (c : Code) (Q : Exit → Act → World → Prop) : Act → World → Prop := c.wpIn (Fence.wide.inRound l) 0 P Q
variable {l : Nat}
class NoOut (Q : Exit → Act → World → Prop) : Prop where
  out : ¬ LetsOut Q
instance noOutBody {fn : Func} {Post : Value → List Hp → Prop} {J : List Hp → World → Prop} : NoOut (bodyPost P fn fun e w' => ∃ v Γ', e = .returned v ∧ Post v Γ' ∧ J Γ' w') := ⟨fun ⟨a, w, v, Γ', h, _⟩ => by cases h⟩
instance noOutThen {K : Act → World → Prop} [h : NoOut Q] : NoOut (Exit.then K Q) := ⟨fun ⟨a, w, x⟩ => h.out ⟨a, w, x⟩⟩
instance noOutBlock {id : Nat} [h : NoOut Q] : NoOut (Exit.inBlock id Q) := ⟨fun ⟨a, w, x⟩ => h.out ⟨a, w, x⟩⟩
theorem vi_seq {x y : Code} (h : VK C R n L Γ (KI l P x (Exit.then (KI l P y Q) Q))) : VK C R n L Γ (KI l P (.seq x y) Q) := VK.mk fun a w k i => wpIn_seq (h.out a w k i)
theorem v_thenK {K : Act → World → Prop} (h : VK C R n L Γ K) : VK C R n L Γ (KE (Exit.then K Q) .normal) := VK.mk fun a w k i => KE.mk (h.out a w k i)
theorem vi_block {id : Nat} {c : Code} (h : VK C R n L Γ (KI l P c (Exit.inBlock id Q))) : VK C R n L Γ (KI l P (.block id c) Q) := VK.mk fun a w k i => wpIn_block (h.out a w k i)
theorem vi_exit {id : Nat} (h : VK C R n L Γ (KE Q (.exit id))) : VK C R n L Γ (KI l P (.exit id) Q) := VK.mk fun a w k i => wpIn_exit (h.out a w k i).out
theorem vi_skip (h : VK C R n L Γ (KE Q .normal)) : VK C R n L Γ (KI l P .skip Q) := VK.mk fun a w k i => wpIn_skip (h.out a w k i).out
theorem vi_region {id : Nat} {ops : Array Oper} {draw : Bool} [hQ : NoOut Q] (hnd : ndA ops = true) (h : VK C R n L Γ (KR P ops draw Q)) : VK C R n L Γ (KI l P (.region id ops draw) Q) :=
  VK.mk fun a w k i => KR.inn (wd_round l) hQ.out hnd (h.out a w k i)
theorem vi_condD {t : Nat} {p : Prop} [Decidable p] {x y : Code} [hl : Lk L t (.bool (decide p))] (h1 : p → VK C R n L Γ (KI l P x Q)) (h2 : ¬ p → VK C R n L Γ (KI l P y Q)) :
    VK C R n L Γ (KI l P (.cond (.tmp t) x y) Q) := VK.mk fun a w k i => by
  have e := (evTmp L t _).out n a k
  by_cases hp : p
  · exact wpIn_cond (t := true) (by rw [e]; simp [hp]) ((h1 hp).out a w k i)
  · exact wpIn_cond (t := false) (by rw [e]; simp [hp]) ((h2 hp).out a w k i)
variable {ds : List Deferred}
instance noOutQd [h : NoOut Q] : NoOut (Qd ds Q) := ⟨fun ⟨a, w, x⟩ => h.out ⟨_, w, x⟩⟩
theorem vd_blockX {id : Nat} (h : VK C R n L Γ (KE (Qd ds Q) .normal)) : VK C R n L Γ (KE (Qd ds (Exit.inBlock id Q)) (.exit id)) := VK.mk fun a w k i => KE.mk (by
  have := (h.out a w k i).out
  simp only [Qd, Exit.inBlock, if_true] at this ⊢; exact this)
theorem vd_blockN {id : Nat} (h : VK C R n L Γ (KE (Qd ds Q) .normal)) : VK C R n L Γ (KE (Qd ds (Exit.inBlock id Q)) .normal) := VK.mk fun a w k i => KE.mk ((h.out a w k i).out)
/-- the rest of the code, with deferred calls behind -/
def KCd (ds : List Deferred) (P : Program) (c : Code) (Q : Exit → Act → World → Prop) : Act → World → Prop := fun a w => c.wp P Q { a with defers := a.defers ++ ds } w
theorem vd_then {y : Code} (h : VK C R n L Γ (KCd ds P y Q)) : VK C R n L Γ (KE (Qd ds (Exit.then (y.wp P Q) Q)) .normal) := VK.mk fun a w k i => KE.mk (h.out a w k i)
theorem vd_seqR {id : Nat} {ops : Array Oper} {draw : Bool} {y : Code} (h : VK C R n L Γ (KR P ops draw (Exit.then (KCd ds P y Q) (Qd ds Q)))) : VK C R n L Γ (KCd ds P (.seq (.region id ops draw) y) Q) := VK.mk fun a w k i =>
  wp_seq (KR.mk (ds := ds) (Q := Exit.then (y.wp P Q) Q) (by
    have := h.out a w k i
    have e : (Exit.then (KCd ds P y Q) (Qd ds Q)) = Qd ds (Exit.then (y.wp P Q) Q) := by
      funext e a w; cases e <;> rfl
    rw [← e]; exact this))
theorem vd_ret (h : VK C R n L Γ (KE (Qd ds Q) .ret)) : VK C R n L Γ (KCd ds P .ret Q) := VK.mk fun a w k i => wp_ret (h.out a w k i).out
end
/-! ### yield, an iterator's contract, the statement -/
/-- a call of yield: its run, and what the round comes to -/
def SpecY (D : Bool) (P : Program) (l : Nat) (args : Array Value) (R Γ : List Hp) (Post : Value → List Hp → Prop) : Prop :=
  ∀ w, Inv ⟨keys Γ, w, D⟩ R Γ w → ∃ f tmps assign body, (Instr.yield l args).run P w = .ok (.round l f tmps assign body) w ∧
    RoundIn Fence.wide 0 P l f tmps assign body w (fun e w' => ∃ v Γ', e = .returned v ∧ Post v Γ' ∧ Inv ⟨keys Γ, w, D⟩ R Γ' w')
/-- an iterator with its own memory S0 gives the things of Xs, one behind the other; the rounds' memory is one segment -/
def IterC (D : Bool) (P : Program) (gf : FuncId) (lb : List Value) (Ri : List Hp) (S0 : Hp) {α : Type} (Xs : List α) (enc : α → Value) : Prop :=
  ∀ (R : List Hp), Sub Ri R [] → ∀ (l : Nat) (I J : List α → Hp → Prop) (sg : Hp), I [] sg →
    (∀ pre x suf sg, Xs = pre ++ x :: suf → I pre sg → SpecY D P l #[enc x] R [sg] (fun v Γ' => ∃ sg', Γ' = [sg'] ∧ ((v = .bool true ∧ I (pre ++ [x]) sg') ∨ (v = .bool false ∧ J (pre ++ [x]) sg')))) →
    SpecD D P gf (.func (.yield l) #[] #[] :: lb).toArray R [S0, sg] (fun _ Γ' => ∃ S' sg', Γ' = [S', sg'] ∧ (I Xs sg' ∨ ∃ pre, J pre sg'))
section
variable {P : Program} {R : List Hp} {n : Nat} {all : Array Oper} {Q : Exit → Act → World → Prop} {L : Env} {Γ : List Hp}
/-- the rest of a region's operations, yield among them -/
def KLi (P : Program) (all : Array Oper) (Q : Exit → Act → World → Prop) (rest : List Oper) : Act → World → Prop := wpListIn Fence.wide 0 P all Q rest
/-- the first k, and the rest -/
class Spl (k : Nat) (ops : List Oper) (pre rest : outParam (List Oper)) : Prop where
  out : ops = pre ++ rest
instance spl0 (l : List Oper) : Spl 0 l [] l := ⟨rfl⟩
instance splS (k : Nat) (o : Oper) (l a b : List Oper) [h : Spl k l a b] : Spl (k + 1) (o :: l) (o :: a) b := ⟨by rw [h.out]; rfl⟩
theorem v_regY {C : Cx} {id : Nat} {ops : List Oper} (k : Nat) {pre rest : List Oper} [he : Spl k ops pre rest] (hnd : pre.all (fun o => nd o.op) = true) [hQ : NoOut Q] (h : VK C R n L Γ (KL P ops.toArray (Exit.then (KLi P ops.toArray Q rest) Q) pre)) :
    VK C R n L Γ (KC P (.region id ops.toArray false) Q) := VK.mk fun a w k i => KC.mk (wpIn_wide (n := 0).1 (wpIn_region_lit (by
  have h2 := h.out a w k i
  unfold KL at h2
  have := list_pre (m := 0) wd_wide hQ.out (K := KLi P ops.toArray Q rest) (fun a w h => h) pre hnd a w h2
  rw [← he.out] at this
  exact this)))
theorem v_liL {C : Cx} {rest : List Oper} (hnd : rest.all (fun o => nd o.op) = true) [hQ : NoOut Q] (h : VK C R n L Γ (KL P all (Exit.then (KE Q .normal) Q) rest)) : VK C R n L Γ (KLi P all Q rest) := VK.mk fun a w k i => by
  have h2 := h.out a w k i
  unfold KL at h2
  have := list_pre (m := 0) (rest := []) wd_wide hQ.out (K := KE Q .normal) (fun a w h => KE.out h) rest hnd a w h2
  rw [List.append_nil] at this
  exact this
theorem v_yield {M : List Nat} {w0 : World} {D : Bool} {d l : Nat} {f : Operand} {xs : Array Operand} {ats : Array TypeId} {ty : TypeId} {pos : String} {af : Array Edge} {vs : List Value} {rest : List Oper} {Rc Γc Γr : List Hp} {Post : Value → List Hp → Prop}
    [hl : Ev L f (.func (.yield l) #[] #[])] [hx : Evs L xs.toList vs] [hd : Is (Nat.ble n d = false)] (hs : SpecY D P l vs.toArray Rc Γc Post) [hp : Pick Γ Γc Γr] (hsub : ∀ x ∈ Rc.flatten, x ∈ R.flatten)
    (h : ∀ v Γ', Post v Γ' → VK ⟨M, w0, D⟩ R n ((d, v) :: L) (Γ' ++ Γr) (KLi P all Q rest)) : VK ⟨M, w0, D⟩ R n L Γ (KLi P all Q (⟨some d, .call ⟨.value f, xs, ats⟩, ty, pos, af, none⟩ :: rest)) := VK.mk fun a w k i => by
  have hd' : d < n := lt_of_ble hd.out
  have hargs : xs.map a.eval = vs.toArray := by
    have := hx.out n a k
    apply Array.ext'
    simpa using this
  have hfv := hl.out n a k
  obtain ⟨fn, tmps, assign, body, hy, hr⟩ := hs w (i.callee hp.out (fun x hx => .inl (hsub x hx)) (apart_of i hp.out fun x hx => .inl (hsub x hx)))
  have hrun : (execOp a.eval ⟨some d, .call ⟨.value f, xs, ats⟩, ty, pos, af, none⟩).run P w = .ok (.round l fn tmps assign body) w := by
    simp [execOp, resolve, Deferred.ofValue, invoke, hargs, hfv]
    exact hy
  show wpListIn Fence.wide 0 P all Q _ a w
  simp only [wpListIn, Region.wanted, if_true]
  refine ⟨fun _ _ => trivial, ?_⟩
  rw [Oper.semAt_eq _ _ _ (by intro c hc; cases hc), hrun]
  refine ⟨fun h => (by cases h), hr.mono ?_⟩
  rintro e w' ⟨v, Γ', rfl, hP, j⟩
  exact (h v Γ' hP).out _ _ (k.put hd') (i.back hp.out j)
end
section
variable {P : Program} {R : List Hp} {n : Nat} {Q : Exit → Act → World → Prop} {L : Env} {Γ Γr : List Hp}
theorem Inv.hd {C : Cx} {w : World} {b : Nat} {o : Obj} (i : Inv C R ([(b, o)] :: Γ) w) : w.heap[b]? = some o := i.own (b, o) (by simp)
theorem pm1 {β : Type} (x y : β) (S A B : List β) : (S ++ x :: y :: A ++ B).Perm (x :: y :: (A ++ (S ++ B))) := by
  classical
  rw [List.perm_iff_count]; intro z
  simp only [List.count_append, List.count_cons]; omega
theorem pm2 {β : Type} (x y : β) (S A B : List β) : (x :: y :: (A ++ (S ++ B))).Perm ((y :: (A ++ B)) ++ (x :: S)) := by
  classical
  rw [List.perm_iff_count]; intro z
  simp only [List.count_append, List.count_cons]; omega
theorem pm3 {β : Type} (x y : β) (A : List β) : (x :: y :: A).Perm (A ++ [x, y]) := List.perm_append_comm (l₁ := [x, y])
theorem Inv.put {C : Cx} {w : World} {b : Nat} {o : Obj} (o' : Obj) (i : Inv C R ([(b, o)] :: Γ) w) : Inv C R ([(b, o')] :: Γ) (w.putObj b o') :=
  i.upd (updHere Γ b o) (World.putObj_heap_same (lt_of_own (x := (b, o)) (i.own (b, o) (by simp)))) (fun k hk => World.putObj_heap_other hk) (by simp) rfl rfl rfl rfl
theorem Inv.part {C : Cx} {w : World} (i : Inv C R Γ w) {Γc Γd : List Hp} (hp : Γ.flatten.Perm (Γc.flatten ++ Γd.flatten)) : Inv ⟨keys Γc, w, C.D⟩ R Γc w := i.callee hp (fun x hx => .inl hx) (fun b hb => i.apart b (by
  obtain ⟨x, hx, rfl⟩ := List.mem_map.1 hb
  exact List.mem_map.2 ⟨x, hp.mem_iff.2 (List.mem_append_left _ hx), rfl⟩))
variable {α G : Type}
/-- how a round's body is left: off its end, or by the exit id0 -/
def RPost (C : Cx) (R : List Hp) (mems : G → List Hp) (ok okx : G → Prop) (id0 : Nat) : Exit → Act → World → Prop
  | .normal, _, w => ∃ g, ok g ∧ Inv C R (mems g) w
  | .exit id, _, w => id = id0 ∧ ∃ g, okx g ∧ Inv C R (mems g) w
  | _, _, _ => False
/-- how the assignment to the left sides is left -/
def APost (C : Cx) (R : List Hp) (n : Nat) (Γ : List Hp) (L : Env) : Exit → Act → World → Prop := fun e a w => e = .normal ∧ Kn n L a ∧ Inv C R Γ w
instance noOutR {C : Cx} {mems : G → List Hp} {ok okx : G → Prop} {id0 : Nat} : NoOut (RPost C R mems ok okx id0) := ⟨fun ⟨a, w, x⟩ => x⟩
instance noOutA {C : Cx} : NoOut (APost C R n Γ L) := ⟨fun ⟨a, w, x⟩ => by cases x.1⟩
instance qpR {C : Cx} {mems : G → List Hp} {ok okx : G → Prop} {id0 : Nat} (d : Nat) : QP (RPost C R mems ok okx id0) d := ⟨fun c a w v h => h⟩
instance qpD {ds : List Deferred} (d : Nat) [h : QP Q d] : QP (Qd ds Q) d := ⟨fun c a w v x => h.out c { a with defers := a.defers ++ ds } w v x⟩
theorem v_apost {C : Cx} : VK C R n L Γ (KE (APost C R n Γ L) .normal) := VK.mk fun a w k i => KE.mk ⟨rfl, k, i⟩
theorem v_round {C : Cx} {mems : G → List Hp} {ok okx : G → Prop} {id0 : Nat} {Γd : List Hp} (g : G) (h : ok g) (hp : Pick Γ (mems g) Γd) : VK C R n L Γ (KE (RPost C R mems ok okx id0) .normal) := VK.mk fun a w k i => KE.mk ⟨g, h, i.take hp.out⟩
theorem v_roundX {C : Cx} {mems : G → List Hp} {ok okx : G → Prop} {id0 : Nat} {Γd : List Hp} (g : G) (h : okx g) (hp : Pick Γ (mems g) Γd) : VK C R n L Γ (KE (RPost C R mems ok okx id0) (.exit id0)) := VK.mk fun a w k i => KE.mk ⟨rfl, g, h, i.take hp.out⟩
/-- the statement 'for x := range g { body }' whose body is left off its end or by the exit id0 -/
theorem v_range {M : List Nat} {w0 : World} {D : Bool} {g : Operand} {p aid : Nat} {aops : List Oper} {body : Code} {gf : FuncId} {lb : List Value} {Ri : List Hp} {S0 : Hp} {Xs : List α} {enc : α → Value}
    [hg : Ev L g (.func (.func gf) #[] lb.toArray)] [hfn : Fn1 P gf] [hpn : Is (Nat.ble n p = false)] [hri : Sub Ri R []] (it : IterC D P gf lb Ri S0 Xs enc) (mems : G → List Hp) (ok okx : List α → G → Prop) (g0 : G) (id0 : Nat) (L1 : α → Env)
    (hp : Pick Γ (S0 :: mems g0) Γr) (h0 : ok [] g0) (hnd : ndA aops.toArray = true)
    (hassign : ∀ x C Γ, VK C R n ((p, enc x) :: L) Γ (KR P aops.toArray false (APost C R n Γ (L1 x))))
    (hbody : ∀ pre x suf g l w1, Xs = pre ++ x :: suf → ok pre g → VK ⟨keys (mems g), w1, D⟩ R n (L1 x) (mems g) (KI l P body (RPost ⟨keys (mems g), w1, D⟩ R mems (ok (pre ++ [x])) (okx (pre ++ [x])) id0)))
    (hdone : ∀ g dl, ok Xs g → VK ⟨M, w0, D⟩ R n L ([(dl, .deferred (some []))] :: (mems g ++ Γr)) (KE (Qd [{ target := .collected dl, args := #[] }] Q) .normal))
    (hstop : ∀ pre g dl, okx pre g → VK ⟨M, w0, D⟩ R n L ([(dl, .deferred (some []))] :: (mems g ++ Γr)) (KE (Qd [{ target := .collected dl, args := #[] }] Q) (.exit id0))) :
    VK ⟨M, w0, D⟩ R n L Γ (KC P (.rangeFunc g #[p] (.region aid aops.toArray false) body) Q) := VK.mk fun a w k i => KC.mk ((wpIn_wide (n := 0)).1 (wpIn_rangeFunc fun fn _ => by
  have hgv := hg.out n a k
  obtain ⟨rec, hrec⟩ : ∃ rec : LoopState → Option Code → Loop, rec = fun st pe => { state := st, pending := pe, fn, tmps := a.tmps, params := #[p], assign := .region aid aops.toArray false, body, defers := w.heap.size } := ⟨_, rfl⟩
  obtain ⟨W1, hW1⟩ : ∃ W1, (w.alloc (.deferred (some []))).alloc (.loop (rec .ready none)) = W1 := ⟨_, rfl⟩
  obtain ⟨l, hlv⟩ : ∃ l, l = w.heap.size + 1 := ⟨_, rfl⟩
  obtain ⟨dl, hdl⟩ : ∃ dl, dl = w.heap.size := ⟨_, rfl⟩
  have i1 : Inv ⟨M, w0, D⟩ R ([(l, .loop (rec .ready none))] :: [(dl, .deferred (some []))] :: Γ) W1 := by
    have h2 := (i.new (.deferred (some []))).new (.loop (rec .ready none))
    rw [World.size_alloc] at h2
    rw [hlv, hdl, ← hW1]; exact h2
  have hdef : a.defers = [] := by
    have := k
    unfold Kn at this
    exact this.2.1
  refine ⟨l, [{ target := .collected dl, args := #[] }], W1, { target := .fn (.func gf) lb.toArray, args := #[.func (.yield l) #[] #[]] }, W1, gf, #[.func (.yield l) #[] #[]] ++ lb.toArray, W1, ?_, ?_, fun _ _ => trivial, ?_, fun h => (by cases h), ?_⟩
  · rw [← hW1, hrec, hlv, hdl]; exact run_enterLoop_outer _ _ _ _ _
  · simp only [resolve, hgv]
    simp [go_sem]
  · have e := hfn.out (#[.func (.yield l) #[] #[]] ++ lb.toArray) W1
    simp only [invoke]
    simpa [go_sem] using e
  · have eargs : #[Value.func (.yield l) #[] #[]] ++ lb.toArray = (Value.func (.yield l) #[] #[] :: lb).toArray := by simp
    rw [eargs]
    have S := it R hri l (fun pre sg => ∃ g, ok pre g ∧ sg = (l, .loop (rec .ready none)) :: (dl, .deferred (some [])) :: (mems g).flatten)
      (fun pre sg => ∃ g, okx pre g ∧ sg = (l, .loop (rec .done (some (.exit id0)))) :: (dl, .deferred (some [])) :: (mems g).flatten) _ ⟨g0, h0, rfl⟩ (by
        rintro pre x suf sg hX ⟨g, hok, rfl⟩ W iW
        have iA : Inv ⟨keys [(l, .loop (rec .ready none)) :: (dl, .deferred (some [])) :: (mems g).flatten], W, D⟩ R ([(l, .loop (rec .ready none))] :: [(dl, .deferred (some []))] :: mems g) W := iW.perm (by simp)
        have hl := iA.hd
        have hz : ((#[p].zip #[enc x]).foldl (fun tmps (t, v) => tmps.setIfInBounds t v) a.tmps) = a.tmps.setIfInBounds p (enc x) := by simp
        have hy := run_yield (P := P) (args := #[enc x]) hl (by rw [hrec]; rfl)
        refine ⟨_, _, _, _, hy, roundIn_of_wpIn (n := 0) trivial ?_⟩
        have e : ({ tmps := (((rec .ready none).params.zip #[enc x]).foldl (fun tmps (t, v) => tmps.setIfInBounds t v) (rec .ready none).tmps), defers := [] } : Act) = a.put (some p) (enc x) := by
          rw [hrec]; simp only []
          rw [hz]; simp [Act.put, hdef]
        rw [e]
        have kA : Kn n ((p, enc x) :: L) (a.put (some p) (enc x)) := k.put (lt_of_ble hpn.out)
        have hasg : (rec .ready none).assign = .region aid aops.toArray false := by rw [hrec]
        have hbd : (rec .ready none).body = body := by rw [hrec]
        rw [hasg, hbd]
        refine wpIn_mono (KR.inn (wd_round l) noOutA.out hnd ((hassign x _ _).out _ _ kA iA)) ?_
        rintro e a1 w1 ⟨rfl, k1, iB⟩
        have hl1 := iB.hd
        refine ⟨_, run_beginRound hl1 (by rw [hrec]), ?_⟩
        have iC := iB.put (.loop { rec .ready none with state := .busy })
        have iC' := (iC.part (Γc := mems g) (Γd := [[(l, .loop { rec .ready none with state := .busy })], [(dl, .deferred (some []))]]) (by
          have := pm3 (l, Obj.loop { rec .ready none with state := .busy }) (dl, Obj.deferred (some [])) (mems g).flatten
          simpa using this))
        refine wpIn_mono ((hbody pre x suf g l _ hX hok).out a1 _ k1 iC') ?_
        have hback : ∀ {g' : G} {w3 : World}, Inv ⟨keys (mems g), w1.putObj l (.loop { rec .ready none with state := .busy }), D⟩ R (mems g') w3 → Inv ⟨keys [(l, .loop (rec .ready none)) :: (dl, .deferred (some [])) :: (mems g).flatten], W, D⟩ R ([(l, .loop { rec .ready none with state := .busy })] :: [(dl, .deferred (some []))] :: mems g') w3 := fun {g'} {w3} j => by
          have := iC.back (Γc := mems g) (Γr := [[(l, .loop { rec .ready none with state := .busy })], [(dl, .deferred (some []))]]) (by
            have := pm3 (l, Obj.loop { rec .ready none with state := .busy }) (dl, Obj.deferred (some [])) (mems g).flatten
            simpa using this) j
          exact this.perm (by
            have := (pm3 (l, Obj.loop { rec .ready none with state := .busy }) (dl, Obj.deferred (some [])) (mems g').flatten).symm
            simpa using this)
        rintro e a2 w3 hq
        cases e with
        | normal =>
          obtain ⟨g', hok', j⟩ := hq
          have iE := hback j
          have hl3 := iE.hd
          refine ⟨_, _, run_endRound none hl3, .bool true, [(l, .loop (rec .ready none)) :: (dl, .deferred (some [])) :: (mems g').flatten], rfl, ⟨_, rfl, .inl ⟨rfl, g', hok', rfl⟩⟩, ?_⟩
          have iF := (iE.put (.loop (rec .ready none))).perm (Γ2 := [(l, .loop (rec .ready none)) :: (dl, .deferred (some [])) :: (mems g').flatten]) (by simp)
          rw [hrec] at iF ⊢; exact iF
        | exit id =>
          obtain ⟨rfl, g', hok', j⟩ := hq
          have iE := hback j
          have hl3 := iE.hd
          refine ⟨_, _, run_endRound (some (.exit id)) hl3, .bool false, [(l, .loop (rec .done (some (.exit id)))) :: (dl, .deferred (some [])) :: (mems g').flatten], rfl, ⟨_, rfl, .inr ⟨rfl, g', hok', rfl⟩⟩, ?_⟩
          have iF := (iE.put (.loop (rec .done (some (.exit id))))).perm (Γ2 := [(l, .loop (rec .done (some (.exit id)))) :: (dl, .deferred (some [])) :: (mems g').flatten]) (by simp)
          rw [hrec] at iF ⊢; exact iF
        | ret => exact hq.elim
        | goto t => exact hq.elim
        | panic c => exact hq.elim
        | outgrown => exact hq.elim)
    have hperm : ([(l, .loop (rec .ready none))] :: [(dl, .deferred (some []))] :: Γ).flatten.Perm ([S0, (l, .loop (rec .ready none)) :: (dl, .deferred (some [])) :: (mems g0).flatten].flatten ++ Γr.flatten) := by
      have h2 := hp.out
      simp only [List.flatten_cons, List.flatten_nil, List.append_nil, List.cons_append, List.nil_append] at h2 ⊢
      refine ((h2.cons _).cons _).trans ?_
      rw [List.append_assoc]
      refine List.Perm.trans ?_ (pm1 _ _ S0 _ _).symm
      refine List.Perm.cons _ (List.Perm.cons _ ?_)
      exact List.perm_append_comm_assoc _ _ _
    refine callsIn_wide.2 ((S W1 (i1.part hperm)).mono ?_)
    rintro e w' ⟨v, Γ', rfl, ⟨S', sg', rfl, hfin⟩, j⟩
    have i2 := i1.back hperm j
    have eds : ∀ d : Deferred, a.defers ++ [d] = [d] ++ a.defers := fun d => by rw [hdef]; rfl
    have fin : ∀ (g : G) (st : LoopState) (pe : Option Code), st ≠ .busy → Inv ⟨M, w0, D⟩ R ([S', (l, .loop (rec st pe)) :: (dl, .deferred (some [])) :: (mems g).flatten] ++ Γr) w' →
        ∃ w4, (Instr.endLoop l).run P w' = .ok pe w4 ∧ Inv ⟨M, w0, D⟩ R ([(dl, .deferred (some []))] :: (mems g ++ Γr)) w4 := fun g st pe hst i2 => by
      have i3 : Inv ⟨M, w0, D⟩ R ([(l, .loop (rec st pe))] :: [(dl, .deferred (some []))] :: (mems g ++ (S' :: Γr))) w' := i2.perm (by
        simp only [List.flatten_append, List.flatten_cons, List.flatten_nil, List.append_nil, List.cons_append, List.nil_append]
        have := pm1 (l, Obj.loop (rec st pe)) (dl, Obj.deferred (some [])) S' (mems g).flatten Γr.flatten
        simpa using this)
      have hl := i3.hd
      have hpe : (rec st pe).pending = pe := by rw [hrec]
      have hst2 : (rec st pe).state = st := by rw [hrec]
      have hrun := run_endLoop (P := P) hl (by rw [hst2]; exact hst)
      obtain ⟨ro, hro⟩ : ∃ ro, ro = Obj.loop { rec st pe with state := .exhausted } := ⟨_, rfl⟩
      have hrun : (Instr.endLoop l).run P w' = .ok (rec st pe).pending (w'.putObj l ro) := by rw [hro]; exact hrun
      rw [hpe] at hrun
      refine ⟨_, hrun, (i3.put ro).take (Γ2 := [(dl, .deferred (some []))] :: (mems g ++ Γr)) (Γd := [[(l, ro)], S']) ?_⟩
      simp only [List.flatten_append, List.flatten_cons, List.flatten_nil, List.append_nil, List.cons_append, List.nil_append]
      have := pm2 (l, ro) (dl, Obj.deferred (some [])) S' (mems g).flatten Γr.flatten
      simpa using this
    rcases hfin with ⟨g, hok, rfl⟩ | ⟨pre, g, hokx, rfl⟩
    · obtain ⟨w4, hrun, i4⟩ := fin g .ready none (by simp) i2
      refine ⟨_, _, hrun, ?_⟩
      have h4 := ((hdone g dl hok).out a _ k i4).out
      simp only [Qd] at h4
      rw [eds] at h4; exact h4
    · obtain ⟨w4, hrun, i4⟩ := fin g .done _ (by simp) i2
      refine ⟨_, _, hrun, ?_⟩
      have h4 := ((hstop pre g dl hokx).out a _ k i4).out
      simp only [Qd] at h4
      rw [eds] at h4; exact wpIn_exit h4))
end
section
variable {P : Program} {R : List Hp} {n : Nat} {Q : Exit → Act → World → Prop} {L : Env} {Γ Γr : List Hp} {α G : Type}
theorem v_range1 {M : List Nat} {w0 : World} {D : Bool} {g : Operand} {p d aid : Nat} {ty : TypeId} {sp : String} {af : Array Edge} {body : Code} {gf : FuncId} {lb : List Value} {Ri : List Hp} {S0 : Hp} {Xs : List α} {enc : α → Value}
    [hg : Ev L g (.func (.func gf) #[] lb.toArray)] [hfn : Fn1 P gf] [hpn : Is (Nat.ble n p = false)] [hdn : Is (Nat.ble n d = false)] [hri : Sub Ri R []] (it : IterC D P gf lb Ri S0 Xs enc) (mems : G → List Hp) (ok okx : List α → G → Prop) (g0 : G) (id0 : Nat)
    (hp : Pick Γ (S0 :: mems g0) Γr) (h0 : ok [] g0)
    (hbody : ∀ pre x suf g l w1, Xs = pre ++ x :: suf → ok pre g → VK ⟨keys (mems g), w1, D⟩ R n ((d, enc x) :: (p, enc x) :: L) (mems g) (KI l P body (RPost ⟨keys (mems g), w1, D⟩ R mems (ok (pre ++ [x])) (okx (pre ++ [x])) id0)))
    (hdone : ∀ g dl, ok Xs g → VK ⟨M, w0, D⟩ R n L ([(dl, .deferred (some []))] :: (mems g ++ Γr)) (KE (Qd [{ target := .collected dl, args := #[] }] Q) .normal))
    (hstop : ∀ pre g dl, okx pre g → VK ⟨M, w0, D⟩ R n L ([(dl, .deferred (some []))] :: (mems g ++ Γr)) (KE (Qd [{ target := .collected dl, args := #[] }] Q) (.exit id0))) :
    VK ⟨M, w0, D⟩ R n L Γ (KC P (.rangeFunc g #[p] (.region aid #[⟨some d, .assign (.tmp p), ty, sp, af, none⟩] false) body) Q) :=
  v_range (aops := [⟨some d, .assign (.tmp p), ty, sp, af, none⟩]) it mems ok okx g0 id0 (fun x => (d, enc x) :: (p, enc x) :: L) hp h0 rfl (fun x C Γ => v_kr (v_val (v_done v_apost))) hbody hdone hstop
end
/-! ### a function that holds such a statement -/
def PostM (P : Program) (fn : Func) (X : Ending → World → Prop) : Exit → Act → World → Prop
  | .normal, a, w | .ret, a, w => LeavesInM Fence.wide 0 P fn a.tmps X a.defers .returning w
  | _, _, _ => False
section
variable {P : Program} {R : List Hp} {n : Nat} {Q : Exit → Act → World → Prop} {L : Env} {Γ : List Hp} {C : Cx} {fn : Func} {X : Ending → World → Prop}
instance noOutM : NoOut (PostM P fn X) := ⟨fun ⟨a, w, x⟩ => x⟩
instance qpM (d : Nat) : QP (PostM P fn X) d := ⟨fun c a w v h => h⟩
theorem calls_of_wpM {f : FuncId} {c : Code} {args : Array Value} {w : World} (hf : P.funcs[f]? = some fn) (hb : fn.body = some c)
    (h : c.wp P (PostM P fn X) { tmps := args ++ Array.replicate (fn.ntmps - args.size) undef, defers := [] } w) : Calls P f args w X :=
  callsIn_wide (n := 0).1 (callsIn_of_wp_marks hf hb trivial (wpIn_mono (wpIn_wide.2 h) fun e a w q => by
    cases e with
    | normal => exact q
    | ret => exact q
    | exit id => exact q.elim
    | goto t => exact q.elim
    | panic c => exact q.elim
    | outgrown => exact q.elim) rfl)
theorem v_toM (h : VK C R n L Γ (KE (bodyPost P fn X) .ret)) : VK C R n L Γ (KE (PostM P fn X) .ret) := VK.mk fun a w k i => KE.mk (by
  obtain ⟨hd, v, hr, hX⟩ := (h.out a w k i).out
  show LeavesInM Fence.wide 0 P fn a.tmps X a.defers .returning w
  rw [hd]
  exact ⟨v, hr, hX⟩)
theorem v_mark {dl : Nat} (h : VK C R n L ([(dl, .deferred none)] :: Γ) (KE (bodyPost P fn X) .ret)) : VK C R n L ([(dl, .deferred (some []))] :: Γ) (KE (Qd [{ target := .collected dl, args := #[] }] (PostM P fn X)) .ret) := VK.mk fun a w k i => KE.mk (by
  obtain ⟨hd, v, hr, hX⟩ := (h.out a _ k (i.put (.deferred none))).out
  show LeavesInM Fence.wide 0 P fn a.tmps X (a.defers ++ [{ target := .collected dl, args := #[] }]) .returning w
  rw [hd]
  exact ⟨by simp, .inl ⟨dl, _, rfl, run_takeDeferred i.hd, ⟨v, hr, hX⟩⟩⟩)
theorem Kn.of_begin {args : List Value} {L : Env} {m k : Nat} (hL : begin0 args = L) (hm : k = m) (hle : Nat.ble args.length m = true) : Kn m L ({ tmps := args.toArray ++ Array.replicate (k - args.toArray.size) undef, defers := [] } : Act) := by
  unfold Kn
  refine ⟨?_, rfl, fun t v ht => ?_⟩
  · have := Nat.le_of_ble_eq_true hle
    simp; omega
  · subst hL
    have : args[t]? = some v := by
      have key : ∀ (l : List Value) (k : Nat), ((l.zipIdx k).map fun x => (x.2, x.1)).lookup t = some v → k ≤ t ∧ l[t - k]? = some v := by
        intro l
        induction l with
        | nil => intro k h; simp at h
        | cons y l ih =>
          intro k h
          simp only [List.zipIdx_cons, List.map_cons, List.lookup] at h
          by_cases e : t = k
          · subst e; simp at h; exact ⟨Nat.le_refl _, by simpa using h⟩
          · have e2 : (t == k) = false := by simpa using e
            simp only [e2] at h
            obtain ⟨h1, h2⟩ := ih (k + 1) h
            refine ⟨by omega, ?_⟩
            rw [show t - k = (t - (k + 1)) + 1 by omega]
            simpa using h2
      simpa using (key args 0 ht).2
    have hlt : t < args.length := by
      rcases Nat.lt_or_ge t args.length with h | h
      · exact h
      · rw [List.getElem?_eq_none h] at this; cases this
    have e : args[t] = v := by rw [List.getElem?_eq_getElem hlt] at this; exact Option.some.inj this
    simp [Array.getElem?_append, hlt, e]
theorem spec_ofM {D : Bool} {f : FuncId} {c : Code} {args : List Value} {Post : Value → List Hp → Prop} {m : Nat} (hf : P.funcs[f]? = some fn) (hm : fn.ntmps = m) (hb : fn.body = some c) (hL : begin0 args = L) (hle : Nat.ble args.length m = true)
    (h : ∀ M w0, VK ⟨M, w0, D⟩ R m L Γ (KC P c (PostM P fn fun e w' => ∃ v Γ', e = .returned v ∧ Post v Γ' ∧ Inv ⟨M, w0, D⟩ R Γ' w'))) : SpecD D P f args.toArray R Γ Post := fun w i => by
  refine calls_of_wpM hf hb ((h _ _).out _ _ (Kn.of_begin hL hm hle) i).out
end
theorem spec_ofM2 {D : Bool} {P : Program} {R Γ : List Hp} {fn : Func} {f : FuncId} {c : Code} {v0 v1 : Value} {Post : Value → List Hp → Prop} {m : Nat} (hf : P.funcs[f]? = some fn) (hm : fn.ntmps = m) (hb : fn.body = some c) (hle : Nat.ble 2 m = true)
    (h : ∀ M w0, VK ⟨M, w0, D⟩ R m [(0, v0), (1, v1)] Γ (KC P c (PostM P fn fun e w' => ∃ v Γ', e = .returned v ∧ Post v Γ' ∧ Inv ⟨M, w0, D⟩ R Γ' w'))) : SpecD D P f #[v0, v1] R Γ Post :=
  spec_ofM (args := [v0, v1]) hf hm hb rfl hle h
section
variable {P : Program} {C : Cx} {R : List Hp} {n : Nat} {Q : Exit → Act → World → Prop} {L : Env} {Γ : List Hp}
/-- a cut at the end of a piece of code that is not in a pair with what follows -/
theorem v_cutT (tc tu : List Nat) {c y : Code} {α : Type} (vals : α → List Value) (Γs : α → List Hp) (ok : α → Prop) {us : List Value} [hu : Get L tu us] (hl : ∀ x, tc.length = (vals x).length) (h1 : VK C R n L Γ (KC P c (Exit.then (Cut C R n (tc ++ tu) (fun x => vals x ++ us) Γs ok) Q)))
    (h2 : ∀ x, ok x → VK C R n (zipE tc (vals x) ++ zipE tu us) (Γs x) (KC P y Q)) : VK C R n L Γ (KC P c (Exit.then (y.wp P Q) Q)) := VK.mk fun a w k i => KC.mk (Code.wp_mono (fun e a w h => by
  cases e with
  | normal =>
    obtain ⟨x, h0, hk, hi⟩ := h
    exact ((h2 x h0).out a w (by rw [← zipE_append (hl x), zipE_eq]; exact hk) hi).out
  | _ => exact h) ((h1.out a w k i).out))
end
attribute [irreducible] KLi KI KR KCd SpecY
end Go.SX

/- Symbolic execution: functions that may panic. Of whatever program. -/
namespace Go.SX
set_option linter.unusedSimpArgs false
set_option linter.unusedVariables false
open Go Go.RowKit
abbrev pe (t : Value) : PanicEntry := { v := t, recovered := false }
/-- what a panic comes to -/
class PanQ (Q : Exit → Act → World → Prop) (X : outParam (Ending → World → Prop)) : Prop where
  out : ∀ ch a w, a.defers = [] → X (.panicked ch) w → Q (.panic ch) a w
instance panBody (P : Program) (fn : Func) (X : Ending → World → Prop) : PanQ (bodyPost P fn X) X := ⟨fun ch a w hd h => ⟨hd, h⟩⟩
instance panThen (K : Act → World → Prop) (Q : Exit → Act → World → Prop) (X : Ending → World → Prop) [h : PanQ Q X] : PanQ (Exit.then K Q) X := ⟨fun ch a w hd x => h.out ch a w hd x⟩
instance panBlock (id : Nat) (Q : Exit → Act → World → Prop) (X : Ending → World → Prop) [h : PanQ Q X] : PanQ (Exit.inBlock id Q) X := ⟨fun ch a w hd x => h.out ch a w hd x⟩
/-- a function that may panic with T, only if Pn -/
def SpecP (D : Bool) (P : Program) (f : FuncId) (args : Array Value) (R Γ : List Hp) (T : Value) (Pn : Prop) (Post : Value → List Hp → Prop) : Prop :=
  ∀ w, Inv ⟨keys Γ, w, D⟩ R Γ w → Calls P f args w fun e w' => (∃ v Γ', e = .returned v ∧ Post v Γ' ∧ Inv ⟨keys Γ, w, D⟩ R Γ' w') ∨ (Pn ∧ e = .panicked [pe T] ∧ Inv ⟨keys Γ, w, D⟩ R [] w')
theorem Inv.none {C : Cx} {R Γ : List Hp} {w : World} (h : Inv C R Γ w) : Inv C R [] w :=
  ⟨h.os, h.tape, h.output, h.size, h.ro, fun x hx => (by cases hx), List.nodup_nil, fun b hb => (by cases hb), fun b hb => (by cases hb), h.frame, h.dr⟩
theorem kn_defers {n : Nat} {L : Env} {a : Act} (k : Kn n L a) : a.defers = [] := by unfold Kn at k; exact k.2.1
section
variable {P : Program} {R : List Hp} {n : Nat} {all : Array Oper} {Q : Exit → Act → World → Prop} {L : Env} {Γ : List Hp} {M : List Nat} {w0 : World} {D : Bool} {K : Act → World → Prop}
theorem v_callP {d f : Nat} {xs : Array Operand} {ats : Array TypeId} {ty : TypeId} {pos : String} {af : Array Edge} {vs : List Value} {Rc Γc Γr : List Hp} {Post : Value → List Hp → Prop} {T : Value} {Pn Pn' : Prop} {A : Ending → World → Prop}
    [hf : Fn1 P f] [hx : Evs L xs.toList vs] [hd : Is (Nat.ble n d = false)] (hs : SpecP D P f vs.toArray Rc Γc T Pn Post) [hp : Pick Γ Γc Γr] [hsub : Sub Rc R Γr]
    [hQ : PanQ Q (fun e w' => A e w' ∨ (Pn' ∧ e = .panicked [pe T] ∧ Inv ⟨M, w0, D⟩ R [] w'))] (hPn : Pn → Pn')
    (h : ∀ v Γ', Post v Γ' → VK ⟨M, w0, D⟩ R n ((d, v) :: L) (Γ' ++ Γr) K) : VK ⟨M, w0, D⟩ R n L Γ (wp1 P all Q ⟨some d, .call ⟨.value (.func f), xs, ats⟩, ty, pos, af, none⟩ K) := VK.mk fun a w k i => wp1.mk (by
  have hd' : d < n := lt_of_ble hd.out
  have hargs : xs.map a.eval = vs.toArray := by
    have := hx.out n a k
    apply Array.ext'
    simpa using this
  have hrun : (execOp a.eval ⟨some d, .call ⟨.value (.func f), xs, ats⟩, ty, pos, af, none⟩).run P w = .ok (.enter f vs.toArray) w := by
    simp [execOp, resolve, Act.eval, Deferred.ofValue, invoke, hargs, hf.out]
  simp only [Region.wanted, if_true]
  refine .inl ?_
  simp only [Oper.wp, hrun, Oper.upon]
  have hsub' : ∀ x ∈ Rc.flatten, x ∈ R.flatten ∨ x ∈ Γ.flatten := fun x hx => (hsub.out x hx).imp id fun h => hp.out.mem_iff.2 (List.mem_append_right _ h)
  refine (hs w (i.callee hp.out hsub' (apart_of i hp.out hsub.out))).mono ?_
  rintro e w' (⟨v, Γ', rfl, hP, j⟩ | ⟨hpn, rfl, j⟩)
  · exact (h v Γ' hP).out _ _ (k.put hd') (i.back hp.out j)
  · exact hQ.out _ _ _ (kn_defers k) (.inr ⟨hPn hpn, rfl, (i.back hp.out j).none⟩))
theorem v_panic {dst : Option Tmp} {x : Operand} {t : TypeId} {v : Value} {ty : TypeId} {pos : String} {af : Array Edge} {Pn' : Prop} {A : Ending → World → Prop} [hx : Ev L x (.iface t v)]
    [hQ : PanQ Q (fun e w' => A e w' ∨ (Pn' ∧ e = .panicked [pe (.iface t v)] ∧ Inv ⟨M, w0, D⟩ R [] w'))] (h : Pn') : VK ⟨M, w0, D⟩ R n L Γ (wp1 P all Q ⟨dst, .panic x, ty, pos, af, none⟩ K) := VK.mk fun a w k i => wp1.mk (by
  have hrun : (execOp a.eval ⟨dst, .panic x, ty, pos, af, none⟩).run P w = .halt (.panic (.iface t v)) w := by
    simp [execOp, hx.out n a k, run_panic_iface]
  simp only [Region.wanted, if_true]
  refine .inl ?_
  simp only [Oper.wp, hrun, Oper.upon]
  exact hQ.out _ _ _ (kn_defers k) (.inr ⟨h, rfl, i.none⟩))
theorem v_retP {fn : Func} {A B : Ending → World → Prop} {C : Cx} (h : VK C R n L Γ (KE (bodyPost P fn A) .ret)) : VK C R n L Γ (KE (bodyPost P fn fun e w' => A e w' ∨ B e w') .ret) := VK.mk fun a w k i => KE.mk (by
  obtain ⟨h1, v, h2, h3⟩ := (h.out a w k i).out
  exact ⟨h1, v, h2, .inl h3⟩)
theorem v_retPN {fn : Func} {A B : Ending → World → Prop} {C : Cx} (h : VK C R n L Γ (KE (bodyPost P fn A) .normal)) : VK C R n L Γ (KE (bodyPost P fn fun e w' => A e w' ∨ B e w') .normal) := VK.mk fun a w k i => KE.mk (by
  obtain ⟨h1, v, h2, h3⟩ := (h.out a w k i).out
  exact ⟨h1, v, h2, .inl h3⟩)
theorem spec_ofP {f : FuncId} {fn : Func} {c : Code} {args : List Value} {Post : Value → List Hp → Prop} {T : Value} {Pn : Prop} {m : Nat} (hf : P.funcs[f]? = some fn) (hm : fn.ntmps = m) (hb : fn.body = some c) (hL : begin0 args = L) (hle : Nat.ble args.length m = true)
    (h : ∀ M w0, VK ⟨M, w0, D⟩ R m L Γ (KC P c (bodyPost P fn fun e w' => (∃ v Γ', e = .returned v ∧ Post v Γ' ∧ Inv ⟨M, w0, D⟩ R Γ' w') ∨ (Pn ∧ e = .panicked [pe T] ∧ Inv ⟨M, w0, D⟩ R [] w')))) : SpecP D P f args.toArray R Γ T Pn Post := fun w i => by
  refine calls_of_wp hf hb ((h _ _).out _ _ (Kn.of_begin hL hm hle) i).out
theorem spec_p1 {f : FuncId} {fn : Func} {c : Code} {v0 : Value} {Post : Value → List Hp → Prop} {T : Value} {Pn : Prop} {m : Nat} (hf : P.funcs[f]? = some fn) (hm : fn.ntmps = m) (hb : fn.body = some c) (hle : Nat.ble 1 m = true)
    (h : ∀ M w0, VK ⟨M, w0, D⟩ R m [(0, v0)] Γ (KC P c (bodyPost P fn fun e w' => (∃ v Γ', e = .returned v ∧ Post v Γ' ∧ Inv ⟨M, w0, D⟩ R Γ' w') ∨ (Pn ∧ e = .panicked [pe T] ∧ Inv ⟨M, w0, D⟩ R [] w')))) : SpecP D P f #[v0] R Γ T Pn Post :=
  spec_ofP (args := [v0]) hf hm hb rfl hle h
theorem spec_p2 {f : FuncId} {fn : Func} {c : Code} {v0 v1 : Value} {Post : Value → List Hp → Prop} {T : Value} {Pn : Prop} {m : Nat} (hf : P.funcs[f]? = some fn) (hm : fn.ntmps = m) (hb : fn.body = some c) (hle : Nat.ble 2 m = true)
    (h : ∀ M w0, VK ⟨M, w0, D⟩ R m [(0, v0), (1, v1)] Γ (KC P c (bodyPost P fn fun e w' => (∃ v Γ', e = .returned v ∧ Post v Γ' ∧ Inv ⟨M, w0, D⟩ R Γ' w') ∨ (Pn ∧ e = .panicked [pe T] ∧ Inv ⟨M, w0, D⟩ R [] w')))) : SpecP D P f #[v0, v1] R Γ T Pn Post :=
  spec_ofP (args := [v0, v1]) hf hm hb rfl hle h
end
end Go.SX

/- Bits, in plain Lean: numbers as bits (the greatest first), bits as bytes. -/
namespace Go.Proofs.YtdfoijfjlhjeaaaGreat
open Go
def bitsOf : Nat → Nat → List Bool
  | 0, _ => []
  | w + 1, v => bitsOf w (v / 2) ++ [decide (v % 2 = 1)]
def valOf (bs : List Bool) : Nat := bs.foldl (fun n b => 2 * n + b.toNat) 0
theorem bitsOf_len : ∀ (w v : Nat), (bitsOf w v).length = w
  | 0, _ => rfl
  | w + 1, v => by rw [bitsOf, List.length_append, bitsOf_len w]; rfl
theorem valOf_nil : valOf [] = 0 := rfl
theorem valOf_snoc (l : List Bool) (b : Bool) : valOf (l ++ [b]) = 2 * valOf l + b.toNat := by unfold valOf; rw [List.foldl_append]; rfl
theorem list_snoc {α : Type} {l : List α} {n : Nat} (h : l.length = n + 1) : ∃ p x, l = p ++ [x] ∧ p.length = n := by
  have hne : l ≠ [] := fun e => by subst e; simp at h
  exact ⟨l.dropLast, l.getLast hne, (List.dropLast_concat_getLast hne).symm, by rw [List.length_dropLast]; omega⟩
theorem dec_bit (v : Nat) : (decide (v % 2 = 1)).toNat = v % 2 := by
  rcases Nat.mod_two_eq_zero_or_one v with h | h <;> simp [h]
theorem valOf_bitsOf : ∀ (w v : Nat), valOf (bitsOf w v) = v % 2 ^ w
  | 0, v => by rw [bitsOf, valOf_nil, Nat.pow_zero, Nat.mod_one]
  | w + 1, v => by
    rw [bitsOf, valOf_snoc, valOf_bitsOf w, dec_bit]
    have h1 : v % 2 ^ (w + 1) = 2 * (v / 2 % 2 ^ w) + v % 2 := by
      have e : 2 ^ (w + 1) = 2 * 2 ^ w := by rw [Nat.pow_succ]; omega
      rw [e, Nat.mod_mul, Nat.add_comm]
    omega
theorem valOf_lt : ∀ (n : Nat) (l : List Bool), l.length = n → valOf l < 2 ^ n
  | 0, l, h => by obtain rfl := List.eq_nil_of_length_eq_zero h; simp [valOf_nil]
  | n + 1, l, h => by
    obtain ⟨p, x, rfl, hp⟩ := list_snoc h
    have := valOf_lt n p hp
    have hx : x.toNat ≤ 1 := Bool.toNat_le x
    rw [valOf_snoc, Nat.pow_succ]; omega
theorem bitsOf_valOf : ∀ (n : Nat) (l : List Bool), l.length = n → bitsOf n (valOf l) = l
  | 0, l, h => by obtain rfl := List.eq_nil_of_length_eq_zero h; rfl
  | n + 1, l, h => by
    obtain ⟨p, x, rfl, hp⟩ := list_snoc h
    have hx : x.toNat ≤ 1 := Bool.toNat_le x
    rw [valOf_snoc, bitsOf, show (2 * valOf p + x.toNat) / 2 = valOf p by omega, bitsOf_valOf n p hp]
    congr 2
    rw [show (2 * valOf p + x.toNat) % 2 = x.toNat by omega]
    cases x <;> rfl
theorem valOf_app (l m : List Bool) : valOf (l ++ m) = valOf l * 2 ^ m.length + valOf m := by
  induction hn : m.length generalizing m with
  | zero => obtain rfl := List.eq_nil_of_length_eq_zero hn; simp [valOf_nil]
  | succ n ih =>
    obtain ⟨p, x, rfl, hp⟩ := list_snoc hn
    rw [← List.append_assoc, valOf_snoc, valOf_snoc, ih p hp, Nat.pow_succ]
    have : valOf l * (2 ^ n * 2) = 2 * (valOf l * 2 ^ n) := by rw [← Nat.mul_assoc]; omega
    omega
theorem bitsOf_app {a b x y : Nat} (hy : y < 2 ^ b) : bitsOf (a + b) (x * 2 ^ b + y) = bitsOf a x ++ bitsOf b y := by
  induction b generalizing y with
  | zero => have : y = 0 := by simp at hy; omega
            subst this; simp [bitsOf]
  | succ b ih =>
    rw [show a + (b + 1) = (a + b) + 1 by omega, bitsOf, bitsOf, ← List.append_assoc]
    have e : x * 2 ^ (b + 1) = 2 * (x * 2 ^ b) := by rw [Nat.pow_succ, ← Nat.mul_assoc]; omega
    rw [e, show (2 * (x * 2 ^ b) + y) / 2 = x * 2 ^ b + y / 2 by omega, ih (by rw [Nat.pow_succ] at hy; omega), show (2 * (x * 2 ^ b) + y) % 2 = y % 2 by omega]
theorem bitsOf_zero : ∀ w, bitsOf w 0 = List.replicate w false
  | 0 => rfl
  | w + 1 => by rw [bitsOf, bitsOf_zero w, List.replicate_succ']; rfl
theorem bitsOf_mod (w v : Nat) : bitsOf w (v % 2 ^ w) = bitsOf w v := by
  rw [← valOf_bitsOf, bitsOf_valOf w _ (bitsOf_len w v)]
theorem bitsOf_take {w v k : Nat} (h : k ≤ w) : (bitsOf w v).take k = bitsOf k (v / 2 ^ (w - k)) := by
  have e := bitsOf_app (a := k) (b := w - k) (x := v / 2 ^ (w - k)) (y := v % 2 ^ (w - k)) (Nat.mod_lt _ (Nat.pow_pos (by decide)))
  rw [show k + (w - k) = w by omega, Nat.mul_comm, Nat.div_add_mod] at e
  rw [e, List.take_left' (bitsOf_len _ _)]
theorem bitsOf_drop {w v k : Nat} (h : k ≤ w) : (bitsOf w v).drop k = bitsOf (w - k) v := by
  have e := bitsOf_app (a := k) (b := w - k) (x := v / 2 ^ (w - k)) (y := v % 2 ^ (w - k)) (Nat.mod_lt _ (Nat.pow_pos (by decide)))
  rw [show k + (w - k) = w by omega, Nat.mul_comm, Nat.div_add_mod] at e
  rw [e, List.drop_left' (bitsOf_len _ _), bitsOf_mod]
/-! ### bytes -/
abbrev byB (c : UInt8) : List Bool := bitsOf 8 c.toNat
def unp (l : List UInt8) : List Bool := l.flatMap byB
theorem unp_nil : unp [] = [] := rfl
theorem unp_cons (c : UInt8) (l : List UInt8) : unp (c :: l) = byB c ++ unp l := List.flatMap_cons
theorem unp_app (l m : List UInt8) : unp (l ++ m) = unp l ++ unp m := List.flatMap_append
theorem unp_len (l : List UInt8) : (unp l).length = 8 * l.length := by
  induction l with
  | nil => rfl
  | cons c l ih => rw [unp_cons, List.length_append, bitsOf_len, ih, List.length_cons]; omega
theorem byB_inj {a b : UInt8} (h : byB a = byB b) : a = b := by
  have := congrArg valOf h
  rw [valOf_bitsOf, valOf_bitsOf] at this
  have h1 := a.toNat_lt
  have h2 := b.toNat_lt
  exact UInt8.toNat_inj.1 (by omega)
theorem unp_inj : ∀ {l m : List UInt8}, unp l = unp m → l = m
  | [], [], _ => rfl
  | [], b :: m, h => by have := congrArg List.length h; rw [unp_len, unp_len] at this; simp at this
  | a :: l, [], h => by have := congrArg List.length h; rw [unp_len, unp_len] at this; simp at this
  | a :: l, b :: m, h => by
    rw [unp_cons, unp_cons] at h
    obtain ⟨h1, h2⟩ := List.append_inj h (by rw [bitsOf_len, bitsOf_len])
    rw [byB_inj h1, unp_inj h2]
/-- bytes hold bits, with noughts behind -/
def Packs (bs : List Bool) (l : List UInt8) : Prop := ∃ k, k < 8 ∧ unp l = bs ++ List.replicate k false
theorem Packs.len {bs : List Bool} {l : List UInt8} (h : Packs bs l) : l.length = (bs.length + 7) / 8 := by
  obtain ⟨k, hk, e⟩ := h
  have := congrArg List.length e
  rw [unp_len, List.length_append, List.length_replicate] at this
  omega
theorem Packs.nil : Packs [] [] := ⟨0, by decide, rfl⟩
theorem packs_uniq {bs : List Bool} {l m : List UInt8} (h : Packs bs l) (h' : Packs bs m) : l = m := by
  have e1 := h.len
  have e2 := h'.len
  obtain ⟨k, hk, e⟩ := h
  obtain ⟨k', hk', e'⟩ := h'
  have h1 := congrArg List.length e
  have h2 := congrArg List.length e'
  rw [unp_len, List.length_append, List.length_replicate] at h1 h2
  obtain rfl : k = k' := by omega
  exact unp_inj (e.trans e'.symm)
/-- a byte of bits -/
def byOf (bs : List Bool) : UInt8 := UInt8.ofNat (valOf bs)
theorem byOf_bits {bs : List Bool} (h : bs.length = 8) : byB (byOf bs) = bs := by
  have hv := valOf_lt 8 bs h
  unfold byB byOf
  rw [UInt8.toNat_ofNat', Nat.mod_eq_of_lt hv, bitsOf_valOf 8 bs h]
end Go.Proofs.YtdfoijfjlhjeaaaGreat

/- Bits, in plain Lean: pieces of bytes; the machine's operations on them. -/
namespace Go.Proofs.YtdfoijfjlhjeaaaGreat
open Go Go.SX Go.RowKit
theorem unp_piece {l : List UInt8} {n m : Nat} (hi : n / 8 < l.length) (hm : n % 8 + m ≤ 8) : ((unp l).drop n).take m = bitsOf m (l[n / 8].toNat / 2 ^ (8 - n % 8 - m)) := by
  have e1 : l = l.take (n / 8) ++ l[n / 8] :: l.drop (n / 8 + 1) := by
    rw [← List.drop_eq_getElem_cons hi, List.take_append_drop]
  have e2 : unp l = unp (l.take (n / 8)) ++ (byB l[n / 8] ++ unp (l.drop (n / 8 + 1))) := by
    conv => lhs; rw [e1]
    rw [unp_app, unp_cons]
  have h1 : (unp (l.take (n / 8))).length = 8 * (n / 8) := by rw [unp_len, List.length_take]; omega
  have h2 : (byB l[n / 8]).length = 8 := bitsOf_len _ _
  rw [e2]
  show ((unp (l.take (n / 8)) ++ (bitsOf 8 l[n / 8].toNat ++ unp (l.drop (n / 8 + 1)))).drop n).take m = _
  generalize unp (l.take (n / 8)) = A at *
  generalize unp (l.drop (n / 8 + 1)) = B at *
  generalize l[n / 8].toNat = c at *
  have e3 : (A ++ (bitsOf 8 c ++ B)).drop n = (bitsOf 8 c ++ B).drop (n % 8) := by
    have := List.drop_drop (i := n % 8) (j := A.length) (l := A ++ (bitsOf 8 c ++ B))
    rw [List.drop_left] at this
    rw [this]; congr 1; omega
  rw [e3, List.drop_append_of_le_length (by rw [bitsOf_len]; omega), List.take_append_of_le_length (by rw [List.length_drop, bitsOf_len]; omega), bitsOf_drop (by omega), bitsOf_take (by omega)]
theorem and7 (n : Nat) (h : n < 9223372036854775808) : bits .and .i64 (n : Int) 7 = ((n % 8 : Nat) : Int) := by
  have h1 : (BitVec.ofInt 64 (n : Int)).toNat = n := by
    rw [BitVec.ofInt_natCast, BitVec.toNat_ofNat]; exact Nat.mod_eq_of_lt (by omega)
  have h2 : (BitVec.ofInt 64 7).toNat = 7 := by rfl
  show IntKind.i64.wrap ((BitVec.ofInt 64 (n : Int) &&& BitVec.ofInt 64 7).toNat : Int) = _
  rw [BitVec.toNat_and, h1, h2, show (7 : Nat) = 2 ^ 3 - 1 by rfl, Nat.and_two_pow_sub_one_eq_mod, show 2 ^ 3 = 8 by rfl]
  have : ((n % 8 : Nat) : Int) % 18446744073709551616 = ((n % 8 : Nat) : Int) := Int.emod_eq_of_lt (by omega) (by omega)
  simp only [IntKind.wrap, IntKind.bits, IntKind.signed]
  simp; omega
theorem u8_wrap {x : Nat} (h : x < 256) : IntKind.u8.wrap (x : Int) = x := by
  have : (x : Int) % 256 = x := Int.emod_eq_of_lt (by omega) (by omega)
  simp [IntKind.wrap, IntKind.bits, IntKind.signed, this]
theorem u64_wrap {x : Nat} (h : x < 18446744073709551616) : IntKind.u64.wrap (x : Int) = x := by rw [IntKind.wrap_u64]; omega
theorem shr_u8 {c : Nat} (k : Nat) (hk : k ≤ 8) : shrI .u8 (c : Int) (k : Int) = ((c / 2 ^ k : Nat) : Int) := by
  unfold shrI
  rw [show IntKind.u8.bits = 8 by rfl, Int.toNat_natCast, Nat.min_eq_left hk, Int.fdiv_eq_ediv_of_nonneg _ (Int.le_of_lt (Int.pow_pos (by decide)))]
  simp
theorem mask_u8 {m : Nat} (h : m ≤ 8) : IntKind.u8.wrap (shlI .u8 1 (m : Int) - 1) = ((2 ^ m - 1 : Nat) : Int) := by
  match m, h with
  | 0, _ => rfl
  | 1, _ => rfl
  | 2, _ => rfl
  | 3, _ => rfl
  | 4, _ => rfl
  | 5, _ => rfl
  | 6, _ => rfl
  | 7, _ => rfl
  | 8, _ => rfl
theorem and_u8 {x m : Nat} (hx : x < 256) (hm : m ≤ 8) : bits .and .u8 (x : Int) ((2 ^ m - 1 : Nat) : Int) = ((x % 2 ^ m : Nat) : Int) := by
  have hp : 2 ^ m ≤ 2 ^ 8 := Nat.pow_le_pow_right (by decide) hm
  have hp0 : 0 < 2 ^ m := Nat.pow_pos (by decide)
  have h1 : (BitVec.ofInt 8 (x : Int)).toNat = x := by
    rw [BitVec.ofInt_natCast, BitVec.toNat_ofNat]; exact Nat.mod_eq_of_lt hx
  have h2 : (BitVec.ofInt 8 ((2 ^ m - 1 : Nat) : Int)).toNat = 2 ^ m - 1 := by
    rw [BitVec.ofInt_natCast, BitVec.toNat_ofNat]; exact Nat.mod_eq_of_lt (by omega)
  show IntKind.u8.wrap ((BitVec.ofInt 8 (x : Int) &&& BitVec.ofInt 8 ((2 ^ m - 1 : Nat) : Int)).toNat : Int) = _
  rw [BitVec.toNat_and, h1, h2, Nat.and_two_pow_sub_one_eq_mod]
  have := Nat.mod_lt x hp0
  exact u8_wrap (by omega)
theorem part_u8 {c k m : Nat} (hc : c < 256) (hk : k ≤ 8) (hm : m ≤ 8) : bits .and .u8 (shrI .u8 (c : Int) (k : Int)) (IntKind.u8.wrap (shlI .u8 1 (m : Int) - 1)) = ((c / 2 ^ k % 2 ^ m : Nat) : Int) := by
  have h1 : c / 2 ^ k ≤ c := Nat.div_le_self _ _
  rw [shr_u8 k hk, mask_u8 hm, and_u8 (by omega) hm]
theorem join_u64 {v p m : Nat} (hm : m < 64) (hv : v * 2 ^ m < 18446744073709551616) (hp : p < 2 ^ m) : bits .or .u64 (shlI .u64 (v : Int) (m : Int)) (p : Int) = ((v * 2 ^ m + p : Nat) : Int) := by
  have e1 : shlI .u64 (v : Int) (m : Int) = ((v * 2 ^ m : Nat) : Int) := by
    unfold shlI
    rw [show IntKind.u64.bits = 64 by rfl, Int.toNat_natCast, Nat.min_eq_left (by omega)]
    have : (v : Int) * 2 ^ m = ((v * 2 ^ m : Nat) : Int) := by simp
    rw [this, u64_wrap hv]
  have hp2 : 2 ^ m ≤ 2 ^ 63 := Nat.pow_le_pow_right (by decide) (by omega)
  rw [e1, bits_or_u64_nat _ _ hv (by omega), Nat.mul_comm, Nat.two_pow_add_eq_or_of_lt hp]
end Go.Proofs.YtdfoijfjlhjeaaaGreat

/- bits.Reader. -/
namespace Go.Proofs.YtdfoijfjlhjeaaaGreat
open Go Go.SX Go.RowKit
set_option maxRecDepth 100000
set_option maxHeartbeats 0
set_option synthInstance.maxSize 100000
set_option synthInstance.maxHeartbeats 400000
abbrev pt (b : Nat) : Value := .pointer (some ⟨b, 0, none⟩)
abbrev cell2 (b : Nat) (n : Int) (x : Value) (T : TypeId) : Hp := [(b, .cells #[.int .i64 n, x] T (0, 0))]
abbrev rdS (b n : Nat) (l : List UInt8) : Hp := cell2 b n (str l) 191
theorem cadd_s (b : Nat) (n m : Nat) (x : Value) (T : TypeId) (h : n + m < 9223372036854775808) : SX.Spec Tryz.prog 147 #[pt b, .int .i64 m] [] [cell2 b n x T] fun v Γ => v = .tuple #[] ∧ Γ = [cell2 b ((n + m : Nat) : Int) x T] := by
  refine spec_of2 Tryz.func147 Tryz.ntmps147 rfl rfl (fun M w0 => ?_)
  repeat' (first | refine stp ?_|(refine v_yc ?_ ?_;omega)|fail)
  rw [show ((n + m : Nat) : Int) = (n : Int) + m by omega]
  refine v_o0 Tryz.results147 ⟨rfl, rfl⟩ ⟨_, inferInstance⟩
theorem left_s (b n : Nat) (l : List UInt8) (hn : n ≤ 8 * l.length) (hl : l.length ≤ 281474976710656) : SX.Spec Tryz.prog 152 #[pt b] [rdS b n l] [] fun v Γ => v = .int .i64 ((8 * l.length - n : Nat) : Int) ∧ Γ = [] := by
  refine spec_of1 Tryz.func152 Tryz.ntmps152 rfl rfl (fun M w0 => ?_)
  repeat' (first | refine stp ?_|refine ⟨?_,?_,?_⟩|refine ⟨?_,?_⟩|(refine v_tyc ?_ ?_;omega)|refine v_drawn0 (id:=1) pl152_1 (by kernel_rfl) ?_|fail)
  refine v_o1 Tryz.results152 ⟨iI (by omega), rfl⟩ ⟨_, inferInstance⟩
/-- the next w bits as a number -/
def nxt (l : List UInt8) (n w : Nat) : Nat := valOf (((unp l).drop n).take w)
theorem nxt_lt {l : List UInt8} {n w : Nat} (h : n + w ≤ 8 * l.length) : nxt l n w < 2 ^ w := valOf_lt w _ (by rw [List.length_take, List.length_drop, unp_len]; omega)
theorem nxt_step {l : List UInt8} {n i m : Nat} (hi : (n + i) / 8 < l.length) (hm : (n + i) % 8 + m ≤ 8) : nxt l n (i + m) = nxt l n i * 2 ^ m + l[(n + i) / 8].toNat / 2 ^ (8 - (n + i) % 8 - m) % 2 ^ m := by
  unfold nxt
  have e : ((unp l).drop n).take (i + m) = ((unp l).drop n).take i ++ ((unp l).drop (n + i)).take m := by
    rw [List.take_add, List.drop_drop]
  have hp := unp_piece hi hm
  rw [e, valOf_app, hp, valOf_bitsOf, bitsOf_len]
theorem take_s (b n w : Nat) (l : List UInt8) (hn : n ≤ 8 * l.length) (hl : l.length ≤ 281474976710656) (h1 : 1 ≤ w) (h64 : w ≤ 64) : SX.Spec Tryz.prog 148 #[pt b, .int .i64 w] [] [rdS b n l] fun v Γ =>
    (n + w ≤ 8 * l.length ∧ v = .tuple #[.int .u64 (nxt l n w : Nat), .int .i64 0] ∧ Γ = [rdS b (n + w) l]) ∨ (8 * l.length < n + w ∧ v = .tuple #[.int .u64 0, .int .i64 6] ∧ Γ = [rdS b n l]) := by
  refine spec_of2 Tryz.func148 Tryz.ntmps148 rfl rfl (fun M w0 => ?_)
  repeat' (first | refine stp ?_|(refine v_spT ?_ ?_;omega)|(refine v_spF ?_ ?_;omega)|refine v_spD (fun hc=>?_) (fun hc=>?_)|(refine v_yc ?_ ?_;omega)|refine ⟨?_,?_,?_⟩|refine ⟨?_,?_⟩|(refine v_tyc ?_ ?_;omega)|refine v_drawn0 (id:=8) pl148_8 (by kernel_rfl) ?_|fail)
  refine v_callR (left_s b n l hn hl) ?_
  rintro v Γ' ⟨rfl, rfl⟩
  (try dsimp only [List.cons_append, List.nil_append])
  repeat' (first | refine stp ?_|(refine v_spT ?_ ?_;omega)|(refine v_spF ?_ ?_;omega)|refine v_spD (fun hc=>?_) (fun hc=>?_)|(refine v_yc ?_ ?_;omega)|refine ⟨?_,?_,?_⟩|refine ⟨?_,?_⟩|(refine v_tyc ?_ ?_;omega)|refine v_drawn0 (id:=8) pl148_8 (by kernel_rfl) ?_|fail)
  · refine v_o2 Tryz.results148 (.inr ⟨by omega, rfl, rfl⟩) ⟨_, inferInstance⟩
  refine v_lp [6, 7] [0] (fun i : Nat => [.int .u64 (nxt l n i : Nat), .int .i64 ((w : Int) - i)]) (fun i => [rdS b (n + i) l]) (fun i => i ≤ w) (fun i => w - i) 0 (fun _ => rfl) rfl inferInstance (Nat.zero_le _) ?_
  rintro i hi
  (try dsimp only [zipE_c, zipE_n, List.cons_append, List.nil_append])
  rcases Nat.lt_or_ge i w with hlt | hge
  · have hi8 : (n + i) / 8 < l.length := by omega
    have ha := and7 (n + i) (by omega)
    obtain ⟨m, hmn, hm1, hm8, hmw⟩ : ∃ m : Nat, (if (w : Int) - i < 8 - (((n + i) % 8 : Nat) : Int) then (w : Int) - i else 8 - (((n + i) % 8 : Nat) : Int)) = (m : Int) ∧ 1 ≤ m ∧ (n + i) % 8 + m ≤ 8 ∧ i + m ≤ w := by
      by_cases h : (w : Int) - i < 8 - (((n + i) % 8 : Nat) : Int)
      · exact ⟨w - i, by rw [if_pos h]; omega, by omega, by omega, by omega⟩
      · exact ⟨8 - (n + i) % 8, by rw [if_neg h]; omega, by omega, by omega, by omega⟩
    repeat' (first | refine stp ?_|(refine v_spT ?_ ?_;omega)|(refine v_spF ?_ ?_;omega)|refine v_spD (fun hc=>?_) (fun hc=>?_)|(refine v_yc ?_ ?_;omega)|refine ⟨?_,?_,?_⟩|refine ⟨?_,?_⟩|(refine v_tyc ?_ ?_;omega)|fail)
    rw [ha, hmn]
    have hw1 : IntKind.u64.wrap (m : Int) = m := u64_wrap (by omega)
    have hw2 : IntKind.u64.wrap (8 - (((n + i) % 8 : Nat) : Int) - m) = ((8 - (n + i) % 8 - m : Nat) : Int) := by
      rw [show 8 - (((n + i) % 8 : Nat) : Int) - m = ((8 - (n + i) % 8 - m : Nat) : Int) by omega, u64_wrap (by omega)]
    have hsr : shrI .i64 ((n + i : Nat) : Int) 3 = (((n + i) / 8 : Nat) : Int) := by
      unfold shrI
      rw [show IntKind.i64.bits = 64 by rfl, show (3 : Int).toNat = 3 by rfl, Nat.min_eq_left (by decide), Int.fdiv_eq_ediv_of_nonneg _ (by decide)]
      simp
    have hstep : bits .or .u64 (shlI .u64 (nxt l n i : Nat) m) (IntKind.u64.wrap (bits .and .u8 (shrI .u8 (l[(n + i) / 8].toNat : Nat) ((8 - (n + i) % 8 - m : Nat) : Int)) (IntKind.u8.wrap (shlI .u8 1 (m : Int) - 1)))) = ((nxt l n (i + m) : Nat) : Int) := by
      have hc := l[(n + i) / 8].toNat_lt
      have hp2 : 2 ^ m ≤ 2 ^ 8 := Nat.pow_le_pow_right (by decide) (by omega)
      have hlt2 := Nat.mod_lt (l[(n + i) / 8].toNat / 2 ^ (8 - (n + i) % 8 - m)) (Nat.pow_pos (a := 2) (n := m) (by decide))
      have hx := nxt_lt (l := l) (n := n) (w := i + m) (by omega)
      have hx2 : 2 ^ (i + m) ≤ 2 ^ 64 := Nat.pow_le_pow_right (by decide) (by omega)
      have hst := nxt_step hi8 hm8
      rw [part_u8 (by omega) (by omega) (by omega), u64_wrap (by omega), join_u64 (by omega) (by omega) hlt2, hst]
    repeat' (first | refine stp ?_|(refine v_spT ?_ ?_;omega)|(refine v_spF ?_ ?_;omega)|refine v_spD (fun hc=>?_) (fun hc=>?_)|(refine v_yc ?_ ?_;omega)|refine ⟨?_,?_,?_⟩|refine ⟨?_,?_⟩|(refine v_tyc ?_ ?_;omega)|refine v_drawn0 (id:=8) pl148_8 (by kernel_rfl) ?_|fail)
    refine v_callO (cadd_s b (n + i) m (str l) 191 (by omega)) ?_
    rintro v Γ' ⟨rfl, rfl⟩
    rw [Nat.add_assoc n i m]
    (try dsimp only [List.cons_append, List.nil_append])
    repeat' (first | refine stp ?_|(refine v_spT ?_ ?_;omega)|(refine v_spF ?_ ?_;omega)|refine v_spD (fun hc=>?_) (fun hc=>?_)|(refine v_yc ?_ ?_;omega)|refine ⟨?_,?_,?_⟩|refine ⟨?_,?_⟩|(refine v_tyc ?_ ?_;omega)|refine v_drawn0 (id:=8) pl148_8 (by kernel_rfl) ?_|fail)
    refine v_again (i + m) (by omega) ?_ inferInstance hmw
    simp only [hw1, hw2, hsr, Int.toNat_natCast, hstep]
    rw [show ((i + m : Nat) : Int) = (i : Int) + m by omega, show (w : Int) - i - m = (w : Int) - (i + m) by omega]
  · obtain rfl : i = w := by omega
    repeat' (first | refine stp ?_|(refine v_spT ?_ ?_;omega)|(refine v_spF ?_ ?_;omega)|refine v_spD (fun hc=>?_) (fun hc=>?_)|(refine v_yc ?_ ?_;omega)|refine ⟨?_,?_,?_⟩|refine ⟨?_,?_⟩|(refine v_tyc ?_ ?_;omega)|refine v_drawn0 (id:=8) pl148_8 (by kernel_rfl) ?_|fail)
    refine v_o2 Tryz.results148 (.inl ⟨by omega, rfl, rfl⟩) ⟨_, inferInstance⟩
end Go.Proofs.YtdfoijfjlhjeaaaGreat

/- Messages as bits, in plain Lean: writing and reading, each the other's way back. -/
namespace Go.Proofs.YtdfoijfjlhjeaaaGreat
open Go
abbrev Bs := List Bool
/-- reading something off bits: the thing, and the bits behind it -/
abbrev Rd (α : Type) := Bs → Option (α × Bs)
def rdNum (w : Nat) : Rd Int := fun b => if w ≤ b.length then some ((valOf (b.take w) : Nat), b.drop w) else none
def rdBind {α β : Type} (p : Rd α) (f : α → Rd β) : Rd β := fun b => match p b with
  | none => none
  | some (x, r) => f x r
def rdMap {α β : Type} (p : Rd α) (f : α → β) : Rd β := rdBind p fun x r => some (f x, r)
def rdList {α : Type} (p : Rd α) : Nat → Rd (List α)
  | 0 => fun b => some ([], b)
  | k + 1 => rdBind p fun x => rdMap (rdList p k) fun l => x :: l
/-- p reads what e writes, of the things that are fit -/
structure Codec {α : Type} (p : Rd α) (e : α → Bs) (ok : α → Prop) : Prop where
  back : ∀ x r, ok x → p (e x ++ r) = some (x, r)
  forth : ∀ b x r, p b = some (x, r) → b = e x ++ r ∧ ok x
def wNum (w : Nat) (n : Int) : Bs := bitsOf w n.toNat
abbrev okN (w : Nat) (n : Int) : Prop := 0 ≤ n ∧ n < 2 ^ w
theorem numC (w : Nat) : Codec (rdNum w) (wNum w) (okN w) where
  back x r h := by
    unfold rdNum wNum
    have hl : (bitsOf w x.toNat).length = w := bitsOf_len _ _
    have hx : x.toNat < 2 ^ w := by have := h.2; have h2 : ((2 ^ w : Nat) : Int) = 2 ^ w := by simp
                                    omega
    rw [if_pos (by rw [List.length_append]; omega), List.take_left' hl, List.drop_left' hl, valOf_bitsOf, Nat.mod_eq_of_lt hx, Int.toNat_of_nonneg h.1]
  forth b x r h := by
    unfold rdNum at h
    split at h
    · rename_i hw
      cases h
      have hl : (b.take w).length = w := by rw [List.length_take]; omega
      have hv := valOf_lt w _ hl
      refine ⟨?_, Int.natCast_nonneg _, ?_⟩
      · unfold wNum; rw [Int.toNat_natCast, bitsOf_valOf w _ hl, List.take_append_drop]
      · have h2 : ((2 ^ w : Nat) : Int) = 2 ^ w := by simp
        omega
    · cases h
theorem mapC {α β : Type} {p : Rd α} {e : α → Bs} {ok : α → Prop} (h : Codec p e ok) (f : α → β) (g : β → α) (hgf : ∀ x, g (f x) = x) (hfg : ∀ y, f (g y) = y) : Codec (rdMap p f) (fun y => e (g y)) (fun y => ok (g y)) where
  back y r hy := by unfold rdMap rdBind; rw [h.back _ _ hy]; show some (f (g y), r) = _; rw [hfg]
  forth b y r hb := by
    unfold rdMap rdBind at hb
    cases hp : p b with
    | none => rw [hp] at hb; cases hb
    | some z =>
      obtain ⟨x, r'⟩ := z
      rw [hp] at hb
      simp only [Option.some.injEq, Prod.mk.injEq] at hb
      obtain ⟨rfl, rfl⟩ := hb
      rw [hgf]
      exact h.forth _ _ _ hp
theorem pairC {α β : Type} {p : Rd α} {e : α → Bs} {ok : α → Prop} {q : Rd β} {e' : β → Bs} {ok' : β → Prop} (h : Codec p e ok) (h' : Codec q e' ok') :
    Codec (rdBind p fun x => rdMap q fun y => (x, y)) (fun z => e z.1 ++ e' z.2) (fun z => ok z.1 ∧ ok' z.2) where
  back z r hz := by
    unfold rdBind
    rw [List.append_assoc, h.back _ _ hz.1]
    show rdMap q _ _ = _
    unfold rdMap rdBind
    rw [h'.back _ _ hz.2]
  forth b z r hb := by
    unfold rdBind at hb
    cases hp : p b with
    | none => rw [hp] at hb; cases hb
    | some x =>
      obtain ⟨x, r'⟩ := x
      rw [hp] at hb
      simp only [rdMap, rdBind] at hb
      cases hq : q r' with
      | none => rw [hq] at hb; cases hb
      | some y =>
        obtain ⟨y, r''⟩ := y
        rw [hq] at hb
        simp only [Option.some.injEq, Prod.mk.injEq] at hb
        obtain ⟨rfl, rfl⟩ := hb
        obtain ⟨e1, o1⟩ := h.forth _ _ _ hp
        obtain ⟨e2, o2⟩ := h'.forth _ _ _ hq
        exact ⟨by rw [e1, e2, List.append_assoc], o1, o2⟩
theorem listC {α : Type} {p : Rd α} {e : α → Bs} {ok : α → Prop} (h : Codec p e ok) : ∀ k, Codec (rdList p k) (fun l => l.flatMap e) (fun l => l.length = k ∧ ∀ x ∈ l, ok x)
  | 0 => { back := fun l r hl => by obtain rfl := List.eq_nil_of_length_eq_zero hl.1; rfl
           forth := fun b l r hb => by simp only [rdList, Option.some.injEq, Prod.mk.injEq] at hb; obtain ⟨rfl, rfl⟩ := hb; exact ⟨rfl, rfl, by simp⟩ }
  | k + 1 =>
    { back := fun l r hl => by
        match l, hl with
        | x :: l, hl =>
          have hl' : l.length = k := by simpa using hl.1
          rw [List.flatMap_cons, List.append_assoc]
          unfold rdList rdBind
          rw [h.back _ _ (hl.2 x (by simp))]
          show rdMap _ _ _ = _
          unfold rdMap rdBind
          rw [(listC h k).back l r ⟨hl', fun y hy => hl.2 y (List.mem_cons_of_mem _ hy)⟩]
      forth := fun b l r hb => by
        unfold rdList rdBind at hb
        cases hp : p b with
        | none => rw [hp] at hb; cases hb
        | some x =>
          obtain ⟨x, r'⟩ := x
          rw [hp] at hb
          simp only [rdMap, rdBind] at hb
          cases hq : rdList p k r' with
          | none => rw [hq] at hb; cases hb
          | some y =>
            obtain ⟨y, r''⟩ := y
            rw [hq] at hb
            simp only [Option.some.injEq, Prod.mk.injEq] at hb
            obtain ⟨rfl, rfl⟩ := hb
            obtain ⟨e1, o1⟩ := h.forth _ _ _ hp
            obtain ⟨e2, o2⟩ := (listC h k).forth _ _ _ hq
            exact ⟨by rw [e1, e2, List.flatMap_cons, List.append_assoc], by rw [List.length_cons, o2.1], fun z hz => by
              rcases List.mem_cons.1 hz with rfl | hz
              · exact o1
              · exact o2.2 z hz⟩ }
/-- a list with its length in w bits ahead -/
def rdCnt {α : Type} (w : Nat) (p : Rd α) : Rd (List α) := rdBind (rdNum w) fun n => rdList p n.toNat
def wCnt {α : Type} (w : Nat) (e : α → Bs) (l : List α) : Bs := wNum w l.length ++ l.flatMap e
theorem cntC {α : Type} {p : Rd α} {e : α → Bs} {ok : α → Prop} (h : Codec p e ok) (w : Nat) : Codec (rdCnt w p) (wCnt w e) (fun l => okN w l.length ∧ ∀ x ∈ l, ok x) where
  back l r hl := by
    unfold rdCnt wCnt rdBind
    rw [List.append_assoc, (numC w).back _ _ hl.1]
    show rdList p (l.length : Int).toNat _ = _
    rw [Int.toNat_natCast, (listC h l.length).back l r ⟨rfl, hl.2⟩]
  forth b l r hb := by
    unfold rdCnt rdBind at hb
    cases hp : rdNum w b with
    | none => rw [hp] at hb; cases hb
    | some x =>
      obtain ⟨n, r'⟩ := x
      rw [hp] at hb
      obtain ⟨e1, o1⟩ := (numC w).forth _ _ _ hp
      obtain ⟨e2, o2⟩ := (listC h n.toNat).forth _ _ _ hb
      have hn : (l.length : Int) = n := by have := o2.1; have := o1.1; omega
      refine ⟨?_, by rw [hn]; exact o1, o2.2⟩
      unfold wCnt
      rw [e1, e2, hn, List.append_assoc]
theorem rdList_none {α : Type} {p : Rd α} {k : Nat} {b : Bs} (h : p b = none) : rdList p (k + 1) b = none := by
  show rdBind p _ b = _
  unfold rdBind; rw [h]
theorem rdList_some {α : Type} {p : Rd α} {k : Nat} {b r : Bs} {x : α} (h : p b = some (x, r)) : rdList p (k + 1) b = (rdList p k r).map fun z => (x :: z.1, z.2) := by
  show rdBind p _ b = _
  unfold rdBind; rw [h]
  show rdMap (rdList p k) _ r = _
  unfold rdMap rdBind
  cases rdList p k r <;> rfl
/-! ### the pieces -/
def rdKey : Rd ApiKey := rdMap (rdBind (rdNum 16) fun x => rdMap (rdNum 8) fun y => (x, y)) fun z => ⟨z.1, z.2⟩
def wKey (k : ApiKey) : Bs := wNum 16 k.Base ++ wNum 8 k.Step
theorem keyC : Codec rdKey wKey (fun k => okN 16 k.Base ∧ okN 8 k.Step) := mapC (pairC (numC 16) (numC 8)) (fun z => (⟨z.1, z.2⟩ : ApiKey)) (fun k => (k.Base, k.Step)) (fun _ => rfl) (fun _ => rfl)
def rdBox : Rd ApiBox := rdMap (rdBind rdKey fun x => rdMap rdKey fun y => (x, y)) fun z => ⟨z.1, z.2⟩
def wBox (k : ApiBox) : Bs := wKey k.Under ++ wKey k.Load
theorem boxC : Codec rdBox wBox (fun k => (okN 16 k.Under.Base ∧ okN 8 k.Under.Step) ∧ okN 16 k.Load.Base ∧ okN 8 k.Load.Step) := mapC (pairC keyC keyC) (fun z => (⟨z.1, z.2⟩ : ApiBox)) (fun k => (k.Under, k.Load)) (fun _ => rfl) (fun _ => rfl)
def rdSeat : Rd ApiSeat := rdMap (rdBind (rdNum 8) fun x => rdMap (rdNum 6) fun y => (x, y)) fun z => ⟨z.1, z.2⟩
def wSeat (k : ApiSeat) : Bs := wNum 8 k.Who ++ wNum 6 k.Slot
theorem seatC : Codec rdSeat wSeat (fun k => okN 8 k.Who ∧ okN 6 k.Slot) := mapC (pairC (numC 8) (numC 6)) (fun z => (⟨z.1, z.2⟩ : ApiSeat)) (fun k => (k.Who, k.Slot)) (fun _ => rfl) (fun _ => rfl)
def rdItem : Rd ApiItem := rdMap (rdBind (rdBind (rdNum 5) fun x => rdMap (rdNum 7) fun y => (x, y)) fun x => rdMap rdBox fun y => (x, y)) fun z => ⟨z.1.1, z.1.2, z.2⟩
def wItem (k : ApiItem) : Bs := wNum 5 k.Node ++ wNum 7 k.From ++ wBox k.Box
theorem itemC : Codec rdItem wItem (fun k => (okN 5 k.Node ∧ okN 7 k.From) ∧ (okN 16 k.Box.Under.Base ∧ okN 8 k.Box.Under.Step) ∧ okN 16 k.Box.Load.Base ∧ okN 8 k.Box.Load.Step) :=
  mapC (pairC (pairC (numC 5) (numC 7)) boxC) (fun z => (⟨z.1.1, z.1.2, z.2⟩ : ApiItem)) (fun k => ((k.Node, k.From), k.Box)) (fun _ => rfl) (fun _ => rfl)
structure RekeyM where
  Epoch : Int
  Leaves : List ApiSeat
  Joins : List ApiSeat
  Items : List ApiItem
def rdRekey : Rd RekeyM := rdMap (rdBind (rdBind (rdBind (rdNum 8) fun x => rdMap (rdCnt 7 rdSeat) fun y => (x, y)) fun x => rdMap (rdCnt 7 rdSeat) fun y => (x, y)) fun x => rdMap (rdCnt 11 rdItem) fun y => (x, y)) fun z => ⟨z.1.1.1, z.1.1.2, z.1.2, z.2⟩
def wRekey (r : RekeyM) : Bs := wNum 8 r.Epoch ++ wCnt 7 wSeat r.Leaves ++ wCnt 7 wSeat r.Joins ++ wCnt 11 wItem r.Items
theorem rekeyC : Codec rdRekey wRekey (fun r => ((okN 8 r.Epoch ∧ okN 7 r.Leaves.length ∧ ∀ x ∈ r.Leaves, okN 8 x.Who ∧ okN 6 x.Slot) ∧ okN 7 r.Joins.length ∧ ∀ x ∈ r.Joins, okN 8 x.Who ∧ okN 6 x.Slot) ∧ okN 11 r.Items.length ∧ ∀ k ∈ r.Items, (okN 5 k.Node ∧ okN 7 k.From) ∧ (okN 16 k.Box.Under.Base ∧ okN 8 k.Box.Under.Step) ∧ okN 16 k.Box.Load.Base ∧ okN 8 k.Box.Load.Step) :=
  mapC (pairC (pairC (pairC (numC 8) (cntC seatC 7)) (cntC seatC 7)) (cntC itemC 11)) (fun z => (⟨z.1.1.1, z.1.1.2, z.1.2, z.2⟩ : RekeyM)) (fun r => (((r.Epoch, r.Leaves), r.Joins), r.Items)) (fun _ => rfl) (fun _ => rfl)
/-- the text of a sealed message -/
def rdByte : Rd UInt8 := rdMap (rdNum 8) fun x => UInt8.ofNat x.toNat
def wByte (c : UInt8) : Bs := wNum 8 (c.toNat : Int)
theorem byteC : Codec rdByte wByte (fun _ => True) where
  back c r _ := by
    have h := c.toNat_lt
    unfold rdByte rdMap rdBind wByte
    rw [(numC 8).back _ _ ⟨Int.natCast_nonneg _, by have : (2 : Int) ^ 8 = 256 := rfl
                                                    omega⟩]
    simp
  forth b c r hb := by
    unfold rdByte rdMap rdBind at hb
    cases hp : rdNum 8 b with
    | none => rw [hp] at hb; cases hb
    | some z =>
      obtain ⟨x, r'⟩ := z
      rw [hp] at hb
      simp only [Option.some.injEq, Prod.mk.injEq] at hb
      obtain ⟨rfl, rfl⟩ := hb
      obtain ⟨e, h1, h2⟩ := (numC 8).forth _ _ _ hp
      have h3 : (2 : Int) ^ 8 = 256 := rfl
      refine ⟨?_, trivial⟩
      unfold wByte
      rw [e, UInt8.toNat_ofNat', Nat.mod_eq_of_lt (by omega), Int.toNat_of_nonneg h1]
structure SealedM where
  Epoch : Int
  Under : ApiKey
  Text : List UInt8
def rdSealed : Rd SealedM := rdMap (rdBind (rdBind (rdNum 8) fun x => rdMap rdKey fun y => (x, y)) fun x => rdMap (rdCnt 7 rdByte) fun y => (x, y)) fun z => ⟨z.1.1, z.1.2, z.2⟩
def wSealed (r : SealedM) : Bs := wNum 8 r.Epoch ++ wKey r.Under ++ wCnt 7 wByte r.Text
theorem sealedC : Codec rdSealed wSealed (fun r => (okN 8 r.Epoch ∧ okN 16 r.Under.Base ∧ okN 8 r.Under.Step) ∧ okN 7 r.Text.length ∧ ∀ x ∈ r.Text, True) :=
  mapC (pairC (pairC (numC 8) keyC) (cntC byteC 7)) (fun z => (⟨z.1.1, z.1.2, z.2⟩ : SealedM)) (fun r => ((r.Epoch, r.Under), r.Text)) (fun _ => rfl) (fun _ => rfl)
structure ReplyM where
  Who : Int
  Slot : Int
  Epoch : Int
  Path : List ApiBox
def rdReply : Rd ReplyM := rdMap (rdBind (rdBind (rdBind (rdNum 8) fun x => rdMap (rdNum 6) fun y => (x, y)) fun x => rdMap (rdNum 8) fun y => (x, y)) fun x => rdMap (rdList rdBox 3) fun y => (x, y)) fun z => ⟨z.1.1.1, z.1.1.2, z.1.2, z.2⟩
def wReply (r : ReplyM) : Bs := wNum 8 r.Who ++ wNum 6 r.Slot ++ wNum 8 r.Epoch ++ r.Path.flatMap wBox
theorem replyC : Codec rdReply wReply (fun r => ((okN 8 r.Who ∧ okN 6 r.Slot) ∧ okN 8 r.Epoch) ∧ r.Path.length = 3 ∧ ∀ k ∈ r.Path, (okN 16 k.Under.Base ∧ okN 8 k.Under.Step) ∧ okN 16 k.Load.Base ∧ okN 8 k.Load.Step) :=
  mapC (pairC (pairC (pairC (numC 8) (numC 6)) (numC 8)) (listC boxC 3)) (fun z => (⟨z.1.1.1, z.1.1.2, z.1.2, z.2⟩ : ReplyM)) (fun r => (((r.Who, r.Slot), r.Epoch), r.Path)) (fun _ => rfl) (fun _ => rfl)
end Go.Proofs.YtdfoijfjlhjeaaaGreat

/- wire.reader: reading pieces, giving up by a panic. -/
namespace Go.Proofs.YtdfoijfjlhjeaaaGreat
open Go Go.SX Go.RowKit
set_option maxRecDepth 100000
set_option maxHeartbeats 0
set_option synthInstance.maxSize 100000
set_option synthInstance.maxHeartbeats 400000
/-- the reader at b stands ahead of these bits of the text -/
def RdAt (b : Nat) (l : List UInt8) (s : Hp) (bs : Bs) : Prop := ∃ n, n ≤ 8 * l.length ∧ s = rdS b n l ∧ (unp l).drop n = bs
abbrev rdr (b : Nat) : Value := .agg #[pt b]
abbrev shortV : Value := .iface 208 (.agg #[])
/-- what a reading function does -/
def RdS (f : FuncId) (b : Nat) (l : List UInt8) {α : Type} (p : Rd α) (out : α → Value → List Hp → Prop) (more : List Value) : Prop :=
  ∀ (bs : Bs) (s : Hp), RdAt b l s bs → SpecP false Tryz.prog f (rdr b :: more).toArray [] [s] shortV (p bs = none) fun v Γ => ∃ x bs' s' Γ', p bs = some (x, bs') ∧ RdAt b l s' bs' ∧ out x v Γ' ∧ Γ = s' :: Γ'
theorem wrapS {x : Nat} (h : x < 9223372036854775808) : IntKind.i64.wrap (x : Int) = x := by
  have : (x : Int) % 18446744073709551616 = x := Int.emod_eq_of_lt (by omega) (by omega)
  simp [IntKind.wrap, IntKind.bits, IntKind.signed, this]; omega
theorem num_s (b : Nat) (l : List UInt8) (hl : l.length ≤ 281474976710656) (w : Nat) (h1 : 1 ≤ w) (h16 : w ≤ 16) : RdS 127 b l (rdNum w) (fun x v Γ => v = .int .i64 x ∧ Γ = []) [.int .i64 w] := by
  rintro bs s ⟨n, hn, rfl, hbs⟩
  refine spec_p2 Tryz.func127 Tryz.ntmps127 rfl rfl (fun M w0 => ?_)
  repeat' (first | refine stp ?_|(refine v_spT ?_ ?_;omega)|(refine v_spF ?_ ?_;omega)|refine v_box (fun bb=>?_)|fail)
  refine v_callO (take_s b n w l hn hl h1 (by omega)) ?_
  rintro v Γ' (⟨hw, rfl, rfl⟩ | ⟨hw, rfl, rfl⟩)
  · have hp : 2 ^ w ≤ 2 ^ 16 := Nat.pow_le_pow_right (by decide) h16
    have hx := nxt_lt hw
    have hwr : IntKind.i64.wrap ((nxt l n w : Nat) : Int) = (nxt l n w : Nat) := wrapS (by omega)
    have hlen : bs.length = 8 * l.length - n := by rw [← hbs, List.length_drop, unp_len]
    have hr : rdNum w bs = some (((nxt l n w : Nat) : Int), (unp l).drop (n + w)) := by
      unfold rdNum
      rw [if_pos (by omega), ← hbs, List.drop_drop]; rfl
    (try dsimp only [List.cons_append, List.nil_append])
    repeat' (first | refine stp ?_|(refine v_spT ?_ ?_;omega)|(refine v_spF ?_ ?_;omega)|refine v_box (fun bb=>?_)|fail)
    rw [hwr]
    exact v_retP (v_o1 Tryz.results127 ⟨_, _, _, _, hr, ⟨n + w, hw, rfl, rfl⟩, ⟨rfl, rfl⟩, rfl⟩ ⟨_, inferInstance⟩)
  · have hlen : bs.length = 8 * l.length - n := by rw [← hbs, List.length_drop, unp_len]
    (try dsimp only [List.cons_append, List.nil_append])
    repeat' (first | refine stp ?_|(refine v_spT ?_ ?_;omega)|(refine v_spF ?_ ?_;omega)|refine v_box (fun bb=>?_)|fail)
    refine v_panic ?_
    unfold rdNum
    rw [if_neg (by omega)]
end Go.Proofs.YtdfoijfjlhjeaaaGreat

/- wire.reader: keys, boxes, seats, the parts of messages. -/
namespace Go.Proofs.YtdfoijfjlhjeaaaGreat
open Go Go.SX Go.RowKit
set_option maxRecDepth 100000
set_option maxHeartbeats 0
set_option synthInstance.maxSize 100000
set_option synthInstance.maxHeartbeats 400000
structure RsG where
  i : Nat
  v : Value
  s : Hp
  r : Hp
  xs : List ApiSeat
  bs : Bs
structure RsOk (b : Nat) (l : List UInt8) (k : Nat) (bs1 : Bs) (g : RsG) : Prop where
  le : g.i ≤ k
  own : OwnS g.v 162 ApiSeat 2 cvApiSeat g.xs g.s
  len : g.xs.length = g.i
  at' : RdAt b l g.r g.bs
  eq : rdList rdSeat k bs1 = (rdList rdSeat (k - g.i) g.bs).map fun z => (g.xs ++ z.1, z.2)
section
variable (b : Nat) (l : List UInt8) (hl : l.length ≤ 281474976710656)
include hl
theorem key_s : RdS 151 b l rdKey (fun x v Γ => v = avApiKey x ∧ Γ = []) [] := by
  rintro bs s hs
  refine spec_p1 Tryz.func151 Tryz.ntmps151 rfl rfl (fun M w0 => ?_)
  repeat' (first | refine stp ?_|refine v_alloc' (fun ba=>?_)|refine v_box (fun bb=>?_)|fail)
  refine v_callP (num_s b l hl 16 (by decide) (by decide) bs s hs) (fun h => by simp [rdKey, rdMap, rdBind, h]) ?_
  rintro v Γ' ⟨x, bs1, s1, Γ1, hx, hs1, ⟨rfl, rfl⟩, rfl⟩
  (try dsimp only [List.cons_append, List.nil_append])
  repeat' (first | refine stp ?_|refine v_alloc' (fun ba=>?_)|refine v_box (fun bb=>?_)|fail)
  refine v_callP (num_s b l hl 8 (by decide) (by decide) bs1 s1 hs1) (fun h => by simp [rdKey, rdMap, rdBind, hx, h]) ?_
  rintro v Γ' ⟨y, bs2, s2, Γ1, hy, hs2, ⟨rfl, rfl⟩, rfl⟩
  (try dsimp only [List.cons_append, List.nil_append])
  repeat' (first | refine stp ?_|refine v_alloc' (fun ba=>?_)|refine v_box (fun bb=>?_)|fail)
  have hr : rdKey bs = some (⟨x, y⟩, bs2) := by simp [rdKey, rdMap, rdBind, hx, hy]
  exact v_retP (v_o1 Tryz.results151 ⟨_, _, _, _, hr, hs2, ⟨rfl, rfl⟩, rfl⟩ ⟨_, inferInstance⟩)
theorem box_s : RdS 150 b l rdBox (fun x v Γ => v = avApiBox x ∧ Γ = []) [] := by
  rintro bs s hs
  refine spec_p1 Tryz.func150 Tryz.ntmps150 rfl rfl (fun M w0 => ?_)
  repeat' (first | refine stp ?_|refine v_alloc' (fun ba=>?_)|refine v_box (fun bb=>?_)|refine ⟨?_,?_,?_⟩|refine ⟨?_,?_⟩|refine v_tValT (by decide +kernel) ?_|refine v_drawnK (id:=2) 4 pl150_2 (by kernel_rfl) ?_|fail)
  refine v_callP (key_s b l hl bs s hs) (fun h => by simp [rdBox, rdMap, rdBind, h]) ?_
  rintro v Γ' ⟨x, bs1, s1, Γ1, hx, hs1, ⟨rfl, rfl⟩, rfl⟩
  (try dsimp only [List.cons_append, List.nil_append])
  repeat' (first | refine stp ?_|refine v_alloc' (fun ba=>?_)|refine v_box (fun bb=>?_)|refine ⟨?_,?_,?_⟩|refine ⟨?_,?_⟩|refine v_tValT (by decide +kernel) ?_|fail)
  refine v_drawn (id:=2) 4 pl150_2 [] [[(ba, .cells #[.int .i64 x.Base, .int .i64 x.Step] 28 (0, 0))], [(bb, .cells #[pt b] 150 (0, 0))]] (by kernel_rfl) ?_
  repeat' (first | refine stp ?_|refine v_alloc' (fun ba=>?_)|refine v_box (fun bb=>?_)|refine ⟨?_,?_,?_⟩|refine ⟨?_,?_⟩|refine v_tValT (by decide +kernel) ?_|refine v_drawnK (id:=2) 4 pl150_2 (by kernel_rfl) ?_|fail)
  refine v_callP (key_s b l hl bs1 s1 hs1) (fun h => by simp [rdBox, rdMap, rdBind, hx, h]) ?_
  rintro v Γ' ⟨y, bs2, s2, Γ1, hy, hs2, ⟨rfl, rfl⟩, rfl⟩
  (try dsimp only [List.cons_append, List.nil_append])
  repeat' (first | refine stp ?_|refine v_alloc' (fun ba=>?_)|refine v_box (fun bb=>?_)|refine ⟨?_,?_,?_⟩|refine ⟨?_,?_⟩|refine v_tValT (by decide +kernel) ?_|refine v_drawnK (id:=2) 4 pl150_2 (by kernel_rfl) ?_|fail)
  have hr : rdBox bs = some (⟨x, y⟩, bs2) := by simp [rdBox, rdMap, rdBind, hx, hy]
  exact v_retP (v_o1 Tryz.results150 ⟨_, _, _, _, hr, hs2, ⟨rfl, rfl⟩, rfl⟩ ⟨_, inferInstance⟩)
theorem seats_s : RdS 149 b l (rdCnt 7 rdSeat) (fun x v Γ => ∃ s, OwnS v 162 ApiSeat 2 cvApiSeat x s ∧ Γ = [s]) [] := by
  rintro bs s hs
  refine spec_p1 Tryz.func149 Tryz.ntmps149 rfl rfl (fun M w0 => ?_)
  repeat' (first | refine stp ?_|(refine v_spT ?_ ?_;omega)|(refine v_spF ?_ ?_;omega)|(refine v_yc ?_ ?_;omega)|refine v_box (fun bb=>?_)|refine v_lit (fun bl=>?_)|(refine v_push ?_ (fun sv ss hs hln=>?_);omega)|fail)
  refine v_callP (num_s b l hl 7 (by decide) (by decide) bs s hs) (fun h => by simp [rdCnt, rdBind, h]) ?_
  rintro v Γ' ⟨n, bs1, s1, Γ1, hn, hs1, ⟨rfl, rfl⟩, rfl⟩
  (try dsimp only [List.cons_append, List.nil_append])
  repeat' (first | refine stp ?_|(refine v_spT ?_ ?_;omega)|(refine v_spF ?_ ?_;omega)|(refine v_yc ?_ ?_;omega)|refine v_box (fun bb=>?_)|refine v_lit (fun bl=>?_)|(refine v_push ?_ (fun sv ss hs hln=>?_);omega)|fail)
  have hn0 := ((numC 7).forth _ _ _ hn).2
  obtain ⟨k, rfl⟩ : ∃ k : Nat, n = (k : Int) := ⟨n.toNat, by omega⟩
  have hk : k < 128 := by have := hn0.2; omega
  refine v_lp [3, 7] [1, 6] (fun g : RsG => [g.v, .int .i64 g.i]) (fun g => [g.r, g.s, [(bb, .cells #[pt b] 150 (0, 0))]]) (RsOk b l k bs1) (fun g => k - g.i) ⟨0, .slice none 0 0, [], s1, [], bs1⟩ (fun _ => rfl) rfl inferInstance ⟨Nat.zero_le _, OwnS.nil, rfl, hs1, by rw [Nat.sub_zero]; cases rdList rdSeat k bs1 <;> rfl⟩ ?_
  clear hs1
  rintro ⟨i, v, s, sr, xs, bsr⟩ ⟨hi, hv, hx, hs1, hr⟩
  dsimp only at hi hv hx hs1 hr ⊢
  (try dsimp only [zipE_c, zipE_n, List.cons_append, List.nil_append])
  rcases Nat.lt_or_ge i k with hlt | hge
  · obtain ⟨q, hq⟩ : ∃ q, k - i = q + 1 := ⟨k - i - 1, by omega⟩
    rw [hq] at hr
    have hall : rdCnt 7 rdSeat bs = rdList rdSeat k bs1 := by simp [rdCnt, rdBind, hn]
    repeat' (first | refine stp ?_|(refine v_spT ?_ ?_;omega)|(refine v_spF ?_ ?_;omega)|(refine v_yc ?_ ?_;omega)|refine v_box (fun bb=>?_)|refine v_lit (fun bl=>?_)|(refine v_push ?_ (fun sv ss hs hln=>?_);omega)|fail)
    refine v_callP (num_s b l hl 8 (by decide) (by decide) bsr sr hs1) (fun h => by rw [hall, hr, rdList_none (by simp [rdSeat, rdMap, rdBind, h])]; rfl) ?_
    rintro u Γ' ⟨x, bs2, s2, Γ1, h2, hs2, ⟨rfl, rfl⟩, rfl⟩
    (try dsimp only [List.cons_append, List.nil_append])
    repeat' (first | refine stp ?_|(refine v_spT ?_ ?_;omega)|(refine v_spF ?_ ?_;omega)|(refine v_yc ?_ ?_;omega)|refine v_box (fun bb=>?_)|refine v_lit (fun bl=>?_)|(refine v_push ?_ (fun sv ss hs hln=>?_);omega)|fail)
    refine v_callP (num_s b l hl 6 (by decide) (by decide) bs2 s2 hs2) (fun h => by rw [hall, hr, rdList_none (by simp [rdSeat, rdMap, rdBind, h2, h])]; rfl) ?_
    rintro u Γ' ⟨y, bs3, s3, Γ1, h3, hs3, ⟨rfl, rfl⟩, rfl⟩
    (try dsimp only [List.cons_append, List.nil_append])
    repeat' (first | refine stp ?_|(refine v_spT ?_ ?_;omega)|(refine v_spF ?_ ?_;omega)|(refine v_yc ?_ ?_;omega)|refine v_box (fun bb=>?_)|refine v_lit (fun bl=>?_)|(refine v_push ?_ (fun sv ss hs hln=>?_);omega)|fail)
    refine v_again ⟨i + 1, sv, ss, s3, xs ++ [⟨x, y⟩], bs3⟩ (by dsimp only; omega) rfl inferInstance ⟨hlt, hs, ?_, hs3, ?_⟩
    · dsimp only; rw [List.length_append, hx]; rfl
    · dsimp only
      rw [hr, show k - (i + 1) = q by omega]
      have e : rdSeat bsr = some (⟨x, y⟩, bs3) := by simp [rdSeat, rdMap, rdBind, h2, h3]
      rw [rdList_some e]
      cases rdList rdSeat q bs3 <;> simp
  · obtain rfl : i = k := by omega
    rw [Nat.sub_self] at hr
    have hall : rdCnt 7 rdSeat bs = some (xs, bsr) := by
      unfold rdCnt rdBind
      rw [hn]
      show rdList rdSeat (i : Int).toNat bs1 = _
      rw [Int.toNat_natCast, hr]
      simp [rdList]
    repeat' (first | refine stp ?_|(refine v_spT ?_ ?_;omega)|(refine v_spF ?_ ?_;omega)|(refine v_yc ?_ ?_;omega)|refine v_box (fun bb=>?_)|refine v_lit (fun bl=>?_)|(refine v_push ?_ (fun sv ss hs hln=>?_);omega)|fail)
    exact v_retP (v_o1 Tryz.results149 ⟨_, _, _, _, hall, hs1, ⟨_, hv, rfl⟩, rfl⟩ ⟨_, inferInstance⟩)
end
end Go.Proofs.YtdfoijfjlhjeaaaGreat

/- Symbolic execution: bytes as a string. Of whatever program. -/
namespace Go.SX
set_option linter.unusedSimpArgs false
set_option linter.unusedVariables false
open Go Go.RowKit
abbrev uv8 (x : Int) : List Value := [.int .u8 x]
def strOf (xs : List Int) : List UInt8 := xs.map fun n => UInt8.ofNat n.toNat
theorem cvs_uv8 (xs : List Int) : cvs uv8 xs = xs.map (Value.int .u8) := by unfold cvs; induction xs <;> simp_all
section
variable {P : Program} {R : List Hp} {L : Env} {Γ : List Hp}
theorem conv_zero (w : World) (src e dst : TypeId) (hs : P.underlying src = some (.slice e)) (he : P.underlying e = some (.int .u8)) (hd : P.underlying dst = some .string) (p : Option Addr) (c : Nat) : (convert src dst (.slice p 0 c)).run P w = .ok (.string ByteArray.empty) w := by
  rw [run_convert_bytes_string w src dst e p 0 c hs he hd]
  cases p with
  | none => simp [Conv.bytesToString]
  | some a =>
    have hl := run_loadCells_list (P := P) w a [] (fun j v hj => by simp at hj)
    rw [run_bytesToString w a 0 c [] (by simpa using hl)]
    rfl
instance yStrB {T T' e : TypeId} {x : Operand} {v : Value} {xs : List Int} {s : Hp} [hx : Ev L x v] [hs : AtS v e Int 1 (fun x => [.int .u8 x]) xs s] [hg : Seg R Γ s] [h1 : Und P T (.slice e)] [h2 : Und P e (.int .u8)] [h3 : Und P T' .string] : Y P R L Γ (.convert T T' x) (.string ⟨(strOf xs).toArray⟩) := ⟨fun C n a w _ _ _ _ _ kn i => by
  have hw := hg.out C w i
  have hrun : (convert T T' v).run P w = .ok (.string ⟨(strOf xs).toArray⟩) w := by
    rcases hs.out.2 with ⟨hv, h0⟩ | ⟨b, off, cap, cur, et, fr, rfl, rfl, hk, hc, hf, hr⟩
    · obtain rfl := List.eq_nil_of_length_eq_zero h0
      have e1 : (⟨(strOf []).toArray⟩ : ByteArray) = ByteArray.empty := rfl
      rw [e1]
      rcases hv with rfl | ⟨p, c, rfl⟩
      · exact conv_zero w T e T' h1.out h2.out h3.out none 0
      · exact conv_zero w T e T' h1.out h2.out h3.out (some p) c
    · have hb := hw (b, .cells cur et fr) (by simp)
      refine run_convert_bytes_arg w T e h1.out h2.out b off xs.length cap xs rfl (fun i hi => ?_) T' h3.out
      rw [cell_of hb]
      have hg := congrArg (·[i]?) hr
      have e2 : (cvs uv8 xs)[i]? = some (.int .u8 xs[i]) := by rw [cvs_uv8, List.getElem?_map, List.getElem?_eq_getElem hi]; rfl
      have e3 : cvs (fun x => [Value.int .u8 x]) xs = cvs uv8 xs := rfl
      simp only [e3, e2, List.getElem?_take, Nat.mul_one, if_pos hi, List.getElem?_drop, Array.getElem?_toList] at hg
      rw [hg, List.getD_eq_getElem?_getD, List.getElem?_eq_getElem hi]
      rfl
  simp [execOp, hx.out n a kn, hrun]⟩
end
end Go.SX

/- Symbolic execution: a string as bytes. Of whatever program. -/
namespace Go.SX
set_option linter.unusedSimpArgs false
set_option linter.unusedVariables false
open Go Go.RowKit
/-- bytes as numbers -/
def nms (l : List UInt8) : List Int := l.map fun c => (c.toNat : Int)
theorem nms_len (l : List UInt8) : (nms l).length = l.length := List.length_map _
theorem cvs_nms (l : List UInt8) : cvs uv8 (nms l) = l.map fun c => Value.int .u8 (c.toNat : Int) := by rw [cvs_uv8, nms, List.map_map]; rfl
section
variable {P : Program} {C : Cx} {R : List Hp} {n : Nat} {all : Array Oper} {Q : Exit → Act → World → Prop} {L : Env} {Γ : List Hp} {K : Act → World → Prop}
theorem v_bytes {d T T' e : Nat} {x : Operand} {l : List UInt8} {ty : TypeId} {pos : String} {af : Array Edge} [hx : Ev L x (.string ⟨l.toArray⟩)] [h1 : Und P T .string] [h2 : Und P T' (.slice e)] [h3 : Und P e (.int .u8)] [hd : Is (Nat.ble n d = false)] (hl : l.length ≤ 9223372036854775807)
    (h : ∀ v s', AtS v e Int 1 (fun x => [.int .u8 x]) (nms l) s' → (nms l).length = l.length → VK C R n ((d, v) :: L) (s' :: Γ) K) : VK C R n L Γ (wp1 P all Q ⟨some d, .convert T T' x, ty, pos, af, none⟩ K) := VK.mk fun a w k iv => wp1.mk (by
  have hrun : (execOp a.eval ⟨some d, .convert T T' x, ty, pos, af, none⟩).run P w = .ok (.value (.slice (some ⟨w.heap.size, 0, none⟩) (⟨l.toArray⟩ : ByteArray).size (grownCap w (⟨l.toArray⟩ : ByteArray).size 0 e))) (w.drew.alloc (.cells (bytesRow ⟨l.toArray⟩ (grownCap w (⟨l.toArray⟩ : ByteArray).size 0 e)) e ((bytesRow ⟨l.toArray⟩ (grownCap w (⟨l.toArray⟩ : ByteArray).size 0 e)).size, (bytesRow ⟨l.toArray⟩ (grownCap w (⟨l.toArray⟩ : ByteArray).size 0 e)).size + 1))) := by
    simp [execOp, hx.out n a k, run_bytes_of_string w T T' e _ h1.out h2.out h3.out]
  simp only [Region.wanted, if_true]
  refine .inl ?_
  simp only [Oper.wp, hrun, Oper.upon]
  have hs : (⟨l.toArray⟩ : ByteArray).size = l.length := bs_size l
  refine (h _ [(w.heap.size, .cells (bytesRow ⟨l.toArray⟩ (grownCap w (⟨l.toArray⟩ : ByteArray).size 0 e)) e ((bytesRow ⟨l.toArray⟩ (grownCap w (⟨l.toArray⟩ : ByteArray).size 0 e)).size, (bytesRow ⟨l.toArray⟩ (grownCap w (⟨l.toArray⟩ : ByteArray).size 0 e)).size + 1))] ⟨?_⟩ (nms_len l)).out _ _ (k.put (lt_of_ble hd.out)) (iv.drew.new _)
  have hge := grownCap_ge w (⟨l.toArray⟩ : ByteArray).size 0 e
  have hle := grownCap_le_maxLen w (⟨l.toArray⟩ : ByteArray).size 0 e (by rw [hs]; unfold maxLen; omega)
  have hcv : cvs (fun x => [Value.int .u8 x]) (nms l) = l.map fun c => Value.int .u8 (c.toNat : Int) := cvs_nms l
  have hbr : ∀ c, (bytesRow ⟨l.toArray⟩ c).toList = (l.map fun c => Value.int .u8 (c.toNat : Int)) ++ List.replicate (c - l.length) (.int .u8 0) := fun c => by
    unfold bytesRow; rw [hs]; simp
  refine ⟨by rw [hcv, nms_len, List.length_map, Nat.mul_one], .inr ⟨_, 0, _, _, _, _, by rw [nms_len, hs], rfl, by rw [nms_len, ← hs]; exact hge, hle, ?_, ?_⟩⟩
  · rw [nms_len, Nat.mul_one, Nat.zero_add, ← Array.length_toList, hbr, List.length_append, List.length_map]; omega
  · rw [List.drop_zero, hbr, hcv, nms_len, Nat.mul_one]
    exact List.take_left' (List.length_map _))
end
end Go.SX

