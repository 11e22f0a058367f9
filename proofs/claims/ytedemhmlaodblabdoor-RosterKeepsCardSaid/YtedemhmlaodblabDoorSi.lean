/- slices.Sort and slices.Compact at int, by the shelf's contracts, as contracts here. -/
import Derived.Test.YtedemhmlaodblabDoorRa
import Derived.Test.YtedemhmlaodblabDoorSr
import Derived.Test.YtedemhmlaodblabDoorKs
namespace Go.Proofs.YtedemhmlaodblabDoor
set_option linter.unusedSimpArgs false
set_option linter.unusedVariables false
set_option maxHeartbeats 1000000
open Go Go.SX Go.RowKit Go.Proofs Go.Shelf Go.Sort
abbrev eI : Int → Value := Value.int .i64
theorem cvs_ic (l : List Int) : cvs ic l = l.map eI := by unfold cvs; induction l <;> simp_all
theorem putc_get (off : Nat) (d : List Int) (cur : Array Value) (h : off + d.length ≤ cur.size) : ((putCells eI off d.toArray cur).toList.drop off).take d.length = d.map eI := by
  refine List.ext_getElem? fun k => ?_
  by_cases hk : k < d.length
  · rw [List.getElem?_take, if_pos hk, List.getElem?_drop, Array.getElem?_toList, putCells, Array.getElem?_mapIdx, Array.getElem?_eq_getElem (by omega), Option.map_some, if_pos ⟨by omega, by simp; omega⟩, Nat.add_sub_cancel_left, List.getElem?_map, List.getElem?_eq_getElem hk, getElem!_pos d.toArray k (by simpa using hk)]
    simp
  · rw [List.getElem?_eq_none (by simp; omega), List.getElem?_eq_none (by simpa using hk)]
theorem holdsI {w : World} {b off cap : Nat} {cur : Array Value} {eb : TypeId} {l : List Int} (hb : w.heap[b]? = some (.cells cur eb (0, 0))) (h : (cur.toList.drop off).take (l.length * 1) = cvs ic l) : Holds eI w b off l.toArray := by
  intro j hj
  have hj : j < l.length := by simpa using hj
  constructor
  · rw [cell_of hb]
    have e1 : (cvs ic l)[j]? = cur[off + j]? := by
      rw [← h, List.getElem?_take, if_pos (by omega), List.getElem?_drop, Array.getElem?_toList]
    show cur[off + j]? = _
    rw [← e1, cvs_ic, List.getElem?_map, List.getElem?_eq_getElem hj, getElem!_pos l.toArray j (by simpa using hj)]
    simp
  · simp [World.frozen?, hb]
theorem inv_put {w : World} {b off n : Nat} {cur : Array Value} {eb : TypeId} {d : List Int} {os : Array Obj} {C : Cx} (hC : C = ⟨keys [[(b, Obj.cells cur eb (0, 0))]], w, false⟩) (i : Inv C [] [[(b, .cells cur eb (0, 0))]] w) :
    Inv C [] [[(b, .cells (putCells eI off d.toArray cur) eb (0, 0))]] (grow (putRow eI (Sort.ahead w n) b off d.toArray) os) := by
  subst hC
  have hb : w.heap[b]? = some (.cells cur eb (0, 0)) := i.own (b, _) (by simp)
  have hlt : b < w.heap.size := (Array.getElem?_eq_some_iff.1 hb).1
  have hnew : (grow (putRow eI (Sort.ahead w n) b off d.toArray) os).heap[b]? = some (.cells (putCells eI off d.toArray cur) eb (0, 0)) := by
    unfold putRow mapBlock grow
    show (_ ++ os)[b]? = _
    rw [Array.getElem?_append_left (by simpa [Sort.ahead] using hlt), Array.getElem?_modify, if_pos rfl]
    show (w.heap[b]?).map _ = _
    rw [hb]; rfl
  have hold : ∀ c, c < w.heap.size → c ≠ b → (grow (putRow eI (Sort.ahead w n) b off d.toArray) os).heap[c]? = w.heap[c]? := fun c hcl hcb => by
    unfold putRow mapBlock grow
    show (_ ++ os)[c]? = _
    rw [Array.getElem?_append_left (by simpa [Sort.ahead] using hcl), Array.getElem?_modify, if_neg (Ne.symm hcb)]
    rfl
  refine ⟨rfl, rfl, rfl, ?_, (by intro _ h; cases h), fun x hx => ?_, by simp [keys], (by intro _ _ h; cases h), fun c hc => .inl (by simpa [keys] using hc), fun c hcl hM => hold c hcl (by simpa [keys] using hM), fun h => by cases h⟩
  · unfold putRow mapBlock grow
    simp [Sort.ahead]
  · simp only [List.flatten_cons, List.flatten_nil, List.append_nil, List.mem_singleton] at hx
    subst hx
    exact hnew
theorem grow_nil (W : World) : grow W #[] = W := by unfold grow; simp
theorem sortI_s {v : Value} {l : List Int} {s : Hp} (h : OwnS v 3 Int 1 ic l s) (hll : l.length < 4611686018427387904) :
    SX.Spec Tryd.prog 18 #[v] [] [s] fun u Γ => u = .tuple #[] ∧ ∃ s', Γ = [s'] ∧ OwnS v 3 Int 1 ic (l.mergeSort fun x y => decide (x ≤ y)) s' := fun w i => by
  obtain ⟨hlen, hcase⟩ := h.out
  have hml : (l.mergeSort fun x y => decide (x ≤ y)).length = l.length := (List.mergeSort_perm _ _).length_eq
  rcases hcase with ⟨rfl, hn, rfl⟩ | ⟨b, off, cap, cur, eb, rfl, rfl, h3, h4, h5, h6⟩
  · obtain rfl := List.eq_nil_of_length_eq_zero hn
    refine (AnyM.slices_Sort_int_none sortI none 0 w).mono ?_
    rintro _ _ ⟨rfl, rfl⟩
    exact ⟨_, _, rfl, ⟨rfl, [], rfl, by simpa using h⟩, i⟩
  · have hb : w.heap[b]? = some (.cells cur eb (0, 0)) := i.own (b, _) (by simp)
    have hlt : b < w.heap.size := (Array.getElem?_eq_some_iff.1 hb).1
    refine (AnyM.slices_Sort_int sortI b off cap l w (holdsI (cap := cap) hb h6) hlt hll).mono ?_
    rintro e' w' ⟨rfl, n, os, rfl⟩
    refine ⟨_, [[(b, .cells (putCells eI off (l.mergeSort fun x y => decide (x ≤ y)).toArray cur) eb (0, 0))]], rfl, ⟨rfl, _, rfl, ⟨?_⟩⟩, inv_put rfl i⟩
    rw [hml]
    refine ⟨by rw [cvs_ic, List.length_map, hml, Nat.mul_one], .inr ⟨b, off, cap, _, eb, rfl, rfl, h3, h4, by simpa [putCells] using h5, ?_⟩⟩
    rw [cvs_ic, Nat.mul_one, ← hml]
    exact putc_get _ _ _ (by rw [hml]; omega)
theorem compact_len (l : List Int) : (Lib.compact l).length ≤ l.length := by
  unfold Lib.compact Lib.compactUpTo
  rw [List.length_map]
  refine Nat.le_trans (List.length_filter_le _ _) ?_
  rw [List.length_range]; exact Nat.le_refl _
theorem compactI_s {v : Value} {l : List Int} {s : Hp} (h : OwnS v 3 Int 1 ic l s) :
    SX.Spec Tryd.prog 19 #[v] [] [s] fun u Γ => ∃ s', OwnS u 3 Int 1 ic (Lib.compact l) s' ∧ Γ = [s'] := fun w i => by
  obtain ⟨hlen, hcase⟩ := h.out
  rcases hcase with ⟨rfl, hn, rfl⟩ | ⟨b, off, cap, cur, eb, rfl, rfl, h3, h4, h5, h6⟩
  · obtain rfl := List.eq_nil_of_length_eq_zero hn
    refine (Any.slices_Compact_int_empty compactI none 0 w).mono ?_
    rintro _ _ ⟨rfl, rfl⟩
    exact ⟨_, _, rfl, ⟨[], h, rfl⟩, i⟩
  · have hb : w.heap[b]? = some (.cells cur eb (0, 0)) := i.own (b, _) (by simp)
    have hlt : b < w.heap.size := (Array.getElem?_eq_some_iff.1 hb).1
    have hcl := compact_len l
    have hmx : cap ≤ 9223372036854775807 := by simpa [maxLen] using h4
    refine (Any.slices_Compact_int compactI b off cap l w (holdsI (cap := cap) hb h6) (by omega) h3).mono ?_
    rintro e' w' ⟨rfl, n, rfl⟩
    have hL : (Lib.compact l ++ List.replicate (l.length - (Lib.compact l).length) 0).length = l.length := by rw [List.length_append, List.length_replicate]; omega
    have hi := inv_put (n := n) (off := off) (os := #[]) (d := Lib.compact l ++ List.replicate (l.length - (Lib.compact l).length) 0) rfl i
    rw [grow_nil] at hi
    have hp := putc_get off (Lib.compact l ++ List.replicate (l.length - (Lib.compact l).length) 0) cur (by rw [hL]; omega)
    rw [hL] at hp
    have h7 := congrArg (List.take (Lib.compact l).length) hp
    rw [List.take_take, Nat.min_eq_left hcl, List.map_append, List.take_append_of_le_length (by rw [List.length_map]; exact Nat.le_refl _), List.take_of_length_le (l := List.map eI (Lib.compact l)) (by rw [List.length_map]; exact Nat.le_refl _)] at h7
    clear hp hL
    generalize Lib.compact l ++ List.replicate (l.length - (Lib.compact l).length) 0 = q at *
    generalize Lib.compact l = k at *
    refine ⟨_, _, rfl, ⟨_, ⟨?_⟩, rfl⟩, hi⟩
    refine ⟨by rw [cvs_ic, List.length_map, Nat.mul_one], .inr ⟨b, off, cap, _, eb, rfl, rfl, by omega, h4, by simpa [putCells] using h5, ?_⟩⟩
    rw [Nat.mul_one, h7, cvs_ic]
end Go.Proofs.YtedemhmlaodblabDoor
