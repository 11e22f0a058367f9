/- slices.SortFunc by the shelf's contract, as a contract here. -/
import Derived.Test.YtedemhmlaodblaaSr
import Derived.Shelf.SlSortCmp.NoneTotal
namespace Go.SX
set_option linter.unusedSimpArgs false
set_option linter.unusedVariables false
set_option maxHeartbeats 1000000
open Go Go.RowKit Go.Proofs Go.Shelf Go.Sort
theorem flat_cvs {α : Type} [Inhabited α] {cv : α → List Value} {sz : Nat} (h0 : 0 < sz) (hE : ∀ x, (cv x).length = sz) (l : List α) : (flatK cv sz l.toArray).toList = cvs cv l := by
  refine List.ext_getElem? fun k => ?_
  by_cases hk : k < l.length * sz
  · have e1 : k = k / sz * sz + k % sz := by rw [Nat.mul_comm]; exact (Nat.div_add_mod k sz).symm
    have hm : k % sz < sz := Nat.mod_lt _ h0
    have hd : k / sz < l.length := Nat.div_lt_of_lt_mul (by rwa [Nat.mul_comm])
    have hc := cvs_get hE l (k / sz) l[k / sz] (by simp [hd])
    have : (cvs cv l)[k]? = (cv l[k / sz])[k % sz]? := by
      rw [← hc, List.getElem?_take, if_pos hm, List.getElem?_drop, ← e1]
    rw [this]
    have hl : k % sz < (cv l[k / sz]).length := by rw [hE]; exact hm
    have hg := get_flatK cv sz l.toArray k (by simpa using hk)
    have hs : k < (flatK cv sz l.toArray).size := by simpa using hk
    rw [getElem!_pos (flatK cv sz l.toArray) k hs] at hg
    rw [Array.getElem?_toList, Array.getElem?_eq_getElem hs, hg, List.getElem?_eq_getElem hl]
    have : l.toArray[k / sz]! = l[k / sz] := by rw [getElem!_pos l.toArray _ (by simpa using hd)]; simp
    rw [this, getElem!_pos (cv l[k / sz]) _ hl]
  · rw [List.getElem?_eq_none (by simp; omega), List.getElem?_eq_none (by rw [cvs_len hE]; omega)]
theorem put_cells (F cur : Array Value) (off : Nat) (h : off + F.size ≤ cur.size) : ((putCells id off F cur).toList.drop off).take F.size = F.toList := by
  refine List.ext_getElem? fun k => ?_
  by_cases hk : k < F.size
  · rw [List.getElem?_take, if_pos hk, List.getElem?_drop, Array.getElem?_toList, putCells, Array.getElem?_mapIdx, Array.getElem?_eq_getElem (by omega), Option.map_some, if_pos ⟨by omega, by omega⟩, Nat.add_sub_cancel_left, Array.getElem?_toList, Array.getElem?_eq_getElem hk, getElem!_pos F _ hk]
    rfl
  · rw [List.getElem?_eq_none (by simp; omega), List.getElem?_eq_none (by simpa using hk)]
theorem sortFunc_s {P : Program} {ρ : Ren} (L : SlLaysF0.n6 P ρ) {α : Type} [Inhabited α] {cv : α → List Value} {sz : Nat} {e : TypeId} (h0 : 0 < sz) (aE : ∀ w, (isAgg (ρ.t 24)).run P w = .ok true w) (zE : ∀ w, (Go.sizeOf (ρ.t 24)).run P w = .ok sz w) (hE : ∀ x, (cv x).length = sz) (h1 : ∀ x, ∀ v ∈ cv x, v.oneCell' = true)
    (cf : α → α → Int) (hO : SWO (ltOf cf)) (hT : ∀ x y, (ltOf cf) x y = false → (ltOf cf) y x = false → x = y) (g : Nat) (eg : ∀ args w, (callFunc g args).run P w = .ok (.enter g args) w)
    (hc : ∀ x y, SpecD true P g #[.agg (cv x).toArray, .agg (cv y).toArray] [] [] fun u Γ => u = .int .i64 (cf x y) ∧ Γ = []) {v : Value} {l : List α} {s : Hp} (h : OwnS v e α sz cv l s) (hll : l.length < 4611686018427387904) :
    Spec P (ρ.f 6) #[v, .func (.func g) #[] #[]] [] [s] fun u Γ => u = .tuple #[] ∧ ∃ s', Γ = [s'] ∧ OwnS v e α sz cv (l.mergeSort fun x y => !(ltOf cf) y x) s' := fun w i => by
  obtain ⟨hlen, hcase⟩ := h.out
  have hml : (l.mergeSort fun x y => !(ltOf cf) y x).length = l.length := (List.mergeSort_perm _ _).length_eq
  rcases hcase with ⟨rfl, hn, rfl⟩ | ⟨b, off, cap, cur, rfl, rfl, h3, h4, h5, h6⟩
  · obtain rfl := List.eq_nil_of_length_eq_zero hn
    refine (AnyF.slices_SortFunc_none { L with } none 0 _ w).mono ?_
    rintro _ _ ⟨rfl, rfl⟩
    exact ⟨_, _, rfl, ⟨rfl, [], rfl, by simpa using h⟩, i⟩
  · have hb : w.heap[b]? = some (.cells cur e (0, 0)) := i.own (b, _) (by simp)
    have hlt : b < w.heap.size := (Array.getElem?_eq_some_iff.1 hb).1
    have hsz : l.length * sz ≤ cap * sz := Nat.mul_le_mul_right _ h3
    have hF : (flatK cv sz l.toArray).size = l.length * sz := by simp
    have hfl := flat_cvs h0 hE l
    have hH : HoldsK cv sz w b off l.toArray := by
      intro j hj
      rw [hF] at hj
      constructor
      · rw [cell_of hb]
        have e1 : (cvs cv l)[j]? = cur[off + j]? := by
          rw [← h6, List.getElem?_take, if_pos hj, List.getElem?_drop, Array.getElem?_toList]
        show cur[off + j]? = _
        rw [← e1, ← hfl, Array.getElem?_toList, Array.getElem?_eq_getElem (by rw [hF]; exact hj), getElem!_pos (flatK cv sz l.toArray) _ (by rw [hF]; exact hj)]
        rfl
      · simp [World.frozen?, hb]
    have hcmp : CmpLays P g #[] cv sz cf b off l.toArray.size w := fun m os dk hdk x y => by
      refine (hc x y _ ⟨rfl, rfl, rfl, Nat.le_refl _, (by intro _ h; cases h), (by intro _ h; cases h), List.nodup_nil, (by intro _ h; cases h), (by intro _ h; cases h), fun _ _ _ => rfl, fun _ => Nat.le_refl _⟩).mono ?_
      rintro e' w' ⟨u, Γ, rfl, ⟨rfl, rfl⟩, j⟩
      refine ⟨rfl, w'.drawn - (sortWorldK cv sz w b off m dk os).drawn, w'.heap.extract (sortWorldK cv sz w b off m dk os).heap.size w'.heap.size, ?_⟩
      have hd := j.dr rfl
      have hs := j.size
      dsimp only at hd hs
      generalize sortWorldK cv sz w b off m dk os = W at j hd hs
      have e1 := j.os; have e2 := j.tape; have e3 := j.output
      have e4 := j.frame
      dsimp only at e1 e2 e3 e4
      have hheap : w'.heap = W.heap ++ w'.heap.extract W.heap.size w'.heap.size := by
        apply Array.ext_getElem?
        intro k
        rw [Array.getElem?_append]
        split
        · exact e4 k (by assumption) (by simp [keys])
        · rw [Array.getElem?_extract]
          by_cases hk : k < w'.heap.size
          · rw [if_pos (by omega)]; congr 1; omega
          · rw [Array.getElem?_eq_none (by omega), if_neg (by omega)]
      cases w' with
      | mk hp tp dr o ou =>
        cases W with
        | mk hp2 tp2 dr2 o2 ou2 =>
          simp only [grow, World.drewN] at *
          subst e1; subst e2; subst e3
          rw [← hheap]
          congr 1
          omega
    have hco := AnyQ.slices_SortFunc_total L sz aE zE cv hE h1 cf hO g #[] b off cap l.toArray w eg hcmp hH hlt (by simpa using hll) hT
    rw [show l.toArray.size = l.length by simp] at hco
    refine hco.mono ?_
    rintro e' w' ⟨rfl, n, os, rfl⟩
    have hF' : (flatK cv sz (l.mergeSort fun x y => !(ltOf cf) y x).toArray).size = l.length * sz := by simp [hml]
    have hfl' := flat_cvs h0 hE (l.mergeSort fun x y => !(ltOf cf) y x)
    have hnew : (sortWorldK cv sz w b off n (l.mergeSort fun x y => !(ltOf cf) y x).toArray os).heap[b]? = some (.cells (putCells id off (flatK cv sz (l.mergeSort fun x y => !(ltOf cf) y x).toArray) cur) e (0, 0)) := by
      unfold sortWorldK putRowK putRow mapBlock grow
      show (_ ++ os)[b]? = _
      rw [Array.getElem?_append_left (by simpa using hlt), Array.getElem?_modify, if_pos rfl]
      show (w.heap[b]?).map _ = _
      rw [hb]; rfl
    have hold : ∀ c, c < w.heap.size → c ≠ b → (sortWorldK cv sz w b off n (l.mergeSort fun x y => !(ltOf cf) y x).toArray os).heap[c]? = w.heap[c]? := fun c hcl hcb => by
      unfold sortWorldK putRowK putRow mapBlock grow
      show (_ ++ os)[c]? = _
      rw [Array.getElem?_append_left (by simpa using hcl), Array.getElem?_modify, if_neg (Ne.symm hcb)]
      rfl
    refine ⟨_, [[(b, .cells (putCells id off (flatK cv sz (l.mergeSort fun x y => !(ltOf cf) y x).toArray) cur) e (0, 0))]], rfl, ⟨rfl, _, rfl, ⟨?_⟩⟩, ?_⟩
    · rw [hml]
      refine ⟨by rw [cvs_len hE, hml], .inr ⟨b, off, cap, _, rfl, rfl, h3, h4, by simpa [putCells] using h5, ?_⟩⟩
      rw [← hfl', ← hF']
      exact put_cells _ _ _ (by rw [hF']; omega)
    · refine ⟨rfl, rfl, rfl, ?_, (by intro _ h; cases h), fun x hx => ?_, by simp [keys], (by intro _ _ h; cases h), fun c hc => .inl (by simpa [keys] using hc), fun c hcl hM => hold c hcl (by simpa [keys] using hM), fun h => by cases h⟩
      · unfold sortWorldK putRowK putRow mapBlock grow
        simp
      · simp only [List.flatten_cons, List.flatten_nil, List.append_nil, List.mem_singleton] at hx
        subst hx
        exact hnew
end Go.SX
