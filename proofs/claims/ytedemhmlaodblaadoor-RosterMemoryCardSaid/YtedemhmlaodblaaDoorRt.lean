/- Rosters: the laid table; arguments that are arrays, batches, cases. -/
import Derived.Test.YtedemhmlaodblaaDoorRp
import Derived.LaidMore
import Derived.OpenShut
namespace Go.Proofs.YtedemhmlaodblaaDoor
open Go Go.SX Go.RowKit Go.ChangeShapes Go.WideShapes
set_option maxRecDepth 100000
abbrev laidT : List (String × DataW Unit) := [("math/bits.deBruijn64tab", Rows.laid_math_bits_deBruijn64tab)]
theorem laid_list : (Rows.laid_math_bits_deBruijn64tab : DataW Unit) = .agg (tabI.map fun k => .lit (.int .u8 k)) := rfl
theorem gTab : Tryd.prog.globalNamed "math/bits.deBruijn64tab" = some 0 := by kernel_rfl
theorem tTab : (Tryd.prog.globals[0]?).map (·.type) = some 87 := by kernel_rfl
theorem cTab : Tryd.prog.cellsOf 87 = 64 := by kernel_rfl
theorem cU8 : Tryd.prog.cellsOf 5 = 1 := by kernel_rfl
theorem laid_tab {W : World} (h : laidMetH Tryd.prog laidT W) : ∃ s : Hp, Tab s ∧ ∀ x ∈ s, W.heap[x.1]? = some x.2 := by
  rw [MakeChecks.laidMetH_plain _ _ _ (by kernel_rfl)] at h
  obtain ⟨ps, ⟨g0, t0, cs0, f0, p0, q0, hg0, ht0, hv0, hd0, _, _⟩, _, _⟩ := h
  obtain rfl := Option.some.inj (gTab.symm.trans hg0)
  obtain rfl := Option.some.inj (tTab.symm.trans ht0)
  obtain ⟨xs, m, rfl, hx, hlen, hn, hel⟩ := DataW.trod_array Tryd.underlying87 hd0
  rw [cTab] at hlen
  rw [laid_list] at hx
  simp only [Prod.mk.injEq, DataW.agg.injEq] at hx
  have hcell : ∀ i, i < 64 → cs0[i]? = (tabI[i]?).map fun k => Value.int .u8 k := fun i hi => by
    have h1 := hel i hi
    rw [List.getElem?_eq_getElem (by omega)] at h1
    obtain ⟨k, e1, e2, _⟩ := DataW.trod_int Tryd.underlying5 h1
    rw [cU8] at e1
    have e3 : (xs.map (·.1))[i]? = some (.lit (.int .u8 k)) := by
      rw [List.getElem?_map, List.getElem?_eq_getElem (by omega)]
      exact congrArg some (congrArg Prod.fst e2)
    rw [← hx.1, List.getElem?_map] at e3
    cases e4 : tabI[i]? with
    | none => rw [e4] at e3; cases e3
    | some z =>
      rw [e4] at e3
      have ez : z = k := by simpa using e3
      subst ez
      have := congrArg (·[0]?) e1
      simpa [List.getElem?_take, List.getElem?_drop] using this
  have hheap : ∃ et fr, W.heap[0]? = some (.cells cs0 et fr) := by
    simp only [World.var?, gTab, Option.bind_some] at hv0
    split at hv0
    · rename_i c et fr hb
      obtain rfl := Option.some.inj hv0
      exact ⟨et, fr, hb⟩
    · cases hv0
  obtain ⟨et, fr, hb⟩ := hheap
  have hl : cvs uc tabI = tabI.map fun k => Value.int .u8 k := by
    unfold cvs
    generalize tabI = z
    induction z with
    | nil => rfl
    | cons a z ih => rw [List.flatMap_cons, List.map_cons, ih]; rfl
  refine ⟨[(0, .cells cs0 et fr)], ⟨⟨⟨by rw [hl, List.length_map, Nat.mul_one], .inr ⟨0, 0, 64, cs0, et, fr, rfl, rfl, by rw [tabI_len]; exact Nat.le_refl _, by decide, ?_, ?_⟩⟩⟩⟩, by simpa using hb⟩
  · rw [tabI_len, ← Array.length_toList, hlen]; decide
  · rw [hl, List.drop_zero, tabI_len]
    refine List.ext_getElem? fun i => ?_
    rcases Nat.lt_or_ge i 64 with hi | hi
    · rw [List.getElem?_take, if_pos (by omega), List.getElem?_map, Array.getElem?_toList]
      exact hcell i hi
    · rw [List.getElem?_eq_none (by rw [List.length_take]; omega), List.getElem?_eq_none (by rw [List.length_map, tabI_len]; exact hi)]
theorem door_met (os : Os) (args : Array Value) : laidMetH Tryd.prog laidT ((World.doorLaid Tryd.prog 400 os).forCall (fun _ _ => 0) ⟨#[], args, []⟩).memory :=
  laidMetH_of_parts3 (fuel := 8) (laidMet_of_run' 8 (by kernel_rfl) (by kernel_rfl)) (by kernel_rfl) (by kernel_rfl)
/-! ### arguments -/
section
variable {H : Type} {enc : TypeId × Value → H} {w : World} {base : Nat} {spare : Nat → Bool} {held : Bool} {fuel : Nat} {cs : List Value} {x : DataW H × List MemPlace}
theorem open_ros (h : DataW.trod enc Tryd.prog w base spare held fuel 25 cs = some x) : ∃ l : List ApiEntry, cs = cvs cvApiEntry l ∧ l.length = 64 := by
  obtain ⟨xs, m, rfl, _, hlen, hn, hel⟩ := DataW.trod_array Tryd.underlying25 h
  rw [show Tryd.prog.cellsOf 25 = 192 by kernel_rfl] at hlen
  rw [show Tryd.prog.cellsOf 23 = 3 by kernel_rfl] at hel
  obtain ⟨l, hl, hp⟩ := choose_list (α := ApiEntry) (p := fun i y => (cs.drop (i * 3)).take 3 = cvApiEntry y) 64 fun i hi => by
    have h1 := hel i hi
    rw [List.getElem?_eq_getElem (by omega)] at h1
    obtain ⟨y, hy, _⟩ := Opn.out (P := Tryd.prog) (t := 23) h1
    exact ⟨y, hy⟩
  refine ⟨l, List.ext_getElem? fun k => ?_, hl⟩
  have hcl : (cvs cvApiEntry l).length = 192 := by rw [cvs_len (cv := cvApiEntry) (sz := 3) (fun _ => rfl), hl]
  rcases Nat.lt_or_ge k 192 with hk | hk
  · have hd : k / 3 < l.length := by omega
    have h1 := hp (k / 3) _ (List.getElem?_eq_getElem hd)
    have h2 := cvs_idx (cv := cvApiEntry) (sz := 3) (fun _ => rfl) l (k / 3) (k % 3) _ (List.getElem?_eq_getElem hd) (Nat.mod_lt _ (by decide))
    rw [show k / 3 * 3 + k % 3 = k by omega] at h2
    rw [h2, ← h1, List.getElem?_take, if_pos (Nat.mod_lt _ (by decide)), List.getElem?_drop, show k / 3 * 3 + k % 3 = k by omega]
  · rw [List.getElem?_eq_none (by omega), List.getElem?_eq_none (by omega)]
theorem open_ints (h : DataW.trod enc Tryd.prog w base spare held fuel 26 cs = some x) : ∃ (u : Value) (l : List Int) (s : Hp), cs = [u] ∧ AtS u 3 Int 1 ic l s ∧ (∀ y ∈ l, inI64 y) ∧ (∀ z ∈ s, w.heap[z.1]? = some z.2) ∧ ((∀ n ∈ x.1.weights Tryd.prog 26, n ≤ reachBytes) → l.length ≤ 17592186043904) := by
  have hone : ∃ u : Value, cs = [u] ∧ u.cells.toList = [u] := by
    rcases Go.Deep.open_slice Tryd.underlying26 h with ⟨h1, _⟩ | ⟨a, len, cap, m, n, D, Pl, h1, _⟩
    · exact ⟨_, h1, rfl⟩
    · exact ⟨_, h1, rfl⟩
  obtain ⟨u, rfl, hu⟩ := hone
  obtain ⟨l, s, h1, h2, h3, h4⟩ := open_AtS (P := Tryd.prog) (t := 26) (e := 3) (d := x.1) (ps := x.2) Tryd.underlying26 (by kernel_rfl) (by decide) ⟨fuel, by rw [hu]; exact h⟩ hu
  refine ⟨u, l, s, rfl, h1, h2, h3, fun hw => ?_⟩
  rcases h4 with h4 | ⟨el, rs, e, h4⟩
  · omega
  · have := hw ((el.length + rs.length) * Tryd.prog.bytesOf 3) (by rw [e]; simp [DataW.weights, Tryd.underlying26])
    rw [show Tryd.prog.bytesOf 3 = 8 by kernel_rfl] at this
    unfold reachBytes at this
    omega
theorem field_datum {P : Program} {n : Nat} {xs : List (DataW H × List MemPlace)} {fs : Array Field} (hf : ∀ (i : Nat) (f : Field), fs[i]? = some f → DataW.trod enc P w base spare held n f.type ((cs.drop f.offset).take (P.cellsOf f.type)) = xs[i]?)
    (i ft off sz : Nat) (h1 : (fs[i]?).map (fun f => (f.type, f.offset)) = some (ft, off)) (hc : P.cellsOf ft = sz) (hi : i < xs.length) : DataW.trod enc P w base spare held n ft ((cs.drop off).take sz) = some xs[i] := by
  cases hq : fs[i]? with
  | none => rw [hq] at h1; cases h1
  | some f =>
    rw [hq] at h1
    simp at h1
    have := hf i f hq
    rw [h1.1, h1.2, hc, List.getElem?_eq_getElem hi] at this
    exact this
theorem len2 {α : Type} {l : List α} (h : l.length = 2) : ∃ a b, l = [a, b] := by
  match l, h with
  | [a, b], _ => exact ⟨a, b, rfl⟩
theorem len4 {α : Type} {l : List α} (h : l.length = 4) : ∃ a b c d, l = [a, b, c, d] := by
  match l, h with
  | [a, b, c, d], _ => exact ⟨a, b, c, d, rfl⟩
theorem open_bat (h : DataW.trod enc Tryd.prog w base spare held fuel 28 cs = some x) : ∃ (u1 u2 : Value) (lv jn : List Int) (s1 s2 : Hp), cs = [u1, u2] ∧ (AtS u1 3 Int 1 ic lv s1 ∧ AtS u2 3 Int 1 ic jn s2) ∧ ((∀ y ∈ lv, inI64 y) ∧ ∀ y ∈ jn, inI64 y) ∧ ((∀ z ∈ s1, w.heap[z.1]? = some z.2) ∧ ∀ z ∈ s2, w.heap[z.1]? = some z.2) ∧
    ((∀ n ∈ x.1.weights Tryd.prog 28, n ≤ reachBytes) → lv.length ≤ 17592186043904 ∧ jn.length ≤ 17592186043904) := by
  obtain ⟨xs, n, rfl, hx0, hl, hx, hf⟩ := DataW.trod_struct Tryd.underlying28 h
  rw [show Tryd.prog.cellsOf 28 = 2 by kernel_rfl] at hl
  replace hx : xs.length = 2 := hx
  obtain ⟨v0, v1, rfl⟩ := len2 hl
  obtain ⟨y0, y1, rfl⟩ := len2 hx
  have h0 := field_datum hf 0 26 0 1 rfl (by kernel_rfl) (by simp)
  have h1 := field_datum hf 1 26 1 1 rfl (by kernel_rfl) (by simp)
  obtain ⟨u1, lv, s1, e1, a1, b1, c1, d1⟩ := open_ints h0
  obtain ⟨u2, jn, s2, e2, a2, b2, c2, d2⟩ := open_ints h1
  replace e1 : [v0] = [u1] := e1
  replace e2 : [v1] = [u2] := e2
  simp only [List.cons.injEq, and_true] at e1 e2
  subst e1; subst e2
  refine ⟨v0, v1, lv, jn, s1, s2, rfl, ⟨a1, a2⟩, ⟨b1, b2⟩, ⟨c1, c2⟩, fun hw => ?_⟩
  have key : ∀ n, n ∈ y0.1.weights Tryd.prog 26 ∨ n ∈ y1.1.weights Tryd.prog 26 → n ≤ reachBytes := fun n hn => hw n (by
    rw [hx0]
    simp only [DataW.weights, Tryd.underlying28, List.map_cons, List.map_nil]
    exact List.mem_append.2 (hn.imp id fun h => List.mem_append_left _ h))
  exact ⟨d1 fun n hn => key n (.inl hn), d2 fun n hn => key n (.inr hn)⟩
theorem open_cas (h : DataW.trod enc Tryd.prog w base spare held fuel 34 cs = some x) : ∃ (l : List ApiEntry) (u1 u2 : Value) (lv jn : List Int) (s1 s2 : Hp) (since b : Int), cs = cvs cvApiEntry l ++ [u1, u2, .int .i64 since, .int .i64 b] ∧ l.length = 64 ∧ (inI64 since ∧ inI64 b) ∧ (AtS u1 3 Int 1 ic lv s1 ∧ AtS u2 3 Int 1 ic jn s2) ∧ ((∀ y ∈ lv, inI64 y) ∧ ∀ y ∈ jn, inI64 y) ∧ ((∀ z ∈ s1, w.heap[z.1]? = some z.2) ∧ ∀ z ∈ s2, w.heap[z.1]? = some z.2) ∧
    ((∀ n ∈ x.1.weights Tryd.prog 34, n ≤ reachBytes) → lv.length ≤ 17592186043904 ∧ jn.length ≤ 17592186043904) := by
  obtain ⟨xs, n, rfl, hx0, hl, hx, hf⟩ := DataW.trod_struct Tryd.underlying34 h
  rw [show Tryd.prog.cellsOf 34 = 196 by kernel_rfl] at hl
  replace hx : xs.length = 4 := hx
  obtain ⟨y0, y1, y2, y3, rfl⟩ := len4 hx
  have h0 := field_datum hf 0 25 0 192 rfl (by kernel_rfl) (by simp)
  have h1 := field_datum hf 1 28 192 2 rfl (by kernel_rfl) (by simp)
  have h2 := field_datum hf 2 3 194 1 rfl (by kernel_rfl) (by simp)
  have h3 := field_datum hf 3 3 195 1 rfl (by kernel_rfl) (by simp)
  obtain ⟨l, e0, hll⟩ := open_ros h0
  obtain ⟨u1, u2, lv, jn, s1, s2, e1, a1, b1, c1, d1⟩ := open_bat h1
  obtain ⟨since, e2, k2⟩ := Opn.out (P := Tryd.prog) (t := 3) h2
  obtain ⟨b, e3, k3⟩ := Opn.out (P := Tryd.prog) (t := 3) h3
  refine ⟨l, u1, u2, lv, jn, s1, s2, since, b, ?_, hll, ⟨k2, k3⟩, a1, b1, c1, fun hw => ?_⟩
  · have e : cs = (cs.drop 0).take 192 ++ ((cs.drop 192).take 2 ++ ((cs.drop 194).take 1 ++ (cs.drop 195).take 1)) := by
      rw [List.drop_zero]
      conv => lhs; rw [← List.take_append_drop 192 cs]
      congr 1
      conv => lhs; rw [← List.take_append_drop 2 (cs.drop 192)]
      rw [List.drop_drop]
      congr 1
      conv => lhs; rw [← List.take_append_drop 1 (cs.drop (192 + 2))]
      rw [List.drop_drop]
      congr 1
      rw [List.take_of_length_le (by rw [List.length_drop]; omega)]
    rw [e, e0, e1, e2, e3]
    rfl
  · exact d1 fun n hn => hw n (by
      rw [hx0]
      simp only [DataW.weights, Tryd.underlying34, List.map_cons, List.map_nil]
      exact List.mem_append_right _ (List.mem_append_left _ hn))
end
theorem okWide_agg {w : World} {r : Reach} {base : Nat} {t : TypeId} {v : Value} (hu : (∃ fs, Tryd.prog.underlying t = some (.struct fs)) ∨ ∃ n e, Tryd.prog.underlying t = some (.array n e)) (h : Value.okWide Tryd.prog w r base t v) : v = .agg v.cells := by
  unfold Value.okWide at h
  rcases hu with ⟨fs, hu⟩ | ⟨n, e, hu⟩
  · rw [hu] at h; obtain ⟨cs, rfl, _⟩ := h; rfl
  · rw [hu] at h; obtain ⟨cs, rfl, _⟩ := h; rfl
theorem agg_of {v : Value} {l : List Value} (h : v = .agg v.cells) (hl : v.cells.toList = l) : v = .agg l.toArray := by
  rw [h, ← hl]
end Go.Proofs.YtedemhmlaodblaaDoor
