/- From a row's data to typed things: what an argument reads as, is. -/
import Derived.Test.YtedemhmlaodblabDoorSn
import Derived.Test.YtedemhmlaodblabDoorSb
import Derived.Deep.Slices
import Derived.SizedLaws
import Derived.ProofKit
import Derived.ChangeShapes
namespace Go.SX
set_option linter.unusedSimpArgs false
set_option linter.unusedVariables false
open Go Go.Deep
/-- whatever reads as data of type t is (the cells of) a thing -/
class Opn (P : Program) (t : TypeId) (α : outParam Type) (cv : outParam (α → List Value)) (ok : outParam (α → Prop)) : Prop where
  out : ∀ {H : Type} {enc : TypeId × Value → H} {w : World} {base : Nat} {spare : Nat → Bool} {held : Bool} {fuel : Nat} {cs : List Value} {x : DataW H × List MemPlace}, DataW.trod enc P w base spare held fuel t cs = some x → ∃ y, cs = cv y ∧ ok y
def inI64 (x : Int) : Prop := -9223372036854775808 ≤ x ∧ x ≤ 9223372036854775807
theorem opnI64 {P : Program} {t : TypeId} (ht : P.underlying t = some (.int .i64)) : Opn P t Int (fun x => [.int .i64 x]) inI64 := ⟨fun h => by
  obtain ⟨n, rfl, _, hw⟩ := DataW.trod_int ht h
  refine ⟨n, rfl, ?_⟩
  have hw := by simpa [Lit.wf, IntKind.min, IntKind.max, IntKind.bits, IntKind.signed] using hw
  unfold inI64; omega⟩
def inU64 (x : Int) : Prop := 0 ≤ x ∧ x ≤ 18446744073709551615
theorem opnU64 {P : Program} {t : TypeId} (ht : P.underlying t = some (.int .u64)) : Opn P t Int (fun x => [.int .u64 x]) inU64 := ⟨fun h => by
  obtain ⟨n, rfl, _, hw⟩ := DataW.trod_int ht h
  refine ⟨n, rfl, ?_⟩
  have hw := by simpa [Lit.wf, IntKind.min, IntKind.max, IntKind.bits, IntKind.signed] using hw
  unfold inU64; omega⟩
def inU8 (x : Int) : Prop := 0 ≤ x ∧ x ≤ 255
theorem opnU8 {P : Program} {t : TypeId} (ht : P.underlying t = some (.int .u8)) : Opn P t Int (fun x => [.int .u8 x]) inU8 := ⟨fun h => by
  obtain ⟨n, rfl, _, hw⟩ := DataW.trod_int ht h
  refine ⟨n, rfl, ?_⟩
  have hw := by simpa [Lit.wf, IntKind.min, IntKind.max, IntKind.bits, IntKind.signed] using hw
  unfold inU8; omega⟩
theorem opnBool {P : Program} {t : TypeId} (ht : P.underlying t = some .bool) : Opn P t Bool (fun x => [.bool x]) (fun _ => True) := ⟨fun h => by
  obtain ⟨n, rfl, _⟩ := DataW.trod_bool ht h
  exact ⟨n, rfl, trivial⟩⟩
theorem opnStr {P : Program} {t : TypeId} (ht : P.underlying t = some .string) : Opn P t ByteArray (fun x => [.string x]) (fun x => x.size ≤ maxLen) := ⟨fun h => by
  obtain ⟨n, rfl, _, hs⟩ := DataW.trod_string ht h
  exact ⟨n, rfl, hs⟩⟩
theorem field_data {P : Program} {H : Type} {enc : TypeId × Value → H} {w : World} {base : Nat} {spare : Nat → Bool} {held : Bool} {n : Nat} {cs : List Value} {xs : List (DataW H × List MemPlace)} {fs : Array Field} (hf : ∀ (i : Nat) (f : Field), fs[i]? = some f → DataW.trod enc P w base spare held n f.type ((cs.drop f.offset).take (P.cellsOf f.type)) = xs[i]?)
    (i ft off sz : Nat) (h1 : (fs[i]?).map (fun f => (f.type, f.offset)) = some (ft, off)) (hc : P.cellsOf ft = sz) (hi : i < xs.length) : ∃ x, DataW.trod enc P w base spare held n ft ((cs.drop off).take sz) = some x := by
  cases hq : fs[i]? with
  | none => rw [hq] at h1; cases h1
  | some f =>
    rw [hq] at h1
    simp at h1
    have := hf i f hq
    rw [h1.1, h1.2, hc, List.getElem?_eq_getElem hi] at this
    exact ⟨_, this⟩
theorem cvs_idx {α : Type} {cv : α → List Value} {sz : Nat} (h : ∀ x, (cv x).length = sz) (l : List α) (i j : Nat) (x : α) (hx : l[i]? = some x) (hj : j < sz) : (cvs cv l)[i * sz + j]? = (cv x)[j]? := by
  rw [← cvs_get h l i x hx, List.getElem?_take, if_pos hj, List.getElem?_drop]
theorem choose_list {α : Type} {p : Nat → α → Prop} : ∀ (n : Nat), (∀ i, i < n → ∃ y, p i y) → ∃ l : List α, l.length = n ∧ ∀ i y, l[i]? = some y → p i y
  | 0, _ => ⟨[], rfl, fun i y h => by simp at h⟩
  | n + 1, h => by
    obtain ⟨l, hl, hp⟩ := choose_list n (fun i hi => h i (by omega))
    obtain ⟨y, hy⟩ := h n (by omega)
    refine ⟨l ++ [y], by simp [hl], fun i z hz => ?_⟩
    by_cases hi : i < l.length
    · rw [List.getElem?_append_left hi] at hz; exact hp i z hz
    · rw [List.getElem?_append_right (by omega)] at hz
      have := (List.getElem?_eq_some_iff.1 hz).1
      have hi0 : i - l.length = 0 := by simp at this; omega
      rw [hi0] at hz
      simp at hz; subst hz
      have : i = n := by omega
      rw [this]; exact hy
/-- A SLICE THAT IS HANDED IN: its things, and where they lie. -/
theorem open_AtS {P : Program} {t e : TypeId} {α : Type} {sz : Nat} {cv : α → List Value} {av : α → Value} {ok : α → Prop} [hO : Opn P e α cv ok] [hE : ElT P e α sz cv av] {H : Type} {enc : TypeId × Value → H} {w : World} {base : Nat} {spare : Nat → Bool} {held : Bool} {v : Value} {d : DataW H} {ps : List MemPlace}
    (hu : P.underlying t = some (.slice e)) (hc : P.cellsOf e = sz) (h0 : 0 < sz) (h : DataW.Trod enc P w base spare held t v d ps) (h1 : v.cells.toList = [v]) :
    ∃ (l : List α) (s : Hp), AtS v e α sz cv l s ∧ (∀ x ∈ l, ok x) ∧ (∀ x ∈ s, w.heap[x.1]? = some x.2) ∧ (l.length = 0 ∨ ∃ elems rest, d = .slice elems rest ∧ elems.length = l.length) := by
  obtain ⟨fuel, hf⟩ := h
  rw [h1] at hf
  rcases open_slice hu hf with ⟨hv, _⟩ | ⟨a, len, cap, m, n, D, Pl, hv, _, hl, hm, hmm, hx, hi⟩
  · simp at hv; subst hv
    exact ⟨[], [], ⟨⟨by simp [cvs], .inl ⟨.inl rfl, rfl⟩⟩⟩, by simp, by simp, .inl rfl⟩
  · simp at hv; subst hv
    have hlm : len ≤ m := by rw [hmm]; split <;> omega
    obtain ⟨l, hll, hlp⟩ := choose_list (p := fun i y => ok y ∧ ∀ j, j < sz → w.cell? ((a.add (i * sz)).add j) = (cv y)[j]?) len (fun i hi' => by
      obtain ⟨cs', hc1, hc2⟩ := hi i (by omega)
      obtain ⟨y, rfl, hy⟩ := hO.out hc2
      rw [hc] at hc1
      obtain ⟨_, _, hcell⟩ := World.cells?_some hc1
      exact ⟨y, hy, hcell⟩)
    have hd : d = .slice ((List.range len).map D) ((List.range (m - len)).map fun j => D (len + j)) := congrArg Prod.fst hx
    by_cases hz : len = 0
    · subst hz
      obtain rfl := List.eq_nil_of_length_eq_zero hll
      exact ⟨[], [], ⟨⟨by simp [cvs], .inl ⟨.inr ⟨a, cap, rfl⟩, rfl⟩⟩⟩, by simp, by simp, .inl rfl⟩
    · have key : ∀ i, i < len → ∀ j, j < sz → w.cell? (a.add (i * sz + j)) = (cvs cv l)[i * sz + j]? := fun i hi' j hj => by
        have hi2 : i < l.length := by omega
        obtain ⟨_, hq⟩ := hlp i _ (List.getElem?_eq_getElem hi2)
        rw [cvs_idx hE.len l i j _ (List.getElem?_eq_getElem hi2) hj, ← hq j hj, add_add]
      have hlen := cvs_len hE.len l
      have key2 : ∀ k, k < len * sz → w.cell? (a.add k) = (cvs cv l)[k]? := fun k hk => by
        have e1 : k = k / sz * sz + k % sz := by rw [Nat.mul_comm]; exact (Nat.div_add_mod k sz).symm
        rw [e1]
        exact key _ (Nat.div_lt_of_lt_mul (by rwa [Nat.mul_comm])) _ (Nat.mod_lt _ h0)
      have hpos : 0 < len * sz := Nat.mul_pos (by omega) h0
      have k0 := key2 0 hpos
      have hlt : 0 < (cvs cv l).length := by rw [hlen, hll]; exact hpos
      rw [List.getElem?_eq_getElem hlt] at k0
      obtain ⟨b, off, spot⟩ := a
      have hadd : ∀ k, (Addr.add ⟨b, off, spot⟩ k).block = b := fun k => by unfold Addr.add; split <;> rfl
      have hb : ∃ c et fr, w.heap[b]? = some (.cells c et fr) ∧ spot = none := by
        unfold World.cell? at k0
        rw [hadd] at k0
        split at k0
        · rename_i c et fr hb
          split at k0
          · cases k0
          · rename_i hs
            refine ⟨c, et, fr, hb, ?_⟩
            have : (Addr.add ⟨b, off, spot⟩ 0).spot = spot := by unfold Addr.add; simp
            rw [this] at hs
            cases spot with
            | none => rfl
            | some _ => simp at hs
        · cases k0
      obtain ⟨c, et, fr, hb, rfl⟩ := hb
      have hcell : ∀ k, k < len * sz → c[off + k]? = (cvs cv l)[k]? := fun k hk => by
        have := key2 k hk
        rw [add_at, cell_of hb] at this
        rw [← Array.getElem?_toList]
        simpa using this
      refine ⟨l, [(b, .cells c et fr)], ⟨⟨hlen, .inr ⟨b, off, cap, c, et, fr, by rw [hll], rfl, by omega, hm, ?_, ?_⟩⟩⟩, fun x hx' => ?_, by simpa using hb, .inr ⟨_, _, hd, by simp [hll]⟩⟩
      · have := hcell (len * sz - 1) (by omega)
        rw [List.getElem?_eq_getElem (by rw [hlen, hll]; omega)] at this
        have := (Array.getElem?_eq_some_iff.1 this).1
        rw [hll]; omega
      · refine List.ext_getElem? fun k => ?_
        by_cases hk : k < len * sz
        · rw [hll, List.getElem?_take, if_pos hk, List.getElem?_drop, Array.getElem?_toList]
          exact hcell k hk
        · rw [List.getElem?_eq_none (by rw [List.length_take, hll]; omega), List.getElem?_eq_none (by rw [hlen, hll]; omega)]
      · obtain ⟨i, hi', rfl⟩ := List.getElem_of_mem hx'
        exact (hlp i _ (List.getElem?_eq_getElem hi')).1
theorem okWide_slice {P : Program} {w : World} {r : Reach} {base : Nat} {t e : TypeId} {v : Value} (hu : P.underlying t = some (.slice e)) (h : Value.okWide P w r base t v) : v.cells.toList = [v] := by
  unfold Value.okWide at h
  rw [hu] at h
  simp only [Cell.okWide, hu] at h
  unfold Cell.ok at h
  rw [hu] at h
  cases v <;> first | rfl | (exfalso; simp at h; done) | simp_all
theorem size_le {H : Type} {P : Program} {ts : List TypeId} {ds : List (DataW H)} (h : (DataW.weightsEach P ts ds).all (· ≤ reachBytes) = true) {j t e b k : Nat} {d : DataW H} (ht : ts[j]? = some t) (hd : ds[j]? = some d) (hu : P.underlying t = some (.slice e)) (hb : P.bytesOf e = b)
    (hl : k = 0 ∨ ∃ elems rest, d = .slice elems rest ∧ elems.length = k) : k * b ≤ 140737488351232 := by
  rcases hl with rfl | ⟨el, rs, rfl, rfl⟩
  · simp
  · have := sized_slice h ht hd hu
    rw [hb] at this
    have h2 : el.length * b ≤ (el.length + rs.length) * b := Nat.mul_le_mul_right _ (Nat.le_add_right _ _)
    exact Nat.le_trans h2 this
theorem open_st {P : Program} {t : TypeId} {α : Type} {cv : α → List Value} {ok : α → Prop} [hO : Opn P t α cv ok] {fs : Array Field} {H : Type} {enc : TypeId × Value → H} {w : World} {base : Nat} {spare : Nat → Bool} {held : Bool} {v : Value} {d : DataW H} {ps : List MemPlace} {r : Reach} {b0 : Nat}
    (hu : P.underlying t = some (.struct fs)) (h : DataW.Trod enc P w base spare held t v d ps) (hv : Value.okWide P w r b0 t v) : ∃ y, v = .agg (cv y).toArray ∧ ok y := by
  unfold Value.okWide at hv
  rw [hu] at hv
  obtain ⟨cs, rfl, _⟩ := hv
  obtain ⟨fuel, hf⟩ := h
  obtain ⟨y, hy, hk⟩ := hO.out hf
  refine ⟨y, ?_, hk⟩
  rw [← hy]
  simp [Value.cells]
theorem open_i64 {P : Program} {t : TypeId} {H : Type} {enc : TypeId × Value → H} {w : World} {base : Nat} {spare : Nat → Bool} {held : Bool} {v : Value} {d : DataW H} {ps : List MemPlace} {r : Reach} {b0 : Nat}
    (hu : P.underlying t = some (.int .i64)) (h : DataW.Trod enc P w base spare held t v d ps) (hv : Value.okWide P w r b0 t v) : ∃ y, v = .int .i64 y ∧ inI64 y := by
  obtain ⟨n, rfl, _, _, hw⟩ := ChangeShapes.open_int hu hv h
  refine ⟨n, rfl, ?_⟩
  have hw := by simpa [Lit.wf, IntKind.min, IntKind.max, IntKind.bits, IntKind.signed] using hw
  unfold inI64; omega
end Go.SX
