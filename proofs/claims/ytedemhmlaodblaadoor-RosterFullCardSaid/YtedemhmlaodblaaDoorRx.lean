/- Rosters: people, in plain Lean. -/
import Derived.Test.YtedemhmlaodblaaDoorRu
import Derived.Lib.SlicesCompact
namespace Go.Proofs.YtedemhmlaodblaaDoor
open Go Go.SX Go.RowKit
/-! ### strictly rising lists -/
theorem rise_ext : ∀ {a b : List Int}, a.Pairwise (· < ·) → b.Pairwise (· < ·) → (∀ x, x ∈ a ↔ x ∈ b) → a = b
  | [], [], _, _, _ => rfl
  | [], y :: b, _, _, h => by have := (h y).2 (by simp); cases this
  | x :: a, [], _, _, h => by have := (h x).1 (by simp); cases this
  | x :: a, y :: b, ha, hb, h => by
    rw [List.pairwise_cons] at ha hb
    have hxy : x = y := by
      rcases List.mem_cons.1 ((h x).1 (by simp)) with e | e
      · exact e
      · rcases List.mem_cons.1 ((h y).2 (by simp)) with e2 | e2
        · exact e2.symm
        · have h1 := hb.1 x e
          have h2 := ha.1 y e2
          omega
    subst hxy
    rw [rise_ext ha.2 hb.2 fun z => ?_]
    constructor
    · intro hz
      rcases List.mem_cons.1 ((h z).1 (List.mem_cons_of_mem _ hz)) with e | e
      · have := ha.1 z hz; omega
      · exact e
    · intro hz
      rcases List.mem_cons.1 ((h z).2 (List.mem_cons_of_mem _ hz)) with e | e
      · have := hb.1 z hz; omega
      · exact e
theorem compUpTo_sorted {zs : List Int} (h : zs.Pairwise (· ≤ ·)) : ∀ m, m ≤ zs.length → (Lib.compactUpTo zs.toArray m).Pairwise (· < ·) ∧ (∀ x, x ∈ Lib.compactUpTo zs.toArray m ↔ x ∈ zs.take m)
  | 0, _ => ⟨by simp [Lib.compactUpTo], fun x => by simp [Lib.compactUpTo]⟩
  | m + 1, hm => by
    obtain ⟨h1, h2⟩ := compUpTo_sorted h m (by omega)
    have hg : zs.toArray[m]! = zs[m] := by rw [getElem!_pos _ m (by simp; omega)]; simp
    have hp := List.pairwise_iff_getElem.1 h
    have hle : ∀ x ∈ zs.take m, x ≤ zs[m] := fun x hx => by
      obtain ⟨j, hj, rfl⟩ := List.mem_take_iff_getElem.1 hx
      exact hp j m (by omega) (by omega) (by omega)
    rw [Lib.compactUpTo_succ, hg, List.take_add_one, List.getElem?_eq_getElem (by omega), Option.toList_some]
    by_cases hk : Lib.keeps zs.toArray m = true
    · rw [if_pos hk]
      have hlt : ∀ x ∈ zs.take m, x < zs[m] := fun x hx => by
        obtain ⟨j, hj, rfl⟩ := List.mem_take_iff_getElem.1 hx
        have hm0 : 0 < m := by omega
        have hg1 : zs.toArray[m - 1]! = zs[m - 1] := by rw [getElem!_pos _ (m - 1) (by simp; omega)]; simp
        have hne : zs[m] ≠ zs[m - 1] := by
          intro e
          have := Lib.keeps_neg (d := zs.toArray) hm0 (by rw [hg, hg1, e])
          rw [this] at hk; cases hk
        have a1 := hp (m - 1) m (by omega) (by omega) (by omega)
        have a2 : zs[j]'(by omega) ≤ zs[m - 1] := by
          by_cases e : j = m - 1
          · subst e; exact Int.le_refl _
          · exact hp j (m - 1) (by omega) (by omega) (by omega)
        omega
      refine ⟨?_, fun x => ?_⟩
      · rw [List.pairwise_append]
        refine ⟨h1, by simp, fun x hx y hy => ?_⟩
        rw [List.mem_singleton] at hy; subst hy
        exact hlt x ((h2 x).1 hx)
      · rw [List.mem_append, List.mem_append, h2]
    · rw [if_neg hk, List.append_nil]
      refine ⟨h1, fun x => ?_⟩
      rw [List.mem_append, h2, List.mem_singleton]
      refine ⟨.inl, fun h => h.elim id fun e => ?_⟩
      have hm0 : 0 < m := by
        rcases Nat.eq_zero_or_pos m with rfl | h
        · exact absurd (Lib.keeps_lt_one zs.toArray 0 (by decide)) hk
        · exact h
      have hg1 : zs.toArray[m - 1]! = zs[m - 1] := by rw [getElem!_pos _ (m - 1) (by simp; omega)]; simp
      have : zs[m] = zs[m - 1] := Classical.byContradiction fun hne => hk (Lib.keeps_pos (by rw [hg, hg1]; exact hne))
      rw [e, this]
      exact List.mem_take_iff_getElem.2 ⟨m - 1, by omega, rfl⟩
theorem compact_sorted {zs : List Int} (h : zs.Pairwise (· ≤ ·)) : (Lib.compact zs).Pairwise (· < ·) ∧ (∀ x, x ∈ Lib.compact zs ↔ x ∈ zs) := by
  obtain ⟨h1, h2⟩ := compUpTo_sorted h zs.length (Nat.le_refl _)
  exact ⟨h1, fun x => by rw [show Lib.compact zs = Lib.compactUpTo zs.toArray zs.length from rfl, h2, List.take_of_length_le (Nat.le_refl _)]⟩
/-! ### people -/
def whos (l : List ApiEntry) : List Int := (l.filter fun x => decide (x.Base ≠ 0)).map (·.Who)
theorem whos_snoc (p : List ApiEntry) (x : ApiEntry) : whos (p ++ [x]) = whos p ++ (if x.Base ≠ 0 then [x.Who] else []) := by
  unfold whos
  rw [List.filter_append, List.map_append]
  by_cases h : x.Base ≠ 0
  · rw [if_pos h, List.filter_cons_of_pos (by simpa using h)]; rfl
  · rw [if_neg h, List.filter_cons_of_neg (by simpa using h)]; rfl
theorem whos_len (l : List ApiEntry) : (whos l).length ≤ l.length := by unfold whos; rw [List.length_map]; exact List.length_filter_le _ _
theorem mem_whos {l : List ApiEntry} {w : Int} : w ∈ whos l ↔ ∃ y ∈ l, Is1 w y := by
  unfold whos
  rw [List.mem_map]
  constructor
  · rintro ⟨y, hy, rfl⟩
    rw [List.mem_filter] at hy
    exact ⟨y, hy.1, by simpa using hy.2, rfl⟩
  · rintro ⟨y, hy, h1, h2⟩
    exact ⟨y, List.mem_filter.2 ⟨hy, by simpa using h1⟩, h2⟩
def ppl (l : List ApiEntry) : List Int := Lib.compact ((whos l).mergeSort fun x y => decide (x ≤ y))
theorem sortI_pw (l : List Int) : (l.mergeSort fun x y => decide (x ≤ y)).Pairwise (· ≤ ·) := by
  have := List.pairwise_mergeSort (le := fun x y : Int => decide (x ≤ y)) (fun a b c h1 h2 => by simp at *; omega) (fun a b => by simp; omega) l
  exact this.imp fun h => by simpa using h
theorem ppl_rise (l : List ApiEntry) : (ppl l).Pairwise (· < ·) := (compact_sorted (sortI_pw _)).1
theorem mem_ppl {l : List ApiEntry} {w : Int} : w ∈ ppl l ↔ w ∈ whos l := by
  unfold ppl
  rw [(compact_sorted (sortI_pw _)).2, (List.mergeSort_perm _ _).mem_iff]
theorem comp_len (l : List Int) : (Lib.compact l).length ≤ l.length := by
  unfold Lib.compact Lib.compactUpTo
  rw [List.length_map]
  refine Nat.le_trans (List.length_filter_le _ _) ?_
  rw [List.length_range]; exact Nat.le_refl _
theorem ppl_len (l : List ApiEntry) : (ppl l).length ≤ l.length := by
  unfold ppl
  refine Nat.le_trans (comp_len _) ?_
  rw [(List.mergeSort_perm _ _).length_eq]
  exact whos_len l
theorem whos_count (l : List ApiEntry) : (whos l).length = (tk l).count true := by
  unfold whos tk
  rw [List.length_map, List.count_eq_countP, List.countP_map, List.countP_eq_length_filter]
  congr 1
  refine List.filter_congr fun x _ => ?_
  simp
theorem whos_nd {l : List ApiEntry} (h : RosOk l) : (whos l).Nodup := by
  unfold whos
  rw [List.Nodup, List.pairwise_map]
  have h1 : l.Pairwise fun x y => x.Base ≠ 0 → y.Base ≠ 0 → x.Who ≠ y.Who := h.pw.imp fun {x y} hxy hx hy => (hxy (fun e => by subst e; exact hx rfl) (fun e => by subst e; exact hy rfl)).1
  have h2 := h1.sublist (List.filter_sublist (p := fun x : ApiEntry => decide (x.Base ≠ 0)))
  refine List.Pairwise.imp_of_mem (fun {x y} hx hy hxy => ?_) h2
  rw [List.mem_filter] at hx hy
  exact hxy (by simpa using hx.2) (by simpa using hy.2)
theorem ppl_count {l : List ApiEntry} (h : RosOk l) : (ppl l).length = (tk l).count true := by
  have hs : ((whos l).mergeSort fun x y => decide (x ≤ y)).Pairwise (· < ·) := by
    have h1 := sortI_pw (whos l)
    have h2 : ((whos l).mergeSort fun x y => decide (x ≤ y)).Nodup := (List.mergeSort_perm _ _).nodup_iff.2 (whos_nd h)
    exact (h1.and h2).imp fun {x y} hxy => by have := hxy.1; have := hxy.2; omega
  have : ppl l = (whos l).mergeSort fun x y => decide (x ≤ y) := rise_ext (ppl_rise l) hs fun x => by rw [mem_ppl, (List.mergeSort_perm _ _).mem_iff]
  rw [this, (List.mergeSort_perm _ _).length_eq, whos_count]
/-- is an entry one of those behind the first k people? -/
def Cand (p : List Int) (k : Nat) (x : ApiEntry) : Prop := x.Base ≠ 0 ∧ ∀ y ∈ p.take k, y < x.Who
theorem cand_none {l : List ApiEntry} {k : Nat} (h : ∀ x ∈ l, ¬ Cand (ppl l) k x) (hk : k ≤ (ppl l).length) : k = (ppl l).length := by
  rcases Nat.lt_or_ge k (ppl l).length with hlt | hge
  · have hm : (ppl l)[k] ∈ whos l := mem_ppl.1 (List.getElem_mem hlt)
    obtain ⟨y, hy, h1, h2⟩ := mem_whos.1 hm
    refine absurd ⟨h1, fun z hz => ?_⟩ (h y hy)
    obtain ⟨j, hj, rfl⟩ := List.mem_take_iff_getElem.1 hz
    rw [h2]
    exact List.pairwise_iff_getElem.1 (ppl_rise l) j k (by omega) hlt (by omega)
  · omega
theorem cand_next {l : List ApiEntry} {k : Nat} {x : ApiEntry} (hk : k ≤ (ppl l).length) (hx : x ∈ l) (h : Cand (ppl l) k x) (hm : ∀ y ∈ l, Cand (ppl l) k y → x.Who ≤ y.Who) : ∃ h : k < (ppl l).length, (ppl l)[k] = x.Who := by
  have hw : x.Who ∈ ppl l := mem_ppl.2 (mem_whos.2 ⟨x, hx, h.1, rfl⟩)
  obtain ⟨j, hj, e⟩ := List.getElem_of_mem hw
  have hp := List.pairwise_iff_getElem.1 (ppl_rise l)
  have hjk : k ≤ j := by
    rcases Nat.lt_or_ge j k with hlt | hge
    · have := h.2 _ (List.mem_take_iff_getElem.2 ⟨j, by omega, rfl⟩)
      omega
    · exact hge
  have hk2 : k < (ppl l).length := by omega
  refine ⟨hk2, ?_⟩
  obtain ⟨y, hy, h1, h2⟩ := mem_whos.1 (mem_ppl.1 (List.getElem_mem hk2))
  have hc := hm y hy ⟨h1, fun z hz => by
    obtain ⟨i, hi, rfl⟩ := List.mem_take_iff_getElem.1 hz
    rw [h2]; exact hp i k (by omega) hk2 (by omega)⟩
  rw [h2] at hc
  by_cases ejk : j = k
  · subst ejk; exact e
  · have := hp k j hk2 hj (by omega)
    omega
end Go.Proofs.YtedemhmlaodblaaDoor
