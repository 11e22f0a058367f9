/- Rosters: what Move makes is right, in plain Lean. -/
import Derived.Test.YtedemhmlaodblaaDoorRm
namespace Go.Proofs.YtedemhmlaodblaaDoor
open Go Go.SX Go.RowKit
theorem RosOk.put {p : List ApiEntry} (h : RosOk p) {i : Nat} {x : ApiEntry} (hx : x ≠ e0 → Rt x ∧ ∀ y ∈ p, y ≠ e0 → y.Who ≠ x.Who ∧ y.Base ≠ x.Base) : RosOk (p.set i x) := by
  refine ⟨fun y hy h0 => ?_, ?_⟩
  · rcases List.mem_or_eq_of_mem_set hy with hy | rfl
    · exact h.rt y hy h0
    · exact (hx h0).1
  · rw [List.pairwise_iff_getElem]
    intro a b ha hb hab
    rw [List.length_set] at ha hb
    have hp := List.pairwise_iff_getElem.1 h.pw a b ha hb hab
    rw [List.getElem_set, List.getElem_set]
    by_cases e1 : i = a
    · rw [if_pos e1, if_neg (by omega)]
      intro h0 h1
      have := (hx h0).2 _ (List.getElem_mem hb) h1
      exact ⟨fun e => this.1 e.symm, fun e => this.2 e.symm⟩
    · rw [if_neg e1]
      by_cases e2 : i = b
      · rw [if_pos e2]
        intro h0 h1
        exact (hx h1).2 _ (List.getElem_mem ha) h0
      · rw [if_neg e2]; exact hp
theorem mem_offs : ∀ {q : List Int} {r : List ApiEntry} {y : ApiEntry}, y ∈ offs r q → y ≠ e0 → y ∈ r
  | [], _, _, h, _ => h
  | w :: q, r, y, h, h0 => by
    rw [offs] at h
    rcases List.mem_or_eq_of_mem_set (mem_offs h h0) with h | h
    · exact h
    · exact absurd h h0
theorem ros_offs : ∀ {q : List Int} {r : List ApiEntry}, RosOk r → RosOk (offs r q)
  | [], _, h => h
  | w :: q, r, h => by
    rw [offs]
    exact ros_offs (h.put fun e => absurd rfl e)
theorem ros_ons {since : Int} (hs : 1 ≤ since ∧ since ≤ 200) : ∀ {q : List (Int × Int)} {r : List ApiEntry} {b : Int}, RosOk r → (q.map (·.1)).Nodup → (∀ x ∈ q, (0 ≤ x.1 ∧ x.1 < 256) ∧ ∀ y ∈ r, y ≠ e0 → y.Who ≠ x.1) → 1 ≤ b → b + q.length ≤ 32768 →
    (∀ y ∈ r, y ≠ e0 → ¬ (b ≤ y.Base ∧ y.Base < b + q.length)) → RosOk (ons since r b q)
  | [], _, _, h, _, _, _, _, _ => h
  | (w, s) :: q, r, b, h, hn, hw, hb, hl, hy => by
    rw [List.map_cons, List.nodup_cons] at hn
    rw [List.length_cons] at hl hy
    rw [ons]
    have hw0 := hw (w, s) (by simp)
    have hnew : ∀ y ∈ r.set s.toNat ⟨w, b, since⟩, y ≠ e0 → y = ⟨w, b, since⟩ ∨ y ∈ r := fun y hy _ => (List.mem_or_eq_of_mem_set hy).symm
    refine ros_ons hs (h.put fun _ => ⟨⟨hw0.1, by dsimp only; omega, by dsimp only; omega⟩, fun y hym h0 => ⟨hw0.2 y hym h0, ?_⟩⟩) hn.2 (fun x hx => ⟨(hw x (List.mem_cons_of_mem _ hx)).1, fun y hym h0 => ?_⟩) (by omega) (by omega) fun y hym h0 => ?_
    · have := hy y hym h0
      dsimp only; omega
    · rcases hnew y hym h0 with rfl | h2
      · dsimp only
        intro e
        exact hn.1 (List.mem_map.2 ⟨x, hx, e.symm⟩)
      · exact (hw x (List.mem_cons_of_mem _ hx)).2 y h2 h0
    · rcases hnew y hym h0 with rfl | h2
      · dsimp only; omega
      · have := hy y h2 h0
        omega
/-- what holds where Move goes through -/
structure Mvd (l : List ApiEntry) (lv jn : List Int) (since base : Int) : Prop where
  fit : Fit l lv jn
  since : 1 ≤ since ∧ since ≤ 200
  nm : nmOk l base jn.length
theorem mvd_of {l : List ApiEntry} {lv jn : List Int} {since base : Int} (h : mvE l lv jn since base = 0) : Mvd l lv jn since base := by
  unfold mvE at h
  by_cases h1 : fitsE l lv jn = 0
  · rw [if_neg (not_not_intro h1)] at h
    by_cases h2 : since < 1 ∨ 200 < since
    · rw [if_pos h2] at h; cases h
    · rw [if_neg h2] at h
      by_cases h3 : nmOk l base jn.length
      · exact ⟨fit_of h1, by omega, h3⟩
      · rw [if_neg h3] at h; cases h
  · rw [if_pos h1] at h; exact absurd h h1
theorem frs_ge {l : List ApiEntry} {lv jn : List Int} (hF : Fit l lv jn) (hl : l.length = 64) : jn.length ≤ (frs (offs l lv)).length := by
  have hct := tk_offs lv l hF.nd1 hF.on1
  have hfr := frs_len (offs l lv)
  rw [offs_len, hl] at hfr
  have := hF.room
  have hcl : (tk l).count true ≤ 64 := by have := List.count_le_length (a := true) (l := tk l); rw [tk_len, hl] at this; exact this
  omega
theorem mvQ_fst {r : List ApiEntry} {jn : List Int} (h : jn.length ≤ (frs r).length) : (mvQ r jn).map (·.1) = jn := by
  unfold mvQ ints'
  exact List.map_fst_zip (by rw [List.length_map]; exact h)
theorem ros_mv {l : List ApiEntry} {lv jn : List Int} {since base : Int} (hl : l.length = 64) (h : mvE l lv jn since base = 0) : RosOk (mvR l lv jn since base) := by
  have hM := mvd_of h
  have hF := hM.fit
  have hge := frs_ge hF hl
  unfold mvR
  rw [if_pos h]
  have hql := mvQ_len hge
  have hfst := mvQ_fst hge
  cases jn with
  | nil => exact ros_offs hF.ok
  | cons w0 jn0 =>
    have hb : (1 ≤ base ∧ base ≤ 32768 - ((w0 :: jn0).length : Int)) ∧ ∀ x ∈ l, ¬ (base ≤ x.Base ∧ x.Base < base + (w0 :: jn0).length) := by
      rcases hM.nm with h | h
      · rw [List.length_cons] at h; omega
      · exact h
    refine ros_ons hM.since (ros_offs hF.ok) (by rw [hfst]; exact hF.nd2) (fun x hx => ?_) hb.1.1 (by rw [hql]; omega) fun y hy h0 => ?_
    · have hxj : x.1 ∈ w0 :: jn0 := by rw [← hfst]; exact List.mem_map.2 ⟨x, hx, rfl⟩
      obtain ⟨h1, h2, h3⟩ := hF.in2 _ hxj
      refine ⟨h2, fun y hy h0 e => ?_⟩
      have hyl := mem_offs hy h0
      exact fnd_neg.1 h3 y hyl ⟨(hF.ok.base hyl).2 h0, e⟩
    · rw [hql]
      exact hb.2 y (mem_offs hy h0)
end Go.Proofs.YtedemhmlaodblaaDoor
