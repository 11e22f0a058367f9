/- Rosters: who stays, who leaves, who joins, in plain Lean. -/
import Derived.Test.YtedemhmlaodblabDoorRx
namespace Go.Proofs.YtedemhmlaodblabDoor
open Go Go.SX Go.RowKit
theorem lefts_get : ∀ {q : List Int} {r : List ApiEntry} {i : Nat} (h : i < q.length), (lefts r q)[i]? = some ⟨q[i], fnd (offs r (q.take i)) q[i]⟩
  | [], r, i, h => by simp at h
  | w :: q, r, 0, h => by simp [lefts, offs]
  | w :: q, r, i + 1, h => by
    rw [lefts, List.getElem?_cons_succ, lefts_get (by simpa using h)]
    simp [offs]
theorem mem_ons {since : Int} : ∀ {q : List (Int × Int)} {r : List ApiEntry} {b : Int} {y : ApiEntry}, y ∈ ons since r b q → y ∈ r ∨ y.Who ∈ q.map (·.1)
  | [], _, _, _, h => .inl h
  | (w, s) :: q, r, b, y, h => by
    rw [ons] at h
    rcases mem_ons h with h | h
    · rcases List.mem_or_eq_of_mem_set h with h | rfl
      · exact .inl h
      · exact .inr (by simp)
    · exact .inr (by rw [List.map_cons]; exact List.mem_cons_of_mem _ h)
theorem fnd_ok {r : List ApiEntry} (h : RosOk r) {w : Int} {i : Nat} (hi : i < r.length) (h1 : Is1 w r[i]) : fnd r w = i := by
  obtain ⟨k, hk, ek, k1, _⟩ := fnd_some (fnd_ge (List.getElem_mem hi) h1)
  rw [ek, h.uniq hk hi k1 h1]
/-- what Move has kept, taken off and put on -/
structure Kept (l R : List ApiEntry) (L J : List ApiSeat) (lv jn : List Int) : Prop where
  nd : lv.Nodup
  ll : L.length = lv.length
  lj : J.length = jn.length
  cnt : ((ppl R).length : Int) = (ppl l).length - lv.length + jn.length
  left : ∀ i, ∀ h : i < lv.length, ∀ h2 : i < L.length, L[i] = ⟨lv[i], fnd l lv[i]⟩ ∧ fnd R lv[i] = -1
  join : ∀ i, ∀ h : i < jn.length, ∀ h2 : i < J.length, J[i].Who = jn[i] ∧ fnd R jn[i] = J[i].Slot ∧ 0 ≤ J[i].Slot ∧ fnd l jn[i] = -1
  stay : ∀ s, ∀ h : s < l.length, ∀ h2 : s < R.length, l[s].Base ≠ 0 → l[s].Who ∉ lv → R[s] = l[s]
theorem kept_mv {l : List ApiEntry} {lv jn : List Int} {since base : Int} (hl : l.length = 64) (h : mvE l lv jn since base = 0) :
    Kept l (mvR l lv jn since base) (mvL l lv jn since base) (mvJ l lv jn since base) lv jn := by
  have hM := mvd_of h
  have hF := hM.fit
  have hge : jn.length ≤ (frs (offs l lv)).length := frs_ge hF hl
  have hros := ros_mv hl h
  have hlen := mvR_len (lv := lv) (jn := jn) (since := since) (base := base) hl
  have hr : mvR l lv jn since base = ons since (offs l lv) base (mvQ (offs l lv) jn) := by unfold mvR; rw [if_pos h]
  have hL : mvL l lv jn since base = lefts l lv := by unfold mvL; rw [if_pos h]
  have hJ : mvJ l lv jn since base = jnd (mvQ (offs l lv) jn) := by unfold mvJ; rw [if_pos h]
  rw [hr] at hros hlen ⊢
  rw [hL, hJ]
  have hol : (offs l lv).length = 64 := by rw [offs_len, hl]
  have hog := fun i hi => offs_get hF.ok hF.nd1 hF.on1 i hi
  have hct := tk_offs lv l hF.nd1 hF.on1
  have hpl := ppl_count hF.ok
  have hql := mvQ_len hge
  have hfst := mvQ_fst hge
  have hq : ∀ i, ∀ h : i < jn.length, (mvQ (offs l lv) jn)[i]? = some (jn[i], ((frs (offs l lv))[i]'(by omega) : Int)) := fun i h => mvQ_get h (by omega)
  have hsnd : (mvQ (offs l lv) jn).map (fun x => x.2.toNat) = (frs (offs l lv)).take jn.length := by
    refine List.ext_getElem? fun i => ?_
    rw [List.getElem?_map, List.getElem?_take]
    rcases Nat.lt_or_ge i jn.length with hi | hi
    · rw [if_pos hi, hq i hi, List.getElem?_eq_getElem (by omega)]
      simp
    · rw [if_neg (by omega), List.getElem?_eq_none (by omega)]
      rfl
  have hnd : ((mvQ (offs l lv) jn).map fun x => x.2.toNat).Nodup := by
    rw [hsnd]
    exact ((frs_sorted _).imp Nat.ne_of_lt).sublist (List.take_sublist _ _)
  have hfree : ∀ s ∈ (mvQ (offs l lv) jn).map (fun x => x.2.toNat), ∃ hs : s < (offs l lv).length, (offs l lv)[s].Base = 0 := fun s hs => by
    rw [hsnd] at hs
    exact mem_frs.1 (List.mem_of_mem_take hs)
  have hb : jn = [] ∨ 1 ≤ base := by
    rcases hM.nm with h | h
    · left; exact List.eq_nil_of_length_eq_zero (by omega)
    · exact .inr h.1.1
  have hfrR : frs (ons since (offs l lv) base (mvQ (offs l lv) jn)) = (frs (offs l lv)).drop jn.length := by
    rcases hb with rfl | hb
    · rfl
    · have := frs_ons (since := since) hb hge jn.length (Nat.le_refl _)
      rwa [List.take_of_length_le (by omega)] at this
  obtain ⟨g1, g2⟩ : (∀ i, i ∉ ((mvQ (offs l lv) jn).map fun x => x.2.toNat) → (ons since (offs l lv) base (mvQ (offs l lv) jn))[i]? = (offs l lv)[i]?) ∧ (∀ w s, (w, s) ∈ (mvQ (offs l lv) jn) → s.toNat < (offs l lv).length → ∃ b', 1 ≤ b' ∧ (ons since (offs l lv) base (mvQ (offs l lv) jn))[s.toNat]? = some ⟨w, b', since⟩) := by
    rcases hb with rfl | hb
    · exact ⟨fun _ _ => rfl, fun w s h => by cases h⟩
    · exact ons_get since hb hnd
  have hmem : ∀ y ∈ ons since (offs l lv) base (mvQ (offs l lv) jn), y ∈ offs l lv ∨ y.Who ∈ jn := fun y hy => by
    have := mem_ons hy
    rwa [hfst] at this
  have hfr1 := frs_len (offs l lv)
  have hfr2 := frs_len (ons since (offs l lv) base (mvQ (offs l lv) jn))
  rw [hfrR, List.length_drop] at hfr2
  have hpR := ppl_count hros
  generalize hR : ons since (offs l lv) base (mvQ (offs l lv) jn) = R at *
  refine ⟨hF.nd1, lefts_len lv l, by unfold jnd; rw [List.length_map, hql], by omega, fun i hi h2 => ?_, fun i hi h2 => ?_, fun s hs h2 h0 hno => ?_⟩
  · have h3 := lefts_get (r := l) hi
    rw [List.getElem?_eq_getElem h2] at h3
    have hni : lv[i] ∉ lv.take i := fun hm => by
      obtain ⟨m, hm1, hm2⟩ := List.mem_take_iff_getElem.1 hm
      exact List.pairwise_iff_getElem.1 hF.nd1 m i (by omega) hi (by omega) hm2
    rw [Option.some.inj h3, fnd_offs (lv.take i) l lv[i] (hF.nd1.sublist (List.take_sublist _ _)) (fun u hu => hF.on1 u (List.mem_of_mem_take hu)) hni]
    refine ⟨rfl, fnd_no fun y hy h1 => ?_⟩
    rcases hmem y hy with hy | hy
    · obtain ⟨k, hk, rfl⟩ := List.getElem_of_mem hy
      rw [offs_len] at hk
      obtain ⟨o1, o2⟩ := hog k hk
      by_cases hex : ∃ w ∈ lv, Is1 w l[k]
      · have := o1 hex
        rw [List.getElem?_eq_getElem (by rw [offs_len]; exact hk)] at this
        rw [Option.some.inj this] at h1
        exact not_e0 _ h1
      · have := o2 fun w hw h => hex ⟨w, hw, h⟩
        rw [List.getElem?_eq_getElem (by rw [offs_len]; exact hk)] at this
        rw [Option.some.inj this] at h1
        exact hex ⟨_, List.getElem_mem hi, h1⟩
    · rw [h1.2] at hy
      exact (hF.in2 _ hy).1 (List.getElem_mem hi)
  · have hqi := hq i hi
    have hJi : (jnd (mvQ (offs l lv) jn))[i]? = some ⟨jn[i], ((frs (offs l lv))[i]'(by omega) : Int)⟩ := by unfold jnd; rw [List.getElem?_map, hqi]; rfl
    rw [List.getElem?_eq_getElem h2] at hJi
    rw [Option.some.inj hJi]
    have hxm := List.mem_of_getElem? hqi
    obtain ⟨hsl, _⟩ := hfree _ (List.mem_map.2 ⟨_, hxm, rfl⟩)
    obtain ⟨b', hb', e⟩ := g2 _ _ hxm hsl
    obtain ⟨hs', e⟩ := List.getElem?_eq_some_iff.1 e
    refine ⟨rfl, ?_, Int.natCast_nonneg _, fnd_m1 (hF.in2 _ (List.getElem_mem hi)).2.2⟩
    have := fnd_ok hros (w := jn[i]) hs' (by rw [e]; exact ⟨by dsimp only; omega, rfl⟩)
    rw [this]; simp
  · obtain ⟨o1, o2⟩ := hog s hs
    have ho := o2 fun w hw h1 => hno (h1.2 ▸ hw)
    have hnm : s ∉ (mvQ (offs l lv) jn).map (fun x => x.2.toNat) := fun hm => by
      obtain ⟨hs', h0'⟩ := hfree s hm
      rw [List.getElem?_eq_getElem hs'] at ho
      rw [Option.some.inj ho] at h0'
      exact h0 h0'
    have := g1 s hnm
    rw [ho, List.getElem?_eq_getElem h2] at this
    exact Option.some.inj this
end Go.Proofs.YtedemhmlaodblabDoor
