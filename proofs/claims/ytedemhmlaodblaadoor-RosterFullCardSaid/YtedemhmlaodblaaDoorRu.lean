/- Rosters: who joins and leaves again leaves the roster as it was. -/
import Derived.Test.YtedemhmlaodblaaDoorRq
namespace Go.Proofs.YtedemhmlaodblaaDoor
open Go Go.SX Go.RowKit
theorem RosOk.uniq {r : List ApiEntry} (h : RosOk r) {w : Int} {i j : Nat} (hi : i < r.length) (hj : j < r.length) (h1 : Is1 w r[i]) (h2 : Is1 w r[j]) : i = j := by
  have n1 : r[i] ≠ e0 := fun e => not_e0 w (e ▸ h1)
  have n2 : r[j] ≠ e0 := fun e => not_e0 w (e ▸ h2)
  rcases Nat.lt_trichotomy i j with hlt | e | hlt
  · exact absurd (h1.2.trans h2.2.symm) (List.pairwise_iff_getElem.1 h.pw i j hi hj hlt n1 n2).1
  · exact e
  · exact absurd (h2.2.trans h1.2.symm) (List.pairwise_iff_getElem.1 h.pw j i hj hi hlt n2 n1).1
theorem offs_get : ∀ {q : List Int} {r : List ApiEntry}, RosOk r → q.Nodup → (∀ u ∈ q, 0 ≤ fnd r u) → ∀ (i : Nat) (hi : i < r.length), ((∃ w ∈ q, Is1 w r[i]) → (offs r q)[i]? = some e0) ∧ ((∀ w ∈ q, ¬ Is1 w r[i]) → (offs r q)[i]? = some r[i])
  | [], r, _, _, _, i, hi => ⟨fun ⟨w, hw, _⟩ => (by cases hw), fun _ => List.getElem?_eq_getElem hi⟩
  | u :: q, r, h, hn, ho, i, hi => by
    rw [List.nodup_cons] at hn
    obtain ⟨k, hk, ek, h1, _⟩ := fnd_some (ho u (by simp))
    have hrec := offs_get (q := q) (r := r.set (fnd r u).toNat e0) (h.put fun e => absurd rfl e) hn.2 (fun x hx => by
      rw [fnd_off (ho u (by simp)) (fun e => hn.1 (e ▸ hx))]
      exact ho x (List.mem_cons_of_mem _ hx)) i (by rw [List.length_set]; exact hi)
    rw [offs]
    have hg : (r.set (fnd r u).toNat e0)[i]'(by rw [List.length_set]; exact hi) = if k = i then e0 else r[i] := by
      rw [List.getElem_set, ek, Int.toNat_natCast]
    rw [hg] at hrec
    by_cases e : k = i
    · subst e
      rw [if_pos rfl] at hrec
      refine ⟨fun _ => hrec.2 fun w _ => not_e0 w, fun hno => absurd h1 (hno u (by simp))⟩
    · rw [if_neg e] at hrec
      have hu : ¬ Is1 u r[i] := fun h2 => e (h.uniq hk hi h1 h2)
      refine ⟨fun ⟨w, hw, hw1⟩ => hrec.1 ?_, fun hno => hrec.2 fun w hw => hno w (List.mem_cons_of_mem _ hw)⟩
      rcases List.mem_cons.1 hw with rfl | hw
      · exact absurd hw1 hu
      · exact ⟨w, hw, hw1⟩
theorem ons_get (since : Int) : ∀ {q : List (Int × Int)} {r : List ApiEntry} {b : Int}, 1 ≤ b → (q.map fun x => x.2.toNat).Nodup → (∀ i, i ∉ (q.map fun x => x.2.toNat) → (ons since r b q)[i]? = r[i]?) ∧ (∀ w s, (w, s) ∈ q → s.toNat < r.length → ∃ b', 1 ≤ b' ∧ (ons since r b q)[s.toNat]? = some ⟨w, b', since⟩)
  | [], r, b, _, _ => ⟨fun i _ => rfl, fun w s h => by cases h⟩
  | (u, t) :: q, r, b, hb, hn => by
    rw [List.map_cons, List.nodup_cons] at hn
    obtain ⟨r1, r2⟩ := ons_get since (q := q) (r := r.set t.toNat ⟨u, b, since⟩) (b := b + 1) (by omega) hn.2
    rw [ons]
    refine ⟨fun i hi => ?_, fun w s hm hs => ?_⟩
    · rw [List.map_cons, List.mem_cons, not_or] at hi
      rw [r1 i hi.2, List.getElem?_set, if_neg (fun e => hi.1 e.symm)]
    · rcases List.mem_cons.1 hm with e | hm
      · cases e
        exact ⟨b, hb, by rw [r1 _ hn.1, List.getElem?_set, if_pos rfl, if_pos hs]⟩
      · exact r2 w s hm (by rw [List.length_set]; exact hs)
theorem askE_zero {l : List ApiEntry} {on : Bool} {wrong : Int} : ∀ {q p : List Int}, q.Nodup → (∀ w ∈ q, w ∉ p ∧ (0 ≤ w ∧ w < 256) ∧ decide (0 ≤ fnd l w) = on) → askE l on wrong p q = 0
  | [], _, _, _ => rfl
  | w :: q, p, hn, h => by
    rw [List.nodup_cons] at hn
    obtain ⟨h1, h2, h3⟩ := h w (by simp)
    have he : er l on wrong p w = 0 := by unfold er; rw [if_neg (by omega), if_neg h1, if_neg (not_not_intro h3)]
    unfold askE
    rw [if_neg (not_not_intro he)]
    refine askE_zero hn.2 fun u hu => ?_
    obtain ⟨k1, k2⟩ := h u (List.mem_cons_of_mem _ hu)
    refine ⟨fun hm => ?_, k2⟩
    rcases List.mem_append.1 hm with hm | hm
    · exact k1 hm
    · rw [List.mem_singleton] at hm; subst hm; exact hn.1 hu
theorem mvQ_nil (r : List ApiEntry) : mvQ r [] = [] := rfl
theorem back_mv {l : List ApiEntry} {jn : List Int} {since base : Int} (hl : l.length = 64) (h : mvE l [] jn since base = 0) :
    mvE (mvR l [] jn since base) jn [] since 0 = 0 ∧ mvR (mvR l [] jn since base) jn [] since 0 = l ∧ (mvL (mvR l [] jn since base) jn [] since 0).length = jn.length ∧ mvJ (mvR l [] jn since base) jn [] since 0 = [] := by
  have hM := mvd_of h
  have hF := hM.fit
  have hge : jn.length ≤ (frs l).length := frs_ge hF hl
  have hros := ros_mv hl h
  have hlen := mvR_len (lv := []) (jn := jn) (since := since) (base := base) hl
  have hr : mvR l [] jn since base = ons since l base (mvQ l jn) := by unfold mvR; rw [if_pos h]; rfl
  rw [hr] at hros hlen ⊢
  have hql := mvQ_len hge
  have hfst := mvQ_fst hge
  have hsnd : (mvQ l jn).map (fun x => x.2.toNat) = (frs l).take jn.length := by
    refine List.ext_getElem? fun i => ?_
    rw [List.getElem?_map, List.getElem?_take]
    rcases Nat.lt_or_ge i jn.length with hi | hi
    · rw [if_pos hi, mvQ_get hi (by omega), List.getElem?_eq_getElem (by omega)]
      simp
    · rw [if_neg (by omega), List.getElem?_eq_none (by omega)]
      rfl
  have hnd : ((mvQ l jn).map fun x => x.2.toNat).Nodup := by
    rw [hsnd]
    exact ((frs_sorted l).imp Nat.ne_of_lt).sublist (List.take_sublist _ _)
  have hfree : ∀ s ∈ (mvQ l jn).map (fun x => x.2.toNat), ∃ hs : s < l.length, l[s].Base = 0 := fun s hs => by
    rw [hsnd] at hs
    exact mem_frs.1 (List.mem_of_mem_take hs)
  have hb : jn = [] ∨ 1 ≤ base := by
    rcases hM.nm with h | h
    · left; exact List.eq_nil_of_length_eq_zero (by omega)
    · exact .inr h.1.1
  obtain ⟨g1, g2⟩ : (∀ i, i ∉ ((mvQ l jn).map fun x => x.2.toNat) → (ons since l base (mvQ l jn))[i]? = l[i]?) ∧ (∀ w s, (w, s) ∈ (mvQ l jn) → s.toNat < l.length → ∃ b', 1 ≤ b' ∧ (ons since l base (mvQ l jn))[s.toNat]? = some ⟨w, b', since⟩) := by
    rcases hb with rfl | hb
    · exact ⟨fun _ _ => rfl, fun w s h => by cases h⟩
    · exact ons_get since hb hnd
  have hon : ∀ w ∈ jn, ∃ s b', s ∈ (mvQ l jn).map (fun x => x.2.toNat) ∧ 1 ≤ b' ∧ (ons since l base (mvQ l jn))[s]? = some ⟨w, b', since⟩ := fun w hw => by
    rw [← hfst] at hw
    obtain ⟨⟨w', s⟩, hx, rfl⟩ := List.mem_map.1 hw
    have hm : s.toNat ∈ (mvQ l jn).map (fun x => x.2.toNat) := List.mem_map.2 ⟨_, hx, rfl⟩
    obtain ⟨b', hb', e⟩ := g2 w' s hx (hfree _ hm).1
    exact ⟨_, b', hm, hb', e⟩
  generalize hR : ons since l base (mvQ l jn) = R at *
  have hfnd : ∀ w ∈ jn, 0 ≤ fnd R w := fun w hw => by
    obtain ⟨s, b', _, hb', e⟩ := hon w hw
    obtain ⟨hs, e⟩ := List.getElem?_eq_some_iff.1 e
    refine fnd_ge (List.getElem_mem hs) ?_
    rw [e]; exact ⟨by dsimp only; omega, rfl⟩
  have hfit : fitsE R jn [] = 0 := by
    unfold fitsE
    have ha : askE R true 16 [] jn = 0 := askE_zero hF.nd2 fun w hw => ⟨by simp, (hF.in2 w hw).2.1, by simpa using hfnd w hw⟩
    rw [if_pos hros, if_neg (not_not_intro ha), if_neg (by simp [askE]), if_neg]
    have hcl : (tk R).count true ≤ 64 := by have := List.count_le_length (a := true) (l := tk R); rw [tk_len, hlen] at this; exact this
    simp only [List.length_nil]; omega
  have hs := hM.since
  have hE : mvE R jn [] since 0 = 0 := by
    unfold mvE
    rw [if_neg (not_not_intro hfit), if_neg (by omega), if_pos (.inl rfl)]
  refine ⟨hE, ?_, ?_, ?_⟩
  · unfold mvR
    rw [if_pos hE, mvQ_nil]
    show offs R jn = l
    refine List.ext_getElem? fun i => ?_
    rcases Nat.lt_or_ge i 64 with hi | hi
    · obtain ⟨o1, o2⟩ := offs_get hros hF.nd2 hfnd i (by omega)
      by_cases hm : i ∈ (mvQ l jn).map (fun x => x.2.toNat)
      · obtain ⟨⟨w, s⟩, hx, rfl⟩ := List.mem_map.1 hm
        obtain ⟨hsl, hs0⟩ := hfree _ hm
        obtain ⟨b', hb', e⟩ := g2 w s hx hsl
        obtain ⟨hs', e⟩ := List.getElem?_eq_some_iff.1 e
        rw [o1 ⟨w, by rw [← hfst]; exact List.mem_map.2 ⟨_, hx, rfl⟩, by dsimp only at e ⊢; rw [e]; exact ⟨by dsimp only; omega, rfl⟩⟩]
        dsimp only at hsl hs0 ⊢
        rw [List.getElem?_eq_getElem hsl]
        by_cases he : l[s.toNat] = e0
        · rw [he]
        · exact absurd hs0 ((hF.ok.base (List.getElem_mem hsl)).2 he)
      · have e := g1 i hm
        rw [List.getElem?_eq_getElem (by omega), List.getElem?_eq_getElem (by omega)] at e
        have e := Option.some.inj e
        rw [o2 fun w hw => ?_, List.getElem?_eq_getElem (by omega), e]
        rw [e]
        exact fnd_neg.1 (hF.in2 w hw).2.2 _ (List.getElem_mem _)
    · rw [List.getElem?_eq_none (by rw [offs_len]; omega), List.getElem?_eq_none (by omega)]
  · unfold mvL
    rw [if_pos hE, lefts_len]
  · unfold mvJ
    rw [if_pos hE, mvQ_nil]; rfl
end Go.Proofs.YtedemhmlaodblaaDoor
