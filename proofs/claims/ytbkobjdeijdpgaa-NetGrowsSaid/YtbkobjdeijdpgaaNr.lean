/- The net and the document's net: they stay alike. -/
import Derived.Test.YtbkobjdeijdpgaaNf
namespace Go.Proofs.Ytbkobjdeijdpgaa
open Go Go.SX Go.RowKit
/-- alike -/
structure Rel (N : NetM) (K : RefM) : Prop where
  all : N.all = K.all
  len : K.gone.length = K.all.length
  num : ∀ (i : Nat) p, K.all[i]? = some p → p.N = i + 1
  there : ∀ k p, mget N.there k = some p ↔ K.has k p
theorem Rel.new : Rel ⟨[], []⟩ ⟨[], []⟩ := ⟨rfl, rfl, by simp, fun k p => by simp [mget, RefM.has]⟩
theorem has_one {K : RefM} {k : Int} {p q : ApiPacket} (h : K.has k p) (h' : K.has k q) : p = q := Option.some.inj (h.2.1.symm.trans h'.2.1)
theorem hasnt_iff {K : RefM} (hl : K.gone.length = K.all.length) (k : Int) : K.hasnt k ↔ ∀ p, ¬ K.has k p := by
  unfold RefM.hasnt RefM.has
  constructor
  · rintro (h | h) p ⟨h1, h2, h3⟩
    · omega
    · exact h h3
  · intro h
    by_cases hk : k < 1
    · exact .inl hk
    · refine .inr fun hg => ?_
      have hlt : (k - 1).toNat < K.all.length := hl ▸ (List.getElem?_eq_some_iff.1 hg).1
      exact h _ ⟨by omega, List.getElem?_eq_getElem hlt, hg⟩
theorem Rel.lost {N : NetM} {K : RefM} (h : Rel N K) (k : Int) : mget N.there k = none ↔ K.hasnt k := by
  rw [hasnt_iff h.len]
  constructor
  · intro hn p hp
    rw [(h.there k p).2 hp] at hn
    cases hn
  · intro hn
    cases hg : mget N.there k with
    | none => rfl
    | some p => exact absurd ((h.there k p).1 hg) (hn p)
theorem Rel.send {N : NetM} {K : RefM} (h : Rel N K) (f : Int) (b : ByteArray) : Rel (N.send f b) ⟨K.all ++ [⟨K.all.length + 1, f, b⟩], K.gone ++ [false]⟩ := by
  refine ⟨by simp [NetM.send, h.all], by simp [h.len], fun i p hi => ?_, fun k p => ?_⟩
  · by_cases hlt : i < K.all.length
    · rw [List.getElem?_append_left hlt] at hi
      exact h.num i p hi
    · rw [List.getElem?_append_right (by omega)] at hi
      have hi0 : i - K.all.length = 0 := by
        have := (List.getElem?_eq_some_iff.1 hi).1
        simp at this; omega
      rw [hi0] at hi
      simp at hi
      subst hi
      show (K.all.length : Int) + 1 = i + 1
      omega
  · have e : mget (N.send f b).there k = if k = N.all.length + 1 then some ⟨N.all.length + 1, f, b⟩ else mget N.there k := mget_mput ..
    rw [e, h.all]
    unfold RefM.has
    by_cases hk : k = K.all.length + 1
    · subst hk
      have e1 : ((K.all.length : Int) + 1 - 1).toNat = K.all.length := by omega
      rw [if_pos rfl, e1, List.getElem?_append_right (Nat.le_refl _), List.getElem?_append_right (by rw [h.len]; exact Nat.le_refl _), h.len]
      simp
      intro _; omega
    · rw [if_neg hk, h.there]
      unfold RefM.has
      constructor
      · rintro ⟨h1, h2, h3⟩
        exact ⟨h1, by rw [List.getElem?_append_left (List.getElem?_eq_some_iff.1 h2).1]; exact h2, by rw [List.getElem?_append_left (List.getElem?_eq_some_iff.1 h3).1]; exact h3⟩
      · rintro ⟨h1, h2, h3⟩
        have hlt : (k - 1).toNat < K.all.length := by
          have := (List.getElem?_eq_some_iff.1 h2).1
          simp at this
          omega
        rw [List.getElem?_append_left hlt] at h2
        rw [List.getElem?_append_left (by rw [h.len]; exact hlt)] at h3
        exact ⟨h1, h2, h3⟩
theorem Rel.drop {N : NetM} {K : RefM} (h : Rel N K) {k : Int} (hk : 1 ≤ k) : Rel ⟨N.all, mdel N.there k⟩ ⟨K.all, K.gone.set (k - 1).toNat true⟩ := by
  refine ⟨h.all, by simp [h.len], h.num, fun j p => ?_⟩
  show mget (mdel N.there k) j = some p ↔ _
  rw [mget_mdel]
  by_cases hj : j = k
  · subst hj
    rw [if_pos rfl]
    unfold RefM.has
    constructor
    · intro h; cases h
    · rintro ⟨_, _, h3⟩
      rw [List.getElem?_set] at h3
      simp at h3
  · rw [if_neg hj, h.there]
    unfold RefM.has
    constructor
    · rintro ⟨h1, h2, h3⟩
      exact ⟨h1, h2, by rw [List.getElem?_set_ne (by omega)]; exact h3⟩
    · rintro ⟨h1, h2, h3⟩
      rw [List.getElem?_set_ne (by omega)] at h3
      exact ⟨h1, h2, h3⟩
theorem Rel.wait {N : NetM} {K : RefM} (h : Rel N K) : N.waiting N.all = K.wait K.all.length := by
  have key : ∀ j, j ≤ K.all.length → N.waiting (K.all.take j) = K.wait j := by
    intro j
    induction j with
    | zero => intro _; simp [NetM.waiting, RefM.wait]
    | succ j ih =>
      intro hj
      have hlt : j < K.all.length := by omega
      have hg : j < K.gone.length := by rw [h.len]; exact hlt
      have e1 := N.waiting_step K.all hlt
      rw [e1, ih (by omega)]
      unfold RefM.wait
      have hz : (K.all.zip K.gone)[j]? = some (K.all[j], K.gone[j]) := by
        rw [List.getElem?_eq_getElem (by simp; omega)]; simp
      rw [List.take_add_one, hz, List.filter_append, List.map_append]
      congr 1
      have hn := h.num j _ (List.getElem?_eq_getElem hlt)
      have hh := h.there (K.all[j].N) K.all[j]
      rw [hn] at hh ⊢
      have e2 : ((j : Int) + 1 - 1).toNat = j := by omega
      cases hgj : K.gone[j] with
      | false =>
        have : mget N.there (j + 1) = some K.all[j] := hh.2 ⟨by omega, by rw [e2]; exact List.getElem?_eq_getElem hlt, by rw [e2, List.getElem?_eq_getElem hg, hgj]⟩
        simp [this]
      | true =>
        have : mget N.there (j + 1) = none := (h.lost _).2 (.inr (by rw [e2, List.getElem?_eq_getElem hg, hgj]; simp))
        simp [this]
  have := key K.all.length (Nat.le_refl _)
  rw [List.take_length] at this
  rw [h.all]
  exact this
end Go.Proofs.Ytbkobjdeijdpgaa
