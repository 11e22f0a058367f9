/- Texts in one: what the law's walk needs, part 4: contracts by symbolic execution; no condition. -/
import Derived.Test.YtdfoijfjlhjeaaaGreatJc
set_option linter.unusedSimpArgs false
set_option linter.unusedVariables false
/- coterieref14.Good. -/
namespace Go.Proofs.YtdfoijfjlhjeaaaGreat
open Go Go.SX Go.RowKit
set_option maxRecDepth 100000
set_option maxHeartbeats 0
set_option synthInstance.maxSize 100000
set_option synthInstance.maxHeartbeats 400000
instance person_pc (n : Int) : PC Tryz.prog 137 #[.int .i64 n] (.bool (decide (Btw n 0 255))) := ⟨by
  refine spec_of1 Tryz.func137 Tryz.ntmps137 rfl rfl (fun M w0 => ?_)
  repeat' (first | refine stp ?_|refine v_spD (fun hc=>?_) (fun hc=>?_)|fail)
  all_goals refine v_out1 (Γk := []) Tryz.results137 ⟨?_, rfl⟩
  all_goals first | (refine bD ?_; unfold Btw; omega) | (refine bF ?_; unfold Btw; omega) | (refine bT ?_; unfold Btw; omega)⟩
instance slot_pc (n : Int) : PC Tryz.prog 138 #[.int .i64 n] (.bool (decide (Btw n 0 63))) := ⟨by
  refine spec_of1 Tryz.func138 Tryz.ntmps138 rfl rfl (fun M w0 => ?_)
  repeat' (first | refine stp ?_|refine v_spD (fun hc=>?_) (fun hc=>?_)|fail)
  all_goals refine v_out1 (Γk := []) Tryz.results138 ⟨?_, rfl⟩
  all_goals first | (refine bD ?_; unfold Btw; omega) | (refine bF ?_; unfold Btw; omega) | (refine bT ?_; unfold Btw; omega)⟩
instance epoch14_pc (n : Int) : PC Tryz.prog 134 #[.int .i64 n] (.bool (decide (Btw n 1 200))) := ⟨by
  refine spec_of1 Tryz.func134 Tryz.ntmps134 rfl rfl (fun M w0 => ?_)
  repeat' (first | refine stp ?_|refine v_spD (fun hc=>?_) (fun hc=>?_)|fail)
  all_goals refine v_out1 (Γk := []) Tryz.results134 ⟨?_, rfl⟩
  all_goals first | (refine bD ?_; unfold Btw; omega) | (refine bF ?_; unfold Btw; omega) | (refine bT ?_; unfold Btw; omega)⟩
instance goodBox14_pc (x1 x2 x3 x4 : Int) : PC Tryz.prog 96 #[.agg #[.int .i64 x1, .int .i64 x2, .int .i64 x3, .int .i64 x4]] (.bool (decide (goodBox ⟨⟨x1, x2⟩, ⟨x3, x4⟩⟩))) := ⟨by
  refine spec_of1 Tryz.func96 Tryz.ntmps96 rfl rfl (fun M w0 => ?_)
  repeat' (first | refine stp ?_|refine v_spD (fun hc=>?_) (fun hc=>?_)|refine v_box (fun bb=>?_)|fail)
  all_goals refine v_out1 (Γk := []) Tryz.results96 ⟨?_, rfl⟩
  all_goals first | (refine bD ?_; simp_all; done) | (refine bF ?_; simp_all; done) | (refine bT ?_; simp_all; done)⟩
theorem all_step {α : Type} {p : α → Prop} {l : List α} {i : Nat} (h : i < l.length) (hg : ∀ x ∈ l.take i, p x) (hx : p l[i]) : ∀ x ∈ l.take (i + 1), p x := by
  rw [List.take_succ_eq_append_getElem h]
  intro x hm
  rcases List.mem_append.1 hm with hm | hm
  · exact hg x hm
  · rw [List.mem_singleton.1 hm]; exact hx
theorem rseats_s (v : Value) (s : Hp) (l : List ApiSeat) (h : AtS v 162 ApiSeat 2 cvApiSeat l s) : SX.Spec Tryz.prog 135 #[v] [s] [] fun r Γ => r = .bool (decide ((∀ x ∈ l, goodSeat x) ∧ (l.length : Int) ≤ 64)) ∧ Γ = [] := by
  have hle := AtS.le h
  refine spec_of1 Tryz.func135 Tryz.ntmps135 rfl rfl (fun M w0 => ?_)
  repeat' (first | refine stp ?_|refine v_spD (fun hc=>?_) (fun hc=>?_)|(refine v_yc ?_ ?_;omega)|refine v_alloc' (fun ba=>?_)|fail)
  refine v_lp [7] [0, 5, 6] (fun i : Nat => [.int .i64 i]) (fun i => []) (fun i => i ≤ l.length ∧ ∀ x ∈ l.take i, goodSeat x) (fun i => l.length - i) 0 (fun _ => rfl) rfl inferInstance ⟨Nat.zero_le _, by simp⟩ ?_
  rintro i ⟨hi, hg⟩
  (try dsimp only [zipE_c, zipE_n, List.cons_append, List.nil_append])
  repeat' (first | refine stp ?_|refine v_spD (fun hc=>?_) (fun hc=>?_)|(refine v_yc ?_ ?_;omega)|refine v_alloc' (fun ba=>?_)|fail)
  · exact v_out1 (Γk := []) Tryz.results135 ⟨bF fun h => hc (h.1 _ (List.getElem_mem (by omega))).1, rfl⟩
  · exact v_out1 (Γk := []) Tryz.results135 ⟨bF fun h => hc (h.1 _ (List.getElem_mem (by omega))).2, rfl⟩
  · rename_i h1 h2
    exact v_again (i + 1) (by omega) rfl inferInstance ⟨by omega, all_step (by omega) hg ⟨Decidable.not_not.1 h2, Decidable.not_not.1 hc⟩⟩
  · obtain rfl : i = l.length := by omega
    rw [List.take_length] at hg
    exact v_out1 (Γk := []) Tryz.results135 ⟨bD ⟨fun h => ⟨hg, h⟩, fun h => h.2⟩, rfl⟩
theorem rgoodRk_s (e : Int) (v1 v2 v3 : Value) (s1 s2 s3 : Hp) (l1 l2 : List ApiSeat) (l3 : List ApiItem) (o1 : AtS v1 162 ApiSeat 2 cvApiSeat l1 s1) (o2 : AtS v2 162 ApiSeat 2 cvApiSeat l2 s2) (o3 : AtS v3 62 ApiItem 6 cvApiItem l3 s3) :
    SX.Spec Tryz.prog 82 #[.agg #[.int .i64 e, v1, v2, v3]] [s1, s2, s3] [] fun r Γ => r = .bool (decide (goodRk ⟨e, l1, l2, l3⟩)) ∧ Γ = [] := by
  have hle := AtS.le o3
  refine spec_of1 Tryz.func82 Tryz.ntmps82 rfl rfl (fun M w0 => ?_)
  repeat' (first | refine stp ?_|refine v_spD (fun hc=>?_) (fun hc=>?_)|(refine v_yc ?_ ?_;omega)|refine v_alloc' (fun ba=>?_)|refine v_box (fun bb=>?_)|fail)
  · exact v_out1 (Γk := []) Tryz.results82 ⟨bF fun h => hc h.1, rfl⟩
  have he := Decidable.not_not.1 hc
  refine v_callR (rseats_s v1 s1 l1 o1) ?_
  rintro r Γ' ⟨rfl, rfl⟩
  (try dsimp only [List.cons_append, List.nil_append])
  repeat' (first | refine stp ?_|refine v_spD (fun hc=>?_) (fun hc=>?_)|(refine v_yc ?_ ?_;omega)|refine v_alloc' (fun ba=>?_)|refine v_box (fun bb=>?_)|fail)
  · exact v_out1 (Γk := []) Tryz.results82 ⟨bF fun h => hc h.2.1, rfl⟩
  have hl1 := Decidable.not_not.1 hc
  refine v_callR (rseats_s v2 s2 l2 o2) ?_
  rintro r Γ' ⟨rfl, rfl⟩
  (try dsimp only [List.cons_append, List.nil_append])
  repeat' (first | refine stp ?_|refine v_spD (fun hc=>?_) (fun hc=>?_)|(refine v_yc ?_ ?_;omega)|refine v_alloc' (fun ba=>?_)|refine v_box (fun bb=>?_)|fail)
  · exact v_out1 (Γk := []) Tryz.results82 ⟨bF fun h => hc h.2.2.1, rfl⟩
  · exact v_out1 (Γk := []) Tryz.results82 ⟨bF fun h => by have h6 : (l3.length : Int) ≤ 1536 := h.2.2.2.2; omega, rfl⟩
  have hl2 : (∀ x ∈ l2, goodSeat x) ∧ (l2.length : Int) ≤ 64 := by rename_i h; exact Decidable.not_not.1 h
  refine v_lp [30] [28, 29] (fun i : Nat => [.int .i64 i]) (fun i => []) (fun i => i ≤ l3.length ∧ ∀ x ∈ l3.take i, goodItem x) (fun i => l3.length - i) 0 (fun _ => rfl) rfl inferInstance ⟨Nat.zero_le _, by simp⟩ ?_
  rintro i ⟨hi, hg⟩
  (try dsimp only [zipE_c, zipE_n, List.cons_append, List.nil_append])
  repeat' (first | refine stp ?_|refine v_spD (fun hc=>?_) (fun hc=>?_)|(refine v_yc ?_ ?_;omega)|refine v_alloc' (fun ba=>?_)|refine v_box (fun bb=>?_)|fail)
  · exact v_out1 (Γk := []) Tryz.results82 ⟨bF fun h => by have h' := h.2.2.2.1 _ (List.getElem_mem (show i < l3.length by omega)); have := h'.1.1; omega, rfl⟩
  · exact v_out1 (Γk := []) Tryz.results82 ⟨bF fun h => by have h' := h.2.2.2.1 _ (List.getElem_mem (show i < l3.length by omega)); have := h'.1.2; omega, rfl⟩
  · exact v_out1 (Γk := []) Tryz.results82 ⟨bF fun h => by have h' := h.2.2.2.1 _ (List.getElem_mem (show i < l3.length by omega)); exact h'.2.1 hc, rfl⟩
  · exact v_out1 (Γk := []) Tryz.results82 ⟨bF fun h => by have h' := h.2.2.2.1 _ (List.getElem_mem (show i < l3.length by omega)); exact hc h'.2.2.1, rfl⟩
  · exact v_out1 (Γk := []) Tryz.results82 ⟨bF fun h => by have h' := h.2.2.2.1 _ (List.getElem_mem (show i < l3.length by omega)); exact hc h'.2.2.2, rfl⟩
  · rename_i h1 h2 h3 h4
    exact v_again (i + 1) (by omega) rfl inferInstance ⟨by omega, all_step (by omega) hg ⟨⟨by omega, by omega⟩, h3, Decidable.not_not.1 h4, Decidable.not_not.1 hc⟩⟩
  · obtain rfl : i = l3.length := by omega
    rw [List.take_length] at hg
    exact v_out1 (Γk := []) Tryz.results82 ⟨bT ⟨he, hl1, hl2, hg, by dsimp only; omega⟩, rfl⟩
theorem rsame0_s (v : Value) (s : Hp) (l : List ApiSeat) (h : AtS v 162 ApiSeat 2 cvApiSeat l s) : SX.Spec Tryz.prog 132 #[v, .slice none 0 0] [s] [] fun r Γ => r = .bool (decide (l = [])) ∧ Γ = [] := by
  have hle := AtS.le h
  refine spec_of2 Tryz.func132 Tryz.ntmps132 rfl rfl (fun M w0 => ?_)
  repeat' (first | refine stp ?_|(refine v_spF ?_ ?_;omega)|refine v_spD (fun hc=>?_) (fun hc=>?_)|fail)
  · exact v_out1 (Γk := []) Tryz.results132 ⟨bF fun h => hc (by rw [h]; rfl), rfl⟩
  have hl : l = [] := List.eq_nil_of_length_eq_zero (by omega)
  subst hl
  refine v_lp [13] [0, 1, 12] (fun _ : Unit => [.int .i64 0]) (fun _ => []) (fun _ => True) (fun _ => 0) () (fun _ => rfl) rfl inferInstance trivial ?_
  rintro - -
  (try dsimp only [zipE_c, zipE_n, List.cons_append, List.nil_append])
  repeat' (first | refine stp ?_|(refine v_spF ?_ ?_;omega)|refine v_spD (fun hc=>?_) (fun hc=>?_)|fail)
  exact v_out1 (Γk := []) Tryz.results132 ⟨bT rfl, rfl⟩
theorem rsameI0_s (v : Value) (s : Hp) (l : List ApiItem) (h : AtS v 62 ApiItem 6 cvApiItem l s) : SX.Spec Tryz.prog 133 #[v, .slice none 0 0] [s] [] fun r Γ => r = .bool (decide (l = [])) ∧ Γ = [] := by
  have hle := AtS.le h
  refine spec_of2 Tryz.func133 Tryz.ntmps133 rfl rfl (fun M w0 => ?_)
  repeat' (first | refine stp ?_|(refine v_spF ?_ ?_;omega)|refine v_spD (fun hc=>?_) (fun hc=>?_)|fail)
  · exact v_out1 (Γk := []) Tryz.results133 ⟨bF fun h => hc (by rw [h]; rfl), rfl⟩
  have hl : l = [] := List.eq_nil_of_length_eq_zero (by omega)
  subst hl
  refine v_lp [13] [0, 1, 12] (fun _ : Unit => [.int .i64 0]) (fun _ => []) (fun _ => True) (fun _ => 0) () (fun _ => rfl) rfl inferInstance trivial ?_
  rintro - -
  (try dsimp only [zipE_c, zipE_n, List.cons_append, List.nil_append])
  repeat' (first | refine stp ?_|(refine v_spF ?_ ?_;omega)|refine v_spD (fun hc=>?_) (fun hc=>?_)|fail)
  exact v_out1 (Γk := []) Tryz.results133 ⟨bT rfl, rfl⟩
theorem rnoRk_s (e : Int) (v1 v2 v3 : Value) (s1 s2 s3 : Hp) (l1 l2 : List ApiSeat) (l3 : List ApiItem) (o1 : AtS v1 162 ApiSeat 2 cvApiSeat l1 s1) (o2 : AtS v2 162 ApiSeat 2 cvApiSeat l2 s2) (o3 : AtS v3 62 ApiItem 6 cvApiItem l3 s3) :
    SX.Spec Tryz.prog 81 #[.agg #[.int .i64 e, v1, v2, v3], .agg #[.int .i64 0, .slice none 0 0, .slice none 0 0, .slice none 0 0]] [s1, s2, s3] [] fun r Γ => r = .bool (decide (noRk ⟨e, l1, l2, l3⟩)) ∧ Γ = [] := by
  refine spec_of2 Tryz.func81 Tryz.ntmps81 rfl rfl (fun M w0 => ?_)
  repeat' (first | refine stp ?_|refine v_spD (fun hc=>?_) (fun hc=>?_)|refine v_box (fun bb=>?_)|fail)
  · have he := hc
    refine v_callR (rsame0_s v1 s1 l1 o1) ?_
    rintro r Γ' ⟨rfl, rfl⟩
    (try dsimp only [List.cons_append, List.nil_append])
    repeat' (first | refine stp ?_|refine v_spD (fun hc=>?_) (fun hc=>?_)|refine v_box (fun bb=>?_)|fail)
    · have h1 := hc
      refine v_callR (rsame0_s v2 s2 l2 o2) ?_
      rintro r Γ' ⟨rfl, rfl⟩
      (try dsimp only [List.cons_append, List.nil_append])
      repeat' (first | refine stp ?_|refine v_spD (fun hc=>?_) (fun hc=>?_)|refine v_box (fun bb=>?_)|fail)
      · have h2 := hc
        refine v_callR (rsameI0_s v3 s3 l3 o3) ?_
        rintro r Γ' ⟨rfl, rfl⟩
        (try dsimp only [List.cons_append, List.nil_append])
        repeat' (first | refine stp ?_|refine v_spD (fun hc=>?_) (fun hc=>?_)|refine v_box (fun bb=>?_)|fail)
        exact v_out1 (Γk := []) Tryz.results81 ⟨bD ⟨fun h => ⟨he, h1, h2, h⟩, fun h => h.2.2.2⟩, rfl⟩
      · exact v_out1 (Γk := []) Tryz.results81 ⟨bF fun h => hc h.2.2.1, rfl⟩
    · exact v_out1 (Γk := []) Tryz.results81 ⟨bF fun h => hc h.2.1, rfl⟩
  · exact v_out1 (Γk := []) Tryz.results81 ⟨bF fun h => hc h.1, rfl⟩
instance rgoodRq_pc (w e : Int) : PC Tryz.prog 83 #[.agg #[.int .i64 w, .int .i64 e]] (.bool (decide (goodRq w e))) := ⟨by
  refine spec_of1 Tryz.func83 Tryz.ntmps83 rfl rfl (fun M w0 => ?_)
  repeat' (first | refine stp ?_|refine v_spD (fun hc=>?_) (fun hc=>?_)|refine v_box (fun bb=>?_)|fail)
  all_goals refine v_out1 (Γk := []) Tryz.results83 ⟨?_, rfl⟩
  all_goals first | (refine bF fun h => ?_; exact hc h.1) | (refine bD ⟨fun h => ⟨hc, h⟩, fun h => h.2⟩)⟩
instance rgoodSl_pc (f : Int) (u1 u2 : Int) (t : List UInt8) : PC Tryz.prog 85 #[.agg #[.int .i64 f, .int .i64 u1, .int .i64 u2, str t]] (.bool (decide (goodSl ⟨f, ⟨u1, u2⟩, t⟩))) := ⟨by
  refine spec_of1 Tryz.func85 Tryz.ntmps85 rfl rfl (fun M w0 => ?_)
  repeat' (first | refine stp ?_|refine v_spD (fun hc=>?_) (fun hc=>?_)|refine v_box (fun bb=>?_)|fail)
  all_goals refine v_out1 (Γk := []) Tryz.results85 ⟨?_, rfl⟩
  all_goals first | (refine bF fun h => ?_; exact hc h.1) | (refine bF fun h => ?_; exact hc h.2.1) | (refine bD ⟨fun h => ⟨by assumption, by assumption, h⟩, fun h => h.2.2⟩)⟩
theorem rgoodRp_s (a b c : Int) (x y z : ApiBox) : SX.Spec Tryz.prog 84 #[.agg #[.int .i64 a, .int .i64 b, .int .i64 c, .int .i64 x.Under.Base, .int .i64 x.Under.Step, .int .i64 x.Load.Base, .int .i64 x.Load.Step, .int .i64 y.Under.Base, .int .i64 y.Under.Step, .int .i64 y.Load.Base, .int .i64 y.Load.Step, .int .i64 z.Under.Base, .int .i64 z.Under.Step, .int .i64 z.Load.Base, .int .i64 z.Load.Step]] [] [] fun r Γ => r = .bool (decide (goodRp ⟨a, b, c, [x, y, z]⟩)) ∧ Γ = [] := by
  refine spec_of1 Tryz.func84 Tryz.ntmps84 rfl rfl (fun M w0 => ?_)
  repeat' (first | refine stp ?_|(refine v_spT ?_ ?_;omega)|(refine v_spF ?_ ?_;omega)|refine v_spD (fun hc=>?_) (fun hc=>?_)|(refine v_yc ?_ ?_;omega)|refine v_box (fun bb=>?_)|fail)
  refine v_lp [3] [1] (fun i : Nat => [.int .i64 i]) (fun i => [[(bb, .cells #[.int .i64 a, .int .i64 b, .int .i64 c, .int .i64 x.Under.Base, .int .i64 x.Under.Step, .int .i64 x.Load.Base, .int .i64 x.Load.Step, .int .i64 y.Under.Base, .int .i64 y.Under.Step, .int .i64 y.Load.Base, .int .i64 y.Load.Step, .int .i64 z.Under.Base, .int .i64 z.Under.Step, .int .i64 z.Load.Base, .int .i64 z.Load.Step] 45 (0, 0))]]) (fun i => i ≤ 3 ∧ ∀ w ∈ [x, y, z].take i, goodBox w) (fun i => 3 - i) 0 (fun _ => rfl) rfl inferInstance ⟨Nat.zero_le _, by simp⟩ ?_
  rintro i ⟨hi, hg⟩
  have h4 : i = 0 ∨ i = 1 ∨ i = 2 ∨ i = 3 := by omega
  rcases h4 with rfl | rfl | rfl | rfl
  · (try dsimp only [zipE_c, zipE_n, List.cons_append, List.nil_append])
    rw [show ((0 : Nat) : Int) = 0 from rfl]
    repeat' (first | refine stp ?_|(refine v_spT ?_ ?_;omega)|(refine v_spF ?_ ?_;omega)|refine v_spD (fun hc=>?_) (fun hc=>?_)|(refine v_yc ?_ ?_;omega)|refine v_box (fun bb=>?_)|fail)
    rw [show 3 + Int.toNat 0 * 4 = 3 from rfl]
    repeat' (first | refine stp ?_|(refine v_spT ?_ ?_;omega)|(refine v_spF ?_ ?_;omega)|refine v_spD (fun hc=>?_) (fun hc=>?_)|(refine v_yc ?_ ?_;omega)|refine v_box (fun bb=>?_)|fail)
    · exact v_out1 (Γk := []) Tryz.results84 ⟨bF fun h => hc (h.2.2 _ (by simp)), rfl⟩
    · exact v_again 1 (by omega) rfl inferInstance ⟨by omega, all_step (l := [x, y, z]) (i := 0) (by simp) hg (Decidable.not_not.1 hc)⟩
  · (try dsimp only [zipE_c, zipE_n, List.cons_append, List.nil_append])
    rw [show ((1 : Nat) : Int) = 1 from rfl]
    repeat' (first | refine stp ?_|(refine v_spT ?_ ?_;omega)|(refine v_spF ?_ ?_;omega)|refine v_spD (fun hc=>?_) (fun hc=>?_)|(refine v_yc ?_ ?_;omega)|refine v_box (fun bb=>?_)|fail)
    rw [show 3 + Int.toNat 1 * 4 = 7 from rfl]
    repeat' (first | refine stp ?_|(refine v_spT ?_ ?_;omega)|(refine v_spF ?_ ?_;omega)|refine v_spD (fun hc=>?_) (fun hc=>?_)|(refine v_yc ?_ ?_;omega)|refine v_box (fun bb=>?_)|fail)
    · exact v_out1 (Γk := []) Tryz.results84 ⟨bF fun h => hc (h.2.2 _ (by simp)), rfl⟩
    · exact v_again 2 (by omega) rfl inferInstance ⟨by omega, all_step (l := [x, y, z]) (i := 1) (by simp) hg (Decidable.not_not.1 hc)⟩
  · (try dsimp only [zipE_c, zipE_n, List.cons_append, List.nil_append])
    rw [show ((2 : Nat) : Int) = 2 from rfl]
    repeat' (first | refine stp ?_|(refine v_spT ?_ ?_;omega)|(refine v_spF ?_ ?_;omega)|refine v_spD (fun hc=>?_) (fun hc=>?_)|(refine v_yc ?_ ?_;omega)|refine v_box (fun bb=>?_)|fail)
    rw [show 3 + Int.toNat 2 * 4 = 11 from rfl]
    repeat' (first | refine stp ?_|(refine v_spT ?_ ?_;omega)|(refine v_spF ?_ ?_;omega)|refine v_spD (fun hc=>?_) (fun hc=>?_)|(refine v_yc ?_ ?_;omega)|refine v_box (fun bb=>?_)|fail)
    · exact v_out1 (Γk := []) Tryz.results84 ⟨bF fun h => hc (h.2.2 _ (by simp)), rfl⟩
    · exact v_again 3 (by omega) rfl inferInstance ⟨by omega, all_step (l := [x, y, z]) (i := 2) (by simp) hg (Decidable.not_not.1 hc)⟩
  · (try dsimp only [zipE_c, zipE_n, List.cons_append, List.nil_append])
    rw [show ((3 : Nat) : Int) = 3 from rfl]
    repeat' (first | refine stp ?_|(refine v_spT ?_ ?_;omega)|(refine v_spF ?_ ?_;omega)|refine v_spD (fun hc=>?_) (fun hc=>?_)|(refine v_yc ?_ ?_;omega)|refine v_box (fun bb=>?_)|fail)
    · rename_i h1
      exact v_out1 (Γk := []) Tryz.results84 ⟨bD ⟨fun h => ⟨⟨h1, hc⟩, h, hg⟩, fun h => h.2.1⟩, rfl⟩
    · exact v_out1 (Γk := []) Tryz.results84 ⟨bF fun h => hc h.1.2, rfl⟩
    · exact v_out1 (Γk := []) Tryz.results84 ⟨bF fun h => hc h.1.1, rfl⟩
theorem rgoodM_s (m : MsgM) (v1 v2 v3 : Value) (s1 s2 s3 : Hp) (cs : Array Value) (hm : MsgC m v1 v2 v3 cs) (o1 : AtS v1 162 ApiSeat 2 cvApiSeat m.Rekey.Leaves s1) (o2 : AtS v2 162 ApiSeat 2 cvApiSeat m.Rekey.Joins s2) (o3 : AtS v3 62 ApiItem 6 cvApiItem m.Rekey.Items s3) :
    SX.Spec Tryz.prog 41 #[.agg cs] [s1, s2, s3] [] fun r Γ => r = .bool (decide (GoodM m)) ∧ Γ = [] := by
  obtain ⟨k, ⟨e, l1, l2, l3⟩, q1, q2, ⟨a, b, c, p⟩, ⟨f, u, t⟩⟩ := m
  obtain ⟨x, y, z, hp, rfl⟩ := hm
  dsimp only at hp o1 o2 o3 ⊢
  subst hp
  have hG : GoodM ⟨k, ⟨e, l1, l2, l3⟩, q1, q2, ⟨a, b, c, [x, y, z]⟩, ⟨f, u, t⟩⟩ ↔
      (k = 1 ∧ goodRk ⟨e, l1, l2, l3⟩ ∧ (q1 = 0 ∧ q2 = 0) ∧ zRp a b c x.Under.Base x.Under.Step x.Load.Base x.Load.Step y.Under.Base y.Under.Step y.Load.Base y.Load.Step z.Under.Base z.Under.Step z.Load.Base z.Load.Step ∧ (f = 0 ∧ (u.Base = 0 ∧ u.Step = 0) ∧ (⟨t.toArray⟩ : ByteArray) = ⟨#[]⟩)) ∨
      (k = 2 ∧ noRk ⟨e, l1, l2, l3⟩ ∧ goodRq q1 q2 ∧ zRp a b c x.Under.Base x.Under.Step x.Load.Base x.Load.Step y.Under.Base y.Under.Step y.Load.Base y.Load.Step z.Under.Base z.Under.Step z.Load.Base z.Load.Step ∧ (f = 0 ∧ (u.Base = 0 ∧ u.Step = 0) ∧ (⟨t.toArray⟩ : ByteArray) = ⟨#[]⟩)) ∨
      (k = 3 ∧ noRk ⟨e, l1, l2, l3⟩ ∧ (q1 = 0 ∧ q2 = 0) ∧ goodRp ⟨a, b, c, [x, y, z]⟩ ∧ (f = 0 ∧ (u.Base = 0 ∧ u.Step = 0) ∧ (⟨t.toArray⟩ : ByteArray) = ⟨#[]⟩)) ∨
      (k = 4 ∧ noRk ⟨e, l1, l2, l3⟩ ∧ (q1 = 0 ∧ q2 = 0) ∧ zRp a b c x.Under.Base x.Under.Step x.Load.Base x.Load.Step y.Under.Base y.Under.Step y.Load.Base y.Load.Step z.Under.Base z.Under.Step z.Load.Base z.Load.Step ∧ goodSl ⟨f, u, t⟩) := by
    rw [byteArr_nil]; exact Iff.rfl
  refine spec_of1 Tryz.func41 Tryz.ntmps41 rfl rfl (fun M w0 => ?_)
  repeat' (first | refine stp ?_|(refine v_spT ?_ ?_;omega)|(refine v_spF ?_ ?_;omega)|refine v_spD (fun hc=>?_) (fun hc=>?_)|refine v_box (fun bb=>?_)|fail)
  refine v_callR (rnoRk_s e v1 v2 v3 s1 s2 s3 l1 l2 l3 o1 o2 o3) ?_
  rintro r Γ' ⟨rfl, rfl⟩
  (try dsimp only [List.cons_append, List.nil_append])
  have hk : k = 1 ∨ k = 2 ∨ k = 3 ∨ k = 4 ∨ ¬ (k = 1 ∨ k = 2 ∨ k = 3 ∨ k = 4) := by omega
  rcases hk with rfl | rfl | rfl | rfl | hk
  · repeat' (first | refine stp ?_|(refine v_spT ?_ ?_;omega)|(refine v_spF ?_ ?_;omega)|refine v_spD (fun hc=>?_) (fun hc=>?_)|refine v_box (fun bb=>?_)|fail)
    refine v_callR (rgoodRk_s e v1 v2 v3 s1 s2 s3 l1 l2 l3 o1 o2 o3) ?_
    rintro r Γ' ⟨rfl, rfl⟩
    (try dsimp only [List.cons_append, List.nil_append])
    repeat' (first | refine stp ?_|(refine v_spT ?_ ?_;omega)|(refine v_spF ?_ ?_;omega)|refine v_spD (fun hc=>?_) (fun hc=>?_)|refine v_box (fun bb=>?_)|fail)
    all_goals (refine v_out1 (Γk := []) Tryz.results41 ⟨?_, rfl⟩; first | (refine bF fun h => ?_; rcases hG.1 h with ⟨h0, h1, h2, h3, h4⟩ | ⟨h0, h1, h2, h3, h4⟩ | ⟨h0, h1, h2, h3, h4⟩ | ⟨h0, h1, h2, h3, h4⟩ <;> first | omega | exact hc h1 | exact hc h2 | exact hc h3 | exact hc h4) | (refine bD ⟨fun h => hG.2 (by first | exact .inl ⟨rfl, by assumption, by assumption, by assumption, h⟩ | exact .inr (.inl ⟨rfl, by assumption, by assumption, by assumption, h⟩) | exact .inr (.inr (.inl ⟨rfl, by assumption, by assumption, by assumption, h⟩)) | exact .inr (.inr (.inr ⟨rfl, by assumption, by assumption, by assumption, h⟩))), fun h => ?_⟩; rcases hG.1 h with ⟨h0, h1, h2, h3, h4⟩ | ⟨h0, h1, h2, h3, h4⟩ | ⟨h0, h1, h2, h3, h4⟩ | ⟨h0, h1, h2, h3, h4⟩ <;> first | exact h4 | omega))
  · repeat' (first | refine stp ?_|(refine v_spT ?_ ?_;omega)|(refine v_spF ?_ ?_;omega)|refine v_spD (fun hc=>?_) (fun hc=>?_)|refine v_box (fun bb=>?_)|fail)
    all_goals (refine v_out1 (Γk := []) Tryz.results41 ⟨?_, rfl⟩; first | (refine bF fun h => ?_; rcases hG.1 h with ⟨h0, h1, h2, h3, h4⟩ | ⟨h0, h1, h2, h3, h4⟩ | ⟨h0, h1, h2, h3, h4⟩ | ⟨h0, h1, h2, h3, h4⟩ <;> first | omega | exact hc h1 | exact hc h2 | exact hc h3 | exact hc h4) | (refine bD ⟨fun h => hG.2 (by first | exact .inl ⟨rfl, by assumption, by assumption, by assumption, h⟩ | exact .inr (.inl ⟨rfl, by assumption, by assumption, by assumption, h⟩) | exact .inr (.inr (.inl ⟨rfl, by assumption, by assumption, by assumption, h⟩)) | exact .inr (.inr (.inr ⟨rfl, by assumption, by assumption, by assumption, h⟩))), fun h => ?_⟩; rcases hG.1 h with ⟨h0, h1, h2, h3, h4⟩ | ⟨h0, h1, h2, h3, h4⟩ | ⟨h0, h1, h2, h3, h4⟩ | ⟨h0, h1, h2, h3, h4⟩ <;> first | exact h4 | omega))
  · repeat' (first | refine stp ?_|(refine v_spT ?_ ?_;omega)|(refine v_spF ?_ ?_;omega)|refine v_spD (fun hc=>?_) (fun hc=>?_)|refine v_box (fun bb=>?_)|fail)
    · refine v_callR (rgoodRp_s a b c x y z) ?_
      rintro r Γ' ⟨rfl, rfl⟩
      (try dsimp only [List.cons_append, List.nil_append])
      repeat' (first | refine stp ?_|(refine v_spT ?_ ?_;omega)|(refine v_spF ?_ ?_;omega)|refine v_spD (fun hc=>?_) (fun hc=>?_)|refine v_box (fun bb=>?_)|fail)
      all_goals (refine v_out1 (Γk := []) Tryz.results41 ⟨?_, rfl⟩; first | (refine bF fun h => ?_; rcases hG.1 h with ⟨h0, h1, h2, h3, h4⟩ | ⟨h0, h1, h2, h3, h4⟩ | ⟨h0, h1, h2, h3, h4⟩ | ⟨h0, h1, h2, h3, h4⟩ <;> first | omega | exact hc h1 | exact hc h2 | exact hc h3 | exact hc h4) | (refine bD ⟨fun h => hG.2 (by first | exact .inl ⟨rfl, by assumption, by assumption, by assumption, h⟩ | exact .inr (.inl ⟨rfl, by assumption, by assumption, by assumption, h⟩) | exact .inr (.inr (.inl ⟨rfl, by assumption, by assumption, by assumption, h⟩)) | exact .inr (.inr (.inr ⟨rfl, by assumption, by assumption, by assumption, h⟩))), fun h => ?_⟩; rcases hG.1 h with ⟨h0, h1, h2, h3, h4⟩ | ⟨h0, h1, h2, h3, h4⟩ | ⟨h0, h1, h2, h3, h4⟩ | ⟨h0, h1, h2, h3, h4⟩ <;> first | exact h4 | omega))
    all_goals (refine v_out1 (Γk := []) Tryz.results41 ⟨?_, rfl⟩; first | (refine bF fun h => ?_; rcases hG.1 h with ⟨h0, h1, h2, h3, h4⟩ | ⟨h0, h1, h2, h3, h4⟩ | ⟨h0, h1, h2, h3, h4⟩ | ⟨h0, h1, h2, h3, h4⟩ <;> first | omega | exact hc h1 | exact hc h2 | exact hc h3 | exact hc h4) | (refine bD ⟨fun h => hG.2 (by first | exact .inl ⟨rfl, by assumption, by assumption, by assumption, h⟩ | exact .inr (.inl ⟨rfl, by assumption, by assumption, by assumption, h⟩) | exact .inr (.inr (.inl ⟨rfl, by assumption, by assumption, by assumption, h⟩)) | exact .inr (.inr (.inr ⟨rfl, by assumption, by assumption, by assumption, h⟩))), fun h => ?_⟩; rcases hG.1 h with ⟨h0, h1, h2, h3, h4⟩ | ⟨h0, h1, h2, h3, h4⟩ | ⟨h0, h1, h2, h3, h4⟩ | ⟨h0, h1, h2, h3, h4⟩ <;> first | exact h4 | omega))
  · repeat' (first | refine stp ?_|(refine v_spT ?_ ?_;omega)|(refine v_spF ?_ ?_;omega)|refine v_spD (fun hc=>?_) (fun hc=>?_)|refine v_box (fun bb=>?_)|fail)
    repeat' (first | refine stp ?_|(refine v_spT ?_ ?_;omega)|(refine v_spF ?_ ?_;omega)|refine v_spD (fun hc=>?_) (fun hc=>?_)|refine v_box (fun bb=>?_)|fail)
    all_goals (refine v_out1 (Γk := []) Tryz.results41 ⟨?_, rfl⟩; first | (refine bF fun h => ?_; rcases hG.1 h with ⟨h0, h1, h2, h3, h4⟩ | ⟨h0, h1, h2, h3, h4⟩ | ⟨h0, h1, h2, h3, h4⟩ | ⟨h0, h1, h2, h3, h4⟩ <;> first | omega | exact hc h1 | exact hc h2 | exact hc h3 | exact hc h4) | (refine bD ⟨fun h => hG.2 (by first | exact .inl ⟨rfl, by assumption, by assumption, by assumption, h⟩ | exact .inr (.inl ⟨rfl, by assumption, by assumption, by assumption, h⟩) | exact .inr (.inr (.inl ⟨rfl, by assumption, by assumption, by assumption, h⟩)) | exact .inr (.inr (.inr ⟨rfl, by assumption, by assumption, by assumption, h⟩))), fun h => ?_⟩; rcases hG.1 h with ⟨h0, h1, h2, h3, h4⟩ | ⟨h0, h1, h2, h3, h4⟩ | ⟨h0, h1, h2, h3, h4⟩ | ⟨h0, h1, h2, h3, h4⟩ <;> first | exact h4 | omega))
  · repeat' (first | refine stp ?_|(refine v_spT ?_ ?_;omega)|(refine v_spF ?_ ?_;omega)|refine v_spD (fun hc=>?_) (fun hc=>?_)|refine v_box (fun bb=>?_)|fail)
    all_goals (refine v_out1 (Γk := []) Tryz.results41 ⟨?_, rfl⟩; first | (refine bF fun h => ?_; rcases hG.1 h with ⟨h0, h1, h2, h3, h4⟩ | ⟨h0, h1, h2, h3, h4⟩ | ⟨h0, h1, h2, h3, h4⟩ | ⟨h0, h1, h2, h3, h4⟩ <;> first | omega | exact hc h1 | exact hc h2 | exact hc h3 | exact hc h4) | (refine bD ⟨fun h => hG.2 (by first | exact .inl ⟨rfl, by assumption, by assumption, by assumption, h⟩ | exact .inr (.inl ⟨rfl, by assumption, by assumption, by assumption, h⟩) | exact .inr (.inr (.inl ⟨rfl, by assumption, by assumption, by assumption, h⟩)) | exact .inr (.inr (.inr ⟨rfl, by assumption, by assumption, by assumption, h⟩))), fun h => ?_⟩; rcases hG.1 h with ⟨h0, h1, h2, h3, h4⟩ | ⟨h0, h1, h2, h3, h4⟩ | ⟨h0, h1, h2, h3, h4⟩ | ⟨h0, h1, h2, h3, h4⟩ <;> first | exact h4 | omega))
end Go.Proofs.YtdfoijfjlhjeaaaGreat

/- wire.Encode. -/
namespace Go.Proofs.YtdfoijfjlhjeaaaGreat
open Go Go.SX Go.RowKit
set_option maxRecDepth 100000
set_option maxHeartbeats 0
set_option synthInstance.maxSize 100000
set_option synthInstance.maxHeartbeats 400000
theorem wNum_len (w : Nat) (n : Int) : (wNum w n).length = w := bitsOf_len _ _
theorem wKey_len (k : ApiKey) : (wKey k).length = 24 := by simp only [wKey, List.length_append, wNum_len]
theorem wBox_len (k : ApiBox) : (wBox k).length = 48 := by simp only [wBox, List.length_append, wKey_len]
theorem wSeat_len (k : ApiSeat) : (wSeat k).length = 14 := by simp only [wSeat, List.length_append, wNum_len]
theorem wItem_len (k : ApiItem) : (wItem k).length = 60 := by simp only [wItem, List.length_append, wNum_len, wBox_len]
theorem wByte_len (k : UInt8) : (wByte k).length = 8 := wNum_len _ _
theorem fm_len {α : Type} {e : α → Bs} {k : Nat} (h : ∀ x, (e x).length = k) (l : List α) : (l.flatMap e).length = k * l.length := by
  induction l with
  | nil => rfl
  | cons x l ih => rw [List.flatMap_cons, List.length_append, h, ih, List.length_cons, Nat.mul_succ]; omega
theorem wCnt_len {α : Type} {e : α → Bs} {k : Nat} (h : ∀ x, (e x).length = k) (w : Nat) (l : List α) : (wCnt w e l).length = w + k * l.length := by
  unfold wCnt; rw [List.length_append, wNum_len, fm_len h]
theorem wCntS_len (l : List ApiSeat) : (wCnt 7 wSeat l).length = 7 + 14 * l.length := wCnt_len wSeat_len 7 l
theorem fmI_len (l : List ApiItem) : (l.flatMap wItem).length = 60 * l.length := fm_len wItem_len l
theorem fmB_len (l : List ApiBox) : (l.flatMap wBox).length = 48 * l.length := fm_len wBox_len l
theorem fmY_len (l : List UInt8) : (l.flatMap wByte).length = 8 * l.length := fm_len wByte_len l
theorem bnew_s : SX.Spec Tryz.prog 63 #[] [] [] fun v Γ => ∃ b, v = pt b ∧ WrAt b [] Γ := by
  refine spec_of0 Tryz.func63 Tryz.ntmps63 rfl rfl (fun M w0 => ?_)
  repeat' (first | refine stp ?_|refine v_box (fun bb=>?_)|fail)
  refine v_o1 Tryz.results63 ⟨_, rfl, 0, _, [], [], rfl, OwnS.nil, Packs.nil, rfl⟩ ⟨_, inferInstance⟩
theorem wbytes_s (b : Nat) (bs : Bs) (n : Nat) (x : Value) (s : Hp) (l : List UInt8) (h : WrOk bs n x s l) : SX.Spec Tryz.prog 68 #[pt b] [wrS b n x, s] [] fun v Γ => v = str l ∧ Γ = [] := by
  have h2 := h.o
  refine spec_of1 Tryz.func68 Tryz.ntmps68 rfl rfl (fun M w0 => ?_)
  repeat' (first | refine stp ?_|fail)
  rw [strOf_nms]
  refine v_o1 Tryz.results68 ⟨rfl, rfl⟩ ⟨_, inferInstance⟩
theorem gm1 {r : RekeyM} (h : GoodM (Body.rekey r).msg) : goodRk r := by
  rcases h with ⟨_, h, _⟩ | ⟨h, _⟩ | ⟨h, _⟩ | ⟨h, _⟩
  · exact h
  all_goals exact absurd h (by simp [Body.msg])
theorem gm2 {w e : Int} (h : GoodM (Body.request w e).msg) : goodRq w e := by
  rcases h with ⟨h, _⟩ | ⟨_, _, h, _⟩ | ⟨h, _⟩ | ⟨h, _⟩
  · exact absurd h (by simp [Body.msg])
  · exact h
  all_goals exact absurd h (by simp [Body.msg])
theorem gm3 {r : ReplyM} (h : GoodM (Body.reply r).msg) : goodRp r := by
  rcases h with ⟨h, _⟩ | ⟨h, _⟩ | ⟨_, _, _, h, _⟩ | ⟨h, _⟩
  · exact absurd h (by simp [Body.msg])
  · exact absurd h (by simp [Body.msg])
  · exact h
  · exact absurd h (by simp [Body.msg])
theorem gm4 {r : SealedM} (h : GoodM (Body.sealed r).msg) : goodSl r := by
  rcases h with ⟨h, _⟩ | ⟨h, _⟩ | ⟨h, _⟩ | ⟨_, _, _, _, h⟩
  · exact absurd h (by simp [Body.msg])
  · exact absurd h (by simp [Body.msg])
  · exact absurd h (by simp [Body.msg])
  · exact h
structure WmG where
  i : Nat
  n : Nat
  x : Value
  s : Hp
  l : List UInt8
instance : PtE Tryz.prog 30 ApiBox 4 cvApiBox avApiBox := PtE.agg (fun _ => rfl) inferInstance
theorem enc1_s (ep : Int) (l1 l2 : List ApiSeat) (l3 : List ApiItem) (p1 p2 p3 : ApiBox) (v1 v2 v3 : Value) (s1 s2 s3 : Hp) (o1 : OwnS v1 162 ApiSeat 2 cvApiSeat l1 s1) (o2 : OwnS v2 162 ApiSeat 2 cvApiSeat l2 s2) (o3 : OwnS v3 62 ApiItem 6 cvApiItem l3 s3) (hk : goodRk ⟨ep, l1, l2, l3⟩) (hgood : SX.Spec Tryz.prog 62 #[.agg (msgC 1 ep v1 v2 v3 0 0 0 0 0 p1 p2 p3 0 k0 [])] [s1, s2, s3] [] fun r Γ => r = .bool true ∧ Γ = []) :
    SX.Spec Tryz.prog 24 #[.agg (msgC 1 ep v1 v2 v3 0 0 0 0 0 p1 p2 p3 0 k0 [])] [s1, s2, s3] [] fun V Γ => Γ = [] ∧ ∃ l, Packs (wBody (.rekey ⟨ep, l1, l2, l3⟩)) l ∧ V = .tuple #[str l, .int .i64 0] := by
  obtain ⟨g1, ⟨g2, g3⟩, ⟨g4, g5⟩, g6, g7⟩ := hk
  dsimp only at g1 g2 g3 g4 g5 g6 g7
  refine spec_of1 Tryz.func24 Tryz.ntmps24 rfl rfl (fun M w0 => ?_)
  repeat' (first | refine stp ?_|(refine v_spT ?_ ?_;omega)|(refine v_spF ?_ ?_;omega)|(refine v_yc ?_ ?_;omega)|refine v_alloc' (fun ba=>?_)|refine v_box (fun bb=>?_)|fail)
  refine v_callR hgood ?_
  rintro r Γ' ⟨rfl, rfl⟩
  clear hgood
  (try dsimp only [List.cons_append, List.nil_append])
  repeat' (first | refine stp ?_|(refine v_spT ?_ ?_;omega)|(refine v_spF ?_ ?_;omega)|(refine v_yc ?_ ?_;omega)|refine v_alloc' (fun ba=>?_)|refine v_box (fun bb=>?_)|fail)
  refine v_callR bnew_s ?_
  rintro r Γ' ⟨b, rfl, n, x, s, l, e, ho, hp, rfl⟩
  (try dsimp only [List.cons_append, List.nil_append])
  repeat' (first | refine stp ?_|(refine v_spT ?_ ?_;omega)|(refine v_spF ?_ ?_;omega)|(refine v_yc ?_ ?_;omega)|refine v_alloc' (fun ba=>?_)|refine v_box (fun bb=>?_)|fail)
  refine v_callO (wnum_s b (1 - 1) 2 (by decide) (by decide) (⟨(by decide), (by decide)⟩) _ _ ⟨_, _, _, _, e, ho, hp, rfl⟩ (by simp only [List.length_append, List.length_nil, wNum_len, wKey_len, wBox_len, wItem_len, wCntS_len, fmI_len, fmB_len, fmY_len, List.length_take] <;> omega)) ?_
  clear hp e ho; rintro r Γ' ⟨rfl, n, x, s, l, e, ho, hp, rfl⟩; (try dsimp only [List.cons_append, List.nil_append]); repeat' (first | refine stp ?_|(refine v_spT ?_ ?_;omega)|(refine v_spF ?_ ?_;omega)|(refine v_yc ?_ ?_;omega)|refine v_alloc' (fun ba=>?_)|refine v_box (fun bb=>?_)|fail)
  refine v_callO (wnum_s b ep 8 (by decide) (by decide) (btw_ok g1 (by decide) (by decide)) _ _ ⟨_, _, _, _, e, ho, hp, rfl⟩ (by simp only [List.length_append, List.length_nil, wNum_len, wKey_len, wBox_len, wItem_len, wCntS_len, fmI_len, fmB_len, fmY_len, List.length_take] <;> omega)) ?_
  clear hp e ho; rintro r Γ' ⟨rfl, n, x, s, l, e, ho, hp, rfl⟩; (try dsimp only [List.cons_append, List.nil_append]); repeat' (first | refine stp ?_|(refine v_spT ?_ ?_;omega)|(refine v_spF ?_ ?_;omega)|(refine v_yc ?_ ?_;omega)|refine v_alloc' (fun ba=>?_)|refine v_box (fun bb=>?_)|fail)
  refine v_callB (wseats_s b v1 s1 l1 ownAt g3 g2 _ _ ⟨_, _, _, _, e, ho, hp, rfl⟩ (by simp only [List.length_append, List.length_nil, wNum_len, wKey_len, wBox_len, wItem_len, wCntS_len, fmI_len, fmB_len, fmY_len, List.length_take] <;> omega)) ?_
  clear hp e ho; rintro r Γ' ⟨rfl, n, x, s, l, e, ho, hp, rfl⟩; (try dsimp only [List.cons_append, List.nil_append]); repeat' (first | refine stp ?_|(refine v_spT ?_ ?_;omega)|(refine v_spF ?_ ?_;omega)|(refine v_yc ?_ ?_;omega)|refine v_alloc' (fun ba=>?_)|refine v_box (fun bb=>?_)|fail)
  refine v_callB (wseats_s b v2 s2 l2 ownAt g5 g4 _ _ ⟨_, _, _, _, e, ho, hp, rfl⟩ (by simp only [List.length_append, List.length_nil, wNum_len, wKey_len, wBox_len, wItem_len, wCntS_len, fmI_len, fmB_len, fmY_len, List.length_take] <;> omega)) ?_
  clear hp e ho; rintro r Γ' ⟨rfl, n, x, s, l, e, ho, hp, rfl⟩; (try dsimp only [List.cons_append, List.nil_append]); repeat' (first | refine stp ?_|(refine v_spT ?_ ?_;omega)|(refine v_spF ?_ ?_;omega)|(refine v_yc ?_ ?_;omega)|refine v_alloc' (fun ba=>?_)|refine v_box (fun bb=>?_)|fail)
  refine v_callO (wnum_s b l3.length 11 (by decide) (by decide) (len_ok g7 (by decide)) _ _ ⟨_, _, _, _, e, ho, hp, rfl⟩ (by simp only [List.length_append, List.length_nil, wNum_len, wKey_len, wBox_len, wItem_len, wCntS_len, fmI_len, fmB_len, fmY_len, List.length_take] <;> omega)) ?_
  clear hp e ho; rintro r Γ' ⟨rfl, n, x, s, l, e, ho, hp, rfl⟩; (try dsimp only [List.cons_append, List.nil_append]); repeat' (first | refine stp ?_|(refine v_spT ?_ ?_;omega)|(refine v_spF ?_ ?_;omega)|(refine v_yc ?_ ?_;omega)|refine v_alloc' (fun ba=>?_)|refine v_box (fun bb=>?_)|fail)
  obtain ⟨A, hA⟩ : ∃ A, A = [] ++ wNum 2 (1 - 1) ++ wNum 8 ep ++ wCnt 7 wSeat l1 ++ wCnt 7 wSeat l2 ++ wNum 11 l3.length := ⟨_, rfl⟩
  have hAl : A.length < 2000 := by rw [hA]; (simp only [List.length_append, List.length_nil, wNum_len, wKey_len, wBox_len, wItem_len, wCntS_len, fmI_len, fmB_len, fmY_len, List.length_take]; omega)
  rw [← hA] at hp e
  have hle := AtS.le (ownAt (h := o3))
  refine v_lp [50] [4, 48, 49] (fun g : WmG => [.int .i64 g.i]) (fun g => [wrS b g.n g.x, g.s]) (fun g => g.i ≤ l3.length ∧ WrOk (A ++ (l3.take g.i).flatMap wItem) g.n g.x g.s g.l) (fun g => l3.length - g.i) ⟨0, _, _, _, _⟩ (fun _ => rfl) rfl inferInstance ⟨Nat.zero_le _, by simpa using e, ho, by simpa using hp⟩ ?_
  clear hp e ho
  rintro ⟨i, n, x, s, l⟩ ⟨hi, e, ho, hp⟩
  dsimp only at hi e ho hp ⊢
  (try dsimp only [zipE_c, zipE_n, List.cons_append, List.nil_append])
  rcases Nat.lt_or_ge i l3.length with hlt | hge
  · have hs := g6 l3[i] (List.getElem_mem hlt)
    have hs1 := item_ok hs
    have hcur : (A ++ (l3.take i).flatMap wItem).length < 2000 + 60 * 1536 := by rw [List.length_append, fmI_len, List.length_take]; omega
    have htk : A ++ (l3.take i).flatMap wItem ++ wNum 5 l3[i].Node ++ wNum 7 l3[i].From ++ wBox l3[i].Box = A ++ (l3.take (i + 1)).flatMap wItem := by
      rw [fm_take wItem hlt]; simp only [wItem, List.append_assoc]
    generalize A ++ (l3.take i).flatMap wItem = B at *
    repeat' (first | refine stp ?_|(refine v_spT ?_ ?_;omega)|(refine v_spF ?_ ?_;omega)|(refine v_yc ?_ ?_;omega)|refine v_alloc' (fun ba=>?_)|refine v_box (fun bb=>?_)|fail)
    refine v_callO (wnum_s b l3[i].Node 5 (by decide) (by decide) (hs1.1.1) _ _ ⟨_, _, _, _, e, ho, hp, rfl⟩ (by simp only [List.length_append, List.length_nil, wNum_len, wKey_len, wBox_len, wItem_len, wCntS_len, fmI_len, fmB_len, fmY_len, List.length_take] <;> omega)) ?_
    clear hp e ho; rintro r Γ' ⟨rfl, n, x, s, l, e, ho, hp, rfl⟩; (try dsimp only [List.cons_append, List.nil_append]); repeat' (first | refine stp ?_|(refine v_spT ?_ ?_;omega)|(refine v_spF ?_ ?_;omega)|(refine v_yc ?_ ?_;omega)|refine v_alloc' (fun ba=>?_)|refine v_box (fun bb=>?_)|fail)
    refine v_callO (wnum_s b l3[i].From 7 (by decide) (by decide) (hs1.1.2) _ _ ⟨_, _, _, _, e, ho, hp, rfl⟩ (by simp only [List.length_append, List.length_nil, wNum_len, wKey_len, wBox_len, wItem_len, wCntS_len, fmI_len, fmB_len, fmY_len, List.length_take] <;> omega)) ?_
    clear hp e ho; rintro r Γ' ⟨rfl, n, x, s, l, e, ho, hp, rfl⟩; (try dsimp only [List.cons_append, List.nil_append]); repeat' (first | refine stp ?_|(refine v_spT ?_ ?_;omega)|(refine v_spF ?_ ?_;omega)|(refine v_yc ?_ ?_;omega)|refine v_alloc' (fun ba=>?_)|refine v_box (fun bb=>?_)|fail)
    refine v_callO (wbox_s b l3[i].Box hs.2.2.2 _ _ ⟨_, _, _, _, e, ho, hp, rfl⟩ (by simp only [List.length_append, List.length_nil, wNum_len, wKey_len, wBox_len, wItem_len, wCntS_len, fmI_len, fmB_len, fmY_len, List.length_take] <;> omega)) ?_
    clear hp e ho; rintro r Γ' ⟨rfl, n, x, s, l, e, ho, hp, rfl⟩; (try dsimp only [List.cons_append, List.nil_append]); repeat' (first | refine stp ?_|(refine v_spT ?_ ?_;omega)|(refine v_spF ?_ ?_;omega)|(refine v_yc ?_ ?_;omega)|refine v_alloc' (fun ba=>?_)|refine v_box (fun bb=>?_)|fail)
    rw [htk] at hp e
    exact v_again ⟨i + 1, _, _, _, _⟩ (by dsimp only; omega) rfl inferInstance ⟨hlt, e, ho, hp⟩
  · obtain rfl : i = l3.length := by omega
    rw [List.take_length] at hp e
    repeat' (first | refine stp ?_|(refine v_spT ?_ ?_;omega)|(refine v_spF ?_ ?_;omega)|(refine v_yc ?_ ?_;omega)|refine v_alloc' (fun ba=>?_)|refine v_box (fun bb=>?_)|fail)
    refine v_callR (wbytes_s b _ _ _ _ _ ⟨e, ho, hp⟩) ?_
    rintro r Γ' ⟨rfl, rfl⟩
    (try dsimp only [List.cons_append, List.nil_append])
    repeat' (first | refine stp ?_|(refine v_spT ?_ ?_;omega)|(refine v_spF ?_ ?_;omega)|(refine v_yc ?_ ?_;omega)|refine v_alloc' (fun ba=>?_)|refine v_box (fun bb=>?_)|fail)
    refine v_o2 Tryz.results24 ⟨rfl, _, ?_, rfl⟩ ⟨_, inferInstance⟩
    rw [hA] at hp
    show Packs (wNum 2 0 ++ (wNum 8 ep ++ wCnt 7 wSeat l1 ++ wCnt 7 wSeat l2 ++ wCnt 11 wItem l3)) _
    simp only [List.nil_append, List.append_assoc, wCnt] at hp ⊢
    exact hp
theorem enc2_s (q1 q2 : Int) (p1 p2 p3 : ApiBox) (v1 v2 v3 : Value) (s1 s2 s3 : Hp) (hk : goodRq q1 q2) (hgood : SX.Spec Tryz.prog 62 #[.agg (msgC 2 0 v1 v2 v3 q1 q2 0 0 0 p1 p2 p3 0 k0 [])] [s1, s2, s3] [] fun r Γ => r = .bool true ∧ Γ = []) :
    SX.Spec Tryz.prog 24 #[.agg (msgC 2 0 v1 v2 v3 q1 q2 0 0 0 p1 p2 p3 0 k0 [])] [s1, s2, s3] [] fun V Γ => Γ = [] ∧ ∃ l, Packs (wBody (.request q1 q2)) l ∧ V = .tuple #[str l, .int .i64 0] := by
  refine spec_of1 Tryz.func24 Tryz.ntmps24 rfl rfl (fun M w0 => ?_)
  repeat' (first | refine stp ?_|(refine v_spT ?_ ?_;omega)|(refine v_spF ?_ ?_;omega)|(refine v_yc ?_ ?_;omega)|refine v_alloc' (fun ba=>?_)|refine v_box (fun bb=>?_)|fail)
  refine v_callR hgood ?_
  rintro r Γ' ⟨rfl, rfl⟩
  clear hgood
  (try dsimp only [List.cons_append, List.nil_append])
  repeat' (first | refine stp ?_|(refine v_spT ?_ ?_;omega)|(refine v_spF ?_ ?_;omega)|(refine v_yc ?_ ?_;omega)|refine v_alloc' (fun ba=>?_)|refine v_box (fun bb=>?_)|fail)
  refine v_callR bnew_s ?_
  rintro r Γ' ⟨b, rfl, n, x, s, l, e, ho, hp, rfl⟩
  (try dsimp only [List.cons_append, List.nil_append])
  repeat' (first | refine stp ?_|(refine v_spT ?_ ?_;omega)|(refine v_spF ?_ ?_;omega)|(refine v_yc ?_ ?_;omega)|refine v_alloc' (fun ba=>?_)|refine v_box (fun bb=>?_)|fail)
  refine v_callO (wnum_s b (2 - 1) 2 (by decide) (by decide) (⟨(by decide), (by decide)⟩) _ _ ⟨_, _, _, _, e, ho, hp, rfl⟩ (by simp only [List.length_append, List.length_nil, wNum_len, wKey_len, wBox_len, wItem_len, wCntS_len, fmI_len, fmB_len, fmY_len, List.length_take] <;> omega)) ?_
  clear hp e ho; rintro r Γ' ⟨rfl, n, x, s, l, e, ho, hp, rfl⟩; (try dsimp only [List.cons_append, List.nil_append]); repeat' (first | refine stp ?_|(refine v_spT ?_ ?_;omega)|(refine v_spF ?_ ?_;omega)|(refine v_yc ?_ ?_;omega)|refine v_alloc' (fun ba=>?_)|refine v_box (fun bb=>?_)|fail)
  refine v_callO (wnum_s b q1 8 (by decide) (by decide) (btw_ok hk.1 (by decide) (by decide)) _ _ ⟨_, _, _, _, e, ho, hp, rfl⟩ (by simp only [List.length_append, List.length_nil, wNum_len, wKey_len, wBox_len, wItem_len, wCntS_len, fmI_len, fmB_len, fmY_len, List.length_take] <;> omega)) ?_
  clear hp e ho; rintro r Γ' ⟨rfl, n, x, s, l, e, ho, hp, rfl⟩; (try dsimp only [List.cons_append, List.nil_append]); repeat' (first | refine stp ?_|(refine v_spT ?_ ?_;omega)|(refine v_spF ?_ ?_;omega)|(refine v_yc ?_ ?_;omega)|refine v_alloc' (fun ba=>?_)|refine v_box (fun bb=>?_)|fail)
  refine v_callO (wnum_s b q2 8 (by decide) (by decide) (btw_ok hk.2 (by decide) (by decide)) _ _ ⟨_, _, _, _, e, ho, hp, rfl⟩ (by simp only [List.length_append, List.length_nil, wNum_len, wKey_len, wBox_len, wItem_len, wCntS_len, fmI_len, fmB_len, fmY_len, List.length_take] <;> omega)) ?_
  clear hp e ho; rintro r Γ' ⟨rfl, n, x, s, l, e, ho, hp, rfl⟩; (try dsimp only [List.cons_append, List.nil_append]); repeat' (first | refine stp ?_|(refine v_spT ?_ ?_;omega)|(refine v_spF ?_ ?_;omega)|(refine v_yc ?_ ?_;omega)|refine v_alloc' (fun ba=>?_)|refine v_box (fun bb=>?_)|fail)
  refine v_callR (wbytes_s b _ _ _ _ _ ⟨e, ho, hp⟩) ?_
  rintro r Γ' ⟨rfl, rfl⟩
  (try dsimp only [List.cons_append, List.nil_append])
  repeat' (first | refine stp ?_|(refine v_spT ?_ ?_;omega)|(refine v_spF ?_ ?_;omega)|(refine v_yc ?_ ?_;omega)|refine v_alloc' (fun ba=>?_)|refine v_box (fun bb=>?_)|fail)
  refine v_o2 Tryz.results24 ⟨rfl, _, ?_, rfl⟩ ⟨_, inferInstance⟩
  simp only [List.nil_append, List.append_assoc] at hp
  exact hp
theorem enc3_s (a1 a2 a3 : Int) (p1 p2 p3 : ApiBox) (v1 v2 v3 : Value) (s1 s2 s3 : Hp) (hk : goodRp ⟨a1, a2, a3, [p1, p2, p3]⟩) (hgood : SX.Spec Tryz.prog 62 #[.agg (msgC 3 0 v1 v2 v3 0 0 a1 a2 a3 p1 p2 p3 0 k0 [])] [s1, s2, s3] [] fun r Γ => r = .bool true ∧ Γ = []) :
    SX.Spec Tryz.prog 24 #[.agg (msgC 3 0 v1 v2 v3 0 0 a1 a2 a3 p1 p2 p3 0 k0 [])] [s1, s2, s3] [] fun V Γ => Γ = [] ∧ ∃ l, Packs (wBody (.reply ⟨a1, a2, a3, [p1, p2, p3]⟩)) l ∧ V = .tuple #[str l, .int .i64 0] := by
  refine spec_of1 Tryz.func24 Tryz.ntmps24 rfl rfl (fun M w0 => ?_)
  repeat' (first | refine stp ?_|(refine v_spT ?_ ?_;omega)|(refine v_spF ?_ ?_;omega)|(refine v_yc ?_ ?_;omega)|refine v_alloc' (fun ba=>?_)|refine v_box (fun bb=>?_)|fail)
  refine v_callR hgood ?_
  rintro r Γ' ⟨rfl, rfl⟩
  clear hgood
  (try dsimp only [List.cons_append, List.nil_append])
  repeat' (first | refine stp ?_|(refine v_spT ?_ ?_;omega)|(refine v_spF ?_ ?_;omega)|(refine v_yc ?_ ?_;omega)|refine v_alloc' (fun ba=>?_)|refine v_box (fun bb=>?_)|fail)
  refine v_callR bnew_s ?_
  rintro r Γ' ⟨b, rfl, n, x, s, l, e, ho, hp, rfl⟩
  (try dsimp only [List.cons_append, List.nil_append])
  repeat' (first | refine stp ?_|(refine v_spT ?_ ?_;omega)|(refine v_spF ?_ ?_;omega)|(refine v_yc ?_ ?_;omega)|refine v_alloc' (fun ba=>?_)|refine v_box (fun bb=>?_)|fail)
  refine v_callO (wnum_s b (3 - 1) 2 (by decide) (by decide) (⟨(by decide), (by decide)⟩) _ _ ⟨_, _, _, _, e, ho, hp, rfl⟩ (by simp only [List.length_append, List.length_nil, wNum_len, wKey_len, wBox_len, wItem_len, wCntS_len, fmI_len, fmB_len, fmY_len, List.length_take] <;> omega)) ?_
  clear hp e ho; rintro r Γ' ⟨rfl, n, x, s, l, e, ho, hp, rfl⟩; (try dsimp only [List.cons_append, List.nil_append]); repeat' (first | refine stp ?_|(refine v_spT ?_ ?_;omega)|(refine v_spF ?_ ?_;omega)|(refine v_yc ?_ ?_;omega)|refine v_alloc' (fun ba=>?_)|refine v_box (fun bb=>?_)|fail)
  refine v_callO (wnum_s b a1 8 (by decide) (by decide) (btw_ok hk.1.1 (by decide) (by decide)) _ _ ⟨_, _, _, _, e, ho, hp, rfl⟩ (by simp only [List.length_append, List.length_nil, wNum_len, wKey_len, wBox_len, wItem_len, wCntS_len, fmI_len, fmB_len, fmY_len, List.length_take] <;> omega)) ?_
  clear hp e ho; rintro r Γ' ⟨rfl, n, x, s, l, e, ho, hp, rfl⟩; (try dsimp only [List.cons_append, List.nil_append]); repeat' (first | refine stp ?_|(refine v_spT ?_ ?_;omega)|(refine v_spF ?_ ?_;omega)|(refine v_yc ?_ ?_;omega)|refine v_alloc' (fun ba=>?_)|refine v_box (fun bb=>?_)|fail)
  refine v_callO (wnum_s b a2 6 (by decide) (by decide) (btw_ok hk.1.2 (by decide) (by decide)) _ _ ⟨_, _, _, _, e, ho, hp, rfl⟩ (by simp only [List.length_append, List.length_nil, wNum_len, wKey_len, wBox_len, wItem_len, wCntS_len, fmI_len, fmB_len, fmY_len, List.length_take] <;> omega)) ?_
  clear hp e ho; rintro r Γ' ⟨rfl, n, x, s, l, e, ho, hp, rfl⟩; (try dsimp only [List.cons_append, List.nil_append]); repeat' (first | refine stp ?_|(refine v_spT ?_ ?_;omega)|(refine v_spF ?_ ?_;omega)|(refine v_yc ?_ ?_;omega)|refine v_alloc' (fun ba=>?_)|refine v_box (fun bb=>?_)|fail)
  refine v_callO (wnum_s b a3 8 (by decide) (by decide) (btw_ok hk.2.1 (by decide) (by decide)) _ _ ⟨_, _, _, _, e, ho, hp, rfl⟩ (by simp only [List.length_append, List.length_nil, wNum_len, wKey_len, wBox_len, wItem_len, wCntS_len, fmI_len, fmB_len, fmY_len, List.length_take] <;> omega)) ?_
  clear hp e ho; rintro r Γ' ⟨rfl, n, x, s, l, e, ho, hp, rfl⟩; (try dsimp only [List.cons_append, List.nil_append]); repeat' (first | refine stp ?_|(refine v_spT ?_ ?_;omega)|(refine v_spF ?_ ?_;omega)|(refine v_yc ?_ ?_;omega)|refine v_alloc' (fun ba=>?_)|refine v_box (fun bb=>?_)|fail)
  obtain ⟨A, hA⟩ : ∃ A, A = [] ++ wNum 2 (3 - 1) ++ wNum 8 a1 ++ wNum 6 a2 ++ wNum 8 a3 := ⟨_, rfl⟩
  have hAl : A.length < 2000 := by rw [hA]; (simp only [List.length_append, List.length_nil, wNum_len, wKey_len, wBox_len, wItem_len, wCntS_len, fmI_len, fmB_len, fmY_len, List.length_take]; omega)
  rw [← hA] at hp e
  obtain ⟨q, hq⟩ : ∃ q, q = [p1, p2, p3] := ⟨_, rfl⟩
  have hql : q.length = 3 := by rw [hq]; rfl
  haveI : LenIs q 3 := ⟨hql⟩
  have hav : Value.agg #[.int .i64 p1.Under.Base, .int .i64 p1.Under.Step, .int .i64 p1.Load.Base, .int .i64 p1.Load.Step, .int .i64 p2.Under.Base, .int .i64 p2.Under.Step, .int .i64 p2.Load.Base, .int .i64 p2.Load.Step, .int .i64 p3.Under.Base, .int .i64 p3.Under.Step, .int .i64 p3.Load.Base, .int .i64 p3.Load.Step] = .agg (cvs cvApiBox q).toArray := by rw [hq]; rfl
  rw [hav]
  refine v_lp [99] [4, 98] (fun g : WmG => [.int .i64 g.i]) (fun g => [wrS b g.n g.x, g.s]) (fun g => g.i ≤ 3 ∧ WrOk (A ++ (q.take g.i).flatMap wBox) g.n g.x g.s g.l) (fun g => 3 - g.i) ⟨0, _, _, _, _⟩ (fun _ => rfl) rfl inferInstance ⟨Nat.zero_le _, by simpa using e, ho, by simpa using hp⟩ ?_
  clear hp e ho
  rintro ⟨i, n, x, s, l⟩ ⟨hi, e, ho, hp⟩
  dsimp only at hi e ho hp ⊢
  (try dsimp only [zipE_c, zipE_n, List.cons_append, List.nil_append])
  rcases Nat.lt_or_ge i 3 with hlt | hge
  · have hlt' : i < q.length := by omega
    have hs := hk.2.2 q[i] (by rw [← hq]; exact List.getElem_mem hlt')
    have hcur : (A ++ (q.take i).flatMap wBox).length < 2000 + 48 * 3 := by rw [List.length_append, fmB_len, List.length_take]; omega
    have htk : A ++ (q.take i).flatMap wBox ++ wBox q[i] = A ++ (q.take (i + 1)).flatMap wBox := by
      rw [fm_take wBox hlt', List.append_assoc]
    generalize A ++ (q.take i).flatMap wBox = B at *
    repeat' (first | refine stp ?_|(refine v_spT ?_ ?_;omega)|(refine v_spF ?_ ?_;omega)|(refine v_yc ?_ ?_;omega)|refine v_alloc' (fun ba=>?_)|refine v_box (fun bb=>?_)|fail)
    refine v_callO (wbox_s b q[i] hs _ _ ⟨_, _, _, _, e, ho, hp, rfl⟩ (by simp only [List.length_append, List.length_nil, wNum_len, wKey_len, wBox_len, wItem_len, wCntS_len, fmI_len, fmB_len, fmY_len, List.length_take] <;> omega)) ?_
    clear hp e ho; rintro r Γ' ⟨rfl, n, x, s, l, e, ho, hp, rfl⟩; (try dsimp only [List.cons_append, List.nil_append]); repeat' (first | refine stp ?_|(refine v_spT ?_ ?_;omega)|(refine v_spF ?_ ?_;omega)|(refine v_yc ?_ ?_;omega)|refine v_alloc' (fun ba=>?_)|refine v_box (fun bb=>?_)|fail)
    rw [htk] at hp e
    exact v_again ⟨i + 1, _, _, _, _⟩ (by dsimp only; omega) rfl inferInstance ⟨hlt, e, ho, hp⟩
  · obtain rfl : i = 3 := by omega
    rw [List.take_of_length_le (by omega)] at hp e
    repeat' (first | refine stp ?_|(refine v_spT ?_ ?_;omega)|(refine v_spF ?_ ?_;omega)|(refine v_yc ?_ ?_;omega)|refine v_alloc' (fun ba=>?_)|refine v_box (fun bb=>?_)|fail)
    refine v_callR (wbytes_s b _ _ _ _ _ ⟨e, ho, hp⟩) ?_
    rintro r Γ' ⟨rfl, rfl⟩
    (try dsimp only [List.cons_append, List.nil_append])
    repeat' (first | refine stp ?_|(refine v_spT ?_ ?_;omega)|(refine v_spF ?_ ?_;omega)|(refine v_yc ?_ ?_;omega)|refine v_alloc' (fun ba=>?_)|refine v_box (fun bb=>?_)|fail)
    refine v_o2 Tryz.results24 ⟨rfl, _, ?_, rfl⟩ ⟨_, inferInstance⟩
    rw [hA, hq] at hp
    show Packs (wNum 2 2 ++ (wNum 8 a1 ++ wNum 6 a2 ++ wNum 8 a3 ++ [p1, p2, p3].flatMap wBox)) _
    simp only [List.nil_append, List.append_assoc] at hp ⊢
    exact hp
theorem enc4_s (a1 : Int) (a2 : ApiKey) (a3 : List UInt8) (p1 p2 p3 : ApiBox) (v1 v2 v3 : Value) (s1 s2 s3 : Hp) (hk : goodSl ⟨a1, a2, a3⟩) (hgood : SX.Spec Tryz.prog 62 #[.agg (msgC 4 0 v1 v2 v3 0 0 0 0 0 p1 p2 p3 a1 a2 a3)] [s1, s2, s3] [] fun r Γ => r = .bool true ∧ Γ = []) :
    SX.Spec Tryz.prog 24 #[.agg (msgC 4 0 v1 v2 v3 0 0 0 0 0 p1 p2 p3 a1 a2 a3)] [s1, s2, s3] [] fun V Γ => Γ = [] ∧ ∃ l, Packs (wBody (.sealed ⟨a1, a2, a3⟩)) l ∧ V = .tuple #[str l, .int .i64 0] := by
  have hk3 : (a3.length : Int) ≤ 64 := hk.2.2
  refine spec_of1 Tryz.func24 Tryz.ntmps24 rfl rfl (fun M w0 => ?_)
  repeat' (first | refine stp ?_|(refine v_spT ?_ ?_;omega)|(refine v_spF ?_ ?_;omega)|(refine v_yc ?_ ?_;omega)|refine v_alloc' (fun ba=>?_)|refine v_box (fun bb=>?_)|(refine v_bytes ?_ (fun sv ss hs hln=>?_);omega)|fail)
  refine v_callR hgood ?_
  rintro r Γ' ⟨rfl, rfl⟩
  clear hgood
  (try dsimp only [List.cons_append, List.nil_append])
  repeat' (first | refine stp ?_|(refine v_spT ?_ ?_;omega)|(refine v_spF ?_ ?_;omega)|(refine v_yc ?_ ?_;omega)|refine v_alloc' (fun ba=>?_)|refine v_box (fun bb=>?_)|(refine v_bytes ?_ (fun sv ss hs hln=>?_);omega)|fail)
  refine v_callR bnew_s ?_
  rintro r Γ' ⟨b, rfl, n, x, s, l, e, ho, hp, rfl⟩
  (try dsimp only [List.cons_append, List.nil_append])
  repeat' (first | refine stp ?_|(refine v_spT ?_ ?_;omega)|(refine v_spF ?_ ?_;omega)|(refine v_yc ?_ ?_;omega)|refine v_alloc' (fun ba=>?_)|refine v_box (fun bb=>?_)|(refine v_bytes ?_ (fun sv ss hs hln=>?_);omega)|fail)
  refine v_callO (wnum_s b (4 - 1) 2 (by decide) (by decide) (⟨(by decide), (by decide)⟩) _ _ ⟨_, _, _, _, e, ho, hp, rfl⟩ (by simp only [List.length_append, List.length_nil, wNum_len, wKey_len, wBox_len, wItem_len, wCntS_len, fmI_len, fmB_len, fmY_len, List.length_take] <;> omega)) ?_
  clear hp e ho; rintro r Γ' ⟨rfl, n, x, s, l, e, ho, hp, rfl⟩; (try dsimp only [List.cons_append, List.nil_append]); repeat' (first | refine stp ?_|(refine v_spT ?_ ?_;omega)|(refine v_spF ?_ ?_;omega)|(refine v_yc ?_ ?_;omega)|refine v_alloc' (fun ba=>?_)|refine v_box (fun bb=>?_)|(refine v_bytes ?_ (fun sv ss hs hln=>?_);omega)|fail)
  refine v_callO (wnum_s b a1 8 (by decide) (by decide) (btw_ok hk.1 (by decide) (by decide)) _ _ ⟨_, _, _, _, e, ho, hp, rfl⟩ (by simp only [List.length_append, List.length_nil, wNum_len, wKey_len, wBox_len, wItem_len, wCntS_len, fmI_len, fmB_len, fmY_len, List.length_take] <;> omega)) ?_
  clear hp e ho; rintro r Γ' ⟨rfl, n, x, s, l, e, ho, hp, rfl⟩; (try dsimp only [List.cons_append, List.nil_append]); repeat' (first | refine stp ?_|(refine v_spT ?_ ?_;omega)|(refine v_spF ?_ ?_;omega)|(refine v_yc ?_ ?_;omega)|refine v_alloc' (fun ba=>?_)|refine v_box (fun bb=>?_)|(refine v_bytes ?_ (fun sv ss hs hln=>?_);omega)|fail)
  refine v_callO (wkey_s b a2 hk.2.1 _ _ ⟨_, _, _, _, e, ho, hp, rfl⟩ (by simp only [List.length_append, List.length_nil, wNum_len, wKey_len, wBox_len, wItem_len, wCntS_len, fmI_len, fmB_len, fmY_len, List.length_take] <;> omega)) ?_
  clear hp e ho; rintro r Γ' ⟨rfl, n, x, s, l, e, ho, hp, rfl⟩; (try dsimp only [List.cons_append, List.nil_append]); repeat' (first | refine stp ?_|(refine v_spT ?_ ?_;omega)|(refine v_spF ?_ ?_;omega)|(refine v_yc ?_ ?_;omega)|refine v_alloc' (fun ba=>?_)|refine v_box (fun bb=>?_)|(refine v_bytes ?_ (fun sv ss hs hln=>?_);omega)|fail)
  refine v_callO (wnum_s b a3.length 7 (by decide) (by decide) (len_ok hk.2.2 (by decide)) _ _ ⟨_, _, _, _, e, ho, hp, rfl⟩ (by simp only [List.length_append, List.length_nil, wNum_len, wKey_len, wBox_len, wItem_len, wCntS_len, fmI_len, fmB_len, fmY_len, List.length_take] <;> omega)) ?_
  clear hp e ho; rintro r Γ' ⟨rfl, n, x, s, l, e, ho, hp, rfl⟩; (try dsimp only [List.cons_append, List.nil_append]); repeat' (first | refine stp ?_|(refine v_spT ?_ ?_;omega)|(refine v_spF ?_ ?_;omega)|(refine v_yc ?_ ?_;omega)|refine v_alloc' (fun ba=>?_)|refine v_box (fun bb=>?_)|(refine v_bytes ?_ (fun sv ss hs hln=>?_);omega)|fail)
  obtain ⟨A, hA⟩ : ∃ A, A = [] ++ wNum 2 (4 - 1) ++ wNum 8 a1 ++ wKey a2 ++ wNum 7 a3.length := ⟨_, rfl⟩
  have hAl : A.length < 2000 := by rw [hA]; (simp only [List.length_append, List.length_nil, wNum_len, wKey_len, wBox_len, wItem_len, wCntS_len, fmI_len, fmB_len, fmY_len, List.length_take]; omega)
  rw [← hA] at hp e
  refine v_lp [129] [4, 127, 128] (fun g : WmG => [.int .i64 g.i]) (fun g => [wrS b g.n g.x, g.s]) (fun g => g.i ≤ a3.length ∧ WrOk (A ++ (a3.take g.i).flatMap wByte) g.n g.x g.s g.l) (fun g => a3.length - g.i) ⟨0, _, _, _, _⟩ (fun _ => rfl) rfl inferInstance ⟨Nat.zero_le _, by simpa using e, ho, by simpa using hp⟩ ?_
  clear hp e ho
  rintro ⟨i, n, x, s, l⟩ ⟨hi, e, ho, hp⟩
  dsimp only at hi e ho hp ⊢
  (try dsimp only [zipE_c, zipE_n, List.cons_append, List.nil_append])
  rcases Nat.lt_or_ge i a3.length with hlt | hge
  · have hge : (nms a3)[i]'(by omega) = ((a3[i].toNat : Nat) : Int) := by simp [nms]
    have hcl := a3[i].toNat_lt
    have hcur : (A ++ (a3.take i).flatMap wByte).length < 2000 + 8 * 64 := by rw [List.length_append, fmY_len, List.length_take]; omega
    have htk : A ++ (a3.take i).flatMap wByte ++ wNum 8 a3[i].toNat = A ++ (a3.take (i + 1)).flatMap wByte := by
      rw [fm_take wByte hlt, List.append_assoc]; rfl
    generalize A ++ (a3.take i).flatMap wByte = B at *
    repeat' (first | refine stp ?_|(refine v_spT ?_ ?_;omega)|(refine v_spF ?_ ?_;omega)|(refine v_yc ?_ ?_;omega)|refine v_alloc' (fun ba=>?_)|refine v_box (fun bb=>?_)|(refine v_bytes ?_ (fun sv ss hs hln=>?_);omega)|fail)
    have hwi : IntKind.i64.wrap ((nms a3)[i]'(by omega)) = ((a3[i].toNat : Nat) : Int) := by rw [hge]; exact wrapS (by omega)
    rw [hwi]
    have h8 : okN 8 (a3[i].toNat : Int) := ⟨Int.natCast_nonneg _, (by have h8 : (2 : Int) ^ 8 = 256 := rfl
                                                                      omega)⟩
    refine v_callO (wnum_s b a3[i].toNat 8 (by decide) (by decide) (h8) _ _ ⟨_, _, _, _, e, ho, hp, rfl⟩ (by simp only [List.length_append, List.length_nil, wNum_len, wKey_len, wBox_len, wItem_len, wCntS_len, fmI_len, fmB_len, fmY_len, List.length_take] <;> omega)) ?_
    clear hp e ho; rintro r Γ' ⟨rfl, n, x, s, l, e, ho, hp, rfl⟩; (try dsimp only [List.cons_append, List.nil_append]); repeat' (first | refine stp ?_|(refine v_spT ?_ ?_;omega)|(refine v_spF ?_ ?_;omega)|(refine v_yc ?_ ?_;omega)|refine v_alloc' (fun ba=>?_)|refine v_box (fun bb=>?_)|(refine v_bytes ?_ (fun sv ss hs hln=>?_);omega)|fail)
    rw [htk] at hp e
    exact v_again ⟨i + 1, _, _, _, _⟩ (by dsimp only; omega) rfl inferInstance ⟨hlt, e, ho, hp⟩
  · obtain rfl : i = a3.length := by omega
    rw [List.take_length] at hp e
    repeat' (first | refine stp ?_|(refine v_spT ?_ ?_;omega)|(refine v_spF ?_ ?_;omega)|(refine v_yc ?_ ?_;omega)|refine v_alloc' (fun ba=>?_)|refine v_box (fun bb=>?_)|(refine v_bytes ?_ (fun sv ss hs hln=>?_);omega)|fail)
    refine v_callR (wbytes_s b _ _ _ _ _ ⟨e, ho, hp⟩) ?_
    rintro r Γ' ⟨rfl, rfl⟩
    (try dsimp only [List.cons_append, List.nil_append])
    repeat' (first | refine stp ?_|(refine v_spT ?_ ?_;omega)|(refine v_spF ?_ ?_;omega)|(refine v_yc ?_ ?_;omega)|refine v_alloc' (fun ba=>?_)|refine v_box (fun bb=>?_)|(refine v_bytes ?_ (fun sv ss hs hln=>?_);omega)|fail)
    refine v_o2 Tryz.results24 ⟨rfl, _, ?_, rfl⟩ ⟨_, inferInstance⟩
    rw [hA] at hp
    show Packs (wNum 2 3 ++ (wNum 8 a1 ++ wKey a2 ++ wCnt 7 wByte a3)) _
    simp only [List.nil_append, List.append_assoc, wCnt] at hp ⊢
    exact hp
theorem enc_s (m : MsgM) (v1 v2 v3 : Value) (s1 s2 s3 : Hp) (cs : Array Value) (hm : MsgC m v1 v2 v3 cs) (o1 : OwnS v1 162 ApiSeat 2 cvApiSeat m.Rekey.Leaves s1) (o2 : OwnS v2 162 ApiSeat 2 cvApiSeat m.Rekey.Joins s2) (o3 : OwnS v3 62 ApiItem 6 cvApiItem m.Rekey.Items s3) (hb : m.Rekey.Leaves.length + m.Rekey.Joins.length + m.Rekey.Items.length < 4611686018427387904) :
    SX.Spec Tryz.prog 24 #[.agg cs] [s1, s2, s3] [] fun V Γ => Γ = [] ∧ ((∃ x l, m = x.msg ∧ GoodM x.msg ∧ Packs (wBody x) l ∧ V = .tuple #[str l, .int .i64 0]) ∨ (¬ GoodM m ∧ V = .tuple #[str [], .int .i64 13])) := by
  have hgood := good_m m v1 v2 v3 s1 s2 s3 cs hm o1 o2 o3 hb
  by_cases hG : GoodM m
  · rw [decide_eq_true hG] at hgood
    obtain ⟨p1, p2, p3, hpp, rfl⟩ := hm
    obtain ⟨q, rfl, hq⟩ := good_body hG (by rw [hpp]; rfl)
    cases q with
    | rekey r =>
      obtain ⟨ep, l1, l2, l3⟩ := r
      refine (enc1_s ep l1 l2 l3 p1 p2 p3 v1 v2 v3 s1 s2 s3 o1 o2 o3 (gm1 hG) hgood).weak fun V Γ h => ?_
      obtain ⟨h1, l, h2, h3⟩ := h
      exact ⟨h1, .inl ⟨_, l, rfl, hG, h2, h3⟩⟩
    | request q1 q2 =>
      refine (enc2_s q1 q2 p1 p2 p3 v1 v2 v3 s1 s2 s3 (gm2 hG) hgood).weak fun V Γ h => ?_
      obtain ⟨h1, l, h2, h3⟩ := h
      exact ⟨h1, .inl ⟨_, l, rfl, hG, h2, h3⟩⟩
    | reply p =>
      obtain ⟨a1, a2, a3, a4⟩ := p
      obtain rfl : a4 = [p1, p2, p3] := hpp
      refine (enc3_s a1 a2 a3 p1 p2 p3 v1 v2 v3 s1 s2 s3 (gm3 hG) hgood).weak fun V Γ h => ?_
      obtain ⟨h1, l, h2, h3⟩ := h
      exact ⟨h1, .inl ⟨_, l, rfl, hG, h2, h3⟩⟩
    | «sealed» t =>
      obtain ⟨a1, a2, a3⟩ := t
      refine (enc4_s a1 a2 a3 p1 p2 p3 v1 v2 v3 s1 s2 s3 (gm4 hG) hgood).weak fun V Γ h => ?_
      obtain ⟨h1, l, h2, h3⟩ := h
      exact ⟨h1, .inl ⟨_, l, rfl, hG, h2, h3⟩⟩
  · rw [decide_eq_false hG] at hgood
    obtain ⟨p1, p2, p3, hpp, rfl⟩ := hm
    refine spec_of1 Tryz.func24 Tryz.ntmps24 rfl rfl (fun M w0 => ?_)
    repeat' (first | refine stp ?_|refine v_box (fun bb=>?_)|fail)
    refine v_callR hgood ?_
    rintro r Γ' ⟨rfl, rfl⟩
    (try dsimp only [List.cons_append, List.nil_append])
    repeat' (first | refine stp ?_|refine v_box (fun bb=>?_)|fail)
    refine v_o2 Tryz.results24 ⟨rfl, .inr ⟨hG, rfl⟩⟩ ⟨_, inferInstance⟩
end Go.Proofs.YtdfoijfjlhjeaaaGreat

/- coterieref14: writing fields. -/
namespace Go.Proofs.YtdfoijfjlhjeaaaGreat
open Go Go.SX Go.RowKit
set_option maxRecDepth 100000
set_option maxHeartbeats 0
set_option synthInstance.maxSize 100000
set_option synthInstance.maxHeartbeats 400000
/-- fields that stand for bits -/
def FlA (bs : Bs) (v : Value) (s : Hp) : Prop := ∃ l, OwnS v 160 ApiField 2 cvApiField l s ∧ l.flatMap fB = bs ∧ (∀ f ∈ l, FOk f) ∧ l.length ≤ bs.length
/-- what a writing function does -/
def WfF (f : FuncId) (args : List Value) (out : Bs) (R : List Hp) : Prop :=
  ∀ (bs : Bs) (v : Value) (s : Hp), FlA bs v s → bs.length + out.length < 1099511627776 → SX.Spec Tryz.prog f (v :: args).toArray R [s] fun r Γ => ∃ s', FlA (bs ++ out) r s' ∧ Γ = [s']
theorem put14_s (n : Int) (w : Nat) (h1 : 1 ≤ w) (h24 : w ≤ 24) (hn : okN w n) : WfF 42 [.int .i64 n, .int .i64 w] (wNum w n) [] := by
  rintro bs v s ⟨l, ho, hb, hf, hl⟩ hlen
  obtain ⟨k, rfl⟩ : ∃ k : Nat, n = k := ⟨n.toNat, by have := hn.1; omega⟩
  have hk : k < 2 ^ w := by
    have := hn.2
    have h2 : ((2 ^ w : Nat) : Int) = 2 ^ w := by simp
    omega
  have h24 : 2 ^ w ≤ 2 ^ 24 := Nat.pow_le_pow_right (by decide) h24
  have hw : IntKind.u64.wrap (k : Int) = k := u64_wrap (by omega)
  refine spec_of3 Tryz.func42 Tryz.ntmps42 rfl rfl (fun M w0 => ?_)
  repeat' (first | refine stp ?_|refine v_lit (fun bl=>?_)|(refine v_push ?_ (fun sv ss hs hln=>?_);omega)|fail)
  rw [hw] at hs
  have hs' : OwnS sv 160 ApiField 2 cvApiField (l ++ [⟨(k : Int), (w : Int)⟩]) ss := hs
  refine v_o1 Tryz.results42 ⟨ss, ⟨_, hs', ?_, ?_, ?_⟩, rfl⟩ ⟨_, inferInstance⟩
  · rw [List.flatMap_append, hb, List.flatMap_singleton]; rfl
  · intro f hm
    rcases List.mem_append.1 hm with hm | hm
    · exact hf f hm
    · rw [List.mem_singleton.1 hm]
      have h2 : ((2 ^ w : Nat) : Int) = 2 ^ w := by simp
      exact ⟨by dsimp only; omega, by dsimp only; omega, by dsimp only; omega, by dsimp only; rw [Int.toNat_natCast]; omega⟩
  · rw [List.length_append, List.length_append, wNum, bitsOf_len]
    simp only [List.length_cons, List.length_nil]; omega
theorem putKey_s (k : ApiKey) (h : okN 16 k.Base ∧ okN 8 k.Step) : WfF 45 [avApiKey k] (wKey k) [] := by
  rintro bs v s hv hlen
  have hlw : (wKey k).length = 24 := by simp [wKey, wNum, bitsOf_len]
  refine spec_of2 Tryz.func45 Tryz.ntmps45 rfl rfl (fun M w0 => ?_)
  repeat' (first | refine stp ?_|refine v_box (fun bb=>?_)|refine ⟨?_,?_,?_⟩|refine ⟨?_,?_⟩|fail)
  refine v_drawn (id:=1) 1000000 pl45_1 [[(bb, .cells #[.int .i64 k.Base, .int .i64 k.Step] 28 (0, 0))]] [] (by kernel_rfl) ?_
  repeat' (first | refine stp ?_|refine v_box (fun bb=>?_)|refine ⟨?_,?_,?_⟩|refine ⟨?_,?_⟩|refine v_drawn0 (id:=1) pl45_1 (by kernel_rfl) ?_|fail)
  refine v_callO (put14_s k.Base 16 (by decide) (by decide) h.1 bs v s hv (by simp only [wNum, bitsOf_len]; omega)) ?_
  rintro r Γ' ⟨s1, h1, rfl⟩
  (try dsimp only [List.cons_append, List.nil_append])
  repeat' (first | refine stp ?_|refine v_box (fun bb=>?_)|refine ⟨?_,?_,?_⟩|refine ⟨?_,?_⟩|refine v_drawn0 (id:=1) pl45_1 (by kernel_rfl) ?_|fail)
  refine v_callO (put14_s k.Step 8 (by decide) (by decide) h.2 _ r s1 h1 (by simp only [wNum, bitsOf_len, List.length_append]; omega)) ?_
  rintro r Γ' ⟨s2, h2, rfl⟩
  (try dsimp only [List.cons_append, List.nil_append])
  repeat' (first | refine stp ?_|refine v_box (fun bb=>?_)|refine ⟨?_,?_,?_⟩|refine ⟨?_,?_⟩|refine v_drawn0 (id:=1) pl45_1 (by kernel_rfl) ?_|fail)
  refine v_o1 Tryz.results45 ⟨s2, by rw [List.append_assoc] at h2; exact h2, rfl⟩ ⟨_, inferInstance⟩
theorem putBox_s (k : ApiBox) (h : (okN 16 k.Under.Base ∧ okN 8 k.Under.Step) ∧ okN 16 k.Load.Base ∧ okN 8 k.Load.Step) : WfF 44 [avApiBox k] (wBox k) [] := by
  rintro bs v s hv hlen
  have hlw : ∀ k, (wKey k).length = 24 := fun k => by simp [wKey, wNum, bitsOf_len]
  have hlb : (wBox k).length = 48 := by simp [wBox, hlw]
  refine spec_of2 Tryz.func44 Tryz.ntmps44 rfl rfl (fun M w0 => ?_)
  repeat' (first | refine stp ?_|refine v_box (fun bb=>?_)|refine ⟨?_,?_,?_⟩|refine ⟨?_,?_⟩|fail)
  refine v_drawn (id:=1) 1000000 pl44_1 [[(bb, .cells #[.int .i64 k.Under.Base, .int .i64 k.Under.Step, .int .i64 k.Load.Base, .int .i64 k.Load.Step] 30 (0, 0))]] [] (by kernel_rfl) ?_
  repeat' (first | refine stp ?_|refine v_box (fun bb=>?_)|refine ⟨?_,?_,?_⟩|refine ⟨?_,?_⟩|refine v_drawn0 (id:=1) pl44_1 (by kernel_rfl) ?_|fail)
  refine v_callO (putKey_s k.Under h.1 bs v s hv (by rw [hlw]; omega)) ?_
  rintro r Γ' ⟨s1, h1, rfl⟩
  (try dsimp only [List.cons_append, List.nil_append])
  repeat' (first | refine stp ?_|refine v_box (fun bb=>?_)|refine ⟨?_,?_,?_⟩|refine ⟨?_,?_⟩|refine v_drawn0 (id:=1) pl44_1 (by kernel_rfl) ?_|fail)
  refine v_callO (putKey_s k.Load h.2 _ r s1 h1 (by rw [List.length_append, hlw, hlw]; omega)) ?_
  rintro r Γ' ⟨s2, h2, rfl⟩
  (try dsimp only [List.cons_append, List.nil_append])
  repeat' (first | refine stp ?_|refine v_box (fun bb=>?_)|refine ⟨?_,?_,?_⟩|refine ⟨?_,?_⟩|refine v_drawn0 (id:=1) pl44_1 (by kernel_rfl) ?_|fail)
  refine v_o1 Tryz.results44 ⟨s2, by rw [List.append_assoc] at h2; exact h2, rfl⟩ ⟨_, inferInstance⟩
structure FlG where
  i : Nat
  v : Value
  s : Hp
theorem putSeats_s (x : Value) (t : Hp) (l : List ApiSeat) (hx : AtS x 162 ApiSeat 2 cvApiSeat l t) (hn : okN 7 l.length) (hs : ∀ x ∈ l, okN 8 x.Who ∧ okN 6 x.Slot) : WfF 43 [x] (wCnt 7 wSeat l) [t] := by
  rintro bs v s hv hlen
  have hle := AtS.le hx
  refine spec_of2 Tryz.func43 Tryz.ntmps43 rfl rfl (fun M w0 => ?_)
  repeat' (first | refine stp ?_|(refine v_spT ?_ ?_;omega)|(refine v_spF ?_ ?_;omega)|(refine v_yc ?_ ?_;omega)|refine v_alloc' (fun ba=>?_)|refine ⟨?_,?_,?_⟩|refine ⟨?_,?_⟩|refine v_drawn0 (id:=5) pl43_5 (by kernel_rfl) ?_|fail)
  refine v_callO (put14_s l.length 7 (by decide) (by decide) hn bs v s hv (by simp only [wNum, bitsOf_len]; simp [wCnt, wNum, bitsOf_len] at hlen; omega)) ?_
  rintro r Γ' ⟨s1, h1, rfl⟩
  (try dsimp only [List.cons_append, List.nil_append])
  repeat' (first | refine stp ?_|(refine v_spT ?_ ?_;omega)|(refine v_spF ?_ ?_;omega)|(refine v_yc ?_ ?_;omega)|refine v_alloc' (fun ba=>?_)|refine ⟨?_,?_,?_⟩|refine ⟨?_,?_⟩|refine v_drawn0 (id:=5) pl43_5 (by kernel_rfl) ?_|fail)
  refine v_lp [0, 13] [11, 12] (fun g : FlG => [g.v, .int .i64 g.i]) (fun g => [g.s]) (fun g => g.i ≤ l.length ∧ FlA (bs ++ wNum 7 l.length ++ (l.take g.i).flatMap wSeat) g.v g.s) (fun g => l.length - g.i) ⟨0, r, s1⟩ (fun _ => rfl) rfl inferInstance ⟨Nat.zero_le _, by simpa using h1⟩ ?_
  clear h1 hv
  rintro ⟨i, v, s⟩ ⟨hi, hv⟩
  dsimp only at hi hv ⊢
  (try dsimp only [zipE_c, zipE_n, List.cons_append, List.nil_append])
  have hlw : (wCnt 7 wSeat l).length = 7 + 14 * l.length := wCntS_len l
  rcases Nat.lt_or_ge i l.length with hlt | hge
  · have hsi := hs l[i] (List.getElem_mem hlt)
    have htk : bs ++ wNum 7 l.length ++ (l.take i).flatMap wSeat ++ wNum 8 l[i].Who ++ wNum 6 l[i].Slot = bs ++ wNum 7 l.length ++ (l.take (i + 1)).flatMap wSeat := by
      rw [fm_take wSeat hlt]; simp only [wSeat, List.append_assoc]
    have hcur : (bs ++ wNum 7 l.length ++ (l.take i).flatMap wSeat).length = bs.length + 7 + 14 * i := by
      rw [List.length_append, List.length_append, wNum_len, fm_len wSeat_len, List.length_take]; omega
    generalize bs ++ wNum 7 l.length ++ (l.take i).flatMap wSeat = B at *
    repeat' (first | refine stp ?_|(refine v_spT ?_ ?_;omega)|(refine v_spF ?_ ?_;omega)|(refine v_yc ?_ ?_;omega)|refine v_alloc' (fun ba=>?_)|refine ⟨?_,?_,?_⟩|refine ⟨?_,?_⟩|fail)
    refine v_drawn (id:=5) 1000000 pl43_5 [[(ba, .cells #[.int .i64 l[i].Who, .int .i64 l[i].Slot] 162 (0, 0))]] [] (by kernel_rfl) ?_
    repeat' (first | refine stp ?_|(refine v_spT ?_ ?_;omega)|(refine v_spF ?_ ?_;omega)|(refine v_yc ?_ ?_;omega)|refine v_alloc' (fun ba=>?_)|refine ⟨?_,?_,?_⟩|refine ⟨?_,?_⟩|refine v_drawn0 (id:=5) pl43_5 (by kernel_rfl) ?_|fail)
    refine v_callO (put14_s l[i].Who 8 (by decide) (by decide) hsi.1 B v s hv (by rw [wNum_len]; omega)) ?_
    rintro r Γ' ⟨s1, h1, rfl⟩
    (try dsimp only [List.cons_append, List.nil_append])
    repeat' (first | refine stp ?_|(refine v_spT ?_ ?_;omega)|(refine v_spF ?_ ?_;omega)|(refine v_yc ?_ ?_;omega)|refine v_alloc' (fun ba=>?_)|refine ⟨?_,?_,?_⟩|refine ⟨?_,?_⟩|refine v_drawn0 (id:=5) pl43_5 (by kernel_rfl) ?_|fail)
    refine v_callO (put14_s l[i].Slot 6 (by decide) (by decide) hsi.2 _ r s1 h1 (by rw [List.length_append, wNum_len, wNum_len]; omega)) ?_
    rintro r Γ' ⟨s2, h2, rfl⟩
    rw [htk] at h2
    (try dsimp only [List.cons_append, List.nil_append])
    repeat' (first | refine stp ?_|(refine v_spT ?_ ?_;omega)|(refine v_spF ?_ ?_;omega)|(refine v_yc ?_ ?_;omega)|refine v_alloc' (fun ba=>?_)|refine ⟨?_,?_,?_⟩|refine ⟨?_,?_⟩|refine v_drawn0 (id:=5) pl43_5 (by kernel_rfl) ?_|fail)
    exact v_again ⟨i + 1, r, s2⟩ (by dsimp only; omega) rfl inferInstance ⟨hlt, h2⟩
  · obtain rfl : i = l.length := by omega
    rw [List.take_length, List.append_assoc] at hv
    repeat' (first | refine stp ?_|(refine v_spT ?_ ?_;omega)|(refine v_spF ?_ ?_;omega)|(refine v_yc ?_ ?_;omega)|refine v_alloc' (fun ba=>?_)|refine ⟨?_,?_,?_⟩|refine ⟨?_,?_⟩|refine v_drawn0 (id:=5) pl43_5 (by kernel_rfl) ?_|fail)
    refine v_o1 Tryz.results43 ⟨s, hv, rfl⟩ ⟨_, inferInstance⟩
end Go.Proofs.YtdfoijfjlhjeaaaGreat

/- coterieref14.Encode. -/
namespace Go.Proofs.YtdfoijfjlhjeaaaGreat
open Go Go.SX Go.RowKit
set_option maxRecDepth 100000
set_option maxHeartbeats 0
set_option synthInstance.maxSize 100000
set_option synthInstance.maxHeartbeats 400000
theorem put0_s (n : Int) (w : Nat) (h1 : 1 ≤ w) (h24 : w ≤ 24) (hn : okN w n) : SX.Spec Tryz.prog 42 #[.slice none 0 0, .int .i64 n, .int .i64 w] [] [] fun r Γ => ∃ s', FlA ([] ++ wNum w n) r s' ∧ Γ = [s'] :=
  fun w0 i => put14_s n w h1 h24 hn [] (.slice none 0 0) [] ⟨[], OwnS.nil, rfl, by simp, Nat.le_refl _⟩ (by rw [wNum_len]; simp only [List.length_nil]; omega) w0 (i.perm (by simp))
structure RmG where
  i : Nat
  v : Value
  s : Hp
theorem renc1_s (ep : Int) (l1 l2 : List ApiSeat) (l3 : List ApiItem) (p1 p2 p3 : ApiBox) (v1 v2 v3 : Value) (s1 s2 s3 : Hp) (o1 : AtS v1 162 ApiSeat 2 cvApiSeat l1 s1) (o2 : AtS v2 162 ApiSeat 2 cvApiSeat l2 s2) (o3 : AtS v3 62 ApiItem 6 cvApiItem l3 s3) (hk : goodRk ⟨ep, l1, l2, l3⟩) (hgood : SX.Spec Tryz.prog 41 #[.agg (msgC 1 ep v1 v2 v3 0 0 0 0 0 p1 p2 p3 0 k0 [])] [s1, s2, s3] [] fun r Γ => r = .bool true ∧ Γ = []) :
    SX.Spec Tryz.prog 16 #[.agg (msgC 1 ep v1 v2 v3 0 0 0 0 0 p1 p2 p3 0 k0 [])] [s1, s2, s3] [] fun V Γ => Γ = [] ∧ ∃ l, Packs (wBody (.rekey ⟨ep, l1, l2, l3⟩)) l ∧ V = .tuple #[str l, .int .i64 0] := by
  obtain ⟨g1, ⟨g2, g3⟩, ⟨g4, g5⟩, g6, g7⟩ := hk
  dsimp only at g1 g2 g3 g4 g5 g6 g7
  refine spec_of1 Tryz.func16 Tryz.ntmps16 rfl rfl (fun M w0 => ?_)
  repeat' (first | refine stp ?_|(refine v_spT ?_ ?_;omega)|(refine v_spF ?_ ?_;omega)|(refine v_yc ?_ ?_;omega)|refine v_alloc' (fun ba=>?_)|refine v_box (fun bb=>?_)|refine ⟨?_,?_,?_⟩|refine ⟨?_,?_⟩|refine v_drawn0 (id:=7) pl16_7 (by kernel_rfl) ?_|refine v_drawn0 (id:=12) pl16_12 (by kernel_rfl) ?_|fail)
  refine v_callR hgood ?_
  rintro r Γ' ⟨rfl, rfl⟩
  clear hgood
  (try dsimp only [List.cons_append, List.nil_append])
  repeat' (first | refine stp ?_|(refine v_spT ?_ ?_;omega)|(refine v_spF ?_ ?_;omega)|(refine v_yc ?_ ?_;omega)|refine v_alloc' (fun ba=>?_)|refine v_box (fun bb=>?_)|refine ⟨?_,?_,?_⟩|refine ⟨?_,?_⟩|refine v_drawn0 (id:=7) pl16_7 (by kernel_rfl) ?_|refine v_drawn0 (id:=12) pl16_12 (by kernel_rfl) ?_|fail)
  refine v_callR (put0_s (1 - 1) 2 (by decide) (by decide) ⟨(by decide), (by decide)⟩) ?_
  rintro r Γ' ⟨s, hv, rfl⟩
  (try dsimp only [List.cons_append, List.nil_append])
  repeat' (first | refine stp ?_|(refine v_spT ?_ ?_;omega)|(refine v_spF ?_ ?_;omega)|(refine v_yc ?_ ?_;omega)|refine v_alloc' (fun ba=>?_)|refine v_box (fun bb=>?_)|refine ⟨?_,?_,?_⟩|refine ⟨?_,?_⟩|refine v_drawn0 (id:=7) pl16_7 (by kernel_rfl) ?_|refine v_drawn0 (id:=12) pl16_12 (by kernel_rfl) ?_|fail)
  refine v_callO (put14_s ep 8 (by decide) (by decide) (btw_ok g1 (by decide) (by decide)) _ _ _ hv (by simp only [List.length_append, List.length_nil, wNum_len, wKey_len, wBox_len, wItem_len, wCntS_len, fmI_len, fmB_len, fmY_len, List.length_take] <;> omega)) ?_
  clear hv; rintro r Γ' ⟨s, hv, rfl⟩
  (try dsimp only [List.cons_append, List.nil_append])
  repeat' (first | refine stp ?_|(refine v_spT ?_ ?_;omega)|(refine v_spF ?_ ?_;omega)|(refine v_yc ?_ ?_;omega)|refine v_alloc' (fun ba=>?_)|refine v_box (fun bb=>?_)|refine ⟨?_,?_,?_⟩|refine ⟨?_,?_⟩|refine v_drawn0 (id:=12) pl16_12 (by kernel_rfl) ?_|fail)
  refine v_drawn (id:=7) 1000000 pl16_7 [s1, s2, [(bb, .cells (msgC 1 ep v1 v2 v3 0 0 0 0 0 p1 p2 p3 0 k0 []) 49 (0, 0))]] [] (by kernel_rfl) ?_
  repeat' (first | refine stp ?_|(refine v_spT ?_ ?_;omega)|(refine v_spF ?_ ?_;omega)|(refine v_yc ?_ ?_;omega)|refine v_alloc' (fun ba=>?_)|refine v_box (fun bb=>?_)|refine ⟨?_,?_,?_⟩|refine ⟨?_,?_⟩|refine v_drawn0 (id:=7) pl16_7 (by kernel_rfl) ?_|refine v_drawn0 (id:=12) pl16_12 (by kernel_rfl) ?_|fail)
  refine v_callB (putSeats_s v1 s1 l1 o1 (len_ok g3 (by decide)) (fun x hx => seat_ok (g2 x hx)) _ _ _ hv (by simp only [List.length_append, List.length_nil, wNum_len, wKey_len, wBox_len, wItem_len, wCntS_len, fmI_len, fmB_len, fmY_len, List.length_take] <;> omega)) ?_
  clear hv; rintro r Γ' ⟨s, hv, rfl⟩; (try dsimp only [List.cons_append, List.nil_append]); repeat' (first | refine stp ?_|(refine v_spT ?_ ?_;omega)|(refine v_spF ?_ ?_;omega)|(refine v_yc ?_ ?_;omega)|refine v_alloc' (fun ba=>?_)|refine v_box (fun bb=>?_)|refine ⟨?_,?_,?_⟩|refine ⟨?_,?_⟩|refine v_drawn0 (id:=7) pl16_7 (by kernel_rfl) ?_|refine v_drawn0 (id:=12) pl16_12 (by kernel_rfl) ?_|fail)
  refine v_callB (putSeats_s v2 s2 l2 o2 (len_ok g5 (by decide)) (fun x hx => seat_ok (g4 x hx)) _ _ _ hv (by simp only [List.length_append, List.length_nil, wNum_len, wKey_len, wBox_len, wItem_len, wCntS_len, fmI_len, fmB_len, fmY_len, List.length_take] <;> omega)) ?_
  clear hv; rintro r Γ' ⟨s, hv, rfl⟩; (try dsimp only [List.cons_append, List.nil_append]); repeat' (first | refine stp ?_|(refine v_spT ?_ ?_;omega)|(refine v_spF ?_ ?_;omega)|(refine v_yc ?_ ?_;omega)|refine v_alloc' (fun ba=>?_)|refine v_box (fun bb=>?_)|refine ⟨?_,?_,?_⟩|refine ⟨?_,?_⟩|refine v_drawn0 (id:=7) pl16_7 (by kernel_rfl) ?_|refine v_drawn0 (id:=12) pl16_12 (by kernel_rfl) ?_|fail)
  refine v_callO (put14_s l3.length 11 (by decide) (by decide) (len_ok g7 (by decide)) _ _ _ hv (by simp only [List.length_append, List.length_nil, wNum_len, wKey_len, wBox_len, wItem_len, wCntS_len, fmI_len, fmB_len, fmY_len, List.length_take] <;> omega)) ?_
  clear hv; rintro r Γ' ⟨s, hv, rfl⟩; (try dsimp only [List.cons_append, List.nil_append]); repeat' (first | refine stp ?_|(refine v_spT ?_ ?_;omega)|(refine v_spF ?_ ?_;omega)|(refine v_yc ?_ ?_;omega)|refine v_alloc' (fun ba=>?_)|refine v_box (fun bb=>?_)|refine ⟨?_,?_,?_⟩|refine ⟨?_,?_⟩|refine v_drawn0 (id:=7) pl16_7 (by kernel_rfl) ?_|refine v_drawn0 (id:=12) pl16_12 (by kernel_rfl) ?_|fail)
  obtain ⟨A, hA⟩ : ∃ A, A = [] ++ wNum 2 (1 - 1) ++ wNum 8 ep ++ wCnt 7 wSeat l1 ++ wCnt 7 wSeat l2 ++ wNum 11 l3.length := ⟨_, rfl⟩
  have hAl : A.length < 2000 := by rw [hA]; (simp only [List.length_append, List.length_nil, wNum_len, wKey_len, wBox_len, wItem_len, wCntS_len, fmI_len, fmB_len, fmY_len, List.length_take]; omega)
  rw [← hA] at hv
  have hle := AtS.le o3
  refine v_lp [4, 46] [44, 45] (fun g : RmG => [g.v, .int .i64 g.i]) (fun g => [g.s]) (fun g => g.i ≤ l3.length ∧ FlA (A ++ (l3.take g.i).flatMap wItem) g.v g.s) (fun g => l3.length - g.i) ⟨0, _, _⟩ (fun _ => rfl) rfl inferInstance ⟨Nat.zero_le _, by simpa using hv⟩ ?_
  clear hv
  rintro ⟨i, r, s⟩ ⟨hi, hv⟩
  dsimp only at hi hv ⊢
  (try dsimp only [zipE_c, zipE_n, List.cons_append, List.nil_append])
  rcases Nat.lt_or_ge i l3.length with hlt | hge
  · have hs := g6 l3[i] (List.getElem_mem hlt)
    have hs1 := item_ok hs
    have hcur : (A ++ (l3.take i).flatMap wItem).length < 2000 + 60 * 1536 := by rw [List.length_append, fmI_len, List.length_take]; omega
    have htk : A ++ (l3.take i).flatMap wItem ++ wNum 5 l3[i].Node ++ wNum 7 l3[i].From ++ wBox l3[i].Box = A ++ (l3.take (i + 1)).flatMap wItem := by
      rw [fm_take wItem hlt]; simp only [wItem, List.append_assoc]
    generalize A ++ (l3.take i).flatMap wItem = B at *
    repeat' (first | refine stp ?_|(refine v_spT ?_ ?_;omega)|(refine v_spF ?_ ?_;omega)|(refine v_yc ?_ ?_;omega)|refine v_alloc' (fun ba=>?_)|refine v_box (fun bb=>?_)|refine ⟨?_,?_,?_⟩|refine ⟨?_,?_⟩|refine v_drawn0 (id:=7) pl16_7 (by kernel_rfl) ?_|fail)
    refine v_drawn (id:=12) 1000000 pl16_12 [[(ba, .cells #[.int .i64 l3[i].Node, .int .i64 l3[i].From, .int .i64 l3[i].Box.Under.Base, .int .i64 l3[i].Box.Under.Step, .int .i64 l3[i].Box.Load.Base, .int .i64 l3[i].Box.Load.Step] 62 (0, 0))]] [] (by kernel_rfl) ?_
    repeat' (first | refine stp ?_|(refine v_spT ?_ ?_;omega)|(refine v_spF ?_ ?_;omega)|(refine v_yc ?_ ?_;omega)|refine v_alloc' (fun ba=>?_)|refine v_box (fun bb=>?_)|refine ⟨?_,?_,?_⟩|refine ⟨?_,?_⟩|refine v_drawn0 (id:=7) pl16_7 (by kernel_rfl) ?_|refine v_drawn0 (id:=12) pl16_12 (by kernel_rfl) ?_|fail)
    refine v_callO (put14_s l3[i].Node 5 (by decide) (by decide) (hs1.1.1) _ _ _ hv (by simp only [List.length_append, List.length_nil, wNum_len, wKey_len, wBox_len, wItem_len, wCntS_len, fmI_len, fmB_len, fmY_len, List.length_take] <;> omega)) ?_
    clear hv; rintro r Γ' ⟨s, hv, rfl⟩; (try dsimp only [List.cons_append, List.nil_append]); repeat' (first | refine stp ?_|(refine v_spT ?_ ?_;omega)|(refine v_spF ?_ ?_;omega)|(refine v_yc ?_ ?_;omega)|refine v_alloc' (fun ba=>?_)|refine v_box (fun bb=>?_)|refine ⟨?_,?_,?_⟩|refine ⟨?_,?_⟩|refine v_drawn0 (id:=7) pl16_7 (by kernel_rfl) ?_|refine v_drawn0 (id:=12) pl16_12 (by kernel_rfl) ?_|fail)
    refine v_callO (put14_s l3[i].From 7 (by decide) (by decide) (hs1.1.2) _ _ _ hv (by simp only [List.length_append, List.length_nil, wNum_len, wKey_len, wBox_len, wItem_len, wCntS_len, fmI_len, fmB_len, fmY_len, List.length_take] <;> omega)) ?_
    clear hv; rintro r Γ' ⟨s, hv, rfl⟩; (try dsimp only [List.cons_append, List.nil_append]); repeat' (first | refine stp ?_|(refine v_spT ?_ ?_;omega)|(refine v_spF ?_ ?_;omega)|(refine v_yc ?_ ?_;omega)|refine v_alloc' (fun ba=>?_)|refine v_box (fun bb=>?_)|refine ⟨?_,?_,?_⟩|refine ⟨?_,?_⟩|refine v_drawn0 (id:=7) pl16_7 (by kernel_rfl) ?_|refine v_drawn0 (id:=12) pl16_12 (by kernel_rfl) ?_|fail)
    refine v_callO (putBox_s l3[i].Box (box_ok hs.2.2.2) _ _ _ hv (by simp only [List.length_append, List.length_nil, wNum_len, wKey_len, wBox_len, wItem_len, wCntS_len, fmI_len, fmB_len, fmY_len, List.length_take] <;> omega)) ?_
    clear hv; rintro r Γ' ⟨s, hv, rfl⟩; (try dsimp only [List.cons_append, List.nil_append]); repeat' (first | refine stp ?_|(refine v_spT ?_ ?_;omega)|(refine v_spF ?_ ?_;omega)|(refine v_yc ?_ ?_;omega)|refine v_alloc' (fun ba=>?_)|refine v_box (fun bb=>?_)|refine ⟨?_,?_,?_⟩|refine ⟨?_,?_⟩|refine v_drawn0 (id:=7) pl16_7 (by kernel_rfl) ?_|refine v_drawn0 (id:=12) pl16_12 (by kernel_rfl) ?_|fail)
    rw [htk] at hv
    exact v_again ⟨i + 1, _, _⟩ (by dsimp only; omega) rfl inferInstance ⟨hlt, hv⟩
  · obtain rfl : i = l3.length := by omega
    rw [List.take_length] at hv
    have hBl : (A ++ l3.flatMap wItem).length < 1099511627776 := by rw [List.length_append, fmI_len]; omega
    repeat' (first | refine stp ?_|(refine v_spT ?_ ?_;omega)|(refine v_spF ?_ ?_;omega)|(refine v_yc ?_ ?_;omega)|refine v_alloc' (fun ba=>?_)|refine v_box (fun bb=>?_)|refine ⟨?_,?_,?_⟩|refine ⟨?_,?_⟩|refine v_drawn0 (id:=7) pl16_7 (by kernel_rfl) ?_|refine v_drawn0 (id:=12) pl16_12 (by kernel_rfl) ?_|fail)
    obtain ⟨fl, hfo, hfb, hff, hfl⟩ := hv
    refine v_callR (rpack_s _ _ fl (ownAt (h := hfo)) hff (by rw [hfb]; exact hBl)) ?_
    rintro r Γ' ⟨rfl, u, hu, rfl⟩
    rw [hfb] at hu
    (try dsimp only [List.cons_append, List.nil_append])
    repeat' (first | refine stp ?_|(refine v_spT ?_ ?_;omega)|(refine v_spF ?_ ?_;omega)|(refine v_yc ?_ ?_;omega)|refine v_alloc' (fun ba=>?_)|refine v_box (fun bb=>?_)|refine ⟨?_,?_,?_⟩|refine ⟨?_,?_⟩|refine v_drawn0 (id:=7) pl16_7 (by kernel_rfl) ?_|refine v_drawn0 (id:=12) pl16_12 (by kernel_rfl) ?_|fail)
    refine v_o2 Tryz.results16 ⟨rfl, u, ?_, rfl⟩ ⟨_, inferInstance⟩
    rw [hA] at hu
    show Packs (wNum 2 0 ++ (wNum 8 ep ++ wCnt 7 wSeat l1 ++ wCnt 7 wSeat l2 ++ wCnt 11 wItem l3)) _
    simp only [List.nil_append, List.append_assoc, wCnt] at hu ⊢
    exact hu
theorem renc2_s (q1 q2 : Int) (p1 p2 p3 : ApiBox) (v1 v2 v3 : Value) (s1 s2 s3 : Hp) (hk : goodRq q1 q2) (hgood : SX.Spec Tryz.prog 41 #[.agg (msgC 2 0 v1 v2 v3 q1 q2 0 0 0 p1 p2 p3 0 k0 [])] [s1, s2, s3] [] fun r Γ => r = .bool true ∧ Γ = []) :
    SX.Spec Tryz.prog 16 #[.agg (msgC 2 0 v1 v2 v3 q1 q2 0 0 0 p1 p2 p3 0 k0 [])] [s1, s2, s3] [] fun V Γ => Γ = [] ∧ ∃ l, Packs (wBody (.request q1 q2)) l ∧ V = .tuple #[str l, .int .i64 0] := by
  refine spec_of1 Tryz.func16 Tryz.ntmps16 rfl rfl (fun M w0 => ?_)
  repeat' (first | refine stp ?_|(refine v_spT ?_ ?_;omega)|(refine v_spF ?_ ?_;omega)|(refine v_yc ?_ ?_;omega)|refine v_box (fun bb=>?_)|refine ⟨?_,?_,?_⟩|refine ⟨?_,?_⟩|refine v_drawn0 (id:=15) pl16_15 (by kernel_rfl) ?_|fail)
  refine v_callR hgood ?_
  rintro r Γ' ⟨rfl, rfl⟩
  clear hgood
  (try dsimp only [List.cons_append, List.nil_append])
  repeat' (first | refine stp ?_|(refine v_spT ?_ ?_;omega)|(refine v_spF ?_ ?_;omega)|(refine v_yc ?_ ?_;omega)|refine v_box (fun bb=>?_)|refine ⟨?_,?_,?_⟩|refine ⟨?_,?_⟩|refine v_drawn0 (id:=15) pl16_15 (by kernel_rfl) ?_|fail)
  refine v_callR (put0_s (2 - 1) 2 (by decide) (by decide) ⟨(by decide), (by decide)⟩) ?_
  rintro r Γ' ⟨s, hv, rfl⟩
  (try dsimp only [List.cons_append, List.nil_append])
  repeat' (first | refine stp ?_|(refine v_spT ?_ ?_;omega)|(refine v_spF ?_ ?_;omega)|(refine v_yc ?_ ?_;omega)|refine v_box (fun bb=>?_)|refine ⟨?_,?_,?_⟩|refine ⟨?_,?_⟩|fail)
  refine v_drawn (id:=15) 1000000 pl16_15 [[(bb, .cells (msgC 2 0 v1 v2 v3 q1 q2 0 0 0 p1 p2 p3 0 k0 []) 49 (0, 0))]] [] (by kernel_rfl) ?_
  repeat' (first | refine stp ?_|(refine v_spT ?_ ?_;omega)|(refine v_spF ?_ ?_;omega)|(refine v_yc ?_ ?_;omega)|refine v_box (fun bb=>?_)|refine ⟨?_,?_,?_⟩|refine ⟨?_,?_⟩|refine v_drawn0 (id:=15) pl16_15 (by kernel_rfl) ?_|fail)
  refine v_callO (put14_s q1 8 (by decide) (by decide) (btw_ok hk.1 (by decide) (by decide)) _ _ _ hv (by simp only [List.length_append, List.length_nil, wNum_len, wKey_len, wBox_len, wItem_len, wCntS_len, fmI_len, fmB_len, fmY_len, List.length_take] <;> omega)) ?_
  clear hv; rintro r Γ' ⟨s, hv, rfl⟩; (try dsimp only [List.cons_append, List.nil_append]); repeat' (first | refine stp ?_|(refine v_spT ?_ ?_;omega)|(refine v_spF ?_ ?_;omega)|(refine v_yc ?_ ?_;omega)|refine v_box (fun bb=>?_)|refine ⟨?_,?_,?_⟩|refine ⟨?_,?_⟩|refine v_drawn0 (id:=15) pl16_15 (by kernel_rfl) ?_|fail)
  refine v_callO (put14_s q2 8 (by decide) (by decide) (btw_ok hk.2 (by decide) (by decide)) _ _ _ hv (by simp only [List.length_append, List.length_nil, wNum_len, wKey_len, wBox_len, wItem_len, wCntS_len, fmI_len, fmB_len, fmY_len, List.length_take] <;> omega)) ?_
  clear hv; rintro r Γ' ⟨s, hv, rfl⟩; (try dsimp only [List.cons_append, List.nil_append]); repeat' (first | refine stp ?_|(refine v_spT ?_ ?_;omega)|(refine v_spF ?_ ?_;omega)|(refine v_yc ?_ ?_;omega)|refine v_box (fun bb=>?_)|refine ⟨?_,?_,?_⟩|refine ⟨?_,?_⟩|refine v_drawn0 (id:=15) pl16_15 (by kernel_rfl) ?_|fail)
  obtain ⟨fl, hfo, hfb, hff, hfl⟩ := hv
  refine v_callR (rpack_s _ _ fl (ownAt (h := hfo)) hff (by rw [hfb]; (simp only [List.length_append, List.length_nil, wNum_len, wKey_len, wBox_len, wItem_len, wCntS_len, fmI_len, fmB_len, fmY_len, List.length_take]; omega))) ?_
  rintro r Γ' ⟨rfl, u, hu, rfl⟩
  rw [hfb] at hu
  (try dsimp only [List.cons_append, List.nil_append])
  repeat' (first | refine stp ?_|(refine v_spT ?_ ?_;omega)|(refine v_spF ?_ ?_;omega)|(refine v_yc ?_ ?_;omega)|refine v_box (fun bb=>?_)|refine ⟨?_,?_,?_⟩|refine ⟨?_,?_⟩|refine v_drawn0 (id:=15) pl16_15 (by kernel_rfl) ?_|fail)
  refine v_o2 Tryz.results16 ⟨rfl, u, ?_, rfl⟩ ⟨_, inferInstance⟩
  simp only [List.nil_append, List.append_assoc] at hu
  exact hu
theorem renc3_s (a1 a2 a3 : Int) (p1 p2 p3 : ApiBox) (v1 v2 v3 : Value) (s1 s2 s3 : Hp) (hk : goodRp ⟨a1, a2, a3, [p1, p2, p3]⟩) (hgood : SX.Spec Tryz.prog 41 #[.agg (msgC 3 0 v1 v2 v3 0 0 a1 a2 a3 p1 p2 p3 0 k0 [])] [s1, s2, s3] [] fun r Γ => r = .bool true ∧ Γ = []) :
    SX.Spec Tryz.prog 16 #[.agg (msgC 3 0 v1 v2 v3 0 0 a1 a2 a3 p1 p2 p3 0 k0 [])] [s1, s2, s3] [] fun V Γ => Γ = [] ∧ ∃ l, Packs (wBody (.reply ⟨a1, a2, a3, [p1, p2, p3]⟩)) l ∧ V = .tuple #[str l, .int .i64 0] := by
  refine spec_of1 Tryz.func16 Tryz.ntmps16 rfl rfl (fun M w0 => ?_)
  repeat' (first | refine stp ?_|(refine v_spT ?_ ?_;omega)|(refine v_spF ?_ ?_;omega)|(refine v_yc ?_ ?_;omega)|refine v_box (fun bb=>?_)|refine ⟨?_,?_,?_⟩|refine ⟨?_,?_⟩|refine v_drawn0 (id:=17) pl16_17 (by kernel_rfl) ?_|fail)
  refine v_callR hgood ?_
  rintro r Γ' ⟨rfl, rfl⟩
  clear hgood
  (try dsimp only [List.cons_append, List.nil_append])
  repeat' (first | refine stp ?_|(refine v_spT ?_ ?_;omega)|(refine v_spF ?_ ?_;omega)|(refine v_yc ?_ ?_;omega)|refine v_box (fun bb=>?_)|refine ⟨?_,?_,?_⟩|refine ⟨?_,?_⟩|refine v_drawn0 (id:=17) pl16_17 (by kernel_rfl) ?_|fail)
  refine v_callR (put0_s (3 - 1) 2 (by decide) (by decide) ⟨(by decide), (by decide)⟩) ?_
  rintro r Γ' ⟨s, hv, rfl⟩
  (try dsimp only [List.cons_append, List.nil_append])
  repeat' (first | refine stp ?_|(refine v_spT ?_ ?_;omega)|(refine v_spF ?_ ?_;omega)|(refine v_yc ?_ ?_;omega)|refine v_box (fun bb=>?_)|refine ⟨?_,?_,?_⟩|refine ⟨?_,?_⟩|fail)
  refine v_drawn (id:=17) 1000000 pl16_17 [[(bb, .cells (msgC 3 0 v1 v2 v3 0 0 a1 a2 a3 p1 p2 p3 0 k0 []) 49 (0, 0))]] [] (by kernel_rfl) ?_
  repeat' (first | refine stp ?_|(refine v_spT ?_ ?_;omega)|(refine v_spF ?_ ?_;omega)|(refine v_yc ?_ ?_;omega)|refine v_box (fun bb=>?_)|refine ⟨?_,?_,?_⟩|refine ⟨?_,?_⟩|refine v_drawn0 (id:=17) pl16_17 (by kernel_rfl) ?_|fail)
  refine v_callO (put14_s a1 8 (by decide) (by decide) (btw_ok hk.1.1 (by decide) (by decide)) _ _ _ hv (by simp only [List.length_append, List.length_nil, wNum_len, wKey_len, wBox_len, wItem_len, wCntS_len, fmI_len, fmB_len, fmY_len, List.length_take] <;> omega)) ?_
  clear hv; rintro r Γ' ⟨s, hv, rfl⟩; (try dsimp only [List.cons_append, List.nil_append]); repeat' (first | refine stp ?_|(refine v_spT ?_ ?_;omega)|(refine v_spF ?_ ?_;omega)|(refine v_yc ?_ ?_;omega)|refine v_box (fun bb=>?_)|refine ⟨?_,?_,?_⟩|refine ⟨?_,?_⟩|refine v_drawn0 (id:=17) pl16_17 (by kernel_rfl) ?_|fail)
  refine v_callO (put14_s a2 6 (by decide) (by decide) (btw_ok hk.1.2 (by decide) (by decide)) _ _ _ hv (by simp only [List.length_append, List.length_nil, wNum_len, wKey_len, wBox_len, wItem_len, wCntS_len, fmI_len, fmB_len, fmY_len, List.length_take] <;> omega)) ?_
  clear hv; rintro r Γ' ⟨s, hv, rfl⟩; (try dsimp only [List.cons_append, List.nil_append]); repeat' (first | refine stp ?_|(refine v_spT ?_ ?_;omega)|(refine v_spF ?_ ?_;omega)|(refine v_yc ?_ ?_;omega)|refine v_box (fun bb=>?_)|refine ⟨?_,?_,?_⟩|refine ⟨?_,?_⟩|refine v_drawn0 (id:=17) pl16_17 (by kernel_rfl) ?_|fail)
  refine v_callO (put14_s a3 8 (by decide) (by decide) (btw_ok hk.2.1 (by decide) (by decide)) _ _ _ hv (by simp only [List.length_append, List.length_nil, wNum_len, wKey_len, wBox_len, wItem_len, wCntS_len, fmI_len, fmB_len, fmY_len, List.length_take] <;> omega)) ?_
  clear hv; rintro r Γ' ⟨s, hv, rfl⟩; (try dsimp only [List.cons_append, List.nil_append]); repeat' (first | refine stp ?_|(refine v_spT ?_ ?_;omega)|(refine v_spF ?_ ?_;omega)|(refine v_yc ?_ ?_;omega)|refine v_box (fun bb=>?_)|refine ⟨?_,?_,?_⟩|refine ⟨?_,?_⟩|refine v_drawn0 (id:=17) pl16_17 (by kernel_rfl) ?_|fail)
  obtain ⟨A, hA⟩ : ∃ A, A = [] ++ wNum 2 (3 - 1) ++ wNum 8 a1 ++ wNum 6 a2 ++ wNum 8 a3 := ⟨_, rfl⟩
  have hAl : A.length < 2000 := by rw [hA]; (simp only [List.length_append, List.length_nil, wNum_len, wKey_len, wBox_len, wItem_len, wCntS_len, fmI_len, fmB_len, fmY_len, List.length_take]; omega)
  rw [← hA] at hv
  refine v_lp [4, 7] [1] (fun g : RmG => [g.v, .int .i64 g.i]) (fun g => [g.s, [(bb, .cells (msgC 3 0 v1 v2 v3 0 0 a1 a2 a3 p1 p2 p3 0 k0 []) 49 (0, 0))]]) (fun g => g.i ≤ 3 ∧ FlA (A ++ ([p1, p2, p3].take g.i).flatMap wBox) g.v g.s) (fun g => 3 - g.i) ⟨0, _, _⟩ (fun _ => rfl) rfl inferInstance ⟨Nat.zero_le _, by simpa using hv⟩ ?_
  clear hv
  rintro ⟨i, r, s⟩ ⟨hi, hv⟩
  dsimp only at hi hv ⊢
  have h4 : i = 0 ∨ i = 1 ∨ i = 2 ∨ i = 3 := by omega
  rcases h4 with rfl | rfl | rfl | rfl
  · (try dsimp only [zipE_c, zipE_n, List.cons_append, List.nil_append])
    rw [show ((0 : Nat) : Int) = 0 from rfl]
    have hcur : (A ++ ([p1, p2, p3].take 0).flatMap wBox).length < 2000 + 48 * 3 := by rw [List.length_append, fmB_len, List.length_take]; simp only [List.length_cons, List.length_nil]; omega
    have htk : A ++ ([p1, p2, p3].take 0).flatMap wBox ++ wBox p1 = A ++ ([p1, p2, p3].take 1).flatMap wBox := by simp [List.append_assoc]
    generalize A ++ ([p1, p2, p3].take 0).flatMap wBox = B at *
    repeat' (first | refine stp ?_|(refine v_spT ?_ ?_;omega)|(refine v_spF ?_ ?_;omega)|(refine v_yc ?_ ?_;omega)|refine v_box (fun bb=>?_)|refine ⟨?_,?_,?_⟩|refine ⟨?_,?_⟩|refine v_drawn0 (id:=17) pl16_17 (by kernel_rfl) ?_|fail)
    rw [show 7 + 3 + Int.toNat 0 * 4 = 10 from rfl]
    repeat' (first | refine stp ?_|(refine v_spT ?_ ?_;omega)|(refine v_spF ?_ ?_;omega)|(refine v_yc ?_ ?_;omega)|refine v_box (fun bb=>?_)|refine ⟨?_,?_,?_⟩|refine ⟨?_,?_⟩|refine v_drawn0 (id:=17) pl16_17 (by kernel_rfl) ?_|fail)
    refine v_callO (putBox_s p1 (box_ok (hk.2.2 p1 (by simp))) _ _ _ hv (by simp only [List.length_append, List.length_nil, wNum_len, wKey_len, wBox_len, wItem_len, wCntS_len, fmI_len, fmB_len, fmY_len, List.length_take] <;> omega)) ?_
    clear hv; rintro r Γ' ⟨s, hv, rfl⟩; (try dsimp only [List.cons_append, List.nil_append]); repeat' (first | refine stp ?_|(refine v_spT ?_ ?_;omega)|(refine v_spF ?_ ?_;omega)|(refine v_yc ?_ ?_;omega)|refine v_box (fun bb=>?_)|refine ⟨?_,?_,?_⟩|refine ⟨?_,?_⟩|refine v_drawn0 (id:=17) pl16_17 (by kernel_rfl) ?_|fail)
    rw [htk] at hv
    exact v_again ⟨1, _, _⟩ (by dsimp only; omega) rfl inferInstance ⟨by dsimp only; omega, hv⟩
  · (try dsimp only [zipE_c, zipE_n, List.cons_append, List.nil_append])
    rw [show ((1 : Nat) : Int) = 1 from rfl]
    have hcur : (A ++ ([p1, p2, p3].take 1).flatMap wBox).length < 2000 + 48 * 3 := by rw [List.length_append, fmB_len, List.length_take]; simp only [List.length_cons, List.length_nil]; omega
    have htk : A ++ ([p1, p2, p3].take 1).flatMap wBox ++ wBox p2 = A ++ ([p1, p2, p3].take 2).flatMap wBox := by simp [List.append_assoc]
    generalize A ++ ([p1, p2, p3].take 1).flatMap wBox = B at *
    repeat' (first | refine stp ?_|(refine v_spT ?_ ?_;omega)|(refine v_spF ?_ ?_;omega)|(refine v_yc ?_ ?_;omega)|refine v_box (fun bb=>?_)|refine ⟨?_,?_,?_⟩|refine ⟨?_,?_⟩|refine v_drawn0 (id:=17) pl16_17 (by kernel_rfl) ?_|fail)
    rw [show 7 + 3 + Int.toNat 1 * 4 = 14 from rfl]
    repeat' (first | refine stp ?_|(refine v_spT ?_ ?_;omega)|(refine v_spF ?_ ?_;omega)|(refine v_yc ?_ ?_;omega)|refine v_box (fun bb=>?_)|refine ⟨?_,?_,?_⟩|refine ⟨?_,?_⟩|refine v_drawn0 (id:=17) pl16_17 (by kernel_rfl) ?_|fail)
    refine v_callO (putBox_s p2 (box_ok (hk.2.2 p2 (by simp))) _ _ _ hv (by simp only [List.length_append, List.length_nil, wNum_len, wKey_len, wBox_len, wItem_len, wCntS_len, fmI_len, fmB_len, fmY_len, List.length_take] <;> omega)) ?_
    clear hv; rintro r Γ' ⟨s, hv, rfl⟩; (try dsimp only [List.cons_append, List.nil_append]); repeat' (first | refine stp ?_|(refine v_spT ?_ ?_;omega)|(refine v_spF ?_ ?_;omega)|(refine v_yc ?_ ?_;omega)|refine v_box (fun bb=>?_)|refine ⟨?_,?_,?_⟩|refine ⟨?_,?_⟩|refine v_drawn0 (id:=17) pl16_17 (by kernel_rfl) ?_|fail)
    rw [htk] at hv
    exact v_again ⟨2, _, _⟩ (by dsimp only; omega) rfl inferInstance ⟨by dsimp only; omega, hv⟩
  · (try dsimp only [zipE_c, zipE_n, List.cons_append, List.nil_append])
    rw [show ((2 : Nat) : Int) = 2 from rfl]
    have hcur : (A ++ ([p1, p2, p3].take 2).flatMap wBox).length < 2000 + 48 * 3 := by rw [List.length_append, fmB_len, List.length_take]; simp only [List.length_cons, List.length_nil]; omega
    have htk : A ++ ([p1, p2, p3].take 2).flatMap wBox ++ wBox p3 = A ++ ([p1, p2, p3].take 3).flatMap wBox := by simp [List.append_assoc]
    generalize A ++ ([p1, p2, p3].take 2).flatMap wBox = B at *
    repeat' (first | refine stp ?_|(refine v_spT ?_ ?_;omega)|(refine v_spF ?_ ?_;omega)|(refine v_yc ?_ ?_;omega)|refine v_box (fun bb=>?_)|refine ⟨?_,?_,?_⟩|refine ⟨?_,?_⟩|refine v_drawn0 (id:=17) pl16_17 (by kernel_rfl) ?_|fail)
    rw [show 7 + 3 + Int.toNat 2 * 4 = 18 from rfl]
    repeat' (first | refine stp ?_|(refine v_spT ?_ ?_;omega)|(refine v_spF ?_ ?_;omega)|(refine v_yc ?_ ?_;omega)|refine v_box (fun bb=>?_)|refine ⟨?_,?_,?_⟩|refine ⟨?_,?_⟩|refine v_drawn0 (id:=17) pl16_17 (by kernel_rfl) ?_|fail)
    refine v_callO (putBox_s p3 (box_ok (hk.2.2 p3 (by simp))) _ _ _ hv (by simp only [List.length_append, List.length_nil, wNum_len, wKey_len, wBox_len, wItem_len, wCntS_len, fmI_len, fmB_len, fmY_len, List.length_take] <;> omega)) ?_
    clear hv; rintro r Γ' ⟨s, hv, rfl⟩; (try dsimp only [List.cons_append, List.nil_append]); repeat' (first | refine stp ?_|(refine v_spT ?_ ?_;omega)|(refine v_spF ?_ ?_;omega)|(refine v_yc ?_ ?_;omega)|refine v_box (fun bb=>?_)|refine ⟨?_,?_,?_⟩|refine ⟨?_,?_⟩|refine v_drawn0 (id:=17) pl16_17 (by kernel_rfl) ?_|fail)
    rw [htk] at hv
    exact v_again ⟨3, _, _⟩ (by dsimp only; omega) rfl inferInstance ⟨by dsimp only; omega, hv⟩
  · (try dsimp only [zipE_c, zipE_n, List.cons_append, List.nil_append])
    rw [show ((3 : Nat) : Int) = 3 from rfl]
    repeat' (first | refine stp ?_|(refine v_spT ?_ ?_;omega)|(refine v_spF ?_ ?_;omega)|(refine v_yc ?_ ?_;omega)|refine v_box (fun bb=>?_)|refine ⟨?_,?_,?_⟩|refine ⟨?_,?_⟩|refine v_drawn0 (id:=17) pl16_17 (by kernel_rfl) ?_|fail)
    obtain ⟨fl, hfo, hfb, hff, hfl⟩ := hv
    refine v_callR (rpack_s _ _ fl (ownAt (h := hfo)) hff (by rw [hfb]; rw [List.length_append, fmB_len, List.length_take]; simp only [List.length_cons, List.length_nil]; omega)) ?_
    rintro r Γ' ⟨rfl, u, hu, rfl⟩
    rw [hfb] at hu
    (try dsimp only [List.cons_append, List.nil_append])
    repeat' (first | refine stp ?_|(refine v_spT ?_ ?_;omega)|(refine v_spF ?_ ?_;omega)|(refine v_yc ?_ ?_;omega)|refine v_box (fun bb=>?_)|refine ⟨?_,?_,?_⟩|refine ⟨?_,?_⟩|refine v_drawn0 (id:=17) pl16_17 (by kernel_rfl) ?_|fail)
    refine v_o2 Tryz.results16 ⟨rfl, u, ?_, rfl⟩ ⟨_, inferInstance⟩
    rw [hA] at hu
    show Packs (wNum 2 2 ++ (wNum 8 a1 ++ wNum 6 a2 ++ wNum 8 a3 ++ [p1, p2, p3].flatMap wBox)) _
    simp only [List.nil_append, List.append_assoc] at hu ⊢
    exact hu
theorem renc4_s (a1 : Int) (a2 : ApiKey) (a3 : List UInt8) (p1 p2 p3 : ApiBox) (v1 v2 v3 : Value) (s1 s2 s3 : Hp) (hk : goodSl ⟨a1, a2, a3⟩) (hgood : SX.Spec Tryz.prog 41 #[.agg (msgC 4 0 v1 v2 v3 0 0 0 0 0 p1 p2 p3 a1 a2 a3)] [s1, s2, s3] [] fun r Γ => r = .bool true ∧ Γ = []) :
    SX.Spec Tryz.prog 16 #[.agg (msgC 4 0 v1 v2 v3 0 0 0 0 0 p1 p2 p3 a1 a2 a3)] [s1, s2, s3] [] fun V Γ => Γ = [] ∧ ∃ l, Packs (wBody (.sealed ⟨a1, a2, a3⟩)) l ∧ V = .tuple #[str l, .int .i64 0] := by
  have hk3 : (a3.length : Int) ≤ 64 := hk.2.2
  refine spec_of1 Tryz.func16 Tryz.ntmps16 rfl rfl (fun M w0 => ?_)
  repeat' (first | refine stp ?_|(refine v_spT ?_ ?_;omega)|(refine v_spF ?_ ?_;omega)|(refine v_yc ?_ ?_;omega)|refine v_box (fun bb=>?_)|refine ⟨?_,?_,?_⟩|refine ⟨?_,?_⟩|refine v_drawn0 (id:=23) pl16_23 (by kernel_rfl) ?_|fail)
  refine v_callR hgood ?_
  rintro r Γ' ⟨rfl, rfl⟩
  clear hgood
  (try dsimp only [List.cons_append, List.nil_append])
  repeat' (first | refine stp ?_|(refine v_spT ?_ ?_;omega)|(refine v_spF ?_ ?_;omega)|(refine v_yc ?_ ?_;omega)|refine v_box (fun bb=>?_)|refine ⟨?_,?_,?_⟩|refine ⟨?_,?_⟩|refine v_drawn0 (id:=23) pl16_23 (by kernel_rfl) ?_|fail)
  refine v_callR (put0_s (4 - 1) 2 (by decide) (by decide) ⟨(by decide), (by decide)⟩) ?_
  rintro r Γ' ⟨s, hv, rfl⟩
  (try dsimp only [List.cons_append, List.nil_append])
  repeat' (first | refine stp ?_|(refine v_spT ?_ ?_;omega)|(refine v_spF ?_ ?_;omega)|(refine v_yc ?_ ?_;omega)|refine v_box (fun bb=>?_)|refine ⟨?_,?_,?_⟩|refine ⟨?_,?_⟩|fail)
  refine v_drawn (id:=23) 1000000 pl16_23 [[(bb, .cells (msgC 4 0 v1 v2 v3 0 0 0 0 0 p1 p2 p3 a1 a2 a3) 49 (0, 0))]] [] (by kernel_rfl) ?_
  repeat' (first | refine stp ?_|(refine v_spT ?_ ?_;omega)|(refine v_spF ?_ ?_;omega)|(refine v_yc ?_ ?_;omega)|refine v_box (fun bb=>?_)|refine ⟨?_,?_,?_⟩|refine ⟨?_,?_⟩|refine v_drawn0 (id:=23) pl16_23 (by kernel_rfl) ?_|fail)
  refine v_callO (put14_s a1 8 (by decide) (by decide) (btw_ok hk.1 (by decide) (by decide)) _ _ _ hv (by simp only [List.length_append, List.length_nil, wNum_len, wKey_len, wBox_len, wItem_len, wCntS_len, fmI_len, fmB_len, fmY_len, List.length_take] <;> omega)) ?_
  clear hv; rintro r Γ' ⟨s, hv, rfl⟩; (try dsimp only [List.cons_append, List.nil_append]); repeat' (first | refine stp ?_|(refine v_spT ?_ ?_;omega)|(refine v_spF ?_ ?_;omega)|(refine v_yc ?_ ?_;omega)|refine v_box (fun bb=>?_)|refine ⟨?_,?_,?_⟩|refine ⟨?_,?_⟩|refine v_drawn0 (id:=23) pl16_23 (by kernel_rfl) ?_|fail)
  refine v_callO (putKey_s a2 (gd_ok hk.2.1) _ _ _ hv (by simp only [List.length_append, List.length_nil, wNum_len, wKey_len, wBox_len, wItem_len, wCntS_len, fmI_len, fmB_len, fmY_len, List.length_take] <;> omega)) ?_
  clear hv; rintro r Γ' ⟨s, hv, rfl⟩; (try dsimp only [List.cons_append, List.nil_append]); repeat' (first | refine stp ?_|(refine v_spT ?_ ?_;omega)|(refine v_spF ?_ ?_;omega)|(refine v_yc ?_ ?_;omega)|refine v_box (fun bb=>?_)|refine ⟨?_,?_,?_⟩|refine ⟨?_,?_⟩|refine v_drawn0 (id:=23) pl16_23 (by kernel_rfl) ?_|fail)
  refine v_callO (put14_s a3.length 7 (by decide) (by decide) (len_ok hk.2.2 (by decide)) _ _ _ hv (by simp only [List.length_append, List.length_nil, wNum_len, wKey_len, wBox_len, wItem_len, wCntS_len, fmI_len, fmB_len, fmY_len, List.length_take] <;> omega)) ?_
  clear hv; rintro r Γ' ⟨s, hv, rfl⟩; (try dsimp only [List.cons_append, List.nil_append]); repeat' (first | refine stp ?_|(refine v_spT ?_ ?_;omega)|(refine v_spF ?_ ?_;omega)|(refine v_yc ?_ ?_;omega)|refine v_box (fun bb=>?_)|refine ⟨?_,?_,?_⟩|refine ⟨?_,?_⟩|refine v_drawn0 (id:=23) pl16_23 (by kernel_rfl) ?_|fail)
  obtain ⟨A, hA⟩ : ∃ A, A = [] ++ wNum 2 (4 - 1) ++ wNum 8 a1 ++ wKey a2 ++ wNum 7 a3.length := ⟨_, rfl⟩
  have hAl : A.length < 2000 := by rw [hA]; (simp only [List.length_append, List.length_nil, wNum_len, wKey_len, wBox_len, wItem_len, wCntS_len, fmI_len, fmB_len, fmY_len, List.length_take]; omega)
  rw [← hA] at hv
  refine v_lp [4, 8] [1] (fun g : RmG => [g.v, .int .i64 g.i]) (fun g => [g.s, [(bb, .cells (msgC 4 0 v1 v2 v3 0 0 0 0 0 p1 p2 p3 a1 a2 a3) 49 (0, 0))]]) (fun g => g.i ≤ a3.length ∧ FlA (A ++ (a3.take g.i).flatMap wByte) g.v g.s) (fun g => a3.length - g.i) ⟨0, _, _⟩ (fun _ => rfl) rfl inferInstance ⟨Nat.zero_le _, by simpa using hv⟩ ?_
  clear hv
  rintro ⟨i, r, s⟩ ⟨hi, hv⟩
  dsimp only at hi hv ⊢
  (try dsimp only [zipE_c, zipE_n, List.cons_append, List.nil_append])
  rcases Nat.lt_or_ge i a3.length with hlt | hge
  · have hcl := a3[i].toNat_lt
    have hcur : (A ++ (a3.take i).flatMap wByte).length < 2000 + 8 * 64 := by rw [List.length_append, fmY_len, List.length_take]; omega
    have htk : A ++ (a3.take i).flatMap wByte ++ wNum 8 a3[i].toNat = A ++ (a3.take (i + 1)).flatMap wByte := by
      rw [fm_take wByte hlt, List.append_assoc]; rfl
    generalize A ++ (a3.take i).flatMap wByte = B at *
    repeat' (first | refine stp ?_|(refine v_spT ?_ ?_;omega)|(refine v_spF ?_ ?_;omega)|(refine v_yc ?_ ?_;omega)|refine v_box (fun bb=>?_)|refine ⟨?_,?_,?_⟩|refine ⟨?_,?_⟩|refine v_drawn0 (id:=23) pl16_23 (by kernel_rfl) ?_|fail)
    have hwi : IntKind.i64.wrap ((a3[i].toNat : Nat) : Int) = ((a3[i].toNat : Nat) : Int) := wrapS (by omega)
    rw [hwi]
    have h8 : okN 8 (a3[i].toNat : Int) := ⟨Int.natCast_nonneg _, (by have h8 : (2 : Int) ^ 8 = 256 := rfl
                                                                      omega)⟩
    refine v_callO (put14_s a3[i].toNat 8 (by decide) (by decide) (h8) _ _ _ hv (by simp only [List.length_append, List.length_nil, wNum_len, wKey_len, wBox_len, wItem_len, wCntS_len, fmI_len, fmB_len, fmY_len, List.length_take] <;> omega)) ?_
    clear hv; rintro r Γ' ⟨s, hv, rfl⟩; (try dsimp only [List.cons_append, List.nil_append]); repeat' (first | refine stp ?_|(refine v_spT ?_ ?_;omega)|(refine v_spF ?_ ?_;omega)|(refine v_yc ?_ ?_;omega)|refine v_box (fun bb=>?_)|refine ⟨?_,?_,?_⟩|refine ⟨?_,?_⟩|refine v_drawn0 (id:=23) pl16_23 (by kernel_rfl) ?_|fail)
    rw [htk] at hv
    exact v_again ⟨i + 1, _, _⟩ (by dsimp only; omega) rfl inferInstance ⟨hlt, hv⟩
  · obtain rfl : i = a3.length := by omega
    rw [List.take_length] at hv
    repeat' (first | refine stp ?_|(refine v_spT ?_ ?_;omega)|(refine v_spF ?_ ?_;omega)|(refine v_yc ?_ ?_;omega)|refine v_box (fun bb=>?_)|refine ⟨?_,?_,?_⟩|refine ⟨?_,?_⟩|refine v_drawn0 (id:=23) pl16_23 (by kernel_rfl) ?_|fail)
    obtain ⟨fl, hfo, hfb, hff, hfl⟩ := hv
    refine v_callR (rpack_s _ _ fl (ownAt (h := hfo)) hff (by rw [hfb]; rw [List.length_append, fmY_len]; omega)) ?_
    rintro r Γ' ⟨rfl, u, hu, rfl⟩
    rw [hfb] at hu
    (try dsimp only [List.cons_append, List.nil_append])
    repeat' (first | refine stp ?_|(refine v_spT ?_ ?_;omega)|(refine v_spF ?_ ?_;omega)|(refine v_yc ?_ ?_;omega)|refine v_box (fun bb=>?_)|refine ⟨?_,?_,?_⟩|refine ⟨?_,?_⟩|refine v_drawn0 (id:=23) pl16_23 (by kernel_rfl) ?_|fail)
    refine v_o2 Tryz.results16 ⟨rfl, u, ?_, rfl⟩ ⟨_, inferInstance⟩
    rw [hA] at hu
    show Packs (wNum 2 3 ++ (wNum 8 a1 ++ wKey a2 ++ wCnt 7 wByte a3)) _
    simp only [List.nil_append, List.append_assoc, wCnt] at hu ⊢
    exact hu
theorem renc_s (m : MsgM) (v1 v2 v3 : Value) (s1 s2 s3 : Hp) (cs : Array Value) (hm : MsgC m v1 v2 v3 cs) (o1 : AtS v1 162 ApiSeat 2 cvApiSeat m.Rekey.Leaves s1) (o2 : AtS v2 162 ApiSeat 2 cvApiSeat m.Rekey.Joins s2) (o3 : AtS v3 62 ApiItem 6 cvApiItem m.Rekey.Items s3) :
    SX.Spec Tryz.prog 16 #[.agg cs] [s1, s2, s3] [] fun V Γ => Γ = [] ∧ ((∃ x l, m = x.msg ∧ GoodM x.msg ∧ Packs (wBody x) l ∧ V = .tuple #[str l, .int .i64 0]) ∨ (¬ GoodM m ∧ V = .tuple #[str [], .int .i64 13])) := by
  have hgood := rgoodM_s m v1 v2 v3 s1 s2 s3 cs hm o1 o2 o3
  by_cases hG : GoodM m
  · rw [decide_eq_true hG] at hgood
    obtain ⟨p1, p2, p3, hpp, rfl⟩ := hm
    obtain ⟨q, rfl, hq⟩ := good_body hG (by rw [hpp]; rfl)
    cases q with
    | rekey r =>
      obtain ⟨ep, l1, l2, l3⟩ := r
      refine (renc1_s ep l1 l2 l3 p1 p2 p3 v1 v2 v3 s1 s2 s3 o1 o2 o3 (gm1 hG) hgood).weak fun V Γ h => ?_
      obtain ⟨h1, l, h2, h3⟩ := h
      exact ⟨h1, .inl ⟨_, l, rfl, hG, h2, h3⟩⟩
    | request q1 q2 =>
      refine (renc2_s q1 q2 p1 p2 p3 v1 v2 v3 s1 s2 s3 (gm2 hG) hgood).weak fun V Γ h => ?_
      obtain ⟨h1, l, h2, h3⟩ := h
      exact ⟨h1, .inl ⟨_, l, rfl, hG, h2, h3⟩⟩
    | reply p =>
      obtain ⟨a1, a2, a3, a4⟩ := p
      obtain rfl : a4 = [p1, p2, p3] := hpp
      refine (renc3_s a1 a2 a3 p1 p2 p3 v1 v2 v3 s1 s2 s3 (gm3 hG) hgood).weak fun V Γ h => ?_
      obtain ⟨h1, l, h2, h3⟩ := h
      exact ⟨h1, .inl ⟨_, l, rfl, hG, h2, h3⟩⟩
    | «sealed» t =>
      obtain ⟨a1, a2, a3⟩ := t
      refine (renc4_s a1 a2 a3 p1 p2 p3 v1 v2 v3 s1 s2 s3 (gm4 hG) hgood).weak fun V Γ h => ?_
      obtain ⟨h1, l, h2, h3⟩ := h
      exact ⟨h1, .inl ⟨_, l, rfl, hG, h2, h3⟩⟩
  · rw [decide_eq_false hG] at hgood
    obtain ⟨p1, p2, p3, hpp, rfl⟩ := hm
    refine spec_of1 Tryz.func16 Tryz.ntmps16 rfl rfl (fun M w0 => ?_)
    repeat' (first | refine stp ?_|refine v_box (fun bb=>?_)|fail)
    refine v_callR hgood ?_
    rintro r Γ' ⟨rfl, rfl⟩
    (try dsimp only [List.cons_append, List.nil_append])
    repeat' (first | refine stp ?_|refine v_box (fun bb=>?_)|fail)
    refine v_o2 Tryz.results16 ⟨rfl, .inr ⟨hG, rfl⟩⟩ ⟨_, inferInstance⟩
end Go.Proofs.YtdfoijfjlhjeaaaGreat

/- coterieref14.Decode. -/
namespace Go.Proofs.YtdfoijfjlhjeaaaGreat
open Go Go.SX Go.RowKit
set_option maxRecDepth 100000
set_option maxHeartbeats 0
set_option synthInstance.maxSize 100000
set_option synthInstance.maxHeartbeats 400000
theorem rdec_s (l : List UInt8) (hl : l.length ≤ 34359738368) : SX.Spec Tryz.prog 11 #[str l] [] [] fun V Γ =>
    (∃ x cs, decP l = some x ∧ MsgO x.msg cs Γ ∧ V = .tuple #[.agg cs, .int .i64 0]) ∨ (decP l = none ∧ V = .tuple #[.agg (z26 0), .int .i64 13] ∧ Γ = []) := by
  have hpath := sc_path (unp l)
  have hall : ∀ y : Body, decP l = some y → y = (scBody (unp l)).1 := dec_sc l
  have hiff : decP l = some (scBody (unp l)).1 ↔ GoodM (scBody (unp l)).1.msg ∧ Packs (wBody (scBody (unp l)).1) l := dec_iff hpath
  refine spec_of1 Tryz.func11 Tryz.ntmps11 rfl rfl (fun M w0 => ?_)
  repeat' (first | refine stp ?_|(refine v_spT ?_ ?_;omega)|(refine v_spF ?_ ?_;omega)|refine v_spD (fun hc=>?_) (fun hc=>?_)|refine v_alloc' (fun ba=>?_)|refine v_box (fun bb=>?_)|fail)
  obtain ⟨bo, hbo⟩ : ∃ z, z = ba := ⟨_, rfl⟩
  subst hbo
  refine v_callR (rread3_s l hl) ?_
  rintro v Γ' ⟨b, x, s, hx, rfl, rfl⟩
  (try dsimp only [List.cons_append, List.nil_append])
  repeat' (first | refine stp ?_|(refine v_spT ?_ ?_;omega)|(refine v_spF ?_ ?_;omega)|refine v_spD (fun hc=>?_) (fun hc=>?_)|refine v_alloc' (fun ba=>?_)|refine v_box (fun bb=>?_)|fail)
  refine v_callB (smsg_s bb b x s (unp l) (ownAt (h := hx)) 0 (Nat.zero_le _)) ?_
  rintro v Γ' ⟨n', Γ1, hn', e1, ⟨cs, rfl, v1, s1, v2, s2, v3, s3, ⟨p1, p2, p3, hp, rfl⟩, o1, o2, o3, rfl⟩, rfl⟩
  rw [List.drop_zero] at hp o1 o2 o3 ⊢
  generalize (scBody (unp l)).1 = y at *
  (try dsimp only [List.cons_append, List.nil_append])
  repeat' (first | refine stp ?_|(refine v_spT ?_ ?_;omega)|(refine v_spF ?_ ?_;omega)|refine v_spD (fun hc=>?_) (fun hc=>?_)|refine v_alloc' (fun ba=>?_)|refine v_box (fun bb=>?_)|fail)
  refine v_callR (renc_s y.msg v1 v2 v3 s1 s2 s3 _ ⟨p1, p2, p3, hp, rfl⟩ (ownAt (h := o1)) (ownAt (h := o2)) (ownAt (h := o3))) ?_
  rintro r Γ' ⟨rfl, ⟨z, t, hz, hg, hpk, rfl⟩ | ⟨hg, rfl⟩⟩
  · obtain rfl := msg_inj hz
    (try dsimp only [List.cons_append, List.nil_append])
    repeat' (first | refine stp ?_|(refine v_spT ?_ ?_;omega)|(refine v_spF ?_ ?_;omega)|refine v_spD (fun hc=>?_) (fun hc=>?_)|refine v_alloc' (fun ba=>?_)|refine v_box (fun bb=>?_)|fail)
    · have hn : decP l = none := by
        cases hd : decP l with
        | none => rfl
        | some y' =>
          obtain rfl := hall y' hd
          exact absurd (packs_uniq hpk (hiff.1 hd).2) hc
      refine v_o2 Tryz.results11 (.inr ⟨hn, rfl, rfl⟩) ⟨_, inferInstance⟩
    · have ht := Decidable.not_not.1 hc
      rw [ht] at hpk
      refine v_o2 Tryz.results11 (.inl ⟨y, _, hiff.2 ⟨hg, hpk⟩, ⟨v1, s1, v2, s2, v3, s3, ⟨p1, p2, p3, hp, rfl⟩, o1, o2, o3, rfl⟩, rfl⟩) ⟨_, inferInstance⟩
  · (try dsimp only [List.cons_append, List.nil_append])
    repeat' (first | refine stp ?_|(refine v_spT ?_ ?_;omega)|(refine v_spF ?_ ?_;omega)|refine v_spD (fun hc=>?_) (fun hc=>?_)|refine v_alloc' (fun ba=>?_)|refine v_box (fun bb=>?_)|fail)
    have hn : decP l = none := by
      cases hd : decP l with
      | none => rfl
      | some y' =>
        obtain rfl := hall y' hd
        exact absurd (hiff.1 hd).1 hg
    refine v_o2 Tryz.results11 (.inr ⟨hn, rfl, rfl⟩) ⟨_, inferInstance⟩
/-! ### boxes -/
def bxs (m : MsgM) : List ApiBox := if m.Kind = 1 then m.Rekey.Items.map (·.Box) else if m.Kind = 3 then m.Reply.Path else []
theorem map_take1 {α β : Type} (f : α → β) {l : List α} {i : Nat} (h : i < l.length) : (l.take (i + 1)).map f = (l.take i).map f ++ [f l[i]] := by
  rw [List.take_succ_eq_append_getElem h, List.map_append]; rfl
structure BxG where
  i : Nat
  v : Value
  s : Hp
theorem boxes_s (m : MsgM) (v1 v2 v3 : Value) (s3 : Hp) (cs : Array Value) (hm : MsgC m v1 v2 v3 cs) (o3 : AtS v3 62 ApiItem 6 cvApiItem m.Rekey.Items s3) (hb : m.Rekey.Items.length < 1099511627776) :
    SX.Spec Tryz.prog 31 #[.agg cs] [s3] [] fun V Γ => ∃ s, OwnS V 30 ApiBox 4 cvApiBox (bxs m) s ∧ Γ = [s] := by
  obtain ⟨k, ⟨e, l1, l2, l3⟩, q1, q2, ⟨a, b, c, p⟩, ⟨f, u, t⟩⟩ := m
  obtain ⟨x, y, z, hp, rfl⟩ := hm
  dsimp only at hp o3 hb ⊢
  subst hp
  have hat : ∀ bb, AtS (.slice (some ⟨bb, 7 + 3, none⟩) 3 3) 30 ApiBox 4 cvApiBox [x, y, z] [(bb, .cells (msgC k e v1 v2 v3 q1 q2 a b c x y z f u t) 49 (0, 0))] := fun bb => AtS.off [x, y, z] (fun _ => rfl) rfl (by decide) (by decide) rfl
  refine spec_of1 Tryz.func31 Tryz.ntmps31 rfl rfl (fun M w0 => ?_)
  repeat' (first | refine stp ?_|(refine v_spT ?_ ?_;omega)|(refine v_spF ?_ ?_;omega)|refine v_spD (fun hc=>?_) (fun hc=>?_)|(refine v_yc ?_ ?_;omega)|refine v_alloc' (fun ba=>?_)|refine v_box (fun bb=>?_)|refine v_lit (fun bl=>?_)|(refine v_push ?_ (fun sv ss hs hln=>?_);omega)|(refine v_catN ?_ (fun sv ss hs=>?_);omega)|fail)
  · refine v_lp [3, 14] [12, 13] (fun g : BxG => [g.v, .int .i64 g.i]) (fun g => [g.s]) (fun g => g.i ≤ l3.length ∧ OwnS g.v 30 ApiBox 4 cvApiBox ((l3.take g.i).map (·.Box)) g.s) (fun g => l3.length - g.i) ⟨0, .slice none 0 0, []⟩ (fun _ => rfl) rfl inferInstance ⟨Nat.zero_le _, OwnS.nil⟩ ?_
    rintro ⟨i, v, s⟩ ⟨hi, hv⟩
    dsimp only at hi hv ⊢
    (try dsimp only [zipE_c, zipE_n, List.cons_append, List.nil_append])
    have hml : ((l3.take i).map (·.Box)).length = i := by rw [List.length_map, List.length_take]; omega
    rcases Nat.lt_or_ge i l3.length with hlt | hge
    · repeat' (first | refine stp ?_|(refine v_spT ?_ ?_;omega)|(refine v_spF ?_ ?_;omega)|refine v_spD (fun hc=>?_) (fun hc=>?_)|(refine v_yc ?_ ?_;omega)|refine v_alloc' (fun ba=>?_)|refine v_box (fun bb=>?_)|refine v_lit (fun bl=>?_)|(refine v_push ?_ (fun sv ss hs hln=>?_);omega)|(refine v_catN ?_ (fun sv ss hs=>?_);omega)|fail)
      have hs' : OwnS sv 30 ApiBox 4 cvApiBox ((l3.take i).map (·.Box) ++ [l3[i].Box]) ss := hs
      rw [← map_take1 (·.Box) hlt] at hs'
      exact v_again ⟨i + 1, sv, ss⟩ (by dsimp only; omega) rfl inferInstance ⟨hlt, hs'⟩
    · obtain rfl : i = l3.length := by omega
      rw [List.take_length] at hv
      repeat' (first | refine stp ?_|(refine v_spT ?_ ?_;omega)|(refine v_spF ?_ ?_;omega)|refine v_spD (fun hc=>?_) (fun hc=>?_)|(refine v_yc ?_ ?_;omega)|refine v_alloc' (fun ba=>?_)|refine v_box (fun bb=>?_)|refine v_lit (fun bl=>?_)|(refine v_push ?_ (fun sv ss hs hln=>?_);omega)|(refine v_catN ?_ (fun sv ss hs=>?_);omega)|fail)
      all_goals refine v_o1 Tryz.results31 ⟨s, by unfold bxs; dsimp only; rw [if_pos hc]; exact hv, rfl⟩ ⟨_, inferInstance⟩
  · rename_i h1
    have hat' := hat bb
    have h3 : [x, y, z].length = 3 := rfl
    repeat' (first | refine stp ?_|(refine v_spT ?_ ?_;omega)|(refine v_spF ?_ ?_;omega)|refine v_spD (fun hc=>?_) (fun hc=>?_)|(refine v_yc ?_ ?_;omega)|refine v_alloc' (fun ba=>?_)|refine v_box (fun bb=>?_)|refine v_lit (fun bl=>?_)|(refine v_push ?_ (fun sv ss hs hln=>?_);omega)|(refine v_catN ?_ (fun sv ss hs=>?_);omega)|fail)
    have hs' : OwnS sv 30 ApiBox 4 cvApiBox [x, y, z] ss := hs
    refine v_o1 Tryz.results31 ⟨ss, by unfold bxs; dsimp only; rw [if_neg h1, if_pos hc]; exact hs', rfl⟩ ⟨_, inferInstance⟩
  · rename_i h1
    refine v_o1 Tryz.results31 ⟨[], by unfold bxs; dsimp only; rw [if_neg h1, if_neg hc]; exact OwnS.nil, rfl⟩ ⟨_, inferInstance⟩
theorem rboxes_s (m : MsgM) (v1 v2 v3 : Value) (s3 : Hp) (cs : Array Value) (hm : MsgC m v1 v2 v3 cs) (o3 : AtS v3 62 ApiItem 6 cvApiItem m.Rekey.Items s3) (hb : m.Rekey.Items.length < 1099511627776) :
    SX.Spec Tryz.prog 52 #[.agg cs] [s3] [] fun V Γ => ∃ s, OwnS V 30 ApiBox 4 cvApiBox (bxs m) s ∧ Γ = [s] := by
  obtain ⟨k, ⟨e, l1, l2, l3⟩, q1, q2, ⟨a, b, c, p⟩, ⟨f, u, t⟩⟩ := m
  obtain ⟨x, y, z, hp, rfl⟩ := hm
  dsimp only at hp o3 hb ⊢
  subst hp
  have hat : ∀ bb, AtS (.slice (some ⟨bb, 7 + 3, none⟩) 3 3) 30 ApiBox 4 cvApiBox [x, y, z] [(bb, .cells (msgC k e v1 v2 v3 q1 q2 a b c x y z f u t) 49 (0, 0))] := fun bb => AtS.off [x, y, z] (fun _ => rfl) rfl (by decide) (by decide) rfl
  refine spec_of1 Tryz.func52 Tryz.ntmps52 rfl rfl (fun M w0 => ?_)
  repeat' (first | refine stp ?_|(refine v_spT ?_ ?_;omega)|(refine v_spF ?_ ?_;omega)|refine v_spD (fun hc=>?_) (fun hc=>?_)|(refine v_yc ?_ ?_;omega)|refine v_alloc' (fun ba=>?_)|refine v_box (fun bb=>?_)|refine v_lit (fun bl=>?_)|(refine v_push ?_ (fun sv ss hs hln=>?_);omega)|(refine v_catN ?_ (fun sv ss hs=>?_);omega)|fail)
  · refine v_lp [3, 13] [1, 11, 12] (fun g : BxG => [g.v, .int .i64 g.i]) (fun g => [g.s]) (fun g => g.i ≤ l3.length ∧ OwnS g.v 30 ApiBox 4 cvApiBox ((l3.take g.i).map (·.Box)) g.s) (fun g => l3.length - g.i) ⟨0, .slice none 0 0, []⟩ (fun _ => rfl) rfl inferInstance ⟨Nat.zero_le _, OwnS.nil⟩ ?_
    rintro ⟨i, v, s⟩ ⟨hi, hv⟩
    dsimp only at hi hv ⊢
    (try dsimp only [zipE_c, zipE_n, List.cons_append, List.nil_append])
    have hml : ((l3.take i).map (·.Box)).length = i := by rw [List.length_map, List.length_take]; omega
    rcases Nat.lt_or_ge i l3.length with hlt | hge
    · repeat' (first | refine stp ?_|(refine v_spT ?_ ?_;omega)|(refine v_spF ?_ ?_;omega)|refine v_spD (fun hc=>?_) (fun hc=>?_)|(refine v_yc ?_ ?_;omega)|refine v_alloc' (fun ba=>?_)|refine v_box (fun bb=>?_)|refine v_lit (fun bl=>?_)|(refine v_push ?_ (fun sv ss hs hln=>?_);omega)|(refine v_catN ?_ (fun sv ss hs=>?_);omega)|fail)
      have hs' : OwnS sv 30 ApiBox 4 cvApiBox ((l3.take i).map (·.Box) ++ [l3[i].Box]) ss := hs
      rw [← map_take1 (·.Box) hlt] at hs'
      exact v_again ⟨i + 1, sv, ss⟩ (by dsimp only; omega) rfl inferInstance ⟨hlt, hs'⟩
    · obtain rfl : i = l3.length := by omega
      rw [List.take_length] at hv
      repeat' (first | refine stp ?_|(refine v_spT ?_ ?_;omega)|(refine v_spF ?_ ?_;omega)|refine v_spD (fun hc=>?_) (fun hc=>?_)|(refine v_yc ?_ ?_;omega)|refine v_alloc' (fun ba=>?_)|refine v_box (fun bb=>?_)|refine v_lit (fun bl=>?_)|(refine v_push ?_ (fun sv ss hs hln=>?_);omega)|(refine v_catN ?_ (fun sv ss hs=>?_);omega)|fail)
      all_goals refine v_o1 Tryz.results52 ⟨s, by unfold bxs; dsimp only; rw [if_pos hc]; exact hv, rfl⟩ ⟨_, inferInstance⟩
  · rename_i h1
    have hat' := hat bb
    have h3 : [x, y, z].length = 3 := rfl
    repeat' (first | refine stp ?_|(refine v_spT ?_ ?_;omega)|(refine v_spF ?_ ?_;omega)|refine v_spD (fun hc=>?_) (fun hc=>?_)|(refine v_yc ?_ ?_;omega)|refine v_alloc' (fun ba=>?_)|refine v_box (fun bb=>?_)|refine v_lit (fun bl=>?_)|(refine v_push ?_ (fun sv ss hs hln=>?_);omega)|(refine v_catN ?_ (fun sv ss hs=>?_);omega)|fail)
    have hs' : OwnS sv 30 ApiBox 4 cvApiBox [x, y, z] ss := hs
    refine v_o1 Tryz.results52 ⟨ss, by unfold bxs; dsimp only; rw [if_neg h1, if_pos hc]; exact hs', rfl⟩ ⟨_, inferInstance⟩
  · rename_i h1
    refine v_o1 Tryz.results52 ⟨[], by unfold bxs; dsimp only; rw [if_neg h1, if_neg hc]; exact OwnS.nil, rfl⟩ ⟨_, inferInstance⟩
end Go.Proofs.YtdfoijfjlhjeaaaGreat

/- Contracts of know's functions. -/
namespace Go.Proofs.YtdfoijfjlhjeaaaGreat
open Go Go.SX Go.RowKit
set_option maxRecDepth 100000
set_option maxHeartbeats 0
set_option synthInstance.maxSize 100000
set_option synthInstance.maxHeartbeats 400000
abbrev vid (x : Value) : Value := x
instance vvtVid (u : Value) : Vvt vid u u := ⟨rfl⟩
/-- slices by keys, and where they lie -/
inductive Fam : List (Int × Value) → List (Int × List ApiBox) → Hp → Prop
  | nil : Fam [] [] []
  | cons {k : Int} {v : Value} {l : List ApiBox} {s : Hp} {m : List (Int × Value)} {L : List (Int × List ApiBox)} {t : Hp} : OwnS v 30 ApiBox 4 cvApiBox l s → Fam m L t → Fam ((k, v) :: m) ((k, l) :: L) (s ++ t)
abbrev nilS : Value := .slice none 0 0
theorem Fam.at {m : List (Int × Value)} {L : List (Int × List ApiBox)} {h : Hp} (H : Fam m L h) (k : Int) : ∃ s h', OwnS ((mget m k).getD nilS) 30 ApiBox 4 cvApiBox ((mget L k).getD []) s ∧ h.Perm (s ++ h') ∧
    ∀ v' l' s', OwnS v' 30 ApiBox 4 cvApiBox l' s' → ∃ h'', Fam (mput m k v') (mput L k l') h'' ∧ h''.Perm (s' ++ h') := by
  induction H with
  | nil => exact ⟨[], [], OwnS.nil, by simp, fun v' l' s' hs => ⟨s' ++ [], Fam.cons hs Fam.nil, by simp⟩⟩
  | @cons j v l s m L t ho hf ih =>
    by_cases e : k = j
    · subst e
      refine ⟨s, t, by simpa [mget] using ho, List.Perm.refl _, fun v' l' s' hs => ⟨s' ++ t, ?_, List.Perm.refl _⟩⟩
      simp only [mput, if_true]
      exact Fam.cons hs hf
    · obtain ⟨s1, h1, g1, g2, g3⟩ := ih
      refine ⟨s1, s ++ h1, by simpa [mget, e] using g1, ?_, fun v' l' s' hs => ?_⟩
      · refine (g2.append_left s).trans ?_
        rw [← List.append_assoc, ← List.append_assoc]
        exact List.perm_append_comm.append_right _
      · obtain ⟨h2, f2, p2⟩ := g3 v' l' s' hs
        refine ⟨s ++ h2, ?_, ?_⟩
        · simp only [mput, if_neg e]
          exact Fam.cons ho f2
        · refine (p2.append_left s).trans ?_
          rw [← List.append_assoc, ← List.append_assoc]
          exact List.perm_append_comm.append_right _
/-- what know holds -/
structure KnowM where
  least : List (Int × Int)
  boxes : List (ApiBox × Int)
  texts : List (ApiSealed × Int)
  shut : List (Int × List ApiBox)
def KnowA (bk : Nat) (K : KnowM) (Γ : List Hp) : Prop := ∃ b1 b2 b3 b4 s1 s2 s3 s4 sm sh, Γ = [[(bk, .cells #[.map (some b1), .map (some b2), .map (some b3), .map (some b4)] 93 (0, 0))], s1, s2, s3, s4, sh] ∧
  OwnM b1 Int Int ik ik K.least s1 ∧ OwnM b2 ApiBox Int avApiBox ik K.boxes s2 ∧ OwnM b3 ApiSealed Int avApiSealed ik K.texts s3 ∧ OwnM b4 Int Value ik vid sm s4 ∧ Fam sm K.shut sh
theorem knew_s : SX.Spec Tryz.prog 12 #[] [] [] fun v Γ => ∃ bk, v = .pointer (some ⟨bk, 0, none⟩) ∧ KnowA bk ⟨[], [], [], []⟩ Γ := by
  refine spec_of0 Tryz.func12 Tryz.ntmps12 rfl rfl (fun M w0 => ?_)
  repeat' (first | refine stp ?_|refine v_box (fun bb=>?_)|refine v_makeMap (fun bm=>?_)|fail)
  rename_i b1 b2 b3
  refine v_o1 Tryz.results12 ⟨_, rfl, b1, b2, b3, bm, _, _, _, _, [], [], rfl, ⟨MpAt.new _⟩, ⟨MpAt.new _⟩, ⟨MpAt.new _⟩, ⟨MpAt.new _⟩, Fam.nil⟩ ⟨_, inferInstance⟩
def KnowM.had (K : KnowM) (b s : Int) : Prop := Gd b s ∧ (32768 ≤ b ∨ ∃ t, mget K.least b = some t ∧ t ≤ s)
instance (K : KnowM) (b s : Int) : Decidable (K.had b s) := by
  unfold KnowM.had
  cases h : mget K.least b with
  | none => exact decidable_of_iff (Gd b s ∧ 32768 ≤ b) (by simp)
  | some t => exact decidable_of_iff (Gd b s ∧ (32768 ≤ b ∨ t ≤ s)) (by simp)
theorem has_s {bk : Nat} {K : KnowM} {Γ : List Hp} (h : KnowA bk K Γ) (b s : Int) : SX.Spec Tryz.prog 39 #[.pointer (some ⟨bk, 0, none⟩), kv b s] Γ [] fun v Γ' => Γ' = [] ∧ v = .bool (decide (K.had b s)) := by
  obtain ⟨b1, b2, b3, b4, s1, s2, s3, s4, sm, sh, rfl, h1, h2, h3, h4, h5⟩ := h
  refine spec_of2 Tryz.func39 Tryz.ntmps39 rfl rfl (fun M w0 => ?_)
  repeat' (first | refine stp ?_|refine v_spD (fun hc=>?_) (fun hc=>?_)|refine v_box (fun bb=>?_)|refine v_1lk (fun lv hlk=>?_) (fun hlk=>?_)|refine ⟨?_,?_,?_⟩|refine ⟨?_,?_⟩|refine v_drawn0 (id:=3) pl39_3 (by kernel_rfl) ?_|fail)
  · refine v_o1 Tryz.results39 ⟨rfl, bF (fun h => hc h.1)⟩ ⟨_, inferInstance⟩
  all_goals rename_i hg
  all_goals have hg := Decidable.not_not.1 hg
  all_goals refine v_o1 Tryz.results39 ⟨rfl, ?_⟩ ⟨_, inferInstance⟩
  · exact bT ⟨hg, .inl hc⟩
  · refine bD ?_
    simp [KnowM.had, hg, hc, hlk]
  · exact bT ⟨hg, .inl hc⟩
  · refine bF ?_
    simp [KnowM.had, hg, hc, hlk]
def opn (x : ApiKey) (W : List ApiBox) : List ApiKey := (W.filter fun b => decide (Gv x.Base x.Step b.Under.Base b.Under.Step)).map (·.Load)
def kep (x : ApiKey) (W : List ApiBox) : List ApiBox := W.filter fun b => !decide (Gv x.Base x.Step b.Under.Base b.Under.Step)
theorem opn_step (x : ApiKey) (W : List ApiBox) {i : Nat} (h : i < W.length) : opn x (W.take (i + 1)) = opn x (W.take i) ++ (if Gv x.Base x.Step W[i].Under.Base W[i].Under.Step then [W[i].Load] else []) := by
  unfold opn
  rw [List.take_add_one, List.filter_append, List.map_append, List.getElem?_eq_getElem h]
  by_cases hp : Gv x.Base x.Step W[i].Under.Base W[i].Under.Step <;> simp [hp]
theorem kep_step (x : ApiKey) (W : List ApiBox) {i : Nat} (h : i < W.length) : kep x (W.take (i + 1)) = kep x (W.take i) ++ (if Gv x.Base x.Step W[i].Under.Base W[i].Under.Step then [] else [W[i]]) := by
  unfold kep
  rw [List.take_add_one, List.filter_append, List.getElem?_eq_getElem h]
  by_cases hp : Gv x.Base x.Step W[i].Under.Base W[i].Under.Step <;> simp [hp]
theorem opn_kep (x : ApiKey) (W : List ApiBox) : (opn x W).length + (kep x W).length = W.length := by
  unfold opn kep
  induction W with
  | nil => rfl
  | cons b W ih => by_cases h : Gv x.Base x.Step b.Under.Base b.Under.Step <;> simp [h] at ih ⊢ <;> omega
/-- what is learned, at once -/
def KnowM.take (K : KnowM) (x : ApiKey) : KnowM := { K with least := mput K.least x.Base x.Step, shut := mput K.shut x.Base (kep x ((mget K.shut x.Base).getD [])) }
/-- what is opened by it -/
def KnowM.opened (K : KnowM) (x : ApiKey) : List ApiKey := opn x ((mget K.shut x.Base).getD [])
inductive LearnR : KnowM → List ApiKey → KnowM → Prop
  | done {K : KnowM} : LearnR K [] K
  | skip {K K' : KnowM} {x : ApiKey} {l : List ApiKey} : (Gd x.Base x.Step → K.had x.Base x.Step) → LearnR K l K' → LearnR K (x :: l) K'
  | take {K K' : KnowM} {x : ApiKey} {l : List ApiKey} : Gd x.Base x.Step → ¬ K.had x.Base x.Step → LearnR (K.take x) (l ++ K.opened x) K' → LearnR K (x :: l) K'
def tot (m : List (Int × List ApiBox)) : Nat := (m.map (·.2.length)).sum
theorem tot_mput (m : List (Int × List ApiBox)) (k : Int) (l : List ApiBox) : tot (mput m k l) + ((mget m k).getD []).length = tot m + l.length := by
  induction m with
  | nil => simp [tot, mput, mget]
  | cons p r ih =>
    obtain ⟨j, q⟩ := p
    by_cases e : k = j
    · subst e; simp [tot, mput, mget]; omega
    · simp only [tot, mput, mget, if_neg e, List.map_cons, List.sum_cons] at ih ⊢; omega
theorem tot_get (m : List (Int × List ApiBox)) (k : Int) : ((mget m k).getD []).length ≤ tot m := by
  induction m with
  | nil => simp [tot, mget]
  | cons p r ih =>
    obtain ⟨j, q⟩ := p
    by_cases e : k = j
    · subst e; simp [tot, mget]
    · simp only [tot, mget, if_neg e, List.map_cons, List.sum_cons] at ih ⊢; omega
structure LnG where
  x1 : Int
  x2 : Int
  tv : Value
  tl : List ApiKey
  ts : Hp
  K : KnowM
  s1 : Hp
  s4 : Hp
  sm : List (Int × Value)
  sh : Hp
structure LnOk (K0 : KnowM) (x0 : ApiKey) (b1 b4 : Nat) (g : LnG) : Prop where
  go : ∀ K', LearnR g.K g.tl K' → LearnR K0 [x0] K'
  bx : g.K.boxes = K0.boxes
  tx : g.K.texts = K0.texts
  ht : OwnS g.tv 28 ApiKey 2 cvApiKey g.tl g.ts
  h1 : OwnM b1 Int Int ik ik g.K.least g.s1
  h4 : OwnM b4 Int Value ik vid g.sm g.s4
  hf : Fam g.sm g.K.shut g.sh
  hm : tot g.K.shut + g.tl.length ≤ tot K0.shut + 1
structure InG where
  i : Nat
  tv : Value
  ts : Hp
  pv : Value
  ps : Hp
  s4 : Hp
structure InOk (sm : List (Int × Value)) (y : ApiKey) (tl : List ApiKey) (W : List ApiBox) (b4 : Nat) (g : InG) : Prop where
  le : g.i ≤ W.length
  ht : OwnS g.tv 28 ApiKey 2 cvApiKey (tl ++ opn y (W.take g.i)) g.ts
  hp : OwnS g.pv 30 ApiBox 4 cvApiBox (kep y (W.take g.i)) g.ps
  h4 : OwnM b4 Int Value ik vid (mput sm y.Base g.pv) g.s4
theorem learn_s {bk : Nat} {K : KnowM} {Γ : List Hp} (h : KnowA bk K Γ) (x : ApiKey) (hb : (tot K.shut + 3) * 32 ≤ 140737488355328) : SX.Spec Tryz.prog 15 #[.pointer (some ⟨bk, 0, none⟩), avApiKey x] [] Γ fun v Γ' => v = .tuple #[] ∧ ∃ K', LearnR K [x] K' ∧ KnowA bk K' Γ' := by
  obtain ⟨b1, b2, b3, b4, s1, s2, s3, s4, zm, sh, rfl, h1, h2, h3, h4, h5⟩ := h
  refine spec_of2 Tryz.func15 Tryz.ntmps15 rfl rfl (fun M w0 => ?_)
  repeat' (first | refine stp ?_|(refine v_spT ?_ ?_;omega)|(refine v_spF ?_ ?_;omega)|refine v_spD (fun hc=>?_) (fun hc=>?_)|(refine v_yc ?_ ?_;omega)|refine v_alloc' (fun ba=>?_)|refine v_box (fun bb=>?_)|refine v_lit (fun bl=>?_)|(refine v_push ?_ (fun sv ss hs hln=>?_);omega)|refine v_put (fun sm hm=>?_)|refine ⟨?_,?_,?_⟩|refine ⟨?_,?_⟩|(refine v_tyc ?_ ?_;omega)|refine v_tValT (by decide +kernel) ?_|(refine v_tsb ?_ (fun su (And.intro hs hln)=>?_);omega)|refine v_drawnK (id:=3) 5 pl15_3 (by kernel_rfl) ?_|refine v_drawnK (id:=5) 8 pl15_5 (by kernel_rfl) ?_|refine v_drawn0 (id:=6) pl15_6 (by kernel_rfl) ?_|refine v_drawnK (id:=7) 6 pl15_7 (by kernel_rfl) ?_|fail)
  have hl := OwnS.lit1 (e := 28) (b := bl) (cs := #[.int .i64 x.Base, .int .i64 x.Step]) (cv := cvApiKey) (sz := 2) x (fun _ => rfl) rfl
  refine v_lp [4] [0, 3] (fun g : LnG => [g.tv]) (fun g => [[(bb, .cells #[.int .i64 g.x1, .int .i64 g.x2] 28 (0, 0))], g.ts, g.s1, g.s4, g.sh]) (LnOk K x b1 b4) (fun g => tot g.K.shut + g.tl.length) ⟨x.Base, x.Step, _, [x], _, K, s1, s4, zm, sh⟩ (fun _ => rfl) rfl inferInstance
    ⟨fun _ h => h, rfl, rfl, hl, h1, h4, h5, by simp⟩ ?_
  clear h1 h4 h5 hl s1 s4 zm sh
  rintro ⟨x1, x2, tv, tl, ts, K1, s1, s4, zm, sh⟩ ⟨hgo, hbx, htx, ht, h1, h4, h5, hmm⟩
  dsimp only at hgo hbx htx ht h1 h4 h5 hmm ⊢
  rw [← hbx] at h2
  rw [← htx] at h3
  (try dsimp only [zipE_c, zipE_n, List.cons_append, List.nil_append])
  cases tl with
  | nil =>
    have hlc : ([] : List ApiKey).length = 0 := rfl
    repeat' (first | refine stp ?_|(refine v_spT ?_ ?_;omega)|(refine v_spF ?_ ?_;omega)|refine v_spD (fun hc=>?_) (fun hc=>?_)|(refine v_yc ?_ ?_;omega)|refine v_alloc' (fun ba=>?_)|refine v_box (fun bb=>?_)|refine v_lit (fun bl=>?_)|(refine v_push ?_ (fun sv ss hs hln=>?_);omega)|refine v_put (fun sm hm=>?_)|refine ⟨?_,?_,?_⟩|refine ⟨?_,?_⟩|(refine v_tyc ?_ ?_;omega)|refine v_tValT (by decide +kernel) ?_|(refine v_tsb ?_ (fun su (And.intro hs hln)=>?_);omega)|refine v_drawnK (id:=3) 5 pl15_3 (by kernel_rfl) ?_|refine v_drawnK (id:=5) 8 pl15_5 (by kernel_rfl) ?_|refine v_drawn0 (id:=6) pl15_6 (by kernel_rfl) ?_|refine v_drawnK (id:=7) 6 pl15_7 (by kernel_rfl) ?_|fail)
    refine v_o0 Tryz.results15 ⟨rfl, K1, hgo _ .done, b1, b2, b3, b4, s1, s2, s3, s4, zm, sh, rfl, h1, h2, h3, h4, h5⟩ ⟨_, inferInstance⟩
  | cons y tl =>
    simp only [List.length_cons] at hmm
    have hlc : (y :: tl).length = tl.length + 1 := rfl
    repeat' (first | refine stp ?_|(refine v_spT ?_ ?_;omega)|(refine v_spF ?_ ?_;omega)|refine v_spD (fun hc=>?_) (fun hc=>?_)|(refine v_yc ?_ ?_;omega)|refine v_alloc' (fun ba=>?_)|refine v_box (fun bb=>?_)|refine v_lit (fun bl=>?_)|(refine v_push ?_ (fun sv ss hs hln=>?_);omega)|refine v_put (fun sm hm=>?_)|refine ⟨?_,?_,?_⟩|refine ⟨?_,?_⟩|(refine v_tyc ?_ ?_;omega)|refine v_tValT (by decide +kernel) ?_|(refine v_tsb ?_ (fun su (And.intro hs hln)=>?_);omega)|refine v_drawnK (id:=3) 5 pl15_3 (by kernel_rfl) ?_|refine v_drawnK (id:=5) 8 pl15_5 (by kernel_rfl) ?_|refine v_drawn0 (id:=6) pl15_6 (by kernel_rfl) ?_|refine v_drawnK (id:=7) 6 pl15_7 (by kernel_rfl) ?_|fail)
    all_goals simp only [Int.toNat_zero, Int.toNat_one, List.getElem_cons_zero, List.drop_succ_cons, List.drop_zero] at hs hc ⊢
    · refine v_again ⟨y.Base, y.Step, su, tl, ts, K1, s1, s4, zm, sh⟩ (by dsimp only [List.length_cons]; omega) rfl inferInstance ⟨fun K' h => hgo _ (.skip (fun h' => absurd h' hc) h), hbx, htx, hs, h1, h4, h5, by dsimp only; omega⟩
    have hgd := Decidable.not_not.1 hc
    refine v_callR (has_s (K := K1) ⟨b1, b2, b3, b4, s1, s2, s3, s4, zm, sh, rfl, h1, h2, h3, h4, h5⟩ _ _) ?_
    rintro v Γ' ⟨rfl, rfl⟩
    (try dsimp only [List.cons_append, List.nil_append])
    obtain ⟨ws, h', hw, hp, hnew⟩ := h5.at y.Base
    clear hc hln ht
    repeat' (first | refine stp ?_|(refine v_spT ?_ ?_;omega)|(refine v_spF ?_ ?_;omega)|refine v_spD (fun hc=>?_) (fun hc=>?_)|(refine v_yc ?_ ?_;omega)|refine v_alloc' (fun ba=>?_)|refine v_box (fun bb=>?_)|refine v_lit (fun bl=>?_)|(refine v_push ?_ (fun sv ss hs hln=>?_);omega)|refine v_put (fun sm hm=>?_)|refine ⟨?_,?_,?_⟩|refine ⟨?_,?_⟩|(refine v_tyc ?_ ?_;omega)|refine v_tValT (by decide +kernel) ?_|(refine v_tsb ?_ (fun su (And.intro hs hln)=>?_);omega)|refine v_drawnK (id:=3) 5 pl15_3 (by kernel_rfl) ?_|refine v_drawnK (id:=5) 8 pl15_5 (by kernel_rfl) ?_|refine v_drawn0 (id:=6) pl15_6 (by kernel_rfl) ?_|refine v_drawnK (id:=7) 6 pl15_7 (by kernel_rfl) ?_|fail)
    · refine v_again ⟨y.Base, y.Step, su, tl, ts, K1, s1, s4, zm, sh⟩ (by dsimp only [List.length_cons]; omega) rfl inferInstance ⟨fun K' h => hgo _ (.skip (fun _ => hc) h), hbx, htx, hs, h1, h4, h5, by dsimp only; omega⟩
    rename_i sl hml
    have htot := tot_mput K1.shut y.Base (kep y ((mget K1.shut y.Base).getD []))
    have htg := tot_get K1.shut y.Base
    have hok := opn_kep y ((mget K1.shut y.Base).getD [])
    have htake : (K1.take y).shut = mput K1.shut y.Base (kep y ((mget K1.shut y.Base).getD [])) := rfl
    have hopd : K1.opened y = opn y ((mget K1.shut y.Base).getD []) := rfl
    have hgo2 := fun K' h => hgo K' (.take hgd hc h)
    generalize hW : (mget K1.shut y.Base).getD [] = W at *
    refine v_spl hp ?_
    refine v_lp [4, 49] [0, 3, 47, 48] (fun g : InG => [g.tv, .int .i64 g.i]) (fun g => [g.ts, g.ps, g.s4]) (InOk zm y tl W b4) (fun g => W.length - g.i) ⟨0, su, ts, nilS, [], _⟩ (fun _ => rfl) rfl inferInstance ⟨Nat.zero_le _, by simpa [opn] using hs, OwnS.nil, hm⟩ ?_
    clear hm
    rintro ⟨i, tv', ts', pv, ps, s4'⟩ ⟨hi, g1, g2, g3⟩
    dsimp only at hi g1 g2 g3 ⊢
    have hol := opn_kep y (W.take i)
    have htl : (W.take i).length = i := by rw [List.length_take]; omega
    have hal : (tl ++ opn y (W.take i)).length = tl.length + (opn y (W.take i)).length := by simp
    (try dsimp only [zipE_c, zipE_n, List.cons_append, List.nil_append])
    repeat' (first | refine stp ?_|(refine v_spT ?_ ?_;omega)|(refine v_spF ?_ ?_;omega)|refine v_spD (fun hc=>?_) (fun hc=>?_)|(refine v_yc ?_ ?_;omega)|refine v_alloc' (fun ba=>?_)|refine v_box (fun bb=>?_)|refine v_lit (fun bl=>?_)|(refine v_push ?_ (fun sv ss hs hln=>?_);omega)|refine v_put (fun sm hm=>?_)|refine ⟨?_,?_,?_⟩|refine ⟨?_,?_⟩|(refine v_tyc ?_ ?_;omega)|refine v_tValT (by decide +kernel) ?_|(refine v_tsb ?_ (fun su (And.intro hs hln)=>?_);omega)|refine v_drawnK (id:=3) 5 pl15_3 (by kernel_rfl) ?_|refine v_drawnK (id:=5) 8 pl15_5 (by kernel_rfl) ?_|refine v_drawn0 (id:=6) pl15_6 (by kernel_rfl) ?_|refine v_drawnK (id:=7) 6 pl15_7 (by kernel_rfl) ?_|fail)
    · refine v_again ⟨i + 1, sv, ss, pv, ps, s4'⟩ (by dsimp only; omega) rfl inferInstance ⟨by dsimp only; omega, ?_, ?_, g3⟩
      · rw [opn_step _ _ (by omega), if_pos hc, ← List.append_assoc]; exact hs
      · rw [kep_step _ _ (by omega), if_pos hc, List.append_nil]; exact g2
    · refine v_drawnE (id:=13) 16 plE15_13 [ps] (by kernel_rfl) ?_
      repeat' (first | refine stp ?_|(refine v_spT ?_ ?_;omega)|(refine v_spF ?_ ?_;omega)|refine v_spD (fun hc=>?_) (fun hc=>?_)|(refine v_yc ?_ ?_;omega)|refine v_alloc' (fun ba=>?_)|refine v_box (fun bb=>?_)|refine v_lit (fun bl=>?_)|(refine v_push ?_ (fun sv ss hs hln=>?_);omega)|refine v_put (fun sm hm=>?_)|refine ⟨?_,?_,?_⟩|refine ⟨?_,?_⟩|(refine v_tyc ?_ ?_;omega)|refine v_tValT (by decide +kernel) ?_|(refine v_tsb ?_ (fun su (And.intro hs hln)=>?_);omega)|refine v_drawnK (id:=3) 5 pl15_3 (by kernel_rfl) ?_|refine v_drawnK (id:=5) 8 pl15_5 (by kernel_rfl) ?_|refine v_drawn0 (id:=6) pl15_6 (by kernel_rfl) ?_|refine v_drawnK (id:=7) 6 pl15_7 (by kernel_rfl) ?_|fail)
      rw [mput_mput] at hm
      refine v_again ⟨i + 1, tv', ts', sv, ss, sm⟩ (by dsimp only; omega) rfl inferInstance ⟨by dsimp only; omega, ?_, ?_, hm⟩
      · rw [opn_step _ _ (by omega), if_neg hc, List.append_nil]; exact g1
      · rw [kep_step _ _ (by omega), if_neg hc]; exact hs
    · obtain rfl : i = W.length := by omega
      rw [List.take_of_length_le (Nat.le_refl _)] at g1 g2
      obtain ⟨h'', hfam, hperm⟩ := hnew pv _ ps g2
      refine v_jn hperm ?_
      refine v_again ⟨y.Base, y.Step, tv', tl ++ opn y W, ts', K1.take y, sl, s4', mput zm y.Base pv, h''⟩ ?_ rfl inferInstance ⟨?_, hbx, htx, g1, hml, g3, ?_, ?_⟩
      · dsimp only [List.length_cons]; rw [htake, List.length_append]; omega
      · dsimp only; rw [← hopd]; exact hgo2
      · dsimp only; rw [htake]; exact hfam
      · dsimp only; rw [htake, List.length_append]; omega
def KnowM.makes (K : KnowM) (b : ApiBox) : Prop := 0 < (mget K.boxes b).getD 0 ∨ K.had b.Under.Base b.Under.Step ∧ K.had b.Load.Base b.Load.Step
instance (K : KnowM) (b : ApiBox) : Decidable (K.makes b) := by unfold KnowM.makes; infer_instance
theorem makes_s {bk : Nat} {K : KnowM} {Γ : List Hp} (h : KnowA bk K Γ) (b : ApiBox) : SX.Spec Tryz.prog 37 #[.pointer (some ⟨bk, 0, none⟩), avApiBox b] Γ [] fun v Γ' => Γ' = [] ∧ v = .bool (decide (K.makes b)) := by
  have hh := has_s h
  obtain ⟨b1, b2, b3, b4, s1, s2, s3, s4, zm, sh, rfl, h1, h2, h3, h4, h5⟩ := h
  refine spec_of2 Tryz.func37 Tryz.ntmps37 rfl rfl (fun M w0 => ?_)
  repeat' (first | refine stp ?_|refine v_spD (fun hc=>?_) (fun hc=>?_)|refine v_box (fun bb=>?_)|refine ⟨?_,?_,?_⟩|refine ⟨?_,?_⟩|refine v_drawn0 (id:=1) pl37_1 (by kernel_rfl) ?_|fail)
  · refine v_o1 Tryz.results37 ⟨rfl, bT (.inl hc)⟩ ⟨_, inferInstance⟩
  have hc0 := hc
  clear hc
  refine v_callR (hh _ _) ?_
  rintro v Γ' ⟨rfl, rfl⟩
  (try dsimp only [List.cons_append, List.nil_append])
  repeat' (first | refine stp ?_|refine v_spD (fun hc=>?_) (fun hc=>?_)|refine v_box (fun bb=>?_)|refine ⟨?_,?_,?_⟩|refine ⟨?_,?_⟩|refine v_drawn0 (id:=1) pl37_1 (by kernel_rfl) ?_|fail)
  · refine v_callR (hh _ _) ?_
    rintro v Γ' ⟨rfl, rfl⟩
    (try dsimp only [List.cons_append, List.nil_append])
    repeat' (first | refine stp ?_|refine v_spD (fun hc=>?_) (fun hc=>?_)|refine v_box (fun bb=>?_)|refine ⟨?_,?_,?_⟩|refine ⟨?_,?_⟩|refine v_drawn0 (id:=1) pl37_1 (by kernel_rfl) ?_|fail)
    refine v_o1 Tryz.results37 ⟨rfl, ?_⟩ ⟨_, inferInstance⟩
    refine bD ?_
    unfold KnowM.makes
    simp [hc, hc0]
  · refine v_o1 Tryz.results37 ⟨rfl, ?_⟩ ⟨_, inferInstance⟩
    refine bF ?_
    unfold KnowM.makes
    simp [hc, hc0]
def KnowM.saw (K : KnowM) (b : ApiBox) : KnowM := { K with boxes := mput K.boxes b (wrap64 ((mget K.boxes b).getD 0 + 1)) }
def KnowM.lay (K : KnowM) (b : ApiBox) : KnowM := { K.saw b with shut := mput K.shut b.Under.Base ((mget K.shut b.Under.Base).getD [] ++ [b]) }
def SeeR (K : KnowM) (b : ApiBox) (K' : KnowM) : Prop :=
  if ¬ Gd b.Under.Base b.Under.Step ∨ ¬ Gd b.Load.Base b.Load.Step ∨ 0 < (mget K.boxes b).getD 0 then K' = K
  else if K.had b.Under.Base b.Under.Step then LearnR (K.saw b) [b.Load] K' else K' = K.lay b
theorem see_s {bk : Nat} {K : KnowM} {Γ : List Hp} (h : KnowA bk K Γ) (b : ApiBox) (hb : (tot K.shut + 4) * 32 ≤ 140737488355328) : SX.Spec Tryz.prog 32 #[.pointer (some ⟨bk, 0, none⟩), avApiBox b] [] Γ fun v Γ' => v = .tuple #[] ∧ ∃ K', SeeR K b K' ∧ KnowA bk K' Γ' := by
  obtain ⟨b1, b2, b3, b4, s1, s2, s3, s4, zm, sh, rfl, h1, h2, h3, h4, h5⟩ := h
  refine spec_of2 Tryz.func32 Tryz.ntmps32 rfl rfl (fun M w0 => ?_)
  repeat' (first | refine stp ?_|refine v_spD (fun hc=>?_) (fun hc=>?_)|refine v_box (fun bb=>?_)|refine v_lit (fun bl=>?_)|(refine v_push ?_ (fun sv ss hs hln=>?_);omega)|refine v_put (fun sm hm=>?_)|refine v_ment (fun st sm hm hst=>?_)|refine v_esto (fun sm hm=>?_)|refine ⟨?_,?_,?_⟩|refine ⟨?_,?_⟩|refine v_tValT (by decide +kernel) ?_|refine v_tyw ?_|refine v_drawn0 (id:=1) pl32_1 (by kernel_rfl) ?_|refine v_drawnK (id:=2) 7 pl32_2 (by kernel_rfl) ?_|fail)
  · refine v_o0 Tryz.results32 ⟨rfl, K, by unfold SeeR; rw [if_pos (.inl hc)], b1, b2, b3, b4, s1, s2, s3, s4, zm, sh, rfl, h1, h2, h3, h4, h5⟩ ⟨_, inferInstance⟩
  · refine v_o0 Tryz.results32 ⟨rfl, K, by unfold SeeR; rw [if_pos (.inr (.inl hc))], b1, b2, b3, b4, s1, s2, s3, s4, zm, sh, rfl, h1, h2, h3, h4, h5⟩ ⟨_, inferInstance⟩
  · refine v_o0 Tryz.results32 ⟨rfl, K, by unfold SeeR; rw [if_pos (.inr (.inr hc))], b1, b2, b3, b4, s1, s2, s3, s4, zm, sh, rfl, h1, h2, h3, h4, h5⟩ ⟨_, inferInstance⟩
  all_goals
    rw [mput_mput] at hm
    revert sm
    intro sx hx
    have hsee : ∀ K', (if K.had b.Under.Base b.Under.Step then LearnR (K.saw b) [b.Load] K' else K' = K.lay b) → SeeR K b K' := fun K' hk => by
      unfold SeeR
      rw [if_neg (fun h => h.elim (by assumption) fun h => h.elim (by assumption) hc)]
      exact hk
    refine v_callR (has_s (K := K.saw b) ⟨b1, b2, b3, b4, s1, sx, s3, s4, zm, sh, rfl, h1, hx, h3, h4, h5⟩ _ _) ?_
    rintro v Γ' ⟨rfl, rfl⟩
    (try dsimp only [List.cons_append, List.nil_append])
    obtain ⟨ws, h', hw, hp, hnew⟩ := h5.at b.Under.Base
    have htg := tot_get K.shut b.Under.Base
    clear hc
    repeat' (first | refine stp ?_|refine v_spD (fun hc=>?_) (fun hc=>?_)|refine v_box (fun bb=>?_)|refine v_lit (fun bl=>?_)|(refine v_push ?_ (fun sv ss hs hln=>?_);omega)|refine v_put (fun sm hm=>?_)|refine v_ment (fun st sm hm hst=>?_)|refine v_esto (fun sm hm=>?_)|refine ⟨?_,?_,?_⟩|refine ⟨?_,?_⟩|refine v_tValT (by decide +kernel) ?_|refine v_tyw ?_|refine v_drawn0 (id:=1) pl32_1 (by kernel_rfl) ?_|refine v_drawnK (id:=2) 7 pl32_2 (by kernel_rfl) ?_|fail)
    · refine v_callO (learn_s (K := K.saw b) ⟨b1, b2, b3, b4, s1, sx, s3, s4, zm, sh, rfl, h1, hx, h3, h4, h5⟩ b.Load (by simp only [KnowM.saw]; omega)) ?_
      rintro v Γ' ⟨rfl, K', hl, c1, c2, c3, c4, t1, t2, t3, t4, zm', sh', rfl, g1, g2, g3, g4, g5⟩
      (try dsimp only [List.cons_append, List.nil_append])
      repeat' (first | refine stp ?_|refine v_spD (fun hc=>?_) (fun hc=>?_)|refine v_box (fun bb=>?_)|refine v_lit (fun bl=>?_)|(refine v_push ?_ (fun sv ss hs hln=>?_);omega)|refine v_put (fun sm hm=>?_)|refine v_ment (fun st sm hm hst=>?_)|refine v_esto (fun sm hm=>?_)|refine ⟨?_,?_,?_⟩|refine ⟨?_,?_⟩|refine v_tValT (by decide +kernel) ?_|refine v_tyw ?_|refine v_drawn0 (id:=1) pl32_1 (by kernel_rfl) ?_|refine v_drawnK (id:=2) 7 pl32_2 (by kernel_rfl) ?_|fail)
      refine v_o0 Tryz.results32 ⟨rfl, K', hsee K' (by rw [if_pos (show K.had _ _ from hc)]; exact hl), c1, c2, c3, c4, t1, t2, t3, t4, zm', sh', rfl, g1, g2, g3, g4, g5⟩ ⟨_, inferInstance⟩
    · refine v_spl hp ?_
      refine v_drawnE (id:=5) 18 plE32_5 [ws] (by kernel_rfl) ?_
      repeat' (first | refine stp ?_|refine v_spD (fun hc=>?_) (fun hc=>?_)|refine v_box (fun bb=>?_)|refine v_lit (fun bl=>?_)|(refine v_push ?_ (fun sv ss hs hln=>?_);omega)|refine v_put (fun sm hm=>?_)|refine v_ment (fun st sm hm hst=>?_)|refine v_esto (fun sm hm=>?_)|refine ⟨?_,?_,?_⟩|refine ⟨?_,?_⟩|refine v_tValT (by decide +kernel) ?_|refine v_tyw ?_|refine v_drawn0 (id:=1) pl32_1 (by kernel_rfl) ?_|refine v_drawnK (id:=2) 7 pl32_2 (by kernel_rfl) ?_|fail)
      obtain ⟨h'', hfam, hperm⟩ := hnew sv _ ss hs
      refine v_jn hperm ?_
      refine v_o0 Tryz.results32 ⟨rfl, K.lay b, hsee _ (by rw [if_neg (show ¬ K.had _ _ from hc)]), b1, b2, b3, b4, _, sx, _, sm, _, h'', rfl, h1, hx, h3, hm, hfam⟩ ⟨_, inferInstance⟩
end Go.Proofs.YtdfoijfjlhjeaaaGreat

/- know: sealed texts (through wire.Good). -/
namespace Go.Proofs.YtdfoijfjlhjeaaaGreat
open Go Go.SX Go.RowKit
set_option maxRecDepth 100000
set_option maxHeartbeats 0
set_option synthInstance.maxSize 100000
set_option synthInstance.maxHeartbeats 400000
instance between_s (x lo hi : Int) : PC Tryz.prog 115 #[.int .i64 x, .int .i64 lo, .int .i64 hi] (.bool (decide (lo ≤ x ∧ x ≤ hi))) := ⟨by
  refine spec_of3 Tryz.func115 Tryz.ntmps115 rfl rfl (fun M w0 => ?_)
  repeat' (first | refine stp ?_|refine v_spD (fun hc=>?_) (fun hc=>?_)|fail)
  · refine v_out1 (Γk := []) Tryz.results115 ⟨bD (by omega), rfl⟩
  · refine v_out1 (Γk := []) Tryz.results115 ⟨bF (by omega), rfl⟩⟩
instance epoch_s (x : Int) : PC Tryz.prog 116 #[.int .i64 x] (.bool (decide (1 ≤ x ∧ x ≤ 200))) := ⟨by
  refine spec_of1 Tryz.func116 Tryz.ntmps116 rfl rfl (fun M w0 => ?_)
  repeat' (first | refine stp ?_|fail)
  refine v_out1 (Γk := []) Tryz.results116 ⟨rfl, rfl⟩⟩
instance empty0_s : PC Tryz.prog 114 #[.agg #[.int .i64 0, nilS, nilS, nilS]] (.bool true) := ⟨by
  refine spec_of1 Tryz.func114 Tryz.ntmps114 rfl rfl (fun M w0 => ?_)
  repeat' (first | refine stp ?_|(refine v_spT ?_ ?_;omega)|(refine v_yc ?_ ?_;omega)|refine v_box (fun bb=>?_)|fail)
  refine v_out1 (Γk := []) Tryz.results114 ⟨rfl, rfl⟩⟩
def GoodSl (s : ApiSealed) : Prop := (1 ≤ s.Epoch ∧ s.Epoch ≤ 200) ∧ Gd s.Under.Base s.Under.Step ∧ (s.Text.size : Int) ≤ 64
instance (s : ApiSealed) : Decidable (GoodSl s) := by unfold GoodSl; infer_instance
abbrev zI : Value := .int .i64 0
instance wireData_s (s : ApiSealed) : PC Tryz.prog 62 #[.agg #[.int .i64 4, zI, nilS, nilS, nilS, zI, zI, zI, zI, zI, zI, zI, zI, zI, zI, zI, zI, zI, zI, zI, zI, zI, .int .i64 s.Epoch, .int .i64 s.Under.Base, .int .i64 s.Under.Step, .string s.Text]] (.bool (decide (GoodSl s))) := ⟨by
  refine spec_of1 Tryz.func62 Tryz.ntmps62 rfl rfl (fun M w0 => ?_)
  repeat' (first | refine stp ?_|(refine v_spT ?_ ?_;omega)|(refine v_spF ?_ ?_;omega)|refine v_spD (fun hc=>?_) (fun hc=>?_)|(refine v_yc ?_ ?_;omega)|refine v_alloc' (fun ba=>?_)|refine v_box (fun bb=>?_)|refine ⟨?_,?_,?_⟩|refine ⟨?_,?_⟩|refine v_tValT (by decide +kernel) ?_|refine v_drawnK (id:=1) 18 pl62_1 (by kernel_rfl) ?_|fail)
  all_goals refine v_lp [30] [1, 29] (fun i : Int => [.int .i64 i]) (fun _ => []) (fun i => i = 0 ∨ i = 1 ∨ i = 2 ∨ i = 3 ∨ i = 4) (fun i => (4 - i).toNat) 0 (fun _ => rfl) rfl inferInstance (.inl rfl) ?_
  all_goals
    rintro i hi
    rcases hi with rfl | rfl | rfl | rfl | rfl
    all_goals (try dsimp only [zipE_c, zipE_n, List.cons_append, List.nil_append])
    all_goals repeat' (first | refine stp ?_|(refine v_spT ?_ ?_;omega)|(refine v_spF ?_ ?_;omega)|refine v_spD (fun hc=>?_) (fun hc=>?_)|(refine v_yc ?_ ?_;omega)|refine v_alloc' (fun ba=>?_)|refine v_box (fun bb=>?_)|refine ⟨?_,?_,?_⟩|refine ⟨?_,?_⟩|refine v_tValT (by decide +kernel) ?_|refine v_drawnK (id:=1) 18 pl62_1 (by kernel_rfl) ?_|fail)
    all_goals first | (refine v_again 1 (by decide) rfl inferInstance (by omega); done) | (refine v_again 2 (by decide) rfl inferInstance (by omega); done) | (refine v_again 3 (by decide) rfl inferInstance (by omega); done) | (refine v_again 4 (by decide) rfl inferInstance (by omega); done) | skip
  all_goals refine v_out1 (Γk := []) Tryz.results62 ⟨?_, rfl⟩
  all_goals first | (refine bF ?_; unfold GoodSl; exact fun h => hc h.1) | (refine bD ?_; unfold GoodSl; simp_all; done) | (refine bF ?_; unfold GoodSl; simp_all; done)⟩
instance rightSl_s (s : ApiSealed) : PC Tryz.prog 79 #[avApiSealed s] (.bool (decide (GoodSl s))) := ⟨by
  refine spec_of1 Tryz.func79 Tryz.ntmps79 rfl rfl (fun M w0 => ?_)
  repeat' (first | refine stp ?_|refine v_box (fun bb=>?_)|fail)
  refine v_out1 (Γk := []) Tryz.results79 ⟨rfl, rfl⟩⟩
def KnowM.read (K : KnowM) (s : ApiSealed) : KnowM := if GoodSl s then { K with texts := mput K.texts s (wrap64 ((mget K.texts s).getD 0 + 1)) } else K
theorem seeSealed_s {bk : Nat} {K : KnowM} {Γ : List Hp} (h : KnowA bk K Γ) (s : ApiSealed) : SX.Spec Tryz.prog 33 #[.pointer (some ⟨bk, 0, none⟩), avApiSealed s] [] Γ fun v Γ' => v = .tuple #[] ∧ KnowA bk (K.read s) Γ' := by
  obtain ⟨b1, b2, b3, b4, s1, s2, s3, s4, zm, sh, rfl, h1, h2, h3, h4, h5⟩ := h
  refine spec_of2 Tryz.func33 Tryz.ntmps33 rfl rfl (fun M w0 => ?_)
  repeat' (first | refine stp ?_|refine v_spD (fun hc=>?_) (fun hc=>?_)|refine v_box (fun bb=>?_)|refine v_ment (fun st sm hm hst=>?_)|refine v_esto (fun sm hm=>?_)|refine ⟨?_,?_,?_⟩|refine ⟨?_,?_⟩|refine v_tValT (by decide +kernel) ?_|refine v_tyw ?_|refine v_drawnK (id:=2) 7 pl33_2 (by kernel_rfl) ?_|fail)
  · rw [mput_mput] at hm
    refine v_o0 Tryz.results33 ⟨rfl, by unfold KnowM.read; rw [if_pos hc]; exact ⟨b1, b2, b3, b4, s1, s2, sm, s4, zm, sh, rfl, h1, h2, hm, h4, h5⟩⟩ ⟨_, inferInstance⟩
  · rw [mput_mput] at hm
    refine v_o0 Tryz.results33 ⟨rfl, by unfold KnowM.read; rw [if_pos hc]; exact ⟨b1, b2, b3, b4, s1, s2, sm, s4, zm, sh, rfl, h1, h2, hm, h4, h5⟩⟩ ⟨_, inferInstance⟩
  · refine v_o0 Tryz.results33 ⟨rfl, by unfold KnowM.read; rw [if_neg hc]; exact ⟨b1, b2, b3, b4, s1, s2, s3, s4, zm, sh, rfl, h1, h2, h3, h4, h5⟩⟩ ⟨_, inferInstance⟩
end Go.Proofs.YtdfoijfjlhjeaaaGreat

/- know: copies. -/
namespace Go.Proofs.YtdfoijfjlhjeaaaGreat
open Go Go.SX Go.RowKit
set_option maxRecDepth 100000
set_option maxHeartbeats 0
set_option synthInstance.maxSize 100000
set_option synthInstance.maxHeartbeats 400000
theorem mcloneI_s {b : Nat} {m : List (Int × Int)} {s : Hp} (h : OwnM b Int Int ik ik m s) : SX.Spec Tryz.prog 55 #[.map (some b)] [s] [] fun v Γ => ∃ b' s', v = .map (some b') ∧ OwnM b' Int Int ik ik m s' ∧ Γ = [s'] := by
  refine spec_of1 Tryz.func55 Tryz.ntmps55 rfl rfl (fun M w0 => ?_)
  repeat' (first | refine stp ?_|refine v_clone (fun bc sc hcl=>?_)|fail)
  refine v_o1 Tryz.results55 ⟨_, _, rfl, hcl, rfl⟩ ⟨_, inferInstance⟩
theorem mcloneB_s {b : Nat} {m : List (ApiBox × Int)} {s : Hp} (h : OwnM b ApiBox Int avApiBox ik m s) : SX.Spec Tryz.prog 56 #[.map (some b)] [s] [] fun v Γ => ∃ b' s', v = .map (some b') ∧ OwnM b' ApiBox Int avApiBox ik m s' ∧ Γ = [s'] := by
  refine spec_of1 Tryz.func56 Tryz.ntmps56 rfl rfl (fun M w0 => ?_)
  repeat' (first | refine stp ?_|refine v_clone (fun bc sc hcl=>?_)|fail)
  refine v_o1 Tryz.results56 ⟨_, _, rfl, hcl, rfl⟩ ⟨_, inferInstance⟩
theorem mcloneS_s {b : Nat} {m : List (ApiSealed × Int)} {s : Hp} (h : OwnM b ApiSealed Int avApiSealed ik m s) : SX.Spec Tryz.prog 57 #[.map (some b)] [s] [] fun v Γ => ∃ b' s', v = .map (some b') ∧ OwnM b' ApiSealed Int avApiSealed ik m s' ∧ Γ = [s'] := by
  refine spec_of1 Tryz.func57 Tryz.ntmps57 rfl rfl (fun M w0 => ?_)
  repeat' (first | refine stp ?_|refine v_clone (fun bc sc hcl=>?_)|fail)
  refine v_o1 Tryz.results57 ⟨_, _, rfl, hcl, rfl⟩ ⟨_, inferInstance⟩
theorem boxClone_s {sv : Value} {l : List ApiBox} {s : Hp} (h : OwnS sv 30 ApiBox 4 cvApiBox l s) (hb : l.length * 32 ≤ 140737488355328) : SX.Spec Tryz.prog 58 #[sv] [s] [] fun v Γ => ∃ s', OwnS v 30 ApiBox 4 cvApiBox l s' ∧ Γ = [s'] := by
  refine spec_of1 Tryz.func58 Tryz.ntmps58 rfl rfl (fun M w0 => ?_)
  repeat' (first | refine stp ?_|refine v_spB (fun hc=>?_) (fun hc=>?_)|refine v_lit (fun bl=>?_)|(refine v_cat0 ?_ (fun sv ss hs=>?_);omega)|fail)
  · obtain ⟨rfl, rfl⟩ := nilS_nil (v := sv) hc
    refine v_o1 Tryz.results58 ⟨[], OwnS.nil, rfl⟩ ⟨_, inferInstance⟩
  · refine v_o1 Tryz.results58 ⟨_, hs, rfl⟩ ⟨_, inferInstance⟩
theorem Fam.keys {m : List (Int × Value)} {L : List (Int × List ApiBox)} {h : Hp} (H : Fam m L h) : m.map (·.1) = L.map (·.1) := by
  induction H with
  | nil => rfl
  | cons _ _ ih => simp [ih]
theorem Fam.mem {m : List (Int × Value)} {L : List (Int × List ApiBox)} {h : Hp} (H : Fam m L h) (hn : (m.map (·.1)).Nodup) {k : Int} {v : Value} (hm : (k, v) ∈ m) : ∃ l s, mget L k = some l ∧ OwnS v 30 ApiBox 4 cvApiBox l s ∧ ∀ x ∈ s, x ∈ h := by
  induction H with
  | nil => simp at hm
  | @cons j u l s m L t ho hf ih =>
    simp only [List.map_cons, List.nodup_cons] at hn
    rcases List.mem_cons.1 hm with e | hm
    · obtain ⟨rfl, rfl⟩ := Prod.mk.inj e
      exact ⟨l, s, by simp [mget], ho, fun x hx => List.mem_append_left _ hx⟩
    · obtain ⟨l', s', g1, g2, g3⟩ := ih hn.2 hm
      have : ¬ k = j := fun e => hn.1 (e ▸ List.mem_map.2 ⟨_, hm, rfl⟩)
      exact ⟨l', s', by simp [mget, this, g1], g2, fun x hx => List.mem_append_right _ (g3 x hx)⟩
theorem mget_perm {α β : Type} [DecidableEq α] [DecidableEq β] {m m' : List (α × β)} (h1 : (m.map (·.1)).Nodup) (h2 : (m'.map (·.1)).Nodup) (h : ∀ k, mget m k = mget m' k) : m.Perm m' := by
  have nd : ∀ {l : List (α × β)}, (l.map (·.1)).Nodup → l.Nodup := fun hl => by
    refine (List.pairwise_map.1 hl).imp ?_
    intro a b hab e
    exact hab (by rw [e])
  refine (List.perm_ext_iff_of_nodup (nd h1) (nd h2)).2 fun p => ?_
  obtain ⟨k, v⟩ := p
  exact ⟨fun hp => mget_mem ((h k).symm.trans (mem_mget h1 hp)), fun hp => mget_mem ((h k).trans (mem_mget h2 hp))⟩
/-- the same, but for the order of what is shut -/
structure KnowM.like (K K' : KnowM) : Prop where
  least : K'.least = K.least
  boxes : K'.boxes = K.boxes
  texts : K'.texts = K.texts
  shut : ∀ k, mget K'.shut k = mget K.shut k
  tot : tot K'.shut = tot K.shut
structure CqG where
  bb : Nat
  c1 : Nat
  c2 : Nat
  c3 : Nat
  c4 : Nat
  t1 : Hp
  t2 : Hp
  t3 : Hp
structure CqOk (K : KnowM) (x : CqG) : Prop where
  g1 : OwnM x.c1 Int Int ik ik K.least x.t1
  g2 : OwnM x.c2 ApiBox Int avApiBox ik K.boxes x.t2
  g3 : OwnM x.c3 ApiSealed Int avApiSealed ik K.texts x.t3
structure CpG where
  left : List (Int × Value)
  ts : Hp
  nm : List (Int × Value)
  ns : Hp
  NL : List (Int × List ApiBox)
  nh : Hp
structure CpOk (K : KnowM) (ri b4 b4' : Nat) (zm : List (Int × Value)) (s4 : Hp) (g : CpG) : Prop where
  it : Itr ri b4 Int Value ik vid zm s4 g.left g.ts
  own : OwnM b4' Int Value ik vid g.nm g.ns
  fam : Fam g.nm g.NL g.nh
  cpy : ∀ k, mget g.NL k = if (mget g.left k).isSome then none else mget K.shut k
  nd : (g.left.map (·.1)).Nodup
theorem copy_s {bk : Nat} {K : KnowM} {Γ : List Hp} (h : KnowA bk K Γ) (hb : (tot K.shut + 3) * 32 ≤ 140737488355328) : SX.Spec Tryz.prog 22 #[.pointer (some ⟨bk, 0, none⟩)] Γ [] fun v Γ' => ∃ bk' K', v = .pointer (some ⟨bk', 0, none⟩) ∧ K.like K' ∧ KnowA bk' K' Γ' := by
  obtain ⟨b1, b2, b3, b4, s1, s2, s3, s4, zm, sh, rfl, h1, h2, h3, h4, h5⟩ := h
  have hnd : (zm.map (·.1)).Nodup := by obtain ⟨_, _, _, _, _, h, _⟩ := h4.out; exact h
  refine spec_of1 Tryz.func22 Tryz.ntmps22 rfl rfl (fun M w0 => ?_)
  have hstop1 := @stopR Tryz.prog 1
  repeat' (first | refine stp ?_|refine v_box (fun bb=>?_)|refine v_makeMap (fun bm=>?_)|refine v_put (fun sm hm=>?_)|refine v_rng (fun ri ti hit=>?_)|refine ⟨?_,?_,?_⟩|refine ⟨?_,?_⟩|refine v_tValT (by decide +kernel) ?_|refine v_drawn0 (id:=1) pl22_1 (by kernel_rfl) ?_|refine v_drawnK (id:=5) 7 pl22_5 (by kernel_rfl) ?_|fail)
  refine Stopped.go <| v_ctR 1 [3] [0] (fun x : CqG => [.pointer (some ⟨x.bb, 0, none⟩)]) (fun x => [[(x.bb, .cells #[.map (some x.c1), .map (some x.c2), .map (some x.c3), .map (some x.c4)] 93 (0, 0))], x.t1, x.t2, x.t3, [(x.c4, .map #[] 0)]]) (CqOk K) (fun _ => rfl) ?_ ?_
  · (try dsimp only [zipE_c, zipE_n, List.cons_append, List.nil_append])
    repeat' (first | refine stp ?_|refine v_box (fun bb=>?_)|refine v_makeMap (fun bm=>?_)|refine v_put (fun sm hm=>?_)|refine v_rng (fun ri ti hit=>?_)|refine ⟨?_,?_,?_⟩|refine ⟨?_,?_⟩|refine v_tValT (by decide +kernel) ?_|refine v_drawn0 (id:=1) pl22_1 (by kernel_rfl) ?_|refine v_drawnK (id:=5) 7 pl22_5 (by kernel_rfl) ?_|fail)
    all_goals try
      refine v_callR (mcloneI_s h1) ?_
      rintro v Γ' ⟨c1, t1, rfl, g1, rfl⟩
      (try dsimp only [List.cons_append, List.nil_append])
    repeat' (first | refine stp ?_|refine v_box (fun bb=>?_)|refine v_makeMap (fun bm=>?_)|refine v_put (fun sm hm=>?_)|refine v_rng (fun ri ti hit=>?_)|refine ⟨?_,?_,?_⟩|refine ⟨?_,?_⟩|refine v_tValT (by decide +kernel) ?_|refine v_drawn0 (id:=1) pl22_1 (by kernel_rfl) ?_|refine v_drawnK (id:=5) 7 pl22_5 (by kernel_rfl) ?_|fail)
    all_goals try
      refine v_callR (mcloneB_s h2) ?_
      rintro v Γ' ⟨c2, t2, rfl, g2, rfl⟩
      (try dsimp only [List.cons_append, List.nil_append])
    repeat' (first | refine stp ?_|refine v_box (fun bb=>?_)|refine v_makeMap (fun bm=>?_)|refine v_put (fun sm hm=>?_)|refine v_rng (fun ri ti hit=>?_)|refine ⟨?_,?_,?_⟩|refine ⟨?_,?_⟩|refine v_tValT (by decide +kernel) ?_|refine v_drawn0 (id:=1) pl22_1 (by kernel_rfl) ?_|refine v_drawnK (id:=5) 7 pl22_5 (by kernel_rfl) ?_|fail)
    all_goals try
      refine v_callR (mcloneS_s h3) ?_
      rintro v Γ' ⟨c3, t3, rfl, g3, rfl⟩
      (try dsimp only [List.cons_append, List.nil_append])
    repeat' (first | refine stp ?_|refine v_box (fun bb=>?_)|refine v_makeMap (fun bm=>?_)|refine v_put (fun sm hm=>?_)|refine v_rng (fun ri ti hit=>?_)|refine ⟨?_,?_,?_⟩|refine ⟨?_,?_⟩|refine v_tValT (by decide +kernel) ?_|refine v_drawn0 (id:=1) pl22_1 (by kernel_rfl) ?_|refine v_drawnK (id:=5) 7 pl22_5 (by kernel_rfl) ?_|fail)
    all_goals refine v_here ⟨bb, c1, c2, c3, bm, t1, t2, t3⟩ rfl inferInstance ⟨g1, g2, g3⟩
  rintro ⟨bb, c1, c2, c3, bm, t1, t2, t3⟩ ⟨g1, g2, g3⟩
  dsimp only at g1 g2 g3 ⊢
  (try dsimp only [zipE_c, zipE_n, List.cons_append, List.nil_append])
  repeat' (first | refine stp ?_|refine v_box (fun bb=>?_)|refine v_makeMap (fun bm=>?_)|refine v_put (fun sm hm=>?_)|refine v_rng (fun ri ti hit=>?_)|refine ⟨?_,?_,?_⟩|refine ⟨?_,?_⟩|refine v_tValT (by decide +kernel) ?_|refine v_drawn0 (id:=1) pl22_1 (by kernel_rfl) ?_|refine v_drawnK (id:=5) 7 pl22_5 (by kernel_rfl) ?_|fail)
  refine v_lp [] [3, 28] (fun _ : CpG => []) (fun g => [g.ts, g.ns, g.nh]) (CpOk K ri b4 bm zm s4) (fun g => g.left.length) ⟨zm, ti, [], [(bm, .map #[] 0)], [], []⟩ (fun _ => rfl) rfl inferInstance
    ⟨hit, ⟨MpAt.new _⟩, Fam.nil, fun k => ?_, hnd⟩ ?_
  · simp only [mget]
    cases hz : mget zm k with
    | some v => rfl
    | none =>
      have := mget_none.1 hz
      rw [h5.keys] at this
      simp [mget_none.2 this]
  rintro ⟨left, ts, nm, ns, NL, nh⟩ ⟨i1, i2, i3, i4, i5⟩
  dsimp only at i1 i2 i3 i4 i5 ⊢
  (try dsimp only [zipE_c, zipE_n, List.cons_append, List.nil_append])
  repeat' (first | refine stp ?_|refine v_box (fun bb=>?_)|refine v_makeMap (fun bm=>?_)|refine v_put (fun sm hm=>?_)|refine v_rng (fun ri ti hit=>?_)|refine ⟨?_,?_,?_⟩|refine ⟨?_,?_⟩|refine v_tValT (by decide +kernel) ?_|refine v_drawn0 (id:=1) pl22_1 (by kernel_rfl) ?_|refine v_drawnK (id:=5) 7 pl22_5 (by kernel_rfl) ?_|fail)
  refine v_nxt (fun hl => ?_) (fun k v ts hkl hkm hit2 hicu => ?_)
  · subst hl
    repeat' (first | refine stp ?_|refine v_box (fun bb=>?_)|refine v_makeMap (fun bm=>?_)|refine v_put (fun sm hm=>?_)|refine v_rng (fun ri ti hit=>?_)|refine ⟨?_,?_,?_⟩|refine ⟨?_,?_⟩|refine v_tValT (by decide +kernel) ?_|refine v_drawn0 (id:=1) pl22_1 (by kernel_rfl) ?_|refine v_drawnK (id:=5) 7 pl22_5 (by kernel_rfl) ?_|fail)
    have hnn : (nm.map (·.1)).Nodup := by obtain ⟨_, _, _, _, _, h, _⟩ := i2.out; exact h
    have heq : ∀ k, mget NL k = mget K.shut k := fun k => by rw [i4]; rfl
    refine v_o1 Tryz.results22 ⟨bb, ⟨K.least, K.boxes, K.texts, NL⟩, rfl, ⟨rfl, rfl, rfl, heq, ?_⟩, c1, c2, c3, bm, t1, t2, t3, ns, nm, nh, rfl, g1, g2, g3, i2, i3⟩ ⟨_, inferInstance⟩
    have := mget_perm (m := NL) (m' := K.shut) (by rw [← i3.keys]; exact hnn) (by rw [← h5.keys]; exact hnd) heq
    exact (this.map (·.2.length)).sum_nat
  · have hgl : mget left k = some v := mem_mget i5 hkl
    obtain ⟨l, s, hl, ho, hsub⟩ := h5.mem hnd hkm
    have hsg : SegIn s [[(bk, .cells #[.map (some b1), .map (some b2), .map (some b3), .map (some b4)] 93 (0, 0))], s1, s2, s3, s4, sh] := ⟨fun x hx => by simp [hsub x hx]⟩
    have htg := tot_get K.shut k
    rw [hl] at htg
    dsimp only [Option.getD_some] at htg
    repeat' (first | refine stp ?_|refine v_box (fun bb=>?_)|refine v_makeMap (fun bm=>?_)|refine v_put (fun sm hm=>?_)|refine v_rng (fun ri ti hit=>?_)|refine ⟨?_,?_,?_⟩|refine ⟨?_,?_⟩|refine v_tValT (by decide +kernel) ?_|refine v_drawn0 (id:=1) pl22_1 (by kernel_rfl) ?_|refine v_drawnK (id:=5) 7 pl22_5 (by kernel_rfl) ?_|fail)
    refine v_callR (boxClone_s ho (by omega)) ?_
    rintro v' Γ' ⟨s', ho', rfl⟩
    (try dsimp only [List.cons_append, List.nil_append])
    obtain ⟨s0, h', _, hp, hnew⟩ := i3.at k
    obtain ⟨h'', hfam, hperm⟩ := hnew v' l s' ho'
    repeat' (first | refine stp ?_|refine v_box (fun bb=>?_)|refine v_makeMap (fun bm=>?_)|refine v_put (fun sm hm=>?_)|refine v_rng (fun ri ti hit=>?_)|refine ⟨?_,?_,?_⟩|refine ⟨?_,?_⟩|refine v_tValT (by decide +kernel) ?_|refine v_drawn0 (id:=1) pl22_1 (by kernel_rfl) ?_|refine v_drawnK (id:=5) 7 pl22_5 (by kernel_rfl) ?_|fail)
    refine v_spl hp ?_
    refine v_jn hperm ?_
    refine v_again ⟨mdel left k, ts, mput nm k v', sm, mput NL k l, h''⟩ ?_ rfl inferInstance ⟨hit2, hm, hfam, fun j => ?_, mdel_nodup i5⟩
    · dsimp only
      obtain ⟨i, hi, he⟩ := List.getElem_of_mem hkl
      have hk' : (left.map (·.1))[i]? = some k := by rw [List.getElem?_map, List.getElem?_eq_getElem hi, he]; rfl
      rw [mdel_erase i5 hk', List.length_eraseIdx]
      simp [hi]; omega
    · dsimp only
      rw [mget_mput, mget_mdel]
      by_cases hj : j = k
      · subst hj; simp [hl]
      · simp only [if_neg hj]; exact i4 j
end Go.Proofs.YtdfoijfjlhjeaaaGreat

/- know, with its memory as one segment; the example; a call of a script. -/
namespace Go.Proofs.YtdfoijfjlhjeaaaGreat
open Go Go.SX Go.RowKit
set_option maxRecDepth 100000
set_option maxHeartbeats 0
set_option synthInstance.maxSize 100000
set_option synthInstance.maxHeartbeats 400000
def KnowS (bk : Nat) (K : KnowM) (s : Hp) : Prop := ∃ Γ, s = Γ.flatten ∧ KnowA bk K Γ
abbrev kptr (b : Nat) : Value := .pointer (some ⟨b, 0, none⟩)
abbrev KnowM.zero : KnowM := ⟨[], [], [], []⟩
theorem knewS : SX.Spec Tryz.prog 12 #[] [] [] fun v Γ => ∃ bk s, v = kptr bk ∧ Γ = [s] ∧ KnowS bk KnowM.zero s :=
  knew_s.out1.weak fun _ _ ⟨Γ0, e, bk, h1, h2⟩ => ⟨bk, _, h1, e, Γ0, rfl, h2⟩
theorem hasS {bk : Nat} {K : KnowM} {s : Hp} (h : KnowS bk K s) (x y : Int) : SX.Spec Tryz.prog 39 #[kptr bk, kv x y] [s] [] fun v Γ' => Γ' = [] ∧ v = .bool (decide (K.had x y)) := by
  obtain ⟨Γ, rfl, h⟩ := h
  exact (has_s h x y).rd
theorem makesS {bk : Nat} {K : KnowM} {s : Hp} (h : KnowS bk K s) (b : ApiBox) : SX.Spec Tryz.prog 37 #[kptr bk, avApiBox b] [s] [] fun v Γ' => Γ' = [] ∧ v = .bool (decide (K.makes b)) := by
  obtain ⟨Γ, rfl, h⟩ := h
  exact (makes_s h b).rd
theorem learnS {bk : Nat} {K : KnowM} {s : Hp} (h : KnowS bk K s) (x : ApiKey) (hb : (tot K.shut + 3) * 32 ≤ 140737488355328) : SX.Spec Tryz.prog 15 #[kptr bk, avApiKey x] [] [s] fun v Γ' => ∃ K' s', v = .tuple #[] ∧ Γ' = [s'] ∧ LearnR K [x] K' ∧ KnowS bk K' s' := by
  obtain ⟨Γ, rfl, h⟩ := h
  exact (learn_s h x hb).own.weak fun _ _ ⟨Γ0, e, h1, K', h2, h3⟩ => ⟨K', _, h1, e, h2, Γ0, rfl, h3⟩
theorem seeS {bk : Nat} {K : KnowM} {s : Hp} (h : KnowS bk K s) (b : ApiBox) (hb : (tot K.shut + 4) * 32 ≤ 140737488355328) : SX.Spec Tryz.prog 32 #[kptr bk, avApiBox b] [] [s] fun v Γ' => ∃ K' s', v = .tuple #[] ∧ Γ' = [s'] ∧ SeeR K b K' ∧ KnowS bk K' s' := by
  obtain ⟨Γ, rfl, h⟩ := h
  exact (see_s h b hb).own.weak fun _ _ ⟨Γ0, e, h1, K', h2, h3⟩ => ⟨K', _, h1, e, h2, Γ0, rfl, h3⟩
theorem seeSealedS {bk : Nat} {K : KnowM} {s : Hp} (h : KnowS bk K s) (t : ApiSealed) : SX.Spec Tryz.prog 33 #[kptr bk, avApiSealed t] [] [s] fun v Γ' => ∃ s', v = .tuple #[] ∧ Γ' = [s'] ∧ KnowS bk (K.read t) s' := by
  obtain ⟨Γ, rfl, h⟩ := h
  exact (seeSealed_s h t).own.weak fun _ _ ⟨Γ0, e, h1, h3⟩ => ⟨_, h1, e, Γ0, rfl, h3⟩
theorem copyS {bk : Nat} {K : KnowM} {s : Hp} (h : KnowS bk K s) (hb : (tot K.shut + 3) * 32 ≤ 140737488355328) : SX.Spec Tryz.prog 22 #[kptr bk] [s] [] fun v Γ' => ∃ bk' K' s', v = kptr bk' ∧ Γ' = [s'] ∧ K.like K' ∧ KnowS bk' K' s' := by
  obtain ⟨Γ, rfl, h⟩ := h
  exact (copy_s h hb).rd.out1.weak fun _ _ ⟨Γ0, e, bk', K', h1, h2, h3⟩ => ⟨bk', K', _, h1, e, h2, Γ0, rfl, h3⟩
theorem LearnR.one {K K' K'' : KnowM} {l : List ApiKey} (h : LearnR K l K') (h' : LearnR K l K'') : K' = K'' := by
  induction h with
  | done => cases h'; rfl
  | skip h1 _ ih => cases h' with
    | skip _ h2 => exact ih h2
    | take g1 g2 _ => exact absurd (h1 g1) g2
  | take g1 g2 _ ih => cases h' with
    | skip h1 _ => exact absurd (h1 g1) g2
    | take _ _ h2 => exact ih h2
theorem LearnR.tot {K K' : KnowM} {l : List ApiKey} (h : LearnR K l K') : tot K'.shut ≤ tot K.shut := by
  induction h with
  | done => exact Nat.le_refl _
  | skip _ _ ih => exact ih
  | @take K K' x l _ _ _ ih =>
    refine Nat.le_trans ih ?_
    have h1 := tot_mput K.shut x.Base (kep x ((mget K.shut x.Base).getD []))
    have h2 := opn_kep x ((mget K.shut x.Base).getD [])
    have e : (K.take x).shut = mput K.shut x.Base (kep x ((mget K.shut x.Base).getD [])) := rfl
    rw [e]; omega
theorem SeeR.tot {K K' : KnowM} {b : ApiBox} (h : SeeR K b K') : tot K'.shut ≤ tot K.shut + 1 := by
  unfold SeeR at h
  split at h
  · rw [h]; omega
  · split at h
    · have := h.tot
      exact Nat.le_trans this (Nat.le_succ _)
    · rw [h]
      have h1 := tot_mput K.shut b.Under.Base ((mget K.shut b.Under.Base).getD [] ++ [b])
      have e : (K.lay b).shut = mput K.shut b.Under.Base ((mget K.shut b.Under.Base).getD [] ++ [b]) := rfl
      rw [e]
      simp only [List.length_append, List.length_singleton] at h1
      omega
theorem KnowM.read_shut (K : KnowM) (t : ApiSealed) : (K.read t).shut = K.shut := by unfold KnowM.read; split <;> rfl
/-- of the example -/
theorem livesLearn {K : KnowM} (h : LearnR (KnowM.zero.lay ⟨⟨6, 1⟩, ⟨7, 0⟩⟩) [⟨6, 0⟩] K) : K.had 7 3 ∧ ¬ K.had 8 0 := by
  have h' : LearnR (KnowM.zero.lay ⟨⟨6, 1⟩, ⟨7, 0⟩⟩) [⟨6, 0⟩] ⟨[(6, 0), (7, 0)], [(⟨⟨6, 1⟩, ⟨7, 0⟩⟩, 1)], [], [(6, []), (7, [])]⟩ := by
    refine .take (by unfold Gd; decide) (by simp [KnowM.had, KnowM.lay, KnowM.saw, mget]) ?_
    have e1 : (KnowM.zero.lay ⟨⟨6, 1⟩, ⟨7, 0⟩⟩).take ⟨6, 0⟩ = ⟨[(6, 0)], [(⟨⟨6, 1⟩, ⟨7, 0⟩⟩, 1)], [], [(6, [])]⟩ := by
      simp [KnowM.take, KnowM.lay, KnowM.saw, mget, mput, kep, Gv, Gd, wrap64]
    have e2 : (KnowM.zero.lay ⟨⟨6, 1⟩, ⟨7, 0⟩⟩).opened ⟨6, 0⟩ = [⟨7, 0⟩] := by
      simp [KnowM.opened, KnowM.lay, KnowM.saw, mget, mput, opn, Gv, Gd]
    rw [e1, e2]
    refine .take (by unfold Gd; decide) (by simp [KnowM.had, mget]) ?_
    have e3 : KnowM.take ⟨[(6, 0)], [(⟨⟨6, 1⟩, ⟨7, 0⟩⟩, 1)], [], [(6, [])]⟩ ⟨7, 0⟩ = ⟨[(6, 0), (7, 0)], [(⟨⟨6, 1⟩, ⟨7, 0⟩⟩, 1)], [], [(6, []), (7, [])]⟩ := by
      simp [KnowM.take, mget, mput, kep]
    have e4 : KnowM.opened ⟨[(6, 0)], [(⟨⟨6, 1⟩, ⟨7, 0⟩⟩, 1)], [], [(6, [])]⟩ ⟨7, 0⟩ = [] := by
      simp [KnowM.opened, mget, opn]
    rw [e3, e4]
    exact .done
  rw [h.one h']
  exact ⟨by simp [KnowM.had, mget, Gd], by simp [KnowM.had, mget, Gd]⟩
theorem livesSee {K : KnowM} (h : SeeR KnowM.zero ⟨⟨6, 1⟩, ⟨7, 0⟩⟩ K) : K = KnowM.zero.lay ⟨⟨6, 1⟩, ⟨7, 0⟩⟩ := by
  unfold SeeR at h
  simpa [Gd, mget, KnowM.had] using h
end Go.Proofs.YtdfoijfjlhjeaaaGreat

/- know: what is had is what follows from what was told and seen (plain law). -/
namespace Go.Proofs.YtdfoijfjlhjeaaaGreat
open Go Go.SX Go.RowKit
set_option linter.unusedSimpArgs false
/-- what follows -/
inductive Cl (told : List ApiKey) (boxes : List ApiBox) : Int → Int → Prop
  | own {a s : Int} : Gd a s → 32768 ≤ a → Cl told boxes a s
  | told {a s : Int} {x : ApiKey} : x ∈ told → x.Base = a → x.Step ≤ s → Gd a s → Cl told boxes a s
  | opens {a s : Int} {b : ApiBox} : b ∈ boxes → Cl told boxes b.Under.Base b.Under.Step → b.Load.Base = a → b.Load.Step ≤ s → Gd a s → Cl told boxes a s
theorem Cl.gd {told : List ApiKey} {boxes : List ApiBox} {a s : Int} (h : Cl told boxes a s) : Gd a s := by cases h <;> assumption
theorem Cl.up {told : List ApiKey} {boxes : List ApiBox} {a s s' : Int} (h : Cl told boxes a s) (h1 : s ≤ s') (h2 : s' ≤ 255) : Cl told boxes a s' := by
  have hg : Gd a s' := by have := h.gd; unfold Gd at this ⊢; omega
  cases h with
  | own _ h => exact .own hg h
  | told hx e hs _ => exact .told hx e (by omega) hg
  | opens hb hu e hs _ => exact .opens hb hu e (by omega) hg
theorem Cl.mono {told told' : List ApiKey} {boxes boxes' : List ApiBox} (h1 : ∀ x ∈ told, x ∈ told') (h2 : ∀ b ∈ boxes, b ∈ boxes') {a s : Int} (h : Cl told boxes a s) : Cl told' boxes' a s := by
  induction h with
  | own g h => exact .own g h
  | told hx e hs g => exact .told (h1 _ hx) e hs g
  | opens hb _ e hs g ih => exact .opens (h2 _ hb) ih e hs g
def KnowM.sh (K : KnowM) (k : Int) : List ApiBox := (mget K.shut k).getD []
/-- the state of the work, with what is still to be learned -/
structure Wk (told : List ApiKey) (boxes : List ApiBox) (K : KnowM) (todo : List ApiKey) : Prop where
  lo : ∀ a t, mget K.least a = some t → a < 32768 ∧ Cl told boxes a t
  td : ∀ x ∈ todo, Gd x.Base x.Step → Cl told boxes x.Base x.Step
  sh : ∀ k, ∀ b ∈ K.sh k, b ∈ boxes ∧ b.Under.Base = k ∧ ¬ K.had b.Under.Base b.Under.Step
  bx : ∀ b ∈ boxes, K.had b.Load.Base b.Load.Step ∨ b.Load ∈ todo ∨ b ∈ K.sh b.Under.Base
  tl : ∀ x ∈ told, K.had x.Base x.Step ∨ x ∈ todo
  gb : ∀ b ∈ boxes, Gd b.Under.Base b.Under.Step ∧ Gd b.Load.Base b.Load.Step
  gt : ∀ x ∈ told, Gd x.Base x.Step
theorem Wk.sound {told : List ApiKey} {boxes : List ApiBox} {K : KnowM} {todo : List ApiKey} (h : Wk told boxes K todo) {a s : Int} (hh : K.had a s) : Cl told boxes a s := by
  obtain ⟨g, h1 | ⟨t, h1, h2⟩⟩ := hh
  · exact .own g h1
  · exact (h.lo a t h1).2.up h2 g.2.2.2
theorem Wk.skip {told : List ApiKey} {boxes : List ApiBox} {K : KnowM} {x : ApiKey} {l : List ApiKey} (h : Wk told boxes K (x :: l)) (hx : Gd x.Base x.Step → K.had x.Base x.Step) : Wk told boxes K l := ⟨h.lo, fun y hy => h.td y (List.mem_cons_of_mem _ hy), h.sh, fun b hb => by
  rcases h.bx b hb with h' | h' | h'
  · exact .inl h'
  · rcases List.mem_cons.1 h' with e | h'
    · exact .inl (e ▸ hx (e ▸ (h.gb b hb).2))
    · exact .inr (.inl h')
  · exact .inr (.inr h'), fun y hy => by
  rcases h.tl y hy with h' | h'
  · exact .inl h'
  · rcases List.mem_cons.1 h' with e | h'
    · exact .inl (e ▸ hx (e ▸ h.gt y hy))
    · exact .inr h', h.gb, h.gt⟩
theorem had_take {K : KnowM} {x : ApiKey} (hg : Gd x.Base x.Step) (hn : ¬ K.had x.Base x.Step) (a s : Int) : (K.take x).had a s ↔ K.had a s ∨ (a = x.Base ∧ x.Step ≤ s ∧ Gd a s) := by
  have hlo : x.Base < 32768 := by
    rcases Int.lt_or_le x.Base 32768 with h | h
    · exact h
    · exact absurd ⟨hg, .inl h⟩ hn
  have e : (K.take x).least = mput K.least x.Base x.Step := rfl
  unfold KnowM.had
  rw [e, mget_mput]
  by_cases ha : a = x.Base
  · subst ha
    simp only [if_true]
    constructor
    · rintro ⟨g, h | ⟨t, h1, h2⟩⟩
      · omega
      · simp at h1; subst h1; exact .inr ⟨trivial, h2, g⟩
    · rintro (⟨g, h | ⟨t, h1, h2⟩⟩ | ⟨_, h2, g⟩)
      · omega
      · refine ⟨g, .inr ⟨x.Step, rfl, ?_⟩⟩
        rcases Int.lt_or_le x.Step t with h | h
        · omega
        · exact absurd ⟨hg, .inr ⟨t, h1, h⟩⟩ hn
      · exact ⟨g, .inr ⟨x.Step, rfl, h2⟩⟩
  · simp only [if_neg ha]
    constructor
    · exact fun h => .inl h
    · rintro (h | ⟨h, _⟩)
      · exact h
      · exact absurd h ha
theorem Wk.take {told : List ApiKey} {boxes : List ApiBox} {K : KnowM} {x : ApiKey} {l : List ApiKey} (h : Wk told boxes K (x :: l)) (hg : Gd x.Base x.Step) (hn : ¬ K.had x.Base x.Step) : Wk told boxes (K.take x) (l ++ K.opened x) := by
  have hx : Cl told boxes x.Base x.Step := h.td x (List.mem_cons_self ..) hg
  have hlo : x.Base < 32768 := by
    rcases Int.lt_or_le x.Base 32768 with h | h
    · exact h
    · exact absurd ⟨hg, .inl h⟩ hn
  have ht := had_take hg hn
  have hxh : (K.take x).had x.Base x.Step := (ht _ _).2 (.inr ⟨rfl, Int.le_refl _, hg⟩)
  have hsh : ∀ k, (K.take x).sh k = if k = x.Base then kep x (K.sh x.Base) else K.sh k := fun k => by
    show (mget (mput K.shut x.Base (kep x ((mget K.shut x.Base).getD []))) k).getD [] = _
    rw [mget_mput]
    split
    · rfl
    · rfl
  refine ⟨fun a t hat => ?_, fun y hy hy2 => ?_, fun k b hb => ?_, fun b hb => ?_, fun y hy => ?_, h.gb, h.gt⟩
  · have hat' : mget (mput K.least x.Base x.Step) a = some t := hat
    rw [mget_mput] at hat'
    split at hat'
    · rename_i e; subst e; simp at hat'; subst hat'; exact ⟨hlo, hx⟩
    · exact h.lo a t hat'
  · rcases List.mem_append.1 hy with hy | hy
    · exact h.td y (List.mem_cons_of_mem _ hy) hy2
    · obtain ⟨b, hb, rfl⟩ := List.mem_map.1 hy
      obtain ⟨hb1, hb2⟩ := List.mem_filter.1 hb
      obtain ⟨g1, g2, _⟩ := h.sh x.Base b hb1
      have hgv := gv.1 (of_decide_eq_true hb2)
      exact .opens g1 (by rw [g2]; exact hx.up hgv.2.2.2 hgv.2.1.2.2.2) rfl (Int.le_refl _) hy2
  · rw [hsh] at hb
    split at hb
    · rename_i e; subst e
      obtain ⟨hb1, hb2⟩ := List.mem_filter.1 hb
      obtain ⟨g1, g2, g3⟩ := h.sh x.Base b hb1
      refine ⟨g1, g2, fun hh => ?_⟩
      rcases (ht _ _).1 hh with hh | ⟨_, h2, h3⟩
      · exact g3 hh
      · simp at hb2
        exact hb2 (gv.2 ⟨hg, h3, g2.symm, h2⟩)
    · rename_i e
      obtain ⟨g1, g2, g3⟩ := h.sh k b hb
      refine ⟨g1, g2, fun hh => ?_⟩
      rcases (ht _ _).1 hh with hh | ⟨h1, _⟩
      · exact g3 hh
      · exact e (g2 ▸ h1)
  · rcases h.bx b hb with h' | h' | h'
    · exact .inl ((ht _ _).2 (.inl h'))
    · rcases List.mem_cons.1 h' with e | h'
      · exact .inl (e ▸ hxh)
      · exact .inr (.inl (List.mem_append_left _ h'))
    · by_cases e : b.Under.Base = x.Base
      · rw [e] at h'
        by_cases hgv : Gv x.Base x.Step b.Under.Base b.Under.Step
        · refine .inr (.inl (List.mem_append_right _ (List.mem_map.2 ⟨b, List.mem_filter.2 ⟨h', by simpa using hgv⟩, rfl⟩)))
        · refine .inr (.inr ?_)
          rw [hsh, if_pos e]
          exact List.mem_filter.2 ⟨h', by simpa using hgv⟩
      · refine .inr (.inr ?_)
        rw [hsh, if_neg e]
        exact h'
  · rcases h.tl y hy with h' | h'
    · exact .inl ((ht _ _).2 (.inl h'))
    · rcases List.mem_cons.1 h' with e | h'
      · exact .inl (e ▸ hxh)
      · exact .inr (List.mem_append_left _ h')
theorem Wk.learn {told : List ApiKey} {boxes : List ApiBox} {K K' : KnowM} {l : List ApiKey} (h : LearnR K l K') (hw : Wk told boxes K l) : Wk told boxes K' [] := by
  induction h with
  | done => exact hw
  | skip h1 _ ih => exact ih (hw.skip h1)
  | take h1 h2 _ ih => exact ih (hw.take h1 h2)
/-- .. when all is done: just what follows is had -/
theorem Wk.iff {told : List ApiKey} {boxes : List ApiBox} {K : KnowM} (h : Wk told boxes K []) (a s : Int) : K.had a s ↔ Cl told boxes a s := by
  refine ⟨h.sound, fun hc => ?_⟩
  induction hc with
  | own g h => exact ⟨g, .inl h⟩
  | told hx e hs g =>
    rcases h.tl _ hx with h' | h'
    · obtain ⟨_, h1 | ⟨t, h1, h2⟩⟩ := h'
      · exact ⟨g, .inl (e ▸ h1)⟩
      · exact ⟨g, .inr ⟨t, e ▸ h1, by omega⟩⟩
    · cases h'
  | @opens a s b hb hu e hs g ih =>
    rcases h.bx _ hb with h' | h' | h'
    · obtain ⟨_, h1 | ⟨t, h1, h2⟩⟩ := h'
      · exact ⟨g, .inl (e ▸ h1)⟩
      · exact ⟨g, .inr ⟨t, e ▸ h1, by omega⟩⟩
    · cases h'
    · exact absurd ih (h.sh _ _ h').2.2
/-- the program's state, and what was told and seen -/
structure Kin (told : List ApiKey) (boxes : List ApiBox) (texts : List ApiSealed) (n : Nat) (K : KnowM) : Prop where
  w : Wk told boxes K []
  bx : ∀ b, 0 < (mget K.boxes b).getD 0 ↔ b ∈ boxes
  b1 : ∀ b c, mget K.boxes b = some c → c = 1
  tx : ∀ t, 0 < (mget K.texts t).getD 0 ↔ t ∈ texts
  t1 : ∀ t c, mget K.texts t = some c → 1 ≤ c ∧ c ≤ n
  tg : ∀ t ∈ texts, GoodSl t
theorem Kin.zero : Kin [] [] [] 0 KnowM.zero := ⟨⟨by simp [mget], by simp, by simp [KnowM.sh, mget], by simp, by simp, by simp, by simp⟩, by simp [mget], by simp [mget], by simp [mget], by simp [mget], by simp⟩
theorem LearnR.rest {K K' : KnowM} {l : List ApiKey} (h : LearnR K l K') : K'.boxes = K.boxes ∧ K'.texts = K.texts := by
  induction h with
  | done => exact ⟨rfl, rfl⟩
  | skip _ _ ih => exact ih
  | take _ _ _ ih => exact ih
theorem Kin.le {told : List ApiKey} {boxes : List ApiBox} {texts : List ApiSealed} {n m : Nat} {K : KnowM} (h : Kin told boxes texts n K) (hm : n ≤ m) : Kin told boxes texts m K := ⟨h.w, h.bx, h.b1, h.tx, fun t c hc => ⟨(h.t1 t c hc).1, by have := (h.t1 t c hc).2; omega⟩, h.tg⟩
/-- a key told -/
def tellKey (told : List ApiKey) (x : ApiKey) : List ApiKey := if Gd x.Base x.Step ∧ x ∉ told then told ++ [x] else told
theorem mem_tellKey {told : List ApiKey} {x y : ApiKey} : y ∈ tellKey told x ↔ y ∈ told ∨ (y = x ∧ Gd x.Base x.Step) := by
  unfold tellKey
  split
  · rename_i h; simp [h.1]
  · rename_i h
    constructor
    · exact .inl
    · rintro (h' | ⟨rfl, g⟩)
      · exact h'
      · exact Classical.byContradiction fun hc => h ⟨g, hc⟩
theorem Kin.learn {told : List ApiKey} {boxes : List ApiBox} {texts : List ApiSealed} {n : Nat} {K K' : KnowM} {x : ApiKey} (h : Kin told boxes texts n K) (hl : LearnR K [x] K') : Kin (tellKey told x) boxes texts n K' := by
  obtain ⟨e1, e2⟩ := hl.rest
  have hm : ∀ y ∈ told, y ∈ tellKey told x := fun y hy => mem_tellKey.2 (.inl hy)
  refine ⟨Wk.learn hl ⟨fun a t ht => ⟨(h.w.lo a t ht).1, (h.w.lo a t ht).2.mono hm (fun _ h => h)⟩, fun y hy g => ?_, h.w.sh, fun b hb => (h.w.bx b hb).imp id (Or.imp (fun h => by cases h) id), fun y hy => ?_, h.w.gb, fun y hy => ?_⟩, by rw [e1]; exact h.bx, by rw [e1]; exact h.b1, by rw [e2]; exact h.tx, by rw [e2]; exact h.t1, h.tg⟩
  · simp only [List.mem_singleton] at hy; subst hy
    exact .told (mem_tellKey.2 (.inr ⟨rfl, g⟩)) rfl (Int.le_refl _) g
  · rcases mem_tellKey.1 hy with hy | ⟨rfl, _⟩
    · exact .inl ((h.w.tl y hy).resolve_right (by simp))
    · exact .inr (List.mem_singleton_self _)
  · rcases mem_tellKey.1 hy with hy | ⟨rfl, g⟩
    · exact h.w.gt y hy
    · exact g
/-- a box seen -/
def tellBox (boxes : List ApiBox) (b : ApiBox) : List ApiBox := if (Gd b.Under.Base b.Under.Step ∧ Gd b.Load.Base b.Load.Step) ∧ b ∉ boxes then boxes ++ [b] else boxes
theorem Kin.see {told : List ApiKey} {boxes : List ApiBox} {texts : List ApiSealed} {n : Nat} {K K' : KnowM} {b : ApiBox} (h : Kin told boxes texts n K) (hl : SeeR K b K') : Kin told (tellBox boxes b) texts n K' := by
  unfold SeeR at hl
  split at hl
  · rename_i hn
    have : tellBox boxes b = boxes := by
      unfold tellBox
      rw [if_neg]
      rintro ⟨⟨g1, g2⟩, g3⟩
      rcases hn with hn | hn | hn
      · exact hn g1
      · exact hn g2
      · exact g3 ((h.bx b).1 hn)
    rw [this, hl]; exact h
  · rename_i hn
    have g1 : Gd b.Under.Base b.Under.Step := Classical.byContradiction fun h => hn (.inl h)
    have g2 : Gd b.Load.Base b.Load.Step := Classical.byContradiction fun h => hn (.inr (.inl h))
    have g3 : b ∉ boxes := fun hb => hn (.inr (.inr ((h.bx b).2 hb)))
    have e : tellBox boxes b = boxes ++ [b] := by unfold tellBox; rw [if_pos ⟨⟨g1, g2⟩, g3⟩]
    have hz : mget K.boxes b = none := by
      cases hz : mget K.boxes b with
      | none => rfl
      | some c => exact absurd ((h.bx b).1 (by rw [hz, h.b1 b c hz]; decide)) g3
    have hw1 : wrap64 ((mget K.boxes b).getD 0 + 1) = 1 := by rw [hz]; unfold wrap64; simp
    have hm : ∀ y ∈ boxes, y ∈ boxes ++ [b] := fun y hy => List.mem_append_left _ hy
    have cm : ∀ {a s : Int}, Cl told boxes a s → Cl told (boxes ++ [b]) a s := fun hc => hc.mono (fun _ h => h) hm
    have bxs : ∀ c, 0 < (mget (mput K.boxes b (wrap64 ((mget K.boxes b).getD 0 + 1))) c).getD 0 ↔ c ∈ boxes ++ [b] := fun c => by
      rw [mget_mput, hw1]
      by_cases hc : c = b
      · subst hc; simp
      · rw [if_neg hc, h.bx]; simp [hc]
    have b1s : ∀ c d, mget (mput K.boxes b (wrap64 ((mget K.boxes b).getD 0 + 1))) c = some d → d = 1 := fun c d hd => by
      rw [mget_mput, hw1] at hd
      split at hd
      · simp at hd; exact hd.symm
      · exact h.b1 c d hd
    have gbs : ∀ c ∈ boxes ++ [b], Gd c.Under.Base c.Under.Step ∧ Gd c.Load.Base c.Load.Step := fun c hc => by
      rcases List.mem_append.1 hc with hc | hc
      · exact h.w.gb c hc
      · simp only [List.mem_singleton] at hc; subst hc; exact ⟨g1, g2⟩
    rw [e]
    split at hl
    · rename_i hu
      obtain ⟨e1, e2⟩ := hl.rest
      refine ⟨Wk.learn hl ⟨fun a t ht => ⟨(h.w.lo a t ht).1, cm (h.w.lo a t ht).2⟩, fun y hy g => ?_, fun k c hc => ⟨hm c (h.w.sh k c hc).1, (h.w.sh k c hc).2⟩, fun c hc => ?_, fun y hy => .inl ((h.w.tl y hy).resolve_right (by simp)), gbs, h.w.gt⟩, by rw [e1]; exact bxs, by rw [e1]; exact b1s, by rw [e2]; exact h.tx, by rw [e2]; exact h.t1, h.tg⟩
      · simp only [List.mem_singleton] at hy; subst hy
        exact .opens (List.mem_append_right _ (List.mem_singleton_self _)) (cm (h.w.sound hu)) rfl (Int.le_refl _) g
      · rcases List.mem_append.1 hc with hc | hc
        · exact (h.w.bx c hc).imp id (Or.imp (fun h => by cases h) id)
        · simp only [List.mem_singleton] at hc; subst hc; exact .inr (.inl (List.mem_singleton_self _))
    · rename_i hu
      subst hl
      have hsh : ∀ k, (K.lay b).sh k = if k = b.Under.Base then K.sh b.Under.Base ++ [b] else K.sh k := fun k => by
        show (mget (mput K.shut b.Under.Base ((mget K.shut b.Under.Base).getD [] ++ [b])) k).getD [] = _
        rw [mget_mput]
        split <;> rfl
      refine ⟨⟨fun a t ht => ⟨(h.w.lo a t ht).1, cm (h.w.lo a t ht).2⟩, by simp, fun k c hc => ?_, fun c hc => ?_, fun y hy => .inl ((h.w.tl y hy).resolve_right (by simp)), gbs, h.w.gt⟩, bxs, b1s, h.tx, h.t1, h.tg⟩
      · rw [hsh] at hc
        split at hc
        · rename_i ek; subst ek
          rcases List.mem_append.1 hc with hc | hc
          · exact ⟨hm c (h.w.sh _ c hc).1, (h.w.sh _ c hc).2⟩
          · simp only [List.mem_singleton] at hc; subst hc
            exact ⟨List.mem_append_right _ (List.mem_singleton_self _), rfl, hu⟩
        · exact ⟨hm c (h.w.sh k c hc).1, (h.w.sh k c hc).2⟩
      · rcases List.mem_append.1 hc with hc | hc
        · rcases h.w.bx c hc with h' | h' | h'
          · exact .inl h'
          · cases h'
          · refine .inr (.inr ?_)
            rw [hsh]
            split
            · rename_i ek; exact List.mem_append_left _ (ek ▸ h')
            · exact h'
        · simp only [List.mem_singleton] at hc; subst hc
          refine .inr (.inr ?_)
          rw [hsh, if_pos rfl]
          exact List.mem_append_right _ (List.mem_singleton_self _)
/-- a text read -/
def tellText (texts : List ApiSealed) (t : ApiSealed) : List ApiSealed := if GoodSl t ∧ t ∉ texts then texts ++ [t] else texts
theorem Kin.read {told : List ApiKey} {boxes : List ApiBox} {texts : List ApiSealed} {n : Nat} {K : KnowM} (h : Kin told boxes texts n K) (t : ApiSealed) (hn : n < 9223372036854775000) : Kin told boxes (tellText texts t) (n + 1) (K.read t) := by
  unfold KnowM.read tellText
  by_cases hg : GoodSl t
  · rw [if_pos hg]
    have hv : 1 ≤ wrap64 ((mget K.texts t).getD 0 + 1) ∧ wrap64 ((mget K.texts t).getD 0 + 1) ≤ (n + 1 : Nat) := by
      cases hz : mget K.texts t with
      | none => simp only [Option.getD_none]; unfold wrap64; omega
      | some c => have := h.t1 t c hz; simp only [Option.getD_some]; unfold wrap64; omega
    have hsame : ∀ x, x ∈ (if GoodSl t ∧ t ∉ texts then texts ++ [t] else texts) ↔ x ∈ texts ∨ x = t := fun x => by
      split
      · simp
      · rename_i h'
        have : t ∈ texts := Classical.byContradiction fun hc => h' ⟨hg, hc⟩
        exact ⟨.inl, fun h => h.elim id (fun e => e ▸ this)⟩
    refine ⟨⟨h.w.lo, h.w.td, h.w.sh, h.w.bx, h.w.tl, h.w.gb, h.w.gt⟩, h.bx, h.b1, fun x => ?_, fun x c hc => ?_, fun x hx => ?_⟩
    · show 0 < (mget (mput K.texts t (wrap64 ((mget K.texts t).getD 0 + 1))) x).getD 0 ↔ _
      rw [mget_mput, hsame]
      by_cases hx : x = t
      · subst hx; simp; omega
      · rw [if_neg hx, h.tx]; simp [hx]
    · have hc' : mget (mput K.texts t (wrap64 ((mget K.texts t).getD 0 + 1))) x = some c := hc
      rw [mget_mput] at hc'
      split at hc'
      · simp at hc'; subst hc'; exact hv
      · have := h.t1 x c hc'; omega
    · rcases (hsame x).1 hx with hx | rfl
      · exact h.tg x hx
      · exact hg
  · rw [if_neg hg, if_neg (fun h => hg h.1)]
    exact h.le (by omega)
end Go.Proofs.YtdfoijfjlhjeaaaGreat

/- Contracts of the reference's functions (coterieref19). -/
namespace Go.Proofs.YtdfoijfjlhjeaaaGreat
open Go Go.SX Go.RowKit
set_option maxRecDepth 100000
set_option maxHeartbeats 0
set_option synthInstance.maxSize 100000
set_option synthInstance.maxHeartbeats 400000
theorem notMem_step {α : Type} {l : List α} {i : Nat} {b : α} (h : i < l.length) (hn : b ∉ l.take i) (he : ¬ l[i] = b) : b ∉ l.take (i + 1) := by
  rw [List.take_add_one, List.getElem?_eq_getElem h]
  intro hm
  rcases List.mem_append.1 hm with hm | hm
  · exact hn hm
  · simp only [Option.toList_some, List.mem_singleton] at hm
    exact he hm.symm
structure RefM where
  told : List ApiKey
  boxes : List ApiBox
  texts : List ApiSealed
abbrev RefM.zero : RefM := ⟨[], [], []⟩
def RefA (br : Nat) (G : RefM) (Γ : List Hp) : Prop := ∃ v1 v2 v3 s1 s2 s3, Γ = [[(br, .cells #[v1, v2, v3] 112 (0, 0))], s1, s2, s3] ∧
  OwnS v1 28 ApiKey 2 cvApiKey G.told s1 ∧ OwnS v2 30 ApiBox 4 cvApiBox G.boxes s2 ∧ OwnS v3 47 ApiSealed 4 cvApiSealed G.texts s3
def GdB (b : ApiBox) : Prop := Gd b.Under.Base b.Under.Step ∧ Gd b.Load.Base b.Load.Step
instance (b : ApiBox) : Decidable (GdB b) := by unfold GdB; infer_instance
instance goodBox_s (b : ApiBox) : PC Tryz.prog 96 #[avApiBox b] (.bool (decide (GdB b))) := ⟨by
  refine spec_of1 Tryz.func96 Tryz.ntmps96 rfl rfl (fun M w0 => ?_)
  repeat' (first | refine stp ?_|refine v_spD (fun hc=>?_) (fun hc=>?_)|refine v_box (fun bb=>?_)|fail)
  all_goals refine v_out1 (Γk := []) Tryz.results96 ⟨?_, rfl⟩
  · refine bD ?_; simp [GdB, hc]
  · refine bF ?_; simp [GdB, hc]⟩
instance rEpoch_s (x : Int) : PC Tryz.prog 134 #[.int .i64 x] (.bool (decide (1 ≤ x ∧ x ≤ 200))) := ⟨by
  refine spec_of1 Tryz.func134 Tryz.ntmps134 rfl rfl (fun M w0 => ?_)
  repeat' (first | refine stp ?_|refine v_spD (fun hc=>?_) (fun hc=>?_)|fail)
  all_goals refine v_out1 (Γk := []) Tryz.results134 ⟨?_, rfl⟩
  all_goals first | (refine bD ?_; omega) | (refine bF ?_; omega)⟩
instance goodSealed_s (s : ApiSealed) : PC Tryz.prog 85 #[avApiSealed s] (.bool (decide (GoodSl s))) := ⟨by
  refine spec_of1 Tryz.func85 Tryz.ntmps85 rfl rfl (fun M w0 => ?_)
  repeat' (first | refine stp ?_|refine v_spD (fun hc=>?_) (fun hc=>?_)|refine v_box (fun bb=>?_)|fail)
  all_goals refine v_out1 (Γk := []) Tryz.results85 ⟨?_, rfl⟩
  all_goals first | (refine bF ?_; exact fun h => hc h.1) | (refine bD ?_; unfold GoodSl; simp_all; done) | (refine bF ?_; unfold GoodSl; simp_all; done)⟩
theorem rseen_s {br : Nat} {G : RefM} {Γ : List Hp} (h : RefA br G Γ) (b : ApiBox) : SX.Spec Tryz.prog 97 #[.pointer (some ⟨br, 0, none⟩), avApiBox b] Γ [] fun v Γ' => Γ' = [] ∧ v = .bool (decide (b ∈ G.boxes)) := by
  obtain ⟨v1, v2, v3, s1, s2, s3, rfl, h1, h2, h3⟩ := h
  have hle := h2.le
  refine spec_of2 Tryz.func97 Tryz.ntmps97 rfl rfl (fun M w0 => ?_)
  repeat' (first | refine stp ?_|refine v_spD (fun hc=>?_) (fun hc=>?_)|(refine v_yc ?_ ?_;omega)|refine v_alloc' (fun ba=>?_)|refine v_box (fun bb=>?_)|fail)
  refine v_lp [12] [3, 10, 11] (fun i : Nat => [.int .i64 i]) (fun _ => []) (fun i => i ≤ G.boxes.length ∧ b ∉ G.boxes.take i) (fun i => G.boxes.length - i) 0 (fun _ => rfl) rfl inferInstance ⟨Nat.zero_le _, by simp⟩ ?_
  rintro i ⟨hi, hn⟩
  (try dsimp only [zipE_c, zipE_n, List.cons_append, List.nil_append])
  repeat' (first | refine stp ?_|refine v_spD (fun hc=>?_) (fun hc=>?_)|(refine v_yc ?_ ?_;omega)|refine v_alloc' (fun ba=>?_)|refine v_box (fun bb=>?_)|fail)
  · refine v_o1 Tryz.results97 ⟨rfl, bT ?_⟩ ⟨_, inferInstance⟩
    exact (show G.boxes[i] = b by simp [iff_ApiBox, iff_ApiKey, hc]) ▸ List.getElem_mem _
  · exact v_again (i + 1) (by omega) rfl inferInstance ⟨by omega, notMem_step (by omega) hn (fun e => hc (by simp [e]))⟩
  · refine v_o1 Tryz.results97 ⟨rfl, bF ?_⟩ ⟨_, inferInstance⟩
    rw [List.take_of_length_le (by omega)] at hn
    exact hn
theorem rread_s {br : Nat} {G : RefM} {Γ : List Hp} (h : RefA br G Γ) (b : ApiSealed) : SX.Spec Tryz.prog 98 #[.pointer (some ⟨br, 0, none⟩), avApiSealed b] Γ [] fun v Γ' => Γ' = [] ∧ v = .bool (decide (b ∈ G.texts)) := by
  obtain ⟨v1, v2, v3, s1, s2, s3, rfl, h1, h2, h3⟩ := h
  have hle := h3.le
  refine spec_of2 Tryz.func98 Tryz.ntmps98 rfl rfl (fun M w0 => ?_)
  repeat' (first | refine stp ?_|refine v_spD (fun hc=>?_) (fun hc=>?_)|(refine v_yc ?_ ?_;omega)|refine v_alloc' (fun ba=>?_)|refine v_box (fun bb=>?_)|fail)
  refine v_lp [12] [3, 10, 11] (fun i : Nat => [.int .i64 i]) (fun _ => []) (fun i => i ≤ G.texts.length ∧ b ∉ G.texts.take i) (fun i => G.texts.length - i) 0 (fun _ => rfl) rfl inferInstance ⟨Nat.zero_le _, by simp⟩ ?_
  rintro i ⟨hi, hn⟩
  (try dsimp only [zipE_c, zipE_n, List.cons_append, List.nil_append])
  repeat' (first | refine stp ?_|refine v_spD (fun hc=>?_) (fun hc=>?_)|(refine v_yc ?_ ?_;omega)|refine v_alloc' (fun ba=>?_)|refine v_box (fun bb=>?_)|fail)
  · refine v_o1 Tryz.results98 ⟨rfl, bT ?_⟩ ⟨_, inferInstance⟩
    exact (show G.texts[i] = b by simp [iff_ApiSealed, iff_ApiKey, hc]) ▸ List.getElem_mem _
  · exact v_again (i + 1) (by omega) rfl inferInstance ⟨by omega, notMem_step (by omega) hn (fun e => hc (by simp [e]))⟩
  · refine v_o1 Tryz.results98 ⟨rfl, bF ?_⟩ ⟨_, inferInstance⟩
    rw [List.take_of_length_le (by omega)] at hn
    exact hn
theorem rlearn_s {br : Nat} {G : RefM} {Γ : List Hp} (h : RefA br G Γ) (x : ApiKey) (hb : (G.told.length + 2) * 16 ≤ 140737488355328) : SX.Spec Tryz.prog 47 #[.pointer (some ⟨br, 0, none⟩), avApiKey x] [] Γ fun v Γ' => v = .tuple #[] ∧ RefA br ⟨tellKey G.told x, G.boxes, G.texts⟩ Γ' := by
  obtain ⟨v1, v2, v3, s1, s2, s3, rfl, h1, h2, h3⟩ := h
  refine spec_of2 Tryz.func47 Tryz.ntmps47 rfl rfl (fun M w0 => ?_)
  repeat' (first | refine stp ?_|refine v_spD (fun hc=>?_) (fun hc=>?_)|(refine v_yc ?_ ?_;omega)|refine v_alloc' (fun ba=>?_)|refine v_box (fun bb=>?_)|refine v_lit (fun bl=>?_)|(refine v_push ?_ (fun sv ss hs hln=>?_);omega)|refine ⟨?_,?_,?_⟩|refine ⟨?_,?_⟩|refine v_tValT (by decide +kernel) ?_|refine v_drawnK (id:=7) 7 pl47_7 (by kernel_rfl) ?_|fail)
  · refine v_o0 Tryz.results47 ⟨rfl, v1, v2, v3, s1, s2, s3, rfl, ?_, h2, h3⟩ ⟨_, inferInstance⟩
    unfold tellKey
    rw [if_neg (fun h => hc h.1)]
    exact h1
  refine v_lp [14] [0, 3, 12, 13] (fun i : Nat => [.int .i64 i]) (fun _ => []) (fun i => i ≤ G.told.length ∧ x ∉ G.told.take i) (fun i => G.told.length - i) 0 (fun _ => rfl) rfl inferInstance ⟨Nat.zero_le _, by simp⟩ ?_
  rintro i ⟨hi, hn⟩
  (try dsimp only [zipE_c, zipE_n, List.cons_append, List.nil_append])
  repeat' (first | refine stp ?_|refine v_spD (fun hc=>?_) (fun hc=>?_)|(refine v_yc ?_ ?_;omega)|refine v_alloc' (fun ba=>?_)|refine v_box (fun bb=>?_)|refine v_lit (fun bl=>?_)|(refine v_push ?_ (fun sv ss hs hln=>?_);omega)|refine ⟨?_,?_,?_⟩|refine ⟨?_,?_⟩|refine v_tValT (by decide +kernel) ?_|refine v_drawnK (id:=7) 7 pl47_7 (by kernel_rfl) ?_|fail)
  · rw [← iff_ApiKey] at hc
    refine v_o0 Tryz.results47 ⟨rfl, v1, v2, v3, s1, s2, s3, rfl, ?_, h2, h3⟩ ⟨_, inferInstance⟩
    unfold tellKey
    rw [if_neg (fun h => h.2 (hc ▸ List.getElem_mem _))]
    exact h1
  · exact v_again (i + 1) (by omega) rfl inferInstance ⟨by omega, notMem_step (by omega) hn (fun e => hc (by simp [e]))⟩
  · rw [List.take_of_length_le (by omega)] at hn
    refine v_o0 Tryz.results47 ⟨rfl, sv, v2, v3, ss, s2, s3, rfl, ?_, h2, h3⟩ ⟨_, inferInstance⟩
    unfold tellKey
    rw [if_pos ⟨Decidable.not_not.1 (by assumption), hn⟩]
    exact hs
theorem rsee_s {br : Nat} {G : RefM} {Γ : List Hp} (h : RefA br G Γ) (x : ApiBox) (hb : (G.boxes.length + 2) * 32 ≤ 140737488355328) : SX.Spec Tryz.prog 90 #[.pointer (some ⟨br, 0, none⟩), avApiBox x] [] Γ fun v Γ' => v = .tuple #[] ∧ RefA br ⟨G.told, tellBox G.boxes x, G.texts⟩ Γ' := by
  have hh := rseen_s h x
  obtain ⟨v1, v2, v3, s1, s2, s3, rfl, h1, h2, h3⟩ := h
  refine spec_of2 Tryz.func90 Tryz.ntmps90 rfl rfl (fun M w0 => ?_)
  repeat' (first | refine stp ?_|refine v_spD (fun hc=>?_) (fun hc=>?_)|refine v_box (fun bb=>?_)|refine v_lit (fun bl=>?_)|(refine v_push ?_ (fun sv ss hs hln=>?_);omega)|refine ⟨?_,?_,?_⟩|refine ⟨?_,?_⟩|refine v_tValT (by decide +kernel) ?_|refine v_drawnK (id:=2) 7 pl90_2 (by kernel_rfl) ?_|fail)
  · refine v_callR hh ?_
    rintro v Γ' ⟨rfl, rfl⟩
    (try dsimp only [List.cons_append, List.nil_append])
    repeat' (first | refine stp ?_|refine v_spD (fun hc=>?_) (fun hc=>?_)|refine v_box (fun bb=>?_)|refine v_lit (fun bl=>?_)|(refine v_push ?_ (fun sv ss hs hln=>?_);omega)|refine ⟨?_,?_,?_⟩|refine ⟨?_,?_⟩|refine v_tValT (by decide +kernel) ?_|refine v_drawnK (id:=2) 7 pl90_2 (by kernel_rfl) ?_|fail)
    · refine v_o0 Tryz.results90 ⟨rfl, v1, sv, v3, s1, ss, s3, rfl, h1, ?_, h3⟩ ⟨_, inferInstance⟩
      unfold tellBox
      rw [if_pos ⟨by assumption, by assumption⟩]
      exact hs
    · refine v_o0 Tryz.results90 ⟨rfl, v1, v2, v3, s1, s2, s3, rfl, h1, ?_, h3⟩ ⟨_, inferInstance⟩
      unfold tellBox
      rw [if_neg (fun h => by first | exact hc h.2 | exact h.2 hc)]
      exact h2
  · refine v_o0 Tryz.results90 ⟨rfl, v1, v2, v3, s1, s2, s3, rfl, h1, ?_, h3⟩ ⟨_, inferInstance⟩
    unfold tellBox
    rw [if_neg (fun h => hc h.1)]
    exact h2
theorem rseeSealed_s {br : Nat} {G : RefM} {Γ : List Hp} (h : RefA br G Γ) (x : ApiSealed) (hb : (G.texts.length + 2) * 40 ≤ 140737488355328) : SX.Spec Tryz.prog 91 #[.pointer (some ⟨br, 0, none⟩), avApiSealed x] [] Γ fun v Γ' => v = .tuple #[] ∧ RefA br ⟨G.told, G.boxes, tellText G.texts x⟩ Γ' := by
  have hh := rread_s h x
  obtain ⟨v1, v2, v3, s1, s2, s3, rfl, h1, h2, h3⟩ := h
  refine spec_of2 Tryz.func91 Tryz.ntmps91 rfl rfl (fun M w0 => ?_)
  repeat' (first | refine stp ?_|refine v_spD (fun hc=>?_) (fun hc=>?_)|refine v_box (fun bb=>?_)|refine v_lit (fun bl=>?_)|(refine v_push ?_ (fun sv ss hs hln=>?_);omega)|refine ⟨?_,?_,?_⟩|refine ⟨?_,?_⟩|refine v_tValT (by decide +kernel) ?_|refine v_drawnK (id:=2) 7 pl91_2 (by kernel_rfl) ?_|fail)
  · refine v_callR hh ?_
    rintro v Γ' ⟨rfl, rfl⟩
    (try dsimp only [List.cons_append, List.nil_append])
    repeat' (first | refine stp ?_|refine v_spD (fun hc=>?_) (fun hc=>?_)|refine v_box (fun bb=>?_)|refine v_lit (fun bl=>?_)|(refine v_push ?_ (fun sv ss hs hln=>?_);omega)|refine ⟨?_,?_,?_⟩|refine ⟨?_,?_⟩|refine v_tValT (by decide +kernel) ?_|refine v_drawnK (id:=2) 7 pl91_2 (by kernel_rfl) ?_|fail)
    · refine v_o0 Tryz.results91 ⟨rfl, v1, v2, sv, s1, s2, ss, rfl, h1, h2, ?_⟩ ⟨_, inferInstance⟩
      unfold tellText
      rw [if_pos ⟨by assumption, by assumption⟩]
      exact hs
    · refine v_o0 Tryz.results91 ⟨rfl, v1, v2, v3, s1, s2, s3, rfl, h1, h2, ?_⟩ ⟨_, inferInstance⟩
      unfold tellText
      rw [if_neg (fun h => by first | exact hc h.2 | exact h.2 hc)]
      exact h3
  · refine v_o0 Tryz.results91 ⟨rfl, v1, v2, v3, s1, s2, s3, rfl, h1, h2, ?_⟩ ⟨_, inferInstance⟩
    unfold tellText
    rw [if_neg (fun h => hc h.1)]
    exact h3
end Go.Proofs.YtdfoijfjlhjeaaaGreat

/- The reference's closure: a table of least steps. -/
namespace Go.Proofs.YtdfoijfjlhjeaaaGreat
open Go Go.SX Go.RowKit
set_option maxRecDepth 100000
set_option maxHeartbeats 0
set_option synthInstance.maxSize 100000
set_option synthInstance.maxHeartbeats 400000
def tg (t : List Int) (a : Int) : Int := t.getD a.toNat 0
structure TabOk (t : List Int) : Prop where
  len : t.length = 32768
  lo : ∀ a, 0 ≤ tg t a ∧ tg t a ≤ 256
def Tin (t : List Int) (a s : Int) : Prop := Gd a s ∧ (32768 ≤ a ∨ tg t a ≠ 0 ∧ tg t a - 1 ≤ s)
instance (t : List Int) (a s : Int) : Decidable (Tin t a s) := by unfold Tin; infer_instance
theorem tg_of {t : List Int} {a : Int} (h : a.toNat < t.length) : t[a.toNat] = tg t a := by
  unfold tg; rw [List.getD_eq_getElem?_getD, List.getElem?_eq_getElem h]; rfl
theorem tg_set {t : List Int} {a b z : Int} (h0 : 0 ≤ a) (h1 : a.toNat < t.length) (hb : 0 ≤ b) : tg (t.set a.toNat z) b = if b = a then z else tg t b := by
  unfold tg
  rw [List.getD_eq_getElem?_getD, List.getD_eq_getElem?_getD, List.getElem?_set]
  by_cases e : b = a
  · subst e; simp [h1]
  · have : ¬ a.toNat = b.toNat := by omega
    simp [this, e]
theorem tg_neg {t : List Int} {b : Int} (hb : ¬ 0 ≤ b) : tg t b = tg t 0 := by
  unfold tg; congr 1; omega
theorem TabOk.set {t : List Int} (h : TabOk t) {a z : Int} (h0 : 0 ≤ a) (h1 : a < 32768) (hz : 0 ≤ z ∧ z ≤ 256) : TabOk (t.set a.toNat z) := ⟨by rw [List.length_set]; exact h.len, fun b => by
  have hl := h.len
  have key : ∀ c, 0 ≤ c → 0 ≤ tg (t.set a.toNat z) c ∧ tg (t.set a.toNat z) c ≤ 256 := fun c hc => by
    rw [tg_set h0 (by omega) hc]
    split
    · exact hz
    · exact h.lo c
  by_cases hb : 0 ≤ b
  · exact key b hb
  · rw [tg_neg hb]; exact key 0 (by omega)⟩
theorem TabOk.zero : TabOk (List.replicate 32768 0) := ⟨List.length_replicate, fun a => by
  have : tg (List.replicate 32768 0) a = 0 := by
    unfold tg
    rw [List.getD_eq_getElem?_getD, List.getElem?_replicate]
    split <;> rfl
  omega⟩
theorem rin_s {v : Value} {t : List Int} {s : Hp} (h : AtS v 3 Int 1 ic t s) (ht : TabOk t) (a b : Int) : SX.Spec Tryz.prog 92 #[v, kv a b] [s] [] fun v Γ' => Γ' = [] ∧ v = .bool (decide (Tin t a b)) := by
  have hlen := ht.len
  have hlo := ht.lo a
  refine spec_of2 Tryz.func92 Tryz.ntmps92 rfl rfl (fun M w0 => ?_)
  by_cases hg : Gd a b
  · have hg' := hg
    unfold Gd at hg'
    repeat' (first | (refine v_spF (not_not_intro (by assumption)) ?_)|refine stp ?_|(refine v_spT ?_ ?_;omega)|(refine v_spF ?_ ?_;omega)|refine v_spD (fun hc=>?_) (fun hc=>?_)|(refine v_yc ?_ ?_;omega)|refine v_box (fun bb=>?_)|refine ⟨?_,?_,?_⟩|refine ⟨?_,?_⟩|(refine v_tyc ?_ ?_;omega)|refine v_tyw ?_|refine v_drawn0 (id:=3) pl92_3 (by kernel_rfl) ?_|fail)
    · refine v_o1 Tryz.results92 ⟨rfl, bT ⟨hg, .inl hc⟩⟩ ⟨_, inferInstance⟩
    · rw [tg_of] at hc
      refine v_o1 Tryz.results92 ⟨rfl, bD ?_⟩ ⟨_, inferInstance⟩
      rw [tg_of, wr (by omega) (by omega)]
      exact ⟨fun h => ⟨hg, .inr ⟨hc, h⟩⟩, fun h => (h.2.resolve_left (by assumption)).2⟩
    · rw [tg_of] at hc
      refine v_o1 Tryz.results92 ⟨rfl, bF ?_⟩ ⟨_, inferInstance⟩
      exact fun h => (h.2.elim (fun h => by contradiction) fun h => hc h.1)
  · repeat' (first | (refine v_spT (by assumption) ?_)|refine stp ?_|(refine v_spT ?_ ?_;omega)|(refine v_spF ?_ ?_;omega)|refine v_spD (fun hc=>?_) (fun hc=>?_)|(refine v_yc ?_ ?_;omega)|refine v_box (fun bb=>?_)|refine ⟨?_,?_,?_⟩|refine ⟨?_,?_⟩|(refine v_tyc ?_ ?_;omega)|refine v_tyw ?_|refine v_drawn0 (id:=3) pl92_3 (by kernel_rfl) ?_|fail)
    refine v_o1 Tryz.results92 ⟨rfl, bF fun h => hg h.1⟩ ⟨_, inferInstance⟩
/-- how much the table may still fall -/
def wt (x : Int) : Nat := if x = 0 then 300 else x.toNat
def tsum (t : List Int) : Nat := (t.map wt).sum
theorem tsum_set : ∀ {t : List Int} {i : Nat} (h : i < t.length) (z : Int), tsum (t.set i z) + wt t[i] = tsum t + wt z
  | x :: t, 0, _, z => by simp [tsum]; omega
  | x :: t, i + 1, h, z => by
    have := tsum_set (t := t) (i := i) (by simpa using h) z
    simp only [tsum, List.set_cons_succ, List.map_cons, List.sum_cons, List.getElem_cons_succ] at this ⊢
    omega
theorem tsum_lt {t : List Int} {a z : Int} (h : a.toNat < t.length) (h0 : 0 < z ∧ z ≤ 256) (hz : tg t a = 0 ∨ z < tg t a) (h1 : 0 ≤ tg t a) : tsum (t.set a.toNat z) < tsum t := by
  have := tsum_set h z
  rw [tg_of h] at this
  have e1 : wt z = z.toNat := by unfold wt; rw [if_neg (by omega)]
  have e2 : z.toNat < wt (tg t a) := by unfold wt; split <;> omega
  omega
/-- the table says nothing that doesn't follow -/
def Tso (told : List ApiKey) (boxes : List ApiBox) (t : List Int) : Prop := ∀ a, 0 ≤ a → a < 32768 → tg t a ≠ 0 → Cl told boxes a (tg t a - 1)
theorem Tso.tin {told : List ApiKey} {boxes : List ApiBox} {t : List Int} (h : Tso told boxes t) {a s : Int} (hi : Tin t a s) : Cl told boxes a s := by
  obtain ⟨g, h1 | ⟨h1, h2⟩⟩ := hi
  · exact .own g h1
  · rcases Int.lt_or_le a 32768 with h3 | h3
    · exact (h a (Int.le_of_lt g.1) h3 h1).up h2 g.2.2.2
    · exact .own g h3
theorem Tso.set {told : List ApiKey} {boxes : List ApiBox} {t : List Int} (h : Tso told boxes t) {a z : Int} (h0 : 0 ≤ a) (h1 : a.toNat < t.length) (hc : Cl told boxes a (z - 1)) : Tso told boxes (t.set a.toNat z) := fun b hb0 hb1 hn => by
  rw [tg_set h0 h1 hb0] at hn ⊢
  split at hn
  · rename_i e; subst e; rw [if_pos rfl]; exact hc
  · rename_i e; rw [if_neg e]; exact h b hb0 hb1 hn
theorem Tin.set {t : List Int} {a z : Int} (h0 : 0 ≤ a) (h1 : a.toNat < t.length) (hz : z ≠ 0) (hl : tg t a = 0 ∨ z < tg t a) {b s : Int} (h : Tin t b s) : Tin (t.set a.toNat z) b s := by
  obtain ⟨g, h2 | ⟨h2, h3⟩⟩ := h
  · exact ⟨g, .inl h2⟩
  · refine ⟨g, .inr ?_⟩
    rw [tg_set h0 h1 (Int.le_of_lt g.1)]
    split
    · rename_i e; subst e; omega
    · exact ⟨h2, h3⟩
theorem Tin.new {t : List Int} {a z : Int} (h0 : 0 ≤ a) (h1 : a.toNat < t.length) (hz : z ≠ 0) {s : Int} (hs : z - 1 ≤ s) (g : Gd a s) : Tin (t.set a.toNat z) a s := ⟨g, .inr (by rw [tg_set h0 h1 h0, if_pos rfl]; exact ⟨hz, hs⟩)⟩
structure T0G where
  i : Nat
  t : List Int
  s : Hp
structure T0Ok (told : List ApiKey) (boxes : List ApiBox) (v : Value) (g : T0G) : Prop where
  le : g.i ≤ told.length
  own : OwnS v 3 Int 1 ic g.t g.s
  ok : TabOk g.t
  so : Tso told boxes g.t
  td : ∀ x ∈ told.take g.i, Tin g.t x.Base x.Step
structure T1G where
  m : Bool
  t : List Int
  s : Hp
structure T1Ok (told : List ApiKey) (boxes : List ApiBox) (v : Value) (g : T1G) : Prop where
  own : OwnS v 3 Int 1 ic g.t g.s
  ok : TabOk g.t
  so : Tso told boxes g.t
  td : ∀ x ∈ told, Tin g.t x.Base x.Step
  bx : g.m = false → ∀ b ∈ boxes, Tin g.t b.Under.Base b.Under.Step → Tin g.t b.Load.Base b.Load.Step
structure T2G where
  i : Nat
  m : Bool
  t : List Int
  s : Hp
structure T2Ok (told : List ApiKey) (boxes : List ApiBox) (v : Value) (m0 : Nat) (g : T2G) : Prop where
  le : g.i ≤ boxes.length
  own : OwnS v 3 Int 1 ic g.t g.s
  ok : TabOk g.t
  so : Tso told boxes g.t
  td : ∀ x ∈ told, Tin g.t x.Base x.Step
  sm : tsum g.t ≤ m0
  sl : g.m = true → tsum g.t < m0
  bx : g.m = false → ∀ b ∈ boxes.take g.i, Tin g.t b.Under.Base b.Under.Step → Tin g.t b.Load.Base b.Load.Step
theorem mem_step {α : Type} {l : List α} {i : Nat} {p : α → Prop} (h : i < l.length) (ha : ∀ x ∈ l.take i, p x) (hb : p l[i]) : ∀ x ∈ l.take (i + 1), p x := fun x hx => by
  rw [List.take_add_one, List.getElem?_eq_getElem h] at hx
  rcases List.mem_append.1 hx with hx | hx
  · exact ha x hx
  · simp only [Option.toList_some, List.mem_singleton] at hx
    exact hx ▸ hb
theorem rclosed_s {br : Nat} {G : RefM} {Γ : List Hp} (h : RefA br G Γ) (hgt : ∀ x ∈ G.told, Gd x.Base x.Step) (hgb : ∀ b ∈ G.boxes, GdB b) : SX.Spec Tryz.prog 49 #[.pointer (some ⟨br, 0, none⟩)] Γ [] fun v Γ' => ∃ t s, OwnS v 3 Int 1 ic t s ∧ Γ' = [s] ∧ TabOk t ∧ ∀ a b, Tin t a b ↔ Cl G.told G.boxes a b := by
  obtain ⟨v1, v2, v3, s1, s2, s3, rfl, h1, h2, h3⟩ := h
  have hl1 := h1.le
  have hl2 := h2.le
  refine spec_of1 Tryz.func49 Tryz.ntmps49 rfl rfl (fun M w0 => ?_)
  repeat' (first | refine stp ?_|(refine v_spT ?_ ?_;omega)|(refine v_spF ?_ ?_;omega)|refine v_spD (fun hc=>?_) (fun hc=>?_)|(refine v_yc ?_ ?_;omega)|refine v_alloc' (fun ba=>?_)|(refine v_set ?_ (fun ss hs hln=>?_);omega)|(refine v_make ?_ (fun sv ss hs hln=>?_);omega)|refine ⟨?_,?_,?_⟩|refine ⟨?_,?_⟩|(refine v_tyc ?_ ?_;omega)|refine v_drawn0 (id:=5) pl49_5 (by kernel_rfl) ?_|refine v_drawn0 (id:=15) pl49_15 (by kernel_rfl) ?_|fail)
  rw [show (32768 : Int).toNat = 32768 from rfl] at hs
  have hz0 := TabOk.zero
  have hz1 : ∀ a, tg (List.replicate 32768 0) a = 0 := fun a => by
    unfold tg; rw [List.getD_eq_getElem?_getD, List.getElem?_replicate]; split <;> rfl
  clear hln
  generalize List.replicate 32768 (0 : Int) = t0 at hs hz0 hz1
  refine v_lp [16] [0, 3, 14, 15] (fun g : T0G => [.int .i64 g.i]) (fun g => [g.s]) (T0Ok G.told G.boxes sv) (fun g => G.told.length - g.i) ⟨0, t0, _⟩ (fun _ => rfl) rfl inferInstance
    ⟨Nat.zero_le _, hs, hz0, fun a _ _ hn => absurd (hz1 a) hn, by simp⟩ ?_
  clear hs hz0 hz1 t0
  rintro ⟨i, t, s⟩ ⟨hi, hs, hok, hso, htd⟩
  dsimp only at hi hs hok hso htd ⊢
  have hlen := hok.len
  (try dsimp only [zipE_c, zipE_n, List.cons_append, List.nil_append])
  rcases Nat.lt_or_ge i G.told.length with hlt | hge
  · have hg := hgt G.told[i] (List.getElem_mem _)
    have hg' := hg
    have hlo := hok.lo G.told[i].Base
    have hmem : G.told[i] ∈ G.told := List.getElem_mem _
    unfold Gd at hg'
    repeat' (first | refine stp ?_|(refine v_spT ?_ ?_;omega)|(refine v_spF ?_ ?_;omega)|refine v_spD (fun hc=>?_) (fun hc=>?_)|(refine v_yc ?_ ?_;omega)|refine v_alloc' (fun ba=>?_)|(refine v_set ?_ (fun ss hs hln=>?_);omega)|(refine v_make ?_ (fun sv ss hs hln=>?_);omega)|refine ⟨?_,?_,?_⟩|refine ⟨?_,?_⟩|(refine v_tyc ?_ ?_;omega)|refine v_drawn0 (id:=5) pl49_5 (by kernel_rfl) ?_|refine v_drawn0 (id:=15) pl49_15 (by kernel_rfl) ?_|fail)
    · rw [tg_of] at hc
      refine v_again ⟨i + 1, _, _⟩ (by dsimp only; omega) rfl inferInstance ⟨hlt, hs, hok.set (by omega) (by omega) (by omega), hso.set (by omega) (by omega) (.told hmem rfl (by omega) (by rw [Int.add_sub_cancel]; exact hg)), ?_⟩
      exact mem_step hlt (fun x hx => (htd x hx).set (by omega) (by omega) (by omega) (.inl hc)) (.new (by omega) (by omega) (by omega) (by omega) hg)
    · rw [tg_of] at hc
      refine v_again ⟨i + 1, _, _⟩ (by dsimp only; omega) rfl inferInstance ⟨hlt, hs, hok.set (by omega) (by omega) (by omega), hso.set (by omega) (by omega) (.told hmem rfl (by omega) (by rw [Int.add_sub_cancel]; exact hg)), ?_⟩
      exact mem_step hlt (fun x hx => (htd x hx).set (by omega) (by omega) (by omega) (.inr hc)) (.new (by omega) (by omega) (by omega) (by omega) hg)
    · rename_i hc1 hc2
      rw [tg_of] at hc hc2
      refine v_again ⟨i + 1, _, _⟩ (by dsimp only; omega) rfl inferInstance ⟨hlt, hs, hok, hso, ?_⟩
      exact mem_step hlt htd ⟨hg, .inr ⟨hc2, by dsimp only; omega⟩⟩
    · refine v_again ⟨i + 1, _, _⟩ (by dsimp only; omega) rfl inferInstance ⟨hlt, hs, hok, hso, ?_⟩
      exact mem_step hlt htd ⟨hg, .inl (by omega)⟩
  · rw [List.take_of_length_le hge] at htd
    repeat' (first | refine stp ?_|(refine v_spT ?_ ?_;omega)|(refine v_spF ?_ ?_;omega)|refine v_spD (fun hc=>?_) (fun hc=>?_)|(refine v_yc ?_ ?_;omega)|refine v_alloc' (fun ba=>?_)|(refine v_set ?_ (fun ss hs hln=>?_);omega)|(refine v_make ?_ (fun sv ss hs hln=>?_);omega)|refine ⟨?_,?_,?_⟩|refine ⟨?_,?_⟩|(refine v_tyc ?_ ?_;omega)|refine v_drawn0 (id:=5) pl49_5 (by kernel_rfl) ?_|refine v_drawn0 (id:=15) pl49_15 (by kernel_rfl) ?_|fail)
    clear hi hge hlen
    refine v_lp [6] [0, 3] (fun g : T1G => [.bool g.m]) (fun g => [g.s]) (T1Ok G.told G.boxes sv) (fun g => 2 * tsum g.t + g.m.toNat) ⟨true, t, s⟩ (fun _ => rfl) rfl inferInstance
      ⟨hs, hok, hso, htd, fun h => by cases h⟩ ?_
    clear hs hok hso htd t s i
    rintro ⟨m, t, s⟩ ⟨hs, hok, hso, htd, hbx⟩
    dsimp only at hs hok hso htd hbx ⊢
    (try dsimp only [zipE_c, zipE_n, List.cons_append, List.nil_append])
    cases m with
    | false =>
      repeat' (first | refine stp ?_|(refine v_spT ?_ ?_;omega)|(refine v_spF ?_ ?_;omega)|refine v_spD (fun hc=>?_) (fun hc=>?_)|(refine v_yc ?_ ?_;omega)|refine v_alloc' (fun ba=>?_)|(refine v_set ?_ (fun ss hs hln=>?_);omega)|(refine v_make ?_ (fun sv ss hs hln=>?_);omega)|refine ⟨?_,?_,?_⟩|refine ⟨?_,?_⟩|(refine v_tyc ?_ ?_;omega)|refine v_drawn0 (id:=5) pl49_5 (by kernel_rfl) ?_|refine v_drawn0 (id:=15) pl49_15 (by kernel_rfl) ?_|fail)
      refine v_o1 Tryz.results49 ⟨t, s, hs, rfl, hok, fun a b => ⟨fun h => hso.tin h, fun h => ?_⟩⟩ ⟨_, inferInstance⟩
      induction h with
      | own g h => exact ⟨g, .inl h⟩
      | told hx e hs g =>
        obtain ⟨_, h1 | ⟨h1, h2⟩⟩ := htd _ hx
        · exact ⟨g, .inl (e ▸ h1)⟩
        · exact ⟨g, .inr (e ▸ ⟨h1, by omega⟩)⟩
      | opens hb hu e hs g ih =>
        obtain ⟨_, h1 | ⟨h1, h2⟩⟩ := hbx rfl _ hb ih
        · exact ⟨g, .inl (e ▸ h1)⟩
        · exact ⟨g, .inr (e ▸ ⟨h1, by omega⟩)⟩
    | true =>
      clear hbx
      repeat' (first | refine stp ?_|(refine v_spT ?_ ?_;omega)|(refine v_spF ?_ ?_;omega)|refine v_spD (fun hc=>?_) (fun hc=>?_)|(refine v_yc ?_ ?_;omega)|refine v_alloc' (fun ba=>?_)|(refine v_set ?_ (fun ss hs hln=>?_);omega)|(refine v_make ?_ (fun sv ss hs hln=>?_);omega)|refine ⟨?_,?_,?_⟩|refine ⟨?_,?_⟩|(refine v_tyc ?_ ?_;omega)|refine v_drawn0 (id:=5) pl49_5 (by kernel_rfl) ?_|refine v_drawn0 (id:=15) pl49_15 (by kernel_rfl) ?_|fail)
      refine v_lp [6, 56] [0, 3, 54, 55] (fun g : T2G => [.bool g.m, .int .i64 g.i]) (fun g => [g.s]) (T2Ok G.told G.boxes sv (tsum t)) (fun g => G.boxes.length - g.i) ⟨0, false, t, s⟩ (fun _ => rfl) rfl inferInstance
        ⟨Nat.zero_le _, hs, hok, hso, htd, Nat.le_refl _, (fun h => by cases h), by simp⟩ ?_
      generalize tsum t = m0 at *
      clear hs hok hso htd t s
      rintro ⟨i, m, t, s⟩ ⟨hi, hs, hok, hso, htd, hsm, hsl, hbx⟩
      dsimp only at hi hs hok hso htd hsm hsl hbx ⊢
      have hlen := hok.len
      (try dsimp only [zipE_c, zipE_n, List.cons_append, List.nil_append])
      rcases Nat.lt_or_ge i G.boxes.length with hlt | hge
      · obtain ⟨hgu, hg⟩ := hgb G.boxes[i] (List.getElem_mem _)
        have hg' := hg
        have hlo := hok.lo G.boxes[i].Load.Base
        have hmem : G.boxes[i] ∈ G.boxes := List.getElem_mem _
        unfold Gd at hg'
        repeat' (first | refine stp ?_|(refine v_spT ?_ ?_;omega)|(refine v_spF ?_ ?_;omega)|refine v_spD (fun hc=>?_) (fun hc=>?_)|(refine v_yc ?_ ?_;omega)|refine v_alloc' (fun ba=>?_)|(refine v_set ?_ (fun ss hs hln=>?_);omega)|(refine v_make ?_ (fun sv ss hs hln=>?_);omega)|refine ⟨?_,?_,?_⟩|refine ⟨?_,?_⟩|(refine v_tyc ?_ ?_;omega)|refine v_drawn0 (id:=5) pl49_5 (by kernel_rfl) ?_|refine v_drawn0 (id:=15) pl49_15 (by kernel_rfl) ?_|fail)
        refine v_callR (rin_s (ownAt (h := hs)) hok _ _) ?_
        rintro v Γ' ⟨rfl, rfl⟩
        (try dsimp only [List.cons_append, List.nil_append])
        repeat' (first | refine stp ?_|(refine v_spT ?_ ?_;omega)|(refine v_spF ?_ ?_;omega)|refine v_spD (fun hc=>?_) (fun hc=>?_)|(refine v_yc ?_ ?_;omega)|refine v_alloc' (fun ba=>?_)|(refine v_set ?_ (fun ss hs hln=>?_);omega)|(refine v_make ?_ (fun sv ss hs hln=>?_);omega)|refine ⟨?_,?_,?_⟩|refine ⟨?_,?_⟩|(refine v_tyc ?_ ?_;omega)|refine v_drawn0 (id:=5) pl49_5 (by kernel_rfl) ?_|refine v_drawn0 (id:=15) pl49_15 (by kernel_rfl) ?_|fail)
        · rename_i hcu hcl
          rw [tg_of] at hc
          have hlt2 := Nat.lt_of_lt_of_le (tsum_lt (z := G.boxes[i].Load.Step + 1) (by omega) (by omega) (.inl hc) hlo.1) hsm
          exact v_again ⟨i + 1, true, _, _⟩ (by dsimp only; omega) rfl inferInstance ⟨hlt, hs, hok.set (by omega) (by omega) (by omega), hso.set (by omega) (by omega) (.opens hmem (hso.tin hcu) rfl (by omega) (by rw [Int.add_sub_cancel]; exact hg)),
            fun x hx => (htd x hx).set (by omega) (by omega) (by omega) (.inl hc), Nat.le_of_lt hlt2, fun _ => hlt2, fun h => by cases h⟩
        · rename_i hcu hcl hcn
          rw [tg_of] at hc
          have hlt2 := Nat.lt_of_lt_of_le (tsum_lt (z := G.boxes[i].Load.Step + 1) (by omega) (by omega) (.inr hc) hlo.1) hsm
          exact v_again ⟨i + 1, true, _, _⟩ (by dsimp only; omega) rfl inferInstance ⟨hlt, hs, hok.set (by omega) (by omega) (by omega), hso.set (by omega) (by omega) (.opens hmem (hso.tin hcu) rfl (by omega) (by rw [Int.add_sub_cancel]; exact hg)),
            fun x hx => (htd x hx).set (by omega) (by omega) (by omega) (.inr hc), Nat.le_of_lt hlt2, fun _ => hlt2, fun h => by cases h⟩
        · rename_i hcu hcl hcn
          rw [tg_of] at hc hcn
          exact v_again ⟨i + 1, m, _, _⟩ (by dsimp only; omega) rfl inferInstance ⟨hlt, hs, hok, hso, htd, hsm, hsl, fun hm => mem_step hlt (hbx hm) fun _ => ⟨hg, .inr ⟨hcn, by dsimp only; omega⟩⟩⟩
        · exact v_again ⟨i + 1, m, _, _⟩ (by dsimp only; omega) rfl inferInstance ⟨hlt, hs, hok, hso, htd, hsm, hsl, fun hm => mem_step hlt (hbx hm) fun _ => ⟨hg, .inl (by omega)⟩⟩
        · exact v_again ⟨i + 1, m, _, _⟩ (by dsimp only; omega) rfl inferInstance ⟨hlt, hs, hok, hso, htd, hsm, hsl, fun hm => mem_step hlt (hbx hm) fun h => absurd h hc⟩
      · rw [List.take_of_length_le hge] at hbx
        repeat' (first | refine stp ?_|(refine v_spT ?_ ?_;omega)|(refine v_spF ?_ ?_;omega)|refine v_spD (fun hc=>?_) (fun hc=>?_)|(refine v_yc ?_ ?_;omega)|refine v_alloc' (fun ba=>?_)|(refine v_set ?_ (fun ss hs hln=>?_);omega)|(refine v_make ?_ (fun sv ss hs hln=>?_);omega)|refine ⟨?_,?_,?_⟩|refine ⟨?_,?_⟩|(refine v_tyc ?_ ?_;omega)|refine v_drawn0 (id:=5) pl49_5 (by kernel_rfl) ?_|refine v_drawn0 (id:=15) pl49_15 (by kernel_rfl) ?_|fail)
        refine v_again ⟨m, t, s⟩ ?_ rfl inferInstance ⟨hs, hok, hso, htd, hbx⟩
        dsimp only
        cases m with
        | false => simp; omega
        | true => have := hsl rfl; simp; omega
end Go.Proofs.YtdfoijfjlhjeaaaGreat

/- The reference's questions; its object as one segment. -/
namespace Go.Proofs.YtdfoijfjlhjeaaaGreat
open Go Go.SX Go.RowKit
set_option maxRecDepth 100000
set_option maxHeartbeats 0
set_option synthInstance.maxSize 100000
set_option synthInstance.maxHeartbeats 400000
abbrev rptr (b : Nat) : Value := .pointer (some ⟨b, 0, none⟩)
noncomputable instance (told : List ApiKey) (boxes : List ApiBox) (a s : Int) : Decidable (Cl told boxes a s) := Classical.propDecidable _
structure RefGd (G : RefM) : Prop where
  td : ∀ x ∈ G.told, Gd x.Base x.Step
  bx : ∀ b ∈ G.boxes, GdB b
theorem rhas_s {br : Nat} {G : RefM} {Γ : List Hp} (h : RefA br G Γ) (hg : RefGd G) (a b : Int) : SX.Spec Tryz.prog 99 #[rptr br, kv a b] Γ [] fun v Γ' => Γ' = [] ∧ v = .bool (decide (Cl G.told G.boxes a b)) := by
  have hh := rclosed_s h hg.td hg.bx
  obtain ⟨v1, v2, v3, s1, s2, s3, rfl, h1, h2, h3⟩ := h
  refine spec_of2 Tryz.func99 Tryz.ntmps99 rfl rfl (fun M w0 => ?_)
  repeat' (first | refine stp ?_|refine v_box (fun bb=>?_)|refine ⟨?_,?_,?_⟩|refine ⟨?_,?_⟩|refine v_drawn0 (id:=1) pl99_1 (by kernel_rfl) ?_|fail)
  refine v_callR hh ?_
  rintro v Γ' ⟨t, s, hs, rfl, hok, hc⟩
  (try dsimp only [List.cons_append, List.nil_append])
  repeat' (first | refine stp ?_|refine v_box (fun bb=>?_)|refine ⟨?_,?_,?_⟩|refine ⟨?_,?_⟩|refine v_drawn0 (id:=1) pl99_1 (by kernel_rfl) ?_|fail)
  refine v_callR (rin_s (ownAt (h := hs)) hok _ _) ?_
  rintro v Γ' ⟨rfl, rfl⟩
  (try dsimp only [List.cons_append, List.nil_append])
  repeat' (first | refine stp ?_|refine v_box (fun bb=>?_)|refine ⟨?_,?_,?_⟩|refine ⟨?_,?_⟩|refine v_drawn0 (id:=1) pl99_1 (by kernel_rfl) ?_|fail)
  refine v_o1 Tryz.results99 ⟨rfl, bD (hc _ _)⟩ ⟨_, inferInstance⟩
def RefM.makes (G : RefM) (b : ApiBox) : Prop := GdB b ∧ (b ∈ G.boxes ∨ Cl G.told G.boxes b.Under.Base b.Under.Step ∧ Cl G.told G.boxes b.Load.Base b.Load.Step)
noncomputable instance (G : RefM) (b : ApiBox) : Decidable (G.makes b) := Classical.propDecidable _
def RefM.makesSl (G : RefM) (b : ApiSealed) : Prop := GoodSl b ∧ (b ∈ G.texts ∨ Cl G.told G.boxes b.Under.Base b.Under.Step)
noncomputable instance (G : RefM) (b : ApiSealed) : Decidable (G.makesSl b) := Classical.propDecidable _
theorem rmakes_s {br : Nat} {G : RefM} {Γ : List Hp} (h : RefA br G Γ) (hg : RefGd G) (b : ApiBox) : SX.Spec Tryz.prog 53 #[rptr br, avApiBox b] Γ [] fun v Γ' => Γ' = [] ∧ v = .bool (decide (G.makes b)) := by
  have hh := rclosed_s h hg.td hg.bx
  have hse := rseen_s h b
  obtain ⟨v1, v2, v3, s1, s2, s3, rfl, h1, h2, h3⟩ := h
  refine spec_of2 Tryz.func53 Tryz.ntmps53 rfl rfl (fun M w0 => ?_)
  repeat' (first | refine stp ?_|refine v_spD (fun hc=>?_) (fun hc=>?_)|refine v_box (fun bb=>?_)|fail)
  · refine v_o1 Tryz.results53 ⟨rfl, bF fun h => hc h.1⟩ ⟨_, inferInstance⟩
  have hgb := Decidable.not_not.1 hc
  clear hc
  refine v_callR hh ?_
  rintro v Γ' ⟨t, s, hs, rfl, hok, hcl⟩
  (try dsimp only [List.cons_append, List.nil_append])
  repeat' (first | refine stp ?_|refine v_spD (fun hc=>?_) (fun hc=>?_)|refine v_box (fun bb=>?_)|fail)
  refine v_callR hse ?_
  rintro v Γ' ⟨rfl, rfl⟩
  (try dsimp only [List.cons_append, List.nil_append])
  repeat' (first | refine stp ?_|refine v_spD (fun hc=>?_) (fun hc=>?_)|refine v_box (fun bb=>?_)|fail)
  · refine v_o1 Tryz.results53 ⟨rfl, bT ⟨hgb, .inl hc⟩⟩ ⟨_, inferInstance⟩
  have hn := hc
  refine v_callR (rin_s (ownAt (h := hs)) hok _ _) ?_
  rintro v Γ' ⟨rfl, rfl⟩
  (try dsimp only [List.cons_append, List.nil_append])
  repeat' (first | refine stp ?_|refine v_spD (fun hc=>?_) (fun hc=>?_)|refine v_box (fun bb=>?_)|fail)
  · refine v_callR (rin_s (ownAt (h := hs)) hok _ _) ?_
    rintro v Γ' ⟨rfl, rfl⟩
    (try dsimp only [List.cons_append, List.nil_append])
    repeat' (first | refine stp ?_|refine v_spD (fun hc=>?_) (fun hc=>?_)|refine v_box (fun bb=>?_)|fail)
    refine v_o1 Tryz.results53 ⟨rfl, bD ?_⟩ ⟨_, inferInstance⟩
    rw [hcl] at hc ⊢
    unfold RefM.makes
    simp [hgb, hn, hc]
  · refine v_o1 Tryz.results53 ⟨rfl, bF ?_⟩ ⟨_, inferInstance⟩
    rw [hcl] at hc
    unfold RefM.makes
    simp [hn, hc]
theorem rmakesSl_s {br : Nat} {G : RefM} {Γ : List Hp} (h : RefA br G Γ) (hg : RefGd G) (b : ApiSealed) : SX.Spec Tryz.prog 54 #[rptr br, avApiSealed b] Γ [] fun v Γ' => Γ' = [] ∧ v = .bool (decide (G.makesSl b)) := by
  have hh := rhas_s h hg b.Under.Base b.Under.Step
  have hse := rread_s h b
  obtain ⟨v1, v2, v3, s1, s2, s3, rfl, h1, h2, h3⟩ := h
  refine spec_of2 Tryz.func54 Tryz.ntmps54 rfl rfl (fun M w0 => ?_)
  repeat' (first | refine stp ?_|refine v_spD (fun hc=>?_) (fun hc=>?_)|refine v_box (fun bb=>?_)|fail)
  · have hgb := hc
    refine v_callR hse ?_
    rintro v Γ' ⟨rfl, rfl⟩
    (try dsimp only [List.cons_append, List.nil_append])
    repeat' (first | refine stp ?_|refine v_spD (fun hc=>?_) (fun hc=>?_)|refine v_box (fun bb=>?_)|fail)
    · refine v_o1 Tryz.results54 ⟨rfl, bT ⟨hgb, .inl hc⟩⟩ ⟨_, inferInstance⟩
    refine v_callR hh ?_
    rintro v Γ' ⟨rfl, rfl⟩
    (try dsimp only [List.cons_append, List.nil_append])
    repeat' (first | refine stp ?_|refine v_spD (fun hc=>?_) (fun hc=>?_)|refine v_box (fun bb=>?_)|fail)
    refine v_o1 Tryz.results54 ⟨rfl, bD ?_⟩ ⟨_, inferInstance⟩
    unfold RefM.makesSl
    simp [hgb, hc]
  · refine v_o1 Tryz.results54 ⟨rfl, bF fun h => hc h.1⟩ ⟨_, inferInstance⟩
/-- the least keys, in order -/
structure KeysOf (told : List ApiKey) (boxes : List ApiBox) (l : List ApiKey) : Prop where
  up : (l.map (·.Base)).Pairwise (· < ·)
  iff : ∀ x, x ∈ l ↔ x.Base < 32768 ∧ Cl told boxes x.Base x.Step ∧ ∀ s, Cl told boxes x.Base s → x.Step ≤ s
theorem KeysOf.uniq {told : List ApiKey} {boxes : List ApiBox} {l l' : List ApiKey} (h : KeysOf told boxes l) (h' : KeysOf told boxes l') : l = l' := by
  have key : ∀ (l l' : List ApiKey), (l.map (·.Base)).Pairwise (· < ·) → (l'.map (·.Base)).Pairwise (· < ·) → (∀ x, x ∈ l ↔ x ∈ l') → l = l' := by
    intro l
    induction l with
    | nil => intro l' _ _ h; cases l' with
      | nil => rfl
      | cons y l' => exact absurd ((h y).2 (by simp)) (by simp)
    | cons x l ih => intro l' h1 h2 h; cases l' with
      | nil => exact absurd ((h x).1 (by simp)) (by simp)
      | cons y l' =>
        simp only [List.map_cons, List.pairwise_cons] at h1 h2
        have e : x = y := by
          rcases List.mem_cons.1 ((h x).1 (by simp)) with e | e1
          · exact e
          · rcases List.mem_cons.1 ((h y).2 (by simp)) with e | e2
            · exact e.symm
            · have := h1.1 _ (List.mem_map.2 ⟨y, e2, rfl⟩)
              have := h2.1 _ (List.mem_map.2 ⟨x, e1, rfl⟩)
              omega
        subst e
        congr 1
        refine ih l' h1.2 h2.2 fun z => ⟨fun hz => ?_, fun hz => ?_⟩
        · rcases List.mem_cons.1 ((h z).1 (List.mem_cons_of_mem _ hz)) with e | e
          · subst e; have := h1.1 _ (List.mem_map.2 ⟨z, hz, rfl⟩); omega
          · exact e
        · rcases List.mem_cons.1 ((h z).2 (List.mem_cons_of_mem _ hz)) with e | e
          · subst e; have := h2.1 _ (List.mem_map.2 ⟨z, hz, rfl⟩); omega
          · exact e
  exact key l l' h.up h'.up fun x => (h.iff x).trans (h'.iff x).symm
structure RkG where
  b : Int
  ov : Value
  ol : List ApiKey
  os : Hp
structure RkOk (t : List Int) (g : RkG) : Prop where
  lo : 1 ≤ g.b
  hi : g.b ≤ 32768
  own : OwnS g.ov 28 ApiKey 2 cvApiKey g.ol g.os
  len : (g.ol.length : Int) ≤ g.b - 1
  up : (g.ol.map (·.Base)).Pairwise (· < ·)
  iff : ∀ x, x ∈ g.ol ↔ 1 ≤ x.Base ∧ x.Base < g.b ∧ tg t x.Base ≠ 0 ∧ x.Step = tg t x.Base - 1
theorem rkeys_s {br : Nat} {G : RefM} {Γ : List Hp} (h : RefA br G Γ) (hg : RefGd G) : SX.Spec Tryz.prog 18 #[rptr br] Γ [] fun v Γ' => ∃ l s, OwnS v 28 ApiKey 2 cvApiKey l s ∧ Γ' = [s] ∧ KeysOf G.told G.boxes l ∧ l.length ≤ 32768 := by
  have hh := rclosed_s h hg.td hg.bx
  obtain ⟨v1, v2, v3, s1, s2, s3, rfl, h1, h2, h3⟩ := h
  refine spec_of1 Tryz.func18 Tryz.ntmps18 rfl rfl (fun M w0 => ?_)
  repeat' (first | refine stp ?_|refine v_spD (fun hc=>?_) (fun hc=>?_)|(refine v_yc ?_ ?_;omega)|refine v_lit (fun bl=>?_)|(refine v_push ?_ (fun sv ss hs hln=>?_);omega)|refine v_yw ?_|fail)
  refine v_callR hh ?_
  rintro v Γ' ⟨t, s, hs, rfl, hok, hcl⟩
  have hlen := hok.len
  (try dsimp only [List.cons_append, List.nil_append])
  repeat' (first | refine stp ?_|refine v_spD (fun hc=>?_) (fun hc=>?_)|(refine v_yc ?_ ?_;omega)|refine v_lit (fun bl=>?_)|(refine v_push ?_ (fun sv ss hs hln=>?_);omega)|refine v_yw ?_|fail)
  refine v_lp [4, 5] [3] (fun g : RkG => [g.ov, .int .i64 g.b]) (fun g => [g.os]) (RkOk t) (fun g => (32768 - g.b).toNat) ⟨1, nilS, [], []⟩ (fun _ => rfl) rfl inferInstance
    ⟨by decide, by decide, OwnS.nil, by decide, by simp, fun x => ?_⟩ ?_
  · simp; intro h1 h2; omega
  rintro ⟨b, ov, ol, os⟩ ⟨hlo, hhi, how, hol, hup, hiff⟩
  dsimp only at hlo hhi how hol hup hiff ⊢
  have htb := hok.lo b
  (try dsimp only [zipE_c, zipE_n, List.cons_append, List.nil_append])
  repeat' (first | refine stp ?_|refine v_spD (fun hc=>?_) (fun hc=>?_)|(refine v_yc ?_ ?_;omega)|refine v_lit (fun bl=>?_)|(refine v_push ?_ (fun sv ss hs hln=>?_);omega)|refine v_yw ?_|fail)
  · rw [tg_of] at hc hs hln
    rw [wr (by omega) (by omega)] at hs hln
    refine v_again ⟨b + 1, sv, _, ss⟩ (by dsimp only; omega) rfl inferInstance ⟨by dsimp only; omega, by dsimp only; omega, hs, by dsimp only; omega, ?_, fun x => ?_⟩
    · simp only [List.map_append, List.map_cons, List.map_nil]
      rw [List.pairwise_append]
      refine ⟨hup, by simp, fun p hp q hq => ?_⟩
      obtain ⟨x, hx, rfl⟩ := List.mem_map.1 hp
      simp only [List.mem_singleton] at hq
      have := (hiff x).1 hx
      omega
    · simp only [List.mem_append, List.mem_singleton, hiff, iff_ApiKey]
      constructor
      · rintro (h | ⟨h1, h2⟩)
        · omega
        · rw [h1]; omega
      · rintro ⟨h1, h2, h3, h4⟩
        by_cases e : x.Base = b
        · right; rw [e] at h4; exact ⟨e, h4⟩
        · left; omega
  · rw [tg_of] at hc
    have hc' : tg t b = 0 := Decidable.not_not.1 hc
    refine v_again ⟨b + 1, ov, ol, os⟩ (by dsimp only; omega) rfl inferInstance ⟨by dsimp only; omega, by dsimp only; omega, how, by dsimp only; omega, hup, fun x => ?_⟩
    rw [hiff]
    constructor
    · rintro ⟨h1, h2, h3, h4⟩; exact ⟨h1, by dsimp only; omega, h3, h4⟩
    · rintro ⟨h1, h2, h3, h4⟩
      dsimp only at h2
      by_cases e : x.Base = b
      · rw [e] at h3; omega
      · exact ⟨h1, by omega, h3, h4⟩
  · obtain rfl : b = 32768 := by omega
    refine v_o1 Tryz.results18 ⟨ol, os, how, rfl, ⟨hup, fun x => ?_⟩, by omega⟩ ⟨_, inferInstance⟩
    rw [hiff]
    have hlx := hok.lo x.Base
    constructor
    · rintro ⟨h1, h2, h3, h4⟩
      refine ⟨h2, (hcl _ _).1 ⟨by unfold Gd; omega, .inr ⟨h3, by omega⟩⟩, fun s hs => ?_⟩
      obtain ⟨_, h | h⟩ := (hcl _ _).2 hs <;> omega
    · rintro ⟨h1, h2, h3⟩
      obtain ⟨g, h | ⟨h4, h5⟩⟩ := (hcl _ _).2 h2
      · omega
      · have g' := g
        unfold Gd at g'
        have := h3 _ ((hcl x.Base (tg t x.Base - 1)).1 ⟨by unfold Gd; omega, .inr ⟨h4, Int.le_refl _⟩⟩)
        omega
theorem same_s {v v' : Value} {l l' : List ApiKey} {s s' : Hp} (h : AtS v 28 ApiKey 2 cvApiKey l s) (h' : AtS v' 28 ApiKey 2 cvApiKey l' s') : SX.Spec Tryz.prog 19 #[v, v'] [s, s'] [] fun v Γ' => Γ' = [] ∧ v = .bool (decide (l = l')) := by
  have hle := h.le
  refine spec_of2 Tryz.func19 Tryz.ntmps19 rfl rfl (fun M w0 => ?_)
  repeat' (first | refine stp ?_|refine v_spD (fun hc=>?_) (fun hc=>?_)|(refine v_yc ?_ ?_;omega)|refine ⟨?_,?_,?_⟩|refine ⟨?_,?_⟩|(refine v_tyc ?_ ?_;omega)|refine v_drawn0 (id:=6) pl19_6 (by kernel_rfl) ?_|fail)
  · refine v_o1 Tryz.results19 ⟨rfl, bF ?_⟩ ⟨_, inferInstance⟩
    rintro rfl; exact hc rfl
  have hll : l.length = l'.length := by omega
  refine v_lp [13] [0, 1, 12] (fun i : Nat => [.int .i64 i]) (fun _ => []) (fun i => i ≤ l.length ∧ l.take i = l'.take i) (fun i => l.length - i) 0 (fun _ => rfl) rfl inferInstance ⟨Nat.zero_le _, by simp⟩ ?_
  rintro i ⟨hi, hn⟩
  (try dsimp only [zipE_c, zipE_n, List.cons_append, List.nil_append])
  repeat' (first | refine stp ?_|refine v_spD (fun hc=>?_) (fun hc=>?_)|(refine v_yc ?_ ?_;omega)|refine ⟨?_,?_,?_⟩|refine ⟨?_,?_⟩|(refine v_tyc ?_ ?_;omega)|refine v_drawn0 (id:=6) pl19_6 (by kernel_rfl) ?_|fail)
  · refine v_o1 Tryz.results19 ⟨rfl, bF ?_⟩ ⟨_, inferInstance⟩
    rintro rfl; exact hc ⟨rfl, rfl⟩
  · have hc := Decidable.not_not.1 hc
    refine v_again (i + 1) (by omega) rfl inferInstance ⟨by omega, ?_⟩
    rw [List.take_add_one, List.take_add_one, hn, List.getElem?_eq_getElem (by omega), List.getElem?_eq_getElem (by omega), (iff_ApiKey _ _).2 hc]
  · refine v_o1 Tryz.results19 ⟨rfl, bT ?_⟩ ⟨_, inferInstance⟩
    rwa [List.take_of_length_le (by omega), List.take_of_length_le (by omega)] at hn
end Go.Proofs.YtdfoijfjlhjeaaaGreat

/- know beside the reference, each as one segment. -/
namespace Go.Proofs.YtdfoijfjlhjeaaaGreat
open Go Go.SX Go.RowKit
set_option maxRecDepth 100000
set_option maxHeartbeats 0
set_option synthInstance.maxSize 100000
set_option synthInstance.maxHeartbeats 400000
def KnowM.makesSl (K : KnowM) (t : ApiSealed) : Prop := 0 < (mget K.texts t).getD 0 ∨ GoodSl t ∧ K.had t.Under.Base t.Under.Step
instance (K : KnowM) (b : ApiSealed) : Decidable (K.makesSl b) := by unfold KnowM.makesSl; infer_instance
theorem makesSl_s {bk : Nat} {K : KnowM} {Γ : List Hp} (h : KnowA bk K Γ) (b : ApiSealed) : SX.Spec Tryz.prog 34 #[kptr bk, avApiSealed b] Γ [] fun v Γ' => Γ' = [] ∧ v = .bool (decide (K.makesSl b)) := by
  have hh := has_s h
  obtain ⟨b1, b2, b3, b4, s1, s2, s3, s4, zm, sh, rfl, h1, h2, h3, h4, h5⟩ := h
  refine spec_of2 Tryz.func34 Tryz.ntmps34 rfl rfl (fun M w0 => ?_)
  repeat' (first | refine stp ?_|refine v_spD (fun hc=>?_) (fun hc=>?_)|refine v_box (fun bb=>?_)|refine ⟨?_,?_,?_⟩|refine ⟨?_,?_⟩|refine v_drawn0 (id:=1) pl34_1 (by kernel_rfl) ?_|fail)
  · refine v_o1 Tryz.results34 ⟨rfl, bT (.inl hc)⟩ ⟨_, inferInstance⟩
  · rename_i hc0
    refine v_callR (hh _ _) ?_
    rintro v Γ' ⟨rfl, rfl⟩
    (try dsimp only [List.cons_append, List.nil_append])
    repeat' (first | refine stp ?_|refine v_spD (fun hc=>?_) (fun hc=>?_)|refine v_box (fun bb=>?_)|refine ⟨?_,?_,?_⟩|refine ⟨?_,?_⟩|refine v_drawn0 (id:=1) pl34_1 (by kernel_rfl) ?_|fail)
    refine v_o1 Tryz.results34 ⟨rfl, bD ?_⟩ ⟨_, inferInstance⟩
    unfold KnowM.makesSl
    simp [hc, hc0]
  · rename_i hc0
    refine v_o1 Tryz.results34 ⟨rfl, bF ?_⟩ ⟨_, inferInstance⟩
    unfold KnowM.makesSl
    simp [hc, hc0]
theorem makesSlS {bk : Nat} {K : KnowM} {s : Hp} (h : KnowS bk K s) (b : ApiSealed) : SX.Spec Tryz.prog 34 #[kptr bk, avApiSealed b] [s] [] fun v Γ' => Γ' = [] ∧ v = .bool (decide (K.makesSl b)) := by
  obtain ⟨Γ, rfl, h⟩ := h
  exact (makesSl_s h b).rd
/-- the reference's object -/
def RefS (br : Nat) (G : RefM) (s : Hp) : Prop := RefGd G ∧ ∃ Γ, s = Γ.flatten ∧ RefA br G Γ
theorem rhasS {br : Nat} {G : RefM} {s : Hp} (h : RefS br G s) (a b : Int) : SX.Spec Tryz.prog 99 #[rptr br, kv a b] [s] [] fun v Γ' => Γ' = [] ∧ v = .bool (decide (Cl G.told G.boxes a b)) := by
  obtain ⟨hg, Γ, rfl, h⟩ := h
  exact (rhas_s h hg a b).rd
theorem rclosedS {br : Nat} {G : RefM} {s : Hp} (h : RefS br G s) : SX.Spec Tryz.prog 49 #[rptr br] [s] [] fun v Γ' => ∃ t s, OwnS v 3 Int 1 ic t s ∧ Γ' = [s] ∧ TabOk t ∧ ∀ a b, Tin t a b ↔ Cl G.told G.boxes a b := by
  obtain ⟨hg, Γ, rfl, h⟩ := h
  exact (rclosed_s h hg.td hg.bx).rd
theorem rmakesS {br : Nat} {G : RefM} {s : Hp} (h : RefS br G s) (b : ApiBox) : SX.Spec Tryz.prog 53 #[rptr br, avApiBox b] [s] [] fun v Γ' => Γ' = [] ∧ v = .bool (decide (G.makes b)) := by
  obtain ⟨hg, Γ, rfl, h⟩ := h
  exact (rmakes_s h hg b).rd
theorem rmakesSlS {br : Nat} {G : RefM} {s : Hp} (h : RefS br G s) (b : ApiSealed) : SX.Spec Tryz.prog 54 #[rptr br, avApiSealed b] [s] [] fun v Γ' => Γ' = [] ∧ v = .bool (decide (G.makesSl b)) := by
  obtain ⟨hg, Γ, rfl, h⟩ := h
  exact (rmakesSl_s h hg b).rd
theorem rkeysS {br : Nat} {G : RefM} {s : Hp} (h : RefS br G s) : SX.Spec Tryz.prog 18 #[rptr br] [s] [] fun v Γ' => ∃ l s, OwnS v 28 ApiKey 2 cvApiKey l s ∧ Γ' = [s] ∧ KeysOf G.told G.boxes l ∧ l.length ≤ 32768 := by
  obtain ⟨hg, Γ, rfl, h⟩ := h
  exact (rkeys_s h hg).rd
theorem tellKey_len (l : List ApiKey) (x : ApiKey) : (tellKey l x).length ≤ l.length + 1 := by unfold tellKey; split <;> simp
theorem tellBox_len (l : List ApiBox) (x : ApiBox) : (tellBox l x).length ≤ l.length + 1 := by unfold tellBox; split <;> simp
theorem tellText_len (l : List ApiSealed) (x : ApiSealed) : (tellText l x).length ≤ l.length + 1 := by unfold tellText; split <;> simp
/-- .. how much there is -/
structure RefLe (G : RefM) (n : Nat) : Prop where
  td : G.told.length ≤ n
  bx : G.boxes.length ≤ n
  tx : G.texts.length ≤ n
theorem rlearnS {br : Nat} {G : RefM} {s : Hp} (h : RefS br G s) (x : ApiKey) (hg' : RefGd ⟨tellKey G.told x, G.boxes, G.texts⟩) (hb : (G.told.length + 2) * 16 ≤ 140737488355328) : SX.Spec Tryz.prog 47 #[rptr br, avApiKey x] [] [s] fun v Γ' => ∃ s', v = .tuple #[] ∧ Γ' = [s'] ∧ RefS br ⟨tellKey G.told x, G.boxes, G.texts⟩ s' := by
  obtain ⟨hg, Γ, rfl, h⟩ := h
  exact (rlearn_s h x hb).own.weak fun _ _ ⟨Γ0, e, h1, h3⟩ => ⟨_, h1, e, hg', Γ0, rfl, h3⟩
theorem rseeS {br : Nat} {G : RefM} {s : Hp} (h : RefS br G s) (x : ApiBox) (hg' : RefGd ⟨G.told, tellBox G.boxes x, G.texts⟩) (hb : (G.boxes.length + 2) * 32 ≤ 140737488355328) : SX.Spec Tryz.prog 90 #[rptr br, avApiBox x] [] [s] fun v Γ' => ∃ s', v = .tuple #[] ∧ Γ' = [s'] ∧ RefS br ⟨G.told, tellBox G.boxes x, G.texts⟩ s' := by
  obtain ⟨hg, Γ, rfl, h⟩ := h
  exact (rsee_s h x hb).own.weak fun _ _ ⟨Γ0, e, h1, h3⟩ => ⟨_, h1, e, hg', Γ0, rfl, h3⟩
theorem rseeSealedS {br : Nat} {G : RefM} {s : Hp} (h : RefS br G s) (x : ApiSealed) (hg' : RefGd ⟨G.told, G.boxes, tellText G.texts x⟩) (hb : (G.texts.length + 2) * 40 ≤ 140737488355328) : SX.Spec Tryz.prog 91 #[rptr br, avApiSealed x] [] [s] fun v Γ' => ∃ s', v = .tuple #[] ∧ Γ' = [s'] ∧ RefS br ⟨G.told, G.boxes, tellText G.texts x⟩ s' := by
  obtain ⟨hg, Γ, rfl, h⟩ := h
  exact (rseeSealed_s h x hb).own.weak fun _ _ ⟨Γ0, e, h1, h3⟩ => ⟨_, h1, e, hg', Γ0, rfl, h3⟩
/-- the program beside the reference -/
def KinG (G : RefM) (n : Nat) (K : KnowM) : Prop := Kin G.told G.boxes G.texts n K
theorem KinG.gd {G : RefM} {n : Nat} {K : KnowM} (h : KinG G n K) : RefGd G := ⟨h.w.gt, h.w.gb⟩
theorem KinG.zero : KinG RefM.zero 0 KnowM.zero := Kin.zero
theorem KinG.had {G : RefM} {n : Nat} {K : KnowM} (h : KinG G n K) (a s : Int) : K.had a s ↔ Cl G.told G.boxes a s := h.w.iff a s
theorem KinG.makes {G : RefM} {n : Nat} {K : KnowM} (h : KinG G n K) (b : ApiBox) : K.makes b ↔ G.makes b := by
  unfold KnowM.makes RefM.makes
  rw [h.bx, h.had, h.had]
  constructor
  · rintro (h1 | ⟨h1, h2⟩)
    · exact ⟨h.w.gb b h1, .inl h1⟩
    · exact ⟨⟨h1.gd, h2.gd⟩, .inr ⟨h1, h2⟩⟩
  · exact fun h => h.2
theorem KinG.makesSl {G : RefM} {n : Nat} {K : KnowM} (h : KinG G n K) (b : ApiSealed) : K.makesSl b ↔ G.makesSl b := by
  unfold KnowM.makesSl RefM.makesSl
  rw [h.tx, h.had]
  constructor
  · rintro (h1 | ⟨h1, h2⟩)
    · exact ⟨h.tg b h1, .inl h1⟩
    · exact ⟨h1, .inr h2⟩
  · rintro ⟨h1, h2 | h2⟩
    · exact .inl h2
    · exact .inr ⟨h1, h2⟩
end Go.Proofs.YtdfoijfjlhjeaaaGreat

/- spy.Watch, spy.Allowed. -/
namespace Go.Proofs.YtdfoijfjlhjeaaaGreat
open Go Go.SX Go.RowKit
set_option maxRecDepth 100000
set_option maxHeartbeats 0
set_option synthInstance.maxSize 100000
set_option synthInstance.maxHeartbeats 400000
abbrev slOf (m : MsgM) : ApiSealed := ⟨m.Sealed.Epoch, m.Sealed.Under, ⟨m.Sealed.Text.toArray⟩⟩
inductive SeesR : KnowM → List ApiBox → KnowM → Prop
  | nil {K : KnowM} : SeesR K [] K
  | cons {K K1 K2 : KnowM} {b : ApiBox} {l : List ApiBox} : SeeR K b K1 → SeesR K1 l K2 → SeesR K (b :: l) K2
theorem SeesR.snoc {K K1 K2 : KnowM} {b : ApiBox} {l : List ApiBox} (h : SeesR K l K1) (h' : SeeR K1 b K2) : SeesR K (l ++ [b]) K2 := by
  induction h with
  | nil => exact .cons h' .nil
  | cons h1 _ ih => exact .cons h1 (ih h')
theorem SeesR.tot {K K' : KnowM} {l : List ApiBox} (h : SeesR K l K') : tot K'.shut ≤ tot K.shut + l.length := by
  induction h with
  | nil => exact Nat.le_refl _
  | cons h1 _ ih => have := h1.tot; simp only [List.length_cons]; omega
def WatchR (K : KnowM) (l : List UInt8) (K' : KnowM) : Prop := match decP l with
  | none => K' = K
  | some x => ∃ K1, SeesR K (bxs x.msg) K1 ∧ K' = K1.read (slOf x.msg)
theorem dec_ok {l : List UInt8} {x : Body} (h : decP l = some x) : GoodM x.msg ∧ okB x := by
  unfold decP at h
  split at h
  · rename_i y r hr
    split at h
    · rename_i hg
      cases h
      exact ⟨hg.2, (bodyC.forth _ _ _ hr).2⟩
    · cases h
  · cases h
theorem bxs_len {l : List UInt8} {x : Body} (h : decP l = some x) : (bxs x.msg).length ≤ 2047 ∧ x.msg.Rekey.Items.length ≤ 2047 := by
  have ho := (dec_ok h).2
  have p11 : (2 : Int) ^ 11 = 2048 := rfl
  cases x with
  | rekey r =>
    have h1 : (r.Items.length : Int) < 2 ^ 11 := ho.2.1.2
    have h2 : (bxs (Body.rekey r).msg).length = r.Items.length := List.length_map (fun i : ApiItem => i.Box)
    have h3 : (Body.rekey r).msg.Rekey.Items.length = r.Items.length := rfl
    omega
  | request a b => exact ⟨(by show (0 : Nat) ≤ _; decide), (by show (0 : Nat) ≤ _; decide)⟩
  | reply p =>
    have h1 : p.Path.length = 3 := ho.2.1
    have h2 : (bxs (Body.reply p).msg).length = p.Path.length := rfl
    have h3 : (Body.reply p).msg.Rekey.Items.length = 0 := rfl
    omega
  | «sealed» t => exact ⟨(by show (0 : Nat) ≤ _; decide), (by show (0 : Nat) ≤ _; decide)⟩
theorem WatchR.tot {K K' : KnowM} {l : List UInt8} (h : WatchR K l K') : tot K'.shut ≤ tot K.shut + 2047 := by
  unfold WatchR at h
  split at h
  · rw [h]; omega
  · rename_i x hx
    obtain ⟨K1, h1, rfl⟩ := h
    have h2 := h1.tot
    have h3 := (bxs_len hx).1
    rw [KnowM.read_shut]; omega
structure WaG where
  i : Nat
  K : KnowM
  s : Hp
theorem watch_s {bk : Nat} {K : KnowM} {s : Hp} (h : KnowS bk K s) (l : List UInt8) (hl : l.length ≤ 281474976710656) (hb : (tot K.shut + 3000) * 32 ≤ 140737488355328) : SX.Spec Tryz.prog 13 #[kptr bk, str l] [] [s] fun v Γ => ∃ K' s', v = .tuple #[] ∧ Γ = [s'] ∧ WatchR K l K' ∧ KnowS bk K' s' := by
  refine spec_of2 Tryz.func13 Tryz.ntmps13 rfl rfl (fun M w0 => ?_)
  repeat' (first | refine stp ?_|(refine v_spT ?_ ?_;omega)|(refine v_spF ?_ ?_;omega)|(refine v_yc ?_ ?_;omega)|refine v_alloc' (fun ba=>?_)|fail)
  refine v_callR (dec_s l hl) ?_
  rintro v Γ' (⟨x, cs, hx, ⟨v1, s1, v2, s2, v3, s3, ⟨p1, p2, p3, hp, rfl⟩, o1, o2, o3, rfl⟩, rfl⟩ | ⟨hn, rfl, rfl⟩)
  · obtain ⟨hbl, hil⟩ := bxs_len hx
    (try dsimp only [List.cons_append, List.nil_append])
    repeat' (first | refine stp ?_|(refine v_spT ?_ ?_;omega)|(refine v_spF ?_ ?_;omega)|(refine v_yc ?_ ?_;omega)|refine v_alloc' (fun ba=>?_)|fail)
    refine v_callR (boxes_s x.msg v1 v2 v3 s3 _ ⟨p1, p2, p3, hp, rfl⟩ (ownAt (h := o3)) (by omega)) ?_
    rintro v Γ' ⟨sb, ob, rfl⟩
    (try dsimp only [List.cons_append, List.nil_append])
    repeat' (first | refine stp ?_|(refine v_spT ?_ ?_;omega)|(refine v_spF ?_ ?_;omega)|(refine v_yc ?_ ?_;omega)|refine v_alloc' (fun ba=>?_)|fail)
    have hat := ownAt (h := ob)
    refine v_lp [18] [0, 4, 16, 17] (fun g : WaG => [.int .i64 g.i]) (fun g => [g.s]) (fun g => g.i ≤ (bxs x.msg).length ∧ SeesR K ((bxs x.msg).take g.i) g.K ∧ KnowS bk g.K g.s) (fun g => (bxs x.msg).length - g.i) ⟨0, K, s⟩ (fun _ => rfl) rfl inferInstance ⟨Nat.zero_le _, .nil, h⟩ ?_
    rintro ⟨i, K1, t⟩ ⟨hi, hK, ht⟩
    dsimp only at hi hK ht ⊢
    (try dsimp only [zipE_c, zipE_n, List.cons_append, List.nil_append])
    rcases Nat.lt_or_ge i (bxs x.msg).length with hlt | hge
    · have htot := hK.tot
      rw [List.length_take] at htot
      repeat' (first | refine stp ?_|(refine v_spT ?_ ?_;omega)|(refine v_spF ?_ ?_;omega)|(refine v_yc ?_ ?_;omega)|refine v_alloc' (fun ba=>?_)|fail)
      refine v_callO (seeS ht (bxs x.msg)[i] (by omega)) ?_
      rintro u Γ' ⟨K2, t2, rfl, rfl, hs2, ht2⟩
      (try dsimp only [List.cons_append, List.nil_append])
      repeat' (first | refine stp ?_|(refine v_spT ?_ ?_;omega)|(refine v_spF ?_ ?_;omega)|(refine v_yc ?_ ?_;omega)|refine v_alloc' (fun ba=>?_)|fail)
      refine v_again ⟨i + 1, K2, t2⟩ (by dsimp only; omega) rfl inferInstance ⟨hlt, ?_, ht2⟩
      dsimp only
      rw [List.take_succ_eq_append_getElem hlt]
      exact hK.snoc hs2
    · obtain rfl : i = (bxs x.msg).length := by omega
      rw [List.take_length] at hK
      repeat' (first | refine stp ?_|(refine v_spT ?_ ?_;omega)|(refine v_spF ?_ ?_;omega)|(refine v_yc ?_ ?_;omega)|refine v_alloc' (fun ba=>?_)|fail)
      refine v_callO (seeSealedS ht (slOf x.msg)) ?_
      rintro u Γ' ⟨t2, rfl, rfl, ht2⟩
      (try dsimp only [List.cons_append, List.nil_append])
      repeat' (first | refine stp ?_|(refine v_spT ?_ ?_;omega)|(refine v_spF ?_ ?_;omega)|(refine v_yc ?_ ?_;omega)|refine v_alloc' (fun ba=>?_)|fail)
      refine v_o0 Tryz.results13 ⟨_, t2, rfl, rfl, ?_, ht2⟩ ⟨_, inferInstance⟩
      unfold WatchR; rw [hx]; exact ⟨K1, hK, rfl⟩
  · (try dsimp only [List.cons_append, List.nil_append])
    repeat' (first | refine stp ?_|(refine v_spT ?_ ?_;omega)|(refine v_spF ?_ ?_;omega)|(refine v_yc ?_ ?_;omega)|refine v_alloc' (fun ba=>?_)|fail)
    refine v_o0 Tryz.results13 ⟨K, s, rfl, rfl, by unfold WatchR; rw [hn], h⟩ ⟨_, inferInstance⟩
def KnowM.allows (K : KnowM) (l : List UInt8) : Prop := ∀ x, decP l = some x → (∀ b ∈ bxs x.msg, K.makes b) ∧ (x.msg.Kind = 4 → K.makesSl (slOf x.msg))
noncomputable instance (K : KnowM) (l : List UInt8) : Decidable (K.allows l) := Classical.propDecidable _
/-- the first place where it holds, or -1 -/
def fidxB (p : ApiBox → Bool) (l : List ApiBox) : Int := match l.findIdx? p with
  | some i => i
  | none => -1
theorem fidxB_ge (p : ApiBox → Bool) (l : List ApiBox) : 0 ≤ fidxB p l ↔ ∃ x ∈ l, p x = true := by
  unfold fidxB
  cases e : l.findIdx? p with
  | none =>
    have := List.findIdx?_eq_none_iff.1 e
    constructor
    · intro h; simp at h
    · rintro ⟨x, hx, hp⟩; rw [this x hx] at hp; cases hp
  | some i =>
    obtain ⟨hi, h1, h2⟩ := List.findIdx?_eq_some_iff_getElem.1 e
    exact ⟨fun _ => ⟨l[i], List.getElem_mem hi, h1⟩, fun _ => Int.natCast_nonneg i⟩
theorem indexB_s {D : Bool} {v : Value} {l : List ApiBox} {s : Hp} (h : AtS v 30 ApiBox 4 cvApiBox l s) {g : Nat} [Fn1 Tryz.prog g] (cs : List Value) {Rc : List Hp} (p : ApiBox → Bool)
    (hp : ∀ x : ApiBox, SpecD D Tryz.prog g (avApiBox x :: cs).toArray Rc [] fun u Γ => u = .bool (p x) ∧ Γ = []) : SpecD D Tryz.prog 80 #[v, .func (.func g) #[] cs.toArray] (s :: Rc) [] fun u Γ => u = .int .i64 (fidxB p l) ∧ Γ = [] := by
  have hle := h.le
  have hsub : ∀ Γ, SX.Sub Rc (s :: Rc) Γ := fun Γ => ⟨fun x hx => .inl (by rw [List.flatten_cons, List.mem_append]; exact .inr hx)⟩
  refine spec_of2 Tryz.func80 Tryz.ntmps80 rfl rfl (fun M w0 => ?_)
  repeat' (first | refine stp ?_|(refine v_spT ?_ ?_;omega)|(refine v_spF ?_ ?_;omega)|refine v_spB (fun hc=>?_) (fun hc=>?_)|(refine v_yc ?_ ?_;omega)|fail)
  refine v_lp [8] [0, 1, 7] (fun i : Nat => [.int .i64 i]) (fun _ => []) (fun i => i ≤ l.length ∧ ∀ y ∈ l.take i, p y = false) (fun i => l.length - i) 0 (fun _ => rfl) rfl inferInstance ⟨Nat.zero_le _, by simp⟩ ?_
  rintro i ⟨hi, hn⟩
  (try dsimp only [zipE_c, zipE_n, List.cons_append, List.nil_append])
  rcases Nat.lt_or_ge i l.length with hlt | hge
  · repeat' (first | refine stp ?_|(refine v_spT ?_ ?_;omega)|(refine v_spF ?_ ?_;omega)|refine v_spB (fun hc=>?_) (fun hc=>?_)|(refine v_yc ?_ ?_;omega)|fail)
    refine v_callVR (hp l[i]) ?_
    rintro u Γ' ⟨rfl, rfl⟩
    (try dsimp only [List.cons_append, List.nil_append])
    repeat' (first | refine stp ?_|(refine v_spT ?_ ?_;omega)|(refine v_spF ?_ ?_;omega)|refine v_spB (fun hc=>?_) (fun hc=>?_)|(refine v_yc ?_ ?_;omega)|fail)
    · refine v_o1 Tryz.results80 ⟨iI ?_, rfl⟩ ⟨_, inferInstance⟩
      have : l.findIdx? p = some i := by
        rw [List.findIdx?_eq_some_iff_getElem]
        exact ⟨hlt, hc, fun j hj => by simpa using hn l[j] (List.mem_take_iff_getElem.2 ⟨j, by omega, rfl⟩)⟩
      unfold fidxB; rw [this]
    · refine v_again (i + 1) (by omega) rfl inferInstance ⟨hlt, fun y hy => ?_⟩
      rw [List.take_add_one, List.getElem?_eq_getElem hlt, Option.toList_some, List.mem_append, List.mem_singleton] at hy
      rcases hy with hy | rfl
      · exact hn y hy
      · exact hc
  · repeat' (first | refine stp ?_|(refine v_spT ?_ ?_;omega)|(refine v_spF ?_ ?_;omega)|refine v_spB (fun hc=>?_) (fun hc=>?_)|(refine v_yc ?_ ?_;omega)|fail)
    refine v_o1 Tryz.results80 ⟨iI ?_, rfl⟩ ⟨_, inferInstance⟩
    rw [List.take_of_length_le hge] at hn
    have : l.findIdx? p = none := by
      rw [List.findIdx?_eq_none_iff]
      exact hn
    unfold fidxB; rw [this]
theorem containsB_s {D : Bool} {v : Value} {l : List ApiBox} {s : Hp} (h : AtS v 30 ApiBox 4 cvApiBox l s) {g : Nat} [Fn1 Tryz.prog g] (cs : List Value) {Rc : List Hp} (p : ApiBox → Bool)
    (hp : ∀ x : ApiBox, SpecD D Tryz.prog g (avApiBox x :: cs).toArray Rc [] fun u Γ => u = .bool (p x) ∧ Γ = []) : SpecD D Tryz.prog 35 #[v, .func (.func g) #[] cs.toArray] (s :: Rc) [] fun u Γ => u = .bool (decide (0 ≤ fidxB p l)) ∧ Γ = [] := by
  have hsub : ∀ Γ, SX.Sub Rc (s :: Rc) Γ := fun Γ => ⟨fun x hx => .inl (by rw [List.flatten_cons, List.mem_append]; exact .inr hx)⟩
  have hseg : ∀ Γ, SX.Sub (s :: Rc) (s :: Rc) Γ := fun Γ => ⟨fun x hx => .inl hx⟩
  refine spec_of2 Tryz.func35 Tryz.ntmps35 rfl rfl (fun M w0 => ?_)
  repeat' (first | refine stp ?_|fail)
  refine v_callR (indexB_s h cs p hp) ?_
  rintro u Γ' ⟨rfl, rfl⟩
  (try dsimp only [List.cons_append, List.nil_append])
  repeat' (first | refine stp ?_|fail)
  refine v_o1 Tryz.results35 ⟨rfl, rfl⟩ ⟨_, inferInstance⟩
theorem allowed1_s {bk : Nat} {K : KnowM} {s : Hp} (h : KnowS bk K s) (B : Nat) (x : ApiBox) : SX.Spec Tryz.prog 36 #[avApiBox x, pt B] [[(B, .cells #[kptr bk] 54 (0, 0))], s] [] fun u Γ => u = .bool (decide (¬ K.makes x)) ∧ Γ = [] := by
  refine spec_of2 Tryz.func36 Tryz.ntmps36 rfl rfl (fun M w0 => ?_)
  repeat' (first | refine stp ?_|refine v_box (fun bb=>?_)|fail)
  refine v_callR (makesS h x) ?_
  rintro u Γ' ⟨rfl, rfl⟩
  (try dsimp only [List.cons_append, List.nil_append])
  repeat' (first | refine stp ?_|refine v_box (fun bb=>?_)|fail)
  refine v_o1 Tryz.results36 ⟨rfl, rfl⟩ ⟨_, inferInstance⟩
theorem bxs4 {m : MsgM} (h : m.Kind = 4) : bxs m = [] := by
  unfold bxs
  rw [if_neg (by omega), if_neg (by omega)]
theorem allowed_s {bk : Nat} {K : KnowM} {s : Hp} (h : KnowS bk K s) (l : List UInt8) (hl : l.length ≤ 281474976710656) : SX.Spec Tryz.prog 14 #[kptr bk, str l] [s] [] fun v Γ => Γ = [] ∧ v = .bool (decide (K.allows l)) := by
  refine spec_of2 Tryz.func14 Tryz.ntmps14 rfl rfl (fun M w0 => ?_)
  repeat' (first | refine stp ?_|(refine v_spT ?_ ?_;omega)|(refine v_spF ?_ ?_;omega)|refine v_spD (fun hc=>?_) (fun hc=>?_)|refine v_alloc' (fun ba=>?_)|refine v_box (fun bb=>?_)|fail)
  refine v_callR (dec_s l hl) ?_
  rintro v Γ' (⟨x, cs, hx, ⟨v1, s1, v2, s2, v3, s3, ⟨p1, p2, p3, hp, rfl⟩, o1, o2, o3, rfl⟩, rfl⟩ | ⟨hn, rfl, rfl⟩)
  · obtain ⟨hbl, hil⟩ := bxs_len hx
    (try dsimp only [List.cons_append, List.nil_append])
    repeat' (first | refine stp ?_|(refine v_spT ?_ ?_;omega)|(refine v_spF ?_ ?_;omega)|refine v_spD (fun hc=>?_) (fun hc=>?_)|refine v_alloc' (fun ba=>?_)|refine v_box (fun bb=>?_)|fail)
    · refine v_callR (makesSlS h (slOf x.msg)) ?_
      rintro u Γ' ⟨rfl, rfl⟩
      (try dsimp only [List.cons_append, List.nil_append])
      repeat' (first | refine stp ?_|(refine v_spT ?_ ?_;omega)|(refine v_spF ?_ ?_;omega)|refine v_spD (fun hc=>?_) (fun hc=>?_)|refine v_alloc' (fun ba=>?_)|refine v_box (fun bb=>?_)|fail)
      refine v_o1 Tryz.results14 ⟨rfl, bD ?_⟩ ⟨_, inferInstance⟩
      constructor
      · intro hm y hy
        rw [hx] at hy; cases hy
        exact ⟨fun b hb => by rw [bxs4 hc] at hb; simp at hb, fun _ => hm⟩
      · intro hm; exact (hm x hx).2 hc
    · refine v_callR (boxes_s x.msg v1 v2 v3 s3 _ ⟨p1, p2, p3, hp, rfl⟩ (ownAt (h := o3)) (by omega)) ?_
      rintro v Γ' ⟨sb, ob, rfl⟩
      (try dsimp only [List.cons_append, List.nil_append])
      repeat' (first | refine stp ?_|(refine v_spT ?_ ?_;omega)|(refine v_spF ?_ ?_;omega)|refine v_spD (fun hc=>?_) (fun hc=>?_)|refine v_alloc' (fun ba=>?_)|refine v_box (fun bb=>?_)|fail)
      refine v_callR (containsB_s (ownAt (h := ob)) [.pointer (some ⟨bb, 0, none⟩)] (fun x => decide (¬ K.makes x)) (allowed1_s h bb)) ?_
      rintro u Γ' ⟨rfl, rfl⟩
      (try dsimp only [List.cons_append, List.nil_append])
      repeat' (first | refine stp ?_|(refine v_spT ?_ ?_;omega)|(refine v_spF ?_ ?_;omega)|refine v_spD (fun hc=>?_) (fun hc=>?_)|refine v_alloc' (fun ba=>?_)|refine v_box (fun bb=>?_)|fail)
      refine v_o1 Tryz.results14 ⟨rfl, bD ?_⟩ ⟨_, inferInstance⟩
      rw [fidxB_ge]
      constructor
      · intro hm y hy
        rw [hx] at hy; cases hy
        exact ⟨fun b hb => Classical.byContradiction fun hn => hm ⟨b, hb, decide_eq_true hn⟩, fun h4 => absurd h4 hc⟩
      · rintro hm ⟨b, hb, hn⟩
        exact (of_decide_eq_true hn) ((hm x hx).1 b hb)
  · (try dsimp only [List.cons_append, List.nil_append])
    repeat' (first | refine stp ?_|(refine v_spT ?_ ?_;omega)|(refine v_spF ?_ ?_;omega)|refine v_spD (fun hc=>?_) (fun hc=>?_)|refine v_alloc' (fun ba=>?_)|refine v_box (fun bb=>?_)|fail)
    refine v_o1 Tryz.results14 ⟨rfl, bT (fun x hx => by rw [hn] at hx; cases hx)⟩ ⟨_, inferInstance⟩
end Go.Proofs.YtdfoijfjlhjeaaaGreat

/- coterieref21.Watch, Allowed; beside the program's. -/
namespace Go.Proofs.YtdfoijfjlhjeaaaGreat
open Go Go.SX Go.RowKit
set_option maxRecDepth 100000
set_option maxHeartbeats 0
set_option synthInstance.maxSize 100000
set_option synthInstance.maxHeartbeats 400000
def RefM.watch (G : RefM) (l : List UInt8) : RefM := match decP l with
  | none => G
  | some x => ⟨G.told, (bxs x.msg).foldl tellBox G.boxes, tellText G.texts (slOf x.msg)⟩
def RefM.allows (G : RefM) (l : List UInt8) : Prop := ∀ x, decP l = some x → (∀ b ∈ bxs x.msg, G.makes b) ∧ (x.msg.Kind = 4 → G.makesSl (slOf x.msg))
noncomputable instance (G : RefM) (l : List UInt8) : Decidable (G.allows l) := Classical.propDecidable _
theorem KinG.sees {told : List ApiKey} {boxes : List ApiBox} {texts : List ApiSealed} {n : Nat} {K K' : KnowM} {l : List ApiBox} (h : Kin told boxes texts n K) (hs : SeesR K l K') : Kin told (l.foldl tellBox boxes) texts n K' := by
  induction hs generalizing boxes with
  | nil => exact h
  | cons h1 _ ih => exact ih (h.see h1)
theorem KinG.watch {G : RefM} {n : Nat} {K K' : KnowM} {l : List UInt8} (h : KinG G n K) (hw : WatchR K l K') (hn : n < 9223372036854775000) : KinG (G.watch l) (n + 1) K' := by
  unfold WatchR at hw
  have hg : KinG (G.watch l) (n + 1) K' := by
    cases e : decP l with
    | none =>
      have e2 : G.watch l = G := by unfold RefM.watch; rw [e]
      rw [e] at hw
      rw [e2, show K' = K from hw]
      exact h.le (Nat.le_succ n)
    | some x =>
      have e2 : G.watch l = ⟨G.told, (bxs x.msg).foldl tellBox G.boxes, tellText G.texts (slOf x.msg)⟩ := by unfold RefM.watch; rw [e]
      rw [e] at hw
      obtain ⟨K1, h1, rfl⟩ := hw
      rw [e2]
      exact (KinG.sees h h1).read _ hn
  exact hg
theorem KinG.allows {G : RefM} {n : Nat} {K : KnowM} (h : KinG G n K) (l : List UInt8) : K.allows l ↔ G.allows l :=
  ⟨fun a x hx => ⟨fun b hb => (h.makes b).1 ((a x hx).1 b hb), fun h4 => (h.makesSl _).1 ((a x hx).2 h4)⟩, fun a x hx => ⟨fun b hb => (h.makes b).2 ((a x hx).1 b hb), fun h4 => (h.makesSl _).2 ((a x hx).2 h4)⟩⟩
theorem tellBox_len' (l : List ApiBox) : ∀ (bs : List ApiBox), (l.foldl tellBox bs).length ≤ bs.length + l.length := by
  induction l with
  | nil => intro bs; exact Nat.le_refl _
  | cons b l ih => intro bs; have h1 := ih (tellBox bs b); have h2 := tellBox_len bs b; simp only [List.foldl_cons, List.length_cons]; omega
theorem tellBox_gd {bs : List ApiBox} (h : ∀ b ∈ bs, GdB b) (x : ApiBox) : ∀ b ∈ tellBox bs x, GdB b := by
  unfold tellBox
  split
  · rename_i hc
    intro b hb
    rcases List.mem_append.1 hb with hb | hb
    · exact h b hb
    · rw [List.mem_singleton.1 hb]; exact hc.1
  · exact h
theorem sl_no {x : Body} (h : ¬ x.msg.Kind = 4) : ¬ GoodSl (slOf x.msg) := by
  cases x with
  | «sealed» t => exact absurd rfl h
  | _ => exact fun hg => absurd hg.1.1 (by show ¬ (1 : Int) ≤ 0; decide)
theorem tellText_no {texts : List ApiSealed} {t : ApiSealed} (h : ¬ GoodSl t) : tellText texts t = texts := by
  unfold tellText; rw [if_neg (fun hh => h hh.1)]
structure RwG where
  i : Nat
  s : Hp
theorem foldl_take1 {α β : Type} (f : β → α → β) (z : β) {l : List α} {i : Nat} (h : i < l.length) : (l.take (i + 1)).foldl f z = f ((l.take i).foldl f z) l[i] := by
  rw [List.take_succ_eq_append_getElem h, List.foldl_append]; rfl
theorem fold_gd {bs : List ApiBox} (h : ∀ b ∈ bs, GdB b) : ∀ l : List ApiBox, ∀ b ∈ l.foldl tellBox bs, GdB b
  | [] => h
  | x :: l => fold_gd (tellBox_gd h x) l
theorem rwatch_s {br : Nat} {G : RefM} {s : Hp} (h : RefS br G s) (l : List UInt8) (hl : l.length ≤ 34359738368) (hb : (G.boxes.length + 3000) * 40 ≤ 140737488355328) (hb2 : (G.texts.length + 2) * 40 ≤ 140737488355328) : SX.Spec Tryz.prog 48 #[rptr br, str l] [] [s] fun v Γ => ∃ s', v = .tuple #[] ∧ Γ = [s'] ∧ RefS br (G.watch l) s' := by
  refine spec_of2 Tryz.func48 Tryz.ntmps48 rfl rfl (fun M w0 => ?_)
  repeat' (first | refine stp ?_|(refine v_spT ?_ ?_;omega)|(refine v_spF ?_ ?_;omega)|refine v_spD (fun hc=>?_) (fun hc=>?_)|(refine v_yc ?_ ?_;omega)|refine v_alloc' (fun ba=>?_)|fail)
  refine v_callR (rdec_s l hl) ?_
  rintro v Γ' (⟨x, cs, hx, ⟨v1, s1, v2, s2, v3, s3, ⟨p1, p2, p3, hp, rfl⟩, o1, o2, o3, rfl⟩, rfl⟩ | ⟨hn, rfl, rfl⟩)
  · obtain ⟨hbl, hil⟩ := bxs_len hx
    have hw : G.watch l = ⟨G.told, (bxs x.msg).foldl tellBox G.boxes, tellText G.texts (slOf x.msg)⟩ := by unfold RefM.watch; rw [hx]
    (try dsimp only [List.cons_append, List.nil_append])
    repeat' (first | refine stp ?_|(refine v_spT ?_ ?_;omega)|(refine v_spF ?_ ?_;omega)|refine v_spD (fun hc=>?_) (fun hc=>?_)|(refine v_yc ?_ ?_;omega)|refine v_alloc' (fun ba=>?_)|fail)
    refine v_callR (rboxes_s x.msg v1 v2 v3 s3 _ ⟨p1, p2, p3, hp, rfl⟩ (ownAt (h := o3)) (by omega)) ?_
    rintro v Γ' ⟨sb, ob, rfl⟩
    (try dsimp only [List.cons_append, List.nil_append])
    repeat' (first | refine stp ?_|(refine v_spT ?_ ?_;omega)|(refine v_spF ?_ ?_;omega)|refine v_spD (fun hc=>?_) (fun hc=>?_)|(refine v_yc ?_ ?_;omega)|refine v_alloc' (fun ba=>?_)|fail)
    have hat := ownAt (h := ob)
    refine v_lp [18] [0, 4, 16, 17] (fun g : RwG => [.int .i64 g.i]) (fun g => [g.s]) (fun g => g.i ≤ (bxs x.msg).length ∧ RefS br ⟨G.told, ((bxs x.msg).take g.i).foldl tellBox G.boxes, G.texts⟩ g.s) (fun g => (bxs x.msg).length - g.i) ⟨0, s⟩ (fun _ => rfl) rfl inferInstance ⟨Nat.zero_le _, h⟩ ?_
    rintro ⟨i, t⟩ ⟨hi, ht⟩
    dsimp only at hi ht ⊢
    (try dsimp only [zipE_c, zipE_n, List.cons_append, List.nil_append])
    rcases Nat.lt_or_ge i (bxs x.msg).length with hlt | hge
    · have hlen := tellBox_len' ((bxs x.msg).take i) G.boxes
      rw [List.length_take] at hlen
      repeat' (first | refine stp ?_|(refine v_spT ?_ ?_;omega)|(refine v_spF ?_ ?_;omega)|refine v_spD (fun hc=>?_) (fun hc=>?_)|(refine v_yc ?_ ?_;omega)|refine v_alloc' (fun ba=>?_)|fail)
      refine v_callO (rseeS ht (bxs x.msg)[i] ⟨ht.1.td, tellBox_gd ht.1.bx _⟩ (by dsimp only; omega)) ?_
      rintro u Γ' ⟨t2, rfl, rfl, ht2⟩
      dsimp only at ht2
      rw [← foldl_take1 tellBox G.boxes hlt] at ht2
      (try dsimp only [List.cons_append, List.nil_append])
      repeat' (first | refine stp ?_|(refine v_spT ?_ ?_;omega)|(refine v_spF ?_ ?_;omega)|refine v_spD (fun hc=>?_) (fun hc=>?_)|(refine v_yc ?_ ?_;omega)|refine v_alloc' (fun ba=>?_)|fail)
      exact v_again ⟨i + 1, t2⟩ (by dsimp only; omega) rfl inferInstance ⟨hlt, ht2⟩
    · obtain rfl : i = (bxs x.msg).length := by omega
      rw [List.take_length] at ht
      repeat' (first | refine stp ?_|(refine v_spT ?_ ?_;omega)|(refine v_spF ?_ ?_;omega)|refine v_spD (fun hc=>?_) (fun hc=>?_)|(refine v_yc ?_ ?_;omega)|refine v_alloc' (fun ba=>?_)|fail)
      · refine v_callO (rseeSealedS ht (slOf x.msg) ⟨ht.1.td, ht.1.bx⟩ hb2) ?_
        rintro u Γ' ⟨t2, rfl, rfl, ht2⟩
        (try dsimp only [List.cons_append, List.nil_append])
        repeat' (first | refine stp ?_|(refine v_spT ?_ ?_;omega)|(refine v_spF ?_ ?_;omega)|refine v_spD (fun hc=>?_) (fun hc=>?_)|(refine v_yc ?_ ?_;omega)|refine v_alloc' (fun ba=>?_)|fail)
        refine v_o0 Tryz.results48 ⟨t2, rfl, rfl, by rw [hw]; exact ht2⟩ ⟨_, inferInstance⟩
      · refine v_o0 Tryz.results48 ⟨t, rfl, rfl, ?_⟩ ⟨_, inferInstance⟩
        rw [hw, tellText_no (sl_no hc)]; exact ht
  · (try dsimp only [List.cons_append, List.nil_append])
    repeat' (first | refine stp ?_|(refine v_spT ?_ ?_;omega)|(refine v_spF ?_ ?_;omega)|refine v_spD (fun hc=>?_) (fun hc=>?_)|(refine v_yc ?_ ?_;omega)|refine v_alloc' (fun ba=>?_)|fail)
    refine v_o0 Tryz.results48 ⟨s, rfl, rfl, ?_⟩ ⟨_, inferInstance⟩
    unfold RefM.watch; rw [hn]; exact h
theorem rallowed_s {br : Nat} {G : RefM} {s : Hp} (h : RefS br G s) (l : List UInt8) (hl : l.length ≤ 34359738368) : SX.Spec Tryz.prog 21 #[rptr br, str l] [s] [] fun v Γ => Γ = [] ∧ v = .bool (decide (G.allows l)) := by
  refine spec_of2 Tryz.func21 Tryz.ntmps21 rfl rfl (fun M w0 => ?_)
  repeat' (first | refine stp ?_|(refine v_spT ?_ ?_;omega)|(refine v_spF ?_ ?_;omega)|refine v_spD (fun hc=>?_) (fun hc=>?_)|(refine v_yc ?_ ?_;omega)|refine v_alloc' (fun ba=>?_)|fail)
  refine v_callR (rdec_s l hl) ?_
  rintro v Γ' (⟨x, cs, hx, ⟨v1, s1, v2, s2, v3, s3, ⟨p1, p2, p3, hp, rfl⟩, o1, o2, o3, rfl⟩, rfl⟩ | ⟨hn, rfl, rfl⟩)
  · obtain ⟨hbl, hil⟩ := bxs_len hx
    (try dsimp only [List.cons_append, List.nil_append])
    repeat' (first | refine stp ?_|(refine v_spT ?_ ?_;omega)|(refine v_spF ?_ ?_;omega)|refine v_spD (fun hc=>?_) (fun hc=>?_)|(refine v_yc ?_ ?_;omega)|refine v_alloc' (fun ba=>?_)|fail)
    refine v_callR (rboxes_s x.msg v1 v2 v3 s3 _ ⟨p1, p2, p3, hp, rfl⟩ (ownAt (h := o3)) (by omega)) ?_
    rintro v Γ' ⟨sb, ob, rfl⟩
    (try dsimp only [List.cons_append, List.nil_append])
    repeat' (first | refine stp ?_|(refine v_spT ?_ ?_;omega)|(refine v_spF ?_ ?_;omega)|refine v_spD (fun hc=>?_) (fun hc=>?_)|(refine v_yc ?_ ?_;omega)|refine v_alloc' (fun ba=>?_)|fail)
    have hat := ownAt (h := ob)
    refine v_lp [19] [0, 5, 17, 18] (fun i : Nat => [.int .i64 i]) (fun _ => []) (fun i => i ≤ (bxs x.msg).length ∧ ∀ b ∈ (bxs x.msg).take i, G.makes b) (fun i => (bxs x.msg).length - i) 0 (fun _ => rfl) rfl inferInstance ⟨Nat.zero_le _, by simp⟩ ?_
    rintro i ⟨hi, hm⟩
    (try dsimp only [zipE_c, zipE_n, List.cons_append, List.nil_append])
    rcases Nat.lt_or_ge i (bxs x.msg).length with hlt | hge
    · repeat' (first | refine stp ?_|(refine v_spT ?_ ?_;omega)|(refine v_spF ?_ ?_;omega)|refine v_spD (fun hc=>?_) (fun hc=>?_)|(refine v_yc ?_ ?_;omega)|refine v_alloc' (fun ba=>?_)|fail)
      refine v_callR (rmakesS h (bxs x.msg)[i]) ?_
      rintro u Γ' ⟨rfl, rfl⟩
      (try dsimp only [List.cons_append, List.nil_append])
      repeat' (first | refine stp ?_|(refine v_spT ?_ ?_;omega)|(refine v_spF ?_ ?_;omega)|refine v_spD (fun hc=>?_) (fun hc=>?_)|(refine v_yc ?_ ?_;omega)|refine v_alloc' (fun ba=>?_)|fail)
      · refine v_o1 Tryz.results21 ⟨rfl, bF fun hh => hc ((hh x hx).1 _ (List.getElem_mem hlt))⟩ ⟨_, inferInstance⟩
      · refine v_again (i + 1) (by omega) rfl inferInstance ⟨hlt, ?_⟩
        rw [List.take_succ_eq_append_getElem hlt]
        intro b hb
        rcases List.mem_append.1 hb with hb | hb
        · exact hm b hb
        · rw [List.mem_singleton.1 hb]; exact Decidable.not_not.1 hc
    · obtain rfl : i = (bxs x.msg).length := by omega
      rw [List.take_length] at hm
      repeat' (first | refine stp ?_|(refine v_spT ?_ ?_;omega)|(refine v_spF ?_ ?_;omega)|refine v_spD (fun hc=>?_) (fun hc=>?_)|(refine v_yc ?_ ?_;omega)|refine v_alloc' (fun ba=>?_)|fail)
      · refine v_o1 Tryz.results21 ⟨rfl, bT fun y hy => ?_⟩ ⟨_, inferInstance⟩
        rw [hx] at hy; cases hy
        exact ⟨hm, fun h4 => absurd h4 hc⟩
      · refine v_callR (rmakesSlS h (slOf x.msg)) ?_
        rintro u Γ' ⟨rfl, rfl⟩
        (try dsimp only [List.cons_append, List.nil_append])
        repeat' (first | refine stp ?_|(refine v_spT ?_ ?_;omega)|(refine v_spF ?_ ?_;omega)|refine v_spD (fun hc=>?_) (fun hc=>?_)|(refine v_yc ?_ ?_;omega)|refine v_alloc' (fun ba=>?_)|fail)
        refine v_o1 Tryz.results21 ⟨rfl, bD ⟨fun hs y hy => ?_, fun hh => (hh x hx).2 (Decidable.not_not.1 hc)⟩⟩ ⟨_, inferInstance⟩
        rw [hx] at hy; cases hy
        exact ⟨hm, fun _ => hs⟩
  · (try dsimp only [List.cons_append, List.nil_append])
    repeat' (first | refine stp ?_|(refine v_spT ?_ ?_;omega)|(refine v_spF ?_ ?_;omega)|refine v_spD (fun hc=>?_) (fun hc=>?_)|(refine v_yc ?_ ?_;omega)|refine v_alloc' (fun ba=>?_)|fail)
    refine v_o1 Tryz.results21 ⟨rfl, bT (fun x hx => by rw [hn] at hx; cases hx)⟩ ⟨_, inferInstance⟩
end Go.Proofs.YtdfoijfjlhjeaaaGreat

/- Symbolic execution: a part of an element written; a list shortened in place. Of whatever program. -/
namespace Go.SX
set_option linter.unusedSimpArgs false
set_option linter.unusedVariables false
open Go Go.RowKit
/-- the thing whose cells from fo on are cs -/
class SetF {α : Type} (cv : α → List Value) (x : α) (fo : Nat) (cs : List Value) (z : outParam α) : Prop where
  out : cv z = (cv x).take fo ++ cs ++ (cv x).drop (fo + cs.length)
section
variable {P : Program} {C : Cx} {R : List Hp} {n : Nat} {all : Array Oper} {Q : Exit → Act → World → Prop} {L : Env} {Γ : List Hp} {v : Value} {e : Nat} {α : Type} {sz : Nat} {cv : α → List Value} {av : α → Value} {l : List α} {s : Hp}
theorem v_setF {K : Act → World → Prop} {t i fo k : Nat} {x y : Operand} {z : α} {u : Value} {cs : List Value} {ca : Array Value} {ty : TypeId} {pos : String} {af : Array Edge} {Γ' : List Hp} [hx : Ev L x (.pointer (some ⟨slb v, slo v + i * sz + fo, none⟩))] [hy : Ev L y u] [hs : OwnS v e α sz cv l s] [hE : ElT P e α sz cv av] [hz : Sz P t k]
    [hcu : Cel u ca] [hca : LisA ca cs] [hdel : Del Γ s Γ'] (hi : i < l.length) (hk : cs.length = k) (hfk : fo + k ≤ sz) (hc : SetF cv l[i] fo cs z)
    (h : ∀ s', OwnS v e α sz cv (l.set i z) s' → (l.set i z).length = l.length → VK C R n L (s' :: Γ') K) : VK C R n L Γ (wp1 P all Q ⟨none, .store t x y, ty, pos, af, none⟩ K) := VK.mk fun a w kk iv => wp1.mk (by
  have hca' := hca.out
  subst hca'
  subst hk
  have ip : Inv C R (s :: Γ') w := iv.perm (by simpa using hdel.out)
  obtain ⟨hl, ⟨_, h0, _⟩ | ⟨b, off, cap, cur, eb, rfl, rfl, hnc, hcm, hsz, hcur⟩⟩ := hs.out
  · omega
  · have hb := ip.own (b, .cells cur eb (0, 0)) (by simp)
    have hx' := hx.out n a kk
    simp only [slb, slo] at hx'
    have hlen := hE.len z
    have hlen0 := hE.len l[i]
    have hcap : (i + 1) * sz ≤ cap * sz := Nat.mul_le_mul_right _ (by omega)
    rw [Nat.add_mul] at hcap
    have hfit : off + i * sz + fo + cs.length ≤ cur.size := by omega
    have hone : ∀ y ∈ cs, y.oneCell' = true := fun y hy => hE.one z y (by rw [hc.out]; simp [hy])
    have hst := run_storeCells_at (P := P) b (off + i * sz + fo) eb cs 0 cur w hb (by simpa using hfit) hone
    simp only [Nat.add_zero] at hst
    have hrun : (execOp a.eval ⟨none, .store t x y, ty, pos, af, none⟩).run P w = .ok .skip (w.setRow b (cur.toList.take (off + i * sz + fo) ++ cs ++ cur.toList.drop (off + i * sz + fo + cs.length)).toArray) := by
      simp [execOp, Instr.storeAt, Instr.sureAddr, hx', hy.out n a kk, storeVar, hcu.out, hz.out, hst]
    have hli : i * sz + sz ≤ l.length * sz := by
      have : (i + 1) * sz ≤ l.length * sz := Nat.mul_le_mul_right _ (by omega)
      rwa [Nat.add_mul, Nat.one_mul] at this
    have hnc2 := Nat.mul_le_mul_right sz hnc
    have hel : (cur.toList.drop (off + i * sz)).take sz = cv l[i] := by
      rw [← cvs_get hE.len l i _ (List.getElem?_eq_getElem hi), ← hcur, List.drop_take, List.drop_drop, List.take_take, Nat.min_eq_left (by omega)]
    have hA : cur.toList = cur.toList.take (off + i * sz) ++ (cv l[i] ++ cur.toList.drop (off + i * sz + sz)) := by
      conv => lhs; rw [← List.take_append_drop (off + i * sz) cur.toList, ← List.take_append_drop sz (cur.toList.drop (off + i * sz)), hel, List.drop_drop]
    have hpl : (cur.toList.take (off + i * sz)).length = off + i * sz := by rw [List.length_take, Array.length_toList]; omega
    have heq : cur.toList.take (off + i * sz + fo) ++ cs ++ cur.toList.drop (off + i * sz + fo + cs.length) = cur.toList.take (off + i * sz) ++ cv z ++ cur.toList.drop (off + i * sz + (cv z).length) := by
      have e1 : cur.toList.take (off + i * sz + fo) = cur.toList.take (off + i * sz) ++ (cv l[i]).take fo := by
        rw [List.take_add]
        congr 1
        rw [← hel, List.take_take, Nat.min_eq_left (by omega)]
      have e2 : cur.toList.drop (off + i * sz + fo + cs.length) = (cv l[i]).drop (fo + cs.length) ++ cur.toList.drop (off + i * sz + sz) := by
        conv => lhs; rw [hA]
        rw [show off + i * sz + fo + cs.length = (cur.toList.take (off + i * sz)).length + (fo + cs.length) by rw [hpl]; omega, ← List.drop_drop, List.drop_left, List.drop_append_of_le_length (by rw [hlen0]; omega)]
      rw [e1, e2, hlen, hc.out]
      simp only [List.append_assoc]
    rw [heq] at hrun
    simp only [Region.wanted, if_true]
    refine .inl ?_
    simp only [Oper.wp, hrun, Oper.upon]
    refine (h [(b, .cells (cur.toList.take (off + i * sz) ++ cv z ++ cur.toList.drop (off + i * sz + (cv z).length)).toArray eb (0, 0))] ⟨?_⟩ (by simp)).out _ _ kk.putNone (ip.upd (updHere Γ' b (.cells cur eb (0, 0))) (setRow_heap w b cur _ eb (0, 0) hb) (fun j hj => setRow_other w b j _ hj) (by simp) rfl rfl rfl rfl)
    refine ⟨by rw [cvs_len hE.len], .inr ⟨b, off, cap, _, eb, by simp, rfl, by simpa using hnc, hcm, ?_, ?_⟩⟩
    · have e0 : (cur.toList.take (off + i * sz)).length = off + i * sz := by rw [List.length_take, Array.length_toList]; omega
      rw [List.size_toArray, List.length_append, List.length_append, e0, List.length_drop, Array.length_toList (xs := cur)]
      omega
    · have h1 : i * sz + (cv z).length ≤ l.length * sz := by rw [hlen]; exact hli
      have h2 : l.length * sz ≤ (cur.toList.drop off).length := by
        rw [List.length_drop, Array.length_toList (xs := cur)]
        omega
      rw [cvs_set hE.len l i z hi, ← hcur, List.length_set]
      have := take_mid h1 h2
      have e2 : (cur.toList.take off).length = off := by rw [List.length_take, Array.length_toList]; omega
      have e1 : cur.toList.take (off + i * sz) = cur.toList.take off ++ (cur.toList.drop off).take (i * sz) := by rw [List.take_add]
      have e3 : cur.toList.drop (off + i * sz + (cv z).length) = (cur.toList.drop off).drop (i * sz + (cv z).length) := by rw [List.drop_drop]; congr 1; omega
      rw [e1, e3, List.append_assoc, List.append_assoc, List.drop_left' e2]
      rw [hlen] at this ⊢
      simpa [List.append_assoc] using this)
end
section
variable {P : Program} {C : Cx} {R : List Hp} {n : Nat} {all : Array Oper} {Q : Exit → Act → World → Prop} {L : Env} {Γ : List Hp} {α β : Type} [DecidableEq α] {kv : α → Value} {vv : β → Value} {m : List (α × β)} {s : Hp} {b : Nat}
/-- an entry of a map that is written out -/
theorem v_ins {K : Act → World → Prop} {T kt et : Nat} {x ix y : Operand} {u uy : Value} {k : α} {v : β} {Γ' : List Hp} {ty : TypeId} {pos : String} {af : Array Edge} [hx : Ev L x (.map (some b))] [hi : Ev L ix u] [hy : Ev L y uy] [ht : Und P T (.map kt et)] [hm : OwnM b α β kv vv m s] [hk : KeyT P kt α kv] [hu : Kvt kv u k] [hv : Vvt vv uy v] [hdel : Del Γ s Γ']
    (h : ∀ s', OwnM b α β kv vv (mput m k v) s' → VK C R n L (s' :: Γ') K) : VK C R n L Γ (wp1 P all Q ⟨none, .insert T x ix y, ty, pos, af, none⟩ K) := VK.mk fun a w kk iv => by
  have h1 := (v_put (P := P) (all := all) (Q := Q) (T := T) (kt := kt) (et := et) (x := x) (ix := ix) (y := y) (u := u) (uy := uy) (ty := ty) (pos := pos) (af := af) (m := m) (s := s) (Γ' := Γ') (K := K) h).out a w kk iv
  simp only [wp1, Region.wanted, if_true] at h1 ⊢
  rcases h1 with h1 | h1
  · exact .inl h1
  · exact .inr h1
end
section
variable {P : Program} {R : List Hp} {L : Env} {Γ : List Hp}
/-- a lookup in the map nil, by a number -/
instance y_lkNil {T kt et : Nat} {x ix : Operand} {q : IntKind} {k : Int} {z : Value} [hx : Ev L x (.map none)] [hi : Ev L ix (.int q k)] [ht : Und P T (.map kt et)] [hq : Und P kt (.int q)] [hz : Zr P et z] :
    Y P R L Γ (.lookup T x ix true) (.tuple #[z, .bool false]) := ⟨fun C n a w _ _ _ _ _ kn i => by
  have hk := KeyT.int (P := P) (kt := kt) (q := q) hq.out
  have hf := hk.find k [] [] w rfl
  simp [execOp, Instr.lookup, hx.out n a kn, hi.out n a kn, run_underlying ht.out, hk.chk, hf, hz.out, findE]⟩
end
end Go.SX

