/- Rosters: People of the reference. -/
import Derived.Test.YtedemhmlaodblaaDoorRx
namespace Go.Proofs.YtedemhmlaodblaaDoor
open Go Go.SX Go.RowKit
set_option maxRecDepth 100000
set_option maxHeartbeats 0
set_option synthInstance.maxSize 100000
set_option synthInstance.maxHeartbeats 400000
/-- the best of the first i entries -/
def Best (l : List ApiEntry) (k i : Nat) (b : Int) : Prop :=
  (b = -1 ∧ ∀ x ∈ l.take i, ¬ Cand (ppl l) k x) ∨ ∃ j : Nat, b = j ∧ ∃ h : j < l.length, j < i ∧ Cand (ppl l) k l[j] ∧ ∀ x ∈ l.take i, Cand (ppl l) k x → l[j].Who ≤ x.Who
theorem Best.skip {l : List ApiEntry} {k i : Nat} {b : Int} (h : Best l k i b) (hi : i < l.length) (hn : ¬ Cand (ppl l) k l[i]) : Best l k (i + 1) b := by
  have e : ∀ x ∈ l.take (i + 1), x ∈ l.take i ∨ x = l[i] := fun x hx => by
    rw [List.take_add_one, List.getElem?_eq_getElem hi, Option.toList_some, List.mem_append, List.mem_singleton] at hx; exact hx
  rcases h with ⟨rfl, h⟩ | ⟨j, rfl, hj, hji, hc, hm⟩
  · refine .inl ⟨rfl, fun x hx => ?_⟩
    rcases e x hx with hx | rfl
    · exact h x hx
    · exact hn
  · refine .inr ⟨j, rfl, hj, by omega, hc, fun x hx hcx => ?_⟩
    rcases e x hx with hx | rfl
    · exact hm x hx hcx
    · exact absurd hcx hn
theorem Best.stay {l : List ApiEntry} {k i j : Nat} (h : Best l k i j) (hi : i < l.length) (hj : j < l.length) (hle : l[j].Who ≤ l[i].Who) : Best l k (i + 1) j := by
  have e : ∀ x ∈ l.take (i + 1), x ∈ l.take i ∨ x = l[i] := fun x hx => by
    rw [List.take_add_one, List.getElem?_eq_getElem hi, Option.toList_some, List.mem_append, List.mem_singleton] at hx; exact hx
  rcases h with ⟨h0, _⟩ | ⟨j', e', hj', hji, hc, hm⟩
  · omega
  · obtain rfl : j = j' := by omega
    refine .inr ⟨j, rfl, hj, by omega, hc, fun x hx hcx => ?_⟩
    rcases e x hx with hx | rfl
    · exact hm x hx hcx
    · exact hle
theorem Best.take {l : List ApiEntry} {k i : Nat} {b : Int} (h : Best l k i b) (hi : i < l.length) (hc : Cand (ppl l) k l[i]) (hlt : ∀ j : Nat, ∀ hj : j < l.length, b = j → l[i].Who < l[j].Who) : Best l k (i + 1) i := by
  have e : ∀ x ∈ l.take (i + 1), x ∈ l.take i ∨ x = l[i] := fun x hx => by
    rw [List.take_add_one, List.getElem?_eq_getElem hi, Option.toList_some, List.mem_append, List.mem_singleton] at hx; exact hx
  refine .inr ⟨i, rfl, hi, by omega, hc, fun x hx hcx => ?_⟩
  rcases e x hx with hx | rfl
  · rcases h with ⟨rfl, h⟩ | ⟨j, rfl, hj, hji, hc', hm⟩
    · exact absurd hcx (h x hx)
    · have := hm x hx hcx
      have := hlt j hj rfl
      omega
  · exact Int.le_refl _
theorem cand_last {l : List ApiEntry} {k : Nat} (hk : k < (ppl l).length) {x : ApiEntry} : Cand (ppl l) (k + 1) x ↔ x.Base ≠ 0 ∧ (ppl l)[k] < x.Who := by
  unfold Cand
  constructor
  · rintro ⟨h1, h2⟩
    exact ⟨h1, h2 _ (List.mem_take_iff_getElem.2 ⟨k, by omega, rfl⟩)⟩
  · rintro ⟨h1, h2⟩
    refine ⟨h1, fun y hy => ?_⟩
    obtain ⟨j, hj, rfl⟩ := List.mem_take_iff_getElem.1 hy
    by_cases e : j = k
    · subst e; exact h2
    · have := List.pairwise_iff_getElem.1 (ppl_rise l) j k (by omega) hk (by omega)
      omega
structure PqG where
  k : Nat
  v : Value
  s : Hp
theorem rpeople_s (l : List ApiEntry) [hl : LenIs l 64] : SX.Spec Tryd.prog 18 #[rv l] [] [] fun v Γ => ∃ s, OwnS v 3 Int 1 ic (ppl l) s ∧ Γ = [s] := by
  have hll := hl.out
  have hpl := ppl_len l
  refine spec_of1 Tryd.func18 Tryd.ntmps18 rfl rfl (fun M w0 => ?_)
  repeat' (first | refine stp ?_|(refine v_spT ?_ ?_;omega)|(refine v_spF ?_ ?_;omega)|refine v_spD (fun hc=>?_) (fun hc=>?_)|refine v_spB (fun hc=>?_) (fun hc=>?_)|(refine v_yc ?_ ?_;omega)|refine v_allocA (fun ba sal hal=>?_)|refine v_boxA (fun bb sba hba=>?_)|refine v_storeA (fun ss hs=>?_)|refine v_alloc' (fun ba=>?_)|refine v_box (fun bb=>?_)|refine v_lit (fun bl=>?_)|refine v_makeMap (fun bm=>?_)|(refine v_push ?_ (fun sv ss hs hln=>?_);omega)|(refine v_push0 ?_ (fun sv ss hs=>?_);omega)|(refine v_set ?_ (fun ss hs hln=>?_);omega)|(refine v_cat ?_ (fun sv ss hs hln=>?_);omega)|(refine v_cat0 ?_ (fun sv ss hs=>?_);omega)|(refine v_catN ?_ (fun sv ss hs=>?_);omega)|refine v_put (fun sm hm=>?_)|refine v_del (fun sm hm=>?_)|(refine v_sb ?_ (fun su (And.intro hs hln)=>?_);omega)|refine v_1lk (fun lv hlk=>?_) (fun hlk=>?_)|refine v_ment (fun st sm hm hst=>?_)|refine v_esto (fun sm hm=>?_)|refine v_rng (fun ri ti hit=>?_)|refine v_clone (fun bc sc hcl=>?_)|refine v_yw ?_|(refine v_make ?_ (fun sv ss hs hln=>?_);omega)|refine ⟨?_,?_,?_⟩|refine ⟨?_,?_⟩|(refine v_tyc ?_ ?_;omega)|(refine v_tycT (by decide +kernel) ?_ ?_;omega)|refine v_tValT (by decide +kernel) ?_|(refine v_tsb ?_ (fun su (And.intro hs hln)=>?_);omega)|refine v_tlk (fun lv hlk=>?_) (fun hlk=>?_)|refine v_tlkT (by decide +kernel) (fun lv hlk=>?_) (fun hlk=>?_)|refine v_tyw ?_|refine v_drawn0 (id:=6) pl18_6 (by kernel_rfl) ?_|refine v_drawn0 (id:=7) pl18_7 (by kernel_rfl) ?_|fail)
  refine v_lp [3] [1] (fun g : PqG => [g.v]) (fun g => [g.s, sba]) (fun g => g.k ≤ (ppl l).length ∧ OwnS g.v 3 Int 1 ic ((ppl l).take g.k) g.s) (fun g => (ppl l).length - g.k) ⟨0, .slice none 0 0, []⟩ (fun _ => rfl) rfl inferInstance ⟨Nat.zero_le _, OwnS.nil⟩ ?_
  rintro ⟨k, v, s⟩ ⟨hk, hv⟩
  dsimp only at hk hv ⊢
  (try dsimp only [zipE_c, zipE_n, List.cons_append, List.nil_append])
  have hok : ((ppl l).take k).length = k := by rw [List.length_take]; omega
  repeat' (first | refine stp ?_|(refine v_spT ?_ ?_;omega)|(refine v_spF ?_ ?_;omega)|refine v_spD (fun hc=>?_) (fun hc=>?_)|refine v_spB (fun hc=>?_) (fun hc=>?_)|(refine v_yc ?_ ?_;omega)|refine v_allocA (fun ba sal hal=>?_)|refine v_boxA (fun bb sba hba=>?_)|refine v_storeA (fun ss hs=>?_)|refine v_alloc' (fun ba=>?_)|refine v_box (fun bb=>?_)|refine v_lit (fun bl=>?_)|refine v_makeMap (fun bm=>?_)|(refine v_push ?_ (fun sv ss hs hln=>?_);omega)|(refine v_push0 ?_ (fun sv ss hs=>?_);omega)|(refine v_set ?_ (fun ss hs hln=>?_);omega)|(refine v_cat ?_ (fun sv ss hs hln=>?_);omega)|(refine v_cat0 ?_ (fun sv ss hs=>?_);omega)|(refine v_catN ?_ (fun sv ss hs=>?_);omega)|refine v_put (fun sm hm=>?_)|refine v_del (fun sm hm=>?_)|(refine v_sb ?_ (fun su (And.intro hs hln)=>?_);omega)|refine v_1lk (fun lv hlk=>?_) (fun hlk=>?_)|refine v_ment (fun st sm hm hst=>?_)|refine v_esto (fun sm hm=>?_)|refine v_rng (fun ri ti hit=>?_)|refine v_clone (fun bc sc hcl=>?_)|refine v_yw ?_|(refine v_make ?_ (fun sv ss hs hln=>?_);omega)|refine ⟨?_,?_,?_⟩|refine ⟨?_,?_⟩|(refine v_tyc ?_ ?_;omega)|(refine v_tycT (by decide +kernel) ?_ ?_;omega)|refine v_tValT (by decide +kernel) ?_|(refine v_tsb ?_ (fun su (And.intro hs hln)=>?_);omega)|refine v_tlk (fun lv hlk=>?_) (fun hlk=>?_)|refine v_tlkT (by decide +kernel) (fun lv hlk=>?_) (fun hlk=>?_)|refine v_tyw ?_|refine v_drawn0 (id:=6) pl18_6 (by kernel_rfl) ?_|refine v_drawn0 (id:=7) pl18_7 (by kernel_rfl) ?_|fail)
  refine v_lp [4, 5] [1, 3] (fun g : Nat × Int => [.int .i64 g.2, .int .i64 g.1]) (fun _ => [s, sba]) (fun g => g.1 ≤ 64 ∧ Best l k g.1 g.2) (fun g => 64 - g.1) ⟨0, -1⟩ (fun _ => rfl) rfl inferInstance ⟨Nat.zero_le _, .inl ⟨rfl, by simp⟩⟩ ?_
  rintro ⟨i, b⟩ ⟨hi, hb⟩
  dsimp only at hi hb ⊢
  (try dsimp only [zipE_c, zipE_n, List.cons_append, List.nil_append])
  rcases Nat.lt_or_ge i 64 with hlt | hge
  · have hc0 : k = 0 → (Cand (ppl l) k l[i] ↔ l[i].Base ≠ 0) := fun e => by subst e; simp [Cand]
    have hc1 : 0 < k → ∀ h : ((((ppl l).take k).length : Int) - 1).toNat < ((ppl l).take k).length, (Cand (ppl l) k l[i] ↔ l[i].Base ≠ 0 ∧ ¬ l[i].Who ≤ ((ppl l).take k)[((((ppl l).take k).length : Int) - 1).toNat]) := fun e h => by
      obtain ⟨k', rfl⟩ : ∃ k', k = k' + 1 := ⟨k - 1, by omega⟩
      have e2 : ((ppl l).take (k' + 1))[((((ppl l).take (k' + 1)).length : Int) - 1).toNat] = (ppl l)[k'] := by
        rw [List.getElem_take]
        congr 1; omega
      rw [cand_last (by omega), e2]
      omega
    generalize (ppl l).take k = o at *
    rcases (show (b = -1) ∨ ∃ j : Nat, b = j ∧ j < l.length from hb.imp (·.1) fun ⟨j, e, hj, _⟩ => ⟨j, e, hj⟩) with rfl | ⟨j, rfl, hj⟩
    · repeat' (first | refine stp ?_|(refine v_spT ?_ ?_;omega)|(refine v_spF ?_ ?_;omega)|refine v_spD (fun hc=>?_) (fun hc=>?_)|refine v_spB (fun hc=>?_) (fun hc=>?_)|(refine v_yc ?_ ?_;omega)|refine v_allocA (fun ba sal hal=>?_)|refine v_boxA (fun bb sba hba=>?_)|refine v_storeA (fun ss hs=>?_)|refine v_alloc' (fun ba=>?_)|refine v_box (fun bb=>?_)|refine v_lit (fun bl=>?_)|refine v_makeMap (fun bm=>?_)|(refine v_push ?_ (fun sv ss hs hln=>?_);omega)|(refine v_push0 ?_ (fun sv ss hs=>?_);omega)|(refine v_set ?_ (fun ss hs hln=>?_);omega)|(refine v_cat ?_ (fun sv ss hs hln=>?_);omega)|(refine v_cat0 ?_ (fun sv ss hs=>?_);omega)|(refine v_catN ?_ (fun sv ss hs=>?_);omega)|refine v_put (fun sm hm=>?_)|refine v_del (fun sm hm=>?_)|(refine v_sb ?_ (fun su (And.intro hs hln)=>?_);omega)|refine v_1lk (fun lv hlk=>?_) (fun hlk=>?_)|refine v_ment (fun st sm hm hst=>?_)|refine v_esto (fun sm hm=>?_)|refine v_rng (fun ri ti hit=>?_)|refine v_clone (fun bc sc hcl=>?_)|refine v_yw ?_|(refine v_make ?_ (fun sv ss hs hln=>?_);omega)|refine ⟨?_,?_,?_⟩|refine ⟨?_,?_⟩|(refine v_tyc ?_ ?_;omega)|(refine v_tycT (by decide +kernel) ?_ ?_;omega)|refine v_tValT (by decide +kernel) ?_|(refine v_tsb ?_ (fun su (And.intro hs hln)=>?_);omega)|refine v_tlk (fun lv hlk=>?_) (fun hlk=>?_)|refine v_tlkT (by decide +kernel) (fun lv hlk=>?_) (fun hlk=>?_)|refine v_tyw ?_|refine v_drawn0 (id:=6) pl18_6 (by kernel_rfl) ?_|refine v_drawn0 (id:=7) pl18_7 (by kernel_rfl) ?_|fail)
      · exact v_again (i + 1, -1) (by dsimp only; omega) rfl inferInstance ⟨hlt, hb.skip (by omega) fun h => h.1 (by assumption)⟩
      · exact v_again (i + 1, -1) (by dsimp only; omega) rfl inferInstance ⟨hlt, hb.skip (by omega) fun h => ((hc1 (by omega) (by omega)).1 h).2 (by assumption)⟩
      · exact v_again (i + 1, (i : Int)) (by dsimp only; omega) rfl inferInstance ⟨hlt, hb.take (by omega) ((hc1 (by omega) (by omega)).2 ⟨by assumption, by assumption⟩) fun j hj e => by omega⟩
      · exact v_again (i + 1, (i : Int)) (by dsimp only; omega) rfl inferInstance ⟨hlt, hb.take (by omega) ((hc0 (by omega)).2 (by assumption)) fun j hj e => by omega⟩
    · have hself : ∀ j' : Nat, ∀ hj' : j' < l.length, (j : Int) = j' → l[i].Who < l[j].Who → l[i].Who < l[j'].Who := fun j' hj' e h => by
        obtain rfl : j = j' := by omega
        exact h
      repeat' (first | refine stp ?_|(refine v_spT ?_ ?_;omega)|(refine v_spF ?_ ?_;omega)|refine v_spD (fun hc=>?_) (fun hc=>?_)|refine v_spB (fun hc=>?_) (fun hc=>?_)|(refine v_yc ?_ ?_;omega)|refine v_allocA (fun ba sal hal=>?_)|refine v_boxA (fun bb sba hba=>?_)|refine v_storeA (fun ss hs=>?_)|refine v_alloc' (fun ba=>?_)|refine v_box (fun bb=>?_)|refine v_lit (fun bl=>?_)|refine v_makeMap (fun bm=>?_)|(refine v_push ?_ (fun sv ss hs hln=>?_);omega)|(refine v_push0 ?_ (fun sv ss hs=>?_);omega)|(refine v_set ?_ (fun ss hs hln=>?_);omega)|(refine v_cat ?_ (fun sv ss hs hln=>?_);omega)|(refine v_cat0 ?_ (fun sv ss hs=>?_);omega)|(refine v_catN ?_ (fun sv ss hs=>?_);omega)|refine v_put (fun sm hm=>?_)|refine v_del (fun sm hm=>?_)|(refine v_sb ?_ (fun su (And.intro hs hln)=>?_);omega)|refine v_1lk (fun lv hlk=>?_) (fun hlk=>?_)|refine v_ment (fun st sm hm hst=>?_)|refine v_esto (fun sm hm=>?_)|refine v_rng (fun ri ti hit=>?_)|refine v_clone (fun bc sc hcl=>?_)|refine v_yw ?_|(refine v_make ?_ (fun sv ss hs hln=>?_);omega)|refine ⟨?_,?_,?_⟩|refine ⟨?_,?_⟩|(refine v_tyc ?_ ?_;omega)|(refine v_tycT (by decide +kernel) ?_ ?_;omega)|refine v_tValT (by decide +kernel) ?_|(refine v_tsb ?_ (fun su (And.intro hs hln)=>?_);omega)|refine v_tlk (fun lv hlk=>?_) (fun hlk=>?_)|refine v_tlkT (by decide +kernel) (fun lv hlk=>?_) (fun hlk=>?_)|refine v_tyw ?_|refine v_drawn0 (id:=6) pl18_6 (by kernel_rfl) ?_|refine v_drawn0 (id:=7) pl18_7 (by kernel_rfl) ?_|fail)
      · exact v_again (i + 1, (j : Int)) (by dsimp only; omega) rfl inferInstance ⟨hlt, hb.skip (by omega) fun h => h.1 (by assumption)⟩
      · exact v_again (i + 1, (j : Int)) (by dsimp only; omega) rfl inferInstance ⟨hlt, hb.skip (by omega) fun h => ((hc1 (by omega) (by omega)).1 h).2 (by assumption)⟩
      · exact v_again (i + 1, (i : Int)) (by dsimp only; omega) rfl inferInstance ⟨hlt, hb.take (by omega) ((hc1 (by omega) (by omega)).2 ⟨by assumption, by assumption⟩) fun j' hj' e => hself j' hj' e (by assumption)⟩
      · exact v_again (i + 1, (j : Int)) (by dsimp only; omega) rfl inferInstance ⟨hlt, hb.stay (by omega) hj (by omega)⟩
      · exact v_again (i + 1, (i : Int)) (by dsimp only; omega) rfl inferInstance ⟨hlt, hb.take (by omega) ((hc0 (by omega)).2 (by assumption)) fun j' hj' e => hself j' hj' e (by assumption)⟩
      · exact v_again (i + 1, (j : Int)) (by dsimp only; omega) rfl inferInstance ⟨hlt, hb.stay (by omega) hj (by omega)⟩
  · unfold Best at hb
    rw [List.take_of_length_le (by omega)] at hb
    rcases hb with ⟨rfl, hn⟩ | ⟨j, rfl, hj, hji, hcj, hm⟩
    · have hk2 := cand_none hn hk
      rw [List.take_of_length_le (by omega)] at hv
      repeat' (first | refine stp ?_|(refine v_spT ?_ ?_;omega)|(refine v_spF ?_ ?_;omega)|refine v_spD (fun hc=>?_) (fun hc=>?_)|refine v_spB (fun hc=>?_) (fun hc=>?_)|(refine v_yc ?_ ?_;omega)|refine v_allocA (fun ba sal hal=>?_)|refine v_boxA (fun bb sba hba=>?_)|refine v_storeA (fun ss hs=>?_)|refine v_alloc' (fun ba=>?_)|refine v_box (fun bb=>?_)|refine v_lit (fun bl=>?_)|refine v_makeMap (fun bm=>?_)|(refine v_push ?_ (fun sv ss hs hln=>?_);omega)|(refine v_push0 ?_ (fun sv ss hs=>?_);omega)|(refine v_set ?_ (fun ss hs hln=>?_);omega)|(refine v_cat ?_ (fun sv ss hs hln=>?_);omega)|(refine v_cat0 ?_ (fun sv ss hs=>?_);omega)|(refine v_catN ?_ (fun sv ss hs=>?_);omega)|refine v_put (fun sm hm=>?_)|refine v_del (fun sm hm=>?_)|(refine v_sb ?_ (fun su (And.intro hs hln)=>?_);omega)|refine v_1lk (fun lv hlk=>?_) (fun hlk=>?_)|refine v_ment (fun st sm hm hst=>?_)|refine v_esto (fun sm hm=>?_)|refine v_rng (fun ri ti hit=>?_)|refine v_clone (fun bc sc hcl=>?_)|refine v_yw ?_|(refine v_make ?_ (fun sv ss hs hln=>?_);omega)|refine ⟨?_,?_,?_⟩|refine ⟨?_,?_⟩|(refine v_tyc ?_ ?_;omega)|(refine v_tycT (by decide +kernel) ?_ ?_;omega)|refine v_tValT (by decide +kernel) ?_|(refine v_tsb ?_ (fun su (And.intro hs hln)=>?_);omega)|refine v_tlk (fun lv hlk=>?_) (fun hlk=>?_)|refine v_tlkT (by decide +kernel) (fun lv hlk=>?_) (fun hlk=>?_)|refine v_tyw ?_|refine v_drawn0 (id:=6) pl18_6 (by kernel_rfl) ?_|refine v_drawn0 (id:=7) pl18_7 (by kernel_rfl) ?_|fail)
      refine v_o1 Tryd.results18 ⟨_, hv, rfl⟩ ⟨_, inferInstance⟩
    · obtain ⟨hk2, e2⟩ := cand_next hk (List.getElem_mem hj) hcj hm
      repeat' (first | refine stp ?_|(refine v_spT ?_ ?_;omega)|(refine v_spF ?_ ?_;omega)|refine v_spD (fun hc=>?_) (fun hc=>?_)|refine v_spB (fun hc=>?_) (fun hc=>?_)|(refine v_yc ?_ ?_;omega)|refine v_allocA (fun ba sal hal=>?_)|refine v_boxA (fun bb sba hba=>?_)|refine v_storeA (fun ss hs=>?_)|refine v_alloc' (fun ba=>?_)|refine v_box (fun bb=>?_)|refine v_lit (fun bl=>?_)|refine v_makeMap (fun bm=>?_)|(refine v_push ?_ (fun sv ss hs hln=>?_);omega)|(refine v_push0 ?_ (fun sv ss hs=>?_);omega)|(refine v_set ?_ (fun ss hs hln=>?_);omega)|(refine v_cat ?_ (fun sv ss hs hln=>?_);omega)|(refine v_cat0 ?_ (fun sv ss hs=>?_);omega)|(refine v_catN ?_ (fun sv ss hs=>?_);omega)|refine v_put (fun sm hm=>?_)|refine v_del (fun sm hm=>?_)|(refine v_sb ?_ (fun su (And.intro hs hln)=>?_);omega)|refine v_1lk (fun lv hlk=>?_) (fun hlk=>?_)|refine v_ment (fun st sm hm hst=>?_)|refine v_esto (fun sm hm=>?_)|refine v_rng (fun ri ti hit=>?_)|refine v_clone (fun bc sc hcl=>?_)|refine v_yw ?_|(refine v_make ?_ (fun sv ss hs hln=>?_);omega)|refine ⟨?_,?_,?_⟩|refine ⟨?_,?_⟩|(refine v_tyc ?_ ?_;omega)|(refine v_tycT (by decide +kernel) ?_ ?_;omega)|refine v_tValT (by decide +kernel) ?_|(refine v_tsb ?_ (fun su (And.intro hs hln)=>?_);omega)|refine v_tlk (fun lv hlk=>?_) (fun hlk=>?_)|refine v_tlkT (by decide +kernel) (fun lv hlk=>?_) (fun hlk=>?_)|refine v_tyw ?_|refine v_drawn0 (id:=6) pl18_6 (by kernel_rfl) ?_|refine v_drawn0 (id:=7) pl18_7 (by kernel_rfl) ?_|fail)
      refine v_again ⟨k + 1, sv, ss⟩ (by dsimp only; omega) rfl inferInstance ⟨hk2, ?_⟩
      dsimp only
      rw [List.take_add_one, List.getElem?_eq_getElem hk2, e2]
      exact hs
end Go.Proofs.YtedemhmlaodblaaDoor
