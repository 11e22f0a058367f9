/- know: its least keys. -/
import Derived.Test.YtedemhmlaodblaaKj
namespace Go.Proofs.Ytedemhmlaodblaa
open Go Go.SX Go.RowKit
set_option maxRecDepth 100000
set_option linter.unusedSimpArgs false
set_option linter.unusedVariables false
set_option maxHeartbeats 0
set_option synthInstance.maxSize 100000
set_option synthInstance.maxHeartbeats 400000
instance (priority := 2000) biBoolSame (P : Program) (t : TypeId) (x : Bool) [h : Und P t .bool] : Bin P .neq t (.bool x) (.bool x) (.bool false) := by
  have := biBoolN (P := P) t x x
  simpa using this
theorem incr_len : ∀ (l : List Int) (lo hi : Int), lo ≤ hi → l.Pairwise (· < ·) → (∀ x ∈ l, lo ≤ x ∧ x < hi) → (l.length : Int) ≤ hi - lo
  | [], lo, hi, h, _, _ => by simp; omega
  | x :: l, lo, hi, h, hp, hb => by
    rw [List.pairwise_cons] at hp
    have hx := hb x (by simp)
    have := incr_len l (x + 1) hi (by omega) hp.2 (fun y hy => ⟨by have := hp.1 y hy; omega, (hb y (by simp [hy])).2⟩)
    simp only [List.length_cons]; omega
theorem sort_incr {l : List Int} (h : l.Nodup) : (l.mergeSort fun x y => decide (x ≤ y)).Pairwise (· < ·) := by
  have tr : ∀ a b c : Int, decide (a ≤ b) = true → decide (b ≤ c) = true → decide (a ≤ c) = true := fun a b c h1 h2 => by simp only [decide_eq_true_eq] at *; omega
  have to : ∀ a b : Int, (decide (a ≤ b) || decide (b ≤ a)) = true := fun a b => by simp only [Bool.or_eq_true, decide_eq_true_eq]; omega
  have h1 := List.pairwise_mergeSort tr to l
  have h2 : (l.mergeSort fun x y => decide (x ≤ y)).Nodup := (List.mergeSort_perm _ _).nodup_iff.2 h
  exact (h1.and h2).imp fun {a b} ⟨h3, h4⟩ => by simp only [decide_eq_true_eq] at h3; omega
theorem keys_len {m : List (Int × Int)} (hn : (m.map (·.1)).Nodup) (hk : ∀ p ∈ m, 0 < p.1 ∧ p.1 < 32768) : m.length ≤ 32768 := by
  have h1 := sort_incr hn
  have hp := List.mergeSort_perm (m.map (·.1)) (fun x y => decide (x ≤ y))
  have := incr_len _ 0 32768 (by decide) h1 fun x hx => by
    obtain ⟨p, hp', rfl⟩ := List.mem_map.1 (hp.mem_iff.1 hx)
    have := hk p hp'; omega
  rw [hp.length_eq, List.length_map] at this
  omega
structure KkG where
  i : Nat
  ov : Value
  os : Hp
abbrev lk (m : List (Int × Int)) (b : Int) : ApiKey := ⟨b, (mget m b).getD 0⟩
structure KkOk (m : List (Int × Int)) (l : List Int) (g : KkG) : Prop where
  le : g.i ≤ l.length
  own : OwnS g.ov 25 ApiKey 2 cvApiKey ((l.take g.i).map (lk m)) g.os
theorem keys_s {bk : Nat} {K : KnowM} {Γ : List Hp} (h : KnowA bk K Γ) (hlo : ∀ a t, mget K.least a = some t → 0 < a ∧ a < 32768) : SX.Spec Try.prog 17 #[kptr bk] Γ [] fun v Γ' => ∃ l s, OwnS v 25 ApiKey 2 cvApiKey l s ∧ Γ' = [s] ∧ l.length ≤ 32768 ∧ (l.map (·.Base)).Pairwise (· < ·) ∧ ∀ x, x ∈ l ↔ mget K.least x.Base = some x.Step := by
  obtain ⟨b1, b2, b3, b4, s1, s2, s3, s4, zm, sh, rfl, h1, h2, h3, h4, h5⟩ := h
  have hnd : (K.least.map (·.1)).Nodup := by obtain ⟨_, _, _, _, _, h, _⟩ := h1.out; exact h
  have hk : ∀ p ∈ K.least, 0 < p.1 ∧ p.1 < 32768 := fun p hp => hlo p.1 p.2 (mem_mget hnd hp)
  have hml := keys_len hnd hk
  refine spec_of1 Try.func17 Try.ntmps17 rfl rfl (fun M w0 => ?_)
  repeat' (first | refine stp ?_|(refine v_spT ?_ ?_;omega)|(refine v_spF ?_ ?_;omega)|refine v_spD (fun hc=>?_) (fun hc=>?_)|refine v_spB (fun hc=>?_) (fun hc=>?_)|(refine v_yc ?_ ?_;omega)|refine v_alloc' (fun ba=>?_)|refine v_box (fun bb=>?_)|refine v_lit (fun bl=>?_)|refine v_makeMap (fun bm=>?_)|(refine v_push ?_ (fun sv ss hs hln=>?_);omega)|(refine v_push0 ?_ (fun sv ss hs=>?_);omega)|(refine v_set ?_ (fun ss hs hln=>?_);omega)|(refine v_cat ?_ (fun sv ss hs hln=>?_);omega)|(refine v_cat0 ?_ (fun sv ss hs=>?_);omega)|(refine v_catN ?_ (fun sv ss hs=>?_);omega)|refine v_put (fun sm hm=>?_)|refine v_del (fun sm hm=>?_)|(refine v_sb ?_ (fun su (And.intro hs hln)=>?_);omega)|refine v_1lk (fun lv hlk=>?_) (fun hlk=>?_)|refine v_ment (fun st sm hm hst=>?_)|refine v_esto (fun sm hm=>?_)|refine v_rng (fun ri ti hit=>?_)|refine v_clone (fun bc sc hcl=>?_)|refine v_yw ?_|(refine v_make ?_ (fun sv ss hs hln=>?_);omega)|fail)
  refine v_callO (keysF_s _) ?_
  rintro v Γ' ⟨B, rfl, rfl⟩
  (try dsimp only [List.cons_append, List.nil_append])
  repeat' (first | refine stp ?_|(refine v_spT ?_ ?_;omega)|(refine v_spF ?_ ?_;omega)|refine v_spD (fun hc=>?_) (fun hc=>?_)|refine v_spB (fun hc=>?_) (fun hc=>?_)|(refine v_yc ?_ ?_;omega)|refine v_alloc' (fun ba=>?_)|refine v_box (fun bb=>?_)|refine v_lit (fun bl=>?_)|refine v_makeMap (fun bm=>?_)|(refine v_push ?_ (fun sv ss hs hln=>?_);omega)|(refine v_push0 ?_ (fun sv ss hs=>?_);omega)|(refine v_set ?_ (fun ss hs hln=>?_);omega)|(refine v_cat ?_ (fun sv ss hs hln=>?_);omega)|(refine v_cat0 ?_ (fun sv ss hs=>?_);omega)|(refine v_catN ?_ (fun sv ss hs=>?_);omega)|refine v_put (fun sm hm=>?_)|refine v_del (fun sm hm=>?_)|(refine v_sb ?_ (fun su (And.intro hs hln)=>?_);omega)|refine v_1lk (fun lv hlk=>?_) (fun hlk=>?_)|refine v_ment (fun st sm hm hst=>?_)|refine v_esto (fun sm hm=>?_)|refine v_rng (fun ri ti hit=>?_)|refine v_clone (fun bc sc hcl=>?_)|refine v_yw ?_|(refine v_make ?_ (fun sv ss hs hln=>?_);omega)|fail)
  refine v_callR (sortedF_s h1 (fun p hp => by have := hk p hp; unfold inI64; omega) (by omega)) ?_
  rintro v Γ' ⟨l, sl, hl, rfl, ss, hss, hls⟩
  have hll : l.length = K.least.length := by rw [hls, (List.mergeSort_perm _ _).length_eq, hss.length_eq, List.length_map]
  have hinc : l.Pairwise (· < ·) := hls ▸ sort_incr (hss.nodup_iff.2 hnd)
  have hmem : ∀ x, x ∈ l ↔ x ∈ K.least.map (·.1) := fun x => by rw [hls, (List.mergeSort_perm _ _).mem_iff, hss.mem_iff]
  clear hls hss
  (try dsimp only [List.cons_append, List.nil_append])
  repeat' (first | refine stp ?_|(refine v_spT ?_ ?_;omega)|(refine v_spF ?_ ?_;omega)|refine v_spD (fun hc=>?_) (fun hc=>?_)|refine v_spB (fun hc=>?_) (fun hc=>?_)|(refine v_yc ?_ ?_;omega)|refine v_alloc' (fun ba=>?_)|refine v_box (fun bb=>?_)|refine v_lit (fun bl=>?_)|refine v_makeMap (fun bm=>?_)|(refine v_push ?_ (fun sv ss hs hln=>?_);omega)|(refine v_push0 ?_ (fun sv ss hs=>?_);omega)|(refine v_set ?_ (fun ss hs hln=>?_);omega)|(refine v_cat ?_ (fun sv ss hs hln=>?_);omega)|(refine v_cat0 ?_ (fun sv ss hs=>?_);omega)|(refine v_catN ?_ (fun sv ss hs=>?_);omega)|refine v_put (fun sm hm=>?_)|refine v_del (fun sm hm=>?_)|(refine v_sb ?_ (fun su (And.intro hs hln)=>?_);omega)|refine v_1lk (fun lv hlk=>?_) (fun hlk=>?_)|refine v_ment (fun st sm hm hst=>?_)|refine v_esto (fun sm hm=>?_)|refine v_rng (fun ri ti hit=>?_)|refine v_clone (fun bc sc hcl=>?_)|refine v_yw ?_|(refine v_make ?_ (fun sv ss hs hln=>?_);omega)|fail)
  refine v_lp [3, 13] [0, 11, 12] (fun g : KkG => [g.ov, .int .i64 g.i]) (fun g => [g.os]) (KkOk K.least l) (fun g => l.length - g.i) ⟨0, nilS, []⟩ (fun _ => rfl) rfl inferInstance ⟨Nat.zero_le _, OwnS.nil⟩ ?_
  rintro ⟨i, ov, os⟩ ⟨hi, how⟩
  dsimp only at hi how ⊢
  have hlt : ((l.take i).map (lk K.least)).length = i := by rw [List.length_map, List.length_take]; omega
  (try dsimp only [zipE_c, zipE_n, List.cons_append, List.nil_append])
  repeat' (first | refine stp ?_|(refine v_spT ?_ ?_;omega)|(refine v_spF ?_ ?_;omega)|refine v_spD (fun hc=>?_) (fun hc=>?_)|refine v_spB (fun hc=>?_) (fun hc=>?_)|(refine v_yc ?_ ?_;omega)|refine v_alloc' (fun ba=>?_)|refine v_box (fun bb=>?_)|refine v_lit (fun bl=>?_)|refine v_makeMap (fun bm=>?_)|(refine v_push ?_ (fun sv ss hs hln=>?_);omega)|(refine v_push0 ?_ (fun sv ss hs=>?_);omega)|(refine v_set ?_ (fun ss hs hln=>?_);omega)|(refine v_cat ?_ (fun sv ss hs hln=>?_);omega)|(refine v_cat0 ?_ (fun sv ss hs=>?_);omega)|(refine v_catN ?_ (fun sv ss hs=>?_);omega)|refine v_put (fun sm hm=>?_)|refine v_del (fun sm hm=>?_)|(refine v_sb ?_ (fun su (And.intro hs hln)=>?_);omega)|refine v_1lk (fun lv hlk=>?_) (fun hlk=>?_)|refine v_ment (fun st sm hm hst=>?_)|refine v_esto (fun sm hm=>?_)|refine v_rng (fun ri ti hit=>?_)|refine v_clone (fun bc sc hcl=>?_)|refine v_yw ?_|(refine v_make ?_ (fun sv ss hs hln=>?_);omega)|fail)
  · refine v_again ⟨i + 1, sv, ss⟩ (by dsimp only; omega) rfl inferInstance ⟨by dsimp only; omega, ?_⟩
    dsimp only
    rw [List.take_add_one, List.getElem?_eq_getElem (by omega), Option.toList_some, List.map_append]
    exact hs
  · obtain rfl : i = l.length := by omega
    rw [List.take_of_length_le (Nat.le_refl _)] at how
    refine v_o1 Try.results17 ⟨_, _, how, rfl, by rw [List.length_map]; omega, ?_, fun x => ?_⟩ ⟨_, inferInstance⟩
    · rw [List.map_map]
      have : ((fun x : ApiKey => x.Base) ∘ lk K.least) = id := rfl
      rw [this, List.map_id]; exact hinc
    · constructor
      · intro hx
        obtain ⟨b, hb, rfl⟩ := List.mem_map.1 hx
        obtain ⟨p, hp, rfl⟩ := List.mem_map.1 ((hmem b).1 hb)
        dsimp only [lk]
        rw [mem_mget hnd hp]; rfl
      · intro hx
        refine List.mem_map.2 ⟨x.Base, (hmem _).2 (List.mem_map.2 ⟨(x.Base, x.Step), mget_mem hx, rfl⟩), ?_⟩
        dsimp only [lk]
        rw [hx]; rfl
theorem keysS {bk : Nat} {G : RefM} {n : Nat} {K : KnowM} {s : Hp} (h : KnowS bk K s) (hg : KinG G n K) : SX.Spec Try.prog 17 #[kptr bk] [s] [] fun v Γ' => ∃ l s, OwnS v 25 ApiKey 2 cvApiKey l s ∧ Γ' = [s] ∧ l.length ≤ 32768 ∧ KeysOf G.told G.boxes l := by
  obtain ⟨Γ, rfl, h⟩ := h
  refine (keys_s h fun a t ht => ⟨(hg.w.lo a t ht).2.gd.1, (hg.w.lo a t ht).1⟩).rd.weak ?_
  rintro v Γ' ⟨l, s, h1, rfl, h2, h3, h4⟩
  refine ⟨l, s, h1, rfl, h2, h3, fun x => ?_⟩
  rw [h4]
  constructor
  · intro hx
    obtain ⟨g1, g2⟩ := hg.w.lo _ _ hx
    refine ⟨g1, g2, fun s hs => ?_⟩
    obtain ⟨_, h' | ⟨t, h', h''⟩⟩ := (hg.had _ _).2 hs
    · omega
    · rw [hx] at h'; cases h'; exact h''
  · rintro ⟨g1, g2, g3⟩
    obtain ⟨_, h' | ⟨t, h', h''⟩⟩ := (hg.had _ _).2 g2
    · omega
    · have := g3 t (hg.w.lo _ _ h').2
      rw [h']; congr 1; omega
end Go.Proofs.Ytedemhmlaodblaa
