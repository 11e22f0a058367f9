/- KnowGrows: the walk and its law. -/
import Derived.Test.YtbkobjdeijdpgaaKz
namespace Go.Proofs.Ytbkobjdeijdpgaa
open Go Go.SX Go.RowKit
set_option maxRecDepth 100000
set_option linter.unusedSimpArgs false
set_option linter.unusedVariables false
set_option maxHeartbeats 0
set_option synthInstance.maxSize 100000
set_option synthInstance.maxHeartbeats 400000
/-- what is had and seen stays so -/
structure Grow (K K' : KnowM) : Prop where
  le : ∀ b t, mget K.least b = some t → ∃ t', mget K'.least b = some t' ∧ t' ≤ t
  bx : ∀ b, 0 < (mget K.boxes b).getD 0 → 0 < (mget K'.boxes b).getD 0
theorem Grow.refl (K : KnowM) : Grow K K := ⟨fun b t h => ⟨t, h, Int.le_refl _⟩, fun _ h => h⟩
theorem Grow.trans {K K' K'' : KnowM} (h : Grow K K') (h' : Grow K' K'') : Grow K K'' := ⟨fun b t ht => by
  obtain ⟨t', h1, h2⟩ := h.le b t ht
  obtain ⟨t'', h3, h4⟩ := h'.le b t' h1
  exact ⟨t'', h3, by omega⟩, fun b hb => h'.bx b (h.bx b hb)⟩
theorem Grow.had {K K' : KnowM} (h : Grow K K') {a b : Int} (hh : K.had a b) : K'.had a b := by
  refine ⟨hh.1, hh.2.imp id ?_⟩
  rintro ⟨t, h1, h2⟩
  obtain ⟨t', h3, h4⟩ := h.le a t h1
  exact ⟨t', h3, by omega⟩
theorem Grow.makes {K K' : KnowM} (h : Grow K K') {b : ApiBox} (hh : K.makes b) : K'.makes b := hh.imp (h.bx b) fun ⟨h1, h2⟩ => ⟨h.had h1, h.had h2⟩
theorem Grow.learn {K K' : KnowM} {l : List ApiKey} (h : LearnR K l K') : Grow K K' := by
  induction h with
  | done => exact .refl _
  | skip _ _ ih => exact ih
  | @take K K' x l hg hn _ ih =>
    refine Grow.trans (K' := K.take x) ⟨fun b t ht => ?_, fun _ h => h⟩ ih
    show ∃ t', mget (mput K.least x.Base x.Step) b = some t' ∧ t' ≤ t
    rw [mget_mput]
    by_cases hb : b = x.Base
    · subst hb
      refine ⟨x.Step, by rw [if_pos rfl], ?_⟩
      rcases Int.lt_or_le t x.Step with h | h
      · exact absurd ⟨hg, .inr ⟨t, ht, by omega⟩⟩ hn
      · exact h
    · exact ⟨t, by rw [if_neg hb]; exact ht, Int.le_refl _⟩
theorem Grow.saw {K : KnowM} {b : ApiBox} (hb : ¬ 0 < (mget K.boxes b).getD 0) : Grow K (K.saw b) := ⟨fun b t h => ⟨t, h, Int.le_refl _⟩, fun c hc => by
  show 0 < (mget (mput K.boxes b (wrap64 ((mget K.boxes b).getD 0 + 1))) c).getD 0
  rw [mget_mput]
  by_cases h : c = b
  · subst h; exact absurd hc hb
  · rw [if_neg h]; exact hc⟩
theorem Grow.see {K K' : KnowM} {b : ApiBox} (h : SeeR K b K') : Grow K K' := by
  unfold SeeR at h
  split at h
  · rw [h]; exact .refl _
  · rename_i hn
    have hb : ¬ 0 < (mget K.boxes b).getD 0 := fun h => hn (.inr (.inr h))
    split at h
    · exact (Grow.saw hb).trans (.learn h)
    · rw [h]; exact ⟨(Grow.saw hb).le, (Grow.saw hb).bx⟩
theorem Grow.do {K K' : KnowM} {o : Coterielaw19Op} (h : DoR K o K') : Grow K K' := by
  unfold DoR at h
  split at h
  · exact .learn h
  · split at h
    · exact .see h
    · split at h
      · rw [h]; unfold KnowM.read; split
        · exact ⟨(Grow.refl K).le, (Grow.refl K).bx⟩
        · exact .refl _
      · rw [h]; exact .refl _
structure GwG where
  j : Nat
  K : KnowM
  s : Hp
  mv : Value
  ml : List ApiBox
  ms : Hp
  hv : Value
  hl : List ApiKey
  hs : Hp
structure GwOk (l bk : Nat) (g : GwG) : Prop where
  le : g.j ≤ l
  tot : tot g.K.shut ≤ g.j
  k : KnowS bk g.K g.s
  m : OwnS g.mv 34 ApiBox 4 cvApiBox g.ml g.ms
  h : OwnS g.hv 23 ApiKey 2 cvApiKey g.hl g.hs
  ml : g.ml.length ≤ g.j
  hl : g.hl.length ≤ g.j
  am : ∀ b ∈ g.ml, g.K.makes b
  ah : ∀ x ∈ g.hl, g.K.had x.Base x.Step
theorem kgrows_s {uv : Value} {l : List Coterielaw19Op} {s : Hp} (hu : AtS uv 75 Coterielaw19Op 9 cvCoterielaw19Op l s) (hb : l.length * 80 ≤ 140737488351232) : SX.Spec Try.prog 14 #[uv] [s] [] fun v Γ => v = .bool true ∧ Γ = [] := by
  refine spec_of1 Try.func14 Try.ntmps14 rfl rfl (fun M w0 => ?_)
  repeat' (first | refine stp ?_|(refine v_spT ?_ ?_;omega)|(refine v_spF ?_ ?_;omega)|refine v_spD (fun hc=>?_) (fun hc=>?_)|refine v_spB (fun hc=>?_) (fun hc=>?_)|(refine v_yc ?_ ?_;omega)|refine v_alloc' (fun ba=>?_)|refine v_box (fun bb=>?_)|refine v_lit (fun bl=>?_)|refine v_makeMap (fun bm=>?_)|(refine v_push ?_ (fun sv ss hs hln=>?_);omega)|(refine v_push0 ?_ (fun sv ss hs=>?_);omega)|(refine v_set ?_ (fun ss hs hln=>?_);omega)|(refine v_cat ?_ (fun sv ss hs hln=>?_);omega)|(refine v_cat0 ?_ (fun sv ss hs=>?_);omega)|(refine v_catN ?_ (fun sv ss hs=>?_);omega)|refine v_put (fun sm hm=>?_)|refine v_del (fun sm hm=>?_)|(refine v_sb ?_ (fun su (And.intro hs hln)=>?_);omega)|refine v_1lk (fun lv hlk=>?_) (fun hlk=>?_)|refine v_ment (fun st sm hm hst=>?_)|refine v_esto (fun sm hm=>?_)|refine v_rng (fun ri ti hit=>?_)|refine v_clone (fun bc sc hcl=>?_)|refine v_yw ?_|fail)
  refine v_callO knewS ?_
  rintro v Γ' ⟨bk, s1, rfl, rfl, hK⟩
  (try dsimp only [List.cons_append, List.nil_append])
  repeat' (first | refine stp ?_|(refine v_spT ?_ ?_;omega)|(refine v_spF ?_ ?_;omega)|refine v_spD (fun hc=>?_) (fun hc=>?_)|refine v_spB (fun hc=>?_) (fun hc=>?_)|(refine v_yc ?_ ?_;omega)|refine v_alloc' (fun ba=>?_)|refine v_box (fun bb=>?_)|refine v_lit (fun bl=>?_)|refine v_makeMap (fun bm=>?_)|(refine v_push ?_ (fun sv ss hs hln=>?_);omega)|(refine v_push0 ?_ (fun sv ss hs=>?_);omega)|(refine v_set ?_ (fun ss hs hln=>?_);omega)|(refine v_cat ?_ (fun sv ss hs hln=>?_);omega)|(refine v_cat0 ?_ (fun sv ss hs=>?_);omega)|(refine v_catN ?_ (fun sv ss hs=>?_);omega)|refine v_put (fun sm hm=>?_)|refine v_del (fun sm hm=>?_)|(refine v_sb ?_ (fun su (And.intro hs hln)=>?_);omega)|refine v_1lk (fun lv hlk=>?_) (fun hlk=>?_)|refine v_ment (fun st sm hm hst=>?_)|refine v_esto (fun sm hm=>?_)|refine v_rng (fun ri ti hit=>?_)|refine v_clone (fun bc sc hcl=>?_)|refine v_yw ?_|fail)
  refine v_lp [4, 5, 17] [3, 15, 16] (fun g : GwG => [g.mv, g.hv, .int .i64 g.j]) (fun g => [g.s, g.ms, g.hs]) (GwOk l.length bk) (fun g => l.length - g.j) ⟨0, KnowM.zero, s1, nilS, [], [], nilS, [], []⟩ (fun _ => rfl) rfl inferInstance
    ⟨Nat.zero_le _, Nat.le_refl _, hK, OwnS.nil, OwnS.nil, Nat.le_refl _, Nat.le_refl _, by simp, by simp⟩ ?_
  clear hK s1
  rintro ⟨j, K0, s0, mv, ml, ms, hv, hl, hq⟩ ⟨hj, ht, hK, hm, hh, hml, hhl, ham, hah⟩
  dsimp only at hj ht hK hm hh hml hhl ham hah ⊢
  (try dsimp only [zipE_c, zipE_n, List.cons_append, List.nil_append])
  repeat' (first | refine stp ?_|(refine v_spT ?_ ?_;omega)|(refine v_spF ?_ ?_;omega)|refine v_spD (fun hc=>?_) (fun hc=>?_)|refine v_spB (fun hc=>?_) (fun hc=>?_)|(refine v_yc ?_ ?_;omega)|refine v_alloc' (fun ba=>?_)|refine v_box (fun bb=>?_)|refine v_lit (fun bl=>?_)|refine v_makeMap (fun bm=>?_)|(refine v_push ?_ (fun sv ss hs hln=>?_);omega)|(refine v_push0 ?_ (fun sv ss hs=>?_);omega)|(refine v_set ?_ (fun ss hs hln=>?_);omega)|(refine v_cat ?_ (fun sv ss hs hln=>?_);omega)|(refine v_cat0 ?_ (fun sv ss hs=>?_);omega)|(refine v_catN ?_ (fun sv ss hs=>?_);omega)|refine v_put (fun sm hm=>?_)|refine v_del (fun sm hm=>?_)|(refine v_sb ?_ (fun su (And.intro hs hln)=>?_);omega)|refine v_1lk (fun lv hlk=>?_) (fun hlk=>?_)|refine v_ment (fun st sm hm hst=>?_)|refine v_esto (fun sm hm=>?_)|refine v_rng (fun ri ti hit=>?_)|refine v_clone (fun bc sc hcl=>?_)|refine v_yw ?_|fail)
  · refine v_callO (do_s hK l[j] (by omega)) ?_
    rintro v Γ' ⟨K, s1, rfl, rfl, h1, h2⟩
    have hg := Grow.do h1
    have ht' := h1.tot
    replace ham : ∀ b ∈ ml, K.makes b := fun b hb => hg.makes (ham b hb)
    replace hah : ∀ x ∈ hl, K.had x.Base x.Step := fun x hx => hg.had (hah x hx)
    clear hK h1 hg
    (try dsimp only [List.cons_append, List.nil_append])
    repeat' (first | refine stp ?_|(refine v_spT ?_ ?_;omega)|(refine v_spF ?_ ?_;omega)|refine v_spD (fun hc=>?_) (fun hc=>?_)|refine v_spB (fun hc=>?_) (fun hc=>?_)|(refine v_yc ?_ ?_;omega)|refine v_alloc' (fun ba=>?_)|refine v_box (fun bb=>?_)|refine v_lit (fun bl=>?_)|refine v_makeMap (fun bm=>?_)|(refine v_push ?_ (fun sv ss hs hln=>?_);omega)|(refine v_push0 ?_ (fun sv ss hs=>?_);omega)|(refine v_set ?_ (fun ss hs hln=>?_);omega)|(refine v_cat ?_ (fun sv ss hs hln=>?_);omega)|(refine v_cat0 ?_ (fun sv ss hs=>?_);omega)|(refine v_catN ?_ (fun sv ss hs=>?_);omega)|refine v_put (fun sm hm=>?_)|refine v_del (fun sm hm=>?_)|(refine v_sb ?_ (fun su (And.intro hs hln)=>?_);omega)|refine v_1lk (fun lv hlk=>?_) (fun hlk=>?_)|refine v_ment (fun st sm hm hst=>?_)|refine v_esto (fun sm hm=>?_)|refine v_rng (fun ri ti hit=>?_)|refine v_clone (fun bc sc hcl=>?_)|refine v_yw ?_|fail)
    refine v_lp [26] [3, 4, 5, 7, 15, 16, 17, 24, 25] (fun i : Nat => [.int .i64 i]) (fun _ => []) (fun i => i ≤ hl.length) (fun i => hl.length - i) 0 (fun _ => rfl) rfl inferInstance (Nat.zero_le _) ?_
    rintro i hi
    (try dsimp only [zipE_c, zipE_n, List.cons_append, List.nil_append])
    repeat' (first | refine stp ?_|(refine v_spT ?_ ?_;omega)|(refine v_spF ?_ ?_;omega)|refine v_spD (fun hc=>?_) (fun hc=>?_)|refine v_spB (fun hc=>?_) (fun hc=>?_)|(refine v_yc ?_ ?_;omega)|refine v_alloc' (fun ba=>?_)|refine v_box (fun bb=>?_)|refine v_lit (fun bl=>?_)|refine v_makeMap (fun bm=>?_)|(refine v_push ?_ (fun sv ss hs hln=>?_);omega)|(refine v_push0 ?_ (fun sv ss hs=>?_);omega)|(refine v_set ?_ (fun ss hs hln=>?_);omega)|(refine v_cat ?_ (fun sv ss hs hln=>?_);omega)|(refine v_cat0 ?_ (fun sv ss hs=>?_);omega)|(refine v_catN ?_ (fun sv ss hs=>?_);omega)|refine v_put (fun sm hm=>?_)|refine v_del (fun sm hm=>?_)|(refine v_sb ?_ (fun su (And.intro hs hln)=>?_);omega)|refine v_1lk (fun lv hlk=>?_) (fun hlk=>?_)|refine v_ment (fun st sm hm hst=>?_)|refine v_esto (fun sm hm=>?_)|refine v_rng (fun ri ti hit=>?_)|refine v_clone (fun bc sc hcl=>?_)|refine v_yw ?_|fail)
    · refine v_callR (hasS h2 _ _) ?_
      rintro v Γ' ⟨rfl, rfl⟩
      rw [decide_eq_true (hah hl[i] (List.getElem_mem _))]
      (try dsimp only [List.cons_append, List.nil_append])
      repeat' (first | refine stp ?_|(refine v_spT ?_ ?_;omega)|(refine v_spF ?_ ?_;omega)|refine v_spD (fun hc=>?_) (fun hc=>?_)|refine v_spB (fun hc=>?_) (fun hc=>?_)|(refine v_yc ?_ ?_;omega)|refine v_alloc' (fun ba=>?_)|refine v_box (fun bb=>?_)|refine v_lit (fun bl=>?_)|refine v_makeMap (fun bm=>?_)|(refine v_push ?_ (fun sv ss hs hln=>?_);omega)|(refine v_push0 ?_ (fun sv ss hs=>?_);omega)|(refine v_set ?_ (fun ss hs hln=>?_);omega)|(refine v_cat ?_ (fun sv ss hs hln=>?_);omega)|(refine v_cat0 ?_ (fun sv ss hs=>?_);omega)|(refine v_catN ?_ (fun sv ss hs=>?_);omega)|refine v_put (fun sm hm=>?_)|refine v_del (fun sm hm=>?_)|(refine v_sb ?_ (fun su (And.intro hs hln)=>?_);omega)|refine v_1lk (fun lv hlk=>?_) (fun hlk=>?_)|refine v_ment (fun st sm hm hst=>?_)|refine v_esto (fun sm hm=>?_)|refine v_rng (fun ri ti hit=>?_)|refine v_clone (fun bc sc hcl=>?_)|refine v_yw ?_|fail)
      refine v_again (i + 1) (by omega) rfl inferInstance (by omega)
    have hstop49 := @stopI Try.prog 49
    refine v_lp [37] [3, 4, 5, 7, 15, 16, 17, 35, 36] (fun i : Nat => [.int .i64 i]) (fun _ => []) (fun i => i ≤ ml.length) (fun i => ml.length - i) 0 (fun _ => rfl) rfl inferInstance (Nat.zero_le _) ?_
    rintro i hi
    (try dsimp only [zipE_c, zipE_n, List.cons_append, List.nil_append])
    repeat' (first | refine stp ?_|(refine v_spT ?_ ?_;omega)|(refine v_spF ?_ ?_;omega)|refine v_spD (fun hc=>?_) (fun hc=>?_)|refine v_spB (fun hc=>?_) (fun hc=>?_)|(refine v_yc ?_ ?_;omega)|refine v_alloc' (fun ba=>?_)|refine v_box (fun bb=>?_)|refine v_lit (fun bl=>?_)|refine v_makeMap (fun bm=>?_)|(refine v_push ?_ (fun sv ss hs hln=>?_);omega)|(refine v_push0 ?_ (fun sv ss hs=>?_);omega)|(refine v_set ?_ (fun ss hs hln=>?_);omega)|(refine v_cat ?_ (fun sv ss hs hln=>?_);omega)|(refine v_cat0 ?_ (fun sv ss hs=>?_);omega)|(refine v_catN ?_ (fun sv ss hs=>?_);omega)|refine v_put (fun sm hm=>?_)|refine v_del (fun sm hm=>?_)|(refine v_sb ?_ (fun su (And.intro hs hln)=>?_);omega)|refine v_1lk (fun lv hlk=>?_) (fun hlk=>?_)|refine v_ment (fun st sm hm hst=>?_)|refine v_esto (fun sm hm=>?_)|refine v_rng (fun ri ti hit=>?_)|refine v_clone (fun bc sc hcl=>?_)|refine v_yw ?_|fail)
    · refine v_callR (makesS h2 _) ?_
      rintro v Γ' ⟨rfl, rfl⟩
      rw [decide_eq_true (ham ml[i] (List.getElem_mem _))]
      (try dsimp only [List.cons_append, List.nil_append])
      repeat' (first | refine stp ?_|(refine v_spT ?_ ?_;omega)|(refine v_spF ?_ ?_;omega)|refine v_spD (fun hc=>?_) (fun hc=>?_)|refine v_spB (fun hc=>?_) (fun hc=>?_)|(refine v_yc ?_ ?_;omega)|refine v_alloc' (fun ba=>?_)|refine v_box (fun bb=>?_)|refine v_lit (fun bl=>?_)|refine v_makeMap (fun bm=>?_)|(refine v_push ?_ (fun sv ss hs hln=>?_);omega)|(refine v_push0 ?_ (fun sv ss hs=>?_);omega)|(refine v_set ?_ (fun ss hs hln=>?_);omega)|(refine v_cat ?_ (fun sv ss hs hln=>?_);omega)|(refine v_cat0 ?_ (fun sv ss hs=>?_);omega)|(refine v_catN ?_ (fun sv ss hs=>?_);omega)|refine v_put (fun sm hm=>?_)|refine v_del (fun sm hm=>?_)|(refine v_sb ?_ (fun su (And.intro hs hln)=>?_);omega)|refine v_1lk (fun lv hlk=>?_) (fun hlk=>?_)|refine v_ment (fun st sm hm hst=>?_)|refine v_esto (fun sm hm=>?_)|refine v_rng (fun ri ti hit=>?_)|refine v_clone (fun bc sc hcl=>?_)|refine v_yw ?_|fail)
      refine v_again (i + 1) (by omega) rfl inferInstance (by omega)
    refine Stopped.go <| v_ctI 49 [4] [3, 5, 7, 15, 16, 17] (fun x : Value × List ApiBox × Hp => [x.1]) (fun x => [x.2.2, s1, [(ba, .cells (cvCoterielaw19Op l[j]).toArray 75 (0, 0))], hq]) (fun x => OwnS x.1 34 ApiBox 4 cvApiBox x.2.1 x.2.2 ∧ x.2.1.length ≤ j + 1 ∧ ∀ b ∈ x.2.1, K.makes b) (fun _ => rfl) ?_ ?_
    · (try dsimp only [zipE_c, zipE_n, List.cons_append, List.nil_append])
      repeat' (first | refine stp ?_|(refine v_spT ?_ ?_;omega)|(refine v_spF ?_ ?_;omega)|refine v_spD (fun hc=>?_) (fun hc=>?_)|refine v_spB (fun hc=>?_) (fun hc=>?_)|(refine v_yc ?_ ?_;omega)|refine v_alloc' (fun ba=>?_)|refine v_box (fun bb=>?_)|refine v_lit (fun bl=>?_)|refine v_makeMap (fun bm=>?_)|(refine v_push ?_ (fun sv ss hs hln=>?_);omega)|(refine v_push0 ?_ (fun sv ss hs=>?_);omega)|(refine v_set ?_ (fun ss hs hln=>?_);omega)|(refine v_cat ?_ (fun sv ss hs hln=>?_);omega)|(refine v_cat0 ?_ (fun sv ss hs=>?_);omega)|(refine v_catN ?_ (fun sv ss hs=>?_);omega)|refine v_put (fun sm hm=>?_)|refine v_del (fun sm hm=>?_)|(refine v_sb ?_ (fun su (And.intro hs hln)=>?_);omega)|refine v_1lk (fun lv hlk=>?_) (fun hlk=>?_)|refine v_ment (fun st sm hm hst=>?_)|refine v_esto (fun sm hm=>?_)|refine v_rng (fun ri ti hit=>?_)|refine v_clone (fun bc sc hcl=>?_)|refine v_yw ?_|fail)
      refine v_callR (makesS h2 _) ?_
      rintro v Γ' ⟨rfl, rfl⟩
      (try dsimp only [List.cons_append, List.nil_append])
      repeat' (first | refine stp ?_|(refine v_spT ?_ ?_;omega)|(refine v_spF ?_ ?_;omega)|refine v_spD (fun hc=>?_) (fun hc=>?_)|refine v_spB (fun hc=>?_) (fun hc=>?_)|(refine v_yc ?_ ?_;omega)|refine v_alloc' (fun ba=>?_)|refine v_box (fun bb=>?_)|refine v_lit (fun bl=>?_)|refine v_makeMap (fun bm=>?_)|(refine v_push ?_ (fun sv ss hs hln=>?_);omega)|(refine v_push0 ?_ (fun sv ss hs=>?_);omega)|(refine v_set ?_ (fun ss hs hln=>?_);omega)|(refine v_cat ?_ (fun sv ss hs hln=>?_);omega)|(refine v_cat0 ?_ (fun sv ss hs=>?_);omega)|(refine v_catN ?_ (fun sv ss hs=>?_);omega)|refine v_put (fun sm hm=>?_)|refine v_del (fun sm hm=>?_)|(refine v_sb ?_ (fun su (And.intro hs hln)=>?_);omega)|refine v_1lk (fun lv hlk=>?_) (fun hlk=>?_)|refine v_ment (fun st sm hm hst=>?_)|refine v_esto (fun sm hm=>?_)|refine v_rng (fun ri ti hit=>?_)|refine v_clone (fun bc sc hcl=>?_)|refine v_yw ?_|fail)
      · refine v_here (sv, ml ++ [l[j].Box], ss) rfl inferInstance ⟨hs, by dsimp only; omega, fun b hb => ?_⟩
        simp only [List.mem_append, List.mem_singleton] at hb
        rcases hb with hb | rfl
        · exact ham b hb
        · exact hc
      · refine v_here (mv, ml, ms) rfl inferInstance ⟨hm, by dsimp only; omega, ham⟩
    rintro ⟨mv', ml', ms'⟩ ⟨g1, g2, g3⟩
    dsimp only at g1 g2 g3 ⊢
    (try dsimp only [zipE_c, zipE_n, List.cons_append, List.nil_append])
    repeat' (first | refine stp ?_|(refine v_spT ?_ ?_;omega)|(refine v_spF ?_ ?_;omega)|refine v_spD (fun hc=>?_) (fun hc=>?_)|refine v_spB (fun hc=>?_) (fun hc=>?_)|(refine v_yc ?_ ?_;omega)|refine v_alloc' (fun ba=>?_)|refine v_box (fun bb=>?_)|refine v_lit (fun bl=>?_)|refine v_makeMap (fun bm=>?_)|(refine v_push ?_ (fun sv ss hs hln=>?_);omega)|(refine v_push0 ?_ (fun sv ss hs=>?_);omega)|(refine v_set ?_ (fun ss hs hln=>?_);omega)|(refine v_cat ?_ (fun sv ss hs hln=>?_);omega)|(refine v_cat0 ?_ (fun sv ss hs=>?_);omega)|(refine v_catN ?_ (fun sv ss hs=>?_);omega)|refine v_put (fun sm hm=>?_)|refine v_del (fun sm hm=>?_)|(refine v_sb ?_ (fun su (And.intro hs hln)=>?_);omega)|refine v_1lk (fun lv hlk=>?_) (fun hlk=>?_)|refine v_ment (fun st sm hm hst=>?_)|refine v_esto (fun sm hm=>?_)|refine v_rng (fun ri ti hit=>?_)|refine v_clone (fun bc sc hcl=>?_)|refine v_yw ?_|fail)
    refine v_callR (hasS h2 _ _) ?_
    rintro v Γ' ⟨rfl, rfl⟩
    (try dsimp only [List.cons_append, List.nil_append])
    repeat' (first | refine stp ?_|(refine v_spT ?_ ?_;omega)|(refine v_spF ?_ ?_;omega)|refine v_spD (fun hc=>?_) (fun hc=>?_)|refine v_spB (fun hc=>?_) (fun hc=>?_)|(refine v_yc ?_ ?_;omega)|refine v_alloc' (fun ba=>?_)|refine v_box (fun bb=>?_)|refine v_lit (fun bl=>?_)|refine v_makeMap (fun bm=>?_)|(refine v_push ?_ (fun sv ss hs hln=>?_);omega)|(refine v_push0 ?_ (fun sv ss hs=>?_);omega)|(refine v_set ?_ (fun ss hs hln=>?_);omega)|(refine v_cat ?_ (fun sv ss hs hln=>?_);omega)|(refine v_cat0 ?_ (fun sv ss hs=>?_);omega)|(refine v_catN ?_ (fun sv ss hs=>?_);omega)|refine v_put (fun sm hm=>?_)|refine v_del (fun sm hm=>?_)|(refine v_sb ?_ (fun su (And.intro hs hln)=>?_);omega)|refine v_1lk (fun lv hlk=>?_) (fun hlk=>?_)|refine v_ment (fun st sm hm hst=>?_)|refine v_esto (fun sm hm=>?_)|refine v_rng (fun ri ti hit=>?_)|refine v_clone (fun bc sc hcl=>?_)|refine v_yw ?_|fail)
    · refine v_again ⟨j + 1, K, s1, mv', ml', ms', sv, hl ++ [l[j].Box.Load], ss⟩ (by dsimp only; omega) rfl inferInstance ⟨by dsimp only; omega, by dsimp only; omega, h2, g1, hs, g2, by dsimp only; omega, g3, fun b hb => ?_⟩
      simp only [List.mem_append, List.mem_singleton] at hb
      rcases hb with hb | rfl
      · exact hah b hb
      · exact hc
    · refine v_again ⟨j + 1, K, s1, mv', ml', ms', hv, hl, hq⟩ (by dsimp only; omega) rfl inferInstance ⟨by dsimp only; omega, by dsimp only; omega, h2, g1, hh, g2, by dsimp only; omega, g3, hah⟩
  · refine v_o1 Try.results14 ⟨rfl, rfl⟩ ⟨_, inferInstance⟩
end Go.Proofs.Ytbkobjdeijdpgaa
