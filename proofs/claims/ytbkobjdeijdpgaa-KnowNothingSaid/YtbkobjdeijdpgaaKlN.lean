/- KnowNothing: the walk and its law. -/
import Derived.Test.YtbkobjdeijdpgaaKz
namespace Go.Proofs.Ytbkobjdeijdpgaa
open Go Go.SX Go.RowKit
set_option maxRecDepth 100000
set_option linter.unusedSimpArgs false
set_option linter.unusedVariables false
set_option maxHeartbeats 0
set_option synthInstance.maxSize 100000
set_option synthInstance.maxHeartbeats 400000
/-- nothing of the name b is had, or is in what is shut -/
structure Clean (b : Int) (K : KnowM) : Prop where
  no : mget K.least b = none
  sh : ∀ k, ∀ x ∈ (mget K.shut k).getD [], x.Load.Base ≠ b
theorem Clean.learn {b : Int} {K K' : KnowM} {l : List ApiKey} (h : LearnR K l K') (hc : Clean b K) (hl : ∀ x ∈ l, x.Base ≠ b) : Clean b K' := by
  induction h with
  | done => exact hc
  | skip _ _ ih => exact ih hc (fun x hx => hl x (List.mem_cons_of_mem _ hx))
  | @take K K' x l _ _ _ ih =>
    have hx : x.Base ≠ b := hl x (List.mem_cons_self ..)
    refine ih ⟨?_, fun k y hy => ?_⟩ (fun y hy => ?_)
    · show mget (mput K.least x.Base x.Step) b = none
      rw [mget_mput, if_neg (fun e => hx e.symm)]
      exact hc.no
    · have e : (K.take x).shut = mput K.shut x.Base (kep x ((mget K.shut x.Base).getD [])) := rfl
      rw [e, mget_mput] at hy
      split at hy
      · exact hc.sh x.Base y (List.mem_filter.1 hy).1
      · exact hc.sh k y hy
    · rcases List.mem_append.1 hy with hy | hy
      · exact hl y (List.mem_cons_of_mem _ hy)
      · obtain ⟨z, hz, rfl⟩ := List.mem_map.1 hy
        exact hc.sh x.Base z (List.mem_filter.1 hz).1
theorem Clean.see {b : Int} {K K' : KnowM} {x : ApiBox} (h : SeeR K x K') (hc : Clean b K) (hx : x.Load.Base ≠ b) : Clean b K' := by
  unfold SeeR at h
  split at h
  · rw [h]; exact hc
  · split at h
    · exact Clean.learn h ⟨hc.no, hc.sh⟩ (fun y hy => by simp at hy; subst hy; exact hx)
    · rw [h]
      refine ⟨hc.no, fun k y hy => ?_⟩
      have e : (K.lay x).shut = mput K.shut x.Under.Base ((mget K.shut x.Under.Base).getD [] ++ [x]) := rfl
      rw [e, mget_mput] at hy
      split at hy
      · simp only [Option.getD_some, List.mem_append, List.mem_singleton] at hy
        rcases hy with hy | rfl
        · exact hc.sh _ y hy
        · exact hx
      · exact hc.sh k y hy
theorem Clean.do {b : Int} {K K' : KnowM} {o : Coterielaw19Op} (h : DoR K o K') (hc : Clean b K) (h1 : ¬ (o.Kind = 1 ∧ o.Box.Under.Base = b)) (h2 : ¬ (o.Kind = 2 ∧ o.Box.Load.Base = b)) : Clean b K' := by
  unfold DoR at h
  split at h
  · rename_i hk
    exact Clean.learn h hc (fun y hy => by simp at hy; subst hy; exact fun e => h1 ⟨hk, e⟩)
  · split at h
    · rename_i hk
      exact Clean.see h hc (fun e => h2 ⟨hk, e⟩)
    · split at h
      · rw [h]; unfold KnowM.read; split
        · exact ⟨hc.no, hc.sh⟩
        · exact hc
      · rw [h]; exact hc
theorem Clean.hasnt {b : Int} {K : KnowM} (h : Clean b K) (hb : b < 32768) (s : Int) : ¬ K.had b s := fun h' => by
  rcases h'.2 with h' | ⟨t, ht, _⟩
  · omega
  · rw [h.no] at ht; cases ht
structure NoG where
  j : Nat
  t : Bool
  K : KnowM
  s : Hp
structure NoOk (l bk : Nat) (xb : Int) (g : NoG) : Prop where
  le : g.j ≤ l
  tot : tot g.K.shut ≤ g.j
  k : KnowS bk g.K g.s
  cl : g.t = false → xb < 32768 ∧ Clean xb g.K
theorem nothing_s {uv : Value} {l : List Coterielaw19Op} {s : Hp} (hu : AtS uv 75 Coterielaw19Op 9 cvCoterielaw19Op l s) (hb : l.length * 80 ≤ 140737488351232) (x : ApiKey) : SX.Spec Try.prog 13 #[uv, avApiKey x] [s] [] fun v Γ => v = .bool true ∧ Γ = [] := by
  refine spec_of2 Try.func13 Try.ntmps13 rfl rfl (fun M w0 => ?_)
  repeat' (first | refine stp ?_|(refine v_spT ?_ ?_;omega)|(refine v_spF ?_ ?_;omega)|refine v_spD (fun hc=>?_) (fun hc=>?_)|refine v_spB (fun hc=>?_) (fun hc=>?_)|(refine v_yc ?_ ?_;omega)|refine v_alloc' (fun ba=>?_)|refine v_box (fun bb=>?_)|refine v_lit (fun bl=>?_)|refine v_makeMap (fun bm=>?_)|(refine v_push ?_ (fun sv ss hs hln=>?_);omega)|(refine v_push0 ?_ (fun sv ss hs=>?_);omega)|(refine v_set ?_ (fun ss hs hln=>?_);omega)|(refine v_cat ?_ (fun sv ss hs hln=>?_);omega)|(refine v_cat0 ?_ (fun sv ss hs=>?_);omega)|(refine v_catN ?_ (fun sv ss hs=>?_);omega)|refine v_put (fun sm hm=>?_)|refine v_del (fun sm hm=>?_)|(refine v_sb ?_ (fun su (And.intro hs hln)=>?_);omega)|refine v_1lk (fun lv hlk=>?_) (fun hlk=>?_)|refine v_ment (fun st sm hm hst=>?_)|refine v_esto (fun sm hm=>?_)|refine v_rng (fun ri ti hit=>?_)|refine v_clone (fun bc sc hcl=>?_)|refine v_yw ?_|refine ⟨?_,?_⟩|(refine v_tyc ?_ ?_;omega)|(refine v_tycT (by decide +kernel) ?_ ?_;omega)|refine v_tValT (by decide +kernel) ?_|(refine v_tsb ?_ (fun su (And.intro hs hln)=>?_);omega)|refine v_tlk (fun lv hlk=>?_) (fun hlk=>?_)|refine v_tlkT (by decide +kernel) (fun lv hlk=>?_) (fun hlk=>?_)|refine v_tyw ?_|refine v_aThree rfl rfl rfl ?_ ?_ ?_|refine v_drawn0 (id:=16) pl13_16 (by kernel_rfl) ?_|fail)
  refine v_callO knewS ?_
  rintro v Γ' ⟨bk, s1, rfl, rfl, hK⟩
  (try dsimp only [List.cons_append, List.nil_append])
  repeat' (first | refine stp ?_|(refine v_spT ?_ ?_;omega)|(refine v_spF ?_ ?_;omega)|refine v_spD (fun hc=>?_) (fun hc=>?_)|refine v_spB (fun hc=>?_) (fun hc=>?_)|(refine v_yc ?_ ?_;omega)|refine v_alloc' (fun ba=>?_)|refine v_box (fun bb=>?_)|refine v_lit (fun bl=>?_)|refine v_makeMap (fun bm=>?_)|(refine v_push ?_ (fun sv ss hs hln=>?_);omega)|(refine v_push0 ?_ (fun sv ss hs=>?_);omega)|(refine v_set ?_ (fun ss hs hln=>?_);omega)|(refine v_cat ?_ (fun sv ss hs hln=>?_);omega)|(refine v_cat0 ?_ (fun sv ss hs=>?_);omega)|(refine v_catN ?_ (fun sv ss hs=>?_);omega)|refine v_put (fun sm hm=>?_)|refine v_del (fun sm hm=>?_)|(refine v_sb ?_ (fun su (And.intro hs hln)=>?_);omega)|refine v_1lk (fun lv hlk=>?_) (fun hlk=>?_)|refine v_ment (fun st sm hm hst=>?_)|refine v_esto (fun sm hm=>?_)|refine v_rng (fun ri ti hit=>?_)|refine v_clone (fun bc sc hcl=>?_)|refine v_yw ?_|refine ⟨?_,?_⟩|(refine v_tyc ?_ ?_;omega)|(refine v_tycT (by decide +kernel) ?_ ?_;omega)|refine v_tValT (by decide +kernel) ?_|(refine v_tsb ?_ (fun su (And.intro hs hln)=>?_);omega)|refine v_tlk (fun lv hlk=>?_) (fun hlk=>?_)|refine v_tlkT (by decide +kernel) (fun lv hlk=>?_) (fun hlk=>?_)|refine v_tyw ?_|refine v_aThree rfl rfl rfl ?_ ?_ ?_|refine v_drawn0 (id:=16) pl13_16 (by kernel_rfl) ?_|fail)
  refine v_lp [6, 18] [3, 5, 16, 17] (fun g : NoG => [.bool g.t, .int .i64 g.j]) (fun g => [g.s]) (NoOk l.length bk x.Base) (fun g => l.length - g.j) ⟨0, decide (32768 ≤ x.Base), KnowM.zero, s1⟩ (fun _ => rfl) rfl inferInstance
    ⟨Nat.zero_le _, Nat.le_refl _, hK, fun h => ⟨by simpa using h, rfl, fun _ _ h => by simp [mget] at h⟩⟩ ?_
  clear hK s1
  rintro ⟨j, t, K, s1⟩ ⟨hj, ht, hK, hcl⟩
  dsimp only at hj ht hK hcl ⊢
  (try dsimp only [zipE_c, zipE_n, List.cons_append, List.nil_append])
  have hstop8 := @stopR Try.prog 8
  repeat' (first | refine stp ?_|(refine v_spT ?_ ?_;omega)|(refine v_spF ?_ ?_;omega)|refine v_spD (fun hc=>?_) (fun hc=>?_)|refine v_spB (fun hc=>?_) (fun hc=>?_)|(refine v_yc ?_ ?_;omega)|refine v_alloc' (fun ba=>?_)|refine v_box (fun bb=>?_)|refine v_lit (fun bl=>?_)|refine v_makeMap (fun bm=>?_)|(refine v_push ?_ (fun sv ss hs hln=>?_);omega)|(refine v_push0 ?_ (fun sv ss hs=>?_);omega)|(refine v_set ?_ (fun ss hs hln=>?_);omega)|(refine v_cat ?_ (fun sv ss hs hln=>?_);omega)|(refine v_cat0 ?_ (fun sv ss hs=>?_);omega)|(refine v_catN ?_ (fun sv ss hs=>?_);omega)|refine v_put (fun sm hm=>?_)|refine v_del (fun sm hm=>?_)|(refine v_sb ?_ (fun su (And.intro hs hln)=>?_);omega)|refine v_1lk (fun lv hlk=>?_) (fun hlk=>?_)|refine v_ment (fun st sm hm hst=>?_)|refine v_esto (fun sm hm=>?_)|refine v_rng (fun ri ti hit=>?_)|refine v_clone (fun bc sc hcl=>?_)|refine v_yw ?_|refine ⟨?_,?_⟩|(refine v_tyc ?_ ?_;omega)|(refine v_tycT (by decide +kernel) ?_ ?_;omega)|refine v_tValT (by decide +kernel) ?_|(refine v_tsb ?_ (fun su (And.intro hs hln)=>?_);omega)|refine v_tlk (fun lv hlk=>?_) (fun hlk=>?_)|refine v_tlkT (by decide +kernel) (fun lv hlk=>?_) (fun hlk=>?_)|refine v_tyw ?_|refine v_aThree rfl rfl rfl ?_ ?_ ?_|refine v_drawn0 (id:=16) pl13_16 (by kernel_rfl) ?_|fail)
  · skip
    refine Stopped.go <| v_ctR 8 [6] [3, 5, 8, 16, 17, 18] (fun t' : Bool => [.bool t']) (fun _ => [s1, [(bb, .cells #[.int .i64 x.Base, .int .i64 x.Step] 23 (0, 0))], [(ba, .cells (cvCoterielaw19Op l[j]).toArray 75 (0, 0))]]) (fun t' => t' = false → t = false ∧ ¬ (l[j].Kind = 1 ∧ l[j].Box.Under.Base = x.Base) ∧ ¬ (l[j].Kind = 2 ∧ l[j].Box.Load.Base = x.Base)) (fun _ => rfl) ?_ ?_
    · (try dsimp only [zipE_c, zipE_n, List.cons_append, List.nil_append])
      repeat' (first | refine stp ?_|(refine v_spT ?_ ?_;omega)|(refine v_spF ?_ ?_;omega)|refine v_spD (fun hc=>?_) (fun hc=>?_)|refine v_spB (fun hc=>?_) (fun hc=>?_)|(refine v_yc ?_ ?_;omega)|refine v_alloc' (fun ba=>?_)|refine v_box (fun bb=>?_)|refine v_lit (fun bl=>?_)|refine v_makeMap (fun bm=>?_)|(refine v_push ?_ (fun sv ss hs hln=>?_);omega)|(refine v_push0 ?_ (fun sv ss hs=>?_);omega)|(refine v_set ?_ (fun ss hs hln=>?_);omega)|(refine v_cat ?_ (fun sv ss hs hln=>?_);omega)|(refine v_cat0 ?_ (fun sv ss hs=>?_);omega)|(refine v_catN ?_ (fun sv ss hs=>?_);omega)|refine v_put (fun sm hm=>?_)|refine v_del (fun sm hm=>?_)|(refine v_sb ?_ (fun su (And.intro hs hln)=>?_);omega)|refine v_1lk (fun lv hlk=>?_) (fun hlk=>?_)|refine v_ment (fun st sm hm hst=>?_)|refine v_esto (fun sm hm=>?_)|refine v_rng (fun ri ti hit=>?_)|refine v_clone (fun bc sc hcl=>?_)|refine v_yw ?_|refine ⟨?_,?_⟩|(refine v_tyc ?_ ?_;omega)|(refine v_tycT (by decide +kernel) ?_ ?_;omega)|refine v_tValT (by decide +kernel) ?_|(refine v_tsb ?_ (fun su (And.intro hs hln)=>?_);omega)|refine v_tlk (fun lv hlk=>?_) (fun hlk=>?_)|refine v_tlkT (by decide +kernel) (fun lv hlk=>?_) (fun hlk=>?_)|refine v_tyw ?_|refine v_aThree rfl rfl rfl ?_ ?_ ?_|refine v_drawn0 (id:=16) pl13_16 (by kernel_rfl) ?_|fail)
      · refine v_here true rfl inferInstance (fun h => by cases h)
      · refine v_here true rfl inferInstance (fun h => by cases h)
      · rename_i h1 h2
        refine v_here false rfl inferInstance (fun _ => ⟨h1, fun h => hc h.2, fun h => by omega⟩)
      · rename_i h2 h1
        refine v_here (decide (l[j].Box.Load.Base = x.Base)) rfl inferInstance (fun h => ⟨h2, fun h => absurd h.1 h1, fun h' => by simp at h; exact h h'.2⟩)
      · rename_i h2 h1
        refine v_here false rfl inferInstance (fun _ => ⟨h2, fun h => absurd h.1 h1, fun h => absurd h.1 hc⟩)
    · rintro t' ht'
      (try dsimp only [zipE_c, zipE_n, List.cons_append, List.nil_append])
      repeat' (first | refine stp ?_|(refine v_spT ?_ ?_;omega)|(refine v_spF ?_ ?_;omega)|refine v_spD (fun hc=>?_) (fun hc=>?_)|refine v_spB (fun hc=>?_) (fun hc=>?_)|(refine v_yc ?_ ?_;omega)|refine v_alloc' (fun ba=>?_)|refine v_box (fun bb=>?_)|refine v_lit (fun bl=>?_)|refine v_makeMap (fun bm=>?_)|(refine v_push ?_ (fun sv ss hs hln=>?_);omega)|(refine v_push0 ?_ (fun sv ss hs=>?_);omega)|(refine v_set ?_ (fun ss hs hln=>?_);omega)|(refine v_cat ?_ (fun sv ss hs hln=>?_);omega)|(refine v_cat0 ?_ (fun sv ss hs=>?_);omega)|(refine v_catN ?_ (fun sv ss hs=>?_);omega)|refine v_put (fun sm hm=>?_)|refine v_del (fun sm hm=>?_)|(refine v_sb ?_ (fun su (And.intro hs hln)=>?_);omega)|refine v_1lk (fun lv hlk=>?_) (fun hlk=>?_)|refine v_ment (fun st sm hm hst=>?_)|refine v_esto (fun sm hm=>?_)|refine v_rng (fun ri ti hit=>?_)|refine v_clone (fun bc sc hcl=>?_)|refine v_yw ?_|refine ⟨?_,?_⟩|(refine v_tyc ?_ ?_;omega)|(refine v_tycT (by decide +kernel) ?_ ?_;omega)|refine v_tValT (by decide +kernel) ?_|(refine v_tsb ?_ (fun su (And.intro hs hln)=>?_);omega)|refine v_tlk (fun lv hlk=>?_) (fun hlk=>?_)|refine v_tlkT (by decide +kernel) (fun lv hlk=>?_) (fun hlk=>?_)|refine v_tyw ?_|refine v_aThree rfl rfl rfl ?_ ?_ ?_|refine v_drawn0 (id:=16) pl13_16 (by kernel_rfl) ?_|fail)
      refine v_callO (do_s hK l[j] (by omega)) ?_
      rintro v Γ' ⟨K', s', rfl, rfl, h1, h2⟩
      (try dsimp only [List.cons_append, List.nil_append])
      repeat' (first | refine stp ?_|(refine v_spT ?_ ?_;omega)|(refine v_spF ?_ ?_;omega)|refine v_spD (fun hc=>?_) (fun hc=>?_)|refine v_spB (fun hc=>?_) (fun hc=>?_)|(refine v_yc ?_ ?_;omega)|refine v_alloc' (fun ba=>?_)|refine v_box (fun bb=>?_)|refine v_lit (fun bl=>?_)|refine v_makeMap (fun bm=>?_)|(refine v_push ?_ (fun sv ss hs hln=>?_);omega)|(refine v_push0 ?_ (fun sv ss hs=>?_);omega)|(refine v_set ?_ (fun ss hs hln=>?_);omega)|(refine v_cat ?_ (fun sv ss hs hln=>?_);omega)|(refine v_cat0 ?_ (fun sv ss hs=>?_);omega)|(refine v_catN ?_ (fun sv ss hs=>?_);omega)|refine v_put (fun sm hm=>?_)|refine v_del (fun sm hm=>?_)|(refine v_sb ?_ (fun su (And.intro hs hln)=>?_);omega)|refine v_1lk (fun lv hlk=>?_) (fun hlk=>?_)|refine v_ment (fun st sm hm hst=>?_)|refine v_esto (fun sm hm=>?_)|refine v_rng (fun ri ti hit=>?_)|refine v_clone (fun bc sc hcl=>?_)|refine v_yw ?_|refine ⟨?_,?_⟩|(refine v_tyc ?_ ?_;omega)|(refine v_tycT (by decide +kernel) ?_ ?_;omega)|refine v_tValT (by decide +kernel) ?_|(refine v_tsb ?_ (fun su (And.intro hs hln)=>?_);omega)|refine v_tlk (fun lv hlk=>?_) (fun hlk=>?_)|refine v_tlkT (by decide +kernel) (fun lv hlk=>?_) (fun hlk=>?_)|refine v_tyw ?_|refine v_aThree rfl rfl rfl ?_ ?_ ?_|refine v_drawn0 (id:=16) pl13_16 (by kernel_rfl) ?_|fail)
      have := h1.tot
      refine v_again ⟨j + 1, t', K', s'⟩ (by dsimp only; omega) rfl inferInstance ⟨by dsimp only; omega, by dsimp only; omega, h2, fun h => ?_⟩
      obtain ⟨e1, e2, e3⟩ := ht' h
      obtain ⟨e4, e5⟩ := hcl e1
      exact ⟨e4, e5.do h1 e2 e3⟩
  refine v_lp [9] [3, 5, 6] (fun i : Nat => [.int .i64 i]) (fun _ => []) (fun i => i ≤ 256) (fun i => 256 - i) 0 (fun _ => rfl) rfl inferInstance (by omega) ?_
  rintro i hi
  (try dsimp only [zipE_c, zipE_n, List.cons_append, List.nil_append])
  repeat' (first | refine stp ?_|(refine v_spT ?_ ?_;omega)|(refine v_spF ?_ ?_;omega)|refine v_spD (fun hc=>?_) (fun hc=>?_)|refine v_spB (fun hc=>?_) (fun hc=>?_)|(refine v_yc ?_ ?_;omega)|refine v_alloc' (fun ba=>?_)|refine v_box (fun bb=>?_)|refine v_lit (fun bl=>?_)|refine v_makeMap (fun bm=>?_)|(refine v_push ?_ (fun sv ss hs hln=>?_);omega)|(refine v_push0 ?_ (fun sv ss hs=>?_);omega)|(refine v_set ?_ (fun ss hs hln=>?_);omega)|(refine v_cat ?_ (fun sv ss hs hln=>?_);omega)|(refine v_cat0 ?_ (fun sv ss hs=>?_);omega)|(refine v_catN ?_ (fun sv ss hs=>?_);omega)|refine v_put (fun sm hm=>?_)|refine v_del (fun sm hm=>?_)|(refine v_sb ?_ (fun su (And.intro hs hln)=>?_);omega)|refine v_1lk (fun lv hlk=>?_) (fun hlk=>?_)|refine v_ment (fun st sm hm hst=>?_)|refine v_esto (fun sm hm=>?_)|refine v_rng (fun ri ti hit=>?_)|refine v_clone (fun bc sc hcl=>?_)|refine v_yw ?_|refine ⟨?_,?_⟩|(refine v_tyc ?_ ?_;omega)|(refine v_tycT (by decide +kernel) ?_ ?_;omega)|refine v_tValT (by decide +kernel) ?_|(refine v_tsb ?_ (fun su (And.intro hs hln)=>?_);omega)|refine v_tlk (fun lv hlk=>?_) (fun hlk=>?_)|refine v_tlkT (by decide +kernel) (fun lv hlk=>?_) (fun hlk=>?_)|refine v_tyw ?_|refine v_aThree rfl rfl rfl ?_ ?_ ?_|refine v_drawn0 (id:=16) pl13_16 (by kernel_rfl) ?_|fail)
  · refine v_callR (hasS hK _ _) ?_
    rintro v Γ' ⟨rfl, rfl⟩
    have ht0 : t = false := by cases t <;> simp_all
    rw [decide_eq_false ((hcl ht0).2.hasnt (hcl ht0).1 _)]
    (try dsimp only [List.cons_append, List.nil_append])
    repeat' (first | refine stp ?_|(refine v_spT ?_ ?_;omega)|(refine v_spF ?_ ?_;omega)|refine v_spD (fun hc=>?_) (fun hc=>?_)|refine v_spB (fun hc=>?_) (fun hc=>?_)|(refine v_yc ?_ ?_;omega)|refine v_alloc' (fun ba=>?_)|refine v_box (fun bb=>?_)|refine v_lit (fun bl=>?_)|refine v_makeMap (fun bm=>?_)|(refine v_push ?_ (fun sv ss hs hln=>?_);omega)|(refine v_push0 ?_ (fun sv ss hs=>?_);omega)|(refine v_set ?_ (fun ss hs hln=>?_);omega)|(refine v_cat ?_ (fun sv ss hs hln=>?_);omega)|(refine v_cat0 ?_ (fun sv ss hs=>?_);omega)|(refine v_catN ?_ (fun sv ss hs=>?_);omega)|refine v_put (fun sm hm=>?_)|refine v_del (fun sm hm=>?_)|(refine v_sb ?_ (fun su (And.intro hs hln)=>?_);omega)|refine v_1lk (fun lv hlk=>?_) (fun hlk=>?_)|refine v_ment (fun st sm hm hst=>?_)|refine v_esto (fun sm hm=>?_)|refine v_rng (fun ri ti hit=>?_)|refine v_clone (fun bc sc hcl=>?_)|refine v_yw ?_|refine ⟨?_,?_⟩|(refine v_tyc ?_ ?_;omega)|(refine v_tycT (by decide +kernel) ?_ ?_;omega)|refine v_tValT (by decide +kernel) ?_|(refine v_tsb ?_ (fun su (And.intro hs hln)=>?_);omega)|refine v_tlk (fun lv hlk=>?_) (fun hlk=>?_)|refine v_tlkT (by decide +kernel) (fun lv hlk=>?_) (fun hlk=>?_)|refine v_tyw ?_|refine v_aThree rfl rfl rfl ?_ ?_ ?_|refine v_drawn0 (id:=16) pl13_16 (by kernel_rfl) ?_|fail)
    refine v_again (i + 1) (by omega) rfl inferInstance (by omega)
  · refine v_again (i + 1) (by omega) rfl inferInstance (by omega)
  · refine v_callR (hasS hK _ _) ?_
    rintro v Γ' ⟨rfl, rfl⟩
    (try dsimp only [List.cons_append, List.nil_append])
    repeat' (first | refine stp ?_|(refine v_spT ?_ ?_;omega)|(refine v_spF ?_ ?_;omega)|refine v_spD (fun hc=>?_) (fun hc=>?_)|refine v_spB (fun hc=>?_) (fun hc=>?_)|(refine v_yc ?_ ?_;omega)|refine v_alloc' (fun ba=>?_)|refine v_box (fun bb=>?_)|refine v_lit (fun bl=>?_)|refine v_makeMap (fun bm=>?_)|(refine v_push ?_ (fun sv ss hs hln=>?_);omega)|(refine v_push0 ?_ (fun sv ss hs=>?_);omega)|(refine v_set ?_ (fun ss hs hln=>?_);omega)|(refine v_cat ?_ (fun sv ss hs hln=>?_);omega)|(refine v_cat0 ?_ (fun sv ss hs=>?_);omega)|(refine v_catN ?_ (fun sv ss hs=>?_);omega)|refine v_put (fun sm hm=>?_)|refine v_del (fun sm hm=>?_)|(refine v_sb ?_ (fun su (And.intro hs hln)=>?_);omega)|refine v_1lk (fun lv hlk=>?_) (fun hlk=>?_)|refine v_ment (fun st sm hm hst=>?_)|refine v_esto (fun sm hm=>?_)|refine v_rng (fun ri ti hit=>?_)|refine v_clone (fun bc sc hcl=>?_)|refine v_yw ?_|refine ⟨?_,?_⟩|(refine v_tyc ?_ ?_;omega)|(refine v_tycT (by decide +kernel) ?_ ?_;omega)|refine v_tValT (by decide +kernel) ?_|(refine v_tsb ?_ (fun su (And.intro hs hln)=>?_);omega)|refine v_tlk (fun lv hlk=>?_) (fun hlk=>?_)|refine v_tlkT (by decide +kernel) (fun lv hlk=>?_) (fun hlk=>?_)|refine v_tyw ?_|refine v_aThree rfl rfl rfl ?_ ?_ ?_|refine v_drawn0 (id:=16) pl13_16 (by kernel_rfl) ?_|fail)
    · refine v_callR (hasS hK _ _) ?_
      rintro v Γ' ⟨rfl, rfl⟩
      (try dsimp only [List.cons_append, List.nil_append])
      repeat' (first | refine stp ?_|(refine v_spT ?_ ?_;omega)|(refine v_spF ?_ ?_;omega)|refine v_spD (fun hc=>?_) (fun hc=>?_)|refine v_spB (fun hc=>?_) (fun hc=>?_)|(refine v_yc ?_ ?_;omega)|refine v_alloc' (fun ba=>?_)|refine v_box (fun bb=>?_)|refine v_lit (fun bl=>?_)|refine v_makeMap (fun bm=>?_)|(refine v_push ?_ (fun sv ss hs hln=>?_);omega)|(refine v_push0 ?_ (fun sv ss hs=>?_);omega)|(refine v_set ?_ (fun ss hs hln=>?_);omega)|(refine v_cat ?_ (fun sv ss hs hln=>?_);omega)|(refine v_cat0 ?_ (fun sv ss hs=>?_);omega)|(refine v_catN ?_ (fun sv ss hs=>?_);omega)|refine v_put (fun sm hm=>?_)|refine v_del (fun sm hm=>?_)|(refine v_sb ?_ (fun su (And.intro hs hln)=>?_);omega)|refine v_1lk (fun lv hlk=>?_) (fun hlk=>?_)|refine v_ment (fun st sm hm hst=>?_)|refine v_esto (fun sm hm=>?_)|refine v_rng (fun ri ti hit=>?_)|refine v_clone (fun bc sc hcl=>?_)|refine v_yw ?_|refine ⟨?_,?_⟩|(refine v_tyc ?_ ?_;omega)|(refine v_tycT (by decide +kernel) ?_ ?_;omega)|refine v_tValT (by decide +kernel) ?_|(refine v_tsb ?_ (fun su (And.intro hs hln)=>?_);omega)|refine v_tlk (fun lv hlk=>?_) (fun hlk=>?_)|refine v_tlkT (by decide +kernel) (fun lv hlk=>?_) (fun hlk=>?_)|refine v_tyw ?_|refine v_aThree rfl rfl rfl ?_ ?_ ?_|refine v_drawn0 (id:=16) pl13_16 (by kernel_rfl) ?_|fail)
      refine v_o1 Try.results13 ⟨?_, rfl⟩ ⟨_, inferInstance⟩
      simp
    · refine v_o1 Try.results13 ⟨?_, rfl⟩ ⟨_, inferInstance⟩
      rw [decide_eq_false (fun h => hc h.1)]
      rfl
end Go.Proofs.Ytbkobjdeijdpgaa
