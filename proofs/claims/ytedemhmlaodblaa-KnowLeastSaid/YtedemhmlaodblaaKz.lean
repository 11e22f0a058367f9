/- know, with its memory as one segment; the example; a call of a script. -/
import Derived.Test.YtedemhmlaodblaaKy
namespace Go.Proofs.Ytedemhmlaodblaa
open Go Go.SX Go.RowKit
set_option maxRecDepth 100000
set_option linter.unusedSimpArgs false
set_option linter.unusedVariables false
set_option maxHeartbeats 0
set_option synthInstance.maxSize 100000
set_option synthInstance.maxHeartbeats 400000
def KnowS (bk : Nat) (K : KnowM) (s : Hp) : Prop := ∃ Γ, s = Γ.flatten ∧ KnowA bk K Γ
abbrev kptr (b : Nat) : Value := .pointer (some ⟨b, 0, none⟩)
abbrev KnowM.zero : KnowM := ⟨[], [], [], []⟩
theorem knewS : SX.Spec Try.prog 21 #[] [] [] fun v Γ => ∃ bk s, v = kptr bk ∧ Γ = [s] ∧ KnowS bk KnowM.zero s :=
  knew_s.out1.weak fun _ _ ⟨Γ0, e, bk, h1, h2⟩ => ⟨bk, _, h1, e, Γ0, rfl, h2⟩
theorem hasS {bk : Nat} {K : KnowM} {s : Hp} (h : KnowS bk K s) (x y : Int) : SX.Spec Try.prog 20 #[kptr bk, kv x y] [s] [] fun v Γ' => Γ' = [] ∧ v = .bool (decide (K.had x y)) := by
  obtain ⟨Γ, rfl, h⟩ := h
  exact (has_s h x y).rd
theorem makesS {bk : Nat} {K : KnowM} {s : Hp} (h : KnowS bk K s) (b : ApiBox) : SX.Spec Try.prog 26 #[kptr bk, avApiBox b] [s] [] fun v Γ' => Γ' = [] ∧ v = .bool (decide (K.makes b)) := by
  obtain ⟨Γ, rfl, h⟩ := h
  exact (makes_s h b).rd
theorem learnS {bk : Nat} {K : KnowM} {s : Hp} (h : KnowS bk K s) (x : ApiKey) (hb : (tot K.shut + 3) * 32 ≤ 140737488355328) : SX.Spec Try.prog 31 #[kptr bk, avApiKey x] [] [s] fun v Γ' => ∃ K' s', v = .tuple #[] ∧ Γ' = [s'] ∧ LearnR K [x] K' ∧ KnowS bk K' s' := by
  obtain ⟨Γ, rfl, h⟩ := h
  exact (learn_s h x hb).own.weak fun _ _ ⟨Γ0, e, h1, K', h2, h3⟩ => ⟨K', _, h1, e, h2, Γ0, rfl, h3⟩
theorem seeS {bk : Nat} {K : KnowM} {s : Hp} (h : KnowS bk K s) (b : ApiBox) (hb : (tot K.shut + 4) * 32 ≤ 140737488355328) : SX.Spec Try.prog 40 #[kptr bk, avApiBox b] [] [s] fun v Γ' => ∃ K' s', v = .tuple #[] ∧ Γ' = [s'] ∧ SeeR K b K' ∧ KnowS bk K' s' := by
  obtain ⟨Γ, rfl, h⟩ := h
  exact (see_s h b hb).own.weak fun _ _ ⟨Γ0, e, h1, K', h2, h3⟩ => ⟨K', _, h1, e, h2, Γ0, rfl, h3⟩
theorem seeSealedS {bk : Nat} {K : KnowM} {s : Hp} (h : KnowS bk K s) (t : ApiSealed) : SX.Spec Try.prog 43 #[kptr bk, avApiSealed t] [] [s] fun v Γ' => ∃ s', v = .tuple #[] ∧ Γ' = [s'] ∧ KnowS bk (K.read t) s' := by
  obtain ⟨Γ, rfl, h⟩ := h
  exact (seeSealed_s h t).own.weak fun _ _ ⟨Γ0, e, h1, h3⟩ => ⟨_, h1, e, Γ0, rfl, h3⟩
theorem copyS {bk : Nat} {K : KnowM} {s : Hp} (h : KnowS bk K s) (hb : (tot K.shut + 3) * 32 ≤ 140737488355328) : SX.Spec Try.prog 33 #[kptr bk] [s] [] fun v Γ' => ∃ bk' K' s', v = kptr bk' ∧ Γ' = [s'] ∧ K.like K' ∧ KnowS bk' K' s' := by
  obtain ⟨Γ, rfl, h⟩ := h
  exact (copy_s h hb).rd.out1.weak fun _ _ ⟨Γ0, e, bk', K', h1, h2, h3⟩ => ⟨bk', K', _, h1, e, h2, Γ0, rfl, h3⟩
theorem LearnR.one {K K' K'' : KnowM} {l : List ApiKey} (h : LearnR K l K') (h' : LearnR K l K'') : K' = K'' := by
  induction h with
  | done => cases h'; rfl
  | skip h1 _ ih => cases h' with
    | skip _ h2 => exact ih h2
    | take g1 g2 _ => exact absurd (h1 g1) g2
  | take g1 g2 _ ih => cases h' with
    | skip h1 _ => exact absurd (h1 g1) g2
    | take _ _ h2 => exact ih h2
theorem LearnR.tot {K K' : KnowM} {l : List ApiKey} (h : LearnR K l K') : tot K'.shut ≤ tot K.shut := by
  induction h with
  | done => exact Nat.le_refl _
  | skip _ _ ih => exact ih
  | @take K K' x l _ _ _ ih =>
    refine Nat.le_trans ih ?_
    have h1 := tot_mput K.shut x.Base (kep x ((mget K.shut x.Base).getD []))
    have h2 := opn_kep x ((mget K.shut x.Base).getD [])
    have e : (K.take x).shut = mput K.shut x.Base (kep x ((mget K.shut x.Base).getD [])) := rfl
    rw [e]; omega
theorem SeeR.tot {K K' : KnowM} {b : ApiBox} (h : SeeR K b K') : tot K'.shut ≤ tot K.shut + 1 := by
  unfold SeeR at h
  split at h
  · rw [h]; omega
  · split at h
    · have := h.tot
      exact Nat.le_trans this (Nat.le_succ _)
    · rw [h]
      have h1 := tot_mput K.shut b.Under.Base ((mget K.shut b.Under.Base).getD [] ++ [b])
      have e : (K.lay b).shut = mput K.shut b.Under.Base ((mget K.shut b.Under.Base).getD [] ++ [b]) := rfl
      rw [e]
      simp only [List.length_append, List.length_singleton] at h1
      omega
theorem KnowM.read_shut (K : KnowM) (t : ApiSealed) : (K.read t).shut = K.shut := by unfold KnowM.read; split <;> rfl
/-- a call of a script -/
def DoR (K : KnowM) (o : Coterielaw19Op) (K' : KnowM) : Prop :=
  if o.Kind = 1 then LearnR K [o.Box.Under] K' else if o.Kind = 2 then SeeR K o.Box K' else if o.Kind = 3 then K' = K.read o.Text else K' = K
theorem DoR.tot {K K' : KnowM} {o : Coterielaw19Op} (h : DoR K o K') : tot K'.shut ≤ tot K.shut + 1 := by
  unfold DoR at h
  split at h
  · have := h.tot; omega
  · split at h
    · exact h.tot
    · split at h
      · rw [h, KnowM.read_shut]; omega
      · rw [h]; omega
theorem do_s {bk : Nat} {K : KnowM} {s : Hp} (h : KnowS bk K s) (o : Coterielaw19Op) (hb : (tot K.shut + 4) * 32 ≤ 140737488355328) : SX.Spec Try.prog 22 #[kptr bk, avCoterielaw19Op o] [] [s] fun v Γ' => ∃ K' s', v = .tuple #[] ∧ Γ' = [s'] ∧ DoR K o K' ∧ KnowS bk K' s' := by
  refine spec_of2 Try.func22 Try.ntmps22 rfl rfl (fun M w0 => ?_)
  repeat' (first | refine stp ?_|(refine v_spT ?_ ?_;omega)|(refine v_spF ?_ ?_;omega)|refine v_spD (fun hc=>?_) (fun hc=>?_)|refine v_spB (fun hc=>?_) (fun hc=>?_)|(refine v_yc ?_ ?_;omega)|refine v_alloc' (fun ba=>?_)|refine v_box (fun bb=>?_)|refine v_lit (fun bl=>?_)|refine v_makeMap (fun bm=>?_)|(refine v_push ?_ (fun sv ss hs hln=>?_);omega)|(refine v_push0 ?_ (fun sv ss hs=>?_);omega)|(refine v_set ?_ (fun ss hs hln=>?_);omega)|(refine v_cat ?_ (fun sv ss hs hln=>?_);omega)|(refine v_cat0 ?_ (fun sv ss hs=>?_);omega)|(refine v_catN ?_ (fun sv ss hs=>?_);omega)|refine v_put (fun sm hm=>?_)|refine v_del (fun sm hm=>?_)|(refine v_sb ?_ (fun su (And.intro hs hln)=>?_);omega)|refine v_1lk (fun lv hlk=>?_) (fun hlk=>?_)|refine v_ment (fun st sm hm hst=>?_)|refine v_esto (fun sm hm=>?_)|refine v_rng (fun ri ti hit=>?_)|refine v_clone (fun bc sc hcl=>?_)|refine v_yw ?_|(refine v_make ?_ (fun sv ss hs hln=>?_);omega)|fail)
  · refine v_callO (learnS h o.Box.Under (by omega)) ?_
    rintro v Γ' ⟨K', s', rfl, rfl, h1, h2⟩
    (try dsimp only [List.cons_append, List.nil_append])
    repeat' (first | refine stp ?_|(refine v_spT ?_ ?_;omega)|(refine v_spF ?_ ?_;omega)|refine v_spD (fun hc=>?_) (fun hc=>?_)|refine v_spB (fun hc=>?_) (fun hc=>?_)|(refine v_yc ?_ ?_;omega)|refine v_alloc' (fun ba=>?_)|refine v_box (fun bb=>?_)|refine v_lit (fun bl=>?_)|refine v_makeMap (fun bm=>?_)|(refine v_push ?_ (fun sv ss hs hln=>?_);omega)|(refine v_push0 ?_ (fun sv ss hs=>?_);omega)|(refine v_set ?_ (fun ss hs hln=>?_);omega)|(refine v_cat ?_ (fun sv ss hs hln=>?_);omega)|(refine v_cat0 ?_ (fun sv ss hs=>?_);omega)|(refine v_catN ?_ (fun sv ss hs=>?_);omega)|refine v_put (fun sm hm=>?_)|refine v_del (fun sm hm=>?_)|(refine v_sb ?_ (fun su (And.intro hs hln)=>?_);omega)|refine v_1lk (fun lv hlk=>?_) (fun hlk=>?_)|refine v_ment (fun st sm hm hst=>?_)|refine v_esto (fun sm hm=>?_)|refine v_rng (fun ri ti hit=>?_)|refine v_clone (fun bc sc hcl=>?_)|refine v_yw ?_|(refine v_make ?_ (fun sv ss hs hln=>?_);omega)|fail)
    refine v_o0 Try.results22 ⟨K', s', rfl, rfl, by unfold DoR; rw [if_pos hc]; exact h1, h2⟩ ⟨_, inferInstance⟩
  · refine v_callO (seeS h o.Box hb) ?_
    rintro v Γ' ⟨K', s', rfl, rfl, h1, h2⟩
    (try dsimp only [List.cons_append, List.nil_append])
    repeat' (first | refine stp ?_|(refine v_spT ?_ ?_;omega)|(refine v_spF ?_ ?_;omega)|refine v_spD (fun hc=>?_) (fun hc=>?_)|refine v_spB (fun hc=>?_) (fun hc=>?_)|(refine v_yc ?_ ?_;omega)|refine v_alloc' (fun ba=>?_)|refine v_box (fun bb=>?_)|refine v_lit (fun bl=>?_)|refine v_makeMap (fun bm=>?_)|(refine v_push ?_ (fun sv ss hs hln=>?_);omega)|(refine v_push0 ?_ (fun sv ss hs=>?_);omega)|(refine v_set ?_ (fun ss hs hln=>?_);omega)|(refine v_cat ?_ (fun sv ss hs hln=>?_);omega)|(refine v_cat0 ?_ (fun sv ss hs=>?_);omega)|(refine v_catN ?_ (fun sv ss hs=>?_);omega)|refine v_put (fun sm hm=>?_)|refine v_del (fun sm hm=>?_)|(refine v_sb ?_ (fun su (And.intro hs hln)=>?_);omega)|refine v_1lk (fun lv hlk=>?_) (fun hlk=>?_)|refine v_ment (fun st sm hm hst=>?_)|refine v_esto (fun sm hm=>?_)|refine v_rng (fun ri ti hit=>?_)|refine v_clone (fun bc sc hcl=>?_)|refine v_yw ?_|(refine v_make ?_ (fun sv ss hs hln=>?_);omega)|fail)
    refine v_o0 Try.results22 ⟨K', s', rfl, rfl, by unfold DoR; rw [if_neg (by omega), if_pos hc]; exact h1, h2⟩ ⟨_, inferInstance⟩
  · refine v_callO (seeSealedS h o.Text) ?_
    rintro v Γ' ⟨s', rfl, rfl, h2⟩
    (try dsimp only [List.cons_append, List.nil_append])
    repeat' (first | refine stp ?_|(refine v_spT ?_ ?_;omega)|(refine v_spF ?_ ?_;omega)|refine v_spD (fun hc=>?_) (fun hc=>?_)|refine v_spB (fun hc=>?_) (fun hc=>?_)|(refine v_yc ?_ ?_;omega)|refine v_alloc' (fun ba=>?_)|refine v_box (fun bb=>?_)|refine v_lit (fun bl=>?_)|refine v_makeMap (fun bm=>?_)|(refine v_push ?_ (fun sv ss hs hln=>?_);omega)|(refine v_push0 ?_ (fun sv ss hs=>?_);omega)|(refine v_set ?_ (fun ss hs hln=>?_);omega)|(refine v_cat ?_ (fun sv ss hs hln=>?_);omega)|(refine v_cat0 ?_ (fun sv ss hs=>?_);omega)|(refine v_catN ?_ (fun sv ss hs=>?_);omega)|refine v_put (fun sm hm=>?_)|refine v_del (fun sm hm=>?_)|(refine v_sb ?_ (fun su (And.intro hs hln)=>?_);omega)|refine v_1lk (fun lv hlk=>?_) (fun hlk=>?_)|refine v_ment (fun st sm hm hst=>?_)|refine v_esto (fun sm hm=>?_)|refine v_rng (fun ri ti hit=>?_)|refine v_clone (fun bc sc hcl=>?_)|refine v_yw ?_|(refine v_make ?_ (fun sv ss hs hln=>?_);omega)|fail)
    refine v_o0 Try.results22 ⟨K.read o.Text, s', rfl, rfl, by unfold DoR; rw [if_neg (by omega), if_neg (by omega), if_pos hc], h2⟩ ⟨_, inferInstance⟩
  · refine v_o0 Try.results22 ⟨K, s, rfl, rfl, by unfold DoR; rw [if_neg (by omega), if_neg (by omega), if_neg hc], h⟩ ⟨_, inferInstance⟩
/-- of the example -/
theorem livesLearn {K : KnowM} (h : LearnR (KnowM.zero.lay ⟨⟨6, 1⟩, ⟨7, 0⟩⟩) [⟨6, 0⟩] K) : K.had 7 3 ∧ ¬ K.had 8 0 := by
  have h' : LearnR (KnowM.zero.lay ⟨⟨6, 1⟩, ⟨7, 0⟩⟩) [⟨6, 0⟩] ⟨[(6, 0), (7, 0)], [(⟨⟨6, 1⟩, ⟨7, 0⟩⟩, 1)], [], [(6, []), (7, [])]⟩ := by
    refine .take (by unfold Gd; decide) (by simp [KnowM.had, KnowM.lay, KnowM.saw, mget]) ?_
    have e1 : (KnowM.zero.lay ⟨⟨6, 1⟩, ⟨7, 0⟩⟩).take ⟨6, 0⟩ = ⟨[(6, 0)], [(⟨⟨6, 1⟩, ⟨7, 0⟩⟩, 1)], [], [(6, [])]⟩ := by
      simp [KnowM.take, KnowM.lay, KnowM.saw, mget, mput, kep, Gv, Gd, wrap64]
    have e2 : (KnowM.zero.lay ⟨⟨6, 1⟩, ⟨7, 0⟩⟩).opened ⟨6, 0⟩ = [⟨7, 0⟩] := by
      simp [KnowM.opened, KnowM.lay, KnowM.saw, mget, mput, opn, Gv, Gd]
    rw [e1, e2]
    refine .take (by unfold Gd; decide) (by simp [KnowM.had, mget]) ?_
    have e3 : KnowM.take ⟨[(6, 0)], [(⟨⟨6, 1⟩, ⟨7, 0⟩⟩, 1)], [], [(6, [])]⟩ ⟨7, 0⟩ = ⟨[(6, 0), (7, 0)], [(⟨⟨6, 1⟩, ⟨7, 0⟩⟩, 1)], [], [(6, []), (7, [])]⟩ := by
      simp [KnowM.take, mget, mput, kep]
    have e4 : KnowM.opened ⟨[(6, 0)], [(⟨⟨6, 1⟩, ⟨7, 0⟩⟩, 1)], [], [(6, [])]⟩ ⟨7, 0⟩ = [] := by
      simp [KnowM.opened, mget, opn]
    rw [e3, e4]
    exact .done
  rw [h.one h']
  exact ⟨by simp [KnowM.had, mget, Gd], by simp [KnowM.had, mget, Gd]⟩
theorem livesSee {K : KnowM} (h : SeeR KnowM.zero ⟨⟨6, 1⟩, ⟨7, 0⟩⟩ K) : K = KnowM.zero.lay ⟨⟨6, 1⟩, ⟨7, 0⟩⟩ := by
  unfold SeeR at h
  simpa [Gd, mget, KnowM.had] using h
instance knowLives_s : PC Try.prog 15 #[] (.bool true) := ⟨by
  refine spec_of0 Try.func15 Try.ntmps15 rfl rfl (fun M w0 => ?_)
  repeat' (first | refine stp ?_|(refine v_spT ?_ ?_;omega)|(refine v_spF ?_ ?_;omega)|refine v_spD (fun hc=>?_) (fun hc=>?_)|refine v_spB (fun hc=>?_) (fun hc=>?_)|(refine v_yc ?_ ?_;omega)|refine v_alloc' (fun ba=>?_)|refine v_box (fun bb=>?_)|refine v_lit (fun bl=>?_)|refine v_makeMap (fun bm=>?_)|(refine v_push ?_ (fun sv ss hs hln=>?_);omega)|(refine v_push0 ?_ (fun sv ss hs=>?_);omega)|(refine v_set ?_ (fun ss hs hln=>?_);omega)|(refine v_cat ?_ (fun sv ss hs hln=>?_);omega)|(refine v_cat0 ?_ (fun sv ss hs=>?_);omega)|(refine v_catN ?_ (fun sv ss hs=>?_);omega)|refine v_put (fun sm hm=>?_)|refine v_del (fun sm hm=>?_)|(refine v_sb ?_ (fun su (And.intro hs hln)=>?_);omega)|refine v_1lk (fun lv hlk=>?_) (fun hlk=>?_)|refine v_ment (fun st sm hm hst=>?_)|refine v_esto (fun sm hm=>?_)|refine v_rng (fun ri ti hit=>?_)|refine v_clone (fun bc sc hcl=>?_)|refine v_yw ?_|(refine v_make ?_ (fun sv ss hs hln=>?_);omega)|fail)
  refine v_callO knewS ?_
  rintro v Γ' ⟨bk, s, rfl, rfl, hK⟩
  (try dsimp only [List.cons_append, List.nil_append])
  repeat' (first | refine stp ?_|(refine v_spT ?_ ?_;omega)|(refine v_spF ?_ ?_;omega)|refine v_spD (fun hc=>?_) (fun hc=>?_)|refine v_spB (fun hc=>?_) (fun hc=>?_)|(refine v_yc ?_ ?_;omega)|refine v_alloc' (fun ba=>?_)|refine v_box (fun bb=>?_)|refine v_lit (fun bl=>?_)|refine v_makeMap (fun bm=>?_)|(refine v_push ?_ (fun sv ss hs hln=>?_);omega)|(refine v_push0 ?_ (fun sv ss hs=>?_);omega)|(refine v_set ?_ (fun ss hs hln=>?_);omega)|(refine v_cat ?_ (fun sv ss hs hln=>?_);omega)|(refine v_cat0 ?_ (fun sv ss hs=>?_);omega)|(refine v_catN ?_ (fun sv ss hs=>?_);omega)|refine v_put (fun sm hm=>?_)|refine v_del (fun sm hm=>?_)|(refine v_sb ?_ (fun su (And.intro hs hln)=>?_);omega)|refine v_1lk (fun lv hlk=>?_) (fun hlk=>?_)|refine v_ment (fun st sm hm hst=>?_)|refine v_esto (fun sm hm=>?_)|refine v_rng (fun ri ti hit=>?_)|refine v_clone (fun bc sc hcl=>?_)|refine v_yw ?_|(refine v_make ?_ (fun sv ss hs hln=>?_);omega)|fail)
  refine v_callO (seeS hK ⟨⟨6, 1⟩, ⟨7, 0⟩⟩ (by decide)) ?_
  rintro v Γ' ⟨K1, s1, rfl, rfl, h1, hK1⟩
  obtain rfl := livesSee h1
  (try dsimp only [List.cons_append, List.nil_append])
  repeat' (first | refine stp ?_|(refine v_spT ?_ ?_;omega)|(refine v_spF ?_ ?_;omega)|refine v_spD (fun hc=>?_) (fun hc=>?_)|refine v_spB (fun hc=>?_) (fun hc=>?_)|(refine v_yc ?_ ?_;omega)|refine v_alloc' (fun ba=>?_)|refine v_box (fun bb=>?_)|refine v_lit (fun bl=>?_)|refine v_makeMap (fun bm=>?_)|(refine v_push ?_ (fun sv ss hs hln=>?_);omega)|(refine v_push0 ?_ (fun sv ss hs=>?_);omega)|(refine v_set ?_ (fun ss hs hln=>?_);omega)|(refine v_cat ?_ (fun sv ss hs hln=>?_);omega)|(refine v_cat0 ?_ (fun sv ss hs=>?_);omega)|(refine v_catN ?_ (fun sv ss hs=>?_);omega)|refine v_put (fun sm hm=>?_)|refine v_del (fun sm hm=>?_)|(refine v_sb ?_ (fun su (And.intro hs hln)=>?_);omega)|refine v_1lk (fun lv hlk=>?_) (fun hlk=>?_)|refine v_ment (fun st sm hm hst=>?_)|refine v_esto (fun sm hm=>?_)|refine v_rng (fun ri ti hit=>?_)|refine v_clone (fun bc sc hcl=>?_)|refine v_yw ?_|(refine v_make ?_ (fun sv ss hs hln=>?_);omega)|fail)
  refine v_callR (hasS hK1 7 0) ?_
  rintro v Γ' ⟨rfl, rfl⟩
  rw [decide_eq_false (show ¬ (KnowM.zero.lay ⟨⟨6, 1⟩, ⟨7, 0⟩⟩).had 7 0 by simp [KnowM.had, KnowM.lay, KnowM.saw, mget])]
  (try dsimp only [List.cons_append, List.nil_append])
  repeat' (first | refine stp ?_|(refine v_spT ?_ ?_;omega)|(refine v_spF ?_ ?_;omega)|refine v_spD (fun hc=>?_) (fun hc=>?_)|refine v_spB (fun hc=>?_) (fun hc=>?_)|(refine v_yc ?_ ?_;omega)|refine v_alloc' (fun ba=>?_)|refine v_box (fun bb=>?_)|refine v_lit (fun bl=>?_)|refine v_makeMap (fun bm=>?_)|(refine v_push ?_ (fun sv ss hs hln=>?_);omega)|(refine v_push0 ?_ (fun sv ss hs=>?_);omega)|(refine v_set ?_ (fun ss hs hln=>?_);omega)|(refine v_cat ?_ (fun sv ss hs hln=>?_);omega)|(refine v_cat0 ?_ (fun sv ss hs=>?_);omega)|(refine v_catN ?_ (fun sv ss hs=>?_);omega)|refine v_put (fun sm hm=>?_)|refine v_del (fun sm hm=>?_)|(refine v_sb ?_ (fun su (And.intro hs hln)=>?_);omega)|refine v_1lk (fun lv hlk=>?_) (fun hlk=>?_)|refine v_ment (fun st sm hm hst=>?_)|refine v_esto (fun sm hm=>?_)|refine v_rng (fun ri ti hit=>?_)|refine v_clone (fun bc sc hcl=>?_)|refine v_yw ?_|(refine v_make ?_ (fun sv ss hs hln=>?_);omega)|fail)
  refine v_callO (learnS hK1 ⟨6, 0⟩ (by decide)) ?_
  rintro v Γ' ⟨K2, s2, rfl, rfl, h2, hK2⟩
  obtain ⟨g1, g2⟩ := livesLearn h2
  have ht := h2.tot
  have ht0 : tot (KnowM.zero.lay ⟨⟨6, 1⟩, ⟨7, 0⟩⟩).shut = 1 := rfl
  (try dsimp only [List.cons_append, List.nil_append])
  repeat' (first | refine stp ?_|(refine v_spT ?_ ?_;omega)|(refine v_spF ?_ ?_;omega)|refine v_spD (fun hc=>?_) (fun hc=>?_)|refine v_spB (fun hc=>?_) (fun hc=>?_)|(refine v_yc ?_ ?_;omega)|refine v_alloc' (fun ba=>?_)|refine v_box (fun bb=>?_)|refine v_lit (fun bl=>?_)|refine v_makeMap (fun bm=>?_)|(refine v_push ?_ (fun sv ss hs hln=>?_);omega)|(refine v_push0 ?_ (fun sv ss hs=>?_);omega)|(refine v_set ?_ (fun ss hs hln=>?_);omega)|(refine v_cat ?_ (fun sv ss hs hln=>?_);omega)|(refine v_cat0 ?_ (fun sv ss hs=>?_);omega)|(refine v_catN ?_ (fun sv ss hs=>?_);omega)|refine v_put (fun sm hm=>?_)|refine v_del (fun sm hm=>?_)|(refine v_sb ?_ (fun su (And.intro hs hln)=>?_);omega)|refine v_1lk (fun lv hlk=>?_) (fun hlk=>?_)|refine v_ment (fun st sm hm hst=>?_)|refine v_esto (fun sm hm=>?_)|refine v_rng (fun ri ti hit=>?_)|refine v_clone (fun bc sc hcl=>?_)|refine v_yw ?_|(refine v_make ?_ (fun sv ss hs hln=>?_);omega)|fail)
  refine v_callR (hasS hK2 7 3) ?_
  rintro v Γ' ⟨rfl, rfl⟩
  rw [decide_eq_true g1]
  (try dsimp only [List.cons_append, List.nil_append])
  repeat' (first | refine stp ?_|(refine v_spT ?_ ?_;omega)|(refine v_spF ?_ ?_;omega)|refine v_spD (fun hc=>?_) (fun hc=>?_)|refine v_spB (fun hc=>?_) (fun hc=>?_)|(refine v_yc ?_ ?_;omega)|refine v_alloc' (fun ba=>?_)|refine v_box (fun bb=>?_)|refine v_lit (fun bl=>?_)|refine v_makeMap (fun bm=>?_)|(refine v_push ?_ (fun sv ss hs hln=>?_);omega)|(refine v_push0 ?_ (fun sv ss hs=>?_);omega)|(refine v_set ?_ (fun ss hs hln=>?_);omega)|(refine v_cat ?_ (fun sv ss hs hln=>?_);omega)|(refine v_cat0 ?_ (fun sv ss hs=>?_);omega)|(refine v_catN ?_ (fun sv ss hs=>?_);omega)|refine v_put (fun sm hm=>?_)|refine v_del (fun sm hm=>?_)|(refine v_sb ?_ (fun su (And.intro hs hln)=>?_);omega)|refine v_1lk (fun lv hlk=>?_) (fun hlk=>?_)|refine v_ment (fun st sm hm hst=>?_)|refine v_esto (fun sm hm=>?_)|refine v_rng (fun ri ti hit=>?_)|refine v_clone (fun bc sc hcl=>?_)|refine v_yw ?_|(refine v_make ?_ (fun sv ss hs hln=>?_);omega)|fail)
  refine v_callR (hasS hK2 8 0) ?_
  rintro v Γ' ⟨rfl, rfl⟩
  rw [decide_eq_false g2]
  (try dsimp only [List.cons_append, List.nil_append])
  repeat' (first | refine stp ?_|(refine v_spT ?_ ?_;omega)|(refine v_spF ?_ ?_;omega)|refine v_spD (fun hc=>?_) (fun hc=>?_)|refine v_spB (fun hc=>?_) (fun hc=>?_)|(refine v_yc ?_ ?_;omega)|refine v_alloc' (fun ba=>?_)|refine v_box (fun bb=>?_)|refine v_lit (fun bl=>?_)|refine v_makeMap (fun bm=>?_)|(refine v_push ?_ (fun sv ss hs hln=>?_);omega)|(refine v_push0 ?_ (fun sv ss hs=>?_);omega)|(refine v_set ?_ (fun ss hs hln=>?_);omega)|(refine v_cat ?_ (fun sv ss hs hln=>?_);omega)|(refine v_cat0 ?_ (fun sv ss hs=>?_);omega)|(refine v_catN ?_ (fun sv ss hs=>?_);omega)|refine v_put (fun sm hm=>?_)|refine v_del (fun sm hm=>?_)|(refine v_sb ?_ (fun su (And.intro hs hln)=>?_);omega)|refine v_1lk (fun lv hlk=>?_) (fun hlk=>?_)|refine v_ment (fun st sm hm hst=>?_)|refine v_esto (fun sm hm=>?_)|refine v_rng (fun ri ti hit=>?_)|refine v_clone (fun bc sc hcl=>?_)|refine v_yw ?_|(refine v_make ?_ (fun sv ss hs hln=>?_);omega)|fail)
  refine v_callR (copyS hK2 (by omega)) ?_
  rintro v Γ' ⟨bk', K', s', rfl, rfl, h3, hK3⟩
  (try dsimp only [List.cons_append, List.nil_append])
  repeat' (first | refine stp ?_|(refine v_spT ?_ ?_;omega)|(refine v_spF ?_ ?_;omega)|refine v_spD (fun hc=>?_) (fun hc=>?_)|refine v_spB (fun hc=>?_) (fun hc=>?_)|(refine v_yc ?_ ?_;omega)|refine v_alloc' (fun ba=>?_)|refine v_box (fun bb=>?_)|refine v_lit (fun bl=>?_)|refine v_makeMap (fun bm=>?_)|(refine v_push ?_ (fun sv ss hs hln=>?_);omega)|(refine v_push0 ?_ (fun sv ss hs=>?_);omega)|(refine v_set ?_ (fun ss hs hln=>?_);omega)|(refine v_cat ?_ (fun sv ss hs hln=>?_);omega)|(refine v_cat0 ?_ (fun sv ss hs=>?_);omega)|(refine v_catN ?_ (fun sv ss hs=>?_);omega)|refine v_put (fun sm hm=>?_)|refine v_del (fun sm hm=>?_)|(refine v_sb ?_ (fun su (And.intro hs hln)=>?_);omega)|refine v_1lk (fun lv hlk=>?_) (fun hlk=>?_)|refine v_ment (fun st sm hm hst=>?_)|refine v_esto (fun sm hm=>?_)|refine v_rng (fun ri ti hit=>?_)|refine v_clone (fun bc sc hcl=>?_)|refine v_yw ?_|(refine v_make ?_ (fun sv ss hs hln=>?_);omega)|fail)
  refine v_o1 (Γk := []) Try.results15 ⟨rfl, rfl⟩ ⟨_, inferInstance⟩⟩
end Go.Proofs.Ytedemhmlaodblaa
