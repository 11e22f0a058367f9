/- know beside the reference, each as one segment. -/
import Derived.Test.YtedemhmlaodblaaKt
namespace Go.Proofs.Ytedemhmlaodblaa
open Go Go.SX Go.RowKit
set_option maxRecDepth 100000
set_option linter.unusedSimpArgs false
set_option linter.unusedVariables false
set_option maxHeartbeats 0
set_option synthInstance.maxSize 100000
set_option synthInstance.maxHeartbeats 400000
def KnowM.makesSl (K : KnowM) (t : ApiSealed) : Prop := 0 < (mget K.texts t).getD 0 ∨ GoodSl t ∧ K.had t.Under.Base t.Under.Step
instance (K : KnowM) (b : ApiSealed) : Decidable (K.makesSl b) := by unfold KnowM.makesSl; infer_instance
theorem makesSl_s {bk : Nat} {K : KnowM} {Γ : List Hp} (h : KnowA bk K Γ) (b : ApiSealed) : SX.Spec Try.prog 28 #[kptr bk, avApiSealed b] Γ [] fun v Γ' => Γ' = [] ∧ v = .bool (decide (K.makesSl b)) := by
  have hh := has_s h
  obtain ⟨b1, b2, b3, b4, s1, s2, s3, s4, zm, sh, rfl, h1, h2, h3, h4, h5⟩ := h
  refine spec_of2 Try.func28 Try.ntmps28 rfl rfl (fun M w0 => ?_)
  repeat' (first | refine stp ?_|(refine v_spT ?_ ?_;omega)|(refine v_spF ?_ ?_;omega)|refine v_spD (fun hc=>?_) (fun hc=>?_)|refine v_spB (fun hc=>?_) (fun hc=>?_)|(refine v_yc ?_ ?_;omega)|refine v_alloc' (fun ba=>?_)|refine v_box (fun bb=>?_)|refine v_lit (fun bl=>?_)|refine v_makeMap (fun bm=>?_)|(refine v_push ?_ (fun sv ss hs hln=>?_);omega)|(refine v_push0 ?_ (fun sv ss hs=>?_);omega)|(refine v_set ?_ (fun ss hs hln=>?_);omega)|(refine v_cat ?_ (fun sv ss hs hln=>?_);omega)|(refine v_cat0 ?_ (fun sv ss hs=>?_);omega)|(refine v_catN ?_ (fun sv ss hs=>?_);omega)|refine v_put (fun sm hm=>?_)|refine v_del (fun sm hm=>?_)|(refine v_sb ?_ (fun su (And.intro hs hln)=>?_);omega)|refine v_1lk (fun lv hlk=>?_) (fun hlk=>?_)|refine v_ment (fun st sm hm hst=>?_)|refine v_esto (fun sm hm=>?_)|refine v_rng (fun ri ti hit=>?_)|refine v_clone (fun bc sc hcl=>?_)|refine v_yw ?_|(refine v_make ?_ (fun sv ss hs hln=>?_);omega)|refine ⟨?_,?_,?_⟩|refine ⟨?_,?_⟩|(refine v_tyc ?_ ?_;omega)|(refine v_tycT (by decide +kernel) ?_ ?_;omega)|refine v_tValT (by decide +kernel) ?_|(refine v_tsb ?_ (fun su (And.intro hs hln)=>?_);omega)|refine v_tlk (fun lv hlk=>?_) (fun hlk=>?_)|refine v_tlkT (by decide +kernel) (fun lv hlk=>?_) (fun hlk=>?_)|refine v_tyw ?_|refine v_drawn0 (id:=1) pl28_1 (by kernel_rfl) ?_|fail)
  · refine v_o1 Try.results28 ⟨rfl, bT (.inl hc)⟩ ⟨_, inferInstance⟩
  · rename_i hc0
    refine v_callR (hh _ _) ?_
    rintro v Γ' ⟨rfl, rfl⟩
    (try dsimp only [List.cons_append, List.nil_append])
    repeat' (first | refine stp ?_|(refine v_spT ?_ ?_;omega)|(refine v_spF ?_ ?_;omega)|refine v_spD (fun hc=>?_) (fun hc=>?_)|refine v_spB (fun hc=>?_) (fun hc=>?_)|(refine v_yc ?_ ?_;omega)|refine v_alloc' (fun ba=>?_)|refine v_box (fun bb=>?_)|refine v_lit (fun bl=>?_)|refine v_makeMap (fun bm=>?_)|(refine v_push ?_ (fun sv ss hs hln=>?_);omega)|(refine v_push0 ?_ (fun sv ss hs=>?_);omega)|(refine v_set ?_ (fun ss hs hln=>?_);omega)|(refine v_cat ?_ (fun sv ss hs hln=>?_);omega)|(refine v_cat0 ?_ (fun sv ss hs=>?_);omega)|(refine v_catN ?_ (fun sv ss hs=>?_);omega)|refine v_put (fun sm hm=>?_)|refine v_del (fun sm hm=>?_)|(refine v_sb ?_ (fun su (And.intro hs hln)=>?_);omega)|refine v_1lk (fun lv hlk=>?_) (fun hlk=>?_)|refine v_ment (fun st sm hm hst=>?_)|refine v_esto (fun sm hm=>?_)|refine v_rng (fun ri ti hit=>?_)|refine v_clone (fun bc sc hcl=>?_)|refine v_yw ?_|(refine v_make ?_ (fun sv ss hs hln=>?_);omega)|refine ⟨?_,?_,?_⟩|refine ⟨?_,?_⟩|(refine v_tyc ?_ ?_;omega)|(refine v_tycT (by decide +kernel) ?_ ?_;omega)|refine v_tValT (by decide +kernel) ?_|(refine v_tsb ?_ (fun su (And.intro hs hln)=>?_);omega)|refine v_tlk (fun lv hlk=>?_) (fun hlk=>?_)|refine v_tlkT (by decide +kernel) (fun lv hlk=>?_) (fun hlk=>?_)|refine v_tyw ?_|refine v_drawn0 (id:=1) pl28_1 (by kernel_rfl) ?_|fail)
    refine v_o1 Try.results28 ⟨rfl, bD ?_⟩ ⟨_, inferInstance⟩
    unfold KnowM.makesSl
    simp [hc, hc0]
  · rename_i hc0
    refine v_o1 Try.results28 ⟨rfl, bF ?_⟩ ⟨_, inferInstance⟩
    unfold KnowM.makesSl
    simp [hc, hc0]
theorem makesSlS {bk : Nat} {K : KnowM} {s : Hp} (h : KnowS bk K s) (b : ApiSealed) : SX.Spec Try.prog 28 #[kptr bk, avApiSealed b] [s] [] fun v Γ' => Γ' = [] ∧ v = .bool (decide (K.makesSl b)) := by
  obtain ⟨Γ, rfl, h⟩ := h
  exact (makesSl_s h b).rd
/-- the reference's object -/
def RefS (br : Nat) (G : RefM) (s : Hp) : Prop := RefGd G ∧ ∃ Γ, s = Γ.flatten ∧ RefA br G Γ
theorem rhasS {br : Nat} {G : RefM} {s : Hp} (h : RefS br G s) (a b : Int) : SX.Spec Try.prog 51 #[rptr br, kv a b] [s] [] fun v Γ' => Γ' = [] ∧ v = .bool (decide (Cl G.told G.boxes a b)) := by
  obtain ⟨hg, Γ, rfl, h⟩ := h
  exact (rhas_s h hg a b).rd
theorem rclosedS {br : Nat} {G : RefM} {s : Hp} (h : RefS br G s) : SX.Spec Try.prog 24 #[rptr br] [s] [] fun v Γ' => ∃ t s, OwnS v 3 Int 1 ic t s ∧ Γ' = [s] ∧ TabOk t ∧ ∀ a b, Tin t a b ↔ Cl G.told G.boxes a b := by
  obtain ⟨hg, Γ, rfl, h⟩ := h
  exact (rclosed_s h hg.td hg.bx).rd
theorem rmakesS {br : Nat} {G : RefM} {s : Hp} (h : RefS br G s) (b : ApiBox) : SX.Spec Try.prog 27 #[rptr br, avApiBox b] [s] [] fun v Γ' => Γ' = [] ∧ v = .bool (decide (G.makes b)) := by
  obtain ⟨hg, Γ, rfl, h⟩ := h
  exact (rmakes_s h hg b).rd
theorem rmakesSlS {br : Nat} {G : RefM} {s : Hp} (h : RefS br G s) (b : ApiSealed) : SX.Spec Try.prog 29 #[rptr br, avApiSealed b] [s] [] fun v Γ' => Γ' = [] ∧ v = .bool (decide (G.makesSl b)) := by
  obtain ⟨hg, Γ, rfl, h⟩ := h
  exact (rmakesSl_s h hg b).rd
theorem rkeysS {br : Nat} {G : RefM} {s : Hp} (h : RefS br G s) : SX.Spec Try.prog 30 #[rptr br] [s] [] fun v Γ' => ∃ l s, OwnS v 25 ApiKey 2 cvApiKey l s ∧ Γ' = [s] ∧ KeysOf G.told G.boxes l ∧ l.length ≤ 32768 := by
  obtain ⟨hg, Γ, rfl, h⟩ := h
  exact (rkeys_s h hg).rd
theorem rcopyS {br : Nat} {G : RefM} {s : Hp} (h : RefS br G s) (hb : G.told.length * 16 ≤ 140737488355328 ∧ G.boxes.length * 32 ≤ 140737488355328 ∧ G.texts.length * 40 ≤ 140737488355328) : SX.Spec Try.prog 34 #[rptr br] [s] [] fun v Γ' => ∃ br' s', v = rptr br' ∧ Γ' = [s'] ∧ RefS br' G s' := by
  obtain ⟨hg, Γ, rfl, h⟩ := h
  exact (rcopy_s h hb).rd.out1.weak fun _ _ ⟨Γ0, e, br', h1, h2⟩ => ⟨br', _, h1, e, hg, Γ0, rfl, h2⟩
/-- what is told and seen by a call -/
def RefM.do (G : RefM) (o : Coterielaw19Op) : RefM :=
  if o.Kind = 1 then ⟨tellKey G.told o.Box.Under, G.boxes, G.texts⟩ else if o.Kind = 2 then ⟨G.told, tellBox G.boxes o.Box, G.texts⟩ else if o.Kind = 3 then ⟨G.told, G.boxes, tellText G.texts o.Text⟩ else G
theorem tellKey_len (l : List ApiKey) (x : ApiKey) : (tellKey l x).length ≤ l.length + 1 := by unfold tellKey; split <;> simp
theorem tellBox_len (l : List ApiBox) (x : ApiBox) : (tellBox l x).length ≤ l.length + 1 := by unfold tellBox; split <;> simp
theorem tellText_len (l : List ApiSealed) (x : ApiSealed) : (tellText l x).length ≤ l.length + 1 := by unfold tellText; split <;> simp
/-- .. how much there is -/
structure RefLe (G : RefM) (n : Nat) : Prop where
  td : G.told.length ≤ n
  bx : G.boxes.length ≤ n
  tx : G.texts.length ≤ n
theorem RefLe.do {G : RefM} {n : Nat} (h : RefLe G n) (o : Coterielaw19Op) : RefLe (G.do o) (n + 1) := by
  have h1 := tellKey_len G.told o.Box.Under
  have h2 := tellBox_len G.boxes o.Box
  have h3 := tellText_len G.texts o.Text
  have := h.td
  have := h.bx
  have := h.tx
  unfold RefM.do
  split
  · exact ⟨by dsimp only; omega, by dsimp only; omega, by dsimp only; omega⟩
  · split
    · exact ⟨by dsimp only; omega, by dsimp only; omega, by dsimp only; omega⟩
    · split
      · exact ⟨by dsimp only; omega, by dsimp only; omega, by dsimp only; omega⟩
      · exact ⟨by omega, by omega, by omega⟩
theorem RefGd.do {G : RefM} (h : RefGd G) (o : Coterielaw19Op) : RefGd (G.do o) := by
  unfold RefM.do
  split
  · refine ⟨fun x hx => ?_, h.bx⟩
    rcases mem_tellKey.1 hx with hx | ⟨rfl, g⟩
    · exact h.td x hx
    · exact g
  · split
    · refine ⟨h.td, fun b hb => ?_⟩
      dsimp only at hb
      unfold tellBox at hb
      split at hb
      · rename_i hg
        rcases List.mem_append.1 hb with hb | hb
        · exact h.bx b hb
        · simp only [List.mem_singleton] at hb; subst hb; exact hg.1
      · exact h.bx b hb
    · split <;> exact ⟨h.td, h.bx⟩
theorem rlearnS {br : Nat} {G : RefM} {s : Hp} (h : RefS br G s) (x : ApiKey) (hg' : RefGd ⟨tellKey G.told x, G.boxes, G.texts⟩) (hb : (G.told.length + 2) * 16 ≤ 140737488355328) : SX.Spec Try.prog 44 #[rptr br, avApiKey x] [] [s] fun v Γ' => ∃ s', v = .tuple #[] ∧ Γ' = [s'] ∧ RefS br ⟨tellKey G.told x, G.boxes, G.texts⟩ s' := by
  obtain ⟨hg, Γ, rfl, h⟩ := h
  exact (rlearn_s h x hb).own.weak fun _ _ ⟨Γ0, e, h1, h3⟩ => ⟨_, h1, e, hg', Γ0, rfl, h3⟩
theorem rseeS {br : Nat} {G : RefM} {s : Hp} (h : RefS br G s) (x : ApiBox) (hg' : RefGd ⟨G.told, tellBox G.boxes x, G.texts⟩) (hb : (G.boxes.length + 2) * 32 ≤ 140737488355328) : SX.Spec Try.prog 45 #[rptr br, avApiBox x] [] [s] fun v Γ' => ∃ s', v = .tuple #[] ∧ Γ' = [s'] ∧ RefS br ⟨G.told, tellBox G.boxes x, G.texts⟩ s' := by
  obtain ⟨hg, Γ, rfl, h⟩ := h
  exact (rsee_s h x hb).own.weak fun _ _ ⟨Γ0, e, h1, h3⟩ => ⟨_, h1, e, hg', Γ0, rfl, h3⟩
theorem rseeSealedS {br : Nat} {G : RefM} {s : Hp} (h : RefS br G s) (x : ApiSealed) (hg' : RefGd ⟨G.told, G.boxes, tellText G.texts x⟩) (hb : (G.texts.length + 2) * 40 ≤ 140737488355328) : SX.Spec Try.prog 46 #[rptr br, avApiSealed x] [] [s] fun v Γ' => ∃ s', v = .tuple #[] ∧ Γ' = [s'] ∧ RefS br ⟨G.told, G.boxes, tellText G.texts x⟩ s' := by
  obtain ⟨hg, Γ, rfl, h⟩ := h
  exact (rseeSealed_s h x hb).own.weak fun _ _ ⟨Γ0, e, h1, h3⟩ => ⟨_, h1, e, hg', Γ0, rfl, h3⟩
theorem model_s {br : Nat} {G : RefM} {s : Hp} (h : RefS br G s) (o : Coterielaw19Op) {n : Nat} (hl : RefLe G n) (hb : (n + 2) * 40 ≤ 140737488355328) : SX.Spec Try.prog 23 #[rptr br, avCoterielaw19Op o] [] [s] fun v Γ' => ∃ s', v = .tuple #[] ∧ Γ' = [s'] ∧ RefS br (G.do o) s' := by
  have hg := h.1.do o
  have := hl.td
  have := hl.bx
  have := hl.tx
  unfold RefM.do at hg ⊢
  refine spec_of2 Try.func23 Try.ntmps23 rfl rfl (fun M w0 => ?_)
  repeat' (first | refine stp ?_|(refine v_spT ?_ ?_;omega)|(refine v_spF ?_ ?_;omega)|refine v_spD (fun hc=>?_) (fun hc=>?_)|refine v_spB (fun hc=>?_) (fun hc=>?_)|(refine v_yc ?_ ?_;omega)|refine v_alloc' (fun ba=>?_)|refine v_box (fun bb=>?_)|refine v_lit (fun bl=>?_)|refine v_makeMap (fun bm=>?_)|(refine v_push ?_ (fun sv ss hs hln=>?_);omega)|(refine v_push0 ?_ (fun sv ss hs=>?_);omega)|(refine v_set ?_ (fun ss hs hln=>?_);omega)|(refine v_cat ?_ (fun sv ss hs hln=>?_);omega)|(refine v_cat0 ?_ (fun sv ss hs=>?_);omega)|(refine v_catN ?_ (fun sv ss hs=>?_);omega)|refine v_put (fun sm hm=>?_)|refine v_del (fun sm hm=>?_)|(refine v_sb ?_ (fun su (And.intro hs hln)=>?_);omega)|refine v_1lk (fun lv hlk=>?_) (fun hlk=>?_)|refine v_ment (fun st sm hm hst=>?_)|refine v_esto (fun sm hm=>?_)|refine v_rng (fun ri ti hit=>?_)|refine v_clone (fun bc sc hcl=>?_)|refine v_yw ?_|(refine v_make ?_ (fun sv ss hs hln=>?_);omega)|fail)
  · rw [if_pos hc] at hg ⊢
    refine v_callO (rlearnS h o.Box.Under hg (by omega)) ?_
    rintro v Γ' ⟨s', rfl, rfl, h2⟩
    (try dsimp only [List.cons_append, List.nil_append])
    repeat' (first | refine stp ?_|(refine v_spT ?_ ?_;omega)|(refine v_spF ?_ ?_;omega)|refine v_spD (fun hc=>?_) (fun hc=>?_)|refine v_spB (fun hc=>?_) (fun hc=>?_)|(refine v_yc ?_ ?_;omega)|refine v_alloc' (fun ba=>?_)|refine v_box (fun bb=>?_)|refine v_lit (fun bl=>?_)|refine v_makeMap (fun bm=>?_)|(refine v_push ?_ (fun sv ss hs hln=>?_);omega)|(refine v_push0 ?_ (fun sv ss hs=>?_);omega)|(refine v_set ?_ (fun ss hs hln=>?_);omega)|(refine v_cat ?_ (fun sv ss hs hln=>?_);omega)|(refine v_cat0 ?_ (fun sv ss hs=>?_);omega)|(refine v_catN ?_ (fun sv ss hs=>?_);omega)|refine v_put (fun sm hm=>?_)|refine v_del (fun sm hm=>?_)|(refine v_sb ?_ (fun su (And.intro hs hln)=>?_);omega)|refine v_1lk (fun lv hlk=>?_) (fun hlk=>?_)|refine v_ment (fun st sm hm hst=>?_)|refine v_esto (fun sm hm=>?_)|refine v_rng (fun ri ti hit=>?_)|refine v_clone (fun bc sc hcl=>?_)|refine v_yw ?_|(refine v_make ?_ (fun sv ss hs hln=>?_);omega)|fail)
    refine v_o0 Try.results23 ⟨s', rfl, rfl, h2⟩ ⟨_, inferInstance⟩
  · rw [if_neg (by omega), if_pos hc] at hg ⊢
    refine v_callO (rseeS h o.Box hg (by omega)) ?_
    rintro v Γ' ⟨s', rfl, rfl, h2⟩
    (try dsimp only [List.cons_append, List.nil_append])
    repeat' (first | refine stp ?_|(refine v_spT ?_ ?_;omega)|(refine v_spF ?_ ?_;omega)|refine v_spD (fun hc=>?_) (fun hc=>?_)|refine v_spB (fun hc=>?_) (fun hc=>?_)|(refine v_yc ?_ ?_;omega)|refine v_alloc' (fun ba=>?_)|refine v_box (fun bb=>?_)|refine v_lit (fun bl=>?_)|refine v_makeMap (fun bm=>?_)|(refine v_push ?_ (fun sv ss hs hln=>?_);omega)|(refine v_push0 ?_ (fun sv ss hs=>?_);omega)|(refine v_set ?_ (fun ss hs hln=>?_);omega)|(refine v_cat ?_ (fun sv ss hs hln=>?_);omega)|(refine v_cat0 ?_ (fun sv ss hs=>?_);omega)|(refine v_catN ?_ (fun sv ss hs=>?_);omega)|refine v_put (fun sm hm=>?_)|refine v_del (fun sm hm=>?_)|(refine v_sb ?_ (fun su (And.intro hs hln)=>?_);omega)|refine v_1lk (fun lv hlk=>?_) (fun hlk=>?_)|refine v_ment (fun st sm hm hst=>?_)|refine v_esto (fun sm hm=>?_)|refine v_rng (fun ri ti hit=>?_)|refine v_clone (fun bc sc hcl=>?_)|refine v_yw ?_|(refine v_make ?_ (fun sv ss hs hln=>?_);omega)|fail)
    refine v_o0 Try.results23 ⟨s', rfl, rfl, h2⟩ ⟨_, inferInstance⟩
  · rw [if_neg (by omega), if_neg (by omega), if_pos hc] at hg ⊢
    refine v_callO (rseeSealedS h o.Text hg (by omega)) ?_
    rintro v Γ' ⟨s', rfl, rfl, h2⟩
    (try dsimp only [List.cons_append, List.nil_append])
    repeat' (first | refine stp ?_|(refine v_spT ?_ ?_;omega)|(refine v_spF ?_ ?_;omega)|refine v_spD (fun hc=>?_) (fun hc=>?_)|refine v_spB (fun hc=>?_) (fun hc=>?_)|(refine v_yc ?_ ?_;omega)|refine v_alloc' (fun ba=>?_)|refine v_box (fun bb=>?_)|refine v_lit (fun bl=>?_)|refine v_makeMap (fun bm=>?_)|(refine v_push ?_ (fun sv ss hs hln=>?_);omega)|(refine v_push0 ?_ (fun sv ss hs=>?_);omega)|(refine v_set ?_ (fun ss hs hln=>?_);omega)|(refine v_cat ?_ (fun sv ss hs hln=>?_);omega)|(refine v_cat0 ?_ (fun sv ss hs=>?_);omega)|(refine v_catN ?_ (fun sv ss hs=>?_);omega)|refine v_put (fun sm hm=>?_)|refine v_del (fun sm hm=>?_)|(refine v_sb ?_ (fun su (And.intro hs hln)=>?_);omega)|refine v_1lk (fun lv hlk=>?_) (fun hlk=>?_)|refine v_ment (fun st sm hm hst=>?_)|refine v_esto (fun sm hm=>?_)|refine v_rng (fun ri ti hit=>?_)|refine v_clone (fun bc sc hcl=>?_)|refine v_yw ?_|(refine v_make ?_ (fun sv ss hs hln=>?_);omega)|fail)
    refine v_o0 Try.results23 ⟨s', rfl, rfl, h2⟩ ⟨_, inferInstance⟩
  · rw [if_neg (by omega), if_neg (by omega), if_neg hc] at hg ⊢
    refine v_o0 Try.results23 ⟨s, rfl, rfl, h⟩ ⟨_, inferInstance⟩
/-- the program beside the reference -/
def KinG (G : RefM) (n : Nat) (K : KnowM) : Prop := Kin G.told G.boxes G.texts n K
theorem KinG.gd {G : RefM} {n : Nat} {K : KnowM} (h : KinG G n K) : RefGd G := ⟨h.w.gt, h.w.gb⟩
theorem KinG.zero : KinG RefM.zero 0 KnowM.zero := Kin.zero
theorem KinG.do {G : RefM} {n : Nat} {K K' : KnowM} {o : Coterielaw19Op} (h : KinG G n K) (hd : DoR K o K') (hn : n < 9223372036854775000) : KinG (G.do o) (n + 1) K' := by
  unfold DoR at hd
  unfold RefM.do
  unfold KinG at h ⊢
  split
  · rename_i e; rw [if_pos e] at hd; exact (h.learn hd).le (Nat.le_succ _)
  · rename_i e1
    rw [if_neg e1] at hd
    split
    · rename_i e; rw [if_pos e] at hd; exact (h.see hd).le (Nat.le_succ _)
    · rename_i e2
      rw [if_neg e2] at hd
      split
      · rename_i e; rw [if_pos e] at hd; subst hd; exact h.read o.Text hn
      · rename_i e; rw [if_neg e] at hd; subst hd; exact h.le (Nat.le_succ _)
theorem KinG.had {G : RefM} {n : Nat} {K : KnowM} (h : KinG G n K) (a s : Int) : K.had a s ↔ Cl G.told G.boxes a s := h.w.iff a s
theorem KinG.makes {G : RefM} {n : Nat} {K : KnowM} (h : KinG G n K) (b : ApiBox) : K.makes b ↔ G.makes b := by
  unfold KnowM.makes RefM.makes
  rw [h.bx, h.had, h.had]
  constructor
  · rintro (h1 | ⟨h1, h2⟩)
    · exact ⟨h.w.gb b h1, .inl h1⟩
    · exact ⟨⟨h1.gd, h2.gd⟩, .inr ⟨h1, h2⟩⟩
  · exact fun h => h.2
theorem KinG.makesSl {G : RefM} {n : Nat} {K : KnowM} (h : KinG G n K) (b : ApiSealed) : K.makesSl b ↔ G.makesSl b := by
  unfold KnowM.makesSl RefM.makesSl
  rw [h.tx, h.had]
  constructor
  · rintro (h1 | ⟨h1, h2⟩)
    · exact ⟨h.tg b h1, .inl h1⟩
    · exact ⟨h1, .inr h2⟩
  · rintro ⟨h1, h2 | h2⟩
    · exact .inl h2
    · exact .inr ⟨h1, h2⟩
end Go.Proofs.Ytedemhmlaodblaa
