/- Contracts of the reference's functions (coterieref19). -/
import Derived.Test.YtedemhmlaodblaaKc
namespace Go.Proofs.Ytedemhmlaodblaa
open Go Go.SX Go.RowKit
set_option maxRecDepth 100000
set_option linter.unusedSimpArgs false
set_option linter.unusedVariables false
set_option maxHeartbeats 0
set_option synthInstance.maxSize 100000
set_option synthInstance.maxHeartbeats 400000
theorem notMem_step {α : Type} {l : List α} {i : Nat} {b : α} (h : i < l.length) (hn : b ∉ l.take i) (he : ¬ l[i] = b) : b ∉ l.take (i + 1) := by
  rw [List.take_add_one, List.getElem?_eq_getElem h]
  intro hm
  rcases List.mem_append.1 hm with hm | hm
  · exact hn hm
  · simp only [Option.toList_some, List.mem_singleton] at hm
    exact he hm.symm
theorem _root_.Go.SX.AtS.le {v : Value} {e : Nat} {α : Type} {sz : Nat} {cv : α → List Value} {l : List α} {s : Hp} (h : AtS v e α sz cv l s) : l.length ≤ 9223372036854775807 := by
  rcases h.out.2 with ⟨_, h0⟩ | ⟨b, off, cap, cur, et, fr, _, _, h1, h2, _⟩
  · omega
  · unfold maxLen at h2; omega
theorem _root_.Go.SX.OwnS.le {v : Value} {e : Nat} {α : Type} {sz : Nat} {cv : α → List Value} {l : List α} {s : Hp} (h : OwnS v e α sz cv l s) : l.length ≤ 9223372036854775807 := AtS.le (ownAt (h := h))
structure RefM where
  told : List ApiKey
  boxes : List ApiBox
  texts : List ApiSealed
abbrev RefM.zero : RefM := ⟨[], [], []⟩
def RefA (br : Nat) (G : RefM) (Γ : List Hp) : Prop := ∃ v1 v2 v3 s1 s2 s3, Γ = [[(br, .cells #[v1, v2, v3] 49 (0, 0))], s1, s2, s3] ∧
  OwnS v1 25 ApiKey 2 cvApiKey G.told s1 ∧ OwnS v2 34 ApiBox 4 cvApiBox G.boxes s2 ∧ OwnS v3 36 ApiSealed 4 cvApiSealed G.texts s3
def GdB (b : ApiBox) : Prop := Gd b.Under.Base b.Under.Step ∧ Gd b.Load.Base b.Load.Step
instance (b : ApiBox) : Decidable (GdB b) := by unfold GdB; infer_instance
instance goodBox_s (b : ApiBox) : PC Try.prog 19 #[avApiBox b] (.bool (decide (GdB b))) := ⟨by
  refine spec_of1 Try.func19 Try.ntmps19 rfl rfl (fun M w0 => ?_)
  repeat' (first | refine stp ?_|(refine v_spT ?_ ?_;omega)|(refine v_spF ?_ ?_;omega)|refine v_spD (fun hc=>?_) (fun hc=>?_)|refine v_spB (fun hc=>?_) (fun hc=>?_)|(refine v_yc ?_ ?_;omega)|refine v_alloc' (fun ba=>?_)|refine v_box (fun bb=>?_)|refine v_lit (fun bl=>?_)|refine v_makeMap (fun bm=>?_)|(refine v_push ?_ (fun sv ss hs hln=>?_);omega)|(refine v_push0 ?_ (fun sv ss hs=>?_);omega)|(refine v_set ?_ (fun ss hs hln=>?_);omega)|(refine v_cat ?_ (fun sv ss hs hln=>?_);omega)|(refine v_cat0 ?_ (fun sv ss hs=>?_);omega)|(refine v_catN ?_ (fun sv ss hs=>?_);omega)|refine v_put (fun sm hm=>?_)|refine v_del (fun sm hm=>?_)|(refine v_sb ?_ (fun su (And.intro hs hln)=>?_);omega)|refine v_1lk (fun lv hlk=>?_) (fun hlk=>?_)|refine v_ment (fun st sm hm hst=>?_)|refine v_esto (fun sm hm=>?_)|refine v_rng (fun ri ti hit=>?_)|refine v_clone (fun bc sc hcl=>?_)|refine v_yw ?_|(refine v_make ?_ (fun sv ss hs hln=>?_);omega)|fail)
  all_goals refine v_out1 (Γk := []) Try.results19 ⟨?_, rfl⟩
  · refine bD ?_; simp [GdB, hc]
  · refine bF ?_; simp [GdB, hc]⟩
instance rEpoch_s (x : Int) : PC Try.prog 64 #[.int .i64 x] (.bool (decide (1 ≤ x ∧ x ≤ 200))) := ⟨by
  refine spec_of1 Try.func64 Try.ntmps64 rfl rfl (fun M w0 => ?_)
  repeat' (first | refine stp ?_|(refine v_spT ?_ ?_;omega)|(refine v_spF ?_ ?_;omega)|refine v_spD (fun hc=>?_) (fun hc=>?_)|refine v_spB (fun hc=>?_) (fun hc=>?_)|(refine v_yc ?_ ?_;omega)|refine v_alloc' (fun ba=>?_)|refine v_box (fun bb=>?_)|refine v_lit (fun bl=>?_)|refine v_makeMap (fun bm=>?_)|(refine v_push ?_ (fun sv ss hs hln=>?_);omega)|(refine v_push0 ?_ (fun sv ss hs=>?_);omega)|(refine v_set ?_ (fun ss hs hln=>?_);omega)|(refine v_cat ?_ (fun sv ss hs hln=>?_);omega)|(refine v_cat0 ?_ (fun sv ss hs=>?_);omega)|(refine v_catN ?_ (fun sv ss hs=>?_);omega)|refine v_put (fun sm hm=>?_)|refine v_del (fun sm hm=>?_)|(refine v_sb ?_ (fun su (And.intro hs hln)=>?_);omega)|refine v_1lk (fun lv hlk=>?_) (fun hlk=>?_)|refine v_ment (fun st sm hm hst=>?_)|refine v_esto (fun sm hm=>?_)|refine v_rng (fun ri ti hit=>?_)|refine v_clone (fun bc sc hcl=>?_)|refine v_yw ?_|(refine v_make ?_ (fun sv ss hs hln=>?_);omega)|fail)
  all_goals refine v_out1 (Γk := []) Try.results64 ⟨?_, rfl⟩
  all_goals first | (refine bD ?_; omega) | (refine bF ?_; omega)⟩
instance goodSealed_s (s : ApiSealed) : PC Try.prog 49 #[avApiSealed s] (.bool (decide (GoodSl s))) := ⟨by
  refine spec_of1 Try.func49 Try.ntmps49 rfl rfl (fun M w0 => ?_)
  repeat' (first | refine stp ?_|(refine v_spT ?_ ?_;omega)|(refine v_spF ?_ ?_;omega)|refine v_spD (fun hc=>?_) (fun hc=>?_)|refine v_spB (fun hc=>?_) (fun hc=>?_)|(refine v_yc ?_ ?_;omega)|refine v_alloc' (fun ba=>?_)|refine v_box (fun bb=>?_)|refine v_lit (fun bl=>?_)|refine v_makeMap (fun bm=>?_)|(refine v_push ?_ (fun sv ss hs hln=>?_);omega)|(refine v_push0 ?_ (fun sv ss hs=>?_);omega)|(refine v_set ?_ (fun ss hs hln=>?_);omega)|(refine v_cat ?_ (fun sv ss hs hln=>?_);omega)|(refine v_cat0 ?_ (fun sv ss hs=>?_);omega)|(refine v_catN ?_ (fun sv ss hs=>?_);omega)|refine v_put (fun sm hm=>?_)|refine v_del (fun sm hm=>?_)|(refine v_sb ?_ (fun su (And.intro hs hln)=>?_);omega)|refine v_1lk (fun lv hlk=>?_) (fun hlk=>?_)|refine v_ment (fun st sm hm hst=>?_)|refine v_esto (fun sm hm=>?_)|refine v_rng (fun ri ti hit=>?_)|refine v_clone (fun bc sc hcl=>?_)|refine v_yw ?_|(refine v_make ?_ (fun sv ss hs hln=>?_);omega)|fail)
  all_goals refine v_out1 (Γk := []) Try.results49 ⟨?_, rfl⟩
  all_goals first | (refine bF ?_; exact fun h => hc h.1) | (refine bD ?_; unfold GoodSl; simp_all; done) | (refine bF ?_; unfold GoodSl; simp_all; done)⟩
theorem rseen_s {br : Nat} {G : RefM} {Γ : List Hp} (h : RefA br G Γ) (b : ApiBox) : SX.Spec Try.prog 47 #[.pointer (some ⟨br, 0, none⟩), avApiBox b] Γ [] fun v Γ' => Γ' = [] ∧ v = .bool (decide (b ∈ G.boxes)) := by
  obtain ⟨v1, v2, v3, s1, s2, s3, rfl, h1, h2, h3⟩ := h
  have hle := h2.le
  refine spec_of2 Try.func47 Try.ntmps47 rfl rfl (fun M w0 => ?_)
  repeat' (first | refine stp ?_|(refine v_spT ?_ ?_;omega)|(refine v_spF ?_ ?_;omega)|refine v_spD (fun hc=>?_) (fun hc=>?_)|refine v_spB (fun hc=>?_) (fun hc=>?_)|(refine v_yc ?_ ?_;omega)|refine v_alloc' (fun ba=>?_)|refine v_box (fun bb=>?_)|refine v_lit (fun bl=>?_)|refine v_makeMap (fun bm=>?_)|(refine v_push ?_ (fun sv ss hs hln=>?_);omega)|(refine v_push0 ?_ (fun sv ss hs=>?_);omega)|(refine v_set ?_ (fun ss hs hln=>?_);omega)|(refine v_cat ?_ (fun sv ss hs hln=>?_);omega)|(refine v_cat0 ?_ (fun sv ss hs=>?_);omega)|(refine v_catN ?_ (fun sv ss hs=>?_);omega)|refine v_put (fun sm hm=>?_)|refine v_del (fun sm hm=>?_)|(refine v_sb ?_ (fun su (And.intro hs hln)=>?_);omega)|refine v_1lk (fun lv hlk=>?_) (fun hlk=>?_)|refine v_ment (fun st sm hm hst=>?_)|refine v_esto (fun sm hm=>?_)|refine v_rng (fun ri ti hit=>?_)|refine v_clone (fun bc sc hcl=>?_)|refine v_yw ?_|(refine v_make ?_ (fun sv ss hs hln=>?_);omega)|fail)
  refine v_lp [12] [3, 10, 11] (fun i : Nat => [.int .i64 i]) (fun _ => []) (fun i => i ≤ G.boxes.length ∧ b ∉ G.boxes.take i) (fun i => G.boxes.length - i) 0 (fun _ => rfl) rfl inferInstance ⟨Nat.zero_le _, by simp⟩ ?_
  rintro i ⟨hi, hn⟩
  (try dsimp only [zipE_c, zipE_n, List.cons_append, List.nil_append])
  repeat' (first | refine stp ?_|(refine v_spT ?_ ?_;omega)|(refine v_spF ?_ ?_;omega)|refine v_spD (fun hc=>?_) (fun hc=>?_)|refine v_spB (fun hc=>?_) (fun hc=>?_)|(refine v_yc ?_ ?_;omega)|refine v_alloc' (fun ba=>?_)|refine v_box (fun bb=>?_)|refine v_lit (fun bl=>?_)|refine v_makeMap (fun bm=>?_)|(refine v_push ?_ (fun sv ss hs hln=>?_);omega)|(refine v_push0 ?_ (fun sv ss hs=>?_);omega)|(refine v_set ?_ (fun ss hs hln=>?_);omega)|(refine v_cat ?_ (fun sv ss hs hln=>?_);omega)|(refine v_cat0 ?_ (fun sv ss hs=>?_);omega)|(refine v_catN ?_ (fun sv ss hs=>?_);omega)|refine v_put (fun sm hm=>?_)|refine v_del (fun sm hm=>?_)|(refine v_sb ?_ (fun su (And.intro hs hln)=>?_);omega)|refine v_1lk (fun lv hlk=>?_) (fun hlk=>?_)|refine v_ment (fun st sm hm hst=>?_)|refine v_esto (fun sm hm=>?_)|refine v_rng (fun ri ti hit=>?_)|refine v_clone (fun bc sc hcl=>?_)|refine v_yw ?_|(refine v_make ?_ (fun sv ss hs hln=>?_);omega)|fail)
  · refine v_o1 Try.results47 ⟨rfl, bT ?_⟩ ⟨_, inferInstance⟩
    exact (show G.boxes[i] = b by simp [iff_ApiBox, iff_ApiKey, hc]) ▸ List.getElem_mem _
  · exact v_again (i + 1) (by omega) rfl inferInstance ⟨by omega, notMem_step (by omega) hn (fun e => hc (by simp [e]))⟩
  · refine v_o1 Try.results47 ⟨rfl, bF ?_⟩ ⟨_, inferInstance⟩
    rw [List.take_of_length_le (by omega)] at hn
    exact hn
theorem rread_s {br : Nat} {G : RefM} {Γ : List Hp} (h : RefA br G Γ) (b : ApiSealed) : SX.Spec Try.prog 50 #[.pointer (some ⟨br, 0, none⟩), avApiSealed b] Γ [] fun v Γ' => Γ' = [] ∧ v = .bool (decide (b ∈ G.texts)) := by
  obtain ⟨v1, v2, v3, s1, s2, s3, rfl, h1, h2, h3⟩ := h
  have hle := h3.le
  refine spec_of2 Try.func50 Try.ntmps50 rfl rfl (fun M w0 => ?_)
  repeat' (first | refine stp ?_|(refine v_spT ?_ ?_;omega)|(refine v_spF ?_ ?_;omega)|refine v_spD (fun hc=>?_) (fun hc=>?_)|refine v_spB (fun hc=>?_) (fun hc=>?_)|(refine v_yc ?_ ?_;omega)|refine v_alloc' (fun ba=>?_)|refine v_box (fun bb=>?_)|refine v_lit (fun bl=>?_)|refine v_makeMap (fun bm=>?_)|(refine v_push ?_ (fun sv ss hs hln=>?_);omega)|(refine v_push0 ?_ (fun sv ss hs=>?_);omega)|(refine v_set ?_ (fun ss hs hln=>?_);omega)|(refine v_cat ?_ (fun sv ss hs hln=>?_);omega)|(refine v_cat0 ?_ (fun sv ss hs=>?_);omega)|(refine v_catN ?_ (fun sv ss hs=>?_);omega)|refine v_put (fun sm hm=>?_)|refine v_del (fun sm hm=>?_)|(refine v_sb ?_ (fun su (And.intro hs hln)=>?_);omega)|refine v_1lk (fun lv hlk=>?_) (fun hlk=>?_)|refine v_ment (fun st sm hm hst=>?_)|refine v_esto (fun sm hm=>?_)|refine v_rng (fun ri ti hit=>?_)|refine v_clone (fun bc sc hcl=>?_)|refine v_yw ?_|(refine v_make ?_ (fun sv ss hs hln=>?_);omega)|fail)
  refine v_lp [12] [3, 10, 11] (fun i : Nat => [.int .i64 i]) (fun _ => []) (fun i => i ≤ G.texts.length ∧ b ∉ G.texts.take i) (fun i => G.texts.length - i) 0 (fun _ => rfl) rfl inferInstance ⟨Nat.zero_le _, by simp⟩ ?_
  rintro i ⟨hi, hn⟩
  (try dsimp only [zipE_c, zipE_n, List.cons_append, List.nil_append])
  repeat' (first | refine stp ?_|(refine v_spT ?_ ?_;omega)|(refine v_spF ?_ ?_;omega)|refine v_spD (fun hc=>?_) (fun hc=>?_)|refine v_spB (fun hc=>?_) (fun hc=>?_)|(refine v_yc ?_ ?_;omega)|refine v_alloc' (fun ba=>?_)|refine v_box (fun bb=>?_)|refine v_lit (fun bl=>?_)|refine v_makeMap (fun bm=>?_)|(refine v_push ?_ (fun sv ss hs hln=>?_);omega)|(refine v_push0 ?_ (fun sv ss hs=>?_);omega)|(refine v_set ?_ (fun ss hs hln=>?_);omega)|(refine v_cat ?_ (fun sv ss hs hln=>?_);omega)|(refine v_cat0 ?_ (fun sv ss hs=>?_);omega)|(refine v_catN ?_ (fun sv ss hs=>?_);omega)|refine v_put (fun sm hm=>?_)|refine v_del (fun sm hm=>?_)|(refine v_sb ?_ (fun su (And.intro hs hln)=>?_);omega)|refine v_1lk (fun lv hlk=>?_) (fun hlk=>?_)|refine v_ment (fun st sm hm hst=>?_)|refine v_esto (fun sm hm=>?_)|refine v_rng (fun ri ti hit=>?_)|refine v_clone (fun bc sc hcl=>?_)|refine v_yw ?_|(refine v_make ?_ (fun sv ss hs hln=>?_);omega)|fail)
  · refine v_o1 Try.results50 ⟨rfl, bT ?_⟩ ⟨_, inferInstance⟩
    exact (show G.texts[i] = b by simp [iff_ApiSealed, iff_ApiKey, hc]) ▸ List.getElem_mem _
  · exact v_again (i + 1) (by omega) rfl inferInstance ⟨by omega, notMem_step (by omega) hn (fun e => hc (by simp [e]))⟩
  · refine v_o1 Try.results50 ⟨rfl, bF ?_⟩ ⟨_, inferInstance⟩
    rw [List.take_of_length_le (by omega)] at hn
    exact hn
theorem rlearn_s {br : Nat} {G : RefM} {Γ : List Hp} (h : RefA br G Γ) (x : ApiKey) (hb : (G.told.length + 2) * 16 ≤ 140737488355328) : SX.Spec Try.prog 44 #[.pointer (some ⟨br, 0, none⟩), avApiKey x] [] Γ fun v Γ' => v = .tuple #[] ∧ RefA br ⟨tellKey G.told x, G.boxes, G.texts⟩ Γ' := by
  obtain ⟨v1, v2, v3, s1, s2, s3, rfl, h1, h2, h3⟩ := h
  refine spec_of2 Try.func44 Try.ntmps44 rfl rfl (fun M w0 => ?_)
  repeat' (first | refine stp ?_|(refine v_spT ?_ ?_;omega)|(refine v_spF ?_ ?_;omega)|refine v_spD (fun hc=>?_) (fun hc=>?_)|refine v_spB (fun hc=>?_) (fun hc=>?_)|(refine v_yc ?_ ?_;omega)|refine v_alloc' (fun ba=>?_)|refine v_box (fun bb=>?_)|refine v_lit (fun bl=>?_)|refine v_makeMap (fun bm=>?_)|(refine v_push ?_ (fun sv ss hs hln=>?_);omega)|(refine v_push0 ?_ (fun sv ss hs=>?_);omega)|(refine v_set ?_ (fun ss hs hln=>?_);omega)|(refine v_cat ?_ (fun sv ss hs hln=>?_);omega)|(refine v_cat0 ?_ (fun sv ss hs=>?_);omega)|(refine v_catN ?_ (fun sv ss hs=>?_);omega)|refine v_put (fun sm hm=>?_)|refine v_del (fun sm hm=>?_)|(refine v_sb ?_ (fun su (And.intro hs hln)=>?_);omega)|refine v_1lk (fun lv hlk=>?_) (fun hlk=>?_)|refine v_ment (fun st sm hm hst=>?_)|refine v_esto (fun sm hm=>?_)|refine v_rng (fun ri ti hit=>?_)|refine v_clone (fun bc sc hcl=>?_)|refine v_yw ?_|(refine v_make ?_ (fun sv ss hs hln=>?_);omega)|refine ⟨?_,?_,?_⟩|refine ⟨?_,?_⟩|(refine v_tyc ?_ ?_;omega)|(refine v_tycT (by decide +kernel) ?_ ?_;omega)|refine v_tValT (by decide +kernel) ?_|(refine v_tsb ?_ (fun su (And.intro hs hln)=>?_);omega)|refine v_tlk (fun lv hlk=>?_) (fun hlk=>?_)|refine v_tlkT (by decide +kernel) (fun lv hlk=>?_) (fun hlk=>?_)|refine v_tyw ?_|refine v_drawnK (id:=7) 7 pl44_7 (by kernel_rfl) ?_|fail)
  · refine v_o0 Try.results44 ⟨rfl, v1, v2, v3, s1, s2, s3, rfl, ?_, h2, h3⟩ ⟨_, inferInstance⟩
    unfold tellKey
    rw [if_neg (fun h => hc h.1)]
    exact h1
  refine v_lp [14] [0, 3, 12, 13] (fun i : Nat => [.int .i64 i]) (fun _ => []) (fun i => i ≤ G.told.length ∧ x ∉ G.told.take i) (fun i => G.told.length - i) 0 (fun _ => rfl) rfl inferInstance ⟨Nat.zero_le _, by simp⟩ ?_
  rintro i ⟨hi, hn⟩
  (try dsimp only [zipE_c, zipE_n, List.cons_append, List.nil_append])
  repeat' (first | refine stp ?_|(refine v_spT ?_ ?_;omega)|(refine v_spF ?_ ?_;omega)|refine v_spD (fun hc=>?_) (fun hc=>?_)|refine v_spB (fun hc=>?_) (fun hc=>?_)|(refine v_yc ?_ ?_;omega)|refine v_alloc' (fun ba=>?_)|refine v_box (fun bb=>?_)|refine v_lit (fun bl=>?_)|refine v_makeMap (fun bm=>?_)|(refine v_push ?_ (fun sv ss hs hln=>?_);omega)|(refine v_push0 ?_ (fun sv ss hs=>?_);omega)|(refine v_set ?_ (fun ss hs hln=>?_);omega)|(refine v_cat ?_ (fun sv ss hs hln=>?_);omega)|(refine v_cat0 ?_ (fun sv ss hs=>?_);omega)|(refine v_catN ?_ (fun sv ss hs=>?_);omega)|refine v_put (fun sm hm=>?_)|refine v_del (fun sm hm=>?_)|(refine v_sb ?_ (fun su (And.intro hs hln)=>?_);omega)|refine v_1lk (fun lv hlk=>?_) (fun hlk=>?_)|refine v_ment (fun st sm hm hst=>?_)|refine v_esto (fun sm hm=>?_)|refine v_rng (fun ri ti hit=>?_)|refine v_clone (fun bc sc hcl=>?_)|refine v_yw ?_|(refine v_make ?_ (fun sv ss hs hln=>?_);omega)|refine ⟨?_,?_,?_⟩|refine ⟨?_,?_⟩|(refine v_tyc ?_ ?_;omega)|(refine v_tycT (by decide +kernel) ?_ ?_;omega)|refine v_tValT (by decide +kernel) ?_|(refine v_tsb ?_ (fun su (And.intro hs hln)=>?_);omega)|refine v_tlk (fun lv hlk=>?_) (fun hlk=>?_)|refine v_tlkT (by decide +kernel) (fun lv hlk=>?_) (fun hlk=>?_)|refine v_tyw ?_|refine v_drawnK (id:=7) 7 pl44_7 (by kernel_rfl) ?_|fail)
  · rw [← iff_ApiKey] at hc
    refine v_o0 Try.results44 ⟨rfl, v1, v2, v3, s1, s2, s3, rfl, ?_, h2, h3⟩ ⟨_, inferInstance⟩
    unfold tellKey
    rw [if_neg (fun h => h.2 (hc ▸ List.getElem_mem _))]
    exact h1
  · exact v_again (i + 1) (by omega) rfl inferInstance ⟨by omega, notMem_step (by omega) hn (fun e => hc (by simp [e]))⟩
  · rw [List.take_of_length_le (by omega)] at hn
    refine v_o0 Try.results44 ⟨rfl, sv, v2, v3, ss, s2, s3, rfl, ?_, h2, h3⟩ ⟨_, inferInstance⟩
    unfold tellKey
    rw [if_pos ⟨Decidable.not_not.1 (by assumption), hn⟩]
    exact hs
theorem rsee_s {br : Nat} {G : RefM} {Γ : List Hp} (h : RefA br G Γ) (x : ApiBox) (hb : (G.boxes.length + 2) * 32 ≤ 140737488355328) : SX.Spec Try.prog 45 #[.pointer (some ⟨br, 0, none⟩), avApiBox x] [] Γ fun v Γ' => v = .tuple #[] ∧ RefA br ⟨G.told, tellBox G.boxes x, G.texts⟩ Γ' := by
  have hh := rseen_s h x
  obtain ⟨v1, v2, v3, s1, s2, s3, rfl, h1, h2, h3⟩ := h
  refine spec_of2 Try.func45 Try.ntmps45 rfl rfl (fun M w0 => ?_)
  repeat' (first | refine stp ?_|(refine v_spT ?_ ?_;omega)|(refine v_spF ?_ ?_;omega)|refine v_spD (fun hc=>?_) (fun hc=>?_)|refine v_spB (fun hc=>?_) (fun hc=>?_)|(refine v_yc ?_ ?_;omega)|refine v_alloc' (fun ba=>?_)|refine v_box (fun bb=>?_)|refine v_lit (fun bl=>?_)|refine v_makeMap (fun bm=>?_)|(refine v_push ?_ (fun sv ss hs hln=>?_);omega)|(refine v_push0 ?_ (fun sv ss hs=>?_);omega)|(refine v_set ?_ (fun ss hs hln=>?_);omega)|(refine v_cat ?_ (fun sv ss hs hln=>?_);omega)|(refine v_cat0 ?_ (fun sv ss hs=>?_);omega)|(refine v_catN ?_ (fun sv ss hs=>?_);omega)|refine v_put (fun sm hm=>?_)|refine v_del (fun sm hm=>?_)|(refine v_sb ?_ (fun su (And.intro hs hln)=>?_);omega)|refine v_1lk (fun lv hlk=>?_) (fun hlk=>?_)|refine v_ment (fun st sm hm hst=>?_)|refine v_esto (fun sm hm=>?_)|refine v_rng (fun ri ti hit=>?_)|refine v_clone (fun bc sc hcl=>?_)|refine v_yw ?_|(refine v_make ?_ (fun sv ss hs hln=>?_);omega)|refine ⟨?_,?_,?_⟩|refine ⟨?_,?_⟩|(refine v_tyc ?_ ?_;omega)|(refine v_tycT (by decide +kernel) ?_ ?_;omega)|refine v_tValT (by decide +kernel) ?_|(refine v_tsb ?_ (fun su (And.intro hs hln)=>?_);omega)|refine v_tlk (fun lv hlk=>?_) (fun hlk=>?_)|refine v_tlkT (by decide +kernel) (fun lv hlk=>?_) (fun hlk=>?_)|refine v_tyw ?_|refine v_drawnK (id:=2) 7 pl45_2 (by kernel_rfl) ?_|fail)
  · refine v_callR hh ?_
    rintro v Γ' ⟨rfl, rfl⟩
    (try dsimp only [List.cons_append, List.nil_append])
    repeat' (first | refine stp ?_|(refine v_spT ?_ ?_;omega)|(refine v_spF ?_ ?_;omega)|refine v_spD (fun hc=>?_) (fun hc=>?_)|refine v_spB (fun hc=>?_) (fun hc=>?_)|(refine v_yc ?_ ?_;omega)|refine v_alloc' (fun ba=>?_)|refine v_box (fun bb=>?_)|refine v_lit (fun bl=>?_)|refine v_makeMap (fun bm=>?_)|(refine v_push ?_ (fun sv ss hs hln=>?_);omega)|(refine v_push0 ?_ (fun sv ss hs=>?_);omega)|(refine v_set ?_ (fun ss hs hln=>?_);omega)|(refine v_cat ?_ (fun sv ss hs hln=>?_);omega)|(refine v_cat0 ?_ (fun sv ss hs=>?_);omega)|(refine v_catN ?_ (fun sv ss hs=>?_);omega)|refine v_put (fun sm hm=>?_)|refine v_del (fun sm hm=>?_)|(refine v_sb ?_ (fun su (And.intro hs hln)=>?_);omega)|refine v_1lk (fun lv hlk=>?_) (fun hlk=>?_)|refine v_ment (fun st sm hm hst=>?_)|refine v_esto (fun sm hm=>?_)|refine v_rng (fun ri ti hit=>?_)|refine v_clone (fun bc sc hcl=>?_)|refine v_yw ?_|(refine v_make ?_ (fun sv ss hs hln=>?_);omega)|refine ⟨?_,?_,?_⟩|refine ⟨?_,?_⟩|(refine v_tyc ?_ ?_;omega)|(refine v_tycT (by decide +kernel) ?_ ?_;omega)|refine v_tValT (by decide +kernel) ?_|(refine v_tsb ?_ (fun su (And.intro hs hln)=>?_);omega)|refine v_tlk (fun lv hlk=>?_) (fun hlk=>?_)|refine v_tlkT (by decide +kernel) (fun lv hlk=>?_) (fun hlk=>?_)|refine v_tyw ?_|refine v_drawnK (id:=2) 7 pl45_2 (by kernel_rfl) ?_|fail)
    · refine v_o0 Try.results45 ⟨rfl, v1, sv, v3, s1, ss, s3, rfl, h1, ?_, h3⟩ ⟨_, inferInstance⟩
      unfold tellBox
      rw [if_pos ⟨by assumption, by assumption⟩]
      exact hs
    · refine v_o0 Try.results45 ⟨rfl, v1, v2, v3, s1, s2, s3, rfl, h1, ?_, h3⟩ ⟨_, inferInstance⟩
      unfold tellBox
      rw [if_neg (fun h => by first | exact hc h.2 | exact h.2 hc)]
      exact h2
  · refine v_o0 Try.results45 ⟨rfl, v1, v2, v3, s1, s2, s3, rfl, h1, ?_, h3⟩ ⟨_, inferInstance⟩
    unfold tellBox
    rw [if_neg (fun h => hc h.1)]
    exact h2
theorem rseeSealed_s {br : Nat} {G : RefM} {Γ : List Hp} (h : RefA br G Γ) (x : ApiSealed) (hb : (G.texts.length + 2) * 40 ≤ 140737488355328) : SX.Spec Try.prog 46 #[.pointer (some ⟨br, 0, none⟩), avApiSealed x] [] Γ fun v Γ' => v = .tuple #[] ∧ RefA br ⟨G.told, G.boxes, tellText G.texts x⟩ Γ' := by
  have hh := rread_s h x
  obtain ⟨v1, v2, v3, s1, s2, s3, rfl, h1, h2, h3⟩ := h
  refine spec_of2 Try.func46 Try.ntmps46 rfl rfl (fun M w0 => ?_)
  repeat' (first | refine stp ?_|(refine v_spT ?_ ?_;omega)|(refine v_spF ?_ ?_;omega)|refine v_spD (fun hc=>?_) (fun hc=>?_)|refine v_spB (fun hc=>?_) (fun hc=>?_)|(refine v_yc ?_ ?_;omega)|refine v_alloc' (fun ba=>?_)|refine v_box (fun bb=>?_)|refine v_lit (fun bl=>?_)|refine v_makeMap (fun bm=>?_)|(refine v_push ?_ (fun sv ss hs hln=>?_);omega)|(refine v_push0 ?_ (fun sv ss hs=>?_);omega)|(refine v_set ?_ (fun ss hs hln=>?_);omega)|(refine v_cat ?_ (fun sv ss hs hln=>?_);omega)|(refine v_cat0 ?_ (fun sv ss hs=>?_);omega)|(refine v_catN ?_ (fun sv ss hs=>?_);omega)|refine v_put (fun sm hm=>?_)|refine v_del (fun sm hm=>?_)|(refine v_sb ?_ (fun su (And.intro hs hln)=>?_);omega)|refine v_1lk (fun lv hlk=>?_) (fun hlk=>?_)|refine v_ment (fun st sm hm hst=>?_)|refine v_esto (fun sm hm=>?_)|refine v_rng (fun ri ti hit=>?_)|refine v_clone (fun bc sc hcl=>?_)|refine v_yw ?_|(refine v_make ?_ (fun sv ss hs hln=>?_);omega)|refine ⟨?_,?_,?_⟩|refine ⟨?_,?_⟩|(refine v_tyc ?_ ?_;omega)|(refine v_tycT (by decide +kernel) ?_ ?_;omega)|refine v_tValT (by decide +kernel) ?_|(refine v_tsb ?_ (fun su (And.intro hs hln)=>?_);omega)|refine v_tlk (fun lv hlk=>?_) (fun hlk=>?_)|refine v_tlkT (by decide +kernel) (fun lv hlk=>?_) (fun hlk=>?_)|refine v_tyw ?_|refine v_drawnK (id:=2) 7 pl46_2 (by kernel_rfl) ?_|fail)
  · refine v_callR hh ?_
    rintro v Γ' ⟨rfl, rfl⟩
    (try dsimp only [List.cons_append, List.nil_append])
    repeat' (first | refine stp ?_|(refine v_spT ?_ ?_;omega)|(refine v_spF ?_ ?_;omega)|refine v_spD (fun hc=>?_) (fun hc=>?_)|refine v_spB (fun hc=>?_) (fun hc=>?_)|(refine v_yc ?_ ?_;omega)|refine v_alloc' (fun ba=>?_)|refine v_box (fun bb=>?_)|refine v_lit (fun bl=>?_)|refine v_makeMap (fun bm=>?_)|(refine v_push ?_ (fun sv ss hs hln=>?_);omega)|(refine v_push0 ?_ (fun sv ss hs=>?_);omega)|(refine v_set ?_ (fun ss hs hln=>?_);omega)|(refine v_cat ?_ (fun sv ss hs hln=>?_);omega)|(refine v_cat0 ?_ (fun sv ss hs=>?_);omega)|(refine v_catN ?_ (fun sv ss hs=>?_);omega)|refine v_put (fun sm hm=>?_)|refine v_del (fun sm hm=>?_)|(refine v_sb ?_ (fun su (And.intro hs hln)=>?_);omega)|refine v_1lk (fun lv hlk=>?_) (fun hlk=>?_)|refine v_ment (fun st sm hm hst=>?_)|refine v_esto (fun sm hm=>?_)|refine v_rng (fun ri ti hit=>?_)|refine v_clone (fun bc sc hcl=>?_)|refine v_yw ?_|(refine v_make ?_ (fun sv ss hs hln=>?_);omega)|refine ⟨?_,?_,?_⟩|refine ⟨?_,?_⟩|(refine v_tyc ?_ ?_;omega)|(refine v_tycT (by decide +kernel) ?_ ?_;omega)|refine v_tValT (by decide +kernel) ?_|(refine v_tsb ?_ (fun su (And.intro hs hln)=>?_);omega)|refine v_tlk (fun lv hlk=>?_) (fun hlk=>?_)|refine v_tlkT (by decide +kernel) (fun lv hlk=>?_) (fun hlk=>?_)|refine v_tyw ?_|refine v_drawnK (id:=2) 7 pl46_2 (by kernel_rfl) ?_|fail)
    · refine v_o0 Try.results46 ⟨rfl, v1, v2, sv, s1, s2, ss, rfl, h1, h2, ?_⟩ ⟨_, inferInstance⟩
      unfold tellText
      rw [if_pos ⟨by assumption, by assumption⟩]
      exact hs
    · refine v_o0 Try.results46 ⟨rfl, v1, v2, v3, s1, s2, s3, rfl, h1, h2, ?_⟩ ⟨_, inferInstance⟩
      unfold tellText
      rw [if_neg (fun h => by first | exact hc h.2 | exact h.2 hc)]
      exact h3
  · refine v_o0 Try.results46 ⟨rfl, v1, v2, v3, s1, s2, s3, rfl, h1, h2, ?_⟩ ⟨_, inferInstance⟩
    unfold tellText
    rw [if_neg (fun h => hc h.1)]
    exact h3
end Go.Proofs.Ytedemhmlaodblaa
