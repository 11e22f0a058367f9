/- KeyFewest: the walk and its law. -/
import Derived.Test.YtedemhmlaodblaaKlT
namespace Go.Proofs.Ytedemhmlaodblaa
open Go Go.SX Go.RowKit
set_option maxRecDepth 100000
set_option linter.unusedSimpArgs false
set_option linter.unusedVariables false
set_option maxHeartbeats 0
set_option synthInstance.maxSize 100000
set_option synthInstance.maxHeartbeats 400000
theorem LB.ex (b : Int) (l : List ApiKey) : ∃ o, LB l b o := by
  have key : ∀ n, ∃ o, LB (l.take n) b o := by
    intro n
    induction n with
    | zero => exact ⟨none, LB.nil b⟩
    | succ n ih =>
      obtain ⟨o, ho⟩ := ih
      rcases Nat.lt_or_ge n l.length with h | h
      · rw [List.take_add_one, List.getElem?_eq_getElem h]
        by_cases hx : Gd l[n].Base l[n].Step ∧ l[n].Base = b
        · obtain ⟨g, rfl⟩ := hx
          cases o with
          | none => exact ⟨_, ho.take g fun s e => by cases e⟩
          | some s =>
            by_cases hs : l[n].Step < s
            · exact ⟨_, ho.take g fun t e => by cases e; exact hs⟩
            · exact ⟨_, ho.keep (by omega)⟩
        · exact ⟨_, ho.skip fun g e => hx ⟨g, e⟩⟩
      · rw [List.take_of_length_le (by omega)]; rw [List.take_of_length_le h] at ho; exact ⟨o, ho⟩
  obtain ⟨o, h⟩ := key l.length
  rw [List.take_of_length_le (Nat.le_refl _)] at h
  exact ⟨o, h⟩
theorem LeastOf.good {l out : List ApiKey} (h : LeastOf l out) {x : ApiKey} (hx : x ∈ out) : Gd x.Base x.Step := by
  obtain ⟨⟨y, _, g, e1, e2⟩, _⟩ := (h.iff x).1 hx
  rw [← e1, ← e2]; exact g
/-- how many give it -/
def cntG (out : List ApiKey) (x : ApiKey) : Nat := (out.filter fun k => decide (Gv k.Base k.Step x.Base x.Step)).length
theorem cntG_le {out : List ApiKey} (h : (out.map (·.Base)).Pairwise (· < ·)) (x : ApiKey) : cntG out x ≤ 1 := by
  induction out with
  | nil => simp [cntG]
  | cons k out ih =>
    simp only [List.map_cons, List.pairwise_cons] at h
    have := ih h.2
    unfold cntG at this ⊢
    rw [List.filter_cons]
    split
    · rename_i hk
      simp only [decide_eq_true_eq] at hk
      have : out.filter (fun k => decide (Gv k.Base k.Step x.Base x.Step)) = [] := by
        rw [List.filter_eq_nil_iff]
        intro y hy hg
        simp only [decide_eq_true_eq] at hg
        have := h.1 _ (List.mem_map.2 ⟨y, hy, rfl⟩)
        have := hk.2.2.1
        have := hg.2.2.1
        omega
      rw [this]; simp
    · exact this
theorem cntG_one {l out : List ApiKey} (h : LeastOf l out) {x : ApiKey} (hx : x ∈ l) : cntG out x = 1 ↔ Gd x.Base x.Step := by
  have h1 := cntG_le h.up x
  constructor
  · intro he
    unfold cntG at he
    have : 0 < (out.filter fun k => decide (Gv k.Base k.Step x.Base x.Step)).length := by omega
    obtain ⟨y, hy⟩ := List.exists_mem_of_length_pos this
    have := (List.mem_filter.1 hy).2
    simp only [decide_eq_true_eq] at this
    exact this.2.1
  · intro g
    obtain ⟨o, ho⟩ := LB.ex x.Base l
    cases o with
    | none => exact absurd rfl (ho x hx g)
    | some s =>
      have hm : (⟨x.Base, s⟩ : ApiKey) ∈ out := (h.iff _).2 ho
      have hg := h.good hm
      have : (⟨x.Base, s⟩ : ApiKey) ∈ out.filter fun k => decide (Gv k.Base k.Step x.Base x.Step) := List.mem_filter.2 ⟨hm, by
        simp only [decide_eq_true_eq]; exact ⟨hg, g, rfl, ho.2 x hx g rfl⟩⟩
      have := List.length_pos_of_mem this
      unfold cntG at h1 ⊢
      omega
theorem cntG_step (out : List ApiKey) (x : ApiKey) {i : Nat} (h : i < out.length) : cntG (out.take (i + 1)) x = cntG (out.take i) x + (if Gv out[i].Base out[i].Step x.Base x.Step then 1 else 0) := by
  unfold cntG
  rw [List.take_add_one, List.getElem?_eq_getElem h, Option.toList_some, List.filter_append, List.length_append]
  congr 1
  by_cases g : Gv out[i].Base out[i].Step x.Base x.Step
  · rw [if_pos g, List.filter_cons_of_pos (by simpa using g)]; rfl
  · rw [if_neg g, List.filter_cons_of_neg (by simpa using g)]; rfl
theorem LeastOf.same {l l' out : List ApiKey} (h : LeastOf l out) (hm : ∀ x, x ∈ l ↔ x ∈ l') : LeastOf l' out := by
  refine ⟨h.up, fun x => (h.iff x).trans ?_⟩
  unfold LB
  dsimp only
  constructor
  · rintro ⟨⟨y, h1, h2⟩, h3⟩
    exact ⟨⟨y, (hm y).1 h1, h2⟩, fun z hz => h3 z ((hm z).2 hz)⟩
  · rintro ⟨⟨y, h1, h2⟩, h3⟩
    exact ⟨⟨y, (hm y).2 h1, h2⟩, fun z hz => h3 z ((hm z).1 hz)⟩
theorem up_base {l : List ApiKey} (h : (l.map (·.Base)).Pairwise (· < ·)) {x y : ApiKey} (hx : x ∈ l) (hy : y ∈ l) (e : x.Base = y.Base) : x = y := by
  induction l with
  | nil => simp at hx
  | cons z l ih =>
    simp only [List.map_cons, List.pairwise_cons] at h
    rcases List.mem_cons.1 hx with hx' | hx' <;> rcases List.mem_cons.1 hy with hy' | hy'
    · rw [hx', hy']
    · have := h.1 _ (List.mem_map.2 ⟨y, hy', rfl⟩); rw [← hx'] at this; omega
    · have := h.1 _ (List.mem_map.2 ⟨x, hx', rfl⟩); rw [← hy'] at this; omega
    · exact ih h.2 hx' hy'
theorem up_get {l : List ApiKey} (h : (l.map (·.Base)).Pairwise (· < ·)) {j i : Nat} (hj : j < i) (hi : i < l.length) : (l[j]'(by omega)).Base < l[i].Base := by
  have := List.pairwise_iff_getElem.1 h j i (by simp; omega) (by simpa using hi) hj
  simpa using this
structure KfG where
  k : Nat
  bv : Value
  bl : List ApiKey
  bs : Hp
structure KfOk (l : List ApiKey) (g : KfG) : Prop where
  le : g.k ≤ l.length
  own : OwnS g.bv 25 ApiKey 2 cvApiKey g.bl g.bs
  mem : ∀ x, x ∈ g.bl ↔ x ∈ l.drop g.k
  len : g.bl.length + 2 * g.k ≤ 2 * l.length
theorem LeastOf.idem {l out : List ApiKey} (h : LeastOf l out) : LeastOf out out := by
  refine ⟨h.up, fun x => ⟨fun hx => ⟨⟨x, hx, h.good hx, rfl, rfl⟩, fun z hz g e => ?_⟩, ?_⟩⟩
  · rw [up_base h.up hz hx e]; omega
  · rintro ⟨⟨y, h1, _, e1, e2⟩, _⟩
    rwa [(iff_ApiKey x y).2 ⟨e1.symm, e2.symm⟩]
theorem kf_s {uv : Value} {l : List ApiKey} {s : Hp} (hu : AtS uv 25 ApiKey 2 cvApiKey l s) (hb : l.length ≤ 1048576) :
    SX.Spec Try.prog 4 #[uv] [s] [] fun v Γ => v = .bool true ∧ Γ = [] := by
  refine spec_of1 Try.func4 Try.ntmps4 rfl rfl (fun M w0 => ?_)
  repeat' (first | refine stp ?_|(refine v_spT ?_ ?_;omega)|(refine v_spF ?_ ?_;omega)|refine v_spD (fun hc=>?_) (fun hc=>?_)|refine v_spB (fun hc=>?_) (fun hc=>?_)|(refine v_yc ?_ ?_;omega)|refine v_alloc' (fun ba=>?_)|refine v_box (fun bb=>?_)|refine v_lit (fun bl=>?_)|refine v_makeMap (fun bm=>?_)|(refine v_push ?_ (fun sv ss hs hln=>?_);omega)|(refine v_push0 ?_ (fun sv ss hs=>?_);omega)|(refine v_set ?_ (fun ss hs hln=>?_);omega)|(refine v_cat ?_ (fun sv ss hs hln=>?_);omega)|(refine v_cat0 ?_ (fun sv ss hs=>?_);omega)|(refine v_catN ?_ (fun sv ss hs=>?_);omega)|refine v_put (fun sm hm=>?_)|refine v_del (fun sm hm=>?_)|(refine v_sb ?_ (fun su (And.intro hs hln)=>?_);omega)|refine v_1lk (fun lv hlk=>?_) (fun hlk=>?_)|refine v_ment (fun st sm hm hst=>?_)|refine v_esto (fun sm hm=>?_)|refine v_rng (fun ri ti hit=>?_)|refine v_clone (fun bc sc hcl=>?_)|refine v_yw ?_|(refine v_make ?_ (fun sv ss hs hln=>?_);omega)|refine ⟨?_,?_,?_⟩|refine ⟨?_,?_⟩|(refine v_tyc ?_ ?_;omega)|(refine v_tycT (by decide +kernel) ?_ ?_;omega)|refine v_tValT (by decide +kernel) ?_|(refine v_tsb ?_ (fun su (And.intro hs hln)=>?_);omega)|refine v_tlk (fun lv hlk=>?_) (fun hlk=>?_)|refine v_tlkT (by decide +kernel) (fun lv hlk=>?_) (fun hlk=>?_)|refine v_tyw ?_|refine v_drawn0 (id:=7) pl4_7 (by kernel_rfl) ?_|refine v_drawnK (id:=14) 10 pl4_14 (by kernel_rfl) ?_|refine v_drawn0 (id:=19) pl4_19 (by kernel_rfl) ?_|fail)
  refine v_callR (least_s hu (by omega)) ?_
  rintro vl Γ' ⟨out, os, hout, rfl, hlo, hol⟩
  (try dsimp only [List.cons_append, List.nil_append])
  repeat' (first | refine stp ?_|(refine v_spT ?_ ?_;omega)|(refine v_spF ?_ ?_;omega)|refine v_spD (fun hc=>?_) (fun hc=>?_)|refine v_spB (fun hc=>?_) (fun hc=>?_)|(refine v_yc ?_ ?_;omega)|refine v_alloc' (fun ba=>?_)|refine v_box (fun bb=>?_)|refine v_lit (fun bl=>?_)|refine v_makeMap (fun bm=>?_)|(refine v_push ?_ (fun sv ss hs hln=>?_);omega)|(refine v_push0 ?_ (fun sv ss hs=>?_);omega)|(refine v_set ?_ (fun ss hs hln=>?_);omega)|(refine v_cat ?_ (fun sv ss hs hln=>?_);omega)|(refine v_cat0 ?_ (fun sv ss hs=>?_);omega)|(refine v_catN ?_ (fun sv ss hs=>?_);omega)|refine v_put (fun sm hm=>?_)|refine v_del (fun sm hm=>?_)|(refine v_sb ?_ (fun su (And.intro hs hln)=>?_);omega)|refine v_1lk (fun lv hlk=>?_) (fun hlk=>?_)|refine v_ment (fun st sm hm hst=>?_)|refine v_esto (fun sm hm=>?_)|refine v_rng (fun ri ti hit=>?_)|refine v_clone (fun bc sc hcl=>?_)|refine v_yw ?_|(refine v_make ?_ (fun sv ss hs hln=>?_);omega)|refine ⟨?_,?_,?_⟩|refine ⟨?_,?_⟩|(refine v_tyc ?_ ?_;omega)|(refine v_tycT (by decide +kernel) ?_ ?_;omega)|refine v_tValT (by decide +kernel) ?_|(refine v_tsb ?_ (fun su (And.intro hs hln)=>?_);omega)|refine v_tlk (fun lv hlk=>?_) (fun hlk=>?_)|refine v_tlkT (by decide +kernel) (fun lv hlk=>?_) (fun hlk=>?_)|refine v_tyw ?_|refine v_drawn0 (id:=7) pl4_7 (by kernel_rfl) ?_|refine v_drawnK (id:=14) 10 pl4_14 (by kernel_rfl) ?_|refine v_drawn0 (id:=19) pl4_19 (by kernel_rfl) ?_|fail)
  refine v_lp [17] [0, 3, 15, 16] (fun i : Nat => [.int .i64 i]) (fun _ => []) (fun i => i ≤ out.length) (fun i => out.length - i) 0 (fun _ => rfl) rfl inferInstance (Nat.zero_le _) ?_
  rintro i hi
  (try dsimp only [zipE_c, zipE_n, List.cons_append, List.nil_append])
  rcases Nat.lt_or_ge i out.length with hlt | hge
  · have hg : Gd out[i].Base out[i].Step := hlo.good (List.getElem_mem _)
    have hup : ∀ h0 : 0 < i, (out[((i : Int) - 1).toNat]'(by omega)).Base < out[i].Base := fun h0 => up_get hlo.up (by omega) hlt
    repeat' (first | refine stp ?_|(refine v_spT ?_ ?_;omega)|(refine v_spF ?_ ?_;omega)|refine v_spD (fun hc=>?_) (fun hc=>?_)|refine v_spB (fun hc=>?_) (fun hc=>?_)|(refine v_yc ?_ ?_;omega)|refine v_alloc' (fun ba=>?_)|refine v_box (fun bb=>?_)|refine v_lit (fun bl=>?_)|refine v_makeMap (fun bm=>?_)|(refine v_push ?_ (fun sv ss hs hln=>?_);omega)|(refine v_push0 ?_ (fun sv ss hs=>?_);omega)|(refine v_set ?_ (fun ss hs hln=>?_);omega)|(refine v_cat ?_ (fun sv ss hs hln=>?_);omega)|(refine v_cat0 ?_ (fun sv ss hs=>?_);omega)|(refine v_catN ?_ (fun sv ss hs=>?_);omega)|refine v_put (fun sm hm=>?_)|refine v_del (fun sm hm=>?_)|(refine v_sb ?_ (fun su (And.intro hs hln)=>?_);omega)|refine v_1lk (fun lv hlk=>?_) (fun hlk=>?_)|refine v_ment (fun st sm hm hst=>?_)|refine v_esto (fun sm hm=>?_)|refine v_rng (fun ri ti hit=>?_)|refine v_clone (fun bc sc hcl=>?_)|refine v_yw ?_|(refine v_make ?_ (fun sv ss hs hln=>?_);omega)|refine ⟨?_,?_,?_⟩|refine ⟨?_,?_⟩|(refine v_tyc ?_ ?_;omega)|(refine v_tycT (by decide +kernel) ?_ ?_;omega)|refine v_tValT (by decide +kernel) ?_|(refine v_tsb ?_ (fun su (And.intro hs hln)=>?_);omega)|refine v_tlk (fun lv hlk=>?_) (fun hlk=>?_)|refine v_tlkT (by decide +kernel) (fun lv hlk=>?_) (fun hlk=>?_)|refine v_tyw ?_|refine v_drawn0 (id:=7) pl4_7 (by kernel_rfl) ?_|refine v_drawnK (id:=14) 10 pl4_14 (by kernel_rfl) ?_|refine v_drawn0 (id:=19) pl4_19 (by kernel_rfl) ?_|fail)
    · exact absurd hg hc
    · exact absurd (hup (by omega)) (by omega)
    · exact v_again (i + 1) (by omega) rfl inferInstance (by omega)
    · exact v_again (i + 1) (by omega) rfl inferInstance (by omega)
  repeat' (first | refine stp ?_|(refine v_spT ?_ ?_;omega)|(refine v_spF ?_ ?_;omega)|refine v_spD (fun hc=>?_) (fun hc=>?_)|refine v_spB (fun hc=>?_) (fun hc=>?_)|(refine v_yc ?_ ?_;omega)|refine v_alloc' (fun ba=>?_)|refine v_box (fun bb=>?_)|refine v_lit (fun bl=>?_)|refine v_makeMap (fun bm=>?_)|(refine v_push ?_ (fun sv ss hs hln=>?_);omega)|(refine v_push0 ?_ (fun sv ss hs=>?_);omega)|(refine v_set ?_ (fun ss hs hln=>?_);omega)|(refine v_cat ?_ (fun sv ss hs hln=>?_);omega)|(refine v_cat0 ?_ (fun sv ss hs=>?_);omega)|(refine v_catN ?_ (fun sv ss hs=>?_);omega)|refine v_put (fun sm hm=>?_)|refine v_del (fun sm hm=>?_)|(refine v_sb ?_ (fun su (And.intro hs hln)=>?_);omega)|refine v_1lk (fun lv hlk=>?_) (fun hlk=>?_)|refine v_ment (fun st sm hm hst=>?_)|refine v_esto (fun sm hm=>?_)|refine v_rng (fun ri ti hit=>?_)|refine v_clone (fun bc sc hcl=>?_)|refine v_yw ?_|(refine v_make ?_ (fun sv ss hs hln=>?_);omega)|refine ⟨?_,?_,?_⟩|refine ⟨?_,?_⟩|(refine v_tyc ?_ ?_;omega)|(refine v_tycT (by decide +kernel) ?_ ?_;omega)|refine v_tValT (by decide +kernel) ?_|(refine v_tsb ?_ (fun su (And.intro hs hln)=>?_);omega)|refine v_tlk (fun lv hlk=>?_) (fun hlk=>?_)|refine v_tlkT (by decide +kernel) (fun lv hlk=>?_) (fun hlk=>?_)|refine v_tyw ?_|refine v_drawn0 (id:=7) pl4_7 (by kernel_rfl) ?_|refine v_drawnK (id:=14) 10 pl4_14 (by kernel_rfl) ?_|refine v_drawn0 (id:=19) pl4_19 (by kernel_rfl) ?_|fail)
  refine v_lp [6, 7] [0, 3] (fun g : KfG => [g.bv, .int .i64 ((g.k : Int) - 1)]) (fun g => [g.bs]) (KfOk l) (fun g => g.k) ⟨l.length, .slice none 0 0, [], []⟩ (fun _ => rfl) rfl inferInstance
    ⟨Nat.le_refl _, OwnS.nil, by simp, by simp⟩ ?_
  clear hi hge
  rintro ⟨k, bv, kl, bs⟩ ⟨hk, hbv, hmem, hlen⟩
  dsimp only at hk hbv hmem hlen ⊢
  (try dsimp only [zipE_c, zipE_n, List.cons_append, List.nil_append])
  cases k with
  | succ k =>
    rw [show ((k + 1 : Nat) : Int) - 1 = (k : Int) by omega]
    have hlit : ∀ b : Nat, AtS (.slice (some ⟨b, 0, none⟩) 2 2) 25 ApiKey 2 cvApiKey [l[k], l[k]] [(b, .cells #[.int .i64 l[k].Base, .int .i64 l[k].Step, .int .i64 l[k].Base, .int .i64 l[k].Step] 25 (0, 0))] := fun b => ownAt (h := OwnS.lit (cs := #[.int .i64 l[k].Base, .int .i64 l[k].Step, .int .i64 l[k].Base, .int .i64 l[k].Step]) (cv := cvApiKey) 2 [l[k], l[k]] rfl rfl (by decide) rfl)
    have hstop14 := @stopR Try.prog 14
    repeat' (first | refine stp ?_|(refine v_spT ?_ ?_;omega)|(refine v_spF ?_ ?_;omega)|refine v_spD (fun hc=>?_) (fun hc=>?_)|refine v_spB (fun hc=>?_) (fun hc=>?_)|(refine v_yc ?_ ?_;omega)|refine v_alloc' (fun ba=>?_)|refine v_box (fun bb=>?_)|refine v_lit (fun bl=>?_)|refine v_makeMap (fun bm=>?_)|(refine v_push ?_ (fun sv ss hs hln=>?_);omega)|(refine v_push0 ?_ (fun sv ss hs=>?_);omega)|(refine v_set ?_ (fun ss hs hln=>?_);omega)|(refine v_cat ?_ (fun sv ss hs hln=>?_);omega)|(refine v_cat0 ?_ (fun sv ss hs=>?_);omega)|(refine v_catN ?_ (fun sv ss hs=>?_);omega)|refine v_put (fun sm hm=>?_)|refine v_del (fun sm hm=>?_)|(refine v_sb ?_ (fun su (And.intro hs hln)=>?_);omega)|refine v_1lk (fun lv hlk=>?_) (fun hlk=>?_)|refine v_ment (fun st sm hm hst=>?_)|refine v_esto (fun sm hm=>?_)|refine v_rng (fun ri ti hit=>?_)|refine v_clone (fun bc sc hcl=>?_)|refine v_yw ?_|(refine v_make ?_ (fun sv ss hs hln=>?_);omega)|refine ⟨?_,?_,?_⟩|refine ⟨?_,?_⟩|(refine v_tyc ?_ ?_;omega)|(refine v_tycT (by decide +kernel) ?_ ?_;omega)|refine v_tValT (by decide +kernel) ?_|(refine v_tsb ?_ (fun su (And.intro hs hln)=>?_);omega)|refine v_tlk (fun lv hlk=>?_) (fun hlk=>?_)|refine v_tlkT (by decide +kernel) (fun lv hlk=>?_) (fun hlk=>?_)|refine v_tyw ?_|refine v_drawn0 (id:=7) pl4_7 (by kernel_rfl) ?_|refine v_drawnK (id:=14) 10 pl4_14 (by kernel_rfl) ?_|refine v_drawn0 (id:=19) pl4_19 (by kernel_rfl) ?_|fail)
    refine Stopped.go <| v_ctR 14 [6] [0, 3, 7] (fun x : Value × Hp => [x.1]) (fun x => [x.2, os]) (fun x => OwnS x.1 25 ApiKey 2 cvApiKey (kl ++ [l[k], l[k]]) x.2) (fun _ => rfl) ?_ ?_
    · (try dsimp only [zipE_c, zipE_n, List.cons_append, List.nil_append])
      repeat' (first | refine stp ?_|(refine v_spT ?_ ?_;omega)|(refine v_spF ?_ ?_;omega)|refine v_spD (fun hc=>?_) (fun hc=>?_)|refine v_spB (fun hc=>?_) (fun hc=>?_)|(refine v_yc ?_ ?_;omega)|refine v_alloc' (fun ba=>?_)|refine v_box (fun bb=>?_)|refine v_lit (fun bl=>?_)|refine v_makeMap (fun bm=>?_)|(refine v_push ?_ (fun sv ss hs hln=>?_);omega)|(refine v_push0 ?_ (fun sv ss hs=>?_);omega)|(refine v_set ?_ (fun ss hs hln=>?_);omega)|(refine v_cat ?_ (fun sv ss hs hln=>?_);omega)|(refine v_cat0 ?_ (fun sv ss hs=>?_);omega)|(refine v_catN ?_ (fun sv ss hs=>?_);omega)|refine v_put (fun sm hm=>?_)|refine v_del (fun sm hm=>?_)|(refine v_sb ?_ (fun su (And.intro hs hln)=>?_);omega)|refine v_1lk (fun lv hlk=>?_) (fun hlk=>?_)|refine v_ment (fun st sm hm hst=>?_)|refine v_esto (fun sm hm=>?_)|refine v_rng (fun ri ti hit=>?_)|refine v_clone (fun bc sc hcl=>?_)|refine v_yw ?_|(refine v_make ?_ (fun sv ss hs hln=>?_);omega)|refine ⟨?_,?_,?_⟩|refine ⟨?_,?_⟩|(refine v_tyc ?_ ?_;omega)|(refine v_tycT (by decide +kernel) ?_ ?_;omega)|refine v_tValT (by decide +kernel) ?_|(refine v_tsb ?_ (fun su (And.intro hs hln)=>?_);omega)|refine v_tlk (fun lv hlk=>?_) (fun hlk=>?_)|refine v_tlkT (by decide +kernel) (fun lv hlk=>?_) (fun hlk=>?_)|refine v_tyw ?_|refine v_drawn0 (id:=7) pl4_7 (by kernel_rfl) ?_|refine v_drawnK (id:=14) 10 pl4_14 (by kernel_rfl) ?_|refine v_drawn0 (id:=19) pl4_19 (by kernel_rfl) ?_|fail)
      all_goals
        refine v_cat (hu := hlit _) (by simp only [List.length_cons, List.length_nil]; omega) (fun sv ss hs hln => ?_)
      repeat' (first | refine stp ?_|(refine v_spT ?_ ?_;omega)|(refine v_spF ?_ ?_;omega)|refine v_spD (fun hc=>?_) (fun hc=>?_)|refine v_spB (fun hc=>?_) (fun hc=>?_)|(refine v_yc ?_ ?_;omega)|refine v_alloc' (fun ba=>?_)|refine v_box (fun bb=>?_)|refine v_lit (fun bl=>?_)|refine v_makeMap (fun bm=>?_)|(refine v_push ?_ (fun sv ss hs hln=>?_);omega)|(refine v_push0 ?_ (fun sv ss hs=>?_);omega)|(refine v_set ?_ (fun ss hs hln=>?_);omega)|(refine v_cat ?_ (fun sv ss hs hln=>?_);omega)|(refine v_cat0 ?_ (fun sv ss hs=>?_);omega)|(refine v_catN ?_ (fun sv ss hs=>?_);omega)|refine v_put (fun sm hm=>?_)|refine v_del (fun sm hm=>?_)|(refine v_sb ?_ (fun su (And.intro hs hln)=>?_);omega)|refine v_1lk (fun lv hlk=>?_) (fun hlk=>?_)|refine v_ment (fun st sm hm hst=>?_)|refine v_esto (fun sm hm=>?_)|refine v_rng (fun ri ti hit=>?_)|refine v_clone (fun bc sc hcl=>?_)|refine v_yw ?_|(refine v_make ?_ (fun sv ss hs hln=>?_);omega)|refine ⟨?_,?_,?_⟩|refine ⟨?_,?_⟩|(refine v_tyc ?_ ?_;omega)|(refine v_tycT (by decide +kernel) ?_ ?_;omega)|refine v_tValT (by decide +kernel) ?_|(refine v_tsb ?_ (fun su (And.intro hs hln)=>?_);omega)|refine v_tlk (fun lv hlk=>?_) (fun hlk=>?_)|refine v_tlkT (by decide +kernel) (fun lv hlk=>?_) (fun hlk=>?_)|refine v_tyw ?_|refine v_drawn0 (id:=7) pl4_7 (by kernel_rfl) ?_|refine v_drawnK (id:=14) 10 pl4_14 (by kernel_rfl) ?_|refine v_drawn0 (id:=19) pl4_19 (by kernel_rfl) ?_|fail)
      all_goals exact v_here ⟨sv, ss⟩ rfl inferInstance hs
    clear hlit
    rintro ⟨sv, ss⟩ hs
    dsimp only at hs ⊢
    (try dsimp only [zipE_c, zipE_n, List.cons_append, List.nil_append])
    repeat' (first | refine stp ?_|(refine v_spT ?_ ?_;omega)|(refine v_spF ?_ ?_;omega)|refine v_spD (fun hc=>?_) (fun hc=>?_)|refine v_spB (fun hc=>?_) (fun hc=>?_)|(refine v_yc ?_ ?_;omega)|refine v_alloc' (fun ba=>?_)|refine v_box (fun bb=>?_)|refine v_lit (fun bl=>?_)|refine v_makeMap (fun bm=>?_)|(refine v_push ?_ (fun sv ss hs hln=>?_);omega)|(refine v_push0 ?_ (fun sv ss hs=>?_);omega)|(refine v_set ?_ (fun ss hs hln=>?_);omega)|(refine v_cat ?_ (fun sv ss hs hln=>?_);omega)|(refine v_cat0 ?_ (fun sv ss hs=>?_);omega)|(refine v_catN ?_ (fun sv ss hs=>?_);omega)|refine v_put (fun sm hm=>?_)|refine v_del (fun sm hm=>?_)|(refine v_sb ?_ (fun su (And.intro hs hln)=>?_);omega)|refine v_1lk (fun lv hlk=>?_) (fun hlk=>?_)|refine v_ment (fun st sm hm hst=>?_)|refine v_esto (fun sm hm=>?_)|refine v_rng (fun ri ti hit=>?_)|refine v_clone (fun bc sc hcl=>?_)|refine v_yw ?_|(refine v_make ?_ (fun sv ss hs hln=>?_);omega)|refine ⟨?_,?_,?_⟩|refine ⟨?_,?_⟩|(refine v_tyc ?_ ?_;omega)|(refine v_tycT (by decide +kernel) ?_ ?_;omega)|refine v_tValT (by decide +kernel) ?_|(refine v_tsb ?_ (fun su (And.intro hs hln)=>?_);omega)|refine v_tlk (fun lv hlk=>?_) (fun hlk=>?_)|refine v_tlkT (by decide +kernel) (fun lv hlk=>?_) (fun hlk=>?_)|refine v_tyw ?_|refine v_drawn0 (id:=7) pl4_7 (by kernel_rfl) ?_|refine v_drawnK (id:=14) 10 pl4_14 (by kernel_rfl) ?_|refine v_drawn0 (id:=19) pl4_19 (by kernel_rfl) ?_|fail)
    refine v_lp [8, 61] [0, 3, 6, 7, 59, 60] (fun i : Nat => [.int .i64 (cntG (out.take i) l[k] : Nat), .int .i64 i]) (fun _ => []) (fun i => i ≤ out.length) (fun i => out.length - i) 0 (fun _ => rfl) rfl inferInstance (Nat.zero_le _) ?_
    rintro i hi
    (try dsimp only [zipE_c, zipE_n, List.cons_append, List.nil_append])
    have hc1 := cntG_le hlo.up l[k]
    have hc3 : cntG (out.take i) l[k] ≤ 1 := cntG_le (by rw [List.map_take]; exact hlo.up.sublist (List.take_sublist _ _)) _
    have hc2 := cntG_one hlo (x := l[k]) (List.getElem_mem _)
    rcases Nat.lt_or_ge i out.length with hlt | hge
    · have hst := cntG_step out l[k] hlt
      repeat' (first | refine stp ?_|(refine v_spT ?_ ?_;omega)|(refine v_spF ?_ ?_;omega)|refine v_spD (fun hc=>?_) (fun hc=>?_)|refine v_spB (fun hc=>?_) (fun hc=>?_)|(refine v_yc ?_ ?_;omega)|refine v_alloc' (fun ba=>?_)|refine v_box (fun bb=>?_)|refine v_lit (fun bl=>?_)|refine v_makeMap (fun bm=>?_)|(refine v_push ?_ (fun sv ss hs hln=>?_);omega)|(refine v_push0 ?_ (fun sv ss hs=>?_);omega)|(refine v_set ?_ (fun ss hs hln=>?_);omega)|(refine v_cat ?_ (fun sv ss hs hln=>?_);omega)|(refine v_cat0 ?_ (fun sv ss hs=>?_);omega)|(refine v_catN ?_ (fun sv ss hs=>?_);omega)|refine v_put (fun sm hm=>?_)|refine v_del (fun sm hm=>?_)|(refine v_sb ?_ (fun su (And.intro hs hln)=>?_);omega)|refine v_1lk (fun lv hlk=>?_) (fun hlk=>?_)|refine v_ment (fun st sm hm hst=>?_)|refine v_esto (fun sm hm=>?_)|refine v_rng (fun ri ti hit=>?_)|refine v_clone (fun bc sc hcl=>?_)|refine v_yw ?_|(refine v_make ?_ (fun sv ss hs hln=>?_);omega)|refine ⟨?_,?_,?_⟩|refine ⟨?_,?_⟩|(refine v_tyc ?_ ?_;omega)|(refine v_tycT (by decide +kernel) ?_ ?_;omega)|refine v_tValT (by decide +kernel) ?_|(refine v_tsb ?_ (fun su (And.intro hs hln)=>?_);omega)|refine v_tlk (fun lv hlk=>?_) (fun hlk=>?_)|refine v_tlkT (by decide +kernel) (fun lv hlk=>?_) (fun hlk=>?_)|refine v_tyw ?_|refine v_drawn0 (id:=7) pl4_7 (by kernel_rfl) ?_|refine v_drawnK (id:=14) 10 pl4_14 (by kernel_rfl) ?_|refine v_drawn0 (id:=19) pl4_19 (by kernel_rfl) ?_|fail)
      · exact v_again (i + 1) (by omega) (by rw [hst, if_pos hc]; rfl) inferInstance (by omega)
      · exact v_again (i + 1) (by omega) (by rw [hst, if_neg hc]; rfl) inferInstance (by omega)
    · have e : cntG (out.take i) l[k] = cntG out l[k] := by rw [List.take_of_length_le hge]
      rw [e] at hc3 ⊢
      repeat' (first | refine stp ?_|(refine v_spT ?_ ?_;omega)|(refine v_spF ?_ ?_;omega)|refine v_spD (fun hc=>?_) (fun hc=>?_)|refine v_spB (fun hc=>?_) (fun hc=>?_)|(refine v_yc ?_ ?_;omega)|refine v_alloc' (fun ba=>?_)|refine v_box (fun bb=>?_)|refine v_lit (fun bl=>?_)|refine v_makeMap (fun bm=>?_)|(refine v_push ?_ (fun sv ss hs hln=>?_);omega)|(refine v_push0 ?_ (fun sv ss hs=>?_);omega)|(refine v_set ?_ (fun ss hs hln=>?_);omega)|(refine v_cat ?_ (fun sv ss hs hln=>?_);omega)|(refine v_cat0 ?_ (fun sv ss hs=>?_);omega)|(refine v_catN ?_ (fun sv ss hs=>?_);omega)|refine v_put (fun sm hm=>?_)|refine v_del (fun sm hm=>?_)|(refine v_sb ?_ (fun su (And.intro hs hln)=>?_);omega)|refine v_1lk (fun lv hlk=>?_) (fun hlk=>?_)|refine v_ment (fun st sm hm hst=>?_)|refine v_esto (fun sm hm=>?_)|refine v_rng (fun ri ti hit=>?_)|refine v_clone (fun bc sc hcl=>?_)|refine v_yw ?_|(refine v_make ?_ (fun sv ss hs hln=>?_);omega)|refine ⟨?_,?_,?_⟩|refine ⟨?_,?_⟩|(refine v_tyc ?_ ?_;omega)|(refine v_tycT (by decide +kernel) ?_ ?_;omega)|refine v_tValT (by decide +kernel) ?_|(refine v_tsb ?_ (fun su (And.intro hs hln)=>?_);omega)|refine v_tlk (fun lv hlk=>?_) (fun hlk=>?_)|refine v_tlkT (by decide +kernel) (fun lv hlk=>?_) (fun hlk=>?_)|refine v_tyw ?_|refine v_drawn0 (id:=7) pl4_7 (by kernel_rfl) ?_|refine v_drawnK (id:=14) 10 pl4_14 (by kernel_rfl) ?_|refine v_drawn0 (id:=19) pl4_19 (by kernel_rfl) ?_|fail)
      · exfalso
        by_cases g : Gd l[k].Base l[k].Step
        · simp [g, hc2.2 g] at hc
        · have : ¬ cntG out l[k] = 1 := fun h => g (hc2.1 h)
          simp [g] at hc; omega
      · refine v_again ⟨k, sv, _, ss⟩ (by dsimp only; omega) rfl inferInstance ⟨by dsimp only; omega, hs, fun x => ?_, by dsimp only; simp only [List.length_append, List.length_cons, List.length_nil]; omega⟩
        dsimp only
        rw [List.drop_eq_getElem_cons (i := k) (by omega), List.mem_cons, List.mem_append, hmem]
        simp only [List.mem_cons, List.not_mem_nil, or_false]
        constructor
        · rintro (h | h | h)
          · exact .inr h
          · exact .inl h
          · exact .inl h
        · rintro (h | h)
          · exact .inr (.inl h)
          · exact .inl h
  | zero =>
    repeat' (first | refine stp ?_|(refine v_spT ?_ ?_;omega)|(refine v_spF ?_ ?_;omega)|refine v_spD (fun hc=>?_) (fun hc=>?_)|refine v_spB (fun hc=>?_) (fun hc=>?_)|(refine v_yc ?_ ?_;omega)|refine v_alloc' (fun ba=>?_)|refine v_box (fun bb=>?_)|refine v_lit (fun bl=>?_)|refine v_makeMap (fun bm=>?_)|(refine v_push ?_ (fun sv ss hs hln=>?_);omega)|(refine v_push0 ?_ (fun sv ss hs=>?_);omega)|(refine v_set ?_ (fun ss hs hln=>?_);omega)|(refine v_cat ?_ (fun sv ss hs hln=>?_);omega)|(refine v_cat0 ?_ (fun sv ss hs=>?_);omega)|(refine v_catN ?_ (fun sv ss hs=>?_);omega)|refine v_put (fun sm hm=>?_)|refine v_del (fun sm hm=>?_)|(refine v_sb ?_ (fun su (And.intro hs hln)=>?_);omega)|refine v_1lk (fun lv hlk=>?_) (fun hlk=>?_)|refine v_ment (fun st sm hm hst=>?_)|refine v_esto (fun sm hm=>?_)|refine v_rng (fun ri ti hit=>?_)|refine v_clone (fun bc sc hcl=>?_)|refine v_yw ?_|(refine v_make ?_ (fun sv ss hs hln=>?_);omega)|refine ⟨?_,?_,?_⟩|refine ⟨?_,?_⟩|(refine v_tyc ?_ ?_;omega)|(refine v_tycT (by decide +kernel) ?_ ?_;omega)|refine v_tValT (by decide +kernel) ?_|(refine v_tsb ?_ (fun su (And.intro hs hln)=>?_);omega)|refine v_tlk (fun lv hlk=>?_) (fun hlk=>?_)|refine v_tlkT (by decide +kernel) (fun lv hlk=>?_) (fun hlk=>?_)|refine v_tyw ?_|refine v_drawn0 (id:=7) pl4_7 (by kernel_rfl) ?_|refine v_drawnK (id:=14) 10 pl4_14 (by kernel_rfl) ?_|refine v_drawn0 (id:=19) pl4_19 (by kernel_rfl) ?_|fail)
    refine v_callR (least_s (ownAt (h := hbv)) (by omega)) ?_
    rintro va Γ' ⟨ka, sa, ha, rfl, hla, _⟩
    obtain rfl := hla.uniq (hlo.same fun x => ((hmem x).trans (by rw [List.drop_zero])).symm)
    (try dsimp only [List.cons_append, List.nil_append])
    repeat' (first | refine stp ?_|(refine v_spT ?_ ?_;omega)|(refine v_spF ?_ ?_;omega)|refine v_spD (fun hc=>?_) (fun hc=>?_)|refine v_spB (fun hc=>?_) (fun hc=>?_)|(refine v_yc ?_ ?_;omega)|refine v_alloc' (fun ba=>?_)|refine v_box (fun bb=>?_)|refine v_lit (fun bl=>?_)|refine v_makeMap (fun bm=>?_)|(refine v_push ?_ (fun sv ss hs hln=>?_);omega)|(refine v_push0 ?_ (fun sv ss hs=>?_);omega)|(refine v_set ?_ (fun ss hs hln=>?_);omega)|(refine v_cat ?_ (fun sv ss hs hln=>?_);omega)|(refine v_cat0 ?_ (fun sv ss hs=>?_);omega)|(refine v_catN ?_ (fun sv ss hs=>?_);omega)|refine v_put (fun sm hm=>?_)|refine v_del (fun sm hm=>?_)|(refine v_sb ?_ (fun su (And.intro hs hln)=>?_);omega)|refine v_1lk (fun lv hlk=>?_) (fun hlk=>?_)|refine v_ment (fun st sm hm hst=>?_)|refine v_esto (fun sm hm=>?_)|refine v_rng (fun ri ti hit=>?_)|refine v_clone (fun bc sc hcl=>?_)|refine v_yw ?_|(refine v_make ?_ (fun sv ss hs hln=>?_);omega)|refine ⟨?_,?_,?_⟩|refine ⟨?_,?_⟩|(refine v_tyc ?_ ?_;omega)|(refine v_tycT (by decide +kernel) ?_ ?_;omega)|refine v_tValT (by decide +kernel) ?_|(refine v_tsb ?_ (fun su (And.intro hs hln)=>?_);omega)|refine v_tlk (fun lv hlk=>?_) (fun hlk=>?_)|refine v_tlkT (by decide +kernel) (fun lv hlk=>?_) (fun hlk=>?_)|refine v_tyw ?_|refine v_drawn0 (id:=7) pl4_7 (by kernel_rfl) ?_|refine v_drawnK (id:=14) 10 pl4_14 (by kernel_rfl) ?_|refine v_drawn0 (id:=19) pl4_19 (by kernel_rfl) ?_|fail)
    refine v_callR (same_s (ownAt (h := ha)) (ownAt (h := hout))) ?_
    rintro v Γ' ⟨rfl, rfl⟩
    rw [decide_eq_true rfl]
    (try dsimp only [List.cons_append, List.nil_append])
    repeat' (first | refine stp ?_|(refine v_spT ?_ ?_;omega)|(refine v_spF ?_ ?_;omega)|refine v_spD (fun hc=>?_) (fun hc=>?_)|refine v_spB (fun hc=>?_) (fun hc=>?_)|(refine v_yc ?_ ?_;omega)|refine v_alloc' (fun ba=>?_)|refine v_box (fun bb=>?_)|refine v_lit (fun bl=>?_)|refine v_makeMap (fun bm=>?_)|(refine v_push ?_ (fun sv ss hs hln=>?_);omega)|(refine v_push0 ?_ (fun sv ss hs=>?_);omega)|(refine v_set ?_ (fun ss hs hln=>?_);omega)|(refine v_cat ?_ (fun sv ss hs hln=>?_);omega)|(refine v_cat0 ?_ (fun sv ss hs=>?_);omega)|(refine v_catN ?_ (fun sv ss hs=>?_);omega)|refine v_put (fun sm hm=>?_)|refine v_del (fun sm hm=>?_)|(refine v_sb ?_ (fun su (And.intro hs hln)=>?_);omega)|refine v_1lk (fun lv hlk=>?_) (fun hlk=>?_)|refine v_ment (fun st sm hm hst=>?_)|refine v_esto (fun sm hm=>?_)|refine v_rng (fun ri ti hit=>?_)|refine v_clone (fun bc sc hcl=>?_)|refine v_yw ?_|(refine v_make ?_ (fun sv ss hs hln=>?_);omega)|refine ⟨?_,?_,?_⟩|refine ⟨?_,?_⟩|(refine v_tyc ?_ ?_;omega)|(refine v_tycT (by decide +kernel) ?_ ?_;omega)|refine v_tValT (by decide +kernel) ?_|(refine v_tsb ?_ (fun su (And.intro hs hln)=>?_);omega)|refine v_tlk (fun lv hlk=>?_) (fun hlk=>?_)|refine v_tlkT (by decide +kernel) (fun lv hlk=>?_) (fun hlk=>?_)|refine v_tyw ?_|refine v_drawn0 (id:=7) pl4_7 (by kernel_rfl) ?_|refine v_drawnK (id:=14) 10 pl4_14 (by kernel_rfl) ?_|refine v_drawn0 (id:=19) pl4_19 (by kernel_rfl) ?_|fail)
    refine v_callR (least_s (ownAt (h := hout)) (by omega)) ?_
    rintro vb Γ' ⟨kb, sb, hb', rfl, hlb, _⟩
    obtain rfl := hlb.uniq hlo.idem
    (try dsimp only [List.cons_append, List.nil_append])
    repeat' (first | refine stp ?_|(refine v_spT ?_ ?_;omega)|(refine v_spF ?_ ?_;omega)|refine v_spD (fun hc=>?_) (fun hc=>?_)|refine v_spB (fun hc=>?_) (fun hc=>?_)|(refine v_yc ?_ ?_;omega)|refine v_alloc' (fun ba=>?_)|refine v_box (fun bb=>?_)|refine v_lit (fun bl=>?_)|refine v_makeMap (fun bm=>?_)|(refine v_push ?_ (fun sv ss hs hln=>?_);omega)|(refine v_push0 ?_ (fun sv ss hs=>?_);omega)|(refine v_set ?_ (fun ss hs hln=>?_);omega)|(refine v_cat ?_ (fun sv ss hs hln=>?_);omega)|(refine v_cat0 ?_ (fun sv ss hs=>?_);omega)|(refine v_catN ?_ (fun sv ss hs=>?_);omega)|refine v_put (fun sm hm=>?_)|refine v_del (fun sm hm=>?_)|(refine v_sb ?_ (fun su (And.intro hs hln)=>?_);omega)|refine v_1lk (fun lv hlk=>?_) (fun hlk=>?_)|refine v_ment (fun st sm hm hst=>?_)|refine v_esto (fun sm hm=>?_)|refine v_rng (fun ri ti hit=>?_)|refine v_clone (fun bc sc hcl=>?_)|refine v_yw ?_|(refine v_make ?_ (fun sv ss hs hln=>?_);omega)|refine ⟨?_,?_,?_⟩|refine ⟨?_,?_⟩|(refine v_tyc ?_ ?_;omega)|(refine v_tycT (by decide +kernel) ?_ ?_;omega)|refine v_tValT (by decide +kernel) ?_|(refine v_tsb ?_ (fun su (And.intro hs hln)=>?_);omega)|refine v_tlk (fun lv hlk=>?_) (fun hlk=>?_)|refine v_tlkT (by decide +kernel) (fun lv hlk=>?_) (fun hlk=>?_)|refine v_tyw ?_|refine v_drawn0 (id:=7) pl4_7 (by kernel_rfl) ?_|refine v_drawnK (id:=14) 10 pl4_14 (by kernel_rfl) ?_|refine v_drawn0 (id:=19) pl4_19 (by kernel_rfl) ?_|fail)
    refine v_callR (same_s (ownAt (h := hb')) (ownAt (h := hout))) ?_
    rintro v Γ' ⟨rfl, rfl⟩
    rw [decide_eq_true rfl]
    (try dsimp only [List.cons_append, List.nil_append])
    repeat' (first | refine stp ?_|(refine v_spT ?_ ?_;omega)|(refine v_spF ?_ ?_;omega)|refine v_spD (fun hc=>?_) (fun hc=>?_)|refine v_spB (fun hc=>?_) (fun hc=>?_)|(refine v_yc ?_ ?_;omega)|refine v_alloc' (fun ba=>?_)|refine v_box (fun bb=>?_)|refine v_lit (fun bl=>?_)|refine v_makeMap (fun bm=>?_)|(refine v_push ?_ (fun sv ss hs hln=>?_);omega)|(refine v_push0 ?_ (fun sv ss hs=>?_);omega)|(refine v_set ?_ (fun ss hs hln=>?_);omega)|(refine v_cat ?_ (fun sv ss hs hln=>?_);omega)|(refine v_cat0 ?_ (fun sv ss hs=>?_);omega)|(refine v_catN ?_ (fun sv ss hs=>?_);omega)|refine v_put (fun sm hm=>?_)|refine v_del (fun sm hm=>?_)|(refine v_sb ?_ (fun su (And.intro hs hln)=>?_);omega)|refine v_1lk (fun lv hlk=>?_) (fun hlk=>?_)|refine v_ment (fun st sm hm hst=>?_)|refine v_esto (fun sm hm=>?_)|refine v_rng (fun ri ti hit=>?_)|refine v_clone (fun bc sc hcl=>?_)|refine v_yw ?_|(refine v_make ?_ (fun sv ss hs hln=>?_);omega)|refine ⟨?_,?_,?_⟩|refine ⟨?_,?_⟩|(refine v_tyc ?_ ?_;omega)|(refine v_tycT (by decide +kernel) ?_ ?_;omega)|refine v_tValT (by decide +kernel) ?_|(refine v_tsb ?_ (fun su (And.intro hs hln)=>?_);omega)|refine v_tlk (fun lv hlk=>?_) (fun hlk=>?_)|refine v_tlkT (by decide +kernel) (fun lv hlk=>?_) (fun hlk=>?_)|refine v_tyw ?_|refine v_drawn0 (id:=7) pl4_7 (by kernel_rfl) ?_|refine v_drawnK (id:=14) 10 pl4_14 (by kernel_rfl) ?_|refine v_drawn0 (id:=19) pl4_19 (by kernel_rfl) ?_|fail)
    refine v_o1 Try.results4 ⟨rfl, rfl⟩ ⟨_, inferInstance⟩
end Go.Proofs.Ytedemhmlaodblaa
