/- KnowLeast: the walk and its law. -/
import Derived.Test.YtedemhmlaodblaaKlO
namespace Go.Proofs.Ytedemhmlaodblaa
open Go Go.SX Go.RowKit
set_option maxRecDepth 100000
set_option linter.unusedSimpArgs false
set_option linter.unusedVariables false
set_option maxHeartbeats 0
set_option synthInstance.maxSize 100000
set_option synthInstance.maxHeartbeats 400000
/-- an under that is had is had without the box -/
theorem Cl.without {told : List ApiKey} {boxes boxes' : List ApiBox} {b : ApiBox} (hb : ∀ c ∈ boxes, c ≠ b → c ∈ boxes') (h : Cl told boxes b.Under.Base b.Under.Step) : Cl told boxes' b.Under.Base b.Under.Step := by
  have key : ∀ a s, Cl told boxes a s → Cl told boxes' a s ∨ Cl told boxes' b.Under.Base b.Under.Step := by
    intro a s hc
    induction hc with
    | own g h => exact .inl (.own g h)
    | told hx e hs g => exact .inl (.told hx e hs g)
    | @opens a s c hc hu e hs g ih =>
      rcases ih with ih | ih
      · by_cases hcb : c = b
        · subst hcb; exact .inr ih
        · exact .inl (.opens (hb c hc hcb) ih e hs g)
      · exact .inr ih
  exact (key _ _ h).elim id id
/-- the calls but one -/
def Wo (l : List Coterielaw19Op) (n : Nat) (skip : Int) (o : Coterielaw19Op) : Prop := ∃ j : Nat, j < n ∧ (j : Int) ≠ skip ∧ l[j]? = some o
theorem Wo.mem {l : List Coterielaw19Op} {n : Nat} {skip : Int} {o : Coterielaw19Op} (h : Wo l n skip o) : o ∈ l := by
  obtain ⟨j, _, _, h⟩ := h; exact List.mem_of_getElem? h
instance refGives_s (a b c d : Int) : PC Try.prog 18 #[kv a b, kv c d] (.bool (decide (Gv a b c d))) := ⟨by
  refine spec_of2 Try.func18 Try.ntmps18 rfl rfl (fun M w0 => ?_)
  repeat' (first | refine stp ?_|(refine v_spT ?_ ?_;omega)|(refine v_spF ?_ ?_;omega)|refine v_spD (fun hc=>?_) (fun hc=>?_)|refine v_spB (fun hc=>?_) (fun hc=>?_)|(refine v_yc ?_ ?_;omega)|refine v_alloc' (fun ba=>?_)|refine v_box (fun bb=>?_)|refine v_lit (fun bl=>?_)|refine v_makeMap (fun bm=>?_)|(refine v_push ?_ (fun sv ss hs hln=>?_);omega)|(refine v_push0 ?_ (fun sv ss hs=>?_);omega)|(refine v_set ?_ (fun ss hs hln=>?_);omega)|(refine v_cat ?_ (fun sv ss hs hln=>?_);omega)|(refine v_cat0 ?_ (fun sv ss hs=>?_);omega)|(refine v_catN ?_ (fun sv ss hs=>?_);omega)|refine v_put (fun sm hm=>?_)|refine v_del (fun sm hm=>?_)|(refine v_sb ?_ (fun su (And.intro hs hln)=>?_);omega)|refine v_1lk (fun lv hlk=>?_) (fun hlk=>?_)|refine v_ment (fun st sm hm hst=>?_)|refine v_esto (fun sm hm=>?_)|refine v_rng (fun ri ti hit=>?_)|refine v_clone (fun bc sc hcl=>?_)|refine v_yw ?_|(refine v_make ?_ (fun sv ss hs hln=>?_);omega)|fail)
  all_goals refine v_out1 (Γk := []) Try.results18 ⟨?_, rfl⟩
  all_goals first | (refine bD ?_; simp_all [Gv]; done) | (refine bF ?_; simp_all [Gv]; done) | (refine bT ?_; simp_all [Gv]; done)⟩
theorem without_s {uv : Value} {l : List Coterielaw19Op} {s : Hp} (hu : AtS uv 38 Coterielaw19Op 9 cvCoterielaw19Op l s) (hb : l.length * 80 ≤ 140737488351232) (skip : Int) :
    SX.Spec Try.prog 16 #[uv, .int .i64 skip] [s] [] fun v Γ => ∃ bk G K s', v = kptr bk ∧ Γ = [s'] ∧ KinG G l.length K ∧ From G (Wo l l.length skip) ∧ KnowS bk K s' := by
  refine spec_of2 Try.func16 Try.ntmps16 rfl rfl (fun M w0 => ?_)
  repeat' (first | refine stp ?_|(refine v_spT ?_ ?_;omega)|(refine v_spF ?_ ?_;omega)|refine v_spD (fun hc=>?_) (fun hc=>?_)|refine v_spB (fun hc=>?_) (fun hc=>?_)|(refine v_yc ?_ ?_;omega)|refine v_alloc' (fun ba=>?_)|refine v_box (fun bb=>?_)|refine v_lit (fun bl=>?_)|refine v_makeMap (fun bm=>?_)|(refine v_push ?_ (fun sv ss hs hln=>?_);omega)|(refine v_push0 ?_ (fun sv ss hs=>?_);omega)|(refine v_set ?_ (fun ss hs hln=>?_);omega)|(refine v_cat ?_ (fun sv ss hs hln=>?_);omega)|(refine v_cat0 ?_ (fun sv ss hs=>?_);omega)|(refine v_catN ?_ (fun sv ss hs=>?_);omega)|refine v_put (fun sm hm=>?_)|refine v_del (fun sm hm=>?_)|(refine v_sb ?_ (fun su (And.intro hs hln)=>?_);omega)|refine v_1lk (fun lv hlk=>?_) (fun hlk=>?_)|refine v_ment (fun st sm hm hst=>?_)|refine v_esto (fun sm hm=>?_)|refine v_rng (fun ri ti hit=>?_)|refine v_clone (fun bc sc hcl=>?_)|refine v_yw ?_|(refine v_make ?_ (fun sv ss hs hln=>?_);omega)|fail)
  refine v_callO knewS ?_
  rintro v Γ' ⟨bk, sa, rfl, rfl, hA⟩
  (try dsimp only [List.cons_append, List.nil_append])
  repeat' (first | refine stp ?_|(refine v_spT ?_ ?_;omega)|(refine v_spF ?_ ?_;omega)|refine v_spD (fun hc=>?_) (fun hc=>?_)|refine v_spB (fun hc=>?_) (fun hc=>?_)|(refine v_yc ?_ ?_;omega)|refine v_alloc' (fun ba=>?_)|refine v_box (fun bb=>?_)|refine v_lit (fun bl=>?_)|refine v_makeMap (fun bm=>?_)|(refine v_push ?_ (fun sv ss hs hln=>?_);omega)|(refine v_push0 ?_ (fun sv ss hs=>?_);omega)|(refine v_set ?_ (fun ss hs hln=>?_);omega)|(refine v_cat ?_ (fun sv ss hs hln=>?_);omega)|(refine v_cat0 ?_ (fun sv ss hs=>?_);omega)|(refine v_catN ?_ (fun sv ss hs=>?_);omega)|refine v_put (fun sm hm=>?_)|refine v_del (fun sm hm=>?_)|(refine v_sb ?_ (fun su (And.intro hs hln)=>?_);omega)|refine v_1lk (fun lv hlk=>?_) (fun hlk=>?_)|refine v_ment (fun st sm hm hst=>?_)|refine v_esto (fun sm hm=>?_)|refine v_rng (fun ri ti hit=>?_)|refine v_clone (fun bc sc hcl=>?_)|refine v_yw ?_|(refine v_make ?_ (fun sv ss hs hln=>?_);omega)|fail)
  refine v_lp [11] [1, 5, 9, 10] (fun g : KoG => [.int .i64 g.j]) (fun g => [g.s]) (fun g => g.j ≤ l.length ∧ KoOk bk g.j (Wo l g.j skip) g) (fun g => l.length - g.j) ⟨0, RefM.zero, KnowM.zero, sa⟩ (fun _ => rfl) rfl inferInstance
    ⟨Nat.zero_le _, Nat.le_refl _, KinG.zero, From.zero.iff (fun o => ⟨fun h => h.elim, fun ⟨j, h, _⟩ => absurd h (Nat.not_lt_zero _)⟩), hA⟩ ?_
  clear hA sa
  rintro ⟨j, G, K, sa⟩ ⟨hj, htA, hkA, hfA, hA⟩
  dsimp only at hj htA hkA hfA hA ⊢
  (try dsimp only [zipE_c, zipE_n, List.cons_append, List.nil_append])
  have hbl := hfA.boxes_le (l := l) fun o ho => ho.mem
  rcases Nat.lt_or_ge j l.length with hlt | hge
  · repeat' (first | refine stp ?_|(refine v_spT ?_ ?_;omega)|(refine v_spF ?_ ?_;omega)|refine v_spD (fun hc=>?_) (fun hc=>?_)|refine v_spB (fun hc=>?_) (fun hc=>?_)|(refine v_yc ?_ ?_;omega)|refine v_alloc' (fun ba=>?_)|refine v_box (fun bb=>?_)|refine v_lit (fun bl=>?_)|refine v_makeMap (fun bm=>?_)|(refine v_push ?_ (fun sv ss hs hln=>?_);omega)|(refine v_push0 ?_ (fun sv ss hs=>?_);omega)|(refine v_set ?_ (fun ss hs hln=>?_);omega)|(refine v_cat ?_ (fun sv ss hs hln=>?_);omega)|(refine v_cat0 ?_ (fun sv ss hs=>?_);omega)|(refine v_catN ?_ (fun sv ss hs=>?_);omega)|refine v_put (fun sm hm=>?_)|refine v_del (fun sm hm=>?_)|(refine v_sb ?_ (fun su (And.intro hs hln)=>?_);omega)|refine v_1lk (fun lv hlk=>?_) (fun hlk=>?_)|refine v_ment (fun st sm hm hst=>?_)|refine v_esto (fun sm hm=>?_)|refine v_rng (fun ri ti hit=>?_)|refine v_clone (fun bc sc hcl=>?_)|refine v_yw ?_|(refine v_make ?_ (fun sv ss hs hln=>?_);omega)|fail)
    · refine v_callO (do_s hA l[j] (by omega)) ?_
      rintro v Γ' ⟨K', s1, rfl, rfl, h1, h2⟩
      (try dsimp only [List.cons_append, List.nil_append])
      repeat' (first | refine stp ?_|(refine v_spT ?_ ?_;omega)|(refine v_spF ?_ ?_;omega)|refine v_spD (fun hc=>?_) (fun hc=>?_)|refine v_spB (fun hc=>?_) (fun hc=>?_)|(refine v_yc ?_ ?_;omega)|refine v_alloc' (fun ba=>?_)|refine v_box (fun bb=>?_)|refine v_lit (fun bl=>?_)|refine v_makeMap (fun bm=>?_)|(refine v_push ?_ (fun sv ss hs hln=>?_);omega)|(refine v_push0 ?_ (fun sv ss hs=>?_);omega)|(refine v_set ?_ (fun ss hs hln=>?_);omega)|(refine v_cat ?_ (fun sv ss hs hln=>?_);omega)|(refine v_cat0 ?_ (fun sv ss hs=>?_);omega)|(refine v_catN ?_ (fun sv ss hs=>?_);omega)|refine v_put (fun sm hm=>?_)|refine v_del (fun sm hm=>?_)|(refine v_sb ?_ (fun su (And.intro hs hln)=>?_);omega)|refine v_1lk (fun lv hlk=>?_) (fun hlk=>?_)|refine v_ment (fun st sm hm hst=>?_)|refine v_esto (fun sm hm=>?_)|refine v_rng (fun ri ti hit=>?_)|refine v_clone (fun bc sc hcl=>?_)|refine v_yw ?_|(refine v_make ?_ (fun sv ss hs hln=>?_);omega)|fail)
      refine v_again ⟨j + 1, G.do l[j], K', s1⟩ (by dsimp only; omega) rfl inferInstance ⟨hlt, hkA.tot htA h1, hkA.do h1 (by omega), (hfA.do l[j]).iff fun o => ?_, h2⟩
      constructor
      · rintro (⟨i, h1, h2, h3⟩ | rfl)
        · exact ⟨i, by dsimp only; omega, h2, h3⟩
        · exact ⟨j, by dsimp only; omega, by omega, List.getElem?_eq_getElem hlt⟩
      · rintro ⟨i, h1, h2, h3⟩
        dsimp only at h1
        by_cases e : i = j
        · subst e
          rw [List.getElem?_eq_getElem hlt] at h3
          exact .inr (Option.some.inj h3).symm
        · exact .inl ⟨i, by omega, h2, h3⟩
    · refine v_again ⟨j + 1, G, K, sa⟩ (by dsimp only; omega) rfl inferInstance ⟨hlt, htA, hkA.le (Nat.le_succ _), hfA.iff fun o => ?_, hA⟩
      constructor
      · rintro ⟨i, h1, h2, h3⟩
        exact ⟨i, by dsimp only; omega, h2, h3⟩
      · rintro ⟨i, h1, h2, h3⟩
        dsimp only at h1
        exact ⟨i, by omega, h2, h3⟩
  · obtain rfl : j = l.length := by omega
    repeat' (first | refine stp ?_|(refine v_spT ?_ ?_;omega)|(refine v_spF ?_ ?_;omega)|refine v_spD (fun hc=>?_) (fun hc=>?_)|refine v_spB (fun hc=>?_) (fun hc=>?_)|(refine v_yc ?_ ?_;omega)|refine v_alloc' (fun ba=>?_)|refine v_box (fun bb=>?_)|refine v_lit (fun bl=>?_)|refine v_makeMap (fun bm=>?_)|(refine v_push ?_ (fun sv ss hs hln=>?_);omega)|(refine v_push0 ?_ (fun sv ss hs=>?_);omega)|(refine v_set ?_ (fun ss hs hln=>?_);omega)|(refine v_cat ?_ (fun sv ss hs hln=>?_);omega)|(refine v_cat0 ?_ (fun sv ss hs=>?_);omega)|(refine v_catN ?_ (fun sv ss hs=>?_);omega)|refine v_put (fun sm hm=>?_)|refine v_del (fun sm hm=>?_)|(refine v_sb ?_ (fun su (And.intro hs hln)=>?_);omega)|refine v_1lk (fun lv hlk=>?_) (fun hlk=>?_)|refine v_ment (fun st sm hm hst=>?_)|refine v_esto (fun sm hm=>?_)|refine v_rng (fun ri ti hit=>?_)|refine v_clone (fun bc sc hcl=>?_)|refine v_yw ?_|(refine v_make ?_ (fun sv ss hs hln=>?_);omega)|fail)
    refine v_o1 Try.results16 ⟨bk, G, K, sa, rfl, rfl, hkA, hfA, hA⟩ ⟨_, inferInstance⟩
/-- this call gives the key -/
def Cond (G : RefM) (x : ApiKey) (o : Coterielaw19Op) : Prop := (o.Kind = 1 ∧ Gv o.Box.Under.Base o.Box.Under.Step x.Base x.Step) ∨ (o.Kind = 2 ∧ GdB o.Box ∧ Gv o.Box.Load.Base o.Box.Load.Step x.Base x.Step ∧ Cl G.told G.boxes o.Box.Under.Base o.Box.Under.Step)
theorem cond_ex {G : RefM} {l : List Coterielaw19Op} (hf : From G (Wo l l.length (-1))) {x : ApiKey} (hx : Cl G.told G.boxes x.Base x.Step) (hb : x.Base < 32768) : ∃ k, ∃ h : k < l.length, Cond G x l[k] := by
  have key : ∀ a s, Cl G.told G.boxes a s → a = x.Base → s = x.Step → ∃ k, ∃ h : k < l.length, Cond G x l[k] := by
    intro a s hc ea es
    cases hc with
    | own g h => omega
    | @told _ _ y hy e hs g =>
      obtain ⟨o, ⟨k, hk, _, ho⟩, h1, h2, h3⟩ := (hf.td y).1 hy
      obtain ⟨hk, rfl⟩ := List.getElem?_eq_some_iff.1 ho
      subst h2
      exact ⟨k, hk, .inl ⟨h1, h3, by rw [← ea, ← es]; exact g, by rw [e, ea], by omega⟩⟩
    | @opens _ _ b hb hu e hs g =>
      obtain ⟨o, ⟨k, hk, _, ho⟩, h1, h2, h3⟩ := (hf.bx b).1 hb
      obtain ⟨hk, rfl⟩ := List.getElem?_eq_some_iff.1 ho
      subst h2
      exact ⟨k, hk, .inr ⟨h1, h3, ⟨h3.2, by rw [← ea, ← es]; exact g, by rw [e, ea], by omega⟩, hu⟩⟩
  exact key _ _ hx rfl rfl
theorem wo_had {G G' : RefM} {l : List Coterielaw19Op} {i : Nat} (hi : i < l.length) (hf : From G (Wo l l.length (-1))) (hf' : From G' (Wo l l.length (i : Int))) (h2 : l[i].Kind = 2) (hc : Cl G.told G.boxes l[i].Box.Under.Base l[i].Box.Under.Step) : Cl G'.told G'.boxes l[i].Box.Under.Base l[i].Box.Under.Step := by
  have h1 : Cl G'.told G.boxes l[i].Box.Under.Base l[i].Box.Under.Step := hc.mono (fun x hx => by
    obtain ⟨o, ⟨k, hk, _, ho⟩, h3, h4⟩ := (hf.td x).1 hx
    refine (hf'.td x).2 ⟨o, ⟨k, hk, fun e => ?_, ho⟩, h3, h4⟩
    obtain rfl : k = i := by omega
    rw [List.getElem?_eq_getElem hi] at ho
    obtain rfl := Option.some.inj ho
    omega) (fun _ h => h)
  refine h1.without fun c hcb hne => ?_
  obtain ⟨o, ⟨k, hk, _, ho⟩, h3, h4, h5⟩ := (hf.bx c).1 hcb
  refine (hf'.bx c).2 ⟨o, ⟨k, hk, fun e => ?_, ho⟩, h3, h4, h5⟩
  obtain rfl : k = i := by omega
  rw [List.getElem?_eq_getElem hi] at ho
  obtain rfl := Option.some.inj ho
  exact hne h4.symm
theorem cond_step {G : RefM} {x : ApiKey} {l : List Coterielaw19Op} {i : Nat} {f f' : Bool} (h : i < l.length) (hf : ∀ k, ∀ h : k < l.length, k < i → Cond G x l[k] → f = true) (h1 : f = true → f' = true) (h2 : Cond G x l[i] → f' = true) : ∀ k, ∀ h : k < l.length, k < i + 1 → Cond G x l[k] → f' = true := fun k hk hlt hc => by
  rcases Nat.lt_or_ge k i with h3 | h3
  · exact h1 (hf k hk h3 hc)
  · obtain rfl : k = i := by omega
    exact h2 hc
structure KqG where
  j : Nat
  ov : Value
  ol : List Coterielaw19Op
  os : Hp
  m : List (Coterielaw19Op × Int)
  ms : Hp
structure KqOk (l bm : Nat) (g : KqG) : Prop where
  le : g.j ≤ l
  own : OwnS g.ov 38 Coterielaw19Op 9 cvCoterielaw19Op g.ol g.os
  len : g.ol.length ≤ g.j
  map : OwnM bm Coterielaw19Op Int avCoterielaw19Op ik g.m g.ms
theorem kleast_s {uv : Value} {l : List Coterielaw19Op} {s : Hp} (hu : AtS uv 38 Coterielaw19Op 9 cvCoterielaw19Op l s) (hb : l.length * 80 ≤ 140737488351232) :
    SX.Spec Try.prog 5 #[uv] [s] [] fun v Γ => v = .bool true ∧ Γ = [] := by
  refine spec_of1 Try.func5 Try.ntmps5 rfl rfl (fun M w0 => ?_)
  repeat' (first | refine stp ?_|(refine v_spT ?_ ?_;omega)|(refine v_spF ?_ ?_;omega)|refine v_spD (fun hc=>?_) (fun hc=>?_)|refine v_spB (fun hc=>?_) (fun hc=>?_)|(refine v_yc ?_ ?_;omega)|refine v_alloc' (fun ba=>?_)|refine v_box (fun bb=>?_)|refine v_lit (fun bl=>?_)|refine v_makeMap (fun bm=>?_)|(refine v_push ?_ (fun sv ss hs hln=>?_);omega)|(refine v_push0 ?_ (fun sv ss hs=>?_);omega)|(refine v_set ?_ (fun ss hs hln=>?_);omega)|(refine v_cat ?_ (fun sv ss hs hln=>?_);omega)|(refine v_cat0 ?_ (fun sv ss hs=>?_);omega)|(refine v_catN ?_ (fun sv ss hs=>?_);omega)|refine v_put (fun sm hm=>?_)|refine v_del (fun sm hm=>?_)|(refine v_sb ?_ (fun su (And.intro hs hln)=>?_);omega)|refine v_1lk (fun lv hlk=>?_) (fun hlk=>?_)|refine v_ment (fun st sm hm hst=>?_)|refine v_esto (fun sm hm=>?_)|refine v_rng (fun ri ti hit=>?_)|refine v_clone (fun bc sc hcl=>?_)|refine v_yw ?_|(refine v_make ?_ (fun sv ss hs hln=>?_);omega)|refine ⟨?_,?_,?_⟩|refine ⟨?_,?_⟩|(refine v_tyc ?_ ?_;omega)|(refine v_tycT (by decide +kernel) ?_ ?_;omega)|refine v_tValT (by decide +kernel) ?_|(refine v_tsb ?_ (fun su (And.intro hs hln)=>?_);omega)|refine v_tlk (fun lv hlk=>?_) (fun hlk=>?_)|refine v_tlkT (by decide +kernel) (fun lv hlk=>?_) (fun hlk=>?_)|refine v_tyw ?_|refine v_drawn0 (id:=26) pl5_26 (by kernel_rfl) ?_|fail)
  refine v_lp [3, 18] [4, 16, 17] (fun g : KqG => [g.ov, .int .i64 g.j]) (fun g => [g.os, g.ms]) (KqOk l.length bm) (fun g => l.length - g.j) ⟨0, nilS, [], [], [], _⟩ (fun _ => rfl) rfl inferInstance
    ⟨Nat.zero_le _, OwnS.nil, Nat.le_refl _, ⟨MpAt.new _⟩⟩ ?_
  rintro ⟨j, ov, ol, os, m, ms⟩ ⟨hj, hov, hol, hm⟩
  dsimp only at hj hov hol hm ⊢
  (try dsimp only [zipE_c, zipE_n, List.cons_append, List.nil_append])
  repeat' (first | refine stp ?_|(refine v_spT ?_ ?_;omega)|(refine v_spF ?_ ?_;omega)|refine v_spD (fun hc=>?_) (fun hc=>?_)|refine v_spB (fun hc=>?_) (fun hc=>?_)|(refine v_yc ?_ ?_;omega)|refine v_alloc' (fun ba=>?_)|refine v_box (fun bb=>?_)|refine v_lit (fun bl=>?_)|refine v_makeMap (fun bm=>?_)|(refine v_push ?_ (fun sv ss hs hln=>?_);omega)|(refine v_push0 ?_ (fun sv ss hs=>?_);omega)|(refine v_set ?_ (fun ss hs hln=>?_);omega)|(refine v_cat ?_ (fun sv ss hs hln=>?_);omega)|(refine v_cat0 ?_ (fun sv ss hs=>?_);omega)|(refine v_catN ?_ (fun sv ss hs=>?_);omega)|refine v_put (fun sm hm=>?_)|refine v_del (fun sm hm=>?_)|(refine v_sb ?_ (fun su (And.intro hs hln)=>?_);omega)|refine v_1lk (fun lv hlk=>?_) (fun hlk=>?_)|refine v_ment (fun st sm hm hst=>?_)|refine v_esto (fun sm hm=>?_)|refine v_rng (fun ri ti hit=>?_)|refine v_clone (fun bc sc hcl=>?_)|refine v_yw ?_|(refine v_make ?_ (fun sv ss hs hln=>?_);omega)|refine ⟨?_,?_,?_⟩|refine ⟨?_,?_⟩|(refine v_tyc ?_ ?_;omega)|(refine v_tycT (by decide +kernel) ?_ ?_;omega)|refine v_tValT (by decide +kernel) ?_|(refine v_tsb ?_ (fun su (And.intro hs hln)=>?_);omega)|refine v_tlk (fun lv hlk=>?_) (fun hlk=>?_)|refine v_tlkT (by decide +kernel) (fun lv hlk=>?_) (fun hlk=>?_)|refine v_tyw ?_|refine v_drawn0 (id:=26) pl5_26 (by kernel_rfl) ?_|fail)
  · exact v_again ⟨j + 1, ov, ol, os, m, ms⟩ (by dsimp only; omega) rfl inferInstance ⟨by dsimp only; omega, hov, by dsimp only; omega, hm⟩
  · refine v_again ⟨j + 1, sv, _, ss, _, sm⟩ (by dsimp only; omega) rfl inferInstance ⟨by dsimp only; omega, hs, (by dsimp only; rw [hln]; omega), hm⟩
  · exact v_again ⟨j + 1, ov, ol, os, m, ms⟩ (by dsimp only; omega) rfl inferInstance ⟨by dsimp only; omega, hov, by dsimp only; omega, hm⟩
  · exact v_again ⟨j + 1, ov, ol, os, m, ms⟩ (by dsimp only; omega) rfl inferInstance ⟨by dsimp only; omega, hov, by dsimp only; omega, hm⟩
  · refine v_again ⟨j + 1, sv, _, ss, _, sm⟩ (by dsimp only; omega) rfl inferInstance ⟨by dsimp only; omega, hs, (by dsimp only; rw [hln]; omega), hm⟩
  · refine v_callR (without_s (ownAt (h := hov)) (by omega) (-1)) ?_
    rintro v Γ' ⟨bk, G, K, sk, rfl, rfl, hkin, hfr, hK⟩
    (try dsimp only [List.cons_append, List.nil_append])
    repeat' (first | refine stp ?_|(refine v_spT ?_ ?_;omega)|(refine v_spF ?_ ?_;omega)|refine v_spD (fun hc=>?_) (fun hc=>?_)|refine v_spB (fun hc=>?_) (fun hc=>?_)|(refine v_yc ?_ ?_;omega)|refine v_alloc' (fun ba=>?_)|refine v_box (fun bb=>?_)|refine v_lit (fun bl=>?_)|refine v_makeMap (fun bm=>?_)|(refine v_push ?_ (fun sv ss hs hln=>?_);omega)|(refine v_push0 ?_ (fun sv ss hs=>?_);omega)|(refine v_set ?_ (fun ss hs hln=>?_);omega)|(refine v_cat ?_ (fun sv ss hs hln=>?_);omega)|(refine v_cat0 ?_ (fun sv ss hs=>?_);omega)|(refine v_catN ?_ (fun sv ss hs=>?_);omega)|refine v_put (fun sm hm=>?_)|refine v_del (fun sm hm=>?_)|(refine v_sb ?_ (fun su (And.intro hs hln)=>?_);omega)|refine v_1lk (fun lv hlk=>?_) (fun hlk=>?_)|refine v_ment (fun st sm hm hst=>?_)|refine v_esto (fun sm hm=>?_)|refine v_rng (fun ri ti hit=>?_)|refine v_clone (fun bc sc hcl=>?_)|refine v_yw ?_|(refine v_make ?_ (fun sv ss hs hln=>?_);omega)|refine ⟨?_,?_,?_⟩|refine ⟨?_,?_⟩|(refine v_tyc ?_ ?_;omega)|(refine v_tycT (by decide +kernel) ?_ ?_;omega)|refine v_tValT (by decide +kernel) ?_|(refine v_tsb ?_ (fun su (And.intro hs hln)=>?_);omega)|refine v_tlk (fun lv hlk=>?_) (fun hlk=>?_)|refine v_tlkT (by decide +kernel) (fun lv hlk=>?_) (fun hlk=>?_)|refine v_tyw ?_|refine v_drawn0 (id:=26) pl5_26 (by kernel_rfl) ?_|fail)
    refine v_callR (keysS hK hkin) ?_
    rintro v Γ' ⟨ks, sks, hks, rfl, _, hka⟩
    (try dsimp only [List.cons_append, List.nil_append])
    repeat' (first | refine stp ?_|(refine v_spT ?_ ?_;omega)|(refine v_spF ?_ ?_;omega)|refine v_spD (fun hc=>?_) (fun hc=>?_)|refine v_spB (fun hc=>?_) (fun hc=>?_)|(refine v_yc ?_ ?_;omega)|refine v_alloc' (fun ba=>?_)|refine v_box (fun bb=>?_)|refine v_lit (fun bl=>?_)|refine v_makeMap (fun bm=>?_)|(refine v_push ?_ (fun sv ss hs hln=>?_);omega)|(refine v_push0 ?_ (fun sv ss hs=>?_);omega)|(refine v_set ?_ (fun ss hs hln=>?_);omega)|(refine v_cat ?_ (fun sv ss hs hln=>?_);omega)|(refine v_cat0 ?_ (fun sv ss hs=>?_);omega)|(refine v_catN ?_ (fun sv ss hs=>?_);omega)|refine v_put (fun sm hm=>?_)|refine v_del (fun sm hm=>?_)|(refine v_sb ?_ (fun su (And.intro hs hln)=>?_);omega)|refine v_1lk (fun lv hlk=>?_) (fun hlk=>?_)|refine v_ment (fun st sm hm hst=>?_)|refine v_esto (fun sm hm=>?_)|refine v_rng (fun ri ti hit=>?_)|refine v_clone (fun bc sc hcl=>?_)|refine v_yw ?_|(refine v_make ?_ (fun sv ss hs hln=>?_);omega)|refine ⟨?_,?_,?_⟩|refine ⟨?_,?_⟩|(refine v_tyc ?_ ?_;omega)|(refine v_tycT (by decide +kernel) ?_ ?_;omega)|refine v_tValT (by decide +kernel) ?_|(refine v_tsb ?_ (fun su (And.intro hs hln)=>?_);omega)|refine v_tlk (fun lv hlk=>?_) (fun hlk=>?_)|refine v_tlkT (by decide +kernel) (fun lv hlk=>?_) (fun hlk=>?_)|refine v_tyw ?_|refine v_drawn0 (id:=26) pl5_26 (by kernel_rfl) ?_|fail)
    refine v_lp [51] [3, 7, 49, 50] (fun i : Nat => [.int .i64 i]) (fun _ => []) (fun i => i ≤ ks.length) (fun i => ks.length - i) 0 (fun _ => rfl) rfl inferInstance (Nat.zero_le _) ?_
    rintro i hi
    (try dsimp only [zipE_c, zipE_n, List.cons_append, List.nil_append])
    rcases Nat.lt_or_ge i ks.length with hlt | hge
    · obtain ⟨hx1, hx2, _⟩ := (hka.iff ks[i]).1 (List.getElem_mem _)
      obtain ⟨kx, hkx, hcx⟩ := cond_ex hfr hx2 hx1
      repeat' (first | refine stp ?_|(refine v_spT ?_ ?_;omega)|(refine v_spF ?_ ?_;omega)|refine v_spD (fun hc=>?_) (fun hc=>?_)|refine v_spB (fun hc=>?_) (fun hc=>?_)|(refine v_yc ?_ ?_;omega)|refine v_alloc' (fun ba=>?_)|refine v_box (fun bb=>?_)|refine v_lit (fun bl=>?_)|refine v_makeMap (fun bm=>?_)|(refine v_push ?_ (fun sv ss hs hln=>?_);omega)|(refine v_push0 ?_ (fun sv ss hs=>?_);omega)|(refine v_set ?_ (fun ss hs hln=>?_);omega)|(refine v_cat ?_ (fun sv ss hs hln=>?_);omega)|(refine v_cat0 ?_ (fun sv ss hs=>?_);omega)|(refine v_catN ?_ (fun sv ss hs=>?_);omega)|refine v_put (fun sm hm=>?_)|refine v_del (fun sm hm=>?_)|(refine v_sb ?_ (fun su (And.intro hs hln)=>?_);omega)|refine v_1lk (fun lv hlk=>?_) (fun hlk=>?_)|refine v_ment (fun st sm hm hst=>?_)|refine v_esto (fun sm hm=>?_)|refine v_rng (fun ri ti hit=>?_)|refine v_clone (fun bc sc hcl=>?_)|refine v_yw ?_|(refine v_make ?_ (fun sv ss hs hln=>?_);omega)|refine ⟨?_,?_,?_⟩|refine ⟨?_,?_⟩|(refine v_tyc ?_ ?_;omega)|(refine v_tycT (by decide +kernel) ?_ ?_;omega)|refine v_tValT (by decide +kernel) ?_|(refine v_tsb ?_ (fun su (And.intro hs hln)=>?_);omega)|refine v_tlk (fun lv hlk=>?_) (fun hlk=>?_)|refine v_tlkT (by decide +kernel) (fun lv hlk=>?_) (fun hlk=>?_)|refine v_tyw ?_|refine v_drawn0 (id:=26) pl5_26 (by kernel_rfl) ?_|fail)
      refine v_lp [10, 57] [3, 7, 9, 49, 50, 51, 55, 56] (fun g : Nat × Bool => [.bool g.2, .int .i64 g.1]) (fun _ => []) (fun g => g.1 ≤ ol.length ∧ ∀ k, ∀ h : k < ol.length, k < g.1 → Cond G ks[i] ol[k] → g.2 = true) (fun g => ol.length - g.1) ⟨0, false⟩ (fun _ => rfl) rfl inferInstance ⟨Nat.zero_le _, fun _ _ h => absurd h (Nat.not_lt_zero _)⟩ ?_
      rintro ⟨i2, found⟩ ⟨hi2, hfo⟩
      dsimp only at hi2 hfo ⊢
      (try dsimp only [zipE_c, zipE_n, List.cons_append, List.nil_append])
      rcases Nat.lt_or_ge i2 ol.length with hlt2 | hge2
      · repeat' (first | refine stp ?_|(refine v_spT ?_ ?_;omega)|(refine v_spF ?_ ?_;omega)|refine v_spD (fun hc=>?_) (fun hc=>?_)|refine v_spB (fun hc=>?_) (fun hc=>?_)|(refine v_yc ?_ ?_;omega)|refine v_alloc' (fun ba=>?_)|refine v_box (fun bb=>?_)|refine v_lit (fun bl=>?_)|refine v_makeMap (fun bm=>?_)|(refine v_push ?_ (fun sv ss hs hln=>?_);omega)|(refine v_push0 ?_ (fun sv ss hs=>?_);omega)|(refine v_set ?_ (fun ss hs hln=>?_);omega)|(refine v_cat ?_ (fun sv ss hs hln=>?_);omega)|(refine v_cat0 ?_ (fun sv ss hs=>?_);omega)|(refine v_catN ?_ (fun sv ss hs=>?_);omega)|refine v_put (fun sm hm=>?_)|refine v_del (fun sm hm=>?_)|(refine v_sb ?_ (fun su (And.intro hs hln)=>?_);omega)|refine v_1lk (fun lv hlk=>?_) (fun hlk=>?_)|refine v_ment (fun st sm hm hst=>?_)|refine v_esto (fun sm hm=>?_)|refine v_rng (fun ri ti hit=>?_)|refine v_clone (fun bc sc hcl=>?_)|refine v_yw ?_|(refine v_make ?_ (fun sv ss hs hln=>?_);omega)|refine ⟨?_,?_,?_⟩|refine ⟨?_,?_⟩|(refine v_tyc ?_ ?_;omega)|(refine v_tycT (by decide +kernel) ?_ ?_;omega)|refine v_tValT (by decide +kernel) ?_|(refine v_tsb ?_ (fun su (And.intro hs hln)=>?_);omega)|refine v_tlk (fun lv hlk=>?_) (fun hlk=>?_)|refine v_tlkT (by decide +kernel) (fun lv hlk=>?_) (fun hlk=>?_)|refine v_tyw ?_|refine v_drawn0 (id:=26) pl5_26 (by kernel_rfl) ?_|fail)
        · exact v_again ⟨i2 + 1, true⟩ (by dsimp only; omega) rfl inferInstance ⟨by dsimp only; omega, fun _ _ _ _ => rfl⟩
        · refine v_again ⟨i2 + 1, found⟩ (by dsimp only; omega) rfl inferInstance ⟨by dsimp only; omega, cond_step hlt2 hfo id fun h => ?_⟩
          rcases h with ⟨_, h⟩ | ⟨h, _⟩
          · exact absurd h (by assumption)
          · omega
        · refine v_again ⟨i2 + 1, found⟩ (by dsimp only; omega) rfl inferInstance ⟨by dsimp only; omega, cond_step hlt2 hfo id fun _ => by simpa using hc⟩
        · rename_i hk2 _
          refine v_callR (without_s (ownAt (h := hov)) (by omega) (i2 : Int)) ?_
          rintro v Γ' ⟨bk2, G2, K2, sk2, rfl, rfl, hkin2, hfr2, hK2⟩
          (try dsimp only [List.cons_append, List.nil_append])
          repeat' (first | refine stp ?_|(refine v_spT ?_ ?_;omega)|(refine v_spF ?_ ?_;omega)|refine v_spD (fun hc=>?_) (fun hc=>?_)|refine v_spB (fun hc=>?_) (fun hc=>?_)|(refine v_yc ?_ ?_;omega)|refine v_alloc' (fun ba=>?_)|refine v_box (fun bb=>?_)|refine v_lit (fun bl=>?_)|refine v_makeMap (fun bm=>?_)|(refine v_push ?_ (fun sv ss hs hln=>?_);omega)|(refine v_push0 ?_ (fun sv ss hs=>?_);omega)|(refine v_set ?_ (fun ss hs hln=>?_);omega)|(refine v_cat ?_ (fun sv ss hs hln=>?_);omega)|(refine v_cat0 ?_ (fun sv ss hs=>?_);omega)|(refine v_catN ?_ (fun sv ss hs=>?_);omega)|refine v_put (fun sm hm=>?_)|refine v_del (fun sm hm=>?_)|(refine v_sb ?_ (fun su (And.intro hs hln)=>?_);omega)|refine v_1lk (fun lv hlk=>?_) (fun hlk=>?_)|refine v_ment (fun st sm hm hst=>?_)|refine v_esto (fun sm hm=>?_)|refine v_rng (fun ri ti hit=>?_)|refine v_clone (fun bc sc hcl=>?_)|refine v_yw ?_|(refine v_make ?_ (fun sv ss hs hln=>?_);omega)|refine ⟨?_,?_,?_⟩|refine ⟨?_,?_⟩|(refine v_tyc ?_ ?_;omega)|(refine v_tycT (by decide +kernel) ?_ ?_;omega)|refine v_tValT (by decide +kernel) ?_|(refine v_tsb ?_ (fun su (And.intro hs hln)=>?_);omega)|refine v_tlk (fun lv hlk=>?_) (fun hlk=>?_)|refine v_tlkT (by decide +kernel) (fun lv hlk=>?_) (fun hlk=>?_)|refine v_tyw ?_|refine v_drawn0 (id:=26) pl5_26 (by kernel_rfl) ?_|fail)
          refine v_callR (hasS hK2 _ _) ?_
          rintro v Γ' ⟨rfl, rfl⟩
          (try dsimp only [List.cons_append, List.nil_append])
          repeat' (first | refine stp ?_|(refine v_spT ?_ ?_;omega)|(refine v_spF ?_ ?_;omega)|refine v_spD (fun hc=>?_) (fun hc=>?_)|refine v_spB (fun hc=>?_) (fun hc=>?_)|(refine v_yc ?_ ?_;omega)|refine v_alloc' (fun ba=>?_)|refine v_box (fun bb=>?_)|refine v_lit (fun bl=>?_)|refine v_makeMap (fun bm=>?_)|(refine v_push ?_ (fun sv ss hs hln=>?_);omega)|(refine v_push0 ?_ (fun sv ss hs=>?_);omega)|(refine v_set ?_ (fun ss hs hln=>?_);omega)|(refine v_cat ?_ (fun sv ss hs hln=>?_);omega)|(refine v_cat0 ?_ (fun sv ss hs=>?_);omega)|(refine v_catN ?_ (fun sv ss hs=>?_);omega)|refine v_put (fun sm hm=>?_)|refine v_del (fun sm hm=>?_)|(refine v_sb ?_ (fun su (And.intro hs hln)=>?_);omega)|refine v_1lk (fun lv hlk=>?_) (fun hlk=>?_)|refine v_ment (fun st sm hm hst=>?_)|refine v_esto (fun sm hm=>?_)|refine v_rng (fun ri ti hit=>?_)|refine v_clone (fun bc sc hcl=>?_)|refine v_yw ?_|(refine v_make ?_ (fun sv ss hs hln=>?_);omega)|refine ⟨?_,?_,?_⟩|refine ⟨?_,?_⟩|(refine v_tyc ?_ ?_;omega)|(refine v_tycT (by decide +kernel) ?_ ?_;omega)|refine v_tValT (by decide +kernel) ?_|(refine v_tsb ?_ (fun su (And.intro hs hln)=>?_);omega)|refine v_tlk (fun lv hlk=>?_) (fun hlk=>?_)|refine v_tlkT (by decide +kernel) (fun lv hlk=>?_) (fun hlk=>?_)|refine v_tyw ?_|refine v_drawn0 (id:=26) pl5_26 (by kernel_rfl) ?_|fail)
          refine v_again ⟨i2 + 1, decide (K2.had ol[i2].Box.Under.Base ol[i2].Box.Under.Step)⟩ (by dsimp only; omega) rfl inferInstance ⟨by dsimp only; omega, cond_step hlt2 hfo (fun h => by simp [h] at *) fun h => ?_⟩
          rcases h with ⟨h, _⟩ | ⟨h, _, _, h2⟩
          · omega
          · exact decide_eq_true ((hkin2.had _ _).2 (wo_had hlt2 hfr hfr2 h h2))
        · refine v_again ⟨i2 + 1, found⟩ (by dsimp only; omega) rfl inferInstance ⟨by dsimp only; omega, cond_step hlt2 hfo id fun h => ?_⟩
          rcases h with ⟨h, _⟩ | ⟨_, _, h, _⟩
          · omega
          · exact absurd h (by assumption)
        · refine v_again ⟨i2 + 1, found⟩ (by dsimp only; omega) rfl inferInstance ⟨by dsimp only; omega, cond_step hlt2 hfo id fun h => ?_⟩
          rcases h with ⟨h, _⟩ | ⟨_, h, _, _⟩
          · omega
          · exact absurd h (by assumption)
        · refine v_again ⟨i2 + 1, found⟩ (by dsimp only; omega) rfl inferInstance ⟨by dsimp only; omega, cond_step hlt2 hfo id fun h => ?_⟩
          rcases h with ⟨h, _⟩ | ⟨h, _, _, _⟩
          · omega
          · omega
        · refine v_again ⟨i2 + 1, found⟩ (by dsimp only; omega) rfl inferInstance ⟨by dsimp only; omega, cond_step hlt2 hfo id fun _ => by simpa using hc⟩
      · obtain rfl : found = true := hfo kx hkx (by omega) hcx
        repeat' (first | refine stp ?_|(refine v_spT ?_ ?_;omega)|(refine v_spF ?_ ?_;omega)|refine v_spD (fun hc=>?_) (fun hc=>?_)|refine v_spB (fun hc=>?_) (fun hc=>?_)|(refine v_yc ?_ ?_;omega)|refine v_alloc' (fun ba=>?_)|refine v_box (fun bb=>?_)|refine v_lit (fun bl=>?_)|refine v_makeMap (fun bm=>?_)|(refine v_push ?_ (fun sv ss hs hln=>?_);omega)|(refine v_push0 ?_ (fun sv ss hs=>?_);omega)|(refine v_set ?_ (fun ss hs hln=>?_);omega)|(refine v_cat ?_ (fun sv ss hs hln=>?_);omega)|(refine v_cat0 ?_ (fun sv ss hs=>?_);omega)|(refine v_catN ?_ (fun sv ss hs=>?_);omega)|refine v_put (fun sm hm=>?_)|refine v_del (fun sm hm=>?_)|(refine v_sb ?_ (fun su (And.intro hs hln)=>?_);omega)|refine v_1lk (fun lv hlk=>?_) (fun hlk=>?_)|refine v_ment (fun st sm hm hst=>?_)|refine v_esto (fun sm hm=>?_)|refine v_rng (fun ri ti hit=>?_)|refine v_clone (fun bc sc hcl=>?_)|refine v_yw ?_|(refine v_make ?_ (fun sv ss hs hln=>?_);omega)|refine ⟨?_,?_,?_⟩|refine ⟨?_,?_⟩|(refine v_tyc ?_ ?_;omega)|(refine v_tycT (by decide +kernel) ?_ ?_;omega)|refine v_tValT (by decide +kernel) ?_|(refine v_tsb ?_ (fun su (And.intro hs hln)=>?_);omega)|refine v_tlk (fun lv hlk=>?_) (fun hlk=>?_)|refine v_tlkT (by decide +kernel) (fun lv hlk=>?_) (fun hlk=>?_)|refine v_tyw ?_|refine v_drawn0 (id:=26) pl5_26 (by kernel_rfl) ?_|fail)
        refine v_callR (hasS hK _ _) ?_
        rintro v Γ' ⟨rfl, rfl⟩
        rw [decide_eq_true ((hkin.had _ _).2 hx2)]
        (try dsimp only [List.cons_append, List.nil_append])
        repeat' (first | refine stp ?_|(refine v_spT ?_ ?_;omega)|(refine v_spF ?_ ?_;omega)|refine v_spD (fun hc=>?_) (fun hc=>?_)|refine v_spB (fun hc=>?_) (fun hc=>?_)|(refine v_yc ?_ ?_;omega)|refine v_alloc' (fun ba=>?_)|refine v_box (fun bb=>?_)|refine v_lit (fun bl=>?_)|refine v_makeMap (fun bm=>?_)|(refine v_push ?_ (fun sv ss hs hln=>?_);omega)|(refine v_push0 ?_ (fun sv ss hs=>?_);omega)|(refine v_set ?_ (fun ss hs hln=>?_);omega)|(refine v_cat ?_ (fun sv ss hs hln=>?_);omega)|(refine v_cat0 ?_ (fun sv ss hs=>?_);omega)|(refine v_catN ?_ (fun sv ss hs=>?_);omega)|refine v_put (fun sm hm=>?_)|refine v_del (fun sm hm=>?_)|(refine v_sb ?_ (fun su (And.intro hs hln)=>?_);omega)|refine v_1lk (fun lv hlk=>?_) (fun hlk=>?_)|refine v_ment (fun st sm hm hst=>?_)|refine v_esto (fun sm hm=>?_)|refine v_rng (fun ri ti hit=>?_)|refine v_clone (fun bc sc hcl=>?_)|refine v_yw ?_|(refine v_make ?_ (fun sv ss hs hln=>?_);omega)|refine ⟨?_,?_,?_⟩|refine ⟨?_,?_⟩|(refine v_tyc ?_ ?_;omega)|(refine v_tycT (by decide +kernel) ?_ ?_;omega)|refine v_tValT (by decide +kernel) ?_|(refine v_tsb ?_ (fun su (And.intro hs hln)=>?_);omega)|refine v_tlk (fun lv hlk=>?_) (fun hlk=>?_)|refine v_tlkT (by decide +kernel) (fun lv hlk=>?_) (fun hlk=>?_)|refine v_tyw ?_|refine v_drawn0 (id:=26) pl5_26 (by kernel_rfl) ?_|fail)
        exact v_again (i + 1) (by omega) rfl inferInstance (by omega)
    · repeat' (first | refine stp ?_|(refine v_spT ?_ ?_;omega)|(refine v_spF ?_ ?_;omega)|refine v_spD (fun hc=>?_) (fun hc=>?_)|refine v_spB (fun hc=>?_) (fun hc=>?_)|(refine v_yc ?_ ?_;omega)|refine v_alloc' (fun ba=>?_)|refine v_box (fun bb=>?_)|refine v_lit (fun bl=>?_)|refine v_makeMap (fun bm=>?_)|(refine v_push ?_ (fun sv ss hs hln=>?_);omega)|(refine v_push0 ?_ (fun sv ss hs=>?_);omega)|(refine v_set ?_ (fun ss hs hln=>?_);omega)|(refine v_cat ?_ (fun sv ss hs hln=>?_);omega)|(refine v_cat0 ?_ (fun sv ss hs=>?_);omega)|(refine v_catN ?_ (fun sv ss hs=>?_);omega)|refine v_put (fun sm hm=>?_)|refine v_del (fun sm hm=>?_)|(refine v_sb ?_ (fun su (And.intro hs hln)=>?_);omega)|refine v_1lk (fun lv hlk=>?_) (fun hlk=>?_)|refine v_ment (fun st sm hm hst=>?_)|refine v_esto (fun sm hm=>?_)|refine v_rng (fun ri ti hit=>?_)|refine v_clone (fun bc sc hcl=>?_)|refine v_yw ?_|(refine v_make ?_ (fun sv ss hs hln=>?_);omega)|refine ⟨?_,?_,?_⟩|refine ⟨?_,?_⟩|(refine v_tyc ?_ ?_;omega)|(refine v_tycT (by decide +kernel) ?_ ?_;omega)|refine v_tValT (by decide +kernel) ?_|(refine v_tsb ?_ (fun su (And.intro hs hln)=>?_);omega)|refine v_tlk (fun lv hlk=>?_) (fun hlk=>?_)|refine v_tlkT (by decide +kernel) (fun lv hlk=>?_) (fun hlk=>?_)|refine v_tyw ?_|refine v_drawn0 (id:=26) pl5_26 (by kernel_rfl) ?_|fail)
      refine v_o1 Try.results5 ⟨rfl, rfl⟩ ⟨_, inferInstance⟩
end Go.Proofs.Ytedemhmlaodblaa
