/- The reference's closure: a table of least steps. -/
import Derived.Test.YtedemhmlaodblaaKr
namespace Go.Proofs.Ytedemhmlaodblaa
open Go Go.SX Go.RowKit
set_option maxRecDepth 100000
set_option linter.unusedSimpArgs false
set_option linter.unusedVariables false
set_option maxHeartbeats 0
set_option synthInstance.maxSize 100000
set_option synthInstance.maxHeartbeats 400000
abbrev ic (x : Int) : List Value := [.int .i64 x]
def tg (t : List Int) (a : Int) : Int := t.getD a.toNat 0
structure TabOk (t : List Int) : Prop where
  len : t.length = 32768
  lo : ∀ a, 0 ≤ tg t a ∧ tg t a ≤ 256
def Tin (t : List Int) (a s : Int) : Prop := Gd a s ∧ (32768 ≤ a ∨ tg t a ≠ 0 ∧ tg t a - 1 ≤ s)
instance (t : List Int) (a s : Int) : Decidable (Tin t a s) := by unfold Tin; infer_instance
theorem tg_of {t : List Int} {a : Int} (h : a.toNat < t.length) : t[a.toNat] = tg t a := by
  unfold tg; rw [List.getD_eq_getElem?_getD, List.getElem?_eq_getElem h]; rfl
theorem tg_set {t : List Int} {a b z : Int} (h0 : 0 ≤ a) (h1 : a.toNat < t.length) (hb : 0 ≤ b) : tg (t.set a.toNat z) b = if b = a then z else tg t b := by
  unfold tg
  rw [List.getD_eq_getElem?_getD, List.getD_eq_getElem?_getD, List.getElem?_set]
  by_cases e : b = a
  · subst e; simp [h1]
  · have : ¬ a.toNat = b.toNat := by omega
    simp [this, e]
theorem tg_neg {t : List Int} {b : Int} (hb : ¬ 0 ≤ b) : tg t b = tg t 0 := by
  unfold tg; congr 1; omega
theorem TabOk.set {t : List Int} (h : TabOk t) {a z : Int} (h0 : 0 ≤ a) (h1 : a < 32768) (hz : 0 ≤ z ∧ z ≤ 256) : TabOk (t.set a.toNat z) := ⟨by rw [List.length_set]; exact h.len, fun b => by
  have hl := h.len
  have key : ∀ c, 0 ≤ c → 0 ≤ tg (t.set a.toNat z) c ∧ tg (t.set a.toNat z) c ≤ 256 := fun c hc => by
    rw [tg_set h0 (by omega) hc]
    split
    · exact hz
    · exact h.lo c
  by_cases hb : 0 ≤ b
  · exact key b hb
  · rw [tg_neg hb]; exact key 0 (by omega)⟩
theorem TabOk.zero : TabOk (List.replicate 32768 0) := ⟨List.length_replicate, fun a => by
  have : tg (List.replicate 32768 0) a = 0 := by
    unfold tg
    rw [List.getD_eq_getElem?_getD, List.getElem?_replicate]
    split <;> rfl
  omega⟩
theorem rin_s {v : Value} {t : List Int} {s : Hp} (h : AtS v 3 Int 1 ic t s) (ht : TabOk t) (a b : Int) : SX.Spec Try.prog 25 #[v, kv a b] [s] [] fun v Γ' => Γ' = [] ∧ v = .bool (decide (Tin t a b)) := by
  have hlen := ht.len
  have hlo := ht.lo a
  refine spec_of2 Try.func25 Try.ntmps25 rfl rfl (fun M w0 => ?_)
  by_cases hg : Gd a b
  · have hg' := hg
    unfold Gd at hg'
    repeat' (first | (refine v_spF (not_not_intro (by assumption)) ?_)|refine stp ?_|(refine v_spT ?_ ?_;omega)|(refine v_spF ?_ ?_;omega)|refine v_spD (fun hc=>?_) (fun hc=>?_)|refine v_spB (fun hc=>?_) (fun hc=>?_)|(refine v_yc ?_ ?_;omega)|refine v_alloc' (fun ba=>?_)|refine v_box (fun bb=>?_)|refine v_lit (fun bl=>?_)|refine v_makeMap (fun bm=>?_)|(refine v_push ?_ (fun sv ss hs hln=>?_);omega)|(refine v_push0 ?_ (fun sv ss hs=>?_);omega)|(refine v_set ?_ (fun ss hs hln=>?_);omega)|(refine v_cat ?_ (fun sv ss hs hln=>?_);omega)|(refine v_cat0 ?_ (fun sv ss hs=>?_);omega)|(refine v_catN ?_ (fun sv ss hs=>?_);omega)|refine v_put (fun sm hm=>?_)|refine v_del (fun sm hm=>?_)|(refine v_sb ?_ (fun su (And.intro hs hln)=>?_);omega)|refine v_1lk (fun lv hlk=>?_) (fun hlk=>?_)|refine v_ment (fun st sm hm hst=>?_)|refine v_esto (fun sm hm=>?_)|refine v_rng (fun ri ti hit=>?_)|refine v_clone (fun bc sc hcl=>?_)|refine v_yw ?_|(refine v_make ?_ (fun sv ss hs hln=>?_);omega)|refine ⟨?_,?_,?_⟩|refine ⟨?_,?_⟩|(refine v_tyc ?_ ?_;omega)|(refine v_tycT (by decide +kernel) ?_ ?_;omega)|refine v_tValT (by decide +kernel) ?_|(refine v_tsb ?_ (fun su (And.intro hs hln)=>?_);omega)|refine v_tlk (fun lv hlk=>?_) (fun hlk=>?_)|refine v_tlkT (by decide +kernel) (fun lv hlk=>?_) (fun hlk=>?_)|refine v_tyw ?_|refine v_drawn0 (id:=3) pl25_3 (by kernel_rfl) ?_|fail)
    · refine v_o1 Try.results25 ⟨rfl, bT ⟨hg, .inl hc⟩⟩ ⟨_, inferInstance⟩
    · rw [tg_of] at hc
      refine v_o1 Try.results25 ⟨rfl, bD ?_⟩ ⟨_, inferInstance⟩
      rw [tg_of, wr (by omega) (by omega)]
      exact ⟨fun h => ⟨hg, .inr ⟨hc, h⟩⟩, fun h => (h.2.resolve_left (by assumption)).2⟩
    · rw [tg_of] at hc
      refine v_o1 Try.results25 ⟨rfl, bF ?_⟩ ⟨_, inferInstance⟩
      exact fun h => (h.2.elim (fun h => by contradiction) fun h => hc h.1)
  · repeat' (first | (refine v_spT (by assumption) ?_)|refine stp ?_|(refine v_spT ?_ ?_;omega)|(refine v_spF ?_ ?_;omega)|refine v_spD (fun hc=>?_) (fun hc=>?_)|refine v_spB (fun hc=>?_) (fun hc=>?_)|(refine v_yc ?_ ?_;omega)|refine v_alloc' (fun ba=>?_)|refine v_box (fun bb=>?_)|refine v_lit (fun bl=>?_)|refine v_makeMap (fun bm=>?_)|(refine v_push ?_ (fun sv ss hs hln=>?_);omega)|(refine v_push0 ?_ (fun sv ss hs=>?_);omega)|(refine v_set ?_ (fun ss hs hln=>?_);omega)|(refine v_cat ?_ (fun sv ss hs hln=>?_);omega)|(refine v_cat0 ?_ (fun sv ss hs=>?_);omega)|(refine v_catN ?_ (fun sv ss hs=>?_);omega)|refine v_put (fun sm hm=>?_)|refine v_del (fun sm hm=>?_)|(refine v_sb ?_ (fun su (And.intro hs hln)=>?_);omega)|refine v_1lk (fun lv hlk=>?_) (fun hlk=>?_)|refine v_ment (fun st sm hm hst=>?_)|refine v_esto (fun sm hm=>?_)|refine v_rng (fun ri ti hit=>?_)|refine v_clone (fun bc sc hcl=>?_)|refine v_yw ?_|(refine v_make ?_ (fun sv ss hs hln=>?_);omega)|refine ⟨?_,?_,?_⟩|refine ⟨?_,?_⟩|(refine v_tyc ?_ ?_;omega)|(refine v_tycT (by decide +kernel) ?_ ?_;omega)|refine v_tValT (by decide +kernel) ?_|(refine v_tsb ?_ (fun su (And.intro hs hln)=>?_);omega)|refine v_tlk (fun lv hlk=>?_) (fun hlk=>?_)|refine v_tlkT (by decide +kernel) (fun lv hlk=>?_) (fun hlk=>?_)|refine v_tyw ?_|refine v_drawn0 (id:=3) pl25_3 (by kernel_rfl) ?_|fail)
    refine v_o1 Try.results25 ⟨rfl, bF fun h => hg h.1⟩ ⟨_, inferInstance⟩
/-- how much the table may still fall -/
def wt (x : Int) : Nat := if x = 0 then 300 else x.toNat
def tsum (t : List Int) : Nat := (t.map wt).sum
theorem tsum_set : ∀ {t : List Int} {i : Nat} (h : i < t.length) (z : Int), tsum (t.set i z) + wt t[i] = tsum t + wt z
  | x :: t, 0, _, z => by simp [tsum]; omega
  | x :: t, i + 1, h, z => by
    have := tsum_set (t := t) (i := i) (by simpa using h) z
    simp only [tsum, List.set_cons_succ, List.map_cons, List.sum_cons, List.getElem_cons_succ] at this ⊢
    omega
theorem tsum_lt {t : List Int} {a z : Int} (h : a.toNat < t.length) (h0 : 0 < z ∧ z ≤ 256) (hz : tg t a = 0 ∨ z < tg t a) (h1 : 0 ≤ tg t a) : tsum (t.set a.toNat z) < tsum t := by
  have := tsum_set h z
  rw [tg_of h] at this
  have e1 : wt z = z.toNat := by unfold wt; rw [if_neg (by omega)]
  have e2 : z.toNat < wt (tg t a) := by unfold wt; split <;> omega
  omega
/-- the table says nothing that doesn't follow -/
def Tso (told : List ApiKey) (boxes : List ApiBox) (t : List Int) : Prop := ∀ a, 0 ≤ a → a < 32768 → tg t a ≠ 0 → Cl told boxes a (tg t a - 1)
theorem Tso.tin {told : List ApiKey} {boxes : List ApiBox} {t : List Int} (h : Tso told boxes t) {a s : Int} (hi : Tin t a s) : Cl told boxes a s := by
  obtain ⟨g, h1 | ⟨h1, h2⟩⟩ := hi
  · exact .own g h1
  · rcases Int.lt_or_le a 32768 with h3 | h3
    · exact (h a (Int.le_of_lt g.1) h3 h1).up h2 g.2.2.2
    · exact .own g h3
theorem Tso.set {told : List ApiKey} {boxes : List ApiBox} {t : List Int} (h : Tso told boxes t) {a z : Int} (h0 : 0 ≤ a) (h1 : a.toNat < t.length) (hc : Cl told boxes a (z - 1)) : Tso told boxes (t.set a.toNat z) := fun b hb0 hb1 hn => by
  rw [tg_set h0 h1 hb0] at hn ⊢
  split at hn
  · rename_i e; subst e; rw [if_pos rfl]; exact hc
  · rename_i e; rw [if_neg e]; exact h b hb0 hb1 hn
theorem Tin.set {t : List Int} {a z : Int} (h0 : 0 ≤ a) (h1 : a.toNat < t.length) (hz : z ≠ 0) (hl : tg t a = 0 ∨ z < tg t a) {b s : Int} (h : Tin t b s) : Tin (t.set a.toNat z) b s := by
  obtain ⟨g, h2 | ⟨h2, h3⟩⟩ := h
  · exact ⟨g, .inl h2⟩
  · refine ⟨g, .inr ?_⟩
    rw [tg_set h0 h1 (Int.le_of_lt g.1)]
    split
    · rename_i e; subst e; omega
    · exact ⟨h2, h3⟩
theorem Tin.new {t : List Int} {a z : Int} (h0 : 0 ≤ a) (h1 : a.toNat < t.length) (hz : z ≠ 0) {s : Int} (hs : z - 1 ≤ s) (g : Gd a s) : Tin (t.set a.toNat z) a s := ⟨g, .inr (by rw [tg_set h0 h1 h0, if_pos rfl]; exact ⟨hz, hs⟩)⟩
structure T0G where
  i : Nat
  t : List Int
  s : Hp
structure T0Ok (told : List ApiKey) (boxes : List ApiBox) (v : Value) (g : T0G) : Prop where
  le : g.i ≤ told.length
  own : OwnS v 3 Int 1 ic g.t g.s
  ok : TabOk g.t
  so : Tso told boxes g.t
  td : ∀ x ∈ told.take g.i, Tin g.t x.Base x.Step
structure T1G where
  m : Bool
  t : List Int
  s : Hp
structure T1Ok (told : List ApiKey) (boxes : List ApiBox) (v : Value) (g : T1G) : Prop where
  own : OwnS v 3 Int 1 ic g.t g.s
  ok : TabOk g.t
  so : Tso told boxes g.t
  td : ∀ x ∈ told, Tin g.t x.Base x.Step
  bx : g.m = false → ∀ b ∈ boxes, Tin g.t b.Under.Base b.Under.Step → Tin g.t b.Load.Base b.Load.Step
structure T2G where
  i : Nat
  m : Bool
  t : List Int
  s : Hp
structure T2Ok (told : List ApiKey) (boxes : List ApiBox) (v : Value) (m0 : Nat) (g : T2G) : Prop where
  le : g.i ≤ boxes.length
  own : OwnS v 3 Int 1 ic g.t g.s
  ok : TabOk g.t
  so : Tso told boxes g.t
  td : ∀ x ∈ told, Tin g.t x.Base x.Step
  sm : tsum g.t ≤ m0
  sl : g.m = true → tsum g.t < m0
  bx : g.m = false → ∀ b ∈ boxes.take g.i, Tin g.t b.Under.Base b.Under.Step → Tin g.t b.Load.Base b.Load.Step
theorem mem_step {α : Type} {l : List α} {i : Nat} {p : α → Prop} (h : i < l.length) (ha : ∀ x ∈ l.take i, p x) (hb : p l[i]) : ∀ x ∈ l.take (i + 1), p x := fun x hx => by
  rw [List.take_add_one, List.getElem?_eq_getElem h] at hx
  rcases List.mem_append.1 hx with hx | hx
  · exact ha x hx
  · simp only [Option.toList_some, List.mem_singleton] at hx
    exact hx ▸ hb
theorem rclosed_s {br : Nat} {G : RefM} {Γ : List Hp} (h : RefA br G Γ) (hgt : ∀ x ∈ G.told, Gd x.Base x.Step) (hgb : ∀ b ∈ G.boxes, GdB b) : SX.Spec Try.prog 24 #[.pointer (some ⟨br, 0, none⟩)] Γ [] fun v Γ' => ∃ t s, OwnS v 3 Int 1 ic t s ∧ Γ' = [s] ∧ TabOk t ∧ ∀ a b, Tin t a b ↔ Cl G.told G.boxes a b := by
  obtain ⟨v1, v2, v3, s1, s2, s3, rfl, h1, h2, h3⟩ := h
  have hl1 := h1.le
  have hl2 := h2.le
  refine spec_of1 Try.func24 Try.ntmps24 rfl rfl (fun M w0 => ?_)
  repeat' (first | refine stp ?_|(refine v_spT ?_ ?_;omega)|(refine v_spF ?_ ?_;omega)|refine v_spD (fun hc=>?_) (fun hc=>?_)|refine v_spB (fun hc=>?_) (fun hc=>?_)|(refine v_yc ?_ ?_;omega)|refine v_alloc' (fun ba=>?_)|refine v_box (fun bb=>?_)|refine v_lit (fun bl=>?_)|refine v_makeMap (fun bm=>?_)|(refine v_push ?_ (fun sv ss hs hln=>?_);omega)|(refine v_push0 ?_ (fun sv ss hs=>?_);omega)|(refine v_set ?_ (fun ss hs hln=>?_);omega)|(refine v_cat ?_ (fun sv ss hs hln=>?_);omega)|(refine v_cat0 ?_ (fun sv ss hs=>?_);omega)|(refine v_catN ?_ (fun sv ss hs=>?_);omega)|refine v_put (fun sm hm=>?_)|refine v_del (fun sm hm=>?_)|(refine v_sb ?_ (fun su (And.intro hs hln)=>?_);omega)|refine v_1lk (fun lv hlk=>?_) (fun hlk=>?_)|refine v_ment (fun st sm hm hst=>?_)|refine v_esto (fun sm hm=>?_)|refine v_rng (fun ri ti hit=>?_)|refine v_clone (fun bc sc hcl=>?_)|refine v_yw ?_|(refine v_make ?_ (fun sv ss hs hln=>?_);omega)|refine ⟨?_,?_,?_⟩|refine ⟨?_,?_⟩|(refine v_tyc ?_ ?_;omega)|(refine v_tycT (by decide +kernel) ?_ ?_;omega)|refine v_tValT (by decide +kernel) ?_|(refine v_tsb ?_ (fun su (And.intro hs hln)=>?_);omega)|refine v_tlk (fun lv hlk=>?_) (fun hlk=>?_)|refine v_tlkT (by decide +kernel) (fun lv hlk=>?_) (fun hlk=>?_)|refine v_tyw ?_|refine v_drawn0 (id:=5) pl24_5 (by kernel_rfl) ?_|refine v_drawn0 (id:=15) pl24_15 (by kernel_rfl) ?_|fail)
  rw [show (32768 : Int).toNat = 32768 from rfl] at hs
  have hz0 := TabOk.zero
  have hz1 : ∀ a, tg (List.replicate 32768 0) a = 0 := fun a => by
    unfold tg; rw [List.getD_eq_getElem?_getD, List.getElem?_replicate]; split <;> rfl
  clear hln
  generalize List.replicate 32768 (0 : Int) = t0 at hs hz0 hz1
  refine v_lp [16] [0, 3, 14, 15] (fun g : T0G => [.int .i64 g.i]) (fun g => [g.s]) (T0Ok G.told G.boxes sv) (fun g => G.told.length - g.i) ⟨0, t0, _⟩ (fun _ => rfl) rfl inferInstance
    ⟨Nat.zero_le _, hs, hz0, fun a _ _ hn => absurd (hz1 a) hn, by simp⟩ ?_
  clear hs hz0 hz1 t0
  rintro ⟨i, t, s⟩ ⟨hi, hs, hok, hso, htd⟩
  dsimp only at hi hs hok hso htd ⊢
  have hlen := hok.len
  (try dsimp only [zipE_c, zipE_n, List.cons_append, List.nil_append])
  rcases Nat.lt_or_ge i G.told.length with hlt | hge
  · have hg := hgt G.told[i] (List.getElem_mem _)
    have hg' := hg
    have hlo := hok.lo G.told[i].Base
    have hmem : G.told[i] ∈ G.told := List.getElem_mem _
    unfold Gd at hg'
    repeat' (first | refine stp ?_|(refine v_spT ?_ ?_;omega)|(refine v_spF ?_ ?_;omega)|refine v_spD (fun hc=>?_) (fun hc=>?_)|refine v_spB (fun hc=>?_) (fun hc=>?_)|(refine v_yc ?_ ?_;omega)|refine v_alloc' (fun ba=>?_)|refine v_box (fun bb=>?_)|refine v_lit (fun bl=>?_)|refine v_makeMap (fun bm=>?_)|(refine v_push ?_ (fun sv ss hs hln=>?_);omega)|(refine v_push0 ?_ (fun sv ss hs=>?_);omega)|(refine v_set ?_ (fun ss hs hln=>?_);omega)|(refine v_cat ?_ (fun sv ss hs hln=>?_);omega)|(refine v_cat0 ?_ (fun sv ss hs=>?_);omega)|(refine v_catN ?_ (fun sv ss hs=>?_);omega)|refine v_put (fun sm hm=>?_)|refine v_del (fun sm hm=>?_)|(refine v_sb ?_ (fun su (And.intro hs hln)=>?_);omega)|refine v_1lk (fun lv hlk=>?_) (fun hlk=>?_)|refine v_ment (fun st sm hm hst=>?_)|refine v_esto (fun sm hm=>?_)|refine v_rng (fun ri ti hit=>?_)|refine v_clone (fun bc sc hcl=>?_)|refine v_yw ?_|(refine v_make ?_ (fun sv ss hs hln=>?_);omega)|refine ⟨?_,?_,?_⟩|refine ⟨?_,?_⟩|(refine v_tyc ?_ ?_;omega)|(refine v_tycT (by decide +kernel) ?_ ?_;omega)|refine v_tValT (by decide +kernel) ?_|(refine v_tsb ?_ (fun su (And.intro hs hln)=>?_);omega)|refine v_tlk (fun lv hlk=>?_) (fun hlk=>?_)|refine v_tlkT (by decide +kernel) (fun lv hlk=>?_) (fun hlk=>?_)|refine v_tyw ?_|refine v_drawn0 (id:=5) pl24_5 (by kernel_rfl) ?_|refine v_drawn0 (id:=15) pl24_15 (by kernel_rfl) ?_|fail)
    · rw [tg_of] at hc
      refine v_again ⟨i + 1, _, _⟩ (by dsimp only; omega) rfl inferInstance ⟨hlt, hs, hok.set (by omega) (by omega) (by omega), hso.set (by omega) (by omega) (.told hmem rfl (by omega) (by rw [Int.add_sub_cancel]; exact hg)), ?_⟩
      exact mem_step hlt (fun x hx => (htd x hx).set (by omega) (by omega) (by omega) (.inl hc)) (.new (by omega) (by omega) (by omega) (by omega) hg)
    · rw [tg_of] at hc
      refine v_again ⟨i + 1, _, _⟩ (by dsimp only; omega) rfl inferInstance ⟨hlt, hs, hok.set (by omega) (by omega) (by omega), hso.set (by omega) (by omega) (.told hmem rfl (by omega) (by rw [Int.add_sub_cancel]; exact hg)), ?_⟩
      exact mem_step hlt (fun x hx => (htd x hx).set (by omega) (by omega) (by omega) (.inr hc)) (.new (by omega) (by omega) (by omega) (by omega) hg)
    · rename_i hc1 hc2
      rw [tg_of] at hc hc2
      refine v_again ⟨i + 1, _, _⟩ (by dsimp only; omega) rfl inferInstance ⟨hlt, hs, hok, hso, ?_⟩
      exact mem_step hlt htd ⟨hg, .inr ⟨hc2, by dsimp only; omega⟩⟩
    · refine v_again ⟨i + 1, _, _⟩ (by dsimp only; omega) rfl inferInstance ⟨hlt, hs, hok, hso, ?_⟩
      exact mem_step hlt htd ⟨hg, .inl (by omega)⟩
  · rw [List.take_of_length_le hge] at htd
    repeat' (first | refine stp ?_|(refine v_spT ?_ ?_;omega)|(refine v_spF ?_ ?_;omega)|refine v_spD (fun hc=>?_) (fun hc=>?_)|refine v_spB (fun hc=>?_) (fun hc=>?_)|(refine v_yc ?_ ?_;omega)|refine v_alloc' (fun ba=>?_)|refine v_box (fun bb=>?_)|refine v_lit (fun bl=>?_)|refine v_makeMap (fun bm=>?_)|(refine v_push ?_ (fun sv ss hs hln=>?_);omega)|(refine v_push0 ?_ (fun sv ss hs=>?_);omega)|(refine v_set ?_ (fun ss hs hln=>?_);omega)|(refine v_cat ?_ (fun sv ss hs hln=>?_);omega)|(refine v_cat0 ?_ (fun sv ss hs=>?_);omega)|(refine v_catN ?_ (fun sv ss hs=>?_);omega)|refine v_put (fun sm hm=>?_)|refine v_del (fun sm hm=>?_)|(refine v_sb ?_ (fun su (And.intro hs hln)=>?_);omega)|refine v_1lk (fun lv hlk=>?_) (fun hlk=>?_)|refine v_ment (fun st sm hm hst=>?_)|refine v_esto (fun sm hm=>?_)|refine v_rng (fun ri ti hit=>?_)|refine v_clone (fun bc sc hcl=>?_)|refine v_yw ?_|(refine v_make ?_ (fun sv ss hs hln=>?_);omega)|refine ⟨?_,?_,?_⟩|refine ⟨?_,?_⟩|(refine v_tyc ?_ ?_;omega)|(refine v_tycT (by decide +kernel) ?_ ?_;omega)|refine v_tValT (by decide +kernel) ?_|(refine v_tsb ?_ (fun su (And.intro hs hln)=>?_);omega)|refine v_tlk (fun lv hlk=>?_) (fun hlk=>?_)|refine v_tlkT (by decide +kernel) (fun lv hlk=>?_) (fun hlk=>?_)|refine v_tyw ?_|refine v_drawn0 (id:=5) pl24_5 (by kernel_rfl) ?_|refine v_drawn0 (id:=15) pl24_15 (by kernel_rfl) ?_|fail)
    clear hi hge hlen
    refine v_lp [6] [0, 3] (fun g : T1G => [.bool g.m]) (fun g => [g.s]) (T1Ok G.told G.boxes sv) (fun g => 2 * tsum g.t + g.m.toNat) ⟨true, t, s⟩ (fun _ => rfl) rfl inferInstance
      ⟨hs, hok, hso, htd, fun h => by cases h⟩ ?_
    clear hs hok hso htd t s i
    rintro ⟨m, t, s⟩ ⟨hs, hok, hso, htd, hbx⟩
    dsimp only at hs hok hso htd hbx ⊢
    (try dsimp only [zipE_c, zipE_n, List.cons_append, List.nil_append])
    cases m with
    | false =>
      repeat' (first | refine stp ?_|(refine v_spT ?_ ?_;omega)|(refine v_spF ?_ ?_;omega)|refine v_spD (fun hc=>?_) (fun hc=>?_)|refine v_spB (fun hc=>?_) (fun hc=>?_)|(refine v_yc ?_ ?_;omega)|refine v_alloc' (fun ba=>?_)|refine v_box (fun bb=>?_)|refine v_lit (fun bl=>?_)|refine v_makeMap (fun bm=>?_)|(refine v_push ?_ (fun sv ss hs hln=>?_);omega)|(refine v_push0 ?_ (fun sv ss hs=>?_);omega)|(refine v_set ?_ (fun ss hs hln=>?_);omega)|(refine v_cat ?_ (fun sv ss hs hln=>?_);omega)|(refine v_cat0 ?_ (fun sv ss hs=>?_);omega)|(refine v_catN ?_ (fun sv ss hs=>?_);omega)|refine v_put (fun sm hm=>?_)|refine v_del (fun sm hm=>?_)|(refine v_sb ?_ (fun su (And.intro hs hln)=>?_);omega)|refine v_1lk (fun lv hlk=>?_) (fun hlk=>?_)|refine v_ment (fun st sm hm hst=>?_)|refine v_esto (fun sm hm=>?_)|refine v_rng (fun ri ti hit=>?_)|refine v_clone (fun bc sc hcl=>?_)|refine v_yw ?_|(refine v_make ?_ (fun sv ss hs hln=>?_);omega)|refine ⟨?_,?_,?_⟩|refine ⟨?_,?_⟩|(refine v_tyc ?_ ?_;omega)|(refine v_tycT (by decide +kernel) ?_ ?_;omega)|refine v_tValT (by decide +kernel) ?_|(refine v_tsb ?_ (fun su (And.intro hs hln)=>?_);omega)|refine v_tlk (fun lv hlk=>?_) (fun hlk=>?_)|refine v_tlkT (by decide +kernel) (fun lv hlk=>?_) (fun hlk=>?_)|refine v_tyw ?_|refine v_drawn0 (id:=5) pl24_5 (by kernel_rfl) ?_|refine v_drawn0 (id:=15) pl24_15 (by kernel_rfl) ?_|fail)
      refine v_o1 Try.results24 ⟨t, s, hs, rfl, hok, fun a b => ⟨fun h => hso.tin h, fun h => ?_⟩⟩ ⟨_, inferInstance⟩
      induction h with
      | own g h => exact ⟨g, .inl h⟩
      | told hx e hs g =>
        obtain ⟨_, h1 | ⟨h1, h2⟩⟩ := htd _ hx
        · exact ⟨g, .inl (e ▸ h1)⟩
        · exact ⟨g, .inr (e ▸ ⟨h1, by omega⟩)⟩
      | opens hb hu e hs g ih =>
        obtain ⟨_, h1 | ⟨h1, h2⟩⟩ := hbx rfl _ hb ih
        · exact ⟨g, .inl (e ▸ h1)⟩
        · exact ⟨g, .inr (e ▸ ⟨h1, by omega⟩)⟩
    | true =>
      clear hbx
      repeat' (first | refine stp ?_|(refine v_spT ?_ ?_;omega)|(refine v_spF ?_ ?_;omega)|refine v_spD (fun hc=>?_) (fun hc=>?_)|refine v_spB (fun hc=>?_) (fun hc=>?_)|(refine v_yc ?_ ?_;omega)|refine v_alloc' (fun ba=>?_)|refine v_box (fun bb=>?_)|refine v_lit (fun bl=>?_)|refine v_makeMap (fun bm=>?_)|(refine v_push ?_ (fun sv ss hs hln=>?_);omega)|(refine v_push0 ?_ (fun sv ss hs=>?_);omega)|(refine v_set ?_ (fun ss hs hln=>?_);omega)|(refine v_cat ?_ (fun sv ss hs hln=>?_);omega)|(refine v_cat0 ?_ (fun sv ss hs=>?_);omega)|(refine v_catN ?_ (fun sv ss hs=>?_);omega)|refine v_put (fun sm hm=>?_)|refine v_del (fun sm hm=>?_)|(refine v_sb ?_ (fun su (And.intro hs hln)=>?_);omega)|refine v_1lk (fun lv hlk=>?_) (fun hlk=>?_)|refine v_ment (fun st sm hm hst=>?_)|refine v_esto (fun sm hm=>?_)|refine v_rng (fun ri ti hit=>?_)|refine v_clone (fun bc sc hcl=>?_)|refine v_yw ?_|(refine v_make ?_ (fun sv ss hs hln=>?_);omega)|refine ⟨?_,?_,?_⟩|refine ⟨?_,?_⟩|(refine v_tyc ?_ ?_;omega)|(refine v_tycT (by decide +kernel) ?_ ?_;omega)|refine v_tValT (by decide +kernel) ?_|(refine v_tsb ?_ (fun su (And.intro hs hln)=>?_);omega)|refine v_tlk (fun lv hlk=>?_) (fun hlk=>?_)|refine v_tlkT (by decide +kernel) (fun lv hlk=>?_) (fun hlk=>?_)|refine v_tyw ?_|refine v_drawn0 (id:=5) pl24_5 (by kernel_rfl) ?_|refine v_drawn0 (id:=15) pl24_15 (by kernel_rfl) ?_|fail)
      refine v_lp [6, 56] [0, 3, 54, 55] (fun g : T2G => [.bool g.m, .int .i64 g.i]) (fun g => [g.s]) (T2Ok G.told G.boxes sv (tsum t)) (fun g => G.boxes.length - g.i) ⟨0, false, t, s⟩ (fun _ => rfl) rfl inferInstance
        ⟨Nat.zero_le _, hs, hok, hso, htd, Nat.le_refl _, (fun h => by cases h), by simp⟩ ?_
      generalize tsum t = m0 at *
      clear hs hok hso htd t s
      rintro ⟨i, m, t, s⟩ ⟨hi, hs, hok, hso, htd, hsm, hsl, hbx⟩
      dsimp only at hi hs hok hso htd hsm hsl hbx ⊢
      have hlen := hok.len
      (try dsimp only [zipE_c, zipE_n, List.cons_append, List.nil_append])
      rcases Nat.lt_or_ge i G.boxes.length with hlt | hge
      · obtain ⟨hgu, hg⟩ := hgb G.boxes[i] (List.getElem_mem _)
        have hg' := hg
        have hlo := hok.lo G.boxes[i].Load.Base
        have hmem : G.boxes[i] ∈ G.boxes := List.getElem_mem _
        unfold Gd at hg'
        repeat' (first | refine stp ?_|(refine v_spT ?_ ?_;omega)|(refine v_spF ?_ ?_;omega)|refine v_spD (fun hc=>?_) (fun hc=>?_)|refine v_spB (fun hc=>?_) (fun hc=>?_)|(refine v_yc ?_ ?_;omega)|refine v_alloc' (fun ba=>?_)|refine v_box (fun bb=>?_)|refine v_lit (fun bl=>?_)|refine v_makeMap (fun bm=>?_)|(refine v_push ?_ (fun sv ss hs hln=>?_);omega)|(refine v_push0 ?_ (fun sv ss hs=>?_);omega)|(refine v_set ?_ (fun ss hs hln=>?_);omega)|(refine v_cat ?_ (fun sv ss hs hln=>?_);omega)|(refine v_cat0 ?_ (fun sv ss hs=>?_);omega)|(refine v_catN ?_ (fun sv ss hs=>?_);omega)|refine v_put (fun sm hm=>?_)|refine v_del (fun sm hm=>?_)|(refine v_sb ?_ (fun su (And.intro hs hln)=>?_);omega)|refine v_1lk (fun lv hlk=>?_) (fun hlk=>?_)|refine v_ment (fun st sm hm hst=>?_)|refine v_esto (fun sm hm=>?_)|refine v_rng (fun ri ti hit=>?_)|refine v_clone (fun bc sc hcl=>?_)|refine v_yw ?_|(refine v_make ?_ (fun sv ss hs hln=>?_);omega)|refine ⟨?_,?_,?_⟩|refine ⟨?_,?_⟩|(refine v_tyc ?_ ?_;omega)|(refine v_tycT (by decide +kernel) ?_ ?_;omega)|refine v_tValT (by decide +kernel) ?_|(refine v_tsb ?_ (fun su (And.intro hs hln)=>?_);omega)|refine v_tlk (fun lv hlk=>?_) (fun hlk=>?_)|refine v_tlkT (by decide +kernel) (fun lv hlk=>?_) (fun hlk=>?_)|refine v_tyw ?_|refine v_drawn0 (id:=5) pl24_5 (by kernel_rfl) ?_|refine v_drawn0 (id:=15) pl24_15 (by kernel_rfl) ?_|fail)
        refine v_callR (rin_s (ownAt (h := hs)) hok _ _) ?_
        rintro v Γ' ⟨rfl, rfl⟩
        (try dsimp only [List.cons_append, List.nil_append])
        repeat' (first | refine stp ?_|(refine v_spT ?_ ?_;omega)|(refine v_spF ?_ ?_;omega)|refine v_spD (fun hc=>?_) (fun hc=>?_)|refine v_spB (fun hc=>?_) (fun hc=>?_)|(refine v_yc ?_ ?_;omega)|refine v_alloc' (fun ba=>?_)|refine v_box (fun bb=>?_)|refine v_lit (fun bl=>?_)|refine v_makeMap (fun bm=>?_)|(refine v_push ?_ (fun sv ss hs hln=>?_);omega)|(refine v_push0 ?_ (fun sv ss hs=>?_);omega)|(refine v_set ?_ (fun ss hs hln=>?_);omega)|(refine v_cat ?_ (fun sv ss hs hln=>?_);omega)|(refine v_cat0 ?_ (fun sv ss hs=>?_);omega)|(refine v_catN ?_ (fun sv ss hs=>?_);omega)|refine v_put (fun sm hm=>?_)|refine v_del (fun sm hm=>?_)|(refine v_sb ?_ (fun su (And.intro hs hln)=>?_);omega)|refine v_1lk (fun lv hlk=>?_) (fun hlk=>?_)|refine v_ment (fun st sm hm hst=>?_)|refine v_esto (fun sm hm=>?_)|refine v_rng (fun ri ti hit=>?_)|refine v_clone (fun bc sc hcl=>?_)|refine v_yw ?_|(refine v_make ?_ (fun sv ss hs hln=>?_);omega)|refine ⟨?_,?_,?_⟩|refine ⟨?_,?_⟩|(refine v_tyc ?_ ?_;omega)|(refine v_tycT (by decide +kernel) ?_ ?_;omega)|refine v_tValT (by decide +kernel) ?_|(refine v_tsb ?_ (fun su (And.intro hs hln)=>?_);omega)|refine v_tlk (fun lv hlk=>?_) (fun hlk=>?_)|refine v_tlkT (by decide +kernel) (fun lv hlk=>?_) (fun hlk=>?_)|refine v_tyw ?_|refine v_drawn0 (id:=5) pl24_5 (by kernel_rfl) ?_|refine v_drawn0 (id:=15) pl24_15 (by kernel_rfl) ?_|fail)
        · rename_i hcu hcl
          rw [tg_of] at hc
          have hlt2 := Nat.lt_of_lt_of_le (tsum_lt (z := G.boxes[i].Load.Step + 1) (by omega) (by omega) (.inl hc) hlo.1) hsm
          exact v_again ⟨i + 1, true, _, _⟩ (by dsimp only; omega) rfl inferInstance ⟨hlt, hs, hok.set (by omega) (by omega) (by omega), hso.set (by omega) (by omega) (.opens hmem (hso.tin hcu) rfl (by omega) (by rw [Int.add_sub_cancel]; exact hg)),
            fun x hx => (htd x hx).set (by omega) (by omega) (by omega) (.inl hc), Nat.le_of_lt hlt2, fun _ => hlt2, fun h => by cases h⟩
        · rename_i hcu hcl hcn
          rw [tg_of] at hc
          have hlt2 := Nat.lt_of_lt_of_le (tsum_lt (z := G.boxes[i].Load.Step + 1) (by omega) (by omega) (.inr hc) hlo.1) hsm
          exact v_again ⟨i + 1, true, _, _⟩ (by dsimp only; omega) rfl inferInstance ⟨hlt, hs, hok.set (by omega) (by omega) (by omega), hso.set (by omega) (by omega) (.opens hmem (hso.tin hcu) rfl (by omega) (by rw [Int.add_sub_cancel]; exact hg)),
            fun x hx => (htd x hx).set (by omega) (by omega) (by omega) (.inr hc), Nat.le_of_lt hlt2, fun _ => hlt2, fun h => by cases h⟩
        · rename_i hcu hcl hcn
          rw [tg_of] at hc hcn
          exact v_again ⟨i + 1, m, _, _⟩ (by dsimp only; omega) rfl inferInstance ⟨hlt, hs, hok, hso, htd, hsm, hsl, fun hm => mem_step hlt (hbx hm) fun _ => ⟨hg, .inr ⟨hcn, by dsimp only; omega⟩⟩⟩
        · exact v_again ⟨i + 1, m, _, _⟩ (by dsimp only; omega) rfl inferInstance ⟨hlt, hs, hok, hso, htd, hsm, hsl, fun hm => mem_step hlt (hbx hm) fun _ => ⟨hg, .inl (by omega)⟩⟩
        · exact v_again ⟨i + 1, m, _, _⟩ (by dsimp only; omega) rfl inferInstance ⟨hlt, hs, hok, hso, htd, hsm, hsl, fun hm => mem_step hlt (hbx hm) fun h => absurd h hc⟩
      · rw [List.take_of_length_le hge] at hbx
        repeat' (first | refine stp ?_|(refine v_spT ?_ ?_;omega)|(refine v_spF ?_ ?_;omega)|refine v_spD (fun hc=>?_) (fun hc=>?_)|refine v_spB (fun hc=>?_) (fun hc=>?_)|(refine v_yc ?_ ?_;omega)|refine v_alloc' (fun ba=>?_)|refine v_box (fun bb=>?_)|refine v_lit (fun bl=>?_)|refine v_makeMap (fun bm=>?_)|(refine v_push ?_ (fun sv ss hs hln=>?_);omega)|(refine v_push0 ?_ (fun sv ss hs=>?_);omega)|(refine v_set ?_ (fun ss hs hln=>?_);omega)|(refine v_cat ?_ (fun sv ss hs hln=>?_);omega)|(refine v_cat0 ?_ (fun sv ss hs=>?_);omega)|(refine v_catN ?_ (fun sv ss hs=>?_);omega)|refine v_put (fun sm hm=>?_)|refine v_del (fun sm hm=>?_)|(refine v_sb ?_ (fun su (And.intro hs hln)=>?_);omega)|refine v_1lk (fun lv hlk=>?_) (fun hlk=>?_)|refine v_ment (fun st sm hm hst=>?_)|refine v_esto (fun sm hm=>?_)|refine v_rng (fun ri ti hit=>?_)|refine v_clone (fun bc sc hcl=>?_)|refine v_yw ?_|(refine v_make ?_ (fun sv ss hs hln=>?_);omega)|refine ⟨?_,?_,?_⟩|refine ⟨?_,?_⟩|(refine v_tyc ?_ ?_;omega)|(refine v_tycT (by decide +kernel) ?_ ?_;omega)|refine v_tValT (by decide +kernel) ?_|(refine v_tsb ?_ (fun su (And.intro hs hln)=>?_);omega)|refine v_tlk (fun lv hlk=>?_) (fun hlk=>?_)|refine v_tlkT (by decide +kernel) (fun lv hlk=>?_) (fun hlk=>?_)|refine v_tyw ?_|refine v_drawn0 (id:=5) pl24_5 (by kernel_rfl) ?_|refine v_drawn0 (id:=15) pl24_15 (by kernel_rfl) ?_|fail)
        refine v_again ⟨m, t, s⟩ ?_ rfl inferInstance ⟨hs, hok, hso, htd, hbx⟩
        dsimp only
        cases m with
        | false => simp; omega
        | true => have := hsl rfl; simp; omega
end Go.Proofs.Ytedemhmlaodblaa
