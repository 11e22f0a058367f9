/- Parse, of the program and of the reference. -/
import Derived.Test.YtedemhmlaodblabDoorTd
namespace Go.Proofs.YtedemhmlaodblabDoor
open Go Go.SX Go.RowKit
set_option maxRecDepth 100000
set_option maxHeartbeats 0
set_option synthInstance.maxSize 100000
set_option synthInstance.maxHeartbeats 400000
def PrsIs (l : List UInt8) (v : Value) : Prop := (∃ a b, Gd a b ∧ l = txt a b ∧ v = .tuple #[kv a b, .int .i64 0]) ∨ ((∀ a b, Gd a b → l ≠ txt a b) ∧ v = .tuple #[kv 0 0, .int .i64 25])
theorem txt_ne (a b : Int) : txt a b ≠ [] := by unfold txt; simp
theorem gd_rng {a b : Int} (h : Gd a b) : 0 ≤ a ∧ a < 100000 ∧ 0 ≤ b ∧ b < 100000 := by unfold Gd at h; omega
theorem rd_txt {l : List UInt8} {a b : Int} (h : Gd a b) (e : l = txt a b) : rdA l = a ∧ rdB l = b := by
  obtain ⟨h1, h2, h3, h4⟩ := gd_rng h
  subst e
  exact ⟨rdA_txt h1 h2, rdB_txt h1 h2 h3 h4⟩
theorem prs_same {l : List UInt8} {v v' : Value} (h : PrsIs l v) (h' : PrsIs l v') : v = v' := by
  rcases h with ⟨a, b, h1, h2, rfl⟩ | ⟨h1, rfl⟩ <;> rcases h' with ⟨a', b', h1', h2', rfl⟩ | ⟨h1', rfl⟩
  · obtain ⟨e1, e2⟩ := rd_txt h1 h2
    obtain ⟨e3, e4⟩ := rd_txt h1' h2'
    rw [← e1, ← e2, ← e3, ← e4]
  · exact absurd h2 (h1' _ _ h1)
  · exact absurd h2' (h1 _ _ h1')
  · rfl
/-- a text that is checked is right -/
theorem prs_ok {l : List UInt8} {a b : Int} (h1 : txE a b = 0) (h2 : txS a b = l) : PrsIs l (.tuple #[kv a b, .int .i64 0]) := by
  unfold txE at h1
  by_cases hg : Gd a b
  · unfold txS at h2
    rw [if_pos hg] at h2
    exact .inl ⟨a, b, hg, h2.symm, rfl⟩
  · rw [if_neg hg] at h1; cases h1
section
variable {s0 : Hp} (h0 : VarIs "internal/strconv.uint64pow10" pow10C s0)
include h0
theorem rparse_s (l : List UInt8) (hl : l.length ≤ 281474976710656) : SX.Spec Tryd.prog 13 #[str l] [s0] [] fun v Γ => PrsIs l v ∧ Γ = [] := by
  have hbad : (∀ a b, Gd a b → l = txt a b → txE (rdA l) (rdB l) ≠ 0 ∨ txS (rdA l) (rdB l) ≠ l) → PrsIs l (.tuple #[kv 0 0, .int .i64 25]) := fun h => .inr ⟨fun a b hg e => by
    obtain ⟨e1, e2⟩ := rd_txt hg e
    have := h a b hg e
    rw [e1, e2] at this
    unfold txE txS at this
    rw [if_pos hg, if_pos hg] at this
    rcases this with h | h
    · exact h rfl
    · exact h e.symm, rfl⟩
  refine spec_of1 Tryd.func13 Tryd.ntmps13 rfl rfl (fun M w0 => ?_)
  repeat' (first | refine stp ?_|(refine v_spT ?_ ?_;omega)|(refine v_spF ?_ ?_;omega)|refine v_spD (fun hc=>?_) (fun hc=>?_)|refine v_spB (fun hc=>?_) (fun hc=>?_)|(refine v_yc ?_ ?_;omega)|refine v_allocA (fun ba sal hal=>?_)|refine v_boxA (fun bb sba hba=>?_)|refine v_storeA (fun ss hs=>?_)|refine v_alloc' (fun ba=>?_)|refine v_box (fun bb=>?_)|refine v_lit (fun bl=>?_)|refine v_makeMap (fun bm=>?_)|(refine v_push ?_ (fun sv ss hs hln=>?_);omega)|(refine v_push0 ?_ (fun sv ss hs=>?_);omega)|(refine v_set ?_ (fun ss hs hln=>?_);omega)|(refine v_cat ?_ (fun sv ss hs hln=>?_);omega)|(refine v_cat0 ?_ (fun sv ss hs=>?_);omega)|(refine v_catN ?_ (fun sv ss hs=>?_);omega)|refine v_put (fun sm hm=>?_)|refine v_del (fun sm hm=>?_)|(refine v_sb ?_ (fun su (And.intro hs hln)=>?_);omega)|refine v_1lk (fun lv hlk=>?_) (fun hlk=>?_)|refine v_ment (fun st sm hm hst=>?_)|refine v_esto (fun sm hm=>?_)|refine v_rng (fun ri ti hit=>?_)|refine v_clone (fun bc sc hcl=>?_)|refine v_yw ?_|(refine v_make ?_ (fun sv ss hs hln=>?_);omega)|fail)
  · refine v_o2 Tryd.results13 ⟨.inr ⟨fun a b _ e => ?_, rfl⟩, rfl⟩ ⟨_, inferInstance⟩
    exact txt_ne a b (by rw [← e]; exact List.eq_nil_of_length_eq_zero (by omega))
  · have hn1 : PC Tryd.prog 30 #[str l, .int .i64 1] (.tuple #[.int .i64 (rdA l), .int .i64 (rdK l : Nat)]) := number_s l 1 (by omega) hl
    have hrb : rdB l = if rdK l < l.length then (((nb 0 (l.drop (rdK l + 1))).1 : Nat) : Int) else 0 := rfl
    generalize rdA l = A at *
    generalize hK : rdK l = K at *
    repeat' (first | refine stp ?_|(refine v_spT ?_ ?_;omega)|(refine v_spF ?_ ?_;omega)|refine v_spD (fun hc=>?_) (fun hc=>?_)|refine v_spB (fun hc=>?_) (fun hc=>?_)|(refine v_yc ?_ ?_;omega)|refine v_allocA (fun ba sal hal=>?_)|refine v_boxA (fun bb sba hba=>?_)|refine v_storeA (fun ss hs=>?_)|refine v_alloc' (fun ba=>?_)|refine v_box (fun bb=>?_)|refine v_lit (fun bl=>?_)|refine v_makeMap (fun bm=>?_)|(refine v_push ?_ (fun sv ss hs hln=>?_);omega)|(refine v_push0 ?_ (fun sv ss hs=>?_);omega)|(refine v_set ?_ (fun ss hs hln=>?_);omega)|(refine v_cat ?_ (fun sv ss hs hln=>?_);omega)|(refine v_cat0 ?_ (fun sv ss hs=>?_);omega)|(refine v_catN ?_ (fun sv ss hs=>?_);omega)|refine v_put (fun sm hm=>?_)|refine v_del (fun sm hm=>?_)|(refine v_sb ?_ (fun su (And.intro hs hln)=>?_);omega)|refine v_1lk (fun lv hlk=>?_) (fun hlk=>?_)|refine v_ment (fun st sm hm hst=>?_)|refine v_esto (fun sm hm=>?_)|refine v_rng (fun ri ti hit=>?_)|refine v_clone (fun bc sc hcl=>?_)|refine v_yw ?_|(refine v_make ?_ (fun sv ss hs hln=>?_);omega)|fail)
    · rw [if_pos (by omega)] at hrb
      have hn2 : PC Tryd.prog 30 #[str l, .int .i64 ((K : Int) + 1)] (.tuple #[.int .i64 (rdB l), .int .i64 ((K + 1 : Nat) + ((nb 0 (l.drop (K + 1))).2 : Nat) : Int)]) := by
        rw [hrb]; exact number_s l (K + 1) (by omega) hl
      generalize rdB l = B at *
      repeat' (first | refine stp ?_|(refine v_spT ?_ ?_;omega)|(refine v_spF ?_ ?_;omega)|refine v_spD (fun hc=>?_) (fun hc=>?_)|refine v_spB (fun hc=>?_) (fun hc=>?_)|(refine v_yc ?_ ?_;omega)|refine v_allocA (fun ba sal hal=>?_)|refine v_boxA (fun bb sba hba=>?_)|refine v_storeA (fun ss hs=>?_)|refine v_alloc' (fun ba=>?_)|refine v_box (fun bb=>?_)|refine v_lit (fun bl=>?_)|refine v_makeMap (fun bm=>?_)|(refine v_push ?_ (fun sv ss hs hln=>?_);omega)|(refine v_push0 ?_ (fun sv ss hs=>?_);omega)|(refine v_set ?_ (fun ss hs hln=>?_);omega)|(refine v_cat ?_ (fun sv ss hs hln=>?_);omega)|(refine v_cat0 ?_ (fun sv ss hs=>?_);omega)|(refine v_catN ?_ (fun sv ss hs=>?_);omega)|refine v_put (fun sm hm=>?_)|refine v_del (fun sm hm=>?_)|(refine v_sb ?_ (fun su (And.intro hs hln)=>?_);omega)|refine v_1lk (fun lv hlk=>?_) (fun hlk=>?_)|refine v_ment (fun st sm hm hst=>?_)|refine v_esto (fun sm hm=>?_)|refine v_rng (fun ri ti hit=>?_)|refine v_clone (fun bc sc hcl=>?_)|refine v_yw ?_|(refine v_make ?_ (fun sv ss hs hln=>?_);omega)|fail)
      refine v_callR (rtext_s h0 A B) ?_
      rintro v Γ' ⟨rfl, rfl⟩
      (try dsimp only [List.cons_append, List.nil_append])
      repeat' (first | refine stp ?_|(refine v_spT ?_ ?_;omega)|(refine v_spF ?_ ?_;omega)|refine v_spD (fun hc=>?_) (fun hc=>?_)|refine v_spB (fun hc=>?_) (fun hc=>?_)|(refine v_yc ?_ ?_;omega)|refine v_allocA (fun ba sal hal=>?_)|refine v_boxA (fun bb sba hba=>?_)|refine v_storeA (fun ss hs=>?_)|refine v_alloc' (fun ba=>?_)|refine v_box (fun bb=>?_)|refine v_lit (fun bl=>?_)|refine v_makeMap (fun bm=>?_)|(refine v_push ?_ (fun sv ss hs hln=>?_);omega)|(refine v_push0 ?_ (fun sv ss hs=>?_);omega)|(refine v_set ?_ (fun ss hs hln=>?_);omega)|(refine v_cat ?_ (fun sv ss hs hln=>?_);omega)|(refine v_cat0 ?_ (fun sv ss hs=>?_);omega)|(refine v_catN ?_ (fun sv ss hs=>?_);omega)|refine v_put (fun sm hm=>?_)|refine v_del (fun sm hm=>?_)|(refine v_sb ?_ (fun su (And.intro hs hln)=>?_);omega)|refine v_1lk (fun lv hlk=>?_) (fun hlk=>?_)|refine v_ment (fun st sm hm hst=>?_)|refine v_esto (fun sm hm=>?_)|refine v_rng (fun ri ti hit=>?_)|refine v_clone (fun bc sc hcl=>?_)|refine v_yw ?_|(refine v_make ?_ (fun sv ss hs hln=>?_);omega)|fail)
      · exact v_o2 Tryd.results13 ⟨hbad fun _ _ _ _ => .inl hc, rfl⟩ ⟨_, inferInstance⟩
      · exact v_o2 Tryd.results13 ⟨hbad fun _ _ _ _ => .inr hc, rfl⟩ ⟨_, inferInstance⟩
      · exact v_o2 Tryd.results13 ⟨prs_ok (Decidable.not_not.1 (by assumption)) (Decidable.not_not.1 hc), rfl⟩ ⟨_, inferInstance⟩
    · rw [if_neg (by omega)] at hrb
      rw [hrb] at hbad
      refine v_callR (rtext_s h0 A 0) ?_
      rintro v Γ' ⟨rfl, rfl⟩
      (try dsimp only [List.cons_append, List.nil_append])
      repeat' (first | refine stp ?_|(refine v_spT ?_ ?_;omega)|(refine v_spF ?_ ?_;omega)|refine v_spD (fun hc=>?_) (fun hc=>?_)|refine v_spB (fun hc=>?_) (fun hc=>?_)|(refine v_yc ?_ ?_;omega)|refine v_allocA (fun ba sal hal=>?_)|refine v_boxA (fun bb sba hba=>?_)|refine v_storeA (fun ss hs=>?_)|refine v_alloc' (fun ba=>?_)|refine v_box (fun bb=>?_)|refine v_lit (fun bl=>?_)|refine v_makeMap (fun bm=>?_)|(refine v_push ?_ (fun sv ss hs hln=>?_);omega)|(refine v_push0 ?_ (fun sv ss hs=>?_);omega)|(refine v_set ?_ (fun ss hs hln=>?_);omega)|(refine v_cat ?_ (fun sv ss hs hln=>?_);omega)|(refine v_cat0 ?_ (fun sv ss hs=>?_);omega)|(refine v_catN ?_ (fun sv ss hs=>?_);omega)|refine v_put (fun sm hm=>?_)|refine v_del (fun sm hm=>?_)|(refine v_sb ?_ (fun su (And.intro hs hln)=>?_);omega)|refine v_1lk (fun lv hlk=>?_) (fun hlk=>?_)|refine v_ment (fun st sm hm hst=>?_)|refine v_esto (fun sm hm=>?_)|refine v_rng (fun ri ti hit=>?_)|refine v_clone (fun bc sc hcl=>?_)|refine v_yw ?_|(refine v_make ?_ (fun sv ss hs hln=>?_);omega)|fail)
      · exact v_o2 Tryd.results13 ⟨hbad fun _ _ _ _ => .inl hc, rfl⟩ ⟨_, inferInstance⟩
      · exact v_o2 Tryd.results13 ⟨hbad fun _ _ _ _ => .inr hc, rfl⟩ ⟨_, inferInstance⟩
      · exact v_o2 Tryd.results13 ⟨prs_ok (Decidable.not_not.1 (by assumption)) (Decidable.not_not.1 hc), rfl⟩ ⟨_, inferInstance⟩
variable {s1 s2 : Hp} {t1 t2 : TypeId} {p1 p2 : Value} (h1 : VarIs "strconv.ErrSyntax" #[.iface t1 p1] s1) (h2 : VarIs "strconv.ErrRange" #[.iface t2 p2] s2)
include h1 h2
theorem parse_s (l : List UInt8) (hl : l.length ≤ 281474976710656) : SX.Spec Tryd.prog 12 #[str l] [s0, s1, s2] [] fun v Γ => PrsIs l v ∧ Γ = [] := by
  have hg : ∀ a b, Gd a b → l = txt a b → Lib.hasPrefix l [107] = true ∧ ((cut1 (Lib.trimPrefix l [107]) 46).1 = Lib.itoa a ∧ (cut1 (Lib.trimPrefix l [107]) 46).2.1 = Lib.itoa b ∧ (cut1 (Lib.trimPrefix l [107]) 46).2.2 = true) ∧ (Lib.atoiAll (Lib.itoa a) = .ok a ∧ Lib.atoiAll (Lib.itoa b) = .ok b) ∧ txE a b = 0 ∧ txS a b = l := fun a b hg e => by
    obtain ⟨k1, k2, k3, k4⟩ := gd_rng hg
    subst e
    obtain ⟨e1, e2⟩ := pre_txt a b
    rw [e1, e2]
    have ei : Lib.indexByte (Lib.itoa a ++ 46 :: Lib.itoa b) 46 = (Lib.itoa a).length := by rw [itoa_pos k1]; exact idx_dec _ _ (dec_dig _)
    have ec : cut1 (Lib.itoa a ++ 46 :: Lib.itoa b) 46 = (Lib.itoa a, Lib.itoa b, true) := by
      unfold cut1
      rw [ei, if_pos (Int.natCast_nonneg _), Int.toNat_natCast, List.take_left, show (Lib.itoa a).length + 1 = (Lib.itoa a).length + 1 from rfl, ← List.drop_drop, List.drop_left]
      rfl
    rw [ec]
    have ha : Lib.atoiAll (Lib.itoa a) = .ok a := by rw [itoa_pos k1, atoi_dec (by omega)]; congr 1; omega
    have hb : Lib.atoiAll (Lib.itoa b) = .ok b := by rw [itoa_pos k3, atoi_dec (by omega)]; congr 1; omega
    refine ⟨rfl, ⟨rfl, rfl, rfl⟩, ⟨ha, hb⟩, ?_, ?_⟩
    · unfold txE; rw [if_pos hg]
    · unfold txS; rw [if_pos hg]
  have hr : (Lib.trimPrefix l [107]).length ≤ 281474976710656 := by
    unfold Lib.trimPrefix; split
    · rw [List.length_drop]; omega
    · exact hl
  haveI : Fact' ((Lib.trimPrefix l [107]).length ≤ 281474976710656) := ⟨hr⟩
  have hc1 : (cut1 (Lib.trimPrefix l [107]) 46).1.length ≤ 281474976710656 := by
    unfold cut1; split
    · rw [List.length_take]; omega
    · exact hr
  have hc2 : (cut1 (Lib.trimPrefix l [107]) 46).2.1.length ≤ 281474976710656 := by
    unfold cut1; split
    · rw [List.length_drop]; omega
    · exact Nat.zero_le _
  have hbad : (∀ a b, Gd a b → l = txt a b → False) → PrsIs l (.tuple #[kv 0 0, .int .i64 25]) := fun h => .inr ⟨fun a b hg e => h a b hg e, rfl⟩
  refine spec_of1 Tryd.func12 Tryd.ntmps12 rfl rfl (fun M w0 => ?_)
  repeat' (first | refine stp ?_|(refine v_spT ?_ ?_;omega)|(refine v_spF ?_ ?_;omega)|refine v_spD (fun hc=>?_) (fun hc=>?_)|refine v_spB (fun hc=>?_) (fun hc=>?_)|(refine v_yc ?_ ?_;omega)|refine v_allocA (fun ba sal hal=>?_)|refine v_boxA (fun bb sba hba=>?_)|refine v_storeA (fun ss hs=>?_)|refine v_alloc' (fun ba=>?_)|refine v_box (fun bb=>?_)|refine v_lit (fun bl=>?_)|refine v_makeMap (fun bm=>?_)|(refine v_push ?_ (fun sv ss hs hln=>?_);omega)|(refine v_push0 ?_ (fun sv ss hs=>?_);omega)|(refine v_set ?_ (fun ss hs hln=>?_);omega)|(refine v_cat ?_ (fun sv ss hs hln=>?_);omega)|(refine v_cat0 ?_ (fun sv ss hs=>?_);omega)|(refine v_catN ?_ (fun sv ss hs=>?_);omega)|refine v_put (fun sm hm=>?_)|refine v_del (fun sm hm=>?_)|(refine v_sb ?_ (fun su (And.intro hs hln)=>?_);omega)|refine v_1lk (fun lv hlk=>?_) (fun hlk=>?_)|refine v_ment (fun st sm hm hst=>?_)|refine v_esto (fun sm hm=>?_)|refine v_rng (fun ri ti hit=>?_)|refine v_clone (fun bc sc hcl=>?_)|refine v_yw ?_|(refine v_make ?_ (fun sv ss hs hln=>?_);omega)|fail)
  generalize (cut1 (Lib.trimPrefix l [107]) 46).1 = c1 at *
  generalize (cut1 (Lib.trimPrefix l [107]) 46).2.1 = c2 at *
  generalize (cut1 (Lib.trimPrefix l [107]) 46).2.2 = c3 at *
  generalize Lib.hasPrefix l [107] = P at *
  refine v_callR (atoi_s h1 h2 hc1) ?_
  rintro v Γ' ⟨ha, rfl⟩
  rcases ha with ⟨n, hn, rfl⟩ | ⟨hno, x, t, b, rfl⟩
  · (try dsimp only [List.cons_append, List.nil_append])
    repeat' (first | refine stp ?_|(refine v_spT ?_ ?_;omega)|(refine v_spF ?_ ?_;omega)|refine v_spD (fun hc=>?_) (fun hc=>?_)|refine v_spB (fun hc=>?_) (fun hc=>?_)|(refine v_yc ?_ ?_;omega)|refine v_allocA (fun ba sal hal=>?_)|refine v_boxA (fun bb sba hba=>?_)|refine v_storeA (fun ss hs=>?_)|refine v_alloc' (fun ba=>?_)|refine v_box (fun bb=>?_)|refine v_lit (fun bl=>?_)|refine v_makeMap (fun bm=>?_)|(refine v_push ?_ (fun sv ss hs hln=>?_);omega)|(refine v_push0 ?_ (fun sv ss hs=>?_);omega)|(refine v_set ?_ (fun ss hs hln=>?_);omega)|(refine v_cat ?_ (fun sv ss hs hln=>?_);omega)|(refine v_cat0 ?_ (fun sv ss hs=>?_);omega)|(refine v_catN ?_ (fun sv ss hs=>?_);omega)|refine v_put (fun sm hm=>?_)|refine v_del (fun sm hm=>?_)|(refine v_sb ?_ (fun su (And.intro hs hln)=>?_);omega)|refine v_1lk (fun lv hlk=>?_) (fun hlk=>?_)|refine v_ment (fun st sm hm hst=>?_)|refine v_esto (fun sm hm=>?_)|refine v_rng (fun ri ti hit=>?_)|refine v_clone (fun bc sc hcl=>?_)|refine v_yw ?_|(refine v_make ?_ (fun sv ss hs hln=>?_);omega)|fail)
    refine v_callR (atoi_s h1 h2 hc2) ?_
    rintro v Γ' ⟨ha, rfl⟩
    rcases ha with ⟨m, hm, rfl⟩ | ⟨hno, x, t, b, rfl⟩
    · have key : ∀ a b, Gd a b → l = txt a b → P = true ∧ c3 = true ∧ txE n m = 0 ∧ txS n m = l := fun a b hgd e => by
        obtain ⟨k1, ⟨k2, k3, k4⟩, ⟨k5, k6⟩, k7, k8⟩ := hg a b hgd e
        subst k2; subst k3
        rw [hn] at k5; rw [hm] at k6
        cases k5; cases k6
        exact ⟨k1, k4, k7, k8⟩
      (try dsimp only [List.cons_append, List.nil_append])
      repeat' (first | refine stp ?_|(refine v_spT ?_ ?_;omega)|(refine v_spF ?_ ?_;omega)|refine v_spD (fun hc=>?_) (fun hc=>?_)|refine v_spB (fun hc=>?_) (fun hc=>?_)|(refine v_yc ?_ ?_;omega)|refine v_allocA (fun ba sal hal=>?_)|refine v_boxA (fun bb sba hba=>?_)|refine v_storeA (fun ss hs=>?_)|refine v_alloc' (fun ba=>?_)|refine v_box (fun bb=>?_)|refine v_lit (fun bl=>?_)|refine v_makeMap (fun bm=>?_)|(refine v_push ?_ (fun sv ss hs hln=>?_);omega)|(refine v_push0 ?_ (fun sv ss hs=>?_);omega)|(refine v_set ?_ (fun ss hs hln=>?_);omega)|(refine v_cat ?_ (fun sv ss hs hln=>?_);omega)|(refine v_cat0 ?_ (fun sv ss hs=>?_);omega)|(refine v_catN ?_ (fun sv ss hs=>?_);omega)|refine v_put (fun sm hm=>?_)|refine v_del (fun sm hm=>?_)|(refine v_sb ?_ (fun su (And.intro hs hln)=>?_);omega)|refine v_1lk (fun lv hlk=>?_) (fun hlk=>?_)|refine v_ment (fun st sm hm hst=>?_)|refine v_esto (fun sm hm=>?_)|refine v_rng (fun ri ti hit=>?_)|refine v_clone (fun bc sc hcl=>?_)|refine v_yw ?_|(refine v_make ?_ (fun sv ss hs hln=>?_);omega)|fail)
      refine v_callR (text_s h0 n m) ?_
      rintro v Γ' ⟨rfl, rfl⟩
      (try dsimp only [List.cons_append, List.nil_append])
      repeat' (first | refine stp ?_|(refine v_spT ?_ ?_;omega)|(refine v_spF ?_ ?_;omega)|refine v_spD (fun hc=>?_) (fun hc=>?_)|refine v_spB (fun hc=>?_) (fun hc=>?_)|(refine v_yc ?_ ?_;omega)|refine v_allocA (fun ba sal hal=>?_)|refine v_boxA (fun bb sba hba=>?_)|refine v_storeA (fun ss hs=>?_)|refine v_alloc' (fun ba=>?_)|refine v_box (fun bb=>?_)|refine v_lit (fun bl=>?_)|refine v_makeMap (fun bm=>?_)|(refine v_push ?_ (fun sv ss hs hln=>?_);omega)|(refine v_push0 ?_ (fun sv ss hs=>?_);omega)|(refine v_set ?_ (fun ss hs hln=>?_);omega)|(refine v_cat ?_ (fun sv ss hs hln=>?_);omega)|(refine v_cat0 ?_ (fun sv ss hs=>?_);omega)|(refine v_catN ?_ (fun sv ss hs=>?_);omega)|refine v_put (fun sm hm=>?_)|refine v_del (fun sm hm=>?_)|(refine v_sb ?_ (fun su (And.intro hs hln)=>?_);omega)|refine v_1lk (fun lv hlk=>?_) (fun hlk=>?_)|refine v_ment (fun st sm hm hst=>?_)|refine v_esto (fun sm hm=>?_)|refine v_rng (fun ri ti hit=>?_)|refine v_clone (fun bc sc hcl=>?_)|refine v_yw ?_|(refine v_make ?_ (fun sv ss hs hln=>?_);omega)|fail)
      · exact v_o2 Tryd.results12 ⟨hbad fun a b hgd e => (by have := (key a b hgd e).1; rw [this] at hc; cases hc), rfl⟩ ⟨_, inferInstance⟩
      · exact v_o2 Tryd.results12 ⟨hbad fun a b hgd e => (by have := (key a b hgd e).2.1; rw [this] at hc; cases hc), rfl⟩ ⟨_, inferInstance⟩
      · exact v_o2 Tryd.results12 ⟨hbad fun a b hgd e => hc (key a b hgd e).2.2.1, rfl⟩ ⟨_, inferInstance⟩
      · exact v_o2 Tryd.results12 ⟨hbad fun a b hgd e => hc (key a b hgd e).2.2.2, rfl⟩ ⟨_, inferInstance⟩
      · exact v_o2 Tryd.results12 ⟨prs_ok (Decidable.not_not.1 (by assumption)) (Decidable.not_not.1 hc), rfl⟩ ⟨_, inferInstance⟩
    · have key : ∀ a b, Gd a b → l = txt a b → False := fun a b hgd e => by
        obtain ⟨k1, ⟨k2, k3, k4⟩, ⟨k5, k6⟩, k7, k8⟩ := hg a b hgd e
        rw [k3] at hno
        exact hno _ k6
      (try dsimp only [List.cons_append, List.nil_append])
      repeat' (first | refine stp ?_|(refine v_spT ?_ ?_;omega)|(refine v_spF ?_ ?_;omega)|refine v_spD (fun hc=>?_) (fun hc=>?_)|refine v_spB (fun hc=>?_) (fun hc=>?_)|(refine v_yc ?_ ?_;omega)|refine v_allocA (fun ba sal hal=>?_)|refine v_boxA (fun bb sba hba=>?_)|refine v_storeA (fun ss hs=>?_)|refine v_alloc' (fun ba=>?_)|refine v_box (fun bb=>?_)|refine v_lit (fun bl=>?_)|refine v_makeMap (fun bm=>?_)|(refine v_push ?_ (fun sv ss hs hln=>?_);omega)|(refine v_push0 ?_ (fun sv ss hs=>?_);omega)|(refine v_set ?_ (fun ss hs hln=>?_);omega)|(refine v_cat ?_ (fun sv ss hs hln=>?_);omega)|(refine v_cat0 ?_ (fun sv ss hs=>?_);omega)|(refine v_catN ?_ (fun sv ss hs=>?_);omega)|refine v_put (fun sm hm=>?_)|refine v_del (fun sm hm=>?_)|(refine v_sb ?_ (fun su (And.intro hs hln)=>?_);omega)|refine v_1lk (fun lv hlk=>?_) (fun hlk=>?_)|refine v_ment (fun st sm hm hst=>?_)|refine v_esto (fun sm hm=>?_)|refine v_rng (fun ri ti hit=>?_)|refine v_clone (fun bc sc hcl=>?_)|refine v_yw ?_|(refine v_make ?_ (fun sv ss hs hln=>?_);omega)|fail)
      refine v_callR (text_s h0 n x) ?_
      rintro v Γ' ⟨rfl, rfl⟩
      (try dsimp only [List.cons_append, List.nil_append])
      repeat' (first | refine stp ?_|(refine v_spT ?_ ?_;omega)|(refine v_spF ?_ ?_;omega)|refine v_spD (fun hc=>?_) (fun hc=>?_)|refine v_spB (fun hc=>?_) (fun hc=>?_)|(refine v_yc ?_ ?_;omega)|refine v_allocA (fun ba sal hal=>?_)|refine v_boxA (fun bb sba hba=>?_)|refine v_storeA (fun ss hs=>?_)|refine v_alloc' (fun ba=>?_)|refine v_box (fun bb=>?_)|refine v_lit (fun bl=>?_)|refine v_makeMap (fun bm=>?_)|(refine v_push ?_ (fun sv ss hs hln=>?_);omega)|(refine v_push0 ?_ (fun sv ss hs=>?_);omega)|(refine v_set ?_ (fun ss hs hln=>?_);omega)|(refine v_cat ?_ (fun sv ss hs hln=>?_);omega)|(refine v_cat0 ?_ (fun sv ss hs=>?_);omega)|(refine v_catN ?_ (fun sv ss hs=>?_);omega)|refine v_put (fun sm hm=>?_)|refine v_del (fun sm hm=>?_)|(refine v_sb ?_ (fun su (And.intro hs hln)=>?_);omega)|refine v_1lk (fun lv hlk=>?_) (fun hlk=>?_)|refine v_ment (fun st sm hm hst=>?_)|refine v_esto (fun sm hm=>?_)|refine v_rng (fun ri ti hit=>?_)|refine v_clone (fun bc sc hcl=>?_)|refine v_yw ?_|(refine v_make ?_ (fun sv ss hs hln=>?_);omega)|fail)
      all_goals exact v_o2 Tryd.results12 ⟨hbad key, rfl⟩ ⟨_, inferInstance⟩
  · have key : ∀ a b, Gd a b → l = txt a b → False := fun a b hgd e => by
      obtain ⟨k1, ⟨k2, k3, k4⟩, ⟨k5, k6⟩, k7, k8⟩ := hg a b hgd e
      rw [k2] at hno
      exact hno _ k5
    (try dsimp only [List.cons_append, List.nil_append])
    repeat' (first | refine stp ?_|(refine v_spT ?_ ?_;omega)|(refine v_spF ?_ ?_;omega)|refine v_spD (fun hc=>?_) (fun hc=>?_)|refine v_spB (fun hc=>?_) (fun hc=>?_)|(refine v_yc ?_ ?_;omega)|refine v_allocA (fun ba sal hal=>?_)|refine v_boxA (fun bb sba hba=>?_)|refine v_storeA (fun ss hs=>?_)|refine v_alloc' (fun ba=>?_)|refine v_box (fun bb=>?_)|refine v_lit (fun bl=>?_)|refine v_makeMap (fun bm=>?_)|(refine v_push ?_ (fun sv ss hs hln=>?_);omega)|(refine v_push0 ?_ (fun sv ss hs=>?_);omega)|(refine v_set ?_ (fun ss hs hln=>?_);omega)|(refine v_cat ?_ (fun sv ss hs hln=>?_);omega)|(refine v_cat0 ?_ (fun sv ss hs=>?_);omega)|(refine v_catN ?_ (fun sv ss hs=>?_);omega)|refine v_put (fun sm hm=>?_)|refine v_del (fun sm hm=>?_)|(refine v_sb ?_ (fun su (And.intro hs hln)=>?_);omega)|refine v_1lk (fun lv hlk=>?_) (fun hlk=>?_)|refine v_ment (fun st sm hm hst=>?_)|refine v_esto (fun sm hm=>?_)|refine v_rng (fun ri ti hit=>?_)|refine v_clone (fun bc sc hcl=>?_)|refine v_yw ?_|(refine v_make ?_ (fun sv ss hs hln=>?_);omega)|fail)
    refine v_callR (atoi_s h1 h2 hc2) ?_
    rintro v Γ' ⟨ha, rfl⟩
    rcases ha with ⟨m, hm, rfl⟩ | ⟨hno2, y, t', b', rfl⟩
    · (try dsimp only [List.cons_append, List.nil_append])
      repeat' (first | refine stp ?_|(refine v_spT ?_ ?_;omega)|(refine v_spF ?_ ?_;omega)|refine v_spD (fun hc=>?_) (fun hc=>?_)|refine v_spB (fun hc=>?_) (fun hc=>?_)|(refine v_yc ?_ ?_;omega)|refine v_allocA (fun ba sal hal=>?_)|refine v_boxA (fun bb sba hba=>?_)|refine v_storeA (fun ss hs=>?_)|refine v_alloc' (fun ba=>?_)|refine v_box (fun bb=>?_)|refine v_lit (fun bl=>?_)|refine v_makeMap (fun bm=>?_)|(refine v_push ?_ (fun sv ss hs hln=>?_);omega)|(refine v_push0 ?_ (fun sv ss hs=>?_);omega)|(refine v_set ?_ (fun ss hs hln=>?_);omega)|(refine v_cat ?_ (fun sv ss hs hln=>?_);omega)|(refine v_cat0 ?_ (fun sv ss hs=>?_);omega)|(refine v_catN ?_ (fun sv ss hs=>?_);omega)|refine v_put (fun sm hm=>?_)|refine v_del (fun sm hm=>?_)|(refine v_sb ?_ (fun su (And.intro hs hln)=>?_);omega)|refine v_1lk (fun lv hlk=>?_) (fun hlk=>?_)|refine v_ment (fun st sm hm hst=>?_)|refine v_esto (fun sm hm=>?_)|refine v_rng (fun ri ti hit=>?_)|refine v_clone (fun bc sc hcl=>?_)|refine v_yw ?_|(refine v_make ?_ (fun sv ss hs hln=>?_);omega)|fail)
      refine v_callR (text_s h0 x m) ?_
      rintro v Γ' ⟨rfl, rfl⟩
      (try dsimp only [List.cons_append, List.nil_append])
      repeat' (first | refine stp ?_|(refine v_spT ?_ ?_;omega)|(refine v_spF ?_ ?_;omega)|refine v_spD (fun hc=>?_) (fun hc=>?_)|refine v_spB (fun hc=>?_) (fun hc=>?_)|(refine v_yc ?_ ?_;omega)|refine v_allocA (fun ba sal hal=>?_)|refine v_boxA (fun bb sba hba=>?_)|refine v_storeA (fun ss hs=>?_)|refine v_alloc' (fun ba=>?_)|refine v_box (fun bb=>?_)|refine v_lit (fun bl=>?_)|refine v_makeMap (fun bm=>?_)|(refine v_push ?_ (fun sv ss hs hln=>?_);omega)|(refine v_push0 ?_ (fun sv ss hs=>?_);omega)|(refine v_set ?_ (fun ss hs hln=>?_);omega)|(refine v_cat ?_ (fun sv ss hs hln=>?_);omega)|(refine v_cat0 ?_ (fun sv ss hs=>?_);omega)|(refine v_catN ?_ (fun sv ss hs=>?_);omega)|refine v_put (fun sm hm=>?_)|refine v_del (fun sm hm=>?_)|(refine v_sb ?_ (fun su (And.intro hs hln)=>?_);omega)|refine v_1lk (fun lv hlk=>?_) (fun hlk=>?_)|refine v_ment (fun st sm hm hst=>?_)|refine v_esto (fun sm hm=>?_)|refine v_rng (fun ri ti hit=>?_)|refine v_clone (fun bc sc hcl=>?_)|refine v_yw ?_|(refine v_make ?_ (fun sv ss hs hln=>?_);omega)|fail)
      all_goals exact v_o2 Tryd.results12 ⟨hbad key, rfl⟩ ⟨_, inferInstance⟩
    · (try dsimp only [List.cons_append, List.nil_append])
      repeat' (first | refine stp ?_|(refine v_spT ?_ ?_;omega)|(refine v_spF ?_ ?_;omega)|refine v_spD (fun hc=>?_) (fun hc=>?_)|refine v_spB (fun hc=>?_) (fun hc=>?_)|(refine v_yc ?_ ?_;omega)|refine v_allocA (fun ba sal hal=>?_)|refine v_boxA (fun bb sba hba=>?_)|refine v_storeA (fun ss hs=>?_)|refine v_alloc' (fun ba=>?_)|refine v_box (fun bb=>?_)|refine v_lit (fun bl=>?_)|refine v_makeMap (fun bm=>?_)|(refine v_push ?_ (fun sv ss hs hln=>?_);omega)|(refine v_push0 ?_ (fun sv ss hs=>?_);omega)|(refine v_set ?_ (fun ss hs hln=>?_);omega)|(refine v_cat ?_ (fun sv ss hs hln=>?_);omega)|(refine v_cat0 ?_ (fun sv ss hs=>?_);omega)|(refine v_catN ?_ (fun sv ss hs=>?_);omega)|refine v_put (fun sm hm=>?_)|refine v_del (fun sm hm=>?_)|(refine v_sb ?_ (fun su (And.intro hs hln)=>?_);omega)|refine v_1lk (fun lv hlk=>?_) (fun hlk=>?_)|refine v_ment (fun st sm hm hst=>?_)|refine v_esto (fun sm hm=>?_)|refine v_rng (fun ri ti hit=>?_)|refine v_clone (fun bc sc hcl=>?_)|refine v_yw ?_|(refine v_make ?_ (fun sv ss hs hln=>?_);omega)|fail)
      refine v_callR (text_s h0 x y) ?_
      rintro v Γ' ⟨rfl, rfl⟩
      (try dsimp only [List.cons_append, List.nil_append])
      repeat' (first | refine stp ?_|(refine v_spT ?_ ?_;omega)|(refine v_spF ?_ ?_;omega)|refine v_spD (fun hc=>?_) (fun hc=>?_)|refine v_spB (fun hc=>?_) (fun hc=>?_)|(refine v_yc ?_ ?_;omega)|refine v_allocA (fun ba sal hal=>?_)|refine v_boxA (fun bb sba hba=>?_)|refine v_storeA (fun ss hs=>?_)|refine v_alloc' (fun ba=>?_)|refine v_box (fun bb=>?_)|refine v_lit (fun bl=>?_)|refine v_makeMap (fun bm=>?_)|(refine v_push ?_ (fun sv ss hs hln=>?_);omega)|(refine v_push0 ?_ (fun sv ss hs=>?_);omega)|(refine v_set ?_ (fun ss hs hln=>?_);omega)|(refine v_cat ?_ (fun sv ss hs hln=>?_);omega)|(refine v_cat0 ?_ (fun sv ss hs=>?_);omega)|(refine v_catN ?_ (fun sv ss hs=>?_);omega)|refine v_put (fun sm hm=>?_)|refine v_del (fun sm hm=>?_)|(refine v_sb ?_ (fun su (And.intro hs hln)=>?_);omega)|refine v_1lk (fun lv hlk=>?_) (fun hlk=>?_)|refine v_ment (fun st sm hm hst=>?_)|refine v_esto (fun sm hm=>?_)|refine v_rng (fun ri ti hit=>?_)|refine v_clone (fun bc sc hcl=>?_)|refine v_yw ?_|(refine v_make ?_ (fun sv ss hs hln=>?_);omega)|fail)
      all_goals exact v_o2 Tryd.results12 ⟨hbad key, rfl⟩ ⟨_, inferInstance⟩
end
end Go.Proofs.YtedemhmlaodblabDoor
