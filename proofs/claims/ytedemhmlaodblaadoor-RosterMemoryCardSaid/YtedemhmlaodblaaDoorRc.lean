/- Sets of seats as words: Taken, Count, of the program and of the reference. -/
import Derived.Test.YtedemhmlaodblaaDoorRa
import Derived.Test.YtedemhmlaodblaaDoorRw
namespace Go.Proofs.YtedemhmlaodblaaDoor
open Go Go.SX Go.RowKit
set_option maxRecDepth 100000
set_option maxHeartbeats 0
set_option synthInstance.maxSize 100000
set_option synthInstance.maxHeartbeats 400000
abbrev bc (x : Bool) : List Value := [.bool x]
abbrev bv (p : List Bool) : Value := .agg (cvs bc p).toArray
abbrev wv (p : List Bool) : Value := .int .u64 (wd p : Nat)
/-- the taken seats -/
def tk (l : List ApiEntry) : List Bool := l.map fun x => decide (x.Base ≠ 0)
theorem tk_len (l : List ApiEntry) : (tk l).length = l.length := List.length_map _
instance lenTk (l : List ApiEntry) (n : Nat) [h : LenIs l n] : LenIs (tk l) n := ⟨by rw [tk_len]; exact h.out⟩
theorem tk_take (l : List ApiEntry) {i : Nat} (h : i < l.length) : tk (l.take (i + 1)) = tk (l.take i) ++ [decide (l[i].Base ≠ 0)] := by
  unfold tk
  rw [List.take_add_one, List.getElem?_eq_getElem h, Option.toList_some, List.map_append]; rfl
theorem wd64 {p : List Bool} (h : p.length ≤ 64) : wd p < 18446744073709551616 := by
  have := wd_lt p
  have h2 := Nat.pow_le_pow_right (n := 2) (by decide) h
  omega
theorem shl1 {i : Nat} (h : i < 64) : shlI .u64 1 (IntKind.u64.wrap (i : Int)) = ((2 ^ i : Nat) : Int) := by
  have e : IntKind.u64.wrap (i : Int) = i := by rw [IntKind.wrap_u64]; omega
  have hp : 2 ^ i < 2 ^ 64 := Nat.pow_lt_pow_right (by decide) h
  rw [e]
  unfold shlI
  rw [show IntKind.u64.bits = 64 by rfl, Int.toNat_natCast, Nat.min_eq_left (by omega), Int.one_mul, IntKind.wrap_u64]
  have : ((2 : Int) ^ i) = ((2 ^ i : Nat) : Int) := by simp
  rw [this]; generalize 2 ^ i = q at hp; omega
theorem set_rep {α : Type} {A : List α} {i n : Nat} {z x : α} (h : A.length = i) (hn : i < n) : (A ++ List.replicate (n - i) z).set i x = A ++ [x] ++ List.replicate (n - (i + 1)) z := by
  subst h
  rw [List.set_append_right _ _ (Nat.le_refl _), Nat.sub_self, show n - A.length = (n - (A.length + 1)) + 1 by omega, List.replicate_succ, List.set_cons_zero]
  simp
instance taken_s (l : List ApiEntry) [hl : LenIs l 64] : PC Tryd.prog 20 #[rv l] (wv (tk l)) := ⟨by
  have hll := hl.out
  refine spec_of1 Tryd.func20 Tryd.ntmps20 rfl rfl (fun M w0 => ?_)
  repeat' (first | refine stp ?_|(refine v_spT ?_ ?_;omega)|(refine v_spF ?_ ?_;omega)|refine v_spD (fun hc=>?_) (fun hc=>?_)|refine v_spB (fun hc=>?_) (fun hc=>?_)|(refine v_yc ?_ ?_;omega)|refine v_allocA (fun ba sal hal=>?_)|refine v_boxA (fun bb sba hba=>?_)|refine v_storeA (fun ss hs=>?_)|refine v_alloc' (fun ba=>?_)|refine v_box (fun bb=>?_)|refine v_lit (fun bl=>?_)|refine v_makeMap (fun bm=>?_)|(refine v_push ?_ (fun sv ss hs hln=>?_);omega)|(refine v_push0 ?_ (fun sv ss hs=>?_);omega)|(refine v_set ?_ (fun ss hs hln=>?_);omega)|(refine v_cat ?_ (fun sv ss hs hln=>?_);omega)|(refine v_cat0 ?_ (fun sv ss hs=>?_);omega)|(refine v_catN ?_ (fun sv ss hs=>?_);omega)|refine v_put (fun sm hm=>?_)|refine v_del (fun sm hm=>?_)|(refine v_sb ?_ (fun su (And.intro hs hln)=>?_);omega)|refine v_1lk (fun lv hlk=>?_) (fun hlk=>?_)|refine v_ment (fun st sm hm hst=>?_)|refine v_esto (fun sm hm=>?_)|refine v_rng (fun ri ti hit=>?_)|refine v_clone (fun bc sc hcl=>?_)|refine v_yw ?_|(refine v_make ?_ (fun sv ss hs hln=>?_);omega)|fail)
  refine v_lp [3, 7] [6] (fun i : Nat => [wv (tk (l.take i)), .int .i64 i]) (fun _ => []) (fun i => i ≤ l.length) (fun i => l.length - i) 0 (fun _ => rfl) rfl inferInstance (Nat.zero_le _) ?_
  rintro i hi
  (try dsimp only [zipE_c, zipE_n, List.cons_append, List.nil_append])
  rcases Nat.lt_or_ge i l.length with hlt | hge
  · have e1 := tk_take l hlt
    have hi64 : (tk (l.take i)).length = i := by rw [tk_len, List.length_take]; omega
    have hw := wd_lt (tk (l.take i))
    rw [hi64] at hw
    have hp : 2 ^ i < 18446744073709551616 := Nat.pow_lt_pow_right (a := 2) (m := i) (n := 64) (by decide) (by omega)
    have h0 : 0 ≤ IntKind.u64.wrap (i : Int) := by rw [IntKind.wrap_u64]; omega
    repeat' (first | refine stp ?_|(refine v_spT ?_ ?_;omega)|(refine v_spF ?_ ?_;omega)|refine v_spD (fun hc=>?_) (fun hc=>?_)|refine v_spB (fun hc=>?_) (fun hc=>?_)|(refine v_yc ?_ ?_;omega)|refine v_allocA (fun ba sal hal=>?_)|refine v_boxA (fun bb sba hba=>?_)|refine v_storeA (fun ss hs=>?_)|refine v_alloc' (fun ba=>?_)|refine v_box (fun bb=>?_)|refine v_lit (fun bl=>?_)|refine v_makeMap (fun bm=>?_)|(refine v_push ?_ (fun sv ss hs hln=>?_);omega)|(refine v_push0 ?_ (fun sv ss hs=>?_);omega)|(refine v_set ?_ (fun ss hs hln=>?_);omega)|(refine v_cat ?_ (fun sv ss hs hln=>?_);omega)|(refine v_cat0 ?_ (fun sv ss hs=>?_);omega)|(refine v_catN ?_ (fun sv ss hs=>?_);omega)|refine v_put (fun sm hm=>?_)|refine v_del (fun sm hm=>?_)|(refine v_sb ?_ (fun su (And.intro hs hln)=>?_);omega)|refine v_1lk (fun lv hlk=>?_) (fun hlk=>?_)|refine v_ment (fun st sm hm hst=>?_)|refine v_esto (fun sm hm=>?_)|refine v_rng (fun ri ti hit=>?_)|refine v_clone (fun bc sc hcl=>?_)|refine v_yw ?_|(refine v_make ?_ (fun sv ss hs hln=>?_);omega)|fail)
    · have e2 : bits .or .u64 (wd (tk (l.take i)) : Nat) (shlI .u64 1 (IntKind.u64.wrap (i : Int))) = (wd (tk (l.take (i + 1))) : Nat) := by
        rw [e1, wd_snoc, hi64, decide_eq_true hc, shl1 (by omega), bits_or_u64_nat _ _ (by omega) hp, or_pow hw]
        simp
      exact v_again (i + 1) (by omega) (by rw [e2]; rfl) inferInstance (by omega)
    · have e2 : wd (tk (l.take (i + 1))) = wd (tk (l.take i)) := by
        rw [e1, wd_snoc, decide_eq_false hc]
        simp
      exact v_again (i + 1) (by omega) (by unfold wv; rw [e2]; rfl) inferInstance (by omega)
  · repeat' (first | refine stp ?_|(refine v_spT ?_ ?_;omega)|(refine v_spF ?_ ?_;omega)|refine v_spD (fun hc=>?_) (fun hc=>?_)|refine v_spB (fun hc=>?_) (fun hc=>?_)|(refine v_yc ?_ ?_;omega)|refine v_allocA (fun ba sal hal=>?_)|refine v_boxA (fun bb sba hba=>?_)|refine v_storeA (fun ss hs=>?_)|refine v_alloc' (fun ba=>?_)|refine v_box (fun bb=>?_)|refine v_lit (fun bl=>?_)|refine v_makeMap (fun bm=>?_)|(refine v_push ?_ (fun sv ss hs hln=>?_);omega)|(refine v_push0 ?_ (fun sv ss hs=>?_);omega)|(refine v_set ?_ (fun ss hs hln=>?_);omega)|(refine v_cat ?_ (fun sv ss hs hln=>?_);omega)|(refine v_cat0 ?_ (fun sv ss hs=>?_);omega)|(refine v_catN ?_ (fun sv ss hs=>?_);omega)|refine v_put (fun sm hm=>?_)|refine v_del (fun sm hm=>?_)|(refine v_sb ?_ (fun su (And.intro hs hln)=>?_);omega)|refine v_1lk (fun lv hlk=>?_) (fun hlk=>?_)|refine v_ment (fun st sm hm hst=>?_)|refine v_esto (fun sm hm=>?_)|refine v_rng (fun ri ti hit=>?_)|refine v_clone (fun bc sc hcl=>?_)|refine v_yw ?_|(refine v_make ?_ (fun sv ss hs hln=>?_);omega)|fail)
    refine v_o1 Tryd.results20 ⟨iI ?_, rfl⟩ ⟨_, inferInstance⟩
    rw [List.take_of_length_le hge]⟩
theorem wd_drop (p : List Bool) {i : Nat} (h : i < p.length) : wd (p.drop i) = p[i].toNat + 2 * wd (p.drop (i + 1)) := by
  rw [List.drop_eq_getElem_cons h]; rfl
theorem drop64 {p : List Bool} (h : p.length = 64) (i : Nat) : wd (p.drop i) < 18446744073709551616 := wd64 (by rw [List.length_drop]; omega)
instance word_s (p : List Bool) [hl : LenIs p 64] : PC Tryd.prog 32 #[bv p] (wv p) := ⟨by
  have hll := hl.out
  refine spec_of1 Tryd.func32 Tryd.ntmps32 rfl rfl (fun M w0 => ?_)
  repeat' (first | refine stp ?_|(refine v_spT ?_ ?_;omega)|(refine v_spF ?_ ?_;omega)|refine v_spD (fun hc=>?_) (fun hc=>?_)|refine v_spB (fun hc=>?_) (fun hc=>?_)|(refine v_yc ?_ ?_;omega)|refine v_allocA (fun ba sal hal=>?_)|refine v_boxA (fun bb sba hba=>?_)|refine v_storeA (fun ss hs=>?_)|refine v_alloc' (fun ba=>?_)|refine v_box (fun bb=>?_)|refine v_lit (fun bl=>?_)|refine v_makeMap (fun bm=>?_)|(refine v_push ?_ (fun sv ss hs hln=>?_);omega)|(refine v_push0 ?_ (fun sv ss hs=>?_);omega)|(refine v_set ?_ (fun ss hs hln=>?_);omega)|(refine v_cat ?_ (fun sv ss hs hln=>?_);omega)|(refine v_cat0 ?_ (fun sv ss hs=>?_);omega)|(refine v_catN ?_ (fun sv ss hs=>?_);omega)|refine v_put (fun sm hm=>?_)|refine v_del (fun sm hm=>?_)|(refine v_sb ?_ (fun su (And.intro hs hln)=>?_);omega)|refine v_1lk (fun lv hlk=>?_) (fun hlk=>?_)|refine v_ment (fun st sm hm hst=>?_)|refine v_esto (fun sm hm=>?_)|refine v_rng (fun ri ti hit=>?_)|refine v_clone (fun bc sc hcl=>?_)|refine v_yw ?_|(refine v_make ?_ (fun sv ss hs hln=>?_);omega)|fail)
  refine v_lp [3, 4] [1] (fun k : Nat => [wv (p.drop k), .int .i64 ((k : Int) - 1)]) (fun _ => [sba]) (fun k => k ≤ p.length) (fun k => k) 64 (fun _ => rfl) (by rw [List.drop_of_length_le (by omega)]; rfl) inferInstance (by omega) ?_
  rintro k hk
  (try dsimp only [zipE_c, zipE_n, List.cons_append, List.nil_append])
  cases k with
  | succ k =>
    rw [show ((k + 1 : Nat) : Int) - 1 = (k : Int) by omega]
    have hd := wd_drop p (i := k) (by omega)
    have hd1 := drop64 hll k
    have hw1 : IntKind.u64.wrap ((wd (p.drop (k + 1)) : Int) * 2) = ((wd (p.drop (k + 1)) * 2 : Nat) : Int) := by rw [IntKind.wrap_u64]; omega
    rw [show ((wd (p.drop (k + 1)) : Nat) : Int) = (wd (p.drop (k + 1)) : Nat) from rfl] at *
    repeat' (first | refine stp ?_|(refine v_spT ?_ ?_;omega)|(refine v_spF ?_ ?_;omega)|refine v_spD (fun hc=>?_) (fun hc=>?_)|refine v_spB (fun hc=>?_) (fun hc=>?_)|(refine v_yc ?_ ?_;omega)|refine v_allocA (fun ba sal hal=>?_)|refine v_boxA (fun bb sba hba=>?_)|refine v_storeA (fun ss hs=>?_)|refine v_alloc' (fun ba=>?_)|refine v_box (fun bb=>?_)|refine v_lit (fun bl=>?_)|refine v_makeMap (fun bm=>?_)|(refine v_push ?_ (fun sv ss hs hln=>?_);omega)|(refine v_push0 ?_ (fun sv ss hs=>?_);omega)|(refine v_set ?_ (fun ss hs hln=>?_);omega)|(refine v_cat ?_ (fun sv ss hs hln=>?_);omega)|(refine v_cat0 ?_ (fun sv ss hs=>?_);omega)|(refine v_catN ?_ (fun sv ss hs=>?_);omega)|refine v_put (fun sm hm=>?_)|refine v_del (fun sm hm=>?_)|(refine v_sb ?_ (fun su (And.intro hs hln)=>?_);omega)|refine v_1lk (fun lv hlk=>?_) (fun hlk=>?_)|refine v_ment (fun st sm hm hst=>?_)|refine v_esto (fun sm hm=>?_)|refine v_rng (fun ri ti hit=>?_)|refine v_clone (fun bc sc hcl=>?_)|refine v_yw ?_|(refine v_make ?_ (fun sv ss hs hln=>?_);omega)|fail)
    · have e2 : IntKind.u64.wrap (IntKind.u64.wrap ((wd (p.drop (k + 1)) : Nat) * 2) + 1) = (wd (p.drop k) : Nat) := by
        rw [hw1, hd, hc, IntKind.wrap_u64]; rw [hd, hc] at hd1; simp at hd1 ⊢; omega
      exact v_again k (by omega) (by unfold wv; rw [e2]) inferInstance (by omega)
    · have e2 : IntKind.u64.wrap ((wd (p.drop (k + 1)) : Nat) * 2) = (wd (p.drop k) : Nat) := by
        rw [hw1, hd, hc]; simp; omega
      exact v_again k (by omega) (by unfold wv; rw [e2]) inferInstance (by omega)
  | zero =>
    repeat' (first | refine stp ?_|(refine v_spT ?_ ?_;omega)|(refine v_spF ?_ ?_;omega)|refine v_spD (fun hc=>?_) (fun hc=>?_)|refine v_spB (fun hc=>?_) (fun hc=>?_)|(refine v_yc ?_ ?_;omega)|refine v_allocA (fun ba sal hal=>?_)|refine v_boxA (fun bb sba hba=>?_)|refine v_storeA (fun ss hs=>?_)|refine v_alloc' (fun ba=>?_)|refine v_box (fun bb=>?_)|refine v_lit (fun bl=>?_)|refine v_makeMap (fun bm=>?_)|(refine v_push ?_ (fun sv ss hs hln=>?_);omega)|(refine v_push0 ?_ (fun sv ss hs=>?_);omega)|(refine v_set ?_ (fun ss hs hln=>?_);omega)|(refine v_cat ?_ (fun sv ss hs hln=>?_);omega)|(refine v_cat0 ?_ (fun sv ss hs=>?_);omega)|(refine v_catN ?_ (fun sv ss hs=>?_);omega)|refine v_put (fun sm hm=>?_)|refine v_del (fun sm hm=>?_)|(refine v_sb ?_ (fun su (And.intro hs hln)=>?_);omega)|refine v_1lk (fun lv hlk=>?_) (fun hlk=>?_)|refine v_ment (fun st sm hm hst=>?_)|refine v_esto (fun sm hm=>?_)|refine v_rng (fun ri ti hit=>?_)|refine v_clone (fun bc sc hcl=>?_)|refine v_yw ?_|(refine v_make ?_ (fun sv ss hs hln=>?_);omega)|fail)
    refine v_o1 Tryd.results32 ⟨iI ?_, rfl⟩ ⟨_, inferInstance⟩
    rfl⟩
instance rtaken_s (l : List ApiEntry) [hl : LenIs l 64] : PC Tryd.prog 21 #[rv l] (wv (tk l)) := ⟨by
  have hll := hl.out
  refine spec_of1 Tryd.func21 Tryd.ntmps21 rfl rfl (fun M w0 => ?_)
  repeat' (first | refine stp ?_|(refine v_spT ?_ ?_;omega)|(refine v_spF ?_ ?_;omega)|refine v_spD (fun hc=>?_) (fun hc=>?_)|refine v_spB (fun hc=>?_) (fun hc=>?_)|(refine v_yc ?_ ?_;omega)|refine v_allocA (fun ba sal hal=>?_)|refine v_boxA (fun bb sba hba=>?_)|refine v_storeA (fun ss hs=>?_)|refine v_alloc' (fun ba=>?_)|refine v_box (fun bb=>?_)|refine v_lit (fun bl=>?_)|refine v_makeMap (fun bm=>?_)|(refine v_push ?_ (fun sv ss hs hln=>?_);omega)|(refine v_push0 ?_ (fun sv ss hs=>?_);omega)|(refine v_set ?_ (fun ss hs hln=>?_);omega)|(refine v_cat ?_ (fun sv ss hs hln=>?_);omega)|(refine v_cat0 ?_ (fun sv ss hs=>?_);omega)|(refine v_catN ?_ (fun sv ss hs=>?_);omega)|refine v_put (fun sm hm=>?_)|refine v_del (fun sm hm=>?_)|(refine v_sb ?_ (fun su (And.intro hs hln)=>?_);omega)|refine v_1lk (fun lv hlk=>?_) (fun hlk=>?_)|refine v_ment (fun st sm hm hst=>?_)|refine v_esto (fun sm hm=>?_)|refine v_rng (fun ri ti hit=>?_)|refine v_clone (fun bc sc hcl=>?_)|refine v_yw ?_|(refine v_make ?_ (fun sv ss hs hln=>?_);omega)|fail)
  refine v_lp [4] [1, 3] (fun g : Nat × Hp => [.int .i64 g.1]) (fun g => [g.2, sba]) (fun g => g.1 ≤ 64 ∧ OwnS (arr ba 64) 4 Bool 1 bc (tk (l.take g.1) ++ List.replicate (64 - g.1) false) g.2) (fun g => 64 - g.1) ⟨0, sal⟩ (fun _ => rfl) rfl inferInstance ⟨Nat.zero_le _, by simpa [tk] using hal⟩ ?_
  clear hal sal
  rintro ⟨i, sp⟩ ⟨hi, hsp⟩
  dsimp only at hi hsp ⊢
  (try dsimp only [zipE_c, zipE_n, List.cons_append, List.nil_append])
  have hlp : (tk (l.take i) ++ List.replicate (64 - i) false).length = 64 := by rw [List.length_append, tk_len, List.length_take, List.length_replicate]; omega
  rcases Nat.lt_or_ge i 64 with hlt | hge
  · have e1 : (tk (l.take i) ++ List.replicate (64 - i) false).set i (decide (l[i].Base ≠ 0)) = tk (l.take (i + 1)) ++ List.replicate (64 - (i + 1)) false := by
      rw [tk_take l (by omega), set_rep (by rw [tk_len, List.length_take]; omega) (by omega)]
    repeat' (first | refine stp ?_|(refine v_spT ?_ ?_;omega)|(refine v_spF ?_ ?_;omega)|refine v_spD (fun hc=>?_) (fun hc=>?_)|refine v_spB (fun hc=>?_) (fun hc=>?_)|(refine v_yc ?_ ?_;omega)|refine v_allocA (fun ba sal hal=>?_)|refine v_boxA (fun bb sba hba=>?_)|refine v_storeA (fun ss hs=>?_)|refine v_alloc' (fun ba=>?_)|refine v_box (fun bb=>?_)|refine v_lit (fun bl=>?_)|refine v_makeMap (fun bm=>?_)|(refine v_push ?_ (fun sv ss hs hln=>?_);omega)|(refine v_push0 ?_ (fun sv ss hs=>?_);omega)|(refine v_set ?_ (fun ss hs hln=>?_);omega)|(refine v_cat ?_ (fun sv ss hs hln=>?_);omega)|(refine v_cat0 ?_ (fun sv ss hs=>?_);omega)|(refine v_catN ?_ (fun sv ss hs=>?_);omega)|refine v_put (fun sm hm=>?_)|refine v_del (fun sm hm=>?_)|(refine v_sb ?_ (fun su (And.intro hs hln)=>?_);omega)|refine v_1lk (fun lv hlk=>?_) (fun hlk=>?_)|refine v_ment (fun st sm hm hst=>?_)|refine v_esto (fun sm hm=>?_)|refine v_rng (fun ri ti hit=>?_)|refine v_clone (fun bc sc hcl=>?_)|refine v_yw ?_|(refine v_make ?_ (fun sv ss hs hln=>?_);omega)|fail)
    rw [e1] at hs
    exact v_again ⟨i + 1, ss⟩ (by dsimp only; omega) rfl inferInstance ⟨by dsimp only; omega, hs⟩
  · have e1 : tk (l.take i) ++ List.replicate (64 - i) false = tk l := by
      rw [List.take_of_length_le (by omega), show 64 - i = 0 by omega]; simp
    rw [e1] at hsp
    repeat' (first | refine stp ?_|(refine v_spT ?_ ?_;omega)|(refine v_spF ?_ ?_;omega)|refine v_spD (fun hc=>?_) (fun hc=>?_)|refine v_spB (fun hc=>?_) (fun hc=>?_)|(refine v_yc ?_ ?_;omega)|refine v_allocA (fun ba sal hal=>?_)|refine v_boxA (fun bb sba hba=>?_)|refine v_storeA (fun ss hs=>?_)|refine v_alloc' (fun ba=>?_)|refine v_box (fun bb=>?_)|refine v_lit (fun bl=>?_)|refine v_makeMap (fun bm=>?_)|(refine v_push ?_ (fun sv ss hs hln=>?_);omega)|(refine v_push0 ?_ (fun sv ss hs=>?_);omega)|(refine v_set ?_ (fun ss hs hln=>?_);omega)|(refine v_cat ?_ (fun sv ss hs hln=>?_);omega)|(refine v_cat0 ?_ (fun sv ss hs=>?_);omega)|(refine v_catN ?_ (fun sv ss hs=>?_);omega)|refine v_put (fun sm hm=>?_)|refine v_del (fun sm hm=>?_)|(refine v_sb ?_ (fun su (And.intro hs hln)=>?_);omega)|refine v_1lk (fun lv hlk=>?_) (fun hlk=>?_)|refine v_ment (fun st sm hm hst=>?_)|refine v_esto (fun sm hm=>?_)|refine v_rng (fun ri ti hit=>?_)|refine v_clone (fun bc sc hcl=>?_)|refine v_yw ?_|(refine v_make ?_ (fun sv ss hs hln=>?_);omega)|fail)
    refine v_o1 Tryd.results21 ⟨rfl, rfl⟩ ⟨_, inferInstance⟩⟩
theorem places_len (p : List Bool) (i : Nat) (h : p.length = 64) (hi : i ≤ 64) : (p.take i ++ List.replicate (64 - i) false).length = 64 := by rw [List.length_append, List.length_take, List.length_replicate]; omega
instance places_s (p : List Bool) [hl : LenIs p 64] : PC Tryd.prog 45 #[wv p] (bv p) := ⟨by
  have hll := hl.out
  refine spec_of1 Tryd.func45 Tryd.ntmps45 rfl rfl (fun M w0 => ?_)
  repeat' (first | refine stp ?_|(refine v_spT ?_ ?_;omega)|(refine v_spF ?_ ?_;omega)|refine v_spD (fun hc=>?_) (fun hc=>?_)|refine v_spB (fun hc=>?_) (fun hc=>?_)|(refine v_yc ?_ ?_;omega)|refine v_allocA (fun ba sal hal=>?_)|refine v_boxA (fun bb sba hba=>?_)|refine v_storeA (fun ss hs=>?_)|refine v_alloc' (fun ba=>?_)|refine v_box (fun bb=>?_)|refine v_lit (fun bl=>?_)|refine v_makeMap (fun bm=>?_)|(refine v_push ?_ (fun sv ss hs hln=>?_);omega)|(refine v_push0 ?_ (fun sv ss hs=>?_);omega)|(refine v_set ?_ (fun ss hs hln=>?_);omega)|(refine v_cat ?_ (fun sv ss hs hln=>?_);omega)|(refine v_cat0 ?_ (fun sv ss hs=>?_);omega)|(refine v_catN ?_ (fun sv ss hs=>?_);omega)|refine v_put (fun sm hm=>?_)|refine v_del (fun sm hm=>?_)|(refine v_sb ?_ (fun su (And.intro hs hln)=>?_);omega)|refine v_1lk (fun lv hlk=>?_) (fun hlk=>?_)|refine v_ment (fun st sm hm hst=>?_)|refine v_esto (fun sm hm=>?_)|refine v_rng (fun ri ti hit=>?_)|refine v_clone (fun bc sc hcl=>?_)|refine v_yw ?_|(refine v_make ?_ (fun sv ss hs hln=>?_);omega)|fail)
  rename_i b2 s2 hs2
  refine v_lp [0, 4] [2, 3] (fun g : Nat × Hp => [wv (p.drop g.1), .int .i64 g.1]) (fun g => [g.2, s2]) (fun g => g.1 ≤ 64 ∧ OwnS (arr ba 64) 4 Bool 1 bc (p.take g.1 ++ List.replicate (64 - g.1) false) g.2) (fun g => 64 - g.1) ⟨0, sal⟩ (fun _ => rfl) rfl inferInstance ⟨Nat.zero_le _, by simpa using hal⟩ ?_
  clear hal sal
  rintro ⟨i, sp⟩ ⟨hi, hsp⟩
  dsimp only at hi hsp ⊢
  (try dsimp only [zipE_c, zipE_n, List.cons_append, List.nil_append])
  have hlp := places_len p i hll hi
  rcases Nat.lt_or_ge i 64 with hlt | hge
  · have hd := wd_drop p (i := i) (by omega)
    have hd1 := drop64 hll i
    have hbt : p[i].toNat ≤ 1 := Bool.toNat_le _
    have e2 : (wd (p.drop i) : Int).tmod 2 = p[i].toNat := by rw [Int.tmod_eq_emod_of_nonneg (by omega)]; omega
    have e3 : decide ((wd (p.drop i) : Int).tmod 2 = 1) = p[i] := by
      rw [e2]; cases p[i] <;> rfl
    have e4 : IntKind.u64.wrap ((wd (p.drop i) : Int).tdiv 2) = (wd (p.drop (i + 1)) : Nat) := by rw [IntKind.wrap_u64, Int.tdiv_eq_ediv_of_nonneg (by omega)]; omega
    have e1 : (p.take i ++ List.replicate (64 - i) false).set i p[i] = p.take (i + 1) ++ List.replicate (64 - (i + 1)) false := by
      rw [List.take_add_one, List.getElem?_eq_getElem (by omega), Option.toList_some, set_rep (by rw [List.length_take]; omega) (by omega)]
    repeat' (first | refine stp ?_|(refine v_spT ?_ ?_;omega)|(refine v_spF ?_ ?_;omega)|refine v_spD (fun hc=>?_) (fun hc=>?_)|refine v_spB (fun hc=>?_) (fun hc=>?_)|(refine v_yc ?_ ?_;omega)|refine v_allocA (fun ba sal hal=>?_)|refine v_boxA (fun bb sba hba=>?_)|refine v_storeA (fun ss hs=>?_)|refine v_alloc' (fun ba=>?_)|refine v_box (fun bb=>?_)|refine v_lit (fun bl=>?_)|refine v_makeMap (fun bm=>?_)|(refine v_push ?_ (fun sv ss hs hln=>?_);omega)|(refine v_push0 ?_ (fun sv ss hs=>?_);omega)|(refine v_set ?_ (fun ss hs hln=>?_);omega)|(refine v_cat ?_ (fun sv ss hs hln=>?_);omega)|(refine v_cat0 ?_ (fun sv ss hs=>?_);omega)|(refine v_catN ?_ (fun sv ss hs=>?_);omega)|refine v_put (fun sm hm=>?_)|refine v_del (fun sm hm=>?_)|(refine v_sb ?_ (fun su (And.intro hs hln)=>?_);omega)|refine v_1lk (fun lv hlk=>?_) (fun hlk=>?_)|refine v_ment (fun st sm hm hst=>?_)|refine v_esto (fun sm hm=>?_)|refine v_rng (fun ri ti hit=>?_)|refine v_clone (fun bc sc hcl=>?_)|refine v_yw ?_|(refine v_make ?_ (fun sv ss hs hln=>?_);omega)|fail)
    rw [e3, e1] at hs
    exact v_again ⟨i + 1, ss⟩ (by dsimp only; omega) (by unfold wv; rw [e4]; rfl) inferInstance ⟨by dsimp only; omega, hs⟩
  · have e1 : p.take i ++ List.replicate (64 - i) false = p := by
      rw [List.take_of_length_le (by omega), show 64 - i = 0 by omega]; simp
    rw [e1] at hsp
    repeat' (first | refine stp ?_|(refine v_spT ?_ ?_;omega)|(refine v_spF ?_ ?_;omega)|refine v_spD (fun hc=>?_) (fun hc=>?_)|refine v_spB (fun hc=>?_) (fun hc=>?_)|(refine v_yc ?_ ?_;omega)|refine v_allocA (fun ba sal hal=>?_)|refine v_boxA (fun bb sba hba=>?_)|refine v_storeA (fun ss hs=>?_)|refine v_alloc' (fun ba=>?_)|refine v_box (fun bb=>?_)|refine v_lit (fun bl=>?_)|refine v_makeMap (fun bm=>?_)|(refine v_push ?_ (fun sv ss hs hln=>?_);omega)|(refine v_push0 ?_ (fun sv ss hs=>?_);omega)|(refine v_set ?_ (fun ss hs hln=>?_);omega)|(refine v_cat ?_ (fun sv ss hs hln=>?_);omega)|(refine v_cat0 ?_ (fun sv ss hs=>?_);omega)|(refine v_catN ?_ (fun sv ss hs=>?_);omega)|refine v_put (fun sm hm=>?_)|refine v_del (fun sm hm=>?_)|(refine v_sb ?_ (fun su (And.intro hs hln)=>?_);omega)|refine v_1lk (fun lv hlk=>?_) (fun hlk=>?_)|refine v_ment (fun st sm hm hst=>?_)|refine v_esto (fun sm hm=>?_)|refine v_rng (fun ri ti hit=>?_)|refine v_clone (fun bc sc hcl=>?_)|refine v_yw ?_|(refine v_make ?_ (fun sv ss hs hln=>?_);omega)|fail)
    refine v_o1 Tryd.results45 ⟨rfl, rfl⟩ ⟨_, inferInstance⟩⟩
/-- the places that are in -/
def idx (p : List Bool) : List Int := (p.zipIdx.filter fun x => x.1).map fun x => (x.2 : Int)
theorem idx_snoc (p : List Bool) (b : Bool) : idx (p ++ [b]) = idx p ++ (if b = true then [(p.length : Int)] else []) := by
  unfold idx
  rw [List.zipIdx_append, List.filter_append, List.map_append]
  cases b <;> simp
theorem idx_len (p : List Bool) : (idx p).length = p.count true := by
  unfold idx
  rw [List.length_map]
  have : ∀ (p : List Bool) (k : Nat), ((p.zipIdx k).filter fun x => x.1).length = p.count true := by
    intro p
    induction p with
    | nil => intro k; simp
    | cons b p ih => intro k; cases b <;> simp [ih]
  exact this p 0
structure LsG where
  i : Nat
  ov : Value
  os : Hp
structure LsOk (p : List Bool) (g : LsG) : Prop where
  le : g.i ≤ 64
  own : OwnS g.ov 3 Int 1 ic (idx (p.take g.i)) g.os
theorem list_s (p : List Bool) [hl : LenIs p 64] : SX.Spec Tryd.prog 38 #[wv p] [] [] fun v Γ => ∃ s, OwnS v 3 Int 1 ic (idx p) s ∧ Γ = [s] := by
  have hll := hl.out
  refine spec_of1 Tryd.func38 Tryd.ntmps38 rfl rfl (fun M w0 => ?_)
  repeat' (first | refine stp ?_|(refine v_spT ?_ ?_;omega)|(refine v_spF ?_ ?_;omega)|refine v_spD (fun hc=>?_) (fun hc=>?_)|refine v_spB (fun hc=>?_) (fun hc=>?_)|(refine v_yc ?_ ?_;omega)|refine v_allocA (fun ba sal hal=>?_)|refine v_boxA (fun bb sba hba=>?_)|refine v_storeA (fun ss hs=>?_)|refine v_alloc' (fun ba=>?_)|refine v_box (fun bb=>?_)|refine v_lit (fun bl=>?_)|refine v_makeMap (fun bm=>?_)|(refine v_push ?_ (fun sv ss hs hln=>?_);omega)|(refine v_push0 ?_ (fun sv ss hs=>?_);omega)|(refine v_set ?_ (fun ss hs hln=>?_);omega)|(refine v_cat ?_ (fun sv ss hs hln=>?_);omega)|(refine v_cat0 ?_ (fun sv ss hs=>?_);omega)|(refine v_catN ?_ (fun sv ss hs=>?_);omega)|refine v_put (fun sm hm=>?_)|refine v_del (fun sm hm=>?_)|(refine v_sb ?_ (fun su (And.intro hs hln)=>?_);omega)|refine v_1lk (fun lv hlk=>?_) (fun hlk=>?_)|refine v_ment (fun st sm hm hst=>?_)|refine v_esto (fun sm hm=>?_)|refine v_rng (fun ri ti hit=>?_)|refine v_clone (fun bc sc hcl=>?_)|refine v_yw ?_|(refine v_make ?_ (fun sv ss hs hln=>?_);omega)|fail)
  refine v_lp [4, 5] [3] (fun g : LsG => [g.ov, .int .i64 g.i]) (fun g => [g.os, ss]) (LsOk p) (fun g => 64 - g.i) ⟨0, .slice none 0 0, []⟩ (fun _ => rfl) rfl inferInstance ⟨Nat.zero_le _, OwnS.nil⟩ ?_
  rintro ⟨i, ov, os⟩ ⟨hi, how⟩
  dsimp only at hi how ⊢
  (try dsimp only [zipE_c, zipE_n, List.cons_append, List.nil_append])
  have hil : (idx (p.take i)).length ≤ 64 := by
    rw [idx_len]; have := List.count_le_length (a := true) (l := p.take i); rw [List.length_take] at this; omega
  rcases Nat.lt_or_ge i 64 with hlt | hge
  · have e1 : p.take (i + 1) = p.take i ++ [p[i]] := by rw [List.take_add_one, List.getElem?_eq_getElem (by omega)]; rfl
    have e2 : ((p.take i).length : Int) = i := by rw [List.length_take]; omega
    repeat' (first | refine stp ?_|(refine v_spT ?_ ?_;omega)|(refine v_spF ?_ ?_;omega)|refine v_spD (fun hc=>?_) (fun hc=>?_)|refine v_spB (fun hc=>?_) (fun hc=>?_)|(refine v_yc ?_ ?_;omega)|refine v_allocA (fun ba sal hal=>?_)|refine v_boxA (fun bb sba hba=>?_)|refine v_storeA (fun ss hs=>?_)|refine v_alloc' (fun ba=>?_)|refine v_box (fun bb=>?_)|refine v_lit (fun bl=>?_)|refine v_makeMap (fun bm=>?_)|(refine v_push ?_ (fun sv ss hs hln=>?_);omega)|(refine v_push0 ?_ (fun sv ss hs=>?_);omega)|(refine v_set ?_ (fun ss hs hln=>?_);omega)|(refine v_cat ?_ (fun sv ss hs hln=>?_);omega)|(refine v_cat0 ?_ (fun sv ss hs=>?_);omega)|(refine v_catN ?_ (fun sv ss hs=>?_);omega)|refine v_put (fun sm hm=>?_)|refine v_del (fun sm hm=>?_)|(refine v_sb ?_ (fun su (And.intro hs hln)=>?_);omega)|refine v_1lk (fun lv hlk=>?_) (fun hlk=>?_)|refine v_ment (fun st sm hm hst=>?_)|refine v_esto (fun sm hm=>?_)|refine v_rng (fun ri ti hit=>?_)|refine v_clone (fun bc sc hcl=>?_)|refine v_yw ?_|(refine v_make ?_ (fun sv ss hs hln=>?_);omega)|fail)
    · exact v_again ⟨i + 1, sv, _⟩ (by dsimp only; omega) rfl inferInstance ⟨hlt, by dsimp only; rw [e1, idx_snoc, if_pos hc, e2]; exact hs⟩
    · exact v_again ⟨i + 1, ov, os⟩ (by dsimp only; omega) rfl inferInstance ⟨hlt, by dsimp only; rw [e1, idx_snoc, if_neg (by simp [hc]), List.append_nil]; exact how⟩
  · repeat' (first | refine stp ?_|(refine v_spT ?_ ?_;omega)|(refine v_spF ?_ ?_;omega)|refine v_spD (fun hc=>?_) (fun hc=>?_)|refine v_spB (fun hc=>?_) (fun hc=>?_)|(refine v_yc ?_ ?_;omega)|refine v_allocA (fun ba sal hal=>?_)|refine v_boxA (fun bb sba hba=>?_)|refine v_storeA (fun ss hs=>?_)|refine v_alloc' (fun ba=>?_)|refine v_box (fun bb=>?_)|refine v_lit (fun bl=>?_)|refine v_makeMap (fun bm=>?_)|(refine v_push ?_ (fun sv ss hs hln=>?_);omega)|(refine v_push0 ?_ (fun sv ss hs=>?_);omega)|(refine v_set ?_ (fun ss hs hln=>?_);omega)|(refine v_cat ?_ (fun sv ss hs hln=>?_);omega)|(refine v_cat0 ?_ (fun sv ss hs=>?_);omega)|(refine v_catN ?_ (fun sv ss hs=>?_);omega)|refine v_put (fun sm hm=>?_)|refine v_del (fun sm hm=>?_)|(refine v_sb ?_ (fun su (And.intro hs hln)=>?_);omega)|refine v_1lk (fun lv hlk=>?_) (fun hlk=>?_)|refine v_ment (fun st sm hm hst=>?_)|refine v_esto (fun sm hm=>?_)|refine v_rng (fun ri ti hit=>?_)|refine v_clone (fun bc sc hcl=>?_)|refine v_yw ?_|(refine v_make ?_ (fun sv ss hs hln=>?_);omega)|fail)
    rw [List.take_of_length_le (by omega)] at how
    refine v_o1 Tryd.results38 ⟨os, how, rfl⟩ ⟨_, inferInstance⟩
instance rcount_s (p : List Bool) [hl : LenIs p 64] : PC Tryd.prog 27 #[wv p] (.int .i64 (p.count true : Nat)) := ⟨by
  refine spec_of1 Tryd.func27 Tryd.ntmps27 rfl rfl (fun M w0 => ?_)
  repeat' (first | refine stp ?_|(refine v_spT ?_ ?_;omega)|(refine v_spF ?_ ?_;omega)|refine v_spD (fun hc=>?_) (fun hc=>?_)|refine v_spB (fun hc=>?_) (fun hc=>?_)|(refine v_yc ?_ ?_;omega)|refine v_allocA (fun ba sal hal=>?_)|refine v_boxA (fun bb sba hba=>?_)|refine v_storeA (fun ss hs=>?_)|refine v_alloc' (fun ba=>?_)|refine v_box (fun bb=>?_)|refine v_lit (fun bl=>?_)|refine v_makeMap (fun bm=>?_)|(refine v_push ?_ (fun sv ss hs hln=>?_);omega)|(refine v_push0 ?_ (fun sv ss hs=>?_);omega)|(refine v_set ?_ (fun ss hs hln=>?_);omega)|(refine v_cat ?_ (fun sv ss hs hln=>?_);omega)|(refine v_cat0 ?_ (fun sv ss hs=>?_);omega)|(refine v_catN ?_ (fun sv ss hs=>?_);omega)|refine v_put (fun sm hm=>?_)|refine v_del (fun sm hm=>?_)|(refine v_sb ?_ (fun su (And.intro hs hln)=>?_);omega)|refine v_1lk (fun lv hlk=>?_) (fun hlk=>?_)|refine v_ment (fun st sm hm hst=>?_)|refine v_esto (fun sm hm=>?_)|refine v_rng (fun ri ti hit=>?_)|refine v_clone (fun bc sc hcl=>?_)|refine v_yw ?_|(refine v_make ?_ (fun sv ss hs hln=>?_);omega)|fail)
  refine v_callO (list_s p) ?_
  rintro v Γ' ⟨s, hs, rfl⟩
  (try dsimp only [List.cons_append, List.nil_append])
  repeat' (first | refine stp ?_|(refine v_spT ?_ ?_;omega)|(refine v_spF ?_ ?_;omega)|refine v_spD (fun hc=>?_) (fun hc=>?_)|refine v_spB (fun hc=>?_) (fun hc=>?_)|(refine v_yc ?_ ?_;omega)|refine v_allocA (fun ba sal hal=>?_)|refine v_boxA (fun bb sba hba=>?_)|refine v_storeA (fun ss hs=>?_)|refine v_alloc' (fun ba=>?_)|refine v_box (fun bb=>?_)|refine v_lit (fun bl=>?_)|refine v_makeMap (fun bm=>?_)|(refine v_push ?_ (fun sv ss hs hln=>?_);omega)|(refine v_push0 ?_ (fun sv ss hs=>?_);omega)|(refine v_set ?_ (fun ss hs hln=>?_);omega)|(refine v_cat ?_ (fun sv ss hs hln=>?_);omega)|(refine v_cat0 ?_ (fun sv ss hs=>?_);omega)|(refine v_catN ?_ (fun sv ss hs=>?_);omega)|refine v_put (fun sm hm=>?_)|refine v_del (fun sm hm=>?_)|(refine v_sb ?_ (fun su (And.intro hs hln)=>?_);omega)|refine v_1lk (fun lv hlk=>?_) (fun hlk=>?_)|refine v_ment (fun st sm hm hst=>?_)|refine v_esto (fun sm hm=>?_)|refine v_rng (fun ri ti hit=>?_)|refine v_clone (fun bc sc hcl=>?_)|refine v_yw ?_|(refine v_make ?_ (fun sv ss hs hln=>?_);omega)|fail)
  refine v_o1 Tryd.results27 ⟨iI ?_, rfl⟩ ⟨_, inferInstance⟩
  rw [idx_len]⟩
end Go.Proofs.YtedemhmlaodblaaDoor
