/- Sets of seats as words: Taken, Count, of the program and of the reference. -/
import Derived.Test.YtedemhmlaodblabDoorRa
import Derived.Test.YtedemhmlaodblabDoorRw
namespace Go.Proofs.YtedemhmlaodblabDoor
open Go Go.SX Go.RowKit
set_option maxRecDepth 100000
set_option maxHeartbeats 0
set_option synthInstance.maxSize 100000
set_option synthInstance.maxHeartbeats 400000
abbrev bc (x : Bool) : List Value := [.bool x]
abbrev bv (p : List Bool) : Value := .agg (cvs bc p).toArray
abbrev wv (p : List Bool) : Value := .int .u64 (wd p : Nat)
/-- the taken seats -/
def tk (l : List ApiEntry) : List Bool := l.map fun x => decide (x.Base ≠ 0)
theorem tk_len (l : List ApiEntry) : (tk l).length = l.length := List.length_map _
instance lenTk (l : List ApiEntry) (n : Nat) [h : LenIs l n] : LenIs (tk l) n := ⟨by rw [tk_len]; exact h.out⟩
theorem tk_take (l : List ApiEntry) {i : Nat} (h : i < l.length) : tk (l.take (i + 1)) = tk (l.take i) ++ [decide (l[i].Base ≠ 0)] := by
  unfold tk
  rw [List.take_add_one, List.getElem?_eq_getElem h, Option.toList_some, List.map_append]; rfl
theorem wd64 {p : List Bool} (h : p.length ≤ 64) : wd p < 18446744073709551616 := by
  have := wd_lt p
  have h2 := Nat.pow_le_pow_right (n := 2) (by decide) h
  omega
theorem shl1 {i : Nat} (h : i < 64) : shlI .u64 1 (IntKind.u64.wrap (i : Int)) = ((2 ^ i : Nat) : Int) := by
  have e : IntKind.u64.wrap (i : Int) = i := by rw [IntKind.wrap_u64]; omega
  have hp : 2 ^ i < 2 ^ 64 := Nat.pow_lt_pow_right (by decide) h
  rw [e]
  unfold shlI
  rw [show IntKind.u64.bits = 64 by rfl, Int.toNat_natCast, Nat.min_eq_left (by omega), Int.one_mul, IntKind.wrap_u64]
  have : ((2 : Int) ^ i) = ((2 ^ i : Nat) : Int) := by simp
  rw [this]; generalize 2 ^ i = q at hp; omega
theorem set_rep {α : Type} {A : List α} {i n : Nat} {z x : α} (h : A.length = i) (hn : i < n) : (A ++ List.replicate (n - i) z).set i x = A ++ [x] ++ List.replicate (n - (i + 1)) z := by
  subst h
  rw [List.set_append_right _ _ (Nat.le_refl _), Nat.sub_self, show n - A.length = (n - (A.length + 1)) + 1 by omega, List.replicate_succ, List.set_cons_zero]
  simp
instance taken_s (l : List ApiEntry) [hl : LenIs l 64] : PC Tryd.prog 17 #[rv l] (wv (tk l)) := ⟨by
  have hll := hl.out
  refine spec_of1 Tryd.func17 Tryd.ntmps17 rfl rfl (fun M w0 => ?_)
  repeat' (first | refine stp ?_|(refine v_spT ?_ ?_;omega)|(refine v_spF ?_ ?_;omega)|refine v_spD (fun hc=>?_) (fun hc=>?_)|refine v_spB (fun hc=>?_) (fun hc=>?_)|(refine v_yc ?_ ?_;omega)|refine v_allocA (fun ba sal hal=>?_)|refine v_boxA (fun bb sba hba=>?_)|refine v_storeA (fun ss hs=>?_)|refine v_alloc' (fun ba=>?_)|refine v_box (fun bb=>?_)|refine v_lit (fun bl=>?_)|refine v_makeMap (fun bm=>?_)|(refine v_push ?_ (fun sv ss hs hln=>?_);omega)|(refine v_push0 ?_ (fun sv ss hs=>?_);omega)|(refine v_set ?_ (fun ss hs hln=>?_);omega)|(refine v_cat ?_ (fun sv ss hs hln=>?_);omega)|(refine v_cat0 ?_ (fun sv ss hs=>?_);omega)|(refine v_catN ?_ (fun sv ss hs=>?_);omega)|refine v_put (fun sm hm=>?_)|refine v_del (fun sm hm=>?_)|(refine v_sb ?_ (fun su (And.intro hs hln)=>?_);omega)|refine v_1lk (fun lv hlk=>?_) (fun hlk=>?_)|refine v_ment (fun st sm hm hst=>?_)|refine v_esto (fun sm hm=>?_)|refine v_rng (fun ri ti hit=>?_)|refine v_clone (fun bc sc hcl=>?_)|refine v_yw ?_|(refine v_make ?_ (fun sv ss hs hln=>?_);omega)|fail)
  refine v_lp [3, 7] [6] (fun i : Nat => [wv (tk (l.take i)), .int .i64 i]) (fun _ => []) (fun i => i ≤ l.length) (fun i => l.length - i) 0 (fun _ => rfl) rfl inferInstance (Nat.zero_le _) ?_
  rintro i hi
  (try dsimp only [zipE_c, zipE_n, List.cons_append, List.nil_append])
  rcases Nat.lt_or_ge i l.length with hlt | hge
  · have e1 := tk_take l hlt
    have hi64 : (tk (l.take i)).length = i := by rw [tk_len, List.length_take]; omega
    have hw := wd_lt (tk (l.take i))
    rw [hi64] at hw
    have hp : 2 ^ i < 18446744073709551616 := Nat.pow_lt_pow_right (a := 2) (m := i) (n := 64) (by decide) (by omega)
    have h0 : 0 ≤ IntKind.u64.wrap (i : Int) := by rw [IntKind.wrap_u64]; omega
    repeat' (first | refine stp ?_|(refine v_spT ?_ ?_;omega)|(refine v_spF ?_ ?_;omega)|refine v_spD (fun hc=>?_) (fun hc=>?_)|refine v_spB (fun hc=>?_) (fun hc=>?_)|(refine v_yc ?_ ?_;omega)|refine v_allocA (fun ba sal hal=>?_)|refine v_boxA (fun bb sba hba=>?_)|refine v_storeA (fun ss hs=>?_)|refine v_alloc' (fun ba=>?_)|refine v_box (fun bb=>?_)|refine v_lit (fun bl=>?_)|refine v_makeMap (fun bm=>?_)|(refine v_push ?_ (fun sv ss hs hln=>?_);omega)|(refine v_push0 ?_ (fun sv ss hs=>?_);omega)|(refine v_set ?_ (fun ss hs hln=>?_);omega)|(refine v_cat ?_ (fun sv ss hs hln=>?_);omega)|(refine v_cat0 ?_ (fun sv ss hs=>?_);omega)|(refine v_catN ?_ (fun sv ss hs=>?_);omega)|refine v_put (fun sm hm=>?_)|refine v_del (fun sm hm=>?_)|(refine v_sb ?_ (fun su (And.intro hs hln)=>?_);omega)|refine v_1lk (fun lv hlk=>?_) (fun hlk=>?_)|refine v_ment (fun st sm hm hst=>?_)|refine v_esto (fun sm hm=>?_)|refine v_rng (fun ri ti hit=>?_)|refine v_clone (fun bc sc hcl=>?_)|refine v_yw ?_|(refine v_make ?_ (fun sv ss hs hln=>?_);omega)|fail)
    · have e2 : bits .or .u64 (wd (tk (l.take i)) : Nat) (shlI .u64 1 (IntKind.u64.wrap (i : Int))) = (wd (tk (l.take (i + 1))) : Nat) := by
        rw [e1, wd_snoc, hi64, decide_eq_true hc, shl1 (by omega), bits_or_u64_nat _ _ (by omega) hp, or_pow hw]
        simp
      exact v_again (i + 1) (by omega) (by rw [e2]; rfl) inferInstance (by omega)
    · have e2 : wd (tk (l.take (i + 1))) = wd (tk (l.take i)) := by
        rw [e1, wd_snoc, decide_eq_false hc]
        simp
      exact v_again (i + 1) (by omega) (by unfold wv; rw [e2]; rfl) inferInstance (by omega)
  · repeat' (first | refine stp ?_|(refine v_spT ?_ ?_;omega)|(refine v_spF ?_ ?_;omega)|refine v_spD (fun hc=>?_) (fun hc=>?_)|refine v_spB (fun hc=>?_) (fun hc=>?_)|(refine v_yc ?_ ?_;omega)|refine v_allocA (fun ba sal hal=>?_)|refine v_boxA (fun bb sba hba=>?_)|refine v_storeA (fun ss hs=>?_)|refine v_alloc' (fun ba=>?_)|refine v_box (fun bb=>?_)|refine v_lit (fun bl=>?_)|refine v_makeMap (fun bm=>?_)|(refine v_push ?_ (fun sv ss hs hln=>?_);omega)|(refine v_push0 ?_ (fun sv ss hs=>?_);omega)|(refine v_set ?_ (fun ss hs hln=>?_);omega)|(refine v_cat ?_ (fun sv ss hs hln=>?_);omega)|(refine v_cat0 ?_ (fun sv ss hs=>?_);omega)|(refine v_catN ?_ (fun sv ss hs=>?_);omega)|refine v_put (fun sm hm=>?_)|refine v_del (fun sm hm=>?_)|(refine v_sb ?_ (fun su (And.intro hs hln)=>?_);omega)|refine v_1lk (fun lv hlk=>?_) (fun hlk=>?_)|refine v_ment (fun st sm hm hst=>?_)|refine v_esto (fun sm hm=>?_)|refine v_rng (fun ri ti hit=>?_)|refine v_clone (fun bc sc hcl=>?_)|refine v_yw ?_|(refine v_make ?_ (fun sv ss hs hln=>?_);omega)|fail)
    refine v_o1 Tryd.results17 ⟨iI ?_, rfl⟩ ⟨_, inferInstance⟩
    rw [List.take_of_length_le hge]⟩
theorem wd_drop (p : List Bool) {i : Nat} (h : i < p.length) : wd (p.drop i) = p[i].toNat + 2 * wd (p.drop (i + 1)) := by
  rw [List.drop_eq_getElem_cons h]; rfl
theorem drop64 {p : List Bool} (h : p.length = 64) (i : Nat) : wd (p.drop i) < 18446744073709551616 := wd64 (by rw [List.length_drop]; omega)
theorem places_len (p : List Bool) (i : Nat) (h : p.length = 64) (hi : i ≤ 64) : (p.take i ++ List.replicate (64 - i) false).length = 64 := by rw [List.length_append, List.length_take, List.length_replicate]; omega
/-- the places that are in -/
def idx (p : List Bool) : List Int := (p.zipIdx.filter fun x => x.1).map fun x => (x.2 : Int)
theorem idx_snoc (p : List Bool) (b : Bool) : idx (p ++ [b]) = idx p ++ (if b = true then [(p.length : Int)] else []) := by
  unfold idx
  rw [List.zipIdx_append, List.filter_append, List.map_append]
  cases b <;> simp
theorem idx_len (p : List Bool) : (idx p).length = p.count true := by
  unfold idx
  rw [List.length_map]
  have : ∀ (p : List Bool) (k : Nat), ((p.zipIdx k).filter fun x => x.1).length = p.count true := by
    intro p
    induction p with
    | nil => intro k; simp
    | cons b p ih => intro k; cases b <;> simp [ih]
  exact this p 0
structure LsG where
  i : Nat
  ov : Value
  os : Hp
structure LsOk (p : List Bool) (g : LsG) : Prop where
  le : g.i ≤ 64
  own : OwnS g.ov 3 Int 1 ic (idx (p.take g.i)) g.os
end Go.Proofs.YtedemhmlaodblabDoor
