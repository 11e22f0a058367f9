/- Keys' texts, of the program and of the reference. -/
import Derived.Test.YtedemhmlaodblabDoorTa
import Derived.Test.YtedemhmlaodblabDoorTb
import Derived.Test.YtedemhmlaodblabDoorKg
namespace Go.Proofs.YtedemhmlaodblabDoor
open Go Go.SX Go.RowKit
set_option maxRecDepth 100000
set_option maxHeartbeats 0
set_option synthInstance.maxSize 100000
set_option synthInstance.maxHeartbeats 400000
def txS (a b : Int) : List UInt8 := if Gd a b then txt a b else []
def txE (a b : Int) : Int := if Gd a b then 0 else 3
theorem dec_len5 {u : Nat} (h : u < 100000) : (Lib.decDigits u).length ≤ 5 := by
  have step : ∀ {u k : Nat}, (u < 10 → 1 ≤ k) → (¬ u < 10 → (Lib.decDigits (u / 10)).length + 1 ≤ k) → (Lib.decDigits u).length ≤ k := fun {u k} h1 h2 => by
    rw [Lib.decDigits]
    split
    · rename_i h; exact h1 h
    · rename_i h; rw [List.length_append]; exact h2 h
  refine step (fun _ => by decide) fun h1 => Nat.succ_le_succ (step (k := 4) (fun _ => by decide) fun h2 => Nat.succ_le_succ (step (k := 3) (fun _ => by decide) fun h3 => Nat.succ_le_succ (step (k := 2) (fun _ => by decide) fun h4 => Nat.succ_le_succ (step (k := 1) (fun _ => by decide) fun h5 => ?_))))
  omega
theorem itoa_len {n : Int} (h0 : 0 ≤ n) (h1 : n < 100000) : (Lib.itoa n).length ≤ 6 := by
  rw [itoa_pos h0]
  have hn : n.toNat < 100000 := by omega
  generalize n.toNat = u at hn
  exact Nat.le_succ_of_le (dec_len5 hn)
section
variable {s0 : Hp} (h0 : VarIs "internal/strconv.uint64pow10" pow10C s0)
include h0
theorem text_s (a b : Int) : SX.Spec Tryd.prog 10 #[kv a b] [s0] [] fun v Γ => v = .tuple #[str (txS a b), .int .i64 (txE a b)] ∧ Γ = [] := by
  refine spec_of1 Tryd.func10 Tryd.ntmps10 rfl rfl (fun M w0 => ?_)
  repeat' (first | refine stp ?_|(refine v_spT ?_ ?_;omega)|(refine v_spF ?_ ?_;omega)|refine v_spD (fun hc=>?_) (fun hc=>?_)|refine v_spB (fun hc=>?_) (fun hc=>?_)|(refine v_yc ?_ ?_;omega)|refine v_allocA (fun ba sal hal=>?_)|refine v_boxA (fun bb sba hba=>?_)|refine v_storeA (fun ss hs=>?_)|refine v_alloc' (fun ba=>?_)|refine v_box (fun bb=>?_)|refine v_lit (fun bl=>?_)|refine v_makeMap (fun bm=>?_)|(refine v_push ?_ (fun sv ss hs hln=>?_);omega)|(refine v_push0 ?_ (fun sv ss hs=>?_);omega)|(refine v_set ?_ (fun ss hs hln=>?_);omega)|(refine v_cat ?_ (fun sv ss hs hln=>?_);omega)|(refine v_cat0 ?_ (fun sv ss hs=>?_);omega)|(refine v_catN ?_ (fun sv ss hs=>?_);omega)|refine v_put (fun sm hm=>?_)|refine v_del (fun sm hm=>?_)|(refine v_sb ?_ (fun su (And.intro hs hln)=>?_);omega)|refine v_1lk (fun lv hlk=>?_) (fun hlk=>?_)|refine v_ment (fun st sm hm hst=>?_)|refine v_esto (fun sm hm=>?_)|refine v_rng (fun ri ti hit=>?_)|refine v_clone (fun bc sc hcl=>?_)|refine v_yw ?_|(refine v_make ?_ (fun sv ss hs hln=>?_);omega)|refine ⟨?_,?_,?_⟩|refine ⟨?_,?_⟩|(refine v_tyc ?_ ?_;omega)|(refine v_tycT (by decide +kernel) ?_ ?_;omega)|refine v_tValT (by decide +kernel) ?_|(refine v_tsb ?_ (fun su (And.intro hs hln)=>?_);omega)|refine v_tlk (fun lv hlk=>?_) (fun hlk=>?_)|refine v_tlkT (by decide +kernel) (fun lv hlk=>?_) (fun hlk=>?_)|refine v_tyw ?_|refine v_drawn0 (id:=3) pl10_3 (by kernel_rfl) ?_|fail)
  · refine v_o2 Tryd.results10 ⟨?_, rfl⟩ ⟨_, inferInstance⟩
    unfold txS txE; rw [if_neg hc, if_neg hc]
  · have hg := Decidable.not_not.1 hc
    have h1 : 0 ≤ a ∧ a < 100000 ∧ 0 ≤ b ∧ b < 100000 := by unfold Gd at hg; omega
    have l1 := itoa_len h1.1 h1.2.1
    have l2 := itoa_len h1.2.2.1 h1.2.2.2
    have k1 : ([107] : List UInt8).length = 1 := rfl
    have k2 : ([46] : List UInt8).length = 1 := rfl
    have k3 : ([107] ++ Lib.itoa a).length = (Lib.itoa a).length + 1 := by rw [List.length_append, k1]; omega
    have k4 : ([107] ++ Lib.itoa a ++ [46]).length = (Lib.itoa a).length + 2 := by rw [List.length_append, k2, k3]
    have k5 : (107 :: Lib.itoa a).length = (Lib.itoa a).length + 1 := rfl
    have k6 : (107 :: (Lib.itoa a ++ [46])).length = (Lib.itoa a).length + 2 := k4
    have hfin : (107 :: (Lib.itoa a ++ [46])) ++ Lib.itoa b = txS a b := by unfold txS; rw [if_pos hg]; rfl
    have hfe : txE a b = 0 := by unfold txE; rw [if_pos hg]
    refine v_callR (itoa_s h0 (n := a) (by unfold inI64; omega)) ?_
    rintro v Γ' ⟨rfl, rfl⟩
    (try dsimp only [List.cons_append, List.nil_append])
    repeat' (first | refine stp ?_|(refine v_spT ?_ ?_;omega)|(refine v_spF ?_ ?_;omega)|refine v_spD (fun hc=>?_) (fun hc=>?_)|refine v_spB (fun hc=>?_) (fun hc=>?_)|(refine v_yc ?_ ?_;omega)|refine v_allocA (fun ba sal hal=>?_)|refine v_boxA (fun bb sba hba=>?_)|refine v_storeA (fun ss hs=>?_)|refine v_alloc' (fun ba=>?_)|refine v_box (fun bb=>?_)|refine v_lit (fun bl=>?_)|refine v_makeMap (fun bm=>?_)|(refine v_push ?_ (fun sv ss hs hln=>?_);omega)|(refine v_push0 ?_ (fun sv ss hs=>?_);omega)|(refine v_set ?_ (fun ss hs hln=>?_);omega)|(refine v_cat ?_ (fun sv ss hs hln=>?_);omega)|(refine v_cat0 ?_ (fun sv ss hs=>?_);omega)|(refine v_catN ?_ (fun sv ss hs=>?_);omega)|refine v_put (fun sm hm=>?_)|refine v_del (fun sm hm=>?_)|(refine v_sb ?_ (fun su (And.intro hs hln)=>?_);omega)|refine v_1lk (fun lv hlk=>?_) (fun hlk=>?_)|refine v_ment (fun st sm hm hst=>?_)|refine v_esto (fun sm hm=>?_)|refine v_rng (fun ri ti hit=>?_)|refine v_clone (fun bc sc hcl=>?_)|refine v_yw ?_|(refine v_make ?_ (fun sv ss hs hln=>?_);omega)|refine ⟨?_,?_,?_⟩|refine ⟨?_,?_⟩|(refine v_tyc ?_ ?_;omega)|(refine v_tycT (by decide +kernel) ?_ ?_;omega)|refine v_tValT (by decide +kernel) ?_|(refine v_tsb ?_ (fun su (And.intro hs hln)=>?_);omega)|refine v_tlk (fun lv hlk=>?_) (fun hlk=>?_)|refine v_tlkT (by decide +kernel) (fun lv hlk=>?_) (fun hlk=>?_)|refine v_tyw ?_|refine v_drawn0 (id:=3) pl10_3 (by kernel_rfl) ?_|fail)
    refine v_callR (itoa_s h0 (n := b) (by unfold inI64; omega)) ?_
    rintro v Γ' ⟨rfl, rfl⟩
    (try dsimp only [List.cons_append, List.nil_append])
    repeat' (first | refine stp ?_|(refine v_spT ?_ ?_;omega)|(refine v_spF ?_ ?_;omega)|refine v_spD (fun hc=>?_) (fun hc=>?_)|refine v_spB (fun hc=>?_) (fun hc=>?_)|(refine v_yc ?_ ?_;omega)|refine v_allocA (fun ba sal hal=>?_)|refine v_boxA (fun bb sba hba=>?_)|refine v_storeA (fun ss hs=>?_)|refine v_alloc' (fun ba=>?_)|refine v_box (fun bb=>?_)|refine v_lit (fun bl=>?_)|refine v_makeMap (fun bm=>?_)|(refine v_push ?_ (fun sv ss hs hln=>?_);omega)|(refine v_push0 ?_ (fun sv ss hs=>?_);omega)|(refine v_set ?_ (fun ss hs hln=>?_);omega)|(refine v_cat ?_ (fun sv ss hs hln=>?_);omega)|(refine v_cat0 ?_ (fun sv ss hs=>?_);omega)|(refine v_catN ?_ (fun sv ss hs=>?_);omega)|refine v_put (fun sm hm=>?_)|refine v_del (fun sm hm=>?_)|(refine v_sb ?_ (fun su (And.intro hs hln)=>?_);omega)|refine v_1lk (fun lv hlk=>?_) (fun hlk=>?_)|refine v_ment (fun st sm hm hst=>?_)|refine v_esto (fun sm hm=>?_)|refine v_rng (fun ri ti hit=>?_)|refine v_clone (fun bc sc hcl=>?_)|refine v_yw ?_|(refine v_make ?_ (fun sv ss hs hln=>?_);omega)|refine ⟨?_,?_,?_⟩|refine ⟨?_,?_⟩|(refine v_tyc ?_ ?_;omega)|(refine v_tycT (by decide +kernel) ?_ ?_;omega)|refine v_tValT (by decide +kernel) ?_|(refine v_tsb ?_ (fun su (And.intro hs hln)=>?_);omega)|refine v_tlk (fun lv hlk=>?_) (fun hlk=>?_)|refine v_tlkT (by decide +kernel) (fun lv hlk=>?_) (fun hlk=>?_)|refine v_tyw ?_|refine v_drawn0 (id:=3) pl10_3 (by kernel_rfl) ?_|fail)
    rw [hfe, ← hfin]
    refine v_o2 Tryd.results10 ⟨rfl, rfl⟩ ⟨_, inferInstance⟩
theorem rtext_s (a b : Int) : SX.Spec Tryd.prog 11 #[kv a b] [s0] [] fun v Γ => v = .tuple #[str (txS a b), .int .i64 (txE a b)] ∧ Γ = [] := by
  refine spec_of1 Tryd.func11 Tryd.ntmps11 rfl rfl (fun M w0 => ?_)
  repeat' (first | refine stp ?_|(refine v_spT ?_ ?_;omega)|(refine v_spF ?_ ?_;omega)|refine v_spD (fun hc=>?_) (fun hc=>?_)|refine v_spB (fun hc=>?_) (fun hc=>?_)|(refine v_yc ?_ ?_;omega)|refine v_allocA (fun ba sal hal=>?_)|refine v_boxA (fun bb sba hba=>?_)|refine v_storeA (fun ss hs=>?_)|refine v_alloc' (fun ba=>?_)|refine v_box (fun bb=>?_)|refine v_lit (fun bl=>?_)|refine v_makeMap (fun bm=>?_)|(refine v_push ?_ (fun sv ss hs hln=>?_);omega)|(refine v_push0 ?_ (fun sv ss hs=>?_);omega)|(refine v_set ?_ (fun ss hs hln=>?_);omega)|(refine v_cat ?_ (fun sv ss hs hln=>?_);omega)|(refine v_cat0 ?_ (fun sv ss hs=>?_);omega)|(refine v_catN ?_ (fun sv ss hs=>?_);omega)|refine v_put (fun sm hm=>?_)|refine v_del (fun sm hm=>?_)|(refine v_sb ?_ (fun su (And.intro hs hln)=>?_);omega)|refine v_1lk (fun lv hlk=>?_) (fun hlk=>?_)|refine v_ment (fun st sm hm hst=>?_)|refine v_esto (fun sm hm=>?_)|refine v_rng (fun ri ti hit=>?_)|refine v_clone (fun bc sc hcl=>?_)|refine v_yw ?_|(refine v_make ?_ (fun sv ss hs hln=>?_);omega)|refine ⟨?_,?_,?_⟩|refine ⟨?_,?_⟩|(refine v_tyc ?_ ?_;omega)|(refine v_tycT (by decide +kernel) ?_ ?_;omega)|refine v_tValT (by decide +kernel) ?_|(refine v_tsb ?_ (fun su (And.intro hs hln)=>?_);omega)|refine v_tlk (fun lv hlk=>?_) (fun hlk=>?_)|refine v_tlkT (by decide +kernel) (fun lv hlk=>?_) (fun hlk=>?_)|refine v_tyw ?_|refine v_drawn0 (id:=3) pl11_3 (by kernel_rfl) ?_|fail)
  · refine v_o2 Tryd.results11 ⟨?_, rfl⟩ ⟨_, inferInstance⟩
    unfold txS txE; rw [if_neg hc, if_neg hc]
  · have hg := Decidable.not_not.1 hc
    have h1 : 0 ≤ a ∧ a < 100000 ∧ 0 ≤ b ∧ b < 100000 := by unfold Gd at hg; omega
    have l1 := itoa_len h1.1 h1.2.1
    have l2 := itoa_len h1.2.2.1 h1.2.2.2
    have k1 : ([107] : List UInt8).length = 1 := rfl
    have k2 : ([46] : List UInt8).length = 1 := rfl
    have k3 : ([107] ++ Lib.itoa a).length = (Lib.itoa a).length + 1 := by rw [List.length_append, k1]; omega
    have k4 : ([107] ++ Lib.itoa a ++ [46]).length = (Lib.itoa a).length + 2 := by rw [List.length_append, k2, k3]
    have k5 : (107 :: Lib.itoa a).length = (Lib.itoa a).length + 1 := rfl
    have k6 : (107 :: (Lib.itoa a ++ [46])).length = (Lib.itoa a).length + 2 := k4
    have hfin : (107 :: (Lib.itoa a ++ [46])) ++ Lib.itoa b = txS a b := by unfold txS; rw [if_pos hg]; rfl
    have hfe : txE a b = 0 := by unfold txE; rw [if_pos hg]
    refine v_callR (itoa_s h0 (n := a) (by unfold inI64; omega)) ?_
    rintro v Γ' ⟨rfl, rfl⟩
    (try dsimp only [List.cons_append, List.nil_append])
    repeat' (first | refine stp ?_|(refine v_spT ?_ ?_;omega)|(refine v_spF ?_ ?_;omega)|refine v_spD (fun hc=>?_) (fun hc=>?_)|refine v_spB (fun hc=>?_) (fun hc=>?_)|(refine v_yc ?_ ?_;omega)|refine v_allocA (fun ba sal hal=>?_)|refine v_boxA (fun bb sba hba=>?_)|refine v_storeA (fun ss hs=>?_)|refine v_alloc' (fun ba=>?_)|refine v_box (fun bb=>?_)|refine v_lit (fun bl=>?_)|refine v_makeMap (fun bm=>?_)|(refine v_push ?_ (fun sv ss hs hln=>?_);omega)|(refine v_push0 ?_ (fun sv ss hs=>?_);omega)|(refine v_set ?_ (fun ss hs hln=>?_);omega)|(refine v_cat ?_ (fun sv ss hs hln=>?_);omega)|(refine v_cat0 ?_ (fun sv ss hs=>?_);omega)|(refine v_catN ?_ (fun sv ss hs=>?_);omega)|refine v_put (fun sm hm=>?_)|refine v_del (fun sm hm=>?_)|(refine v_sb ?_ (fun su (And.intro hs hln)=>?_);omega)|refine v_1lk (fun lv hlk=>?_) (fun hlk=>?_)|refine v_ment (fun st sm hm hst=>?_)|refine v_esto (fun sm hm=>?_)|refine v_rng (fun ri ti hit=>?_)|refine v_clone (fun bc sc hcl=>?_)|refine v_yw ?_|(refine v_make ?_ (fun sv ss hs hln=>?_);omega)|refine ⟨?_,?_,?_⟩|refine ⟨?_,?_⟩|(refine v_tyc ?_ ?_;omega)|(refine v_tycT (by decide +kernel) ?_ ?_;omega)|refine v_tValT (by decide +kernel) ?_|(refine v_tsb ?_ (fun su (And.intro hs hln)=>?_);omega)|refine v_tlk (fun lv hlk=>?_) (fun hlk=>?_)|refine v_tlkT (by decide +kernel) (fun lv hlk=>?_) (fun hlk=>?_)|refine v_tyw ?_|refine v_drawn0 (id:=3) pl11_3 (by kernel_rfl) ?_|fail)
    refine v_callR (itoa_s h0 (n := b) (by unfold inI64; omega)) ?_
    rintro v Γ' ⟨rfl, rfl⟩
    (try dsimp only [List.cons_append, List.nil_append])
    repeat' (first | refine stp ?_|(refine v_spT ?_ ?_;omega)|(refine v_spF ?_ ?_;omega)|refine v_spD (fun hc=>?_) (fun hc=>?_)|refine v_spB (fun hc=>?_) (fun hc=>?_)|(refine v_yc ?_ ?_;omega)|refine v_allocA (fun ba sal hal=>?_)|refine v_boxA (fun bb sba hba=>?_)|refine v_storeA (fun ss hs=>?_)|refine v_alloc' (fun ba=>?_)|refine v_box (fun bb=>?_)|refine v_lit (fun bl=>?_)|refine v_makeMap (fun bm=>?_)|(refine v_push ?_ (fun sv ss hs hln=>?_);omega)|(refine v_push0 ?_ (fun sv ss hs=>?_);omega)|(refine v_set ?_ (fun ss hs hln=>?_);omega)|(refine v_cat ?_ (fun sv ss hs hln=>?_);omega)|(refine v_cat0 ?_ (fun sv ss hs=>?_);omega)|(refine v_catN ?_ (fun sv ss hs=>?_);omega)|refine v_put (fun sm hm=>?_)|refine v_del (fun sm hm=>?_)|(refine v_sb ?_ (fun su (And.intro hs hln)=>?_);omega)|refine v_1lk (fun lv hlk=>?_) (fun hlk=>?_)|refine v_ment (fun st sm hm hst=>?_)|refine v_esto (fun sm hm=>?_)|refine v_rng (fun ri ti hit=>?_)|refine v_clone (fun bc sc hcl=>?_)|refine v_yw ?_|(refine v_make ?_ (fun sv ss hs hln=>?_);omega)|refine ⟨?_,?_,?_⟩|refine ⟨?_,?_⟩|(refine v_tyc ?_ ?_;omega)|(refine v_tycT (by decide +kernel) ?_ ?_;omega)|refine v_tValT (by decide +kernel) ?_|(refine v_tsb ?_ (fun su (And.intro hs hln)=>?_);omega)|refine v_tlk (fun lv hlk=>?_) (fun hlk=>?_)|refine v_tlkT (by decide +kernel) (fun lv hlk=>?_) (fun hlk=>?_)|refine v_tyw ?_|refine v_drawn0 (id:=3) pl11_3 (by kernel_rfl) ?_|fail)
    rw [hfe, ← hfin]
    refine v_o2 Tryd.results11 ⟨rfl, rfl⟩ ⟨_, inferInstance⟩
end
end Go.Proofs.YtedemhmlaodblabDoor
