/- Contracts of the key functions that others call. -/
import Derived.Test.YtedemhmlaodblabDoorTy
namespace Go.Proofs.YtedemhmlaodblabDoor
open Go Go.SX Go.RowKit
set_option maxRecDepth 100000
set_option synthInstance.maxSize 100000
set_option synthInstance.maxHeartbeats 400000
theorem nd_len {α : Type} [DecidableEq α] : ∀ {l m : List α}, l.Nodup → (∀ x ∈ l, x ∈ m) → l.length ≤ m.length
  | [], _, _, _ => Nat.zero_le _
  | x :: l, m, hn, h => by
    rw [List.nodup_cons] at hn
    have hx := h x (by simp)
    have := nd_len (l := l) (m := m.erase x) hn.2 fun y hy => by
      have hne : y ≠ x := fun e => hn.1 (e ▸ hy)
      exact (List.mem_erase_of_ne hne).2 (h y (by simp [hy]))
    rw [List.length_erase_of_mem hx] at this
    have := List.length_pos_of_mem hx
    simp only [List.length_cons]; omega
abbrev kv (a b : Int) : Value := .agg #[.int .i64 a, .int .i64 b]
abbrev ik (x : Int) : Value := .int .i64 x
abbrev ic (x : Int) : List Value := [.int .i64 x]
instance kvtIk (x : Int) : Kvt ik (.int .i64 x) x := ⟨rfl⟩
instance vvtIk (x : Int) : Vvt ik (.int .i64 x) x := ⟨rfl⟩
instance : KInj ik := ⟨fun x y h => by simpa using h⟩
def Gd (a b : Int) : Prop := 0 < a ∧ a ≤ 65535 ∧ 0 ≤ b ∧ b ≤ 255
theorem gd {a b : Int} : Gd a b ↔ 0 < a ∧ a ≤ 65535 ∧ 0 ≤ b ∧ b ≤ 255 := Iff.rfl
instance (a b : Int) : Decidable (Gd a b) := by unfold Gd; infer_instance
def Gv (a b c d : Int) : Prop := Gd a b ∧ Gd c d ∧ a = c ∧ b ≤ d
instance (a b c d : Int) : Decidable (Gv a b c d) := by unfold Gv; infer_instance
theorem gv {a b c d : Int} : Gv a b c d ↔ Gd a b ∧ Gd c d ∧ a = c ∧ b ≤ d := Iff.rfl
theorem wr {x : Int} (h0 : -9223372036854775808 ≤ x) (h1 : x ≤ 9223372036854775807) : wrap64 x = x := by
  unfold wrap64; omega
instance good_s (a b : Int) : PC Tryd.prog 24 #[kv a b] (.bool (decide (Gd a b))) := ⟨by
  refine spec_of1 Tryd.func24 Tryd.ntmps24 rfl rfl (fun M w0 => ?_)
  repeat' (first | refine stp ?_|(refine v_spT ?_ ?_;omega)|(refine v_spF ?_ ?_;omega)|refine v_spD (fun hc=>?_) (fun hc=>?_)|refine v_spB (fun hc=>?_) (fun hc=>?_)|(refine v_yc ?_ ?_;omega)|refine v_allocA (fun ba sal hal=>?_)|refine v_boxA (fun bb sba hba=>?_)|refine v_storeA (fun ss hs=>?_)|refine v_alloc' (fun ba=>?_)|refine v_box (fun bb=>?_)|refine v_lit (fun bl=>?_)|refine v_makeMap (fun bm=>?_)|(refine v_push ?_ (fun sv ss hs hln=>?_);omega)|(refine v_push0 ?_ (fun sv ss hs=>?_);omega)|(refine v_set ?_ (fun ss hs hln=>?_);omega)|(refine v_cat ?_ (fun sv ss hs hln=>?_);omega)|(refine v_cat0 ?_ (fun sv ss hs=>?_);omega)|(refine v_catN ?_ (fun sv ss hs=>?_);omega)|refine v_put (fun sm hm=>?_)|refine v_del (fun sm hm=>?_)|(refine v_sb ?_ (fun su (And.intro hs hln)=>?_);omega)|refine v_1lk (fun lv hlk=>?_) (fun hlk=>?_)|refine v_ment (fun st sm hm hst=>?_)|refine v_esto (fun sm hm=>?_)|refine v_rng (fun ri ti hit=>?_)|refine v_clone (fun bc sc hcl=>?_)|refine v_yw ?_|(refine v_make ?_ (fun sv ss hs hln=>?_);omega)|fail)
  all_goals refine v_out1 (Γk := []) Tryd.results24 ⟨?_, rfl⟩
  all_goals first | (refine bD ?_; unfold Gd; omega) | (refine bF ?_; unfold Gd; omega) | (refine bT ?_; unfold Gd; omega)⟩
instance refGood_s (a b : Int) : PC Tryd.prog 26 #[kv a b] (.bool (decide (Gd a b))) := ⟨by
  refine spec_of1 Tryd.func26 Tryd.ntmps26 rfl rfl (fun M w0 => ?_)
  repeat' (first | refine stp ?_|(refine v_spT ?_ ?_;omega)|(refine v_spF ?_ ?_;omega)|refine v_spD (fun hc=>?_) (fun hc=>?_)|refine v_spB (fun hc=>?_) (fun hc=>?_)|(refine v_yc ?_ ?_;omega)|refine v_allocA (fun ba sal hal=>?_)|refine v_boxA (fun bb sba hba=>?_)|refine v_storeA (fun ss hs=>?_)|refine v_alloc' (fun ba=>?_)|refine v_box (fun bb=>?_)|refine v_lit (fun bl=>?_)|refine v_makeMap (fun bm=>?_)|(refine v_push ?_ (fun sv ss hs hln=>?_);omega)|(refine v_push0 ?_ (fun sv ss hs=>?_);omega)|(refine v_set ?_ (fun ss hs hln=>?_);omega)|(refine v_cat ?_ (fun sv ss hs hln=>?_);omega)|(refine v_cat0 ?_ (fun sv ss hs=>?_);omega)|(refine v_catN ?_ (fun sv ss hs=>?_);omega)|refine v_put (fun sm hm=>?_)|refine v_del (fun sm hm=>?_)|(refine v_sb ?_ (fun su (And.intro hs hln)=>?_);omega)|refine v_1lk (fun lv hlk=>?_) (fun hlk=>?_)|refine v_ment (fun st sm hm hst=>?_)|refine v_esto (fun sm hm=>?_)|refine v_rng (fun ri ti hit=>?_)|refine v_clone (fun bc sc hcl=>?_)|refine v_yw ?_|(refine v_make ?_ (fun sv ss hs hln=>?_);omega)|fail)
  all_goals refine v_out1 (Γk := []) Tryd.results26 ⟨?_, rfl⟩
  all_goals first | (refine bD ?_; unfold Gd; omega) | (refine bF ?_; unfold Gd; omega) | (refine bT ?_; unfold Gd; omega)⟩
end Go.Proofs.YtedemhmlaodblabDoor
