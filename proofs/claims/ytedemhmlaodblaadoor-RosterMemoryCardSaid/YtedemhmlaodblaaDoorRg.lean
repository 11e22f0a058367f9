/- The free seats: seats.each, seats.Take. -/
import Derived.Test.YtedemhmlaodblaaDoorRd
import Derived.Test.YtedemhmlaodblaaDoorSg
import Derived.Lib.TrailingZeros
namespace Go.Proofs.YtedemhmlaodblaaDoor
open Go Go.SX Go.RowKit
set_option maxRecDepth 100000
set_option maxHeartbeats 0
set_option synthInstance.maxSize 100000
set_option synthInstance.maxHeartbeats 400000
/-! ### words, bit by bit -/
theorem wd_bit : ∀ (p : List Bool) (i : Nat), (wd p).testBit i = p.getD i false
  | [], i => by simp [wd]
  | b :: p, 0 => by
    rw [Nat.testBit_zero]; cases b <;> simp [wd] <;> omega
  | b :: p, i + 1 => by
    have e : wd (b :: p) / 2 = wd p := by cases b <;> simp [wd] <;> omega
    rw [Nat.testBit_succ, e, wd_bit p i]; simp
theorem wd_set {p : List Bool} {i : Nat} (h : i < p.length) : wd p ||| 2 ^ i = wd (p.set i true) := by
  apply Nat.eq_of_testBit_eq
  intro j
  rw [Nat.testBit_or, wd_bit, wd_bit, Nat.testBit_two_pow]
  simp only [List.getD_eq_getElem?_getD, List.getElem?_set]
  by_cases e : i = j
  · subst e; simp [h]
  · simp [e]
theorem wd_not : ∀ (p : List Bool), wd (p.map not) + wd p = 2 ^ p.length - 1
  | [] => rfl
  | b :: p => by
    have := wd_not p
    have h2 := Nat.two_pow_pos p.length
    cases b <;> simp only [List.map_cons, wd, List.length_cons, Nat.pow_succ, Bool.not_true, Bool.not_false, Bool.toNat_true, Bool.toNat_false] <;> omega
theorem wd_xor {p : List Bool} (h : p.length = 64) : bits .xor .u64 18446744073709551615 (wd p : Nat) = (wd (p.map not) : Nat) := by
  have hw := wd64 (p := p) (by omega)
  have hn := wd_not p
  rw [h] at hn
  have h1 : (BitVec.ofInt 64 (wd p : Nat)).toNat = wd p := by
    rw [BitVec.ofInt_natCast, BitVec.toNat_ofNat]; exact Nat.mod_eq_of_lt hw
  have h2 : (BitVec.ofInt 64 18446744073709551615).toNat = 18446744073709551615 := by rfl
  show IntKind.u64.wrap ((BitVec.ofInt 64 18446744073709551615 ^^^ BitVec.ofInt 64 (wd p : Nat)).toNat : Int) = _
  rw [BitVec.toNat_xor, h1, h2]
  have e : 18446744073709551615 ^^^ wd p = wd (p.map not) := by
    apply Nat.eq_of_testBit_eq
    intro j
    rw [Nat.testBit_xor, wd_bit, wd_bit, show 18446744073709551615 = 2 ^ 64 - 1 by rfl, Nat.testBit_two_pow_sub_one]
    simp only [List.getD_eq_getElem?_getD, List.getElem?_map]
    rcases Nat.lt_or_ge j 64 with hj | hj
    · rw [List.getElem?_eq_getElem (by omega)]; simp [hj]
    · rw [List.getElem?_eq_none (by omega)]; simp [show ¬ j < 64 by omega]
  rw [e, wrap_nat _ (by omega)]
/-! ### places -/
def pos (p : List Bool) : List Nat := (p.zipIdx.filter fun x => x.1).map fun x => x.2
theorem idx_pos (p : List Bool) : idx p = (pos p).map (fun x : Nat => (x : Int)) := by unfold idx pos; rw [List.map_map]; rfl
/-- the word of some places -/
def sm (l : List Nat) : Nat := (l.map fun x => 2 ^ x).sum
theorem sm_cons (x : Nat) (l : List Nat) : sm (x :: l) = 2 ^ x + sm l := by simp [sm]
theorem wd_pos (p : List Bool) : wd p = sm (pos p) := by
  have : ∀ (p : List Bool) (k : Nat), 2 ^ k * wd p = sm (((p.zipIdx k).filter fun x => x.1).map fun x => x.2) := by
    intro p
    induction p with
    | nil => intro k; simp [wd, sm]
    | cons b p ih =>
      intro k
      have h := ih (k + 1)
      rw [Nat.pow_succ] at h
      cases b
      · simp only [List.zipIdx_cons, List.filter_cons]
        simp only [Bool.false_eq_true, if_false]
        rw [← h, wd]; simp [Nat.mul_assoc]
      · simp only [List.zipIdx_cons, List.filter_cons, if_true, List.map_cons, sm_cons]
        rw [← h, wd]; simp [Nat.mul_add, Nat.mul_assoc]
  have := this p 0
  simpa [pos] using this
theorem pos_mem {p : List Bool} {x : Nat} : x ∈ pos p ↔ p[x]? = some true := by
  unfold pos
  simp only [List.mem_map, List.mem_filter, Prod.exists]
  constructor
  · rintro ⟨b, y, ⟨h1, h2⟩, rfl⟩
    have := List.mem_zipIdx_iff_getElem?.1 h1
    simp only at h2 this
    rw [this, h2]
  · intro h
    exact ⟨true, x, ⟨List.mem_zipIdx_iff_getElem?.2 h, rfl⟩, rfl⟩
theorem pos_lt {p : List Bool} : ∀ x ∈ pos p, x < p.length := fun x h => (List.getElem?_eq_some_iff.1 (pos_mem.1 h)).1
theorem pos_sorted (p : List Bool) : (pos p).Pairwise (· < ·) := by
  have : ∀ (p : List Bool) (k : Nat), (((p.zipIdx k).filter fun x => x.1).map fun x => x.2).Pairwise (· < ·) ∧ ∀ x ∈ ((p.zipIdx k).filter fun x => x.1).map (fun x => x.2), k ≤ x := by
    intro p
    induction p with
    | nil => intro k; simp
    | cons b p ih =>
      intro k
      obtain ⟨h1, h2⟩ := ih (k + 1)
      cases b
      · simp only [List.zipIdx_cons, List.filter_cons, Bool.false_eq_true, if_false]
        exact ⟨h1, fun x hx => by have := h2 x hx; omega⟩
      · simp only [List.zipIdx_cons, List.filter_cons, if_true, List.map_cons]
        refine ⟨List.pairwise_cons.2 ⟨fun x hx => by have := h2 x hx; omega, h1⟩, fun x hx => ?_⟩
        rcases List.mem_cons.1 hx with rfl | hx
        · exact Nat.le_refl _
        · have := h2 x hx; omega
  exact (this p 0).1
theorem pos_len (p : List Bool) : (pos p).length = p.count true := by rw [← idx_len, idx_pos, List.length_map]
theorem sm_up {x : Nat} : ∀ {l : List Nat}, (∀ y ∈ l, x < y) → ∃ m, sm l = 2 ^ x * (2 * m)
  | [], _ => ⟨0, by simp [sm]⟩
  | y :: l, h => by
    obtain ⟨m, hm⟩ := sm_up (x := x) (l := l) fun z hz => h z (by simp [hz])
    have hy := h y (by simp)
    refine ⟨2 ^ (y - x - 1) + m, ?_⟩
    rw [sm_cons, hm]
    have : 2 ^ y = 2 ^ x * (2 * 2 ^ (y - x - 1)) := by
      rw [← Nat.pow_succ', ← Nat.pow_add]; congr 1; omega
    rw [this, ← Nat.mul_add, ← Nat.mul_add]
theorem and_pred (x m : Nat) : (2 ^ x * (2 * m + 1)) &&& (2 ^ x * (2 * m + 1) - 1) = 2 ^ x * (2 * m) := by
  have hp := Nat.two_pow_pos x
  have e1 : 2 ^ x * (2 * m + 1) = 2 ^ (x + 1) * m + 2 ^ x := by rw [Nat.pow_succ, Nat.mul_add, Nat.mul_assoc]; omega
  have e2 : 2 ^ x * (2 * m + 1) - 1 = 2 ^ (x + 1) * m + (2 ^ x - 1) := by omega
  have e3 : 2 ^ x * (2 * m) = 2 ^ (x + 1) * m + 0 := by rw [Nat.pow_succ, Nat.mul_assoc]; omega
  have l1 : 2 ^ x < 2 ^ (x + 1) := by rw [Nat.pow_succ]; omega
  rw [e2, e1, e3]
  apply Nat.eq_of_testBit_eq
  intro j
  rw [Nat.testBit_and, Nat.testBit_two_pow_mul_add _ l1, Nat.testBit_two_pow_mul_add _ (by omega), Nat.testBit_two_pow_mul_add _ (Nat.two_pow_pos _)]
  by_cases hj : j < x + 1
  · simp only [hj, if_true, Nat.testBit_two_pow, Nat.testBit_two_pow_sub_one, Nat.zero_testBit]
    by_cases e : x = j
    · subst e; simp
    · simp [e]
  · simp [hj]
theorem ctzF : ∀ (f x m : Nat), x < f → Lib.ctzFrom f (2 ^ x * (2 * m + 1)) = x
  | 0, x, m, h => by omega
  | f + 1, 0, m, h => by unfold Lib.ctzFrom; rw [if_pos (by omega)]
  | f + 1, x + 1, m, h => by
    have e : 2 ^ (x + 1) * (2 * m + 1) = 2 * (2 ^ x * (2 * m + 1)) := by rw [Nat.pow_succ, Nat.mul_comm (2 ^ x) 2, Nat.mul_assoc]
    unfold Lib.ctzFrom
    rw [if_neg (by omega), e, Nat.mul_div_cancel_left _ (by decide), ctzF f x m (by omega), Nat.add_comm]
theorem sm_first {x : Nat} {l : List Nat} (h : (x :: l).Pairwise (· < ·)) (hx : x < 64) : sm (x :: l) ≠ 0 ∧ Lib.ctz 64 (sm (x :: l)) = x ∧ sm (x :: l) &&& (sm (x :: l) - 1) = sm l := by
  obtain ⟨m, hm⟩ := sm_up (List.pairwise_cons.1 h).1
  have e : sm (x :: l) = 2 ^ x * (2 * m + 1) := by rw [sm_cons, hm, Nat.mul_add, Nat.mul_one, Nat.add_comm]
  have h0 : sm (x :: l) ≠ 0 := by rw [sm_cons]; have := Nat.two_pow_pos x; omega
  refine ⟨h0, ?_, by rw [e, and_pred, hm]⟩
  unfold Lib.ctz
  rw [if_neg h0, e, ctzF _ _ _ hx]
end Go.Proofs.YtedemhmlaodblaaDoor
