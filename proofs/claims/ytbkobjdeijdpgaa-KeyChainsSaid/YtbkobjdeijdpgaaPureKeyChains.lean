/- The plain law of KeyChains, over numbers alone: advancing twice is advancing once by both, and a key gives just those that it can be advanced to. -/
import Derived.Test.YtbkobjdeijdpgaaPKeyChainsx3
import Derived.Laws.BitsLemmas
import Derived.Laws.Bits64
namespace Go.Proofs.Ytbkobjdeijdpgaa.Pure
open Go.RowKit Go.Proofs.Ytbkobjdeijdpgaa.PKeyChains Go.Proofs.YtbkobjdeijdpgaaW.PrintWords

def goodB (a b : Int) : Bool := decide (0 < a ∧ a ≤ 65535 ∧ 0 ≤ b ∧ b ≤ 255)
theorem goodB_iff {a b : Int} : goodB a b = true ↔ 0 < a ∧ a ≤ 65535 ∧ 0 ≤ b ∧ b ≤ 255 := by simp [goodB]
theorem goodB_no {a b : Int} (h : ¬ (0 < a ∧ a ≤ 65535 ∧ 0 ≤ b ∧ b ≤ 255)) : goodB a b = false := by
  cases e : goodB a b with
  | false => rfl
  | true => exact absurd (goodB_iff.1 e) h

theorem good (a b : Int) : key_Good.f a b = some (goodB a b) := by
  unfold key_Good.f
  by_cases h1 : 0 < a
  · rw [if_pos h1]
    by_cases h2 : a ≤ 65535
    · rw [if_pos h2]
      by_cases h3 : 0 ≤ b
      · rw [if_pos h3]
        exact congrArg some (decide_eq_decide.2 ⟨fun h => ⟨h1, h2, h3, h⟩, fun h => h.2.2.2⟩)
      · rw [if_neg h3, goodB_no (by omega)]
    · rw [if_neg h2, goodB_no (by omega)]
  · rw [if_neg h1, goodB_no (by omega)]

theorem wr {x : Int} (h0 : -9223372036854775808 ≤ x) (h1 : x ≤ 9223372036854775807) : wrap64 x = x := by
  unfold wrap64; omega
theorem wf_lo {x : Int} (h : (Lit.int .i64 x).wf = true) : -9223372036854775808 ≤ x ∧ x ≤ 9223372036854775807 := by
  simpa [Lit.wf, IntKind.min, IntKind.max, IntKind.bits, IntKind.signed] using h

theorem join32 (x y : Int) (h0 : 0 ≤ x) (hx : x % 256 = 0) (h1 : x < 4294967296) (hy0 : 0 ≤ y) (hy : y < 256) : Go.bits .or .u32 x y = x + y :=
  bits_join .u32 32 (by decide) (fun n h0 h1 => by rw [IntKind.wrap_u32]; omega) 8 x y h0 (by omega) (by omega) hy0 (by omega) (by omega)

theorem pack (a b : Int) : key_Pack.f a b = if goodB a b = true then some (a * 256 + b, 0) else some (0, 3) := by
  unfold key_Pack.f
  rw [good]
  simp only [Option.bind_some]
  by_cases g : goodB a b = true
  · rw [if_pos g, if_pos g]
    have g' := goodB_iff.1 g
    have e1 : a % 4294967296 * 256 % 4294967296 = a * 256 := by omega
    have e2 : b % 256 = b := by omega
    rw [e1, e2, join32 _ _ (by omega) (by omega) (by omega) (by omega) (by omega)]
  · rw [if_neg g, if_neg g]

theorem ahead (a b n : Int) : key_Ahead.f a b n = if goodB a b = true then (if n < 0 then some (0, 0, 4) else if n > 255 - b then some (0, 0, 4) else some (a, b + n, 0)) else some (0, 0, 3) := by
  unfold key_Ahead.f
  rw [good]
  simp only [Option.bind_some]
  by_cases g : goodB a b = true
  · rw [if_pos g, if_pos g]
    have g' := goodB_iff.1 g
    rw [wr (x := 255 - b) (by omega) (by omega)]
    by_cases h : n < 0
    · rw [if_pos h, if_pos h]
    · rw [if_neg h, if_neg h]
      by_cases h2 : n > 255 - b
      · rw [if_pos h2, if_pos h2]
      · rw [if_neg h2, if_neg h2, wr (by omega) (by omega)]
  · rw [if_neg g, if_neg g]

theorem lives : coterielaw02_lives.f = some true := by
  unfold coterielaw02_lives.f
  rw [ahead, pack]
  rfl

theorem gives (a b c d : Int) : key_Gives.f a b c d = some (goodB a b && goodB c d && decide (a = c) && decide (b ≤ d)) := by
  unfold key_Gives.f
  rw [good, good]
  simp only [Option.bind_some]
  cases goodB a b <;> simp
  cases goodB c d <;> simp
  by_cases h : a = c <;> simp [h]


theorem chain_l0 (a b c d : Int) (g : goodB a b = true) (g2 : goodB c d = true) (n : Nat) : ∀ (k : Nat) (i : Int) (x : Bool), 0 ≤ i → i ≤ 256 - b → 256 - b - i = n → n < k →
    x = (decide (a = c) && decide (b ≤ d) && decide (d < b + i)) → coterielaw02_KeyChains.l0 k x i a b c d = some true := by
  have g' := goodB_iff.1 g
  have g2' := goodB_iff.1 g2
  induction n with
  | zero =>
    intro k i x h0 h1 hn hk hx
    obtain ⟨k, rfl⟩ : ∃ m, k = m + 1 := ⟨k - 1, by omega⟩
    simp only [coterielaw02_KeyChains.l0]
    rw [wr (x := 255 - b) (by omega) (by omega), if_neg (by omega), gives, g, g2, hx]
    have : decide (d < b + i) = true := decide_eq_true (by omega)
    rw [this]
    simp
  | succ n ih =>
    intro k i x h0 h1 hn hk hx
    obtain ⟨k, rfl⟩ : ∃ m, k = m + 1 := ⟨k - 1, by omega⟩
    simp only [coterielaw02_KeyChains.l0]
    rw [wr (x := 255 - b) (by omega) (by omega), if_pos (by omega), ahead, if_pos g, if_neg (by omega), if_neg (by omega), wr (x := i + 1) (by omega) (by omega)]
    simp only [Option.bind_some, if_true]
    by_cases hxt : x = true
    · rw [if_pos hxt]
      refine ih k (i + 1) true (by omega) (by omega) (by omega) (by omega) ?_
      rw [hxt] at hx
      have hx' := hx.symm
      simp only [Bool.and_eq_true, decide_eq_true_eq] at hx'
      exact (by simp only [Bool.and_eq_true, decide_eq_true_eq]; omega : (decide (a = c) && decide (b ≤ d) && decide (d < b + (i + 1))) = true).symm
    · rw [if_neg hxt]
      refine ih k (i + 1) _ (by omega) (by omega) (by omega) (by omega) ?_
      have hx' : ¬ (a = c ∧ b ≤ d ∧ d < b + i) := fun h => hxt (hx.trans (by simp [h.1, h.2.1, h.2.2]))
      rw [Bool.eq_iff_iff]
      simp only [Bool.and_eq_true, beq_iff_eq, decide_eq_true_eq]
      omega

theorem chain_j1 (a b c d : Int) (g : goodB a b = true) (k : Nat) (hk : 300 ≤ k) : coterielaw02_KeyChains.j1 k false a b c d = some true := by
  have g' := goodB_iff.1 g
  obtain ⟨k, rfl⟩ : ∃ m, k = m + 1 := ⟨k - 1, by omega⟩
  simp only [coterielaw02_KeyChains.j1]
  rw [if_neg (by simp), good]
  simp only [Option.bind_some]
  by_cases g2 : goodB c d = true
  · rw [if_pos g2]
    refine chain_l0 a b c d g g2 (256 - b).toNat k 0 false (by omega) (by omega) (by omega) (by omega) ?_
    have : (decide (b ≤ d) && decide (d < b + 0)) = false := by
      cases h : (decide (b ≤ d) && decide (d < b + 0)) with
      | false => rfl
      | true => simp only [Bool.and_eq_true, decide_eq_true_eq] at h; omega
    rw [Bool.and_assoc, this, Bool.and_false]
  · rw [if_neg g2, gives, gives]
    have : goodB c d = false := by simpa using g2
    simp [this]

theorem chain_j0 (a b c d m : Int) (g : goodB a b = true) (g2 : goodB a m = true) (k : Nat) (hk : 301 ≤ k) : coterielaw02_KeyChains.j0 k false a b c d a m = some true := by
  have g' := goodB_iff.1 g
  have g2' := goodB_iff.1 g2
  obtain ⟨k, rfl⟩ : ∃ m, k = m + 1 := ⟨k - 1, by omega⟩
  simp only [coterielaw02_KeyChains.j0]
  rw [if_neg (by simp), wr (x := 255 - m) (by omega) (by omega), wr (x := 255 - b) (by omega) (by omega)]
  rw [ahead, ahead, if_pos g, if_pos g2, if_neg (by omega), if_neg (by omega), if_neg (by omega), if_neg (by omega)]
  have e1 : m + (255 - m) = 255 := by omega
  have e2 : b + (255 - b) = 255 := by omega
  rw [e1, e2]
  simp only [Option.bind_some, if_true, beq_self_eq_true, Bool.not_true, Bool.or_false, bne_self_eq_false]
  rw [if_neg (by simp)]
  exact chain_j1 a b c d g k (by omega)

theorem small (n : Int) : 0 ≤ wrap64 (Int.tmod (IntKind.u64.wrap n) 256) ∧ wrap64 (Int.tmod (IntKind.u64.wrap n) 256) ≤ 255 := by
  rw [IntKind.wrap_u64, Int.tmod_eq_emod_of_nonneg (by omega), wr (by omega) (by omega)]
  omega

theorem KeyChains (a b c d n : Int) (_ : (Lit.int .i64 a).wf = true) (_ : (Lit.int .i64 b).wf = true) (_ : (Lit.int .i64 c).wf = true) (_ : (Lit.int .i64 d).wf = true) (_ : (Lit.int .i64 n).wf = true) : ∃ k, coterielaw02_KeyChains.f k a b c d n = some true := by
  refine ⟨400, ?_⟩
  unfold coterielaw02_KeyChains.f
  rw [lives]
  simp only [Option.bind_some, if_true]
  obtain ⟨s0, s1⟩ := small n
  generalize wrap64 (Int.tmod (IntKind.u64.wrap n) 256) = m at s0 s1
  rw [ahead]
  by_cases g : goodB a b = true
  · have g' := goodB_iff.1 g
    rw [if_pos g, if_neg (by omega)]
    by_cases h : m > 255 - b
    · rw [if_pos h]
      simp only [Option.bind_some]
      rw [if_neg (by omega), good, wr (by omega) (by omega)]
      simp only [Option.bind_some]
      rw [if_pos g, decide_eq_true (by omega)]
    · rw [if_neg h]
      have g2 : goodB a (b + m) = true := goodB_iff.2 (by omega)
      simp only [Option.bind_some, if_true]
      rw [gives, g, g2, decide_eq_true (rfl : a = a), decide_eq_true (by omega : b ≤ b + m)]
      simp only [Option.bind_some, Bool.and_true, if_true]
      by_cases hm : m > 0
      · rw [if_pos hm, gives, g, g2, decide_eq_true (rfl : a = a), decide_eq_false (by omega : ¬ b + m ≤ b)]
        simp only [Option.bind_some, Bool.and_false]
        exact chain_j0 a b c d (b + m) g g2 400 (by omega)
      · rw [if_neg hm]
        exact chain_j0 a b c d (b + m) g g2 400 (by omega)
  · rw [if_neg g]
    simp only [Option.bind_some]
    rw [if_neg (by omega), good]
    simp only [Option.bind_some]
    rw [if_neg g]

end Go.Proofs.Ytbkobjdeijdpgaa.Pure
