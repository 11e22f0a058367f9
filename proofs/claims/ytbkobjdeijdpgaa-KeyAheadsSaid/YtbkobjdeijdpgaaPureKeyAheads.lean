/- The plain law of KeyAheads, over numbers alone: both ways of advancing a key answer alike. -/
import Derived.Test.YtbkobjdeijdpgaaPKeyAheadsx2
import Derived.Laws.BitsLemmas
import Derived.Laws.Bits64
namespace Go.Proofs.Ytbkobjdeijdpgaa.Pure
open Go.RowKit Go.Proofs.Ytbkobjdeijdpgaa.PKeyAheads Go.Proofs.YtbkobjdeijdpgaaW.PrintWords

def goodB (a b : Int) : Bool := decide (0 < a ∧ a ≤ 65535 ∧ 0 ≤ b ∧ b ≤ 255)
theorem goodB_iff {a b : Int} : goodB a b = true ↔ 0 < a ∧ a ≤ 65535 ∧ 0 ≤ b ∧ b ≤ 255 := by simp [goodB]
theorem goodB_no {a b : Int} (h : ¬ (0 < a ∧ a ≤ 65535 ∧ 0 ≤ b ∧ b ≤ 255)) : goodB a b = false := by
  cases e : goodB a b with
  | false => rfl
  | true => exact absurd (goodB_iff.1 e) h

theorem good (a b : Int) : key_Good.f a b = some (goodB a b) := by
  unfold key_Good.f
  by_cases h1 : 0 < a
  · rw [if_pos h1]
    by_cases h2 : a ≤ 65535
    · rw [if_pos h2]
      by_cases h3 : 0 ≤ b
      · rw [if_pos h3]
        exact congrArg some (decide_eq_decide.2 ⟨fun h => ⟨h1, h2, h3, h⟩, fun h => h.2.2.2⟩)
      · rw [if_neg h3, goodB_no (by omega)]
    · rw [if_neg h2, goodB_no (by omega)]
  · rw [if_neg h1, goodB_no (by omega)]

theorem wr {x : Int} (h0 : -9223372036854775808 ≤ x) (h1 : x ≤ 9223372036854775807) : wrap64 x = x := by
  unfold wrap64; omega
theorem wf_lo {x : Int} (h : (Lit.int .i64 x).wf = true) : -9223372036854775808 ≤ x ∧ x ≤ 9223372036854775807 := by
  simpa [Lit.wf, IntKind.min, IntKind.max, IntKind.bits, IntKind.signed] using h

theorem join32 (x y : Int) (h0 : 0 ≤ x) (hx : x % 256 = 0) (h1 : x < 4294967296) (hy0 : 0 ≤ y) (hy : y < 256) : Go.bits .or .u32 x y = x + y :=
  bits_join .u32 32 (by decide) (fun n h0 h1 => by rw [IntKind.wrap_u32]; omega) 8 x y h0 (by omega) (by omega) hy0 (by omega) (by omega)

theorem pack (a b : Int) : key_Pack.f a b = if goodB a b = true then some (a * 256 + b, 0) else some (0, 3) := by
  unfold key_Pack.f
  rw [good]
  simp only [Option.bind_some]
  by_cases g : goodB a b = true
  · rw [if_pos g, if_pos g]
    have g' := goodB_iff.1 g
    have e1 : a % 4294967296 * 256 % 4294967296 = a * 256 := by omega
    have e2 : b % 256 = b := by omega
    rw [e1, e2, join32 _ _ (by omega) (by omega) (by omega) (by omega) (by omega)]
  · rw [if_neg g, if_neg g]

theorem ahead (a b n : Int) : key_Ahead.f a b n = if goodB a b = true then (if n < 0 then some (0, 0, 4) else if n > 255 - b then some (0, 0, 4) else some (a, b + n, 0)) else some (0, 0, 3) := by
  unfold key_Ahead.f
  rw [good]
  simp only [Option.bind_some]
  by_cases g : goodB a b = true
  · rw [if_pos g, if_pos g]
    have g' := goodB_iff.1 g
    rw [wr (x := 255 - b) (by omega) (by omega)]
    by_cases h : n < 0
    · rw [if_pos h, if_pos h]
    · rw [if_neg h, if_neg h]
      by_cases h2 : n > 255 - b
      · rw [if_pos h2, if_pos h2]
      · rw [if_neg h2, if_neg h2, wr (by omega) (by omega)]
  · rw [if_neg g, if_neg g]

theorem lives : coterielaw02_lives.f = some true := by
  unfold coterielaw02_lives.f
  rw [ahead, pack]
  rfl

theorem refGood (a b : Int) : coterieref02_Good.f a b = some (goodB a b) := by
  rw [← good]
  rfl


theorem ahead_l0 (n a : Int) (d : Nat) : ∀ (k : Nat) (i b : Int), 0 ≤ i → 0 ≤ b → b + d ≤ 1000 → n ≤ 255 → n - i = d → d < k →
    coterieref02_Ahead.l0 k n i a b = if goodB a (b + d) = true then some (a, b + d, 0) else some (0, 0, 4) := by
  induction d with
  | zero =>
    intro k i b h0 _ _ _ hd hk
    obtain ⟨k, rfl⟩ : ∃ m, k = m + 1 := ⟨k - 1, by omega⟩
    simp only [coterieref02_Ahead.l0]
    rw [if_neg (by omega), refGood]
    simp
  | succ d ih =>
    intro k i b h0 hb hb' hn hd hk
    obtain ⟨k, rfl⟩ : ∃ m, k = m + 1 := ⟨k - 1, by omega⟩
    simp only [coterieref02_Ahead.l0]
    rw [if_pos (by omega), wr (x := i + 1) (by omega) (by omega), wr (x := b + 1) (by omega) (by omega)]
    rw [ih k (i + 1) (b + 1) (by omega) (by omega) (by omega) hn (by omega) (by omega)]
    have e : b + 1 + (d : Int) = b + ((d + 1 : Nat) : Int) := by omega
    rw [e]

theorem refAhead (a b n : Int) (k : Nat) (hk : 258 ≤ k) : coterieref02_Ahead.f k a b n = key_Ahead.f a b n := by
  rw [ahead]
  unfold coterieref02_Ahead.f
  rw [refGood]
  simp only [Option.bind_some]
  obtain ⟨k, rfl⟩ : ∃ m, k = m + 1 := ⟨k - 1, by omega⟩
  by_cases g : goodB a b = true
  · rw [if_pos g, if_pos g]
    have g' := goodB_iff.1 g
    simp only [coterieref02_Ahead.j0]
    by_cases h : n < 0
    · rw [if_pos h, if_pos h]; rfl
    · rw [if_neg h, if_neg h]
      by_cases h2 : n > 255
      · rw [if_pos (decide_eq_true h2), if_pos (by omega)]
      · rw [if_neg (by simpa using h2), ahead_l0 n a n.toNat k 0 b (by omega) (by omega) (by omega) (by omega) (by omega) (by omega)]
        have e : ((n.toNat : Nat) : Int) = n := by omega
        rw [e]
        by_cases h3 : n > 255 - b
        · rw [if_pos h3, if_neg (fun h4 => by have := goodB_iff.1 h4; omega)]
        · rw [if_neg h3, if_pos (goodB_iff.2 (by omega))]
  · rw [if_neg g, if_neg g]

theorem KeyAheads (a b n : Int) (_ : (Lit.int .i64 a).wf = true) (_ : (Lit.int .i64 b).wf = true) (_ : (Lit.int .i64 n).wf = true) : ∃ k, coterielaw02_KeyAheads.f k a b n = some true := by
  refine ⟨300, ?_⟩
  unfold coterielaw02_KeyAheads.f
  rw [lives, good, refGood]
  simp only [Option.bind_some, if_true, bne_self_eq_false]
  simp only [coterielaw02_KeyAheads.j0]
  rw [refAhead a b n 299 (by omega), ahead]
  by_cases g : goodB a b = true
  · rw [if_pos g]
    by_cases h : n < 0
    · rw [if_pos h]; simp
    · rw [if_neg h]
      by_cases h2 : n > 255 - b
      · rw [if_pos h2]; simp
      · rw [if_neg h2]; simp
  · rw [if_neg g]; simp

end Go.Proofs.Ytbkobjdeijdpgaa.Pure
