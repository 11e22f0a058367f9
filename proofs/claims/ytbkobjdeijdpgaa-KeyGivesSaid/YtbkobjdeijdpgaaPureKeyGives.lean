/- The plain law of KeyGives, over numbers alone: Gives and Compare answer as the document says. -/
import Derived.Test.YtbkobjdeijdpgaaPKeyGivesx4
import Derived.Laws.BitsLemmas
import Derived.Laws.Bits64
namespace Go.Proofs.Ytbkobjdeijdpgaa.Pure
open Go.RowKit Go.Proofs.Ytbkobjdeijdpgaa.PKeyGives Go.Proofs.YtbkobjdeijdpgaaW.PrintWords

def goodB (a b : Int) : Bool := decide (0 < a ∧ a ≤ 65535 ∧ 0 ≤ b ∧ b ≤ 255)
theorem goodB_iff {a b : Int} : goodB a b = true ↔ 0 < a ∧ a ≤ 65535 ∧ 0 ≤ b ∧ b ≤ 255 := by simp [goodB]
theorem goodB_no {a b : Int} (h : ¬ (0 < a ∧ a ≤ 65535 ∧ 0 ≤ b ∧ b ≤ 255)) : goodB a b = false := by
  cases e : goodB a b with
  | false => rfl
  | true => exact absurd (goodB_iff.1 e) h

theorem good (a b : Int) : key_Good.f a b = some (goodB a b) := by
  unfold key_Good.f
  by_cases h1 : 0 < a
  · rw [if_pos h1]
    by_cases h2 : a ≤ 65535
    · rw [if_pos h2]
      by_cases h3 : 0 ≤ b
      · rw [if_pos h3]
        exact congrArg some (decide_eq_decide.2 ⟨fun h => ⟨h1, h2, h3, h⟩, fun h => h.2.2.2⟩)
      · rw [if_neg h3, goodB_no (by omega)]
    · rw [if_neg h2, goodB_no (by omega)]
  · rw [if_neg h1, goodB_no (by omega)]

theorem wr {x : Int} (h0 : -9223372036854775808 ≤ x) (h1 : x ≤ 9223372036854775807) : wrap64 x = x := by
  unfold wrap64; omega
theorem wf_lo {x : Int} (h : (Lit.int .i64 x).wf = true) : -9223372036854775808 ≤ x ∧ x ≤ 9223372036854775807 := by
  simpa [Lit.wf, IntKind.min, IntKind.max, IntKind.bits, IntKind.signed] using h

theorem join32 (x y : Int) (h0 : 0 ≤ x) (hx : x % 256 = 0) (h1 : x < 4294967296) (hy0 : 0 ≤ y) (hy : y < 256) : Go.bits .or .u32 x y = x + y :=
  bits_join .u32 32 (by decide) (fun n h0 h1 => by rw [IntKind.wrap_u32]; omega) 8 x y h0 (by omega) (by omega) hy0 (by omega) (by omega)

theorem pack (a b : Int) : key_Pack.f a b = if goodB a b = true then some (a * 256 + b, 0) else some (0, 3) := by
  unfold key_Pack.f
  rw [good]
  simp only [Option.bind_some]
  by_cases g : goodB a b = true
  · rw [if_pos g, if_pos g]
    have g' := goodB_iff.1 g
    have e1 : a % 4294967296 * 256 % 4294967296 = a * 256 := by omega
    have e2 : b % 256 = b := by omega
    rw [e1, e2, join32 _ _ (by omega) (by omega) (by omega) (by omega) (by omega)]
  · rw [if_neg g, if_neg g]

theorem ahead (a b n : Int) : key_Ahead.f a b n = if goodB a b = true then (if n < 0 then some (0, 0, 4) else if n > 255 - b then some (0, 0, 4) else some (a, b + n, 0)) else some (0, 0, 3) := by
  unfold key_Ahead.f
  rw [good]
  simp only [Option.bind_some]
  by_cases g : goodB a b = true
  · rw [if_pos g, if_pos g]
    have g' := goodB_iff.1 g
    rw [wr (x := 255 - b) (by omega) (by omega)]
    by_cases h : n < 0
    · rw [if_pos h, if_pos h]
    · rw [if_neg h, if_neg h]
      by_cases h2 : n > 255 - b
      · rw [if_pos h2, if_pos h2]
      · rw [if_neg h2, if_neg h2, wr (by omega) (by omega)]
  · rw [if_neg g, if_neg g]

theorem lives : coterielaw02_lives.f = some true := by
  unfold coterielaw02_lives.f
  rw [ahead, pack]
  rfl

theorem refGood (a b : Int) : coterieref02_Good.f a b = some (goodB a b) := by
  rw [← good]
  rfl

theorem gives (a b c d : Int) : key_Gives.f a b c d = some (goodB a b && goodB c d && decide (a = c) && decide (b ≤ d)) := by
  unfold key_Gives.f
  rw [good, good]
  simp only [Option.bind_some]
  cases goodB a b <;> simp
  cases goodB c d <;> simp
  by_cases h : a = c <;> simp [h]

theorem wr1 : wrap64 (0 + 1) = 1 ∧ wrap64 (1 + 1) = 2 := ⟨wr (by omega) (by omega), wr (by omega) (by omega)⟩
def cmpI (a b : Int) : Int := if a < b then -1 else if a > b then 1 else 0
theorem cmpc (a b : Int) : cmp_Compare_int.f a b = some (cmpI a b) := by
  unfold cmp_Compare_int.f cmp_isNaN_int.f cmpI
  simp
  repeat' split
  all_goals rfl
def cmpK (a b c d : Int) : Int := if cmpI a c = 0 then cmpI b d else cmpI a c
theorem rd0 (x y : Int) : rd [x, y] 0 = x := rfl
theorem rd1 (x y : Int) : rd [x, y] 1 = y := rfl
theorem compare_ (k : Nat) (hk : 3 ≤ k) (a b c d : Int) : key_Compare.f k a b c d = some (cmpK a b c d) := by
  obtain ⟨k, rfl⟩ : ∃ m, k = m + 1 + 1 + 1 := ⟨k - 3, by omega⟩
  unfold key_Compare.f cmp_Or_int.f cmpK
  rw [cmpc, cmpc]
  simp only [Option.bind_some, List.length_cons, List.length_nil]
  have l2 : (((0 + 1 + 1 : Nat)) : Int) = 2 := rfl
  rw [l2]
  simp only [cmp_Or_int.l0]
  rw [if_pos (by omega), if_pos (by omega), if_pos (by simp), rd0]
  by_cases h : cmpI a c = 0
  · rw [if_pos h, if_pos h, wr1.1]
    rw [if_pos (by omega), if_pos (by omega), if_pos (by simp), rd1]
    by_cases h2 : cmpI b d = 0
    · rw [if_pos h2, wr1.2, if_neg (by omega), h2]; rfl
    · rw [if_neg h2]; rfl
  · rw [if_neg h, if_neg h]; rfl
theorem cmpK_cases (a b c d : Int) : (cmpK a b c d = -1 ∧ (a < c ∨ (a = c ∧ b < d))) ∨ (cmpK a b c d = 0 ∧ a = c ∧ b = d) ∨ (cmpK a b c d = 1 ∧ (c < a ∨ (a = c ∧ d < b))) := by
  unfold cmpK cmpI
  by_cases h1 : a < c
  · simp [h1]
  · by_cases h2 : c < a
    · simp [h1, h2]
    · have : a = c := by omega
      subst this
      by_cases h3 : b < d
      · simp [h3]
      · by_cases h4 : d < b
        · simp [h3, h4]
        · have : b = d := by omega
          subst this
          simp


theorem refGives (a b c d : Int) : coterieref02_Gives.f a b c d = key_Gives.f a b c d := rfl
theorem refCompare (k : Nat) (hk : 1 ≤ k) (a b c d : Int) : coterieref02_Compare.f k a b c d = some (cmpK a b c d) := by
  obtain ⟨k, rfl⟩ : ∃ m, k = m + 1 := ⟨k - 1, by omega⟩
  unfold coterieref02_Compare.f
  simp only [coterieref02_Compare.j0]
  rcases cmpK_cases a b c d with ⟨e, h⟩ | ⟨e, h, h'⟩ | ⟨e, h⟩
  · rw [e]
    rcases h with h | ⟨h, h'⟩
    · rw [if_pos h]; rfl
    · rw [if_neg (by omega), if_pos h, if_pos (decide_eq_true h')]
  · rw [e]
    rw [if_neg (by omega), if_pos h, if_neg (by simp; omega), if_pos (by simp [h, h'])]
  · rw [e]
    rcases h with h | ⟨h, h'⟩
    · rw [if_neg (by omega), if_neg (by omega), if_neg (by simp), if_neg (by simp; omega)]
    · rw [if_neg (by omega), if_pos h, if_neg (by simp; omega), if_neg (by simp; omega)]

theorem KeyGives (a b c d : Int) (_ : (Lit.int .i64 a).wf = true) (_ : (Lit.int .i64 b).wf = true) (_ : (Lit.int .i64 c).wf = true) (_ : (Lit.int .i64 d).wf = true) : ∃ k, coterielaw02_KeyGives.f k a b c d = some true := by
  refine ⟨5, ?_⟩
  unfold coterielaw02_KeyGives.f
  rw [lives, refGives, gives, compare_ 5 (by omega), refCompare 5 (by omega)]
  simp

end Go.Proofs.Ytbkobjdeijdpgaa.Pure
