/- The plain law of KeyPacks, over numbers alone: packing and unpacking answer as the document says. -/
import Derived.Test.YtbkobjdeijdpgaaPKeyPacksx4
import Derived.Laws.BitsLemmas
import Derived.Laws.Bits64
namespace Go.Proofs.Ytbkobjdeijdpgaa.Pure
open Go.RowKit Go.Proofs.Ytbkobjdeijdpgaa.PKeyPacks Go.Proofs.YtbkobjdeijdpgaaW.PrintWords

def goodB (a b : Int) : Bool := decide (0 < a ∧ a ≤ 65535 ∧ 0 ≤ b ∧ b ≤ 255)
theorem goodB_iff {a b : Int} : goodB a b = true ↔ 0 < a ∧ a ≤ 65535 ∧ 0 ≤ b ∧ b ≤ 255 := by simp [goodB]
theorem goodB_no {a b : Int} (h : ¬ (0 < a ∧ a ≤ 65535 ∧ 0 ≤ b ∧ b ≤ 255)) : goodB a b = false := by
  cases e : goodB a b with
  | false => rfl
  | true => exact absurd (goodB_iff.1 e) h

theorem good (a b : Int) : key_Good.f a b = some (goodB a b) := by
  unfold key_Good.f
  by_cases h1 : 0 < a
  · rw [if_pos h1]
    by_cases h2 : a ≤ 65535
    · rw [if_pos h2]
      by_cases h3 : 0 ≤ b
      · rw [if_pos h3]
        exact congrArg some (decide_eq_decide.2 ⟨fun h => ⟨h1, h2, h3, h⟩, fun h => h.2.2.2⟩)
      · rw [if_neg h3, goodB_no (by omega)]
    · rw [if_neg h2, goodB_no (by omega)]
  · rw [if_neg h1, goodB_no (by omega)]

theorem wr {x : Int} (h0 : -9223372036854775808 ≤ x) (h1 : x ≤ 9223372036854775807) : wrap64 x = x := by
  unfold wrap64; omega
theorem wf_lo {x : Int} (h : (Lit.int .i64 x).wf = true) : -9223372036854775808 ≤ x ∧ x ≤ 9223372036854775807 := by
  simpa [Lit.wf, IntKind.min, IntKind.max, IntKind.bits, IntKind.signed] using h

theorem join32 (x y : Int) (h0 : 0 ≤ x) (hx : x % 256 = 0) (h1 : x < 4294967296) (hy0 : 0 ≤ y) (hy : y < 256) : Go.bits .or .u32 x y = x + y :=
  bits_join .u32 32 (by decide) (fun n h0 h1 => by rw [IntKind.wrap_u32]; omega) 8 x y h0 (by omega) (by omega) hy0 (by omega) (by omega)

theorem pack (a b : Int) : key_Pack.f a b = if goodB a b = true then some (a * 256 + b, 0) else some (0, 3) := by
  unfold key_Pack.f
  rw [good]
  simp only [Option.bind_some]
  by_cases g : goodB a b = true
  · rw [if_pos g, if_pos g]
    have g' := goodB_iff.1 g
    have e1 : a % 4294967296 * 256 % 4294967296 = a * 256 := by omega
    have e2 : b % 256 = b := by omega
    rw [e1, e2, join32 _ _ (by omega) (by omega) (by omega) (by omega) (by omega)]
  · rw [if_neg g, if_neg g]

theorem ahead (a b n : Int) : key_Ahead.f a b n = if goodB a b = true then (if n < 0 then some (0, 0, 4) else if n > 255 - b then some (0, 0, 4) else some (a, b + n, 0)) else some (0, 0, 3) := by
  unfold key_Ahead.f
  rw [good]
  simp only [Option.bind_some]
  by_cases g : goodB a b = true
  · rw [if_pos g, if_pos g]
    have g' := goodB_iff.1 g
    rw [wr (x := 255 - b) (by omega) (by omega)]
    by_cases h : n < 0
    · rw [if_pos h, if_pos h]
    · rw [if_neg h, if_neg h]
      by_cases h2 : n > 255 - b
      · rw [if_pos h2, if_pos h2]
      · rw [if_neg h2, if_neg h2, wr (by omega) (by omega)]
  · rw [if_neg g, if_neg g]

theorem lives : coterielaw02_lives.f = some true := by
  unfold coterielaw02_lives.f
  rw [ahead, pack]
  rfl

theorem refGood (a b : Int) : coterieref02_Good.f a b = some (goodB a b) := by
  rw [← good]
  rfl

theorem unpack (w : Int) (h0 : 0 ≤ w) (h1 : w < 4294967296) : key_Unpack.f w = if goodB (w / 256) (w % 256) = true then some (w / 256, w % 256, 0) else some (0, 0, 3) := by
  unfold key_Unpack.f
  rw [good, wr (by omega) (by omega)]
  simp only [Option.bind_some]


theorem refPack (a b : Int) : coterieref02_Pack.f a b = key_Pack.f a b := by
  rw [pack]
  unfold coterieref02_Pack.f
  rw [refGood]
  simp only [Option.bind_some]
  by_cases g : goodB a b = true
  · rw [if_pos g, if_pos g]
    have g' := goodB_iff.1 g
    have e : (a % 4294967296 * 256 % 4294967296 + b % 4294967296) % 4294967296 = a * 256 + b := by omega
    rw [e]
  · rw [if_neg g, if_neg g]
theorem refUnpack (w : Int) (h0 : 0 ≤ w) (h1 : w < 4294967296) : coterieref02_Unpack.f w = key_Unpack.f w := by
  rw [unpack w h0 h1]
  unfold coterieref02_Unpack.f
  have e1 : Int.tdiv w 256 % 4294967296 = w / 256 := by rw [Int.tdiv_eq_ediv_of_nonneg h0]; omega
  have e2 : wrap64 (Int.tmod w 256) = w % 256 := by rw [Int.tmod_eq_emod_of_nonneg h0, wr (by omega) (by omega)]
  rw [e1, e2, refGood]
  simp only [Option.bind_some]
theorem packTotal (a b : Int) : ∃ w e, key_Pack.f a b = some (w, e) ∧ 0 ≤ w ∧ w < 4294967296 := by
  rw [pack]
  by_cases g : goodB a b = true
  · have g' := goodB_iff.1 g
    exact ⟨_, _, if_pos g, by omega, by omega⟩
  · exact ⟨_, _, if_neg g, by omega, by omega⟩
theorem join64 (x y : Int) (h0 : 0 ≤ x) (h1 : x < 4294967296) (hy0 : 0 ≤ y) (hy : y < 4294967296) : Go.bits .or .u64 (x * 4294967296) y = x * 4294967296 + y :=
  bits_join .u64 64 (by decide) (fun n h0 h1 => by rw [IntKind.wrap_u64]; omega) 32 _ y (by omega) (by omega) (by omega) hy0 (by omega) (by omega)
theorem refPackBox (a b c d : Int) : coterieref02_PackBox.f a b c d = key_PackBox.f a b c d := by
  unfold coterieref02_PackBox.f key_PackBox.f
  rw [refPack, refPack]
  obtain ⟨w, e, h, h0, h1⟩ := packTotal a b
  obtain ⟨v, f, h', h0', h1'⟩ := packTotal c d
  rw [h, h']
  simp only [Option.bind_some]
  simp only [IntKind.wrap_u64]
  have e1 : w % 18446744073709551616 = w := by omega
  have e2 : v % 18446744073709551616 = v := by omega
  rw [e1, e2]
  have e3 : w * 4294967296 % 18446744073709551616 = w * 4294967296 := by omega
  rw [e3]
  have e4 : (w * 4294967296 + v) % 18446744073709551616 = w * 4294967296 + v := by omega
  rw [e4, join64 w v h0 h1 h0' h1']
theorem refUnpackBox (w : Int) (h0 : 0 ≤ w) : coterieref02_UnpackBox.f w = key_UnpackBox.f w := by
  unfold coterieref02_UnpackBox.f key_UnpackBox.f
  have e1 : IntKind.u64.wrap (Int.tdiv w 4294967296) % 4294967296 = w / 4294967296 % 4294967296 := by rw [IntKind.wrap_u64, Int.tdiv_eq_ediv_of_nonneg h0]; omega
  have e2 : Int.tmod w 4294967296 % 4294967296 = w % 4294967296 := by rw [Int.tmod_eq_emod_of_nonneg h0]; omega
  rw [e1, e2, refUnpack _ (by omega) (by omega), refUnpack _ (by omega) (by omega)]
theorem unpackTotal (w : Int) (h0 : 0 ≤ w) (h1 : w < 4294967296) : ∃ r, key_Unpack.f w = some r := by
  rw [unpack w h0 h1]; split <;> exact ⟨_, rfl⟩
theorem packBoxTotal (a b c d : Int) : ∃ r, key_PackBox.f a b c d = some r := by
  unfold key_PackBox.f
  obtain ⟨w, e, h, _, _⟩ := packTotal a b
  obtain ⟨v, f, h', _, _⟩ := packTotal c d
  rw [h, h']
  simp only [Option.bind_some]
  repeat' split
  all_goals exact ⟨_, rfl⟩
theorem unpackBoxTotal (w : Int) : ∃ r, key_UnpackBox.f w = some r := by
  unfold key_UnpackBox.f
  obtain ⟨r, h⟩ := unpackTotal (w / 4294967296 % 4294967296) (by omega) (by omega)
  obtain ⟨s, h'⟩ := unpackTotal (w % 4294967296) (by omega) (by omega)
  rw [h, h']
  simp only [Option.bind_some]
  repeat' split
  all_goals exact ⟨_, rfl⟩

theorem KeyPacks (a b c d w : Int) (_ : (Lit.int .i64 a).wf = true) (_ : (Lit.int .i64 b).wf = true) (_ : (Lit.int .i64 c).wf = true) (_ : (Lit.int .i64 d).wf = true) (hw : (Lit.int .u64 w).wf = true) : ∃ k, coterielaw02_KeyPacks.f k a b c d w = some true := by
  have hw' : 0 ≤ w ∧ w ≤ 18446744073709551615 := by simpa [Lit.wf, IntKind.min, IntKind.max, IntKind.bits, IntKind.signed] using hw
  refine ⟨3 + 1 + 1 + 1, ?_⟩
  unfold coterielaw02_KeyPacks.f
  rw [lives, refPack]
  obtain ⟨p, e, h, _, _⟩ := packTotal a b
  rw [h]
  simp only [Option.bind_some, if_true, bne_self_eq_false, coterielaw02_KeyPacks.j0]
  rw [if_neg (by simp), refUnpack _ (by omega) (by omega)]
  obtain ⟨r, h'⟩ := unpackTotal (w % 4294967296) (by omega) (by omega)
  rw [h']
  simp only [Option.bind_some, beq_self_eq_true, Bool.not_true, Bool.or_false, bne_self_eq_false]
  rw [if_neg (by simp)]
  simp only [coterielaw02_KeyPacks.j1]
  rw [if_neg (by simp), refPackBox]
  obtain ⟨s, h2⟩ := packBoxTotal a b c d
  rw [h2]
  simp only [Option.bind_some, if_true, bne_self_eq_false, coterielaw02_KeyPacks.j2]
  rw [if_neg (by simp), refUnpackBox w (by omega)]
  obtain ⟨t, h3⟩ := unpackBoxTotal w
  rw [h3]
  simp

end Go.Proofs.Ytbkobjdeijdpgaa.Pure
