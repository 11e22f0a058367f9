/- Contracts of the key functions, walked by symbolic execution. -/
import Derived.Test.YtbkobjdeijdpgaaTy
import Derived.Laws.BitsLemmas
import Derived.Laws.Bits64
namespace Go.Proofs.Ytbkobjdeijdpgaa
open Go Go.SX Go.RowKit
set_option maxRecDepth 100000
set_option synthInstance.maxSize 100000
set_option synthInstance.maxHeartbeats 400000
abbrev kv (a b : Int) : Value := .agg #[.int .i64 a, .int .i64 b]
abbrev bv (a b c d : Int) : Value := .agg #[.int .i64 a, .int .i64 b, .int .i64 c, .int .i64 d]
def Gd (a b : Int) : Prop := 0 < a ∧ a ≤ 65535 ∧ 0 ≤ b ∧ b ≤ 255
theorem gd {a b : Int} : Gd a b ↔ 0 < a ∧ a ≤ 65535 ∧ 0 ≤ b ∧ b ≤ 255 := Iff.rfl
instance (a b : Int) : Decidable (Gd a b) := by unfold Gd; infer_instance
theorem wr {x : Int} (h0 : -9223372036854775808 ≤ x) (h1 : x ≤ 9223372036854775807) : wrap64 x = x := by
  unfold wrap64; omega
theorem wr0 : wrap64 0 = 0 := wr (by omega) (by omega)

instance good_s (a b : Int) : PC Try.prog 16 #[kv a b] (.bool (decide (Gd a b))) := ⟨by
  refine spec_of1 Try.func16 Try.ntmps16 rfl rfl (fun M w0 => ?_)
  repeat' (first | refine v_val ?_ | refine v_pickT ?_ | refine v_pickF ?_ | refine v_cons (v_pcall ?_) | refine v_done ?_ | refine v_then ?_ | refine v_reg ?_ | refine v_seq ?_ | refine v_cons (v_box (fun _ => ?_)) | refine v_cons (v_store ?_) | refine v_cons (v_alloc' (fun _ => ?_)) | refine v_cons (v_lit (fun _ => ?_)) | refine v_guardY rfl ?_ | refine v_guardTF rfl ?_ | refine v_guardFT rfl ?_ | refine v_guardU rfl ?_ | refine v_condT ?_ | refine v_condF ?_ | refine v_condD (fun _ => ?_) (fun _ => ?_) | refine v_split rfl rfl (fun _ => ?_) (fun _ => ?_) | refine v_pickD (fun _ => ?_) (fun _ => ?_) | refine v_ret ?_ | refine v_thenR ?_ | refine v_skip ?_ | refine v_block ?_ | refine v_blockN ?_ | refine v_blockR ?_ | refine v_exit ?_ | refine v_thenX ?_ | refine v_blockX ?_ | refine v_blockO ?_ | refine v_cond (fun _ => ?_) (fun _ => ?_) | refine v_splitB rfl rfl (fun _ => ?_) (fun _ => ?_) | (refine v_shl ?_ ?_; omega) | (refine v_shr ?_ ?_; omega) | (refine v_quo ?_ ?_; omega) | (refine v_rem ?_ ?_; omega) | (refine v_idx ?_ ?_ ?_; omega; omega) | (refine v_idxA ?_ ?_ ?_; omega; omega) | (refine v_idxS ?_ ?_ ?_; omega; omega))
  all_goals refine v_out1 (Γk := []) Try.results16 ⟨?_, rfl⟩
  all_goals first | (refine bD ?_; unfold Gd; omega) | (refine bF ?_; unfold Gd; omega)⟩

instance refGood_s (a b : Int) : PC Try.prog 17 #[kv a b] (.bool (decide (Gd a b))) := ⟨by
  refine spec_of1 Try.func17 Try.ntmps17 rfl rfl (fun M w0 => ?_)
  repeat' (first | refine v_val ?_ | refine v_pickT ?_ | refine v_pickF ?_ | refine v_cons (v_pcall ?_) | refine v_done ?_ | refine v_then ?_ | refine v_reg ?_ | refine v_seq ?_ | refine v_cons (v_box (fun _ => ?_)) | refine v_cons (v_store ?_) | refine v_cons (v_alloc' (fun _ => ?_)) | refine v_cons (v_lit (fun _ => ?_)) | refine v_guardY rfl ?_ | refine v_guardTF rfl ?_ | refine v_guardFT rfl ?_ | refine v_guardU rfl ?_ | refine v_condT ?_ | refine v_condF ?_ | refine v_condD (fun _ => ?_) (fun _ => ?_) | refine v_split rfl rfl (fun _ => ?_) (fun _ => ?_) | refine v_pickD (fun _ => ?_) (fun _ => ?_) | refine v_ret ?_ | refine v_thenR ?_ | refine v_skip ?_ | refine v_block ?_ | refine v_blockN ?_ | refine v_blockR ?_ | refine v_exit ?_ | refine v_thenX ?_ | refine v_blockX ?_ | refine v_blockO ?_ | refine v_cond (fun _ => ?_) (fun _ => ?_) | refine v_splitB rfl rfl (fun _ => ?_) (fun _ => ?_) | (refine v_shl ?_ ?_; omega) | (refine v_shr ?_ ?_; omega) | (refine v_quo ?_ ?_; omega) | (refine v_rem ?_ ?_; omega) | (refine v_idx ?_ ?_ ?_; omega; omega) | (refine v_idxA ?_ ?_ ?_; omega; omega) | (refine v_idxS ?_ ?_ ?_; omega; omega))
  all_goals refine v_out1 (Γk := []) Try.results17 ⟨?_, rfl⟩
  all_goals first | (refine bD ?_; unfold Gd; omega) | (refine bF ?_; unfold Gd; omega)⟩

/-- what Ahead answers -/
def aheadV (a b n : Int) : Value := if Gd a b then (if n < 0 ∨ n > 255 - b then .tuple #[kv 0 0, .int .i64 4] else .tuple #[kv a (b + n), .int .i64 0]) else .tuple #[kv 0 0, .int .i64 3]
instance ahead_s (a b n : Int) : PC Try.prog 18 #[kv a b, .int .i64 n] (aheadV a b n) := ⟨by
  refine spec_of2 Try.func18 Try.ntmps18 rfl rfl (fun M w0 => ?_)
  repeat' (first | refine v_val ?_ | refine v_pickT ?_ | refine v_pickF ?_ | refine v_cons (v_pcall ?_) | refine v_done ?_ | refine v_then ?_ | refine v_reg ?_ | refine v_seq ?_ | refine v_cons (v_box (fun _ => ?_)) | refine v_cons (v_store ?_) | refine v_cons (v_alloc' (fun _ => ?_)) | refine v_cons (v_lit (fun _ => ?_)) | refine v_guardY rfl ?_ | refine v_guardTF rfl ?_ | refine v_guardFT rfl ?_ | refine v_guardU rfl ?_ | refine v_condT ?_ | refine v_condF ?_ | refine v_condD (fun _ => ?_) (fun _ => ?_) | refine v_split rfl rfl (fun _ => ?_) (fun _ => ?_) | refine v_pickD (fun _ => ?_) (fun _ => ?_) | refine v_ret ?_ | refine v_thenR ?_ | refine v_skip ?_ | refine v_block ?_ | refine v_blockN ?_ | refine v_blockR ?_ | refine v_exit ?_ | refine v_thenX ?_ | refine v_blockX ?_ | refine v_blockO ?_ | refine v_cond (fun _ => ?_) (fun _ => ?_) | refine v_splitB rfl rfl (fun _ => ?_) (fun _ => ?_) | (refine v_shl ?_ ?_; omega) | (refine v_shr ?_ ?_; omega) | (refine v_quo ?_ ?_; omega) | (refine v_rem ?_ ?_; omega) | (refine v_idx ?_ ?_ ?_; omega; omega) | (refine v_idxA ?_ ?_ ?_; omega; omega) | (refine v_idxS ?_ ?_ ?_; omega; omega))
  all_goals refine v_out2 (Γk := []) Try.results18 ⟨?_, rfl⟩
  all_goals unfold aheadV
  · rw [if_neg (by assumption)]
  · rw [if_pos (by rw [gd] at *; omega), if_pos (by omega)]
  all_goals rename_i g _ h
  all_goals rw [gd] at g
  all_goals rw [wr (by omega) (by omega)] at h
  · rw [if_pos (by rw [gd]; omega), if_pos (by omega)]
  · rw [if_pos (by rw [gd]; omega), if_neg (by omega), wr (by omega) (by omega)]⟩
theorem join32 (x y : Int) (h0 : 0 ≤ x) (hx : x % 256 = 0) (h1 : x < 4294967296) (hy0 : 0 ≤ y) (hy : y < 256) : Go.bits .or .u32 x y = x + y :=
  bits_join .u32 32 (by decide) (fun n h0 h1 => by rw [IntKind.wrap_u32]; omega) 8 x y h0 (by omega) (by omega) hy0 (by omega) (by omega)
theorem shl32 (x : Int) (h0 : 0 ≤ x) (h1 : x < 16777216) : shlI .u32 x 8 = x * 256 := by
  unfold shlI
  rw [IntKind.wrap_u32]
  have : min (8 : Int).toNat IntKind.u32.bits = 8 := by decide
  rw [this]
  omega
def packV (a b : Int) : Value := if Gd a b then .tuple #[.int .u32 (a * 256 + b), .int .i64 0] else .tuple #[.int .u32 0, .int .i64 3]
instance pack_s (a b : Int) : PC Try.prog 37 #[kv a b] (packV a b) := ⟨by
  refine spec_of1 Try.func37 Try.ntmps37 rfl rfl (fun M w0 => ?_)
  repeat' (first | refine v_val ?_ | refine v_pickT ?_ | refine v_pickF ?_ | refine v_cons (v_pcall ?_) | refine v_done ?_ | refine v_then ?_ | refine v_reg ?_ | refine v_seq ?_ | refine v_cons (v_box (fun _ => ?_)) | refine v_cons (v_store ?_) | refine v_cons (v_alloc' (fun _ => ?_)) | refine v_cons (v_lit (fun _ => ?_)) | refine v_guardY rfl ?_ | refine v_guardTF rfl ?_ | refine v_guardFT rfl ?_ | refine v_guardU rfl ?_ | refine v_condT ?_ | refine v_condF ?_ | refine v_condD (fun _ => ?_) (fun _ => ?_) | refine v_split rfl rfl (fun _ => ?_) (fun _ => ?_) | refine v_pickD (fun _ => ?_) (fun _ => ?_) | refine v_ret ?_ | refine v_thenR ?_ | refine v_skip ?_ | refine v_block ?_ | refine v_blockN ?_ | refine v_blockR ?_ | refine v_exit ?_ | refine v_thenX ?_ | refine v_blockX ?_ | refine v_blockO ?_ | refine v_cond (fun _ => ?_) (fun _ => ?_) | refine v_splitB rfl rfl (fun _ => ?_) (fun _ => ?_) | (refine v_shl ?_ ?_; omega) | (refine v_shr ?_ ?_; omega) | (refine v_quo ?_ ?_; omega) | (refine v_rem ?_ ?_; omega) | (refine v_idx ?_ ?_ ?_; omega; omega) | (refine v_idxA ?_ ?_ ?_; omega; omega) | (refine v_idxS ?_ ?_ ?_; omega; omega))
  all_goals refine v_out2 (Γk := []) Try.results37 ⟨?_, rfl⟩
  all_goals unfold packV
  · rw [if_neg (by assumption)]
  · have g : Gd a b := by rename_i g; exact Decidable.not_not.1 g
    have g' := gd.1 g
    have e1 : IntKind.u32.wrap a = a := by rw [IntKind.wrap_u32]; omega
    have e2 : IntKind.u32.wrap (IntKind.u8.wrap b) = b := by rw [IntKind.wrap_u8, IntKind.wrap_u32]; omega
    rw [if_pos g, e1, e2, shl32 a (by omega) (by omega), join32 _ _ (by omega) (by omega) (by omega) (by omega) (by omega)]⟩

theorem ahead1 : aheadV 7 3 2 = .tuple #[kv 7 5, .int .i64 0] := by unfold aheadV; rw [if_pos (by rw [gd]; omega), if_neg (by omega)]; rfl
theorem pack1 : packV 12 3 = .tuple #[.int .u32 3075, .int .i64 0] := by unfold packV; rw [if_pos (by rw [gd]; omega)]; rfl
instance ahead1_s : PC Try.prog 18 #[kv 7 3, .int .i64 2] (.tuple #[kv 7 5, .int .i64 0]) := ahead1 ▸ ahead_s 7 3 2
instance pack1_s : PC Try.prog 37 #[kv 12 3] (.tuple #[.int .u32 3075, .int .i64 0]) := pack1 ▸ pack_s 12 3
instance lives_s : PC Try.prog 15 #[] (.bool true) := ⟨by
  refine spec_of0 Try.func15 Try.ntmps15 rfl rfl (fun M w0 => ?_)
  repeat' (first | refine v_val ?_ | refine v_pickT ?_ | refine v_pickF ?_ | refine v_cons (v_pcall ?_) | refine v_done ?_ | refine v_then ?_ | refine v_reg ?_ | refine v_seq ?_ | refine v_cons (v_box (fun _ => ?_)) | refine v_cons (v_store ?_) | refine v_cons (v_alloc' (fun _ => ?_)) | refine v_cons (v_lit (fun _ => ?_)) | refine v_guardY rfl ?_ | refine v_guardTF rfl ?_ | refine v_guardFT rfl ?_ | refine v_guardU rfl ?_ | refine v_condT ?_ | refine v_condF ?_ | refine v_condD (fun _ => ?_) (fun _ => ?_) | refine v_split rfl rfl (fun _ => ?_) (fun _ => ?_) | refine v_pickD (fun _ => ?_) (fun _ => ?_) | refine v_ret ?_ | refine v_thenR ?_ | refine v_skip ?_ | refine v_block ?_ | refine v_blockN ?_ | refine v_blockR ?_ | refine v_exit ?_ | refine v_thenX ?_ | refine v_blockX ?_ | refine v_blockO ?_ | refine v_cond (fun _ => ?_) (fun _ => ?_) | refine v_splitB rfl rfl (fun _ => ?_) (fun _ => ?_) | (refine v_shl ?_ ?_; omega) | (refine v_shr ?_ ?_; omega) | (refine v_quo ?_ ?_; omega) | (refine v_rem ?_ ?_; omega) | (refine v_idx ?_ ?_ ?_; omega; omega) | (refine v_idxA ?_ ?_ ?_; omega; omega) | (refine v_idxS ?_ ?_ ?_; omega; omega))
  all_goals refine v_out1 (Γk := []) Try.results15 ⟨?_, rfl⟩
  all_goals rfl⟩
instance gives_s (a b c d : Int) : PC Try.prog 20 #[kv a b, kv c d] (.bool (decide (Gd a b ∧ Gd c d ∧ a = c ∧ b ≤ d))) := ⟨by
  refine spec_of2 Try.func20 Try.ntmps20 rfl rfl (fun M w0 => ?_)
  repeat' (first | refine v_val ?_ | refine v_pickT ?_ | refine v_pickF ?_ | refine v_cons (v_pcall ?_) | refine v_done ?_ | refine v_then ?_ | refine v_reg ?_ | refine v_seq ?_ | refine v_cons (v_box (fun _ => ?_)) | refine v_cons (v_store ?_) | refine v_cons (v_alloc' (fun _ => ?_)) | refine v_cons (v_lit (fun _ => ?_)) | refine v_guardY rfl ?_ | refine v_guardTF rfl ?_ | refine v_guardFT rfl ?_ | refine v_guardU rfl ?_ | refine v_condT ?_ | refine v_condF ?_ | refine v_condD (fun _ => ?_) (fun _ => ?_) | refine v_split rfl rfl (fun _ => ?_) (fun _ => ?_) | refine v_pickD (fun _ => ?_) (fun _ => ?_) | refine v_ret ?_ | refine v_thenR ?_ | refine v_skip ?_ | refine v_block ?_ | refine v_blockN ?_ | refine v_blockR ?_ | refine v_exit ?_ | refine v_thenX ?_ | refine v_blockX ?_ | refine v_blockO ?_ | refine v_cond (fun _ => ?_) (fun _ => ?_) | refine v_splitB rfl rfl (fun _ => ?_) (fun _ => ?_) | (refine v_shl ?_ ?_; omega) | (refine v_shr ?_ ?_; omega) | (refine v_quo ?_ ?_; omega) | (refine v_rem ?_ ?_; omega) | (refine v_idx ?_ ?_ ?_; omega; omega) | (refine v_idxA ?_ ?_ ?_; omega; omega) | (refine v_idxS ?_ ?_ ?_; omega; omega))
  all_goals refine v_out1 (Γk := []) Try.results20 ⟨?_, rfl⟩
  all_goals first | (refine bD ?_; simp_all; done) | (refine bF ?_; simp_all; done)⟩
instance refGives_s (a b c d : Int) : PC Try.prog 45 #[kv a b, kv c d] (.bool (decide (Gd a b ∧ Gd c d ∧ a = c ∧ b ≤ d))) := ⟨by
  refine spec_of2 Try.func45 Try.ntmps45 rfl rfl (fun M w0 => ?_)
  repeat' (first | refine v_val ?_ | refine v_pickT ?_ | refine v_pickF ?_ | refine v_cons (v_pcall ?_) | refine v_done ?_ | refine v_then ?_ | refine v_reg ?_ | refine v_seq ?_ | refine v_cons (v_box (fun _ => ?_)) | refine v_cons (v_store ?_) | refine v_cons (v_alloc' (fun _ => ?_)) | refine v_cons (v_lit (fun _ => ?_)) | refine v_guardY rfl ?_ | refine v_guardTF rfl ?_ | refine v_guardFT rfl ?_ | refine v_guardU rfl ?_ | refine v_condT ?_ | refine v_condF ?_ | refine v_condD (fun _ => ?_) (fun _ => ?_) | refine v_split rfl rfl (fun _ => ?_) (fun _ => ?_) | refine v_pickD (fun _ => ?_) (fun _ => ?_) | refine v_ret ?_ | refine v_thenR ?_ | refine v_skip ?_ | refine v_block ?_ | refine v_blockN ?_ | refine v_blockR ?_ | refine v_exit ?_ | refine v_thenX ?_ | refine v_blockX ?_ | refine v_blockO ?_ | refine v_cond (fun _ => ?_) (fun _ => ?_) | refine v_splitB rfl rfl (fun _ => ?_) (fun _ => ?_) | (refine v_shl ?_ ?_; omega) | (refine v_shr ?_ ?_; omega) | (refine v_quo ?_ ?_; omega) | (refine v_rem ?_ ?_; omega) | (refine v_idx ?_ ?_ ?_; omega; omega) | (refine v_idxA ?_ ?_ ?_; omega; omega) | (refine v_idxS ?_ ?_ ?_; omega; omega))
  all_goals refine v_out1 (Γk := []) Try.results45 ⟨?_, rfl⟩
  all_goals first | (refine bD ?_; simp_all; done) | (refine bF ?_; simp_all; done)⟩
instance goodBox_s (a b c d : Int) : PC Try.prog 53 #[bv a b c d] (.bool (decide (Gd a b ∧ Gd c d))) := ⟨by
  refine spec_of1 Try.func53 Try.ntmps53 rfl rfl (fun M w0 => ?_)
  repeat' (first | refine v_val ?_ | refine v_pickT ?_ | refine v_pickF ?_ | refine v_cons (v_pcall ?_) | refine v_done ?_ | refine v_then ?_ | refine v_reg ?_ | refine v_seq ?_ | refine v_cons (v_box (fun _ => ?_)) | refine v_cons (v_store ?_) | refine v_cons (v_alloc' (fun _ => ?_)) | refine v_cons (v_lit (fun _ => ?_)) | refine v_guardY rfl ?_ | refine v_guardTF rfl ?_ | refine v_guardFT rfl ?_ | refine v_guardU rfl ?_ | refine v_condT ?_ | refine v_condF ?_ | refine v_condD (fun _ => ?_) (fun _ => ?_) | refine v_split rfl rfl (fun _ => ?_) (fun _ => ?_) | refine v_pickD (fun _ => ?_) (fun _ => ?_) | refine v_ret ?_ | refine v_thenR ?_ | refine v_skip ?_ | refine v_block ?_ | refine v_blockN ?_ | refine v_blockR ?_ | refine v_exit ?_ | refine v_thenX ?_ | refine v_blockX ?_ | refine v_blockO ?_ | refine v_cond (fun _ => ?_) (fun _ => ?_) | refine v_splitB rfl rfl (fun _ => ?_) (fun _ => ?_) | (refine v_shl ?_ ?_; omega) | (refine v_shr ?_ ?_; omega) | (refine v_quo ?_ ?_; omega) | (refine v_rem ?_ ?_; omega) | (refine v_idx ?_ ?_ ?_; omega; omega) | (refine v_idxA ?_ ?_ ?_; omega; omega) | (refine v_idxS ?_ ?_ ?_; omega; omega))
  all_goals refine v_out1 (Γk := []) Try.results53 ⟨?_, rfl⟩
  all_goals first | (refine bD ?_; simp_all; done) | (refine bF ?_; simp_all; done)⟩
/-- x, if both keys are good -/
def sg (a b c d x : Int) : Int := if Gd a b ∧ Gd c d then x else 0
abbrev sealV (a b c d : Int) : Value := .tuple #[bv (sg a b c d a) (sg a b c d b) (sg a b c d c) (sg a b c d d), .int .i64 (if Gd a b ∧ Gd c d then 0 else 3)]
theorem sealV1 {a b c d : Int} (h : Gd a b ∧ Gd c d) : sealV a b c d = .tuple #[bv a b c d, .int .i64 0] := by unfold sealV sg; simp only [if_pos h]
theorem sealV0 {a b c d : Int} (h : ¬ (Gd a b ∧ Gd c d)) : sealV a b c d = .tuple #[bv 0 0 0 0, .int .i64 3] := by unfold sealV sg; simp only [if_neg h]
instance seal_s (a b c d : Int) : PC Try.prog 21 #[kv a b, kv c d] (sealV a b c d) := ⟨by
  refine spec_of2 Try.func21 Try.ntmps21 rfl rfl (fun M w0 => ?_)
  repeat' (first | refine v_val ?_ | refine v_pickT ?_ | refine v_pickF ?_ | refine v_cons (v_pcall ?_) | refine v_done ?_ | refine v_then ?_ | refine v_reg ?_ | refine v_seq ?_ | refine v_cons (v_box (fun _ => ?_)) | refine v_cons (v_store ?_) | refine v_cons (v_alloc' (fun _ => ?_)) | refine v_cons (v_lit (fun _ => ?_)) | refine v_guardY rfl ?_ | refine v_guardTF rfl ?_ | refine v_guardFT rfl ?_ | refine v_guardU rfl ?_ | refine v_condT ?_ | refine v_condF ?_ | refine v_condD (fun _ => ?_) (fun _ => ?_) | refine v_split rfl rfl (fun _ => ?_) (fun _ => ?_) | refine v_pickD (fun _ => ?_) (fun _ => ?_) | refine v_ret ?_ | refine v_thenR ?_ | refine v_skip ?_ | refine v_block ?_ | refine v_blockN ?_ | refine v_blockR ?_ | refine v_exit ?_ | refine v_thenX ?_ | refine v_blockX ?_ | refine v_blockO ?_ | refine v_cond (fun _ => ?_) (fun _ => ?_) | refine v_splitB rfl rfl (fun _ => ?_) (fun _ => ?_) | (refine v_shl ?_ ?_; omega) | (refine v_shr ?_ ?_; omega) | (refine v_quo ?_ ?_; omega) | (refine v_rem ?_ ?_; omega) | (refine v_idx ?_ ?_ ?_; omega; omega) | (refine v_idxA ?_ ?_ ?_; omega; omega) | (refine v_idxS ?_ ?_ ?_; omega; omega))
  all_goals refine v_out2 (Γk := []) Try.results21 ⟨?_, rfl⟩
  all_goals first | exact (sealV0 (by simp_all; done)).symm | exact (sealV1 (by simp_all; done)).symm⟩
instance refSeal_s (a b c d : Int) : PC Try.prog 22 #[kv a b, kv c d] (sealV a b c d) := ⟨by
  refine spec_of2 Try.func22 Try.ntmps22 rfl rfl (fun M w0 => ?_)
  repeat' (first | refine v_val ?_ | refine v_pickT ?_ | refine v_pickF ?_ | refine v_cons (v_pcall ?_) | refine v_done ?_ | refine v_then ?_ | refine v_reg ?_ | refine v_seq ?_ | refine v_cons (v_box (fun _ => ?_)) | refine v_cons (v_store ?_) | refine v_cons (v_alloc' (fun _ => ?_)) | refine v_cons (v_lit (fun _ => ?_)) | refine v_guardY rfl ?_ | refine v_guardTF rfl ?_ | refine v_guardFT rfl ?_ | refine v_guardU rfl ?_ | refine v_condT ?_ | refine v_condF ?_ | refine v_condD (fun _ => ?_) (fun _ => ?_) | refine v_split rfl rfl (fun _ => ?_) (fun _ => ?_) | refine v_pickD (fun _ => ?_) (fun _ => ?_) | refine v_ret ?_ | refine v_thenR ?_ | refine v_skip ?_ | refine v_block ?_ | refine v_blockN ?_ | refine v_blockR ?_ | refine v_exit ?_ | refine v_thenX ?_ | refine v_blockX ?_ | refine v_blockO ?_ | refine v_cond (fun _ => ?_) (fun _ => ?_) | refine v_splitB rfl rfl (fun _ => ?_) (fun _ => ?_) | (refine v_shl ?_ ?_; omega) | (refine v_shr ?_ ?_; omega) | (refine v_quo ?_ ?_; omega) | (refine v_rem ?_ ?_; omega) | (refine v_idx ?_ ?_ ?_; omega; omega) | (refine v_idxA ?_ ?_ ?_; omega; omega) | (refine v_idxS ?_ ?_ ?_; omega; omega))
  all_goals refine v_out2 (Γk := []) Try.results22 ⟨?_, rfl⟩
  all_goals first | exact (sealV0 (by simp_all; done)).symm | exact (sealV1 (by simp_all; done)).symm⟩
/-- what Open answers -/
def OG (a b c d x y : Int) : Prop := Gd a b ∧ Gd c d ∧ Gd x y
def OO (a b x y : Int) : Prop := x = a ∧ y ≤ b
instance (a b c d x y : Int) : Decidable (OG a b c d x y) := by unfold OG; infer_instance
instance (a b x y : Int) : Decidable (OO a b x y) := by unfold OO; infer_instance
def og (a b c d x y z : Int) : Int := if OG a b c d x y ∧ OO a b x y then z else 0
abbrev openV (a b c d x y : Int) : Value := .tuple #[kv (og a b c d x y c) (og a b c d x y d), .int .i64 (if OG a b c d x y then (if OO a b x y then 0 else 5) else 3)]
theorem openV3 {a b c d x y : Int} (h : ¬ OG a b c d x y) : openV a b c d x y = .tuple #[kv 0 0, .int .i64 3] := by unfold openV og; simp only [if_neg h, if_neg (fun h' : _ ∧ _ => h h'.1)]
theorem openV5 {a b c d x y : Int} (h : OG a b c d x y) (h2 : ¬ OO a b x y) : openV a b c d x y = .tuple #[kv 0 0, .int .i64 5] := by unfold openV og; simp only [if_pos h, if_neg h2, if_neg (fun h' : _ ∧ _ => h2 h'.2)]
theorem openV0 {a b c d x y : Int} (h : OG a b c d x y) (h2 : OO a b x y) : openV a b c d x y = .tuple #[kv c d, .int .i64 0] := by unfold openV og; simp only [if_pos h, if_pos h2, if_pos (And.intro h h2)]
instance open_s (a b c d x y : Int) : PC Try.prog 23 #[bv a b c d, kv x y] (openV a b c d x y) := ⟨by
  refine spec_of2 Try.func23 Try.ntmps23 rfl rfl (fun M w0 => ?_)
  repeat' (first | refine v_val ?_ | refine v_pickT ?_ | refine v_pickF ?_ | refine v_cons (v_pcall ?_) | refine v_done ?_ | refine v_then ?_ | refine v_reg ?_ | refine v_seq ?_ | refine v_cons (v_box (fun _ => ?_)) | refine v_cons (v_store ?_) | refine v_cons (v_alloc' (fun _ => ?_)) | refine v_cons (v_lit (fun _ => ?_)) | refine v_guardY rfl ?_ | refine v_guardTF rfl ?_ | refine v_guardFT rfl ?_ | refine v_guardU rfl ?_ | refine v_condT ?_ | refine v_condF ?_ | refine v_condD (fun _ => ?_) (fun _ => ?_) | refine v_split rfl rfl (fun _ => ?_) (fun _ => ?_) | refine v_pickD (fun _ => ?_) (fun _ => ?_) | refine v_ret ?_ | refine v_thenR ?_ | refine v_skip ?_ | refine v_block ?_ | refine v_blockN ?_ | refine v_blockR ?_ | refine v_exit ?_ | refine v_thenX ?_ | refine v_blockX ?_ | refine v_blockO ?_ | refine v_cond (fun _ => ?_) (fun _ => ?_) | refine v_splitB rfl rfl (fun _ => ?_) (fun _ => ?_) | (refine v_shl ?_ ?_; omega) | (refine v_shr ?_ ?_; omega) | (refine v_quo ?_ ?_; omega) | (refine v_rem ?_ ?_; omega) | (refine v_idx ?_ ?_ ?_; omega; omega) | (refine v_idxA ?_ ?_ ?_; omega; omega) | (refine v_idxS ?_ ?_ ?_; omega; omega))
  all_goals refine v_out2 (Γk := []) Try.results23 ⟨?_, rfl⟩
  all_goals first | exact (openV3 (by unfold OG; simp_all; done)).symm | exact (openV5 (by unfold OG; simp_all; done) (by unfold OO; simp_all; done)).symm | exact (openV0 (by unfold OG; simp_all; done) (by unfold OO; simp_all; done)).symm⟩
instance refOpen_s (a b c d x y : Int) : PC Try.prog 24 #[bv a b c d, kv x y] (openV a b c d x y) := ⟨by
  refine spec_of2 Try.func24 Try.ntmps24 rfl rfl (fun M w0 => ?_)
  repeat' (first | refine v_val ?_ | refine v_pickT ?_ | refine v_pickF ?_ | refine v_cons (v_pcall ?_) | refine v_done ?_ | refine v_then ?_ | refine v_reg ?_ | refine v_seq ?_ | refine v_cons (v_box (fun _ => ?_)) | refine v_cons (v_store ?_) | refine v_cons (v_alloc' (fun _ => ?_)) | refine v_cons (v_lit (fun _ => ?_)) | refine v_guardY rfl ?_ | refine v_guardTF rfl ?_ | refine v_guardFT rfl ?_ | refine v_guardU rfl ?_ | refine v_condT ?_ | refine v_condF ?_ | refine v_condD (fun _ => ?_) (fun _ => ?_) | refine v_split rfl rfl (fun _ => ?_) (fun _ => ?_) | refine v_pickD (fun _ => ?_) (fun _ => ?_) | refine v_ret ?_ | refine v_thenR ?_ | refine v_skip ?_ | refine v_block ?_ | refine v_blockN ?_ | refine v_blockR ?_ | refine v_exit ?_ | refine v_thenX ?_ | refine v_blockX ?_ | refine v_blockO ?_ | refine v_cond (fun _ => ?_) (fun _ => ?_) | refine v_splitB rfl rfl (fun _ => ?_) (fun _ => ?_) | (refine v_shl ?_ ?_; omega) | (refine v_shr ?_ ?_; omega) | (refine v_quo ?_ ?_; omega) | (refine v_rem ?_ ?_; omega) | (refine v_idx ?_ ?_ ?_; omega; omega) | (refine v_idxA ?_ ?_ ?_; omega; omega) | (refine v_idxS ?_ ?_ ?_; omega; omega))
  all_goals refine v_out2 (Γk := []) Try.results24 ⟨?_, rfl⟩
  all_goals first | exact (openV3 (by unfold OG; simp_all; done)).symm | exact (openV5 (by unfold OG; simp_all; done) (by unfold OO; simp_all; done)).symm | exact (openV0 (by unfold OG; simp_all; done) (by unfold OO; simp_all; done)).symm⟩

theorem keyOpens_s (a b c d x y : Int) : SX.Spec Try.prog 5 #[kv a b, kv c d, kv x y] [] [] fun v Γ => v = .bool true ∧ Γ = [] := by
  refine spec_of3 Try.func5 Try.ntmps5 rfl rfl (fun M w0 => ?_)
  repeat' (first | refine v_val ?_ | refine v_pickT ?_ | refine v_pickF ?_ | refine v_cons (v_pcall ?_) | refine v_done ?_ | refine v_then ?_ | refine v_reg ?_ | refine v_seq ?_ | refine v_cons (v_box (fun _ => ?_)) | refine v_cons (v_store ?_) | refine v_cons (v_alloc' (fun _ => ?_)) | refine v_cons (v_lit (fun _ => ?_)) | refine v_guardY rfl ?_ | refine v_guardTF rfl ?_ | refine v_guardFT rfl ?_ | refine v_guardU rfl ?_ | refine v_condT ?_ | refine v_condF ?_ | refine v_condD (fun _ => ?_) (fun _ => ?_) | refine v_split rfl rfl (fun _ => ?_) (fun _ => ?_) | refine v_pickD (fun _ => ?_) (fun _ => ?_) | refine v_ret ?_ | refine v_thenR ?_ | refine v_skip ?_ | refine v_block ?_ | refine v_blockN ?_ | refine v_blockR ?_ | refine v_exit ?_ | refine v_thenX ?_ | refine v_blockX ?_ | refine v_blockO ?_ | refine v_cond (fun _ => ?_) (fun _ => ?_) | refine v_splitB rfl rfl (fun _ => ?_) (fun _ => ?_) | (refine v_shl ?_ ?_; omega) | (refine v_shr ?_ ?_; omega) | (refine v_quo ?_ ?_; omega) | (refine v_rem ?_ ?_; omega) | (refine v_idx ?_ ?_ ?_; omega; omega) | (refine v_idxA ?_ ?_ ?_; omega; omega) | (refine v_idxS ?_ ?_ ?_; omega; omega))
  all_goals (try (refine v_out1 (Γk := []) (v := .bool true) Try.results5 ?_; exact ⟨rfl, rfl⟩))
  all_goals first | (exfalso; simp_all; done) | skip
  all_goals refine v_out1 (Γk := []) Try.results5 ?_
  all_goals refine ⟨?_, rfl⟩
  all_goals refine congrArg Value.bool ?_
  all_goals (by_cases h1 : OO a b x y)
  all_goals (by_cases h2 : Gd a b)
  all_goals (by_cases h3 : Gd c d)
  all_goals (by_cases h4 : Gd x y)
  all_goals (unfold og OG OO at *)
  all_goals (simp_all; done)
end Go.Proofs.Ytbkobjdeijdpgaa
