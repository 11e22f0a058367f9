/- OnesCount64 and seats.Count. -/
import Derived.Test.YtedemhmlaodblaaDoorRc
namespace Go.Proofs.YtedemhmlaodblaaDoor
open Go Go.SX Go.RowKit
set_option maxRecDepth 100000
set_option maxHeartbeats 0
set_option synthInstance.maxSize 100000
set_option synthInstance.maxHeartbeats 400000
theorem shr_nat (x k : Nat) (hk : k < 64) : shrI .u64 (x : Int) (k : Int) = ((x / 2 ^ k : Nat) : Int) := by
  unfold shrI
  rw [show IntKind.u64.bits = 64 by rfl, Int.toNat_natCast, Nat.min_eq_left (by omega), Int.fdiv_eq_ediv_of_nonneg _ (Int.le_of_lt (Int.pow_pos (by decide)))]
  simp
theorem wrap_nat (x : Nat) (h : x < 18446744073709551616) : IntKind.u64.wrap (x : Int) = x := by rw [IntKind.wrap_u64]; omega
theorem wrapI' {x : Int} (h0 : 0 ≤ x) (h1 : x < 9223372036854775808) : IntKind.i64.wrap x = x := by
  have : x % 18446744073709551616 = x := Int.emod_eq_of_lt h0 (by omega)
  simp [IntKind.wrap, IntKind.bits, IntKind.signed, this]; omega
theorem g1_lt64 (M x : Nat) (h : M < 9223372036854775808) : g1 M x < 18446744073709551616 := by
  unfold g1
  have h1 : (x / 2) &&& M ≤ M := Nat.and_le_right
  have h2 : x &&& M ≤ M := Nat.and_le_right
  omega
theorem g2_lt64 (M x : Nat) (h : M < 9223372036854775808) : g2 M x < 18446744073709551616 := by
  unfold g2
  have h1 : (x / 4) &&& M ≤ M := Nat.and_le_right
  have h2 : x &&& M ≤ M := Nat.and_le_right
  omega
theorem g1_int (x : Nat) (h : x < 18446744073709551616) : IntKind.u64.wrap (bits .and .u64 (shrI .u64 (x : Int) 1) 6148914691236517205 + bits .and .u64 (x : Int) 6148914691236517205) = (g1 6148914691236517205 x : Nat) := by
  have e1 := shr_nat x 1 (by decide)
  have e2 := bits_and_u64_nat (x / 2) 6148914691236517205 (by omega) (by decide)
  have e3 := bits_and_u64_nat x 6148914691236517205 h (by decide)
  have e4 := wrap_nat _ (g1_lt64 6148914691236517205 x (by decide))
  simp only [Nat.pow_one] at e1
  rw [show ((1 : Nat) : Int) = 1 from rfl] at e1
  rw [show ((6148914691236517205 : Nat) : Int) = 6148914691236517205 from rfl] at e2 e3
  rw [e1, e2, e3, ← e4]
  unfold g1
  congr 1
theorem g2_int (x : Nat) (h : x < 18446744073709551616) : IntKind.u64.wrap (bits .and .u64 (shrI .u64 (x : Int) 2) 3689348814741910323 + bits .and .u64 (x : Int) 3689348814741910323) = (g2 3689348814741910323 x : Nat) := by
  have e1 := shr_nat x 2 (by decide)
  have e2 := bits_and_u64_nat (x / 4) 3689348814741910323 (by omega) (by decide)
  have e3 := bits_and_u64_nat x 3689348814741910323 h (by decide)
  have e4 := wrap_nat _ (g2_lt64 3689348814741910323 x (by decide))
  rw [show ((2 : Nat) : Int) = 2 from rfl, show 2 ^ 2 = 4 from rfl] at e1
  rw [show ((3689348814741910323 : Nat) : Int) = 3689348814741910323 from rfl] at e2 e3
  rw [e1, e2, e3, ← e4]
  unfold g2
  congr 1
theorem g3_int (y : Nat) (h : y < 9223372036854775808) : bits .and .u64 (IntKind.u64.wrap (shrI .u64 (y : Int) 4 + (y : Int))) 1085102592571150095 = (g3 1085102592571150095 y : Nat) := by
  have e1 := shr_nat y 4 (by decide)
  rw [show ((4 : Nat) : Int) = 4 from rfl, show 2 ^ 4 = 16 from rfl] at e1
  have e4 := wrap_nat (y / 16 + y) (by omega)
  have e2 := bits_and_u64_nat (y / 16 + y) 1085102592571150095 (by omega) (by decide)
  rw [show ((1085102592571150095 : Nat) : Int) = 1085102592571150095 from rfl] at e2
  rw [e1, show ((y / 16 : Nat) : Int) + (y : Int) = ((y / 16 + y : Nat) : Int) by omega, e4, e2]
  rfl
theorem fold_int (y k : Nat) (hk : k < 64) (h : y < 4611686018427387904) (h0 : 0 < k) : IntKind.u64.wrap ((y : Int) + shrI .u64 (y : Int) (k : Int)) = ((y + y / 2 ^ k : Nat) : Int) := by
  have hd : y / 2 ^ k ≤ y := Nat.div_le_self _ _
  rw [shr_nat y k hk, show (y : Int) + ((y / 2 ^ k : Nat) : Int) = ((y + y / 2 ^ k : Nat) : Int) by omega, wrap_nat _ (by omega)]
theorem and127 (y : Nat) (h : y < 9223372036854775808) : bits .and .i64 (y : Int) 127 = ((y % 128 : Nat) : Int) := by
  have h1 : (BitVec.ofInt 64 (y : Int)).toNat = y := by
    rw [BitVec.ofInt_natCast, BitVec.toNat_ofNat]; exact Nat.mod_eq_of_lt (by omega)
  have h2 : (BitVec.ofInt 64 127).toNat = 127 := by rfl
  show IntKind.i64.wrap ((BitVec.ofInt 64 (y : Int) &&& BitVec.ofInt 64 127).toNat : Int) = _
  rw [BitVec.toNat_and, h1, h2, show (127 : Nat) = 2 ^ 7 - 1 by rfl, Nat.and_two_pow_sub_one_eq_mod, show 2 ^ 7 = 128 by rfl]
  exact wrapI' (by omega) (by omega)
instance ones_s (p : List Bool) [hl : LenIs p 64] : PC Tryd.prog 37 #[wv p] (.int .i64 (p.count true : Nat)) := ⟨by
  have hw := wd64 (p := p) (by rw [hl.out]; exact Nat.le_refl _)
  have ho := ones_wd hl.out
  refine spec_of1 Tryd.func37 Tryd.ntmps37 rfl rfl (fun M w0 => ?_)
  repeat' (first | refine stp ?_|(refine v_spT ?_ ?_;omega)|(refine v_spF ?_ ?_;omega)|refine v_spD (fun hc=>?_) (fun hc=>?_)|refine v_spB (fun hc=>?_) (fun hc=>?_)|(refine v_yc ?_ ?_;omega)|refine v_allocA (fun ba sal hal=>?_)|refine v_boxA (fun bb sba hba=>?_)|refine v_storeA (fun ss hs=>?_)|refine v_alloc' (fun ba=>?_)|refine v_box (fun bb=>?_)|refine v_lit (fun bl=>?_)|refine v_makeMap (fun bm=>?_)|(refine v_push ?_ (fun sv ss hs hln=>?_);omega)|(refine v_push0 ?_ (fun sv ss hs=>?_);omega)|(refine v_set ?_ (fun ss hs hln=>?_);omega)|(refine v_cat ?_ (fun sv ss hs hln=>?_);omega)|(refine v_cat0 ?_ (fun sv ss hs=>?_);omega)|(refine v_catN ?_ (fun sv ss hs=>?_);omega)|refine v_put (fun sm hm=>?_)|refine v_del (fun sm hm=>?_)|(refine v_sb ?_ (fun su (And.intro hs hln)=>?_);omega)|refine v_1lk (fun lv hlk=>?_) (fun hlk=>?_)|refine v_ment (fun st sm hm hst=>?_)|refine v_esto (fun sm hm=>?_)|refine v_rng (fun ri ti hit=>?_)|refine v_clone (fun bc sc hcl=>?_)|refine v_yw ?_|(refine v_make ?_ (fun sv ss hs hln=>?_);omega)|fail)
  refine v_o1 Tryd.results37 ⟨iI ?_, rfl⟩ ⟨_, inferInstance⟩
  rw [← ho]
  have m1 := g1_lt64 6148914691236517205 (wd p) (by decide)
  have m2 : g2 3689348814741910323 (g1 6148914691236517205 (wd p)) < 9223372036854775808 := by
    unfold g2
    have h1 : (g1 6148914691236517205 (wd p) / 4) &&& 3689348814741910323 ≤ 3689348814741910323 := Nat.and_le_right
    have h2 : g1 6148914691236517205 (wd p) &&& 3689348814741910323 ≤ 3689348814741910323 := Nat.and_le_right
    omega
  have m3 : g3 1085102592571150095 (g2 3689348814741910323 (g1 6148914691236517205 (wd p))) ≤ 1085102592571150095 := Nat.and_le_right
  rw [g1_int _ hw, g2_int _ m1, g3_int _ m2]
  unfold ones
  generalize g3 1085102592571150095 (g2 3689348814741910323 (g1 6148914691236517205 (wd p))) = y at m3 ⊢
  have d1 : y / 256 ≤ y / 2 := by omega
  have f1 := fold_int y 8 (by decide) (by omega) (by decide)
  have f2 := fold_int (y + y / 256) 16 (by decide) (by omega) (by decide)
  have f3 := fold_int (y + y / 256 + (y + y / 256) / 65536) 32 (by decide) (by omega) (by decide)
  rw [show ((8 : Nat) : Int) = 8 from rfl, show 2 ^ 8 = 256 from rfl] at f1
  rw [show ((16 : Nat) : Int) = 16 from rfl, show 2 ^ 16 = 65536 from rfl] at f2
  rw [show ((32 : Nat) : Int) = 32 from rfl, show 2 ^ 32 = 4294967296 from rfl] at f3
  rw [f1, f2, f3, wrapI' (by omega) (by omega), and127 _ (by omega)]⟩
instance count_s (p : List Bool) [hl : LenIs p 64] : PC Tryd.prog 25 #[wv p] (.int .i64 (p.count true : Nat)) := ⟨by
  refine spec_of1 Tryd.func25 Tryd.ntmps25 rfl rfl (fun M w0 => ?_)
  repeat' (first | refine stp ?_|(refine v_spT ?_ ?_;omega)|(refine v_spF ?_ ?_;omega)|refine v_spD (fun hc=>?_) (fun hc=>?_)|refine v_spB (fun hc=>?_) (fun hc=>?_)|(refine v_yc ?_ ?_;omega)|refine v_allocA (fun ba sal hal=>?_)|refine v_boxA (fun bb sba hba=>?_)|refine v_storeA (fun ss hs=>?_)|refine v_alloc' (fun ba=>?_)|refine v_box (fun bb=>?_)|refine v_lit (fun bl=>?_)|refine v_makeMap (fun bm=>?_)|(refine v_push ?_ (fun sv ss hs hln=>?_);omega)|(refine v_push0 ?_ (fun sv ss hs=>?_);omega)|(refine v_set ?_ (fun ss hs hln=>?_);omega)|(refine v_cat ?_ (fun sv ss hs hln=>?_);omega)|(refine v_cat0 ?_ (fun sv ss hs=>?_);omega)|(refine v_catN ?_ (fun sv ss hs=>?_);omega)|refine v_put (fun sm hm=>?_)|refine v_del (fun sm hm=>?_)|(refine v_sb ?_ (fun su (And.intro hs hln)=>?_);omega)|refine v_1lk (fun lv hlk=>?_) (fun hlk=>?_)|refine v_ment (fun st sm hm hst=>?_)|refine v_esto (fun sm hm=>?_)|refine v_rng (fun ri ti hit=>?_)|refine v_clone (fun bc sc hcl=>?_)|refine v_yw ?_|(refine v_make ?_ (fun sv ss hs hln=>?_);omega)|fail)
  refine v_o1 Tryd.results25 ⟨rfl, rfl⟩ ⟨_, inferInstance⟩⟩
end Go.Proofs.YtedemhmlaodblaaDoor
