/- Words of 64 bits as rows of bools, and how OnesCount64 counts. -/
import Derived.Laws.Bits64b
namespace Go.Proofs.YtedemhmlaodblaaDoor
/-- the word of a row of bits, the lowest first -/
def wd : List Bool → Nat
  | [] => 0
  | b :: l => b.toNat + 2 * wd l
theorem wd_lt : ∀ l : List Bool, wd l < 2 ^ l.length
  | [] => by simp [wd]
  | b :: l => by
    have := wd_lt l
    have hb : b.toNat ≤ 1 := Bool.toNat_le b
    simp only [wd, List.length_cons, Nat.pow_succ]
    omega
theorem wd_append : ∀ l m : List Bool, wd (l ++ m) = wd l + 2 ^ l.length * wd m
  | [], m => by simp [wd]
  | b :: l, m => by
    simp only [List.cons_append, wd, wd_append l m, List.length_cons, Nat.pow_succ]
    rw [Nat.mul_add, Nat.add_assoc, ← Nat.mul_assoc, Nat.mul_comm 2 (2 ^ l.length)]
theorem wd_snoc (l : List Bool) (b : Bool) : wd (l ++ [b]) = wd l + 2 ^ l.length * b.toNat := by
  rw [wd_append]; simp [wd]
theorem wd_inj : ∀ {l m : List Bool}, l.length = m.length → wd l = wd m → l = m
  | [], [], _, _ => rfl
  | [], _ :: _, h, _ => by simp at h
  | _ :: _, [], h, _ => by simp at h
  | b :: l, c :: m, h, e => by
    simp only [wd] at e
    have hb : b.toNat ≤ 1 := Bool.toNat_le b
    have hc : c.toNat ≤ 1 := Bool.toNat_le c
    have e1 : b.toNat = c.toNat := by omega
    have e2 : wd l = wd m := by omega
    rw [wd_inj (by simpa using h) e2]
    cases b <;> cases c <;> simp_all
/-- a word's bits -/
def bof : Nat → Nat → List Bool
  | 0, _ => []
  | n + 1, x => decide (x % 2 = 1) :: bof n (x / 2)
theorem bof_len : ∀ n x, (bof n x).length = n
  | 0, _ => rfl
  | n + 1, x => by simp [bof, bof_len n]
theorem wd_bof : ∀ n x, x < 2 ^ n → wd (bof n x) = x
  | 0, x, h => by simp at h; simp [bof, wd, h]
  | n + 1, x, h => by
    rw [Nat.pow_succ] at h
    simp only [bof, wd, wd_bof n (x / 2) (by omega)]
    by_cases hx : x % 2 = 1
    · simp [hx]; omega
    · simp [hx]; omega
theorem or_pow {a i : Nat} (h : a < 2 ^ i) : a ||| 2 ^ i = a + 2 ^ i := by
  have := Nat.two_pow_add_eq_or_of_lt h 1
  rw [Nat.mul_one] at this
  rw [Nat.or_comm, ← this, Nat.add_comm]
/-! ### counting -/
theorem and_split {b c p q : Nat} (hb : b < 256) (hp : p < 256) : (b + 256 * c) &&& (p + 256 * q) = (b &&& p) + 256 * (c &&& q) := by
  have hbp : b &&& p < 2 ^ 8 := Nat.lt_of_le_of_lt Nat.and_le_left hb
  refine Nat.eq_of_testBit_eq fun j => ?_
  rw [Nat.testBit_and, Nat.add_comm b, Nat.add_comm p, Nat.add_comm (b &&& p), show (256 : Nat) = 2 ^ 8 by rfl, Nat.testBit_two_pow_mul_add _ hb, Nat.testBit_two_pow_mul_add _ hp, Nat.testBit_two_pow_mul_add _ hbp]
  split <;> simp [Nat.testBit_and]
def g1 (M x : Nat) : Nat := ((x / 2) &&& M) + (x &&& M)
def g2 (M x : Nat) : Nat := ((x / 4) &&& M) + (x &&& M)
def g3 (M x : Nat) : Nat := (x / 16 + x) &&& M
theorem low1 : ∀ b < 256, ∀ c < 2, (b / 2 + 128 * c) &&& 85 = (b / 2) &&& 85 := by decide +kernel
theorem low2 : ∀ b < 256, ∀ c < 4, (b / 4 + 64 * c) &&& 51 = (b / 4) &&& 51 := by decide +kernel
theorem g1_lt : ∀ b < 256, g1 85 b < 256 := by decide +kernel
theorem g2_lt : ∀ b < 256, g2 51 b < 256 := by decide +kernel
theorem g1_split {b c q : Nat} (hb : b < 256) : g1 (85 + 256 * q) (b + 256 * c) = g1 85 b + 256 * g1 q c := by
  unfold g1
  have e : (b + 256 * c) / 2 = (b / 2 + 128 * (c % 2)) + 256 * (c / 2) := by omega
  rw [e, and_split (by omega) (by omega), and_split hb (by omega), low1 b hb (c % 2) (by omega)]
  omega
theorem g2_split {b c q : Nat} (hb : b < 256) : g2 (51 + 256 * q) (b + 256 * c) = g2 51 b + 256 * g2 q c := by
  unfold g2
  have e : (b + 256 * c) / 4 = (b / 4 + 64 * (c % 4)) + 256 * (c / 4) := by omega
  rw [e, and_split (by omega) (by omega), and_split hb (by omega), low2 b hb (c % 4) (by omega)]
  omega
theorem low3 : ∀ x < 256, x &&& 15 = x % 16 := by decide +kernel
theorem g3_split {b c q : Nat} (hb : b % 16 ≤ 4 ∧ b / 16 ≤ 4) (hc : c % 16 ≤ 4) : g3 (15 + 256 * q) (b + 256 * c) = g3 15 b + 256 * g3 q c := by
  unfold g3
  have e : (b + 256 * c) / 16 + (b + 256 * c) = (b / 16 + 16 * (c % 16) + b) + 256 * (c / 16 + c) := by omega
  rw [e, and_split (by omega) (by omega), low3 _ (by omega), low3 (b / 16 + b) (by omega)]
  omega
theorem byte_ok : ∀ b < 256, g2 51 (g1 85 b) % 16 ≤ 4 ∧ g2 51 (g1 85 b) / 16 ≤ 4 := by decide +kernel
def pc8 (b : Nat) : Nat := g3 15 (g2 51 (g1 85 b))
theorem pc8_le : ∀ b < 256, pc8 b ≤ 8 := by decide +kernel
/-- bytes, the lowest first -/
def by_ : List Nat → Nat
  | [] => 0
  | b :: l => b + 256 * by_ l
def msk (p : Nat) : List Nat → Nat
  | [] => 0
  | _ :: l => p + 256 * msk p l
theorem g1_by : ∀ l : List Nat, (∀ b ∈ l, b < 256) → g1 (msk 85 l) (by_ l) = by_ (l.map (g1 85))
  | [], _ => rfl
  | b :: l, h => by rw [msk, by_, g1_split (h b (by simp)), g1_by l fun c hc => h c (by simp [hc])]; rfl
theorem g2_by : ∀ l : List Nat, (∀ b ∈ l, b < 256) → g2 (msk 51 l) (by_ l) = by_ (l.map (g2 51))
  | [], _ => rfl
  | b :: l, h => by rw [msk, by_, g2_split (h b (by simp)), g2_by l fun c hc => h c (by simp [hc])]; rfl
theorem by_mod : ∀ l : List Nat, (∀ b ∈ l, b % 16 ≤ 4 ∧ b / 16 ≤ 4) → by_ l % 16 ≤ 4
  | [], _ => by simp [by_]
  | b :: l, h => by have := (h b (by simp)).1; rw [by_]; omega
theorem g3_by : ∀ l : List Nat, (∀ b ∈ l, b % 16 ≤ 4 ∧ b / 16 ≤ 4) → g3 (msk 15 l) (by_ l) = by_ (l.map (g3 15))
  | [], _ => rfl
  | b :: l, h => by rw [msk, by_, g3_split (h b (by simp)) (by_mod l fun c hc => h c (by simp [hc])), g3_by l fun c hc => h c (by simp [hc])]; rfl
theorem ones_by {l : List Nat} (h : ∀ b ∈ l, b < 256) : g3 (msk 15 l) (g2 (msk 51 l) (g1 (msk 85 l) (by_ l))) = by_ (l.map pc8) := by
  have m1 : ∀ p (f : Nat → Nat) (l : List Nat), msk p (l.map f) = msk p l := by
    intro p f l
    induction l with
    | nil => rfl
    | cons b l ih => simp [msk, ih]
  rw [g1_by l h, ← m1 51 (g1 85) l, g2_by _ (fun b hb => by
    obtain ⟨c, hc, rfl⟩ := List.mem_map.1 hb
    exact g1_lt c (h c hc)), ← m1 15 (g2 51 ∘ g1 85) l, List.map_map, g3_by _ (fun b hb => by
    obtain ⟨c, hc, rfl⟩ := List.mem_map.1 hb
    exact byte_ok c (h c hc)), List.map_map]
  rfl
theorem pc8_wd : ∀ b0 b1 b2 b3 b4 b5 b6 b7 : Bool, pc8 (wd [b0, b1, b2, b3, b4, b5, b6, b7]) = ([b0, b1, b2, b3, b4, b5, b6, b7] : List Bool).count true := by decide +kernel
/-- what OnesCount64 computes -/
def ones (x : Nat) : Nat :=
  let y := g3 1085102592571150095 (g2 3689348814741910323 (g1 6148914691236517205 x))
  let y := y + y / 256
  let y := y + y / 65536
  let y := y + y / 4294967296
  y % 128
theorem len8 {l : List Bool} (h : l.length = 8) : ∃ b0 b1 b2 b3 b4 b5 b6 b7, l = [b0, b1, b2, b3, b4, b5, b6, b7] := by
  match l, h with
  | [b0, b1, b2, b3, b4, b5, b6, b7], _ => exact ⟨_, _, _, _, _, _, _, _, rfl⟩
theorem pc8_count {l : List Bool} (h : l.length = 8) : pc8 (wd l) = l.count true := by
  obtain ⟨b0, b1, b2, b3, b4, b5, b6, b7, rfl⟩ := len8 h
  exact pc8_wd ..
set_option maxHeartbeats 0 in
theorem sum_q1 {x0 y : Nat} (k0 : x0 ≤ 8) : (x0 + 256 * y) / 256 = y := by omega
theorem sum_q2 (x0 x1 x2 x3 x4 x5 x6 x7 : Nat) : x0 + 256 * (x1 + 256 * (x2 + 256 * (x3 + 256 * (x4 + 256 * (x5 + 256 * (x6 + 256 * (x7 + 256 * 0))))))) + (x1 + 256 * (x2 + 256 * (x3 + 256 * (x4 + 256 * (x5 + 256 * (x6 + 256 * (x7 + 256 * 0))))))) = ((x0 + x1) + 256 * (x1 + x2)) + 65536 * (((x2 + x3) + 256 * (x3 + x4)) + 65536 * (((x4 + x5) + 256 * (x5 + x6)) + 65536 * ((x6 + x7) + 256 * x7))) := by omega
theorem sum_q3 {a y : Nat} (h : a < 65536) : (a + 65536 * y) / 65536 = y := by omega
theorem sum_q5 {a y : Nat} (h : a < 4294967296) : (a + 4294967296 * y) / 4294967296 = y := by omega
theorem sum_q4 (a b c d : Nat) : a + 65536 * (b + 65536 * (c + 65536 * d)) + (b + 65536 * (c + 65536 * d)) = (a + b + 65536 * (b + c)) + 4294967296 * (c + d + 65536 * d) := by omega
theorem sum_by {x0 x1 x2 x3 x4 x5 x6 x7 : Nat} (k0 : x0 ≤ 8) (k1 : x1 ≤ 8) (k2 : x2 ≤ 8) (k3 : x3 ≤ 8) (k4 : x4 ≤ 8) (k5 : x5 ≤ 8) (k6 : x6 ≤ 8) (k7 : x7 ≤ 8) :
    (let y := x0 + 256 * (x1 + 256 * (x2 + 256 * (x3 + 256 * (x4 + 256 * (x5 + 256 * (x6 + 256 * (x7 + 256 * 0)))))))
     let y := y + y / 256
     let y := y + y / 65536
     let y := y + y / 4294967296
     y % 128) = x0 + (x1 + (x2 + (x3 + (x4 + (x5 + (x6 + x7)))))) := by
  dsimp only
  rw [sum_q1 k0, sum_q2, sum_q3 (by omega), sum_q4, sum_q5 (by omega)]
  omega
theorem ones_wd {l : List Bool} (h : l.length = 64) : ones (wd l) = l.count true := by
  obtain ⟨a0, r, h0, e0, rfl⟩ : ∃ a r : List Bool, a.length = 8 ∧ r.length = 56 ∧ l = a ++ r := ⟨l.take 8, l.drop 8, by simp [h], by simp [h], (List.take_append_drop ..).symm⟩
  obtain ⟨a1, r1, h1, e1, rfl⟩ : ∃ a s : List Bool, a.length = 8 ∧ s.length = 48 ∧ r = a ++ s := ⟨r.take 8, r.drop 8, by simp [e0], by simp [e0], (List.take_append_drop ..).symm⟩
  obtain ⟨a2, r2, h2, e2, rfl⟩ : ∃ a s : List Bool, a.length = 8 ∧ s.length = 40 ∧ r1 = a ++ s := ⟨r1.take 8, r1.drop 8, by simp [e1], by simp [e1], (List.take_append_drop ..).symm⟩
  obtain ⟨a3, r3, h3, e3, rfl⟩ : ∃ a s : List Bool, a.length = 8 ∧ s.length = 32 ∧ r2 = a ++ s := ⟨r2.take 8, r2.drop 8, by simp [e2], by simp [e2], (List.take_append_drop ..).symm⟩
  obtain ⟨a4, r4, h4, e4, rfl⟩ : ∃ a s : List Bool, a.length = 8 ∧ s.length = 24 ∧ r3 = a ++ s := ⟨r3.take 8, r3.drop 8, by simp [e3], by simp [e3], (List.take_append_drop ..).symm⟩
  obtain ⟨a5, r5, h5, e5, rfl⟩ : ∃ a s : List Bool, a.length = 8 ∧ s.length = 16 ∧ r4 = a ++ s := ⟨r4.take 8, r4.drop 8, by simp [e4], by simp [e4], (List.take_append_drop ..).symm⟩
  obtain ⟨a6, a7, h6, h7, rfl⟩ : ∃ a s : List Bool, a.length = 8 ∧ s.length = 8 ∧ r5 = a ++ s := ⟨r5.take 8, r5.drop 8, by simp [e5], by simp [e5], (List.take_append_drop ..).symm⟩
  have hlt : ∀ {a : List Bool}, a.length = 8 → wd a < 256 := fun {a} ha => by have := wd_lt a; rw [ha] at this; exact this
  have hby : wd (a0 ++ (a1 ++ (a2 ++ (a3 ++ (a4 ++ (a5 ++ (a6 ++ a7))))))) = by_ [wd a0, wd a1, wd a2, wd a3, wd a4, wd a5, wd a6, wd a7] := by
    simp only [wd_append, h0, h1, h2, h3, h4, h5, h6, by_]; omega
  have ho := ones_by (l := [wd a0, wd a1, wd a2, wd a3, wd a4, wd a5, wd a6, wd a7]) (by simp [hlt h0, hlt h1, hlt h2, hlt h3, hlt h4, hlt h5, hlt h6, hlt h7])
  have k0 := pc8_le _ (hlt h0); have k1 := pc8_le _ (hlt h1); have k2 := pc8_le _ (hlt h2); have k3 := pc8_le _ (hlt h3)
  have k4 := pc8_le _ (hlt h4); have k5 := pc8_le _ (hlt h5); have k6 := pc8_le _ (hlt h6); have k7 := pc8_le _ (hlt h7)
  simp only [msk] at ho
  unfold ones
  rw [hby]
  rw [show (1085102592571150095 : Nat) = 15 + 256 * (15 + 256 * (15 + 256 * (15 + 256 * (15 + 256 * (15 + 256 * (15 + 256 * (15 + 256 * 0))))))) by decide, show (3689348814741910323 : Nat) = 51 + 256 * (51 + 256 * (51 + 256 * (51 + 256 * (51 + 256 * (51 + 256 * (51 + 256 * (51 + 256 * 0))))))) by decide, show (6148914691236517205 : Nat) = 85 + 256 * (85 + 256 * (85 + 256 * (85 + 256 * (85 + 256 * (85 + 256 * (85 + 256 * (85 + 256 * 0))))))) by decide, ho]
  simp only [List.map_cons, List.map_nil, by_, List.count_append, ← pc8_count h0, ← pc8_count h1, ← pc8_count h2, ← pc8_count h3, ← pc8_count h4, ← pc8_count h5, ← pc8_count h6, ← pc8_count h7]
  generalize pc8 (wd a0) = x0 at *
  generalize pc8 (wd a1) = x1 at *
  generalize pc8 (wd a2) = x2 at *
  generalize pc8 (wd a3) = x3 at *
  generalize pc8 (wd a4) = x4 at *
  generalize pc8 (wd a5) = x5 at *
  generalize pc8 (wd a6) = x6 at *
  generalize pc8 (wd a7) = x7 at *
  exact sum_by k0 k1 k2 k3 k4 k5 k6 k7
end Go.Proofs.YtedemhmlaodblaaDoor
