/- Numerals and keys' texts, in plain Lean. -/
import Derived.Lib.AtoiAll
import Derived.Lib.ItoaNum
import Derived.Lib.Strings
import Derived.Lib.Bytealg
namespace Go.Proofs.YtedemhmlaodblabDoor
open Go
abbrev dig (c : UInt8) : Prop := 48 ≤ c.toNat ∧ c.toNat ≤ 57
def dval (n : Nat) (l : List UInt8) : Nat := l.foldl (fun n c => n * 10 + (c.toNat - 48)) n
theorem dval_nil (n : Nat) : dval n [] = n := rfl
theorem dval_cons (n : Nat) (c : UInt8) (r : List UInt8) : dval n (c :: r) = dval (n * 10 + (c.toNat - 48)) r := by unfold dval; rw [List.foldl_cons]
theorem dval_app (l m : List UInt8) (n : Nat) : dval n (l ++ m) = dval (dval n l) m := List.foldl_append
theorem dval_ge (l : List UInt8) : ∀ n : Nat, n ≤ dval n l := by
  induction l with
  | nil => exact fun n => Nat.le_refl _
  | cons c l ih =>
    intro n
    have h := ih (n * 10 + (c.toNat - 48))
    rw [dval_cons]
    generalize dval (n * 10 + (c.toNat - 48)) l = z at h
    exact Nat.le_trans (by omega) h
theorem dec_ne (u : Nat) : Lib.decDigits u ≠ [] := by
  rw [Lib.decDigits]; split <;> simp
theorem dec_dig (u : Nat) : ∀ c ∈ Lib.decDigits u, dig c := by
  induction u using Nat.strongRecOn with
  | ind u ih =>
    intro c hc
    rw [Lib.decDigits] at hc
    split at hc
    · rw [List.mem_singleton] at hc
      subst hc
      have : (UInt8.ofNat (48 + u)).toNat = 48 + u := by rw [UInt8.toNat_ofNat']; omega
      unfold dig; omega
    · rw [List.mem_append, List.mem_singleton] at hc
      rcases hc with hc | rfl
      · exact ih (u / 10) (by omega) c hc
      · have : (UInt8.ofNat (48 + u % 10)).toNat = 48 + u % 10 := by rw [UInt8.toNat_ofNat']; omega
        unfold dig; omega
theorem dec_val (u : Nat) : dval 0 (Lib.decDigits u) = u := by
  induction u using Nat.strongRecOn with
  | ind u ih =>
    rw [Lib.decDigits]
    split
    · have : (UInt8.ofNat (48 + u)).toNat = 48 + u := by rw [UInt8.toNat_ofNat']; omega
      rw [dval_cons, dval_nil, this]; omega
    · have : (UInt8.ofNat (48 + u % 10)).toNat = 48 + u % 10 := by rw [UInt8.toNat_ofNat']; omega
      rw [dval_app, ih (u / 10) (by omega)]
      rw [dval_cons, dval_nil, this]; omega
theorem pu_ok : ∀ (l : List UInt8) (n : Nat), (∀ c ∈ l, dig c) → dval n l < 18446744073709551616 → Lib.parseUint10 n l = .ok (dval n l)
  | [], _, _, _ => rfl
  | c :: l, n, h, hv => by
    have hc := h c (by simp)
    have hg := dval_ge l (n * 10 + (c.toNat - 48))
    rw [dval_cons] at hv ⊢
    unfold Lib.parseUint10
    rw [if_pos hc, if_neg (by omega), if_neg (by omega)]
    exact pu_ok l _ (fun x hx => h x (List.mem_cons_of_mem _ hx)) hv
theorem atoi_dec {u : Nat} (hu : u < 9223372036854775808) : Lib.atoiAll (Lib.decDigits u) = .ok (u : Int) := by
  have hd := dec_dig u
  have hv := dec_val u
  have hne := dec_ne u
  generalize Lib.decDigits u = l at *
  cases l with
  | nil => exact absurd rfl hne
  | cons c r =>
    have hc := hd c (by simp)
    unfold Lib.atoiAll
    dsimp only
    rw [if_neg (by omega)]
    have hp : Lib.parseMag (c :: r) = .ok u := by
      unfold Lib.parseMag
      rw [if_neg (by simp), pu_ok (c :: r) 0 hd (by omega), hv]
    rw [hp]
    dsimp only
    rw [if_neg (by omega), if_neg (by omega), if_neg (by omega)]
/-- the reference's numbers: the value and how many bytes it took -/
def nb : Nat → List UInt8 → Nat × Nat
  | n, [] => (n, 0)
  | n, c :: r => if dig c ∧ n < 100000 then ((nb (10 * n + (c.toNat - 48)) r).1, (nb (10 * n + (c.toNat - 48)) r).2 + 1) else (n, 0)
theorem nb_dig : ∀ (l r : List UInt8) (n : Nat), (∀ c ∈ l, dig c) → dval n l < 100000 → (∀ c, r.head? = some c → ¬ dig c) → nb n (l ++ r) = (dval n l, l.length)
  | [], r, n, _, _, hr => by
    cases r with
    | nil => rfl
    | cons c r => rw [List.nil_append, nb, if_neg (fun h => hr c rfl h.1)]; rfl
  | c :: l, r, n, h, hv, hr => by
    have hc := h c (by simp)
    have hg := dval_ge l (n * 10 + (c.toNat - 48))
    rw [dval_cons] at hv
    rw [List.cons_append, nb, if_pos ⟨hc, by omega⟩, Nat.mul_comm 10 n, nb_dig l r _ (fun x hx => h x (List.mem_cons_of_mem _ hx)) hv hr]
    rfl
theorem nb_le : ∀ (l : List UInt8) (n : Nat), (nb n l).2 ≤ l.length
  | [], _ => Nat.le_refl _
  | c :: l, n => by
    rw [nb]
    split
    · have := nb_le l (10 * n + (c.toNat - 48))
      rw [List.length_cons]; dsimp only; omega
    · exact Nat.zero_le _
theorem nb_lt : ∀ (l : List UInt8) (n : Nat), n < 1000000 → (nb n l).1 < 1000010
  | [], n, h => by rw [nb]; dsimp only; omega
  | c :: l, n, h => by
    rw [nb]
    split
    · rename_i hd
      exact nb_lt l _ (by omega)
    · dsimp only; omega
/-- a key's text -/
def txt (a b : Int) : List UInt8 := [107] ++ Lib.itoa a ++ [46] ++ Lib.itoa b
theorem itoa_pos {a : Int} (h : 0 ≤ a) : Lib.itoa a = Lib.decDigits a.toNat := by unfold Lib.itoa; rw [if_neg (by omega)]
theorem not_dot : ∀ c : UInt8, ([46] : List UInt8).head? = some c → ¬ dig c := fun c h => by
  cases h; unfold dig; decide
/-- what the reference reads off a text -/
def rdA (l : List UInt8) : Int := ((nb 0 (l.drop 1)).1 : Nat)
def rdK (l : List UInt8) : Nat := 1 + (nb 0 (l.drop 1)).2
def rdB (l : List UInt8) : Int := if rdK l < l.length then ((nb 0 (l.drop (rdK l + 1))).1 : Nat) else 0
theorem txt_drop (a b : Int) : (txt a b).drop 1 = Lib.itoa a ++ ([46] ++ Lib.itoa b) := by unfold txt; simp
theorem nb_A {a b : Int} (h0 : 0 ≤ a) (h1 : a < 100000) : nb 0 ((txt a b).drop 1) = (a.toNat, (Lib.itoa a).length) := by
  rw [txt_drop, itoa_pos h0, nb_dig _ _ 0 (dec_dig _) (by rw [dec_val]; omega) (fun c hc => not_dot c (by simpa using hc)), dec_val]
theorem rdA_txt {a b : Int} (h0 : 0 ≤ a) (h1 : a < 100000) : rdA (txt a b) = a := by
  unfold rdA; rw [nb_A h0 h1]; dsimp only; omega
theorem rdB_txt {a b : Int} (h0 : 0 ≤ a) (h1 : a < 100000) (h2 : 0 ≤ b) (h3 : b < 100000) : rdB (txt a b) = b := by
  have e : (txt a b).length = 1 + (Lib.itoa a).length + 1 + (Lib.itoa b).length := by unfold txt; simp; omega
  have ek : rdK (txt a b) = 1 + (Lib.itoa a).length := by unfold rdK; rw [nb_A h0 h1]
  unfold rdB
  rw [ek, if_pos (by omega)]
  have ed : (txt a b).drop (1 + (Lib.itoa a).length + 1) = Lib.itoa b := by
    rw [show 1 + (Lib.itoa a).length + 1 = 1 + ((Lib.itoa a).length + 1) by omega, ← List.drop_drop, txt_drop, show (Lib.itoa a).length + 1 = (Lib.itoa a).length + 1 from rfl, ← List.drop_drop, List.drop_left]
    rfl
  rw [ed, itoa_pos h2]
  have := nb_dig (Lib.decDigits b.toNat) [] 0 (dec_dig _) (by rw [dec_val]; omega) (fun c hc => by cases hc)
  rw [List.append_nil] at this
  rw [this, dec_val]; dsimp only; omega
/-- what the program reads off a text -/
theorem idx_dec : ∀ (l r : List UInt8), (∀ c ∈ l, dig c) → Lib.indexByte (l ++ 46 :: r) 46 = l.length
  | [], r, _ => rfl
  | c :: l, r, h => by
    have hc := h c (by simp)
    have ih := idx_dec l r fun x hx => h x (List.mem_cons_of_mem _ hx)
    rw [List.cons_append]
    unfold Lib.indexByte
    have : (c == 46) = false := by
      rw [beq_eq_false_iff_ne]; rintro rfl; unfold dig at hc; revert hc; decide
    rw [this, ih, if_neg (by decide), if_neg (by simp), List.length_cons]
    omega
theorem pre_txt (a b : Int) : Lib.hasPrefix (txt a b) [107] = true ∧ Lib.trimPrefix (txt a b) [107] = Lib.itoa a ++ 46 :: Lib.itoa b := by
  have h : Lib.hasPrefix (txt a b) [107] = true := by unfold Lib.hasPrefix txt; simp
  refine ⟨h, ?_⟩
  unfold Lib.trimPrefix
  rw [if_pos h]
  exact txt_drop a b
end Go.Proofs.YtedemhmlaodblabDoor
