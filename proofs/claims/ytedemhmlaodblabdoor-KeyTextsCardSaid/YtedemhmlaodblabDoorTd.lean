/- The reference's numbers. -/
import Derived.Test.YtedemhmlaodblabDoorTc
namespace Go.Proofs.YtedemhmlaodblabDoor
open Go Go.SX Go.RowKit
set_option maxRecDepth 100000
set_option maxHeartbeats 0
set_option synthInstance.maxSize 100000
set_option synthInstance.maxHeartbeats 400000
theorem dstep {n c : Nat} (hn : n < 100000) (h1 : 48 ≤ c) (h2 : c ≤ 57) : wrap64 (10 * (n : Int) + IntKind.i64.wrap (IntKind.u8.wrap ((c : Int) - 48))) = ((10 * n + (c - 48) : Nat) : Int) := by
  have e1 : IntKind.u8.wrap ((c : Int) - 48) = (c : Int) - 48 := by
    have : ((c : Int) - 48) % 256 = (c : Int) - 48 := Int.emod_eq_of_lt (by omega) (by omega)
    simp [IntKind.wrap, IntKind.bits, IntKind.signed, this]
  have e2 : IntKind.i64.wrap ((c : Int) - 48) = (c : Int) - 48 := by
    have : ((c : Int) - 48) % 18446744073709551616 = (c : Int) - 48 := Int.emod_eq_of_lt (by omega) (by omega)
    simp [IntKind.wrap, IntKind.bits, IntKind.signed, this]; omega
  rw [e1, e2]; unfold wrap64; omega
theorem number_s (l : List UInt8) (k : Nat) (hk : k ≤ l.length) (hl : l.length ≤ 281474976710656) : PC Tryd.prog 30 #[str l, .int .i64 k] (.tuple #[.int .i64 ((nb 0 (l.drop k)).1 : Nat), .int .i64 (k + ((nb 0 (l.drop k)).2 : Nat) : Int)]) := ⟨by
  refine spec_of2 Tryd.func30 Tryd.ntmps30 rfl rfl (fun M w0 => ?_)
  repeat' (first | refine stp ?_|(refine v_spT ?_ ?_;omega)|(refine v_spF ?_ ?_;omega)|refine v_spD (fun hc=>?_) (fun hc=>?_)|refine v_spB (fun hc=>?_) (fun hc=>?_)|(refine v_yc ?_ ?_;omega)|refine v_allocA (fun ba sal hal=>?_)|refine v_boxA (fun bb sba hba=>?_)|refine v_storeA (fun ss hs=>?_)|refine v_alloc' (fun ba=>?_)|refine v_box (fun bb=>?_)|refine v_lit (fun bl=>?_)|refine v_makeMap (fun bm=>?_)|(refine v_push ?_ (fun sv ss hs hln=>?_);omega)|(refine v_push0 ?_ (fun sv ss hs=>?_);omega)|(refine v_set ?_ (fun ss hs hln=>?_);omega)|(refine v_cat ?_ (fun sv ss hs hln=>?_);omega)|(refine v_cat0 ?_ (fun sv ss hs=>?_);omega)|(refine v_catN ?_ (fun sv ss hs=>?_);omega)|refine v_put (fun sm hm=>?_)|refine v_del (fun sm hm=>?_)|(refine v_sb ?_ (fun su (And.intro hs hln)=>?_);omega)|refine v_1lk (fun lv hlk=>?_) (fun hlk=>?_)|refine v_ment (fun st sm hm hst=>?_)|refine v_esto (fun sm hm=>?_)|refine v_rng (fun ri ti hit=>?_)|refine v_clone (fun bc sc hcl=>?_)|refine v_yw ?_|(refine v_make ?_ (fun sv ss hs hln=>?_);omega)|fail)
  refine v_lp [1, 6] [0] (fun g : Nat × Nat => [.int .i64 g.1, .int .i64 g.2]) (fun _ => []) (fun g => k ≤ g.1 ∧ g.1 ≤ l.length ∧ g.2 < 1000000 ∧ (nb 0 (l.drop k)).1 = (nb g.2 (l.drop g.1)).1 ∧ k + (nb 0 (l.drop k)).2 = g.1 + (nb g.2 (l.drop g.1)).2) (fun g => l.length - g.1) ⟨k, 0⟩ (fun _ => rfl) rfl inferInstance ⟨Nat.le_refl _, hk, Nat.zero_lt_succ _, rfl, rfl⟩ ?_
  rintro ⟨i, n⟩ ⟨h1, h2, h3, h4, h5⟩
  dsimp only at h1 h2 h3 h4 h5 ⊢
  (try dsimp only [zipE_c, zipE_n, List.cons_append, List.nil_append])
  rcases Nat.lt_or_ge i l.length with hlt | hge
  · rw [List.drop_eq_getElem_cons hlt] at h4 h5
    rw [nb] at h4 h5
    have hb : l[i].toNat < 256 := l[i].toNat_lt
    have stop : ¬ (dig l[i] ∧ n < 100000) → Value.tuple #[.int .i64 (n : Int), .int .i64 (i : Int)] = .tuple #[.int .i64 ((nb 0 (l.drop k)).1 : Nat), .int .i64 (k + ((nb 0 (l.drop k)).2 : Nat) : Int)] := fun hno => by
      rw [if_neg hno] at h4 h5
      dsimp only at h4 h5
      rw [h4, show (k : Int) + ((nb 0 (l.drop k)).2 : Nat) = (i : Int) by omega]
    repeat' (first | refine stp ?_|(refine v_spT ?_ ?_;omega)|(refine v_spF ?_ ?_;omega)|refine v_spD (fun hc=>?_) (fun hc=>?_)|refine v_spB (fun hc=>?_) (fun hc=>?_)|(refine v_yc ?_ ?_;omega)|refine v_allocA (fun ba sal hal=>?_)|refine v_boxA (fun bb sba hba=>?_)|refine v_storeA (fun ss hs=>?_)|refine v_alloc' (fun ba=>?_)|refine v_box (fun bb=>?_)|refine v_lit (fun bl=>?_)|refine v_makeMap (fun bm=>?_)|(refine v_push ?_ (fun sv ss hs hln=>?_);omega)|(refine v_push0 ?_ (fun sv ss hs=>?_);omega)|(refine v_set ?_ (fun ss hs hln=>?_);omega)|(refine v_cat ?_ (fun sv ss hs hln=>?_);omega)|(refine v_cat0 ?_ (fun sv ss hs=>?_);omega)|(refine v_catN ?_ (fun sv ss hs=>?_);omega)|refine v_put (fun sm hm=>?_)|refine v_del (fun sm hm=>?_)|(refine v_sb ?_ (fun su (And.intro hs hln)=>?_);omega)|refine v_1lk (fun lv hlk=>?_) (fun hlk=>?_)|refine v_ment (fun st sm hm hst=>?_)|refine v_esto (fun sm hm=>?_)|refine v_rng (fun ri ti hit=>?_)|refine v_clone (fun bc sc hcl=>?_)|refine v_yw ?_|(refine v_make ?_ (fun sv ss hs hln=>?_);omega)|fail)
    · have hd : dig l[i] := ⟨by omega, by omega⟩
      rw [if_pos ⟨hd, by omega⟩] at h4 h5
      dsimp only at h4 h5
      refine v_again (i + 1, 10 * n + (l[i].toNat - 48)) (by dsimp only; omega) ?_ inferInstance ⟨by dsimp only; omega, hlt, by dsimp only; omega, h4, by dsimp only; omega⟩
      rw [dstep (by omega) hd.1 hd.2]; rfl
    · exact v_o2 Tryd.results30 ⟨stop (fun h => by omega), rfl⟩ ⟨_, inferInstance⟩
    · exact v_o2 Tryd.results30 ⟨stop (fun h => by have := h.1.2; omega), rfl⟩ ⟨_, inferInstance⟩
    · exact v_o2 Tryd.results30 ⟨stop (fun h => by have := h.1.1; omega), rfl⟩ ⟨_, inferInstance⟩
  · rw [List.drop_of_length_le hge] at h4 h5
    repeat' (first | refine stp ?_|(refine v_spT ?_ ?_;omega)|(refine v_spF ?_ ?_;omega)|refine v_spD (fun hc=>?_) (fun hc=>?_)|refine v_spB (fun hc=>?_) (fun hc=>?_)|(refine v_yc ?_ ?_;omega)|refine v_allocA (fun ba sal hal=>?_)|refine v_boxA (fun bb sba hba=>?_)|refine v_storeA (fun ss hs=>?_)|refine v_alloc' (fun ba=>?_)|refine v_box (fun bb=>?_)|refine v_lit (fun bl=>?_)|refine v_makeMap (fun bm=>?_)|(refine v_push ?_ (fun sv ss hs hln=>?_);omega)|(refine v_push0 ?_ (fun sv ss hs=>?_);omega)|(refine v_set ?_ (fun ss hs hln=>?_);omega)|(refine v_cat ?_ (fun sv ss hs hln=>?_);omega)|(refine v_cat0 ?_ (fun sv ss hs=>?_);omega)|(refine v_catN ?_ (fun sv ss hs=>?_);omega)|refine v_put (fun sm hm=>?_)|refine v_del (fun sm hm=>?_)|(refine v_sb ?_ (fun su (And.intro hs hln)=>?_);omega)|refine v_1lk (fun lv hlk=>?_) (fun hlk=>?_)|refine v_ment (fun st sm hm hst=>?_)|refine v_esto (fun sm hm=>?_)|refine v_rng (fun ri ti hit=>?_)|refine v_clone (fun bc sc hcl=>?_)|refine v_yw ?_|(refine v_make ?_ (fun sv ss hs hln=>?_);omega)|fail)
    refine v_o2 Tryd.results30 ⟨?_, rfl⟩ ⟨_, inferInstance⟩
    rw [nb] at h4 h5
    rw [h4, show (k : Int) + ((nb 0 (l.drop k)).2 : Nat) = (i : Int) by omega]⟩
end Go.Proofs.YtedemhmlaodblabDoor
