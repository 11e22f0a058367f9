/- Texts in one: what the law's walk needs, part 3: contracts by symbolic execution; no condition. -/
import Derived.ChangeKeysEq
import Derived.Recover
import Derived.Test.YtdfoijfjlhjeaaaGreatJb
set_option linter.unusedSimpArgs false
set_option linter.unusedVariables false
/- wire.reader: the sealed part. -/
namespace Go.Proofs.YtdfoijfjlhjeaaaGreat
open Go Go.SX Go.RowKit
set_option maxRecDepth 100000
set_option maxHeartbeats 0
set_option synthInstance.maxSize 100000
set_option synthInstance.maxHeartbeats 400000
theorem strOf_nms (l : List UInt8) : strOf (nms l) = l := by
  unfold strOf nms
  rw [List.map_map]
  conv => rhs; rw [← List.map_id l]
  refine List.map_congr_left fun c _ => ?_
  simp
structure SlG where
  x : Int
  k : ApiKey
  b2 : Nat
  r : Hp
  bs : Bs
structure SlOk (b : Nat) (l : List UInt8) (bs : Bs) (g : SlG) : Prop where
  at' : RdAt b l g.r g.bs
  eq : rdSealed bs = (rdCnt 7 rdByte g.bs).map fun z => (⟨g.x, g.k, z.1⟩, z.2)
structure SmG where
  xs : List UInt8
  s : Hp
  r : Hp
  bs : Bs
structure SmOk (b : Nat) (l : List UInt8) (k : Nat) (bv : Value) (bs1 : Bs) (g : SmG) : Prop where
  le : g.xs.length ≤ k
  own : OwnS bv 5 Int 1 (fun x => [.int .u8 x]) (nms g.xs ++ List.replicate (k - g.xs.length) 0) g.s
  at' : RdAt b l g.r g.bs
  eq : rdList rdByte k bs1 = (rdList rdByte (k - g.xs.length) g.bs).map fun z => (g.xs ++ z.1, z.2)
section
variable (b : Nat) (l : List UInt8) (hl : l.length ≤ 281474976710656)
include hl
theorem sealed_s : RdS 130 b l rdSealed (fun x v Γ => v = .agg #[.int .i64 x.Epoch, .int .i64 x.Under.Base, .int .i64 x.Under.Step, str x.Text] ∧ Γ = []) [] := by
  rintro bs s hs
  refine spec_p1 Tryz.func130 Tryz.ntmps130 rfl rfl (fun M w0 => ?_)
  have hstop1 := @stopR Tryz.prog 1
  repeat' (first | refine stp ?_|(refine v_spT ?_ ?_;omega)|(refine v_spF ?_ ?_;omega)|(refine v_yc ?_ ?_;omega)|refine v_alloc' (fun ba=>?_)|refine v_box (fun bb=>?_)|(refine v_set ?_ (fun ss hs hln=>?_);omega)|(refine v_make ?_ (fun sv ss hs hln=>?_);omega)|refine ⟨?_,?_,?_⟩|refine ⟨?_,?_⟩|refine v_tValT (by decide +kernel) ?_|refine v_drawnK (id:=1) 6 pl130_1 (by kernel_rfl) ?_|fail)
  refine Stopped.go <| v_ctR 1 [3] [1, 2] (fun g : SlG => [pt g.b2]) (fun g => [g.r, [(g.b2, .cells #[.int .i64 g.x, .int .i64 g.k.Base, .int .i64 g.k.Step, str []] 47 (0, 0))], [(ba, .cells #[.int .i64 0, .int .i64 0, .int .i64 0, str []] 47 (0, 0))], [(bb, .cells #[pt b] 150 (0, 0))]]) (SlOk b l bs) (fun _ => rfl) ?_ ?_
  · refine v_drawn (id:=1) 6 pl130_1 [] [[(bb, .cells #[pt b] 150 (0, 0))]] (by kernel_rfl) ?_
    repeat' (first | refine stp ?_|(refine v_spT ?_ ?_;omega)|(refine v_spF ?_ ?_;omega)|(refine v_yc ?_ ?_;omega)|refine v_alloc' (fun ba=>?_)|refine v_box (fun bb=>?_)|(refine v_set ?_ (fun ss hs hln=>?_);omega)|(refine v_make ?_ (fun sv ss hs hln=>?_);omega)|refine ⟨?_,?_,?_⟩|refine ⟨?_,?_⟩|refine v_tValT (by decide +kernel) ?_|refine v_drawnK (id:=1) 6 pl130_1 (by kernel_rfl) ?_|fail)
    all_goals
      refine v_callP (num_s b l hl 8 (by decide) (by decide) bs s hs) (fun h => by simp [rdSealed, rdMap, rdBind, h]) ?_
      rintro v Γ' ⟨x, bs1, s1, Γ1, hx, hs1, ⟨rfl, rfl⟩, rfl⟩
      (try dsimp only [List.cons_append, List.nil_append])
      repeat' (first | refine stp ?_|(refine v_spT ?_ ?_;omega)|(refine v_spF ?_ ?_;omega)|(refine v_yc ?_ ?_;omega)|refine v_alloc' (fun ba=>?_)|refine v_box (fun bb=>?_)|(refine v_set ?_ (fun ss hs hln=>?_);omega)|(refine v_make ?_ (fun sv ss hs hln=>?_);omega)|refine ⟨?_,?_,?_⟩|refine ⟨?_,?_⟩|refine v_tValT (by decide +kernel) ?_|refine v_drawnK (id:=1) 6 pl130_1 (by kernel_rfl) ?_|fail)
    all_goals
      refine v_callP (key_s b l hl _ _ (by assumption)) (fun h => by simp [rdSealed, rdMap, rdBind, hx, h]) ?_
      rintro v Γ' ⟨y, bs2, s2, Γ2, hy, hs2, ⟨rfl, rfl⟩, rfl⟩
      (try dsimp only [List.cons_append, List.nil_append])
      repeat' (first | refine stp ?_|(refine v_spT ?_ ?_;omega)|(refine v_spF ?_ ?_;omega)|(refine v_yc ?_ ?_;omega)|refine v_alloc' (fun ba=>?_)|refine v_box (fun bb=>?_)|(refine v_set ?_ (fun ss hs hln=>?_);omega)|(refine v_make ?_ (fun sv ss hs hln=>?_);omega)|refine ⟨?_,?_,?_⟩|refine ⟨?_,?_⟩|refine v_tValT (by decide +kernel) ?_|refine v_drawnK (id:=1) 6 pl130_1 (by kernel_rfl) ?_|fail)
    all_goals
      refine v_here ⟨x, y, ba, s2, bs2⟩ rfl inferInstance ⟨hs2, ?_⟩
      dsimp only
      simp only [rdSealed, rdMap, rdBind, hx, hy]
      cases rdCnt 7 rdByte bs2 <;> rfl
  rintro ⟨x, y, b2, sr, bs4⟩ ⟨h3, h4⟩
  dsimp only at h3 h4 ⊢
  (try dsimp only [zipE_c, zipE_n, List.cons_append, List.nil_append])
  repeat' (first | refine stp ?_|(refine v_spT ?_ ?_;omega)|(refine v_spF ?_ ?_;omega)|(refine v_yc ?_ ?_;omega)|refine v_alloc' (fun ba=>?_)|refine v_box (fun bb=>?_)|(refine v_set ?_ (fun ss hs hln=>?_);omega)|(refine v_make ?_ (fun sv ss hs hln=>?_);omega)|refine ⟨?_,?_,?_⟩|refine ⟨?_,?_⟩|refine v_tValT (by decide +kernel) ?_|refine v_drawnK (id:=1) 6 pl130_1 (by kernel_rfl) ?_|fail)
  refine v_callP (num_s b l hl 7 (by decide) (by decide) bs4 sr h3) (fun h => by rw [h4]; simp [rdCnt, rdBind, h]) ?_
  rintro v Γ' ⟨n, bs1, r1, Γ1, hn, hs1, ⟨rfl, rfl⟩, rfl⟩
  have hn0 := ((numC 7).forth _ _ _ hn).2
  obtain ⟨k, rfl⟩ : ∃ k : Nat, n = (k : Int) := ⟨n.toNat, by omega⟩
  have hk : k < 128 := by have := hn0.2; omega
  have hall : rdCnt 7 rdByte bs4 = rdList rdByte k bs1 := by simp [rdCnt, rdBind, hn]
  (try dsimp only [List.cons_append, List.nil_append])
  repeat' (first | refine stp ?_|(refine v_spT ?_ ?_;omega)|(refine v_spF ?_ ?_;omega)|(refine v_yc ?_ ?_;omega)|refine v_alloc' (fun ba=>?_)|refine v_box (fun bb=>?_)|(refine v_set ?_ (fun ss hs hln=>?_);omega)|(refine v_make ?_ (fun sv ss hs hln=>?_);omega)|refine ⟨?_,?_,?_⟩|refine ⟨?_,?_⟩|refine v_tValT (by decide +kernel) ?_|refine v_drawnK (id:=1) 6 pl130_1 (by kernel_rfl) ?_|fail)
  rw [show ((List.replicate ((k : Nat) : Int).toNat (0 : Int)).length : Int) = k by rw [List.length_replicate, Int.toNat_natCast]]
  rw [Int.toNat_natCast] at hs hln
  refine v_lp [16] [1, 2, 3, 4, 15] (fun g : SmG => [.int .i64 g.xs.length]) (fun g => [g.s, g.r, [(b2, .cells #[.int .i64 x, .int .i64 y.Base, .int .i64 y.Step, str []] 47 (0, 0))], [(ba, .cells #[.int .i64 0, .int .i64 0, .int .i64 0, str []] 47 (0, 0))], [(bb, .cells #[pt b] 150 (0, 0))]]) (SmOk b l k sv bs1) (fun g => k - g.xs.length) ⟨[], ss, r1, bs1⟩ (fun _ => rfl) rfl inferInstance ⟨Nat.zero_le _, hs, hs1, by show _ = (rdList rdByte (k - 0) bs1).map _; rw [Nat.sub_zero]; cases rdList rdByte k bs1 <;> rfl⟩ ?_
  clear hs hs1 h3 hln
  rintro ⟨xs, s, sr, bsr⟩ ⟨hi, hv, hs1, hr⟩
  dsimp only at hi hv hs1 hr ⊢
  (try dsimp only [zipE_c, zipE_n, List.cons_append, List.nil_append])
  have hlen : (nms xs ++ List.replicate (k - xs.length) (0 : Int)).length = k := by rw [List.length_append, nms_len, List.length_replicate]; omega
  rcases Nat.lt_or_ge xs.length k with hlt | hge
  · obtain ⟨q, hq⟩ : ∃ q, k - xs.length = q + 1 := ⟨k - xs.length - 1, by omega⟩
    have hset : ∀ c : UInt8, (nms xs ++ List.replicate (k - xs.length) (0 : Int)).set xs.length (c.toNat : Int) = nms (xs ++ [c]) ++ List.replicate (k - (xs ++ [c]).length) 0 := fun c => by
      rw [hq, List.length_append, show k - (xs.length + [c].length) = q by rw [List.length_singleton]; omega, List.replicate_succ]
      unfold nms
      rw [List.set_append_right _ _ (by rw [List.length_map]; exact Nat.le_refl _), List.length_map, Nat.sub_self, List.set_cons_zero, List.map_append, List.append_assoc]
      rfl
    generalize hW : nms xs ++ List.replicate (k - xs.length) (0 : Int) = W at *
    rw [hq] at hr
    repeat' (first | refine stp ?_|(refine v_spT ?_ ?_;omega)|(refine v_spF ?_ ?_;omega)|(refine v_yc ?_ ?_;omega)|refine v_alloc' (fun ba=>?_)|refine v_box (fun bb=>?_)|(refine v_set ?_ (fun ss hs hln=>?_);omega)|(refine v_make ?_ (fun sv ss hs hln=>?_);omega)|refine ⟨?_,?_,?_⟩|refine ⟨?_,?_⟩|refine v_tValT (by decide +kernel) ?_|refine v_drawnK (id:=1) 6 pl130_1 (by kernel_rfl) ?_|fail)
    refine v_callP (num_s b l hl 8 (by decide) (by decide) bsr sr hs1) (fun h => by rw [h4, hall, hr, rdList_none (by simp [rdByte, rdMap, rdBind, h])]; rfl) ?_
    rintro u Γ' ⟨n1, bs2, s2', Γ1, e2, hs2, ⟨rfl, rfl⟩, rfl⟩
    have hn1 := ((numC 8).forth _ _ _ e2).2
    have h256 : (2 : Int) ^ 8 = 256 := rfl
    obtain ⟨c, hc⟩ : ∃ c : UInt8, c = UInt8.ofNat n1.toNat := ⟨_, rfl⟩
    have hcn : IntKind.u8.wrap n1 = (c.toNat : Int) := by
      have e1 : c.toNat = n1.toNat := by rw [hc, UInt8.toNat_ofNat', Nat.mod_eq_of_lt (by omega)]
      rw [show n1 = ((n1.toNat : Nat) : Int) by omega, u8_wrap (by omega), e1]
    (try dsimp only [List.cons_append, List.nil_append])
    repeat' (first | refine stp ?_|(refine v_spT ?_ ?_;omega)|(refine v_spF ?_ ?_;omega)|(refine v_yc ?_ ?_;omega)|refine v_alloc' (fun ba=>?_)|refine v_box (fun bb=>?_)|(refine v_set ?_ (fun ss hs hln=>?_);omega)|(refine v_make ?_ (fun sv ss hs hln=>?_);omega)|refine ⟨?_,?_,?_⟩|refine ⟨?_,?_⟩|refine v_tValT (by decide +kernel) ?_|refine v_drawnK (id:=1) 6 pl130_1 (by kernel_rfl) ?_|fail)
    rw [hcn, hset] at hs
    refine v_again ⟨xs ++ [c], ss, s2', bs2⟩ (by dsimp only; rw [List.length_append, List.length_singleton]; omega) ?_ inferInstance ⟨by dsimp only; rw [List.length_append, List.length_singleton]; omega, hs, hs2, ?_⟩
    · dsimp only; rw [List.length_append, List.length_singleton]; rfl
    · dsimp only
      have e : rdByte bsr = some (c, bs2) := by simp [rdByte, rdMap, rdBind, e2, hc]
      rw [hr, rdList_some e, List.length_append, List.length_singleton, show k - (xs.length + 1) = q by omega]
      cases rdList rdByte q bs2 <;> simp
  · have hk0 : k - xs.length = 0 := by omega
    rw [hk0] at hr hv
    have hfin : rdSealed bs = some (⟨x, y, xs⟩, bsr) := by
      rw [h4, hall, hr]; simp [rdList]
    rw [List.replicate_zero, List.append_nil] at hv
    have hst := strOf_nms xs
    have hnl := nms_len xs
    repeat' (first | refine stp ?_|(refine v_spT ?_ ?_;omega)|(refine v_spF ?_ ?_;omega)|(refine v_yc ?_ ?_;omega)|refine v_alloc' (fun ba=>?_)|refine v_box (fun bb=>?_)|(refine v_set ?_ (fun ss hs hln=>?_);omega)|(refine v_make ?_ (fun sv ss hs hln=>?_);omega)|refine ⟨?_,?_,?_⟩|refine ⟨?_,?_⟩|refine v_tValT (by decide +kernel) ?_|refine v_drawnK (id:=1) 6 pl130_1 (by kernel_rfl) ?_|fail)
    rw [hst]
    exact v_retP (v_o1 Tryz.results130 ⟨_, _, _, _, hfin, hs1, ⟨rfl, rfl⟩, rfl⟩ ⟨_, inferInstance⟩)
end
end Go.Proofs.YtdfoijfjlhjeaaaGreat

/- shape.Below and the document's: the same. -/
namespace Go.Proofs.YtdfoijfjlhjeaaaGreat
open Go Go.SX Go.RowKit
set_option maxRecDepth 100000
set_option maxHeartbeats 0
set_option synthInstance.maxSize 100000
set_option synthInstance.maxHeartbeats 400000
def lev (v : Nat) : Nat := if v < 1 then 0 else if v < 5 then 1 else if v < 21 then 2 else 3
def fst' : Nat → Nat
  | 0 => 0
  | 1 => 1
  | 2 => 5
  | _ => 21
def wid (v : Nat) : Nat := 2 * (3 - lev v)
def msk (v : Nat) : Nat := (2 ^ (2 ^ wid v) - 1) * 2 ^ ((v - fst' (lev v)) * 2 ^ wid v)
def upw : Nat → Nat → Nat → Bool
  | 0, v, w => w == v
  | k + 1, v, w => if v < w then upw k v ((w - 1) / 4) else w == v
theorem lev_le (v : Nat) : lev v ≤ 3 := by
  unfold lev
  split
  · decide
  split
  · decide
  split <;> decide
theorem upw_step : ∀ w < 85, ∀ v < w, upw 4 v w = upw 4 v ((w - 1) / 4) := by decide +kernel
theorem msk_upw : ∀ v < 85, ∀ w < 85, (msk v &&& msk w == msk w) = upw 4 v w := by decide +kernel
theorem msk_lt : ∀ v < 85, msk v < 18446744073709551616 := by decide +kernel
theorem first_eq : ∀ (l : Nat), l < 4 → IntKind.i64.wrap ((wrap64 (shlI .i64 1 (2 * (l : Int)) - 1)).tdiv 3) = (fst' l : Nat) := by decide +kernel
theorem span_eq : ∀ (v : Nat), v < 85 → shlI .i64 ((v : Int) - (fst' (lev v) : Nat)) (2 * (3 - (lev v : Nat))) = (((v - fst' (lev v)) * 2 ^ wid v : Nat) : Int) ∧ shlI .i64 1 (2 * (3 - (lev v : Nat))) = ((2 ^ wid v : Nat) : Int) := by decide +kernel
theorem mask_eq : ∀ (v : Nat), v < 85 → IntKind.u64.wrap (64 - IntKind.u64.wrap ((2 ^ wid v : Nat) : Int)) = ((64 - 2 ^ wid v : Nat) : Int) ∧ IntKind.u64.wrap (((v - fst' (lev v)) * 2 ^ wid v : Nat) : Int) = (((v - fst' (lev v)) * 2 ^ wid v : Nat) : Int) ∧ shlI .u64 (shrI .u64 18446744073709551615 ((64 - 2 ^ wid v : Nat) : Int)) (((v - fst' (lev v)) * 2 ^ wid v : Nat) : Int) = (msk v : Nat) := by decide +kernel
theorem first_s (l : Nat) (h : l ≤ 3) : SX.Spec Tryz.prog 175 #[.int .i64 l] [] [] fun v Γ => v = .int .i64 (fst' l : Nat) ∧ Γ = [] := by
  refine spec_of1 Tryz.func175 Tryz.ntmps175 rfl rfl (fun M w0 => ?_)
  repeat' (first | refine stp ?_|(refine v_yc ?_ ?_;omega)|refine v_yw ?_|fail)
  have e := first_eq l (by omega)
  rw [e]
  refine v_o1 Tryz.results175 ⟨rfl, rfl⟩ ⟨_, inferInstance⟩
/-- a node's number -/
abbrev nd (v : Int) : Prop := 0 ≤ v ∧ v < 85
def levI (v : Int) : Int := if nd v then (lev v.toNat : Nat) else -1
theorem fst_lev (v : Nat) : (∀ l, lev v < l → l ≤ 3 → v < fst' l) ∧ fst' (lev v) ≤ v := by
  unfold lev
  split
  · refine ⟨fun l h1 h2 => ?_, by simp only [fst']; omega⟩
    match l, h1, h2 with
    | 1, _, _ => simp only [fst']; omega
    | 2, _, _ => simp only [fst']; omega
    | 3, _, _ => simp only [fst']; omega
  split
  · refine ⟨fun l h1 h2 => ?_, by simp only [fst']; omega⟩
    match l, h1, h2 with
    | 2, _, _ => simp only [fst']; omega
    | 3, _, _ => simp only [fst']; omega
  split
  · refine ⟨fun l h1 h2 => ?_, by simp only [fst']; omega⟩
    match l, h1, h2 with
    | 3, _, _ => simp only [fst']; omega
  · exact ⟨fun l h1 h2 => by omega, by simp only [fst']; omega⟩
theorem level_s (v : Int) : SX.Spec Tryz.prog 166 #[.int .i64 v] [] [] fun r Γ => r = .int .i64 (levI v) ∧ Γ = [] := by
  refine spec_of1 Tryz.func166 Tryz.ntmps166 rfl rfl (fun M w0 => ?_)
  repeat' (first | refine stp ?_|refine v_spD (fun hc=>?_) (fun hc=>?_)|(refine v_yc ?_ ?_;omega)|fail)
  · rw [show levI v = -1 from if_neg (by omega)]
    refine v_o1 Tryz.results166 ⟨rfl, rfl⟩ ⟨_, inferInstance⟩
  · rw [show levI v = -1 from if_neg (by omega)]
    refine v_o1 Tryz.results166 ⟨rfl, rfl⟩ ⟨_, inferInstance⟩
  have hn : nd v := by omega
  obtain ⟨n, rfl⟩ : ∃ n : Nat, v = (n : Int) := ⟨v.toNat, by omega⟩
  rw [show levI (n : Int) = (lev n : Nat) from if_pos hn]
  refine v_lp [3] [0] (fun k : Nat => [.int .i64 k]) (fun k => []) (fun k => lev n ≤ k ∧ k ≤ 3) (fun k => k) 3 (fun _ => rfl) rfl inferInstance ⟨lev_le n, Nat.le_refl _⟩ ?_
  rintro k ⟨h1, h2⟩
  (try dsimp only [zipE_c, zipE_n, List.cons_append, List.nil_append])
  repeat' (first | refine stp ?_|refine v_spD (fun hc=>?_) (fun hc=>?_)|(refine v_yc ?_ ?_;omega)|fail)
  refine v_callR (first_s k h2) ?_
  rintro r Γ' ⟨rfl, rfl⟩
  (try dsimp only [List.cons_append, List.nil_append])
  have hf := fst_lev n
  repeat' (first | refine stp ?_|refine v_spD (fun hc=>?_) (fun hc=>?_)|(refine v_yc ?_ ?_;omega)|fail)
  · obtain rfl : k = lev n := by
      rcases Nat.lt_or_ge (lev n) k with h | h
      · have := hf.1 k h h2; omega
      · omega
    refine v_o1 Tryz.results166 ⟨rfl, rfl⟩ ⟨_, inferInstance⟩
  · have hk : lev n < k := by
      rcases Nat.lt_or_ge (lev n) k with h | h
      · exact h
      · obtain rfl : k = lev n := by omega
        have := hf.2; omega
    refine v_again (k - 1) (by omega) ?_ inferInstance ⟨by omega, by omega⟩
    rw [show ((k - 1 : Nat) : Int) = (k : Int) - 1 by omega]
theorem span_s (v : Nat) (hv : v < 85) : SX.Spec Tryz.prog 176 #[.int .i64 v] [] [] fun r Γ => r = .tuple #[.int .i64 (((v - fst' (lev v)) * 2 ^ wid v : Nat) : Int), .int .i64 ((2 ^ wid v : Nat) : Int)] ∧ Γ = [] := by
  have hl : levI (v : Int) = (lev v : Nat) := if_pos ⟨by omega, by omega⟩
  have h3 := lev_le v
  have hf := (fst_lev v).2
  refine spec_of1 Tryz.func176 Tryz.ntmps176 rfl rfl (fun M w0 => ?_)
  repeat' (first | refine stp ?_|(refine v_yc ?_ ?_;omega)|refine ⟨?_,?_,?_⟩|refine ⟨?_,?_⟩|(refine v_tyc ?_ ?_;omega)|refine v_drawn0 (id:=3) pl176_3 (by kernel_rfl) ?_|fail)
  refine v_callR (level_s v) ?_
  rintro r Γ' ⟨rfl, rfl⟩
  rw [hl]
  (try dsimp only [List.cons_append, List.nil_append])
  repeat' (first | refine stp ?_|(refine v_yc ?_ ?_;omega)|refine ⟨?_,?_,?_⟩|refine ⟨?_,?_⟩|(refine v_tyc ?_ ?_;omega)|refine v_drawn0 (id:=3) pl176_3 (by kernel_rfl) ?_|fail)
  refine v_callR (first_s (lev v) h3) ?_
  rintro r Γ' ⟨rfl, rfl⟩
  (try dsimp only [List.cons_append, List.nil_append])
  repeat' (first | refine stp ?_|(refine v_yc ?_ ?_;omega)|refine ⟨?_,?_,?_⟩|refine ⟨?_,?_⟩|(refine v_tyc ?_ ?_;omega)|refine v_drawn0 (id:=3) pl176_3 (by kernel_rfl) ?_|fail)
  have he := span_eq v hv
  rw [he.1, he.2]
  refine v_o2 Tryz.results176 ⟨rfl, rfl⟩ ⟨_, inferInstance⟩
def mskI (v : Int) : Nat := if nd v then msk v.toNat else 0
theorem mask_s (v : Int) : SX.Spec Tryz.prog 167 #[.int .i64 v] [] [] fun r Γ => r = .int .u64 (mskI v : Nat) ∧ Γ = [] := by
  refine spec_of1 Tryz.func167 Tryz.ntmps167 rfl rfl (fun M w0 => ?_)
  repeat' (first | refine stp ?_|(refine v_spT ?_ ?_;omega)|(refine v_spF ?_ ?_;omega)|(refine v_yc ?_ ?_;omega)|fail)
  refine v_callR (level_s v) ?_
  rintro r Γ' ⟨rfl, rfl⟩
  by_cases hn : nd v
  · obtain ⟨n, rfl⟩ : ∃ n : Nat, v = (n : Int) := ⟨v.toNat, by omega⟩
    rw [show levI (n : Int) = (lev n : Nat) from if_pos hn, show mskI (n : Int) = msk n from if_pos hn]
    (try dsimp only [List.cons_append, List.nil_append])
    repeat' (first | refine stp ?_|(refine v_spT ?_ ?_;omega)|(refine v_spF ?_ ?_;omega)|(refine v_yc ?_ ?_;omega)|fail)
    refine v_callR (span_s n (by omega)) ?_
    rintro r Γ' ⟨rfl, rfl⟩
    (try dsimp only [List.cons_append, List.nil_append])
    repeat' (first | refine stp ?_|(refine v_spT ?_ ?_;omega)|(refine v_spF ?_ ?_;omega)|(refine v_yc ?_ ?_;omega)|fail)
    obtain ⟨h1, h2, h3⟩ := mask_eq n (by omega)
    rw [h1]
    repeat' (first | refine stp ?_|(refine v_spT ?_ ?_;omega)|(refine v_spF ?_ ?_;omega)|(refine v_yc ?_ ?_;omega)|fail)
    rw [h2, h3]
    refine v_o1 Tryz.results167 ⟨rfl, rfl⟩ ⟨_, inferInstance⟩
  · rw [show levI v = -1 from if_neg hn, show mskI v = 0 from if_neg hn]
    (try dsimp only [List.cons_append, List.nil_append])
    repeat' (first | refine stp ?_|(refine v_spT ?_ ?_;omega)|(refine v_spF ?_ ?_;omega)|(refine v_yc ?_ ?_;omega)|fail)
    refine v_o1 Tryz.results167 ⟨rfl, rfl⟩ ⟨_, inferInstance⟩
/-- w lies below v -/
def Blw (v w : Int) : Prop := nd v ∧ nd w ∧ upw 4 v.toNat w.toNat = true
instance (v w : Int) : Decidable (Blw v w) := by unfold Blw; infer_instance
theorem below_s (v w : Int) : SX.Spec Tryz.prog 144 #[.int .i64 v, .int .i64 w] [] [] fun r Γ => r = .bool (decide (Blw v w)) ∧ Γ = [] := by
  refine spec_of2 Tryz.func144 Tryz.ntmps144 rfl rfl (fun M w0 => ?_)
  repeat' (first | refine stp ?_|(refine v_spT ?_ ?_;omega)|(refine v_spF ?_ ?_;omega)|fail)
  refine v_callR (level_s v) ?_
  rintro r Γ' ⟨rfl, rfl⟩
  by_cases hv : nd v
  · obtain ⟨n, rfl⟩ : ∃ n : Nat, v = (n : Int) := ⟨v.toNat, by omega⟩
    rw [show levI (n : Int) = (lev n : Nat) from if_pos hv]
    (try dsimp only [List.cons_append, List.nil_append])
    repeat' (first | refine stp ?_|(refine v_spT ?_ ?_;omega)|(refine v_spF ?_ ?_;omega)|fail)
    refine v_callR (level_s w) ?_
    rintro r Γ' ⟨rfl, rfl⟩
    by_cases hw : nd w
    · obtain ⟨m, rfl⟩ : ∃ m : Nat, w = (m : Int) := ⟨w.toNat, by omega⟩
      rw [show levI (m : Int) = (lev m : Nat) from if_pos hw]
      (try dsimp only [List.cons_append, List.nil_append])
      repeat' (first | refine stp ?_|(refine v_spT ?_ ?_;omega)|(refine v_spF ?_ ?_;omega)|fail)
      refine v_callR (mask_s n) ?_
      rintro r Γ' ⟨rfl, rfl⟩
      rw [show mskI (n : Int) = msk n from if_pos hv]
      (try dsimp only [List.cons_append, List.nil_append])
      repeat' (first | refine stp ?_|(refine v_spT ?_ ?_;omega)|(refine v_spF ?_ ?_;omega)|fail)
      refine v_callR (mask_s m) ?_
      rintro r Γ' ⟨rfl, rfl⟩
      rw [show mskI (m : Int) = msk m from if_pos hw]
      (try dsimp only [List.cons_append, List.nil_append])
      repeat' (first | refine stp ?_|(refine v_spT ?_ ?_;omega)|(refine v_spF ?_ ?_;omega)|fail)
      refine v_callR (mask_s m) ?_
      rintro r Γ' ⟨rfl, rfl⟩
      rw [show mskI (m : Int) = msk m from if_pos hw]
      (try dsimp only [List.cons_append, List.nil_append])
      repeat' (first | refine stp ?_|(refine v_spT ?_ ?_;omega)|(refine v_spF ?_ ?_;omega)|fail)
      rw [bits_and_u64_nat _ _ (msk_lt n (by omega)) (msk_lt m (by omega)), decide_eq_decide.2 (show (((msk n &&& msk m : Nat) : Int) = (msk m : Nat)) ↔ Blw n m from by
        have e := msk_upw n (by omega) m (by omega)
        unfold Blw
        rw [Int.toNat_natCast, Int.toNat_natCast, ← e, beq_iff_eq]
        exact ⟨fun h => ⟨hv, hw, by omega⟩, fun h => by rw [h.2.2]⟩)]
      refine v_o1 Tryz.results144 ⟨rfl, rfl⟩ ⟨_, inferInstance⟩
    · rw [show levI w = -1 from if_neg hw, decide_eq_false (show ¬ Blw n w from fun h => hw h.2.1)]
      (try dsimp only [List.cons_append, List.nil_append])
      repeat' (first | refine stp ?_|(refine v_spT ?_ ?_;omega)|(refine v_spF ?_ ?_;omega)|fail)
      refine v_o1 Tryz.results144 ⟨rfl, rfl⟩ ⟨_, inferInstance⟩
  · rw [show levI v = -1 from if_neg hv, decide_eq_false (show ¬ Blw v w from fun h => hv h.1)]
    (try dsimp only [List.cons_append, List.nil_append])
    repeat' (first | refine stp ?_|(refine v_spT ?_ ?_;omega)|(refine v_spF ?_ ?_;omega)|fail)
    refine v_o1 Tryz.results144 ⟨rfl, rfl⟩ ⟨_, inferInstance⟩
end Go.Proofs.YtdfoijfjlhjeaaaGreat

/- coterieref01.Below. -/
namespace Go.Proofs.YtdfoijfjlhjeaaaGreat
open Go Go.SX Go.RowKit
set_option maxRecDepth 100000
set_option maxHeartbeats 0
set_option synthInstance.maxSize 100000
set_option synthInstance.maxHeartbeats 400000
theorem node_s (v : Int) : SX.Spec Tryz.prog 153 #[.int .i64 v] [] [] fun r Γ => r = .bool (decide (nd v)) ∧ Γ = [] := by
  refine spec_of1 Tryz.func153 Tryz.ntmps153 rfl rfl (fun M w0 => ?_)
  repeat' (first | refine stp ?_|refine v_spD (fun hc=>?_) (fun hc=>?_)|fail)
  · rw [decide_eq_decide.2 (show v < 85 ↔ nd v from ⟨fun h => ⟨hc, h⟩, fun h => h.2⟩)]
    refine v_o1 Tryz.results153 ⟨rfl, rfl⟩ ⟨_, inferInstance⟩
  · rw [decide_eq_false (show ¬ nd v from fun h => hc h.1)]
    refine v_o1 Tryz.results153 ⟨rfl, rfl⟩ ⟨_, inferInstance⟩
theorem child_s (p i : Nat) (hp : p < 21) (hi : i < 4) : SX.Spec Tryz.prog 168 #[.int .i64 p, .int .i64 i] [] [] fun r Γ => r = .int .i64 ((4 * p + 1 + i : Nat) : Int) ∧ Γ = [] := by
  refine spec_of2 Tryz.func168 Tryz.ntmps168 rfl rfl (fun M w0 => ?_)
  repeat' (first | refine stp ?_|(refine v_spF ?_ ?_;omega)|(refine v_yc ?_ ?_;omega)|fail)
  rw [show 4 * (p : Int) + 1 + i = ((4 * p + 1 + i : Nat) : Int) by omega]
  refine v_o1 Tryz.results168 ⟨rfl, rfl⟩ ⟨_, inferInstance⟩
theorem parent_s (v : Nat) (h0 : 1 ≤ v) (hv : v < 85) : SX.Spec Tryz.prog 154 #[.int .i64 v] [] [] fun r Γ => r = .int .i64 (((v - 1) / 4 : Nat) : Int) ∧ Γ = [] := by
  refine spec_of1 Tryz.func154 Tryz.ntmps154 rfl rfl (fun M w0 => ?_)
  repeat' (first | refine stp ?_|(refine v_spT ?_ ?_;omega)|(refine v_spF ?_ ?_;omega)|refine v_spD (fun hc=>?_) (fun hc=>?_)|(refine v_yc ?_ ?_;omega)|fail)
  refine v_lp [3] [0] (fun p : Nat => [.int .i64 p]) (fun p => []) (fun p => p ≤ (v - 1) / 4) (fun p => 21 - p) 0 (fun _ => rfl) rfl inferInstance (Nat.zero_le _) ?_
  rintro p hp
  (try dsimp only [zipE_c, zipE_n, List.cons_append, List.nil_append])
  repeat' (first | refine stp ?_|(refine v_spT ?_ ?_;omega)|(refine v_spF ?_ ?_;omega)|refine v_spD (fun hc=>?_) (fun hc=>?_)|(refine v_yc ?_ ?_;omega)|fail)
  refine v_lp [4] [0, 3] (fun i : Nat => [.int .i64 i]) (fun i => []) (fun i => i ≤ 4 ∧ 4 * p + i ≤ v - 1) (fun i => 4 - i) 0 (fun _ => rfl) rfl inferInstance ⟨Nat.zero_le _, by omega⟩ ?_
  rintro i ⟨hi, hpi⟩
  (try dsimp only [zipE_c, zipE_n, List.cons_append, List.nil_append])
  rcases Nat.lt_or_ge i 4 with h4 | h4
  · repeat' (first | refine stp ?_|(refine v_spT ?_ ?_;omega)|(refine v_spF ?_ ?_;omega)|refine v_spD (fun hc=>?_) (fun hc=>?_)|(refine v_yc ?_ ?_;omega)|fail)
    refine v_callR (child_s p i (by omega) h4) ?_
    rintro r Γ' ⟨rfl, rfl⟩
    (try dsimp only [List.cons_append, List.nil_append])
    repeat' (first | refine stp ?_|(refine v_spT ?_ ?_;omega)|(refine v_spF ?_ ?_;omega)|refine v_spD (fun hc=>?_) (fun hc=>?_)|(refine v_yc ?_ ?_;omega)|fail)
    · rw [show (p : Int) = (((v - 1) / 4 : Nat) : Int) by omega]
      refine v_o1 Tryz.results154 ⟨rfl, rfl⟩ ⟨_, inferInstance⟩
    · exact v_again (i + 1) (by omega) rfl inferInstance ⟨h4, by omega⟩
  · obtain rfl : i = 4 := by omega
    repeat' (first | refine stp ?_|(refine v_spT ?_ ?_;omega)|(refine v_spF ?_ ?_;omega)|refine v_spD (fun hc=>?_) (fun hc=>?_)|(refine v_yc ?_ ?_;omega)|fail)
    exact v_again (p + 1) (by omega) rfl inferInstance (by omega)
theorem below1_s (v w : Int) : SX.Spec Tryz.prog 136 #[.int .i64 v, .int .i64 w] [] [] fun r Γ => r = .bool (decide (Blw v w)) ∧ Γ = [] := by
  refine spec_of2 Tryz.func136 Tryz.ntmps136 rfl rfl (fun M w0 => ?_)
  repeat' (first | refine stp ?_|refine v_spD (fun hc=>?_) (fun hc=>?_)|fail)
  refine v_callR (node_s v) ?_
  rintro r Γ' ⟨rfl, rfl⟩
  by_cases hv : nd v
  · obtain ⟨n, rfl⟩ : ∃ n : Nat, v = (n : Int) := ⟨v.toNat, by omega⟩
    rw [decide_eq_true hv]
    (try dsimp only [List.cons_append, List.nil_append])
    repeat' (first | refine stp ?_|refine v_spD (fun hc=>?_) (fun hc=>?_)|fail)
    refine v_callR (node_s w) ?_
    rintro r Γ' ⟨rfl, rfl⟩
    by_cases hw : nd w
    · obtain ⟨m, rfl⟩ : ∃ m : Nat, w = (m : Int) := ⟨w.toNat, by omega⟩
      rw [decide_eq_true hw]
      (try dsimp only [List.cons_append, List.nil_append])
      repeat' (first | refine stp ?_|refine v_spD (fun hc=>?_) (fun hc=>?_)|fail)
      refine v_lp [1] [0] (fun w : Nat => [.int .i64 w]) (fun w => []) (fun w => w < 85 ∧ upw 4 n m = upw 4 n w) (fun w => w) m (fun _ => rfl) rfl inferInstance ⟨by omega, rfl⟩ ?_
      rintro k ⟨hk, hu⟩
      (try dsimp only [zipE_c, zipE_n, List.cons_append, List.nil_append])
      repeat' (first | refine stp ?_|refine v_spD (fun hc=>?_) (fun hc=>?_)|fail)
      · refine v_callR (parent_s k (by omega) hk) ?_
        rintro r Γ' ⟨rfl, rfl⟩
        (try dsimp only [List.cons_append, List.nil_append])
        repeat' (first | refine stp ?_|refine v_spD (fun hc=>?_) (fun hc=>?_)|fail)
        exact v_again ((k - 1) / 4) (by omega) rfl inferInstance ⟨by omega, by rw [hu, upw_step k hk n (by omega)]⟩
      · have e : upw 4 n k = (k == n) := by
          show (if n < k then _ else _) = _
          rw [if_neg (by omega)]
        rw [decide_eq_decide.2 (show (k : Int) = n ↔ Blw n m from by
          unfold Blw
          rw [Int.toNat_natCast, Int.toNat_natCast, hu, e, beq_iff_eq]
          exact ⟨fun h => ⟨hv, hw, by omega⟩, fun h => by rw [h.2.2]⟩)]
        refine v_o1 Tryz.results136 ⟨rfl, rfl⟩ ⟨_, inferInstance⟩
    · rw [decide_eq_false hw, decide_eq_false (show ¬ Blw n w from fun h => hw h.2.1)]
      (try dsimp only [List.cons_append, List.nil_append])
      repeat' (first | refine stp ?_|refine v_spD (fun hc=>?_) (fun hc=>?_)|fail)
      refine v_o1 Tryz.results136 ⟨rfl, rfl⟩ ⟨_, inferInstance⟩
  · rw [decide_eq_false hv, decide_eq_false (show ¬ Blw v w from fun h => hv h.1)]
    (try dsimp only [List.cons_append, List.nil_append])
    repeat' (first | refine stp ?_|refine v_spD (fun hc=>?_) (fun hc=>?_)|fail)
    refine v_o1 Tryz.results136 ⟨rfl, rfl⟩ ⟨_, inferInstance⟩
end Go.Proofs.YtdfoijfjlhjeaaaGreat

/- Contracts of the key functions that others call. -/
namespace Go.Proofs.YtdfoijfjlhjeaaaGreat
open Go Go.SX Go.RowKit
set_option maxRecDepth 100000
set_option synthInstance.maxSize 100000
set_option synthInstance.maxHeartbeats 400000
theorem nd_len {α : Type} [DecidableEq α] : ∀ {l m : List α}, l.Nodup → (∀ x ∈ l, x ∈ m) → l.length ≤ m.length
  | [], _, _, _ => Nat.zero_le _
  | x :: l, m, hn, h => by
    rw [List.nodup_cons] at hn
    have hx := h x (by simp)
    have := nd_len (l := l) (m := m.erase x) hn.2 fun y hy => by
      have hne : y ≠ x := fun e => hn.1 (e ▸ hy)
      exact (List.mem_erase_of_ne hne).2 (h y (by simp [hy]))
    rw [List.length_erase_of_mem hx] at this
    have := List.length_pos_of_mem hx
    simp only [List.length_cons]; omega
abbrev kv (a b : Int) : Value := .agg #[.int .i64 a, .int .i64 b]
abbrev ik (x : Int) : Value := .int .i64 x
abbrev ic (x : Int) : List Value := [.int .i64 x]
instance kvtIk (x : Int) : Kvt ik (.int .i64 x) x := ⟨rfl⟩
instance vvtIk (x : Int) : Vvt ik (.int .i64 x) x := ⟨rfl⟩
instance : KInj ik := ⟨fun x y h => by simpa using h⟩
def Gd (a b : Int) : Prop := 0 < a ∧ a ≤ 65535 ∧ 0 ≤ b ∧ b ≤ 255
theorem gd {a b : Int} : Gd a b ↔ 0 < a ∧ a ≤ 65535 ∧ 0 ≤ b ∧ b ≤ 255 := Iff.rfl
instance (a b : Int) : Decidable (Gd a b) := by unfold Gd; infer_instance
def Gv (a b c d : Int) : Prop := Gd a b ∧ Gd c d ∧ a = c ∧ b ≤ d
instance (a b c d : Int) : Decidable (Gv a b c d) := by unfold Gv; infer_instance
theorem gv {a b c d : Int} : Gv a b c d ↔ Gd a b ∧ Gd c d ∧ a = c ∧ b ≤ d := Iff.rfl
theorem wr {x : Int} (h0 : -9223372036854775808 ≤ x) (h1 : x ≤ 9223372036854775807) : wrap64 x = x := by
  unfold wrap64; omega
instance good_s (a b : Int) : PC Tryz.prog 38 #[kv a b] (.bool (decide (Gd a b))) := ⟨by
  refine spec_of1 Tryz.func38 Tryz.ntmps38 rfl rfl (fun M w0 => ?_)
  repeat' (first | refine stp ?_|refine v_spD (fun hc=>?_) (fun hc=>?_)|refine v_box (fun bb=>?_)|fail)
  all_goals refine v_out1 (Γk := []) Tryz.results38 ⟨?_, rfl⟩
  all_goals first | (refine bD ?_; unfold Gd; omega) | (refine bF ?_; unfold Gd; omega) | (refine bT ?_; unfold Gd; omega)⟩
instance refGood_s (a b : Int) : PC Tryz.prog 89 #[kv a b] (.bool (decide (Gd a b))) := ⟨by
  refine spec_of1 Tryz.func89 Tryz.ntmps89 rfl rfl (fun M w0 => ?_)
  repeat' (first | refine stp ?_|refine v_spD (fun hc=>?_) (fun hc=>?_)|refine v_box (fun bb=>?_)|fail)
  all_goals refine v_out1 (Γk := []) Tryz.results89 ⟨?_, rfl⟩
  all_goals first | (refine bD ?_; unfold Gd; omega) | (refine bF ?_; unfold Gd; omega) | (refine bT ?_; unfold Gd; omega)⟩
instance gives_s (a b c d : Int) : PC Tryz.prog 40 #[kv a b, kv c d] (.bool (decide (Gv a b c d))) := ⟨by
  refine spec_of2 Tryz.func40 Tryz.ntmps40 rfl rfl (fun M w0 => ?_)
  repeat' (first | refine stp ?_|refine v_spD (fun hc=>?_) (fun hc=>?_)|refine v_box (fun bb=>?_)|fail)
  all_goals refine v_out1 (Γk := []) Tryz.results40 ⟨?_, rfl⟩
  all_goals first | (refine bD ?_; simp_all [Gv]; done) | (refine bF ?_; simp_all [Gv]; done) | (refine bT ?_; simp_all [Gv]; done)⟩
end Go.Proofs.YtdfoijfjlhjeaaaGreat

/- wire: what is right. -/
namespace Go.Proofs.YtdfoijfjlhjeaaaGreat
open Go Go.SX Go.RowKit
set_option maxRecDepth 100000
set_option maxHeartbeats 0
set_option synthInstance.maxSize 100000
set_option synthInstance.maxHeartbeats 400000
instance below_pc (v w : Int) : PC Tryz.prog 144 #[.int .i64 v, .int .i64 w] (.bool (decide (Blw v w))) := ⟨below_s v w⟩
instance below1_pc (v w : Int) : PC Tryz.prog 136 #[.int .i64 v, .int .i64 w] (.bool (decide (Blw v w))) := ⟨below1_s v w⟩
def Btw (n a b : Int) : Prop := a ≤ n ∧ n ≤ b
instance (a b c : Int) : Decidable (Btw a b c) := by unfold Btw; infer_instance
instance between_pc (n a b : Int) : PC Tryz.prog 115 #[.int .i64 n, .int .i64 a, .int .i64 b] (.bool (decide (Btw n a b))) := ⟨by
  refine spec_of3 Tryz.func115 Tryz.ntmps115 rfl rfl (fun M w0 => ?_)
  repeat' (first | refine stp ?_|refine v_spD (fun hc=>?_) (fun hc=>?_)|fail)
  all_goals refine v_out1 (Γk := []) Tryz.results115 ⟨?_, rfl⟩
  all_goals first | (refine bD ?_; unfold Btw; omega) | (refine bF ?_; unfold Btw; omega) | (refine bT ?_; unfold Btw; omega)⟩
instance epoch_pc (n : Int) : PC Tryz.prog 116 #[.int .i64 n] (.bool (decide (Btw n 1 200))) := ⟨by
  refine spec_of1 Tryz.func116 Tryz.ntmps116 rfl rfl (fun M w0 => ?_)
  repeat' (first | refine stp ?_|fail)
  all_goals refine v_out1 (Γk := []) Tryz.results116 ⟨?_, rfl⟩
  all_goals rfl⟩
abbrev goodSeat (s : ApiSeat) : Prop := Btw s.Who 0 255 ∧ Btw s.Slot 0 63
instance seat_pc (a b : Int) : PC Tryz.prog 118 #[.agg #[.int .i64 a, .int .i64 b]] (.bool (decide (goodSeat ⟨a, b⟩))) := ⟨by
  refine spec_of1 Tryz.func118 Tryz.ntmps118 rfl rfl (fun M w0 => ?_)
  repeat' (first | refine stp ?_|refine v_spD (fun hc=>?_) (fun hc=>?_)|refine v_box (fun bb=>?_)|fail)
  all_goals refine v_out1 (Γk := []) Tryz.results118 ⟨?_, rfl⟩
  all_goals (first | (refine bD ?_; simp_all; done) | (refine bF ?_; simp_all; done) | (refine bT ?_; simp_all; done))⟩
abbrev goodBox (b : ApiBox) : Prop := Gd b.Under.Base b.Under.Step ∧ Gd b.Load.Base b.Load.Step
instance box_pc (a b c d : Int) : PC Tryz.prog 122 #[.agg #[.int .i64 a, .int .i64 b, .int .i64 c, .int .i64 d]] (.bool (decide (goodBox ⟨⟨a, b⟩, ⟨c, d⟩⟩))) := ⟨by
  refine spec_of1 Tryz.func122 Tryz.ntmps122 rfl rfl (fun M w0 => ?_)
  repeat' (first | refine stp ?_|refine v_spD (fun hc=>?_) (fun hc=>?_)|refine v_box (fun bb=>?_)|fail)
  all_goals refine v_out1 (Γk := []) Tryz.results122 ⟨?_, rfl⟩
  all_goals (first | (refine bD ?_; simp_all; done) | (refine bF ?_; simp_all; done) | (refine bT ?_; simp_all; done))⟩
abbrev goodItem (i : ApiItem) : Prop := Btw i.Node 0 20 ∧ i.From ≠ i.Node ∧ Blw i.Node i.From ∧ goodBox i.Box
instance item_pc (n f a b c d : Int) : PC Tryz.prog 120 #[.agg #[.int .i64 n, .int .i64 f, .int .i64 a, .int .i64 b, .int .i64 c, .int .i64 d]] (.bool (decide (goodItem ⟨n, f, ⟨⟨a, b⟩, ⟨c, d⟩⟩⟩))) := ⟨by
  refine spec_of1 Tryz.func120 Tryz.ntmps120 rfl rfl (fun M w0 => ?_)
  repeat' (first | refine stp ?_|refine v_spD (fun hc=>?_) (fun hc=>?_)|refine v_box (fun bb=>?_)|fail)
  all_goals refine v_out1 (Γk := []) Tryz.results120 ⟨?_, rfl⟩
  all_goals first | (first | (refine bD ?_; simp_all; done) | (refine bF ?_; simp_all; done) | (refine bT ?_; simp_all; done)) | exact bD ⟨fun h => ⟨by assumption, by assumption, by assumption, h⟩, fun h => h.2.2.2⟩⟩
theorem empty_s (e : Int) (v1 v2 v3 : Value) (s1 s2 s3 : Hp) (l1 l2 : List ApiSeat) (l3 : List ApiItem) (h1 : OwnS v1 162 ApiSeat 2 cvApiSeat l1 s1) (h2 : OwnS v2 162 ApiSeat 2 cvApiSeat l2 s2) (h3 : OwnS v3 62 ApiItem 6 cvApiItem l3 s3) (hb : l1.length + l2.length + l3.length < 4611686018427387904) :
    SX.Spec Tryz.prog 114 #[.agg #[.int .i64 e, v1, v2, v3]] [s1, s2, s3] [] fun r Γ => r = .bool (decide (e = 0 ∧ l1 = [] ∧ l2 = [] ∧ l3 = [])) ∧ Γ = [] := by
  refine spec_of1 Tryz.func114 Tryz.ntmps114 rfl rfl (fun M w0 => ?_)
  repeat' (first | refine stp ?_|refine v_spD (fun hc=>?_) (fun hc=>?_)|(refine v_yc ?_ ?_;omega)|refine v_box (fun bb=>?_)|fail)
  all_goals refine v_out1 (Γk := []) Tryz.results114 ⟨?_, rfl⟩
  · refine bD ?_
    rw [← List.length_eq_zero_iff, ← List.length_eq_zero_iff, ← List.length_eq_zero_iff]
    omega
  · exact bF fun h => hc h.1
instance : Fn1 Tryz.prog 120 := ⟨fun args w => by kernel_rfl⟩
theorem allSeat_s (v : Value) (s : Hp) (l : List ApiSeat) (m : Int) (h : AtS v 162 ApiSeat 2 cvApiSeat l s) :
    SX.Spec Tryz.prog 117 #[v, .int .i64 m, .func (.func 118) #[] #[]] [s] [] fun r Γ => r = .bool (decide ((∀ x ∈ l, goodSeat x) ∧ (l.length : Int) ≤ m)) ∧ Γ = [] := by
  refine spec_of3 Tryz.func117 Tryz.ntmps117 rfl rfl (fun M w0 => ?_)
  repeat' (first | refine stp ?_|refine v_spD (fun hc=>?_) (fun hc=>?_)|(refine v_yc ?_ ?_;omega)|refine v_alloc' (fun ba=>?_)|fail)
  refine v_lp [11] [0, 1, 2, 9, 10] (fun i : Nat => [.int .i64 i]) (fun i => []) (fun i => i ≤ l.length ∧ ∀ x ∈ l.take i, goodSeat x) (fun i => l.length - i) 0 (fun _ => rfl) rfl inferInstance ⟨Nat.zero_le _, by simp⟩ ?_
  rintro i ⟨hi, hg⟩
  (try dsimp only [zipE_c, zipE_n, List.cons_append, List.nil_append])
  repeat' (first | refine stp ?_|refine v_spD (fun hc=>?_) (fun hc=>?_)|(refine v_yc ?_ ?_;omega)|refine v_alloc' (fun ba=>?_)|fail)
  · refine v_callVR (seat_pc _ _).out ?_
    rintro r Γ' ⟨rfl, rfl⟩
    have hlt : i < l.length := by omega
    have hle := AtS.le h
    (try dsimp only [List.cons_append, List.nil_append])
    repeat' (first | refine stp ?_|refine v_spD (fun hc=>?_) (fun hc=>?_)|(refine v_yc ?_ ?_;omega)|refine v_alloc' (fun ba=>?_)|fail)
    · refine v_out1 (Γk := []) Tryz.results117 ⟨bF fun hh => hc (hh.1 _ (List.getElem_mem hlt)), rfl⟩
    · refine v_again (i + 1) ?_ rfl inferInstance ⟨hlt, ?_⟩
      · omega
      rw [List.take_succ_eq_append_getElem hlt]
      intro x hx
      rcases List.mem_append.1 hx with hx | hx
      · exact hg x hx
      · rw [List.mem_singleton.1 hx]; exact Decidable.not_not.1 hc
  · obtain rfl : i = l.length := by omega
    rw [List.take_length] at hg
    refine v_out1 (Γk := []) Tryz.results117 ⟨bD ⟨fun h => ⟨hg, h⟩, fun h => h.2⟩, rfl⟩
theorem allItem_s (v : Value) (s : Hp) (l : List ApiItem) (m : Int) (h : AtS v 62 ApiItem 6 cvApiItem l s) :
    SX.Spec Tryz.prog 119 #[v, .int .i64 m, .func (.func 120) #[] #[]] [s] [] fun r Γ => r = .bool (decide ((∀ x ∈ l, goodItem x) ∧ (l.length : Int) ≤ m)) ∧ Γ = [] := by
  refine spec_of3 Tryz.func119 Tryz.ntmps119 rfl rfl (fun M w0 => ?_)
  repeat' (first | refine stp ?_|refine v_spD (fun hc=>?_) (fun hc=>?_)|(refine v_yc ?_ ?_;omega)|refine v_alloc' (fun ba=>?_)|fail)
  refine v_lp [11] [0, 1, 2, 9, 10] (fun i : Nat => [.int .i64 i]) (fun i => []) (fun i => i ≤ l.length ∧ ∀ x ∈ l.take i, goodItem x) (fun i => l.length - i) 0 (fun _ => rfl) rfl inferInstance ⟨Nat.zero_le _, by simp⟩ ?_
  rintro i ⟨hi, hg⟩
  (try dsimp only [zipE_c, zipE_n, List.cons_append, List.nil_append])
  repeat' (first | refine stp ?_|refine v_spD (fun hc=>?_) (fun hc=>?_)|(refine v_yc ?_ ?_;omega)|refine v_alloc' (fun ba=>?_)|fail)
  · refine v_callVR (item_pc _ _ _ _ _ _).out ?_
    rintro r Γ' ⟨rfl, rfl⟩
    have hlt : i < l.length := by omega
    have hle := AtS.le h
    (try dsimp only [List.cons_append, List.nil_append])
    repeat' (first | refine stp ?_|refine v_spD (fun hc=>?_) (fun hc=>?_)|(refine v_yc ?_ ?_;omega)|refine v_alloc' (fun ba=>?_)|fail)
    · refine v_out1 (Γk := []) Tryz.results119 ⟨bF fun hh => hc (hh.1 _ (List.getElem_mem hlt)), rfl⟩
    · refine v_again (i + 1) ?_ rfl inferInstance ⟨hlt, ?_⟩
      · omega
      rw [List.take_succ_eq_append_getElem hlt]
      intro x hx
      rcases List.mem_append.1 hx with hx | hx
      · exact hg x hx
      · rw [List.mem_singleton.1 hx]; exact Decidable.not_not.1 hc
  · obtain rfl : i = l.length := by omega
    rw [List.take_length] at hg
    refine v_out1 (Γk := []) Tryz.results119 ⟨bD ⟨fun h => ⟨hg, h⟩, fun h => h.2⟩, rfl⟩
theorem allBox_s (v : Value) (s : Hp) (l : List ApiBox) (m : Int) (h : AtS v 30 ApiBox 4 cvApiBox l s) :
    SX.Spec Tryz.prog 121 #[v, .int .i64 m, .func (.func 122) #[] #[]] [s] [] fun r Γ => r = .bool (decide ((∀ x ∈ l, goodBox x) ∧ (l.length : Int) ≤ m)) ∧ Γ = [] := by
  refine spec_of3 Tryz.func121 Tryz.ntmps121 rfl rfl (fun M w0 => ?_)
  repeat' (first | refine stp ?_|refine v_spD (fun hc=>?_) (fun hc=>?_)|(refine v_yc ?_ ?_;omega)|refine v_alloc' (fun ba=>?_)|fail)
  refine v_lp [11] [0, 1, 2, 9, 10] (fun i : Nat => [.int .i64 i]) (fun i => []) (fun i => i ≤ l.length ∧ ∀ x ∈ l.take i, goodBox x) (fun i => l.length - i) 0 (fun _ => rfl) rfl inferInstance ⟨Nat.zero_le _, by simp⟩ ?_
  rintro i ⟨hi, hg⟩
  (try dsimp only [zipE_c, zipE_n, List.cons_append, List.nil_append])
  repeat' (first | refine stp ?_|refine v_spD (fun hc=>?_) (fun hc=>?_)|(refine v_yc ?_ ?_;omega)|refine v_alloc' (fun ba=>?_)|fail)
  · refine v_callVR (box_pc _ _ _ _).out ?_
    rintro r Γ' ⟨rfl, rfl⟩
    have hlt : i < l.length := by omega
    have hle := AtS.le h
    (try dsimp only [List.cons_append, List.nil_append])
    repeat' (first | refine stp ?_|refine v_spD (fun hc=>?_) (fun hc=>?_)|(refine v_yc ?_ ?_;omega)|refine v_alloc' (fun ba=>?_)|fail)
    · refine v_out1 (Γk := []) Tryz.results121 ⟨bF fun hh => hc (hh.1 _ (List.getElem_mem hlt)), rfl⟩
    · refine v_again (i + 1) ?_ rfl inferInstance ⟨hlt, ?_⟩
      · omega
      rw [List.take_succ_eq_append_getElem hlt]
      intro x hx
      rcases List.mem_append.1 hx with hx | hx
      · exact hg x hx
      · rw [List.mem_singleton.1 hx]; exact Decidable.not_not.1 hc
  · obtain rfl : i = l.length := by omega
    rw [List.take_length] at hg
    refine v_out1 (Γk := []) Tryz.results121 ⟨bD ⟨fun h => ⟨hg, h⟩, fun h => h.2⟩, rfl⟩
end Go.Proofs.YtdfoijfjlhjeaaaGreat

/- wire.reader: the reply and the sealed part. -/
namespace Go.Proofs.YtdfoijfjlhjeaaaGreat
open Go Go.SX Go.RowKit
set_option maxRecDepth 100000
set_option maxHeartbeats 0
set_option synthInstance.maxSize 100000
set_option synthInstance.maxHeartbeats 400000
abbrev k0 : ApiKey := ⟨0, 0⟩
abbrev b0 : ApiBox := ⟨k0, k0⟩
/-- the cells of a reply whose path is begun -/
@[reducible] def repC (a b c : Int) : List ApiBox → List Value
  | [] => [.int .i64 a, .int .i64 b, .int .i64 c, .int .i64 0, .int .i64 0, .int .i64 0, .int .i64 0, .int .i64 0, .int .i64 0, .int .i64 0, .int .i64 0, .int .i64 0, .int .i64 0, .int .i64 0, .int .i64 0]
  | [x] => [.int .i64 a, .int .i64 b, .int .i64 c, .int .i64 x.Under.Base, .int .i64 x.Under.Step, .int .i64 x.Load.Base, .int .i64 x.Load.Step, .int .i64 0, .int .i64 0, .int .i64 0, .int .i64 0, .int .i64 0, .int .i64 0, .int .i64 0, .int .i64 0]
  | [x, y] => [.int .i64 a, .int .i64 b, .int .i64 c, .int .i64 x.Under.Base, .int .i64 x.Under.Step, .int .i64 x.Load.Base, .int .i64 x.Load.Step, .int .i64 y.Under.Base, .int .i64 y.Under.Step, .int .i64 y.Load.Base, .int .i64 y.Load.Step, .int .i64 0, .int .i64 0, .int .i64 0, .int .i64 0]
  | x :: y :: z :: _ => [.int .i64 a, .int .i64 b, .int .i64 c, .int .i64 x.Under.Base, .int .i64 x.Under.Step, .int .i64 x.Load.Base, .int .i64 x.Load.Step, .int .i64 y.Under.Base, .int .i64 y.Under.Step, .int .i64 y.Load.Base, .int .i64 y.Load.Step, .int .i64 z.Under.Base, .int .i64 z.Under.Step, .int .i64 z.Load.Base, .int .i64 z.Load.Step]
structure RpG where
  x : Int
  y : Int
  z : Int
  b2 : Nat
  r : Hp
  bs : Bs
structure RpOk (b : Nat) (l : List UInt8) (bs : Bs) (g : RpG) : Prop where
  at' : RdAt b l g.r g.bs
  eq : rdReply bs = (rdList rdBox 3 g.bs).map fun z => (⟨g.x, g.y, g.z, z.1⟩, z.2)
structure RqG where
  xs : List ApiBox
  r : Hp
  bs : Bs
structure RqOk (b : Nat) (l : List UInt8) (bs1 : Bs) (g : RqG) : Prop where
  le : g.xs.length ≤ 3
  at' : RdAt b l g.r g.bs
  eq : rdList rdBox 3 bs1 = (rdList rdBox (3 - g.xs.length) g.bs).map fun z => (g.xs ++ z.1, z.2)
section
variable (b : Nat) (l : List UInt8) (hl : l.length ≤ 281474976710656)
include hl
theorem reply_s : RdS 129 b l rdReply (fun x v Γ => v = .agg (repC x.Who x.Slot x.Epoch x.Path).toArray ∧ Γ = []) [] := by
  rintro bs s hs
  refine spec_p1 Tryz.func129 Tryz.ntmps129 rfl rfl (fun M w0 => ?_)
  have hstop1 := @stopR Tryz.prog 1
  repeat' (first | refine stp ?_|(refine v_spT ?_ ?_;omega)|(refine v_spF ?_ ?_;omega)|(refine v_yc ?_ ?_;omega)|refine v_alloc' (fun ba=>?_)|refine v_box (fun bb=>?_)|refine ⟨?_,?_,?_⟩|refine ⟨?_,?_⟩|refine v_tValT (by decide +kernel) ?_|refine v_drawnK (id:=1) 8 pl129_1 (by kernel_rfl) ?_|fail)
  refine Stopped.go <| v_ctR 1 [3] [1, 2] (fun g : RpG => [pt g.b2]) (fun g => [g.r, [(g.b2, .cells (repC g.x g.y g.z []).toArray 45 (0, 0))], [(ba, .cells (repC 0 0 0 []).toArray 45 (0, 0))], [(bb, .cells #[pt b] 150 (0, 0))]]) (RpOk b l bs) (fun _ => rfl) ?_ ?_
  · refine v_drawn (id:=1) 8 pl129_1 [] [[(bb, .cells #[pt b] 150 (0, 0))]] (by kernel_rfl) ?_
    repeat' (first | refine stp ?_|(refine v_spT ?_ ?_;omega)|(refine v_spF ?_ ?_;omega)|(refine v_yc ?_ ?_;omega)|refine v_alloc' (fun ba=>?_)|refine v_box (fun bb=>?_)|refine ⟨?_,?_,?_⟩|refine ⟨?_,?_⟩|refine v_tValT (by decide +kernel) ?_|refine v_drawnK (id:=1) 8 pl129_1 (by kernel_rfl) ?_|fail)
    all_goals
      refine v_callP (num_s b l hl 8 (by decide) (by decide) bs s hs) (fun h => by simp [rdReply, rdMap, rdBind, h]) ?_
      rintro v Γ' ⟨x, bs1, s1, Γ1, hx, hs1, ⟨rfl, rfl⟩, rfl⟩
      (try dsimp only [List.cons_append, List.nil_append])
      repeat' (first | refine stp ?_|(refine v_spT ?_ ?_;omega)|(refine v_spF ?_ ?_;omega)|(refine v_yc ?_ ?_;omega)|refine v_alloc' (fun ba=>?_)|refine v_box (fun bb=>?_)|refine ⟨?_,?_,?_⟩|refine ⟨?_,?_⟩|refine v_tValT (by decide +kernel) ?_|refine v_drawnK (id:=1) 8 pl129_1 (by kernel_rfl) ?_|fail)
    all_goals
      refine v_callP (num_s b l hl 6 (by decide) (by decide) _ _ (by assumption)) (fun h => by simp [rdReply, rdMap, rdBind, hx, h]) ?_
      rintro v Γ' ⟨y, bs2, s2, Γ2, hy, hs2, ⟨rfl, rfl⟩, rfl⟩
      (try dsimp only [List.cons_append, List.nil_append])
      repeat' (first | refine stp ?_|(refine v_spT ?_ ?_;omega)|(refine v_spF ?_ ?_;omega)|(refine v_yc ?_ ?_;omega)|refine v_alloc' (fun ba=>?_)|refine v_box (fun bb=>?_)|refine ⟨?_,?_,?_⟩|refine ⟨?_,?_⟩|refine v_tValT (by decide +kernel) ?_|refine v_drawnK (id:=1) 8 pl129_1 (by kernel_rfl) ?_|fail)
    all_goals
      refine v_callP (num_s b l hl 8 (by decide) (by decide) _ _ hs2) (fun h => by simp [rdReply, rdMap, rdBind, hx, hy, h]) ?_
      rintro v2 Γ' ⟨z, bs3, s3, Γ3, hz, hs3, ⟨rfl, rfl⟩, rfl⟩
      (try dsimp only [List.cons_append, List.nil_append])
      repeat' (first | refine stp ?_|(refine v_spT ?_ ?_;omega)|(refine v_spF ?_ ?_;omega)|(refine v_yc ?_ ?_;omega)|refine v_alloc' (fun ba=>?_)|refine v_box (fun bb=>?_)|refine ⟨?_,?_,?_⟩|refine ⟨?_,?_⟩|refine v_tValT (by decide +kernel) ?_|refine v_drawnK (id:=1) 8 pl129_1 (by kernel_rfl) ?_|fail)
    all_goals
      refine v_here ⟨x, y, z, ba, s3, bs3⟩ rfl inferInstance ⟨hs3, ?_⟩
      dsimp only
      simp only [rdReply, rdMap, rdBind, hx, hy, hz]
      cases rdList rdBox 3 bs3 <;> rfl
  rintro ⟨x, y, z, b2, sr, bs4⟩ ⟨h3, h4⟩
  dsimp only at h3 h4 ⊢
  (try dsimp only [zipE_c, zipE_n, List.cons_append, List.nil_append])
  repeat' (first | refine stp ?_|(refine v_spT ?_ ?_;omega)|(refine v_spF ?_ ?_;omega)|(refine v_yc ?_ ?_;omega)|refine v_alloc' (fun ba=>?_)|refine v_box (fun bb=>?_)|refine ⟨?_,?_,?_⟩|refine ⟨?_,?_⟩|refine v_tValT (by decide +kernel) ?_|refine v_drawnK (id:=1) 8 pl129_1 (by kernel_rfl) ?_|fail)
  refine v_lp [12] [1, 2, 3] (fun g : RqG => [.int .i64 g.xs.length]) (fun g => [g.r, [(b2, .cells (repC x y z g.xs).toArray 45 (0, 0))], [(ba, .cells (repC 0 0 0 []).toArray 45 (0, 0))], [(bb, .cells #[pt b] 150 (0, 0))]]) (RqOk b l bs4) (fun g => 3 - g.xs.length) ⟨[], sr, bs4⟩ (fun _ => rfl) rfl inferInstance ⟨Nat.zero_le _, h3, by cases rdList rdBox 3 bs4 <;> rfl⟩ ?_
  clear h3
  rintro ⟨xs, sr, bsr⟩ ⟨hi, hs1, hr⟩
  dsimp only at hi hs1 hr ⊢
  match xs, hi, hr with
  | [], _, hr =>
    replace hr : rdList rdBox 3 bs4 = (rdList rdBox (2 + 1) bsr).map fun z => ([] ++ z.1, z.2) := hr
    (try dsimp only [zipE_c, zipE_n, List.cons_append, List.nil_append])
    rw [show (([] : List ApiBox).length : Int) = 0 from rfl]
    simp only [repC]
    repeat' (first | refine stp ?_|(refine v_spT ?_ ?_;omega)|(refine v_spF ?_ ?_;omega)|(refine v_yc ?_ ?_;omega)|refine v_alloc' (fun ba=>?_)|refine v_box (fun bb=>?_)|refine ⟨?_,?_,?_⟩|refine ⟨?_,?_⟩|refine v_tValT (by decide +kernel) ?_|refine v_drawnK (id:=1) 8 pl129_1 (by kernel_rfl) ?_|fail)
    refine v_callP (box_s b l hl bsr sr hs1) (fun h => by rw [h4, hr, rdList_none h]; rfl) ?_
    rintro u Γ' ⟨o, bs5, s5, Γ1, e5, hs5, ⟨rfl, rfl⟩, rfl⟩
    (try dsimp only [List.cons_append, List.nil_append])
    repeat' (first | refine stp ?_|(refine v_spT ?_ ?_;omega)|(refine v_spF ?_ ?_;omega)|(refine v_yc ?_ ?_;omega)|refine v_alloc' (fun ba=>?_)|refine v_box (fun bb=>?_)|refine ⟨?_,?_,?_⟩|refine ⟨?_,?_⟩|refine v_tValT (by decide +kernel) ?_|refine v_drawnK (id:=1) 8 pl129_1 (by kernel_rfl) ?_|fail)
    rw [show 3 + Int.toNat 0 * 4 = 3 from rfl]
    repeat' (first | refine stp ?_|(refine v_spT ?_ ?_;omega)|(refine v_spF ?_ ?_;omega)|(refine v_yc ?_ ?_;omega)|refine v_alloc' (fun ba=>?_)|refine v_box (fun bb=>?_)|refine ⟨?_,?_,?_⟩|refine ⟨?_,?_⟩|refine v_tValT (by decide +kernel) ?_|refine v_drawnK (id:=1) 8 pl129_1 (by kernel_rfl) ?_|fail)
    refine v_again ⟨[o], s5, bs5⟩ (by dsimp only [List.length_cons, List.length_nil]; omega) rfl inferInstance ⟨by dsimp only [List.length_cons, List.length_nil]; omega, hs5, ?_⟩
    rw [hr, rdList_some e5]
    show _ = (rdList rdBox 2 bs5).map _
    cases rdList rdBox 2 bs5 <;> simp
  | [p], _, hr =>
    replace hr : rdList rdBox 3 bs4 = (rdList rdBox (1 + 1) bsr).map fun z => ([p] ++ z.1, z.2) := hr
    (try dsimp only [zipE_c, zipE_n, List.cons_append, List.nil_append])
    rw [show (([p] : List ApiBox).length : Int) = 1 from rfl]
    simp only [repC]
    repeat' (first | refine stp ?_|(refine v_spT ?_ ?_;omega)|(refine v_spF ?_ ?_;omega)|(refine v_yc ?_ ?_;omega)|refine v_alloc' (fun ba=>?_)|refine v_box (fun bb=>?_)|refine ⟨?_,?_,?_⟩|refine ⟨?_,?_⟩|refine v_tValT (by decide +kernel) ?_|refine v_drawnK (id:=1) 8 pl129_1 (by kernel_rfl) ?_|fail)
    refine v_callP (box_s b l hl bsr sr hs1) (fun h => by rw [h4, hr, rdList_none h]; rfl) ?_
    rintro u Γ' ⟨o, bs5, s5, Γ1, e5, hs5, ⟨rfl, rfl⟩, rfl⟩
    (try dsimp only [List.cons_append, List.nil_append])
    repeat' (first | refine stp ?_|(refine v_spT ?_ ?_;omega)|(refine v_spF ?_ ?_;omega)|(refine v_yc ?_ ?_;omega)|refine v_alloc' (fun ba=>?_)|refine v_box (fun bb=>?_)|refine ⟨?_,?_,?_⟩|refine ⟨?_,?_⟩|refine v_tValT (by decide +kernel) ?_|refine v_drawnK (id:=1) 8 pl129_1 (by kernel_rfl) ?_|fail)
    rw [show 3 + Int.toNat 1 * 4 = 7 from rfl]
    repeat' (first | refine stp ?_|(refine v_spT ?_ ?_;omega)|(refine v_spF ?_ ?_;omega)|(refine v_yc ?_ ?_;omega)|refine v_alloc' (fun ba=>?_)|refine v_box (fun bb=>?_)|refine ⟨?_,?_,?_⟩|refine ⟨?_,?_⟩|refine v_tValT (by decide +kernel) ?_|refine v_drawnK (id:=1) 8 pl129_1 (by kernel_rfl) ?_|fail)
    refine v_again ⟨[p, o], s5, bs5⟩ (by dsimp only [List.length_cons, List.length_nil]; omega) rfl inferInstance ⟨by dsimp only [List.length_cons, List.length_nil]; omega, hs5, ?_⟩
    rw [hr, rdList_some e5]
    show _ = (rdList rdBox 1 bs5).map _
    cases rdList rdBox 1 bs5 <;> simp
  | [p, q], _, hr =>
    replace hr : rdList rdBox 3 bs4 = (rdList rdBox (0 + 1) bsr).map fun z => ([p, q] ++ z.1, z.2) := hr
    (try dsimp only [zipE_c, zipE_n, List.cons_append, List.nil_append])
    rw [show (([p, q] : List ApiBox).length : Int) = 2 from rfl]
    simp only [repC]
    repeat' (first | refine stp ?_|(refine v_spT ?_ ?_;omega)|(refine v_spF ?_ ?_;omega)|(refine v_yc ?_ ?_;omega)|refine v_alloc' (fun ba=>?_)|refine v_box (fun bb=>?_)|refine ⟨?_,?_,?_⟩|refine ⟨?_,?_⟩|refine v_tValT (by decide +kernel) ?_|refine v_drawnK (id:=1) 8 pl129_1 (by kernel_rfl) ?_|fail)
    refine v_callP (box_s b l hl bsr sr hs1) (fun h => by rw [h4, hr, rdList_none h]; rfl) ?_
    rintro u Γ' ⟨o, bs5, s5, Γ1, e5, hs5, ⟨rfl, rfl⟩, rfl⟩
    (try dsimp only [List.cons_append, List.nil_append])
    repeat' (first | refine stp ?_|(refine v_spT ?_ ?_;omega)|(refine v_spF ?_ ?_;omega)|(refine v_yc ?_ ?_;omega)|refine v_alloc' (fun ba=>?_)|refine v_box (fun bb=>?_)|refine ⟨?_,?_,?_⟩|refine ⟨?_,?_⟩|refine v_tValT (by decide +kernel) ?_|refine v_drawnK (id:=1) 8 pl129_1 (by kernel_rfl) ?_|fail)
    rw [show 3 + Int.toNat 2 * 4 = 11 from rfl]
    repeat' (first | refine stp ?_|(refine v_spT ?_ ?_;omega)|(refine v_spF ?_ ?_;omega)|(refine v_yc ?_ ?_;omega)|refine v_alloc' (fun ba=>?_)|refine v_box (fun bb=>?_)|refine ⟨?_,?_,?_⟩|refine ⟨?_,?_⟩|refine v_tValT (by decide +kernel) ?_|refine v_drawnK (id:=1) 8 pl129_1 (by kernel_rfl) ?_|fail)
    refine v_again ⟨[p, q, o], s5, bs5⟩ (by dsimp only [List.length_cons, List.length_nil]; omega) rfl inferInstance ⟨by dsimp only [List.length_cons, List.length_nil]; omega, hs5, ?_⟩
    rw [hr, rdList_some e5]
    show _ = (rdList rdBox 0 bs5).map _
    cases rdList rdBox 0 bs5 <;> simp
  | [p, q, o], _, hr =>
    replace hr : rdList rdBox 3 bs4 = (rdList rdBox 0 bsr).map fun z => ([p, q, o] ++ z.1, z.2) := hr
    (try dsimp only [zipE_c, zipE_n, List.cons_append, List.nil_append])
    rw [show (([p, q, o] : List ApiBox).length : Int) = 3 from rfl]
    simp only [repC]
    repeat' (first | refine stp ?_|(refine v_spT ?_ ?_;omega)|(refine v_spF ?_ ?_;omega)|(refine v_yc ?_ ?_;omega)|refine v_alloc' (fun ba=>?_)|refine v_box (fun bb=>?_)|refine ⟨?_,?_,?_⟩|refine ⟨?_,?_⟩|refine v_tValT (by decide +kernel) ?_|refine v_drawnK (id:=1) 8 pl129_1 (by kernel_rfl) ?_|fail)
    have hfin : rdReply bs = some (⟨x, y, z, [p, q, o]⟩, bsr) := by rw [h4, hr]; simp [rdList]
    exact v_retP (v_o1 Tryz.results129 ⟨_, _, _, _, hfin, hs1, ⟨rfl, rfl⟩, rfl⟩ ⟨_, inferInstance⟩)
  | p :: q :: o :: r :: t, hi, _ => exact absurd hi (by simp only [List.length_cons]; omega)
end
end Go.Proofs.YtdfoijfjlhjeaaaGreat

/- Messages, in plain Lean: what a message says, what it is written as. -/
namespace Go.Proofs.YtdfoijfjlhjeaaaGreat
open Go Go.SX Go.RowKit
/-- what is read: one of four parts -/
inductive Body where
  | rekey (r : RekeyM)
  | request (who epoch : Int)
  | reply (p : ReplyM)
  | sealed (s : SealedM)
def rdReq : Rd (Int × Int) := rdBind (rdNum 8) fun x => rdMap (rdNum 8) fun y => (x, y)
def rdPart (k : Int) : Rd Body :=
  if k = 1 then rdMap rdRekey .rekey else if k = 2 then rdMap rdReq fun z => .request z.1 z.2 else if k = 3 then rdMap rdReply .reply else rdMap rdSealed .sealed
def rdBody : Rd Body := rdBind (rdNum 2) fun n => rdPart (n + 1)
def wBody : Body → Bs
  | .rekey r => wNum 2 0 ++ wRekey r
  | .request w e => wNum 2 1 ++ (wNum 8 w ++ wNum 8 e)
  | .reply p => wNum 2 2 ++ wReply p
  | .sealed s => wNum 2 3 ++ wSealed s
def okB : Body → Prop
  | .rekey r => ((okN 8 r.Epoch ∧ okN 7 r.Leaves.length ∧ ∀ x ∈ r.Leaves, okN 8 x.Who ∧ okN 6 x.Slot) ∧ okN 7 r.Joins.length ∧ ∀ x ∈ r.Joins, okN 8 x.Who ∧ okN 6 x.Slot) ∧ okN 11 r.Items.length ∧ ∀ k ∈ r.Items, (okN 5 k.Node ∧ okN 7 k.From) ∧ (okN 16 k.Box.Under.Base ∧ okN 8 k.Box.Under.Step) ∧ okN 16 k.Box.Load.Base ∧ okN 8 k.Box.Load.Step
  | .request w e => okN 8 w ∧ okN 8 e
  | .reply r => ((okN 8 r.Who ∧ okN 6 r.Slot) ∧ okN 8 r.Epoch) ∧ r.Path.length = 3 ∧ ∀ k ∈ r.Path, (okN 16 k.Under.Base ∧ okN 8 k.Under.Step) ∧ okN 16 k.Load.Base ∧ okN 8 k.Load.Step
  | .sealed r => (okN 8 r.Epoch ∧ okN 16 r.Under.Base ∧ okN 8 r.Under.Step) ∧ okN 7 r.Text.length ∧ ∀ x ∈ r.Text, True
theorem reqC : Codec rdReq (fun z => wNum 8 z.1 ++ wNum 8 z.2) (fun z => okN 8 z.1 ∧ okN 8 z.2) := pairC (numC 8) (numC 8)
theorem rdMap_back {α β : Type} {p : Rd α} {f : α → β} {b r : Bs} {x : α} (h : p b = some (x, r)) : rdMap p f b = some (f x, r) := by unfold rdMap rdBind; rw [h]
theorem rdMap_some {α β : Type} {p : Rd α} {f : α → β} {b r : Bs} {y : β} (h : rdMap p f b = some (y, r)) : ∃ x, p b = some (x, r) ∧ y = f x := by
  unfold rdMap rdBind at h
  cases hp : p b with
  | none => rw [hp] at h; cases h
  | some z =>
    obtain ⟨x, r'⟩ := z
    rw [hp] at h
    simp only [Option.some.injEq, Prod.mk.injEq] at h
    obtain ⟨rfl, rfl⟩ := h
    exact ⟨x, rfl, rfl⟩
theorem num2 (k : Int) (h : 0 ≤ k) (h2 : k < 4) (r : Bs) : rdNum 2 (wNum 2 k ++ r) = some (k, r) := (numC 2).back k r ⟨h, h2⟩
theorem rdPart1 : rdPart 1 = rdMap rdRekey .rekey := by unfold rdPart; rw [if_pos rfl]
theorem rdPart2 : rdPart 2 = rdMap rdReq fun z => .request z.1 z.2 := by unfold rdPart; rw [if_neg (by decide), if_pos rfl]
theorem rdPart3 : rdPart 3 = rdMap rdReply .reply := by unfold rdPart; rw [if_neg (by decide), if_neg (by decide), if_pos rfl]
theorem rdPart4 : rdPart 4 = rdMap rdSealed .sealed := by unfold rdPart; rw [if_neg (by decide), if_neg (by decide), if_neg (by decide)]
theorem rdBody_cons {k : Int} (h : 0 ≤ k) (h2 : k < 4) (r : Bs) : rdBody (wNum 2 k ++ r) = rdPart (k + 1) r := by
  unfold rdBody rdBind; rw [num2 k h h2]
theorem bodyC : Codec rdBody wBody okB where
  back b r h := by
    cases b with
    | rekey x => show rdBody (wNum 2 0 ++ wRekey x ++ r) = _
                 rw [List.append_assoc, rdBody_cons (by decide) (by decide), show (0 : Int) + 1 = 1 from rfl, rdPart1]; exact rdMap_back (rekeyC.back _ _ h)
    | request x y => show rdBody (wNum 2 1 ++ (wNum 8 x ++ wNum 8 y) ++ r) = _
                     rw [List.append_assoc, rdBody_cons (by decide) (by decide), show (1 : Int) + 1 = 2 from rfl, rdPart2]; exact rdMap_back (f := fun z => Body.request z.1 z.2) (reqC.back (x, y) r h)
    | reply x => show rdBody (wNum 2 2 ++ wReply x ++ r) = _
                 rw [List.append_assoc, rdBody_cons (by decide) (by decide), show (2 : Int) + 1 = 3 from rfl, rdPart3]; exact rdMap_back (replyC.back _ _ h)
    | «sealed» x => show rdBody (wNum 2 3 ++ wSealed x ++ r) = _
                    rw [List.append_assoc, rdBody_cons (by decide) (by decide), show (3 : Int) + 1 = 4 from rfl, rdPart4]; exact rdMap_back (sealedC.back _ _ h)
  forth b x r h := by
    unfold rdBody rdBind at h
    cases hp : rdNum 2 b with
    | none => rw [hp] at h; cases h
    | some z =>
      obtain ⟨n, r'⟩ := z
      rw [hp] at h
      obtain ⟨e, h1, h2⟩ := (numC 2).forth _ _ _ hp
      have h4 : (2 : Int) ^ 2 = 4 := rfl
      simp only [rdPart] at h
      split at h
      · obtain ⟨y, hy, rfl⟩ := rdMap_some h
        obtain ⟨e2, o⟩ := rekeyC.forth _ _ _ hy
        obtain rfl : n = 0 := by omega
        exact ⟨by rw [e, e2]; simp only [wBody, List.append_assoc], o⟩
      split at h
      · obtain ⟨y, hy, rfl⟩ := rdMap_some h
        obtain ⟨e2, o⟩ := reqC.forth _ _ _ hy
        obtain rfl : n = 1 := by omega
        exact ⟨by rw [e, e2]; simp only [wBody, List.append_assoc], o⟩
      split at h
      · obtain ⟨y, hy, rfl⟩ := rdMap_some h
        obtain ⟨e2, o⟩ := replyC.forth _ _ _ hy
        obtain rfl : n = 2 := by omega
        exact ⟨by rw [e, e2]; simp only [wBody, List.append_assoc], o⟩
      · obtain ⟨y, hy, rfl⟩ := rdMap_some h
        obtain ⟨e2, o⟩ := sealedC.forth _ _ _ hy
        obtain rfl : n = 3 := by omega
        exact ⟨by rw [e, e2]; simp only [wBody, List.append_assoc], o⟩
/-! ### messages -/
structure MsgM where
  Kind : Int
  Rekey : RekeyM
  Who : Int
  Epoch : Int
  Reply : ReplyM
  Sealed : SealedM
abbrev rk0 : RekeyM := ⟨0, [], [], []⟩
abbrev rp0 : ReplyM := ⟨0, 0, 0, [b0, b0, b0]⟩
abbrev sl0 : SealedM := ⟨0, k0, []⟩
def Body.msg : Body → MsgM
  | .rekey r => ⟨1, r, 0, 0, rp0, sl0⟩
  | .request w e => ⟨2, rk0, w, e, rp0, sl0⟩
  | .reply p => ⟨3, rk0, 0, 0, p, sl0⟩
  | .sealed s => ⟨4, rk0, 0, 0, rp0, s⟩
def msg0 : MsgM := ⟨0, rk0, 0, 0, rp0, sl0⟩
abbrev msgC (k e : Int) (v1 v2 v3 : Value) (q1 q2 : Int) (a b c : Int) (x y z : ApiBox) (f : Int) (u : ApiKey) (t : List UInt8) : Array Value :=
  #[.int .i64 k, .int .i64 e, v1, v2, v3, .int .i64 q1, .int .i64 q2, .int .i64 a, .int .i64 b, .int .i64 c, .int .i64 x.Under.Base, .int .i64 x.Under.Step, .int .i64 x.Load.Base, .int .i64 x.Load.Step, .int .i64 y.Under.Base, .int .i64 y.Under.Step, .int .i64 y.Load.Base, .int .i64 y.Load.Step, .int .i64 z.Under.Base, .int .i64 z.Under.Step, .int .i64 z.Load.Base, .int .i64 z.Load.Step, .int .i64 f, .int .i64 u.Base, .int .i64 u.Step, str t]
/-- the cells of a message -/
def MsgC (m : MsgM) (v1 v2 v3 : Value) (cs : Array Value) : Prop := ∃ x y z, m.Reply.Path = [x, y, z] ∧ cs = msgC m.Kind m.Rekey.Epoch v1 v2 v3 m.Who m.Epoch m.Reply.Who m.Reply.Slot m.Reply.Epoch x y z m.Sealed.Epoch m.Sealed.Under m.Sealed.Text
/-- a message, own -/
def MsgO (m : MsgM) (cs : Array Value) (Γ : List Hp) : Prop := ∃ v1 s1 v2 s2 v3 s3, MsgC m v1 v2 v3 cs ∧ OwnS v1 162 ApiSeat 2 cvApiSeat m.Rekey.Leaves s1 ∧ OwnS v2 162 ApiSeat 2 cvApiSeat m.Rekey.Joins s2 ∧ OwnS v3 62 ApiItem 6 cvApiItem m.Rekey.Items s3 ∧ Γ = [s1, s2, s3]
end Go.Proofs.YtdfoijfjlhjeaaaGreat

/- Symbolic execution: arrays as lists. -/
namespace Go.SX
set_option linter.unusedSimpArgs false
set_option linter.unusedVariables false
open Go Go.RowKit
/-- the array in block b, as a slice of its own -/
def arr (b n : Nat) : Value := .slice (some ⟨b, 0, none⟩) n n
class LenIs {α : Type} (l : List α) (n : outParam Nat) : Prop where
  out : l.length = n
instance lenSet {α : Type} (l : List α) (i : Nat) (x : α) (n : Nat) [h : LenIs l n] : LenIs (l.set i x) n := ⟨by rw [List.length_set]; exact h.out⟩
instance lenRep {α : Type} (n : Nat) (x : α) : LenIs (List.replicate n x) n := ⟨List.length_replicate⟩
instance isCastL (m : Nat) : IsCast (@OfNat.ofNat Int m (@instOfNat m)) m := ⟨rfl⟩
section
variable {P : Program} {C : Cx} {R : List Hp} {n : Nat} {all : Array Oper} {Q : Exit → Act → World → Prop} {L : Env} {Γ : List Hp} {rest : List Oper} {w : World} {K : Act → World → Prop} {e sz : Nat} {α : Type} {cv : α → List Value} {av : α → Value} {l : List α} {s : Hp} {b m : Nat}
theorem OwnS.arr {T : Nat} (hE : ∀ x, (cv x).length = sz) (hl : l.length = m) (hm : m ≤ maxLen) : OwnS (arr b m) e α sz cv l [(b, .cells (cvs cv l).toArray T (0, 0))] := by
  have := OwnS.litA (e := e) (sz := sz) (cv := cv) (b := b) (eb := T) (cs := (cvs cv l).toArray) m l (by simp) (by simp [cvs_len hE, hl]) hm hl
  exact this
/-- what an array's variable holds -/
theorem arr_cells (hs : AtS (arr b m) e α sz cv l s) : l.length = m ∧ (m = 0 ∨ ∃ cur et fr, s = [(b, .cells cur et fr)] ∧ m ≤ maxLen ∧ m * sz ≤ cur.size ∧ cur.toList.take (m * sz) = cvs cv l) := by
  rcases hs.out.2 with ⟨h | ⟨a, c, h⟩, h0⟩ | ⟨b', off, cap, cur, et, fr, h, rfl, h1, h2, h3, h4⟩
  · simp [arr] at h
  · simp [arr] at h; omega
  · simp only [arr, Value.slice.injEq, Option.some.injEq, Addr.mk.injEq] at h
    obtain ⟨⟨rfl, rfl, _⟩, rfl, rfl⟩ := h
    refine ⟨rfl, .inr ⟨cur, et, fr, rfl, h2, by simpa using h3, by simpa using h4⟩⟩
theorem arr_len (hs : AtS (arr b m) e α sz cv l s) : l.length = m := (arr_cells hs).1
/-! ### variables -/
theorem v_boxA {d T : Nat} {x : Operand} {ty : TypeId} {pos : String} {af : Array Edge} [hx : Ev L x (.agg (cvs cv l).toArray)] [ht : Und P T (.array m e)] [hE : ElT P e α sz cv av] [hl : LenIs l m] [hm : Is (Nat.ble m 1000000 = true)] [hd : Is (Nat.ble n d = false)]
    (h : ∀ b s, OwnS (arr b m) e α sz cv l s → VK C R n ((d, .pointer (some ⟨b, 0, none⟩)) :: L) (s :: Γ) K) : VK C R n L Γ (wp1 P all Q ⟨some d, .box T x, ty, pos, af, none⟩ K) :=
  v_box fun b => h b _ (OwnS.arr hE.len hl.out (by have := Nat.le_of_ble_eq_true hm.out; unfold maxLen; omega))
/-- the zero of an array -/
class ZrA (P : Program) (T : TypeId) (m : outParam Nat) (e : outParam Nat) (α : outParam Type) (sz : outParam Nat) (cv : outParam (α → List Value)) (z : outParam α) : Prop where
  und : P.underlying T = some (.array m e)
  zr : ∀ w, (zeroValue T).run P w = .ok (.agg (cvs cv (List.replicate m z)).toArray) w
  le : m ≤ maxLen
theorem v_allocA {d T : Nat} {z : α} {ty : TypeId} {pos : String} {af : Array Edge} [ht : ZrA P T m e α sz cv z] [hE : ElT P e α sz cv av] [hd : Is (Nat.ble n d = false)]
    (h : ∀ b s, OwnS (arr b m) e α sz cv (List.replicate m z) s → VK C R n ((d, .pointer (some ⟨b, 0, none⟩)) :: L) (s :: Γ) K) : VK C R n L Γ (wp1 P all Q ⟨some d, .alloc T, ty, pos, af, none⟩ K) :=
  v_alloc (hz := ⟨ht.zr⟩) fun b => h b _ (OwnS.arr hE.len List.length_replicate ht.le)
/-! ### elements -/
instance (priority := high) ycIdxAr {T j : Nat} {x ix : Operand} {k : IntKind} {i : Int} [hx : Ev L x (.pointer (some ⟨b, 0, none⟩))] [hi : Ev L ix (.int k i)] [hj : IsCast i j] [ht : Und P T (.array m e)] [hs : AtS (arr b m) e α sz cv l s] [hz : Sz P e sz] : YC P R L Γ (.indexAddr T x ix) (j < l.length) (fun _ => .pointer (some ⟨slb (arr b m), slo (arr b m) + j * sz, none⟩)) := ⟨fun h => by
  have hl := arr_len hs
  have hjo := hj.out
  have := y_idxA (P := P) (R := R) (L := L) (Γ := Γ) (T := T) (x := x) (ix := ix) (k := k) (i := i) (e := e) (sz := sz) (b := b) (off := 0) (m := m) (by omega) (by omega)
  have e1 : i.toNat = j := by omega
  rw [e1] at this
  exact this⟩
instance ycIdxArC {T : Nat} {x ix : Operand} {k : IntKind} {i : Int} [hx : Ev L x (.pointer (some ⟨b, 0, none⟩))] [hi : Ev L ix (.int k i)] [ht : Und P T (.array m e)] [hs : AtS (arr b m) e α sz cv l s] [hz : Sz P e sz] : YC P R L Γ (.indexAddr T x ix) (0 ≤ i ∧ i < (l.length : Int)) (fun _ => .pointer (some ⟨slb (arr b m), slo (arr b m) + i.toNat * sz, none⟩)) := ⟨fun h => by
  have hl := arr_len hs
  exact y_idxA (P := P) (R := R) (L := L) (Γ := Γ) (T := T) (x := x) (ix := ix) (k := k) (i := i) (e := e) (sz := sz) (b := b) (off := 0) (m := m) (by omega) (by omega)⟩
/-- an element of an array's value -/
class PtE (P : Program) (e : TypeId) (α : Type) (sz : Nat) (cv : α → List Value) (av : α → Value) : Prop where
  out : ∀ (l : List α) (j : Nat) (h : j < l.length) (w : World), (part e (cvs cv l).toArray (j * sz)).run P w = .ok (av l[j]) w
theorem PtE.agg (hE : ∀ x, (cv x).length = sz) (ha : Ag P e sz) : PtE P e α sz cv (fun x => .agg (cv x).toArray) := ⟨fun l j h w => by
  have hg := cvs_get hE l j l[j] (List.getElem?_eq_getElem h)
  simp only [part, Sem.run_bind, ha.out.1, Result.andThen_ok, if_true, ha.out.2, Sem.run_pure]
  congr 2
  apply Array.ext'
  simp only [Array.toList_extract, List.toList_toArray]
  rw [← hg]
  simp [List.extract_eq_take_drop]⟩
theorem PtE.sc {f : α → Value} (ha : Sc P e) : PtE P e α 1 (fun x => [f x]) f := ⟨fun l j h w => by
  have hg := cvs_get (cv := fun x => [f x]) (sz := 1) (fun _ => rfl) l j l[j] (List.getElem?_eq_getElem h)
  have h2 : (cvs (fun x => [f x]) l)[j]? = some (f l[j]) := by
    have := congrArg (·[0]?) hg
    simpa [List.getElem?_take, List.getElem?_drop] using this
  obtain ⟨h4, h5⟩ := List.getElem?_eq_some_iff.1 h2
  simp [part, ha.out, h4, h5]⟩
instance (priority := high) ycIndexAr {T j : Nat} {x ix : Operand} {k : IntKind} {i : Int} [hx : Ev L x (.agg (cvs cv l).toArray)] [hi : Ev L ix (.int k i)] [hj : IsCast i j] [ht : Und P T (.array m e)] [hE : ElT P e α sz cv av] [hp : PtE P e α sz cv av] [hl : LenIs l m] [hz : Sz P e sz] : YC P R L Γ (.index T x ix) (j < l.length) (fun h => av l[j]) := ⟨fun h => ⟨fun C n a w _ _ _ _ _ kn iv => by
  have hjo := hj.out
  subst hjo
  have hll := hl.out
  have h1 : ((j : Int)) < (m : Int) := by omega
  have h0 : (0 : Int) ≤ (j : Int) := by omega
  have := hp.out l j h w
  simp only [execOp, hx.out n a kn, hi.out n a kn, Instr.index, asIntOf, underlying, Sem.run_bind, Sem.run_pure, Result.andThen_ok, run_program, ht.out, h0, h1, and_self, if_true, hz.out, Int.toNat_natCast, this]⟩⟩
/-! ### whole arrays -/
theorem run_loadA {T k : Nat} (hs : AtS (arr b m) e α sz cv l s) (ha : Ag P T k) (hk : k = m * sz) (hE : ∀ x, (cv x).length = sz) (hw : ∀ x ∈ s, w.heap[x.1]? = some x.2) : (loadVar T ⟨b, 0, none⟩).run P w = .ok (.agg (cvs cv l).toArray) w := by
  obtain ⟨hl, h⟩ := arr_cells hs
  have hlen := cvs_len hE l
  refine loadCells_of ha (by rw [hlen, hl, hk]) fun j u hu => ?_
  rcases h with rfl | ⟨cur, et, fr, rfl, _, h3, h4⟩
  · have : l = [] := List.eq_nil_of_length_eq_zero hl
    subst this; simp [cvs] at hu
  · rw [cell_of (hw (b, .cells cur et fr) (by simp)), ← hu, ← h4]
    have hj : j < (cvs cv l).length := (List.getElem?_eq_some_iff.1 hu).1
    rw [hlen, hl] at hj
    rw [List.getElem?_take, if_pos hj]; simp
instance (priority := high) yLoadA {T k : Nat} {p : Operand} [hp : Ev L p (.pointer (some ⟨b, 0, none⟩))] [ht : Und P T (.array m e)] [hs : AtS (arr b m) e α sz cv l s] [hg : Seg R Γ s] [hE : ElT P e α sz cv av] [ha : Ag P T k] [hk : Is (Nat.beq k (m * sz) = true)] : Y P R L Γ (.load T p) (.agg (cvs cv l).toArray) := ⟨fun C n a w _ _ _ _ _ kn iv => by
  have := run_loadA (P := P) (w := w) hs ha (Nat.eq_of_beq_eq_true hk.out) hE.len (hg.out C w iv)
  simp [execOp, hp.out n a kn, Instr.loadAt, Instr.sureAddr, this]⟩
instance (priority := high) resCellA {p T k : Nat} [hp : Lk L p (.pointer (some ⟨b, 0, none⟩))] [ht : Und P T (.array m e)] [hs : AtS (arr b m) e α sz cv l s] [hg : Seg R Γ s] [hE : ElT P e α sz cv av] [ha : Ag P T k] [hk : Is (Nat.beq k (m * sz) = true)] : Res P R L Γ (.cell p T) (.agg (cvs cv l).toArray) := ⟨fun C n a w kn iv => by
  have := run_loadA (P := P) (w := w) hs ha (Nat.eq_of_beq_eq_true hk.out) hE.len (hg.out C w iv)
  have hp' := (evTmp L p _).out n a kn
  simp only [Act.eval] at hp'
  simp [hp', asAddr, this]⟩
instance (priority := high) ySliceA {T : Nat} {p : Operand} [hp : Ev L p (.pointer (some ⟨b, 0, none⟩))] [ht : Und P T (.array m e)] [hs : AtS (arr b m) e α sz cv l s] [hz : Sz P e sz] : Y P R L Γ (.slice T p none none none) (arr b m) := ⟨fun C n a w _ _ _ _ _ kn iv => by
  have h0 : (if m = 0 then (⟨b, 0, none⟩ : Addr) else (⟨b, 0, none⟩ : Addr).add (0 * sz)) = ⟨b, 0, none⟩ := by split <;> simp [add_at]
  simp [execOp, Instr.sliceAt, hp.out n a kn, underlying, ht.out, Instr.sureAddr, asAddr, Instr.sliceBounds, hz.out, arr, add_at]⟩
/-- an array within a block, as a slice of what is there -/
instance ySliceOff {P : Program} {R Γ : List Hp} {L : Env} {T m e b off sz : Nat} {p : Operand} [hp : Ev L p (.pointer (some ⟨b, off, none⟩))] [ht : Und P T (.array m e)] [hz : Sz P e sz] : Y P R L Γ (.slice T p none none none) (.slice (some ⟨b, off, none⟩) m m) := ⟨fun C n a w _ _ _ _ _ kn iv => by
  have h0 : (if m = 0 then (⟨b, off, none⟩ : Addr) else (⟨b, off, none⟩ : Addr).add (0 * sz)) = ⟨b, off, none⟩ := by split <;> simp [Addr.add]
  simp [execOp, Instr.sliceAt, hp.out n a kn, underlying, ht.out, Instr.sureAddr, asAddr, Instr.sliceBounds, hz.out, Addr.add]⟩
theorem AtS.off {e : Nat} {α : Type} {sz : Nat} {cv : α → List Value} (l : List α) {b off m : Nat} {cur : Array Value} {et : Nat} {fr : Nat × Nat} (hE : ∀ x, (cv x).length = sz) (hl : l.length = m) (hm : m ≤ maxLen) (h0 : 0 < m * sz) (hc : (cur.toList.drop off).take (m * sz) = cvs cv l) : AtS (.slice (some ⟨b, off, none⟩) m m) e α sz cv l [(b, .cells cur et fr)] := ⟨by
  have hll := cvs_len hE l
  refine ⟨hll, .inr ⟨b, off, m, cur, et, fr, by rw [hl], rfl, by omega, hm, ?_, by rw [hl]; exact hc⟩⟩
  have := congrArg List.length hc
  rw [List.length_take, List.length_drop, hll, Array.length_toList] at this
  rw [hl] at this ⊢
  omega⟩
theorem v_storeA {T k : Nat} {x y : Operand} {l' : List α} {ty : TypeId} {pos : String} {af : Array Edge} {Γ' : List Hp} [hx : Ev L x (.pointer (some ⟨b, 0, none⟩))] [hy : Ev L y (.agg (cvs cv l').toArray)] [ht : Und P T (.array m e)] [hs : OwnS (arr b m) e α sz cv l s] [hE : ElT P e α sz cv av] [hz : Sz P T k] [hk : Is (Nat.beq k (m * sz) = true)] [hl : LenIs l' m] [hdel : Del Γ s Γ']
    (h : ∀ s', OwnS (arr b m) e α sz cv l' s' → VK C R n L (s' :: Γ') K) : VK C R n L Γ (wp1 P all Q ⟨none, .store T x y, ty, pos, af, none⟩ K) := VK.mk fun a w kn iv => wp1.mk (by
  have ip : Inv C R (s :: Γ') w := iv.perm (by simpa using hdel.out)
  have hk' := Nat.eq_of_beq_eq_true hk.out
  obtain ⟨hlen, ⟨h1, _⟩ | ⟨b', off, cap, cur, eb, h1, rfl, hnc, hcm, hsz, hcur⟩⟩ := hs.out
  · simp [arr] at h1
  · simp only [arr, Value.slice.injEq, Option.some.injEq, Addr.mk.injEq] at h1
    obtain ⟨⟨rfl, rfl, _⟩, hml, rfl⟩ := h1
    have hb := ip.own (b, .cells cur eb (0, 0)) (by simp)
    have hl' := cvs_len hE.len l'
    have hll := hl.out
    have hfit : 0 + (cvs cv l').length ≤ cur.size := by rw [hl', hll]; omega
    have hst := run_storeCells_at (P := P) b 0 eb (cvs cv l') 0 cur w hb (by simpa using hfit) (fun u hu => by
      obtain ⟨x, _, hx⟩ := List.mem_flatMap.1 hu
      exact hE.one x u hx)
    simp only [Nat.zero_add] at hst
    have hrun : (execOp a.eval ⟨none, .store T x y, ty, pos, af, none⟩).run P w = .ok .skip (w.setRow b (cvs cv l' ++ cur.toList.drop (cvs cv l').length).toArray) := by
      simp [execOp, Instr.storeAt, Instr.sureAddr, hx.out n a kn, hy.out n a kn, storeVar, Value.cells, hz.out, hl', hll, hk', hst]
    simp only [Region.wanted, if_true]
    refine .inl ?_
    simp only [Oper.wp, hrun, Oper.upon]
    refine (h [(b, .cells (cvs cv l' ++ cur.toList.drop (cvs cv l').length).toArray eb (0, 0))] ⟨?_⟩).out _ _ kn.putNone (ip.upd (updHere Γ' b (.cells cur eb (0, 0))) (setRow_heap w b cur _ eb (0, 0) hb) (fun j hj => setRow_other w b j _ hj) (by simp) rfl rfl rfl rfl)
    refine ⟨hl', .inr ⟨b, 0, m, _, eb, by simp [arr, hll], rfl, by omega, hcm, ?_, ?_⟩⟩
    · simp only [List.size_toArray, List.length_append, List.length_drop, Array.length_toList, hl', hll]; omega
    · rw [List.drop_zero, ← hl']; exact List.take_left)
/-! ### equality -/
theorem eqItems_of [DecidableEq α] {d : Nat} (hp : PtE P e α sz cv av) (he : ∀ x y, EqV P d e (av x) (av y) (x = y)) (l l' : List α) (w : World) : ∀ (is : List Nat), (∀ i ∈ is, i < l.length ∧ i < l'.length) → (Op.eqItems d e sz (cvs cv l).toArray (cvs cv l').toArray is).run P w = .ok (decide (∀ i ∈ is, l[i]? = l'[i]?)) w
  | [], _ => by simp [Op.eqItems]
  | i :: is, h => by
    obtain ⟨h1, h2⟩ := h i (by simp)
    have ih := eqItems_of hp he l l' w is fun j hj => h j (by simp [hj])
    simp only [Op.eqItems, Sem.run_bind, hp.out l i h1, hp.out l' i h2, he _ _ w, Result.andThen_ok]
    by_cases hc : l[i] = l'[i]
    · simp [hc, ih, List.getElem?_eq_getElem h1, List.getElem?_eq_getElem h2]
    · simp [hc, List.getElem?_eq_getElem h1, List.getElem?_eq_getElem h2]
theorem EqV.iff {d t : Nat} {x y : Value} {p q : Prop} [Decidable p] [Decidable q] (h : EqV P d t x y p) (hpq : p ↔ q) : EqV P d t x y q := fun w => by
  rw [h w]; congr 1; exact decide_eq_decide.2 hpq
theorem eqvArr [DecidableEq α] {d T : Nat} (hu : P.underlying T = some (.array m e)) (hi : (P.info? e).isSome = true) (hc : P.cellsOf e = sz) (hp : PtE P e α sz cv av) (he : ∀ x y, EqV P d e (av x) (av y) (x = y)) (l l' : List α) (h1 : l.length = m) (h2 : l'.length = m) : EqV P (d + 1) T (.agg (cvs cv l).toArray) (.agg (cvs cv l').toArray) (l = l') := fun w => by
  obtain ⟨i, hi⟩ := Option.isSome_iff_exists.1 hi
  rw [run_equalIn_array w d _ _ hu hi, hc, eqItems_of hp he l l' w (List.range m) (fun j hj => by rw [List.mem_range] at hj; omega)]
  congr 1
  refine decide_eq_decide.2 ⟨fun h => List.ext_getElem? fun j => ?_, fun h => by subst h; simp⟩
  rcases Nat.lt_or_ge j m with hj | hj
  · exact h j (List.mem_range.2 hj)
  · rw [List.getElem?_eq_none (by omega), List.getElem?_eq_none (by omega)]
end
end Go.SX

/- wire.Good. -/
namespace Go.Proofs.YtdfoijfjlhjeaaaGreat
open Go Go.SX Go.RowKit
set_option maxRecDepth 100000
set_option maxHeartbeats 0
set_option synthInstance.maxSize 100000
set_option synthInstance.maxHeartbeats 400000
theorem eqPath (d : Nat) (x y : List ApiBox) (h1 : x.length = 3) (h2 : y.length = 3) : EqV Tryz.prog (d + 4) 43 (.agg (cvs cvApiBox x).toArray) (.agg (cvs cvApiBox y).toArray) (x = y) :=
  eqvArr (sz := 4) Tryz.underlying43 (by kernel_rfl) (by kernel_rfl) (av := avApiBox) (PtE.agg (fun _ => rfl) inferInstance) (fun x y => EqV.iff (eqS30 d x.Under.Base x.Under.Step x.Load.Base x.Load.Step y.Under.Base y.Under.Step y.Load.Base y.Load.Step) (by simp [iff_ApiBox, iff_ApiKey])) x y h1 h2
abbrev zRp (a b c x1 x2 x3 x4 x5 x6 x7 x8 x9 x10 x11 x12 : Int) : Prop := a = 0 ∧ b = 0 ∧ c = 0 ∧ [(⟨⟨x1, x2⟩, ⟨x3, x4⟩⟩ : ApiBox), ⟨⟨x5, x6⟩, ⟨x7, x8⟩⟩, ⟨⟨x9, x10⟩, ⟨x11, x12⟩⟩] = [b0, b0, b0]
theorem eqRp (d : Nat) (a b c x1 x2 x3 x4 x5 x6 x7 x8 x9 x10 x11 x12 : Int) : EqV Tryz.prog (d + 5) 45 (.agg #[.int .i64 a, .int .i64 b, .int .i64 c, .int .i64 x1, .int .i64 x2, .int .i64 x3, .int .i64 x4, .int .i64 x5, .int .i64 x6, .int .i64 x7, .int .i64 x8, .int .i64 x9, .int .i64 x10, .int .i64 x11, .int .i64 x12]) (.agg #[.int .i64 0, .int .i64 0, .int .i64 0, .int .i64 0, .int .i64 0, .int .i64 0, .int .i64 0, .int .i64 0, .int .i64 0, .int .i64 0, .int .i64 0, .int .i64 0, .int .i64 0, .int .i64 0, .int .i64 0]) (zRp a b c x1 x2 x3 x4 x5 x6 x7 x8 x9 x10 x11 x12) :=
  eqvStruct Tryz.underlying45 (by kernel_rfl) (eqfCons (by rfl) (fun w => by kernel_rfl) (fun w => by kernel_rfl) (eqvInt Tryz.underlying3) (eqfCons (by rfl) (fun w => by kernel_rfl) (fun w => by kernel_rfl) (eqvInt Tryz.underlying3) (eqfCons (by rfl) (fun w => by kernel_rfl) (fun w => by kernel_rfl) (eqvInt Tryz.underlying3) (eqfLast (by rfl) (fun w => by kernel_rfl) (fun w => by kernel_rfl) (eqPath d [⟨⟨x1, x2⟩, ⟨x3, x4⟩⟩, ⟨⟨x5, x6⟩, ⟨x7, x8⟩⟩, ⟨⟨x9, x10⟩, ⟨x11, x12⟩⟩] [b0, b0, b0] rfl rfl)))))
instance (a b c x1 x2 x3 x4 x5 x6 x7 x8 x9 x10 x11 x12 : Int) : Bin Tryz.prog .neq 45 (.agg #[.int .i64 a, .int .i64 b, .int .i64 c, .int .i64 x1, .int .i64 x2, .int .i64 x3, .int .i64 x4, .int .i64 x5, .int .i64 x6, .int .i64 x7, .int .i64 x8, .int .i64 x9, .int .i64 x10, .int .i64 x11, .int .i64 x12]) (.agg #[.int .i64 0, .int .i64 0, .int .i64 0, .int .i64 0, .int .i64 0, .int .i64 0, .int .i64 0, .int .i64 0, .int .i64 0, .int .i64 0, .int .i64 0, .int .i64 0, .int .i64 0, .int .i64 0, .int .i64 0]) (.bool (decide ¬ (zRp a b c x1 x2 x3 x4 x5 x6 x7 x8 x9 x10 x11 x12))) := binNe (by kernel_rfl) (eqRp 9995 a b c x1 x2 x3 x4 x5 x6 x7 x8 x9 x10 x11 x12)
instance (a b c x1 x2 x3 x4 x5 x6 x7 x8 x9 x10 x11 x12 : Int) : Bin Tryz.prog .eql 45 (.agg #[.int .i64 a, .int .i64 b, .int .i64 c, .int .i64 x1, .int .i64 x2, .int .i64 x3, .int .i64 x4, .int .i64 x5, .int .i64 x6, .int .i64 x7, .int .i64 x8, .int .i64 x9, .int .i64 x10, .int .i64 x11, .int .i64 x12]) (.agg #[.int .i64 0, .int .i64 0, .int .i64 0, .int .i64 0, .int .i64 0, .int .i64 0, .int .i64 0, .int .i64 0, .int .i64 0, .int .i64 0, .int .i64 0, .int .i64 0, .int .i64 0, .int .i64 0, .int .i64 0]) (.bool (decide (zRp a b c x1 x2 x3 x4 x5 x6 x7 x8 x9 x10 x11 x12))) := binEq (by kernel_rfl) (eqRp 9995 a b c x1 x2 x3 x4 x5 x6 x7 x8 x9 x10 x11 x12)
abbrev goodRk (r : RekeyM) : Prop := Btw r.Epoch 1 200 ∧ ((∀ x ∈ r.Leaves, goodSeat x) ∧ (r.Leaves.length : Int) ≤ 64) ∧ ((∀ x ∈ r.Joins, goodSeat x) ∧ (r.Joins.length : Int) ≤ 64) ∧ (∀ x ∈ r.Items, goodItem x) ∧ (r.Items.length : Int) ≤ 1536
abbrev goodRq (w e : Int) : Prop := Btw w 0 255 ∧ Btw e 1 200
abbrev goodRp (p : ReplyM) : Prop := goodSeat ⟨p.Who, p.Slot⟩ ∧ Btw p.Epoch 1 200 ∧ ∀ x ∈ p.Path, goodBox x
abbrev goodSl (s : SealedM) : Prop := Btw s.Epoch 1 200 ∧ Gd s.Under.Base s.Under.Step ∧ (s.Text.length : Int) ≤ 64
abbrev noRk (r : RekeyM) : Prop := r.Epoch = 0 ∧ r.Leaves = [] ∧ r.Joins = [] ∧ r.Items = []
abbrev noRq (w e : Int) : Prop := w = 0 ∧ e = 0
abbrev noRp (p : ReplyM) : Prop := p.Who = 0 ∧ p.Slot = 0 ∧ p.Epoch = 0 ∧ p.Path = [b0, b0, b0]
abbrev noSl (s : SealedM) : Prop := s.Epoch = 0 ∧ (s.Under.Base = 0 ∧ s.Under.Step = 0) ∧ s.Text = []
def GoodM (m : MsgM) : Prop := (m.Kind = 1 ∧ goodRk m.Rekey ∧ noRq m.Who m.Epoch ∧ noRp m.Reply ∧ noSl m.Sealed) ∨ (m.Kind = 2 ∧ noRk m.Rekey ∧ goodRq m.Who m.Epoch ∧ noRp m.Reply ∧ noSl m.Sealed) ∨
  (m.Kind = 3 ∧ noRk m.Rekey ∧ noRq m.Who m.Epoch ∧ goodRp m.Reply ∧ noSl m.Sealed) ∨ (m.Kind = 4 ∧ noRk m.Rekey ∧ noRq m.Who m.Epoch ∧ noRp m.Reply ∧ goodSl m.Sealed)
instance (m : MsgM) : Decidable (GoodM m) := by unfold GoodM; infer_instance
theorem byteArr_nil (t : List UInt8) : (⟨t.toArray⟩ : ByteArray) = ⟨#[]⟩ ↔ t = [] := by
  constructor
  · intro h
    have := congrArg (fun b => b.data.toList) h
    simpa using this
  · rintro rfl; rfl
theorem good_m (m : MsgM) (v1 v2 v3 : Value) (s1 s2 s3 : Hp) (cs : Array Value) (hm : MsgC m v1 v2 v3 cs) (o1 : OwnS v1 162 ApiSeat 2 cvApiSeat m.Rekey.Leaves s1) (o2 : OwnS v2 162 ApiSeat 2 cvApiSeat m.Rekey.Joins s2) (o3 : OwnS v3 62 ApiItem 6 cvApiItem m.Rekey.Items s3) (hb : m.Rekey.Leaves.length + m.Rekey.Joins.length + m.Rekey.Items.length < 4611686018427387904) :
    SX.Spec Tryz.prog 62 #[.agg cs] [s1, s2, s3] [] fun r Γ => r = .bool (decide (GoodM m)) ∧ Γ = [] := by
  obtain ⟨k, ⟨e, l1, l2, l3⟩, q1, q2, ⟨a, b, c, p⟩, ⟨f, u, t⟩⟩ := m
  obtain ⟨x, y, z, hp, rfl⟩ := hm
  dsimp only at hp o1 o2 o3 hb ⊢
  subst hp
  obtain ⟨P1, hP1⟩ : ∃ P, P = ¬ (e = 0 ∧ l1 = [] ∧ l2 = [] ∧ l3 = []) := ⟨_, rfl⟩
  obtain ⟨P2, hP2⟩ : ∃ P, P = ¬ (q1 = 0 ∧ q2 = 0) := ⟨_, rfl⟩
  obtain ⟨P3, hP3⟩ : ∃ P, P = ¬ zRp a b c x.Under.Base x.Under.Step x.Load.Base x.Load.Step y.Under.Base y.Under.Step y.Load.Base y.Load.Step z.Under.Base z.Under.Step z.Load.Base z.Load.Step := ⟨_, rfl⟩
  obtain ⟨P4, hP4⟩ : ∃ P, P = ¬ (f = 0 ∧ (u.Base = 0 ∧ u.Step = 0) ∧ (⟨t.toArray⟩ : ByteArray) = ⟨#[]⟩) := ⟨_, rfl⟩
  have hG : GoodM ⟨k, ⟨e, l1, l2, l3⟩, q1, q2, ⟨a, b, c, [x, y, z]⟩, ⟨f, u, t⟩⟩ ↔ Btw k 1 4 ∧ (P1 → k = 1) ∧ (P2 → k = 2) ∧ (P3 → k = 3) ∧ (P4 → k = 4) ∧ (k = 1 → goodRk ⟨e, l1, l2, l3⟩) ∧ (k = 2 → goodRq q1 q2) ∧ (k = 3 → goodRp ⟨a, b, c, [x, y, z]⟩) ∧ (k = 4 → goodSl ⟨f, u, t⟩) := by
    have e1 : P1 ↔ ¬ noRk ⟨e, l1, l2, l3⟩ := by rw [hP1]
    have e2 : P2 ↔ ¬ noRq q1 q2 := by rw [hP2]
    have e3 : P3 ↔ ¬ noRp ⟨a, b, c, [x, y, z]⟩ := by rw [hP3]
    have e4 : P4 ↔ ¬ noSl ⟨f, u, t⟩ := by rw [hP4, byteArr_nil]
    rw [e1, e2, e3, e4]
    unfold GoodM
    dsimp only
    generalize noRk ⟨e, l1, l2, l3⟩ = n1
    generalize noRq q1 q2 = n2
    generalize noRp ⟨a, b, c, [x, y, z]⟩ = n3
    generalize noSl ⟨f, u, t⟩ = n4
    generalize goodRk ⟨e, l1, l2, l3⟩ = g1
    generalize goodRq q1 q2 = g2
    generalize goodRp ⟨a, b, c, [x, y, z]⟩ = g3
    generalize goodSl ⟨f, u, t⟩ = g4
    constructor
    · rintro (⟨rfl, h⟩ | ⟨rfl, h⟩ | ⟨rfl, h⟩ | ⟨rfl, h⟩) <;> simp [h, Btw]
    · rintro ⟨⟨hk, hk4⟩, h⟩
      have : k = 1 ∨ k = 2 ∨ k = 3 ∨ k = 4 := by omega
      rcases this with rfl | rfl | rfl | rfl <;> simp_all
  refine spec_of1 Tryz.func62 Tryz.ntmps62 rfl rfl (fun M w0 => ?_)
  have hstop1 := @stopR Tryz.prog 1
  repeat' (first | refine stp ?_|(refine v_spT ?_ ?_;omega)|(refine v_spF ?_ ?_;omega)|refine v_spD (fun hc=>?_) (fun hc=>?_)|(refine v_yc ?_ ?_;omega)|refine v_alloc' (fun ba=>?_)|refine v_box (fun bb=>?_)|refine ⟨?_,?_,?_⟩|refine ⟨?_,?_⟩|refine v_tValT (by decide +kernel) ?_|refine v_drawnK (id:=1) 18 pl62_1 (by kernel_rfl) ?_|fail)
  refine Stopped.go <| v_ctR 1 [3] [1] (fun b2 : Nat => [pt b2]) (fun b2 => [[(b2, .cells #[.bool (decide (¬ (e = 0 ∧ l1 = [] ∧ l2 = [] ∧ l3 = []))), .bool (decide (¬ (q1 = 0 ∧ q2 = 0))), .bool (decide (¬ zRp a b c x.Under.Base x.Under.Step x.Load.Base x.Load.Step y.Under.Base y.Under.Step y.Load.Base y.Load.Step z.Under.Base z.Under.Step z.Load.Base z.Load.Step)), .bool (decide (¬ (f = 0 ∧ (u.Base = 0 ∧ u.Step = 0) ∧ (⟨t.toArray⟩ : ByteArray) = ⟨#[]⟩)))] 172 (0, 0))], [(bb, .cells (msgC k e v1 v2 v3 q1 q2 a b c x y z f u t) 49 (0, 0))]]) (fun _ => True) (fun _ => rfl) ?_ ?_
  · repeat' (first | refine stp ?_|(refine v_spT ?_ ?_;omega)|(refine v_spF ?_ ?_;omega)|refine v_spD (fun hc=>?_) (fun hc=>?_)|(refine v_yc ?_ ?_;omega)|refine v_alloc' (fun ba=>?_)|refine v_box (fun bb=>?_)|refine ⟨?_,?_,?_⟩|refine ⟨?_,?_⟩|refine v_tValT (by decide +kernel) ?_|refine v_drawnK (id:=1) 18 pl62_1 (by kernel_rfl) ?_|fail)
    all_goals refine v_callR (empty_s e v1 v2 v3 s1 s2 s3 l1 l2 l3 o1 o2 o3 hb) ?_
    all_goals rintro r Γ' ⟨rfl, rfl⟩
    all_goals (try dsimp only [List.cons_append, List.nil_append])
    repeat' (first | refine stp ?_|(refine v_spT ?_ ?_;omega)|(refine v_spF ?_ ?_;omega)|refine v_spD (fun hc=>?_) (fun hc=>?_)|(refine v_yc ?_ ?_;omega)|refine v_alloc' (fun ba=>?_)|refine v_box (fun bb=>?_)|refine ⟨?_,?_,?_⟩|refine ⟨?_,?_⟩|refine v_tValT (by decide +kernel) ?_|refine v_drawnK (id:=1) 18 pl62_1 (by kernel_rfl) ?_|fail)
    all_goals exact v_here ba rfl inferInstance trivial
  rintro b2 -
  (try dsimp only [zipE_c, zipE_n, List.cons_append, List.nil_append])
  subst hP1 hP2 hP3 hP4
  repeat' (first | refine stp ?_|(refine v_spT ?_ ?_;omega)|(refine v_spF ?_ ?_;omega)|refine v_spD (fun hc=>?_) (fun hc=>?_)|(refine v_yc ?_ ?_;omega)|refine v_alloc' (fun ba=>?_)|refine v_box (fun bb=>?_)|refine ⟨?_,?_,?_⟩|refine ⟨?_,?_⟩|refine v_tValT (by decide +kernel) ?_|refine v_drawnK (id:=1) 18 pl62_1 (by kernel_rfl) ?_|fail)
  · exact v_out1 (Γk := []) Tryz.results62 ⟨bF fun h => hc (hG.1 h).1, rfl⟩
  have hB := Decidable.not_not.1 hc
  have hB' : 1 ≤ k ∧ k ≤ 4 := hB
  refine v_lp [30] [1, 29] (fun i : Nat => [.int .i64 i]) (fun i => []) (fun i => i ≤ 4 ∧ (0 < i → (¬ (e = 0 ∧ l1 = [] ∧ l2 = [] ∧ l3 = [])) → k = 1) ∧ (1 < i → (¬ (q1 = 0 ∧ q2 = 0)) → k = 2) ∧ (2 < i → (¬ zRp a b c x.Under.Base x.Under.Step x.Load.Base x.Load.Step y.Under.Base y.Under.Step y.Load.Base y.Load.Step z.Under.Base z.Under.Step z.Load.Base z.Load.Step) → k = 3) ∧ (3 < i → (¬ (f = 0 ∧ (u.Base = 0 ∧ u.Step = 0) ∧ (⟨t.toArray⟩ : ByteArray) = ⟨#[]⟩)) → k = 4)) (fun i => 4 - i) 0 (fun _ => rfl) rfl inferInstance ⟨Nat.zero_le _, fun h => absurd h (by decide), fun h => absurd h (by decide), fun h => absurd h (by decide), fun h => absurd h (by decide)⟩ ?_
  rintro i ⟨hi, hi1, hi2, hi3, hi4⟩
  (try dsimp only [zipE_c, zipE_n, List.cons_append, List.nil_append])
  match i, hi, hi1, hi2, hi3, hi4 with
  | 0, _, h1, h2, h3, h4 =>
    rw [show ((0 : Nat) : Int) = 0 from rfl]
    clear hi hi1 hi2 hi3 hi4
    repeat' (first | refine stp ?_|(refine v_spT ?_ ?_;omega)|(refine v_spF ?_ ?_;omega)|refine v_spD (fun hc=>?_) (fun hc=>?_)|(refine v_yc ?_ ?_;omega)|refine v_alloc' (fun ba=>?_)|refine v_box (fun bb=>?_)|refine ⟨?_,?_,?_⟩|refine ⟨?_,?_⟩|refine v_tValT (by decide +kernel) ?_|refine v_drawnK (id:=1) 18 pl62_1 (by kernel_rfl) ?_|fail)
    · rename_i hp
      exact v_out1 (Γk := []) Tryz.results62 ⟨bF fun h => hc (by have := (hG.1 h).2.1 hp; omega), rfl⟩
    · exact v_again 1 (by omega) rfl inferInstance ⟨by omega, fun _ _ => by omega, fun hlt => absurd hlt (by omega), fun hlt => absurd hlt (by omega), fun hlt => absurd hlt (by omega)⟩
    · exact v_again 1 (by omega) rfl inferInstance ⟨by omega, fun _ hq => absurd hq hc, fun hlt => absurd hlt (by omega), fun hlt => absurd hlt (by omega), fun hlt => absurd hlt (by omega)⟩
  | 1, _, h1, h2, h3, h4 =>
    rw [show ((1 : Nat) : Int) = 1 from rfl]
    clear hi hi1 hi2 hi3 hi4
    repeat' (first | refine stp ?_|(refine v_spT ?_ ?_;omega)|(refine v_spF ?_ ?_;omega)|refine v_spD (fun hc=>?_) (fun hc=>?_)|(refine v_yc ?_ ?_;omega)|refine v_alloc' (fun ba=>?_)|refine v_box (fun bb=>?_)|refine ⟨?_,?_,?_⟩|refine ⟨?_,?_⟩|refine v_tValT (by decide +kernel) ?_|refine v_drawnK (id:=1) 18 pl62_1 (by kernel_rfl) ?_|fail)
    · rename_i hp
      exact v_out1 (Γk := []) Tryz.results62 ⟨bF fun h => hc (by have := (hG.1 h).2.2.1 hp; omega), rfl⟩
    · exact v_again 2 (by omega) rfl inferInstance ⟨by omega, fun _ => h1 (by omega), fun _ _ => by omega, fun hlt => absurd hlt (by omega), fun hlt => absurd hlt (by omega)⟩
    · exact v_again 2 (by omega) rfl inferInstance ⟨by omega, fun _ => h1 (by omega), fun _ hq => absurd hq hc, fun hlt => absurd hlt (by omega), fun hlt => absurd hlt (by omega)⟩
  | 2, _, h1, h2, h3, h4 =>
    rw [show ((2 : Nat) : Int) = 2 from rfl]
    clear hi hi1 hi2 hi3 hi4
    repeat' (first | refine stp ?_|(refine v_spT ?_ ?_;omega)|(refine v_spF ?_ ?_;omega)|refine v_spD (fun hc=>?_) (fun hc=>?_)|(refine v_yc ?_ ?_;omega)|refine v_alloc' (fun ba=>?_)|refine v_box (fun bb=>?_)|refine ⟨?_,?_,?_⟩|refine ⟨?_,?_⟩|refine v_tValT (by decide +kernel) ?_|refine v_drawnK (id:=1) 18 pl62_1 (by kernel_rfl) ?_|fail)
    · rename_i hp
      exact v_out1 (Γk := []) Tryz.results62 ⟨bF fun h => hc (by have := (hG.1 h).2.2.2.1 hp; omega), rfl⟩
    · exact v_again 3 (by omega) rfl inferInstance ⟨by omega, fun _ => h1 (by omega), fun _ => h2 (by omega), fun _ _ => by omega, fun hlt => absurd hlt (by omega)⟩
    · exact v_again 3 (by omega) rfl inferInstance ⟨by omega, fun _ => h1 (by omega), fun _ => h2 (by omega), fun _ hq => absurd hq hc, fun hlt => absurd hlt (by omega)⟩
  | 3, _, h1, h2, h3, h4 =>
    rw [show ((3 : Nat) : Int) = 3 from rfl]
    clear hi hi1 hi2 hi3 hi4
    repeat' (first | refine stp ?_|(refine v_spT ?_ ?_;omega)|(refine v_spF ?_ ?_;omega)|refine v_spD (fun hc=>?_) (fun hc=>?_)|(refine v_yc ?_ ?_;omega)|refine v_alloc' (fun ba=>?_)|refine v_box (fun bb=>?_)|refine ⟨?_,?_,?_⟩|refine ⟨?_,?_⟩|refine v_tValT (by decide +kernel) ?_|refine v_drawnK (id:=1) 18 pl62_1 (by kernel_rfl) ?_|fail)
    · rename_i hp
      exact v_out1 (Γk := []) Tryz.results62 ⟨bF fun h => hc (by have := (hG.1 h).2.2.2.2.1 hp; omega), rfl⟩
    · exact v_again 4 (by omega) rfl inferInstance ⟨by omega, fun _ => h1 (by omega), fun _ => h2 (by omega), fun _ => h3 (by omega), fun _ _ => by omega⟩
    · exact v_again 4 (by omega) rfl inferInstance ⟨by omega, fun _ => h1 (by omega), fun _ => h2 (by omega), fun _ => h3 (by omega), fun _ hq => absurd hq hc⟩
  | 4, _, h1, h2, h3, h4 =>
    rw [show ((4 : Nat) : Int) = 4 from rfl]
    clear hi hi1 hi2 hi3 hi4
    replace h1 := h1 (by omega)
    replace h2 := h2 (by omega)
    replace h3 := h3 (by omega)
    replace h4 := h4 (by omega)
    repeat' (first | refine stp ?_|(refine v_spT ?_ ?_;omega)|(refine v_spF ?_ ?_;omega)|refine v_spD (fun hc=>?_) (fun hc=>?_)|(refine v_yc ?_ ?_;omega)|refine v_alloc' (fun ba=>?_)|refine v_box (fun bb=>?_)|refine ⟨?_,?_,?_⟩|refine ⟨?_,?_⟩|refine v_tValT (by decide +kernel) ?_|refine v_drawnK (id:=1) 18 pl62_1 (by kernel_rfl) ?_|fail)
    · rename_i hk
      have he := hc
      refine v_callR (allSeat_s v1 s1 l1 64 ownAt) ?_
      rintro r Γ' ⟨rfl, rfl⟩
      (try dsimp only [List.cons_append, List.nil_append])
      repeat' (first | refine stp ?_|(refine v_spT ?_ ?_;omega)|(refine v_spF ?_ ?_;omega)|refine v_spD (fun hc=>?_) (fun hc=>?_)|(refine v_yc ?_ ?_;omega)|refine v_alloc' (fun ba=>?_)|refine v_box (fun bb=>?_)|refine ⟨?_,?_,?_⟩|refine ⟨?_,?_⟩|refine v_tValT (by decide +kernel) ?_|refine v_drawnK (id:=1) 18 pl62_1 (by kernel_rfl) ?_|fail)
      · have hl := hc
        refine v_callR (allSeat_s v2 s2 l2 64 ownAt) ?_
        rintro r Γ' ⟨rfl, rfl⟩
        (try dsimp only [List.cons_append, List.nil_append])
        repeat' (first | refine stp ?_|(refine v_spT ?_ ?_;omega)|(refine v_spF ?_ ?_;omega)|refine v_spD (fun hc=>?_) (fun hc=>?_)|(refine v_yc ?_ ?_;omega)|refine v_alloc' (fun ba=>?_)|refine v_box (fun bb=>?_)|refine ⟨?_,?_,?_⟩|refine ⟨?_,?_⟩|refine v_tValT (by decide +kernel) ?_|refine v_drawnK (id:=1) 18 pl62_1 (by kernel_rfl) ?_|fail)
        · have hj := hc
          refine v_callR (allItem_s v3 s3 l3 1536 ownAt) ?_
          rintro r Γ' ⟨rfl, rfl⟩
          (try dsimp only [List.cons_append, List.nil_append])
          repeat' (first | refine stp ?_|(refine v_spT ?_ ?_;omega)|(refine v_spF ?_ ?_;omega)|refine v_spD (fun hc=>?_) (fun hc=>?_)|(refine v_yc ?_ ?_;omega)|refine v_alloc' (fun ba=>?_)|refine v_box (fun bb=>?_)|refine ⟨?_,?_,?_⟩|refine ⟨?_,?_⟩|refine v_tValT (by decide +kernel) ?_|refine v_drawnK (id:=1) 18 pl62_1 (by kernel_rfl) ?_|fail)
          exact v_out1 (Γk := []) Tryz.results62 ⟨bD ⟨fun h => hG.2 ⟨hB, h1, h2, h3, h4, fun _ => ⟨he, hl, hj, h⟩, fun h => absurd h (by omega), fun h => absurd h (by omega), fun h => absurd h (by omega)⟩, fun h => ((hG.1 h).2.2.2.2.2.1 hk).2.2.2⟩, rfl⟩
        · exact v_out1 (Γk := []) Tryz.results62 ⟨bF fun h => hc ((hG.1 h).2.2.2.2.2.1 hk).2.2.1, rfl⟩
      · exact v_out1 (Γk := []) Tryz.results62 ⟨bF fun h => hc ((hG.1 h).2.2.2.2.2.1 hk).2.1, rfl⟩
    · rename_i hk
      exact v_out1 (Γk := []) Tryz.results62 ⟨bF fun h => hc ((hG.1 h).2.2.2.2.2.1 hk).1, rfl⟩
    · rename_i hk
      exact v_out1 (Γk := []) Tryz.results62 ⟨bD ⟨fun h => hG.2 ⟨hB, h1, h2, h3, h4, fun h => absurd h (by omega), fun _ => ⟨hc.1, h⟩, fun h => absurd h (by omega), fun h => absurd h (by omega)⟩, fun h => ((hG.1 h).2.2.2.2.2.2.1 hk).2⟩, rfl⟩
    · rename_i hk
      exact v_out1 (Γk := []) Tryz.results62 ⟨bF fun h => hc ⟨((hG.1 h).2.2.2.2.2.2.1 hk).1, ⟨Int.le_refl 0, (by decide : (0 : Int) ≤ 63)⟩⟩, rfl⟩
    · rename_i hk hs
      refine v_callR (allBox_s _ _ [x, y, z] 3 (AtS.off (et := 45) (fr := (0, 0)) (cur := #[.int .i64 a, .int .i64 b, .int .i64 c, .int .i64 x.Under.Base, .int .i64 x.Under.Step, .int .i64 x.Load.Base, .int .i64 x.Load.Step, .int .i64 y.Under.Base, .int .i64 y.Under.Step, .int .i64 y.Load.Base, .int .i64 y.Load.Step, .int .i64 z.Under.Base, .int .i64 z.Under.Step, .int .i64 z.Load.Base, .int .i64 z.Load.Step]) [x, y, z] (fun _ => rfl) rfl (by decide : 3 ≤ maxLen) (by decide : 0 < 3 * 4) rfl)) ?_
      rintro r Γ' ⟨rfl, rfl⟩
      (try dsimp only [List.cons_append, List.nil_append])
      repeat' (first | refine stp ?_|(refine v_spT ?_ ?_;omega)|(refine v_spF ?_ ?_;omega)|refine v_spD (fun hc=>?_) (fun hc=>?_)|(refine v_yc ?_ ?_;omega)|refine v_alloc' (fun ba=>?_)|refine v_box (fun bb=>?_)|refine ⟨?_,?_,?_⟩|refine ⟨?_,?_⟩|refine v_tValT (by decide +kernel) ?_|refine v_drawnK (id:=1) 18 pl62_1 (by kernel_rfl) ?_|fail)
      exact v_out1 (Γk := []) Tryz.results62 ⟨bD ⟨fun h => hG.2 ⟨hB, h1, h2, h3, h4, fun h => absurd h (by omega), fun h => absurd h (by omega), fun _ => ⟨hs, hc, h.1⟩, fun h => absurd h (by omega)⟩, fun h => ⟨((hG.1 h).2.2.2.2.2.2.2.1 hk).2.2, (by decide : ((3 : Nat) : Int) ≤ 3)⟩⟩, rfl⟩
    · rename_i hk hs
      exact v_out1 (Γk := []) Tryz.results62 ⟨bF fun h => hc ((hG.1 h).2.2.2.2.2.2.2.1 hk).2.1, rfl⟩
    · rename_i hk
      exact v_out1 (Γk := []) Tryz.results62 ⟨bF fun h => hc ((hG.1 h).2.2.2.2.2.2.2.1 hk).1, rfl⟩
    · rename_i he
      have hk4 : k = 4 := by omega
      exact v_out1 (Γk := []) Tryz.results62 ⟨bD ⟨fun h => hG.2 ⟨hB, h1, h2, h3, h4, fun h => absurd h (by omega), fun h => absurd h (by omega), fun h => absurd h (by omega), fun _ => ⟨he, hc, h⟩⟩, fun h => ((hG.1 h).2.2.2.2.2.2.2.2 hk4).2.2⟩, rfl⟩
    · have hk4 : k = 4 := by omega
      exact v_out1 (Γk := []) Tryz.results62 ⟨bF fun h => hc ((hG.1 h).2.2.2.2.2.2.2.2 hk4).2.1, rfl⟩
    · have hk4 : k = 4 := by omega
      exact v_out1 (Γk := []) Tryz.results62 ⟨bF fun h => hc ((hG.1 h).2.2.2.2.2.2.2.2 hk4).1, rfl⟩
  | i + 5, hi, _, _, _, _ => exact absurd hi (by omega)
end Go.Proofs.YtdfoijfjlhjeaaaGreat

/- wire.reader: the rekey part. -/
namespace Go.Proofs.YtdfoijfjlhjeaaaGreat
open Go Go.SX Go.RowKit
set_option maxRecDepth 100000
set_option maxHeartbeats 0
set_option synthInstance.maxSize 100000
set_option synthInstance.maxHeartbeats 400000
structure RekG where
  x : Int
  b2 : Nat
  v1 : Value
  s1 : Hp
  v2 : Value
  s2 : Hp
  r : Hp
  lv : List ApiSeat
  jn : List ApiSeat
  bs : Bs
structure RekOk (b : Nat) (l : List UInt8) (bs : Bs) (g : RekG) : Prop where
  o1 : OwnS g.v1 162 ApiSeat 2 cvApiSeat g.lv g.s1
  o2 : OwnS g.v2 162 ApiSeat 2 cvApiSeat g.jn g.s2
  at' : RdAt b l g.r g.bs
  eq : rdRekey bs = (rdCnt 11 rdItem g.bs).map fun z => (⟨g.x, g.lv, g.jn, z.1⟩, z.2)
structure RiG where
  i : Nat
  v : Value
  s : Hp
  r : Hp
  xs : List ApiItem
  bs : Bs
structure RiOk (b : Nat) (l : List UInt8) (k : Nat) (bs1 : Bs) (g : RiG) : Prop where
  le : g.i ≤ k
  own : OwnS g.v 62 ApiItem 6 cvApiItem g.xs g.s
  len : g.xs.length = g.i
  at' : RdAt b l g.r g.bs
  eq : rdList rdItem k bs1 = (rdList rdItem (k - g.i) g.bs).map fun z => (g.xs ++ z.1, z.2)
section
variable (b : Nat) (l : List UInt8) (hl : l.length ≤ 281474976710656)
include hl
theorem rekey_s : RdS 128 b l rdRekey (fun x v Γ => ∃ v1 s1 v2 s2 v3 s3, v = .agg #[.int .i64 x.Epoch, v1, v2, v3] ∧ OwnS v1 162 ApiSeat 2 cvApiSeat x.Leaves s1 ∧ OwnS v2 162 ApiSeat 2 cvApiSeat x.Joins s2 ∧ OwnS v3 62 ApiItem 6 cvApiItem x.Items s3 ∧ Γ = [s1, s2, s3]) [] := by
  rintro bs s hs
  refine spec_p1 Tryz.func128 Tryz.ntmps128 rfl rfl (fun M w0 => ?_)
  have hstop1 := @stopR Tryz.prog 1
  repeat' (first | refine stp ?_|(refine v_spT ?_ ?_;omega)|(refine v_spF ?_ ?_;omega)|(refine v_yc ?_ ?_;omega)|refine v_alloc' (fun ba=>?_)|refine v_box (fun bb=>?_)|refine v_lit (fun bl=>?_)|(refine v_push ?_ (fun sv ss hs hln=>?_);omega)|refine ⟨?_,?_,?_⟩|refine ⟨?_,?_⟩|refine v_tValT (by decide +kernel) ?_|refine v_drawnK (id:=1) 8 pl128_1 (by kernel_rfl) ?_|fail)
  refine Stopped.go <| v_ctR 1 [3] [1, 2] (fun g : RekG => [pt g.b2]) (fun g => [g.r, g.s1, g.s2, [(g.b2, .cells #[.int .i64 g.x, g.v1, g.v2, .slice none 0 0] 40 (0, 0))], [(ba, .cells #[.int .i64 0, .slice none 0 0, .slice none 0 0, .slice none 0 0] 40 (0, 0))], [(bb, .cells #[pt b] 150 (0, 0))]]) (RekOk b l bs) (fun _ => rfl) ?_ ?_
  · refine v_drawn (id:=1) 8 pl128_1 [] [[(bb, .cells #[pt b] 150 (0, 0))]] (by kernel_rfl) ?_
    repeat' (first | refine stp ?_|(refine v_spT ?_ ?_;omega)|(refine v_spF ?_ ?_;omega)|(refine v_yc ?_ ?_;omega)|refine v_alloc' (fun ba=>?_)|refine v_box (fun bb=>?_)|refine v_lit (fun bl=>?_)|(refine v_push ?_ (fun sv ss hs hln=>?_);omega)|refine ⟨?_,?_,?_⟩|refine ⟨?_,?_⟩|refine v_tValT (by decide +kernel) ?_|refine v_drawnK (id:=1) 8 pl128_1 (by kernel_rfl) ?_|fail)
    all_goals
      refine v_callP (num_s b l hl 8 (by decide) (by decide) bs s hs) (fun h => by simp [rdRekey, rdMap, rdBind, h]) ?_
      rintro v Γ' ⟨x, bs1, s1, Γ1, hx, hs1, ⟨rfl, rfl⟩, rfl⟩
      (try dsimp only [List.cons_append, List.nil_append])
      repeat' (first | refine stp ?_|(refine v_spT ?_ ?_;omega)|(refine v_spF ?_ ?_;omega)|(refine v_yc ?_ ?_;omega)|refine v_alloc' (fun ba=>?_)|refine v_box (fun bb=>?_)|refine v_lit (fun bl=>?_)|(refine v_push ?_ (fun sv ss hs hln=>?_);omega)|refine ⟨?_,?_,?_⟩|refine ⟨?_,?_⟩|refine v_tValT (by decide +kernel) ?_|refine v_drawnK (id:=1) 8 pl128_1 (by kernel_rfl) ?_|fail)
    all_goals
      refine v_callP (seats_s b l hl _ _ (by assumption)) (fun h => by simp [rdRekey, rdMap, rdBind, hx, h]) ?_
      rintro v Γ' ⟨lv, bs2, s2, Γ2, hy, hs2, ⟨sl, hlv, rfl⟩, rfl⟩
      (try dsimp only [List.cons_append, List.nil_append])
      repeat' (first | refine stp ?_|(refine v_spT ?_ ?_;omega)|(refine v_spF ?_ ?_;omega)|(refine v_yc ?_ ?_;omega)|refine v_alloc' (fun ba=>?_)|refine v_box (fun bb=>?_)|refine v_lit (fun bl=>?_)|(refine v_push ?_ (fun sv ss hs hln=>?_);omega)|refine ⟨?_,?_,?_⟩|refine ⟨?_,?_⟩|refine v_tValT (by decide +kernel) ?_|refine v_drawnK (id:=1) 8 pl128_1 (by kernel_rfl) ?_|fail)
    all_goals
      refine v_callP (seats_s b l hl _ _ hs2) (fun h => by simp [rdRekey, rdMap, rdBind, hx, hy, h]) ?_
      rintro v2 Γ' ⟨jn, bs3, s3, Γ3, hz, hs3, ⟨sj, hjn, rfl⟩, rfl⟩
      (try dsimp only [List.cons_append, List.nil_append])
      repeat' (first | refine stp ?_|(refine v_spT ?_ ?_;omega)|(refine v_spF ?_ ?_;omega)|(refine v_yc ?_ ?_;omega)|refine v_alloc' (fun ba=>?_)|refine v_box (fun bb=>?_)|refine v_lit (fun bl=>?_)|(refine v_push ?_ (fun sv ss hs hln=>?_);omega)|refine ⟨?_,?_,?_⟩|refine ⟨?_,?_⟩|refine v_tValT (by decide +kernel) ?_|refine v_drawnK (id:=1) 8 pl128_1 (by kernel_rfl) ?_|fail)
    all_goals
      refine v_here ⟨x, ba, v, sl, v2, sj, s3, lv, jn, bs3⟩ rfl inferInstance ⟨hlv, hjn, hs3, ?_⟩
      dsimp only
      simp only [rdRekey, rdMap, rdBind, hx, hy, hz]
      cases rdCnt 11 rdItem bs3 <;> rfl
  rintro ⟨x, b2, v1, s1, v2, s2, sr, lv, jn, bs4⟩ ⟨h1, h2, h3, h4⟩
  dsimp only at h1 h2 h3 h4 ⊢
  (try dsimp only [zipE_c, zipE_n, List.cons_append, List.nil_append])
  repeat' (first | refine stp ?_|(refine v_spT ?_ ?_;omega)|(refine v_spF ?_ ?_;omega)|(refine v_yc ?_ ?_;omega)|refine v_alloc' (fun ba=>?_)|refine v_box (fun bb=>?_)|refine v_lit (fun bl=>?_)|(refine v_push ?_ (fun sv ss hs hln=>?_);omega)|refine ⟨?_,?_,?_⟩|refine ⟨?_,?_⟩|refine v_tValT (by decide +kernel) ?_|refine v_drawnK (id:=1) 8 pl128_1 (by kernel_rfl) ?_|fail)
  refine v_callP (num_s b l hl 11 (by decide) (by decide) bs4 sr h3) (fun h => by rw [h4]; simp [rdCnt, rdBind, h]) ?_
  rintro v Γ' ⟨n, bs1, r1, Γ1, hn, hs1, ⟨rfl, rfl⟩, rfl⟩
  (try dsimp only [List.cons_append, List.nil_append])
  repeat' (first | refine stp ?_|(refine v_spT ?_ ?_;omega)|(refine v_spF ?_ ?_;omega)|(refine v_yc ?_ ?_;omega)|refine v_alloc' (fun ba=>?_)|refine v_box (fun bb=>?_)|refine v_lit (fun bl=>?_)|(refine v_push ?_ (fun sv ss hs hln=>?_);omega)|refine ⟨?_,?_,?_⟩|refine ⟨?_,?_⟩|refine v_tValT (by decide +kernel) ?_|refine v_drawnK (id:=1) 8 pl128_1 (by kernel_rfl) ?_|fail)
  have hn0 := ((numC 11).forth _ _ _ hn).2
  obtain ⟨k, rfl⟩ : ∃ k : Nat, n = (k : Int) := ⟨n.toNat, by omega⟩
  have hk : k < 2048 := by have := hn0.2; omega
  have hall : rdCnt 11 rdItem bs4 = rdList rdItem k bs1 := by simp [rdCnt, rdBind, hn]
  refine v_lp [15] [1, 2, 3, 14] (fun g : RiG => [.int .i64 g.i]) (fun g => [g.r, g.s, s1, s2, [(b2, .cells #[.int .i64 x, v1, v2, g.v] 40 (0, 0))], [(ba, .cells #[.int .i64 0, .slice none 0 0, .slice none 0 0, .slice none 0 0] 40 (0, 0))], [(bb, .cells #[pt b] 150 (0, 0))]]) (RiOk b l k bs1) (fun g => k - g.i) ⟨0, .slice none 0 0, [], r1, [], bs1⟩ (fun _ => rfl) rfl inferInstance ⟨Nat.zero_le _, OwnS.nil, rfl, hs1, by rw [Nat.sub_zero]; cases rdList rdItem k bs1 <;> rfl⟩ ?_
  clear hs1 h3
  rintro ⟨i, v, s, sr, xs, bsr⟩ ⟨hi, hv, hx, hs1, hr⟩
  dsimp only at hi hv hx hs1 hr ⊢
  (try dsimp only [zipE_c, zipE_n, List.cons_append, List.nil_append])
  rcases Nat.lt_or_ge i k with hlt | hge
  · obtain ⟨q, hq⟩ : ∃ q, k - i = q + 1 := ⟨k - i - 1, by omega⟩
    rw [hq] at hr
    repeat' (first | refine stp ?_|(refine v_spT ?_ ?_;omega)|(refine v_spF ?_ ?_;omega)|(refine v_yc ?_ ?_;omega)|refine v_alloc' (fun ba=>?_)|refine v_box (fun bb=>?_)|refine v_lit (fun bl=>?_)|(refine v_push ?_ (fun sv ss hs hln=>?_);omega)|refine ⟨?_,?_,?_⟩|refine ⟨?_,?_⟩|refine v_tValT (by decide +kernel) ?_|refine v_drawnK (id:=1) 8 pl128_1 (by kernel_rfl) ?_|fail)
    refine v_callP (num_s b l hl 5 (by decide) (by decide) bsr sr hs1) (fun h => by rw [h4, hall, hr, rdList_none (by simp [rdItem, rdMap, rdBind, h])]; rfl) ?_
    rintro u Γ' ⟨n1, bs2, s2', Γ1, e2, hs2, ⟨rfl, rfl⟩, rfl⟩
    (try dsimp only [List.cons_append, List.nil_append])
    repeat' (first | refine stp ?_|(refine v_spT ?_ ?_;omega)|(refine v_spF ?_ ?_;omega)|(refine v_yc ?_ ?_;omega)|refine v_alloc' (fun ba=>?_)|refine v_box (fun bb=>?_)|refine v_lit (fun bl=>?_)|(refine v_push ?_ (fun sv ss hs hln=>?_);omega)|refine ⟨?_,?_,?_⟩|refine ⟨?_,?_⟩|refine v_tValT (by decide +kernel) ?_|refine v_drawnK (id:=1) 8 pl128_1 (by kernel_rfl) ?_|fail)
    refine v_callP (num_s b l hl 7 (by decide) (by decide) bs2 s2' hs2) (fun h => by rw [h4, hall, hr, rdList_none (by simp [rdItem, rdMap, rdBind, e2, h])]; rfl) ?_
    rintro u Γ' ⟨n2, bs3, s3, Γ1, e3, hs3, ⟨rfl, rfl⟩, rfl⟩
    (try dsimp only [List.cons_append, List.nil_append])
    repeat' (first | refine stp ?_|(refine v_spT ?_ ?_;omega)|(refine v_spF ?_ ?_;omega)|(refine v_yc ?_ ?_;omega)|refine v_alloc' (fun ba=>?_)|refine v_box (fun bb=>?_)|refine v_lit (fun bl=>?_)|(refine v_push ?_ (fun sv ss hs hln=>?_);omega)|refine ⟨?_,?_,?_⟩|refine ⟨?_,?_⟩|refine v_tValT (by decide +kernel) ?_|refine v_drawnK (id:=1) 8 pl128_1 (by kernel_rfl) ?_|fail)
    refine v_drawnE (id:=6) 10 plE128_6 [s3, s] (by kernel_rfl) ?_
    repeat' (first | refine stp ?_|(refine v_spT ?_ ?_;omega)|(refine v_spF ?_ ?_;omega)|(refine v_yc ?_ ?_;omega)|refine v_alloc' (fun ba=>?_)|refine v_box (fun bb=>?_)|refine v_lit (fun bl=>?_)|(refine v_push ?_ (fun sv ss hs hln=>?_);omega)|refine ⟨?_,?_,?_⟩|refine ⟨?_,?_⟩|refine v_tValT (by decide +kernel) ?_|refine v_drawnK (id:=1) 8 pl128_1 (by kernel_rfl) ?_|fail)
    refine v_callP (box_s b l hl bs3 s3 hs3) (fun h => by rw [h4, hall, hr, rdList_none (by simp [rdItem, rdMap, rdBind, e2, e3, h])]; rfl) ?_
    rintro u Γ' ⟨bx, bs5, s5, Γ1, e5, hs5, ⟨rfl, rfl⟩, rfl⟩
    (try dsimp only [List.cons_append, List.nil_append])
    repeat' (first | refine stp ?_|(refine v_spT ?_ ?_;omega)|(refine v_spF ?_ ?_;omega)|(refine v_yc ?_ ?_;omega)|refine v_alloc' (fun ba=>?_)|refine v_box (fun bb=>?_)|refine v_lit (fun bl=>?_)|(refine v_push ?_ (fun sv ss hs hln=>?_);omega)|refine ⟨?_,?_,?_⟩|refine ⟨?_,?_⟩|refine v_tValT (by decide +kernel) ?_|refine v_drawnK (id:=1) 8 pl128_1 (by kernel_rfl) ?_|fail)
    have hs' : OwnS sv 62 ApiItem 6 cvApiItem (xs ++ [⟨n1, n2, bx⟩]) ss := hs
    refine v_again ⟨i + 1, sv, ss, s5, xs ++ [⟨n1, n2, bx⟩], bs5⟩ (by dsimp only; omega) rfl inferInstance ⟨hlt, hs', ?_, hs5, ?_⟩
    · dsimp only; rw [List.length_append, hx]; rfl
    · dsimp only
      rw [hr, show k - (i + 1) = q by omega]
      have e : rdItem bsr = some (⟨n1, n2, bx⟩, bs5) := by simp [rdItem, rdMap, rdBind, e2, e3, e5]
      rw [rdList_some e]
      cases rdList rdItem q bs5 <;> simp
  · obtain rfl : i = k := by omega
    rw [Nat.sub_self] at hr
    have hfin : rdRekey bs = some (⟨x, lv, jn, xs⟩, bsr) := by
      rw [h4, hall, hr]; simp [rdList]
    repeat' (first | refine stp ?_|(refine v_spT ?_ ?_;omega)|(refine v_spF ?_ ?_;omega)|(refine v_yc ?_ ?_;omega)|refine v_alloc' (fun ba=>?_)|refine v_box (fun bb=>?_)|refine v_lit (fun bl=>?_)|(refine v_push ?_ (fun sv ss hs hln=>?_);omega)|refine ⟨?_,?_,?_⟩|refine ⟨?_,?_⟩|refine v_tValT (by decide +kernel) ?_|refine v_drawnK (id:=1) 8 pl128_1 (by kernel_rfl) ?_|fail)
    exact v_retP (v_o1 Tryz.results128 ⟨_, _, _, _, hfin, hs1, ⟨_, _, _, _, _, _, rfl, h1, h2, hv, rfl⟩, rfl⟩ ⟨_, inferInstance⟩)
end
end Go.Proofs.YtdfoijfjlhjeaaaGreat

/- Symbolic execution: a deferred closure that recovers. Of whatever program. -/
namespace Go.SX
set_option linter.unusedSimpArgs false
set_option linter.unusedVariables false
open Go Go.RowKit
/-- a deferred call: it leaves mode u as u', memory Γ as Γ' -/
def DefS (D : Bool) (P : Program) (g : FuncId) (args : Array Value) (Γ Γ' : List Hp) (u u' : FrameMode) : Prop :=
  ∀ w, Inv ⟨keys Γ, w, D⟩ [] Γ w → CallsD P g args u w fun e m w' => e = .returned (.tuple #[]) ∧ m = u' ∧ Inv ⟨keys Γ, w, D⟩ [] Γ' w'
abbrev pr (t : Value) : PanicEntry := { v := t, recovered := true }
section
variable {P : Program} {R : List Hp} {n : Nat} {all : Array Oper} {Q : Exit → Act → World → Prop} {L : Env} {Γ : List Hp} {M : List Nat} {w0 : World} {D : Bool} {K : Act → World → Prop} {C : Cx}
theorem Kn.mk0 {a : Act} (h : a.tmps.size = n) (hd : a.defers = []) : Kn n [] a := by unfold Kn; exact ⟨h, hd, fun t v ht => by cases ht⟩
theorem Kn.add {a : Act} {t : Nat} {v : Value} (k : Kn n L a) (h : a.tmps[t]? = some v) : Kn n ((t, v) :: L) a := by
  unfold Kn at k ⊢
  refine ⟨k.1, k.2.1, fun s u hs => ?_⟩
  by_cases e : s = t
  · subst e
    simp [List.lookup] at hs
    subst hs; exact h
  · have : (s == t) = false := by simp [e]
    simp [List.lookup, this] at hs
    exact k.2.2 s u hs
/-- the end of a deferred closure without results -/
theorem run_res2 {fn : Func} {r r2 : ResultVar} {v v2 : Value} (hf : fn.results = #[r, r2]) [hr : Res P R L Γ r v] [hr2 : Res P R L Γ r2 v2] {a : Act} {w : World} (k : Kn n L a) (i : Inv C R Γ w) : (results fn a.tmps).run P w = .ok (.tuple #[v, v2]) w := by
  have e := hr.out _ n a w k i
  have e2 := hr2.out _ n a w k i
  have main : ∀ (g : ResultVar → Sem Value), (g r).run P w = .ok v w → (g r2).run P w = .ok v2 w → ((do let vs ← #[r, r2].mapM g; pure (if h : vs.size = 1 then vs[0] else .tuple vs)) : Sem Value).run P w = .ok (.tuple #[v, v2]) w := by
    intro g e e2
    simp [e, e2]
  unfold results
  rw [hf]
  exact main _ e e2
/-- the end of a function behind whose return one deferred closure does nothing -/
theorem v_outD2 {fn : Func} {g : FuncId} {cs : Array Value} {r r2 : ResultVar} {v v2 : Value} {Post : Value → List Hp → Prop} {Γk Γd : List Hp} [hf : Fn1 P g] (hres : fn.results = #[r, r2]) (hdef : DefS D P g cs [] [] .returning .returning) [hr : Res P R L Γ r v] [hr2 : Res P R L Γ r2 v2] [hp : Pick Γ Γk Γd] (h : Post (.tuple #[v, v2]) Γk) :
    VK ⟨M, w0, D⟩ R n L Γ (KE (Qd [{ target := .fn (.func g) cs, args := #[] }] (bodyPostD P fn fun e w' => ∃ v Γ', e = .returned v ∧ Post v Γ' ∧ Inv ⟨M, w0, D⟩ R Γ' w')) .ret) := VK.mk fun a w k i => KE.mk (by
  show Leaves P fn a.tmps _ (a.defers ++ _) .returning w
  rw [kn_defers k, List.nil_append]
  have hinv : (invoke (.fn (.func g) cs) #[]).run P w = .ok (.enter g cs) w := by
    have := hf.out cs w
    simpa [invoke] using this
  refine leaves_cons (by simp) hinv ((hdef w ⟨rfl, rfl, rfl, Nat.le_refl _, (by intro _ h; cases h), (by intro _ h; cases h), List.nodup_nil, (by intro _ h; cases h), (by intro _ h; cases h), fun _ _ _ => rfl, fun _ => Nat.le_refl _⟩).mono ?_)
  rintro e m w' ⟨rfl, rfl, j⟩
  have i' : Inv ⟨M, w0, D⟩ R Γ w' := i.back (Γc := []) (Γr := Γ) (Rc := []) (by simp) j
  exact ⟨_, run_res2 hres k i', _, Γk, rfl, h, i'.take hp.out⟩)
/-- .. behind whose panic it recovers -/
theorem v_panD2 {fn : Func} {g : FuncId} {cs : Array Value} {r r2 : ResultVar} {v v2 T : Value} {Post : Value → List Hp → Prop} {Γc Γc' Γr Γx Γk Γd : List Hp} [hf : Fn1 P g] (hres : fn.results = #[r, r2]) (hdef : DefS D P g cs Γc Γc' (.panicking [pe T]) (.panicking [pr T])) [hpc : Pick Γ Γc Γr] [hap : App Γc' Γr Γx] [hr : Res P R L Γx r v] [hr2 : Res P R L Γx r2 v2] [hp : Pick Γx Γk Γd] (h : Post (.tuple #[v, v2]) Γk) :
    VK ⟨M, w0, D⟩ R n L Γ (KE (Qd [{ target := .fn (.func g) cs, args := #[] }] (bodyPostD P fn fun e w' => ∃ v Γ', e = .returned v ∧ Post v Γ' ∧ Inv ⟨M, w0, D⟩ R Γ' w')) (.panic [pe T])) := VK.mk fun a w k i => KE.mk (by
  show Leaves P fn a.tmps _ (a.defers ++ _) (.panicking [pe T]) w
  rw [kn_defers k, List.nil_append]
  have hinv : (invoke (.fn (.func g) cs) #[]).run P w = .ok (.enter g cs) w := by
    have := hf.out cs w
    simpa [invoke] using this
  refine leaves_cons (by simp) hinv ((hdef w (i.callee (Rc := []) hpc.out (by intro _ h; cases h) (fun _ _ h => by cases h))).mono ?_)
  rintro e m w' ⟨rfl, rfl, j⟩
  have i' : Inv ⟨M, w0, D⟩ R Γx w' := by rw [hap.out]; exact i.back hpc.out j
  exact ⟨_, run_res2 hres k i', _, Γk, rfl, h, i'.take hp.out⟩)
theorem spec_d1 {f : FuncId} {fn : Func} {c : Code} {v0 : Value} {Post : Value → List Hp → Prop} {m : Nat} (hf : P.funcs[f]? = some fn) (hm : fn.ntmps = m) (hb : fn.body = some c) (hle : Nat.ble 1 m = true)
    (h : ∀ M w0, VK ⟨M, w0, D⟩ R m [(0, v0)] Γ (KC P c (bodyPostD P fn fun e w' => ∃ v Γ', e = .returned v ∧ Post v Γ' ∧ Inv ⟨M, w0, D⟩ R Γ' w'))) : SpecD D P f #[v0] R Γ Post := fun w i => by
  refine calls_of_wp_defers hf hb ((h _ _).out _ _ (Kn.of_begin (args := [v0]) rfl hm hle) i).out
/-- a slot that no result is read from -/
class NoRes (fn : Func) (d : Nat) : Prop where
  out : ∀ (ts : Array Value) (v : Value), results fn (ts.setIfInBounds d v) = results fn ts
theorem noRes2 {fn : Func} {s s2 : Nat} {t t2 : TypeId} {d : Nat} (hf : fn.results = #[.cell s t, .cell s2 t2]) (h1 : d ≠ s) (h2 : d ≠ s2) : NoRes fn d := ⟨fun ts v => by
  have e : ∀ x, d ≠ x → (ts.setIfInBounds d v)[x]? = ts[x]? := fun x hx => Array.getElem?_setIfInBounds_ne hx
  unfold results
  rw [hf]
  simp [e s h1, e s2 h2]⟩
theorem leaves_ext {fn : Func} {ts ts' : Array Value} {X : Ending → World → Prop} (h : results fn ts = results fn ts') : ∀ (ds : List Deferred) (u : FrameMode) (w : World), Leaves P fn ts X ds u w → Leaves P fn ts' X ds u w
  | [], .returning, w, ⟨v, h1, h2⟩ => ⟨v, by rw [← h]; exact h1, h2⟩
  | [], .panicking ch, w, h1 => h1
  | [], .run, w, h1 => h1.elim
  | d :: ds, u, w, ⟨h1, fv, cap, f, args, h2, h3, h4⟩ => ⟨h1, fv, cap, f, args, h2, h3, h4.mono fun e m w' he => by
      cases e with
      | returned v => exact leaves_ext h ds _ w' he
      | panicked ch => exact leaves_ext h ds _ w' he
      | outgrown => exact he⟩
instance qpBodyD (fn : Func) (X : Ending → World → Prop) (d : Nat) [h : NoRes fn d] : QP (bodyPostD P fn X) d := ⟨fun c a w v x => leaves_ext (h.out a.tmps v) _ _ _ x⟩
theorem v_outS {fn : Func} {c₀ : Frame} {cs : List Frame} {u' : FrameMode} {Γk Γd : List Hp} (hf : fn.results = #[]) [hp : Pick Γ Γk Γd] :
    VK C R n L Γ (KE (fun e a w => bodyPostS P fn c₀ cs (fun e m w' => e = .returned (.tuple #[]) ∧ m = u' ∧ Inv C R Γk w') e a ({ c₀ with mode := u' } :: cs) w) .normal) := VK.mk fun a w k i => KE.mk (by
  refine ⟨kn_defers k, u', rfl, .tuple #[], by simp [results, hf], rfl, rfl, i.take hp.out⟩)
theorem v_outS0 {fn : Func} {c₀ : Frame} {cs : List Frame} {u' : FrameMode} {Γk Γd : List Hp} (hf : fn.results = #[]) (hu : c₀.mode = u') [hp : Pick Γ Γk Γd] :
    VK C R n L Γ (KE (fun e a w => bodyPostS P fn c₀ cs (fun e m w' => e = .returned (.tuple #[]) ∧ m = u' ∧ Inv C R Γk w') e a (c₀ :: cs) w) .normal) := VK.mk fun a w k i => KE.mk (by
  refine ⟨kn_defers k, c₀.mode, by cases c₀; rfl, .tuple #[], by simp [results, hf], rfl, hu, i.take hp.out⟩)
theorem VK.wpS {c : Code} {cs : List Frame} {Q' : Exit → Act → List Frame → World → Prop} {a : Act} {w : World} (h : VK C R n L Γ (KC P c fun e a w => Q' e a cs w)) (k : Kn n L a) (i : Inv C R Γ w) : c.wpS P Q' a cs w := wpS_of_wp (h.out a w k i).out
/-- a call of a function that may panic, where it is caught -/
theorem v_callX {d f : Nat} {xs : Array Operand} {ats : Array TypeId} {ty : TypeId} {pos : String} {af : Array Edge} {vs : List Value} {Rc Γc Γr : List Hp} {Post : Value → List Hp → Prop} {T : Value} {Pn : Prop}
    [hf : Fn1 P f] [hx : Evs L xs.toList vs] [hd : Is (Nat.ble n d = false)] (hs : SpecP D P f vs.toArray Rc Γc T Pn Post) [hp : Pick Γ Γc Γr] [hsub : Sub Rc R Γr]
    (hX : Pn → VK ⟨M, w0, D⟩ R n L Γr (KE Q (.panic [pe T])))
    (h : ∀ v Γ', Post v Γ' → VK ⟨M, w0, D⟩ R n ((d, v) :: L) (Γ' ++ Γr) K) : VK ⟨M, w0, D⟩ R n L Γ (wp1 P all Q ⟨some d, .call ⟨.value (.func f), xs, ats⟩, ty, pos, af, none⟩ K) := VK.mk fun a w k i => wp1.mk (by
  have hd' : d < n := lt_of_ble hd.out
  have hargs : xs.map a.eval = vs.toArray := by
    have := hx.out n a k
    apply Array.ext'
    simpa using this
  have hrun : (execOp a.eval ⟨some d, .call ⟨.value (.func f), xs, ats⟩, ty, pos, af, none⟩).run P w = .ok (.enter f vs.toArray) w := by
    simp [execOp, resolve, Act.eval, Deferred.ofValue, invoke, hargs, hf.out]
  simp only [Region.wanted, if_true]
  refine .inl ?_
  simp only [Oper.wp, hrun, Oper.upon]
  have hsub' : ∀ x ∈ Rc.flatten, x ∈ R.flatten ∨ x ∈ Γ.flatten := fun x hx => (hsub.out x hx).imp id fun h => hp.out.mem_iff.2 (List.mem_append_right _ h)
  refine (hs w (i.callee hp.out hsub' (apart_of i hp.out hsub.out))).mono ?_
  rintro e w' (⟨v, Γ', rfl, hP, j⟩ | ⟨hpn, rfl, j⟩)
  · exact (h v Γ' hP).out _ _ (k.put hd') (i.back hp.out j)
  · exact ((hX hpn).out _ _ k (i.back hp.out j)).out)
variable {ds : List Deferred} {ch : List PanicEntry}
theorem vx_then {K : Act → World → Prop} (h : VK C R n L Γ (KE Q (.panic ch))) : VK C R n L Γ (KE (Exit.then K Q) (.panic ch)) := VK.mk fun a w k i => KE.mk (h.out a w k i).out
theorem vx_block {id : Nat} (h : VK C R n L Γ (KE Q (.panic ch))) : VK C R n L Γ (KE (Exit.inBlock id Q) (.panic ch)) := VK.mk fun a w k i => KE.mk (h.out a w k i).out
theorem vx_thenD {K : Act → World → Prop} (h : VK C R n L Γ (KE (Qd ds Q) (.panic ch))) : VK C R n L Γ (KE (Qd ds (Exit.then K Q)) (.panic ch)) := VK.mk fun a w k i => KE.mk (h.out a w k i).out
theorem vx_blockD {id : Nat} (h : VK C R n L Γ (KE (Qd ds Q) (.panic ch))) : VK C R n L Γ (KE (Qd ds (Exit.inBlock id Q)) (.panic ch)) := VK.mk fun a w k i => KE.mk (h.out a w k i).out
theorem vx_thenN {K : Act → World → Prop} (h : VK C R n L Γ K) : VK C R n L Γ (KE (Exit.then K Q) .normal) := VK.mk fun a w k i => KE.mk (h.out a w k i)
/-- code with deferred calls behind -/
theorem vd_seq {x y : Code} (h : VK C R n L Γ (KCd ds P x (Exit.then (y.wp P Q) Q))) : VK C R n L Γ (KCd ds P (.seq x y) Q) := VK.mk fun a w k i => by
  unfold KCd
  have := h.out a w k i
  unfold KCd at this
  exact wp_seq this
theorem vd_block {id : Nat} {c : Code} (h : VK C R n L Γ (KCd ds P c (Exit.inBlock id Q))) : VK C R n L Γ (KCd ds P (.block id c) Q) := VK.mk fun a w k i => by
  unfold KCd
  have := h.out a w k i
  unfold KCd at this
  exact wp_block this
theorem vd_reg {id : Nat} {ops : Array Oper} {draw : Bool} (h : VK C R n L Γ (KR P ops draw (Qd ds Q))) : VK C R n L Γ (KCd ds P (.region id ops draw) Q) := VK.mk fun a w k i => by
  unfold KCd
  exact KR.mk (h.out a w k i)
theorem vd_skip (h : VK C R n L Γ (KE (Qd ds Q) .normal)) : VK C R n L Γ (KCd ds P .skip Q) := VK.mk fun a w k i => by
  unfold KCd
  exact wp_skip (h.out a w k i).out
theorem vd_condD {t : Nat} {p : Prop} [Decidable p] {x y : Code} [hl : Lk L t (.bool (decide p))] (h1 : p → VK C R n L Γ (KCd ds P x Q)) (h2 : ¬ p → VK C R n L Γ (KCd ds P y Q)) :
    VK C R n L Γ (KCd ds P (.cond (.tmp t) x y) Q) := VK.mk fun a w k i => by
  have e := (evTmp L t _).out n a k
  have e' : ({ a with defers := a.defers ++ ds } : Act).eval (.tmp t) = .bool (decide p) := e
  by_cases hp : p
  · have := (h1 hp).out a w k i
    unfold KCd at this ⊢
    exact wp_cond (t := true) (by rw [e']; simp [hp]) this
  · have := (h2 hp).out a w k i
    unfold KCd at this ⊢
    exact wp_cond (t := false) (by rw [e']; simp [hp]) this
/-- a closure is made and deferred -/
theorem v_deferR {id t g : Nat} {ty ty2 : TypeId} {p1 p2 : String} {af1 af2 : Array Edge} {caps : Array Operand} {cs : List Value} {y : Code} [hx : Evs L caps.toList cs] [hd : Is (Nat.ble n t = false)]
    (h : VK C R n ((t, .func (.func g) #[] cs.toArray) :: L) Γ (KCd [{ target := .fn (.func g) cs.toArray, args := #[] }] P y Q)) :
    VK C R n L Γ (KC P (.seq (.region id #[⟨some t, .makeFunc (.func g) #[] caps, ty, p1, af1, none⟩, ⟨none, .defer ⟨.value (.tmp t), #[], #[]⟩, ty2, p2, af2, none⟩] false) y) Q) := VK.mk fun a w k i => KC.mk (wp_seq (wp_region (by
  have hd' : t < n := lt_of_ble hd.out
  have hcaps : caps.map a.eval = cs.toArray := by
    have := hx.out n a k
    apply Array.ext'
    simpa using this
  have hk := k.put hd' (v := .func (.func g) #[] cs.toArray)
  have h2 := h.out _ _ hk i
  unfold KCd at h2
  have e0 : Region.wanted ⟨some t, .makeFunc (.func g) #[] caps, ty, p1, af1, none⟩ (yielded #[⟨some t, .makeFunc (.func g) #[] caps, ty, p1, af1, none⟩, ⟨none, .defer ⟨.value (.tmp t), #[], #[]⟩, ty2, p2, af2, none⟩] a.tmps) = true := rfl
  have hmf : (execOp a.eval ⟨some t, .makeFunc (.func g) #[] caps, ty, p1, af1, none⟩).run P w = .ok (.value (.func (.func g) #[] cs.toArray)) w := by
    simp [execOp, Instr.makeFunc, hcaps]
  have ht : (a.put (some t) (.func (.func g) #[] cs.toArray)).eval (.tmp t) = .func (.func g) #[] cs.toArray := (evTmp _ t _).out n _ hk
  have hdf : (execOp (a.put (some t) (.func (.func g) #[] cs.toArray)).eval ⟨none, .defer ⟨.value (.tmp t), #[], #[]⟩, ty2, p2, af2, none⟩).run P w = .ok (.defer { target := .fn (.func g) cs.toArray, args := #[] }) w := by
    simp [execOp, ht, resolve, Deferred.ofValue]
  show wpOps P _ _ [0, 1] a w
  simp only [wpOps, List.getElem?_toArray, List.getElem?_cons_zero, List.getElem?_cons_succ]
  rw [if_pos e0]
  refine .inl ?_
  simp only [Oper.wp, hmf, Oper.upon]
  have e1 : ∀ y, Region.wanted ⟨none, .defer ⟨.value (.tmp t), #[], #[]⟩, ty2, p2, af2, none⟩ y = true := fun _ => rfl
  rw [if_pos (e1 _)]
  refine .inl ?_
  simp only [Oper.wp, hdf, Oper.upon]
  have hdn : (a.put (some t) (.func (.func g) #[] cs.toArray)).defers = [] := kn_defers hk
  rw [hdn] at h2 ⊢
  exact h2)))
end
end Go.SX

/- wire.reader.read: whatever is read, or nothing where the bits end. -/
namespace Go.Proofs.YtdfoijfjlhjeaaaGreat
open Go Go.SX Go.RowKit
set_option maxRecDepth 100000
set_option maxHeartbeats 0
set_option synthInstance.maxSize 100000
set_option synthInstance.maxHeartbeats 400000
abbrev z26 (k : Int) : Array Value := #[.int .i64 k, .int .i64 0, .slice none 0 0, .slice none 0 0, .slice none 0 0, .int .i64 0, .int .i64 0, .int .i64 0, .int .i64 0, .int .i64 0, .int .i64 0, .int .i64 0, .int .i64 0, .int .i64 0, .int .i64 0, .int .i64 0, .int .i64 0, .int .i64 0, .int .i64 0, .int .i64 0, .int .i64 0, .int .i64 0, .int .i64 0, .int .i64 0, .int .i64 0, str []]
instance : IsIfc Tryz.prog 20 := ⟨⟨_, Tryz.underlying20⟩⟩
theorem catch_s (D : Bool) (bm bk : Nat) (k : Int) (x : Bool) : DefS D Tryz.prog 126 #[pt bm, pt bk] [[(bm, .cells (z26 k) 49 (0, 0))], [(bk, .cells #[.bool x] 4 (0, 0))]] [[(bm, .cells (z26 0) 49 (0, 0))], [(bk, .cells #[.bool false] 4 (0, 0))]] (.panicking [pe shortV]) (.panicking [pr shortV]) := fun w i => by
  refine callsD_of_wpS Tryz.func126 rfl fun c₀ cs' hu => ?_
  apply wpS_seq
  apply wpS_region
  simp [wpOpsS, go_sem, recoverD, hu, Tryz.ntmps126, Exit.thenS]
  refine VK.wpS (R := []) (n := 7) (L := [(2, shortV), (1, pt bk), (0, pt bm)]) ?_ (Kn.add (Kn.add (Kn.add (Kn.mk0 (by rfl) rfl) (by rfl)) (by rfl)) (by rfl)) i
  
  repeat' (first | refine stp ?_|fail)
  exact v_outS (u' := .panicking [pr shortV]) Tryz.results126
theorem catch0_s (D : Bool) (bm bk : Nat) : DefS D Tryz.prog 126 #[pt bm, pt bk] [] [] .returning .returning := fun w i => by
  refine callsD_of_wpS Tryz.func126 rfl fun c₀ cs' hu => ?_
  apply wpS_seq
  apply wpS_region
  simp [wpOpsS, go_sem, recoverD, hu, Tryz.ntmps126, Exit.thenS]
  refine VK.wpS (R := []) (n := 7) (L := [(2, .nilIface), (1, pt bk), (0, pt bm)]) ?_ (Kn.add (Kn.add (Kn.add (Kn.mk0 (by rfl) rfl) (by rfl)) (by rfl)) (by rfl)) i
  
  repeat' (first | refine stp ?_|fail)
  exact v_outS0 Tryz.results126 hu
end Go.Proofs.YtdfoijfjlhjeaaaGreat

/- bits.Reader.Done; wire.reader.read: whatever is read, or nothing where the bits end. -/
namespace Go.Proofs.YtdfoijfjlhjeaaaGreat
open Go Go.SX Go.RowKit
set_option maxRecDepth 100000
set_option maxHeartbeats 0
set_option synthInstance.maxSize 100000
set_option synthInstance.maxHeartbeats 400000
/-- nothing is left but noughts that fill a byte -/
abbrev Dn (bs : Bs) : Prop := bs.length < 8 ∧ valOf bs = 0
theorem dn_val {l : List UInt8} {n : Nat} (h1 : n < 8 * l.length) (h2 : 8 * l.length - n < 8) : valOf ((unp l).drop n) = (l[l.length - 1]'(by omega)).toNat % 2 ^ (8 * l.length - n) := by
  have e := unp_piece (l := l) (n := n) (m := 8 * l.length - n) (by omega) (by omega)
  rw [List.take_of_length_le (by rw [List.length_drop, unp_len]; exact Nat.le_refl _)] at e
  have e8 : n / 8 = l.length - 1 := by omega
  rw [e, valOf_bitsOf, show 8 - n % 8 - (8 * l.length - n) = 0 by omega, Nat.pow_zero, Nat.div_one]
  simp only [e8]
theorem done_s (b n : Nat) (l : List UInt8) (hn : n ≤ 8 * l.length) (hl : l.length ≤ 281474976710656) : SX.Spec Tryz.prog 131 #[pt b] [rdS b n l] [] fun v Γ => v = .bool (decide (Dn ((unp l).drop n))) ∧ Γ = [] := by
  have hlen : ((unp l).drop n).length = 8 * l.length - n := by rw [List.length_drop, unp_len]
  refine spec_of1 Tryz.func131 Tryz.ntmps131 rfl rfl (fun M w0 => ?_)
  repeat' (first | refine stp ?_|refine v_spD (fun hc=>?_) (fun hc=>?_)|refine ⟨?_,?_,?_⟩|refine ⟨?_,?_⟩|(refine v_tyc ?_ ?_;omega)|refine v_drawn0 (id:=4) pl131_4 (by kernel_rfl) ?_|fail)
  refine v_callR (left_s b n l hn hl) ?_
  rintro v Γ' ⟨rfl, rfl⟩
  (try dsimp only [List.cons_append, List.nil_append])
  repeat' (first | refine stp ?_|refine v_spD (fun hc=>?_) (fun hc=>?_)|refine ⟨?_,?_,?_⟩|refine ⟨?_,?_⟩|(refine v_tyc ?_ ?_;omega)|refine v_drawn0 (id:=4) pl131_4 (by kernel_rfl) ?_|fail)
  · rw [decide_eq_false (show ¬ Dn ((unp l).drop n) from fun h => by have := h.1; omega)]
    refine v_o1 Tryz.results131 ⟨rfl, rfl⟩ ⟨_, inferInstance⟩
  · rw [decide_eq_true (show Dn ((unp l).drop n) from by
      rw [List.eq_nil_of_length_eq_zero (by omega : ((unp l).drop n).length = 0)]; exact ⟨by decide, rfl⟩)]
    refine v_o1 Tryz.results131 ⟨rfl, rfl⟩ ⟨_, inferInstance⟩
  have hl1 : 0 < l.length := by omega
  have hi : ((l.length : Nat) : Int) - 1 = ((l.length - 1 : Nat) : Int) := by omega
  have hw : IntKind.u64.wrap ((8 * l.length - n : Nat) : Int) = ((8 * l.length - n : Nat) : Int) := u64_wrap (by omega)
  rw [hw]
  have hx : (((l.length : Nat) : Int) - 1).toNat = l.length - 1 := by omega
  have hv := dn_val (l := l) (n := n) (by omega) (by omega)
  have hbits : bits .and .u8 ((l[(((l.length : Nat) : Int) - 1).toNat]'(by omega)).toNat : Int) (IntKind.u8.wrap (shlI .u8 1 ((8 * l.length - n : Nat) : Int) - 1)) = ((valOf ((unp l).drop n) : Nat) : Int) := by
    rw [mask_u8 (by omega), and_u8 (UInt8.toNat_lt _) (by omega), hv]; simp only [hx]
  repeat' (first | refine stp ?_|refine v_spD (fun hc=>?_) (fun hc=>?_)|refine ⟨?_,?_,?_⟩|refine ⟨?_,?_⟩|(refine v_tyc ?_ ?_;omega)|refine v_drawn0 (id:=4) pl131_4 (by kernel_rfl) ?_|fail)
  rw [hbits, decide_eq_decide.2 (show ((valOf ((unp l).drop n) : Nat) : Int) = 0 ↔ Dn ((unp l).drop n) from ⟨fun h => ⟨by omega, by omega⟩, fun h => by have := h.2; omega⟩)]
  refine v_o1 Tryz.results131 ⟨rfl, rfl⟩ ⟨_, inferInstance⟩
end Go.Proofs.YtdfoijfjlhjeaaaGreat

/- wire.reader.read. -/
namespace Go.Proofs.YtdfoijfjlhjeaaaGreat
open Go Go.SX Go.RowKit
set_option maxRecDepth 100000
set_option maxHeartbeats 0
set_option synthInstance.maxSize 100000
set_option synthInstance.maxHeartbeats 400000
instance (d : Nat) [h : Is (Nat.ble d 3 = false)] : NoRes Tryz.f78 d := noRes2 Tryz.results78 (by have := lt_of_ble h.out; omega) (by have := lt_of_ble h.out; omega)
section
variable (b : Nat) (l : List UInt8) (hl : l.length ≤ 281474976710656)
include hl
theorem read_s (bs : Bs) (s : Hp) (hs : RdAt b l s bs) : SX.Spec Tryz.prog 78 #[rdr b] [] [s] fun V Γ =>
    (∃ x bs' s' Γ' cs, rdBody bs = some (x, bs') ∧ RdAt b l s' bs' ∧ MsgO x.msg cs Γ' ∧ V = .tuple #[.agg cs, .bool (decide (Dn bs'))] ∧ Γ = s' :: Γ') ∨ (rdBody bs = none ∧ V = .tuple #[.agg (z26 0), .bool false] ∧ Γ = []) := by
  refine spec_d1 Tryz.func78 Tryz.ntmps78 rfl rfl (fun M w0 => ?_)
  have hstop1 := @stopR Tryz.prog 1
  repeat' (first | refine stp ?_|(refine v_yc ?_ ?_;omega)|refine v_alloc' (fun ba=>?_)|refine v_box (fun bb=>?_)|refine ⟨?_,?_,?_⟩|refine ⟨?_,?_⟩|refine v_tValT (by decide +kernel) ?_|refine v_drawnK (id:=7) 6 pl78_7 (by kernel_rfl) ?_|refine v_drawnK (id:=12) 4 pl78_12 (by kernel_rfl) ?_|fail)
  refine Stopped.go <| v_deferR ?_
  repeat' (first | refine vd_seqR ?_ | refine v_kr ?_ | refine vd_seq ?_ | refine vd_block ?_ | refine vd_reg ?_ | refine vd_blockN ?_ | refine vd_then ?_ | refine vx_thenN ?_ | refine vd_ret ?_ | refine vd_condD ?_ ?_)
  repeat' (first | refine stp ?_|(refine v_yc ?_ ?_;omega)|refine v_alloc' (fun ba=>?_)|refine v_box (fun bb=>?_)|refine ⟨?_,?_,?_⟩|refine ⟨?_,?_⟩|refine v_tValT (by decide +kernel) ?_|refine v_drawnK (id:=7) 6 pl78_7 (by kernel_rfl) ?_|refine v_drawnK (id:=12) 4 pl78_12 (by kernel_rfl) ?_|fail)
  refine v_callX (num_s b l hl 2 (by decide) (by decide) bs s hs) (fun h => ?_) ?_
  · exact vx_then (v_panD2 (Γk := []) Tryz.results78 (catch_s false _ _ 0 false) (.inr ⟨by simp [rdBody, rdBind, h], rfl, rfl⟩))
  rintro v Γ' ⟨x, bs1, s1, Γ1, hx, hs1, ⟨rfl, rfl⟩, rfl⟩
  have hx0 := ((numC 2).forth _ _ _ hx).2
  have hx4 : (2 : Int) ^ 2 = 4 := rfl
  have hb : rdBody bs = rdPart (x + 1) bs1 := by simp [rdBody, rdBind, hx]
  (try dsimp only [List.cons_append, List.nil_append])
  repeat' (first | refine stp ?_|(refine v_yc ?_ ?_;omega)|refine v_alloc' (fun ba=>?_)|refine v_box (fun bb=>?_)|refine ⟨?_,?_,?_⟩|refine ⟨?_,?_⟩|refine v_tValT (by decide +kernel) ?_|refine v_drawnK (id:=7) 6 pl78_7 (by kernel_rfl) ?_|refine v_drawnK (id:=12) 4 pl78_12 (by kernel_rfl) ?_|fail)
  repeat' (first | refine vd_seqR ?_ | refine v_kr ?_ | refine vd_seq ?_ | refine vd_block ?_ | refine vd_reg ?_ | refine vd_blockN ?_ | refine vd_then ?_ | refine vx_thenN ?_ | refine vd_ret ?_ | refine vd_condD ?_ ?_)
  repeat' (first | refine stp ?_|(refine v_yc ?_ ?_;omega)|refine v_alloc' (fun ba=>?_)|refine v_box (fun bb=>?_)|refine ⟨?_,?_,?_⟩|refine ⟨?_,?_⟩|refine v_tValT (by decide +kernel) ?_|refine v_drawnK (id:=7) 6 pl78_7 (by kernel_rfl) ?_|refine v_drawnK (id:=12) 4 pl78_12 (by kernel_rfl) ?_|fail)
  repeat' (first | refine vd_seqR ?_ | refine v_kr ?_ | refine vd_seq ?_ | refine vd_block ?_ | refine vd_reg ?_ | refine vd_blockN ?_ | refine vd_then ?_ | refine vx_thenN ?_ | refine vd_ret ?_ | refine vd_condD ?_ ?_)
  repeat' (first | refine stp ?_|(refine v_yc ?_ ?_;omega)|refine v_alloc' (fun ba=>?_)|refine v_box (fun bb=>?_)|refine ⟨?_,?_,?_⟩|refine ⟨?_,?_⟩|refine v_tValT (by decide +kernel) ?_|refine v_drawnK (id:=7) 6 pl78_7 (by kernel_rfl) ?_|refine v_drawnK (id:=12) 4 pl78_12 (by kernel_rfl) ?_|fail)
  repeat' (first | refine vd_seqR ?_ | refine v_kr ?_ | refine vd_seq ?_ | refine vd_block ?_ | refine vd_reg ?_ | refine vd_blockN ?_ | refine vd_then ?_ | refine vx_thenN ?_ | refine vd_ret ?_ | refine vd_condD ?_ ?_)
  · intro hc
    repeat' (first | refine vd_seqR ?_ | refine v_kr ?_ | refine vd_seq ?_ | refine vd_block ?_ | refine vd_reg ?_ | refine vd_blockN ?_ | refine vd_then ?_ | refine vx_thenN ?_ | refine vd_ret ?_ | refine vd_condD ?_ ?_)
    rw [hc, rdPart1] at hb
    repeat' (first | refine stp ?_|(refine v_yc ?_ ?_;omega)|refine v_alloc' (fun ba=>?_)|refine v_box (fun bb=>?_)|refine ⟨?_,?_,?_⟩|refine ⟨?_,?_⟩|refine v_tValT (by decide +kernel) ?_|refine v_drawnK (id:=7) 6 pl78_7 (by kernel_rfl) ?_|refine v_drawnK (id:=12) 4 pl78_12 (by kernel_rfl) ?_|fail)
    refine v_callX (rekey_s b l hl bs1 s1 hs1) (fun h => ?_) ?_
    · exact vx_blockD (vx_thenD (v_panD2 (Γk := []) Tryz.results78 (catch_s false _ _ (x + 1) false) (.inr ⟨by rw [hb]; simp [rdMap, rdBind, h], rfl, rfl⟩)))
    rintro v Γ' ⟨y, bs2, s2, Γ2, hy, hs2, ⟨v1, t1, v2, t2, v3, t3, rfl, o1, o2, o3, rfl⟩, rfl⟩
    rw [rdMap_back hy] at hb
    (try dsimp only [List.cons_append, List.nil_append])
    repeat' (first | refine stp ?_|(refine v_yc ?_ ?_;omega)|refine v_alloc' (fun ba=>?_)|refine v_box (fun bb=>?_)|refine ⟨?_,?_,?_⟩|refine ⟨?_,?_⟩|refine v_tValT (by decide +kernel) ?_|refine v_drawnK (id:=7) 6 pl78_7 (by kernel_rfl) ?_|refine v_drawnK (id:=12) 4 pl78_12 (by kernel_rfl) ?_|fail)
    repeat' (first | refine vd_seqR ?_ | refine v_kr ?_ | refine vd_seq ?_ | refine vd_block ?_ | refine vd_reg ?_ | refine vd_blockN ?_ | refine vd_then ?_ | refine vx_thenN ?_ | refine vd_ret ?_ | refine vd_condD ?_ ?_)
    refine v_krDK 4 pl78_12 (by kernel_rfl) ?_
    obtain ⟨n2, hn2, rfl, rfl⟩ := hs2
    repeat' (first | refine stp ?_|(refine v_yc ?_ ?_;omega)|refine v_alloc' (fun ba=>?_)|refine v_box (fun bb=>?_)|refine ⟨?_,?_,?_⟩|refine ⟨?_,?_⟩|refine v_tValT (by decide +kernel) ?_|refine v_drawnK (id:=7) 6 pl78_7 (by kernel_rfl) ?_|refine v_drawnK (id:=12) 4 pl78_12 (by kernel_rfl) ?_|fail)
    refine v_callR (done_s b n2 l hn2 hl) ?_
    rintro v Γ' ⟨rfl, rfl⟩
    (try dsimp only [List.cons_append, List.nil_append])
    repeat' (first | refine stp ?_|(refine v_yc ?_ ?_;omega)|refine v_alloc' (fun ba=>?_)|refine v_box (fun bb=>?_)|refine ⟨?_,?_,?_⟩|refine ⟨?_,?_⟩|refine v_tValT (by decide +kernel) ?_|refine v_drawnK (id:=7) 6 pl78_7 (by kernel_rfl) ?_|refine v_drawnK (id:=12) 4 pl78_12 (by kernel_rfl) ?_|fail)
    repeat' (first | refine vd_seqR ?_ | refine v_kr ?_ | refine vd_seq ?_ | refine vd_block ?_ | refine vd_reg ?_ | refine vd_blockN ?_ | refine vd_then ?_ | refine vx_thenN ?_ | refine vd_ret ?_ | refine vd_condD ?_ ?_)
    repeat' (first | refine stp ?_|(refine v_yc ?_ ?_;omega)|refine v_alloc' (fun ba=>?_)|refine v_box (fun bb=>?_)|refine ⟨?_,?_,?_⟩|refine ⟨?_,?_⟩|refine v_tValT (by decide +kernel) ?_|refine v_drawnK (id:=7) 6 pl78_7 (by kernel_rfl) ?_|refine v_drawnK (id:=12) 4 pl78_12 (by kernel_rfl) ?_|fail)
    repeat' (first | refine vd_seqR ?_ | refine v_kr ?_ | refine vd_seq ?_ | refine vd_block ?_ | refine vd_reg ?_ | refine vd_blockN ?_ | refine vd_then ?_ | refine vx_thenN ?_ | refine vd_ret ?_ | refine vd_condD ?_ ?_)
    refine v_outD2 (Γk := [rdS b n2 l, t1, t2, t3]) Tryz.results78 (catch0_s false _ _) ?_
    exact .inl ⟨_, _, _, _, _, hb, ⟨n2, hn2, rfl, rfl⟩, ⟨_, _, _, _, _, _, ⟨_, _, _, rfl, by rw [hc]; rfl⟩, o1, o2, o3, rfl⟩, rfl, rfl⟩
  intro hn1
  repeat' (first | refine vd_seqR ?_ | refine v_kr ?_ | refine vd_seq ?_ | refine vd_block ?_ | refine vd_reg ?_ | refine vd_blockN ?_ | refine vd_then ?_ | refine vx_thenN ?_ | refine vd_ret ?_ | refine vd_condD ?_ ?_)
  repeat' (first | refine stp ?_|(refine v_yc ?_ ?_;omega)|refine v_alloc' (fun ba=>?_)|refine v_box (fun bb=>?_)|refine ⟨?_,?_,?_⟩|refine ⟨?_,?_⟩|refine v_tValT (by decide +kernel) ?_|refine v_drawnK (id:=7) 6 pl78_7 (by kernel_rfl) ?_|refine v_drawnK (id:=12) 4 pl78_12 (by kernel_rfl) ?_|fail)
  repeat' (first | refine vd_seqR ?_ | refine v_kr ?_ | refine vd_seq ?_ | refine vd_block ?_ | refine vd_reg ?_ | refine vd_blockN ?_ | refine vd_then ?_ | refine vx_thenN ?_ | refine vd_ret ?_ | refine vd_condD ?_ ?_)
  · intro hc
    repeat' (first | refine vd_seqR ?_ | refine v_kr ?_ | refine vd_seq ?_ | refine vd_block ?_ | refine vd_reg ?_ | refine vd_blockN ?_ | refine vd_then ?_ | refine vx_thenN ?_ | refine vd_ret ?_ | refine vd_condD ?_ ?_)
    rw [hc, rdPart2] at hb
    refine v_krD 6 pl78_7 [] [[(bb, .cells #[pt b] 150 (0, 0))]] (by kernel_rfl) ?_
    repeat' (first | refine stp ?_|(refine v_yc ?_ ?_;omega)|refine v_alloc' (fun ba=>?_)|refine v_box (fun bb=>?_)|refine ⟨?_,?_,?_⟩|refine ⟨?_,?_⟩|refine v_tValT (by decide +kernel) ?_|refine v_drawnK (id:=7) 6 pl78_7 (by kernel_rfl) ?_|refine v_drawnK (id:=12) 4 pl78_12 (by kernel_rfl) ?_|fail)
    refine v_callX (num_s b l hl 8 (by decide) (by decide) bs1 s1 hs1) (fun h => ?_) ?_
    · exact vx_blockD (vx_thenD (v_panD2 (Γk := []) Tryz.results78 (catch_s false _ _ (x + 1) false) (.inr ⟨by rw [hb]; simp [rdReq, rdMap, rdBind, h], rfl, rfl⟩)))
    rintro v Γ' ⟨y, bs2, s2, Γ2, hy, hs2, ⟨rfl, rfl⟩, rfl⟩
    (try dsimp only [List.cons_append, List.nil_append])
    repeat' (first | refine stp ?_|(refine v_yc ?_ ?_;omega)|refine v_alloc' (fun ba=>?_)|refine v_box (fun bb=>?_)|refine ⟨?_,?_,?_⟩|refine ⟨?_,?_⟩|refine v_tValT (by decide +kernel) ?_|refine v_drawnK (id:=7) 6 pl78_7 (by kernel_rfl) ?_|refine v_drawnK (id:=12) 4 pl78_12 (by kernel_rfl) ?_|fail)
    refine v_callX (num_s b l hl 8 (by decide) (by decide) bs2 s2 hs2) (fun h => ?_) ?_
    · exact vx_blockD (vx_thenD (v_panD2 (Γk := []) Tryz.results78 (catch_s false _ _ (x + 1) false) (.inr ⟨by rw [hb]; simp [rdReq, rdMap, rdBind, hy, h], rfl, rfl⟩)))
    rintro v Γ' ⟨z, bs3, s3, Γ3, hz, hs2, ⟨rfl, rfl⟩, rfl⟩
    replace hb : rdBody bs = some (.request y z, bs3) := by rw [hb]; simp [rdReq, rdMap, rdBind, hy, hz]
    (try dsimp only [List.cons_append, List.nil_append])
    repeat' (first | refine stp ?_|(refine v_yc ?_ ?_;omega)|refine v_alloc' (fun ba=>?_)|refine v_box (fun bb=>?_)|refine ⟨?_,?_,?_⟩|refine ⟨?_,?_⟩|refine v_tValT (by decide +kernel) ?_|refine v_drawnK (id:=7) 6 pl78_7 (by kernel_rfl) ?_|refine v_drawnK (id:=12) 4 pl78_12 (by kernel_rfl) ?_|fail)
    repeat' (first | refine vd_seqR ?_ | refine v_kr ?_ | refine vd_seq ?_ | refine vd_block ?_ | refine vd_reg ?_ | refine vd_blockN ?_ | refine vd_then ?_ | refine vx_thenN ?_ | refine vd_ret ?_ | refine vd_condD ?_ ?_)
    refine v_krDK 4 pl78_12 (by kernel_rfl) ?_
    obtain ⟨n2, hn2, rfl, rfl⟩ := hs2
    repeat' (first | refine stp ?_|(refine v_yc ?_ ?_;omega)|refine v_alloc' (fun ba=>?_)|refine v_box (fun bb=>?_)|refine ⟨?_,?_,?_⟩|refine ⟨?_,?_⟩|refine v_tValT (by decide +kernel) ?_|refine v_drawnK (id:=7) 6 pl78_7 (by kernel_rfl) ?_|refine v_drawnK (id:=12) 4 pl78_12 (by kernel_rfl) ?_|fail)
    refine v_callR (done_s b n2 l hn2 hl) ?_
    rintro v Γ' ⟨rfl, rfl⟩
    (try dsimp only [List.cons_append, List.nil_append])
    repeat' (first | refine stp ?_|(refine v_yc ?_ ?_;omega)|refine v_alloc' (fun ba=>?_)|refine v_box (fun bb=>?_)|refine ⟨?_,?_,?_⟩|refine ⟨?_,?_⟩|refine v_tValT (by decide +kernel) ?_|refine v_drawnK (id:=7) 6 pl78_7 (by kernel_rfl) ?_|refine v_drawnK (id:=12) 4 pl78_12 (by kernel_rfl) ?_|fail)
    repeat' (first | refine vd_seqR ?_ | refine v_kr ?_ | refine vd_seq ?_ | refine vd_block ?_ | refine vd_reg ?_ | refine vd_blockN ?_ | refine vd_then ?_ | refine vx_thenN ?_ | refine vd_ret ?_ | refine vd_condD ?_ ?_)
    repeat' (first | refine stp ?_|(refine v_yc ?_ ?_;omega)|refine v_alloc' (fun ba=>?_)|refine v_box (fun bb=>?_)|refine ⟨?_,?_,?_⟩|refine ⟨?_,?_⟩|refine v_tValT (by decide +kernel) ?_|refine v_drawnK (id:=7) 6 pl78_7 (by kernel_rfl) ?_|refine v_drawnK (id:=12) 4 pl78_12 (by kernel_rfl) ?_|fail)
    repeat' (first | refine vd_seqR ?_ | refine v_kr ?_ | refine vd_seq ?_ | refine vd_block ?_ | refine vd_reg ?_ | refine vd_blockN ?_ | refine vd_then ?_ | refine vx_thenN ?_ | refine vd_ret ?_ | refine vd_condD ?_ ?_)
    refine v_outD2 (Γk := [rdS b n2 l, [], [], []]) Tryz.results78 (catch0_s false _ _) ?_
    exact .inl ⟨_, _, _, _, _, hb, ⟨n2, hn2, rfl, rfl⟩, ⟨_, _, _, _, _, _, ⟨_, _, _, rfl, by rw [hc]; rfl⟩, OwnS.nil, OwnS.nil, OwnS.nil, rfl⟩, rfl, rfl⟩
  intro hn2
  repeat' (first | refine vd_seqR ?_ | refine v_kr ?_ | refine vd_seq ?_ | refine vd_block ?_ | refine vd_reg ?_ | refine vd_blockN ?_ | refine vd_then ?_ | refine vx_thenN ?_ | refine vd_ret ?_ | refine vd_condD ?_ ?_)
  repeat' (first | refine stp ?_|(refine v_yc ?_ ?_;omega)|refine v_alloc' (fun ba=>?_)|refine v_box (fun bb=>?_)|refine ⟨?_,?_,?_⟩|refine ⟨?_,?_⟩|refine v_tValT (by decide +kernel) ?_|refine v_drawnK (id:=7) 6 pl78_7 (by kernel_rfl) ?_|refine v_drawnK (id:=12) 4 pl78_12 (by kernel_rfl) ?_|fail)
  repeat' (first | refine vd_seqR ?_ | refine v_kr ?_ | refine vd_seq ?_ | refine vd_block ?_ | refine vd_reg ?_ | refine vd_blockN ?_ | refine vd_then ?_ | refine vx_thenN ?_ | refine vd_ret ?_ | refine vd_condD ?_ ?_)
  · intro hc
    repeat' (first | refine vd_seqR ?_ | refine v_kr ?_ | refine vd_seq ?_ | refine vd_block ?_ | refine vd_reg ?_ | refine vd_blockN ?_ | refine vd_then ?_ | refine vx_thenN ?_ | refine vd_ret ?_ | refine vd_condD ?_ ?_)
    rw [hc, rdPart3] at hb
    repeat' (first | refine stp ?_|(refine v_yc ?_ ?_;omega)|refine v_alloc' (fun ba=>?_)|refine v_box (fun bb=>?_)|refine ⟨?_,?_,?_⟩|refine ⟨?_,?_⟩|refine v_tValT (by decide +kernel) ?_|refine v_drawnK (id:=7) 6 pl78_7 (by kernel_rfl) ?_|refine v_drawnK (id:=12) 4 pl78_12 (by kernel_rfl) ?_|fail)
    refine v_callX (reply_s b l hl bs1 s1 hs1) (fun h => ?_) ?_
    · exact vx_blockD (vx_thenD (v_panD2 (Γk := []) Tryz.results78 (catch_s false _ _ (x + 1) false) (.inr ⟨by rw [hb]; simp [rdMap, rdBind, h], rfl, rfl⟩)))
    rintro v Γ' ⟨y, bs2, s2, Γ2, hy, hs2, ⟨rfl, rfl⟩, rfl⟩
    have hp := ((replyC.forth _ _ _ hy).2).2.1
    obtain ⟨q1, q2, q3, q4⟩ := y
    match q4, hp with
    | [p1, p2, p3], _ =>
    rw [rdMap_back hy] at hb
    simp only [repC]
    (try dsimp only [List.cons_append, List.nil_append])
    repeat' (first | refine stp ?_|(refine v_yc ?_ ?_;omega)|refine v_alloc' (fun ba=>?_)|refine v_box (fun bb=>?_)|refine ⟨?_,?_,?_⟩|refine ⟨?_,?_⟩|refine v_tValT (by decide +kernel) ?_|refine v_drawnK (id:=7) 6 pl78_7 (by kernel_rfl) ?_|refine v_drawnK (id:=12) 4 pl78_12 (by kernel_rfl) ?_|fail)
    repeat' (first | refine vd_seqR ?_ | refine v_kr ?_ | refine vd_seq ?_ | refine vd_block ?_ | refine vd_reg ?_ | refine vd_blockN ?_ | refine vd_then ?_ | refine vx_thenN ?_ | refine vd_ret ?_ | refine vd_condD ?_ ?_)
    refine v_krDK 4 pl78_12 (by kernel_rfl) ?_
    obtain ⟨n2, hn2, rfl, rfl⟩ := hs2
    repeat' (first | refine stp ?_|(refine v_yc ?_ ?_;omega)|refine v_alloc' (fun ba=>?_)|refine v_box (fun bb=>?_)|refine ⟨?_,?_,?_⟩|refine ⟨?_,?_⟩|refine v_tValT (by decide +kernel) ?_|refine v_drawnK (id:=7) 6 pl78_7 (by kernel_rfl) ?_|refine v_drawnK (id:=12) 4 pl78_12 (by kernel_rfl) ?_|fail)
    refine v_callR (done_s b n2 l hn2 hl) ?_
    rintro v Γ' ⟨rfl, rfl⟩
    (try dsimp only [List.cons_append, List.nil_append])
    repeat' (first | refine stp ?_|(refine v_yc ?_ ?_;omega)|refine v_alloc' (fun ba=>?_)|refine v_box (fun bb=>?_)|refine ⟨?_,?_,?_⟩|refine ⟨?_,?_⟩|refine v_tValT (by decide +kernel) ?_|refine v_drawnK (id:=7) 6 pl78_7 (by kernel_rfl) ?_|refine v_drawnK (id:=12) 4 pl78_12 (by kernel_rfl) ?_|fail)
    repeat' (first | refine vd_seqR ?_ | refine v_kr ?_ | refine vd_seq ?_ | refine vd_block ?_ | refine vd_reg ?_ | refine vd_blockN ?_ | refine vd_then ?_ | refine vx_thenN ?_ | refine vd_ret ?_ | refine vd_condD ?_ ?_)
    repeat' (first | refine stp ?_|(refine v_yc ?_ ?_;omega)|refine v_alloc' (fun ba=>?_)|refine v_box (fun bb=>?_)|refine ⟨?_,?_,?_⟩|refine ⟨?_,?_⟩|refine v_tValT (by decide +kernel) ?_|refine v_drawnK (id:=7) 6 pl78_7 (by kernel_rfl) ?_|refine v_drawnK (id:=12) 4 pl78_12 (by kernel_rfl) ?_|fail)
    repeat' (first | refine vd_seqR ?_ | refine v_kr ?_ | refine vd_seq ?_ | refine vd_block ?_ | refine vd_reg ?_ | refine vd_blockN ?_ | refine vd_then ?_ | refine vx_thenN ?_ | refine vd_ret ?_ | refine vd_condD ?_ ?_)
    refine v_outD2 (Γk := [rdS b n2 l, [], [], []]) Tryz.results78 (catch0_s false _ _) ?_
    exact .inl ⟨_, _, _, _, _, hb, ⟨n2, hn2, rfl, rfl⟩, ⟨_, _, _, _, _, _, ⟨p1, p2, p3, rfl, by rw [hc]; rfl⟩, OwnS.nil, OwnS.nil, OwnS.nil, rfl⟩, rfl, rfl⟩
  intro hn3
  repeat' (first | refine vd_seqR ?_ | refine v_kr ?_ | refine vd_seq ?_ | refine vd_block ?_ | refine vd_reg ?_ | refine vd_blockN ?_ | refine vd_then ?_ | refine vx_thenN ?_ | refine vd_ret ?_ | refine vd_condD ?_ ?_)
  repeat' (first | refine stp ?_|(refine v_yc ?_ ?_;omega)|refine v_alloc' (fun ba=>?_)|refine v_box (fun bb=>?_)|refine ⟨?_,?_,?_⟩|refine ⟨?_,?_⟩|refine v_tValT (by decide +kernel) ?_|refine v_drawnK (id:=7) 6 pl78_7 (by kernel_rfl) ?_|refine v_drawnK (id:=12) 4 pl78_12 (by kernel_rfl) ?_|fail)
  repeat' (first | refine vd_seqR ?_ | refine v_kr ?_ | refine vd_seq ?_ | refine vd_block ?_ | refine vd_reg ?_ | refine vd_blockN ?_ | refine vd_then ?_ | refine vx_thenN ?_ | refine vd_ret ?_ | refine vd_condD ?_ ?_)
  · intro hc
    repeat' (first | refine vd_seqR ?_ | refine v_kr ?_ | refine vd_seq ?_ | refine vd_block ?_ | refine vd_reg ?_ | refine vd_blockN ?_ | refine vd_then ?_ | refine vx_thenN ?_ | refine vd_ret ?_ | refine vd_condD ?_ ?_)
    rw [hc, rdPart4] at hb
    repeat' (first | refine stp ?_|(refine v_yc ?_ ?_;omega)|refine v_alloc' (fun ba=>?_)|refine v_box (fun bb=>?_)|refine ⟨?_,?_,?_⟩|refine ⟨?_,?_⟩|refine v_tValT (by decide +kernel) ?_|refine v_drawnK (id:=7) 6 pl78_7 (by kernel_rfl) ?_|refine v_drawnK (id:=12) 4 pl78_12 (by kernel_rfl) ?_|fail)
    refine v_callX (sealed_s b l hl bs1 s1 hs1) (fun h => ?_) ?_
    · exact vx_blockD (vx_thenD (v_panD2 (Γk := []) Tryz.results78 (catch_s false _ _ (x + 1) false) (.inr ⟨by rw [hb]; simp [rdMap, rdBind, h], rfl, rfl⟩)))
    rintro v Γ' ⟨y, bs2, s2, Γ2, hy, hs2, ⟨rfl, rfl⟩, rfl⟩
    rw [rdMap_back hy] at hb
    (try dsimp only [List.cons_append, List.nil_append])
    repeat' (first | refine stp ?_|(refine v_yc ?_ ?_;omega)|refine v_alloc' (fun ba=>?_)|refine v_box (fun bb=>?_)|refine ⟨?_,?_,?_⟩|refine ⟨?_,?_⟩|refine v_tValT (by decide +kernel) ?_|refine v_drawnK (id:=7) 6 pl78_7 (by kernel_rfl) ?_|refine v_drawnK (id:=12) 4 pl78_12 (by kernel_rfl) ?_|fail)
    repeat' (first | refine vd_seqR ?_ | refine v_kr ?_ | refine vd_seq ?_ | refine vd_block ?_ | refine vd_reg ?_ | refine vd_blockN ?_ | refine vd_then ?_ | refine vx_thenN ?_ | refine vd_ret ?_ | refine vd_condD ?_ ?_)
    refine v_krDK 4 pl78_12 (by kernel_rfl) ?_
    obtain ⟨n2, hn2, rfl, rfl⟩ := hs2
    repeat' (first | refine stp ?_|(refine v_yc ?_ ?_;omega)|refine v_alloc' (fun ba=>?_)|refine v_box (fun bb=>?_)|refine ⟨?_,?_,?_⟩|refine ⟨?_,?_⟩|refine v_tValT (by decide +kernel) ?_|refine v_drawnK (id:=7) 6 pl78_7 (by kernel_rfl) ?_|refine v_drawnK (id:=12) 4 pl78_12 (by kernel_rfl) ?_|fail)
    refine v_callR (done_s b n2 l hn2 hl) ?_
    rintro v Γ' ⟨rfl, rfl⟩
    (try dsimp only [List.cons_append, List.nil_append])
    repeat' (first | refine stp ?_|(refine v_yc ?_ ?_;omega)|refine v_alloc' (fun ba=>?_)|refine v_box (fun bb=>?_)|refine ⟨?_,?_,?_⟩|refine ⟨?_,?_⟩|refine v_tValT (by decide +kernel) ?_|refine v_drawnK (id:=7) 6 pl78_7 (by kernel_rfl) ?_|refine v_drawnK (id:=12) 4 pl78_12 (by kernel_rfl) ?_|fail)
    repeat' (first | refine vd_seqR ?_ | refine v_kr ?_ | refine vd_seq ?_ | refine vd_block ?_ | refine vd_reg ?_ | refine vd_blockN ?_ | refine vd_then ?_ | refine vx_thenN ?_ | refine vd_ret ?_ | refine vd_condD ?_ ?_)
    repeat' (first | refine stp ?_|(refine v_yc ?_ ?_;omega)|refine v_alloc' (fun ba=>?_)|refine v_box (fun bb=>?_)|refine ⟨?_,?_,?_⟩|refine ⟨?_,?_⟩|refine v_tValT (by decide +kernel) ?_|refine v_drawnK (id:=7) 6 pl78_7 (by kernel_rfl) ?_|refine v_drawnK (id:=12) 4 pl78_12 (by kernel_rfl) ?_|fail)
    repeat' (first | refine vd_seqR ?_ | refine v_kr ?_ | refine vd_seq ?_ | refine vd_block ?_ | refine vd_reg ?_ | refine vd_blockN ?_ | refine vd_then ?_ | refine vx_thenN ?_ | refine vd_ret ?_ | refine vd_condD ?_ ?_)
    refine v_outD2 (Γk := [rdS b n2 l, [], [], []]) Tryz.results78 (catch0_s false _ _) ?_
    exact .inl ⟨_, _, _, _, _, hb, ⟨n2, hn2, rfl, rfl⟩, ⟨_, _, _, _, _, _, ⟨_, _, _, rfl, by rw [hc]; rfl⟩, OwnS.nil, OwnS.nil, OwnS.nil, rfl⟩, rfl, rfl⟩
  · intro hn4; exfalso; omega
end
end Go.Proofs.YtdfoijfjlhjeaaaGreat

/- wire.Decode. -/
namespace Go.Proofs.YtdfoijfjlhjeaaaGreat
open Go Go.SX Go.RowKit
set_option maxRecDepth 100000
set_option maxHeartbeats 0
set_option synthInstance.maxSize 100000
set_option synthInstance.maxHeartbeats 400000
/-- the message of these bytes -/
def decP (l : List UInt8) : Option Body := match rdBody (unp l) with
  | some (x, r) => if Dn r ∧ GoodM x.msg then some x else none
  | none => none
theorem body_len {b r : Bs} {x : Body} (h : rdBody b = some (x, r)) : x.msg.Rekey.Leaves.length + x.msg.Rekey.Joins.length + x.msg.Rekey.Items.length < 4611686018427387904 := by
  have ho := (bodyC.forth _ _ _ h).2
  cases x with
  | rekey r =>
    obtain ⟨⟨⟨_, h1, _⟩, h2, _⟩, h3, _⟩ := ho
    have e1 := h1.2
    have e2 := h2.2
    have e3 := h3.2
    have p7 : (2 : Int) ^ 7 = 128 := rfl
    have p11 : (2 : Int) ^ 11 = 2048 := rfl
    show r.Leaves.length + r.Joins.length + r.Items.length < _
    omega
  | _ => show 0 + 0 + 0 < _; decide
theorem bread_s (l : List UInt8) : SX.Spec Tryz.prog 77 #[str l] [] [] fun v Γ => ∃ b, v = pt b ∧ Γ = [rdS b 0 l] := by
  refine spec_of1 Tryz.func77 Tryz.ntmps77 rfl rfl (fun M w0 => ?_)
  repeat' (first | refine stp ?_|refine v_box (fun bb=>?_)|fail)
  refine v_o1 Tryz.results77 ⟨_, rfl, rfl⟩ ⟨_, inferInstance⟩
theorem dec_s (l : List UInt8) (hl : l.length ≤ 281474976710656) : SX.Spec Tryz.prog 30 #[str l] [] [] fun V Γ =>
    (∃ x cs, decP l = some x ∧ MsgO x.msg cs Γ ∧ V = .tuple #[.agg cs, .int .i64 0]) ∨ (decP l = none ∧ V = .tuple #[.agg (z26 0), .int .i64 13] ∧ Γ = []) := by
  refine spec_of1 Tryz.func30 Tryz.ntmps30 rfl rfl (fun M w0 => ?_)
  repeat' (first | refine stp ?_|refine v_spD (fun hc=>?_) (fun hc=>?_)|refine v_alloc' (fun ba=>?_)|fail)
  refine v_callR (bread_s l) ?_
  rintro v Γ' ⟨b, rfl, rfl⟩
  (try dsimp only [List.cons_append, List.nil_append])
  repeat' (first | refine stp ?_|refine v_spD (fun hc=>?_) (fun hc=>?_)|refine v_alloc' (fun ba=>?_)|fail)
  refine v_callO (read_s b l hl (unp l) (rdS b 0 l) ⟨0, Nat.zero_le _, rfl, rfl⟩) ?_
  rintro v Γ' (⟨x, bs', s', Γ', cs, hx, ⟨n, hn, rfl, hbs⟩, ⟨v1, s1, v2, s2, v3, s3, ⟨p1, p2, p3, hp, rfl⟩, o1, o2, o3, rfl⟩, rfl, rfl⟩ | ⟨h, rfl, rfl⟩)
  · have hd : decP l = if Dn bs' ∧ GoodM x.msg then some x else none := by unfold decP; rw [hx]
    (try dsimp only [List.cons_append, List.nil_append])
    repeat' (first | refine stp ?_|refine v_spD (fun hc=>?_) (fun hc=>?_)|refine v_alloc' (fun ba=>?_)|fail)
    · refine v_o2 Tryz.results30 (.inr ⟨by rw [hd, if_neg (fun h => hc h.1)], rfl, rfl⟩) ⟨_, inferInstance⟩
    · have hdn := Decidable.not_not.1 hc
      refine v_callR (good_m x.msg v1 v2 v3 s1 s2 s3 _ ⟨p1, p2, p3, hp, rfl⟩ o1 o2 o3 (body_len hx)) ?_
      rintro r Γ' ⟨rfl, rfl⟩
      (try dsimp only [List.cons_append, List.nil_append])
      repeat' (first | refine stp ?_|refine v_spD (fun hc=>?_) (fun hc=>?_)|refine v_alloc' (fun ba=>?_)|fail)
      · refine v_o2 Tryz.results30 (.inr ⟨by rw [hd, if_neg (fun h => hc h.2)], rfl, rfl⟩) ⟨_, inferInstance⟩
      · refine v_o2 Tryz.results30 (.inl ⟨x, _, by rw [hd, if_pos ⟨hdn, Decidable.not_not.1 hc⟩], ⟨v1, s1, v2, s2, v3, s3, ⟨p1, p2, p3, hp, rfl⟩, o1, o2, o3, rfl⟩, rfl⟩) ⟨_, inferInstance⟩
  · (try dsimp only [List.cons_append, List.nil_append])
    repeat' (first | refine stp ?_|refine v_spD (fun hc=>?_) (fun hc=>?_)|refine v_alloc' (fun ba=>?_)|fail)
    refine v_o2 Tryz.results30 (.inr ⟨by unfold decP; rw [h], rfl, rfl⟩) ⟨_, inferInstance⟩
end Go.Proofs.YtdfoijfjlhjeaaaGreat

/- Writing bits into bytes, in plain Lean. -/
namespace Go.Proofs.YtdfoijfjlhjeaaaGreat
open Go Go.SX Go.RowKit
/-- bytes with k noughts behind the bits -/
def PacksK (k : Nat) (bs : List Bool) (l : List UInt8) : Prop := unp l = bs ++ List.replicate k false
theorem PacksK.len {k : Nat} {bs : List Bool} {l : List UInt8} (h : PacksK k bs l) : 8 * l.length = bs.length + k := by
  have := congrArg List.length h
  rw [unp_len, List.length_append, List.length_replicate] at this
  exact this
theorem valOf_zeros (k : Nat) : valOf (List.replicate k false) = 0 := by
  induction k with
  | zero => rfl
  | succ k ih => rw [List.replicate_succ', valOf_snoc, ih]; rfl
theorem PacksK.more {bs : List Bool} {l : List UInt8} (h : PacksK 0 bs l) : PacksK 8 bs (l ++ [0]) := by
  unfold PacksK at *
  rw [unp_app, h]
  simp [unp, byB, bitsOf, List.replicate]
theorem put_step {k m q : Nat} {bs : List Bool} {l : List UInt8} (h : PacksK k bs l) (h1 : 1 ≤ k) (hk : k ≤ 8) (hm : m ≤ k) (h0 : 0 < l.length) :
    (l[l.length - 1]'(by omega)).toNat % 2 ^ k = 0 ∧ (l[l.length - 1]'(by omega)).toNat + q % 2 ^ m * 2 ^ (k - m) < 256 ∧
    PacksK (k - m) (bs ++ bitsOf m q) (l.set (l.length - 1) (UInt8.ofNat ((l[l.length - 1]'(by omega)).toNat + q % 2 ^ m * 2 ^ (k - m)))) := by
  have hlen := h.len
  obtain ⟨p, c, rfl, hp⟩ := list_snoc (l := l) (n := l.length - 1) (by omega)
  have hi : (p ++ [c]).length - 1 = p.length := by simp
  have hget : (p ++ [c])[(p ++ [c]).length - 1]'(by omega) = c := by simp
  rw [hget, hi]
  unfold PacksK at h
  rw [unp_app, show unp [c] = byB c by simp [unp]] at h
  have hl8 : (p ++ [c]).length = p.length + 1 := by simp
  have hpl : (unp p).length = 8 * p.length := unp_len p
  have hble : 8 * p.length ≤ bs.length := by omega
  have hA : unp p = bs.take (8 * p.length) := by
    have := congrArg (List.take (8 * p.length)) h
    rwa [List.take_left' hpl, List.take_append_of_le_length hble] at this
  have hB : byB c = bs.drop (8 * p.length) ++ List.replicate k false := by
    have := congrArg (List.drop (8 * p.length)) h
    rwa [List.drop_left' hpl, List.drop_append_of_le_length hble] at this
  obtain ⟨A, hAe⟩ : ∃ A, A = bs.drop (8 * p.length) := ⟨_, rfl⟩
  have hbs : bs = unp p ++ A := by rw [hA, hAe, List.take_append_drop]
  rw [← hAe] at hB
  have hAl : A.length = 8 - k := by rw [hAe, List.length_drop]; omega
  have hc : c.toNat = valOf A * 2 ^ k := by
    have := congrArg valOf hB
    rw [valOf_bitsOf, valOf_app, valOf_zeros, List.length_replicate] at this
    have h2 := c.toNat_lt
    omega
  have hav := valOf_lt _ A hAl
  have hr : q % 2 ^ m < 2 ^ m := Nat.mod_lt _ (Nat.pow_pos (by decide))
  have hrk : q % 2 ^ m * 2 ^ (k - m) < 2 ^ k := by
    have : 2 ^ k = 2 ^ m * 2 ^ (k - m) := by rw [← Nat.pow_add]; congr 1; omega
    rw [this]; exact Nat.mul_lt_mul_of_pos_right hr (Nat.pow_pos (by decide))
  have h256 : valOf A * 2 ^ k + 2 ^ k ≤ 256 := by
    have e : (256 : Nat) = 2 ^ (8 - k) * 2 ^ k := by rw [← Nat.pow_add]; rw [show 8 - k + k = 8 by omega]
    rw [e]
    have := Nat.mul_le_mul_right (2 ^ k) (Nat.succ_le_of_lt hav)
    rw [Nat.succ_mul] at this
    exact this
  refine ⟨by rw [hc]; exact Nat.mul_mod_left _ _, by omega, ?_⟩
  unfold PacksK
  rw [List.set_append_right _ _ (Nat.le_refl _), Nat.sub_self]
  show unp (p ++ [UInt8.ofNat (c.toNat + q % 2 ^ m * 2 ^ (k - m))]) = _
  rw [unp_app, show ∀ d : UInt8, unp [d] = byB d from fun d => by simp [unp], hbs]
  unfold byB
  rw [UInt8.toNat_ofNat', Nat.mod_eq_of_lt (by omega), hc]
  have e1 := bitsOf_app (a := 8 - k) (b := k) (x := valOf A) (y := q % 2 ^ m * 2 ^ (k - m)) hrk
  have e2 := bitsOf_app (a := m) (b := k - m) (x := q % 2 ^ m) (y := 0) (Nat.pow_pos (by decide))
  rw [show 8 - k + k = 8 by omega] at e1
  rw [show m + (k - m) = k by omega, Nat.add_zero, bitsOf_mod, bitsOf_zero] at e2
  rw [e1, bitsOf_valOf _ A hAl, e2]
  simp only [List.append_assoc]
theorem or_u8 {c r k : Nat} (hk : k ≤ 8) (hc : c % 2 ^ k = 0) (hr : r < 2 ^ k) (h : c + r < 256) : bits .or .u8 (c : Int) (r : Int) = ((c + r : Nat) : Int) := by
  have hcc : c = 2 ^ k * (c / 2 ^ k) := by have := Nat.div_add_mod c (2 ^ k); omega
  have h1 : (BitVec.ofInt 8 (c : Int)).toNat = c := by
    rw [BitVec.ofInt_natCast, BitVec.toNat_ofNat]; exact Nat.mod_eq_of_lt (by omega)
  have h2 : (BitVec.ofInt 8 (r : Int)).toNat = r := by
    rw [BitVec.ofInt_natCast, BitVec.toNat_ofNat]; exact Nat.mod_eq_of_lt (by omega)
  show IntKind.u8.wrap ((BitVec.ofInt 8 (c : Int) ||| BitVec.ofInt 8 (r : Int)).toNat : Int) = _
  have e : c ||| r = c + r := by
    conv => lhs; rw [hcc]
    rw [← Nat.two_pow_add_eq_or_of_lt hr, ← hcc]
  rw [BitVec.toNat_or, h1, h2, e]
  exact u8_wrap h
theorem shl_u8 {x k : Nat} (hk : k ≤ 8) (h : x * 2 ^ k < 256) : shlI .u8 (x : Int) (k : Int) = ((x * 2 ^ k : Nat) : Int) := by
  unfold shlI
  rw [show IntKind.u8.bits = 8 by rfl, Int.toNat_natCast, Nat.min_eq_left hk]
  have : (x : Int) * 2 ^ k = ((x * 2 ^ k : Nat) : Int) := by simp
  rw [this, u8_wrap h]
theorem shr_u64 {c : Nat} (k : Nat) (hk : k ≤ 64) : shrI .u64 (c : Int) (k : Int) = ((c / 2 ^ k : Nat) : Int) := by
  unfold shrI
  rw [show IntKind.u64.bits = 64 by rfl, Int.toNat_natCast, Nat.min_eq_left hk, Int.fdiv_eq_ediv_of_nonneg _ (Int.le_of_lt (Int.pow_pos (by decide)))]
  simp
theorem u8_of (x : Nat) : IntKind.u8.wrap (x : Int) = ((x % 256 : Nat) : Int) := by
  simp [IntKind.wrap, IntKind.bits, IntKind.signed]
theorem piece_u8 {v s m : Nat} (hs : s ≤ 64) (hm : m ≤ 8) : bits .and .u8 (IntKind.u8.wrap (shrI .u64 (v : Int) (s : Int))) (IntKind.u8.wrap (shlI .u8 1 (m : Int) - 1)) = ((v / 2 ^ s % 2 ^ m : Nat) : Int) := by
  rw [shr_u64 s hs, u8_of, mask_u8 hm, and_u8 (Nat.mod_lt _ (by decide)) hm]
  have : 2 ^ m ∣ 256 := ⟨2 ^ (8 - m), by rw [← Nat.pow_add, show m + (8 - m) = 8 by omega]⟩
  rw [Nat.mod_mod_of_dvd _ this]
end Go.Proofs.YtdfoijfjlhjeaaaGreat

/- Messages, in plain Lean: right messages can be written; reading without an end; what is decoded. -/
namespace Go.Proofs.YtdfoijfjlhjeaaaGreat
open Go
theorem gd_ok {a b : Int} (h : Gd a b) : okN 16 a ∧ okN 8 b := by
  obtain ⟨h1, h2, h3, h4⟩ := h
  have p16 : (2 : Int) ^ 16 = 65536 := rfl
  have p8 : (2 : Int) ^ 8 = 256 := rfl
  exact ⟨⟨by omega, by omega⟩, h3, by omega⟩
theorem btw_ok {n : Int} {a b : Int} {w : Nat} (h : Btw n a b) (ha : 0 ≤ a) (hb : b < 2 ^ w) : okN w n := ⟨by have := h.1; omega, by have := h.2; omega⟩
theorem seat_ok {s : ApiSeat} (h : goodSeat s) : okN 8 s.Who ∧ okN 6 s.Slot := ⟨btw_ok h.1 (by decide) (by decide), btw_ok h.2 (by decide) (by decide)⟩
theorem box_ok {b : ApiBox} (h : goodBox b) : (okN 16 b.Under.Base ∧ okN 8 b.Under.Step) ∧ okN 16 b.Load.Base ∧ okN 8 b.Load.Step := ⟨gd_ok h.1, gd_ok h.2⟩
theorem item_ok {i : ApiItem} (h : goodItem i) : (okN 5 i.Node ∧ okN 7 i.From) ∧ (okN 16 i.Box.Under.Base ∧ okN 8 i.Box.Under.Step) ∧ okN 16 i.Box.Load.Base ∧ okN 8 i.Box.Load.Step := by
  obtain ⟨h1, h2, h3, h4⟩ := h
  have p7 : (2 : Int) ^ 7 = 128 := rfl
  obtain ⟨_, ⟨h5, h6⟩, _⟩ := h3
  exact ⟨⟨btw_ok h1 (by decide) (by decide), h5, by omega⟩, box_ok h4⟩
theorem len_ok {w n : Nat} {m : Int} (h : (n : Int) ≤ m) (hm : m < 2 ^ w) : okN w n := ⟨Int.natCast_nonneg _, by omega⟩
/-- a right message can be written -/
theorem good_body {m : MsgM} (h : GoodM m) (hp : m.Reply.Path.length = 3) : ∃ x : Body, m = x.msg ∧ okB x := by
  obtain ⟨k, r, q1, q2, ⟨p1, p2, p3, p4⟩, ⟨s1, ⟨s2, s3⟩, s4⟩⟩ := m
  obtain ⟨rl, r1, r2, r3⟩ := r
  have eb0 : b0 = ⟨⟨0, 0⟩, ⟨0, 0⟩⟩ := rfl
  rcases h with ⟨hk, h1, h2, h3, h4⟩ | ⟨hk, h1, h2, h3, h4⟩ | ⟨hk, h1, h2, h3, h4⟩ | ⟨hk, h1, h2, h3, h4⟩
  · obtain ⟨rfl, rfl⟩ := h2
    obtain ⟨rfl, rfl, rfl, rfl⟩ := h3
    obtain ⟨rfl, ⟨rfl, rfl⟩, rfl⟩ := h4
    dsimp only at hk
    subst hk
    obtain ⟨g1, ⟨g2, g3⟩, ⟨g4, g5⟩, g6, g7⟩ := h1
    exact ⟨.rekey ⟨rl, r1, r2, r3⟩, rfl, ⟨⟨btw_ok g1 (by decide) (by decide), len_ok g3 (by decide), fun x hx => seat_ok (g2 x hx)⟩, len_ok g5 (by decide), fun x hx => seat_ok (g4 x hx)⟩, len_ok g7 (by decide), fun x hx => item_ok (g6 x hx)⟩
  · obtain ⟨rfl, rfl, rfl, rfl⟩ := h1
    obtain ⟨rfl, rfl, rfl, rfl⟩ := h3
    obtain ⟨rfl, ⟨rfl, rfl⟩, rfl⟩ := h4
    dsimp only at hk
    subst hk
    exact ⟨.request q1 q2, rfl, btw_ok h2.1 (by decide) (by decide), btw_ok h2.2 (by decide) (by decide)⟩
  · obtain ⟨rfl, rfl, rfl, rfl⟩ := h1
    obtain ⟨rfl, rfl⟩ := h2
    obtain ⟨rfl, ⟨rfl, rfl⟩, rfl⟩ := h4
    dsimp only at hk
    subst hk
    obtain ⟨g1, g2, g3⟩ := h3
    exact ⟨.reply ⟨p1, p2, p3, p4⟩, rfl, ⟨seat_ok g1, btw_ok g2 (by decide) (by decide)⟩, hp, fun x hx => box_ok (g3 x hx)⟩
  · obtain ⟨rfl, rfl, rfl, rfl⟩ := h1
    obtain ⟨rfl, rfl⟩ := h2
    obtain ⟨rfl, rfl, rfl, rfl⟩ := h3
    dsimp only at hk
    subst hk
    obtain ⟨g1, g2, g3⟩ := h4
    exact ⟨.sealed ⟨s1, ⟨s2, s3⟩, s4⟩, rfl, ⟨btw_ok g1 (by decide) (by decide), gd_ok g2⟩, len_ok g3 (by decide), fun _ _ => trivial⟩
theorem msg_inj {x y : Body} (h : x.msg = y.msg) : x = y := by
  cases x <;> cases y <;> simp only [Body.msg, MsgM.mk.injEq] at h <;> first | (obtain ⟨h, _⟩ := h; exact absurd h (by decide)) | simp_all
theorem dn_rep {r : Bs} (h : Dn r) : r = List.replicate r.length false := by
  have := bitsOf_valOf r.length r rfl
  rw [h.2, bitsOf_zero] at this
  exact this.symm
theorem dec_iff {l : List UInt8} {x : Body} (hp : x.msg.Reply.Path.length = 3) : decP l = some x ↔ GoodM x.msg ∧ Packs (wBody x) l := by
  constructor
  · intro h
    unfold decP at h
    split at h
    · rename_i y r hr
      split at h
      · rename_i hg
        cases h
        refine ⟨hg.2, r.length, hg.1.1, ?_⟩
        rw [← dn_rep hg.1]
        exact ((bodyC.forth _ _ _ hr).1)
      · cases h
    · cases h
  · rintro ⟨hg, k, hk, e⟩
    obtain ⟨y, hy, ho⟩ := good_body hg hp
    obtain rfl := msg_inj hy
    unfold decP
    rw [e, bodyC.back _ _ ho]
    show (if Dn _ ∧ _ then _ else _) = _
    rw [if_pos ⟨⟨by rw [List.length_replicate]; exact hk, valOf_zeros k⟩, hg⟩]
/-! ### reading without an end -/
abbrev Sc (α : Type) := Bs → α × Bs
def scNum (w : Nat) : Sc Int := fun b => if w ≤ b.length then ((valOf (b.take w) : Nat), b.drop w) else (0, b)
def scBind {α β : Type} (p : Sc α) (f : α → Sc β) : Sc β := fun b => f (p b).1 (p b).2
def scMap {α β : Type} (p : Sc α) (f : α → β) : Sc β := fun b => (f (p b).1, (p b).2)
def scList {α : Type} (p : Sc α) : Nat → Sc (List α)
  | 0 => fun b => ([], b)
  | k + 1 => scBind p fun x => scMap (scList p k) fun l => x :: l
def scCnt {α : Type} (w : Nat) (p : Sc α) : Sc (List α) := scBind (scNum w) fun n => scList p n.toNat
def Agr {α : Type} (r : Rd α) (s : Sc α) : Prop := ∀ b x t, r b = some (x, t) → s b = (x, t)
theorem agrNum (w : Nat) : Agr (rdNum w) (scNum w) := fun b x t h => by
  unfold rdNum at h
  unfold scNum
  split at h
  · rename_i hw
    cases h
    rw [if_pos hw]
  · cases h
theorem agrBind {α β : Type} {r : Rd α} {s : Sc α} {f : α → Rd β} {g : α → Sc β} (h : Agr r s) (h' : ∀ x, Agr (f x) (g x)) : Agr (rdBind r f) (scBind s g) := fun b x t e => by
  unfold rdBind at e
  cases hr : r b with
  | none => rw [hr] at e; cases e
  | some z =>
    obtain ⟨y, u⟩ := z
    rw [hr] at e
    unfold scBind
    rw [h _ _ _ hr]
    exact h' _ _ _ _ e
theorem agrMap {α β : Type} {r : Rd α} {s : Sc α} (f : α → β) (h : Agr r s) : Agr (rdMap r f) (scMap s f) := fun b x t e => by
  obtain ⟨y, hy, rfl⟩ := rdMap_some e
  unfold scMap
  rw [h _ _ _ hy]
theorem agrList {α : Type} {r : Rd α} {s : Sc α} (h : Agr r s) : ∀ k, Agr (rdList r k) (scList s k)
  | 0 => fun b x t e => by cases e; rfl
  | k + 1 => agrBind h fun x => agrMap _ (agrList h k)
theorem agrCnt {α : Type} {r : Rd α} {s : Sc α} (w : Nat) (h : Agr r s) : Agr (rdCnt w r) (scCnt w s) := agrBind (agrNum w) fun n => agrList h n.toNat
theorem sc_pair {α β γ : Type} (p : Sc α) (q : Sc β) (f : α × β → γ) : scMap (scBind p fun x => scMap q fun y => (x, y)) f = scBind p fun x => scMap q fun y => f (x, y) := rfl
def scKey : Sc ApiKey := scMap (scBind (scNum 16) fun x => scMap (scNum 8) fun y => (x, y)) fun z => ⟨z.1, z.2⟩
theorem agrKey : Agr rdKey scKey := agrMap _ (agrBind (agrNum 16) fun _ => agrMap _ (agrNum 8))
def scBox : Sc ApiBox := scMap (scBind scKey fun x => scMap scKey fun y => (x, y)) fun z => ⟨z.1, z.2⟩
theorem agrBox : Agr rdBox scBox := agrMap _ (agrBind agrKey fun _ => agrMap _ agrKey)
def scSeat : Sc ApiSeat := scMap (scBind (scNum 8) fun x => scMap (scNum 6) fun y => (x, y)) fun z => ⟨z.1, z.2⟩
theorem agrSeat : Agr rdSeat scSeat := agrMap _ (agrBind (agrNum 8) fun _ => agrMap _ (agrNum 6))
def scItem : Sc ApiItem := scMap (scBind (scBind (scNum 5) fun x => scMap (scNum 7) fun y => (x, y)) fun x => scMap scBox fun y => (x, y)) fun z => ⟨z.1.1, z.1.2, z.2⟩
theorem agrItem : Agr rdItem scItem := agrMap _ (agrBind (agrBind (agrNum 5) fun _ => agrMap _ (agrNum 7)) fun _ => agrMap _ agrBox)
def scRekey : Sc RekeyM := scMap (scBind (scBind (scBind (scNum 8) fun x => scMap (scCnt 7 scSeat) fun y => (x, y)) fun x => scMap (scCnt 7 scSeat) fun y => (x, y)) fun x => scMap (scCnt 11 scItem) fun y => (x, y)) fun z => ⟨z.1.1.1, z.1.1.2, z.1.2, z.2⟩
theorem agrRekey : Agr rdRekey scRekey := agrMap _ (agrBind (agrBind (agrBind (agrNum 8) fun _ => agrMap _ (agrCnt 7 agrSeat)) fun _ => agrMap _ (agrCnt 7 agrSeat)) fun _ => agrMap _ (agrCnt 11 agrItem))
def scByte : Sc UInt8 := scMap (scNum 8) fun x => UInt8.ofNat x.toNat
theorem agrByte : Agr rdByte scByte := agrMap _ (agrNum 8)
def scSealed : Sc SealedM := scMap (scBind (scBind (scNum 8) fun x => scMap scKey fun y => (x, y)) fun x => scMap (scCnt 7 scByte) fun y => (x, y)) fun z => ⟨z.1.1, z.1.2, z.2⟩
theorem agrSealed : Agr rdSealed scSealed := agrMap _ (agrBind (agrBind (agrNum 8) fun _ => agrMap _ agrKey) fun _ => agrMap _ (agrCnt 7 agrByte))
def scReply : Sc ReplyM := scMap (scBind (scBind (scBind (scNum 8) fun x => scMap (scNum 6) fun y => (x, y)) fun x => scMap (scNum 8) fun y => (x, y)) fun x => scMap (scList scBox 3) fun y => (x, y)) fun z => ⟨z.1.1.1, z.1.1.2, z.1.2, z.2⟩
theorem agrReply : Agr rdReply scReply := agrMap _ (agrBind (agrBind (agrBind (agrNum 8) fun _ => agrMap _ (agrNum 6)) fun _ => agrMap _ (agrNum 8)) fun _ => agrMap _ (agrList agrBox 3))
def scReq : Sc (Int × Int) := scBind (scNum 8) fun x => scMap (scNum 8) fun y => (x, y)
theorem agrReq : Agr rdReq scReq := agrBind (agrNum 8) fun _ => agrMap _ (agrNum 8)
def scPart (k : Int) : Sc Body :=
  if k = 1 then scMap scRekey .rekey else if k = 2 then scMap scReq fun z => .request z.1 z.2 else if k = 3 then scMap scReply .reply else scMap scSealed .sealed
theorem agrPart (k : Int) : Agr (rdPart k) (scPart k) := by
  unfold rdPart scPart
  split
  · exact agrMap _ agrRekey
  split
  · exact agrMap _ agrReq
  split
  · exact agrMap _ agrReply
  · exact agrMap _ agrSealed
def scBody : Sc Body := scBind (scNum 2) fun n => scPart (n + 1)
theorem agrBody : Agr rdBody scBody := agrBind (agrNum 2) fun n => agrPart (n + 1)
theorem sc_list_len {α : Type} (p : Sc α) : ∀ k b, ((scList p k b).1).length = k
  | 0, _ => rfl
  | k + 1, b => by
    show ((scMap (scList p k) fun l => (p b).1 :: l) (p b).2).1.length = _
    show ((p b).1 :: (scList p k (p b).2).1).length = _
    rw [List.length_cons, sc_list_len p k]
theorem sc_num (w : Nat) (b : Bs) : ∃ k : Nat, (scNum w b).1 = k ∧ k < 2 ^ w := by
  unfold scNum
  split
  · rename_i h
    exact ⟨_, rfl, valOf_lt w _ (by rw [List.length_take]; omega)⟩
  · exact ⟨0, rfl, Nat.pow_pos (by decide)⟩
theorem sc_list1 {α : Type} {p : Sc α} {b r : Bs} {x : α} {k : Nat} (h : p b = (x, r)) : scList p (k + 1) b = (x :: (scList p k r).1, (scList p k r).2) := by
  show ((p b).1 :: (scList p k (p b).2).1, (scList p k (p b).2).2) = _
  rw [h]
theorem sc_path (b : Bs) : ((scBody b).1).msg.Reply.Path.length = 3 := by
  have h : ∀ (k : Int) (b : Bs), ((scPart k b).1).msg.Reply.Path.length = 3 := by
    intro k b
    unfold scPart
    split
    · rfl
    split
    · rfl
    split
    · exact sc_list_len scBox 3 _
    · rfl
  exact h _ _
/-- what is decoded, by the document's way -/
theorem dec_sc (l : List UInt8) : (∀ x, decP l = some x → x = (scBody (unp l)).1) := fun x h => by
  unfold decP at h
  split at h
  · rename_i y r hr
    split at h
    · cases h; rw [agrBody _ _ _ hr]
    · cases h
  · cases h
end Go.Proofs.YtdfoijfjlhjeaaaGreat

/- coterieref03: bits one by one, reading. -/
namespace Go.Proofs.YtdfoijfjlhjeaaaGreat
open Go Go.SX Go.RowKit
set_option maxRecDepth 100000
set_option maxHeartbeats 0
set_option synthInstance.maxSize 100000
set_option synthInstance.maxHeartbeats 400000
/-- bits as numbers -/
def nbs (bs : Bs) : List Int := bs.map fun b => (b.toNat : Int)
theorem nbs_len (bs : Bs) : (nbs bs).length = bs.length := List.length_map _
theorem nbs_app (a b : Bs) : nbs (a ++ b) = nbs a ++ nbs b := List.map_append
theorem nbs_get (bs : Bs) (i : Nat) (h : i < (nbs bs).length) : (nbs bs)[i] = ((bs[i]'(by rw [nbs_len] at h; exact h)).toNat : Int) := by simp [nbs]
theorem bits_snoc {w v j : Nat} (h : j < w) : (bitsOf w v).take (j + 1) = (bitsOf w v).take j ++ [decide (v / 2 ^ (w - 1 - j) % 2 = 1)] := by
  rw [bitsOf_take (by omega), bitsOf_take (by omega), bitsOf]
  have e : w - j = w - (j + 1) + 1 := by omega
  have e2 : w - (j + 1) = w - 1 - j := by omega
  rw [e, Nat.pow_succ, ← Nat.div_div_eq_div_mul, e2]
theorem byB_eq (c : UInt8) : byB c = [decide (c.toNat / 128 % 2 = 1), decide (c.toNat / 64 % 2 = 1), decide (c.toNat / 32 % 2 = 1), decide (c.toNat / 16 % 2 = 1), decide (c.toNat / 8 % 2 = 1), decide (c.toNat / 4 % 2 = 1), decide (c.toNat / 2 % 2 = 1), decide (c.toNat % 2 = 1)] := by
  simp only [byB, bitsOf, Nat.div_div_eq_div_mul, List.nil_append, List.cons_append]
theorem nbs_byB (c : UInt8) : nbs (byB c) = [((c.toNat / 128 % 2 : Nat) : Int), ((c.toNat / 64 % 2 : Nat) : Int), ((c.toNat / 32 % 2 : Nat) : Int), ((c.toNat / 16 % 2 : Nat) : Int), ((c.toNat / 8 % 2 : Nat) : Int), ((c.toNat / 4 % 2 : Nat) : Int), ((c.toNat / 2 % 2 : Nat) : Int), ((c.toNat % 2 : Nat) : Int)] := by
  rw [byB_eq]
  simp only [nbs, List.map_cons, List.map_nil, dec_bit]
abbrev rrS (b n : Nat) (x : Value) : Hp := [(b, .cells #[x, .int .i64 n] 142 (0, 0))]
theorem rtake_s (rb n w : Nat) (x : Value) (t : Hp) (full : Bs) (hx : AtS x 5 Int 1 (fun x => [.int .u8 x]) (nbs full) t) (hn : n ≤ full.length) (h1 : 1 ≤ w) (h16 : w ≤ 16) : SX.Spec Tryz.prog 125 #[pt rb, .int .i64 w] [t] [rrS rb n x] fun v Γ =>
    ∃ e : Int, v = .tuple #[.int .u64 (scNum w (full.drop n)).1, .int .i64 e] ∧ ∃ n', n' ≤ full.length ∧ (scNum w (full.drop n)).2 = full.drop n' ∧ 0 ≤ (scNum w (full.drop n)).1 ∧ (scNum w (full.drop n)).1 < 65536 ∧ Γ = [rrS rb n' x] := by
  have hle := AtS.le hx
  rw [nbs_len] at hle
  have hlen := nbs_len full
  have hsc : w ≤ (full.drop n).length ↔ (w : Int) ≤ (nbs full).length - n := by rw [hlen, List.length_drop]; omega
  refine spec_of2 Tryz.func125 Tryz.ntmps125 rfl rfl (fun M w0 => ?_)
  repeat' (first | refine stp ?_|(refine v_spT ?_ ?_;omega)|(refine v_spF ?_ ?_;omega)|refine v_spD (fun hc=>?_) (fun hc=>?_)|(refine v_yc ?_ ?_;omega)|refine ⟨?_,?_,?_⟩|refine ⟨?_,?_⟩|(refine v_tyc ?_ ?_;omega)|refine v_drawn0 (id:=1) pl125_1 (by kernel_rfl) ?_|refine v_drawn0 (id:=7) pl125_7 (by kernel_rfl) ?_|fail)
  · have e : scNum w (full.drop n) = (0, full.drop n) := by unfold scNum; rw [if_neg (by omega)]
    rw [e]
    refine v_o2 Tryz.results125 ⟨6, rfl, n, hn, rfl, Int.le_refl 0, (by decide : (0 : Int) < 65536), rfl⟩ ⟨_, inferInstance⟩
  have hw : w ≤ (full.drop n).length := hsc.2 (by omega)
  have hwl : n + w ≤ full.length := by rw [List.length_drop] at hw; omega
  have e : scNum w (full.drop n) = (((valOf ((full.drop n).take w) : Nat) : Int), (full.drop n).drop w) := by unfold scNum; rw [if_pos hw]
  have hv := valOf_lt w ((full.drop n).take w) (by rw [List.length_take]; omega)
  have hp : 2 ^ w ≤ 2 ^ 16 := Nat.pow_le_pow_right (by decide) h16
  rw [e]
  refine v_lp [6, 7] [0, 1] (fun i : Nat => [.int .u64 ((valOf ((full.drop n).take i) : Nat) : Int), .int .i64 i]) (fun i => [rrS rb (n + i) x]) (fun i => i ≤ w) (fun i => w - i) 0 (fun _ => rfl) rfl inferInstance (Nat.zero_le _) ?_
  rintro i hi
  (try dsimp only [zipE_c, zipE_n, List.cons_append, List.nil_append])
  rcases Nat.lt_or_ge i w with hlt | hge
  · repeat' (first | refine stp ?_|(refine v_spT ?_ ?_;omega)|(refine v_spF ?_ ?_;omega)|refine v_spD (fun hc=>?_) (fun hc=>?_)|(refine v_yc ?_ ?_;omega)|refine ⟨?_,?_,?_⟩|refine ⟨?_,?_⟩|(refine v_tyc ?_ ?_;omega)|refine v_drawn0 (id:=1) pl125_1 (by kernel_rfl) ?_|refine v_drawn0 (id:=7) pl125_7 (by kernel_rfl) ?_|fail)
    rw [show ((n + i : Nat) : Int) + 1 = ((n + (i + 1) : Nat) : Int) by omega]
    refine v_again (i + 1) (by omega) ?_ inferInstance (by omega)
    have hvi := valOf_lt i ((full.drop n).take i) (by rw [List.length_take]; omega)
    have hp2 : 2 ^ i ≤ 2 ^ 16 := Nat.pow_le_pow_right (by decide) (by omega)
    have hb := Bool.toNat_le (full[n + i]'(by omega))
    have ht : (full.drop n).take (i + 1) = (full.drop n).take i ++ [full[n + i]'(by omega)] := by
      rw [List.take_succ_eq_append_getElem (by rw [List.length_drop]; omega), List.getElem_drop]
    have h2 : (2 : Int) * ((valOf ((full.drop n).take i) : Nat) : Int) = ((2 * valOf ((full.drop n).take i) : Nat) : Int) := by omega
    rw [ht, valOf_snoc, nbs_get, h2, u64_wrap (by omega), u64_wrap (by omega), ← Int.natCast_add, u64_wrap (by omega)]
    rfl
  · obtain rfl : i = w := by omega
    repeat' (first | refine stp ?_|(refine v_spT ?_ ?_;omega)|(refine v_spF ?_ ?_;omega)|refine v_spD (fun hc=>?_) (fun hc=>?_)|(refine v_yc ?_ ?_;omega)|refine ⟨?_,?_,?_⟩|refine ⟨?_,?_⟩|(refine v_tyc ?_ ?_;omega)|refine v_drawn0 (id:=1) pl125_1 (by kernel_rfl) ?_|refine v_drawn0 (id:=7) pl125_7 (by kernel_rfl) ?_|fail)
    refine v_o2 Tryz.results125 ⟨0, rfl, n + i, hwl, by rw [List.drop_drop], Int.natCast_nonneg _, by omega, rfl⟩ ⟨_, inferInstance⟩
end Go.Proofs.YtdfoijfjlhjeaaaGreat

/- coterieref14.Scan. -/
namespace Go.Proofs.YtdfoijfjlhjeaaaGreat
open Go Go.SX Go.RowKit
set_option maxRecDepth 100000
set_option maxHeartbeats 0
set_option synthInstance.maxSize 100000
set_option synthInstance.maxHeartbeats 400000
abbrev scS (sb rb : Nat) : Hp := [(sb, .cells #[pt rb] 86 (0, 0))]
/-- what a scanning function does -/
def ScF (f : FuncId) (sb rb : Nat) (x : Value) (t : Hp) (full : Bs) {α : Type} (p : Sc α) (out : α → Value → List Hp → Prop) (more : List Value) : Prop :=
  ∀ n, n ≤ full.length → SX.Spec Tryz.prog f (pt sb :: more).toArray [scS sb rb, t] [rrS rb n x] fun v Γ => ∃ n' Γ', n' ≤ full.length ∧ (p (full.drop n)).2 = full.drop n' ∧ out (p (full.drop n)).1 v Γ' ∧ Γ = rrS rb n' x :: Γ'
section
variable (sb rb : Nat) (x : Value) (t : Hp) (full : Bs) (hx : AtS x 5 Int 1 (fun x => [.int .u8 x]) (nbs full) t)
include hx
theorem snum_s (w : Nat) (h1 : 1 ≤ w) (h16 : w ≤ 16) : ScF 73 sb rb x t full (scNum w) (fun y v Γ => v = .int .i64 y ∧ Γ = []) [.int .i64 w] := by
  intro n hn
  refine spec_of2 Tryz.func73 Tryz.ntmps73 rfl rfl (fun M w0 => ?_)
  repeat' (first | refine stp ?_|fail)
  refine v_callB (rtake_s rb n w x t full hx hn h1 h16) ?_
  rintro v Γ' ⟨e, rfl, n', hn', h2, h0, h3, rfl⟩
  obtain ⟨k, hk⟩ : ∃ k : Nat, (scNum w (full.drop n)).1 = k := ⟨(scNum w (full.drop n)).1.toNat, by omega⟩
  have hw : IntKind.i64.wrap (scNum w (full.drop n)).1 = (scNum w (full.drop n)).1 := by rw [hk]; exact wrapS (by omega)
  (try dsimp only [List.cons_append, List.nil_append])
  repeat' (first | refine stp ?_|fail)
  rw [hw]
  refine v_o1 Tryz.results73 ⟨n', [], hn', h2, ⟨rfl, rfl⟩, rfl⟩ ⟨_, inferInstance⟩
theorem skey_s : ScF 76 sb rb x t full scKey (fun y v Γ => v = avApiKey y ∧ Γ = []) [] := by
  intro n hn
  refine spec_of1 Tryz.func76 Tryz.ntmps76 rfl rfl (fun M w0 => ?_)
  repeat' (first | refine stp ?_|refine v_alloc' (fun ba=>?_)|fail)
  refine v_callB (snum_s sb rb x t full hx 16 (by decide) (by decide) n hn) ?_
  rintro v Γ' ⟨n1, Γ1, hn1, e1, ⟨rfl, rfl⟩, rfl⟩
  (try dsimp only [List.cons_append, List.nil_append])
  repeat' (first | refine stp ?_|refine v_alloc' (fun ba=>?_)|fail)
  refine v_callB (snum_s sb rb x t full hx 8 (by decide) (by decide) n1 hn1) ?_
  rintro v Γ' ⟨n2, Γ1, hn2, e2, ⟨rfl, rfl⟩, rfl⟩
  (try dsimp only [List.cons_append, List.nil_append])
  repeat' (first | refine stp ?_|refine v_alloc' (fun ba=>?_)|fail)
  refine v_o1 Tryz.results76 ⟨n2, [], hn2, ?_, ⟨?_, rfl⟩, rfl⟩ ⟨_, inferInstance⟩
  · rw [← e2]; simp only [scKey, scMap, scBind, e1]
  · simp only [scKey, scMap, scBind, e1]
theorem sbox_s : ScF 75 sb rb x t full scBox (fun y v Γ => v = avApiBox y ∧ Γ = []) [] := by
  intro n hn
  refine spec_of1 Tryz.func75 Tryz.ntmps75 rfl rfl (fun M w0 => ?_)
  repeat' (first | refine stp ?_|refine v_alloc' (fun ba=>?_)|refine ⟨?_,?_,?_⟩|refine ⟨?_,?_⟩|refine v_tValT (by decide +kernel) ?_|refine v_drawnK (id:=2) 4 pl75_2 (by kernel_rfl) ?_|fail)
  refine v_callB (skey_s sb rb x t full hx n hn) ?_
  rintro v Γ' ⟨n1, Γ1, hn1, e1, ⟨rfl, rfl⟩, rfl⟩
  (try dsimp only [List.cons_append, List.nil_append])
  repeat' (first | refine stp ?_|refine v_alloc' (fun ba=>?_)|refine ⟨?_,?_,?_⟩|refine ⟨?_,?_⟩|refine v_tValT (by decide +kernel) ?_|fail)
  refine v_drawn (id:=2) 4 pl75_2 [] [[(ba, .cells #[.int .i64 (scKey (full.drop n)).1.Base, .int .i64 (scKey (full.drop n)).1.Step] 28 (0, 0))]] (by kernel_rfl) ?_
  repeat' (first | refine stp ?_|refine v_alloc' (fun ba=>?_)|refine ⟨?_,?_,?_⟩|refine ⟨?_,?_⟩|refine v_tValT (by decide +kernel) ?_|refine v_drawnK (id:=2) 4 pl75_2 (by kernel_rfl) ?_|fail)
  refine v_callB (skey_s sb rb x t full hx n1 hn1) ?_
  rintro v Γ' ⟨n2, Γ1, hn2, e2, ⟨rfl, rfl⟩, rfl⟩
  (try dsimp only [List.cons_append, List.nil_append])
  repeat' (first | refine stp ?_|refine v_alloc' (fun ba=>?_)|refine ⟨?_,?_,?_⟩|refine ⟨?_,?_⟩|refine v_tValT (by decide +kernel) ?_|refine v_drawnK (id:=2) 4 pl75_2 (by kernel_rfl) ?_|fail)
  refine v_o1 Tryz.results75 ⟨n2, [], hn2, ?_, ⟨?_, rfl⟩, rfl⟩ ⟨_, inferInstance⟩
  · rw [← e2]; simp only [scBox, scMap, scBind, e1]
  · simp only [scBox, scMap, scBind, e1]
structure SsG where
  i : Nat
  n : Nat
  v : Value
  s : Hp
  xs : List ApiSeat
structure SsOk (full : Bs) (k : Nat) (b0 : Bs) (g : SsG) : Prop where
  le : g.i ≤ k
  own : OwnS g.v 162 ApiSeat 2 cvApiSeat g.xs g.s
  len : g.xs.length = g.i
  hn : g.n ≤ full.length
  eq1 : (scList scSeat k b0).1 = g.xs ++ (scList scSeat (k - g.i) (full.drop g.n)).1
  eq2 : (scList scSeat k b0).2 = (scList scSeat (k - g.i) (full.drop g.n)).2
theorem sseats_s : ScF 74 sb rb x t full (scCnt 7 scSeat) (fun y v Γ => ∃ s, OwnS v 162 ApiSeat 2 cvApiSeat y s ∧ Γ = [s]) [] := by
  intro n hn
  refine spec_of1 Tryz.func74 Tryz.ntmps74 rfl rfl (fun M w0 => ?_)
  repeat' (first | refine stp ?_|(refine v_spT ?_ ?_;omega)|(refine v_spF ?_ ?_;omega)|(refine v_yc ?_ ?_;omega)|refine v_lit (fun bl=>?_)|(refine v_push ?_ (fun sv ss hs hln=>?_);omega)|fail)
  refine v_callB (snum_s sb rb x t full hx 7 (by decide) (by decide) n hn) ?_
  rintro v Γ' ⟨n1, Γ1, hn1, e1, ⟨rfl, rfl⟩, rfl⟩
  obtain ⟨k, hk, hk2⟩ : ∃ k : Nat, (scNum 7 (full.drop n)).1 = k ∧ k < 128 := sc_num 7 _
  have hall : scCnt 7 scSeat (full.drop n) = scList scSeat k (full.drop n1) := by
    show scList scSeat (scNum 7 (full.drop n)).1.toNat (scNum 7 (full.drop n)).2 = _
    rw [hk, e1, Int.toNat_natCast]
  rw [hk]
  (try dsimp only [List.cons_append, List.nil_append])
  repeat' (first | refine stp ?_|(refine v_spT ?_ ?_;omega)|(refine v_spF ?_ ?_;omega)|(refine v_yc ?_ ?_;omega)|refine v_lit (fun bl=>?_)|(refine v_push ?_ (fun sv ss hs hln=>?_);omega)|fail)
  refine v_lp [3, 5] [0, 4] (fun g : SsG => [g.v, .int .i64 g.i]) (fun g => [rrS rb g.n x, g.s]) (SsOk full k (full.drop n1)) (fun g => k - g.i) ⟨0, n1, .slice none 0 0, [], []⟩ (fun _ => rfl) rfl inferInstance ⟨Nat.zero_le _, OwnS.nil, rfl, hn1, rfl, rfl⟩ ?_
  rintro ⟨i, m, v, s, xs⟩ ⟨hi, hv, hl, hm, q1, q2⟩
  dsimp only at hi hv hl hm q1 q2 ⊢
  (try dsimp only [zipE_c, zipE_n, List.cons_append, List.nil_append])
  rcases Nat.lt_or_ge i k with hlt | hge
  · obtain ⟨q, hq⟩ : ∃ q, k - i = q + 1 := ⟨k - i - 1, by omega⟩
    rw [hq] at q1 q2
    repeat' (first | refine stp ?_|(refine v_spT ?_ ?_;omega)|(refine v_spF ?_ ?_;omega)|(refine v_yc ?_ ?_;omega)|refine v_lit (fun bl=>?_)|(refine v_push ?_ (fun sv ss hs hln=>?_);omega)|fail)
    refine v_callB (snum_s sb rb x t full hx 8 (by decide) (by decide) m hm) ?_
    rintro v Γ' ⟨n2, Γ1, hn2, e2, ⟨rfl, rfl⟩, rfl⟩
    (try dsimp only [List.cons_append, List.nil_append])
    repeat' (first | refine stp ?_|(refine v_spT ?_ ?_;omega)|(refine v_spF ?_ ?_;omega)|(refine v_yc ?_ ?_;omega)|refine v_lit (fun bl=>?_)|(refine v_push ?_ (fun sv ss hs hln=>?_);omega)|fail)
    refine v_callB (snum_s sb rb x t full hx 6 (by decide) (by decide) n2 hn2) ?_
    rintro v Γ' ⟨n3, Γ1, hn3, e3, ⟨rfl, rfl⟩, rfl⟩
    (try dsimp only [List.cons_append, List.nil_append])
    repeat' (first | refine stp ?_|(refine v_spT ?_ ?_;omega)|(refine v_spF ?_ ?_;omega)|(refine v_yc ?_ ?_;omega)|refine v_lit (fun bl=>?_)|(refine v_push ?_ (fun sv ss hs hln=>?_);omega)|fail)
    have e : scSeat (full.drop m) = (⟨(scNum 8 (full.drop m)).1, (scNum 6 (full.drop n2)).1⟩, full.drop n3) := by
      rw [← e3, ← e2]; rfl
    refine v_again ⟨i + 1, n3, sv, ss, xs ++ [⟨(scNum 8 (full.drop m)).1, (scNum 6 (full.drop n2)).1⟩]⟩ (by dsimp only; omega) rfl inferInstance ⟨hlt, hs, ?_, hn3, ?_, ?_⟩
    · dsimp only; rw [List.length_append, hl]; rfl
    · dsimp only
      rw [q1, show k - (i + 1) = q by omega, sc_list1 e]
      simp
    · dsimp only
      rw [q2, show k - (i + 1) = q by omega, sc_list1 e]
  · obtain rfl : i = k := by omega
    rw [Nat.sub_self] at q1 q2
    repeat' (first | refine stp ?_|(refine v_spT ?_ ?_;omega)|(refine v_spF ?_ ?_;omega)|(refine v_yc ?_ ?_;omega)|refine v_lit (fun bl=>?_)|(refine v_push ?_ (fun sv ss hs hln=>?_);omega)|fail)
    refine v_o1 Tryz.results74 ⟨m, [s], hm, ?_, ⟨s, ?_, rfl⟩, rfl⟩ ⟨_, inferInstance⟩
    · rw [hall, q2]; rfl
    · rw [hall, q1]; simpa [scList] using hv
end
end Go.Proofs.YtdfoijfjlhjeaaaGreat

/- coterieref14.Scan: whole messages. -/
namespace Go.Proofs.YtdfoijfjlhjeaaaGreat
open Go Go.SX Go.RowKit
set_option maxRecDepth 100000
set_option maxHeartbeats 0
set_option synthInstance.maxSize 100000
set_option synthInstance.maxHeartbeats 400000
theorem scPart1 : scPart 1 = scMap scRekey .rekey := by unfold scPart; rw [if_pos rfl]
theorem scPart2 : scPart 2 = scMap scReq fun z => .request z.1 z.2 := by unfold scPart; rw [if_neg (by decide), if_pos rfl]
theorem scPart3 : scPart 3 = scMap scReply .reply := by unfold scPart; rw [if_neg (by decide), if_neg (by decide), if_pos rfl]
theorem scPart4 : scPart 4 = scMap scSealed .sealed := by unfold scPart; rw [if_neg (by decide), if_neg (by decide), if_neg (by decide)]
structure SmeG where
  i : Nat
  n : Nat
  v : Value
  s : Hp
  xs : List ApiItem
structure SmeOk (full : Bs) (k : Nat) (b0 : Bs) (g : SmeG) : Prop where
  le : g.i ≤ k
  own : OwnS g.v 62 ApiItem 6 cvApiItem g.xs g.s
  len : g.xs.length = g.i
  hn : g.n ≤ full.length
  eq1 : (scList scItem k b0).1 = g.xs ++ (scList scItem (k - g.i) (full.drop g.n)).1
  eq2 : (scList scItem k b0).2 = (scList scItem (k - g.i) (full.drop g.n)).2
structure SmbG where
  n : Nat
  xs : List ApiBox
structure SmbOk (full : Bs) (b0 : Bs) (g : SmbG) : Prop where
  le : g.xs.length ≤ 3
  hn : g.n ≤ full.length
  eq1 : (scList scBox 3 b0).1 = g.xs ++ (scList scBox (3 - g.xs.length) (full.drop g.n)).1
  eq2 : (scList scBox 3 b0).2 = (scList scBox (3 - g.xs.length) (full.drop g.n)).2
/-- the cells of a message whose path is begun -/
@[reducible] def rpmC (a b c : Int) : List ApiBox → Array Value
  | [] => msgC (2 + 1) 0 (.slice none 0 0) (.slice none 0 0) (.slice none 0 0) 0 0 a b c b0 b0 b0 0 k0 []
  | [x] => msgC (2 + 1) 0 (.slice none 0 0) (.slice none 0 0) (.slice none 0 0) 0 0 a b c x b0 b0 0 k0 []
  | [x, y] => msgC (2 + 1) 0 (.slice none 0 0) (.slice none 0 0) (.slice none 0 0) 0 0 a b c x y b0 0 k0 []
  | x :: y :: z :: _ => msgC (2 + 1) 0 (.slice none 0 0) (.slice none 0 0) (.slice none 0 0) 0 0 a b c x y z 0 k0 []
structure SmtG where
  n : Nat
  v : Value
  s : Hp
  xs : List UInt8
structure SmtOk (full : Bs) (k : Nat) (b0 : Bs) (g : SmtG) : Prop where
  le : g.xs.length ≤ k
  own : OwnS g.v 5 Int 1 (fun x => [.int .u8 x]) (nms g.xs) g.s
  hn : g.n ≤ full.length
  eq1 : (scList scByte k b0).1 = g.xs ++ (scList scByte (k - g.xs.length) (full.drop g.n)).1
  eq2 : (scList scByte k b0).2 = (scList scByte (k - g.xs.length) (full.drop g.n)).2
section
variable (sb rb : Nat) (x : Value) (t : Hp) (full : Bs) (hx : AtS x 5 Int 1 (fun x => [.int .u8 x]) (nbs full) t)
include hx
theorem smsg_s : ScF 29 sb rb x t full scBody (fun y v Γ => ∃ cs, v = .agg cs ∧ MsgO y.msg cs Γ) [] := by
  intro n hn
  refine spec_of1 Tryz.func29 Tryz.ntmps29 rfl rfl (fun M w0 => ?_)
  repeat' (first | refine stp ?_|(refine v_spT ?_ ?_;omega)|(refine v_spF ?_ ?_;omega)|(refine v_yc ?_ ?_;omega)|refine v_alloc' (fun ba=>?_)|refine v_lit (fun bl=>?_)|(refine v_push ?_ (fun sv ss hs hln=>?_);omega)|refine ⟨?_,?_,?_⟩|refine ⟨?_,?_⟩|refine v_tValT (by decide +kernel) ?_|fail)
  obtain ⟨bo, hbo⟩ : ∃ z, z = ba := ⟨_, rfl⟩
  subst hbo
  refine v_callB (snum_s sb rb x t full hx 2 (by decide) (by decide) n hn) ?_
  rintro v Γ' ⟨n1, Γ1, hn1, e1, ⟨rfl, rfl⟩, rfl⟩
  obtain ⟨k, hk, hk2⟩ : ∃ k : Nat, (scNum 2 (full.drop n)).1 = k ∧ k < 4 := sc_num 2 _
  have hall : scBody (full.drop n) = scPart ((k : Int) + 1) (full.drop n1) := by
    show scPart ((scNum 2 (full.drop n)).1 + 1) (scNum 2 (full.drop n)).2 = _
    rw [hk, e1]
  rw [hk]
  match k, hk2, hall with
  | 0, _, hall =>
    rw [show ((0 : Nat) : Int) + 1 = 1 from rfl, scPart1] at hall
    rw [show ((0 : Nat) : Int) = 0 from rfl]
    (try dsimp only [List.cons_append, List.nil_append])
    repeat' (first | refine stp ?_|(refine v_spT ?_ ?_;omega)|(refine v_spF ?_ ?_;omega)|(refine v_yc ?_ ?_;omega)|refine v_alloc' (fun ba=>?_)|refine v_lit (fun bl=>?_)|(refine v_push ?_ (fun sv ss hs hln=>?_);omega)|refine ⟨?_,?_,?_⟩|refine ⟨?_,?_⟩|refine v_tValT (by decide +kernel) ?_|fail)
    refine v_callB (snum_s sb rb x t full hx 8 (by decide) (by decide) _ hn1) ?_; rintro v Γ' ⟨n2, Γ1, hn2, en2, ⟨rfl, rfl⟩, rfl⟩; (try dsimp only [List.cons_append, List.nil_append]); repeat' (first | refine stp ?_|(refine v_spT ?_ ?_;omega)|(refine v_spF ?_ ?_;omega)|(refine v_yc ?_ ?_;omega)|refine v_alloc' (fun ba=>?_)|refine v_lit (fun bl=>?_)|(refine v_push ?_ (fun sv ss hs hln=>?_);omega)|refine ⟨?_,?_,?_⟩|refine ⟨?_,?_⟩|refine v_tValT (by decide +kernel) ?_|fail)
    refine v_callB (sseats_s sb rb x t full hx _ hn2) ?_
    rintro v1 Γ' ⟨n3, Γ1, hn3, e3, ⟨s1, o1, rfl⟩, rfl⟩
    (try dsimp only [List.cons_append, List.nil_append])
    repeat' (first | refine stp ?_|(refine v_spT ?_ ?_;omega)|(refine v_spF ?_ ?_;omega)|(refine v_yc ?_ ?_;omega)|refine v_alloc' (fun ba=>?_)|refine v_lit (fun bl=>?_)|(refine v_push ?_ (fun sv ss hs hln=>?_);omega)|refine ⟨?_,?_,?_⟩|refine ⟨?_,?_⟩|refine v_tValT (by decide +kernel) ?_|fail)
    refine v_callB (sseats_s sb rb x t full hx _ hn3) ?_
    rintro v2 Γ' ⟨n4, Γ1, hn4, e4, ⟨s2, o2, rfl⟩, rfl⟩
    (try dsimp only [List.cons_append, List.nil_append])
    repeat' (first | refine stp ?_|(refine v_spT ?_ ?_;omega)|(refine v_spF ?_ ?_;omega)|(refine v_yc ?_ ?_;omega)|refine v_alloc' (fun ba=>?_)|refine v_lit (fun bl=>?_)|(refine v_push ?_ (fun sv ss hs hln=>?_);omega)|refine ⟨?_,?_,?_⟩|refine ⟨?_,?_⟩|refine v_tValT (by decide +kernel) ?_|fail)
    refine v_callB (snum_s sb rb x t full hx 11 (by decide) (by decide) _ hn4) ?_; rintro v Γ' ⟨n5, Γ1, hn5, en5, ⟨rfl, rfl⟩, rfl⟩; (try dsimp only [List.cons_append, List.nil_append]); repeat' (first | refine stp ?_|(refine v_spT ?_ ?_;omega)|(refine v_spF ?_ ?_;omega)|(refine v_yc ?_ ?_;omega)|refine v_alloc' (fun ba=>?_)|refine v_lit (fun bl=>?_)|(refine v_push ?_ (fun sv ss hs hln=>?_);omega)|refine ⟨?_,?_,?_⟩|refine ⟨?_,?_⟩|refine v_tValT (by decide +kernel) ?_|fail)
    obtain ⟨k, hk', hk2'⟩ : ∃ k : Nat, (scNum 11 (full.drop n4)).1 = k ∧ k < 2048 := sc_num 11 _
    have hc4 : scCnt 11 scItem (full.drop n4) = scList scItem k (full.drop n5) := by
      show scList scItem (scNum 11 (full.drop n4)).1.toNat (scNum 11 (full.drop n4)).2 = _
      rw [hk', en5, Int.toNat_natCast]
    rw [hk']
    have hres : (scBody (full.drop n)).1 = .rekey ⟨(scNum 8 (full.drop n1)).1, (scCnt 7 scSeat (full.drop n2)).1, (scCnt 7 scSeat (full.drop n3)).1, (scList scItem k (full.drop n5)).1⟩ ∧ (scBody (full.drop n)).2 = (scList scItem k (full.drop n5)).2 := by
      rw [hall]
      simp only [scMap, scRekey, scBind, en2, e3, e4, hc4, and_self]
    generalize (scNum 8 (full.drop n1)).1 = ep at *
    generalize (scCnt 7 scSeat (full.drop n2)).1 = l1 at *
    generalize (scCnt 7 scSeat (full.drop n3)).1 = l2 at *
    refine v_lp [5] [0, 2, 3, 4] (fun g : SmeG => [.int .i64 g.i]) (fun g => [rrS rb g.n x, g.s, s1, s2, [(ba, .cells (msgC (0 + 1) ep v1 v2 g.v 0 0 0 0 0 b0 b0 b0 0 k0 []) 49 (0, 0))], [(bo, .cells (z26 0) 49 (0, 0))]]) (SmeOk full k (full.drop n5)) (fun g => k - g.i) ⟨0, n5, .slice none 0 0, [], []⟩ (fun _ => rfl) rfl inferInstance ⟨Nat.zero_le _, OwnS.nil, rfl, hn5, rfl, rfl⟩ ?_
    rintro ⟨i, m, v, s, xs⟩ ⟨hi, hv, hl, hm, q1, q2⟩
    dsimp only at hi hv hl hm q1 q2 ⊢
    (try dsimp only [zipE_c, zipE_n, List.cons_append, List.nil_append])
    rcases Nat.lt_or_ge i k with hlt | hge
    · obtain ⟨q, hq⟩ : ∃ q, k - i = q + 1 := ⟨k - i - 1, by omega⟩
      rw [hq] at q1 q2
      repeat' (first | refine stp ?_|(refine v_spT ?_ ?_;omega)|(refine v_spF ?_ ?_;omega)|(refine v_yc ?_ ?_;omega)|refine v_alloc' (fun ba=>?_)|refine v_lit (fun bl=>?_)|(refine v_push ?_ (fun sv ss hs hln=>?_);omega)|refine ⟨?_,?_,?_⟩|refine ⟨?_,?_⟩|refine v_tValT (by decide +kernel) ?_|fail)
      refine v_callB (snum_s sb rb x t full hx 5 (by decide) (by decide) _ hm) ?_; rintro v Γ' ⟨m2, Γ1, hm2, em2, ⟨rfl, rfl⟩, rfl⟩; (try dsimp only [List.cons_append, List.nil_append]); repeat' (first | refine stp ?_|(refine v_spT ?_ ?_;omega)|(refine v_spF ?_ ?_;omega)|(refine v_yc ?_ ?_;omega)|refine v_alloc' (fun ba=>?_)|refine v_lit (fun bl=>?_)|(refine v_push ?_ (fun sv ss hs hln=>?_);omega)|refine ⟨?_,?_,?_⟩|refine ⟨?_,?_⟩|refine v_tValT (by decide +kernel) ?_|fail)
      refine v_callB (snum_s sb rb x t full hx 7 (by decide) (by decide) _ hm2) ?_; rintro v Γ' ⟨m3, Γ1, hm3, em3, ⟨rfl, rfl⟩, rfl⟩; (try dsimp only [List.cons_append, List.nil_append])
      repeat' (first | refine stp ?_|(refine v_spT ?_ ?_;omega)|(refine v_spF ?_ ?_;omega)|(refine v_yc ?_ ?_;omega)|refine v_alloc' (fun ba=>?_)|refine v_lit (fun bl=>?_)|(refine v_push ?_ (fun sv ss hs hln=>?_);omega)|refine ⟨?_,?_,?_⟩|refine ⟨?_,?_⟩|refine v_tValT (by decide +kernel) ?_|fail)
      refine v_drawnE (id:=13) 12 plE29_13 [rrS rb m3 x, s] (by kernel_rfl) ?_
      repeat' (first | refine stp ?_|(refine v_spT ?_ ?_;omega)|(refine v_spF ?_ ?_;omega)|(refine v_yc ?_ ?_;omega)|refine v_alloc' (fun ba=>?_)|refine v_lit (fun bl=>?_)|(refine v_push ?_ (fun sv ss hs hln=>?_);omega)|refine ⟨?_,?_,?_⟩|refine ⟨?_,?_⟩|refine v_tValT (by decide +kernel) ?_|fail)
      refine v_callB (sbox_s sb rb x t full hx _ hm3) ?_
      rintro u Γ' ⟨m4, Γ1, hm4, em4, ⟨rfl, rfl⟩, rfl⟩
      (try dsimp only [List.cons_append, List.nil_append])
      repeat' (first | refine stp ?_|(refine v_spT ?_ ?_;omega)|(refine v_spF ?_ ?_;omega)|(refine v_yc ?_ ?_;omega)|refine v_alloc' (fun ba=>?_)|refine v_lit (fun bl=>?_)|(refine v_push ?_ (fun sv ss hs hln=>?_);omega)|refine ⟨?_,?_,?_⟩|refine ⟨?_,?_⟩|refine v_tValT (by decide +kernel) ?_|fail)
      have hs' : OwnS sv 62 ApiItem 6 cvApiItem (xs ++ [⟨(scNum 5 (full.drop m)).1, (scNum 7 (full.drop m2)).1, (scBox (full.drop m3)).1⟩]) ss := hs
      have e : scItem (full.drop m) = (⟨(scNum 5 (full.drop m)).1, (scNum 7 (full.drop m2)).1, (scBox (full.drop m3)).1⟩, full.drop m4) := by
        rw [← em4]; simp only [scItem, scMap, scBind, em2, em3]
      refine v_again ⟨i + 1, m4, sv, ss, _⟩ (by dsimp only; omega) rfl inferInstance ⟨hlt, hs', ?_, hm4, ?_, ?_⟩
      · dsimp only; rw [List.length_append, hl]; rfl
      · dsimp only
        rw [q1, show k - (i + 1) = q by omega, sc_list1 e]
        simp
      · dsimp only
        rw [q2, show k - (i + 1) = q by omega, sc_list1 e]
    · obtain rfl : i = k := by omega
      rw [Nat.sub_self] at q1 q2
      repeat' (first | refine stp ?_|(refine v_spT ?_ ?_;omega)|(refine v_spF ?_ ?_;omega)|(refine v_yc ?_ ?_;omega)|refine v_alloc' (fun ba=>?_)|refine v_lit (fun bl=>?_)|(refine v_push ?_ (fun sv ss hs hln=>?_);omega)|refine ⟨?_,?_,?_⟩|refine ⟨?_,?_⟩|refine v_tValT (by decide +kernel) ?_|fail)
      have hx1 : (scList scItem i (full.drop n5)).1 = xs := by rw [q1]; simp [scList]
      rw [hx1] at hres
      refine v_o1 Tryz.results29 ⟨m, _, hm, by rw [hres.2, q2]; rfl, ⟨_, rfl, v1, s1, v2, s2, v, s, ⟨b0, b0, b0, by rw [hres.1]; rfl, by rw [hres.1]; rfl⟩, by rw [hres.1]; exact o1, by rw [hres.1]; exact o2, by rw [hres.1]; exact hv, rfl⟩, rfl⟩ ⟨_, inferInstance⟩
  | 1, _, hall =>
    rw [show ((1 : Nat) : Int) + 1 = 2 from rfl, scPart2] at hall
    rw [show ((1 : Nat) : Int) = 1 from rfl]
    (try dsimp only [List.cons_append, List.nil_append])
    repeat' (first | refine stp ?_|(refine v_spT ?_ ?_;omega)|(refine v_spF ?_ ?_;omega)|(refine v_yc ?_ ?_;omega)|refine v_alloc' (fun ba=>?_)|refine v_lit (fun bl=>?_)|(refine v_push ?_ (fun sv ss hs hln=>?_);omega)|refine ⟨?_,?_,?_⟩|refine ⟨?_,?_⟩|refine v_tValT (by decide +kernel) ?_|fail)
    refine v_callB (snum_s sb rb x t full hx 8 (by decide) (by decide) _ hn1) ?_; rintro v Γ' ⟨n2, Γ1, hn2, en2, ⟨rfl, rfl⟩, rfl⟩; (try dsimp only [List.cons_append, List.nil_append]); repeat' (first | refine stp ?_|(refine v_spT ?_ ?_;omega)|(refine v_spF ?_ ?_;omega)|(refine v_yc ?_ ?_;omega)|refine v_alloc' (fun ba=>?_)|refine v_lit (fun bl=>?_)|(refine v_push ?_ (fun sv ss hs hln=>?_);omega)|refine ⟨?_,?_,?_⟩|refine ⟨?_,?_⟩|refine v_tValT (by decide +kernel) ?_|fail)
    refine v_callB (snum_s sb rb x t full hx 8 (by decide) (by decide) _ hn2) ?_; rintro v Γ' ⟨n3, Γ1, hn3, en3, ⟨rfl, rfl⟩, rfl⟩; (try dsimp only [List.cons_append, List.nil_append]); repeat' (first | refine stp ?_|(refine v_spT ?_ ?_;omega)|(refine v_spF ?_ ?_;omega)|(refine v_yc ?_ ?_;omega)|refine v_alloc' (fun ba=>?_)|refine v_lit (fun bl=>?_)|(refine v_push ?_ (fun sv ss hs hln=>?_);omega)|refine ⟨?_,?_,?_⟩|refine ⟨?_,?_⟩|refine v_tValT (by decide +kernel) ?_|fail)
    have hres : (scBody (full.drop n)).1 = .request (scNum 8 (full.drop n1)).1 (scNum 8 (full.drop n2)).1 ∧ (scBody (full.drop n)).2 = full.drop n3 := by
      rw [hall, ← en3]
      simp only [scMap, scReq, scBind, en2, and_self]
    refine v_o1 Tryz.results29 ⟨n3, [[], [], []], hn3, hres.2, ⟨_, rfl, _, _, _, _, _, _, ⟨b0, b0, b0, by rw [hres.1]; rfl, by rw [hres.1]; rfl⟩, by rw [hres.1]; exact OwnS.nil, by rw [hres.1]; exact OwnS.nil, by rw [hres.1]; exact OwnS.nil, rfl⟩, rfl⟩ ⟨_, inferInstance⟩
  | 2, _, hall =>
    rw [show ((2 : Nat) : Int) + 1 = 3 from rfl, scPart3] at hall
    rw [show ((2 : Nat) : Int) = 2 from rfl]
    (try dsimp only [List.cons_append, List.nil_append])
    repeat' (first | refine stp ?_|(refine v_spT ?_ ?_;omega)|(refine v_spF ?_ ?_;omega)|(refine v_yc ?_ ?_;omega)|refine v_alloc' (fun ba=>?_)|refine v_lit (fun bl=>?_)|(refine v_push ?_ (fun sv ss hs hln=>?_);omega)|refine ⟨?_,?_,?_⟩|refine ⟨?_,?_⟩|refine v_tValT (by decide +kernel) ?_|fail)
    refine v_callB (snum_s sb rb x t full hx 8 (by decide) (by decide) _ hn1) ?_; rintro v Γ' ⟨n2, Γ1, hn2, en2, ⟨rfl, rfl⟩, rfl⟩; (try dsimp only [List.cons_append, List.nil_append]); repeat' (first | refine stp ?_|(refine v_spT ?_ ?_;omega)|(refine v_spF ?_ ?_;omega)|(refine v_yc ?_ ?_;omega)|refine v_alloc' (fun ba=>?_)|refine v_lit (fun bl=>?_)|(refine v_push ?_ (fun sv ss hs hln=>?_);omega)|refine ⟨?_,?_,?_⟩|refine ⟨?_,?_⟩|refine v_tValT (by decide +kernel) ?_|fail)
    refine v_callB (snum_s sb rb x t full hx 6 (by decide) (by decide) _ hn2) ?_; rintro v Γ' ⟨n3, Γ1, hn3, en3, ⟨rfl, rfl⟩, rfl⟩; (try dsimp only [List.cons_append, List.nil_append]); repeat' (first | refine stp ?_|(refine v_spT ?_ ?_;omega)|(refine v_spF ?_ ?_;omega)|(refine v_yc ?_ ?_;omega)|refine v_alloc' (fun ba=>?_)|refine v_lit (fun bl=>?_)|(refine v_push ?_ (fun sv ss hs hln=>?_);omega)|refine ⟨?_,?_,?_⟩|refine ⟨?_,?_⟩|refine v_tValT (by decide +kernel) ?_|fail)
    refine v_callB (snum_s sb rb x t full hx 8 (by decide) (by decide) _ hn3) ?_; rintro v Γ' ⟨n4, Γ1, hn4, en4, ⟨rfl, rfl⟩, rfl⟩; (try dsimp only [List.cons_append, List.nil_append]); repeat' (first | refine stp ?_|(refine v_spT ?_ ?_;omega)|(refine v_spF ?_ ?_;omega)|(refine v_yc ?_ ?_;omega)|refine v_alloc' (fun ba=>?_)|refine v_lit (fun bl=>?_)|(refine v_push ?_ (fun sv ss hs hln=>?_);omega)|refine ⟨?_,?_,?_⟩|refine ⟨?_,?_⟩|refine v_tValT (by decide +kernel) ?_|fail)
    have hres : (scBody (full.drop n)).1 = .reply ⟨(scNum 8 (full.drop n1)).1, (scNum 6 (full.drop n2)).1, (scNum 8 (full.drop n3)).1, (scList scBox 3 (full.drop n4)).1⟩ ∧ (scBody (full.drop n)).2 = (scList scBox 3 (full.drop n4)).2 := by
      rw [hall]
      simp only [scMap, scReply, scBind, en2, en3, en4, and_self]
    generalize (scNum 8 (full.drop n1)).1 = a at *
    generalize (scNum 6 (full.drop n2)).1 = b at *
    generalize (scNum 8 (full.drop n3)).1 = c at *
    refine v_lp [8] [0, 2, 3] (fun g : SmbG => [.int .i64 g.xs.length]) (fun g => [rrS rb g.n x, [(ba, .cells (rpmC a b c g.xs) 49 (0, 0))], [(bo, .cells (z26 0) 49 (0, 0))]]) (SmbOk full (full.drop n4)) (fun g => 3 - g.xs.length) ⟨n4, []⟩ (fun _ => rfl) rfl inferInstance ⟨Nat.zero_le _, hn4, rfl, rfl⟩ ?_
    rintro ⟨m, xs⟩ ⟨hi, hm, q1, q2⟩
    dsimp only at hi hm q1 q2 ⊢
    rcases xs with _ | ⟨p, _ | ⟨q, _ | ⟨o, _ | ⟨r, t⟩⟩⟩⟩
    · -- []
      (try dsimp only [zipE_c, zipE_n, List.cons_append, List.nil_append])
      rw [show (([] : List ApiBox).length : Int) = 0 from rfl]
      simp only [rpmC]
      repeat' (first | refine stp ?_|(refine v_spT ?_ ?_;omega)|(refine v_spF ?_ ?_;omega)|(refine v_yc ?_ ?_;omega)|refine v_alloc' (fun ba=>?_)|refine v_lit (fun bl=>?_)|(refine v_push ?_ (fun sv ss hs hln=>?_);omega)|refine ⟨?_,?_,?_⟩|refine ⟨?_,?_⟩|refine v_tValT (by decide +kernel) ?_|fail)
      refine v_callB (sbox_s sb rb x t full hx _ hm) ?_
      rintro u Γ' ⟨m2, Γ1, hm2, em2, ⟨rfl, rfl⟩, rfl⟩
      (try dsimp only [List.cons_append, List.nil_append])
      repeat' (first | refine stp ?_|(refine v_spT ?_ ?_;omega)|(refine v_spF ?_ ?_;omega)|(refine v_yc ?_ ?_;omega)|refine v_alloc' (fun ba=>?_)|refine v_lit (fun bl=>?_)|(refine v_push ?_ (fun sv ss hs hln=>?_);omega)|refine ⟨?_,?_,?_⟩|refine ⟨?_,?_⟩|refine v_tValT (by decide +kernel) ?_|fail)
      rw [show 7 + 3 + Int.toNat 0 * 4 = 10 from rfl]
      repeat' (first | refine stp ?_|(refine v_spT ?_ ?_;omega)|(refine v_spF ?_ ?_;omega)|(refine v_yc ?_ ?_;omega)|refine v_alloc' (fun ba=>?_)|refine v_lit (fun bl=>?_)|(refine v_push ?_ (fun sv ss hs hln=>?_);omega)|refine ⟨?_,?_,?_⟩|refine ⟨?_,?_⟩|refine v_tValT (by decide +kernel) ?_|fail)
      have e : scBox (full.drop m) = ((scBox (full.drop m)).1, full.drop m2) := by rw [← em2]
      refine v_again ⟨m2, [(scBox (full.drop m)).1]⟩ (by dsimp only [List.length_cons, List.length_nil]; omega) rfl inferInstance ⟨by dsimp only [List.length_cons, List.length_nil]; omega, hm2, ?_, ?_⟩
      · dsimp only
        rw [q1]
        show [] ++ (scList scBox (2 + 1) (full.drop m)).1 = [(scBox (full.drop m)).1] ++ (scList scBox 2 (full.drop m2)).1
        rw [sc_list1 e]; rfl
      · dsimp only
        rw [q2]
        show (scList scBox (2 + 1) (full.drop m)).2 = (scList scBox 2 (full.drop m2)).2
        rw [sc_list1 e]
    · -- [p]
      (try dsimp only [zipE_c, zipE_n, List.cons_append, List.nil_append])
      rw [show (([p] : List ApiBox).length : Int) = 1 from rfl]
      simp only [rpmC]
      repeat' (first | refine stp ?_|(refine v_spT ?_ ?_;omega)|(refine v_spF ?_ ?_;omega)|(refine v_yc ?_ ?_;omega)|refine v_alloc' (fun ba=>?_)|refine v_lit (fun bl=>?_)|(refine v_push ?_ (fun sv ss hs hln=>?_);omega)|refine ⟨?_,?_,?_⟩|refine ⟨?_,?_⟩|refine v_tValT (by decide +kernel) ?_|fail)
      refine v_callB (sbox_s sb rb x t full hx _ hm) ?_
      rintro u Γ' ⟨m2, Γ1, hm2, em2, ⟨rfl, rfl⟩, rfl⟩
      (try dsimp only [List.cons_append, List.nil_append])
      repeat' (first | refine stp ?_|(refine v_spT ?_ ?_;omega)|(refine v_spF ?_ ?_;omega)|(refine v_yc ?_ ?_;omega)|refine v_alloc' (fun ba=>?_)|refine v_lit (fun bl=>?_)|(refine v_push ?_ (fun sv ss hs hln=>?_);omega)|refine ⟨?_,?_,?_⟩|refine ⟨?_,?_⟩|refine v_tValT (by decide +kernel) ?_|fail)
      rw [show 7 + 3 + Int.toNat 1 * 4 = 14 from rfl]
      repeat' (first | refine stp ?_|(refine v_spT ?_ ?_;omega)|(refine v_spF ?_ ?_;omega)|(refine v_yc ?_ ?_;omega)|refine v_alloc' (fun ba=>?_)|refine v_lit (fun bl=>?_)|(refine v_push ?_ (fun sv ss hs hln=>?_);omega)|refine ⟨?_,?_,?_⟩|refine ⟨?_,?_⟩|refine v_tValT (by decide +kernel) ?_|fail)
      have e : scBox (full.drop m) = ((scBox (full.drop m)).1, full.drop m2) := by rw [← em2]
      refine v_again ⟨m2, [p, (scBox (full.drop m)).1]⟩ (by dsimp only [List.length_cons, List.length_nil]; omega) rfl inferInstance ⟨by dsimp only [List.length_cons, List.length_nil]; omega, hm2, ?_, ?_⟩
      · dsimp only
        rw [q1]
        show [p] ++ (scList scBox (1 + 1) (full.drop m)).1 = [p, (scBox (full.drop m)).1] ++ (scList scBox 1 (full.drop m2)).1
        rw [sc_list1 e]; rfl
      · dsimp only
        rw [q2]
        show (scList scBox (1 + 1) (full.drop m)).2 = (scList scBox 1 (full.drop m2)).2
        rw [sc_list1 e]
    · -- [p, q]
      (try dsimp only [zipE_c, zipE_n, List.cons_append, List.nil_append])
      rw [show (([p, q] : List ApiBox).length : Int) = 2 from rfl]
      simp only [rpmC]
      repeat' (first | refine stp ?_|(refine v_spT ?_ ?_;omega)|(refine v_spF ?_ ?_;omega)|(refine v_yc ?_ ?_;omega)|refine v_alloc' (fun ba=>?_)|refine v_lit (fun bl=>?_)|(refine v_push ?_ (fun sv ss hs hln=>?_);omega)|refine ⟨?_,?_,?_⟩|refine ⟨?_,?_⟩|refine v_tValT (by decide +kernel) ?_|fail)
      refine v_callB (sbox_s sb rb x t full hx _ hm) ?_
      rintro u Γ' ⟨m2, Γ1, hm2, em2, ⟨rfl, rfl⟩, rfl⟩
      (try dsimp only [List.cons_append, List.nil_append])
      repeat' (first | refine stp ?_|(refine v_spT ?_ ?_;omega)|(refine v_spF ?_ ?_;omega)|(refine v_yc ?_ ?_;omega)|refine v_alloc' (fun ba=>?_)|refine v_lit (fun bl=>?_)|(refine v_push ?_ (fun sv ss hs hln=>?_);omega)|refine ⟨?_,?_,?_⟩|refine ⟨?_,?_⟩|refine v_tValT (by decide +kernel) ?_|fail)
      rw [show 7 + 3 + Int.toNat 2 * 4 = 18 from rfl]
      repeat' (first | refine stp ?_|(refine v_spT ?_ ?_;omega)|(refine v_spF ?_ ?_;omega)|(refine v_yc ?_ ?_;omega)|refine v_alloc' (fun ba=>?_)|refine v_lit (fun bl=>?_)|(refine v_push ?_ (fun sv ss hs hln=>?_);omega)|refine ⟨?_,?_,?_⟩|refine ⟨?_,?_⟩|refine v_tValT (by decide +kernel) ?_|fail)
      have e : scBox (full.drop m) = ((scBox (full.drop m)).1, full.drop m2) := by rw [← em2]
      refine v_again ⟨m2, [p, q, (scBox (full.drop m)).1]⟩ (by dsimp only [List.length_cons, List.length_nil]; omega) rfl inferInstance ⟨by dsimp only [List.length_cons, List.length_nil]; omega, hm2, ?_, ?_⟩
      · dsimp only
        rw [q1]
        show [p, q] ++ (scList scBox (0 + 1) (full.drop m)).1 = [p, q, (scBox (full.drop m)).1] ++ (scList scBox 0 (full.drop m2)).1
        rw [sc_list1 e]; rfl
      · dsimp only
        rw [q2]
        show (scList scBox (0 + 1) (full.drop m)).2 = (scList scBox 0 (full.drop m2)).2
        rw [sc_list1 e]
    · (try dsimp only [zipE_c, zipE_n, List.cons_append, List.nil_append])
      rw [show (([p, q, o] : List ApiBox).length : Int) = 3 from rfl]
      simp only [rpmC]
      repeat' (first | refine stp ?_|(refine v_spT ?_ ?_;omega)|(refine v_spF ?_ ?_;omega)|(refine v_yc ?_ ?_;omega)|refine v_alloc' (fun ba=>?_)|refine v_lit (fun bl=>?_)|(refine v_push ?_ (fun sv ss hs hln=>?_);omega)|refine ⟨?_,?_,?_⟩|refine ⟨?_,?_⟩|refine v_tValT (by decide +kernel) ?_|fail)
      have hx1 : (scList scBox 3 (full.drop n4)).1 = [p, q, o] := by rw [q1]; rfl
      rw [hx1] at hres
      refine v_o1 Tryz.results29 ⟨m, [[], [], []], hm, by rw [hres.2, q2]; rfl, ⟨_, rfl, _, _, _, _, _, _, ⟨p, q, o, by rw [hres.1]; rfl, by rw [hres.1]; rfl⟩, by rw [hres.1]; exact OwnS.nil, by rw [hres.1]; exact OwnS.nil, by rw [hres.1]; exact OwnS.nil, rfl⟩, rfl⟩ ⟨_, inferInstance⟩
    · exact absurd hi (by simp only [List.length_cons]; omega)
  | 3, _, hall =>
    rw [show ((3 : Nat) : Int) + 1 = 4 from rfl, scPart4] at hall
    rw [show ((3 : Nat) : Int) = 3 from rfl]
    (try dsimp only [List.cons_append, List.nil_append])
    repeat' (first | refine stp ?_|(refine v_spT ?_ ?_;omega)|(refine v_spF ?_ ?_;omega)|(refine v_yc ?_ ?_;omega)|refine v_alloc' (fun ba=>?_)|refine v_lit (fun bl=>?_)|(refine v_push ?_ (fun sv ss hs hln=>?_);omega)|refine ⟨?_,?_,?_⟩|refine ⟨?_,?_⟩|refine v_tValT (by decide +kernel) ?_|fail)
    refine v_callB (snum_s sb rb x t full hx 8 (by decide) (by decide) _ hn1) ?_; rintro v Γ' ⟨n2, Γ1, hn2, en2, ⟨rfl, rfl⟩, rfl⟩; (try dsimp only [List.cons_append, List.nil_append]); repeat' (first | refine stp ?_|(refine v_spT ?_ ?_;omega)|(refine v_spF ?_ ?_;omega)|(refine v_yc ?_ ?_;omega)|refine v_alloc' (fun ba=>?_)|refine v_lit (fun bl=>?_)|(refine v_push ?_ (fun sv ss hs hln=>?_);omega)|refine ⟨?_,?_,?_⟩|refine ⟨?_,?_⟩|refine v_tValT (by decide +kernel) ?_|fail)
    refine v_callB (skey_s sb rb x t full hx _ hn2) ?_
    rintro v Γ' ⟨n3, Γ1, hn3, e3, ⟨rfl, rfl⟩, rfl⟩
    (try dsimp only [List.cons_append, List.nil_append])
    repeat' (first | refine stp ?_|(refine v_spT ?_ ?_;omega)|(refine v_spF ?_ ?_;omega)|(refine v_yc ?_ ?_;omega)|refine v_alloc' (fun ba=>?_)|refine v_lit (fun bl=>?_)|(refine v_push ?_ (fun sv ss hs hln=>?_);omega)|refine ⟨?_,?_,?_⟩|refine ⟨?_,?_⟩|refine v_tValT (by decide +kernel) ?_|fail)
    refine v_callB (snum_s sb rb x t full hx 7 (by decide) (by decide) _ hn3) ?_; rintro v Γ' ⟨n4, Γ1, hn4, en4, ⟨rfl, rfl⟩, rfl⟩; (try dsimp only [List.cons_append, List.nil_append]); repeat' (first | refine stp ?_|(refine v_spT ?_ ?_;omega)|(refine v_spF ?_ ?_;omega)|(refine v_yc ?_ ?_;omega)|refine v_alloc' (fun ba=>?_)|refine v_lit (fun bl=>?_)|(refine v_push ?_ (fun sv ss hs hln=>?_);omega)|refine ⟨?_,?_,?_⟩|refine ⟨?_,?_⟩|refine v_tValT (by decide +kernel) ?_|fail)
    obtain ⟨k, hk', hk2'⟩ : ∃ k : Nat, (scNum 7 (full.drop n3)).1 = k ∧ k < 128 := sc_num 7 _
    have hc4 : scCnt 7 scByte (full.drop n3) = scList scByte k (full.drop n4) := by
      show scList scByte (scNum 7 (full.drop n3)).1.toNat (scNum 7 (full.drop n3)).2 = _
      rw [hk', en4, Int.toNat_natCast]
    rw [hk']
    have hres : (scBody (full.drop n)).1 = .sealed ⟨(scNum 8 (full.drop n1)).1, (scKey (full.drop n2)).1, (scList scByte k (full.drop n4)).1⟩ ∧ (scBody (full.drop n)).2 = (scList scByte k (full.drop n4)).2 := by
      rw [hall]
      simp only [scMap, scSealed, scBind, en2, e3, hc4, and_self]
    generalize (scNum 8 (full.drop n1)).1 = ep at *
    generalize (scKey (full.drop n2)).1 = kk at *
    refine v_lp [10, 11] [0, 2, 3, 9] (fun g : SmtG => [g.v, .int .i64 g.xs.length]) (fun g => [rrS rb g.n x, g.s, [(ba, .cells (msgC (3 + 1) 0 (.slice none 0 0) (.slice none 0 0) (.slice none 0 0) 0 0 0 0 0 b0 b0 b0 ep kk []) 49 (0, 0))], [(bo, .cells (z26 0) 49 (0, 0))]]) (SmtOk full k (full.drop n4)) (fun g => k - g.xs.length) ⟨n4, .slice none 0 0, [], []⟩ (fun _ => rfl) rfl inferInstance ⟨Nat.zero_le _, OwnS.nil, hn4, rfl, rfl⟩ ?_
    rintro ⟨m, v, s, xs⟩ ⟨hi, hv, hm, q1, q2⟩
    dsimp only at hi hv hm q1 q2 ⊢
    (try dsimp only [zipE_c, zipE_n, List.cons_append, List.nil_append])
    rcases Nat.lt_or_ge xs.length k with hlt | hge
    · obtain ⟨q, hq⟩ : ∃ q, k - xs.length = q + 1 := ⟨k - xs.length - 1, by omega⟩
      rw [hq] at q1 q2
      have hnl := nms_len xs
      repeat' (first | refine stp ?_|(refine v_spT ?_ ?_;omega)|(refine v_spF ?_ ?_;omega)|(refine v_yc ?_ ?_;omega)|refine v_alloc' (fun ba=>?_)|refine v_lit (fun bl=>?_)|(refine v_push ?_ (fun sv ss hs hln=>?_);omega)|refine ⟨?_,?_,?_⟩|refine ⟨?_,?_⟩|refine v_tValT (by decide +kernel) ?_|fail)
      refine v_callB (snum_s sb rb x t full hx 8 (by decide) (by decide) _ hm) ?_
      rintro u Γ' ⟨m2, Γ1, hm2, em2, ⟨rfl, rfl⟩, rfl⟩
      (try dsimp only [List.cons_append, List.nil_append])
      repeat' (first | refine stp ?_|(refine v_spT ?_ ?_;omega)|(refine v_spF ?_ ?_;omega)|(refine v_yc ?_ ?_;omega)|refine v_alloc' (fun ba=>?_)|refine v_lit (fun bl=>?_)|(refine v_push ?_ (fun sv ss hs hln=>?_);omega)|refine ⟨?_,?_,?_⟩|refine ⟨?_,?_⟩|refine v_tValT (by decide +kernel) ?_|fail)
      obtain ⟨c, hc8, hc2⟩ : ∃ c : Nat, (scNum 8 (full.drop m)).1 = c ∧ c < 256 := sc_num 8 _
      have hb : nms xs ++ [IntKind.u8.wrap (scNum 8 (full.drop m)).1] = nms (xs ++ [UInt8.ofNat c]) := by
        rw [hc8, u8_wrap hc2]
        simp only [nms, List.map_append, List.map_cons, List.map_nil, UInt8.toNat_ofNat', Nat.mod_eq_of_lt (show c < 2 ^ 8 from hc2)]
      rw [hb] at hs
      have e : scByte (full.drop m) = (UInt8.ofNat c, full.drop m2) := by
        rw [← em2]; simp only [scByte, scMap, hc8, Int.toNat_natCast]
      have hl1 : ((xs ++ [UInt8.ofNat c]).length : Int) = xs.length + 1 := by simp
      refine v_again ⟨m2, sv, ss, xs ++ [UInt8.ofNat c]⟩ (by dsimp only; simp only [List.length_append, List.length_cons, List.length_nil]; omega) ?_ inferInstance ⟨by dsimp only; simp only [List.length_append, List.length_cons, List.length_nil]; omega, hs, hm2, ?_, ?_⟩
      · dsimp only; rw [hl1]
      · dsimp only
        rw [q1, show k - (xs ++ [UInt8.ofNat c]).length = q by simp only [List.length_append, List.length_cons, List.length_nil]; omega, sc_list1 e]
        simp
      · dsimp only
        rw [q2, show k - (xs ++ [UInt8.ofNat c]).length = q by simp only [List.length_append, List.length_cons, List.length_nil]; omega, sc_list1 e]
    · have hkk : k = xs.length := by omega
      rw [hkk, Nat.sub_self] at q1 q2
      have hst := strOf_nms xs
      have hx1 : (scList scByte k (full.drop n4)).1 = xs := by rw [hkk, q1]; simp [scList]
      have hx2 : (scList scByte k (full.drop n4)).2 = full.drop m := by rw [hkk, q2]; rfl
      rw [hx1, hx2] at hres
      repeat' (first | refine stp ?_|(refine v_spT ?_ ?_;omega)|(refine v_spF ?_ ?_;omega)|(refine v_yc ?_ ?_;omega)|refine v_alloc' (fun ba=>?_)|refine v_lit (fun bl=>?_)|(refine v_push ?_ (fun sv ss hs hln=>?_);omega)|refine ⟨?_,?_,?_⟩|refine ⟨?_,?_⟩|refine v_tValT (by decide +kernel) ?_|fail)
      rw [hst]
      refine v_o1 Tryz.results29 ⟨m, [[], [], []], hm, hres.2, ⟨_, rfl, _, _, _, _, _, _, ⟨b0, b0, b0, by rw [hres.1]; rfl, by rw [hres.1]; rfl⟩, by rw [hres.1]; exact OwnS.nil, by rw [hres.1]; exact OwnS.nil, by rw [hres.1]; exact OwnS.nil, rfl⟩, rfl⟩ ⟨_, inferInstance⟩
  | k + 4, hk2, _ => exact absurd hk2 (by omega)
end
end Go.Proofs.YtdfoijfjlhjeaaaGreat

/- bits.Writer. -/
namespace Go.Proofs.YtdfoijfjlhjeaaaGreat
open Go Go.SX Go.RowKit
set_option maxRecDepth 100000
set_option maxHeartbeats 0
set_option synthInstance.maxSize 100000
set_option synthInstance.maxHeartbeats 400000
abbrev wrS (b n : Nat) (x : Value) : Hp := cell2 b n x 182
/-- the writer at b holds these bits -/
def WrAt (b : Nat) (bs : Bs) (Γ : List Hp) : Prop := ∃ n x s l, n = bs.length ∧ OwnS x 5 Int 1 (fun x => [.int .u8 x]) (nms l) s ∧ Packs bs l ∧ Γ = [wrS b n x, s]
theorem clen_s (b n : Nat) (x : Value) (T : TypeId) : SX.Spec Tryz.prog 146 #[pt b] [cell2 b n x T] [] fun v Γ => v = .int .i64 n ∧ Γ = [] := by
  refine spec_of1 Tryz.func146 Tryz.ntmps146 rfl rfl (fun M w0 => ?_)
  repeat' (first | refine stp ?_|fail)
  refine v_o1 Tryz.results146 ⟨rfl, rfl⟩ ⟨_, inferInstance⟩
theorem fits_s (v w : Nat) (h1 : 1 ≤ w) (h64 : w ≤ 64) (hv : v < 2 ^ w) : SX.Spec Tryz.prog 145 #[.int .u64 v, .int .i64 w] [] [] fun r Γ => r = .bool true ∧ Γ = [] := by
  have hw : IntKind.u64.wrap (w : Int) = w := u64_wrap (by omega)
  have hs : shrI .u64 (v : Int) (w : Int) = 0 := by rw [shr_u64 w h64, Nat.div_eq_of_lt hv]; rfl
  refine spec_of2 Tryz.func145 Tryz.ntmps145 rfl rfl (fun M w0 => ?_)
  repeat' (first | refine stp ?_|(refine v_spT ?_ ?_;omega)|refine v_spD (fun hc=>?_) (fun hc=>?_)|(refine v_yc ?_ ?_;omega)|fail)
  · refine v_o1 Tryz.results145 ⟨rfl, rfl⟩ ⟨_, inferInstance⟩
  rw [hw]
  repeat' (first | refine stp ?_|(refine v_spT ?_ ?_;omega)|refine v_spD (fun hc=>?_) (fun hc=>?_)|(refine v_yc ?_ ?_;omega)|fail)
  rw [hs]
  refine v_o1 Tryz.results145 ⟨rfl, rfl⟩ ⟨_, inferInstance⟩
structure PuG where
  i : Nat
  x : Value
  s : Hp
  l : List UInt8
structure PuOk (w v : Nat) (bs : Bs) (g : PuG) : Prop where
  le : g.i ≤ w
  own : OwnS g.x 5 Int 1 (fun x => [.int .u8 x]) (nms g.l) g.s
  pk : Packs (bs ++ (bitsOf w v).take g.i) g.l
structure PkG where
  x : Value
  s : Hp
  l : List UInt8
theorem put_s (b : Nat) (bs : Bs) (Γ0 : List Hp) (h : WrAt b bs Γ0) (v w : Nat) (h1 : 1 ≤ w) (h64 : w ≤ 64) (hv : v < 2 ^ w) (hl : bs.length < 281474976710656) : SX.Spec Tryz.prog 123 #[pt b, .int .u64 v, .int .i64 w] [] Γ0 fun r Γ => r = .int .i64 0 ∧ WrAt b (bs ++ bitsOf w v) Γ := by
  obtain ⟨_, x0, s0, l0, rfl, ho0, hp0, rfl⟩ := h
  refine spec_of3 Tryz.func123 Tryz.ntmps123 rfl rfl (fun M w0 => ?_)
  repeat' (first | refine stp ?_|(refine v_spT ?_ ?_;omega)|(refine v_spF ?_ ?_;omega)|refine v_spD (fun hc=>?_) (fun hc=>?_)|(refine v_yc ?_ ?_;omega)|refine v_lit (fun bl=>?_)|(refine v_push ?_ (fun sv ss hs hln=>?_);omega)|(refine v_set ?_ (fun ss hs hln=>?_);omega)|refine ⟨?_,?_,?_⟩|refine ⟨?_,?_⟩|(refine v_tyc ?_ ?_;omega)|refine v_tValT (by decide +kernel) ?_|refine v_drawnK (id:=10) 20 pl123_10 (by kernel_rfl) ?_|fail)
  refine v_callR (fits_s v w h1 h64 hv) ?_
  rintro r Γ' ⟨rfl, rfl⟩
  (try dsimp only [List.cons_append, List.nil_append])
  repeat' (first | refine stp ?_|(refine v_spT ?_ ?_;omega)|(refine v_spF ?_ ?_;omega)|refine v_spD (fun hc=>?_) (fun hc=>?_)|(refine v_yc ?_ ?_;omega)|refine v_lit (fun bl=>?_)|(refine v_push ?_ (fun sv ss hs hln=>?_);omega)|(refine v_set ?_ (fun ss hs hln=>?_);omega)|refine ⟨?_,?_,?_⟩|refine ⟨?_,?_⟩|(refine v_tyc ?_ ?_;omega)|refine v_tValT (by decide +kernel) ?_|refine v_drawnK (id:=10) 20 pl123_10 (by kernel_rfl) ?_|fail)
  refine v_lp [7] [0, 1] (fun g : PuG => [.int .i64 ((w : Int) - g.i)]) (fun g => [wrS b (bs.length + g.i) g.x, g.s]) (PuOk w v bs) (fun g => w - g.i) ⟨0, x0, s0, l0⟩ (fun _ => rfl) rfl inferInstance ⟨Nat.zero_le _, ho0, by simpa using hp0⟩ ?_
  rintro ⟨i, x, s, l⟩ ⟨hi, ho, hp⟩
  dsimp only at hi ho hp ⊢
  (try dsimp only [zipE_c, zipE_n, List.cons_append, List.nil_append])
  rcases Nat.lt_or_ge i w with hlt | hge
  · have ha := and7 (bs.length + i) (by omega)
    have hal : (bs ++ (bitsOf w v).take i).length = bs.length + i := by rw [List.length_append, List.length_take, bitsOf_len]; omega
    have hnl := nms_len l
    have hpl := hp.len
    rw [hal] at hpl
    have hstop25 := @stopI Tryz.prog 25
    repeat' (first | refine stp ?_|(refine v_spT ?_ ?_;omega)|(refine v_spF ?_ ?_;omega)|refine v_spD (fun hc=>?_) (fun hc=>?_)|(refine v_yc ?_ ?_;omega)|refine v_lit (fun bl=>?_)|(refine v_push ?_ (fun sv ss hs hln=>?_);omega)|(refine v_set ?_ (fun ss hs hln=>?_);omega)|refine ⟨?_,?_,?_⟩|refine ⟨?_,?_⟩|(refine v_tyc ?_ ?_;omega)|refine v_tValT (by decide +kernel) ?_|refine v_drawnK (id:=10) 20 pl123_10 (by kernel_rfl) ?_|fail)
    refine v_callR (clen_s b (bs.length + i) x 182) ?_
    rintro r Γ' ⟨rfl, rfl⟩
    (try dsimp only [List.cons_append, List.nil_append])
    repeat' (first | refine stp ?_|(refine v_spT ?_ ?_;omega)|(refine v_spF ?_ ?_;omega)|refine v_spD (fun hc=>?_) (fun hc=>?_)|(refine v_yc ?_ ?_;omega)|refine v_lit (fun bl=>?_)|(refine v_push ?_ (fun sv ss hs hln=>?_);omega)|(refine v_set ?_ (fun ss hs hln=>?_);omega)|refine ⟨?_,?_,?_⟩|refine ⟨?_,?_⟩|(refine v_tyc ?_ ?_;omega)|refine v_tValT (by decide +kernel) ?_|refine v_drawnK (id:=10) 20 pl123_10 (by kernel_rfl) ?_|fail)
    rw [ha]
    refine Stopped.go <| v_ctI 25 [] [0, 1, 7, 8] (fun g : PkG => []) (fun g => [wrS b (bs.length + i) g.x, g.s]) (fun g => OwnS g.x 5 Int 1 (fun x => [.int .u8 x]) (nms g.l) g.s ∧ PacksK (8 - (bs.length + i) % 8) (bs ++ (bitsOf w v).take i) g.l) (fun _ => rfl) ?_ ?_
    · obtain ⟨k, hk, hpk⟩ := hp
      have hkl := PacksK.len hpk
      rw [hal] at hkl
      repeat' (first | refine stp ?_|(refine v_spT ?_ ?_;omega)|(refine v_spF ?_ ?_;omega)|refine v_spD (fun hc=>?_) (fun hc=>?_)|(refine v_yc ?_ ?_;omega)|refine v_lit (fun bl=>?_)|(refine v_push ?_ (fun sv ss hs hln=>?_);omega)|(refine v_set ?_ (fun ss hs hln=>?_);omega)|refine ⟨?_,?_,?_⟩|refine ⟨?_,?_⟩|(refine v_tyc ?_ ?_;omega)|refine v_tValT (by decide +kernel) ?_|refine v_drawnK (id:=10) 20 pl123_10 (by kernel_rfl) ?_|fail)
      · obtain rfl : k = 0 := by omega
        (try dsimp only [List.cons_append, List.nil_append])
        refine v_here ⟨sv, ss, l ++ [0]⟩ rfl inferInstance ⟨?_, ?_⟩
        · show OwnS sv _ Int 1 _ (nms (l ++ [0])) ss
          rw [show nms (l ++ [0]) = nms l ++ [0] by simp [nms]]
          exact hs
        · have e := PacksK.more hpk
          rwa [show 8 - (bs.length + i) % 8 = 8 by omega]
      · (try dsimp only [List.cons_append, List.nil_append])
        refine v_here ⟨x, s, l⟩ rfl inferInstance ⟨ho, ?_⟩
        rw [show 8 - (bs.length + i) % 8 = k by omega]
        exact hpk
    · rintro ⟨x1, s1, l1⟩ ⟨ho1, hp1⟩
      dsimp only at ho1 hp1 ⊢
      (try dsimp only [zipE_c, zipE_n, List.cons_append, List.nil_append])
      have hk1 := hp1.len
      rw [hal] at hk1
      have hnl1 := nms_len l1
      obtain ⟨m, hmn, hm1, hm8, hmw⟩ : ∃ m : Nat, (if (w : Int) - i < 8 - (((bs.length + i) % 8 : Nat) : Int) then (w : Int) - i else 8 - (((bs.length + i) % 8 : Nat) : Int)) = (m : Int) ∧ 1 ≤ m ∧ (bs.length + i) % 8 + m ≤ 8 ∧ i + m ≤ w := by
        by_cases h : (w : Int) - i < 8 - (((bs.length + i) % 8 : Nat) : Int)
        · exact ⟨w - i, by rw [if_pos h]; omega, by omega, by omega, by omega⟩
        · exact ⟨8 - (bs.length + i) % 8, by rw [if_neg h]; omega, by omega, by omega, by omega⟩
      repeat' (first | refine stp ?_|(refine v_spT ?_ ?_;omega)|(refine v_spF ?_ ?_;omega)|refine v_spD (fun hc=>?_) (fun hc=>?_)|(refine v_yc ?_ ?_;omega)|refine v_lit (fun bl=>?_)|(refine v_push ?_ (fun sv ss hs hln=>?_);omega)|(refine v_set ?_ (fun ss hs hln=>?_);omega)|refine ⟨?_,?_,?_⟩|refine ⟨?_,?_⟩|(refine v_tyc ?_ ?_;omega)|refine v_tValT (by decide +kernel) ?_|refine v_drawnK (id:=10) 20 pl123_10 (by kernel_rfl) ?_|fail)
      rw [hmn]
      have hw2 : IntKind.u64.wrap ((w : Int) - i - m) = ((w - i - m : Nat) : Int) := by
        rw [show (w : Int) - i - m = ((w - i - m : Nat) : Int) by omega, u64_wrap (by omega)]
      have hw3 : IntKind.u64.wrap (m : Int) = m := u64_wrap (by omega)
      have hw4 : IntKind.u64.wrap (8 - (((bs.length + i) % 8 : Nat) : Int) - m) = ((8 - (bs.length + i) % 8 - m : Nat) : Int) := by
        rw [show 8 - (((bs.length + i) % 8 : Nat) : Int) - m = ((8 - (bs.length + i) % 8 - m : Nat) : Int) by omega, u64_wrap (by omega)]
      rw [hw2]
      repeat' (first | refine stp ?_|(refine v_spT ?_ ?_;omega)|(refine v_spF ?_ ?_;omega)|refine v_spD (fun hc=>?_) (fun hc=>?_)|(refine v_yc ?_ ?_;omega)|refine v_lit (fun bl=>?_)|(refine v_push ?_ (fun sv ss hs hln=>?_);omega)|(refine v_set ?_ (fun ss hs hln=>?_);omega)|refine ⟨?_,?_,?_⟩|refine ⟨?_,?_⟩|(refine v_tyc ?_ ?_;omega)|refine v_tValT (by decide +kernel) ?_|refine v_drawnK (id:=10) 20 pl123_10 (by kernel_rfl) ?_|fail)
      rw [hw4]
      repeat' (first | refine stp ?_|(refine v_spT ?_ ?_;omega)|(refine v_spF ?_ ?_;omega)|refine v_spD (fun hc=>?_) (fun hc=>?_)|(refine v_yc ?_ ?_;omega)|refine v_lit (fun bl=>?_)|(refine v_push ?_ (fun sv ss hs hln=>?_);omega)|(refine v_set ?_ (fun ss hs hln=>?_);omega)|refine ⟨?_,?_,?_⟩|refine ⟨?_,?_⟩|(refine v_tyc ?_ ?_;omega)|refine v_tValT (by decide +kernel) ?_|refine v_drawnK (id:=10) 20 pl123_10 (by kernel_rfl) ?_|fail)
      refine v_callO (cadd_s b (bs.length + i) m x1 182 (by omega)) ?_
      rintro r Γ' ⟨rfl, rfl⟩
      rw [Nat.add_assoc bs.length i m]
      (try dsimp only [List.cons_append, List.nil_append])
      repeat' (first | refine stp ?_|(refine v_spT ?_ ?_;omega)|(refine v_spF ?_ ?_;omega)|refine v_spD (fun hc=>?_) (fun hc=>?_)|(refine v_yc ?_ ?_;omega)|refine v_lit (fun bl=>?_)|(refine v_push ?_ (fun sv ss hs hln=>?_);omega)|(refine v_set ?_ (fun ss hs hln=>?_);omega)|refine ⟨?_,?_,?_⟩|refine ⟨?_,?_⟩|(refine v_tyc ?_ ?_;omega)|refine v_tValT (by decide +kernel) ?_|refine v_drawnK (id:=10) 20 pl123_10 (by kernel_rfl) ?_|fail)
      have hix : (((nms l1).length : Int) - 1).toNat = l1.length - 1 := by omega
      obtain ⟨hz, h256, hpk⟩ := put_step (q := v / 2 ^ (w - i - m)) hp1 (by omega) (by omega) (show m ≤ 8 - (bs.length + i) % 8 by omega) (by omega)
      have hge : (nms l1)[l1.length - 1]'(by omega) = ((l1[l1.length - 1]'(by omega)).toNat : Int) := by simp [nms]
      have hrk : v / 2 ^ (w - i - m) % 2 ^ m * 2 ^ (8 - (bs.length + i) % 8 - m) < 2 ^ (8 - (bs.length + i) % 8) := by
        have e : 2 ^ (8 - (bs.length + i) % 8) = 2 ^ m * 2 ^ (8 - (bs.length + i) % 8 - m) := by rw [← Nat.pow_add]; congr 1; omega
        rw [e]; exact Nat.mul_lt_mul_of_pos_right (Nat.mod_lt _ (Nat.pow_pos (by decide))) (Nat.pow_pos (by decide))
      simp only [hix, hw3, hw4, hge, piece_u8 (v := v) (s := w - i - m) (m := m) (by omega) (by omega)] at hs
      rw [shl_u8 (by omega) (by omega), or_u8 (by omega) hz hrk h256] at hs
      have hset : nms (l1.set (l1.length - 1) (UInt8.ofNat ((l1[l1.length - 1]'(by omega)).toNat + v / 2 ^ (w - i - m) % 2 ^ m * 2 ^ (8 - (bs.length + i) % 8 - m)))) = (nms l1).set (l1.length - 1) (((l1[l1.length - 1]'(by omega)).toNat + v / 2 ^ (w - i - m) % 2 ^ m * 2 ^ (8 - (bs.length + i) % 8 - m) : Nat) : Int) := by
        unfold nms
        rw [List.map_set, UInt8.toNat_ofNat', Nat.mod_eq_of_lt h256]
      rw [← hset] at hs
      have htk : (bitsOf w v).take (i + m) = (bitsOf w v).take i ++ bitsOf m (v / 2 ^ (w - i - m)) := by
        rw [List.take_add, bitsOf_drop (by omega), bitsOf_take (w := w - i) (by omega)]
      refine v_again ⟨i + m, x1, ss, _⟩ (by dsimp only; omega) ?_ inferInstance ⟨hmw, hs, ?_⟩
      · dsimp only
        rw [show ((i + m : Nat) : Int) = (i : Int) + m by omega, show (w : Int) - i - m = (w : Int) - (i + m) by omega]
      · dsimp only
        rw [htk, ← List.append_assoc]
        exact ⟨_, by omega, hpk⟩
  · obtain rfl : i = w := by omega
    rw [List.take_of_length_le (by rw [bitsOf_len]; exact Nat.le_refl _)] at hp
    repeat' (first | refine stp ?_|(refine v_spT ?_ ?_;omega)|(refine v_spF ?_ ?_;omega)|refine v_spD (fun hc=>?_) (fun hc=>?_)|(refine v_yc ?_ ?_;omega)|refine v_lit (fun bl=>?_)|(refine v_push ?_ (fun sv ss hs hln=>?_);omega)|(refine v_set ?_ (fun ss hs hln=>?_);omega)|refine ⟨?_,?_,?_⟩|refine ⟨?_,?_⟩|(refine v_tyc ?_ ?_;omega)|refine v_tValT (by decide +kernel) ?_|refine v_drawnK (id:=10) 20 pl123_10 (by kernel_rfl) ?_|fail)
    refine v_o1 Tryz.results123 ⟨rfl, ⟨_, _, _, _, by rw [List.length_append, bitsOf_len], ho, hp, rfl⟩⟩ ⟨_, inferInstance⟩
end Go.Proofs.YtdfoijfjlhjeaaaGreat

/- wire.writer. -/
namespace Go.Proofs.YtdfoijfjlhjeaaaGreat
open Go Go.SX Go.RowKit
set_option maxRecDepth 100000
set_option maxHeartbeats 0
set_option synthInstance.maxSize 100000
set_option synthInstance.maxHeartbeats 400000
/-- what a writing function does -/
def WrF (f : FuncId) (b : Nat) (args : List Value) (out : Bs) (R : List Hp) : Prop :=
  ∀ (bs : Bs) (Γ0 : List Hp), WrAt b bs Γ0 → bs.length + out.length < 281474976710656 → SX.Spec Tryz.prog f (rdr b :: args).toArray R Γ0 fun v Γ => v = .tuple #[] ∧ WrAt b (bs ++ out) Γ
theorem wnum_s (b : Nat) (n : Int) (w : Nat) (h1 : 1 ≤ w) (h24 : w ≤ 24) (hn : okN w n) : WrF 64 b [.int .i64 n, .int .i64 w] (wNum w n) [] := by
  rintro bs Γ0 ⟨n0, x, s, l, e0, ho, hp, rfl⟩ hl
  obtain ⟨k, rfl⟩ : ∃ k : Nat, n = k := ⟨n.toNat, by have := hn.1; omega⟩
  have hk : k < 2 ^ w := by
    have := hn.2
    have h2 : ((2 ^ w : Nat) : Int) = 2 ^ w := by simp
    omega
  have h24 : 2 ^ w ≤ 2 ^ 24 := Nat.pow_le_pow_right (by decide) h24
  have hw : IntKind.u64.wrap (k : Int) = k := u64_wrap (by omega)
  refine spec_of3 Tryz.func64 Tryz.ntmps64 rfl rfl (fun M w0 => ?_)
  repeat' (first | refine stp ?_|refine v_box (fun bb=>?_)|fail)
  rw [hw]
  refine v_callO (put_s b bs _ ⟨n0, x, s, l, e0, ho, hp, rfl⟩ k w h1 (by omega) hk (by omega)) ?_
  rintro r Γ' ⟨rfl, n', x', s', l', e', ho', hp', rfl⟩
  (try dsimp only [List.cons_append, List.nil_append])
  repeat' (first | refine stp ?_|refine v_box (fun bb=>?_)|fail)
  refine v_o0 Tryz.results64 ⟨rfl, n', x', s', l', e', ho', hp', rfl⟩ ⟨_, inferInstance⟩
theorem u32_wrap {x : Nat} (h : x < 4294967296) : IntKind.u32.wrap (x : Int) = x := by
  have : (x : Int) % 4294967296 = x := Int.emod_eq_of_lt (by omega) (by omega)
  simp [IntKind.wrap, IntKind.bits, IntKind.signed, this]
theorem pack_u32 {a r : Nat} (ha : a < 65536) (hr : r < 256) : bits .or .u32 (shlI .u32 (IntKind.u32.wrap (a : Int)) 8) (IntKind.u32.wrap (IntKind.u8.wrap (r : Int))) = ((a * 2 ^ 8 + r : Nat) : Int) := by
  have e1 : shlI .u32 (a : Int) 8 = ((a * 2 ^ 8 : Nat) : Int) := by
    unfold shlI
    rw [show IntKind.u32.bits = 32 by rfl, show (8 : Int).toNat = 8 by rfl, Nat.min_eq_left (by decide)]
    have : (a : Int) * 2 ^ 8 = ((a * 2 ^ 8 : Nat) : Int) := by simp
    rw [this, u32_wrap (by omega)]
  have h1 : (BitVec.ofInt 32 ((a * 2 ^ 8 : Nat) : Int)).toNat = a * 2 ^ 8 := by
    rw [BitVec.ofInt_natCast, BitVec.toNat_ofNat]; exact Nat.mod_eq_of_lt (by omega)
  have h2 : (BitVec.ofInt 32 (r : Int)).toNat = r := by
    rw [BitVec.ofInt_natCast, BitVec.toNat_ofNat]; exact Nat.mod_eq_of_lt (by omega)
  rw [u32_wrap (by omega), u8_wrap hr, u32_wrap (by omega), e1]
  show IntKind.u32.wrap ((BitVec.ofInt 32 ((a * 2 ^ 8 : Nat) : Int) ||| BitVec.ofInt 32 (r : Int)).toNat : Int) = _
  rw [BitVec.toNat_or, h1, h2, Nat.mul_comm, ← Nat.two_pow_add_eq_or_of_lt (by omega : r < 2 ^ 8), Nat.mul_comm]
  exact u32_wrap (by omega)
theorem kpack_s (k : ApiKey) (h : Gd k.Base k.Step) : SX.Spec Tryz.prog 124 #[avApiKey k] [] [] fun v Γ => v = .tuple #[.int .u32 ((k.Base.toNat * 2 ^ 8 + k.Step.toNat : Nat) : Int), .int .i64 0] ∧ Γ = [] := by
  obtain ⟨k1, k2⟩ := k
  have h' := h
  obtain ⟨h1, h2, h3, h4⟩ := h'
  dsimp only at h1 h2 h3 h4
  obtain ⟨a, rfl⟩ : ∃ a : Nat, k1 = a := ⟨k1.toNat, by omega⟩
  obtain ⟨r, rfl⟩ : ∃ r : Nat, k2 = r := ⟨k2.toNat, by omega⟩
  refine spec_of1 Tryz.func124 Tryz.ntmps124 rfl rfl (fun M w0 => ?_)
  repeat' (first | refine stp ?_|refine v_spD (fun hc=>?_) (fun hc=>?_)|(refine v_yc ?_ ?_;omega)|refine v_box (fun bb=>?_)|fail)
  · exact absurd h hc
  · rw [pack_u32 (by omega) (by omega)]
    refine v_o2 Tryz.results124 ⟨rfl, rfl⟩ ⟨_, inferInstance⟩
theorem wkey_s (b : Nat) (k : ApiKey) (h : Gd k.Base k.Step) : WrF 67 b [avApiKey k] (wKey k) [] := by
  rintro bs Γ0 ⟨n0, x, s, l, e0, ho, hp, rfl⟩ hl
  have hlw : (wKey k).length = 24 := by simp [wKey, wNum, bitsOf_len]
  have h' := h
  obtain ⟨h1, h2, h3, h4⟩ := h'
  have hw : IntKind.u64.wrap ((k.Base.toNat * 2 ^ 8 + k.Step.toNat : Nat) : Int) = ((k.Base.toNat * 2 ^ 8 + k.Step.toNat : Nat) : Int) := u64_wrap (by omega)
  have hb : wKey k = bitsOf 24 (k.Base.toNat * 2 ^ 8 + k.Step.toNat) := (bitsOf_app (a := 16) (b := 8) (by omega)).symm
  refine spec_of2 Tryz.func67 Tryz.ntmps67 rfl rfl (fun M w0 => ?_)
  repeat' (first | refine stp ?_|refine v_box (fun bb=>?_)|fail)
  refine v_callR (kpack_s k h) ?_
  rintro r Γ' ⟨rfl, rfl⟩
  (try dsimp only [List.cons_append, List.nil_append])
  repeat' (first | refine stp ?_|refine v_box (fun bb=>?_)|fail)
  rw [hw]
  refine v_callO (put_s b bs _ ⟨n0, x, s, l, e0, ho, hp, rfl⟩ (k.Base.toNat * 2 ^ 8 + k.Step.toNat) 24 (by decide) (by decide) (by omega) (by omega)) ?_
  rintro r Γ' ⟨rfl, n', x', s', l', e', ho', hp', rfl⟩
  rw [← hb] at hp' e'
  (try dsimp only [List.cons_append, List.nil_append])
  repeat' (first | refine stp ?_|refine v_box (fun bb=>?_)|fail)
  refine v_o0 Tryz.results67 ⟨rfl, n', x', s', l', e', ho', hp', rfl⟩ ⟨_, inferInstance⟩
theorem wbox_s (b : Nat) (k : ApiBox) (h : goodBox k) : WrF 66 b [avApiBox k] (wBox k) [] := by
  rintro bs Γ0 ⟨n0, x, s, l, e0, ho, hp, rfl⟩ hl
  have hlw : ∀ k, (wKey k).length = 24 := fun k => by simp [wKey, wNum, bitsOf_len]
  have hlb : (wBox k).length = 48 := by simp [wBox, hlw]
  refine spec_of2 Tryz.func66 Tryz.ntmps66 rfl rfl (fun M w0 => ?_)
  repeat' (first | refine stp ?_|refine v_box (fun bb=>?_)|fail)
  refine v_callO (wkey_s b k.Under h.1 bs _ ⟨n0, x, s, l, e0, ho, hp, rfl⟩ (by rw [hlw]; omega)) ?_
  rintro r Γ' ⟨rfl, n1, x1, s1, l1, e1, ho1, hp1, rfl⟩
  (try dsimp only [List.cons_append, List.nil_append])
  repeat' (first | refine stp ?_|refine v_box (fun bb=>?_)|fail)
  refine v_callO (wkey_s b k.Load h.2 _ _ ⟨n1, x1, s1, l1, e1, ho1, hp1, rfl⟩ (by rw [List.length_append, hlw, hlw]; omega)) ?_
  rintro r Γ' ⟨rfl, n2, x2, s2, l2, e2, ho2, hp2, rfl⟩
  rw [List.append_assoc] at hp2 e2
  (try dsimp only [List.cons_append, List.nil_append])
  repeat' (first | refine stp ?_|refine v_box (fun bb=>?_)|fail)
  refine v_o0 Tryz.results66 ⟨rfl, n2, x2, s2, l2, e2, ho2, hp2, rfl⟩ ⟨_, inferInstance⟩
structure WsG where
  i : Nat
  n : Nat
  x : Value
  s : Hp
  l : List UInt8
/-- the writer holds these bits -/
structure WrOk (bs : Bs) (n : Nat) (x : Value) (s : Hp) (l : List UInt8) : Prop where
  e : n = bs.length
  o : OwnS x 5 Int 1 (fun x => [.int .u8 x]) (nms l) s
  p : Packs bs l
theorem fm_take {α : Type} (e : α → Bs) {l : List α} {i : Nat} (h : i < l.length) : (l.take (i + 1)).flatMap e = (l.take i).flatMap e ++ e l[i] := by
  rw [List.take_succ_eq_append_getElem h, List.flatMap_append, List.flatMap_singleton]
theorem fm_le {α : Type} (e : α → Bs) (l : List α) (i : Nat) : ((l.take i).flatMap e).length ≤ (l.flatMap e).length := by
  conv => rhs; rw [← List.take_append_drop i l, List.flatMap_append, List.length_append]
  omega
theorem wseats_s (b : Nat) (v : Value) (t : Hp) (q : List ApiSeat) (hq : AtS v 162 ApiSeat 2 cvApiSeat q t) (hn : (q.length : Int) ≤ 64) (hg : ∀ x ∈ q, goodSeat x) : WrF 65 b [v] (wCnt 7 wSeat q) [t] := by
  rintro bs Γ0 ⟨n0, x, s, l, e0, ho, hp, rfl⟩ hl
  have hle := AtS.le hq
  have hlw : (wCnt 7 wSeat q).length = 7 + (q.flatMap wSeat).length := by simp [wCnt, wNum, bitsOf_len]
  refine spec_of2 Tryz.func65 Tryz.ntmps65 rfl rfl (fun M w0 => ?_)
  repeat' (first | refine stp ?_|(refine v_spT ?_ ?_;omega)|(refine v_spF ?_ ?_;omega)|(refine v_yc ?_ ?_;omega)|refine v_alloc' (fun ba=>?_)|refine v_box (fun bb=>?_)|fail)
  refine v_callO (wnum_s b q.length 7 (by decide) (by decide) ⟨Int.natCast_nonneg _, by omega⟩ bs _ ⟨n0, x, s, l, e0, ho, hp, rfl⟩ (by simp only [wNum, bitsOf_len]; omega)) ?_
  rintro r Γ' ⟨rfl, n1, x1, s1, l1, e1, ho1, hp1, rfl⟩
  (try dsimp only [List.cons_append, List.nil_append])
  repeat' (first | refine stp ?_|(refine v_spT ?_ ?_;omega)|(refine v_spF ?_ ?_;omega)|(refine v_yc ?_ ?_;omega)|refine v_alloc' (fun ba=>?_)|refine v_box (fun bb=>?_)|fail)
  refine v_lp [12] [2, 10, 11] (fun g : WsG => [.int .i64 g.i]) (fun g => [wrS b g.n g.x, g.s]) (fun g => g.i ≤ q.length ∧ WrOk (bs ++ wNum 7 q.length ++ (q.take g.i).flatMap wSeat) g.n g.x g.s g.l) (fun g => q.length - g.i) ⟨0, n1, x1, s1, l1⟩ (fun _ => rfl) rfl inferInstance ⟨Nat.zero_le _, by simpa using e1, ho1, by simpa using hp1⟩ ?_
  rintro ⟨i, n2, x2, s2, l2⟩ ⟨hi, e2, ho2, hp2⟩
  dsimp only at hi e2 ho2 hp2 ⊢
  (try dsimp only [zipE_c, zipE_n, List.cons_append, List.nil_append])
  rcases Nat.lt_or_ge i q.length with hlt | hge
  · have hs := hg q[i] (List.getElem_mem hlt)
    have hle2 := fm_le wSeat q (i + 1)
    rw [fm_take wSeat hlt, List.length_append] at hle2
    have hsl : (wSeat q[i]).length = 14 := by simp [wSeat, wNum, bitsOf_len]
    have hcur : (bs ++ wNum 7 q.length ++ (q.take i).flatMap wSeat).length = bs.length + 7 + ((q.take i).flatMap wSeat).length := by rw [List.length_append, List.length_append, wNum, bitsOf_len]
    repeat' (first | refine stp ?_|(refine v_spT ?_ ?_;omega)|(refine v_spF ?_ ?_;omega)|(refine v_yc ?_ ?_;omega)|refine v_alloc' (fun ba=>?_)|refine v_box (fun bb=>?_)|fail)
    refine v_callO (wnum_s b q[i].Who 8 (by decide) (by decide) (btw_ok hs.1 (by decide) (by decide)) _ _ ⟨n2, x2, s2, l2, e2, ho2, hp2, rfl⟩ (by rw [hcur]; simp only [wNum, bitsOf_len]; omega)) ?_
    rintro r Γ' ⟨rfl, n3, x3, s3, l3, e3, ho3, hp3, rfl⟩
    (try dsimp only [List.cons_append, List.nil_append])
    repeat' (first | refine stp ?_|(refine v_spT ?_ ?_;omega)|(refine v_spF ?_ ?_;omega)|(refine v_yc ?_ ?_;omega)|refine v_alloc' (fun ba=>?_)|refine v_box (fun bb=>?_)|fail)
    refine v_callO (wnum_s b q[i].Slot 6 (by decide) (by decide) (btw_ok hs.2 (by decide) (by decide)) _ _ ⟨n3, x3, s3, l3, e3, ho3, hp3, rfl⟩ (by rw [List.length_append, hcur]; simp only [wNum, bitsOf_len]; omega)) ?_
    rintro r Γ' ⟨rfl, n4, x4, s4, l4, e4, ho4, hp4, rfl⟩
    have htk : bs ++ wNum 7 q.length ++ (q.take i).flatMap wSeat ++ wNum 8 q[i].Who ++ wNum 6 q[i].Slot = bs ++ wNum 7 q.length ++ (q.take (i + 1)).flatMap wSeat := by
      rw [fm_take wSeat hlt]; simp only [wSeat, List.append_assoc]
    rw [htk] at hp4 e4
    (try dsimp only [List.cons_append, List.nil_append])
    repeat' (first | refine stp ?_|(refine v_spT ?_ ?_;omega)|(refine v_spF ?_ ?_;omega)|(refine v_yc ?_ ?_;omega)|refine v_alloc' (fun ba=>?_)|refine v_box (fun bb=>?_)|fail)
    exact v_again ⟨i + 1, n4, x4, s4, l4⟩ (by dsimp only; omega) rfl inferInstance ⟨hlt, e4, ho4, hp4⟩
  · obtain rfl : i = q.length := by omega
    rw [List.take_length] at hp2 e2
    rw [List.append_assoc] at hp2 e2
    repeat' (first | refine stp ?_|(refine v_spT ?_ ?_;omega)|(refine v_spF ?_ ?_;omega)|(refine v_yc ?_ ?_;omega)|refine v_alloc' (fun ba=>?_)|refine v_box (fun bb=>?_)|fail)
    refine v_o0 Tryz.results65 ⟨rfl, n2, x2, s2, l2, e2, ho2, hp2, rfl⟩ ⟨_, inferInstance⟩
end Go.Proofs.YtdfoijfjlhjeaaaGreat

/- coterieref03: bits one by one, writing. -/
namespace Go.Proofs.YtdfoijfjlhjeaaaGreat
open Go Go.SX Go.RowKit
set_option maxRecDepth 100000
set_option maxHeartbeats 0
set_option synthInstance.maxSize 100000
set_option synthInstance.maxHeartbeats 400000
abbrev fB (f : ApiField) : Bs := bitsOf f.Width.toNat f.Value.toNat
abbrev FOk (f : ApiField) : Prop := 1 ≤ f.Width ∧ f.Width ≤ 64 ∧ 0 ≤ f.Value ∧ f.Value < 2 ^ f.Width.toNat
abbrev cf (w v : Nat) : Value := .agg #[.int .u64 v, .int .i64 w]
theorem half (v k : Nat) : v / 2 ^ k / 2 = v / 2 ^ (k + 1) := by rw [Nat.div_div_eq_div_mul, ← Nat.pow_succ]
theorem half_wrap {v k : Nat} (h : v < 18446744073709551616) : IntKind.u64.wrap (((v / 2 ^ k : Nat) : Int).tdiv 2) = ((v / 2 ^ (k + 1) : Nat) : Int) := by
  have hd : v / 2 ^ k ≤ v := Nat.div_le_self _ _
  have e : (((v / 2 ^ k : Nat) : Int)).tdiv 2 = ((v / 2 ^ k / 2 : Nat) : Int) := rfl
  rw [e, half, u64_wrap]
  have : v / 2 ^ (k + 1) ≤ v := Nat.div_le_self _ _
  omega
theorem right_s (w v : Nat) (h1 : 1 ≤ w) (h64 : w ≤ 64) (hv : v < 2 ^ w) : SX.Spec Tryz.prog 86 #[cf w v] [] [] fun r Γ => r = .bool true ∧ Γ = [] := by
  have hp : 2 ^ w ≤ 2 ^ 64 := Nat.pow_le_pow_right (by decide) h64
  refine spec_of1 Tryz.func86 Tryz.ntmps86 rfl rfl (fun M w0 => ?_)
  repeat' (first | refine stp ?_|(refine v_spF ?_ ?_;omega)|refine v_spD (fun hc=>?_) (fun hc=>?_)|(refine v_yc ?_ ?_;omega)|refine v_box (fun bb=>?_)|fail)
  refine v_lp [3, 4] [1] (fun k : Nat => [.int .u64 ((v / 2 ^ k : Nat) : Int), .int .i64 k]) (fun k => []) (fun k => k ≤ w) (fun k => w - k) 0 (fun _ => rfl) (by simp) inferInstance (Nat.zero_le _) ?_
  rintro k hk
  (try dsimp only [zipE_c, zipE_n, List.cons_append, List.nil_append])
  have hd : v / 2 ^ k ≤ v := Nat.div_le_self _ _
  have hh := half v k
  have hw2 : IntKind.u64.wrap (((v / 2 ^ k : Nat) : Int).tdiv 2) = ((v / 2 ^ (k + 1) : Nat) : Int) := half_wrap (by omega)
  repeat' (first | refine stp ?_|(refine v_spF ?_ ?_;omega)|refine v_spD (fun hc=>?_) (fun hc=>?_)|(refine v_yc ?_ ?_;omega)|refine v_box (fun bb=>?_)|fail)
  · refine v_again (k + 1) (by omega) ?_ inferInstance (by omega)
    rw [hw2]; rfl
  · obtain rfl : k = w := by omega
    rw [Nat.div_eq_of_lt hv]
    refine v_o1 Tryz.results86 ⟨rfl, rfl⟩ ⟨_, inferInstance⟩
structure AdG where
  j : Nat
  v : Value
  s : Hp
theorem add_s (w v : Nat) (h1 : 1 ≤ w) (h64 : w ≤ 64) (hv : v < 2 ^ w) (x : Value) (s : Hp) (bs : Bs) (ho : OwnS x 5 Int 1 (fun x => [.int .u8 x]) (nbs bs) s) (hl : bs.length < 1099511627776) : SX.Spec Tryz.prog 87 #[x, cf w v] [] [s] fun r Γ => ∃ s', OwnS r 5 Int 1 (fun x => [.int .u8 x]) (nbs (bs ++ bitsOf w v)) s' ∧ Γ = [s'] := by
  have hp : 2 ^ w ≤ 2 ^ 64 := Nat.pow_le_pow_right (by decide) h64
  refine spec_of2 Tryz.func87 Tryz.ntmps87 rfl rfl (fun M w0 => ?_)
  repeat' (first | refine stp ?_|(refine v_spT ?_ ?_;omega)|(refine v_spF ?_ ?_;omega)|(refine v_yc ?_ ?_;omega)|refine v_box (fun bb=>?_)|refine v_lit (fun bl=>?_)|(refine v_push ?_ (fun sv ss hs hln=>?_);omega)|fail)
  refine v_lp [0, 5] [3] (fun g : AdG => [g.v, .int .i64 ((w : Int) - 1 - g.j)]) (fun g => [g.s]) (fun g => g.j ≤ w ∧ OwnS g.v 5 Int 1 (fun x => [.int .u8 x]) (nbs (bs ++ (bitsOf w v).take g.j)) g.s) (fun g => w - g.j) ⟨0, x, s⟩ (fun _ => rfl) (by simp) inferInstance ⟨Nat.zero_le _, by simpa using ho⟩ ?_
  rintro ⟨j, y, t⟩ ⟨hj, hy⟩
  dsimp only at hj hy ⊢
  (try dsimp only [zipE_c, zipE_n, List.cons_append, List.nil_append])
  rcases Nat.lt_or_ge j w with hlt | hge
  · have hi : (w : Int) - 1 - j = ((w - 1 - j : Nat) : Int) := by omega
    rw [hi]
    repeat' (first | refine stp ?_|(refine v_spT ?_ ?_;omega)|(refine v_spF ?_ ?_;omega)|(refine v_yc ?_ ?_;omega)|refine v_box (fun bb=>?_)|refine v_lit (fun bl=>?_)|(refine v_push ?_ (fun sv ss hs hln=>?_);omega)|fail)
    refine v_lp [6, 7] [0, 3, 5] (fun k : Nat => [.int .u64 ((v / 2 ^ k : Nat) : Int), .int .i64 k]) (fun k => []) (fun k => k ≤ w - 1 - j) (fun k => w - 1 - j - k) 0 (fun _ => rfl) (by simp) inferInstance (Nat.zero_le _) ?_
    rintro k hk
    (try dsimp only [zipE_c, zipE_n, List.cons_append, List.nil_append])
    have hw2 : IntKind.u64.wrap (((v / 2 ^ k : Nat) : Int).tdiv 2) = ((v / 2 ^ (k + 1) : Nat) : Int) := half_wrap (by omega)
    rcases Nat.lt_or_ge k (w - 1 - j) with hlt2 | hge2
    · repeat' (first | refine stp ?_|(refine v_spT ?_ ?_;omega)|(refine v_spF ?_ ?_;omega)|(refine v_yc ?_ ?_;omega)|refine v_box (fun bb=>?_)|refine v_lit (fun bl=>?_)|(refine v_push ?_ (fun sv ss hs hln=>?_);omega)|fail)
      refine v_again (k + 1) (by omega) ?_ inferInstance (by omega)
      rw [hw2]; rfl
    · obtain rfl : k = w - 1 - j := by omega
      have hyl := nbs_len (bs ++ (bitsOf w v).take j)
      rw [List.length_append, List.length_take, bitsOf_len] at hyl
      repeat' (first | refine stp ?_|(refine v_spT ?_ ?_;omega)|(refine v_spF ?_ ?_;omega)|(refine v_yc ?_ ?_;omega)|refine v_box (fun bb=>?_)|refine v_lit (fun bl=>?_)|(refine v_push ?_ (fun sv ss hs hln=>?_);omega)|fail)
      have hm : (((v / 2 ^ (w - 1 - j) : Nat) : Int)).tmod 2 = ((v / 2 ^ (w - 1 - j) % 2 : Nat) : Int) := rfl
      have hb : nbs (bs ++ (bitsOf w v).take j) ++ [IntKind.u8.wrap ((((v / 2 ^ (w - 1 - j) : Nat) : Int)).tmod 2)] = nbs (bs ++ (bitsOf w v).take (j + 1)) := by
        rw [hm, u8_wrap (by omega), bits_snoc hlt, ← List.append_assoc, nbs_app (bs ++ (bitsOf w v).take j)]
        simp [nbs, dec_bit]
      rw [hb] at hs
      refine v_again ⟨j + 1, sv, ss⟩ (by dsimp only; omega) ?_ inferInstance ⟨hlt, hs⟩
      dsimp only
      rw [show ((w - 1 - j : Nat) : Int) - 1 = (w : Int) - 1 - ((j + 1 : Nat) : Int) by omega]
  · obtain rfl : j = w := by omega
    rw [List.take_of_length_le (by rw [bitsOf_len]; exact Nat.le_refl _)] at hy
    repeat' (first | refine stp ?_|(refine v_spT ?_ ?_;omega)|(refine v_spF ?_ ?_;omega)|(refine v_yc ?_ ?_;omega)|refine v_box (fun bb=>?_)|refine v_lit (fun bl=>?_)|(refine v_push ?_ (fun sv ss hs hln=>?_);omega)|fail)
    refine v_o1 Tryz.results87 ⟨t, hy, rfl⟩ ⟨_, inferInstance⟩
/-! ### bits as bytes -/
def pad (bs : Bs) : Bs := bs ++ List.replicate ((8 - bs.length % 8) % 8) false
theorem pad_len (bs : Bs) : (pad bs).length = 8 * ((bs.length + 7) / 8) := by
  unfold pad; rw [List.length_append, List.length_replicate]; omega
theorem pad_get (bs : Bs) (i : Nat) (h : i < (pad bs).length) : (pad bs)[i] = if h : i < bs.length then bs[i] else false := by
  have h' := h
  unfold pad at h'
  show (bs ++ List.replicate ((8 - bs.length % 8) % 8) false)[i]'h' = _
  rw [List.getElem_append]
  split <;> simp
theorem pad_packs {bs : Bs} {l : List UInt8} (h : unp l = pad bs) : Packs bs l := ⟨_, by omega, h⟩
theorem pad_step {bs : Bs} {l : List UInt8} {j : Nat} (h : unp l = (pad bs).take (8 * j)) (hj : 8 * j + 8 ≤ (pad bs).length) : unp (l ++ [byOf (((pad bs).drop (8 * j)).take 8)]) = (pad bs).take (8 * (j + 1)) := by
  rw [unp_app, show ∀ d : UInt8, unp [d] = byB d from fun d => by simp [unp], byOf_bits (by rw [List.length_take, List.length_drop]; omega), h, show 8 * (j + 1) = 8 * j + 8 by omega, List.take_add]
structure ByG where
  j : Nat
  v : Value
  s : Hp
  l : List UInt8
theorem rbytes_s (x : Value) (s : Hp) (bs : Bs) (hx : AtS x 5 Int 1 (fun x => [.int .u8 x]) (nbs bs) s) (hl : bs.length < 1099511627776) : SX.Spec Tryz.prog 88 #[x] [s] [] fun r Γ => ∃ l, Packs bs l ∧ r = str l ∧ Γ = [] := by
  have hnl := nbs_len bs
  have hpl := pad_len bs
  refine spec_of1 Tryz.func88 Tryz.ntmps88 rfl rfl (fun M w0 => ?_)
  repeat' (first | refine stp ?_|(refine v_spT ?_ ?_;omega)|(refine v_spF ?_ ?_;omega)|refine v_spD (fun hc=>?_) (fun hc=>?_)|(refine v_yc ?_ ?_;omega)|refine v_lit (fun bl=>?_)|(refine v_push ?_ (fun sv ss hs hln=>?_);omega)|fail)
  refine v_lp [3, 4] [0] (fun g : ByG => [g.v, .int .i64 (8 * (g.j : Int))]) (fun g => [g.s]) (fun g => g.j ≤ (bs.length + 7) / 8 ∧ OwnS g.v 5 Int 1 (fun x => [.int .u8 x]) (nms g.l) g.s ∧ g.l.length = g.j ∧ unp g.l = (pad bs).take (8 * g.j)) (fun g => (bs.length + 7) / 8 - g.j) ⟨0, .slice none 0 0, [], []⟩ (fun _ => rfl) rfl inferInstance ⟨Nat.zero_le _, OwnS.nil, rfl, rfl⟩ ?_
  rintro ⟨j, v, t, l⟩ ⟨hj, hv, hll, hu⟩
  dsimp only at hj hv hll hu ⊢
  (try dsimp only [zipE_c, zipE_n, List.cons_append, List.nil_append])
  rcases Nat.lt_or_ge j ((bs.length + 7) / 8) with hlt | hge
  · have hnm := nms_len l
    repeat' (first | refine stp ?_|(refine v_spT ?_ ?_;omega)|(refine v_spF ?_ ?_;omega)|refine v_spD (fun hc=>?_) (fun hc=>?_)|(refine v_yc ?_ ?_;omega)|refine v_lit (fun bl=>?_)|(refine v_push ?_ (fun sv ss hs hln=>?_);omega)|fail)
    refine v_lp [5, 6] [0, 3, 4] (fun k : Nat => [.int .u8 (valOf (((pad bs).drop (8 * j)).take k) : Nat), .int .i64 k]) (fun k => [t]) (fun k => k ≤ 8) (fun k => 8 - k) 0 (fun _ => rfl) rfl inferInstance (Nat.zero_le _) ?_
    rintro k hk
    (try dsimp only [zipE_c, zipE_n, List.cons_append, List.nil_append])
    rcases Nat.lt_or_ge k 8 with hlt2 | hge2
    · have hvl := valOf_lt k (((pad bs).drop (8 * j)).take k) (by rw [List.length_take, List.length_drop]; omega)
      have hp2 : 2 ^ k ≤ 2 ^ 7 := Nat.pow_le_pow_right (by decide) (by omega)
      have hw : IntKind.u8.wrap (((valOf (((pad bs).drop (8 * j)).take k) : Nat) : Int) * 2) = ((2 * valOf (((pad bs).drop (8 * j)).take k) : Nat) : Int) := by
        rw [show ((valOf (((pad bs).drop (8 * j)).take k) : Nat) : Int) * 2 = ((2 * valOf (((pad bs).drop (8 * j)).take k) : Nat) : Int) by omega, u8_wrap (by omega)]
      have ht : ((pad bs).drop (8 * j)).take (k + 1) = ((pad bs).drop (8 * j)).take k ++ [(pad bs)[8 * j + k]'(by omega)] := by
        rw [List.take_succ_eq_append_getElem (by rw [List.length_drop]; omega), List.getElem_drop]
      have hb := Bool.toNat_le ((pad bs)[8 * j + k]'(by omega))
      have hg := pad_get bs (8 * j + k) (by omega)
      repeat' (first | refine stp ?_|(refine v_spT ?_ ?_;omega)|(refine v_spF ?_ ?_;omega)|refine v_spD (fun hc=>?_) (fun hc=>?_)|(refine v_yc ?_ ?_;omega)|refine v_lit (fun bl=>?_)|(refine v_push ?_ (fun sv ss hs hln=>?_);omega)|fail)
      · rw [dif_pos (by omega)] at hg
        refine v_again (k + 1) (by omega) ?_ inferInstance (by omega)
        have hidx : (8 * (j : Int) + k).toNat = 8 * j + k := by omega
        rw [hg] at hb
        simp only [hidx, nbs_get]
        rw [hw, ht, valOf_snoc, hg, ← Int.natCast_add, u8_wrap (by omega)]
        rfl
      · rw [dif_neg (by omega)] at hg
        refine v_again (k + 1) (by omega) ?_ inferInstance (by omega)
        rw [hw, ht, valOf_snoc, hg]
        rfl
    · obtain rfl : k = 8 := by omega
      repeat' (first | refine stp ?_|(refine v_spT ?_ ?_;omega)|(refine v_spF ?_ ?_;omega)|refine v_spD (fun hc=>?_) (fun hc=>?_)|(refine v_yc ?_ ?_;omega)|refine v_lit (fun bl=>?_)|(refine v_push ?_ (fun sv ss hs hln=>?_);omega)|fail)
      have hvl := valOf_lt 8 (((pad bs).drop (8 * j)).take 8) (by rw [List.length_take, List.length_drop]; omega)
      have hb : nms l ++ [((valOf (((pad bs).drop (8 * j)).take 8) : Nat) : Int)] = nms (l ++ [byOf (((pad bs).drop (8 * j)).take 8)]) := by
        simp only [nms, byOf, List.map_append, List.map_cons, List.map_nil, UInt8.toNat_ofNat', Nat.mod_eq_of_lt hvl]
      rw [hb] at hs
      refine v_again ⟨j + 1, sv, ss, _⟩ (by dsimp only; omega) ?_ inferInstance ⟨hlt, hs, by dsimp only; rw [List.length_append, hll]; rfl, pad_step hu (by omega)⟩
      dsimp only
      rw [show 8 * (j : Int) + 8 = 8 * ((j + 1 : Nat) : Int) by omega]
  · repeat' (first | refine stp ?_|(refine v_spT ?_ ?_;omega)|(refine v_spF ?_ ?_;omega)|refine v_spD (fun hc=>?_) (fun hc=>?_)|(refine v_yc ?_ ?_;omega)|refine v_lit (fun bl=>?_)|(refine v_push ?_ (fun sv ss hs hln=>?_);omega)|fail)
    rw [strOf_nms]
    refine v_o1 Tryz.results88 ⟨l, pad_packs (by rw [hu, List.take_of_length_le (by omega)]), rfl, rfl⟩ ⟨_, inferInstance⟩
structure BiG where
  i : Nat
  v : Value
  s : Hp
instance : ZrA Tryz.prog 187 8 5 Int 1 (fun x => [.int .u8 x]) 0 := ⟨Tryz.underlying187, fun w => by kernel_rfl, by decide⟩
theorem bits_get {w v k : Nat} (h : k < w) : (bitsOf w v)[k]'(by rw [bitsOf_len]; exact h) = decide (v / 2 ^ (w - 1 - k) % 2 = 1) := by
  have h1 := bits_snoc (w := w) (v := v) h
  rw [List.take_succ_eq_append_getElem (by rw [bitsOf_len]; exact h)] at h1
  simpa using List.append_cancel_left h1
theorem bit_set {B : List Int} {n : Nat} (h : n < B.length) : (List.replicate (n + 1) (0 : Int) ++ B.drop (n + 1)).set n B[n] = List.replicate n 0 ++ B.drop n := by
  rw [List.replicate_succ', List.append_assoc, List.set_append_right _ _ (by rw [List.length_replicate]; exact Nat.le_refl _), List.length_replicate, Nat.sub_self, List.drop_eq_getElem_cons h]
  rfl
structure BkG where
  j : Nat
  s : Hp
theorem rbits_s (l : List UInt8) (hl : l.length ≤ 34359738368) : SX.Spec Tryz.prog 72 #[str l] [] [] fun r Γ => ∃ s, OwnS r 5 Int 1 (fun x => [.int .u8 x]) (nbs (unp l)) s ∧ Γ = [s] := by
  refine spec_of1 Tryz.func72 Tryz.ntmps72 rfl rfl (fun M w0 => ?_)
  repeat' (first | refine stp ?_|(refine v_spT ?_ ?_;omega)|(refine v_spF ?_ ?_;omega)|(refine v_yc ?_ ?_;omega)|(refine v_set ?_ (fun ss hs hln=>?_);omega)|(refine v_cat ?_ (fun sv ss hs hln=>?_);omega)|fail)
  refine v_lp [3, 4] [0] (fun g : BiG => [g.v, .int .i64 g.i]) (fun g => [g.s]) (fun g => g.i ≤ l.length ∧ OwnS g.v 5 Int 1 (fun x => [.int .u8 x]) (nbs (unp (l.take g.i))) g.s) (fun g => l.length - g.i) ⟨0, .slice none 0 0, []⟩ (fun _ => rfl) rfl inferInstance ⟨Nat.zero_le _, OwnS.nil⟩ ?_
  rintro ⟨i, v, s⟩ ⟨hi, hv⟩
  dsimp only at hi hv ⊢
  (try dsimp only [zipE_c, zipE_n, List.cons_append, List.nil_append])
  rcases Nat.lt_or_ge i l.length with hlt | hge
  · repeat' (first | refine v_allocA (fun ba sal hal=>?_)|refine stp ?_|(refine v_spT ?_ ?_;omega)|(refine v_spF ?_ ?_;omega)|(refine v_yc ?_ ?_;omega)|(refine v_set ?_ (fun ss hs hln=>?_);omega)|(refine v_cat ?_ (fun sv ss hs hln=>?_);omega)|fail)
    obtain ⟨c, hc⟩ : ∃ c, c = l[i] := ⟨_, rfl⟩
    have hc2 := c.toNat_lt
    rw [← hc]
    refine v_lp [5, 7] [0, 3, 4, 6] (fun g : BkG => [.int .u8 ((c.toNat / 2 ^ g.j : Nat) : Int), .int .i64 (7 - (g.j : Int))]) (fun g => [s, g.s]) (fun g => g.j ≤ 8 ∧ OwnS (arr ba 8) 5 Int 1 (fun x => [.int .u8 x]) (List.replicate (8 - g.j) 0 ++ (nbs (byB c)).drop (8 - g.j)) g.s) (fun g => 8 - g.j) ⟨0, sal⟩ (fun _ => rfl) (by simp) inferInstance ⟨Nat.zero_le _, ?_⟩ ?_
    · show OwnS _ _ _ _ _ (List.replicate 8 (0 : Int) ++ (nbs (byB c)).drop 8) _
      rw [List.drop_of_length_le (by rw [nbs_len, bitsOf_len]; exact Nat.le_refl _), List.append_nil]
      exact hal
    rintro ⟨j, s2⟩ ⟨hj, h8⟩
    dsimp only at hj h8 ⊢
    (try dsimp only [zipE_c, zipE_n, List.cons_append, List.nil_append])
    rcases Nat.lt_or_ge j 8 with hlt2 | hge2
    · obtain ⟨W, hW⟩ : ∃ W, W = List.replicate (8 - j) (0 : Int) ++ (nbs (byB c)).drop (8 - j) := ⟨_, rfl⟩
      rw [← hW] at h8
      have hWl : W.length = 8 := by rw [hW, List.length_append, List.length_replicate, List.length_drop, nbs_len, bitsOf_len]; omega
      rw [show 7 - (j : Int) = ((7 - j : Nat) : Int) by omega]
      repeat' (first | refine stp ?_|(refine v_spT ?_ ?_;omega)|(refine v_spF ?_ ?_;omega)|(refine v_yc ?_ ?_;omega)|(refine v_set ?_ (fun ss hs hln=>?_);omega)|(refine v_cat ?_ (fun sv ss hs hln=>?_);omega)|fail)
      have hm : (((c.toNat / 2 ^ j : Nat) : Int)).tmod 2 = ((c.toNat / 2 ^ j % 2 : Nat) : Int) := rfl
      have hdv : (((c.toNat / 2 ^ j : Nat) : Int)).tdiv 2 = ((c.toNat / 2 ^ (j + 1) : Nat) : Int) := by rw [← half]; rfl
      have hdl : c.toNat / 2 ^ (j + 1) ≤ c.toNat := Nat.div_le_self _ _
      have hbl : (nbs (byB c)).length = 8 := by rw [nbs_len, bitsOf_len]
      have hbg : (nbs (byB c))[7 - j]'(by omega) = ((c.toNat / 2 ^ j % 2 : Nat) : Int) := by
        rw [nbs_get]
        show (((bitsOf 8 c.toNat)[7 - j]'_).toNat : Int) = _
        rw [bits_get (by omega), dec_bit, show 8 - 1 - (7 - j) = j by omega]
      have hset : W.set (7 - j) ((((c.toNat / 2 ^ j : Nat) : Int)).tmod 2) = List.replicate (8 - (j + 1)) (0 : Int) ++ (nbs (byB c)).drop (8 - (j + 1)) := by
        rw [hm, ← hbg, hW, show 8 - j = 7 - j + 1 by omega, bit_set (by omega), show 8 - (j + 1) = 7 - j by omega]
      rw [hset] at hs
      refine v_again ⟨j + 1, ss⟩ (by dsimp only; omega) ?_ inferInstance ⟨hlt2, hs⟩
      dsimp only
      rw [hdv, u8_wrap (by omega), show ((7 - j : Nat) : Int) - 1 = 7 - ((j + 1 : Nat) : Int) by omega]
    · obtain rfl : j = 8 := by omega
      replace h8 : OwnS (arr ba 8) 5 Int 1 (fun x => [.int .u8 x]) (nbs (byB c)) s2 := h8
      have hbl : (nbs (byB c)).length = 8 := by rw [nbs_len, bitsOf_len]
      have hul : (nbs (unp (l.take i))).length = 8 * i := by rw [nbs_len, unp_len, List.length_take]; omega
      repeat' (first | refine stp ?_|(refine v_spT ?_ ?_;omega)|(refine v_spF ?_ ?_;omega)|(refine v_yc ?_ ?_;omega)|(refine v_set ?_ (fun ss hs hln=>?_);omega)|(refine v_cat ?_ (fun sv ss hs hln=>?_);omega)|fail)
      have hb : nbs (unp (l.take i)) ++ nbs (byB c) = nbs (unp (l.take (i + 1))) := by
        rw [List.take_succ_eq_append_getElem hlt, unp_app, ← hc, nbs_app, show unp [c] = byB c by simp [unp]]
      rw [hb] at hs
      exact v_again ⟨i + 1, sv, ss⟩ (by dsimp only; omega) rfl inferInstance ⟨hlt, hs⟩
  · obtain rfl : i = l.length := by omega
    rw [List.take_length] at hv
    repeat' (first | refine stp ?_|(refine v_spT ?_ ?_;omega)|(refine v_spF ?_ ?_;omega)|(refine v_yc ?_ ?_;omega)|(refine v_set ?_ (fun ss hs hln=>?_);omega)|(refine v_cat ?_ (fun sv ss hs hln=>?_);omega)|fail)
    refine v_o1 Tryz.results72 ⟨s, hv, rfl⟩ ⟨_, inferInstance⟩
theorem rread3_s (l : List UInt8) (hl : l.length ≤ 34359738368) : SX.Spec Tryz.prog 28 #[str l] [] [] fun r Γ => ∃ b x s, OwnS x 5 Int 1 (fun x => [.int .u8 x]) (nbs (unp l)) s ∧ r = pt b ∧ Γ = [rrS b 0 x, s] := by
  refine spec_of1 Tryz.func28 Tryz.ntmps28 rfl rfl (fun M w0 => ?_)
  repeat' (first | refine stp ?_|refine v_box (fun bb=>?_)|fail)
  refine v_callR (rbits_s l hl) ?_
  rintro v Γ' ⟨s, hs, rfl⟩
  (try dsimp only [List.cons_append, List.nil_append])
  repeat' (first | refine stp ?_|refine v_box (fun bb=>?_)|fail)
  refine v_o1 Tryz.results28 ⟨_, v, s, hs, rfl, rfl⟩ ⟨_, inferInstance⟩
theorem rpack_s (v : Value) (s : Hp) (l : List ApiField) (hv : AtS v 160 ApiField 2 cvApiField l s) (hf : ∀ f ∈ l, FOk f) (hl : (l.flatMap fB).length < 1099511627776) : SX.Spec Tryz.prog 46 #[v] [s] [] fun r Γ => Γ = [] ∧ ∃ t, Packs (l.flatMap fB) t ∧ r = .tuple #[str t, .int .i64 0] := by
  have hle := AtS.le hv
  refine spec_of1 Tryz.func46 Tryz.ntmps46 rfl rfl (fun M w0 => ?_)
  repeat' (first | refine stp ?_|(refine v_spT ?_ ?_;omega)|(refine v_spF ?_ ?_;omega)|(refine v_yc ?_ ?_;omega)|refine v_alloc' (fun ba=>?_)|fail)
  refine v_lp [4, 9] [7, 8] (fun g : BiG => [g.v, .int .i64 g.i]) (fun g => [g.s]) (fun g => g.i ≤ l.length ∧ OwnS g.v 5 Int 1 (fun x => [.int .u8 x]) (nbs ((l.take g.i).flatMap fB)) g.s) (fun g => l.length - g.i) ⟨0, .slice none 0 0, []⟩ (fun _ => rfl) rfl inferInstance ⟨Nat.zero_le _, OwnS.nil⟩ ?_
  rintro ⟨i, x, t⟩ ⟨hi, hx⟩
  dsimp only at hi hx ⊢
  (try dsimp only [zipE_c, zipE_n, List.cons_append, List.nil_append])
  rcases Nat.lt_or_ge i l.length with hlt | hge
  · obtain ⟨f1, f2, f3, f4⟩ := hf l[i] (List.getElem_mem hlt)
    have hfm := fm_le fB l i
    have htk := fm_take fB hlt
    obtain ⟨w, hw⟩ : ∃ w : Nat, l[i].Width = w := ⟨l[i].Width.toNat, by omega⟩
    obtain ⟨u, hu⟩ : ∃ u : Nat, l[i].Value = u := ⟨l[i].Value.toNat, by omega⟩
    have hp2 : ((2 ^ w : Nat) : Int) = 2 ^ w := by simp
    rw [hw] at f1 f2
    rw [hu, hw, Int.toNat_natCast] at f4
    have hfb : fB l[i] = bitsOf w u := by show bitsOf l[i].Width.toNat l[i].Value.toNat = _; rw [hw, hu, Int.toNat_natCast, Int.toNat_natCast]
    repeat' (first | refine stp ?_|(refine v_spT ?_ ?_;omega)|(refine v_spF ?_ ?_;omega)|(refine v_yc ?_ ?_;omega)|refine v_alloc' (fun ba=>?_)|fail)
    rw [hw, hu]
    repeat' (first | refine stp ?_|(refine v_spT ?_ ?_;omega)|(refine v_spF ?_ ?_;omega)|(refine v_yc ?_ ?_;omega)|refine v_alloc' (fun ba=>?_)|fail)
    refine v_callR (right_s w u (by omega) (by omega) (by omega)) ?_
    rintro r Γ' ⟨rfl, rfl⟩
    (try dsimp only [List.cons_append, List.nil_append])
    repeat' (first | refine stp ?_|(refine v_spT ?_ ?_;omega)|(refine v_spF ?_ ?_;omega)|(refine v_yc ?_ ?_;omega)|refine v_alloc' (fun ba=>?_)|fail)
    refine v_callO (add_s w u (by omega) (by omega) (by omega) x t _ hx (by omega)) ?_
    rintro r Γ' ⟨s', hs', rfl⟩
    rw [← hfb, ← htk] at hs'
    (try dsimp only [List.cons_append, List.nil_append])
    repeat' (first | refine stp ?_|(refine v_spT ?_ ?_;omega)|(refine v_spF ?_ ?_;omega)|(refine v_yc ?_ ?_;omega)|refine v_alloc' (fun ba=>?_)|fail)
    exact v_again ⟨i + 1, r, s'⟩ (by dsimp only; omega) rfl inferInstance ⟨hlt, hs'⟩
  · obtain rfl : i = l.length := by omega
    rw [List.take_length] at hx
    repeat' (first | refine stp ?_|(refine v_spT ?_ ?_;omega)|(refine v_spF ?_ ?_;omega)|(refine v_yc ?_ ?_;omega)|refine v_alloc' (fun ba=>?_)|fail)
    refine v_callR (rbytes_s x t _ ownAt hl) ?_
    rintro r Γ' ⟨u, hu, rfl, rfl⟩
    (try dsimp only [List.cons_append, List.nil_append])
    repeat' (first | refine stp ?_|(refine v_spT ?_ ?_;omega)|(refine v_spF ?_ ?_;omega)|(refine v_yc ?_ ?_;omega)|refine v_alloc' (fun ba=>?_)|fail)
    refine v_o2 Tryz.results46 ⟨rfl, u, hu, rfl⟩ ⟨_, inferInstance⟩
end Go.Proofs.YtdfoijfjlhjeaaaGreat

