/- Rosters: Same, the example's life, arguments, the laid table. -/
import Derived.Test.YtedemhmlaodblaaDoorRo
import Derived.Test.YtedemhmlaodblaaDoorRq
import Derived.Test.YtedemhmlaodblaaDoorSo
import Derived.Test.YtedemhmlaodblaaDoorRows
import Derived.LaidMore
import Derived.ProofKit
namespace Go.Proofs.YtedemhmlaodblaaDoor
open Go Go.SX Go.RowKit
set_option maxRecDepth 100000
set_option maxHeartbeats 0
set_option synthInstance.maxSize 100000
set_option synthInstance.maxHeartbeats 400000
theorem same9_s {v v' : Value} {l l' : List ApiSeat} {s s' : Hp} (h : AtS v 48 ApiSeat 2 cvApiSeat l s) (h' : AtS v' 48 ApiSeat 2 cvApiSeat l' s') : SX.Spec Tryd.prog 14 #[v, v'] [s, s'] [] fun v Γ' => Γ' = [] ∧ v = .bool (decide (l = l')) := by
  have hle := h.le
  refine spec_of2 Tryd.func14 Tryd.ntmps14 rfl rfl (fun M w0 => ?_)
  repeat' (first | refine stp ?_|(refine v_spT ?_ ?_;omega)|(refine v_spF ?_ ?_;omega)|refine v_spD (fun hc=>?_) (fun hc=>?_)|refine v_spB (fun hc=>?_) (fun hc=>?_)|(refine v_yc ?_ ?_;omega)|refine v_allocA (fun ba sal hal=>?_)|refine v_boxA (fun bb sba hba=>?_)|refine v_storeA (fun ss hs=>?_)|refine v_alloc' (fun ba=>?_)|refine v_box (fun bb=>?_)|refine v_lit (fun bl=>?_)|refine v_makeMap (fun bm=>?_)|(refine v_push ?_ (fun sv ss hs hln=>?_);omega)|(refine v_push0 ?_ (fun sv ss hs=>?_);omega)|(refine v_set ?_ (fun ss hs hln=>?_);omega)|(refine v_cat ?_ (fun sv ss hs hln=>?_);omega)|(refine v_cat0 ?_ (fun sv ss hs=>?_);omega)|(refine v_catN ?_ (fun sv ss hs=>?_);omega)|refine v_put (fun sm hm=>?_)|refine v_del (fun sm hm=>?_)|(refine v_sb ?_ (fun su (And.intro hs hln)=>?_);omega)|refine v_1lk (fun lv hlk=>?_) (fun hlk=>?_)|refine v_ment (fun st sm hm hst=>?_)|refine v_esto (fun sm hm=>?_)|refine v_rng (fun ri ti hit=>?_)|refine v_clone (fun bc sc hcl=>?_)|refine v_yw ?_|(refine v_make ?_ (fun sv ss hs hln=>?_);omega)|refine ⟨?_,?_,?_⟩|refine ⟨?_,?_⟩|(refine v_tyc ?_ ?_;omega)|(refine v_tycT (by decide +kernel) ?_ ?_;omega)|refine v_tValT (by decide +kernel) ?_|(refine v_tsb ?_ (fun su (And.intro hs hln)=>?_);omega)|refine v_tlk (fun lv hlk=>?_) (fun hlk=>?_)|refine v_tlkT (by decide +kernel) (fun lv hlk=>?_) (fun hlk=>?_)|refine v_tyw ?_|refine v_drawn0 (id:=6) pl14_6 (by kernel_rfl) ?_|fail)
  · refine v_o1 Tryd.results14 ⟨rfl, bF ?_⟩ ⟨_, inferInstance⟩
    rintro rfl; exact hc rfl
  have hll : l.length = l'.length := by omega
  refine v_lp [13] [0, 1, 12] (fun i : Nat => [.int .i64 i]) (fun _ => []) (fun i => i ≤ l.length ∧ l.take i = l'.take i) (fun i => l.length - i) 0 (fun _ => rfl) rfl inferInstance ⟨Nat.zero_le _, by simp⟩ ?_
  rintro i ⟨hi, hn⟩
  (try dsimp only [zipE_c, zipE_n, List.cons_append, List.nil_append])
  repeat' (first | refine stp ?_|(refine v_spT ?_ ?_;omega)|(refine v_spF ?_ ?_;omega)|refine v_spD (fun hc=>?_) (fun hc=>?_)|refine v_spB (fun hc=>?_) (fun hc=>?_)|(refine v_yc ?_ ?_;omega)|refine v_allocA (fun ba sal hal=>?_)|refine v_boxA (fun bb sba hba=>?_)|refine v_storeA (fun ss hs=>?_)|refine v_alloc' (fun ba=>?_)|refine v_box (fun bb=>?_)|refine v_lit (fun bl=>?_)|refine v_makeMap (fun bm=>?_)|(refine v_push ?_ (fun sv ss hs hln=>?_);omega)|(refine v_push0 ?_ (fun sv ss hs=>?_);omega)|(refine v_set ?_ (fun ss hs hln=>?_);omega)|(refine v_cat ?_ (fun sv ss hs hln=>?_);omega)|(refine v_cat0 ?_ (fun sv ss hs=>?_);omega)|(refine v_catN ?_ (fun sv ss hs=>?_);omega)|refine v_put (fun sm hm=>?_)|refine v_del (fun sm hm=>?_)|(refine v_sb ?_ (fun su (And.intro hs hln)=>?_);omega)|refine v_1lk (fun lv hlk=>?_) (fun hlk=>?_)|refine v_ment (fun st sm hm hst=>?_)|refine v_esto (fun sm hm=>?_)|refine v_rng (fun ri ti hit=>?_)|refine v_clone (fun bc sc hcl=>?_)|refine v_yw ?_|(refine v_make ?_ (fun sv ss hs hln=>?_);omega)|refine ⟨?_,?_,?_⟩|refine ⟨?_,?_⟩|(refine v_tyc ?_ ?_;omega)|(refine v_tycT (by decide +kernel) ?_ ?_;omega)|refine v_tValT (by decide +kernel) ?_|(refine v_tsb ?_ (fun su (And.intro hs hln)=>?_);omega)|refine v_tlk (fun lv hlk=>?_) (fun hlk=>?_)|refine v_tlkT (by decide +kernel) (fun lv hlk=>?_) (fun hlk=>?_)|refine v_tyw ?_|refine v_drawn0 (id:=6) pl14_6 (by kernel_rfl) ?_|fail)
  · refine v_o1 Tryd.results14 ⟨rfl, bF ?_⟩ ⟨_, inferInstance⟩
    rintro rfl; exact hc ⟨rfl, rfl⟩
  · have hc := Decidable.not_not.1 hc
    refine v_again (i + 1) (by omega) rfl inferInstance ⟨by omega, ?_⟩
    rw [List.take_add_one, List.take_add_one, hn, List.getElem?_eq_getElem (by omega), List.getElem?_eq_getElem (by omega), (iff_ApiSeat _ _).2 hc]
  · refine v_o1 Tryd.results14 ⟨rfl, bT ?_⟩ ⟨_, inferInstance⟩
    rwa [List.take_of_length_le (by omega), List.take_of_length_le (by omega)] at hn
theorem same8_s {v v' : Value} {l l' : List Int} {s s' : Hp} (h : AtS v 3 Int 1 ic l s) (h' : AtS v' 3 Int 1 ic l' s') : SX.Spec Tryd.prog 19 #[v, v'] [s, s'] [] fun v Γ' => Γ' = [] ∧ v = .bool (decide (l = l')) := by
  have hle := h.le
  refine spec_of2 Tryd.func19 Tryd.ntmps19 rfl rfl (fun M w0 => ?_)
  repeat' (first | refine stp ?_|(refine v_spT ?_ ?_;omega)|(refine v_spF ?_ ?_;omega)|refine v_spD (fun hc=>?_) (fun hc=>?_)|refine v_spB (fun hc=>?_) (fun hc=>?_)|(refine v_yc ?_ ?_;omega)|refine v_allocA (fun ba sal hal=>?_)|refine v_boxA (fun bb sba hba=>?_)|refine v_storeA (fun ss hs=>?_)|refine v_alloc' (fun ba=>?_)|refine v_box (fun bb=>?_)|refine v_lit (fun bl=>?_)|refine v_makeMap (fun bm=>?_)|(refine v_push ?_ (fun sv ss hs hln=>?_);omega)|(refine v_push0 ?_ (fun sv ss hs=>?_);omega)|(refine v_set ?_ (fun ss hs hln=>?_);omega)|(refine v_cat ?_ (fun sv ss hs hln=>?_);omega)|(refine v_cat0 ?_ (fun sv ss hs=>?_);omega)|(refine v_catN ?_ (fun sv ss hs=>?_);omega)|refine v_put (fun sm hm=>?_)|refine v_del (fun sm hm=>?_)|(refine v_sb ?_ (fun su (And.intro hs hln)=>?_);omega)|refine v_1lk (fun lv hlk=>?_) (fun hlk=>?_)|refine v_ment (fun st sm hm hst=>?_)|refine v_esto (fun sm hm=>?_)|refine v_rng (fun ri ti hit=>?_)|refine v_clone (fun bc sc hcl=>?_)|refine v_yw ?_|(refine v_make ?_ (fun sv ss hs hln=>?_);omega)|refine ⟨?_,?_,?_⟩|refine ⟨?_,?_⟩|(refine v_tyc ?_ ?_;omega)|(refine v_tycT (by decide +kernel) ?_ ?_;omega)|refine v_tValT (by decide +kernel) ?_|(refine v_tsb ?_ (fun su (And.intro hs hln)=>?_);omega)|refine v_tlk (fun lv hlk=>?_) (fun hlk=>?_)|refine v_tlkT (by decide +kernel) (fun lv hlk=>?_) (fun hlk=>?_)|refine v_tyw ?_|refine v_drawn0 (id:=6) pl19_6 (by kernel_rfl) ?_|fail)
  · refine v_o1 Tryd.results19 ⟨rfl, bF ?_⟩ ⟨_, inferInstance⟩
    rintro rfl; exact hc rfl
  have hll : l.length = l'.length := by omega
  refine v_lp [13] [0, 1, 12] (fun i : Nat => [.int .i64 i]) (fun _ => []) (fun i => i ≤ l.length ∧ l.take i = l'.take i) (fun i => l.length - i) 0 (fun _ => rfl) rfl inferInstance ⟨Nat.zero_le _, by simp⟩ ?_
  rintro i ⟨hi, hn⟩
  (try dsimp only [zipE_c, zipE_n, List.cons_append, List.nil_append])
  repeat' (first | refine stp ?_|(refine v_spT ?_ ?_;omega)|(refine v_spF ?_ ?_;omega)|refine v_spD (fun hc=>?_) (fun hc=>?_)|refine v_spB (fun hc=>?_) (fun hc=>?_)|(refine v_yc ?_ ?_;omega)|refine v_allocA (fun ba sal hal=>?_)|refine v_boxA (fun bb sba hba=>?_)|refine v_storeA (fun ss hs=>?_)|refine v_alloc' (fun ba=>?_)|refine v_box (fun bb=>?_)|refine v_lit (fun bl=>?_)|refine v_makeMap (fun bm=>?_)|(refine v_push ?_ (fun sv ss hs hln=>?_);omega)|(refine v_push0 ?_ (fun sv ss hs=>?_);omega)|(refine v_set ?_ (fun ss hs hln=>?_);omega)|(refine v_cat ?_ (fun sv ss hs hln=>?_);omega)|(refine v_cat0 ?_ (fun sv ss hs=>?_);omega)|(refine v_catN ?_ (fun sv ss hs=>?_);omega)|refine v_put (fun sm hm=>?_)|refine v_del (fun sm hm=>?_)|(refine v_sb ?_ (fun su (And.intro hs hln)=>?_);omega)|refine v_1lk (fun lv hlk=>?_) (fun hlk=>?_)|refine v_ment (fun st sm hm hst=>?_)|refine v_esto (fun sm hm=>?_)|refine v_rng (fun ri ti hit=>?_)|refine v_clone (fun bc sc hcl=>?_)|refine v_yw ?_|(refine v_make ?_ (fun sv ss hs hln=>?_);omega)|refine ⟨?_,?_,?_⟩|refine ⟨?_,?_⟩|(refine v_tyc ?_ ?_;omega)|(refine v_tycT (by decide +kernel) ?_ ?_;omega)|refine v_tValT (by decide +kernel) ?_|(refine v_tsb ?_ (fun su (And.intro hs hln)=>?_);omega)|refine v_tlk (fun lv hlk=>?_) (fun hlk=>?_)|refine v_tlkT (by decide +kernel) (fun lv hlk=>?_) (fun hlk=>?_)|refine v_tyw ?_|refine v_drawn0 (id:=6) pl19_6 (by kernel_rfl) ?_|fail)
  · refine v_o1 Tryd.results19 ⟨rfl, bF ?_⟩ ⟨_, inferInstance⟩
    rintro rfl; exact hc rfl
  · have hc := Decidable.not_not.1 hc
    refine v_again (i + 1) (by omega) rfl inferInstance ⟨by omega, ?_⟩
    rw [List.take_add_one, List.take_add_one, hn, List.getElem?_eq_getElem (by omega), List.getElem?_eq_getElem (by omega), hc]
  · refine v_o1 Tryd.results19 ⟨rfl, bT ?_⟩ ⟨_, inferInstance⟩
    rwa [List.take_of_length_le (by omega), List.take_of_length_le (by omega)] at hn
/-! ### the example -/
def exR : List ApiEntry := ((List.replicate 64 e0).set 0 ⟨1, 22, 1⟩).set 2 ⟨3, 24, 1⟩
theorem exE : mvE exR [1] [5, 2] 4 40 = 0 := by decide +kernel
theorem ex0 : (mvR exR [1] [5, 2] 4 40)[0]? = some ⟨5, 40, 4⟩ := by decide +kernel
theorem ex1 : (mvR exR [1] [5, 2] 4 40)[1]? = some ⟨2, 41, 4⟩ := by decide +kernel
theorem ex2 : (mvR exR [1] [5, 2] 4 40)[2]? = some ⟨3, 24, 1⟩ := by decide +kernel
theorem exL : (mvL exR [1] [5, 2] 4 40).length = 1 := by decide +kernel
theorem exJ : (mvJ exR [1] [5, 2] 4 40).length = 2 := by decide +kernel
theorem exR_len : exR.length = 64 := by decide +kernel
theorem exR2 : exR[2]? = some ⟨3, 24, 1⟩ := by decide +kernel
theorem lives_s {st : Hp} (hT : Tab st) : SX.Spec Tryd.prog 9 #[] [st] [] fun v Γ => v = .bool true ∧ Γ = [] := by
  refine spec_of0 Tryd.func9 Tryd.ntmps9 rfl rfl (fun M w0 => ?_)
  repeat' (first | refine stp ?_|(refine v_spT ?_ ?_;omega)|(refine v_spF ?_ ?_;omega)|refine v_spD (fun hc=>?_) (fun hc=>?_)|refine v_spB (fun hc=>?_) (fun hc=>?_)|(refine v_yc ?_ ?_;omega)|refine v_allocA (fun ba sal hal=>?_)|refine v_boxA (fun bb sba hba=>?_)|refine v_storeA (fun ss hs=>?_)|refine v_alloc' (fun ba=>?_)|refine v_box (fun bb=>?_)|refine v_lit (fun bl=>?_)|refine v_makeMap (fun bm=>?_)|(refine v_push ?_ (fun sv ss hs hln=>?_);omega)|(refine v_push0 ?_ (fun sv ss hs=>?_);omega)|(refine v_set ?_ (fun ss hs hln=>?_);omega)|(refine v_cat ?_ (fun sv ss hs hln=>?_);omega)|(refine v_cat0 ?_ (fun sv ss hs=>?_);omega)|(refine v_catN ?_ (fun sv ss hs=>?_);omega)|refine v_put (fun sm hm=>?_)|refine v_del (fun sm hm=>?_)|(refine v_sb ?_ (fun su (And.intro hs hln)=>?_);omega)|refine v_1lk (fun lv hlk=>?_) (fun hlk=>?_)|refine v_ment (fun st sm hm hst=>?_)|refine v_esto (fun sm hm=>?_)|refine v_rng (fun ri ti hit=>?_)|refine v_clone (fun bc sc hcl=>?_)|refine v_yw ?_|(refine v_make ?_ (fun sv ss hs hln=>?_);omega)|fail)
  have hzl : (List.replicate 64 e0).length = 64 := List.length_replicate
  generalize hz : List.replicate 64 e0 = z at hal hzl
  repeat' (first | refine stp ?_|(refine v_spT ?_ ?_;omega)|(refine v_spF ?_ ?_;omega)|refine v_spD (fun hc=>?_) (fun hc=>?_)|refine v_spB (fun hc=>?_) (fun hc=>?_)|(refine v_yc ?_ ?_;omega)|refine v_allocA (fun ba sal hal=>?_)|refine v_boxA (fun bb sba hba=>?_)|refine v_storeA (fun ss hs=>?_)|refine v_alloc' (fun ba=>?_)|refine v_box (fun bb=>?_)|refine v_lit (fun bl=>?_)|refine v_makeMap (fun bm=>?_)|(refine v_push ?_ (fun sv ss hs hln=>?_);omega)|(refine v_push0 ?_ (fun sv ss hs=>?_);omega)|(refine v_set ?_ (fun ss hs hln=>?_);omega)|(refine v_cat ?_ (fun sv ss hs hln=>?_);omega)|(refine v_cat0 ?_ (fun sv ss hs=>?_);omega)|(refine v_catN ?_ (fun sv ss hs=>?_);omega)|refine v_put (fun sm hm=>?_)|refine v_del (fun sm hm=>?_)|(refine v_sb ?_ (fun su (And.intro hs hln)=>?_);omega)|refine v_1lk (fun lv hlk=>?_) (fun hlk=>?_)|refine v_ment (fun st sm hm hst=>?_)|refine v_esto (fun sm hm=>?_)|refine v_rng (fun ri ti hit=>?_)|refine v_clone (fun bc sc hcl=>?_)|refine v_yw ?_|(refine v_make ?_ (fun sv ss hs hln=>?_);omega)|fail)
  rename_i bl1
  have e : (z.set (Int.toNat 0) ⟨1, 22, 1⟩).set (Int.toNat 2) ⟨3, 24, 1⟩ = exR := by rw [← hz]; rfl
  rw [e] at hs hln ⊢
  haveI : LenIs exR 64 := ⟨exR_len⟩
  refine v_callR (move_s hT exR (ownAt (h := OwnS.lit (cs := #[.int .i64 1]) (e := 3) (cv := ic) 1 [1] rfl rfl (by decide) rfl)) (ownAt (h := OwnS.lit (cs := #[.int .i64 5, .int .i64 2]) (e := 3) (cv := ic) 2 [5, 2] rfl rfl (by decide) rfl)) (by decide) (by decide) 4 40) ?_
  rintro v Γ' ⟨a, sa, b, sb, rfl, ha, hb, rfl⟩
  have g0 := ex0
  have g1 := ex1
  have g2 := ex2
  have gl := exL
  have gj := exJ
  have gR := exR2
  have gE := exE
  have gRl := exR_len
  have hml := mvR_len (l := exR) (lv := [1]) (jn := [5, 2]) (since := 4) (base := 40) exR_len
  rw [gE]
  generalize mvR exR [1] [5, 2] 4 40 = mr at *
  generalize mvL exR [1] [5, 2] 4 40 = ml at *
  generalize mvJ exR [1] [5, 2] 4 40 = mj at *
  haveI : LenIs mr 64 := ⟨hml⟩
  clear e
  generalize exR = xr at *
  have q0 : mr[0]'(by omega) = ⟨5, 40, 4⟩ := (List.getElem?_eq_some_iff.1 g0).2
  have q1 : mr[1]'(by omega) = ⟨2, 41, 4⟩ := (List.getElem?_eq_some_iff.1 g1).2
  have q2 : mr[2]'(by omega) = ⟨3, 24, 1⟩ := (List.getElem?_eq_some_iff.1 g2).2
  have q3 : xr[2]'(by omega) = ⟨3, 24, 1⟩ := (List.getElem?_eq_some_iff.1 gR).2
  (try dsimp only [List.cons_append, List.nil_append])
  repeat' (first | refine stp ?_|(refine v_spT ?_ ?_;omega)|(refine v_spF ?_ ?_;omega)|refine v_spD (fun hc=>?_) (fun hc=>?_)|refine v_spB (fun hc=>?_) (fun hc=>?_)|(refine v_yc ?_ ?_;omega)|refine v_allocA (fun ba sal hal=>?_)|refine v_boxA (fun bb sba hba=>?_)|refine v_storeA (fun ss hs=>?_)|refine v_alloc' (fun ba=>?_)|refine v_box (fun bb=>?_)|refine v_lit (fun bl=>?_)|refine v_makeMap (fun bm=>?_)|(refine v_push ?_ (fun sv ss hs hln=>?_);omega)|(refine v_push0 ?_ (fun sv ss hs=>?_);omega)|(refine v_set ?_ (fun ss hs hln=>?_);omega)|(refine v_cat ?_ (fun sv ss hs hln=>?_);omega)|(refine v_cat0 ?_ (fun sv ss hs=>?_);omega)|(refine v_catN ?_ (fun sv ss hs=>?_);omega)|refine v_put (fun sm hm=>?_)|refine v_del (fun sm hm=>?_)|(refine v_sb ?_ (fun su (And.intro hs hln)=>?_);omega)|refine v_1lk (fun lv hlk=>?_) (fun hlk=>?_)|refine v_ment (fun st sm hm hst=>?_)|refine v_esto (fun sm hm=>?_)|refine v_rng (fun ri ti hit=>?_)|refine v_clone (fun bc sc hcl=>?_)|refine v_yw ?_|(refine v_make ?_ (fun sv ss hs hln=>?_);omega)|fail)
  · refine v_o1 Tryd.results9 ⟨(bT (by omega)).symm, rfl⟩ ⟨_, inferInstance⟩
  · exfalso; simp [q0, q1, q2, q3] at hc
  · exfalso; simp [q0, q1, q2, q3] at hc
  · exfalso; simp [q0, q1, q2, q3] at hc
/-! ### the laws' arguments -/
/-- a case's value: the roster, the batch's lists, since, base -/
abbrev csv (l : List ApiEntry) (u1 u2 : Value) (since base : Int) : Value := .agg (cvs cvApiEntry l ++ [u1, u2, .int .i64 since, .int .i64 base]).toArray
section
variable (l : List ApiEntry) [hl : LenIs l 64] (a b c d : Value)
theorem cs_len : (cvs cvApiEntry l).length = 192 := by rw [cvs_len (sz := 3) (fun _ => rfl), hl.out]
instance cs_siz : Siz (cvs cvApiEntry l ++ [a, b, c, d]).toArray 196 := ⟨by have := cs_len l; simp [this]⟩
instance cs_ext0 : Ext (cvs cvApiEntry l ++ [a, b, c, d]).toArray 0 192 (cvs cvApiEntry l).toArray := ⟨by
  have := cs_len l
  refine ⟨by simp [this], ?_⟩
  apply Array.ext'
  simp [List.extract_eq_take_drop, this]⟩
instance cs_ext1 : Ext (cvs cvApiEntry l ++ [a, b, c, d]).toArray 192 2 #[a, b] := ⟨by
  have := cs_len l
  refine ⟨by simp [this], ?_⟩
  apply Array.ext'
  simp [List.extract_eq_take_drop, this]⟩
instance cs_at0 : At (cvs cvApiEntry l ++ [a, b, c, d]).toArray 192 a := ⟨by
  have := cs_len l
  simp [List.getElem?_append, this]⟩
instance cs_at1 : At (cvs cvApiEntry l ++ [a, b, c, d]).toArray 193 b := ⟨by
  have := cs_len l
  simp [List.getElem?_append, this]⟩
instance cs_at0' : At (cvs cvApiEntry l ++ [a, b, c, d]).toArray (192 + 0) a := cs_at0 l a b c d
instance cs_at1' : At (cvs cvApiEntry l ++ [a, b, c, d]).toArray (192 + 1) b := cs_at1 l a b c d
instance cs_at2 : At (cvs cvApiEntry l ++ [a, b, c, d]).toArray 194 c := ⟨by
  have := cs_len l
  simp [List.getElem?_append, this]⟩
instance cs_at3 : At (cvs cvApiEntry l ++ [a, b, c, d]).toArray 195 d := ⟨by
  have := cs_len l
  simp [List.getElem?_append, this]⟩
end
instance sub_nil' (Rc R Γ : List Hp) [h : SX.Sub Rc R Γ] : SX.Sub ([] :: Rc) R Γ := ⟨fun x hx => h.out x (by simpa using hx)⟩
/-! ### RosterFits -/
theorem rosterFits_s {st : Hp} (hT : Tab st) (l : List ApiEntry) [hl : LenIs l 64] {u1 u2 : Value} {lv jn : List Int} {s1 s2 : Hp} (h1 : AtS u1 3 Int 1 ic lv s1) (h2 : AtS u2 3 Int 1 ic jn s2) (hb1 : lv.length ≤ 281474976710656) (hb2 : jn.length ≤ 281474976710656) :
    SX.Spec Tryd.prog 3 #[rv l, .agg #[u1, u2]] [s1, s2, st] [] fun v Γ => v = .bool true ∧ Γ = [] := by
  refine spec_of2 Tryd.func3 Tryd.ntmps3 rfl rfl (fun M w0 => ?_)
  repeat' (first | refine stp ?_|(refine v_spT ?_ ?_;omega)|(refine v_spF ?_ ?_;omega)|refine v_spD (fun hc=>?_) (fun hc=>?_)|refine v_spB (fun hc=>?_) (fun hc=>?_)|(refine v_yc ?_ ?_;omega)|refine v_allocA (fun ba sal hal=>?_)|refine v_boxA (fun bb sba hba=>?_)|refine v_storeA (fun ss hs=>?_)|refine v_alloc' (fun ba=>?_)|refine v_box (fun bb=>?_)|refine v_lit (fun bl=>?_)|refine v_makeMap (fun bm=>?_)|(refine v_push ?_ (fun sv ss hs hln=>?_);omega)|(refine v_push0 ?_ (fun sv ss hs=>?_);omega)|(refine v_set ?_ (fun ss hs hln=>?_);omega)|(refine v_cat ?_ (fun sv ss hs hln=>?_);omega)|(refine v_cat0 ?_ (fun sv ss hs=>?_);omega)|(refine v_catN ?_ (fun sv ss hs=>?_);omega)|refine v_put (fun sm hm=>?_)|refine v_del (fun sm hm=>?_)|(refine v_sb ?_ (fun su (And.intro hs hln)=>?_);omega)|refine v_1lk (fun lv hlk=>?_) (fun hlk=>?_)|refine v_ment (fun st sm hm hst=>?_)|refine v_esto (fun sm hm=>?_)|refine v_rng (fun ri ti hit=>?_)|refine v_clone (fun bc sc hcl=>?_)|refine v_yw ?_|(refine v_make ?_ (fun sv ss hs hln=>?_);omega)|refine ⟨?_,?_,?_⟩|refine ⟨?_,?_⟩|(refine v_tyc ?_ ?_;omega)|(refine v_tycT (by decide +kernel) ?_ ?_;omega)|refine v_tValT (by decide +kernel) ?_|(refine v_tsb ?_ (fun su (And.intro hs hln)=>?_);omega)|refine v_tlk (fun lv hlk=>?_) (fun hlk=>?_)|refine v_tlkT (by decide +kernel) (fun lv hlk=>?_) (fun hlk=>?_)|refine v_tyw ?_|refine v_drawn0 (id:=1) pl3_1 (by kernel_rfl) ?_|fail)
  refine v_callR (lives_s hT) ?_
  rintro v Γ' ⟨rfl, rfl⟩
  (try dsimp only [List.cons_append, List.nil_append])
  repeat' (first | refine stp ?_|(refine v_spT ?_ ?_;omega)|(refine v_spF ?_ ?_;omega)|refine v_spD (fun hc=>?_) (fun hc=>?_)|refine v_spB (fun hc=>?_) (fun hc=>?_)|(refine v_yc ?_ ?_;omega)|refine v_allocA (fun ba sal hal=>?_)|refine v_boxA (fun bb sba hba=>?_)|refine v_storeA (fun ss hs=>?_)|refine v_alloc' (fun ba=>?_)|refine v_box (fun bb=>?_)|refine v_lit (fun bl=>?_)|refine v_makeMap (fun bm=>?_)|(refine v_push ?_ (fun sv ss hs hln=>?_);omega)|(refine v_push0 ?_ (fun sv ss hs=>?_);omega)|(refine v_set ?_ (fun ss hs hln=>?_);omega)|(refine v_cat ?_ (fun sv ss hs hln=>?_);omega)|(refine v_cat0 ?_ (fun sv ss hs=>?_);omega)|(refine v_catN ?_ (fun sv ss hs=>?_);omega)|refine v_put (fun sm hm=>?_)|refine v_del (fun sm hm=>?_)|(refine v_sb ?_ (fun su (And.intro hs hln)=>?_);omega)|refine v_1lk (fun lv hlk=>?_) (fun hlk=>?_)|refine v_ment (fun st sm hm hst=>?_)|refine v_esto (fun sm hm=>?_)|refine v_rng (fun ri ti hit=>?_)|refine v_clone (fun bc sc hcl=>?_)|refine v_yw ?_|(refine v_make ?_ (fun sv ss hs hln=>?_);omega)|refine ⟨?_,?_,?_⟩|refine ⟨?_,?_⟩|(refine v_tyc ?_ ?_;omega)|(refine v_tycT (by decide +kernel) ?_ ?_;omega)|refine v_tValT (by decide +kernel) ?_|(refine v_tsb ?_ (fun su (And.intro hs hln)=>?_);omega)|refine v_tlk (fun lv hlk=>?_) (fun hlk=>?_)|refine v_tlkT (by decide +kernel) (fun lv hlk=>?_) (fun hlk=>?_)|refine v_tyw ?_|refine v_drawn0 (id:=1) pl3_1 (by kernel_rfl) ?_|fail)
  refine v_callR (fits_s l h1 h2 hb1 hb2) ?_
  rintro v Γ' ⟨rfl, rfl⟩
  (try dsimp only [List.cons_append, List.nil_append])
  repeat' (first | refine stp ?_|(refine v_spT ?_ ?_;omega)|(refine v_spF ?_ ?_;omega)|refine v_spD (fun hc=>?_) (fun hc=>?_)|refine v_spB (fun hc=>?_) (fun hc=>?_)|(refine v_yc ?_ ?_;omega)|refine v_allocA (fun ba sal hal=>?_)|refine v_boxA (fun bb sba hba=>?_)|refine v_storeA (fun ss hs=>?_)|refine v_alloc' (fun ba=>?_)|refine v_box (fun bb=>?_)|refine v_lit (fun bl=>?_)|refine v_makeMap (fun bm=>?_)|(refine v_push ?_ (fun sv ss hs hln=>?_);omega)|(refine v_push0 ?_ (fun sv ss hs=>?_);omega)|(refine v_set ?_ (fun ss hs hln=>?_);omega)|(refine v_cat ?_ (fun sv ss hs hln=>?_);omega)|(refine v_cat0 ?_ (fun sv ss hs=>?_);omega)|(refine v_catN ?_ (fun sv ss hs=>?_);omega)|refine v_put (fun sm hm=>?_)|refine v_del (fun sm hm=>?_)|(refine v_sb ?_ (fun su (And.intro hs hln)=>?_);omega)|refine v_1lk (fun lv hlk=>?_) (fun hlk=>?_)|refine v_ment (fun st sm hm hst=>?_)|refine v_esto (fun sm hm=>?_)|refine v_rng (fun ri ti hit=>?_)|refine v_clone (fun bc sc hcl=>?_)|refine v_yw ?_|(refine v_make ?_ (fun sv ss hs hln=>?_);omega)|refine ⟨?_,?_,?_⟩|refine ⟨?_,?_⟩|(refine v_tyc ?_ ?_;omega)|(refine v_tycT (by decide +kernel) ?_ ?_;omega)|refine v_tValT (by decide +kernel) ?_|(refine v_tsb ?_ (fun su (And.intro hs hln)=>?_);omega)|refine v_tlk (fun lv hlk=>?_) (fun hlk=>?_)|refine v_tlkT (by decide +kernel) (fun lv hlk=>?_) (fun hlk=>?_)|refine v_tyw ?_|refine v_drawn0 (id:=1) pl3_1 (by kernel_rfl) ?_|fail)
  refine v_callR (rfits_s l h1 h2 hb1 hb2) ?_
  rintro v Γ' ⟨rfl, rfl⟩
  (try dsimp only [List.cons_append, List.nil_append])
  repeat' (first | refine stp ?_|(refine v_spT ?_ ?_;omega)|(refine v_spF ?_ ?_;omega)|refine v_spD (fun hc=>?_) (fun hc=>?_)|refine v_spB (fun hc=>?_) (fun hc=>?_)|(refine v_yc ?_ ?_;omega)|refine v_allocA (fun ba sal hal=>?_)|refine v_boxA (fun bb sba hba=>?_)|refine v_storeA (fun ss hs=>?_)|refine v_alloc' (fun ba=>?_)|refine v_box (fun bb=>?_)|refine v_lit (fun bl=>?_)|refine v_makeMap (fun bm=>?_)|(refine v_push ?_ (fun sv ss hs hln=>?_);omega)|(refine v_push0 ?_ (fun sv ss hs=>?_);omega)|(refine v_set ?_ (fun ss hs hln=>?_);omega)|(refine v_cat ?_ (fun sv ss hs hln=>?_);omega)|(refine v_cat0 ?_ (fun sv ss hs=>?_);omega)|(refine v_catN ?_ (fun sv ss hs=>?_);omega)|refine v_put (fun sm hm=>?_)|refine v_del (fun sm hm=>?_)|(refine v_sb ?_ (fun su (And.intro hs hln)=>?_);omega)|refine v_1lk (fun lv hlk=>?_) (fun hlk=>?_)|refine v_ment (fun st sm hm hst=>?_)|refine v_esto (fun sm hm=>?_)|refine v_rng (fun ri ti hit=>?_)|refine v_clone (fun bc sc hcl=>?_)|refine v_yw ?_|(refine v_make ?_ (fun sv ss hs hln=>?_);omega)|refine ⟨?_,?_,?_⟩|refine ⟨?_,?_⟩|(refine v_tyc ?_ ?_;omega)|(refine v_tycT (by decide +kernel) ?_ ?_;omega)|refine v_tValT (by decide +kernel) ?_|(refine v_tsb ?_ (fun su (And.intro hs hln)=>?_);omega)|refine v_tlk (fun lv hlk=>?_) (fun hlk=>?_)|refine v_tlkT (by decide +kernel) (fun lv hlk=>?_) (fun hlk=>?_)|refine v_tyw ?_|refine v_drawn0 (id:=1) pl3_1 (by kernel_rfl) ?_|fail)
  refine v_o1 Tryd.results3 ⟨(bT rfl).symm, rfl⟩ ⟨_, inferInstance⟩
/-! ### RosterMoves -/
theorem rosterMoves_s {st : Hp} (hT : Tab st) (l : List ApiEntry) [hl : LenIs l 64] {u1 u2 : Value} {lv jn : List Int} {s1 s2 : Hp} (h1 : AtS u1 3 Int 1 ic lv s1) (h2 : AtS u2 3 Int 1 ic jn s2) (hb1 : lv.length ≤ 281474976710656) (hb2 : jn.length ≤ 281474976710656) (since base : Int) (hbi : inI64 since ∧ inI64 base) :
    SX.Spec Tryd.prog 4 #[csv l u1 u2 since base] [s1, s2, st] [] fun v Γ => v = .bool true ∧ Γ = [] := by
  have hbi2 : -9223372036854775808 ≤ base ∧ base < 9223372036854775808 := by have := hbi.2; unfold inI64 at this; omega
  refine spec_of1 Tryd.func4 Tryd.ntmps4 rfl rfl (fun M w0 => ?_)
  repeat' (first | refine stp ?_|(refine v_spT ?_ ?_;omega)|(refine v_spF ?_ ?_;omega)|refine v_spD (fun hc=>?_) (fun hc=>?_)|refine v_spB (fun hc=>?_) (fun hc=>?_)|(refine v_yc ?_ ?_;omega)|refine v_allocA (fun ba sal hal=>?_)|refine v_boxA (fun bb sba hba=>?_)|refine v_storeA (fun ss hs=>?_)|refine v_alloc' (fun ba=>?_)|refine v_box (fun bb=>?_)|refine v_lit (fun bl=>?_)|refine v_makeMap (fun bm=>?_)|(refine v_push ?_ (fun sv ss hs hln=>?_);omega)|(refine v_push0 ?_ (fun sv ss hs=>?_);omega)|(refine v_set ?_ (fun ss hs hln=>?_);omega)|(refine v_cat ?_ (fun sv ss hs hln=>?_);omega)|(refine v_cat0 ?_ (fun sv ss hs=>?_);omega)|(refine v_catN ?_ (fun sv ss hs=>?_);omega)|refine v_put (fun sm hm=>?_)|refine v_del (fun sm hm=>?_)|(refine v_sb ?_ (fun su (And.intro hs hln)=>?_);omega)|refine v_1lk (fun lv hlk=>?_) (fun hlk=>?_)|refine v_ment (fun st sm hm hst=>?_)|refine v_esto (fun sm hm=>?_)|refine v_rng (fun ri ti hit=>?_)|refine v_clone (fun bc sc hcl=>?_)|refine v_yw ?_|(refine v_make ?_ (fun sv ss hs hln=>?_);omega)|fail)
  refine v_callR (lives_s hT) ?_
  rintro v Γ' ⟨rfl, rfl⟩
  (try dsimp only [List.cons_append, List.nil_append])
  repeat' (first | refine stp ?_|(refine v_spT ?_ ?_;omega)|(refine v_spF ?_ ?_;omega)|refine v_spD (fun hc=>?_) (fun hc=>?_)|refine v_spB (fun hc=>?_) (fun hc=>?_)|(refine v_yc ?_ ?_;omega)|refine v_allocA (fun ba sal hal=>?_)|refine v_boxA (fun bb sba hba=>?_)|refine v_storeA (fun ss hs=>?_)|refine v_alloc' (fun ba=>?_)|refine v_box (fun bb=>?_)|refine v_lit (fun bl=>?_)|refine v_makeMap (fun bm=>?_)|(refine v_push ?_ (fun sv ss hs hln=>?_);omega)|(refine v_push0 ?_ (fun sv ss hs=>?_);omega)|(refine v_set ?_ (fun ss hs hln=>?_);omega)|(refine v_cat ?_ (fun sv ss hs hln=>?_);omega)|(refine v_cat0 ?_ (fun sv ss hs=>?_);omega)|(refine v_catN ?_ (fun sv ss hs=>?_);omega)|refine v_put (fun sm hm=>?_)|refine v_del (fun sm hm=>?_)|(refine v_sb ?_ (fun su (And.intro hs hln)=>?_);omega)|refine v_1lk (fun lv hlk=>?_) (fun hlk=>?_)|refine v_ment (fun st sm hm hst=>?_)|refine v_esto (fun sm hm=>?_)|refine v_rng (fun ri ti hit=>?_)|refine v_clone (fun bc sc hcl=>?_)|refine v_yw ?_|(refine v_make ?_ (fun sv ss hs hln=>?_);omega)|fail)
  refine v_callR (move_s hT l h1 h2 hb1 hb2 since base) ?_
  rintro v Γ' ⟨a, sa, b, sb, rfl, ha, hb, rfl⟩
  (try dsimp only [List.cons_append, List.nil_append])
  repeat' (first | refine stp ?_|(refine v_spT ?_ ?_;omega)|(refine v_spF ?_ ?_;omega)|refine v_spD (fun hc=>?_) (fun hc=>?_)|refine v_spB (fun hc=>?_) (fun hc=>?_)|(refine v_yc ?_ ?_;omega)|refine v_allocA (fun ba sal hal=>?_)|refine v_boxA (fun bb sba hba=>?_)|refine v_storeA (fun ss hs=>?_)|refine v_alloc' (fun ba=>?_)|refine v_box (fun bb=>?_)|refine v_lit (fun bl=>?_)|refine v_makeMap (fun bm=>?_)|(refine v_push ?_ (fun sv ss hs hln=>?_);omega)|(refine v_push0 ?_ (fun sv ss hs=>?_);omega)|(refine v_set ?_ (fun ss hs hln=>?_);omega)|(refine v_cat ?_ (fun sv ss hs hln=>?_);omega)|(refine v_cat0 ?_ (fun sv ss hs=>?_);omega)|(refine v_catN ?_ (fun sv ss hs=>?_);omega)|refine v_put (fun sm hm=>?_)|refine v_del (fun sm hm=>?_)|(refine v_sb ?_ (fun su (And.intro hs hln)=>?_);omega)|refine v_1lk (fun lv hlk=>?_) (fun hlk=>?_)|refine v_ment (fun st sm hm hst=>?_)|refine v_esto (fun sm hm=>?_)|refine v_rng (fun ri ti hit=>?_)|refine v_clone (fun bc sc hcl=>?_)|refine v_yw ?_|(refine v_make ?_ (fun sv ss hs hln=>?_);omega)|fail)
  refine v_callR (rmove_s l h1 h2 hb1 hb2 since base hbi2) ?_
  rintro v Γ' ⟨a', sa', b', sb', rfl, ha', hb', rfl⟩
  (try dsimp only [List.cons_append, List.nil_append])
  repeat' (first | refine stp ?_|(refine v_spT ?_ ?_;omega)|(refine v_spF ?_ ?_;omega)|refine v_spD (fun hc=>?_) (fun hc=>?_)|refine v_spB (fun hc=>?_) (fun hc=>?_)|(refine v_yc ?_ ?_;omega)|refine v_allocA (fun ba sal hal=>?_)|refine v_boxA (fun bb sba hba=>?_)|refine v_storeA (fun ss hs=>?_)|refine v_alloc' (fun ba=>?_)|refine v_box (fun bb=>?_)|refine v_lit (fun bl=>?_)|refine v_makeMap (fun bm=>?_)|(refine v_push ?_ (fun sv ss hs hln=>?_);omega)|(refine v_push0 ?_ (fun sv ss hs=>?_);omega)|(refine v_set ?_ (fun ss hs hln=>?_);omega)|(refine v_cat ?_ (fun sv ss hs hln=>?_);omega)|(refine v_cat0 ?_ (fun sv ss hs=>?_);omega)|(refine v_catN ?_ (fun sv ss hs=>?_);omega)|refine v_put (fun sm hm=>?_)|refine v_del (fun sm hm=>?_)|(refine v_sb ?_ (fun su (And.intro hs hln)=>?_);omega)|refine v_1lk (fun lv hlk=>?_) (fun hlk=>?_)|refine v_ment (fun st sm hm hst=>?_)|refine v_esto (fun sm hm=>?_)|refine v_rng (fun ri ti hit=>?_)|refine v_clone (fun bc sc hcl=>?_)|refine v_yw ?_|(refine v_make ?_ (fun sv ss hs hln=>?_);omega)|fail)
  · refine v_callR (same9_s (ownAt (h := ha)) (ownAt (h := ha'))) ?_
    rintro v Γ' ⟨rfl, rfl⟩
    rw [decide_eq_true rfl]
    (try dsimp only [List.cons_append, List.nil_append])
    repeat' (first | refine stp ?_|(refine v_spT ?_ ?_;omega)|(refine v_spF ?_ ?_;omega)|refine v_spD (fun hc=>?_) (fun hc=>?_)|refine v_spB (fun hc=>?_) (fun hc=>?_)|(refine v_yc ?_ ?_;omega)|refine v_allocA (fun ba sal hal=>?_)|refine v_boxA (fun bb sba hba=>?_)|refine v_storeA (fun ss hs=>?_)|refine v_alloc' (fun ba=>?_)|refine v_box (fun bb=>?_)|refine v_lit (fun bl=>?_)|refine v_makeMap (fun bm=>?_)|(refine v_push ?_ (fun sv ss hs hln=>?_);omega)|(refine v_push0 ?_ (fun sv ss hs=>?_);omega)|(refine v_set ?_ (fun ss hs hln=>?_);omega)|(refine v_cat ?_ (fun sv ss hs hln=>?_);omega)|(refine v_cat0 ?_ (fun sv ss hs=>?_);omega)|(refine v_catN ?_ (fun sv ss hs=>?_);omega)|refine v_put (fun sm hm=>?_)|refine v_del (fun sm hm=>?_)|(refine v_sb ?_ (fun su (And.intro hs hln)=>?_);omega)|refine v_1lk (fun lv hlk=>?_) (fun hlk=>?_)|refine v_ment (fun st sm hm hst=>?_)|refine v_esto (fun sm hm=>?_)|refine v_rng (fun ri ti hit=>?_)|refine v_clone (fun bc sc hcl=>?_)|refine v_yw ?_|(refine v_make ?_ (fun sv ss hs hln=>?_);omega)|fail)
    refine v_callR (same9_s (ownAt (h := hb)) (ownAt (h := hb'))) ?_
    rintro v Γ' ⟨rfl, rfl⟩
    rw [decide_eq_true rfl]
    (try dsimp only [List.cons_append, List.nil_append])
    have hchk := check_s (mvR l lv jn since base)
    have hros := ros_mv (l := l) (lv := lv) (jn := jn) (since := since) (base := base) hl.out
    repeat' (first | refine stp ?_|(refine v_spT ?_ ?_;omega)|(refine v_spF ?_ ?_;omega)|refine v_spD (fun hc=>?_) (fun hc=>?_)|refine v_spB (fun hc=>?_) (fun hc=>?_)|(refine v_yc ?_ ?_;omega)|refine v_allocA (fun ba sal hal=>?_)|refine v_boxA (fun bb sba hba=>?_)|refine v_storeA (fun ss hs=>?_)|refine v_alloc' (fun ba=>?_)|refine v_box (fun bb=>?_)|refine v_lit (fun bl=>?_)|refine v_makeMap (fun bm=>?_)|(refine v_push ?_ (fun sv ss hs hln=>?_);omega)|(refine v_push0 ?_ (fun sv ss hs=>?_);omega)|(refine v_set ?_ (fun ss hs hln=>?_);omega)|(refine v_cat ?_ (fun sv ss hs hln=>?_);omega)|(refine v_cat0 ?_ (fun sv ss hs=>?_);omega)|(refine v_catN ?_ (fun sv ss hs=>?_);omega)|refine v_put (fun sm hm=>?_)|refine v_del (fun sm hm=>?_)|(refine v_sb ?_ (fun su (And.intro hs hln)=>?_);omega)|refine v_1lk (fun lv hlk=>?_) (fun hlk=>?_)|refine v_ment (fun st sm hm hst=>?_)|refine v_esto (fun sm hm=>?_)|refine v_rng (fun ri ti hit=>?_)|refine v_clone (fun bc sc hcl=>?_)|refine v_yw ?_|(refine v_make ?_ (fun sv ss hs hln=>?_);omega)|fail)
    · refine v_o1 Tryd.results4 ⟨rfl, rfl⟩ ⟨_, inferInstance⟩
    · refine v_o1 Tryd.results4 ⟨(bT ?_).symm, rfl⟩ ⟨_, inferInstance⟩
      rw [if_pos (hros (Decidable.not_not.1 hc))]
  · exact absurd rfl hc
end Go.Proofs.YtedemhmlaodblaaDoor
