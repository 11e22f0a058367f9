/- Rosters: names, Move, of the program. -/
import Derived.Test.YtedemhmlaodblaaDoorRm
import Derived.Test.YtedemhmlaodblaaDoorRh
namespace Go.Proofs.YtedemhmlaodblaaDoor
open Go Go.SX Go.RowKit
set_option maxRecDepth 100000
set_option maxHeartbeats 0
set_option synthInstance.maxSize 100000
set_option synthInstance.maxHeartbeats 400000
theorem contains_s {D : Bool} {v : Value} {l : List ApiEntry} {s : Hp} (h : AtS v 23 ApiEntry 3 cvApiEntry l s) {g : Nat} [Fn1 Tryd.prog g] (cs : List Value) {Rc : List Hp} (p : ApiEntry → Bool)
    (hp : ∀ x : ApiEntry, SpecD D Tryd.prog g (avApiEntry x :: cs).toArray Rc [] fun u Γ => u = .bool (p x) ∧ Γ = []) : SpecD D Tryd.prog 39 #[v, .func (.func g) #[] cs.toArray] (s :: Rc) [] fun u Γ => u = .bool (decide (0 ≤ fidx p l)) ∧ Γ = [] := by
  have hsub : ∀ Γ, SX.Sub Rc (s :: Rc) Γ := fun Γ => ⟨fun x hx => .inl (by rw [List.flatten_cons, List.mem_append]; exact .inr hx)⟩
  have hseg : ∀ Γ, SX.Sub (s :: Rc) (s :: Rc) Γ := fun Γ => ⟨fun x hx => .inl hx⟩
  refine spec_of2 Tryd.func39 Tryd.ntmps39 rfl rfl (fun M w0 => ?_)
  repeat' (first | refine stp ?_|(refine v_spT ?_ ?_;omega)|(refine v_spF ?_ ?_;omega)|refine v_spD (fun hc=>?_) (fun hc=>?_)|refine v_spB (fun hc=>?_) (fun hc=>?_)|(refine v_yc ?_ ?_;omega)|refine v_allocA (fun ba sal hal=>?_)|refine v_boxA (fun bb sba hba=>?_)|refine v_storeA (fun ss hs=>?_)|refine v_alloc' (fun ba=>?_)|refine v_box (fun bb=>?_)|refine v_lit (fun bl=>?_)|refine v_makeMap (fun bm=>?_)|(refine v_push ?_ (fun sv ss hs hln=>?_);omega)|(refine v_push0 ?_ (fun sv ss hs=>?_);omega)|(refine v_set ?_ (fun ss hs hln=>?_);omega)|(refine v_cat ?_ (fun sv ss hs hln=>?_);omega)|(refine v_cat0 ?_ (fun sv ss hs=>?_);omega)|(refine v_catN ?_ (fun sv ss hs=>?_);omega)|refine v_put (fun sm hm=>?_)|refine v_del (fun sm hm=>?_)|(refine v_sb ?_ (fun su (And.intro hs hln)=>?_);omega)|refine v_1lk (fun lv hlk=>?_) (fun hlk=>?_)|refine v_ment (fun st sm hm hst=>?_)|refine v_esto (fun sm hm=>?_)|refine v_rng (fun ri ti hit=>?_)|refine v_clone (fun bc sc hcl=>?_)|refine v_yw ?_|(refine v_make ?_ (fun sv ss hs hln=>?_);omega)|fail)
  refine v_callR (indexFunc_s h cs p hp) ?_
  rintro u Γ' ⟨rfl, rfl⟩
  (try dsimp only [List.cons_append, List.nil_append])
  repeat' (first | refine stp ?_|(refine v_spT ?_ ?_;omega)|(refine v_spF ?_ ?_;omega)|refine v_spD (fun hc=>?_) (fun hc=>?_)|refine v_spB (fun hc=>?_) (fun hc=>?_)|(refine v_yc ?_ ?_;omega)|refine v_allocA (fun ba sal hal=>?_)|refine v_boxA (fun bb sba hba=>?_)|refine v_storeA (fun ss hs=>?_)|refine v_alloc' (fun ba=>?_)|refine v_box (fun bb=>?_)|refine v_lit (fun bl=>?_)|refine v_makeMap (fun bm=>?_)|(refine v_push ?_ (fun sv ss hs hln=>?_);omega)|(refine v_push0 ?_ (fun sv ss hs=>?_);omega)|(refine v_set ?_ (fun ss hs hln=>?_);omega)|(refine v_cat ?_ (fun sv ss hs hln=>?_);omega)|(refine v_cat0 ?_ (fun sv ss hs=>?_);omega)|(refine v_catN ?_ (fun sv ss hs=>?_);omega)|refine v_put (fun sm hm=>?_)|refine v_del (fun sm hm=>?_)|(refine v_sb ?_ (fun su (And.intro hs hln)=>?_);omega)|refine v_1lk (fun lv hlk=>?_) (fun hlk=>?_)|refine v_ment (fun st sm hm hst=>?_)|refine v_esto (fun sm hm=>?_)|refine v_rng (fun ri ti hit=>?_)|refine v_clone (fun bc sc hcl=>?_)|refine v_yw ?_|(refine v_make ?_ (fun sv ss hs hln=>?_);omega)|fail)
  refine v_o1 Tryd.results39 ⟨rfl, rfl⟩ ⟨_, inferInstance⟩
def isNm (base n : Int) (x : ApiEntry) : Prop := base ≤ x.Base ∧ x.Base < base + n
instance (base n : Int) (x : ApiEntry) : Decidable (isNm base n x) := by unfold isNm; infer_instance
theorem names1_s {D : Bool} (base n : Int) (hb : 1 ≤ base ∧ base ≤ 32768 - n) (hn : 0 < n) (B1 B2 : Nat) (x : ApiEntry) : SpecD D Tryd.prog 40 #[avApiEntry x, .pointer (some ⟨B1, 0, none⟩), .pointer (some ⟨B2, 0, none⟩)] [[(B1, .cells #[.int .i64 base] 3 (0, 0))], [(B2, .cells #[.int .i64 n] 3 (0, 0))]] [] fun u Γ => u = .bool (decide (isNm base n x)) ∧ Γ = [] := by
  have hw : wrap64 (base + n) = base + n := by unfold wrap64; omega
  refine spec_of3 Tryd.func40 Tryd.ntmps40 rfl rfl (fun M w0 => ?_)
  repeat' (first | refine stp ?_|(refine v_spT ?_ ?_;omega)|(refine v_spF ?_ ?_;omega)|refine v_spD (fun hc=>?_) (fun hc=>?_)|refine v_spB (fun hc=>?_) (fun hc=>?_)|(refine v_yc ?_ ?_;omega)|refine v_allocA (fun ba sal hal=>?_)|refine v_boxA (fun bb sba hba=>?_)|refine v_storeA (fun ss hs=>?_)|refine v_alloc' (fun ba=>?_)|refine v_box (fun bb=>?_)|refine v_lit (fun bl=>?_)|refine v_makeMap (fun bm=>?_)|(refine v_push ?_ (fun sv ss hs hln=>?_);omega)|(refine v_push0 ?_ (fun sv ss hs=>?_);omega)|(refine v_set ?_ (fun ss hs hln=>?_);omega)|(refine v_cat ?_ (fun sv ss hs hln=>?_);omega)|(refine v_cat0 ?_ (fun sv ss hs=>?_);omega)|(refine v_catN ?_ (fun sv ss hs=>?_);omega)|refine v_put (fun sm hm=>?_)|refine v_del (fun sm hm=>?_)|(refine v_sb ?_ (fun su (And.intro hs hln)=>?_);omega)|refine v_1lk (fun lv hlk=>?_) (fun hlk=>?_)|refine v_ment (fun st sm hm hst=>?_)|refine v_esto (fun sm hm=>?_)|refine v_rng (fun ri ti hit=>?_)|refine v_clone (fun bc sc hcl=>?_)|refine v_yw ?_|(refine v_make ?_ (fun sv ss hs hln=>?_);omega)|fail)
  all_goals refine v_o1 Tryd.results40 ⟨?_, rfl⟩ ⟨_, inferInstance⟩
  all_goals first | (refine bD ?_; unfold isNm; omega) | (refine bF ?_; unfold isNm; omega) | (refine bT ?_; unfold isNm; omega)
theorem fidx_ge (p : ApiEntry → Bool) (l : List ApiEntry) : 0 ≤ fidx p l ↔ ∃ x ∈ l, p x = true := by
  unfold fidx
  cases e : l.findIdx? p with
  | none =>
    have := List.findIdx?_eq_none_iff.1 e
    constructor
    · intro h; simp at h
    · rintro ⟨x, hx, hp⟩; rw [this x hx] at hp; cases hp
  | some i =>
    obtain ⟨hi, h1, h2⟩ := List.findIdx?_eq_some_iff_getElem.1 e
    exact ⟨fun _ => ⟨l[i], List.getElem_mem hi, h1⟩, fun _ => Int.natCast_nonneg i⟩
theorem names_s (l : List ApiEntry) [hl : LenIs l 64] (base n : Int) (h0 : 0 ≤ n) (hn : n ≤ 281474976710656) : PC Tryd.prog 28 #[rv l, .int .i64 base, .int .i64 n] (.bool (decide (nmOk l base n))) := ⟨by
  have hll := hl.out
  refine spec_of3 Tryd.func28 Tryd.ntmps28 rfl rfl (fun M w0 => ?_)
  repeat' (first | refine stp ?_|(refine v_spT ?_ ?_;omega)|(refine v_spF ?_ ?_;omega)|refine v_spD (fun hc=>?_) (fun hc=>?_)|refine v_spB (fun hc=>?_) (fun hc=>?_)|(refine v_yc ?_ ?_;omega)|refine v_allocA (fun ba sal hal=>?_)|refine v_boxA (fun bb sba hba=>?_)|refine v_storeA (fun ss hs=>?_)|refine v_alloc' (fun ba=>?_)|refine v_box (fun bb=>?_)|refine v_lit (fun bl=>?_)|refine v_makeMap (fun bm=>?_)|(refine v_push ?_ (fun sv ss hs hln=>?_);omega)|(refine v_push0 ?_ (fun sv ss hs=>?_);omega)|(refine v_set ?_ (fun ss hs hln=>?_);omega)|(refine v_cat ?_ (fun sv ss hs hln=>?_);omega)|(refine v_cat0 ?_ (fun sv ss hs=>?_);omega)|(refine v_catN ?_ (fun sv ss hs=>?_);omega)|refine v_put (fun sm hm=>?_)|refine v_del (fun sm hm=>?_)|(refine v_sb ?_ (fun su (And.intro hs hln)=>?_);omega)|refine v_1lk (fun lv hlk=>?_) (fun hlk=>?_)|refine v_ment (fun st sm hm hst=>?_)|refine v_esto (fun sm hm=>?_)|refine v_rng (fun ri ti hit=>?_)|refine v_clone (fun bc sc hcl=>?_)|refine v_yw ?_|(refine v_make ?_ (fun sv ss hs hln=>?_);omega)|fail)
  · refine v_o1 Tryd.results28 ⟨bT (.inl hc), rfl⟩ ⟨_, inferInstance⟩
  · refine v_o1 Tryd.results28 ⟨bF ?_, rfl⟩ ⟨_, inferInstance⟩
    rintro (h | ⟨h, _⟩) <;> omega
  · refine v_o1 Tryd.results28 ⟨bF ?_, rfl⟩ ⟨_, inferInstance⟩
    rintro (h | ⟨h, _⟩) <;> omega
  · refine v_callR (contains_s (ownAt (h := hba)) [.pointer (some ⟨_, 0, none⟩), .pointer (some ⟨bb, 0, none⟩)] (fun x => decide (isNm base n x)) (names1_s base n ⟨by omega, by omega⟩ (by omega) _ bb)) ?_
    rintro v Γ' ⟨rfl, rfl⟩
    (try dsimp only [List.cons_append, List.nil_append])
    repeat' (first | refine stp ?_|(refine v_spT ?_ ?_;omega)|(refine v_spF ?_ ?_;omega)|refine v_spD (fun hc=>?_) (fun hc=>?_)|refine v_spB (fun hc=>?_) (fun hc=>?_)|(refine v_yc ?_ ?_;omega)|refine v_allocA (fun ba sal hal=>?_)|refine v_boxA (fun bb sba hba=>?_)|refine v_storeA (fun ss hs=>?_)|refine v_alloc' (fun ba=>?_)|refine v_box (fun bb=>?_)|refine v_lit (fun bl=>?_)|refine v_makeMap (fun bm=>?_)|(refine v_push ?_ (fun sv ss hs hln=>?_);omega)|(refine v_push0 ?_ (fun sv ss hs=>?_);omega)|(refine v_set ?_ (fun ss hs hln=>?_);omega)|(refine v_cat ?_ (fun sv ss hs hln=>?_);omega)|(refine v_cat0 ?_ (fun sv ss hs=>?_);omega)|(refine v_catN ?_ (fun sv ss hs=>?_);omega)|refine v_put (fun sm hm=>?_)|refine v_del (fun sm hm=>?_)|(refine v_sb ?_ (fun su (And.intro hs hln)=>?_);omega)|refine v_1lk (fun lv hlk=>?_) (fun hlk=>?_)|refine v_ment (fun st sm hm hst=>?_)|refine v_esto (fun sm hm=>?_)|refine v_rng (fun ri ti hit=>?_)|refine v_clone (fun bc sc hcl=>?_)|refine v_yw ?_|(refine v_make ?_ (fun sv ss hs hln=>?_);omega)|fail)
    refine v_o1 Tryd.results28 ⟨bD ?_, rfl⟩ ⟨_, inferInstance⟩
    unfold nmOk
    rw [fidx_ge]
    constructor
    · intro h
      exact .inr ⟨⟨by omega, by omega⟩, fun x hx hn => h ⟨x, hx, decide_eq_true hn⟩⟩
    · rintro (h | ⟨_, h⟩)
      · omega
      · rintro ⟨x, hx, hn⟩
        exact h x hx (of_decide_eq_true hn)⟩
structure MvG where
  i : Nat
  v : Value
  s : Hp
  r : Hp
theorem move_s {st : Hp} (hT : Tab st) (l : List ApiEntry) [hl : LenIs l 64] {u1 u2 : Value} {lv jn : List Int} {s1 s2 : Hp} (h1 : AtS u1 3 Int 1 ic lv s1) (h2 : AtS u2 3 Int 1 ic jn s2) (hb1 : lv.length ≤ 281474976710656) (hb2 : jn.length ≤ 281474976710656) (since base : Int) :
    SX.Spec Tryd.prog 12 #[rv l, .agg #[u1, u2], .int .i64 since, .int .i64 base] [s1, s2, st] [] fun v Γ => ∃ a sa b sb, v = .tuple #[rv (mvR l lv jn since base), a, b, .int .i64 (mvE l lv jn since base)] ∧ OwnS a 48 ApiSeat 2 cvApiSeat (mvL l lv jn since base) sa ∧ OwnS b 48 ApiSeat 2 cvApiSeat (mvJ l lv jn since base) sb ∧ Γ = [sa, sb] := by
  have hll := hl.out
  have hnm := names_s l base jn.length (by omega) (by omega)
  have err : ∀ e, mvE l lv jn since base = e → e ≠ 0 → ∃ a sa b sb, Value.tuple #[rv (List.replicate 64 e0), .slice none 0 0, .slice none 0 0, .int .i64 e] = .tuple #[rv (mvR l lv jn since base), a, b, .int .i64 (mvE l lv jn since base)] ∧ OwnS a 48 ApiSeat 2 cvApiSeat (mvL l lv jn since base) sa ∧ OwnS b 48 ApiSeat 2 cvApiSeat (mvJ l lv jn since base) sb ∧ ([[], []] : List Hp) = [sa, sb] := fun e he h0 => by
    unfold mvR mvL mvJ
    rw [he, if_neg h0, if_neg h0, if_neg h0]
    exact ⟨_, [], _, [], rfl, OwnS.nil, OwnS.nil, rfl⟩
  have hmv : mvE l lv jn since base = if fitsE l lv jn ≠ 0 then fitsE l lv jn else if since < 1 ∨ 200 < since then 19 else if nmOk l base jn.length then 0 else 3 := rfl
  refine spec_of4 Tryd.func12 Tryd.ntmps12 rfl rfl (fun M w0 => ?_)
  repeat' (first | refine stp ?_|(refine v_spT ?_ ?_;omega)|(refine v_spF ?_ ?_;omega)|refine v_spD (fun hc=>?_) (fun hc=>?_)|refine v_spB (fun hc=>?_) (fun hc=>?_)|(refine v_yc ?_ ?_;omega)|refine v_allocA (fun ba sal hal=>?_)|refine v_boxA (fun bb sba hba=>?_)|refine v_storeA (fun ss hs=>?_)|refine v_alloc' (fun ba=>?_)|refine v_box (fun bb=>?_)|refine v_lit (fun bl=>?_)|refine v_makeMap (fun bm=>?_)|(refine v_push ?_ (fun sv ss hs hln=>?_);omega)|(refine v_push0 ?_ (fun sv ss hs=>?_);omega)|(refine v_set ?_ (fun ss hs hln=>?_);omega)|(refine v_cat ?_ (fun sv ss hs hln=>?_);omega)|(refine v_cat0 ?_ (fun sv ss hs=>?_);omega)|(refine v_catN ?_ (fun sv ss hs=>?_);omega)|refine v_put (fun sm hm=>?_)|refine v_del (fun sm hm=>?_)|(refine v_sb ?_ (fun su (And.intro hs hln)=>?_);omega)|refine v_1lk (fun lv hlk=>?_) (fun hlk=>?_)|refine v_ment (fun st sm hm hst=>?_)|refine v_esto (fun sm hm=>?_)|refine v_rng (fun ri ti hit=>?_)|refine v_clone (fun bc sc hcl=>?_)|refine v_yw ?_|(refine v_make ?_ (fun sv ss hs hln=>?_);omega)|refine ⟨?_,?_,?_⟩|refine ⟨?_,?_⟩|(refine v_tyc ?_ ?_;omega)|(refine v_tycT (by decide +kernel) ?_ ?_;omega)|refine v_tValT (by decide +kernel) ?_|(refine v_tsb ?_ (fun su (And.intro hs hln)=>?_);omega)|refine v_tlk (fun lv hlk=>?_) (fun hlk=>?_)|refine v_tlkT (by decide +kernel) (fun lv hlk=>?_) (fun hlk=>?_)|refine v_tyw ?_|refine v_drawn0 (id:=17) pl12_17 (by kernel_rfl) ?_|fail)
  rename_i bR
  refine v_callR (fits_s l h1 h2 hb1 hb2) ?_
  rintro v Γ' ⟨rfl, rfl⟩
  (try dsimp only [List.cons_append, List.nil_append])
  repeat' (first | refine stp ?_|(refine v_spT ?_ ?_;omega)|(refine v_spF ?_ ?_;omega)|refine v_spD (fun hc=>?_) (fun hc=>?_)|refine v_spB (fun hc=>?_) (fun hc=>?_)|(refine v_yc ?_ ?_;omega)|refine v_allocA (fun ba sal hal=>?_)|refine v_boxA (fun bb sba hba=>?_)|refine v_storeA (fun ss hs=>?_)|refine v_alloc' (fun ba=>?_)|refine v_box (fun bb=>?_)|refine v_lit (fun bl=>?_)|refine v_makeMap (fun bm=>?_)|(refine v_push ?_ (fun sv ss hs hln=>?_);omega)|(refine v_push0 ?_ (fun sv ss hs=>?_);omega)|(refine v_set ?_ (fun ss hs hln=>?_);omega)|(refine v_cat ?_ (fun sv ss hs hln=>?_);omega)|(refine v_cat0 ?_ (fun sv ss hs=>?_);omega)|(refine v_catN ?_ (fun sv ss hs=>?_);omega)|refine v_put (fun sm hm=>?_)|refine v_del (fun sm hm=>?_)|(refine v_sb ?_ (fun su (And.intro hs hln)=>?_);omega)|refine v_1lk (fun lv hlk=>?_) (fun hlk=>?_)|refine v_ment (fun st sm hm hst=>?_)|refine v_esto (fun sm hm=>?_)|refine v_rng (fun ri ti hit=>?_)|refine v_clone (fun bc sc hcl=>?_)|refine v_yw ?_|(refine v_make ?_ (fun sv ss hs hln=>?_);omega)|refine ⟨?_,?_,?_⟩|refine ⟨?_,?_⟩|(refine v_tyc ?_ ?_;omega)|(refine v_tycT (by decide +kernel) ?_ ?_;omega)|refine v_tValT (by decide +kernel) ?_|(refine v_tsb ?_ (fun su (And.intro hs hln)=>?_);omega)|refine v_tlk (fun lv hlk=>?_) (fun hlk=>?_)|refine v_tlkT (by decide +kernel) (fun lv hlk=>?_) (fun hlk=>?_)|refine v_tyw ?_|refine v_drawn0 (id:=17) pl12_17 (by kernel_rfl) ?_|fail)
  · refine v_o4 Tryd.results12 (err _ (by rw [hmv, if_pos hc]) hc) ⟨_, inferInstance⟩
  · refine v_o4 Tryd.results12 (err 19 (by rw [hmv, if_neg (by assumption), if_pos (.inl hc)]) (by decide)) ⟨_, inferInstance⟩
  · refine v_o4 Tryd.results12 (err 19 (by rw [hmv, if_neg (by assumption), if_pos (.inr hc)]) (by decide)) ⟨_, inferInstance⟩
  · refine v_o4 Tryd.results12 (err 3 (by rw [hmv, if_neg (by assumption), if_neg (by omega), if_neg hc]) (by decide)) ⟨_, inferInstance⟩
  · have he : mvE l lv jn since base = 0 := by rw [hmv, if_neg (by assumption), if_neg (by omega), if_pos (Decidable.not_not.1 hc)]
    have hF := fit_of (l := l) (lv := lv) (jn := jn) (Decidable.not_not.1 (by assumption))
    have hnmo := Decidable.not_not.1 hc
    clear err hmv hc hnm
    have hct := tk_offs lv l hF.nd1 hF.on1
    have hcl : (tk l).count true ≤ 64 := by have := List.count_le_length (a := true) (l := tk l); rw [tk_len, hll] at this; exact this
    have hroom := hF.room
    have hfr := frs_len (offs l lv)
    rw [offs_len, hll] at hfr
    refine v_lp [13, 51] [2, 3, 4, 5, 8, 14, 49, 50] (fun g : MvG => [g.v, .int .i64 g.i]) (fun g => [g.s, g.r]) (fun g => g.i ≤ lv.length ∧ OwnS g.v 48 ApiSeat 2 cvApiSeat (lefts l (lv.take g.i)) g.s ∧ OwnS (arr bR 64) 23 ApiEntry 3 cvApiEntry (offs l (lv.take g.i)) g.r) (fun g => lv.length - g.i) ⟨0, .slice none 0 0, [], sba⟩ (fun _ => rfl) rfl inferInstance ⟨Nat.zero_le _, OwnS.nil, hba⟩ ?_
    clear hba sba
    rintro ⟨i, v, s, r⟩ ⟨hi, hv, hr⟩
    dsimp only at hi hv hr ⊢
    (try dsimp only [zipE_c, zipE_n, List.cons_append, List.nil_append])
    have hvl := lefts_len (lv.take i) l
    rw [List.length_take] at hvl
    rcases Nat.lt_or_ge i lv.length with hlt | hge
    · have e1 : lv.take (i + 1) = lv.take i ++ [lv[i]] := by rw [List.take_add_one, List.getElem?_eq_getElem hlt]; rfl
      have hol : (offs l (lv.take i)).length = 64 := by rw [offs_len, hll]
      haveI : LenIs (offs l (lv.take i)) 64 := ⟨hol⟩
      have hni : lv[i] ∉ lv.take i := fun hm => by
        obtain ⟨m, hm1, hm2⟩ := List.mem_take_iff_getElem.1 hm
        exact List.pairwise_iff_getElem.1 hF.nd1 m i (by omega) hlt (by omega) hm2
      have hfo := fnd_offs (lv.take i) l lv[i] (hF.nd1.sublist (List.take_sublist _ _)) (fun u hu => hF.on1 u (List.mem_of_mem_take hu)) hni
      obtain ⟨k, hk, ek, _⟩ := fnd_some (l := offs l (lv.take i)) (w := lv[i]) (by rw [hfo]; exact hF.on1 _ (List.getElem_mem _))
      have hfs := find_s (offs l (lv.take i)) lv[i]
      rw [ek] at hfs
      clear hfo
      repeat' (first | refine stp ?_|(refine v_spT ?_ ?_;omega)|(refine v_spF ?_ ?_;omega)|refine v_spD (fun hc=>?_) (fun hc=>?_)|refine v_spB (fun hc=>?_) (fun hc=>?_)|(refine v_yc ?_ ?_;omega)|refine v_allocA (fun ba sal hal=>?_)|refine v_boxA (fun bb sba hba=>?_)|refine v_storeA (fun ss hs=>?_)|refine v_alloc' (fun ba=>?_)|refine v_box (fun bb=>?_)|refine v_lit (fun bl=>?_)|refine v_makeMap (fun bm=>?_)|(refine v_push ?_ (fun sv ss hs hln=>?_);omega)|(refine v_push0 ?_ (fun sv ss hs=>?_);omega)|(refine v_set ?_ (fun ss hs hln=>?_);omega)|(refine v_cat ?_ (fun sv ss hs hln=>?_);omega)|(refine v_cat0 ?_ (fun sv ss hs=>?_);omega)|(refine v_catN ?_ (fun sv ss hs=>?_);omega)|refine v_put (fun sm hm=>?_)|refine v_del (fun sm hm=>?_)|(refine v_sb ?_ (fun su (And.intro hs hln)=>?_);omega)|refine v_1lk (fun lv hlk=>?_) (fun hlk=>?_)|refine v_ment (fun st sm hm hst=>?_)|refine v_esto (fun sm hm=>?_)|refine v_rng (fun ri ti hit=>?_)|refine v_clone (fun bc sc hcl=>?_)|refine v_yw ?_|(refine v_make ?_ (fun sv ss hs hln=>?_);omega)|refine ⟨?_,?_,?_⟩|refine ⟨?_,?_⟩|(refine v_tyc ?_ ?_;omega)|(refine v_tycT (by decide +kernel) ?_ ?_;omega)|refine v_tValT (by decide +kernel) ?_|(refine v_tsb ?_ (fun su (And.intro hs hln)=>?_);omega)|refine v_tlk (fun lv hlk=>?_) (fun hlk=>?_)|refine v_tlkT (by decide +kernel) (fun lv hlk=>?_) (fun hlk=>?_)|refine v_tyw ?_|refine v_drawn0 (id:=17) pl12_17 (by kernel_rfl) ?_|fail)
      rename_i ssr hsr hlnr
      refine v_again ⟨i + 1, sv, ss, ssr⟩ (by dsimp only; omega) rfl inferInstance ⟨hlt, ?_, ?_⟩
      · dsimp only; rw [e1, lefts_snoc, ek]; exact hs
      · dsimp only; rw [e1, offs_snoc, ek, Int.toNat_natCast]; exact hsr
    · rw [List.take_of_length_le hge] at hv hr
      clear hvl
      have hol : (offs l lv).length = 64 := by rw [offs_len, hll]
      haveI : LenIs (offs l lv) 64 := ⟨hol⟩
      generalize hr' : offs l lv = r' at *
      repeat' (first | refine stp ?_|(refine v_spT ?_ ?_;omega)|(refine v_spF ?_ ?_;omega)|refine v_spD (fun hc=>?_) (fun hc=>?_)|refine v_spB (fun hc=>?_) (fun hc=>?_)|(refine v_yc ?_ ?_;omega)|refine v_allocA (fun ba sal hal=>?_)|refine v_boxA (fun bb sba hba=>?_)|refine v_storeA (fun ss hs=>?_)|refine v_alloc' (fun ba=>?_)|refine v_box (fun bb=>?_)|refine v_lit (fun bl=>?_)|refine v_makeMap (fun bm=>?_)|(refine v_push ?_ (fun sv ss hs hln=>?_);omega)|(refine v_push0 ?_ (fun sv ss hs=>?_);omega)|(refine v_set ?_ (fun ss hs hln=>?_);omega)|(refine v_cat ?_ (fun sv ss hs hln=>?_);omega)|(refine v_cat0 ?_ (fun sv ss hs=>?_);omega)|(refine v_catN ?_ (fun sv ss hs=>?_);omega)|refine v_put (fun sm hm=>?_)|refine v_del (fun sm hm=>?_)|(refine v_sb ?_ (fun su (And.intro hs hln)=>?_);omega)|refine v_1lk (fun lv hlk=>?_) (fun hlk=>?_)|refine v_ment (fun st sm hm hst=>?_)|refine v_esto (fun sm hm=>?_)|refine v_rng (fun ri ti hit=>?_)|refine v_clone (fun bc sc hcl=>?_)|refine v_yw ?_|(refine v_make ?_ (fun sv ss hs hln=>?_);omega)|refine ⟨?_,?_,?_⟩|refine ⟨?_,?_⟩|(refine v_tyc ?_ ?_;omega)|(refine v_tycT (by decide +kernel) ?_ ?_;omega)|refine v_tValT (by decide +kernel) ?_|(refine v_tsb ?_ (fun su (And.intro hs hln)=>?_);omega)|refine v_tlk (fun lv hlk=>?_) (fun hlk=>?_)|refine v_tlkT (by decide +kernel) (fun lv hlk=>?_) (fun hlk=>?_)|refine v_tyw ?_|refine v_drawn0 (id:=17) pl12_17 (by kernel_rfl) ?_|fail)
      refine v_callR (take_s hT (tk r') jn.length (by omega)) ?_
      rintro u Γ' ⟨ov, os, sw, rfl, hos, rfl⟩
      rw [idx_pos] at hos
      obtain ⟨fl, hfl⟩ : ∃ fl, fl = ((pos ((tk r').map not)).map fun x : Nat => (x : Int)).take jn.length := ⟨_, rfl⟩
      rw [← hfl] at hos
      have hfn : fl.length = jn.length := by rw [hfl, List.length_take, List.length_map]; unfold frs at hfr; omega
      have hfg : ∀ i, ∀ h : i < fl.length, ∀ h2 : i < (frs r').length, fl[i] = ((frs r')[i] : Int) := fun i h h2 => by
        have : fl[i]? = some (((frs r')[i] : Nat) : Int) := by
          rw [hfl, List.getElem?_take, if_pos (by omega), List.getElem?_map]
          unfold frs at h2 ⊢
          rw [List.getElem?_eq_getElem h2]; rfl
        rw [List.getElem?_eq_getElem h] at this
        exact Option.some.inj this
      clear hfl
      (try dsimp only [List.cons_append, List.nil_append])
      repeat' (first | refine stp ?_|(refine v_spT ?_ ?_;omega)|(refine v_spF ?_ ?_;omega)|refine v_spD (fun hc=>?_) (fun hc=>?_)|refine v_spB (fun hc=>?_) (fun hc=>?_)|(refine v_yc ?_ ?_;omega)|refine v_allocA (fun ba sal hal=>?_)|refine v_boxA (fun bb sba hba=>?_)|refine v_storeA (fun ss hs=>?_)|refine v_alloc' (fun ba=>?_)|refine v_box (fun bb=>?_)|refine v_lit (fun bl=>?_)|refine v_makeMap (fun bm=>?_)|(refine v_push ?_ (fun sv ss hs hln=>?_);omega)|(refine v_push0 ?_ (fun sv ss hs=>?_);omega)|(refine v_set ?_ (fun ss hs hln=>?_);omega)|(refine v_cat ?_ (fun sv ss hs hln=>?_);omega)|(refine v_cat0 ?_ (fun sv ss hs=>?_);omega)|(refine v_catN ?_ (fun sv ss hs=>?_);omega)|refine v_put (fun sm hm=>?_)|refine v_del (fun sm hm=>?_)|(refine v_sb ?_ (fun su (And.intro hs hln)=>?_);omega)|refine v_1lk (fun lv hlk=>?_) (fun hlk=>?_)|refine v_ment (fun st sm hm hst=>?_)|refine v_esto (fun sm hm=>?_)|refine v_rng (fun ri ti hit=>?_)|refine v_clone (fun bc sc hcl=>?_)|refine v_yw ?_|(refine v_make ?_ (fun sv ss hs hln=>?_);omega)|refine ⟨?_,?_,?_⟩|refine ⟨?_,?_⟩|(refine v_tyc ?_ ?_;omega)|(refine v_tycT (by decide +kernel) ?_ ?_;omega)|refine v_tValT (by decide +kernel) ?_|(refine v_tsb ?_ (fun su (And.intro hs hln)=>?_);omega)|refine v_tlk (fun lv hlk=>?_) (fun hlk=>?_)|refine v_tlkT (by decide +kernel) (fun lv hlk=>?_) (fun hlk=>?_)|refine v_tyw ?_|refine v_drawn0 (id:=17) pl12_17 (by kernel_rfl) ?_|fail)
      refine v_lp [14, 80] [2, 3, 4, 5, 8, 13, 78, 79] (fun g : MvG => [g.v, .int .i64 g.i]) (fun g => [g.s, g.r]) (fun g => g.i ≤ jn.length ∧ OwnS g.v 48 ApiSeat 2 cvApiSeat (jnd ((mvQ r' jn).take g.i)) g.s ∧ OwnS (arr bR 64) 23 ApiEntry 3 cvApiEntry (ons since r' base ((mvQ r' jn).take g.i)) g.r) (fun g => jn.length - g.i) ⟨0, .slice none 0 0, [], r⟩ (fun _ => rfl) rfl inferInstance ⟨Nat.zero_le _, OwnS.nil, hr⟩ ?_
      clear hr r
      rintro ⟨j, vj, sj, rj⟩ ⟨hi2, hj, hr⟩
      dsimp only at hi2 hj hr ⊢
      (try dsimp only [zipE_c, zipE_n, List.cons_append, List.nil_append])
      have hql : (mvQ r' jn).length = jn.length := mvQ_len (by omega)
      have hjl : (jnd ((mvQ r' jn).take j)).length = j := by unfold jnd; rw [List.length_map, List.length_take]; omega
      have hrl : (ons since r' base ((mvQ r' jn).take j)).length = 64 := by rw [ons_len, hol]
      rcases Nat.lt_or_ge j jn.length with hlt | hge2
      · have hb : 1 ≤ base ∧ base ≤ 32768 - jn.length := by
          rcases hnmo with h | h
          · omega
          · exact h.1
        have hjf : j < (frs r').length := by omega
        have e5 := hfg j (by omega) hjf
        obtain ⟨h64, _⟩ := mem_frs.1 (List.getElem_mem hjf)
        rw [hol] at h64
        repeat' (first | refine stp ?_|(refine v_spT ?_ ?_;omega)|(refine v_spF ?_ ?_;omega)|refine v_spD (fun hc=>?_) (fun hc=>?_)|refine v_spB (fun hc=>?_) (fun hc=>?_)|(refine v_yc ?_ ?_;omega)|refine v_allocA (fun ba sal hal=>?_)|refine v_boxA (fun bb sba hba=>?_)|refine v_storeA (fun ss hs=>?_)|refine v_alloc' (fun ba=>?_)|refine v_box (fun bb=>?_)|refine v_lit (fun bl=>?_)|refine v_makeMap (fun bm=>?_)|(refine v_push ?_ (fun sv ss hs hln=>?_);omega)|(refine v_push0 ?_ (fun sv ss hs=>?_);omega)|(refine v_set ?_ (fun ss hs hln=>?_);omega)|(refine v_cat ?_ (fun sv ss hs hln=>?_);omega)|(refine v_cat0 ?_ (fun sv ss hs=>?_);omega)|(refine v_catN ?_ (fun sv ss hs=>?_);omega)|refine v_put (fun sm hm=>?_)|refine v_del (fun sm hm=>?_)|(refine v_sb ?_ (fun su (And.intro hs hln)=>?_);omega)|refine v_1lk (fun lv hlk=>?_) (fun hlk=>?_)|refine v_ment (fun st sm hm hst=>?_)|refine v_esto (fun sm hm=>?_)|refine v_rng (fun ri ti hit=>?_)|refine v_clone (fun bc sc hcl=>?_)|refine v_yw ?_|(refine v_make ?_ (fun sv ss hs hln=>?_);omega)|refine ⟨?_,?_,?_⟩|refine ⟨?_,?_⟩|(refine v_tyc ?_ ?_;omega)|(refine v_tycT (by decide +kernel) ?_ ?_;omega)|refine v_tValT (by decide +kernel) ?_|(refine v_tsb ?_ (fun su (And.intro hs hln)=>?_);omega)|refine v_tlk (fun lv hlk=>?_) (fun hlk=>?_)|refine v_tlkT (by decide +kernel) (fun lv hlk=>?_) (fun hlk=>?_)|refine v_tyw ?_|refine v_drawn0 (id:=17) pl12_17 (by kernel_rfl) ?_|fail)
        rename_i ssr hsr hlnr
        refine v_again ⟨j + 1, sv, ss, ssr⟩ (by dsimp only; omega) rfl inferInstance ⟨hlt, ?_, ?_⟩
        · dsimp only
          rw [mvQ_take hlt hjf]
          unfold jnd at hs ⊢
          rw [List.map_append]
          rw [e5] at hs
          exact hs
        · dsimp only
          rw [ons_at hlt hjf]
          rw [e5, Int.toNat_natCast] at hsr
          exact hsr
      · rw [List.take_of_length_le (by omega)] at hj hr hrl
        haveI : LenIs (ons since r' base (mvQ r' jn)) 64 := ⟨hrl⟩
        repeat' (first | refine stp ?_|(refine v_spT ?_ ?_;omega)|(refine v_spF ?_ ?_;omega)|refine v_spD (fun hc=>?_) (fun hc=>?_)|refine v_spB (fun hc=>?_) (fun hc=>?_)|(refine v_yc ?_ ?_;omega)|refine v_allocA (fun ba sal hal=>?_)|refine v_boxA (fun bb sba hba=>?_)|refine v_storeA (fun ss hs=>?_)|refine v_alloc' (fun ba=>?_)|refine v_box (fun bb=>?_)|refine v_lit (fun bl=>?_)|refine v_makeMap (fun bm=>?_)|(refine v_push ?_ (fun sv ss hs hln=>?_);omega)|(refine v_push0 ?_ (fun sv ss hs=>?_);omega)|(refine v_set ?_ (fun ss hs hln=>?_);omega)|(refine v_cat ?_ (fun sv ss hs hln=>?_);omega)|(refine v_cat0 ?_ (fun sv ss hs=>?_);omega)|(refine v_catN ?_ (fun sv ss hs=>?_);omega)|refine v_put (fun sm hm=>?_)|refine v_del (fun sm hm=>?_)|(refine v_sb ?_ (fun su (And.intro hs hln)=>?_);omega)|refine v_1lk (fun lv hlk=>?_) (fun hlk=>?_)|refine v_ment (fun st sm hm hst=>?_)|refine v_esto (fun sm hm=>?_)|refine v_rng (fun ri ti hit=>?_)|refine v_clone (fun bc sc hcl=>?_)|refine v_yw ?_|(refine v_make ?_ (fun sv ss hs hln=>?_);omega)|refine ⟨?_,?_,?_⟩|refine ⟨?_,?_⟩|(refine v_tyc ?_ ?_;omega)|(refine v_tycT (by decide +kernel) ?_ ?_;omega)|refine v_tValT (by decide +kernel) ?_|(refine v_tsb ?_ (fun su (And.intro hs hln)=>?_);omega)|refine v_tlk (fun lv hlk=>?_) (fun hlk=>?_)|refine v_tlkT (by decide +kernel) (fun lv hlk=>?_) (fun hlk=>?_)|refine v_tyw ?_|refine v_drawn0 (id:=17) pl12_17 (by kernel_rfl) ?_|fail)
        have key : ∃ a sa b sb, Value.tuple #[rv (ons since r' base (mvQ r' jn)), v, vj, .int .i64 0] = .tuple #[rv (mvR l lv jn since base), a, b, .int .i64 (mvE l lv jn since base)] ∧ OwnS a 48 ApiSeat 2 cvApiSeat (mvL l lv jn since base) sa ∧ OwnS b 48 ApiSeat 2 cvApiSeat (mvJ l lv jn since base) sb ∧ ([s, sj] : List Hp) = [sa, sb] := by
          unfold mvR mvL mvJ
          rw [he, if_pos rfl, if_pos rfl, if_pos rfl, hr']
          exact ⟨_, _, _, _, rfl, hv, hj, rfl⟩
        refine v_o4 Tryd.results12 key ⟨_, inferInstance⟩
end Go.Proofs.YtedemhmlaodblaaDoor
