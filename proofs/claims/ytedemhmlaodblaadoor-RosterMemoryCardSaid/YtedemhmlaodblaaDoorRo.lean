/- Rosters: the reference's Move, Same. -/
import Derived.Test.YtedemhmlaodblaaDoorRn
namespace Go.Proofs.YtedemhmlaodblaaDoor
open Go Go.SX Go.RowKit
set_option maxRecDepth 100000
set_option maxHeartbeats 0
set_option synthInstance.maxSize 100000
set_option synthInstance.maxHeartbeats 400000
theorem rmove_s (l : List ApiEntry) [hl : LenIs l 64] {u1 u2 : Value} {lv jn : List Int} {s1 s2 : Hp} (h1 : AtS u1 3 Int 1 ic lv s1) (h2 : AtS u2 3 Int 1 ic jn s2) (hb1 : lv.length ≤ 281474976710656) (hb2 : jn.length ≤ 281474976710656) (since base : Int) (hbi : -9223372036854775808 ≤ base ∧ base < 9223372036854775808) :
    SX.Spec Tryd.prog 13 #[rv l, .agg #[u1, u2], .int .i64 since, .int .i64 base] [s1, s2] [] fun v Γ => ∃ a sa b sb, v = .tuple #[rv (mvR l lv jn since base), a, b, .int .i64 (mvE l lv jn since base)] ∧ OwnS a 48 ApiSeat 2 cvApiSeat (mvL l lv jn since base) sa ∧ OwnS b 48 ApiSeat 2 cvApiSeat (mvJ l lv jn since base) sb ∧ Γ = [sa, sb] := by
  have hll := hl.out
  have err : ∀ e, mvE l lv jn since base = e → e ≠ 0 → ∃ a sa b sb, Value.tuple #[rv (List.replicate 64 e0), .slice none 0 0, .slice none 0 0, .int .i64 e] = .tuple #[rv (mvR l lv jn since base), a, b, .int .i64 (mvE l lv jn since base)] ∧ OwnS a 48 ApiSeat 2 cvApiSeat (mvL l lv jn since base) sa ∧ OwnS b 48 ApiSeat 2 cvApiSeat (mvJ l lv jn since base) sb ∧ ([[], []] : List Hp) = [sa, sb] := fun e he h0 => by
    unfold mvR mvL mvJ
    rw [he, if_neg h0, if_neg h0, if_neg h0]
    exact ⟨_, [], _, [], rfl, OwnS.nil, OwnS.nil, rfl⟩
  have hmv : mvE l lv jn since base = if fitsE l lv jn ≠ 0 then fitsE l lv jn else if since < 1 ∨ 200 < since then 19 else if nmOk l base jn.length then 0 else 3 := rfl
  refine spec_of4 Tryd.func13 Tryd.ntmps13 rfl rfl (fun M w0 => ?_)
  repeat' (first | refine stp ?_|(refine v_spT ?_ ?_;omega)|(refine v_spF ?_ ?_;omega)|refine v_spD (fun hc=>?_) (fun hc=>?_)|refine v_spB (fun hc=>?_) (fun hc=>?_)|(refine v_yc ?_ ?_;omega)|refine v_allocA (fun ba sal hal=>?_)|refine v_boxA (fun bb sba hba=>?_)|refine v_storeA (fun ss hs=>?_)|refine v_alloc' (fun ba=>?_)|refine v_box (fun bb=>?_)|refine v_lit (fun bl=>?_)|refine v_makeMap (fun bm=>?_)|(refine v_push ?_ (fun sv ss hs hln=>?_);omega)|(refine v_push0 ?_ (fun sv ss hs=>?_);omega)|(refine v_set ?_ (fun ss hs hln=>?_);omega)|(refine v_cat ?_ (fun sv ss hs hln=>?_);omega)|(refine v_cat0 ?_ (fun sv ss hs=>?_);omega)|(refine v_catN ?_ (fun sv ss hs=>?_);omega)|refine v_put (fun sm hm=>?_)|refine v_del (fun sm hm=>?_)|(refine v_sb ?_ (fun su (And.intro hs hln)=>?_);omega)|refine v_1lk (fun lv hlk=>?_) (fun hlk=>?_)|refine v_ment (fun st sm hm hst=>?_)|refine v_esto (fun sm hm=>?_)|refine v_rng (fun ri ti hit=>?_)|refine v_clone (fun bc sc hcl=>?_)|refine v_yw ?_|(refine v_make ?_ (fun sv ss hs hln=>?_);omega)|fail)
  rename_i bR
  refine v_callR (rfits_s l h1 h2 hb1 hb2) ?_
  rintro v Γ' ⟨rfl, rfl⟩
  (try dsimp only [List.cons_append, List.nil_append])
  have hstop51 := @stopI Tryd.prog 51
  repeat' (first | refine stp ?_|(refine v_spT ?_ ?_;omega)|(refine v_spF ?_ ?_;omega)|refine v_spD (fun hc=>?_) (fun hc=>?_)|refine v_spB (fun hc=>?_) (fun hc=>?_)|(refine v_yc ?_ ?_;omega)|refine v_allocA (fun ba sal hal=>?_)|refine v_boxA (fun bb sba hba=>?_)|refine v_storeA (fun ss hs=>?_)|refine v_alloc' (fun ba=>?_)|refine v_box (fun bb=>?_)|refine v_lit (fun bl=>?_)|refine v_makeMap (fun bm=>?_)|(refine v_push ?_ (fun sv ss hs hln=>?_);omega)|(refine v_push0 ?_ (fun sv ss hs=>?_);omega)|(refine v_set ?_ (fun ss hs hln=>?_);omega)|(refine v_cat ?_ (fun sv ss hs hln=>?_);omega)|(refine v_cat0 ?_ (fun sv ss hs=>?_);omega)|(refine v_catN ?_ (fun sv ss hs=>?_);omega)|refine v_put (fun sm hm=>?_)|refine v_del (fun sm hm=>?_)|(refine v_sb ?_ (fun su (And.intro hs hln)=>?_);omega)|refine v_1lk (fun lv hlk=>?_) (fun hlk=>?_)|refine v_ment (fun st sm hm hst=>?_)|refine v_esto (fun sm hm=>?_)|refine v_rng (fun ri ti hit=>?_)|refine v_clone (fun bc sc hcl=>?_)|refine v_yw ?_|(refine v_make ?_ (fun sv ss hs hln=>?_);omega)|fail)
  · refine v_o4 Tryd.results13 (err _ (by rw [hmv, if_pos hc]) hc) ⟨_, inferInstance⟩
  · refine v_o4 Tryd.results13 (err 19 (by rw [hmv, if_neg (by assumption), if_pos (.inl hc)]) (by decide)) ⟨_, inferInstance⟩
  · refine v_o4 Tryd.results13 (err 19 (by rw [hmv, if_neg (by assumption), if_pos (.inr hc)]) (by decide)) ⟨_, inferInstance⟩
  rename_i hc1 hc2
  have hmv2 : mvE l lv jn since base = if nmOk l base jn.length then 0 else 3 := by rw [hmv, if_neg hc1, if_neg (by omega)]
  have hnot : ¬ nmOk l base jn.length → mvE l lv jn since base = 3 := fun h => by rw [hmv2, if_neg h]
  refine Stopped.go <| v_ctI 51 [] [2, 3, 4, 5, 8, 13] (fun _ : Unit => []) (fun _ => [sal, [(bb, .cells #[u1, u2] 28 (0, 0))], sba]) (fun _ => (jn.length : Int) = 0 ∨ 1 ≤ base ∧ base ≤ 32768 - jn.length) (fun _ => rfl) ?_ ?_
  · (try dsimp only [zipE_c, zipE_n, List.cons_append, List.nil_append])
    repeat' (first | refine stp ?_|(refine v_spT ?_ ?_;omega)|(refine v_spF ?_ ?_;omega)|refine v_spD (fun hc=>?_) (fun hc=>?_)|refine v_spB (fun hc=>?_) (fun hc=>?_)|(refine v_yc ?_ ?_;omega)|refine v_allocA (fun ba sal hal=>?_)|refine v_boxA (fun bb sba hba=>?_)|refine v_storeA (fun ss hs=>?_)|refine v_alloc' (fun ba=>?_)|refine v_box (fun bb=>?_)|refine v_lit (fun bl=>?_)|refine v_makeMap (fun bm=>?_)|(refine v_push ?_ (fun sv ss hs hln=>?_);omega)|(refine v_push0 ?_ (fun sv ss hs=>?_);omega)|(refine v_set ?_ (fun ss hs hln=>?_);omega)|(refine v_cat ?_ (fun sv ss hs hln=>?_);omega)|(refine v_cat0 ?_ (fun sv ss hs=>?_);omega)|(refine v_catN ?_ (fun sv ss hs=>?_);omega)|refine v_put (fun sm hm=>?_)|refine v_del (fun sm hm=>?_)|(refine v_sb ?_ (fun su (And.intro hs hln)=>?_);omega)|refine v_1lk (fun lv hlk=>?_) (fun hlk=>?_)|refine v_ment (fun st sm hm hst=>?_)|refine v_esto (fun sm hm=>?_)|refine v_rng (fun ri ti hit=>?_)|refine v_clone (fun bc sc hcl=>?_)|refine v_yw ?_|(refine v_make ?_ (fun sv ss hs hln=>?_);omega)|fail)
    · refine v_o4 Tryd.results13 (err 3 (hnot ?_) (by decide)) ⟨_, inferInstance⟩
      rintro (h | ⟨h, _⟩) <;> omega
    · refine v_o4 Tryd.results13 (err 3 (hnot ?_) (by decide)) ⟨_, inferInstance⟩
      rintro (h | ⟨h, _⟩) <;> omega
    · exact v_here () rfl inferInstance (.inr (by omega))
    · exact v_here () rfl inferInstance (.inl (by omega))
  · rintro _ hb
    (try dsimp only [zipE_c, zipE_n, List.cons_append, List.nil_append])
    refine v_ct [] [2, 3, 4, 5, 8] (fun _ : Unit => []) (fun _ => [sal, [(bb, .cells #[u1, u2] 28 (0, 0))], sba]) (fun _ => nmOk l base jn.length) (fun _ => rfl) ?_ ?_
    · (try dsimp only [zipE_c, zipE_n, List.cons_append, List.nil_append])
      repeat' (first | refine stp ?_|(refine v_spT ?_ ?_;omega)|(refine v_spF ?_ ?_;omega)|refine v_spD (fun hc=>?_) (fun hc=>?_)|refine v_spB (fun hc=>?_) (fun hc=>?_)|(refine v_yc ?_ ?_;omega)|refine v_allocA (fun ba sal hal=>?_)|refine v_boxA (fun bb sba hba=>?_)|refine v_storeA (fun ss hs=>?_)|refine v_alloc' (fun ba=>?_)|refine v_box (fun bb=>?_)|refine v_lit (fun bl=>?_)|refine v_makeMap (fun bm=>?_)|(refine v_push ?_ (fun sv ss hs hln=>?_);omega)|(refine v_push0 ?_ (fun sv ss hs=>?_);omega)|(refine v_set ?_ (fun ss hs hln=>?_);omega)|(refine v_cat ?_ (fun sv ss hs hln=>?_);omega)|(refine v_cat0 ?_ (fun sv ss hs=>?_);omega)|(refine v_catN ?_ (fun sv ss hs=>?_);omega)|refine v_put (fun sm hm=>?_)|refine v_del (fun sm hm=>?_)|(refine v_sb ?_ (fun su (And.intro hs hln)=>?_);omega)|refine v_1lk (fun lv hlk=>?_) (fun hlk=>?_)|refine v_ment (fun st sm hm hst=>?_)|refine v_esto (fun sm hm=>?_)|refine v_rng (fun ri ti hit=>?_)|refine v_clone (fun bc sc hcl=>?_)|refine v_yw ?_|(refine v_make ?_ (fun sv ss hs hln=>?_);omega)|fail)
      refine v_lp [14] [2, 3, 4, 5, 8, 13] (fun i : Nat => [.int .i64 i]) (fun _ => []) (fun i => i ≤ 64 ∧ ((jn.length : Int) = 0 ∨ ∀ x ∈ l.take i, ¬ (base ≤ x.Base ∧ x.Base < base + jn.length))) (fun i => 64 - i) 0 (fun _ => rfl) rfl inferInstance ⟨Nat.zero_le _, .inr (by simp)⟩ ?_
      rintro i ⟨hi, hno⟩
      (try dsimp only [zipE_c, zipE_n, List.cons_append, List.nil_append])
      rcases Nat.lt_or_ge i 64 with hlt | hge
      · have e1 : l.take (i + 1) = l.take i ++ [l[i]] := by rw [List.take_add_one, List.getElem?_eq_getElem (by omega)]; rfl
        have hnx : ¬ (base ≤ l[i].Base ∧ l[i].Base < base + jn.length) → 0 < (jn.length : Int) → (jn.length : Int) = 0 ∨ ∀ x ∈ l.take (i + 1), ¬ (base ≤ x.Base ∧ x.Base < base + jn.length) := fun h h2 => .inr fun x hx => by
          rw [e1, List.mem_append, List.mem_singleton] at hx
          rcases hno with h3 | h3
          · omega
          · rcases hx with hx | rfl
            · exact h3 x hx
            · exact h
        repeat' (first | refine stp ?_|(refine v_spT ?_ ?_;omega)|(refine v_spF ?_ ?_;omega)|refine v_spD (fun hc=>?_) (fun hc=>?_)|refine v_spB (fun hc=>?_) (fun hc=>?_)|(refine v_yc ?_ ?_;omega)|refine v_allocA (fun ba sal hal=>?_)|refine v_boxA (fun bb sba hba=>?_)|refine v_storeA (fun ss hs=>?_)|refine v_alloc' (fun ba=>?_)|refine v_box (fun bb=>?_)|refine v_lit (fun bl=>?_)|refine v_makeMap (fun bm=>?_)|(refine v_push ?_ (fun sv ss hs hln=>?_);omega)|(refine v_push0 ?_ (fun sv ss hs=>?_);omega)|(refine v_set ?_ (fun ss hs hln=>?_);omega)|(refine v_cat ?_ (fun sv ss hs hln=>?_);omega)|(refine v_cat0 ?_ (fun sv ss hs=>?_);omega)|(refine v_catN ?_ (fun sv ss hs=>?_);omega)|refine v_put (fun sm hm=>?_)|refine v_del (fun sm hm=>?_)|(refine v_sb ?_ (fun su (And.intro hs hln)=>?_);omega)|refine v_1lk (fun lv hlk=>?_) (fun hlk=>?_)|refine v_ment (fun st sm hm hst=>?_)|refine v_esto (fun sm hm=>?_)|refine v_rng (fun ri ti hit=>?_)|refine v_clone (fun bc sc hcl=>?_)|refine v_yw ?_|(refine v_make ?_ (fun sv ss hs hln=>?_);omega)|fail)
        · refine v_o4 Tryd.results13 (err 3 (hnot ?_) (by decide)) ⟨_, inferInstance⟩
          rintro (h | ⟨_, h⟩)
          · omega
          · exact h l[i] (List.getElem_mem _) ⟨by omega, by omega⟩
        · exact v_again (i + 1) (by omega) rfl inferInstance ⟨by omega, hnx (by omega) (by omega)⟩
        · exact v_again (i + 1) (by omega) rfl inferInstance ⟨by omega, hnx (by omega) (by omega)⟩
        · exact v_here () rfl inferInstance (.inl (by omega))
      · rw [List.take_of_length_le (by omega)] at hno
        repeat' (first | refine stp ?_|(refine v_spT ?_ ?_;omega)|(refine v_spF ?_ ?_;omega)|refine v_spD (fun hc=>?_) (fun hc=>?_)|refine v_spB (fun hc=>?_) (fun hc=>?_)|(refine v_yc ?_ ?_;omega)|refine v_allocA (fun ba sal hal=>?_)|refine v_boxA (fun bb sba hba=>?_)|refine v_storeA (fun ss hs=>?_)|refine v_alloc' (fun ba=>?_)|refine v_box (fun bb=>?_)|refine v_lit (fun bl=>?_)|refine v_makeMap (fun bm=>?_)|(refine v_push ?_ (fun sv ss hs hln=>?_);omega)|(refine v_push0 ?_ (fun sv ss hs=>?_);omega)|(refine v_set ?_ (fun ss hs hln=>?_);omega)|(refine v_cat ?_ (fun sv ss hs hln=>?_);omega)|(refine v_cat0 ?_ (fun sv ss hs=>?_);omega)|(refine v_catN ?_ (fun sv ss hs=>?_);omega)|refine v_put (fun sm hm=>?_)|refine v_del (fun sm hm=>?_)|(refine v_sb ?_ (fun su (And.intro hs hln)=>?_);omega)|refine v_1lk (fun lv hlk=>?_) (fun hlk=>?_)|refine v_ment (fun st sm hm hst=>?_)|refine v_esto (fun sm hm=>?_)|refine v_rng (fun ri ti hit=>?_)|refine v_clone (fun bc sc hcl=>?_)|refine v_yw ?_|(refine v_make ?_ (fun sv ss hs hln=>?_);omega)|fail)
        refine v_here () rfl inferInstance ?_
        rcases hno with h | h
        · exact .inl h
        · rcases hb with hb | hb
          · exact .inl hb
          · exact .inr ⟨hb, h⟩
    · rintro _ hnmo
      (try dsimp only [zipE_c, zipE_n, List.cons_append, List.nil_append])
      repeat' (first | refine stp ?_|(refine v_spT ?_ ?_;omega)|(refine v_spF ?_ ?_;omega)|refine v_spD (fun hc=>?_) (fun hc=>?_)|refine v_spB (fun hc=>?_) (fun hc=>?_)|(refine v_yc ?_ ?_;omega)|refine v_allocA (fun ba sal hal=>?_)|refine v_boxA (fun bb sba hba=>?_)|refine v_storeA (fun ss hs=>?_)|refine v_alloc' (fun ba=>?_)|refine v_box (fun bb=>?_)|refine v_lit (fun bl=>?_)|refine v_makeMap (fun bm=>?_)|(refine v_push ?_ (fun sv ss hs hln=>?_);omega)|(refine v_push0 ?_ (fun sv ss hs=>?_);omega)|(refine v_set ?_ (fun ss hs hln=>?_);omega)|(refine v_cat ?_ (fun sv ss hs hln=>?_);omega)|(refine v_cat0 ?_ (fun sv ss hs=>?_);omega)|(refine v_catN ?_ (fun sv ss hs=>?_);omega)|refine v_put (fun sm hm=>?_)|refine v_del (fun sm hm=>?_)|(refine v_sb ?_ (fun su (And.intro hs hln)=>?_);omega)|refine v_1lk (fun lv hlk=>?_) (fun hlk=>?_)|refine v_ment (fun st sm hm hst=>?_)|refine v_esto (fun sm hm=>?_)|refine v_rng (fun ri ti hit=>?_)|refine v_clone (fun bc sc hcl=>?_)|refine v_yw ?_|(refine v_make ?_ (fun sv ss hs hln=>?_);omega)|fail)
      have he : mvE l lv jn since base = 0 := by rw [hmv2, if_pos hnmo]
      have hF := fit_of (l := l) (lv := lv) (jn := jn) (Decidable.not_not.1 hc1)
      clear err hmv hmv2 hnot hb
      have hct := tk_offs lv l hF.nd1 hF.on1
      have hcl : (tk l).count true ≤ 64 := by have := List.count_le_length (a := true) (l := tk l); rw [tk_len, hll] at this; exact this
      have hroom := hF.room
      have hfr := frs_len (offs l lv)
      rw [offs_len, hll] at hfr
      refine v_lp [15, 81] [2, 3, 4, 5, 8, 16, 79, 80] (fun g : MvG => [g.v, .int .i64 g.i]) (fun g => [g.s, g.r]) (fun g => g.i ≤ lv.length ∧ OwnS g.v 48 ApiSeat 2 cvApiSeat (lefts l (lv.take g.i)) g.s ∧ OwnS (arr bR 64) 23 ApiEntry 3 cvApiEntry (offs l (lv.take g.i)) g.r) (fun g => lv.length - g.i) ⟨0, .slice none 0 0, [], sba⟩ (fun _ => rfl) rfl inferInstance ⟨Nat.zero_le _, OwnS.nil, hba⟩ ?_
      clear hba sba
      rintro ⟨i, v, s, r⟩ ⟨hi, hv, hr⟩
      dsimp only at hi hv hr ⊢
      (try dsimp only [zipE_c, zipE_n, List.cons_append, List.nil_append])
      have hvl := lefts_len (lv.take i) l
      rw [List.length_take] at hvl
      rcases Nat.lt_or_ge i lv.length with hlt | hge
      · have e1 : lv.take (i + 1) = lv.take i ++ [lv[i]] := by rw [List.take_add_one, List.getElem?_eq_getElem hlt]; rfl
        have hol : (offs l (lv.take i)).length = 64 := by rw [offs_len, hll]
        haveI : LenIs (offs l (lv.take i)) 64 := ⟨hol⟩
        have hni : lv[i] ∉ lv.take i := fun hm => by
          obtain ⟨m, hm1, hm2⟩ := List.mem_take_iff_getElem.1 hm
          exact List.pairwise_iff_getElem.1 hF.nd1 m i (by omega) hlt (by omega) hm2
        have hfo := fnd_offs (lv.take i) l lv[i] (hF.nd1.sublist (List.take_sublist _ _)) (fun u hu => hF.on1 u (List.mem_of_mem_take hu)) hni
        obtain ⟨k, hk, ek, _⟩ := fnd_some (l := offs l (lv.take i)) (w := lv[i]) (by rw [hfo]; exact hF.on1 _ (List.getElem_mem _))
        have hfs := rfind_s (offs l (lv.take i)) lv[i]
        rw [ek] at hfs
        clear hfo
        repeat' (first | refine stp ?_|(refine v_spT ?_ ?_;omega)|(refine v_spF ?_ ?_;omega)|refine v_spD (fun hc=>?_) (fun hc=>?_)|refine v_spB (fun hc=>?_) (fun hc=>?_)|(refine v_yc ?_ ?_;omega)|refine v_allocA (fun ba sal hal=>?_)|refine v_boxA (fun bb sba hba=>?_)|refine v_storeA (fun ss hs=>?_)|refine v_alloc' (fun ba=>?_)|refine v_box (fun bb=>?_)|refine v_lit (fun bl=>?_)|refine v_makeMap (fun bm=>?_)|(refine v_push ?_ (fun sv ss hs hln=>?_);omega)|(refine v_push0 ?_ (fun sv ss hs=>?_);omega)|(refine v_set ?_ (fun ss hs hln=>?_);omega)|(refine v_cat ?_ (fun sv ss hs hln=>?_);omega)|(refine v_cat0 ?_ (fun sv ss hs=>?_);omega)|(refine v_catN ?_ (fun sv ss hs=>?_);omega)|refine v_put (fun sm hm=>?_)|refine v_del (fun sm hm=>?_)|(refine v_sb ?_ (fun su (And.intro hs hln)=>?_);omega)|refine v_1lk (fun lv hlk=>?_) (fun hlk=>?_)|refine v_ment (fun st sm hm hst=>?_)|refine v_esto (fun sm hm=>?_)|refine v_rng (fun ri ti hit=>?_)|refine v_clone (fun bc sc hcl=>?_)|refine v_yw ?_|(refine v_make ?_ (fun sv ss hs hln=>?_);omega)|fail)
        rename_i ssr hsr hlnr
        refine v_again ⟨i + 1, sv, ssr, ss⟩ (by dsimp only; omega) rfl inferInstance ⟨hlt, ?_, ?_⟩
        · dsimp only; rw [e1, lefts_snoc, ek]; assumption
        · dsimp only; rw [e1, offs_snoc, ek, Int.toNat_natCast]; assumption
      · rw [List.take_of_length_le hge] at hv hr
        clear hvl
        have hol : (offs l lv).length = 64 := by rw [offs_len, hll]
        generalize hr' : offs l lv = r' at *
        repeat' (first | refine stp ?_|(refine v_spT ?_ ?_;omega)|(refine v_spF ?_ ?_;omega)|refine v_spD (fun hc=>?_) (fun hc=>?_)|refine v_spB (fun hc=>?_) (fun hc=>?_)|(refine v_yc ?_ ?_;omega)|refine v_allocA (fun ba sal hal=>?_)|refine v_boxA (fun bb sba hba=>?_)|refine v_storeA (fun ss hs=>?_)|refine v_alloc' (fun ba=>?_)|refine v_box (fun bb=>?_)|refine v_lit (fun bl=>?_)|refine v_makeMap (fun bm=>?_)|(refine v_push ?_ (fun sv ss hs hln=>?_);omega)|(refine v_push0 ?_ (fun sv ss hs=>?_);omega)|(refine v_set ?_ (fun ss hs hln=>?_);omega)|(refine v_cat ?_ (fun sv ss hs hln=>?_);omega)|(refine v_cat0 ?_ (fun sv ss hs=>?_);omega)|(refine v_catN ?_ (fun sv ss hs=>?_);omega)|refine v_put (fun sm hm=>?_)|refine v_del (fun sm hm=>?_)|(refine v_sb ?_ (fun su (And.intro hs hln)=>?_);omega)|refine v_1lk (fun lv hlk=>?_) (fun hlk=>?_)|refine v_ment (fun st sm hm hst=>?_)|refine v_esto (fun sm hm=>?_)|refine v_rng (fun ri ti hit=>?_)|refine v_clone (fun bc sc hcl=>?_)|refine v_yw ?_|(refine v_make ?_ (fun sv ss hs hln=>?_);omega)|fail)
        refine v_lp [16, 101] [2, 3, 4, 8, 15, 99, 100] (fun g : MvG => [g.v, .int .i64 g.i]) (fun g => [g.s, g.r]) (fun g => g.i ≤ jn.length ∧ OwnS g.v 48 ApiSeat 2 cvApiSeat (jnd ((mvQ r' jn).take g.i)) g.s ∧ OwnS (arr bR 64) 23 ApiEntry 3 cvApiEntry (ons since r' base ((mvQ r' jn).take g.i)) g.r) (fun g => jn.length - g.i) ⟨0, .slice none 0 0, [], r⟩ (fun _ => rfl) rfl inferInstance ⟨Nat.zero_le _, OwnS.nil, hr⟩ ?_
        clear hr r
        rintro ⟨j, vj, sj, rj⟩ ⟨hi2, hj, hr⟩
        dsimp only at hi2 hj hr ⊢
        (try dsimp only [zipE_c, zipE_n, List.cons_append, List.nil_append])
        have hql : (mvQ r' jn).length = jn.length := mvQ_len (by omega)
        have hjl : (jnd ((mvQ r' jn).take j)).length = j := by unfold jnd; rw [List.length_map, List.length_take]; omega
        have hrl : (ons since r' base ((mvQ r' jn).take j)).length = 64 := by rw [ons_len, hol]
        rcases Nat.lt_or_ge j jn.length with hlt | hge2
        · have hb : 1 ≤ base ∧ base ≤ 32768 - jn.length := by
            rcases hnmo with h | h
            · omega
            · exact h.1
          have hjf : j < (frs r').length := by omega
          have hfo := frs_ons (since := since) (r := r') (jn := jn) hb.1 (by omega) j (by omega)
          rw [List.drop_eq_getElem_cons hjf] at hfo
          have hat := ons_at (since := since) (base := base) (r := r') hlt hjf
          have hqt := mvQ_take (r := r') hlt hjf
          generalize (frs r')[j] = f at *
          generalize ons since r' base ((mvQ r' jn).take j) = rr at *
          obtain ⟨h64, hf0⟩ := mem_frs.1 (show f ∈ frs rr by rw [hfo]; simp)
          rw [hrl] at h64
          repeat' (first | refine stp ?_|(refine v_spT ?_ ?_;omega)|(refine v_spF ?_ ?_;omega)|refine v_spD (fun hc=>?_) (fun hc=>?_)|refine v_spB (fun hc=>?_) (fun hc=>?_)|(refine v_yc ?_ ?_;omega)|refine v_allocA (fun ba sal hal=>?_)|refine v_boxA (fun bb sba hba=>?_)|refine v_storeA (fun ss hs=>?_)|refine v_alloc' (fun ba=>?_)|refine v_box (fun bb=>?_)|refine v_lit (fun bl=>?_)|refine v_makeMap (fun bm=>?_)|(refine v_push ?_ (fun sv ss hs hln=>?_);omega)|(refine v_push0 ?_ (fun sv ss hs=>?_);omega)|(refine v_set ?_ (fun ss hs hln=>?_);omega)|(refine v_cat ?_ (fun sv ss hs hln=>?_);omega)|(refine v_cat0 ?_ (fun sv ss hs=>?_);omega)|(refine v_catN ?_ (fun sv ss hs=>?_);omega)|refine v_put (fun sm hm=>?_)|refine v_del (fun sm hm=>?_)|(refine v_sb ?_ (fun su (And.intro hs hln)=>?_);omega)|refine v_1lk (fun lv hlk=>?_) (fun hlk=>?_)|refine v_ment (fun st sm hm hst=>?_)|refine v_esto (fun sm hm=>?_)|refine v_rng (fun ri ti hit=>?_)|refine v_clone (fun bc sc hcl=>?_)|refine v_yw ?_|(refine v_make ?_ (fun sv ss hs hln=>?_);omega)|fail)
          refine v_lp [22] [2, 3, 4, 8, 15, 16, 20, 21, 99, 100, 101] (fun k : Nat => [.int .i64 k]) (fun _ => []) (fun k => k ≤ f ∧ ∀ m, ∀ h : m < rr.length, m < k → rr[m].Base ≠ 0) (fun k => 64 - k) 0 (fun _ => rfl) rfl inferInstance ⟨Nat.zero_le _, fun m _ h => absurd h (Nat.not_lt_zero _)⟩ ?_
          rintro k ⟨hk, hkm⟩
          (try dsimp only [zipE_c, zipE_n, List.cons_append, List.nil_append])
          repeat' (first | refine stp ?_|(refine v_spT ?_ ?_;omega)|(refine v_spF ?_ ?_;omega)|refine v_spD (fun hc=>?_) (fun hc=>?_)|refine v_spB (fun hc=>?_) (fun hc=>?_)|(refine v_yc ?_ ?_;omega)|refine v_allocA (fun ba sal hal=>?_)|refine v_boxA (fun bb sba hba=>?_)|refine v_storeA (fun ss hs=>?_)|refine v_alloc' (fun ba=>?_)|refine v_box (fun bb=>?_)|refine v_lit (fun bl=>?_)|refine v_makeMap (fun bm=>?_)|(refine v_push ?_ (fun sv ss hs hln=>?_);omega)|(refine v_push0 ?_ (fun sv ss hs=>?_);omega)|(refine v_set ?_ (fun ss hs hln=>?_);omega)|(refine v_cat ?_ (fun sv ss hs hln=>?_);omega)|(refine v_cat0 ?_ (fun sv ss hs=>?_);omega)|(refine v_catN ?_ (fun sv ss hs=>?_);omega)|refine v_put (fun sm hm=>?_)|refine v_del (fun sm hm=>?_)|(refine v_sb ?_ (fun su (And.intro hs hln)=>?_);omega)|refine v_1lk (fun lv hlk=>?_) (fun hlk=>?_)|refine v_ment (fun st sm hm hst=>?_)|refine v_esto (fun sm hm=>?_)|refine v_rng (fun ri ti hit=>?_)|refine v_clone (fun bc sc hcl=>?_)|refine v_yw ?_|(refine v_make ?_ (fun sv ss hs hln=>?_);omega)|fail)
          · refine v_again (k + 1) (by omega) rfl inferInstance ⟨?_, fun m hm hmk => ?_⟩
            · rcases Nat.lt_or_ge k f with h | h
              · exact h
              · obtain rfl : k = f := by omega
                exact absurd hf0 hc
            · rcases Nat.lt_or_ge m k with h | h
              · exact hkm m hm h
              · obtain rfl : m = k := by omega
                exact hc
          · have hkf : k = f := frs_first hfo (by omega) (Decidable.not_not.1 hc) fun m hm => hkm m (by omega) hm
            subst hkf
            rename_i ssr hsr hlnr _
            refine v_again ⟨j + 1, sv, ss, ssr⟩ (by dsimp only; omega) rfl inferInstance ⟨hlt, ?_, ?_⟩
            · dsimp only
              rw [hqt]
              unfold jnd at hs ⊢
              rw [List.map_append]
              exact hs
            · dsimp only
              rw [hat]
              exact hsr
        · rw [List.take_of_length_le (by omega)] at hj hr hrl
          haveI : LenIs (ons since r' base (mvQ r' jn)) 64 := ⟨hrl⟩
          repeat' (first | refine stp ?_|(refine v_spT ?_ ?_;omega)|(refine v_spF ?_ ?_;omega)|refine v_spD (fun hc=>?_) (fun hc=>?_)|refine v_spB (fun hc=>?_) (fun hc=>?_)|(refine v_yc ?_ ?_;omega)|refine v_allocA (fun ba sal hal=>?_)|refine v_boxA (fun bb sba hba=>?_)|refine v_storeA (fun ss hs=>?_)|refine v_alloc' (fun ba=>?_)|refine v_box (fun bb=>?_)|refine v_lit (fun bl=>?_)|refine v_makeMap (fun bm=>?_)|(refine v_push ?_ (fun sv ss hs hln=>?_);omega)|(refine v_push0 ?_ (fun sv ss hs=>?_);omega)|(refine v_set ?_ (fun ss hs hln=>?_);omega)|(refine v_cat ?_ (fun sv ss hs hln=>?_);omega)|(refine v_cat0 ?_ (fun sv ss hs=>?_);omega)|(refine v_catN ?_ (fun sv ss hs=>?_);omega)|refine v_put (fun sm hm=>?_)|refine v_del (fun sm hm=>?_)|(refine v_sb ?_ (fun su (And.intro hs hln)=>?_);omega)|refine v_1lk (fun lv hlk=>?_) (fun hlk=>?_)|refine v_ment (fun st sm hm hst=>?_)|refine v_esto (fun sm hm=>?_)|refine v_rng (fun ri ti hit=>?_)|refine v_clone (fun bc sc hcl=>?_)|refine v_yw ?_|(refine v_make ?_ (fun sv ss hs hln=>?_);omega)|fail)
          have key : ∃ a sa b sb, Value.tuple #[rv (ons since r' base (mvQ r' jn)), v, vj, .int .i64 0] = .tuple #[rv (mvR l lv jn since base), a, b, .int .i64 (mvE l lv jn since base)] ∧ OwnS a 48 ApiSeat 2 cvApiSeat (mvL l lv jn since base) sa ∧ OwnS b 48 ApiSeat 2 cvApiSeat (mvJ l lv jn since base) sb ∧ ([s, sj] : List Hp) = [sa, sb] := by
            unfold mvR mvL mvJ
            rw [he, if_pos rfl, if_pos rfl, if_pos rfl, hr']
            exact ⟨_, _, _, _, rfl, hv, hj, rfl⟩
          refine v_o4 Tryd.results13 key ⟨_, inferInstance⟩
end Go.Proofs.YtedemhmlaodblaaDoor
