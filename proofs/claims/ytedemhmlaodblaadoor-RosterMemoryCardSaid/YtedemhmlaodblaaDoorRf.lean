/- Rosters: Fits, of the program and of the reference. -/
import Derived.Test.YtedemhmlaodblaaDoorRb
import Derived.Test.YtedemhmlaodblaaDoorRd
namespace Go.Proofs.YtedemhmlaodblaaDoor
open Go Go.SX Go.RowKit
set_option maxRecDepth 100000
set_option maxHeartbeats 0
set_option synthInstance.maxSize 100000
set_option synthInstance.maxHeartbeats 400000
/-- the error of one person, behind those of p -/
def er (l : List ApiEntry) (on : Bool) (wrong : Int) (p : List Int) (w : Int) : Int :=
  if w < 0 ∨ 256 ≤ w then 14 else if w ∈ p then 15 else if decide (0 ≤ fnd l w) ≠ on then wrong else 0
/-- .. of a list -/
def askE (l : List ApiEntry) (on : Bool) (wrong : Int) (p : List Int) : List Int → Int
  | [] => 0
  | w :: r => if er l on wrong p w ≠ 0 then er l on wrong p w else askE l on wrong (p ++ [w]) r
theorem askE_at {l : List ApiEntry} {on : Bool} {wrong : Int} {p q : List Int} {i : Nat} (h : i < q.length) : askE l on wrong (p ++ q.take i) (q.drop i) = if er l on wrong (p ++ q.take i) q[i] ≠ 0 then er l on wrong (p ++ q.take i) q[i] else askE l on wrong (p ++ q.take (i + 1)) (q.drop (i + 1)) := by
  rw [List.drop_eq_getElem_cons h, askE, List.take_add_one, List.getElem?_eq_getElem h, Option.toList_some, List.append_assoc]
def fitsE (l : List ApiEntry) (lv jn : List Int) : Int :=
  if RosOk l then (if askE l true 16 [] lv ≠ 0 then askE l true 16 [] lv else if askE l false 17 lv jn ≠ 0 then askE l false 17 lv jn else if (64 - (tk l).count true : Int) + lv.length < jn.length then 18 else 0) else 31
/-- who is in p, as counts -/
def SeenM (m : List (Int × Int)) (p : List Int) : Prop := ∀ w, (mget m w).getD 0 = if w ∈ p then 1 else 0
theorem SeenM.put {m : List (Int × Int)} {p : List Int} (h : SeenM m p) {w : Int} (hw : w ∉ p) : SeenM (mput m w 1) (p ++ [w]) := fun u => by
  rw [mget_mput]
  by_cases e : u = w
  · subst e; simp
  · rw [if_neg e, h u]; simp [e]
structure AkG where
  i : Nat
  m : List (Int × Int)
  s : Hp
structure AkOk (l : List ApiEntry) (on : Bool) (wrong : Int) (p q : List Int) (bm : Nat) (g : AkG) : Prop where
  le : g.i ≤ q.length
  own : OwnM bm Int Int ik ik g.m g.s
  seen : SeenM g.m (p ++ q.take g.i)
  eq : askE l on wrong p q = askE l on wrong (p ++ q.take g.i) (q.drop g.i)
theorem ask_s (l : List ApiEntry) [hl : LenIs l 64] {u : Value} {q : List Int} {s : Hp} (hu : AtS u 3 Int 1 ic q s) (on : Bool) (wrong : Int) (hwr : wrong ≠ 0) {B1 B2 bm : Nat} {s2 sm : Hp} (h2 : AtS (arr B2 64) 23 ApiEntry 3 cvApiEntry l s2) {m : List (Int × Int)} {p : List Int} (hm : OwnM bm Int Int ik ik m sm) (hp : SeenM m p) :
    SX.Spec Tryd.prog 24 #[u, .bool on, .int .i64 wrong, .pointer (some ⟨B1, 0, none⟩), .pointer (some ⟨B2, 0, none⟩)] [s, [(B1, .cells #[.map (some bm)] 41 (0, 0))], s2] [sm] fun v Γ => ∃ m' sm', v = .int .i64 (askE l on wrong p q) ∧ Γ = [sm'] ∧ OwnM bm Int Int ik ik m' sm' ∧ (askE l on wrong p q = 0 → SeenM m' (p ++ q)) := by
  have hle := hu.le
  have hll := hl.out
  refine spec_of5 Tryd.func24 Tryd.ntmps24 rfl rfl (fun M w0 => ?_)
  repeat' (first | refine stp ?_|(refine v_spT ?_ ?_;omega)|(refine v_spF ?_ ?_;omega)|refine v_spD (fun hc=>?_) (fun hc=>?_)|refine v_spB (fun hc=>?_) (fun hc=>?_)|(refine v_yc ?_ ?_;omega)|refine v_allocA (fun ba sal hal=>?_)|refine v_boxA (fun bb sba hba=>?_)|refine v_storeA (fun ss hs=>?_)|refine v_alloc' (fun ba=>?_)|refine v_box (fun bb=>?_)|refine v_lit (fun bl=>?_)|refine v_makeMap (fun bm=>?_)|(refine v_push ?_ (fun sv ss hs hln=>?_);omega)|(refine v_push0 ?_ (fun sv ss hs=>?_);omega)|(refine v_set ?_ (fun ss hs hln=>?_);omega)|(refine v_cat ?_ (fun sv ss hs hln=>?_);omega)|(refine v_cat0 ?_ (fun sv ss hs=>?_);omega)|(refine v_catN ?_ (fun sv ss hs=>?_);omega)|refine v_put (fun sm hm=>?_)|refine v_del (fun sm hm=>?_)|(refine v_sb ?_ (fun su (And.intro hs hln)=>?_);omega)|refine v_1lk (fun lv hlk=>?_) (fun hlk=>?_)|refine v_ment (fun st sm hm hst=>?_)|refine v_esto (fun sm hm=>?_)|refine v_rng (fun ri ti hit=>?_)|refine v_clone (fun bc sc hcl=>?_)|refine v_yw ?_|(refine v_make ?_ (fun sv ss hs hln=>?_);omega)|fail)
  refine v_lp [13] [1, 2, 3, 4, 11, 12] (fun g : AkG => [.int .i64 g.i]) (fun g => [g.s]) (AkOk l on wrong p q bm) (fun g => q.length - g.i) ⟨0, m, sm⟩ (fun _ => rfl) rfl inferInstance ⟨Nat.zero_le _, hm, by simpa using hp, by simp⟩ ?_
  clear hm hp
  rintro ⟨i, m, sm⟩ ⟨hi, hm, hp, he⟩
  dsimp only at hi hm hp he ⊢
  (try dsimp only [zipE_c, zipE_n, List.cons_append, List.nil_append])
  rcases Nat.lt_or_ge i q.length with hlt | hge
  · have hat := askE_at (l := l) (on := on) (wrong := wrong) (p := p) hlt
    rw [← he] at hat
    have hw : wrap64 ((mget m q[i]).getD 0 + 1) = (mget m q[i]).getD 0 + 1 := by rw [hp]; split <;> (unfold wrap64; omega)
    have hpi := hp q[i]
    have hret : ∀ z, er l on wrong (p ++ q.take i) q[i] = z → z ≠ 0 → askE l on wrong p q = z := fun z hz h0 => by
      rw [hat, hz, if_pos h0]
    have out : ∀ z sm', askE l on wrong p q = z → z ≠ 0 → ∀ m', OwnM bm Int Int ik ik m' sm' → ∃ m' sm'', Value.int .i64 z = .int .i64 (askE l on wrong p q) ∧ [sm'] = [sm''] ∧ OwnM bm Int Int ik ik m' sm'' ∧ (askE l on wrong p q = 0 → SeenM m' (p ++ q)) := fun z sm' hz h0 m' hm' => ⟨m', sm', by rw [hz], rfl, hm', fun h => absurd (hz.symm.trans h) h0⟩
    repeat' (first | refine stp ?_|(refine v_spT ?_ ?_;omega)|(refine v_spF ?_ ?_;omega)|refine v_spD (fun hc=>?_) (fun hc=>?_)|refine v_spB (fun hc=>?_) (fun hc=>?_)|(refine v_yc ?_ ?_;omega)|refine v_allocA (fun ba sal hal=>?_)|refine v_boxA (fun bb sba hba=>?_)|refine v_storeA (fun ss hs=>?_)|refine v_alloc' (fun ba=>?_)|refine v_box (fun bb=>?_)|refine v_lit (fun bl=>?_)|refine v_makeMap (fun bm=>?_)|(refine v_push ?_ (fun sv ss hs hln=>?_);omega)|(refine v_push0 ?_ (fun sv ss hs=>?_);omega)|(refine v_set ?_ (fun ss hs hln=>?_);omega)|(refine v_cat ?_ (fun sv ss hs hln=>?_);omega)|(refine v_cat0 ?_ (fun sv ss hs=>?_);omega)|(refine v_catN ?_ (fun sv ss hs=>?_);omega)|refine v_put (fun sm hm=>?_)|refine v_del (fun sm hm=>?_)|(refine v_sb ?_ (fun su (And.intro hs hln)=>?_);omega)|refine v_1lk (fun lv hlk=>?_) (fun hlk=>?_)|refine v_ment (fun st sm hm hst=>?_)|refine v_esto (fun sm hm=>?_)|refine v_rng (fun ri ti hit=>?_)|refine v_clone (fun bc sc hcl=>?_)|refine v_yw ?_|(refine v_make ?_ (fun sv ss hs hln=>?_);omega)|fail)
    · exact v_o1 Tryd.results24 (out _ _ (hret 14 (by unfold er; rw [if_pos (by omega)]) (by decide)) (by decide) _ hm) ⟨_, inferInstance⟩
    · exact v_o1 Tryd.results24 (out _ _ (hret 14 (by unfold er; rw [if_pos (by omega)]) (by decide)) (by decide) _ hm) ⟨_, inferInstance⟩
    · have hin : q[i] ∈ p ++ q.take i := Classical.byContradiction fun h => by rw [if_neg h] at hpi; omega
      exact v_o1 Tryd.results24 (out _ _ (hret 15 (by unfold er; rw [if_neg (by omega), if_pos hin]) (by decide)) (by decide) _ hm) ⟨_, inferInstance⟩
    · have hni : q[i] ∉ p ++ q.take i := fun h => by rw [if_pos h] at hpi; omega
      exact v_o1 Tryd.results24 (out _ _ (hret wrong (by unfold er; rw [if_neg (by omega), if_neg hni, if_pos (by simpa using hc)]) hwr) hwr _ hm) ⟨_, inferInstance⟩
    · have hni : q[i] ∉ p ++ q.take i := fun h => by rw [if_pos h] at hpi; omega
      have hz : er l on wrong (p ++ q.take i) q[i] = 0 := by unfold er; rw [if_neg (by omega), if_neg hni, if_neg (by simpa using hc)]
      rw [if_neg hni] at hpi
      rw [hpi] at hm
      have e1 : q.take (i + 1) = q.take i ++ [q[i]] := by rw [List.take_add_one, List.getElem?_eq_getElem hlt]; rfl
      refine v_again ⟨i + 1, _, _⟩ (by dsimp only; omega) rfl inferInstance ⟨hlt, hm, ?_, ?_⟩
      · dsimp only; rw [e1, ← List.append_assoc]; exact hp.put hni
      · dsimp only; rw [hat, if_neg (by simp [hz])]
  · repeat' (first | refine stp ?_|(refine v_spT ?_ ?_;omega)|(refine v_spF ?_ ?_;omega)|refine v_spD (fun hc=>?_) (fun hc=>?_)|refine v_spB (fun hc=>?_) (fun hc=>?_)|(refine v_yc ?_ ?_;omega)|refine v_allocA (fun ba sal hal=>?_)|refine v_boxA (fun bb sba hba=>?_)|refine v_storeA (fun ss hs=>?_)|refine v_alloc' (fun ba=>?_)|refine v_box (fun bb=>?_)|refine v_lit (fun bl=>?_)|refine v_makeMap (fun bm=>?_)|(refine v_push ?_ (fun sv ss hs hln=>?_);omega)|(refine v_push0 ?_ (fun sv ss hs=>?_);omega)|(refine v_set ?_ (fun ss hs hln=>?_);omega)|(refine v_cat ?_ (fun sv ss hs hln=>?_);omega)|(refine v_cat0 ?_ (fun sv ss hs=>?_);omega)|(refine v_catN ?_ (fun sv ss hs=>?_);omega)|refine v_put (fun sm hm=>?_)|refine v_del (fun sm hm=>?_)|(refine v_sb ?_ (fun su (And.intro hs hln)=>?_);omega)|refine v_1lk (fun lv hlk=>?_) (fun hlk=>?_)|refine v_ment (fun st sm hm hst=>?_)|refine v_esto (fun sm hm=>?_)|refine v_rng (fun ri ti hit=>?_)|refine v_clone (fun bc sc hcl=>?_)|refine v_yw ?_|(refine v_make ?_ (fun sv ss hs hln=>?_);omega)|fail)
    refine v_o1 Tryd.results24 ⟨m, sm, iI ?_, rfl, hm, fun _ => by rwa [List.take_of_length_le hge] at hp⟩ ⟨_, inferInstance⟩
    rw [he, List.drop_of_length_le hge]; rfl
theorem fits_s (l : List ApiEntry) [hl : LenIs l 64] {u1 u2 : Value} {lv jn : List Int} {s1 s2 : Hp} (h1 : AtS u1 3 Int 1 ic lv s1) (h2 : AtS u2 3 Int 1 ic jn s2) (hb1 : lv.length ≤ 281474976710656) (hb2 : jn.length ≤ 281474976710656) :
    SX.Spec Tryd.prog 10 #[rv l, .agg #[u1, u2]] [s1, s2] [] fun v Γ => v = .int .i64 (fitsE l lv jn) ∧ Γ = [] := by
  have hll := hl.out
  have hcl : (tk l).count true ≤ 64 := by have := List.count_le_length (a := true) (l := tk l); rw [tk_len, hll] at this; exact this
  by_cases hok : RosOk l
  · have hchk := check_s l
    rw [if_pos hok] at hchk
    have hfe : fitsE l lv jn = _ := if_pos hok
    rw [hfe]
    refine spec_of2 Tryd.func10 Tryd.ntmps10 rfl rfl (fun M w0 => ?_)
    repeat' (first | refine stp ?_|(refine v_spT ?_ ?_;omega)|(refine v_spF ?_ ?_;omega)|refine v_spD (fun hc=>?_) (fun hc=>?_)|refine v_spB (fun hc=>?_) (fun hc=>?_)|(refine v_yc ?_ ?_;omega)|refine v_allocA (fun ba sal hal=>?_)|refine v_boxA (fun bb sba hba=>?_)|refine v_storeA (fun ss hs=>?_)|refine v_alloc' (fun ba=>?_)|refine v_box (fun bb=>?_)|refine v_lit (fun bl=>?_)|refine v_makeMap (fun bm=>?_)|(refine v_push ?_ (fun sv ss hs hln=>?_);omega)|(refine v_push0 ?_ (fun sv ss hs=>?_);omega)|(refine v_set ?_ (fun ss hs hln=>?_);omega)|(refine v_cat ?_ (fun sv ss hs hln=>?_);omega)|(refine v_cat0 ?_ (fun sv ss hs=>?_);omega)|(refine v_catN ?_ (fun sv ss hs=>?_);omega)|refine v_put (fun sm hm=>?_)|refine v_del (fun sm hm=>?_)|(refine v_sb ?_ (fun su (And.intro hs hln)=>?_);omega)|refine v_1lk (fun lv hlk=>?_) (fun hlk=>?_)|refine v_ment (fun st sm hm hst=>?_)|refine v_esto (fun sm hm=>?_)|refine v_rng (fun ri ti hit=>?_)|refine v_clone (fun bc sc hcl=>?_)|refine v_yw ?_|(refine v_make ?_ (fun sv ss hs hln=>?_);omega)|refine ⟨?_,?_,?_⟩|refine ⟨?_,?_⟩|(refine v_tyc ?_ ?_;omega)|(refine v_tycT (by decide +kernel) ?_ ?_;omega)|refine v_tValT (by decide +kernel) ?_|(refine v_tsb ?_ (fun su (And.intro hs hln)=>?_);omega)|refine v_tlk (fun lv hlk=>?_) (fun hlk=>?_)|refine v_tlkT (by decide +kernel) (fun lv hlk=>?_) (fun hlk=>?_)|refine v_tyw ?_|refine v_drawn0 (id:=12) pl10_12 (by kernel_rfl) ?_|fail)
    refine v_callVB (ask_s l h1 true 16 (by decide) (ownAt (h := hba)) (bm := bm) (m := []) (p := []) (sm := [(bm, .map #[] 0)]) ⟨MpAt.new _⟩ (fun w => rfl)) ?_
    rintro v Γ' ⟨m1, sm1, rfl, rfl, hm1, hs1⟩
    (try dsimp only [List.cons_append, List.nil_append])
    repeat' (first | refine stp ?_|(refine v_spT ?_ ?_;omega)|(refine v_spF ?_ ?_;omega)|refine v_spD (fun hc=>?_) (fun hc=>?_)|refine v_spB (fun hc=>?_) (fun hc=>?_)|(refine v_yc ?_ ?_;omega)|refine v_allocA (fun ba sal hal=>?_)|refine v_boxA (fun bb sba hba=>?_)|refine v_storeA (fun ss hs=>?_)|refine v_alloc' (fun ba=>?_)|refine v_box (fun bb=>?_)|refine v_lit (fun bl=>?_)|refine v_makeMap (fun bm=>?_)|(refine v_push ?_ (fun sv ss hs hln=>?_);omega)|(refine v_push0 ?_ (fun sv ss hs=>?_);omega)|(refine v_set ?_ (fun ss hs hln=>?_);omega)|(refine v_cat ?_ (fun sv ss hs hln=>?_);omega)|(refine v_cat0 ?_ (fun sv ss hs=>?_);omega)|(refine v_catN ?_ (fun sv ss hs=>?_);omega)|refine v_put (fun sm hm=>?_)|refine v_del (fun sm hm=>?_)|(refine v_sb ?_ (fun su (And.intro hs hln)=>?_);omega)|refine v_1lk (fun lv hlk=>?_) (fun hlk=>?_)|refine v_ment (fun st sm hm hst=>?_)|refine v_esto (fun sm hm=>?_)|refine v_rng (fun ri ti hit=>?_)|refine v_clone (fun bc sc hcl=>?_)|refine v_yw ?_|(refine v_make ?_ (fun sv ss hs hln=>?_);omega)|refine ⟨?_,?_,?_⟩|refine ⟨?_,?_⟩|(refine v_tyc ?_ ?_;omega)|(refine v_tycT (by decide +kernel) ?_ ?_;omega)|refine v_tValT (by decide +kernel) ?_|(refine v_tsb ?_ (fun su (And.intro hs hln)=>?_);omega)|refine v_tlk (fun lv hlk=>?_) (fun hlk=>?_)|refine v_tlkT (by decide +kernel) (fun lv hlk=>?_) (fun hlk=>?_)|refine v_tyw ?_|refine v_drawn0 (id:=12) pl10_12 (by kernel_rfl) ?_|fail)
    · refine v_o1 Tryd.results10 ⟨iI ?_, rfl⟩ ⟨_, inferInstance⟩
      rw [if_pos hc]
    · have hc1 := Decidable.not_not.1 hc
      refine v_callVB (ask_s l h2 false 17 (by decide) (ownAt (h := hba)) hm1 (hs1 hc1)) ?_
      rintro v Γ' ⟨m2, sm2, rfl, rfl, hm2, hs2⟩
      (try dsimp only [List.cons_append, List.nil_append])
      repeat' (first | refine stp ?_|(refine v_spT ?_ ?_;omega)|(refine v_spF ?_ ?_;omega)|refine v_spD (fun hc=>?_) (fun hc=>?_)|refine v_spB (fun hc=>?_) (fun hc=>?_)|(refine v_yc ?_ ?_;omega)|refine v_allocA (fun ba sal hal=>?_)|refine v_boxA (fun bb sba hba=>?_)|refine v_storeA (fun ss hs=>?_)|refine v_alloc' (fun ba=>?_)|refine v_box (fun bb=>?_)|refine v_lit (fun bl=>?_)|refine v_makeMap (fun bm=>?_)|(refine v_push ?_ (fun sv ss hs hln=>?_);omega)|(refine v_push0 ?_ (fun sv ss hs=>?_);omega)|(refine v_set ?_ (fun ss hs hln=>?_);omega)|(refine v_cat ?_ (fun sv ss hs hln=>?_);omega)|(refine v_cat0 ?_ (fun sv ss hs=>?_);omega)|(refine v_catN ?_ (fun sv ss hs=>?_);omega)|refine v_put (fun sm hm=>?_)|refine v_del (fun sm hm=>?_)|(refine v_sb ?_ (fun su (And.intro hs hln)=>?_);omega)|refine v_1lk (fun lv hlk=>?_) (fun hlk=>?_)|refine v_ment (fun st sm hm hst=>?_)|refine v_esto (fun sm hm=>?_)|refine v_rng (fun ri ti hit=>?_)|refine v_clone (fun bc sc hcl=>?_)|refine v_yw ?_|(refine v_make ?_ (fun sv ss hs hln=>?_);omega)|refine ⟨?_,?_,?_⟩|refine ⟨?_,?_⟩|(refine v_tyc ?_ ?_;omega)|(refine v_tycT (by decide +kernel) ?_ ?_;omega)|refine v_tValT (by decide +kernel) ?_|(refine v_tsb ?_ (fun su (And.intro hs hln)=>?_);omega)|refine v_tlk (fun lv hlk=>?_) (fun hlk=>?_)|refine v_tlkT (by decide +kernel) (fun lv hlk=>?_) (fun hlk=>?_)|refine v_tyw ?_|refine v_drawn0 (id:=12) pl10_12 (by kernel_rfl) ?_|fail)
      · refine v_o1 Tryd.results10 ⟨iI ?_, rfl⟩ ⟨_, inferInstance⟩
        rw [if_neg (by simp [hc1]), if_pos hc]
      · refine v_o1 Tryd.results10 ⟨iI ?_, rfl⟩ ⟨_, inferInstance⟩
        rw [if_neg (by simp [hc1]), if_neg (by assumption), if_pos hc]
      · refine v_o1 Tryd.results10 ⟨iI ?_, rfl⟩ ⟨_, inferInstance⟩
        rw [if_neg (by simp [hc1]), if_neg (by assumption), if_neg hc]
  · have hchk := check_s l
    rw [if_neg hok] at hchk
    have hfe : fitsE l lv jn = _ := if_neg hok
    rw [hfe]
    refine spec_of2 Tryd.func10 Tryd.ntmps10 rfl rfl (fun M w0 => ?_)
    repeat' (first | refine stp ?_|(refine v_spT ?_ ?_;omega)|(refine v_spF ?_ ?_;omega)|refine v_spD (fun hc=>?_) (fun hc=>?_)|refine v_spB (fun hc=>?_) (fun hc=>?_)|(refine v_yc ?_ ?_;omega)|refine v_allocA (fun ba sal hal=>?_)|refine v_boxA (fun bb sba hba=>?_)|refine v_storeA (fun ss hs=>?_)|refine v_alloc' (fun ba=>?_)|refine v_box (fun bb=>?_)|refine v_lit (fun bl=>?_)|refine v_makeMap (fun bm=>?_)|(refine v_push ?_ (fun sv ss hs hln=>?_);omega)|(refine v_push0 ?_ (fun sv ss hs=>?_);omega)|(refine v_set ?_ (fun ss hs hln=>?_);omega)|(refine v_cat ?_ (fun sv ss hs hln=>?_);omega)|(refine v_cat0 ?_ (fun sv ss hs=>?_);omega)|(refine v_catN ?_ (fun sv ss hs=>?_);omega)|refine v_put (fun sm hm=>?_)|refine v_del (fun sm hm=>?_)|(refine v_sb ?_ (fun su (And.intro hs hln)=>?_);omega)|refine v_1lk (fun lv hlk=>?_) (fun hlk=>?_)|refine v_ment (fun st sm hm hst=>?_)|refine v_esto (fun sm hm=>?_)|refine v_rng (fun ri ti hit=>?_)|refine v_clone (fun bc sc hcl=>?_)|refine v_yw ?_|(refine v_make ?_ (fun sv ss hs hln=>?_);omega)|refine ⟨?_,?_,?_⟩|refine ⟨?_,?_⟩|(refine v_tyc ?_ ?_;omega)|(refine v_tycT (by decide +kernel) ?_ ?_;omega)|refine v_tValT (by decide +kernel) ?_|(refine v_tsb ?_ (fun su (And.intro hs hln)=>?_);omega)|refine v_tlk (fun lv hlk=>?_) (fun hlk=>?_)|refine v_tlkT (by decide +kernel) (fun lv hlk=>?_) (fun hlk=>?_)|refine v_tyw ?_|refine v_drawn0 (id:=12) pl10_12 (by kernel_rfl) ?_|fail)
    refine v_o1 Tryd.results10 ⟨rfl, rfl⟩ ⟨_, inferInstance⟩
/-- who is in p, as places -/
def SeenA (a : List Bool) (p : List Int) : Prop := a.length = 256 ∧ ∀ w : Nat, ∀ h : w < a.length, a[w] = decide ((w : Int) ∈ p)
theorem SeenA.zero : SeenA (List.replicate 256 false) [] := ⟨List.length_replicate, fun w hw => (List.getElem_replicate hw).trans (by simp)⟩
theorem er_range {l : List ApiEntry} {on : Bool} {wrong : Int} {p : List Int} {w : Int} (h : er l on wrong p w = 0) : 0 ≤ w ∧ w < 256 := by
  unfold er at h
  by_cases h1 : w < 0 ∨ 256 ≤ w
  · rw [if_pos h1] at h; cases h
  · omega
theorem SeenA.put {a : List Bool} {p : List Int} (h : SeenA a p) {w : Int} (h0 : 0 ≤ w) : SeenA (a.set w.toNat true) (p ++ [w]) := ⟨by rw [List.length_set]; exact h.1, fun u hu => by
  rw [List.getElem_set]
  split
  · rename_i e
    have : (u : Int) = w := by omega
    simp [this]
  · rename_i e
    have hne : (u : Int) ≠ w := by omega
    rw [h.2 u (by simpa using hu)]
    simp [hne]⟩
instance person_s (l : List ApiEntry) [hl : LenIs l 64] (a : List Bool) [ha : LenIs a 256] (w : Int) (on : Bool) : PC Tryd.prog 26 #[rv l, bv a, .int .i64 w, .bool on] (.int .i64 (if w < 0 ∨ 256 ≤ w then 14 else if a.getD w.toNat false = true then 15 else if decide (0 ≤ fnd l w) ≠ on then (if on = true then 16 else 17) else 0)) := ⟨by
  have hll := hl.out
  have hal := ha.out
  refine spec_of4 Tryd.func26 Tryd.ntmps26 rfl rfl (fun M w0 => ?_)
  repeat' (first | refine stp ?_|(refine v_spT ?_ ?_;omega)|(refine v_spF ?_ ?_;omega)|refine v_spD (fun hc=>?_) (fun hc=>?_)|refine v_spB (fun hc=>?_) (fun hc=>?_)|(refine v_yc ?_ ?_;omega)|refine v_allocA (fun ba sal hal=>?_)|refine v_boxA (fun bb sba hba=>?_)|refine v_storeA (fun ss hs=>?_)|refine v_alloc' (fun ba=>?_)|refine v_box (fun bb=>?_)|refine v_lit (fun bl=>?_)|refine v_makeMap (fun bm=>?_)|(refine v_push ?_ (fun sv ss hs hln=>?_);omega)|(refine v_push0 ?_ (fun sv ss hs=>?_);omega)|(refine v_set ?_ (fun ss hs hln=>?_);omega)|(refine v_cat ?_ (fun sv ss hs hln=>?_);omega)|(refine v_cat0 ?_ (fun sv ss hs=>?_);omega)|(refine v_catN ?_ (fun sv ss hs=>?_);omega)|refine v_put (fun sm hm=>?_)|refine v_del (fun sm hm=>?_)|(refine v_sb ?_ (fun su (And.intro hs hln)=>?_);omega)|refine v_1lk (fun lv hlk=>?_) (fun hlk=>?_)|refine v_ment (fun st sm hm hst=>?_)|refine v_esto (fun sm hm=>?_)|refine v_rng (fun ri ti hit=>?_)|refine v_clone (fun bc sc hcl=>?_)|refine v_yw ?_|(refine v_make ?_ (fun sv ss hs hln=>?_);omega)|fail)
  all_goals refine v_o1 Tryd.results26 ⟨iI ?_, rfl⟩ ⟨_, inferInstance⟩
  all_goals first
    | (rw [if_pos (by omega)]; done)
    | (have hgd : a.getD w.toNat false = a[w.toNat]'(by omega) := by rw [List.getD_eq_getElem?_getD, List.getElem?_eq_getElem (by omega)]; rfl
       rw [if_neg (by omega), hgd]
       simp_all
       done)⟩
theorem er_seen {l : List ApiEntry} {on : Bool} {p : List Int} {a : List Bool} (h : SeenA a p) (w : Int) : (if w < 0 ∨ 256 ≤ w then 14 else if a.getD w.toNat false = true then 15 else if decide (0 ≤ fnd l w) ≠ on then (if on = true then 16 else 17) else 0) = er l on (if on = true then 16 else 17) p w := by
  unfold er
  by_cases h1 : w < 0 ∨ 256 ≤ w
  · rw [if_pos h1, if_pos h1]
  · rw [if_neg h1, if_neg h1]
    have hl := h.1
    have hgd : a.getD w.toNat false = decide (w ∈ p) := by
      rw [List.getD_eq_getElem?_getD, List.getElem?_eq_getElem (by omega)]
      have := h.2 w.toNat (by omega)
      rw [show ((w.toNat : Nat) : Int) = w by omega] at this
      simpa using this
    rw [hgd]
    by_cases h2 : w ∈ p
    · simp [h2]
    · simp [h2]
structure FkG where
  i : Nat
  a : List Bool
  s : Hp
structure FkOk (l : List ApiEntry) (on : Bool) (wrong : Int) (p q : List Int) (bm : Nat) (g : FkG) : Prop where
  le : g.i ≤ q.length
  own : OwnS (arr bm 256) 4 Bool 1 bc g.a g.s
  seen : SeenA g.a (p ++ q.take g.i)
  eq : askE l on wrong p q = askE l on wrong (p ++ q.take g.i) (q.drop g.i)
theorem rfits_s (l : List ApiEntry) [hl : LenIs l 64] {u1 u2 : Value} {lv jn : List Int} {s1 s2 : Hp} (h1 : AtS u1 3 Int 1 ic lv s1) (h2 : AtS u2 3 Int 1 ic jn s2) (hb1 : lv.length ≤ 281474976710656) (hb2 : jn.length ≤ 281474976710656) :
    SX.Spec Tryd.prog 11 #[rv l, .agg #[u1, u2]] [s1, s2] [] fun v Γ => v = .int .i64 (fitsE l lv jn) ∧ Γ = [] := by
  have hll := hl.out
  have hcl : (tk l).count true ≤ 64 := by have := List.count_le_length (a := true) (l := tk l); rw [tk_len, hll] at this; exact this
  by_cases hok : RosOk l
  · have hchk := rcheck_s l
    rw [if_pos hok] at hchk
    have hfe : fitsE l lv jn = _ := if_pos hok
    rw [hfe]
    refine spec_of2 Tryd.func11 Tryd.ntmps11 rfl rfl (fun M w0 => ?_)
    repeat' (first | refine stp ?_|(refine v_spT ?_ ?_;omega)|(refine v_spF ?_ ?_;omega)|refine v_spD (fun hc=>?_) (fun hc=>?_)|refine v_spB (fun hc=>?_) (fun hc=>?_)|(refine v_yc ?_ ?_;omega)|refine v_allocA (fun ba sal hal=>?_)|refine v_boxA (fun bb sba hba=>?_)|refine v_storeA (fun ss hs=>?_)|refine v_alloc' (fun ba=>?_)|refine v_box (fun bb=>?_)|refine v_lit (fun bl=>?_)|refine v_makeMap (fun bm=>?_)|(refine v_push ?_ (fun sv ss hs hln=>?_);omega)|(refine v_push0 ?_ (fun sv ss hs=>?_);omega)|(refine v_set ?_ (fun ss hs hln=>?_);omega)|(refine v_cat ?_ (fun sv ss hs hln=>?_);omega)|(refine v_cat0 ?_ (fun sv ss hs=>?_);omega)|(refine v_catN ?_ (fun sv ss hs=>?_);omega)|refine v_put (fun sm hm=>?_)|refine v_del (fun sm hm=>?_)|(refine v_sb ?_ (fun su (And.intro hs hln)=>?_);omega)|refine v_1lk (fun lv hlk=>?_) (fun hlk=>?_)|refine v_ment (fun st sm hm hst=>?_)|refine v_esto (fun sm hm=>?_)|refine v_rng (fun ri ti hit=>?_)|refine v_clone (fun bc sc hcl=>?_)|refine v_yw ?_|(refine v_make ?_ (fun sv ss hs hln=>?_);omega)|refine ⟨?_,?_,?_⟩|refine ⟨?_,?_⟩|(refine v_tyc ?_ ?_;omega)|(refine v_tycT (by decide +kernel) ?_ ?_;omega)|refine v_tValT (by decide +kernel) ?_|(refine v_tsb ?_ (fun su (And.intro hs hln)=>?_);omega)|refine v_tlk (fun lv hlk=>?_) (fun hlk=>?_)|refine v_tlkT (by decide +kernel) (fun lv hlk=>?_) (fun hlk=>?_)|refine v_tyw ?_|refine v_drawn0 (id:=20) pl11_20 (by kernel_rfl) ?_|fail)
    refine v_lp [18] [2, 3, 5, 16, 17] (fun g : FkG => [.int .i64 g.i]) (fun g => [g.s, [(bb, .cells #[u1, u2] 28 (0, 0))], sba]) (FkOk l true 16 [] lv ba) (fun g => lv.length - g.i) ⟨0, _, sal⟩ (fun _ => rfl) rfl inferInstance ⟨Nat.zero_le _, hal, SeenA.zero, by simp⟩ ?_
    clear hal sal
    rintro ⟨i, a, sa⟩ ⟨hi, ha, hsa, he⟩
    dsimp only at hi ha hsa he ⊢
    (try dsimp only [zipE_c, zipE_n, List.cons_append, List.nil_append])
    rcases Nat.lt_or_ge i lv.length with hlt | hge
    · have hat := askE_at (l := l) (on := true) (wrong := 16) (p := []) hlt
      rw [← he] at hat
      have hper := er_seen (l := l) (on := true) hsa lv[i]
      have : LenIs a 256 := ⟨hsa.1⟩
      have hps := person_s l a lv[i] true
      rw [hper, if_pos rfl] at hps
      clear hper
      by_cases her : er l true 16 ([] ++ lv.take i) lv[i] = 0
      · have hrg := er_range her
        have hal := hsa.1
        rw [her] at hps
        repeat' (first | refine stp ?_|(refine v_spT ?_ ?_;omega)|(refine v_spF ?_ ?_;omega)|refine v_spD (fun hc=>?_) (fun hc=>?_)|refine v_spB (fun hc=>?_) (fun hc=>?_)|(refine v_yc ?_ ?_;omega)|refine v_allocA (fun ba sal hal=>?_)|refine v_boxA (fun bb sba hba=>?_)|refine v_storeA (fun ss hs=>?_)|refine v_alloc' (fun ba=>?_)|refine v_box (fun bb=>?_)|refine v_lit (fun bl=>?_)|refine v_makeMap (fun bm=>?_)|(refine v_push ?_ (fun sv ss hs hln=>?_);omega)|(refine v_push0 ?_ (fun sv ss hs=>?_);omega)|(refine v_set ?_ (fun ss hs hln=>?_);omega)|(refine v_cat ?_ (fun sv ss hs hln=>?_);omega)|(refine v_cat0 ?_ (fun sv ss hs=>?_);omega)|(refine v_catN ?_ (fun sv ss hs=>?_);omega)|refine v_put (fun sm hm=>?_)|refine v_del (fun sm hm=>?_)|(refine v_sb ?_ (fun su (And.intro hs hln)=>?_);omega)|refine v_1lk (fun lv hlk=>?_) (fun hlk=>?_)|refine v_ment (fun st sm hm hst=>?_)|refine v_esto (fun sm hm=>?_)|refine v_rng (fun ri ti hit=>?_)|refine v_clone (fun bc sc hcl=>?_)|refine v_yw ?_|(refine v_make ?_ (fun sv ss hs hln=>?_);omega)|refine ⟨?_,?_,?_⟩|refine ⟨?_,?_⟩|(refine v_tyc ?_ ?_;omega)|(refine v_tycT (by decide +kernel) ?_ ?_;omega)|refine v_tValT (by decide +kernel) ?_|(refine v_tsb ?_ (fun su (And.intro hs hln)=>?_);omega)|refine v_tlk (fun lv hlk=>?_) (fun hlk=>?_)|refine v_tlkT (by decide +kernel) (fun lv hlk=>?_) (fun hlk=>?_)|refine v_tyw ?_|refine v_drawn0 (id:=20) pl11_20 (by kernel_rfl) ?_|fail)
        refine v_again ⟨i + 1, _, _⟩ (by dsimp only; omega) rfl inferInstance ⟨hlt, by assumption, ?_, ?_⟩
        · dsimp only
          rw [List.take_add_one, List.getElem?_eq_getElem hlt, Option.toList_some, ← List.append_assoc]
          exact hsa.put hrg.1
        · dsimp only; rw [hat, if_neg (not_not_intro her)]
      · repeat' (first | refine stp ?_|(refine v_spT ?_ ?_;omega)|(refine v_spF ?_ ?_;omega)|refine v_spD (fun hc=>?_) (fun hc=>?_)|refine v_spB (fun hc=>?_) (fun hc=>?_)|(refine v_yc ?_ ?_;omega)|refine v_allocA (fun ba sal hal=>?_)|refine v_boxA (fun bb sba hba=>?_)|refine v_storeA (fun ss hs=>?_)|refine v_alloc' (fun ba=>?_)|refine v_box (fun bb=>?_)|refine v_lit (fun bl=>?_)|refine v_makeMap (fun bm=>?_)|(refine v_push ?_ (fun sv ss hs hln=>?_);omega)|(refine v_push0 ?_ (fun sv ss hs=>?_);omega)|(refine v_set ?_ (fun ss hs hln=>?_);omega)|(refine v_cat ?_ (fun sv ss hs hln=>?_);omega)|(refine v_cat0 ?_ (fun sv ss hs=>?_);omega)|(refine v_catN ?_ (fun sv ss hs=>?_);omega)|refine v_put (fun sm hm=>?_)|refine v_del (fun sm hm=>?_)|(refine v_sb ?_ (fun su (And.intro hs hln)=>?_);omega)|refine v_1lk (fun lv hlk=>?_) (fun hlk=>?_)|refine v_ment (fun st sm hm hst=>?_)|refine v_esto (fun sm hm=>?_)|refine v_rng (fun ri ti hit=>?_)|refine v_clone (fun bc sc hcl=>?_)|refine v_yw ?_|(refine v_make ?_ (fun sv ss hs hln=>?_);omega)|refine ⟨?_,?_,?_⟩|refine ⟨?_,?_⟩|(refine v_tyc ?_ ?_;omega)|(refine v_tycT (by decide +kernel) ?_ ?_;omega)|refine v_tValT (by decide +kernel) ?_|(refine v_tsb ?_ (fun su (And.intro hs hln)=>?_);omega)|refine v_tlk (fun lv hlk=>?_) (fun hlk=>?_)|refine v_tlkT (by decide +kernel) (fun lv hlk=>?_) (fun hlk=>?_)|refine v_tyw ?_|refine v_drawn0 (id:=20) pl11_20 (by kernel_rfl) ?_|fail)
        refine v_o1 Tryd.results11 ⟨iI ?_, rfl⟩ ⟨_, inferInstance⟩
        rw [if_pos her] at hat
        rw [if_pos (by rw [hat]; exact her), hat]
    · rw [List.take_of_length_le hge, List.drop_of_length_le hge] at he
      rw [List.take_of_length_le hge] at hsa
      have he0 : askE l true 16 [] lv = 0 := he
      rw [if_neg (by simp [he0])]
      clear he hfe
      repeat' (first | refine stp ?_|(refine v_spT ?_ ?_;omega)|(refine v_spF ?_ ?_;omega)|refine v_spD (fun hc=>?_) (fun hc=>?_)|refine v_spB (fun hc=>?_) (fun hc=>?_)|(refine v_yc ?_ ?_;omega)|refine v_allocA (fun ba sal hal=>?_)|refine v_boxA (fun bb sba hba=>?_)|refine v_storeA (fun ss hs=>?_)|refine v_alloc' (fun ba=>?_)|refine v_box (fun bb=>?_)|refine v_lit (fun bl=>?_)|refine v_makeMap (fun bm=>?_)|(refine v_push ?_ (fun sv ss hs hln=>?_);omega)|(refine v_push0 ?_ (fun sv ss hs=>?_);omega)|(refine v_set ?_ (fun ss hs hln=>?_);omega)|(refine v_cat ?_ (fun sv ss hs hln=>?_);omega)|(refine v_cat0 ?_ (fun sv ss hs=>?_);omega)|(refine v_catN ?_ (fun sv ss hs=>?_);omega)|refine v_put (fun sm hm=>?_)|refine v_del (fun sm hm=>?_)|(refine v_sb ?_ (fun su (And.intro hs hln)=>?_);omega)|refine v_1lk (fun lv hlk=>?_) (fun hlk=>?_)|refine v_ment (fun st sm hm hst=>?_)|refine v_esto (fun sm hm=>?_)|refine v_rng (fun ri ti hit=>?_)|refine v_clone (fun bc sc hcl=>?_)|refine v_yw ?_|(refine v_make ?_ (fun sv ss hs hln=>?_);omega)|refine ⟨?_,?_,?_⟩|refine ⟨?_,?_⟩|(refine v_tyc ?_ ?_;omega)|(refine v_tycT (by decide +kernel) ?_ ?_;omega)|refine v_tValT (by decide +kernel) ?_|(refine v_tsb ?_ (fun su (And.intro hs hln)=>?_);omega)|refine v_tlk (fun lv hlk=>?_) (fun hlk=>?_)|refine v_tlkT (by decide +kernel) (fun lv hlk=>?_) (fun hlk=>?_)|refine v_tyw ?_|refine v_drawn0 (id:=20) pl11_20 (by kernel_rfl) ?_|fail)
      refine v_lp [35] [2, 3, 5, 33, 34] (fun g : FkG => [.int .i64 g.i]) (fun g => [g.s, [(bb, .cells #[u1, u2] 28 (0, 0))], sba]) (FkOk l false 17 lv jn ba) (fun g => jn.length - g.i) ⟨0, a, sa⟩ (fun _ => rfl) rfl inferInstance ⟨Nat.zero_le _, ha, by simpa using hsa, by simp⟩ ?_
      clear ha hsa hge hi
      rintro ⟨i, a, sa⟩ ⟨hi, ha, hsa, he⟩
      dsimp only at hi ha hsa he ⊢
      (try dsimp only [zipE_c, zipE_n, List.cons_append, List.nil_append])
      rcases Nat.lt_or_ge i jn.length with hlt | hge
      · have hat := askE_at (l := l) (on := false) (wrong := 17) (p := lv) hlt
        rw [← he] at hat
        have hper := er_seen (l := l) (on := false) hsa jn[i]
        have : LenIs a 256 := ⟨hsa.1⟩
        have hps := person_s l a jn[i] false
        rw [hper, if_neg (by decide)] at hps
        clear hper
        by_cases her : er l false 17 (lv ++ jn.take i) jn[i] = 0
        · have hrg := er_range her
          have hal := hsa.1
          rw [her] at hps
          repeat' (first | refine stp ?_|(refine v_spT ?_ ?_;omega)|(refine v_spF ?_ ?_;omega)|refine v_spD (fun hc=>?_) (fun hc=>?_)|refine v_spB (fun hc=>?_) (fun hc=>?_)|(refine v_yc ?_ ?_;omega)|refine v_allocA (fun ba sal hal=>?_)|refine v_boxA (fun bb sba hba=>?_)|refine v_storeA (fun ss hs=>?_)|refine v_alloc' (fun ba=>?_)|refine v_box (fun bb=>?_)|refine v_lit (fun bl=>?_)|refine v_makeMap (fun bm=>?_)|(refine v_push ?_ (fun sv ss hs hln=>?_);omega)|(refine v_push0 ?_ (fun sv ss hs=>?_);omega)|(refine v_set ?_ (fun ss hs hln=>?_);omega)|(refine v_cat ?_ (fun sv ss hs hln=>?_);omega)|(refine v_cat0 ?_ (fun sv ss hs=>?_);omega)|(refine v_catN ?_ (fun sv ss hs=>?_);omega)|refine v_put (fun sm hm=>?_)|refine v_del (fun sm hm=>?_)|(refine v_sb ?_ (fun su (And.intro hs hln)=>?_);omega)|refine v_1lk (fun lv hlk=>?_) (fun hlk=>?_)|refine v_ment (fun st sm hm hst=>?_)|refine v_esto (fun sm hm=>?_)|refine v_rng (fun ri ti hit=>?_)|refine v_clone (fun bc sc hcl=>?_)|refine v_yw ?_|(refine v_make ?_ (fun sv ss hs hln=>?_);omega)|refine ⟨?_,?_,?_⟩|refine ⟨?_,?_⟩|(refine v_tyc ?_ ?_;omega)|(refine v_tycT (by decide +kernel) ?_ ?_;omega)|refine v_tValT (by decide +kernel) ?_|(refine v_tsb ?_ (fun su (And.intro hs hln)=>?_);omega)|refine v_tlk (fun lv hlk=>?_) (fun hlk=>?_)|refine v_tlkT (by decide +kernel) (fun lv hlk=>?_) (fun hlk=>?_)|refine v_tyw ?_|refine v_drawn0 (id:=20) pl11_20 (by kernel_rfl) ?_|fail)
          refine v_again ⟨i + 1, _, _⟩ (by dsimp only; omega) rfl inferInstance ⟨hlt, by assumption, ?_, ?_⟩
          · dsimp only
            rw [List.take_add_one, List.getElem?_eq_getElem hlt, Option.toList_some, ← List.append_assoc]
            exact hsa.put hrg.1
          · dsimp only; rw [hat, if_neg (not_not_intro her)]
        · repeat' (first | refine stp ?_|(refine v_spT ?_ ?_;omega)|(refine v_spF ?_ ?_;omega)|refine v_spD (fun hc=>?_) (fun hc=>?_)|refine v_spB (fun hc=>?_) (fun hc=>?_)|(refine v_yc ?_ ?_;omega)|refine v_allocA (fun ba sal hal=>?_)|refine v_boxA (fun bb sba hba=>?_)|refine v_storeA (fun ss hs=>?_)|refine v_alloc' (fun ba=>?_)|refine v_box (fun bb=>?_)|refine v_lit (fun bl=>?_)|refine v_makeMap (fun bm=>?_)|(refine v_push ?_ (fun sv ss hs hln=>?_);omega)|(refine v_push0 ?_ (fun sv ss hs=>?_);omega)|(refine v_set ?_ (fun ss hs hln=>?_);omega)|(refine v_cat ?_ (fun sv ss hs hln=>?_);omega)|(refine v_cat0 ?_ (fun sv ss hs=>?_);omega)|(refine v_catN ?_ (fun sv ss hs=>?_);omega)|refine v_put (fun sm hm=>?_)|refine v_del (fun sm hm=>?_)|(refine v_sb ?_ (fun su (And.intro hs hln)=>?_);omega)|refine v_1lk (fun lv hlk=>?_) (fun hlk=>?_)|refine v_ment (fun st sm hm hst=>?_)|refine v_esto (fun sm hm=>?_)|refine v_rng (fun ri ti hit=>?_)|refine v_clone (fun bc sc hcl=>?_)|refine v_yw ?_|(refine v_make ?_ (fun sv ss hs hln=>?_);omega)|refine ⟨?_,?_,?_⟩|refine ⟨?_,?_⟩|(refine v_tyc ?_ ?_;omega)|(refine v_tycT (by decide +kernel) ?_ ?_;omega)|refine v_tValT (by decide +kernel) ?_|(refine v_tsb ?_ (fun su (And.intro hs hln)=>?_);omega)|refine v_tlk (fun lv hlk=>?_) (fun hlk=>?_)|refine v_tlkT (by decide +kernel) (fun lv hlk=>?_) (fun hlk=>?_)|refine v_tyw ?_|refine v_drawn0 (id:=20) pl11_20 (by kernel_rfl) ?_|fail)
          refine v_o1 Tryd.results11 ⟨iI ?_, rfl⟩ ⟨_, inferInstance⟩
          rw [if_pos her] at hat
          rw [if_pos (by rw [hat]; exact her), hat]
      · rw [List.take_of_length_le hge, List.drop_of_length_le hge] at he
        have he0' : askE l false 17 lv jn = 0 := he
        rw [if_neg (by simp [he0'])]
        repeat' (first | refine stp ?_|(refine v_spT ?_ ?_;omega)|(refine v_spF ?_ ?_;omega)|refine v_spD (fun hc=>?_) (fun hc=>?_)|refine v_spB (fun hc=>?_) (fun hc=>?_)|(refine v_yc ?_ ?_;omega)|refine v_allocA (fun ba sal hal=>?_)|refine v_boxA (fun bb sba hba=>?_)|refine v_storeA (fun ss hs=>?_)|refine v_alloc' (fun ba=>?_)|refine v_box (fun bb=>?_)|refine v_lit (fun bl=>?_)|refine v_makeMap (fun bm=>?_)|(refine v_push ?_ (fun sv ss hs hln=>?_);omega)|(refine v_push0 ?_ (fun sv ss hs=>?_);omega)|(refine v_set ?_ (fun ss hs hln=>?_);omega)|(refine v_cat ?_ (fun sv ss hs hln=>?_);omega)|(refine v_cat0 ?_ (fun sv ss hs=>?_);omega)|(refine v_catN ?_ (fun sv ss hs=>?_);omega)|refine v_put (fun sm hm=>?_)|refine v_del (fun sm hm=>?_)|(refine v_sb ?_ (fun su (And.intro hs hln)=>?_);omega)|refine v_1lk (fun lv hlk=>?_) (fun hlk=>?_)|refine v_ment (fun st sm hm hst=>?_)|refine v_esto (fun sm hm=>?_)|refine v_rng (fun ri ti hit=>?_)|refine v_clone (fun bc sc hcl=>?_)|refine v_yw ?_|(refine v_make ?_ (fun sv ss hs hln=>?_);omega)|refine ⟨?_,?_,?_⟩|refine ⟨?_,?_⟩|(refine v_tyc ?_ ?_;omega)|(refine v_tycT (by decide +kernel) ?_ ?_;omega)|refine v_tValT (by decide +kernel) ?_|(refine v_tsb ?_ (fun su (And.intro hs hln)=>?_);omega)|refine v_tlk (fun lv hlk=>?_) (fun hlk=>?_)|refine v_tlkT (by decide +kernel) (fun lv hlk=>?_) (fun hlk=>?_)|refine v_tyw ?_|refine v_drawn0 (id:=20) pl11_20 (by kernel_rfl) ?_|fail)
        · refine v_o1 Tryd.results11 ⟨iI ?_, rfl⟩ ⟨_, inferInstance⟩
          rw [if_pos hc]
        · refine v_o1 Tryd.results11 ⟨iI ?_, rfl⟩ ⟨_, inferInstance⟩
          rw [if_neg hc]
  · have hchk := rcheck_s l
    rw [if_neg hok] at hchk
    have hfe : fitsE l lv jn = _ := if_neg hok
    rw [hfe]
    refine spec_of2 Tryd.func11 Tryd.ntmps11 rfl rfl (fun M w0 => ?_)
    repeat' (first | refine stp ?_|(refine v_spT ?_ ?_;omega)|(refine v_spF ?_ ?_;omega)|refine v_spD (fun hc=>?_) (fun hc=>?_)|refine v_spB (fun hc=>?_) (fun hc=>?_)|(refine v_yc ?_ ?_;omega)|refine v_allocA (fun ba sal hal=>?_)|refine v_boxA (fun bb sba hba=>?_)|refine v_storeA (fun ss hs=>?_)|refine v_alloc' (fun ba=>?_)|refine v_box (fun bb=>?_)|refine v_lit (fun bl=>?_)|refine v_makeMap (fun bm=>?_)|(refine v_push ?_ (fun sv ss hs hln=>?_);omega)|(refine v_push0 ?_ (fun sv ss hs=>?_);omega)|(refine v_set ?_ (fun ss hs hln=>?_);omega)|(refine v_cat ?_ (fun sv ss hs hln=>?_);omega)|(refine v_cat0 ?_ (fun sv ss hs=>?_);omega)|(refine v_catN ?_ (fun sv ss hs=>?_);omega)|refine v_put (fun sm hm=>?_)|refine v_del (fun sm hm=>?_)|(refine v_sb ?_ (fun su (And.intro hs hln)=>?_);omega)|refine v_1lk (fun lv hlk=>?_) (fun hlk=>?_)|refine v_ment (fun st sm hm hst=>?_)|refine v_esto (fun sm hm=>?_)|refine v_rng (fun ri ti hit=>?_)|refine v_clone (fun bc sc hcl=>?_)|refine v_yw ?_|(refine v_make ?_ (fun sv ss hs hln=>?_);omega)|refine ⟨?_,?_,?_⟩|refine ⟨?_,?_⟩|(refine v_tyc ?_ ?_;omega)|(refine v_tycT (by decide +kernel) ?_ ?_;omega)|refine v_tValT (by decide +kernel) ?_|(refine v_tsb ?_ (fun su (And.intro hs hln)=>?_);omega)|refine v_tlk (fun lv hlk=>?_) (fun hlk=>?_)|refine v_tlkT (by decide +kernel) (fun lv hlk=>?_) (fun hlk=>?_)|refine v_tyw ?_|refine v_drawn0 (id:=20) pl11_20 (by kernel_rfl) ?_|fail)
    refine v_o1 Tryd.results11 ⟨rfl, rfl⟩ ⟨_, inferInstance⟩
end Go.Proofs.YtedemhmlaodblaaDoor
