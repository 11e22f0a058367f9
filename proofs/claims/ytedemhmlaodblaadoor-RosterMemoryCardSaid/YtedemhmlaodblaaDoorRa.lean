/- Rosters: Right, Check, of the program and of the reference. -/
import Derived.Test.YtedemhmlaodblaaDoorTy
namespace Go.Proofs.YtedemhmlaodblaaDoor
open Go Go.SX Go.RowKit
set_option maxRecDepth 100000
set_option maxHeartbeats 0
set_option synthInstance.maxSize 100000
set_option synthInstance.maxHeartbeats 400000
abbrev ik (x : Int) : Value := .int .i64 x
abbrev ic (x : Int) : List Value := [.int .i64 x]
instance kvtIk (x : Int) : Kvt ik (.int .i64 x) x := ⟨rfl⟩
instance vvtIk (x : Int) : Vvt ik (.int .i64 x) x := ⟨rfl⟩
instance : KInj ik := ⟨fun x y h => by simpa using h⟩
abbrev rv (l : List ApiEntry) : Value := .agg (cvs cvApiEntry l).toArray
abbrev e0 : ApiEntry := ⟨0, 0, 0⟩
def Rt (x : ApiEntry) : Prop := (0 ≤ x.Who ∧ x.Who < 256) ∧ (0 < x.Base ∧ x.Base < 32768) ∧ 0 < x.Since ∧ x.Since ≤ 200
instance (x : ApiEntry) : Decidable (Rt x) := by unfold Rt; infer_instance
instance right_s (x : ApiEntry) : PC Tryd.prog 30 #[avApiEntry x] (.bool (decide (Rt x))) := ⟨by
  refine spec_of1 Tryd.func30 Tryd.ntmps30 rfl rfl (fun M w0 => ?_)
  repeat' (first | refine stp ?_|(refine v_spT ?_ ?_;omega)|(refine v_spF ?_ ?_;omega)|refine v_spD (fun hc=>?_) (fun hc=>?_)|refine v_spB (fun hc=>?_) (fun hc=>?_)|(refine v_yc ?_ ?_;omega)|refine v_allocA (fun ba sal hal=>?_)|refine v_boxA (fun bb sba hba=>?_)|refine v_storeA (fun ss hs=>?_)|refine v_alloc' (fun ba=>?_)|refine v_box (fun bb=>?_)|refine v_lit (fun bl=>?_)|refine v_makeMap (fun bm=>?_)|(refine v_push ?_ (fun sv ss hs hln=>?_);omega)|(refine v_push0 ?_ (fun sv ss hs=>?_);omega)|(refine v_set ?_ (fun ss hs hln=>?_);omega)|(refine v_cat ?_ (fun sv ss hs hln=>?_);omega)|(refine v_cat0 ?_ (fun sv ss hs=>?_);omega)|(refine v_catN ?_ (fun sv ss hs=>?_);omega)|refine v_put (fun sm hm=>?_)|refine v_del (fun sm hm=>?_)|(refine v_sb ?_ (fun su (And.intro hs hln)=>?_);omega)|refine v_1lk (fun lv hlk=>?_) (fun hlk=>?_)|refine v_ment (fun st sm hm hst=>?_)|refine v_esto (fun sm hm=>?_)|refine v_rng (fun ri ti hit=>?_)|refine v_clone (fun bc sc hcl=>?_)|refine v_yw ?_|(refine v_make ?_ (fun sv ss hs hln=>?_);omega)|fail)
  all_goals refine v_out1 (Γk := []) Tryd.results30 ⟨?_, rfl⟩
  all_goals first | (refine bD ?_; unfold Rt; omega) | (refine bF ?_; unfold Rt; omega) | (refine bT ?_; unfold Rt; omega)⟩
instance rright_s (x : ApiEntry) : PC Tryd.prog 31 #[avApiEntry x] (.bool (decide (Rt x))) := ⟨by
  refine spec_of1 Tryd.func31 Tryd.ntmps31 rfl rfl (fun M w0 => ?_)
  repeat' (first | refine stp ?_|(refine v_spT ?_ ?_;omega)|(refine v_spF ?_ ?_;omega)|refine v_spD (fun hc=>?_) (fun hc=>?_)|refine v_spB (fun hc=>?_) (fun hc=>?_)|(refine v_yc ?_ ?_;omega)|refine v_allocA (fun ba sal hal=>?_)|refine v_boxA (fun bb sba hba=>?_)|refine v_storeA (fun ss hs=>?_)|refine v_alloc' (fun ba=>?_)|refine v_box (fun bb=>?_)|refine v_lit (fun bl=>?_)|refine v_makeMap (fun bm=>?_)|(refine v_push ?_ (fun sv ss hs hln=>?_);omega)|(refine v_push0 ?_ (fun sv ss hs=>?_);omega)|(refine v_set ?_ (fun ss hs hln=>?_);omega)|(refine v_cat ?_ (fun sv ss hs hln=>?_);omega)|(refine v_cat0 ?_ (fun sv ss hs=>?_);omega)|(refine v_catN ?_ (fun sv ss hs=>?_);omega)|refine v_put (fun sm hm=>?_)|refine v_del (fun sm hm=>?_)|(refine v_sb ?_ (fun su (And.intro hs hln)=>?_);omega)|refine v_1lk (fun lv hlk=>?_) (fun hlk=>?_)|refine v_ment (fun st sm hm hst=>?_)|refine v_esto (fun sm hm=>?_)|refine v_rng (fun ri ti hit=>?_)|refine v_clone (fun bc sc hcl=>?_)|refine v_yw ?_|(refine v_make ?_ (fun sv ss hs hln=>?_);omega)|fail)
  all_goals refine v_out1 (Γk := []) Tryd.results31 ⟨?_, rfl⟩
  all_goals first | (refine bD ?_; unfold Rt; omega) | (refine bF ?_; unfold Rt; omega) | (refine bT ?_; unfold Rt; omega)⟩
/-- the roster is right -/
structure RosOk (p : List ApiEntry) : Prop where
  rt : ∀ x ∈ p, x ≠ e0 → Rt x
  pw : p.Pairwise fun x y => x ≠ e0 → y ≠ e0 → x.Who ≠ y.Who ∧ x.Base ≠ y.Base
theorem RosOk.nil : RosOk [] := ⟨by simp, List.Pairwise.nil⟩
theorem RosOk.snoc {p : List ApiEntry} {x : ApiEntry} : RosOk (p ++ [x]) ↔ RosOk p ∧ (x ≠ e0 → Rt x ∧ ∀ y ∈ p, y ≠ e0 → y.Who ≠ x.Who ∧ y.Base ≠ x.Base) := by
  constructor
  · rintro ⟨h1, h2⟩
    rw [List.pairwise_append] at h2
    refine ⟨⟨fun y hy => h1 y (List.mem_append_left _ hy), h2.1⟩, fun hx => ⟨h1 x (by simp) hx, fun y hy hye => h2.2.2 y hy x (by simp) hye hx⟩⟩
  · rintro ⟨⟨h1, h2⟩, h3⟩
    refine ⟨fun y hy hye => ?_, ?_⟩
    · rcases List.mem_append.1 hy with hy | hy
      · exact h1 y hy hye
      · simp only [List.mem_singleton] at hy; subst hy; exact (h3 hye).1
    · rw [List.pairwise_append]
      refine ⟨h2, by simp, fun y hy z hz hye hze => ?_⟩
      simp only [List.mem_singleton] at hz; subst hz
      exact (h3 hze).2 y hy hye
theorem RosOk.take {p : List ApiEntry} (h : RosOk p) (i : Nat) : RosOk (p.take i) := ⟨fun x hx => h.rt x (List.mem_of_mem_take hx), h.pw.sublist (List.take_sublist _ _)⟩
instance (p : List ApiEntry) : Decidable (RosOk p) := decidable_of_iff ((∀ x ∈ p, x ≠ e0 → Rt x) ∧ p.Pairwise fun x y => x ≠ e0 → y ≠ e0 → x.Who ≠ y.Who ∧ x.Base ≠ y.Base) ⟨fun ⟨a, b⟩ => ⟨a, b⟩, fun ⟨a, b⟩ => ⟨a, b⟩⟩
/-- how often it stands there -/
def cntW (f : ApiEntry → Int) (p : List ApiEntry) (w : Int) : Nat := (p.filter fun x => decide (x ≠ e0 ∧ f x = w)).length
theorem cntW_snoc (f : ApiEntry → Int) (p : List ApiEntry) (x : ApiEntry) (w : Int) : cntW f (p ++ [x]) w = cntW f p w + (if x ≠ e0 ∧ f x = w then 1 else 0) := by
  unfold cntW
  rw [List.filter_append, List.length_append]
  congr 1
  by_cases h : x ≠ e0 ∧ f x = w
  · rw [if_pos h, List.filter_cons_of_pos (by simpa using h)]; rfl
  · rw [if_neg h, List.filter_cons_of_neg (by simpa using h)]; rfl
theorem cntW_zero {f : ApiEntry → Int} {p : List ApiEntry} {w : Int} : cntW f p w = 0 ↔ ∀ y ∈ p, y ≠ e0 → f y ≠ w := by
  unfold cntW
  rw [List.length_eq_zero_iff, List.filter_eq_nil_iff]
  constructor
  · intro h y hy h0 e; exact h y hy (by simp [h0, e])
  · intro h y hy hd; simp only [decide_eq_true_eq] at hd; exact h y hy hd.1 hd.2
theorem cntW_le (f : ApiEntry → Int) (p : List ApiEntry) (w : Int) : cntW f p w ≤ p.length := List.length_filter_le _ _
structure CkG where
  i : Nat
  m : List (Int × Int)
  s : Hp
  m2 : List (Int × Int)
  s2 : Hp
structure CkOk (l : List ApiEntry) (b b2 : Nat) (g : CkG) : Prop where
  le : g.i ≤ l.length
  own : OwnM b Int Int ik ik g.m g.s
  own2 : OwnM b2 Int Int ik ik g.m2 g.s2
  c1 : ∀ w, (mget g.m w).getD 0 = (cntW (·.Who) (l.take g.i) w : Int)
  c2 : ∀ w, (mget g.m2 w).getD 0 = (cntW (·.Base) (l.take g.i) w : Int)
  ok : RosOk (l.take g.i)
instance check_s (l : List ApiEntry) [hl : LenIs l 64] : PC Tryd.prog 15 #[rv l] (.int .i64 (if RosOk l then 0 else 31)) := ⟨by
  have hll := hl.out
  refine spec_of1 Tryd.func15 Tryd.ntmps15 rfl rfl (fun M w0 => ?_)
  repeat' (first | refine stp ?_|(refine v_spT ?_ ?_;omega)|(refine v_spF ?_ ?_;omega)|refine v_spD (fun hc=>?_) (fun hc=>?_)|refine v_spB (fun hc=>?_) (fun hc=>?_)|(refine v_yc ?_ ?_;omega)|refine v_allocA (fun ba sal hal=>?_)|refine v_boxA (fun bb sba hba=>?_)|refine v_storeA (fun ss hs=>?_)|refine v_alloc' (fun ba=>?_)|refine v_box (fun bb=>?_)|refine v_lit (fun bl=>?_)|refine v_makeMap (fun bm=>?_)|(refine v_push ?_ (fun sv ss hs hln=>?_);omega)|(refine v_push0 ?_ (fun sv ss hs=>?_);omega)|(refine v_set ?_ (fun ss hs hln=>?_);omega)|(refine v_cat ?_ (fun sv ss hs hln=>?_);omega)|(refine v_cat0 ?_ (fun sv ss hs=>?_);omega)|(refine v_catN ?_ (fun sv ss hs=>?_);omega)|refine v_put (fun sm hm=>?_)|refine v_del (fun sm hm=>?_)|(refine v_sb ?_ (fun su (And.intro hs hln)=>?_);omega)|refine v_1lk (fun lv hlk=>?_) (fun hlk=>?_)|refine v_ment (fun st sm hm hst=>?_)|refine v_esto (fun sm hm=>?_)|refine v_rng (fun ri ti hit=>?_)|refine v_clone (fun bc sc hcl=>?_)|refine v_yw ?_|(refine v_make ?_ (fun sv ss hs hln=>?_);omega)|fail)
  rename_i bp
  refine v_lp [10] [3, 4, 9] (fun g : CkG => [.int .i64 g.i]) (fun g => [g.s, g.s2]) (CkOk l bp bm) (fun g => l.length - g.i) ⟨0, [], _, [], _⟩ (fun _ => rfl) rfl inferInstance
    ⟨Nat.zero_le _, ⟨MpAt.new _⟩, ⟨MpAt.new _⟩, fun w => rfl, fun w => rfl, RosOk.nil⟩ ?_
  rintro ⟨i, m, s, m2, s2⟩ ⟨hi, hm1, hm2, hc1, hc2, hok⟩
  dsimp only at hi hm1 hm2 hc1 hc2 hok ⊢
  (try dsimp only [zipE_c, zipE_n, List.cons_append, List.nil_append])
  rcases Nat.lt_or_ge i l.length with hlt | hge
  · have e1 : l.take (i + 1) = l.take i ++ [l[i]] := by rw [List.take_add_one, List.getElem?_eq_getElem hlt]; rfl
    have d1 := fun w => cntW_le (·.Who) (l.take i) w
    have d2 := fun w => cntW_le (·.Base) (l.take i) w
    have hlen : (l.take i).length ≤ 64 := by rw [List.length_take]; omega
    have hw1 : wrap64 ((mget m l[i].Who).getD 0 + 1) = cntW (·.Who) (l.take i) l[i].Who + 1 := by rw [hc1]; have := d1 l[i].Who; unfold wrap64; omega
    have hw2 : wrap64 ((mget m2 l[i].Base).getD 0 + 1) = cntW (·.Base) (l.take i) l[i].Base + 1 := by rw [hc2]; have := d2 l[i].Base; unfold wrap64; omega
    have hbad : RosOk l → l[i] ≠ e0 → Rt l[i] ∧ cntW (·.Who) (l.take i) l[i].Who = 0 ∧ cntW (·.Base) (l.take i) l[i].Base = 0 := fun h hne => by
      have := h.take (i + 1)
      rw [e1, RosOk.snoc] at this
      obtain ⟨h1, h2⟩ := this.2 hne
      exact ⟨h1, cntW_zero.2 fun y hy h0 => (h2 y hy h0).1, cntW_zero.2 fun y hy h0 => (h2 y hy h0).2⟩
    have hnz : ¬(l[i].Who = 0 ∧ l[i].Base = 0 ∧ l[i].Since = 0) → l[i] ≠ e0 := fun h e => h ((iff_ApiEntry _ _).1 e)
    have hgood : l[i] ≠ e0 → Rt l[i] → cntW (·.Who) (l.take i) l[i].Who = 0 → cntW (·.Base) (l.take i) l[i].Base = 0 → RosOk (l.take (i + 1)) := fun hne hr h1 h2 => by
      rw [e1, RosOk.snoc]
      exact ⟨hok, fun _ => ⟨hr, fun y hy h0 => ⟨cntW_zero.1 h1 y hy h0, cntW_zero.1 h2 y hy h0⟩⟩⟩
    repeat' (first | refine stp ?_|(refine v_spT ?_ ?_;omega)|(refine v_spF ?_ ?_;omega)|refine v_spD (fun hc=>?_) (fun hc=>?_)|refine v_spB (fun hc=>?_) (fun hc=>?_)|(refine v_yc ?_ ?_;omega)|refine v_allocA (fun ba sal hal=>?_)|refine v_boxA (fun bb sba hba=>?_)|refine v_storeA (fun ss hs=>?_)|refine v_alloc' (fun ba=>?_)|refine v_box (fun bb=>?_)|refine v_lit (fun bl=>?_)|refine v_makeMap (fun bm=>?_)|(refine v_push ?_ (fun sv ss hs hln=>?_);omega)|(refine v_push0 ?_ (fun sv ss hs=>?_);omega)|(refine v_set ?_ (fun ss hs hln=>?_);omega)|(refine v_cat ?_ (fun sv ss hs hln=>?_);omega)|(refine v_cat0 ?_ (fun sv ss hs=>?_);omega)|(refine v_catN ?_ (fun sv ss hs=>?_);omega)|refine v_put (fun sm hm=>?_)|refine v_del (fun sm hm=>?_)|(refine v_sb ?_ (fun su (And.intro hs hln)=>?_);omega)|refine v_1lk (fun lv hlk=>?_) (fun hlk=>?_)|refine v_ment (fun st sm hm hst=>?_)|refine v_esto (fun sm hm=>?_)|refine v_rng (fun ri ti hit=>?_)|refine v_clone (fun bc sc hcl=>?_)|refine v_yw ?_|(refine v_make ?_ (fun sv ss hs hln=>?_);omega)|fail)
    · have hz : l[i] = e0 := (iff_ApiEntry _ _).2 hc
      refine v_again ⟨i + 1, m, s, m2, s2⟩ (by dsimp only; omega) rfl inferInstance ⟨hlt, hm1, hm2, fun w => ?_, fun w => ?_, ?_⟩
      · dsimp only; rw [e1, cntW_snoc, if_neg (fun h => h.1 hz), hc1]; rfl
      · dsimp only; rw [e1, cntW_snoc, if_neg (fun h => h.1 hz), hc2]; rfl
      · dsimp only; rw [e1, RosOk.snoc]; exact ⟨hok, fun h => absurd hz h⟩
    · refine v_o1 Tryd.results15 ⟨iI ?_, rfl⟩ ⟨_, inferInstance⟩
      rw [if_neg fun h => ?_]
      exact hc (hbad h (hnz (by assumption))).1
    · refine v_o1 Tryd.results15 ⟨iI ?_, rfl⟩ ⟨_, inferInstance⟩
      rw [if_neg fun h => ?_]
      have := (hbad h (hnz (by assumption))).2.1
      omega
    · refine v_o1 Tryd.results15 ⟨iI ?_, rfl⟩ ⟨_, inferInstance⟩
      rw [if_neg fun h => ?_]
      have := (hbad h (hnz (by assumption))).2.2
      omega
    · have hne : l[i] ≠ e0 := hnz (by assumption)
      rw [hw1] at *
      rw [hw2] at *
      refine v_again ⟨i + 1, _, _, _, _⟩ (by dsimp only; omega) rfl inferInstance ⟨hlt, by assumption, by assumption, fun w => ?_, fun w => ?_, hgood hne (Decidable.not_not.1 (by assumption)) (by omega) (by omega)⟩
      · dsimp only; rw [e1, cntW_snoc, mget_mput]
        by_cases e : w = l[i].Who
        · rw [if_pos e, if_pos ⟨hne, e.symm⟩, e]; simp
        · rw [if_neg e, if_neg (fun h => e h.2.symm), hc1]; rfl
      · dsimp only; rw [e1, cntW_snoc, mget_mput]
        by_cases e : w = l[i].Base
        · rw [if_pos e, if_pos ⟨hne, e.symm⟩, e]; simp
        · rw [if_neg e, if_neg (fun h => e h.2.symm), hc2]; rfl
  · repeat' (first | refine stp ?_|(refine v_spT ?_ ?_;omega)|(refine v_spF ?_ ?_;omega)|refine v_spD (fun hc=>?_) (fun hc=>?_)|refine v_spB (fun hc=>?_) (fun hc=>?_)|(refine v_yc ?_ ?_;omega)|refine v_allocA (fun ba sal hal=>?_)|refine v_boxA (fun bb sba hba=>?_)|refine v_storeA (fun ss hs=>?_)|refine v_alloc' (fun ba=>?_)|refine v_box (fun bb=>?_)|refine v_lit (fun bl=>?_)|refine v_makeMap (fun bm=>?_)|(refine v_push ?_ (fun sv ss hs hln=>?_);omega)|(refine v_push0 ?_ (fun sv ss hs=>?_);omega)|(refine v_set ?_ (fun ss hs hln=>?_);omega)|(refine v_cat ?_ (fun sv ss hs hln=>?_);omega)|(refine v_cat0 ?_ (fun sv ss hs=>?_);omega)|(refine v_catN ?_ (fun sv ss hs=>?_);omega)|refine v_put (fun sm hm=>?_)|refine v_del (fun sm hm=>?_)|(refine v_sb ?_ (fun su (And.intro hs hln)=>?_);omega)|refine v_1lk (fun lv hlk=>?_) (fun hlk=>?_)|refine v_ment (fun st sm hm hst=>?_)|refine v_esto (fun sm hm=>?_)|refine v_rng (fun ri ti hit=>?_)|refine v_clone (fun bc sc hcl=>?_)|refine v_yw ?_|(refine v_make ?_ (fun sv ss hs hln=>?_);omega)|fail)
    refine v_o1 Tryd.results15 ⟨iI ?_, rfl⟩ ⟨_, inferInstance⟩
    rw [List.take_of_length_le hge] at hok
    rw [if_pos hok]⟩
theorem RosOk.base {p : List ApiEntry} (h : RosOk p) {y : ApiEntry} (hy : y ∈ p) : y.Base ≠ 0 ↔ y ≠ e0 := by
  constructor
  · intro h0 e; subst e; exact h0 rfl
  · intro h0; have := (h.rt y hy h0).2.1; omega
instance rcheck_s (l : List ApiEntry) [hl : LenIs l 64] : PC Tryd.prog 16 #[rv l] (.int .i64 (if RosOk l then 0 else 31)) := ⟨by
  have hll := hl.out
  refine spec_of1 Tryd.func16 Tryd.ntmps16 rfl rfl (fun M w0 => ?_)
  repeat' (first | refine stp ?_|(refine v_spT ?_ ?_;omega)|(refine v_spF ?_ ?_;omega)|refine v_spD (fun hc=>?_) (fun hc=>?_)|refine v_spB (fun hc=>?_) (fun hc=>?_)|(refine v_yc ?_ ?_;omega)|refine v_allocA (fun ba sal hal=>?_)|refine v_boxA (fun bb sba hba=>?_)|refine v_storeA (fun ss hs=>?_)|refine v_alloc' (fun ba=>?_)|refine v_box (fun bb=>?_)|refine v_lit (fun bl=>?_)|refine v_makeMap (fun bm=>?_)|(refine v_push ?_ (fun sv ss hs hln=>?_);omega)|(refine v_push0 ?_ (fun sv ss hs=>?_);omega)|(refine v_set ?_ (fun ss hs hln=>?_);omega)|(refine v_cat ?_ (fun sv ss hs hln=>?_);omega)|(refine v_cat0 ?_ (fun sv ss hs=>?_);omega)|(refine v_catN ?_ (fun sv ss hs=>?_);omega)|refine v_put (fun sm hm=>?_)|refine v_del (fun sm hm=>?_)|(refine v_sb ?_ (fun su (And.intro hs hln)=>?_);omega)|refine v_1lk (fun lv hlk=>?_) (fun hlk=>?_)|refine v_ment (fun st sm hm hst=>?_)|refine v_esto (fun sm hm=>?_)|refine v_rng (fun ri ti hit=>?_)|refine v_clone (fun bc sc hcl=>?_)|refine v_yw ?_|(refine v_make ?_ (fun sv ss hs hln=>?_);omega)|refine ⟨?_,?_,?_⟩|refine ⟨?_,?_⟩|(refine v_tyc ?_ ?_;omega)|(refine v_tycT (by decide +kernel) ?_ ?_;omega)|refine v_tValT (by decide +kernel) ?_|(refine v_tsb ?_ (fun su (And.intro hs hln)=>?_);omega)|refine v_tlk (fun lv hlk=>?_) (fun hlk=>?_)|refine v_tlkT (by decide +kernel) (fun lv hlk=>?_) (fun hlk=>?_)|refine v_tyw ?_|refine v_drawn0 (id:=10) pl16_10 (by kernel_rfl) ?_|fail)
  refine v_lp [3] [1] (fun i : Nat => [.int .i64 i]) (fun _ => [sba]) (fun i => i ≤ l.length ∧ RosOk (l.take i)) (fun i => l.length - i) 0 (fun _ => rfl) rfl inferInstance ⟨Nat.zero_le _, RosOk.nil⟩ ?_
  rintro i ⟨hi, hok⟩
  (try dsimp only [zipE_c, zipE_n, List.cons_append, List.nil_append])
  rcases Nat.lt_or_ge i l.length with hlt | hge
  · have e1 : l.take (i + 1) = l.take i ++ [l[i]] := by rw [List.take_add_one, List.getElem?_eq_getElem hlt]; rfl
    have hnz : ¬(l[i].Who = 0 ∧ l[i].Base = 0 ∧ l[i].Since = 0) → l[i] ≠ e0 := fun h e => h ((iff_ApiEntry _ _).1 e)
    have hbad : RosOk l → l[i] ≠ e0 → Rt l[i] ∧ ∀ y ∈ l.take i, y ≠ e0 → y.Who ≠ l[i].Who ∧ y.Base ≠ l[i].Base := fun h hne => by
      have := h.take (i + 1)
      rw [e1, RosOk.snoc] at this
      exact this.2 hne
    repeat' (first | refine stp ?_|(refine v_spT ?_ ?_;omega)|(refine v_spF ?_ ?_;omega)|refine v_spD (fun hc=>?_) (fun hc=>?_)|refine v_spB (fun hc=>?_) (fun hc=>?_)|(refine v_yc ?_ ?_;omega)|refine v_allocA (fun ba sal hal=>?_)|refine v_boxA (fun bb sba hba=>?_)|refine v_storeA (fun ss hs=>?_)|refine v_alloc' (fun ba=>?_)|refine v_box (fun bb=>?_)|refine v_lit (fun bl=>?_)|refine v_makeMap (fun bm=>?_)|(refine v_push ?_ (fun sv ss hs hln=>?_);omega)|(refine v_push0 ?_ (fun sv ss hs=>?_);omega)|(refine v_set ?_ (fun ss hs hln=>?_);omega)|(refine v_cat ?_ (fun sv ss hs hln=>?_);omega)|(refine v_cat0 ?_ (fun sv ss hs=>?_);omega)|(refine v_catN ?_ (fun sv ss hs=>?_);omega)|refine v_put (fun sm hm=>?_)|refine v_del (fun sm hm=>?_)|(refine v_sb ?_ (fun su (And.intro hs hln)=>?_);omega)|refine v_1lk (fun lv hlk=>?_) (fun hlk=>?_)|refine v_ment (fun st sm hm hst=>?_)|refine v_esto (fun sm hm=>?_)|refine v_rng (fun ri ti hit=>?_)|refine v_clone (fun bc sc hcl=>?_)|refine v_yw ?_|(refine v_make ?_ (fun sv ss hs hln=>?_);omega)|refine ⟨?_,?_,?_⟩|refine ⟨?_,?_⟩|(refine v_tyc ?_ ?_;omega)|(refine v_tycT (by decide +kernel) ?_ ?_;omega)|refine v_tValT (by decide +kernel) ?_|(refine v_tsb ?_ (fun su (And.intro hs hln)=>?_);omega)|refine v_tlk (fun lv hlk=>?_) (fun hlk=>?_)|refine v_tlkT (by decide +kernel) (fun lv hlk=>?_) (fun hlk=>?_)|refine v_tyw ?_|refine v_drawn0 (id:=10) pl16_10 (by kernel_rfl) ?_|fail)
    · exact v_again (i + 1) (by omega) rfl inferInstance ⟨hlt, by rw [e1, RosOk.snoc]; exact ⟨hok, fun h => absurd ((iff_ApiEntry _ _).2 hc) h⟩⟩
    · refine v_o1 Tryd.results16 ⟨iI ?_, rfl⟩ ⟨_, inferInstance⟩
      rw [if_neg fun h => ?_]
      exact hc (hbad h (hnz (by assumption))).1
    · rename_i hne0
      have hne := hnz hne0
      have hrt := Decidable.not_not.1 hc
      refine v_lp [4] [1, 3] (fun k : Nat => [.int .i64 k]) (fun _ => [sba]) (fun k => k ≤ i ∧ ∀ y ∈ l.take k, y ≠ e0 → y.Who ≠ l[i].Who ∧ y.Base ≠ l[i].Base) (fun k => i - k) 0 (fun _ => rfl) rfl inferInstance ⟨Nat.zero_le _, by simp⟩ ?_
      rintro k ⟨hk, hkk⟩
      (try dsimp only [zipE_c, zipE_n, List.cons_append, List.nil_append])
      rcases Nat.lt_or_ge k i with hlk | hgk
      · have e2 : l.take (k + 1) = l.take k ++ [l[k]] := by rw [List.take_add_one, List.getElem?_eq_getElem (by omega)]; rfl
        have hm : l[k] ∈ l.take i := List.mem_take_iff_getElem.2 ⟨k, by omega, rfl⟩
        have hb := hok.base hm
        repeat' (first | refine stp ?_|(refine v_spT ?_ ?_;omega)|(refine v_spF ?_ ?_;omega)|refine v_spD (fun hc=>?_) (fun hc=>?_)|refine v_spB (fun hc=>?_) (fun hc=>?_)|(refine v_yc ?_ ?_;omega)|refine v_allocA (fun ba sal hal=>?_)|refine v_boxA (fun bb sba hba=>?_)|refine v_storeA (fun ss hs=>?_)|refine v_alloc' (fun ba=>?_)|refine v_box (fun bb=>?_)|refine v_lit (fun bl=>?_)|refine v_makeMap (fun bm=>?_)|(refine v_push ?_ (fun sv ss hs hln=>?_);omega)|(refine v_push0 ?_ (fun sv ss hs=>?_);omega)|(refine v_set ?_ (fun ss hs hln=>?_);omega)|(refine v_cat ?_ (fun sv ss hs hln=>?_);omega)|(refine v_cat0 ?_ (fun sv ss hs=>?_);omega)|(refine v_catN ?_ (fun sv ss hs=>?_);omega)|refine v_put (fun sm hm=>?_)|refine v_del (fun sm hm=>?_)|(refine v_sb ?_ (fun su (And.intro hs hln)=>?_);omega)|refine v_1lk (fun lv hlk=>?_) (fun hlk=>?_)|refine v_ment (fun st sm hm hst=>?_)|refine v_esto (fun sm hm=>?_)|refine v_rng (fun ri ti hit=>?_)|refine v_clone (fun bc sc hcl=>?_)|refine v_yw ?_|(refine v_make ?_ (fun sv ss hs hln=>?_);omega)|refine ⟨?_,?_,?_⟩|refine ⟨?_,?_⟩|(refine v_tyc ?_ ?_;omega)|(refine v_tycT (by decide +kernel) ?_ ?_;omega)|refine v_tValT (by decide +kernel) ?_|(refine v_tsb ?_ (fun su (And.intro hs hln)=>?_);omega)|refine v_tlk (fun lv hlk=>?_) (fun hlk=>?_)|refine v_tlkT (by decide +kernel) (fun lv hlk=>?_) (fun hlk=>?_)|refine v_tyw ?_|refine v_drawn0 (id:=10) pl16_10 (by kernel_rfl) ?_|fail)
        · refine v_o1 Tryd.results16 ⟨iI ?_, rfl⟩ ⟨_, inferInstance⟩
          rw [if_neg fun h => ?_]
          exact ((hbad h hne).2 _ hm (hb.1 (by assumption))).1 hc
        · refine v_o1 Tryd.results16 ⟨iI ?_, rfl⟩ ⟨_, inferInstance⟩
          rw [if_neg fun h => ?_]
          exact ((hbad h hne).2 _ hm (hb.1 (by assumption))).2 hc
        · refine v_again (k + 1) (by omega) rfl inferInstance ⟨hlk, fun y hy h0 => ?_⟩
          rw [e2, List.mem_append, List.mem_singleton] at hy
          rcases hy with hy | rfl
          · exact hkk y hy h0
          · exact ⟨by assumption, hc⟩
        · refine v_again (k + 1) (by omega) rfl inferInstance ⟨hlk, fun y hy h0 => ?_⟩
          rw [e2, List.mem_append, List.mem_singleton] at hy
          rcases hy with hy | rfl
          · exact hkk y hy h0
          · exact absurd (hb.2 h0) hc
      · repeat' (first | refine stp ?_|(refine v_spT ?_ ?_;omega)|(refine v_spF ?_ ?_;omega)|refine v_spD (fun hc=>?_) (fun hc=>?_)|refine v_spB (fun hc=>?_) (fun hc=>?_)|(refine v_yc ?_ ?_;omega)|refine v_allocA (fun ba sal hal=>?_)|refine v_boxA (fun bb sba hba=>?_)|refine v_storeA (fun ss hs=>?_)|refine v_alloc' (fun ba=>?_)|refine v_box (fun bb=>?_)|refine v_lit (fun bl=>?_)|refine v_makeMap (fun bm=>?_)|(refine v_push ?_ (fun sv ss hs hln=>?_);omega)|(refine v_push0 ?_ (fun sv ss hs=>?_);omega)|(refine v_set ?_ (fun ss hs hln=>?_);omega)|(refine v_cat ?_ (fun sv ss hs hln=>?_);omega)|(refine v_cat0 ?_ (fun sv ss hs=>?_);omega)|(refine v_catN ?_ (fun sv ss hs=>?_);omega)|refine v_put (fun sm hm=>?_)|refine v_del (fun sm hm=>?_)|(refine v_sb ?_ (fun su (And.intro hs hln)=>?_);omega)|refine v_1lk (fun lv hlk=>?_) (fun hlk=>?_)|refine v_ment (fun st sm hm hst=>?_)|refine v_esto (fun sm hm=>?_)|refine v_rng (fun ri ti hit=>?_)|refine v_clone (fun bc sc hcl=>?_)|refine v_yw ?_|(refine v_make ?_ (fun sv ss hs hln=>?_);omega)|refine ⟨?_,?_,?_⟩|refine ⟨?_,?_⟩|(refine v_tyc ?_ ?_;omega)|(refine v_tycT (by decide +kernel) ?_ ?_;omega)|refine v_tValT (by decide +kernel) ?_|(refine v_tsb ?_ (fun su (And.intro hs hln)=>?_);omega)|refine v_tlk (fun lv hlk=>?_) (fun hlk=>?_)|refine v_tlkT (by decide +kernel) (fun lv hlk=>?_) (fun hlk=>?_)|refine v_tyw ?_|refine v_drawn0 (id:=10) pl16_10 (by kernel_rfl) ?_|fail)
        refine v_again (i + 1) (by omega) rfl inferInstance ⟨hlt, ?_⟩
        obtain rfl : k = i := by omega
        rw [e1, RosOk.snoc]
        exact ⟨hok, fun _ => ⟨hrt, hkk⟩⟩
  · repeat' (first | refine stp ?_|(refine v_spT ?_ ?_;omega)|(refine v_spF ?_ ?_;omega)|refine v_spD (fun hc=>?_) (fun hc=>?_)|refine v_spB (fun hc=>?_) (fun hc=>?_)|(refine v_yc ?_ ?_;omega)|refine v_allocA (fun ba sal hal=>?_)|refine v_boxA (fun bb sba hba=>?_)|refine v_storeA (fun ss hs=>?_)|refine v_alloc' (fun ba=>?_)|refine v_box (fun bb=>?_)|refine v_lit (fun bl=>?_)|refine v_makeMap (fun bm=>?_)|(refine v_push ?_ (fun sv ss hs hln=>?_);omega)|(refine v_push0 ?_ (fun sv ss hs=>?_);omega)|(refine v_set ?_ (fun ss hs hln=>?_);omega)|(refine v_cat ?_ (fun sv ss hs hln=>?_);omega)|(refine v_cat0 ?_ (fun sv ss hs=>?_);omega)|(refine v_catN ?_ (fun sv ss hs=>?_);omega)|refine v_put (fun sm hm=>?_)|refine v_del (fun sm hm=>?_)|(refine v_sb ?_ (fun su (And.intro hs hln)=>?_);omega)|refine v_1lk (fun lv hlk=>?_) (fun hlk=>?_)|refine v_ment (fun st sm hm hst=>?_)|refine v_esto (fun sm hm=>?_)|refine v_rng (fun ri ti hit=>?_)|refine v_clone (fun bc sc hcl=>?_)|refine v_yw ?_|(refine v_make ?_ (fun sv ss hs hln=>?_);omega)|refine ⟨?_,?_,?_⟩|refine ⟨?_,?_⟩|(refine v_tyc ?_ ?_;omega)|(refine v_tycT (by decide +kernel) ?_ ?_;omega)|refine v_tValT (by decide +kernel) ?_|(refine v_tsb ?_ (fun su (And.intro hs hln)=>?_);omega)|refine v_tlk (fun lv hlk=>?_) (fun hlk=>?_)|refine v_tlkT (by decide +kernel) (fun lv hlk=>?_) (fun hlk=>?_)|refine v_tyw ?_|refine v_drawn0 (id:=10) pl16_10 (by kernel_rfl) ?_|fail)
    refine v_o1 Tryd.results16 ⟨iI ?_, rfl⟩ ⟨_, inferInstance⟩
    rw [List.take_of_length_le hge] at hok
    rw [if_pos hok]⟩
end Go.Proofs.YtedemhmlaodblaaDoor
