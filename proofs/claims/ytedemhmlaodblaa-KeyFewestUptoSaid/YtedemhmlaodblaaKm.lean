/- key.Least and its reference. -/
import Derived.Test.YtedemhmlaodblaaKq
import Derived.Test.YtedemhmlaodblaaKf
import Derived.Test.YtedemhmlaodblaaSf
namespace Go.Proofs.Ytedemhmlaodblaa
open Go Go.SX Go.RowKit Go.Shelf Go.Sort
set_option maxRecDepth 100000
set_option linter.unusedSimpArgs false
set_option linter.unusedVariables false
set_option maxHeartbeats 0
set_option synthInstance.maxSize 100000
set_option synthInstance.maxHeartbeats 400000
/-- the least step of a base -/
def LB (l : List ApiKey) (b : Int) : Option Int → Prop
  | none => ∀ y ∈ l, Gd y.Base y.Step → y.Base ≠ b
  | some s => (∃ y ∈ l, Gd y.Base y.Step ∧ y.Base = b ∧ y.Step = s) ∧ ∀ y ∈ l, Gd y.Base y.Step → y.Base = b → s ≤ y.Step
theorem LB.nil (b : Int) : LB [] b none := fun y h => by simp at h
theorem LB.skip {l : List ApiKey} {b : Int} {o : Option Int} {x : ApiKey} (h : LB l b o) (hx : Gd x.Base x.Step → x.Base ≠ b) : LB (l ++ [x]) b o := by
  cases o with
  | none =>
    intro y hy g
    rcases List.mem_append.1 hy with hy | hy
    · exact h y hy g
    · simp only [List.mem_singleton] at hy; subst hy; exact hx g
  | some s =>
    obtain ⟨⟨y, h1, h2⟩, h3⟩ := h
    refine ⟨⟨y, List.mem_append_left _ h1, h2⟩, fun z hz g e => ?_⟩
    rcases List.mem_append.1 hz with hz | hz
    · exact h3 z hz g e
    · simp only [List.mem_singleton] at hz; subst hz; exact absurd e (hx g)
theorem LB.take {l : List ApiKey} {o : Option Int} {x : ApiKey} (h : LB l x.Base o) (hx : Gd x.Base x.Step) (hl : ∀ s, o = some s → x.Step < s) : LB (l ++ [x]) x.Base (some x.Step) := by
  refine ⟨⟨x, by simp, hx, rfl, rfl⟩, fun z hz g e => ?_⟩
  rcases List.mem_append.1 hz with hz | hz
  · cases o with
    | none => exact absurd e (h z hz g)
    | some s => have := h.2 z hz g e; have := hl s rfl; omega
  · simp only [List.mem_singleton] at hz; subst hz; omega
theorem LB.keep {l : List ApiKey} {s : Int} {x : ApiKey} (h : LB l x.Base (some s)) (hl : s ≤ x.Step) : LB (l ++ [x]) x.Base (some s) := by
  obtain ⟨⟨y, h1, h2⟩, h3⟩ := h
  refine ⟨⟨y, List.mem_append_left _ h1, h2⟩, fun z hz g e => ?_⟩
  rcases List.mem_append.1 hz with hz | hz
  · exact h3 z hz g e
  · simp only [List.mem_singleton] at hz; subst hz; omega
/-- of each base the least, rising -/
structure LeastOf (l out : List ApiKey) : Prop where
  up : (out.map (·.Base)).Pairwise (· < ·)
  iff : ∀ x, x ∈ out ↔ LB l x.Base (some x.Step)
theorem up_uniq : ∀ {l l' : List ApiKey}, (l.map (·.Base)).Pairwise (· < ·) → (l'.map (·.Base)).Pairwise (· < ·) → (∀ x, x ∈ l ↔ x ∈ l') → l = l'
  | [], [], _, _, _ => rfl
  | [], y :: _, _, _, h => by have := (h y).2 (by simp); simp at this
  | x :: _, [], _, _, h => by have := (h x).1 (by simp); simp at this
  | x :: l, y :: l', h1, h2, h => by
    simp only [List.map_cons, List.pairwise_cons, List.mem_map] at h1 h2
    have hlt : ∀ z ∈ l, x.Base < z.Base := fun z hz => h1.1 _ ⟨z, hz, rfl⟩
    have hlt' : ∀ z ∈ l', y.Base < z.Base := fun z hz => h2.1 _ ⟨z, hz, rfl⟩
    have e : x = y := by
      have a := (h x).1 (by simp)
      have b := (h y).2 (by simp)
      rcases List.mem_cons.1 a with a | a
      · exact a
      · rcases List.mem_cons.1 b with b | b
        · exact b.symm
        · have := hlt y b; have := hlt' x a; omega
    subst e
    rw [up_uniq (l := l) (l' := l') h1.2 h2.2 fun z => ?_]
    have := h z
    simp only [List.mem_cons] at this
    constructor
    · intro hz
      rcases this.1 (.inr hz) with rfl | h'
      · have := hlt z hz; omega
      · exact h'
    · intro hz
      rcases this.2 (.inr hz) with rfl | h'
      · have := hlt' z hz; omega
      · exact h'
theorem LeastOf.uniq {l out out' : List ApiKey} (h : LeastOf l out) (h' : LeastOf l out') : out = out' := up_uniq h.up h'.up fun x => (h.iff x).trans (h'.iff x).symm
theorem LB.one {l : List ApiKey} {b s : Int} {o : Option Int} (h : LB l b o) (h' : LB l b (some s)) : o = some s := by
  obtain ⟨⟨y, h1, h2, h3, h4⟩, h5⟩ := h'
  cases o with
  | none => exact absurd h3 (h y h1 h2)
  | some t =>
    obtain ⟨⟨z, g1, g2, g3, g4⟩, g5⟩ := h
    have := h5 z g1 g2 g3
    have := g5 y h1 h2 h3
    congr 1; omega
theorem mput_len {α β : Type} [DecidableEq α] (m : List (α × β)) (k : α) (v : β) : (mput m k v).length ≤ m.length + 1 := by
  by_cases h : k ∈ m.map (·.1)
  · have := congrArg List.length (mput_keys (v := v) h)
    simp only [List.length_map] at this; omega
  · rw [mput_new h]; simp
theorem mdel_len {α β : Type} [DecidableEq α] {m : List (α × β)} {k : α} {v : β} (hn : (m.map (·.1)).Nodup) (h : (k, v) ∈ m) : (mdel m k).length + 1 = m.length := by
  obtain ⟨j, hj, he⟩ := List.getElem_of_mem h
  rw [mdel_erase hn (j := j) (by rw [List.getElem?_map, List.getElem?_eq_getElem hj, he]; rfl), List.length_eraseIdx_of_lt hj]
  omega
theorem mput_mem {α β : Type} [DecidableEq α] {m : List (α × β)} (hn : (m.map (·.1)).Nodup) {k : α} {v : β} {p : α × β} (h : p ∈ mput m k v) : p ∈ m ∨ p = (k, v) := by
  have h1 := mem_mget (mput_nodup (k := k) (v := v) hn) (k := p.1) (v := p.2) h
  rw [mget_mput] at h1
  split at h1
  · rename_i e
    right
    cases p; simp only at e h1; subst e; cases h1; rfl
  · left; exact mget_mem h1
theorem ltK (x y : ApiKey) : ltOf cmpK x y = decide (x.Base < y.Base ∨ x.Base = y.Base ∧ x.Step < y.Step) := by
  unfold ltOf cmpK cmpI
  refine decide_eq_decide.2 ?_
  repeat' split
  all_goals omega
theorem swoK : SWO (ltOf cmpK) where
  irrefl x := by rw [ltK]; simp
  trans x y z h1 h2 := by rw [ltK] at *; simp at *; omega
  ntrans x y z h1 h2 := by rw [ltK] at *; simp at *; omega
theorem totK (x y : ApiKey) (h1 : ltOf cmpK x y = false) (h2 : ltOf cmpK y x = false) : x = y := by
  rw [ltK] at h1 h2
  simp at h1 h2
  exact (iff_ApiKey x y).2 ⟨by omega, by omega⟩
instance : Inhabited ApiKey := ⟨⟨0, 0⟩⟩
theorem sortK_s {v : Value} {l : List ApiKey} {s : Hp} (h : OwnS v 25 ApiKey 2 cvApiKey l s) (hll : l.length < 4611686018427387904) : SX.Spec Try.prog 38 #[v, .func (.func 39) #[] #[]] [] [s] fun u Γ => u = .tuple #[] ∧ ∃ s', Γ = [s'] ∧ OwnS v 25 ApiKey 2 cvApiKey (l.mergeSort fun x y => !(ltOf cmpK) y x) s' :=
  sortFunc_s sortFn (by decide) ((inferInstance : Ag Try.prog 25 2).out.1) ((inferInstance : Ag Try.prog 25 2).out.2) (fun _ => rfl) (fun x v hv => by simp [cvApiKey] at hv; rcases hv with rfl | rfl <;> rfl) cmpK swoK totK 39 (enters_of Try.func39 (by kernel_rfl) rfl) (fun x y => (keyCompare_s x.Base x.Step y.Base y.Step).out) h hll
theorem sort_up {l : List ApiKey} (h : (l.map (·.Base)).Nodup) : ((l.mergeSort fun x y => !(ltOf cmpK) y x).map (·.Base)).Pairwise (· < ·) := by
  have tr : ∀ a b c : ApiKey, (!(ltOf cmpK) b a) = true → (!(ltOf cmpK) c b) = true → (!(ltOf cmpK) c a) = true := fun a b c h1 h2 => by
    rw [ltK] at *; simp at *; omega
  have to : ∀ a b : ApiKey, ((!(ltOf cmpK) b a) || (!(ltOf cmpK) a b)) = true := fun a b => by
    rw [ltK, ltK]; simp; omega
  have h1 := List.pairwise_mergeSort tr to l
  have h2 : ((l.mergeSort fun x y => !(ltOf cmpK) y x).map (·.Base)).Nodup := ((List.mergeSort_perm l fun x y => !(ltOf cmpK) y x).map fun x : ApiKey => x.Base).nodup_iff.2 h
  rw [List.Nodup, List.pairwise_map] at h2
  rw [List.pairwise_map]
  exact (h1.and h2).imp fun {a b} ⟨h3, h4⟩ => by rw [ltK] at h3; simp at h3; omega
structure LkG where
  j : Nat
  m : List (ApiKey × Int)
  s : Hp
structure LkOk (l : List ApiKey) (b : Nat) (g : LkG) : Prop where
  le : g.j ≤ l.length
  own : OwnM b ApiKey Int avApiKey ik g.m g.s
  lb : ∀ b, LB (l.take g.j) b (mget g.m ⟨b, 0⟩)
  st : ∀ p ∈ g.m, p.1.Step = 0
  len : g.m.length ≤ g.j
structure LmG where
  ov : Value
  ol : List ApiKey
  os : Hp
  left : List (ApiKey × Int)
  ts : Hp
structure LmOk (m : List (ApiKey × Int)) (ms : Hp) (bm ri : Nat) (g : LmG) : Prop where
  it : Itr ri bm ApiKey Int avApiKey ik m ms g.left g.ts
  own : OwnS g.ov 25 ApiKey 2 cvApiKey g.ol g.os
  mem : ∀ x, x ∈ g.ol ↔ mget m ⟨x.Base, 0⟩ = some x.Step ∧ mget g.left ⟨x.Base, 0⟩ = none
  nd : (g.ol.map (·.Base)).Nodup
  lnd : (g.left.map (·.1)).Nodup
  sum : g.ol.length + g.left.length = m.length
theorem least_s {uv : Value} {l : List ApiKey} {s : Hp} (hu : AtS uv 25 ApiKey 2 cvApiKey l s) (hb : l.length * 16 ≤ 140737488355328) :
    SX.Spec Try.prog 11 #[uv] [s] [] fun v Γ => ∃ out so, OwnS v 25 ApiKey 2 cvApiKey out so ∧ Γ = [so] ∧ LeastOf l out ∧ out.length ≤ l.length := by
  refine spec_of1 Try.func11 Try.ntmps11 rfl rfl (fun M w0 => ?_)
  repeat' (first | refine stp ?_|(refine v_spT ?_ ?_;omega)|(refine v_spF ?_ ?_;omega)|refine v_spD (fun hc=>?_) (fun hc=>?_)|refine v_spB (fun hc=>?_) (fun hc=>?_)|(refine v_yc ?_ ?_;omega)|refine v_alloc' (fun ba=>?_)|refine v_box (fun bb=>?_)|refine v_lit (fun bl=>?_)|refine v_makeMap (fun bm=>?_)|(refine v_push ?_ (fun sv ss hs hln=>?_);omega)|(refine v_push0 ?_ (fun sv ss hs=>?_);omega)|(refine v_set ?_ (fun ss hs hln=>?_);omega)|(refine v_cat ?_ (fun sv ss hs hln=>?_);omega)|(refine v_cat0 ?_ (fun sv ss hs=>?_);omega)|(refine v_catN ?_ (fun sv ss hs=>?_);omega)|refine v_put (fun sm hm=>?_)|refine v_del (fun sm hm=>?_)|(refine v_sb ?_ (fun su (And.intro hs hln)=>?_);omega)|refine v_1lk (fun lv hlk=>?_) (fun hlk=>?_)|refine v_ment (fun st sm hm hst=>?_)|refine v_esto (fun sm hm=>?_)|refine v_rng (fun ri ti hit=>?_)|refine v_clone (fun bc sc hcl=>?_)|refine v_yw ?_|(refine v_make ?_ (fun sv ss hs hln=>?_);omega)|fail)
  refine v_lp [15] [3, 13, 14] (fun g : LkG => [.int .i64 g.j]) (fun g => [g.s]) (LkOk l bm) (fun g => l.length - g.j) ⟨0, [], _⟩ (fun _ => rfl) rfl inferInstance
    ⟨Nat.zero_le _, ⟨MpAt.new _⟩, fun b => LB.nil b, by simp, Nat.le_refl _⟩ ?_
  rintro ⟨j, m, ms⟩ ⟨hj, hm, hlb, hst, hln⟩
  dsimp only at hj hm hlb hst hln ⊢
  (try dsimp only [zipE_c, zipE_n, List.cons_append, List.nil_append])
  rcases Nat.lt_or_ge j l.length with hlt | hge
  · have e1 : l.take (j + 1) = l.take j ++ [l[j]] := by rw [List.take_add_one, List.getElem?_eq_getElem hlt]; rfl
    have hnm : (m.map (·.1)).Nodup := hm.nodup
    have hput : LB (l.take j ++ [l[j]]) l[j].Base (some l[j].Step) → LkOk l bm ⟨j + 1, mput m ⟨l[j].Base, 0⟩ l[j].Step, ms⟩ ∨ True := fun _ => .inr trivial
    clear hput
    have hp : Gd l[j].Base l[j].Step → (∀ s, mget m ⟨l[j].Base, 0⟩ = some s → l[j].Step < s) → (∀ b, LB (l.take (j + 1)) b (mget (mput m ⟨l[j].Base, 0⟩ l[j].Step) ⟨b, 0⟩)) ∧ (∀ p ∈ mput m ⟨l[j].Base, 0⟩ l[j].Step, p.1.Step = 0) ∧ (mput m (⟨l[j].Base, 0⟩ : ApiKey) l[j].Step).length ≤ j + 1 := fun g hs => by
      refine ⟨fun b => ?_, fun p hp => ?_, Nat.le_trans (mput_len _ _ _) (by omega)⟩
      · rw [e1, mget_mput]
        split
        · rename_i e
          have e : b = l[j].Base := congrArg (·.Base) e
          subst e
          exact (hlb _).take g hs
        · rename_i e
          exact (hlb _).skip fun _ e' => e (by rw [e'])
      · rcases mput_mem hnm hp with hp | rfl
        · exact hst p hp
        · rfl
    repeat' (first | refine stp ?_|(refine v_spT ?_ ?_;omega)|(refine v_spF ?_ ?_;omega)|refine v_spD (fun hc=>?_) (fun hc=>?_)|refine v_spB (fun hc=>?_) (fun hc=>?_)|(refine v_yc ?_ ?_;omega)|refine v_alloc' (fun ba=>?_)|refine v_box (fun bb=>?_)|refine v_lit (fun bl=>?_)|refine v_makeMap (fun bm=>?_)|(refine v_push ?_ (fun sv ss hs hln=>?_);omega)|(refine v_push0 ?_ (fun sv ss hs=>?_);omega)|(refine v_set ?_ (fun ss hs hln=>?_);omega)|(refine v_cat ?_ (fun sv ss hs hln=>?_);omega)|(refine v_cat0 ?_ (fun sv ss hs=>?_);omega)|(refine v_catN ?_ (fun sv ss hs=>?_);omega)|refine v_put (fun sm hm=>?_)|refine v_del (fun sm hm=>?_)|(refine v_sb ?_ (fun su (And.intro hs hln)=>?_);omega)|refine v_1lk (fun lv hlk=>?_) (fun hlk=>?_)|refine v_ment (fun st sm hm hst=>?_)|refine v_esto (fun sm hm=>?_)|refine v_rng (fun ri ti hit=>?_)|refine v_clone (fun bc sc hcl=>?_)|refine v_yw ?_|(refine v_make ?_ (fun sv ss hs hln=>?_);omega)|fail)
    · exact v_again ⟨j + 1, m, ms⟩ (by dsimp only; omega) rfl inferInstance ⟨hlt, hm, fun b => by dsimp only; rw [e1]; exact (hlb b).skip fun g => absurd g hc, hst, by dsimp only; omega⟩
    · obtain ⟨p1, p2, p3⟩ := hp (Decidable.not_not.1 (by assumption)) (fun s e => by rw [hlk] at e; cases e; exact hc)
      exact v_again ⟨j + 1, _, sm⟩ (by dsimp only; omega) rfl inferInstance ⟨hlt, hm, p1, p2, p3⟩
    · refine v_again ⟨j + 1, m, ms⟩ (by dsimp only; omega) rfl inferInstance ⟨hlt, hm, fun b => ?_, hst, by dsimp only; omega⟩
      dsimp only
      rw [e1]
      by_cases e : b = l[j].Base
      · subst e
        have := hlb l[j].Base
        rw [hlk] at this ⊢
        exact this.keep (by omega)
      · exact (hlb b).skip fun _ e' => e e'.symm
    · obtain ⟨p1, p2, p3⟩ := hp (Decidable.not_not.1 hc) (fun s e => by rw [hlk] at e; cases e)
      exact v_again ⟨j + 1, _, sm⟩ (by dsimp only; omega) rfl inferInstance ⟨hlt, hm, p1, p2, p3⟩
  · obtain rfl : j = l.length := by omega
    have hnm : (m.map (·.1)).Nodup := hm.nodup
    rw [List.take_of_length_le (Nat.le_refl _)] at hlb
    repeat' (first | refine stp ?_|(refine v_spT ?_ ?_;omega)|(refine v_spF ?_ ?_;omega)|refine v_spD (fun hc=>?_) (fun hc=>?_)|refine v_spB (fun hc=>?_) (fun hc=>?_)|(refine v_yc ?_ ?_;omega)|refine v_alloc' (fun ba=>?_)|refine v_box (fun bb=>?_)|refine v_lit (fun bl=>?_)|refine v_makeMap (fun bm=>?_)|(refine v_push ?_ (fun sv ss hs hln=>?_);omega)|(refine v_push0 ?_ (fun sv ss hs=>?_);omega)|(refine v_set ?_ (fun ss hs hln=>?_);omega)|(refine v_cat ?_ (fun sv ss hs hln=>?_);omega)|(refine v_cat0 ?_ (fun sv ss hs=>?_);omega)|(refine v_catN ?_ (fun sv ss hs=>?_);omega)|refine v_put (fun sm hm=>?_)|refine v_del (fun sm hm=>?_)|(refine v_sb ?_ (fun su (And.intro hs hln)=>?_);omega)|refine v_1lk (fun lv hlk=>?_) (fun hlk=>?_)|refine v_ment (fun st sm hm hst=>?_)|refine v_esto (fun sm hm=>?_)|refine v_rng (fun ri ti hit=>?_)|refine v_clone (fun bc sc hcl=>?_)|refine v_yw ?_|(refine v_make ?_ (fun sv ss hs hln=>?_);omega)|fail)
    refine v_lp [9] [45] (fun g : LmG => [g.ov]) (fun g => [g.os, g.ts]) (LmOk m ms bm ri) (fun g => g.left.length) ⟨.slice none 0 0, [], [], m, ti⟩ (fun _ => rfl) rfl inferInstance
      ⟨hit, OwnS.nil, fun x => ?_, List.nodup_nil, hnm, Nat.zero_add _⟩ ?_
    · constructor
      · intro h; simp at h
      · rintro ⟨h1, h2⟩; rw [h1] at h2; cases h2
    clear hit
    rintro ⟨ov, ol, os, left, ts⟩ ⟨hit, how, hmem, hnd, hln2, hsum⟩
    dsimp only at hit how hmem hnd hln2 hsum ⊢
    (try dsimp only [zipE_c, zipE_n, List.cons_append, List.nil_append])
    repeat' (first | refine stp ?_|(refine v_spT ?_ ?_;omega)|(refine v_spF ?_ ?_;omega)|refine v_spD (fun hc=>?_) (fun hc=>?_)|refine v_spB (fun hc=>?_) (fun hc=>?_)|(refine v_yc ?_ ?_;omega)|refine v_alloc' (fun ba=>?_)|refine v_box (fun bb=>?_)|refine v_lit (fun bl=>?_)|refine v_makeMap (fun bm=>?_)|(refine v_push ?_ (fun sv ss hs hln=>?_);omega)|(refine v_push0 ?_ (fun sv ss hs=>?_);omega)|(refine v_set ?_ (fun ss hs hln=>?_);omega)|(refine v_cat ?_ (fun sv ss hs hln=>?_);omega)|(refine v_cat0 ?_ (fun sv ss hs=>?_);omega)|(refine v_catN ?_ (fun sv ss hs=>?_);omega)|refine v_put (fun sm hm=>?_)|refine v_del (fun sm hm=>?_)|(refine v_sb ?_ (fun su (And.intro hs hln)=>?_);omega)|refine v_1lk (fun lv hlk=>?_) (fun hlk=>?_)|refine v_ment (fun st sm hm hst=>?_)|refine v_esto (fun sm hm=>?_)|refine v_rng (fun ri ti hit=>?_)|refine v_clone (fun bc sc hcl=>?_)|refine v_yw ?_|(refine v_make ?_ (fun sv ss hs hln=>?_);omega)|fail)
    refine v_nxt (fun hl => ?_) (fun k v ts hkl hkm hit2 hicu => ?_)
    · subst hl
      repeat' (first | refine stp ?_|(refine v_spT ?_ ?_;omega)|(refine v_spF ?_ ?_;omega)|refine v_spD (fun hc=>?_) (fun hc=>?_)|refine v_spB (fun hc=>?_) (fun hc=>?_)|(refine v_yc ?_ ?_;omega)|refine v_alloc' (fun ba=>?_)|refine v_box (fun bb=>?_)|refine v_lit (fun bl=>?_)|refine v_makeMap (fun bm=>?_)|(refine v_push ?_ (fun sv ss hs hln=>?_);omega)|(refine v_push0 ?_ (fun sv ss hs=>?_);omega)|(refine v_set ?_ (fun ss hs hln=>?_);omega)|(refine v_cat ?_ (fun sv ss hs hln=>?_);omega)|(refine v_cat0 ?_ (fun sv ss hs=>?_);omega)|(refine v_catN ?_ (fun sv ss hs=>?_);omega)|refine v_put (fun sm hm=>?_)|refine v_del (fun sm hm=>?_)|(refine v_sb ?_ (fun su (And.intro hs hln)=>?_);omega)|refine v_1lk (fun lv hlk=>?_) (fun hlk=>?_)|refine v_ment (fun st sm hm hst=>?_)|refine v_esto (fun sm hm=>?_)|refine v_rng (fun ri ti hit=>?_)|refine v_clone (fun bc sc hcl=>?_)|refine v_yw ?_|(refine v_make ?_ (fun sv ss hs hln=>?_);omega)|fail)
      refine v_callO (sortK_s how (by simp at hsum; omega)) ?_
      rintro v Γ' ⟨rfl, so, rfl, hso⟩
      (try dsimp only [List.cons_append, List.nil_append])
      repeat' (first | refine stp ?_|(refine v_spT ?_ ?_;omega)|(refine v_spF ?_ ?_;omega)|refine v_spD (fun hc=>?_) (fun hc=>?_)|refine v_spB (fun hc=>?_) (fun hc=>?_)|(refine v_yc ?_ ?_;omega)|refine v_alloc' (fun ba=>?_)|refine v_box (fun bb=>?_)|refine v_lit (fun bl=>?_)|refine v_makeMap (fun bm=>?_)|(refine v_push ?_ (fun sv ss hs hln=>?_);omega)|(refine v_push0 ?_ (fun sv ss hs=>?_);omega)|(refine v_set ?_ (fun ss hs hln=>?_);omega)|(refine v_cat ?_ (fun sv ss hs hln=>?_);omega)|(refine v_cat0 ?_ (fun sv ss hs=>?_);omega)|(refine v_catN ?_ (fun sv ss hs=>?_);omega)|refine v_put (fun sm hm=>?_)|refine v_del (fun sm hm=>?_)|(refine v_sb ?_ (fun su (And.intro hs hln)=>?_);omega)|refine v_1lk (fun lv hlk=>?_) (fun hlk=>?_)|refine v_ment (fun st sm hm hst=>?_)|refine v_esto (fun sm hm=>?_)|refine v_rng (fun ri ti hit=>?_)|refine v_clone (fun bc sc hcl=>?_)|refine v_yw ?_|(refine v_make ?_ (fun sv ss hs hln=>?_);omega)|fail)
      have hml := (List.mergeSort_perm ol fun x y => !(ltOf cmpK) y x)
      refine v_o1 Try.results11 ⟨_, so, hso, rfl, ⟨sort_up hnd, fun x => ?_⟩, by rw [hml.length_eq]; simp at hsum; omega⟩ ⟨_, inferInstance⟩
      rw [hml.mem_iff, hmem]
      constructor
      · rintro ⟨h, _⟩; have := hlb x.Base; rwa [h] at this
      · intro h; exact ⟨(hlb x.Base).one h, rfl⟩
    · have hks := hst _ hkm
      obtain ⟨kb, kst⟩ := k
      dsimp only at hks
      subst hks
      have hgm := mem_mget hnm hkm
      have hgl := mem_mget hln2 hkl
      have hdl := mdel_len hln2 hkl
      repeat' (first | refine stp ?_|(refine v_spT ?_ ?_;omega)|(refine v_spF ?_ ?_;omega)|refine v_spD (fun hc=>?_) (fun hc=>?_)|refine v_spB (fun hc=>?_) (fun hc=>?_)|(refine v_yc ?_ ?_;omega)|refine v_alloc' (fun ba=>?_)|refine v_box (fun bb=>?_)|refine v_lit (fun bl=>?_)|refine v_makeMap (fun bm=>?_)|(refine v_push ?_ (fun sv ss hs hln=>?_);omega)|(refine v_push0 ?_ (fun sv ss hs=>?_);omega)|(refine v_set ?_ (fun ss hs hln=>?_);omega)|(refine v_cat ?_ (fun sv ss hs hln=>?_);omega)|(refine v_cat0 ?_ (fun sv ss hs=>?_);omega)|(refine v_catN ?_ (fun sv ss hs=>?_);omega)|refine v_put (fun sm hm=>?_)|refine v_del (fun sm hm=>?_)|(refine v_sb ?_ (fun su (And.intro hs hln)=>?_);omega)|refine v_1lk (fun lv hlk=>?_) (fun hlk=>?_)|refine v_ment (fun st sm hm hst=>?_)|refine v_esto (fun sm hm=>?_)|refine v_rng (fun ri ti hit=>?_)|refine v_clone (fun bc sc hcl=>?_)|refine v_yw ?_|(refine v_make ?_ (fun sv ss hs hln=>?_);omega)|fail)
      refine v_again ⟨sv, _, ss, mdel left ⟨kb, 0⟩, ts⟩ (by dsimp only; omega) rfl inferInstance ⟨hit2, hs, fun x => ?_, ?_, mdel_nodup hln2, by dsimp only; rw [hln]; omega⟩
      · dsimp only
        rw [List.mem_append, List.mem_singleton, hmem, mget_mdel]
        constructor
        · rintro (⟨h1, h2⟩ | rfl)
          · refine ⟨h1, ?_⟩
            split
            · rfl
            · exact h2
          · exact ⟨hgm, by simp⟩
        · rintro ⟨h1, h2⟩
          split at h2
          · rename_i e
            have e : x.Base = kb := congrArg (·.Base) e
            right
            rw [e, hgm] at h1
            exact (iff_ApiKey _ _).2 ⟨e, (Option.some.inj h1).symm⟩
          · exact .inl ⟨h1, h2⟩
      · rw [List.map_append, List.nodup_append]
        refine ⟨hnd, by simp, fun a ha b hb e => ?_⟩
        subst e
        simp only [List.map_cons, List.map_nil, List.mem_singleton] at hb
        subst hb
        obtain ⟨x, hx, rfl⟩ := List.mem_map.1 ha
        have := ((hmem x).1 hx).2
        rw [hgl] at this; cases this
structure RmG where
  b : Int
  ov : Value
  ol : List ApiKey
  os : Hp
structure RmOk (m : List (Int × Int)) (g : RmG) : Prop where
  lo : 1 ≤ g.b ∧ g.b ≤ 65536
  own : OwnS g.ov 25 ApiKey 2 cvApiKey g.ol g.os
  mem : ∀ x, x ∈ g.ol ↔ mget m x.Base = some x.Step ∧ x.Base < g.b
  up : (g.ol.map (·.Base)).Pairwise (· < ·)
  len : g.ol.length ≤ m.length
structure RkG2 where
  j : Nat
  m : List (Int × Int)
  s : Hp
structure RkOk2 (l : List ApiKey) (b : Nat) (g : RkG2) : Prop where
  le : g.j ≤ l.length
  own : OwnM b Int Int ik ik g.m g.s
  lb : ∀ b, LB (l.take g.j) b (mget g.m b)
  len : g.m.length ≤ g.j
theorem rleast_s {uv : Value} {l : List ApiKey} {s : Hp} (hu : AtS uv 25 ApiKey 2 cvApiKey l s) (hb : l.length * 16 ≤ 140737488355328) :
    SX.Spec Try.prog 10 #[uv] [s] [] fun v Γ => ∃ out so, OwnS v 25 ApiKey 2 cvApiKey out so ∧ Γ = [so] ∧ LeastOf l out ∧ out.length ≤ l.length := by
  refine spec_of1 Try.func10 Try.ntmps10 rfl rfl (fun M w0 => ?_)
  repeat' (first | refine stp ?_|(refine v_spT ?_ ?_;omega)|(refine v_spF ?_ ?_;omega)|refine v_spD (fun hc=>?_) (fun hc=>?_)|refine v_spB (fun hc=>?_) (fun hc=>?_)|(refine v_yc ?_ ?_;omega)|refine v_alloc' (fun ba=>?_)|refine v_box (fun bb=>?_)|refine v_lit (fun bl=>?_)|refine v_makeMap (fun bm=>?_)|(refine v_push ?_ (fun sv ss hs hln=>?_);omega)|(refine v_push0 ?_ (fun sv ss hs=>?_);omega)|(refine v_set ?_ (fun ss hs hln=>?_);omega)|(refine v_cat ?_ (fun sv ss hs hln=>?_);omega)|(refine v_cat0 ?_ (fun sv ss hs=>?_);omega)|(refine v_catN ?_ (fun sv ss hs=>?_);omega)|refine v_put (fun sm hm=>?_)|refine v_del (fun sm hm=>?_)|(refine v_sb ?_ (fun su (And.intro hs hln)=>?_);omega)|refine v_1lk (fun lv hlk=>?_) (fun hlk=>?_)|refine v_ment (fun st sm hm hst=>?_)|refine v_esto (fun sm hm=>?_)|refine v_rng (fun ri ti hit=>?_)|refine v_clone (fun bc sc hcl=>?_)|refine v_yw ?_|(refine v_make ?_ (fun sv ss hs hln=>?_);omega)|fail)
  refine v_lp [15] [3, 13, 14] (fun g : RkG2 => [.int .i64 g.j]) (fun g => [g.s]) (RkOk2 l bm) (fun g => l.length - g.j) ⟨0, [], _⟩ (fun _ => rfl) rfl inferInstance
    ⟨Nat.zero_le _, ⟨MpAt.new _⟩, fun b => LB.nil b, Nat.le_refl _⟩ ?_
  rintro ⟨j, m, ms⟩ ⟨hj, hm, hlb, hln⟩
  dsimp only at hj hm hlb hln ⊢
  (try dsimp only [zipE_c, zipE_n, List.cons_append, List.nil_append])
  rcases Nat.lt_or_ge j l.length with hlt | hge
  · have e1 : l.take (j + 1) = l.take j ++ [l[j]] := by rw [List.take_add_one, List.getElem?_eq_getElem hlt]; rfl
    have hp : Gd l[j].Base l[j].Step → (∀ s, mget m l[j].Base = some s → l[j].Step < s) → (∀ b, LB (l.take (j + 1)) b (mget (mput m l[j].Base l[j].Step) b)) ∧ (mput m l[j].Base l[j].Step).length ≤ j + 1 := fun g hs => by
      refine ⟨fun b => ?_, Nat.le_trans (mput_len _ _ _) (by omega)⟩
      rw [e1, mget_mput]
      split
      · rename_i e
        subst e
        exact (hlb _).take g hs
      · rename_i e
        exact (hlb _).skip fun _ e' => e (by rw [e'])
    repeat' (first | refine stp ?_|(refine v_spT ?_ ?_;omega)|(refine v_spF ?_ ?_;omega)|refine v_spD (fun hc=>?_) (fun hc=>?_)|refine v_spB (fun hc=>?_) (fun hc=>?_)|(refine v_yc ?_ ?_;omega)|refine v_alloc' (fun ba=>?_)|refine v_box (fun bb=>?_)|refine v_lit (fun bl=>?_)|refine v_makeMap (fun bm=>?_)|(refine v_push ?_ (fun sv ss hs hln=>?_);omega)|(refine v_push0 ?_ (fun sv ss hs=>?_);omega)|(refine v_set ?_ (fun ss hs hln=>?_);omega)|(refine v_cat ?_ (fun sv ss hs hln=>?_);omega)|(refine v_cat0 ?_ (fun sv ss hs=>?_);omega)|(refine v_catN ?_ (fun sv ss hs=>?_);omega)|refine v_put (fun sm hm=>?_)|refine v_del (fun sm hm=>?_)|(refine v_sb ?_ (fun su (And.intro hs hln)=>?_);omega)|refine v_1lk (fun lv hlk=>?_) (fun hlk=>?_)|refine v_ment (fun st sm hm hst=>?_)|refine v_esto (fun sm hm=>?_)|refine v_rng (fun ri ti hit=>?_)|refine v_clone (fun bc sc hcl=>?_)|refine v_yw ?_|(refine v_make ?_ (fun sv ss hs hln=>?_);omega)|fail)
    · exact v_again ⟨j + 1, m, ms⟩ (by dsimp only; omega) rfl inferInstance ⟨hlt, hm, fun b => by dsimp only; rw [e1]; exact (hlb b).skip fun g => absurd g hc, by dsimp only; omega⟩
    · obtain ⟨p1, p3⟩ := hp (Decidable.not_not.1 (by assumption)) (fun s e => by rw [hlk] at e; cases e; exact hc)
      exact v_again ⟨j + 1, _, sm⟩ (by dsimp only; omega) rfl inferInstance ⟨hlt, hm, p1, p3⟩
    · refine v_again ⟨j + 1, m, ms⟩ (by dsimp only; omega) rfl inferInstance ⟨hlt, hm, fun b => ?_, by dsimp only; omega⟩
      dsimp only
      rw [e1]
      by_cases e : b = l[j].Base
      · subst e
        have := hlb l[j].Base
        rw [hlk] at this ⊢
        exact this.keep (by omega)
      · exact (hlb b).skip fun _ e' => e e'.symm
    · obtain ⟨p1, p3⟩ := hp (Decidable.not_not.1 hc) (fun s e => by rw [hlk] at e; cases e)
      exact v_again ⟨j + 1, _, sm⟩ (by dsimp only; omega) rfl inferInstance ⟨hlt, hm, p1, p3⟩
  · obtain rfl : j = l.length := by omega
    have hnm : (m.map (·.1)).Nodup := hm.nodup
    rw [List.take_of_length_le (Nat.le_refl _)] at hlb
    repeat' (first | refine stp ?_|(refine v_spT ?_ ?_;omega)|(refine v_spF ?_ ?_;omega)|refine v_spD (fun hc=>?_) (fun hc=>?_)|refine v_spB (fun hc=>?_) (fun hc=>?_)|(refine v_yc ?_ ?_;omega)|refine v_alloc' (fun ba=>?_)|refine v_box (fun bb=>?_)|refine v_lit (fun bl=>?_)|refine v_makeMap (fun bm=>?_)|(refine v_push ?_ (fun sv ss hs hln=>?_);omega)|(refine v_push0 ?_ (fun sv ss hs=>?_);omega)|(refine v_set ?_ (fun ss hs hln=>?_);omega)|(refine v_cat ?_ (fun sv ss hs hln=>?_);omega)|(refine v_cat0 ?_ (fun sv ss hs=>?_);omega)|(refine v_catN ?_ (fun sv ss hs=>?_);omega)|refine v_put (fun sm hm=>?_)|refine v_del (fun sm hm=>?_)|(refine v_sb ?_ (fun su (And.intro hs hln)=>?_);omega)|refine v_1lk (fun lv hlk=>?_) (fun hlk=>?_)|refine v_ment (fun st sm hm hst=>?_)|refine v_esto (fun sm hm=>?_)|refine v_rng (fun ri ti hit=>?_)|refine v_clone (fun bc sc hcl=>?_)|refine v_yw ?_|(refine v_make ?_ (fun sv ss hs hln=>?_);omega)|fail)
    refine v_lp [8, 9] [3] (fun g : RmG => [g.ov, .int .i64 g.b]) (fun g => [g.os]) (RmOk m) (fun g => (65536 - g.b).toNat) ⟨1, .slice none 0 0, [], []⟩ (fun _ => rfl) rfl inferInstance
      ⟨by decide, OwnS.nil, fun x => ?_, List.Pairwise.nil, Nat.zero_le _⟩ ?_
    · constructor
      · intro h; simp at h
      · rintro ⟨h1, h2⟩
        have := hlb x.Base
        rw [h1] at this
        obtain ⟨⟨y, _, g, e, _⟩, _⟩ := this
        dsimp only at h2
        have := g.1
        omega
    rintro ⟨b, ov, ol, os⟩ ⟨hbb, how, hmem, hup, hln2⟩
    dsimp only at hbb how hmem hup hln2 ⊢
    (try dsimp only [zipE_c, zipE_n, List.cons_append, List.nil_append])
    have hne : ∀ x ∈ ol, x.Base < b := fun x hx => ((hmem x).1 hx).2
    repeat' (first | refine stp ?_|(refine v_spT ?_ ?_;omega)|(refine v_spF ?_ ?_;omega)|refine v_spD (fun hc=>?_) (fun hc=>?_)|refine v_spB (fun hc=>?_) (fun hc=>?_)|(refine v_yc ?_ ?_;omega)|refine v_alloc' (fun ba=>?_)|refine v_box (fun bb=>?_)|refine v_lit (fun bl=>?_)|refine v_makeMap (fun bm=>?_)|(refine v_push ?_ (fun sv ss hs hln=>?_);omega)|(refine v_push0 ?_ (fun sv ss hs=>?_);omega)|(refine v_set ?_ (fun ss hs hln=>?_);omega)|(refine v_cat ?_ (fun sv ss hs hln=>?_);omega)|(refine v_cat0 ?_ (fun sv ss hs=>?_);omega)|(refine v_catN ?_ (fun sv ss hs=>?_);omega)|refine v_put (fun sm hm=>?_)|refine v_del (fun sm hm=>?_)|(refine v_sb ?_ (fun su (And.intro hs hln)=>?_);omega)|refine v_1lk (fun lv hlk=>?_) (fun hlk=>?_)|refine v_ment (fun st sm hm hst=>?_)|refine v_esto (fun sm hm=>?_)|refine v_rng (fun ri ti hit=>?_)|refine v_clone (fun bc sc hcl=>?_)|refine v_yw ?_|(refine v_make ?_ (fun sv ss hs hln=>?_);omega)|fail)
    · refine v_again ⟨b + 1, sv, _, ss⟩ (by dsimp only; omega) rfl inferInstance ⟨by dsimp only; omega, hs, fun x => ?_, ?_, by dsimp only; rw [hln]; omega⟩
      · dsimp only
        rw [List.mem_append, List.mem_singleton, hmem]
        constructor
        · rintro (⟨h1, h2⟩ | rfl)
          · exact ⟨h1, by omega⟩
          · exact ⟨hlk, by dsimp only; omega⟩
        · rintro ⟨h1, h2⟩
          by_cases e : x.Base = b
          · right
            rw [e, hlk] at h1
            exact (iff_ApiKey _ _).2 ⟨e, (Option.some.inj h1).symm⟩
          · exact .inl ⟨h1, by omega⟩
      · dsimp only
        rw [List.map_append, List.pairwise_append]
        refine ⟨hup, by simp, fun a ha c hc => ?_⟩
        simp only [List.map_cons, List.map_nil, List.mem_singleton] at hc
        obtain ⟨x, hx, rfl⟩ := List.mem_map.1 ha
        subst hc
        exact hne x hx
    · refine v_again ⟨b + 1, ov, ol, os⟩ (by dsimp only; omega) rfl inferInstance ⟨by dsimp only; omega, how, fun x => ?_, hup, hln2⟩
      dsimp only
      rw [hmem]
      constructor
      · rintro ⟨h1, h2⟩; exact ⟨h1, by omega⟩
      · rintro ⟨h1, h2⟩
        refine ⟨h1, ?_⟩
        by_cases e : x.Base = b
        · rw [e, hlk] at h1; cases h1
        · omega
    · refine v_o1 Try.results10 ⟨ol, os, how, rfl, ⟨hup, fun x => ?_⟩, by omega⟩ ⟨_, inferInstance⟩
      rw [hmem]
      constructor
      · rintro ⟨h, _⟩; have := hlb x.Base; rwa [h] at this
      · intro h
        have h1 := (hlb x.Base).one h
        refine ⟨h1, Classical.byContradiction fun hnb => ?_⟩
        have hnd : (x.Base :: ol.map (·.Base)).Nodup := by
          rw [List.nodup_cons]
          refine ⟨fun hm => ?_, hup.imp fun h => Int.ne_of_lt h⟩
          obtain ⟨y, hy, e⟩ := List.mem_map.1 hm
          have := hne y hy; omega
        have := nd_len (m := m.map (·.1)) hnd fun a ha => by
          rcases List.mem_cons.1 ha with rfl | ha
          · exact List.mem_map.2 ⟨_, mget_mem h1, rfl⟩
          · obtain ⟨y, hy, rfl⟩ := List.mem_map.1 ha
            exact List.mem_map.2 ⟨_, mget_mem ((hmem y).1 hy).1, rfl⟩
        simp only [List.length_cons, List.length_map] at this
        omega
    · refine v_o1 Try.results10 ⟨ol, os, how, rfl, ⟨hup, fun x => ?_⟩, by omega⟩ ⟨_, inferInstance⟩
      rw [hmem]
      constructor
      · rintro ⟨h, _⟩; have := hlb x.Base; rwa [h] at this
      · intro h
        refine ⟨(hlb x.Base).one h, ?_⟩
        obtain ⟨⟨y, _, g, e, _⟩, _⟩ := h
        have := g.2.1
        omega
end Go.Proofs.Ytedemhmlaodblaa
