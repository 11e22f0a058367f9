/- know: copies. -/
import Derived.Test.YtedemhmlaodblaaKw
namespace Go.Proofs.Ytedemhmlaodblaa
open Go Go.SX Go.RowKit
set_option maxRecDepth 100000
set_option linter.unusedSimpArgs false
set_option linter.unusedVariables false
set_option maxHeartbeats 0
set_option synthInstance.maxSize 100000
set_option synthInstance.maxHeartbeats 400000
theorem mcloneI_s {b : Nat} {m : List (Int × Int)} {s : Hp} (h : OwnM b Int Int ik ik m s) : SX.Spec Try.prog 52 #[.map (some b)] [s] [] fun v Γ => ∃ b' s', v = .map (some b') ∧ OwnM b' Int Int ik ik m s' ∧ Γ = [s'] := by
  refine spec_of1 Try.func52 Try.ntmps52 rfl rfl (fun M w0 => ?_)
  repeat' (first | refine stp ?_|(refine v_spT ?_ ?_;omega)|(refine v_spF ?_ ?_;omega)|refine v_spD (fun hc=>?_) (fun hc=>?_)|refine v_spB (fun hc=>?_) (fun hc=>?_)|(refine v_yc ?_ ?_;omega)|refine v_alloc' (fun ba=>?_)|refine v_box (fun bb=>?_)|refine v_lit (fun bl=>?_)|refine v_makeMap (fun bm=>?_)|(refine v_push ?_ (fun sv ss hs hln=>?_);omega)|(refine v_push0 ?_ (fun sv ss hs=>?_);omega)|(refine v_set ?_ (fun ss hs hln=>?_);omega)|(refine v_cat ?_ (fun sv ss hs hln=>?_);omega)|(refine v_cat0 ?_ (fun sv ss hs=>?_);omega)|(refine v_catN ?_ (fun sv ss hs=>?_);omega)|refine v_put (fun sm hm=>?_)|refine v_del (fun sm hm=>?_)|(refine v_sb ?_ (fun su (And.intro hs hln)=>?_);omega)|refine v_1lk (fun lv hlk=>?_) (fun hlk=>?_)|refine v_ment (fun st sm hm hst=>?_)|refine v_esto (fun sm hm=>?_)|refine v_rng (fun ri ti hit=>?_)|refine v_clone (fun bc sc hcl=>?_)|refine v_yw ?_|(refine v_make ?_ (fun sv ss hs hln=>?_);omega)|fail)
  refine v_o1 Try.results52 ⟨_, _, rfl, hcl, rfl⟩ ⟨_, inferInstance⟩
theorem mcloneB_s {b : Nat} {m : List (ApiBox × Int)} {s : Hp} (h : OwnM b ApiBox Int avApiBox ik m s) : SX.Spec Try.prog 53 #[.map (some b)] [s] [] fun v Γ => ∃ b' s', v = .map (some b') ∧ OwnM b' ApiBox Int avApiBox ik m s' ∧ Γ = [s'] := by
  refine spec_of1 Try.func53 Try.ntmps53 rfl rfl (fun M w0 => ?_)
  repeat' (first | refine stp ?_|(refine v_spT ?_ ?_;omega)|(refine v_spF ?_ ?_;omega)|refine v_spD (fun hc=>?_) (fun hc=>?_)|refine v_spB (fun hc=>?_) (fun hc=>?_)|(refine v_yc ?_ ?_;omega)|refine v_alloc' (fun ba=>?_)|refine v_box (fun bb=>?_)|refine v_lit (fun bl=>?_)|refine v_makeMap (fun bm=>?_)|(refine v_push ?_ (fun sv ss hs hln=>?_);omega)|(refine v_push0 ?_ (fun sv ss hs=>?_);omega)|(refine v_set ?_ (fun ss hs hln=>?_);omega)|(refine v_cat ?_ (fun sv ss hs hln=>?_);omega)|(refine v_cat0 ?_ (fun sv ss hs=>?_);omega)|(refine v_catN ?_ (fun sv ss hs=>?_);omega)|refine v_put (fun sm hm=>?_)|refine v_del (fun sm hm=>?_)|(refine v_sb ?_ (fun su (And.intro hs hln)=>?_);omega)|refine v_1lk (fun lv hlk=>?_) (fun hlk=>?_)|refine v_ment (fun st sm hm hst=>?_)|refine v_esto (fun sm hm=>?_)|refine v_rng (fun ri ti hit=>?_)|refine v_clone (fun bc sc hcl=>?_)|refine v_yw ?_|(refine v_make ?_ (fun sv ss hs hln=>?_);omega)|fail)
  refine v_o1 Try.results53 ⟨_, _, rfl, hcl, rfl⟩ ⟨_, inferInstance⟩
theorem mcloneS_s {b : Nat} {m : List (ApiSealed × Int)} {s : Hp} (h : OwnM b ApiSealed Int avApiSealed ik m s) : SX.Spec Try.prog 54 #[.map (some b)] [s] [] fun v Γ => ∃ b' s', v = .map (some b') ∧ OwnM b' ApiSealed Int avApiSealed ik m s' ∧ Γ = [s'] := by
  refine spec_of1 Try.func54 Try.ntmps54 rfl rfl (fun M w0 => ?_)
  repeat' (first | refine stp ?_|(refine v_spT ?_ ?_;omega)|(refine v_spF ?_ ?_;omega)|refine v_spD (fun hc=>?_) (fun hc=>?_)|refine v_spB (fun hc=>?_) (fun hc=>?_)|(refine v_yc ?_ ?_;omega)|refine v_alloc' (fun ba=>?_)|refine v_box (fun bb=>?_)|refine v_lit (fun bl=>?_)|refine v_makeMap (fun bm=>?_)|(refine v_push ?_ (fun sv ss hs hln=>?_);omega)|(refine v_push0 ?_ (fun sv ss hs=>?_);omega)|(refine v_set ?_ (fun ss hs hln=>?_);omega)|(refine v_cat ?_ (fun sv ss hs hln=>?_);omega)|(refine v_cat0 ?_ (fun sv ss hs=>?_);omega)|(refine v_catN ?_ (fun sv ss hs=>?_);omega)|refine v_put (fun sm hm=>?_)|refine v_del (fun sm hm=>?_)|(refine v_sb ?_ (fun su (And.intro hs hln)=>?_);omega)|refine v_1lk (fun lv hlk=>?_) (fun hlk=>?_)|refine v_ment (fun st sm hm hst=>?_)|refine v_esto (fun sm hm=>?_)|refine v_rng (fun ri ti hit=>?_)|refine v_clone (fun bc sc hcl=>?_)|refine v_yw ?_|(refine v_make ?_ (fun sv ss hs hln=>?_);omega)|fail)
  refine v_o1 Try.results54 ⟨_, _, rfl, hcl, rfl⟩ ⟨_, inferInstance⟩
theorem boxClone_s {sv : Value} {l : List ApiBox} {s : Hp} (h : OwnS sv 34 ApiBox 4 cvApiBox l s) (hb : l.length * 32 ≤ 140737488355328) : SX.Spec Try.prog 55 #[sv] [s] [] fun v Γ => ∃ s', OwnS v 34 ApiBox 4 cvApiBox l s' ∧ Γ = [s'] := by
  refine spec_of1 Try.func55 Try.ntmps55 rfl rfl (fun M w0 => ?_)
  repeat' (first | refine stp ?_|(refine v_spT ?_ ?_;omega)|(refine v_spF ?_ ?_;omega)|refine v_spD (fun hc=>?_) (fun hc=>?_)|refine v_spB (fun hc=>?_) (fun hc=>?_)|(refine v_yc ?_ ?_;omega)|refine v_alloc' (fun ba=>?_)|refine v_box (fun bb=>?_)|refine v_lit (fun bl=>?_)|refine v_makeMap (fun bm=>?_)|(refine v_push ?_ (fun sv ss hs hln=>?_);omega)|(refine v_push0 ?_ (fun sv ss hs=>?_);omega)|(refine v_set ?_ (fun ss hs hln=>?_);omega)|(refine v_cat ?_ (fun sv ss hs hln=>?_);omega)|(refine v_cat0 ?_ (fun sv ss hs=>?_);omega)|(refine v_catN ?_ (fun sv ss hs=>?_);omega)|refine v_put (fun sm hm=>?_)|refine v_del (fun sm hm=>?_)|(refine v_sb ?_ (fun su (And.intro hs hln)=>?_);omega)|refine v_1lk (fun lv hlk=>?_) (fun hlk=>?_)|refine v_ment (fun st sm hm hst=>?_)|refine v_esto (fun sm hm=>?_)|refine v_rng (fun ri ti hit=>?_)|refine v_clone (fun bc sc hcl=>?_)|refine v_yw ?_|(refine v_make ?_ (fun sv ss hs hln=>?_);omega)|fail)
  · obtain ⟨rfl, rfl⟩ := nilS_nil (v := sv) hc
    refine v_o1 Try.results55 ⟨[], OwnS.nil, rfl⟩ ⟨_, inferInstance⟩
  · refine v_o1 Try.results55 ⟨_, hs, rfl⟩ ⟨_, inferInstance⟩
theorem Fam.keys {m : List (Int × Value)} {L : List (Int × List ApiBox)} {h : Hp} (H : Fam m L h) : m.map (·.1) = L.map (·.1) := by
  induction H with
  | nil => rfl
  | cons _ _ ih => simp [ih]
theorem Fam.mem {m : List (Int × Value)} {L : List (Int × List ApiBox)} {h : Hp} (H : Fam m L h) (hn : (m.map (·.1)).Nodup) {k : Int} {v : Value} (hm : (k, v) ∈ m) : ∃ l s, mget L k = some l ∧ OwnS v 34 ApiBox 4 cvApiBox l s ∧ ∀ x ∈ s, x ∈ h := by
  induction H with
  | nil => simp at hm
  | @cons j u l s m L t ho hf ih =>
    simp only [List.map_cons, List.nodup_cons] at hn
    rcases List.mem_cons.1 hm with e | hm
    · obtain ⟨rfl, rfl⟩ := Prod.mk.inj e
      exact ⟨l, s, by simp [mget], ho, fun x hx => List.mem_append_left _ hx⟩
    · obtain ⟨l', s', g1, g2, g3⟩ := ih hn.2 hm
      have : ¬ k = j := fun e => hn.1 (e ▸ List.mem_map.2 ⟨_, hm, rfl⟩)
      exact ⟨l', s', by simp [mget, this, g1], g2, fun x hx => List.mem_append_right _ (g3 x hx)⟩
theorem mget_mem {α β : Type} [DecidableEq α] {m : List (α × β)} {k : α} {v : β} (h : mget m k = some v) : (k, v) ∈ m := by
  induction m with
  | nil => simp [mget] at h
  | cons p r ih =>
    obtain ⟨x, y⟩ := p
    by_cases e : k = x
    · subst e; simp [mget] at h; simp [h]
    · simp [mget, e] at h; exact List.mem_cons_of_mem _ (ih h)
theorem mem_mget {α β : Type} [DecidableEq α] {m : List (α × β)} (hn : (m.map (·.1)).Nodup) {k : α} {v : β} (h : (k, v) ∈ m) : mget m k = some v := by
  obtain ⟨i, hi, he⟩ := List.getElem_of_mem h
  exact (mget_of_nodup hn (i := i) (p := (k, v)) (by rw [List.getElem?_eq_getElem hi, he]))
theorem mget_perm {α β : Type} [DecidableEq α] [DecidableEq β] {m m' : List (α × β)} (h1 : (m.map (·.1)).Nodup) (h2 : (m'.map (·.1)).Nodup) (h : ∀ k, mget m k = mget m' k) : m.Perm m' := by
  have nd : ∀ {l : List (α × β)}, (l.map (·.1)).Nodup → l.Nodup := fun hl => by
    refine (List.pairwise_map.1 hl).imp ?_
    intro a b hab e
    exact hab (by rw [e])
  refine (List.perm_ext_iff_of_nodup (nd h1) (nd h2)).2 fun p => ?_
  obtain ⟨k, v⟩ := p
  exact ⟨fun hp => mget_mem ((h k).symm.trans (mem_mget h1 hp)), fun hp => mget_mem ((h k).trans (mem_mget h2 hp))⟩
/-- the same, but for the order of what is shut -/
structure KnowM.like (K K' : KnowM) : Prop where
  least : K'.least = K.least
  boxes : K'.boxes = K.boxes
  texts : K'.texts = K.texts
  shut : ∀ k, mget K'.shut k = mget K.shut k
  tot : tot K'.shut = tot K.shut
structure CqG where
  bb : Nat
  c1 : Nat
  c2 : Nat
  c3 : Nat
  c4 : Nat
  t1 : Hp
  t2 : Hp
  t3 : Hp
structure CqOk (K : KnowM) (x : CqG) : Prop where
  g1 : OwnM x.c1 Int Int ik ik K.least x.t1
  g2 : OwnM x.c2 ApiBox Int avApiBox ik K.boxes x.t2
  g3 : OwnM x.c3 ApiSealed Int avApiSealed ik K.texts x.t3
structure CpG where
  left : List (Int × Value)
  ts : Hp
  nm : List (Int × Value)
  ns : Hp
  NL : List (Int × List ApiBox)
  nh : Hp
structure CpOk (K : KnowM) (ri b4 b4' : Nat) (zm : List (Int × Value)) (s4 : Hp) (g : CpG) : Prop where
  it : Itr ri b4 Int Value ik vid zm s4 g.left g.ts
  own : OwnM b4' Int Value ik vid g.nm g.ns
  fam : Fam g.nm g.NL g.nh
  cpy : ∀ k, mget g.NL k = if (mget g.left k).isSome then none else mget K.shut k
  nd : (g.left.map (·.1)).Nodup
theorem copy_s {bk : Nat} {K : KnowM} {Γ : List Hp} (h : KnowA bk K Γ) (hb : (tot K.shut + 3) * 32 ≤ 140737488355328) : SX.Spec Try.prog 33 #[.pointer (some ⟨bk, 0, none⟩)] Γ [] fun v Γ' => ∃ bk' K', v = .pointer (some ⟨bk', 0, none⟩) ∧ K.like K' ∧ KnowA bk' K' Γ' := by
  obtain ⟨b1, b2, b3, b4, s1, s2, s3, s4, zm, sh, rfl, h1, h2, h3, h4, h5⟩ := h
  have hnd : (zm.map (·.1)).Nodup := by obtain ⟨_, _, _, _, _, h, _⟩ := h4.out; exact h
  refine spec_of1 Try.func33 Try.ntmps33 rfl rfl (fun M w0 => ?_)
  have hstop1 := @stopR Try.prog 1
  repeat' (first | refine stp ?_|(refine v_spT ?_ ?_;omega)|(refine v_spF ?_ ?_;omega)|refine v_spD (fun hc=>?_) (fun hc=>?_)|refine v_spB (fun hc=>?_) (fun hc=>?_)|(refine v_yc ?_ ?_;omega)|refine v_alloc' (fun ba=>?_)|refine v_box (fun bb=>?_)|refine v_lit (fun bl=>?_)|refine v_makeMap (fun bm=>?_)|(refine v_push ?_ (fun sv ss hs hln=>?_);omega)|(refine v_push0 ?_ (fun sv ss hs=>?_);omega)|(refine v_set ?_ (fun ss hs hln=>?_);omega)|(refine v_cat ?_ (fun sv ss hs hln=>?_);omega)|(refine v_cat0 ?_ (fun sv ss hs=>?_);omega)|(refine v_catN ?_ (fun sv ss hs=>?_);omega)|refine v_put (fun sm hm=>?_)|refine v_del (fun sm hm=>?_)|(refine v_sb ?_ (fun su (And.intro hs hln)=>?_);omega)|refine v_1lk (fun lv hlk=>?_) (fun hlk=>?_)|refine v_ment (fun st sm hm hst=>?_)|refine v_esto (fun sm hm=>?_)|refine v_rng (fun ri ti hit=>?_)|refine v_clone (fun bc sc hcl=>?_)|refine v_yw ?_|(refine v_make ?_ (fun sv ss hs hln=>?_);omega)|refine ⟨?_,?_,?_⟩|refine ⟨?_,?_⟩|(refine v_tyc ?_ ?_;omega)|(refine v_tycT (by decide +kernel) ?_ ?_;omega)|refine v_tValT (by decide +kernel) ?_|(refine v_tsb ?_ (fun su (And.intro hs hln)=>?_);omega)|refine v_tlk (fun lv hlk=>?_) (fun hlk=>?_)|refine v_tlkT (by decide +kernel) (fun lv hlk=>?_) (fun hlk=>?_)|refine v_tyw ?_|refine v_drawn0 (id:=1) pl33_1 (by kernel_rfl) ?_|refine v_drawnK (id:=5) 7 pl33_5 (by kernel_rfl) ?_|fail)
  refine Stopped.go <| v_ctR 1 [3] [0] (fun x : CqG => [.pointer (some ⟨x.bb, 0, none⟩)]) (fun x => [[(x.bb, .cells #[.map (some x.c1), .map (some x.c2), .map (some x.c3), .map (some x.c4)] 81 (0, 0))], x.t1, x.t2, x.t3, [(x.c4, .map #[] 0)]]) (CqOk K) (fun _ => rfl) ?_ ?_
  · (try dsimp only [zipE_c, zipE_n, List.cons_append, List.nil_append])
    repeat' (first | refine stp ?_|(refine v_spT ?_ ?_;omega)|(refine v_spF ?_ ?_;omega)|refine v_spD (fun hc=>?_) (fun hc=>?_)|refine v_spB (fun hc=>?_) (fun hc=>?_)|(refine v_yc ?_ ?_;omega)|refine v_alloc' (fun ba=>?_)|refine v_box (fun bb=>?_)|refine v_lit (fun bl=>?_)|refine v_makeMap (fun bm=>?_)|(refine v_push ?_ (fun sv ss hs hln=>?_);omega)|(refine v_push0 ?_ (fun sv ss hs=>?_);omega)|(refine v_set ?_ (fun ss hs hln=>?_);omega)|(refine v_cat ?_ (fun sv ss hs hln=>?_);omega)|(refine v_cat0 ?_ (fun sv ss hs=>?_);omega)|(refine v_catN ?_ (fun sv ss hs=>?_);omega)|refine v_put (fun sm hm=>?_)|refine v_del (fun sm hm=>?_)|(refine v_sb ?_ (fun su (And.intro hs hln)=>?_);omega)|refine v_1lk (fun lv hlk=>?_) (fun hlk=>?_)|refine v_ment (fun st sm hm hst=>?_)|refine v_esto (fun sm hm=>?_)|refine v_rng (fun ri ti hit=>?_)|refine v_clone (fun bc sc hcl=>?_)|refine v_yw ?_|(refine v_make ?_ (fun sv ss hs hln=>?_);omega)|refine ⟨?_,?_,?_⟩|refine ⟨?_,?_⟩|(refine v_tyc ?_ ?_;omega)|(refine v_tycT (by decide +kernel) ?_ ?_;omega)|refine v_tValT (by decide +kernel) ?_|(refine v_tsb ?_ (fun su (And.intro hs hln)=>?_);omega)|refine v_tlk (fun lv hlk=>?_) (fun hlk=>?_)|refine v_tlkT (by decide +kernel) (fun lv hlk=>?_) (fun hlk=>?_)|refine v_tyw ?_|refine v_drawn0 (id:=1) pl33_1 (by kernel_rfl) ?_|refine v_drawnK (id:=5) 7 pl33_5 (by kernel_rfl) ?_|fail)
    all_goals try
      refine v_callR (mcloneI_s h1) ?_
      rintro v Γ' ⟨c1, t1, rfl, g1, rfl⟩
      (try dsimp only [List.cons_append, List.nil_append])
    repeat' (first | refine stp ?_|(refine v_spT ?_ ?_;omega)|(refine v_spF ?_ ?_;omega)|refine v_spD (fun hc=>?_) (fun hc=>?_)|refine v_spB (fun hc=>?_) (fun hc=>?_)|(refine v_yc ?_ ?_;omega)|refine v_alloc' (fun ba=>?_)|refine v_box (fun bb=>?_)|refine v_lit (fun bl=>?_)|refine v_makeMap (fun bm=>?_)|(refine v_push ?_ (fun sv ss hs hln=>?_);omega)|(refine v_push0 ?_ (fun sv ss hs=>?_);omega)|(refine v_set ?_ (fun ss hs hln=>?_);omega)|(refine v_cat ?_ (fun sv ss hs hln=>?_);omega)|(refine v_cat0 ?_ (fun sv ss hs=>?_);omega)|(refine v_catN ?_ (fun sv ss hs=>?_);omega)|refine v_put (fun sm hm=>?_)|refine v_del (fun sm hm=>?_)|(refine v_sb ?_ (fun su (And.intro hs hln)=>?_);omega)|refine v_1lk (fun lv hlk=>?_) (fun hlk=>?_)|refine v_ment (fun st sm hm hst=>?_)|refine v_esto (fun sm hm=>?_)|refine v_rng (fun ri ti hit=>?_)|refine v_clone (fun bc sc hcl=>?_)|refine v_yw ?_|(refine v_make ?_ (fun sv ss hs hln=>?_);omega)|refine ⟨?_,?_,?_⟩|refine ⟨?_,?_⟩|(refine v_tyc ?_ ?_;omega)|(refine v_tycT (by decide +kernel) ?_ ?_;omega)|refine v_tValT (by decide +kernel) ?_|(refine v_tsb ?_ (fun su (And.intro hs hln)=>?_);omega)|refine v_tlk (fun lv hlk=>?_) (fun hlk=>?_)|refine v_tlkT (by decide +kernel) (fun lv hlk=>?_) (fun hlk=>?_)|refine v_tyw ?_|refine v_drawn0 (id:=1) pl33_1 (by kernel_rfl) ?_|refine v_drawnK (id:=5) 7 pl33_5 (by kernel_rfl) ?_|fail)
    all_goals try
      refine v_callR (mcloneB_s h2) ?_
      rintro v Γ' ⟨c2, t2, rfl, g2, rfl⟩
      (try dsimp only [List.cons_append, List.nil_append])
    repeat' (first | refine stp ?_|(refine v_spT ?_ ?_;omega)|(refine v_spF ?_ ?_;omega)|refine v_spD (fun hc=>?_) (fun hc=>?_)|refine v_spB (fun hc=>?_) (fun hc=>?_)|(refine v_yc ?_ ?_;omega)|refine v_alloc' (fun ba=>?_)|refine v_box (fun bb=>?_)|refine v_lit (fun bl=>?_)|refine v_makeMap (fun bm=>?_)|(refine v_push ?_ (fun sv ss hs hln=>?_);omega)|(refine v_push0 ?_ (fun sv ss hs=>?_);omega)|(refine v_set ?_ (fun ss hs hln=>?_);omega)|(refine v_cat ?_ (fun sv ss hs hln=>?_);omega)|(refine v_cat0 ?_ (fun sv ss hs=>?_);omega)|(refine v_catN ?_ (fun sv ss hs=>?_);omega)|refine v_put (fun sm hm=>?_)|refine v_del (fun sm hm=>?_)|(refine v_sb ?_ (fun su (And.intro hs hln)=>?_);omega)|refine v_1lk (fun lv hlk=>?_) (fun hlk=>?_)|refine v_ment (fun st sm hm hst=>?_)|refine v_esto (fun sm hm=>?_)|refine v_rng (fun ri ti hit=>?_)|refine v_clone (fun bc sc hcl=>?_)|refine v_yw ?_|(refine v_make ?_ (fun sv ss hs hln=>?_);omega)|refine ⟨?_,?_,?_⟩|refine ⟨?_,?_⟩|(refine v_tyc ?_ ?_;omega)|(refine v_tycT (by decide +kernel) ?_ ?_;omega)|refine v_tValT (by decide +kernel) ?_|(refine v_tsb ?_ (fun su (And.intro hs hln)=>?_);omega)|refine v_tlk (fun lv hlk=>?_) (fun hlk=>?_)|refine v_tlkT (by decide +kernel) (fun lv hlk=>?_) (fun hlk=>?_)|refine v_tyw ?_|refine v_drawn0 (id:=1) pl33_1 (by kernel_rfl) ?_|refine v_drawnK (id:=5) 7 pl33_5 (by kernel_rfl) ?_|fail)
    all_goals try
      refine v_callR (mcloneS_s h3) ?_
      rintro v Γ' ⟨c3, t3, rfl, g3, rfl⟩
      (try dsimp only [List.cons_append, List.nil_append])
    repeat' (first | refine stp ?_|(refine v_spT ?_ ?_;omega)|(refine v_spF ?_ ?_;omega)|refine v_spD (fun hc=>?_) (fun hc=>?_)|refine v_spB (fun hc=>?_) (fun hc=>?_)|(refine v_yc ?_ ?_;omega)|refine v_alloc' (fun ba=>?_)|refine v_box (fun bb=>?_)|refine v_lit (fun bl=>?_)|refine v_makeMap (fun bm=>?_)|(refine v_push ?_ (fun sv ss hs hln=>?_);omega)|(refine v_push0 ?_ (fun sv ss hs=>?_);omega)|(refine v_set ?_ (fun ss hs hln=>?_);omega)|(refine v_cat ?_ (fun sv ss hs hln=>?_);omega)|(refine v_cat0 ?_ (fun sv ss hs=>?_);omega)|(refine v_catN ?_ (fun sv ss hs=>?_);omega)|refine v_put (fun sm hm=>?_)|refine v_del (fun sm hm=>?_)|(refine v_sb ?_ (fun su (And.intro hs hln)=>?_);omega)|refine v_1lk (fun lv hlk=>?_) (fun hlk=>?_)|refine v_ment (fun st sm hm hst=>?_)|refine v_esto (fun sm hm=>?_)|refine v_rng (fun ri ti hit=>?_)|refine v_clone (fun bc sc hcl=>?_)|refine v_yw ?_|(refine v_make ?_ (fun sv ss hs hln=>?_);omega)|refine ⟨?_,?_,?_⟩|refine ⟨?_,?_⟩|(refine v_tyc ?_ ?_;omega)|(refine v_tycT (by decide +kernel) ?_ ?_;omega)|refine v_tValT (by decide +kernel) ?_|(refine v_tsb ?_ (fun su (And.intro hs hln)=>?_);omega)|refine v_tlk (fun lv hlk=>?_) (fun hlk=>?_)|refine v_tlkT (by decide +kernel) (fun lv hlk=>?_) (fun hlk=>?_)|refine v_tyw ?_|refine v_drawn0 (id:=1) pl33_1 (by kernel_rfl) ?_|refine v_drawnK (id:=5) 7 pl33_5 (by kernel_rfl) ?_|fail)
    all_goals refine v_here ⟨bb, c1, c2, c3, bm, t1, t2, t3⟩ rfl inferInstance ⟨g1, g2, g3⟩
  rintro ⟨bb, c1, c2, c3, bm, t1, t2, t3⟩ ⟨g1, g2, g3⟩
  dsimp only at g1 g2 g3 ⊢
  (try dsimp only [zipE_c, zipE_n, List.cons_append, List.nil_append])
  repeat' (first | refine stp ?_|(refine v_spT ?_ ?_;omega)|(refine v_spF ?_ ?_;omega)|refine v_spD (fun hc=>?_) (fun hc=>?_)|refine v_spB (fun hc=>?_) (fun hc=>?_)|(refine v_yc ?_ ?_;omega)|refine v_alloc' (fun ba=>?_)|refine v_box (fun bb=>?_)|refine v_lit (fun bl=>?_)|refine v_makeMap (fun bm=>?_)|(refine v_push ?_ (fun sv ss hs hln=>?_);omega)|(refine v_push0 ?_ (fun sv ss hs=>?_);omega)|(refine v_set ?_ (fun ss hs hln=>?_);omega)|(refine v_cat ?_ (fun sv ss hs hln=>?_);omega)|(refine v_cat0 ?_ (fun sv ss hs=>?_);omega)|(refine v_catN ?_ (fun sv ss hs=>?_);omega)|refine v_put (fun sm hm=>?_)|refine v_del (fun sm hm=>?_)|(refine v_sb ?_ (fun su (And.intro hs hln)=>?_);omega)|refine v_1lk (fun lv hlk=>?_) (fun hlk=>?_)|refine v_ment (fun st sm hm hst=>?_)|refine v_esto (fun sm hm=>?_)|refine v_rng (fun ri ti hit=>?_)|refine v_clone (fun bc sc hcl=>?_)|refine v_yw ?_|(refine v_make ?_ (fun sv ss hs hln=>?_);omega)|refine ⟨?_,?_,?_⟩|refine ⟨?_,?_⟩|(refine v_tyc ?_ ?_;omega)|(refine v_tycT (by decide +kernel) ?_ ?_;omega)|refine v_tValT (by decide +kernel) ?_|(refine v_tsb ?_ (fun su (And.intro hs hln)=>?_);omega)|refine v_tlk (fun lv hlk=>?_) (fun hlk=>?_)|refine v_tlkT (by decide +kernel) (fun lv hlk=>?_) (fun hlk=>?_)|refine v_tyw ?_|refine v_drawn0 (id:=1) pl33_1 (by kernel_rfl) ?_|refine v_drawnK (id:=5) 7 pl33_5 (by kernel_rfl) ?_|fail)
  refine v_lp [] [3, 28] (fun _ : CpG => []) (fun g => [g.ts, g.ns, g.nh]) (CpOk K ri b4 bm zm s4) (fun g => g.left.length) ⟨zm, ti, [], [(bm, .map #[] 0)], [], []⟩ (fun _ => rfl) rfl inferInstance
    ⟨hit, ⟨MpAt.new _⟩, Fam.nil, fun k => ?_, hnd⟩ ?_
  · simp only [mget]
    cases hz : mget zm k with
    | some v => rfl
    | none =>
      have := mget_none.1 hz
      rw [h5.keys] at this
      simp [mget_none.2 this]
  rintro ⟨left, ts, nm, ns, NL, nh⟩ ⟨i1, i2, i3, i4, i5⟩
  dsimp only at i1 i2 i3 i4 i5 ⊢
  (try dsimp only [zipE_c, zipE_n, List.cons_append, List.nil_append])
  repeat' (first | refine stp ?_|(refine v_spT ?_ ?_;omega)|(refine v_spF ?_ ?_;omega)|refine v_spD (fun hc=>?_) (fun hc=>?_)|refine v_spB (fun hc=>?_) (fun hc=>?_)|(refine v_yc ?_ ?_;omega)|refine v_alloc' (fun ba=>?_)|refine v_box (fun bb=>?_)|refine v_lit (fun bl=>?_)|refine v_makeMap (fun bm=>?_)|(refine v_push ?_ (fun sv ss hs hln=>?_);omega)|(refine v_push0 ?_ (fun sv ss hs=>?_);omega)|(refine v_set ?_ (fun ss hs hln=>?_);omega)|(refine v_cat ?_ (fun sv ss hs hln=>?_);omega)|(refine v_cat0 ?_ (fun sv ss hs=>?_);omega)|(refine v_catN ?_ (fun sv ss hs=>?_);omega)|refine v_put (fun sm hm=>?_)|refine v_del (fun sm hm=>?_)|(refine v_sb ?_ (fun su (And.intro hs hln)=>?_);omega)|refine v_1lk (fun lv hlk=>?_) (fun hlk=>?_)|refine v_ment (fun st sm hm hst=>?_)|refine v_esto (fun sm hm=>?_)|refine v_rng (fun ri ti hit=>?_)|refine v_clone (fun bc sc hcl=>?_)|refine v_yw ?_|(refine v_make ?_ (fun sv ss hs hln=>?_);omega)|refine ⟨?_,?_,?_⟩|refine ⟨?_,?_⟩|(refine v_tyc ?_ ?_;omega)|(refine v_tycT (by decide +kernel) ?_ ?_;omega)|refine v_tValT (by decide +kernel) ?_|(refine v_tsb ?_ (fun su (And.intro hs hln)=>?_);omega)|refine v_tlk (fun lv hlk=>?_) (fun hlk=>?_)|refine v_tlkT (by decide +kernel) (fun lv hlk=>?_) (fun hlk=>?_)|refine v_tyw ?_|refine v_drawn0 (id:=1) pl33_1 (by kernel_rfl) ?_|refine v_drawnK (id:=5) 7 pl33_5 (by kernel_rfl) ?_|fail)
  refine v_nxt (fun hl => ?_) (fun k v ts hkl hkm hit2 hicu => ?_)
  · subst hl
    repeat' (first | refine stp ?_|(refine v_spT ?_ ?_;omega)|(refine v_spF ?_ ?_;omega)|refine v_spD (fun hc=>?_) (fun hc=>?_)|refine v_spB (fun hc=>?_) (fun hc=>?_)|(refine v_yc ?_ ?_;omega)|refine v_alloc' (fun ba=>?_)|refine v_box (fun bb=>?_)|refine v_lit (fun bl=>?_)|refine v_makeMap (fun bm=>?_)|(refine v_push ?_ (fun sv ss hs hln=>?_);omega)|(refine v_push0 ?_ (fun sv ss hs=>?_);omega)|(refine v_set ?_ (fun ss hs hln=>?_);omega)|(refine v_cat ?_ (fun sv ss hs hln=>?_);omega)|(refine v_cat0 ?_ (fun sv ss hs=>?_);omega)|(refine v_catN ?_ (fun sv ss hs=>?_);omega)|refine v_put (fun sm hm=>?_)|refine v_del (fun sm hm=>?_)|(refine v_sb ?_ (fun su (And.intro hs hln)=>?_);omega)|refine v_1lk (fun lv hlk=>?_) (fun hlk=>?_)|refine v_ment (fun st sm hm hst=>?_)|refine v_esto (fun sm hm=>?_)|refine v_rng (fun ri ti hit=>?_)|refine v_clone (fun bc sc hcl=>?_)|refine v_yw ?_|(refine v_make ?_ (fun sv ss hs hln=>?_);omega)|refine ⟨?_,?_,?_⟩|refine ⟨?_,?_⟩|(refine v_tyc ?_ ?_;omega)|(refine v_tycT (by decide +kernel) ?_ ?_;omega)|refine v_tValT (by decide +kernel) ?_|(refine v_tsb ?_ (fun su (And.intro hs hln)=>?_);omega)|refine v_tlk (fun lv hlk=>?_) (fun hlk=>?_)|refine v_tlkT (by decide +kernel) (fun lv hlk=>?_) (fun hlk=>?_)|refine v_tyw ?_|refine v_drawn0 (id:=1) pl33_1 (by kernel_rfl) ?_|refine v_drawnK (id:=5) 7 pl33_5 (by kernel_rfl) ?_|fail)
    have hnn : (nm.map (·.1)).Nodup := by obtain ⟨_, _, _, _, _, h, _⟩ := i2.out; exact h
    have heq : ∀ k, mget NL k = mget K.shut k := fun k => by rw [i4]; rfl
    refine v_o1 Try.results33 ⟨bb, ⟨K.least, K.boxes, K.texts, NL⟩, rfl, ⟨rfl, rfl, rfl, heq, ?_⟩, c1, c2, c3, bm, t1, t2, t3, ns, nm, nh, rfl, g1, g2, g3, i2, i3⟩ ⟨_, inferInstance⟩
    have := mget_perm (m := NL) (m' := K.shut) (by rw [← i3.keys]; exact hnn) (by rw [← h5.keys]; exact hnd) heq
    exact (this.map (·.2.length)).sum_nat
  · have hgl : mget left k = some v := mem_mget i5 hkl
    obtain ⟨l, s, hl, ho, hsub⟩ := h5.mem hnd hkm
    have hsg : SegIn s [[(bk, .cells #[.map (some b1), .map (some b2), .map (some b3), .map (some b4)] 81 (0, 0))], s1, s2, s3, s4, sh] := ⟨fun x hx => by simp [hsub x hx]⟩
    have htg := tot_get K.shut k
    rw [hl] at htg
    dsimp only [Option.getD_some] at htg
    repeat' (first | refine stp ?_|(refine v_spT ?_ ?_;omega)|(refine v_spF ?_ ?_;omega)|refine v_spD (fun hc=>?_) (fun hc=>?_)|refine v_spB (fun hc=>?_) (fun hc=>?_)|(refine v_yc ?_ ?_;omega)|refine v_alloc' (fun ba=>?_)|refine v_box (fun bb=>?_)|refine v_lit (fun bl=>?_)|refine v_makeMap (fun bm=>?_)|(refine v_push ?_ (fun sv ss hs hln=>?_);omega)|(refine v_push0 ?_ (fun sv ss hs=>?_);omega)|(refine v_set ?_ (fun ss hs hln=>?_);omega)|(refine v_cat ?_ (fun sv ss hs hln=>?_);omega)|(refine v_cat0 ?_ (fun sv ss hs=>?_);omega)|(refine v_catN ?_ (fun sv ss hs=>?_);omega)|refine v_put (fun sm hm=>?_)|refine v_del (fun sm hm=>?_)|(refine v_sb ?_ (fun su (And.intro hs hln)=>?_);omega)|refine v_1lk (fun lv hlk=>?_) (fun hlk=>?_)|refine v_ment (fun st sm hm hst=>?_)|refine v_esto (fun sm hm=>?_)|refine v_rng (fun ri ti hit=>?_)|refine v_clone (fun bc sc hcl=>?_)|refine v_yw ?_|(refine v_make ?_ (fun sv ss hs hln=>?_);omega)|refine ⟨?_,?_,?_⟩|refine ⟨?_,?_⟩|(refine v_tyc ?_ ?_;omega)|(refine v_tycT (by decide +kernel) ?_ ?_;omega)|refine v_tValT (by decide +kernel) ?_|(refine v_tsb ?_ (fun su (And.intro hs hln)=>?_);omega)|refine v_tlk (fun lv hlk=>?_) (fun hlk=>?_)|refine v_tlkT (by decide +kernel) (fun lv hlk=>?_) (fun hlk=>?_)|refine v_tyw ?_|refine v_drawn0 (id:=1) pl33_1 (by kernel_rfl) ?_|refine v_drawnK (id:=5) 7 pl33_5 (by kernel_rfl) ?_|fail)
    refine v_callR (boxClone_s ho (by omega)) ?_
    rintro v' Γ' ⟨s', ho', rfl⟩
    (try dsimp only [List.cons_append, List.nil_append])
    obtain ⟨s0, h', _, hp, hnew⟩ := i3.at k
    obtain ⟨h'', hfam, hperm⟩ := hnew v' l s' ho'
    repeat' (first | refine stp ?_|(refine v_spT ?_ ?_;omega)|(refine v_spF ?_ ?_;omega)|refine v_spD (fun hc=>?_) (fun hc=>?_)|refine v_spB (fun hc=>?_) (fun hc=>?_)|(refine v_yc ?_ ?_;omega)|refine v_alloc' (fun ba=>?_)|refine v_box (fun bb=>?_)|refine v_lit (fun bl=>?_)|refine v_makeMap (fun bm=>?_)|(refine v_push ?_ (fun sv ss hs hln=>?_);omega)|(refine v_push0 ?_ (fun sv ss hs=>?_);omega)|(refine v_set ?_ (fun ss hs hln=>?_);omega)|(refine v_cat ?_ (fun sv ss hs hln=>?_);omega)|(refine v_cat0 ?_ (fun sv ss hs=>?_);omega)|(refine v_catN ?_ (fun sv ss hs=>?_);omega)|refine v_put (fun sm hm=>?_)|refine v_del (fun sm hm=>?_)|(refine v_sb ?_ (fun su (And.intro hs hln)=>?_);omega)|refine v_1lk (fun lv hlk=>?_) (fun hlk=>?_)|refine v_ment (fun st sm hm hst=>?_)|refine v_esto (fun sm hm=>?_)|refine v_rng (fun ri ti hit=>?_)|refine v_clone (fun bc sc hcl=>?_)|refine v_yw ?_|(refine v_make ?_ (fun sv ss hs hln=>?_);omega)|refine ⟨?_,?_,?_⟩|refine ⟨?_,?_⟩|(refine v_tyc ?_ ?_;omega)|(refine v_tycT (by decide +kernel) ?_ ?_;omega)|refine v_tValT (by decide +kernel) ?_|(refine v_tsb ?_ (fun su (And.intro hs hln)=>?_);omega)|refine v_tlk (fun lv hlk=>?_) (fun hlk=>?_)|refine v_tlkT (by decide +kernel) (fun lv hlk=>?_) (fun hlk=>?_)|refine v_tyw ?_|refine v_drawn0 (id:=1) pl33_1 (by kernel_rfl) ?_|refine v_drawnK (id:=5) 7 pl33_5 (by kernel_rfl) ?_|fail)
    refine v_spl hp ?_
    refine v_jn hperm ?_
    refine v_again ⟨mdel left k, ts, mput nm k v', sm, mput NL k l, h''⟩ ?_ rfl inferInstance ⟨hit2, hm, hfam, fun j => ?_, mdel_nodup i5⟩
    · dsimp only
      obtain ⟨i, hi, he⟩ := List.getElem_of_mem hkl
      have hk' : (left.map (·.1))[i]? = some k := by rw [List.getElem?_map, List.getElem?_eq_getElem hi, he]; rfl
      rw [mdel_erase i5 hk', List.length_eraseIdx]
      simp [hi]; omega
    · dsimp only
      rw [mget_mput, mget_mdel]
      by_cases hj : j = k
      · subst hj; simp [hl]
      · simp only [if_neg hj]; exact i4 j
end Go.Proofs.Ytedemhmlaodblaa
