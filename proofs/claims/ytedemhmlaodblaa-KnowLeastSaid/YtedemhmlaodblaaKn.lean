/- Contracts of know's functions. -/
import Derived.Test.YtedemhmlaodblaaKg
namespace Go.Proofs.Ytedemhmlaodblaa
open Go Go.SX Go.RowKit
set_option maxRecDepth 100000
set_option linter.unusedSimpArgs false
set_option linter.unusedVariables false
set_option maxHeartbeats 0
set_option synthInstance.maxSize 100000
set_option synthInstance.maxHeartbeats 400000
abbrev vid (x : Value) : Value := x
instance vvtVid (u : Value) : Vvt vid u u := ⟨rfl⟩
/-- slices by keys, and where they lie -/
inductive Fam : List (Int × Value) → List (Int × List ApiBox) → Hp → Prop
  | nil : Fam [] [] []
  | cons {k : Int} {v : Value} {l : List ApiBox} {s : Hp} {m : List (Int × Value)} {L : List (Int × List ApiBox)} {t : Hp} : OwnS v 34 ApiBox 4 cvApiBox l s → Fam m L t → Fam ((k, v) :: m) ((k, l) :: L) (s ++ t)
abbrev nilS : Value := .slice none 0 0
theorem Fam.at {m : List (Int × Value)} {L : List (Int × List ApiBox)} {h : Hp} (H : Fam m L h) (k : Int) : ∃ s h', OwnS ((mget m k).getD nilS) 34 ApiBox 4 cvApiBox ((mget L k).getD []) s ∧ h.Perm (s ++ h') ∧
    ∀ v' l' s', OwnS v' 34 ApiBox 4 cvApiBox l' s' → ∃ h'', Fam (mput m k v') (mput L k l') h'' ∧ h''.Perm (s' ++ h') := by
  induction H with
  | nil => exact ⟨[], [], OwnS.nil, by simp, fun v' l' s' hs => ⟨s' ++ [], Fam.cons hs Fam.nil, by simp⟩⟩
  | @cons j v l s m L t ho hf ih =>
    by_cases e : k = j
    · subst e
      refine ⟨s, t, by simpa [mget] using ho, List.Perm.refl _, fun v' l' s' hs => ⟨s' ++ t, ?_, List.Perm.refl _⟩⟩
      simp only [mput, if_true]
      exact Fam.cons hs hf
    · obtain ⟨s1, h1, g1, g2, g3⟩ := ih
      refine ⟨s1, s ++ h1, by simpa [mget, e] using g1, ?_, fun v' l' s' hs => ?_⟩
      · refine (g2.append_left s).trans ?_
        rw [← List.append_assoc, ← List.append_assoc]
        exact List.perm_append_comm.append_right _
      · obtain ⟨h2, f2, p2⟩ := g3 v' l' s' hs
        refine ⟨s ++ h2, ?_, ?_⟩
        · simp only [mput, if_neg e]
          exact Fam.cons ho f2
        · refine (p2.append_left s).trans ?_
          rw [← List.append_assoc, ← List.append_assoc]
          exact List.perm_append_comm.append_right _
/-- what know holds -/
structure KnowM where
  least : List (Int × Int)
  boxes : List (ApiBox × Int)
  texts : List (ApiSealed × Int)
  shut : List (Int × List ApiBox)
def KnowA (bk : Nat) (K : KnowM) (Γ : List Hp) : Prop := ∃ b1 b2 b3 b4 s1 s2 s3 s4 sm sh, Γ = [[(bk, .cells #[.map (some b1), .map (some b2), .map (some b3), .map (some b4)] 81 (0, 0))], s1, s2, s3, s4, sh] ∧
  OwnM b1 Int Int ik ik K.least s1 ∧ OwnM b2 ApiBox Int avApiBox ik K.boxes s2 ∧ OwnM b3 ApiSealed Int avApiSealed ik K.texts s3 ∧ OwnM b4 Int Value ik vid sm s4 ∧ Fam sm K.shut sh
theorem knew_s : SX.Spec Try.prog 21 #[] [] [] fun v Γ => ∃ bk, v = .pointer (some ⟨bk, 0, none⟩) ∧ KnowA bk ⟨[], [], [], []⟩ Γ := by
  refine spec_of0 Try.func21 Try.ntmps21 rfl rfl (fun M w0 => ?_)
  repeat' (first | refine stp ?_|(refine v_spT ?_ ?_;omega)|(refine v_spF ?_ ?_;omega)|refine v_spD (fun hc=>?_) (fun hc=>?_)|refine v_spB (fun hc=>?_) (fun hc=>?_)|(refine v_yc ?_ ?_;omega)|refine v_alloc' (fun ba=>?_)|refine v_box (fun bb=>?_)|refine v_lit (fun bl=>?_)|refine v_makeMap (fun bm=>?_)|(refine v_push ?_ (fun sv ss hs hln=>?_);omega)|(refine v_push0 ?_ (fun sv ss hs=>?_);omega)|(refine v_set ?_ (fun ss hs hln=>?_);omega)|(refine v_cat ?_ (fun sv ss hs hln=>?_);omega)|(refine v_cat0 ?_ (fun sv ss hs=>?_);omega)|(refine v_catN ?_ (fun sv ss hs=>?_);omega)|refine v_put (fun sm hm=>?_)|refine v_del (fun sm hm=>?_)|(refine v_sb ?_ (fun su (And.intro hs hln)=>?_);omega)|refine v_1lk (fun lv hlk=>?_) (fun hlk=>?_)|refine v_ment (fun st sm hm hst=>?_)|refine v_esto (fun sm hm=>?_)|refine v_rng (fun ri ti hit=>?_)|refine v_clone (fun bc sc hcl=>?_)|refine v_yw ?_|(refine v_make ?_ (fun sv ss hs hln=>?_);omega)|fail)
  rename_i b1 b2 b3
  refine v_o1 Try.results21 ⟨_, rfl, b1, b2, b3, bm, _, _, _, _, [], [], rfl, ⟨MpAt.new _⟩, ⟨MpAt.new _⟩, ⟨MpAt.new _⟩, ⟨MpAt.new _⟩, Fam.nil⟩ ⟨_, inferInstance⟩
def KnowM.had (K : KnowM) (b s : Int) : Prop := Gd b s ∧ (32768 ≤ b ∨ ∃ t, mget K.least b = some t ∧ t ≤ s)
instance (K : KnowM) (b s : Int) : Decidable (K.had b s) := by
  unfold KnowM.had
  cases h : mget K.least b with
  | none => exact decidable_of_iff (Gd b s ∧ 32768 ≤ b) (by simp)
  | some t => exact decidable_of_iff (Gd b s ∧ (32768 ≤ b ∨ t ≤ s)) (by simp)
theorem has_s {bk : Nat} {K : KnowM} {Γ : List Hp} (h : KnowA bk K Γ) (b s : Int) : SX.Spec Try.prog 20 #[.pointer (some ⟨bk, 0, none⟩), kv b s] Γ [] fun v Γ' => Γ' = [] ∧ v = .bool (decide (K.had b s)) := by
  obtain ⟨b1, b2, b3, b4, s1, s2, s3, s4, sm, sh, rfl, h1, h2, h3, h4, h5⟩ := h
  refine spec_of2 Try.func20 Try.ntmps20 rfl rfl (fun M w0 => ?_)
  repeat' (first | refine stp ?_|(refine v_spT ?_ ?_;omega)|(refine v_spF ?_ ?_;omega)|refine v_spD (fun hc=>?_) (fun hc=>?_)|refine v_spB (fun hc=>?_) (fun hc=>?_)|(refine v_yc ?_ ?_;omega)|refine v_alloc' (fun ba=>?_)|refine v_box (fun bb=>?_)|refine v_lit (fun bl=>?_)|refine v_makeMap (fun bm=>?_)|(refine v_push ?_ (fun sv ss hs hln=>?_);omega)|(refine v_push0 ?_ (fun sv ss hs=>?_);omega)|(refine v_set ?_ (fun ss hs hln=>?_);omega)|(refine v_cat ?_ (fun sv ss hs hln=>?_);omega)|(refine v_cat0 ?_ (fun sv ss hs=>?_);omega)|(refine v_catN ?_ (fun sv ss hs=>?_);omega)|refine v_put (fun sm hm=>?_)|refine v_del (fun sm hm=>?_)|(refine v_sb ?_ (fun su (And.intro hs hln)=>?_);omega)|refine v_1lk (fun lv hlk=>?_) (fun hlk=>?_)|refine v_ment (fun st sm hm hst=>?_)|refine v_esto (fun sm hm=>?_)|refine v_rng (fun ri ti hit=>?_)|refine v_clone (fun bc sc hcl=>?_)|refine v_yw ?_|(refine v_make ?_ (fun sv ss hs hln=>?_);omega)|refine ⟨?_,?_,?_⟩|refine ⟨?_,?_⟩|(refine v_tyc ?_ ?_;omega)|(refine v_tycT (by decide +kernel) ?_ ?_;omega)|refine v_tValT (by decide +kernel) ?_|(refine v_tsb ?_ (fun su (And.intro hs hln)=>?_);omega)|refine v_tlk (fun lv hlk=>?_) (fun hlk=>?_)|refine v_tlkT (by decide +kernel) (fun lv hlk=>?_) (fun hlk=>?_)|refine v_tyw ?_|refine v_drawn0 (id:=3) pl20_3 (by kernel_rfl) ?_|fail)
  · refine v_o1 Try.results20 ⟨rfl, bF (fun h => hc h.1)⟩ ⟨_, inferInstance⟩
  all_goals rename_i hg
  all_goals have hg := Decidable.not_not.1 hg
  all_goals refine v_o1 Try.results20 ⟨rfl, ?_⟩ ⟨_, inferInstance⟩
  · exact bT ⟨hg, .inl hc⟩
  · refine bD ?_
    simp [KnowM.had, hg, hc, hlk]
  · exact bT ⟨hg, .inl hc⟩
  · refine bF ?_
    simp [KnowM.had, hg, hc, hlk]
def opn (x : ApiKey) (W : List ApiBox) : List ApiKey := (W.filter fun b => decide (Gv x.Base x.Step b.Under.Base b.Under.Step)).map (·.Load)
def kep (x : ApiKey) (W : List ApiBox) : List ApiBox := W.filter fun b => !decide (Gv x.Base x.Step b.Under.Base b.Under.Step)
theorem opn_step (x : ApiKey) (W : List ApiBox) {i : Nat} (h : i < W.length) : opn x (W.take (i + 1)) = opn x (W.take i) ++ (if Gv x.Base x.Step W[i].Under.Base W[i].Under.Step then [W[i].Load] else []) := by
  unfold opn
  rw [List.take_add_one, List.filter_append, List.map_append, List.getElem?_eq_getElem h]
  by_cases hp : Gv x.Base x.Step W[i].Under.Base W[i].Under.Step <;> simp [hp]
theorem kep_step (x : ApiKey) (W : List ApiBox) {i : Nat} (h : i < W.length) : kep x (W.take (i + 1)) = kep x (W.take i) ++ (if Gv x.Base x.Step W[i].Under.Base W[i].Under.Step then [] else [W[i]]) := by
  unfold kep
  rw [List.take_add_one, List.filter_append, List.getElem?_eq_getElem h]
  by_cases hp : Gv x.Base x.Step W[i].Under.Base W[i].Under.Step <;> simp [hp]
theorem opn_kep (x : ApiKey) (W : List ApiBox) : (opn x W).length + (kep x W).length = W.length := by
  unfold opn kep
  induction W with
  | nil => rfl
  | cons b W ih => by_cases h : Gv x.Base x.Step b.Under.Base b.Under.Step <;> simp [h] at ih ⊢ <;> omega
/-- what is learned, at once -/
def KnowM.take (K : KnowM) (x : ApiKey) : KnowM := { K with least := mput K.least x.Base x.Step, shut := mput K.shut x.Base (kep x ((mget K.shut x.Base).getD [])) }
/-- what is opened by it -/
def KnowM.opened (K : KnowM) (x : ApiKey) : List ApiKey := opn x ((mget K.shut x.Base).getD [])
inductive LearnR : KnowM → List ApiKey → KnowM → Prop
  | done {K : KnowM} : LearnR K [] K
  | skip {K K' : KnowM} {x : ApiKey} {l : List ApiKey} : (Gd x.Base x.Step → K.had x.Base x.Step) → LearnR K l K' → LearnR K (x :: l) K'
  | take {K K' : KnowM} {x : ApiKey} {l : List ApiKey} : Gd x.Base x.Step → ¬ K.had x.Base x.Step → LearnR (K.take x) (l ++ K.opened x) K' → LearnR K (x :: l) K'
def tot (m : List (Int × List ApiBox)) : Nat := (m.map (·.2.length)).sum
theorem tot_mput (m : List (Int × List ApiBox)) (k : Int) (l : List ApiBox) : tot (mput m k l) + ((mget m k).getD []).length = tot m + l.length := by
  induction m with
  | nil => simp [tot, mput, mget]
  | cons p r ih =>
    obtain ⟨j, q⟩ := p
    by_cases e : k = j
    · subst e; simp [tot, mput, mget]; omega
    · simp only [tot, mput, mget, if_neg e, List.map_cons, List.sum_cons] at ih ⊢; omega
theorem tot_get (m : List (Int × List ApiBox)) (k : Int) : ((mget m k).getD []).length ≤ tot m := by
  induction m with
  | nil => simp [tot, mget]
  | cons p r ih =>
    obtain ⟨j, q⟩ := p
    by_cases e : k = j
    · subst e; simp [tot, mget]
    · simp only [tot, mget, if_neg e, List.map_cons, List.sum_cons] at ih ⊢; omega
structure LnG where
  x1 : Int
  x2 : Int
  tv : Value
  tl : List ApiKey
  ts : Hp
  K : KnowM
  s1 : Hp
  s4 : Hp
  sm : List (Int × Value)
  sh : Hp
structure LnOk (K0 : KnowM) (x0 : ApiKey) (b1 b4 : Nat) (g : LnG) : Prop where
  go : ∀ K', LearnR g.K g.tl K' → LearnR K0 [x0] K'
  bx : g.K.boxes = K0.boxes
  tx : g.K.texts = K0.texts
  ht : OwnS g.tv 25 ApiKey 2 cvApiKey g.tl g.ts
  h1 : OwnM b1 Int Int ik ik g.K.least g.s1
  h4 : OwnM b4 Int Value ik vid g.sm g.s4
  hf : Fam g.sm g.K.shut g.sh
  hm : tot g.K.shut + g.tl.length ≤ tot K0.shut + 1
structure InG where
  i : Nat
  tv : Value
  ts : Hp
  pv : Value
  ps : Hp
  s4 : Hp
structure InOk (sm : List (Int × Value)) (y : ApiKey) (tl : List ApiKey) (W : List ApiBox) (b4 : Nat) (g : InG) : Prop where
  le : g.i ≤ W.length
  ht : OwnS g.tv 25 ApiKey 2 cvApiKey (tl ++ opn y (W.take g.i)) g.ts
  hp : OwnS g.pv 34 ApiBox 4 cvApiBox (kep y (W.take g.i)) g.ps
  h4 : OwnM b4 Int Value ik vid (mput sm y.Base g.pv) g.s4
theorem learn_s {bk : Nat} {K : KnowM} {Γ : List Hp} (h : KnowA bk K Γ) (x : ApiKey) (hb : (tot K.shut + 3) * 32 ≤ 140737488355328) : SX.Spec Try.prog 31 #[.pointer (some ⟨bk, 0, none⟩), avApiKey x] [] Γ fun v Γ' => v = .tuple #[] ∧ ∃ K', LearnR K [x] K' ∧ KnowA bk K' Γ' := by
  obtain ⟨b1, b2, b3, b4, s1, s2, s3, s4, zm, sh, rfl, h1, h2, h3, h4, h5⟩ := h
  refine spec_of2 Try.func31 Try.ntmps31 rfl rfl (fun M w0 => ?_)
  repeat' (first | refine stp ?_|(refine v_spT ?_ ?_;omega)|(refine v_spF ?_ ?_;omega)|refine v_spD (fun hc=>?_) (fun hc=>?_)|refine v_spB (fun hc=>?_) (fun hc=>?_)|(refine v_yc ?_ ?_;omega)|refine v_alloc' (fun ba=>?_)|refine v_box (fun bb=>?_)|refine v_lit (fun bl=>?_)|refine v_makeMap (fun bm=>?_)|(refine v_push ?_ (fun sv ss hs hln=>?_);omega)|(refine v_push0 ?_ (fun sv ss hs=>?_);omega)|(refine v_set ?_ (fun ss hs hln=>?_);omega)|(refine v_cat ?_ (fun sv ss hs hln=>?_);omega)|(refine v_cat0 ?_ (fun sv ss hs=>?_);omega)|(refine v_catN ?_ (fun sv ss hs=>?_);omega)|refine v_put (fun sm hm=>?_)|refine v_del (fun sm hm=>?_)|(refine v_sb ?_ (fun su (And.intro hs hln)=>?_);omega)|refine v_1lk (fun lv hlk=>?_) (fun hlk=>?_)|refine v_ment (fun st sm hm hst=>?_)|refine v_esto (fun sm hm=>?_)|refine v_rng (fun ri ti hit=>?_)|refine v_clone (fun bc sc hcl=>?_)|refine v_yw ?_|(refine v_make ?_ (fun sv ss hs hln=>?_);omega)|refine ⟨?_,?_,?_⟩|refine ⟨?_,?_⟩|(refine v_tyc ?_ ?_;omega)|(refine v_tycT (by decide +kernel) ?_ ?_;omega)|refine v_tValT (by decide +kernel) ?_|(refine v_tsb ?_ (fun su (And.intro hs hln)=>?_);omega)|refine v_tlk (fun lv hlk=>?_) (fun hlk=>?_)|refine v_tlkT (by decide +kernel) (fun lv hlk=>?_) (fun hlk=>?_)|refine v_tyw ?_|refine v_drawnK (id:=3) 5 pl31_3 (by kernel_rfl) ?_|refine v_drawnK (id:=5) 8 pl31_5 (by kernel_rfl) ?_|refine v_drawn0 (id:=6) pl31_6 (by kernel_rfl) ?_|refine v_drawnK (id:=7) 6 pl31_7 (by kernel_rfl) ?_|refine v_drawnK (id:=13) 15 pl31_13 (by kernel_rfl) ?_|fail)
  have hl := OwnS.lit1 (e := 25) (b := bl) (cs := #[.int .i64 x.Base, .int .i64 x.Step]) (cv := cvApiKey) (sz := 2) x (fun _ => rfl) rfl
  refine v_lp [4] [0, 3] (fun g : LnG => [g.tv]) (fun g => [[(bb, .cells #[.int .i64 g.x1, .int .i64 g.x2] 25 (0, 0))], g.ts, g.s1, g.s4, g.sh]) (LnOk K x b1 b4) (fun g => tot g.K.shut + g.tl.length) ⟨x.Base, x.Step, _, [x], _, K, s1, s4, zm, sh⟩ (fun _ => rfl) rfl inferInstance
    ⟨fun _ h => h, rfl, rfl, hl, h1, h4, h5, by simp⟩ ?_
  clear h1 h4 h5 hl s1 s4 zm sh
  rintro ⟨x1, x2, tv, tl, ts, K1, s1, s4, zm, sh⟩ ⟨hgo, hbx, htx, ht, h1, h4, h5, hmm⟩
  dsimp only at hgo hbx htx ht h1 h4 h5 hmm ⊢
  rw [← hbx] at h2
  rw [← htx] at h3
  (try dsimp only [zipE_c, zipE_n, List.cons_append, List.nil_append])
  cases tl with
  | nil =>
    have hlc : ([] : List ApiKey).length = 0 := rfl
    repeat' (first | refine stp ?_|(refine v_spT ?_ ?_;omega)|(refine v_spF ?_ ?_;omega)|refine v_spD (fun hc=>?_) (fun hc=>?_)|refine v_spB (fun hc=>?_) (fun hc=>?_)|(refine v_yc ?_ ?_;omega)|refine v_alloc' (fun ba=>?_)|refine v_box (fun bb=>?_)|refine v_lit (fun bl=>?_)|refine v_makeMap (fun bm=>?_)|(refine v_push ?_ (fun sv ss hs hln=>?_);omega)|(refine v_push0 ?_ (fun sv ss hs=>?_);omega)|(refine v_set ?_ (fun ss hs hln=>?_);omega)|(refine v_cat ?_ (fun sv ss hs hln=>?_);omega)|(refine v_cat0 ?_ (fun sv ss hs=>?_);omega)|(refine v_catN ?_ (fun sv ss hs=>?_);omega)|refine v_put (fun sm hm=>?_)|refine v_del (fun sm hm=>?_)|(refine v_sb ?_ (fun su (And.intro hs hln)=>?_);omega)|refine v_1lk (fun lv hlk=>?_) (fun hlk=>?_)|refine v_ment (fun st sm hm hst=>?_)|refine v_esto (fun sm hm=>?_)|refine v_rng (fun ri ti hit=>?_)|refine v_clone (fun bc sc hcl=>?_)|refine v_yw ?_|(refine v_make ?_ (fun sv ss hs hln=>?_);omega)|refine ⟨?_,?_,?_⟩|refine ⟨?_,?_⟩|(refine v_tyc ?_ ?_;omega)|(refine v_tycT (by decide +kernel) ?_ ?_;omega)|refine v_tValT (by decide +kernel) ?_|(refine v_tsb ?_ (fun su (And.intro hs hln)=>?_);omega)|refine v_tlk (fun lv hlk=>?_) (fun hlk=>?_)|refine v_tlkT (by decide +kernel) (fun lv hlk=>?_) (fun hlk=>?_)|refine v_tyw ?_|refine v_drawnK (id:=3) 5 pl31_3 (by kernel_rfl) ?_|refine v_drawnK (id:=5) 8 pl31_5 (by kernel_rfl) ?_|refine v_drawn0 (id:=6) pl31_6 (by kernel_rfl) ?_|refine v_drawnK (id:=7) 6 pl31_7 (by kernel_rfl) ?_|refine v_drawnK (id:=13) 15 pl31_13 (by kernel_rfl) ?_|fail)
    refine v_o0 Try.results31 ⟨rfl, K1, hgo _ .done, b1, b2, b3, b4, s1, s2, s3, s4, zm, sh, rfl, h1, h2, h3, h4, h5⟩ ⟨_, inferInstance⟩
  | cons y tl =>
    simp only [List.length_cons] at hmm
    have hlc : (y :: tl).length = tl.length + 1 := rfl
    repeat' (first | refine stp ?_|(refine v_spT ?_ ?_;omega)|(refine v_spF ?_ ?_;omega)|refine v_spD (fun hc=>?_) (fun hc=>?_)|refine v_spB (fun hc=>?_) (fun hc=>?_)|(refine v_yc ?_ ?_;omega)|refine v_alloc' (fun ba=>?_)|refine v_box (fun bb=>?_)|refine v_lit (fun bl=>?_)|refine v_makeMap (fun bm=>?_)|(refine v_push ?_ (fun sv ss hs hln=>?_);omega)|(refine v_push0 ?_ (fun sv ss hs=>?_);omega)|(refine v_set ?_ (fun ss hs hln=>?_);omega)|(refine v_cat ?_ (fun sv ss hs hln=>?_);omega)|(refine v_cat0 ?_ (fun sv ss hs=>?_);omega)|(refine v_catN ?_ (fun sv ss hs=>?_);omega)|refine v_put (fun sm hm=>?_)|refine v_del (fun sm hm=>?_)|(refine v_sb ?_ (fun su (And.intro hs hln)=>?_);omega)|refine v_1lk (fun lv hlk=>?_) (fun hlk=>?_)|refine v_ment (fun st sm hm hst=>?_)|refine v_esto (fun sm hm=>?_)|refine v_rng (fun ri ti hit=>?_)|refine v_clone (fun bc sc hcl=>?_)|refine v_yw ?_|(refine v_make ?_ (fun sv ss hs hln=>?_);omega)|refine ⟨?_,?_,?_⟩|refine ⟨?_,?_⟩|(refine v_tyc ?_ ?_;omega)|(refine v_tycT (by decide +kernel) ?_ ?_;omega)|refine v_tValT (by decide +kernel) ?_|(refine v_tsb ?_ (fun su (And.intro hs hln)=>?_);omega)|refine v_tlk (fun lv hlk=>?_) (fun hlk=>?_)|refine v_tlkT (by decide +kernel) (fun lv hlk=>?_) (fun hlk=>?_)|refine v_tyw ?_|refine v_drawnK (id:=3) 5 pl31_3 (by kernel_rfl) ?_|refine v_drawnK (id:=5) 8 pl31_5 (by kernel_rfl) ?_|refine v_drawn0 (id:=6) pl31_6 (by kernel_rfl) ?_|refine v_drawnK (id:=7) 6 pl31_7 (by kernel_rfl) ?_|refine v_drawnK (id:=13) 15 pl31_13 (by kernel_rfl) ?_|fail)
    all_goals simp only [Int.toNat_zero, Int.toNat_one, List.getElem_cons_zero, List.drop_succ_cons, List.drop_zero] at hs hc ⊢
    · refine v_again ⟨y.Base, y.Step, su, tl, ts, K1, s1, s4, zm, sh⟩ (by dsimp only [List.length_cons]; omega) rfl inferInstance ⟨fun K' h => hgo _ (.skip (fun h' => absurd h' hc) h), hbx, htx, hs, h1, h4, h5, by dsimp only; omega⟩
    have hgd := Decidable.not_not.1 hc
    refine v_callR (has_s (K := K1) ⟨b1, b2, b3, b4, s1, s2, s3, s4, zm, sh, rfl, h1, h2, h3, h4, h5⟩ _ _) ?_
    rintro v Γ' ⟨rfl, rfl⟩
    (try dsimp only [List.cons_append, List.nil_append])
    obtain ⟨ws, h', hw, hp, hnew⟩ := h5.at y.Base
    clear hc hln ht
    repeat' (first | refine stp ?_|(refine v_spT ?_ ?_;omega)|(refine v_spF ?_ ?_;omega)|refine v_spD (fun hc=>?_) (fun hc=>?_)|refine v_spB (fun hc=>?_) (fun hc=>?_)|(refine v_yc ?_ ?_;omega)|refine v_alloc' (fun ba=>?_)|refine v_box (fun bb=>?_)|refine v_lit (fun bl=>?_)|refine v_makeMap (fun bm=>?_)|(refine v_push ?_ (fun sv ss hs hln=>?_);omega)|(refine v_push0 ?_ (fun sv ss hs=>?_);omega)|(refine v_set ?_ (fun ss hs hln=>?_);omega)|(refine v_cat ?_ (fun sv ss hs hln=>?_);omega)|(refine v_cat0 ?_ (fun sv ss hs=>?_);omega)|(refine v_catN ?_ (fun sv ss hs=>?_);omega)|refine v_put (fun sm hm=>?_)|refine v_del (fun sm hm=>?_)|(refine v_sb ?_ (fun su (And.intro hs hln)=>?_);omega)|refine v_1lk (fun lv hlk=>?_) (fun hlk=>?_)|refine v_ment (fun st sm hm hst=>?_)|refine v_esto (fun sm hm=>?_)|refine v_rng (fun ri ti hit=>?_)|refine v_clone (fun bc sc hcl=>?_)|refine v_yw ?_|(refine v_make ?_ (fun sv ss hs hln=>?_);omega)|refine ⟨?_,?_,?_⟩|refine ⟨?_,?_⟩|(refine v_tyc ?_ ?_;omega)|(refine v_tycT (by decide +kernel) ?_ ?_;omega)|refine v_tValT (by decide +kernel) ?_|(refine v_tsb ?_ (fun su (And.intro hs hln)=>?_);omega)|refine v_tlk (fun lv hlk=>?_) (fun hlk=>?_)|refine v_tlkT (by decide +kernel) (fun lv hlk=>?_) (fun hlk=>?_)|refine v_tyw ?_|refine v_drawnK (id:=3) 5 pl31_3 (by kernel_rfl) ?_|refine v_drawnK (id:=5) 8 pl31_5 (by kernel_rfl) ?_|refine v_drawn0 (id:=6) pl31_6 (by kernel_rfl) ?_|refine v_drawnK (id:=7) 6 pl31_7 (by kernel_rfl) ?_|refine v_drawnK (id:=13) 15 pl31_13 (by kernel_rfl) ?_|fail)
    · refine v_again ⟨y.Base, y.Step, su, tl, ts, K1, s1, s4, zm, sh⟩ (by dsimp only [List.length_cons]; omega) rfl inferInstance ⟨fun K' h => hgo _ (.skip (fun _ => hc) h), hbx, htx, hs, h1, h4, h5, by dsimp only; omega⟩
    rename_i sl hml
    have htot := tot_mput K1.shut y.Base (kep y ((mget K1.shut y.Base).getD []))
    have htg := tot_get K1.shut y.Base
    have hok := opn_kep y ((mget K1.shut y.Base).getD [])
    have htake : (K1.take y).shut = mput K1.shut y.Base (kep y ((mget K1.shut y.Base).getD [])) := rfl
    have hopd : K1.opened y = opn y ((mget K1.shut y.Base).getD []) := rfl
    have hgo2 := fun K' h => hgo K' (.take hgd hc h)
    generalize hW : (mget K1.shut y.Base).getD [] = W at *
    refine v_spl hp ?_
    refine v_lp [4, 49] [0, 3, 47, 48] (fun g : InG => [g.tv, .int .i64 g.i]) (fun g => [g.ts, g.ps, g.s4]) (InOk zm y tl W b4) (fun g => W.length - g.i) ⟨0, su, ts, nilS, [], _⟩ (fun _ => rfl) rfl inferInstance ⟨Nat.zero_le _, by simpa [opn] using hs, OwnS.nil, hm⟩ ?_
    clear hm
    rintro ⟨i, tv', ts', pv, ps, s4'⟩ ⟨hi, g1, g2, g3⟩
    dsimp only at hi g1 g2 g3 ⊢
    have hol := opn_kep y (W.take i)
    have htl : (W.take i).length = i := by rw [List.length_take]; omega
    have hal : (tl ++ opn y (W.take i)).length = tl.length + (opn y (W.take i)).length := by simp
    (try dsimp only [zipE_c, zipE_n, List.cons_append, List.nil_append])
    repeat' (first | refine stp ?_|(refine v_spT ?_ ?_;omega)|(refine v_spF ?_ ?_;omega)|refine v_spD (fun hc=>?_) (fun hc=>?_)|refine v_spB (fun hc=>?_) (fun hc=>?_)|(refine v_yc ?_ ?_;omega)|refine v_alloc' (fun ba=>?_)|refine v_box (fun bb=>?_)|refine v_lit (fun bl=>?_)|refine v_makeMap (fun bm=>?_)|(refine v_push ?_ (fun sv ss hs hln=>?_);omega)|(refine v_push0 ?_ (fun sv ss hs=>?_);omega)|(refine v_set ?_ (fun ss hs hln=>?_);omega)|(refine v_cat ?_ (fun sv ss hs hln=>?_);omega)|(refine v_cat0 ?_ (fun sv ss hs=>?_);omega)|(refine v_catN ?_ (fun sv ss hs=>?_);omega)|refine v_put (fun sm hm=>?_)|refine v_del (fun sm hm=>?_)|(refine v_sb ?_ (fun su (And.intro hs hln)=>?_);omega)|refine v_1lk (fun lv hlk=>?_) (fun hlk=>?_)|refine v_ment (fun st sm hm hst=>?_)|refine v_esto (fun sm hm=>?_)|refine v_rng (fun ri ti hit=>?_)|refine v_clone (fun bc sc hcl=>?_)|refine v_yw ?_|(refine v_make ?_ (fun sv ss hs hln=>?_);omega)|refine ⟨?_,?_,?_⟩|refine ⟨?_,?_⟩|(refine v_tyc ?_ ?_;omega)|(refine v_tycT (by decide +kernel) ?_ ?_;omega)|refine v_tValT (by decide +kernel) ?_|(refine v_tsb ?_ (fun su (And.intro hs hln)=>?_);omega)|refine v_tlk (fun lv hlk=>?_) (fun hlk=>?_)|refine v_tlkT (by decide +kernel) (fun lv hlk=>?_) (fun hlk=>?_)|refine v_tyw ?_|refine v_drawnK (id:=3) 5 pl31_3 (by kernel_rfl) ?_|refine v_drawnK (id:=5) 8 pl31_5 (by kernel_rfl) ?_|refine v_drawn0 (id:=6) pl31_6 (by kernel_rfl) ?_|refine v_drawnK (id:=7) 6 pl31_7 (by kernel_rfl) ?_|fail)
    · refine v_again ⟨i + 1, sv, ss, pv, ps, s4'⟩ (by dsimp only; omega) rfl inferInstance ⟨by dsimp only; omega, ?_, ?_, g3⟩
      · rw [opn_step _ _ (by omega), if_pos hc, ← List.append_assoc]; exact hs
      · rw [kep_step _ _ (by omega), if_pos hc, List.append_nil]; exact g2
    · refine v_drawnE (id:=13) 16 plE31_13 [ps] (by kernel_rfl) ?_
      repeat' (first | refine stp ?_|(refine v_spT ?_ ?_;omega)|(refine v_spF ?_ ?_;omega)|refine v_spD (fun hc=>?_) (fun hc=>?_)|refine v_spB (fun hc=>?_) (fun hc=>?_)|(refine v_yc ?_ ?_;omega)|refine v_alloc' (fun ba=>?_)|refine v_box (fun bb=>?_)|refine v_lit (fun bl=>?_)|refine v_makeMap (fun bm=>?_)|(refine v_push ?_ (fun sv ss hs hln=>?_);omega)|(refine v_push0 ?_ (fun sv ss hs=>?_);omega)|(refine v_set ?_ (fun ss hs hln=>?_);omega)|(refine v_cat ?_ (fun sv ss hs hln=>?_);omega)|(refine v_cat0 ?_ (fun sv ss hs=>?_);omega)|(refine v_catN ?_ (fun sv ss hs=>?_);omega)|refine v_put (fun sm hm=>?_)|refine v_del (fun sm hm=>?_)|(refine v_sb ?_ (fun su (And.intro hs hln)=>?_);omega)|refine v_1lk (fun lv hlk=>?_) (fun hlk=>?_)|refine v_ment (fun st sm hm hst=>?_)|refine v_esto (fun sm hm=>?_)|refine v_rng (fun ri ti hit=>?_)|refine v_clone (fun bc sc hcl=>?_)|refine v_yw ?_|(refine v_make ?_ (fun sv ss hs hln=>?_);omega)|refine ⟨?_,?_,?_⟩|refine ⟨?_,?_⟩|(refine v_tyc ?_ ?_;omega)|(refine v_tycT (by decide +kernel) ?_ ?_;omega)|refine v_tValT (by decide +kernel) ?_|(refine v_tsb ?_ (fun su (And.intro hs hln)=>?_);omega)|refine v_tlk (fun lv hlk=>?_) (fun hlk=>?_)|refine v_tlkT (by decide +kernel) (fun lv hlk=>?_) (fun hlk=>?_)|refine v_tyw ?_|refine v_drawnK (id:=3) 5 pl31_3 (by kernel_rfl) ?_|refine v_drawnK (id:=5) 8 pl31_5 (by kernel_rfl) ?_|refine v_drawn0 (id:=6) pl31_6 (by kernel_rfl) ?_|refine v_drawnK (id:=7) 6 pl31_7 (by kernel_rfl) ?_|fail)
      rw [mput_mput] at hm
      refine v_again ⟨i + 1, tv', ts', sv, ss, sm⟩ (by dsimp only; omega) rfl inferInstance ⟨by dsimp only; omega, ?_, ?_, hm⟩
      · rw [opn_step _ _ (by omega), if_neg hc, List.append_nil]; exact g1
      · rw [kep_step _ _ (by omega), if_neg hc]; exact hs
    · obtain rfl : i = W.length := by omega
      rw [List.take_of_length_le (Nat.le_refl _)] at g1 g2
      obtain ⟨h'', hfam, hperm⟩ := hnew pv _ ps g2
      refine v_jn hperm ?_
      refine v_again ⟨y.Base, y.Step, tv', tl ++ opn y W, ts', K1.take y, sl, s4', mput zm y.Base pv, h''⟩ ?_ rfl inferInstance ⟨?_, hbx, htx, g1, hml, g3, ?_, ?_⟩
      · dsimp only [List.length_cons]; rw [htake, List.length_append]; omega
      · dsimp only; rw [← hopd]; exact hgo2
      · dsimp only; rw [htake]; exact hfam
      · dsimp only; rw [htake, List.length_append]; omega
def KnowM.makes (K : KnowM) (b : ApiBox) : Prop := 0 < (mget K.boxes b).getD 0 ∨ K.had b.Under.Base b.Under.Step ∧ K.had b.Load.Base b.Load.Step
instance (K : KnowM) (b : ApiBox) : Decidable (K.makes b) := by unfold KnowM.makes; infer_instance
theorem makes_s {bk : Nat} {K : KnowM} {Γ : List Hp} (h : KnowA bk K Γ) (b : ApiBox) : SX.Spec Try.prog 26 #[.pointer (some ⟨bk, 0, none⟩), avApiBox b] Γ [] fun v Γ' => Γ' = [] ∧ v = .bool (decide (K.makes b)) := by
  have hh := has_s h
  obtain ⟨b1, b2, b3, b4, s1, s2, s3, s4, zm, sh, rfl, h1, h2, h3, h4, h5⟩ := h
  refine spec_of2 Try.func26 Try.ntmps26 rfl rfl (fun M w0 => ?_)
  repeat' (first | refine stp ?_|(refine v_spT ?_ ?_;omega)|(refine v_spF ?_ ?_;omega)|refine v_spD (fun hc=>?_) (fun hc=>?_)|refine v_spB (fun hc=>?_) (fun hc=>?_)|(refine v_yc ?_ ?_;omega)|refine v_alloc' (fun ba=>?_)|refine v_box (fun bb=>?_)|refine v_lit (fun bl=>?_)|refine v_makeMap (fun bm=>?_)|(refine v_push ?_ (fun sv ss hs hln=>?_);omega)|(refine v_push0 ?_ (fun sv ss hs=>?_);omega)|(refine v_set ?_ (fun ss hs hln=>?_);omega)|(refine v_cat ?_ (fun sv ss hs hln=>?_);omega)|(refine v_cat0 ?_ (fun sv ss hs=>?_);omega)|(refine v_catN ?_ (fun sv ss hs=>?_);omega)|refine v_put (fun sm hm=>?_)|refine v_del (fun sm hm=>?_)|(refine v_sb ?_ (fun su (And.intro hs hln)=>?_);omega)|refine v_1lk (fun lv hlk=>?_) (fun hlk=>?_)|refine v_ment (fun st sm hm hst=>?_)|refine v_esto (fun sm hm=>?_)|refine v_rng (fun ri ti hit=>?_)|refine v_clone (fun bc sc hcl=>?_)|refine v_yw ?_|(refine v_make ?_ (fun sv ss hs hln=>?_);omega)|refine ⟨?_,?_,?_⟩|refine ⟨?_,?_⟩|(refine v_tyc ?_ ?_;omega)|(refine v_tycT (by decide +kernel) ?_ ?_;omega)|refine v_tValT (by decide +kernel) ?_|(refine v_tsb ?_ (fun su (And.intro hs hln)=>?_);omega)|refine v_tlk (fun lv hlk=>?_) (fun hlk=>?_)|refine v_tlkT (by decide +kernel) (fun lv hlk=>?_) (fun hlk=>?_)|refine v_tyw ?_|refine v_drawn0 (id:=1) pl26_1 (by kernel_rfl) ?_|fail)
  · refine v_o1 Try.results26 ⟨rfl, bT (.inl hc)⟩ ⟨_, inferInstance⟩
  have hc0 := hc
  clear hc
  refine v_callR (hh _ _) ?_
  rintro v Γ' ⟨rfl, rfl⟩
  (try dsimp only [List.cons_append, List.nil_append])
  repeat' (first | refine stp ?_|(refine v_spT ?_ ?_;omega)|(refine v_spF ?_ ?_;omega)|refine v_spD (fun hc=>?_) (fun hc=>?_)|refine v_spB (fun hc=>?_) (fun hc=>?_)|(refine v_yc ?_ ?_;omega)|refine v_alloc' (fun ba=>?_)|refine v_box (fun bb=>?_)|refine v_lit (fun bl=>?_)|refine v_makeMap (fun bm=>?_)|(refine v_push ?_ (fun sv ss hs hln=>?_);omega)|(refine v_push0 ?_ (fun sv ss hs=>?_);omega)|(refine v_set ?_ (fun ss hs hln=>?_);omega)|(refine v_cat ?_ (fun sv ss hs hln=>?_);omega)|(refine v_cat0 ?_ (fun sv ss hs=>?_);omega)|(refine v_catN ?_ (fun sv ss hs=>?_);omega)|refine v_put (fun sm hm=>?_)|refine v_del (fun sm hm=>?_)|(refine v_sb ?_ (fun su (And.intro hs hln)=>?_);omega)|refine v_1lk (fun lv hlk=>?_) (fun hlk=>?_)|refine v_ment (fun st sm hm hst=>?_)|refine v_esto (fun sm hm=>?_)|refine v_rng (fun ri ti hit=>?_)|refine v_clone (fun bc sc hcl=>?_)|refine v_yw ?_|(refine v_make ?_ (fun sv ss hs hln=>?_);omega)|refine ⟨?_,?_,?_⟩|refine ⟨?_,?_⟩|(refine v_tyc ?_ ?_;omega)|(refine v_tycT (by decide +kernel) ?_ ?_;omega)|refine v_tValT (by decide +kernel) ?_|(refine v_tsb ?_ (fun su (And.intro hs hln)=>?_);omega)|refine v_tlk (fun lv hlk=>?_) (fun hlk=>?_)|refine v_tlkT (by decide +kernel) (fun lv hlk=>?_) (fun hlk=>?_)|refine v_tyw ?_|refine v_drawn0 (id:=1) pl26_1 (by kernel_rfl) ?_|fail)
  · refine v_callR (hh _ _) ?_
    rintro v Γ' ⟨rfl, rfl⟩
    (try dsimp only [List.cons_append, List.nil_append])
    repeat' (first | refine stp ?_|(refine v_spT ?_ ?_;omega)|(refine v_spF ?_ ?_;omega)|refine v_spD (fun hc=>?_) (fun hc=>?_)|refine v_spB (fun hc=>?_) (fun hc=>?_)|(refine v_yc ?_ ?_;omega)|refine v_alloc' (fun ba=>?_)|refine v_box (fun bb=>?_)|refine v_lit (fun bl=>?_)|refine v_makeMap (fun bm=>?_)|(refine v_push ?_ (fun sv ss hs hln=>?_);omega)|(refine v_push0 ?_ (fun sv ss hs=>?_);omega)|(refine v_set ?_ (fun ss hs hln=>?_);omega)|(refine v_cat ?_ (fun sv ss hs hln=>?_);omega)|(refine v_cat0 ?_ (fun sv ss hs=>?_);omega)|(refine v_catN ?_ (fun sv ss hs=>?_);omega)|refine v_put (fun sm hm=>?_)|refine v_del (fun sm hm=>?_)|(refine v_sb ?_ (fun su (And.intro hs hln)=>?_);omega)|refine v_1lk (fun lv hlk=>?_) (fun hlk=>?_)|refine v_ment (fun st sm hm hst=>?_)|refine v_esto (fun sm hm=>?_)|refine v_rng (fun ri ti hit=>?_)|refine v_clone (fun bc sc hcl=>?_)|refine v_yw ?_|(refine v_make ?_ (fun sv ss hs hln=>?_);omega)|refine ⟨?_,?_,?_⟩|refine ⟨?_,?_⟩|(refine v_tyc ?_ ?_;omega)|(refine v_tycT (by decide +kernel) ?_ ?_;omega)|refine v_tValT (by decide +kernel) ?_|(refine v_tsb ?_ (fun su (And.intro hs hln)=>?_);omega)|refine v_tlk (fun lv hlk=>?_) (fun hlk=>?_)|refine v_tlkT (by decide +kernel) (fun lv hlk=>?_) (fun hlk=>?_)|refine v_tyw ?_|refine v_drawn0 (id:=1) pl26_1 (by kernel_rfl) ?_|fail)
    refine v_o1 Try.results26 ⟨rfl, ?_⟩ ⟨_, inferInstance⟩
    refine bD ?_
    unfold KnowM.makes
    simp [hc, hc0]
  · refine v_o1 Try.results26 ⟨rfl, ?_⟩ ⟨_, inferInstance⟩
    refine bF ?_
    unfold KnowM.makes
    simp [hc, hc0]
def KnowM.saw (K : KnowM) (b : ApiBox) : KnowM := { K with boxes := mput K.boxes b (wrap64 ((mget K.boxes b).getD 0 + 1)) }
def KnowM.lay (K : KnowM) (b : ApiBox) : KnowM := { K.saw b with shut := mput K.shut b.Under.Base ((mget K.shut b.Under.Base).getD [] ++ [b]) }
def SeeR (K : KnowM) (b : ApiBox) (K' : KnowM) : Prop :=
  if ¬ Gd b.Under.Base b.Under.Step ∨ ¬ Gd b.Load.Base b.Load.Step ∨ 0 < (mget K.boxes b).getD 0 then K' = K
  else if K.had b.Under.Base b.Under.Step then LearnR (K.saw b) [b.Load] K' else K' = K.lay b
theorem see_s {bk : Nat} {K : KnowM} {Γ : List Hp} (h : KnowA bk K Γ) (b : ApiBox) (hb : (tot K.shut + 4) * 32 ≤ 140737488355328) : SX.Spec Try.prog 40 #[.pointer (some ⟨bk, 0, none⟩), avApiBox b] [] Γ fun v Γ' => v = .tuple #[] ∧ ∃ K', SeeR K b K' ∧ KnowA bk K' Γ' := by
  obtain ⟨b1, b2, b3, b4, s1, s2, s3, s4, zm, sh, rfl, h1, h2, h3, h4, h5⟩ := h
  refine spec_of2 Try.func40 Try.ntmps40 rfl rfl (fun M w0 => ?_)
  repeat' (first | refine stp ?_|(refine v_spT ?_ ?_;omega)|(refine v_spF ?_ ?_;omega)|refine v_spD (fun hc=>?_) (fun hc=>?_)|refine v_spB (fun hc=>?_) (fun hc=>?_)|(refine v_yc ?_ ?_;omega)|refine v_alloc' (fun ba=>?_)|refine v_box (fun bb=>?_)|refine v_lit (fun bl=>?_)|refine v_makeMap (fun bm=>?_)|(refine v_push ?_ (fun sv ss hs hln=>?_);omega)|(refine v_push0 ?_ (fun sv ss hs=>?_);omega)|(refine v_set ?_ (fun ss hs hln=>?_);omega)|(refine v_cat ?_ (fun sv ss hs hln=>?_);omega)|(refine v_cat0 ?_ (fun sv ss hs=>?_);omega)|(refine v_catN ?_ (fun sv ss hs=>?_);omega)|refine v_put (fun sm hm=>?_)|refine v_del (fun sm hm=>?_)|(refine v_sb ?_ (fun su (And.intro hs hln)=>?_);omega)|refine v_1lk (fun lv hlk=>?_) (fun hlk=>?_)|refine v_ment (fun st sm hm hst=>?_)|refine v_esto (fun sm hm=>?_)|refine v_rng (fun ri ti hit=>?_)|refine v_clone (fun bc sc hcl=>?_)|refine v_yw ?_|(refine v_make ?_ (fun sv ss hs hln=>?_);omega)|refine ⟨?_,?_,?_⟩|refine ⟨?_,?_⟩|(refine v_tyc ?_ ?_;omega)|(refine v_tycT (by decide +kernel) ?_ ?_;omega)|refine v_tValT (by decide +kernel) ?_|(refine v_tsb ?_ (fun su (And.intro hs hln)=>?_);omega)|refine v_tlk (fun lv hlk=>?_) (fun hlk=>?_)|refine v_tlkT (by decide +kernel) (fun lv hlk=>?_) (fun hlk=>?_)|refine v_tyw ?_|refine v_drawn0 (id:=1) pl40_1 (by kernel_rfl) ?_|refine v_drawnK (id:=2) 7 pl40_2 (by kernel_rfl) ?_|refine v_drawnK (id:=5) 17 pl40_5 (by kernel_rfl) ?_|fail)
  · refine v_o0 Try.results40 ⟨rfl, K, by unfold SeeR; rw [if_pos (.inl hc)], b1, b2, b3, b4, s1, s2, s3, s4, zm, sh, rfl, h1, h2, h3, h4, h5⟩ ⟨_, inferInstance⟩
  · refine v_o0 Try.results40 ⟨rfl, K, by unfold SeeR; rw [if_pos (.inr (.inl hc))], b1, b2, b3, b4, s1, s2, s3, s4, zm, sh, rfl, h1, h2, h3, h4, h5⟩ ⟨_, inferInstance⟩
  · refine v_o0 Try.results40 ⟨rfl, K, by unfold SeeR; rw [if_pos (.inr (.inr hc))], b1, b2, b3, b4, s1, s2, s3, s4, zm, sh, rfl, h1, h2, h3, h4, h5⟩ ⟨_, inferInstance⟩
  all_goals
    rw [mput_mput] at hm
    revert sm
    intro sx hx
    have hsee : ∀ K', (if K.had b.Under.Base b.Under.Step then LearnR (K.saw b) [b.Load] K' else K' = K.lay b) → SeeR K b K' := fun K' hk => by
      unfold SeeR
      rw [if_neg (fun h => h.elim (by assumption) fun h => h.elim (by assumption) hc)]
      exact hk
    refine v_callR (has_s (K := K.saw b) ⟨b1, b2, b3, b4, s1, sx, s3, s4, zm, sh, rfl, h1, hx, h3, h4, h5⟩ _ _) ?_
    rintro v Γ' ⟨rfl, rfl⟩
    (try dsimp only [List.cons_append, List.nil_append])
    obtain ⟨ws, h', hw, hp, hnew⟩ := h5.at b.Under.Base
    have htg := tot_get K.shut b.Under.Base
    clear hc
    repeat' (first | refine stp ?_|(refine v_spT ?_ ?_;omega)|(refine v_spF ?_ ?_;omega)|refine v_spD (fun hc=>?_) (fun hc=>?_)|refine v_spB (fun hc=>?_) (fun hc=>?_)|(refine v_yc ?_ ?_;omega)|refine v_alloc' (fun ba=>?_)|refine v_box (fun bb=>?_)|refine v_lit (fun bl=>?_)|refine v_makeMap (fun bm=>?_)|(refine v_push ?_ (fun sv ss hs hln=>?_);omega)|(refine v_push0 ?_ (fun sv ss hs=>?_);omega)|(refine v_set ?_ (fun ss hs hln=>?_);omega)|(refine v_cat ?_ (fun sv ss hs hln=>?_);omega)|(refine v_cat0 ?_ (fun sv ss hs=>?_);omega)|(refine v_catN ?_ (fun sv ss hs=>?_);omega)|refine v_put (fun sm hm=>?_)|refine v_del (fun sm hm=>?_)|(refine v_sb ?_ (fun su (And.intro hs hln)=>?_);omega)|refine v_1lk (fun lv hlk=>?_) (fun hlk=>?_)|refine v_ment (fun st sm hm hst=>?_)|refine v_esto (fun sm hm=>?_)|refine v_rng (fun ri ti hit=>?_)|refine v_clone (fun bc sc hcl=>?_)|refine v_yw ?_|(refine v_make ?_ (fun sv ss hs hln=>?_);omega)|refine ⟨?_,?_,?_⟩|refine ⟨?_,?_⟩|(refine v_tyc ?_ ?_;omega)|(refine v_tycT (by decide +kernel) ?_ ?_;omega)|refine v_tValT (by decide +kernel) ?_|(refine v_tsb ?_ (fun su (And.intro hs hln)=>?_);omega)|refine v_tlk (fun lv hlk=>?_) (fun hlk=>?_)|refine v_tlkT (by decide +kernel) (fun lv hlk=>?_) (fun hlk=>?_)|refine v_tyw ?_|refine v_drawn0 (id:=1) pl40_1 (by kernel_rfl) ?_|refine v_drawnK (id:=2) 7 pl40_2 (by kernel_rfl) ?_|fail)
    · refine v_callO (learn_s (K := K.saw b) ⟨b1, b2, b3, b4, s1, sx, s3, s4, zm, sh, rfl, h1, hx, h3, h4, h5⟩ b.Load (by simp only [KnowM.saw]; omega)) ?_
      rintro v Γ' ⟨rfl, K', hl, c1, c2, c3, c4, t1, t2, t3, t4, zm', sh', rfl, g1, g2, g3, g4, g5⟩
      (try dsimp only [List.cons_append, List.nil_append])
      repeat' (first | refine stp ?_|(refine v_spT ?_ ?_;omega)|(refine v_spF ?_ ?_;omega)|refine v_spD (fun hc=>?_) (fun hc=>?_)|refine v_spB (fun hc=>?_) (fun hc=>?_)|(refine v_yc ?_ ?_;omega)|refine v_alloc' (fun ba=>?_)|refine v_box (fun bb=>?_)|refine v_lit (fun bl=>?_)|refine v_makeMap (fun bm=>?_)|(refine v_push ?_ (fun sv ss hs hln=>?_);omega)|(refine v_push0 ?_ (fun sv ss hs=>?_);omega)|(refine v_set ?_ (fun ss hs hln=>?_);omega)|(refine v_cat ?_ (fun sv ss hs hln=>?_);omega)|(refine v_cat0 ?_ (fun sv ss hs=>?_);omega)|(refine v_catN ?_ (fun sv ss hs=>?_);omega)|refine v_put (fun sm hm=>?_)|refine v_del (fun sm hm=>?_)|(refine v_sb ?_ (fun su (And.intro hs hln)=>?_);omega)|refine v_1lk (fun lv hlk=>?_) (fun hlk=>?_)|refine v_ment (fun st sm hm hst=>?_)|refine v_esto (fun sm hm=>?_)|refine v_rng (fun ri ti hit=>?_)|refine v_clone (fun bc sc hcl=>?_)|refine v_yw ?_|(refine v_make ?_ (fun sv ss hs hln=>?_);omega)|refine ⟨?_,?_,?_⟩|refine ⟨?_,?_⟩|(refine v_tyc ?_ ?_;omega)|(refine v_tycT (by decide +kernel) ?_ ?_;omega)|refine v_tValT (by decide +kernel) ?_|(refine v_tsb ?_ (fun su (And.intro hs hln)=>?_);omega)|refine v_tlk (fun lv hlk=>?_) (fun hlk=>?_)|refine v_tlkT (by decide +kernel) (fun lv hlk=>?_) (fun hlk=>?_)|refine v_tyw ?_|refine v_drawn0 (id:=1) pl40_1 (by kernel_rfl) ?_|refine v_drawnK (id:=2) 7 pl40_2 (by kernel_rfl) ?_|fail)
      refine v_o0 Try.results40 ⟨rfl, K', hsee K' (by rw [if_pos (show K.had _ _ from hc)]; exact hl), c1, c2, c3, c4, t1, t2, t3, t4, zm', sh', rfl, g1, g2, g3, g4, g5⟩ ⟨_, inferInstance⟩
    · refine v_spl hp ?_
      refine v_drawnE (id:=5) 18 plE40_5 [ws] (by kernel_rfl) ?_
      repeat' (first | refine stp ?_|(refine v_spT ?_ ?_;omega)|(refine v_spF ?_ ?_;omega)|refine v_spD (fun hc=>?_) (fun hc=>?_)|refine v_spB (fun hc=>?_) (fun hc=>?_)|(refine v_yc ?_ ?_;omega)|refine v_alloc' (fun ba=>?_)|refine v_box (fun bb=>?_)|refine v_lit (fun bl=>?_)|refine v_makeMap (fun bm=>?_)|(refine v_push ?_ (fun sv ss hs hln=>?_);omega)|(refine v_push0 ?_ (fun sv ss hs=>?_);omega)|(refine v_set ?_ (fun ss hs hln=>?_);omega)|(refine v_cat ?_ (fun sv ss hs hln=>?_);omega)|(refine v_cat0 ?_ (fun sv ss hs=>?_);omega)|(refine v_catN ?_ (fun sv ss hs=>?_);omega)|refine v_put (fun sm hm=>?_)|refine v_del (fun sm hm=>?_)|(refine v_sb ?_ (fun su (And.intro hs hln)=>?_);omega)|refine v_1lk (fun lv hlk=>?_) (fun hlk=>?_)|refine v_ment (fun st sm hm hst=>?_)|refine v_esto (fun sm hm=>?_)|refine v_rng (fun ri ti hit=>?_)|refine v_clone (fun bc sc hcl=>?_)|refine v_yw ?_|(refine v_make ?_ (fun sv ss hs hln=>?_);omega)|refine ⟨?_,?_,?_⟩|refine ⟨?_,?_⟩|(refine v_tyc ?_ ?_;omega)|(refine v_tycT (by decide +kernel) ?_ ?_;omega)|refine v_tValT (by decide +kernel) ?_|(refine v_tsb ?_ (fun su (And.intro hs hln)=>?_);omega)|refine v_tlk (fun lv hlk=>?_) (fun hlk=>?_)|refine v_tlkT (by decide +kernel) (fun lv hlk=>?_) (fun hlk=>?_)|refine v_tyw ?_|refine v_drawn0 (id:=1) pl40_1 (by kernel_rfl) ?_|refine v_drawnK (id:=2) 7 pl40_2 (by kernel_rfl) ?_|fail)
      obtain ⟨h'', hfam, hperm⟩ := hnew sv _ ss hs
      refine v_jn hperm ?_
      refine v_o0 Try.results40 ⟨rfl, K.lay b, hsee _ (by rw [if_neg (show ¬ K.had _ _ from hc)]), b1, b2, b3, b4, _, sx, _, sm, _, h'', rfl, h1, hx, h3, hm, hfam⟩ ⟨_, inferInstance⟩
end Go.Proofs.Ytedemhmlaodblaa
