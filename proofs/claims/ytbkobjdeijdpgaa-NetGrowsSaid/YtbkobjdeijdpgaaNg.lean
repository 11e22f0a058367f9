/- NetGrows: the walk and its law. -/
import Derived.Test.YtbkobjdeijdpgaaNr
import Derived.Test.YtbkobjdeijdpgaaNl
namespace Go.Proofs.Ytbkobjdeijdpgaa
open Go Go.SX Go.RowKit
set_option maxRecDepth 100000
set_option linter.unusedSimpArgs false
set_option linter.unusedVariables false
set_option maxHeartbeats 0
set_option synthInstance.maxSize 100000
set_option synthInstance.maxHeartbeats 400000
structure GrowOk (N : NetM) (g : List (Int × Int)) : Prop where
  num : ∀ (i : Nat) p, N.all[i]? = some p → p.N = i + 1
  there : ∀ k p, mget N.there k = some p ↔ (1 ≤ k ∧ N.all[(k - 1).toNat]? = some p ∧ mget g k = none)
  one : ∀ k v, mget g k = some v → v = 1 ∧ 1 ≤ k ∧ k ≤ N.all.length
theorem GrowOk.new : GrowOk ⟨[], []⟩ [] := ⟨by simp, by simp [mget], by simp [mget]⟩
theorem GrowOk.send {N : NetM} {g : List (Int × Int)} (h : GrowOk N g) (f : Int) (b : ByteArray) : GrowOk (N.send f b) g where
  num i p hp := by
    simp only [NetM.send] at hp
    by_cases hi : i < N.all.length
    · rw [List.getElem?_append_left hi] at hp; exact h.num i p hp
    · rw [List.getElem?_append_right (by omega)] at hp
      have := (List.getElem?_eq_some_iff.1 hp).1
      have e : i - N.all.length = 0 := by simp at this; omega
      rw [e] at hp
      simp at hp; subst hp
      show (N.all.length : Int) + 1 = i + 1
      omega
  there k p := by
    rw [mget_send]
    simp only [NetM.send]
    by_cases hk : k = N.all.length + 1
    · subst hk
      have hn : mget g (N.all.length + 1 : Int) = none := by
        cases hg : mget g (N.all.length + 1 : Int) with
        | none => rfl
        | some v => have := (h.one _ v hg).2.2; omega
      rw [if_pos rfl, show ((N.all.length + 1 : Int) - 1).toNat = N.all.length by omega, List.getElem?_append_right (Nat.le_refl _)]
      simp [hn]; omega
    · rw [if_neg hk, h.there]
      by_cases hi : (k - 1).toNat < N.all.length
      · rw [List.getElem?_append_left hi]
      · by_cases h1 : 1 ≤ k
        · rw [List.getElem?_eq_none (by omega), List.getElem?_append_right (by omega), List.getElem?_eq_none (by simp; omega)]
        · simp [h1]
  one k v hv := by
    have := h.one k v hv
    simp only [NetM.send, List.length_append, List.length_singleton]
    omega
theorem GrowOk.drop {N : NetM} {g : List (Int × Int)} (h : GrowOk N g) {k : Int} {p : ApiPacket} (hp : mget N.there k = some p) : GrowOk ⟨N.all, mdel N.there k⟩ (mput g k 1) where
  num := h.num
  there j q := by
    rw [mget_mdel, mget_mput]
    by_cases hj : j = k
    · simp [hj]
    · simp only [if_neg hj]; exact h.there j q
  one j v hv := by
    rw [mget_mput] at hv
    by_cases hj : j = k
    · subst hj
      simp at hv
      obtain ⟨h1, h2, _⟩ := (h.there j p).1 hp
      have := (List.getElem?_eq_some_iff.1 h2).1
      exact ⟨hv.symm, h1, by simp only; omega⟩
    · rw [if_neg hj] at hv; exact h.one j v hv
theorem GrowOk.fresh {N : NetM} {g : List (Int × Int)} (h : GrowOk N g) {k : Int} {p : ApiPacket} (hp : mget N.there k = some p) : mget g k = none := ((h.there k p).1 hp).2.2
/-- a packet is under way just if it isn't gone -/
theorem GrowOk.waits {N : NetM} {g : List (Int × Int)} (h : GrowOk N g) {i : Nat} {p : ApiPacket} (hp : N.all[i]? = some p) : (mget N.there p.N).isSome = (mget g p.N).isNone := by
  have hn := h.num i p hp
  cases hg : mget g p.N with
  | none => rw [(h.there p.N p).2 ⟨by omega, by rw [show (p.N - 1).toNat = i by omega]; exact hp, hg⟩]; rfl
  | some v =>
    cases ht : mget N.there p.N with
    | none => rfl
    | some q => rw [h.fresh ht] at hg; cases hg
theorem GrowOk.count {N : NetM} {g : List (Int × Int)} (h : GrowOk N g) (hd : (g.map (·.1)).Nodup) : (N.waiting N.all).length + g.length = N.all.length := by
  have e1 : N.waiting N.all = N.all.filter fun p => (mget g p.N).isNone := by
    unfold NetM.waiting
    apply List.filter_congr
    intro p hp
    obtain ⟨i, hi, rfl⟩ := List.getElem_of_mem hp
    exact h.waits (List.getElem?_eq_getElem hi)
  have e2 : ((N.all.filter fun p => !(mget g p.N).isNone).map (·.N)).Perm (g.map (·.1)) := by
    rw [List.perm_ext_iff_of_nodup _ hd]
    · intro k
      simp only [List.mem_map, List.mem_filter]
      constructor
      · rintro ⟨p, ⟨_, hp⟩, rfl⟩
        cases hg : mget g p.N with
        | none => simp [hg] at hp
        | some v =>
          have : p.N ∈ g.map (·.1) := by
            apply Classical.byContradiction
            intro hc
            rw [mget_none.2 hc] at hg; cases hg
          simpa using this
      · intro hk
        cases hg : mget g k with
        | none => exact absurd (List.mem_map.2 (by simpa using hk)) (mget_none.1 hg)
        | some v =>
          obtain ⟨_, h1, h2⟩ := h.one k v hg
          have hl : (k - 1).toNat < N.all.length := by omega
          have hq := h.num (k - 1).toNat _ (List.getElem?_eq_getElem hl)
          refine ⟨N.all[(k - 1).toNat], ⟨List.getElem_mem hl, ?_⟩, by omega⟩
          rw [show N.all[(k - 1).toNat].N = k by omega, hg]; rfl
    · have : (N.all.map (·.N)).Nodup := by
        rw [List.Nodup, List.pairwise_iff_getElem]
        intro a b ha hb hab
        simp only [List.getElem_map]
        have ha := h.num a _ (List.getElem?_eq_getElem (by simpa using ha))
        have hb := h.num b _ (List.getElem?_eq_getElem (by simpa using hb))
        omega
      exact this.sublist (List.filter_sublist.map _)
  have e3 := e2.length_eq
  simp only [List.length_map] at e3
  rw [e1, ← e3]
  have key : ∀ (l : List ApiPacket) (f : ApiPacket → Bool), (l.filter f).length + (l.filter fun p => !f p).length = l.length := by
    intro l f
    induction l with
    | nil => rfl
    | cons x l ih => by_cases hx : f x = true <;> simp [hx] <;> omega
  exact key _ _
theorem waiting_pre (N : NetM) {k i : Nat} (h : N.waiting (N.all.take k) = (N.waiting N.all).take i) (hi : i < (N.waiting N.all).length) :
    k < N.all.length ∧ ∀ (hk : k < N.all.length), (mget N.there N.all[k].N).isSome = true → N.all[k] = (N.waiting N.all)[i] ∧ N.waiting (N.all.take (k + 1)) = (N.waiting N.all).take (i + 1) := by
  have hlt : k < N.all.length := by
    rcases Nat.lt_or_ge k N.all.length with h' | h'
    · exact h'
    · rw [List.take_of_length_le h'] at h
      have := congrArg List.length h
      rw [List.length_take] at this
      omega
  refine ⟨hlt, fun hk hs => ?_⟩
  have hst := N.waiting_step N.all hk
  rw [if_pos hs, h] at hst
  have hall : N.waiting N.all = N.waiting (N.all.take (k + 1)) ++ N.waiting (N.all.drop (k + 1)) := by
    unfold NetM.waiting
    rw [← List.filter_append, List.take_append_drop]
  have hlen : ((N.waiting N.all).take i).length = i := by rw [List.length_take]; omega
  have e : (N.waiting N.all)[i]? = some N.all[k] := by
    rw [hall, hst, List.append_assoc, List.getElem?_append_right (by omega), hlen]
    simp
  rw [List.getElem?_eq_getElem hi] at e
  have e := Option.some.inj e
  exact ⟨e.symm, by rw [hst, List.take_add_one, List.getElem?_eq_getElem hi, e]; rfl⟩
theorem GrowOk.isGone {N : NetM} {g : List (Int × Int)} (h : GrowOk N g) {i : Nat} (hi : i < N.all.length) (hw : ¬ (mget N.there N.all[i].N).isSome = true) : mget g N.all[i].N = some 1 := by
  have := h.waits (List.getElem?_eq_getElem hi)
  cases hg : mget g N.all[i].N with
  | none => rw [hg] at this; exact absurd this hw
  | some v => rw [(h.one _ v hg).1]
structure GrowG where
  j : Nat
  N : NetM
  sv : Value
  bm : Nat
  s1 : Hp
  s2 : Hp
  xv : Value
  xs : Hp
  g : List (Int × Int)
  gs : Hp
structure GrowOk2 (l bg : Nat) (x : GrowG) : Prop where
  le : x.j ≤ l
  n : x.N.all.length ≤ x.j
  ok : GrowOk x.N x.g
  gl : x.g.length ≤ x.j
  h1 : OwnS x.sv 51 ApiPacket 3 cvApiPacket x.N.all x.s1
  h2 : OwnM x.bm Int ApiPacket ik avApiPacket x.N.there x.s2
  h3 : OwnS x.xv 51 ApiPacket 3 cvApiPacket x.N.all x.xs
  h4 : OwnM bg Int Int ik ik x.g x.gs
abbrev growMem (bn : Nat) (x : GrowG) : List Hp := [[(bn, .cells #[x.sv, .map (some x.bm)] 84 (0, 0))], x.s1, x.s2, x.xs, x.gs]
theorem mput_len {m : List (Int × Int)} {k v : Int} : (mput m k v).length ≤ m.length + 1 := by
  induction m with
  | nil => simp [mput]
  | cons p r ih => unfold mput; split <;> simp_all
theorem grows_s {uv : Value} {l : List Coterielaw20Op} {s : Hp} (hu : AtS uv 48 Coterielaw20Op 3 cvCoterielaw20Op l s) (hb : l.length * 32 ≤ 140737488351232) : SX.Spec Try.prog 7 #[uv] [s] [] fun v Γ => v = .bool true ∧ Γ = [] := by
  refine spec_of1 Try.func7 Try.ntmps7 rfl rfl (fun M w0 => ?_)
  repeat' (first | refine stp ?_|(refine v_spT ?_ ?_;omega)|(refine v_spF ?_ ?_;omega)|refine v_spD (fun hc=>?_) (fun hc=>?_)|refine v_spB (fun hc=>?_) (fun hc=>?_)|(refine v_yc ?_ ?_;omega)|refine v_alloc' (fun ba=>?_)|refine v_box (fun bb=>?_)|refine v_lit (fun bl=>?_)|refine v_makeMap (fun bm=>?_)|(refine v_push ?_ (fun sv ss hs hln=>?_);omega)|(refine v_push0 ?_ (fun sv ss hs=>?_);omega)|(refine v_set ?_ (fun ss hs hln=>?_);omega)|(refine v_cat ?_ (fun sv ss hs hln=>?_);omega)|(refine v_cat0 ?_ (fun sv ss hs=>?_);omega)|(refine v_catN ?_ (fun sv ss hs=>?_);omega)|refine v_put (fun sm hm=>?_)|refine v_del (fun sm hm=>?_)|(refine v_sb ?_ (fun su (And.intro hs hln)=>?_);omega)|refine v_1lk (fun lv hlk=>?_) (fun hlk=>?_)|refine v_wAdd ?_|refine v_wSub ?_|refine v_wMul ?_|refine ⟨?_,?_⟩|(refine v_tyc ?_ ?_;omega)|(refine v_tycT (by kernel_rfl) ?_ ?_;omega)|refine v_tValT (by kernel_rfl) ?_|(refine v_tsb ?_ (fun su (And.intro hs hln)=>?_);omega)|refine v_tlk (fun lv hlk=>?_) (fun hlk=>?_)|refine v_tlkT (by kernel_rfl) (fun lv hlk=>?_) (fun hlk=>?_)|refine v_aThree rfl rfl rfl ?_ ?_ ?_|refine v_drawn0 (id:=23) pl7_23 (by kernel_rfl) ?_|fail)
  refine v_callO new_s ?_
  rintro v Γ' ⟨bn, rfl, sv, s1, bt, s2, rfl, h1, h2⟩
  (try dsimp only [List.cons_append, List.nil_append])
  repeat' (first | refine stp ?_|(refine v_spT ?_ ?_;omega)|(refine v_spF ?_ ?_;omega)|refine v_spD (fun hc=>?_) (fun hc=>?_)|refine v_spB (fun hc=>?_) (fun hc=>?_)|(refine v_yc ?_ ?_;omega)|refine v_alloc' (fun ba=>?_)|refine v_box (fun bb=>?_)|refine v_lit (fun bl=>?_)|refine v_makeMap (fun bm=>?_)|(refine v_push ?_ (fun sv ss hs hln=>?_);omega)|(refine v_push0 ?_ (fun sv ss hs=>?_);omega)|(refine v_set ?_ (fun ss hs hln=>?_);omega)|(refine v_cat ?_ (fun sv ss hs hln=>?_);omega)|(refine v_cat0 ?_ (fun sv ss hs=>?_);omega)|(refine v_catN ?_ (fun sv ss hs=>?_);omega)|refine v_put (fun sm hm=>?_)|refine v_del (fun sm hm=>?_)|(refine v_sb ?_ (fun su (And.intro hs hln)=>?_);omega)|refine v_1lk (fun lv hlk=>?_) (fun hlk=>?_)|refine v_wAdd ?_|refine v_wSub ?_|refine v_wMul ?_|refine ⟨?_,?_⟩|(refine v_tyc ?_ ?_;omega)|(refine v_tycT (by kernel_rfl) ?_ ?_;omega)|refine v_tValT (by kernel_rfl) ?_|(refine v_tsb ?_ (fun su (And.intro hs hln)=>?_);omega)|refine v_tlk (fun lv hlk=>?_) (fun hlk=>?_)|refine v_tlkT (by kernel_rfl) (fun lv hlk=>?_) (fun hlk=>?_)|refine v_aThree rfl rfl rfl ?_ ?_ ?_|refine v_drawn0 (id:=23) pl7_23 (by kernel_rfl) ?_|fail)
  refine v_lp [4, 18] [3, 5, 16, 17] (fun x : GrowG => [x.xv, .int .i64 x.j]) (growMem bn) (GrowOk2 l.length bm) (fun x => l.length - x.j) ⟨0, ⟨[], []⟩, sv, bt, s1, s2, .slice none 0 0, [], [], [(bm, .map #[] 0)]⟩ (fun _ => rfl) rfl inferInstance
    ⟨Nat.zero_le _, Nat.le_refl _, GrowOk.new, Nat.le_refl _, h1, h2, OwnS.nil, ⟨MpAt.new _⟩⟩ ?_
  clear h1 h2 sv s1 bt s2
  rintro ⟨j, N, sv, bt, s1, s2, xv, xs, g, gs⟩ ⟨hj, hn, ho, hgl, h1, h2, h3, h4⟩
  dsimp only [growMem] at hj hn ho hgl h1 h2 h3 h4 ⊢
  (try dsimp only [zipE_c, zipE_n, List.cons_append, List.nil_append])
  repeat' (first | refine stp ?_|(refine v_spT ?_ ?_;omega)|(refine v_spF ?_ ?_;omega)|refine v_spD (fun hc=>?_) (fun hc=>?_)|refine v_spB (fun hc=>?_) (fun hc=>?_)|(refine v_yc ?_ ?_;omega)|refine v_alloc' (fun ba=>?_)|refine v_box (fun bb=>?_)|refine v_lit (fun bl=>?_)|refine v_makeMap (fun bm=>?_)|(refine v_push ?_ (fun sv ss hs hln=>?_);omega)|(refine v_push0 ?_ (fun sv ss hs=>?_);omega)|(refine v_set ?_ (fun ss hs hln=>?_);omega)|(refine v_cat ?_ (fun sv ss hs hln=>?_);omega)|(refine v_cat0 ?_ (fun sv ss hs=>?_);omega)|(refine v_catN ?_ (fun sv ss hs=>?_);omega)|refine v_put (fun sm hm=>?_)|refine v_del (fun sm hm=>?_)|(refine v_sb ?_ (fun su (And.intro hs hln)=>?_);omega)|refine v_1lk (fun lv hlk=>?_) (fun hlk=>?_)|refine v_wAdd ?_|refine v_wSub ?_|refine v_wMul ?_|refine ⟨?_,?_⟩|(refine v_tyc ?_ ?_;omega)|(refine v_tycT (by kernel_rfl) ?_ ?_;omega)|refine v_tValT (by kernel_rfl) ?_|(refine v_tsb ?_ (fun su (And.intro hs hln)=>?_);omega)|refine v_tlk (fun lv hlk=>?_) (fun hlk=>?_)|refine v_tlkT (by kernel_rfl) (fun lv hlk=>?_) (fun hlk=>?_)|refine v_aThree rfl rfl rfl ?_ ?_ ?_|refine v_drawn0 (id:=23) pl7_23 (by kernel_rfl) ?_|fail)
  · refine v_callO (send_s ⟨sv, s1, bt, s2, rfl, h1, h2⟩ _ _ (by omega)) ?_
    rintro v Γ' ⟨rfl, sv, s1, bt, s2, rfl, h1, h2⟩
    (try dsimp only [List.cons_append, List.nil_append])
    repeat' (first | refine stp ?_|(refine v_spT ?_ ?_;omega)|(refine v_spF ?_ ?_;omega)|refine v_spD (fun hc=>?_) (fun hc=>?_)|refine v_spB (fun hc=>?_) (fun hc=>?_)|(refine v_yc ?_ ?_;omega)|refine v_alloc' (fun ba=>?_)|refine v_box (fun bb=>?_)|refine v_lit (fun bl=>?_)|refine v_makeMap (fun bm=>?_)|(refine v_push ?_ (fun sv ss hs hln=>?_);omega)|(refine v_push0 ?_ (fun sv ss hs=>?_);omega)|(refine v_set ?_ (fun ss hs hln=>?_);omega)|(refine v_cat ?_ (fun sv ss hs hln=>?_);omega)|(refine v_cat0 ?_ (fun sv ss hs=>?_);omega)|(refine v_catN ?_ (fun sv ss hs=>?_);omega)|refine v_put (fun sm hm=>?_)|refine v_del (fun sm hm=>?_)|(refine v_sb ?_ (fun su (And.intro hs hln)=>?_);omega)|refine v_1lk (fun lv hlk=>?_) (fun hlk=>?_)|refine v_wAdd ?_|refine v_wSub ?_|refine v_wMul ?_|refine ⟨?_,?_⟩|(refine v_tyc ?_ ?_;omega)|(refine v_tycT (by kernel_rfl) ?_ ?_;omega)|refine v_tValT (by kernel_rfl) ?_|(refine v_tsb ?_ (fun su (And.intro hs hln)=>?_);omega)|refine v_tlk (fun lv hlk=>?_) (fun hlk=>?_)|refine v_tlkT (by kernel_rfl) (fun lv hlk=>?_) (fun hlk=>?_)|refine v_aThree rfl rfl rfl ?_ ?_ ?_|refine v_drawn0 (id:=23) pl7_23 (by kernel_rfl) ?_|fail)
    refine v_again ⟨j + 1, _, _, bt, s1, s2, sv, ss, g, gs⟩ (by dsimp only; omega) rfl inferInstance ⟨by dsimp only; omega, by dsimp only [NetM.send]; omega, ho.send _ _, by dsimp only; omega, h1, h2, hs, h4⟩
  · refine v_callO (drop_s ⟨sv, s1, bt, s2, rfl, h1, h2⟩ _) ?_
    rintro v Γ' ⟨⟨sv, s1, bt, s2, rfl, h1, h2⟩, rfl⟩
    (try dsimp only [List.cons_append, List.nil_append])
    cases hg : mget N.there l[j].N with
    | none =>
      rw [mdel_none (mget_none.1 hg)] at h2
      simp only [Option.isSome_none, Bool.false_eq_true, if_false]
      repeat' (first | refine stp ?_|(refine v_spT ?_ ?_;omega)|(refine v_spF ?_ ?_;omega)|refine v_spD (fun hc=>?_) (fun hc=>?_)|refine v_spB (fun hc=>?_) (fun hc=>?_)|(refine v_yc ?_ ?_;omega)|refine v_alloc' (fun ba=>?_)|refine v_box (fun bb=>?_)|refine v_lit (fun bl=>?_)|refine v_makeMap (fun bm=>?_)|(refine v_push ?_ (fun sv ss hs hln=>?_);omega)|(refine v_push0 ?_ (fun sv ss hs=>?_);omega)|(refine v_set ?_ (fun ss hs hln=>?_);omega)|(refine v_cat ?_ (fun sv ss hs hln=>?_);omega)|(refine v_cat0 ?_ (fun sv ss hs=>?_);omega)|(refine v_catN ?_ (fun sv ss hs=>?_);omega)|refine v_put (fun sm hm=>?_)|refine v_del (fun sm hm=>?_)|(refine v_sb ?_ (fun su (And.intro hs hln)=>?_);omega)|refine v_1lk (fun lv hlk=>?_) (fun hlk=>?_)|refine v_wAdd ?_|refine v_wSub ?_|refine v_wMul ?_|refine ⟨?_,?_⟩|(refine v_tyc ?_ ?_;omega)|(refine v_tycT (by kernel_rfl) ?_ ?_;omega)|refine v_tValT (by kernel_rfl) ?_|(refine v_tsb ?_ (fun su (And.intro hs hln)=>?_);omega)|refine v_tlk (fun lv hlk=>?_) (fun hlk=>?_)|refine v_tlkT (by kernel_rfl) (fun lv hlk=>?_) (fun hlk=>?_)|refine v_aThree rfl rfl rfl ?_ ?_ ?_|refine v_drawn0 (id:=23) pl7_23 (by kernel_rfl) ?_|fail)
      refine v_again ⟨j + 1, N, sv, bt, s1, s2, xv, xs, g, gs⟩ (by dsimp only; omega) rfl inferInstance ⟨by dsimp only; omega, by dsimp only; omega, ho, by dsimp only; omega, h1, h2, h3, h4⟩
    | some p =>
      have hf := ho.fresh hg
      simp only [Option.isSome_some, if_true]
      repeat' (first | refine stp ?_|(refine v_spT ?_ ?_;omega)|(refine v_spF ?_ ?_;omega)|refine v_spD (fun hc=>?_) (fun hc=>?_)|refine v_spB (fun hc=>?_) (fun hc=>?_)|(refine v_yc ?_ ?_;omega)|refine v_alloc' (fun ba=>?_)|refine v_box (fun bb=>?_)|refine v_lit (fun bl=>?_)|refine v_makeMap (fun bm=>?_)|(refine v_push ?_ (fun sv ss hs hln=>?_);omega)|(refine v_push0 ?_ (fun sv ss hs=>?_);omega)|(refine v_set ?_ (fun ss hs hln=>?_);omega)|(refine v_cat ?_ (fun sv ss hs hln=>?_);omega)|(refine v_cat0 ?_ (fun sv ss hs=>?_);omega)|(refine v_catN ?_ (fun sv ss hs=>?_);omega)|refine v_put (fun sm hm=>?_)|refine v_del (fun sm hm=>?_)|(refine v_sb ?_ (fun su (And.intro hs hln)=>?_);omega)|refine v_1lk (fun lv hlk=>?_) (fun hlk=>?_)|refine v_wAdd ?_|refine v_wSub ?_|refine v_wMul ?_|refine ⟨?_,?_⟩|(refine v_tyc ?_ ?_;omega)|(refine v_tycT (by kernel_rfl) ?_ ?_;omega)|refine v_tValT (by kernel_rfl) ?_|(refine v_tsb ?_ (fun su (And.intro hs hln)=>?_);omega)|refine v_tlk (fun lv hlk=>?_) (fun hlk=>?_)|refine v_tlkT (by kernel_rfl) (fun lv hlk=>?_) (fun hlk=>?_)|refine v_aThree rfl rfl rfl ?_ ?_ ?_|refine v_drawn0 (id:=23) pl7_23 (by kernel_rfl) ?_|fail)
      rw [hf, show wrap64 ((none : Option Int).getD 0 + 1) = 1 by unfold wrap64; simp] at hm
      have := mput_len (m := g) (k := l[j].N) (v := 1)
      refine v_again ⟨j + 1, ⟨N.all, mdel N.there l[j].N⟩, sv, bt, s1, s2, xv, xs, mput g l[j].N 1, sm⟩ (by dsimp only; omega) rfl inferInstance ⟨by dsimp only; omega, by dsimp only; omega, ho.drop hg, ?_, h1, h2, h3, hm⟩
      dsimp only
      omega
  · refine v_again ⟨j + 1, N, sv, bt, s1, s2, xv, xs, g, gs⟩ (by dsimp only; omega) rfl inferInstance ⟨by dsimp only; omega, by dsimp only; omega, ho, by dsimp only; omega, h1, h2, h3, h4⟩
  have hcount := ho.count (by obtain ⟨_, _, _, _, _, h, _⟩ := h4.out; exact h)
  refine v_callR (waiting_s ⟨sv, s1, bt, s2, rfl, h1, h2⟩ (by omega)) ?_
  rintro wv Γ' ⟨ws, hw, rfl⟩
  (try dsimp only [List.cons_append, List.nil_append])
  repeat' (first | refine stp ?_|(refine v_spT ?_ ?_;omega)|(refine v_spF ?_ ?_;omega)|refine v_spD (fun hc=>?_) (fun hc=>?_)|refine v_spB (fun hc=>?_) (fun hc=>?_)|(refine v_yc ?_ ?_;omega)|refine v_alloc' (fun ba=>?_)|refine v_box (fun bb=>?_)|refine v_lit (fun bl=>?_)|refine v_makeMap (fun bm=>?_)|(refine v_push ?_ (fun sv ss hs hln=>?_);omega)|(refine v_push0 ?_ (fun sv ss hs=>?_);omega)|(refine v_set ?_ (fun ss hs hln=>?_);omega)|(refine v_cat ?_ (fun sv ss hs hln=>?_);omega)|(refine v_cat0 ?_ (fun sv ss hs=>?_);omega)|(refine v_catN ?_ (fun sv ss hs=>?_);omega)|refine v_put (fun sm hm=>?_)|refine v_del (fun sm hm=>?_)|(refine v_sb ?_ (fun su (And.intro hs hln)=>?_);omega)|refine v_1lk (fun lv hlk=>?_) (fun hlk=>?_)|refine v_wAdd ?_|refine v_wSub ?_|refine v_wMul ?_|refine ⟨?_,?_⟩|(refine v_tyc ?_ ?_;omega)|(refine v_tycT (by kernel_rfl) ?_ ?_;omega)|refine v_tValT (by kernel_rfl) ?_|(refine v_tsb ?_ (fun su (And.intro hs hln)=>?_);omega)|refine v_tlk (fun lv hlk=>?_) (fun hlk=>?_)|refine v_tlkT (by kernel_rfl) (fun lv hlk=>?_) (fun hlk=>?_)|refine v_aThree rfl rfl rfl ?_ ?_ ?_|refine v_drawn0 (id:=23) pl7_23 (by kernel_rfl) ?_|fail)
  refine v_lp [9, 61] [3, 4, 5, 59, 60] (fun x : Nat × Nat => [.int .i64 x.1, .int .i64 x.2]) (fun _ => []) (fun x => x.2 ≤ (N.waiting N.all).length ∧ x.1 ≤ N.all.length ∧ N.waiting (N.all.take x.1) = (N.waiting N.all).take x.2) (fun x => (N.waiting N.all).length - x.2) ⟨0, 0⟩ (fun _ => rfl) rfl inferInstance
    ⟨Nat.zero_le _, Nat.zero_le _, by simp [NetM.waiting]⟩ ?_
  rintro ⟨at_, i⟩ ⟨hi, hat, hpre⟩
  dsimp only at hi hat hpre ⊢
  (try dsimp only [zipE_c, zipE_n, List.cons_append, List.nil_append])
  repeat' (first | refine stp ?_|(refine v_spT ?_ ?_;omega)|(refine v_spF ?_ ?_;omega)|refine v_spD (fun hc=>?_) (fun hc=>?_)|refine v_spB (fun hc=>?_) (fun hc=>?_)|(refine v_yc ?_ ?_;omega)|refine v_alloc' (fun ba=>?_)|refine v_box (fun bb=>?_)|refine v_lit (fun bl=>?_)|refine v_makeMap (fun bm=>?_)|(refine v_push ?_ (fun sv ss hs hln=>?_);omega)|(refine v_push0 ?_ (fun sv ss hs=>?_);omega)|(refine v_set ?_ (fun ss hs hln=>?_);omega)|(refine v_cat ?_ (fun sv ss hs hln=>?_);omega)|(refine v_cat0 ?_ (fun sv ss hs=>?_);omega)|(refine v_catN ?_ (fun sv ss hs=>?_);omega)|refine v_put (fun sm hm=>?_)|refine v_del (fun sm hm=>?_)|(refine v_sb ?_ (fun su (And.intro hs hln)=>?_);omega)|refine v_1lk (fun lv hlk=>?_) (fun hlk=>?_)|refine v_wAdd ?_|refine v_wSub ?_|refine v_wMul ?_|refine ⟨?_,?_⟩|(refine v_tyc ?_ ?_;omega)|(refine v_tycT (by kernel_rfl) ?_ ?_;omega)|refine v_tValT (by kernel_rfl) ?_|(refine v_tsb ?_ (fun su (And.intro hs hln)=>?_);omega)|refine v_tlk (fun lv hlk=>?_) (fun hlk=>?_)|refine v_tlkT (by kernel_rfl) (fun lv hlk=>?_) (fun hlk=>?_)|refine v_aThree rfl rfl rfl ?_ ?_ ?_|refine v_drawn0 (id:=23) pl7_23 (by kernel_rfl) ?_|fail)
  · refine v_lp [9] [3, 4, 5, 11, 59, 60, 61] (fun x : Nat => [.int .i64 x]) (fun _ => []) (fun x => x ≤ N.all.length ∧ N.waiting (N.all.take x) = (N.waiting N.all).take i) (fun x => N.all.length - x) at_ (fun _ => rfl) rfl inferInstance ⟨hat, hpre⟩ ?_
    rintro k ⟨hk, hpk⟩
    clear hat hpre
    obtain ⟨hk1, hk2⟩ := waiting_pre N hpk (by omega)
    have hwi : mget g (N.waiting N.all)[i].N = none := by
      have hm := List.getElem_mem (l := N.waiting N.all) (n := i) (by omega)
      generalize (N.waiting N.all)[i] = p at hm ⊢
      simp only [NetM.waiting, List.mem_filter] at hm
      obtain ⟨hm1, hm2⟩ := hm
      obtain ⟨m, hm3, rfl⟩ := List.getElem_of_mem hm1
      have := ho.waits (List.getElem?_eq_getElem hm3)
      rw [hm2] at this
      simpa using this.symm
    (try dsimp only [zipE_c, zipE_n, List.cons_append, List.nil_append])
    repeat' (first | refine stp ?_|(refine v_spT ?_ ?_;omega)|(refine v_spF ?_ ?_;omega)|refine v_spD (fun hc=>?_) (fun hc=>?_)|refine v_spB (fun hc=>?_) (fun hc=>?_)|(refine v_yc ?_ ?_;omega)|refine v_alloc' (fun ba=>?_)|refine v_box (fun bb=>?_)|refine v_lit (fun bl=>?_)|refine v_makeMap (fun bm=>?_)|(refine v_push ?_ (fun sv ss hs hln=>?_);omega)|(refine v_push0 ?_ (fun sv ss hs=>?_);omega)|(refine v_set ?_ (fun ss hs hln=>?_);omega)|(refine v_cat ?_ (fun sv ss hs hln=>?_);omega)|(refine v_cat0 ?_ (fun sv ss hs=>?_);omega)|(refine v_catN ?_ (fun sv ss hs=>?_);omega)|refine v_put (fun sm hm=>?_)|refine v_del (fun sm hm=>?_)|(refine v_sb ?_ (fun su (And.intro hs hln)=>?_);omega)|refine v_1lk (fun lv hlk=>?_) (fun hlk=>?_)|refine v_wAdd ?_|refine v_wSub ?_|refine v_wMul ?_|refine ⟨?_,?_⟩|(refine v_tyc ?_ ?_;omega)|(refine v_tycT (by kernel_rfl) ?_ ?_;omega)|refine v_tValT (by kernel_rfl) ?_|(refine v_tsb ?_ (fun su (And.intro hs hln)=>?_);omega)|refine v_tlk (fun lv hlk=>?_) (fun hlk=>?_)|refine v_tlkT (by kernel_rfl) (fun lv hlk=>?_) (fun hlk=>?_)|refine v_aThree rfl rfl rfl ?_ ?_ ?_|refine v_drawn0 (id:=23) pl7_23 (by kernel_rfl) ?_|fail)
    · exfalso
      rename_i h'
      have hnw : ¬ (mget N.there N.all[k].N).isSome = true := fun hs => h' (by rw [(hk2 hk1 hs).1]; exact ⟨rfl, rfl, rfl⟩)
      rw [ho.isGone hk1 hnw] at hc
      exact hc rfl
    · rename_i h'
      have hnw : ¬ (mget N.there N.all[k].N).isSome = true := fun hs => h' (by rw [(hk2 hk1 hs).1]; exact ⟨rfl, rfl, rfl⟩)
      refine v_again (k + 1) (by omega) rfl inferInstance ⟨by omega, ?_⟩
      have hst := N.waiting_step N.all hk1
      rw [if_neg hnw] at hst
      rw [hst, hpk, List.append_nil]
    · exfalso
      rw [hwi] at hc
      exact hc rfl
    · rename_i h'
      have he : N.all[k] = (N.waiting N.all)[i] := by
        obtain ⟨h1', h2', h3'⟩ := Decidable.not_not.1 h'
        generalize N.all[k] = p at *
        generalize (N.waiting N.all)[i] = q at *
        cases p; cases q
        simp_all
      have hs : (mget N.there N.all[k].N).isSome = true := by
        rw [ho.waits (List.getElem?_eq_getElem hk1), he, hwi]; rfl
      refine v_again (k + 1, i + 1) (by dsimp only; omega) rfl inferInstance ⟨by dsimp only; omega, by dsimp only; omega, (hk2 hk1 hs).2⟩
  · refine v_callR (seen_s ⟨sv, s1, bt, s2, rfl, h1, h2⟩ (by omega)) ?_
    rintro v Γ' ⟨r3, hw3, rfl⟩
    (try dsimp only [List.cons_append, List.nil_append])
    repeat' (first | refine stp ?_|(refine v_spT ?_ ?_;omega)|(refine v_spF ?_ ?_;omega)|refine v_spD (fun hc=>?_) (fun hc=>?_)|refine v_spB (fun hc=>?_) (fun hc=>?_)|(refine v_yc ?_ ?_;omega)|refine v_alloc' (fun ba=>?_)|refine v_box (fun bb=>?_)|refine v_lit (fun bl=>?_)|refine v_makeMap (fun bm=>?_)|(refine v_push ?_ (fun sv ss hs hln=>?_);omega)|(refine v_push0 ?_ (fun sv ss hs=>?_);omega)|(refine v_set ?_ (fun ss hs hln=>?_);omega)|(refine v_cat ?_ (fun sv ss hs hln=>?_);omega)|(refine v_cat0 ?_ (fun sv ss hs=>?_);omega)|(refine v_catN ?_ (fun sv ss hs=>?_);omega)|refine v_put (fun sm hm=>?_)|refine v_del (fun sm hm=>?_)|(refine v_sb ?_ (fun su (And.intro hs hln)=>?_);omega)|refine v_1lk (fun lv hlk=>?_) (fun hlk=>?_)|refine v_wAdd ?_|refine v_wSub ?_|refine v_wMul ?_|refine ⟨?_,?_⟩|(refine v_tyc ?_ ?_;omega)|(refine v_tycT (by kernel_rfl) ?_ ?_;omega)|refine v_tValT (by kernel_rfl) ?_|(refine v_tsb ?_ (fun su (And.intro hs hln)=>?_);omega)|refine v_tlk (fun lv hlk=>?_) (fun hlk=>?_)|refine v_tlkT (by kernel_rfl) (fun lv hlk=>?_) (fun hlk=>?_)|refine v_aThree rfl rfl rfl ?_ ?_ ?_|refine v_drawn0 (id:=23) pl7_23 (by kernel_rfl) ?_|fail)
    refine v_callR (same_s ⟨hw3.out.at⟩ ⟨h3.out.at⟩ (by omega)) ?_
    rintro v Γ' ⟨rfl, rfl⟩
    rw [decide_eq_true rfl]
    (try dsimp only [List.cons_append, List.nil_append])
    repeat' (first | refine stp ?_|(refine v_spT ?_ ?_;omega)|(refine v_spF ?_ ?_;omega)|refine v_spD (fun hc=>?_) (fun hc=>?_)|refine v_spB (fun hc=>?_) (fun hc=>?_)|(refine v_yc ?_ ?_;omega)|refine v_alloc' (fun ba=>?_)|refine v_box (fun bb=>?_)|refine v_lit (fun bl=>?_)|refine v_makeMap (fun bm=>?_)|(refine v_push ?_ (fun sv ss hs hln=>?_);omega)|(refine v_push0 ?_ (fun sv ss hs=>?_);omega)|(refine v_set ?_ (fun ss hs hln=>?_);omega)|(refine v_cat ?_ (fun sv ss hs hln=>?_);omega)|(refine v_cat0 ?_ (fun sv ss hs=>?_);omega)|(refine v_catN ?_ (fun sv ss hs=>?_);omega)|refine v_put (fun sm hm=>?_)|refine v_del (fun sm hm=>?_)|(refine v_sb ?_ (fun su (And.intro hs hln)=>?_);omega)|refine v_1lk (fun lv hlk=>?_) (fun hlk=>?_)|refine v_wAdd ?_|refine v_wSub ?_|refine v_wMul ?_|refine ⟨?_,?_⟩|(refine v_tyc ?_ ?_;omega)|(refine v_tycT (by kernel_rfl) ?_ ?_;omega)|refine v_tValT (by kernel_rfl) ?_|(refine v_tsb ?_ (fun su (And.intro hs hln)=>?_);omega)|refine v_tlk (fun lv hlk=>?_) (fun hlk=>?_)|refine v_tlkT (by kernel_rfl) (fun lv hlk=>?_) (fun hlk=>?_)|refine v_aThree rfl rfl rfl ?_ ?_ ?_|refine v_drawn0 (id:=23) pl7_23 (by kernel_rfl) ?_|fail)
    refine v_callR (waiting_s ⟨sv, s1, bt, s2, rfl, h1, h2⟩ (by omega)) ?_
    rintro v Γ' ⟨r4, hw4, rfl⟩
    (try dsimp only [List.cons_append, List.nil_append])
    repeat' (first | refine stp ?_|(refine v_spT ?_ ?_;omega)|(refine v_spF ?_ ?_;omega)|refine v_spD (fun hc=>?_) (fun hc=>?_)|refine v_spB (fun hc=>?_) (fun hc=>?_)|(refine v_yc ?_ ?_;omega)|refine v_alloc' (fun ba=>?_)|refine v_box (fun bb=>?_)|refine v_lit (fun bl=>?_)|refine v_makeMap (fun bm=>?_)|(refine v_push ?_ (fun sv ss hs hln=>?_);omega)|(refine v_push0 ?_ (fun sv ss hs=>?_);omega)|(refine v_set ?_ (fun ss hs hln=>?_);omega)|(refine v_cat ?_ (fun sv ss hs hln=>?_);omega)|(refine v_cat0 ?_ (fun sv ss hs=>?_);omega)|(refine v_catN ?_ (fun sv ss hs=>?_);omega)|refine v_put (fun sm hm=>?_)|refine v_del (fun sm hm=>?_)|(refine v_sb ?_ (fun su (And.intro hs hln)=>?_);omega)|refine v_1lk (fun lv hlk=>?_) (fun hlk=>?_)|refine v_wAdd ?_|refine v_wSub ?_|refine v_wMul ?_|refine ⟨?_,?_⟩|(refine v_tyc ?_ ?_;omega)|(refine v_tycT (by kernel_rfl) ?_ ?_;omega)|refine v_tValT (by kernel_rfl) ?_|(refine v_tsb ?_ (fun su (And.intro hs hln)=>?_);omega)|refine v_tlk (fun lv hlk=>?_) (fun hlk=>?_)|refine v_tlkT (by kernel_rfl) (fun lv hlk=>?_) (fun hlk=>?_)|refine v_aThree rfl rfl rfl ?_ ?_ ?_|refine v_drawn0 (id:=23) pl7_23 (by kernel_rfl) ?_|fail)
    refine v_o1 Try.results7 ⟨?_, rfl⟩ ⟨_, inferInstance⟩
    simp; omega
end Go.Proofs.Ytbkobjdeijdpgaa
