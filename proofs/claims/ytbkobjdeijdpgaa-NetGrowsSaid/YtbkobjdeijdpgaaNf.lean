/- Contracts of the net functions, walked by symbolic execution. -/
import Derived.Test.YtbkobjdeijdpgaaTy
namespace Go.Proofs.Ytbkobjdeijdpgaa
open Go Go.SX Go.RowKit
set_option maxRecDepth 100000
set_option linter.unusedSimpArgs false
set_option linter.unusedVariables false
set_option maxHeartbeats 0
set_option synthInstance.maxSize 100000
set_option synthInstance.maxHeartbeats 400000
abbrev ik (x : Int) : Value := .int .i64 x
instance (x : Int) : Kvt ik (.int .i64 x) x := ⟨rfl⟩
/-- the program's net -/
structure NetM where
  all : List ApiPacket
  there : List (Int × ApiPacket)
def NetA (bn : Nat) (M : NetM) (Γ : List Hp) : Prop := ∃ sv s1 bm s2, Γ = [[(bn, .cells #[sv, .map (some bm)] 84 (0, 0))], s1, s2] ∧ OwnS sv 51 ApiPacket 3 cvApiPacket M.all s1 ∧ OwnM bm Int ApiPacket ik avApiPacket M.there s2
theorem new_s : SX.Spec Try.prog 26 #[] [] [] fun v Γ => ∃ bn, v = .pointer (some ⟨bn, 0, none⟩) ∧ NetA bn ⟨[], []⟩ Γ := by
  refine spec_of0 Try.func26 Try.ntmps26 rfl rfl (fun M w0 => ?_)
  repeat' (first | refine stp ?_|(refine v_spT ?_ ?_;omega)|(refine v_spF ?_ ?_;omega)|refine v_spD (fun hc=>?_) (fun hc=>?_)|refine v_spB (fun hc=>?_) (fun hc=>?_)|(refine v_yc ?_ ?_;omega)|refine v_alloc' (fun ba=>?_)|refine v_box (fun bb=>?_)|refine v_lit (fun bl=>?_)|refine v_makeMap (fun bm=>?_)|(refine v_push ?_ (fun sv ss hs hln=>?_);omega)|(refine v_push0 ?_ (fun sv ss hs=>?_);omega)|(refine v_set ?_ (fun ss hs hln=>?_);omega)|(refine v_cat ?_ (fun sv ss hs hln=>?_);omega)|(refine v_cat0 ?_ (fun sv ss hs=>?_);omega)|(refine v_catN ?_ (fun sv ss hs=>?_);omega)|refine v_put (fun sm hm=>?_)|refine v_del (fun sm hm=>?_)|(refine v_sb ?_ (fun su (And.intro hs hln)=>?_);omega)|refine v_1lk (fun lv hlk=>?_) (fun hlk=>?_)|refine v_wAdd ?_|refine v_wSub ?_|refine v_wMul ?_|fail)
  refine v_o1 Try.results26 ⟨_, rfl, _, _, bm, _, rfl, OwnS.nil, ⟨MpAt.new _⟩⟩ ⟨_, inferInstance⟩
/-- what Send makes of it -/
def NetM.send (M : NetM) (f : Int) (b : ByteArray) : NetM := ⟨M.all ++ [⟨M.all.length + 1, f, b⟩], mput M.there (M.all.length + 1) ⟨M.all.length + 1, f, b⟩⟩
theorem send_s {bn : Nat} {N : NetM} {Γ : List Hp} (h : NetA bn N Γ) (f : Int) (b : ByteArray) (hb : (N.all.length + 1) * 32 ≤ 140737488355328) : SX.Spec Try.prog 27 #[.pointer (some ⟨bn, 0, none⟩), .int .i64 f, .string b] [] Γ fun v Γ => v = .int .i64 (N.all.length + 1) ∧ NetA bn (N.send f b) Γ := by
  obtain ⟨sv, s1, bm, s2, rfl, h1, h2⟩ := h
  refine spec_of3 Try.func27 Try.ntmps27 rfl rfl (fun M w0 => ?_)
  repeat' (first | refine stp ?_|(refine v_spT ?_ ?_;omega)|(refine v_spF ?_ ?_;omega)|refine v_spD (fun hc=>?_) (fun hc=>?_)|refine v_spB (fun hc=>?_) (fun hc=>?_)|(refine v_yc ?_ ?_;omega)|refine v_alloc' (fun ba=>?_)|refine v_box (fun bb=>?_)|refine v_lit (fun bl=>?_)|refine v_makeMap (fun bm=>?_)|(refine v_push ?_ (fun sv ss hs hln=>?_);omega)|(refine v_push0 ?_ (fun sv ss hs=>?_);omega)|(refine v_set ?_ (fun ss hs hln=>?_);omega)|(refine v_cat ?_ (fun sv ss hs hln=>?_);omega)|(refine v_cat0 ?_ (fun sv ss hs=>?_);omega)|(refine v_catN ?_ (fun sv ss hs=>?_);omega)|refine v_put (fun sm hm=>?_)|refine v_del (fun sm hm=>?_)|(refine v_sb ?_ (fun su (And.intro hs hln)=>?_);omega)|refine v_1lk (fun lv hlk=>?_) (fun hlk=>?_)|refine v_wAdd ?_|refine v_wSub ?_|refine v_wMul ?_|refine ⟨?_,?_⟩|(refine v_tyc ?_ ?_;omega)|(refine v_tycT (by kernel_rfl) ?_ ?_;omega)|refine v_tValT (by kernel_rfl) ?_|(refine v_tsb ?_ (fun su (And.intro hs hln)=>?_);omega)|refine v_tlk (fun lv hlk=>?_) (fun hlk=>?_)|refine v_tlkT (by kernel_rfl) (fun lv hlk=>?_) (fun hlk=>?_)|refine v_aThree rfl rfl rfl ?_ ?_ ?_|refine v_drawnK (id:=2) 7 pl27_2 (by kernel_rfl) ?_|refine v_drawnK (id:=3) 7 pl27_3 (by kernel_rfl) ?_|fail)
  refine v_o1 Try.results27 ⟨rfl, _, _, _, _, rfl, hs, hm⟩ ⟨_, inferInstance⟩
theorem get_s {bn : Nat} {N : NetM} {Γ : List Hp} (h : NetA bn N Γ) (k : Int) : SX.Spec Try.prog 29 #[.pointer (some ⟨bn, 0, none⟩), .int .i64 k] Γ [] fun v Γ => Γ = [] ∧ ((∃ p, mget N.there k = some p ∧ v = .tuple #[avApiPacket p, .int .i64 0]) ∨ (mget N.there k = none ∧ v = .tuple #[avApiPacket ⟨0, 0, ByteArray.empty⟩, .int .i64 26])) := by
  obtain ⟨sv, s1, bm, s2, rfl, h1, h2⟩ := h
  refine spec_of2 Try.func29 Try.ntmps29 rfl rfl (fun M w0 => ?_)
  repeat' (first | refine stp ?_|(refine v_spT ?_ ?_;omega)|(refine v_spF ?_ ?_;omega)|refine v_spD (fun hc=>?_) (fun hc=>?_)|refine v_spB (fun hc=>?_) (fun hc=>?_)|(refine v_yc ?_ ?_;omega)|refine v_alloc' (fun ba=>?_)|refine v_box (fun bb=>?_)|refine v_lit (fun bl=>?_)|refine v_makeMap (fun bm=>?_)|(refine v_push ?_ (fun sv ss hs hln=>?_);omega)|(refine v_push0 ?_ (fun sv ss hs=>?_);omega)|(refine v_set ?_ (fun ss hs hln=>?_);omega)|(refine v_cat ?_ (fun sv ss hs hln=>?_);omega)|(refine v_cat0 ?_ (fun sv ss hs=>?_);omega)|(refine v_catN ?_ (fun sv ss hs=>?_);omega)|refine v_put (fun sm hm=>?_)|refine v_del (fun sm hm=>?_)|(refine v_sb ?_ (fun su (And.intro hs hln)=>?_);omega)|refine v_1lk (fun lv hlk=>?_) (fun hlk=>?_)|refine v_wAdd ?_|refine v_wSub ?_|refine v_wMul ?_|fail)
  · refine v_o2 Try.results29 ⟨rfl, .inl ⟨_, hlk, rfl⟩⟩ ⟨_, inferInstance⟩
  · refine v_o2 Try.results29 ⟨rfl, .inr ⟨hlk, rfl⟩⟩ ⟨_, inferInstance⟩
theorem drop_s {bn : Nat} {N : NetM} {Γ : List Hp} (h : NetA bn N Γ) (k : Int) : SX.Spec Try.prog 31 #[.pointer (some ⟨bn, 0, none⟩), .int .i64 k] [] Γ fun v Γ => NetA bn ⟨N.all, mdel N.there k⟩ Γ ∧ v = .int .i64 (if (mget N.there k).isSome then 0 else 26) := by
  obtain ⟨sv, s1, bm, s2, rfl, h1, h2⟩ := h
  refine spec_of2 Try.func31 Try.ntmps31 rfl rfl (fun M w0 => ?_)
  repeat' (first | refine stp ?_|(refine v_spT ?_ ?_;omega)|(refine v_spF ?_ ?_;omega)|refine v_spD (fun hc=>?_) (fun hc=>?_)|refine v_spB (fun hc=>?_) (fun hc=>?_)|(refine v_yc ?_ ?_;omega)|refine v_alloc' (fun ba=>?_)|refine v_box (fun bb=>?_)|refine v_lit (fun bl=>?_)|refine v_makeMap (fun bm=>?_)|(refine v_push ?_ (fun sv ss hs hln=>?_);omega)|(refine v_push0 ?_ (fun sv ss hs=>?_);omega)|(refine v_set ?_ (fun ss hs hln=>?_);omega)|(refine v_cat ?_ (fun sv ss hs hln=>?_);omega)|(refine v_cat0 ?_ (fun sv ss hs=>?_);omega)|(refine v_catN ?_ (fun sv ss hs=>?_);omega)|refine v_put (fun sm hm=>?_)|refine v_del (fun sm hm=>?_)|(refine v_sb ?_ (fun su (And.intro hs hln)=>?_);omega)|refine v_1lk (fun lv hlk=>?_) (fun hlk=>?_)|refine v_wAdd ?_|refine v_wSub ?_|refine v_wMul ?_|fail)
  · refine v_o1 Try.results31 ⟨⟨_, _, _, _, rfl, h1, hm⟩, by rw [hlk]; rfl⟩ ⟨_, inferInstance⟩
  · refine v_o1 Try.results31 ⟨⟨_, _, bm, s2, rfl, h1, ?_⟩, by rw [hlk]; rfl⟩ ⟨_, inferInstance⟩
    rw [mdel_none (mget_none.1 hlk)]
    exact h2
/-- what is under way, in its order -/
def NetM.waiting (N : NetM) (l : List ApiPacket) : List ApiPacket := l.filter fun p => (mget N.there p.N).isSome
theorem NetM.waiting_le (N : NetM) (l : List ApiPacket) (j : Nat) : (N.waiting (l.take j)).length ≤ j := Nat.le_trans (List.length_filter_le _ _) (by simp; omega)
theorem NetM.waiting_step (N : NetM) (l : List ApiPacket) {j : Nat} (h : j < l.length) : N.waiting (l.take (j + 1)) = N.waiting (l.take j) ++ (if (mget N.there l[j].N).isSome then [l[j]] else []) := by
  unfold NetM.waiting
  rw [List.take_add_one, List.filter_append, List.getElem?_eq_getElem h]
  congr 1
  by_cases hp : (mget N.there l[j].N).isSome = true <;> simp [hp]
theorem waiting_s {bn : Nat} {N : NetM} {Γ : List Hp} (h : NetA bn N Γ) (hb : N.all.length * 32 ≤ 140737488355328) : SX.Spec Try.prog 34 #[.pointer (some ⟨bn, 0, none⟩)] Γ [] fun v Γ => ∃ s, OwnS v 51 ApiPacket 3 cvApiPacket (N.waiting N.all) s ∧ Γ = [s] := by
  obtain ⟨sv, s1, bm, s2, rfl, h1, h2⟩ := h
  refine spec_of1 Try.func34 Try.ntmps34 rfl rfl (fun M w0 => ?_)
  repeat' (first | refine stp ?_|(refine v_spT ?_ ?_;omega)|(refine v_spF ?_ ?_;omega)|refine v_spD (fun hc=>?_) (fun hc=>?_)|refine v_spB (fun hc=>?_) (fun hc=>?_)|(refine v_yc ?_ ?_;omega)|refine v_alloc' (fun ba=>?_)|refine v_box (fun bb=>?_)|refine v_lit (fun bl=>?_)|refine v_makeMap (fun bm=>?_)|(refine v_push ?_ (fun sv ss hs hln=>?_);omega)|(refine v_push0 ?_ (fun sv ss hs=>?_);omega)|(refine v_set ?_ (fun ss hs hln=>?_);omega)|(refine v_cat ?_ (fun sv ss hs hln=>?_);omega)|(refine v_cat0 ?_ (fun sv ss hs=>?_);omega)|(refine v_catN ?_ (fun sv ss hs=>?_);omega)|refine v_put (fun sm hm=>?_)|refine v_del (fun sm hm=>?_)|(refine v_sb ?_ (fun su (And.intro hs hln)=>?_);omega)|refine v_1lk (fun lv hlk=>?_) (fun hlk=>?_)|refine v_wAdd ?_|refine v_wSub ?_|refine v_wMul ?_|refine ⟨?_,?_⟩|(refine v_tyc ?_ ?_;omega)|(refine v_tycT (by kernel_rfl) ?_ ?_;omega)|refine v_tValT (by kernel_rfl) ?_|(refine v_tsb ?_ (fun su (And.intro hs hln)=>?_);omega)|refine v_tlk (fun lv hlk=>?_) (fun hlk=>?_)|refine v_tlkT (by kernel_rfl) (fun lv hlk=>?_) (fun hlk=>?_)|refine v_aThree rfl rfl rfl ?_ ?_ ?_|refine v_drawnK (id:=5) 11 pl34_5 (by kernel_rfl) ?_|fail)
  refine v_loop [0, 11, 12, 13, 3, 2] (fun x : Nat × Value × Hp => [.pointer (some ⟨bn, 0, none⟩), sv, .int .i64 N.all.length, .int .i64 x.1, x.2.1, .slice none 0 0]) (fun x => [x.2.2])
    (fun x => x.1 ≤ N.all.length ∧ OwnS x.2.1 51 ApiPacket 3 cvApiPacket (N.waiting (N.all.take x.1)) x.2.2) (fun x => N.all.length - x.1) (0, .slice none 0 0, []) rfl (Γd := []) ⟨by simp⟩ ⟨Nat.zero_le _, OwnS.nil⟩ ?_
  rintro ⟨j, ov, os⟩ ⟨hj, ho⟩
  dsimp only [zipE] at hj ho ⊢
  have hwl := N.waiting_le N.all j
  repeat' (first | refine stp ?_|(refine v_spT ?_ ?_;omega)|(refine v_spF ?_ ?_;omega)|refine v_spD (fun hc=>?_) (fun hc=>?_)|refine v_spB (fun hc=>?_) (fun hc=>?_)|(refine v_yc ?_ ?_;omega)|refine v_alloc' (fun ba=>?_)|refine v_box (fun bb=>?_)|refine v_lit (fun bl=>?_)|refine v_makeMap (fun bm=>?_)|(refine v_push ?_ (fun sv ss hs hln=>?_);omega)|(refine v_push0 ?_ (fun sv ss hs=>?_);omega)|(refine v_set ?_ (fun ss hs hln=>?_);omega)|(refine v_cat ?_ (fun sv ss hs hln=>?_);omega)|(refine v_cat0 ?_ (fun sv ss hs=>?_);omega)|(refine v_catN ?_ (fun sv ss hs=>?_);omega)|refine v_put (fun sm hm=>?_)|refine v_del (fun sm hm=>?_)|(refine v_sb ?_ (fun su (And.intro hs hln)=>?_);omega)|refine v_1lk (fun lv hlk=>?_) (fun hlk=>?_)|refine v_wAdd ?_|refine v_wSub ?_|refine v_wMul ?_|refine ⟨?_,?_⟩|(refine v_tyc ?_ ?_;omega)|(refine v_tycT (by kernel_rfl) ?_ ?_;omega)|refine v_tValT (by kernel_rfl) ?_|(refine v_tsb ?_ (fun su (And.intro hs hln)=>?_);omega)|refine v_tlk (fun lv hlk=>?_) (fun hlk=>?_)|refine v_tlkT (by kernel_rfl) (fun lv hlk=>?_) (fun hlk=>?_)|refine v_aThree rfl rfl rfl ?_ ?_ ?_|refine v_drawnK (id:=5) 11 pl34_5 (by kernel_rfl) ?_|fail)
  · refine v_again (j + 1, sv, ss) ?_ rfl inferInstance ⟨by omega, ?_⟩
    · dsimp only; omega
    · have := N.waiting_step N.all (j := j) (by omega)
      rw [hlk] at this
      rw [this]
      exact hs
  · refine v_again (j + 1, ov, os) ?_ rfl inferInstance ⟨by omega, ?_⟩
    · dsimp only; omega
    · have := N.waiting_step N.all (j := j) (by omega)
      rw [hlk] at this
      rw [this]
      simpa using ho
  · have hj' : j = N.all.length := by omega
    subst hj'
    refine v_o1 Try.results34 ⟨os, ?_, rfl⟩ ⟨_, inferInstance⟩
    simpa using ho
theorem clone_s {sv : Value} {l : List ApiPacket} {s : Hp} (h : OwnS sv 51 ApiPacket 3 cvApiPacket l s) (hb : l.length * 32 ≤ 140737488355328) : SX.Spec Try.prog 54 #[sv] [s] [] fun v Γ => ∃ s', OwnS v 51 ApiPacket 3 cvApiPacket l s' ∧ Γ = [s'] := by
  refine spec_of1 Try.func54 Try.ntmps54 rfl rfl (fun M w0 => ?_)
  repeat' (first | refine stp ?_|(refine v_spT ?_ ?_;omega)|(refine v_spF ?_ ?_;omega)|refine v_spD (fun hc=>?_) (fun hc=>?_)|refine v_spB (fun hc=>?_) (fun hc=>?_)|(refine v_yc ?_ ?_;omega)|refine v_alloc' (fun ba=>?_)|refine v_box (fun bb=>?_)|refine v_lit (fun bl=>?_)|refine v_makeMap (fun bm=>?_)|(refine v_push ?_ (fun sv ss hs hln=>?_);omega)|(refine v_push0 ?_ (fun sv ss hs=>?_);omega)|(refine v_set ?_ (fun ss hs hln=>?_);omega)|(refine v_cat ?_ (fun sv ss hs hln=>?_);omega)|(refine v_cat0 ?_ (fun sv ss hs=>?_);omega)|(refine v_catN ?_ (fun sv ss hs=>?_);omega)|refine v_put (fun sm hm=>?_)|refine v_del (fun sm hm=>?_)|(refine v_sb ?_ (fun su (And.intro hs hln)=>?_);omega)|refine v_1lk (fun lv hlk=>?_) (fun hlk=>?_)|refine v_wAdd ?_|refine v_wSub ?_|refine v_wMul ?_|fail)
  · obtain ⟨rfl, rfl⟩ := nilS_nil (v := sv) hc
    refine v_o1 Try.results54 ⟨[], OwnS.nil, rfl⟩ ⟨_, inferInstance⟩
  · refine v_o1 Try.results54 ⟨_, hs, rfl⟩ ⟨_, inferInstance⟩
theorem seen_s {bn : Nat} {N : NetM} {Γ : List Hp} (h : NetA bn N Γ) (hb : N.all.length * 32 ≤ 140737488355328) : SX.Spec Try.prog 36 #[.pointer (some ⟨bn, 0, none⟩)] Γ [] fun v Γ => ∃ s, OwnS v 51 ApiPacket 3 cvApiPacket N.all s ∧ Γ = [s] := by
  obtain ⟨sv, s1, bm, s2, rfl, h1, h2⟩ := h
  refine spec_of1 Try.func36 Try.ntmps36 rfl rfl (fun M w0 => ?_)
  repeat' (first | refine stp ?_|(refine v_spT ?_ ?_;omega)|(refine v_spF ?_ ?_;omega)|refine v_spD (fun hc=>?_) (fun hc=>?_)|refine v_spB (fun hc=>?_) (fun hc=>?_)|(refine v_yc ?_ ?_;omega)|refine v_alloc' (fun ba=>?_)|refine v_box (fun bb=>?_)|refine v_lit (fun bl=>?_)|refine v_makeMap (fun bm=>?_)|(refine v_push ?_ (fun sv ss hs hln=>?_);omega)|(refine v_push0 ?_ (fun sv ss hs=>?_);omega)|(refine v_set ?_ (fun ss hs hln=>?_);omega)|(refine v_cat ?_ (fun sv ss hs hln=>?_);omega)|(refine v_cat0 ?_ (fun sv ss hs=>?_);omega)|(refine v_catN ?_ (fun sv ss hs=>?_);omega)|refine v_put (fun sm hm=>?_)|refine v_del (fun sm hm=>?_)|(refine v_sb ?_ (fun su (And.intro hs hln)=>?_);omega)|refine v_1lk (fun lv hlk=>?_) (fun hlk=>?_)|refine v_wAdd ?_|refine v_wSub ?_|refine v_wMul ?_|fail)
  refine v_call (clone_s h1 hb) (fun b hb => by cases hb) ?_
  rintro v Γ' ⟨s', hs, rfl⟩
  dsimp only [List.cons_append, List.nil_append]
  repeat' (first | refine stp ?_|(refine v_spT ?_ ?_;omega)|(refine v_spF ?_ ?_;omega)|refine v_spD (fun hc=>?_) (fun hc=>?_)|refine v_spB (fun hc=>?_) (fun hc=>?_)|(refine v_yc ?_ ?_;omega)|refine v_alloc' (fun ba=>?_)|refine v_box (fun bb=>?_)|refine v_lit (fun bl=>?_)|refine v_makeMap (fun bm=>?_)|(refine v_push ?_ (fun sv ss hs hln=>?_);omega)|(refine v_push0 ?_ (fun sv ss hs=>?_);omega)|(refine v_set ?_ (fun ss hs hln=>?_);omega)|(refine v_cat ?_ (fun sv ss hs hln=>?_);omega)|(refine v_cat0 ?_ (fun sv ss hs=>?_);omega)|(refine v_catN ?_ (fun sv ss hs=>?_);omega)|refine v_put (fun sm hm=>?_)|refine v_del (fun sm hm=>?_)|(refine v_sb ?_ (fun su (And.intro hs hln)=>?_);omega)|refine v_1lk (fun lv hlk=>?_) (fun hlk=>?_)|refine v_wAdd ?_|refine v_wSub ?_|refine v_wMul ?_|fail)
  refine v_o1 Try.results36 ⟨s', hs, rfl⟩ ⟨_, inferInstance⟩
/-- the document's net -/
structure RefM where
  all : List ApiPacket
  gone : List Bool
abbrev cb (x : Bool) : List Value := [.bool x]
def RefA (bn : Nat) (M : RefM) (Γ : List Hp) : Prop := ∃ sv s1 gv s2, Γ = [[(bn, .cells #[sv, gv] 46 (0, 0))], s1, s2] ∧ OwnS sv 51 ApiPacket 3 cvApiPacket M.all s1 ∧ OwnS gv 4 Bool 1 (fun x => [.bool x]) M.gone s2
theorem rsend_s {bn : Nat} {N : RefM} {Γ : List Hp} (h : RefA bn N Γ) (f : Int) (b : ByteArray) (hb : (N.all.length + 1) * 32 ≤ 140737488355328) (hg : N.gone.length = N.all.length) : SX.Spec Try.prog 28 #[.pointer (some ⟨bn, 0, none⟩), .int .i64 f, .string b] [] Γ
    fun v Γ => v = .int .i64 (N.all.length + 1) ∧ RefA bn ⟨N.all ++ [⟨N.all.length + 1, f, b⟩], N.gone ++ [false]⟩ Γ := by
  obtain ⟨sv, s1, gv, s2, rfl, h1, h2⟩ := h
  refine spec_of3 Try.func28 Try.ntmps28 rfl rfl (fun M w0 => ?_)
  repeat' (first | refine stp ?_|(refine v_spT ?_ ?_;omega)|(refine v_spF ?_ ?_;omega)|refine v_spD (fun hc=>?_) (fun hc=>?_)|refine v_spB (fun hc=>?_) (fun hc=>?_)|(refine v_yc ?_ ?_;omega)|refine v_alloc' (fun ba=>?_)|refine v_box (fun bb=>?_)|refine v_lit (fun bl=>?_)|refine v_makeMap (fun bm=>?_)|(refine v_push ?_ (fun sv ss hs hln=>?_);omega)|(refine v_push0 ?_ (fun sv ss hs=>?_);omega)|(refine v_set ?_ (fun ss hs hln=>?_);omega)|(refine v_cat ?_ (fun sv ss hs hln=>?_);omega)|(refine v_cat0 ?_ (fun sv ss hs=>?_);omega)|(refine v_catN ?_ (fun sv ss hs=>?_);omega)|refine v_put (fun sm hm=>?_)|refine v_del (fun sm hm=>?_)|(refine v_sb ?_ (fun su (And.intro hs hln)=>?_);omega)|refine v_1lk (fun lv hlk=>?_) (fun hlk=>?_)|refine v_wAdd ?_|refine v_wSub ?_|refine v_wMul ?_|refine ⟨?_,?_⟩|(refine v_tyc ?_ ?_;omega)|(refine v_tycT (by kernel_rfl) ?_ ?_;omega)|refine v_tValT (by kernel_rfl) ?_|(refine v_tsb ?_ (fun su (And.intro hs hln)=>?_);omega)|refine v_tlk (fun lv hlk=>?_) (fun hlk=>?_)|refine v_tlkT (by kernel_rfl) (fun lv hlk=>?_) (fun hlk=>?_)|refine v_aThree rfl rfl rfl ?_ ?_ ?_|refine v_drawnK (id:=2) 7 pl28_2 (by kernel_rfl) ?_|fail)
  all_goals first | omega | skip
  refine v_o1 Try.results28 ⟨rfl, _, _, _, _, rfl, (by assumption), hs⟩ ⟨_, inferInstance⟩
/-- Get of the document's net: number k is there (p), or isn't -/
def RefM.has (N : RefM) (k : Int) (p : ApiPacket) : Prop := 1 ≤ k ∧ N.all[(k - 1).toNat]? = some p ∧ N.gone[(k - 1).toNat]? = some false
def RefM.hasnt (N : RefM) (k : Int) : Prop := k < 1 ∨ N.gone[(k - 1).toNat]? ≠ some false
theorem rget_s {bn : Nat} {N : RefM} {Γ : List Hp} (h : RefA bn N Γ) (k : Int) (hg : N.gone.length = N.all.length) (hb : N.all.length * 32 ≤ 140737488355328) : SX.Spec Try.prog 30 #[.pointer (some ⟨bn, 0, none⟩), .int .i64 k] Γ []
    fun v Γ => Γ = [] ∧ ((∃ p, N.has k p ∧ v = .tuple #[avApiPacket p, .int .i64 0]) ∨ (N.hasnt k ∧ v = .tuple #[avApiPacket ⟨0, 0, ByteArray.empty⟩, .int .i64 26])) := by
  obtain ⟨sv, s1, gv, s2, rfl, h1, h2⟩ := h
  refine spec_of2 Try.func30 Try.ntmps30 rfl rfl (fun M w0 => ?_)
  repeat' (first | refine stp ?_|(refine v_spT ?_ ?_;omega)|(refine v_spF ?_ ?_;omega)|refine v_spD (fun hc=>?_) (fun hc=>?_)|refine v_spB (fun hc=>?_) (fun hc=>?_)|(refine v_yc ?_ ?_;omega)|refine v_alloc' (fun ba=>?_)|refine v_box (fun bb=>?_)|refine v_lit (fun bl=>?_)|refine v_makeMap (fun bm=>?_)|(refine v_push ?_ (fun sv ss hs hln=>?_);omega)|(refine v_push0 ?_ (fun sv ss hs=>?_);omega)|(refine v_set ?_ (fun ss hs hln=>?_);omega)|(refine v_cat ?_ (fun sv ss hs hln=>?_);omega)|(refine v_cat0 ?_ (fun sv ss hs=>?_);omega)|(refine v_catN ?_ (fun sv ss hs=>?_);omega)|refine v_put (fun sm hm=>?_)|refine v_del (fun sm hm=>?_)|(refine v_sb ?_ (fun su (And.intro hs hln)=>?_);omega)|refine v_1lk (fun lv hlk=>?_) (fun hlk=>?_)|refine v_wAdd ?_|refine v_wSub ?_|refine v_wMul ?_|fail)
  · refine v_o2 Try.results30 ⟨rfl, .inr ⟨.inl hc, rfl⟩⟩ ⟨_, inferInstance⟩
  · refine v_o2 Try.results30 ⟨rfl, .inr ⟨.inr ?_, rfl⟩⟩ ⟨_, inferInstance⟩
    rw [List.getElem?_eq_none (by omega)]
    simp
  · refine v_o2 Try.results30 ⟨rfl, .inr ⟨.inr ?_, rfl⟩⟩ ⟨_, inferInstance⟩
    rw [List.getElem?_eq_getElem (by omega), hc]; simp
  · refine v_o2 Try.results30 ⟨rfl, .inl ⟨_, ⟨by omega, List.getElem?_eq_getElem _, ?_⟩, rfl⟩⟩ ⟨_, inferInstance⟩
    rw [List.getElem?_eq_getElem (by omega), hc]
theorem rdrop_s {bn : Nat} {N : RefM} {Γ : List Hp} (h : RefA bn N Γ) (k : Int) (hg : N.gone.length = N.all.length) (hb : N.all.length * 32 ≤ 140737488355328) : SX.Spec Try.prog 32 #[.pointer (some ⟨bn, 0, none⟩), .int .i64 k] [] Γ
    fun v Γ => ((∃ p, N.has k p) ∧ v = .int .i64 0 ∧ RefA bn ⟨N.all, N.gone.set (k - 1).toNat true⟩ Γ) ∨ (N.hasnt k ∧ v = .int .i64 26 ∧ RefA bn N Γ) := by
  have hget := rget_s h k hg hb
  obtain ⟨sv, s1, gv, s2, rfl, h1, h2⟩ := h
  refine spec_of2 Try.func32 Try.ntmps32 rfl rfl (fun M w0 => ?_)
  repeat' (first | refine stp ?_|(refine v_spT ?_ ?_;omega)|(refine v_spF ?_ ?_;omega)|refine v_spD (fun hc=>?_) (fun hc=>?_)|refine v_spB (fun hc=>?_) (fun hc=>?_)|(refine v_yc ?_ ?_;omega)|refine v_alloc' (fun ba=>?_)|refine v_box (fun bb=>?_)|refine v_lit (fun bl=>?_)|refine v_makeMap (fun bm=>?_)|(refine v_push ?_ (fun sv ss hs hln=>?_);omega)|(refine v_push0 ?_ (fun sv ss hs=>?_);omega)|(refine v_set ?_ (fun ss hs hln=>?_);omega)|(refine v_cat ?_ (fun sv ss hs hln=>?_);omega)|(refine v_cat0 ?_ (fun sv ss hs=>?_);omega)|(refine v_catN ?_ (fun sv ss hs=>?_);omega)|refine v_put (fun sm hm=>?_)|refine v_del (fun sm hm=>?_)|(refine v_sb ?_ (fun su (And.intro hs hln)=>?_);omega)|refine v_1lk (fun lv hlk=>?_) (fun hlk=>?_)|refine v_wAdd ?_|refine v_wSub ?_|refine v_wMul ?_|fail)
  refine v_call hget (fun b hb => by cases hb) ?_
  rintro v Γ' ⟨rfl, ⟨p, hp, rfl⟩ | ⟨hp, rfl⟩⟩
  all_goals dsimp only [List.cons_append, List.nil_append]
  · obtain ⟨hp1, hp2, hp3⟩ := hp
    have hl := (List.getElem?_eq_some_iff.1 hp3).1
    repeat' (first | refine stp ?_|(refine v_spT ?_ ?_;omega)|(refine v_spF ?_ ?_;omega)|refine v_spD (fun hc=>?_) (fun hc=>?_)|refine v_spB (fun hc=>?_) (fun hc=>?_)|(refine v_yc ?_ ?_;omega)|refine v_alloc' (fun ba=>?_)|refine v_box (fun bb=>?_)|refine v_lit (fun bl=>?_)|refine v_makeMap (fun bm=>?_)|(refine v_push ?_ (fun sv ss hs hln=>?_);omega)|(refine v_push0 ?_ (fun sv ss hs=>?_);omega)|(refine v_set ?_ (fun ss hs hln=>?_);omega)|(refine v_cat ?_ (fun sv ss hs hln=>?_);omega)|(refine v_cat0 ?_ (fun sv ss hs=>?_);omega)|(refine v_catN ?_ (fun sv ss hs=>?_);omega)|refine v_put (fun sm hm=>?_)|refine v_del (fun sm hm=>?_)|(refine v_sb ?_ (fun su (And.intro hs hln)=>?_);omega)|refine v_1lk (fun lv hlk=>?_) (fun hlk=>?_)|refine v_wAdd ?_|refine v_wSub ?_|refine v_wMul ?_|fail)
    all_goals refine v_o1 Try.results32 (.inl ⟨⟨p, hp1, hp2, hp3⟩, rfl, _, _, _, _, rfl, h1, hs⟩) ⟨_, inferInstance⟩
  · repeat' (first | refine stp ?_|(refine v_spT ?_ ?_;omega)|(refine v_spF ?_ ?_;omega)|refine v_spD (fun hc=>?_) (fun hc=>?_)|refine v_spB (fun hc=>?_) (fun hc=>?_)|(refine v_yc ?_ ?_;omega)|refine v_alloc' (fun ba=>?_)|refine v_box (fun bb=>?_)|refine v_lit (fun bl=>?_)|refine v_makeMap (fun bm=>?_)|(refine v_push ?_ (fun sv ss hs hln=>?_);omega)|(refine v_push0 ?_ (fun sv ss hs=>?_);omega)|(refine v_set ?_ (fun ss hs hln=>?_);omega)|(refine v_cat ?_ (fun sv ss hs hln=>?_);omega)|(refine v_cat0 ?_ (fun sv ss hs=>?_);omega)|(refine v_catN ?_ (fun sv ss hs=>?_);omega)|refine v_put (fun sm hm=>?_)|refine v_del (fun sm hm=>?_)|(refine v_sb ?_ (fun su (And.intro hs hln)=>?_);omega)|refine v_1lk (fun lv hlk=>?_) (fun hlk=>?_)|refine v_wAdd ?_|refine v_wSub ?_|refine v_wMul ?_|fail)
    all_goals refine v_o1 Try.results32 (.inr ⟨hp, rfl, sv, s1, gv, s2, rfl, h1, h2⟩) ⟨_, inferInstance⟩
/-- of the first j packets those that aren't gone -/
def RefM.wait (N : RefM) (j : Nat) : List ApiPacket := (((N.all.zip N.gone).take j).filter fun x => !x.2).map (·.1)
theorem rwait_s {bn : Nat} {N : RefM} {Γ : List Hp} (h : RefA bn N Γ) (hg : N.gone.length = N.all.length) (hb : N.all.length * 32 ≤ 140737488355328) : SX.Spec Try.prog 35 #[.pointer (some ⟨bn, 0, none⟩)] Γ []
    fun v Γ => ∃ s, OwnS v 51 ApiPacket 3 cvApiPacket (N.wait N.all.length) s ∧ Γ = [s] := by
  obtain ⟨sv, s1, gv, s2, rfl, h1, h2⟩ := h
  refine spec_of1 Try.func35 Try.ntmps35 rfl rfl (fun M w0 => ?_)
  repeat' (first | refine stp ?_|(refine v_spT ?_ ?_;omega)|(refine v_spF ?_ ?_;omega)|refine v_spD (fun hc=>?_) (fun hc=>?_)|refine v_spB (fun hc=>?_) (fun hc=>?_)|(refine v_yc ?_ ?_;omega)|refine v_alloc' (fun ba=>?_)|refine v_box (fun bb=>?_)|refine v_lit (fun bl=>?_)|refine v_makeMap (fun bm=>?_)|(refine v_push ?_ (fun sv ss hs hln=>?_);omega)|(refine v_push0 ?_ (fun sv ss hs=>?_);omega)|(refine v_set ?_ (fun ss hs hln=>?_);omega)|(refine v_cat ?_ (fun sv ss hs hln=>?_);omega)|(refine v_cat0 ?_ (fun sv ss hs=>?_);omega)|(refine v_catN ?_ (fun sv ss hs=>?_);omega)|refine v_put (fun sm hm=>?_)|refine v_del (fun sm hm=>?_)|(refine v_sb ?_ (fun su (And.intro hs hln)=>?_);omega)|refine v_1lk (fun lv hlk=>?_) (fun hlk=>?_)|refine v_wAdd ?_|refine v_wSub ?_|refine v_wMul ?_|fail)
  refine v_loop [0, 9, 10, 11, 3, 2] (fun x : Nat × Value × Hp => [.pointer (some ⟨bn, 0, none⟩), sv, .int .i64 N.all.length, .int .i64 x.1, x.2.1, .slice none 0 0]) (fun x => [x.2.2])
    (fun x => x.1 ≤ N.all.length ∧ OwnS x.2.1 51 ApiPacket 3 cvApiPacket (N.wait x.1) x.2.2) (fun x => N.all.length - x.1) (0, .slice none 0 0, []) rfl (Γd := []) ⟨by simp⟩ ⟨Nat.zero_le _, OwnS.nil⟩ ?_
  rintro ⟨j, ov, os⟩ ⟨hj, ho⟩
  dsimp only [zipE] at hj ho ⊢
  have hwl : (N.wait j).length ≤ j := by
    unfold RefM.wait
    rw [List.length_map]
    exact Nat.le_trans (List.length_filter_le _ _) (by simp; omega)
  have hstep : ∀ h : j < N.all.length, N.wait (j + 1) = N.wait j ++ (if N.gone[j]'(by omega) then [] else [N.all[j]]) := fun h => by
    have hz : (N.all.zip N.gone)[j]? = some (N.all[j], N.gone[j]'(by omega)) := by
      rw [List.getElem?_eq_getElem (by simp; omega)]; simp
    unfold RefM.wait
    rw [List.take_add_one, hz, List.filter_append, List.map_append]
    congr 1
    cases hgj : N.gone[j]'(by omega) <;> simp
  repeat' (first | refine stp ?_|(refine v_spT ?_ ?_;omega)|(refine v_spF ?_ ?_;omega)|refine v_spD (fun hc=>?_) (fun hc=>?_)|refine v_spB (fun hc=>?_) (fun hc=>?_)|(refine v_yc ?_ ?_;omega)|refine v_alloc' (fun ba=>?_)|refine v_box (fun bb=>?_)|refine v_lit (fun bl=>?_)|refine v_makeMap (fun bm=>?_)|(refine v_push ?_ (fun sv ss hs hln=>?_);omega)|(refine v_push0 ?_ (fun sv ss hs=>?_);omega)|(refine v_set ?_ (fun ss hs hln=>?_);omega)|(refine v_cat ?_ (fun sv ss hs hln=>?_);omega)|(refine v_cat0 ?_ (fun sv ss hs=>?_);omega)|(refine v_catN ?_ (fun sv ss hs=>?_);omega)|refine v_put (fun sm hm=>?_)|refine v_del (fun sm hm=>?_)|(refine v_sb ?_ (fun su (And.intro hs hln)=>?_);omega)|refine v_1lk (fun lv hlk=>?_) (fun hlk=>?_)|refine v_wAdd ?_|refine v_wSub ?_|refine v_wMul ?_|fail)
  · refine v_again (j + 1, sv, ss) ?_ rfl inferInstance ⟨by omega, ?_⟩
    · dsimp only; omega
    · have := hstep (by omega)
      rw [show N.gone[j] = false by simpa using hc] at this
      rw [this]
      exact hs
  · refine v_again (j + 1, ov, os) ?_ rfl inferInstance ⟨by omega, ?_⟩
    · dsimp only; omega
    · have := hstep (by omega)
      rw [show N.gone[j] = true by simpa using hc] at this
      rw [this]
      simpa using ho
  · have hj' : j = N.all.length := by omega
    subst hj'
    refine v_o1 Try.results35 ⟨os, ho, rfl⟩ ⟨_, inferInstance⟩
theorem same_s {sv tv : Value} {l m : List ApiPacket} {s t : Hp} (h1 : AtS sv 51 ApiPacket 3 cvApiPacket l s) (h2 : AtS tv 51 ApiPacket 3 cvApiPacket m t) (hb : l.length * 32 ≤ 140737488355328) : SX.Spec Try.prog 33 #[sv, tv] [s, t] []
    fun v Γ => v = .bool (decide (l = m)) ∧ Γ = [] := by
  refine spec_of2 Try.func33 Try.ntmps33 rfl rfl (fun M w0 => ?_)
  repeat' (first | refine stp ?_|(refine v_spT ?_ ?_;omega)|(refine v_spF ?_ ?_;omega)|refine v_spD (fun hc=>?_) (fun hc=>?_)|refine v_spB (fun hc=>?_) (fun hc=>?_)|(refine v_yc ?_ ?_;omega)|refine v_alloc' (fun ba=>?_)|refine v_box (fun bb=>?_)|refine v_lit (fun bl=>?_)|refine v_makeMap (fun bm=>?_)|(refine v_push ?_ (fun sv ss hs hln=>?_);omega)|(refine v_push0 ?_ (fun sv ss hs=>?_);omega)|(refine v_set ?_ (fun ss hs hln=>?_);omega)|(refine v_cat ?_ (fun sv ss hs hln=>?_);omega)|(refine v_cat0 ?_ (fun sv ss hs=>?_);omega)|(refine v_catN ?_ (fun sv ss hs=>?_);omega)|refine v_put (fun sm hm=>?_)|refine v_del (fun sm hm=>?_)|(refine v_sb ?_ (fun su (And.intro hs hln)=>?_);omega)|refine v_1lk (fun lv hlk=>?_) (fun hlk=>?_)|refine v_wAdd ?_|refine v_wSub ?_|refine v_wMul ?_|refine ⟨?_,?_⟩|(refine v_tyc ?_ ?_;omega)|(refine v_tycT (by kernel_rfl) ?_ ?_;omega)|refine v_tValT (by kernel_rfl) ?_|(refine v_tsb ?_ (fun su (And.intro hs hln)=>?_);omega)|refine v_tlk (fun lv hlk=>?_) (fun hlk=>?_)|refine v_tlkT (by kernel_rfl) (fun lv hlk=>?_) (fun hlk=>?_)|refine v_aThree rfl rfl rfl ?_ ?_ ?_|refine v_drawn0 (id:=6) pl33_6 (by kernel_rfl) ?_|fail)
  · refine v_o1 Try.results33 ⟨?_, rfl⟩ ⟨_, inferInstance⟩
    rw [decide_eq_false (fun e => hc (by rw [e]))]
  have hl : l.length = m.length := by omega
  refine v_loop [0, 1, 12, 13, 4] (fun x : Nat => [sv, tv, .int .i64 l.length, .int .i64 x, .bool false]) (fun _ => []) (fun x => x ≤ l.length ∧ l.take x = m.take x) (fun x => l.length - x) 0 rfl (Γd := []) ⟨by simp⟩ ⟨Nat.zero_le _, rfl⟩ ?_
  rintro j ⟨hj, ho⟩
  dsimp only [zipE]
  repeat' (first | refine stp ?_|(refine v_spT ?_ ?_;omega)|(refine v_spF ?_ ?_;omega)|refine v_spD (fun hc=>?_) (fun hc=>?_)|refine v_spB (fun hc=>?_) (fun hc=>?_)|(refine v_yc ?_ ?_;omega)|refine v_alloc' (fun ba=>?_)|refine v_box (fun bb=>?_)|refine v_lit (fun bl=>?_)|refine v_makeMap (fun bm=>?_)|(refine v_push ?_ (fun sv ss hs hln=>?_);omega)|(refine v_push0 ?_ (fun sv ss hs=>?_);omega)|(refine v_set ?_ (fun ss hs hln=>?_);omega)|(refine v_cat ?_ (fun sv ss hs hln=>?_);omega)|(refine v_cat0 ?_ (fun sv ss hs=>?_);omega)|(refine v_catN ?_ (fun sv ss hs=>?_);omega)|refine v_put (fun sm hm=>?_)|refine v_del (fun sm hm=>?_)|(refine v_sb ?_ (fun su (And.intro hs hln)=>?_);omega)|refine v_1lk (fun lv hlk=>?_) (fun hlk=>?_)|refine v_wAdd ?_|refine v_wSub ?_|refine v_wMul ?_|refine ⟨?_,?_⟩|(refine v_tyc ?_ ?_;omega)|(refine v_tycT (by kernel_rfl) ?_ ?_;omega)|refine v_tValT (by kernel_rfl) ?_|(refine v_tsb ?_ (fun su (And.intro hs hln)=>?_);omega)|refine v_tlk (fun lv hlk=>?_) (fun hlk=>?_)|refine v_tlkT (by kernel_rfl) (fun lv hlk=>?_) (fun hlk=>?_)|refine v_aThree rfl rfl rfl ?_ ?_ ?_|refine v_drawn0 (id:=6) pl33_6 (by kernel_rfl) ?_|fail)
  · refine v_o1 Try.results33 ⟨?_, rfl⟩ ⟨_, inferInstance⟩
    rw [decide_eq_false (fun e => hc (by subst e; exact ⟨rfl, rfl, rfl⟩))]
  · refine v_again (j + 1) ?_ rfl inferInstance ⟨by omega, ?_⟩
    · omega
    · rw [List.take_add_one, List.take_add_one, ho, List.getElem?_eq_getElem (by omega), List.getElem?_eq_getElem (by omega)]
      have : l[j] = m[j] := by
        obtain ⟨e1, e2, e3⟩ := Decidable.not_not.1 hc
        generalize l[j] = x at *
        generalize m[j] = y at *
        cases x; cases y
        simp_all
      rw [this]
  · have hj' : j = l.length := by omega
    subst hj'
    refine v_o1 Try.results33 ⟨?_, rfl⟩ ⟨_, inferInstance⟩
    rw [List.take_length, hl, List.take_length] at ho
    rw [decide_eq_true ho]
end Go.Proofs.Ytbkobjdeijdpgaa
