-- PRINTED BY print.sh 35421559b90ae4d0a3588c463048766b98c2df88dd9212a6774a882060cdf62d: not written by this session
import Derived.Test.YtbkobjdeijdpgaaPKeyPacksx0
import Derived.Test.YtbkobjdeijdpgaaPKeyPacksx1
import Derived.Test.YtbkobjdeijdpgaaPKeyPacksx2
import Derived.Test.YtbkobjdeijdpgaaPKeyPacksx3
namespace Go.Proofs.Ytbkobjdeijdpgaa.PKeyPacks
open Go.RowKit Go.Proofs.YtbkobjdeijdpgaaW.PrintWords Go.Proofs.YtbkobjdeijdpgaaW.PrintLast Go.Proofs.YtbkobjdeijdpgaaW.PrintMore
attribute [local go_sem] max2_int min2_int max_two min_two max_three min_three max_four min_four   -- for this text's walks alone
set_option linter.unusedVariables false
set_option linter.unusedSimpArgs false

attribute [local go_sem high] eqA23 eqA34
/-! ### coterielaw02_KeyPacks: function 9 -/
mutual
def coterielaw02_KeyPacks.j0 : Nat → Int → Bool → Int → Int → Int → Int → Option (Bool)
  | 0, _, _, _, _, _, _ => none
  | k + 1, x1, x36, x151000, x151001, x151002, x151003 => if x36 = true then (some false) else ((key_Unpack.f ((x1) % 4294967296)).bind fun bt156 => ((coterieref02_Unpack.f ((x1) % 4294967296)).bind fun bt160 => (if (!(bt156.1 == bt160.1) || (!(bt156.2.1 == bt160.2.1))) = true then (coterielaw02_KeyPacks.j1 k x1 true x151000 x151001 x151002 x151003) else (coterielaw02_KeyPacks.j1 k x1 (bt156.2.2 != bt160.2.2) x151000 x151001 x151002 x151003))))
def coterielaw02_KeyPacks.j1 : Nat → Int → Bool → Int → Int → Int → Int → Option (Bool)
  | 0, _, _, _, _, _, _ => none
  | k + 1, x1, x56, x151000, x151001, x151002, x151003 => if x56 = true then (some false) else ((key_PackBox.f x151000 x151001 x151002 x151003).bind fun bt164 => ((coterieref02_PackBox.f x151000 x151001 x151002 x151003).bind fun bt166 => (if bt164.1 = bt166.1 then (coterielaw02_KeyPacks.j2 k x1 (bt164.2 != bt166.2)) else (coterielaw02_KeyPacks.j2 k x1 true))))
def coterielaw02_KeyPacks.j2 : Nat → Int → Bool → Option (Bool)
  | 0, _, _ => none
  | k + 1, x1, x74 => if x74 = true then (some false) else ((key_UnpackBox.f x1).bind fun bt168 => ((coterieref02_UnpackBox.f x1).bind fun bt174 => (if ((bt168.1 == bt174.1 && (bt168.2.1 == bt174.2.1)) && ((bt168.2.2.1 == bt174.2.2.1 && (bt168.2.2.2.1 == bt174.2.2.2.1)))) = true then (some (bt168.2.2.2.2 == bt174.2.2.2.2)) else (some false))))
end
def coterielaw02_KeyPacks.f (k : Nat) (a0_0 : Int) (a0_1 : Int) (a0_2 : Int) (a0_3 : Int) (a1 : Int) : Option (Bool) := (coterielaw02_lives.f).bind fun t151 => (if t151 = true then ((key_Pack.f a0_0 a0_1).bind fun bt152 => ((coterieref02_Pack.f a0_0 a0_1).bind fun bt154 => (if bt152.1 = bt154.1 then (coterielaw02_KeyPacks.j0 k a1 (bt152.2 != bt154.2) a0_0 a0_1 a0_2 a0_3) else (coterielaw02_KeyPacks.j0 k a1 true a0_0 a0_1 a0_2 a0_3)))) else (some false))
theorem coterielaw02_KeyPacks.mono_l : ∀ k, (∀ y0 y1 y2 y3 y4 y5, LeO (coterielaw02_KeyPacks.j0 k y0 y1 y2 y3 y4 y5) (coterielaw02_KeyPacks.j0 (k + 1) y0 y1 y2 y3 y4 y5)) ∧ (∀ y0 y1 y2 y3 y4 y5, LeO (coterielaw02_KeyPacks.j1 k y0 y1 y2 y3 y4 y5) (coterielaw02_KeyPacks.j1 (k + 1) y0 y1 y2 y3 y4 y5)) ∧ (∀ y0 y1, LeO (coterielaw02_KeyPacks.j2 k y0 y1) (coterielaw02_KeyPacks.j2 (k + 1) y0 y1))
  | 0 => ⟨fun _ _ _ _ _ _ r h => by simp [coterielaw02_KeyPacks.j0] at h, fun _ _ _ _ _ _ r h => by simp [coterielaw02_KeyPacks.j1] at h, fun _ _ r h => by simp [coterielaw02_KeyPacks.j2] at h⟩
  | k + 1 => by
    obtain ⟨ih0, ih1, ih2⟩ := coterielaw02_KeyPacks.mono_l k
    refine ⟨?_, ?_, ?_⟩
    · intro y0 y1 y2 y3 y4 y5
      unfold coterielaw02_KeyPacks.j0
      repeat' first
      | (with_reducible exact ih0 _ _ _ _ _ _)
      | (with_reducible exact ih1 _ _ _ _ _ _)
      | (with_reducible exact ih2 _ _)
      | (with_reducible exact LeO.refl _)
      | (with_reducible exact LeO.none _)
      | (with_reducible refine LeO.ite ?_ ?_)
      | (with_reducible refine LeO.bind ?_ (fun _ => ?_))
      | exact ih0 _ _ _ _ _ _
      | exact ih1 _ _ _ _ _ _
      | exact ih2 _ _
      | exact LeO.none _
      | refine LeO.ite ?_ ?_
      | refine LeO.bind ?_ (fun _ => ?_)
    · intro y0 y1 y2 y3 y4 y5
      unfold coterielaw02_KeyPacks.j1
      repeat' first
      | (with_reducible exact ih0 _ _ _ _ _ _)
      | (with_reducible exact ih1 _ _ _ _ _ _)
      | (with_reducible exact ih2 _ _)
      | (with_reducible exact LeO.refl _)
      | (with_reducible exact LeO.none _)
      | (with_reducible refine LeO.ite ?_ ?_)
      | (with_reducible refine LeO.bind ?_ (fun _ => ?_))
      | exact ih0 _ _ _ _ _ _
      | exact ih1 _ _ _ _ _ _
      | exact ih2 _ _
      | exact LeO.none _
      | refine LeO.ite ?_ ?_
      | refine LeO.bind ?_ (fun _ => ?_)
    · intro y0 y1
      unfold coterielaw02_KeyPacks.j2
      repeat' first
      | (with_reducible exact ih0 _ _ _ _ _ _)
      | (with_reducible exact ih1 _ _ _ _ _ _)
      | (with_reducible exact ih2 _ _)
      | (with_reducible exact LeO.refl _)
      | (with_reducible exact LeO.none _)
      | (with_reducible refine LeO.ite ?_ ?_)
      | (with_reducible refine LeO.bind ?_ (fun _ => ?_))
      | exact ih0 _ _ _ _ _ _
      | exact ih1 _ _ _ _ _ _
      | exact ih2 _ _
      | exact LeO.none _
      | refine LeO.ite ?_ ?_
      | refine LeO.bind ?_ (fun _ => ?_)
theorem coterielaw02_KeyPacks.mono : ∀ a0 a1 a2 a3 a4 k, LeO (coterielaw02_KeyPacks.f k a0 a1 a2 a3 a4) (coterielaw02_KeyPacks.f (k + 1) a0 a1 a2 a3 a4) := by
  intro a0 a1 a2 a3 a4 k
  obtain ⟨ih0, ih1, ih2⟩ := coterielaw02_KeyPacks.mono_l k
  unfold coterielaw02_KeyPacks.f
  repeat' first
      | (with_reducible exact ih0 _ _ _ _ _ _)
      | (with_reducible exact ih1 _ _ _ _ _ _)
      | (with_reducible exact ih2 _ _)
      | (with_reducible exact LeO.refl _)
      | (with_reducible exact LeO.none _)
      | (with_reducible refine LeO.ite ?_ ?_)
      | (with_reducible refine LeO.bind ?_ (fun _ => ?_))
      | exact ih0 _ _ _ _ _ _
      | exact ih1 _ _ _ _ _ _
      | exact ih2 _ _
      | exact LeO.none _
      | refine LeO.ite ?_ ?_
      | refine LeO.bind ?_ (fun _ => ?_)
set_option maxHeartbeats 8000000 in
set_option maxRecDepth 100000 in
theorem coterielaw02_KeyPacks.calls (k : Nat) (a0_0 : Int) (a0_1 : Int) (a0_2 : Int) (a0_3 : Int) (a1 : Int) (r : Bool) (w : World) (h : coterielaw02_KeyPacks.f k a0_0 a0_1 a0_2 a0_3 a1 = some r) :
    Calls Try.prog 9 #[.agg #[.int .i64 a0_0, .int .i64 a0_1, .int .i64 a0_2, .int .i64 a0_3], .int .u64 a1] w fun e w' => e = .returned (.bool r) ∧ Below w.heap.size w w' := by
  have hu34 := Try.underlying34
  have hu23 := Try.underlying23
  have HB := Aside0.mk (Below.refl w.heap.size w)
  have H : ((coterielaw02_lives.f).bind fun t151 => (if t151 = true then ((key_Pack.f a0_0 a0_1).bind fun bt152 => ((coterieref02_Pack.f a0_0 a0_1).bind fun bt154 => (if bt152.1 = bt154.1 then (coterielaw02_KeyPacks.j0 k a1 (bt152.2 != bt154.2) a0_0 a0_1 a0_2 a0_3) else (coterielaw02_KeyPacks.j0 k a1 true a0_0 a0_1 a0_2 a0_3)))) else (some false))) = some r := h
  clear h
  replace H := Option.bind_eq_some_iff.mp H
  obtain ⟨t151, A30, H⟩ := H
  replace H : (if t151 = true then ((key_Pack.f a0_0 a0_1).bind fun bt152 => ((coterieref02_Pack.f a0_0 a0_1).bind fun bt154 => (if bt152.1 = bt154.1 then (coterielaw02_KeyPacks.j0 k a1 (bt152.2 != bt154.2) a0_0 a0_1 a0_2 a0_3) else (coterielaw02_KeyPacks.j0 k a1 true a0_0 a0_1 a0_2 a0_3)))) else (some false)) = some r := H
  have A3 := Aside0.mk A30
  clear A30
  by_cases c4 : t151 = true
  · subst c4
    have H1 : ((key_Pack.f a0_0 a0_1).bind fun bt152 => ((coterieref02_Pack.f a0_0 a0_1).bind fun bt154 => (if bt152.1 = bt154.1 then (coterielaw02_KeyPacks.j0 k a1 (bt152.2 != bt154.2) a0_0 a0_1 a0_2 a0_3) else (coterielaw02_KeyPacks.j0 k a1 true a0_0 a0_1 a0_2 a0_3)))) = some r := by rw [if_pos rfl] at H; exact H
    clear H
    have H := H1
    clear H1
    replace H := Option.bind_eq_some_iff.mp H
    obtain ⟨⟨t152, t153⟩, A50, H⟩ := H
    replace H : ((coterieref02_Pack.f a0_0 a0_1).bind fun bt154 => (if t152 = bt154.1 then (coterielaw02_KeyPacks.j0 k a1 (t153 != bt154.2) a0_0 a0_1 a0_2 a0_3) else (coterielaw02_KeyPacks.j0 k a1 true a0_0 a0_1 a0_2 a0_3))) = some r := H
    have A5 := Aside0.mk A50
    clear A50
    replace H := Option.bind_eq_some_iff.mp H
    obtain ⟨⟨t154, t155⟩, A60, H⟩ := H
    replace H : (if t152 = t154 then (coterielaw02_KeyPacks.j0 k a1 (t153 != t155) a0_0 a0_1 a0_2 a0_3) else (coterielaw02_KeyPacks.j0 k a1 true a0_0 a0_1 a0_2 a0_3)) = some r := H
    have A6 := Aside0.mk A60
    clear A60
    have HC7 := Aside0.mk H
    clear H
    go_enter Try.func9, Try.ntmps9
    go_upto_region 5 with (first | ((with_reducible refine gate_dst (N := 2) rfl ?_); refine box_event ?hg (N := 2) ?hd (cs := #[.int .i64 a0_0, .int .i64 a0_1, .int .i64 a0_2, .int .i64 a0_3]) (t := 34) ?hr ?_; (case hd => rfl); (case hg => rfl); (case hr => first | (go_simp; done) | (go_simp; rfl)); intro gb150 hg w8 hbox hb; have n0_ := Aside0.mk (below_step (by repeat (first | (with_reducible first | exact HB.out | apply below_alloc | apply pw_below_drewN | apply below_drew1) | exact HB.out)) hb); have n1_ := Aside0.mk (hbox); have n2_ := Aside0.mk ((by rw [hg]; exact (below_size (by repeat (first | (with_reducible first | exact HB.out | apply below_alloc | apply pw_below_drewN | apply below_drew1) | exact HB.out))) : w.heap.size ≤ gb150)); have n3_ := Aside0.mk ((by rw [hg]; exact (below_size (by repeat (first | (with_reducible first | exact HB.out | apply below_alloc | apply pw_below_drewN | apply below_drew1) | exact HB.out))) : w.heap.size ≤ gb150)); clear HB; have HB := n0_; have BK150 := n1_; have GW150 := n2_; have GE150 := n3_; clear n0_ n1_ n2_ n3_; clear hb hbox hg) | ((with_reducible refine gate_callee (f := 15) rfl ?_); refine goesL_ (some 15) rfl rfl Try.func15 (by kernel_rfl) rfl #[] rfl (by (try simp only [List.map_toArray, List.map_cons, List.map_nil]); first | done | rfl | (simp only [List.length_drop, List.length_take]; rfl)) ?_; (with_reducible refine (coterielaw02_lives.calls  true _ A3.out).mono ?_); rintro e w9 ⟨rfl, hb⟩; refine ⟨_, rfl, ?_⟩; have n0_ := Aside0.mk (blk_below (g := gb150) (o := .cells #[.int .i64 a0_0, .int .i64 a0_1, .int .i64 a0_2, .int .i64 a0_3] 34 (0, 0)) (by (with_reducible repeat (first | refine blk_drewN ?_ _ | refine blk_drew ?_ | refine blk_alloc ?_ _)); exact BK150.out) hb); have n1_ := Aside0.mk (below_step (by repeat (first | (with_reducible first | exact HB.out | apply below_alloc | apply pw_below_drewN | apply below_drew1 | refine below_set ?_ GE150.out) | exact HB.out)) hb); clear BK150; clear HB; have BK150 := n0_; have HB := n1_; clear n0_ n1_; (try clear hb); (try clear hb2); (try clear hk); (try clear hi); have hcz10_0 : w9.cell? ⟨gb150, 0, none⟩ = some (.int .i64 a0_0) := (blk_cell BK150.out 0).trans rfl; have hcz10_1 : w9.cell? ⟨gb150, 1, none⟩ = some (.int .i64 a0_1) := (blk_cell BK150.out 1).trans rfl; have hcz10_2 : w9.cell? ⟨gb150, 2, none⟩ = some (.int .i64 a0_2) := (blk_cell BK150.out 2).trans rfl; have hcz10_3 : w9.cell? ⟨gb150, 3, none⟩ = some (.int .i64 a0_3) := (blk_cell BK150.out 3).trans rfl; have hfz10_0 := blk_frozen BK150.out 0; have hfz10_1 := blk_frozen BK150.out 1; have hfz10_2 := blk_frozen BK150.out 2; have hfz10_3 := blk_frozen BK150.out 3) | ((with_reducible refine gate_callee (f := 37) rfl ?_); refine goesL_ (some 20) rfl rfl Try.func37 (by kernel_rfl) rfl #[.agg #[.int .i64 a0_0, .int .i64 a0_1]] rfl (by (try simp only [List.map_toArray, List.map_cons, List.map_nil]); first | done | rfl | (simp only [List.length_drop, List.length_take]; rfl)) ?_; (with_reducible refine (key_Pack.calls a0_0 a0_1 t152 t153 _ A5.out).mono ?_); rintro e w11 ⟨rfl, hb⟩; refine ⟨_, rfl, ?_⟩; have n0_ := Aside0.mk (blk_below (g := gb150) (o := .cells #[.int .i64 a0_0, .int .i64 a0_1, .int .i64 a0_2, .int .i64 a0_3] 34 (0, 0)) (by (with_reducible repeat (first | refine blk_drewN ?_ _ | refine blk_drew ?_ | refine blk_alloc ?_ _)); exact BK150.out) hb); have n1_ := Aside0.mk (below_step (by repeat (first | (with_reducible first | exact HB.out | apply below_alloc | apply pw_below_drewN | apply below_drew1 | refine below_set ?_ GE150.out) | exact HB.out)) hb); clear BK150; clear HB; have BK150 := n0_; have HB := n1_; clear n0_ n1_; (try clear hb); (try clear hb2); (try clear hk); (try clear hi); have hcz12_0 : w11.cell? ⟨gb150, 0, none⟩ = some (.int .i64 a0_0) := (blk_cell BK150.out 0).trans rfl; have hcz12_1 : w11.cell? ⟨gb150, 1, none⟩ = some (.int .i64 a0_1) := (blk_cell BK150.out 1).trans rfl; have hcz12_2 : w11.cell? ⟨gb150, 2, none⟩ = some (.int .i64 a0_2) := (blk_cell BK150.out 2).trans rfl; have hcz12_3 : w11.cell? ⟨gb150, 3, none⟩ = some (.int .i64 a0_3) := (blk_cell BK150.out 3).trans rfl; have hfz12_0 := blk_frozen BK150.out 0; have hfz12_1 := blk_frozen BK150.out 1; have hfz12_2 := blk_frozen BK150.out 2; have hfz12_3 := blk_frozen BK150.out 3) | ((with_reducible refine gate_callee (f := 38) rfl ?_); refine goesL_ (some 26) rfl rfl Try.func38 (by kernel_rfl) rfl #[.agg #[.int .i64 a0_0, .int .i64 a0_1]] rfl (by (try simp only [List.map_toArray, List.map_cons, List.map_nil]); first | done | rfl | (simp only [List.length_drop, List.length_take]; rfl)) ?_; (with_reducible refine (coterieref02_Pack.calls a0_0 a0_1 t154 t155 _ A6.out).mono ?_); rintro e w13 ⟨rfl, hb⟩; refine ⟨_, rfl, ?_⟩; have n0_ := Aside0.mk (blk_below (g := gb150) (o := .cells #[.int .i64 a0_0, .int .i64 a0_1, .int .i64 a0_2, .int .i64 a0_3] 34 (0, 0)) (by (with_reducible repeat (first | refine blk_drewN ?_ _ | refine blk_drew ?_ | refine blk_alloc ?_ _)); exact BK150.out) hb); have n1_ := Aside0.mk (below_step (by repeat (first | (with_reducible first | exact HB.out | apply below_alloc | apply pw_below_drewN | apply below_drew1 | refine below_set ?_ GE150.out) | exact HB.out)) hb); clear BK150; clear HB; have BK150 := n0_; have HB := n1_; clear n0_ n1_; (try clear hb); (try clear hb2); (try clear hk); (try clear hi)))
    (try simp only [Act.put, List.setIfInBounds_toArray, List.set_cons_zero, List.set_cons_succ])
    go_cut [36] (fun v36 wc => ∃ (kq : Nat) (x36_6 : Bool), v36 = .bool x36_6 ∧ Aside0 (coterielaw02_KeyPacks.j0 kq a1 x36_6 a0_0 a0_1 a0_2 a0_3 = some r) ∧ Aside0 (kq ≤ k) ∧ Aside0 (wc.heap[gb150]? = some (.cells #[.int .i64 a0_0, .int .i64 a0_1, .int .i64 a0_2, .int .i64 a0_3] 34 (0, 0))) ∧ Aside0 (Below w.heap.size w wc))
    case first =>
      have H := HC7.out
      clear HC7
      by_cases c14 : t152 = t154
      · rw [if_pos c14] at H
        have c14b0 : (t152 == t154) = true := beq_iff_eq.mpr c14
        have c14b1 : (t152 != t154) = false := bne_eq_false_iff_eq.mpr c14
        clear c14
        (first | rw [c14b0] | (simp only [i64_w, i32_w]; rw [c14b0]) | skip)
        have H' := Aside0.mk H
        clear H
        go_wp2
        go_meet
        case rel => exact ⟨_, ((t153 != t155)), (by first | rfl | (simp; done) | (simp [*]; done)), H', ⟨by first | omega | exact Nat.le_refl _⟩, ⟨by (with_reducible repeat (first | refine blk_drewN ?_ _ | refine blk_drew ?_ | refine blk_alloc ?_ _)); exact BK150.out⟩, ⟨by repeat (first | (with_reducible first | exact HB.out | apply below_alloc | apply pw_below_drewN | apply below_drew1 | refine below_set ?_ GE150.out) | exact HB.out)⟩⟩
      · rw [if_neg c14] at H
        have c14b0 : (t152 == t154) = false := beq_eq_false_iff_ne.mpr c14
        have c14b1 : (t152 != t154) = true := bne_iff_ne.mpr c14
        (first | rw [c14b0] | (simp only [i64_w, i32_w]; rw [c14b0]) | skip)
        have H' := Aside0.mk H
        clear H
        go_wp2
        go_meet
        case rel => exact ⟨_, (true), (by first | rfl | (simp; done) | (simp [*]; done)), H', ⟨by first | omega | exact Nat.le_refl _⟩, ⟨by (with_reducible repeat (first | refine blk_drewN ?_ _ | refine blk_drew ?_ | refine blk_alloc ?_ _)); exact BK150.out⟩, ⟨by repeat (first | (with_reducible first | exact HB.out | apply below_alloc | apply pw_below_drewN | apply below_drew1 | refine below_set ?_ GE150.out) | exact HB.out)⟩⟩
    case rest =>
      clear HC7
      try clear c1
      try clear p2
      try clear c3
      try clear c4
      try clear c9
      try clear c14
      try clear c14b0
      try clear c14b1
      try clear hcz10_0
      try clear hcz10_1
      try clear hcz10_2
      try clear hcz10_3
      try clear hcz12_0
      try clear hcz12_1
      try clear hcz12_2
      try clear hcz12_3
      try clear hfz10_0
      try clear hfz10_1
      try clear hfz10_2
      try clear hfz10_3
      try clear hfz12_0
      try clear hfz12_1
      try clear hfz12_2
      try clear hfz12_3
      obtain ⟨kq, x36_6, rfl, HA, HJ6, BK150, HB⟩ := hcut
      cases kq with
      | zero => exact absurd HA.out (by simp [coterielaw02_KeyPacks.j0])
      | succ kj6 =>
        have H := HA.out
        clear HA
        simp only [coterielaw02_KeyPacks.j0] at H
        by_cases c15 : x36_6 = true
        · subst c15
          have H1 : (some false) = some r := by rw [if_pos rfl] at H; exact H
          clear H
          have H := H1
          clear H1
          obtain rfl := Option.some.inj H
          go_wp2
          go_ret
          exact ⟨by first | rfl | (simp [errW_none, errW_some] <;> rfl) | (simp [*, errW_none, errW_some] <;> rfl), by repeat (first | (with_reducible first | exact HB.out | apply below_alloc | apply pw_below_drewN | apply below_drew1 | refine below_set ?_ GE150.out) | exact HB.out)⟩
        · replace c15 := Bool.eq_false_iff.mpr c15
          subst c15
          have H1 : ((key_Unpack.f ((a1) % 4294967296)).bind fun bt156 => ((coterieref02_Unpack.f ((a1) % 4294967296)).bind fun bt160 => (if (!(bt156.1 == bt160.1) || (!(bt156.2.1 == bt160.2.1))) = true then (coterielaw02_KeyPacks.j1 kj6 a1 true a0_0 a0_1 a0_2 a0_3) else (coterielaw02_KeyPacks.j1 kj6 a1 (bt156.2.2 != bt160.2.2) a0_0 a0_1 a0_2 a0_3)))) = some r := by rw [if_neg (show ¬ (false = true) by decide)] at H; exact H
          clear H
          have H := H1
          clear H1
          replace H := Option.bind_eq_some_iff.mp H
          obtain ⟨⟨t156, t157, t158⟩, A160, H⟩ := H
          replace H : ((coterieref02_Unpack.f ((a1) % 4294967296)).bind fun bt160 => (if (!(t156 == bt160.1) || (!(t157 == bt160.2.1))) = true then (coterielaw02_KeyPacks.j1 kj6 a1 true a0_0 a0_1 a0_2 a0_3) else (coterielaw02_KeyPacks.j1 kj6 a1 (t158 != bt160.2.2) a0_0 a0_1 a0_2 a0_3))) = some r := H
          have A16 := Aside0.mk A160
          clear A160
          replace H := Option.bind_eq_some_iff.mp H
          obtain ⟨⟨t160, t161, t162⟩, A170, H⟩ := H
          replace H : (if (!(t156 == t160) || (!(t157 == t161))) = true then (coterielaw02_KeyPacks.j1 kj6 a1 true a0_0 a0_1 a0_2 a0_3) else (coterielaw02_KeyPacks.j1 kj6 a1 (t158 != t162) a0_0 a0_1 a0_2 a0_3)) = some r := H
          have A17 := Aside0.mk A170
          clear A170
          have HC18 := Aside0.mk H
          clear H
          go_upto_region 9 with (first | ((with_reducible refine gate_callee (f := 39) rfl ?_); refine goesL_ (some 40) rfl rfl Try.func39 (by kernel_rfl) rfl #[.int .u32 ((a1) % 4294967296)] rfl (by (try simp only [List.map_toArray, List.map_cons, List.map_nil]); first | done | rfl | (simp only [List.length_drop, List.length_take]; rfl)) ?_; (with_reducible refine (key_Unpack.calls ((a1) % 4294967296) t156 t157 t158 _ A16.out).mono ?_); rintro e w19 ⟨rfl, hb⟩; refine ⟨_, rfl, ?_⟩; have n0_ := Aside0.mk (blk_below (g := gb150) (o := .cells #[.int .i64 a0_0, .int .i64 a0_1, .int .i64 a0_2, .int .i64 a0_3] 34 (0, 0)) (by (with_reducible repeat (first | refine blk_drewN ?_ _ | refine blk_drew ?_ | refine blk_alloc ?_ _)); exact BK150.out) hb); have n1_ := Aside0.mk (below_step (by repeat (first | (with_reducible first | exact HB.out | apply below_alloc | apply pw_below_drewN | apply below_drew1 | refine below_set ?_ GE150.out) | exact HB.out)) hb); clear BK150; clear HB; have BK150 := n0_; have HB := n1_; clear n0_ n1_; (try clear hb); (try clear hb2); (try clear hk); (try clear hi)) | ((with_reducible refine gate_dst (N := 9) rfl ?_); refine box_event ?hg (N := 9) ?hd (cs := #[.int .i64 0, .int .i64 0]) (t := 23) ?hr ?_; (case hd => rfl); (case hg => rfl); (case hr => first | (go_simp; done) | (go_simp; rfl)); intro gb159 hg w20 hbox hb; have n0_ := Aside0.mk (blk_below (g := gb150) (o := .cells #[.int .i64 a0_0, .int .i64 a0_1, .int .i64 a0_2, .int .i64 a0_3] 34 (0, 0)) (by (with_reducible repeat (first | refine blk_drewN ?_ _ | refine blk_drew ?_ | refine blk_alloc ?_ _)); exact BK150.out) hb); have n1_ := Aside0.mk (below_step (by repeat (first | (with_reducible first | exact HB.out | apply below_alloc | apply pw_below_drewN | apply below_drew1 | refine below_set ?_ GE150.out) | exact HB.out)) hb); have n2_ := Aside0.mk (hbox); have n3_ := Aside0.mk ((by rw [hg]; exact (below_size (by repeat (first | (with_reducible first | exact HB.out | apply below_alloc | apply pw_below_drewN | apply below_drew1 | refine below_set ?_ GE150.out) | exact HB.out))) : w.heap.size ≤ gb159)); have n4_ := Aside0.mk ((by rw [hg]; exact (below_size (by repeat (first | (with_reducible first | exact HB.out | apply below_alloc | apply pw_below_drewN | apply below_drew1 | refine below_set ?_ GE150.out) | exact HB.out))) : w.heap.size ≤ gb159)); have n5_ := Aside0.mk ((by rw [hg]; exact Nat.ne_of_lt (blk_lt (g := gb150) (o := .cells #[.int .i64 a0_0, .int .i64 a0_1, .int .i64 a0_2, .int .i64 a0_3] 34 (0, 0)) (by (with_reducible repeat (first | refine blk_drewN ?_ _ | refine blk_drew ?_ | refine blk_alloc ?_ _)); exact BK150.out)) : gb150 ≠ gb159)); have n6_ := Aside0.mk ((by rw [hg]; exact Nat.ne_of_gt (blk_lt (g := gb150) (o := .cells #[.int .i64 a0_0, .int .i64 a0_1, .int .i64 a0_2, .int .i64 a0_3] 34 (0, 0)) (by (with_reducible repeat (first | refine blk_drewN ?_ _ | refine blk_drew ?_ | refine blk_alloc ?_ _)); exact BK150.out)) : gb159 ≠ gb150)); clear BK150; clear HB; have BK150 := n0_; have HB := n1_; have BK159 := n2_; have GW159 := n3_; have GE159 := n4_; have NB150_159 := n5_; have NB159_150 := n6_; clear n0_ n1_ n2_ n3_ n4_ n5_ n6_; clear hb hbox hg; have hnb21 := NB159_150.out; have hnc21 := NB150_159.out; have hcz22_0 : w20.cell? ⟨gb159, 0, none⟩ = some (.int .i64 0) := (blk_cell BK159.out 0).trans rfl; have hcz22_1 : w20.cell? ⟨gb159, 1, none⟩ = some (.int .i64 0) := (blk_cell BK159.out 1).trans rfl; have hfz22_0 := blk_frozen BK159.out 0; have hfz22_1 := blk_frozen BK159.out 1) | ((with_reducible refine gate_callee (f := 40) rfl ?_); refine goesL_ (some 46) rfl rfl Try.func40 (by kernel_rfl) rfl #[.int .u32 ((a1) % 4294967296)] rfl (by (try simp only [List.map_toArray, List.map_cons, List.map_nil]); first | done | rfl | (simp only [List.length_drop, List.length_take]; rfl)) ?_; (with_reducible refine (coterieref02_Unpack.calls ((a1) % 4294967296) t160 t161 t162 _ A17.out).mono ?_); rintro e w23 ⟨rfl, hb⟩; refine ⟨_, rfl, ?_⟩; have n0_ := Aside0.mk (blk_below (g := gb150) (o := .cells #[.int .i64 a0_0, .int .i64 a0_1, .int .i64 a0_2, .int .i64 a0_3] 34 (0, 0)) (by (with_reducible repeat (first | refine blk_drewN ?_ _ | refine blk_drew ?_ | refine blk_alloc ?_ _)); refine blk_far ?_ NB150_159.out _; (with_reducible repeat (first | refine blk_drewN ?_ _ | refine blk_drew ?_ | refine blk_alloc ?_ _)); refine blk_far ?_ NB150_159.out _; (with_reducible repeat (first | refine blk_drewN ?_ _ | refine blk_drew ?_ | refine blk_alloc ?_ _)); exact BK150.out) hb); have n1_ := Aside0.mk (blk_below (g := gb159) (o := .cells #[.int .i64 t156, .int .i64 t157] 23 (0, 0)) (by (with_reducible repeat (first | refine blk_drewN ?_ _ | refine blk_drew ?_ | refine blk_alloc ?_ _)); refine blk_put (cs := #[.int .i64 t156, .int .i64 0]) ?_ 1 _ rfl; (with_reducible repeat (first | refine blk_drewN ?_ _ | refine blk_drew ?_ | refine blk_alloc ?_ _)); refine blk_put (cs := #[.int .i64 0, .int .i64 0]) ?_ 0 _ rfl; (with_reducible repeat (first | refine blk_drewN ?_ _ | refine blk_drew ?_ | refine blk_alloc ?_ _)); exact BK159.out) hb); have n2_ := Aside0.mk (below_step (by repeat (first | (with_reducible first | exact HB.out | apply below_alloc | apply pw_below_drewN | apply below_drew1 | refine below_set ?_ GE150.out | refine below_set ?_ GE159.out) | exact HB.out)) hb); clear BK150; clear BK159; clear HB; have BK150 := n0_; have BK159 := n1_; have HB := n2_; clear n0_ n1_ n2_; (try clear hb); (try clear hb2); (try clear hk); (try clear hi)) | ((with_reducible refine gate_dst (N := 10) rfl ?_); refine box_event ?hg (N := 10) ?hd (cs := #[.int .i64 0, .int .i64 0]) (t := 23) ?hr ?_; (case hd => rfl); (case hg => rfl); (case hr => first | (go_simp; done) | (go_simp; rfl)); intro gb163 hg w24 hbox hb; have n0_ := Aside0.mk (blk_below (g := gb150) (o := .cells #[.int .i64 a0_0, .int .i64 a0_1, .int .i64 a0_2, .int .i64 a0_3] 34 (0, 0)) (by (with_reducible repeat (first | refine blk_drewN ?_ _ | refine blk_drew ?_ | refine blk_alloc ?_ _)); exact BK150.out) hb); have n1_ := Aside0.mk (blk_below (g := gb159) (o := .cells #[.int .i64 t156, .int .i64 t157] 23 (0, 0)) (by (with_reducible repeat (first | refine blk_drewN ?_ _ | refine blk_drew ?_ | refine blk_alloc ?_ _)); exact BK159.out) hb); have n2_ := Aside0.mk (below_step (by repeat (first | (with_reducible first | exact HB.out | apply below_alloc | apply pw_below_drewN | apply below_drew1 | refine below_set ?_ GE150.out | refine below_set ?_ GE159.out) | exact HB.out)) hb); have n3_ := Aside0.mk (hbox); have n4_ := Aside0.mk ((by rw [hg]; exact (below_size (by repeat (first | (with_reducible first | exact HB.out | apply below_alloc | apply pw_below_drewN | apply below_drew1 | refine below_set ?_ GE150.out | refine below_set ?_ GE159.out) | exact HB.out))) : w.heap.size ≤ gb163)); have n5_ := Aside0.mk ((by rw [hg]; exact (below_size (by repeat (first | (with_reducible first | exact HB.out | apply below_alloc | apply pw_below_drewN | apply below_drew1 | refine below_set ?_ GE150.out | refine below_set ?_ GE159.out) | exact HB.out))) : w.heap.size ≤ gb163)); have n6_ := Aside0.mk ((by rw [hg]; exact Nat.ne_of_lt (blk_lt (g := gb150) (o := .cells #[.int .i64 a0_0, .int .i64 a0_1, .int .i64 a0_2, .int .i64 a0_3] 34 (0, 0)) (by (with_reducible repeat (first | refine blk_drewN ?_ _ | refine blk_drew ?_ | refine blk_alloc ?_ _)); exact BK150.out)) : gb150 ≠ gb163)); have n7_ := Aside0.mk ((by rw [hg]; exact Nat.ne_of_gt (blk_lt (g := gb150) (o := .cells #[.int .i64 a0_0, .int .i64 a0_1, .int .i64 a0_2, .int .i64 a0_3] 34 (0, 0)) (by (with_reducible repeat (first | refine blk_drewN ?_ _ | refine blk_drew ?_ | refine blk_alloc ?_ _)); exact BK150.out)) : gb163 ≠ gb150)); have n8_ := Aside0.mk ((by rw [hg]; exact Nat.ne_of_lt (blk_lt (g := gb159) (o := .cells #[.int .i64 t156, .int .i64 t157] 23 (0, 0)) (by (with_reducible repeat (first | refine blk_drewN ?_ _ | refine blk_drew ?_ | refine blk_alloc ?_ _)); exact BK159.out)) : gb159 ≠ gb163)); have n9_ := Aside0.mk ((by rw [hg]; exact Nat.ne_of_gt (blk_lt (g := gb159) (o := .cells #[.int .i64 t156, .int .i64 t157] 23 (0, 0)) (by (with_reducible repeat (first | refine blk_drewN ?_ _ | refine blk_drew ?_ | refine blk_alloc ?_ _)); exact BK159.out)) : gb163 ≠ gb159)); clear BK150; clear BK159; clear HB; have BK150 := n0_; have BK159 := n1_; have HB := n2_; have BK163 := n3_; have GW163 := n4_; have GE163 := n5_; have NB150_163 := n6_; have NB163_150 := n7_; have NB159_163 := n8_; have NB163_159 := n9_; clear n0_ n1_ n2_ n3_ n4_ n5_ n6_ n7_ n8_ n9_; clear hb hbox hg; have hnb25 := NB163_150.out; have hnc25 := NB150_163.out; have hnb26 := NB163_159.out; have hnc26 := NB159_163.out; have hcz27_0 : w24.cell? ⟨gb163, 0, none⟩ = some (.int .i64 0) := (blk_cell BK163.out 0).trans rfl; have hcz27_1 : w24.cell? ⟨gb163, 1, none⟩ = some (.int .i64 0) := (blk_cell BK163.out 1).trans rfl; have hfz27_0 := blk_frozen BK163.out 0; have hfz27_1 := blk_frozen BK163.out 1))
          (try simp only [Act.put, List.setIfInBounds_toArray, List.set_cons_zero, List.set_cons_succ])
          go_cut [56] (fun v56 wc => ∃ (kq : Nat) (x56_17 : Bool), v56 = .bool x56_17 ∧ Aside0 (coterielaw02_KeyPacks.j1 kq a1 x56_17 a0_0 a0_1 a0_2 a0_3 = some r) ∧ Aside0 (kq ≤ kj6) ∧ Aside0 (wc.heap[gb150]? = some (.cells #[.int .i64 a0_0, .int .i64 a0_1, .int .i64 a0_2, .int .i64 a0_3] 34 (0, 0))) ∧ Aside0 (wc.heap[gb159]? = some (.cells #[.int .i64 t156, .int .i64 t157] 23 (0, 0))) ∧ Aside0 (wc.heap[gb163]? = some (.cells #[.int .i64 t160, .int .i64 t161] 23 (0, 0))) ∧ Aside0 (Below w.heap.size w wc))
          case first =>
            have H := HC18.out
            clear HC18
            by_cases c28 : (!(t156 == t160) || (!(t157 == t161))) = true
            · rw [if_pos c28] at H
              have c28b0 : (!(t156 == t160) || (!(t157 == t161))) = true := c28
              clear c28
              (first | rw [c28b0] | (simp only [i64_w, i32_w]; rw [c28b0]) | skip)
              have H' := Aside0.mk H
              clear H
              have hnb29 := NB159_150.out
              have hnc29 := NB150_159.out
              have hnb30 := NB159_163.out
              have hnc30 := NB163_159.out
              have hcz31_0 : w24.cell? ⟨gb159, 0, none⟩ = some (.int .i64 t156) := (blk_cell BK159.out 0).trans rfl
              have hcz31_1 : w24.cell? ⟨gb159, 1, none⟩ = some (.int .i64 t157) := (blk_cell BK159.out 1).trans rfl
              have hfz31_0 := blk_frozen BK159.out 0
              have hfz31_1 := blk_frozen BK159.out 1
              have hnb32 := NB163_150.out
              have hnc32 := NB150_163.out
              have hcz33_0 : w24.cell? ⟨gb163, 0, none⟩ = some (.int .i64 0) := (blk_cell BK163.out 0).trans rfl
              have hcz33_1 : w24.cell? ⟨gb163, 1, none⟩ = some (.int .i64 0) := (blk_cell BK163.out 1).trans rfl
              have hfz33_0 := blk_frozen BK163.out 0
              have hfz33_1 := blk_frozen BK163.out 1
              go_wp2
              go_meet
              case rel => exact ⟨_, (true), (by first | rfl | (simp; done) | (simp [*]; done)), H', ⟨by have := HJ6.out; first | omega | exact Nat.le_refl _⟩, ⟨by (with_reducible repeat (first | refine blk_drewN ?_ _ | refine blk_drew ?_ | refine blk_alloc ?_ _)); refine blk_far ?_ NB150_163.out _; (with_reducible repeat (first | refine blk_drewN ?_ _ | refine blk_drew ?_ | refine blk_alloc ?_ _)); refine blk_far ?_ NB150_163.out _; (with_reducible repeat (first | refine blk_drewN ?_ _ | refine blk_drew ?_ | refine blk_alloc ?_ _)); exact BK150.out⟩, ⟨by (with_reducible repeat (first | refine blk_drewN ?_ _ | refine blk_drew ?_ | refine blk_alloc ?_ _)); refine blk_far ?_ NB159_163.out _; (with_reducible repeat (first | refine blk_drewN ?_ _ | refine blk_drew ?_ | refine blk_alloc ?_ _)); refine blk_far ?_ NB159_163.out _; (with_reducible repeat (first | refine blk_drewN ?_ _ | refine blk_drew ?_ | refine blk_alloc ?_ _)); exact BK159.out⟩, ⟨by (with_reducible repeat (first | refine blk_drewN ?_ _ | refine blk_drew ?_ | refine blk_alloc ?_ _)); refine blk_put (cs := #[.int .i64 t160, .int .i64 0]) ?_ 1 _ rfl; (with_reducible repeat (first | refine blk_drewN ?_ _ | refine blk_drew ?_ | refine blk_alloc ?_ _)); refine blk_put (cs := #[.int .i64 0, .int .i64 0]) ?_ 0 _ rfl; (with_reducible repeat (first | refine blk_drewN ?_ _ | refine blk_drew ?_ | refine blk_alloc ?_ _)); exact BK163.out⟩, ⟨by repeat (first | (with_reducible first | exact HB.out | apply below_alloc | apply pw_below_drewN | apply below_drew1 | refine below_set ?_ GE150.out | refine below_set ?_ GE159.out | refine below_set ?_ GE163.out) | exact HB.out)⟩⟩
            · rw [if_neg c28] at H
              have c28b0 : (!(t156 == t160) || (!(t157 == t161))) = false := by simpa using c28
              clear c28
              (first | rw [c28b0] | (simp only [i64_w, i32_w]; rw [c28b0]) | skip)
              have H' := Aside0.mk H
              clear H
              have hnb34 := NB159_150.out
              have hnc34 := NB150_159.out
              have hnb35 := NB159_163.out
              have hnc35 := NB163_159.out
              have hcz36_0 : w24.cell? ⟨gb159, 0, none⟩ = some (.int .i64 t156) := (blk_cell BK159.out 0).trans rfl
              have hcz36_1 : w24.cell? ⟨gb159, 1, none⟩ = some (.int .i64 t157) := (blk_cell BK159.out 1).trans rfl
              have hfz36_0 := blk_frozen BK159.out 0
              have hfz36_1 := blk_frozen BK159.out 1
              have hnb37 := NB163_150.out
              have hnc37 := NB150_163.out
              have hcz38_0 : w24.cell? ⟨gb163, 0, none⟩ = some (.int .i64 0) := (blk_cell BK163.out 0).trans rfl
              have hcz38_1 : w24.cell? ⟨gb163, 1, none⟩ = some (.int .i64 0) := (blk_cell BK163.out 1).trans rfl
              have hfz38_0 := blk_frozen BK163.out 0
              have hfz38_1 := blk_frozen BK163.out 1
              go_wp2
              go_meet
              case rel => exact ⟨_, ((t158 != t162)), (by first | rfl | (simp; done) | (simp [*]; done)), H', ⟨by have := HJ6.out; first | omega | exact Nat.le_refl _⟩, ⟨by (with_reducible repeat (first | refine blk_drewN ?_ _ | refine blk_drew ?_ | refine blk_alloc ?_ _)); refine blk_far ?_ NB150_163.out _; (with_reducible repeat (first | refine blk_drewN ?_ _ | refine blk_drew ?_ | refine blk_alloc ?_ _)); refine blk_far ?_ NB150_163.out _; (with_reducible repeat (first | refine blk_drewN ?_ _ | refine blk_drew ?_ | refine blk_alloc ?_ _)); exact BK150.out⟩, ⟨by (with_reducible repeat (first | refine blk_drewN ?_ _ | refine blk_drew ?_ | refine blk_alloc ?_ _)); refine blk_far ?_ NB159_163.out _; (with_reducible repeat (first | refine blk_drewN ?_ _ | refine blk_drew ?_ | refine blk_alloc ?_ _)); refine blk_far ?_ NB159_163.out _; (with_reducible repeat (first | refine blk_drewN ?_ _ | refine blk_drew ?_ | refine blk_alloc ?_ _)); exact BK159.out⟩, ⟨by (with_reducible repeat (first | refine blk_drewN ?_ _ | refine blk_drew ?_ | refine blk_alloc ?_ _)); refine blk_put (cs := #[.int .i64 t160, .int .i64 0]) ?_ 1 _ rfl; (with_reducible repeat (first | refine blk_drewN ?_ _ | refine blk_drew ?_ | refine blk_alloc ?_ _)); refine blk_put (cs := #[.int .i64 0, .int .i64 0]) ?_ 0 _ rfl; (with_reducible repeat (first | refine blk_drewN ?_ _ | refine blk_drew ?_ | refine blk_alloc ?_ _)); exact BK163.out⟩, ⟨by repeat (first | (with_reducible first | exact HB.out | apply below_alloc | apply pw_below_drewN | apply below_drew1 | refine below_set ?_ GE150.out | refine below_set ?_ GE159.out | refine below_set ?_ GE163.out) | exact HB.out)⟩⟩
          case rest =>
            clear HC18
            try clear c1
            try clear c2
            try clear p2
            try clear c3
            try clear c4
            try clear c9
            try clear c14
            try clear c14b0
            try clear c14b1
            try clear c15
            try clear c21
            try clear c25
            try clear c26
            try clear c28
            try clear c28b0
            try clear c29
            try clear c30
            try clear c32
            try clear c34
            try clear c35
            try clear c37
            try clear c38
            try clear hcz10_0
            try clear hcz10_1
            try clear hcz10_2
            try clear hcz10_3
            try clear hcz12_0
            try clear hcz12_1
            try clear hcz12_2
            try clear hcz12_3
            try clear hcz22_0
            try clear hcz22_1
            try clear hcz27_0
            try clear hcz27_1
            try clear hcz31_0
            try clear hcz31_1
            try clear hcz33_0
            try clear hcz33_1
            try clear hcz36_0
            try clear hcz36_1
            try clear hcz38_0
            try clear hcz38_1
            try clear hfz10_0
            try clear hfz10_1
            try clear hfz10_2
            try clear hfz10_3
            try clear hfz12_0
            try clear hfz12_1
            try clear hfz12_2
            try clear hfz12_3
            try clear hfz22_0
            try clear hfz22_1
            try clear hfz27_0
            try clear hfz27_1
            try clear hfz31_0
            try clear hfz31_1
            try clear hfz33_0
            try clear hfz33_1
            try clear hfz36_0
            try clear hfz36_1
            try clear hfz38_0
            try clear hfz38_1
            try clear p2
            obtain ⟨kq, x56_17, rfl, HA, HJ17, BK150, BK159, BK163, HB⟩ := hcut
            cases kq with
            | zero => exact absurd HA.out (by simp [coterielaw02_KeyPacks.j1])
            | succ kj17 =>
              have H := HA.out
              clear HA
              simp only [coterielaw02_KeyPacks.j1] at H
              by_cases c39 : x56_17 = true
              · subst c39
                have H1 : (some false) = some r := by rw [if_pos rfl] at H; exact H
                clear H
                have H := H1
                clear H1
                obtain rfl := Option.some.inj H
                go_wp2
                go_ret
                exact ⟨by first | rfl | (simp [errW_none, errW_some] <;> rfl) | (simp [*, errW_none, errW_some] <;> rfl), by repeat (first | (with_reducible first | exact HB.out | apply below_alloc | apply pw_below_drewN | apply below_drew1 | refine below_set ?_ GE150.out | refine below_set ?_ GE159.out | refine below_set ?_ GE163.out) | exact HB.out)⟩
              · replace c39 := Bool.eq_false_iff.mpr c39
                subst c39
                have H1 : ((key_PackBox.f a0_0 a0_1 a0_2 a0_3).bind fun bt164 => ((coterieref02_PackBox.f a0_0 a0_1 a0_2 a0_3).bind fun bt166 => (if bt164.1 = bt166.1 then (coterielaw02_KeyPacks.j2 kj17 a1 (bt164.2 != bt166.2)) else (coterielaw02_KeyPacks.j2 kj17 a1 true)))) = some r := by rw [if_neg (show ¬ (false = true) by decide)] at H; exact H
                clear H
                have H := H1
                clear H1
                replace H := Option.bind_eq_some_iff.mp H
                obtain ⟨⟨t164, t165⟩, A400, H⟩ := H
                replace H : ((coterieref02_PackBox.f a0_0 a0_1 a0_2 a0_3).bind fun bt166 => (if t164 = bt166.1 then (coterielaw02_KeyPacks.j2 kj17 a1 (t165 != bt166.2)) else (coterielaw02_KeyPacks.j2 kj17 a1 true))) = some r := H
                have A40 := Aside0.mk A400
                clear A400
                replace H := Option.bind_eq_some_iff.mp H
                obtain ⟨⟨t166, t167⟩, A410, H⟩ := H
                replace H : (if t164 = t166 then (coterielaw02_KeyPacks.j2 kj17 a1 (t165 != t167)) else (coterielaw02_KeyPacks.j2 kj17 a1 true)) = some r := H
                have A41 := Aside0.mk A410
                clear A410
                have HC42 := Aside0.mk H
                clear H
                have hnb43 := NB150_159.out
                have hnc43 := NB159_150.out
                have hnb44 := NB150_163.out
                have hnc44 := NB163_150.out
                have hcz45_0 : wc.cell? ⟨gb150, 0, none⟩ = some (.int .i64 a0_0) := (blk_cell BK150.out 0).trans rfl
                have hcz45_1 : wc.cell? ⟨gb150, 1, none⟩ = some (.int .i64 a0_1) := (blk_cell BK150.out 1).trans rfl
                have hcz45_2 : wc.cell? ⟨gb150, 2, none⟩ = some (.int .i64 a0_2) := (blk_cell BK150.out 2).trans rfl
                have hcz45_3 : wc.cell? ⟨gb150, 3, none⟩ = some (.int .i64 a0_3) := (blk_cell BK150.out 3).trans rfl
                have hfz45_0 := blk_frozen BK150.out 0
                have hfz45_1 := blk_frozen BK150.out 1
                have hfz45_2 := blk_frozen BK150.out 2
                have hfz45_3 := blk_frozen BK150.out 3
                go_upto_region 13 with (first | ((with_reducible refine gate_callee (f := 41) rfl ?_); refine goesL_ (some 59) rfl rfl Try.func41 (by kernel_rfl) rfl #[.agg #[.int .i64 a0_0, .int .i64 a0_1, .int .i64 a0_2, .int .i64 a0_3]] rfl (by (try simp only [List.map_toArray, List.map_cons, List.map_nil]); first | done | rfl | (simp only [List.length_drop, List.length_take]; rfl)) ?_; (with_reducible refine (key_PackBox.calls a0_0 a0_1 a0_2 a0_3 t164 t165 _ A40.out).mono ?_); rintro e w46 ⟨rfl, hb⟩; refine ⟨_, rfl, ?_⟩; have n0_ := Aside0.mk (blk_below (g := gb150) (o := .cells #[.int .i64 a0_0, .int .i64 a0_1, .int .i64 a0_2, .int .i64 a0_3] 34 (0, 0)) (by (with_reducible repeat (first | refine blk_drewN ?_ _ | refine blk_drew ?_ | refine blk_alloc ?_ _)); exact BK150.out) hb); have n1_ := Aside0.mk (blk_below (g := gb159) (o := .cells #[.int .i64 t156, .int .i64 t157] 23 (0, 0)) (by (with_reducible repeat (first | refine blk_drewN ?_ _ | refine blk_drew ?_ | refine blk_alloc ?_ _)); exact BK159.out) hb); have n2_ := Aside0.mk (blk_below (g := gb163) (o := .cells #[.int .i64 t160, .int .i64 t161] 23 (0, 0)) (by (with_reducible repeat (first | refine blk_drewN ?_ _ | refine blk_drew ?_ | refine blk_alloc ?_ _)); exact BK163.out) hb); have n3_ := Aside0.mk (below_step (by repeat (first | (with_reducible first | exact HB.out | apply below_alloc | apply pw_below_drewN | apply below_drew1 | refine below_set ?_ GE150.out | refine below_set ?_ GE159.out | refine below_set ?_ GE163.out) | exact HB.out)) hb); clear BK150; clear BK159; clear BK163; clear HB; have BK150 := n0_; have BK159 := n1_; have BK163 := n2_; have HB := n3_; clear n0_ n1_ n2_ n3_; (try clear hb); (try clear hb2); (try clear hk); (try clear hi); have hcz47_0 : w46.cell? ⟨gb150, 0, none⟩ = some (.int .i64 a0_0) := (blk_cell BK150.out 0).trans rfl; have hcz47_1 : w46.cell? ⟨gb150, 1, none⟩ = some (.int .i64 a0_1) := (blk_cell BK150.out 1).trans rfl; have hcz47_2 : w46.cell? ⟨gb150, 2, none⟩ = some (.int .i64 a0_2) := (blk_cell BK150.out 2).trans rfl; have hcz47_3 : w46.cell? ⟨gb150, 3, none⟩ = some (.int .i64 a0_3) := (blk_cell BK150.out 3).trans rfl; have hfz47_0 := blk_frozen BK150.out 0; have hfz47_1 := blk_frozen BK150.out 1; have hfz47_2 := blk_frozen BK150.out 2; have hfz47_3 := blk_frozen BK150.out 3) | ((with_reducible refine gate_callee (f := 42) rfl ?_); refine goesL_ (some 64) rfl rfl Try.func42 (by kernel_rfl) rfl #[.agg #[.int .i64 a0_0, .int .i64 a0_1, .int .i64 a0_2, .int .i64 a0_3]] rfl (by (try simp only [List.map_toArray, List.map_cons, List.map_nil]); first | done | rfl | (simp only [List.length_drop, List.length_take]; rfl)) ?_; (with_reducible refine (coterieref02_PackBox.calls a0_0 a0_1 a0_2 a0_3 t166 t167 _ A41.out).mono ?_); rintro e w48 ⟨rfl, hb⟩; refine ⟨_, rfl, ?_⟩; have n0_ := Aside0.mk (blk_below (g := gb150) (o := .cells #[.int .i64 a0_0, .int .i64 a0_1, .int .i64 a0_2, .int .i64 a0_3] 34 (0, 0)) (by (with_reducible repeat (first | refine blk_drewN ?_ _ | refine blk_drew ?_ | refine blk_alloc ?_ _)); exact BK150.out) hb); have n1_ := Aside0.mk (blk_below (g := gb159) (o := .cells #[.int .i64 t156, .int .i64 t157] 23 (0, 0)) (by (with_reducible repeat (first | refine blk_drewN ?_ _ | refine blk_drew ?_ | refine blk_alloc ?_ _)); exact BK159.out) hb); have n2_ := Aside0.mk (blk_below (g := gb163) (o := .cells #[.int .i64 t160, .int .i64 t161] 23 (0, 0)) (by (with_reducible repeat (first | refine blk_drewN ?_ _ | refine blk_drew ?_ | refine blk_alloc ?_ _)); exact BK163.out) hb); have n3_ := Aside0.mk (below_step (by repeat (first | (with_reducible first | exact HB.out | apply below_alloc | apply pw_below_drewN | apply below_drew1 | refine below_set ?_ GE150.out | refine below_set ?_ GE159.out | refine below_set ?_ GE163.out) | exact HB.out)) hb); clear BK150; clear BK159; clear BK163; clear HB; have BK150 := n0_; have BK159 := n1_; have BK163 := n2_; have HB := n3_; clear n0_ n1_ n2_ n3_; (try clear hb); (try clear hb2); (try clear hk); (try clear hi)))
                (try simp only [Act.put, List.setIfInBounds_toArray, List.set_cons_zero, List.set_cons_succ])
                go_cut [74] (fun v74 wc => ∃ (kq : Nat) (x74_41 : Bool), v74 = .bool x74_41 ∧ Aside0 (coterielaw02_KeyPacks.j2 kq a1 x74_41 = some r) ∧ Aside0 (kq ≤ kj17) ∧ Aside0 (wc.heap[gb150]? = some (.cells #[.int .i64 a0_0, .int .i64 a0_1, .int .i64 a0_2, .int .i64 a0_3] 34 (0, 0))) ∧ Aside0 (wc.heap[gb159]? = some (.cells #[.int .i64 t156, .int .i64 t157] 23 (0, 0))) ∧ Aside0 (wc.heap[gb163]? = some (.cells #[.int .i64 t160, .int .i64 t161] 23 (0, 0))) ∧ Aside0 (Below w.heap.size w wc))
                case first =>
                  have H := HC42.out
                  clear HC42
                  by_cases c49 : t164 = t166
                  · rw [if_pos c49] at H
                    have c49b0 : (t164 == t166) = true := beq_iff_eq.mpr c49
                    have c49b1 : (t164 != t166) = false := bne_eq_false_iff_eq.mpr c49
                    clear c49
                    (first | rw [c49b0] | (simp only [i64_w, i32_w]; rw [c49b0]) | skip)
                    have H' := Aside0.mk H
                    clear H
                    go_wp2
                    go_meet
                    case rel => exact ⟨_, ((t165 != t167)), (by first | rfl | (simp; done) | (simp [*]; done)), H', ⟨by have := HJ6.out; have := HJ17.out; first | omega | exact Nat.le_refl _⟩, ⟨by (with_reducible repeat (first | refine blk_drewN ?_ _ | refine blk_drew ?_ | refine blk_alloc ?_ _)); exact BK150.out⟩, ⟨by (with_reducible repeat (first | refine blk_drewN ?_ _ | refine blk_drew ?_ | refine blk_alloc ?_ _)); exact BK159.out⟩, ⟨by (with_reducible repeat (first | refine blk_drewN ?_ _ | refine blk_drew ?_ | refine blk_alloc ?_ _)); exact BK163.out⟩, ⟨by repeat (first | (with_reducible first | exact HB.out | apply below_alloc | apply pw_below_drewN | apply below_drew1 | refine below_set ?_ GE150.out | refine below_set ?_ GE159.out | refine below_set ?_ GE163.out) | exact HB.out)⟩⟩
                  · rw [if_neg c49] at H
                    have c49b0 : (t164 == t166) = false := beq_eq_false_iff_ne.mpr c49
                    have c49b1 : (t164 != t166) = true := bne_iff_ne.mpr c49
                    (first | rw [c49b0] | (simp only [i64_w, i32_w]; rw [c49b0]) | skip)
                    have H' := Aside0.mk H
                    clear H
                    go_wp2
                    go_meet
                    case rel => exact ⟨_, (true), (by first | rfl | (simp; done) | (simp [*]; done)), H', ⟨by have := HJ6.out; have := HJ17.out; first | omega | exact Nat.le_refl _⟩, ⟨by (with_reducible repeat (first | refine blk_drewN ?_ _ | refine blk_drew ?_ | refine blk_alloc ?_ _)); exact BK150.out⟩, ⟨by (with_reducible repeat (first | refine blk_drewN ?_ _ | refine blk_drew ?_ | refine blk_alloc ?_ _)); exact BK159.out⟩, ⟨by (with_reducible repeat (first | refine blk_drewN ?_ _ | refine blk_drew ?_ | refine blk_alloc ?_ _)); exact BK163.out⟩, ⟨by repeat (first | (with_reducible first | exact HB.out | apply below_alloc | apply pw_below_drewN | apply below_drew1 | refine below_set ?_ GE150.out | refine below_set ?_ GE159.out | refine below_set ?_ GE163.out) | exact HB.out)⟩⟩
                case rest =>
                  clear HC42
                  try clear c1
                  try clear c2
                  try clear p2
                  try clear c3
                  try clear c4
                  try clear c9
                  try clear c14
                  try clear c14b0
                  try clear c14b1
                  try clear c15
                  try clear c21
                  try clear c25
                  try clear c26
                  try clear c28
                  try clear c28b0
                  try clear c29
                  try clear c30
                  try clear c32
                  try clear c34
                  try clear c35
                  try clear c37
                  try clear c38
                  try clear c39
                  try clear c40
                  try clear c41
                  try clear c42
                  try clear c43
                  try clear c44
                  try clear c49
                  try clear c49b0
                  try clear c49b1
                  try clear hcz10_0
                  try clear hcz10_1
                  try clear hcz10_2
                  try clear hcz10_3
                  try clear hcz12_0
                  try clear hcz12_1
                  try clear hcz12_2
                  try clear hcz12_3
                  try clear hcz22_0
                  try clear hcz22_1
                  try clear hcz27_0
                  try clear hcz27_1
                  try clear hcz31_0
                  try clear hcz31_1
                  try clear hcz33_0
                  try clear hcz33_1
                  try clear hcz36_0
                  try clear hcz36_1
                  try clear hcz38_0
                  try clear hcz38_1
                  try clear hcz45_0
                  try clear hcz45_1
                  try clear hcz45_2
                  try clear hcz45_3
                  try clear hcz47_0
                  try clear hcz47_1
                  try clear hcz47_2
                  try clear hcz47_3
                  try clear hfz10_0
                  try clear hfz10_1
                  try clear hfz10_2
                  try clear hfz10_3
                  try clear hfz12_0
                  try clear hfz12_1
                  try clear hfz12_2
                  try clear hfz12_3
                  try clear hfz22_0
                  try clear hfz22_1
                  try clear hfz27_0
                  try clear hfz27_1
                  try clear hfz31_0
                  try clear hfz31_1
                  try clear hfz33_0
                  try clear hfz33_1
                  try clear hfz36_0
                  try clear hfz36_1
                  try clear hfz38_0
                  try clear hfz38_1
                  try clear hfz45_0
                  try clear hfz45_1
                  try clear hfz45_2
                  try clear hfz45_3
                  try clear hfz47_0
                  try clear hfz47_1
                  try clear hfz47_2
                  try clear hfz47_3
                  try clear p2
                  obtain ⟨kq, x74_41, rfl, HA, HJ41, BK150, BK159, BK163, HB⟩ := hcut
                  cases kq with
                  | zero => exact absurd HA.out (by simp [coterielaw02_KeyPacks.j2])
                  | succ kj41 =>
                    have H := HA.out
                    clear HA
                    simp only [coterielaw02_KeyPacks.j2] at H
                    by_cases c50 : x74_41 = true
                    · subst c50
                      have H1 : (some false) = some r := by rw [if_pos rfl] at H; exact H
                      clear H
                      have H := H1
                      clear H1
                      obtain rfl := Option.some.inj H
                      go_wp2
                      go_ret
                      exact ⟨by first | rfl | (simp [errW_none, errW_some] <;> rfl) | (simp [*, errW_none, errW_some] <;> rfl), by repeat (first | (with_reducible first | exact HB.out | apply below_alloc | apply pw_below_drewN | apply below_drew1 | refine below_set ?_ GE150.out | refine below_set ?_ GE159.out | refine below_set ?_ GE163.out) | exact HB.out)⟩
                    · replace c50 := Bool.eq_false_iff.mpr c50
                      subst c50
                      have H1 : ((key_UnpackBox.f a1).bind fun bt168 => ((coterieref02_UnpackBox.f a1).bind fun bt174 => (if ((bt168.1 == bt174.1 && (bt168.2.1 == bt174.2.1)) && ((bt168.2.2.1 == bt174.2.2.1 && (bt168.2.2.2.1 == bt174.2.2.2.1)))) = true then (some (bt168.2.2.2.2 == bt174.2.2.2.2)) else (some false)))) = some r := by rw [if_neg (show ¬ (false = true) by decide)] at H; exact H
                      clear H
                      have H := H1
                      clear H1
                      replace H := Option.bind_eq_some_iff.mp H
                      obtain ⟨⟨t168, t169, t170, t171, t172⟩, A510, H⟩ := H
                      replace H : ((coterieref02_UnpackBox.f a1).bind fun bt174 => (if ((t168 == bt174.1 && (t169 == bt174.2.1)) && ((t170 == bt174.2.2.1 && (t171 == bt174.2.2.2.1)))) = true then (some (t172 == bt174.2.2.2.2)) else (some false))) = some r := H
                      have A51 := Aside0.mk A510
                      clear A510
                      replace H := Option.bind_eq_some_iff.mp H
                      obtain ⟨⟨t174, t175, t176, t177, t178⟩, A520, H⟩ := H
                      replace H : (if ((t168 == t174 && (t169 == t175)) && ((t170 == t176 && (t171 == t177)))) = true then (some (t172 == t178)) else (some false)) = some r := H
                      have A52 := Aside0.mk A520
                      clear A520
                      by_cases c53 : ((t168 == t174 && (t169 == t175)) && ((t170 == t176 && (t171 == t177)))) = true
                      · rw [if_pos c53] at H
                        have c53b0 : ((t168 == t174 && (t169 == t175)) && ((t170 == t176 && (t171 == t177)))) = true := c53
                        clear c53
                        obtain rfl := Option.some.inj H
                        go_wp2_with (first | ((with_reducible refine gate_callee (f := 43) rfl ?_); refine goesL_ (some 77) rfl rfl Try.func43 (by kernel_rfl) rfl #[.int .u64 a1] rfl (by (try simp only [List.map_toArray, List.map_cons, List.map_nil]); first | done | rfl | (simp only [List.length_drop, List.length_take]; rfl)) ?_; (with_reducible refine (key_UnpackBox.calls a1 t168 t169 t170 t171 t172 _ A51.out).mono ?_); rintro e w54 ⟨rfl, hb⟩; refine ⟨_, rfl, ?_⟩; have n0_ := Aside0.mk (blk_below (g := gb150) (o := .cells #[.int .i64 a0_0, .int .i64 a0_1, .int .i64 a0_2, .int .i64 a0_3] 34 (0, 0)) (by (with_reducible repeat (first | refine blk_drewN ?_ _ | refine blk_drew ?_ | refine blk_alloc ?_ _)); exact BK150.out) hb); have n1_ := Aside0.mk (blk_below (g := gb159) (o := .cells #[.int .i64 t156, .int .i64 t157] 23 (0, 0)) (by (with_reducible repeat (first | refine blk_drewN ?_ _ | refine blk_drew ?_ | refine blk_alloc ?_ _)); exact BK159.out) hb); have n2_ := Aside0.mk (blk_below (g := gb163) (o := .cells #[.int .i64 t160, .int .i64 t161] 23 (0, 0)) (by (with_reducible repeat (first | refine blk_drewN ?_ _ | refine blk_drew ?_ | refine blk_alloc ?_ _)); exact BK163.out) hb); have n3_ := Aside0.mk (below_step (by repeat (first | (with_reducible first | exact HB.out | apply below_alloc | apply pw_below_drewN | apply below_drew1 | refine below_set ?_ GE150.out | refine below_set ?_ GE159.out | refine below_set ?_ GE163.out) | exact HB.out)) hb); clear BK150; clear BK159; clear BK163; clear HB; have BK150 := n0_; have BK159 := n1_; have BK163 := n2_; have HB := n3_; clear n0_ n1_ n2_ n3_; (try clear hb); (try clear hb2); (try clear hk); (try clear hi)) | ((with_reducible refine gate_dst (N := 13) rfl ?_); refine box_event ?hg (N := 13) ?hd (cs := #[.int .i64 0, .int .i64 0, .int .i64 0, .int .i64 0]) (t := 34) ?hr ?_; (case hd => rfl); (case hg => rfl); (case hr => first | (go_simp; done) | (go_simp; rfl)); intro gb173 hg w55 hbox hb; have n0_ := Aside0.mk (blk_below (g := gb150) (o := .cells #[.int .i64 a0_0, .int .i64 a0_1, .int .i64 a0_2, .int .i64 a0_3] 34 (0, 0)) (by (with_reducible repeat (first | refine blk_drewN ?_ _ | refine blk_drew ?_ | refine blk_alloc ?_ _)); exact BK150.out) hb); have n1_ := Aside0.mk (blk_below (g := gb159) (o := .cells #[.int .i64 t156, .int .i64 t157] 23 (0, 0)) (by (with_reducible repeat (first | refine blk_drewN ?_ _ | refine blk_drew ?_ | refine blk_alloc ?_ _)); exact BK159.out) hb); have n2_ := Aside0.mk (blk_below (g := gb163) (o := .cells #[.int .i64 t160, .int .i64 t161] 23 (0, 0)) (by (with_reducible repeat (first | refine blk_drewN ?_ _ | refine blk_drew ?_ | refine blk_alloc ?_ _)); exact BK163.out) hb); have n3_ := Aside0.mk (below_step (by repeat (first | (with_reducible first | exact HB.out | apply below_alloc | apply pw_below_drewN | apply below_drew1 | refine below_set ?_ GE150.out | refine below_set ?_ GE159.out | refine below_set ?_ GE163.out) | exact HB.out)) hb); have n4_ := Aside0.mk (hbox); have n5_ := Aside0.mk ((by rw [hg]; exact (below_size (by repeat (first | (with_reducible first | exact HB.out | apply below_alloc | apply pw_below_drewN | apply below_drew1 | refine below_set ?_ GE150.out | refine below_set ?_ GE159.out | refine below_set ?_ GE163.out) | exact HB.out))) : w.heap.size ≤ gb173)); have n6_ := Aside0.mk ((by rw [hg]; exact (below_size (by repeat (first | (with_reducible first | exact HB.out | apply below_alloc | apply pw_below_drewN | apply below_drew1 | refine below_set ?_ GE150.out | refine below_set ?_ GE159.out | refine below_set ?_ GE163.out) | exact HB.out))) : w.heap.size ≤ gb173)); have n7_ := Aside0.mk ((by rw [hg]; exact Nat.ne_of_lt (blk_lt (g := gb150) (o := .cells #[.int .i64 a0_0, .int .i64 a0_1, .int .i64 a0_2, .int .i64 a0_3] 34 (0, 0)) (by (with_reducible repeat (first | refine blk_drewN ?_ _ | refine blk_drew ?_ | refine blk_alloc ?_ _)); exact BK150.out)) : gb150 ≠ gb173)); have n8_ := Aside0.mk ((by rw [hg]; exact Nat.ne_of_gt (blk_lt (g := gb150) (o := .cells #[.int .i64 a0_0, .int .i64 a0_1, .int .i64 a0_2, .int .i64 a0_3] 34 (0, 0)) (by (with_reducible repeat (first | refine blk_drewN ?_ _ | refine blk_drew ?_ | refine blk_alloc ?_ _)); exact BK150.out)) : gb173 ≠ gb150)); have n9_ := Aside0.mk ((by rw [hg]; exact Nat.ne_of_lt (blk_lt (g := gb159) (o := .cells #[.int .i64 t156, .int .i64 t157] 23 (0, 0)) (by (with_reducible repeat (first | refine blk_drewN ?_ _ | refine blk_drew ?_ | refine blk_alloc ?_ _)); exact BK159.out)) : gb159 ≠ gb173)); have n10_ := Aside0.mk ((by rw [hg]; exact Nat.ne_of_gt (blk_lt (g := gb159) (o := .cells #[.int .i64 t156, .int .i64 t157] 23 (0, 0)) (by (with_reducible repeat (first | refine blk_drewN ?_ _ | refine blk_drew ?_ | refine blk_alloc ?_ _)); exact BK159.out)) : gb173 ≠ gb159)); have n11_ := Aside0.mk ((by rw [hg]; exact Nat.ne_of_lt (blk_lt (g := gb163) (o := .cells #[.int .i64 t160, .int .i64 t161] 23 (0, 0)) (by (with_reducible repeat (first | refine blk_drewN ?_ _ | refine blk_drew ?_ | refine blk_alloc ?_ _)); exact BK163.out)) : gb163 ≠ gb173)); have n12_ := Aside0.mk ((by rw [hg]; exact Nat.ne_of_gt (blk_lt (g := gb163) (o := .cells #[.int .i64 t160, .int .i64 t161] 23 (0, 0)) (by (with_reducible repeat (first | refine blk_drewN ?_ _ | refine blk_drew ?_ | refine blk_alloc ?_ _)); exact BK163.out)) : gb173 ≠ gb163)); clear BK150; clear BK159; clear BK163; clear HB; have BK150 := n0_; have BK159 := n1_; have BK163 := n2_; have HB := n3_; have BK173 := n4_; have GW173 := n5_; have GE173 := n6_; have NB150_173 := n7_; have NB173_150 := n8_; have NB159_173 := n9_; have NB173_159 := n10_; have NB163_173 := n11_; have NB173_163 := n12_; clear n0_ n1_ n2_ n3_ n4_ n5_ n6_ n7_ n8_ n9_ n10_ n11_ n12_; clear hb hbox hg; have hnb56 := NB173_150.out; have hnc56 := NB150_173.out; have hnb57 := NB173_159.out; have hnc57 := NB159_173.out; have hnb58 := NB173_163.out; have hnc58 := NB163_173.out; have hcz59_0 : w55.cell? ⟨gb173, 0, none⟩ = some (.int .i64 0) := (blk_cell BK173.out 0).trans rfl; have hcz59_1 : w55.cell? ⟨gb173, 1, none⟩ = some (.int .i64 0) := (blk_cell BK173.out 1).trans rfl; have hcz59_2 : w55.cell? ⟨gb173, 2, none⟩ = some (.int .i64 0) := (blk_cell BK173.out 2).trans rfl; have hcz59_3 : w55.cell? ⟨gb173, 3, none⟩ = some (.int .i64 0) := (blk_cell BK173.out 3).trans rfl; have hfz59_0 := blk_frozen BK173.out 0; have hfz59_1 := blk_frozen BK173.out 1; have hfz59_2 := blk_frozen BK173.out 2; have hfz59_3 := blk_frozen BK173.out 3) | ((with_reducible refine gate_callee (f := 44) rfl ?_); refine goesL_ (some 82) rfl rfl Try.func44 (by kernel_rfl) rfl #[.int .u64 a1] rfl (by (try simp only [List.map_toArray, List.map_cons, List.map_nil]); first | done | rfl | (simp only [List.length_drop, List.length_take]; rfl)) ?_; (with_reducible refine (coterieref02_UnpackBox.calls a1 t174 t175 t176 t177 t178 _ A52.out).mono ?_); rintro e w60 ⟨rfl, hb⟩; refine ⟨_, rfl, ?_⟩; have n0_ := Aside0.mk (blk_below (g := gb150) (o := .cells #[.int .i64 a0_0, .int .i64 a0_1, .int .i64 a0_2, .int .i64 a0_3] 34 (0, 0)) (by (with_reducible repeat (first | refine blk_drewN ?_ _ | refine blk_drew ?_ | refine blk_alloc ?_ _)); refine blk_far ?_ NB150_173.out _; (with_reducible repeat (first | refine blk_drewN ?_ _ | refine blk_drew ?_ | refine blk_alloc ?_ _)); refine blk_far ?_ NB150_173.out _; (with_reducible repeat (first | refine blk_drewN ?_ _ | refine blk_drew ?_ | refine blk_alloc ?_ _)); refine blk_far ?_ NB150_173.out _; (with_reducible repeat (first | refine blk_drewN ?_ _ | refine blk_drew ?_ | refine blk_alloc ?_ _)); refine blk_far ?_ NB150_173.out _; (with_reducible repeat (first | refine blk_drewN ?_ _ | refine blk_drew ?_ | refine blk_alloc ?_ _)); exact BK150.out) hb); have n1_ := Aside0.mk (blk_below (g := gb159) (o := .cells #[.int .i64 t156, .int .i64 t157] 23 (0, 0)) (by (with_reducible repeat (first | refine blk_drewN ?_ _ | refine blk_drew ?_ | refine blk_alloc ?_ _)); refine blk_far ?_ NB159_173.out _; (with_reducible repeat (first | refine blk_drewN ?_ _ | refine blk_drew ?_ | refine blk_alloc ?_ _)); refine blk_far ?_ NB159_173.out _; (with_reducible repeat (first | refine blk_drewN ?_ _ | refine blk_drew ?_ | refine blk_alloc ?_ _)); refine blk_far ?_ NB159_173.out _; (with_reducible repeat (first | refine blk_drewN ?_ _ | refine blk_drew ?_ | refine blk_alloc ?_ _)); refine blk_far ?_ NB159_173.out _; (with_reducible repeat (first | refine blk_drewN ?_ _ | refine blk_drew ?_ | refine blk_alloc ?_ _)); exact BK159.out) hb); have n2_ := Aside0.mk (blk_below (g := gb163) (o := .cells #[.int .i64 t160, .int .i64 t161] 23 (0, 0)) (by (with_reducible repeat (first | refine blk_drewN ?_ _ | refine blk_drew ?_ | refine blk_alloc ?_ _)); refine blk_far ?_ NB163_173.out _; (with_reducible repeat (first | refine blk_drewN ?_ _ | refine blk_drew ?_ | refine blk_alloc ?_ _)); refine blk_far ?_ NB163_173.out _; (with_reducible repeat (first | refine blk_drewN ?_ _ | refine blk_drew ?_ | refine blk_alloc ?_ _)); refine blk_far ?_ NB163_173.out _; (with_reducible repeat (first | refine blk_drewN ?_ _ | refine blk_drew ?_ | refine blk_alloc ?_ _)); refine blk_far ?_ NB163_173.out _; (with_reducible repeat (first | refine blk_drewN ?_ _ | refine blk_drew ?_ | refine blk_alloc ?_ _)); exact BK163.out) hb); have n3_ := Aside0.mk (blk_below (g := gb173) (o := .cells #[.int .i64 t168, .int .i64 t169, .int .i64 t170, .int .i64 t171] 34 (0, 0)) (by (with_reducible repeat (first | refine blk_drewN ?_ _ | refine blk_drew ?_ | refine blk_alloc ?_ _)); refine blk_put (cs := #[.int .i64 t168, .int .i64 t169, .int .i64 t170, .int .i64 0]) ?_ 3 _ rfl; (with_reducible repeat (first | refine blk_drewN ?_ _ | refine blk_drew ?_ | refine blk_alloc ?_ _)); refine blk_put (cs := #[.int .i64 t168, .int .i64 t169, .int .i64 0, .int .i64 0]) ?_ 2 _ rfl; (with_reducible repeat (first | refine blk_drewN ?_ _ | refine blk_drew ?_ | refine blk_alloc ?_ _)); refine blk_put (cs := #[.int .i64 t168, .int .i64 0, .int .i64 0, .int .i64 0]) ?_ 1 _ rfl; (with_reducible repeat (first | refine blk_drewN ?_ _ | refine blk_drew ?_ | refine blk_alloc ?_ _)); refine blk_put (cs := #[.int .i64 0, .int .i64 0, .int .i64 0, .int .i64 0]) ?_ 0 _ rfl; (with_reducible repeat (first | refine blk_drewN ?_ _ | refine blk_drew ?_ | refine blk_alloc ?_ _)); exact BK173.out) hb); have n4_ := Aside0.mk (below_step (by repeat (first | (with_reducible first | exact HB.out | apply below_alloc | apply pw_below_drewN | apply below_drew1 | refine below_set ?_ GE150.out | refine below_set ?_ GE159.out | refine below_set ?_ GE163.out | refine below_set ?_ GE173.out) | exact HB.out)) hb); clear BK150; clear BK159; clear BK163; clear BK173; clear HB; have BK150 := n0_; have BK159 := n1_; have BK163 := n2_; have BK173 := n3_; have HB := n4_; clear n0_ n1_ n2_ n3_ n4_; (try clear hb); (try clear hb2); (try clear hk); (try clear hi)) | ((with_reducible refine gate_dst (N := 14) rfl ?_); refine box_event ?hg (N := 14) ?hd (cs := #[.int .i64 0, .int .i64 0, .int .i64 0, .int .i64 0]) (t := 34) ?hr ?_; (case hd => rfl); (case hg => rfl); (case hr => first | (go_simp; done) | (go_simp; rfl)); intro gb179 hg w61 hbox hb; have n0_ := Aside0.mk (blk_below (g := gb150) (o := .cells #[.int .i64 a0_0, .int .i64 a0_1, .int .i64 a0_2, .int .i64 a0_3] 34 (0, 0)) (by (with_reducible repeat (first | refine blk_drewN ?_ _ | refine blk_drew ?_ | refine blk_alloc ?_ _)); exact BK150.out) hb); have n1_ := Aside0.mk (blk_below (g := gb159) (o := .cells #[.int .i64 t156, .int .i64 t157] 23 (0, 0)) (by (with_reducible repeat (first | refine blk_drewN ?_ _ | refine blk_drew ?_ | refine blk_alloc ?_ _)); exact BK159.out) hb); have n2_ := Aside0.mk (blk_below (g := gb163) (o := .cells #[.int .i64 t160, .int .i64 t161] 23 (0, 0)) (by (with_reducible repeat (first | refine blk_drewN ?_ _ | refine blk_drew ?_ | refine blk_alloc ?_ _)); exact BK163.out) hb); have n3_ := Aside0.mk (blk_below (g := gb173) (o := .cells #[.int .i64 t168, .int .i64 t169, .int .i64 t170, .int .i64 t171] 34 (0, 0)) (by (with_reducible repeat (first | refine blk_drewN ?_ _ | refine blk_drew ?_ | refine blk_alloc ?_ _)); exact BK173.out) hb); have n4_ := Aside0.mk (below_step (by repeat (first | (with_reducible first | exact HB.out | apply below_alloc | apply pw_below_drewN | apply below_drew1 | refine below_set ?_ GE150.out | refine below_set ?_ GE159.out | refine below_set ?_ GE163.out | refine below_set ?_ GE173.out) | exact HB.out)) hb); have n5_ := Aside0.mk (hbox); have n6_ := Aside0.mk ((by rw [hg]; exact (below_size (by repeat (first | (with_reducible first | exact HB.out | apply below_alloc | apply pw_below_drewN | apply below_drew1 | refine below_set ?_ GE150.out | refine below_set ?_ GE159.out | refine below_set ?_ GE163.out | refine below_set ?_ GE173.out) | exact HB.out))) : w.heap.size ≤ gb179)); have n7_ := Aside0.mk ((by rw [hg]; exact (below_size (by repeat (first | (with_reducible first | exact HB.out | apply below_alloc | apply pw_below_drewN | apply below_drew1 | refine below_set ?_ GE150.out | refine below_set ?_ GE159.out | refine below_set ?_ GE163.out | refine below_set ?_ GE173.out) | exact HB.out))) : w.heap.size ≤ gb179)); have n8_ := Aside0.mk ((by rw [hg]; exact Nat.ne_of_lt (blk_lt (g := gb150) (o := .cells #[.int .i64 a0_0, .int .i64 a0_1, .int .i64 a0_2, .int .i64 a0_3] 34 (0, 0)) (by (with_reducible repeat (first | refine blk_drewN ?_ _ | refine blk_drew ?_ | refine blk_alloc ?_ _)); exact BK150.out)) : gb150 ≠ gb179)); have n9_ := Aside0.mk ((by rw [hg]; exact Nat.ne_of_gt (blk_lt (g := gb150) (o := .cells #[.int .i64 a0_0, .int .i64 a0_1, .int .i64 a0_2, .int .i64 a0_3] 34 (0, 0)) (by (with_reducible repeat (first | refine blk_drewN ?_ _ | refine blk_drew ?_ | refine blk_alloc ?_ _)); exact BK150.out)) : gb179 ≠ gb150)); have n10_ := Aside0.mk ((by rw [hg]; exact Nat.ne_of_lt (blk_lt (g := gb159) (o := .cells #[.int .i64 t156, .int .i64 t157] 23 (0, 0)) (by (with_reducible repeat (first | refine blk_drewN ?_ _ | refine blk_drew ?_ | refine blk_alloc ?_ _)); exact BK159.out)) : gb159 ≠ gb179)); have n11_ := Aside0.mk ((by rw [hg]; exact Nat.ne_of_gt (blk_lt (g := gb159) (o := .cells #[.int .i64 t156, .int .i64 t157] 23 (0, 0)) (by (with_reducible repeat (first | refine blk_drewN ?_ _ | refine blk_drew ?_ | refine blk_alloc ?_ _)); exact BK159.out)) : gb179 ≠ gb159)); have n12_ := Aside0.mk ((by rw [hg]; exact Nat.ne_of_lt (blk_lt (g := gb163) (o := .cells #[.int .i64 t160, .int .i64 t161] 23 (0, 0)) (by (with_reducible repeat (first | refine blk_drewN ?_ _ | refine blk_drew ?_ | refine blk_alloc ?_ _)); exact BK163.out)) : gb163 ≠ gb179)); have n13_ := Aside0.mk ((by rw [hg]; exact Nat.ne_of_gt (blk_lt (g := gb163) (o := .cells #[.int .i64 t160, .int .i64 t161] 23 (0, 0)) (by (with_reducible repeat (first | refine blk_drewN ?_ _ | refine blk_drew ?_ | refine blk_alloc ?_ _)); exact BK163.out)) : gb179 ≠ gb163)); have n14_ := Aside0.mk ((by rw [hg]; exact Nat.ne_of_lt (blk_lt (g := gb173) (o := .cells #[.int .i64 t168, .int .i64 t169, .int .i64 t170, .int .i64 t171] 34 (0, 0)) (by (with_reducible repeat (first | refine blk_drewN ?_ _ | refine blk_drew ?_ | refine blk_alloc ?_ _)); exact BK173.out)) : gb173 ≠ gb179)); have n15_ := Aside0.mk ((by rw [hg]; exact Nat.ne_of_gt (blk_lt (g := gb173) (o := .cells #[.int .i64 t168, .int .i64 t169, .int .i64 t170, .int .i64 t171] 34 (0, 0)) (by (with_reducible repeat (first | refine blk_drewN ?_ _ | refine blk_drew ?_ | refine blk_alloc ?_ _)); exact BK173.out)) : gb179 ≠ gb173)); clear BK150; clear BK159; clear BK163; clear BK173; clear HB; have BK150 := n0_; have BK159 := n1_; have BK163 := n2_; have BK173 := n3_; have HB := n4_; have BK179 := n5_; have GW179 := n6_; have GE179 := n7_; have NB150_179 := n8_; have NB179_150 := n9_; have NB159_179 := n10_; have NB179_159 := n11_; have NB163_179 := n12_; have NB179_163 := n13_; have NB173_179 := n14_; have NB179_173 := n15_; clear n0_ n1_ n2_ n3_ n4_ n5_ n6_ n7_ n8_ n9_ n10_ n11_ n12_ n13_ n14_ n15_; clear hb hbox hg; have hnb62 := NB179_150.out; have hnc62 := NB150_179.out; have hnb63 := NB179_159.out; have hnc63 := NB159_179.out; have hnb64 := NB179_163.out; have hnc64 := NB163_179.out; have hnb65 := NB179_173.out; have hnc65 := NB173_179.out; have hcz66_0 : w61.cell? ⟨gb179, 0, none⟩ = some (.int .i64 0) := (blk_cell BK179.out 0).trans rfl; have hcz66_1 : w61.cell? ⟨gb179, 1, none⟩ = some (.int .i64 0) := (blk_cell BK179.out 1).trans rfl; have hcz66_2 : w61.cell? ⟨gb179, 2, none⟩ = some (.int .i64 0) := (blk_cell BK179.out 2).trans rfl; have hcz66_3 : w61.cell? ⟨gb179, 3, none⟩ = some (.int .i64 0) := (blk_cell BK179.out 3).trans rfl; have hfz66_0 := blk_frozen BK179.out 0; have hfz66_1 := blk_frozen BK179.out 1; have hfz66_2 := blk_frozen BK179.out 2; have hfz66_3 := blk_frozen BK179.out 3; have hcz67_0 : w61.cell? ⟨gb173, 0, none⟩ = some (.int .i64 t168) := (blk_cell BK173.out 0).trans rfl; have hcz67_1 : w61.cell? ⟨gb173, 1, none⟩ = some (.int .i64 t169) := (blk_cell BK173.out 1).trans rfl; have hcz67_2 : w61.cell? ⟨gb173, 2, none⟩ = some (.int .i64 t170) := (blk_cell BK173.out 2).trans rfl; have hcz67_3 : w61.cell? ⟨gb173, 3, none⟩ = some (.int .i64 t171) := (blk_cell BK173.out 3).trans rfl; have hfz67_0 := blk_frozen BK173.out 0; have hfz67_1 := blk_frozen BK173.out 1; have hfz67_2 := blk_frozen BK173.out 2; have hfz67_3 := blk_frozen BK173.out 3))
                        go_ret
                        exact ⟨by first | rfl | (simp [errW_none, errW_some] <;> rfl) | (simp [*, errW_none, errW_some] <;> rfl), by repeat (first | (with_reducible first | exact HB.out | apply below_alloc | apply pw_below_drewN | apply below_drew1 | refine below_set ?_ GE150.out | refine below_set ?_ GE159.out | refine below_set ?_ GE163.out | refine below_set ?_ GE173.out | refine below_set ?_ GE179.out) | exact HB.out)⟩
                      · rw [if_neg c53] at H
                        have c53b0 : ((t168 == t174 && (t169 == t175)) && ((t170 == t176 && (t171 == t177)))) = false := by simpa using c53
                        clear c53
                        obtain rfl := Option.some.inj H
                        go_wp2_with (first | ((with_reducible refine gate_callee (f := 43) rfl ?_); refine goesL_ (some 77) rfl rfl Try.func43 (by kernel_rfl) rfl #[.int .u64 a1] rfl (by (try simp only [List.map_toArray, List.map_cons, List.map_nil]); first | done | rfl | (simp only [List.length_drop, List.length_take]; rfl)) ?_; (with_reducible refine (key_UnpackBox.calls a1 t168 t169 t170 t171 t172 _ A51.out).mono ?_); rintro e w68 ⟨rfl, hb⟩; refine ⟨_, rfl, ?_⟩; have n0_ := Aside0.mk (blk_below (g := gb150) (o := .cells #[.int .i64 a0_0, .int .i64 a0_1, .int .i64 a0_2, .int .i64 a0_3] 34 (0, 0)) (by (with_reducible repeat (first | refine blk_drewN ?_ _ | refine blk_drew ?_ | refine blk_alloc ?_ _)); exact BK150.out) hb); have n1_ := Aside0.mk (blk_below (g := gb159) (o := .cells #[.int .i64 t156, .int .i64 t157] 23 (0, 0)) (by (with_reducible repeat (first | refine blk_drewN ?_ _ | refine blk_drew ?_ | refine blk_alloc ?_ _)); exact BK159.out) hb); have n2_ := Aside0.mk (blk_below (g := gb163) (o := .cells #[.int .i64 t160, .int .i64 t161] 23 (0, 0)) (by (with_reducible repeat (first | refine blk_drewN ?_ _ | refine blk_drew ?_ | refine blk_alloc ?_ _)); exact BK163.out) hb); have n3_ := Aside0.mk (below_step (by repeat (first | (with_reducible first | exact HB.out | apply below_alloc | apply pw_below_drewN | apply below_drew1 | refine below_set ?_ GE150.out | refine below_set ?_ GE159.out | refine below_set ?_ GE163.out) | exact HB.out)) hb); clear BK150; clear BK159; clear BK163; clear HB; have BK150 := n0_; have BK159 := n1_; have BK163 := n2_; have HB := n3_; clear n0_ n1_ n2_ n3_; (try clear hb); (try clear hb2); (try clear hk); (try clear hi)) | ((with_reducible refine gate_dst (N := 13) rfl ?_); refine box_event ?hg (N := 13) ?hd (cs := #[.int .i64 0, .int .i64 0, .int .i64 0, .int .i64 0]) (t := 34) ?hr ?_; (case hd => rfl); (case hg => rfl); (case hr => first | (go_simp; done) | (go_simp; rfl)); intro gb173 hg w69 hbox hb; have n0_ := Aside0.mk (blk_below (g := gb150) (o := .cells #[.int .i64 a0_0, .int .i64 a0_1, .int .i64 a0_2, .int .i64 a0_3] 34 (0, 0)) (by (with_reducible repeat (first | refine blk_drewN ?_ _ | refine blk_drew ?_ | refine blk_alloc ?_ _)); exact BK150.out) hb); have n1_ := Aside0.mk (blk_below (g := gb159) (o := .cells #[.int .i64 t156, .int .i64 t157] 23 (0, 0)) (by (with_reducible repeat (first | refine blk_drewN ?_ _ | refine blk_drew ?_ | refine blk_alloc ?_ _)); exact BK159.out) hb); have n2_ := Aside0.mk (blk_below (g := gb163) (o := .cells #[.int .i64 t160, .int .i64 t161] 23 (0, 0)) (by (with_reducible repeat (first | refine blk_drewN ?_ _ | refine blk_drew ?_ | refine blk_alloc ?_ _)); exact BK163.out) hb); have n3_ := Aside0.mk (below_step (by repeat (first | (with_reducible first | exact HB.out | apply below_alloc | apply pw_below_drewN | apply below_drew1 | refine below_set ?_ GE150.out | refine below_set ?_ GE159.out | refine below_set ?_ GE163.out) | exact HB.out)) hb); have n4_ := Aside0.mk (hbox); have n5_ := Aside0.mk ((by rw [hg]; exact (below_size (by repeat (first | (with_reducible first | exact HB.out | apply below_alloc | apply pw_below_drewN | apply below_drew1 | refine below_set ?_ GE150.out | refine below_set ?_ GE159.out | refine below_set ?_ GE163.out) | exact HB.out))) : w.heap.size ≤ gb173)); have n6_ := Aside0.mk ((by rw [hg]; exact (below_size (by repeat (first | (with_reducible first | exact HB.out | apply below_alloc | apply pw_below_drewN | apply below_drew1 | refine below_set ?_ GE150.out | refine below_set ?_ GE159.out | refine below_set ?_ GE163.out) | exact HB.out))) : w.heap.size ≤ gb173)); have n7_ := Aside0.mk ((by rw [hg]; exact Nat.ne_of_lt (blk_lt (g := gb150) (o := .cells #[.int .i64 a0_0, .int .i64 a0_1, .int .i64 a0_2, .int .i64 a0_3] 34 (0, 0)) (by (with_reducible repeat (first | refine blk_drewN ?_ _ | refine blk_drew ?_ | refine blk_alloc ?_ _)); exact BK150.out)) : gb150 ≠ gb173)); have n8_ := Aside0.mk ((by rw [hg]; exact Nat.ne_of_gt (blk_lt (g := gb150) (o := .cells #[.int .i64 a0_0, .int .i64 a0_1, .int .i64 a0_2, .int .i64 a0_3] 34 (0, 0)) (by (with_reducible repeat (first | refine blk_drewN ?_ _ | refine blk_drew ?_ | refine blk_alloc ?_ _)); exact BK150.out)) : gb173 ≠ gb150)); have n9_ := Aside0.mk ((by rw [hg]; exact Nat.ne_of_lt (blk_lt (g := gb159) (o := .cells #[.int .i64 t156, .int .i64 t157] 23 (0, 0)) (by (with_reducible repeat (first | refine blk_drewN ?_ _ | refine blk_drew ?_ | refine blk_alloc ?_ _)); exact BK159.out)) : gb159 ≠ gb173)); have n10_ := Aside0.mk ((by rw [hg]; exact Nat.ne_of_gt (blk_lt (g := gb159) (o := .cells #[.int .i64 t156, .int .i64 t157] 23 (0, 0)) (by (with_reducible repeat (first | refine blk_drewN ?_ _ | refine blk_drew ?_ | refine blk_alloc ?_ _)); exact BK159.out)) : gb173 ≠ gb159)); have n11_ := Aside0.mk ((by rw [hg]; exact Nat.ne_of_lt (blk_lt (g := gb163) (o := .cells #[.int .i64 t160, .int .i64 t161] 23 (0, 0)) (by (with_reducible repeat (first | refine blk_drewN ?_ _ | refine blk_drew ?_ | refine blk_alloc ?_ _)); exact BK163.out)) : gb163 ≠ gb173)); have n12_ := Aside0.mk ((by rw [hg]; exact Nat.ne_of_gt (blk_lt (g := gb163) (o := .cells #[.int .i64 t160, .int .i64 t161] 23 (0, 0)) (by (with_reducible repeat (first | refine blk_drewN ?_ _ | refine blk_drew ?_ | refine blk_alloc ?_ _)); exact BK163.out)) : gb173 ≠ gb163)); clear BK150; clear BK159; clear BK163; clear HB; have BK150 := n0_; have BK159 := n1_; have BK163 := n2_; have HB := n3_; have BK173 := n4_; have GW173 := n5_; have GE173 := n6_; have NB150_173 := n7_; have NB173_150 := n8_; have NB159_173 := n9_; have NB173_159 := n10_; have NB163_173 := n11_; have NB173_163 := n12_; clear n0_ n1_ n2_ n3_ n4_ n5_ n6_ n7_ n8_ n9_ n10_ n11_ n12_; clear hb hbox hg; have hnb70 := NB173_150.out; have hnc70 := NB150_173.out; have hnb71 := NB173_159.out; have hnc71 := NB159_173.out; have hnb72 := NB173_163.out; have hnc72 := NB163_173.out; have hcz73_0 : w69.cell? ⟨gb173, 0, none⟩ = some (.int .i64 0) := (blk_cell BK173.out 0).trans rfl; have hcz73_1 : w69.cell? ⟨gb173, 1, none⟩ = some (.int .i64 0) := (blk_cell BK173.out 1).trans rfl; have hcz73_2 : w69.cell? ⟨gb173, 2, none⟩ = some (.int .i64 0) := (blk_cell BK173.out 2).trans rfl; have hcz73_3 : w69.cell? ⟨gb173, 3, none⟩ = some (.int .i64 0) := (blk_cell BK173.out 3).trans rfl; have hfz73_0 := blk_frozen BK173.out 0; have hfz73_1 := blk_frozen BK173.out 1; have hfz73_2 := blk_frozen BK173.out 2; have hfz73_3 := blk_frozen BK173.out 3) | ((with_reducible refine gate_callee (f := 44) rfl ?_); refine goesL_ (some 82) rfl rfl Try.func44 (by kernel_rfl) rfl #[.int .u64 a1] rfl (by (try simp only [List.map_toArray, List.map_cons, List.map_nil]); first | done | rfl | (simp only [List.length_drop, List.length_take]; rfl)) ?_; (with_reducible refine (coterieref02_UnpackBox.calls a1 t174 t175 t176 t177 t178 _ A52.out).mono ?_); rintro e w74 ⟨rfl, hb⟩; refine ⟨_, rfl, ?_⟩; have n0_ := Aside0.mk (blk_below (g := gb150) (o := .cells #[.int .i64 a0_0, .int .i64 a0_1, .int .i64 a0_2, .int .i64 a0_3] 34 (0, 0)) (by (with_reducible repeat (first | refine blk_drewN ?_ _ | refine blk_drew ?_ | refine blk_alloc ?_ _)); refine blk_far ?_ NB150_173.out _; (with_reducible repeat (first | refine blk_drewN ?_ _ | refine blk_drew ?_ | refine blk_alloc ?_ _)); refine blk_far ?_ NB150_173.out _; (with_reducible repeat (first | refine blk_drewN ?_ _ | refine blk_drew ?_ | refine blk_alloc ?_ _)); refine blk_far ?_ NB150_173.out _; (with_reducible repeat (first | refine blk_drewN ?_ _ | refine blk_drew ?_ | refine blk_alloc ?_ _)); refine blk_far ?_ NB150_173.out _; (with_reducible repeat (first | refine blk_drewN ?_ _ | refine blk_drew ?_ | refine blk_alloc ?_ _)); exact BK150.out) hb); have n1_ := Aside0.mk (blk_below (g := gb159) (o := .cells #[.int .i64 t156, .int .i64 t157] 23 (0, 0)) (by (with_reducible repeat (first | refine blk_drewN ?_ _ | refine blk_drew ?_ | refine blk_alloc ?_ _)); refine blk_far ?_ NB159_173.out _; (with_reducible repeat (first | refine blk_drewN ?_ _ | refine blk_drew ?_ | refine blk_alloc ?_ _)); refine blk_far ?_ NB159_173.out _; (with_reducible repeat (first | refine blk_drewN ?_ _ | refine blk_drew ?_ | refine blk_alloc ?_ _)); refine blk_far ?_ NB159_173.out _; (with_reducible repeat (first | refine blk_drewN ?_ _ | refine blk_drew ?_ | refine blk_alloc ?_ _)); refine blk_far ?_ NB159_173.out _; (with_reducible repeat (first | refine blk_drewN ?_ _ | refine blk_drew ?_ | refine blk_alloc ?_ _)); exact BK159.out) hb); have n2_ := Aside0.mk (blk_below (g := gb163) (o := .cells #[.int .i64 t160, .int .i64 t161] 23 (0, 0)) (by (with_reducible repeat (first | refine blk_drewN ?_ _ | refine blk_drew ?_ | refine blk_alloc ?_ _)); refine blk_far ?_ NB163_173.out _; (with_reducible repeat (first | refine blk_drewN ?_ _ | refine blk_drew ?_ | refine blk_alloc ?_ _)); refine blk_far ?_ NB163_173.out _; (with_reducible repeat (first | refine blk_drewN ?_ _ | refine blk_drew ?_ | refine blk_alloc ?_ _)); refine blk_far ?_ NB163_173.out _; (with_reducible repeat (first | refine blk_drewN ?_ _ | refine blk_drew ?_ | refine blk_alloc ?_ _)); refine blk_far ?_ NB163_173.out _; (with_reducible repeat (first | refine blk_drewN ?_ _ | refine blk_drew ?_ | refine blk_alloc ?_ _)); exact BK163.out) hb); have n3_ := Aside0.mk (blk_below (g := gb173) (o := .cells #[.int .i64 t168, .int .i64 t169, .int .i64 t170, .int .i64 t171] 34 (0, 0)) (by (with_reducible repeat (first | refine blk_drewN ?_ _ | refine blk_drew ?_ | refine blk_alloc ?_ _)); refine blk_put (cs := #[.int .i64 t168, .int .i64 t169, .int .i64 t170, .int .i64 0]) ?_ 3 _ rfl; (with_reducible repeat (first | refine blk_drewN ?_ _ | refine blk_drew ?_ | refine blk_alloc ?_ _)); refine blk_put (cs := #[.int .i64 t168, .int .i64 t169, .int .i64 0, .int .i64 0]) ?_ 2 _ rfl; (with_reducible repeat (first | refine blk_drewN ?_ _ | refine blk_drew ?_ | refine blk_alloc ?_ _)); refine blk_put (cs := #[.int .i64 t168, .int .i64 0, .int .i64 0, .int .i64 0]) ?_ 1 _ rfl; (with_reducible repeat (first | refine blk_drewN ?_ _ | refine blk_drew ?_ | refine blk_alloc ?_ _)); refine blk_put (cs := #[.int .i64 0, .int .i64 0, .int .i64 0, .int .i64 0]) ?_ 0 _ rfl; (with_reducible repeat (first | refine blk_drewN ?_ _ | refine blk_drew ?_ | refine blk_alloc ?_ _)); exact BK173.out) hb); have n4_ := Aside0.mk (below_step (by repeat (first | (with_reducible first | exact HB.out | apply below_alloc | apply pw_below_drewN | apply below_drew1 | refine below_set ?_ GE150.out | refine below_set ?_ GE159.out | refine below_set ?_ GE163.out | refine below_set ?_ GE173.out) | exact HB.out)) hb); clear BK150; clear BK159; clear BK163; clear BK173; clear HB; have BK150 := n0_; have BK159 := n1_; have BK163 := n2_; have BK173 := n3_; have HB := n4_; clear n0_ n1_ n2_ n3_ n4_; (try clear hb); (try clear hb2); (try clear hk); (try clear hi)) | ((with_reducible refine gate_dst (N := 14) rfl ?_); refine box_event ?hg (N := 14) ?hd (cs := #[.int .i64 0, .int .i64 0, .int .i64 0, .int .i64 0]) (t := 34) ?hr ?_; (case hd => rfl); (case hg => rfl); (case hr => first | (go_simp; done) | (go_simp; rfl)); intro gb179 hg w75 hbox hb; have n0_ := Aside0.mk (blk_below (g := gb150) (o := .cells #[.int .i64 a0_0, .int .i64 a0_1, .int .i64 a0_2, .int .i64 a0_3] 34 (0, 0)) (by (with_reducible repeat (first | refine blk_drewN ?_ _ | refine blk_drew ?_ | refine blk_alloc ?_ _)); exact BK150.out) hb); have n1_ := Aside0.mk (blk_below (g := gb159) (o := .cells #[.int .i64 t156, .int .i64 t157] 23 (0, 0)) (by (with_reducible repeat (first | refine blk_drewN ?_ _ | refine blk_drew ?_ | refine blk_alloc ?_ _)); exact BK159.out) hb); have n2_ := Aside0.mk (blk_below (g := gb163) (o := .cells #[.int .i64 t160, .int .i64 t161] 23 (0, 0)) (by (with_reducible repeat (first | refine blk_drewN ?_ _ | refine blk_drew ?_ | refine blk_alloc ?_ _)); exact BK163.out) hb); have n3_ := Aside0.mk (blk_below (g := gb173) (o := .cells #[.int .i64 t168, .int .i64 t169, .int .i64 t170, .int .i64 t171] 34 (0, 0)) (by (with_reducible repeat (first | refine blk_drewN ?_ _ | refine blk_drew ?_ | refine blk_alloc ?_ _)); exact BK173.out) hb); have n4_ := Aside0.mk (below_step (by repeat (first | (with_reducible first | exact HB.out | apply below_alloc | apply pw_below_drewN | apply below_drew1 | refine below_set ?_ GE150.out | refine below_set ?_ GE159.out | refine below_set ?_ GE163.out | refine below_set ?_ GE173.out) | exact HB.out)) hb); have n5_ := Aside0.mk (hbox); have n6_ := Aside0.mk ((by rw [hg]; exact (below_size (by repeat (first | (with_reducible first | exact HB.out | apply below_alloc | apply pw_below_drewN | apply below_drew1 | refine below_set ?_ GE150.out | refine below_set ?_ GE159.out | refine below_set ?_ GE163.out | refine below_set ?_ GE173.out) | exact HB.out))) : w.heap.size ≤ gb179)); have n7_ := Aside0.mk ((by rw [hg]; exact (below_size (by repeat (first | (with_reducible first | exact HB.out | apply below_alloc | apply pw_below_drewN | apply below_drew1 | refine below_set ?_ GE150.out | refine below_set ?_ GE159.out | refine below_set ?_ GE163.out | refine below_set ?_ GE173.out) | exact HB.out))) : w.heap.size ≤ gb179)); have n8_ := Aside0.mk ((by rw [hg]; exact Nat.ne_of_lt (blk_lt (g := gb150) (o := .cells #[.int .i64 a0_0, .int .i64 a0_1, .int .i64 a0_2, .int .i64 a0_3] 34 (0, 0)) (by (with_reducible repeat (first | refine blk_drewN ?_ _ | refine blk_drew ?_ | refine blk_alloc ?_ _)); exact BK150.out)) : gb150 ≠ gb179)); have n9_ := Aside0.mk ((by rw [hg]; exact Nat.ne_of_gt (blk_lt (g := gb150) (o := .cells #[.int .i64 a0_0, .int .i64 a0_1, .int .i64 a0_2, .int .i64 a0_3] 34 (0, 0)) (by (with_reducible repeat (first | refine blk_drewN ?_ _ | refine blk_drew ?_ | refine blk_alloc ?_ _)); exact BK150.out)) : gb179 ≠ gb150)); have n10_ := Aside0.mk ((by rw [hg]; exact Nat.ne_of_lt (blk_lt (g := gb159) (o := .cells #[.int .i64 t156, .int .i64 t157] 23 (0, 0)) (by (with_reducible repeat (first | refine blk_drewN ?_ _ | refine blk_drew ?_ | refine blk_alloc ?_ _)); exact BK159.out)) : gb159 ≠ gb179)); have n11_ := Aside0.mk ((by rw [hg]; exact Nat.ne_of_gt (blk_lt (g := gb159) (o := .cells #[.int .i64 t156, .int .i64 t157] 23 (0, 0)) (by (with_reducible repeat (first | refine blk_drewN ?_ _ | refine blk_drew ?_ | refine blk_alloc ?_ _)); exact BK159.out)) : gb179 ≠ gb159)); have n12_ := Aside0.mk ((by rw [hg]; exact Nat.ne_of_lt (blk_lt (g := gb163) (o := .cells #[.int .i64 t160, .int .i64 t161] 23 (0, 0)) (by (with_reducible repeat (first | refine blk_drewN ?_ _ | refine blk_drew ?_ | refine blk_alloc ?_ _)); exact BK163.out)) : gb163 ≠ gb179)); have n13_ := Aside0.mk ((by rw [hg]; exact Nat.ne_of_gt (blk_lt (g := gb163) (o := .cells #[.int .i64 t160, .int .i64 t161] 23 (0, 0)) (by (with_reducible repeat (first | refine blk_drewN ?_ _ | refine blk_drew ?_ | refine blk_alloc ?_ _)); exact BK163.out)) : gb179 ≠ gb163)); have n14_ := Aside0.mk ((by rw [hg]; exact Nat.ne_of_lt (blk_lt (g := gb173) (o := .cells #[.int .i64 t168, .int .i64 t169, .int .i64 t170, .int .i64 t171] 34 (0, 0)) (by (with_reducible repeat (first | refine blk_drewN ?_ _ | refine blk_drew ?_ | refine blk_alloc ?_ _)); exact BK173.out)) : gb173 ≠ gb179)); have n15_ := Aside0.mk ((by rw [hg]; exact Nat.ne_of_gt (blk_lt (g := gb173) (o := .cells #[.int .i64 t168, .int .i64 t169, .int .i64 t170, .int .i64 t171] 34 (0, 0)) (by (with_reducible repeat (first | refine blk_drewN ?_ _ | refine blk_drew ?_ | refine blk_alloc ?_ _)); exact BK173.out)) : gb179 ≠ gb173)); clear BK150; clear BK159; clear BK163; clear BK173; clear HB; have BK150 := n0_; have BK159 := n1_; have BK163 := n2_; have BK173 := n3_; have HB := n4_; have BK179 := n5_; have GW179 := n6_; have GE179 := n7_; have NB150_179 := n8_; have NB179_150 := n9_; have NB159_179 := n10_; have NB179_159 := n11_; have NB163_179 := n12_; have NB179_163 := n13_; have NB173_179 := n14_; have NB179_173 := n15_; clear n0_ n1_ n2_ n3_ n4_ n5_ n6_ n7_ n8_ n9_ n10_ n11_ n12_ n13_ n14_ n15_; clear hb hbox hg; have hnb76 := NB179_150.out; have hnc76 := NB150_179.out; have hnb77 := NB179_159.out; have hnc77 := NB159_179.out; have hnb78 := NB179_163.out; have hnc78 := NB163_179.out; have hnb79 := NB179_173.out; have hnc79 := NB173_179.out; have hcz80_0 : w75.cell? ⟨gb179, 0, none⟩ = some (.int .i64 0) := (blk_cell BK179.out 0).trans rfl; have hcz80_1 : w75.cell? ⟨gb179, 1, none⟩ = some (.int .i64 0) := (blk_cell BK179.out 1).trans rfl; have hcz80_2 : w75.cell? ⟨gb179, 2, none⟩ = some (.int .i64 0) := (blk_cell BK179.out 2).trans rfl; have hcz80_3 : w75.cell? ⟨gb179, 3, none⟩ = some (.int .i64 0) := (blk_cell BK179.out 3).trans rfl; have hfz80_0 := blk_frozen BK179.out 0; have hfz80_1 := blk_frozen BK179.out 1; have hfz80_2 := blk_frozen BK179.out 2; have hfz80_3 := blk_frozen BK179.out 3; have hcz81_0 : w75.cell? ⟨gb173, 0, none⟩ = some (.int .i64 t168) := (blk_cell BK173.out 0).trans rfl; have hcz81_1 : w75.cell? ⟨gb173, 1, none⟩ = some (.int .i64 t169) := (blk_cell BK173.out 1).trans rfl; have hcz81_2 : w75.cell? ⟨gb173, 2, none⟩ = some (.int .i64 t170) := (blk_cell BK173.out 2).trans rfl; have hcz81_3 : w75.cell? ⟨gb173, 3, none⟩ = some (.int .i64 t171) := (blk_cell BK173.out 3).trans rfl; have hfz81_0 := blk_frozen BK173.out 0; have hfz81_1 := blk_frozen BK173.out 1; have hfz81_2 := blk_frozen BK173.out 2; have hfz81_3 := blk_frozen BK173.out 3))
                        go_ret
                        exact ⟨by first | rfl | (simp [errW_none, errW_some] <;> rfl) | (simp [*, errW_none, errW_some] <;> rfl), by repeat (first | (with_reducible first | exact HB.out | apply below_alloc | apply pw_below_drewN | apply below_drew1 | refine below_set ?_ GE150.out | refine below_set ?_ GE159.out | refine below_set ?_ GE163.out | refine below_set ?_ GE173.out | refine below_set ?_ GE179.out) | exact HB.out)⟩
  · replace c4 := Bool.eq_false_iff.mpr c4
    subst c4
    have H1 : (some false) = some r := by rw [if_neg (show ¬ (false = true) by decide)] at H; exact H
    clear H
    have H := H1
    clear H1
    obtain rfl := Option.some.inj H
    go_enter Try.func9, Try.ntmps9
    go_wp2_with (first | ((with_reducible refine gate_dst (N := 2) rfl ?_); refine box_event ?hg (N := 2) ?hd (cs := #[.int .i64 a0_0, .int .i64 a0_1, .int .i64 a0_2, .int .i64 a0_3]) (t := 34) ?hr ?_; (case hd => rfl); (case hg => rfl); (case hr => first | (go_simp; done) | (go_simp; rfl)); intro gb150 hg w82 hbox hb; have n0_ := Aside0.mk (below_step (by repeat (first | (with_reducible first | exact HB.out | apply below_alloc | apply pw_below_drewN | apply below_drew1) | exact HB.out)) hb); have n1_ := Aside0.mk (hbox); have n2_ := Aside0.mk ((by rw [hg]; exact (below_size (by repeat (first | (with_reducible first | exact HB.out | apply below_alloc | apply pw_below_drewN | apply below_drew1) | exact HB.out))) : w.heap.size ≤ gb150)); have n3_ := Aside0.mk ((by rw [hg]; exact (below_size (by repeat (first | (with_reducible first | exact HB.out | apply below_alloc | apply pw_below_drewN | apply below_drew1) | exact HB.out))) : w.heap.size ≤ gb150)); clear HB; have HB := n0_; have BK150 := n1_; have GW150 := n2_; have GE150 := n3_; clear n0_ n1_ n2_ n3_; clear hb hbox hg) | ((with_reducible refine gate_callee (f := 15) rfl ?_); refine goesL_ (some 15) rfl rfl Try.func15 (by kernel_rfl) rfl #[] rfl (by (try simp only [List.map_toArray, List.map_cons, List.map_nil]); first | done | rfl | (simp only [List.length_drop, List.length_take]; rfl)) ?_; (with_reducible refine (coterielaw02_lives.calls  false _ A3.out).mono ?_); rintro e w83 ⟨rfl, hb⟩; refine ⟨_, rfl, ?_⟩; have n0_ := Aside0.mk (blk_below (g := gb150) (o := .cells #[.int .i64 a0_0, .int .i64 a0_1, .int .i64 a0_2, .int .i64 a0_3] 34 (0, 0)) (by (with_reducible repeat (first | refine blk_drewN ?_ _ | refine blk_drew ?_ | refine blk_alloc ?_ _)); exact BK150.out) hb); have n1_ := Aside0.mk (below_step (by repeat (first | (with_reducible first | exact HB.out | apply below_alloc | apply pw_below_drewN | apply below_drew1 | refine below_set ?_ GE150.out) | exact HB.out)) hb); clear BK150; clear HB; have BK150 := n0_; have HB := n1_; clear n0_ n1_; (try clear hb); (try clear hb2); (try clear hk); (try clear hi)))
    go_ret
    exact ⟨by first | rfl | (simp [errW_none, errW_some] <;> rfl) | (simp [*, errW_none, errW_some] <;> rfl), by repeat (first | (with_reducible first | exact HB.out | apply below_alloc | apply pw_below_drewN | apply below_drew1 | refine below_set ?_ GE150.out) | exact HB.out)⟩

end Go.Proofs.Ytbkobjdeijdpgaa.PKeyPacks
