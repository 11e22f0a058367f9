/- know: its least keys, in order (through maps.Keys and slices.Sorted, by the shelf's contracts). -/
import Derived.Test.YtedemhmlaodblaaKu
import Derived.Test.YtedemhmlaodblaaKi
namespace Go.Proofs.Ytedemhmlaodblaa
open Go Go.SX Go.RowKit Go.Shelf Go.Maps
set_option maxRecDepth 100000
set_option linter.unusedSimpArgs false
set_option linter.unusedVariables false
set_option maxHeartbeats 0
set_option synthInstance.maxSize 100000
set_option synthInstance.maxHeartbeats 400000
theorem sortsI (m : Nat) : AnyZI.SortsIn Try.prog sortedI_ren Fence.wide m :=
  ⟨fun blk off cap ss W hH hblk hsz => callsIn_wide.2 (AnyM.slices_Sort_int sortI blk off cap ss W hH hblk hsz), fun p cap W => callsIn_wide.2 (AnyM.slices_Sort_int_none sortI p cap W)⟩
abbrev seqV (B : Nat) : Value := .func (.func 62) #[] #[.pointer (some ⟨B, 0, none⟩)]
theorem keysF_s (b : Nat) : SX.Spec Try.prog 42 #[.map (some b)] [] [] fun v Γ => ∃ B, v = seqV B ∧ Γ = [[(B, .cells #[.map (some b)] 67 (0, 0))]] := fun w i => by
  refine ((callsIn_wide (n := 5)).1 (AnyZI.keys_in keysI Fence.wide 5 trivial rfl (some b) w)).mono ?_
  rintro e w' ⟨rfl, rfl⟩
  exact ⟨_, _, rfl, ⟨_, rfl, rfl⟩, i.new _⟩
theorem keyI {x : Int} (h : inI64 x) : keyOf Try.prog 3 (.int .i64 x) = some (.int .i64 x) := by
  have hk : Try.prog.underlying 3 = some (.int .i64) := (inferInstance : Und Try.prog 3 (.int .i64)).out
  have hw : (Lit.int .i64 x).wf = true := by
    unfold inI64 at h
    simp [Lit.wf, IntKind.min, IntKind.max, IntKind.bits, IntKind.signed]; omega
  simp [keyOf, hk, mapKey, hw]
theorem sortedF_s {b B : Nat} {m : List (Int × Int)} {s : Hp} (h : OwnM b Int Int ik ik m s) (hk : ∀ p ∈ m, inI64 p.1) (hl : m.length * 8 ≤ 140737488355328) :
    SX.Spec Try.prog 41 #[seqV B] [[(B, .cells #[.map (some b)] 67 (0, 0))], s] [] fun v Γ => ∃ l s', OwnS v 3 Int 1 ic l s' ∧ Γ = [s'] ∧ ∃ ss : List Int, ss.Perm (m.map (·.1)) ∧ l = ss.mergeSort (fun x y => decide (x ≤ y)) := fun w i => by
  obtain ⟨es, clk, rfl, h1, h2, h3, h4, h5⟩ := h.out
  have hb : w.heap[b]? = some (.map es clk) := i.ro (b, .map es clk) (by simp)
  have hB : w.heap[B]? = some (.cells #[.map (some b)] 67 (0, 0)) := i.ro (B, _) (by simp)
  have hBl : B < w.heap.size := (Array.getElem?_eq_some_iff.1 hB).1
  have hm : w.cell? ⟨B, 0, none⟩ = some (.map (some b)) := by rw [cell_of hB]; rfl
  have hsz : es.size = m.length := by have := congrArg List.length h1; simpa using this
  let R : Value → Option (DataW Unit × List MemPlace) := fun _ => some (.nil, [])
  have hrd : ∀ x ∈ es.toList, ∃ y, x.key = .int .i64 y ∧ WideElems.rd Try.prog 3 R x = some (.int .i64 y, .nil) := fun x hx => by
    have : x.key ∈ es.toList.map (·.key) := List.mem_map.2 ⟨x, hx, rfl⟩
    rw [h1] at this
    obtain ⟨p, hp, e⟩ := List.mem_map.1 this
    refine ⟨p.1, e.symm, ?_⟩
    simp [WideElems.rd, ← e, keyI (hk p hp), R]
  have hfit : WideElems.Fit Try.prog 3 R es clk := by
    refine ⟨by rw [hsz]; unfold maxLen; omega, ⟨h5, h4.imp (fun h => Nat.ne_of_lt h), ?_⟩, fun x hx => ?_⟩
    · rw [h1]
      refine List.pairwise_map.2 ((List.pairwise_map.1 h3).imp fun {a c} hac e => hac ?_)
      simpa using e
    · obtain ⟨y, _, hy⟩ := hrd x hx; exact ⟨_, hy⟩
  have hown : w.ownsMap Try.prog 3 R b es.size (.map ((es.toList.map (WideElems.rg Try.prog 3 R)).foldr DataW.insert [])) := ⟨es, clk, hb, hfit, Nat.le_refl _, rfl⟩
  have hkeys : (intKeys (.map ((es.toList.map (WideElems.rg Try.prog 3 R)).foldr DataW.insert [])) : List Int).Perm (m.map (·.1)) := by
    refine ((WideShapes.sorted_perm _).map fun p => _root_.Go.intOf p.1).trans ?_
    have : ((es.toList.map (WideElems.rg Try.prog 3 R)).map fun p => _root_.Go.intOf p.1).map (Value.int .i64) = (m.map (·.1)).map (Value.int .i64) := by
      rw [List.map_map, List.map_map, List.map_map]
      have e : (m.map fun p => ik p.1) = es.toList.map (·.key) := h1.symm
      show _ = m.map (fun p => ik p.1)
      rw [e]
      refine List.map_congr_left fun x hx => ?_
      obtain ⟨y, e1, e2⟩ := hrd x hx
      simp [WideElems.rg, e2, _root_.Go.intOf, e1]
    have := (List.map_inj_right (fun a c e => by simpa using e)).1 this
    rw [this]
  have hsize : Maps.size (.map ((es.toList.map (WideElems.rg Try.prog 3 R)).foldr DataW.insert [])) = m.length := by
    rw [Maps.size_eq, (WideShapes.sorted_perm _).length_eq]; simp [hsz]
  generalize (DataW.map ((es.toList.map (WideElems.rg Try.prog 3 R)).foldr DataW.insert [])) = D0 at hown hkeys hsize
  have hseq : SeqGives Fence.wide 2 Try.prog 62 #[.pointer (some ⟨B, 0, none⟩)] encZ (fun ss => ss.Perm (intKeys D0)) (Maps.size D0) w :=
    AnyZI.keys_gives (ρ := keysI_ren) { keysI with } Fence.wide _ trivial rfl (by omega) B b es.size D0 w hBl hm hown
  have cS := AnyZI.sorted_in sortedI Fence.wide 5 trivial trivial trivial trivial rfl (by omega) (sortsI _) (enters_of Try.func61 (by kernel_rfl) rfl) 62 #[.pointer (some ⟨B, 0, none⟩)] trivial (enters_of Try.func62 (by kernel_rfl) rfl) _ _ (by rw [hsize]; unfold maxLen; omega) (by rw [hsize]; exact hl) _ hseq
  refine ((callsIn_wide (n := 5)).1 cS).mono ?_
  rintro e w' ⟨v, ss, rfl, hS, hrow, _, hbel⟩
  have hkR : ∀ c ∈ keys [[(B, Obj.cells #[.map (some b)] 67 (0, 0))], [(b, .map es clk)]], c < w.heap.size := fun c hc => by
    obtain ⟨x, hx, rfl⟩ := List.mem_map.1 hc
    exact lt_of_own (i.ro x hx)
  have base : ∀ Γ : List Hp, (∀ x ∈ Γ.flatten, w'.heap[x.1]? = some x.2 ∧ w.heap.size ≤ x.1) → (keys Γ).Nodup → Inv ⟨keys [], w⟩ [[(B, Obj.cells #[.map (some b)] 67 (0, 0))], [(b, .map es clk)]] Γ w' := fun Γ hΓ hn =>
    ⟨hbel.os, hbel.tape, hbel.output, hbel.size, fun x hx => (hbel.block x.1 (hkR x.1 (List.mem_map.2 ⟨x, hx, rfl⟩))).trans (i.ro x hx), fun x hx => (hΓ x hx).1, hn, fun c hc hR => by
      obtain ⟨x, hx, rfl⟩ := List.mem_map.1 hc
      have := (hΓ x hx).2
      have := hkR _ hR
      omega, fun c hc => by
      obtain ⟨x, hx, rfl⟩ := List.mem_map.1 hc
      exact .inr (hΓ x hx).2, fun c hc _ => hbel.block c hc⟩
  have hcv : ∀ l : List Int, cvs ic l = l.map encZ := fun l => by unfold cvs; induction l <;> simp_all
  have hml : (ss.mergeSort fun x y => decide (x ≤ y)).length = ss.length := (List.mergeSort_perm _ _).length_eq
  rcases hrow.2 with ⟨rfl, hz⟩ | ⟨g, cap, cur, rfl, hbase, hg, r1, r2, r3, r4⟩
  · obtain rfl := List.eq_nil_of_length_eq_zero hz
    exact ⟨_, [[]], rfl, ⟨[], [], OwnS.nil, rfl, [], hS.trans hkeys, by simp⟩, base _ (by simp) (by simp [keys])⟩
  · refine ⟨_, [[(g, .cells cur 3 (0, 0))]], rfl, ⟨_, _, ⟨?_⟩, rfl, ss, hS.trans hkeys, rfl⟩, base _ (by simp; exact ⟨hg, hbase⟩) (by simp [keys])⟩
    rw [hml, hcv]
    exact ⟨hrow.1, .inr ⟨g, 0, cap, cur, rfl, rfl, r1, r2, by omega, by rw [List.drop_zero]; exact r4⟩⟩
end Go.Proofs.Ytedemhmlaodblaa
