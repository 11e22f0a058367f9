/- The law RosterMemory of the given program, as a tied card: for every input it returns true, and each argument reads as before. The walk stands in YtedemhmlaodblaaDoorR5. -/
import Derived.Test.YtedemhmlaodblaaDoorRows
import Derived.Test.YtedemhmlaodblaaDoorTie
import Derived.Test.YtedemhmlaodblaaDoorCards
import Derived.Test.YtedemhmlaodblaaDoorR5
import Derived.Test.YtedemhmlaodblaaDoorRt
import Derived.Test.YtedemhmlaodblaaDoorSo
import Derived.WalkKit
import Derived.ProofKit
import Derived.OpenShut
import Derived.ShutString
import Derived.ChangeOld
import Derived.Below
import Derived.SizedLaws
import Derived.Carry
import Derived.LaidMore
import Derived.Stop.Joined
import Derived.SevenTiedAt
namespace Go.Proofs.YtedemhmlaodblaaDoor.rosterMemory
open Go.ChangeShapes Go.WideShapes Go.ChangeAt Go.RowKit
set_option linter.unusedVariables false
theorem own : ownKnob Tryd.prog.godebug = none := by kernel_rfl
theorem laidOut : laidOutB Tryd.prog = true := by kernel_rfl
set_option maxRecDepth 100000 in
theorem lifted (os : Os) (started : os.Started) (H : Type) (enc : TypeId × Value → H) :
    ReturnsInHanded {} Tryd.checked os 7 .any (fun w args => (Rows.rosterMemorySpec.pre enc Tryd.prog Tryd.f7 [] false w args ∧ laidMetH Tryd.prog laidT w) ∧ sizedMet enc Tryd.prog Tryd.f7 (OpenSpec.ofChange Rows.rosterMemorySpec) false w args) (Rows.rosterMemorySpec.post enc Tryd.prog Tryd.f7 false true false false) := by
  refine returnsInHanded_of_change_and (C := Tryd.checked) (X := fun w _ => laidMetH Tryd.prog laidT w) (fun _ _ _ hh h => h.of_heap hh) own started (by kernel_rfl) Tryd.func7
    (ChangeSpec.witness_shaped (enc := enc) (C := Tryd.checked) (os := os) (X := fun w _ => laidMetH Tryd.prog laidT w) false (World.doorLaid Tryd.prog 400 os) #[.agg (Array.replicate 192 (.int .i64 0) ++ #[.slice none 0 0, .slice none 0 0, .int .i64 0, .int .i64 0])] 8 rfl (World.shaped_of_RefB (by kernel_rfl) (by kernel_rfl)) (by kernel_rfl) (by kernel_rfl) (by kernel_rfl) (door_met os _)) ?_
  intro W base args ds gs before hval0 hW _ hsz0 hL _
  have hval : ∀ (j : Nat) t v, Tryd.f7.params[j]? = some t → args[j]? = some v → Value.okWide Tryd.prog W .any base t v := hval0
  have hW' := hW
  obtain ⟨p, q, hA0, hV, rfl, hfz, hnd⟩ := hW
  have hA : DataW.TrodAll enc Tryd.prog W 0 (fun _ => true) true Tryd.f7.params.toList args.toList ds p := hA0
  rw [Tryd.params7] at hA hval
  obtain ⟨v0, vs0, d0, ds0, p0, q0, hargs, rfl, rfl, h0, r0⟩ := trodAll_cons hA
  obtain ⟨rfl, rfl, rfl⟩ := trodAll_nil r0
  obtain rfl : args = #[v0] := by cases args; simp_all
  obtain ⟨rfl, rfl⟩ := trodVars_none hV
  obtain ⟨st, hT, mT⟩ := laid_tab hL
  have k0 := h0
  have lt0 : ∀ x ∈ p0, x.block < W.heap.size := by obtain ⟨m, hm⟩ := k0; exact DataW.trod_lt m _ _ _ hm
  obtain ⟨fu0, hf0⟩ := h0
  obtain ⟨y0, uA0, uB0, lA0, lB0, sA0, sB0, since0, base0, e0, n0, i0, ⟨gA0, gB0⟩, ⟨oA0, oB0⟩, ⟨mA0, mB0⟩, w0⟩ := open_cas hf0
  obtain rfl := agg_of (okWide_agg (.inl ⟨_, Tryd.underlying34⟩) (hval 0 34 v0 rfl rfl)) e0
  haveI : SX.LenIs y0 64 := ⟨n0⟩
  have b0 := w0 (fun n hn => by simpa using List.all_eq_true.1 hsz0 _ (DataW.weights_mem_each (j := 0) (t := 34) rfl rfl n hn))
  clear hA0 hval0
  simp only [List.append_nil] at hW'
  refine (SX.calls_of_specR (rosterMemory_s hT y0 gA0 gB0 (Nat.le_trans b0.1 (by decide)) (Nat.le_trans b0.2 (by decide)) since0 base0 i0) W (by simp only [List.flatten_cons, List.flatten_nil, List.append_nil, List.mem_append]; exact fun x => fun hx => Or.elim hx (mA0 x) (fun hx => Or.elim hx (mB0 x) (mT x)))).mono fun e W' ⟨he, bel⟩ => ?_
  subst he
  exact ⟨_, rfl, _, _, _, [], _, [], hW', trodAll_mk1 (shut_bool Tryd.underlying4 _), (trodAll_cons_mk (Below.trod laidOut (by kernel_rfl) (of_decide_eq_true (by kernel_rfl)) k0 bel lt0) trodAll_mk0), rfl, bel.frame _, fun h => by cases h⟩
theorem over : Rows.RosterMemorySaid :=
  OpenClaim.holds_of_wide 7 Tryd.f7 rfl rfl rfl rfl rfl rfl rfl ⟨rfl, rfl, rfl, rfl, rfl⟩ rfl rfl rfl rfl rfl (by kernel_rfl) Tryd.func7 (by kernel_rfl)
    (of_decide_eq_true (by kernel_rfl)) (by unfold Func.isWrapper; first | (rw [if_pos (by decide +kernel)]; kernel_rfl) | (rw [if_neg (by decide +kernel)]; exact ⟨rfl, rfl⟩))
    (fun os started H enc _ => lifted os started H enc)
end Go.Proofs.YtedemhmlaodblaaDoor.rosterMemory
namespace Go.Proofs.YtedemhmlaodblaaDoor
/-- The tied card. -/
theorem rosterMemory_card_holds : Rows.RosterMemoryCardSaid :=
  Claim7.holds_tied_plain_at .later [] [.data] true (true, "8228792081d3ac94122c551a6c1af6ccdaba2f70ea273a09c4f0c378ae40453c") false
    rosterMemory.over (fun _ h => by cases h) (by kernel_rfl) (fun _ h => by cases h) rosterMemory_row_tie rfl ⟨rfl, rfl⟩ (by kernel_rfl) rfl
    (fun f fn hf hfn => by
      obtain rfl : f = 7 := Option.some.inj ((show Tryd.prog.funcNamed "coterie/coterielaw09.RosterMemory" = some 7 by kernel_rfl).symm.trans hf) |>.symm
      obtain rfl : fn = Tryd.f7 := (Option.some.inj (Tryd.func7.symm.trans hfn)).symm
      exact ⟨by kernel_rfl, fun j t ht => by
        rw [Tryd.params7] at ht
        have hm : t ∈ [34] := by have := Array.mem_of_getElem? ht; simp at this; simp [this]; try omega
        have hall : ([34].all fun u => !Tryd.prog.wantsStandIn u) = true := by kernel_rfl
        exact (show Tryd.prog.wantsStandIn t = false by simpa using List.all_eq_true.1 hall t hm)⟩)
    (by kernel_rfl)
#print axioms rosterMemory_card_holds
end Go.Proofs.YtedemhmlaodblaaDoor
