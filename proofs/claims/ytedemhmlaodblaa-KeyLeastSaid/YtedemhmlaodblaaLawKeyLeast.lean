/- The law KeyLeast of the given program: for every input it returns true, and each argument reads as before. The walk stands in YtedemhmlaodblaaKlT. -/
import Derived.Test.YtedemhmlaodblaaRows
import Derived.Test.YtedemhmlaodblaaKlT
import Derived.Test.YtedemhmlaodblaaSo
import Derived.WalkKit
import Derived.ProofKit
import Derived.OpenShut
import Derived.ShutString
import Derived.ChangeOld
import Derived.Below
import Derived.SizedLaws
import Derived.Carry
namespace Go.Proofs.Ytedemhmlaodblaa.keyLeast
open Go.ChangeShapes Go.WideShapes Go.ChangeAt Go.RowKit
set_option linter.unusedVariables false
theorem own : ownKnob Try.prog.godebug = none := by kernel_rfl
theorem laidOut : laidOutB Try.prog = true := by kernel_rfl
set_option maxRecDepth 100000 in
theorem lifted (os : Os) (started : os.Started) (H : Type) (enc : TypeId × Value → H) :
    ReturnsInHanded {} Try.checked os 3 .any (Rows.keyLeastSpec.pre6 enc Try.prog Try.f3 Rows.keyLeastRow.domain false) (Rows.keyLeastSpec.post enc Try.prog Try.f3 false true false false) := by
  refine returnsInHanded_of_change_sized (C := Try.checked) own started (by kernel_rfl) Try.func3
    (ChangeSpec.witness6 (enc := enc) (C := Try.checked) false ⟨#[], #[.slice none 0 0], []⟩ 8 (by kernel_rfl) (by kernel_rfl) (by kernel_rfl) (by kernel_rfl)) ?_
  intro W base args ds gs before hval0 hW hcnd hsz0 _
  have hval : ∀ (j : Nat) t v, Try.f3.params[j]? = some t → args[j]? = some v → Value.okWide Try.prog W .any base t v := hval0
  have hW' := hW
  obtain ⟨p, q, hA0, hV, rfl, hfz, hnd⟩ := hW
  have hA : DataW.TrodAll enc Try.prog W 0 (fun _ => true) true Try.f3.params.toList args.toList ds p := hA0
  rw [Try.params3] at hA hval
  obtain ⟨v0, vs0, d0, ds0, p0, q0, hargs, rfl, rfl, h0, r0⟩ := trodAll_cons hA
  obtain ⟨rfl, rfl, rfl⟩ := trodAll_nil r0
  obtain rfl : args = #[v0] := by cases args; simp_all
  obtain ⟨rfl, rfl⟩ := trodVars_none hV
  have k0 := h0
  have lt0 : ∀ x ∈ p0, x.block < W.heap.size := by obtain ⟨m, hm⟩ := k0; exact DataW.trod_lt m _ _ _ hm
  obtain ⟨l0, s0, u0, g0, m0, n0⟩ := SX.open_AtS (P := Try.prog) (t := 22) (e := 25) Try.underlying22 (by kernel_rfl) (by decide) h0 (SX.okWide_slice Try.underlying22 (hval 0 22 v0 rfl rfl))
  have b0 : l0.length * 16 ≤ 140737488351232 := (SX.size_le hsz0 (j := 0) (by kernel_rfl) rfl Try.underlying22 (b := 16) (by kernel_rfl) n0)
  clear hA0 hval0
  refine (SX.calls_of_specR (kl_s u0 b0) W (by simp only [List.flatten_cons, List.flatten_nil, List.append_nil, List.mem_append]; exact fun x => m0 x)).mono fun e W' ⟨he, bel⟩ => ?_
  subst he
  exact ⟨_, rfl, _, _, _, [], _, [], hW', trodAll_mk1 (shut_bool Try.underlying4 _), (trodAll_cons_mk (Below.trod laidOut (by kernel_rfl) (of_decide_eq_true (by kernel_rfl)) k0 bel lt0) trodAll_mk0), rfl, bel.frame _, fun h => by cases h⟩
theorem over : Rows.keyLeastRow.holds Try.pinned (OpenSpec.ofChange Rows.keyLeastSpec) :=
  OpenClaim.holds_of_wide 3 Try.f3 rfl rfl rfl rfl rfl rfl rfl ⟨rfl, rfl, rfl, rfl, rfl⟩ rfl rfl rfl rfl rfl (by kernel_rfl) Try.func3 (by kernel_rfl)
    (of_decide_eq_true (by kernel_rfl)) (by unfold Func.isWrapper; first | (rw [if_pos (by decide +kernel)]; kernel_rfl) | (rw [if_neg (by decide +kernel)]; exact ⟨rfl, rfl⟩))
    (fun os started H enc _ => lifted os started H enc)
theorem proved : Rows.KeyLeastSaid := over
#print axioms proved
end Go.Proofs.Ytedemhmlaodblaa.keyLeast
namespace Go.Proofs.Ytedemhmlaodblaa
/-- The row, under a short name, for the claim. -/
theorem keyLeast_holds : Rows.KeyLeastSaid := keyLeast.proved
end Go.Proofs.Ytedemhmlaodblaa
