/- The law SpySeen of the given program: for every input of bulk at most 1048576 it returns true, and each argument reads as before. The walk stands in YtdfoijfjlhjeaaaGreatEo. -/
import Derived.Test.YtdfoijfjlhjeaaaGreatHe
import Derived.Test.YtdfoijfjlhjeaaaGreatRows
import Derived.WalkKit
import Derived.ProofKit
import Derived.OpenShut
import Derived.ShutString
import Derived.ChangeOld
import Derived.Below
import Derived.SizedLaws
import Derived.Carry
import Derived.JoinedCond
namespace Go.Proofs.YtdfoijfjlhjeaaaGreat.spySeen
open Go.ChangeShapes Go.WideShapes Go.ChangeAt Go.RowKit
set_option linter.unusedVariables false
theorem own : ownKnob Tryz.prog.godebug = none := by kernel_rfl
theorem laidOut : laidOutB Tryz.prog = true := by kernel_rfl
theorem bulk_pos {H : Type} (d : DataW H) : 1 ≤ Rows.uptoBulk d := by
  unfold Rows.uptoBulk; split <;> omega
theorem bulk_len {H : Type} : ∀ l : List (DataW H), l.length ≤ Rows.uptoBulkAll l
  | [] => Nat.zero_le _
  | d :: r => by
    have := bulk_pos d; have := bulk_len r
    simp only [Rows.uptoBulkAll, List.length_cons]; omega
set_option maxRecDepth 100000 in
theorem lifted (os : Os) (started : os.Started) (H : Type) (enc : TypeId × Value → H) (F0 : Stop.Interp) :
    ReturnsInHanded {} Tryz.checked os 4 .any ((Rows.OpenSpec.upto Rows.spySeenSpec).pre6 enc Tryz.prog Tryz.f4 Rows.spySeenUptoRow.domain false) (((Rows.OpenSpec.upto Rows.spySeenSpec).at F0).post enc Tryz.prog Tryz.f4 false true false false) := by
  refine returnsInHanded_of_cond (C := Tryz.checked) (s := Rows.OpenSpec.upto Rows.spySeenSpec) (k := Rows.uptoSmall) rfl own started (by kernel_rfl) Tryz.func4
    (OpenSpec.witness (enc := enc) (C := Tryz.checked) (s := Rows.OpenSpec.upto Rows.spySeenSpec) (k := Rows.uptoSmall) rfl false ⟨#[], #[.slice none 0 0], []⟩ 8 (by kernel_rfl) (by kernel_rfl) (by kernel_rfl) (x := ([.nil], [], [])) (by kernel_rfl) (by kernel_rfl) (by kernel_rfl)) ?_
  intro W base args ds gs before hval0 hW hcnd hkk _
  have hval : ∀ (j : Nat) t v, Tryz.f4.params[j]? = some t → args[j]? = some v → Value.okWide Tryz.prog W .any base t v := hval0
  have hW' := hW
  obtain ⟨p, q, hA0, hV, rfl, hfz, hnd⟩ := hW
  have hA : DataW.TrodAll enc Tryz.prog W 0 (fun _ => true) true Tryz.f4.params.toList args.toList ds p := hA0
  rw [Tryz.params4] at hA hval
  obtain ⟨v0, vs0, d0, ds0, p0, q0, hargs, rfl, rfl, h0, r0⟩ := trodAll_cons hA
  obtain ⟨rfl, rfl, rfl⟩ := trodAll_nil r0
  obtain rfl : args = #[v0] := by cases args; simp_all
  obtain ⟨rfl, rfl⟩ := trodVars_none hV
  have hkk1 := of_decide_eq_true hkk
  have k0 := h0
  have lt0 : ∀ x ∈ p0, x.block < W.heap.size := by obtain ⟨m, hm⟩ := k0; exact DataW.trod_lt m _ _ _ hm
  obtain ⟨l0, s0, u0, g0, w0, m0, n0⟩ := SX.open_AtW (P := Tryz.prog) (t := 53) (e := 57) Tryz.underlying53 (by kernel_rfl) (by decide) h0 (SX.okWide_slice Tryz.underlying53 (hval 0 53 v0 rfl rfl))
  have b0 : l0.length ≤ 1048576 := by
    rcases n0 with e | ⟨elems, rest, rfl, e⟩
    · omega
    · have := bulk_len elems
      simp only [List.append_nil, Rows.uptoBulkAll, Rows.uptoBulk] at hkk1
      omega
  replace w0 := fun x hx => Nat.le_trans (w0 x hx) (show _ ≤ 1048576 by simp only [List.append_nil, Rows.uptoBulkAll] at hkk1; omega)
  clear hA0 hval0
  refine (SX.calls_of_specR (seen_s u0 b0 w0) W (by simp only [List.flatten_cons, List.flatten_nil, List.append_nil, List.mem_append]; exact fun x => m0 x)).mono fun e W' ⟨he, bel⟩ => ?_
  subst he
  exact ⟨_, rfl, _, _, _, [], _, [], hW', trodAll_mk1 (shut_bool Tryz.underlying4 _), (trodAll_cons_mk (Below.trod laidOut (by kernel_rfl) (of_decide_eq_true (by kernel_rfl)) k0 bel lt0) trodAll_mk0), rfl, bel.frame _, fun h => by cases h⟩
theorem over : Rows.spySeenUptoRow.holds Tryz.pinned (Rows.OpenSpec.upto Rows.spySeenSpec) :=
  OpenClaim.holds_of_cond 4 Tryz.f4 rfl rfl rfl rfl rfl rfl rfl ⟨rfl, rfl, rfl, rfl, rfl⟩ rfl rfl rfl rfl rfl (by kernel_rfl) Tryz.func4 (by kernel_rfl)
    (of_decide_eq_true (by kernel_rfl)) (by unfold Func.isWrapper; first | (rw [if_pos (by decide +kernel)]; kernel_rfl) | (rw [if_neg (by decide +kernel)]; exact ⟨rfl, rfl⟩))
    (fun os started H enc _ F0 => lifted os started H enc F0)
theorem proved : Rows.SpySeenUptoSaid := over
#print axioms proved
end Go.Proofs.YtdfoijfjlhjeaaaGreat.spySeen
namespace Go.Proofs.YtdfoijfjlhjeaaaGreat
/-- The row, under a short name, for the claim. -/
theorem spySeenUpto_holds : Rows.SpySeenUptoSaid := spySeen.proved
end Go.Proofs.YtdfoijfjlhjeaaaGreat
