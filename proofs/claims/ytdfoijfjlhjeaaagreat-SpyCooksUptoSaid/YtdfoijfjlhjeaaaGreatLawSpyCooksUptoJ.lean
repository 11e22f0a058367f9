/- The law SpyCooks of the given program: for every input of bulk at most 1048576 it returns true, and each argument reads as before. The walk stands in YtdfoijfjlhjeaaaGreatFh. -/
import Derived.Test.YtdfoijfjlhjeaaaGreatJe
import Derived.Test.YtdfoijfjlhjeaaaGreatRows
import Derived.WalkKit
import Derived.ProofKit
import Derived.OpenShut
import Derived.ShutString
import Derived.ChangeOld
import Derived.Below
import Derived.SizedLaws
import Derived.Carry
import Derived.JoinedCond
namespace Go.Proofs.YtdfoijfjlhjeaaaGreat.spyCooks
open Go.ChangeShapes Go.WideShapes Go.ChangeAt Go.RowKit
set_option linter.unusedVariables false
theorem own : ownKnob Tryz.prog.godebug = none := by kernel_rfl
theorem laidOut : laidOutB Tryz.prog = true := by kernel_rfl
theorem bulk_pos {H : Type} (d : DataW H) : 1 ≤ Rows.uptoBulk d := by
  unfold Rows.uptoBulk; split <;> omega
theorem bulk_len {H : Type} : ∀ l : List (DataW H), l.length ≤ Rows.uptoBulkAll l
  | [] => Nat.zero_le _
  | d :: r => by
    have := bulk_pos d; have := bulk_len r
    simp only [Rows.uptoBulkAll, List.length_cons]; omega
set_option maxRecDepth 100000 in
theorem lifted (os : Os) (started : os.Started) (H : Type) (enc : TypeId × Value → H) (F0 : Stop.Interp) :
    ReturnsInHanded {} Tryz.checked os 3 .any ((Rows.OpenSpec.upto Rows.spyCooksSpec).pre6 enc Tryz.prog Tryz.f3 Rows.spyCooksUptoRow.domain false) (((Rows.OpenSpec.upto Rows.spyCooksSpec).at F0).post enc Tryz.prog Tryz.f3 false true false false) := by
  refine returnsInHanded_of_cond (C := Tryz.checked) (s := Rows.OpenSpec.upto Rows.spyCooksSpec) (k := Rows.uptoSmall) rfl own started (by kernel_rfl) Tryz.func3
    (OpenSpec.witness (enc := enc) (C := Tryz.checked) (s := Rows.OpenSpec.upto Rows.spyCooksSpec) (k := Rows.uptoSmall) rfl false ⟨#[], #[.slice none 0 0, .slice none 0 0], []⟩ 8 (by kernel_rfl) (by kernel_rfl) (by kernel_rfl) (x := ([.nil, .nil], [], [])) (by kernel_rfl) (by kernel_rfl) (by kernel_rfl)) ?_
  intro W base args ds gs before hval0 hW hcnd hkk _
  have hval : ∀ (j : Nat) t v, Tryz.f3.params[j]? = some t → args[j]? = some v → Value.okWide Tryz.prog W .any base t v := hval0
  have hW' := hW
  obtain ⟨p, q, hA0, hV, rfl, hfz, hnd⟩ := hW
  have hA : DataW.TrodAll enc Tryz.prog W 0 (fun _ => true) true Tryz.f3.params.toList args.toList ds p := hA0
  rw [Tryz.params3] at hA hval
  obtain ⟨v0, vs0, d0, ds0, p0, q0, hargs, rfl, rfl, h0, r0⟩ := trodAll_cons hA
  obtain ⟨v1, vs1, d1, ds1, p1, q1, rfl, rfl, rfl, h1, r1⟩ := trodAll_cons r0
  obtain ⟨rfl, rfl, rfl⟩ := trodAll_nil r1
  obtain rfl : args = #[v0, v1] := by cases args; simp_all
  obtain ⟨rfl, rfl⟩ := trodVars_none hV
  have hkk1 := of_decide_eq_true hkk
  have k0 := h0
  have lt0 : ∀ x ∈ p0, x.block < W.heap.size := by obtain ⟨m, hm⟩ := k0; exact DataW.trod_lt m _ _ _ hm
  obtain ⟨l0, s0, u0, g0, w0, m0, n0⟩ := SX.open_AtW (P := Tryz.prog) (t := 22) (e := 26) Tryz.underlying22 (by kernel_rfl) (by decide) h0 (SX.okWide_slice Tryz.underlying22 (hval 0 22 v0 rfl rfl))
  have b0 : l0.length ≤ 1048576 := by
    rcases n0 with e | ⟨elems, rest, rfl, e⟩
    · omega
    · have := bulk_len elems
      simp only [List.append_nil, Rows.uptoBulkAll, Rows.uptoBulk] at hkk1
      omega
  replace w0 := fun x hx => Nat.le_trans (w0 x hx) (show _ ≤ 1048576 by simp only [List.append_nil, Rows.uptoBulkAll] at hkk1; omega)
  have k1 := h1
  have lt1 : ∀ x ∈ p1, x.block < W.heap.size := by obtain ⟨m, hm⟩ := k1; exact DataW.trod_lt m _ _ _ hm
  obtain ⟨l1, s1, u1, g1, w1, m1, n1⟩ := SX.open_AtW (P := Tryz.prog) (t := 23) (e := 32) Tryz.underlying23 (by kernel_rfl) (by decide) h1 (SX.okWide_slice Tryz.underlying23 (hval 1 23 v1 rfl rfl))
  have b1 : l1.length ≤ 1048576 := by
    rcases n1 with e | ⟨elems, rest, rfl, e⟩
    · omega
    · have := bulk_len elems
      simp only [List.append_nil, Rows.uptoBulkAll, Rows.uptoBulk] at hkk1
      omega
  replace w1 := fun x hx => Nat.le_trans (w1 x hx) (show _ ≤ 1048576 by simp only [List.append_nil, Rows.uptoBulkAll] at hkk1; omega)
  clear hA0 hval0
  refine (SX.calls_of_specR (cooks_s u0 b0 w0 u1 b1 w1) W (by simp only [List.flatten_cons, List.flatten_nil, List.append_nil, List.mem_append]; exact fun x => fun hx => Or.elim hx (m0 x) (m1 x))).mono fun e W' ⟨he, bel⟩ => ?_
  subst he
  exact ⟨_, rfl, _, _, _, [], _, [], hW', trodAll_mk1 (shut_bool Tryz.underlying4 _), (trodAll_cons_mk (Below.trod laidOut (by kernel_rfl) (of_decide_eq_true (by kernel_rfl)) k0 bel lt0) (trodAll_cons_mk (Below.trod laidOut (by kernel_rfl) (of_decide_eq_true (by kernel_rfl)) k1 bel lt1) trodAll_mk0)), rfl, bel.frame _, fun h => by cases h⟩
theorem over : Rows.spyCooksUptoRow.holds Tryz.pinned (Rows.OpenSpec.upto Rows.spyCooksSpec) :=
  OpenClaim.holds_of_cond 3 Tryz.f3 rfl rfl rfl rfl rfl rfl rfl ⟨rfl, rfl, rfl, rfl, rfl⟩ rfl rfl rfl rfl rfl (by kernel_rfl) Tryz.func3 (by kernel_rfl)
    (of_decide_eq_true (by kernel_rfl)) (by unfold Func.isWrapper; first | (rw [if_pos (by decide +kernel)]; kernel_rfl) | (rw [if_neg (by decide +kernel)]; exact ⟨rfl, rfl⟩))
    (fun os started H enc _ F0 => lifted os started H enc F0)
theorem proved : Rows.SpyCooksUptoSaid := over
#print axioms proved
end Go.Proofs.YtdfoijfjlhjeaaaGreat.spyCooks
namespace Go.Proofs.YtdfoijfjlhjeaaaGreat
/-- The row, under a short name, for the claim. -/
theorem spyCooksUpto_holds : Rows.SpyCooksUptoSaid := spyCooks.proved
end Go.Proofs.YtdfoijfjlhjeaaaGreat
