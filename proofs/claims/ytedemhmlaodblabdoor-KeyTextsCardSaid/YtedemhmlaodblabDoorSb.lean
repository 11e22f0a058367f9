/- From a contract to a call in memory: the bridge to the rows' frames. -/
import Derived.Test.YtedemhmlaodblabDoorSe
namespace Go.SX
set_option linter.unusedSimpArgs false
set_option linter.unusedVariables false
open Go Go.RowKit
theorem inv0 {w : World} {R : List Hp} {D : Bool} (hR : ∀ x ∈ R.flatten, w.heap[x.1]? = some x.2) : Inv ⟨keys [], w, D⟩ R [] w where
  os := rfl
  tape := rfl
  output := rfl
  size := Nat.le_refl _
  ro := hR
  own := by intro x hx; cases hx
  nodup := List.nodup_nil
  apart := by intro b hb; cases hb
  may := by intro b hb; cases hb
  frame := fun _ _ _ => rfl
  dr := fun _ => Nat.le_refl _
theorem calls_of_spec {P : Program} {f : FuncId} {args : Array Value} {v : Value} (h : Spec P f args [] [] fun u Γ => u = v ∧ Γ = []) (w : World) : Calls P f args w fun e w' => e = .returned v ∧ Below w.heap.size w w' := by
  refine (h w (inv0 (by intro x hx; cases hx))).mono ?_
  rintro e w' ⟨u, Γ', rfl, ⟨rfl, rfl⟩, i⟩
  exact ⟨rfl, ⟨i.os, i.tape, i.output, i.size, fun b hb => i.frame b hb (fun hm => by cases hm)⟩⟩
/-- .. with what it reads -/
theorem calls_of_specR {P : Program} {f : FuncId} {args : Array Value} {v : Value} {R : List Hp} (h : Spec P f args R [] fun u Γ => u = v ∧ Γ = []) (w : World) (hR : ∀ x ∈ R.flatten, w.heap[x.1]? = some x.2) : Calls P f args w fun e w' => e = .returned v ∧ Below w.heap.size w w' := by
  refine (h w (inv0 hR)).mono ?_
  rintro e w' ⟨u, Γ', rfl, ⟨rfl, rfl⟩, i⟩
  exact ⟨rfl, ⟨i.os, i.tape, i.output, i.size, fun b hb => i.frame b hb (fun hm => by cases hm)⟩⟩
end Go.SX
