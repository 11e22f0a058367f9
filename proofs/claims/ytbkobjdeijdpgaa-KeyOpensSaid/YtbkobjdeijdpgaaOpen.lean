/- Small openings of the seat's struct arguments: a key (two ints) and a box (two keys) by value are written out. -/
import Derived.Test.YtbkobjdeijdpgaaProg
import Derived.Lib.SmallJoins
namespace Go.Proofs.Ytbkobjdeijdpgaa
open Go.ChangeShapes Go.WideShapes Go.RowKit Go.Joins Go.Deep
section
variable {H : Type} {enc : TypeId × Value → H} {w : World} {base : Nat} {spare : Nat → Bool} {held : Bool}
theorem Try.cells23 : Try.prog.cellsOf 23 = 2 := by kernel_rfl
theorem Try.cells34 : Try.prog.cellsOf 34 = 4 := by kernel_rfl

set_option maxRecDepth 100000 in
theorem open_key {r : Reach} {b0 : Nat} {v : Value} {d : DataW H} {p : List MemPlace} (hv : Value.okWide Try.prog w r b0 23 v) (h : DataW.Trod enc Try.prog w base spare held 23 v d p) :
    ∃ a b : Int, v = .agg #[.int .i64 a, .int .i64 b] ∧ (Lit.int .i64 a).wf = true ∧ (Lit.int .i64 b).wf = true := by
  obtain ⟨c0, c1, y0, y1, m, rfl, _, _, hy0, hy1⟩ := open_agg2 Try.underlying23 (by kernel_rfl) Try.cells23 hv h
  obtain ⟨a, e0, _, wa⟩ := DataW.trod_int Try.underlying3 hy0
  obtain ⟨b, e1, _, wb⟩ := DataW.trod_int Try.underlying3 hy1
  simp at e0 e1
  subst e0 e1
  exact ⟨a, b, rfl, wa, wb⟩

set_option maxRecDepth 100000 in
theorem open_box {r : Reach} {b0 : Nat} {v : Value} {d : DataW H} {p : List MemPlace} (hv : Value.okWide Try.prog w r b0 34 v) (h : DataW.Trod enc Try.prog w base spare held 34 v d p) :
    ∃ a b c e : Int, v = .agg #[.int .i64 a, .int .i64 b, .int .i64 c, .int .i64 e] ∧ (Lit.int .i64 a).wf = true ∧ (Lit.int .i64 b).wf = true ∧ (Lit.int .i64 c).wf = true ∧ (Lit.int .i64 e).wf = true := by
  obtain ⟨cs, rfl, hsz⟩ := okWide_struct Try.underlying34 hv
  obtain ⟨c0, c1, c2, c3, rfl⟩ := array4 (hsz.trans Try.cells34)
  obtain ⟨fuel, hf⟩ := h
  obtain ⟨y0, y1, n, _, _, h0, h1⟩ := trod_struct2 Try.underlying34 hf
  simp only [Try.cells23, Value.cells] at h0 h1
  obtain ⟨z0, z1, m, _, _, g0, g1⟩ := trod_struct2 Try.underlying23 (cs := [c0, c1]) (by simpa using h0)
  obtain ⟨z2, z3, m', _, _, g2, g3⟩ := trod_struct2 Try.underlying23 (cs := [c2, c3]) (by simpa using h1)
  have e3 : Try.prog.cellsOf 3 = 1 := by kernel_rfl
  simp [e3] at g0 g1 g2 g3
  obtain ⟨a, e0, _, wa⟩ := DataW.trod_int Try.underlying3 g0
  obtain ⟨b, e1, _, wb⟩ := DataW.trod_int Try.underlying3 g1
  obtain ⟨c, e2, _, wc⟩ := DataW.trod_int Try.underlying3 g2
  obtain ⟨e, e4, _, we⟩ := DataW.trod_int Try.underlying3 g3
  simp at e0 e1 e2 e4
  subst e0 e1 e2 e4
  exact ⟨a, b, c, e, rfl, wa, wb, wc, we⟩
end
end Go.Proofs.Ytbkobjdeijdpgaa
