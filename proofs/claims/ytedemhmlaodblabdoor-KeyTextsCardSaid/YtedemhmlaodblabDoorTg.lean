/- KeyTexts: the laid variables; arguments. -/
import Derived.Test.YtedemhmlaodblabDoorTf
import Derived.Test.YtedemhmlaodblabDoorRows
import Derived.LaidMore
import Derived.Lib.LaidTab
import Derived.Stop.LaidErr
import Derived.OpenShut
namespace Go.Proofs.YtedemhmlaodblabDoor
open Go Go.SX Go.RowKit Go.ChangeShapes Go.WideShapes
set_option maxRecDepth 100000
abbrev laidK : List (String × DataW Unit) := [("math/bits.deBruijn32tab", Rows.laid_math_bits_deBruijn32tab), ("math/bits.deBruijn64tab", Rows.laid_math_bits_deBruijn64tab), ("internal/strconv.uint64pow10", Rows.laid_internal_strconv_uint64pow10), ("strconv.ErrRange", Rows.laid_strconv_ErrRange), ("strconv.ErrSyntax", Rows.laid_strconv_ErrSyntax)]
theorem varIs_of {W : World} {name : String} {cs : Array Value} (h : W.var? Tryd.prog name = some cs) : ∃ s : Hp, VarIs name cs s ∧ ∀ x ∈ s, W.heap[x.1]? = some x.2 := by
  unfold World.var? at h
  cases hg : Tryd.prog.globalNamed name with
  | none => rw [hg] at h; cases h
  | some g =>
    rw [hg, Option.bind_some] at h
    split at h
    · rename_i c et fr hb
      obtain rfl := Option.some.inj h
      exact ⟨[(g, .cells c et fr)], ⟨⟨g, et, fr, hg, rfl⟩⟩, by simpa using hb⟩
    · cases h
theorem pow10_laid : (Rows.laid_internal_strconv_uint64pow10 : DataW Unit) = Lib.tabData .u64 Lib.pow10Tab := by kernel_rfl
theorem iface_laid {n nm : String} {d : DataW Unit} {r : List (String × DataW Unit)} {W : World} {ms : Array (String × TypeId)} (h : laidMet Tryd.prog ((n, .iface nm d) :: r) W) (ht : ∀ g t, Tryd.prog.globalNamed n = some g → (Tryd.prog.globals[g]?).map (·.type) = some t → Tryd.prog.underlying t = some (.interface ms)) :
    ∃ u v, W.var? Tryd.prog n = some #[.iface u v] := by
  obtain ⟨ps, ⟨g0, t0, cs0, f0, p0, q0, hg0, ht0, hv0, hd0, _, e0⟩, _, hrows⟩ := h
  obtain ⟨f1, u, v, e, _, _⟩ := iface_of_trod (ht g0 t0 hg0 ht0) hd0
  refine ⟨u, v, ?_⟩
  rw [hv0]
  cases cs0
  simp at e
  rw [e]
theorem gErr (n : String) (g : Nat) (hg : Tryd.prog.globalNamed n = some g) (hty : (Tryd.prog.globals[g]?).map (·.type) = some 71) : ∃ ms, ∀ g t, Tryd.prog.globalNamed n = some g → (Tryd.prog.globals[g]?).map (·.type) = some t → Tryd.prog.underlying t = some (.interface ms) :=
  ⟨_, fun g' t h1 h2 => by
    obtain rfl := Option.some.inj (hg.symm.trans h1)
    obtain rfl := Option.some.inj (hty.symm.trans h2)
    exact Tryd.underlying71⟩
theorem laid_texts {W : World} (h : laidMetH Tryd.prog laidK W) : ∃ (s0 s1 s2 : Hp) (t1 t2 : TypeId) (p1 p2 : Value), VarIs "internal/strconv.uint64pow10" pow10C s0 ∧ VarIs "strconv.ErrSyntax" #[.iface t1 p1] s1 ∧ VarIs "strconv.ErrRange" #[.iface t2 p2] s2 ∧ (∀ x ∈ s0, W.heap[x.1]? = some x.2) ∧ (∀ x ∈ s1, W.heap[x.1]? = some x.2) ∧ ∀ x ∈ s2, W.heap[x.1]? = some x.2 := by
  rw [MakeChecks.laidMetH_plain _ _ _ (by kernel_rfl)] at h
  have h2 := h.tail.tail
  rw [pow10_laid] at h2
  have hp := Lib.tabIs_of_head (g := 4) (t := 131) (e := 51) (n := 20) (by kernel_rfl) (by kernel_rfl) Tryd.underlying131 Tryd.underlying51 (by kernel_rfl) (by kernel_rfl) h2
  obtain ⟨ms, hms⟩ := gErr "strconv.ErrRange" 3 (by kernel_rfl) (by kernel_rfl)
  obtain ⟨ms', hms'⟩ := gErr "strconv.ErrSyntax" 2 (by kernel_rfl) (by kernel_rfl)
  obtain ⟨t2, p2, hr⟩ := iface_laid h2.tail hms
  obtain ⟨t1, p1, hs⟩ := iface_laid h2.tail.tail hms'
  obtain ⟨s0, a0, b0⟩ := varIs_of hp
  obtain ⟨s1, a1, b1⟩ := varIs_of hs
  obtain ⟨s2, a2, b2⟩ := varIs_of hr
  exact ⟨s0, s1, s2, t1, t2, p1, p2, a0, a1, a2, b0, b1, b2⟩
theorem door_metK (os : Os) (args : Array Value) : laidMetH Tryd.prog laidK ((World.doorLaid Tryd.prog 400 os).forCall (fun _ _ => 0) ⟨#[], args, []⟩).memory :=
  laidMetH_of_parts3 (fuel := 8) (laidMet_of_run' 8 (by kernel_rfl) (by kernel_rfl)) (by kernel_rfl) (by kernel_rfl)
/-! ### arguments -/
section
variable {H : Type} {enc : TypeId × Value → H} {w : World} {base : Nat} {spare : Nat → Bool} {held : Bool} {fuel : Nat} {cs : List Value} {x : DataW H × List MemPlace}
theorem open_key (h : DataW.trod enc Tryd.prog w base spare held fuel 43 cs = some x) : ∃ a b : Int, cs = [.int .i64 a, .int .i64 b] := by
  obtain ⟨xs, n, rfl, hx0, hl, hx, hf⟩ := DataW.trod_struct Tryd.underlying43 h
  rw [show Tryd.prog.cellsOf 43 = 2 by kernel_rfl] at hl
  replace hx : xs.length = 2 := hx
  have h0 := hf 0 _ rfl
  have h1 := hf 1 _ rfl
  rw [List.getElem?_eq_getElem (by omega)] at h0 h1
  obtain ⟨a, ea, _⟩ := Opn.out (P := Tryd.prog) (t := 3) h0
  obtain ⟨b, eb, _⟩ := Opn.out (P := Tryd.prog) (t := 3) h1
  have hc : Tryd.prog.cellsOf 3 = 1 := by kernel_rfl
  match cs, hl with
  | [u, v], _ =>
    refine ⟨a, b, ?_⟩
    replace ea : ([u, v].drop 0).take (Tryd.prog.cellsOf 3) = [Value.int .i64 a] := ea
    replace eb : ([u, v].drop 1).take (Tryd.prog.cellsOf 3) = [Value.int .i64 b] := eb
    rw [hc] at ea eb
    simp at ea eb
    rw [ea, eb]
end
theorem okWide_agg' {w : World} {r : Reach} {base : Nat} {t : TypeId} {v : Value} (hu : ∃ fs, Tryd.prog.underlying t = some (.struct fs)) (h : Value.okWide Tryd.prog w r base t v) : v = .agg v.cells := by
  unfold Value.okWide at h
  obtain ⟨fs, hu⟩ := hu
  rw [hu] at h; obtain ⟨cs, rfl, _⟩ := h; rfl
theorem agg_of' {v : Value} {l : List Value} (h : v = .agg v.cells) (hl : v.cells.toList = l) : v = .agg l.toArray := by
  rw [h, ← hl]
end Go.Proofs.YtedemhmlaodblabDoor
