/-
  No cell of these rows narrows 'for every input' (looked for: loops, veiled, ifaces, maps, wideKeys, modest, calm, conditions, laid).
  DERIVED. THE GIVEN ROWS OF THIS SEAT. 4 by the template 'for every input the law returns true; each argument reads behind the call as it read before'; 0 by the template 'total and deterministic' (their statements: YtdfoijfjlhjeaaaGreatTotals.lean).
  GIVEN WITH THE SEED: the statements are not yours to turn. If you find one false, say at which input.
  Laid BY PROGRAM, IN A SANDBOX (cutbox-rows.mjs): the forced cells as the released guide's own fill.sh prints them over the translation e2c0135623ef78b3… (all of the seat's roots in one cut). By AI agents, Wed Nov 11 2026. No macro, syntax, notation, axiom, sorry.
-/
import Derived.Test.YtdfoijfjlhjeaaaGreatChecked
import GoSem.Claim
import GoSem.ClaimJoined
import GoSem.ClaimMapViews
import Derived.JoinedTies
import Derived.KernelRfl
namespace Go.Proofs.YtdfoijfjlhjeaaaGreat
/- THE CELL 'sum', in the pinned program and in every row, IS THE sha256 OF THE DUMP (.gsa) THAT YtdfoijfjlhjeaaaGreatProg.lean LOADS. Nothing in Lean hashes anything: it is a label: what it is worth is what the hold of that sum in a sandbox is worth. -/
noncomputable def Tryz.pinned : Pinned := { name := "ytdfoijfjlhjeaaagreat", sum := "e2c0135623ef78b3ae4188155638914d0914e62213c311e21b2aa4e06b6fd8c5", checked := Tryz.checked }
namespace Rows
def none {H : Type} : Left H := { results := [], args := [] }

/-- 'coterielaw21.SpyCooks': WHATEVER THE INPUT: true; the input reads as it did. -/
def spyCooksSpec : ChangeSpec := { name := "spyCooks", fn := fun _ => fun
  | [d1, d2] => { results := [.lit (.bool true)], args := [d1, d2] }
  | _ => none }
def spyCooksRow : OpenClaim := { program := "ytdfoijfjlhjeaaagreat", sum := "e2c0135623ef78b3ae4188155638914d0914e62213c311e21b2aa4e06b6fd8c5", func := "coterie/coterielaw21.SpyCooks", spec := "spyCooks", unfollowed := true, recurses := true, plainKeys := false, apart := false }
def SpyCooksSaid : Prop := spyCooksRow.holds Tryz.pinned (OpenSpec.ofChange spyCooksSpec)

/-- ITS FALSE NEIGHBOUR: 'it returns false'. Refute it at one input. -/
def spyCooksWrong : ChangeSpec := { name := "spyCooks", fn := fun _ => fun
  | [d1, d2] => { results := [.lit (.bool false)], args := [d1, d2] }
  | _ => none }
def SpyCooksWrongFalsely : Prop := spyCooksRow.holds Tryz.pinned (OpenSpec.ofChange spyCooksWrong)

/-- 'coterielaw21.SpySeen': WHATEVER THE INPUT: true; the input reads as it did. -/
def spySeenSpec : ChangeSpec := { name := "spySeen", fn := fun _ => fun
  | [d] => { results := [.lit (.bool true)], args := [d] }
  | _ => none }
def spySeenRow : OpenClaim := { program := "ytdfoijfjlhjeaaagreat", sum := "e2c0135623ef78b3ae4188155638914d0914e62213c311e21b2aa4e06b6fd8c5", func := "coterie/coterielaw21.SpySeen", spec := "spySeen", unfollowed := true, recurses := true, plainKeys := false, apart := false }
def SpySeenSaid : Prop := spySeenRow.holds Tryz.pinned (OpenSpec.ofChange spySeenSpec)

/-- ITS FALSE NEIGHBOUR: 'it returns false'. Refute it at one input. -/
def spySeenWrong : ChangeSpec := { name := "spySeen", fn := fun _ => fun
  | [d] => { results := [.lit (.bool false)], args := [d] }
  | _ => none }
def SpySeenWrongFalsely : Prop := spySeenRow.holds Tryz.pinned (OpenSpec.ofChange spySeenWrong)

/-- 'coterielaw21.SpyWatches': WHATEVER THE INPUT: true; the input reads as it did. -/
def spyWatchesSpec : ChangeSpec := { name := "spyWatches", fn := fun _ => fun
  | [d1, d2] => { results := [.lit (.bool true)], args := [d1, d2] }
  | _ => none }
def spyWatchesRow : OpenClaim := { program := "ytdfoijfjlhjeaaagreat", sum := "e2c0135623ef78b3ae4188155638914d0914e62213c311e21b2aa4e06b6fd8c5", func := "coterie/coterielaw21.SpyWatches", spec := "spyWatches", unfollowed := true, recurses := true, plainKeys := false, apart := false }
def SpyWatchesSaid : Prop := spyWatchesRow.holds Tryz.pinned (OpenSpec.ofChange spyWatchesSpec)

/-- ITS FALSE NEIGHBOUR: 'it returns false'. Refute it at one input. -/
def spyWatchesWrong : ChangeSpec := { name := "spyWatches", fn := fun _ => fun
  | [d1, d2] => { results := [.lit (.bool false)], args := [d1, d2] }
  | _ => none }
def SpyWatchesWrongFalsely : Prop := spyWatchesRow.holds Tryz.pinned (OpenSpec.ofChange spyWatchesWrong)

/-- 'coterielaw21.SpyGainsNothing': WHATEVER THE INPUT: true; the input reads as it did. -/
def spyGainsNothingSpec : ChangeSpec := { name := "spyGainsNothing", fn := fun _ => fun
  | [d1, d2] => { results := [.lit (.bool true)], args := [d1, d2] }
  | _ => none }
def spyGainsNothingRow : OpenClaim := { program := "ytdfoijfjlhjeaaagreat", sum := "e2c0135623ef78b3ae4188155638914d0914e62213c311e21b2aa4e06b6fd8c5", func := "coterie/coterielaw21.SpyGainsNothing", spec := "spyGainsNothing", inPlace := ["maps.clone"], unfollowed := true, recurses := true, plainKeys := false, apart := false }
def SpyGainsNothingSaid : Prop := spyGainsNothingRow.holds Tryz.pinned (OpenSpec.ofChange spyGainsNothingSpec)

/-- ITS FALSE NEIGHBOUR: 'it returns false'. Refute it at one input. -/
def spyGainsNothingWrong : ChangeSpec := { name := "spyGainsNothing", fn := fun _ => fun
  | [d1, d2] => { results := [.lit (.bool false)], args := [d1, d2] }
  | _ => none }
def SpyGainsNothingWrongFalsely : Prop := spyGainsNothingRow.holds Tryz.pinned (OpenSpec.ofChange spyGainsNothingWrong)

/- THE SECOND FORM. 'bulk': how many values and letters a reading holds, each counted each time it is reached (what is shared counts as often as it is met; a slice's spare places count too). A statement '..UptoSaid' is the law's where the arguments, and the package variables that the reading takes, are together of bulk at most 1048576: NARROWER than '..Said'. Prove '..Said' where nothing that the law and all that it calls make is longer than what came in: it says more and counts as full. Else prove '..UptoSaid'. A law counts once. -/
mutual
def uptoBulk {H : Type} : DataW H → Nat
  | .lit (.string bytes) => bytes.length + 1
  | .lit _ => 1
  | .nil => 1
  | .ptr d => uptoBulk d + 1
  | .slice elems spare => uptoBulkAll elems + uptoBulkAll spare + 1
  | .agg parts => uptoBulkAll parts + 1
  | .iface _ d => uptoBulk d + 1
  | .map entries => uptoBulkEntries entries + 1
  | .held _ => 1
def uptoBulkAll {H : Type} : List (DataW H) → Nat
  | [] => 0
  | d :: r => uptoBulk d + uptoBulkAll r
def uptoBulkEntries {H : Type} : List (Lit × DataW H) → Nat
  | [] => 0
  | x :: r => uptoBulkEntry x + uptoBulkEntries r
def uptoBulkEntry {H : Type} : Lit × DataW H → Nat
  | (.string bytes, d) => bytes.length + uptoBulk d + 1
  | (_, d) => uptoBulk d + 1
 end
def uptoSmall : (H : Type) → List (DataW H) → Bool := fun _ ds => decide (uptoBulkAll ds ≤ 1048576)
def OpenSpec.upto (s : _root_.Go.ChangeSpec) : _root_.Go.OpenSpec := { _root_.Go.OpenSpec.ofChange s with cond := some uptoSmall }

/-- 'coterielaw21.SpyCooks', WHERE WHAT IT READS IS OF BULK AT MOST 1048576: true; the input reads as it did. -/
def spyCooksUptoRow : OpenClaim := { program := "ytdfoijfjlhjeaaagreat", sum := "e2c0135623ef78b3ae4188155638914d0914e62213c311e21b2aa4e06b6fd8c5", func := "coterie/coterielaw21.SpyCooks", spec := "spyCooks", unfollowed := true, recurses := true, plainKeys := false, apart := false, narrowed := true }
def SpyCooksUptoSaid : Prop := spyCooksUptoRow.holds Tryz.pinned (OpenSpec.upto spyCooksSpec)

/-- 'coterielaw21.SpySeen', WHERE WHAT IT READS IS OF BULK AT MOST 1048576: true; the input reads as it did. -/
def spySeenUptoRow : OpenClaim := { program := "ytdfoijfjlhjeaaagreat", sum := "e2c0135623ef78b3ae4188155638914d0914e62213c311e21b2aa4e06b6fd8c5", func := "coterie/coterielaw21.SpySeen", spec := "spySeen", unfollowed := true, recurses := true, plainKeys := false, apart := false, narrowed := true }
def SpySeenUptoSaid : Prop := spySeenUptoRow.holds Tryz.pinned (OpenSpec.upto spySeenSpec)

/-- 'coterielaw21.SpyWatches', WHERE WHAT IT READS IS OF BULK AT MOST 1048576: true; the input reads as it did. -/
def spyWatchesUptoRow : OpenClaim := { program := "ytdfoijfjlhjeaaagreat", sum := "e2c0135623ef78b3ae4188155638914d0914e62213c311e21b2aa4e06b6fd8c5", func := "coterie/coterielaw21.SpyWatches", spec := "spyWatches", unfollowed := true, recurses := true, plainKeys := false, apart := false, narrowed := true }
def SpyWatchesUptoSaid : Prop := spyWatchesUptoRow.holds Tryz.pinned (OpenSpec.upto spyWatchesSpec)

/-- 'coterielaw21.SpyGainsNothing', WHERE WHAT IT READS IS OF BULK AT MOST 1048576: true; the input reads as it did. -/
def spyGainsNothingUptoRow : OpenClaim := { program := "ytdfoijfjlhjeaaagreat", sum := "e2c0135623ef78b3ae4188155638914d0914e62213c311e21b2aa4e06b6fd8c5", func := "coterie/coterielaw21.SpyGainsNothing", spec := "spyGainsNothing", inPlace := ["maps.clone"], unfollowed := true, recurses := true, plainKeys := false, apart := false, narrowed := true }
def SpyGainsNothingUptoSaid : Prop := spyGainsNothingUptoRow.holds Tryz.pinned (OpenSpec.upto spyGainsNothingSpec)

end Rows
end Go.Proofs.YtdfoijfjlhjeaaaGreat
