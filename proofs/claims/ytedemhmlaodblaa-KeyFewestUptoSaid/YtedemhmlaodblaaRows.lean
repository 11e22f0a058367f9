/-
  No cell of these rows narrows 'for every input' (looked for: loops, veiled, ifaces, maps, wideKeys, modest, calm, conditions, laid).
  DERIVED. THE GIVEN ROWS OF THIS SEAT. 6 by the template 'for every input the law returns true; each argument reads behind the call as it read before'; 0 by the template 'total and deterministic' (their statements: YtedemhmlaodblaaTotals.lean).
  GIVEN WITH THE SEED: the statements are not yours to turn. If you find one false, say at which input.
  Laid BY PROGRAM, IN A SANDBOX (cutbox-rows.mjs): the forced cells as the released guide's own fill.sh prints them over the translation b3c0937188ae17e7… (all of the seat's roots in one cut). By AI agents, Wed Nov 11 2026. No macro, syntax, notation, axiom, sorry.
-/
import Derived.Test.YtedemhmlaodblaaChecked
import GoSem.Claim
import GoSem.ClaimJoined
import GoSem.ClaimMapViews
import Derived.JoinedTies
import Derived.KernelRfl
namespace Go.Proofs.Ytedemhmlaodblaa
/- THE CELL 'sum', in the pinned program and in every row, IS THE sha256 OF THE DUMP (.gsa) THAT YtedemhmlaodblaaProg.lean LOADS. Nothing in Lean hashes anything: it is a label: what it is worth is what the hold of that sum in a sandbox is worth. -/
noncomputable def Try.pinned : Pinned := { name := "ytedemhmlaodblaa", sum := "b3c0937188ae17e7a2269fcad344f1fcdf4791a9fcf1b17c632ccd7d2498fd4c", checked := Try.checked }
namespace Rows
def none {H : Type} : Left H := { results := [], args := [] }

/-- 'coterielaw02.KeyLeast': WHATEVER THE INPUT: true; the input reads as it did. -/
def keyLeastSpec : ChangeSpec := { name := "keyLeast", fn := fun _ => fun
  | [d] => { results := [.lit (.bool true)], args := [d] }
  | _ => none }
def keyLeastRow : OpenClaim := { program := "ytedemhmlaodblaa", sum := "b3c0937188ae17e7a2269fcad344f1fcdf4791a9fcf1b17c632ccd7d2498fd4c", func := "coterie/coterielaw02.KeyLeast", spec := "keyLeast", unfollowed := true, recurses := true, plainKeys := false, apart := false }
def KeyLeastSaid : Prop := keyLeastRow.holds Try.pinned (OpenSpec.ofChange keyLeastSpec)

/-- ITS FALSE NEIGHBOUR: 'it returns false'. Refute it at one input. -/
def keyLeastWrong : ChangeSpec := { name := "keyLeast", fn := fun _ => fun
  | [d] => { results := [.lit (.bool false)], args := [d] }
  | _ => none }
def KeyLeastWrongFalsely : Prop := keyLeastRow.holds Try.pinned (OpenSpec.ofChange keyLeastWrong)

/-- 'coterielaw02.KeyFewest': WHATEVER THE INPUT: true; the input reads as it did. -/
def keyFewestSpec : ChangeSpec := { name := "keyFewest", fn := fun _ => fun
  | [d] => { results := [.lit (.bool true)], args := [d] }
  | _ => none }
def keyFewestRow : OpenClaim := { program := "ytedemhmlaodblaa", sum := "b3c0937188ae17e7a2269fcad344f1fcdf4791a9fcf1b17c632ccd7d2498fd4c", func := "coterie/coterielaw02.KeyFewest", spec := "keyFewest", unfollowed := true, recurses := true, plainKeys := false, apart := false }
def KeyFewestSaid : Prop := keyFewestRow.holds Try.pinned (OpenSpec.ofChange keyFewestSpec)

/-- ITS FALSE NEIGHBOUR: 'it returns false'. Refute it at one input. -/
def keyFewestWrong : ChangeSpec := { name := "keyFewest", fn := fun _ => fun
  | [d] => { results := [.lit (.bool false)], args := [d] }
  | _ => none }
def KeyFewestWrongFalsely : Prop := keyFewestRow.holds Try.pinned (OpenSpec.ofChange keyFewestWrong)

/-- 'coterielaw19.KnowLeast': WHATEVER THE INPUT: true; the input reads as it did. -/
def knowLeastSpec : ChangeSpec := { name := "knowLeast", fn := fun _ => fun
  | [d] => { results := [.lit (.bool true)], args := [d] }
  | _ => none }
def knowLeastRow : OpenClaim := { program := "ytedemhmlaodblaa", sum := "b3c0937188ae17e7a2269fcad344f1fcdf4791a9fcf1b17c632ccd7d2498fd4c", func := "coterie/coterielaw19.KnowLeast", spec := "knowLeast", inPlace := ["maps.clone"], unfollowed := true, recurses := true, plainKeys := false, apart := false }
def KnowLeastSaid : Prop := knowLeastRow.holds Try.pinned (OpenSpec.ofChange knowLeastSpec)

/-- ITS FALSE NEIGHBOUR: 'it returns false'. Refute it at one input. -/
def knowLeastWrong : ChangeSpec := { name := "knowLeast", fn := fun _ => fun
  | [d] => { results := [.lit (.bool false)], args := [d] }
  | _ => none }
def KnowLeastWrongFalsely : Prop := knowLeastRow.holds Try.pinned (OpenSpec.ofChange knowLeastWrong)

/-- 'coterielaw19.KnowPlays': WHATEVER THE INPUT: true; the input reads as it did. -/
def knowPlaysSpec : ChangeSpec := { name := "knowPlays", fn := fun _ => fun
  | [d] => { results := [.lit (.bool true)], args := [d] }
  | _ => none }
def knowPlaysRow : OpenClaim := { program := "ytedemhmlaodblaa", sum := "b3c0937188ae17e7a2269fcad344f1fcdf4791a9fcf1b17c632ccd7d2498fd4c", func := "coterie/coterielaw19.KnowPlays", spec := "knowPlays", inPlace := ["maps.clone"], unfollowed := true, recurses := true, plainKeys := false, apart := false }
def KnowPlaysSaid : Prop := knowPlaysRow.holds Try.pinned (OpenSpec.ofChange knowPlaysSpec)

/-- ITS FALSE NEIGHBOUR: 'it returns false'. Refute it at one input. -/
def knowPlaysWrong : ChangeSpec := { name := "knowPlays", fn := fun _ => fun
  | [d] => { results := [.lit (.bool false)], args := [d] }
  | _ => none }
def KnowPlaysWrongFalsely : Prop := knowPlaysRow.holds Try.pinned (OpenSpec.ofChange knowPlaysWrong)

/-- 'coterielaw19.KnowOrder': WHATEVER THE INPUT: true; the input reads as it did. -/
def knowOrderSpec : ChangeSpec := { name := "knowOrder", fn := fun _ => fun
  | [d1, d2] => { results := [.lit (.bool true)], args := [d1, d2] }
  | _ => none }
def knowOrderRow : OpenClaim := { program := "ytedemhmlaodblaa", sum := "b3c0937188ae17e7a2269fcad344f1fcdf4791a9fcf1b17c632ccd7d2498fd4c", func := "coterie/coterielaw19.KnowOrder", spec := "knowOrder", inPlace := ["maps.clone"], unfollowed := true, recurses := true, plainKeys := false, apart := false }
def KnowOrderSaid : Prop := knowOrderRow.holds Try.pinned (OpenSpec.ofChange knowOrderSpec)

/-- ITS FALSE NEIGHBOUR: 'it returns false'. Refute it at one input. -/
def knowOrderWrong : ChangeSpec := { name := "knowOrder", fn := fun _ => fun
  | [d1, d2] => { results := [.lit (.bool false)], args := [d1, d2] }
  | _ => none }
def KnowOrderWrongFalsely : Prop := knowOrderRow.holds Try.pinned (OpenSpec.ofChange knowOrderWrong)

/-- 'coterielaw19.KnowApart': WHATEVER THE INPUT: true; the input reads as it did. -/
def knowApartSpec : ChangeSpec := { name := "knowApart", fn := fun _ => fun
  | [d1, d2] => { results := [.lit (.bool true)], args := [d1, d2] }
  | _ => none }
def knowApartRow : OpenClaim := { program := "ytedemhmlaodblaa", sum := "b3c0937188ae17e7a2269fcad344f1fcdf4791a9fcf1b17c632ccd7d2498fd4c", func := "coterie/coterielaw19.KnowApart", spec := "knowApart", inPlace := ["maps.clone"], unfollowed := true, recurses := true, plainKeys := false, apart := false }
def KnowApartSaid : Prop := knowApartRow.holds Try.pinned (OpenSpec.ofChange knowApartSpec)

/-- ITS FALSE NEIGHBOUR: 'it returns false'. Refute it at one input. -/
def knowApartWrong : ChangeSpec := { name := "knowApart", fn := fun _ => fun
  | [d1, d2] => { results := [.lit (.bool false)], args := [d1, d2] }
  | _ => none }
def KnowApartWrongFalsely : Prop := knowApartRow.holds Try.pinned (OpenSpec.ofChange knowApartWrong)

/- THE SECOND FORM. 'bulk': how many values and letters a reading holds, each counted each time it is reached (what is shared counts as often as it is met; a slice's spare places count too). A statement '..UptoSaid' is the law's where the arguments, and the package variables that the reading takes, are together of bulk at most 1048576: NARROWER than '..Said'. Prove '..Said' where nothing that the law and all that it calls make is longer than what came in: it says more and counts as full. Else prove '..UptoSaid'. A law counts once. -/
mutual
def uptoBulk {H : Type} : DataW H → Nat
  | .lit (.string bytes) => bytes.length + 1
  | .lit _ => 1
  | .nil => 1
  | .ptr d => uptoBulk d + 1
  | .slice elems spare => uptoBulkAll elems + uptoBulkAll spare + 1
  | .agg parts => uptoBulkAll parts + 1
  | .iface _ d => uptoBulk d + 1
  | .map entries => uptoBulkEntries entries + 1
  | .held _ => 1
def uptoBulkAll {H : Type} : List (DataW H) → Nat
  | [] => 0
  | d :: r => uptoBulk d + uptoBulkAll r
def uptoBulkEntries {H : Type} : List (Lit × DataW H) → Nat
  | [] => 0
  | x :: r => uptoBulkEntry x + uptoBulkEntries r
def uptoBulkEntry {H : Type} : Lit × DataW H → Nat
  | (.string bytes, d) => bytes.length + uptoBulk d + 1
  | (_, d) => uptoBulk d + 1
 end
def uptoSmall : (H : Type) → List (DataW H) → Bool := fun _ ds => decide (uptoBulkAll ds ≤ 1048576)
def OpenSpec.upto (s : _root_.Go.ChangeSpec) : _root_.Go.OpenSpec := { _root_.Go.OpenSpec.ofChange s with cond := some uptoSmall }

/-- 'coterielaw02.KeyLeast', WHERE WHAT IT READS IS OF BULK AT MOST 1048576: true; the input reads as it did. -/
def keyLeastUptoRow : OpenClaim := { program := "ytedemhmlaodblaa", sum := "b3c0937188ae17e7a2269fcad344f1fcdf4791a9fcf1b17c632ccd7d2498fd4c", func := "coterie/coterielaw02.KeyLeast", spec := "keyLeast", unfollowed := true, recurses := true, plainKeys := false, apart := false, narrowed := true }
def KeyLeastUptoSaid : Prop := keyLeastUptoRow.holds Try.pinned (OpenSpec.upto keyLeastSpec)

/-- 'coterielaw02.KeyFewest', WHERE WHAT IT READS IS OF BULK AT MOST 1048576: true; the input reads as it did. -/
def keyFewestUptoRow : OpenClaim := { program := "ytedemhmlaodblaa", sum := "b3c0937188ae17e7a2269fcad344f1fcdf4791a9fcf1b17c632ccd7d2498fd4c", func := "coterie/coterielaw02.KeyFewest", spec := "keyFewest", unfollowed := true, recurses := true, plainKeys := false, apart := false, narrowed := true }
def KeyFewestUptoSaid : Prop := keyFewestUptoRow.holds Try.pinned (OpenSpec.upto keyFewestSpec)

/-- 'coterielaw19.KnowLeast', WHERE WHAT IT READS IS OF BULK AT MOST 1048576: true; the input reads as it did. -/
def knowLeastUptoRow : OpenClaim := { program := "ytedemhmlaodblaa", sum := "b3c0937188ae17e7a2269fcad344f1fcdf4791a9fcf1b17c632ccd7d2498fd4c", func := "coterie/coterielaw19.KnowLeast", spec := "knowLeast", inPlace := ["maps.clone"], unfollowed := true, recurses := true, plainKeys := false, apart := false, narrowed := true }
def KnowLeastUptoSaid : Prop := knowLeastUptoRow.holds Try.pinned (OpenSpec.upto knowLeastSpec)

/-- 'coterielaw19.KnowPlays', WHERE WHAT IT READS IS OF BULK AT MOST 1048576: true; the input reads as it did. -/
def knowPlaysUptoRow : OpenClaim := { program := "ytedemhmlaodblaa", sum := "b3c0937188ae17e7a2269fcad344f1fcdf4791a9fcf1b17c632ccd7d2498fd4c", func := "coterie/coterielaw19.KnowPlays", spec := "knowPlays", inPlace := ["maps.clone"], unfollowed := true, recurses := true, plainKeys := false, apart := false, narrowed := true }
def KnowPlaysUptoSaid : Prop := knowPlaysUptoRow.holds Try.pinned (OpenSpec.upto knowPlaysSpec)

/-- 'coterielaw19.KnowOrder', WHERE WHAT IT READS IS OF BULK AT MOST 1048576: true; the input reads as it did. -/
def knowOrderUptoRow : OpenClaim := { program := "ytedemhmlaodblaa", sum := "b3c0937188ae17e7a2269fcad344f1fcdf4791a9fcf1b17c632ccd7d2498fd4c", func := "coterie/coterielaw19.KnowOrder", spec := "knowOrder", inPlace := ["maps.clone"], unfollowed := true, recurses := true, plainKeys := false, apart := false, narrowed := true }
def KnowOrderUptoSaid : Prop := knowOrderUptoRow.holds Try.pinned (OpenSpec.upto knowOrderSpec)

/-- 'coterielaw19.KnowApart', WHERE WHAT IT READS IS OF BULK AT MOST 1048576: true; the input reads as it did. -/
def knowApartUptoRow : OpenClaim := { program := "ytedemhmlaodblaa", sum := "b3c0937188ae17e7a2269fcad344f1fcdf4791a9fcf1b17c632ccd7d2498fd4c", func := "coterie/coterielaw19.KnowApart", spec := "knowApart", inPlace := ["maps.clone"], unfollowed := true, recurses := true, plainKeys := false, apart := false, narrowed := true }
def KnowApartUptoSaid : Prop := knowApartUptoRow.holds Try.pinned (OpenSpec.upto knowApartSpec)

end Rows
end Go.Proofs.Ytedemhmlaodblaa
