/-
  NARROWER THAN 'FOR EVERY INPUT', by the rows' own cells (each row's printed sentence says how): RosterFits: laid · RosterMoves: laid · RosterFull: laid · RosterBack: laid · RosterMemory: laid · RosterChecks: laid.
  DERIVED. THE GIVEN ROWS OF THIS SEAT. 6 by the template 'for every input the law returns true; each argument reads behind the call as it read before'; 0 by the template 'total and deterministic' (their statements: YtedemhmlaodblaaDoorTotals.lean).
  GIVEN WITH THE SEED: the statements are not yours to turn. If you find one false, say at which input.
  Laid BY PROGRAM, IN A SANDBOX (cutbox-rows.mjs): the forced cells as the released guide's own fill.sh prints them over the translation ca1a938afc73a4cd… (all of the seat's roots in one cut). By AI agents, Wed Nov 11 2026. No macro, syntax, notation, axiom, sorry.
-/
import Derived.Test.YtedemhmlaodblaaDoorChecked
import GoSem.Claim
import GoSem.ClaimJoined
import GoSem.ClaimMapViews
import Derived.JoinedTies
import Derived.KernelRfl
namespace Go.Proofs.YtedemhmlaodblaaDoor
/- THE CELL 'sum', in the pinned program and in every row, IS THE sha256 OF THE DUMP (.gsa) THAT YtedemhmlaodblaaDoorProg.lean LOADS. Nothing in Lean hashes anything: it is a label: what it is worth is what the hold of that sum in a sandbox is worth. -/
noncomputable def Tryd.pinned : Pinned := { name := "ytedemhmlaodblaadoor", sum := "ca1a938afc73a4cdcae1ced043ee6d164d19822e0f7a57641562c44b35c41718", checked := Tryd.checked }
namespace Rows
def none {H : Type} : Left H := { results := [], args := [] }

/- WHAT THE LISTED PACKAGE-LEVEL VARIABLES READ AS WHEN THE CALL BEGINS. Each datum BY PROGRAM (the guide's laid-datum.mjs) off the statement by which the dump's own 'gosem.cut.vars' lays the variable. In a bare row this is a premise. The card (YtedemhmlaodblaaDoorCards.lean) ties it to the program's text. -/
def laid_math_bits_deBruijn64tab {H : Type} : DataW H := .agg [.lit (.int .u8 0), .lit (.int .u8 1), .lit (.int .u8 56), .lit (.int .u8 2), .lit (.int .u8 57), .lit (.int .u8 49), .lit (.int .u8 28), .lit (.int .u8 3), .lit (.int .u8 61), .lit (.int .u8 58), .lit (.int .u8 42), .lit (.int .u8 50), .lit (.int .u8 38), .lit (.int .u8 29), .lit (.int .u8 17), .lit (.int .u8 4), .lit (.int .u8 62), .lit (.int .u8 47), .lit (.int .u8 59), .lit (.int .u8 36), .lit (.int .u8 45), .lit (.int .u8 43), .lit (.int .u8 51), .lit (.int .u8 22), .lit (.int .u8 53), .lit (.int .u8 39), .lit (.int .u8 33), .lit (.int .u8 30), .lit (.int .u8 24), .lit (.int .u8 18), .lit (.int .u8 12), .lit (.int .u8 5), .lit (.int .u8 63), .lit (.int .u8 55), .lit (.int .u8 48), .lit (.int .u8 27), .lit (.int .u8 60), .lit (.int .u8 41), .lit (.int .u8 37), .lit (.int .u8 16), .lit (.int .u8 46), .lit (.int .u8 35), .lit (.int .u8 44), .lit (.int .u8 21), .lit (.int .u8 52), .lit (.int .u8 32), .lit (.int .u8 23), .lit (.int .u8 11), .lit (.int .u8 54), .lit (.int .u8 26), .lit (.int .u8 40), .lit (.int .u8 15), .lit (.int .u8 34), .lit (.int .u8 20), .lit (.int .u8 31), .lit (.int .u8 10), .lit (.int .u8 25), .lit (.int .u8 14), .lit (.int .u8 19), .lit (.int .u8 9), .lit (.int .u8 13), .lit (.int .u8 8), .lit (.int .u8 7), .lit (.int .u8 6)]

/-- 'coterielaw09.RosterFits': WHATEVER THE INPUT: true; the input reads as it did. -/
def rosterFitsSpec : ChangeSpec := { name := "rosterFits", fn := fun _ => fun
  | [d1, d2] => { results := [.lit (.bool true)], args := [d1, d2] }
  | _ => none }
def rosterFitsRow : OpenClaim := { program := "ytedemhmlaodblaadoor", sum := "ca1a938afc73a4cdcae1ced043ee6d164d19822e0f7a57641562c44b35c41718", func := "coterie/coterielaw09.RosterFits", spec := "rosterFits", unfollowed := true, recurses := true, named := ["math/bits.deBruijn64tab"], apart := false, laid := [("math/bits.deBruijn64tab", laid_math_bits_deBruijn64tab)] }
def RosterFitsSaid : Prop := rosterFitsRow.holds Tryd.pinned (OpenSpec.ofChange rosterFitsSpec)

/-- ITS FALSE NEIGHBOUR: 'it returns false'. Refute it at one input. -/
def rosterFitsWrong : ChangeSpec := { name := "rosterFits", fn := fun _ => fun
  | [d1, d2] => { results := [.lit (.bool false)], args := [d1, d2] }
  | _ => none }
def RosterFitsWrongFalsely : Prop := rosterFitsRow.holds Tryd.pinned (OpenSpec.ofChange rosterFitsWrong)

/-- 'coterielaw09.RosterMoves': WHATEVER THE INPUT: true; the input reads as it did. -/
def rosterMovesSpec : ChangeSpec := { name := "rosterMoves", fn := fun _ => fun
  | [d] => { results := [.lit (.bool true)], args := [d] }
  | _ => none }
def rosterMovesRow : OpenClaim := { program := "ytedemhmlaodblaadoor", sum := "ca1a938afc73a4cdcae1ced043ee6d164d19822e0f7a57641562c44b35c41718", func := "coterie/coterielaw09.RosterMoves", spec := "rosterMoves", unfollowed := true, recurses := true, named := ["math/bits.deBruijn64tab"], apart := false, laid := [("math/bits.deBruijn64tab", laid_math_bits_deBruijn64tab)] }
def RosterMovesSaid : Prop := rosterMovesRow.holds Tryd.pinned (OpenSpec.ofChange rosterMovesSpec)

/-- ITS FALSE NEIGHBOUR: 'it returns false'. Refute it at one input. -/
def rosterMovesWrong : ChangeSpec := { name := "rosterMoves", fn := fun _ => fun
  | [d] => { results := [.lit (.bool false)], args := [d] }
  | _ => none }
def RosterMovesWrongFalsely : Prop := rosterMovesRow.holds Tryd.pinned (OpenSpec.ofChange rosterMovesWrong)

/-- 'coterielaw09.RosterFull': WHATEVER THE INPUT: true; the input reads as it did. -/
def rosterFullSpec : ChangeSpec := { name := "rosterFull", fn := fun _ => fun
  | [d1, d2, d3] => { results := [.lit (.bool true)], args := [d1, d2, d3] }
  | _ => none }
def rosterFullRow : OpenClaim := { program := "ytedemhmlaodblaadoor", sum := "ca1a938afc73a4cdcae1ced043ee6d164d19822e0f7a57641562c44b35c41718", func := "coterie/coterielaw09.RosterFull", spec := "rosterFull", unfollowed := true, recurses := true, named := ["math/bits.deBruijn64tab"], apart := false, laid := [("math/bits.deBruijn64tab", laid_math_bits_deBruijn64tab)] }
def RosterFullSaid : Prop := rosterFullRow.holds Tryd.pinned (OpenSpec.ofChange rosterFullSpec)

/-- ITS FALSE NEIGHBOUR: 'it returns false'. Refute it at one input. -/
def rosterFullWrong : ChangeSpec := { name := "rosterFull", fn := fun _ => fun
  | [d1, d2, d3] => { results := [.lit (.bool false)], args := [d1, d2, d3] }
  | _ => none }
def RosterFullWrongFalsely : Prop := rosterFullRow.holds Tryd.pinned (OpenSpec.ofChange rosterFullWrong)

/-- 'coterielaw09.RosterBack': WHATEVER THE INPUT: true; the input reads as it did. -/
def rosterBackSpec : ChangeSpec := { name := "rosterBack", fn := fun _ => fun
  | [d] => { results := [.lit (.bool true)], args := [d] }
  | _ => none }
def rosterBackRow : OpenClaim := { program := "ytedemhmlaodblaadoor", sum := "ca1a938afc73a4cdcae1ced043ee6d164d19822e0f7a57641562c44b35c41718", func := "coterie/coterielaw09.RosterBack", spec := "rosterBack", unfollowed := true, recurses := true, named := ["math/bits.deBruijn64tab"], apart := false, laid := [("math/bits.deBruijn64tab", laid_math_bits_deBruijn64tab)] }
def RosterBackSaid : Prop := rosterBackRow.holds Tryd.pinned (OpenSpec.ofChange rosterBackSpec)

/-- ITS FALSE NEIGHBOUR: 'it returns false'. Refute it at one input. -/
def rosterBackWrong : ChangeSpec := { name := "rosterBack", fn := fun _ => fun
  | [d] => { results := [.lit (.bool false)], args := [d] }
  | _ => none }
def RosterBackWrongFalsely : Prop := rosterBackRow.holds Tryd.pinned (OpenSpec.ofChange rosterBackWrong)

/-- 'coterielaw09.RosterMemory': WHATEVER THE INPUT: true; the input reads as it did. -/
def rosterMemorySpec : ChangeSpec := { name := "rosterMemory", fn := fun _ => fun
  | [d] => { results := [.lit (.bool true)], args := [d] }
  | _ => none }
def rosterMemoryRow : OpenClaim := { program := "ytedemhmlaodblaadoor", sum := "ca1a938afc73a4cdcae1ced043ee6d164d19822e0f7a57641562c44b35c41718", func := "coterie/coterielaw09.RosterMemory", spec := "rosterMemory", unfollowed := true, recurses := true, named := ["math/bits.deBruijn64tab"], apart := false, laid := [("math/bits.deBruijn64tab", laid_math_bits_deBruijn64tab)] }
def RosterMemorySaid : Prop := rosterMemoryRow.holds Tryd.pinned (OpenSpec.ofChange rosterMemorySpec)

/-- ITS FALSE NEIGHBOUR: 'it returns false'. Refute it at one input. -/
def rosterMemoryWrong : ChangeSpec := { name := "rosterMemory", fn := fun _ => fun
  | [d] => { results := [.lit (.bool false)], args := [d] }
  | _ => none }
def RosterMemoryWrongFalsely : Prop := rosterMemoryRow.holds Tryd.pinned (OpenSpec.ofChange rosterMemoryWrong)

/-- 'coterielaw09.RosterChecks': WHATEVER THE INPUT: true; the input reads as it did. -/
def rosterChecksSpec : ChangeSpec := { name := "rosterChecks", fn := fun _ => fun
  | [d1, d2] => { results := [.lit (.bool true)], args := [d1, d2] }
  | _ => none }
def rosterChecksRow : OpenClaim := { program := "ytedemhmlaodblaadoor", sum := "ca1a938afc73a4cdcae1ced043ee6d164d19822e0f7a57641562c44b35c41718", func := "coterie/coterielaw09.RosterChecks", spec := "rosterChecks", unfollowed := true, recurses := true, named := ["math/bits.deBruijn64tab"], apart := false, laid := [("math/bits.deBruijn64tab", laid_math_bits_deBruijn64tab)] }
def RosterChecksSaid : Prop := rosterChecksRow.holds Tryd.pinned (OpenSpec.ofChange rosterChecksSpec)

/-- ITS FALSE NEIGHBOUR: 'it returns false'. Refute it at one input. -/
def rosterChecksWrong : ChangeSpec := { name := "rosterChecks", fn := fun _ => fun
  | [d1, d2] => { results := [.lit (.bool false)], args := [d1, d2] }
  | _ => none }
def RosterChecksWrongFalsely : Prop := rosterChecksRow.holds Tryd.pinned (OpenSpec.ofChange rosterChecksWrong)

/- THE SECOND FORM. 'bulk': how many values and letters a reading holds, each counted each time it is reached (what is shared counts as often as it is met; a slice's spare places count too). A statement '..UptoSaid' is the law's where the arguments, and the package variables that the reading takes, are together of bulk at most 1048576: NARROWER than '..Said'. Prove '..Said' where nothing that the law and all that it calls make is longer than what came in: it says more and counts as full. Else prove '..UptoSaid'. A law counts once. -/
mutual
def uptoBulk {H : Type} : DataW H → Nat
  | .lit (.string bytes) => bytes.length + 1
  | .lit _ => 1
  | .nil => 1
  | .ptr d => uptoBulk d + 1
  | .slice elems spare => uptoBulkAll elems + uptoBulkAll spare + 1
  | .agg parts => uptoBulkAll parts + 1
  | .iface _ d => uptoBulk d + 1
  | .map entries => uptoBulkEntries entries + 1
  | .held _ => 1
def uptoBulkAll {H : Type} : List (DataW H) → Nat
  | [] => 0
  | d :: r => uptoBulk d + uptoBulkAll r
def uptoBulkEntries {H : Type} : List (Lit × DataW H) → Nat
  | [] => 0
  | x :: r => uptoBulkEntry x + uptoBulkEntries r
def uptoBulkEntry {H : Type} : Lit × DataW H → Nat
  | (.string bytes, d) => bytes.length + uptoBulk d + 1
  | (_, d) => uptoBulk d + 1
 end
def uptoSmall : (H : Type) → List (DataW H) → Bool := fun _ ds => decide (uptoBulkAll ds ≤ 1048576)
def OpenSpec.upto (s : _root_.Go.ChangeSpec) : _root_.Go.OpenSpec := { _root_.Go.OpenSpec.ofChange s with cond := some uptoSmall }

/-- 'coterielaw09.RosterFits', WHERE WHAT IT READS IS OF BULK AT MOST 1048576: true; the input reads as it did. -/
def rosterFitsUptoRow : OpenClaim := { program := "ytedemhmlaodblaadoor", sum := "ca1a938afc73a4cdcae1ced043ee6d164d19822e0f7a57641562c44b35c41718", func := "coterie/coterielaw09.RosterFits", spec := "rosterFits", unfollowed := true, recurses := true, named := ["math/bits.deBruijn64tab"], apart := false, laid := [("math/bits.deBruijn64tab", laid_math_bits_deBruijn64tab)], narrowed := true }
def RosterFitsUptoSaid : Prop := rosterFitsUptoRow.holds Tryd.pinned (OpenSpec.upto rosterFitsSpec)

/-- 'coterielaw09.RosterMoves', WHERE WHAT IT READS IS OF BULK AT MOST 1048576: true; the input reads as it did. -/
def rosterMovesUptoRow : OpenClaim := { program := "ytedemhmlaodblaadoor", sum := "ca1a938afc73a4cdcae1ced043ee6d164d19822e0f7a57641562c44b35c41718", func := "coterie/coterielaw09.RosterMoves", spec := "rosterMoves", unfollowed := true, recurses := true, named := ["math/bits.deBruijn64tab"], apart := false, laid := [("math/bits.deBruijn64tab", laid_math_bits_deBruijn64tab)], narrowed := true }
def RosterMovesUptoSaid : Prop := rosterMovesUptoRow.holds Tryd.pinned (OpenSpec.upto rosterMovesSpec)

/-- 'coterielaw09.RosterFull', WHERE WHAT IT READS IS OF BULK AT MOST 1048576: true; the input reads as it did. -/
def rosterFullUptoRow : OpenClaim := { program := "ytedemhmlaodblaadoor", sum := "ca1a938afc73a4cdcae1ced043ee6d164d19822e0f7a57641562c44b35c41718", func := "coterie/coterielaw09.RosterFull", spec := "rosterFull", unfollowed := true, recurses := true, named := ["math/bits.deBruijn64tab"], apart := false, laid := [("math/bits.deBruijn64tab", laid_math_bits_deBruijn64tab)], narrowed := true }
def RosterFullUptoSaid : Prop := rosterFullUptoRow.holds Tryd.pinned (OpenSpec.upto rosterFullSpec)

/-- 'coterielaw09.RosterBack', WHERE WHAT IT READS IS OF BULK AT MOST 1048576: true; the input reads as it did. -/
def rosterBackUptoRow : OpenClaim := { program := "ytedemhmlaodblaadoor", sum := "ca1a938afc73a4cdcae1ced043ee6d164d19822e0f7a57641562c44b35c41718", func := "coterie/coterielaw09.RosterBack", spec := "rosterBack", unfollowed := true, recurses := true, named := ["math/bits.deBruijn64tab"], apart := false, laid := [("math/bits.deBruijn64tab", laid_math_bits_deBruijn64tab)], narrowed := true }
def RosterBackUptoSaid : Prop := rosterBackUptoRow.holds Tryd.pinned (OpenSpec.upto rosterBackSpec)

/-- 'coterielaw09.RosterMemory', WHERE WHAT IT READS IS OF BULK AT MOST 1048576: true; the input reads as it did. -/
def rosterMemoryUptoRow : OpenClaim := { program := "ytedemhmlaodblaadoor", sum := "ca1a938afc73a4cdcae1ced043ee6d164d19822e0f7a57641562c44b35c41718", func := "coterie/coterielaw09.RosterMemory", spec := "rosterMemory", unfollowed := true, recurses := true, named := ["math/bits.deBruijn64tab"], apart := false, laid := [("math/bits.deBruijn64tab", laid_math_bits_deBruijn64tab)], narrowed := true }
def RosterMemoryUptoSaid : Prop := rosterMemoryUptoRow.holds Tryd.pinned (OpenSpec.upto rosterMemorySpec)

/-- 'coterielaw09.RosterChecks', WHERE WHAT IT READS IS OF BULK AT MOST 1048576: true; the input reads as it did. -/
def rosterChecksUptoRow : OpenClaim := { program := "ytedemhmlaodblaadoor", sum := "ca1a938afc73a4cdcae1ced043ee6d164d19822e0f7a57641562c44b35c41718", func := "coterie/coterielaw09.RosterChecks", spec := "rosterChecks", unfollowed := true, recurses := true, named := ["math/bits.deBruijn64tab"], apart := false, laid := [("math/bits.deBruijn64tab", laid_math_bits_deBruijn64tab)], narrowed := true }
def RosterChecksUptoSaid : Prop := rosterChecksUptoRow.holds Tryd.pinned (OpenSpec.upto rosterChecksSpec)

end Rows
end Go.Proofs.YtedemhmlaodblaaDoor
