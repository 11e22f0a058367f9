/-
  DERIVED. GIVEN WITH THE SEED: THE CARDS: each row of YtedemhmlaodblabDoorRows.lean that lists a variable, with what it lists TIED to the program's text (the seventh form; the later family's looks); each row that meets fmt, with fmt's text TOLD by the authors' own Lean function (tested against real Go, not proved from fmt's source: count such statements apart). THE CARD IS WHAT COUNTS. Prove the row's statement (the work); the ties are given (YtedemhmlaodblabDoorTie.lean); close each card by the builder's one call (the guide's Derived/Test/ToyasCard.lean, 'card_holds'). Laid BY PROGRAM, IN A SANDBOX (cutbox-door.mjs). By AI agents, Wed Nov 11 2026. No macro, syntax, notation, axiom, sorry.
-/
import Derived.Test.YtedemhmlaodblabDoorRows
import GoSem.ClaimSeven
namespace Go.Proofs.YtedemhmlaodblabDoor
namespace Rows

/-- THE TIED CARD OF 'coterielaw09.RosterKeeps'. -/
def rosterKeepsCard : Claim7 := { stood := { row := rosterKeepsRow, standIns := [], harness := (true, "2ca81c957b387098c311fb23c273defb3f4264df4295bce5f3d53bfdc7b4ff51"), looks := true }, kinds := [], alts := [], laidByText := true, laidKinds := [.data], laidTests := true, laidLooks := .later }
def RosterKeepsCardSaid : Prop := Claim7.holds Tryd.pinned (.plain (OpenSpec.ofChange rosterKeepsSpec)) rosterKeepsCard

/-- THE TIED CARD OF 'coterielaw02.KeyTexts'. -/
def keyTextsCard : Claim7 := { stood := { row := keyTextsRow, standIns := [], harness := (true, "2ca81c957b387098c311fb23c273defb3f4264df4295bce5f3d53bfdc7b4ff51"), looks := true }, kinds := [], alts := [], laidByText := true, laidKinds := [.data, .data, .data, .sentinel, .sentinel], laidTests := true, laidLooks := .later }
def KeyTextsCardSaid : Prop := Claim7.holds Tryd.pinned (.plain (OpenSpec.ofChange keyTextsSpec)) keyTextsCard

/-- THE SECOND FORM's CARD OF 'coterielaw09.RosterKeeps'. -/
def rosterKeepsUptoCard : Claim7 := { stood := { row := rosterKeepsUptoRow, standIns := [], harness := (true, "2ca81c957b387098c311fb23c273defb3f4264df4295bce5f3d53bfdc7b4ff51"), looks := true }, kinds := [], alts := [], laidByText := true, laidKinds := [.data], laidTests := true, laidLooks := .later }
def RosterKeepsUptoCardSaid : Prop := Claim7.holds Tryd.pinned (.plain (OpenSpec.upto rosterKeepsSpec)) rosterKeepsUptoCard

/-- THE SECOND FORM's CARD OF 'coterielaw02.KeyTexts'. -/
def keyTextsUptoCard : Claim7 := { stood := { row := keyTextsUptoRow, standIns := [], harness := (true, "2ca81c957b387098c311fb23c273defb3f4264df4295bce5f3d53bfdc7b4ff51"), looks := true }, kinds := [], alts := [], laidByText := true, laidKinds := [.data, .data, .data, .sentinel, .sentinel], laidTests := true, laidLooks := .later }
def KeyTextsUptoCardSaid : Prop := Claim7.holds Tryd.pinned (.plain (OpenSpec.upto keyTextsSpec)) keyTextsUptoCard
end Rows
end Go.Proofs.YtedemhmlaodblabDoor
