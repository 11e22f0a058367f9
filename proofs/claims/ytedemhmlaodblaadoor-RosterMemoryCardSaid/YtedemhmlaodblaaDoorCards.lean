/-
  DERIVED. GIVEN WITH THE SEED: THE CARDS: each row of YtedemhmlaodblaaDoorRows.lean that lists a variable, with what it lists TIED to the program's text (the seventh form; the later family's looks); each row that meets fmt, with fmt's text TOLD by the authors' own Lean function (tested against real Go, not proved from fmt's source: count such statements apart). THE CARD IS WHAT COUNTS. Prove the row's statement (the work); the ties are given (YtedemhmlaodblaaDoorTie.lean); close each card by the builder's one call (the guide's Derived/Test/ToyasCard.lean, 'card_holds'). Laid BY PROGRAM, IN A SANDBOX (cutbox-door.mjs). By AI agents, Wed Nov 11 2026. No macro, syntax, notation, axiom, sorry.
-/
import Derived.Test.YtedemhmlaodblaaDoorRows
import GoSem.ClaimSeven
namespace Go.Proofs.YtedemhmlaodblaaDoor
namespace Rows

/-- THE TIED CARD OF 'coterielaw09.RosterFits'. -/
def rosterFitsCard : Claim7 := { stood := { row := rosterFitsRow, standIns := [], harness := (true, "8228792081d3ac94122c551a6c1af6ccdaba2f70ea273a09c4f0c378ae40453c"), looks := false }, kinds := [], alts := [], laidByText := true, laidKinds := [.data], laidTests := true, laidLooks := .later }
def RosterFitsCardSaid : Prop := Claim7.holds Tryd.pinned (.plain (OpenSpec.ofChange rosterFitsSpec)) rosterFitsCard

/-- THE TIED CARD OF 'coterielaw09.RosterMoves'. -/
def rosterMovesCard : Claim7 := { stood := { row := rosterMovesRow, standIns := [], harness := (true, "8228792081d3ac94122c551a6c1af6ccdaba2f70ea273a09c4f0c378ae40453c"), looks := false }, kinds := [], alts := [], laidByText := true, laidKinds := [.data], laidTests := true, laidLooks := .later }
def RosterMovesCardSaid : Prop := Claim7.holds Tryd.pinned (.plain (OpenSpec.ofChange rosterMovesSpec)) rosterMovesCard

/-- THE TIED CARD OF 'coterielaw09.RosterFull'. -/
def rosterFullCard : Claim7 := { stood := { row := rosterFullRow, standIns := [], harness := (true, "8228792081d3ac94122c551a6c1af6ccdaba2f70ea273a09c4f0c378ae40453c"), looks := false }, kinds := [], alts := [], laidByText := true, laidKinds := [.data], laidTests := true, laidLooks := .later }
def RosterFullCardSaid : Prop := Claim7.holds Tryd.pinned (.plain (OpenSpec.ofChange rosterFullSpec)) rosterFullCard

/-- THE TIED CARD OF 'coterielaw09.RosterBack'. -/
def rosterBackCard : Claim7 := { stood := { row := rosterBackRow, standIns := [], harness := (true, "8228792081d3ac94122c551a6c1af6ccdaba2f70ea273a09c4f0c378ae40453c"), looks := false }, kinds := [], alts := [], laidByText := true, laidKinds := [.data], laidTests := true, laidLooks := .later }
def RosterBackCardSaid : Prop := Claim7.holds Tryd.pinned (.plain (OpenSpec.ofChange rosterBackSpec)) rosterBackCard

/-- THE TIED CARD OF 'coterielaw09.RosterMemory'. -/
def rosterMemoryCard : Claim7 := { stood := { row := rosterMemoryRow, standIns := [], harness := (true, "8228792081d3ac94122c551a6c1af6ccdaba2f70ea273a09c4f0c378ae40453c"), looks := false }, kinds := [], alts := [], laidByText := true, laidKinds := [.data], laidTests := true, laidLooks := .later }
def RosterMemoryCardSaid : Prop := Claim7.holds Tryd.pinned (.plain (OpenSpec.ofChange rosterMemorySpec)) rosterMemoryCard

/-- THE TIED CARD OF 'coterielaw09.RosterChecks'. -/
def rosterChecksCard : Claim7 := { stood := { row := rosterChecksRow, standIns := [], harness := (true, "8228792081d3ac94122c551a6c1af6ccdaba2f70ea273a09c4f0c378ae40453c"), looks := false }, kinds := [], alts := [], laidByText := true, laidKinds := [.data], laidTests := true, laidLooks := .later }
def RosterChecksCardSaid : Prop := Claim7.holds Tryd.pinned (.plain (OpenSpec.ofChange rosterChecksSpec)) rosterChecksCard

/-- THE SECOND FORM's CARD OF 'coterielaw09.RosterFits'. -/
def rosterFitsUptoCard : Claim7 := { stood := { row := rosterFitsUptoRow, standIns := [], harness := (true, "8228792081d3ac94122c551a6c1af6ccdaba2f70ea273a09c4f0c378ae40453c"), looks := false }, kinds := [], alts := [], laidByText := true, laidKinds := [.data], laidTests := true, laidLooks := .later }
def RosterFitsUptoCardSaid : Prop := Claim7.holds Tryd.pinned (.plain (OpenSpec.upto rosterFitsSpec)) rosterFitsUptoCard

/-- THE SECOND FORM's CARD OF 'coterielaw09.RosterMoves'. -/
def rosterMovesUptoCard : Claim7 := { stood := { row := rosterMovesUptoRow, standIns := [], harness := (true, "8228792081d3ac94122c551a6c1af6ccdaba2f70ea273a09c4f0c378ae40453c"), looks := false }, kinds := [], alts := [], laidByText := true, laidKinds := [.data], laidTests := true, laidLooks := .later }
def RosterMovesUptoCardSaid : Prop := Claim7.holds Tryd.pinned (.plain (OpenSpec.upto rosterMovesSpec)) rosterMovesUptoCard

/-- THE SECOND FORM's CARD OF 'coterielaw09.RosterFull'. -/
def rosterFullUptoCard : Claim7 := { stood := { row := rosterFullUptoRow, standIns := [], harness := (true, "8228792081d3ac94122c551a6c1af6ccdaba2f70ea273a09c4f0c378ae40453c"), looks := false }, kinds := [], alts := [], laidByText := true, laidKinds := [.data], laidTests := true, laidLooks := .later }
def RosterFullUptoCardSaid : Prop := Claim7.holds Tryd.pinned (.plain (OpenSpec.upto rosterFullSpec)) rosterFullUptoCard

/-- THE SECOND FORM's CARD OF 'coterielaw09.RosterBack'. -/
def rosterBackUptoCard : Claim7 := { stood := { row := rosterBackUptoRow, standIns := [], harness := (true, "8228792081d3ac94122c551a6c1af6ccdaba2f70ea273a09c4f0c378ae40453c"), looks := false }, kinds := [], alts := [], laidByText := true, laidKinds := [.data], laidTests := true, laidLooks := .later }
def RosterBackUptoCardSaid : Prop := Claim7.holds Tryd.pinned (.plain (OpenSpec.upto rosterBackSpec)) rosterBackUptoCard

/-- THE SECOND FORM's CARD OF 'coterielaw09.RosterMemory'. -/
def rosterMemoryUptoCard : Claim7 := { stood := { row := rosterMemoryUptoRow, standIns := [], harness := (true, "8228792081d3ac94122c551a6c1af6ccdaba2f70ea273a09c4f0c378ae40453c"), looks := false }, kinds := [], alts := [], laidByText := true, laidKinds := [.data], laidTests := true, laidLooks := .later }
def RosterMemoryUptoCardSaid : Prop := Claim7.holds Tryd.pinned (.plain (OpenSpec.upto rosterMemorySpec)) rosterMemoryUptoCard

/-- THE SECOND FORM's CARD OF 'coterielaw09.RosterChecks'. -/
def rosterChecksUptoCard : Claim7 := { stood := { row := rosterChecksUptoRow, standIns := [], harness := (true, "8228792081d3ac94122c551a6c1af6ccdaba2f70ea273a09c4f0c378ae40453c"), looks := false }, kinds := [], alts := [], laidByText := true, laidKinds := [.data], laidTests := true, laidLooks := .later }
def RosterChecksUptoCardSaid : Prop := Claim7.holds Tryd.pinned (.plain (OpenSpec.upto rosterChecksSpec)) rosterChecksUptoCard
end Rows
end Go.Proofs.YtedemhmlaodblaaDoor
