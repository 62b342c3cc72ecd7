/-
  DERIVED. GIVEN WITH THE SEED: THE CARDS: each row of YtekmhcdgmgbheaaGreatDoorRows.lean that lists a variable, with what it lists TIED to the program's text (the seventh form; the later family's looks); each row that meets fmt, with fmt's text TOLD by the authors' own Lean function (tested against real Go, not proved from fmt's source: count such statements apart). THE CARD IS WHAT COUNTS. Prove the row's statement (the work); the ties are given (YtekmhcdgmgbheaaGreatDoorTie.lean); close each card by the builder's one call (the guide's Derived/Test/ToyasCard.lean, 'card_holds'). Laid BY PROGRAM, IN A SANDBOX (cutbox-door.mjs). By AI agents, Wed Nov 11 2026. No macro, syntax, notation, axiom, sorry.
-/
import Derived.Test.YtekmhcdgmgbheaaGreatDoorRows
import GoSem.ClaimSeven
namespace Go.Proofs.YtekmhcdgmgbheaaGreatDoor
namespace Rows

/-- THE TIED CARD OF 'hubbublaw11.CellsTell'. -/
def cellsTellCard : Claim7 := { stood := { row := cellsTellRow, standIns := [], harness := (true, "561299ada9c12ac8c85f65885a4486347777b808f4c74b9cef7a4c41a5a39eb9"), looks := false }, kinds := [], alts := [], laidByText := true, laidKinds := [.data, .pinned], laidTests := true, laidLooks := .later }
def CellsTellCardSaid : Prop := Claim7.holds Tryz.pinned (.plain (OpenSpec.ofChange cellsTellSpec)) cellsTellCard

/-- THE TIED CARD OF 'hubbublaw11.CellsPrune'. -/
def cellsPruneCard : Claim7 := { stood := { row := cellsPruneRow, standIns := [], harness := (true, "561299ada9c12ac8c85f65885a4486347777b808f4c74b9cef7a4c41a5a39eb9"), looks := false }, kinds := [], alts := [], laidByText := true, laidKinds := [.data, .pinned], laidTests := true, laidLooks := .later }
def CellsPruneCardSaid : Prop := Claim7.holds Tryz.pinned (.plain (OpenSpec.ofChange cellsPruneSpec)) cellsPruneCard

/-- THE TIED CARD OF 'hubbublaw11.CellsShown'. -/
def cellsShownCard : Claim7 := { stood := { row := cellsShownRow, standIns := [], harness := (true, "561299ada9c12ac8c85f65885a4486347777b808f4c74b9cef7a4c41a5a39eb9"), looks := false }, kinds := [], alts := [], laidByText := true, laidKinds := [.data, .pinned], laidTests := true, laidLooks := .later }
def CellsShownCardSaid : Prop := Claim7.holds Tryz.pinned (.plain (OpenSpec.ofChange cellsShownSpec)) cellsShownCard

/-- THE SECOND FORM's CARD OF 'hubbublaw11.CellsTell'. -/
def cellsTellUptoCard : Claim7 := { stood := { row := cellsTellUptoRow, standIns := [], harness := (true, "561299ada9c12ac8c85f65885a4486347777b808f4c74b9cef7a4c41a5a39eb9"), looks := false }, kinds := [], alts := [], laidByText := true, laidKinds := [.data, .pinned], laidTests := true, laidLooks := .later }
def CellsTellUptoCardSaid : Prop := Claim7.holds Tryz.pinned (.plain (OpenSpec.upto cellsTellSpec)) cellsTellUptoCard

/-- THE SECOND FORM's CARD OF 'hubbublaw11.CellsPrune'. -/
def cellsPruneUptoCard : Claim7 := { stood := { row := cellsPruneUptoRow, standIns := [], harness := (true, "561299ada9c12ac8c85f65885a4486347777b808f4c74b9cef7a4c41a5a39eb9"), looks := false }, kinds := [], alts := [], laidByText := true, laidKinds := [.data, .pinned], laidTests := true, laidLooks := .later }
def CellsPruneUptoCardSaid : Prop := Claim7.holds Tryz.pinned (.plain (OpenSpec.upto cellsPruneSpec)) cellsPruneUptoCard

/-- THE SECOND FORM's CARD OF 'hubbublaw11.CellsShown'. -/
def cellsShownUptoCard : Claim7 := { stood := { row := cellsShownUptoRow, standIns := [], harness := (true, "561299ada9c12ac8c85f65885a4486347777b808f4c74b9cef7a4c41a5a39eb9"), looks := false }, kinds := [], alts := [], laidByText := true, laidKinds := [.data, .pinned], laidTests := true, laidLooks := .later }
def CellsShownUptoCardSaid : Prop := Claim7.holds Tryz.pinned (.plain (OpenSpec.upto cellsShownSpec)) cellsShownUptoCard
end Rows
end Go.Proofs.YtekmhcdgmgbheaaGreatDoor
