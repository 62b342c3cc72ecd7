/-
  DERIVED. GIVEN WITH THE SEED: THE CARDS: each row of YtekmhcdgmgbheaaDoorRows.lean that lists a variable, with what it lists TIED to the program's text (the seventh form; the later family's looks); each row that meets fmt, with fmt's text TOLD by the authors' own Lean function (tested against real Go, not proved from fmt's source: count such statements apart). THE CARD IS WHAT COUNTS. Prove the row's statement (the work); the ties are given (YtekmhcdgmgbheaaDoorTie.lean); close each card by the builder's one call (the guide's Derived/Test/ToyasCard.lean, 'card_holds'). Laid BY PROGRAM, IN A SANDBOX (cutbox-door.mjs). By AI agents, Wed Nov 11 2026. No macro, syntax, notation, axiom, sorry.
-/
import Derived.Test.YtekmhcdgmgbheaaDoorRows
import GoSem.ClaimSeven
namespace Go.Proofs.YtekmhcdgmgbheaaDoor
namespace Rows

/-- THE TIED CARD OF 'hubbublaw11.CellsOrder'. -/
def cellsOrderCard : Claim7 := { stood := { row := cellsOrderRow, standIns := [], harness := (true, "f636e582ce620c7b4e4319a04db6bde8f4df6c7cf2b662ee96543daa0929411a"), looks := false }, kinds := [], alts := [], laidByText := true, laidKinds := [.data, .pinned], laidTests := true, laidLooks := .later }
def CellsOrderCardSaid : Prop := Claim7.holds Tryd.pinned (.plain (OpenSpec.ofChange cellsOrderSpec)) cellsOrderCard

/-- THE TIED CARD OF 'hubbublaw11.CellsLast'. -/
def cellsLastCard : Claim7 := { stood := { row := cellsLastRow, standIns := [], harness := (true, "f636e582ce620c7b4e4319a04db6bde8f4df6c7cf2b662ee96543daa0929411a"), looks := false }, kinds := [], alts := [], laidByText := true, laidKinds := [.data, .pinned], laidTests := true, laidLooks := .later }
def CellsLastCardSaid : Prop := Claim7.holds Tryd.pinned (.plain (OpenSpec.ofChange cellsLastSpec)) cellsLastCard

/-- THE TIED CARD OF 'hubbublaw11.CellsGone'. -/
def cellsGoneCard : Claim7 := { stood := { row := cellsGoneRow, standIns := [], harness := (true, "f636e582ce620c7b4e4319a04db6bde8f4df6c7cf2b662ee96543daa0929411a"), looks := false }, kinds := [], alts := [], laidByText := true, laidKinds := [.data, .pinned], laidTests := true, laidLooks := .later }
def CellsGoneCardSaid : Prop := Claim7.holds Tryd.pinned (.plain (OpenSpec.ofChange cellsGoneSpec)) cellsGoneCard

/-- THE SECOND FORM's CARD OF 'hubbublaw11.CellsOrder'. -/
def cellsOrderUptoCard : Claim7 := { stood := { row := cellsOrderUptoRow, standIns := [], harness := (true, "f636e582ce620c7b4e4319a04db6bde8f4df6c7cf2b662ee96543daa0929411a"), looks := false }, kinds := [], alts := [], laidByText := true, laidKinds := [.data, .pinned], laidTests := true, laidLooks := .later }
def CellsOrderUptoCardSaid : Prop := Claim7.holds Tryd.pinned (.plain (OpenSpec.upto cellsOrderSpec)) cellsOrderUptoCard

/-- THE SECOND FORM's CARD OF 'hubbublaw11.CellsLast'. -/
def cellsLastUptoCard : Claim7 := { stood := { row := cellsLastUptoRow, standIns := [], harness := (true, "f636e582ce620c7b4e4319a04db6bde8f4df6c7cf2b662ee96543daa0929411a"), looks := false }, kinds := [], alts := [], laidByText := true, laidKinds := [.data, .pinned], laidTests := true, laidLooks := .later }
def CellsLastUptoCardSaid : Prop := Claim7.holds Tryd.pinned (.plain (OpenSpec.upto cellsLastSpec)) cellsLastUptoCard

/-- THE SECOND FORM's CARD OF 'hubbublaw11.CellsGone'. -/
def cellsGoneUptoCard : Claim7 := { stood := { row := cellsGoneUptoRow, standIns := [], harness := (true, "f636e582ce620c7b4e4319a04db6bde8f4df6c7cf2b662ee96543daa0929411a"), looks := false }, kinds := [], alts := [], laidByText := true, laidKinds := [.data, .pinned], laidTests := true, laidLooks := .later }
def CellsGoneUptoCardSaid : Prop := Claim7.holds Tryd.pinned (.plain (OpenSpec.upto cellsGoneSpec)) cellsGoneUptoCard
end Rows
end Go.Proofs.YtekmhcdgmgbheaaDoor
