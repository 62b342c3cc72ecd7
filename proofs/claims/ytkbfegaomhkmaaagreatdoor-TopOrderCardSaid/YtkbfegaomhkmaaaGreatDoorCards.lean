/-
  DERIVED. GIVEN WITH THE SEED: THE CARDS: each row of YtkbfegaomhkmaaaGreatDoorRows.lean that lists a variable, with what it lists TIED to the program's text (the seventh form; the later family's looks); each row that meets fmt, with fmt's text TOLD by the authors' own Lean function (tested against real Go, not proved from fmt's source: count such statements apart). THE CARD IS WHAT COUNTS. Prove the row's statement (the work); the ties are given (YtkbfegaomhkmaaaGreatDoorTie.lean); close each card by the builder's one call (the guide's Derived/Test/ToyasCard.lean, 'card_holds'). Laid BY PROGRAM, IN A SANDBOX (cutbox-door.mjs). By AI agents, Wed Nov 11 2026. No macro, syntax, notation, axiom, sorry.
-/
import Derived.Test.YtkbfegaomhkmaaaGreatDoorRows
import GoSem.ClaimSeven
namespace Go.Proofs.YtkbfegaomhkmaaaGreatDoor
namespace Rows

/-- THE TIED CARD OF 'hubbubtop.TopOrder'. -/
def topOrderCard : Claim7 := { stood := { row := topOrderRow, standIns := [], harness := (true, "1942eb72135182c72adf735fbc76e8448dd7a67005c1b6dc77d8ffdb98a4008c"), looks := false }, kinds := [], alts := [], laidByText := true, laidKinds := [.data, .data, .data, .data, .pinned], laidTests := true, laidLooks := .later }
def TopOrderCardSaid : Prop := Claim7.holds Tryz.pinned (.plain (OpenSpec.ofChange topOrderSpec)) topOrderCard

/-- THE SECOND FORM's CARD OF 'hubbubtop.TopOrder'. -/
def topOrderUptoCard : Claim7 := { stood := { row := topOrderUptoRow, standIns := [], harness := (true, "1942eb72135182c72adf735fbc76e8448dd7a67005c1b6dc77d8ffdb98a4008c"), looks := false }, kinds := [], alts := [], laidByText := true, laidKinds := [.data, .data, .data, .data, .pinned], laidTests := true, laidLooks := .later }
def TopOrderUptoCardSaid : Prop := Claim7.holds Tryz.pinned (.plain (OpenSpec.upto topOrderSpec)) topOrderUptoCard
end Rows
end Go.Proofs.YtkbfegaomhkmaaaGreatDoor
