/-
  DERIVED. GIVEN WITH THE SEED: THE CARDS: each row of YtdfllmiokgoekaaGreatDoorRows.lean that lists a variable, with what it lists TIED to the program's text (the seventh form; the later family's looks); each row that meets fmt, with fmt's text TOLD by the authors' own Lean function (tested against real Go, not proved from fmt's source: count such statements apart). THE CARD IS WHAT COUNTS. Prove the row's statement (the work); the ties are given (YtdfllmiokgoekaaGreatDoorTie.lean); close each card by the builder's one call (the guide's Derived/Test/ToyasCard.lean, 'card_holds'). Laid BY PROGRAM, IN A SANDBOX (cutbox-door.mjs). By AI agents, Wed Nov 11 2026. No macro, syntax, notation, axiom, sorry.
-/
import Derived.Test.YtdfllmiokgoekaaGreatDoorRows
import GoSem.ClaimSeven
namespace Go.Proofs.YtdfllmiokgoekaaGreatDoor
namespace Rows

/-- THE TIED CARD OF 'hubbublaw19.SessionPlays'. -/
def sessionPlaysCard : Claim7 := { stood := { row := sessionPlaysRow, standIns := [], harness := (true, "1b6370128308a2fbe72582e433ae3d816e5766320814a0da1c7aec0376119af6"), looks := false }, kinds := [], alts := [], laidByText := true, laidKinds := [.data, .pinned], laidTests := true, laidLooks := .later }
def SessionPlaysCardSaid : Prop := Claim7.holds Tryz.pinned (.plain (OpenSpec.ofChange sessionPlaysSpec)) sessionPlaysCard

/-- THE SECOND FORM's CARD OF 'hubbublaw19.SessionPlays'. -/
def sessionPlaysUptoCard : Claim7 := { stood := { row := sessionPlaysUptoRow, standIns := [], harness := (true, "1b6370128308a2fbe72582e433ae3d816e5766320814a0da1c7aec0376119af6"), looks := false }, kinds := [], alts := [], laidByText := true, laidKinds := [.data, .pinned], laidTests := true, laidLooks := .later }
def SessionPlaysUptoCardSaid : Prop := Claim7.holds Tryz.pinned (.plain (OpenSpec.upto sessionPlaysSpec)) sessionPlaysUptoCard
end Rows
end Go.Proofs.YtdfllmiokgoekaaGreatDoor
