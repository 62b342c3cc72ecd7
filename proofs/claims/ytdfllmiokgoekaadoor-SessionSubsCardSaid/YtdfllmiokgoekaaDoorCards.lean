/-
  DERIVED. GIVEN WITH THE SEED: THE CARDS: each row of YtdfllmiokgoekaaDoorRows.lean that lists a variable, with what it lists TIED to the program's text (the seventh form; the later family's looks); each row that meets fmt, with fmt's text TOLD by the authors' own Lean function (tested against real Go, not proved from fmt's source: count such statements apart). THE CARD IS WHAT COUNTS. Prove the row's statement (the work); the ties are given (YtdfllmiokgoekaaDoorTie.lean); close each card by the builder's one call (the guide's Derived/Test/ToyasCard.lean, 'card_holds'). Laid BY PROGRAM, IN A SANDBOX (cutbox-door.mjs). By AI agents, Wed Nov 11 2026. No macro, syntax, notation, axiom, sorry.
-/
import Derived.Test.YtdfllmiokgoekaaDoorRows
import GoSem.ClaimSeven
namespace Go.Proofs.YtdfllmiokgoekaaDoor
namespace Rows

/-- THE TIED CARD OF 'hubbublaw19.SessionSubs'. -/
def sessionSubsCard : Claim7 := { stood := { row := sessionSubsRow, standIns := [], harness := (true, "cdec9d8107e10ad6cfaae698106c665ff6216de106f5d44f041eeb3e2c8e6899"), looks := false }, kinds := [], alts := [], laidByText := true, laidKinds := [.data, .pinned], laidTests := true, laidLooks := .later }
def SessionSubsCardSaid : Prop := Claim7.holds Tryd.pinned (.plain (OpenSpec.ofChange sessionSubsSpec)) sessionSubsCard

/-- THE SECOND FORM's CARD OF 'hubbublaw19.SessionSubs'. -/
def sessionSubsUptoCard : Claim7 := { stood := { row := sessionSubsUptoRow, standIns := [], harness := (true, "cdec9d8107e10ad6cfaae698106c665ff6216de106f5d44f041eeb3e2c8e6899"), looks := false }, kinds := [], alts := [], laidByText := true, laidKinds := [.data, .pinned], laidTests := true, laidLooks := .later }
def SessionSubsUptoCardSaid : Prop := Claim7.holds Tryd.pinned (.plain (OpenSpec.upto sessionSubsSpec)) sessionSubsUptoCard
end Rows
end Go.Proofs.YtdfllmiokgoekaaDoor
