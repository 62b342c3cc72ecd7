/-
  DERIVED. GIVEN WITH THE SEED: THE CARDS: each row of YtpjapcgidjoliaaDoorRows.lean that lists a variable, with what it lists TIED to the program's text (the seventh form; the later family's looks); each row that meets fmt, with fmt's text TOLD by the authors' own Lean function (tested against real Go, not proved from fmt's source: count such statements apart). THE CARD IS WHAT COUNTS. Prove the row's statement (the work); the ties are given (YtpjapcgidjoliaaDoorTie.lean); close each card by the builder's one call (the guide's Derived/Test/ToyasCard.lean, 'card_holds'). Laid BY PROGRAM, IN A SANDBOX (cutbox-door.mjs). By AI agents, Wed Nov 11 2026. No macro, syntax, notation, axiom, sorry.
-/
import Derived.Test.YtpjapcgidjoliaaDoorRows
import GoSem.ClaimSeven
namespace Go.Proofs.YtpjapcgidjoliaaDoor
namespace Rows

/-- THE TIED CARD OF 'hubbublaw1.UtfTells'. -/
def utfTellsCard : Claim7 := { stood := { row := utfTellsRow, standIns := [], harness := (true, "3c38b79cfedb8b27fea2d6fc1ddcdb56b95977e263633e9101172439fb3a6ebe"), looks := false }, kinds := [], alts := [], laidByText := true, laidKinds := [.data, .pinned], laidTests := true, laidLooks := .later }
def UtfTellsCardSaid : Prop := Claim7.holds Tryd.pinned (.plain (OpenSpec.ofChange utfTellsSpec)) utfTellsCard

/-- THE TIED CARD OF 'hubbublaw1.UtfBack'. -/
def utfBackCard : Claim7 := { stood := { row := utfBackRow, standIns := [], harness := (true, "3c38b79cfedb8b27fea2d6fc1ddcdb56b95977e263633e9101172439fb3a6ebe"), looks := false }, kinds := [], alts := [], laidByText := true, laidKinds := [.data, .pinned], laidTests := true, laidLooks := .later }
def UtfBackCardSaid : Prop := Claim7.holds Tryd.pinned (.plain (OpenSpec.ofChange utfBackSpec)) utfBackCard

/-- THE TIED CARD OF 'hubbublaw1.UtfParts'. -/
def utfPartsCard : Claim7 := { stood := { row := utfPartsRow, standIns := [], harness := (true, "3c38b79cfedb8b27fea2d6fc1ddcdb56b95977e263633e9101172439fb3a6ebe"), looks := false }, kinds := [], alts := [], laidByText := true, laidKinds := [.data, .pinned], laidTests := true, laidLooks := .later }
def UtfPartsCardSaid : Prop := Claim7.holds Tryd.pinned (.plain (OpenSpec.ofChange utfPartsSpec)) utfPartsCard

/-- THE TIED CARD OF 'hubbublaw1.UtfJoins'. -/
def utfJoinsCard : Claim7 := { stood := { row := utfJoinsRow, standIns := [], harness := (true, "3c38b79cfedb8b27fea2d6fc1ddcdb56b95977e263633e9101172439fb3a6ebe"), looks := false }, kinds := [], alts := [], laidByText := true, laidKinds := [.data, .pinned], laidTests := true, laidLooks := .later }
def UtfJoinsCardSaid : Prop := Claim7.holds Tryd.pinned (.plain (OpenSpec.ofChange utfJoinsSpec)) utfJoinsCard

/-- THE TIED CARD OF 'hubbublaw1.UtfEdges'. -/
def utfEdgesCard : Claim7 := { stood := { row := utfEdgesRow, standIns := [], harness := (true, "3c38b79cfedb8b27fea2d6fc1ddcdb56b95977e263633e9101172439fb3a6ebe"), looks := false }, kinds := [], alts := [], laidByText := true, laidKinds := [.data, .pinned], laidTests := true, laidLooks := .later }
def UtfEdgesCardSaid : Prop := Claim7.holds Tryd.pinned (.plain (OpenSpec.ofChange utfEdgesSpec)) utfEdgesCard

/-- THE TIED CARD OF 'hubbublaw1.UtfCuts'. -/
def utfCutsCard : Claim7 := { stood := { row := utfCutsRow, standIns := [], harness := (true, "3c38b79cfedb8b27fea2d6fc1ddcdb56b95977e263633e9101172439fb3a6ebe"), looks := false }, kinds := [], alts := [], laidByText := true, laidKinds := [.data, .pinned], laidTests := true, laidLooks := .later }
def UtfCutsCardSaid : Prop := Claim7.holds Tryd.pinned (.plain (OpenSpec.ofChange utfCutsSpec)) utfCutsCard

/-- THE SECOND FORM's CARD OF 'hubbublaw1.UtfTells'. -/
def utfTellsUptoCard : Claim7 := { stood := { row := utfTellsUptoRow, standIns := [], harness := (true, "3c38b79cfedb8b27fea2d6fc1ddcdb56b95977e263633e9101172439fb3a6ebe"), looks := false }, kinds := [], alts := [], laidByText := true, laidKinds := [.data, .pinned], laidTests := true, laidLooks := .later }
def UtfTellsUptoCardSaid : Prop := Claim7.holds Tryd.pinned (.plain (OpenSpec.upto utfTellsSpec)) utfTellsUptoCard

/-- THE SECOND FORM's CARD OF 'hubbublaw1.UtfBack'. -/
def utfBackUptoCard : Claim7 := { stood := { row := utfBackUptoRow, standIns := [], harness := (true, "3c38b79cfedb8b27fea2d6fc1ddcdb56b95977e263633e9101172439fb3a6ebe"), looks := false }, kinds := [], alts := [], laidByText := true, laidKinds := [.data, .pinned], laidTests := true, laidLooks := .later }
def UtfBackUptoCardSaid : Prop := Claim7.holds Tryd.pinned (.plain (OpenSpec.upto utfBackSpec)) utfBackUptoCard

/-- THE SECOND FORM's CARD OF 'hubbublaw1.UtfParts'. -/
def utfPartsUptoCard : Claim7 := { stood := { row := utfPartsUptoRow, standIns := [], harness := (true, "3c38b79cfedb8b27fea2d6fc1ddcdb56b95977e263633e9101172439fb3a6ebe"), looks := false }, kinds := [], alts := [], laidByText := true, laidKinds := [.data, .pinned], laidTests := true, laidLooks := .later }
def UtfPartsUptoCardSaid : Prop := Claim7.holds Tryd.pinned (.plain (OpenSpec.upto utfPartsSpec)) utfPartsUptoCard

/-- THE SECOND FORM's CARD OF 'hubbublaw1.UtfJoins'. -/
def utfJoinsUptoCard : Claim7 := { stood := { row := utfJoinsUptoRow, standIns := [], harness := (true, "3c38b79cfedb8b27fea2d6fc1ddcdb56b95977e263633e9101172439fb3a6ebe"), looks := false }, kinds := [], alts := [], laidByText := true, laidKinds := [.data, .pinned], laidTests := true, laidLooks := .later }
def UtfJoinsUptoCardSaid : Prop := Claim7.holds Tryd.pinned (.plain (OpenSpec.upto utfJoinsSpec)) utfJoinsUptoCard

/-- THE SECOND FORM's CARD OF 'hubbublaw1.UtfEdges'. -/
def utfEdgesUptoCard : Claim7 := { stood := { row := utfEdgesUptoRow, standIns := [], harness := (true, "3c38b79cfedb8b27fea2d6fc1ddcdb56b95977e263633e9101172439fb3a6ebe"), looks := false }, kinds := [], alts := [], laidByText := true, laidKinds := [.data, .pinned], laidTests := true, laidLooks := .later }
def UtfEdgesUptoCardSaid : Prop := Claim7.holds Tryd.pinned (.plain (OpenSpec.upto utfEdgesSpec)) utfEdgesUptoCard

/-- THE SECOND FORM's CARD OF 'hubbublaw1.UtfCuts'. -/
def utfCutsUptoCard : Claim7 := { stood := { row := utfCutsUptoRow, standIns := [], harness := (true, "3c38b79cfedb8b27fea2d6fc1ddcdb56b95977e263633e9101172439fb3a6ebe"), looks := false }, kinds := [], alts := [], laidByText := true, laidKinds := [.data, .pinned], laidTests := true, laidLooks := .later }
def UtfCutsUptoCardSaid : Prop := Claim7.holds Tryd.pinned (.plain (OpenSpec.upto utfCutsSpec)) utfCutsUptoCard
end Rows
end Go.Proofs.YtpjapcgidjoliaaDoor
