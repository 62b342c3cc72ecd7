/-
  DERIVED. GIVEN WITH THE SEED: THE CARDS: each row of YtigjafbbnocihaaDoorRows.lean that lists a variable, with what it lists TIED to the program's text (the seventh form; the later family's looks); each row that meets fmt, with fmt's text TOLD by the authors' own Lean function (tested against real Go, not proved from fmt's source: count such statements apart). THE CARD IS WHAT COUNTS. Prove the row's statement (the work); the ties are given (YtigjafbbnocihaaDoorTie.lean); close each card by the builder's one call (the guide's Derived/Test/ToyasCard.lean, 'card_holds'). Laid BY PROGRAM, IN A SANDBOX (cutbox-door.mjs). By AI agents, Wed Nov 11 2026. No macro, syntax, notation, axiom, sorry.
-/
import Derived.Test.YtigjafbbnocihaaDoorRows
import GoSem.ClaimSeven
namespace Go.Proofs.YtigjafbbnocihaaDoor
namespace Rows

/-- THE TIED CARD OF 'hubbublaw3.WireTells'. -/
def wireTellsCard : Claim7 := { stood := { row := wireTellsRow, standIns := [], harness := (true, "7821e8222e830bb148fcfae3bdb5a14f5e8fba90aa7a2124a69a663861408015"), looks := false }, kinds := [], alts := [], laidByText := true, laidKinds := [.data, .pinned], laidTests := true, laidLooks := .later }
def WireTellsCardSaid : Prop := Claim7.holds Tryd.pinned (.plain (OpenSpec.ofChange wireTellsSpec)) wireTellsCard

/-- THE TIED CARD OF 'hubbublaw3.WireReads'. -/
def wireReadsCard : Claim7 := { stood := { row := wireReadsRow, standIns := [], harness := (true, "7821e8222e830bb148fcfae3bdb5a14f5e8fba90aa7a2124a69a663861408015"), looks := false }, kinds := [], alts := [], laidByText := true, laidKinds := [.data, .pinned], laidTests := true, laidLooks := .later }
def WireReadsCardSaid : Prop := Claim7.holds Tryd.pinned (.plain (OpenSpec.ofChange wireReadsSpec)) wireReadsCard

/-- THE TIED CARD OF 'hubbublaw3.WireLimits'. -/
def wireLimitsCard : Claim7 := { stood := { row := wireLimitsRow, standIns := [], harness := (true, "7821e8222e830bb148fcfae3bdb5a14f5e8fba90aa7a2124a69a663861408015"), looks := false }, kinds := [], alts := [], laidByText := true, laidKinds := [.data, .pinned], laidTests := true, laidLooks := .later }
def WireLimitsCardSaid : Prop := Claim7.holds Tryd.pinned (.plain (OpenSpec.ofChange wireLimitsSpec)) wireLimitsCard

/-- THE TIED CARD OF 'hubbublaw3.WireHeads'. -/
def wireHeadsCard : Claim7 := { stood := { row := wireHeadsRow, standIns := [], harness := (true, "7821e8222e830bb148fcfae3bdb5a14f5e8fba90aa7a2124a69a663861408015"), looks := false }, kinds := [], alts := [], laidByText := true, laidKinds := [.data, .pinned], laidTests := true, laidLooks := .later }
def WireHeadsCardSaid : Prop := Claim7.holds Tryd.pinned (.plain (OpenSpec.ofChange wireHeadsSpec)) wireHeadsCard

/-- THE TIED CARD OF 'hubbublaw3.WireTwo'. -/
def wireTwoCard : Claim7 := { stood := { row := wireTwoRow, standIns := [], harness := (true, "7821e8222e830bb148fcfae3bdb5a14f5e8fba90aa7a2124a69a663861408015"), looks := false }, kinds := [], alts := [], laidByText := true, laidKinds := [.data, .pinned], laidTests := true, laidLooks := .later }
def WireTwoCardSaid : Prop := Claim7.holds Tryd.pinned (.plain (OpenSpec.ofChange wireTwoSpec)) wireTwoCard

/-- THE TIED CARD OF 'hubbublaw3.WireConnects'. -/
def wireConnectsCard : Claim7 := { stood := { row := wireConnectsRow, standIns := [], harness := (true, "7821e8222e830bb148fcfae3bdb5a14f5e8fba90aa7a2124a69a663861408015"), looks := false }, kinds := [], alts := [], laidByText := true, laidKinds := [.data, .pinned], laidTests := true, laidLooks := .later }
def WireConnectsCardSaid : Prop := Claim7.holds Tryd.pinned (.plain (OpenSpec.ofChange wireConnectsSpec)) wireConnectsCard

/-- THE TIED CARD OF 'hubbublaw5.StreamPlays'. -/
def streamPlaysCard : Claim7 := { stood := { row := streamPlaysRow, standIns := [], harness := (true, "7821e8222e830bb148fcfae3bdb5a14f5e8fba90aa7a2124a69a663861408015"), looks := false }, kinds := [], alts := [], laidByText := true, laidKinds := [.data, .pinned], laidTests := true, laidLooks := .later }
def StreamPlaysCardSaid : Prop := Claim7.holds Tryd.pinned (.plain (OpenSpec.ofChange streamPlaysSpec)) streamPlaysCard

/-- THE TIED CARD OF 'hubbublaw5.StreamParts'. -/
def streamPartsCard : Claim7 := { stood := { row := streamPartsRow, standIns := [], harness := (true, "7821e8222e830bb148fcfae3bdb5a14f5e8fba90aa7a2124a69a663861408015"), looks := false }, kinds := [], alts := [], laidByText := true, laidKinds := [.data, .pinned], laidTests := true, laidLooks := .later }
def StreamPartsCardSaid : Prop := Claim7.holds Tryd.pinned (.plain (OpenSpec.ofChange streamPartsSpec)) streamPartsCard

/-- THE TIED CARD OF 'hubbublaw5.StreamDies'. -/
def streamDiesCard : Claim7 := { stood := { row := streamDiesRow, standIns := [], harness := (true, "7821e8222e830bb148fcfae3bdb5a14f5e8fba90aa7a2124a69a663861408015"), looks := false }, kinds := [], alts := [], laidByText := true, laidKinds := [.data, .pinned], laidTests := true, laidLooks := .later }
def StreamDiesCardSaid : Prop := Claim7.holds Tryd.pinned (.plain (OpenSpec.ofChange streamDiesSpec)) streamDiesCard

/-- THE TIED CARD OF 'hubbublaw5.StreamLeft'. -/
def streamLeftCard : Claim7 := { stood := { row := streamLeftRow, standIns := [], harness := (true, "7821e8222e830bb148fcfae3bdb5a14f5e8fba90aa7a2124a69a663861408015"), looks := false }, kinds := [], alts := [], laidByText := true, laidKinds := [.data, .pinned], laidTests := true, laidLooks := .later }
def StreamLeftCardSaid : Prop := Claim7.holds Tryd.pinned (.plain (OpenSpec.ofChange streamLeftSpec)) streamLeftCard

/-- THE SECOND FORM's CARD OF 'hubbublaw3.WireTells'. -/
def wireTellsUptoCard : Claim7 := { stood := { row := wireTellsUptoRow, standIns := [], harness := (true, "7821e8222e830bb148fcfae3bdb5a14f5e8fba90aa7a2124a69a663861408015"), looks := false }, kinds := [], alts := [], laidByText := true, laidKinds := [.data, .pinned], laidTests := true, laidLooks := .later }
def WireTellsUptoCardSaid : Prop := Claim7.holds Tryd.pinned (.plain (OpenSpec.upto wireTellsSpec)) wireTellsUptoCard

/-- THE SECOND FORM's CARD OF 'hubbublaw3.WireReads'. -/
def wireReadsUptoCard : Claim7 := { stood := { row := wireReadsUptoRow, standIns := [], harness := (true, "7821e8222e830bb148fcfae3bdb5a14f5e8fba90aa7a2124a69a663861408015"), looks := false }, kinds := [], alts := [], laidByText := true, laidKinds := [.data, .pinned], laidTests := true, laidLooks := .later }
def WireReadsUptoCardSaid : Prop := Claim7.holds Tryd.pinned (.plain (OpenSpec.upto wireReadsSpec)) wireReadsUptoCard

/-- THE SECOND FORM's CARD OF 'hubbublaw3.WireLimits'. -/
def wireLimitsUptoCard : Claim7 := { stood := { row := wireLimitsUptoRow, standIns := [], harness := (true, "7821e8222e830bb148fcfae3bdb5a14f5e8fba90aa7a2124a69a663861408015"), looks := false }, kinds := [], alts := [], laidByText := true, laidKinds := [.data, .pinned], laidTests := true, laidLooks := .later }
def WireLimitsUptoCardSaid : Prop := Claim7.holds Tryd.pinned (.plain (OpenSpec.upto wireLimitsSpec)) wireLimitsUptoCard

/-- THE SECOND FORM's CARD OF 'hubbublaw3.WireHeads'. -/
def wireHeadsUptoCard : Claim7 := { stood := { row := wireHeadsUptoRow, standIns := [], harness := (true, "7821e8222e830bb148fcfae3bdb5a14f5e8fba90aa7a2124a69a663861408015"), looks := false }, kinds := [], alts := [], laidByText := true, laidKinds := [.data, .pinned], laidTests := true, laidLooks := .later }
def WireHeadsUptoCardSaid : Prop := Claim7.holds Tryd.pinned (.plain (OpenSpec.upto wireHeadsSpec)) wireHeadsUptoCard

/-- THE SECOND FORM's CARD OF 'hubbublaw3.WireTwo'. -/
def wireTwoUptoCard : Claim7 := { stood := { row := wireTwoUptoRow, standIns := [], harness := (true, "7821e8222e830bb148fcfae3bdb5a14f5e8fba90aa7a2124a69a663861408015"), looks := false }, kinds := [], alts := [], laidByText := true, laidKinds := [.data, .pinned], laidTests := true, laidLooks := .later }
def WireTwoUptoCardSaid : Prop := Claim7.holds Tryd.pinned (.plain (OpenSpec.upto wireTwoSpec)) wireTwoUptoCard

/-- THE SECOND FORM's CARD OF 'hubbublaw3.WireConnects'. -/
def wireConnectsUptoCard : Claim7 := { stood := { row := wireConnectsUptoRow, standIns := [], harness := (true, "7821e8222e830bb148fcfae3bdb5a14f5e8fba90aa7a2124a69a663861408015"), looks := false }, kinds := [], alts := [], laidByText := true, laidKinds := [.data, .pinned], laidTests := true, laidLooks := .later }
def WireConnectsUptoCardSaid : Prop := Claim7.holds Tryd.pinned (.plain (OpenSpec.upto wireConnectsSpec)) wireConnectsUptoCard

/-- THE SECOND FORM's CARD OF 'hubbublaw5.StreamPlays'. -/
def streamPlaysUptoCard : Claim7 := { stood := { row := streamPlaysUptoRow, standIns := [], harness := (true, "7821e8222e830bb148fcfae3bdb5a14f5e8fba90aa7a2124a69a663861408015"), looks := false }, kinds := [], alts := [], laidByText := true, laidKinds := [.data, .pinned], laidTests := true, laidLooks := .later }
def StreamPlaysUptoCardSaid : Prop := Claim7.holds Tryd.pinned (.plain (OpenSpec.upto streamPlaysSpec)) streamPlaysUptoCard

/-- THE SECOND FORM's CARD OF 'hubbublaw5.StreamParts'. -/
def streamPartsUptoCard : Claim7 := { stood := { row := streamPartsUptoRow, standIns := [], harness := (true, "7821e8222e830bb148fcfae3bdb5a14f5e8fba90aa7a2124a69a663861408015"), looks := false }, kinds := [], alts := [], laidByText := true, laidKinds := [.data, .pinned], laidTests := true, laidLooks := .later }
def StreamPartsUptoCardSaid : Prop := Claim7.holds Tryd.pinned (.plain (OpenSpec.upto streamPartsSpec)) streamPartsUptoCard

/-- THE SECOND FORM's CARD OF 'hubbublaw5.StreamDies'. -/
def streamDiesUptoCard : Claim7 := { stood := { row := streamDiesUptoRow, standIns := [], harness := (true, "7821e8222e830bb148fcfae3bdb5a14f5e8fba90aa7a2124a69a663861408015"), looks := false }, kinds := [], alts := [], laidByText := true, laidKinds := [.data, .pinned], laidTests := true, laidLooks := .later }
def StreamDiesUptoCardSaid : Prop := Claim7.holds Tryd.pinned (.plain (OpenSpec.upto streamDiesSpec)) streamDiesUptoCard

/-- THE SECOND FORM's CARD OF 'hubbublaw5.StreamLeft'. -/
def streamLeftUptoCard : Claim7 := { stood := { row := streamLeftUptoRow, standIns := [], harness := (true, "7821e8222e830bb148fcfae3bdb5a14f5e8fba90aa7a2124a69a663861408015"), looks := false }, kinds := [], alts := [], laidByText := true, laidKinds := [.data, .pinned], laidTests := true, laidLooks := .later }
def StreamLeftUptoCardSaid : Prop := Claim7.holds Tryd.pinned (.plain (OpenSpec.upto streamLeftSpec)) streamLeftUptoCard
end Rows
end Go.Proofs.YtigjafbbnocihaaDoor
