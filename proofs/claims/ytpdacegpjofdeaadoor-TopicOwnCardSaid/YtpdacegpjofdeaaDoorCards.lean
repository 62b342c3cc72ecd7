/-
  DERIVED. GIVEN WITH THE SEED: THE CARDS: each row of YtpdacegpjofdeaaDoorRows.lean that lists a variable, with what it lists TIED to the program's text (the seventh form; the later family's looks); each row that meets fmt, with fmt's text TOLD by the authors' own Lean function (tested against real Go, not proved from fmt's source: count such statements apart). THE CARD IS WHAT COUNTS. Prove the row's statement (the work); the ties are given (YtpdacegpjofdeaaDoorTie.lean); close each card by the builder's one call (the guide's Derived/Test/ToyasCard.lean, 'card_holds'). Laid BY PROGRAM, IN A SANDBOX (cutbox-door.mjs). By AI agents, Wed Nov 11 2026. No macro, syntax, notation, axiom, sorry.
-/
import Derived.Test.YtpdacegpjofdeaaDoorRows
import GoSem.ClaimSeven
namespace Go.Proofs.YtpdacegpjofdeaaDoor
namespace Rows

/-- THE TIED CARD OF 'hubbublaw6.TopicTells'. -/
def topicTellsCard : Claim7 := { stood := { row := topicTellsRow, standIns := [], harness := (true, "803194b9de2cb8b30cb4d1f9de2f64cee43d281a769806b114f78446ed549fb9"), looks := false }, kinds := [], alts := [], laidByText := true, laidKinds := [.data, .pinned], laidTests := true, laidLooks := .later }
def TopicTellsCardSaid : Prop := Claim7.holds Tryd.pinned (.plain (OpenSpec.ofChange topicTellsSpec)) topicTellsCard

/-- THE TIED CARD OF 'hubbublaw6.TopicWithin'. -/
def topicWithinCard : Claim7 := { stood := { row := topicWithinRow, standIns := [], harness := (true, "803194b9de2cb8b30cb4d1f9de2f64cee43d281a769806b114f78446ed549fb9"), looks := false }, kinds := [], alts := [], laidByText := true, laidKinds := [.data, .pinned], laidTests := true, laidLooks := .later }
def TopicWithinCardSaid : Prop := Claim7.holds Tryd.pinned (.plain (OpenSpec.ofChange topicWithinSpec)) topicWithinCard

/-- THE TIED CARD OF 'hubbublaw6.TopicOwn'. -/
def topicOwnCard : Claim7 := { stood := { row := topicOwnRow, standIns := [], harness := (true, "803194b9de2cb8b30cb4d1f9de2f64cee43d281a769806b114f78446ed549fb9"), looks := false }, kinds := [], alts := [], laidByText := true, laidKinds := [.data, .pinned], laidTests := true, laidLooks := .later }
def TopicOwnCardSaid : Prop := Claim7.holds Tryd.pinned (.plain (OpenSpec.ofChange topicOwnSpec)) topicOwnCard

/-- THE TIED CARD OF 'hubbublaw6.TopicLevels'. -/
def topicLevelsCard : Claim7 := { stood := { row := topicLevelsRow, standIns := [], harness := (true, "803194b9de2cb8b30cb4d1f9de2f64cee43d281a769806b114f78446ed549fb9"), looks := false }, kinds := [], alts := [], laidByText := true, laidKinds := [.data, .pinned], laidTests := true, laidLooks := .later }
def TopicLevelsCardSaid : Prop := Claim7.holds Tryd.pinned (.plain (OpenSpec.ofChange topicLevelsSpec)) topicLevelsCard

/-- THE TIED CARD OF 'hubbublaw6.TopicAll'. -/
def topicAllCard : Claim7 := { stood := { row := topicAllRow, standIns := [], harness := (true, "803194b9de2cb8b30cb4d1f9de2f64cee43d281a769806b114f78446ed549fb9"), looks := false }, kinds := [], alts := [], laidByText := true, laidKinds := [.data, .pinned], laidTests := true, laidLooks := .later }
def TopicAllCardSaid : Prop := Claim7.holds Tryd.pinned (.plain (OpenSpec.ofChange topicAllSpec)) topicAllCard

/-- THE SECOND FORM's CARD OF 'hubbublaw6.TopicTells'. -/
def topicTellsUptoCard : Claim7 := { stood := { row := topicTellsUptoRow, standIns := [], harness := (true, "803194b9de2cb8b30cb4d1f9de2f64cee43d281a769806b114f78446ed549fb9"), looks := false }, kinds := [], alts := [], laidByText := true, laidKinds := [.data, .pinned], laidTests := true, laidLooks := .later }
def TopicTellsUptoCardSaid : Prop := Claim7.holds Tryd.pinned (.plain (OpenSpec.upto topicTellsSpec)) topicTellsUptoCard

/-- THE SECOND FORM's CARD OF 'hubbublaw6.TopicWithin'. -/
def topicWithinUptoCard : Claim7 := { stood := { row := topicWithinUptoRow, standIns := [], harness := (true, "803194b9de2cb8b30cb4d1f9de2f64cee43d281a769806b114f78446ed549fb9"), looks := false }, kinds := [], alts := [], laidByText := true, laidKinds := [.data, .pinned], laidTests := true, laidLooks := .later }
def TopicWithinUptoCardSaid : Prop := Claim7.holds Tryd.pinned (.plain (OpenSpec.upto topicWithinSpec)) topicWithinUptoCard

/-- THE SECOND FORM's CARD OF 'hubbublaw6.TopicOwn'. -/
def topicOwnUptoCard : Claim7 := { stood := { row := topicOwnUptoRow, standIns := [], harness := (true, "803194b9de2cb8b30cb4d1f9de2f64cee43d281a769806b114f78446ed549fb9"), looks := false }, kinds := [], alts := [], laidByText := true, laidKinds := [.data, .pinned], laidTests := true, laidLooks := .later }
def TopicOwnUptoCardSaid : Prop := Claim7.holds Tryd.pinned (.plain (OpenSpec.upto topicOwnSpec)) topicOwnUptoCard

/-- THE SECOND FORM's CARD OF 'hubbublaw6.TopicLevels'. -/
def topicLevelsUptoCard : Claim7 := { stood := { row := topicLevelsUptoRow, standIns := [], harness := (true, "803194b9de2cb8b30cb4d1f9de2f64cee43d281a769806b114f78446ed549fb9"), looks := false }, kinds := [], alts := [], laidByText := true, laidKinds := [.data, .pinned], laidTests := true, laidLooks := .later }
def TopicLevelsUptoCardSaid : Prop := Claim7.holds Tryd.pinned (.plain (OpenSpec.upto topicLevelsSpec)) topicLevelsUptoCard

/-- THE SECOND FORM's CARD OF 'hubbublaw6.TopicAll'. -/
def topicAllUptoCard : Claim7 := { stood := { row := topicAllUptoRow, standIns := [], harness := (true, "803194b9de2cb8b30cb4d1f9de2f64cee43d281a769806b114f78446ed549fb9"), looks := false }, kinds := [], alts := [], laidByText := true, laidKinds := [.data, .pinned], laidTests := true, laidLooks := .later }
def TopicAllUptoCardSaid : Prop := Claim7.holds Tryd.pinned (.plain (OpenSpec.upto topicAllSpec)) topicAllUptoCard
end Rows
end Go.Proofs.YtpdacegpjofdeaaDoor
