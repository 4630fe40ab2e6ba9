/-
  DERIVED. GIVEN WITH THE SEED: THE CARDS: each row of YtpggofndaadeiaaDoorRows.lean that lists a variable, with what it lists TIED to the program's text (the seventh form; the later family's looks); each row that meets fmt, with fmt's text TOLD by the authors' own Lean function (tested against real Go, not proved from fmt's source: count such statements apart). THE CARD IS WHAT COUNTS. Prove the row's statement (the work); the ties are given (YtpggofndaadeiaaDoorTie.lean); close each card by the builder's one call (the guide's Derived/Test/ToyasCard.lean, 'card_holds'). Laid BY PROGRAM, IN A SANDBOX (cutbox-door.mjs). By AI agents, Wed Nov 11 2026. No macro, syntax, notation, axiom, sorry.
-/
import Derived.Test.YtpggofndaadeiaaDoorRows
import GoSem.ClaimSeven
namespace Go.Proofs.YtpggofndaadeiaaDoor
namespace Rows

/-- THE TIED CARD OF 'pouchlaw05.PropTypes'. -/
def propTypesCard : Claim7 := { stood := { row := propTypesRow, standIns := [], harness := (true, "841035e3da58f21fb07af0b580fffb6e821889514fa9adacabe61273cab441ef"), looks := false }, kinds := [], alts := [], laidByText := true, laidKinds := [.data, .pinned], laidTests := true, laidLooks := .later }
def PropTypesCardSaid : Prop := Claim7.holds Tryd.pinned (.plain (OpenSpec.ofChange propTypesSpec)) propTypesCard

/-- THE TIED CARD OF 'pouchlaw05.PropValues'. -/
def propValuesCard : Claim7 := { stood := { row := propValuesRow, standIns := [], harness := (true, "841035e3da58f21fb07af0b580fffb6e821889514fa9adacabe61273cab441ef"), looks := false }, kinds := [], alts := [], laidByText := true, laidKinds := [.data, .pinned], laidTests := true, laidLooks := .later }
def PropValuesCardSaid : Prop := Claim7.holds Tryd.pinned (.plain (OpenSpec.ofChange propValuesSpec)) propValuesCard

/-- THE TIED CARD OF 'pouchlaw05.PropFixes'. -/
def propFixesCard : Claim7 := { stood := { row := propFixesRow, standIns := [], harness := (true, "841035e3da58f21fb07af0b580fffb6e821889514fa9adacabe61273cab441ef"), looks := false }, kinds := [], alts := [], laidByText := true, laidKinds := [.data, .pinned], laidTests := true, laidLooks := .later }
def PropFixesCardSaid : Prop := Claim7.holds Tryd.pinned (.plain (OpenSpec.ofChange propFixesSpec)) propFixesCard

/-- THE TIED CARD OF 'pouchlaw04.TopicTells'. -/
def topicTellsCard : Claim7 := { stood := { row := topicTellsRow, standIns := [], harness := (true, "841035e3da58f21fb07af0b580fffb6e821889514fa9adacabe61273cab441ef"), looks := false }, kinds := [], alts := [], laidByText := true, laidKinds := [.data, .pinned], laidTests := true, laidLooks := .later }
def TopicTellsCardSaid : Prop := Claim7.holds Tryd.pinned (.plain (OpenSpec.ofChange topicTellsSpec)) topicTellsCard

/-- THE TIED CARD OF 'pouchlaw04.TopicMatches'. -/
def topicMatchesCard : Claim7 := { stood := { row := topicMatchesRow, standIns := [], harness := (true, "841035e3da58f21fb07af0b580fffb6e821889514fa9adacabe61273cab441ef"), looks := false }, kinds := [], alts := [], laidByText := true, laidKinds := [.data, .pinned], laidTests := true, laidLooks := .later }
def TopicMatchesCardSaid : Prop := Claim7.holds Tryd.pinned (.plain (OpenSpec.ofChange topicMatchesSpec)) topicMatchesCard

/-- THE TIED CARD OF 'pouchlaw04.TopicSelves'. -/
def topicSelvesCard : Claim7 := { stood := { row := topicSelvesRow, standIns := [], harness := (true, "841035e3da58f21fb07af0b580fffb6e821889514fa9adacabe61273cab441ef"), looks := false }, kinds := [], alts := [], laidByText := true, laidKinds := [.data, .pinned], laidTests := true, laidLooks := .later }
def TopicSelvesCardSaid : Prop := Claim7.holds Tryd.pinned (.plain (OpenSpec.ofChange topicSelvesSpec)) topicSelvesCard

/-- THE TIED CARD OF 'pouchlaw04.TopicDeeper'. -/
def topicDeeperCard : Claim7 := { stood := { row := topicDeeperRow, standIns := [], harness := (true, "841035e3da58f21fb07af0b580fffb6e821889514fa9adacabe61273cab441ef"), looks := false }, kinds := [], alts := [], laidByText := true, laidKinds := [.data, .pinned], laidTests := true, laidLooks := .later }
def TopicDeeperCardSaid : Prop := Claim7.holds Tryd.pinned (.plain (OpenSpec.ofChange topicDeeperSpec)) topicDeeperCard

/-- THE SECOND FORM's CARD OF 'pouchlaw05.PropTypes'. -/
def propTypesUptoCard : Claim7 := { stood := { row := propTypesUptoRow, standIns := [], harness := (true, "841035e3da58f21fb07af0b580fffb6e821889514fa9adacabe61273cab441ef"), looks := false }, kinds := [], alts := [], laidByText := true, laidKinds := [.data, .pinned], laidTests := true, laidLooks := .later }
def PropTypesUptoCardSaid : Prop := Claim7.holds Tryd.pinned (.plain (OpenSpec.upto propTypesSpec)) propTypesUptoCard

/-- THE SECOND FORM's CARD OF 'pouchlaw05.PropValues'. -/
def propValuesUptoCard : Claim7 := { stood := { row := propValuesUptoRow, standIns := [], harness := (true, "841035e3da58f21fb07af0b580fffb6e821889514fa9adacabe61273cab441ef"), looks := false }, kinds := [], alts := [], laidByText := true, laidKinds := [.data, .pinned], laidTests := true, laidLooks := .later }
def PropValuesUptoCardSaid : Prop := Claim7.holds Tryd.pinned (.plain (OpenSpec.upto propValuesSpec)) propValuesUptoCard

/-- THE SECOND FORM's CARD OF 'pouchlaw05.PropFixes'. -/
def propFixesUptoCard : Claim7 := { stood := { row := propFixesUptoRow, standIns := [], harness := (true, "841035e3da58f21fb07af0b580fffb6e821889514fa9adacabe61273cab441ef"), looks := false }, kinds := [], alts := [], laidByText := true, laidKinds := [.data, .pinned], laidTests := true, laidLooks := .later }
def PropFixesUptoCardSaid : Prop := Claim7.holds Tryd.pinned (.plain (OpenSpec.upto propFixesSpec)) propFixesUptoCard

/-- THE SECOND FORM's CARD OF 'pouchlaw04.TopicTells'. -/
def topicTellsUptoCard : Claim7 := { stood := { row := topicTellsUptoRow, standIns := [], harness := (true, "841035e3da58f21fb07af0b580fffb6e821889514fa9adacabe61273cab441ef"), looks := false }, kinds := [], alts := [], laidByText := true, laidKinds := [.data, .pinned], laidTests := true, laidLooks := .later }
def TopicTellsUptoCardSaid : Prop := Claim7.holds Tryd.pinned (.plain (OpenSpec.upto topicTellsSpec)) topicTellsUptoCard

/-- THE SECOND FORM's CARD OF 'pouchlaw04.TopicMatches'. -/
def topicMatchesUptoCard : Claim7 := { stood := { row := topicMatchesUptoRow, standIns := [], harness := (true, "841035e3da58f21fb07af0b580fffb6e821889514fa9adacabe61273cab441ef"), looks := false }, kinds := [], alts := [], laidByText := true, laidKinds := [.data, .pinned], laidTests := true, laidLooks := .later }
def TopicMatchesUptoCardSaid : Prop := Claim7.holds Tryd.pinned (.plain (OpenSpec.upto topicMatchesSpec)) topicMatchesUptoCard

/-- THE SECOND FORM's CARD OF 'pouchlaw04.TopicSelves'. -/
def topicSelvesUptoCard : Claim7 := { stood := { row := topicSelvesUptoRow, standIns := [], harness := (true, "841035e3da58f21fb07af0b580fffb6e821889514fa9adacabe61273cab441ef"), looks := false }, kinds := [], alts := [], laidByText := true, laidKinds := [.data, .pinned], laidTests := true, laidLooks := .later }
def TopicSelvesUptoCardSaid : Prop := Claim7.holds Tryd.pinned (.plain (OpenSpec.upto topicSelvesSpec)) topicSelvesUptoCard

/-- THE SECOND FORM's CARD OF 'pouchlaw04.TopicDeeper'. -/
def topicDeeperUptoCard : Claim7 := { stood := { row := topicDeeperUptoRow, standIns := [], harness := (true, "841035e3da58f21fb07af0b580fffb6e821889514fa9adacabe61273cab441ef"), looks := false }, kinds := [], alts := [], laidByText := true, laidKinds := [.data, .pinned], laidTests := true, laidLooks := .later }
def TopicDeeperUptoCardSaid : Prop := Claim7.holds Tryd.pinned (.plain (OpenSpec.upto topicDeeperSpec)) topicDeeperUptoCard
end Rows
end Go.Proofs.YtpggofndaadeiaaDoor
