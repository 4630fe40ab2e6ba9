/-
  DERIVED. GIVEN WITH THE SEED: THE CARDS: each row of YtaegbddjeibolaaDoorRows.lean that lists a variable, with what it lists TIED to the program's text (the seventh form; the later family's looks); each row that meets fmt, with fmt's text TOLD by the authors' own Lean function (tested against real Go, not proved from fmt's source: count such statements apart). THE CARD IS WHAT COUNTS. Prove the row's statement (the work); the ties are given (YtaegbddjeibolaaDoorTie.lean); close each card by the builder's one call (the guide's Derived/Test/ToyasCard.lean, 'card_holds'). Laid BY PROGRAM, IN A SANDBOX (cutbox-door.mjs). By AI agents, Wed Nov 11 2026. No macro, syntax, notation, axiom, sorry.
-/
import Derived.Test.YtaegbddjeibolaaDoorRows
import GoSem.ClaimSeven
namespace Go.Proofs.YtaegbddjeibolaaDoor
namespace Rows

/-- THE TIED CARD OF 'pouchlaw02.TextRights'. -/
def textRightsCard : Claim7 := { stood := { row := textRightsRow, standIns := [], harness := (true, "fe4be7fade296e122339613ba3f4c61e4b02d8ef8e286693fea93c9f5d22be36"), looks := false }, kinds := [], alts := [], laidByText := true, laidKinds := [.data, .pinned], laidTests := true, laidLooks := .later }
def TextRightsCardSaid : Prop := Claim7.holds Tryd.pinned (.plain (OpenSpec.ofChange textRightsSpec)) textRightsCard

/-- THE TIED CARD OF 'pouchlaw02.TextFours'. -/
def textFoursCard : Claim7 := { stood := { row := textFoursRow, standIns := [], harness := (true, "fe4be7fade296e122339613ba3f4c61e4b02d8ef8e286693fea93c9f5d22be36"), looks := false }, kinds := [], alts := [], laidByText := true, laidKinds := [.data, .pinned], laidTests := true, laidLooks := .later }
def TextFoursCardSaid : Prop := Claim7.holds Tryd.pinned (.plain (OpenSpec.ofChange textFoursSpec)) textFoursCard

/-- THE TIED CARD OF 'pouchlaw02.TextJoins'. -/
def textJoinsCard : Claim7 := { stood := { row := textJoinsRow, standIns := [], harness := (true, "fe4be7fade296e122339613ba3f4c61e4b02d8ef8e286693fea93c9f5d22be36"), looks := false }, kinds := [], alts := [], laidByText := true, laidKinds := [.data, .pinned], laidTests := true, laidLooks := .later }
def TextJoinsCardSaid : Prop := Claim7.holds Tryd.pinned (.plain (OpenSpec.ofChange textJoinsSpec)) textJoinsCard

/-- THE TIED CARD OF 'pouchlaw02.TextLongs'. -/
def textLongsCard : Claim7 := { stood := { row := textLongsRow, standIns := [], harness := (true, "fe4be7fade296e122339613ba3f4c61e4b02d8ef8e286693fea93c9f5d22be36"), looks := false }, kinds := [], alts := [], laidByText := true, laidKinds := [.data, .pinned], laidTests := true, laidLooks := .later }
def TextLongsCardSaid : Prop := Claim7.holds Tryd.pinned (.plain (OpenSpec.ofChange textLongsSpec)) textLongsCard

/-- THE SECOND FORM's CARD OF 'pouchlaw02.TextRights'. -/
def textRightsUptoCard : Claim7 := { stood := { row := textRightsUptoRow, standIns := [], harness := (true, "fe4be7fade296e122339613ba3f4c61e4b02d8ef8e286693fea93c9f5d22be36"), looks := false }, kinds := [], alts := [], laidByText := true, laidKinds := [.data, .pinned], laidTests := true, laidLooks := .later }
def TextRightsUptoCardSaid : Prop := Claim7.holds Tryd.pinned (.plain (OpenSpec.upto textRightsSpec)) textRightsUptoCard

/-- THE SECOND FORM's CARD OF 'pouchlaw02.TextFours'. -/
def textFoursUptoCard : Claim7 := { stood := { row := textFoursUptoRow, standIns := [], harness := (true, "fe4be7fade296e122339613ba3f4c61e4b02d8ef8e286693fea93c9f5d22be36"), looks := false }, kinds := [], alts := [], laidByText := true, laidKinds := [.data, .pinned], laidTests := true, laidLooks := .later }
def TextFoursUptoCardSaid : Prop := Claim7.holds Tryd.pinned (.plain (OpenSpec.upto textFoursSpec)) textFoursUptoCard

/-- THE SECOND FORM's CARD OF 'pouchlaw02.TextJoins'. -/
def textJoinsUptoCard : Claim7 := { stood := { row := textJoinsUptoRow, standIns := [], harness := (true, "fe4be7fade296e122339613ba3f4c61e4b02d8ef8e286693fea93c9f5d22be36"), looks := false }, kinds := [], alts := [], laidByText := true, laidKinds := [.data, .pinned], laidTests := true, laidLooks := .later }
def TextJoinsUptoCardSaid : Prop := Claim7.holds Tryd.pinned (.plain (OpenSpec.upto textJoinsSpec)) textJoinsUptoCard

/-- THE SECOND FORM's CARD OF 'pouchlaw02.TextLongs'. -/
def textLongsUptoCard : Claim7 := { stood := { row := textLongsUptoRow, standIns := [], harness := (true, "fe4be7fade296e122339613ba3f4c61e4b02d8ef8e286693fea93c9f5d22be36"), looks := false }, kinds := [], alts := [], laidByText := true, laidKinds := [.data, .pinned], laidTests := true, laidLooks := .later }
def TextLongsUptoCardSaid : Prop := Claim7.holds Tryd.pinned (.plain (OpenSpec.upto textLongsSpec)) textLongsUptoCard
end Rows
end Go.Proofs.YtaegbddjeibolaaDoor
