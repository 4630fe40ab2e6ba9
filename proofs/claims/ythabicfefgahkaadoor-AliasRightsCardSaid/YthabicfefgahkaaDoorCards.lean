/-
  DERIVED. GIVEN WITH THE SEED: THE CARDS: each row of YthabicfefgahkaaDoorRows.lean that lists a variable, with what it lists TIED to the program's text (the seventh form; the later family's looks); each row that meets fmt, with fmt's text TOLD by the authors' own Lean function (tested against real Go, not proved from fmt's source: count such statements apart). THE CARD IS WHAT COUNTS. Prove the row's statement (the work); the ties are given (YthabicfefgahkaaDoorTie.lean); close each card by the builder's one call (the guide's Derived/Test/ToyasCard.lean, 'card_holds'). Laid BY PROGRAM, IN A SANDBOX (cutbox-door.mjs). By AI agents, Wed Nov 11 2026. No macro, syntax, notation, axiom, sorry.
-/
import Derived.Test.YthabicfefgahkaaDoorRows
import GoSem.ClaimSeven
namespace Go.Proofs.YthabicfefgahkaaDoor
namespace Rows

/-- THE TIED CARD OF 'pouchlaw12.AliasRights'. -/
def aliasRightsCard : Claim7 := { stood := { row := aliasRightsRow, standIns := [], harness := (true, "3484e6c2f8a2da6cc5f6cc05024c3bd1509a57cfb6fade1dfbbfefc468398134"), looks := false }, kinds := [], alts := [], laidByText := true, laidKinds := [.data, .pinned], laidTests := true, laidLooks := .later }
def AliasRightsCardSaid : Prop := Claim7.holds Tryd.pinned (.plain (OpenSpec.ofChange aliasRightsSpec)) aliasRightsCard

/-- THE TIED CARD OF 'pouchlaw12.AliasUses'. -/
def aliasUsesCard : Claim7 := { stood := { row := aliasUsesRow, standIns := [], harness := (true, "3484e6c2f8a2da6cc5f6cc05024c3bd1509a57cfb6fade1dfbbfefc468398134"), looks := false }, kinds := [], alts := [], laidByText := true, laidKinds := [.data, .pinned], laidTests := true, laidLooks := .later }
def AliasUsesCardSaid : Prop := Claim7.holds Tryd.pinned (.plain (OpenSpec.ofChange aliasUsesSpec)) aliasUsesCard

/-- THE SECOND FORM's CARD OF 'pouchlaw12.AliasRights'. -/
def aliasRightsUptoCard : Claim7 := { stood := { row := aliasRightsUptoRow, standIns := [], harness := (true, "3484e6c2f8a2da6cc5f6cc05024c3bd1509a57cfb6fade1dfbbfefc468398134"), looks := false }, kinds := [], alts := [], laidByText := true, laidKinds := [.data, .pinned], laidTests := true, laidLooks := .later }
def AliasRightsUptoCardSaid : Prop := Claim7.holds Tryd.pinned (.plain (OpenSpec.upto aliasRightsSpec)) aliasRightsUptoCard

/-- THE SECOND FORM's CARD OF 'pouchlaw12.AliasUses'. -/
def aliasUsesUptoCard : Claim7 := { stood := { row := aliasUsesUptoRow, standIns := [], harness := (true, "3484e6c2f8a2da6cc5f6cc05024c3bd1509a57cfb6fade1dfbbfefc468398134"), looks := false }, kinds := [], alts := [], laidByText := true, laidKinds := [.data, .pinned], laidTests := true, laidLooks := .later }
def AliasUsesUptoCardSaid : Prop := Claim7.holds Tryd.pinned (.plain (OpenSpec.upto aliasUsesSpec)) aliasUsesUptoCard
end Rows
end Go.Proofs.YthabicfefgahkaaDoor
