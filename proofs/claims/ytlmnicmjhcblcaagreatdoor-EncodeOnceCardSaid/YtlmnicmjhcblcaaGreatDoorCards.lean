/-
  DERIVED. GIVEN WITH THE SEED: THE CARDS: each row of YtlmnicmjhcblcaaGreatDoorRows.lean that lists a variable, with what it lists TIED to the program's text (the seventh form; the later family's looks); each row that meets fmt, with fmt's text TOLD by the authors' own Lean function (tested against real Go, not proved from fmt's source: count such statements apart). THE CARD IS WHAT COUNTS. Prove the row's statement (the work); the ties are given (YtlmnicmjhcblcaaGreatDoorTie.lean); close each card by the builder's one call (the guide's Derived/Test/ToyasCard.lean, 'card_holds'). Laid BY PROGRAM, IN A SANDBOX (cutbox-door.mjs). By AI agents, Wed Nov 11 2026. No macro, syntax, notation, axiom, sorry.
-/
import Derived.Test.YtlmnicmjhcblcaaGreatDoorRows
import GoSem.ClaimSeven
namespace Go.Proofs.YtlmnicmjhcblcaaGreatDoor
namespace Rows

/-- THE TIED CARD OF 'pouchlaw07.PacketRights'. -/
def packetRightsCard : Claim7 := { stood := { row := packetRightsRow, standIns := [], harness := (true, "f0a4efecccd8a93f46196f5d4270261e5966183debdf9c25da1ba4d4d6278b3f"), looks := false }, kinds := [], alts := [], laidByText := true, laidKinds := [.data, .pinned], laidTests := true, laidLooks := .later }
def PacketRightsCardSaid : Prop := Claim7.holds Tryz.pinned (.plain (OpenSpec.ofChange packetRightsSpec)) packetRightsCard

/-- THE TIED CARD OF 'pouchlaw07.PacketFixes'. -/
def packetFixesCard : Claim7 := { stood := { row := packetFixesRow, standIns := [], harness := (true, "f0a4efecccd8a93f46196f5d4270261e5966183debdf9c25da1ba4d4d6278b3f"), looks := false }, kinds := [], alts := [], laidByText := true, laidKinds := [.data, .pinned], laidTests := true, laidLooks := .later }
def PacketFixesCardSaid : Prop := Claim7.holds Tryz.pinned (.plain (OpenSpec.ofChange packetFixesSpec)) packetFixesCard

/-- THE TIED CARD OF 'pouchlaw07.PacketSames'. -/
def packetSamesCard : Claim7 := { stood := { row := packetSamesRow, standIns := [], harness := (true, "f0a4efecccd8a93f46196f5d4270261e5966183debdf9c25da1ba4d4d6278b3f"), looks := false }, kinds := [], alts := [], laidByText := true, laidKinds := [.data, .pinned], laidTests := true, laidLooks := .later }
def PacketSamesCardSaid : Prop := Claim7.holds Tryz.pinned (.plain (OpenSpec.ofChange packetSamesSpec)) packetSamesCard

/-- THE TIED CARD OF 'pouchlaw07.PacketBares'. -/
def packetBaresCard : Claim7 := { stood := { row := packetBaresRow, standIns := [], harness := (true, "f0a4efecccd8a93f46196f5d4270261e5966183debdf9c25da1ba4d4d6278b3f"), looks := false }, kinds := [], alts := [], laidByText := true, laidKinds := [.data, .pinned], laidTests := true, laidLooks := .later }
def PacketBaresCardSaid : Prop := Claim7.holds Tryz.pinned (.plain (OpenSpec.ofChange packetBaresSpec)) packetBaresCard

/-- THE TIED CARD OF 'pouchlaw13.LimitsOf'. -/
def limitsOfCard : Claim7 := { stood := { row := limitsOfRow, standIns := [], harness := (true, "f0a4efecccd8a93f46196f5d4270261e5966183debdf9c25da1ba4d4d6278b3f"), looks := false }, kinds := [], alts := [], laidByText := true, laidKinds := [.data, .pinned], laidTests := true, laidLooks := .later }
def LimitsOfCardSaid : Prop := Claim7.holds Tryz.pinned (.plain (OpenSpec.ofChange limitsOfSpec)) limitsOfCard

/-- THE TIED CARD OF 'pouchlaw13.LimitsFixes'. -/
def limitsFixesCard : Claim7 := { stood := { row := limitsFixesRow, standIns := [], harness := (true, "f0a4efecccd8a93f46196f5d4270261e5966183debdf9c25da1ba4d4d6278b3f"), looks := false }, kinds := [], alts := [], laidByText := true, laidKinds := [.data, .pinned], laidTests := true, laidLooks := .later }
def LimitsFixesCardSaid : Prop := Claim7.holds Tryz.pinned (.plain (OpenSpec.ofChange limitsFixesSpec)) limitsFixesCard

/-- THE TIED CARD OF 'pouchlaw08.EncodePackets'. -/
def encodePacketsCard : Claim7 := { stood := { row := encodePacketsRow, standIns := [], harness := (true, "f0a4efecccd8a93f46196f5d4270261e5966183debdf9c25da1ba4d4d6278b3f"), looks := false }, kinds := [], alts := [], laidByText := true, laidKinds := [.data, .pinned], laidTests := true, laidLooks := .later }
def EncodePacketsCardSaid : Prop := Claim7.holds Tryz.pinned (.plain (OpenSpec.ofChange encodePacketsSpec)) encodePacketsCard

/-- THE TIED CARD OF 'pouchlaw08.EncodeFixes'. -/
def encodeFixesCard : Claim7 := { stood := { row := encodeFixesRow, standIns := [], harness := (true, "f0a4efecccd8a93f46196f5d4270261e5966183debdf9c25da1ba4d4d6278b3f"), looks := false }, kinds := [], alts := [], laidByText := true, laidKinds := [.data, .pinned], laidTests := true, laidLooks := .later }
def EncodeFixesCardSaid : Prop := Claim7.holds Tryz.pinned (.plain (OpenSpec.ofChange encodeFixesSpec)) encodeFixesCard

/-- THE TIED CARD OF 'pouchlaw08.EncodeOnce'. -/
def encodeOnceCard : Claim7 := { stood := { row := encodeOnceRow, standIns := [], harness := (true, "f0a4efecccd8a93f46196f5d4270261e5966183debdf9c25da1ba4d4d6278b3f"), looks := false }, kinds := [], alts := [], laidByText := true, laidKinds := [.data, .pinned], laidTests := true, laidLooks := .later }
def EncodeOnceCardSaid : Prop := Claim7.holds Tryz.pinned (.plain (OpenSpec.ofChange encodeOnceSpec)) encodeOnceCard

/-- THE TIED CARD OF 'pouchlaw08.EncodeLong'. -/
def encodeLongCard : Claim7 := { stood := { row := encodeLongRow, standIns := [], harness := (true, "f0a4efecccd8a93f46196f5d4270261e5966183debdf9c25da1ba4d4d6278b3f"), looks := false }, kinds := [], alts := [], laidByText := true, laidKinds := [.data, .pinned], laidTests := true, laidLooks := .later }
def EncodeLongCardSaid : Prop := Claim7.holds Tryz.pinned (.plain (OpenSpec.ofChange encodeLongSpec)) encodeLongCard

/-- THE SECOND FORM's CARD OF 'pouchlaw07.PacketRights'. -/
def packetRightsUptoCard : Claim7 := { stood := { row := packetRightsUptoRow, standIns := [], harness := (true, "f0a4efecccd8a93f46196f5d4270261e5966183debdf9c25da1ba4d4d6278b3f"), looks := false }, kinds := [], alts := [], laidByText := true, laidKinds := [.data, .pinned], laidTests := true, laidLooks := .later }
def PacketRightsUptoCardSaid : Prop := Claim7.holds Tryz.pinned (.plain (OpenSpec.upto packetRightsSpec)) packetRightsUptoCard

/-- THE SECOND FORM's CARD OF 'pouchlaw07.PacketFixes'. -/
def packetFixesUptoCard : Claim7 := { stood := { row := packetFixesUptoRow, standIns := [], harness := (true, "f0a4efecccd8a93f46196f5d4270261e5966183debdf9c25da1ba4d4d6278b3f"), looks := false }, kinds := [], alts := [], laidByText := true, laidKinds := [.data, .pinned], laidTests := true, laidLooks := .later }
def PacketFixesUptoCardSaid : Prop := Claim7.holds Tryz.pinned (.plain (OpenSpec.upto packetFixesSpec)) packetFixesUptoCard

/-- THE SECOND FORM's CARD OF 'pouchlaw07.PacketSames'. -/
def packetSamesUptoCard : Claim7 := { stood := { row := packetSamesUptoRow, standIns := [], harness := (true, "f0a4efecccd8a93f46196f5d4270261e5966183debdf9c25da1ba4d4d6278b3f"), looks := false }, kinds := [], alts := [], laidByText := true, laidKinds := [.data, .pinned], laidTests := true, laidLooks := .later }
def PacketSamesUptoCardSaid : Prop := Claim7.holds Tryz.pinned (.plain (OpenSpec.upto packetSamesSpec)) packetSamesUptoCard

/-- THE SECOND FORM's CARD OF 'pouchlaw07.PacketBares'. -/
def packetBaresUptoCard : Claim7 := { stood := { row := packetBaresUptoRow, standIns := [], harness := (true, "f0a4efecccd8a93f46196f5d4270261e5966183debdf9c25da1ba4d4d6278b3f"), looks := false }, kinds := [], alts := [], laidByText := true, laidKinds := [.data, .pinned], laidTests := true, laidLooks := .later }
def PacketBaresUptoCardSaid : Prop := Claim7.holds Tryz.pinned (.plain (OpenSpec.upto packetBaresSpec)) packetBaresUptoCard

/-- THE SECOND FORM's CARD OF 'pouchlaw13.LimitsOf'. -/
def limitsOfUptoCard : Claim7 := { stood := { row := limitsOfUptoRow, standIns := [], harness := (true, "f0a4efecccd8a93f46196f5d4270261e5966183debdf9c25da1ba4d4d6278b3f"), looks := false }, kinds := [], alts := [], laidByText := true, laidKinds := [.data, .pinned], laidTests := true, laidLooks := .later }
def LimitsOfUptoCardSaid : Prop := Claim7.holds Tryz.pinned (.plain (OpenSpec.upto limitsOfSpec)) limitsOfUptoCard

/-- THE SECOND FORM's CARD OF 'pouchlaw13.LimitsFixes'. -/
def limitsFixesUptoCard : Claim7 := { stood := { row := limitsFixesUptoRow, standIns := [], harness := (true, "f0a4efecccd8a93f46196f5d4270261e5966183debdf9c25da1ba4d4d6278b3f"), looks := false }, kinds := [], alts := [], laidByText := true, laidKinds := [.data, .pinned], laidTests := true, laidLooks := .later }
def LimitsFixesUptoCardSaid : Prop := Claim7.holds Tryz.pinned (.plain (OpenSpec.upto limitsFixesSpec)) limitsFixesUptoCard

/-- THE SECOND FORM's CARD OF 'pouchlaw08.EncodePackets'. -/
def encodePacketsUptoCard : Claim7 := { stood := { row := encodePacketsUptoRow, standIns := [], harness := (true, "f0a4efecccd8a93f46196f5d4270261e5966183debdf9c25da1ba4d4d6278b3f"), looks := false }, kinds := [], alts := [], laidByText := true, laidKinds := [.data, .pinned], laidTests := true, laidLooks := .later }
def EncodePacketsUptoCardSaid : Prop := Claim7.holds Tryz.pinned (.plain (OpenSpec.upto encodePacketsSpec)) encodePacketsUptoCard

/-- THE SECOND FORM's CARD OF 'pouchlaw08.EncodeFixes'. -/
def encodeFixesUptoCard : Claim7 := { stood := { row := encodeFixesUptoRow, standIns := [], harness := (true, "f0a4efecccd8a93f46196f5d4270261e5966183debdf9c25da1ba4d4d6278b3f"), looks := false }, kinds := [], alts := [], laidByText := true, laidKinds := [.data, .pinned], laidTests := true, laidLooks := .later }
def EncodeFixesUptoCardSaid : Prop := Claim7.holds Tryz.pinned (.plain (OpenSpec.upto encodeFixesSpec)) encodeFixesUptoCard

/-- THE SECOND FORM's CARD OF 'pouchlaw08.EncodeOnce'. -/
def encodeOnceUptoCard : Claim7 := { stood := { row := encodeOnceUptoRow, standIns := [], harness := (true, "f0a4efecccd8a93f46196f5d4270261e5966183debdf9c25da1ba4d4d6278b3f"), looks := false }, kinds := [], alts := [], laidByText := true, laidKinds := [.data, .pinned], laidTests := true, laidLooks := .later }
def EncodeOnceUptoCardSaid : Prop := Claim7.holds Tryz.pinned (.plain (OpenSpec.upto encodeOnceSpec)) encodeOnceUptoCard

/-- THE SECOND FORM's CARD OF 'pouchlaw08.EncodeLong'. -/
def encodeLongUptoCard : Claim7 := { stood := { row := encodeLongUptoRow, standIns := [], harness := (true, "f0a4efecccd8a93f46196f5d4270261e5966183debdf9c25da1ba4d4d6278b3f"), looks := false }, kinds := [], alts := [], laidByText := true, laidKinds := [.data, .pinned], laidTests := true, laidLooks := .later }
def EncodeLongUptoCardSaid : Prop := Claim7.holds Tryz.pinned (.plain (OpenSpec.upto encodeLongSpec)) encodeLongUptoCard
end Rows
end Go.Proofs.YtlmnicmjhcblcaaGreatDoor
