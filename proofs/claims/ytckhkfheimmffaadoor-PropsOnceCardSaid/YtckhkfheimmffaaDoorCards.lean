/-
  DERIVED. GIVEN WITH THE SEED: THE CARDS: each row of YtckhkfheimmffaaDoorRows.lean that lists a variable, with what it lists TIED to the program's text (the seventh form; the later family's looks); each row that meets fmt, with fmt's text TOLD by the authors' own Lean function (tested against real Go, not proved from fmt's source: count such statements apart). THE CARD IS WHAT COUNTS. Prove the row's statement (the work); the ties are given (YtckhkfheimmffaaDoorTie.lean); close each card by the builder's one call (the guide's Derived/Test/ToyasCard.lean, 'card_holds'). Laid BY PROGRAM, IN A SANDBOX (cutbox-door.mjs). By AI agents, Wed Nov 11 2026. No macro, syntax, notation, axiom, sorry.
-/
import Derived.Test.YtckhkfheimmffaaDoorRows
import GoSem.ClaimSeven
namespace Go.Proofs.YtckhkfheimmffaaDoor
namespace Rows

/-- THE TIED CARD OF 'pouchlaw06.PropsPuts'. -/
def propsPutsCard : Claim7 := { stood := { row := propsPutsRow, standIns := [], harness := (true, "1fc63ec3e48d14704e3571bc238f28d2a16390d8f95b205a1cf836fbb7346d2f"), looks := false }, kinds := [], alts := [], laidByText := true, laidKinds := [.data, .pinned], laidTests := true, laidLooks := .later }
def PropsPutsCardSaid : Prop := Claim7.holds Tryd.pinned (.plain (OpenSpec.ofChange propsPutsSpec)) propsPutsCard

/-- THE TIED CARD OF 'pouchlaw06.PropsTakes'. -/
def propsTakesCard : Claim7 := { stood := { row := propsTakesRow, standIns := [], harness := (true, "1fc63ec3e48d14704e3571bc238f28d2a16390d8f95b205a1cf836fbb7346d2f"), looks := false }, kinds := [], alts := [], laidByText := true, laidKinds := [.data, .pinned], laidTests := true, laidLooks := .later }
def PropsTakesCardSaid : Prop := Claim7.holds Tryd.pinned (.plain (OpenSpec.ofChange propsTakesSpec)) propsTakesCard

/-- THE TIED CARD OF 'pouchlaw06.PropsEach'. -/
def propsEachCard : Claim7 := { stood := { row := propsEachRow, standIns := [], harness := (true, "1fc63ec3e48d14704e3571bc238f28d2a16390d8f95b205a1cf836fbb7346d2f"), looks := false }, kinds := [], alts := [], laidByText := true, laidKinds := [.data, .pinned], laidTests := true, laidLooks := .later }
def PropsEachCardSaid : Prop := Claim7.holds Tryd.pinned (.plain (OpenSpec.ofChange propsEachSpec)) propsEachCard

/-- THE TIED CARD OF 'pouchlaw06.PropsOnce'. -/
def propsOnceCard : Claim7 := { stood := { row := propsOnceRow, standIns := [], harness := (true, "1fc63ec3e48d14704e3571bc238f28d2a16390d8f95b205a1cf836fbb7346d2f"), looks := false }, kinds := [], alts := [], laidByText := true, laidKinds := [.data, .pinned], laidTests := true, laidLooks := .later }
def PropsOnceCardSaid : Prop := Claim7.holds Tryd.pinned (.plain (OpenSpec.ofChange propsOnceSpec)) propsOnceCard

/-- THE TIED CARD OF 'pouchlaw06.PropsChecks'. -/
def propsChecksCard : Claim7 := { stood := { row := propsChecksRow, standIns := [], harness := (true, "1fc63ec3e48d14704e3571bc238f28d2a16390d8f95b205a1cf836fbb7346d2f"), looks := false }, kinds := [], alts := [], laidByText := true, laidKinds := [.data, .pinned], laidTests := true, laidLooks := .later }
def PropsChecksCardSaid : Prop := Claim7.holds Tryd.pinned (.plain (OpenSpec.ofChange propsChecksSpec)) propsChecksCard

/-- THE TIED CARD OF 'pouchlaw06.PropsFixes'. -/
def propsFixesCard : Claim7 := { stood := { row := propsFixesRow, standIns := [], harness := (true, "1fc63ec3e48d14704e3571bc238f28d2a16390d8f95b205a1cf836fbb7346d2f"), looks := false }, kinds := [], alts := [], laidByText := true, laidKinds := [.data, .pinned], laidTests := true, laidLooks := .later }
def PropsFixesCardSaid : Prop := Claim7.holds Tryd.pinned (.plain (OpenSpec.ofChange propsFixesSpec)) propsFixesCard

/-- THE SECOND FORM's CARD OF 'pouchlaw06.PropsPuts'. -/
def propsPutsUptoCard : Claim7 := { stood := { row := propsPutsUptoRow, standIns := [], harness := (true, "1fc63ec3e48d14704e3571bc238f28d2a16390d8f95b205a1cf836fbb7346d2f"), looks := false }, kinds := [], alts := [], laidByText := true, laidKinds := [.data, .pinned], laidTests := true, laidLooks := .later }
def PropsPutsUptoCardSaid : Prop := Claim7.holds Tryd.pinned (.plain (OpenSpec.upto propsPutsSpec)) propsPutsUptoCard

/-- THE SECOND FORM's CARD OF 'pouchlaw06.PropsTakes'. -/
def propsTakesUptoCard : Claim7 := { stood := { row := propsTakesUptoRow, standIns := [], harness := (true, "1fc63ec3e48d14704e3571bc238f28d2a16390d8f95b205a1cf836fbb7346d2f"), looks := false }, kinds := [], alts := [], laidByText := true, laidKinds := [.data, .pinned], laidTests := true, laidLooks := .later }
def PropsTakesUptoCardSaid : Prop := Claim7.holds Tryd.pinned (.plain (OpenSpec.upto propsTakesSpec)) propsTakesUptoCard

/-- THE SECOND FORM's CARD OF 'pouchlaw06.PropsEach'. -/
def propsEachUptoCard : Claim7 := { stood := { row := propsEachUptoRow, standIns := [], harness := (true, "1fc63ec3e48d14704e3571bc238f28d2a16390d8f95b205a1cf836fbb7346d2f"), looks := false }, kinds := [], alts := [], laidByText := true, laidKinds := [.data, .pinned], laidTests := true, laidLooks := .later }
def PropsEachUptoCardSaid : Prop := Claim7.holds Tryd.pinned (.plain (OpenSpec.upto propsEachSpec)) propsEachUptoCard

/-- THE SECOND FORM's CARD OF 'pouchlaw06.PropsOnce'. -/
def propsOnceUptoCard : Claim7 := { stood := { row := propsOnceUptoRow, standIns := [], harness := (true, "1fc63ec3e48d14704e3571bc238f28d2a16390d8f95b205a1cf836fbb7346d2f"), looks := false }, kinds := [], alts := [], laidByText := true, laidKinds := [.data, .pinned], laidTests := true, laidLooks := .later }
def PropsOnceUptoCardSaid : Prop := Claim7.holds Tryd.pinned (.plain (OpenSpec.upto propsOnceSpec)) propsOnceUptoCard

/-- THE SECOND FORM's CARD OF 'pouchlaw06.PropsChecks'. -/
def propsChecksUptoCard : Claim7 := { stood := { row := propsChecksUptoRow, standIns := [], harness := (true, "1fc63ec3e48d14704e3571bc238f28d2a16390d8f95b205a1cf836fbb7346d2f"), looks := false }, kinds := [], alts := [], laidByText := true, laidKinds := [.data, .pinned], laidTests := true, laidLooks := .later }
def PropsChecksUptoCardSaid : Prop := Claim7.holds Tryd.pinned (.plain (OpenSpec.upto propsChecksSpec)) propsChecksUptoCard

/-- THE SECOND FORM's CARD OF 'pouchlaw06.PropsFixes'. -/
def propsFixesUptoCard : Claim7 := { stood := { row := propsFixesUptoRow, standIns := [], harness := (true, "1fc63ec3e48d14704e3571bc238f28d2a16390d8f95b205a1cf836fbb7346d2f"), looks := false }, kinds := [], alts := [], laidByText := true, laidKinds := [.data, .pinned], laidTests := true, laidLooks := .later }
def PropsFixesUptoCardSaid : Prop := Claim7.holds Tryd.pinned (.plain (OpenSpec.upto propsFixesSpec)) propsFixesUptoCard
end Rows
end Go.Proofs.YtckhkfheimmffaaDoor
