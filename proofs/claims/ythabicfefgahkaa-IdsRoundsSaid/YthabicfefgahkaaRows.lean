/-
  No cell of these rows narrows 'for every input' (looked for: loops, veiled, ifaces, maps, wideKeys, modest, calm, conditions, laid).
  DERIVED. THE GIVEN ROWS OF THIS SEAT. 4 by the template 'for every input the law returns true; each argument reads behind the call as it read before'; 0 by the template 'total and deterministic' (their statements: YthabicfefgahkaaTotals.lean).
  GIVEN WITH THE SEED: the statements are not yours to turn. If you find one false, say at which input.
  Laid BY PROGRAM, IN A SANDBOX (cutbox-rows.mjs): the forced cells as the released guide's own fill.sh prints them over the translation 6a09fd4a31fc03fa… (all of the seat's roots in one cut). By AI agents, Wed Nov 11 2026. No macro, syntax, notation, axiom, sorry.
-/
import Derived.Test.YthabicfefgahkaaChecked
import GoSem.Claim
import GoSem.ClaimJoined
import GoSem.ClaimMapViews
import Derived.JoinedTies
import Derived.KernelRfl
namespace Go.Proofs.Ythabicfefgahkaa
/- THE CELL 'sum', in the pinned program and in every row, IS THE sha256 OF THE DUMP (.gsa) THAT YthabicfefgahkaaProg.lean LOADS. Nothing in Lean hashes anything: it is a label: what it is worth is what the hold of that sum in a sandbox is worth. -/
noncomputable def Try.pinned : Pinned := { name := "ythabicfefgahkaa", sum := "6a09fd4a31fc03faeb0a8450e625b1b97284ab9300933b0fd21a8e7c40885e56", checked := Try.checked }
namespace Rows
def none {H : Type} : Left H := { results := [], args := [] }

/-- 'pouchlaw11.IdsRounds': WHATEVER THE INPUT: true; the input reads as it did. -/
def idsRoundsSpec : ChangeSpec := { name := "idsRounds", fn := fun _ => fun
  | [d1, d2, d3] => { results := [.lit (.bool true)], args := [d1, d2, d3] }
  | _ => none }
def idsRoundsRow : OpenClaim := { program := "ythabicfefgahkaa", sum := "6a09fd4a31fc03faeb0a8450e625b1b97284ab9300933b0fd21a8e7c40885e56", func := "pouch/pouchlaw11.IdsRounds", spec := "idsRounds", inPlace := ["slices.overlaps[pouch/ids.Row]"], unfollowed := true, recurses := true, apart := false }
def IdsRoundsSaid : Prop := idsRoundsRow.holds Try.pinned (OpenSpec.ofChange idsRoundsSpec)

/-- ITS FALSE NEIGHBOUR: 'it returns false'. Refute it at one input. -/
def idsRoundsWrong : ChangeSpec := { name := "idsRounds", fn := fun _ => fun
  | [d1, d2, d3] => { results := [.lit (.bool false)], args := [d1, d2, d3] }
  | _ => none }
def IdsRoundsWrongFalsely : Prop := idsRoundsRow.holds Try.pinned (OpenSpec.ofChange idsRoundsWrong)

/-- 'pouchlaw11.IdsCounts': WHATEVER THE INPUT: true; the input reads as it did. -/
def idsCountsSpec : ChangeSpec := { name := "idsCounts", fn := fun _ => fun
  | [d1, d2, d3] => { results := [.lit (.bool true)], args := [d1, d2, d3] }
  | _ => none }
def idsCountsRow : OpenClaim := { program := "ythabicfefgahkaa", sum := "6a09fd4a31fc03faeb0a8450e625b1b97284ab9300933b0fd21a8e7c40885e56", func := "pouch/pouchlaw11.IdsCounts", spec := "idsCounts", inPlace := ["slices.overlaps[pouch/ids.Row]"], unfollowed := true, recurses := true, apart := false }
def IdsCountsSaid : Prop := idsCountsRow.holds Try.pinned (OpenSpec.ofChange idsCountsSpec)

/-- ITS FALSE NEIGHBOUR: 'it returns false'. Refute it at one input. -/
def idsCountsWrong : ChangeSpec := { name := "idsCounts", fn := fun _ => fun
  | [d1, d2, d3] => { results := [.lit (.bool false)], args := [d1, d2, d3] }
  | _ => none }
def IdsCountsWrongFalsely : Prop := idsCountsRow.holds Try.pinned (OpenSpec.ofChange idsCountsWrong)

/-- 'pouchlaw11.IdsRights': WHATEVER THE INPUT: true; the input reads as it did. -/
def idsRightsSpec : ChangeSpec := { name := "idsRights", fn := fun _ => fun
  | [d] => { results := [.lit (.bool true)], args := [d] }
  | _ => none }
def idsRightsRow : OpenClaim := { program := "ythabicfefgahkaa", sum := "6a09fd4a31fc03faeb0a8450e625b1b97284ab9300933b0fd21a8e7c40885e56", func := "pouch/pouchlaw11.IdsRights", spec := "idsRights", inPlace := ["slices.overlaps[pouch/ids.Row]"], unfollowed := true, recurses := true, apart := false }
def IdsRightsSaid : Prop := idsRightsRow.holds Try.pinned (OpenSpec.ofChange idsRightsSpec)

/-- ITS FALSE NEIGHBOUR: 'it returns false'. Refute it at one input. -/
def idsRightsWrong : ChangeSpec := { name := "idsRights", fn := fun _ => fun
  | [d] => { results := [.lit (.bool false)], args := [d] }
  | _ => none }
def IdsRightsWrongFalsely : Prop := idsRightsRow.holds Try.pinned (OpenSpec.ofChange idsRightsWrong)

/-- 'pouchlaw11.IdsActs': WHATEVER THE INPUT: true; the input reads as it did. -/
def idsActsSpec : ChangeSpec := { name := "idsActs", fn := fun _ => fun
  | [d] => { results := [.lit (.bool true)], args := [d] }
  | _ => none }
def idsActsRow : OpenClaim := { program := "ythabicfefgahkaa", sum := "6a09fd4a31fc03faeb0a8450e625b1b97284ab9300933b0fd21a8e7c40885e56", func := "pouch/pouchlaw11.IdsActs", spec := "idsActs", inPlace := ["slices.overlaps[pouch/ids.Row]"], unfollowed := true, recurses := true, apart := false }
def IdsActsSaid : Prop := idsActsRow.holds Try.pinned (OpenSpec.ofChange idsActsSpec)

/-- ITS FALSE NEIGHBOUR: 'it returns false'. Refute it at one input. -/
def idsActsWrong : ChangeSpec := { name := "idsActs", fn := fun _ => fun
  | [d] => { results := [.lit (.bool false)], args := [d] }
  | _ => none }
def IdsActsWrongFalsely : Prop := idsActsRow.holds Try.pinned (OpenSpec.ofChange idsActsWrong)

/- THE SECOND FORM. 'bulk': how many values and letters a reading holds, each counted each time it is reached (what is shared counts as often as it is met; a slice's spare places count too). A statement '..UptoSaid' is the law's where the arguments, and the package variables that the reading takes, are together of bulk at most 1048576: NARROWER than '..Said'. Prove '..Said' where nothing that the law and all that it calls make is longer than what came in: it says more and counts as full. Else prove '..UptoSaid'. A law counts once. -/
mutual
def uptoBulk {H : Type} : DataW H → Nat
  | .lit (.string bytes) => bytes.length + 1
  | .lit _ => 1
  | .nil => 1
  | .ptr d => uptoBulk d + 1
  | .slice elems spare => uptoBulkAll elems + uptoBulkAll spare + 1
  | .agg parts => uptoBulkAll parts + 1
  | .iface _ d => uptoBulk d + 1
  | .map entries => uptoBulkEntries entries + 1
  | .held _ => 1
def uptoBulkAll {H : Type} : List (DataW H) → Nat
  | [] => 0
  | d :: r => uptoBulk d + uptoBulkAll r
def uptoBulkEntries {H : Type} : List (Lit × DataW H) → Nat
  | [] => 0
  | x :: r => uptoBulkEntry x + uptoBulkEntries r
def uptoBulkEntry {H : Type} : Lit × DataW H → Nat
  | (.string bytes, d) => bytes.length + uptoBulk d + 1
  | (_, d) => uptoBulk d + 1
 end
def uptoSmall : (H : Type) → List (DataW H) → Bool := fun _ ds => decide (uptoBulkAll ds ≤ 1048576)
def OpenSpec.upto (s : _root_.Go.ChangeSpec) : _root_.Go.OpenSpec := { _root_.Go.OpenSpec.ofChange s with cond := some uptoSmall }

/-- 'pouchlaw11.IdsRounds', WHERE WHAT IT READS IS OF BULK AT MOST 1048576: true; the input reads as it did. -/
def idsRoundsUptoRow : OpenClaim := { program := "ythabicfefgahkaa", sum := "6a09fd4a31fc03faeb0a8450e625b1b97284ab9300933b0fd21a8e7c40885e56", func := "pouch/pouchlaw11.IdsRounds", spec := "idsRounds", inPlace := ["slices.overlaps[pouch/ids.Row]"], unfollowed := true, recurses := true, apart := false, narrowed := true }
def IdsRoundsUptoSaid : Prop := idsRoundsUptoRow.holds Try.pinned (OpenSpec.upto idsRoundsSpec)

/-- 'pouchlaw11.IdsCounts', WHERE WHAT IT READS IS OF BULK AT MOST 1048576: true; the input reads as it did. -/
def idsCountsUptoRow : OpenClaim := { program := "ythabicfefgahkaa", sum := "6a09fd4a31fc03faeb0a8450e625b1b97284ab9300933b0fd21a8e7c40885e56", func := "pouch/pouchlaw11.IdsCounts", spec := "idsCounts", inPlace := ["slices.overlaps[pouch/ids.Row]"], unfollowed := true, recurses := true, apart := false, narrowed := true }
def IdsCountsUptoSaid : Prop := idsCountsUptoRow.holds Try.pinned (OpenSpec.upto idsCountsSpec)

/-- 'pouchlaw11.IdsRights', WHERE WHAT IT READS IS OF BULK AT MOST 1048576: true; the input reads as it did. -/
def idsRightsUptoRow : OpenClaim := { program := "ythabicfefgahkaa", sum := "6a09fd4a31fc03faeb0a8450e625b1b97284ab9300933b0fd21a8e7c40885e56", func := "pouch/pouchlaw11.IdsRights", spec := "idsRights", inPlace := ["slices.overlaps[pouch/ids.Row]"], unfollowed := true, recurses := true, apart := false, narrowed := true }
def IdsRightsUptoSaid : Prop := idsRightsUptoRow.holds Try.pinned (OpenSpec.upto idsRightsSpec)

/-- 'pouchlaw11.IdsActs', WHERE WHAT IT READS IS OF BULK AT MOST 1048576: true; the input reads as it did. -/
def idsActsUptoRow : OpenClaim := { program := "ythabicfefgahkaa", sum := "6a09fd4a31fc03faeb0a8450e625b1b97284ab9300933b0fd21a8e7c40885e56", func := "pouch/pouchlaw11.IdsActs", spec := "idsActs", inPlace := ["slices.overlaps[pouch/ids.Row]"], unfollowed := true, recurses := true, apart := false, narrowed := true }
def IdsActsUptoSaid : Prop := idsActsUptoRow.holds Try.pinned (OpenSpec.upto idsActsSpec)

end Rows
end Go.Proofs.Ythabicfefgahkaa
