/-
  NARROWER THAN 'FOR EVERY INPUT', by the rows' own cells (each row's printed sentence says how): PropTypes: laid · PropValues: laid · PropFixes: laid · TopicTells: laid · TopicMatches: laid · TopicSelves: laid · TopicDeeper: laid.
  DERIVED. THE GIVEN ROWS OF THIS SEAT. 7 by the template 'for every input the law returns true; each argument reads behind the call as it read before'; 0 by the template 'total and deterministic' (their statements: YtpggofndaadeiaaDoorTotals.lean).
  GIVEN WITH THE SEED: the statements are not yours to turn. If you find one false, say at which input.
  Laid BY PROGRAM, IN A SANDBOX (cutbox-rows.mjs): the forced cells as the released guide's own fill.sh prints them over the translation fddd9e175e372d80… (all of the seat's roots in one cut). By AI agents, Wed Nov 11 2026. No macro, syntax, notation, axiom, sorry.
-/
import Derived.Test.YtpggofndaadeiaaDoorChecked
import GoSem.PinnedTables
import GoSem.Claim
import GoSem.ClaimJoined
import GoSem.ClaimMapViews
import Derived.JoinedTies
import Derived.KernelRfl
namespace Go.Proofs.YtpggofndaadeiaaDoor
/- THE CELL 'sum', in the pinned program and in every row, IS THE sha256 OF THE DUMP (.gsa) THAT YtpggofndaadeiaaDoorProg.lean LOADS. Nothing in Lean hashes anything: it is a label: what it is worth is what the hold of that sum in a sandbox is worth. -/
noncomputable def Tryd.pinned : Pinned := { name := "ytpggofndaadeiaadoor", sum := "fddd9e175e372d809645e86be360f6e633d4c8855e51add8ec0e8de89412a2e2", checked := Tryd.checked }
namespace Rows
def none {H : Type} : Left H := { results := [], args := [] }

/- WHAT THE LISTED PACKAGE-LEVEL VARIABLES READ AS WHEN THE CALL BEGINS. Each datum BY PROGRAM (the guide's laid-datum.mjs) off the statement by which the dump's own 'gosem.cut.vars' lays the variable. In a bare row this is a premise. The card (YtpggofndaadeiaaDoorCards.lean) ties it to the program's text. -/
def laid_unicode_utf8_acceptRanges {H : Type} : DataW H := .agg [.agg [.lit (.int .u8 128), .lit (.int .u8 191)], .agg [.lit (.int .u8 160), .lit (.int .u8 191)], .agg [.lit (.int .u8 128), .lit (.int .u8 159)], .agg [.lit (.int .u8 144), .lit (.int .u8 191)], .agg [.lit (.int .u8 128), .lit (.int .u8 143)], .agg [.lit (.int .u8 0), .lit (.int .u8 0)], .agg [.lit (.int .u8 0), .lit (.int .u8 0)], .agg [.lit (.int .u8 0), .lit (.int .u8 0)], .agg [.lit (.int .u8 0), .lit (.int .u8 0)], .agg [.lit (.int .u8 0), .lit (.int .u8 0)], .agg [.lit (.int .u8 0), .lit (.int .u8 0)], .agg [.lit (.int .u8 0), .lit (.int .u8 0)], .agg [.lit (.int .u8 0), .lit (.int .u8 0)], .agg [.lit (.int .u8 0), .lit (.int .u8 0)], .agg [.lit (.int .u8 0), .lit (.int .u8 0)], .agg [.lit (.int .u8 0), .lit (.int .u8 0)]]
/-- One of Go's own tables, pinned by name: the form's constant. -/
def laid_unicode_utf8_first : DataW Unit := Go.Pinned.utf8First

/-- 'pouchlaw05.PropTypes': WHATEVER THE INPUT: true; the input reads as it did. -/
def propTypesSpec : ChangeSpec := { name := "propTypes", fn := fun _ => fun
  | [d1, d2] => { results := [.lit (.bool true)], args := [d1, d2] }
  | _ => none }
def propTypesRow : OpenClaim := { program := "ytpggofndaadeiaadoor", sum := "fddd9e175e372d809645e86be360f6e633d4c8855e51add8ec0e8de89412a2e2", func := "pouch/pouchlaw05.PropTypes", spec := "propTypes", inPlace := ["internal/bytealg.IndexByteString", "internal/bytealg.IndexString"], named := ["unicode/utf8.first", "unicode/utf8.acceptRanges", "internal/bytealg.MaxLen"], apart := false, laid := [("unicode/utf8.acceptRanges", laid_unicode_utf8_acceptRanges), ("unicode/utf8.first", laid_unicode_utf8_first)] }
def PropTypesSaid : Prop := propTypesRow.holds Tryd.pinned (OpenSpec.ofChange propTypesSpec)

/-- ITS FALSE NEIGHBOUR: 'it returns false'. Refute it at one input. -/
def propTypesWrong : ChangeSpec := { name := "propTypes", fn := fun _ => fun
  | [d1, d2] => { results := [.lit (.bool false)], args := [d1, d2] }
  | _ => none }
def PropTypesWrongFalsely : Prop := propTypesRow.holds Tryd.pinned (OpenSpec.ofChange propTypesWrong)

/-- 'pouchlaw05.PropValues': WHATEVER THE INPUT: true; the input reads as it did. -/
def propValuesSpec : ChangeSpec := { name := "propValues", fn := fun _ => fun
  | [d] => { results := [.lit (.bool true)], args := [d] }
  | _ => none }
def propValuesRow : OpenClaim := { program := "ytpggofndaadeiaadoor", sum := "fddd9e175e372d809645e86be360f6e633d4c8855e51add8ec0e8de89412a2e2", func := "pouch/pouchlaw05.PropValues", spec := "propValues", inPlace := ["internal/bytealg.IndexByteString", "internal/bytealg.IndexString"], named := ["unicode/utf8.first", "unicode/utf8.acceptRanges", "internal/bytealg.MaxLen"], apart := false, laid := [("unicode/utf8.acceptRanges", laid_unicode_utf8_acceptRanges), ("unicode/utf8.first", laid_unicode_utf8_first)] }
def PropValuesSaid : Prop := propValuesRow.holds Tryd.pinned (OpenSpec.ofChange propValuesSpec)

/-- ITS FALSE NEIGHBOUR: 'it returns false'. Refute it at one input. -/
def propValuesWrong : ChangeSpec := { name := "propValues", fn := fun _ => fun
  | [d] => { results := [.lit (.bool false)], args := [d] }
  | _ => none }
def PropValuesWrongFalsely : Prop := propValuesRow.holds Tryd.pinned (OpenSpec.ofChange propValuesWrong)

/-- 'pouchlaw05.PropFixes': WHATEVER THE INPUT: true; the input reads as it did. -/
def propFixesSpec : ChangeSpec := { name := "propFixes", fn := fun _ => fun
  | [d1, d2] => { results := [.lit (.bool true)], args := [d1, d2] }
  | _ => none }
def propFixesRow : OpenClaim := { program := "ytpggofndaadeiaadoor", sum := "fddd9e175e372d809645e86be360f6e633d4c8855e51add8ec0e8de89412a2e2", func := "pouch/pouchlaw05.PropFixes", spec := "propFixes", inPlace := ["internal/bytealg.IndexByteString", "internal/bytealg.IndexString"], named := ["unicode/utf8.first", "unicode/utf8.acceptRanges", "internal/bytealg.MaxLen"], apart := false, laid := [("unicode/utf8.acceptRanges", laid_unicode_utf8_acceptRanges), ("unicode/utf8.first", laid_unicode_utf8_first)] }
def PropFixesSaid : Prop := propFixesRow.holds Tryd.pinned (OpenSpec.ofChange propFixesSpec)

/-- ITS FALSE NEIGHBOUR: 'it returns false'. Refute it at one input. -/
def propFixesWrong : ChangeSpec := { name := "propFixes", fn := fun _ => fun
  | [d1, d2] => { results := [.lit (.bool false)], args := [d1, d2] }
  | _ => none }
def PropFixesWrongFalsely : Prop := propFixesRow.holds Tryd.pinned (OpenSpec.ofChange propFixesWrong)

/-- 'pouchlaw04.TopicTells': WHATEVER THE INPUT: true; the input reads as it did. -/
def topicTellsSpec : ChangeSpec := { name := "topicTells", fn := fun _ => fun
  | [d] => { results := [.lit (.bool true)], args := [d] }
  | _ => none }
def topicTellsRow : OpenClaim := { program := "ytpggofndaadeiaadoor", sum := "fddd9e175e372d809645e86be360f6e633d4c8855e51add8ec0e8de89412a2e2", func := "pouch/pouchlaw04.TopicTells", spec := "topicTells", inPlace := ["internal/bytealg.IndexByteString", "internal/bytealg.IndexString", "internal/bytealg.CountString"], named := ["unicode/utf8.first", "unicode/utf8.acceptRanges", "internal/bytealg.MaxLen"], apart := false, laid := [("unicode/utf8.acceptRanges", laid_unicode_utf8_acceptRanges), ("unicode/utf8.first", laid_unicode_utf8_first)] }
def TopicTellsSaid : Prop := topicTellsRow.holds Tryd.pinned (OpenSpec.ofChange topicTellsSpec)

/-- ITS FALSE NEIGHBOUR: 'it returns false'. Refute it at one input. -/
def topicTellsWrong : ChangeSpec := { name := "topicTells", fn := fun _ => fun
  | [d] => { results := [.lit (.bool false)], args := [d] }
  | _ => none }
def TopicTellsWrongFalsely : Prop := topicTellsRow.holds Tryd.pinned (OpenSpec.ofChange topicTellsWrong)

/-- 'pouchlaw04.TopicMatches': WHATEVER THE INPUT: true; the input reads as it did. -/
def topicMatchesSpec : ChangeSpec := { name := "topicMatches", fn := fun _ => fun
  | [d1, d2] => { results := [.lit (.bool true)], args := [d1, d2] }
  | _ => none }
def topicMatchesRow : OpenClaim := { program := "ytpggofndaadeiaadoor", sum := "fddd9e175e372d809645e86be360f6e633d4c8855e51add8ec0e8de89412a2e2", func := "pouch/pouchlaw04.TopicMatches", spec := "topicMatches", inPlace := ["internal/bytealg.IndexByteString", "internal/bytealg.IndexString", "internal/bytealg.CountString"], named := ["unicode/utf8.first", "unicode/utf8.acceptRanges", "internal/bytealg.MaxLen"], apart := false, laid := [("unicode/utf8.acceptRanges", laid_unicode_utf8_acceptRanges), ("unicode/utf8.first", laid_unicode_utf8_first)] }
def TopicMatchesSaid : Prop := topicMatchesRow.holds Tryd.pinned (OpenSpec.ofChange topicMatchesSpec)

/-- ITS FALSE NEIGHBOUR: 'it returns false'. Refute it at one input. -/
def topicMatchesWrong : ChangeSpec := { name := "topicMatches", fn := fun _ => fun
  | [d1, d2] => { results := [.lit (.bool false)], args := [d1, d2] }
  | _ => none }
def TopicMatchesWrongFalsely : Prop := topicMatchesRow.holds Tryd.pinned (OpenSpec.ofChange topicMatchesWrong)

/-- 'pouchlaw04.TopicSelves': WHATEVER THE INPUT: true; the input reads as it did. -/
def topicSelvesSpec : ChangeSpec := { name := "topicSelves", fn := fun _ => fun
  | [d1, d2] => { results := [.lit (.bool true)], args := [d1, d2] }
  | _ => none }
def topicSelvesRow : OpenClaim := { program := "ytpggofndaadeiaadoor", sum := "fddd9e175e372d809645e86be360f6e633d4c8855e51add8ec0e8de89412a2e2", func := "pouch/pouchlaw04.TopicSelves", spec := "topicSelves", inPlace := ["internal/bytealg.IndexByteString", "internal/bytealg.IndexString", "internal/bytealg.CountString"], named := ["unicode/utf8.first", "unicode/utf8.acceptRanges", "internal/bytealg.MaxLen"], apart := false, laid := [("unicode/utf8.acceptRanges", laid_unicode_utf8_acceptRanges), ("unicode/utf8.first", laid_unicode_utf8_first)] }
def TopicSelvesSaid : Prop := topicSelvesRow.holds Tryd.pinned (OpenSpec.ofChange topicSelvesSpec)

/-- ITS FALSE NEIGHBOUR: 'it returns false'. Refute it at one input. -/
def topicSelvesWrong : ChangeSpec := { name := "topicSelves", fn := fun _ => fun
  | [d1, d2] => { results := [.lit (.bool false)], args := [d1, d2] }
  | _ => none }
def TopicSelvesWrongFalsely : Prop := topicSelvesRow.holds Tryd.pinned (OpenSpec.ofChange topicSelvesWrong)

/-- 'pouchlaw04.TopicDeeper': WHATEVER THE INPUT: true; the input reads as it did. -/
def topicDeeperSpec : ChangeSpec := { name := "topicDeeper", fn := fun _ => fun
  | [d1, d2] => { results := [.lit (.bool true)], args := [d1, d2] }
  | _ => none }
def topicDeeperRow : OpenClaim := { program := "ytpggofndaadeiaadoor", sum := "fddd9e175e372d809645e86be360f6e633d4c8855e51add8ec0e8de89412a2e2", func := "pouch/pouchlaw04.TopicDeeper", spec := "topicDeeper", inPlace := ["internal/bytealg.IndexByteString", "internal/bytealg.IndexString", "internal/bytealg.CountString"], named := ["unicode/utf8.first", "unicode/utf8.acceptRanges", "internal/bytealg.MaxLen"], apart := false, laid := [("unicode/utf8.acceptRanges", laid_unicode_utf8_acceptRanges), ("unicode/utf8.first", laid_unicode_utf8_first)] }
def TopicDeeperSaid : Prop := topicDeeperRow.holds Tryd.pinned (OpenSpec.ofChange topicDeeperSpec)

/-- ITS FALSE NEIGHBOUR: 'it returns false'. Refute it at one input. -/
def topicDeeperWrong : ChangeSpec := { name := "topicDeeper", fn := fun _ => fun
  | [d1, d2] => { results := [.lit (.bool false)], args := [d1, d2] }
  | _ => none }
def TopicDeeperWrongFalsely : Prop := topicDeeperRow.holds Tryd.pinned (OpenSpec.ofChange topicDeeperWrong)

/- THE SECOND FORM. 'bulk': how many values and letters a reading holds, each counted each time it is reached (what is shared counts as often as it is met; a slice's spare places count too). A statement '..UptoSaid' is the law's where the arguments, and the package variables that the reading takes, are together of bulk at most 1048576: NARROWER than '..Said'. Prove '..Said' where nothing that the law and all that it calls make is longer than what came in: it says more and counts as full. Else prove '..UptoSaid'. A law counts once. -/
mutual
def uptoBulk {H : Type} : DataW H → Nat
  | .lit (.string bytes) => bytes.length + 1
  | .lit _ => 1
  | .nil => 1
  | .ptr d => uptoBulk d + 1
  | .slice elems spare => uptoBulkAll elems + uptoBulkAll spare + 1
  | .agg parts => uptoBulkAll parts + 1
  | .iface _ d => uptoBulk d + 1
  | .map entries => uptoBulkEntries entries + 1
  | .held _ => 1
def uptoBulkAll {H : Type} : List (DataW H) → Nat
  | [] => 0
  | d :: r => uptoBulk d + uptoBulkAll r
def uptoBulkEntries {H : Type} : List (Lit × DataW H) → Nat
  | [] => 0
  | x :: r => uptoBulkEntry x + uptoBulkEntries r
def uptoBulkEntry {H : Type} : Lit × DataW H → Nat
  | (.string bytes, d) => bytes.length + uptoBulk d + 1
  | (_, d) => uptoBulk d + 1
 end
def uptoSmall : (H : Type) → List (DataW H) → Bool := fun _ ds => decide (uptoBulkAll ds ≤ 1048576)
def OpenSpec.upto (s : _root_.Go.ChangeSpec) : _root_.Go.OpenSpec := { _root_.Go.OpenSpec.ofChange s with cond := some uptoSmall }

/-- 'pouchlaw05.PropTypes', WHERE WHAT IT READS IS OF BULK AT MOST 1048576: true; the input reads as it did. -/
def propTypesUptoRow : OpenClaim := { program := "ytpggofndaadeiaadoor", sum := "fddd9e175e372d809645e86be360f6e633d4c8855e51add8ec0e8de89412a2e2", func := "pouch/pouchlaw05.PropTypes", spec := "propTypes", inPlace := ["internal/bytealg.IndexByteString", "internal/bytealg.IndexString"], named := ["unicode/utf8.first", "unicode/utf8.acceptRanges", "internal/bytealg.MaxLen"], apart := false, laid := [("unicode/utf8.acceptRanges", laid_unicode_utf8_acceptRanges), ("unicode/utf8.first", laid_unicode_utf8_first)], narrowed := true }
def PropTypesUptoSaid : Prop := propTypesUptoRow.holds Tryd.pinned (OpenSpec.upto propTypesSpec)

/-- 'pouchlaw05.PropValues', WHERE WHAT IT READS IS OF BULK AT MOST 1048576: true; the input reads as it did. -/
def propValuesUptoRow : OpenClaim := { program := "ytpggofndaadeiaadoor", sum := "fddd9e175e372d809645e86be360f6e633d4c8855e51add8ec0e8de89412a2e2", func := "pouch/pouchlaw05.PropValues", spec := "propValues", inPlace := ["internal/bytealg.IndexByteString", "internal/bytealg.IndexString"], named := ["unicode/utf8.first", "unicode/utf8.acceptRanges", "internal/bytealg.MaxLen"], apart := false, laid := [("unicode/utf8.acceptRanges", laid_unicode_utf8_acceptRanges), ("unicode/utf8.first", laid_unicode_utf8_first)], narrowed := true }
def PropValuesUptoSaid : Prop := propValuesUptoRow.holds Tryd.pinned (OpenSpec.upto propValuesSpec)

/-- 'pouchlaw05.PropFixes', WHERE WHAT IT READS IS OF BULK AT MOST 1048576: true; the input reads as it did. -/
def propFixesUptoRow : OpenClaim := { program := "ytpggofndaadeiaadoor", sum := "fddd9e175e372d809645e86be360f6e633d4c8855e51add8ec0e8de89412a2e2", func := "pouch/pouchlaw05.PropFixes", spec := "propFixes", inPlace := ["internal/bytealg.IndexByteString", "internal/bytealg.IndexString"], named := ["unicode/utf8.first", "unicode/utf8.acceptRanges", "internal/bytealg.MaxLen"], apart := false, laid := [("unicode/utf8.acceptRanges", laid_unicode_utf8_acceptRanges), ("unicode/utf8.first", laid_unicode_utf8_first)], narrowed := true }
def PropFixesUptoSaid : Prop := propFixesUptoRow.holds Tryd.pinned (OpenSpec.upto propFixesSpec)

/-- 'pouchlaw04.TopicTells', WHERE WHAT IT READS IS OF BULK AT MOST 1048576: true; the input reads as it did. -/
def topicTellsUptoRow : OpenClaim := { program := "ytpggofndaadeiaadoor", sum := "fddd9e175e372d809645e86be360f6e633d4c8855e51add8ec0e8de89412a2e2", func := "pouch/pouchlaw04.TopicTells", spec := "topicTells", inPlace := ["internal/bytealg.IndexByteString", "internal/bytealg.IndexString", "internal/bytealg.CountString"], named := ["unicode/utf8.first", "unicode/utf8.acceptRanges", "internal/bytealg.MaxLen"], apart := false, laid := [("unicode/utf8.acceptRanges", laid_unicode_utf8_acceptRanges), ("unicode/utf8.first", laid_unicode_utf8_first)], narrowed := true }
def TopicTellsUptoSaid : Prop := topicTellsUptoRow.holds Tryd.pinned (OpenSpec.upto topicTellsSpec)

/-- 'pouchlaw04.TopicMatches', WHERE WHAT IT READS IS OF BULK AT MOST 1048576: true; the input reads as it did. -/
def topicMatchesUptoRow : OpenClaim := { program := "ytpggofndaadeiaadoor", sum := "fddd9e175e372d809645e86be360f6e633d4c8855e51add8ec0e8de89412a2e2", func := "pouch/pouchlaw04.TopicMatches", spec := "topicMatches", inPlace := ["internal/bytealg.IndexByteString", "internal/bytealg.IndexString", "internal/bytealg.CountString"], named := ["unicode/utf8.first", "unicode/utf8.acceptRanges", "internal/bytealg.MaxLen"], apart := false, laid := [("unicode/utf8.acceptRanges", laid_unicode_utf8_acceptRanges), ("unicode/utf8.first", laid_unicode_utf8_first)], narrowed := true }
def TopicMatchesUptoSaid : Prop := topicMatchesUptoRow.holds Tryd.pinned (OpenSpec.upto topicMatchesSpec)

/-- 'pouchlaw04.TopicSelves', WHERE WHAT IT READS IS OF BULK AT MOST 1048576: true; the input reads as it did. -/
def topicSelvesUptoRow : OpenClaim := { program := "ytpggofndaadeiaadoor", sum := "fddd9e175e372d809645e86be360f6e633d4c8855e51add8ec0e8de89412a2e2", func := "pouch/pouchlaw04.TopicSelves", spec := "topicSelves", inPlace := ["internal/bytealg.IndexByteString", "internal/bytealg.IndexString", "internal/bytealg.CountString"], named := ["unicode/utf8.first", "unicode/utf8.acceptRanges", "internal/bytealg.MaxLen"], apart := false, laid := [("unicode/utf8.acceptRanges", laid_unicode_utf8_acceptRanges), ("unicode/utf8.first", laid_unicode_utf8_first)], narrowed := true }
def TopicSelvesUptoSaid : Prop := topicSelvesUptoRow.holds Tryd.pinned (OpenSpec.upto topicSelvesSpec)

/-- 'pouchlaw04.TopicDeeper', WHERE WHAT IT READS IS OF BULK AT MOST 1048576: true; the input reads as it did. -/
def topicDeeperUptoRow : OpenClaim := { program := "ytpggofndaadeiaadoor", sum := "fddd9e175e372d809645e86be360f6e633d4c8855e51add8ec0e8de89412a2e2", func := "pouch/pouchlaw04.TopicDeeper", spec := "topicDeeper", inPlace := ["internal/bytealg.IndexByteString", "internal/bytealg.IndexString", "internal/bytealg.CountString"], named := ["unicode/utf8.first", "unicode/utf8.acceptRanges", "internal/bytealg.MaxLen"], apart := false, laid := [("unicode/utf8.acceptRanges", laid_unicode_utf8_acceptRanges), ("unicode/utf8.first", laid_unicode_utf8_first)], narrowed := true }
def TopicDeeperUptoSaid : Prop := topicDeeperUptoRow.holds Tryd.pinned (OpenSpec.upto topicDeeperSpec)

end Rows
end Go.Proofs.YtpggofndaadeiaaDoor
