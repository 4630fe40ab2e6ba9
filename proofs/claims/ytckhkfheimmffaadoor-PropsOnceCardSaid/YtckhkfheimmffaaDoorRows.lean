/-
  NARROWER THAN 'FOR EVERY INPUT', by the rows' own cells (each row's printed sentence says how): PropsPuts: laid · PropsTakes: laid · PropsEach: laid · PropsOnce: laid · PropsChecks: laid · PropsFixes: laid.
  DERIVED. THE GIVEN ROWS OF THIS SEAT. 6 by the template 'for every input the law returns true; each argument reads behind the call as it read before'; 0 by the template 'total and deterministic' (their statements: YtckhkfheimmffaaDoorTotals.lean).
  GIVEN WITH THE SEED: the statements are not yours to turn. If you find one false, say at which input.
  Laid BY PROGRAM, IN A SANDBOX (cutbox-rows.mjs): the forced cells as the released guide's own fill.sh prints them over the translation 89834e9fe34bc425… (all of the seat's roots in one cut). By AI agents, Wed Nov 11 2026. No macro, syntax, notation, axiom, sorry.
-/
import Derived.Test.YtckhkfheimmffaaDoorChecked
import GoSem.PinnedTables
import GoSem.Claim
import GoSem.ClaimJoined
import GoSem.ClaimMapViews
import Derived.JoinedTies
import Derived.KernelRfl
namespace Go.Proofs.YtckhkfheimmffaaDoor
/- THE CELL 'sum', in the pinned program and in every row, IS THE sha256 OF THE DUMP (.gsa) THAT YtckhkfheimmffaaDoorProg.lean LOADS. Nothing in Lean hashes anything: it is a label: what it is worth is what the hold of that sum in a sandbox is worth. -/
noncomputable def Tryd.pinned : Pinned := { name := "ytckhkfheimmffaadoor", sum := "89834e9fe34bc42584640f0983f2bc62e9b08796c917c5bd184c42133b94690f", checked := Tryd.checked }
namespace Rows
def none {H : Type} : Left H := { results := [], args := [] }

/- WHAT THE LISTED PACKAGE-LEVEL VARIABLES READ AS WHEN THE CALL BEGINS. Each datum BY PROGRAM (the guide's laid-datum.mjs) off the statement by which the dump's own 'gosem.cut.vars' lays the variable. In a bare row this is a premise. The card (YtckhkfheimmffaaDoorCards.lean) ties it to the program's text. -/
def laid_unicode_utf8_acceptRanges {H : Type} : DataW H := .agg [.agg [.lit (.int .u8 128), .lit (.int .u8 191)], .agg [.lit (.int .u8 160), .lit (.int .u8 191)], .agg [.lit (.int .u8 128), .lit (.int .u8 159)], .agg [.lit (.int .u8 144), .lit (.int .u8 191)], .agg [.lit (.int .u8 128), .lit (.int .u8 143)], .agg [.lit (.int .u8 0), .lit (.int .u8 0)], .agg [.lit (.int .u8 0), .lit (.int .u8 0)], .agg [.lit (.int .u8 0), .lit (.int .u8 0)], .agg [.lit (.int .u8 0), .lit (.int .u8 0)], .agg [.lit (.int .u8 0), .lit (.int .u8 0)], .agg [.lit (.int .u8 0), .lit (.int .u8 0)], .agg [.lit (.int .u8 0), .lit (.int .u8 0)], .agg [.lit (.int .u8 0), .lit (.int .u8 0)], .agg [.lit (.int .u8 0), .lit (.int .u8 0)], .agg [.lit (.int .u8 0), .lit (.int .u8 0)], .agg [.lit (.int .u8 0), .lit (.int .u8 0)]]
/-- One of Go's own tables, pinned by name: the form's constant. -/
def laid_unicode_utf8_first : DataW Unit := Go.Pinned.utf8First

/-- 'pouchlaw06.PropsPuts': WHATEVER THE INPUT: true; the input reads as it did. -/
def propsPutsSpec : ChangeSpec := { name := "propsPuts", fn := fun _ => fun
  | [d] => { results := [.lit (.bool true)], args := [d] }
  | _ => none }
def propsPutsRow : OpenClaim := { program := "ytckhkfheimmffaadoor", sum := "89834e9fe34bc42584640f0983f2bc62e9b08796c917c5bd184c42133b94690f", func := "pouch/pouchlaw06.PropsPuts", spec := "propsPuts", inPlace := ["internal/bytealg.IndexByteString", "internal/bytealg.IndexString"], unfollowed := true, recurses := true, named := ["unicode/utf8.first", "unicode/utf8.acceptRanges", "internal/bytealg.MaxLen"], apart := false, laid := [("unicode/utf8.acceptRanges", laid_unicode_utf8_acceptRanges), ("unicode/utf8.first", laid_unicode_utf8_first)] }
def PropsPutsSaid : Prop := propsPutsRow.holds Tryd.pinned (OpenSpec.ofChange propsPutsSpec)

/-- ITS FALSE NEIGHBOUR: 'it returns false'. Refute it at one input. -/
def propsPutsWrong : ChangeSpec := { name := "propsPuts", fn := fun _ => fun
  | [d] => { results := [.lit (.bool false)], args := [d] }
  | _ => none }
def PropsPutsWrongFalsely : Prop := propsPutsRow.holds Tryd.pinned (OpenSpec.ofChange propsPutsWrong)

/-- 'pouchlaw06.PropsTakes': WHATEVER THE INPUT: true; the input reads as it did. -/
def propsTakesSpec : ChangeSpec := { name := "propsTakes", fn := fun _ => fun
  | [d] => { results := [.lit (.bool true)], args := [d] }
  | _ => none }
def propsTakesRow : OpenClaim := { program := "ytckhkfheimmffaadoor", sum := "89834e9fe34bc42584640f0983f2bc62e9b08796c917c5bd184c42133b94690f", func := "pouch/pouchlaw06.PropsTakes", spec := "propsTakes", inPlace := ["internal/bytealg.IndexByteString", "internal/bytealg.IndexString"], unfollowed := true, recurses := true, named := ["unicode/utf8.first", "unicode/utf8.acceptRanges", "internal/bytealg.MaxLen"], apart := false, laid := [("unicode/utf8.acceptRanges", laid_unicode_utf8_acceptRanges), ("unicode/utf8.first", laid_unicode_utf8_first)] }
def PropsTakesSaid : Prop := propsTakesRow.holds Tryd.pinned (OpenSpec.ofChange propsTakesSpec)

/-- ITS FALSE NEIGHBOUR: 'it returns false'. Refute it at one input. -/
def propsTakesWrong : ChangeSpec := { name := "propsTakes", fn := fun _ => fun
  | [d] => { results := [.lit (.bool false)], args := [d] }
  | _ => none }
def PropsTakesWrongFalsely : Prop := propsTakesRow.holds Tryd.pinned (OpenSpec.ofChange propsTakesWrong)

/-- 'pouchlaw06.PropsEach': WHATEVER THE INPUT: true; the input reads as it did. -/
def propsEachSpec : ChangeSpec := { name := "propsEach", fn := fun _ => fun
  | [d1, d2] => { results := [.lit (.bool true)], args := [d1, d2] }
  | _ => none }
def propsEachRow : OpenClaim := { program := "ytckhkfheimmffaadoor", sum := "89834e9fe34bc42584640f0983f2bc62e9b08796c917c5bd184c42133b94690f", func := "pouch/pouchlaw06.PropsEach", spec := "propsEach", inPlace := ["internal/bytealg.IndexByteString", "internal/bytealg.IndexString"], unfollowed := true, recurses := true, named := ["unicode/utf8.first", "unicode/utf8.acceptRanges", "internal/bytealg.MaxLen"], apart := false, laid := [("unicode/utf8.acceptRanges", laid_unicode_utf8_acceptRanges), ("unicode/utf8.first", laid_unicode_utf8_first)] }
def PropsEachSaid : Prop := propsEachRow.holds Tryd.pinned (OpenSpec.ofChange propsEachSpec)

/-- ITS FALSE NEIGHBOUR: 'it returns false'. Refute it at one input. -/
def propsEachWrong : ChangeSpec := { name := "propsEach", fn := fun _ => fun
  | [d1, d2] => { results := [.lit (.bool false)], args := [d1, d2] }
  | _ => none }
def PropsEachWrongFalsely : Prop := propsEachRow.holds Tryd.pinned (OpenSpec.ofChange propsEachWrong)

/-- 'pouchlaw06.PropsOnce': WHATEVER THE INPUT: true; the input reads as it did. -/
def propsOnceSpec : ChangeSpec := { name := "propsOnce", fn := fun _ => fun
  | [d1, d2, d3] => { results := [.lit (.bool true)], args := [d1, d2, d3] }
  | _ => none }
def propsOnceRow : OpenClaim := { program := "ytckhkfheimmffaadoor", sum := "89834e9fe34bc42584640f0983f2bc62e9b08796c917c5bd184c42133b94690f", func := "pouch/pouchlaw06.PropsOnce", spec := "propsOnce", inPlace := ["internal/bytealg.IndexByteString", "internal/bytealg.IndexString"], unfollowed := true, recurses := true, named := ["unicode/utf8.first", "unicode/utf8.acceptRanges", "internal/bytealg.MaxLen"], apart := false, laid := [("unicode/utf8.acceptRanges", laid_unicode_utf8_acceptRanges), ("unicode/utf8.first", laid_unicode_utf8_first)] }
def PropsOnceSaid : Prop := propsOnceRow.holds Tryd.pinned (OpenSpec.ofChange propsOnceSpec)

/-- ITS FALSE NEIGHBOUR: 'it returns false'. Refute it at one input. -/
def propsOnceWrong : ChangeSpec := { name := "propsOnce", fn := fun _ => fun
  | [d1, d2, d3] => { results := [.lit (.bool false)], args := [d1, d2, d3] }
  | _ => none }
def PropsOnceWrongFalsely : Prop := propsOnceRow.holds Tryd.pinned (OpenSpec.ofChange propsOnceWrong)

/-- 'pouchlaw06.PropsChecks': WHATEVER THE INPUT: true; the input reads as it did. -/
def propsChecksSpec : ChangeSpec := { name := "propsChecks", fn := fun _ => fun
  | [d1, d2, d3] => { results := [.lit (.bool true)], args := [d1, d2, d3] }
  | _ => none }
def propsChecksRow : OpenClaim := { program := "ytckhkfheimmffaadoor", sum := "89834e9fe34bc42584640f0983f2bc62e9b08796c917c5bd184c42133b94690f", func := "pouch/pouchlaw06.PropsChecks", spec := "propsChecks", inPlace := ["internal/bytealg.IndexByteString", "internal/bytealg.IndexString"], unfollowed := true, recurses := true, named := ["unicode/utf8.first", "unicode/utf8.acceptRanges", "internal/bytealg.MaxLen"], apart := false, laid := [("unicode/utf8.acceptRanges", laid_unicode_utf8_acceptRanges), ("unicode/utf8.first", laid_unicode_utf8_first)] }
def PropsChecksSaid : Prop := propsChecksRow.holds Tryd.pinned (OpenSpec.ofChange propsChecksSpec)

/-- ITS FALSE NEIGHBOUR: 'it returns false'. Refute it at one input. -/
def propsChecksWrong : ChangeSpec := { name := "propsChecks", fn := fun _ => fun
  | [d1, d2, d3] => { results := [.lit (.bool false)], args := [d1, d2, d3] }
  | _ => none }
def PropsChecksWrongFalsely : Prop := propsChecksRow.holds Tryd.pinned (OpenSpec.ofChange propsChecksWrong)

/-- 'pouchlaw06.PropsFixes': WHATEVER THE INPUT: true; the input reads as it did. -/
def propsFixesSpec : ChangeSpec := { name := "propsFixes", fn := fun _ => fun
  | [d1, d2] => { results := [.lit (.bool true)], args := [d1, d2] }
  | _ => none }
def propsFixesRow : OpenClaim := { program := "ytckhkfheimmffaadoor", sum := "89834e9fe34bc42584640f0983f2bc62e9b08796c917c5bd184c42133b94690f", func := "pouch/pouchlaw06.PropsFixes", spec := "propsFixes", inPlace := ["internal/bytealg.IndexByteString", "internal/bytealg.IndexString"], unfollowed := true, recurses := true, named := ["unicode/utf8.first", "unicode/utf8.acceptRanges", "internal/bytealg.MaxLen"], apart := false, laid := [("unicode/utf8.acceptRanges", laid_unicode_utf8_acceptRanges), ("unicode/utf8.first", laid_unicode_utf8_first)] }
def PropsFixesSaid : Prop := propsFixesRow.holds Tryd.pinned (OpenSpec.ofChange propsFixesSpec)

/-- ITS FALSE NEIGHBOUR: 'it returns false'. Refute it at one input. -/
def propsFixesWrong : ChangeSpec := { name := "propsFixes", fn := fun _ => fun
  | [d1, d2] => { results := [.lit (.bool false)], args := [d1, d2] }
  | _ => none }
def PropsFixesWrongFalsely : Prop := propsFixesRow.holds Tryd.pinned (OpenSpec.ofChange propsFixesWrong)

/- THE SECOND FORM. 'bulk': how many values and letters a reading holds, each counted each time it is reached (what is shared counts as often as it is met; a slice's spare places count too). A statement '..UptoSaid' is the law's where the arguments, and the package variables that the reading takes, are together of bulk at most 1048576: NARROWER than '..Said'. Prove '..Said' where nothing that the law and all that it calls make is longer than what came in: it says more and counts as full. Else prove '..UptoSaid'. A law counts once. -/
mutual
def uptoBulk {H : Type} : DataW H → Nat
  | .lit (.string bytes) => bytes.length + 1
  | .lit _ => 1
  | .nil => 1
  | .ptr d => uptoBulk d + 1
  | .slice elems spare => uptoBulkAll elems + uptoBulkAll spare + 1
  | .agg parts => uptoBulkAll parts + 1
  | .iface _ d => uptoBulk d + 1
  | .map entries => uptoBulkEntries entries + 1
  | .held _ => 1
def uptoBulkAll {H : Type} : List (DataW H) → Nat
  | [] => 0
  | d :: r => uptoBulk d + uptoBulkAll r
def uptoBulkEntries {H : Type} : List (Lit × DataW H) → Nat
  | [] => 0
  | x :: r => uptoBulkEntry x + uptoBulkEntries r
def uptoBulkEntry {H : Type} : Lit × DataW H → Nat
  | (.string bytes, d) => bytes.length + uptoBulk d + 1
  | (_, d) => uptoBulk d + 1
 end
def uptoSmall : (H : Type) → List (DataW H) → Bool := fun _ ds => decide (uptoBulkAll ds ≤ 1048576)
def OpenSpec.upto (s : _root_.Go.ChangeSpec) : _root_.Go.OpenSpec := { _root_.Go.OpenSpec.ofChange s with cond := some uptoSmall }

/-- 'pouchlaw06.PropsPuts', WHERE WHAT IT READS IS OF BULK AT MOST 1048576: true; the input reads as it did. -/
def propsPutsUptoRow : OpenClaim := { program := "ytckhkfheimmffaadoor", sum := "89834e9fe34bc42584640f0983f2bc62e9b08796c917c5bd184c42133b94690f", func := "pouch/pouchlaw06.PropsPuts", spec := "propsPuts", inPlace := ["internal/bytealg.IndexByteString", "internal/bytealg.IndexString"], unfollowed := true, recurses := true, named := ["unicode/utf8.first", "unicode/utf8.acceptRanges", "internal/bytealg.MaxLen"], apart := false, laid := [("unicode/utf8.acceptRanges", laid_unicode_utf8_acceptRanges), ("unicode/utf8.first", laid_unicode_utf8_first)], narrowed := true }
def PropsPutsUptoSaid : Prop := propsPutsUptoRow.holds Tryd.pinned (OpenSpec.upto propsPutsSpec)

/-- 'pouchlaw06.PropsTakes', WHERE WHAT IT READS IS OF BULK AT MOST 1048576: true; the input reads as it did. -/
def propsTakesUptoRow : OpenClaim := { program := "ytckhkfheimmffaadoor", sum := "89834e9fe34bc42584640f0983f2bc62e9b08796c917c5bd184c42133b94690f", func := "pouch/pouchlaw06.PropsTakes", spec := "propsTakes", inPlace := ["internal/bytealg.IndexByteString", "internal/bytealg.IndexString"], unfollowed := true, recurses := true, named := ["unicode/utf8.first", "unicode/utf8.acceptRanges", "internal/bytealg.MaxLen"], apart := false, laid := [("unicode/utf8.acceptRanges", laid_unicode_utf8_acceptRanges), ("unicode/utf8.first", laid_unicode_utf8_first)], narrowed := true }
def PropsTakesUptoSaid : Prop := propsTakesUptoRow.holds Tryd.pinned (OpenSpec.upto propsTakesSpec)

/-- 'pouchlaw06.PropsEach', WHERE WHAT IT READS IS OF BULK AT MOST 1048576: true; the input reads as it did. -/
def propsEachUptoRow : OpenClaim := { program := "ytckhkfheimmffaadoor", sum := "89834e9fe34bc42584640f0983f2bc62e9b08796c917c5bd184c42133b94690f", func := "pouch/pouchlaw06.PropsEach", spec := "propsEach", inPlace := ["internal/bytealg.IndexByteString", "internal/bytealg.IndexString"], unfollowed := true, recurses := true, named := ["unicode/utf8.first", "unicode/utf8.acceptRanges", "internal/bytealg.MaxLen"], apart := false, laid := [("unicode/utf8.acceptRanges", laid_unicode_utf8_acceptRanges), ("unicode/utf8.first", laid_unicode_utf8_first)], narrowed := true }
def PropsEachUptoSaid : Prop := propsEachUptoRow.holds Tryd.pinned (OpenSpec.upto propsEachSpec)

/-- 'pouchlaw06.PropsOnce', WHERE WHAT IT READS IS OF BULK AT MOST 1048576: true; the input reads as it did. -/
def propsOnceUptoRow : OpenClaim := { program := "ytckhkfheimmffaadoor", sum := "89834e9fe34bc42584640f0983f2bc62e9b08796c917c5bd184c42133b94690f", func := "pouch/pouchlaw06.PropsOnce", spec := "propsOnce", inPlace := ["internal/bytealg.IndexByteString", "internal/bytealg.IndexString"], unfollowed := true, recurses := true, named := ["unicode/utf8.first", "unicode/utf8.acceptRanges", "internal/bytealg.MaxLen"], apart := false, laid := [("unicode/utf8.acceptRanges", laid_unicode_utf8_acceptRanges), ("unicode/utf8.first", laid_unicode_utf8_first)], narrowed := true }
def PropsOnceUptoSaid : Prop := propsOnceUptoRow.holds Tryd.pinned (OpenSpec.upto propsOnceSpec)

/-- 'pouchlaw06.PropsChecks', WHERE WHAT IT READS IS OF BULK AT MOST 1048576: true; the input reads as it did. -/
def propsChecksUptoRow : OpenClaim := { program := "ytckhkfheimmffaadoor", sum := "89834e9fe34bc42584640f0983f2bc62e9b08796c917c5bd184c42133b94690f", func := "pouch/pouchlaw06.PropsChecks", spec := "propsChecks", inPlace := ["internal/bytealg.IndexByteString", "internal/bytealg.IndexString"], unfollowed := true, recurses := true, named := ["unicode/utf8.first", "unicode/utf8.acceptRanges", "internal/bytealg.MaxLen"], apart := false, laid := [("unicode/utf8.acceptRanges", laid_unicode_utf8_acceptRanges), ("unicode/utf8.first", laid_unicode_utf8_first)], narrowed := true }
def PropsChecksUptoSaid : Prop := propsChecksUptoRow.holds Tryd.pinned (OpenSpec.upto propsChecksSpec)

/-- 'pouchlaw06.PropsFixes', WHERE WHAT IT READS IS OF BULK AT MOST 1048576: true; the input reads as it did. -/
def propsFixesUptoRow : OpenClaim := { program := "ytckhkfheimmffaadoor", sum := "89834e9fe34bc42584640f0983f2bc62e9b08796c917c5bd184c42133b94690f", func := "pouch/pouchlaw06.PropsFixes", spec := "propsFixes", inPlace := ["internal/bytealg.IndexByteString", "internal/bytealg.IndexString"], unfollowed := true, recurses := true, named := ["unicode/utf8.first", "unicode/utf8.acceptRanges", "internal/bytealg.MaxLen"], apart := false, laid := [("unicode/utf8.acceptRanges", laid_unicode_utf8_acceptRanges), ("unicode/utf8.first", laid_unicode_utf8_first)], narrowed := true }
def PropsFixesUptoSaid : Prop := propsFixesUptoRow.holds Tryd.pinned (OpenSpec.upto propsFixesSpec)

end Rows
end Go.Proofs.YtckhkfheimmffaaDoor
