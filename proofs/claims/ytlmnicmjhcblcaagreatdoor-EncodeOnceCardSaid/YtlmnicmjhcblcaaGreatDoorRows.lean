/-
  NARROWER THAN 'FOR EVERY INPUT', by the rows' own cells (each row's printed sentence says how): PacketRights: laid · PacketFixes: laid · PacketSames: laid · PacketBares: laid · LimitsOf: laid · LimitsFixes: laid · EncodePackets: laid · EncodeFixes: laid · EncodeOnce: laid · EncodeLong: laid.
  DERIVED. THE GIVEN ROWS OF THIS SEAT. 10 by the template 'for every input the law returns true; each argument reads behind the call as it read before'; 0 by the template 'total and deterministic' (their statements: YtlmnicmjhcblcaaGreatDoorTotals.lean).
  GIVEN WITH THE SEED: the statements are not yours to turn. If you find one false, say at which input.
  Laid BY PROGRAM, IN A SANDBOX (cutbox-rows.mjs): the forced cells as the released guide's own fill.sh prints them over the translation 2db6d0a268c48341… (all of the seat's roots in one cut). By AI agents, Wed Nov 11 2026. No macro, syntax, notation, axiom, sorry.
-/
import Derived.Test.YtlmnicmjhcblcaaGreatDoorChecked
import GoSem.PinnedTables
import GoSem.Claim
import GoSem.ClaimJoined
import GoSem.ClaimMapViews
import Derived.JoinedTies
import Derived.KernelRfl
namespace Go.Proofs.YtlmnicmjhcblcaaGreatDoor
/- THE CELL 'sum', in the pinned program and in every row, IS THE sha256 OF THE DUMP (.gsa) THAT YtlmnicmjhcblcaaGreatDoorProg.lean LOADS. Nothing in Lean hashes anything: it is a label: what it is worth is what the hold of that sum in a sandbox is worth. -/
noncomputable def Tryz.pinned : Pinned := { name := "ytlmnicmjhcblcaagreatdoor", sum := "2db6d0a268c48341740a1c2b4249bd82c8ed0c25ef72c1a0ce27d721cd57f332", checked := Tryz.checked }
namespace Rows
def none {H : Type} : Left H := { results := [], args := [] }

/- WHAT THE LISTED PACKAGE-LEVEL VARIABLES READ AS WHEN THE CALL BEGINS. Each datum BY PROGRAM (the guide's laid-datum.mjs) off the statement by which the dump's own 'gosem.cut.vars' lays the variable. In a bare row this is a premise. The card (YtlmnicmjhcblcaaGreatDoorCards.lean) ties it to the program's text. -/
def laid_unicode_utf8_acceptRanges {H : Type} : DataW H := .agg [.agg [.lit (.int .u8 128), .lit (.int .u8 191)], .agg [.lit (.int .u8 160), .lit (.int .u8 191)], .agg [.lit (.int .u8 128), .lit (.int .u8 159)], .agg [.lit (.int .u8 144), .lit (.int .u8 191)], .agg [.lit (.int .u8 128), .lit (.int .u8 143)], .agg [.lit (.int .u8 0), .lit (.int .u8 0)], .agg [.lit (.int .u8 0), .lit (.int .u8 0)], .agg [.lit (.int .u8 0), .lit (.int .u8 0)], .agg [.lit (.int .u8 0), .lit (.int .u8 0)], .agg [.lit (.int .u8 0), .lit (.int .u8 0)], .agg [.lit (.int .u8 0), .lit (.int .u8 0)], .agg [.lit (.int .u8 0), .lit (.int .u8 0)], .agg [.lit (.int .u8 0), .lit (.int .u8 0)], .agg [.lit (.int .u8 0), .lit (.int .u8 0)], .agg [.lit (.int .u8 0), .lit (.int .u8 0)], .agg [.lit (.int .u8 0), .lit (.int .u8 0)]]
/-- One of Go's own tables, pinned by name: the form's constant. -/
def laid_unicode_utf8_first : DataW Unit := Go.Pinned.utf8First

/-- 'pouchlaw07.PacketRights': WHATEVER THE INPUT: true; the input reads as it did. -/
def packetRightsSpec : ChangeSpec := { name := "packetRights", fn := fun _ => fun
  | [d1, d2] => { results := [.lit (.bool true)], args := [d1, d2] }
  | _ => none }
def packetRightsRow : OpenClaim := { program := "ytlmnicmjhcblcaagreatdoor", sum := "2db6d0a268c48341740a1c2b4249bd82c8ed0c25ef72c1a0ce27d721cd57f332", func := "pouch/pouchlaw07.PacketRights", spec := "packetRights", inPlace := ["internal/bytealg.IndexByteString", "internal/bytealg.IndexString", "internal/bytealg.CountString"], unfollowed := true, recurses := true, named := ["unicode/utf8.first", "unicode/utf8.acceptRanges", "internal/bytealg.MaxLen"], apart := false, laid := [("unicode/utf8.acceptRanges", laid_unicode_utf8_acceptRanges), ("unicode/utf8.first", laid_unicode_utf8_first)] }
def PacketRightsSaid : Prop := packetRightsRow.holds Tryz.pinned (OpenSpec.ofChange packetRightsSpec)

/-- ITS FALSE NEIGHBOUR: 'it returns false'. Refute it at one input. -/
def packetRightsWrong : ChangeSpec := { name := "packetRights", fn := fun _ => fun
  | [d1, d2] => { results := [.lit (.bool false)], args := [d1, d2] }
  | _ => none }
def PacketRightsWrongFalsely : Prop := packetRightsRow.holds Tryz.pinned (OpenSpec.ofChange packetRightsWrong)

/-- 'pouchlaw07.PacketFixes': WHATEVER THE INPUT: true; the input reads as it did. -/
def packetFixesSpec : ChangeSpec := { name := "packetFixes", fn := fun _ => fun
  | [d1, d2, d3] => { results := [.lit (.bool true)], args := [d1, d2, d3] }
  | _ => none }
def packetFixesRow : OpenClaim := { program := "ytlmnicmjhcblcaagreatdoor", sum := "2db6d0a268c48341740a1c2b4249bd82c8ed0c25ef72c1a0ce27d721cd57f332", func := "pouch/pouchlaw07.PacketFixes", spec := "packetFixes", inPlace := ["internal/bytealg.IndexByteString", "internal/bytealg.IndexString", "internal/bytealg.CountString"], unfollowed := true, recurses := true, named := ["unicode/utf8.first", "unicode/utf8.acceptRanges", "internal/bytealg.MaxLen"], apart := false, laid := [("unicode/utf8.acceptRanges", laid_unicode_utf8_acceptRanges), ("unicode/utf8.first", laid_unicode_utf8_first)] }
def PacketFixesSaid : Prop := packetFixesRow.holds Tryz.pinned (OpenSpec.ofChange packetFixesSpec)

/-- ITS FALSE NEIGHBOUR: 'it returns false'. Refute it at one input. -/
def packetFixesWrong : ChangeSpec := { name := "packetFixes", fn := fun _ => fun
  | [d1, d2, d3] => { results := [.lit (.bool false)], args := [d1, d2, d3] }
  | _ => none }
def PacketFixesWrongFalsely : Prop := packetFixesRow.holds Tryz.pinned (OpenSpec.ofChange packetFixesWrong)

/-- 'pouchlaw07.PacketSames': WHATEVER THE INPUT: true; the input reads as it did. -/
def packetSamesSpec : ChangeSpec := { name := "packetSames", fn := fun _ => fun
  | [d1, d2, d3] => { results := [.lit (.bool true)], args := [d1, d2, d3] }
  | _ => none }
def packetSamesRow : OpenClaim := { program := "ytlmnicmjhcblcaagreatdoor", sum := "2db6d0a268c48341740a1c2b4249bd82c8ed0c25ef72c1a0ce27d721cd57f332", func := "pouch/pouchlaw07.PacketSames", spec := "packetSames", inPlace := ["internal/bytealg.IndexByteString", "internal/bytealg.IndexString", "internal/bytealg.CountString"], unfollowed := true, recurses := true, named := ["unicode/utf8.first", "unicode/utf8.acceptRanges", "internal/bytealg.MaxLen"], apart := false, laid := [("unicode/utf8.acceptRanges", laid_unicode_utf8_acceptRanges), ("unicode/utf8.first", laid_unicode_utf8_first)] }
def PacketSamesSaid : Prop := packetSamesRow.holds Tryz.pinned (OpenSpec.ofChange packetSamesSpec)

/-- ITS FALSE NEIGHBOUR: 'it returns false'. Refute it at one input. -/
def packetSamesWrong : ChangeSpec := { name := "packetSames", fn := fun _ => fun
  | [d1, d2, d3] => { results := [.lit (.bool false)], args := [d1, d2, d3] }
  | _ => none }
def PacketSamesWrongFalsely : Prop := packetSamesRow.holds Tryz.pinned (OpenSpec.ofChange packetSamesWrong)

/-- 'pouchlaw07.PacketBares': WHATEVER THE INPUT: true; the input reads as it did. -/
def packetBaresSpec : ChangeSpec := { name := "packetBares", fn := fun _ => fun
  | [d1, d2, d3] => { results := [.lit (.bool true)], args := [d1, d2, d3] }
  | _ => none }
def packetBaresRow : OpenClaim := { program := "ytlmnicmjhcblcaagreatdoor", sum := "2db6d0a268c48341740a1c2b4249bd82c8ed0c25ef72c1a0ce27d721cd57f332", func := "pouch/pouchlaw07.PacketBares", spec := "packetBares", inPlace := ["internal/bytealg.IndexByteString", "internal/bytealg.IndexString", "internal/bytealg.CountString"], unfollowed := true, recurses := true, named := ["unicode/utf8.first", "unicode/utf8.acceptRanges", "internal/bytealg.MaxLen"], apart := false, laid := [("unicode/utf8.acceptRanges", laid_unicode_utf8_acceptRanges), ("unicode/utf8.first", laid_unicode_utf8_first)] }
def PacketBaresSaid : Prop := packetBaresRow.holds Tryz.pinned (OpenSpec.ofChange packetBaresSpec)

/-- ITS FALSE NEIGHBOUR: 'it returns false'. Refute it at one input. -/
def packetBaresWrong : ChangeSpec := { name := "packetBares", fn := fun _ => fun
  | [d1, d2, d3] => { results := [.lit (.bool false)], args := [d1, d2, d3] }
  | _ => none }
def PacketBaresWrongFalsely : Prop := packetBaresRow.holds Tryz.pinned (OpenSpec.ofChange packetBaresWrong)

/-- 'pouchlaw13.LimitsOf': WHATEVER THE INPUT: true; the input reads as it did. -/
def limitsOfSpec : ChangeSpec := { name := "limitsOf", fn := fun _ => fun
  | [d1, d2] => { results := [.lit (.bool true)], args := [d1, d2] }
  | _ => none }
def limitsOfRow : OpenClaim := { program := "ytlmnicmjhcblcaagreatdoor", sum := "2db6d0a268c48341740a1c2b4249bd82c8ed0c25ef72c1a0ce27d721cd57f332", func := "pouch/pouchlaw13.LimitsOf", spec := "limitsOf", inPlace := ["internal/bytealg.IndexByteString", "internal/bytealg.IndexString", "internal/bytealg.CountString"], unfollowed := true, recurses := true, named := ["unicode/utf8.first", "unicode/utf8.acceptRanges", "internal/bytealg.MaxLen"], apart := false, laid := [("unicode/utf8.acceptRanges", laid_unicode_utf8_acceptRanges), ("unicode/utf8.first", laid_unicode_utf8_first)] }
def LimitsOfSaid : Prop := limitsOfRow.holds Tryz.pinned (OpenSpec.ofChange limitsOfSpec)

/-- ITS FALSE NEIGHBOUR: 'it returns false'. Refute it at one input. -/
def limitsOfWrong : ChangeSpec := { name := "limitsOf", fn := fun _ => fun
  | [d1, d2] => { results := [.lit (.bool false)], args := [d1, d2] }
  | _ => none }
def LimitsOfWrongFalsely : Prop := limitsOfRow.holds Tryz.pinned (OpenSpec.ofChange limitsOfWrong)

/-- 'pouchlaw13.LimitsFixes': WHATEVER THE INPUT: true; the input reads as it did. -/
def limitsFixesSpec : ChangeSpec := { name := "limitsFixes", fn := fun _ => fun
  | [d1, d2] => { results := [.lit (.bool true)], args := [d1, d2] }
  | _ => none }
def limitsFixesRow : OpenClaim := { program := "ytlmnicmjhcblcaagreatdoor", sum := "2db6d0a268c48341740a1c2b4249bd82c8ed0c25ef72c1a0ce27d721cd57f332", func := "pouch/pouchlaw13.LimitsFixes", spec := "limitsFixes", inPlace := ["internal/bytealg.IndexByteString", "internal/bytealg.IndexString", "internal/bytealg.CountString"], unfollowed := true, recurses := true, named := ["unicode/utf8.first", "unicode/utf8.acceptRanges", "internal/bytealg.MaxLen"], apart := false, laid := [("unicode/utf8.acceptRanges", laid_unicode_utf8_acceptRanges), ("unicode/utf8.first", laid_unicode_utf8_first)] }
def LimitsFixesSaid : Prop := limitsFixesRow.holds Tryz.pinned (OpenSpec.ofChange limitsFixesSpec)

/-- ITS FALSE NEIGHBOUR: 'it returns false'. Refute it at one input. -/
def limitsFixesWrong : ChangeSpec := { name := "limitsFixes", fn := fun _ => fun
  | [d1, d2] => { results := [.lit (.bool false)], args := [d1, d2] }
  | _ => none }
def LimitsFixesWrongFalsely : Prop := limitsFixesRow.holds Tryz.pinned (OpenSpec.ofChange limitsFixesWrong)

/-- 'pouchlaw08.EncodePackets': WHATEVER THE INPUT: true; the input reads as it did. -/
def encodePacketsSpec : ChangeSpec := { name := "encodePackets", fn := fun _ => fun
  | [d1, d2] => { results := [.lit (.bool true)], args := [d1, d2] }
  | _ => none }
def encodePacketsRow : OpenClaim := { program := "ytlmnicmjhcblcaagreatdoor", sum := "2db6d0a268c48341740a1c2b4249bd82c8ed0c25ef72c1a0ce27d721cd57f332", func := "pouch/pouchlaw08.EncodePackets", spec := "encodePackets", inPlace := ["internal/bytealg.IndexByteString", "internal/bytealg.IndexString", "internal/bytealg.CountString"], unfollowed := true, recurses := true, named := ["unicode/utf8.first", "unicode/utf8.acceptRanges", "internal/bytealg.MaxLen"], apart := false, laid := [("unicode/utf8.acceptRanges", laid_unicode_utf8_acceptRanges), ("unicode/utf8.first", laid_unicode_utf8_first)] }
def EncodePacketsSaid : Prop := encodePacketsRow.holds Tryz.pinned (OpenSpec.ofChange encodePacketsSpec)

/-- ITS FALSE NEIGHBOUR: 'it returns false'. Refute it at one input. -/
def encodePacketsWrong : ChangeSpec := { name := "encodePackets", fn := fun _ => fun
  | [d1, d2] => { results := [.lit (.bool false)], args := [d1, d2] }
  | _ => none }
def EncodePacketsWrongFalsely : Prop := encodePacketsRow.holds Tryz.pinned (OpenSpec.ofChange encodePacketsWrong)

/-- 'pouchlaw08.EncodeFixes': WHATEVER THE INPUT: true; the input reads as it did. -/
def encodeFixesSpec : ChangeSpec := { name := "encodeFixes", fn := fun _ => fun
  | [d1, d2] => { results := [.lit (.bool true)], args := [d1, d2] }
  | _ => none }
def encodeFixesRow : OpenClaim := { program := "ytlmnicmjhcblcaagreatdoor", sum := "2db6d0a268c48341740a1c2b4249bd82c8ed0c25ef72c1a0ce27d721cd57f332", func := "pouch/pouchlaw08.EncodeFixes", spec := "encodeFixes", inPlace := ["internal/bytealg.IndexByteString", "internal/bytealg.IndexString", "internal/bytealg.CountString"], unfollowed := true, recurses := true, named := ["unicode/utf8.first", "unicode/utf8.acceptRanges", "internal/bytealg.MaxLen"], apart := false, laid := [("unicode/utf8.acceptRanges", laid_unicode_utf8_acceptRanges), ("unicode/utf8.first", laid_unicode_utf8_first)] }
def EncodeFixesSaid : Prop := encodeFixesRow.holds Tryz.pinned (OpenSpec.ofChange encodeFixesSpec)

/-- ITS FALSE NEIGHBOUR: 'it returns false'. Refute it at one input. -/
def encodeFixesWrong : ChangeSpec := { name := "encodeFixes", fn := fun _ => fun
  | [d1, d2] => { results := [.lit (.bool false)], args := [d1, d2] }
  | _ => none }
def EncodeFixesWrongFalsely : Prop := encodeFixesRow.holds Tryz.pinned (OpenSpec.ofChange encodeFixesWrong)

/-- 'pouchlaw08.EncodeOnce': WHATEVER THE INPUT: true; the input reads as it did. -/
def encodeOnceSpec : ChangeSpec := { name := "encodeOnce", fn := fun _ => fun
  | [d1, d2, d3] => { results := [.lit (.bool true)], args := [d1, d2, d3] }
  | _ => none }
def encodeOnceRow : OpenClaim := { program := "ytlmnicmjhcblcaagreatdoor", sum := "2db6d0a268c48341740a1c2b4249bd82c8ed0c25ef72c1a0ce27d721cd57f332", func := "pouch/pouchlaw08.EncodeOnce", spec := "encodeOnce", inPlace := ["internal/bytealg.IndexByteString", "internal/bytealg.IndexString", "internal/bytealg.CountString"], unfollowed := true, recurses := true, named := ["unicode/utf8.first", "unicode/utf8.acceptRanges", "internal/bytealg.MaxLen"], apart := false, laid := [("unicode/utf8.acceptRanges", laid_unicode_utf8_acceptRanges), ("unicode/utf8.first", laid_unicode_utf8_first)] }
def EncodeOnceSaid : Prop := encodeOnceRow.holds Tryz.pinned (OpenSpec.ofChange encodeOnceSpec)

/-- ITS FALSE NEIGHBOUR: 'it returns false'. Refute it at one input. -/
def encodeOnceWrong : ChangeSpec := { name := "encodeOnce", fn := fun _ => fun
  | [d1, d2, d3] => { results := [.lit (.bool false)], args := [d1, d2, d3] }
  | _ => none }
def EncodeOnceWrongFalsely : Prop := encodeOnceRow.holds Tryz.pinned (OpenSpec.ofChange encodeOnceWrong)

/-- 'pouchlaw08.EncodeLong': WHATEVER THE INPUT: true; the input reads as it did. -/
def encodeLongSpec : ChangeSpec := { name := "encodeLong", fn := fun _ => fun
  | [d1, d2] => { results := [.lit (.bool true)], args := [d1, d2] }
  | _ => none }
def encodeLongRow : OpenClaim := { program := "ytlmnicmjhcblcaagreatdoor", sum := "2db6d0a268c48341740a1c2b4249bd82c8ed0c25ef72c1a0ce27d721cd57f332", func := "pouch/pouchlaw08.EncodeLong", spec := "encodeLong", inPlace := ["internal/bytealg.IndexByteString", "internal/bytealg.IndexString", "internal/bytealg.CountString"], unfollowed := true, recurses := true, named := ["unicode/utf8.first", "unicode/utf8.acceptRanges", "internal/bytealg.MaxLen"], apart := false, laid := [("unicode/utf8.acceptRanges", laid_unicode_utf8_acceptRanges), ("unicode/utf8.first", laid_unicode_utf8_first)] }
def EncodeLongSaid : Prop := encodeLongRow.holds Tryz.pinned (OpenSpec.ofChange encodeLongSpec)

/-- ITS FALSE NEIGHBOUR: 'it returns false'. Refute it at one input. -/
def encodeLongWrong : ChangeSpec := { name := "encodeLong", fn := fun _ => fun
  | [d1, d2] => { results := [.lit (.bool false)], args := [d1, d2] }
  | _ => none }
def EncodeLongWrongFalsely : Prop := encodeLongRow.holds Tryz.pinned (OpenSpec.ofChange encodeLongWrong)

/- THE SECOND FORM. 'bulk': how many values and letters a reading holds, each counted each time it is reached (what is shared counts as often as it is met; a slice's spare places count too). A statement '..UptoSaid' is the law's where the arguments, and the package variables that the reading takes, are together of bulk at most 1048576: NARROWER than '..Said'. Prove '..Said' where nothing that the law and all that it calls make is longer than what came in: it says more and counts as full. Else prove '..UptoSaid'. A law counts once. -/
mutual
def uptoBulk {H : Type} : DataW H → Nat
  | .lit (.string bytes) => bytes.length + 1
  | .lit _ => 1
  | .nil => 1
  | .ptr d => uptoBulk d + 1
  | .slice elems spare => uptoBulkAll elems + uptoBulkAll spare + 1
  | .agg parts => uptoBulkAll parts + 1
  | .iface _ d => uptoBulk d + 1
  | .map entries => uptoBulkEntries entries + 1
  | .held _ => 1
def uptoBulkAll {H : Type} : List (DataW H) → Nat
  | [] => 0
  | d :: r => uptoBulk d + uptoBulkAll r
def uptoBulkEntries {H : Type} : List (Lit × DataW H) → Nat
  | [] => 0
  | x :: r => uptoBulkEntry x + uptoBulkEntries r
def uptoBulkEntry {H : Type} : Lit × DataW H → Nat
  | (.string bytes, d) => bytes.length + uptoBulk d + 1
  | (_, d) => uptoBulk d + 1
 end
def uptoSmall : (H : Type) → List (DataW H) → Bool := fun _ ds => decide (uptoBulkAll ds ≤ 1048576)
def OpenSpec.upto (s : _root_.Go.ChangeSpec) : _root_.Go.OpenSpec := { _root_.Go.OpenSpec.ofChange s with cond := some uptoSmall }

/-- 'pouchlaw07.PacketRights', WHERE WHAT IT READS IS OF BULK AT MOST 1048576: true; the input reads as it did. -/
def packetRightsUptoRow : OpenClaim := { program := "ytlmnicmjhcblcaagreatdoor", sum := "2db6d0a268c48341740a1c2b4249bd82c8ed0c25ef72c1a0ce27d721cd57f332", func := "pouch/pouchlaw07.PacketRights", spec := "packetRights", inPlace := ["internal/bytealg.IndexByteString", "internal/bytealg.IndexString", "internal/bytealg.CountString"], unfollowed := true, recurses := true, named := ["unicode/utf8.first", "unicode/utf8.acceptRanges", "internal/bytealg.MaxLen"], apart := false, laid := [("unicode/utf8.acceptRanges", laid_unicode_utf8_acceptRanges), ("unicode/utf8.first", laid_unicode_utf8_first)], narrowed := true }
def PacketRightsUptoSaid : Prop := packetRightsUptoRow.holds Tryz.pinned (OpenSpec.upto packetRightsSpec)

/-- 'pouchlaw07.PacketFixes', WHERE WHAT IT READS IS OF BULK AT MOST 1048576: true; the input reads as it did. -/
def packetFixesUptoRow : OpenClaim := { program := "ytlmnicmjhcblcaagreatdoor", sum := "2db6d0a268c48341740a1c2b4249bd82c8ed0c25ef72c1a0ce27d721cd57f332", func := "pouch/pouchlaw07.PacketFixes", spec := "packetFixes", inPlace := ["internal/bytealg.IndexByteString", "internal/bytealg.IndexString", "internal/bytealg.CountString"], unfollowed := true, recurses := true, named := ["unicode/utf8.first", "unicode/utf8.acceptRanges", "internal/bytealg.MaxLen"], apart := false, laid := [("unicode/utf8.acceptRanges", laid_unicode_utf8_acceptRanges), ("unicode/utf8.first", laid_unicode_utf8_first)], narrowed := true }
def PacketFixesUptoSaid : Prop := packetFixesUptoRow.holds Tryz.pinned (OpenSpec.upto packetFixesSpec)

/-- 'pouchlaw07.PacketSames', WHERE WHAT IT READS IS OF BULK AT MOST 1048576: true; the input reads as it did. -/
def packetSamesUptoRow : OpenClaim := { program := "ytlmnicmjhcblcaagreatdoor", sum := "2db6d0a268c48341740a1c2b4249bd82c8ed0c25ef72c1a0ce27d721cd57f332", func := "pouch/pouchlaw07.PacketSames", spec := "packetSames", inPlace := ["internal/bytealg.IndexByteString", "internal/bytealg.IndexString", "internal/bytealg.CountString"], unfollowed := true, recurses := true, named := ["unicode/utf8.first", "unicode/utf8.acceptRanges", "internal/bytealg.MaxLen"], apart := false, laid := [("unicode/utf8.acceptRanges", laid_unicode_utf8_acceptRanges), ("unicode/utf8.first", laid_unicode_utf8_first)], narrowed := true }
def PacketSamesUptoSaid : Prop := packetSamesUptoRow.holds Tryz.pinned (OpenSpec.upto packetSamesSpec)

/-- 'pouchlaw07.PacketBares', WHERE WHAT IT READS IS OF BULK AT MOST 1048576: true; the input reads as it did. -/
def packetBaresUptoRow : OpenClaim := { program := "ytlmnicmjhcblcaagreatdoor", sum := "2db6d0a268c48341740a1c2b4249bd82c8ed0c25ef72c1a0ce27d721cd57f332", func := "pouch/pouchlaw07.PacketBares", spec := "packetBares", inPlace := ["internal/bytealg.IndexByteString", "internal/bytealg.IndexString", "internal/bytealg.CountString"], unfollowed := true, recurses := true, named := ["unicode/utf8.first", "unicode/utf8.acceptRanges", "internal/bytealg.MaxLen"], apart := false, laid := [("unicode/utf8.acceptRanges", laid_unicode_utf8_acceptRanges), ("unicode/utf8.first", laid_unicode_utf8_first)], narrowed := true }
def PacketBaresUptoSaid : Prop := packetBaresUptoRow.holds Tryz.pinned (OpenSpec.upto packetBaresSpec)

/-- 'pouchlaw13.LimitsOf', WHERE WHAT IT READS IS OF BULK AT MOST 1048576: true; the input reads as it did. -/
def limitsOfUptoRow : OpenClaim := { program := "ytlmnicmjhcblcaagreatdoor", sum := "2db6d0a268c48341740a1c2b4249bd82c8ed0c25ef72c1a0ce27d721cd57f332", func := "pouch/pouchlaw13.LimitsOf", spec := "limitsOf", inPlace := ["internal/bytealg.IndexByteString", "internal/bytealg.IndexString", "internal/bytealg.CountString"], unfollowed := true, recurses := true, named := ["unicode/utf8.first", "unicode/utf8.acceptRanges", "internal/bytealg.MaxLen"], apart := false, laid := [("unicode/utf8.acceptRanges", laid_unicode_utf8_acceptRanges), ("unicode/utf8.first", laid_unicode_utf8_first)], narrowed := true }
def LimitsOfUptoSaid : Prop := limitsOfUptoRow.holds Tryz.pinned (OpenSpec.upto limitsOfSpec)

/-- 'pouchlaw13.LimitsFixes', WHERE WHAT IT READS IS OF BULK AT MOST 1048576: true; the input reads as it did. -/
def limitsFixesUptoRow : OpenClaim := { program := "ytlmnicmjhcblcaagreatdoor", sum := "2db6d0a268c48341740a1c2b4249bd82c8ed0c25ef72c1a0ce27d721cd57f332", func := "pouch/pouchlaw13.LimitsFixes", spec := "limitsFixes", inPlace := ["internal/bytealg.IndexByteString", "internal/bytealg.IndexString", "internal/bytealg.CountString"], unfollowed := true, recurses := true, named := ["unicode/utf8.first", "unicode/utf8.acceptRanges", "internal/bytealg.MaxLen"], apart := false, laid := [("unicode/utf8.acceptRanges", laid_unicode_utf8_acceptRanges), ("unicode/utf8.first", laid_unicode_utf8_first)], narrowed := true }
def LimitsFixesUptoSaid : Prop := limitsFixesUptoRow.holds Tryz.pinned (OpenSpec.upto limitsFixesSpec)

/-- 'pouchlaw08.EncodePackets', WHERE WHAT IT READS IS OF BULK AT MOST 1048576: true; the input reads as it did. -/
def encodePacketsUptoRow : OpenClaim := { program := "ytlmnicmjhcblcaagreatdoor", sum := "2db6d0a268c48341740a1c2b4249bd82c8ed0c25ef72c1a0ce27d721cd57f332", func := "pouch/pouchlaw08.EncodePackets", spec := "encodePackets", inPlace := ["internal/bytealg.IndexByteString", "internal/bytealg.IndexString", "internal/bytealg.CountString"], unfollowed := true, recurses := true, named := ["unicode/utf8.first", "unicode/utf8.acceptRanges", "internal/bytealg.MaxLen"], apart := false, laid := [("unicode/utf8.acceptRanges", laid_unicode_utf8_acceptRanges), ("unicode/utf8.first", laid_unicode_utf8_first)], narrowed := true }
def EncodePacketsUptoSaid : Prop := encodePacketsUptoRow.holds Tryz.pinned (OpenSpec.upto encodePacketsSpec)

/-- 'pouchlaw08.EncodeFixes', WHERE WHAT IT READS IS OF BULK AT MOST 1048576: true; the input reads as it did. -/
def encodeFixesUptoRow : OpenClaim := { program := "ytlmnicmjhcblcaagreatdoor", sum := "2db6d0a268c48341740a1c2b4249bd82c8ed0c25ef72c1a0ce27d721cd57f332", func := "pouch/pouchlaw08.EncodeFixes", spec := "encodeFixes", inPlace := ["internal/bytealg.IndexByteString", "internal/bytealg.IndexString", "internal/bytealg.CountString"], unfollowed := true, recurses := true, named := ["unicode/utf8.first", "unicode/utf8.acceptRanges", "internal/bytealg.MaxLen"], apart := false, laid := [("unicode/utf8.acceptRanges", laid_unicode_utf8_acceptRanges), ("unicode/utf8.first", laid_unicode_utf8_first)], narrowed := true }
def EncodeFixesUptoSaid : Prop := encodeFixesUptoRow.holds Tryz.pinned (OpenSpec.upto encodeFixesSpec)

/-- 'pouchlaw08.EncodeOnce', WHERE WHAT IT READS IS OF BULK AT MOST 1048576: true; the input reads as it did. -/
def encodeOnceUptoRow : OpenClaim := { program := "ytlmnicmjhcblcaagreatdoor", sum := "2db6d0a268c48341740a1c2b4249bd82c8ed0c25ef72c1a0ce27d721cd57f332", func := "pouch/pouchlaw08.EncodeOnce", spec := "encodeOnce", inPlace := ["internal/bytealg.IndexByteString", "internal/bytealg.IndexString", "internal/bytealg.CountString"], unfollowed := true, recurses := true, named := ["unicode/utf8.first", "unicode/utf8.acceptRanges", "internal/bytealg.MaxLen"], apart := false, laid := [("unicode/utf8.acceptRanges", laid_unicode_utf8_acceptRanges), ("unicode/utf8.first", laid_unicode_utf8_first)], narrowed := true }
def EncodeOnceUptoSaid : Prop := encodeOnceUptoRow.holds Tryz.pinned (OpenSpec.upto encodeOnceSpec)

/-- 'pouchlaw08.EncodeLong', WHERE WHAT IT READS IS OF BULK AT MOST 1048576: true; the input reads as it did. -/
def encodeLongUptoRow : OpenClaim := { program := "ytlmnicmjhcblcaagreatdoor", sum := "2db6d0a268c48341740a1c2b4249bd82c8ed0c25ef72c1a0ce27d721cd57f332", func := "pouch/pouchlaw08.EncodeLong", spec := "encodeLong", inPlace := ["internal/bytealg.IndexByteString", "internal/bytealg.IndexString", "internal/bytealg.CountString"], unfollowed := true, recurses := true, named := ["unicode/utf8.first", "unicode/utf8.acceptRanges", "internal/bytealg.MaxLen"], apart := false, laid := [("unicode/utf8.acceptRanges", laid_unicode_utf8_acceptRanges), ("unicode/utf8.first", laid_unicode_utf8_first)], narrowed := true }
def EncodeLongUptoSaid : Prop := encodeLongUptoRow.holds Tryz.pinned (OpenSpec.upto encodeLongSpec)

end Rows
end Go.Proofs.YtlmnicmjhcblcaaGreatDoor
