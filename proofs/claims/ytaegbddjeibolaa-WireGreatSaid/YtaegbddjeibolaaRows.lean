/-
  No cell of these rows narrows 'for every input' (looked for: loops, veiled, ifaces, maps, wideKeys, modest, calm, conditions, laid).
  DERIVED. THE GIVEN ROWS OF THIS SEAT. 7 by the template 'for every input the law returns true; each argument reads behind the call as it read before'; 0 by the template 'total and deterministic' (their statements: YtaegbddjeibolaaTotals.lean).
  GIVEN WITH THE SEED: the statements are not yours to turn. If you find one false, say at which input.
  Laid BY PROGRAM, IN A SANDBOX (cutbox-rows.mjs): the forced cells as the released guide's own fill.sh prints them over the translation fafc182abea27f5e… (all of the seat's roots in one cut). By AI agents, Wed Nov 11 2026. No macro, syntax, notation, axiom, sorry.
-/
import Derived.Test.YtaegbddjeibolaaChecked
import GoSem.Claim
import GoSem.ClaimJoined
import GoSem.ClaimMapViews
import Derived.JoinedTies
import Derived.KernelRfl
namespace Go.Proofs.Ytaegbddjeibolaa
/- THE CELL 'sum', in the pinned program and in every row, IS THE sha256 OF THE DUMP (.gsa) THAT YtaegbddjeibolaaProg.lean LOADS. Nothing in Lean hashes anything: it is a label: what it is worth is what the hold of that sum in a sandbox is worth. -/
noncomputable def Try.pinned : Pinned := { name := "ytaegbddjeibolaa", sum := "fafc182abea27f5eb01ac23ef42ee6afba501bbfb01c7208fb5ad3a522f35b1b", checked := Try.checked }
namespace Rows
def none {H : Type} : Left H := { results := [], args := [] }

/-- 'pouchlaw03.ReasonKnown': WHATEVER THE INPUT: true; the input reads as it did. -/
def reasonKnownSpec : ChangeSpec := { name := "reasonKnown", fn := fun _ => fun
  | [d1, d2, d3] => { results := [.lit (.bool true)], args := [d1, d2, d3] }
  | _ => none }
def reasonKnownRow : OpenClaim := { program := "ytaegbddjeibolaa", sum := "fafc182abea27f5eb01ac23ef42ee6afba501bbfb01c7208fb5ad3a522f35b1b", func := "pouch/pouchlaw03.ReasonKnown", spec := "reasonKnown", apart := false }
def ReasonKnownSaid : Prop := reasonKnownRow.holds Try.pinned (OpenSpec.ofChange reasonKnownSpec)

/-- ITS FALSE NEIGHBOUR: 'it returns false'. Refute it at one input. -/
def reasonKnownWrong : ChangeSpec := { name := "reasonKnown", fn := fun _ => fun
  | [d1, d2, d3] => { results := [.lit (.bool false)], args := [d1, d2, d3] }
  | _ => none }
def ReasonKnownWrongFalsely : Prop := reasonKnownRow.holds Try.pinned (OpenSpec.ofChange reasonKnownWrong)

/-- 'pouchlaw03.ReasonAll': WHATEVER THE INPUT: true; the input reads as it did. -/
def reasonAllSpec : ChangeSpec := { name := "reasonAll", fn := fun _ => fun
  | [d1, d2] => { results := [.lit (.bool true)], args := [d1, d2] }
  | _ => none }
def reasonAllRow : OpenClaim := { program := "ytaegbddjeibolaa", sum := "fafc182abea27f5eb01ac23ef42ee6afba501bbfb01c7208fb5ad3a522f35b1b", func := "pouch/pouchlaw03.ReasonAll", spec := "reasonAll", apart := false }
def ReasonAllSaid : Prop := reasonAllRow.holds Try.pinned (OpenSpec.ofChange reasonAllSpec)

/-- ITS FALSE NEIGHBOUR: 'it returns false'. Refute it at one input. -/
def reasonAllWrong : ChangeSpec := { name := "reasonAll", fn := fun _ => fun
  | [d1, d2] => { results := [.lit (.bool false)], args := [d1, d2] }
  | _ => none }
def ReasonAllWrongFalsely : Prop := reasonAllRow.holds Try.pinned (OpenSpec.ofChange reasonAllWrong)

/-- 'pouchlaw01.WireVars': WHATEVER THE INPUT: true; the input reads as it did. -/
def wireVarsSpec : ChangeSpec := { name := "wireVars", fn := fun _ => fun
  | [d1, d2] => { results := [.lit (.bool true)], args := [d1, d2] }
  | _ => none }
def wireVarsRow : OpenClaim := { program := "ytaegbddjeibolaa", sum := "fafc182abea27f5eb01ac23ef42ee6afba501bbfb01c7208fb5ad3a522f35b1b", func := "pouch/pouchlaw01.WireVars", spec := "wireVars", apart := false }
def WireVarsSaid : Prop := wireVarsRow.holds Try.pinned (OpenSpec.ofChange wireVarsSpec)

/-- ITS FALSE NEIGHBOUR: 'it returns false'. Refute it at one input. -/
def wireVarsWrong : ChangeSpec := { name := "wireVars", fn := fun _ => fun
  | [d1, d2] => { results := [.lit (.bool false)], args := [d1, d2] }
  | _ => none }
def WireVarsWrongFalsely : Prop := wireVarsRow.holds Try.pinned (OpenSpec.ofChange wireVarsWrong)

/-- 'pouchlaw01.WireGreat': WHATEVER THE INPUT: true; the input reads as it did. -/
def wireGreatSpec : ChangeSpec := { name := "wireGreat", fn := fun _ => fun
  | [d1, d2] => { results := [.lit (.bool true)], args := [d1, d2] }
  | _ => none }
def wireGreatRow : OpenClaim := { program := "ytaegbddjeibolaa", sum := "fafc182abea27f5eb01ac23ef42ee6afba501bbfb01c7208fb5ad3a522f35b1b", func := "pouch/pouchlaw01.WireGreat", spec := "wireGreat", apart := false }
def WireGreatSaid : Prop := wireGreatRow.holds Try.pinned (OpenSpec.ofChange wireGreatSpec)

/-- ITS FALSE NEIGHBOUR: 'it returns false'. Refute it at one input. -/
def wireGreatWrong : ChangeSpec := { name := "wireGreat", fn := fun _ => fun
  | [d1, d2] => { results := [.lit (.bool false)], args := [d1, d2] }
  | _ => none }
def WireGreatWrongFalsely : Prop := wireGreatRow.holds Try.pinned (OpenSpec.ofChange wireGreatWrong)

/-- 'pouchlaw01.WirePuts': WHATEVER THE INPUT: true; the input reads as it did. -/
def wirePutsSpec : ChangeSpec := { name := "wirePuts", fn := fun _ => fun
  | [d1, d2] => { results := [.lit (.bool true)], args := [d1, d2] }
  | _ => none }
def wirePutsRow : OpenClaim := { program := "ytaegbddjeibolaa", sum := "fafc182abea27f5eb01ac23ef42ee6afba501bbfb01c7208fb5ad3a522f35b1b", func := "pouch/pouchlaw01.WirePuts", spec := "wirePuts", apart := false }
def WirePutsSaid : Prop := wirePutsRow.holds Try.pinned (OpenSpec.ofChange wirePutsSpec)

/-- ITS FALSE NEIGHBOUR: 'it returns false'. Refute it at one input. -/
def wirePutsWrong : ChangeSpec := { name := "wirePuts", fn := fun _ => fun
  | [d1, d2] => { results := [.lit (.bool false)], args := [d1, d2] }
  | _ => none }
def WirePutsWrongFalsely : Prop := wirePutsRow.holds Try.pinned (OpenSpec.ofChange wirePutsWrong)

/-- 'pouchlaw01.WireReads': WHATEVER THE INPUT: true; the input reads as it did. -/
def wireReadsSpec : ChangeSpec := { name := "wireReads", fn := fun _ => fun
  | [d1, d2] => { results := [.lit (.bool true)], args := [d1, d2] }
  | _ => none }
def wireReadsRow : OpenClaim := { program := "ytaegbddjeibolaa", sum := "fafc182abea27f5eb01ac23ef42ee6afba501bbfb01c7208fb5ad3a522f35b1b", func := "pouch/pouchlaw01.WireReads", spec := "wireReads", apart := false }
def WireReadsSaid : Prop := wireReadsRow.holds Try.pinned (OpenSpec.ofChange wireReadsSpec)

/-- ITS FALSE NEIGHBOUR: 'it returns false'. Refute it at one input. -/
def wireReadsWrong : ChangeSpec := { name := "wireReads", fn := fun _ => fun
  | [d1, d2] => { results := [.lit (.bool false)], args := [d1, d2] }
  | _ => none }
def WireReadsWrongFalsely : Prop := wireReadsRow.holds Try.pinned (OpenSpec.ofChange wireReadsWrong)

/-- 'pouchlaw01.WireNil': WHATEVER THE INPUT: true; the input reads as it did. -/
def wireNilSpec : ChangeSpec := { name := "wireNil", fn := fun _ => fun
  | [d] => { results := [.lit (.bool true)], args := [d] }
  | _ => none }
def wireNilRow : OpenClaim := { program := "ytaegbddjeibolaa", sum := "fafc182abea27f5eb01ac23ef42ee6afba501bbfb01c7208fb5ad3a522f35b1b", func := "pouch/pouchlaw01.WireNil", spec := "wireNil", apart := false }
def WireNilSaid : Prop := wireNilRow.holds Try.pinned (OpenSpec.ofChange wireNilSpec)

/-- ITS FALSE NEIGHBOUR: 'it returns false'. Refute it at one input. -/
def wireNilWrong : ChangeSpec := { name := "wireNil", fn := fun _ => fun
  | [d] => { results := [.lit (.bool false)], args := [d] }
  | _ => none }
def WireNilWrongFalsely : Prop := wireNilRow.holds Try.pinned (OpenSpec.ofChange wireNilWrong)

/- THE SECOND FORM. 'bulk': how many values and letters a reading holds, each counted each time it is reached (what is shared counts as often as it is met; a slice's spare places count too). A statement '..UptoSaid' is the law's where the arguments, and the package variables that the reading takes, are together of bulk at most 1048576: NARROWER than '..Said'. Prove '..Said' where nothing that the law and all that it calls make is longer than what came in: it says more and counts as full. Else prove '..UptoSaid'. A law counts once. -/
mutual
def uptoBulk {H : Type} : DataW H → Nat
  | .lit (.string bytes) => bytes.length + 1
  | .lit _ => 1
  | .nil => 1
  | .ptr d => uptoBulk d + 1
  | .slice elems spare => uptoBulkAll elems + uptoBulkAll spare + 1
  | .agg parts => uptoBulkAll parts + 1
  | .iface _ d => uptoBulk d + 1
  | .map entries => uptoBulkEntries entries + 1
  | .held _ => 1
def uptoBulkAll {H : Type} : List (DataW H) → Nat
  | [] => 0
  | d :: r => uptoBulk d + uptoBulkAll r
def uptoBulkEntries {H : Type} : List (Lit × DataW H) → Nat
  | [] => 0
  | x :: r => uptoBulkEntry x + uptoBulkEntries r
def uptoBulkEntry {H : Type} : Lit × DataW H → Nat
  | (.string bytes, d) => bytes.length + uptoBulk d + 1
  | (_, d) => uptoBulk d + 1
 end
def uptoSmall : (H : Type) → List (DataW H) → Bool := fun _ ds => decide (uptoBulkAll ds ≤ 1048576)
def OpenSpec.upto (s : _root_.Go.ChangeSpec) : _root_.Go.OpenSpec := { _root_.Go.OpenSpec.ofChange s with cond := some uptoSmall }

/-- 'pouchlaw03.ReasonKnown', WHERE WHAT IT READS IS OF BULK AT MOST 1048576: true; the input reads as it did. -/
def reasonKnownUptoRow : OpenClaim := { program := "ytaegbddjeibolaa", sum := "fafc182abea27f5eb01ac23ef42ee6afba501bbfb01c7208fb5ad3a522f35b1b", func := "pouch/pouchlaw03.ReasonKnown", spec := "reasonKnown", apart := false, narrowed := true }
def ReasonKnownUptoSaid : Prop := reasonKnownUptoRow.holds Try.pinned (OpenSpec.upto reasonKnownSpec)

/-- 'pouchlaw03.ReasonAll', WHERE WHAT IT READS IS OF BULK AT MOST 1048576: true; the input reads as it did. -/
def reasonAllUptoRow : OpenClaim := { program := "ytaegbddjeibolaa", sum := "fafc182abea27f5eb01ac23ef42ee6afba501bbfb01c7208fb5ad3a522f35b1b", func := "pouch/pouchlaw03.ReasonAll", spec := "reasonAll", apart := false, narrowed := true }
def ReasonAllUptoSaid : Prop := reasonAllUptoRow.holds Try.pinned (OpenSpec.upto reasonAllSpec)

/-- 'pouchlaw01.WireVars', WHERE WHAT IT READS IS OF BULK AT MOST 1048576: true; the input reads as it did. -/
def wireVarsUptoRow : OpenClaim := { program := "ytaegbddjeibolaa", sum := "fafc182abea27f5eb01ac23ef42ee6afba501bbfb01c7208fb5ad3a522f35b1b", func := "pouch/pouchlaw01.WireVars", spec := "wireVars", apart := false, narrowed := true }
def WireVarsUptoSaid : Prop := wireVarsUptoRow.holds Try.pinned (OpenSpec.upto wireVarsSpec)

/-- 'pouchlaw01.WireGreat', WHERE WHAT IT READS IS OF BULK AT MOST 1048576: true; the input reads as it did. -/
def wireGreatUptoRow : OpenClaim := { program := "ytaegbddjeibolaa", sum := "fafc182abea27f5eb01ac23ef42ee6afba501bbfb01c7208fb5ad3a522f35b1b", func := "pouch/pouchlaw01.WireGreat", spec := "wireGreat", apart := false, narrowed := true }
def WireGreatUptoSaid : Prop := wireGreatUptoRow.holds Try.pinned (OpenSpec.upto wireGreatSpec)

/-- 'pouchlaw01.WirePuts', WHERE WHAT IT READS IS OF BULK AT MOST 1048576: true; the input reads as it did. -/
def wirePutsUptoRow : OpenClaim := { program := "ytaegbddjeibolaa", sum := "fafc182abea27f5eb01ac23ef42ee6afba501bbfb01c7208fb5ad3a522f35b1b", func := "pouch/pouchlaw01.WirePuts", spec := "wirePuts", apart := false, narrowed := true }
def WirePutsUptoSaid : Prop := wirePutsUptoRow.holds Try.pinned (OpenSpec.upto wirePutsSpec)

/-- 'pouchlaw01.WireReads', WHERE WHAT IT READS IS OF BULK AT MOST 1048576: true; the input reads as it did. -/
def wireReadsUptoRow : OpenClaim := { program := "ytaegbddjeibolaa", sum := "fafc182abea27f5eb01ac23ef42ee6afba501bbfb01c7208fb5ad3a522f35b1b", func := "pouch/pouchlaw01.WireReads", spec := "wireReads", apart := false, narrowed := true }
def WireReadsUptoSaid : Prop := wireReadsUptoRow.holds Try.pinned (OpenSpec.upto wireReadsSpec)

/-- 'pouchlaw01.WireNil', WHERE WHAT IT READS IS OF BULK AT MOST 1048576: true; the input reads as it did. -/
def wireNilUptoRow : OpenClaim := { program := "ytaegbddjeibolaa", sum := "fafc182abea27f5eb01ac23ef42ee6afba501bbfb01c7208fb5ad3a522f35b1b", func := "pouch/pouchlaw01.WireNil", spec := "wireNil", apart := false, narrowed := true }
def WireNilUptoSaid : Prop := wireNilUptoRow.holds Try.pinned (OpenSpec.upto wireNilSpec)

end Rows
end Go.Proofs.Ytaegbddjeibolaa
