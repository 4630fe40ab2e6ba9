/- The tables that the rows lay. -/
import Derived.Test.YtckhkfheimmffaaDoorTextB
import Derived.Test.YtckhkfheimmffaaDoorRows
set_option linter.unusedSimpArgs false
set_option linter.unusedVariables false
set_option maxRecDepth 100000
namespace Go.Proofs
open Go.Lib
namespace YtckhkfheimmffaaDoor
theorem own:ownKnob Tryd.prog.godebug=none:=by kernel_rfl
theorem g3_is:Tryd.prog.globalNamed "unicode/utf8.first"=some (Tryd.lays196_ren.g 3):=by kernel_rfl
theorem g4_is:Tryd.prog.globalNamed "unicode/utf8.acceptRanges"=some (Tryd.lays196_ren.g 4):=by kernel_rfl
theorem first_is:(Rows.laid_unicode_utf8_first:DataW Unit)=Lib.firstData:=by kernel_rfl
theorem accept_is:(Rows.laid_unicode_utf8_acceptRanges:DataW Unit)=Lib.acceptData:=by kernel_rfl
noncomputable def laidWorld (os:Os):World :=
 let w0:=World.holding Tryd.prog os ⟨#[],#[],[]⟩
 let put (h:Array Obj) (g:Nat) (cs:Array Value):Array Obj:=h.modify g fun
  | .cells _ t frozen=>.cells cs t frozen
  | o=>o
 let h1:=put w0.heap (Tryd.lays196_ren.g 3) (Lib.firstTab.map fun z=>Value.int .u8 z).toArray
 let h2:=put h1 (Tryd.lays196_ren.g 4) ((List.range 16).flatMap fun i=>[Value.int .u8 (Lib.accLo i),Value.int .u8 (Lib.accHi i)]).toArray
 { w0 with heap:=h2 }
theorem tabs_of (W:World) (h:laidMetH Tryd.prog [("unicode/utf8.acceptRanges",Rows.laid_unicode_utf8_acceptRanges),("unicode/utf8.first",Rows.laid_unicode_utf8_first)] W) (hS:W.ShapedOpen Tryd.prog):TrydWp W:=by
 rw [first_is,accept_is] at h
 have h:laidMet Tryd.prog [("unicode/utf8.acceptRanges",Lib.acceptData),("unicode/utf8.first",Lib.firstData)] W:=h
 exact yv783 Tryd.lays196.t5 Tryd.lays196.t119 Tryd.lays196.t138 Tryd.lays196.t139 ⟨rfl,rfl⟩ ⟨rfl,rfl⟩ (by kernel_rfl) (by kernel_rfl) (by kernel_rfl) g3_is g4_is (by kernel_rfl) (by kernel_rfl)
  (Lib.laidMet.reads h (.tail _ (.head _))) (Lib.laidMet.reads h (.head _))
theorem laid_met (os:Os) (args:Array Value):laidMet Tryd.prog [("unicode/utf8.acceptRanges",Rows.laid_unicode_utf8_acceptRanges),("unicode/utf8.first",Rows.laid_unicode_utf8_first)] ((laidWorld os).forCall (fun _ _=>0) ⟨#[],args,[]⟩).memory:=by
 rw [first_is,accept_is]
 exact (LaidIn.of_run (l:=[("unicode/utf8.acceptRanges",Lib.acceptData),("unicode/utf8.first",Lib.firstData)]) [Tryd.lays196_ren.g 4,Tryd.lays196_ren.g 3] 8 (by kernel_rfl) (by kernel_rfl) (by kernel_rfl) (by kernel_rfl)).met
end YtckhkfheimmffaaDoor
end Go.Proofs
