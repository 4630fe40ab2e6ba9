/- Plain laws. -/
import Derived.Test.YtpggofndaadeiaaDoorText5
set_option linter.unusedSimpArgs false
set_option linter.unusedVariables false
set_option maxRecDepth 100000
namespace Go.Rv
open Go.Lib
theorem slc_nat {α : Type} {l : List α} {a b : Nat} (h1 : a ≤ b) (h2 : b ≤ l.length) : slc l (a : Int) (b : Int) = some ((l.take b).drop a) := by
  simp only [slc, Int.toNat_natCast]
  rw [if_pos ⟨by omega, by omega, by omega⟩]
theorem right_small (s : List UInt8) (h : s.length ≤ 1000) : text_Right s = some (good s) := by
  rw [tRight_eq, decide_eq_true (by omega), Bool.true_and]
end Go.Rv
