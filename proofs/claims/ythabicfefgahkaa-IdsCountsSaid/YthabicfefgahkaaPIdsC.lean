/- Plain laws. -/
import Derived.Test.YthabicfefgahkaaIds6
set_option linter.unusedSimpArgs false
set_option linter.unusedVariables false
set_option maxRecDepth 100000
namespace Go.Rv
theorem pure_IdsCounts (x : tyL Tb [.g (.f (.a .u16)), .g (.st 3), .g (.f (.a .b))]) (hx : szArgs tab 4 [.g (.f (.a .u16)), .g (.st 3), .g (.f (.a .b))] x) : l11_IdsCounts x.1 (⟨x.2.1.x0, x.2.1.x1⟩ : arr2_i64) x.2.2.1 = some true := counts_all _ _ _
end Go.Rv
