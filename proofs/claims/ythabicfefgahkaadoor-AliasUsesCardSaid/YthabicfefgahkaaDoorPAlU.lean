/- Plain laws. -/
import Derived.Test.YthabicfefgahkaaDoorAl5
set_option linter.unusedSimpArgs false
set_option linter.unusedVariables false
set_option maxRecDepth 100000
namespace Go.Rv
theorem pure_AliasUses (x : tyL Tb [.g (.f (.a .u16)), .g (.f (.a (.sl 3)))]) (hx : szArgs tab 4 [.g (.f (.a .u16)), .g (.f (.a (.sl 3)))] x) : l12_AliasUses x.1 x.2.1 = some true := uses_all _ _
end Go.Rv
