/- Plain laws. -/
import Derived.Test.YthabicfefgahkaaDoorAl5
set_option linter.unusedSimpArgs false
set_option linter.unusedVariables false
set_option maxRecDepth 100000
namespace Go.Rv
theorem pure_AliasRights (x : tyL Tb [.g (.f (.a (.sl 2)))]) (hx : szArgs tab 4 [.g (.f (.a (.sl 2)))] x) : l12_AliasRights x.1 = some true := rights_all x.1
end Go.Rv
