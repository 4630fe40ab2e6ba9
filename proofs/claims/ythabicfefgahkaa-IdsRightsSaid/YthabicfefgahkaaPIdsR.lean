/- Plain laws. -/
import Derived.Test.YthabicfefgahkaaIds6
set_option linter.unusedSimpArgs false
set_option linter.unusedVariables false
set_option maxRecDepth 100000
namespace Go.Rv
theorem pure_IdsRights (x : tyL Tb [.g (.f (.a (.sl 2)))]) (hx : szArgs tab 4 [.g (.f (.a (.sl 2)))] x) : l11_IdsRights x.1 = some true := rights_all x.1
end Go.Rv
