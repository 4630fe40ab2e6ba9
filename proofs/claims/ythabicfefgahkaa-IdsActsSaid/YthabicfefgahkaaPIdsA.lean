/- Plain laws. -/
import Derived.Test.YthabicfefgahkaaIds7
set_option linter.unusedSimpArgs false
set_option linter.unusedVariables false
set_option maxRecDepth 100000
namespace Go.Rv
theorem pure_IdsActs (x : tyL Tb [.g (.f (.a (.sl 7)))]) (hx : szArgs tab 4 [.g (.f (.a (.sl 7)))] x) : l11_IdsActs x.1 = some true := acts_all x.1
end Go.Rv
