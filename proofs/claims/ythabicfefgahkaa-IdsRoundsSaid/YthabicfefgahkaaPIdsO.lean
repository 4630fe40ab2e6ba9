/- Plain laws. -/
import Derived.Test.YthabicfefgahkaaIds8
set_option linter.unusedSimpArgs false
set_option linter.unusedVariables false
set_option maxRecDepth 100000
namespace Go.Rv
theorem pure_IdsRounds (x : tyL Tb [.g (.f (.a (.sl 4))), .g (.f (.a (.sl 5))), .g (.f (.a (.sl 6)))]) (hx : szArgs tab 4 [.g (.f (.a (.sl 4))), .g (.f (.a (.sl 5))), .g (.f (.a (.sl 6)))] x) : l11_IdsRounds x.1 x.2.1 x.2.2.1 = some true := rounds_all _ _ _
end Go.Rv
