/- Levitate in plain words: errors of plants, states, boxes and samples by the specification. -/
import Derived.Test.YtglaeocolbnpdaaGreatGwLev9
set_option maxRecDepth 8192
set_option linter.unusedSimpArgs false
set_option linter.unusedVariables false
namespace Go.Gw
open Go

end Go.Gw
