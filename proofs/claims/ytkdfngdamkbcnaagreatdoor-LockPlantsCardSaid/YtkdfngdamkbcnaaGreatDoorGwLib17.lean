/- An element that is a slice, read under a guard. No condition. -/
import Derived.Test.YtkdfngdamkbcnaaGreatDoorGwLib5
set_option linter.unusedVariables false
set_option linter.unusedSimpArgs false
set_option linter.unusedSectionVars false
set_option linter.unusedSectionVars false
namespace Go.Gw
open Go
end Go.Gw
