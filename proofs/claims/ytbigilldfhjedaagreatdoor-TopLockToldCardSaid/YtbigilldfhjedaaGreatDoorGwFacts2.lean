/- More facts. No condition. -/
import Derived.Test.YtbigilldfhjedaaGreatDoorGwFacts
set_option linter.unusedVariables false
set_option linter.unusedSimpArgs false
set_option linter.unusedSectionVars false
