/- All printed functions. No condition. -/
import Derived.Test.YtekkhkapnapelaaGwFnC
set_option linter.unusedVariables false
set_option linter.unusedSimpArgs false
set_option linter.unusedSectionVars false
