/- All printed functions. No condition. -/
import Derived.Test.YtpgpimedmpeliaaGreatDoorGwFnF
set_option linter.unusedVariables false
set_option linter.unusedSimpArgs false
set_option linter.unusedSectionVars false
