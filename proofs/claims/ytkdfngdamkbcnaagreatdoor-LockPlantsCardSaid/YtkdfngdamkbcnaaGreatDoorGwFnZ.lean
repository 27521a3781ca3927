/- All printed functions, said in fewer words. No condition. -/
import Derived.Test.YtkdfngdamkbcnaaGreatDoorGwVd
import Derived.Test.YtkdfngdamkbcnaaGreatDoorGwFnE
set_option linter.unusedVariables false
set_option linter.unusedSimpArgs false
