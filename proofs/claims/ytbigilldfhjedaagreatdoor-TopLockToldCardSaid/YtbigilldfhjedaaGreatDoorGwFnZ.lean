/- All printed functions, said in fewer words. No condition. -/
import Derived.Test.YtbigilldfhjedaaGreatDoorGwVd
import Derived.Test.YtbigilldfhjedaaGreatDoorGwFnE
set_option linter.unusedVariables false
set_option linter.unusedSimpArgs false
