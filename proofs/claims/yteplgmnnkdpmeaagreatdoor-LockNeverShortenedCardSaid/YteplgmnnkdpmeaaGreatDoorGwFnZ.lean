/- All printed functions, said in fewer words. No condition. -/
import Derived.Test.YteplgmnnkdpmeaaGreatDoorGwVd
import Derived.Test.YteplgmnnkdpmeaaGreatDoorGwFnE
set_option linter.unusedVariables false
set_option linter.unusedSimpArgs false
