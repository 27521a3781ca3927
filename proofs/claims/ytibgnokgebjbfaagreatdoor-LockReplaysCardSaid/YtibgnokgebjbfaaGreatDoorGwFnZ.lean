/- All printed functions, said in fewer words. No condition. -/
import Derived.Test.YtibgnokgebjbfaaGreatDoorGwVd
import Derived.Test.YtibgnokgebjbfaaGreatDoorGwFnE
set_option linter.unusedVariables false
set_option linter.unusedSimpArgs false
