/- All printed functions. No condition. -/
import Derived.Test.YtibgnokgebjbfaaGreatDoorGwFnE
set_option linter.unusedVariables false
set_option linter.unusedSimpArgs false
