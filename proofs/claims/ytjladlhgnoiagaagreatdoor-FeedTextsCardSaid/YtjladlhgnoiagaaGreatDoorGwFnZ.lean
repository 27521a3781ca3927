/- All printed functions, said in fewer words. No condition. -/
import Derived.Test.YtjladlhgnoiagaaGreatDoorGwPl
import Derived.Test.YtjladlhgnoiagaaGreatDoorGwFnC
set_option linter.unusedVariables false
set_option linter.unusedSimpArgs false
