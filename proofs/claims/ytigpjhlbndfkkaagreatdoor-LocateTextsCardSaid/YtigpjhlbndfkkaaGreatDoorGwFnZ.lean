/- All printed functions, said in fewer words. No condition. -/
import Derived.Test.YtigpjhlbndfkkaaGreatDoorGwPl
import Derived.Test.YtigpjhlbndfkkaaGreatDoorGwFnC
set_option linter.unusedVariables false
set_option linter.unusedSimpArgs false
