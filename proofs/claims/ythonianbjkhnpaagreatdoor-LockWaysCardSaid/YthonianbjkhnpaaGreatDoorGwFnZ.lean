/- All printed functions, said in fewer words. No condition. -/
import Derived.Test.YthonianbjkhnpaaGreatDoorGwVd
import Derived.Test.YthonianbjkhnpaaGreatDoorGwFnE
set_option linter.unusedVariables false
set_option linter.unusedSimpArgs false
