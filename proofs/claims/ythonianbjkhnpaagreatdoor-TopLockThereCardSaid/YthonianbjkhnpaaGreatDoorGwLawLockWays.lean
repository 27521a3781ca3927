/- What functions come to, printed by a program of this work, said in fewer words. No condition. -/
import Derived.Test.YthonianbjkhnpaaGreatDoorGwVd
import Derived.Test.YthonianbjkhnpaaGreatDoorGwTopA
import Derived.Test.YthonianbjkhnpaaGreatDoorGwCj21
set_option linter.unusedVariables false
set_option linter.unusedSimpArgs false
set_option linter.unusedSectionVars false
set_option maxRecDepth 4096
set_option maxHeartbeats 8000000
set_option linter.unusedVariables false
set_option linter.unusedSectionVars false
namespace Go.Gw
open Go Go.Proofs
attribute [local irreducible] T0 TS TT TP TX TZ Eff Stp WC Quiet gd
end Go.Gw
