/- More facts of the types of the program. No condition. -/
import Derived.Test.YtbplgfhjpeeieaaGwFacts
set_option linter.unusedVariables false
set_option linter.unusedSimpArgs false
set_option linter.unusedSectionVars false
set_option maxRecDepth 100000
namespace Go.Gw
open Go Go.Proofs
theorem QEj : (Try.f68.name == "runtime.NumGoroutine") = false := by kernel_rfl
theorem QEk : (Try.f81.name == "runtime.NumGoroutine") = false := by kernel_rfl
end Go.Gw
