/- More facts of the types of the program. No condition. -/
import Derived.Test.YtbplgfhjpeeieaaGwFacts
set_option linter.unusedVariables false
set_option linter.unusedSimpArgs false
set_option linter.unusedSectionVars false
set_option maxRecDepth 100000
namespace Go.Gw
open Go Go.Proofs
theorem QNk : (Try.f76.name == "runtime.NumGoroutine") = false := by kernel_rfl
theorem QNl : (Try.f77.name == "runtime.NumGoroutine") = false := by kernel_rfl
theorem QNm : (Try.f79.name == "runtime.NumGoroutine") = false := by kernel_rfl
theorem QNn : (Try.f80.name == "runtime.NumGoroutine") = false := by kernel_rfl
theorem Qxu : (Try.f136.name == "runtime.NumGoroutine") = false := by kernel_rfl
theorem QMj : (Try.f158.name == "runtime.NumGoroutine") = false := by kernel_rfl
theorem QMk : (Try.f159.name == "runtime.NumGoroutine") = false := by kernel_rfl
theorem QMl : (Try.f160.name == "runtime.NumGoroutine") = false := by kernel_rfl
theorem QMm : (Try.f161.name == "runtime.NumGoroutine") = false := by kernel_rfl
theorem Qyb : (Try.f162.name == "runtime.NumGoroutine") = false := by kernel_rfl
end Go.Gw
