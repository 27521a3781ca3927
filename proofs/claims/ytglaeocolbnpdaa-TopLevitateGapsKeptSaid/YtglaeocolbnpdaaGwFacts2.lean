/- More facts of the types of the program. No condition. -/
import Derived.Test.YtglaeocolbnpdaaGwFacts
set_option maxRecDepth 100000
namespace Go.Gw
open Go Go.Proofs
theorem nm27 : (Try.f27.name == "runtime.NumGoroutine") = false := by kernel_rfl
theorem nm28 : (Try.f28.name == "runtime.NumGoroutine") = false := by kernel_rfl
theorem nm29 : (Try.f29.name == "runtime.NumGoroutine") = false := by kernel_rfl
theorem nm30 : (Try.f30.name == "runtime.NumGoroutine") = false := by kernel_rfl
end Go.Gw
