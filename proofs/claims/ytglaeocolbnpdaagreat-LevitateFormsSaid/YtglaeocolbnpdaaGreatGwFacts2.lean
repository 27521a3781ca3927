/- More facts of the types of the program. No condition. -/
import Derived.Test.YtglaeocolbnpdaaGreatGwFacts
set_option maxRecDepth 100000
namespace Go.Gw
open Go Go.Proofs
theorem Qzv : (Tryz.f32.name == "runtime.NumGoroutine") = false := by kernel_rfl
theorem Qzz : (Tryz.f54.name == "runtime.NumGoroutine") = false := by kernel_rfl
theorem QAb : (Tryz.f56.name == "runtime.NumGoroutine") = false := by kernel_rfl
theorem QAc : (Tryz.f58.name == "runtime.NumGoroutine") = false := by kernel_rfl
theorem Qyt : (Tryz.f111.name == "runtime.NumGoroutine") = false := by kernel_rfl
theorem Qyu : (Tryz.f112.name == "runtime.NumGoroutine") = false := by kernel_rfl
theorem Qgf : (Tryz.f116.name == "runtime.NumGoroutine") = false := by kernel_rfl
theorem Qgg : (Tryz.f117.name == "runtime.NumGoroutine") = false := by kernel_rfl
theorem Qgi : (Tryz.f149.name == "runtime.NumGoroutine") = false := by kernel_rfl
end Go.Gw
