/- More facts of the types of the program. No condition. -/
import Derived.Test.YtglaeocolbnpdaaGreatGwFacts
set_option maxRecDepth 100000
namespace Go.Gw
open Go Go.Proofs
theorem QAy : (Tryz.f26.name == "runtime.NumGoroutine") = false := by kernel_rfl
theorem QAz : (Tryz.f29.name == "runtime.NumGoroutine") = false := by kernel_rfl
theorem Qqo : (Tryz.f30.name == "runtime.NumGoroutine") = false := by kernel_rfl
theorem QBa : (Tryz.f31.name == "runtime.NumGoroutine") = false := by kernel_rfl
theorem QBb : (Tryz.f32.name == "runtime.NumGoroutine") = false := by kernel_rfl
theorem QBg : (Tryz.f58.name == "runtime.NumGoroutine") = false := by kernel_rfl
theorem Qqp : (Tryz.f65.name == "runtime.NumGoroutine") = false := by kernel_rfl
theorem QBq : (Tryz.f85.name == "runtime.NumGoroutine") = false := by kernel_rfl
theorem QBr : (Tryz.f86.name == "runtime.NumGoroutine") = false := by kernel_rfl
theorem Qlg : (Tryz.f111.name == "runtime.NumGoroutine") = false := by kernel_rfl
theorem Qqc : (Tryz.f112.name == "runtime.NumGoroutine") = false := by kernel_rfl
theorem YU : (Tryz.f116.name == "runtime.NumGoroutine") = false := by kernel_rfl
theorem Yp : (Tryz.f117.name == "runtime.NumGoroutine") = false := by kernel_rfl
theorem Qzz : (Tryz.f118.name == "runtime.NumGoroutine") = false := by kernel_rfl
theorem Qgv : (Tryz.f149.name == "runtime.NumGoroutine") = false := by kernel_rfl
end Go.Gw
