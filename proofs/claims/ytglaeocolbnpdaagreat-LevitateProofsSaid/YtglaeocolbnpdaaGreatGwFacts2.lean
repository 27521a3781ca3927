/- More facts of the types of the program. No condition. -/
import Derived.Test.YtglaeocolbnpdaaGreatGwFacts
set_option maxRecDepth 100000
namespace Go.Gw
open Go Go.Proofs
theorem QCa : (Tryz.f29.name == "runtime.NumGoroutine") = false := by kernel_rfl
theorem QCb : (Tryz.f30.name == "runtime.NumGoroutine") = false := by kernel_rfl
theorem QCc : (Tryz.f32.name == "runtime.NumGoroutine") = false := by kernel_rfl
theorem QCh : (Tryz.f58.name == "runtime.NumGoroutine") = false := by kernel_rfl
theorem QCl : (Tryz.f65.name == "runtime.NumGoroutine") = false := by kernel_rfl
theorem QCm : (Tryz.f66.name == "runtime.NumGoroutine") = false := by kernel_rfl
theorem QCr : (Tryz.f85.name == "runtime.NumGoroutine") = false := by kernel_rfl
theorem QCs : (Tryz.f86.name == "runtime.NumGoroutine") = false := by kernel_rfl
theorem Qmh : (Tryz.f111.name == "runtime.NumGoroutine") = false := by kernel_rfl
theorem Qcc : (Tryz.f112.name == "runtime.NumGoroutine") = false := by kernel_rfl
theorem YD : (Tryz.f116.name == "runtime.NumGoroutine") = false := by kernel_rfl
theorem Yb : (Tryz.f117.name == "runtime.NumGoroutine") = false := by kernel_rfl
theorem Qrw : (Tryz.f118.name == "runtime.NumGoroutine") = false := by kernel_rfl
theorem Qhp : (Tryz.f149.name == "runtime.NumGoroutine") = false := by kernel_rfl
end Go.Gw
