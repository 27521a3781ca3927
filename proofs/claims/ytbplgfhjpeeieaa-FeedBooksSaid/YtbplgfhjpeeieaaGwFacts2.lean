/- More facts of the types of the program. No condition. -/
import Derived.Test.YtbplgfhjpeeieaaGwFacts
set_option linter.unusedVariables false
set_option linter.unusedSimpArgs false
set_option linter.unusedSectionVars false
set_option maxRecDepth 100000
namespace Go.Gw
open Go Go.Proofs
theorem Qkn : XF Try.prog 79 12 := Ye (by kernel_rfl)
theorem Qqa : XF Try.prog 188 1 := Ye (by kernel_rfl)
theorem YJ : XF Try.prog 190 1 := Ye (by kernel_rfl)
theorem QAe : XF Try.prog 191 6 := Ye (by kernel_rfl)
theorem Qyq : Zt Try.prog 188 := ⟨_, Try.underlying188, trivial⟩
theorem YP : Zt Try.prog 190 := ⟨_, Try.underlying190, trivial⟩
theorem QBv : Aggr Try.prog 191 6 := ZE (by trivial) Try.underlying191 (by kernel_rfl)
theorem QSy : ZI Try.prog 189 [(.pointer none), (.pointer none)] := ZA (by kernel_rfl)
theorem Qqm : ZI Try.prog 191 [(.pointer none), (.pointer none), (.pointer none), (.pointer none), (.pointer none), (.pointer none)] := ZA (by kernel_rfl)
theorem QLm : (Try.f49.name == "runtime.NumGoroutine") = false := by kernel_rfl
theorem QLn : (Try.f50.name == "runtime.NumGoroutine") = false := by kernel_rfl
theorem QLp : (Try.f52.name == "runtime.NumGoroutine") = false := by kernel_rfl
theorem Qiu : (Try.f119.name == "runtime.NumGoroutine") = false := by kernel_rfl
theorem Zw : (Try.f120.name == "runtime.NumGoroutine") = false := by kernel_rfl
theorem Qwm : (Try.f121.name == "runtime.NumGoroutine") = false := by kernel_rfl
end Go.Gw
