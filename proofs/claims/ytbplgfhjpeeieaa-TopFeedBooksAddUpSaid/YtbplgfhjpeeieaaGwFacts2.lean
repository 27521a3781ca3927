/- More facts of the types of the program. No condition. -/
import Derived.Test.YtbplgfhjpeeieaaGwFacts
set_option linter.unusedVariables false
set_option linter.unusedSimpArgs false
set_option linter.unusedSectionVars false
set_option maxRecDepth 100000
namespace Go.Gw
open Go Go.Proofs
theorem Qoz : Xt Try.prog 188 1 := Yr (by kernel_rfl)
theorem Yx : Xt Try.prog 190 1 := Yr (by kernel_rfl)
theorem Qya : Xt Try.prog 191 6 := Yr (by kernel_rfl)
theorem Qwx : Zk Try.prog 188 := ⟨_, Try.underlying188, trivial⟩
theorem YF : Zk Try.prog 190 := ⟨_, Try.underlying190, trivial⟩
theorem Qzt : Aggr Try.prog 191 6 := ZU (by trivial) Try.underlying191 (by kernel_rfl)
theorem QQa : ZI Try.prog 189 [(.pointer none), (.pointer none)] := ZA (by kernel_rfl)
theorem Qph : ZI Try.prog 191 [(.pointer none), (.pointer none), (.pointer none), (.pointer none), (.pointer none), (.pointer none)] := ZA (by kernel_rfl)
theorem QJk : (Try.f49.name == "runtime.NumGoroutine") = false := by kernel_rfl
theorem QJm : (Try.f81.name == "runtime.NumGoroutine") = false := by kernel_rfl
theorem QJn : (Try.f82.name == "runtime.NumGoroutine") = false := by kernel_rfl
theorem Qji : (Try.f119.name == "runtime.NumGoroutine") = false := by kernel_rfl
theorem Zq : (Try.f120.name == "runtime.NumGoroutine") = false := by kernel_rfl
end Go.Gw
