/- More facts of the types of the program. No condition. -/
import Derived.Test.YtbplgfhjpeeieaaGwFacts
set_option linter.unusedVariables false
set_option linter.unusedSimpArgs false
set_option linter.unusedSectionVars false
set_option maxRecDepth 100000
namespace Go.Gw
open Go Go.Proofs
theorem Qpy : XG Try.prog 188 1 := Yv (by kernel_rfl)
theorem YM : XG Try.prog 190 1 := Yv (by kernel_rfl)
theorem QAn : XG Try.prog 191 6 := Yv (by kernel_rfl)
theorem Qyy : Zv Try.prog 188 := ⟨_, Try.underlying188, trivial⟩
theorem YQ : Zv Try.prog 190 := ⟨_, Try.underlying190, trivial⟩
theorem QCc : Aggr Try.prog 191 6 := ZK (by trivial) Try.underlying191 (by kernel_rfl)
theorem QSi : ZI Try.prog 189 [(.pointer none), (.pointer none)] := ZE (by kernel_rfl)
theorem Qqk : ZI Try.prog 191 [(.pointer none), (.pointer none), (.pointer none), (.pointer none), (.pointer none), (.pointer none)] := ZE (by kernel_rfl)
theorem QLl : (Try.f49.name == "runtime.NumGoroutine") = false := by kernel_rfl
theorem Qon : (Try.f53.name == "runtime.NumGoroutine") = false := by kernel_rfl
theorem Qir : (Try.f119.name == "runtime.NumGoroutine") = false := by kernel_rfl
theorem Zz : (Try.f120.name == "runtime.NumGoroutine") = false := by kernel_rfl
end Go.Gw
