/- More facts of the types of the program. No condition. -/
import Derived.Test.YtgpapebgdnimfaaDoorGwFacts
set_option maxRecDepth 100000
namespace Go.Gw
open Go Go.Proofs
theorem sz27 : Size Tryd.prog 27 1 := size_of (by kernel_rfl)
theorem sc27 : Scalar Tryd.prog 27 := ⟨_, Tryd.underlying27, trivial⟩
theorem zi27 : ZI Tryd.prog 27 [.nilFunc] := zi_of (by kernel_rfl)
theorem nm79 : (Tryd.f79.name == "runtime.NumGoroutine") = false := by kernel_rfl
theorem nm80 : (Tryd.f80.name == "runtime.NumGoroutine") = false := by kernel_rfl
theorem nm81 : (Tryd.f81.name == "runtime.NumGoroutine") = false := by kernel_rfl
theorem nm117 : (Tryd.f117.name == "runtime.NumGoroutine") = false := by kernel_rfl
theorem nm119 : (Tryd.f119.name == "runtime.NumGoroutine") = false := by kernel_rfl
end Go.Gw
