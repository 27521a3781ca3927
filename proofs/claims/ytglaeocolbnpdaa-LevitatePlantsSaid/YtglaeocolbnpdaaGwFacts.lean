/- Facts of the types of the program. No condition. -/
import Derived.Test.YtglaeocolbnpdaaGwSt
import Derived.Test.YtglaeocolbnpdaaGwLib10
import Derived.Laws.StructEq
import Derived.Laws.Externs
import Derived.Test.YtglaeocolbnpdaaProg
set_option maxRecDepth 100000
namespace Go.Gw
open Go Go.Proofs
theorem sz3 : Size Try.prog 3 1 := size_of (by kernel_rfl)
theorem sz30 : Size Try.prog 30 1 := size_of (by kernel_rfl)
theorem sc3 : Scalar Try.prog 3 := ⟨_, Try.underlying3, trivial⟩
theorem sc30 : Scalar Try.prog 30 := ⟨_, Try.underlying30, trivial⟩
theorem mixed : Try.prog.follows .mixedOrders = true := by kernel_rfl
end Go.Gw
