/- Facts of the types of the program. No condition. -/
import Derived.Test.YtbplgfhjpeeieaaGwSt
import Derived.Test.YtbplgfhjpeeieaaGwPlan
import Derived.Laws.StructEq
import Derived.Test.YtbplgfhjpeeieaaProg
set_option linter.unusedVariables false
set_option linter.unusedSimpArgs false
set_option linter.unusedSectionVars false
set_option maxRecDepth 100000
namespace Go.Gw
open Go Go.Proofs
abbrev numgo : String := "runtime.NumGoroutine"
theorem QM : Xy Try.prog 3 1 := X8 (by kernel_rfl)
theorem sz5 : Xy Try.prog 5 1 := X8 (by kernel_rfl)
theorem Yp : Xy Try.prog 9 1 := X8 (by kernel_rfl)
theorem YG : Xy Try.prog 22 1 := X8 (by kernel_rfl)
theorem Y4 : Xy Try.prog 23 1 := X8 (by kernel_rfl)
theorem XZ : Xy Try.prog 24 1 := X8 (by kernel_rfl)
theorem XR : Xy Try.prog 26 3 := X8 (by kernel_rfl)
theorem QHx : Xy Try.prog 30 1 := X8 (by kernel_rfl)
theorem YW : Xy Try.prog 52 1 := X8 (by kernel_rfl)
theorem Ji : Xy Try.prog 62 2 := X8 (by kernel_rfl)
theorem Qkj : Xy Try.prog 107 2 := X8 (by kernel_rfl)
theorem Y2 : Xy Try.prog 125 1 := X8 (by kernel_rfl)
theorem Ys : Xy Try.prog 127 4 := X8 (by kernel_rfl)
theorem ZX : Xy Try.prog 145 3 := X8 (by kernel_rfl)
theorem Yo : Xy Try.prog 158 5 := X8 (by kernel_rfl)
theorem Jh : Xy Try.prog 185 2 := X8 (by kernel_rfl)
theorem QR : YQ Try.prog 3 := ⟨_, Try.underlying3, trivial⟩
theorem sc5 : YQ Try.prog 5 := ⟨_, Try.underlying5, trivial⟩
theorem Yf : YQ Try.prog 9 := ⟨_, Try.underlying9, trivial⟩
theorem YE : YQ Try.prog 22 := ⟨_, Try.underlying22, trivial⟩
theorem Y1 : YQ Try.prog 23 := ⟨_, Try.underlying23, trivial⟩
theorem X7 : YQ Try.prog 24 := ⟨_, Try.underlying24, trivial⟩
theorem QGb : YQ Try.prog 30 := ⟨_, Try.underlying30, trivial⟩
theorem Zh : YQ Try.prog 52 := ⟨_, Try.underlying52, trivial⟩
theorem Zv : YQ Try.prog 125 := ⟨_, Try.underlying125, trivial⟩
theorem Yb : Aggr Try.prog 26 3 := YR (by trivial) Try.underlying26 (by kernel_rfl)
theorem Qgo : Aggr Try.prog 62 2 := YR (by trivial) Try.underlying62 (by kernel_rfl)
theorem Qgm : Aggr Try.prog 107 2 := YR (by trivial) Try.underlying107 (by kernel_rfl)
theorem Zl : Aggr Try.prog 127 4 := YR (by trivial) Try.underlying127 (by kernel_rfl)
theorem Ym : Aggr Try.prog 158 5 := YR (by trivial) Try.underlying158 (by kernel_rfl)
theorem Qco : Aggr Try.prog 185 2 := YR (by trivial) Try.underlying185 (by kernel_rfl)
theorem Yr : EInfo Try.prog 3 1 8 (.int .i64 0) := ZN (by kernel_rfl) rfl (by decide)
theorem Zp : EInfo Try.prog 30 1 8 (.int .i64 0) := ZN (by kernel_rfl) rfl (by decide)
theorem JM : EInfo Try.prog 62 2 24 (.agg (List.toArray [(.string ByteArray.empty), (.int .i64 0)])) := ZN (by kernel_rfl) rfl (by decide)
theorem X6 : EInfo Try.prog 73 4 32 (.agg (List.toArray [(.int .i64 0), (.int .i64 0), (.int .i64 0), (.int .i64 0)])) := ZN (by kernel_rfl) rfl (by decide)
theorem Qhf : EInfo Try.prog 107 2 16 (.agg (List.toArray [(.int .i64 0), (.int .i64 0)])) := ZN (by kernel_rfl) rfl (by decide)
theorem Qhg : EInfo Try.prog 127 4 56 (.agg (List.toArray [(.string ByteArray.empty), (.int .i64 0), (.int .i64 0), (.slice none 0 0)])) := ZN (by kernel_rfl) rfl (by decide)
theorem YJ : EInfo Try.prog 145 3 32 (.agg (List.toArray [(.string ByteArray.empty), (.int .i64 0), (.bool false)])) := ZN (by kernel_rfl) rfl (by decide)
theorem Qdi : EInfo Try.prog 185 2 16 (.agg (List.toArray [(.int .i64 0), (.int .i64 0)])) := ZN (by kernel_rfl) rfl (by decide)
theorem YL : BI Try.prog 26 [(0, 1), (1, 1), (2, 1)] [(.slice none 0 0), (.slice none 0 0), (.slice none 0 0)] := YS Try.underlying26 (by kernel_rfl) (by kernel_rfl)
theorem Qlp : BI Try.prog 73 [(0, 1), (1, 1), (2, 1), (3, 1)] [(.int .i64 0), (.int .i64 0), (.int .i64 0), (.int .i64 0)] := YS Try.underlying73 (by kernel_rfl) (by kernel_rfl)
theorem Qlm : BI Try.prog 107 [(0, 1), (1, 1)] [(.int .i64 0), (.int .i64 0)] := YS Try.underlying107 (by kernel_rfl) (by kernel_rfl)
theorem Qln : BI Try.prog 127 [(0, 1), (1, 1), (2, 1), (3, 1)] [(.string ByteArray.empty), (.int .i64 0), (.int .i64 0), (.slice none 0 0)] := YS Try.underlying127 (by kernel_rfl) (by kernel_rfl)
theorem Qlo : BI Try.prog 145 [(0, 1), (1, 1), (2, 1)] [(.string ByteArray.empty), (.int .i64 0), (.bool false)] := YS Try.underlying145 (by kernel_rfl) (by kernel_rfl)
theorem Qct : BI Try.prog 185 [(0, 1), (1, 1)] [(.int .i64 0), (.int .i64 0)] := YS Try.underlying185 (by kernel_rfl) (by kernel_rfl)
theorem Y9 : ZI Try.prog 26 [(.slice none 0 0), (.slice none 0 0), (.slice none 0 0)] := YP (by kernel_rfl)
theorem QKb : ZI Try.prog 107 [(.int .i64 0), (.int .i64 0)] := YP (by kernel_rfl)
theorem Qge : ZI Try.prog 185 [(.int .i64 0), (.int .i64 0)] := YP (by kernel_rfl)
theorem Jb : (Try.f46.name == numgo) = false := by kernel_rfl
theorem Zu : (Try.f92.name == numgo) = false := by kernel_rfl
theorem X4 : (Try.f93.name == numgo) = false := by kernel_rfl
theorem ZS : (Try.f95.name == numgo) = false := by kernel_rfl
theorem QCz : (Try.f110.name == numgo) = false := by kernel_rfl
theorem Qqs : (Try.f126.name == numgo) = false := by kernel_rfl
theorem Qqu : (Try.f133.name == numgo) = false := by kernel_rfl
theorem QDe : (Try.f138.name == numgo) = false := by kernel_rfl
theorem QDf : (Try.f139.name == numgo) = false := by kernel_rfl
theorem Qej : (Try.f141.name == numgo) = false := by kernel_rfl
theorem QDg : (Try.f143.name == numgo) = false := by kernel_rfl
theorem QDh : (Try.f144.name == numgo) = false := by kernel_rfl
theorem QDk : (Try.f149.name == numgo) = false := by kernel_rfl
theorem QDl : (Try.f151.name == numgo) = false := by kernel_rfl
theorem QDm : (Try.f152.name == numgo) = false := by kernel_rfl
theorem Qra : (Try.f163.name == numgo) = false := by kernel_rfl
theorem Qrb : (Try.f164.name == numgo) = false := by kernel_rfl
theorem QDp : (Try.f165.name == numgo) = false := by kernel_rfl
theorem QDq : (Try.f166.name == numgo) = false := by kernel_rfl
theorem QDr : (Try.f167.name == numgo) = false := by kernel_rfl
theorem Qrc : (Try.f168.name == numgo) = false := by kernel_rfl
theorem XK : Try.prog.follows .mixedOrders = true := by kernel_rfl
end Go.Gw
