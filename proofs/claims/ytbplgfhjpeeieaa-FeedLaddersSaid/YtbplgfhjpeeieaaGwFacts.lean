/- Facts of the types of the program. No condition. -/
import Derived.Test.YtbplgfhjpeeieaaGwSt
import Derived.Test.YtbplgfhjpeeieaaGwPlan
import Derived.Laws.StructEq
import Derived.Test.YtbplgfhjpeeieaaProg
set_option linter.unusedVariables false
set_option linter.unusedSimpArgs false
set_option linter.unusedSectionVars false
set_option maxRecDepth 100000
namespace Go.Gw
open Go Go.Proofs
theorem QF : Xe Try.prog 3 1 := XK (by kernel_rfl)
theorem sz5 : Xe Try.prog 5 1 := XK (by kernel_rfl)
theorem Zz : Xe Try.prog 9 1 := XK (by kernel_rfl)
theorem Jj : Xe Try.prog 22 1 := XK (by kernel_rfl)
theorem Jk : Xe Try.prog 23 1 := XK (by kernel_rfl)
theorem Zi : Xe Try.prog 24 1 := XK (by kernel_rfl)
theorem YH : Xe Try.prog 26 3 := XK (by kernel_rfl)
theorem QHe : Xe Try.prog 30 1 := XK (by kernel_rfl)
theorem Xo : Xe Try.prog 52 1 := XK (by kernel_rfl)
theorem Qer : Xe Try.prog 62 2 := XK (by kernel_rfl)
theorem Zh : Xe Try.prog 107 2 := XK (by kernel_rfl)
theorem Qay : Xe Try.prog 125 1 := XK (by kernel_rfl)
theorem YX : Xe Try.prog 127 4 := XK (by kernel_rfl)
theorem Qaz : Xe Try.prog 145 3 := XK (by kernel_rfl)
theorem X0 : Xe Try.prog 158 5 := XK (by kernel_rfl)
theorem Ji : Xe Try.prog 185 2 := XK (by kernel_rfl)
theorem QK : Ym Try.prog 3 := ⟨_, Try.underlying3, trivial⟩
theorem sc5 : Ym Try.prog 5 := ⟨_, Try.underlying5, trivial⟩
theorem Zg : Ym Try.prog 9 := ⟨_, Try.underlying9, trivial⟩
theorem Jg : Ym Try.prog 22 := ⟨_, Try.underlying22, trivial⟩
theorem Jh : Ym Try.prog 23 := ⟨_, Try.underlying23, trivial⟩
theorem Zf : Ym Try.prog 24 := ⟨_, Try.underlying24, trivial⟩
theorem QFl : Ym Try.prog 30 := ⟨_, Try.underlying30, trivial⟩
theorem Xr : Ym Try.prog 52 := ⟨_, Try.underlying52, trivial⟩
theorem Qar : Ym Try.prog 125 := ⟨_, Try.underlying125, trivial⟩
theorem ZQ : Aggr Try.prog 26 3 := Yn (by trivial) Try.underlying26 (by kernel_rfl)
theorem Qfp : Aggr Try.prog 62 2 := Yn (by trivial) Try.underlying62 (by kernel_rfl)
theorem Zm : Aggr Try.prog 107 2 := Yn (by trivial) Try.underlying107 (by kernel_rfl)
theorem ZG : Aggr Try.prog 127 4 := Yn (by trivial) Try.underlying127 (by kernel_rfl)
theorem XX : Aggr Try.prog 158 5 := Yn (by trivial) Try.underlying158 (by kernel_rfl)
theorem Qbl : Aggr Try.prog 185 2 := Yn (by trivial) Try.underlying185 (by kernel_rfl)
theorem XV : EInfo Try.prog 3 1 8 (.int .i64 0) := Zq (by kernel_rfl) rfl (by decide)
theorem Yz : EInfo Try.prog 30 1 8 (.int .i64 0) := Zq (by kernel_rfl) rfl (by decide)
theorem J8 : EInfo Try.prog 62 2 24 (.agg (List.toArray [(.string ByteArray.empty), (.int .i64 0)])) := Zq (by kernel_rfl) rfl (by decide)
theorem Qxf : EInfo Try.prog 73 4 32 (.agg (List.toArray [(.int .i64 0), (.int .i64 0), (.int .i64 0), (.int .i64 0)])) := Zq (by kernel_rfl) rfl (by decide)
theorem Z8 : EInfo Try.prog 107 2 16 (.agg (List.toArray [(.int .i64 0), (.int .i64 0)])) := Zq (by kernel_rfl) rfl (by decide)
theorem Qxd : EInfo Try.prog 127 4 56 (.agg (List.toArray [(.string ByteArray.empty), (.int .i64 0), (.int .i64 0), (.slice none 0 0)])) := Zq (by kernel_rfl) rfl (by decide)
theorem Qxe : EInfo Try.prog 145 3 32 (.agg (List.toArray [(.string ByteArray.empty), (.int .i64 0), (.bool false)])) := Zq (by kernel_rfl) rfl (by decide)
theorem Qlu : EInfo Try.prog 185 2 16 (.agg (List.toArray [(.int .i64 0), (.int .i64 0)])) := Zq (by kernel_rfl) rfl (by decide)
theorem Qvz : BI Try.prog 26 [(0, 1), (1, 1), (2, 1)] [(.slice none 0 0), (.slice none 0 0), (.slice none 0 0)] := Yo Try.underlying26 (by kernel_rfl) (by kernel_rfl)
theorem Qkv : BI Try.prog 73 [(0, 1), (1, 1), (2, 1), (3, 1)] [(.int .i64 0), (.int .i64 0), (.int .i64 0), (.int .i64 0)] := Yo Try.underlying73 (by kernel_rfl) (by kernel_rfl)
theorem Qbx : BI Try.prog 107 [(0, 1), (1, 1)] [(.int .i64 0), (.int .i64 0)] := Yo Try.underlying107 (by kernel_rfl) (by kernel_rfl)
theorem Qkt : BI Try.prog 127 [(0, 1), (1, 1), (2, 1), (3, 1)] [(.string ByteArray.empty), (.int .i64 0), (.int .i64 0), (.slice none 0 0)] := Yo Try.underlying127 (by kernel_rfl) (by kernel_rfl)
theorem Qku : BI Try.prog 145 [(0, 1), (1, 1), (2, 1)] [(.string ByteArray.empty), (.int .i64 0), (.bool false)] := Yo Try.underlying145 (by kernel_rfl) (by kernel_rfl)
theorem Qby : BI Try.prog 185 [(0, 1), (1, 1)] [(.int .i64 0), (.int .i64 0)] := Yo Try.underlying185 (by kernel_rfl) (by kernel_rfl)
theorem QJg : ZI Try.prog 26 [(.slice none 0 0), (.slice none 0 0), (.slice none 0 0)] := Yg (by kernel_rfl)
theorem Qjx : ZI Try.prog 107 [(.int .i64 0), (.int .i64 0)] := Yg (by kernel_rfl)
theorem Qfg : ZI Try.prog 185 [(.int .i64 0), (.int .i64 0)] := Yg (by kernel_rfl)
theorem Qds : (Try.f46.name == "runtime.NumGoroutine") = false := by kernel_rfl
theorem YD : (Try.f92.name == "runtime.NumGoroutine") = false := by kernel_rfl
theorem Xw : (Try.f93.name == "runtime.NumGoroutine") = false := by kernel_rfl
theorem Zu : (Try.f95.name == "runtime.NumGoroutine") = false := by kernel_rfl
theorem Qii : (Try.f126.name == "runtime.NumGoroutine") = false := by kernel_rfl
theorem QCu : (Try.f138.name == "runtime.NumGoroutine") = false := by kernel_rfl
theorem QCv : (Try.f139.name == "runtime.NumGoroutine") = false := by kernel_rfl
theorem Qdr : (Try.f141.name == "runtime.NumGoroutine") = false := by kernel_rfl
theorem QCw : (Try.f143.name == "runtime.NumGoroutine") = false := by kernel_rfl
theorem QCx : (Try.f144.name == "runtime.NumGoroutine") = false := by kernel_rfl
theorem QDa : (Try.f149.name == "runtime.NumGoroutine") = false := by kernel_rfl
theorem QDb : (Try.f151.name == "runtime.NumGoroutine") = false := by kernel_rfl
theorem QDc : (Try.f152.name == "runtime.NumGoroutine") = false := by kernel_rfl
theorem Qqx : (Try.f163.name == "runtime.NumGoroutine") = false := by kernel_rfl
theorem Qqy : (Try.f164.name == "runtime.NumGoroutine") = false := by kernel_rfl
theorem QDf : (Try.f165.name == "runtime.NumGoroutine") = false := by kernel_rfl
theorem QDg : (Try.f166.name == "runtime.NumGoroutine") = false := by kernel_rfl
theorem QDh : (Try.f167.name == "runtime.NumGoroutine") = false := by kernel_rfl
theorem Qqz : (Try.f168.name == "runtime.NumGoroutine") = false := by kernel_rfl
theorem Xt : Try.prog.follows .mixedOrders = true := by kernel_rfl
end Go.Gw
