/- More facts of the types of the program. No condition. -/
import Derived.Test.YtglaeocolbnpdaaGwFacts
set_option maxRecDepth 100000
namespace Go.Gw
open Go Go.Proofs
theorem sz48 : Size Try.prog 48 2 := size_of (by kernel_rfl)
theorem ag48 : Aggr Try.prog 48 2 := aggr_of (by trivial) Try.underlying48 (by kernel_rfl)
theorem bi50 : BI Try.prog 50 [(0, 1), (1, 2), (3, 1)] [(.slice none 0 0), (.int .i64 0), (.int .i64 0), (.int .i64 0)] := bi_of Try.underlying50 (by kernel_rfl) (by kernel_rfl)
theorem zi3 : ZI Try.prog 3 [(.int .i64 0)] := zi_of (by kernel_rfl)
theorem zi47 : ZI Try.prog 47 [(.slice none 0 0)] := zi_of (by kernel_rfl)
theorem zi48 : ZI Try.prog 48 [(.int .i64 0), (.int .i64 0)] := zi_of (by kernel_rfl)
theorem nm8 : (Try.f8.name == "runtime.NumGoroutine") = false := by kernel_rfl
theorem nm10 : (Try.f10.name == "runtime.NumGoroutine") = false := by kernel_rfl
theorem nm15 : (Try.f15.name == "runtime.NumGoroutine") = false := by kernel_rfl
theorem nm16 : (Try.f16.name == "runtime.NumGoroutine") = false := by kernel_rfl
theorem nm17 : (Try.f17.name == "runtime.NumGoroutine") = false := by kernel_rfl
theorem nm18 : (Try.f18.name == "runtime.NumGoroutine") = false := by kernel_rfl
theorem nm19 : (Try.f19.name == "runtime.NumGoroutine") = false := by kernel_rfl
theorem nm21 : (Try.f21.name == "runtime.NumGoroutine") = false := by kernel_rfl
theorem nm22 : (Try.f22.name == "runtime.NumGoroutine") = false := by kernel_rfl
theorem nm24 : (Try.f24.name == "runtime.NumGoroutine") = false := by kernel_rfl
theorem nm25 : (Try.f25.name == "runtime.NumGoroutine") = false := by kernel_rfl
theorem nm32 : (Try.f32.name == "runtime.NumGoroutine") = false := by kernel_rfl
theorem nm33 : (Try.f33.name == "runtime.NumGoroutine") = false := by kernel_rfl
theorem nm34 : (Try.f34.name == "runtime.NumGoroutine") = false := by kernel_rfl
theorem nm49 : (Try.f49.name == "runtime.NumGoroutine") = false := by kernel_rfl
theorem nm52 : (Try.f52.name == "runtime.NumGoroutine") = false := by kernel_rfl
theorem nm53 : (Try.f53.name == "runtime.NumGoroutine") = false := by kernel_rfl
theorem nm54 : (Try.f54.name == "runtime.NumGoroutine") = false := by kernel_rfl
theorem nm55 : (Try.f55.name == "runtime.NumGoroutine") = false := by kernel_rfl
theorem nm60 : (Try.f60.name == "runtime.NumGoroutine") = false := by kernel_rfl
theorem nm61 : (Try.f61.name == "runtime.NumGoroutine") = false := by kernel_rfl
theorem nm76 : (Try.f76.name == "runtime.NumGoroutine") = false := by kernel_rfl
theorem nm77 : (Try.f77.name == "runtime.NumGoroutine") = false := by kernel_rfl
theorem nm78 : (Try.f78.name == "runtime.NumGoroutine") = false := by kernel_rfl
theorem nm87 : (Try.f87.name == "runtime.NumGoroutine") = false := by kernel_rfl
theorem nm88 : (Try.f88.name == "runtime.NumGoroutine") = false := by kernel_rfl
theorem nm105 : (Try.f105.name == "runtime.NumGoroutine") = false := by kernel_rfl
theorem nm107 : (Try.f107.name == "runtime.NumGoroutine") = false := by kernel_rfl
theorem nm122 : (Try.f122.name == "runtime.NumGoroutine") = false := by kernel_rfl
end Go.Gw
