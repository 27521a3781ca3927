/- Facts of the types of the program. No condition. -/
import Derived.Test.YtglaeocolbnpdaaGwSt
import Derived.Test.YtglaeocolbnpdaaGwPlan
import Derived.Laws.StructEq
import Derived.Laws.Externs
import Derived.Test.YtglaeocolbnpdaaProg
set_option maxRecDepth 100000
namespace Go.Gw
open Go Go.Proofs
theorem sz3 : Size Try.prog 3 1 := size_of (by kernel_rfl)
theorem sz22 : Size Try.prog 22 1 := size_of (by kernel_rfl)
theorem sz23 : Size Try.prog 23 1 := size_of (by kernel_rfl)
theorem sz25 : Size Try.prog 25 3 := size_of (by kernel_rfl)
theorem sz29 : Size Try.prog 29 2 := size_of (by kernel_rfl)
theorem sz30 : Size Try.prog 30 1 := size_of (by kernel_rfl)
theorem sz47 : Size Try.prog 47 1 := size_of (by kernel_rfl)
theorem sz48 : Size Try.prog 48 2 := size_of (by kernel_rfl)
theorem sz70 : Size Try.prog 70 2 := size_of (by kernel_rfl)
theorem sz89 : Size Try.prog 89 3 := size_of (by kernel_rfl)
theorem sz118 : Size Try.prog 118 1 := size_of (by kernel_rfl)
theorem sz120 : Size Try.prog 120 3 := size_of (by kernel_rfl)
theorem sz146 : Size Try.prog 146 1 := size_of (by kernel_rfl)
theorem sc3 : Scalar Try.prog 3 := ⟨_, Try.underlying3, trivial⟩
theorem sc22 : Scalar Try.prog 22 := ⟨_, Try.underlying22, trivial⟩
theorem sc23 : Scalar Try.prog 23 := ⟨_, Try.underlying23, trivial⟩
theorem sc30 : Scalar Try.prog 30 := ⟨_, Try.underlying30, trivial⟩
theorem sc47 : Scalar Try.prog 47 := ⟨_, Try.underlying47, trivial⟩
theorem sc61 : Scalar Try.prog 61 := ⟨_, Try.underlying61, trivial⟩
theorem sc118 : Scalar Try.prog 118 := ⟨_, Try.underlying118, trivial⟩
theorem sc124 : Scalar Try.prog 124 := ⟨_, Try.underlying124, trivial⟩
theorem sc146 : Scalar Try.prog 146 := ⟨_, Try.underlying146, trivial⟩
theorem ag25 : Aggr Try.prog 25 3 := aggr_of (by trivial) Try.underlying25 (by kernel_rfl)
theorem ag29 : Aggr Try.prog 29 2 := aggr_of (by trivial) Try.underlying29 (by kernel_rfl)
theorem ag48 : Aggr Try.prog 48 2 := aggr_of (by trivial) Try.underlying48 (by kernel_rfl)
theorem ag70 : Aggr Try.prog 70 2 := aggr_of (by trivial) Try.underlying70 (by kernel_rfl)
theorem ag89 : Aggr Try.prog 89 3 := aggr_of (by trivial) Try.underlying89 (by kernel_rfl)
theorem ag120 : Aggr Try.prog 120 3 := aggr_of (by trivial) Try.underlying120 (by kernel_rfl)
theorem ei3 : EInfo Try.prog 3 1 8 (.int .i64 0) := einfo_of (by kernel_rfl) rfl (by decide)
theorem ei23 : EInfo Try.prog 23 1 24 (.slice none 0 0) := einfo_of (by kernel_rfl) rfl (by decide)
theorem ei30 : EInfo Try.prog 30 1 8 (.int .i64 0) := einfo_of (by kernel_rfl) rfl (by decide)
theorem ei47 : EInfo Try.prog 47 1 24 (.slice none 0 0) := einfo_of (by kernel_rfl) rfl (by decide)
theorem ei70 : EInfo Try.prog 70 2 32 (.agg (List.toArray [(.int .i64 0), (.slice none 0 0)])) := einfo_of (by kernel_rfl) rfl (by decide)
theorem ei120 : EInfo Try.prog 120 3 24 (.agg (List.toArray [(.int .u64 0), (.int .u64 0), (.int .u64 0)])) := einfo_of (by kernel_rfl) rfl (by decide)
theorem ei146 : EInfo Try.prog 146 1 24 (.slice none 0 0) := einfo_of (by kernel_rfl) rfl (by decide)
theorem bi25 : BI Try.prog 25 [(0, 1), (1, 1), (2, 1)] [(.int .i64 0), (.slice none 0 0), (.slice none 0 0)] := bi_of Try.underlying25 (by kernel_rfl) (by kernel_rfl)
theorem bi29 : BI Try.prog 29 [(0, 1), (1, 1)] [(.int .i64 0), (.int .i64 0)] := bi_of Try.underlying29 (by kernel_rfl) (by kernel_rfl)
theorem bi50 : BI Try.prog 50 [(0, 1), (1, 2), (3, 1)] [(.slice none 0 0), (.int .i64 0), (.int .i64 0), (.int .i64 0)] := bi_of Try.underlying50 (by kernel_rfl) (by kernel_rfl)
theorem bi70 : BI Try.prog 70 [(0, 1), (1, 1)] [(.int .i64 0), (.slice none 0 0)] := bi_of Try.underlying70 (by kernel_rfl) (by kernel_rfl)
theorem bi89 : BI Try.prog 89 [(0, 3)] [(.int .i64 0), (.slice none 0 0), (.slice none 0 0)] := bi_of Try.underlying89 (by kernel_rfl) (by kernel_rfl)
theorem zi3 : ZI Try.prog 3 [(.int .i64 0)] := zi_of (by kernel_rfl)
theorem zi25 : ZI Try.prog 25 [(.int .i64 0), (.slice none 0 0), (.slice none 0 0)] := zi_of (by kernel_rfl)
theorem zi29 : ZI Try.prog 29 [(.int .i64 0), (.int .i64 0)] := zi_of (by kernel_rfl)
theorem zi30 : ZI Try.prog 30 [(.int .i64 0)] := zi_of (by kernel_rfl)
theorem zi47 : ZI Try.prog 47 [(.slice none 0 0)] := zi_of (by kernel_rfl)
theorem zi48 : ZI Try.prog 48 [(.int .i64 0), (.int .i64 0)] := zi_of (by kernel_rfl)
theorem zi70 : ZI Try.prog 70 [(.int .i64 0), (.slice none 0 0)] := zi_of (by kernel_rfl)
theorem zi89 : ZI Try.prog 89 [(.int .i64 0), (.slice none 0 0), (.slice none 0 0)] := zi_of (by kernel_rfl)
theorem zi120 : ZI Try.prog 120 [(.int .u64 0), (.int .u64 0), (.int .u64 0)] := zi_of (by kernel_rfl)
theorem nm8 : (Try.f8.name == "runtime.NumGoroutine") = false := by kernel_rfl
theorem nm9 : (Try.f9.name == "runtime.NumGoroutine") = false := by kernel_rfl
theorem nm10 : (Try.f10.name == "runtime.NumGoroutine") = false := by kernel_rfl
theorem nm11 : (Try.f11.name == "runtime.NumGoroutine") = false := by kernel_rfl
theorem nm15 : (Try.f15.name == "runtime.NumGoroutine") = false := by kernel_rfl
theorem nm16 : (Try.f16.name == "runtime.NumGoroutine") = false := by kernel_rfl
theorem nm17 : (Try.f17.name == "runtime.NumGoroutine") = false := by kernel_rfl
theorem nm18 : (Try.f18.name == "runtime.NumGoroutine") = false := by kernel_rfl
theorem nm22 : (Try.f22.name == "runtime.NumGoroutine") = false := by kernel_rfl
theorem nm23 : (Try.f23.name == "runtime.NumGoroutine") = false := by kernel_rfl
theorem nm24 : (Try.f24.name == "runtime.NumGoroutine") = false := by kernel_rfl
theorem nm25 : (Try.f25.name == "runtime.NumGoroutine") = false := by kernel_rfl
theorem nm26 : (Try.f26.name == "runtime.NumGoroutine") = false := by kernel_rfl
theorem nm32 : (Try.f32.name == "runtime.NumGoroutine") = false := by kernel_rfl
theorem nm33 : (Try.f33.name == "runtime.NumGoroutine") = false := by kernel_rfl
theorem nm34 : (Try.f34.name == "runtime.NumGoroutine") = false := by kernel_rfl
theorem nm36 : (Try.f36.name == "runtime.NumGoroutine") = false := by kernel_rfl
theorem nm37 : (Try.f37.name == "runtime.NumGoroutine") = false := by kernel_rfl
theorem nm38 : (Try.f38.name == "runtime.NumGoroutine") = false := by kernel_rfl
theorem nm39 : (Try.f39.name == "runtime.NumGoroutine") = false := by kernel_rfl
theorem nm40 : (Try.f40.name == "runtime.NumGoroutine") = false := by kernel_rfl
theorem nm41 : (Try.f41.name == "runtime.NumGoroutine") = false := by kernel_rfl
theorem nm42 : (Try.f42.name == "runtime.NumGoroutine") = false := by kernel_rfl
theorem nm46 : (Try.f46.name == "runtime.NumGoroutine") = false := by kernel_rfl
theorem nm48 : (Try.f48.name == "runtime.NumGoroutine") = false := by kernel_rfl
theorem nm49 : (Try.f49.name == "runtime.NumGoroutine") = false := by kernel_rfl
theorem nm50 : (Try.f50.name == "runtime.NumGoroutine") = false := by kernel_rfl
theorem nm51 : (Try.f51.name == "runtime.NumGoroutine") = false := by kernel_rfl
theorem nm52 : (Try.f52.name == "runtime.NumGoroutine") = false := by kernel_rfl
theorem nm53 : (Try.f53.name == "runtime.NumGoroutine") = false := by kernel_rfl
theorem nm54 : (Try.f54.name == "runtime.NumGoroutine") = false := by kernel_rfl
theorem nm55 : (Try.f55.name == "runtime.NumGoroutine") = false := by kernel_rfl
theorem nm56 : (Try.f56.name == "runtime.NumGoroutine") = false := by kernel_rfl
theorem nm57 : (Try.f57.name == "runtime.NumGoroutine") = false := by kernel_rfl
theorem nm58 : (Try.f58.name == "runtime.NumGoroutine") = false := by kernel_rfl
theorem nm59 : (Try.f59.name == "runtime.NumGoroutine") = false := by kernel_rfl
theorem nm60 : (Try.f60.name == "runtime.NumGoroutine") = false := by kernel_rfl
theorem nm61 : (Try.f61.name == "runtime.NumGoroutine") = false := by kernel_rfl
theorem nm66 : (Try.f66.name == "runtime.NumGoroutine") = false := by kernel_rfl
theorem nm67 : (Try.f67.name == "runtime.NumGoroutine") = false := by kernel_rfl
theorem nm68 : (Try.f68.name == "runtime.NumGoroutine") = false := by kernel_rfl
theorem nm69 : (Try.f69.name == "runtime.NumGoroutine") = false := by kernel_rfl
theorem nm70 : (Try.f70.name == "runtime.NumGoroutine") = false := by kernel_rfl
theorem nm71 : (Try.f71.name == "runtime.NumGoroutine") = false := by kernel_rfl
theorem nm74 : (Try.f74.name == "runtime.NumGoroutine") = false := by kernel_rfl
theorem nm75 : (Try.f75.name == "runtime.NumGoroutine") = false := by kernel_rfl
theorem nm76 : (Try.f76.name == "runtime.NumGoroutine") = false := by kernel_rfl
theorem nm77 : (Try.f77.name == "runtime.NumGoroutine") = false := by kernel_rfl
theorem nm78 : (Try.f78.name == "runtime.NumGoroutine") = false := by kernel_rfl
theorem nm79 : (Try.f79.name == "runtime.NumGoroutine") = false := by kernel_rfl
theorem nm80 : (Try.f80.name == "runtime.NumGoroutine") = false := by kernel_rfl
theorem nm81 : (Try.f81.name == "runtime.NumGoroutine") = false := by kernel_rfl
theorem nm82 : (Try.f82.name == "runtime.NumGoroutine") = false := by kernel_rfl
theorem nm83 : (Try.f83.name == "runtime.NumGoroutine") = false := by kernel_rfl
theorem nm84 : (Try.f84.name == "runtime.NumGoroutine") = false := by kernel_rfl
theorem nm85 : (Try.f85.name == "runtime.NumGoroutine") = false := by kernel_rfl
theorem nm86 : (Try.f86.name == "runtime.NumGoroutine") = false := by kernel_rfl
theorem nm87 : (Try.f87.name == "runtime.NumGoroutine") = false := by kernel_rfl
theorem nm88 : (Try.f88.name == "runtime.NumGoroutine") = false := by kernel_rfl
theorem nm89 : (Try.f89.name == "runtime.NumGoroutine") = false := by kernel_rfl
theorem nm90 : (Try.f90.name == "runtime.NumGoroutine") = false := by kernel_rfl
theorem nm102 : (Try.f102.name == "runtime.NumGoroutine") = false := by kernel_rfl
theorem nm103 : (Try.f103.name == "runtime.NumGoroutine") = false := by kernel_rfl
theorem nm104 : (Try.f104.name == "runtime.NumGoroutine") = false := by kernel_rfl
theorem nm105 : (Try.f105.name == "runtime.NumGoroutine") = false := by kernel_rfl
theorem nm106 : (Try.f106.name == "runtime.NumGoroutine") = false := by kernel_rfl
theorem nm107 : (Try.f107.name == "runtime.NumGoroutine") = false := by kernel_rfl
theorem nm108 : (Try.f108.name == "runtime.NumGoroutine") = false := by kernel_rfl
theorem nm109 : (Try.f109.name == "runtime.NumGoroutine") = false := by kernel_rfl
theorem nm110 : (Try.f110.name == "runtime.NumGoroutine") = false := by kernel_rfl
theorem nm111 : (Try.f111.name == "runtime.NumGoroutine") = false := by kernel_rfl
theorem nm112 : (Try.f112.name == "runtime.NumGoroutine") = false := by kernel_rfl
theorem nm113 : (Try.f113.name == "runtime.NumGoroutine") = false := by kernel_rfl
theorem nm120 : (Try.f120.name == "runtime.NumGoroutine") = false := by kernel_rfl
theorem nm121 : (Try.f121.name == "runtime.NumGoroutine") = false := by kernel_rfl
theorem nm122 : (Try.f122.name == "runtime.NumGoroutine") = false := by kernel_rfl
theorem nm124 : (Try.f124.name == "runtime.NumGoroutine") = false := by kernel_rfl
theorem nm126 : (Try.f126.name == "runtime.NumGoroutine") = false := by kernel_rfl
theorem eg120 : Try.prog.eqGuardType Try.prog.depth 120 = false := by kernel_rfl
theorem eqs120 (a b : Arr3_U64) (w : World) : (Op.equalIn (9999 + 1) 120 (.agg (List.toArray [(.int .u64 a.e0), (.int .u64 a.e1), (.int .u64 a.e2)])) (.agg (List.toArray [(.int .u64 b.e0), (.int .u64 b.e1), (.int .u64 b.e2)]))).run Try.prog w = .ok (decide (a = b)) w := by
  have u118 := Try.underlying118
  have a118 := Try.isAgg118
  have z118 := Try.sizeOf118
  rw [Op.equalIn]
  simp only [Sem.run_bind, run_underlying Try.underlying120, Result.andThen_ok]
  simp only [Std.Legacy.Range.forIn_eq_forIn_range', Std.Legacy.Range.size, Nat.sub_zero, Nat.add_sub_cancel, Nat.div_one, List.range'_succ, List.range'_zero, List.forIn_cons, List.forIn_nil]
  go_simp
  cases a; cases b; simp only [Arr3_U64.mk.injEq]
  repeat' split
  all_goals simp_all
theorem fb109 : Try.f109.body.isNone = true := by kernel_rfl
theorem fn109 : Extern.findNext Try.f109 = none := by kernel_rfl
theorem fe109 : Extern.find Try.f109 = some add64Entry := by kernel_rfl
theorem mixed : Try.prog.follows .mixedOrders = true := by kernel_rfl
end Go.Gw
