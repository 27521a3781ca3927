/- Facts of the types of the program. No condition. -/
import Derived.Test.YtglaeocolbnpdaaGreatGwSt
import Derived.Test.YtglaeocolbnpdaaGreatGwPlan
import Derived.Laws.StructEq
import Derived.Laws.Externs
import Derived.Test.YtglaeocolbnpdaaGreatProg
set_option maxRecDepth 100000
namespace Go.Gw
open Go Go.Proofs
theorem sz3 : Size Tryz.prog 3 1 := size_of (by kernel_rfl)
theorem sz22 : Size Tryz.prog 22 1 := size_of (by kernel_rfl)
theorem sz23 : Size Tryz.prog 23 1 := size_of (by kernel_rfl)
theorem sz25 : Size Tryz.prog 25 3 := size_of (by kernel_rfl)
theorem sz27 : Size Tryz.prog 27 2 := size_of (by kernel_rfl)
theorem sz30 : Size Tryz.prog 30 1 := size_of (by kernel_rfl)
theorem sz42 : Size Tryz.prog 42 1 := size_of (by kernel_rfl)
theorem sz57 : Size Tryz.prog 57 2 := size_of (by kernel_rfl)
theorem sz66 : Size Tryz.prog 66 2 := size_of (by kernel_rfl)
theorem sz126 : Size Tryz.prog 126 1 := size_of (by kernel_rfl)
theorem sz127 : Size Tryz.prog 127 3 := size_of (by kernel_rfl)
theorem sz134 : Size Tryz.prog 134 3 := size_of (by kernel_rfl)
theorem sz174 : Size Tryz.prog 174 1 := size_of (by kernel_rfl)
theorem sz176 : Size Tryz.prog 176 3 := size_of (by kernel_rfl)
theorem sz203 : Size Tryz.prog 203 1 := size_of (by kernel_rfl)
theorem sc3 : Scalar Tryz.prog 3 := ⟨_, Tryz.underlying3, trivial⟩
theorem sc22 : Scalar Tryz.prog 22 := ⟨_, Tryz.underlying22, trivial⟩
theorem sc23 : Scalar Tryz.prog 23 := ⟨_, Tryz.underlying23, trivial⟩
theorem sc30 : Scalar Tryz.prog 30 := ⟨_, Tryz.underlying30, trivial⟩
theorem sc42 : Scalar Tryz.prog 42 := ⟨_, Tryz.underlying42, trivial⟩
theorem sc76 : Scalar Tryz.prog 76 := ⟨_, Tryz.underlying76, trivial⟩
theorem sc126 : Scalar Tryz.prog 126 := ⟨_, Tryz.underlying126, trivial⟩
theorem sc174 : Scalar Tryz.prog 174 := ⟨_, Tryz.underlying174, trivial⟩
theorem sc187 : Scalar Tryz.prog 187 := ⟨_, Tryz.underlying187, trivial⟩
theorem sc203 : Scalar Tryz.prog 203 := ⟨_, Tryz.underlying203, trivial⟩
theorem ag25 : Aggr Tryz.prog 25 3 := aggr_of (by trivial) Tryz.underlying25 (by kernel_rfl)
theorem ag27 : Aggr Tryz.prog 27 2 := aggr_of (by trivial) Tryz.underlying27 (by kernel_rfl)
theorem ag43 : Aggr Tryz.prog 43 2 := aggr_of (by trivial) Tryz.underlying43 (by kernel_rfl)
theorem ag57 : Aggr Tryz.prog 57 2 := aggr_of (by trivial) Tryz.underlying57 (by kernel_rfl)
theorem ag66 : Aggr Tryz.prog 66 2 := aggr_of (by trivial) Tryz.underlying66 (by kernel_rfl)
theorem ag127 : Aggr Tryz.prog 127 3 := aggr_of (by trivial) Tryz.underlying127 (by kernel_rfl)
theorem ag134 : Aggr Tryz.prog 134 3 := aggr_of (by trivial) Tryz.underlying134 (by kernel_rfl)
theorem ag176 : Aggr Tryz.prog 176 3 := aggr_of (by trivial) Tryz.underlying176 (by kernel_rfl)
theorem ei3 : EInfo Tryz.prog 3 1 8 (.int .i64 0) := einfo_of (by kernel_rfl) rfl (by decide)
theorem ei23 : EInfo Tryz.prog 23 1 24 (.slice none 0 0) := einfo_of (by kernel_rfl) rfl (by decide)
theorem ei27 : EInfo Tryz.prog 27 2 32 (.agg (List.toArray [(.int .i64 0), (.slice none 0 0)])) := einfo_of (by kernel_rfl) rfl (by decide)
theorem ei30 : EInfo Tryz.prog 30 1 8 (.int .i64 0) := einfo_of (by kernel_rfl) rfl (by decide)
theorem ei42 : EInfo Tryz.prog 42 1 24 (.slice none 0 0) := einfo_of (by kernel_rfl) rfl (by decide)
theorem ei176 : EInfo Tryz.prog 176 3 24 (.agg (List.toArray [(.int .u64 0), (.int .u64 0), (.int .u64 0)])) := einfo_of (by kernel_rfl) rfl (by decide)
theorem ei203 : EInfo Tryz.prog 203 1 24 (.slice none 0 0) := einfo_of (by kernel_rfl) rfl (by decide)
theorem bi25 : BI Tryz.prog 25 [(0, 1), (1, 1), (2, 1)] [(.int .i64 0), (.slice none 0 0), (.slice none 0 0)] := bi_of Tryz.underlying25 (by kernel_rfl) (by kernel_rfl)
theorem bi27 : BI Tryz.prog 27 [(0, 1), (1, 1)] [(.int .i64 0), (.slice none 0 0)] := bi_of Tryz.underlying27 (by kernel_rfl) (by kernel_rfl)
theorem bi57 : BI Tryz.prog 57 [(0, 1), (1, 1)] [(.int .i64 0), (.int .i64 0)] := bi_of Tryz.underlying57 (by kernel_rfl) (by kernel_rfl)
theorem bi66 : BI Tryz.prog 66 [(0, 1), (1, 1)] [(.int .i64 0), (.int .i64 0)] := bi_of Tryz.underlying66 (by kernel_rfl) (by kernel_rfl)
theorem bi129 : BI Tryz.prog 129 [(0, 3), (3, 1)] [(.float .f32 0), (.float .f32 0), (.float .f32 0), (.int .i64 0)] := bi_of Tryz.underlying129 (by kernel_rfl) (by kernel_rfl)
theorem bi134 : BI Tryz.prog 134 [(0, 3)] [(.int .i64 0), (.slice none 0 0), (.slice none 0 0)] := bi_of Tryz.underlying134 (by kernel_rfl) (by kernel_rfl)
theorem zi3 : ZI Tryz.prog 3 [(.int .i64 0)] := zi_of (by kernel_rfl)
theorem zi25 : ZI Tryz.prog 25 [(.int .i64 0), (.slice none 0 0), (.slice none 0 0)] := zi_of (by kernel_rfl)
theorem zi27 : ZI Tryz.prog 27 [(.int .i64 0), (.slice none 0 0)] := zi_of (by kernel_rfl)
theorem zi30 : ZI Tryz.prog 30 [(.int .i64 0)] := zi_of (by kernel_rfl)
theorem zi42 : ZI Tryz.prog 42 [(.slice none 0 0)] := zi_of (by kernel_rfl)
theorem zi43 : ZI Tryz.prog 43 [(.int .i64 0), (.int .i64 0)] := zi_of (by kernel_rfl)
theorem zi57 : ZI Tryz.prog 57 [(.int .i64 0), (.int .i64 0)] := zi_of (by kernel_rfl)
theorem zi66 : ZI Tryz.prog 66 [(.int .i64 0), (.int .i64 0)] := zi_of (by kernel_rfl)
theorem zi127 : ZI Tryz.prog 127 [(.float .f32 0), (.float .f32 0), (.float .f32 0)] := zi_of (by kernel_rfl)
theorem zi134 : ZI Tryz.prog 134 [(.int .i64 0), (.slice none 0 0), (.slice none 0 0)] := zi_of (by kernel_rfl)
theorem zi176 : ZI Tryz.prog 176 [(.int .u64 0), (.int .u64 0), (.int .u64 0)] := zi_of (by kernel_rfl)
theorem nm14 : (Tryz.f14.name == "runtime.NumGoroutine") = false := by kernel_rfl
theorem nm15 : (Tryz.f15.name == "runtime.NumGoroutine") = false := by kernel_rfl
theorem nm16 : (Tryz.f16.name == "runtime.NumGoroutine") = false := by kernel_rfl
theorem nm17 : (Tryz.f17.name == "runtime.NumGoroutine") = false := by kernel_rfl
theorem nm18 : (Tryz.f18.name == "runtime.NumGoroutine") = false := by kernel_rfl
theorem nm19 : (Tryz.f19.name == "runtime.NumGoroutine") = false := by kernel_rfl
theorem nm20 : (Tryz.f20.name == "runtime.NumGoroutine") = false := by kernel_rfl
theorem nm21 : (Tryz.f21.name == "runtime.NumGoroutine") = false := by kernel_rfl
theorem nm22 : (Tryz.f22.name == "runtime.NumGoroutine") = false := by kernel_rfl
theorem nm23 : (Tryz.f23.name == "runtime.NumGoroutine") = false := by kernel_rfl
theorem nm24 : (Tryz.f24.name == "runtime.NumGoroutine") = false := by kernel_rfl
theorem nm27 : (Tryz.f27.name == "runtime.NumGoroutine") = false := by kernel_rfl
theorem nm28 : (Tryz.f28.name == "runtime.NumGoroutine") = false := by kernel_rfl
theorem nm34 : (Tryz.f34.name == "runtime.NumGoroutine") = false := by kernel_rfl
theorem nm40 : (Tryz.f40.name == "runtime.NumGoroutine") = false := by kernel_rfl
theorem nm46 : (Tryz.f46.name == "runtime.NumGoroutine") = false := by kernel_rfl
theorem nm47 : (Tryz.f47.name == "runtime.NumGoroutine") = false := by kernel_rfl
theorem nm48 : (Tryz.f48.name == "runtime.NumGoroutine") = false := by kernel_rfl
theorem nm49 : (Tryz.f49.name == "runtime.NumGoroutine") = false := by kernel_rfl
theorem nm50 : (Tryz.f50.name == "runtime.NumGoroutine") = false := by kernel_rfl
theorem nm51 : (Tryz.f51.name == "runtime.NumGoroutine") = false := by kernel_rfl
theorem nm52 : (Tryz.f52.name == "runtime.NumGoroutine") = false := by kernel_rfl
theorem nm53 : (Tryz.f53.name == "runtime.NumGoroutine") = false := by kernel_rfl
theorem nm59 : (Tryz.f59.name == "runtime.NumGoroutine") = false := by kernel_rfl
theorem nm75 : (Tryz.f75.name == "runtime.NumGoroutine") = false := by kernel_rfl
theorem nm76 : (Tryz.f76.name == "runtime.NumGoroutine") = false := by kernel_rfl
theorem nm77 : (Tryz.f77.name == "runtime.NumGoroutine") = false := by kernel_rfl
theorem nm78 : (Tryz.f78.name == "runtime.NumGoroutine") = false := by kernel_rfl
theorem nm79 : (Tryz.f79.name == "runtime.NumGoroutine") = false := by kernel_rfl
theorem nm80 : (Tryz.f80.name == "runtime.NumGoroutine") = false := by kernel_rfl
theorem nm81 : (Tryz.f81.name == "runtime.NumGoroutine") = false := by kernel_rfl
theorem nm82 : (Tryz.f82.name == "runtime.NumGoroutine") = false := by kernel_rfl
theorem nm83 : (Tryz.f83.name == "runtime.NumGoroutine") = false := by kernel_rfl
theorem nm84 : (Tryz.f84.name == "runtime.NumGoroutine") = false := by kernel_rfl
theorem nm87 : (Tryz.f87.name == "runtime.NumGoroutine") = false := by kernel_rfl
theorem nm88 : (Tryz.f88.name == "runtime.NumGoroutine") = false := by kernel_rfl
theorem nm89 : (Tryz.f89.name == "runtime.NumGoroutine") = false := by kernel_rfl
theorem nm90 : (Tryz.f90.name == "runtime.NumGoroutine") = false := by kernel_rfl
theorem nm92 : (Tryz.f92.name == "runtime.NumGoroutine") = false := by kernel_rfl
theorem nm93 : (Tryz.f93.name == "runtime.NumGoroutine") = false := by kernel_rfl
theorem nm94 : (Tryz.f94.name == "runtime.NumGoroutine") = false := by kernel_rfl
theorem nm95 : (Tryz.f95.name == "runtime.NumGoroutine") = false := by kernel_rfl
theorem nm96 : (Tryz.f96.name == "runtime.NumGoroutine") = false := by kernel_rfl
theorem nm97 : (Tryz.f97.name == "runtime.NumGoroutine") = false := by kernel_rfl
theorem nm98 : (Tryz.f98.name == "runtime.NumGoroutine") = false := by kernel_rfl
theorem nm99 : (Tryz.f99.name == "runtime.NumGoroutine") = false := by kernel_rfl
theorem nm103 : (Tryz.f103.name == "runtime.NumGoroutine") = false := by kernel_rfl
theorem nm104 : (Tryz.f104.name == "runtime.NumGoroutine") = false := by kernel_rfl
theorem nm105 : (Tryz.f105.name == "runtime.NumGoroutine") = false := by kernel_rfl
theorem nm106 : (Tryz.f106.name == "runtime.NumGoroutine") = false := by kernel_rfl
theorem nm107 : (Tryz.f107.name == "runtime.NumGoroutine") = false := by kernel_rfl
theorem nm108 : (Tryz.f108.name == "runtime.NumGoroutine") = false := by kernel_rfl
theorem nm109 : (Tryz.f109.name == "runtime.NumGoroutine") = false := by kernel_rfl
theorem nm110 : (Tryz.f110.name == "runtime.NumGoroutine") = false := by kernel_rfl
theorem nm113 : (Tryz.f113.name == "runtime.NumGoroutine") = false := by kernel_rfl
theorem nm119 : (Tryz.f119.name == "runtime.NumGoroutine") = false := by kernel_rfl
theorem nm122 : (Tryz.f122.name == "runtime.NumGoroutine") = false := by kernel_rfl
theorem nm123 : (Tryz.f123.name == "runtime.NumGoroutine") = false := by kernel_rfl
theorem nm128 : (Tryz.f128.name == "runtime.NumGoroutine") = false := by kernel_rfl
theorem nm129 : (Tryz.f129.name == "runtime.NumGoroutine") = false := by kernel_rfl
theorem nm130 : (Tryz.f130.name == "runtime.NumGoroutine") = false := by kernel_rfl
theorem nm131 : (Tryz.f131.name == "runtime.NumGoroutine") = false := by kernel_rfl
theorem nm132 : (Tryz.f132.name == "runtime.NumGoroutine") = false := by kernel_rfl
theorem nm133 : (Tryz.f133.name == "runtime.NumGoroutine") = false := by kernel_rfl
theorem nm134 : (Tryz.f134.name == "runtime.NumGoroutine") = false := by kernel_rfl
theorem nm135 : (Tryz.f135.name == "runtime.NumGoroutine") = false := by kernel_rfl
theorem nm136 : (Tryz.f136.name == "runtime.NumGoroutine") = false := by kernel_rfl
theorem nm137 : (Tryz.f137.name == "runtime.NumGoroutine") = false := by kernel_rfl
theorem nm138 : (Tryz.f138.name == "runtime.NumGoroutine") = false := by kernel_rfl
theorem nm139 : (Tryz.f139.name == "runtime.NumGoroutine") = false := by kernel_rfl
theorem nm140 : (Tryz.f140.name == "runtime.NumGoroutine") = false := by kernel_rfl
theorem nm141 : (Tryz.f141.name == "runtime.NumGoroutine") = false := by kernel_rfl
theorem nm142 : (Tryz.f142.name == "runtime.NumGoroutine") = false := by kernel_rfl
theorem nm143 : (Tryz.f143.name == "runtime.NumGoroutine") = false := by kernel_rfl
theorem nm144 : (Tryz.f144.name == "runtime.NumGoroutine") = false := by kernel_rfl
theorem nm145 : (Tryz.f145.name == "runtime.NumGoroutine") = false := by kernel_rfl
theorem nm146 : (Tryz.f146.name == "runtime.NumGoroutine") = false := by kernel_rfl
theorem nm147 : (Tryz.f147.name == "runtime.NumGoroutine") = false := by kernel_rfl
theorem nm148 : (Tryz.f148.name == "runtime.NumGoroutine") = false := by kernel_rfl
theorem nm159 : (Tryz.f159.name == "runtime.NumGoroutine") = false := by kernel_rfl
theorem nm160 : (Tryz.f160.name == "runtime.NumGoroutine") = false := by kernel_rfl
theorem nm161 : (Tryz.f161.name == "runtime.NumGoroutine") = false := by kernel_rfl
theorem nm162 : (Tryz.f162.name == "runtime.NumGoroutine") = false := by kernel_rfl
theorem nm163 : (Tryz.f163.name == "runtime.NumGoroutine") = false := by kernel_rfl
theorem nm164 : (Tryz.f164.name == "runtime.NumGoroutine") = false := by kernel_rfl
theorem nm165 : (Tryz.f165.name == "runtime.NumGoroutine") = false := by kernel_rfl
theorem nm166 : (Tryz.f166.name == "runtime.NumGoroutine") = false := by kernel_rfl
theorem nm167 : (Tryz.f167.name == "runtime.NumGoroutine") = false := by kernel_rfl
theorem nm168 : (Tryz.f168.name == "runtime.NumGoroutine") = false := by kernel_rfl
theorem nm187 : (Tryz.f187.name == "runtime.NumGoroutine") = false := by kernel_rfl
theorem eg66 : Tryz.prog.eqGuardType Tryz.prog.depth 66 = false := by kernel_rfl
theorem eqs66 (a b : Range) (w : World) : (Op.equalIn (9999 + 1) 66 (.agg (List.toArray [(.int .i64 a.Lo), (.int .i64 a.Hi)])) (.agg (List.toArray [(.int .i64 b.Lo), (.int .i64 b.Hi)]))).run Tryz.prog w = .ok (decide (a = b)) w := by
  have u3 := Tryz.underlying3
  have a3 := Tryz.isAgg3
  have z3 := Tryz.sizeOf3
  have hS : Tryz.prog.underlying 66 = some (.struct (Tryz.prog.fieldsOf 66)) := by kernel_rfl
  have hp : Tryz.prog.stoodInHeld 66 = false := by kernel_rfl
  rw [run_equalIn_agg w 9999 66 _ _ hS hp]
  simp only [Program.fieldsOf, Tryz.underlying66]
  go_simp
  cases a; cases b; simp only [Range.mk.injEq]
  repeat' split
  all_goals simp_all
theorem eg176 : Tryz.prog.eqGuardType Tryz.prog.depth 176 = false := by kernel_rfl
theorem eqs176 (a b : Arr3_U64) (w : World) : (Op.equalIn (9999 + 1) 176 (.agg (List.toArray [(.int .u64 a.e0), (.int .u64 a.e1), (.int .u64 a.e2)])) (.agg (List.toArray [(.int .u64 b.e0), (.int .u64 b.e1), (.int .u64 b.e2)]))).run Tryz.prog w = .ok (decide (a = b)) w := by
  have u174 := Tryz.underlying174
  have a174 := Tryz.isAgg174
  have z174 := Tryz.sizeOf174
  rw [Op.equalIn]
  simp only [Sem.run_bind, run_underlying Tryz.underlying176, Result.andThen_ok]
  simp only [Std.Legacy.Range.forIn_eq_forIn_range', Std.Legacy.Range.size, Nat.sub_zero, Nat.add_sub_cancel, Nat.div_one, List.range'_succ, List.range'_zero, List.forIn_cons, List.forIn_nil]
  go_simp
  cases a; cases b; simp only [Arr3_U64.mk.injEq]
  repeat' split
  all_goals simp_all
theorem fb162 : Tryz.f162.body.isNone = true := by kernel_rfl
theorem fn162 : Extern.findNext Tryz.f162 = none := by kernel_rfl
theorem fe162 : Extern.find Tryz.f162 = some add64Entry := by kernel_rfl
theorem mixed : Tryz.prog.follows .mixedOrders = true := by kernel_rfl
end Go.Gw
