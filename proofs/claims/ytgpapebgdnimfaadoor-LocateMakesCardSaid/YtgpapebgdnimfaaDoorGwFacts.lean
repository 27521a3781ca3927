/- Facts of the types of the program. No condition. -/
import Derived.Test.YtgpapebgdnimfaaDoorGwSt
import Derived.Test.YtgpapebgdnimfaaDoorGwLib10
import Derived.Laws.StructEq
import Derived.Test.YtgpapebgdnimfaaDoorProg
set_option maxRecDepth 100000
namespace Go.Gw
open Go Go.Proofs
theorem sz3 : Size Tryd.prog 3 1 := size_of (by kernel_rfl)
theorem sz4 : Size Tryd.prog 4 1 := size_of (by kernel_rfl)
theorem sz22 : Size Tryd.prog 22 1 := size_of (by kernel_rfl)
theorem sz24 : Size Tryd.prog 24 9 := size_of (by kernel_rfl)
theorem sz26 : Size Tryd.prog 26 2 := size_of (by kernel_rfl)
theorem sz30 : Size Tryd.prog 30 1 := size_of (by kernel_rfl)
theorem sz36 : Size Tryd.prog 36 2 := size_of (by kernel_rfl)
theorem sz53 : Size Tryd.prog 53 2 := size_of (by kernel_rfl)
theorem sz62 : Size Tryd.prog 62 2 := size_of (by kernel_rfl)
theorem sz106 : Size Tryd.prog 106 1 := size_of (by kernel_rfl)
theorem sz110 : Size Tryd.prog 110 3 := size_of (by kernel_rfl)
theorem sz112 : Size Tryd.prog 112 4 := size_of (by kernel_rfl)
theorem sz115 : Size Tryd.prog 115 2 := size_of (by kernel_rfl)
theorem sz130 : Size Tryd.prog 130 9 := size_of (by kernel_rfl)
theorem sz147 : Size Tryd.prog 147 12 := size_of (by kernel_rfl)
theorem sz152 : Size Tryd.prog 152 2 := size_of (by kernel_rfl)
theorem sz158 : Size Tryd.prog 158 3 := size_of (by kernel_rfl)
theorem sc3 : Scalar Tryd.prog 3 := ⟨_, Tryd.underlying3, trivial⟩
theorem sc4 : Scalar Tryd.prog 4 := ⟨_, Tryd.underlying4, trivial⟩
theorem sc22 : Scalar Tryd.prog 22 := ⟨_, Tryd.underlying22, trivial⟩
theorem sc30 : Scalar Tryd.prog 30 := ⟨_, Tryd.underlying30, trivial⟩
theorem sc106 : Scalar Tryd.prog 106 := ⟨_, Tryd.underlying106, trivial⟩
theorem ag24 : Aggr Tryd.prog 24 9 := aggr_of (by trivial) Tryd.underlying24 (by kernel_rfl)
theorem ag26 : Aggr Tryd.prog 26 2 := aggr_of (by trivial) Tryd.underlying26 (by kernel_rfl)
theorem ag36 : Aggr Tryd.prog 36 2 := aggr_of (by trivial) Tryd.underlying36 (by kernel_rfl)
theorem ag53 : Aggr Tryd.prog 53 2 := aggr_of (by trivial) Tryd.underlying53 (by kernel_rfl)
theorem ag62 : Aggr Tryd.prog 62 2 := aggr_of (by trivial) Tryd.underlying62 (by kernel_rfl)
theorem ag110 : Aggr Tryd.prog 110 3 := aggr_of (by trivial) Tryd.underlying110 (by kernel_rfl)
theorem ag112 : Aggr Tryd.prog 112 4 := aggr_of (by trivial) Tryd.underlying112 (by kernel_rfl)
theorem ag115 : Aggr Tryd.prog 115 2 := aggr_of (by trivial) Tryd.underlying115 (by kernel_rfl)
theorem ag130 : Aggr Tryd.prog 130 9 := aggr_of (by trivial) Tryd.underlying130 (by kernel_rfl)
theorem ag147 : Aggr Tryd.prog 147 12 := aggr_of (by trivial) Tryd.underlying147 (by kernel_rfl)
theorem ag152 : Aggr Tryd.prog 152 2 := aggr_of (by trivial) Tryd.underlying152 (by kernel_rfl)
theorem ag158 : Aggr Tryd.prog 158 3 := aggr_of (by trivial) Tryd.underlying158 (by kernel_rfl)
theorem ei3 : EInfo Tryd.prog 3 1 8 (.int .i64 0) := einfo_of (by kernel_rfl) rfl (by decide)
theorem ei30 : EInfo Tryd.prog 30 1 8 (.int .i64 0) := einfo_of (by kernel_rfl) rfl (by decide)
theorem ei36 : EInfo Tryd.prog 36 2 16 (.agg (List.toArray [(.int .i64 0), (.int .i64 0)])) := einfo_of (by kernel_rfl) rfl (by decide)
theorem ei53 : EInfo Tryd.prog 53 2 16 (.agg (List.toArray [(.int .i64 0), (.int .i64 0)])) := einfo_of (by kernel_rfl) rfl (by decide)
theorem ei110 : EInfo Tryd.prog 110 3 24 (.agg (List.toArray [(.int .i64 0), (.int .i64 0), (.int .i64 0)])) := einfo_of (by kernel_rfl) rfl (by decide)
theorem ei152 : EInfo Tryd.prog 152 2 16 (.agg (List.toArray [(.int .i64 0), (.int .i64 0)])) := einfo_of (by kernel_rfl) rfl (by decide)
theorem bi24 : BI Tryd.prog 24 [(0, 1), (1, 1), (2, 1), (3, 1), (4, 1), (5, 1), (6, 1), (7, 1), (8, 1)] [(.slice none 0 0), (.int .i64 0), (.int .i64 0), (.int .i64 0), (.int .i64 0), (.int .i64 0), (.int .i64 0), (.int .i64 0), (.bool false)] := bi_of Tryd.underlying24 (by kernel_rfl) (by kernel_rfl)
theorem bi26 : BI Tryd.prog 26 [(0, 1), (1, 1)] [(.slice none 0 0), (.int .i64 0)] := bi_of Tryd.underlying26 (by kernel_rfl) (by kernel_rfl)
theorem bi36 : BI Tryd.prog 36 [(0, 1), (1, 1)] [(.int .i64 0), (.int .i64 0)] := bi_of Tryd.underlying36 (by kernel_rfl) (by kernel_rfl)
theorem bi53 : BI Tryd.prog 53 [(0, 1), (1, 1)] [(.int .i64 0), (.int .i64 0)] := bi_of Tryd.underlying53 (by kernel_rfl) (by kernel_rfl)
theorem bi62 : BI Tryd.prog 62 [(0, 1), (1, 1)] [(.int .i64 0), (.int .i64 0)] := bi_of Tryd.underlying62 (by kernel_rfl) (by kernel_rfl)
theorem bi110 : BI Tryd.prog 110 [(0, 1), (1, 2)] [(.int .i64 0), (.int .i64 0), (.int .i64 0)] := bi_of Tryd.underlying110 (by kernel_rfl) (by kernel_rfl)
theorem bi130 : BI Tryd.prog 130 [(0, 9)] [(.slice none 0 0), (.int .i64 0), (.int .i64 0), (.int .i64 0), (.int .i64 0), (.int .i64 0), (.int .i64 0), (.int .i64 0), (.bool false)] := bi_of Tryd.underlying130 (by kernel_rfl) (by kernel_rfl)
theorem bi152 : BI Tryd.prog 152 [(0, 1), (1, 1)] [(.int .i64 0), (.int .i64 0)] := bi_of Tryd.underlying152 (by kernel_rfl) (by kernel_rfl)
theorem bi158 : BI Tryd.prog 158 [(0, 1), (1, 2)] [(.int .i64 0), (.int .i64 0), (.int .i64 0)] := bi_of Tryd.underlying158 (by kernel_rfl) (by kernel_rfl)
theorem zi24 : ZI Tryd.prog 24 [(.slice none 0 0), (.int .i64 0), (.int .i64 0), (.int .i64 0), (.int .i64 0), (.int .i64 0), (.int .i64 0), (.int .i64 0), (.bool false)] := zi_of (by kernel_rfl)
theorem zi26 : ZI Tryd.prog 26 [(.slice none 0 0), (.int .i64 0)] := zi_of (by kernel_rfl)
theorem zi36 : ZI Tryd.prog 36 [(.int .i64 0), (.int .i64 0)] := zi_of (by kernel_rfl)
theorem zi53 : ZI Tryd.prog 53 [(.int .i64 0), (.int .i64 0)] := zi_of (by kernel_rfl)
theorem zi62 : ZI Tryd.prog 62 [(.int .i64 0), (.int .i64 0)] := zi_of (by kernel_rfl)
theorem zi110 : ZI Tryd.prog 110 [(.int .i64 0), (.int .i64 0), (.int .i64 0)] := zi_of (by kernel_rfl)
theorem zi112 : ZI Tryd.prog 112 [(.int .i64 0), (.int .i64 0), (.int .i64 0), (.int .i64 0)] := zi_of (by kernel_rfl)
theorem zi115 : ZI Tryd.prog 115 [(.int .i64 0), (.int .i64 0)] := zi_of (by kernel_rfl)
theorem zi130 : ZI Tryd.prog 130 [(.slice none 0 0), (.int .i64 0), (.int .i64 0), (.int .i64 0), (.int .i64 0), (.int .i64 0), (.int .i64 0), (.int .i64 0), (.bool false)] := zi_of (by kernel_rfl)
theorem zi147 : ZI Tryd.prog 147 [(.int .i64 0), (.int .i64 0), (.int .i64 0), (.int .i64 0), (.int .i64 0), (.int .i64 0), (.int .i64 0), (.int .i64 0), (.int .i64 0), (.int .i64 0), (.int .i64 0), (.int .i64 0)] := zi_of (by kernel_rfl)
theorem zi152 : ZI Tryd.prog 152 [(.int .i64 0), (.int .i64 0)] := zi_of (by kernel_rfl)
theorem zi158 : ZI Tryd.prog 158 [(.int .i64 0), (.int .i64 0), (.int .i64 0)] := zi_of (by kernel_rfl)
theorem nm18 : (Tryd.f18.name == "runtime.NumGoroutine") = false := by kernel_rfl
theorem nm19 : (Tryd.f19.name == "runtime.NumGoroutine") = false := by kernel_rfl
theorem nm20 : (Tryd.f20.name == "runtime.NumGoroutine") = false := by kernel_rfl
theorem nm21 : (Tryd.f21.name == "runtime.NumGoroutine") = false := by kernel_rfl
theorem nm22 : (Tryd.f22.name == "runtime.NumGoroutine") = false := by kernel_rfl
theorem nm23 : (Tryd.f23.name == "runtime.NumGoroutine") = false := by kernel_rfl
theorem nm24 : (Tryd.f24.name == "runtime.NumGoroutine") = false := by kernel_rfl
theorem nm25 : (Tryd.f25.name == "runtime.NumGoroutine") = false := by kernel_rfl
theorem nm26 : (Tryd.f26.name == "runtime.NumGoroutine") = false := by kernel_rfl
theorem nm27 : (Tryd.f27.name == "runtime.NumGoroutine") = false := by kernel_rfl
theorem nm28 : (Tryd.f28.name == "runtime.NumGoroutine") = false := by kernel_rfl
theorem nm29 : (Tryd.f29.name == "runtime.NumGoroutine") = false := by kernel_rfl
theorem nm30 : (Tryd.f30.name == "runtime.NumGoroutine") = false := by kernel_rfl
theorem nm31 : (Tryd.f31.name == "runtime.NumGoroutine") = false := by kernel_rfl
theorem nm32 : (Tryd.f32.name == "runtime.NumGoroutine") = false := by kernel_rfl
theorem nm33 : (Tryd.f33.name == "runtime.NumGoroutine") = false := by kernel_rfl
theorem nm34 : (Tryd.f34.name == "runtime.NumGoroutine") = false := by kernel_rfl
theorem nm35 : (Tryd.f35.name == "runtime.NumGoroutine") = false := by kernel_rfl
theorem nm36 : (Tryd.f36.name == "runtime.NumGoroutine") = false := by kernel_rfl
theorem nm37 : (Tryd.f37.name == "runtime.NumGoroutine") = false := by kernel_rfl
theorem nm38 : (Tryd.f38.name == "runtime.NumGoroutine") = false := by kernel_rfl
theorem nm39 : (Tryd.f39.name == "runtime.NumGoroutine") = false := by kernel_rfl
theorem nm40 : (Tryd.f40.name == "runtime.NumGoroutine") = false := by kernel_rfl
theorem nm41 : (Tryd.f41.name == "runtime.NumGoroutine") = false := by kernel_rfl
theorem nm42 : (Tryd.f42.name == "runtime.NumGoroutine") = false := by kernel_rfl
theorem nm43 : (Tryd.f43.name == "runtime.NumGoroutine") = false := by kernel_rfl
theorem nm44 : (Tryd.f44.name == "runtime.NumGoroutine") = false := by kernel_rfl
theorem nm45 : (Tryd.f45.name == "runtime.NumGoroutine") = false := by kernel_rfl
theorem nm46 : (Tryd.f46.name == "runtime.NumGoroutine") = false := by kernel_rfl
theorem nm47 : (Tryd.f47.name == "runtime.NumGoroutine") = false := by kernel_rfl
theorem nm48 : (Tryd.f48.name == "runtime.NumGoroutine") = false := by kernel_rfl
theorem nm49 : (Tryd.f49.name == "runtime.NumGoroutine") = false := by kernel_rfl
theorem nm50 : (Tryd.f50.name == "runtime.NumGoroutine") = false := by kernel_rfl
theorem nm51 : (Tryd.f51.name == "runtime.NumGoroutine") = false := by kernel_rfl
theorem nm52 : (Tryd.f52.name == "runtime.NumGoroutine") = false := by kernel_rfl
theorem nm53 : (Tryd.f53.name == "runtime.NumGoroutine") = false := by kernel_rfl
theorem nm54 : (Tryd.f54.name == "runtime.NumGoroutine") = false := by kernel_rfl
theorem nm55 : (Tryd.f55.name == "runtime.NumGoroutine") = false := by kernel_rfl
theorem nm56 : (Tryd.f56.name == "runtime.NumGoroutine") = false := by kernel_rfl
theorem nm57 : (Tryd.f57.name == "runtime.NumGoroutine") = false := by kernel_rfl
theorem nm58 : (Tryd.f58.name == "runtime.NumGoroutine") = false := by kernel_rfl
theorem nm59 : (Tryd.f59.name == "runtime.NumGoroutine") = false := by kernel_rfl
theorem nm60 : (Tryd.f60.name == "runtime.NumGoroutine") = false := by kernel_rfl
theorem nm61 : (Tryd.f61.name == "runtime.NumGoroutine") = false := by kernel_rfl
theorem nm62 : (Tryd.f62.name == "runtime.NumGoroutine") = false := by kernel_rfl
theorem nm63 : (Tryd.f63.name == "runtime.NumGoroutine") = false := by kernel_rfl
theorem nm64 : (Tryd.f64.name == "runtime.NumGoroutine") = false := by kernel_rfl
theorem nm65 : (Tryd.f65.name == "runtime.NumGoroutine") = false := by kernel_rfl
theorem nm66 : (Tryd.f66.name == "runtime.NumGoroutine") = false := by kernel_rfl
theorem nm67 : (Tryd.f67.name == "runtime.NumGoroutine") = false := by kernel_rfl
theorem nm68 : (Tryd.f68.name == "runtime.NumGoroutine") = false := by kernel_rfl
theorem nm69 : (Tryd.f69.name == "runtime.NumGoroutine") = false := by kernel_rfl
theorem nm70 : (Tryd.f70.name == "runtime.NumGoroutine") = false := by kernel_rfl
theorem nm71 : (Tryd.f71.name == "runtime.NumGoroutine") = false := by kernel_rfl
theorem nm72 : (Tryd.f72.name == "runtime.NumGoroutine") = false := by kernel_rfl
theorem nm73 : (Tryd.f73.name == "runtime.NumGoroutine") = false := by kernel_rfl
theorem nm74 : (Tryd.f74.name == "runtime.NumGoroutine") = false := by kernel_rfl
theorem nm75 : (Tryd.f75.name == "runtime.NumGoroutine") = false := by kernel_rfl
theorem nm76 : (Tryd.f76.name == "runtime.NumGoroutine") = false := by kernel_rfl
theorem nm77 : (Tryd.f77.name == "runtime.NumGoroutine") = false := by kernel_rfl
theorem nm78 : (Tryd.f78.name == "runtime.NumGoroutine") = false := by kernel_rfl
theorem nm82 : (Tryd.f82.name == "runtime.NumGoroutine") = false := by kernel_rfl
theorem nm83 : (Tryd.f83.name == "runtime.NumGoroutine") = false := by kernel_rfl
theorem nm84 : (Tryd.f84.name == "runtime.NumGoroutine") = false := by kernel_rfl
theorem nm85 : (Tryd.f85.name == "runtime.NumGoroutine") = false := by kernel_rfl
theorem nm86 : (Tryd.f86.name == "runtime.NumGoroutine") = false := by kernel_rfl
theorem nm87 : (Tryd.f87.name == "runtime.NumGoroutine") = false := by kernel_rfl
theorem nm88 : (Tryd.f88.name == "runtime.NumGoroutine") = false := by kernel_rfl
theorem nm89 : (Tryd.f89.name == "runtime.NumGoroutine") = false := by kernel_rfl
theorem nm90 : (Tryd.f90.name == "runtime.NumGoroutine") = false := by kernel_rfl
theorem nm91 : (Tryd.f91.name == "runtime.NumGoroutine") = false := by kernel_rfl
theorem nm92 : (Tryd.f92.name == "runtime.NumGoroutine") = false := by kernel_rfl
theorem nm93 : (Tryd.f93.name == "runtime.NumGoroutine") = false := by kernel_rfl
theorem nm94 : (Tryd.f94.name == "runtime.NumGoroutine") = false := by kernel_rfl
theorem nm95 : (Tryd.f95.name == "runtime.NumGoroutine") = false := by kernel_rfl
theorem nm96 : (Tryd.f96.name == "runtime.NumGoroutine") = false := by kernel_rfl
theorem nm97 : (Tryd.f97.name == "runtime.NumGoroutine") = false := by kernel_rfl
theorem nm98 : (Tryd.f98.name == "runtime.NumGoroutine") = false := by kernel_rfl
theorem nm99 : (Tryd.f99.name == "runtime.NumGoroutine") = false := by kernel_rfl
theorem nm100 : (Tryd.f100.name == "runtime.NumGoroutine") = false := by kernel_rfl
theorem nm101 : (Tryd.f101.name == "runtime.NumGoroutine") = false := by kernel_rfl
theorem nm102 : (Tryd.f102.name == "runtime.NumGoroutine") = false := by kernel_rfl
theorem nm103 : (Tryd.f103.name == "runtime.NumGoroutine") = false := by kernel_rfl
theorem nm104 : (Tryd.f104.name == "runtime.NumGoroutine") = false := by kernel_rfl
theorem nm105 : (Tryd.f105.name == "runtime.NumGoroutine") = false := by kernel_rfl
theorem nm106 : (Tryd.f106.name == "runtime.NumGoroutine") = false := by kernel_rfl
theorem nm108 : (Tryd.f108.name == "runtime.NumGoroutine") = false := by kernel_rfl
theorem nm109 : (Tryd.f109.name == "runtime.NumGoroutine") = false := by kernel_rfl
theorem nm110 : (Tryd.f110.name == "runtime.NumGoroutine") = false := by kernel_rfl
theorem nm111 : (Tryd.f111.name == "runtime.NumGoroutine") = false := by kernel_rfl
theorem nm112 : (Tryd.f112.name == "runtime.NumGoroutine") = false := by kernel_rfl
theorem nm113 : (Tryd.f113.name == "runtime.NumGoroutine") = false := by kernel_rfl
theorem nm114 : (Tryd.f114.name == "runtime.NumGoroutine") = false := by kernel_rfl
theorem nm115 : (Tryd.f115.name == "runtime.NumGoroutine") = false := by kernel_rfl
theorem nm116 : (Tryd.f116.name == "runtime.NumGoroutine") = false := by kernel_rfl
theorem nm118 : (Tryd.f118.name == "runtime.NumGoroutine") = false := by kernel_rfl
theorem nm120 : (Tryd.f120.name == "runtime.NumGoroutine") = false := by kernel_rfl
theorem nm121 : (Tryd.f121.name == "runtime.NumGoroutine") = false := by kernel_rfl
theorem nm122 : (Tryd.f122.name == "runtime.NumGoroutine") = false := by kernel_rfl
theorem nm123 : (Tryd.f123.name == "runtime.NumGoroutine") = false := by kernel_rfl
theorem nm124 : (Tryd.f124.name == "runtime.NumGoroutine") = false := by kernel_rfl
theorem nm125 : (Tryd.f125.name == "runtime.NumGoroutine") = false := by kernel_rfl
theorem nm128 : (Tryd.f128.name == "runtime.NumGoroutine") = false := by kernel_rfl
theorem nm129 : (Tryd.f129.name == "runtime.NumGoroutine") = false := by kernel_rfl
theorem nm130 : (Tryd.f130.name == "runtime.NumGoroutine") = false := by kernel_rfl
theorem nm131 : (Tryd.f131.name == "runtime.NumGoroutine") = false := by kernel_rfl
theorem nm142 : (Tryd.f142.name == "runtime.NumGoroutine") = false := by kernel_rfl
theorem nm148 : (Tryd.f148.name == "runtime.NumGoroutine") = false := by kernel_rfl
theorem eg36 : Tryd.prog.eqGuardType Tryd.prog.depth 36 = false := by kernel_rfl
theorem eqs36 (a b : Range) (w : World) : (Op.equalIn (9999 + 1) 36 (.agg (List.toArray [(.int .i64 a.Lo), (.int .i64 a.Hi)])) (.agg (List.toArray [(.int .i64 b.Lo), (.int .i64 b.Hi)]))).run Tryd.prog w = .ok (decide (a = b)) w := by
  have u3 := Tryd.underlying3
  have a3 := Tryd.isAgg3
  have z3 := Tryd.sizeOf3
  have hS : Tryd.prog.underlying 36 = some (.struct (Tryd.prog.fieldsOf 36)) := by kernel_rfl
  have hp : Tryd.prog.stoodInHeld 36 = false := by kernel_rfl
  rw [run_equalIn_agg w 9999 36 _ _ hS hp]
  simp only [Program.fieldsOf, Tryd.underlying36]
  go_simp
  cases a; cases b; simp only [Range.mk.injEq]
  repeat' split
  all_goals simp_all
theorem eg53 : Tryd.prog.eqGuardType Tryd.prog.depth 53 = false := by kernel_rfl
theorem eqs53 (a b : LocateRest) (w : World) : (Op.equalIn (9999 + 1) 53 (.agg (List.toArray [(.int .i64 a.Modulus), (.int .i64 a.Rest)])) (.agg (List.toArray [(.int .i64 b.Modulus), (.int .i64 b.Rest)]))).run Tryd.prog w = .ok (decide (a = b)) w := by
  have u3 := Tryd.underlying3
  have a3 := Tryd.isAgg3
  have z3 := Tryd.sizeOf3
  have hS : Tryd.prog.underlying 53 = some (.struct (Tryd.prog.fieldsOf 53)) := by kernel_rfl
  have hp : Tryd.prog.stoodInHeld 53 = false := by kernel_rfl
  rw [run_equalIn_agg w 9999 53 _ _ hS hp]
  simp only [Program.fieldsOf, Tryd.underlying53]
  go_simp
  cases a; cases b; simp only [LocateRest.mk.injEq]
  repeat' split
  all_goals simp_all
theorem eg62 : Tryd.prog.eqGuardType Tryd.prog.depth 62 = false := by kernel_rfl
theorem eqs62 (a b : LocateSteps) (w : World) : (Op.equalIn (9999 + 1) 62 (.agg (List.toArray [(.int .i64 a.Steps), (.int .i64 a.Skips)])) (.agg (List.toArray [(.int .i64 b.Steps), (.int .i64 b.Skips)]))).run Tryd.prog w = .ok (decide (a = b)) w := by
  have u3 := Tryd.underlying3
  have a3 := Tryd.isAgg3
  have z3 := Tryd.sizeOf3
  have hS : Tryd.prog.underlying 62 = some (.struct (Tryd.prog.fieldsOf 62)) := by kernel_rfl
  have hp : Tryd.prog.stoodInHeld 62 = false := by kernel_rfl
  rw [run_equalIn_agg w 9999 62 _ _ hS hp]
  simp only [Program.fieldsOf, Tryd.underlying62]
  go_simp
  cases a; cases b; simp only [LocateSteps.mk.injEq]
  repeat' split
  all_goals simp_all
theorem eg115 : Tryd.prog.eqGuardType Tryd.prog.depth 115 = false := by kernel_rfl
theorem eqs115 (a b : Arr2_Int) (w : World) : (Op.equalIn (9999 + 1) 115 (.agg (List.toArray [(.int .i64 a.e0), (.int .i64 a.e1)])) (.agg (List.toArray [(.int .i64 b.e0), (.int .i64 b.e1)]))).run Tryd.prog w = .ok (decide (a = b)) w := by
  have u3 := Tryd.underlying3
  have a3 := Tryd.isAgg3
  have z3 := Tryd.sizeOf3
  rw [Op.equalIn]
  simp only [Sem.run_bind, run_underlying Tryd.underlying115, Result.andThen_ok]
  simp only [Std.Legacy.Range.forIn_eq_forIn_range', Std.Legacy.Range.size, Nat.sub_zero, Nat.add_sub_cancel, Nat.div_one, List.range'_succ, List.range'_zero, List.forIn_cons, List.forIn_nil]
  go_simp
  cases a; cases b; simp only [Arr2_Int.mk.injEq]
  repeat' split
  all_goals simp_all
theorem mixed : Tryd.prog.follows .mixedOrders = true := by kernel_rfl
end Go.Gw
