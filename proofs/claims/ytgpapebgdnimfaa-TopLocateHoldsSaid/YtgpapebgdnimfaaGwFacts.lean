/- Facts of the types of the program. No condition. -/
import Derived.Test.YtgpapebgdnimfaaGwSt
import Derived.Test.YtgpapebgdnimfaaGwLib10
import Derived.Laws.StructEq
import Derived.Test.YtgpapebgdnimfaaProg
set_option maxRecDepth 100000
namespace Go.Gw
open Go Go.Proofs
theorem sz3 : Size Try.prog 3 1 := size_of (by kernel_rfl)
theorem sz4 : Size Try.prog 4 1 := size_of (by kernel_rfl)
theorem sz22 : Size Try.prog 22 1 := size_of (by kernel_rfl)
theorem sz24 : Size Try.prog 24 9 := size_of (by kernel_rfl)
theorem sz25 : Size Try.prog 25 1 := size_of (by kernel_rfl)
theorem sz35 : Size Try.prog 35 2 := size_of (by kernel_rfl)
theorem sz37 : Size Try.prog 37 1 := size_of (by kernel_rfl)
theorem sz45 : Size Try.prog 45 2 := size_of (by kernel_rfl)
theorem sz51 : Size Try.prog 51 3 := size_of (by kernel_rfl)
theorem sz61 : Size Try.prog 61 2 := size_of (by kernel_rfl)
theorem sz68 : Size Try.prog 68 9 := size_of (by kernel_rfl)
theorem sz76 : Size Try.prog 76 4 := size_of (by kernel_rfl)
theorem sz86 : Size Try.prog 86 2 := size_of (by kernel_rfl)
theorem sz99 : Size Try.prog 99 12 := size_of (by kernel_rfl)
theorem sc3 : Scalar Try.prog 3 := ⟨_, Try.underlying3, trivial⟩
theorem sc4 : Scalar Try.prog 4 := ⟨_, Try.underlying4, trivial⟩
theorem sc22 : Scalar Try.prog 22 := ⟨_, Try.underlying22, trivial⟩
theorem sc25 : Scalar Try.prog 25 := ⟨_, Try.underlying25, trivial⟩
theorem sc37 : Scalar Try.prog 37 := ⟨_, Try.underlying37, trivial⟩
theorem ag24 : Aggr Try.prog 24 9 := aggr_of (by trivial) Try.underlying24 (by kernel_rfl)
theorem ag27 : Aggr Try.prog 27 3 := aggr_of (by trivial) Try.underlying27 (by kernel_rfl)
theorem ag35 : Aggr Try.prog 35 2 := aggr_of (by trivial) Try.underlying35 (by kernel_rfl)
theorem ag45 : Aggr Try.prog 45 2 := aggr_of (by trivial) Try.underlying45 (by kernel_rfl)
theorem ag51 : Aggr Try.prog 51 3 := aggr_of (by trivial) Try.underlying51 (by kernel_rfl)
theorem ag61 : Aggr Try.prog 61 2 := aggr_of (by trivial) Try.underlying61 (by kernel_rfl)
theorem ag68 : Aggr Try.prog 68 9 := aggr_of (by trivial) Try.underlying68 (by kernel_rfl)
theorem ag76 : Aggr Try.prog 76 4 := aggr_of (by trivial) Try.underlying76 (by kernel_rfl)
theorem ag86 : Aggr Try.prog 86 2 := aggr_of (by trivial) Try.underlying86 (by kernel_rfl)
theorem ag99 : Aggr Try.prog 99 12 := aggr_of (by trivial) Try.underlying99 (by kernel_rfl)
theorem ei3 : EInfo Try.prog 3 1 8 (.int .i64 0) := einfo_of (by kernel_rfl) rfl (by decide)
theorem ei35 : EInfo Try.prog 35 2 16 (.agg (List.toArray [(.int .i64 0), (.int .i64 0)])) := einfo_of (by kernel_rfl) rfl (by decide)
theorem ei37 : EInfo Try.prog 37 1 8 (.int .i64 0) := einfo_of (by kernel_rfl) rfl (by decide)
theorem ei51 : EInfo Try.prog 51 3 24 (.agg (List.toArray [(.int .i64 0), (.int .i64 0), (.int .i64 0)])) := einfo_of (by kernel_rfl) rfl (by decide)
theorem ei61 : EInfo Try.prog 61 2 16 (.agg (List.toArray [(.int .i64 0), (.int .i64 0)])) := einfo_of (by kernel_rfl) rfl (by decide)
theorem ei86 : EInfo Try.prog 86 2 16 (.agg (List.toArray [(.int .i64 0), (.int .i64 0)])) := einfo_of (by kernel_rfl) rfl (by decide)
theorem bi24 : BI Try.prog 24 [(0, 1), (1, 1), (2, 1), (3, 1), (4, 1), (5, 1), (6, 1), (7, 1), (8, 1)] [(.slice none 0 0), (.int .i64 0), (.int .i64 0), (.int .i64 0), (.int .i64 0), (.int .i64 0), (.int .i64 0), (.int .i64 0), (.bool false)] := bi_of Try.underlying24 (by kernel_rfl) (by kernel_rfl)
theorem bi35 : BI Try.prog 35 [(0, 1), (1, 1)] [(.int .i64 0), (.int .i64 0)] := bi_of Try.underlying35 (by kernel_rfl) (by kernel_rfl)
theorem bi45 : BI Try.prog 45 [(0, 1), (1, 1)] [(.slice none 0 0), (.int .i64 0)] := bi_of Try.underlying45 (by kernel_rfl) (by kernel_rfl)
theorem bi51 : BI Try.prog 51 [(0, 1), (1, 2)] [(.int .i64 0), (.int .i64 0), (.int .i64 0)] := bi_of Try.underlying51 (by kernel_rfl) (by kernel_rfl)
theorem bi61 : BI Try.prog 61 [(0, 1), (1, 1)] [(.int .i64 0), (.int .i64 0)] := bi_of Try.underlying61 (by kernel_rfl) (by kernel_rfl)
theorem bi68 : BI Try.prog 68 [(0, 9)] [(.slice none 0 0), (.int .i64 0), (.int .i64 0), (.int .i64 0), (.int .i64 0), (.int .i64 0), (.int .i64 0), (.int .i64 0), (.bool false)] := bi_of Try.underlying68 (by kernel_rfl) (by kernel_rfl)
theorem bi86 : BI Try.prog 86 [(0, 1), (1, 1)] [(.int .i64 0), (.int .i64 0)] := bi_of Try.underlying86 (by kernel_rfl) (by kernel_rfl)
theorem zi24 : ZI Try.prog 24 [(.slice none 0 0), (.int .i64 0), (.int .i64 0), (.int .i64 0), (.int .i64 0), (.int .i64 0), (.int .i64 0), (.int .i64 0), (.bool false)] := zi_of (by kernel_rfl)
theorem zi35 : ZI Try.prog 35 [(.int .i64 0), (.int .i64 0)] := zi_of (by kernel_rfl)
theorem zi45 : ZI Try.prog 45 [(.slice none 0 0), (.int .i64 0)] := zi_of (by kernel_rfl)
theorem zi51 : ZI Try.prog 51 [(.int .i64 0), (.int .i64 0), (.int .i64 0)] := zi_of (by kernel_rfl)
theorem zi61 : ZI Try.prog 61 [(.int .i64 0), (.int .i64 0)] := zi_of (by kernel_rfl)
theorem zi68 : ZI Try.prog 68 [(.slice none 0 0), (.int .i64 0), (.int .i64 0), (.int .i64 0), (.int .i64 0), (.int .i64 0), (.int .i64 0), (.int .i64 0), (.bool false)] := zi_of (by kernel_rfl)
theorem zi76 : ZI Try.prog 76 [(.int .i64 0), (.slice none 0 0), (.slice none 0 0), (.int .i64 0)] := zi_of (by kernel_rfl)
theorem zi86 : ZI Try.prog 86 [(.int .i64 0), (.int .i64 0)] := zi_of (by kernel_rfl)
theorem zi99 : ZI Try.prog 99 [(.int .i64 0), (.int .i64 0), (.int .i64 0), (.int .i64 0), (.int .i64 0), (.int .i64 0), (.int .i64 0), (.int .i64 0), (.int .i64 0), (.int .i64 0), (.int .i64 0), (.int .i64 0)] := zi_of (by kernel_rfl)
theorem nm4 : (Try.f4.name == "runtime.NumGoroutine") = false := by kernel_rfl
theorem nm5 : (Try.f5.name == "runtime.NumGoroutine") = false := by kernel_rfl
theorem nm6 : (Try.f6.name == "runtime.NumGoroutine") = false := by kernel_rfl
theorem nm7 : (Try.f7.name == "runtime.NumGoroutine") = false := by kernel_rfl
theorem nm8 : (Try.f8.name == "runtime.NumGoroutine") = false := by kernel_rfl
theorem nm9 : (Try.f9.name == "runtime.NumGoroutine") = false := by kernel_rfl
theorem nm10 : (Try.f10.name == "runtime.NumGoroutine") = false := by kernel_rfl
theorem nm11 : (Try.f11.name == "runtime.NumGoroutine") = false := by kernel_rfl
theorem nm12 : (Try.f12.name == "runtime.NumGoroutine") = false := by kernel_rfl
theorem nm13 : (Try.f13.name == "runtime.NumGoroutine") = false := by kernel_rfl
theorem nm14 : (Try.f14.name == "runtime.NumGoroutine") = false := by kernel_rfl
theorem nm15 : (Try.f15.name == "runtime.NumGoroutine") = false := by kernel_rfl
theorem nm16 : (Try.f16.name == "runtime.NumGoroutine") = false := by kernel_rfl
theorem nm17 : (Try.f17.name == "runtime.NumGoroutine") = false := by kernel_rfl
theorem nm18 : (Try.f18.name == "runtime.NumGoroutine") = false := by kernel_rfl
theorem nm19 : (Try.f19.name == "runtime.NumGoroutine") = false := by kernel_rfl
theorem nm20 : (Try.f20.name == "runtime.NumGoroutine") = false := by kernel_rfl
theorem nm21 : (Try.f21.name == "runtime.NumGoroutine") = false := by kernel_rfl
theorem nm22 : (Try.f22.name == "runtime.NumGoroutine") = false := by kernel_rfl
theorem nm23 : (Try.f23.name == "runtime.NumGoroutine") = false := by kernel_rfl
theorem nm24 : (Try.f24.name == "runtime.NumGoroutine") = false := by kernel_rfl
theorem nm25 : (Try.f25.name == "runtime.NumGoroutine") = false := by kernel_rfl
theorem nm26 : (Try.f26.name == "runtime.NumGoroutine") = false := by kernel_rfl
theorem nm27 : (Try.f27.name == "runtime.NumGoroutine") = false := by kernel_rfl
theorem nm28 : (Try.f28.name == "runtime.NumGoroutine") = false := by kernel_rfl
theorem nm29 : (Try.f29.name == "runtime.NumGoroutine") = false := by kernel_rfl
theorem nm30 : (Try.f30.name == "runtime.NumGoroutine") = false := by kernel_rfl
theorem nm31 : (Try.f31.name == "runtime.NumGoroutine") = false := by kernel_rfl
theorem nm32 : (Try.f32.name == "runtime.NumGoroutine") = false := by kernel_rfl
theorem nm33 : (Try.f33.name == "runtime.NumGoroutine") = false := by kernel_rfl
theorem nm34 : (Try.f34.name == "runtime.NumGoroutine") = false := by kernel_rfl
theorem nm35 : (Try.f35.name == "runtime.NumGoroutine") = false := by kernel_rfl
theorem nm36 : (Try.f36.name == "runtime.NumGoroutine") = false := by kernel_rfl
theorem nm37 : (Try.f37.name == "runtime.NumGoroutine") = false := by kernel_rfl
theorem nm38 : (Try.f38.name == "runtime.NumGoroutine") = false := by kernel_rfl
theorem nm39 : (Try.f39.name == "runtime.NumGoroutine") = false := by kernel_rfl
theorem nm40 : (Try.f40.name == "runtime.NumGoroutine") = false := by kernel_rfl
theorem nm41 : (Try.f41.name == "runtime.NumGoroutine") = false := by kernel_rfl
theorem nm43 : (Try.f43.name == "runtime.NumGoroutine") = false := by kernel_rfl
theorem nm44 : (Try.f44.name == "runtime.NumGoroutine") = false := by kernel_rfl
theorem nm45 : (Try.f45.name == "runtime.NumGoroutine") = false := by kernel_rfl
theorem nm46 : (Try.f46.name == "runtime.NumGoroutine") = false := by kernel_rfl
theorem nm47 : (Try.f47.name == "runtime.NumGoroutine") = false := by kernel_rfl
theorem nm48 : (Try.f48.name == "runtime.NumGoroutine") = false := by kernel_rfl
theorem nm49 : (Try.f49.name == "runtime.NumGoroutine") = false := by kernel_rfl
theorem nm50 : (Try.f50.name == "runtime.NumGoroutine") = false := by kernel_rfl
theorem nm51 : (Try.f51.name == "runtime.NumGoroutine") = false := by kernel_rfl
theorem nm52 : (Try.f52.name == "runtime.NumGoroutine") = false := by kernel_rfl
theorem nm55 : (Try.f55.name == "runtime.NumGoroutine") = false := by kernel_rfl
theorem nm56 : (Try.f56.name == "runtime.NumGoroutine") = false := by kernel_rfl
theorem nm57 : (Try.f57.name == "runtime.NumGoroutine") = false := by kernel_rfl
theorem nm58 : (Try.f58.name == "runtime.NumGoroutine") = false := by kernel_rfl
theorem nm59 : (Try.f59.name == "runtime.NumGoroutine") = false := by kernel_rfl
theorem nm60 : (Try.f60.name == "runtime.NumGoroutine") = false := by kernel_rfl
theorem nm61 : (Try.f61.name == "runtime.NumGoroutine") = false := by kernel_rfl
theorem nm62 : (Try.f62.name == "runtime.NumGoroutine") = false := by kernel_rfl
theorem nm63 : (Try.f63.name == "runtime.NumGoroutine") = false := by kernel_rfl
theorem eg35 : Try.prog.eqGuardType Try.prog.depth 35 = false := by kernel_rfl
theorem eqs35 (a b : Range) (w : World) : (Op.equalIn (9999 + 1) 35 (.agg (List.toArray [(.int .i64 a.Lo), (.int .i64 a.Hi)])) (.agg (List.toArray [(.int .i64 b.Lo), (.int .i64 b.Hi)]))).run Try.prog w = .ok (decide (a = b)) w := by
  have u3 := Try.underlying3
  have a3 := Try.isAgg3
  have z3 := Try.sizeOf3
  have hS : Try.prog.underlying 35 = some (.struct (Try.prog.fieldsOf 35)) := by kernel_rfl
  have hp : Try.prog.stoodInHeld 35 = false := by kernel_rfl
  rw [run_equalIn_agg w 9999 35 _ _ hS hp]
  simp only [Program.fieldsOf, Try.underlying35]
  go_simp
  cases a; cases b; simp only [Range.mk.injEq]
  repeat' split
  all_goals simp_all
theorem eg61 : Try.prog.eqGuardType Try.prog.depth 61 = false := by kernel_rfl
theorem eqs61 (a b : LocateRest) (w : World) : (Op.equalIn (9999 + 1) 61 (.agg (List.toArray [(.int .i64 a.Modulus), (.int .i64 a.Rest)])) (.agg (List.toArray [(.int .i64 b.Modulus), (.int .i64 b.Rest)]))).run Try.prog w = .ok (decide (a = b)) w := by
  have u3 := Try.underlying3
  have a3 := Try.isAgg3
  have z3 := Try.sizeOf3
  have hS : Try.prog.underlying 61 = some (.struct (Try.prog.fieldsOf 61)) := by kernel_rfl
  have hp : Try.prog.stoodInHeld 61 = false := by kernel_rfl
  rw [run_equalIn_agg w 9999 61 _ _ hS hp]
  simp only [Program.fieldsOf, Try.underlying61]
  go_simp
  cases a; cases b; simp only [LocateRest.mk.injEq]
  repeat' split
  all_goals simp_all
theorem mixed : Try.prog.follows .mixedOrders = true := by kernel_rfl
end Go.Gw
