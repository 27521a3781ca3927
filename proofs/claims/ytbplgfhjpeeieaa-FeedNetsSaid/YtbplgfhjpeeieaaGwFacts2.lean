/- More facts of the types of the program. No condition. -/
import Derived.Test.YtbplgfhjpeeieaaGwFacts
set_option linter.unusedVariables false
set_option linter.unusedSimpArgs false
set_option linter.unusedSectionVars false
set_option maxRecDepth 100000
namespace Go.Gw
open Go Go.Proofs
theorem sz4 : Xy Try.prog 4 1 := X8 (by kernel_rfl)
theorem Yt : Xy Try.prog 41 2 := X8 (by kernel_rfl)
theorem JT : Xy Try.prog 73 4 := X8 (by kernel_rfl)
theorem Qkk : Xy Try.prog 78 6 := X8 (by kernel_rfl)
theorem Qce : Xy Try.prog 111 3 := X8 (by kernel_rfl)
theorem Jg : Xy Try.prog 149 3 := X8 (by kernel_rfl)
theorem Y3 : Xy Try.prog 154 3 := X8 (by kernel_rfl)
theorem sc4 : YQ Try.prog 4 := ⟨_, Try.underlying4, trivial⟩
theorem X0 : Aggr Try.prog 41 2 := YR (by trivial) Try.underlying41 (by kernel_rfl)
theorem Z4 : Aggr Try.prog 73 4 := YR (by trivial) Try.underlying73 (by kernel_rfl)
theorem Qvh : Aggr Try.prog 76 2 := YR (by trivial) Try.underlying76 (by kernel_rfl)
theorem Qcp : Aggr Try.prog 78 6 := YR (by trivial) Try.underlying78 (by kernel_rfl)
theorem Qla : Aggr Try.prog 94 2 := YR (by trivial) Try.underlying94 (by kernel_rfl)
theorem Qgn : Aggr Try.prog 111 3 := YR (by trivial) Try.underlying111 (by kernel_rfl)
theorem Qkz : Aggr Try.prog 145 3 := YR (by trivial) Try.underlying145 (by kernel_rfl)
theorem YA : Aggr Try.prog 149 3 := YR (by trivial) Try.underlying149 (by kernel_rfl)
theorem YB : Aggr Try.prog 154 3 := YR (by trivial) Try.underlying154 (by kernel_rfl)
theorem ei9 : EInfo Try.prog 9 1 16 (.string ByteArray.empty) := ZN (by kernel_rfl) rfl (by decide)
theorem Yx : EInfo Try.prog 158 5 64 (.agg (List.toArray [(.string ByteArray.empty), (.int .i64 0), (.int .i64 0), (.slice none 0 0), (.int .i64 0)])) := ZN (by kernel_rfl) rfl (by decide)
theorem Z6 : BI Try.prog 41 [(0, 1), (1, 1)] [(.int .i64 0), (.int .i64 0)] := YS Try.underlying41 (by kernel_rfl) (by kernel_rfl)
theorem J0 : BI Try.prog 62 [(0, 1), (1, 1)] [(.string ByteArray.empty), (.int .i64 0)] := YS Try.underlying62 (by kernel_rfl) (by kernel_rfl)
theorem Qvw : BI Try.prog 76 [(0, 1), (1, 1)] [(.int .i64 0), (.int .i64 0)] := YS Try.underlying76 (by kernel_rfl) (by kernel_rfl)
theorem Qlq : BI Try.prog 78 [(0, 1), (1, 1), (2, 1), (3, 1), (4, 1), (5, 1)] [(.int .i64 0), (.int .i64 0), (.int .i64 0), (.int .i64 0), (.int .i64 0), (.int .i64 0)] := YS Try.underlying78 (by kernel_rfl) (by kernel_rfl)
theorem Qvx : BI Try.prog 94 [(0, 1), (1, 1)] [(.slice none 0 0), (.slice none 0 0)] := YS Try.underlying94 (by kernel_rfl) (by kernel_rfl)
theorem Qgx : BI Try.prog 111 [(0, 1), (1, 1), (2, 1)] [(.int .i64 0), (.int .i64 0), (.int .i64 0)] := YS Try.underlying111 (by kernel_rfl) (by kernel_rfl)
theorem Qvu : BI Try.prog 149 [(0, 3)] [(.slice none 0 0), (.slice none 0 0), (.slice none 0 0)] := YS Try.underlying149 (by kernel_rfl) (by kernel_rfl)
theorem Qvv : BI Try.prog 154 [(0, 1), (1, 1), (2, 1)] [(.slice none 0 0), (.int .i64 0), (.bool false)] := YS Try.underlying154 (by kernel_rfl) (by kernel_rfl)
theorem Qgy : BI Try.prog 158 [(0, 4), (4, 1)] [(.string ByteArray.empty), (.int .i64 0), (.int .i64 0), (.slice none 0 0), (.int .i64 0)] := YS Try.underlying158 (by kernel_rfl) (by kernel_rfl)
theorem JH : ZI Try.prog 41 [(.int .i64 0), (.int .i64 0)] := YP (by kernel_rfl)
theorem QKd : ZI Try.prog 62 [(.string ByteArray.empty), (.int .i64 0)] := YP (by kernel_rfl)
theorem Qkt : ZI Try.prog 73 [(.int .i64 0), (.int .i64 0), (.int .i64 0), (.int .i64 0)] := YP (by kernel_rfl)
theorem Qku : ZI Try.prog 78 [(.int .i64 0), (.int .i64 0), (.int .i64 0), (.int .i64 0), (.int .i64 0), (.int .i64 0)] := YP (by kernel_rfl)
theorem Qks : ZI Try.prog 111 [(.int .i64 0), (.int .i64 0), (.int .i64 0)] := YP (by kernel_rfl)
theorem Qgd : ZI Try.prog 127 [(.string ByteArray.empty), (.int .i64 0), (.int .i64 0), (.slice none 0 0)] := YP (by kernel_rfl)
theorem Quz : ZI Try.prog 145 [(.string ByteArray.empty), (.int .i64 0), (.bool false)] := YP (by kernel_rfl)
theorem JE : ZI Try.prog 149 [(.slice none 0 0), (.slice none 0 0), (.slice none 0 0)] := YP (by kernel_rfl)
theorem JF : ZI Try.prog 154 [(.slice none 0 0), (.int .i64 0), (.bool false)] := YP (by kernel_rfl)
theorem JG : ZI Try.prog 158 [(.string ByteArray.empty), (.int .i64 0), (.int .i64 0), (.slice none 0 0), (.int .i64 0)] := YP (by kernel_rfl)
theorem QDs : (Try.f19.name == "runtime.NumGoroutine") = false := by kernel_rfl
theorem QDt : (Try.f20.name == "runtime.NumGoroutine") = false := by kernel_rfl
theorem QDu : (Try.f22.name == "runtime.NumGoroutine") = false := by kernel_rfl
theorem Qrd : (Try.f23.name == "runtime.NumGoroutine") = false := by kernel_rfl
theorem QDv : (Try.f27.name == "runtime.NumGoroutine") = false := by kernel_rfl
theorem QDw : (Try.f29.name == "runtime.NumGoroutine") = false := by kernel_rfl
theorem Qre : (Try.f30.name == "runtime.NumGoroutine") = false := by kernel_rfl
theorem QDx : (Try.f31.name == "runtime.NumGoroutine") = false := by kernel_rfl
theorem QDy : (Try.f32.name == "runtime.NumGoroutine") = false := by kernel_rfl
theorem QDz : (Try.f33.name == "runtime.NumGoroutine") = false := by kernel_rfl
theorem QEa : (Try.f34.name == "runtime.NumGoroutine") = false := by kernel_rfl
theorem QEb : (Try.f35.name == "runtime.NumGoroutine") = false := by kernel_rfl
theorem Qrf : (Try.f39.name == "runtime.NumGoroutine") = false := by kernel_rfl
theorem QEc : (Try.f41.name == "runtime.NumGoroutine") = false := by kernel_rfl
theorem QEd : (Try.f48.name == "runtime.NumGoroutine") = false := by kernel_rfl
theorem QEe : (Try.f54.name == "runtime.NumGoroutine") = false := by kernel_rfl
theorem QEf : (Try.f60.name == "runtime.NumGoroutine") = false := by kernel_rfl
theorem Qek : (Try.f83.name == "runtime.NumGoroutine") = false := by kernel_rfl
theorem Qjk : (Try.f84.name == "runtime.NumGoroutine") = false := by kernel_rfl
theorem Qjl : (Try.f85.name == "runtime.NumGoroutine") = false := by kernel_rfl
theorem QEg : (Try.f86.name == "runtime.NumGoroutine") = false := by kernel_rfl
theorem Qad : (Try.f87.name == "runtime.NumGoroutine") = false := by kernel_rfl
theorem Qbs : (Try.f89.name == "runtime.NumGoroutine") = false := by kernel_rfl
theorem Qrg : (Try.f91.name == "runtime.NumGoroutine") = false := by kernel_rfl
theorem Qrh : (Try.f94.name == "runtime.NumGoroutine") = false := by kernel_rfl
theorem QEh : (Try.f96.name == "runtime.NumGoroutine") = false := by kernel_rfl
theorem QEi : (Try.f97.name == "runtime.NumGoroutine") = false := by kernel_rfl
theorem Qri : (Try.f98.name == "runtime.NumGoroutine") = false := by kernel_rfl
theorem Qrj : (Try.f99.name == "runtime.NumGoroutine") = false := by kernel_rfl
theorem QCw : (Try.f100.name == "runtime.NumGoroutine") = false := by kernel_rfl
theorem QCx : (Try.f101.name == "runtime.NumGoroutine") = false := by kernel_rfl
theorem Qjh : (Try.f102.name == "runtime.NumGoroutine") = false := by kernel_rfl
theorem QCy : (Try.f103.name == "runtime.NumGoroutine") = false := by kernel_rfl
theorem Qji : (Try.f107.name == "runtime.NumGoroutine") = false := by kernel_rfl
theorem Qqn : (Try.f108.name == "runtime.NumGoroutine") = false := by kernel_rfl
theorem Qqo : (Try.f109.name == "runtime.NumGoroutine") = false := by kernel_rfl
theorem QDa : (Try.f115.name == "runtime.NumGoroutine") = false := by kernel_rfl
theorem Qqp : (Try.f116.name == "runtime.NumGoroutine") = false := by kernel_rfl
theorem Qqq : (Try.f117.name == "runtime.NumGoroutine") = false := by kernel_rfl
theorem Qqr : (Try.f118.name == "runtime.NumGoroutine") = false := by kernel_rfl
theorem QDb : (Try.f123.name == "runtime.NumGoroutine") = false := by kernel_rfl
theorem QDc : (Try.f124.name == "runtime.NumGoroutine") = false := by kernel_rfl
theorem QDd : (Try.f125.name == "runtime.NumGoroutine") = false := by kernel_rfl
theorem Qqt : (Try.f132.name == "runtime.NumGoroutine") = false := by kernel_rfl
theorem Qqv : (Try.f140.name == "runtime.NumGoroutine") = false := by kernel_rfl
theorem Qqw : (Try.f142.name == "runtime.NumGoroutine") = false := by kernel_rfl
theorem Qqx : (Try.f145.name == "runtime.NumGoroutine") = false := by kernel_rfl
theorem Qjj : (Try.f146.name == "runtime.NumGoroutine") = false := by kernel_rfl
theorem QDi : (Try.f147.name == "runtime.NumGoroutine") = false := by kernel_rfl
theorem QDj : (Try.f148.name == "runtime.NumGoroutine") = false := by kernel_rfl
theorem Qqy : (Try.f150.name == "runtime.NumGoroutine") = false := by kernel_rfl
theorem Qqz : (Try.f154.name == "runtime.NumGoroutine") = false := by kernel_rfl
theorem QDn : (Try.f155.name == "runtime.NumGoroutine") = false := by kernel_rfl
theorem QDo : (Try.f156.name == "runtime.NumGoroutine") = false := by kernel_rfl
theorem Qwx : Try.prog.eqGuardType Try.prog.depth 41 = false := by kernel_rfl
theorem Qxd (a b : FeedMark) : EqS Try.prog 41 (List.toArray [(.int .i64 a.List), (.int .i64 a.Number)]) (List.toArray [(.int .i64 b.List), (.int .i64 b.Number)]) (decide (a = b)) := by
  refine ⟨fun c hc => by
    simp at hc
    repeat' (rcases hc with rfl | hc)
    all_goals simp_all [Z9], fun w => ?_⟩
  have u3 := Try.underlying3
  have a3 := Try.isAgg3
  have z3 := Try.sizeOf3
  have hS : Try.prog.underlying 41 = some (.struct (Try.prog.fieldsOf 41)) := by kernel_rfl
  have hp : Try.prog.stoodInHeld 41 = false := by kernel_rfl
  rw [run_equalIn_agg w 9999 41 _ _ hS hp]
  simp only [Program.fieldsOf, Try.underlying41]
  go_simp
  cases a; cases b; simp only [FeedMark.mk.injEq]
  repeat' split
  all_goals simp_all [Qcx]
theorem Qwy : Try.prog.eqGuardType Try.prog.depth 62 = false := by kernel_rfl
theorem Qxe (a b : FeedDeparture) : EqS Try.prog 62 (List.toArray [(.string a.Train), (.int .i64 a.At)]) (List.toArray [(.string b.Train), (.int .i64 b.At)]) (decide (a = b)) := by
  refine ⟨fun c hc => by
    simp at hc
    repeat' (rcases hc with rfl | hc)
    all_goals simp_all [Z9], fun w => ?_⟩
  have u3 := Try.underlying3
  have a3 := Try.isAgg3
  have z3 := Try.sizeOf3
  have u9 := Try.underlying9
  have a9 := Try.isAgg9
  have z9 := Try.sizeOf9
  have hS : Try.prog.underlying 62 = some (.struct (Try.prog.fieldsOf 62)) := by kernel_rfl
  have hp : Try.prog.stoodInHeld 62 = false := by kernel_rfl
  rw [run_equalIn_agg w 9999 62 _ _ hS hp]
  simp only [Program.fieldsOf, Try.underlying62]
  go_simp
  cases a; cases b; simp only [FeedDeparture.mk.injEq]
  repeat' split
  all_goals simp_all [Qcx]
theorem Qwz : Try.prog.eqGuardType Try.prog.depth 78 = false := by kernel_rfl
theorem Qxf (a b : FeedBook) : EqS Try.prog 78 (List.toArray [(.int .i64 a.Fed), (.int .i64 a.Used), (.int .i64 a.Braked), (.int .i64 a.Lost), (.int .i64 a.Back), (.int .i64 a.Burned)]) (List.toArray [(.int .i64 b.Fed), (.int .i64 b.Used), (.int .i64 b.Braked), (.int .i64 b.Lost), (.int .i64 b.Back), (.int .i64 b.Burned)]) (decide (a = b)) := by
  refine ⟨fun c hc => by
    simp at hc
    repeat' (rcases hc with rfl | hc)
    all_goals simp_all [Z9], fun w => ?_⟩
  have u3 := Try.underlying3
  have a3 := Try.isAgg3
  have z3 := Try.sizeOf3
  have hS : Try.prog.underlying 78 = some (.struct (Try.prog.fieldsOf 78)) := by kernel_rfl
  have hp : Try.prog.stoodInHeld 78 = false := by kernel_rfl
  rw [run_equalIn_agg w 9999 78 _ _ hS hp]
  simp only [Program.fieldsOf, Try.underlying78]
  go_simp
  cases a; cases b; simp only [FeedBook.mk.injEq]
  repeat' split
  all_goals simp_all [Qcx]
theorem Qww : Try.prog.eqGuardType Try.prog.depth 107 = false := by kernel_rfl
theorem Qxc (a b : Frac) : EqS Try.prog 107 (List.toArray [(.int .i64 a.Num), (.int .i64 a.Den)]) (List.toArray [(.int .i64 b.Num), (.int .i64 b.Den)]) (decide (a = b)) := by
  refine ⟨fun c hc => by
    simp at hc
    repeat' (rcases hc with rfl | hc)
    all_goals simp_all [Z9], fun w => ?_⟩
  have u3 := Try.underlying3
  have a3 := Try.isAgg3
  have z3 := Try.sizeOf3
  have hS : Try.prog.underlying 107 = some (.struct (Try.prog.fieldsOf 107)) := by kernel_rfl
  have hp : Try.prog.stoodInHeld 107 = false := by kernel_rfl
  rw [run_equalIn_agg w 9999 107 _ _ hS hp]
  simp only [Program.fieldsOf, Try.underlying107]
  go_simp
  cases a; cases b; simp only [Frac.mk.injEq]
  repeat' split
  all_goals simp_all [Qcx]
end Go.Gw
