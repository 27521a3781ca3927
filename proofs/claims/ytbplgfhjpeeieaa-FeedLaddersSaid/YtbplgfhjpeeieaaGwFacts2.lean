/- More facts of the types of the program. No condition. -/
import Derived.Test.YtbplgfhjpeeieaaGwFacts
set_option linter.unusedVariables false
set_option linter.unusedSimpArgs false
set_option linter.unusedSectionVars false
set_option maxRecDepth 100000
namespace Go.Gw
open Go Go.Proofs
theorem sz4 : Xe Try.prog 4 1 := XK (by kernel_rfl)
theorem JR : Xe Try.prog 41 2 := XK (by kernel_rfl)
theorem JS : Xe Try.prog 73 4 := XK (by kernel_rfl)
theorem Qjo : Xe Try.prog 78 6 := XK (by kernel_rfl)
theorem QHf : Xe Try.prog 94 2 := XK (by kernel_rfl)
theorem Qax : Xe Try.prog 111 3 := XK (by kernel_rfl)
theorem Z0 : Xe Try.prog 149 3 := XK (by kernel_rfl)
theorem YG : Xe Try.prog 154 3 := XK (by kernel_rfl)
theorem sc4 : Ym Try.prog 4 := ⟨_, Try.underlying4, trivial⟩
theorem J2 : Aggr Try.prog 41 2 := Yn (by trivial) Try.underlying41 (by kernel_rfl)
theorem ZR : Aggr Try.prog 73 4 := Yn (by trivial) Try.underlying73 (by kernel_rfl)
theorem Qvh : Aggr Try.prog 76 2 := Yn (by trivial) Try.underlying76 (by kernel_rfl)
theorem Qbm : Aggr Try.prog 78 6 := Yn (by trivial) Try.underlying78 (by kernel_rfl)
theorem Zn : Aggr Try.prog 94 2 := Yn (by trivial) Try.underlying94 (by kernel_rfl)
theorem Qfo : Aggr Try.prog 111 3 := Yn (by trivial) Try.underlying111 (by kernel_rfl)
theorem Qki : Aggr Try.prog 145 3 := Yn (by trivial) Try.underlying145 (by kernel_rfl)
theorem Yb : Aggr Try.prog 149 3 := Yn (by trivial) Try.underlying149 (by kernel_rfl)
theorem X8 : Aggr Try.prog 154 3 := Yn (by trivial) Try.underlying154 (by kernel_rfl)
theorem ei9 : EInfo Try.prog 9 1 16 (.string ByteArray.empty) := Zq (by kernel_rfl) rfl (by decide)
theorem X3 : EInfo Try.prog 158 5 64 (.agg (List.toArray [(.string ByteArray.empty), (.int .i64 0), (.int .i64 0), (.slice none 0 0), (.int .i64 0)])) := Zq (by kernel_rfl) rfl (by decide)
theorem J4 : BI Try.prog 41 [(0, 1), (1, 1)] [(.int .i64 0), (.int .i64 0)] := Yo Try.underlying41 (by kernel_rfl) (by kernel_rfl)
theorem Jz : BI Try.prog 62 [(0, 1), (1, 1)] [(.string ByteArray.empty), (.int .i64 0)] := Yo Try.underlying62 (by kernel_rfl) (by kernel_rfl)
theorem Qwa : BI Try.prog 76 [(0, 1), (1, 1)] [(.int .i64 0), (.int .i64 0)] := Yo Try.underlying76 (by kernel_rfl) (by kernel_rfl)
theorem Qkw : BI Try.prog 78 [(0, 1), (1, 1), (2, 1), (3, 1), (4, 1), (5, 1)] [(.int .i64 0), (.int .i64 0), (.int .i64 0), (.int .i64 0), (.int .i64 0), (.int .i64 0)] := Yo Try.underlying78 (by kernel_rfl) (by kernel_rfl)
theorem Qkx : BI Try.prog 94 [(0, 1), (1, 1)] [(.slice none 0 0), (.slice none 0 0)] := Yo Try.underlying94 (by kernel_rfl) (by kernel_rfl)
theorem Qfy : BI Try.prog 111 [(0, 1), (1, 1), (2, 1)] [(.int .i64 0), (.int .i64 0), (.int .i64 0)] := Yo Try.underlying111 (by kernel_rfl) (by kernel_rfl)
theorem Qvx : BI Try.prog 149 [(0, 3)] [(.slice none 0 0), (.slice none 0 0), (.slice none 0 0)] := Yo Try.underlying149 (by kernel_rfl) (by kernel_rfl)
theorem Qvy : BI Try.prog 154 [(0, 1), (1, 1), (2, 1)] [(.slice none 0 0), (.int .i64 0), (.bool false)] := Yo Try.underlying154 (by kernel_rfl) (by kernel_rfl)
theorem Qfz : BI Try.prog 158 [(0, 4), (4, 1)] [(.string ByteArray.empty), (.int .i64 0), (.int .i64 0), (.slice none 0 0), (.int .i64 0)] := Yo Try.underlying158 (by kernel_rfl) (by kernel_rfl)
theorem Qux : ZI Try.prog 41 [(.int .i64 0), (.int .i64 0)] := Yg (by kernel_rfl)
theorem QJh : ZI Try.prog 62 [(.string ByteArray.empty), (.int .i64 0)] := Yg (by kernel_rfl)
theorem Qka : ZI Try.prog 73 [(.int .i64 0), (.int .i64 0), (.int .i64 0), (.int .i64 0)] := Yg (by kernel_rfl)
theorem Qkb : ZI Try.prog 78 [(.int .i64 0), (.int .i64 0), (.int .i64 0), (.int .i64 0), (.int .i64 0), (.int .i64 0)] := Yg (by kernel_rfl)
theorem QJi : ZI Try.prog 94 [(.slice none 0 0), (.slice none 0 0)] := Yg (by kernel_rfl)
theorem Qjy : ZI Try.prog 111 [(.int .i64 0), (.int .i64 0), (.int .i64 0)] := Yg (by kernel_rfl)
theorem Qjz : ZI Try.prog 127 [(.string ByteArray.empty), (.int .i64 0), (.int .i64 0), (.slice none 0 0)] := Yg (by kernel_rfl)
theorem Quw : ZI Try.prog 145 [(.string ByteArray.empty), (.int .i64 0), (.bool false)] := Yg (by kernel_rfl)
theorem Js : ZI Try.prog 149 [(.slice none 0 0), (.slice none 0 0), (.slice none 0 0)] := Yg (by kernel_rfl)
theorem Z1 : ZI Try.prog 154 [(.slice none 0 0), (.int .i64 0), (.bool false)] := Yg (by kernel_rfl)
theorem Z3 : ZI Try.prog 158 [(.string ByteArray.empty), (.int .i64 0), (.int .i64 0), (.slice none 0 0), (.int .i64 0)] := Yg (by kernel_rfl)
theorem QDi : (Try.f19.name == "runtime.NumGoroutine") = false := by kernel_rfl
theorem QDj : (Try.f22.name == "runtime.NumGoroutine") = false := by kernel_rfl
theorem QDk : (Try.f27.name == "runtime.NumGoroutine") = false := by kernel_rfl
theorem QDl : (Try.f30.name == "runtime.NumGoroutine") = false := by kernel_rfl
theorem QDm : (Try.f35.name == "runtime.NumGoroutine") = false := by kernel_rfl
theorem Qra : (Try.f39.name == "runtime.NumGoroutine") = false := by kernel_rfl
theorem QDn : (Try.f41.name == "runtime.NumGoroutine") = false := by kernel_rfl
theorem QDo : (Try.f47.name == "runtime.NumGoroutine") = false := by kernel_rfl
theorem QDp : (Try.f48.name == "runtime.NumGoroutine") = false := by kernel_rfl
theorem Qrb : (Try.f54.name == "runtime.NumGoroutine") = false := by kernel_rfl
theorem Qrc : (Try.f55.name == "runtime.NumGoroutine") = false := by kernel_rfl
theorem QDq : (Try.f56.name == "runtime.NumGoroutine") = false := by kernel_rfl
theorem QDr : (Try.f57.name == "runtime.NumGoroutine") = false := by kernel_rfl
theorem QDs : (Try.f58.name == "runtime.NumGoroutine") = false := by kernel_rfl
theorem QDt : (Try.f59.name == "runtime.NumGoroutine") = false := by kernel_rfl
theorem Qik : (Try.f60.name == "runtime.NumGoroutine") = false := by kernel_rfl
theorem QDu : (Try.f61.name == "runtime.NumGoroutine") = false := by kernel_rfl
theorem Qrd : (Try.f62.name == "runtime.NumGoroutine") = false := by kernel_rfl
theorem Qdt : (Try.f83.name == "runtime.NumGoroutine") = false := by kernel_rfl
theorem Qil : (Try.f84.name == "runtime.NumGoroutine") = false := by kernel_rfl
theorem Qre : (Try.f85.name == "runtime.NumGoroutine") = false := by kernel_rfl
theorem QDv : (Try.f86.name == "runtime.NumGoroutine") = false := by kernel_rfl
theorem JM : (Try.f87.name == "runtime.NumGoroutine") = false := by kernel_rfl
theorem Qal : (Try.f89.name == "runtime.NumGoroutine") = false := by kernel_rfl
theorem Qrf : (Try.f94.name == "runtime.NumGoroutine") = false := by kernel_rfl
theorem QDw : (Try.f96.name == "runtime.NumGoroutine") = false := by kernel_rfl
theorem QDx : (Try.f97.name == "runtime.NumGoroutine") = false := by kernel_rfl
theorem QDy : (Try.f98.name == "runtime.NumGoroutine") = false := by kernel_rfl
theorem Qif : (Try.f102.name == "runtime.NumGoroutine") = false := by kernel_rfl
theorem QCo : (Try.f103.name == "runtime.NumGoroutine") = false := by kernel_rfl
theorem Qig : (Try.f107.name == "runtime.NumGoroutine") = false := by kernel_rfl
theorem Qqi : (Try.f108.name == "runtime.NumGoroutine") = false := by kernel_rfl
theorem Qqj : (Try.f109.name == "runtime.NumGoroutine") = false := by kernel_rfl
theorem Qih : (Try.f111.name == "runtime.NumGoroutine") = false := by kernel_rfl
theorem QCp : (Try.f115.name == "runtime.NumGoroutine") = false := by kernel_rfl
theorem Qqk : (Try.f116.name == "runtime.NumGoroutine") = false := by kernel_rfl
theorem Qql : (Try.f117.name == "runtime.NumGoroutine") = false := by kernel_rfl
theorem Qqm : (Try.f118.name == "runtime.NumGoroutine") = false := by kernel_rfl
theorem Qqn : (Try.f123.name == "runtime.NumGoroutine") = false := by kernel_rfl
theorem Qqo : (Try.f124.name == "runtime.NumGoroutine") = false := by kernel_rfl
theorem Qqp : (Try.f125.name == "runtime.NumGoroutine") = false := by kernel_rfl
theorem QCq : (Try.f127.name == "runtime.NumGoroutine") = false := by kernel_rfl
theorem QCr : (Try.f128.name == "runtime.NumGoroutine") = false := by kernel_rfl
theorem QCs : (Try.f129.name == "runtime.NumGoroutine") = false := by kernel_rfl
theorem QCt : (Try.f130.name == "runtime.NumGoroutine") = false := by kernel_rfl
theorem Qqq : (Try.f132.name == "runtime.NumGoroutine") = false := by kernel_rfl
theorem Qqr : (Try.f140.name == "runtime.NumGoroutine") = false := by kernel_rfl
theorem Qqs : (Try.f142.name == "runtime.NumGoroutine") = false := by kernel_rfl
theorem Qqt : (Try.f145.name == "runtime.NumGoroutine") = false := by kernel_rfl
theorem Qij : (Try.f146.name == "runtime.NumGoroutine") = false := by kernel_rfl
theorem QCy : (Try.f147.name == "runtime.NumGoroutine") = false := by kernel_rfl
theorem QCz : (Try.f148.name == "runtime.NumGoroutine") = false := by kernel_rfl
theorem Qqu : (Try.f150.name == "runtime.NumGoroutine") = false := by kernel_rfl
theorem Qqv : (Try.f153.name == "runtime.NumGoroutine") = false := by kernel_rfl
theorem Qqw : (Try.f154.name == "runtime.NumGoroutine") = false := by kernel_rfl
theorem QDd : (Try.f155.name == "runtime.NumGoroutine") = false := by kernel_rfl
theorem QDe : (Try.f156.name == "runtime.NumGoroutine") = false := by kernel_rfl
theorem Qxb : Try.prog.eqGuardType Try.prog.depth 62 = false := by kernel_rfl
theorem Qxi (a b : FeedDeparture) : EqS Try.prog 62 (List.toArray [(.string a.Train), (.int .i64 a.At)]) (List.toArray [(.string b.Train), (.int .i64 b.At)]) (decide (a = b)) := by
  refine ⟨fun c hc => by
    simp at hc
    repeat' (rcases hc with rfl | hc)
    all_goals simp_all [ZW], fun w => ?_⟩
  have u3 := Try.underlying3
  have a3 := Try.isAgg3
  have z3 := Try.sizeOf3
  have u9 := Try.underlying9
  have a9 := Try.isAgg9
  have z9 := Try.sizeOf9
  have hS : Try.prog.underlying 62 = some (.struct (Try.prog.fieldsOf 62)) := by kernel_rfl
  have hp : Try.prog.stoodInHeld 62 = false := by kernel_rfl
  rw [run_equalIn_agg w 9999 62 _ _ hS hp]
  simp only [Program.fieldsOf, Try.underlying62]
  go_simp
  cases a; cases b; simp only [FeedDeparture.mk.injEq]
  repeat' split
  all_goals simp_all [Qga]
theorem Qxc : Try.prog.eqGuardType Try.prog.depth 78 = false := by kernel_rfl
theorem Qxj (a b : FeedBook) : EqS Try.prog 78 (List.toArray [(.int .i64 a.Fed), (.int .i64 a.Used), (.int .i64 a.Braked), (.int .i64 a.Lost), (.int .i64 a.Back), (.int .i64 a.Burned)]) (List.toArray [(.int .i64 b.Fed), (.int .i64 b.Used), (.int .i64 b.Braked), (.int .i64 b.Lost), (.int .i64 b.Back), (.int .i64 b.Burned)]) (decide (a = b)) := by
  refine ⟨fun c hc => by
    simp at hc
    repeat' (rcases hc with rfl | hc)
    all_goals simp_all [ZW], fun w => ?_⟩
  have u3 := Try.underlying3
  have a3 := Try.isAgg3
  have z3 := Try.sizeOf3
  have hS : Try.prog.underlying 78 = some (.struct (Try.prog.fieldsOf 78)) := by kernel_rfl
  have hp : Try.prog.stoodInHeld 78 = false := by kernel_rfl
  rw [run_equalIn_agg w 9999 78 _ _ hS hp]
  simp only [Program.fieldsOf, Try.underlying78]
  go_simp
  cases a; cases b; simp only [FeedBook.mk.injEq]
  repeat' split
  all_goals simp_all [Qga]
theorem Qlt : Try.prog.eqGuardType Try.prog.depth 107 = false := by kernel_rfl
theorem Qlv (a b : Frac) : EqS Try.prog 107 (List.toArray [(.int .i64 a.Num), (.int .i64 a.Den)]) (List.toArray [(.int .i64 b.Num), (.int .i64 b.Den)]) (decide (a = b)) := by
  refine ⟨fun c hc => by
    simp at hc
    repeat' (rcases hc with rfl | hc)
    all_goals simp_all [ZW], fun w => ?_⟩
  have u3 := Try.underlying3
  have a3 := Try.isAgg3
  have z3 := Try.sizeOf3
  have hS : Try.prog.underlying 107 = some (.struct (Try.prog.fieldsOf 107)) := by kernel_rfl
  have hp : Try.prog.stoodInHeld 107 = false := by kernel_rfl
  rw [run_equalIn_agg w 9999 107 _ _ hS hp]
  simp only [Program.fieldsOf, Try.underlying107]
  go_simp
  cases a; cases b; simp only [Frac.mk.injEq]
  repeat' split
  all_goals simp_all [Qga]
end Go.Gw
