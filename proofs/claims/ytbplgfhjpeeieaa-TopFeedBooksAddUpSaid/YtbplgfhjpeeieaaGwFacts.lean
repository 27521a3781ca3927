/- Facts of the types of the program. No condition. -/
import Derived.Test.YtbplgfhjpeeieaaGwSt
import Derived.Test.YtbplgfhjpeeieaaGwPlan
import Derived.Laws.StructEq
import Derived.Test.YtbplgfhjpeeieaaProg
set_option linter.unusedVariables false
set_option linter.unusedSimpArgs false
set_option linter.unusedSectionVars false
set_option maxRecDepth 100000
namespace Go.Gw
open Go Go.Proofs
abbrev numgo : String := "runtime.NumGoroutine"
theorem QI : Xt Try.prog 3 1 := Yr (by kernel_rfl)
theorem sz4 : Xt Try.prog 4 1 := Yr (by kernel_rfl)
theorem sz5 : Xt Try.prog 5 1 := Yr (by kernel_rfl)
theorem YU : Xt Try.prog 9 1 := Yr (by kernel_rfl)
theorem Zh : Xt Try.prog 22 1 := Yr (by kernel_rfl)
theorem Z8 : Xt Try.prog 23 1 := Yr (by kernel_rfl)
theorem X3 : Xt Try.prog 24 1 := Yr (by kernel_rfl)
theorem X9 : Xt Try.prog 26 3 := Yr (by kernel_rfl)
theorem QNv : Xt Try.prog 30 1 := Yr (by kernel_rfl)
theorem Y5 : Xt Try.prog 41 2 := Yr (by kernel_rfl)
theorem Qeo : Xt Try.prog 52 1 := Yr (by kernel_rfl)
theorem JU : Xt Try.prog 62 2 := Yr (by kernel_rfl)
theorem Qda : Xt Try.prog 73 4 := Yr (by kernel_rfl)
theorem Ys : Xt Try.prog 78 6 := Yr (by kernel_rfl)
theorem Qbw : Xt Try.prog 111 3 := Yr (by kernel_rfl)
theorem Z6 : Xt Try.prog 125 1 := Yr (by kernel_rfl)
theorem YN : Xt Try.prog 127 4 := Yr (by kernel_rfl)
theorem Qai : Xt Try.prog 145 3 := Yr (by kernel_rfl)
theorem Qcz : Xt Try.prog 149 3 := Yr (by kernel_rfl)
theorem Z7 : Xt Try.prog 154 3 := Yr (by kernel_rfl)
theorem Y4 : Xt Try.prog 158 5 := Yr (by kernel_rfl)
theorem Qbd : Xt Try.prog 185 2 := Yr (by kernel_rfl)
theorem QG : Zk Try.prog 3 := ⟨_, Try.underlying3, trivial⟩
theorem sc4 : Zk Try.prog 4 := ⟨_, Try.underlying4, trivial⟩
theorem sc5 : Zk Try.prog 5 := ⟨_, Try.underlying5, trivial⟩
theorem YM : Zk Try.prog 9 := ⟨_, Try.underlying9, trivial⟩
theorem Zf : Zk Try.prog 22 := ⟨_, Try.underlying22, trivial⟩
theorem Z3 : Zk Try.prog 23 := ⟨_, Try.underlying23, trivial⟩
theorem Yc : Zk Try.prog 24 := ⟨_, Try.underlying24, trivial⟩
theorem QLt : Zk Try.prog 30 := ⟨_, Try.underlying30, trivial⟩
theorem Qkf : Zk Try.prog 52 := ⟨_, Try.underlying52, trivial⟩
theorem JC : Zk Try.prog 125 := ⟨_, Try.underlying125, trivial⟩
theorem Yt : Aggr Try.prog 26 3 := ZU (by trivial) Try.underlying26 (by kernel_rfl)
theorem YC : Aggr Try.prog 41 2 := ZU (by trivial) Try.underlying41 (by kernel_rfl)
theorem Qlv : Aggr Try.prog 62 2 := ZU (by trivial) Try.underlying62 (by kernel_rfl)
theorem Qas : Aggr Try.prog 73 4 := ZU (by trivial) Try.underlying73 (by kernel_rfl)
theorem Qzu : Aggr Try.prog 76 2 := ZU (by trivial) Try.underlying76 (by kernel_rfl)
theorem X6 : Aggr Try.prog 78 6 := ZU (by trivial) Try.underlying78 (by kernel_rfl)
theorem Qdi : Aggr Try.prog 111 3 := ZU (by trivial) Try.underlying111 (by kernel_rfl)
theorem Jv : Aggr Try.prog 127 4 := ZU (by trivial) Try.underlying127 (by kernel_rfl)
theorem Qpo : Aggr Try.prog 145 3 := ZU (by trivial) Try.underlying145 (by kernel_rfl)
theorem ZB : Aggr Try.prog 149 3 := ZU (by trivial) Try.underlying149 (by kernel_rfl)
theorem Zb : Aggr Try.prog 154 3 := ZU (by trivial) Try.underlying154 (by kernel_rfl)
theorem Zl : Aggr Try.prog 158 5 := ZU (by trivial) Try.underlying158 (by kernel_rfl)
theorem Qhq : Aggr Try.prog 185 2 := ZU (by trivial) Try.underlying185 (by kernel_rfl)
theorem ei3 : EInfo Try.prog 3 1 8 (.int .i64 0) := Qav (by kernel_rfl) rfl (by decide)
theorem ei9 : EInfo Try.prog 9 1 16 (.string ByteArray.empty) := Qav (by kernel_rfl) rfl (by decide)
theorem J0 : EInfo Try.prog 30 1 8 (.int .i64 0) := Qav (by kernel_rfl) rfl (by decide)
theorem J1 : EInfo Try.prog 62 2 24 (.agg (List.toArray [(.string ByteArray.empty), (.int .i64 0)])) := Qav (by kernel_rfl) rfl (by decide)
theorem Yw : EInfo Try.prog 73 4 32 (.agg (List.toArray [(.int .i64 0), (.int .i64 0), (.int .i64 0), (.int .i64 0)])) := Qav (by kernel_rfl) rfl (by decide)
theorem Qmn : EInfo Try.prog 127 4 56 (.agg (List.toArray [(.string ByteArray.empty), (.int .i64 0), (.int .i64 0), (.slice none 0 0)])) := Qav (by kernel_rfl) rfl (by decide)
theorem Zw : EInfo Try.prog 145 3 32 (.agg (List.toArray [(.string ByteArray.empty), (.int .i64 0), (.bool false)])) := Qav (by kernel_rfl) rfl (by decide)
theorem Qbl : EInfo Try.prog 158 5 64 (.agg (List.toArray [(.string ByteArray.empty), (.int .i64 0), (.int .i64 0), (.slice none 0 0), (.int .i64 0)])) := Qav (by kernel_rfl) rfl (by decide)
theorem Qik : EInfo Try.prog 185 2 16 (.agg (List.toArray [(.int .i64 0), (.int .i64 0)])) := Qav (by kernel_rfl) rfl (by decide)
theorem ZC : BI Try.prog 26 [(0, 1), (1, 1), (2, 1)] [(.slice none 0 0), (.slice none 0 0), (.slice none 0 0)] := Ji Try.underlying26 (by kernel_rfl) (by kernel_rfl)
theorem Qat : BI Try.prog 41 [(0, 1), (1, 1)] [(.int .i64 0), (.int .i64 0)] := Ji Try.underlying41 (by kernel_rfl) (by kernel_rfl)
theorem Qfd : BI Try.prog 62 [(0, 1), (1, 1)] [(.string ByteArray.empty), (.int .i64 0)] := Ji Try.underlying62 (by kernel_rfl) (by kernel_rfl)
theorem Qpx : BI Try.prog 73 [(0, 1), (1, 1), (2, 1), (3, 1)] [(.int .i64 0), (.int .i64 0), (.int .i64 0), (.int .i64 0)] := Ji Try.underlying73 (by kernel_rfl) (by kernel_rfl)
theorem Qhu : BI Try.prog 76 [(0, 1), (1, 1)] [(.int .i64 0), (.int .i64 0)] := Ji Try.underlying76 (by kernel_rfl) (by kernel_rfl)
theorem Zc : BI Try.prog 78 [(0, 1), (1, 1), (2, 1), (3, 1), (4, 1), (5, 1)] [(.int .i64 0), (.int .i64 0), (.int .i64 0), (.int .i64 0), (.int .i64 0), (.int .i64 0)] := Ji Try.underlying78 (by kernel_rfl) (by kernel_rfl)
theorem Qhs : BI Try.prog 111 [(0, 1), (1, 1), (2, 1)] [(.int .i64 0), (.int .i64 0), (.int .i64 0)] := Ji Try.underlying111 (by kernel_rfl) (by kernel_rfl)
theorem Qpv : BI Try.prog 127 [(0, 1), (1, 1), (2, 1), (3, 1)] [(.string ByteArray.empty), (.int .i64 0), (.int .i64 0), (.slice none 0 0)] := Ji Try.underlying127 (by kernel_rfl) (by kernel_rfl)
theorem Qpw : BI Try.prog 145 [(0, 1), (1, 1), (2, 1)] [(.string ByteArray.empty), (.int .i64 0), (.bool false)] := Ji Try.underlying145 (by kernel_rfl) (by kernel_rfl)
theorem QAg : BI Try.prog 149 [(0, 3)] [(.slice none 0 0), (.slice none 0 0), (.slice none 0 0)] := Ji Try.underlying149 (by kernel_rfl) (by kernel_rfl)
theorem QAh : BI Try.prog 154 [(0, 1), (1, 1), (2, 1)] [(.slice none 0 0), (.int .i64 0), (.bool false)] := Ji Try.underlying154 (by kernel_rfl) (by kernel_rfl)
theorem Qmc : BI Try.prog 158 [(0, 4), (4, 1)] [(.string ByteArray.empty), (.int .i64 0), (.int .i64 0), (.slice none 0 0), (.int .i64 0)] := Ji Try.underlying158 (by kernel_rfl) (by kernel_rfl)
theorem Qht : BI Try.prog 185 [(0, 1), (1, 1)] [(.int .i64 0), (.int .i64 0)] := Ji Try.underlying185 (by kernel_rfl) (by kernel_rfl)
theorem Je : ZI Try.prog 26 [(.slice none 0 0), (.slice none 0 0), (.slice none 0 0)] := ZA (by kernel_rfl)
theorem Qdf : ZI Try.prog 41 [(.int .i64 0), (.int .i64 0)] := ZA (by kernel_rfl)
theorem QQb : ZI Try.prog 62 [(.string ByteArray.empty), (.int .i64 0)] := ZA (by kernel_rfl)
theorem Qpi : ZI Try.prog 73 [(.int .i64 0), (.int .i64 0), (.int .i64 0), (.int .i64 0)] := ZA (by kernel_rfl)
theorem Qbf : ZI Try.prog 78 [(.int .i64 0), (.int .i64 0), (.int .i64 0), (.int .i64 0), (.int .i64 0), (.int .i64 0)] := ZA (by kernel_rfl)
theorem Qhi : ZI Try.prog 111 [(.int .i64 0), (.int .i64 0), (.int .i64 0)] := ZA (by kernel_rfl)
theorem Qln : ZI Try.prog 127 [(.string ByteArray.empty), (.int .i64 0), (.int .i64 0), (.slice none 0 0)] := ZA (by kernel_rfl)
theorem Qzj : ZI Try.prog 145 [(.string ByteArray.empty), (.int .i64 0), (.bool false)] := ZA (by kernel_rfl)
theorem Qez : ZI Try.prog 149 [(.slice none 0 0), (.slice none 0 0), (.slice none 0 0)] := ZA (by kernel_rfl)
theorem Qby : ZI Try.prog 154 [(.slice none 0 0), (.int .i64 0), (.bool false)] := ZA (by kernel_rfl)
theorem Qde : ZI Try.prog 158 [(.string ByteArray.empty), (.int .i64 0), (.int .i64 0), (.slice none 0 0), (.int .i64 0)] := ZA (by kernel_rfl)
theorem Qlo : ZI Try.prog 185 [(.int .i64 0), (.int .i64 0)] := ZA (by kernel_rfl)
theorem QJe : (Try.f20.name == numgo) = false := by kernel_rfl
theorem Qve : (Try.f22.name == numgo) = false := by kernel_rfl
theorem Qgh : (Try.f23.name == numgo) = false := by kernel_rfl
theorem QJf : (Try.f24.name == numgo) = false := by kernel_rfl
theorem QJg : (Try.f27.name == numgo) = false := by kernel_rfl
theorem QJh : (Try.f30.name == numgo) = false := by kernel_rfl
theorem Qjj : (Try.f32.name == numgo) = false := by kernel_rfl
theorem QJi : (Try.f33.name == numgo) = false := by kernel_rfl
theorem QJj : (Try.f34.name == numgo) = false := by kernel_rfl
theorem JR : (Try.f46.name == numgo) = false := by kernel_rfl
theorem Qjk : (Try.f48.name == numgo) = false := by kernel_rfl
theorem QJl : (Try.f64.name == numgo) = false := by kernel_rfl
theorem Qvf : (Try.f83.name == numgo) = false := by kernel_rfl
theorem Qvg : (Try.f85.name == numgo) = false := by kernel_rfl
theorem QJo : (Try.f86.name == numgo) = false := by kernel_rfl
theorem Qef : (Try.f87.name == numgo) = false := by kernel_rfl
theorem Qgi : (Try.f89.name == numgo) = false := by kernel_rfl
theorem Qvh : (Try.f91.name == numgo) = false := by kernel_rfl
theorem Qac : (Try.f92.name == numgo) = false := by kernel_rfl
theorem YL : (Try.f93.name == numgo) = false := by kernel_rfl
theorem Qvi : (Try.f94.name == numgo) = false := by kernel_rfl
theorem Qad : (Try.f95.name == numgo) = false := by kernel_rfl
theorem QJp : (Try.f96.name == numgo) = false := by kernel_rfl
theorem QJq : (Try.f97.name == numgo) = false := by kernel_rfl
theorem QJr : (Try.f98.name == numgo) = false := by kernel_rfl
theorem Qvj : (Try.f99.name == numgo) = false := by kernel_rfl
theorem QIk : (Try.f100.name == numgo) = false := by kernel_rfl
theorem QIl : (Try.f101.name == numgo) = false := by kernel_rfl
theorem Qus : (Try.f102.name == numgo) = false := by kernel_rfl
theorem Qut : (Try.f107.name == numgo) = false := by kernel_rfl
theorem Quu : (Try.f108.name == numgo) = false := by kernel_rfl
theorem QIm : (Try.f109.name == numgo) = false := by kernel_rfl
theorem QIn : (Try.f110.name == numgo) = false := by kernel_rfl
theorem QIo : (Try.f115.name == numgo) = false := by kernel_rfl
theorem Quv : (Try.f116.name == numgo) = false := by kernel_rfl
theorem Quw : (Try.f117.name == numgo) = false := by kernel_rfl
theorem Qux : (Try.f118.name == numgo) = false := by kernel_rfl
theorem QIp : (Try.f126.name == numgo) = false := by kernel_rfl
theorem Quy : (Try.f132.name == numgo) = false := by kernel_rfl
theorem Quz : (Try.f133.name == numgo) = false := by kernel_rfl
theorem QIq : (Try.f138.name == numgo) = false := by kernel_rfl
theorem QIr : (Try.f139.name == numgo) = false := by kernel_rfl
theorem QIs : (Try.f140.name == numgo) = false := by kernel_rfl
theorem Qnz : (Try.f141.name == numgo) = false := by kernel_rfl
theorem QIt : (Try.f142.name == numgo) = false := by kernel_rfl
theorem QIu : (Try.f143.name == numgo) = false := by kernel_rfl
theorem QIv : (Try.f144.name == numgo) = false := by kernel_rfl
theorem Qva : (Try.f145.name == numgo) = false := by kernel_rfl
theorem Qoa : (Try.f146.name == numgo) = false := by kernel_rfl
theorem QIw : (Try.f147.name == numgo) = false := by kernel_rfl
theorem QIx : (Try.f148.name == numgo) = false := by kernel_rfl
theorem QIy : (Try.f149.name == numgo) = false := by kernel_rfl
theorem Qvb : (Try.f154.name == numgo) = false := by kernel_rfl
theorem QIz : (Try.f155.name == numgo) = false := by kernel_rfl
theorem QJa : (Try.f156.name == numgo) = false := by kernel_rfl
theorem Qvc : (Try.f163.name == numgo) = false := by kernel_rfl
theorem Qvd : (Try.f164.name == numgo) = false := by kernel_rfl
theorem QJb : (Try.f165.name == numgo) = false := by kernel_rfl
theorem QJc : (Try.f166.name == numgo) = false := by kernel_rfl
theorem QJd : (Try.f167.name == numgo) = false := by kernel_rfl
theorem QBt : Try.prog.eqGuardType Try.prog.depth 62 = false := by kernel_rfl
theorem QBw (a b : FeedDeparture) : EqS Try.prog 62 (List.toArray [(.string a.Train), (.int .i64 a.At)]) (List.toArray [(.string b.Train), (.int .i64 b.At)]) (decide (a = b)) := by
  refine ⟨fun c hc => by
    simp at hc
    repeat' (rcases hc with rfl | hc)
    all_goals simp_all [flat], fun w => ?_⟩
  have u3 := Try.underlying3
  have a3 := Try.isAgg3
  have z3 := Try.sizeOf3
  have u9 := Try.underlying9
  have a9 := Try.isAgg9
  have z9 := Try.sizeOf9
  have hS : Try.prog.underlying 62 = some (.struct (Try.prog.fieldsOf 62)) := by kernel_rfl
  have hp : Try.prog.stoodInHeld 62 = false := by kernel_rfl
  rw [run_equalIn_agg w 9999 62 _ _ hS hp]
  simp only [Program.fieldsOf, Try.underlying62]
  go_simp
  cases a; cases b; simp only [FeedDeparture.mk.injEq]
  repeat' split
  all_goals simp_all [Qqa]
theorem Qqr : Try.prog.eqGuardType Try.prog.depth 78 = false := by kernel_rfl
theorem Qqs (a b : FeedBook) : EqS Try.prog 78 (List.toArray [(.int .i64 a.Fed), (.int .i64 a.Used), (.int .i64 a.Braked), (.int .i64 a.Lost), (.int .i64 a.Back), (.int .i64 a.Burned)]) (List.toArray [(.int .i64 b.Fed), (.int .i64 b.Used), (.int .i64 b.Braked), (.int .i64 b.Lost), (.int .i64 b.Back), (.int .i64 b.Burned)]) (decide (a = b)) := by
  refine ⟨fun c hc => by
    simp at hc
    repeat' (rcases hc with rfl | hc)
    all_goals simp_all [flat], fun w => ?_⟩
  have u3 := Try.underlying3
  have a3 := Try.isAgg3
  have z3 := Try.sizeOf3
  have hS : Try.prog.underlying 78 = some (.struct (Try.prog.fieldsOf 78)) := by kernel_rfl
  have hp : Try.prog.stoodInHeld 78 = false := by kernel_rfl
  rw [run_equalIn_agg w 9999 78 _ _ hS hp]
  simp only [Program.fieldsOf, Try.underlying78]
  go_simp
  cases a; cases b; simp only [FeedBook.mk.injEq]
  repeat' split
  all_goals simp_all [Qqa]
theorem XL : Try.prog.follows .mixedOrders = true := by kernel_rfl
end Go.Gw
