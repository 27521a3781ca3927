/- Facts of the types of the program. No condition. -/
import Derived.Test.YtbplgfhjpeeieaaGwSt
import Derived.Test.YtbplgfhjpeeieaaGwPlan
import Derived.Laws.StructEq
import Derived.Test.YtbplgfhjpeeieaaProg
set_option linter.unusedVariables false
set_option linter.unusedSimpArgs false
set_option linter.unusedSectionVars false
set_option maxRecDepth 100000
namespace Go.Gw
open Go Go.Proofs
abbrev numgo : String := "runtime.NumGoroutine"
theorem QG : XE Try.prog 3 1 := Yf (by kernel_rfl)
theorem sz4 : XE Try.prog 4 1 := Yf (by kernel_rfl)
theorem sz5 : XE Try.prog 5 1 := Yf (by kernel_rfl)
theorem YV : XE Try.prog 9 1 := Yf (by kernel_rfl)
theorem Yq : XE Try.prog 22 1 := Yf (by kernel_rfl)
theorem Y9 : XE Try.prog 23 1 := Yf (by kernel_rfl)
theorem Xy : XE Try.prog 24 1 := Yf (by kernel_rfl)
theorem XQ : XE Try.prog 26 3 := Yf (by kernel_rfl)
theorem QNt : XE Try.prog 30 1 := Yf (by kernel_rfl)
theorem YH : XE Try.prog 41 2 := Yf (by kernel_rfl)
theorem Zk : XE Try.prog 52 1 := Yf (by kernel_rfl)
theorem Qik : XE Try.prog 62 2 := Yf (by kernel_rfl)
theorem Jl : XE Try.prog 73 4 := Yf (by kernel_rfl)
theorem JE : XE Try.prog 76 2 := Yf (by kernel_rfl)
theorem Qnq : XE Try.prog 78 6 := Yf (by kernel_rfl)
theorem Qnp : XE Try.prog 107 2 := Yf (by kernel_rfl)
theorem Qek : XE Try.prog 111 3 := Yf (by kernel_rfl)
theorem Jk : XE Try.prog 123 3 := Yf (by kernel_rfl)
theorem YU : XE Try.prog 125 1 := Yf (by kernel_rfl)
theorem XW : XE Try.prog 127 4 := Yf (by kernel_rfl)
theorem Z3 : XE Try.prog 145 3 := Yf (by kernel_rfl)
theorem JC : XE Try.prog 149 3 := Yf (by kernel_rfl)
theorem Zu : XE Try.prog 154 3 := Yf (by kernel_rfl)
theorem Yx : XE Try.prog 158 5 := Yf (by kernel_rfl)
theorem ZM : XE Try.prog 185 2 := Yf (by kernel_rfl)
theorem QI : Za Try.prog 3 := ⟨_, Try.underlying3, trivial⟩
theorem sc4 : Za Try.prog 4 := ⟨_, Try.underlying4, trivial⟩
theorem sc5 : Za Try.prog 5 := ⟨_, Try.underlying5, trivial⟩
theorem YO : Za Try.prog 9 := ⟨_, Try.underlying9, trivial⟩
theorem Yp : Za Try.prog 22 := ⟨_, Try.underlying22, trivial⟩
theorem Y8 : Za Try.prog 23 := ⟨_, Try.underlying23, trivial⟩
theorem XC : Za Try.prog 24 := ⟨_, Try.underlying24, trivial⟩
theorem QLz : Za Try.prog 30 := ⟨_, Try.underlying30, trivial⟩
theorem ZJ : Za Try.prog 52 := ⟨_, Try.underlying52, trivial⟩
theorem Y7 : Za Try.prog 125 := ⟨_, Try.underlying125, trivial⟩
theorem XR : Aggr Try.prog 26 3 := Y3 (by trivial) Try.underlying26 (by kernel_rfl)
theorem Yo : Aggr Try.prog 41 2 := Y3 (by trivial) Try.underlying41 (by kernel_rfl)
theorem Qji : Aggr Try.prog 62 2 := Y3 (by trivial) Try.underlying62 (by kernel_rfl)
theorem ZB : Aggr Try.prog 73 4 := Y3 (by trivial) Try.underlying73 (by kernel_rfl)
theorem Qjj : Aggr Try.prog 76 2 := Y3 (by trivial) Try.underlying76 (by kernel_rfl)
theorem Qey : Aggr Try.prog 78 6 := Y3 (by trivial) Try.underlying78 (by kernel_rfl)
theorem Qof : Aggr Try.prog 94 2 := Y3 (by trivial) Try.underlying94 (by kernel_rfl)
theorem Qjg : Aggr Try.prog 107 2 := Y3 (by trivial) Try.underlying107 (by kernel_rfl)
theorem Qjh : Aggr Try.prog 111 3 := Y3 (by trivial) Try.underlying111 (by kernel_rfl)
theorem YD : Aggr Try.prog 123 3 := Y3 (by trivial) Try.underlying123 (by kernel_rfl)
theorem Zb : Aggr Try.prog 127 4 := Y3 (by trivial) Try.underlying127 (by kernel_rfl)
theorem Qoe : Aggr Try.prog 145 3 := Y3 (by trivial) Try.underlying145 (by kernel_rfl)
theorem Yr : Aggr Try.prog 149 3 := Y3 (by trivial) Try.underlying149 (by kernel_rfl)
theorem YM : Aggr Try.prog 154 3 := Y3 (by trivial) Try.underlying154 (by kernel_rfl)
theorem Yu : Aggr Try.prog 158 5 := Y3 (by trivial) Try.underlying158 (by kernel_rfl)
theorem Qck : Aggr Try.prog 185 2 := Y3 (by trivial) Try.underlying185 (by kernel_rfl)
theorem Yy : EInfo Try.prog 3 1 8 (.int .i64 0) := Jr (by kernel_rfl) rfl (by decide)
theorem ei9 : EInfo Try.prog 9 1 16 (.string ByteArray.empty) := Jr (by kernel_rfl) rfl (by decide)
theorem Zm : EInfo Try.prog 30 1 8 (.int .i64 0) := Jr (by kernel_rfl) rfl (by decide)
theorem Qcs : EInfo Try.prog 62 2 24 (.agg (List.toArray [(.string ByteArray.empty), (.int .i64 0)])) := Jr (by kernel_rfl) rfl (by decide)
theorem Yn : EInfo Try.prog 73 4 32 (.agg (List.toArray [(.int .i64 0), (.int .i64 0), (.int .i64 0), (.int .i64 0)])) := Jr (by kernel_rfl) rfl (by decide)
theorem Qkc : EInfo Try.prog 107 2 16 (.agg (List.toArray [(.int .i64 0), (.int .i64 0)])) := Jr (by kernel_rfl) rfl (by decide)
theorem Qkd : EInfo Try.prog 127 4 56 (.agg (List.toArray [(.string ByteArray.empty), (.int .i64 0), (.int .i64 0), (.slice none 0 0)])) := Jr (by kernel_rfl) rfl (by decide)
theorem YY : EInfo Try.prog 145 3 32 (.agg (List.toArray [(.string ByteArray.empty), (.int .i64 0), (.bool false)])) := Jr (by kernel_rfl) rfl (by decide)
theorem YF : EInfo Try.prog 158 5 64 (.agg (List.toArray [(.string ByteArray.empty), (.int .i64 0), (.int .i64 0), (.slice none 0 0), (.int .i64 0)])) := Jr (by kernel_rfl) rfl (by decide)
theorem Qfr : EInfo Try.prog 185 2 16 (.agg (List.toArray [(.int .i64 0), (.int .i64 0)])) := Jr (by kernel_rfl) rfl (by decide)
theorem Y4 : BI Try.prog 26 [(0, 1), (1, 1), (2, 1)] [(.slice none 0 0), (.slice none 0 0), (.slice none 0 0)] := Y5 Try.underlying26 (by kernel_rfl) (by kernel_rfl)
theorem JK : BI Try.prog 41 [(0, 1), (1, 1)] [(.int .i64 0), (.int .i64 0)] := Y5 Try.underlying41 (by kernel_rfl) (by kernel_rfl)
theorem Qbg : BI Try.prog 62 [(0, 1), (1, 1)] [(.string ByteArray.empty), (.int .i64 0)] := Y5 Try.underlying62 (by kernel_rfl) (by kernel_rfl)
theorem Qov : BI Try.prog 73 [(0, 1), (1, 1), (2, 1), (3, 1)] [(.int .i64 0), (.int .i64 0), (.int .i64 0), (.int .i64 0)] := Y5 Try.underlying73 (by kernel_rfl) (by kernel_rfl)
theorem Qjv : BI Try.prog 76 [(0, 1), (1, 1)] [(.int .i64 0), (.int .i64 0)] := Y5 Try.underlying76 (by kernel_rfl) (by kernel_rfl)
theorem Qow : BI Try.prog 78 [(0, 1), (1, 1), (2, 1), (3, 1), (4, 1), (5, 1)] [(.int .i64 0), (.int .i64 0), (.int .i64 0), (.int .i64 0), (.int .i64 0), (.int .i64 0)] := Y5 Try.underlying78 (by kernel_rfl) (by kernel_rfl)
theorem QAn : BI Try.prog 94 [(0, 1), (1, 1)] [(.slice none 0 0), (.slice none 0 0)] := Y5 Try.underlying94 (by kernel_rfl) (by kernel_rfl)
theorem Qos : BI Try.prog 107 [(0, 1), (1, 1)] [(.int .i64 0), (.int .i64 0)] := Y5 Try.underlying107 (by kernel_rfl) (by kernel_rfl)
theorem Qjt : BI Try.prog 111 [(0, 1), (1, 1), (2, 1)] [(.int .i64 0), (.int .i64 0), (.int .i64 0)] := Y5 Try.underlying111 (by kernel_rfl) (by kernel_rfl)
theorem Qal : BI Try.prog 123 [(0, 1), (1, 2)] [(.int .i64 0), (.int .i64 0), (.int .i64 0)] := Y5 Try.underlying123 (by kernel_rfl) (by kernel_rfl)
theorem Qot : BI Try.prog 127 [(0, 1), (1, 1), (2, 1), (3, 1)] [(.string ByteArray.empty), (.int .i64 0), (.int .i64 0), (.slice none 0 0)] := Y5 Try.underlying127 (by kernel_rfl) (by kernel_rfl)
theorem Qou : BI Try.prog 145 [(0, 1), (1, 1), (2, 1)] [(.string ByteArray.empty), (.int .i64 0), (.bool false)] := Y5 Try.underlying145 (by kernel_rfl) (by kernel_rfl)
theorem QAl : BI Try.prog 149 [(0, 3)] [(.slice none 0 0), (.slice none 0 0), (.slice none 0 0)] := Y5 Try.underlying149 (by kernel_rfl) (by kernel_rfl)
theorem QAm : BI Try.prog 154 [(0, 1), (1, 1), (2, 1)] [(.slice none 0 0), (.int .i64 0), (.bool false)] := Y5 Try.underlying154 (by kernel_rfl) (by kernel_rfl)
theorem Qju : BI Try.prog 158 [(0, 4), (4, 1)] [(.string ByteArray.empty), (.int .i64 0), (.int .i64 0), (.slice none 0 0), (.int .i64 0)] := Y5 Try.underlying158 (by kernel_rfl) (by kernel_rfl)
theorem Qfc : BI Try.prog 185 [(0, 1), (1, 1)] [(.int .i64 0), (.int .i64 0)] := Y5 Try.underlying185 (by kernel_rfl) (by kernel_rfl)
theorem Zz : ZI Try.prog 26 [(.slice none 0 0), (.slice none 0 0), (.slice none 0 0)] := Y2 (by kernel_rfl)
theorem Qbd : ZI Try.prog 41 [(.int .i64 0), (.int .i64 0)] := Y2 (by kernel_rfl)
theorem QPy : ZI Try.prog 62 [(.string ByteArray.empty), (.int .i64 0)] := Y2 (by kernel_rfl)
theorem Qer : ZI Try.prog 73 [(.int .i64 0), (.int .i64 0), (.int .i64 0), (.int .i64 0)] := Y2 (by kernel_rfl)
theorem Qny : ZI Try.prog 78 [(.int .i64 0), (.int .i64 0), (.int .i64 0), (.int .i64 0), (.int .i64 0), (.int .i64 0)] := Y2 (by kernel_rfl)
theorem QPw : ZI Try.prog 107 [(.int .i64 0), (.int .i64 0)] := Y2 (by kernel_rfl)
theorem Qnx : ZI Try.prog 111 [(.int .i64 0), (.int .i64 0), (.int .i64 0)] := Y2 (by kernel_rfl)
theorem Qbb : ZI Try.prog 123 [(.int .i64 0), (.int .i64 0), (.int .i64 0)] := Y2 (by kernel_rfl)
theorem Qbc : ZI Try.prog 127 [(.string ByteArray.empty), (.int .i64 0), (.int .i64 0), (.slice none 0 0)] := Y2 (by kernel_rfl)
theorem Qzp : ZI Try.prog 145 [(.string ByteArray.empty), (.int .i64 0), (.bool false)] := Y2 (by kernel_rfl)
theorem JX : ZI Try.prog 149 [(.slice none 0 0), (.slice none 0 0), (.slice none 0 0)] := Y2 (by kernel_rfl)
theorem Qae : ZI Try.prog 154 [(.slice none 0 0), (.int .i64 0), (.bool false)] := Y2 (by kernel_rfl)
theorem Qaf : ZI Try.prog 158 [(.string ByteArray.empty), (.int .i64 0), (.int .i64 0), (.slice none 0 0), (.int .i64 0)] := Y2 (by kernel_rfl)
theorem Qeq : ZI Try.prog 185 [(.int .i64 0), (.int .i64 0)] := Y2 (by kernel_rfl)
theorem QIy : (Try.f19.name == numgo) = false := by kernel_rfl
theorem QIz : (Try.f20.name == numgo) = false := by kernel_rfl
theorem QJa : (Try.f21.name == numgo) = false := by kernel_rfl
theorem QJb : (Try.f22.name == numgo) = false := by kernel_rfl
theorem Qut : (Try.f23.name == numgo) = false := by kernel_rfl
theorem Quu : (Try.f24.name == numgo) = false := by kernel_rfl
theorem Quv : (Try.f25.name == numgo) = false := by kernel_rfl
theorem QJc : (Try.f27.name == numgo) = false := by kernel_rfl
theorem QJd : (Try.f30.name == numgo) = false := by kernel_rfl
theorem QJe : (Try.f33.name == numgo) = false := by kernel_rfl
theorem QJf : (Try.f35.name == numgo) = false := by kernel_rfl
theorem Quw : (Try.f39.name == numgo) = false := by kernel_rfl
theorem QJg : (Try.f41.name == numgo) = false := by kernel_rfl
theorem Qux : (Try.f43.name == numgo) = false := by kernel_rfl
theorem Jx : (Try.f46.name == numgo) = false := by kernel_rfl
theorem QJh : (Try.f48.name == numgo) = false := by kernel_rfl
theorem QJi : (Try.f51.name == numgo) = false := by kernel_rfl
theorem QJj : (Try.f54.name == numgo) = false := by kernel_rfl
theorem QJk : (Try.f60.name == numgo) = false := by kernel_rfl
theorem QJl : (Try.f66.name == numgo) = false := by kernel_rfl
theorem QJm : (Try.f70.name == numgo) = false := by kernel_rfl
theorem QJn : (Try.f71.name == numgo) = false := by kernel_rfl
theorem QJo : (Try.f72.name == numgo) = false := by kernel_rfl
theorem QJp : (Try.f73.name == numgo) = false := by kernel_rfl
theorem Quy : (Try.f74.name == numgo) = false := by kernel_rfl
theorem Quz : (Try.f75.name == numgo) = false := by kernel_rfl
theorem Qhb : (Try.f83.name == numgo) = false := by kernel_rfl
theorem Qml : (Try.f84.name == numgo) = false := by kernel_rfl
theorem Qhc : (Try.f85.name == numgo) = false := by kernel_rfl
theorem Qva : (Try.f86.name == numgo) = false := by kernel_rfl
theorem Qbu : (Try.f87.name == numgo) = false := by kernel_rfl
theorem Qdr : (Try.f89.name == numgo) = false := by kernel_rfl
theorem QJq : (Try.f91.name == numgo) = false := by kernel_rfl
theorem Zp : (Try.f92.name == numgo) = false := by kernel_rfl
theorem Yd : (Try.f93.name == numgo) = false := by kernel_rfl
theorem Qvb : (Try.f94.name == numgo) = false := by kernel_rfl
theorem Z0 : (Try.f95.name == numgo) = false := by kernel_rfl
theorem QJr : (Try.f96.name == numgo) = false := by kernel_rfl
theorem QJs : (Try.f97.name == numgo) = false := by kernel_rfl
theorem QJt : (Try.f98.name == numgo) = false := by kernel_rfl
theorem Qvc : (Try.f99.name == numgo) = false := by kernel_rfl
theorem QIa : (Try.f100.name == numgo) = false := by kernel_rfl
theorem QIb : (Try.f101.name == numgo) = false := by kernel_rfl
theorem Qmg : (Try.f102.name == numgo) = false := by kernel_rfl
theorem QIc : (Try.f103.name == numgo) = false := by kernel_rfl
theorem Qmh : (Try.f107.name == numgo) = false := by kernel_rfl
theorem Qud : (Try.f108.name == numgo) = false := by kernel_rfl
theorem Que : (Try.f109.name == numgo) = false := by kernel_rfl
theorem QId : (Try.f110.name == numgo) = false := by kernel_rfl
theorem QIe : (Try.f114.name == numgo) = false := by kernel_rfl
theorem Quf : (Try.f115.name == numgo) = false := by kernel_rfl
theorem Qug : (Try.f116.name == numgo) = false := by kernel_rfl
theorem Quh : (Try.f117.name == numgo) = false := by kernel_rfl
theorem Qmi : (Try.f118.name == numgo) = false := by kernel_rfl
theorem QIf : (Try.f123.name == numgo) = false := by kernel_rfl
theorem QIg : (Try.f124.name == numgo) = false := by kernel_rfl
theorem QIh : (Try.f125.name == numgo) = false := by kernel_rfl
theorem Qui : (Try.f126.name == numgo) = false := by kernel_rfl
theorem QIi : (Try.f131.name == numgo) = false := by kernel_rfl
theorem Quj : (Try.f132.name == numgo) = false := by kernel_rfl
theorem Qmj : (Try.f133.name == numgo) = false := by kernel_rfl
theorem Quk : (Try.f135.name == numgo) = false := by kernel_rfl
theorem QIj : (Try.f138.name == numgo) = false := by kernel_rfl
theorem QIk : (Try.f139.name == numgo) = false := by kernel_rfl
theorem Qul : (Try.f140.name == numgo) = false := by kernel_rfl
theorem Qha : (Try.f141.name == numgo) = false := by kernel_rfl
theorem Qum : (Try.f142.name == numgo) = false := by kernel_rfl
theorem QIl : (Try.f143.name == numgo) = false := by kernel_rfl
theorem QIm : (Try.f144.name == numgo) = false := by kernel_rfl
theorem Qun : (Try.f145.name == numgo) = false := by kernel_rfl
theorem Qmk : (Try.f146.name == numgo) = false := by kernel_rfl
theorem QIn : (Try.f147.name == numgo) = false := by kernel_rfl
theorem QIo : (Try.f148.name == numgo) = false := by kernel_rfl
theorem QIp : (Try.f149.name == numgo) = false := by kernel_rfl
theorem Quo : (Try.f150.name == numgo) = false := by kernel_rfl
theorem QIq : (Try.f151.name == numgo) = false := by kernel_rfl
theorem QIr : (Try.f152.name == numgo) = false := by kernel_rfl
theorem Qup : (Try.f154.name == numgo) = false := by kernel_rfl
theorem QIs : (Try.f155.name == numgo) = false := by kernel_rfl
theorem QIt : (Try.f156.name == numgo) = false := by kernel_rfl
theorem QIu : (Try.f157.name == numgo) = false := by kernel_rfl
theorem Quq : (Try.f163.name == numgo) = false := by kernel_rfl
theorem Qur : (Try.f164.name == numgo) = false := by kernel_rfl
theorem QIv : (Try.f165.name == numgo) = false := by kernel_rfl
theorem QIw : (Try.f166.name == numgo) = false := by kernel_rfl
theorem QIx : (Try.f167.name == numgo) = false := by kernel_rfl
theorem Qus : (Try.f168.name == numgo) = false := by kernel_rfl
theorem QBr : Try.prog.eqGuardType Try.prog.depth 62 = false := by kernel_rfl
theorem QBw (a b : FeedDeparture) : EqS Try.prog 62 (List.toArray [(.string a.Train), (.int .i64 a.At)]) (List.toArray [(.string b.Train), (.int .i64 b.At)]) (decide (a = b)) := by
  refine ⟨fun c hc => by
    simp at hc
    repeat' (rcases hc with rfl | hc)
    all_goals simp_all [flat], fun w => ?_⟩
  have u3 := Try.underlying3
  have a3 := Try.isAgg3
  have z3 := Try.sizeOf3
  have u9 := Try.underlying9
  have a9 := Try.isAgg9
  have z9 := Try.sizeOf9
  have hS : Try.prog.underlying 62 = some (.struct (Try.prog.fieldsOf 62)) := by kernel_rfl
  have hp : Try.prog.stoodInHeld 62 = false := by kernel_rfl
  rw [run_equalIn_agg w 9999 62 _ _ hS hp]
  simp only [Program.fieldsOf, Try.underlying62]
  go_simp
  cases a; cases b; simp only [FeedDeparture.mk.injEq]
  repeat' split
  all_goals simp_all [Qfg]
theorem QBs : Try.prog.eqGuardType Try.prog.depth 78 = false := by kernel_rfl
theorem QBx (a b : FeedBook) : EqS Try.prog 78 (List.toArray [(.int .i64 a.Fed), (.int .i64 a.Used), (.int .i64 a.Braked), (.int .i64 a.Lost), (.int .i64 a.Back), (.int .i64 a.Burned)]) (List.toArray [(.int .i64 b.Fed), (.int .i64 b.Used), (.int .i64 b.Braked), (.int .i64 b.Lost), (.int .i64 b.Back), (.int .i64 b.Burned)]) (decide (a = b)) := by
  refine ⟨fun c hc => by
    simp at hc
    repeat' (rcases hc with rfl | hc)
    all_goals simp_all [flat], fun w => ?_⟩
  have u3 := Try.underlying3
  have a3 := Try.isAgg3
  have z3 := Try.sizeOf3
  have hS : Try.prog.underlying 78 = some (.struct (Try.prog.fieldsOf 78)) := by kernel_rfl
  have hp : Try.prog.stoodInHeld 78 = false := by kernel_rfl
  rw [run_equalIn_agg w 9999 78 _ _ hS hp]
  simp only [Program.fieldsOf, Try.underlying78]
  go_simp
  cases a; cases b; simp only [FeedBook.mk.injEq]
  repeat' split
  all_goals simp_all [Qfg]
theorem QBq : Try.prog.eqGuardType Try.prog.depth 107 = false := by kernel_rfl
theorem QBv (a b : Frac) : EqS Try.prog 107 (List.toArray [(.int .i64 a.Num), (.int .i64 a.Den)]) (List.toArray [(.int .i64 b.Num), (.int .i64 b.Den)]) (decide (a = b)) := by
  refine ⟨fun c hc => by
    simp at hc
    repeat' (rcases hc with rfl | hc)
    all_goals simp_all [flat], fun w => ?_⟩
  have u3 := Try.underlying3
  have a3 := Try.isAgg3
  have z3 := Try.sizeOf3
  have hS : Try.prog.underlying 107 = some (.struct (Try.prog.fieldsOf 107)) := by kernel_rfl
  have hp : Try.prog.stoodInHeld 107 = false := by kernel_rfl
  rw [run_equalIn_agg w 9999 107 _ _ hS hp]
  simp only [Program.fieldsOf, Try.underlying107]
  go_simp
  cases a; cases b; simp only [Frac.mk.injEq]
  repeat' split
  all_goals simp_all [Qfg]
theorem Qpq : Try.prog.eqGuardType Try.prog.depth 123 = false := by kernel_rfl
theorem Qpr (a b : FeedWindow) : EqS Try.prog 123 (List.toArray [(.int .i64 a.Station), (.int .i64 a.Ticks.Lo), (.int .i64 a.Ticks.Hi)]) (List.toArray [(.int .i64 b.Station), (.int .i64 b.Ticks.Lo), (.int .i64 b.Ticks.Hi)]) (decide (a = b)) := by
  refine ⟨fun c hc => by
    simp at hc
    repeat' (rcases hc with rfl | hc)
    all_goals simp_all [flat], fun w => ?_⟩
  have u3 := Try.underlying3
  have a3 := Try.isAgg3
  have z3 := Try.sizeOf3
  have u76 := Try.underlying76
  have a76 := Try.isAgg76
  have z76 := Try.sizeOf76
  have hS : Try.prog.underlying 123 = some (.struct (Try.prog.fieldsOf 123)) := by kernel_rfl
  have hp : Try.prog.stoodInHeld 123 = false := by kernel_rfl
  rw [run_equalIn_agg w 9999 123 _ _ hS hp]
  simp only [Program.fieldsOf, Try.underlying123]
  go_simp
  obtain ⟨_, ⟨_, _⟩⟩ := a; obtain ⟨_, ⟨_, _⟩⟩ := b; simp only [FeedWindow.mk.injEq, Range.mk.injEq]
  repeat' split
  all_goals simp_all [Qfg]
theorem XG : Try.prog.follows .mixedOrders = true := by kernel_rfl
end Go.Gw
