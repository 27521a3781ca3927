/- Facts of the types of the program. No condition. -/
import Derived.Test.YtbplgfhjpeeieaaGwSt
import Derived.Test.YtbplgfhjpeeieaaGwPlan
import Derived.Laws.StructEq
import Derived.Test.YtbplgfhjpeeieaaProg
set_option linter.unusedVariables false
set_option linter.unusedSimpArgs false
set_option linter.unusedSectionVars false
set_option maxRecDepth 100000
namespace Go.Gw
open Go Go.Proofs
abbrev numgo : String := "runtime.NumGoroutine"
theorem QJ : XJ Try.prog 3 1 := Ys (by kernel_rfl)
theorem sz4 : XJ Try.prog 4 1 := Ys (by kernel_rfl)
theorem sz5 : XJ Try.prog 5 1 := Ys (by kernel_rfl)
theorem YQ : XJ Try.prog 9 1 := Ys (by kernel_rfl)
theorem YP : XJ Try.prog 22 1 := Ys (by kernel_rfl)
theorem Zl : XJ Try.prog 23 1 := Ys (by kernel_rfl)
theorem XN : XJ Try.prog 24 1 := Ys (by kernel_rfl)
theorem Yd : XJ Try.prog 26 3 := Ys (by kernel_rfl)
theorem Qix : XJ Try.prog 29 1 := Ys (by kernel_rfl)
theorem QOn : XJ Try.prog 30 1 := Ys (by kernel_rfl)
theorem YW : XJ Try.prog 41 2 := Ys (by kernel_rfl)
theorem Zw : XJ Try.prog 52 1 := Ys (by kernel_rfl)
theorem JL : XJ Try.prog 62 2 := Ys (by kernel_rfl)
theorem J0 : XJ Try.prog 73 4 := Ys (by kernel_rfl)
theorem Qoo : XJ Try.prog 78 6 := Ys (by kernel_rfl)
theorem Qon : XJ Try.prog 107 2 := Ys (by kernel_rfl)
theorem JZ : XJ Try.prog 111 3 := Ys (by kernel_rfl)
theorem Y9 : XJ Try.prog 125 1 := Ys (by kernel_rfl)
theorem X9 : XJ Try.prog 127 4 := Ys (by kernel_rfl)
theorem Jx : XJ Try.prog 145 3 := Ys (by kernel_rfl)
theorem Qaj : XJ Try.prog 149 3 := Ys (by kernel_rfl)
theorem ZG : XJ Try.prog 154 3 := Ys (by kernel_rfl)
theorem YN : XJ Try.prog 158 5 := Ys (by kernel_rfl)
theorem Jy : XJ Try.prog 185 2 := Ys (by kernel_rfl)
theorem QP : Zc Try.prog 3 := ⟨_, Try.underlying3, trivial⟩
theorem sc4 : Zc Try.prog 4 := ⟨_, Try.underlying4, trivial⟩
theorem sc5 : Zc Try.prog 5 := ⟨_, Try.underlying5, trivial⟩
theorem YM : Zc Try.prog 9 := ⟨_, Try.underlying9, trivial⟩
theorem YO : Zc Try.prog 22 := ⟨_, Try.underlying22, trivial⟩
theorem Zk : Zc Try.prog 23 := ⟨_, Try.underlying23, trivial⟩
theorem XT : Zc Try.prog 24 := ⟨_, Try.underlying24, trivial⟩
theorem Qio : Zc Try.prog 29 := ⟨_, Try.underlying29, trivial⟩
theorem QMq : Zc Try.prog 30 := ⟨_, Try.underlying30, trivial⟩
theorem ZY : Zc Try.prog 52 := ⟨_, Try.underlying52, trivial⟩
theorem Zt : Zc Try.prog 125 := ⟨_, Try.underlying125, trivial⟩
theorem XZ : Aggr Try.prog 26 3 := Zp (by trivial) Try.underlying26 (by kernel_rfl)
theorem Yx : Aggr Try.prog 41 2 := Zp (by trivial) Try.underlying41 (by kernel_rfl)
theorem Qjw : Aggr Try.prog 62 2 := Zp (by trivial) Try.underlying62 (by kernel_rfl)
theorem Z7 : Aggr Try.prog 73 4 := Zp (by trivial) Try.underlying73 (by kernel_rfl)
theorem QAf : Aggr Try.prog 76 2 := Zp (by trivial) Try.underlying76 (by kernel_rfl)
theorem Qfv : Aggr Try.prog 78 6 := Zp (by trivial) Try.underlying78 (by kernel_rfl)
theorem Qpb : Aggr Try.prog 94 2 := Zp (by trivial) Try.underlying94 (by kernel_rfl)
theorem Qjv : Aggr Try.prog 107 2 := Zp (by trivial) Try.underlying107 (by kernel_rfl)
theorem Qdc : Aggr Try.prog 111 3 := Zp (by trivial) Try.underlying111 (by kernel_rfl)
theorem Zo : Aggr Try.prog 127 4 := Zp (by trivial) Try.underlying127 (by kernel_rfl)
theorem Qpa : Aggr Try.prog 145 3 := Zp (by trivial) Try.underlying145 (by kernel_rfl)
theorem Y6 : Aggr Try.prog 149 3 := Zp (by trivial) Try.underlying149 (by kernel_rfl)
theorem YY : Aggr Try.prog 154 3 := Zp (by trivial) Try.underlying154 (by kernel_rfl)
theorem YI : Aggr Try.prog 158 5 := Zp (by trivial) Try.underlying158 (by kernel_rfl)
theorem Qfu : Aggr Try.prog 185 2 := Zp (by trivial) Try.underlying185 (by kernel_rfl)
theorem Yy : EInfo Try.prog 3 1 8 (.int .i64 0) := Js (by kernel_rfl) rfl (by decide)
theorem ei9 : EInfo Try.prog 9 1 16 (.string ByteArray.empty) := Js (by kernel_rfl) rfl (by decide)
theorem Qdn : EInfo Try.prog 29 1 24 (.slice none 0 0) := Js (by kernel_rfl) rfl (by decide)
theorem Je : EInfo Try.prog 30 1 8 (.int .i64 0) := Js (by kernel_rfl) rfl (by decide)
theorem Jr : EInfo Try.prog 62 2 24 (.agg (List.toArray [(.string ByteArray.empty), (.int .i64 0)])) := Js (by kernel_rfl) rfl (by decide)
theorem Yw : EInfo Try.prog 73 4 32 (.agg (List.toArray [(.int .i64 0), (.int .i64 0), (.int .i64 0), (.int .i64 0)])) := Js (by kernel_rfl) rfl (by decide)
theorem Qkt : EInfo Try.prog 107 2 16 (.agg (List.toArray [(.int .i64 0), (.int .i64 0)])) := Js (by kernel_rfl) rfl (by decide)
theorem Qku : EInfo Try.prog 127 4 56 (.agg (List.toArray [(.string ByteArray.empty), (.int .i64 0), (.int .i64 0), (.slice none 0 0)])) := Js (by kernel_rfl) rfl (by decide)
theorem Y8 : EInfo Try.prog 145 3 32 (.agg (List.toArray [(.string ByteArray.empty), (.int .i64 0), (.bool false)])) := Js (by kernel_rfl) rfl (by decide)
theorem YT : EInfo Try.prog 158 5 64 (.agg (List.toArray [(.string ByteArray.empty), (.int .i64 0), (.int .i64 0), (.slice none 0 0), (.int .i64 0)])) := Js (by kernel_rfl) rfl (by decide)
theorem Qgp : EInfo Try.prog 185 2 16 (.agg (List.toArray [(.int .i64 0), (.int .i64 0)])) := Js (by kernel_rfl) rfl (by decide)
theorem Ze : BI Try.prog 26 [(0, 1), (1, 1), (2, 1)] [(.slice none 0 0), (.slice none 0 0), (.slice none 0 0)] := Zq Try.underlying26 (by kernel_rfl) (by kernel_rfl)
theorem JS : BI Try.prog 41 [(0, 1), (1, 1)] [(.int .i64 0), (.int .i64 0)] := Zq Try.underlying41 (by kernel_rfl) (by kernel_rfl)
theorem Qas : BI Try.prog 62 [(0, 1), (1, 1)] [(.string ByteArray.empty), (.int .i64 0)] := Zq Try.underlying62 (by kernel_rfl) (by kernel_rfl)
theorem Qpr : BI Try.prog 73 [(0, 1), (1, 1), (2, 1), (3, 1)] [(.int .i64 0), (.int .i64 0), (.int .i64 0), (.int .i64 0)] := Zq Try.underlying73 (by kernel_rfl) (by kernel_rfl)
theorem QAx : BI Try.prog 76 [(0, 1), (1, 1)] [(.int .i64 0), (.int .i64 0)] := Zq Try.underlying76 (by kernel_rfl) (by kernel_rfl)
theorem Qps : BI Try.prog 78 [(0, 1), (1, 1), (2, 1), (3, 1), (4, 1), (5, 1)] [(.int .i64 0), (.int .i64 0), (.int .i64 0), (.int .i64 0), (.int .i64 0), (.int .i64 0)] := Zq Try.underlying78 (by kernel_rfl) (by kernel_rfl)
theorem QAy : BI Try.prog 94 [(0, 1), (1, 1)] [(.slice none 0 0), (.slice none 0 0)] := Zq Try.underlying94 (by kernel_rfl) (by kernel_rfl)
theorem Qpo : BI Try.prog 107 [(0, 1), (1, 1)] [(.int .i64 0), (.int .i64 0)] := Zq Try.underlying107 (by kernel_rfl) (by kernel_rfl)
theorem Qdg : BI Try.prog 111 [(0, 1), (1, 1), (2, 1)] [(.int .i64 0), (.int .i64 0), (.int .i64 0)] := Zq Try.underlying111 (by kernel_rfl) (by kernel_rfl)
theorem Qpp : BI Try.prog 127 [(0, 1), (1, 1), (2, 1), (3, 1)] [(.string ByteArray.empty), (.int .i64 0), (.int .i64 0), (.slice none 0 0)] := Zq Try.underlying127 (by kernel_rfl) (by kernel_rfl)
theorem Qpq : BI Try.prog 145 [(0, 1), (1, 1), (2, 1)] [(.string ByteArray.empty), (.int .i64 0), (.bool false)] := Zq Try.underlying145 (by kernel_rfl) (by kernel_rfl)
theorem QAv : BI Try.prog 149 [(0, 3)] [(.slice none 0 0), (.slice none 0 0), (.slice none 0 0)] := Zq Try.underlying149 (by kernel_rfl) (by kernel_rfl)
theorem QAw : BI Try.prog 154 [(0, 1), (1, 1), (2, 1)] [(.slice none 0 0), (.int .i64 0), (.bool false)] := Zq Try.underlying154 (by kernel_rfl) (by kernel_rfl)
theorem Qkh : BI Try.prog 158 [(0, 4), (4, 1)] [(.string ByteArray.empty), (.int .i64 0), (.int .i64 0), (.slice none 0 0), (.int .i64 0)] := Zq Try.underlying158 (by kernel_rfl) (by kernel_rfl)
theorem Qga : BI Try.prog 185 [(0, 1), (1, 1)] [(.int .i64 0), (.int .i64 0)] := Zq Try.underlying185 (by kernel_rfl) (by kernel_rfl)
theorem ZM : ZI Try.prog 26 [(.slice none 0 0), (.slice none 0 0), (.slice none 0 0)] := Zn (by kernel_rfl)
theorem Qbq : ZI Try.prog 41 [(.int .i64 0), (.int .i64 0)] := Zn (by kernel_rfl)
theorem QQv : ZI Try.prog 62 [(.string ByteArray.empty), (.int .i64 0)] := Zn (by kernel_rfl)
theorem Qjn : ZI Try.prog 73 [(.int .i64 0), (.int .i64 0), (.int .i64 0), (.int .i64 0)] := Zn (by kernel_rfl)
theorem Qov : ZI Try.prog 78 [(.int .i64 0), (.int .i64 0), (.int .i64 0), (.int .i64 0), (.int .i64 0), (.int .i64 0)] := Zn (by kernel_rfl)
theorem QQt : ZI Try.prog 107 [(.int .i64 0), (.int .i64 0)] := Zn (by kernel_rfl)
theorem Qda : ZI Try.prog 111 [(.int .i64 0), (.int .i64 0), (.int .i64 0)] := Zn (by kernel_rfl)
theorem Qbo : ZI Try.prog 127 [(.string ByteArray.empty), (.int .i64 0), (.int .i64 0), (.slice none 0 0)] := Zn (by kernel_rfl)
theorem Qzu : ZI Try.prog 145 [(.string ByteArray.empty), (.int .i64 0), (.bool false)] := Zn (by kernel_rfl)
theorem Qbp : ZI Try.prog 149 [(.slice none 0 0), (.slice none 0 0), (.slice none 0 0)] := Zn (by kernel_rfl)
theorem Qan : ZI Try.prog 154 [(.slice none 0 0), (.int .i64 0), (.bool false)] := Zn (by kernel_rfl)
theorem Qao : ZI Try.prog 158 [(.string ByteArray.empty), (.int .i64 0), (.int .i64 0), (.slice none 0 0), (.int .i64 0)] := Zn (by kernel_rfl)
theorem Qjm : ZI Try.prog 185 [(.int .i64 0), (.int .i64 0)] := Zn (by kernel_rfl)
theorem QJl : (Try.f19.name == numgo) = false := by kernel_rfl
theorem QJm : (Try.f20.name == numgo) = false := by kernel_rfl
theorem QJn : (Try.f21.name == numgo) = false := by kernel_rfl
theorem Qvj : (Try.f22.name == numgo) = false := by kernel_rfl
theorem QJo : (Try.f23.name == numgo) = false := by kernel_rfl
theorem Qvk : (Try.f24.name == numgo) = false := by kernel_rfl
theorem Qvl : (Try.f25.name == numgo) = false := by kernel_rfl
theorem QJp : (Try.f26.name == numgo) = false := by kernel_rfl
theorem Qvm : (Try.f27.name == numgo) = false := by kernel_rfl
theorem Qnd : (Try.f28.name == numgo) = false := by kernel_rfl
theorem QJq : (Try.f30.name == numgo) = false := by kernel_rfl
theorem Qvn : (Try.f32.name == numgo) = false := by kernel_rfl
theorem QJr : (Try.f33.name == numgo) = false := by kernel_rfl
theorem QJs : (Try.f35.name == numgo) = false := by kernel_rfl
theorem Qvo : (Try.f39.name == numgo) = false := by kernel_rfl
theorem QJt : (Try.f41.name == numgo) = false := by kernel_rfl
theorem QJu : (Try.f44.name == numgo) = false := by kernel_rfl
theorem QJv : (Try.f45.name == numgo) = false := by kernel_rfl
theorem JX : (Try.f46.name == numgo) = false := by kernel_rfl
theorem QJw : (Try.f48.name == numgo) = false := by kernel_rfl
theorem QJx : (Try.f54.name == numgo) = false := by kernel_rfl
theorem QJy : (Try.f60.name == numgo) = false := by kernel_rfl
theorem Qvp : (Try.f65.name == numgo) = false := by kernel_rfl
theorem Qhj : (Try.f83.name == numgo) = false := by kernel_rfl
theorem Qne : (Try.f84.name == numgo) = false := by kernel_rfl
theorem Qvq : (Try.f85.name == numgo) = false := by kernel_rfl
theorem QJz : (Try.f86.name == numgo) = false := by kernel_rfl
theorem Qck : (Try.f87.name == numgo) = false := by kernel_rfl
theorem Qel : (Try.f89.name == numgo) = false := by kernel_rfl
theorem QKa : (Try.f90.name == numgo) = false := by kernel_rfl
theorem Qhk : (Try.f91.name == numgo) = false := by kernel_rfl
theorem Jj : (Try.f92.name == numgo) = false := by kernel_rfl
theorem Yr : (Try.f93.name == numgo) = false := by kernel_rfl
theorem Qvr : (Try.f94.name == numgo) = false := by kernel_rfl
theorem JH : (Try.f95.name == numgo) = false := by kernel_rfl
theorem QKb : (Try.f96.name == numgo) = false := by kernel_rfl
theorem QKc : (Try.f97.name == numgo) = false := by kernel_rfl
theorem QKd : (Try.f98.name == numgo) = false := by kernel_rfl
theorem Qvs : (Try.f99.name == numgo) = false := by kernel_rfl
theorem QIl : (Try.f100.name == numgo) = false := by kernel_rfl
theorem QIm : (Try.f101.name == numgo) = false := by kernel_rfl
theorem Qna : (Try.f102.name == numgo) = false := by kernel_rfl
theorem QIn : (Try.f103.name == numgo) = false := by kernel_rfl
theorem Qnb : (Try.f107.name == numgo) = false := by kernel_rfl
theorem Qut : (Try.f108.name == numgo) = false := by kernel_rfl
theorem Quu : (Try.f109.name == numgo) = false := by kernel_rfl
theorem QIo : (Try.f110.name == numgo) = false := by kernel_rfl
theorem QIp : (Try.f111.name == numgo) = false := by kernel_rfl
theorem QIq : (Try.f112.name == numgo) = false := by kernel_rfl
theorem QIr : (Try.f113.name == numgo) = false := by kernel_rfl
theorem QIs : (Try.f114.name == numgo) = false := by kernel_rfl
theorem QIt : (Try.f115.name == numgo) = false := by kernel_rfl
theorem Quv : (Try.f116.name == numgo) = false := by kernel_rfl
theorem Quw : (Try.f117.name == numgo) = false := by kernel_rfl
theorem Qux : (Try.f118.name == numgo) = false := by kernel_rfl
theorem QIu : (Try.f123.name == numgo) = false := by kernel_rfl
theorem QIv : (Try.f124.name == numgo) = false := by kernel_rfl
theorem QIw : (Try.f125.name == numgo) = false := by kernel_rfl
theorem Quy : (Try.f126.name == numgo) = false := by kernel_rfl
theorem Quz : (Try.f132.name == numgo) = false := by kernel_rfl
theorem Qva : (Try.f133.name == numgo) = false := by kernel_rfl
theorem QIx : (Try.f138.name == numgo) = false := by kernel_rfl
theorem QIy : (Try.f139.name == numgo) = false := by kernel_rfl
theorem Qvb : (Try.f140.name == numgo) = false := by kernel_rfl
theorem Qhi : (Try.f141.name == numgo) = false := by kernel_rfl
theorem Qvc : (Try.f142.name == numgo) = false := by kernel_rfl
theorem QIz : (Try.f143.name == numgo) = false := by kernel_rfl
theorem QJa : (Try.f144.name == numgo) = false := by kernel_rfl
theorem Qvd : (Try.f145.name == numgo) = false := by kernel_rfl
theorem Qnc : (Try.f146.name == numgo) = false := by kernel_rfl
theorem QJb : (Try.f147.name == numgo) = false := by kernel_rfl
theorem QJc : (Try.f148.name == numgo) = false := by kernel_rfl
theorem QJd : (Try.f149.name == numgo) = false := by kernel_rfl
theorem Qve : (Try.f150.name == numgo) = false := by kernel_rfl
theorem QJe : (Try.f151.name == numgo) = false := by kernel_rfl
theorem QJf : (Try.f152.name == numgo) = false := by kernel_rfl
theorem Qvf : (Try.f154.name == numgo) = false := by kernel_rfl
theorem QJg : (Try.f155.name == numgo) = false := by kernel_rfl
theorem QJh : (Try.f156.name == numgo) = false := by kernel_rfl
theorem Qvg : (Try.f163.name == numgo) = false := by kernel_rfl
theorem Qvh : (Try.f164.name == numgo) = false := by kernel_rfl
theorem QJi : (Try.f165.name == numgo) = false := by kernel_rfl
theorem QJj : (Try.f166.name == numgo) = false := by kernel_rfl
theorem QJk : (Try.f167.name == numgo) = false := by kernel_rfl
theorem Qvi : (Try.f168.name == numgo) = false := by kernel_rfl
theorem QCe : Try.prog.eqGuardType Try.prog.depth 62 = false := by kernel_rfl
theorem QCj (a b : FeedDeparture) : EqS Try.prog 62 (List.toArray [(.string a.Train), (.int .i64 a.At)]) (List.toArray [(.string b.Train), (.int .i64 b.At)]) (decide (a = b)) := by
  refine ⟨fun c hc => by
    simp at hc
    repeat' (rcases hc with rfl | hc)
    all_goals simp_all [flat], fun w => ?_⟩
  have u3 := Try.underlying3
  have a3 := Try.isAgg3
  have z3 := Try.sizeOf3
  have u9 := Try.underlying9
  have a9 := Try.isAgg9
  have z9 := Try.sizeOf9
  have hS : Try.prog.underlying 62 = some (.struct (Try.prog.fieldsOf 62)) := by kernel_rfl
  have hp : Try.prog.stoodInHeld 62 = false := by kernel_rfl
  rw [run_equalIn_agg w 9999 62 _ _ hS hp]
  simp only [Program.fieldsOf, Try.underlying62]
  go_simp
  cases a; cases b; simp only [FeedDeparture.mk.injEq]
  repeat' split
  all_goals simp_all [Qki]
theorem QCf : Try.prog.eqGuardType Try.prog.depth 78 = false := by kernel_rfl
theorem QCk (a b : FeedBook) : EqS Try.prog 78 (List.toArray [(.int .i64 a.Fed), (.int .i64 a.Used), (.int .i64 a.Braked), (.int .i64 a.Lost), (.int .i64 a.Back), (.int .i64 a.Burned)]) (List.toArray [(.int .i64 b.Fed), (.int .i64 b.Used), (.int .i64 b.Braked), (.int .i64 b.Lost), (.int .i64 b.Back), (.int .i64 b.Burned)]) (decide (a = b)) := by
  refine ⟨fun c hc => by
    simp at hc
    repeat' (rcases hc with rfl | hc)
    all_goals simp_all [flat], fun w => ?_⟩
  have u3 := Try.underlying3
  have a3 := Try.isAgg3
  have z3 := Try.sizeOf3
  have hS : Try.prog.underlying 78 = some (.struct (Try.prog.fieldsOf 78)) := by kernel_rfl
  have hp : Try.prog.stoodInHeld 78 = false := by kernel_rfl
  rw [run_equalIn_agg w 9999 78 _ _ hS hp]
  simp only [Program.fieldsOf, Try.underlying78]
  go_simp
  cases a; cases b; simp only [FeedBook.mk.injEq]
  repeat' split
  all_goals simp_all [Qki]
theorem QCd : Try.prog.eqGuardType Try.prog.depth 107 = false := by kernel_rfl
theorem QCi (a b : Frac) : EqS Try.prog 107 (List.toArray [(.int .i64 a.Num), (.int .i64 a.Den)]) (List.toArray [(.int .i64 b.Num), (.int .i64 b.Den)]) (decide (a = b)) := by
  refine ⟨fun c hc => by
    simp at hc
    repeat' (rcases hc with rfl | hc)
    all_goals simp_all [flat], fun w => ?_⟩
  have u3 := Try.underlying3
  have a3 := Try.isAgg3
  have z3 := Try.sizeOf3
  have hS : Try.prog.underlying 107 = some (.struct (Try.prog.fieldsOf 107)) := by kernel_rfl
  have hp : Try.prog.stoodInHeld 107 = false := by kernel_rfl
  rw [run_equalIn_agg w 9999 107 _ _ hS hp]
  simp only [Program.fieldsOf, Try.underlying107]
  go_simp
  cases a; cases b; simp only [Frac.mk.injEq]
  repeat' split
  all_goals simp_all [Qki]
theorem XD : Try.prog.follows .mixedOrders = true := by kernel_rfl
end Go.Gw
