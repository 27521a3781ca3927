/- Facts of the types of the program. No condition. -/
import Derived.Test.YtbplgfhjpeeieaaGwSt
import Derived.Test.YtbplgfhjpeeieaaGwPlan
import Derived.Laws.StructEq
import Derived.Test.YtbplgfhjpeeieaaProg
set_option linter.unusedVariables false
set_option linter.unusedSimpArgs false
set_option linter.unusedSectionVars false
set_option maxRecDepth 100000
namespace Go.Gw
open Go Go.Proofs
abbrev numgo : String := "runtime.NumGoroutine"
theorem QL : XL Try.prog 3 1 := Yv (by kernel_rfl)
theorem sz4 : XL Try.prog 4 1 := Yv (by kernel_rfl)
theorem sz5 : XL Try.prog 5 1 := Yv (by kernel_rfl)
theorem Yw : XL Try.prog 9 1 := Yv (by kernel_rfl)
theorem YO : XL Try.prog 22 1 := Yv (by kernel_rfl)
theorem Zc : XL Try.prog 23 1 := Yv (by kernel_rfl)
theorem Yd : XL Try.prog 24 1 := Yv (by kernel_rfl)
theorem X9 : XL Try.prog 26 3 := Yv (by kernel_rfl)
theorem QNr : XL Try.prog 30 1 := Yv (by kernel_rfl)
theorem YS : XL Try.prog 41 2 := Yv (by kernel_rfl)
theorem Zn : XL Try.prog 52 1 := Yv (by kernel_rfl)
theorem ZY : XL Try.prog 62 2 := Yv (by kernel_rfl)
theorem JY : XL Try.prog 73 4 := Yv (by kernel_rfl)
theorem Qnx : XL Try.prog 78 6 := Yv (by kernel_rfl)
theorem Qnw : XL Try.prog 107 2 := Yv (by kernel_rfl)
theorem ZX : XL Try.prog 111 3 := Yv (by kernel_rfl)
theorem Y6 : XL Try.prog 125 1 := Yv (by kernel_rfl)
theorem X5 : XL Try.prog 127 4 := Yv (by kernel_rfl)
theorem Js : XL Try.prog 145 3 := Yv (by kernel_rfl)
theorem JK : XL Try.prog 149 3 := Yv (by kernel_rfl)
theorem Zx : XL Try.prog 154 3 := Yv (by kernel_rfl)
theorem Yz : XL Try.prog 158 5 := Yv (by kernel_rfl)
theorem Jt : XL Try.prog 185 2 := Yv (by kernel_rfl)
theorem QN : Zf Try.prog 3 := ⟨_, Try.underlying3, trivial⟩
theorem sc4 : Zf Try.prog 4 := ⟨_, Try.underlying4, trivial⟩
theorem sc5 : Zf Try.prog 5 := ⟨_, Try.underlying5, trivial⟩
theorem Yr : Zf Try.prog 9 := ⟨_, Try.underlying9, trivial⟩
theorem YN : Zf Try.prog 22 := ⟨_, Try.underlying22, trivial⟩
theorem Zb : Zf Try.prog 23 := ⟨_, Try.underlying23, trivial⟩
theorem Yk : Zf Try.prog 24 := ⟨_, Try.underlying24, trivial⟩
theorem QLt : Zf Try.prog 30 := ⟨_, Try.underlying30, trivial⟩
theorem ZU : Zf Try.prog 52 := ⟨_, Try.underlying52, trivial⟩
theorem Zm : Zf Try.prog 125 := ⟨_, Try.underlying125, trivial⟩
theorem XU : Aggr Try.prog 26 3 := Zg (by trivial) Try.underlying26 (by kernel_rfl)
theorem Yx : Aggr Try.prog 41 2 := Zg (by trivial) Try.underlying41 (by kernel_rfl)
theorem J8 : Aggr Try.prog 62 2 := Zg (by trivial) Try.underlying62 (by kernel_rfl)
theorem Z4 : Aggr Try.prog 73 4 := Zg (by trivial) Try.underlying73 (by kernel_rfl)
theorem Qzg : Aggr Try.prog 76 2 := Zg (by trivial) Try.underlying76 (by kernel_rfl)
theorem Qfl : Aggr Try.prog 78 6 := Zg (by trivial) Try.underlying78 (by kernel_rfl)
theorem Qol : Aggr Try.prog 94 2 := Zg (by trivial) Try.underlying94 (by kernel_rfl)
theorem Qjo : Aggr Try.prog 107 2 := Zg (by trivial) Try.underlying107 (by kernel_rfl)
theorem J7 : Aggr Try.prog 111 3 := Zg (by trivial) Try.underlying111 (by kernel_rfl)
theorem Y7 : Aggr Try.prog 127 4 := Zg (by trivial) Try.underlying127 (by kernel_rfl)
theorem Qok : Aggr Try.prog 145 3 := Zg (by trivial) Try.underlying145 (by kernel_rfl)
theorem YL : Aggr Try.prog 149 3 := Zg (by trivial) Try.underlying149 (by kernel_rfl)
theorem YU : Aggr Try.prog 154 3 := Zg (by trivial) Try.underlying154 (by kernel_rfl)
theorem YA : Aggr Try.prog 158 5 := Zg (by trivial) Try.underlying158 (by kernel_rfl)
theorem Qfk : Aggr Try.prog 185 2 := Zg (by trivial) Try.underlying185 (by kernel_rfl)
theorem Yy : EInfo Try.prog 3 1 8 (.int .i64 0) := Jy (by kernel_rfl) rfl (by decide)
theorem ei9 : EInfo Try.prog 9 1 16 (.string ByteArray.empty) := Jy (by kernel_rfl) rfl (by decide)
theorem ZK : EInfo Try.prog 30 1 8 (.int .i64 0) := Jy (by kernel_rfl) rfl (by decide)
theorem YB : EInfo Try.prog 62 2 24 (.agg (List.toArray [(.string ByteArray.empty), (.int .i64 0)])) := Jy (by kernel_rfl) rfl (by decide)
theorem Yu : EInfo Try.prog 73 4 32 (.agg (List.toArray [(.int .i64 0), (.int .i64 0), (.int .i64 0), (.int .i64 0)])) := Jy (by kernel_rfl) rfl (by decide)
theorem Qkl : EInfo Try.prog 107 2 16 (.agg (List.toArray [(.int .i64 0), (.int .i64 0)])) := Jy (by kernel_rfl) rfl (by decide)
theorem Qkm : EInfo Try.prog 127 4 56 (.agg (List.toArray [(.string ByteArray.empty), (.int .i64 0), (.int .i64 0), (.slice none 0 0)])) := Jy (by kernel_rfl) rfl (by decide)
theorem Y4 : EInfo Try.prog 145 3 32 (.agg (List.toArray [(.string ByteArray.empty), (.int .i64 0), (.bool false)])) := Jy (by kernel_rfl) rfl (by decide)
theorem YQ : EInfo Try.prog 158 5 64 (.agg (List.toArray [(.string ByteArray.empty), (.int .i64 0), (.int .i64 0), (.slice none 0 0), (.int .i64 0)])) := Jy (by kernel_rfl) rfl (by decide)
theorem Qgd : EInfo Try.prog 185 2 16 (.agg (List.toArray [(.int .i64 0), (.int .i64 0)])) := Jy (by kernel_rfl) rfl (by decide)
theorem Y8 : BI Try.prog 26 [(0, 1), (1, 1), (2, 1)] [(.slice none 0 0), (.slice none 0 0), (.slice none 0 0)] := Zh Try.underlying26 (by kernel_rfl) (by kernel_rfl)
theorem JS : BI Try.prog 41 [(0, 1), (1, 1)] [(.int .i64 0), (.int .i64 0)] := Zh Try.underlying41 (by kernel_rfl) (by kernel_rfl)
theorem Qbl : BI Try.prog 62 [(0, 1), (1, 1)] [(.string ByteArray.empty), (.int .i64 0)] := Zh Try.underlying62 (by kernel_rfl) (by kernel_rfl)
theorem Qpc : BI Try.prog 73 [(0, 1), (1, 1), (2, 1), (3, 1)] [(.int .i64 0), (.int .i64 0), (.int .i64 0), (.int .i64 0)] := Zh Try.underlying73 (by kernel_rfl) (by kernel_rfl)
theorem Qzx : BI Try.prog 76 [(0, 1), (1, 1)] [(.int .i64 0), (.int .i64 0)] := Zh Try.underlying76 (by kernel_rfl) (by kernel_rfl)
theorem Qpd : BI Try.prog 78 [(0, 1), (1, 1), (2, 1), (3, 1), (4, 1), (5, 1)] [(.int .i64 0), (.int .i64 0), (.int .i64 0), (.int .i64 0), (.int .i64 0), (.int .i64 0)] := Zh Try.underlying78 (by kernel_rfl) (by kernel_rfl)
theorem Qzy : BI Try.prog 94 [(0, 1), (1, 1)] [(.slice none 0 0), (.slice none 0 0)] := Zh Try.underlying94 (by kernel_rfl) (by kernel_rfl)
theorem Qoz : BI Try.prog 107 [(0, 1), (1, 1)] [(.int .i64 0), (.int .i64 0)] := Zh Try.underlying107 (by kernel_rfl) (by kernel_rfl)
theorem Qbk : BI Try.prog 111 [(0, 1), (1, 1), (2, 1)] [(.int .i64 0), (.int .i64 0), (.int .i64 0)] := Zh Try.underlying111 (by kernel_rfl) (by kernel_rfl)
theorem Qpa : BI Try.prog 127 [(0, 1), (1, 1), (2, 1), (3, 1)] [(.string ByteArray.empty), (.int .i64 0), (.int .i64 0), (.slice none 0 0)] := Zh Try.underlying127 (by kernel_rfl) (by kernel_rfl)
theorem Qpb : BI Try.prog 145 [(0, 1), (1, 1), (2, 1)] [(.string ByteArray.empty), (.int .i64 0), (.bool false)] := Zh Try.underlying145 (by kernel_rfl) (by kernel_rfl)
theorem Qzv : BI Try.prog 149 [(0, 3)] [(.slice none 0 0), (.slice none 0 0), (.slice none 0 0)] := Zh Try.underlying149 (by kernel_rfl) (by kernel_rfl)
theorem Qzw : BI Try.prog 154 [(0, 1), (1, 1), (2, 1)] [(.slice none 0 0), (.int .i64 0), (.bool false)] := Zh Try.underlying154 (by kernel_rfl) (by kernel_rfl)
theorem Qjx : BI Try.prog 158 [(0, 4), (4, 1)] [(.string ByteArray.empty), (.int .i64 0), (.int .i64 0), (.slice none 0 0), (.int .i64 0)] := Zh Try.underlying158 (by kernel_rfl) (by kernel_rfl)
theorem Qfp : BI Try.prog 185 [(0, 1), (1, 1)] [(.int .i64 0), (.int .i64 0)] := Zh Try.underlying185 (by kernel_rfl) (by kernel_rfl)
theorem ZC : ZI Try.prog 26 [(.slice none 0 0), (.slice none 0 0), (.slice none 0 0)] := Ze (by kernel_rfl)
theorem Qbh : ZI Try.prog 41 [(.int .i64 0), (.int .i64 0)] := Ze (by kernel_rfl)
theorem QQa : ZI Try.prog 62 [(.string ByteArray.empty), (.int .i64 0)] := Ze (by kernel_rfl)
theorem Qjg : ZI Try.prog 73 [(.int .i64 0), (.int .i64 0), (.int .i64 0), (.int .i64 0)] := Ze (by kernel_rfl)
theorem Qoe : ZI Try.prog 78 [(.int .i64 0), (.int .i64 0), (.int .i64 0), (.int .i64 0), (.int .i64 0), (.int .i64 0)] := Ze (by kernel_rfl)
theorem QPy : ZI Try.prog 107 [(.int .i64 0), (.int .i64 0)] := Ze (by kernel_rfl)
theorem J0 : ZI Try.prog 111 [(.int .i64 0), (.int .i64 0), (.int .i64 0)] := Ze (by kernel_rfl)
theorem Qan : ZI Try.prog 127 [(.string ByteArray.empty), (.int .i64 0), (.int .i64 0), (.slice none 0 0)] := Ze (by kernel_rfl)
theorem Qyv : ZI Try.prog 145 [(.string ByteArray.empty), (.int .i64 0), (.bool false)] := Ze (by kernel_rfl)
theorem J1 : ZI Try.prog 149 [(.slice none 0 0), (.slice none 0 0), (.slice none 0 0)] := Ze (by kernel_rfl)
theorem Qao : ZI Try.prog 154 [(.slice none 0 0), (.int .i64 0), (.bool false)] := Ze (by kernel_rfl)
theorem J2 : ZI Try.prog 158 [(.string ByteArray.empty), (.int .i64 0), (.int .i64 0), (.slice none 0 0), (.int .i64 0)] := Ze (by kernel_rfl)
theorem Qjf : ZI Try.prog 185 [(.int .i64 0), (.int .i64 0)] := Ze (by kernel_rfl)
theorem QIj : (Try.f19.name == numgo) = false := by kernel_rfl
theorem QIk : (Try.f20.name == numgo) = false := by kernel_rfl
theorem QIl : (Try.f22.name == numgo) = false := by kernel_rfl
theorem Qut : (Try.f23.name == numgo) = false := by kernel_rfl
theorem QIm : (Try.f24.name == numgo) = false := by kernel_rfl
theorem Qmq : (Try.f27.name == numgo) = false := by kernel_rfl
theorem QIn : (Try.f29.name == numgo) = false := by kernel_rfl
theorem QIo : (Try.f30.name == numgo) = false := by kernel_rfl
theorem Qce : (Try.f32.name == numgo) = false := by kernel_rfl
theorem QIp : (Try.f33.name == numgo) = false := by kernel_rfl
theorem Quu : (Try.f34.name == numgo) = false := by kernel_rfl
theorem QIq : (Try.f35.name == numgo) = false := by kernel_rfl
theorem QIr : (Try.f37.name == numgo) = false := by kernel_rfl
theorem Quv : (Try.f39.name == numgo) = false := by kernel_rfl
theorem QIs : (Try.f41.name == numgo) = false := by kernel_rfl
theorem QIt : (Try.f44.name == numgo) = false := by kernel_rfl
theorem QIu : (Try.f45.name == numgo) = false := by kernel_rfl
theorem Jq : (Try.f46.name == numgo) = false := by kernel_rfl
theorem QIv : (Try.f48.name == numgo) = false := by kernel_rfl
theorem QIw : (Try.f54.name == numgo) = false := by kernel_rfl
theorem QIx : (Try.f60.name == numgo) = false := by kernel_rfl
theorem QIy : (Try.f64.name == numgo) = false := by kernel_rfl
theorem QIz : (Try.f65.name == numgo) = false := by kernel_rfl
theorem Qhd : (Try.f83.name == numgo) = false := by kernel_rfl
theorem Qmr : (Try.f84.name == numgo) = false := by kernel_rfl
theorem Quw : (Try.f85.name == numgo) = false := by kernel_rfl
theorem QJc : (Try.f86.name == numgo) = false := by kernel_rfl
theorem Qcf : (Try.f87.name == numgo) = false := by kernel_rfl
theorem Qec : (Try.f89.name == numgo) = false := by kernel_rfl
theorem Qcg : (Try.f91.name == numgo) = false := by kernel_rfl
theorem ZR : (Try.f92.name == numgo) = false := by kernel_rfl
theorem Yc : (Try.f93.name == numgo) = false := by kernel_rfl
theorem Qux : (Try.f94.name == numgo) = false := by kernel_rfl
theorem Jr : (Try.f95.name == numgo) = false := by kernel_rfl
theorem QJd : (Try.f96.name == numgo) = false := by kernel_rfl
theorem QJe : (Try.f97.name == numgo) = false := by kernel_rfl
theorem Quy : (Try.f98.name == numgo) = false := by kernel_rfl
theorem Quz : (Try.f99.name == numgo) = false := by kernel_rfl
theorem QHj : (Try.f100.name == numgo) = false := by kernel_rfl
theorem QHk : (Try.f101.name == numgo) = false := by kernel_rfl
theorem Qeb : (Try.f102.name == numgo) = false := by kernel_rfl
theorem QHl : (Try.f103.name == numgo) = false := by kernel_rfl
theorem Qmo : (Try.f107.name == numgo) = false := by kernel_rfl
theorem Qud : (Try.f108.name == numgo) = false := by kernel_rfl
theorem Que : (Try.f109.name == numgo) = false := by kernel_rfl
theorem QHm : (Try.f110.name == numgo) = false := by kernel_rfl
theorem QHn : (Try.f111.name == numgo) = false := by kernel_rfl
theorem QHo : (Try.f112.name == numgo) = false := by kernel_rfl
theorem QHp : (Try.f113.name == numgo) = false := by kernel_rfl
theorem QHq : (Try.f114.name == numgo) = false := by kernel_rfl
theorem QHr : (Try.f115.name == numgo) = false := by kernel_rfl
theorem Quf : (Try.f116.name == numgo) = false := by kernel_rfl
theorem Qug : (Try.f117.name == numgo) = false := by kernel_rfl
theorem Quh : (Try.f118.name == numgo) = false := by kernel_rfl
theorem QHs : (Try.f123.name == numgo) = false := by kernel_rfl
theorem QHt : (Try.f124.name == numgo) = false := by kernel_rfl
theorem QHu : (Try.f125.name == numgo) = false := by kernel_rfl
theorem Qui : (Try.f126.name == numgo) = false := by kernel_rfl
theorem Qhb : (Try.f132.name == numgo) = false := by kernel_rfl
theorem Quj : (Try.f133.name == numgo) = false := by kernel_rfl
theorem Quk : (Try.f134.name == numgo) = false := by kernel_rfl
theorem QHv : (Try.f138.name == numgo) = false := by kernel_rfl
theorem QHw : (Try.f139.name == numgo) = false := by kernel_rfl
theorem Qul : (Try.f140.name == numgo) = false := by kernel_rfl
theorem Qhc : (Try.f141.name == numgo) = false := by kernel_rfl
theorem Qum : (Try.f142.name == numgo) = false := by kernel_rfl
theorem QHx : (Try.f143.name == numgo) = false := by kernel_rfl
theorem QHy : (Try.f144.name == numgo) = false := by kernel_rfl
theorem Qun : (Try.f145.name == numgo) = false := by kernel_rfl
theorem Qmp : (Try.f146.name == numgo) = false := by kernel_rfl
theorem QHz : (Try.f147.name == numgo) = false := by kernel_rfl
theorem QIa : (Try.f148.name == numgo) = false := by kernel_rfl
theorem QIb : (Try.f149.name == numgo) = false := by kernel_rfl
theorem Quo : (Try.f150.name == numgo) = false := by kernel_rfl
theorem QIc : (Try.f151.name == numgo) = false := by kernel_rfl
theorem QId : (Try.f152.name == numgo) = false := by kernel_rfl
theorem Qup : (Try.f154.name == numgo) = false := by kernel_rfl
theorem QIe : (Try.f155.name == numgo) = false := by kernel_rfl
theorem QIf : (Try.f156.name == numgo) = false := by kernel_rfl
theorem Quq : (Try.f163.name == numgo) = false := by kernel_rfl
theorem Qur : (Try.f164.name == numgo) = false := by kernel_rfl
theorem QIg : (Try.f165.name == numgo) = false := by kernel_rfl
theorem QIh : (Try.f166.name == numgo) = false := by kernel_rfl
theorem QIi : (Try.f167.name == numgo) = false := by kernel_rfl
theorem Qus : (Try.f168.name == numgo) = false := by kernel_rfl
theorem QAz : Try.prog.eqGuardType Try.prog.depth 62 = false := by kernel_rfl
theorem QBe (a b : FeedDeparture) : EqS Try.prog 62 (List.toArray [(.string a.Train), (.int .i64 a.At)]) (List.toArray [(.string b.Train), (.int .i64 b.At)]) (decide (a = b)) := by
  refine ⟨fun c hc => by
    simp at hc
    repeat' (rcases hc with rfl | hc)
    all_goals simp_all [Qae], fun w => ?_⟩
  have u3 := Try.underlying3
  have a3 := Try.isAgg3
  have z3 := Try.sizeOf3
  have u9 := Try.underlying9
  have a9 := Try.isAgg9
  have z9 := Try.sizeOf9
  have hS : Try.prog.underlying 62 = some (.struct (Try.prog.fieldsOf 62)) := by kernel_rfl
  have hp : Try.prog.stoodInHeld 62 = false := by kernel_rfl
  rw [run_equalIn_agg w 9999 62 _ _ hS hp]
  simp only [Program.fieldsOf, Try.underlying62]
  go_simp
  cases a; cases b; simp only [FeedDeparture.mk.injEq]
  repeat' split
  all_goals simp_all [Qka]
theorem QBa : Try.prog.eqGuardType Try.prog.depth 78 = false := by kernel_rfl
theorem QBf (a b : FeedBook) : EqS Try.prog 78 (List.toArray [(.int .i64 a.Fed), (.int .i64 a.Used), (.int .i64 a.Braked), (.int .i64 a.Lost), (.int .i64 a.Back), (.int .i64 a.Burned)]) (List.toArray [(.int .i64 b.Fed), (.int .i64 b.Used), (.int .i64 b.Braked), (.int .i64 b.Lost), (.int .i64 b.Back), (.int .i64 b.Burned)]) (decide (a = b)) := by
  refine ⟨fun c hc => by
    simp at hc
    repeat' (rcases hc with rfl | hc)
    all_goals simp_all [Qae], fun w => ?_⟩
  have u3 := Try.underlying3
  have a3 := Try.isAgg3
  have z3 := Try.sizeOf3
  have hS : Try.prog.underlying 78 = some (.struct (Try.prog.fieldsOf 78)) := by kernel_rfl
  have hp : Try.prog.stoodInHeld 78 = false := by kernel_rfl
  rw [run_equalIn_agg w 9999 78 _ _ hS hp]
  simp only [Program.fieldsOf, Try.underlying78]
  go_simp
  cases a; cases b; simp only [FeedBook.mk.injEq]
  repeat' split
  all_goals simp_all [Qka]
theorem QAy : Try.prog.eqGuardType Try.prog.depth 107 = false := by kernel_rfl
theorem QBd (a b : Frac) : EqS Try.prog 107 (List.toArray [(.int .i64 a.Num), (.int .i64 a.Den)]) (List.toArray [(.int .i64 b.Num), (.int .i64 b.Den)]) (decide (a = b)) := by
  refine ⟨fun c hc => by
    simp at hc
    repeat' (rcases hc with rfl | hc)
    all_goals simp_all [Qae], fun w => ?_⟩
  have u3 := Try.underlying3
  have a3 := Try.isAgg3
  have z3 := Try.sizeOf3
  have hS : Try.prog.underlying 107 = some (.struct (Try.prog.fieldsOf 107)) := by kernel_rfl
  have hp : Try.prog.stoodInHeld 107 = false := by kernel_rfl
  rw [run_equalIn_agg w 9999 107 _ _ hS hp]
  simp only [Program.fieldsOf, Try.underlying107]
  go_simp
  cases a; cases b; simp only [Frac.mk.injEq]
  repeat' split
  all_goals simp_all [Qka]
theorem Xz : Try.prog.follows .mixedOrders = true := by kernel_rfl
end Go.Gw
