/- Facts of the types of the program. No condition. -/
import Derived.Test.YtbplgfhjpeeieaaGwSt
import Derived.Test.YtbplgfhjpeeieaaGwPlan
import Derived.Laws.StructEq
import Derived.Test.YtbplgfhjpeeieaaProg
set_option linter.unusedVariables false
set_option linter.unusedSimpArgs false
set_option linter.unusedSectionVars false
set_option maxRecDepth 100000
namespace Go.Gw
open Go Go.Proofs
abbrev numgo : String := "runtime.NumGoroutine"
theorem QK : XL Try.prog 3 1 := Yr (by kernel_rfl)
theorem sz4 : XL Try.prog 4 1 := Yr (by kernel_rfl)
theorem sz5 : XL Try.prog 5 1 := Yr (by kernel_rfl)
theorem Yw : XL Try.prog 9 1 := Yr (by kernel_rfl)
theorem YH : XL Try.prog 22 1 := Yr (by kernel_rfl)
theorem Y9 : XL Try.prog 23 1 := Yr (by kernel_rfl)
theorem X8 : XL Try.prog 24 1 := Yr (by kernel_rfl)
theorem X5 : XL Try.prog 26 3 := Yr (by kernel_rfl)
theorem QOb : XL Try.prog 30 1 := Yr (by kernel_rfl)
theorem YS : XL Try.prog 41 2 := Yr (by kernel_rfl)
theorem Zl : XL Try.prog 52 1 := Yr (by kernel_rfl)
theorem Zm : XL Try.prog 62 2 := Yr (by kernel_rfl)
theorem J1 : XL Try.prog 73 4 := Yr (by kernel_rfl)
theorem Qoe : XL Try.prog 78 6 := Yr (by kernel_rfl)
theorem Qod : XL Try.prog 107 2 := Yr (by kernel_rfl)
theorem YW : XL Try.prog 111 3 := Yr (by kernel_rfl)
theorem YZ : XL Try.prog 125 1 := Yr (by kernel_rfl)
theorem Ym : XL Try.prog 127 4 := Yr (by kernel_rfl)
theorem Jn : XL Try.prog 145 3 := Yr (by kernel_rfl)
theorem JJ : XL Try.prog 149 3 := Yr (by kernel_rfl)
theorem Zy : XL Try.prog 154 3 := Yr (by kernel_rfl)
theorem YG : XL Try.prog 158 5 := Yr (by kernel_rfl)
theorem Jo : XL Try.prog 185 2 := Yr (by kernel_rfl)
theorem QP : Zc Try.prog 3 := ⟨_, Try.underlying3, trivial⟩
theorem sc4 : Zc Try.prog 4 := ⟨_, Try.underlying4, trivial⟩
theorem sc5 : Zc Try.prog 5 := ⟨_, Try.underlying5, trivial⟩
theorem Yq : Zc Try.prog 9 := ⟨_, Try.underlying9, trivial⟩
theorem YF : Zc Try.prog 22 := ⟨_, Try.underlying22, trivial⟩
theorem Y8 : Zc Try.prog 23 := ⟨_, Try.underlying23, trivial⟩
theorem Yi : Zc Try.prog 24 := ⟨_, Try.underlying24, trivial⟩
theorem QMd : Zc Try.prog 30 := ⟨_, Try.underlying30, trivial⟩
theorem ZW : Zc Try.prog 52 := ⟨_, Try.underlying52, trivial⟩
theorem Y7 : Zc Try.prog 125 := ⟨_, Try.underlying125, trivial⟩
theorem XI : Aggr Try.prog 26 3 := Zd (by trivial) Try.underlying26 (by kernel_rfl)
theorem Yu : Aggr Try.prog 41 2 := Zd (by trivial) Try.underlying41 (by kernel_rfl)
theorem Qju : Aggr Try.prog 62 2 := Zd (by trivial) Try.underlying62 (by kernel_rfl)
theorem Z4 : Aggr Try.prog 73 4 := Zd (by trivial) Try.underlying73 (by kernel_rfl)
theorem Qzg : Aggr Try.prog 76 2 := Zd (by trivial) Try.underlying76 (by kernel_rfl)
theorem Qfl : Aggr Try.prog 78 6 := Zd (by trivial) Try.underlying78 (by kernel_rfl)
theorem Qor : Aggr Try.prog 94 2 := Zd (by trivial) Try.underlying94 (by kernel_rfl)
theorem Qjt : Aggr Try.prog 107 2 := Zd (by trivial) Try.underlying107 (by kernel_rfl)
theorem Yt : Aggr Try.prog 111 3 := Zd (by trivial) Try.underlying111 (by kernel_rfl)
theorem Zo : Aggr Try.prog 127 4 := Zd (by trivial) Try.underlying127 (by kernel_rfl)
theorem Qoq : Aggr Try.prog 145 3 := Zd (by trivial) Try.underlying145 (by kernel_rfl)
theorem YA : Aggr Try.prog 149 3 := Zd (by trivial) Try.underlying149 (by kernel_rfl)
theorem YT : Aggr Try.prog 154 3 := Zd (by trivial) Try.underlying154 (by kernel_rfl)
theorem YB : Aggr Try.prog 158 5 := Zd (by trivial) Try.underlying158 (by kernel_rfl)
theorem Qfk : Aggr Try.prog 185 2 := Zd (by trivial) Try.underlying185 (by kernel_rfl)
theorem Yv : EInfo Try.prog 3 1 8 (.int .i64 0) := Jv (by kernel_rfl) rfl (by decide)
theorem ei9 : EInfo Try.prog 9 1 16 (.string ByteArray.empty) := Jv (by kernel_rfl) rfl (by decide)
theorem ZN : EInfo Try.prog 30 1 8 (.int .i64 0) := Jv (by kernel_rfl) rfl (by decide)
theorem Qaq : EInfo Try.prog 62 2 24 (.agg (List.toArray [(.string ByteArray.empty), (.int .i64 0)])) := Jv (by kernel_rfl) rfl (by decide)
theorem Yo : EInfo Try.prog 73 4 32 (.agg (List.toArray [(.int .i64 0), (.int .i64 0), (.int .i64 0), (.int .i64 0)])) := Jv (by kernel_rfl) rfl (by decide)
theorem Qko : EInfo Try.prog 107 2 16 (.agg (List.toArray [(.int .i64 0), (.int .i64 0)])) := Jv (by kernel_rfl) rfl (by decide)
theorem Qkp : EInfo Try.prog 127 4 56 (.agg (List.toArray [(.string ByteArray.empty), (.int .i64 0), (.int .i64 0), (.slice none 0 0)])) := Jv (by kernel_rfl) rfl (by decide)
theorem Y0 : EInfo Try.prog 145 3 32 (.agg (List.toArray [(.string ByteArray.empty), (.int .i64 0), (.bool false)])) := Jv (by kernel_rfl) rfl (by decide)
theorem YQ : EInfo Try.prog 158 5 64 (.agg (List.toArray [(.string ByteArray.empty), (.int .i64 0), (.int .i64 0), (.slice none 0 0), (.int .i64 0)])) := Jv (by kernel_rfl) rfl (by decide)
theorem Qgf : EInfo Try.prog 185 2 16 (.agg (List.toArray [(.int .i64 0), (.int .i64 0)])) := Jv (by kernel_rfl) rfl (by decide)
theorem Y3 : BI Try.prog 26 [(0, 1), (1, 1), (2, 1)] [(.slice none 0 0), (.slice none 0 0), (.slice none 0 0)] := Zf Try.underlying26 (by kernel_rfl) (by kernel_rfl)
theorem JR : BI Try.prog 41 [(0, 1), (1, 1)] [(.int .i64 0), (.int .i64 0)] := Zf Try.underlying41 (by kernel_rfl) (by kernel_rfl)
theorem Qbg : BI Try.prog 62 [(0, 1), (1, 1)] [(.string ByteArray.empty), (.int .i64 0)] := Zf Try.underlying62 (by kernel_rfl) (by kernel_rfl)
theorem Qph : BI Try.prog 73 [(0, 1), (1, 1), (2, 1), (3, 1)] [(.int .i64 0), (.int .i64 0), (.int .i64 0), (.int .i64 0)] := Zf Try.underlying73 (by kernel_rfl) (by kernel_rfl)
theorem Qzz : BI Try.prog 76 [(0, 1), (1, 1)] [(.int .i64 0), (.int .i64 0)] := Zf Try.underlying76 (by kernel_rfl) (by kernel_rfl)
theorem Qpi : BI Try.prog 78 [(0, 1), (1, 1), (2, 1), (3, 1), (4, 1), (5, 1)] [(.int .i64 0), (.int .i64 0), (.int .i64 0), (.int .i64 0), (.int .i64 0), (.int .i64 0)] := Zf Try.underlying78 (by kernel_rfl) (by kernel_rfl)
theorem QAa : BI Try.prog 94 [(0, 1), (1, 1)] [(.slice none 0 0), (.slice none 0 0)] := Zf Try.underlying94 (by kernel_rfl) (by kernel_rfl)
theorem Qpe : BI Try.prog 107 [(0, 1), (1, 1)] [(.int .i64 0), (.int .i64 0)] := Zf Try.underlying107 (by kernel_rfl) (by kernel_rfl)
theorem Js : BI Try.prog 111 [(0, 1), (1, 1), (2, 1)] [(.int .i64 0), (.int .i64 0), (.int .i64 0)] := Zf Try.underlying111 (by kernel_rfl) (by kernel_rfl)
theorem Qpf : BI Try.prog 127 [(0, 1), (1, 1), (2, 1), (3, 1)] [(.string ByteArray.empty), (.int .i64 0), (.int .i64 0), (.slice none 0 0)] := Zf Try.underlying127 (by kernel_rfl) (by kernel_rfl)
theorem Qpg : BI Try.prog 145 [(0, 1), (1, 1), (2, 1)] [(.string ByteArray.empty), (.int .i64 0), (.bool false)] := Zf Try.underlying145 (by kernel_rfl) (by kernel_rfl)
theorem Qzx : BI Try.prog 149 [(0, 3)] [(.slice none 0 0), (.slice none 0 0), (.slice none 0 0)] := Zf Try.underlying149 (by kernel_rfl) (by kernel_rfl)
theorem Qzy : BI Try.prog 154 [(0, 1), (1, 1), (2, 1)] [(.slice none 0 0), (.int .i64 0), (.bool false)] := Zf Try.underlying154 (by kernel_rfl) (by kernel_rfl)
theorem Qkd : BI Try.prog 158 [(0, 4), (4, 1)] [(.string ByteArray.empty), (.int .i64 0), (.int .i64 0), (.slice none 0 0), (.int .i64 0)] := Zf Try.underlying158 (by kernel_rfl) (by kernel_rfl)
theorem Qfp : BI Try.prog 185 [(0, 1), (1, 1)] [(.int .i64 0), (.int .i64 0)] := Zf Try.underlying185 (by kernel_rfl) (by kernel_rfl)
theorem ZE : ZI Try.prog 26 [(.slice none 0 0), (.slice none 0 0), (.slice none 0 0)] := Zb (by kernel_rfl)
theorem Qbe : ZI Try.prog 41 [(.int .i64 0), (.int .i64 0)] := Zb (by kernel_rfl)
theorem QQh : ZI Try.prog 62 [(.string ByteArray.empty), (.int .i64 0)] := Zb (by kernel_rfl)
theorem Qjl : ZI Try.prog 73 [(.int .i64 0), (.int .i64 0), (.int .i64 0), (.int .i64 0)] := Zb (by kernel_rfl)
theorem Qol : ZI Try.prog 78 [(.int .i64 0), (.int .i64 0), (.int .i64 0), (.int .i64 0), (.int .i64 0), (.int .i64 0)] := Zb (by kernel_rfl)
theorem QQf : ZI Try.prog 107 [(.int .i64 0), (.int .i64 0)] := Zb (by kernel_rfl)
theorem ZD : ZI Try.prog 111 [(.int .i64 0), (.int .i64 0), (.int .i64 0)] := Zb (by kernel_rfl)
theorem Qcn : ZI Try.prog 127 [(.string ByteArray.empty), (.int .i64 0), (.int .i64 0), (.slice none 0 0)] := Zb (by kernel_rfl)
theorem Qyw : ZI Try.prog 145 [(.string ByteArray.empty), (.int .i64 0), (.bool false)] := Zb (by kernel_rfl)
theorem J4 : ZI Try.prog 149 [(.slice none 0 0), (.slice none 0 0), (.slice none 0 0)] := Zb (by kernel_rfl)
theorem Qaj : ZI Try.prog 154 [(.slice none 0 0), (.int .i64 0), (.bool false)] := Zb (by kernel_rfl)
theorem Qak : ZI Try.prog 158 [(.string ByteArray.empty), (.int .i64 0), (.int .i64 0), (.slice none 0 0), (.int .i64 0)] := Zb (by kernel_rfl)
theorem Qjk : ZI Try.prog 185 [(.int .i64 0), (.int .i64 0)] := Zb (by kernel_rfl)
theorem QIp : (Try.f19.name == numgo) = false := by kernel_rfl
theorem QIq : (Try.f20.name == numgo) = false := by kernel_rfl
theorem QIr : (Try.f22.name == numgo) = false := by kernel_rfl
theorem Quw : (Try.f23.name == numgo) = false := by kernel_rfl
theorem QIs : (Try.f24.name == numgo) = false := by kernel_rfl
theorem QIt : (Try.f27.name == numgo) = false := by kernel_rfl
theorem QIu : (Try.f29.name == numgo) = false := by kernel_rfl
theorem QIv : (Try.f30.name == numgo) = false := by kernel_rfl
theorem Qux : (Try.f32.name == numgo) = false := by kernel_rfl
theorem QIw : (Try.f33.name == numgo) = false := by kernel_rfl
theorem QIx : (Try.f34.name == numgo) = false := by kernel_rfl
theorem QIy : (Try.f35.name == numgo) = false := by kernel_rfl
theorem QIz : (Try.f37.name == numgo) = false := by kernel_rfl
theorem Quy : (Try.f39.name == numgo) = false := by kernel_rfl
theorem QJa : (Try.f41.name == numgo) = false := by kernel_rfl
theorem QJb : (Try.f44.name == numgo) = false := by kernel_rfl
theorem Qmv : (Try.f45.name == numgo) = false := by kernel_rfl
theorem Jk : (Try.f46.name == numgo) = false := by kernel_rfl
theorem QJc : (Try.f48.name == numgo) = false := by kernel_rfl
theorem QJd : (Try.f54.name == numgo) = false := by kernel_rfl
theorem QJe : (Try.f60.name == numgo) = false := by kernel_rfl
theorem QJf : (Try.f63.name == numgo) = false := by kernel_rfl
theorem QJg : (Try.f64.name == numgo) = false := by kernel_rfl
theorem QJh : (Try.f65.name == numgo) = false := by kernel_rfl
theorem QJi : (Try.f66.name == numgo) = false := by kernel_rfl
theorem QJj : (Try.f67.name == numgo) = false := by kernel_rfl
theorem Qhg : (Try.f83.name == numgo) = false := by kernel_rfl
theorem Qmw : (Try.f84.name == numgo) = false := by kernel_rfl
theorem Quz : (Try.f85.name == numgo) = false := by kernel_rfl
theorem QJk : (Try.f86.name == numgo) = false := by kernel_rfl
theorem Qca : (Try.f87.name == numgo) = false := by kernel_rfl
theorem Qdy : (Try.f89.name == numgo) = false := by kernel_rfl
theorem Qdz : (Try.f91.name == numgo) = false := by kernel_rfl
theorem ZT : (Try.f92.name == numgo) = false := by kernel_rfl
theorem Yc : (Try.f93.name == numgo) = false := by kernel_rfl
theorem Qva : (Try.f94.name == numgo) = false := by kernel_rfl
theorem Jl : (Try.f95.name == numgo) = false := by kernel_rfl
theorem QJl : (Try.f96.name == numgo) = false := by kernel_rfl
theorem QJm : (Try.f97.name == numgo) = false := by kernel_rfl
theorem QJn : (Try.f98.name == numgo) = false := by kernel_rfl
theorem Qvb : (Try.f99.name == numgo) = false := by kernel_rfl
theorem QHo : (Try.f100.name == numgo) = false := by kernel_rfl
theorem QHp : (Try.f101.name == numgo) = false := by kernel_rfl
theorem Qdx : (Try.f102.name == numgo) = false := by kernel_rfl
theorem QHq : (Try.f103.name == numgo) = false := by kernel_rfl
theorem Qmr : (Try.f107.name == numgo) = false := by kernel_rfl
theorem Qui : (Try.f108.name == numgo) = false := by kernel_rfl
theorem Qhe : (Try.f109.name == numgo) = false := by kernel_rfl
theorem QHr : (Try.f110.name == numgo) = false := by kernel_rfl
theorem QHs : (Try.f111.name == numgo) = false := by kernel_rfl
theorem QHt : (Try.f112.name == numgo) = false := by kernel_rfl
theorem QHu : (Try.f113.name == numgo) = false := by kernel_rfl
theorem QHv : (Try.f114.name == numgo) = false := by kernel_rfl
theorem QHw : (Try.f115.name == numgo) = false := by kernel_rfl
theorem Quj : (Try.f116.name == numgo) = false := by kernel_rfl
theorem Quk : (Try.f117.name == numgo) = false := by kernel_rfl
theorem Qul : (Try.f118.name == numgo) = false := by kernel_rfl
theorem Qum : (Try.f122.name == numgo) = false := by kernel_rfl
theorem QHx : (Try.f123.name == numgo) = false := by kernel_rfl
theorem QHy : (Try.f124.name == numgo) = false := by kernel_rfl
theorem QHz : (Try.f125.name == numgo) = false := by kernel_rfl
theorem Qun : (Try.f126.name == numgo) = false := by kernel_rfl
theorem QIa : (Try.f131.name == numgo) = false := by kernel_rfl
theorem Qms : (Try.f132.name == numgo) = false := by kernel_rfl
theorem Qmt : (Try.f133.name == numgo) = false := by kernel_rfl
theorem QIb : (Try.f138.name == numgo) = false := by kernel_rfl
theorem QIc : (Try.f139.name == numgo) = false := by kernel_rfl
theorem Quo : (Try.f140.name == numgo) = false := by kernel_rfl
theorem Qhf : (Try.f141.name == numgo) = false := by kernel_rfl
theorem Qup : (Try.f142.name == numgo) = false := by kernel_rfl
theorem QId : (Try.f143.name == numgo) = false := by kernel_rfl
theorem QIe : (Try.f144.name == numgo) = false := by kernel_rfl
theorem Quq : (Try.f145.name == numgo) = false := by kernel_rfl
theorem Qmu : (Try.f146.name == numgo) = false := by kernel_rfl
theorem QIf : (Try.f147.name == numgo) = false := by kernel_rfl
theorem QIg : (Try.f148.name == numgo) = false := by kernel_rfl
theorem QIh : (Try.f149.name == numgo) = false := by kernel_rfl
theorem Qur : (Try.f150.name == numgo) = false := by kernel_rfl
theorem QIi : (Try.f151.name == numgo) = false := by kernel_rfl
theorem QIj : (Try.f152.name == numgo) = false := by kernel_rfl
theorem Qus : (Try.f154.name == numgo) = false := by kernel_rfl
theorem QIk : (Try.f155.name == numgo) = false := by kernel_rfl
theorem QIl : (Try.f156.name == numgo) = false := by kernel_rfl
theorem Qut : (Try.f163.name == numgo) = false := by kernel_rfl
theorem Quu : (Try.f164.name == numgo) = false := by kernel_rfl
theorem QIm : (Try.f165.name == numgo) = false := by kernel_rfl
theorem QIn : (Try.f166.name == numgo) = false := by kernel_rfl
theorem QIo : (Try.f167.name == numgo) = false := by kernel_rfl
theorem Quv : (Try.f168.name == numgo) = false := by kernel_rfl
theorem QBb : Try.prog.eqGuardType Try.prog.depth 62 = false := by kernel_rfl
theorem QBg (a b : FeedDeparture) : EqS Try.prog 62 (List.toArray [(.string a.Train), (.int .i64 a.At)]) (List.toArray [(.string b.Train), (.int .i64 b.At)]) (decide (a = b)) := by
  refine ⟨fun c hc => by
    simp at hc
    repeat' (rcases hc with rfl | hc)
    all_goals simp_all [JX], fun w => ?_⟩
  have u3 := Try.underlying3
  have a3 := Try.isAgg3
  have z3 := Try.sizeOf3
  have u9 := Try.underlying9
  have a9 := Try.isAgg9
  have z9 := Try.sizeOf9
  have hS : Try.prog.underlying 62 = some (.struct (Try.prog.fieldsOf 62)) := by kernel_rfl
  have hp : Try.prog.stoodInHeld 62 = false := by kernel_rfl
  rw [run_equalIn_agg w 9999 62 _ _ hS hp]
  simp only [Program.fieldsOf, Try.underlying62]
  go_simp
  cases a; cases b; simp only [FeedDeparture.mk.injEq]
  repeat' split
  all_goals simp_all [Qft]
theorem QBc : Try.prog.eqGuardType Try.prog.depth 78 = false := by kernel_rfl
theorem QBh (a b : FeedBook) : EqS Try.prog 78 (List.toArray [(.int .i64 a.Fed), (.int .i64 a.Used), (.int .i64 a.Braked), (.int .i64 a.Lost), (.int .i64 a.Back), (.int .i64 a.Burned)]) (List.toArray [(.int .i64 b.Fed), (.int .i64 b.Used), (.int .i64 b.Braked), (.int .i64 b.Lost), (.int .i64 b.Back), (.int .i64 b.Burned)]) (decide (a = b)) := by
  refine ⟨fun c hc => by
    simp at hc
    repeat' (rcases hc with rfl | hc)
    all_goals simp_all [JX], fun w => ?_⟩
  have u3 := Try.underlying3
  have a3 := Try.isAgg3
  have z3 := Try.sizeOf3
  have hS : Try.prog.underlying 78 = some (.struct (Try.prog.fieldsOf 78)) := by kernel_rfl
  have hp : Try.prog.stoodInHeld 78 = false := by kernel_rfl
  rw [run_equalIn_agg w 9999 78 _ _ hS hp]
  simp only [Program.fieldsOf, Try.underlying78]
  go_simp
  cases a; cases b; simp only [FeedBook.mk.injEq]
  repeat' split
  all_goals simp_all [Qft]
theorem QBa : Try.prog.eqGuardType Try.prog.depth 107 = false := by kernel_rfl
theorem QBf (a b : Frac) : EqS Try.prog 107 (List.toArray [(.int .i64 a.Num), (.int .i64 a.Den)]) (List.toArray [(.int .i64 b.Num), (.int .i64 b.Den)]) (decide (a = b)) := by
  refine ⟨fun c hc => by
    simp at hc
    repeat' (rcases hc with rfl | hc)
    all_goals simp_all [JX], fun w => ?_⟩
  have u3 := Try.underlying3
  have a3 := Try.isAgg3
  have z3 := Try.sizeOf3
  have hS : Try.prog.underlying 107 = some (.struct (Try.prog.fieldsOf 107)) := by kernel_rfl
  have hp : Try.prog.stoodInHeld 107 = false := by kernel_rfl
  rw [run_equalIn_agg w 9999 107 _ _ hS hp]
  simp only [Program.fieldsOf, Try.underlying107]
  go_simp
  cases a; cases b; simp only [Frac.mk.injEq]
  repeat' split
  all_goals simp_all [Qft]
theorem Qbh : Try.prog.eqGuardType Try.prog.depth 111 = false := by kernel_rfl
theorem Qbi (a b : FeedPeak) : EqS Try.prog 111 (List.toArray [(.int .i64 a.Tick), (.int .i64 a.Station), (.int .i64 a.Load)]) (List.toArray [(.int .i64 b.Tick), (.int .i64 b.Station), (.int .i64 b.Load)]) (decide (a = b)) := by
  refine ⟨fun c hc => by
    simp at hc
    repeat' (rcases hc with rfl | hc)
    all_goals simp_all [JX], fun w => ?_⟩
  have u3 := Try.underlying3
  have a3 := Try.isAgg3
  have z3 := Try.sizeOf3
  have hS : Try.prog.underlying 111 = some (.struct (Try.prog.fieldsOf 111)) := by kernel_rfl
  have hp : Try.prog.stoodInHeld 111 = false := by kernel_rfl
  rw [run_equalIn_agg w 9999 111 _ _ hS hp]
  simp only [Program.fieldsOf, Try.underlying111]
  go_simp
  cases a; cases b; simp only [FeedPeak.mk.injEq]
  repeat' split
  all_goals simp_all [Qft]
theorem XE : Try.prog.follows .mixedOrders = true := by kernel_rfl
end Go.Gw
