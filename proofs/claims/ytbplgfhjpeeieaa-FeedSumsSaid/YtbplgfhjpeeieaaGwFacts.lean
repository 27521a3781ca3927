/- Facts of the types of the program. No condition. -/
import Derived.Test.YtbplgfhjpeeieaaGwSt
import Derived.Test.YtbplgfhjpeeieaaGwPlan
import Derived.Laws.StructEq
import Derived.Test.YtbplgfhjpeeieaaProg
set_option linter.unusedVariables false
set_option linter.unusedSimpArgs false
set_option linter.unusedSectionVars false
set_option maxRecDepth 100000
namespace Go.Gw
open Go Go.Proofs
abbrev numgo : String := "runtime.NumGoroutine"
theorem QL : XF Try.prog 3 1 := Yp (by kernel_rfl)
theorem sz4 : XF Try.prog 4 1 := Yp (by kernel_rfl)
theorem sz5 : XF Try.prog 5 1 := Yp (by kernel_rfl)
theorem YD : XF Try.prog 9 1 := Yp (by kernel_rfl)
theorem YK : XF Try.prog 22 1 := Yp (by kernel_rfl)
theorem Y1 : XF Try.prog 23 1 := Yp (by kernel_rfl)
theorem Yg : XF Try.prog 24 1 := Yp (by kernel_rfl)
theorem XZ : XF Try.prog 26 3 := Yp (by kernel_rfl)
theorem QMp : XF Try.prog 30 1 := Yp (by kernel_rfl)
theorem YT : XF Try.prog 41 2 := Yp (by kernel_rfl)
theorem Zm : XF Try.prog 52 1 := Yp (by kernel_rfl)
theorem Jy : XF Try.prog 62 2 := Yp (by kernel_rfl)
theorem JQ : XF Try.prog 73 4 := Yp (by kernel_rfl)
theorem Qnh : XF Try.prog 78 6 := Yp (by kernel_rfl)
theorem Qng : XF Try.prog 107 2 := Yp (by kernel_rfl)
theorem Qed : XF Try.prog 111 3 := Yp (by kernel_rfl)
theorem Zy : XF Try.prog 125 1 := Yp (by kernel_rfl)
theorem YJ : XF Try.prog 127 4 := Yp (by kernel_rfl)
theorem Jx : XF Try.prog 145 3 := Yp (by kernel_rfl)
theorem JO : XF Try.prog 149 3 := Yp (by kernel_rfl)
theorem Zz : XF Try.prog 154 3 := Yp (by kernel_rfl)
theorem YC : XF Try.prog 158 5 := Yp (by kernel_rfl)
theorem JP : XF Try.prog 185 2 := Yp (by kernel_rfl)
theorem QP : Zf Try.prog 3 := ⟨_, Try.underlying3, trivial⟩
theorem sc4 : Zf Try.prog 4 := ⟨_, Try.underlying4, trivial⟩
theorem sc5 : Zf Try.prog 5 := ⟨_, Try.underlying5, trivial⟩
theorem Yw : Zf Try.prog 9 := ⟨_, Try.underlying9, trivial⟩
theorem YH : Zf Try.prog 22 := ⟨_, Try.underlying22, trivial⟩
theorem YY : Zf Try.prog 23 := ⟨_, Try.underlying23, trivial⟩
theorem Yo : Zf Try.prog 24 := ⟨_, Try.underlying24, trivial⟩
theorem QKp : Zf Try.prog 30 := ⟨_, Try.underlying30, trivial⟩
theorem ZP : Zf Try.prog 52 := ⟨_, Try.underlying52, trivial⟩
theorem Z1 : Zf Try.prog 125 := ⟨_, Try.underlying125, trivial⟩
theorem X7 : Aggr Try.prog 26 3 := Zg (by trivial) Try.underlying26 (by kernel_rfl)
theorem Yu : Aggr Try.prog 41 2 := Zg (by trivial) Try.underlying41 (by kernel_rfl)
theorem Qen : Aggr Try.prog 62 2 := Zg (by trivial) Try.underlying62 (by kernel_rfl)
theorem JH : Aggr Try.prog 73 4 := Zg (by trivial) Try.underlying73 (by kernel_rfl)
theorem Qym : Aggr Try.prog 76 2 := Zg (by trivial) Try.underlying76 (by kernel_rfl)
theorem Qeo : Aggr Try.prog 78 6 := Zg (by trivial) Try.underlying78 (by kernel_rfl)
theorem Qnx : Aggr Try.prog 94 2 := Zg (by trivial) Try.underlying94 (by kernel_rfl)
theorem Qiw : Aggr Try.prog 107 2 := Zg (by trivial) Try.underlying107 (by kernel_rfl)
theorem Qix : Aggr Try.prog 111 3 := Zg (by trivial) Try.underlying111 (by kernel_rfl)
theorem ZU : Aggr Try.prog 127 4 := Zg (by trivial) Try.underlying127 (by kernel_rfl)
theorem Qnw : Aggr Try.prog 145 3 := Zg (by trivial) Try.underlying145 (by kernel_rfl)
theorem YO : Aggr Try.prog 149 3 := Zg (by trivial) Try.underlying149 (by kernel_rfl)
theorem YV : Aggr Try.prog 154 3 := Zg (by trivial) Try.underlying154 (by kernel_rfl)
theorem Yz : Aggr Try.prog 158 5 := Zg (by trivial) Try.underlying158 (by kernel_rfl)
theorem Qem : Aggr Try.prog 185 2 := Zg (by trivial) Try.underlying185 (by kernel_rfl)
theorem YA : EInfo Try.prog 3 1 8 (.int .i64 0) := Jl (by kernel_rfl) rfl (by decide)
theorem ei9 : EInfo Try.prog 9 1 16 (.string ByteArray.empty) := Jl (by kernel_rfl) rfl (by decide)
theorem ZH : EInfo Try.prog 30 1 8 (.int .i64 0) := Jl (by kernel_rfl) rfl (by decide)
theorem JK : EInfo Try.prog 62 2 24 (.agg (List.toArray [(.string ByteArray.empty), (.int .i64 0)])) := Jl (by kernel_rfl) rfl (by decide)
theorem Yn : EInfo Try.prog 73 4 32 (.agg (List.toArray [(.int .i64 0), (.int .i64 0), (.int .i64 0), (.int .i64 0)])) := Jl (by kernel_rfl) rfl (by decide)
theorem Qjt : EInfo Try.prog 107 2 16 (.agg (List.toArray [(.int .i64 0), (.int .i64 0)])) := Jl (by kernel_rfl) rfl (by decide)
theorem Qju : EInfo Try.prog 127 4 56 (.agg (List.toArray [(.string ByteArray.empty), (.int .i64 0), (.int .i64 0), (.slice none 0 0)])) := Jl (by kernel_rfl) rfl (by decide)
theorem Y7 : EInfo Try.prog 145 3 32 (.agg (List.toArray [(.string ByteArray.empty), (.int .i64 0), (.bool false)])) := Jl (by kernel_rfl) rfl (by decide)
theorem YQ : EInfo Try.prog 158 5 64 (.agg (List.toArray [(.string ByteArray.empty), (.int .i64 0), (.int .i64 0), (.slice none 0 0), (.int .i64 0)])) := Jl (by kernel_rfl) rfl (by decide)
theorem Qfi : EInfo Try.prog 185 2 16 (.agg (List.toArray [(.int .i64 0), (.int .i64 0)])) := Jl (by kernel_rfl) rfl (by decide)
theorem Za : BI Try.prog 26 [(0, 1), (1, 1), (2, 1)] [(.slice none 0 0), (.slice none 0 0), (.slice none 0 0)] := Zh Try.underlying26 (by kernel_rfl) (by kernel_rfl)
theorem JI : BI Try.prog 41 [(0, 1), (1, 1)] [(.int .i64 0), (.int .i64 0)] := Zh Try.underlying41 (by kernel_rfl) (by kernel_rfl)
theorem Qba : BI Try.prog 62 [(0, 1), (1, 1)] [(.string ByteArray.empty), (.int .i64 0)] := Zh Try.underlying62 (by kernel_rfl) (by kernel_rfl)
theorem Qom : BI Try.prog 73 [(0, 1), (1, 1), (2, 1), (3, 1)] [(.int .i64 0), (.int .i64 0), (.int .i64 0), (.int .i64 0)] := Zh Try.underlying73 (by kernel_rfl) (by kernel_rfl)
theorem Qzf : BI Try.prog 76 [(0, 1), (1, 1)] [(.int .i64 0), (.int .i64 0)] := Zh Try.underlying76 (by kernel_rfl) (by kernel_rfl)
theorem Qon : BI Try.prog 78 [(0, 1), (1, 1), (2, 1), (3, 1), (4, 1), (5, 1)] [(.int .i64 0), (.int .i64 0), (.int .i64 0), (.int .i64 0), (.int .i64 0), (.int .i64 0)] := Zh Try.underlying78 (by kernel_rfl) (by kernel_rfl)
theorem Qzg : BI Try.prog 94 [(0, 1), (1, 1)] [(.slice none 0 0), (.slice none 0 0)] := Zh Try.underlying94 (by kernel_rfl) (by kernel_rfl)
theorem Qoj : BI Try.prog 107 [(0, 1), (1, 1)] [(.int .i64 0), (.int .i64 0)] := Zh Try.underlying107 (by kernel_rfl) (by kernel_rfl)
theorem Qjh : BI Try.prog 111 [(0, 1), (1, 1), (2, 1)] [(.int .i64 0), (.int .i64 0), (.int .i64 0)] := Zh Try.underlying111 (by kernel_rfl) (by kernel_rfl)
theorem Qok : BI Try.prog 127 [(0, 1), (1, 1), (2, 1), (3, 1)] [(.string ByteArray.empty), (.int .i64 0), (.int .i64 0), (.slice none 0 0)] := Zh Try.underlying127 (by kernel_rfl) (by kernel_rfl)
theorem Qol : BI Try.prog 145 [(0, 1), (1, 1), (2, 1)] [(.string ByteArray.empty), (.int .i64 0), (.bool false)] := Zh Try.underlying145 (by kernel_rfl) (by kernel_rfl)
theorem Qzd : BI Try.prog 149 [(0, 3)] [(.slice none 0 0), (.slice none 0 0), (.slice none 0 0)] := Zh Try.underlying149 (by kernel_rfl) (by kernel_rfl)
theorem Qze : BI Try.prog 154 [(0, 1), (1, 1), (2, 1)] [(.slice none 0 0), (.int .i64 0), (.bool false)] := Zh Try.underlying154 (by kernel_rfl) (by kernel_rfl)
theorem Qji : BI Try.prog 158 [(0, 4), (4, 1)] [(.string ByteArray.empty), (.int .i64 0), (.int .i64 0), (.slice none 0 0), (.int .i64 0)] := Zh Try.underlying158 (by kernel_rfl) (by kernel_rfl)
theorem Qes : BI Try.prog 185 [(0, 1), (1, 1)] [(.int .i64 0), (.int .i64 0)] := Zh Try.underlying185 (by kernel_rfl) (by kernel_rfl)
theorem Zp : ZI Try.prog 26 [(.slice none 0 0), (.slice none 0 0), (.slice none 0 0)] := Ze (by kernel_rfl)
theorem Qax : ZI Try.prog 41 [(.int .i64 0), (.int .i64 0)] := Ze (by kernel_rfl)
theorem QOv : ZI Try.prog 62 [(.string ByteArray.empty), (.int .i64 0)] := Ze (by kernel_rfl)
theorem Qnq : ZI Try.prog 73 [(.int .i64 0), (.int .i64 0), (.int .i64 0), (.int .i64 0)] := Ze (by kernel_rfl)
theorem Qnr : ZI Try.prog 78 [(.int .i64 0), (.int .i64 0), (.int .i64 0), (.int .i64 0), (.int .i64 0), (.int .i64 0)] := Ze (by kernel_rfl)
theorem QOt : ZI Try.prog 107 [(.int .i64 0), (.int .i64 0)] := Ze (by kernel_rfl)
theorem Qnp : ZI Try.prog 111 [(.int .i64 0), (.int .i64 0), (.int .i64 0)] := Ze (by kernel_rfl)
theorem Qim : ZI Try.prog 127 [(.string ByteArray.empty), (.int .i64 0), (.int .i64 0), (.slice none 0 0)] := Ze (by kernel_rfl)
theorem Qyb : ZI Try.prog 145 [(.string ByteArray.empty), (.int .i64 0), (.bool false)] := Ze (by kernel_rfl)
theorem Qab : ZI Try.prog 149 [(.slice none 0 0), (.slice none 0 0), (.slice none 0 0)] := Ze (by kernel_rfl)
theorem Qac : ZI Try.prog 154 [(.slice none 0 0), (.int .i64 0), (.bool false)] := Ze (by kernel_rfl)
theorem Qad : ZI Try.prog 158 [(.string ByteArray.empty), (.int .i64 0), (.int .i64 0), (.slice none 0 0), (.int .i64 0)] := Ze (by kernel_rfl)
theorem Qin : ZI Try.prog 185 [(.int .i64 0), (.int .i64 0)] := Ze (by kernel_rfl)
theorem QHt : (Try.f19.name == numgo) = false := by kernel_rfl
theorem QHu : (Try.f20.name == numgo) = false := by kernel_rfl
theorem QHv : (Try.f22.name == numgo) = false := by kernel_rfl
theorem Qbq : (Try.f23.name == numgo) = false := by kernel_rfl
theorem QHw : (Try.f24.name == numgo) = false := by kernel_rfl
theorem QHx : (Try.f27.name == numgo) = false := by kernel_rfl
theorem QHy : (Try.f29.name == numgo) = false := by kernel_rfl
theorem QHz : (Try.f30.name == numgo) = false := by kernel_rfl
theorem Qma : (Try.f32.name == numgo) = false := by kernel_rfl
theorem QIa : (Try.f33.name == numgo) = false := by kernel_rfl
theorem QIb : (Try.f34.name == numgo) = false := by kernel_rfl
theorem QIc : (Try.f35.name == numgo) = false := by kernel_rfl
theorem QId : (Try.f37.name == numgo) = false := by kernel_rfl
theorem Qmb : (Try.f39.name == numgo) = false := by kernel_rfl
theorem QIe : (Try.f40.name == numgo) = false := by kernel_rfl
theorem Qdp : (Try.f41.name == numgo) = false := by kernel_rfl
theorem QIf : (Try.f43.name == numgo) = false := by kernel_rfl
theorem Jf : (Try.f46.name == numgo) = false := by kernel_rfl
theorem QIg : (Try.f47.name == numgo) = false := by kernel_rfl
theorem QIh : (Try.f48.name == numgo) = false := by kernel_rfl
theorem QIi : (Try.f54.name == numgo) = false := by kernel_rfl
theorem QIj : (Try.f60.name == numgo) = false := by kernel_rfl
theorem Qgn : (Try.f83.name == numgo) = false := by kernel_rfl
theorem Qmc : (Try.f84.name == numgo) = false := by kernel_rfl
theorem Qua : (Try.f85.name == numgo) = false := by kernel_rfl
theorem QIk : (Try.f86.name == numgo) = false := by kernel_rfl
theorem Qbr : (Try.f87.name == numgo) = false := by kernel_rfl
theorem Qdq : (Try.f89.name == numgo) = false := by kernel_rfl
theorem Qub : (Try.f91.name == numgo) = false := by kernel_rfl
theorem ZN : (Try.f92.name == numgo) = false := by kernel_rfl
theorem Ye : (Try.f93.name == numgo) = false := by kernel_rfl
theorem Quc : (Try.f94.name == numgo) = false := by kernel_rfl
theorem Jg : (Try.f95.name == numgo) = false := by kernel_rfl
theorem QIl : (Try.f96.name == numgo) = false := by kernel_rfl
theorem QIm : (Try.f97.name == numgo) = false := by kernel_rfl
theorem QIn : (Try.f98.name == numgo) = false := by kernel_rfl
theorem Qud : (Try.f99.name == numgo) = false := by kernel_rfl
theorem QGw : (Try.f100.name == numgo) = false := by kernel_rfl
theorem QGx : (Try.f101.name == numgo) = false := by kernel_rfl
theorem Qgk : (Try.f102.name == numgo) = false := by kernel_rfl
theorem QGy : (Try.f103.name == numgo) = false := by kernel_rfl
theorem QGz : (Try.f106.name == numgo) = false := by kernel_rfl
theorem Qgl : (Try.f107.name == numgo) = false := by kernel_rfl
theorem Qly : (Try.f108.name == numgo) = false := by kernel_rfl
theorem Qtl : (Try.f109.name == numgo) = false := by kernel_rfl
theorem QHa : (Try.f110.name == numgo) = false := by kernel_rfl
theorem QHb : (Try.f115.name == numgo) = false := by kernel_rfl
theorem Qtm : (Try.f116.name == numgo) = false := by kernel_rfl
theorem Qtn : (Try.f117.name == numgo) = false := by kernel_rfl
theorem Qto : (Try.f118.name == numgo) = false := by kernel_rfl
theorem QHc : (Try.f123.name == numgo) = false := by kernel_rfl
theorem QHd : (Try.f124.name == numgo) = false := by kernel_rfl
theorem QHe : (Try.f125.name == numgo) = false := by kernel_rfl
theorem Qtp : (Try.f126.name == numgo) = false := by kernel_rfl
theorem Qtq : (Try.f132.name == numgo) = false := by kernel_rfl
theorem Qtr : (Try.f133.name == numgo) = false := by kernel_rfl
theorem QHf : (Try.f138.name == numgo) = false := by kernel_rfl
theorem QHg : (Try.f139.name == numgo) = false := by kernel_rfl
theorem Qts : (Try.f140.name == numgo) = false := by kernel_rfl
theorem Qgm : (Try.f141.name == numgo) = false := by kernel_rfl
theorem Qtt : (Try.f142.name == numgo) = false := by kernel_rfl
theorem QHh : (Try.f143.name == numgo) = false := by kernel_rfl
theorem QHi : (Try.f144.name == numgo) = false := by kernel_rfl
theorem Qtu : (Try.f145.name == numgo) = false := by kernel_rfl
theorem Qlz : (Try.f146.name == numgo) = false := by kernel_rfl
theorem QHj : (Try.f147.name == numgo) = false := by kernel_rfl
theorem QHk : (Try.f148.name == numgo) = false := by kernel_rfl
theorem QHl : (Try.f149.name == numgo) = false := by kernel_rfl
theorem Qtv : (Try.f150.name == numgo) = false := by kernel_rfl
theorem QHm : (Try.f151.name == numgo) = false := by kernel_rfl
theorem QHn : (Try.f152.name == numgo) = false := by kernel_rfl
theorem Qtw : (Try.f154.name == numgo) = false := by kernel_rfl
theorem QHo : (Try.f155.name == numgo) = false := by kernel_rfl
theorem QHp : (Try.f156.name == numgo) = false := by kernel_rfl
theorem Qtx : (Try.f163.name == numgo) = false := by kernel_rfl
theorem Qty : (Try.f164.name == numgo) = false := by kernel_rfl
theorem QHq : (Try.f165.name == numgo) = false := by kernel_rfl
theorem QHr : (Try.f166.name == numgo) = false := by kernel_rfl
theorem QHs : (Try.f167.name == numgo) = false := by kernel_rfl
theorem Qtz : (Try.f168.name == numgo) = false := by kernel_rfl
theorem QAj : Try.prog.eqGuardType Try.prog.depth 62 = false := by kernel_rfl
theorem QAo (a b : FeedDeparture) : EqS Try.prog 62 (List.toArray [(.string a.Train), (.int .i64 a.At)]) (List.toArray [(.string b.Train), (.int .i64 b.At)]) (decide (a = b)) := by
  refine ⟨fun c hc => by
    simp at hc
    repeat' (rcases hc with rfl | hc)
    all_goals simp_all [J4], fun w => ?_⟩
  have u3 := Try.underlying3
  have a3 := Try.isAgg3
  have z3 := Try.sizeOf3
  have u9 := Try.underlying9
  have a9 := Try.isAgg9
  have z9 := Try.sizeOf9
  have hS : Try.prog.underlying 62 = some (.struct (Try.prog.fieldsOf 62)) := by kernel_rfl
  have hp : Try.prog.stoodInHeld 62 = false := by kernel_rfl
  rw [run_equalIn_agg w 9999 62 _ _ hS hp]
  simp only [Program.fieldsOf, Try.underlying62]
  go_simp
  cases a; cases b; simp only [FeedDeparture.mk.injEq]
  repeat' split
  all_goals simp_all [Qjj]
theorem QAk : Try.prog.eqGuardType Try.prog.depth 78 = false := by kernel_rfl
theorem QAp (a b : FeedBook) : EqS Try.prog 78 (List.toArray [(.int .i64 a.Fed), (.int .i64 a.Used), (.int .i64 a.Braked), (.int .i64 a.Lost), (.int .i64 a.Back), (.int .i64 a.Burned)]) (List.toArray [(.int .i64 b.Fed), (.int .i64 b.Used), (.int .i64 b.Braked), (.int .i64 b.Lost), (.int .i64 b.Back), (.int .i64 b.Burned)]) (decide (a = b)) := by
  refine ⟨fun c hc => by
    simp at hc
    repeat' (rcases hc with rfl | hc)
    all_goals simp_all [J4], fun w => ?_⟩
  have u3 := Try.underlying3
  have a3 := Try.isAgg3
  have z3 := Try.sizeOf3
  have hS : Try.prog.underlying 78 = some (.struct (Try.prog.fieldsOf 78)) := by kernel_rfl
  have hp : Try.prog.stoodInHeld 78 = false := by kernel_rfl
  rw [run_equalIn_agg w 9999 78 _ _ hS hp]
  simp only [Program.fieldsOf, Try.underlying78]
  go_simp
  cases a; cases b; simp only [FeedBook.mk.injEq]
  repeat' split
  all_goals simp_all [Qjj]
theorem QAi : Try.prog.eqGuardType Try.prog.depth 107 = false := by kernel_rfl
theorem QAn (a b : Frac) : EqS Try.prog 107 (List.toArray [(.int .i64 a.Num), (.int .i64 a.Den)]) (List.toArray [(.int .i64 b.Num), (.int .i64 b.Den)]) (decide (a = b)) := by
  refine ⟨fun c hc => by
    simp at hc
    repeat' (rcases hc with rfl | hc)
    all_goals simp_all [J4], fun w => ?_⟩
  have u3 := Try.underlying3
  have a3 := Try.isAgg3
  have z3 := Try.sizeOf3
  have hS : Try.prog.underlying 107 = some (.struct (Try.prog.fieldsOf 107)) := by kernel_rfl
  have hp : Try.prog.stoodInHeld 107 = false := by kernel_rfl
  rw [run_equalIn_agg w 9999 107 _ _ hS hp]
  simp only [Program.fieldsOf, Try.underlying107]
  go_simp
  cases a; cases b; simp only [Frac.mk.injEq]
  repeat' split
  all_goals simp_all [Qjj]
theorem XN : Try.prog.follows .mixedOrders = true := by kernel_rfl
end Go.Gw
