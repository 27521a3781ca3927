/- Facts of the types of the program. No condition. -/
import Derived.Test.YtbplgfhjpeeieaaGwSt
import Derived.Test.YtbplgfhjpeeieaaGwPlan
import Derived.Laws.StructEq
import Derived.Test.YtbplgfhjpeeieaaProg
set_option linter.unusedVariables false
set_option linter.unusedSimpArgs false
set_option linter.unusedSectionVars false
set_option maxRecDepth 100000
namespace Go.Gw
open Go Go.Proofs
abbrev numgo : String := "runtime.NumGoroutine"
theorem QD : Xl Try.prog 3 1 := XU (by kernel_rfl)
theorem sz4 : Xl Try.prog 4 1 := XU (by kernel_rfl)
theorem sz5 : Xl Try.prog 5 1 := XU (by kernel_rfl)
theorem ZB : Xl Try.prog 9 1 := XU (by kernel_rfl)
theorem Jz : Xl Try.prog 22 1 := XU (by kernel_rfl)
theorem JA : Xl Try.prog 23 1 := XU (by kernel_rfl)
theorem Zo : Xl Try.prog 24 1 := XU (by kernel_rfl)
theorem YW : Xl Try.prog 26 3 := XU (by kernel_rfl)
theorem QIl : Xl Try.prog 30 1 := XU (by kernel_rfl)
theorem J5 : Xl Try.prog 41 2 := XU (by kernel_rfl)
theorem Xn : Xl Try.prog 52 1 := XU (by kernel_rfl)
theorem Qfn : Xl Try.prog 62 2 := XU (by kernel_rfl)
theorem J6 : Xl Try.prog 73 4 := XU (by kernel_rfl)
theorem Qkt : Xl Try.prog 78 6 := XU (by kernel_rfl)
theorem Qfo : Xl Try.prog 94 2 := XU (by kernel_rfl)
theorem Yi : Xl Try.prog 107 2 := XU (by kernel_rfl)
theorem Qby : Xl Try.prog 111 3 := XU (by kernel_rfl)
theorem Qbz : Xl Try.prog 125 1 := XU (by kernel_rfl)
theorem Y7 : Xl Try.prog 127 4 := XU (by kernel_rfl)
theorem Qca : Xl Try.prog 145 3 := XU (by kernel_rfl)
theorem Jb : Xl Try.prog 149 3 := XU (by kernel_rfl)
theorem YV : Xl Try.prog 154 3 := XU (by kernel_rfl)
theorem X6 : Xl Try.prog 158 5 := XU (by kernel_rfl)
theorem Jy : Xl Try.prog 185 2 := XU (by kernel_rfl)
theorem QG : YB Try.prog 3 := ⟨_, Try.underlying3, trivial⟩
theorem sc4 : YB Try.prog 4 := ⟨_, Try.underlying4, trivial⟩
theorem sc5 : YB Try.prog 5 := ⟨_, Try.underlying5, trivial⟩
theorem Zn : YB Try.prog 9 := ⟨_, Try.underlying9, trivial⟩
theorem Jv : YB Try.prog 22 := ⟨_, Try.underlying22, trivial⟩
theorem Jx : YB Try.prog 23 := ⟨_, Try.underlying23, trivial⟩
theorem Zm : YB Try.prog 24 := ⟨_, Try.underlying24, trivial⟩
theorem QGn : YB Try.prog 30 := ⟨_, Try.underlying30, trivial⟩
theorem Xq : YB Try.prog 52 := ⟨_, Try.underlying52, trivial⟩
theorem Qbt : YB Try.prog 125 := ⟨_, Try.underlying125, trivial⟩
theorem ZZ : Aggr Try.prog 26 3 := YD (by trivial) Try.underlying26 (by kernel_rfl)
theorem Qaj : Aggr Try.prog 41 2 := YD (by trivial) Try.underlying41 (by kernel_rfl)
theorem Qgj : Aggr Try.prog 62 2 := YD (by trivial) Try.underlying62 (by kernel_rfl)
theorem Z0 : Aggr Try.prog 73 4 := YD (by trivial) Try.underlying73 (by kernel_rfl)
theorem Qwj : Aggr Try.prog 76 2 := YD (by trivial) Try.underlying76 (by kernel_rfl)
theorem Qcn : Aggr Try.prog 78 6 := YD (by trivial) Try.underlying78 (by kernel_rfl)
theorem Yr : Aggr Try.prog 94 2 := YD (by trivial) Try.underlying94 (by kernel_rfl)
theorem ZY : Aggr Try.prog 107 2 := YD (by trivial) Try.underlying107 (by kernel_rfl)
theorem Qgi : Aggr Try.prog 111 3 := YD (by trivial) Try.underlying111 (by kernel_rfl)
theorem ZJ : Aggr Try.prog 127 4 := YD (by trivial) Try.underlying127 (by kernel_rfl)
theorem Qlj : Aggr Try.prog 145 3 := YD (by trivial) Try.underlying145 (by kernel_rfl)
theorem Yn : Aggr Try.prog 149 3 := YD (by trivial) Try.underlying149 (by kernel_rfl)
theorem Ye : Aggr Try.prog 154 3 := YD (by trivial) Try.underlying154 (by kernel_rfl)
theorem X4 : Aggr Try.prog 158 5 := YD (by trivial) Try.underlying158 (by kernel_rfl)
theorem Qcm : Aggr Try.prog 185 2 := YD (by trivial) Try.underlying185 (by kernel_rfl)
theorem XM : EInfo Try.prog 3 1 8 (.int .i64 0) := Zr (by kernel_rfl) rfl (by decide)
theorem ei9 : EInfo Try.prog 9 1 16 (.string ByteArray.empty) := Zr (by kernel_rfl) rfl (by decide)
theorem YP : EInfo Try.prog 30 1 8 (.int .i64 0) := Zr (by kernel_rfl) rfl (by decide)
theorem Qat : EInfo Try.prog 62 2 24 (.agg (List.toArray [(.string ByteArray.empty), (.int .i64 0)])) := Zr (by kernel_rfl) rfl (by decide)
theorem Qyq : EInfo Try.prog 73 4 32 (.agg (List.toArray [(.int .i64 0), (.int .i64 0), (.int .i64 0), (.int .i64 0)])) := Zr (by kernel_rfl) rfl (by decide)
theorem Qas : EInfo Try.prog 107 2 16 (.agg (List.toArray [(.int .i64 0), (.int .i64 0)])) := Zr (by kernel_rfl) rfl (by decide)
theorem Qyo : EInfo Try.prog 127 4 56 (.agg (List.toArray [(.string ByteArray.empty), (.int .i64 0), (.int .i64 0), (.slice none 0 0)])) := Zr (by kernel_rfl) rfl (by decide)
theorem Qyp : EInfo Try.prog 145 3 32 (.agg (List.toArray [(.string ByteArray.empty), (.int .i64 0), (.bool false)])) := Zr (by kernel_rfl) rfl (by decide)
theorem X9 : EInfo Try.prog 158 5 64 (.agg (List.toArray [(.string ByteArray.empty), (.int .i64 0), (.int .i64 0), (.slice none 0 0), (.int .i64 0)])) := Zr (by kernel_rfl) rfl (by decide)
theorem Qmw : EInfo Try.prog 185 2 16 (.agg (List.toArray [(.int .i64 0), (.int .i64 0)])) := Zr (by kernel_rfl) rfl (by decide)
theorem Qxh : BI Try.prog 26 [(0, 1), (1, 1), (2, 1)] [(.slice none 0 0), (.slice none 0 0), (.slice none 0 0)] := YE Try.underlying26 (by kernel_rfl) (by kernel_rfl)
theorem Qan : BI Try.prog 41 [(0, 1), (1, 1)] [(.int .i64 0), (.int .i64 0)] := YE Try.underlying41 (by kernel_rfl) (by kernel_rfl)
theorem JP : BI Try.prog 62 [(0, 1), (1, 1)] [(.string ByteArray.empty), (.int .i64 0)] := YE Try.underlying62 (by kernel_rfl) (by kernel_rfl)
theorem Qly : BI Try.prog 73 [(0, 1), (1, 1), (2, 1), (3, 1)] [(.int .i64 0), (.int .i64 0), (.int .i64 0), (.int .i64 0)] := YE Try.underlying73 (by kernel_rfl) (by kernel_rfl)
theorem Qxi : BI Try.prog 76 [(0, 1), (1, 1)] [(.int .i64 0), (.int .i64 0)] := YE Try.underlying76 (by kernel_rfl) (by kernel_rfl)
theorem Qlz : BI Try.prog 78 [(0, 1), (1, 1), (2, 1), (3, 1), (4, 1), (5, 1)] [(.int .i64 0), (.int .i64 0), (.int .i64 0), (.int .i64 0), (.int .i64 0), (.int .i64 0)] := YE Try.underlying78 (by kernel_rfl) (by kernel_rfl)
theorem Qcw : BI Try.prog 94 [(0, 1), (1, 1)] [(.slice none 0 0), (.slice none 0 0)] := YE Try.underlying94 (by kernel_rfl) (by kernel_rfl)
theorem Qlv : BI Try.prog 107 [(0, 1), (1, 1)] [(.int .i64 0), (.int .i64 0)] := YE Try.underlying107 (by kernel_rfl) (by kernel_rfl)
theorem Qgu : BI Try.prog 111 [(0, 1), (1, 1), (2, 1)] [(.int .i64 0), (.int .i64 0), (.int .i64 0)] := YE Try.underlying111 (by kernel_rfl) (by kernel_rfl)
theorem Qlw : BI Try.prog 127 [(0, 1), (1, 1), (2, 1), (3, 1)] [(.string ByteArray.empty), (.int .i64 0), (.int .i64 0), (.slice none 0 0)] := YE Try.underlying127 (by kernel_rfl) (by kernel_rfl)
theorem Qlx : BI Try.prog 145 [(0, 1), (1, 1), (2, 1)] [(.string ByteArray.empty), (.int .i64 0), (.bool false)] := YE Try.underlying145 (by kernel_rfl) (by kernel_rfl)
theorem Qxf : BI Try.prog 149 [(0, 3)] [(.slice none 0 0), (.slice none 0 0), (.slice none 0 0)] := YE Try.underlying149 (by kernel_rfl) (by kernel_rfl)
theorem Qxg : BI Try.prog 154 [(0, 1), (1, 1), (2, 1)] [(.slice none 0 0), (.int .i64 0), (.bool false)] := YE Try.underlying154 (by kernel_rfl) (by kernel_rfl)
theorem Qgv : BI Try.prog 158 [(0, 4), (4, 1)] [(.string ByteArray.empty), (.int .i64 0), (.int .i64 0), (.slice none 0 0), (.int .i64 0)] := YE Try.underlying158 (by kernel_rfl) (by kernel_rfl)
theorem Qcv : BI Try.prog 185 [(0, 1), (1, 1)] [(.int .i64 0), (.int .i64 0)] := YE Try.underlying185 (by kernel_rfl) (by kernel_rfl)
theorem QKr : ZI Try.prog 26 [(.slice none 0 0), (.slice none 0 0), (.slice none 0 0)] := Yv (by kernel_rfl)
theorem Qvu : ZI Try.prog 41 [(.int .i64 0), (.int .i64 0)] := Yv (by kernel_rfl)
theorem QKs : ZI Try.prog 62 [(.string ByteArray.empty), (.int .i64 0)] := Yv (by kernel_rfl)
theorem Qld : ZI Try.prog 73 [(.int .i64 0), (.int .i64 0), (.int .i64 0), (.int .i64 0)] := Yv (by kernel_rfl)
theorem Qle : ZI Try.prog 78 [(.int .i64 0), (.int .i64 0), (.int .i64 0), (.int .i64 0), (.int .i64 0), (.int .i64 0)] := Yv (by kernel_rfl)
theorem Qgd : ZI Try.prog 94 [(.slice none 0 0), (.slice none 0 0)] := Yv (by kernel_rfl)
theorem Qvs : ZI Try.prog 107 [(.int .i64 0), (.int .i64 0)] := Yv (by kernel_rfl)
theorem Qlb : ZI Try.prog 111 [(.int .i64 0), (.int .i64 0), (.int .i64 0)] := Yv (by kernel_rfl)
theorem Qlc : ZI Try.prog 127 [(.string ByteArray.empty), (.int .i64 0), (.int .i64 0), (.slice none 0 0)] := Yv (by kernel_rfl)
theorem Qvt : ZI Try.prog 145 [(.string ByteArray.empty), (.int .i64 0), (.bool false)] := Yv (by kernel_rfl)
theorem JG : ZI Try.prog 149 [(.slice none 0 0), (.slice none 0 0), (.slice none 0 0)] := Yv (by kernel_rfl)
theorem Jf : ZI Try.prog 154 [(.slice none 0 0), (.int .i64 0), (.bool false)] := Yv (by kernel_rfl)
theorem Jg : ZI Try.prog 158 [(.string ByteArray.empty), (.int .i64 0), (.int .i64 0), (.slice none 0 0), (.int .i64 0)] := Yv (by kernel_rfl)
theorem Qgc : ZI Try.prog 185 [(.int .i64 0), (.int .i64 0)] := Yv (by kernel_rfl)
theorem QEv : (Try.f19.name == numgo) = false := by kernel_rfl
theorem QEw : (Try.f22.name == numgo) = false := by kernel_rfl
theorem QEx : (Try.f27.name == numgo) = false := by kernel_rfl
theorem QEy : (Try.f30.name == numgo) = false := by kernel_rfl
theorem QEz : (Try.f35.name == numgo) = false := by kernel_rfl
theorem Qsa : (Try.f39.name == numgo) = false := by kernel_rfl
theorem QFa : (Try.f41.name == numgo) = false := by kernel_rfl
theorem Qbl : (Try.f46.name == numgo) = false := by kernel_rfl
theorem QFb : (Try.f47.name == numgo) = false := by kernel_rfl
theorem QFc : (Try.f48.name == numgo) = false := by kernel_rfl
theorem Qet : (Try.f54.name == numgo) = false := by kernel_rfl
theorem Qbm : (Try.f55.name == numgo) = false := by kernel_rfl
theorem QFd : (Try.f56.name == numgo) = false := by kernel_rfl
theorem QFe : (Try.f57.name == numgo) = false := by kernel_rfl
theorem Qjj : (Try.f58.name == numgo) = false := by kernel_rfl
theorem QFf : (Try.f60.name == numgo) = false := by kernel_rfl
theorem Qjk : (Try.f61.name == numgo) = false := by kernel_rfl
theorem JZ : (Try.f62.name == numgo) = false := by kernel_rfl
theorem Qeu : (Try.f83.name == numgo) = false := by kernel_rfl
theorem Qjl : (Try.f84.name == numgo) = false := by kernel_rfl
theorem Qsb : (Try.f85.name == numgo) = false := by kernel_rfl
theorem QFg : (Try.f86.name == numgo) = false := by kernel_rfl
theorem J0 : (Try.f87.name == numgo) = false := by kernel_rfl
theorem Qbn : (Try.f89.name == numgo) = false := by kernel_rfl
theorem YS : (Try.f92.name == numgo) = false := by kernel_rfl
theorem XG : (Try.f93.name == numgo) = false := by kernel_rfl
theorem Qsc : (Try.f94.name == numgo) = false := by kernel_rfl
theorem Zw : (Try.f95.name == numgo) = false := by kernel_rfl
theorem QFh : (Try.f96.name == numgo) = false := by kernel_rfl
theorem QFi : (Try.f97.name == numgo) = false := by kernel_rfl
theorem QFj : (Try.f98.name == numgo) = false := by kernel_rfl
theorem Qjf : (Try.f102.name == numgo) = false := by kernel_rfl
theorem QEb : (Try.f103.name == numgo) = false := by kernel_rfl
theorem Qjg : (Try.f107.name == numgo) = false := by kernel_rfl
theorem Qrj : (Try.f108.name == numgo) = false := by kernel_rfl
theorem Qrk : (Try.f109.name == numgo) = false := by kernel_rfl
theorem QEc : (Try.f115.name == numgo) = false := by kernel_rfl
theorem Qrl : (Try.f116.name == numgo) = false := by kernel_rfl
theorem Qrm : (Try.f117.name == numgo) = false := by kernel_rfl
theorem Qrn : (Try.f118.name == numgo) = false := by kernel_rfl
theorem Qro : (Try.f123.name == numgo) = false := by kernel_rfl
theorem Qrp : (Try.f124.name == numgo) = false := by kernel_rfl
theorem Qrq : (Try.f125.name == numgo) = false := by kernel_rfl
theorem Qjh : (Try.f126.name == numgo) = false := by kernel_rfl
theorem QEd : (Try.f127.name == numgo) = false := by kernel_rfl
theorem QEe : (Try.f129.name == numgo) = false := by kernel_rfl
theorem QEf : (Try.f130.name == numgo) = false := by kernel_rfl
theorem Qrr : (Try.f132.name == numgo) = false := by kernel_rfl
theorem QEg : (Try.f138.name == numgo) = false := by kernel_rfl
theorem QEh : (Try.f139.name == numgo) = false := by kernel_rfl
theorem Qrs : (Try.f140.name == numgo) = false := by kernel_rfl
theorem Qes : (Try.f141.name == numgo) = false := by kernel_rfl
theorem Qrt : (Try.f142.name == numgo) = false := by kernel_rfl
theorem QEi : (Try.f143.name == numgo) = false := by kernel_rfl
theorem QEj : (Try.f144.name == numgo) = false := by kernel_rfl
theorem Qru : (Try.f145.name == numgo) = false := by kernel_rfl
theorem Qji : (Try.f146.name == numgo) = false := by kernel_rfl
theorem QEk : (Try.f147.name == numgo) = false := by kernel_rfl
theorem QEl : (Try.f148.name == numgo) = false := by kernel_rfl
theorem QEm : (Try.f149.name == numgo) = false := by kernel_rfl
theorem Qrv : (Try.f150.name == numgo) = false := by kernel_rfl
theorem QEn : (Try.f151.name == numgo) = false := by kernel_rfl
theorem QEo : (Try.f152.name == numgo) = false := by kernel_rfl
theorem QEp : (Try.f153.name == numgo) = false := by kernel_rfl
theorem Qrw : (Try.f154.name == numgo) = false := by kernel_rfl
theorem QEq : (Try.f155.name == numgo) = false := by kernel_rfl
theorem QEr : (Try.f156.name == numgo) = false := by kernel_rfl
theorem Qrx : (Try.f163.name == numgo) = false := by kernel_rfl
theorem Qry : (Try.f164.name == numgo) = false := by kernel_rfl
theorem QEs : (Try.f165.name == numgo) = false := by kernel_rfl
theorem QEt : (Try.f166.name == numgo) = false := by kernel_rfl
theorem QEu : (Try.f167.name == numgo) = false := by kernel_rfl
theorem Qrz : (Try.f168.name == numgo) = false := by kernel_rfl
theorem Qym : Try.prog.eqGuardType Try.prog.depth 62 = false := by kernel_rfl
theorem Qyt (a b : FeedDeparture) : EqS Try.prog 62 (List.toArray [(.string a.Train), (.int .i64 a.At)]) (List.toArray [(.string b.Train), (.int .i64 b.At)]) (decide (a = b)) := by
  refine ⟨fun c hc => by
    simp at hc
    repeat' (rcases hc with rfl | hc)
    all_goals simp_all [Z5], fun w => ?_⟩
  have u3 := Try.underlying3
  have a3 := Try.isAgg3
  have z3 := Try.sizeOf3
  have u9 := Try.underlying9
  have a9 := Try.isAgg9
  have z9 := Try.sizeOf9
  have hS : Try.prog.underlying 62 = some (.struct (Try.prog.fieldsOf 62)) := by kernel_rfl
  have hp : Try.prog.stoodInHeld 62 = false := by kernel_rfl
  rw [run_equalIn_agg w 9999 62 _ _ hS hp]
  simp only [Program.fieldsOf, Try.underlying62]
  go_simp
  cases a; cases b; simp only [FeedDeparture.mk.injEq]
  repeat' split
  all_goals simp_all [Qgw]
theorem Qyn : Try.prog.eqGuardType Try.prog.depth 78 = false := by kernel_rfl
theorem Qyu (a b : FeedBook) : EqS Try.prog 78 (List.toArray [(.int .i64 a.Fed), (.int .i64 a.Used), (.int .i64 a.Braked), (.int .i64 a.Lost), (.int .i64 a.Back), (.int .i64 a.Burned)]) (List.toArray [(.int .i64 b.Fed), (.int .i64 b.Used), (.int .i64 b.Braked), (.int .i64 b.Lost), (.int .i64 b.Back), (.int .i64 b.Burned)]) (decide (a = b)) := by
  refine ⟨fun c hc => by
    simp at hc
    repeat' (rcases hc with rfl | hc)
    all_goals simp_all [Z5], fun w => ?_⟩
  have u3 := Try.underlying3
  have a3 := Try.isAgg3
  have z3 := Try.sizeOf3
  have hS : Try.prog.underlying 78 = some (.struct (Try.prog.fieldsOf 78)) := by kernel_rfl
  have hp : Try.prog.stoodInHeld 78 = false := by kernel_rfl
  rw [run_equalIn_agg w 9999 78 _ _ hS hp]
  simp only [Program.fieldsOf, Try.underlying78]
  go_simp
  cases a; cases b; simp only [FeedBook.mk.injEq]
  repeat' split
  all_goals simp_all [Qgw]
theorem Qmv : Try.prog.eqGuardType Try.prog.depth 107 = false := by kernel_rfl
theorem Qmy (a b : Frac) : EqS Try.prog 107 (List.toArray [(.int .i64 a.Num), (.int .i64 a.Den)]) (List.toArray [(.int .i64 b.Num), (.int .i64 b.Den)]) (decide (a = b)) := by
  refine ⟨fun c hc => by
    simp at hc
    repeat' (rcases hc with rfl | hc)
    all_goals simp_all [Z5], fun w => ?_⟩
  have u3 := Try.underlying3
  have a3 := Try.isAgg3
  have z3 := Try.sizeOf3
  have hS : Try.prog.underlying 107 = some (.struct (Try.prog.fieldsOf 107)) := by kernel_rfl
  have hp : Try.prog.stoodInHeld 107 = false := by kernel_rfl
  rw [run_equalIn_agg w 9999 107 _ _ hS hp]
  simp only [Program.fieldsOf, Try.underlying107]
  go_simp
  cases a; cases b; simp only [Frac.mk.injEq]
  repeat' split
  all_goals simp_all [Qgw]
theorem Xt : Try.prog.follows .mixedOrders = true := by kernel_rfl
end Go.Gw
