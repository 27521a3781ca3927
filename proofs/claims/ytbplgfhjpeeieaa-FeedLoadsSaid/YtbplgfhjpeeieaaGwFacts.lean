/- Facts of the types of the program. No condition. -/
import Derived.Test.YtbplgfhjpeeieaaGwSt
import Derived.Test.YtbplgfhjpeeieaaGwPlan
import Derived.Laws.StructEq
import Derived.Test.YtbplgfhjpeeieaaProg
set_option linter.unusedVariables false
set_option linter.unusedSimpArgs false
set_option linter.unusedSectionVars false
set_option maxRecDepth 100000
namespace Go.Gw
open Go Go.Proofs
abbrev numgo : String := "runtime.NumGoroutine"
theorem QL : Xw Try.prog 3 1 := Yi (by kernel_rfl)
theorem sz4 : Xw Try.prog 4 1 := Yi (by kernel_rfl)
theorem sz5 : Xw Try.prog 5 1 := Yi (by kernel_rfl)
theorem Ys : Xw Try.prog 9 1 := Yi (by kernel_rfl)
theorem YI : Xw Try.prog 22 1 := Yi (by kernel_rfl)
theorem YV : Xw Try.prog 23 1 := Yi (by kernel_rfl)
theorem X6 : Xw Try.prog 24 1 := Yi (by kernel_rfl)
theorem X1 : Xw Try.prog 26 3 := Yi (by kernel_rfl)
theorem QMa : Xw Try.prog 30 1 := Yi (by kernel_rfl)
theorem YJ : Xw Try.prog 41 2 := Yi (by kernel_rfl)
theorem Y9 : Xw Try.prog 52 1 := Yi (by kernel_rfl)
theorem Z7 : Xw Try.prog 62 2 := Yi (by kernel_rfl)
theorem JG : Xw Try.prog 73 4 := Yi (by kernel_rfl)
theorem Qmo : Xw Try.prog 78 6 := Yi (by kernel_rfl)
theorem Qmn : Xw Try.prog 107 2 := Yi (by kernel_rfl)
theorem Qdl : Xw Try.prog 111 3 := Yi (by kernel_rfl)
theorem YU : Xw Try.prog 125 1 := Yi (by kernel_rfl)
theorem Yj : Xw Try.prog 127 4 := Yi (by kernel_rfl)
theorem Jq : Xw Try.prog 145 3 := Yi (by kernel_rfl)
theorem JF : Xw Try.prog 149 3 := Yi (by kernel_rfl)
theorem Zl : Xw Try.prog 154 3 := Yi (by kernel_rfl)
theorem Yy : Xw Try.prog 158 5 := Yi (by kernel_rfl)
theorem Z6 : Xw Try.prog 185 2 := Yi (by kernel_rfl)
theorem QP : Y0 Try.prog 3 := ⟨_, Try.underlying3, trivial⟩
theorem sc4 : Y0 Try.prog 4 := ⟨_, Try.underlying4, trivial⟩
theorem sc5 : Y0 Try.prog 5 := ⟨_, Try.underlying5, trivial⟩
theorem Yp : Y0 Try.prog 9 := ⟨_, Try.underlying9, trivial⟩
theorem YG : Y0 Try.prog 22 := ⟨_, Try.underlying22, trivial⟩
theorem YT : Y0 Try.prog 23 := ⟨_, Try.underlying23, trivial⟩
theorem Ye : Y0 Try.prog 24 := ⟨_, Try.underlying24, trivial⟩
theorem QKc : Y0 Try.prog 30 := ⟨_, Try.underlying30, trivial⟩
theorem ZD : Y0 Try.prog 52 := ⟨_, Try.underlying52, trivial⟩
theorem Y8 : Y0 Try.prog 125 := ⟨_, Try.underlying125, trivial⟩
theorem XV : Aggr Try.prog 26 3 := Y2 (by trivial) Try.underlying26 (by kernel_rfl)
theorem Yn : Aggr Try.prog 41 2 := Y2 (by trivial) Try.underlying41 (by kernel_rfl)
theorem Qig : Aggr Try.prog 62 2 := Y2 (by trivial) Try.underlying62 (by kernel_rfl)
theorem ZL : Aggr Try.prog 73 4 := Y2 (by trivial) Try.underlying73 (by kernel_rfl)
theorem Qxv : Aggr Try.prog 76 2 := Y2 (by trivial) Try.underlying76 (by kernel_rfl)
theorem Qdv : Aggr Try.prog 78 6 := Y2 (by trivial) Try.underlying78 (by kernel_rfl)
theorem Qnd : Aggr Try.prog 94 2 := Y2 (by trivial) Try.underlying94 (by kernel_rfl)
theorem Qie : Aggr Try.prog 107 2 := Y2 (by trivial) Try.underlying107 (by kernel_rfl)
theorem Qif : Aggr Try.prog 111 3 := Y2 (by trivial) Try.underlying111 (by kernel_rfl)
theorem Zb : Aggr Try.prog 127 4 := Y2 (by trivial) Try.underlying127 (by kernel_rfl)
theorem Qnc : Aggr Try.prog 145 3 := Y2 (by trivial) Try.underlying145 (by kernel_rfl)
theorem YC : Aggr Try.prog 149 3 := Y2 (by trivial) Try.underlying149 (by kernel_rfl)
theorem YK : Aggr Try.prog 154 3 := Y2 (by trivial) Try.underlying154 (by kernel_rfl)
theorem Yw : Aggr Try.prog 158 5 := Y2 (by trivial) Try.underlying158 (by kernel_rfl)
theorem Qdu : Aggr Try.prog 185 2 := Y2 (by trivial) Try.underlying185 (by kernel_rfl)
theorem Yo : EInfo Try.prog 3 1 8 (.int .i64 0) := Jc (by kernel_rfl) rfl (by decide)
theorem ei9 : EInfo Try.prog 9 1 16 (.string ByteArray.empty) := Jc (by kernel_rfl) rfl (by decide)
theorem Zw : EInfo Try.prog 30 1 8 (.int .i64 0) := Jc (by kernel_rfl) rfl (by decide)
theorem J6 : EInfo Try.prog 62 2 24 (.agg (List.toArray [(.string ByteArray.empty), (.int .i64 0)])) := Jc (by kernel_rfl) rfl (by decide)
theorem Yg : EInfo Try.prog 73 4 32 (.agg (List.toArray [(.int .i64 0), (.int .i64 0), (.int .i64 0), (.int .i64 0)])) := Jc (by kernel_rfl) rfl (by decide)
theorem Qjd : EInfo Try.prog 107 2 16 (.agg (List.toArray [(.int .i64 0), (.int .i64 0)])) := Jc (by kernel_rfl) rfl (by decide)
theorem Qje : EInfo Try.prog 127 4 56 (.agg (List.toArray [(.string ByteArray.empty), (.int .i64 0), (.int .i64 0), (.slice none 0 0)])) := Jc (by kernel_rfl) rfl (by decide)
theorem YR : EInfo Try.prog 145 3 32 (.agg (List.toArray [(.string ByteArray.empty), (.int .i64 0), (.bool false)])) := Jc (by kernel_rfl) rfl (by decide)
theorem YE : EInfo Try.prog 158 5 64 (.agg (List.toArray [(.string ByteArray.empty), (.int .i64 0), (.int .i64 0), (.slice none 0 0), (.int .i64 0)])) := Jc (by kernel_rfl) rfl (by decide)
theorem Qep : EInfo Try.prog 185 2 16 (.agg (List.toArray [(.int .i64 0), (.int .i64 0)])) := Jc (by kernel_rfl) rfl (by decide)
theorem YW : BI Try.prog 26 [(0, 1), (1, 1), (2, 1)] [(.slice none 0 0), (.slice none 0 0), (.slice none 0 0)] := Y4 Try.underlying26 (by kernel_rfl) (by kernel_rfl)
theorem JA : BI Try.prog 41 [(0, 1), (1, 1)] [(.int .i64 0), (.int .i64 0)] := Y4 Try.underlying41 (by kernel_rfl) (by kernel_rfl)
theorem Qal : BI Try.prog 62 [(0, 1), (1, 1)] [(.string ByteArray.empty), (.int .i64 0)] := Y4 Try.underlying62 (by kernel_rfl) (by kernel_rfl)
theorem Qnr : BI Try.prog 73 [(0, 1), (1, 1), (2, 1), (3, 1)] [(.int .i64 0), (.int .i64 0), (.int .i64 0), (.int .i64 0)] := Y4 Try.underlying73 (by kernel_rfl) (by kernel_rfl)
theorem Qyo : BI Try.prog 76 [(0, 1), (1, 1)] [(.int .i64 0), (.int .i64 0)] := Y4 Try.underlying76 (by kernel_rfl) (by kernel_rfl)
theorem Qns : BI Try.prog 78 [(0, 1), (1, 1), (2, 1), (3, 1), (4, 1), (5, 1)] [(.int .i64 0), (.int .i64 0), (.int .i64 0), (.int .i64 0), (.int .i64 0), (.int .i64 0)] := Y4 Try.underlying78 (by kernel_rfl) (by kernel_rfl)
theorem Qyp : BI Try.prog 94 [(0, 1), (1, 1)] [(.slice none 0 0), (.slice none 0 0)] := Y4 Try.underlying94 (by kernel_rfl) (by kernel_rfl)
theorem Qno : BI Try.prog 107 [(0, 1), (1, 1)] [(.int .i64 0), (.int .i64 0)] := Y4 Try.underlying107 (by kernel_rfl) (by kernel_rfl)
theorem Qiq : BI Try.prog 111 [(0, 1), (1, 1), (2, 1)] [(.int .i64 0), (.int .i64 0), (.int .i64 0)] := Y4 Try.underlying111 (by kernel_rfl) (by kernel_rfl)
theorem Qnp : BI Try.prog 127 [(0, 1), (1, 1), (2, 1), (3, 1)] [(.string ByteArray.empty), (.int .i64 0), (.int .i64 0), (.slice none 0 0)] := Y4 Try.underlying127 (by kernel_rfl) (by kernel_rfl)
theorem Qnq : BI Try.prog 145 [(0, 1), (1, 1), (2, 1)] [(.string ByteArray.empty), (.int .i64 0), (.bool false)] := Y4 Try.underlying145 (by kernel_rfl) (by kernel_rfl)
theorem Qym : BI Try.prog 149 [(0, 3)] [(.slice none 0 0), (.slice none 0 0), (.slice none 0 0)] := Y4 Try.underlying149 (by kernel_rfl) (by kernel_rfl)
theorem Qyn : BI Try.prog 154 [(0, 1), (1, 1), (2, 1)] [(.slice none 0 0), (.int .i64 0), (.bool false)] := Y4 Try.underlying154 (by kernel_rfl) (by kernel_rfl)
theorem Qir : BI Try.prog 158 [(0, 4), (4, 1)] [(.string ByteArray.empty), (.int .i64 0), (.int .i64 0), (.slice none 0 0), (.int .i64 0)] := Y4 Try.underlying158 (by kernel_rfl) (by kernel_rfl)
theorem Qdz : BI Try.prog 185 [(0, 1), (1, 1)] [(.int .i64 0), (.int .i64 0)] := Y4 Try.underlying185 (by kernel_rfl) (by kernel_rfl)
theorem Zr : ZI Try.prog 26 [(.slice none 0 0), (.slice none 0 0), (.slice none 0 0)] := YZ (by kernel_rfl)
theorem Qaj : ZI Try.prog 41 [(.int .i64 0), (.int .i64 0)] := YZ (by kernel_rfl)
theorem QOi : ZI Try.prog 62 [(.string ByteArray.empty), (.int .i64 0)] := YZ (by kernel_rfl)
theorem Qhw : ZI Try.prog 73 [(.int .i64 0), (.int .i64 0), (.int .i64 0), (.int .i64 0)] := YZ (by kernel_rfl)
theorem Qmx : ZI Try.prog 78 [(.int .i64 0), (.int .i64 0), (.int .i64 0), (.int .i64 0), (.int .i64 0), (.int .i64 0)] := YZ (by kernel_rfl)
theorem QOg : ZI Try.prog 107 [(.int .i64 0), (.int .i64 0)] := YZ (by kernel_rfl)
theorem Qmw : ZI Try.prog 111 [(.int .i64 0), (.int .i64 0), (.int .i64 0)] := YZ (by kernel_rfl)
theorem Qbq : ZI Try.prog 127 [(.string ByteArray.empty), (.int .i64 0), (.int .i64 0), (.slice none 0 0)] := YZ (by kernel_rfl)
theorem Qxk : ZI Try.prog 145 [(.string ByteArray.empty), (.int .i64 0), (.bool false)] := YZ (by kernel_rfl)
theorem JY : ZI Try.prog 149 [(.slice none 0 0), (.slice none 0 0), (.slice none 0 0)] := YZ (by kernel_rfl)
theorem JZ : ZI Try.prog 154 [(.slice none 0 0), (.int .i64 0), (.bool false)] := YZ (by kernel_rfl)
theorem J0 : ZI Try.prog 158 [(.string ByteArray.empty), (.int .i64 0), (.int .i64 0), (.slice none 0 0), (.int .i64 0)] := YZ (by kernel_rfl)
theorem Qhv : ZI Try.prog 185 [(.int .i64 0), (.int .i64 0)] := YZ (by kernel_rfl)
theorem QGw : (Try.f19.name == numgo) = false := by kernel_rfl
theorem QGx : (Try.f20.name == numgo) = false := by kernel_rfl
theorem QGy : (Try.f22.name == numgo) = false := by kernel_rfl
theorem Qtf : (Try.f23.name == numgo) = false := by kernel_rfl
theorem QGz : (Try.f24.name == numgo) = false := by kernel_rfl
theorem QHa : (Try.f27.name == numgo) = false := by kernel_rfl
theorem QHb : (Try.f29.name == numgo) = false := by kernel_rfl
theorem QHc : (Try.f30.name == numgo) = false := by kernel_rfl
theorem Qtg : (Try.f32.name == numgo) = false := by kernel_rfl
theorem QHd : (Try.f33.name == numgo) = false := by kernel_rfl
theorem QHe : (Try.f34.name == numgo) = false := by kernel_rfl
theorem QHf : (Try.f35.name == numgo) = false := by kernel_rfl
theorem QHg : (Try.f37.name == numgo) = false := by kernel_rfl
theorem Qli : (Try.f39.name == numgo) = false := by kernel_rfl
theorem QHh : (Try.f40.name == numgo) = false := by kernel_rfl
theorem Qth : (Try.f41.name == numgo) = false := by kernel_rfl
theorem QHi : (Try.f42.name == numgo) = false := by kernel_rfl
theorem Qti : (Try.f43.name == numgo) = false := by kernel_rfl
theorem Qtj : (Try.f44.name == numgo) = false := by kernel_rfl
theorem QHj : (Try.f45.name == numgo) = false := by kernel_rfl
theorem Z3 : (Try.f46.name == numgo) = false := by kernel_rfl
theorem QHk : (Try.f48.name == numgo) = false := by kernel_rfl
theorem QHl : (Try.f54.name == numgo) = false := by kernel_rfl
theorem QHm : (Try.f60.name == numgo) = false := by kernel_rfl
theorem Qfr : (Try.f83.name == numgo) = false := by kernel_rfl
theorem Qlj : (Try.f84.name == numgo) = false := by kernel_rfl
theorem Qtk : (Try.f85.name == numgo) = false := by kernel_rfl
theorem QHn : (Try.f86.name == numgo) = false := by kernel_rfl
theorem Qbc : (Try.f87.name == numgo) = false := by kernel_rfl
theorem Qcv : (Try.f89.name == numgo) = false := by kernel_rfl
theorem Qfs : (Try.f91.name == numgo) = false := by kernel_rfl
theorem ZB : (Try.f92.name == numgo) = false := by kernel_rfl
theorem Yb : (Try.f93.name == numgo) = false := by kernel_rfl
theorem Qtl : (Try.f94.name == numgo) = false := by kernel_rfl
theorem Z4 : (Try.f95.name == numgo) = false := by kernel_rfl
theorem QHo : (Try.f96.name == numgo) = false := by kernel_rfl
theorem QHp : (Try.f97.name == numgo) = false := by kernel_rfl
theorem QHq : (Try.f98.name == numgo) = false := by kernel_rfl
theorem Qtm : (Try.f99.name == numgo) = false := by kernel_rfl
theorem QFw : (Try.f100.name == numgo) = false := by kernel_rfl
theorem QFx : (Try.f101.name == numgo) = false := by kernel_rfl
theorem Qfo : (Try.f102.name == numgo) = false := by kernel_rfl
theorem QFy : (Try.f103.name == numgo) = false := by kernel_rfl
theorem QFz : (Try.f106.name == numgo) = false := by kernel_rfl
theorem Qfp : (Try.f107.name == numgo) = false := by kernel_rfl
theorem Qlg : (Try.f108.name == numgo) = false := by kernel_rfl
theorem Qsp : (Try.f109.name == numgo) = false := by kernel_rfl
theorem Qsq : (Try.f110.name == numgo) = false := by kernel_rfl
theorem QGa : (Try.f111.name == numgo) = false := by kernel_rfl
theorem QGb : (Try.f112.name == numgo) = false := by kernel_rfl
theorem QGc : (Try.f113.name == numgo) = false := by kernel_rfl
theorem QGd : (Try.f114.name == numgo) = false := by kernel_rfl
theorem QGe : (Try.f115.name == numgo) = false := by kernel_rfl
theorem Qsr : (Try.f116.name == numgo) = false := by kernel_rfl
theorem Qss : (Try.f117.name == numgo) = false := by kernel_rfl
theorem Qst : (Try.f118.name == numgo) = false := by kernel_rfl
theorem QGf : (Try.f123.name == numgo) = false := by kernel_rfl
theorem QGg : (Try.f124.name == numgo) = false := by kernel_rfl
theorem QGh : (Try.f125.name == numgo) = false := by kernel_rfl
theorem Qsu : (Try.f126.name == numgo) = false := by kernel_rfl
theorem Qsv : (Try.f132.name == numgo) = false := by kernel_rfl
theorem Qsw : (Try.f133.name == numgo) = false := by kernel_rfl
theorem QGi : (Try.f138.name == numgo) = false := by kernel_rfl
theorem QGj : (Try.f139.name == numgo) = false := by kernel_rfl
theorem Qsx : (Try.f140.name == numgo) = false := by kernel_rfl
theorem Qfq : (Try.f141.name == numgo) = false := by kernel_rfl
theorem Qsy : (Try.f142.name == numgo) = false := by kernel_rfl
theorem QGk : (Try.f143.name == numgo) = false := by kernel_rfl
theorem QGl : (Try.f144.name == numgo) = false := by kernel_rfl
theorem Qsz : (Try.f145.name == numgo) = false := by kernel_rfl
theorem Qlh : (Try.f146.name == numgo) = false := by kernel_rfl
theorem QGm : (Try.f147.name == numgo) = false := by kernel_rfl
theorem QGn : (Try.f148.name == numgo) = false := by kernel_rfl
theorem QGo : (Try.f149.name == numgo) = false := by kernel_rfl
theorem Qta : (Try.f150.name == numgo) = false := by kernel_rfl
theorem QGp : (Try.f151.name == numgo) = false := by kernel_rfl
theorem QGq : (Try.f152.name == numgo) = false := by kernel_rfl
theorem Qtb : (Try.f154.name == numgo) = false := by kernel_rfl
theorem QGr : (Try.f155.name == numgo) = false := by kernel_rfl
theorem QGs : (Try.f156.name == numgo) = false := by kernel_rfl
theorem Qtc : (Try.f163.name == numgo) = false := by kernel_rfl
theorem Qtd : (Try.f164.name == numgo) = false := by kernel_rfl
theorem QGt : (Try.f165.name == numgo) = false := by kernel_rfl
theorem QGu : (Try.f166.name == numgo) = false := by kernel_rfl
theorem QGv : (Try.f167.name == numgo) = false := by kernel_rfl
theorem Qte : (Try.f168.name == numgo) = false := by kernel_rfl
theorem Qzq : Try.prog.eqGuardType Try.prog.depth 62 = false := by kernel_rfl
theorem Qzv (a b : FeedDeparture) : EqS Try.prog 62 (List.toArray [(.string a.Train), (.int .i64 a.At)]) (List.toArray [(.string b.Train), (.int .i64 b.At)]) (decide (a = b)) := by
  refine ⟨fun c hc => by
    simp at hc
    repeat' (rcases hc with rfl | hc)
    all_goals simp_all [JS], fun w => ?_⟩
  have u3 := Try.underlying3
  have a3 := Try.isAgg3
  have z3 := Try.sizeOf3
  have u9 := Try.underlying9
  have a9 := Try.isAgg9
  have z9 := Try.sizeOf9
  have hS : Try.prog.underlying 62 = some (.struct (Try.prog.fieldsOf 62)) := by kernel_rfl
  have hp : Try.prog.stoodInHeld 62 = false := by kernel_rfl
  rw [run_equalIn_agg w 9999 62 _ _ hS hp]
  simp only [Program.fieldsOf, Try.underlying62]
  go_simp
  cases a; cases b; simp only [FeedDeparture.mk.injEq]
  repeat' split
  all_goals simp_all [Qit]
theorem Qzr : Try.prog.eqGuardType Try.prog.depth 78 = false := by kernel_rfl
theorem Qzw (a b : FeedBook) : EqS Try.prog 78 (List.toArray [(.int .i64 a.Fed), (.int .i64 a.Used), (.int .i64 a.Braked), (.int .i64 a.Lost), (.int .i64 a.Back), (.int .i64 a.Burned)]) (List.toArray [(.int .i64 b.Fed), (.int .i64 b.Used), (.int .i64 b.Braked), (.int .i64 b.Lost), (.int .i64 b.Back), (.int .i64 b.Burned)]) (decide (a = b)) := by
  refine ⟨fun c hc => by
    simp at hc
    repeat' (rcases hc with rfl | hc)
    all_goals simp_all [JS], fun w => ?_⟩
  have u3 := Try.underlying3
  have a3 := Try.isAgg3
  have z3 := Try.sizeOf3
  have hS : Try.prog.underlying 78 = some (.struct (Try.prog.fieldsOf 78)) := by kernel_rfl
  have hp : Try.prog.stoodInHeld 78 = false := by kernel_rfl
  rw [run_equalIn_agg w 9999 78 _ _ hS hp]
  simp only [Program.fieldsOf, Try.underlying78]
  go_simp
  cases a; cases b; simp only [FeedBook.mk.injEq]
  repeat' split
  all_goals simp_all [Qit]
theorem Qzp : Try.prog.eqGuardType Try.prog.depth 107 = false := by kernel_rfl
theorem Qzu (a b : Frac) : EqS Try.prog 107 (List.toArray [(.int .i64 a.Num), (.int .i64 a.Den)]) (List.toArray [(.int .i64 b.Num), (.int .i64 b.Den)]) (decide (a = b)) := by
  refine ⟨fun c hc => by
    simp at hc
    repeat' (rcases hc with rfl | hc)
    all_goals simp_all [JS], fun w => ?_⟩
  have u3 := Try.underlying3
  have a3 := Try.isAgg3
  have z3 := Try.sizeOf3
  have hS : Try.prog.underlying 107 = some (.struct (Try.prog.fieldsOf 107)) := by kernel_rfl
  have hp : Try.prog.stoodInHeld 107 = false := by kernel_rfl
  rw [run_equalIn_agg w 9999 107 _ _ hS hp]
  simp only [Program.fieldsOf, Try.underlying107]
  go_simp
  cases a; cases b; simp only [Frac.mk.injEq]
  repeat' split
  all_goals simp_all [Qit]
theorem XE : Try.prog.follows .mixedOrders = true := by kernel_rfl
end Go.Gw
