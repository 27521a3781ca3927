/- Facts of the types of the program. No condition. -/
import Derived.Test.YtbplgfhjpeeieaaGwSt
import Derived.Test.YtbplgfhjpeeieaaGwPlan
import Derived.Laws.StructEq
import Derived.Test.YtbplgfhjpeeieaaProg
set_option linter.unusedVariables false
set_option linter.unusedSimpArgs false
set_option linter.unusedSectionVars false
set_option maxRecDepth 100000
namespace Go.Gw
open Go Go.Proofs
abbrev numgo : String := "runtime.NumGoroutine"
theorem QQ : XG Try.prog 3 1 := Yq (by kernel_rfl)
theorem sz4 : XG Try.prog 4 1 := Yq (by kernel_rfl)
theorem sz5 : XG Try.prog 5 1 := Yq (by kernel_rfl)
theorem YJ : XG Try.prog 9 1 := Yq (by kernel_rfl)
theorem Yw : XG Try.prog 22 1 := Yq (by kernel_rfl)
theorem Zj : XG Try.prog 23 1 := Yq (by kernel_rfl)
theorem XU : XG Try.prog 24 1 := Yq (by kernel_rfl)
theorem Xt : XG Try.prog 26 3 := Yq (by kernel_rfl)
theorem QIr : XG Try.prog 30 1 := Yq (by kernel_rfl)
theorem YP : XG Try.prog 41 2 := Yq (by kernel_rfl)
theorem Qck : XG Try.prog 52 1 := Yq (by kernel_rfl)
theorem ZW : XG Try.prog 62 2 := Yq (by kernel_rfl)
theorem Qaz : XG Try.prog 73 4 := Yq (by kernel_rfl)
theorem Qll : XG Try.prog 78 6 := Yq (by kernel_rfl)
theorem ZU : XG Try.prog 111 3 := Yq (by kernel_rfl)
theorem Y7 : XG Try.prog 125 1 := Yq (by kernel_rfl)
theorem Yn : XG Try.prog 127 4 := Yq (by kernel_rfl)
theorem ZV : XG Try.prog 145 3 := Yq (by kernel_rfl)
theorem Qaf : XG Try.prog 149 3 := Yq (by kernel_rfl)
theorem Zt : XG Try.prog 154 3 := Yq (by kernel_rfl)
theorem YF : XG Try.prog 158 5 := Yq (by kernel_rfl)
theorem JX : XG Try.prog 185 2 := Yq (by kernel_rfl)
theorem QS : Zb Try.prog 3 := ⟨_, Try.underlying3, trivial⟩
theorem sc4 : Zb Try.prog 4 := ⟨_, Try.underlying4, trivial⟩
theorem sc5 : Zb Try.prog 5 := ⟨_, Try.underlying5, trivial⟩
theorem YD : Zb Try.prog 9 := ⟨_, Try.underlying9, trivial⟩
theorem Yv : Zb Try.prog 22 := ⟨_, Try.underlying22, trivial⟩
theorem Zi : Zb Try.prog 23 := ⟨_, Try.underlying23, trivial⟩
theorem Yc : Zb Try.prog 24 := ⟨_, Try.underlying24, trivial⟩
theorem QGs : Zb Try.prog 30 := ⟨_, Try.underlying30, trivial⟩
theorem Qgy : Zb Try.prog 52 := ⟨_, Try.underlying52, trivial⟩
theorem ZG : Zb Try.prog 125 := ⟨_, Try.underlying125, trivial⟩
theorem X9 : Aggr Try.prog 26 3 := Zz (by trivial) Try.underlying26 (by kernel_rfl)
theorem Yp : Aggr Try.prog 41 2 := Zz (by trivial) Try.underlying41 (by kernel_rfl)
theorem J5 : Aggr Try.prog 62 2 := Zz (by trivial) Try.underlying62 (by kernel_rfl)
theorem JL : Aggr Try.prog 73 4 := Zz (by trivial) Try.underlying73 (by kernel_rfl)
theorem Qvg : Aggr Try.prog 76 2 := Zz (by trivial) Try.underlying76 (by kernel_rfl)
theorem Qid : Aggr Try.prog 78 6 := Zz (by trivial) Try.underlying78 (by kernel_rfl)
theorem Qbh : Aggr Try.prog 111 3 := Zz (by trivial) Try.underlying111 (by kernel_rfl)
theorem Zl : Aggr Try.prog 127 4 := Zz (by trivial) Try.underlying127 (by kernel_rfl)
theorem Qmb : Aggr Try.prog 145 3 := Zz (by trivial) Try.underlying145 (by kernel_rfl)
theorem Y1 : Aggr Try.prog 149 3 := Zz (by trivial) Try.underlying149 (by kernel_rfl)
theorem YT : Aggr Try.prog 154 3 := Zz (by trivial) Try.underlying154 (by kernel_rfl)
theorem YU : Aggr Try.prog 158 5 := Zz (by trivial) Try.underlying158 (by kernel_rfl)
theorem Qex : Aggr Try.prog 185 2 := Zz (by trivial) Try.underlying185 (by kernel_rfl)
theorem ei3 : EInfo Try.prog 3 1 8 (.int .i64 0) := JO (by kernel_rfl) rfl (by decide)
theorem ei9 : EInfo Try.prog 9 1 16 (.string ByteArray.empty) := JO (by kernel_rfl) rfl (by decide)
theorem Z3 : EInfo Try.prog 30 1 8 (.int .i64 0) := JO (by kernel_rfl) rfl (by decide)
theorem YL : EInfo Try.prog 62 2 24 (.agg (List.toArray [(.string ByteArray.empty), (.int .i64 0)])) := JO (by kernel_rfl) rfl (by decide)
theorem Xr : EInfo Try.prog 73 4 32 (.agg (List.toArray [(.int .i64 0), (.int .i64 0), (.int .i64 0), (.int .i64 0)])) := JO (by kernel_rfl) rfl (by decide)
theorem Qdc : EInfo Try.prog 127 4 56 (.agg (List.toArray [(.string ByteArray.empty), (.int .i64 0), (.int .i64 0), (.slice none 0 0)])) := JO (by kernel_rfl) rfl (by decide)
theorem XP : EInfo Try.prog 145 3 32 (.agg (List.toArray [(.string ByteArray.empty), (.int .i64 0), (.bool false)])) := JO (by kernel_rfl) rfl (by decide)
theorem J8 : EInfo Try.prog 158 5 64 (.agg (List.toArray [(.string ByteArray.empty), (.int .i64 0), (.int .i64 0), (.slice none 0 0), (.int .i64 0)])) := JO (by kernel_rfl) rfl (by decide)
theorem Qbj : EInfo Try.prog 185 2 16 (.agg (List.toArray [(.int .i64 0), (.int .i64 0)])) := JO (by kernel_rfl) rfl (by decide)
theorem XY : BI Try.prog 26 [(0, 1), (1, 1), (2, 1)] [(.slice none 0 0), (.slice none 0 0), (.slice none 0 0)] := ZB Try.underlying26 (by kernel_rfl) (by kernel_rfl)
theorem JM : BI Try.prog 41 [(0, 1), (1, 1)] [(.int .i64 0), (.int .i64 0)] := ZB Try.underlying41 (by kernel_rfl) (by kernel_rfl)
theorem Qfc : BI Try.prog 62 [(0, 1), (1, 1)] [(.string ByteArray.empty), (.int .i64 0)] := ZB Try.underlying62 (by kernel_rfl) (by kernel_rfl)
theorem Qmi : BI Try.prog 73 [(0, 1), (1, 1), (2, 1), (3, 1)] [(.int .i64 0), (.int .i64 0), (.int .i64 0), (.int .i64 0)] := ZB Try.underlying73 (by kernel_rfl) (by kernel_rfl)
theorem Qvv : BI Try.prog 76 [(0, 1), (1, 1)] [(.int .i64 0), (.int .i64 0)] := ZB Try.underlying76 (by kernel_rfl) (by kernel_rfl)
theorem Qvw : BI Try.prog 78 [(0, 1), (1, 1), (2, 1), (3, 1), (4, 1), (5, 1)] [(.int .i64 0), (.int .i64 0), (.int .i64 0), (.int .i64 0), (.int .i64 0), (.int .i64 0)] := ZB Try.underlying78 (by kernel_rfl) (by kernel_rfl)
theorem Qfa : BI Try.prog 111 [(0, 1), (1, 1), (2, 1)] [(.int .i64 0), (.int .i64 0), (.int .i64 0)] := ZB Try.underlying111 (by kernel_rfl) (by kernel_rfl)
theorem Qmg : BI Try.prog 127 [(0, 1), (1, 1), (2, 1), (3, 1)] [(.string ByteArray.empty), (.int .i64 0), (.int .i64 0), (.slice none 0 0)] := ZB Try.underlying127 (by kernel_rfl) (by kernel_rfl)
theorem Qmh : BI Try.prog 145 [(0, 1), (1, 1), (2, 1)] [(.string ByteArray.empty), (.int .i64 0), (.bool false)] := ZB Try.underlying145 (by kernel_rfl) (by kernel_rfl)
theorem Qvt : BI Try.prog 149 [(0, 3)] [(.slice none 0 0), (.slice none 0 0), (.slice none 0 0)] := ZB Try.underlying149 (by kernel_rfl) (by kernel_rfl)
theorem Qvu : BI Try.prog 154 [(0, 1), (1, 1), (2, 1)] [(.slice none 0 0), (.int .i64 0), (.bool false)] := ZB Try.underlying154 (by kernel_rfl) (by kernel_rfl)
theorem Qik : BI Try.prog 158 [(0, 4), (4, 1)] [(.string ByteArray.empty), (.int .i64 0), (.int .i64 0), (.slice none 0 0), (.int .i64 0)] := ZB Try.underlying158 (by kernel_rfl) (by kernel_rfl)
theorem Qfb : BI Try.prog 185 [(0, 1), (1, 1)] [(.int .i64 0), (.int .i64 0)] := ZB Try.underlying185 (by kernel_rfl) (by kernel_rfl)
theorem Yd : ZI Try.prog 26 [(.slice none 0 0), (.slice none 0 0), (.slice none 0 0)] := Zk (by kernel_rfl)
theorem Qbe : ZI Try.prog 41 [(.int .i64 0), (.int .i64 0)] := Zk (by kernel_rfl)
theorem QKy : ZI Try.prog 62 [(.string ByteArray.empty), (.int .i64 0)] := Zk (by kernel_rfl)
theorem Qlu : ZI Try.prog 73 [(.int .i64 0), (.int .i64 0), (.int .i64 0), (.int .i64 0)] := Zk (by kernel_rfl)
theorem Qlv : ZI Try.prog 78 [(.int .i64 0), (.int .i64 0), (.int .i64 0), (.int .i64 0), (.int .i64 0), (.int .i64 0)] := Zk (by kernel_rfl)
theorem J1 : ZI Try.prog 111 [(.int .i64 0), (.int .i64 0), (.int .i64 0)] := Zk (by kernel_rfl)
theorem Qer : ZI Try.prog 127 [(.string ByteArray.empty), (.int .i64 0), (.int .i64 0), (.slice none 0 0)] := Zk (by kernel_rfl)
theorem Quv : ZI Try.prog 145 [(.string ByteArray.empty), (.int .i64 0), (.bool false)] := Zk (by kernel_rfl)
theorem Qbd : ZI Try.prog 149 [(.slice none 0 0), (.slice none 0 0), (.slice none 0 0)] := Zk (by kernel_rfl)
theorem Qai : ZI Try.prog 154 [(.slice none 0 0), (.int .i64 0), (.bool false)] := Zk (by kernel_rfl)
theorem Qaj : ZI Try.prog 158 [(.string ByteArray.empty), (.int .i64 0), (.int .i64 0), (.slice none 0 0), (.int .i64 0)] := Zk (by kernel_rfl)
theorem Qhx : ZI Try.prog 185 [(.int .i64 0), (.int .i64 0)] := Zk (by kernel_rfl)
theorem QEb : (Try.f20.name == numgo) = false := by kernel_rfl
theorem QEc : (Try.f22.name == numgo) = false := by kernel_rfl
theorem Qkn : (Try.f23.name == numgo) = false := by kernel_rfl
theorem QEd : (Try.f24.name == numgo) = false := by kernel_rfl
theorem Qko : (Try.f27.name == numgo) = false := by kernel_rfl
theorem QEe : (Try.f30.name == numgo) = false := by kernel_rfl
theorem Qcd : (Try.f32.name == numgo) = false := by kernel_rfl
theorem QEf : (Try.f33.name == numgo) = false := by kernel_rfl
theorem QEg : (Try.f34.name == numgo) = false := by kernel_rfl
theorem QEh : (Try.f37.name == numgo) = false := by kernel_rfl
theorem Jv : (Try.f46.name == numgo) = false := by kernel_rfl
theorem QEi : (Try.f48.name == numgo) = false := by kernel_rfl
theorem Qge : (Try.f64.name == numgo) = false := by kernel_rfl
theorem Qrd : (Try.f83.name == numgo) = false := by kernel_rfl
theorem Qre : (Try.f85.name == numgo) = false := by kernel_rfl
theorem QEl : (Try.f86.name == numgo) = false := by kernel_rfl
theorem Qce : (Try.f87.name == numgo) = false := by kernel_rfl
theorem Qea : (Try.f89.name == numgo) = false := by kernel_rfl
theorem Qrf : (Try.f91.name == numgo) = false := by kernel_rfl
theorem Jb : (Try.f92.name == numgo) = false := by kernel_rfl
theorem Ym : (Try.f93.name == numgo) = false := by kernel_rfl
theorem Qrg : (Try.f94.name == numgo) = false := by kernel_rfl
theorem Jx : (Try.f95.name == numgo) = false := by kernel_rfl
theorem QEm : (Try.f96.name == numgo) = false := by kernel_rfl
theorem QEn : (Try.f97.name == numgo) = false := by kernel_rfl
theorem Qrh : (Try.f98.name == numgo) = false := by kernel_rfl
theorem Qri : (Try.f99.name == numgo) = false := by kernel_rfl
theorem QDh : (Try.f100.name == numgo) = false := by kernel_rfl
theorem QDi : (Try.f101.name == numgo) = false := by kernel_rfl
theorem Qkj : (Try.f102.name == numgo) = false := by kernel_rfl
theorem Qqs : (Try.f107.name == numgo) = false := by kernel_rfl
theorem Qqt : (Try.f108.name == numgo) = false := by kernel_rfl
theorem QDj : (Try.f109.name == numgo) = false := by kernel_rfl
theorem QDk : (Try.f110.name == numgo) = false := by kernel_rfl
theorem QDl : (Try.f115.name == numgo) = false := by kernel_rfl
theorem Qqu : (Try.f116.name == numgo) = false := by kernel_rfl
theorem Qqv : (Try.f117.name == numgo) = false := by kernel_rfl
theorem Qqw : (Try.f118.name == numgo) = false := by kernel_rfl
theorem QDm : (Try.f126.name == numgo) = false := by kernel_rfl
theorem Qkk : (Try.f132.name == numgo) = false := by kernel_rfl
theorem Qqx : (Try.f133.name == numgo) = false := by kernel_rfl
theorem Qqy : (Try.f134.name == numgo) = false := by kernel_rfl
theorem QDn : (Try.f138.name == numgo) = false := by kernel_rfl
theorem QDo : (Try.f139.name == numgo) = false := by kernel_rfl
theorem QDp : (Try.f140.name == numgo) = false := by kernel_rfl
theorem Qkl : (Try.f141.name == numgo) = false := by kernel_rfl
theorem QDq : (Try.f142.name == numgo) = false := by kernel_rfl
theorem QDr : (Try.f143.name == numgo) = false := by kernel_rfl
theorem QDs : (Try.f144.name == numgo) = false := by kernel_rfl
theorem Qqz : (Try.f145.name == numgo) = false := by kernel_rfl
theorem Qkm : (Try.f146.name == numgo) = false := by kernel_rfl
theorem QDt : (Try.f147.name == numgo) = false := by kernel_rfl
theorem QDu : (Try.f148.name == numgo) = false := by kernel_rfl
theorem QDv : (Try.f149.name == numgo) = false := by kernel_rfl
theorem Qra : (Try.f154.name == numgo) = false := by kernel_rfl
theorem QDw : (Try.f155.name == numgo) = false := by kernel_rfl
theorem QDx : (Try.f156.name == numgo) = false := by kernel_rfl
theorem Qrb : (Try.f163.name == numgo) = false := by kernel_rfl
theorem Qrc : (Try.f164.name == numgo) = false := by kernel_rfl
theorem QDy : (Try.f165.name == numgo) = false := by kernel_rfl
theorem QDz : (Try.f166.name == numgo) = false := by kernel_rfl
theorem QEa : (Try.f167.name == numgo) = false := by kernel_rfl
theorem Qww : Try.prog.eqGuardType Try.prog.depth 62 = false := by kernel_rfl
theorem Qwz (a b : FeedDeparture) : EqS Try.prog 62 (List.toArray [(.string a.Train), (.int .i64 a.At)]) (List.toArray [(.string b.Train), (.int .i64 b.At)]) (decide (a = b)) := by
  refine ⟨fun c hc => by
    simp at hc
    repeat' (rcases hc with rfl | hc)
    all_goals simp_all [flat], fun w => ?_⟩
  have u3 := Try.underlying3
  have a3 := Try.isAgg3
  have z3 := Try.sizeOf3
  have u9 := Try.underlying9
  have a9 := Try.isAgg9
  have z9 := Try.sizeOf9
  have hS : Try.prog.underlying 62 = some (.struct (Try.prog.fieldsOf 62)) := by kernel_rfl
  have hp : Try.prog.stoodInHeld 62 = false := by kernel_rfl
  rw [run_equalIn_agg w 9999 62 _ _ hS hp]
  simp only [Program.fieldsOf, Try.underlying62]
  go_simp
  cases a; cases b; simp only [FeedDeparture.mk.injEq]
  repeat' split
  all_goals simp_all [Qvy]
theorem XQ : Try.prog.follows .mixedOrders = true := by kernel_rfl
end Go.Gw
