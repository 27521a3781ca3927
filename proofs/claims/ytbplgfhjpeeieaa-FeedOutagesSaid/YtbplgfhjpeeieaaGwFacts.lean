/- Facts of the types of the program. No condition. -/
import Derived.Test.YtbplgfhjpeeieaaGwSt
import Derived.Test.YtbplgfhjpeeieaaGwPlan
import Derived.Laws.StructEq
import Derived.Test.YtbplgfhjpeeieaaProg
set_option linter.unusedVariables false
set_option linter.unusedSimpArgs false
set_option linter.unusedSectionVars false
set_option maxRecDepth 100000
namespace Go.Gw
open Go Go.Proofs
abbrev numgo : String := "runtime.NumGoroutine"
theorem QH : XV Try.prog 3 1:=YM (by kernel_rfl)
theorem sz4 : XV Try.prog 4 1:=YM (by kernel_rfl)
theorem sz5 : XV Try.prog 5 1:=YM (by kernel_rfl)
theorem YP : XV Try.prog 9 1:=YM (by kernel_rfl)
theorem Yh : XV Try.prog 22 1:=YM (by kernel_rfl)
theorem Yt : XV Try.prog 23 1:=YM (by kernel_rfl)
theorem X3 : XV Try.prog 24 1:=YM (by kernel_rfl)
theorem Xu : XV Try.prog 26 3:=YM (by kernel_rfl)
theorem QSx : XV Try.prog 30 1:=YM (by kernel_rfl)
theorem Zh : XV Try.prog 41 2:=YM (by kernel_rfl)
theorem ZV : XV Try.prog 52 1:=YM (by kernel_rfl)
theorem Ju : XV Try.prog 62 2:=YM (by kernel_rfl)
theorem ZE : XV Try.prog 73 4:=YM (by kernel_rfl)
theorem Qrd : XV Try.prog 78 6:=YM (by kernel_rfl)
theorem Qrc : XV Try.prog 107 2:=YM (by kernel_rfl)
theorem Qav : XV Try.prog 111 3:=YM (by kernel_rfl)
theorem YO : XV Try.prog 125 1:=YM (by kernel_rfl)
theorem Ye : XV Try.prog 127 4:=YM (by kernel_rfl)
theorem Js : XV Try.prog 145 3:=YM (by kernel_rfl)
theorem Z7 : XV Try.prog 149 3:=YM (by kernel_rfl)
theorem Z8 : XV Try.prog 154 3:=YM (by kernel_rfl)
theorem Y6 : XV Try.prog 158 5:=YM (by kernel_rfl)
theorem Jt : XV Try.prog 185 2:=YM (by kernel_rfl)
theorem QN : ZJ Try.prog 3:=⟨_,Try.underlying3,trivial⟩
theorem sc4 : ZJ Try.prog 4:=⟨_,Try.underlying4,trivial⟩
theorem sc5 : ZJ Try.prog 5:=⟨_,Try.underlying5,trivial⟩
theorem YJ : ZJ Try.prog 9:=⟨_,Try.underlying9,trivial⟩
theorem Yo : ZJ Try.prog 22:=⟨_,Try.underlying22,trivial⟩
theorem YF : ZJ Try.prog 23:=⟨_,Try.underlying23,trivial⟩
theorem X9 : ZJ Try.prog 24:=⟨_,Try.underlying24,trivial⟩
theorem QQr : ZJ Try.prog 30:=⟨_,Try.underlying30,trivial⟩
theorem Jq : ZJ Try.prog 52:=⟨_,Try.underlying52,trivial⟩
theorem Zb : ZJ Try.prog 125:=⟨_,Try.underlying125,trivial⟩
theorem XE : Aggr Try.prog 26 3:=ZK (by trivial) Try.underlying26 (by kernel_rfl)
theorem YQ : Aggr Try.prog 41 2:=ZK (by trivial) Try.underlying41 (by kernel_rfl)
theorem Qmn : Aggr Try.prog 62 2:=ZK (by trivial) Try.underlying62 (by kernel_rfl)
theorem ZC : Aggr Try.prog 73 4:=ZK (by trivial) Try.underlying73 (by kernel_rfl)
theorem QCu : Aggr Try.prog 76 2:=ZK (by trivial) Try.underlying76 (by kernel_rfl)
theorem Qhz : Aggr Try.prog 78 6:=ZK (by trivial) Try.underlying78 (by kernel_rfl)
theorem Qrr : Aggr Try.prog 94 2:=ZK (by trivial) Try.underlying94 (by kernel_rfl)
theorem Qmm : Aggr Try.prog 107 2:=ZK (by trivial) Try.underlying107 (by kernel_rfl)
theorem Qet : Aggr Try.prog 111 3:=ZK (by trivial) Try.underlying111 (by kernel_rfl)
theorem ZB : Aggr Try.prog 127 4:=ZK (by trivial) Try.underlying127 (by kernel_rfl)
theorem Qhy : Aggr Try.prog 145 3:=ZK (by trivial) Try.underlying145 (by kernel_rfl)
theorem YG : Aggr Try.prog 149 3:=ZK (by trivial) Try.underlying149 (by kernel_rfl)
theorem Zl : Aggr Try.prog 154 3:=ZK (by trivial) Try.underlying154 (by kernel_rfl)
theorem Y1 : Aggr Try.prog 158 5:=ZK (by trivial) Try.underlying158 (by kernel_rfl)
theorem Qcw : Aggr Try.prog 185 2:=ZK (by trivial) Try.underlying185 (by kernel_rfl)
theorem Yw : EInfo Try.prog 3 1 8 (.int .i64 0):=J2 (by kernel_rfl) rfl (by decide)
theorem ei9 : EInfo Try.prog 9 1 16 (.string ByteArray.empty):=J2 (by kernel_rfl) rfl (by decide)
theorem Je : EInfo Try.prog 30 1 8 (.int .i64 0):=J2 (by kernel_rfl) rfl (by decide)
theorem Qby : EInfo Try.prog 62 2 24 (.agg (List.toArray [(.string ByteArray.empty),(.int .i64 0)])):=J2 (by kernel_rfl) rfl (by decide)
theorem YC : EInfo Try.prog 73 4 32 (.agg (List.toArray [(.int .i64 0),(.int .i64 0),(.int .i64 0),(.int .i64 0)])):=J2 (by kernel_rfl) rfl (by decide)
theorem Qni : EInfo Try.prog 107 2 16 (.agg (List.toArray [(.int .i64 0),(.int .i64 0)])):=J2 (by kernel_rfl) rfl (by decide)
theorem Qfe : EInfo Try.prog 127 4 56 (.agg (List.toArray [(.string ByteArray.empty),(.int .i64 0),(.int .i64 0),(.slice none 0 0)])):=J2 (by kernel_rfl) rfl (by decide)
theorem Zm : EInfo Try.prog 145 3 32 (.agg (List.toArray [(.string ByteArray.empty),(.int .i64 0),(.bool false)])):=J2 (by kernel_rfl) rfl (by decide)
theorem Zf : EInfo Try.prog 158 5 64 (.agg (List.toArray [(.string ByteArray.empty),(.int .i64 0),(.int .i64 0),(.slice none 0 0),(.int .i64 0)])):=J2 (by kernel_rfl) rfl (by decide)
theorem Qdb : EInfo Try.prog 185 2 16 (.agg (List.toArray [(.int .i64 0),(.int .i64 0)])):=J2 (by kernel_rfl) rfl (by decide)
theorem Y2 : BI Try.prog 26 [(0,1),(1,1),(2,1)] [(.slice none 0 0),(.slice none 0 0),(.slice none 0 0)]:=ZM Try.underlying26 (by kernel_rfl) (by kernel_rfl)
theorem Qan : BI Try.prog 41 [(0,1),(1,1)] [(.int .i64 0),(.int .i64 0)]:=ZM Try.underlying41 (by kernel_rfl) (by kernel_rfl)
theorem Qcz : BI Try.prog 62 [(0,1),(1,1)] [(.string ByteArray.empty),(.int .i64 0)]:=ZM Try.underlying62 (by kernel_rfl) (by kernel_rfl)
theorem Qsi : BI Try.prog 73 [(0,1),(1,1),(2,1),(3,1)] [(.int .i64 0),(.int .i64 0),(.int .i64 0),(.int .i64 0)]:=ZM Try.underlying73 (by kernel_rfl) (by kernel_rfl)
theorem QDl : BI Try.prog 76 [(0,1),(1,1)] [(.int .i64 0),(.int .i64 0)]:=ZM Try.underlying76 (by kernel_rfl) (by kernel_rfl)
theorem Qsj : BI Try.prog 78 [(0,1),(1,1),(2,1),(3,1),(4,1),(5,1)] [(.int .i64 0),(.int .i64 0),(.int .i64 0),(.int .i64 0),(.int .i64 0),(.int .i64 0)]:=ZM Try.underlying78 (by kernel_rfl) (by kernel_rfl)
theorem QDm : BI Try.prog 94 [(0,1),(1,1)] [(.slice none 0 0),(.slice none 0 0)]:=ZM Try.underlying94 (by kernel_rfl) (by kernel_rfl)
theorem Qsf : BI Try.prog 107 [(0,1),(1,1)] [(.int .i64 0),(.int .i64 0)]:=ZM Try.underlying107 (by kernel_rfl) (by kernel_rfl)
theorem Qey : BI Try.prog 111 [(0,1),(1,1),(2,1)] [(.int .i64 0),(.int .i64 0),(.int .i64 0)]:=ZM Try.underlying111 (by kernel_rfl) (by kernel_rfl)
theorem Qsg : BI Try.prog 127 [(0,1),(1,1),(2,1),(3,1)] [(.string ByteArray.empty),(.int .i64 0),(.int .i64 0),(.slice none 0 0)]:=ZM Try.underlying127 (by kernel_rfl) (by kernel_rfl)
theorem Qsh : BI Try.prog 145 [(0,1),(1,1),(2,1)] [(.string ByteArray.empty),(.int .i64 0),(.bool false)]:=ZM Try.underlying145 (by kernel_rfl) (by kernel_rfl)
theorem QDj : BI Try.prog 149 [(0,3)] [(.slice none 0 0),(.slice none 0 0),(.slice none 0 0)]:=ZM Try.underlying149 (by kernel_rfl) (by kernel_rfl)
theorem QDk : BI Try.prog 154 [(0,1),(1,1),(2,1)] [(.slice none 0 0),(.int .i64 0),(.bool false)]:=ZM Try.underlying154 (by kernel_rfl) (by kernel_rfl)
theorem Qmy : BI Try.prog 158 [(0,4),(4,1)] [(.string ByteArray.empty),(.int .i64 0),(.int .i64 0),(.slice none 0 0),(.int .i64 0)]:=ZM Try.underlying158 (by kernel_rfl) (by kernel_rfl)
theorem Qid : BI Try.prog 185 [(0,1),(1,1)] [(.int .i64 0),(.int .i64 0)]:=ZM Try.underlying185 (by kernel_rfl) (by kernel_rfl)
theorem Zk : ZI Try.prog 26 [(.slice none 0 0),(.slice none 0 0),(.slice none 0 0)]:=ZG (by kernel_rfl)
theorem Qct : ZI Try.prog 41 [(.int .i64 0),(.int .i64 0)]:=ZG (by kernel_rfl)
theorem QVe : ZI Try.prog 62 [(.string ByteArray.empty),(.int .i64 0)]:=ZG (by kernel_rfl)
theorem Qhq : ZI Try.prog 73 [(.int .i64 0),(.int .i64 0),(.int .i64 0),(.int .i64 0)]:=ZG (by kernel_rfl)
theorem Qrm : ZI Try.prog 78 [(.int .i64 0),(.int .i64 0),(.int .i64 0),(.int .i64 0),(.int .i64 0),(.int .i64 0)]:=ZG (by kernel_rfl)
theorem QVc : ZI Try.prog 107 [(.int .i64 0),(.int .i64 0)]:=ZG (by kernel_rfl)
theorem Qeq : ZI Try.prog 111 [(.int .i64 0),(.int .i64 0),(.int .i64 0)]:=ZG (by kernel_rfl)
theorem Qaj : ZI Try.prog 127 [(.string ByteArray.empty),(.int .i64 0),(.int .i64 0),(.slice none 0 0)]:=ZG (by kernel_rfl)
theorem QCj : ZI Try.prog 145 [(.string ByteArray.empty),(.int .i64 0),(.bool false)]:=ZG (by kernel_rfl)
theorem JO : ZI Try.prog 149 [(.slice none 0 0),(.slice none 0 0),(.slice none 0 0)]:=ZG (by kernel_rfl)
theorem Qbr : ZI Try.prog 154 [(.slice none 0 0),(.int .i64 0),(.bool false)]:=ZG (by kernel_rfl)
theorem Qbs : ZI Try.prog 158 [(.string ByteArray.empty),(.int .i64 0),(.int .i64 0),(.slice none 0 0),(.int .i64 0)]:=ZG (by kernel_rfl)
theorem Qme : ZI Try.prog 185 [(.int .i64 0),(.int .i64 0)]:=ZG (by kernel_rfl)
theorem QMr : (Try.f19.name == numgo) = false:=by kernel_rfl
theorem QMs : (Try.f20.name == numgo) = false:=by kernel_rfl
theorem QMt : (Try.f22.name == numgo) = false:=by kernel_rfl
theorem Qpp : (Try.f23.name == numgo) = false:=by kernel_rfl
theorem Qyf : (Try.f24.name == numgo) = false:=by kernel_rfl
theorem QMu : (Try.f27.name == numgo) = false:=by kernel_rfl
theorem QMv : (Try.f29.name == numgo) = false:=by kernel_rfl
theorem QMw : (Try.f30.name == numgo) = false:=by kernel_rfl
theorem QMx : (Try.f32.name == numgo) = false:=by kernel_rfl
theorem QMy : (Try.f33.name == numgo) = false:=by kernel_rfl
theorem QMz : (Try.f34.name == numgo) = false:=by kernel_rfl
theorem QNa : (Try.f35.name == numgo) = false:=by kernel_rfl
theorem QNb : (Try.f37.name == numgo) = false:=by kernel_rfl
theorem Qyg : (Try.f39.name == numgo) = false:=by kernel_rfl
theorem QNc : (Try.f41.name == numgo) = false:=by kernel_rfl
theorem QNd : (Try.f44.name == numgo) = false:=by kernel_rfl
theorem QNe : (Try.f45.name == numgo) = false:=by kernel_rfl
theorem J8 : (Try.f46.name == numgo) = false:=by kernel_rfl
theorem QNf : (Try.f48.name == numgo) = false:=by kernel_rfl
theorem QNg : (Try.f54.name == numgo) = false:=by kernel_rfl
theorem QNh : (Try.f60.name == numgo) = false:=by kernel_rfl
theorem QNi : (Try.f62.name == numgo) = false:=by kernel_rfl
theorem QNj : (Try.f65.name == numgo) = false:=by kernel_rfl
theorem Qyh : (Try.f78.name == numgo) = false:=by kernel_rfl
theorem Qjv : (Try.f83.name == numgo) = false:=by kernel_rfl
theorem Qpq : (Try.f84.name == numgo) = false:=by kernel_rfl
theorem Qpr : (Try.f85.name == numgo) = false:=by kernel_rfl
theorem QNo : (Try.f86.name == numgo) = false:=by kernel_rfl
theorem Qdu : (Try.f87.name == numgo) = false:=by kernel_rfl
theorem Qgf : (Try.f89.name == numgo) = false:=by kernel_rfl
theorem Qjw : (Try.f91.name == numgo) = false:=by kernel_rfl
theorem Jk : (Try.f92.name == numgo) = false:=by kernel_rfl
theorem Yy : (Try.f93.name == numgo) = false:=by kernel_rfl
theorem Qyi : (Try.f94.name == numgo) = false:=by kernel_rfl
theorem JU : (Try.f95.name == numgo) = false:=by kernel_rfl
theorem QNp : (Try.f96.name == numgo) = false:=by kernel_rfl
theorem QNq : (Try.f97.name == numgo) = false:=by kernel_rfl
theorem QNr : (Try.f98.name == numgo) = false:=by kernel_rfl
theorem Qyj : (Try.f99.name == numgo) = false:=by kernel_rfl
theorem QLl : (Try.f100.name == numgo) = false:=by kernel_rfl
theorem QLm : (Try.f101.name == numgo) = false:=by kernel_rfl
theorem Qjt : (Try.f102.name == numgo) = false:=by kernel_rfl
theorem QLn : (Try.f103.name == numgo) = false:=by kernel_rfl
theorem Qpl : (Try.f107.name == numgo) = false:=by kernel_rfl
theorem Qxo : (Try.f108.name == numgo) = false:=by kernel_rfl
theorem Qxp : (Try.f109.name == numgo) = false:=by kernel_rfl
theorem QLo : (Try.f110.name == numgo) = false:=by kernel_rfl
theorem QLp : (Try.f111.name == numgo) = false:=by kernel_rfl
theorem QLq : (Try.f112.name == numgo) = false:=by kernel_rfl
theorem QLr : (Try.f113.name == numgo) = false:=by kernel_rfl
theorem QLs : (Try.f114.name == numgo) = false:=by kernel_rfl
theorem QLt : (Try.f115.name == numgo) = false:=by kernel_rfl
theorem Qxq : (Try.f116.name == numgo) = false:=by kernel_rfl
theorem Qxr : (Try.f117.name == numgo) = false:=by kernel_rfl
theorem Qxs : (Try.f118.name == numgo) = false:=by kernel_rfl
theorem QLu : (Try.f123.name == numgo) = false:=by kernel_rfl
theorem QLv : (Try.f124.name == numgo) = false:=by kernel_rfl
theorem QLw : (Try.f125.name == numgo) = false:=by kernel_rfl
theorem Qxt : (Try.f126.name == numgo) = false:=by kernel_rfl
theorem QLx : (Try.f131.name == numgo) = false:=by kernel_rfl
theorem Qpm : (Try.f132.name == numgo) = false:=by kernel_rfl
theorem Qpn : (Try.f133.name == numgo) = false:=by kernel_rfl
theorem Qxv : (Try.f137.name == numgo) = false:=by kernel_rfl
theorem QLy : (Try.f138.name == numgo) = false:=by kernel_rfl
theorem QLz : (Try.f139.name == numgo) = false:=by kernel_rfl
theorem Qxw : (Try.f140.name == numgo) = false:=by kernel_rfl
theorem Qju : (Try.f141.name == numgo) = false:=by kernel_rfl
theorem Qxx : (Try.f142.name == numgo) = false:=by kernel_rfl
theorem QMa : (Try.f143.name == numgo) = false:=by kernel_rfl
theorem QMb : (Try.f144.name == numgo) = false:=by kernel_rfl
theorem Qxy : (Try.f145.name == numgo) = false:=by kernel_rfl
theorem Qpo : (Try.f146.name == numgo) = false:=by kernel_rfl
theorem QMc : (Try.f147.name == numgo) = false:=by kernel_rfl
theorem QMd : (Try.f148.name == numgo) = false:=by kernel_rfl
theorem QMe : (Try.f149.name == numgo) = false:=by kernel_rfl
theorem Qxz : (Try.f150.name == numgo) = false:=by kernel_rfl
theorem QMf : (Try.f151.name == numgo) = false:=by kernel_rfl
theorem QMg : (Try.f152.name == numgo) = false:=by kernel_rfl
theorem Qya : (Try.f154.name == numgo) = false:=by kernel_rfl
theorem QMh : (Try.f155.name == numgo) = false:=by kernel_rfl
theorem QMi : (Try.f156.name == numgo) = false:=by kernel_rfl
theorem Qyc : (Try.f163.name == numgo) = false:=by kernel_rfl
theorem Qyd : (Try.f164.name == numgo) = false:=by kernel_rfl
theorem QMn : (Try.f165.name == numgo) = false:=by kernel_rfl
theorem QMo : (Try.f166.name == numgo) = false:=by kernel_rfl
theorem QMp : (Try.f167.name == numgo) = false:=by kernel_rfl
theorem Qye : (Try.f168.name == numgo) = false:=by kernel_rfl
theorem QMq : (Try.f169.name == numgo) = false:=by kernel_rfl
theorem QEs : Try.prog.eqGuardType Try.prog.depth 62 = false:=by kernel_rfl
theorem QFa (a b : FeedDeparture) : EqS Try.prog 62 (List.toArray [(.string a.Train),(.int .i64 a.At)]) (List.toArray [(.string b.Train),(.int .i64 b.At)]) (decide (a = b)):=by
  refine ⟨fun c hc=>by
    simp at hc
    repeat' (rcases hc with rfl | hc)
    all_goals simp_all [flat],fun w=>?_⟩
  have u3:=Try.underlying3
  have a3:=Try.isAgg3
  have z3:=Try.sizeOf3
  have u9:=Try.underlying9
  have a9:=Try.isAgg9
  have z9:=Try.sizeOf9
  have hS : Try.prog.underlying 62 = some (.struct (Try.prog.fieldsOf 62)):=by kernel_rfl
  have hp : Try.prog.stoodInHeld 62 = false:=by kernel_rfl
  rw [run_equalIn_agg w 9999 62 _ _ hS hp]
  simp only [Program.fieldsOf,Try.underlying62]
  go_simp
  cases a; cases b; simp only [FeedDeparture.mk.injEq]
  repeat' split
  all_goals simp_all [Qda]
theorem QEt : Try.prog.eqGuardType Try.prog.depth 73 = false:=by kernel_rfl
theorem QFb (a b : FeedSection) : EqS Try.prog 73 (List.toArray [(.int .i64 a.Left),(.int .i64 a.Right),(.int .i64 a.Share),(.int .i64 a.Loss)]) (List.toArray [(.int .i64 b.Left),(.int .i64 b.Right),(.int .i64 b.Share),(.int .i64 b.Loss)]) (decide (a = b)):=by
  refine ⟨fun c hc=>by
    simp at hc
    repeat' (rcases hc with rfl | hc)
    all_goals simp_all [flat],fun w=>?_⟩
  have u3:=Try.underlying3
  have a3:=Try.isAgg3
  have z3:=Try.sizeOf3
  have hS : Try.prog.underlying 73 = some (.struct (Try.prog.fieldsOf 73)):=by kernel_rfl
  have hp : Try.prog.stoodInHeld 73 = false:=by kernel_rfl
  rw [run_equalIn_agg w 9999 73 _ _ hS hp]
  simp only [Program.fieldsOf,Try.underlying73]
  go_simp
  cases a; cases b; simp only [FeedSection.mk.injEq]
  repeat' split
  all_goals simp_all [Qda]
theorem QEu : Try.prog.eqGuardType Try.prog.depth 78 = false:=by kernel_rfl
theorem QFc (a b : FeedBook) : EqS Try.prog 78 (List.toArray [(.int .i64 a.Fed),(.int .i64 a.Used),(.int .i64 a.Braked),(.int .i64 a.Lost),(.int .i64 a.Back),(.int .i64 a.Burned)]) (List.toArray [(.int .i64 b.Fed),(.int .i64 b.Used),(.int .i64 b.Braked),(.int .i64 b.Lost),(.int .i64 b.Back),(.int .i64 b.Burned)]) (decide (a = b)):=by
  refine ⟨fun c hc=>by
    simp at hc
    repeat' (rcases hc with rfl | hc)
    all_goals simp_all [flat],fun w=>?_⟩
  have u3:=Try.underlying3
  have a3:=Try.isAgg3
  have z3:=Try.sizeOf3
  have hS : Try.prog.underlying 78 = some (.struct (Try.prog.fieldsOf 78)):=by kernel_rfl
  have hp : Try.prog.stoodInHeld 78 = false:=by kernel_rfl
  rw [run_equalIn_agg w 9999 78 _ _ hS hp]
  simp only [Program.fieldsOf,Try.underlying78]
  go_simp
  cases a; cases b; simp only [FeedBook.mk.injEq]
  repeat' split
  all_goals simp_all [Qda]
theorem QEp : Try.prog.eqGuardType Try.prog.depth 107 = false:=by kernel_rfl
theorem QEx (a b : Frac) : EqS Try.prog 107 (List.toArray [(.int .i64 a.Num),(.int .i64 a.Den)]) (List.toArray [(.int .i64 b.Num),(.int .i64 b.Den)]) (decide (a = b)):=by
  refine ⟨fun c hc=>by
    simp at hc
    repeat' (rcases hc with rfl | hc)
    all_goals simp_all [flat],fun w=>?_⟩
  have u3:=Try.underlying3
  have a3:=Try.isAgg3
  have z3:=Try.sizeOf3
  have hS : Try.prog.underlying 107 = some (.struct (Try.prog.fieldsOf 107)):=by kernel_rfl
  have hp : Try.prog.stoodInHeld 107 = false:=by kernel_rfl
  rw [run_equalIn_agg w 9999 107 _ _ hS hp]
  simp only [Program.fieldsOf,Try.underlying107]
  go_simp
  cases a; cases b; simp only [Frac.mk.injEq]
  repeat' split
  all_goals simp_all [Qda]
theorem QEq : Try.prog.eqGuardType Try.prog.depth 145 = false:=by kernel_rfl
theorem QEy (a b : FeedStation) : EqS Try.prog 145 (List.toArray [(.string a.Name),(.int .i64 a.Limit),(.bool a.Takes)]) (List.toArray [(.string b.Name),(.int .i64 b.Limit),(.bool b.Takes)]) (decide (a = b)):=by
  refine ⟨fun c hc=>by
    simp at hc
    repeat' (rcases hc with rfl | hc)
    all_goals simp_all [flat],fun w=>?_⟩
  have u3:=Try.underlying3
  have a3:=Try.isAgg3
  have z3:=Try.sizeOf3
  have u4:=Try.underlying4
  have a4:=Try.isAgg4
  have z4:=Try.sizeOf4
  have u9:=Try.underlying9
  have a9:=Try.isAgg9
  have z9:=Try.sizeOf9
  have hS : Try.prog.underlying 145 = some (.struct (Try.prog.fieldsOf 145)):=by kernel_rfl
  have hp : Try.prog.stoodInHeld 145 = false:=by kernel_rfl
  rw [run_equalIn_agg w 9999 145 _ _ hS hp]
  simp only [Program.fieldsOf,Try.underlying145]
  go_simp
  cases a; cases b; simp only [FeedStation.mk.injEq]
  repeat' split
  all_goals simp_all [Qda]
theorem QEr : Try.prog.eqGuardType Try.prog.depth 185 = false:=by kernel_rfl
theorem QEz (a b : FeedStep) : EqS Try.prog 185 (List.toArray [(.int .i64 a.Section),(.int .i64 a.Power)]) (List.toArray [(.int .i64 b.Section),(.int .i64 b.Power)]) (decide (a = b)):=by
  refine ⟨fun c hc=>by
    simp at hc
    repeat' (rcases hc with rfl | hc)
    all_goals simp_all [flat],fun w=>?_⟩
  have u3:=Try.underlying3
  have a3:=Try.isAgg3
  have z3:=Try.sizeOf3
  have hS : Try.prog.underlying 185 = some (.struct (Try.prog.fieldsOf 185)):=by kernel_rfl
  have hp : Try.prog.stoodInHeld 185 = false:=by kernel_rfl
  rw [run_equalIn_agg w 9999 185 _ _ hS hp]
  simp only [Program.fieldsOf,Try.underlying185]
  go_simp
  cases a; cases b; simp only [FeedStep.mk.injEq]
  repeat' split
  all_goals simp_all [Qda]
theorem XM : Try.prog.follows .mixedOrders = true:=by kernel_rfl
end Go.Gw
