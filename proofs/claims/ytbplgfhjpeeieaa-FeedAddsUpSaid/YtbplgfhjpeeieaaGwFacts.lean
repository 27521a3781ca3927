/- Facts of the types of the program. No condition. -/
import Derived.Test.YtbplgfhjpeeieaaGwSt
import Derived.Test.YtbplgfhjpeeieaaGwPlan
import Derived.Laws.StructEq
import Derived.Test.YtbplgfhjpeeieaaProg
set_option linter.unusedVariables false
set_option linter.unusedSimpArgs false
set_option linter.unusedSectionVars false
set_option maxRecDepth 100000
namespace Go.Gw
open Go Go.Proofs
abbrev numgo : String := "runtime.NumGoroutine"
theorem QH : XG Try.prog 3 1 := Yv (by kernel_rfl)
theorem sz4 : XG Try.prog 4 1 := Yv (by kernel_rfl)
theorem sz5 : XG Try.prog 5 1 := Yv (by kernel_rfl)
theorem Y4 : XG Try.prog 9 1 := Yv (by kernel_rfl)
theorem Zl : XG Try.prog 22 1 := Yv (by kernel_rfl)
theorem Jb : XG Try.prog 23 1 := Yv (by kernel_rfl)
theorem YA : XG Try.prog 24 1 := Yv (by kernel_rfl)
theorem Yj : XG Try.prog 26 3 := Yv (by kernel_rfl)
theorem QPw : XG Try.prog 30 1 := Yv (by kernel_rfl)
theorem Zm : XG Try.prog 41 2 := Yv (by kernel_rfl)
theorem ZZ : XG Try.prog 52 1 := Yv (by kernel_rfl)
theorem Qaz : XG Try.prog 62 2 := Yv (by kernel_rfl)
theorem Qcq : XG Try.prog 73 4 := Yv (by kernel_rfl)
theorem X3 : XG Try.prog 78 6 := Yv (by kernel_rfl)
theorem Qpx : XG Try.prog 107 2 := Yv (by kernel_rfl)
theorem Qgj : XG Try.prog 111 3 := Yv (by kernel_rfl)
theorem Z9 : XG Try.prog 125 1 := Yv (by kernel_rfl)
theorem Y8 : XG Try.prog 127 4 := Yv (by kernel_rfl)
theorem Qaj : XG Try.prog 145 3 := Yv (by kernel_rfl)
theorem Qbo : XG Try.prog 149 3 := Yv (by kernel_rfl)
theorem Ja : XG Try.prog 154 3 := Yv (by kernel_rfl)
theorem Y3 : XG Try.prog 158 5 := Yv (by kernel_rfl)
theorem Qay : XG Try.prog 185 2 := Yv (by kernel_rfl)
theorem QG : Zv Try.prog 3 := ⟨_, Try.underlying3, trivial⟩
theorem sc4 : Zv Try.prog 4 := ⟨_, Try.underlying4, trivial⟩
theorem sc5 : Zv Try.prog 5 := ⟨_, Try.underlying5, trivial⟩
theorem YW : Zv Try.prog 9 := ⟨_, Try.underlying9, trivial⟩
theorem Zi : Zv Try.prog 22 := ⟨_, Try.underlying22, trivial⟩
theorem Z8 : Zv Try.prog 23 := ⟨_, Try.underlying23, trivial⟩
theorem YL : Zv Try.prog 24 := ⟨_, Try.underlying24, trivial⟩
theorem QNw : Zv Try.prog 30 := ⟨_, Try.underlying30, trivial⟩
theorem Jt : Zv Try.prog 52 := ⟨_, Try.underlying52, trivial⟩
theorem JN : Zv Try.prog 125 := ⟨_, Try.underlying125, trivial⟩
theorem YD : Aggr Try.prog 26 3 := ZK (by trivial) Try.underlying26 (by kernel_rfl)
theorem YO : Aggr Try.prog 41 2 := ZK (by trivial) Try.underlying41 (by kernel_rfl)
theorem Qlh : Aggr Try.prog 62 2 := ZK (by trivial) Try.underlying62 (by kernel_rfl)
theorem Qaq : Aggr Try.prog 73 4 := ZK (by trivial) Try.underlying73 (by kernel_rfl)
theorem QCd : Aggr Try.prog 76 2 := ZK (by trivial) Try.underlying76 (by kernel_rfl)
theorem Yd : Aggr Try.prog 78 6 := ZK (by trivial) Try.underlying78 (by kernel_rfl)
theorem Qqs : Aggr Try.prog 94 2 := ZK (by trivial) Try.underlying94 (by kernel_rfl)
theorem Qlf : Aggr Try.prog 107 2 := ZK (by trivial) Try.underlying107 (by kernel_rfl)
theorem Qlg : Aggr Try.prog 111 3 := ZK (by trivial) Try.underlying111 (by kernel_rfl)
theorem JB : Aggr Try.prog 127 4 := ZK (by trivial) Try.underlying127 (by kernel_rfl)
theorem Qqr : Aggr Try.prog 145 3 := ZK (by trivial) Try.underlying145 (by kernel_rfl)
theorem Zw : Aggr Try.prog 149 3 := ZK (by trivial) Try.underlying149 (by kernel_rfl)
theorem Zr : Aggr Try.prog 154 3 := ZK (by trivial) Try.underlying154 (by kernel_rfl)
theorem YZ : Aggr Try.prog 158 5 := ZK (by trivial) Try.underlying158 (by kernel_rfl)
theorem Qgx : Aggr Try.prog 185 2 := ZK (by trivial) Try.underlying185 (by kernel_rfl)
theorem Y6 : EInfo Try.prog 3 1 8 (.int .i64 0) := J8 (by kernel_rfl) rfl (by decide)
theorem ei9 : EInfo Try.prog 9 1 16 (.string ByteArray.empty) := J8 (by kernel_rfl) rfl (by decide)
theorem JG : EInfo Try.prog 30 1 8 (.int .i64 0) := J8 (by kernel_rfl) rfl (by decide)
theorem Qbw : EInfo Try.prog 62 2 24 (.agg (List.toArray [(.string ByteArray.empty), (.int .i64 0)])) := J8 (by kernel_rfl) rfl (by decide)
theorem YK : EInfo Try.prog 73 4 32 (.agg (List.toArray [(.int .i64 0), (.int .i64 0), (.int .i64 0), (.int .i64 0)])) := J8 (by kernel_rfl) rfl (by decide)
theorem Qmd : EInfo Try.prog 107 2 16 (.agg (List.toArray [(.int .i64 0), (.int .i64 0)])) := J8 (by kernel_rfl) rfl (by decide)
theorem Qme : EInfo Try.prog 127 4 56 (.agg (List.toArray [(.string ByteArray.empty), (.int .i64 0), (.int .i64 0), (.slice none 0 0)])) := J8 (by kernel_rfl) rfl (by decide)
theorem ZF : EInfo Try.prog 145 3 32 (.agg (List.toArray [(.string ByteArray.empty), (.int .i64 0), (.bool false)])) := J8 (by kernel_rfl) rfl (by decide)
theorem Zg : EInfo Try.prog 158 5 64 (.agg (List.toArray [(.string ByteArray.empty), (.int .i64 0), (.int .i64 0), (.slice none 0 0), (.int .i64 0)])) := J8 (by kernel_rfl) rfl (by decide)
theorem Qhr : EInfo Try.prog 185 2 16 (.agg (List.toArray [(.int .i64 0), (.int .i64 0)])) := J8 (by kernel_rfl) rfl (by decide)
theorem ZL : BI Try.prog 26 [(0, 1), (1, 1), (2, 1)] [(.slice none 0 0), (.slice none 0 0), (.slice none 0 0)] := ZR Try.underlying26 (by kernel_rfl) (by kernel_rfl)
theorem Qar : BI Try.prog 41 [(0, 1), (1, 1)] [(.int .i64 0), (.int .i64 0)] := ZR Try.underlying41 (by kernel_rfl) (by kernel_rfl)
theorem Qcy : BI Try.prog 62 [(0, 1), (1, 1)] [(.string ByteArray.empty), (.int .i64 0)] := ZR Try.underlying62 (by kernel_rfl) (by kernel_rfl)
theorem Qrh : BI Try.prog 73 [(0, 1), (1, 1), (2, 1), (3, 1)] [(.int .i64 0), (.int .i64 0), (.int .i64 0), (.int .i64 0)] := ZR Try.underlying73 (by kernel_rfl) (by kernel_rfl)
theorem Qhc : BI Try.prog 76 [(0, 1), (1, 1)] [(.int .i64 0), (.int .i64 0)] := ZR Try.underlying76 (by kernel_rfl) (by kernel_rfl)
theorem Zc : BI Try.prog 78 [(0, 1), (1, 1), (2, 1), (3, 1), (4, 1), (5, 1)] [(.int .i64 0), (.int .i64 0), (.int .i64 0), (.int .i64 0), (.int .i64 0), (.int .i64 0)] := ZR Try.underlying78 (by kernel_rfl) (by kernel_rfl)
theorem QCt : BI Try.prog 94 [(0, 1), (1, 1)] [(.slice none 0 0), (.slice none 0 0)] := ZR Try.underlying94 (by kernel_rfl) (by kernel_rfl)
theorem Qre : BI Try.prog 107 [(0, 1), (1, 1)] [(.int .i64 0), (.int .i64 0)] := ZR Try.underlying107 (by kernel_rfl) (by kernel_rfl)
theorem Qlr : BI Try.prog 111 [(0, 1), (1, 1), (2, 1)] [(.int .i64 0), (.int .i64 0), (.int .i64 0)] := ZR Try.underlying111 (by kernel_rfl) (by kernel_rfl)
theorem Qrf : BI Try.prog 127 [(0, 1), (1, 1), (2, 1), (3, 1)] [(.string ByteArray.empty), (.int .i64 0), (.int .i64 0), (.slice none 0 0)] := ZR Try.underlying127 (by kernel_rfl) (by kernel_rfl)
theorem Qrg : BI Try.prog 145 [(0, 1), (1, 1), (2, 1)] [(.string ByteArray.empty), (.int .i64 0), (.bool false)] := ZR Try.underlying145 (by kernel_rfl) (by kernel_rfl)
theorem QCr : BI Try.prog 149 [(0, 3)] [(.slice none 0 0), (.slice none 0 0), (.slice none 0 0)] := ZR Try.underlying149 (by kernel_rfl) (by kernel_rfl)
theorem QCs : BI Try.prog 154 [(0, 1), (1, 1), (2, 1)] [(.slice none 0 0), (.int .i64 0), (.bool false)] := ZR Try.underlying154 (by kernel_rfl) (by kernel_rfl)
theorem Qls : BI Try.prog 158 [(0, 4), (4, 1)] [(.string ByteArray.empty), (.int .i64 0), (.int .i64 0), (.slice none 0 0), (.int .i64 0)] := ZR Try.underlying158 (by kernel_rfl) (by kernel_rfl)
theorem Qhb : BI Try.prog 185 [(0, 1), (1, 1)] [(.int .i64 0), (.int .i64 0)] := ZR Try.underlying185 (by kernel_rfl) (by kernel_rfl)
theorem Jg : ZI Try.prog 26 [(.slice none 0 0), (.slice none 0 0), (.slice none 0 0)] := ZE (by kernel_rfl)
theorem Qcv : ZI Try.prog 41 [(.int .i64 0), (.int .i64 0)] := ZE (by kernel_rfl)
theorem QSj : ZI Try.prog 62 [(.string ByteArray.empty), (.int .i64 0)] := ZE (by kernel_rfl)
theorem Qql : ZI Try.prog 73 [(.int .i64 0), (.int .i64 0), (.int .i64 0), (.int .i64 0)] := ZE (by kernel_rfl)
theorem ZJ : ZI Try.prog 78 [(.int .i64 0), (.int .i64 0), (.int .i64 0), (.int .i64 0), (.int .i64 0), (.int .i64 0)] := ZE (by kernel_rfl)
theorem QSg : ZI Try.prog 107 [(.int .i64 0), (.int .i64 0)] := ZE (by kernel_rfl)
theorem Qqj : ZI Try.prog 111 [(.int .i64 0), (.int .i64 0), (.int .i64 0)] := ZE (by kernel_rfl)
theorem Qkv : ZI Try.prog 127 [(.string ByteArray.empty), (.int .i64 0), (.int .i64 0), (.slice none 0 0)] := ZE (by kernel_rfl)
theorem QBt : ZI Try.prog 145 [(.string ByteArray.empty), (.int .i64 0), (.bool false)] := ZE (by kernel_rfl)
theorem Qcu : ZI Try.prog 149 [(.slice none 0 0), (.slice none 0 0), (.slice none 0 0)] := ZE (by kernel_rfl)
theorem Qbq : ZI Try.prog 154 [(.slice none 0 0), (.int .i64 0), (.bool false)] := ZE (by kernel_rfl)
theorem Qbr : ZI Try.prog 158 [(.string ByteArray.empty), (.int .i64 0), (.int .i64 0), (.slice none 0 0), (.int .i64 0)] := ZE (by kernel_rfl)
theorem Qkw : ZI Try.prog 185 [(.int .i64 0), (.int .i64 0)] := ZE (by kernel_rfl)
theorem QLa : (Try.f19.name == numgo) = false := by kernel_rfl
theorem QLb : (Try.f20.name == numgo) = false := by kernel_rfl
theorem QLc : (Try.f22.name == numgo) = false := by kernel_rfl
theorem Qce : (Try.f23.name == numgo) = false := by kernel_rfl
theorem QLd : (Try.f24.name == numgo) = false := by kernel_rfl
theorem QLe : (Try.f27.name == numgo) = false := by kernel_rfl
theorem QLf : (Try.f29.name == numgo) = false := by kernel_rfl
theorem QLg : (Try.f30.name == numgo) = false := by kernel_rfl
theorem Qac : (Try.f32.name == numgo) = false := by kernel_rfl
theorem QLh : (Try.f33.name == numgo) = false := by kernel_rfl
theorem QLi : (Try.f34.name == numgo) = false := by kernel_rfl
theorem QLj : (Try.f35.name == numgo) = false := by kernel_rfl
theorem QLk : (Try.f37.name == numgo) = false := by kernel_rfl
theorem Qxh : (Try.f39.name == numgo) = false := by kernel_rfl
theorem Qxi : (Try.f41.name == numgo) = false := by kernel_rfl
theorem Qxj : (Try.f43.name == numgo) = false := by kernel_rfl
theorem ZA : (Try.f46.name == numgo) = false := by kernel_rfl
theorem Jr : (Try.f48.name == numgo) = false := by kernel_rfl
theorem QLm : (Try.f54.name == numgo) = false := by kernel_rfl
theorem QLn : (Try.f60.name == numgo) = false := by kernel_rfl
theorem Qit : (Try.f83.name == numgo) = false := by kernel_rfl
theorem Qoo : (Try.f84.name == numgo) = false := by kernel_rfl
theorem Qxk : (Try.f85.name == numgo) = false := by kernel_rfl
theorem QLo : (Try.f86.name == numgo) = false := by kernel_rfl
theorem Qdv : (Try.f87.name == numgo) = false := by kernel_rfl
theorem Qfs : (Try.f89.name == numgo) = false := by kernel_rfl
theorem Qxl : (Try.f91.name == numgo) = false := by kernel_rfl
theorem JM : (Try.f92.name == numgo) = false := by kernel_rfl
theorem YH : (Try.f93.name == numgo) = false := by kernel_rfl
theorem Qxm : (Try.f94.name == numgo) = false := by kernel_rfl
theorem JZ : (Try.f95.name == numgo) = false := by kernel_rfl
theorem QLp : (Try.f96.name == numgo) = false := by kernel_rfl
theorem QLq : (Try.f97.name == numgo) = false := by kernel_rfl
theorem QLr : (Try.f98.name == numgo) = false := by kernel_rfl
theorem Qxn : (Try.f99.name == numgo) = false := by kernel_rfl
theorem QKe : (Try.f100.name == numgo) = false := by kernel_rfl
theorem QKf : (Try.f101.name == numgo) = false := by kernel_rfl
theorem Qok : (Try.f102.name == numgo) = false := by kernel_rfl
theorem QKg : (Try.f103.name == numgo) = false := by kernel_rfl
theorem Qol : (Try.f107.name == numgo) = false := by kernel_rfl
theorem Qwr : (Try.f108.name == numgo) = false := by kernel_rfl
theorem Qws : (Try.f109.name == numgo) = false := by kernel_rfl
theorem QKh : (Try.f110.name == numgo) = false := by kernel_rfl
theorem QKi : (Try.f115.name == numgo) = false := by kernel_rfl
theorem Qwt : (Try.f116.name == numgo) = false := by kernel_rfl
theorem Qwu : (Try.f117.name == numgo) = false := by kernel_rfl
theorem Qwv : (Try.f118.name == numgo) = false := by kernel_rfl
theorem QKj : (Try.f123.name == numgo) = false := by kernel_rfl
theorem QKk : (Try.f124.name == numgo) = false := by kernel_rfl
theorem QKl : (Try.f125.name == numgo) = false := by kernel_rfl
theorem Qww : (Try.f126.name == numgo) = false := by kernel_rfl
theorem Qwx : (Try.f132.name == numgo) = false := by kernel_rfl
theorem Qwy : (Try.f133.name == numgo) = false := by kernel_rfl
theorem QKm : (Try.f138.name == numgo) = false := by kernel_rfl
theorem QKn : (Try.f139.name == numgo) = false := by kernel_rfl
theorem Qwz : (Try.f140.name == numgo) = false := by kernel_rfl
theorem Qis : (Try.f141.name == numgo) = false := by kernel_rfl
theorem Qxa : (Try.f142.name == numgo) = false := by kernel_rfl
theorem QKo : (Try.f143.name == numgo) = false := by kernel_rfl
theorem QKp : (Try.f144.name == numgo) = false := by kernel_rfl
theorem Qxb : (Try.f145.name == numgo) = false := by kernel_rfl
theorem Qom : (Try.f146.name == numgo) = false := by kernel_rfl
theorem QKq : (Try.f147.name == numgo) = false := by kernel_rfl
theorem QKr : (Try.f148.name == numgo) = false := by kernel_rfl
theorem QKs : (Try.f149.name == numgo) = false := by kernel_rfl
theorem Qxc : (Try.f150.name == numgo) = false := by kernel_rfl
theorem QKt : (Try.f151.name == numgo) = false := by kernel_rfl
theorem QKu : (Try.f152.name == numgo) = false := by kernel_rfl
theorem Qxd : (Try.f154.name == numgo) = false := by kernel_rfl
theorem QKv : (Try.f155.name == numgo) = false := by kernel_rfl
theorem QKw : (Try.f156.name == numgo) = false := by kernel_rfl
theorem Qxe : (Try.f163.name == numgo) = false := by kernel_rfl
theorem Qxf : (Try.f164.name == numgo) = false := by kernel_rfl
theorem QKx : (Try.f165.name == numgo) = false := by kernel_rfl
theorem QKy : (Try.f166.name == numgo) = false := by kernel_rfl
theorem QKz : (Try.f167.name == numgo) = false := by kernel_rfl
theorem Qxg : (Try.f168.name == numgo) = false := by kernel_rfl
theorem QEa : Try.prog.eqGuardType Try.prog.depth 62 = false := by kernel_rfl
theorem QEe (a b : FeedDeparture) : EqS Try.prog 62 (List.toArray [(.string a.Train), (.int .i64 a.At)]) (List.toArray [(.string b.Train), (.int .i64 b.At)]) (decide (a = b)) := by
  refine ⟨fun c hc => by
    simp at hc
    repeat' (rcases hc with rfl | hc)
    all_goals simp_all [flat], fun w => ?_⟩
  have u3 := Try.underlying3
  have a3 := Try.isAgg3
  have z3 := Try.sizeOf3
  have u9 := Try.underlying9
  have a9 := Try.isAgg9
  have z9 := Try.sizeOf9
  have hS : Try.prog.underlying 62 = some (.struct (Try.prog.fieldsOf 62)) := by kernel_rfl
  have hp : Try.prog.stoodInHeld 62 = false := by kernel_rfl
  rw [run_equalIn_agg w 9999 62 _ _ hS hp]
  simp only [Program.fieldsOf, Try.underlying62]
  go_simp
  cases a; cases b; simp only [FeedDeparture.mk.injEq]
  repeat' split
  all_goals simp_all [Qlv]
theorem Qsd : Try.prog.eqGuardType Try.prog.depth 78 = false := by kernel_rfl
theorem Qse (a b : FeedBook) : EqS Try.prog 78 (List.toArray [(.int .i64 a.Fed), (.int .i64 a.Used), (.int .i64 a.Braked), (.int .i64 a.Lost), (.int .i64 a.Back), (.int .i64 a.Burned)]) (List.toArray [(.int .i64 b.Fed), (.int .i64 b.Used), (.int .i64 b.Braked), (.int .i64 b.Lost), (.int .i64 b.Back), (.int .i64 b.Burned)]) (decide (a = b)) := by
  refine ⟨fun c hc => by
    simp at hc
    repeat' (rcases hc with rfl | hc)
    all_goals simp_all [flat], fun w => ?_⟩
  have u3 := Try.underlying3
  have a3 := Try.isAgg3
  have z3 := Try.sizeOf3
  have hS : Try.prog.underlying 78 = some (.struct (Try.prog.fieldsOf 78)) := by kernel_rfl
  have hp : Try.prog.stoodInHeld 78 = false := by kernel_rfl
  rw [run_equalIn_agg w 9999 78 _ _ hS hp]
  simp only [Program.fieldsOf, Try.underlying78]
  go_simp
  cases a; cases b; simp only [FeedBook.mk.injEq]
  repeat' split
  all_goals simp_all [Qlv]
theorem QDz : Try.prog.eqGuardType Try.prog.depth 107 = false := by kernel_rfl
theorem QEd (a b : Frac) : EqS Try.prog 107 (List.toArray [(.int .i64 a.Num), (.int .i64 a.Den)]) (List.toArray [(.int .i64 b.Num), (.int .i64 b.Den)]) (decide (a = b)) := by
  refine ⟨fun c hc => by
    simp at hc
    repeat' (rcases hc with rfl | hc)
    all_goals simp_all [flat], fun w => ?_⟩
  have u3 := Try.underlying3
  have a3 := Try.isAgg3
  have z3 := Try.sizeOf3
  have hS : Try.prog.underlying 107 = some (.struct (Try.prog.fieldsOf 107)) := by kernel_rfl
  have hp : Try.prog.stoodInHeld 107 = false := by kernel_rfl
  rw [run_equalIn_agg w 9999 107 _ _ hS hp]
  simp only [Program.fieldsOf, Try.underlying107]
  go_simp
  cases a; cases b; simp only [Frac.mk.injEq]
  repeat' split
  all_goals simp_all [Qlv]
theorem XN : Try.prog.follows .mixedOrders = true := by kernel_rfl
end Go.Gw
