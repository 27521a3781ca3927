/- Facts of the types of the program. No condition. -/
import Derived.Test.YtbplgfhjpeeieaaGwSt
import Derived.Test.YtbplgfhjpeeieaaGwPlan
import Derived.Laws.StructEq
import Derived.Test.YtbplgfhjpeeieaaProg
set_option linter.unusedVariables false
set_option linter.unusedSimpArgs false
set_option linter.unusedSectionVars false
set_option maxRecDepth 100000
namespace Go.Gw
open Go Go.Proofs
abbrev numgo : String := "runtime.NumGoroutine"
theorem QJ : XL Try.prog 3 1 := Yv (by kernel_rfl)
theorem sz4 : XL Try.prog 4 1 := Yv (by kernel_rfl)
theorem sz5 : XL Try.prog 5 1 := Yv (by kernel_rfl)
theorem Yx : XL Try.prog 9 1 := Yv (by kernel_rfl)
theorem YQ : XL Try.prog 22 1 := Yv (by kernel_rfl)
theorem ZF : XL Try.prog 23 1 := Yv (by kernel_rfl)
theorem Xx : XL Try.prog 24 1 := Yv (by kernel_rfl)
theorem X2 : XL Try.prog 26 3 := Yv (by kernel_rfl)
theorem QQe : XL Try.prog 30 1 := Yv (by kernel_rfl)
theorem YW : XL Try.prog 41 2 := Yv (by kernel_rfl)
theorem ZG : XL Try.prog 52 1 := Yv (by kernel_rfl)
theorem Jz : XL Try.prog 62 2 := Yv (by kernel_rfl)
theorem Qar : XL Try.prog 73 4 := Yv (by kernel_rfl)
theorem Qgc : XL Try.prog 76 2 := Yv (by kernel_rfl)
theorem Qpn : XL Try.prog 78 6 := Yv (by kernel_rfl)
theorem Qpm : XL Try.prog 107 2 := Yv (by kernel_rfl)
theorem J7 : XL Try.prog 111 3 := Yv (by kernel_rfl)
theorem ZE : XL Try.prog 125 1 := Yv (by kernel_rfl)
theorem X1 : XL Try.prog 127 4 := Yv (by kernel_rfl)
theorem JR : XL Try.prog 145 3 := Yv (by kernel_rfl)
theorem J8 : XL Try.prog 149 3 := Yv (by kernel_rfl)
theorem ZQ : XL Try.prog 154 3 := Yv (by kernel_rfl)
theorem YL : XL Try.prog 158 5 := Yv (by kernel_rfl)
theorem JS : XL Try.prog 185 2 := Yv (by kernel_rfl)
theorem QO : Zs Try.prog 3 := ⟨_, Try.underlying3, trivial⟩
theorem sc4 : Zs Try.prog 4 := ⟨_, Try.underlying4, trivial⟩
theorem sc5 : Zs Try.prog 5 := ⟨_, Try.underlying5, trivial⟩
theorem Yu : Zs Try.prog 9 := ⟨_, Try.underlying9, trivial⟩
theorem YP : Zs Try.prog 22 := ⟨_, Try.underlying22, trivial⟩
theorem ZA : Zs Try.prog 23 := ⟨_, Try.underlying23, trivial⟩
theorem XC : Zs Try.prog 24 := ⟨_, Try.underlying24, trivial⟩
theorem QOf : Zs Try.prog 30 := ⟨_, Try.underlying30, trivial⟩
theorem Jc : Zs Try.prog 52 := ⟨_, Try.underlying52, trivial⟩
theorem Jb : Zs Try.prog 125 := ⟨_, Try.underlying125, trivial⟩
theorem XZ : Aggr Try.prog 26 3 := Zg (by trivial) Try.underlying26 (by kernel_rfl)
theorem Yy : Aggr Try.prog 41 2 := Zg (by trivial) Try.underlying41 (by kernel_rfl)
theorem Qla : Aggr Try.prog 62 2 := Zg (by trivial) Try.underlying62 (by kernel_rfl)
theorem JC : Aggr Try.prog 73 4 := Zg (by trivial) Try.underlying73 (by kernel_rfl)
theorem Qqb : Aggr Try.prog 76 2 := Zg (by trivial) Try.underlying76 (by kernel_rfl)
theorem Qgp : Aggr Try.prog 78 6 := Zg (by trivial) Try.underlying78 (by kernel_rfl)
theorem Qqc : Aggr Try.prog 94 2 := Zg (by trivial) Try.underlying94 (by kernel_rfl)
theorem Qky : Aggr Try.prog 107 2 := Zg (by trivial) Try.underlying107 (by kernel_rfl)
theorem Qck : Aggr Try.prog 111 3 := Zg (by trivial) Try.underlying111 (by kernel_rfl)
theorem Qkz : Aggr Try.prog 123 3 := Zg (by trivial) Try.underlying123 (by kernel_rfl)
theorem ZY : Aggr Try.prog 127 4 := Zg (by trivial) Try.underlying127 (by kernel_rfl)
theorem Qqa : Aggr Try.prog 145 3 := Zg (by trivial) Try.underlying145 (by kernel_rfl)
theorem YG : Aggr Try.prog 149 3 := Zg (by trivial) Try.underlying149 (by kernel_rfl)
theorem YY : Aggr Try.prog 154 3 := Zg (by trivial) Try.underlying154 (by kernel_rfl)
theorem YH : Aggr Try.prog 158 5 := Zg (by trivial) Try.underlying158 (by kernel_rfl)
theorem Qdz : Aggr Try.prog 185 2 := Zg (by trivial) Try.underlying185 (by kernel_rfl)
theorem YO : EInfo Try.prog 3 1 8 (.int .i64 0) := JW (by kernel_rfl) rfl (by decide)
theorem ei9 : EInfo Try.prog 9 1 16 (.string ByteArray.empty) := JW (by kernel_rfl) rfl (by decide)
theorem Z3 : EInfo Try.prog 30 1 8 (.int .i64 0) := JW (by kernel_rfl) rfl (by decide)
theorem Qah : EInfo Try.prog 62 2 24 (.agg (List.toArray [(.string ByteArray.empty), (.int .i64 0)])) := JW (by kernel_rfl) rfl (by decide)
theorem Yw : EInfo Try.prog 73 4 32 (.agg (List.toArray [(.int .i64 0), (.int .i64 0), (.int .i64 0), (.int .i64 0)])) := JW (by kernel_rfl) rfl (by decide)
theorem Qlx : EInfo Try.prog 107 2 16 (.agg (List.toArray [(.int .i64 0), (.int .i64 0)])) := JW (by kernel_rfl) rfl (by decide)
theorem Qly : EInfo Try.prog 127 4 56 (.agg (List.toArray [(.string ByteArray.empty), (.int .i64 0), (.int .i64 0), (.slice none 0 0)])) := JW (by kernel_rfl) rfl (by decide)
theorem Za : EInfo Try.prog 145 3 32 (.agg (List.toArray [(.string ByteArray.empty), (.int .i64 0), (.bool false)])) := JW (by kernel_rfl) rfl (by decide)
theorem YU : EInfo Try.prog 158 5 64 (.agg (List.toArray [(.string ByteArray.empty), (.int .i64 0), (.int .i64 0), (.slice none 0 0), (.int .i64 0)])) := JW (by kernel_rfl) rfl (by decide)
theorem Qhj : EInfo Try.prog 185 2 16 (.agg (List.toArray [(.int .i64 0), (.int .i64 0)])) := JW (by kernel_rfl) rfl (by decide)
theorem Zh : BI Try.prog 26 [(0, 1), (1, 1), (2, 1)] [(.slice none 0 0), (.slice none 0 0), (.slice none 0 0)] := Zt Try.underlying26 (by kernel_rfl) (by kernel_rfl)
theorem Qaf : BI Try.prog 41 [(0, 1), (1, 1)] [(.int .i64 0), (.int .i64 0)] := Zt Try.underlying41 (by kernel_rfl) (by kernel_rfl)
theorem Qbo : BI Try.prog 62 [(0, 1), (1, 1)] [(.string ByteArray.empty), (.int .i64 0)] := Zt Try.underlying62 (by kernel_rfl) (by kernel_rfl)
theorem Qqt : BI Try.prog 73 [(0, 1), (1, 1), (2, 1), (3, 1)] [(.int .i64 0), (.int .i64 0), (.int .i64 0), (.int .i64 0)] := Zt Try.underlying73 (by kernel_rfl) (by kernel_rfl)
theorem QCh : BI Try.prog 76 [(0, 1), (1, 1)] [(.int .i64 0), (.int .i64 0)] := Zt Try.underlying76 (by kernel_rfl) (by kernel_rfl)
theorem Qqu : BI Try.prog 78 [(0, 1), (1, 1), (2, 1), (3, 1), (4, 1), (5, 1)] [(.int .i64 0), (.int .i64 0), (.int .i64 0), (.int .i64 0), (.int .i64 0), (.int .i64 0)] := Zt Try.underlying78 (by kernel_rfl) (by kernel_rfl)
theorem QCi : BI Try.prog 94 [(0, 1), (1, 1)] [(.slice none 0 0), (.slice none 0 0)] := Zt Try.underlying94 (by kernel_rfl) (by kernel_rfl)
theorem Qqq : BI Try.prog 107 [(0, 1), (1, 1)] [(.int .i64 0), (.int .i64 0)] := Zt Try.underlying107 (by kernel_rfl) (by kernel_rfl)
theorem Qgt : BI Try.prog 111 [(0, 1), (1, 1), (2, 1)] [(.int .i64 0), (.int .i64 0), (.int .i64 0)] := Zt Try.underlying111 (by kernel_rfl) (by kernel_rfl)
theorem Qqr : BI Try.prog 127 [(0, 1), (1, 1), (2, 1), (3, 1)] [(.string ByteArray.empty), (.int .i64 0), (.int .i64 0), (.slice none 0 0)] := Zt Try.underlying127 (by kernel_rfl) (by kernel_rfl)
theorem Qqs : BI Try.prog 145 [(0, 1), (1, 1), (2, 1)] [(.string ByteArray.empty), (.int .i64 0), (.bool false)] := Zt Try.underlying145 (by kernel_rfl) (by kernel_rfl)
theorem QCf : BI Try.prog 149 [(0, 3)] [(.slice none 0 0), (.slice none 0 0), (.slice none 0 0)] := Zt Try.underlying149 (by kernel_rfl) (by kernel_rfl)
theorem QCg : BI Try.prog 154 [(0, 1), (1, 1), (2, 1)] [(.slice none 0 0), (.int .i64 0), (.bool false)] := Zt Try.underlying154 (by kernel_rfl) (by kernel_rfl)
theorem Qlk : BI Try.prog 158 [(0, 4), (4, 1)] [(.string ByteArray.empty), (.int .i64 0), (.int .i64 0), (.slice none 0 0), (.int .i64 0)] := Zt Try.underlying158 (by kernel_rfl) (by kernel_rfl)
theorem Qgu : BI Try.prog 185 [(0, 1), (1, 1)] [(.int .i64 0), (.int .i64 0)] := Zt Try.underlying185 (by kernel_rfl) (by kernel_rfl)
theorem ZW : ZI Try.prog 26 [(.slice none 0 0), (.slice none 0 0), (.slice none 0 0)] := Zr (by kernel_rfl)
theorem Qci : ZI Try.prog 41 [(.int .i64 0), (.int .i64 0)] := Zr (by kernel_rfl)
theorem QSk : ZI Try.prog 62 [(.string ByteArray.empty), (.int .i64 0)] := Zr (by kernel_rfl)
theorem Qkp : ZI Try.prog 73 [(.int .i64 0), (.int .i64 0), (.int .i64 0), (.int .i64 0)] := Zr (by kernel_rfl)
theorem Qpv : ZI Try.prog 78 [(.int .i64 0), (.int .i64 0), (.int .i64 0), (.int .i64 0), (.int .i64 0), (.int .i64 0)] := Zr (by kernel_rfl)
theorem QSi : ZI Try.prog 107 [(.int .i64 0), (.int .i64 0)] := Zr (by kernel_rfl)
theorem Qch : ZI Try.prog 111 [(.int .i64 0), (.int .i64 0), (.int .i64 0)] := Zr (by kernel_rfl)
theorem Qgh : ZI Try.prog 127 [(.string ByteArray.empty), (.int .i64 0), (.int .i64 0), (.slice none 0 0)] := Zr (by kernel_rfl)
theorem QBg : ZI Try.prog 145 [(.string ByteArray.empty), (.int .i64 0), (.bool false)] := Zr (by kernel_rfl)
theorem Qau : ZI Try.prog 149 [(.slice none 0 0), (.slice none 0 0), (.slice none 0 0)] := Zr (by kernel_rfl)
theorem Qbi : ZI Try.prog 154 [(.slice none 0 0), (.int .i64 0), (.bool false)] := Zr (by kernel_rfl)
theorem Qbj : ZI Try.prog 158 [(.string ByteArray.empty), (.int .i64 0), (.int .i64 0), (.slice none 0 0), (.int .i64 0)] := Zr (by kernel_rfl)
theorem Qgi : ZI Try.prog 185 [(.int .i64 0), (.int .i64 0)] := Zr (by kernel_rfl)
theorem QLj : (Try.f19.name == numgo) = false := by kernel_rfl
theorem QLk : (Try.f20.name == numgo) = false := by kernel_rfl
theorem QLl : (Try.f21.name == numgo) = false := by kernel_rfl
theorem Qwq : (Try.f22.name == numgo) = false := by kernel_rfl
theorem Qim : (Try.f23.name == numgo) = false := by kernel_rfl
theorem Qwr : (Try.f24.name == numgo) = false := by kernel_rfl
theorem Qws : (Try.f25.name == numgo) = false := by kernel_rfl
theorem QLm : (Try.f27.name == numgo) = false := by kernel_rfl
theorem Qwt : (Try.f28.name == numgo) = false := by kernel_rfl
theorem QLn : (Try.f30.name == numgo) = false := by kernel_rfl
theorem Qwu : (Try.f32.name == numgo) = false := by kernel_rfl
theorem QLo : (Try.f33.name == numgo) = false := by kernel_rfl
theorem QLp : (Try.f34.name == numgo) = false := by kernel_rfl
theorem QLq : (Try.f35.name == numgo) = false := by kernel_rfl
theorem Qwv : (Try.f39.name == numgo) = false := by kernel_rfl
theorem QLr : (Try.f41.name == numgo) = false := by kernel_rfl
theorem JP : (Try.f46.name == numgo) = false := by kernel_rfl
theorem QLs : (Try.f48.name == numgo) = false := by kernel_rfl
theorem QLt : (Try.f54.name == numgo) = false := by kernel_rfl
theorem QLu : (Try.f60.name == numgo) = false := by kernel_rfl
theorem Qww : (Try.f64.name == numgo) = false := by kernel_rfl
theorem QLv : (Try.f70.name == numgo) = false := by kernel_rfl
theorem Qin : (Try.f83.name == numgo) = false := by kernel_rfl
theorem Qoi : (Try.f84.name == numgo) = false := by kernel_rfl
theorem Qoj : (Try.f85.name == numgo) = false := by kernel_rfl
theorem QLw : (Try.f86.name == numgo) = false := by kernel_rfl
theorem Qdg : (Try.f87.name == numgo) = false := by kernel_rfl
theorem Qfi : (Try.f89.name == numgo) = false := by kernel_rfl
theorem Qok : (Try.f91.name == numgo) = false := by kernel_rfl
theorem Z9 : (Try.f92.name == numgo) = false := by kernel_rfl
theorem Yk : (Try.f93.name == numgo) = false := by kernel_rfl
theorem Qwx : (Try.f94.name == numgo) = false := by kernel_rfl
theorem Ju : (Try.f95.name == numgo) = false := by kernel_rfl
theorem QLx : (Try.f96.name == numgo) = false := by kernel_rfl
theorem QLy : (Try.f97.name == numgo) = false := by kernel_rfl
theorem QLz : (Try.f98.name == numgo) = false := by kernel_rfl
theorem Qwy : (Try.f99.name == numgo) = false := by kernel_rfl
theorem QKl : (Try.f100.name == numgo) = false := by kernel_rfl
theorem QKm : (Try.f101.name == numgo) = false := by kernel_rfl
theorem Qik : (Try.f102.name == numgo) = false := by kernel_rfl
theorem QKn : (Try.f103.name == numgo) = false := by kernel_rfl
theorem Qoe : (Try.f107.name == numgo) = false := by kernel_rfl
theorem Qwb : (Try.f108.name == numgo) = false := by kernel_rfl
theorem Qwc : (Try.f109.name == numgo) = false := by kernel_rfl
theorem QKo : (Try.f110.name == numgo) = false := by kernel_rfl
theorem Qwd : (Try.f115.name == numgo) = false := by kernel_rfl
theorem Qwe : (Try.f116.name == numgo) = false := by kernel_rfl
theorem Qwf : (Try.f117.name == numgo) = false := by kernel_rfl
theorem Qof : (Try.f118.name == numgo) = false := by kernel_rfl
theorem QKp : (Try.f123.name == numgo) = false := by kernel_rfl
theorem QKq : (Try.f124.name == numgo) = false := by kernel_rfl
theorem QKr : (Try.f125.name == numgo) = false := by kernel_rfl
theorem Qwg : (Try.f126.name == numgo) = false := by kernel_rfl
theorem QKs : (Try.f131.name == numgo) = false := by kernel_rfl
theorem Qog : (Try.f132.name == numgo) = false := by kernel_rfl
theorem Qwh : (Try.f133.name == numgo) = false := by kernel_rfl
theorem QKt : (Try.f135.name == numgo) = false := by kernel_rfl
theorem QKu : (Try.f138.name == numgo) = false := by kernel_rfl
theorem QKv : (Try.f139.name == numgo) = false := by kernel_rfl
theorem Qwi : (Try.f140.name == numgo) = false := by kernel_rfl
theorem Qil : (Try.f141.name == numgo) = false := by kernel_rfl
theorem Qwj : (Try.f142.name == numgo) = false := by kernel_rfl
theorem QKw : (Try.f143.name == numgo) = false := by kernel_rfl
theorem QKx : (Try.f144.name == numgo) = false := by kernel_rfl
theorem Qwk : (Try.f145.name == numgo) = false := by kernel_rfl
theorem Qoh : (Try.f146.name == numgo) = false := by kernel_rfl
theorem QKy : (Try.f147.name == numgo) = false := by kernel_rfl
theorem QKz : (Try.f148.name == numgo) = false := by kernel_rfl
theorem QLa : (Try.f149.name == numgo) = false := by kernel_rfl
theorem Qwl : (Try.f150.name == numgo) = false := by kernel_rfl
theorem QLb : (Try.f151.name == numgo) = false := by kernel_rfl
theorem QLc : (Try.f152.name == numgo) = false := by kernel_rfl
theorem Qwm : (Try.f154.name == numgo) = false := by kernel_rfl
theorem QLd : (Try.f155.name == numgo) = false := by kernel_rfl
theorem QLe : (Try.f156.name == numgo) = false := by kernel_rfl
theorem QLf : (Try.f157.name == numgo) = false := by kernel_rfl
theorem Qwn : (Try.f163.name == numgo) = false := by kernel_rfl
theorem Qwo : (Try.f164.name == numgo) = false := by kernel_rfl
theorem QLg : (Try.f165.name == numgo) = false := by kernel_rfl
theorem QLh : (Try.f166.name == numgo) = false := by kernel_rfl
theorem QLi : (Try.f167.name == numgo) = false := by kernel_rfl
theorem Qwp : (Try.f168.name == numgo) = false := by kernel_rfl
theorem QDl : Try.prog.eqGuardType Try.prog.depth 62 = false := by kernel_rfl
theorem QDq (a b : FeedDeparture) : EqS Try.prog 62 (List.toArray [(.string a.Train), (.int .i64 a.At)]) (List.toArray [(.string b.Train), (.int .i64 b.At)]) (decide (a = b)) := by
  refine ⟨fun c hc => by
    simp at hc
    repeat' (rcases hc with rfl | hc)
    all_goals simp_all [flat], fun w => ?_⟩
  have u3 := Try.underlying3
  have a3 := Try.isAgg3
  have z3 := Try.sizeOf3
  have u9 := Try.underlying9
  have a9 := Try.isAgg9
  have z9 := Try.sizeOf9
  have hS : Try.prog.underlying 62 = some (.struct (Try.prog.fieldsOf 62)) := by kernel_rfl
  have hp : Try.prog.stoodInHeld 62 = false := by kernel_rfl
  rw [run_equalIn_agg w 9999 62 _ _ hS hp]
  simp only [Program.fieldsOf, Try.underlying62]
  go_simp
  cases a; cases b; simp only [FeedDeparture.mk.injEq]
  repeat' split
  all_goals simp_all [Qlm]
theorem QDm : Try.prog.eqGuardType Try.prog.depth 78 = false := by kernel_rfl
theorem QDr (a b : FeedBook) : EqS Try.prog 78 (List.toArray [(.int .i64 a.Fed), (.int .i64 a.Used), (.int .i64 a.Braked), (.int .i64 a.Lost), (.int .i64 a.Back), (.int .i64 a.Burned)]) (List.toArray [(.int .i64 b.Fed), (.int .i64 b.Used), (.int .i64 b.Braked), (.int .i64 b.Lost), (.int .i64 b.Back), (.int .i64 b.Burned)]) (decide (a = b)) := by
  refine ⟨fun c hc => by
    simp at hc
    repeat' (rcases hc with rfl | hc)
    all_goals simp_all [flat], fun w => ?_⟩
  have u3 := Try.underlying3
  have a3 := Try.isAgg3
  have z3 := Try.sizeOf3
  have hS : Try.prog.underlying 78 = some (.struct (Try.prog.fieldsOf 78)) := by kernel_rfl
  have hp : Try.prog.stoodInHeld 78 = false := by kernel_rfl
  rw [run_equalIn_agg w 9999 78 _ _ hS hp]
  simp only [Program.fieldsOf, Try.underlying78]
  go_simp
  cases a; cases b; simp only [FeedBook.mk.injEq]
  repeat' split
  all_goals simp_all [Qlm]
theorem QDk : Try.prog.eqGuardType Try.prog.depth 107 = false := by kernel_rfl
theorem QDp (a b : Frac) : EqS Try.prog 107 (List.toArray [(.int .i64 a.Num), (.int .i64 a.Den)]) (List.toArray [(.int .i64 b.Num), (.int .i64 b.Den)]) (decide (a = b)) := by
  refine ⟨fun c hc => by
    simp at hc
    repeat' (rcases hc with rfl | hc)
    all_goals simp_all [flat], fun w => ?_⟩
  have u3 := Try.underlying3
  have a3 := Try.isAgg3
  have z3 := Try.sizeOf3
  have hS : Try.prog.underlying 107 = some (.struct (Try.prog.fieldsOf 107)) := by kernel_rfl
  have hp : Try.prog.stoodInHeld 107 = false := by kernel_rfl
  rw [run_equalIn_agg w 9999 107 _ _ hS hp]
  simp only [Program.fieldsOf, Try.underlying107]
  go_simp
  cases a; cases b; simp only [Frac.mk.injEq]
  repeat' split
  all_goals simp_all [Qlm]
theorem XB : Try.prog.follows .mixedOrders = true := by kernel_rfl
end Go.Gw
