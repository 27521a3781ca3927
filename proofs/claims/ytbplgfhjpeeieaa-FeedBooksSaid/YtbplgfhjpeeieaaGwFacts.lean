/- Facts of the types of the program. No condition. -/
import Derived.Test.YtbplgfhjpeeieaaGwSt
import Derived.Test.YtbplgfhjpeeieaaGwPlan
import Derived.Laws.StructEq
import Derived.Test.YtbplgfhjpeeieaaProg
set_option linter.unusedVariables false
set_option linter.unusedSimpArgs false
set_option linter.unusedSectionVars false
set_option maxRecDepth 100000
namespace Go.Gw
open Go Go.Proofs
abbrev numgo : String := "runtime.NumGoroutine"
theorem Qz : XF Try.prog 3 1 := Ye (by kernel_rfl)
theorem sz4 : XF Try.prog 4 1 := Ye (by kernel_rfl)
theorem sz5 : XF Try.prog 5 1 := Ye (by kernel_rfl)
theorem YR : XF Try.prog 9 1 := Ye (by kernel_rfl)
theorem Y8 : XF Try.prog 22 1 := Ye (by kernel_rfl)
theorem ZO : XF Try.prog 23 1 := Ye (by kernel_rfl)
theorem Yn : XF Try.prog 24 1 := Ye (by kernel_rfl)
theorem Yg : XF Try.prog 26 3 := Ye (by kernel_rfl)
theorem QQu : XF Try.prog 30 1 := Ye (by kernel_rfl)
theorem Zj : XF Try.prog 41 2 := Ye (by kernel_rfl)
theorem Z0 : XF Try.prog 52 1 := Ye (by kernel_rfl)
theorem JA : XF Try.prog 62 2 := Ye (by kernel_rfl)
theorem Qay : XF Try.prog 73 4 := Ye (by kernel_rfl)
theorem Qqb : XF Try.prog 76 2 := Ye (by kernel_rfl)
theorem X3 : XF Try.prog 78 6 := Ye (by kernel_rfl)
theorem Qpz : XF Try.prog 107 2 := Ye (by kernel_rfl)
theorem Qgm : XF Try.prog 111 3 := Ye (by kernel_rfl)
theorem Zz : XF Try.prog 125 1 := Ye (by kernel_rfl)
theorem YB : XF Try.prog 127 4 := Ye (by kernel_rfl)
theorem J4 : XF Try.prog 145 3 := Ye (by kernel_rfl)
theorem Qbj : XF Try.prog 149 3 := Ye (by kernel_rfl)
theorem Jb : XF Try.prog 154 3 := Ye (by kernel_rfl)
theorem Y3 : XF Try.prog 158 5 := Ye (by kernel_rfl)
theorem J5 : XF Try.prog 185 2 := Ye (by kernel_rfl)
theorem QB : Zt Try.prog 3 := ⟨_, Try.underlying3, trivial⟩
theorem sc4 : Zt Try.prog 4 := ⟨_, Try.underlying4, trivial⟩
theorem sc5 : Zt Try.prog 5 := ⟨_, Try.underlying5, trivial⟩
theorem YI : Zt Try.prog 9 := ⟨_, Try.underlying9, trivial⟩
theorem Y6 : Zt Try.prog 22 := ⟨_, Try.underlying22, trivial⟩
theorem ZN : Zt Try.prog 23 := ⟨_, Try.underlying23, trivial⟩
theorem Yv : Zt Try.prog 24 := ⟨_, Try.underlying24, trivial⟩
theorem QOt : Zt Try.prog 30 := ⟨_, Try.underlying30, trivial⟩
theorem Jx : Zt Try.prog 52 := ⟨_, Try.underlying52, trivial⟩
theorem ZM : Zt Try.prog 125 := ⟨_, Try.underlying125, trivial⟩
theorem Yp : Aggr Try.prog 26 3 := ZE (by trivial) Try.underlying26 (by kernel_rfl)
theorem YM : Aggr Try.prog 41 2 := ZE (by trivial) Try.underlying41 (by kernel_rfl)
theorem Qln : Aggr Try.prog 62 2 := ZE (by trivial) Try.underlying62 (by kernel_rfl)
theorem Ji : Aggr Try.prog 73 4 := ZE (by trivial) Try.underlying73 (by kernel_rfl)
theorem Qha : Aggr Try.prog 76 2 := ZE (by trivial) Try.underlying76 (by kernel_rfl)
theorem XV : Aggr Try.prog 78 6 := ZE (by trivial) Try.underlying78 (by kernel_rfl)
theorem Qqt : Aggr Try.prog 94 2 := ZE (by trivial) Try.underlying94 (by kernel_rfl)
theorem Qll : Aggr Try.prog 107 2 := ZE (by trivial) Try.underlying107 (by kernel_rfl)
theorem Qlm : Aggr Try.prog 111 3 := ZE (by trivial) Try.underlying111 (by kernel_rfl)
theorem Z4 : Aggr Try.prog 127 4 := ZE (by trivial) Try.underlying127 (by kernel_rfl)
theorem Qqs : Aggr Try.prog 145 3 := ZE (by trivial) Try.underlying145 (by kernel_rfl)
theorem Zu : Aggr Try.prog 149 3 := ZE (by trivial) Try.underlying149 (by kernel_rfl)
theorem Zo : Aggr Try.prog 154 3 := ZE (by trivial) Try.underlying154 (by kernel_rfl)
theorem YZ : Aggr Try.prog 158 5 := ZE (by trivial) Try.underlying158 (by kernel_rfl)
theorem Qgz : Aggr Try.prog 185 2 := ZE (by trivial) Try.underlying185 (by kernel_rfl)
theorem Yx : EInfo Try.prog 3 1 8 (.int .i64 0) := Qac (by kernel_rfl) rfl (by decide)
theorem ei9 : EInfo Try.prog 9 1 16 (.string ByteArray.empty) := Qac (by kernel_rfl) rfl (by decide)
theorem JN : EInfo Try.prog 30 1 8 (.int .i64 0) := Qac (by kernel_rfl) rfl (by decide)
theorem Qbu : EInfo Try.prog 62 2 24 (.agg (List.toArray [(.string ByteArray.empty), (.int .i64 0)])) := Qac (by kernel_rfl) rfl (by decide)
theorem YF : EInfo Try.prog 73 4 32 (.agg (List.toArray [(.int .i64 0), (.int .i64 0), (.int .i64 0), (.int .i64 0)])) := Qac (by kernel_rfl) rfl (by decide)
theorem Qmj : EInfo Try.prog 107 2 16 (.agg (List.toArray [(.int .i64 0), (.int .i64 0)])) := Qac (by kernel_rfl) rfl (by decide)
theorem Qmk : EInfo Try.prog 127 4 56 (.agg (List.toArray [(.string ByteArray.empty), (.int .i64 0), (.int .i64 0), (.slice none 0 0)])) := Qac (by kernel_rfl) rfl (by decide)
theorem ZB : EInfo Try.prog 145 3 32 (.agg (List.toArray [(.string ByteArray.empty), (.int .i64 0), (.bool false)])) := Qac (by kernel_rfl) rfl (by decide)
theorem Zf : EInfo Try.prog 158 5 64 (.agg (List.toArray [(.string ByteArray.empty), (.int .i64 0), (.int .i64 0), (.slice none 0 0), (.int .i64 0)])) := Qac (by kernel_rfl) rfl (by decide)
theorem Qhv : EInfo Try.prog 185 2 16 (.agg (List.toArray [(.int .i64 0), (.int .i64 0)])) := Qac (by kernel_rfl) rfl (by decide)
theorem ZF : BI Try.prog 26 [(0, 1), (1, 1), (2, 1)] [(.slice none 0 0), (.slice none 0 0), (.slice none 0 0)] := ZQ Try.underlying26 (by kernel_rfl) (by kernel_rfl)
theorem Qar : BI Try.prog 41 [(0, 1), (1, 1)] [(.int .i64 0), (.int .i64 0)] := ZQ Try.underlying41 (by kernel_rfl) (by kernel_rfl)
theorem Qcs : BI Try.prog 62 [(0, 1), (1, 1)] [(.string ByteArray.empty), (.int .i64 0)] := ZQ Try.underlying62 (by kernel_rfl) (by kernel_rfl)
theorem Qrj : BI Try.prog 73 [(0, 1), (1, 1), (2, 1), (3, 1)] [(.int .i64 0), (.int .i64 0), (.int .i64 0), (.int .i64 0)] := ZQ Try.underlying73 (by kernel_rfl) (by kernel_rfl)
theorem QCk : BI Try.prog 76 [(0, 1), (1, 1)] [(.int .i64 0), (.int .i64 0)] := ZQ Try.underlying76 (by kernel_rfl) (by kernel_rfl)
theorem YN : BI Try.prog 78 [(0, 1), (1, 1), (2, 1), (3, 1), (4, 1), (5, 1)] [(.int .i64 0), (.int .i64 0), (.int .i64 0), (.int .i64 0), (.int .i64 0), (.int .i64 0)] := ZQ Try.underlying78 (by kernel_rfl) (by kernel_rfl)
theorem QCl : BI Try.prog 94 [(0, 1), (1, 1)] [(.slice none 0 0), (.slice none 0 0)] := ZQ Try.underlying94 (by kernel_rfl) (by kernel_rfl)
theorem Qrg : BI Try.prog 107 [(0, 1), (1, 1)] [(.int .i64 0), (.int .i64 0)] := ZQ Try.underlying107 (by kernel_rfl) (by kernel_rfl)
theorem Qly : BI Try.prog 111 [(0, 1), (1, 1), (2, 1)] [(.int .i64 0), (.int .i64 0), (.int .i64 0)] := ZQ Try.underlying111 (by kernel_rfl) (by kernel_rfl)
theorem Qrh : BI Try.prog 127 [(0, 1), (1, 1), (2, 1), (3, 1)] [(.string ByteArray.empty), (.int .i64 0), (.int .i64 0), (.slice none 0 0)] := ZQ Try.underlying127 (by kernel_rfl) (by kernel_rfl)
theorem Qri : BI Try.prog 145 [(0, 1), (1, 1), (2, 1)] [(.string ByteArray.empty), (.int .i64 0), (.bool false)] := ZQ Try.underlying145 (by kernel_rfl) (by kernel_rfl)
theorem QCi : BI Try.prog 149 [(0, 3)] [(.slice none 0 0), (.slice none 0 0), (.slice none 0 0)] := ZQ Try.underlying149 (by kernel_rfl) (by kernel_rfl)
theorem QCj : BI Try.prog 154 [(0, 1), (1, 1), (2, 1)] [(.slice none 0 0), (.int .i64 0), (.bool false)] := ZQ Try.underlying154 (by kernel_rfl) (by kernel_rfl)
theorem Qlz : BI Try.prog 158 [(0, 4), (4, 1)] [(.string ByteArray.empty), (.int .i64 0), (.int .i64 0), (.slice none 0 0), (.int .i64 0)] := ZQ Try.underlying158 (by kernel_rfl) (by kernel_rfl)
theorem Qhe : BI Try.prog 185 [(0, 1), (1, 1)] [(.int .i64 0), (.int .i64 0)] := ZQ Try.underlying185 (by kernel_rfl) (by kernel_rfl)
theorem Jg : ZI Try.prog 26 [(.slice none 0 0), (.slice none 0 0), (.slice none 0 0)] := ZA (by kernel_rfl)
theorem Qcq : ZI Try.prog 41 [(.int .i64 0), (.int .i64 0)] := ZA (by kernel_rfl)
theorem QSz : ZI Try.prog 62 [(.string ByteArray.empty), (.int .i64 0)] := ZA (by kernel_rfl)
theorem Qld : ZI Try.prog 73 [(.int .i64 0), (.int .i64 0), (.int .i64 0), (.int .i64 0)] := ZA (by kernel_rfl)
theorem JG : ZI Try.prog 78 [(.int .i64 0), (.int .i64 0), (.int .i64 0), (.int .i64 0), (.int .i64 0), (.int .i64 0)] := ZA (by kernel_rfl)
theorem QSw : ZI Try.prog 107 [(.int .i64 0), (.int .i64 0)] := ZA (by kernel_rfl)
theorem Qql : ZI Try.prog 111 [(.int .i64 0), (.int .i64 0), (.int .i64 0)] := ZA (by kernel_rfl)
theorem Qee : ZI Try.prog 127 [(.string ByteArray.empty), (.int .i64 0), (.int .i64 0), (.slice none 0 0)] := ZA (by kernel_rfl)
theorem QBn : ZI Try.prog 145 [(.string ByteArray.empty), (.int .i64 0), (.bool false)] := ZA (by kernel_rfl)
theorem Qcp : ZI Try.prog 149 [(.slice none 0 0), (.slice none 0 0), (.slice none 0 0)] := ZA (by kernel_rfl)
theorem Qbn : ZI Try.prog 154 [(.slice none 0 0), (.int .i64 0), (.bool false)] := ZA (by kernel_rfl)
theorem Qbo : ZI Try.prog 158 [(.string ByteArray.empty), (.int .i64 0), (.int .i64 0), (.slice none 0 0), (.int .i64 0)] := ZA (by kernel_rfl)
theorem Qlc : ZI Try.prog 185 [(.int .i64 0), (.int .i64 0)] := ZA (by kernel_rfl)
theorem QKz : (Try.f19.name == numgo) = false := by kernel_rfl
theorem QLa : (Try.f20.name == numgo) = false := by kernel_rfl
theorem QLb : (Try.f22.name == numgo) = false := by kernel_rfl
theorem Qwy : (Try.f23.name == numgo) = false := by kernel_rfl
theorem QLc : (Try.f24.name == numgo) = false := by kernel_rfl
theorem QLd : (Try.f27.name == numgo) = false := by kernel_rfl
theorem QLe : (Try.f29.name == numgo) = false := by kernel_rfl
theorem QLf : (Try.f30.name == numgo) = false := by kernel_rfl
theorem Qoq : (Try.f32.name == numgo) = false := by kernel_rfl
theorem QLg : (Try.f33.name == numgo) = false := by kernel_rfl
theorem QLh : (Try.f34.name == numgo) = false := by kernel_rfl
theorem QLi : (Try.f35.name == numgo) = false := by kernel_rfl
theorem QLj : (Try.f37.name == numgo) = false := by kernel_rfl
theorem Qwz : (Try.f39.name == numgo) = false := by kernel_rfl
theorem QLk : (Try.f41.name == numgo) = false := by kernel_rfl
theorem Qxa : (Try.f43.name == numgo) = false := by kernel_rfl
theorem Jt : (Try.f46.name == numgo) = false := by kernel_rfl
theorem QLl : (Try.f47.name == numgo) = false := by kernel_rfl
theorem Qfq : (Try.f48.name == numgo) = false := by kernel_rfl
theorem QLo : (Try.f51.name == numgo) = false := by kernel_rfl
theorem QLq : (Try.f54.name == numgo) = false := by kernel_rfl
theorem QLr : (Try.f60.name == numgo) = false := by kernel_rfl
theorem Qiw : (Try.f83.name == numgo) = false := by kernel_rfl
theorem Qor : (Try.f84.name == numgo) = false := by kernel_rfl
theorem Qxb : (Try.f85.name == numgo) = false := by kernel_rfl
theorem QLs : (Try.f86.name == numgo) = false := by kernel_rfl
theorem Qdm : (Try.f87.name == numgo) = false := by kernel_rfl
theorem Qfr : (Try.f89.name == numgo) = false := by kernel_rfl
theorem Qfs : (Try.f91.name == numgo) = false := by kernel_rfl
theorem JS : (Try.f92.name == numgo) = false := by kernel_rfl
theorem YA : (Try.f93.name == numgo) = false := by kernel_rfl
theorem Qxc : (Try.f94.name == numgo) = false := by kernel_rfl
theorem J1 : (Try.f95.name == numgo) = false := by kernel_rfl
theorem QLt : (Try.f96.name == numgo) = false := by kernel_rfl
theorem QLu : (Try.f97.name == numgo) = false := by kernel_rfl
theorem QLv : (Try.f98.name == numgo) = false := by kernel_rfl
theorem Qxd : (Try.f99.name == numgo) = false := by kernel_rfl
theorem QJz : (Try.f100.name == numgo) = false := by kernel_rfl
theorem QKa : (Try.f101.name == numgo) = false := by kernel_rfl
theorem Qon : (Try.f102.name == numgo) = false := by kernel_rfl
theorem QKb : (Try.f103.name == numgo) = false := by kernel_rfl
theorem Qoo : (Try.f107.name == numgo) = false := by kernel_rfl
theorem Qwg : (Try.f108.name == numgo) = false := by kernel_rfl
theorem Qwh : (Try.f109.name == numgo) = false := by kernel_rfl
theorem QKc : (Try.f110.name == numgo) = false := by kernel_rfl
theorem QKd : (Try.f111.name == numgo) = false := by kernel_rfl
theorem QKe : (Try.f112.name == numgo) = false := by kernel_rfl
theorem QKf : (Try.f113.name == numgo) = false := by kernel_rfl
theorem Qwi : (Try.f114.name == numgo) = false := by kernel_rfl
theorem QKg : (Try.f115.name == numgo) = false := by kernel_rfl
theorem Qwj : (Try.f116.name == numgo) = false := by kernel_rfl
theorem Qwk : (Try.f117.name == numgo) = false := by kernel_rfl
theorem Qwl : (Try.f118.name == numgo) = false := by kernel_rfl
theorem QKh : (Try.f122.name == numgo) = false := by kernel_rfl
theorem QKi : (Try.f123.name == numgo) = false := by kernel_rfl
theorem QKj : (Try.f124.name == numgo) = false := by kernel_rfl
theorem QKk : (Try.f125.name == numgo) = false := by kernel_rfl
theorem Qwn : (Try.f126.name == numgo) = false := by kernel_rfl
theorem Qwo : (Try.f132.name == numgo) = false := by kernel_rfl
theorem Qwp : (Try.f133.name == numgo) = false := by kernel_rfl
theorem QKl : (Try.f138.name == numgo) = false := by kernel_rfl
theorem QKm : (Try.f139.name == numgo) = false := by kernel_rfl
theorem Qwq : (Try.f140.name == numgo) = false := by kernel_rfl
theorem Qiv : (Try.f141.name == numgo) = false := by kernel_rfl
theorem Qwr : (Try.f142.name == numgo) = false := by kernel_rfl
theorem QKn : (Try.f143.name == numgo) = false := by kernel_rfl
theorem QKo : (Try.f144.name == numgo) = false := by kernel_rfl
theorem Qws : (Try.f145.name == numgo) = false := by kernel_rfl
theorem Qop : (Try.f146.name == numgo) = false := by kernel_rfl
theorem QKp : (Try.f147.name == numgo) = false := by kernel_rfl
theorem QKq : (Try.f148.name == numgo) = false := by kernel_rfl
theorem QKr : (Try.f149.name == numgo) = false := by kernel_rfl
theorem Qwt : (Try.f150.name == numgo) = false := by kernel_rfl
theorem QKs : (Try.f151.name == numgo) = false := by kernel_rfl
theorem QKt : (Try.f152.name == numgo) = false := by kernel_rfl
theorem Qwu : (Try.f154.name == numgo) = false := by kernel_rfl
theorem QKu : (Try.f155.name == numgo) = false := by kernel_rfl
theorem QKv : (Try.f156.name == numgo) = false := by kernel_rfl
theorem Qwv : (Try.f163.name == numgo) = false := by kernel_rfl
theorem Qww : (Try.f164.name == numgo) = false := by kernel_rfl
theorem QKw : (Try.f165.name == numgo) = false := by kernel_rfl
theorem QKx : (Try.f166.name == numgo) = false := by kernel_rfl
theorem QKy : (Try.f167.name == numgo) = false := by kernel_rfl
theorem Qwx : (Try.f168.name == numgo) = false := by kernel_rfl
theorem QDu : Try.prog.eqGuardType Try.prog.depth 62 = false := by kernel_rfl
theorem QDy (a b : FeedDeparture) : EqS Try.prog 62 (List.toArray [(.string a.Train), (.int .i64 a.At)]) (List.toArray [(.string b.Train), (.int .i64 b.At)]) (decide (a = b)) := by
  refine ⟨fun c hc => by
    simp at hc
    repeat' (rcases hc with rfl | hc)
    all_goals simp_all [flat], fun w => ?_⟩
  have u3 := Try.underlying3
  have a3 := Try.isAgg3
  have z3 := Try.sizeOf3
  have u9 := Try.underlying9
  have a9 := Try.isAgg9
  have z9 := Try.sizeOf9
  have hS : Try.prog.underlying 62 = some (.struct (Try.prog.fieldsOf 62)) := by kernel_rfl
  have hp : Try.prog.stoodInHeld 62 = false := by kernel_rfl
  rw [run_equalIn_agg w 9999 62 _ _ hS hp]
  simp only [Program.fieldsOf, Try.underlying62]
  go_simp
  cases a; cases b; simp only [FeedDeparture.mk.injEq]
  repeat' split
  all_goals simp_all [Qma]
theorem Qhu : Try.prog.eqGuardType Try.prog.depth 78 = false := by kernel_rfl
theorem Qhw (a b : FeedBook) : EqS Try.prog 78 (List.toArray [(.int .i64 a.Fed), (.int .i64 a.Used), (.int .i64 a.Braked), (.int .i64 a.Lost), (.int .i64 a.Back), (.int .i64 a.Burned)]) (List.toArray [(.int .i64 b.Fed), (.int .i64 b.Used), (.int .i64 b.Braked), (.int .i64 b.Lost), (.int .i64 b.Back), (.int .i64 b.Burned)]) (decide (a = b)) := by
  refine ⟨fun c hc => by
    simp at hc
    repeat' (rcases hc with rfl | hc)
    all_goals simp_all [flat], fun w => ?_⟩
  have u3 := Try.underlying3
  have a3 := Try.isAgg3
  have z3 := Try.sizeOf3
  have hS : Try.prog.underlying 78 = some (.struct (Try.prog.fieldsOf 78)) := by kernel_rfl
  have hp : Try.prog.stoodInHeld 78 = false := by kernel_rfl
  rw [run_equalIn_agg w 9999 78 _ _ hS hp]
  simp only [Program.fieldsOf, Try.underlying78]
  go_simp
  cases a; cases b; simp only [FeedBook.mk.injEq]
  repeat' split
  all_goals simp_all [Qma]
theorem QDt : Try.prog.eqGuardType Try.prog.depth 107 = false := by kernel_rfl
theorem QDx (a b : Frac) : EqS Try.prog 107 (List.toArray [(.int .i64 a.Num), (.int .i64 a.Den)]) (List.toArray [(.int .i64 b.Num), (.int .i64 b.Den)]) (decide (a = b)) := by
  refine ⟨fun c hc => by
    simp at hc
    repeat' (rcases hc with rfl | hc)
    all_goals simp_all [flat], fun w => ?_⟩
  have u3 := Try.underlying3
  have a3 := Try.isAgg3
  have z3 := Try.sizeOf3
  have hS : Try.prog.underlying 107 = some (.struct (Try.prog.fieldsOf 107)) := by kernel_rfl
  have hp : Try.prog.stoodInHeld 107 = false := by kernel_rfl
  rw [run_equalIn_agg w 9999 107 _ _ hS hp]
  simp only [Program.fieldsOf, Try.underlying107]
  go_simp
  cases a; cases b; simp only [Frac.mk.injEq]
  repeat' split
  all_goals simp_all [Qma]
theorem XB : Try.prog.follows .mixedOrders = true := by kernel_rfl
end Go.Gw
