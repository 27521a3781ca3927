/- Facts of the types of the program. No condition. -/
import Derived.Test.YtbplgfhjpeeieaaGwSt
import Derived.Test.YtbplgfhjpeeieaaGwPlan
import Derived.Laws.StructEq
import Derived.Test.YtbplgfhjpeeieaaProg
set_option linter.unusedVariables false
set_option linter.unusedSimpArgs false
set_option linter.unusedSectionVars false
set_option maxRecDepth 100000
namespace Go.Gw
open Go Go.Proofs
abbrev numgo : String := "runtime.NumGoroutine"
theorem QI : XU Try.prog 3 1 := YI (by kernel_rfl)
theorem sz4 : XU Try.prog 4 1 := YI (by kernel_rfl)
theorem sz5 : XU Try.prog 5 1 := YI (by kernel_rfl)
theorem YF : XU Try.prog 9 1 := YI (by kernel_rfl)
theorem Y0 : XU Try.prog 22 1 := YI (by kernel_rfl)
theorem Zr : XU Try.prog 23 1 := YI (by kernel_rfl)
theorem Yr : XU Try.prog 24 1 := YI (by kernel_rfl)
theorem Yh : XU Try.prog 26 3 := YI (by kernel_rfl)
theorem QPw : XU Try.prog 30 1 := YI (by kernel_rfl)
theorem Y6 : XU Try.prog 41 2 := YI (by kernel_rfl)
theorem ZH : XU Try.prog 52 1 := YI (by kernel_rfl)
theorem Zs : XU Try.prog 62 2 := YI (by kernel_rfl)
theorem Qaj : XU Try.prog 73 4 := YI (by kernel_rfl)
theorem Qpj : XU Try.prog 78 6 := YI (by kernel_rfl)
theorem Qpi : XU Try.prog 107 2 := YI (by kernel_rfl)
theorem J3 : XU Try.prog 111 3 := YI (by kernel_rfl)
theorem Zj : XU Try.prog 125 1 := YI (by kernel_rfl)
theorem YJ : XU Try.prog 127 4 := YI (by kernel_rfl)
theorem JK : XU Try.prog 145 3 := YI (by kernel_rfl)
theorem Qav : XU Try.prog 149 3 := YI (by kernel_rfl)
theorem ZW : XU Try.prog 154 3 := YI (by kernel_rfl)
theorem YW : XU Try.prog 158 5 := YI (by kernel_rfl)
theorem JL : XU Try.prog 185 2 := YI (by kernel_rfl)
theorem QO : Zw Try.prog 3 := ⟨_, Try.underlying3, trivial⟩
theorem sc4 : Zw Try.prog 4 := ⟨_, Try.underlying4, trivial⟩
theorem sc5 : Zw Try.prog 5 := ⟨_, Try.underlying5, trivial⟩
theorem Yw : Zw Try.prog 9 := ⟨_, Try.underlying9, trivial⟩
theorem YZ : Zw Try.prog 22 := ⟨_, Try.underlying22, trivial⟩
theorem Zq : Zw Try.prog 23 := ⟨_, Try.underlying23, trivial⟩
theorem YE : Zw Try.prog 24 := ⟨_, Try.underlying24, trivial⟩
theorem QNv : Zw Try.prog 30 := ⟨_, Try.underlying30, trivial⟩
theorem Jb : Zw Try.prog 52 := ⟨_, Try.underlying52, trivial⟩
theorem ZF : Zw Try.prog 125 := ⟨_, Try.underlying125, trivial⟩
theorem Yd : Aggr Try.prog 26 3 := Zy (by trivial) Try.underlying26 (by kernel_rfl)
theorem YK : Aggr Try.prog 41 2 := Zy (by trivial) Try.underlying41 (by kernel_rfl)
theorem Qgu : Aggr Try.prog 62 2 := Zy (by trivial) Try.underlying62 (by kernel_rfl)
theorem Jj : Aggr Try.prog 73 4 := Zy (by trivial) Try.underlying73 (by kernel_rfl)
theorem QAt : Aggr Try.prog 76 2 := Zy (by trivial) Try.underlying76 (by kernel_rfl)
theorem Qgv : Aggr Try.prog 78 6 := Zy (by trivial) Try.underlying78 (by kernel_rfl)
theorem Qpv : Aggr Try.prog 94 2 := Zy (by trivial) Try.underlying94 (by kernel_rfl)
theorem Qkz : Aggr Try.prog 107 2 := Zy (by trivial) Try.underlying107 (by kernel_rfl)
theorem Qea : Aggr Try.prog 111 3 := Zy (by trivial) Try.underlying111 (by kernel_rfl)
theorem ZJ : Aggr Try.prog 127 4 := Zy (by trivial) Try.underlying127 (by kernel_rfl)
theorem Qpu : Aggr Try.prog 145 3 := Zy (by trivial) Try.underlying145 (by kernel_rfl)
theorem Zc : Aggr Try.prog 149 3 := Zy (by trivial) Try.underlying149 (by kernel_rfl)
theorem Y7 : Aggr Try.prog 154 3 := Zy (by trivial) Try.underlying154 (by kernel_rfl)
theorem YT : Aggr Try.prog 158 5 := Zy (by trivial) Try.underlying158 (by kernel_rfl)
theorem Qgt : Aggr Try.prog 185 2 := Zy (by trivial) Try.underlying185 (by kernel_rfl)
theorem Yz : EInfo Try.prog 3 1 8 (.int .i64 0) := JQ (by kernel_rfl) rfl (by decide)
theorem ei9 : EInfo Try.prog 9 1 16 (.string ByteArray.empty) := JQ (by kernel_rfl) rfl (by decide)
theorem Jq : EInfo Try.prog 30 1 8 (.int .i64 0) := JQ (by kernel_rfl) rfl (by decide)
theorem Qaf : EInfo Try.prog 62 2 24 (.agg (List.toArray [(.string ByteArray.empty), (.int .i64 0)])) := JQ (by kernel_rfl) rfl (by decide)
theorem YH : EInfo Try.prog 73 4 32 (.agg (List.toArray [(.int .i64 0), (.int .i64 0), (.int .i64 0), (.int .i64 0)])) := JQ (by kernel_rfl) rfl (by decide)
theorem Qlv : EInfo Try.prog 107 2 16 (.agg (List.toArray [(.int .i64 0), (.int .i64 0)])) := JQ (by kernel_rfl) rfl (by decide)
theorem Qlw : EInfo Try.prog 127 4 56 (.agg (List.toArray [(.string ByteArray.empty), (.int .i64 0), (.int .i64 0), (.slice none 0 0)])) := JQ (by kernel_rfl) rfl (by decide)
theorem Zi : EInfo Try.prog 145 3 32 (.agg (List.toArray [(.string ByteArray.empty), (.int .i64 0), (.bool false)])) := JQ (by kernel_rfl) rfl (by decide)
theorem Y3 : EInfo Try.prog 158 5 64 (.agg (List.toArray [(.string ByteArray.empty), (.int .i64 0), (.int .i64 0), (.slice none 0 0), (.int .i64 0)])) := JQ (by kernel_rfl) rfl (by decide)
theorem Qhq : EInfo Try.prog 185 2 16 (.agg (List.toArray [(.int .i64 0), (.int .i64 0)])) := JQ (by kernel_rfl) rfl (by decide)
theorem Zk : BI Try.prog 26 [(0, 1), (1, 1), (2, 1)] [(.slice none 0 0), (.slice none 0 0), (.slice none 0 0)] := ZA Try.underlying26 (by kernel_rfl) (by kernel_rfl)
theorem Qad : BI Try.prog 41 [(0, 1), (1, 1)] [(.int .i64 0), (.int .i64 0)] := ZA Try.underlying41 (by kernel_rfl) (by kernel_rfl)
theorem Qci : BI Try.prog 62 [(0, 1), (1, 1)] [(.string ByteArray.empty), (.int .i64 0)] := ZA Try.underlying62 (by kernel_rfl) (by kernel_rfl)
theorem Qqk : BI Try.prog 73 [(0, 1), (1, 1), (2, 1), (3, 1)] [(.int .i64 0), (.int .i64 0), (.int .i64 0), (.int .i64 0)] := ZA Try.underlying73 (by kernel_rfl) (by kernel_rfl)
theorem QBl : BI Try.prog 76 [(0, 1), (1, 1)] [(.int .i64 0), (.int .i64 0)] := ZA Try.underlying76 (by kernel_rfl) (by kernel_rfl)
theorem Qql : BI Try.prog 78 [(0, 1), (1, 1), (2, 1), (3, 1), (4, 1), (5, 1)] [(.int .i64 0), (.int .i64 0), (.int .i64 0), (.int .i64 0), (.int .i64 0), (.int .i64 0)] := ZA Try.underlying78 (by kernel_rfl) (by kernel_rfl)
theorem QBm : BI Try.prog 94 [(0, 1), (1, 1)] [(.slice none 0 0), (.slice none 0 0)] := ZA Try.underlying94 (by kernel_rfl) (by kernel_rfl)
theorem Qqh : BI Try.prog 107 [(0, 1), (1, 1)] [(.int .i64 0), (.int .i64 0)] := ZA Try.underlying107 (by kernel_rfl) (by kernel_rfl)
theorem Qee : BI Try.prog 111 [(0, 1), (1, 1), (2, 1)] [(.int .i64 0), (.int .i64 0), (.int .i64 0)] := ZA Try.underlying111 (by kernel_rfl) (by kernel_rfl)
theorem Qqi : BI Try.prog 127 [(0, 1), (1, 1), (2, 1), (3, 1)] [(.string ByteArray.empty), (.int .i64 0), (.int .i64 0), (.slice none 0 0)] := ZA Try.underlying127 (by kernel_rfl) (by kernel_rfl)
theorem Qqj : BI Try.prog 145 [(0, 1), (1, 1), (2, 1)] [(.string ByteArray.empty), (.int .i64 0), (.bool false)] := ZA Try.underlying145 (by kernel_rfl) (by kernel_rfl)
theorem QBj : BI Try.prog 149 [(0, 3)] [(.slice none 0 0), (.slice none 0 0), (.slice none 0 0)] := ZA Try.underlying149 (by kernel_rfl) (by kernel_rfl)
theorem QBk : BI Try.prog 154 [(0, 1), (1, 1), (2, 1)] [(.slice none 0 0), (.int .i64 0), (.bool false)] := ZA Try.underlying154 (by kernel_rfl) (by kernel_rfl)
theorem Qlj : BI Try.prog 158 [(0, 4), (4, 1)] [(.string ByteArray.empty), (.int .i64 0), (.int .i64 0), (.slice none 0 0), (.int .i64 0)] := ZA Try.underlying158 (by kernel_rfl) (by kernel_rfl)
theorem Qha : BI Try.prog 185 [(0, 1), (1, 1)] [(.int .i64 0), (.int .i64 0)] := ZA Try.underlying185 (by kernel_rfl) (by kernel_rfl)
theorem Z1 : ZI Try.prog 26 [(.slice none 0 0), (.slice none 0 0), (.slice none 0 0)] := Zu (by kernel_rfl)
theorem Qcg : ZI Try.prog 41 [(.int .i64 0), (.int .i64 0)] := Zu (by kernel_rfl)
theorem QSa : ZI Try.prog 62 [(.string ByteArray.empty), (.int .i64 0)] := Zu (by kernel_rfl)
theorem Qkr : ZI Try.prog 73 [(.int .i64 0), (.int .i64 0), (.int .i64 0), (.int .i64 0)] := Zu (by kernel_rfl)
theorem Qpp : ZI Try.prog 78 [(.int .i64 0), (.int .i64 0), (.int .i64 0), (.int .i64 0), (.int .i64 0), (.int .i64 0)] := Zu (by kernel_rfl)
theorem QRy : ZI Try.prog 107 [(.int .i64 0), (.int .i64 0)] := Zu (by kernel_rfl)
theorem Qce : ZI Try.prog 111 [(.int .i64 0), (.int .i64 0), (.int .i64 0)] := Zu (by kernel_rfl)
theorem Qdy : ZI Try.prog 127 [(.string ByteArray.empty), (.int .i64 0), (.int .i64 0), (.slice none 0 0)] := Zu (by kernel_rfl)
theorem QAk : ZI Try.prog 145 [(.string ByteArray.empty), (.int .i64 0), (.bool false)] := Zu (by kernel_rfl)
theorem Qcf : ZI Try.prog 149 [(.slice none 0 0), (.slice none 0 0), (.slice none 0 0)] := Zu (by kernel_rfl)
theorem Qax : ZI Try.prog 154 [(.slice none 0 0), (.int .i64 0), (.bool false)] := Zu (by kernel_rfl)
theorem Qay : ZI Try.prog 158 [(.string ByteArray.empty), (.int .i64 0), (.int .i64 0), (.slice none 0 0), (.int .i64 0)] := Zu (by kernel_rfl)
theorem Qkq : ZI Try.prog 185 [(.int .i64 0), (.int .i64 0)] := Zu (by kernel_rfl)
theorem QKc : (Try.f19.name == numgo) = false := by kernel_rfl
theorem QKd : (Try.f20.name == numgo) = false := by kernel_rfl
theorem QKe : (Try.f22.name == numgo) = false := by kernel_rfl
theorem Qwb : (Try.f23.name == numgo) = false := by kernel_rfl
theorem QKf : (Try.f24.name == numgo) = false := by kernel_rfl
theorem QKg : (Try.f27.name == numgo) = false := by kernel_rfl
theorem QKh : (Try.f29.name == numgo) = false := by kernel_rfl
theorem QKi : (Try.f30.name == numgo) = false := by kernel_rfl
theorem Qwc : (Try.f32.name == numgo) = false := by kernel_rfl
theorem QKj : (Try.f33.name == numgo) = false := by kernel_rfl
theorem QKk : (Try.f34.name == numgo) = false := by kernel_rfl
theorem Qob : (Try.f35.name == numgo) = false := by kernel_rfl
theorem QKl : (Try.f36.name == numgo) = false := by kernel_rfl
theorem QKm : (Try.f37.name == numgo) = false := by kernel_rfl
theorem QKn : (Try.f38.name == numgo) = false := by kernel_rfl
theorem Qoc : (Try.f39.name == numgo) = false := by kernel_rfl
theorem QKo : (Try.f41.name == numgo) = false := by kernel_rfl
theorem QKp : (Try.f44.name == numgo) = false := by kernel_rfl
theorem QKq : (Try.f45.name == numgo) = false := by kernel_rfl
theorem JW : (Try.f46.name == numgo) = false := by kernel_rfl
theorem QKr : (Try.f48.name == numgo) = false := by kernel_rfl
theorem QKs : (Try.f54.name == numgo) = false := by kernel_rfl
theorem QKt : (Try.f60.name == numgo) = false := by kernel_rfl
theorem Qod : (Try.f65.name == numgo) = false := by kernel_rfl
theorem Qil : (Try.f83.name == numgo) = false := by kernel_rfl
theorem Qoe : (Try.f84.name == numgo) = false := by kernel_rfl
theorem Qwd : (Try.f85.name == numgo) = false := by kernel_rfl
theorem QKu : (Try.f86.name == numgo) = false := by kernel_rfl
theorem Qdg : (Try.f87.name == numgo) = false := by kernel_rfl
theorem Qfj : (Try.f89.name == numgo) = false := by kernel_rfl
theorem Qim : (Try.f91.name == numgo) = false := by kernel_rfl
theorem Jv : (Try.f92.name == numgo) = false := by kernel_rfl
theorem YC : (Try.f93.name == numgo) = false := by kernel_rfl
theorem Qwe : (Try.f94.name == numgo) = false := by kernel_rfl
theorem JX : (Try.f95.name == numgo) = false := by kernel_rfl
theorem QKv : (Try.f96.name == numgo) = false := by kernel_rfl
theorem QKw : (Try.f97.name == numgo) = false := by kernel_rfl
theorem QKx : (Try.f98.name == numgo) = false := by kernel_rfl
theorem Qwf : (Try.f99.name == numgo) = false := by kernel_rfl
theorem QJb : (Try.f100.name == numgo) = false := by kernel_rfl
theorem QJc : (Try.f101.name == numgo) = false := by kernel_rfl
theorem Qny : (Try.f102.name == numgo) = false := by kernel_rfl
theorem QJd : (Try.f103.name == numgo) = false := by kernel_rfl
theorem QJe : (Try.f104.name == numgo) = false := by kernel_rfl
theorem Qvk : (Try.f105.name == numgo) = false := by kernel_rfl
theorem Qnz : (Try.f107.name == numgo) = false := by kernel_rfl
theorem Qvl : (Try.f108.name == numgo) = false := by kernel_rfl
theorem Qvm : (Try.f109.name == numgo) = false := by kernel_rfl
theorem QJf : (Try.f110.name == numgo) = false := by kernel_rfl
theorem QJg : (Try.f111.name == numgo) = false := by kernel_rfl
theorem QJh : (Try.f112.name == numgo) = false := by kernel_rfl
theorem QJi : (Try.f113.name == numgo) = false := by kernel_rfl
theorem QJj : (Try.f114.name == numgo) = false := by kernel_rfl
theorem QJk : (Try.f115.name == numgo) = false := by kernel_rfl
theorem Qvn : (Try.f116.name == numgo) = false := by kernel_rfl
theorem Qvo : (Try.f117.name == numgo) = false := by kernel_rfl
theorem Qvp : (Try.f118.name == numgo) = false := by kernel_rfl
theorem QJl : (Try.f123.name == numgo) = false := by kernel_rfl
theorem QJm : (Try.f124.name == numgo) = false := by kernel_rfl
theorem QJn : (Try.f125.name == numgo) = false := by kernel_rfl
theorem Qvq : (Try.f126.name == numgo) = false := by kernel_rfl
theorem Qvr : (Try.f132.name == numgo) = false := by kernel_rfl
theorem Qvs : (Try.f133.name == numgo) = false := by kernel_rfl
theorem QJo : (Try.f138.name == numgo) = false := by kernel_rfl
theorem QJp : (Try.f139.name == numgo) = false := by kernel_rfl
theorem Qvt : (Try.f140.name == numgo) = false := by kernel_rfl
theorem Qik : (Try.f141.name == numgo) = false := by kernel_rfl
theorem Qvu : (Try.f142.name == numgo) = false := by kernel_rfl
theorem QJq : (Try.f143.name == numgo) = false := by kernel_rfl
theorem QJr : (Try.f144.name == numgo) = false := by kernel_rfl
theorem Qvv : (Try.f145.name == numgo) = false := by kernel_rfl
theorem Qoa : (Try.f146.name == numgo) = false := by kernel_rfl
theorem QJs : (Try.f147.name == numgo) = false := by kernel_rfl
theorem QJt : (Try.f148.name == numgo) = false := by kernel_rfl
theorem QJu : (Try.f149.name == numgo) = false := by kernel_rfl
theorem Qvw : (Try.f150.name == numgo) = false := by kernel_rfl
theorem QJv : (Try.f151.name == numgo) = false := by kernel_rfl
theorem QJw : (Try.f152.name == numgo) = false := by kernel_rfl
theorem Qvx : (Try.f154.name == numgo) = false := by kernel_rfl
theorem QJx : (Try.f155.name == numgo) = false := by kernel_rfl
theorem QJy : (Try.f156.name == numgo) = false := by kernel_rfl
theorem Qvy : (Try.f163.name == numgo) = false := by kernel_rfl
theorem Qvz : (Try.f164.name == numgo) = false := by kernel_rfl
theorem QJz : (Try.f165.name == numgo) = false := by kernel_rfl
theorem QKa : (Try.f166.name == numgo) = false := by kernel_rfl
theorem QKb : (Try.f167.name == numgo) = false := by kernel_rfl
theorem Qwa : (Try.f168.name == numgo) = false := by kernel_rfl
theorem QCp : Try.prog.eqGuardType Try.prog.depth 62 = false := by kernel_rfl
theorem QCu (a b : FeedDeparture) : EqS Try.prog 62 (List.toArray [(.string a.Train), (.int .i64 a.At)]) (List.toArray [(.string b.Train), (.int .i64 b.At)]) (decide (a = b)) := by
  refine ⟨fun c hc => by
    simp at hc
    repeat' (rcases hc with rfl | hc)
    all_goals simp_all [flat], fun w => ?_⟩
  have u3 := Try.underlying3
  have a3 := Try.isAgg3
  have z3 := Try.sizeOf3
  have u9 := Try.underlying9
  have a9 := Try.isAgg9
  have z9 := Try.sizeOf9
  have hS : Try.prog.underlying 62 = some (.struct (Try.prog.fieldsOf 62)) := by kernel_rfl
  have hp : Try.prog.stoodInHeld 62 = false := by kernel_rfl
  rw [run_equalIn_agg w 9999 62 _ _ hS hp]
  simp only [Program.fieldsOf, Try.underlying62]
  go_simp
  cases a; cases b; simp only [FeedDeparture.mk.injEq]
  repeat' split
  all_goals simp_all [Qll]
theorem QCq : Try.prog.eqGuardType Try.prog.depth 78 = false := by kernel_rfl
theorem QCv (a b : FeedBook) : EqS Try.prog 78 (List.toArray [(.int .i64 a.Fed), (.int .i64 a.Used), (.int .i64 a.Braked), (.int .i64 a.Lost), (.int .i64 a.Back), (.int .i64 a.Burned)]) (List.toArray [(.int .i64 b.Fed), (.int .i64 b.Used), (.int .i64 b.Braked), (.int .i64 b.Lost), (.int .i64 b.Back), (.int .i64 b.Burned)]) (decide (a = b)) := by
  refine ⟨fun c hc => by
    simp at hc
    repeat' (rcases hc with rfl | hc)
    all_goals simp_all [flat], fun w => ?_⟩
  have u3 := Try.underlying3
  have a3 := Try.isAgg3
  have z3 := Try.sizeOf3
  have hS : Try.prog.underlying 78 = some (.struct (Try.prog.fieldsOf 78)) := by kernel_rfl
  have hp : Try.prog.stoodInHeld 78 = false := by kernel_rfl
  rw [run_equalIn_agg w 9999 78 _ _ hS hp]
  simp only [Program.fieldsOf, Try.underlying78]
  go_simp
  cases a; cases b; simp only [FeedBook.mk.injEq]
  repeat' split
  all_goals simp_all [Qll]
theorem QCo : Try.prog.eqGuardType Try.prog.depth 107 = false := by kernel_rfl
theorem QCt (a b : Frac) : EqS Try.prog 107 (List.toArray [(.int .i64 a.Num), (.int .i64 a.Den)]) (List.toArray [(.int .i64 b.Num), (.int .i64 b.Den)]) (decide (a = b)) := by
  refine ⟨fun c hc => by
    simp at hc
    repeat' (rcases hc with rfl | hc)
    all_goals simp_all [flat], fun w => ?_⟩
  have u3 := Try.underlying3
  have a3 := Try.isAgg3
  have z3 := Try.sizeOf3
  have hS : Try.prog.underlying 107 = some (.struct (Try.prog.fieldsOf 107)) := by kernel_rfl
  have hp : Try.prog.stoodInHeld 107 = false := by kernel_rfl
  rw [run_equalIn_agg w 9999 107 _ _ hS hp]
  simp only [Program.fieldsOf, Try.underlying107]
  go_simp
  cases a; cases b; simp only [Frac.mk.injEq]
  repeat' split
  all_goals simp_all [Qll]
theorem XL : Try.prog.follows .mixedOrders = true := by kernel_rfl
end Go.Gw
