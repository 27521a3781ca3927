/- Facts of the types of the program. No condition. -/
import Derived.Test.YthonianbjkhnpaaGreatDoorGwSt
import Derived.Test.YthonianbjkhnpaaGreatDoorGwLib5
import Derived.Laws.StructEq
import Derived.Test.YthonianbjkhnpaaGreatDoorProg
set_option linter.unusedVariables false
set_option linter.unusedSimpArgs false
set_option linter.unusedSectionVars false
set_option maxRecDepth 100000
namespace Go.Gw
open Go Go.Proofs
abbrev numgo : String := "runtime.NumGoroutine"
theorem QG:Xn Tryz.prog 3 1:=Yv (by kernel_rfl)
theorem sz5:Xn Tryz.prog 5 1:=Yv (by kernel_rfl)
theorem YW:Xn Tryz.prog 9 1:=Yv (by kernel_rfl)
theorem X5:Xn Tryz.prog 22 1:=Yv (by kernel_rfl)
theorem YV:Xn Tryz.prog 23 1:=Yv (by kernel_rfl)
theorem Y0:Xn Tryz.prog 24 1:=Yv (by kernel_rfl)
theorem Zh:Xn Tryz.prog 26 4:=Yv (by kernel_rfl)
theorem QSu:Xn Tryz.prog 30 1:=Yv (by kernel_rfl)
theorem Xi:Xn Tryz.prog 36 1:=Yv (by kernel_rfl)
theorem YF:Xn Tryz.prog 37 1:=Yv (by kernel_rfl)
theorem XG:Xn Tryz.prog 39 3:=Yv (by kernel_rfl)
theorem Qcv:Xn Tryz.prog 40 2:=Yv (by kernel_rfl)
theorem Qgi:Xn Tryz.prog 52 3:=Yv (by kernel_rfl)
theorem Zi:Xn Tryz.prog 62 2:=Yv (by kernel_rfl)
theorem Qnm:Xn Tryz.prog 73 5:=Yv (by kernel_rfl)
theorem Z6:Xn Tryz.prog 78 2:=Yv (by kernel_rfl)
theorem Zu:Xn Tryz.prog 80 3:=Yv (by kernel_rfl)
theorem YG:Xn Tryz.prog 82 2:=Yv (by kernel_rfl)
theorem QBl:Xn Tryz.prog 88 1:=Yv (by kernel_rfl)
theorem Qiy:Xn Tryz.prog 92 1:=Yv (by kernel_rfl)
theorem Qbv:Xn Tryz.prog 93 1:=Yv (by kernel_rfl)
theorem QSs:Xn Tryz.prog 105 1:=Yv (by kernel_rfl)
theorem QSt:Xn Tryz.prog 138 1:=Yv (by kernel_rfl)
theorem QBj:Xn Tryz.prog 150 1:=Yv (by kernel_rfl)
theorem QBk:Xn Tryz.prog 153 4:=Yv (by kernel_rfl)
theorem Qix:Xn Tryz.prog 175 1:=Yv (by kernel_rfl)
theorem QU:Y1 Tryz.prog 3:=⟨_,Tryz.underlying3,trivial⟩
theorem sc5:Y1 Tryz.prog 5:=⟨_,Tryz.underlying5,trivial⟩
theorem Zc:Y1 Tryz.prog 9:=⟨_,Tryz.underlying9,trivial⟩
theorem X4:Y1 Tryz.prog 22:=⟨_,Tryz.underlying22,trivial⟩
theorem YU:Y1 Tryz.prog 23:=⟨_,Tryz.underlying23,trivial⟩
theorem Za:Y1 Tryz.prog 24:=⟨_,Tryz.underlying24,trivial⟩
theorem QRa:Y1 Tryz.prog 30:=⟨_,Tryz.underlying30,trivial⟩
theorem Xr:Y1 Tryz.prog 36:=⟨_,Tryz.underlying36,trivial⟩
theorem Zo:Y1 Tryz.prog 37:=⟨_,Tryz.underlying37,trivial⟩
theorem Qim:Y1 Tryz.prog 88:=⟨_,Tryz.underlying88,trivial⟩
theorem Qin:Y1 Tryz.prog 92:=⟨_,Tryz.underlying92,trivial⟩
theorem Qio:Y1 Tryz.prog 93:=⟨_,Tryz.underlying93,trivial⟩
theorem QQy:Y1 Tryz.prog 105:=⟨_,Tryz.underlying105,trivial⟩
theorem QQz:Y1 Tryz.prog 138:=⟨_,Tryz.underlying138,trivial⟩
theorem Qil:Y1 Tryz.prog 150:=⟨_,Tryz.underlying150,trivial⟩
theorem Qnd:Y1 Tryz.prog 175:=⟨_,Tryz.underlying175,trivial⟩
theorem Yh:Aggr Tryz.prog 26 4:=Qbb (by trivial) Tryz.underlying26 (by kernel_rfl)
theorem XE:Aggr Tryz.prog 39 3:=Qbb (by trivial) Tryz.underlying39 (by kernel_rfl)
theorem Qjp:Aggr Tryz.prog 40 2:=Qbb (by trivial) Tryz.underlying40 (by kernel_rfl)
theorem Qbj:Aggr Tryz.prog 52 3:=Qbb (by trivial) Tryz.underlying52 (by kernel_rfl)
theorem Qdm:Aggr Tryz.prog 62 2:=Qbb (by trivial) Tryz.underlying62 (by kernel_rfl)
theorem Qgv:Aggr Tryz.prog 73 5:=Qbb (by trivial) Tryz.underlying73 (by kernel_rfl)
theorem Qeo:Aggr Tryz.prog 78 2:=Qbb (by trivial) Tryz.underlying78 (by kernel_rfl)
theorem Qba:Aggr Tryz.prog 80 3:=Qbb (by trivial) Tryz.underlying80 (by kernel_rfl)
theorem YD:Aggr Tryz.prog 82 2:=Qbb (by trivial) Tryz.underlying82 (by kernel_rfl)
theorem QDg:Aggr Tryz.prog 153 4:=Qbb (by trivial) Tryz.underlying153 (by kernel_rfl)
theorem YY:EInfo Tryz.prog 3 1 8 (.int .i64 0):=JA (by kernel_rfl) rfl (by decide)
theorem ei5:EInfo Tryz.prog 5 1 1 (.int .u8 0):=JA (by kernel_rfl) rfl (by decide)
theorem Z3:EInfo Tryz.prog 9 1 16 (.string ByteArray.empty):=JA (by kernel_rfl) rfl (by decide)
theorem Jz:EInfo Tryz.prog 30 1 8 (.int .i64 0):=JA (by kernel_rfl) rfl (by decide)
theorem QFr:EInfo Tryz.prog 36 1 24 (.slice none 0 0):=JA (by kernel_rfl) rfl (by decide)
theorem Qpq:EInfo Tryz.prog 39 3 56 (.agg (List.toArray [(.slice none 0 0),(.slice none 0 0),(.int .i64 0)])):=JA (by kernel_rfl) rfl (by decide)
theorem Qwb:EInfo Tryz.prog 40 2 16 (.agg (List.toArray [(.int .i64 0),(.int .i64 0)])):=JA (by kernel_rfl) rfl (by decide)
theorem Qpr:EInfo Tryz.prog 52 3 24 (.agg (List.toArray [(.int .i64 0),(.int .i64 0),(.int .i64 0)])):=JA (by kernel_rfl) rfl (by decide)
theorem J9:EInfo Tryz.prog 62 2 32 (.agg (List.toArray [(.slice none 0 0),(.int .i64 0)])):=JA (by kernel_rfl) rfl (by decide)
theorem Y2:EInfo Tryz.prog 78 2 24 (.agg (List.toArray [(.string ByteArray.empty),(.int .i64 0)])):=JA (by kernel_rfl) rfl (by decide)
theorem Qps:EInfo Tryz.prog 80 3 64 (.agg (List.toArray [(.string ByteArray.empty),(.slice none 0 0),(.slice none 0 0)])):=JA (by kernel_rfl) rfl (by decide)
theorem Qpp:EInfo Tryz.prog 105 1 8 (.pointer none):=JA (by kernel_rfl) rfl (by decide)
theorem QFq:EInfo Tryz.prog 150 1 24 (.slice none 0 0):=JA (by kernel_rfl) rfl (by decide)
theorem Qwa:EInfo Tryz.prog 153 4 32 (.agg (List.toArray [(.int .i64 0),(.int .i64 0),(.int .i64 0),(.pointer none)])):=JA (by kernel_rfl) rfl (by decide)
theorem Z1:BI Tryz.prog 26 [(0,1),(1,1),(2,1),(3,1)] [(.slice none 0 0),(.slice none 0 0),(.slice none 0 0),(.slice none 0 0)]:=Qal Tryz.underlying26 (by kernel_rfl) (by kernel_rfl)
theorem J6:BI Tryz.prog 39 [(0,1),(1,1),(2,1)] [(.slice none 0 0),(.slice none 0 0),(.int .i64 0)]:=Qal Tryz.underlying39 (by kernel_rfl) (by kernel_rfl)
theorem Qgz:BI Tryz.prog 52 [(0,1),(1,1),(2,1)] [(.int .i64 0),(.int .i64 0),(.int .i64 0)]:=Qal Tryz.underlying52 (by kernel_rfl) (by kernel_rfl)
theorem Qeu:BI Tryz.prog 62 [(0,1),(1,1)] [(.slice none 0 0),(.int .i64 0)]:=Qal Tryz.underlying62 (by kernel_rfl) (by kernel_rfl)
theorem QDy:BI Tryz.prog 78 [(0,1),(1,1)] [(.string ByteArray.empty),(.int .i64 0)]:=Qal Tryz.underlying78 (by kernel_rfl) (by kernel_rfl)
theorem Qjt:BI Tryz.prog 80 [(0,1),(1,1),(2,1)] [(.string ByteArray.empty),(.slice none 0 0),(.slice none 0 0)]:=Qal Tryz.underlying80 (by kernel_rfl) (by kernel_rfl)
theorem JU:BI Tryz.prog 82 [(0,1),(1,1)] [(.int .i64 0),(.int .i64 0)]:=Qal Tryz.underlying82 (by kernel_rfl) (by kernel_rfl)
theorem Qju:BI Tryz.prog 91 [(0,4),(4,3)] [(.slice none 0 0),(.slice none 0 0),(.slice none 0 0),(.slice none 0 0),(.slice none 0 0),(.slice none 0 0),(.int .i64 0)]:=Qal Tryz.underlying91 (by kernel_rfl) (by kernel_rfl)
theorem QDz:BI Tryz.prog 95 [(0,1),(1,1)] [(.map none),(.slice none 0 0)]:=Qal Tryz.underlying95 (by kernel_rfl) (by kernel_rfl)
theorem Qvi:BI Tryz.prog 107 [(0,1),(1,1),(2,3)] [(.pointer none),(.pointer none),(.int .i64 0),(.int .i64 0),(.int .i64 0)]:=Qal Tryz.underlying107 (by kernel_rfl) (by kernel_rfl)
theorem QDx:BI Tryz.prog 153 [(0,3),(3,1)] [(.int .i64 0),(.int .i64 0),(.int .i64 0),(.pointer none)]:=Qal Tryz.underlying153 (by kernel_rfl) (by kernel_rfl)
theorem JR:ZI Tryz.prog 26 [(.slice none 0 0),(.slice none 0 0),(.slice none 0 0),(.slice none 0 0)]:=Z7 (by kernel_rfl)
theorem ZZ:ZI Tryz.prog 39 [(.slice none 0 0),(.slice none 0 0),(.int .i64 0)]:=Z7 (by kernel_rfl)
theorem QVz:ZI Tryz.prog 40 [(.int .i64 0),(.int .i64 0)]:=Z7 (by kernel_rfl)
theorem Quk:ZI Tryz.prog 52 [(.int .i64 0),(.int .i64 0),(.int .i64 0)]:=Z7 (by kernel_rfl)
theorem Qjk:ZI Tryz.prog 62 [(.slice none 0 0),(.int .i64 0)]:=Z7 (by kernel_rfl)
theorem Qgo:ZI Tryz.prog 73 [(.int .i64 0),(.int .i64 0),(.int .i64 0),(.int .i64 0),(.int .i64 0)]:=Z7 (by kernel_rfl)
theorem Qoh:ZI Tryz.prog 78 [(.string ByteArray.empty),(.int .i64 0)]:=Z7 (by kernel_rfl)
theorem Qdb:ZI Tryz.prog 80 [(.string ByteArray.empty),(.slice none 0 0),(.slice none 0 0)]:=Z7 (by kernel_rfl)
theorem Jj:ZI Tryz.prog 82 [(.int .i64 0),(.int .i64 0)]:=Z7 (by kernel_rfl)
theorem QCn:ZI Tryz.prog 126 [(.pointer none),(.slice none 0 0)]:=Z7 (by kernel_rfl)
theorem QVt:ZI Tryz.prog 138 [(.slice none 0 0)]:=Z7 (by kernel_rfl)
theorem QVu:ZI Tryz.prog 150 [(.slice none 0 0)]:=Z7 (by kernel_rfl)
theorem QVv:ZI Tryz.prog 153 [(.int .i64 0),(.int .i64 0),(.int .i64 0),(.pointer none)]:=Z7 (by kernel_rfl)
theorem QVw:ZI Tryz.prog 180 [.nilFunc,.nilFunc,.nilFunc,.nilFunc]:=Z7 (by kernel_rfl)
theorem nm6:(Tryz.f6.name == numgo)=false:=by kernel_rfl
theorem nm7:(Tryz.f7.name == numgo)=false:=by kernel_rfl
theorem nm8:(Tryz.f8.name == numgo)=false:=by kernel_rfl
theorem nm9:(Tryz.f9.name == numgo)=false:=by kernel_rfl
theorem Qya:(Tryz.f10.name == numgo)=false:=by kernel_rfl
theorem QLp:(Tryz.f11.name == numgo)=false:=by kernel_rfl
theorem QMa:(Tryz.f12.name == numgo)=false:=by kernel_rfl
theorem Qyd:(Tryz.f16.name == numgo)=false:=by kernel_rfl
theorem QMn:(Tryz.f17.name == numgo)=false:=by kernel_rfl
theorem QMq:(Tryz.f18.name == numgo)=false:=by kernel_rfl
theorem Qrx:(Tryz.f27.name == numgo)=false:=by kernel_rfl
theorem Qbs:(Tryz.f28.name == numgo)=false:=by kernel_rfl
theorem QMr:(Tryz.f30.name == numgo)=false:=by kernel_rfl
theorem Qye:(Tryz.f31.name == numgo)=false:=by kernel_rfl
theorem QMs:(Tryz.f32.name == numgo)=false:=by kernel_rfl
theorem QMt:(Tryz.f33.name == numgo)=false:=by kernel_rfl
theorem QMu:(Tryz.f34.name == numgo)=false:=by kernel_rfl
theorem Qry:(Tryz.f35.name == numgo)=false:=by kernel_rfl
theorem QMv:(Tryz.f36.name == numgo)=false:=by kernel_rfl
theorem Qrz:(Tryz.f37.name == numgo)=false:=by kernel_rfl
theorem QMw:(Tryz.f38.name == numgo)=false:=by kernel_rfl
theorem Qyf:(Tryz.f39.name == numgo)=false:=by kernel_rfl
theorem QMx:(Tryz.f40.name == numgo)=false:=by kernel_rfl
theorem Jf:(Tryz.f41.name == numgo)=false:=by kernel_rfl
theorem Qaq:(Tryz.f42.name == numgo)=false:=by kernel_rfl
theorem QMy:(Tryz.f43.name == numgo)=false:=by kernel_rfl
theorem Qyg:(Tryz.f44.name == numgo)=false:=by kernel_rfl
theorem QMz:(Tryz.f45.name == numgo)=false:=by kernel_rfl
theorem JE:(Tryz.f47.name == numgo)=false:=by kernel_rfl
theorem QNa:(Tryz.f48.name == numgo)=false:=by kernel_rfl
theorem QNb:(Tryz.f49.name == numgo)=false:=by kernel_rfl
theorem Qhv:(Tryz.f50.name == numgo)=false:=by kernel_rfl
theorem QNc:(Tryz.f52.name == numgo)=false:=by kernel_rfl
theorem Qyh:(Tryz.f53.name == numgo)=false:=by kernel_rfl
theorem QNd:(Tryz.f56.name == numgo)=false:=by kernel_rfl
theorem Qyi:(Tryz.f57.name == numgo)=false:=by kernel_rfl
theorem QNe:(Tryz.f58.name == numgo)=false:=by kernel_rfl
theorem Qlr:(Tryz.f59.name == numgo)=false:=by kernel_rfl
theorem QNf:(Tryz.f60.name == numgo)=false:=by kernel_rfl
theorem Yu:(Tryz.f61.name == numgo)=false:=by kernel_rfl
theorem Qyj:(Tryz.f62.name == numgo)=false:=by kernel_rfl
theorem QNg:(Tryz.f63.name == numgo)=false:=by kernel_rfl
theorem QNh:(Tryz.f64.name == numgo)=false:=by kernel_rfl
theorem QNi:(Tryz.f65.name == numgo)=false:=by kernel_rfl
theorem QNj:(Tryz.f66.name == numgo)=false:=by kernel_rfl
theorem Qyk:(Tryz.f67.name == numgo)=false:=by kernel_rfl
theorem Qsa:(Tryz.f68.name == numgo)=false:=by kernel_rfl
theorem QNk:(Tryz.f69.name == numgo)=false:=by kernel_rfl
theorem Qdw:(Tryz.f70.name == numgo)=false:=by kernel_rfl
theorem Qfp:(Tryz.f71.name == numgo)=false:=by kernel_rfl
theorem Qsb:(Tryz.f72.name == numgo)=false:=by kernel_rfl
theorem Qyl:(Tryz.f73.name == numgo)=false:=by kernel_rfl
theorem Qym:(Tryz.f74.name == numgo)=false:=by kernel_rfl
theorem QNl:(Tryz.f75.name == numgo)=false:=by kernel_rfl
theorem QNm:(Tryz.f76.name == numgo)=false:=by kernel_rfl
theorem QNn:(Tryz.f77.name == numgo)=false:=by kernel_rfl
theorem Qsc:(Tryz.f83.name == numgo)=false:=by kernel_rfl
theorem QNo:(Tryz.f84.name == numgo)=false:=by kernel_rfl
theorem QNp:(Tryz.f85.name == numgo)=false:=by kernel_rfl
theorem Qyn:(Tryz.f87.name == numgo)=false:=by kernel_rfl
theorem Qcp:(Tryz.f89.name == numgo)=false:=by kernel_rfl
theorem QNq:(Tryz.f90.name == numgo)=false:=by kernel_rfl
theorem Qsd:(Tryz.f91.name == numgo)=false:=by kernel_rfl
theorem Qls:(Tryz.f92.name == numgo)=false:=by kernel_rfl
theorem Qfq:(Tryz.f93.name == numgo)=false:=by kernel_rfl
theorem QNr:(Tryz.f94.name == numgo)=false:=by kernel_rfl
theorem QNs:(Tryz.f95.name == numgo)=false:=by kernel_rfl
theorem QNt:(Tryz.f96.name == numgo)=false:=by kernel_rfl
theorem QNu:(Tryz.f97.name == numgo)=false:=by kernel_rfl
theorem QNv:(Tryz.f98.name == numgo)=false:=by kernel_rfl
theorem Qyo:(Tryz.f99.name == numgo)=false:=by kernel_rfl
theorem QLi:(Tryz.f100.name == numgo)=false:=by kernel_rfl
theorem QLj:(Tryz.f101.name == numgo)=false:=by kernel_rfl
theorem QLk:(Tryz.f102.name == numgo)=false:=by kernel_rfl
theorem QLl:(Tryz.f104.name == numgo)=false:=by kernel_rfl
theorem QLm:(Tryz.f105.name == numgo)=false:=by kernel_rfl
theorem Qrv:(Tryz.f106.name == numgo)=false:=by kernel_rfl
theorem QLn:(Tryz.f107.name == numgo)=false:=by kernel_rfl
theorem QLo:(Tryz.f108.name == numgo)=false:=by kernel_rfl
theorem Qyb:(Tryz.f109.name == numgo)=false:=by kernel_rfl
theorem QLq:(Tryz.f110.name == numgo)=false:=by kernel_rfl
theorem QLr:(Tryz.f111.name == numgo)=false:=by kernel_rfl
theorem QLs:(Tryz.f112.name == numgo)=false:=by kernel_rfl
theorem QLt:(Tryz.f113.name == numgo)=false:=by kernel_rfl
theorem QLu:(Tryz.f114.name == numgo)=false:=by kernel_rfl
theorem QLv:(Tryz.f115.name == numgo)=false:=by kernel_rfl
theorem QLw:(Tryz.f116.name == numgo)=false:=by kernel_rfl
theorem QLx:(Tryz.f117.name == numgo)=false:=by kernel_rfl
theorem QLy:(Tryz.f118.name == numgo)=false:=by kernel_rfl
theorem QLz:(Tryz.f119.name == numgo)=false:=by kernel_rfl
theorem QMb:(Tryz.f120.name == numgo)=false:=by kernel_rfl
theorem QMc:(Tryz.f121.name == numgo)=false:=by kernel_rfl
theorem QMd:(Tryz.f135.name == numgo)=false:=by kernel_rfl
theorem QMe:(Tryz.f141.name == numgo)=false:=by kernel_rfl
theorem QMf:(Tryz.f143.name == numgo)=false:=by kernel_rfl
theorem QMg:(Tryz.f144.name == numgo)=false:=by kernel_rfl
theorem QMh:(Tryz.f145.name == numgo)=false:=by kernel_rfl
theorem QMi:(Tryz.f154.name == numgo)=false:=by kernel_rfl
theorem Qyc:(Tryz.f155.name == numgo)=false:=by kernel_rfl
theorem QMj:(Tryz.f157.name == numgo)=false:=by kernel_rfl
theorem Qrw:(Tryz.f159.name == numgo)=false:=by kernel_rfl
theorem QMk:(Tryz.f160.name == numgo)=false:=by kernel_rfl
theorem QMl:(Tryz.f161.name == numgo)=false:=by kernel_rfl
theorem QMm:(Tryz.f166.name == numgo)=false:=by kernel_rfl
theorem QMo:(Tryz.f173.name == numgo)=false:=by kernel_rfl
theorem QMp:(Tryz.f178.name == numgo)=false:=by kernel_rfl
theorem QFp:Tryz.prog.eqGuardType Tryz.prog.depth 73=false:=by kernel_rfl
theorem QFu (a b:Nx):EqS Tryz.prog 73 (List.toArray [(.int .i64 a.e0),(.int .i64 a.e1),(.int .i64 a.e2),(.int .i64 a.e3),(.int .i64 a.e4)]) (List.toArray [(.int .i64 b.e0),(.int .i64 b.e1),(.int .i64 b.e2),(.int .i64 b.e3),(.int .i64 b.e4)]) (decide (a=b)):=by
  refine ⟨by intro c hc;simp at hc;(repeat' (rcases hc with rfl | hc));all_goals (first | rfl | (subst hc;rfl) | simp_all [Qfd]),fun w=>?_⟩
  have u3:=Tryz.underlying3
  have a3:=Tryz.isAgg3
  have z3:=Tryz.sizeOf3
  rw [Op.equalIn]
  simp only [Sem.run_bind,run_underlying Tryz.underlying73,Result.andThen_ok]
  simp only [Std.Legacy.Range.forIn_eq_forIn_range',Std.Legacy.Range.size,Nat.sub_zero,Nat.add_sub_cancel,Nat.div_one,List.range'_succ,List.range'_zero,List.forIn_cons,List.forIn_nil]
  go_simp
  cases a;cases b;simp only [Nx.mk.injEq]
  repeat' split
  all_goals simp_all
theorem XI:Tryz.prog.follows .mixedOrders=true:=by kernel_rfl
end Go.Gw
