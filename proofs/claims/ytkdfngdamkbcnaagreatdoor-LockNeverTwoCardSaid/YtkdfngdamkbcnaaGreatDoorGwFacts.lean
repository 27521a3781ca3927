/- Facts of the types of the program. No condition. -/
import Derived.Test.YtkdfngdamkbcnaaGreatDoorGwSt
import Derived.Test.YtkdfngdamkbcnaaGreatDoorGwLib5
import Derived.Laws.StructEq
import Derived.Test.YtkdfngdamkbcnaaGreatDoorProg
set_option linter.unusedVariables false
set_option linter.unusedSimpArgs false
set_option linter.unusedSectionVars false
set_option maxRecDepth 100000
namespace Go.Gw
open Go Go.Proofs
abbrev numgo : String := "runtime.NumGoroutine"
theorem QX:Xr Tryz.prog 3 1:=Yr (by kernel_rfl)
theorem sz5:Xr Tryz.prog 5 1:=Yr (by kernel_rfl)
theorem YT:Xr Tryz.prog 9 1:=Yr (by kernel_rfl)
theorem Yn:Xr Tryz.prog 22 1:=Yr (by kernel_rfl)
theorem Y4:Xr Tryz.prog 23 1:=Yr (by kernel_rfl)
theorem Y5:Xr Tryz.prog 24 1:=Yr (by kernel_rfl)
theorem YY:Xr Tryz.prog 26 4:=Yr (by kernel_rfl)
theorem XB:Xr Tryz.prog 27 1:=Yr (by kernel_rfl)
theorem Y6:Xr Tryz.prog 28 1:=Yr (by kernel_rfl)
theorem X7:Xr Tryz.prog 30 3:=Yr (by kernel_rfl)
theorem Xh:Xr Tryz.prog 32 3:=Yr (by kernel_rfl)
theorem Qob:Xr Tryz.prog 34 5:=Yr (by kernel_rfl)
theorem QUd:Xr Tryz.prog 38 1:=Yr (by kernel_rfl)
theorem ZT:Xr Tryz.prog 61 2:=Yr (by kernel_rfl)
theorem Xd:Xr Tryz.prog 67 2:=Yr (by kernel_rfl)
theorem YG:Xr Tryz.prog 71 2:=Yr (by kernel_rfl)
theorem Jh:Xr Tryz.prog 97 2:=Yr (by kernel_rfl)
theorem Zp:Xr Tryz.prog 99 3:=Yr (by kernel_rfl)
theorem QBz:Xr Tryz.prog 100 1:=Yr (by kernel_rfl)
theorem Qjp:Xr Tryz.prog 119 1:=Yr (by kernel_rfl)
theorem Qjq:Xr Tryz.prog 132 1:=Yr (by kernel_rfl)
theorem Qck:Xr Tryz.prog 133 1:=Yr (by kernel_rfl)
theorem QUb:Xr Tryz.prog 164 1:=Yr (by kernel_rfl)
theorem QUc:Xr Tryz.prog 167 1:=Yr (by kernel_rfl)
theorem QCa:Xr Tryz.prog 179 1:=Yr (by kernel_rfl)
theorem QCb:Xr Tryz.prog 182 4:=Yr (by kernel_rfl)
theorem Qoa:Xr Tryz.prog 221 1:=Yr (by kernel_rfl)
theorem QM:YS Tryz.prog 3:=⟨_,Tryz.underlying3,trivial⟩
theorem sc5:YS Tryz.prog 5:=⟨_,Tryz.underlying5,trivial⟩
theorem Zk:YS Tryz.prog 9:=⟨_,Tryz.underlying9,trivial⟩
theorem Ym:YS Tryz.prog 22:=⟨_,Tryz.underlying22,trivial⟩
theorem Y3:YS Tryz.prog 23:=⟨_,Tryz.underlying23,trivial⟩
theorem Zj:YS Tryz.prog 24:=⟨_,Tryz.underlying24,trivial⟩
theorem XE:YS Tryz.prog 27:=⟨_,Tryz.underlying27,trivial⟩
theorem ZR:YS Tryz.prog 28:=⟨_,Tryz.underlying28,trivial⟩
theorem QSe:YS Tryz.prog 38:=⟨_,Tryz.underlying38,trivial⟩
theorem Qiy:YS Tryz.prog 100:=⟨_,Tryz.underlying100,trivial⟩
theorem Qnk:YS Tryz.prog 119:=⟨_,Tryz.underlying119,trivial⟩
theorem Qiz:YS Tryz.prog 132:=⟨_,Tryz.underlying132,trivial⟩
theorem Qja:YS Tryz.prog 133:=⟨_,Tryz.underlying133,trivial⟩
theorem QSc:YS Tryz.prog 164:=⟨_,Tryz.underlying164,trivial⟩
theorem QSd:YS Tryz.prog 167:=⟨_,Tryz.underlying167,trivial⟩
theorem Qjb:YS Tryz.prog 179:=⟨_,Tryz.underlying179,trivial⟩
theorem Qeq:YS Tryz.prog 221:=⟨_,Tryz.underlying221,trivial⟩
theorem Yd:Aggr Tryz.prog 26 4:=Qaz (by trivial) Tryz.underlying26 (by kernel_rfl)
theorem Zr:Aggr Tryz.prog 30 3:=Qaz (by trivial) Tryz.underlying30 (by kernel_rfl)
theorem J2:Aggr Tryz.prog 32 3:=Qaz (by trivial) Tryz.underlying32 (by kernel_rfl)
theorem Qhd:Aggr Tryz.prog 34 5:=Qaz (by trivial) Tryz.underlying34 (by kernel_rfl)
theorem Qff:Aggr Tryz.prog 61 2:=Qaz (by trivial) Tryz.underlying61 (by kernel_rfl)
theorem XN:Aggr Tryz.prog 67 2:=Qaz (by trivial) Tryz.underlying67 (by kernel_rfl)
theorem YE:Aggr Tryz.prog 71 2:=Qaz (by trivial) Tryz.underlying71 (by kernel_rfl)
theorem Qfg:Aggr Tryz.prog 97 2:=Qaz (by trivial) Tryz.underlying97 (by kernel_rfl)
theorem Qah:Aggr Tryz.prog 99 3:=Qaz (by trivial) Tryz.underlying99 (by kernel_rfl)
theorem QEd:Aggr Tryz.prog 182 4:=Qaz (by trivial) Tryz.underlying182 (by kernel_rfl)
theorem YV:EInfo Tryz.prog 3 1 8 (.int .i64 0):=J4 (by kernel_rfl) rfl (by decide)
theorem Jx:EInfo Tryz.prog 9 1 16 (.string ByteArray.empty):=J4 (by kernel_rfl) rfl (by decide)
theorem QGt:EInfo Tryz.prog 27 1 24 (.slice none 0 0):=J4 (by kernel_rfl) rfl (by decide)
theorem Qqc:EInfo Tryz.prog 32 3 24 (.agg (List.toArray [(.int .i64 0),(.int .i64 0),(.int .i64 0)])):=J4 (by kernel_rfl) rfl (by decide)
theorem Z8:EInfo Tryz.prog 38 1 8 (.int .i64 0):=J4 (by kernel_rfl) rfl (by decide)
theorem Qda:EInfo Tryz.prog 61 2 32 (.agg (List.toArray [(.slice none 0 0),(.int .i64 0)])):=J4 (by kernel_rfl) rfl (by decide)
theorem Qwp:EInfo Tryz.prog 67 2 16 (.agg (List.toArray [(.int .i64 0),(.int .i64 0)])):=J4 (by kernel_rfl) rfl (by decide)
theorem YW:EInfo Tryz.prog 97 2 24 (.agg (List.toArray [(.string ByteArray.empty),(.int .i64 0)])):=J4 (by kernel_rfl) rfl (by decide)
theorem Qqd:EInfo Tryz.prog 99 3 64 (.agg (List.toArray [(.string ByteArray.empty),(.slice none 0 0),(.slice none 0 0)])):=J4 (by kernel_rfl) rfl (by decide)
theorem Qqb:EInfo Tryz.prog 164 1 8 (.pointer none):=J4 (by kernel_rfl) rfl (by decide)
theorem QGs:EInfo Tryz.prog 179 1 24 (.slice none 0 0):=J4 (by kernel_rfl) rfl (by decide)
theorem Qwo:EInfo Tryz.prog 182 4 32 (.agg (List.toArray [(.int .i64 0),(.int .i64 0),(.int .i64 0),(.pointer none)])):=J4 (by kernel_rfl) rfl (by decide)
theorem ZX:BI Tryz.prog 26 [(0,1),(1,1),(2,1),(3,1)] [(.slice none 0 0),(.slice none 0 0),(.slice none 0 0),(.slice none 0 0)]:=Qai Tryz.underlying26 (by kernel_rfl) (by kernel_rfl)
theorem Qbu:BI Tryz.prog 30 [(0,1),(1,1),(2,1)] [(.slice none 0 0),(.slice none 0 0),(.int .i64 0)]:=Qai Tryz.underlying30 (by kernel_rfl) (by kernel_rfl)
theorem XY:BI Tryz.prog 32 [(0,1),(1,1),(2,1)] [(.int .i64 0),(.int .i64 0),(.int .i64 0)]:=Qai Tryz.underlying32 (by kernel_rfl) (by kernel_rfl)
theorem Qpr:BI Tryz.prog 61 [(0,1),(1,1)] [(.slice none 0 0),(.int .i64 0)]:=Qai Tryz.underlying61 (by kernel_rfl) (by kernel_rfl)
theorem JP:BI Tryz.prog 71 [(0,1),(1,1)] [(.int .i64 0),(.int .i64 0)]:=Qai Tryz.underlying71 (by kernel_rfl) (by kernel_rfl)
theorem QEv:BI Tryz.prog 97 [(0,1),(1,1)] [(.string ByteArray.empty),(.int .i64 0)]:=Qai Tryz.underlying97 (by kernel_rfl) (by kernel_rfl)
theorem Qkh:BI Tryz.prog 99 [(0,1),(1,1),(2,1)] [(.string ByteArray.empty),(.slice none 0 0),(.slice none 0 0)]:=Qai Tryz.underlying99 (by kernel_rfl) (by kernel_rfl)
theorem Qhg:BI Tryz.prog 108 [(0,4),(4,3)] [(.slice none 0 0),(.slice none 0 0),(.slice none 0 0),(.slice none 0 0),(.slice none 0 0),(.slice none 0 0),(.int .i64 0)]:=Qai Tryz.underlying108 (by kernel_rfl) (by kernel_rfl)
theorem QEt:BI Tryz.prog 135 [(0,1),(1,1)] [(.map none),(.slice none 0 0)]:=Qai Tryz.underlying135 (by kernel_rfl) (by kernel_rfl)
theorem Qvw:BI Tryz.prog 166 [(0,1),(1,1),(2,3)] [(.pointer none),(.pointer none),(.int .i64 0),(.int .i64 0),(.int .i64 0)]:=Qai Tryz.underlying166 (by kernel_rfl) (by kernel_rfl)
theorem QEu:BI Tryz.prog 182 [(0,3),(3,1)] [(.int .i64 0),(.int .i64 0),(.int .i64 0),(.pointer none)]:=Qai Tryz.underlying182 (by kernel_rfl) (by kernel_rfl)
theorem zi3:ZI Tryz.prog 3 [(.int .i64 0)]:=ZL (by kernel_rfl)
theorem JL:ZI Tryz.prog 26 [(.slice none 0 0),(.slice none 0 0),(.slice none 0 0),(.slice none 0 0)]:=ZL (by kernel_rfl)
theorem ZV:ZI Tryz.prog 30 [(.slice none 0 0),(.slice none 0 0),(.int .i64 0)]:=ZL (by kernel_rfl)
theorem Yt:ZI Tryz.prog 32 [(.int .i64 0),(.int .i64 0),(.int .i64 0)]:=ZL (by kernel_rfl)
theorem Qgx:ZI Tryz.prog 34 [(.int .i64 0),(.int .i64 0),(.int .i64 0),(.int .i64 0),(.int .i64 0)]:=ZL (by kernel_rfl)
theorem Qjy:ZI Tryz.prog 61 [(.slice none 0 0),(.int .i64 0)]:=ZL (by kernel_rfl)
theorem QDk:ZI Tryz.prog 67 [(.int .i64 0),(.int .i64 0)]:=ZL (by kernel_rfl)
theorem Jk:ZI Tryz.prog 71 [(.int .i64 0),(.int .i64 0)]:=ZL (by kernel_rfl)
theorem Qox:ZI Tryz.prog 97 [(.string ByteArray.empty),(.int .i64 0)]:=ZL (by kernel_rfl)
theorem Qdq:ZI Tryz.prog 99 [(.string ByteArray.empty),(.slice none 0 0),(.slice none 0 0)]:=ZL (by kernel_rfl)
theorem QXc:ZI Tryz.prog 126 [.nilFunc,.nilFunc,.nilFunc,.nilFunc]:=ZL (by kernel_rfl)
theorem QDj:ZI Tryz.prog 139 [(.pointer none),(.slice none 0 0)]:=ZL (by kernel_rfl)
theorem QXd:ZI Tryz.prog 167 [(.slice none 0 0)]:=ZL (by kernel_rfl)
theorem QXe:ZI Tryz.prog 179 [(.slice none 0 0)]:=ZL (by kernel_rfl)
theorem QXf:ZI Tryz.prog 182 [(.int .i64 0),(.int .i64 0),(.int .i64 0),(.pointer none)]:=ZL (by kernel_rfl)
theorem QXh:ZI Tryz.prog 221 [(.int .u64 0)]:=ZL (by kernel_rfl)
theorem nm6:(Tryz.f6.name == numgo)=false:=by kernel_rfl
theorem nm7:(Tryz.f7.name == numgo)=false:=by kernel_rfl
theorem QMo:(Tryz.f11.name == numgo)=false:=by kernel_rfl
theorem Qfz:(Tryz.f14.name == numgo)=false:=by kernel_rfl
theorem Qsc:(Tryz.f15.name == numgo)=false:=by kernel_rfl
theorem QNo:(Tryz.f17.name == numgo)=false:=by kernel_rfl
theorem Qyt:(Tryz.f18.name == numgo)=false:=by kernel_rfl
theorem QNp:(Tryz.f19.name == numgo)=false:=by kernel_rfl
theorem Qsd:(Tryz.f20.name == numgo)=false:=by kernel_rfl
theorem Qyu:(Tryz.f21.name == numgo)=false:=by kernel_rfl
theorem Qyv:(Tryz.f22.name == numgo)=false:=by kernel_rfl
theorem Qei:(Tryz.f23.name == numgo)=false:=by kernel_rfl
theorem QNq:(Tryz.f24.name == numgo)=false:=by kernel_rfl
theorem QNr:(Tryz.f26.name == numgo)=false:=by kernel_rfl
theorem QNs:(Tryz.f28.name == numgo)=false:=by kernel_rfl
theorem Qyw:(Tryz.f31.name == numgo)=false:=by kernel_rfl
theorem QNt:(Tryz.f32.name == numgo)=false:=by kernel_rfl
theorem QNu:(Tryz.f33.name == numgo)=false:=by kernel_rfl
theorem Qse:(Tryz.f34.name == numgo)=false:=by kernel_rfl
theorem Jc:(Tryz.f35.name == numgo)=false:=by kernel_rfl
theorem Yg:(Tryz.f36.name == numgo)=false:=by kernel_rfl
theorem Qyx:(Tryz.f37.name == numgo)=false:=by kernel_rfl
theorem Qmc:(Tryz.f38.name == numgo)=false:=by kernel_rfl
theorem QNv:(Tryz.f39.name == numgo)=false:=by kernel_rfl
theorem QNw:(Tryz.f43.name == numgo)=false:=by kernel_rfl
theorem Je:(Tryz.f44.name == numgo)=false:=by kernel_rfl
theorem Qim:(Tryz.f45.name == numgo)=false:=by kernel_rfl
theorem Qmd:(Tryz.f46.name == numgo)=false:=by kernel_rfl
theorem Qyy:(Tryz.f47.name == numgo)=false:=by kernel_rfl
theorem Qyz:(Tryz.f48.name == numgo)=false:=by kernel_rfl
theorem Qsf:(Tryz.f49.name == numgo)=false:=by kernel_rfl
theorem Qza:(Tryz.f50.name == numgo)=false:=by kernel_rfl
theorem Qcf:(Tryz.f51.name == numgo)=false:=by kernel_rfl
theorem QNx:(Tryz.f52.name == numgo)=false:=by kernel_rfl
theorem Qsg:(Tryz.f53.name == numgo)=false:=by kernel_rfl
theorem QNy:(Tryz.f54.name == numgo)=false:=by kernel_rfl
theorem Qej:(Tryz.f55.name == numgo)=false:=by kernel_rfl
theorem QNz:(Tryz.f56.name == numgo)=false:=by kernel_rfl
theorem Jf:(Tryz.f57.name == numgo)=false:=by kernel_rfl
theorem QOa:(Tryz.f58.name == numgo)=false:=by kernel_rfl
theorem QOb:(Tryz.f59.name == numgo)=false:=by kernel_rfl
theorem Qzb:(Tryz.f60.name == numgo)=false:=by kernel_rfl
theorem QOc:(Tryz.f61.name == numgo)=false:=by kernel_rfl
theorem QOd:(Tryz.f62.name == numgo)=false:=by kernel_rfl
theorem QOe:(Tryz.f63.name == numgo)=false:=by kernel_rfl
theorem QOf:(Tryz.f64.name == numgo)=false:=by kernel_rfl
theorem QOg:(Tryz.f65.name == numgo)=false:=by kernel_rfl
theorem QOh:(Tryz.f66.name == numgo)=false:=by kernel_rfl
theorem QOi:(Tryz.f67.name == numgo)=false:=by kernel_rfl
theorem QOj:(Tryz.f68.name == numgo)=false:=by kernel_rfl
theorem QOk:(Tryz.f69.name == numgo)=false:=by kernel_rfl
theorem QOl:(Tryz.f70.name == numgo)=false:=by kernel_rfl
theorem QOm:(Tryz.f71.name == numgo)=false:=by kernel_rfl
theorem QOn:(Tryz.f72.name == numgo)=false:=by kernel_rfl
theorem Qzc:(Tryz.f73.name == numgo)=false:=by kernel_rfl
theorem Qzd:(Tryz.f74.name == numgo)=false:=by kernel_rfl
theorem QOo:(Tryz.f75.name == numgo)=false:=by kernel_rfl
theorem QOp:(Tryz.f76.name == numgo)=false:=by kernel_rfl
theorem QOq:(Tryz.f78.name == numgo)=false:=by kernel_rfl
theorem QOr:(Tryz.f79.name == numgo)=false:=by kernel_rfl
theorem Qek:(Tryz.f80.name == numgo)=false:=by kernel_rfl
theorem Qga:(Tryz.f81.name == numgo)=false:=by kernel_rfl
theorem Qsh:(Tryz.f82.name == numgo)=false:=by kernel_rfl
theorem Qze:(Tryz.f83.name == numgo)=false:=by kernel_rfl
theorem Qcg:(Tryz.f84.name == numgo)=false:=by kernel_rfl
theorem QOs:(Tryz.f88.name == numgo)=false:=by kernel_rfl
theorem Qsi:(Tryz.f89.name == numgo)=false:=by kernel_rfl
theorem QOt:(Tryz.f90.name == numgo)=false:=by kernel_rfl
theorem QOu:(Tryz.f91.name == numgo)=false:=by kernel_rfl
theorem Qme:(Tryz.f92.name == numgo)=false:=by kernel_rfl
theorem Qmf:(Tryz.f93.name == numgo)=false:=by kernel_rfl
theorem Qgb:(Tryz.f94.name == numgo)=false:=by kernel_rfl
theorem Qzf:(Tryz.f95.name == numgo)=false:=by kernel_rfl
theorem QOv:(Tryz.f96.name == numgo)=false:=by kernel_rfl
theorem Qsj:(Tryz.f97.name == numgo)=false:=by kernel_rfl
theorem Qzg:(Tryz.f98.name == numgo)=false:=by kernel_rfl
theorem Qsk:(Tryz.f99.name == numgo)=false:=by kernel_rfl
theorem Qyq:(Tryz.f100.name == numgo)=false:=by kernel_rfl
theorem QMk:(Tryz.f101.name == numgo)=false:=by kernel_rfl
theorem Qsa:(Tryz.f102.name == numgo)=false:=by kernel_rfl
theorem QMl:(Tryz.f103.name == numgo)=false:=by kernel_rfl
theorem QMm:(Tryz.f104.name == numgo)=false:=by kernel_rfl
theorem Qsb:(Tryz.f105.name == numgo)=false:=by kernel_rfl
theorem QMn:(Tryz.f106.name == numgo)=false:=by kernel_rfl
theorem QMp:(Tryz.f113.name == numgo)=false:=by kernel_rfl
theorem QMq:(Tryz.f114.name == numgo)=false:=by kernel_rfl
theorem QMr:(Tryz.f115.name == numgo)=false:=by kernel_rfl
theorem QMs:(Tryz.f116.name == numgo)=false:=by kernel_rfl
theorem QMt:(Tryz.f117.name == numgo)=false:=by kernel_rfl
theorem QMu:(Tryz.f118.name == numgo)=false:=by kernel_rfl
theorem QMv:(Tryz.f119.name == numgo)=false:=by kernel_rfl
theorem QMw:(Tryz.f120.name == numgo)=false:=by kernel_rfl
theorem QMx:(Tryz.f121.name == numgo)=false:=by kernel_rfl
theorem QMy:(Tryz.f122.name == numgo)=false:=by kernel_rfl
theorem QMz:(Tryz.f123.name == numgo)=false:=by kernel_rfl
theorem QNa:(Tryz.f124.name == numgo)=false:=by kernel_rfl
theorem QNb:(Tryz.f125.name == numgo)=false:=by kernel_rfl
theorem QNc:(Tryz.f127.name == numgo)=false:=by kernel_rfl
theorem QNd:(Tryz.f129.name == numgo)=false:=by kernel_rfl
theorem Qyr:(Tryz.f130.name == numgo)=false:=by kernel_rfl
theorem QNe:(Tryz.f131.name == numgo)=false:=by kernel_rfl
theorem QNf:(Tryz.f145.name == numgo)=false:=by kernel_rfl
theorem QNg:(Tryz.f152.name == numgo)=false:=by kernel_rfl
theorem QNh:(Tryz.f154.name == numgo)=false:=by kernel_rfl
theorem QNi:(Tryz.f155.name == numgo)=false:=by kernel_rfl
theorem Qys:(Tryz.f156.name == numgo)=false:=by kernel_rfl
theorem QNj:(Tryz.f157.name == numgo)=false:=by kernel_rfl
theorem QNk:(Tryz.f158.name == numgo)=false:=by kernel_rfl
theorem QNl:(Tryz.f160.name == numgo)=false:=by kernel_rfl
theorem QNm:(Tryz.f165.name == numgo)=false:=by kernel_rfl
theorem QNn:(Tryz.f167.name == numgo)=false:=by kernel_rfl
theorem Qeh:(Tryz.f172.name == numgo)=false:=by kernel_rfl
theorem QGq:Tryz.prog.eqGuardType Tryz.prog.depth 34=false:=by kernel_rfl
theorem QGx (a b:Nx):EqS Tryz.prog 34 (List.toArray [(.int .i64 a.e0),(.int .i64 a.e1),(.int .i64 a.e2),(.int .i64 a.e3),(.int .i64 a.e4)]) (List.toArray [(.int .i64 b.e0),(.int .i64 b.e1),(.int .i64 b.e2),(.int .i64 b.e3),(.int .i64 b.e4)]) (decide (a=b)):=by
  refine ⟨by intro c hc;simp at hc;(repeat' (rcases hc with rfl | hc));all_goals (first | rfl | (subst hc;rfl) | simp_all [Qec]),fun w=>?_⟩
  have u3:=Tryz.underlying3
  have a3:=Tryz.isAgg3
  have z3:=Tryz.sizeOf3
  rw [Op.equalIn]
  simp only [Sem.run_bind,run_underlying Tryz.underlying34,Result.andThen_ok]
  simp only [Std.Legacy.Range.forIn_eq_forIn_range',Std.Legacy.Range.size,Nat.sub_zero,Nat.add_sub_cancel,Nat.div_one,List.range'_succ,List.range'_zero,List.forIn_cons,List.forIn_nil]
  go_simp
  cases a;cases b;simp only [Nx.mk.injEq]
  repeat' split
  all_goals simp_all
theorem QGr:Tryz.prog.eqGuardType Tryz.prog.depth 67=false:=by kernel_rfl
theorem QGy (a b:Nd):EqS Tryz.prog 67 (List.toArray [(.int .i64 a.e0),(.int .i64 a.e1)]) (List.toArray [(.int .i64 b.e0),(.int .i64 b.e1)]) (decide (a=b)):=by
  refine ⟨by intro c hc;simp at hc;(try rcases hc with rfl | hc)<;>simp_all [Qec],fun w=>?_⟩
  have u3:=Tryz.underlying3
  have a3:=Tryz.isAgg3
  have z3:=Tryz.sizeOf3
  rw [Op.equalIn]
  simp only [Sem.run_bind,run_underlying Tryz.underlying67,Result.andThen_ok]
  simp only [Std.Legacy.Range.forIn_eq_forIn_range',Std.Legacy.Range.size,Nat.sub_zero,Nat.add_sub_cancel,Nat.div_one,List.range'_succ,List.range'_zero,List.forIn_cons,List.forIn_nil]
  go_simp
  cases a;cases b;simp only [Nd.mk.injEq]
  repeat' split
  all_goals simp_all
theorem Xq:Tryz.prog.follows .mixedOrders=true:=by kernel_rfl
end Go.Gw
